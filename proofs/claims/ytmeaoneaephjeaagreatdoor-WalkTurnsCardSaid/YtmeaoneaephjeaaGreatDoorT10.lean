/-
  A part of the proof: lemmas and contracts that the parts behind it use. Each one's conditions are its own premises.
-/
import Derived.Test.YtmeaoneaephjeaaGreatDoorT9
set_option maxRecDepth 100000
set_option maxHeartbeats 8000000
set_option linter.unusedVariables false
set_option linter.unusedSimpArgs false
namespace Go.Proofs.YtmeaoneaephjeaaGreatDoor
open Go.RowKit Go Go.Shelf
attribute [local go_sem] Oper.semAt_some
def Bi(R:Nat->Bool) (e j:Nat) (x:Int):Prop:=(x=e/\∀ f,j<=f->f<e->R f=false)\/∃ m,j<=m/\m<e/\x=m/\R m=true/\∀ f,j<=f->f<m->R f=false
theorem Vr{R:Nat->Bool} {e j:Nat} (hj:j<e) (h:R j=true):Bi R e j j:=.inr ⟨j,Nat.le_refl _,hj,rfl,h,fun f h1 h2=>by omega⟩
theorem V7{R:Nat->Bool} {e j:Nat} {x:Int} (h:R j=false) (hk:Bi R e (j+1) x):Bi R e j x:=by
 rcases hk with ⟨h1,h2⟩|⟨m,h1,h2,h3,h4,h5⟩
 ·refine .inl ⟨h1,fun f g1 g2=>?_⟩;by_cases e1:f=j
  ·subst e1;exact h
  ·exact h2 f (by omega) g2
 ·refine .inr ⟨m,by omega,h2,h3,h4,fun f g1 g2=>?_⟩;by_cases e1:f=j
  ·subst e1;exact h
  ·exact h5 f (by omega) g2
theorem Vs{R:Nat->Nat->Bool} {e:Nat} {x:Int} (h:Bi (R e) e 0 x):x=rA R e:=by
 unfold rA;rcases h with ⟨h1,h2⟩|⟨m,_,h2,h3,h4,h5⟩
 ·rw[dH _ _ (fun f hf=>h2 f (by omega) hf),if_pos (by omega)];exact h1
 ·rw[dB _ _ _ h2 (fun f hf=>h5 f (by omega) hf) h4,if_neg (by omega)];exact h3
theorem PC{R:Nat->Nat->Bool} (e:Nat):0<=rA R e/\rA R e<=e:=by
 rcases vT R e with ⟨h,_⟩|⟨k,hk,h,_⟩
 ·rw[h];omega
 ·rw[h];omega
theorem MQ(s:Sys) (hs:SysOk s) (p:Nat) (hp:p<nS s) (vc vs vt ve:Value) (w:World) (dy:IsSys w s vc vs vt ve) :
  Calls Tryz.prog 91 #[.agg (cj s.prob vc vs s.n vt ve),.int .i64 p] w fun r w'=>∃ u,r=.returned u/\aX w' u (classL s p)/\Below w.heap.size w w':=by
 have HS:=aa dy;obtain⟨⟨pc,cc,rfl⟩,⟨ps,cs,rfl⟩,⟨pt,ct,rfl⟩,⟨pe,ce,rfl⟩⟩:=bM dy;clear dy;have ig:=aa (fun e f (he:e<eS s) (hf:f<eS s) W (hb:Below w.heap.size w W)=>MM s hs p e f hp he hf _ _ _ _ W (HS.o.up hb));have lG:=hs.count;obtain⟨i0,cY,cC,bY,cD⟩:=info_parts Tryz.infoInt;have bZ:=aa (And.intro cY (And.intro cC (And.intro bY cD)));obtain⟨R,hR⟩:∃ R:Nat->Nat->Bool,R=fun e f=>linkB s p e f:=⟨_,rfl⟩
 have HR:am (∀ e f,linkB s p e f=R e f):=aa fun e f=>by rw[hR]
 obtain⟨L,hL⟩:∃ L:Nat->List Int,L=fun k=>(List.range k).map (rA R):=⟨_,rfl⟩
 have kY:am (L 0=[]/\(∀ k,L (k+1)=L k++[rA R k])/\(∀ k,(L k).length=k)/\∀ k,k<=4096->∀ x∈L k,bT x):=aa (by
  subst hL;refine⟨rfl,fun k=>by simp[List.range_succ],fun k=>by simp,fun k hk x hx=>?_⟩;obtain⟨j,hj,rfl⟩:=List.mem_map.1 hx;have h1:=PC (R:=R) j;have h2:=List.mem_range.1 hj
  exact⟨by omega,by omega⟩)
 have iU:am (lh (L (eS s))=classL s p):=aa (by
  subst hL;subst hR;rw[Hc];unfold classL
  exact nJ fun i hi k hk=>UR (R:=fun e f=>linkB s p e f) (fun a b=>nP s p a b) (fun a b c h1 h2=>ux h1 h2) i k hk)
 obtain⟨m,hm⟩:∃ m,eS s=m:=⟨_,rfl⟩;have J0:s.ex.length=m:=hm;rw[hm]at ig lG iU;rw[J0]at ig ⊢;generalize classL s p=cl0 at iU ⊢;clear hR hL hm J0 cY cC bY cD
 go_enter Tryz.func91,Tryz.ntmps91
 go_wp2_with fail
 refine bF (fun W=>Below w.heap.size w W/\∃ c,W.heap[w.heap.size]?=some (.cells c 35)/\c=cj s.prob (.slice pc s.prob.t.cases.length cc) (.slice ps s.prob.a.states.length cs) s.n (.slice pt s.tab.length ct) (.slice pe m ce)) ⟨by go_grown,_,aq _ _,rfl⟩ (fun W0 bh=>?_);obtain⟨aJ,_,hA,rfl⟩:=bh;have fE:=aa aJ;have HA:=aa hA;clear aJ hA
 go_loopw [5,6] (fun o i wr=>∃ k:Nat,k<=m/\i=.int .i64 k/\Below W0.heap.size W0 wr/\aI wr W0.heap.size 3 1 o k ((L k).map (Value.int .i64))) (fun _ i _=>m - (intOf i).toNat)
 ·exact⟨0,by omega,rfl,Below.refl _ _,by rw[kY.o.1];exact aI.nil _ _ _ _⟩
 ·
  obtain⟨e,he,rfl,aB,bg⟩:=hrel;obtain⟨al,cl2,rfl⟩:=bg.slice;have bO:=aa bg;have aU:=aa aB;have AF:=aB.size;have tS:=ab (af aB HA.o);clear bg aB;obtain⟨wrA,lV⟩:∃ x,x=wr:=⟨_,rfl⟩;subst lV;by_cases aD:e<m
  ·go_wp2_with fail
   clear tS
   go_loopw [7,8] (fun x j wr=>∃ k:Nat,k<=e/\j=.int .i64 ((k:Int) - 1)/\Below wrA.heap.size wrA wr/\∃ y:Int,x=.int .i64 y/\Bi (R e) e k y) (fun _ j _=>((intOf j)+1).toNat)
   ·exact⟨e,Nat.le_refl _,rfl,Below.refl _ _,_,rfl,.inl ⟨rfl,fun f h1 h2=>by omega⟩⟩
   ·
    obtain⟨k,hk,rfl,ni,y,rfl,mV⟩:=hrel;have Ev:=aa mV;have fg:=aa ni;have bV:=aa (ae aU.o ni);have tS:=ab (af bV.o HA.o);clear mV ni;by_cases eZ:0<k
    ·obtain⟨j,rfl⟩:∃ j,k=j+1:=⟨k - 1,by omega⟩;have Qr:(((j+1:Nat):Int) - 1)=(j:Int):=by omega
     rw[Qr];have FL:decide ((0:Int)<=(j:Int))=true:=decide_eq_true (by omega);have uj:=aa (ig.o e j aD (by omega) wr (ae fE.o bV.o));clear Qr eZ
     go_wp2_with fail
     clear tS;refine uj.o.mono ?_;rintro r w2 ⟨rfl,aY⟩;rw[HR.o];have cV:=aa (ae fg.o aY);clear aY;cases hb:R e j with
     | true=>
      have HN:am (Bi (R e) e j j):=aa (Vr (by omega) hb);clear hb
      go_wp2_with fail
      go_roundw
      ·exact⟨j,by omega,by go_num,cV.o,_,rfl,HN.o⟩
      ·simp[intOf]
     | false=>
      have HN:am (Bi (R e) e j y):=aa (V7 hb Ev.o);clear hb
      go_wp2_with fail
      go_roundw
      ·exact⟨j,by omega,by go_num,cV.o,_,rfl,HN.o⟩
      ·simp[intOf]
    ·obtain rfl:k=0:=by omega
     have HY:=aa (Vs Ev.o);have Qr:(((0:Nat):Int) - 1)=-1:=by omega
     rw[Qr];have dm:=aa ((bO.o.up fg.o).up ((Below.refl _ wr).alloc (Nat.le_refl _) (.cells #[.int .i64 y] 3)));have bE:=aa (dR wr [.int .i64 y] 3);have lw:am (e+1<=maxLen):=aa (by unfold maxLen;omega);have eV:am ((e+1) * 8<=140737488355328):=aa (by omega);have gm:am (W0.heap.size<=(wr.alloc (.cells #[.int .i64 y] 3)).heap.size):=aa (by have:=bV.o.size;simp;omega);clear Qr tS
     go_wp2_with (at_builtin;(refine aZ _ rfl (.tmp 29) (.tmp 31) 38 rfl W0.heap.size 3 i0 _ 1 8 Tryz.underlying38 bZ.o.1 bZ.o.2.1 bZ.o.2.2.1 bZ.o.2.2.2 rfl (by decide) _ e _ rfl dm.o ⟨wr.heap.size,0,none⟩ 1 1 [.int .i64 y] rfl rfl bE.o (by simp[Value.oneCell']) lw.o eV.o gm.o ?_;intro v6 w6 fr eJ _))
     go_roundw
     ·
      refine⟨e+1,by omega,by go_num,eI bV.o (Nat.le_refl _) dm.o eJ,?_⟩;rw[kY.o.2.1,<-HY.o,List.map_append];exact fr
     ·simp[intOf];omega
  ·obtain rfl:e=m:=by omega
   have Jt:=kY.o.2.2.1 e;have HI:am (aX wrA (.slice al e cl2) (L e)):=aa (gE (l:=L e) (base:=W0.heap.size) (by rw[Jt];exact bO.o) (kY.o.2.2.2 e lG) (by omega));have F9:=aa (Al _ (L e) (by omega) wrA HI.o);clear Jt
   go_wp2_with fail
   refine F9.o.mono ?_;rintro r w2 ⟨u,rfl,hu,aY⟩;obtain⟨au,cu,rfl,_⟩:=hu.at;have HU:=aa hu;have cV:=aa (ae fE.o (ae aU.o aY));clear hu aY tS
   go_wp2_with fail
   go_ret
   exact⟨_,rfl,by rw[<-iU.o];exact HU.o,cV.o⟩
def js(a b:List Int) (n:Nat) (O0:List Int) (i k:Nat) (O:List Int) (ch:Bool):Prop:=Glu a b n O/\((ch=true/\uq O<uq O0)\/(ch=false/\O=O0/\(∀ i',i'<i->∀ k',k'<i'->dJ a b i' k'=true->O.getD i' 0=O.getD k' 0)/\∀ k',k'<k->dJ a b i k'=true->O.getD i 0=O.getD k' 0))
theorem js.row{a b:List Int} {n:Nat} {O0 O:List Int} {i:Nat} {ch:Bool} (h:js a b n O0 i i O ch):js a b n O0 (i+1) 0 O ch:=by
 refine⟨h.1,?_⟩;rcases h.2 with h2|⟨h2,h3,h4,h5⟩
 ·exact .inl h2
 ·refine .inr ⟨h2,h3,fun i' oU=>?_,fun k' qY=>by omega⟩;by_cases e:i'=i
  ·subst e;exact h5
  ·exact h4 i' (by omega)
theorem js.same{a b:List Int} {n:Nat} {O0 O:List Int} {i k:Nat} {ch:Bool} (h:js a b n O0 i k O ch) (hq:dJ a b i k=true->O.getD i 0=O.getD k 0):js a b n O0 i (k+1) O ch:=by
 refine⟨h.1,?_⟩;rcases h.2 with h2|⟨h2,h3,h4,h5⟩
 ·exact .inl h2
 ·exact .inr ⟨h2,h3,h4,aW h5 hq⟩
theorem js.put{a b:List Int} {n:Nat} {O0 O:List Int} {i k:Nat} {ch:Bool} (h:js a b n O0 i k O ch) (hi:i<n) (hk:k<i) (hq:dJ a b i k=true) (bP:O.getD i 0≠O.getD k 0):js a b n O0 i (k+1) (lI O i k) true:=by
 refine⟨h.1.step i k hi hk hq,.inl ⟨rfl,?_⟩⟩;have h1:=Oh h.1 i k hi hk bP;rcases h.2 with ⟨_,h2⟩|⟨_,h3,_⟩
 ·omega
 ·rw[<-h3];exact h1
def R0(W:World) (g:Nat):Nat:=match W.heap[g]? with|some (.cells cs _ _)=>(cs.toList.map fun v=>(intOf v).toNat).sum|_=>0
theorem K7{W:World} {g:Nat} {O:List Int} {t:TypeId} {fz:Nat × Nat} (h:W.heap[g]?=some (.cells (bG O) t fz)):R0 W g=uq O:=by
 unfold R0 uq;rw[h];simp only[bG,List.toList_toArray,List.map_map];rfl
def V8(c:Value) (x:Nat):Nat:=match c with|.bool true=>x+1|_=>0
theorem PD(va vb:Value) (a b:List Int) (w:World) (ha:aX w va a) (hb:aX w vb b) (hl:b.length=a.length) (hn:a.length<=256) :
  Calls Tryz.prog 92 #[va,vb] w fun r w'=>∃ u,r=.returned u/\aX w' u (kQ a b)/\Below w.heap.size w w':=by
 obtain⟨pa,ca,rfl,ea⟩:=dY ha;obtain⟨pb,cb,rfl,eb⟩:=dY hb;have EA:=aa ea;have EB:=aa eb;obtain⟨n,fA⟩:∃ n,a.length=n:=⟨_,rfl⟩;rw[hl,fA]at EB;rw[fA]at EA hn;rw[hl,fA];have ng:=aa fA;have gc:=jp (fun k:Nat=>(k:Int)) n hn;have Bt:am (fC n (fun k:Nat=>(k:Int)) n=bG ((List.range n).map fun i:Nat=>(i:Int))):=aa (by rw[qf]);have HGS:=aa (Glu.start a b n);clear ha hb ea eb hl fA
 go_enter Tryz.func92,Tryz.ntmps92
 go_wp2_with fail
 clear gc;refine bF (fun W=>Below w.heap.size w W/\W.heap[w.heap.size]?=some (.cells (fC n (fun k:Nat=>(k:Int)) 0) 3)) ⟨by go_grown,aq _ _⟩ (fun W0 bh=>?_);have iH:=aa bh;clear bh
 go_loopw [6] (fun i wr=>∃ k:Nat,k<=n/\i=.int .i64 k/\Below w.heap.size w wr/\wr.heap[w.heap.size]?=some (.cells (fC n (fun k:Nat=>(k:Int)) k) 3)) (fun i _=>n - (intOf i).toNat)
 ·exact⟨0,by omega,rfl,iH.o.1,iH.o.2⟩
 ·
  clear iH;obtain⟨k,hk,rfl,aB,hO⟩:=hrel;have HO:=aa hO;have aU:=aa aB;by_cases aD:k<n
  ·have tq:=ab hO k;rw[mf _ _ _ _ aD]at tq;have zq:=aG hO k;clear hO aB
   go_wp2_with fail
   go_roundw
   ·exact⟨k+1,by omega,by go_num,aU.o.setCell (by dsimp only;omega) _,by rw[aH HO.o,uN n (fun k:Nat=>(k:Int)) k aD]⟩
   ·simp[intOf];omega
  obtain rfl:k=n:=by omega
  have eO:am (wr.heap[w.heap.size]?=some (.cells (bG ((List.range k).map fun i:Nat=>(i:Int))) 3)):=aa (by rw[hO,Bt.o]);clear hO aB
  go_wp2_with fail
  clear HO;obtain⟨g,hg⟩:∃ g,w.heap.size=g:=⟨_,rfl⟩;have HG:=aa hg;rw[hg]at eO ⊢;obtain⟨w4,xg⟩:∃ x,x=wr:=⟨_,rfl⟩;subst xg;clear hg W0
  go_loopw [7] (fun c wr=>∃ (O:List Int) (ch:Bool),c=.bool ch/\Glu a b k O/\(ch=false->∀ i,i<k->∀ k',k'<i->dJ a b i k'=true->O.getD i 0=O.getD k' 0)/\Below w.heap.size w wr/\wr.heap[g]?=some (.cells (bG O) 3)) (fun c wr=>V8 c (R0 wr g))
  ·exact⟨_,true,rfl,HGS.o,fun h=>(by cases h),aU.o,eO.o⟩
  ·
   clear aU eO;obtain⟨O,ch,rfl,NC,aS,aB,hO⟩:=hrel;have LP:=aa NC;have aU:=aa aB;have HO:=aa hO;cases ch with
   | false=>
    have mT:=aa (aS rfl)
    have HI:am (aX wr (.slice (some ⟨g,0,none⟩) k k) O):=aa (rD LP.o.len hn HO.o fun i hi=>by
     have:=LP.o.le i (by rw[<-LP.o.len];exact hi);have:=LP.o.len
     exact⟨by omega,by omega⟩)
    have F9:=aa (Al _ O (by have:=LP.o.len;omega) wr HI.o);have HJ:am (lh O=kQ a b):=aa (Q7 ng.o LP.o fun i k' hi qY hq=>mT.o i hi k' qY hq);clear NC aS aB hO
    go_wp2_with fail
    refine F9.o.mono ?_;rintro r w2 ⟨u,rfl,hu,aY⟩;obtain⟨au,cu,rfl,_⟩:=hu.at;have HU:=aa hu;have cV:=aa (ae aU.o aY);clear hu aY
    go_wp2_with fail
    go_ret
    exact⟨_,rfl,by rw[<-HJ.o];exact HU.o,cV.o⟩
   | true=>
    have Uw:am (js a b k O 0 0 O false):=aa ⟨NC,.inr ⟨rfl,rfl,fun i' oU=>by omega,fun k' qY=>by omega⟩⟩;clear NC aS aB hO;obtain⟨w5,Lw⟩:∃ x,x=wr:=⟨_,rfl⟩;subst Lw
    go_wp2_with fail
    go_loopw [7,8] (fun c x wr=>∃ (P:List Int) (ch:Bool) (i:Nat),i<=k/\c=.bool ch/\x=.int .i64 i/\js a b k O i 0 P ch/\Below w.heap.size w wr/\wr.heap[g]?=some (.cells (bG P) 3)) (fun _ x _=>k - (intOf x).toNat)
    ·exact⟨O,false,0,by omega,rfl,rfl,Uw.o,aU.o,HO.o⟩
    ·
     clear Uw;obtain⟨P,ch,i,kK,rfl,rfl,hP,aB,hO⟩:=hrel;have HP:=aa hP;have fg:=aa aB;have yM:=aa hO;clear hP aB hO;obtain⟨w6,Qw⟩:∃ x,x=wr:=⟨_,rfl⟩;subst Qw;by_cases aD:i<k
     ·go_wp2_with fail
      go_loopw [7,9] (fun c x wr=>∃ (P:List Int) (ch:Bool) (j:Nat),j<=i/\c=.bool ch/\x=.int .i64 j/\js a b k O i j P ch/\Below w.heap.size w wr/\wr.heap[g]?=some (.cells (bG P) 3)) (fun _ x _=>i - (intOf x).toNat)
      ·exact⟨P,ch,0,by omega,rfl,rfl,HP.o,fg.o,yM.o⟩
      ·
       clear HP fg yM;obtain⟨P,ch,j,ph,rfl,rfl,hP,aB,hO⟩:=hrel;have HP:=aa hP;have fg:=aa aB;have yM:=aa hO;by_cases fJ:j<i
       ·obtain⟨ba,oa,rfl,ai⟩:=EA.o i aD;obtain⟨_,_,e1,aj⟩:=EA.o j (by omega);injection e1 with e1
        injection e1 with e11 e12
        subst e11 e12;obtain⟨bb,ob,rfl,bi⟩:=EB.o i aD;obtain⟨_,_,e1,bj⟩:=EB.o j (by omega);injection e1 with e1
        injection e1 with e11 e12
        subst e11 e12;have Js:am (dJ a b i j=(decide (a.getD i 0=a.getD j 0) || decide (b.getD i 0=b.getD j 0))):=aa rfl;have Gh:=HP.o.1.len;have tp1:=ab hO i;rw[gi _ _ (by omega)]at tp1;have tp2:=ab hO j;rw[gi _ _ (by omega)]at tp2;obtain⟨pi,xn⟩:∃ x,P.getD i 0=x:=⟨_,rfl⟩;obtain⟨pj,xz⟩:∃ x,P.getD j 0=x:=⟨_,rfl⟩;rw[xn]at tp1;rw[xz]at tp2;have ya1:∀ z:ExtW wr,z.val.cell? ⟨ba,oa+i,none⟩=_:=fun z=>ak (ae fg.o z.ext) ai
        have ya2:∀ z:ExtW wr,z.val.cell? ⟨ba,oa+j,none⟩=_:=fun z=>ak (ae fg.o z.ext) aj
        have yb1:∀ z:ExtW wr,z.val.cell? ⟨bb,ob+i,none⟩=_:=fun z=>ak (ae fg.o z.ext) bi
        have yb2:∀ z:ExtW wr,z.val.cell? ⟨bb,ob+j,none⟩=_:=fun z=>ak (ae fg.o z.ext) bj
        have yp1:∀ z:ExtW wr,z.val.cell? ⟨g,i,none⟩=_:=fun z=>ak z.ext tp1
        have yp2:∀ z:ExtW wr,z.val.cell? ⟨g,j,none⟩=_:=fun z=>ak z.ext tp2
        generalize a.getD i 0=xi at ya1 Js;generalize a.getD j 0=xj at ya2 Js;generalize b.getD i 0=yi at yb1 Js;generalize b.getD j 0=yj at yb2 Js;clear hP aB hO ai aj bi bj;by_cases h1:xi=xj
        ·have dA:(xi == xj)=true:=by simp[h1]
         by_cases h3:pi=pj
         ·have xl:(pi != pj)=false:=by simp[h3]
          have mj:am (js a b k O i (j+1) P ch):=aa (HP.o.same (fun _=>by rw[xn,xz];exact h3));clear h1 h3 xn xz
          go_wp2_with fail
          refine aE (by kernel_rfl) (by kernel_rfl) ?_
          repeat (go_big_quiet_step (fail))
          refine wpQuiet_nil ?_;rintro _ ⟨xq,rfl⟩;clear ya1 ya2 yb1 yb2 yp1 yp2
          go_wp2_with fail
          go_roundw
          ·exact⟨P,ch,j+1,by omega,rfl,by go_num,mj.o,ae fg.o xq.ext,af xq.ext yM.o⟩
          ·simp[intOf];omega
         ·have xl:(pi != pj)=true:=by simpa using h3
          have Xx:am (js a b k O i (j+1) (lI P i j) true):=aa (HP.o.put aD fJ (by rw[Js.o];simp[h1]) (by rw[xn,xz];exact h3));have XW:=aa xn;have WK:=aa xz;clear h1 h3 xn xz
          go_wp2_with fail
          refine aE (by kernel_rfl) (by kernel_rfl) ?_
          repeat (go_big_quiet_step (fail))
          refine wpQuiet_nil ?_;rintro _ ⟨xq,rfl⟩;have zp1:∀ z:ExtW xq.val,z.val.cell? ⟨g,i,none⟩=_:=fun z=>ak (ae xq.ext z.ext) tp1
          have zp2:∀ z:ExtW xq.val,z.val.cell? ⟨g,j,none⟩=_:=fun z=>ak (ae xq.ext z.ext) tp2
          clear ya1 ya2 yb1 yb2 yp1 yp2
          go_wp2_with fail
          refine aE (by kernel_rfl) (by kernel_rfl) ?_
          repeat (go_big_quiet_step (fail))
          refine wpQuiet_nil ?_;rintro _ ⟨x2,rfl⟩;have tz:=af (ae xq.ext x2.ext) yM.o;have kU:=ae fg.o (ae xq.ext x2.ext);generalize x2.val=V at tz kU ⊢;have c1:=ab tz i;rw[gi _ _ (by omega)]at c1;have f1:=aG tz i;have yD:=aH tz i (.int .i64 (min pi pj));rw[mg]at yD;have c2:=ab yD j;rw[gi _ _ (by simp;omega)]at c2;have f2:=aG yD j;have yZ:=aa yD;have FV:=aa kU;clear zp1 zp2 tz yD kU tp1 tp2
          go_wp2_with fail
          go_roundw
          ·
           refine⟨lI P i j,true,j+1,by omega,rfl,by go_num,Xx.o,(FV.o.setCell (by dsimp only;rw[HG.o];exact Nat.le_refl _) _).setCell (by dsimp only;rw[HG.o];exact Nat.le_refl _) _,?_⟩;rw[aH yZ.o,mg];unfold lI;rw[XW.o,WK.o]
          ·simp[intOf];omega
        ·have dA:(xi == xj)=false:=beq_eq_false_iff_ne.2 h1;by_cases h2:yi=yj
         ·have dW:(yi == yj)=true:=by simp[h2]
          by_cases h3:pi=pj
          ·have xl:(pi != pj)=false:=by simp[h3]
           have mj:am (js a b k O i (j+1) P ch):=aa (HP.o.same (fun _=>by rw[xn,xz];exact h3));clear h1 h2 h3 xn xz
           go_wp2_with fail
           refine aE (by kernel_rfl) (by kernel_rfl) ?_
           repeat (go_big_quiet_step (fail))
           refine wpQuiet_nil ?_;rintro _ ⟨xq,rfl⟩;clear ya1 ya2 yb1 yb2 yp1 yp2
           go_wp2_with fail
           go_roundw
           ·exact⟨P,ch,j+1,by omega,rfl,by go_num,mj.o,ae fg.o xq.ext,af xq.ext yM.o⟩
           ·simp[intOf];omega
          ·have xl:(pi != pj)=true:=by simpa using h3
           have Xx:am (js a b k O i (j+1) (lI P i j) true):=aa (HP.o.put aD fJ (by rw[Js.o];simp[h2]) (by rw[xn,xz];exact h3));have XW:=aa xn;have WK:=aa xz;clear h1 h2 h3 xn xz
           go_wp2_with fail
           refine aE (by kernel_rfl) (by kernel_rfl) ?_
           repeat (go_big_quiet_step (fail))
           refine wpQuiet_nil ?_;rintro _ ⟨xq,rfl⟩;have zp1:∀ z:ExtW xq.val,z.val.cell? ⟨g,i,none⟩=_:=fun z=>ak (ae xq.ext z.ext) tp1
           have zp2:∀ z:ExtW xq.val,z.val.cell? ⟨g,j,none⟩=_:=fun z=>ak (ae xq.ext z.ext) tp2
           clear ya1 ya2 yb1 yb2 yp1 yp2
           go_wp2_with fail
           refine aE (by kernel_rfl) (by kernel_rfl) ?_
           repeat (go_big_quiet_step (fail))
           refine wpQuiet_nil ?_;rintro _ ⟨x2,rfl⟩;have tz:=af (ae xq.ext x2.ext) yM.o;have kU:=ae fg.o (ae xq.ext x2.ext);generalize x2.val=V at tz kU ⊢;have c1:=ab tz i;rw[gi _ _ (by omega)]at c1;have f1:=aG tz i;have yD:=aH tz i (.int .i64 (min pi pj));rw[mg]at yD;have c2:=ab yD j;rw[gi _ _ (by simp;omega)]at c2;have f2:=aG yD j;have yZ:=aa yD;have FV:=aa kU;clear zp1 zp2 tz yD kU tp1 tp2
           go_wp2_with fail
           go_roundw
           ·
            refine⟨lI P i j,true,j+1,by omega,rfl,by go_num,Xx.o,(FV.o.setCell (by dsimp only;rw[HG.o];exact Nat.le_refl _) _).setCell (by dsimp only;rw[HG.o];exact Nat.le_refl _) _,?_⟩;rw[aH yZ.o,mg];unfold lI;rw[XW.o,WK.o]
           ·simp[intOf];omega
         ·have dW:(yi == yj)=false:=beq_eq_false_iff_ne.2 h2;have oQ:am (¬ dJ a b i j=true):=aa (by rw[Js.o];simp[h1,h2]);have mj:am (js a b k O i (j+1) P ch):=aa (HP.o.same (fun h=>absurd h oQ.o));clear h1 h2 xn xz
          go_wp2_with fail
          refine aE (by kernel_rfl) (by kernel_rfl) ?_
          repeat (go_big_quiet_step (fail))
          refine wpQuiet_nil ?_;rintro _ ⟨xq,rfl⟩;clear ya1 ya2 yb1 yb2 yp1 yp2
          go_wp2_with fail
          go_roundw
          ·exact⟨P,ch,j+1,by omega,rfl,by go_num,mj.o,ae fg.o xq.ext,af xq.ext yM.o⟩
          ·simp[intOf];omega
       ·obtain rfl:j=i:=by omega
        clear hP aB hO
        go_wp2_with fail
        go_roundw
        ·exact⟨P,ch,j+1,by omega,rfl,by go_num,HP.o.row,fg.o,yM.o⟩
        ·simp[intOf];omega
     ·obtain rfl:i=k:=by omega
      go_wp2_with fail
      go_roundw
      ·
       refine⟨P,ch,rfl,HP.o.1,fun h=>?_,fg.o,yM.o⟩;rcases HP.o.2 with ⟨h2,_⟩|⟨_,_,h4,_⟩
       ·rw[h]at h2;cases h2
       ·exact h4
      ·
       have e1:=K7 HO.o;have e2:=K7 yM.o;rcases HP.o.2 with ⟨h2,h3⟩|⟨h2,_⟩
       ·subst h2;simp[V8];omega
       ·subst h2;simp[V8]
theorem MR(s:Sys) (hs:SysOk s) (hE:eS s<=256) (vc vs vt ve:Value) (w:World) (dy:IsSys w s vc vs vt ve) :
  Calls Tryz.prog 50 #[.agg (cj s.prob vc vs s.n vt ve)] w fun r w'=>∃ u,r=.returned u/\aX w' u (partsS s)/\Below w.heap.size w w':=by
 have HS:=aa dy;obtain⟨⟨pc,cc,rfl⟩,⟨ps,cs,rfl⟩,⟨pt,ct,rfl⟩,⟨pe,ce,rfl⟩⟩:=bM dy;clear dy;have iU:=aa (fun p (hp:p<nS s) W (hb:Below w.heap.size w W)=>MQ s hs p hp _ _ _ _ W (HS.o.up hb));have fA:=hs.n.2.2.1;have jV:=hs.n.1;have ju:=hs.n.2.1;have qQ:am (∀ k,(ed s k).length=eS s):=aa (gJ s);have q6:am (∀ p,(classL s p).length=eS s):=aa (jq s);have HPS:am (∀ k,ed s (k+1)=kQ (ed s k) (classL s (k+1))):=aa fun k=>rfl
 have Uw:am (ed s 0=classL s 0):=aa rfl;have jD:am (partsS s=ed s (nS s - 1)):=aa rfl;obtain⟨n,hn⟩:∃ n,nS s=n:=⟨_,rfl⟩;rw[hn]at fA jV ju iU jD;rw[fA]at iU ⊢;generalize partsS s=ps0 at jD ⊢;clear hn fA
 go_enter Tryz.func50,Tryz.ntmps50
 go_wp2_with fail
 refine aQ (fun W=>Below w.heap.size w W/\∃ c,W.heap[w.heap.size]?=some (.cells c 35)/\c=cj s.prob (.slice pc s.prob.t.cases.length cc) (.slice ps s.prob.a.states.length cs) (n:Int) (.slice pt s.tab.length ct) (.slice pe s.ex.length ce)) ⟨by go_grown,_,aq _ _,rfl⟩ (fun W0 bh=>?_);obtain⟨aJ,_,hA,rfl⟩:=bh;have fE:=aa aJ;have HA:=aa hA;have vD:=iU.o 0 (by omega) W0 aJ;rw[show ((0:Nat):Int)=0 from rfl]at vD;refine vD.mono ?_;rintro r w1 ⟨u,rfl,hu,aM⟩;have HU:=aa hu;obtain⟨au,cu,rfl,_⟩:=hu.at;rw[q6.o]at HU;have bL:=aa aM;rw[q6.o];clear aJ hA vD hu aM
 go_wp2_with fail
 go_loopw [3,4] (fun o i wr=>∃ k:Nat,k<n/\i=.int .i64 ((k:Int)+1)/\Below W0.heap.size W0 wr/\∃ a c,o=.slice a (eS s) c/\aX wr (.slice a (eS s) c) (ed s k)) (fun _ i _=>n+1 - (intOf i).toNat)
 ·exact⟨0,by omega,rfl,bL.o,au,cu,rfl,by rw[Uw.o];exact HU.o⟩
 ·
  clear bL HU;obtain⟨k,hk,rfl,aB,a,c,rfl,hI⟩:=hrel;have aU:=aa aB;have HI:=aa hI;have tS:=ab (af aB HA.o);clear aB hI;by_cases aD:k+1<n
  ·have kN:(k:Int)+1<(n:Int):=by omega
   have bX:=iU.o (k+1) aD wr (ae fE.o aU.o);rw[show ((k+1:Nat):Int)=(k:Int)+1 by omega]at bX;have HC:=aa bX;clear bX
   go_wp2_with fail
   clear tS;refine HC.o.mono ?_;rintro r w2 ⟨u,rfl,hu,aY⟩;have HU:=aa hu;obtain⟨a2,c2,rfl,_⟩:=hu.at;have cV:=aa aY;have HGU:=aa (PD _ _ (ed s k) (classL s (k+1)) w2 (HI.o.up up_int cV.o) HU.o (by rw[qQ.o,q6.o]) (by rw[qQ.o];exact hE));rw[q6.o]at HGU ⊢;clear hu aY HC
   go_wp2_with fail
   refine HGU.o.mono ?_;rintro r w3 ⟨u3,rfl,rR,bH⟩;have fJ:(kQ (ed s k) (classL s (k+1))).length=eS s:=by rw[<-HPS.o,qQ.o]
   obtain⟨a3,c3,rfl,_⟩:=rR.at;rw[fJ]at rR ⊢;have HU3:=aa rR;have dX:=aa bH;clear rR bH fJ
   go_wp2_with fail
   go_roundw
   ·exact⟨k+1,aD,by go_num,ae aU.o (ae cV.o dX.o),a3,c3,rfl,by rw[HPS.o];exact HU3.o⟩
   ·simp[intOf];omega
  ·have kN:¬ (k:Int)+1<(n:Int):=by omega
   have HK:am (ps0=ed s k):=aa (by rw[jD.o,show n - 1=k by omega])
   go_wp2_with fail
   go_ret
   exact⟨_,rfl,by rw[HK.o];exact HI.o,ae fE.o aU.o⟩
end Go.Proofs.YtmeaoneaephjeaaGreatDoor
namespace Go.Proofs.YtmeaoneaephjeaaGreatDoor
def jO(dh:Int) (st:List Int × List Nat) (f:Nat):List Int × List Nat:=if st.1.getD f 0<0 then(st.1.set f dh,st.2++[f]) else st
def eG(s:Sys) (h:Nat) (D:List Int) (l:List Nat):List Int × List Nat:=l.foldl (jO (D.getD h 0+1)) (D,[])
theorem Cn(s:Sys) (h:Nat) (D:List Int) (l:List Nat) (f:Nat):eG s h D (l++[f])=jO (D.getD h 0+1) (eG s h D l) f:=by simp[eG]
theorem PE(dh:Int) (st:List Int × List Nat) (f:Nat):(jO dh st f).1.length=st.1.length:=by unfold jO;split<;>simp
theorem yu(s:Sys) (h:Nat) (D:List Int) (l:List Nat):(eG s h D l).1.length=D.length:=by
 unfold eG;generalize D.getD h 0+1=dh
 have key:∀ (l:List Nat) (st:List Int × List Nat),(l.foldl (jO dh) st).1.length=st.1.length:=by
  intro l;induction l with
  | nil=>intro st;rfl
  | cons a r ih=>intro st;rw[List.foldl_cons,ih,PE]
 exact key l _
theorem R3{s:Sys} {h:Nat} {D:List Int} (hl:D.length=eS s) (h0:0<=D.getD h 0):∀ k,k<=eS s->(∀ e,e<eS s->(eG s h D (fX s h k)).1.getD e 0=jg (eT s) (fun e=>D.getD e 0) h k e)/\(eG s h D (fX s h k)).2=um (eT s) (fun e=>D.getD e 0) h k:=by
 intro k;induction k with
 | zero=>intro _;exact⟨fun e _=>by unfold jg;rw[if_neg (by omega)];rfl,rfl⟩
 | succ k ih=>
  intro hk;obtain⟨i1,i2⟩:=ih (by omega);have cN:=yu s h D (fX s h k)
  have hq:um (eT s) (fun e=>D.getD e 0) h (k+1)=um (eT s) (fun e=>D.getD e 0) h k++if decide (D.getD k 0<0)&&eT s h k then [k] else []:=by
   unfold um;rw[List.range_succ,List.filter_append];cases hb:decide (D.getD k 0<0)&&eT s h k<;>simp[hb]<;>simpa using hb
  have Et:(eG s h D (fX s h k)).1.getD k 0=D.getD k 0:=by rw[i1 k (by omega)];unfold jg;rw[if_neg (by omega)]
  cases hn:sP s h k with
  | true=>
   have gH:eT s h k=true:=by unfold sP at hn;simp only[Bool.and_eq_true]at hn;exact hn.1
   rw[wA hn,Cn];unfold jO;rw[Et];by_cases hd:D.getD k 0<0
   ·rw[if_pos hd];refine⟨fun e he=>?_,?_⟩
    ·dsimp only;rw[fG _ _ _ _ _ (by omega)];by_cases ee:e=k
     ·subst ee;rw[if_pos rfl];unfold jg;rw[if_pos ⟨by omega,hd,gH⟩]
     ·rw[if_neg ee,i1 e he];unfold jg;by_cases hc:e<k/\D.getD e 0<0/\eT s h e=true
      ·rw[if_pos hc,if_pos ⟨by omega,hc.2⟩]
      ·rw[if_neg hc,if_neg (fun h=>hc ⟨by omega,h.2⟩)]
    ·dsimp only;rw[i2,hq,decide_eq_true hd,gH];rfl
   ·rw[if_neg hd];refine⟨fun e he=>?_,?_⟩
    ·rw[i1 e he];unfold jg;by_cases ee:e=k
     ·subst ee;rw[if_neg (fun h=>hd h.2.1),if_neg (fun h=>hd h.2.1)]
     ·by_cases hc:e<k/\D.getD e 0<0/\eT s h e=true
      ·rw[if_pos hc,if_pos ⟨by omega,hc.2⟩]
      ·rw[if_neg hc,if_neg (fun h=>hc ⟨by omega,h.2⟩)]
    ·rw[i2,hq,decide_eq_false hd,Bool.false_and];simp
  | false=>
   rw[zy hn]
   have jv:¬ (D.getD k 0<0/\eT s h k=true):=fun ⟨g1,g2⟩=>by
    unfold sP at hn;rw[g2,Bool.true_and]at hn;have:k=h:=by simpa using hn
    subst this;omega
   refine⟨fun e he=>?_,?_⟩
   ·rw[i1 e he];unfold jg;by_cases ee:e=k
    ·subst ee;rw[if_neg (fun h=>jv h.2),if_neg (fun h=>jv h.2)]
    ·by_cases hc:e<k/\D.getD e 0<0/\eT s h e=true
     ·rw[if_pos hc,if_pos ⟨by omega,hc.2⟩]
     ·rw[if_neg hc,if_neg (fun h=>hc ⟨by omega,h.2⟩)]
   ·rw[i2,hq];cases hd:decide (D.getD k 0<0)&&eT s h k with
    | false=>simp
    | true=>simp only[Bool.and_eq_true,decide_eq_true_eq]at hd;exact absurd hd jv
theorem Fj{n:Nat} {L:Nat->Nat->Bool} {f:Nat} {D E:Nat->Int} {Q:List Nat} (hf:f<n) (h:Bfs n L f D Q) (he:∀ e,e<n->D e=E e):Bfs n L f E Q:=by
 refine⟨by rw[<-he f hf];exact h.zero,fun e h1 h2=>h.only e h1 (by rw[he e h1];exact h2),fun e h1=>by rw[<-he e h1];exact h.low e h1,fun e h1 d h2=>?_,fun q hq=>?_,fun e g h1 h2 h3 h4 h5=>?_,?_,fun a r h1 e h2=>?_⟩
 ·obtain⟨g,hg,e1,e2⟩:=h.pred e h1 d (by rw[he e h1];exact h2);exact⟨g,hg,by rw[<-he g hg];exact e1,e2⟩
 ·have:=h.ok q hq;exact⟨this.1,by rw[<-he q this.1];exact this.2⟩
 ·rw[<-he e h1,<-he g h2];exact h.done e g h1 h2 (by rw[he g h2];exact h3) h4 h5
 ·refine h.asc.imp_of_mem fun {a b} ha hb AM=>?_
  rw[<-he a (h.ok a ha).1,<-he b (h.ok b hb).1];exact AM
 ·have ha:=(h.ok a (by rw[h1];simp)).1;rw[<-he e h2,<-he a ha];exact h.near a r h1 e h2
theorem PF{s:Sys} {f h:Nat} (hf:f<eS s) {D:List Int} {r:List Nat} (hl:D.length=eS s) (b:Bfs (eS s) (eT s) f (fun e=>D.getD e 0) (h :: r)) :
  Bfs (eS s) (eT s) f (fun e=>(eG s h D (dV s h)).1.getD e 0) (r++(eG s h D (dV s h)).2)/\(r++(eG s h D (dV s h)).2).length+((List.range (eS s)).filter fun e=>decide ((eG s h D (dV s h)).1.getD e 0<0)).length<(h :: r).length+((List.range (eS s)).filter fun e=>decide (D.getD e 0<0)).length:=by
 have h0:=(b.ok h (by simp)).2;obtain⟨i1,i2⟩:=R3 hl h0 (eS s) (Nat.le_refl _);unfold dV;refine⟨?_,?_⟩
 ·rw[i2];exact Fj hf (b.step (fun e g=>HH s e g)) fun e he=>(i1 e he).symm
 ·have h3:=Ka (n:=eS s) (eT s) (fun e=>D.getD e 0) h h0 r;rw[i2]
  have h4:((List.range (eS s)).filter fun e=>decide ((eG s h D (fX s h (eS s))).1.getD e 0<0))=(List.range (eS s)).filter fun e=>decide (jg (eT s) (fun e=>D.getD e 0) h (eS s) e<0):=
   List.filter_congr fun e he=>by rw[i1 e (List.mem_range.1 he)]
  rw[h4];exact h3
theorem Vt{s:Sys} {f:Nat} (hf:f<eS s) {D:List Int} (hl:D.length=eS s) (b:Bfs (eS s) (eT s) f (fun e=>D.getD e 0) []):D=db s f:=by
 have h1:=J' b.dist (lm hf);refine List.ext_getElem (by rw[hl,wl]) fun i h2 h3=>?_
 have h4:=h1 i (by omega);rw[show D.getD i 0=D[i] by simp[h2],show (db s f).getD i 0=(db s f)[i] by simp[h3]]at h4;exact h4
def labI(s:Sys):Int:=firstIx (i8 s).length fun i=>decide ((-1:Int)=(i8 s).getD i 0)
theorem K8(s:Sys):(i8 s).length=nW s+1:=by simp[i8,kM]
theorem D9(s:Sys) (k:Nat) (hk:k<nW s+1):(i8 s).getD k 0=comB s (memL (partsS s) k):=by simp[i8,kM,hk]
theorem R4(s:Sys) (l:List Nat) (h:comB s l<0):comB s l=-1:=by
 unfold comB at *;rcases bI (oS s) (fun v=>l.all fun e=>valB s e v) with ⟨e,_⟩|⟨k,_,e,_⟩<;>omega
theorem R5{s:Sys} (h0:0<eS s) (h:lW s<0):labI s<0:=by
 unfold labI;rcases bI (i8 s).length (fun i=>decide ((-1:Int)=(i8 s).getD i 0)) with ⟨e,_⟩|⟨k,hk,_,h2,_⟩
 ·omega
 ·exfalso;rw[K8]at hk;obtain⟨e,he,h3⟩:=Aj h0 k (by omega);have h4:=nR s e he;have h5:=of_decide_eq_true h2;rw[D9 s k hk]at h5;rw[h3]at h4;unfold lW at h;rcases bI (eS s) (fun e=>decide ((choiceS s).getD e 0<0)) with ⟨_,h6⟩|⟨j,_,e6,_⟩
  ·have:=h6 e he;rw[h4,<-h5]at this;simp at this
  ·omega
theorem R6{s:Sys} (h0:0<eS s) (h:¬ lW s<0):(lW s).toNat<eS s/\0<=labI s/\labI s=(partsS s).getD (lW s).toNat 0:=by
 have hb:∃ j,j<eS s/\lW s=j/\(choiceS s).getD j 0<0/\∀ i,i<j->¬ (choiceS s).getD i 0<0:=by
  unfold lW at h ⊢;rcases bI (eS s) (fun e=>decide ((choiceS s).getD e 0<0)) with ⟨e,_⟩|⟨j,hj,e6,h6,h7⟩
  ·omega
  ·exact⟨j,hj,e6,of_decide_eq_true h6,fun i hi=>of_decide_eq_false (h7 i hi)⟩
 obtain⟨j,hj,e1,h1,h2⟩:=hb;rw[e1,Int.toNat_natCast];have hr:=kL s j hj;have ht:=qj h0 j hj;obtain⟨k,hk⟩:∃ k:Nat,(partsS s).getD j 0=k:=⟨((partsS s).getD j 0).toNat,by omega⟩;rw[hk]at ht ⊢;refine⟨hj,?_⟩;have hch:=nR s j hj;rw[hk]at hch
 have:labI s=k:=by
  unfold labI;refine dB _ k _ (by rw[K8];omega) (fun i hi=>?_) ?_
  ·refine decide_eq_false fun e=>?_
   rw[D9 s i (by omega)]at e;obtain⟨j',nA,e3⟩:=vU (sK s) j (by rw[dK];exact hj) i (by omega) (by omega);have h4:=nR s j' (by omega);rw[e3,<-e]at h4;exact h2 j' nA (by omega)
  ·rw[D9 s k (by omega),decide_eq_true_eq,R4 s _ (by rw[<-hch];exact h1)]
 omega
theorem Fk{s:Sys}:∀ (l:List Lk) (e:Nat),chainB s e l->∀ y∈l,(0<=y.x/\y.x.toNat<eS s)/\0<=y.p/\y.p<nS s
 | [],_,_,y,hy=>by cases hy
 | z :: r,e,⟨h1,h2,h3,h4,_,h6⟩,y,hy=>by
  rcases List.mem_cons.1 hy with rfl|hy
  ·exact⟨⟨h1,h2⟩,h3,h4⟩
  ·exact Fk r _ h6 y hy
theorem Vu{s:Sys} (hs:SysOk s) (k:Int):∀ y∈gF s (memL (partsS s) k),(0<=y.x/\y.x.toNat<eS s)/\-1<=y.p/\y.p<nS s:=by
 cases hm:memL (partsS s) k with
 | nil=>intro y hy;cases hy
 | cons a r=>
  obtain⟨h1,h2,_⟩:=OZ hs k a r hm;intro y hy;rcases List.mem_cons.1 hy with rfl|hy
  ·exact⟨⟨by dsimp only;omega,by dsimp only;omega⟩,by dsimp only;omega,by dsimp only;omega⟩
  ·obtain⟨h3,h4,h5⟩:=Fk _ _ h2 y hy;exact⟨h3,by omega,h5⟩
theorem V9{s:Sys} {l:List Lk} {i:Nat} (hi:i<l.length) (h0:∀ j,j<i->cM s (l.take (j+1))=false) (h1:cM s (l.take (i+1))=true):nQ s l=l.take (i+1):=by
 unfold nQ rl;rw[dB l.length i (fun i=>cM s (l.take (i+1))) hi h0 h1,if_neg (by omega),Int.toNat_natCast]
theorem K9{s:Sys} {l:List Lk} (h0:∀ j,j<l.length->cM s (l.take (j+1))=false):nQ s l=l:=by
 unfold nQ rl;rcases bI l.length (fun i=>cM s (l.take (i+1))) with ⟨e,_⟩|⟨k,hk,_,h2,_⟩
 ·rw[e,if_pos (by omega),List.take_length]
 ·rw[h0 k hk]at h2;cases h2
theorem R7{s:Sys} {l:List Lk} {i:Nat} (hi:i<l.length) (h0:∀ j,j<i->cM s (l.take (j+1))=false):i<(nQ s l).length:=by
 unfold nQ rl;rcases bI l.length (fun i=>cM s (l.take (i+1))) with ⟨e,_⟩|⟨k,hk,e,h2,_⟩
 ·rw[e,if_pos (by omega),List.take_length];exact hi
 ·rw[e,if_neg (by omega),Int.toNat_natCast,List.length_take];by_cases h:k<i
  ·rw[h0 k h]at h2;cases h2
  ·omega
theorem R8{s:Sys} {l:List Lk} {i:Nat} (hi:i<l.length):comM s (cF (l.take (i+1)))=comM s (cF (l.take i)) &&& gY s (l.getD i default).x.toNat:=by
 rw[List.take_succ_eq_append_getElem hi,wm,show l.getD i default=l[i] by simp[hi]];exact E8 s _ _
end Go.Proofs.YtmeaoneaephjeaaGreatDoor
namespace Go.Proofs.YtmeaoneaephjeaaGreatDoor
open Go.RowKit Go Go.Shelf
attribute [local go_sem] Oper.semAt_some
theorem OwnQ.ck{w w':World} {g:Nat} {e:TypeId} {v:Value} {n:Nat} {xs:List Value} (h:OwnQ w g e v n xs) (hb:CK w w'):OwnQ w' g e v n xs:=by
 obtain⟨off,cap,h1,h2,h3,h4⟩:=h.ex;refine⟨h.len,off,cap,h1,h2,h3,?_⟩;rcases h4 with h4|⟨cur,fz,h5,h6⟩
 ·exact .inl h4
 ·exact .inr ⟨cur,fz,hb _ _ h5 rfl,h6⟩
def wD(l:List Nat):List Value:=l.map fun x:Nat=>Value.int .i64 (x:Int)
def MS(s:Sys) (D:List Int):Nat:=((List.range (eS s)).filter fun e=>decide (D.getD e 0<0)).length
structure DFI (s:Sys) (w:World) (bq bx be:Nat) (Ds:List Nat) (D:List Int) (Q:List Nat) (V:World):Prop where
 old:Below w.heap.size w V
 box:V.heap[w.heap.size+1]?=some (.cells #[.slice (some ⟨w.heap.size,0,none⟩) (eS s) (eS s)] 38)
 row:V.heap[w.heap.size]?=some (.cells (bG D) 3)
 que:∃ g qv,V.heap[bq]?=some (.cells #[qv] 38)/\OwnQ V g 3 qv Q.length (wD Q)/\w.heap.size+1<g/\g<V.heap.size/\g≠bx/\g≠be/\g≠bq
 marks:cU w.heap.size Ds V
theorem DFI.sta{s:Sys} {w:World} {bq bx be B:Nat} {Ds:List Nat} {D:List Int} {Q:List Nat} (hB:w.heap.size<=B) (hD:∀ E∈Ds,E<B):cK B (DFI s w bq bx be Ds D Q):=fun A A' c h=>by
 obtain⟨g,qv,h1,h2,h3,h4,h5⟩:=h.que;exact⟨c.below hB h.old.size h.old,c.same _ _ h.box (.inr rfl),c.same _ _ h.row (.inr rfl),⟨g,qv,c.same _ _ h1 (.inr rfl),h2.ck c.ck,h3,Nat.lt_of_lt_of_le h4 c.size,h5⟩,cK.marks hD A A' c h.marks⟩
def Wa(s:Sys) (B f:Nat) (w:World) (n:Nat) (act:Act) (W:World):Prop:=∃ (D:List Int) (Q:List Nat) (bq:Nat) (Ds:List Nat) (u2 u3 u4 u6 u8 u9 u10 u11 u12 u13 u14 u15 u16 u17 u18 u19 u20 u21 u22 u23 u24 u25 u26 u27 u28 u29 u30 u31 u32 u33 u34 u35 u36 u37 u38 u39 u40 u41 u42 u43 u44 u45 u46 u47 u48 u49 u50 u51 u52 u53 u54 u55 u56 u57 u58 u59 u60 u61:Value),
   act={ tmps:=#[Value.pointer (some ⟨B,0,none⟩),Value.int .i64 f,u2,u3,u4,Value.pointer (some ⟨w.heap.size+1,0,none⟩),u6,Value.pointer (some ⟨bq,0,none⟩),u8,u9,u10,u11,u12,u13,u14,u15,u16,u17,u18,u19,u20,u21,u22,u23,u24,u25,u26,u27,u28,u29,u30,u31,u32,u33,u34,u35,u36,u37,u38,u39,u40,u41,u42,u43,u44,u45,u46,u47,u48,u49,u50,u51,u52,u53,u54,u55,u56,u57,u58,u59,u60,u61],defers:=mW Ds }/\n=Q.length+MS s D/\n<=257/\D.length=eS s/\Bfs (eS s) (eT s) f (fun e=>D.getD e 0) Q/\w.heap.size+1<bq/\bq<W.heap.size/\DFI s w bq W.heap.size W.heap.size Ds D Q W
theorem MT{n:Nat} {L:Nat->Nat->Bool} {f:Nat} {D:Nat->Int} {Q:List Nat} (b:Bfs n L f D Q) (d:Nat):∀ e,e<n->D e=(d:Int)->d+1<=((List.range n).filter fun x=>decide (0<=D x/\D x<=(d:Int))).length:=by
 induction d with
 | zero=>
  intro e he h;have:e∈(List.range n).filter fun x=>decide (0<=D x/\D x<=((0:Nat):Int)):=by simp[he,h]
  have:=List.length_pos_of_mem this;omega
 | succ d ih=>
  intro e he h;obtain⟨g,hg,h1,_⟩:=b.pred e he d (by rw[h];rfl);have h4:=ih g hg h1
  have h5:((List.range n).filter fun x=>decide (0<=D x/\D x<=(d:Int))).length<((List.range n).filter fun x=>decide (0<=D x/\D x<=((d+1:Nat):Int))).length:=by
   refine EJ _ _ _ (fun x _ hx=>?_) e (by simpa using he) (by rw[h];simp;omega) (by rw[h];simp;omega);simp only[decide_eq_true_eq]at hx ⊢;omega
  omega
theorem MU{s:Sys} {f h:Nat} {D:List Int} {Q:List Nat} (b:Bfs (eS s) (eT s) f (fun e=>D.getD e 0) Q) (hh:h<eS s) (hE:eS s<=256):D.getD h 0<1000000:=by
 by_cases h0:0<=D.getD h 0
 ·have h1:=MT b (D.getD h 0).toNat h hh (by omega);have h2:((List.range (eS s)).filter fun x=>decide (0<=D.getD x 0/\D.getD x 0<=((D.getD h 0).toNat:Int))).length<=eS s:=Nat.le_trans (List.length_filter_le _ _) (by simp);omega
 ·omega
theorem Vv(s:Sys) (D:List Int):MS s D<=eS s:=Nat.le_trans (List.length_filter_le _ _) (by simp)
theorem MV(s:Sys) (h:Nat) (D:List Int) (l:List Nat):(eG s h D l).2.length<=l.length:=by
 unfold eG;generalize D.getD h 0+1=dh
 have key:∀ (l:List Nat) (st:List Int × List Nat),(l.foldl (jO dh) st).2.length<=st.2.length+l.length:=by
  intro l;induction l with
  | nil=>intro st;simp
  | cons a r ih=>
   intro st;rw[List.foldl_cons];refine Nat.le_trans (ih _) ?_;have:(jO dh st a).2.length<=st.2.length+1:=by unfold jO;split<;>simp
   simp only[List.length_cons];omega
 exact Nat.le_trans (key l _) (by simp)
theorem Wb(s:Sys) (e:Nat):(dV s e).length<=eS s:=Nat.le_trans (List.length_filter_le _ _) (by simp)
theorem MW{s:Sys} {h:Nat} {D:List Int} (h0:0<=D.getD h 0) (l:List Nat):(eG s h D l).1.getD h 0=D.getD h 0:=by
 unfold eG
 have key:∀ (l:List Nat) (st:List Int × List Nat),st.1.getD h 0=D.getD h 0->(l.foldl (jO (D.getD h 0+1)) st).1.getD h 0=D.getD h 0:=by
  intro l;induction l with
  | nil=>intro st h1;exact h1
  | cons a r ih=>
   intro st h1;rw[List.foldl_cons];refine ih _ ?_;unfold jO;split
   ·rename_i h2;by_cases ha:a<st.1.length
    ·dsimp only;rw[fG _ _ _ _ _ ha,if_neg (fun e=>by subst e;omega)];exact h1
    ·dsimp only;rw[List.set_eq_of_length_le (by omega)];exact h1
   ·exact h1
 exact key l _ rfl
theorem PG(s:Sys) (hs:SysOk s) (hE:eS s<=256) (B f:Nat) (hf:f<eS s) (base:Nat) (w:World) (h:gP w base B s) :
  Calls Tryz.prog 137 #[.pointer (some ⟨B,0,none⟩),.int .i64 f] w fun r w'=>r=.returned (.slice (some ⟨w.heap.size,0,none⟩) (eS s) (eS s))/\w'.heap[w.heap.size]?=some (.cells (bG (db s f)) 3)/\Below w.heap.size w w':=by
 obtain⟨pl,cl,h1,_⟩:=(h.at hs).open;have HF:=aa h;have tF:w.cell? ⟨B,1,none⟩=some (.slice pl (eS s) cl):=(ab h1 1).trans rfl;have hBw:=aC h1;obtain⟨i0,cY,cC,bY,cD⟩:=info_parts Tryz.infoInt
 have fk:am (Bfs (eS s) (eT s) f (fun e=>((List.replicate (eS s) (-1:Int)).set f 0).getD e 0) [f]):=aa (Fj hf (Bfs.start hf) fun e he=>by
  rw[fG _ _ _ _ _ (by simp;exact hf)];unfold dQ;split
  ·rfl
  ·simp[he])
 obtain⟨m,hm⟩:∃ m,eS s=m:=⟨_,rfl⟩;have gc:=jp (fun _=>-1) m (by omega);have Bt:am ((List.range m).map (fun _=>(-1:Int))=List.replicate (eS s) (-1)):=aa (by rw[hm];simp[List.map_const']);rw[hm]at hE hf tF;have HM:=aa hm;have QA:=aa hs;clear hm h1 h hs;refine gd Tryz.func137 rfl ?_;simp only[Tryz.ntmps137,List.size_toArray,List.length_cons,List.length_nil,Nat.reduceAdd,Nat.reduceSub,Array.replicate_succ,Array.replicate_zero,List.push_toArray,List.append_toArray,List.nil_append,List.cons_append]
 go_wp2_with fail
 clear gc tF;refine bF (fun W=>Below w.heap.size w W/\W.heap[w.heap.size]?=some (.cells (fC m (fun _=>-1) 0) 3)/\W.heap[w.heap.size+1]?=some (.cells #[.slice (some ⟨w.heap.size,0,none⟩) m m] 38)) ⟨by go_grown,az _ (aq _ _),bz _ _ _⟩ (fun W0 bh=>?_);have iH:=aa bh;have tx0:=ab bh.2.2 0;simp at tx0;clear bh
 go_wp2_with fail
 clear tx0
 go_loopw [17] (fun i wr=>∃ k:Nat,k<=m/\i=.int .i64 k/\Below w.heap.size w wr/\wr.heap[w.heap.size]?=some (.cells (fC m (fun _=>-1) k) 3)/\wr.heap[w.heap.size+1]?=some (.cells #[.slice (some ⟨w.heap.size,0,none⟩) m m] 38)) (fun i _=>m - (intOf i).toNat)
 case atStart=>exact⟨0,by omega,rfl,iH.o.1,iH.o.2.1,iH.o.2.2⟩
 case round=>
  clear iH;obtain⟨k,hk,rfl,aB,hO,hX⟩:=hrel;have tx:=ab hX 0;simp at tx;have eM:=aC hX;have HO:=aa hO;have HX:=aa hX;have aU:=aa aB;by_cases aD:k<m
  ·have tq:=ab hO k;rw[mf _ _ _ _ aD]at tq;have zq:=aG hO k;clear hO hX aB
   go_wp2_with fail
   go_roundw
   ·exact⟨k+1,by omega,by go_num,aU.o.setCell (by dsimp only;omega) _,by rw[aH HO.o,uN m (fun _=>-1) k aD],aN HX.o (by omega) _ _⟩
   ·simp[intOf];omega
  obtain rfl:k=m:=by omega
  have tq:=ab hO f;rw[mf _ _ _ _ hf]at tq;have zq:=aG hO f;have q7:=hO;rw[qf,Bt.o]at q7;have eO:=aa q7;have C9:=aB.size;clear hO q7 hX aB
  go_wp2_with fail
  clear tx tq zq
  refine bF (fun W=>Below w.heap.size w W/\W.heap[w.heap.size+1]?=some (.cells #[.slice (some ⟨w.heap.size,0,none⟩) k k] 38)/\W.heap[w.heap.size]?=some (.cells (bG ((List.replicate (eS s) (-1)).set f 0)) 3)/\W.heap[wr.heap.size]?=some (.cells #[.int .i64 f] 3)/\W.heap[wr.heap.size+1]?=some (.cells #[.slice (some ⟨wr.heap.size,0,none⟩) 1 1] 38))
   ⟨((aU.o.setCell (p:=⟨w.heap.size,f,none⟩) (Nat.le_refl _) _).alloc (by simpa using C9) _).alloc (by simp;omega) _,az _ (az _ (aN HX.o (by omega) _ _)),az _ (az _ (by rw[aH eO.o,mg])),az _ (by have:=aq (wr.setCell ⟨w.heap.size,f,none⟩ (.int .i64 0)) (.cells #[.int .i64 f] 3);rwa [World.size_setCell]at this),by have:=bz (wr.setCell ⟨w.heap.size,f,none⟩ (.int .i64 0)) (.cells #[.int .i64 f] 3) (.cells #[.slice (some ⟨wr.heap.size,0,none⟩) 1 1] 38);rwa [World.size_setCell]at this⟩ (fun W1 cO=>?_)
  have tk:w.heap.size+1<wr.heap.size:=eM;generalize wr.heap.size=g0 at cO tk;have gz:=aa cO;have oR:=aC cO.2.2.2.2;clear cO HO eO HX aU wr eM C9 W0;refine AW (fun n act W=>Wa s B f w n act W) (1+MS s ((List.replicate (eS s) (-1)).set f 0)) ?start ?round
  case start=>
   refine⟨_,[f],g0+1,[],_,_,_,_,_,_,_,_,_,_,_,_,_,_,_,_,_,_,_,_,_,_,_,_,_,_,_,_,_,_,_,_,_,_,_,_,_,_,_,_,_,_,_,_,_,_,_,_,_,_,_,_,_,_,_,_,_,_,rfl,rfl,by have:=Vv s ((List.replicate (eS s) (-1)).set f 0);have:=HM.o;omega,by simp,fk.o,by omega,oR,gz.o.1,by rw[HM.o];exact gz.o.2.1,gz.o.2.2.1,⟨g0,_,gz.o.2.2.2.2,⟨rfl,0,1,rfl,Nat.le_refl _,by unfold maxLen;omega,.inr ⟨_,(0,0),gz.o.2.2.2.1,fun i _ h=>by have:=h.2;simp at this,rfl,rfl⟩⟩,by omega,by omega,by omega,by omega,by omega⟩,cU.nil _ _⟩
  case round=>
   clear gz fk Bt;rintro n act W ⟨D,Q,bq,Ds,u2,u3,u4,u6,u8,u9,u10,u11,u12,u13,u14,u15,u16,u17,u18,u19,u20,u21,u22,u23,u24,u25,u26,u27,u28,u29,u30,u31,u32,u33,u34,u35,u36,u37,u38,u39,u40,u41,u42,u43,u44,u45,u46,u47,u48,u49,u50,u51,u52,u53,u54,u55,u56,u57,u58,u59,u60,u61,rfl,hn,hn7,lU,CI,ni,hbq2,hI⟩;obtain⟨g,qv,JK,FG,hg,hgw,AD,qH,TK⟩:=hI.que;obtain⟨off,cap,rfl,iI,qn,Et⟩:=FG.ex;have tq:=ab JK 0;simp at tq;have HI:=aa hI;have Cz:=aa JK;have LL:=aa FG;have F7:=aa CI;have HN:=aa hn;have IR:=aa lU;clear hI JK FG CI hn lU;cases Q with
   | nil=>
    have tb:=ab HI.o.box 0;simp at tb;have ji:=aa (Vt (by rw[HM.o];exact hf) IR.o F7.o);have cA:=HI.o.row;rw[ji.o]at cA;have kx:=aa cA;clear cA
    go_wp2_with fail
    refine rf HI.o.marks (v:=.slice (some ⟨w.heap.size,0,none⟩) (eS s) (eS s)) ?_ ⟨rfl,rc HI.o.marks _ _ kx.o rfl,mA (fun D hD=>(HI.o.marks.2 D hD).1) (Nat.le_refl _) HI.o.old⟩;simp[results,Tryz.results137,go_sem]
   | cons h r=>
    have hh:=(F7.o.ok h (by simp)).1;rw[HM.o]at hh
    obtain⟨cur,fz,jI,ja,hc3,hc4⟩:∃ cur fz,W.heap[g]?=some (.cells cur 3 fz)/\(∀ i,i<cur.size->¬ (fz.1<=i/\i<fz.2))/\cur.size=off+cap/\(cur.toList.drop off).take (h :: r).length=wD (h :: r):=by
     rcases Et with h0|h0
     ·simp at iI;omega
     ·exact h0
    have th:W.cell? ⟨g,off,none⟩=some (.int .i64 h):=by
     rw[ab jI];have h5:=congrArg (fun l=>l[0]?) hc4;simp[wD]at h5;simpa using h5
    clear Et jI ja hc3 hc4
    go_wp2_with fail
    refine(uY B h W).mono ?_;rintro e w2 ⟨rfl,rfl⟩;clear th tq
    go_wp2_with fail
    have lU:∀ E∈Ds,E<W.heap.size:=HI.o.marks.lt
    refine bF (fun W1=>DFI s w bq W.heap.size (W.heap.size+1) Ds D (h :: r) W1/\W1.heap[W.heap.size]?=some (.cells #[.pointer (some ⟨B,0,none⟩)] 196)/\W1.heap[W.heap.size+1]?=some (.cells #[.int .i64 h] 3)/\W.heap.size+1<W1.heap.size)
     ⟨⟨(HI.o.old.alloc HI.o.old.size _).alloc (by have:=HI.o.old.size;simp;omega) _,az _ (az _ HI.o.box),az _ (az _ HI.o.row),⟨g,_,az _ (az _ Cz.o),(LL.o.ck (.of_below (by go_grown))),hg,by simp;omega,by omega,by omega,TK⟩,HI.o.marks.up (by go_grown)⟩,az _ (aq _ _),bz _ _ _,by simp⟩ (fun W1 cO=>?_)
    obtain⟨xy,AG,IY,Xi⟩:=cO;have dj:=sQ s QA.o B h W.heap.size (W.heap.size+1) (by rw[HM.o];exact hh) base w HF.o W1 (fun k _ hk=>xy.old.block k hk) xy.old.size (by simp[ab AG]) (by simp[ab IY]);have Xb:=HI.o.old.size;have tW:=aa xy;have hbq1:bq<W.heap.size:=hbq2;clear AG IY
    refine mI (gf:=179) (lb:=#[.pointer (some ⟨W.heap.size,0,none⟩),.pointer (some ⟨W.heap.size+1,0,none⟩)]) rfl (enters_of Tryz.func179 (by kernel_rfl) rfl) dj (Below.refl _ _) (fun k hk=>by rcases hk with hk|rfl|rfl<;>omega) (fun i=>rfl)
     (fun i V=>DFI s w bq W.heap.size (W.heap.size+1) Ds (eG s h D ((dV s h).take i)).1 (h :: (r++(eG s h D ((dV s h).take i)).2)) V)
     (fun _ _ _=>False)
     (fun i=>DFI.sta (by omega) (fun E hE=>by have:=lU E hE;omega)) (fun c i=>cK.pure) (by simpa[eG] using xy) ?rnd ?done ?stop
    case stop=>rintro D' c i V hD hi h;exact h.elim
    case rnd=>
     intro yl i V hi hl iE;unfold Iq;obtain⟨fv,P3⟩:∃ fv,(dV s h).getD i 0=fv:=⟨_,rfl⟩
     have kO:fv<k:=by
      have h2:(dV s h)[i]∈dV s h:=List.getElem_mem hi;rw[show (dV s h)[i]=fv by rw[<-P3];simp[hi]]at h2;have:=(rx.1 h2).1;rw[HM.o]at this;exact this
     have bP:fv≠h:=by
      have h2:(dV s h)[i]∈dV s h:=List.getElem_mem hi;rw[show (dV s h)[i]=fv by rw[<-P3];simp[hi]]at h2;exact(rx.1 h2).2.2
     have jy:am (eG s h D ((dV s h).take (i+1))=jO (D.getD h 0+1) (eG s h D ((dV s h).take i)) fv):=aa (by
      rw[List.take_succ_eq_append_getElem hi,Cn,<-P3]
      simp[hi])
     rw[P3];have cN:(eG s h D ((dV s h).take i)).1.length=k:=by rw[yu,IR.o,HM.o]
     have hh0:=(F7.o.ok h (by simp)).2
     have hqb:(eG s h D ((dV s h).take i)).2.length<=256:=by
      have h1:=MV s h D ((dV s h).take i);have h2:=Wb s h;have h3:=HM.o;rw[List.length_take]at h1;omega
     have Dm:r.length<=257:=by
      have h1:=HN.o;simp only[List.length_cons]at h1;omega
     have TU:(eG s h D ((dV s h).take i)).1.getD h 0=D.getD h 0:=MW hh0 _;generalize byP s h fv=pv;obtain⟨st,dO⟩:∃ st,eG s h D ((dV s h).take i)=st:=⟨_,rfl⟩;rw[dO]at cN TU jy iE hqb;obtain⟨ql,oD⟩:∃ ql,(h :: (r++st.2)).length=ql+1:=⟨(r++st.2).length,rfl⟩;have hql2:ql<=1000:=by simp only[List.length_cons,List.length_append]at oD;omega
     have oy:=aa iE;have fk:=aa dO;have vy:=aa oD;clear dO iE P3 dj oD Dm hqb
     gi_wp2
     refine⟨Bod.refl _ _ _,fun V=>DFI s w bq W.heap.size (W.heap.size+1) Ds st.1 (h :: (r++st.2)) V,DFI.sta (by omega) (fun E hE=>by have:=lU E hE;omega),oy.o,fun V2 h2 jz=>?_⟩;obtain⟨rlp,jz⟩:=jz;have I':=aC jz;clear jz rlp;obtain⟨g2,qv2,k1,k2,k3,k4,k5,k6,k7⟩:=h2.que;rw[vy.o]at k2;have df:=aa h2;have UK:=aa k1;have De:=aa k2;have qQ:=aa cN;have tb:=ab h2.box 0;have tr:=ab h2.row fv;have tq:=ab k1 0;simp at tb tq;rw[gi _ _ (by omega)]at tr;obtain⟨dv,XI⟩:∃ dv,st.1.getD fv 0=dv:=⟨_,rfl⟩;rw[XI]at tr;have HDV:=aa XI;clear h2 k1 k2 XI cN;have hmem2:fv<eS s:=by rw[HM.o];exact kO
     have hh2:h<eS s:=by rw[HM.o];exact hh
     by_cases En:dv<0
     ·have hneg':decide (dv<0)=true:=decide_eq_true En;obtain⟨off2,cap2,hqv,hnc2,hcm2,Nl⟩:=De.o.ex;subst hqv;have QK:0<ql+1:=by omega
      have th2:V2.cell? ⟨g2,off2,none⟩=some (.int .i64 h):=by
       rcases Nl with h0|⟨cur,fz,c1,c2,c3,c4⟩
       ·omega
       ·rw[ab c1];have h5:=congrArg (fun l=>l[0]?) c4;simp[wD]at h5;simpa using h5
      have trh:=ab df.o.row h;rw[gi _ _ (by have:=qQ.o;omega),TU]at trh;have zr:=aG df.o.row fv;have HSTEP:am (jO (D.getD h 0+1) st fv=(st.1.set fv (D.getD h 0+1),st.2++[fv])):=aa (by unfold jO;rw[HDV.o,if_pos En]);have hdh:=MU F7.o hh2 (by rw[HM.o];exact hE);generalize D.getD h 0=dh at trh TU HSTEP jy hh0 hdh
      have kb:am (∃ cs ty fz,V2.heap[g2]?=some (.cells cs ty fz)):=aa (by
       rcases Nl with h0|⟨cur,fz,c1,_⟩
       ·omega
       ·exact⟨_,_,_,c1⟩)
      clear En Nl TU
      gi_wp2
      refine lf 10 (fun ⟨_,_,h⟩=>h) (by kernel_rfl) (by kernel_rfl) (by kernel_rfl) (fun ops Lq hops hLq=>?_);simp only[List.take_succ_cons,List.take_zero,List.drop_succ_cons,List.drop_zero]at hLq ⊢;have CR:=aa hLq;clear hLq;have Sv:=aa hops;clear hops
      repeat still_step
      refine wpStill_nil ?_;refine CR.o _ ?_
      go_wp2_with fail
      obtain⟨V3,Lz⟩:∃ V3,V3=(V2.setCell ⟨w.heap.size,fv,none⟩ (.int .i64 (dh+1))).drew:=⟨_,rfl⟩;rw[<-Lz];have Jq:V3.heap.size=V2.heap.size:=by rw[Lz];simp
      have ii:∀ k,k≠w.heap.size->V3.heap[k]?=V2.heap[k]?:=fun k hk=>by rw[Lz];exact Below.heap_setCell _ _ _ _ hk
      have zF:V3.heap[w.heap.size]?=some (.cells (bG (st.1.set fv (dh+1))) 3):=by rw[Lz];exact(aH df.o.row _ _).trans (by rw[mg])
      have hold3:Below w.heap.size w V3:=by rw[Lz];exact(df.o.old.setCell (by dsimp only;omega) _).drew
      clear Lz;have Nv:=(ii bq (by omega)).trans UK.o;have tb3:=ab Nv 0;simp at tb3;have HBOX:=aa Nv;have kx:=aa zF;have yO:=aa hold3;have oH:=aa ii;have bO:=aa ((De.o.up (w':=V3) (.inl (ii g2 (by omega)))).ck (.of_below ((Below.refl _ V3).alloc (Nat.le_refl _) (.cells #[.int .i64 fv] 3))));have bE:=aa (dR V3 [.int .i64 (fv:Int)] 3);have HNEW2:am (∀ (j:Nat) (x:Value),[Value.int .i64 (fv:Int)][j]?=some x->(V3.alloc (.cells #[.int .i64 fv] 3)).cell? ((⟨V3.heap.size,0,none⟩:Addr).add j)=some x):=bE;have HSZ3:=aa Jq;have Gd:am (bq≠g2):=aa (Ne.symm k7);clear k7;have jJ:am (ql+1+1<=maxLen):=aa (by unfold maxLen;omega);have eV:am ((ql+1+1) * 8<=140737488355328):=aa (by omega);clear Nv zF hold3 ii th2 trh zr tb tr tq Jq
      gi_wp2_with (gi_at_builtin;go_loud (refine zP _ rfl (.tmp 56) (.tmp 58) 38 rfl 3 i0 _ 8 Tryz.underlying38 cY cC bY cD rfl g2 _ (ql+1) _ rfl bO.o ⟨V3.heap.size,0,none⟩ 1 (.int .i64 fv) rfl HNEW2.o rfl jJ.o eV.o ?_;intro v4 w4 g4 mD fc hg4;obtain⟨off4,cap4,rfl,-⟩:=mD.ex;have vA:=fc.keep (az _ HBOX.o) Gd.o;have c4:=ab vA 0;have f4:=aG vA 0;simp at c4))
      have yH:=fc.size;have Jq:=HSZ3.o;simp only[World.size_alloc]at yH hg4;have hg2l:=k4;have P9:∀ k,k<V2.heap.size->k≠g2->k≠w.heap.size->w4.heap[k]?=V2.heap[k]?:=fun k h1 h2 h3=>(fc.same k (by simp;omega) h2).trans ((Below.heap_alloc V3 _ k (by omega)).trans (oH.o k h3))
      obtain⟨cs2,ty2,fz2,ND⟩:=kb.o
      have sY:∀ (k:Nat) (o:Obj),V2.heap[k]?=some o->o.isCells=false->(w4.setCell ⟨bq,0,none⟩ (.slice (some ⟨g4,off4,none⟩) (ql+1+1) cap4)).heap[k]?=some o:=fun k o ho hc=>by
       have n1:k≠g2:=fun e=>by subst e;rw[ND]at ho;cases ho;cases hc
       have n2:k≠w.heap.size:=fun e=>by subst e;rw[df.o.row]at ho;cases ho;cases hc
       have n3:k≠bq:=fun e=>by subst e;rw[UK.o]at ho;cases ho;cases hc
       rw[Below.heap_setCell _ _ _ _ n3];exact(P9 k (aC ho) n1 n2).trans ho
      have hg4l:g4<w4.heap.size:=by
       obtain⟨off5,cap5,_,ju,_,h5⟩:=mD.ex;rcases h5 with h5|⟨cur,fz,c1,_⟩
       ·omega
       ·exact aC c1
      have hg4b:g4≠bq:=by
       rcases hg4 with ⟨e,_⟩|e
       ·rw[e];exact fun h=>Gd.o h.symm
       ·omega
      refine⟨⟨by simp;omega,fun k hk=>?_,fun k o _ ho hc=>sY k o ho hc⟩,?_⟩
      ·have kZ:k<V2.heap.size/\k≠g2/\k≠w.heap.size/\k≠bq:=by rcases hk with hk|rfl|rfl<;>omega
       rw[Below.heap_setCell _ _ _ _ kZ.2.2.2];exact P9 k kZ.1 kZ.2.1 kZ.2.2.1
      ·show DFI s w bq W.heap.size (W.heap.size+1) Ds (eG s h D ((dV s h).take (i+1))).1 (h :: (r++(eG s h D ((dV s h).take (i+1))).2)) _
       rw[jy.o,HSTEP.o];refine⟨(fc.below (yO.o.alloc (by omega) _) (by simp;omega) (by omega)).setCell (by dsimp only;omega) _,?_,?_,⟨g4,_,aH vA _ _,?_,by omega,by simp;omega,by omega,by omega,hg4b⟩,df.o.marks.keep fun k o ho hc=>sY k o ho hc⟩
       ·exact aN (fc.keep (az _ ((oH.o _ (by omega)).trans df.o.box)) (by omega)) (by omega) _ _
       ·exact aN (fc.keep (az _ kx.o) (by omega)) (by omega) _ _
       ·have e1:(h :: (r++(st.2++[fv]))).length=ql+1+1:=by have:=vy.o;simp only[List.length_cons,List.length_append,List.length_nil]at this ⊢;omega
        have e2:wD (h :: (r++(st.2++[fv])))=wD (h :: (r++st.2))++[Value.int .i64 fv]:=by simp[wD]
        dsimp only;rw[e1,e2];exact mD.up (.inl (Below.heap_setCell _ _ _ _ hg4b))
     ·have hneg':decide (dv<0)=false:=decide_eq_false En;have HSAME:am (jO (D.getD h 0+1) st fv=st):=aa (by unfold jO;rw[HDV.o,if_neg En]);clear En
      gi_wp2
      refine⟨Bod.refl _ _ _,?_⟩
      show DFI s w bq W.heap.size (W.heap.size+1) Ds (eG s h D ((dV s h).take (i+1))).1 (h :: (r++(eG s h D ((dV s h).take (i+1))).2)) V2
      rw[jy.o,HSAME.o];exact df.o
    case done=>
     intro D' V hD iE hK;rw[List.take_of_length_le (Nat.le_refl _)]at iE;obtain⟨Tm,XB⟩:=PF (by rw[HM.o];exact hf) IR.o F7.o;have og:(eG s h D (dV s h)).1.length=eS s:=by rw[yu];exact IR.o
     obtain⟨st,dO⟩:∃ st,eG s h D (dV s h)=st:=⟨_,rfl⟩;rw[dO]at iE Tm XB og;obtain⟨g2,qv2,k1,k2,k3,k4,k5,k6,k7⟩:=iE.que;obtain⟨ql,oD⟩:∃ ql,(h :: (r++st.2)).length=ql+1:=⟨(r++st.2).length,rfl⟩;rw[oD]at k2;obtain⟨off2,cap2,rfl,hnc2,hcm2,-⟩:=k2.ex;have tb:=ab k1 0;simp at tb;have oy:=aa iE;have De:=aa k2;have vy:=aa oD;have HBF2:=aa Tm;have HMS:=aa XB;have Dr:=aa og;have hDl2:∀ E∈Ds,E<D':=fun E hE=>by have:=lU E hE;omega
     have HK:=aa hK;clear dO iE Tm XB og k1 k2 oD dj hK;have wZ:am (ql=(r++st.2).length):=aa (by have:=vy.o;simp only[List.length_cons]at this;omega)
     have jD:am (∀ (u:Value) (act:Act),OwnQ V g2 3 u ql (wD (r++st.2))->(∃ (u2 u3 u4 u6 u8 u9 u10 u11 u12 u13 u14 u15 u16 u17 u18 u19 u20 u21 u22 u23 u24 u25 u26 u27 u28 u29 u30 u31 u32 u33 u34 u35 u36 u37 u38 u39 u40 u41 u42 u43 u44 u45 u46 u47 u48 u49 u50 u51 u52 u53 u54 u55 u56 u57 u58 u59 u60 u61:Value),act={ tmps:=#[Value.pointer (some ⟨B,0,none⟩),Value.int .i64 f,u2,u3,u4,Value.pointer (some ⟨w.heap.size+1,0,none⟩),u6,Value.pointer (some ⟨V.heap.size,0,none⟩),u8,u9,u10,u11,u12,u13,u14,u15,u16,u17,u18,u19,u20,u21,u22,u23,u24,u25,u26,u27,u28,u29,u30,u31,u32,u33,u34,u35,u36,u37,u38,u39,u40,u41,u42,u43,u44,u45,u46,u47,u48,u49,u50,u51,u52,u53,u54,u55,u56,u57,u58,u59,u60,u61],defers:=mW (D' :: Ds) })->∃ m,m<n/\Wa s B f w m act (V.alloc (Obj.cells #[u] 38))):=aa (fun u act hu ⟨u2,u3,u4,u6,u8,u9,u10,u11,u12,u13,u14,u15,u16,u17,u18,u19,u20,u21,u22,u23,u24,u25,u26,u27,u28,u29,u30,u31,u32,u33,u34,u35,u36,u37,u38,u39,u40,u41,u42,u43,u44,u45,u46,u47,u48,u49,u50,u51,u52,u53,u54,u55,u56,u57,u58,u59,u60,u61,ha⟩=>by
      have aD:(r++st.2).length+MS s st.1<n:=by rw[HN.o];exact HMS.o
      have hV1:=oy.o.old.size;refine⟨_,aD,st.1,r++st.2,V.heap.size,D' :: Ds,_,_,_,_,_,_,_,_,_,_,_,_,_,_,_,_,_,_,_,_,_,_,_,_,_,_,_,_,_,_,_,_,_,_,_,_,_,_,_,_,_,_,_,_,_,_,_,_,_,_,_,_,_,_,_,_,_,_,ha,rfl,by omega,Dr.o,HBF2.o,by omega,by simp,?_⟩;have hz:(V.alloc (Obj.cells #[u] 38)).heap.size=V.heap.size+1:=by simp
      refine⟨oy.o.old.alloc hV1 _,az _ oy.o.box,az _ oy.o.row,⟨g2,u,aq _ _,by rw[<-wZ.o];exact hu.ck (.of_below (by go_grown)),k3,by omega,by omega,by omega,by omega⟩,?_⟩
      exact cU.cons (oy.o.marks.up (by go_grown)) (by omega) (az _ HK.o) hDl2)
     have ug:=aa (OwnQ.tail (x:=.int .i64 h) (xs:=wD (r++st.2)) De.o);by_cases hc:cap2=1
     ·subst hc;obtain rfl:ql=0:=by omega
      have CD:=ug.o;rw[if_pos rfl]at CD;have HG:am (∀ act,_->_):=aa (fun act=>jD.o _ act CD);clear CD
      go_wp2_with fail
      exact HG.o _ ⟨_,_,_,_,_,_,_,_,_,_,_,_,_,_,_,_,_,_,_,_,_,_,_,_,_,_,_,_,_,_,_,_,_,_,_,_,_,_,_,_,_,_,_,_,_,_,_,_,_,_,_,_,_,_,_,_,_,_,rfl⟩
     ·have CD:=ug.o;rw[if_neg hc]at CD;have HG:am (∀ act,_->_):=aa (fun act=>jD.o _ act CD);clear CD
      go_wp2_with fail
      exact HG.o _ ⟨_,_,_,_,_,_,_,_,_,_,_,_,_,_,_,_,_,_,_,_,_,_,_,_,_,_,_,_,_,_,_,_,_,_,_,_,_,_,_,_,_,_,_,_,_,_,_,_,_,_,_,_,_,_,_,_,_,_,rfl⟩
theorem Tryz.infoLink:(Tryz.prog.info? 75).map (fun i=>(i.zero,i.size,i.bytes))=some (some (.agg #[.int .i64 0,.int .i64 0]),2,16):=by kernel_rfl
theorem Vx(s:Sys) (e:Nat):(dV s e).Pairwise (·<·):=List.Pairwise.filter _ List.pairwise_lt_range
theorem Vy{s:Sys} {e i:Nat} {D:List Int} {d:Nat} (hi:i<(dV s e).length) (hd:D.getD ((dV s e).getD i 0) 0=d) (hb:∀ j,j<i->D.getD ((dV s e).getD j 0) 0≠d) (he:D.getD e 0≠d):gK s D d e=(dV s e).getD i 0:=by
 have e1:(dV s e).getD i 0=(dV s e)[i]:=aA 0 hi;rw[e1]at hd ⊢;obtain⟨h1,h2,h3⟩:=rx.1 (List.getElem_mem hi);unfold gK;rw[dB (eS s) (dV s e)[i] _ h1 (fun j hj=>?_) (by rw[hd,h2];simp),Int.toNat_natCast];cases FK:eT s e j with
 | false=>simp
 | true=>
  rw[Bool.and_true];refine decide_eq_false fun hdj=>?_
  have TZ:j∈dV s e:=rx.2 ⟨by omega,FK,fun e2=>he (by rw[<-e2];exact hdj)⟩;obtain⟨i',oU,e'⟩:=List.getElem_of_mem TZ;rcases Nat.lt_trichotomy i' i with aD|aD|aD
  ·exact hb i' aD (by rw[aA 0 oU,e'];exact hdj)
  ·subst aD;omega
  ·have:=List.pairwise_iff_getElem.1 (Vx s e) i i' hi oU aD;omega
theorem Vz{s:Sys} {f:Nat} (hf:f<eS s) {e d:Nat} (he:e<eS s) (h:(db s f).getD e 0=d+1) (hb:∀ j,j<(dV s e).length->(db s f).getD ((dV s e).getD j 0) 0≠d):False:=by
 obtain⟨h1,h2,h3,_⟩:=A6 hf he h;have hm:gK s (db s f) d e∈dV s e:=rx.2 ⟨h1,h3,fun e2=>by rw[e2]at h2;omega⟩;obtain⟨i,hi,e'⟩:=List.getElem_of_mem hm;exact hb i hi (by rw[aA 0 hi,e'];exact h2)
theorem nd{w:World} {base:Nat} {v:Value} {l:List Lk} (h:aI w base 75 2 v l.length (cH l)) (hx:∀ u∈l,bT u.x/\bT u.p) (hn:l.length<=17592186044416):bJ w v l:=by
 have aS:=fun i (hi:i<l.length) j (u:Value) (hj:j<2) (hu:l[i].c[j]?=some u)=>h.cell (i * 2+j) u (by unfold cH;rw[pK Lk.c 2 (fun _=>rfl) l i j hi hj];exact hu)
 rcases h.2 with ⟨hz,h0⟩|⟨g,cap,cur,fz,rfl,_,hg,_,jI,ja,_⟩
 ·refine⟨none,0,by rw[hz,h0],⟨by omega,by omega,fun _=>rfl⟩,hn,fun i x hi=>?_⟩;have:=(List.getElem?_eq_some_iff.1 hi).1;omega
 ·refine⟨some ⟨g,0,none⟩,cap,rfl,⟨jI,by simp only[maxLen]at ja;omega,fun e=>by cases e⟩,hn,fun i x hi=>⟨g,0,rfl,?_⟩⟩;obtain⟨gQ,rfl⟩:=List.getElem?_eq_some_iff.1 hi;obtain⟨r0,r1⟩:=hx _ (List.getElem_mem gQ)
  have key:∀ j u,j<2->l[i].c[j]?=some u->w.cell? ⟨g,0+i * 2+j,none⟩=some u:=fun j u hj hu=>by
   obtain⟨g',c',e1,e2⟩:=aS i gQ j u hj hu;have:g=g':=by simp at e1;exact e1.1
   rw[this,Nat.zero_add];exact e2
  exact⟨⟨key 0 _ (by omega) rfl,r0⟩,⟨key 1 _ (by omega) rfl,r1⟩⟩
theorem Bj(n:Nat) (q:Nat->Bool):-1<=firstIx n q/\firstIx n q<n\/firstIx n q=-1:=by
 rcases bI n q with ⟨e,_⟩|⟨k,hk,e,_⟩
 ·exact .inr e
 ·exact .inl ⟨by omega,by omega⟩
theorem La{s:Sys} (hn:nS s<=5) (hE:eS s<=4096) (D:List Int):∀ d e,∀ y∈kD s D d e,bT y.x/\bT y.p
 | 0,_,y,hy=>by simp[kD]at hy
 | d+1,e,y,hy=>by
  rw[kD]at hy;rcases List.mem_cons.1 hy with rfl|hy
  ·have h1:=Bj (eS s) fun g=>decide (D.getD g 0=d)&&eT s e g
   have h2:=Bj (nS s) fun p=>linkB s p e (gK s D d e)
   refine⟨?_,?_⟩
   ·show bT ((gK s D d e:Nat):Int)
    unfold gK;generalize firstIx (eS s) _=z at h1;exact⟨by omega,by omega⟩
   ·show bT (byP s e (gK s D d e))
    unfold byP;generalize firstIx (nS s) _=z at h2;exact⟨by omega,by omega⟩
  ·exact La hn hE D d _ y hy
structure WkI (s:Sys) (w w1:World) (b11 f cur:Nat) (l:List Lk) (Ds:List Nat) (V:World):Prop where
 old:Below w.heap.size w V
 fin:∀ k,w.heap.size+2<=k->k<w1.heap.size->V.heap[k]?=w1.heap[k]?
 far:V.heap[w1.heap.size]?=some (.cells (bG (db s f)) 3)
 fbox:V.heap[b11]?=some (.cells #[.slice (some ⟨w1.heap.size,0,none⟩) (eS s) (eS s)] 38)
 ebox:V.heap[w.heap.size+1]?=some (.cells #[.int .i64 cur] 3)
 walk:∃ v,V.heap[b11+2]?=some (.cells #[v] 54)/\aI V (b11+1) 75 2 v l.length (cH l)
 marks:cU w.heap.size Ds V
theorem WkI.sta{s:Sys} {w w1:World} {b11 f cur B:Nat} {l:List Lk} {Ds:List Nat} (hB:w.heap.size<=B) (hB1:w1.heap.size<=B) (hD:∀ E∈Ds,E<B) (N1:∀ k,w.heap.size+2<=k->k<w1.heap.size->∃ o,w1.heap[k]?=some o):cK B (WkI s w w1 b11 f cur l Ds):=fun A A' c h=>by
 obtain⟨v,h1,h2⟩:=h.walk;refine⟨c.below hB h.old.size h.old,fun k k1 k2=>?_,c.same _ _ h.far (.inr rfl),c.same _ _ h.fbox (.inr rfl),c.same _ _ h.ebox (.inr rfl),⟨v,c.same _ _ h1 (.inr rfl),h2.ck c.ck⟩,cK.marks hD A A' c h.marks⟩;obtain⟨o,ho⟩:=N1 k k1 k2;rw[ho];exact c.same _ _ ((h.fin k k1 k2).trans ho) (.inl (by omega))
def Wc(s:Sys) (B f:Nat) (full:List Lk) (w w1:World) (b11:Nat) (n:Nat) (act:Act) (W:World):Prop:=∃ (cur:Nat) (l:List Lk) (Ds:List Nat) (u0 u1 u5 u6 u7 u8 u10 u13 u14 u15 u16 u17 u18 u19 u20 u21 u22 u23 u24 u25 u26 u27 u28 u29 u30 u31 u32 u33 u34 u35 u36 u37 u38 u39 u40 u41 u42 u43 u44 u45 u46 u47 u48 u49 u50 u51 u52 u53 u54 u55 u56 u57 u58 u59 u60 u61 u62:Value),
 act={ tmps:=#[u0,u1,Value.int .i64 f,Value.pointer (some ⟨w.heap.size,0,none⟩),Value.pointer (some ⟨w.heap.size+1,0,none⟩),u5,u6,u7,u8,Value.pointer (some ⟨B,0,none⟩),u10,Value.pointer (some ⟨b11,0,none⟩),Value.pointer (some ⟨b11+2,0,none⟩),u13,u14,u15,u16,u17,u18,u19,u20,u21,u22,u23,u24,u25,u26,u27,u28,u29,u30,u31,u32,u33,u34,u35,u36,u37,u38,u39,u40,u41,u42,u43,u44,u45,u46,u47,u48,u49,u50,u51,u52,u53,u54,u55,u56,u57,u58,u59,u60,u61,u62],defers:=mW Ds }/\cur<eS s/\(db s f).getD cur 0=n/\l++kD s (db s f) n cur=full/\b11+2<W.heap.size/\WkI s w w1 b11 f cur l Ds W
theorem PH(s:Sys) (hv:verifyE s=0) (hE:eS s<=256) (vc vs vt ve:Value) (e f:Nat) (he:e<eS s) (hf:f<eS s) (hD:0<=(db s f).getD e 0) (w:World) (hs:IsSys w s vc vs vt ve) (hN:movesN s.prob.a.states<1099511627776) :
  Calls Tryz.prog 90 #[.agg (cj s.prob vc vs s.n vt ve),.int .i64 e,.int .i64 f] w fun r w'=>∃ u,r=.returned (.tuple #[u,.bool true,.int .i64 0])/\(bJ w' u (⟨e,-1⟩ :: kn s e f)/\∀ k,u.ownBlock=some k->w.heap.size<=k)/\Below w.heap.size w w':=by
 have HS:=aa hs;obtain⟨⟨pc,cc,rfl⟩,⟨ps,cs,rfl⟩,⟨pt,ct,rfl⟩,⟨pe,ce,rfl⟩⟩:=bM hs;clear hs
 have HC:am (∀ W,Below w.heap.size w W->∀ vl,aX W vl [(e:Int),f]->_):=aa (fun W (hb:Below w.heap.size w W) vl (hl:aX W vl [(e:Int),f])=>MJ s hv _ _ _ _ vl [(e:Int),f] W (HS.o.up hb) hN hl (fun k hk=>by
  rcases k with _|_|k
  ·exact⟨by simp,by simpa using he⟩
  ·exact⟨by simp,by simpa using hf⟩
  ·simp at hk;omega))
 have dI:=aa (iZ hv);have HE:=aa he;have Dd:=aa hf;have HDD:=aa hD;obtain⟨i0,cY,cC,bY,cD⟩:=info_parts Tryz.infoLink;obtain⟨full,pY⟩:∃ full,(⟨e,-1⟩ :: kn s e f:List Lk)=full:=⟨_,rfl⟩;rw[pY];have JN:=aa pY;clear hv hD pY;refine gd Tryz.func90 rfl ?_;simp only[Tryz.ntmps90,List.size_toArray,List.length_cons,List.length_nil,Nat.reduceAdd,Nat.reduceSub,Array.replicate_succ,Array.replicate_zero,List.push_toArray,List.append_toArray,List.nil_append,List.cons_append]
 go_wp2_with fail
 refine aQ (fun W=>Below w.heap.size w W/\W.heap[w.heap.size+1]?=some (.cells #[.int .i64 e] 3)/\W.heap[w.heap.size+1+1]?=some (.cells (bG [(e:Int),f]) 3)) ⟨by go_grown,az _ (bz _ _ _),eA _ _ _ _⟩ (fun W0 bh=>?_);obtain⟨aJ,vE,WA⟩:=bh;have mU:=aC WA;refine(HC.o W0 aJ _ (rD (by rfl) (by decide) WA fun i hi=>?_)).mono ?_
 ·have:i=0\/i=1:=by simp at hi;omega
  have h1:=HE.o;have h2:=Dd.o;rcases this with rfl|rfl
  ·exact⟨by simp<;>omega,by simp<;>omega⟩
  ·exact⟨by simp<;>omega,by simp<;>omega⟩
 rintro r w1 ⟨B,rfl,aM,hF1,Li⟩;have AG:=af aM vE;have bL:=aa (ae aJ aM);have kJ:=aa AG;have gy:=aa (Li.mono (show w.heap.size+2<=W0.heap.size by omega));have fV:w.heap.size+1<w1.heap.size:=by have:=aM.size;omega
 clear aJ vE WA aM hF1 Li AG mU HC W0
 go_wp2_with fail
 refine(PG s dI.o hE B f Dd.o _ w1 gy.o).mono ?_;rintro r w2 ⟨rfl,Nj,aY⟩;have dW:=af aY kJ.o;have tx2:∀ o,(w2.alloc o).cell? ⟨w.heap.size+1,0,none⟩=some (.int .i64 e):=fun o=>(ab (az o dW) 0).trans rfl
 have tfe:∀ o,(w2.alloc o).cell? ⟨w1.heap.size,e,none⟩=some (.int .i64 ((db s f).getD e 0)):=fun o=>(ab (az o Nj) e).trans (gi _ _ (by rw[wl];exact he))
 obtain⟨n0,oJ⟩:∃ n0:Nat,(db s f).getD e 0=n0:=⟨((db s f).getD e 0).toNat,by have:=HDD.o;omega⟩;rw[oJ]at tfe;have QC:=aa oJ;obtain⟨m,hm⟩:∃ m,eS s=m:=⟨_,rfl⟩;have HM:=aa hm;have cV:=aa aY;have HFAR:=aa Nj;have fY:=aa dW;have iT:w1.heap.size<w2.heap.size:=aC Nj;rw[hm]at hE he hf ⊢;clear aY Nj dW oJ hm;have pY:=JN.o
 have N3:am (full.length<=257/\∀ y∈full,bT y.x/\bT y.p):=aa (by
  have h1:=(xZ (s:=s) Dd.o n0 e HE.o QC.o).2.2;have h2:=DO (s:=s) Dd.o e HE.o;have h3:=QC.o;have h4:=HM.o;rw[<-pY];unfold kn;rw[h3,Int.toNat_natCast];refine⟨by simp only[List.length_cons,h1];omega,fun y hy=>?_⟩;rcases List.mem_cons.1 hy with rfl|hy
  ·exact⟨⟨by dsimp only;omega,by dsimp only;omega⟩,⟨by dsimp only;omega,by dsimp only;omega⟩⟩
  ·exact La dI.o.n.2.1 (by omega) _ _ _ y hy)
 have HFULL:am ([(⟨e,-1⟩:Lk)]++kD s (db s f) n0 e=full):=aa (by rw[<-pY];unfold kn;rw[QC.o,Int.toNat_natCast];rfl);clear pY
 go_wp2_with fail
 have Bu:am (∀ (cur:Nat) (l:List Lk) (Ds:List Nat) (B0:Nat),w1.heap.size<=B0->(∀ E∈Ds,E<B0)->cK B0 (WkI s w w1 w2.heap.size f cur l Ds)):=aa (fun cur l Ds B0 h1 h2=>WkI.sta (by omega) h1 h2 fun k _ hk=>⟨w1.heap[k],by rw[Array.getElem?_eq_getElem hk]⟩)
 have iH:am (WkI s w w1 w2.heap.size f e [⟨e,-1⟩] [] (((w2.alloc (Obj.cells #[Value.slice (some { block:=w1.heap.size,off:=0 }) m m] 38)).alloc (Obj.cells #[Value.int .i64 e,Value.int .i64 (-1)] 75)).alloc (Obj.cells #[Value.slice (some { block:=w2.heap.size+1,off:=0 }) 1 1] 54))):=aa (by
  have hg:Below w2.heap.size w2 (((w2.alloc (Obj.cells #[Value.slice (some { block:=w1.heap.size,off:=0 }) m m] 38)).alloc (Obj.cells #[Value.int .i64 e,Value.int .i64 (-1)] 75)).alloc (Obj.cells #[Value.slice (some { block:=w2.heap.size+1,off:=0 }) 1 1] 54)):=by go_grown
  refine⟨ae bL.o (ae cV.o hg),fun k _ hk=>?_,af hg HFAR.o,?_,af hg fY.o,⟨_,eA _ _ _ _,?_⟩,cU.nil _ _⟩
  ·rw[hg.block k (by omega),cV.o.block k hk]
  ·rw[HM.o];exact az _ (az _ (aq _ _))
  ·exact⟨rfl,.inr ⟨w2.heap.size+1,1,_,(0,0),rfl,Nat.le_refl _,az _ (bz _ _ _),fun i _ h=>by have:=h.2;simp at this,Nat.le_refl _,by unfold maxLen;omega,rfl,rfl⟩⟩)
 refine AW (fun n act W=>Wc s B f full w w1 w2.heap.size n act W) n0 ?start ?round
 case start=>exact⟨e,[⟨e,-1⟩],[],_,_,_,_,_,_,_,_,_,_,_,_,_,_,_,_,_,_,_,_,_,_,_,_,_,_,_,_,_,_,_,_,_,_,_,_,_,_,_,_,_,_,_,_,_,_,_,_,_,_,_,_,_,_,_,_,_,rfl,HE.o,QC.o,HFULL.o,by simp,iH.o⟩
 case round=>
  clear iH QC HFULL tx2 tfe fY HFAR kJ;generalize w2.heap.size=b11 at iT Bu cV;rintro n act W ⟨cur,l,Ds,u0,u1,u5,u6,u7,u8,u10,u13,u14,u15,u16,u17,u18,u19,u20,u21,u22,u23,u24,u25,u26,u27,u28,u29,u30,u31,u32,u33,u34,u35,u36,u37,u38,u39,u40,u41,u42,u43,u44,u45,u46,u47,u48,u49,u50,u51,u52,u53,u54,u55,u56,u57,u58,u59,u60,u61,u62,rfl,bX,hcd,pY,dx,hI⟩;obtain⟨v,jU,bg⟩:=hI.walk;obtain⟨av,cv,rfl⟩:=bg.slice;have te:=ab hI.ebox 0;have tw:=ab jU 0;simp at te tw;have HI:=aa hI;have ox:=aa jU;have bO:=aa bg;have IP:=aa hcd;have AQ:=aa pY;have iU:=aa bX;clear hI jU bg hcd pY;by_cases Qj:cur=f
  ·have bP:((cur:Int) != (f:Int))=false:=by simp[Qj]
   have HL:am (l=full):=aa (by
    have h0:=(lm (s:=s) (f:=f) Dd.o).zero;have h1:=IP.o;rw[Qj]at h1;have h2:n=0:=by omega
    have h3:=AQ.o;rw[h2]at h3
    simpa[kD] using h3)
   clear Qj
   go_wp2_with fail
   refine rf HI.o.marks (v:=.tuple #[.slice av l.length cv,.bool true,.int .i64 0]) ?_ ⟨_,rfl,?_,mA (fun D hD=>(HI.o.marks.2 D hD).1) (Nat.le_refl _) HI.o.old⟩
   ·simp[results,Tryz.results90,go_sem]
   ·rw[HL.o]at bO ⊢;exact⟨nd (bO.o.ck (rc HI.o.marks)) N3.o.2 (by have:=N3.o.1;omega),fun k hk=>by have:=(bO.o.lt k hk).1;omega⟩
  ·have bP:((cur:Int) != (f:Int))=true:=by simp;omega
   obtain⟨d,hd⟩:∃ d,n=d+1:=by
    refine⟨n - 1,?_⟩;rcases Nat.eq_zero_or_pos n with h0|h0
    ·exact absurd ((lm (s:=s) (f:=f) Dd.o).only cur bX (by rw[IP.o,h0];rfl)) Qj
    ·omega
   have Gg:=aa hd;clear Qj hd
   go_wp2_with fail
   refine(uY B cur W).mono ?_;rintro r w3 ⟨rfl,rfl⟩;clear te tw
   go_wp2_with fail
   have lU:∀ E∈Ds,E<W.heap.size:=HI.o.marks.lt;refine bF (fun V=>WkI s w w1 b11 f cur l Ds V/\V.heap[W.heap.size]?=some (.cells #[.pointer (some ⟨B,0,none⟩)] 196)/\V.heap[W.heap.size+1]?=some (.cells #[.int .i64 cur] 3)/\W.heap.size+1<V.heap.size) ⟨Bu.o cur l Ds W.heap.size (by omega) lU _ _ (Chg.of_below (by go_grown)) HI.o,az _ (aq _ _),bz _ _ _,by simp⟩ (fun W1 cO=>?_);obtain⟨xy,AG,IY,Xi⟩:=cO;have dj:=sQ s dI.o B cur W.heap.size (W.heap.size+1) iU.o (w.heap.size+2) w1 gy.o W1 (fun k h1 h2=>xy.fin k h1 h2) (by omega) (by simp[ab AG]) (by simp[ab IY]);have gr:am (∀ i,i<(dV s cur).length->(db s f).getD ((dV s cur).getD i 0) 0=d->(∀ j,j<i->(db s f).getD ((dV s cur).getD j 0) 0≠d)->gK s (db s f) d cur=(dV s cur).getD i 0):=aa (fun i h1 h2 h3=>Vy h1 h2 h3 (by have:=IP.o;have:=Gg.o;omega))
   refine mI (gf:=179) (lb:=#[.pointer (some ⟨W.heap.size,0,none⟩),.pointer (some ⟨W.heap.size+1,0,none⟩)]) rfl (enters_of Tryz.func179 (by kernel_rfl) rfl) dj (Below.refl _ _) (fun k hk=>by rcases hk with hk|rfl|rfl<;>omega) (fun i=>rfl)
    (fun i V=>(WkI s w w1 b11 f cur l Ds V/\V.heap[W.heap.size]?=some (.cells #[.pointer (some ⟨B,0,none⟩)] 196)/\V.heap[W.heap.size+1]?=some (.cells #[.int .i64 cur] 3))/\∀ j,j<i->(db s f).getD ((dV s cur).getD j 0) 0≠d)
    (fun c i V=>c=.exit 2/\WkI s w w1 b11 f (gK s (db s f) d cur) (l++[⟨gK s (db s f) d cur,byP s cur (gK s (db s f) d cur)⟩]) Ds V)
    (fun i=>((Bu.o cur l Ds _ (by omega) (fun E hE=>by have:=lU E hE;omega)).and (cK.cells.and cK.cells)).and cK.pure) (fun c i=>cK.pure.and (Bu.o _ _ Ds _ (by omega) (fun E hE=>by have:=lU E hE;omega))) ⟨⟨xy,AG,IY⟩,fun j hj=>by omega⟩ ?rnd ?done ?stop
   case done=>
    intro D' V hD iE hK;exact(Vz Dd.o iU.o (by rw[IP.o,Gg.o];rfl) iE.2).elim
   case stop=>
    rintro D' c i V hD hi ⟨rfl,iE⟩ hK
    have HG:am (∀ act:Act,(∃ (u0 u1 u5 u6 u7 u8 u10 u13 u14 u15 u16 u17 u18 u19 u20 u21 u22 u23 u24 u25 u26 u27 u28 u29 u30 u31 u32 u33 u34 u35 u36 u37 u38 u39 u40 u41 u42 u43 u44 u45 u46 u47 u48 u49 u50 u51 u52 u53 u54 u55 u56 u57 u58 u59 u60 u61 u62:Value),act={ tmps:=#[u0,u1,Value.int .i64 f,Value.pointer (some ⟨w.heap.size,0,none⟩),Value.pointer (some ⟨w.heap.size+1,0,none⟩),u5,u6,u7,u8,Value.pointer (some ⟨B,0,none⟩),u10,Value.pointer (some ⟨b11,0,none⟩),Value.pointer (some ⟨b11+2,0,none⟩),u13,u14,u15,u16,u17,u18,u19,u20,u21,u22,u23,u24,u25,u26,u27,u28,u29,u30,u31,u32,u33,u34,u35,u36,u37,u38,u39,u40,u41,u42,u43,u44,u45,u46,u47,u48,u49,u50,u51,u52,u53,u54,u55,u56,u57,u58,u59,u60,u61,u62],defers:=mW (D' :: Ds) })->∃ m,m<n/\Wc s B f full w w1 b11 m act V):=aa (by
     rintro act ⟨u0,u1,u5,u6,u7,u8,u10,u13,u14,u15,u16,u17,u18,u19,u20,u21,u22,u23,u24,u25,u26,u27,u28,u29,u30,u31,u32,u33,u34,u35,u36,u37,u38,u39,u40,u41,u42,u43,u44,u45,u46,u47,u48,u49,u50,u51,u52,u53,u54,u55,u56,u57,u58,u59,u60,u61,u62,ha⟩;have h1:=Gg.o;have h2:=A6 (s:=s) Dd.o iU.o (d:=d) (by rw[IP.o,h1];rfl);obtain⟨v5,k1,_⟩:=iE.walk;refine⟨d,by omega,_,_,D' :: Ds,_,_,_,_,_,_,_,_,_,_,_,_,_,_,_,_,_,_,_,_,_,_,_,_,_,_,_,_,_,_,_,_,_,_,_,_,_,_,_,_,_,_,_,_,_,_,_,_,_,_,_,_,_,_,_,_,_,ha,h2.1,h2.2.1,?_,aC k1,{ iE with marks:=cU.cons iE.marks (by omega) hK fun E hE=>by have:=lU E hE;omega }⟩;have h3:=AQ.o;rw[h1]at h3;rw[<-h3,List.append_assoc]
     rfl)
    clear iE hK dj xy AG IY
    go_wp2_with fail
    exact HG.o _ ⟨_,_,_,_,_,_,_,_,_,_,_,_,_,_,_,_,_,_,_,_,_,_,_,_,_,_,_,_,_,_,_,_,_,_,_,_,_,_,_,_,_,_,_,_,_,_,_,_,_,_,_,_,_,_,_,_,_,rfl⟩
   case rnd=>
    intro yl i V hi hl iE;obtain⟨iE,jv⟩:=iE;unfold Iq;obtain⟨nb,iK⟩:∃ nb,(dV s cur).getD i 0=nb:=⟨_,rfl⟩
    have kO:nb<eS s:=by
     rw[<-iK,aA 0 hi];exact(rx.1 (List.getElem_mem hi)).1
    have HNXT:=aa (fun h=>gr.o i hi h jv);have fZ:am ((db s f).getD nb 0≠d->∀ j,j<i+1->(db s f).getD ((dV s cur).getD j 0) 0≠d):=aa (fun h=>aW jv (by rw[iK];exact h));rw[iK]at HNXT ⊢;have oy:=aa iE;obtain⟨pv,WV⟩:∃ pv,byP s cur nb=pv:=⟨_,rfl⟩;rw[WV];have Ju:=aa WV;clear iE dj iK jv WV xy AG IY
    gi_wp2
    refine⟨Bod.refl _ _ _,fun V=>WkI s w w1 b11 f cur l Ds V/\V.heap[W.heap.size]?=some (.cells #[.pointer (some ⟨B,0,none⟩)] 196)/\V.heap[W.heap.size+1]?=some (.cells #[.int .i64 cur] 3),(Bu.o cur l Ds _ (by omega) (fun E hE=>by have:=lU E hE;omega)).and (cK.cells.and cK.cells),oy.o,fun V2 h2 jz=>?_⟩;obtain⟨rlp,jz⟩:=jz;have I':=aC jz;clear jz rlp;obtain⟨h2,dW,iJ⟩:=h2;obtain⟨v2,k1,k2⟩:=h2.walk;obtain⟨av2,cv2,rfl⟩:=k2.slice;have df:=aa h2;have UK:=aa k1;have De:=aa k2;have fY:=aa dW;have vI:=aa iJ;have tf:=ab h2.fbox 0;have te:=ab h2.ebox 0;have tn:=ab h2.far nb;have tc:=ab h2.far cur;rw[gi _ _ (by rw[wl];exact kO)]at tn;rw[gi _ _ (by rw[wl];exact bX),IP.o]at tc;simp at tf te;rw[HM.o]at tf;have yf:∀ z:ExtW V2,z.val.cell? ⟨b11,0,none⟩=_:=fun z=>z.cell tf
    have ye:∀ z:ExtW V2,z.val.cell? ⟨w.heap.size+1,0,none⟩=_:=fun z=>z.cell te
    have jx:IntKind.i64.wrap ((n:Int) - 1)=(d:Int):=by have:=Gg.o;have:=N3.o.1;have h5:=congrArg List.length AQ.o;rw[IntWalk.i64_in _ (by have h6:=DO (s:=s) Dd.o cur bX;have:=IP.o;have:=HM.o;omega)];omega
    have hnm:nb<m:=by have:=HM.o;omega
    have qn:cur<m:=by have:=HM.o;omega
    clear h2 k1 k2 dW iJ;by_cases L0:(db s f).getD nb 0=d
    ·have iG:=aa (HNXT.o L0);rw[L0]at tn;have yn:∀ z:ExtW V2,z.val.cell? ⟨w1.heap.size,nb,none⟩=_:=fun z=>z.cell tn
     have yc:∀ z:ExtW V2,z.val.cell? ⟨w1.heap.size,cur,none⟩=_:=fun z=>z.cell tc
     clear L0 tn tc tf te
     gi_wp2
     refine p7 (fun ⟨_,_,h⟩=>h) (by kernel_rfl) (by kernel_rfl) (by kernel_rfl) ?_
     repeat (go_big_quiet_step (fail))
     refine wpQuiet_nil ?_;rintro _ ⟨xq,rfl⟩;have qD:=xq.ext;generalize xq.val=V3 at qD ⊢;clear yf ye yn yc;have I9:=aa qD;have h3:=Bu.o cur l Ds W1.heap.size (by omega) (fun E hE=>by have:=lU E hE;omega) _ _ (Chg.of_below qD) df.o;have k1:=af qD UK.o;have k2:=De.o.ck (.of_below qD);have Jq:=qD.size;have tw:=ab k1 0;simp at tw;have rM:=aa h3;have oH:=aa k1;have dm:=aa (k2.up ((Below.refl _ V3).alloc (Nat.le_refl _) (.cells #[.int .i64 nb,.int .i64 pv] 75)));have bE:=aa (dR V3 [.int .i64 nb,.int .i64 pv] 75);have kY:am (l.length+1<=300):=aa (by have h5:=congrArg List.length AQ.o;have:=N3.o.1;simp only[List.length_append]at h5;omega);have jJ:am (l.length+1<=maxLen):=aa (by have:=kY.o;unfold maxLen;omega);have eV:am ((l.length+1) * 16<=140737488355328):=aa (by have:=kY.o;omega);have gm:am (b11+1<=(V3.alloc (.cells #[.int .i64 nb,.int .i64 pv] 75)).heap.size):=aa (by simp;omega);have hne1:¬ (b11+2=w.heap.size+1):=by omega
     clear qD h3 k1 k2
     go_wp2_with fail
     gi_wp2_with (gi_at_builtin;(refine qS _ rfl (.tmp 55) (.tmp 59) 54 rfl (b11+1) 75 i0 _ 2 16 Tryz.underlying54 cY cC bY cD rfl (by decide) _ l.length _ rfl dm.o ⟨V3.heap.size,0,none⟩ 1 1 [.int .i64 nb,.int .i64 pv] rfl rfl bE.o (by simp[Value.oneCell']) jJ.o eV.o gm.o ?_;intro v4 w4 mD fc _;obtain⟨av4,cv4,rfl⟩:=mD.slice;have vA:=gW dm.o fc oH.o (by decide);have Ut:=gW dm.o fc rM.o.ebox (by decide);have c4:=ab vA 0;have f4:=aG vA 0;have c5:=ab Ut 0;have f5:=aG Ut 0;simp at c4 c5))
     have yH:=fc.size;simp only[World.size_alloc]at yH;have P9:∀ k,k<V3.heap.size->(∀ g,(Value.slice av2 l.length cv2).ownBlock=some g->k≠g)->w4.heap[k]?=V3.heap[k]?:=fun k h1 h2=>(fc.block k (by simp;omega) (fun e=>h2 k e.symm rfl)).trans (Below.heap_alloc V3 _ k h1)
     have sY:∀ (k:Nat) (o:Obj),V3.heap[k]?=some o->o.isCells=false->((w4.setCell ⟨b11+2,0,none⟩ (.slice av4 (l.length+1) cv4)).setCell ⟨w.heap.size+1,0,none⟩ (.int .i64 nb)).heap[k]?=some o:=fun k o ho hc=>by
      have n1:k≠w.heap.size+1:=fun e=>by subst e;rw[rM.o.ebox]at ho;cases ho;cases hc
      have n2:k≠b11+2:=fun e=>by subst e;rw[oH.o]at ho;cases ho;cases hc
      rw[Below.heap_setCell _ _ _ _ n1,Below.heap_setCell _ _ _ _ n2];exact mZ dm.o fc ho hc
     have Ty:∀ (k:Nat) (c:Array Value) (ty:TypeId) (fz:Nat × Nat),V3.heap[k]?=some (.cells c ty fz)->75≠ty->k≠w.heap.size+1->k≠b11+2->((w4.setCell ⟨b11+2,0,none⟩ (.slice av4 (l.length+1) cv4)).setCell ⟨w.heap.size+1,0,none⟩ (.int .i64 nb)).heap[k]?=some (.cells c ty fz):=fun k c ty fz h1 h2 h3 h4=>by
      rw[Below.heap_setCell _ _ _ _ h3,Below.heap_setCell _ _ _ _ h4];exact gW dm.o fc h1 h2
     have xl:=af I9.o fY.o;have hy3:=af I9.o vI.o;refine⟨⟨by simp;have:=I9.o.size;omega,fun k hk=>?_,fun k o _ ho hc=>sY k o (af I9.o ho) hc⟩,rfl,?_⟩
     ·rcases hk with hk|rfl|rfl
      ·have h1:=w1.heap[k];have h2:V2.heap[k]?=some w1.heap[k]:=(df.o.fin k hk.1 hk.2).trans (by rw[Array.getElem?_eq_getElem hk.2]);rw[h2,Below.heap_setCell _ _ _ _ (by dsimp only;omega),Below.heap_setCell _ _ _ _ (by dsimp only;omega)];exact sE dm.o fc (af I9.o h2) (by omega)
      ·rw[fY.o];exact Ty _ _ _ _ xl (by decide) (by omega) (by omega)
      ·rw[vI.o];exact Ty _ _ _ _ hy3 (by decide) (by omega) (by omega)
     ·rw[iG.o,Ju.o];refine⟨((eI rM.o.old (by omega) dm.o fc).setCell (by dsimp only;omega) _).setCell (by dsimp only;omega) _,fun k h1 h2=>?_,?_,?_,?_,⟨_,aN (aH vA _ _) (by omega) _ _,?_⟩,rM.o.marks.keep sY⟩
      ·have h3:V3.heap[k]?=some w1.heap[k]:=(rM.o.fin k h1 h2).trans (by rw[Array.getElem?_eq_getElem h2]);rw[Array.getElem?_eq_getElem h2,Below.heap_setCell _ _ _ _ (by dsimp only;omega),Below.heap_setCell _ _ _ _ (by dsimp only;omega)];exact sE dm.o fc h3 (by omega)
      ·exact Ty _ _ _ _ rM.o.far (by decide) (by omega) (by omega)
      ·exact Ty _ _ _ _ rM.o.fbox (by decide) (by omega) (by omega)
      ·exact aH (aN Ut (by omega) _ _) _ _
      ·have e1:(l++[(⟨nb,pv⟩:Lk)]).length=l.length+1:=by simp
       have e2:cH (l++[(⟨nb,pv⟩:Lk)])=cH l++[Value.int .i64 nb,Value.int .i64 pv]:=by rw[kq];rfl
       rw[e1,e2];have o5:=mD.put (mD.ne vA (by decide)) 0 (Value.slice av4 (l.length+1) cv4);exact o5.put (o5.ne (aN Ut (by omega) 0 (Value.slice av4 (l.length+1) cv4)) (by decide)) _ _
    ·have Sz:=aa (fZ.o L0);have hdne:((db s f).getD nb 0 == (d:Int))=false:=beq_eq_false_iff_ne.2 L0;generalize (db s f).getD nb 0=dn at tn hdne;have yn:∀ z:ExtW V2,z.val.cell? ⟨w1.heap.size,nb,none⟩=_:=fun z=>z.cell tn
     have yc:∀ z:ExtW V2,z.val.cell? ⟨w1.heap.size,cur,none⟩=_:=fun z=>z.cell tc
     clear L0 tn tc tf te
     gi_wp2
     refine p7 (fun ⟨_,_,h⟩=>h) (by kernel_rfl) (by kernel_rfl) (by kernel_rfl) ?_
     repeat (go_big_quiet_step (fail))
     refine wpQuiet_nil ?_;rintro _ ⟨xq,rfl⟩;have qD:=xq.ext;generalize xq.val=V3 at qD ⊢;clear yf ye yn yc hdne
     gi_wp2
     exact⟨Bod.of_below (fun k hk=>by rcases hk with hk|rfl|rfl<;>omega) qD,⟨Bu.o cur l Ds W1.heap.size (by omega) (fun E hE=>by have:=lU E hE;omega) _ _ (Chg.of_below qD) df.o,af qD fY.o,af qD vI.o⟩,Sz.o⟩
theorem VA(d:Nat) (a b:Lk) (w:World):(Op.equalIn (d+2) 75 a.v b.v).run Tryz.prog w=.ok (decide (a=b)) w:=by
 have hS:Tryz.prog.underlying 75=some (.struct (Tryz.prog.fieldsOf 75)):=by kernel_rfl
 have hp:Tryz.prog.stoodInHeld 75=false:=by kernel_rfl
 rw[run_equalIn_struct w (d+1) 75 _ _ hS hp];have ag:=Tryz.isAgg3;have u3:=Tryz.underlying3;simp only[Program.fieldsOf,Tryz.underlying75];simp[Op.eqFields,part,ag,run_equalIn_int w d 3 _ .i64 _ _ u3];obtain⟨n,k⟩:=a;obtain⟨m,l⟩:=b;by_cases hn:n=m
 case neg=>simp[hn]
 by_cases hk:k=l<;>simp[hn,hk]
theorem Wd(a b:Lk) (w:World):(binOp .neq 75 a.v b.v).run Tryz.prog w=.ok (.bool (!decide (a=b))) w:=by
 rw[run_neq_struct,VA 9998];rfl
theorem MX(va vb:Value) (a b:List Lk) (w:World) (ha:bJ w va a) (hb:bJ w vb b) :
  Calls Tryz.prog 53 #[va,vb] w fun e w'=>e=.returned (.bool (decide (a=b)))/\Below w.heap.size w w':=by
 obtain⟨pa,ca,rfl,la1,la2,ea⟩:=ha.at;obtain⟨pb,cb,rfl,lb1,lb2,eb⟩:=hb.at;have EA:=aa ea;have EB:=aa eb;have gV:am (a.length=b.length->(∀ j,j<a.length->a.getD j default=b.getD j default)->decide (a=b)=true):=aa fun h1 h2=>decide_eq_true (fm default h1 h2)
 have iG:am (a.length≠b.length->decide (a=b)=false):=aa fun h=>decide_eq_false fun e=>h (by rw[e])
 have oQ:am (∀ j,j<a.length->a.getD j default≠b.getD j default->decide (a=b)=false):=aa fun j _ h=>decide_eq_false fun e=>h (by rw[e])
 generalize decide (a=b)=r at gV iG oQ ⊢;clear ha hb ea eb
 go_enter Tryz.func53,Tryz.ntmps53
 by_cases hl:a.length=b.length
 case neg=>
  have hd:(((a.length:Nat):Int) != ((b.length:Nat):Int))=true:=by simp;omega
  have HR:=aa (iG.o hl);clear hl
  go_wp2_with fail
  go_ret
  exact⟨aR (by rw[HR.o]),Below.refl _ _⟩
 have HL:=aa hl;obtain⟨n,hn⟩:∃ n,a.length=n:=⟨_,rfl⟩;have iK:b.length=n:=by omega
 have HN:=aa hn;have AN:=aa iK;rw[hn]at la1 la2 ⊢;rw[iK]at lb1 lb2 ⊢;clear hl hn iK;have hd:((n:Int) != (n:Int))=false:=by simp
 go_wp2_with fail
 go_loopw [5] (fun i wr=>∃ k:Nat,k<=n/\i=.int .i64 k/\Below w.heap.size w wr/\∀ j,j<k->a.getD j default=b.getD j default) (fun i _=>n - (intOf i).toNat)
 ·exact⟨0,by omega,rfl,Below.refl _ _,fun j hj=>by omega⟩
 ·
  obtain⟨k,hk,rfl,aB,aV⟩:=hrel;have H:=aa aV;have aU:=aa aB;clear aV;by_cases aD:k<n
  ·obtain⟨b1,o1,rfl,h1⟩:=EA.o k (by rw[HN.o];exact aD);obtain⟨b2,o2,rfl,h2⟩:=EB.o k (by rw[AN.o];exact aD);have qF:=aa (aA (default:Lk) (show k<a.length by rw[HN.o];exact aD));have rV:=aa (aA (default:Lk) (show k<b.length by rw[AN.o];exact aD));generalize a[k]'(by rw[HN.o];exact aD)=x at h1 qF;generalize b[k]'(by rw[AN.o];exact aD)=y at h2 rV;have c0:∀ z:ExtW wr,z.val.cell? ⟨b1,o1+k * 2,none⟩=_:=fun z=>z.cell (ak aB h1.1.1)
   have c1:∀ z:ExtW wr,z.val.cell? ⟨b1,o1+k * 2+1,none⟩=_:=fun z=>z.cell (ak aB h1.2.1)
   have d0:∀ z:ExtW wr,z.val.cell? ⟨b2,o2+k * 2,none⟩=_:=fun z=>z.cell (ak aB h2.1.1)
   have d1:∀ z:ExtW wr,z.val.cell? ⟨b2,o2+k * 2+1,none⟩=_:=fun z=>z.cell (ak aB h2.2.1)
   have jX:=fun w=>Wd x y w
   clear h1 h2 aB;cases cG:decide (x=y) with
   | true=>
    have oG:=aa (of_decide_eq_true cG);rw[cG]at jX;clear cG
    go_wp2_with fail
    refine aE (by kernel_rfl) (by kernel_rfl) ?_
    repeat (go_big_quiet_step (fail))
    refine wpQuiet_nil ?_;rintro _ ⟨xq,rfl⟩;clear c0 c1 d0 d1 jX
    go_wp2_with fail
    go_roundw
    ·exact⟨k+1,by omega,by go_num,ae aU.o xq.ext,aW (p:=fun j=>a.getD j default=b.getD j default) H.o (by rw[qF.o,rV.o];exact oG.o)⟩
    ·simp[intOf];omega
   | false=>
    have HR:=aa (oQ.o k (by rw[HN.o];exact aD) (by rw[qF.o,rV.o];exact of_decide_eq_false cG));rw[cG]at jX;clear cG
    go_wp2_with fail
    refine aE (by kernel_rfl) (by kernel_rfl) ?_
    repeat (go_big_quiet_step (fail))
    refine wpQuiet_nil ?_;rintro _ ⟨xq,rfl⟩;clear c0 c1 d0 d1 jX
    go_wp2_with fail
    go_ret
    exact⟨aR (by rw[HR.o]),ae aU.o xq.ext⟩
  ·obtain rfl:k=n:=by omega
   have HR:=aa (gV.o HL.o fun j hj=>H.o j (by have:=HN.o;omega))
   go_wp2_with fail
   go_ret
   exact⟨aR (by rw[HR.o]),aU.o⟩
theorem MY(v:Value) (l:List Int) (w:World) (hv:aX w v l) :
  Calls Tryz.prog 131 #[v] w fun e w'=>e=.returned (.bool (constB l))/\Below w.heap.size w w':=by
 obtain⟨pl,cl,rfl,el⟩:=dY hv;obtain⟨_,_,_,_,cN,_⟩:=hv.at;have EL:=aa el;have Lh:am (constB l=!(anyLt l.length fun i=>decide (l.getD i 0≠l.getD 0 0))):=aa rfl;have fZ:am (∀ k,k<l.length->l.getD k 0≠l.getD 0 0->constB l=false):=aa fun k hk h=>by rw[Lh.o,Rf hk (decide_eq_true h)];rfl
 have jT:am ((∀ k,k<l.length->l.getD k 0=l.getD 0 0)->constB l=true):=aa fun h=>by rw[Lh.o,eQ _ _ fun k hk=>decide_eq_false (fun h'=>h' (h k hk))];rfl
 generalize constB l=r at fZ jT ⊢;obtain⟨x0,dq⟩:∃ x0,l.getD 0 0=x0:=⟨_,rfl⟩;have yV:=aa dq;rw[dq]at fZ jT;clear dq;obtain⟨n,hn⟩:∃ n,l.length=n:=⟨_,rfl⟩;rw[hn]at EL fZ jT cN ⊢;clear hv el Lh hn
 go_enter Tryz.func131,Tryz.ntmps131
 go_wp2_with fail
 go_loopw [3] (fun i wr=>∃ k:Nat,k<=n/\i=.int .i64 k/\Below w.heap.size w wr/\∀ j,j<k->l.getD j 0=x0) (fun i _=>n - (intOf i).toNat)
 ·exact⟨0,by omega,rfl,Below.refl _ _,fun j hj=>by omega⟩
 ·
  obtain⟨k,hk,rfl,aB,aV⟩:=hrel;have H:=aa aV;have aU:=aa aB;clear aV;by_cases aD:k<n
  ·obtain⟨b1,o1,rfl,c1⟩:=EL.o k aD;obtain⟨b2,o2,e2,c2⟩:=EL.o 0 (by omega);injection e2 with e2
   injection e2 with e2 e3
   subst e2 e3;rw[yV.o]at c2;have qo:=aa (fZ.o k aD);have HB:=aa (fun h:l.getD k 0=x0=>aW (p:=fun j=>l.getD j 0=x0) H.o h);have y1:∀ z:ExtW wr,z.val.cell? ⟨b1,o1+k,none⟩=_:=fun z=>z.cell (ak aB c1)
   have y2:∀ z:ExtW wr,z.val.cell? ⟨b1,o1,none⟩=_:=fun z=>z.cell (ak aB c2)
   by_cases cG:l.getD k 0=x0
   ·have CP:=aa (HB.o cG);have hd:(l.getD k 0 != x0)=false:=by rw[cG];simp
    clear HB qo cG aB c1 c2;generalize l.getD k 0=xk at y1 hd
    go_wp2_with fail
    refine aE (by kernel_rfl) (by kernel_rfl) ?_
    repeat (go_big_quiet_step (fail))
    refine wpQuiet_nil ?_;rintro _ ⟨xq,rfl⟩;clear y1 y2
    go_wp2_with fail
    go_roundw
    ·exact⟨k+1,by omega,by go_num,ae aU.o xq.ext,CP.o⟩
    ·simp[intOf];omega
   ·have HR:=aa (qo.o cG);have hd:(l.getD k 0 != x0)=true:=by simpa using cG
    clear HB qo cG aB c1 c2;generalize l.getD k 0=xk at y1 hd
    go_wp2_with fail
    refine aE (by kernel_rfl) (by kernel_rfl) ?_
    repeat (go_big_quiet_step (fail))
    refine wpQuiet_nil ?_;rintro _ ⟨xq,rfl⟩;clear y1 y2
    go_wp2_with fail
    go_ret
    exact⟨aR (by rw[HR.o]),ae aU.o xq.ext⟩
  ·obtain rfl:k=n:=by omega
   have HR:=aa (jT.o fun j hj=>H.o j hj)
   go_wp2_with fail
   go_ret
   exact⟨aR (by rw[HR.o]),aU.o⟩
theorem MZ(na nb:Int) (va vb:Value) (a b:List Vw) (w:World) (ha:m3 w va a) (hb:m3 w vb b) :
  Calls Tryz.prog 149 #[.agg #[.int .i64 na,va],.agg #[.int .i64 nb,vb]] w fun e w'=>e=.returned (.bool (decide (na=nb/\a=b)))/\Below w.heap.size w w':=by
 obtain⟨pa,ca,rfl,la1,la2,ea⟩:=ha.at;obtain⟨pb,cb,rfl,lb1,lb2,eb⟩:=hb.at;have EA:=aa ea;have EB:=aa eb;have ng:am (na≠nb->decide (na=nb/\a=b)=false):=aa fun h=>decide_eq_false fun e=>h e.1
 have gV:am (na=nb->a.length=b.length->(∀ j,j<a.length->a.getD j default=b.getD j default)->decide (na=nb/\a=b)=true):=aa fun h0 h1 h2=>decide_eq_true ⟨h0,fm default h1 h2⟩
 have iG:am (a.length≠b.length->decide (na=nb/\a=b)=false):=aa fun h=>decide_eq_false fun e=>h (by rw[e.2])
 have oQ:am (∀ j,j<a.length->a.getD j default≠b.getD j default->decide (na=nb/\a=b)=false):=aa fun j _ h=>decide_eq_false fun e=>h (by rw[e.2])
 generalize decide (na=nb/\a=b)=r at ng gV iG oQ ⊢;clear ha hb ea eb
 go_enter Tryz.func149,Tryz.ntmps149
 by_cases fA:na=nb
 case neg=>
  have hd:(na != nb)=true:=by simpa using fA
  have HR:=aa (ng.o fA);clear fA
  go_wp2_with fail
  go_ret
  exact⟨aR (by rw[HR.o]),by go_grown⟩
 have gV:=aa (gV.o fA);subst fA;by_cases hl:a.length=b.length
 case neg=>
  have hd:(((a.length:Nat):Int) != ((b.length:Nat):Int))=true:=by simp;omega
  have HR:=aa (iG.o hl);clear hl
  go_wp2_with fail
  go_ret
  exact⟨aR (by rw[HR.o]),by go_grown⟩
 have HL:=aa hl;obtain⟨n,hn⟩:∃ n,a.length=n:=⟨_,rfl⟩;have iK:b.length=n:=by omega
 have HN:=aa hn;have AN:=aa iK;rw[hn]at la1 la2 ⊢;rw[iK]at lb1 lb2 ⊢;clear hl hn iK;have hd:((n:Int) != (n:Int))=false:=by simp
 go_wp2_with fail
 refine bF (fun W=>Below w.heap.size w W/\W.heap[w.heap.size]?=some (.cells #[.int .i64 na,.slice pa n ca] 32)/\W.heap[w.heap.size+1]?=some (.cells #[.int .i64 na,.slice pb n cb] 32)) ⟨by go_grown,az _ (aq _ _),by have h:=aq (w.alloc (.cells #[.int .i64 na,.slice pa n ca] 32)) (.cells #[.int .i64 na,.slice pb n cb] 32);simpa using h⟩ (fun W0 bh=>?_);obtain⟨aJ,bK,nu⟩:=bh;have fE:=aa aJ;have lz:=aa bK;have nD:=aa nu;clear aJ bK nu
 go_loopw [5] (fun i wr=>∃ k:Nat,k<=n/\i=.int .i64 k/\Below W0.heap.size W0 wr/\∀ j,j<k->a.getD j default=b.getD j default) (fun i _=>n - (intOf i).toNat)
 ·exact⟨0,by omega,rfl,Below.refl _ _,fun j hj=>by omega⟩
 ·
  obtain⟨k,hk,rfl,aB,aV⟩:=hrel;have H:=aa aV;have aU:=aa aB;have bV:=aa (ae fE.o aB);clear aV aB;have tA:=ab (af aU.o lz.o);by_cases aD:k<n
  ·obtain⟨b1,o1,rfl,h1⟩:=EA.o k (by rw[HN.o];exact aD);obtain⟨b2,o2,rfl,h2⟩:=EB.o k (by rw[AN.o];exact aD);have qF:=aa (aA (default:Vw) (show k<a.length by rw[HN.o];exact aD));have rV:=aa (aA (default:Vw) (show k<b.length by rw[AN.o];exact aD));generalize a[k]'(by rw[HN.o];exact aD)=x at h1 qF;generalize b[k]'(by rw[AN.o];exact aD)=y at h2 rV;have c0:∀ z:ExtW wr,z.val.cell? ⟨b1,o1+k * 8,none⟩=_:=fun z=>z.cell (ak bV.o h1.1.1)
   have c1:∀ z:ExtW wr,z.val.cell? ⟨b1,o1+k * 8+1,none⟩=_:=fun z=>z.cell (ak bV.o h1.2.1.1)
   have c2:∀ z:ExtW wr,z.val.cell? ⟨b1,o1+k * 8+2,none⟩=_:=fun z=>z.cell (ak bV.o h1.2.2.1.1)
   have c3:∀ z:ExtW wr,z.val.cell? ⟨b1,o1+k * 8+3,none⟩=_:=fun z=>z.cell (ak bV.o h1.2.2.2.1.1)
   have c4:∀ z:ExtW wr,z.val.cell? ⟨b1,o1+k * 8+4,none⟩=_:=fun z=>z.cell (ak bV.o h1.2.2.2.2.1.1)
   have c5:∀ z:ExtW wr,z.val.cell? ⟨b1,o1+k * 8+5,none⟩=_:=fun z=>z.cell (ak bV.o h1.2.2.2.2.2.1.1)
   have c6:∀ z:ExtW wr,z.val.cell? ⟨b1,o1+k * 8+6,none⟩=_:=fun z=>z.cell (ak bV.o h1.2.2.2.2.2.2.1.1)
   have c7:∀ z:ExtW wr,z.val.cell? ⟨b1,o1+k * 8+7,none⟩=_:=fun z=>z.cell (ak bV.o h1.2.2.2.2.2.2.2.1)
   have d0:∀ z:ExtW wr,z.val.cell? ⟨b2,o2+k * 8,none⟩=_:=fun z=>z.cell (ak bV.o h2.1.1)
   have d1:∀ z:ExtW wr,z.val.cell? ⟨b2,o2+k * 8+1,none⟩=_:=fun z=>z.cell (ak bV.o h2.2.1.1)
   have d2:∀ z:ExtW wr,z.val.cell? ⟨b2,o2+k * 8+2,none⟩=_:=fun z=>z.cell (ak bV.o h2.2.2.1.1)
   have d3:∀ z:ExtW wr,z.val.cell? ⟨b2,o2+k * 8+3,none⟩=_:=fun z=>z.cell (ak bV.o h2.2.2.2.1.1)
   have d4:∀ z:ExtW wr,z.val.cell? ⟨b2,o2+k * 8+4,none⟩=_:=fun z=>z.cell (ak bV.o h2.2.2.2.2.1.1)
   have d5:∀ z:ExtW wr,z.val.cell? ⟨b2,o2+k * 8+5,none⟩=_:=fun z=>z.cell (ak bV.o h2.2.2.2.2.2.1.1)
   have d6:∀ z:ExtW wr,z.val.cell? ⟨b2,o2+k * 8+6,none⟩=_:=fun z=>z.cell (ak bV.o h2.2.2.2.2.2.2.1.1)
   have d7:∀ z:ExtW wr,z.val.cell? ⟨b2,o2+k * 8+7,none⟩=_:=fun z=>z.cell (ak bV.o h2.2.2.2.2.2.2.2.1)
   have tA2:∀ z:ExtW wr,z.val.cell? ⟨w.heap.size,1,none⟩=some (.slice (some ⟨b1,o1,none⟩) n ca):=fun z=>z.cell (by rw[ab (af aU.o lz.o)];rfl)
   have tC2:∀ z:ExtW wr,z.val.cell? ⟨w.heap.size+1,1,none⟩=some (.slice (some ⟨b2,o2,none⟩) n cb):=fun z=>z.cell (by rw[ab (af aU.o nD.o)];rfl)
   have jX:=fun w=>Pt x y w
   clear h1 h2;cases cG:decide (x=y) with
   | true=>
    have oG:=aa (of_decide_eq_true cG);rw[cG]at jX;clear cG
    go_wp2_with fail
    refine aE (by kernel_rfl) (by kernel_rfl) ?_
    repeat (go_big_quiet_step (fail))
    refine wpQuiet_nil ?_;rintro _ ⟨xq,rfl⟩;clear c0 c1 c2 c3 c4 c5 c6 c7 d0 d1 d2 d3 d4 d5 d6 d7 tA2 tC2 jX tA
    go_wp2_with fail
    go_roundw
    ·exact⟨k+1,by omega,by go_num,ae aU.o xq.ext,aW (p:=fun j=>a.getD j default=b.getD j default) H.o (by rw[qF.o,rV.o];exact oG.o)⟩
    ·simp[intOf];omega
   | false=>
    have HR:=aa (oQ.o k (by rw[HN.o];exact aD) (by rw[qF.o,rV.o];exact of_decide_eq_false cG));rw[cG]at jX;clear cG
    go_wp2_with fail
    refine aE (by kernel_rfl) (by kernel_rfl) ?_
    repeat (go_big_quiet_step (fail))
    refine wpQuiet_nil ?_;rintro _ ⟨xq,rfl⟩;clear c0 c1 c2 c3 c4 c5 c6 c7 d0 d1 d2 d3 d4 d5 d6 d7 tA2 tC2 jX tA
    go_wp2_with fail
    go_ret
    exact⟨aR (by rw[HR.o]),ae bV.o xq.ext⟩
  ·obtain rfl:k=n:=by omega
   have HF:∀ j,j<a.length->a.getD j default=b.getD j default:=fun j hj=>H.o j (by have:=HN.o;omega)
   have HR:am (r=true):=aa (by first|exact gV.o HL.o HF|exact gV.o trivial HL.o HF|exact gV.o rfl HL.o HF);clear HF
   go_wp2_with fail
   go_ret
   exact⟨aR (by rw[HR.o]),bV.o⟩
theorem M0(va vb:Value) (a b:List Int) (w:World) (ha:aX w va a) (hb:aX w vb b) :
  Calls Tryz.prog 184 #[va,vb] w fun e w'=>e=.returned (.bool (decide (a=b)))/\Below w.heap.size w w':=by
 obtain⟨pa,ca,rfl,ea⟩:=dY ha;obtain⟨pb,cb,rfl,eb⟩:=dY hb;obtain⟨_,_,_,_,la2,_⟩:=ha.at;obtain⟨_,_,_,_,lb2,_⟩:=hb.at;have EA:=aa ea;have EB:=aa eb;have gV:am (a.length=b.length->(∀ j,j<a.length->a.getD j 0=b.getD j 0)->decide (a=b)=true):=aa fun h1 h2=>decide_eq_true (fm 0 h1 h2)
 have iG:am (a.length≠b.length->decide (a=b)=false):=aa fun h=>decide_eq_false fun e=>h (by rw[e])
 have oQ:am (∀ j,j<a.length->a.getD j 0≠b.getD j 0->decide (a=b)=false):=aa fun j _ h=>decide_eq_false fun e=>h (by rw[e])
 generalize decide (a=b)=r at gV iG oQ ⊢;clear ha hb ea eb
 go_enter Tryz.func184,Tryz.ntmps184
 by_cases hl:a.length=b.length
 case neg=>
  have hd:(((a.length:Nat):Int) != ((b.length:Nat):Int))=true:=by simp;omega
  have HR:=aa (iG.o hl);clear hl
  go_wp2_with fail
  go_ret
  exact⟨aR (by rw[HR.o]),Below.refl _ _⟩
 have HL:=aa hl;obtain⟨n,hn⟩:∃ n,a.length=n:=⟨_,rfl⟩;have iK:b.length=n:=by omega
 have HN:=aa hn;have AN:=aa iK;rw[hn]at la2 EA ⊢;rw[iK]at lb2 EB ⊢;clear hl hn iK;have hd:((n:Int) != (n:Int))=false:=by simp
 go_wp2_with fail
 go_loopw [5] (fun i wr=>∃ k:Nat,k<=n/\i=.int .i64 k/\Below w.heap.size w wr/\∀ j,j<k->a.getD j 0=b.getD j 0) (fun i _=>n - (intOf i).toNat)
 ·exact⟨0,by omega,rfl,Below.refl _ _,fun j hj=>by omega⟩
 ·
  obtain⟨k,hk,rfl,aB,aV⟩:=hrel;have H:=aa aV;have aU:=aa aB;clear aV;by_cases aD:k<n
  ·obtain⟨b1,o1,rfl,h1⟩:=EA.o k aD;obtain⟨b2,o2,rfl,h2⟩:=EB.o k aD;have qF:am (∀ x,a.getD k 0=x->a.getD k 0=x):=aa fun _ h=>h
   obtain⟨x,hx⟩:∃ x,a.getD k 0=x:=⟨_,rfl⟩;obtain⟨y,hy⟩:∃ y,b.getD k 0=y:=⟨_,rfl⟩;rw[hx]at h1;rw[hy]at h2;have HX:=aa hx;have HY:=aa hy;have c0:∀ z:ExtW wr,z.val.cell? ⟨b1,o1+k,none⟩=_:=fun z=>z.cell (ak aB h1)
   have d0:∀ z:ExtW wr,z.val.cell? ⟨b2,o2+k,none⟩=_:=fun z=>z.cell (ak aB h2)
   clear h1 h2 aB hx hy qF;by_cases cG:x=y
   ·have oG:=aa cG;have gB:(x != y)=false:=by simp[cG]
    clear cG
    go_wp2_with fail
    refine aE (by kernel_rfl) (by kernel_rfl) ?_
    repeat (go_big_quiet_step (fail))
    refine wpQuiet_nil ?_;rintro _ ⟨xq,rfl⟩;clear c0 d0
    go_wp2_with fail
    go_roundw
    ·exact⟨k+1,by omega,by go_num,ae aU.o xq.ext,aW (p:=fun j=>a.getD j 0=b.getD j 0) H.o (by rw[HX.o,HY.o];exact oG.o)⟩
    ·simp[intOf];omega
   ·have HR:=aa (oQ.o k (by rw[HN.o];exact aD) (by rw[HX.o,HY.o];exact cG));have gB:(x != y)=true:=by simpa using cG
    clear cG
    go_wp2_with fail
    refine aE (by kernel_rfl) (by kernel_rfl) ?_
    repeat (go_big_quiet_step (fail))
    refine wpQuiet_nil ?_;rintro _ ⟨xq,rfl⟩;clear c0 d0
    go_wp2_with fail
    go_ret
    exact⟨aR (by rw[HR.o]),ae aU.o xq.ext⟩
  ·obtain rfl:k=n:=by omega
   have HR:=aa (gV.o HL.o fun j hj=>H.o j (by have:=HN.o;omega))
   go_wp2_with fail
   go_ret
   exact⟨aR (by rw[HR.o]),aU.o⟩
theorem M1(va vb:Value) (a b:List Rd) (w:World) (ha:ky w va a) (hb:ky w vb b) :
  Calls Tryz.prog 183 #[va,vb] w fun e w'=>e=.returned (.bool (decide (a=b)))/\Below w.heap.size w w':=by
 obtain⟨pa,ca,rfl,la1,la2,ea⟩:=ha.at;obtain⟨pb,cb,rfl,lb1,lb2,eb⟩:=hb.at;clear ha hb;have EA:=aa ea;clear ea;have EB:=aa eb;clear eb;generalize oM:decide (a=b)=res;have jE:=aa oM;clear oM;by_cases hl:a.length=b.length
 case neg=>
  have ij:((a.length:Int) != (b.length:Int))=true:=by simp;omega
  have HR:am (res=false):=by(have h:res=false:=by(rw[<-jE.o];simp;intro h;exact hl (by rw[h])));exact h
  clear hl
  go_enter Tryz.func183,Tryz.ntmps183
  go_wp2
  go_ret
  exact⟨aR HR.o.symm,Below.refl _ _⟩
 have ij:((a.length:Int) != (b.length:Int))=false:=by simp[hl]
 have HL:=aa hl;clear hl
 go_enter Tryz.func183,Tryz.ntmps183
 go_wp2
 clear ij
 go_loopw [5] (fun i wr=>Below w.heap.size w wr/\∃ k:Nat,k<=a.length/\i=.int .i64 k/\∀ j,j<k->a.getD j default=b.getD j default) (fun i _=>a.length - (intOf i).toNat)
 ·exact⟨Below.refl _ _,0,by omega,rfl,by simp⟩
 ·
  obtain⟨aB,k,hk,rfl,aV⟩:=hrel;have H:=aa aV;clear aV;by_cases aD:k<a.length
  ·have iy:k<b.length:=by have:=HL.o;omega
   obtain⟨b1,o1,rfl,⟨c0,r0⟩,⟨c1,r1⟩,⟨c2,r2⟩,⟨c3,r3⟩,⟨c4,r4⟩,⟨c5,r5⟩,⟨c6,r6⟩⟩:=EA.o k aD;obtain⟨b2,o2,rfl,⟨e0,s0⟩,⟨e1,s1⟩,⟨e2,s2⟩,⟨e3,s3⟩,⟨e4,s4⟩,⟨e5,s5⟩,⟨e6,s6⟩⟩:=EB.o k iy;have c0':∀ y:ExtW wr,y.val.cell? ⟨b1,o1+k * 7,none⟩=_:=fun y=>y.cell (ak aB c0)
   have c1':∀ y:ExtW wr,y.val.cell? ⟨b1,o1+k * 7+1,none⟩=_:=fun y=>y.cell (ak aB c1)
   have c2':∀ y:ExtW wr,y.val.cell? ⟨b1,o1+k * 7+2,none⟩=_:=fun y=>y.cell (ak aB c2)
   have c3':∀ y:ExtW wr,y.val.cell? ⟨b1,o1+k * 7+3,none⟩=_:=fun y=>y.cell (ak aB c3)
   have c4':∀ y:ExtW wr,y.val.cell? ⟨b1,o1+k * 7+4,none⟩=_:=fun y=>y.cell (ak aB c4)
   have c5':∀ y:ExtW wr,y.val.cell? ⟨b1,o1+k * 7+5,none⟩=_:=fun y=>y.cell (ak aB c5)
   have c6':∀ y:ExtW wr,y.val.cell? ⟨b1,o1+k * 7+6,none⟩=_:=fun y=>y.cell (ak aB c6)
   have e0':∀ y:ExtW wr,y.val.cell? ⟨b2,o2+k * 7,none⟩=_:=fun y=>y.cell (ak aB e0)
   have e1':∀ y:ExtW wr,y.val.cell? ⟨b2,o2+k * 7+1,none⟩=_:=fun y=>y.cell (ak aB e1)
   have e2':∀ y:ExtW wr,y.val.cell? ⟨b2,o2+k * 7+2,none⟩=_:=fun y=>y.cell (ak aB e2)
   have e3':∀ y:ExtW wr,y.val.cell? ⟨b2,o2+k * 7+3,none⟩=_:=fun y=>y.cell (ak aB e3)
   have e4':∀ y:ExtW wr,y.val.cell? ⟨b2,o2+k * 7+4,none⟩=_:=fun y=>y.cell (ak aB e4)
   have e5':∀ y:ExtW wr,y.val.cell? ⟨b2,o2+k * 7+5,none⟩=_:=fun y=>y.cell (ak aB e5)
   have e6':∀ y:ExtW wr,y.val.cell? ⟨b2,o2+k * 7+6,none⟩=_:=fun y=>y.cell (ak aB e6)
   have HX:=aa (aA default aD);have HY:=aa (aA default iy);clear c0 r0 e0 s0 c1 r1 e1 s1 c2 r2 e2 s2 c3 r3 e3 s3 c4 r4 e4 s4 c5 r5 e5 s5 c6 r6 e6 s6;generalize a[k]=x at c0' c1' c2' c3' c4' c5' c6' HX;generalize b[k]=y at e0' e1' e2' e3' e4' e5' e6' HY;have bP:=fun w=>OI x y w
   go_wp2
   by_cases cG:x=y
   ·have hd:decide (x=y)=true:=by simpa using cG
    have oG:am (a.getD k default=b.getD k default):=by(have h:a.getD k default=b.getD k default:=by(rw[HX.o,HY.o,cG]));exact h
    rw[hd]at bP;clear cG hd;refine aE (by kernel_rfl) (by kernel_rfl) ?_
    repeat (go_big_quiet_step (fail))
    refine wpQuiet_nil ?_;intro _ eD;obtain⟨xq,dg⟩:=eD;subst dg;clear c0' c1' c2' c3' c4' c5' c6' e0' e1' e2' e3' e4' e5' e6' bP
    go_wp2
    go_roundw
    ·exact⟨ae aB xq.ext,k+1,by omega,by go_num,aW H.o oG.o⟩
    ·simp[intOf];omega
   ·have hd:decide (x=y)=false:=by simpa using cG
    have HR:am (res=false):=by(have h:res=false:=by(rw[<-jE.o];simp;intro h;subst h;rw[HX.o]at HY;exact cG HY.o));exact h
    rw[hd]at bP;clear cG hd;refine aE (by kernel_rfl) (by kernel_rfl) ?_
    repeat (go_big_quiet_step (fail))
    refine wpQuiet_nil ?_;intro _ eD;obtain⟨xq,dg⟩:=eD;subst dg;clear c0' c1' c2' c3' c4' c5' c6' e0' e1' e2' e3' e4' e5' e6' bP
    go_wp2
    go_ret
    exact⟨aR HR.o.symm,ae aB xq.ext⟩
  ·have HR:am (res=true):=by(have h:res=true:=by(rw[<-jE.o];simp;exact fm default HL.o fun j hj=>H.o j (by omega)));exact h
   go_wp2
   go_ret
   exact⟨aR HR.o.symm,aB⟩
theorem M2(x y:Ex) (wa wb va vb:Value) (w:World) (UM:ky w wa x.word) (An:ky w wb y.word) (ha:ef w va x.views) (hb:ef w vb y.views) :
  Calls Tryz.prog 150 #[.agg #[.int .i64 x.c,wa,va],.agg #[.int .i64 y.c,wb,vb]] w fun e w'=>e=.returned (.bool (decide (x=y)))/\Below w.heap.size w w':=by
 obtain⟨cx,wx,ax⟩:=x;obtain⟨cy,wy,ay⟩:=y;dsimp only at UM An ha hb ⊢;have LW:=aa (fun W (h:Below w.heap.size w W)=>M1 wa wb wx wy W (UM.up up_round h) (An.up up_round h));obtain⟨pw,cw,rfl,_,_,_⟩:=UM.at;obtain⟨qw,dw,rfl,_,_,_⟩:=An.at;obtain⟨pa,ca,rfl,la1,la2,ea⟩:=ha.at;obtain⟨pb,cb,rfl,lb1,lb2,eb⟩:=hb.at;have EA:=aa ea;have EB:=aa eb;have Da:am (cx≠cy->decide ((⟨cx,wx,ax⟩:Ex)=⟨cy,wy,ay⟩)=false):=aa fun h=>decide_eq_false fun e=>h (congrArg Ex.c e)
 have F1:am (decide (wx=wy)=false->decide ((⟨cx,wx,ax⟩:Ex)=⟨cy,wy,ay⟩)=false):=aa fun h=>decide_eq_false fun e=>(of_decide_eq_false h) (congrArg Ex.word e)
 have iG:am (ax.length≠ay.length->decide ((⟨cx,wx,ax⟩:Ex)=⟨cy,wy,ay⟩)=false):=aa fun h=>decide_eq_false fun e=>h (congrArg (fun z=>(Ex.views z).length) e)
 have oQ:am (∀ j,j<ax.length->ax.getD j []≠ay.getD j []->decide ((⟨cx,wx,ax⟩:Ex)=⟨cy,wy,ay⟩)=false):=aa fun j _ h=>decide_eq_false fun e=>h (congrArg (fun z=>(Ex.views z).getD j []) e)
 have gV:am (cx=cy/\decide (wx=wy)=true/\ax.length=ay.length/\(∀ j,j<ax.length->ax.getD j []=ay.getD j [])->decide ((⟨cx,wx,ax⟩:Ex)=⟨cy,wy,ay⟩)=true):=aa fun ⟨h0,h1,h2,h3⟩=>decide_eq_true (by rw[h0,of_decide_eq_true h1,fm [] h2 h3])
 generalize decide ((⟨cx,wx,ax⟩:Ex)=⟨cy,wy,ay⟩)=r at Da F1 iG oQ gV ⊢;generalize decide (wx=wy)=bw at LW F1 gV;generalize wx.length=nw1,wy.length=nw2 at LW ⊢;clear UM An ha hb ea eb
 go_enter Tryz.func150,Tryz.ntmps150
 by_cases fA:cx=cy
 case neg=>
  have hd:(cx != cy)=true:=by simpa using fA
  have HR:=aa (Da.o fA);clear fA
  go_wp2_with fail
  go_ret
  exact⟨aR (by rw[HR.o]),by go_grown⟩
 have uj:=aa fA;have Ub:(cx != cy)=false:=by simp[fA]
 clear fA;obtain⟨n,hn⟩:∃ n,ax.length=n:=⟨_,rfl⟩;obtain⟨m,hm⟩:∃ m,ay.length=m:=⟨_,rfl⟩;have HN:=aa hn;have HM:=aa hm;rw[hn]at la1 la2 ⊢;rw[hm]at lb1 lb2 ⊢;clear hn hm
 go_wp2_with fail
 refine aQ (fun W=>Below w.heap.size w W/\W.heap[w.heap.size]?=some (.cells #[.int .i64 cx,.slice pw nw1 cw,.slice pa n ca] 89)/\W.heap[w.heap.size+1]?=some (.cells #[.int .i64 cy,.slice qw nw2 dw,.slice pb m cb] 89)) ⟨by go_grown,az _ (aq _ _),by have h:=aq (w.alloc (.cells #[.int .i64 cx,.slice pw nw1 cw,.slice pa n ca] 89)) (.cells #[.int .i64 cy,.slice qw nw2 dw,.slice pb m cb] 89);simpa using h⟩ (fun W00 bh=>?_);obtain⟨aJ,bK,nu⟩:=bh;refine(LW.o W00 aJ).mono ?_;rintro e W0 ⟨rfl,aM⟩;have fE:=aa (ae aJ aM);have lz:=aa (af aM bK);have nD:=aa (af aM nu);have tA:=ab lz.o;have tC:=ab nD.o;clear aJ bK nu aM LW;cases bw with
 | false=>
  have HR:am (r=false):=aa (by first|exact F1.o rfl|exact F1.o trivial)
  go_wp2_with fail
  go_ret
  exact⟨aR (by rw[HR.o]),fE.o⟩
 | true=>
  by_cases hl:n=m
  case neg=>
   have hd:(((n:Nat):Int) != ((m:Nat):Int))=true:=by simp;omega
   have HR:=aa (iG.o (by rw[HN.o,HM.o];exact hl));clear hl
   go_wp2_with fail
   go_ret
   exact⟨aR (by rw[HR.o]),fE.o⟩
  subst hl;have hd:((n:Int) != (n:Int))=false:=by simp
  go_wp2_with fail
  clear tA tC
  go_loopw [5] (fun i wr=>∃ k:Nat,k<=n/\i=.int .i64 k/\Below W0.heap.size W0 wr/\∀ j,j<k->ax.getD j []=ay.getD j []) (fun i _=>n - (intOf i).toNat)
  ·exact⟨0,by omega,rfl,Below.refl _ _,fun j hj=>by omega⟩
  ·
   obtain⟨k,hk,rfl,aB,aV⟩:=hrel;have H:=aa aV;have aU:=aa aB;have bV:=aa (ae fE.o aB);clear aV aB;have tA:=ab (af aU.o lz.o);have tC:=ab (af aU.o nD.o);by_cases aD:k<n
   ·obtain⟨b1,o1,rfl,v1,g1,h1⟩:=EA.o k (by rw[HN.o];exact aD);obtain⟨b2,o2,rfl,v2,g2,h2⟩:=EB.o k (by rw[HM.o];exact aD);have qF:=aa (aA ([]:List Int) (show k<ax.length by rw[HN.o];exact aD));have rV:=aa (aA ([]:List Int) (show k<ay.length by rw[HM.o];exact aD));generalize ax[k]'(by rw[HN.o];exact aD)=x at h1 qF;generalize ay[k]'(by rw[HM.o];exact aD)=y at h2 rV;have d1:=ak bV.o g1;have d2:=ak bV.o g2;rw[Nat.mul_one]at d1 d2;have yW:=aa (fun W (h:Below w.heap.size w W)=>M0 v1 v2 x y W (h1.up up_int h) (h2.up up_int h));clear h1 h2 g1 g2
    go_wp2_with fail
    go_still_tail 10,(by kernel_rfl)
    go_wp2_with fail
    refine aQ (fun W=>Below wr.heap.size wr W) (Below.drew (Below.refl _ _)) (fun W5 hW5=>?_);refine(yW.o W5 (ae bV.o hW5)).mono ?_;rintro e w6 ⟨rfl,jL⟩;have vH:=aa (ae aU.o (ae hW5 jL));clear hW5 jL d1 d2 tA tC yW;cases cG:decide (x=y) with
    | true=>
     have oG:=aa (of_decide_eq_true cG);clear cG
     go_wp2_with fail
     go_roundw
     ·exact⟨k+1,by omega,by go_num,vH.o,aW (p:=fun j=>ax.getD j []=ay.getD j []) H.o (by rw[qF.o,rV.o];exact oG.o)⟩
     ·simp[intOf];omega
    | false=>
     have HR:=aa (oQ.o k (by rw[HN.o];exact aD) (by rw[qF.o,rV.o];exact of_decide_eq_false cG));clear cG
     go_wp2_with fail
     go_ret
     exact⟨aR (by rw[HR.o]),ae fE.o vH.o⟩
   ·obtain rfl:k=n:=by omega
    have HF:∀ j,j<ax.length->ax.getD j []=ay.getD j []:=fun j hj=>H.o j (by have:=HN.o;omega)
    have HR:am (r=true):=aa (gV.o ⟨uj.o,by first|rfl|trivial,by rw[HN.o,HM.o],HF⟩);clear HF
    go_wp2_with fail
    go_ret
    exact⟨aR (by rw[HR.o]),bV.o⟩
theorem R'(d:Nat) (a:Mv) (w:World):(Op.equalIn (d+5) 143 a.v a.v).run Tryz.prog w=.ok true w:=by
 have hS:Tryz.prog.underlying 143=some (.struct (Tryz.prog.fieldsOf 143)):=by kernel_rfl
 have hp:Tryz.prog.stoodInHeld 143=false:=by kernel_rfl
 rw[run_equalIn_struct w (d+4) 143 _ _ hS hp];have ag:=Tryz.isAgg3;have ah:=Tryz.isAgg141;have zh:=Tryz.sizeOf141;have u3:=Tryz.underlying3;have hg:=DD d a.r a.r w;simp only[Program.fieldsOf,Tryz.underlying143];simp[Op.eqFields,part,ag,ah,zh,run_equalIn_int w (d+3) 3 _ .i64 _ _ u3,hg]
theorem VB(a:Mv) (w:World):(binOp .neq 143 a.v a.v).run Tryz.prog w=.ok (.bool false) w:=by
 rw[run_neq_struct,R' 9995];rfl
theorem Sa(n:Int) (l:List (List Mv)) (va vb:Value) (w:World) (ha:bA w va l) (hb:bA w vb l) :
  Calls Tryz.prog 182 #[.agg #[.int .i64 n,va],.agg #[.int .i64 n,vb]] w fun e w'=>e=.returned (.bool true)/\Below w.heap.size w w':=by
 obtain⟨pa,ca,rfl,la1,la2,ea⟩:=ha.at;obtain⟨pb,cb,rfl,lb1,lb2,eb⟩:=hb.at;have EA:=aa ea;have EB:=aa eb;clear ha hb ea eb;obtain⟨m,hm⟩:∃ m,l.length=m:=⟨_,rfl⟩;have HM:=aa hm;rw[hm]at la1 la2 lb1 lb2 ⊢;clear hm;have Ub:(n != n)=false:=by simp
 have hd:((m:Int) != (m:Int))=false:=by simp
 go_enter Tryz.func182,Tryz.ntmps182
 go_wp2_with fail
 refine bF (fun W=>Below w.heap.size w W/\W.heap[w.heap.size]?=some (.cells #[.int .i64 n,.slice pa m ca] 27)/\W.heap[w.heap.size+1]?=some (.cells #[.int .i64 n,.slice pb m cb] 27)) ⟨by go_grown,az _ (aq _ _),by have h:=aq (w.alloc (.cells #[.int .i64 n,.slice pa m ca] 27)) (.cells #[.int .i64 n,.slice pb m cb] 27);simpa using h⟩ (fun W0 bh=>?_);obtain⟨aJ,bK,nu⟩:=bh;have fE:=aa aJ;have lz:=aa bK;have nD:=aa nu;clear aJ bK nu
 go_loopw [5] (fun i wr=>∃ k:Nat,k<=m/\i=.int .i64 k/\Below W0.heap.size W0 wr) (fun i _=>m - (intOf i).toNat)
 ·exact⟨0,by omega,rfl,Below.refl _ _⟩
 ·
  obtain⟨k,hk,rfl,aB⟩:=hrel;have aU:=aa aB;have bV:=aa (ae fE.o aB);clear aB;have tA:=ab (af aU.o lz.o);by_cases aD:k<m
  ·obtain⟨b1,o1,rfl,v1,g1,h1⟩:=EA.o k (by rw[HM.o];exact aD);obtain⟨b2,o2,rfl,v2,g2,h2⟩:=EB.o k (by rw[HM.o];exact aD);generalize l[k]'(by rw[HM.o];exact aD)=row at h1 h2;obtain⟨p1,q1,rfl,x1,y1,e1⟩:=h1.at;obtain⟨p2,q2,rfl,x2,y2,e2⟩:=h2.at;have E1:=aa e1;have E2:=aa e2;obtain⟨r,hr⟩:∃ r,row.length=r:=⟨_,rfl⟩;have HR:=aa hr;rw[Nat.mul_one]at g1 g2;rw[hr]at x1 y1 x2 y2 g1 g2;clear h1 h2 e1 e2 hr;have G1:=aa g1;have G2:=aa g2;have hdr:((r:Int) != (r:Int))=false:=by simp
   have f1:∀ z:ExtW wr,z.val.cell? ⟨b1,o1+k,none⟩=_:=fun z=>z.cell (ak bV.o g1)
   have f2:∀ z:ExtW wr,z.val.cell? ⟨b2,o2+k,none⟩=_:=fun z=>z.cell (ak bV.o g2)
   have tA2:∀ z:ExtW wr,z.val.cell? ⟨w.heap.size,1,none⟩=some (.slice (some ⟨b1,o1,none⟩) m ca):=fun z=>z.cell (by rw[ab (af aU.o lz.o)];rfl)
   have tC2:∀ z:ExtW wr,z.val.cell? ⟨w.heap.size+1,1,none⟩=some (.slice (some ⟨b2,o2,none⟩) m cb):=fun z=>z.cell (by rw[ab (af aU.o nD.o)];rfl)
   clear g1 g2
   go_wp2_with fail
   refine aE (by kernel_rfl) (by kernel_rfl) ?_
   repeat (go_big_quiet_step (fail))
   refine wpQuiet_nil ?_;rintro _ ⟨xq,rfl⟩;have fg:=aa (ae aU.o xq.ext);generalize xq.val=wq at fg ⊢;clear f1 f2 tA2 tC2 tA
   go_wp2_with fail
   obtain⟨wrA,lV⟩:∃ x,x=wr:=⟨_,rfl⟩;subst lV
   go_loopw [6] (fun i wr=>∃ j:Nat,j<=r/\i=.int .i64 j/\Below W0.heap.size W0 wr) (fun i _=>r - (intOf i).toNat)
   ·exact⟨0,by omega,rfl,fg.o⟩
   ·
    obtain⟨i,hi,rfl,kI⟩:=hrel;have Dh:=aa kI;have eV:=aa (ae fE.o kI);clear kI;have tA:=ab (af Dh.o lz.o);have t1:=ak eV.o G1.o;by_cases Qf:i<r
    ·obtain⟨b3,o3,rfl,m1⟩:=E1.o i (by rw[HR.o];exact Qf);obtain⟨b4,o4,rfl,m2⟩:=E2.o i (by rw[HR.o];exact Qf);generalize row[i]'(by rw[HR.o];exact Qf)=x at m1 m2;have c0:∀ z:ExtW wr,z.val.cell? ⟨b3,o3+i * 8,none⟩=_:=fun z=>z.cell (ak eV.o m1.1.1.1)
     have c1:∀ z:ExtW wr,z.val.cell? ⟨b3,o3+i * 8+1,none⟩=_:=fun z=>z.cell (ak eV.o m1.1.2.1.1)
     have c2:∀ z:ExtW wr,z.val.cell? ⟨b3,o3+i * 8+2,none⟩=_:=fun z=>z.cell (ak eV.o m1.1.2.2.1.1)
     have c3:∀ z:ExtW wr,z.val.cell? ⟨b3,o3+i * 8+3,none⟩=_:=fun z=>z.cell (ak eV.o m1.1.2.2.2.1.1)
     have c4:∀ z:ExtW wr,z.val.cell? ⟨b3,o3+i * 8+4,none⟩=_:=fun z=>z.cell (ak eV.o m1.1.2.2.2.2.1.1)
     have c5:∀ z:ExtW wr,z.val.cell? ⟨b3,o3+i * 8+5,none⟩=_:=fun z=>z.cell (ak eV.o m1.1.2.2.2.2.2.1.1)
     have c6:∀ z:ExtW wr,z.val.cell? ⟨b3,o3+i * 8+6,none⟩=_:=fun z=>z.cell (ak eV.o m1.1.2.2.2.2.2.2.1)
     have c7:∀ z:ExtW wr,z.val.cell? ⟨b3,o3+i * 8+7,none⟩=_:=fun z=>z.cell (ak eV.o m1.2.1)
     have d0:∀ z:ExtW wr,z.val.cell? ⟨b4,o4+i * 8,none⟩=_:=fun z=>z.cell (ak eV.o m2.1.1.1)
     have d1:∀ z:ExtW wr,z.val.cell? ⟨b4,o4+i * 8+1,none⟩=_:=fun z=>z.cell (ak eV.o m2.1.2.1.1)
     have d2:∀ z:ExtW wr,z.val.cell? ⟨b4,o4+i * 8+2,none⟩=_:=fun z=>z.cell (ak eV.o m2.1.2.2.1.1)
     have d3:∀ z:ExtW wr,z.val.cell? ⟨b4,o4+i * 8+3,none⟩=_:=fun z=>z.cell (ak eV.o m2.1.2.2.2.1.1)
     have d4:∀ z:ExtW wr,z.val.cell? ⟨b4,o4+i * 8+4,none⟩=_:=fun z=>z.cell (ak eV.o m2.1.2.2.2.2.1.1)
     have d5:∀ z:ExtW wr,z.val.cell? ⟨b4,o4+i * 8+5,none⟩=_:=fun z=>z.cell (ak eV.o m2.1.2.2.2.2.2.1.1)
     have d6:∀ z:ExtW wr,z.val.cell? ⟨b4,o4+i * 8+6,none⟩=_:=fun z=>z.cell (ak eV.o m2.1.2.2.2.2.2.2.1)
     have d7:∀ z:ExtW wr,z.val.cell? ⟨b4,o4+i * 8+7,none⟩=_:=fun z=>z.cell (ak eV.o m2.2.1)
     have f1:∀ z:ExtW wr,z.val.cell? ⟨b1,o1+k,none⟩=_:=fun z=>z.cell (ak eV.o G1.o)
     have f2:∀ z:ExtW wr,z.val.cell? ⟨b2,o2+k,none⟩=_:=fun z=>z.cell (ak eV.o G2.o)
     have tA2:∀ z:ExtW wr,z.val.cell? ⟨w.heap.size,1,none⟩=some (.slice (some ⟨b1,o1,none⟩) m ca):=fun z=>z.cell (by rw[ab (af Dh.o lz.o)];rfl)
     have tC2:∀ z:ExtW wr,z.val.cell? ⟨w.heap.size+1,1,none⟩=some (.slice (some ⟨b2,o2,none⟩) m cb):=fun z=>z.cell (by rw[ab (af Dh.o nD.o)];rfl)
     have jX:=fun w=>VB x w
     clear m1 m2
     go_wp2_with fail
     refine aE (by kernel_rfl) (by kernel_rfl) ?_
     repeat (go_big_quiet_step (fail))
     refine wpQuiet_nil ?_;rintro _ ⟨xq,rfl⟩;clear c0 c1 c2 c3 c4 c5 c6 c7 d0 d1 d2 d3 d4 d5 d6 d7 f1 f2 tA2 tC2 jX tA t1
     go_wp2_with fail
     go_roundw
     ·exact⟨i+1,by omega,by go_num,ae Dh.o xq.ext⟩
     ·simp[intOf];omega
    ·obtain rfl:i=r:=by omega
     go_wp2_with fail
     go_roundw
     ·exact⟨k+1,by omega,by go_num,Dh.o⟩
     ·simp[intOf];omega
  ·obtain rfl:k=m:=by omega
   go_wp2_with fail
   go_ret
   exact⟨rfl,bV.o⟩
theorem Fl(va vb:Value) (l:List (List Int)) (w:World) (ha:ef w va l) (hb:ef w vb l) :
  Calls Tryz.prog 207 #[va,vb] w fun e w'=>e=.returned (.bool true)/\Below w.heap.size w w':=by
 obtain⟨pa,ca,rfl,la1,la2,ea⟩:=ha.at;obtain⟨pb,cb,rfl,lb1,lb2,eb⟩:=hb.at;have EA:=aa ea;have EB:=aa eb;clear ha hb ea eb;obtain⟨n,hn⟩:∃ n,l.length=n:=⟨_,rfl⟩;have HN:=aa hn;rw[hn]at la1 la2 lb1 lb2 ⊢;clear hn;have hd:((n:Int) != (n:Int))=false:=by simp
 go_enter Tryz.func207,Tryz.ntmps207
 go_wp2_with fail
 go_loopw [5] (fun i wr=>∃ k:Nat,k<=n/\i=.int .i64 k/\Below w.heap.size w wr) (fun i _=>n - (intOf i).toNat)
 ·exact⟨0,by omega,rfl,Below.refl _ _⟩
 ·
  obtain⟨k,hk,rfl,aB⟩:=hrel;have aU:=aa aB;clear aB;by_cases aD:k<n
  ·obtain⟨b1,o1,rfl,v1,g1,h1⟩:=EA.o k (by rw[HN.o];exact aD);obtain⟨b2,o2,rfl,v2,g2,h2⟩:=EB.o k (by rw[HN.o];exact aD);generalize l[k]'(by rw[HN.o];exact aD)=x at h1 h2;have d1:=ak aU.o g1;have d2:=ak aU.o g2;rw[Nat.mul_one]at d1 d2;have yW:=aa (fun W (h:Below w.heap.size w W)=>lJ v1 v2 x x W (h1.up up_int h) (h2.up up_int h));rw[sk]at yW;clear h1 h2 g1 g2
   go_wp2_with fail
   go_still_tail 8,(by kernel_rfl)
   go_wp2_with fail
   refine aQ (fun W=>Below wr.heap.size wr W) (Below.drew (Below.refl _ _)) (fun W5 hW5=>?_);refine(yW.o W5 (ae aU.o hW5)).mono ?_;rintro e w6 ⟨rfl,jL⟩;have vH:=aa (ae aU.o (ae hW5 jL));clear hW5 jL d1 d2 yW
   go_wp2_with fail
   go_roundw
   ·exact⟨k+1,by omega,by go_num,vH.o⟩
   ·simp[intOf];omega
  ·obtain rfl:k=n:=by omega
   go_wp2_with fail
   go_ret
   exact⟨rfl,aU.o⟩
end Go.Proofs.YtmeaoneaephjeaaGreatDoor
