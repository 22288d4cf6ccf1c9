/-
  A part of the proof: lemmas and contracts that the parts behind it use. Each one's conditions are its own premises.
-/
import Derived.Test.YtmeaoneaephjeaaGreatDoorL11
set_option maxRecDepth 100000
set_option maxHeartbeats 8000000
set_option linter.unusedVariables false
set_option linter.unusedSimpArgs false
namespace Go.Proofs.YtmeaoneaephjeaaGreatDoor
open Go.RowKit Go Go.Shelf
attribute [local go_sem] Oper.semAt_some
def CL(R:Nat->Bool) (e j:Nat) (x:Int):Prop:=(x=e/\∀ f,j<=f->f<e->R f=false)\/∃ m,j<=m/\m<e/\x=m/\R m=true/\∀ f,j<=f->f<m->R f=false
theorem Xk{R:Nat->Bool} {e j:Nat} (hj:j<e) (h:R j=true):CL R e j j:=.inr ⟨j,Nat.le_refl _,hj,rfl,h,fun f h1 h2=>by omega⟩
theorem XN{R:Nat->Bool} {e j:Nat} {x:Int} (h:R j=false) (hk:CL R e (j+1) x):CL R e j x:=by
 rcases hk with ⟨h1,h2⟩|⟨m,h1,h2,h3,h4,h5⟩
 ·refine .inl ⟨h1,fun f g1 g2=>?_⟩;by_cases e1:f=j
  ·subst e1;exact h
  ·exact h2 f (by omega) g2
 ·refine .inr ⟨m,by omega,h2,h3,h4,fun f g1 g2=>?_⟩;by_cases e1:f=j
  ·subst e1;exact h
  ·exact h5 f (by omega) g2
theorem Xl{R:Nat->Nat->Bool} {e:Nat} {x:Int} (h:CL (R e) e 0 x):x=sv R e:=by
 unfold sv;rcases h with ⟨h1,h2⟩|⟨m,_,h2,h3,h4,h5⟩
 ·rw[dM _ _ (fun f hf=>h2 f (by omega) hf),if_pos (by omega)];exact h1
 ·rw[dk _ _ _ h2 (fun f hf=>h5 f (by omega) hf) h4,if_neg (by omega)];exact h3
theorem QP{R:Nat->Nat->Bool} (e:Nat):0<=sv R e/\sv R e<=e:=by
 rcases xg R e with ⟨h,_⟩|⟨k,hk,h,_⟩
 ·rw[h];omega
 ·rw[h];omega
theorem N0(s:Sys) (hs:SysOk s) (p:Nat) (hp:p<nS s) (vc vs vt ve:Value) (w:World) (cH:IsSys w s vc vs vt ve) :
  Calls Tryz.prog 91 #[.agg (bL s.prob vc vs s.n vt ve),.int .i64 p] w fun r w'=>∃ u,r=.returned u/\aT w' u (classL s p)/\Below w.heap.size w w':=by
 have HS:=aa cH;obtain⟨⟨pc,cc,rfl⟩,⟨ps,cs,rfl⟩,⟨pt,ct,rfl⟩,⟨pe,ce,rfl⟩⟩:=bB cH;clear cH;have gz:=aa (fun e f (he:e<eS s) (hf:f<eS s) W (hb:Below w.heap.size w W)=>DP s hs p e f hp he hf _ _ _ _ W (HS.o.up hb));have lT:=hs.count;obtain⟨i0,cM,bX,bP,bY⟩:=info_parts Tryz.infoInt;have bO:=aa (And.intro cM (And.intro bX (And.intro bP bY)));obtain⟨R,hR⟩:∃ R:Nat->Nat->Bool,R=fun e f=>linkB s p e f:=⟨_,rfl⟩
 have HR:am (∀ e f,linkB s p e f=R e f):=aa fun e f=>by rw[hR]
 obtain⟨L,hL⟩:∃ L:Nat->List Int,L=fun k=>(List.range k).map (sv R):=⟨_,rfl⟩
 have iw:am (L 0=[]/\(∀ k,L (k+1)=L k++[sv R k])/\(∀ k,(L k).length=k)/\∀ k,k<=4096->∀ x∈L k,bN x):=aa (by
  subst hL;refine⟨rfl,fun k=>by simp[List.range_succ],fun k=>by simp,fun k hk x hx=>?_⟩;obtain⟨j,hj,rfl⟩:=List.mem_map.1 hx;have h1:=QP (R:=R) j;have h2:=List.mem_range.1 hj
  exact⟨by omega,by omega⟩)
 have kg:am (lG (L (eS s))=classL s p):=aa (by
  subst hL;subst hR;rw[IN];unfold classL
  exact oA fun i hi k hk=>Wn (R:=fun e f=>linkB s p e f) (fun a b=>sd s p a b) (fun a b c h1 h2=>vI h1 h2) i k hk)
 obtain⟨m,hm⟩:∃ m,eS s=m:=⟨_,rfl⟩;have pB:s.ex.length=m:=hm;rw[hm]at gz lT kg;rw[pB]at gz ⊢;generalize classL s p=cl0 at kg ⊢;clear hR hL hm pB cM bX bP bY
 go_enter Tryz.func91,Tryz.ntmps91
 go_wp2_with fail
 refine bu (fun W=>Below w.heap.size w W/\∃ c,W.heap[w.heap.size]?=some (.cells c 35)/\c=bL s.prob (.slice pc s.prob.t.cases.length cc) (.slice ps s.prob.a.states.length cs) s.n (.slice pt s.tab.length ct) (.slice pe m ce)) ⟨by go_grown,_,aq _ _,rfl⟩ (fun W0 aZ=>?_);obtain⟨aI,_,hA,rfl⟩:=aZ;have ed:=aa aI;have HA:=aa hA;clear aI hA
 go_loopw [5,6] (fun o i wr=>∃ k:Nat,k<=m/\i=.int .i64 k/\Below W0.heap.size W0 wr/\aH wr W0.heap.size 3 1 o k ((L k).map (Value.int .i64))) (fun _ i _=>m - (intOf i).toNat)
 ·exact⟨0,by omega,rfl,Below.refl _ _,by rw[iw.o.1];exact aH.nil _ _ _ _⟩
 ·
  obtain⟨e,he,rfl,az,aS⟩:=hrel;obtain⟨al,cl2,rfl⟩:=aS.slice;have bG:=aa aS;have aP:=aa az;have z5:=az.size;have tS:=ab (af az HA.o);clear aS az;obtain⟨wrA,kw⟩:∃ x,x=wr:=⟨_,rfl⟩;subst kw;by_cases aB:e<m
  ·go_wp2_with fail
   clear tS
   go_loopw [7,8] (fun x j wr=>∃ k:Nat,k<=e/\j=.int .i64 ((k:Int) - 1)/\Below wrA.heap.size wrA wr/\∃ y:Int,x=.int .i64 y/\CL (R e) e k y) (fun _ j _=>((intOf j)+1).toNat)
   ·exact⟨e,Nat.le_refl _,rfl,Below.refl _ _,_,rfl,.inl ⟨rfl,fun f h1 h2=>by omega⟩⟩
   ·
    obtain⟨k,hk,rfl,jn,y,rfl,nD⟩:=hrel;have FR:=aa nD;have eo:=aa jn;have bT:=aa (ae aP.o jn);have tS:=ab (af bT.o HA.o);clear nD jn;by_cases fg:0<k
    ·obtain⟨j,rfl⟩:∃ j,k=j+1:=⟨k - 1,by omega⟩;have Rp:(((j+1:Nat):Int) - 1)=(j:Int):=by omega
     rw[Rp];have GK:decide ((0:Int)<=(j:Int))=true:=decide_eq_true (by omega);have pQ:=aa (gz.o e j aB (by omega) wr (ae ed.o bT.o));clear Rp fg
     go_wp2_with fail
     clear tS;refine pQ.o.mono ?_;rintro r w2 ⟨rfl,a8⟩;rw[HR.o];have cQ:=aa (ae eo.o a8);clear a8;cases hb:R e j with
     | true=>
      have HN:am (CL (R e) e j j):=aa (Xk (by omega) hb);clear hb
      go_wp2_with fail
      go_roundw
      ·exact⟨j,by omega,by go_num,cQ.o,_,rfl,HN.o⟩
      ·simp[intOf]
     | false=>
      have HN:am (CL (R e) e j y):=aa (XN hb FR.o);clear hb
      go_wp2_with fail
      go_roundw
      ·exact⟨j,by omega,by go_num,cQ.o,_,rfl,HN.o⟩
      ·simp[intOf]
    ·obtain rfl:k=0:=by omega
     have HY:=aa (Xl FR.o);have Rp:(((0:Nat):Int) - 1)=-1:=by omega
     rw[Rp];have cL:=aa ((bG.o.up eo.o).up ((Below.refl _ wr).alloc (Nat.le_refl _) (.cells #[.int .i64 y] 3)));have bA:=aa (dx wr [.int .i64 y] 3);have io:am (e+1<=maxLen):=aa (by unfold maxLen;omega);have dD:am ((e+1) * 8<=140737488355328):=aa (by omega);have fH:am (W0.heap.size<=(wr.alloc (.cells #[.int .i64 y] 3)).heap.size):=aa (by have:=bT.o.size;simp;omega);clear Rp tS
     go_wp2_with (at_builtin;(refine aX _ rfl (.tmp 29) (.tmp 31) 38 rfl W0.heap.size 3 i0 _ 1 8 Tryz.underlying38 bO.o.1 bO.o.2.1 bO.o.2.2.1 bO.o.2.2.2 rfl (by decide) _ e _ rfl cL.o ⟨wr.heap.size,0,none⟩ 1 1 [.int .i64 y] rfl rfl bA.o (by simp[Value.oneCell']) io.o dD.o fH.o ?_;intro v6 w6 eP dQ _))
     go_roundw
     ·
      refine⟨e+1,by omega,by go_num,dB bT.o (Nat.le_refl _) cL.o dQ,?_⟩;rw[iw.o.2.1,<-HY.o,List.map_append];exact eP
     ·simp[intOf];omega
  ·obtain rfl:e=m:=by omega
   have Kk:=iw.o.2.2.1 e;have HI:am (aT wrA (.slice al e cl2) (L e)):=aa (fI (l:=L e) (base:=W0.heap.size) (by rw[Kk];exact bG.o) (iw.o.2.2.2 e lT) (by omega));have Mt:=aa (BH _ (L e) (by omega) wrA HI.o);clear Kk
   go_wp2_with fail
   refine Mt.o.mono ?_;rintro r w2 ⟨u,rfl,hu,a8⟩;obtain⟨au,cu,rfl,_⟩:=hu.at;have HU:=aa hu;have cQ:=aa (ae ed.o (ae aP.o a8));clear hu a8 tS
   go_wp2_with fail
   go_ret
   exact⟨_,rfl,by rw[<-kg.o];exact HU.o,cQ.o⟩
def jD(a b:List Int) (n:Nat) (O0:List Int) (i k:Nat) (O:List Int) (ch:Bool):Prop:=Glu a b n O/\((ch=true/\vH O<vH O0)\/(ch=false/\O=O0/\(∀ i',i'<i->∀ k',k'<i'->dN a b i' k'=true->O.getD i' 0=O.getD k' 0)/\∀ k',k'<k->dN a b i k'=true->O.getD i 0=O.getD k' 0))
theorem jD.row{a b:List Int} {n:Nat} {O0 O:List Int} {i:Nat} {ch:Bool} (h:jD a b n O0 i i O ch):jD a b n O0 (i+1) 0 O ch:=by
 refine⟨h.1,?_⟩;rcases h.2 with h2|⟨h2,h3,h4,h5⟩
 ·exact .inl h2
 ·refine .inr ⟨h2,h3,fun i' pU=>?_,fun k' rM=>by omega⟩;by_cases e:i'=i
  ·subst e;exact h5
  ·exact h4 i' (by omega)
theorem jD.same{a b:List Int} {n:Nat} {O0 O:List Int} {i k:Nat} {ch:Bool} (h:jD a b n O0 i k O ch) (hq:dN a b i k=true->O.getD i 0=O.getD k 0):jD a b n O0 i (k+1) O ch:=by
 refine⟨h.1,?_⟩;rcases h.2 with h2|⟨h2,h3,h4,h5⟩
 ·exact .inl h2
 ·exact .inr ⟨h2,h3,h4,aV h5 hq⟩
theorem jD.put{a b:List Int} {n:Nat} {O0 O:List Int} {i k:Nat} {ch:Bool} (h:jD a b n O0 i k O ch) (hi:i<n) (hk:k<i) (hq:dN a b i k=true) (bM:O.getD i 0≠O.getD k 0):jD a b n O0 i (k+1) (l6 O i k) true:=by
 refine⟨h.1.step i k hi hk hq,.inl ⟨rfl,?_⟩⟩;have h1:=Pi h.1 i k hi hk bM;rcases h.2 with ⟨_,h2⟩|⟨_,h3,_⟩
 ·omega
 ·rw[<-h3];exact h1
def Tl(W:World) (g:Nat):Nat:=match W.heap[g]? with|some (.cells cs _ _)=>(cs.toList.map fun v=>(intOf v).toNat).sum|_=>0
theorem L4{W:World} {g:Nat} {O:List Int} {t:TypeId} {fz:Nat × Nat} (h:W.heap[g]?=some (.cells (bC O) t fz)):Tl W g=vH O:=by
 unfold Tl vH;rw[h];simp only[bC,List.toList_toArray,List.map_map];rfl
def XO(c:Value) (x:Nat):Nat:=match c with|.bool true=>x+1|_=>0
theorem QQ(va vb:Value) (a b:List Int) (w:World) (ha:aT w va a) (hb:aT w vb b) (hl:b.length=a.length) (hn:a.length<=256) :
  Calls Tryz.prog 92 #[va,vb] w fun r w'=>∃ u,r=.returned u/\aT w' u (lp a b)/\Below w.heap.size w w':=by
 obtain⟨pa,ca,rfl,ea⟩:=df ha;obtain⟨pb,cb,rfl,eb⟩:=df hb;have EA:=aa ea;have EB:=aa eb;obtain⟨n,fj⟩:∃ n,a.length=n:=⟨_,rfl⟩;rw[hl,fj]at EB;rw[fj]at EA hn;rw[hl,fj];have ou:=aa fj;have fT:=iP (fun k:Nat=>(k:Int)) n hn;have sT:am (fC n (fun k:Nat=>(k:Int)) n=bC ((List.range n).map fun i:Nat=>(i:Int))):=aa (by rw[oE]);have HGS:=aa (Glu.start a b n);clear ha hb ea eb hl fj
 go_enter Tryz.func92,Tryz.ntmps92
 go_wp2_with fail
 clear fT;refine bu (fun W=>Below w.heap.size w W/\W.heap[w.heap.size]?=some (.cells (fC n (fun k:Nat=>(k:Int)) 0) 3)) ⟨by go_grown,aq _ _⟩ (fun W0 aZ=>?_);have iU:=aa aZ;clear aZ
 go_loopw [6] (fun i wr=>∃ k:Nat,k<=n/\i=.int .i64 k/\Below w.heap.size w wr/\wr.heap[w.heap.size]?=some (.cells (fC n (fun k:Nat=>(k:Int)) k) 3)) (fun i _=>n - (intOf i).toNat)
 ·exact⟨0,by omega,rfl,iU.o.1,iU.o.2⟩
 ·
  clear iU;obtain⟨k,hk,rfl,az,hO⟩:=hrel;have HO:=aa hO;have aP:=aa az;by_cases aB:k<n
  ·have tq:=ab hO k;rw[kS _ _ _ _ aB]at tq;have zq:=aE hO k;clear hO az
   go_wp2_with fail
   go_roundw
   ·exact⟨k+1,by omega,by go_num,aP.o.setCell (by dsimp only;omega) _,by rw[aF HO.o,sB n (fun k:Nat=>(k:Int)) k aB]⟩
   ·simp[intOf];omega
  obtain rfl:k=n:=by omega
  have dR:am (wr.heap[w.heap.size]?=some (.cells (bC ((List.range k).map fun i:Nat=>(i:Int))) 3)):=aa (by rw[hO,sT.o]);clear hO az
  go_wp2_with fail
  clear HO;obtain⟨g,hg⟩:∃ g,w.heap.size=g:=⟨_,rfl⟩;have HG:=aa hg;rw[hg]at dR ⊢;obtain⟨w4,kq⟩:∃ x,x=wr:=⟨_,rfl⟩;subst kq;clear hg W0
  go_loopw [7] (fun c wr=>∃ (O:List Int) (ch:Bool),c=.bool ch/\Glu a b k O/\(ch=false->∀ i,i<k->∀ k',k'<i->dN a b i k'=true->O.getD i 0=O.getD k' 0)/\Below w.heap.size w wr/\wr.heap[g]?=some (.cells (bC O) 3)) (fun c wr=>XO c (Tl wr g))
  ·exact⟨_,true,rfl,HGS.o,fun h=>(by cases h),aP.o,dR.o⟩
  ·
   clear aP dR;obtain⟨O,ch,rfl,Ow,aU,az,hO⟩:=hrel;have Ma:=aa Ow;have aP:=aa az;have HO:=aa hO;cases ch with
   | false=>
    have nB:=aa (aU rfl)
    have HI:am (aT wr (.slice (some ⟨g,0,none⟩) k k) O):=aa (sC Ma.o.len hn HO.o fun i hi=>by
     have:=Ma.o.le i (by rw[<-Ma.o.len];exact hi);have:=Ma.o.len
     exact⟨by omega,by omega⟩)
    have Mt:=aa (BH _ O (by have:=Ma.o.len;omega) wr HI.o);have HJ:am (lG O=lp a b):=aa (Sk ou.o Ma.o fun i k' hi rM hq=>nB.o i hi k' rM hq);clear Ow aU az hO
    go_wp2_with fail
    refine Mt.o.mono ?_;rintro r w2 ⟨u,rfl,hu,a8⟩;obtain⟨au,cu,rfl,_⟩:=hu.at;have HU:=aa hu;have cQ:=aa (ae aP.o a8);clear hu a8
    go_wp2_with fail
    go_ret
    exact⟨_,rfl,by rw[<-HJ.o];exact HU.o,cQ.o⟩
   | true=>
    have VC:am (jD a b k O 0 0 O false):=aa ⟨Ow,.inr ⟨rfl,rfl,fun i' pU=>by omega,fun k' rM=>by omega⟩⟩;clear Ow aU az hO;obtain⟨w5,KG⟩:∃ x,x=wr:=⟨_,rfl⟩;subst KG
    go_wp2_with fail
    go_loopw [7,8] (fun c x wr=>∃ (P:List Int) (ch:Bool) (i:Nat),i<=k/\c=.bool ch/\x=.int .i64 i/\jD a b k O i 0 P ch/\Below w.heap.size w wr/\wr.heap[g]?=some (.cells (bC P) 3)) (fun _ x _=>k - (intOf x).toNat)
    ·exact⟨O,false,0,by omega,rfl,rfl,VC.o,aP.o,HO.o⟩
    ·
     clear VC;obtain⟨P,ch,i,kY,rfl,rfl,hP,az,hO⟩:=hrel;have HP:=aa hP;have eo:=aa az;have AG:=aa hO;clear hP az hO;obtain⟨w6,Ra⟩:∃ x,x=wr:=⟨_,rfl⟩;subst Ra;by_cases aB:i<k
     ·go_wp2_with fail
      go_loopw [7,9] (fun c x wr=>∃ (P:List Int) (ch:Bool) (j:Nat),j<=i/\c=.bool ch/\x=.int .i64 j/\jD a b k O i j P ch/\Below w.heap.size w wr/\wr.heap[g]?=some (.cells (bC P) 3)) (fun _ x _=>i - (intOf x).toNat)
      ·exact⟨P,ch,0,by omega,rfl,rfl,HP.o,eo.o,AG.o⟩
      ·
       clear HP eo AG;obtain⟨P,ch,j,pS,rfl,rfl,hP,az,hO⟩:=hrel;have HP:=aa hP;have eo:=aa az;have AG:=aa hO;by_cases fS:j<i
       ·obtain⟨ba,oa,rfl,ai⟩:=EA.o i aB;obtain⟨_,_,e1,aj⟩:=EA.o j (by omega);injection e1 with e1
        injection e1 with e11 e12
        subst e11 e12;obtain⟨bb,ob,rfl,bi⟩:=EB.o i aB;obtain⟨_,_,e1,bj⟩:=EB.o j (by omega);injection e1 with e1
        injection e1 with e11 e12
        subst e11 e12;have JV:am (dN a b i j=(decide (a.getD i 0=a.getD j 0) || decide (b.getD i 0=b.getD j 0))):=aa rfl;have pI:=HP.o.1.len;have tp1:=ab hO i;rw[eR _ _ (by omega)]at tp1;have tp2:=ab hO j;rw[eR _ _ (by omega)]at tp2;obtain⟨pi,yJ⟩:∃ x,P.getD i 0=x:=⟨_,rfl⟩;obtain⟨pj,yY⟩:∃ x,P.getD j 0=x:=⟨_,rfl⟩;rw[yJ]at tp1;rw[yY]at tp2;have ya1:∀ z:ExtW wr,z.val.cell? ⟨ba,oa+i,none⟩=_:=fun z=>ak (ae eo.o z.ext) ai
        have ya2:∀ z:ExtW wr,z.val.cell? ⟨ba,oa+j,none⟩=_:=fun z=>ak (ae eo.o z.ext) aj
        have yb1:∀ z:ExtW wr,z.val.cell? ⟨bb,ob+i,none⟩=_:=fun z=>ak (ae eo.o z.ext) bi
        have yb2:∀ z:ExtW wr,z.val.cell? ⟨bb,ob+j,none⟩=_:=fun z=>ak (ae eo.o z.ext) bj
        have yp1:∀ z:ExtW wr,z.val.cell? ⟨g,i,none⟩=_:=fun z=>ak z.ext tp1
        have yp2:∀ z:ExtW wr,z.val.cell? ⟨g,j,none⟩=_:=fun z=>ak z.ext tp2
        generalize a.getD i 0=xi at ya1 JV;generalize a.getD j 0=xj at ya2 JV;generalize b.getD i 0=yi at yb1 JV;generalize b.getD j 0=yj at yb2 JV;clear hP az hO ai aj bi bj;by_cases h1:xi=xj
        ·have dL:(xi == xj)=true:=by simp[h1]
         by_cases h3:pi=pj
         ·have yP:(pi != pj)=false:=by simp[h3]
          have mK:am (jD a b k O i (j+1) P ch):=aa (HP.o.same (fun _=>by rw[yJ,yY];exact h3));clear h1 h3 yJ yY
          go_wp2_with fail
          refine aD (by kernel_rfl) (by kernel_rfl) ?_
          repeat (go_big_quiet_step (fail))
          refine wpQuiet_nil ?_;rintro _ ⟨xq,rfl⟩;clear ya1 ya2 yb1 yb2 yp1 yp2
          go_wp2_with fail
          go_roundw
          ·exact⟨P,ch,j+1,by omega,rfl,by go_num,mK.o,ae eo.o xq.ext,af xq.ext AG.o⟩
          ·simp[intOf];omega
         ·have yP:(pi != pj)=true:=by simpa using h3
          have XX:am (jD a b k O i (j+1) (l6 P i j) true):=aa (HP.o.put aB fS (by rw[JV.o];simp[h1]) (by rw[yJ,yY];exact h3));have Zp:=aa yJ;have Y7:=aa yY;clear h1 h3 yJ yY
          go_wp2_with fail
          refine aD (by kernel_rfl) (by kernel_rfl) ?_
          repeat (go_big_quiet_step (fail))
          refine wpQuiet_nil ?_;rintro _ ⟨xq,rfl⟩;have zp1:∀ z:ExtW xq.val,z.val.cell? ⟨g,i,none⟩=_:=fun z=>ak (ae xq.ext z.ext) tp1
          have zp2:∀ z:ExtW xq.val,z.val.cell? ⟨g,j,none⟩=_:=fun z=>ak (ae xq.ext z.ext) tp2
          clear ya1 ya2 yb1 yb2 yp1 yp2
          go_wp2_with fail
          refine aD (by kernel_rfl) (by kernel_rfl) ?_
          repeat (go_big_quiet_step (fail))
          refine wpQuiet_nil ?_;rintro _ ⟨x2,rfl⟩;have vm:=af (ae xq.ext x2.ext) AG.o;have lB:=ae eo.o (ae xq.ext x2.ext);generalize x2.val=V at vm lB ⊢;have c1:=ab vm i;rw[eR _ _ (by omega)]at c1;have f1:=aE vm i;have Ah:=aF vm i (.int .i64 (min pi pj));rw[kT]at Ah;have c2:=ab Ah j;rw[eR _ _ (by simp;omega)]at c2;have f2:=aE Ah j;have wD:=aa Ah;have GI:=aa lB;clear zp1 zp2 vm Ah lB tp1 tp2
          go_wp2_with fail
          go_roundw
          ·
           refine⟨l6 P i j,true,j+1,by omega,rfl,by go_num,XX.o,(GI.o.setCell (by dsimp only;rw[HG.o];exact Nat.le_refl _) _).setCell (by dsimp only;rw[HG.o];exact Nat.le_refl _) _,?_⟩;rw[aF wD.o,kT];unfold l6;rw[Zp.o,Y7.o]
          ·simp[intOf];omega
        ·have dL:(xi == xj)=false:=beq_eq_false_iff_ne.2 h1;by_cases h2:yi=yj
         ·have eA:(yi == yj)=true:=by simp[h2]
          by_cases h3:pi=pj
          ·have yP:(pi != pj)=false:=by simp[h3]
           have mK:am (jD a b k O i (j+1) P ch):=aa (HP.o.same (fun _=>by rw[yJ,yY];exact h3));clear h1 h2 h3 yJ yY
           go_wp2_with fail
           refine aD (by kernel_rfl) (by kernel_rfl) ?_
           repeat (go_big_quiet_step (fail))
           refine wpQuiet_nil ?_;rintro _ ⟨xq,rfl⟩;clear ya1 ya2 yb1 yb2 yp1 yp2
           go_wp2_with fail
           go_roundw
           ·exact⟨P,ch,j+1,by omega,rfl,by go_num,mK.o,ae eo.o xq.ext,af xq.ext AG.o⟩
           ·simp[intOf];omega
          ·have yP:(pi != pj)=true:=by simpa using h3
           have XX:am (jD a b k O i (j+1) (l6 P i j) true):=aa (HP.o.put aB fS (by rw[JV.o];simp[h2]) (by rw[yJ,yY];exact h3));have Zp:=aa yJ;have Y7:=aa yY;clear h1 h2 h3 yJ yY
           go_wp2_with fail
           refine aD (by kernel_rfl) (by kernel_rfl) ?_
           repeat (go_big_quiet_step (fail))
           refine wpQuiet_nil ?_;rintro _ ⟨xq,rfl⟩;have zp1:∀ z:ExtW xq.val,z.val.cell? ⟨g,i,none⟩=_:=fun z=>ak (ae xq.ext z.ext) tp1
           have zp2:∀ z:ExtW xq.val,z.val.cell? ⟨g,j,none⟩=_:=fun z=>ak (ae xq.ext z.ext) tp2
           clear ya1 ya2 yb1 yb2 yp1 yp2
           go_wp2_with fail
           refine aD (by kernel_rfl) (by kernel_rfl) ?_
           repeat (go_big_quiet_step (fail))
           refine wpQuiet_nil ?_;rintro _ ⟨x2,rfl⟩;have vm:=af (ae xq.ext x2.ext) AG.o;have lB:=ae eo.o (ae xq.ext x2.ext);generalize x2.val=V at vm lB ⊢;have c1:=ab vm i;rw[eR _ _ (by omega)]at c1;have f1:=aE vm i;have Ah:=aF vm i (.int .i64 (min pi pj));rw[kT]at Ah;have c2:=ab Ah j;rw[eR _ _ (by simp;omega)]at c2;have f2:=aE Ah j;have wD:=aa Ah;have GI:=aa lB;clear zp1 zp2 vm Ah lB tp1 tp2
           go_wp2_with fail
           go_roundw
           ·
            refine⟨l6 P i j,true,j+1,by omega,rfl,by go_num,XX.o,(GI.o.setCell (by dsimp only;rw[HG.o];exact Nat.le_refl _) _).setCell (by dsimp only;rw[HG.o];exact Nat.le_refl _) _,?_⟩;rw[aF wD.o,kT];unfold l6;rw[Zp.o,Y7.o]
           ·simp[intOf];omega
         ·have eA:(yi == yj)=false:=beq_eq_false_iff_ne.2 h2;have pX:am (¬ dN a b i j=true):=aa (by rw[JV.o];simp[h1,h2]);have mK:am (jD a b k O i (j+1) P ch):=aa (HP.o.same (fun h=>absurd h pX.o));clear h1 h2 yJ yY
          go_wp2_with fail
          refine aD (by kernel_rfl) (by kernel_rfl) ?_
          repeat (go_big_quiet_step (fail))
          refine wpQuiet_nil ?_;rintro _ ⟨xq,rfl⟩;clear ya1 ya2 yb1 yb2 yp1 yp2
          go_wp2_with fail
          go_roundw
          ·exact⟨P,ch,j+1,by omega,rfl,by go_num,mK.o,ae eo.o xq.ext,af xq.ext AG.o⟩
          ·simp[intOf];omega
       ·obtain rfl:j=i:=by omega
        clear hP az hO
        go_wp2_with fail
        go_roundw
        ·exact⟨P,ch,j+1,by omega,rfl,by go_num,HP.o.row,eo.o,AG.o⟩
        ·simp[intOf];omega
     ·obtain rfl:i=k:=by omega
      go_wp2_with fail
      go_roundw
      ·
       refine⟨P,ch,rfl,HP.o.1,fun h=>?_,eo.o,AG.o⟩;rcases HP.o.2 with ⟨h2,_⟩|⟨_,_,h4,_⟩
       ·rw[h]at h2;cases h2
       ·exact h4
      ·
       have e1:=L4 HO.o;have e2:=L4 AG.o;rcases HP.o.2 with ⟨h2,h3⟩|⟨h2,_⟩
       ·subst h2;simp[XO];omega
       ·subst h2;simp[XO]
theorem DR(s:Sys) (hs:SysOk s) (hE:eS s<=256) (vc vs vt ve:Value) (w:World) (cH:IsSys w s vc vs vt ve) :
  Calls Tryz.prog 50 #[.agg (bL s.prob vc vs s.n vt ve)] w fun r w'=>∃ u,r=.returned u/\aT w' u (partsS s)/\Below w.heap.size w w':=by
 have HS:=aa cH;obtain⟨⟨pc,cc,rfl⟩,⟨ps,cs,rfl⟩,⟨pt,ct,rfl⟩,⟨pe,ce,rfl⟩⟩:=bB cH;clear cH;have kg:=aa (fun p (hp:p<nS s) W (hb:Below w.heap.size w W)=>N0 s hs p hp _ _ _ _ W (HS.o.up hb));have fj:=hs.n.2.2.1;have jS:=hs.n.1;have gK:=hs.n.2.1;have rz:am (∀ k,(eC s k).length=eS s):=aa (gS s);have rP:am (∀ p,(classL s p).length=eS s):=aa (jA s);have HPS:am (∀ k,eC s (k+1)=lp (eC s k) (classL s (k+1))):=aa fun k=>rfl
 have VC:am (eC s 0=classL s 0):=aa rfl;have ie:am (partsS s=eC s (nS s - 1)):=aa rfl;obtain⟨n,hn⟩:∃ n,nS s=n:=⟨_,rfl⟩;rw[hn]at fj jS gK kg ie;rw[fj]at kg ⊢;generalize partsS s=ps0 at ie ⊢;clear hn fj
 go_enter Tryz.func50,Tryz.ntmps50
 go_wp2_with fail
 refine aN (fun W=>Below w.heap.size w W/\∃ c,W.heap[w.heap.size]?=some (.cells c 35)/\c=bL s.prob (.slice pc s.prob.t.cases.length cc) (.slice ps s.prob.a.states.length cs) (n:Int) (.slice pt s.tab.length ct) (.slice pe s.ex.length ce)) ⟨by go_grown,_,aq _ _,rfl⟩ (fun W0 aZ=>?_);obtain⟨aI,_,hA,rfl⟩:=aZ;have ed:=aa aI;have HA:=aa hA;have Ay:=kg.o 0 (by omega) W0 aI;rw[show ((0:Nat):Int)=0 from rfl]at Ay;refine Ay.mono ?_;rintro r w1 ⟨u,rfl,hu,aJ⟩;have HU:=aa hu;obtain⟨au,cu,rfl,_⟩:=hu.at;rw[rP.o]at HU;have bK:=aa aJ;rw[rP.o];clear aI hA Ay hu aJ
 go_wp2_with fail
 go_loopw [3,4] (fun o i wr=>∃ k:Nat,k<n/\i=.int .i64 ((k:Int)+1)/\Below W0.heap.size W0 wr/\∃ a c,o=.slice a (eS s) c/\aT wr (.slice a (eS s) c) (eC s k)) (fun _ i _=>n+1 - (intOf i).toNat)
 ·exact⟨0,by omega,rfl,bK.o,au,cu,rfl,by rw[VC.o];exact HU.o⟩
 ·
  clear bK HU;obtain⟨k,hk,rfl,az,a,c,rfl,hI⟩:=hrel;have aP:=aa az;have HI:=aa hI;have tS:=ab (af az HA.o);clear az hI;by_cases aB:k+1<n
  ·have mx:(k:Int)+1<(n:Int):=by omega
   have bR:=kg.o (k+1) aB wr (ae ed.o aP.o);rw[show ((k+1:Nat):Int)=(k:Int)+1 by omega]at bR;have HC:=aa bR;clear bR
   go_wp2_with fail
   clear tS;refine HC.o.mono ?_;rintro r w2 ⟨u,rfl,hu,a8⟩;have HU:=aa hu;obtain⟨a2,c2,rfl,_⟩:=hu.at;have cQ:=aa a8;have HGU:=aa (QQ _ _ (eC s k) (classL s (k+1)) w2 (HI.o.up up_int cQ.o) HU.o (by rw[rz.o,rP.o]) (by rw[rz.o];exact hE));rw[rP.o]at HGU ⊢;clear hu a8 HC
   go_wp2_with fail
   refine HGU.o.mono ?_;rintro r w3 ⟨u3,rfl,pH,bH⟩;have fS:(lp (eC s k) (classL s (k+1))).length=eS s:=by rw[<-HPS.o,rz.o]
   obtain⟨a3,c3,rfl,_⟩:=pH.at;rw[fS]at pH ⊢;have yQ:=aa pH;have ef:=aa bH;clear pH bH fS
   go_wp2_with fail
   go_roundw
   ·exact⟨k+1,aB,by go_num,ae aP.o (ae cQ.o ef.o),a3,c3,rfl,by rw[HPS.o];exact yQ.o⟩
   ·simp[intOf];omega
  ·have mx:¬ (k:Int)+1<(n:Int):=by omega
   have HK:am (ps0=eC s k):=aa (by rw[ie.o,show n - 1=k by omega])
   go_wp2_with fail
   go_ret
   exact⟨_,rfl,by rw[HK.o];exact HI.o,ae ed.o aP.o⟩
theorem N1{w w':World} {B:Nat} (h:w'.heap[B]?=w.heap[B]?) (o:Nat):w'.cell? ⟨B,o,none⟩=w.cell? ⟨B,o,none⟩:=by
 simp[World.cell?,h]
theorem zU(s:Sys) (hs:SysOk s) (hE:eS s<=256) (vc vs vt ve:Value) (w:World) (cH:IsSys w s vc vs vt ve) :
  Calls Tryz.prog 42 #[.agg (bL s.prob vc vs s.n vt ve)] w fun r w'=>∃ u,r=.returned u/\aT w' u (choiceS s)/\Below w.heap.size w w':=by
 have HS:=aa cH;obtain⟨⟨qc,kc,rfl⟩,⟨qs,ks,rfl⟩,⟨qt,kt,rfl⟩,⟨qe,ke,rfl⟩⟩:=bB cH;have AK:=aa (fun W (hb:Below w.heap.size w W)=>DR s hs hE _ _ _ _ W (HS.o.up hb));have BW:=aa (fun (l:List Nat) (hl:∀ e∈l,e<eS s) vl W (hb:Below w.heap.size w W) (hv:aT W vl (l.map fun e:Nat=>(e:Int)))=>BF s hs l hl vl _ _ _ _ W (HS.o.up hb) hv);have Mk:am (chQ s 0 0=List.replicate (eS s) 0):=aa (Sv s);have Vi:am (∀ (k i:Nat) (hi:i<(memL (partsS s) k).length),chQ s k (i+1)=(chQ s k i).set ((memL (partsS s) k).getD i 0) (comB s (memL (partsS s) k))):=aa (fun k i hi=>Sw hi);have HQN:=aa (Sx s);have Ye:am (∀ k:Nat,(memL (partsS s) k).length=0->chQ s k 0=choiceS s):=aa (fun k h=>Sy h);have sU:=aa (Wo s);have wR:=aa (nK s);have Em:=aa (dm s);have AC:am (∀ (k:Nat),∀ e∈memL (partsS s) k,e<eS s):=aa (fun k=>ss)
 have fZ:am (∀ x∈choiceS s,bN x):=aa (fun x hx=>by
  obtain⟨e,_,rfl⟩:=List.mem_map.1 hx
  exact wB s _ hs.outs.2.1)
 have KN:am (∀ l,bN (comB s l)):=aa (fun l=>wB s l hs.outs.2.1);generalize choiceS s=CH at Ye sU fZ ⊢;generalize chQ s=Q at Mk Vi HQN Ye sU wR;have fT:=iP (fun _=>0) (eS s) hE;have HZ0:am (fC (eS s) (fun _=>(0:Int)) 0=bC (List.replicate (eS s) 0)):=aa (by unfold fC bC;simp[List.map_const']);obtain⟨m,hm⟩:∃ m,eS s=m:=⟨_,rfl⟩;have pB:s.ex.length=eS s:=rfl;rw[pB,hm]at AK BW ⊢;rw[hm]at Mk sU wR Em AC hE fT HZ0;clear cH hm pB
 go_enter Tryz.func42,Tryz.ntmps42
 go_wp2_with fail
 refine aN (fun W=>Below w.heap.size w W/\∃ c,W.heap[w.heap.size]?=some (.cells c 35)/\c=bL s.prob (.slice qc s.prob.t.cases.length kc) (.slice qs s.prob.a.states.length ks) s.n (.slice qt s.tab.length kt) (.slice qe m ke)) ⟨by go_grown,_,aq _ _,rfl⟩ (fun W0 aZ=>?_);obtain⟨aI,_,bI,rfl⟩:=aZ;refine(AK.o W0 aI).mono ?_;rintro r w1 ⟨u,rfl,hu,aJ⟩;have HU:=aa hu;obtain⟨pu,cu,rfl,eu⟩:=df hu;have bK:=aa (ae aI aJ);have db:=aa (af aJ bI);have pI:=Em.o;rw[pI]at HU ⊢;clear hu eu aI aJ bI AK pI
 go_wp2_with fail
 clear fT;refine bu (fun W=>Below w1.heap.size w1 W/\W.heap[w1.heap.size]?=some (.cells (bC (Q 0 0)) 3)) ⟨by go_grown,by rw[Mk.o,<-HZ0.o];exact aq _ _⟩ (fun W1 cD=>?_);obtain⟨jc,qX⟩:=cD;obtain⟨g,hg⟩:∃ g,w1.heap.size=g:=⟨_,rfl⟩;rw[hg]at qX ⊢;have fx:=aa jc;have pE:=aa qX;have wK:=aa hg;have hwg:=bK.o.size;rw[hg]at hwg;have BY:=aC db.o;rw[hg]at BY;clear jc qX hg
 have KS:am (∀ (V:World) (l:List Int),V.heap[g]?=some (.cells (bC l) 3)->l.length=m->l=CH->aT V (.slice (some ⟨g,0,none⟩) m m) CH):=aa (fun V l h1 h2 h3=>by
  subst h3
  exact Gx h2 (by omega) h1 fZ.o)
 go_loopw [5] (fun i wr=>∃ k:Nat,k<=m/\i=.int .i64 k/\Below w1.heap.size w1 wr/\wr.heap[g]?=some (.cells (bC (Q k 0)) 3)) (fun i _=>m - (intOf i).toNat)
 ·exact⟨0,by omega,rfl,fx.o,pE.o⟩
 ·
  obtain⟨k,hk,rfl,az,oR⟩:=hrel;have aP:=aa az;have B':=aa oR;have cZ:=ae bK.o az;have eh:=aa cZ;by_cases aB:k<m
  ·have D8:=aa (zT _ (partsS s) k (by rw[Em.o];omega) wr (HU.o.up up_int az));have mM:=aa (AC.o k);have xb:=aa (Vi.o k);have q6:=aa (HQN.o k);have YQ:=aa (Ye.o k);clear az oR cZ;generalize memL (partsS s) k=L at D8 mM xb q6 YQ
   go_wp2_with fail
   refine D8.o.mono ?_;rintro r w4 ⟨u4,rfl,mr,cj,Kh⟩;have lU:=aa mr;obtain⟨pl,cl,rfl,el⟩:=df mr;rw[List.length_map]at el lU ⊢
   have EL:am (∀ i (hi:i<L.length),∃ b o,pl=some ⟨b,o,none⟩/\w4.cell? ⟨b,o+i,none⟩=some (.int .i64 (L.getD i 0:Nat))):=aa (fun i hi=>by
    obtain⟨b,o,e1,h1⟩:=el i hi;refine⟨b,o,e1,?_⟩;rw[h1]
    simp[hi])
   have G7:g<wr.heap.size:=(Array.getElem?_eq_some_iff.1 B'.o).1
   have HNG:am (∀ b o,pl=some ⟨b,o,none⟩->b≠g):=aa (fun b o hp=>by
    have:=Kh b (by rw[hp];rfl)
    omega)
   clear Kh G7;have eG:=aa (ae aP.o cj);have U4:=aa (af cj B'.o);have AB:=aa (ae eh.o cj);obtain⟨ln,BM⟩:∃ ln,L.length=ln:=⟨_,rfl⟩;have ku:=aa BM;rw[BM]at xb q6 YQ EL lU ⊢;obtain⟨_,_,_,_,hlm,_⟩:=mr.at;rw[List.length_map,BM]at hlm;clear mr el cj BM D8;by_cases At:ln=0
   ·have HR:=aa (KS.o w4 _ U4.o (wR.o k 0) (YQ.o At));have hd:((ln:Int) == 0)=true:=by simp[At]
    clear At
    go_wp2_with fail
    go_ret
    exact⟨_,rfl,HR.o,AB.o⟩
   ·have hd:((ln:Int) == 0)=false:=beq_eq_false_iff_ne.2 (by omega);have tA:=ab (af eG.o db.o)
    go_wp2_with fail
    refine(BW.o L mM.o _ w4 AB.o lU.o).mono ?_;rintro r w5 ⟨rfl,dE⟩;generalize comB s L=cv at xb ⊢;have lf:=aa (ae eG.o dE);have HG5:=aa (af dE U4.o);have H45:=aa dE;clear tA dE
    go_wp2_with fail
    obtain⟨wrA,kw⟩:∃ x,x=wr:=⟨_,rfl⟩;subst kw;have hsz4:=H45.o.size
    go_loopw [8] (fun i wr=>∃ j:Nat,j<=ln/\i=.int .i64 j/\Below w1.heap.size w1 wr/\wr.heap[g]?=some (.cells (bC (Q k j)) 3)/\(∀ q,q<w4.heap.size->q≠g->wr.heap[q]?=w4.heap[q]?)) (fun i _=>ln - (intOf i).toNat)
    ·exact⟨0,by omega,rfl,lf.o,HG5.o,fun q hq _=>H45.o.block q hq⟩
    ·
     obtain⟨j,hj,rfl,GW,MN,Vr⟩:=hrel;have Mw:=aa GW;have Ca:=aa MN;have HKJ:=aa Vr;by_cases fS:j<ln
     ·obtain⟨b1,o1,rfl,c1⟩:=EL.o j fS;have HSJ:=aa (xb.o j fS);have hjl':j<L.length:=by rw[ku.o];exact fS
      have hLj:L.getD j 0<m:=by
       rw[aA 0 hjl'];exact mM.o _ (List.getElem_mem hjl')
      generalize L.getD j 0=e at c1 HSJ hLj;have DY:=HNG.o b1 o1 rfl
      have hcw:wr.cell? ⟨b1,o1+j,none⟩=some (.int .i64 (e:Nat)):=by
       rw[<-c1];exact N1 (Vr b1 (fo c1) DY) (o1+j)
      have tG:=ab Ca.o;have tF:=aE Ca.o;have jG:(bC (Q k j))[e]?=some (.int .i64 ((Q k j).getD e 0)):=eR _ _ (by rw[wR.o];exact hLj)
      have HN7:am (∀ x,x=Value.int .i64 cv->Below w1.heap.size w1 (wr.setCell ⟨g,e,none⟩ x)/\(wr.setCell ⟨g,e,none⟩ x).heap[g]?=some (.cells (bC (Q k (j+1))) 3)/\(∀ q,q<w4.heap.size->q≠g->(wr.setCell ⟨g,e,none⟩ x).heap[q]?=w4.heap[q]?)):=aa (fun x hx=>by
       subst hx;refine⟨Mw.o.setCell (p:=⟨g,e,none⟩) (Nat.le_of_eq wK.o) _,?_,fun q hq hqg=>?_⟩
       ·rw[aF Ca.o,kT,HSJ.o]
       ·rw[Below.heap_setCell _ _ _ _ hqg]
        exact HKJ.o q hq hqg)
      clear GW MN Vr c1
      go_wp2_with fail
      go_roundw
      ·exact⟨j+1,by omega,by go_num,HN7.o _ rfl⟩
      ·simp[intOf];omega
     ·obtain rfl:j=ln:=by omega
      have Rn:am (wr.heap[g]?=some (.cells (bC (Q (k+1) 0)) 3)):=aa (by rw[<-q6.o];exact Ca.o);clear GW MN Vr
      go_wp2_with fail
      go_roundw
      ·exact⟨k+1,by omega,by go_num,Mw.o,Rn.o⟩
      ·simp[intOf];omega
  ·obtain rfl:k=m:=by omega
   have HR:=aa (KS.o wr _ oR (wR.o k 0) sU.o);clear az oR cZ
   go_wp2_with fail
   go_ret
   exact⟨_,rfl,HR.o,eh.o⟩
abbrev zV(s:Sys) (vc vs vt ve:Value) (w:World):Prop:=∀ W,Below w.heap.size w W->Calls Tryz.prog 39 #[.agg (bL s.prob vc vs s.n vt ve)] W fun r w'=>r=.returned (.int .i64 (readyE s))/\Below W.heap.size W w'
theorem qV{s:Sys} (h:readyE s=0):SysOk s:=by
 refine jh ?_;unfold readyE at h;split at h
 ·rename_i h1;exact absurd h h1
 ·omega
theorem Tm{W:World} {base g c n z:Nat} {l:List Int} {e:TypeId} (h:aH W base e 1 (.slice (some ⟨g,0,none⟩) n c) n (l.map (Value.int .i64))) (hz:z<n) (x:Int):aH (W.setCell ⟨g,z,none⟩ (.int .i64 x)) base e 1 (.slice (some ⟨g,0,none⟩) n c) n ((l.set z x).map (Value.int .i64)):=by
 have hl:l.length=n:=by have:=h.1;simpa using this
 have h1:=h.setMany z [.int .i64 x] (by simp;omega)
 have e1:((l.map (Value.int .i64)).take z++[Value.int .i64 x]++(l.map (Value.int .i64)).drop (z+[Value.int .i64 x].length))=(l.set z x).map (Value.int .i64):=by
  rw[List.map_set,List.set_eq_take_append_cons_drop,if_pos (by simp;omega)];simp
 rw[e1]at h1;exact h1
theorem rt(tmps:Array Value) (B:Nat) (W:World) (u:Value) (ok:Bool) (e:Int) (h2:tmps[2]?.getD undef=.pointer (some ⟨B,0,none⟩)) (h3:tmps[3]?.getD undef=.bool ok) (h4:tmps[4]?.getD undef=.int .i64 e)
  (hB:W.heap[B]?=some (.cells #[u] 49)):(results Tryz.f17 tmps).run Tryz.prog W=.ok (uF u ok e) W:=by
 have t2:=ab hB 0;simp at t2;simp[results,Tryz.results17,go_sem,h2,h3,h4,t2,uF]
theorem QR(s:Sys) (hE:eS s<=256) (hT:s.tab.length<=4096) (vc vs vt ve:Value) (w:World) (cH:IsSys w s vc vs vt ve) (hr:zV s vc vs vt ve w) :
  Calls Tryz.prog 17 #[.agg (bL s.prob vc vs s.n vt ve)] w fun r w'=>∃ u,r=.returned (uF u (ruleR s).2.1 (ruleR s).2.2)/\aT w' u (ruleR s).1/\Below w.heap.size w w':=by
 have HS:=aa cH;have oX:=aa hr;obtain⟨⟨qc,kc,rfl⟩,⟨qs,ks,rfl⟩,⟨qt,kt,rfl⟩,⟨qe,ke,rfl⟩⟩:=bB cH;have jE:=aa (fun (h:readyE s=0) W (hb:Below w.heap.size w W)=>zU s (qV h) hE _ _ _ _ W (HS.o.up hb));have mM:=aa (fun (h:readyE s=0) e (he:e<eS s) W (hb:Below w.heap.size w W)=>zP s (qV h) e he _ _ _ _ W (HS.o.up hb));have dg:am (readyE s≠0->ruleR s=([],false,readyE s)):=aa fun h=>by unfold ruleR;rw[if_pos h]
 have dU:am (readyE s=0->-1∈choiceS s->ruleR s=([],false,0)):=aa fun h h2=>by unfold ruleR;rw[if_neg (by omega),if_pos h2]
 have eT:am (readyE s=0->¬ -1∈choiceS s->ruleR s=(dG s (eS s),true,0)):=aa fun h h2=>by unfold ruleR;rw[if_neg (by omega),if_neg h2]
 have l4:am (readyE s=0->verifyE s=0):=aa fun h=>by
  unfold readyE at h;split at h
  ·rename_i h1;exact absurd h h1
  ·omega
 generalize ruleR s=vr at dg dU eT ⊢;unfold zV at oX;obtain⟨re,lR⟩:∃ re,readyE s=re:=⟨_,rfl⟩;rw[lR]at dg dU eT oX jE mM l4;have pB:s.ex.length=eS s:=rfl;rw[pB]at oX jE mM ⊢;obtain⟨m,hm⟩:∃ m,eS s=m:=⟨_,rfl⟩;have HM:=aa hm;obtain⟨nt,sM⟩:∃ nt,s.tab.length=nt:=⟨_,rfl⟩;have wN:=aa sM;rw[hm]at hE oX jE mM ⊢;rw[sM]at hT oX jE mM ⊢;obtain⟨nc,jH⟩:∃ nc,s.prob.t.cases.length=nc:=⟨_,rfl⟩;obtain⟨ns,rN⟩:∃ ns,s.prob.a.states.length=ns:=⟨_,rfl⟩;rw[jH,rN]at oX jE mM ⊢;clear cH hr lR pB hm sM jH rN
 go_enter Tryz.func17,Tryz.ntmps17
 go_wp2_with fail
 refine aN (fun W=>Below w.heap.size w W/\W.heap[w.heap.size+1]?=some (.cells #[.slice none 0 0] 49)/\∃ c,W.heap[w.heap.size]?=some (.cells c 35)/\c=bL s.prob (.slice qc nc kc) (.slice qs ns ks) s.n (.slice qt nt kt) (.slice qe m ke)) ⟨by go_grown,bd _ _ _,_,ar _ (aq _ _),rfl⟩ (fun W0 aZ=>?_);obtain⟨aI,gl,_,bI,rfl⟩:=aZ;refine(oX.o W0 aI).mono ?_;rintro r w1 ⟨rfl,aJ⟩;have bK:=aa (ae aI aJ);have fM:=aa (af aJ gl);have db:=aa (af aJ bI);have gc:=aC fM.o;clear aI bI gl aJ oX;by_cases hz:re=0
 case neg=>
  have HV:=aa (dg.o hz);have Mr:(re != 0)=true:=by simpa using hz
  have to:=ab fM.o 0;have zo:=aE fM.o 0;simp at to;clear hz jE mM l4 dU eT
  go_wp2_with fail
  exact bodyPost_ret (rt _ (w.heap.size+1) _ (.slice none 0 0) false re rfl rfl rfl (aF fM.o 0 _)) rfl ⟨_,by rw[HV.o],by rw[HV.o];exact lM _,bK.o.setCell (by dsimp only;omega) _⟩
 have da:=aa (dU.o hz);have ld:=aa (eT.o hz);have pQ:=aa (jE.o hz);have Mg:=aa (mM.o hz);have q7:=aa (l4.o hz);have dA:=aa (jh q7.o);have tA:=ab db.o;subst hz;clear jE mM l4 dg dU eT
 go_wp2_with fail
 refine(pQ.o w1 bK.o).mono ?_;rintro r w2 ⟨u,rfl,hu,a8⟩;have HU:=aa hu;obtain⟨pu,cu,rfl,eu⟩:=df hu;have bR:(choiceS s).length=m:=by rw[<-HM.o];simp[choiceS]
 rw[bR]at eu;have EU:=aa eu;have cQ:=aa (ae bK.o a8);have dR:=aa (af a8 fM.o);have mo:=aa (af a8 db.o);rw[bR]at HU ⊢;clear hu a8 tA pQ fM db eu bR
 go_wp2_with fail
 refine(JC _ (choiceS s) (-1) w2 HU.o).mono ?_;rintro r _ ⟨rfl,rfl⟩;have KN:am ((choiceS s).contains (-1)=true↔-1∈choiceS s):=aa List.contains_iff_mem;cases ER:(choiceS s).contains (-1) with
 | true=>
  have HV:=aa (da.o (KN.o.1 ER));have to:=ab dR.o 0;have zo:=aE dR.o 0;simp at to;clear ER
  go_wp2_with fail
  exact bodyPost_ret (rt _ (w.heap.size+1) _ (.slice none 0 0) false 0 rfl rfl rfl (aF dR.o 0 _)) rfl ⟨_,by rw[HV.o],by rw[HV.o];exact lM _,cQ.o.setCell (by dsimp only;omega) _⟩
 | false=>
  have HV:=aa (ld.o (fun h=>by have:=KN.o.2 h;rw[ER]at this;cases this));have tA:=ab mo.o;clear ER KN da ld
  go_wp2_with fail
  refine(DQ nt hT (-1) w2).mono ?_;rintro r w3 ⟨u3,rfl,kO,bH⟩;have Q7:0<nt:=by rw[<-wN.o];exact L1 q7.o
  obtain⟨g,cg,cur,fz,rfl,qX,Ad,_,rJ,_⟩:=kO.block Q7;have so:am (aH w3 w2.heap.size 3 1 (.slice (some ⟨g,0,none⟩) nt cg) nt ((dG s 0).map (Value.int .i64))):=aa (by rw[dG,wN.o];exact kO);have G7:=aC Ad;have rR:=ae cQ.o bH;have lh:=aa (af bH dR.o);have pR:=aa (af bH mo.o);have iS:=aC dR.o;have hs23:=bH.size;clear kO Ad tA
  go_wp2_with fail
  refine bu (fun W=>Below w3.heap.size w3 W/\W.heap[w3.heap.size]?=some (.cells #[.slice (some ⟨g,0,none⟩) nt cg] 49)) ⟨by go_grown,aq _ _⟩ (fun w4 kq=>?_);have eG:=aa (ae rR kq.1);have HB24:=aa (ae bH kq.1);have wD:=aa (af kq.1 lh.o);have wJ:=aa (af kq.1 pR.o);have HR7:=aa kq.2;have vy:=aa (so.o.up kq.1);have Ae:=aC kq.2;clear kq bH rR lh pR so dR mo;have An:=aa HS.o.ex;have HK:=aa (fun k (hk:k<eS s)=>gX dA.o An.o hk);have BK:am (∀ k p,k<eS s->p<nS s->0<=finS s k p/\finS s k p<s.tab.length):=aa fun k p hk hp=>kK dA.o hk hp
  have fZ:am (∀ x∈dG s (eS s),bN x):=aa (L2 dA.o.outs.2.1 _ (Nat.le_refl _));have Q8:am (∀ k p,(dV s k (dG s k) p).length=s.tab.length):=aa fun k p=>by rw[mI,sk]
  have ME:am (∀ k,oblM s k<32):=aa (fun k=>Jy dA.o.n.2.1 k);have gK:=dA.o.n.2.1;obtain⟨rr,tt⟩:∃ rr:Nat,s.prob.rounds=rr:=⟨s.prob.rounds.toNat,by have:=dA.o.rounds.1;omega⟩;have GV:=aa tt;have Ac:s.prob.rounds.toNat=rr:=by omega
  rw[Ac]at HK;rw[HM.o]at HK BK;rw[wN.o]at BK Q8;clear Ac tt An
  go_loopw [8] (fun i wr=>∃ k:Nat,k<=m/\i=.int .i64 k/\KeepT [3] [] w2.heap.size w4 wr/\aH wr w2.heap.size 3 1 (.slice (some ⟨g,0,none⟩) nt cg) nt ((dG s k).map (Value.int .i64))) (fun i _=>m - (intOf i).toNat)
  ·exact⟨0,by omega,rfl,KeepT.refl _ _ _,vy.o⟩
  ·
   obtain⟨k,hk,rfl,uR,bQ⟩:=hrel;have Wb:=aa uR;have wZ:=aa bQ;have cZ:Below w.heap.size w wr:=eG.o.trans (uR.old.mono (by omega));have eh:=aa cZ;have Ag:=aa (uR.keep _ _ _ _ wJ.o (by decide));have CV:=uR.old.size;clear uR bQ cZ vy;by_cases aB:k<m
   ·obtain⟨b,o,_,ce',e0,rfl,pw,nw,cw,pv,cv,c1,c2,c3,-,-,-,b2,o2,pr,cr,rfl,c4,bQ⟩:=HK.o k aB;injection e0 with e01 e02 e03
    subst e01 e03;clear e02;obtain⟨pr2,cr2,e4,erow⟩:=df bQ;injection e4 with e41 e42 e43
    subst e41 e43;clear e42
    have jO:am (∀ p,p<nS s->∃ b o,pr=some ⟨b,o,none⟩/\w.cell? ⟨b,o+p,none⟩=some (.int .i64 (finS s k p))):=aa (fun p hp=>by
     obtain⟨b,o,e1,h1⟩:=erow p (by simpa using hp);rw[mH hp]at h1
     exact⟨b,o,e1,h1⟩)
    have wL:=aa (fun W (hb:Below w.heap.size w W)=>xL s k rr GV.o (.slice qc nc kc) (.slice qs ns ks) (.slice qt nt kt) b o m ke aB b2 o2 (rr+1) cv (by omega) (.slice pr (nS s) cr) ⟨_,_,_,rfl⟩ W (ak hb c3) (ak hb c4));have tA:=ab Ag.o;clear c1 c2 c3 c4 bQ erow
    go_wp2_with fail
    refine(wL.o wr eh.o).mono ?_;rintro r w5 ⟨rfl,dE⟩;have UX:=aa (Wb.o.trans (KeepT.of_below [3] dE (by omega)));have FO:=aa (wZ.o.up dE);have lf:=aa (ae eh.o dE);obtain⟨wrA,kw⟩:∃ x,x=wr:=⟨_,rfl⟩;subst kw;clear dE wL tA wZ Wb Ag
    go_wp2_with fail
    go_loopw [10] (fun i wr=>∃ p:Nat,p<=nS s/\i=.int .i64 p/\KeepT [3] [] w2.heap.size w4 wr/\aH wr w2.heap.size 3 1 (.slice (some ⟨g,0,none⟩) nt cg) nt ((dV s k (dG s k) p).map (Value.int .i64))) (fun i _=>nS s - (intOf i).toNat)
    ·exact⟨0,by omega,rfl,UX.o,FO.o⟩
    ·
     clear UX FO lf;obtain⟨p,hp,rfl,Ka,bQ⟩:=hrel;have DW:=aa Ka;have vj:=aa bQ;have eo:=aa (eG.o.trans (Ka.old.mono (show w.heap.size<=w2.heap.size by omega)));have Y8:=aa (Ka.keep _ _ _ _ wJ.o (by decide));have hszq:=Ka.old.size;clear Ka bQ;by_cases yG:p<nS s
     ·obtain⟨b3,o3,rfl,c6⟩:=jO.o p yG;obtain⟨z0,z1⟩:=BK.o k p aB yG;obtain⟨z,hz⟩:∃ z:Nat,finS s k p=z:=⟨(finS s k p).toNat,by omega⟩;rw[hz]at c6 z1;have HZ:=aa hz;have zt:z<nt:=by omega
      have MD:=aa c6;have hol:=ME.o k;have Ym:=aa (fun W=>jM ((oblM s k:Nat):Int) p (by omega) (by omega) (by omega) W);rw[LY yG]at Ym;have tA:=ab Y8.o;have HRL2:=aa (Q8.o k p);obtain⟨b5,o5,rfl,c8⟩:=EU.o k aB;have HC8:=aa c8;clear c6 z0 z1 hz hol c8
      go_wp2_with fail
      refine(Mg.o k aB wr eo.o).mono ?_;rintro r w6 ⟨rfl,gi⟩;have yT:=aa (DW.o.trans (KeepT.of_below [3] gi (by omega)));have UQ:=aa (vj.o.up gi);have lu:=aa (ae eo.o gi);have H7:=aa (yT.o.keep _ _ _ _ HR7.o (by decide));generalize oblM s k=ob at Ym ⊢;clear tA gi DW vj Y8
      go_wp2_with fail
      refine(Ym.o w6).mono ?_;rintro r _ ⟨rfl,rfl⟩;cases hb:hasB (fltS s k) p with
      | true=>
       have eO:am (dV s k (dG s k) (p+1)=dV s k (dG s k) p):=aa (by rw[dV,if_pos hb]);clear hb
       go_wp2_with fail
       go_roundw
       ·exact⟨p+1,by omega,by go_num,yT.o,by rw[eO.o];exact UQ.o⟩
       ·simp[intOf];omega
      | false=>
       have eO:am (dV s k (dG s k) (p+1)=(dV s k (dG s k) p).set z ((choiceS s).getD k 0)):=aa (by rw[dV,if_neg (by rw[hb];simp),HZ.o,Int.toNat_natCast]);obtain⟨g9,c9,cur9,fz9,e9,ml,wM,_⟩:=UQ.o.block Q7;injection e9 with e91 e92 e93
       injection e91 with e91
       injection e91 with e91
       subst e91 e93;obtain⟨g8,c8,e8,_,_,_,Hm⟩:=UQ.o.some Q7;injection e8 with e81 e82 e83
       injection e81 with e81
       injection e81 with e81
       subst e81 e83;obtain⟨⟨y9,tg⟩,zg⟩:=Hm z (by omega);have t7:=ab H7.o 0;simp at t7;have d6:=ak lu.o MD.o;have d8:=ak (HB24.o.trans yT.o.old) HC8.o;generalize (choiceS s).getD k 0=xk at d8 eO;have KM:=aa wM;clear hb e92 e82 Hm wM
       go_wp2_with fail
       go_still_tail 11,(by kernel_rfl)
       go_wp2_with fail
       go_roundw
       ·exact⟨p+1,by omega,by go_num,yT.o.drew.set (o:=z) (show w6.drew.heap[g]?=_ from KM.o) (by simp) ml _,by rw[eO.o];exact Tm (UQ.o.up (Below.refl _ _).drew) zt xk⟩
       ·simp[intOf];omega
     ·obtain rfl:p=nS s:=by omega
      go_wp2_with fail
      go_roundw
      ·exact⟨k+1,by omega,by go_num,DW.o,vj.o⟩
      ·simp[intOf];omega
   ·obtain rfl:k=m:=by omega
    have Rh:=Wb.o.keep _ _ _ _ wD.o (by decide);have KC:=aa Rh;have to:=ab Rh 0;have zo:=aE Rh 0;simp at to;have t7:=ab (Wb.o.keep _ _ _ _ HR7.o (by decide)) 0;simp at t7;clear Rh
    go_wp2_with fail
    refine bodyPost_ret (rt _ (w.heap.size+1) _ (.slice (some ⟨g,0,none⟩) nt cg) true 0 rfl rfl rfl (aF KC.o 0 _)) rfl ⟨_,by rw[HV.o],?_,eh.o.setCell (by dsimp only;omega) _⟩;rw[HV.o,HM.o];have hl:=Q8.o k 0;rw[dV]at hl;have ho:=wZ.o.put (B:=w.heap.size+1) (fun g' e=>by have:=wZ.o.lt g' e;omega) 0 (.slice (some ⟨g,0,none⟩) nt cg);exact fI (l:=dG s k) (v:=.slice (some ⟨g,0,none⟩) nt cg) (base:=w2.heap.size) (by rw[hl];exact ho) (by rw[<-HM.o];exact fZ.o) (by omega)
theorem LD{s:Sys} {l:List Lk} (hx:∀ y∈l,0<=y.x/\y.x.toNat<eS s):(cA l).map (fun e:Nat=>(e:Int))=l.map fun y=>y.x:=by
 unfold cA;rw[List.map_map];refine List.map_congr_left fun y hy=>?_
 have:=(hx y hy).1;simp only[Function.comp_apply];omega
theorem QS{s:Sys} {l:List Lk} (hx:∀ y∈l,0<=y.x/\y.x.toNat<eS s):∀ e∈cA l,e<eS s:=fun e he=>by
 obtain⟨y,hy,rfl⟩:=List.mem_map.1 he;exact(hx y hy).2
theorem LE(s:Sys) (hs:SysOk s) (l:List Lk) (hn:l.length<=1048576) (hx:∀ y∈l,0<=y.x/\y.x.toNat<eS s) (vc vs vt ve vl:Value) (w:World) (cH:IsSys w s vc vs vt ve) (hl:bh w vl l) :
  Calls Tryz.prog 94 #[.agg (bL s.prob vc vs s.n vt ve),vl] w fun r w'=>r=.returned (.bool (cY s l))/\Below w.heap.size w w':=by
 have HS:=aa cH;obtain⟨⟨qc,kc,rfl⟩,⟨qs,ks,rfl⟩,⟨qt,kt,rfl⟩,⟨qe,ke,rfl⟩⟩:=bB cH;have B6:=aa (LD hx);have BW:=aa (fun vl W (hb:Below w.heap.size w W) (hv:aT W vl (l.map fun y=>y.x))=>BF s hs (cA l) (QS hx) vl _ _ _ _ W (HS.o.up hb) (by rw[B6.o];exact hv));have JW:=aa (fun W (hb:Below w.heap.size w W)=>JD vl l hn W (hl.up up_link hb));obtain⟨pl,cl,rfl,_,_,_⟩:=hl.at;obtain⟨vsl,hvsl⟩:∃ x,(l.map fun y=>y.x)=x:=⟨_,rfl⟩;have hCB:cY s l=decide (comB s (cA l)<0):=rfl;rw[hCB];rw[hvsl]at BW JW;generalize comB s (cA l)=cv at BW ⊢;generalize l.length=nl at JW ⊢;clear cH hl hx hn hCB B6 hvsl
 go_enter Tryz.func94,Tryz.ntmps94
 go_wp2_with fail
 refine bu (fun W=>Below w.heap.size w W/\∃ c,W.heap[w.heap.size]?=some (.cells c 35)/\c=bL s.prob (.slice qc s.prob.t.cases.length kc) (.slice qs s.prob.a.states.length ks) s.n (.slice qt s.tab.length kt) (.slice qe s.ex.length ke)) ⟨by go_grown,_,aq _ _,rfl⟩ (fun W0 aZ=>?_);obtain⟨aI,_,bI,rfl⟩:=aZ;have ed:=aa aI;have jm:=aa bI;generalize s.prob.t.cases.length=nc,s.prob.a.states.length=ns,s.tab.length=nt,s.ex.length=ne at jm BW;clear aI bI
 go_wp2_with fail
 have hS:List.Nodup [5,6,7,8,9]:=by decide
 refine fL 5 [5,6,7,8,9] [MP.eq (.agg #[.int .i64 s.prob.t.n,.int .i64 s.prob.t.ins,.int .i64 s.prob.t.outs,.slice qc nc kc,.int .i64 s.prob.a.n,.slice qs ns ks,.int .i64 s.prob.rounds,.int .i64 s.n,.slice qt nt kt,.slice qe ne ke]),MP.eq (.slice pl nl cl),xT vsl,MP.eq (.int .i64 cv),MP.eq (.bool (decide (cv<0)))] (by kernel_rfl) (by simp) hS rfl (by kernel_rfl) (by kernel_rfl) (by kernel_rfl) ?step ?tail
 case step=>
  intro xq Wq iq oq sq F hi ho hs hB ap hF;rcases (show iq=0\/iq=1\/iq=2\/iq=3\/iq=4 by omega) with rfl|rfl|rfl|rfl|rfl
  all_goals (obtain rfl:=dp ho.symm;obtain rfl:=dp hs.symm;clear hi ho hs)
  ·obtain⟨g2,h2⟩:=cK hF 2 (.pointer (some ⟨w.heap.size,0,none⟩)) (by decide) rfl;have tb:=ab (af hB jm.o);clear hF ap
   go_wp2_with fail
   exact aY.mk _ (Below.refl _ _) rfl rfl
  ·obtain⟨g1,h1⟩:=cK hF 1 (.slice pl nl cl) (by decide) rfl;clear hF ap
   go_wp2_with fail
   exact aY.mk _ (Below.refl _ _) rfl rfl
  ·obtain⟨e1,f1⟩:=aQ hF 1 6 _ hS rfl (by kernel_rfl) (ap ⟨1,.data⟩ (by simp) rfl);clear hF ap
   go_wp2_with fail
   refine(JW.o Wq (ae ed.o hB)).mono ?_;rintro r w9 ⟨u9,rfl,nX,dS⟩;have wV:=aa nX;clear nX
   go_wp2_with fail
   exact aY.mk _ dS wV.o rfl
  ·obtain⟨e0,f0⟩:=aQ hF 0 5 _ hS rfl (by kernel_rfl) (ap ⟨0,.data⟩ (by simp) rfl);have d2:=ap ⟨2,.data⟩ (by simp) rfl;have d2':aT Wq (xq 2) vsl:=d2;obtain⟨e2,f2⟩:=aQ hF 2 7 _ hS rfl (by kernel_rfl) rfl;clear hF ap
   go_wp2_with fail
   refine(BW.o _ Wq (ae ed.o hB) d2').mono ?_;rintro r w9 ⟨rfl,dS⟩
   go_wp2_with fail
   exact aY.mk (.int .i64 cv) dS rfl rfl
  ·obtain⟨e3,f3⟩:=aQ hF 3 8 _ hS rfl (by kernel_rfl) (ap ⟨3,.data⟩ (by simp) rfl);clear hF ap
   go_wp2_with fail
   exact aY.mk _ (Below.refl _ _) rfl rfl
 case tail=>
  clear hS;intro xq W3 F hB aU hF;have e4:xq 4=.bool (decide (cv<0)):=aU 4 (by omega);clear aU;simp only[bz,cT,List.setIfInBounds_toArray,List.set_cons_succ,List.set_cons_zero,Nat.reduceAdd]at hF;rw[e4]at hF;generalize xq 0=s0,xq 1=s1,xq 2=s2,xq 3=s3 at hF;subst hF;have bT:=aa (ae ed.o hB);clear hB e4;simp only[List.drop_succ_cons,List.drop_zero]
  go_wp2_with fail
  go_ret
  exact⟨rfl,bT.o⟩
end Go.Proofs.YtmeaoneaephjeaaGreatDoor
namespace Go.Proofs.YtmeaoneaephjeaaGreatDoor
def labI(s:Sys):Int:=firstIx (ji s).length fun i=>decide ((-1:Int)=(ji s).getD i 0)
theorem L5(s:Sys):(ji s).length=oI s+1:=by simp[ji,lj]
theorem FB(s:Sys) (k:Nat) (hk:k<oI s+1):(ji s).getD k 0=comB s (memL (partsS s) k):=by simp[ji,lj,hk]
theorem Tn(s:Sys) (l:List Nat) (h:comB s l<0):comB s l=-1:=by
 unfold comB at *;rcases bE (oS s) (fun v=>l.all fun e=>valB s e v) with ⟨e,_⟩|⟨k,_,e,_⟩<;>omega
theorem To{s:Sys} (h0:0<eS s) (h:j9 s<0):labI s<0:=by
 unfold labI;rcases bE (ji s).length (fun i=>decide ((-1:Int)=(ji s).getD i 0)) with ⟨e,_⟩|⟨k,hk,_,h2,_⟩
 ·omega
 ·exfalso;rw[L5]at hk;obtain⟨e,he,h3⟩:=BE h0 k (by omega);have h4:=sf s e he;have h5:=of_decide_eq_true h2;rw[FB s k hk]at h5;rw[h3]at h4;unfold j9 at h;rcases bE (eS s) (fun e=>decide ((choiceS s).getD e 0<0)) with ⟨_,h6⟩|⟨j,_,e6,_⟩
  ·have:=h6 e he;rw[h4,<-h5]at this;simp at this
  ·omega
theorem Tp{s:Sys} (h0:0<eS s) (h:¬ j9 s<0):(j9 s).toNat<eS s/\0<=labI s/\labI s=(partsS s).getD (j9 s).toNat 0:=by
 have hb:∃ j,j<eS s/\j9 s=j/\(choiceS s).getD j 0<0/\∀ i,i<j->¬ (choiceS s).getD i 0<0:=by
  unfold j9 at h ⊢;rcases bE (eS s) (fun e=>decide ((choiceS s).getD e 0<0)) with ⟨e,_⟩|⟨j,hj,e6,h6,h7⟩
  ·omega
  ·exact⟨j,hj,e6,of_decide_eq_true h6,fun i hi=>of_decide_eq_false (h7 i hi)⟩
 obtain⟨j,hj,e1,h1,h2⟩:=hb;rw[e1,Int.toNat_natCast];have hr:=li s j hj;have ht:=qU h0 j hj;obtain⟨k,hk⟩:∃ k:Nat,(partsS s).getD j 0=k:=⟨((partsS s).getD j 0).toNat,by omega⟩;rw[hk]at ht ⊢;refine⟨hj,?_⟩;have hch:=sf s j hj;rw[hk]at hch
 have:labI s=k:=by
  unfold labI;refine dk _ k _ (by rw[L5];omega) (fun i hi=>?_) ?_
  ·refine decide_eq_false fun e=>?_
   rw[FB s i (by omega)]at e;obtain⟨j',od,e3⟩:=xh (ug s) j (by rw[dm];exact hj) i (by omega) (by omega);have h4:=sf s j' (by omega);rw[e3,<-e]at h4;exact h2 j' od (by omega)
  ·rw[FB s k (by omega),decide_eq_true_eq,Tn s _ (by rw[<-hch];exact h1)]
 omega
theorem GA{s:Sys}:∀ (l:List Lk) (e:Nat),chainB s e l->∀ y∈l,(0<=y.x/\y.x.toNat<eS s)/\0<=y.p/\y.p<nS s
 | [],_,_,y,hy=>by cases hy
 | z :: r,e,⟨h1,h2,h3,h4,_,h6⟩,y,hy=>by
  rcases List.mem_cons.1 hy with rfl|hy
  ·exact⟨⟨h1,h2⟩,h3,h4⟩
  ·exact GA r _ h6 y hy
theorem L6{s:Sys} (hs:SysOk s) (k:Int):∀ y∈gw s (memL (partsS s) k),(0<=y.x/\y.x.toNat<eS s)/\-1<=y.p/\y.p<nS s:=by
 cases hm:memL (partsS s) k with
 | nil=>intro y hy;cases hy
 | cons a r=>
  obtain⟨h1,h2,_⟩:=Pw hs k a r hm;intro y hy;rcases List.mem_cons.1 hy with rfl|hy
  ·exact⟨⟨by dsimp only;omega,by dsimp only;omega⟩,by dsimp only;omega,by dsimp only;omega⟩
  ·obtain⟨h3,h4,h5⟩:=GA _ _ h2 y hy;exact⟨h3,by omega,h5⟩
theorem XP{s:Sys} {l:List Lk} {i:Nat} (hi:i<l.length) (h0:∀ j,j<i->cY s (l.take (j+1))=false) (h1:cY s (l.take (i+1))=true):lH s l=l.take (i+1):=by
 unfold lH AR;rw[dk l.length i (fun i=>cY s (l.take (i+1))) hi h0 h1,if_neg (by omega),Int.toNat_natCast]
theorem L7{s:Sys} {l:List Lk} (h0:∀ j,j<l.length->cY s (l.take (j+1))=false):lH s l=l:=by
 unfold lH AR;rcases bE l.length (fun i=>cY s (l.take (i+1))) with ⟨e,_⟩|⟨k,hk,_,h2,_⟩
 ·rw[e,if_pos (by omega),List.take_length]
 ·rw[h0 k hk]at h2;cases h2
theorem Tq{s:Sys} {l:List Lk} {i:Nat} (hi:i<l.length) (h0:∀ j,j<i->cY s (l.take (j+1))=false):i<(lH s l).length:=by
 unfold lH AR;rcases bE l.length (fun i=>cY s (l.take (i+1))) with ⟨e,_⟩|⟨k,hk,e,h2,_⟩
 ·rw[e,if_pos (by omega),List.take_length];exact hi
 ·rw[e,if_neg (by omega),Int.toNat_natCast,List.length_take];by_cases h:k<i
  ·rw[h0 k h]at h2;cases h2
  ·omega
theorem Tr{s:Sys} {l:List Lk} {i:Nat} (hi:i<l.length):comM s (cA (l.take (i+1)))=comM s (cA (l.take i)) &&& il s (l.getD i default).x.toNat:=by
 rw[List.take_succ_eq_append_getElem hi,xx,show l.getD i default=l[i] by simp[hi]];exact F' s _ _
def xU(O:List Lk):Int:=(O.getD (O.length - 1) default).x
theorem N2(O:List Lk) (y:Lk):xU (O++[y])=y.x:=by
 unfold xU;rw[List.length_append,List.length_singleton,Nat.add_sub_cancel,List.getD_eq_getElem?_getD,List.getElem?_append_right (Nat.le_refl _)];simp
structure FoAt (s:Sys) (L:List Nat) (full O rest:List Lk):Prop where
 way:O++rest=gw s L
 cut:Cp s O rest=full
 pos:0<O.length
structure FoK (s:Sys) (L:List Nat) (W:List Lk):Prop where
 lt:∀ m∈L,m<eS s
 near:∀ x∈L,∀ y∈L,E8 s x y
 mem:∀ y∈W,(0<=y.x/\y.x.toNat<eS s)/\-1<=y.p/\y.p<nS s
 len:W.length<=1+L.length * (eS s - 1)
 card:L.length<=eS s
theorem XQ{s:Sys} (hs:SysOk s) (k:Int) (h0:memL (partsS s) k≠[]):FoK s (memL (partsS s) k) (gw s (memL (partsS s) k)):=by
 have hm:∀ m∈memL (partsS s) k,m<eS s/\(partsS s).getD m 0=k:=fun m hm=>by
  rw[kH,dm]at hm;exact hm
 refine⟨fun m h=>(hm m h).1,fun x hx y hy=>xy hs x y (hm x hx).1 (hm y hy).1 (by rw[(hm x hx).2,(hm y hy).2]),L6 hs k,?_,?_⟩
 ·cases e:memL (partsS s) k with
  | nil=>exact absurd e h0
  | cons a r=>
   have h:=(Pw hs k a r e).2.2.2.1;rw[List.length_cons,Nat.succ_mul];omega
 ·exact Nat.le_trans (List.length_filter_le _ _) (by rw[List.length_range,dm];exact Nat.le_refl _)
theorem FoAt.mem{s:Sys} {L:List Nat} {full O rest:List Lk} (h:FoAt s L full O rest) (hk:FoK s L (gw s L)):∀ y∈O++rest,(0<=y.x/\y.x.toNat<eS s)/\-1<=y.p/\y.p<nS s:=by
 rw[h.way];exact hk.mem
theorem FoAt.len{s:Sys} {L:List Nat} {full O rest:List Lk} (h:FoAt s L full O rest) (hk:FoK s L (gw s L)) (hE:eS s<=256):O.length+rest.length<=65281:=by
 have h1:=congrArg List.length h.way;rw[List.length_append]at h1;have h2:=hk.len;have h3:=hk.card;have h4:L.length * (eS s - 1)<=256 * 255:=Nat.mul_le_mul (by omega) (by omega);omega
theorem FoAt.next{s:Sys} {L:List Nat} {full O rest:List Lk} {y:Lk} (h:FoAt s L full O (y :: rest)) (hc:cY s (O++[y])=false):FoAt s L full (O++[y]) rest:=by
 refine⟨by rw[List.append_assoc];exact h.way,?_,by simp⟩;have h1:=h.cut;rw[zx,if_neg (by rw[hc];simp)]at h1;exact h1
theorem FoAt.stop{s:Sys} {L:List Nat} {full O rest:List Lk} {y:Lk} (h:FoAt s L full O (y :: rest)) (hc:cY s (O++[y])=true):O++[y]=full:=by
 have h1:=h.cut;rw[zx,if_pos hc]at h1;exact h1
theorem FoAt.done{s:Sys} {L:List Nat} {full O:List Lk} (h:FoAt s L full O []):O=full:=h.cut
theorem N3{s:Sys} (hs:SysOk s) (ha:agreeB s.prob.t=true) {a:Nat} {r:List Nat} (YC:a<eS s):FoAt s (a :: r) (lH s (gw s (a :: r))) [⟨a,-1⟩] (gm s a r):=
 ⟨rfl,(PC hs ha YC).symm,by simp⟩
theorem Xm{s:Sys} {L:List Nat} {i:Nat} (hi:i<L.length) (e:Nat):gm s e (L.drop i)=gu s e (L.getD i 0)++gm s (L.getD i 0) (L.drop (i+1)):=by
 rw[List.drop_eq_getElem_cons hi,show L.getD i 0=L[i] by simp[hi]];rfl
end Go.Proofs.YtmeaoneaephjeaaGreatDoor
namespace Go.Proofs.YtmeaoneaephjeaaGreatDoor
open Go.RowKit Go Go.Shelf
attribute [local go_sem] Oper.semAt_some
def N4(vr:List Lk × Bool × Int) (r:Ending) (w':World):Prop:=∃ u,r=.returned (.tuple #[.agg (fw (if vr.2.1 then 1 else 0) u),.bool vr.2.1,.int .i64 vr.2.2])/\bh w' u vr.1
theorem lN(tmps:Array Value) (B:Nat) (W:World) (k e:Int) (ok:Bool) (u:Value) (h2:tmps[2]?.getD undef=.pointer (some ⟨B,0,none⟩)) (h3:tmps[3]?.getD undef=.pointer (some ⟨B+1,0,none⟩)) (h4:tmps[4]?.getD undef=.pointer (some ⟨B+1+1,0,none⟩))
  (hB:W.heap[B]?=some (.cells (fw k u) 58)) (hC:W.heap[B+1]?=some (.cells #[.bool ok] 4)) (hD:W.heap[B+1+1]?=some (.cells #[.int .i64 e] 39)):(results Tryz.f18 tmps).run Tryz.prog W=.ok (.tuple #[.agg (fw k u),.bool ok,.int .i64 e]) W:=by
 have t2:=ab hB;have t3:=ab hC 0;have t4:=ab hD 0;simp at t3 t4;simp[results,Tryz.results18,go_sem,h2,h3,h4,t2,t3,t4]
theorem oJ{W:World} {B:Nat} {k e e':Int} {ok ok':Bool} {u:Value} (hB:W.heap[B]?=some (.cells (fw k u) 58)) (hC:W.heap[B+1]?=some (.cells #[.bool ok'] 4)) (hD:W.heap[B+1+1]?=some (.cells #[.int .i64 e'] 39)) :
  ((W.setCell ⟨B+1,0,none⟩ (.bool ok)).setCell ⟨B+1+1,0,none⟩ (.int .i64 e)).heap[B]?=some (.cells (fw k u) 58)/\((W.setCell ⟨B+1,0,none⟩ (.bool ok)).setCell ⟨B+1+1,0,none⟩ (.int .i64 e)).heap[B+1]?=some (.cells #[.bool ok] 4)/\((W.setCell ⟨B+1,0,none⟩ (.bool ok)).setCell ⟨B+1+1,0,none⟩ (.int .i64 e)).heap[B+1+1]?=some (.cells #[.int .i64 e] 39):=
 ⟨aK (aK hB (by omega) _ _) (by omega) _ _,aK (aF hC _ _) (by omega) _ _,aF (aK hD (by omega) _ _) _ _⟩
theorem uG(w:World):bh w (.slice none 0 0) []:=⟨none,0,rfl,⟨by simp,by omega,fun _=>rfl⟩,by simp,fun i x hx=>by simp at hx⟩
theorem nO{w w':World} {v:Value} {l:List Lk} (h:bh w v l) (hk:∀ b,v.ownBlock=some b->w'.heap[b]?=w.heap[b]?):bh w' v l:=by
 cases hl:l with
 | nil=>
  subst hl;obtain⟨a,c,e,h1,h2,_⟩:=h;exact⟨a,c,e,h1,h2,fun i x hx=>by simp at hx⟩
 | cons y r=>
  obtain⟨a,c,e,_,_,h3⟩:=h.at;obtain⟨b,o,rfl,_⟩:=h3 0 (by rw[hl];simp);subst e;rw[<-hl];exact kM h (hk b rfl)
def FC(u0 b8:Nat) (l:List Lk) (T:Nat->Prop) (A:World):Prop:=∃ v,A.heap[b8]?=some (.cells (fw 1 v) 58)/\aH A u0 75 2 v l.length (cF l)/\∀ g,v.ownBlock=some g->¬ T g
theorem FC.ch{u0 b8:Nat} {l:List Lk} {T T':Nat->Prop} {A A':World} (h:FC u0 b8 l T A) (hb:b8<u0) (hc:ChT u0 T A A') (hw:gQ A A' T T'):FC u0 b8 l T' A':=by
 obtain⟨v,h1,h2,h3⟩:=h;refine⟨v,(hc.low _ hb).trans h1,h2.keep fun g o hg ho=>?_,fun g hg ht=>?_⟩
 ·have eQ:o.isCells=true:=by
   rcases h2.2 with ⟨e,_⟩|⟨g',_,_,_,e,_,e2,_⟩
   ·rw[e]at hg;cases hg
   ·rw[e]at hg;injection hg with hg
    subst hg;rw[e2]at ho;injection ho with ho
    subst ho;rfl
  exact hc.same g o ho eQ (h3 g hg)
 ·rcases hw.2 g ht with h5|h5
  ·exact h3 g hg h5
  ·have:=(h2.lt g hg).2;omega
structure FdI (s:Sys) (w4:World) (u0 b8:Nat) (way:List Lk) (i:Nat) (T:Nat->Prop) (A:World):Prop where
 old:Below w4.heap.size w4 A
 sz:u0<=A.heap.size
 out:FC u0 b8 (way.take i) T A
 left:A.heap[b8+1]?=some (.cells #[.int .i64 (comM s (cA (way.take i)):Nat)] 3)
 no:∀ j,j<i->cY s (way.take (j+1))=false
 le:i<=4096
 len:(way.take i).length=i
 tb:∀ k,T k->k<A.heap.size
theorem FdI.ch{s:Sys} {w4:World} {u0 b8 i:Nat} {way:List Lk} {T T':Nat->Prop} {A A':World} (h:FdI s w4 u0 b8 way i T A) (h4:w4.heap.size<=u0) (hb:b8+1<u0) (hc:ChT u0 T A A') (hw:gQ A A' T T'):FdI s w4 u0 b8 way i T' A':=
 ⟨hc.below h4 h.old,Nat.le_trans h.sz hc.size,h.out.ch (by omega) hc hw,(hc.low _ (by omega)).trans h.left,h.no,h.le,h.len,fun k hk=>by
  rcases hw.2 k hk with h1|h1
  ·exact Nat.lt_of_lt_of_le (h.tb k h1) hc.size
  ·exact h1.2⟩
structure FdX (w4:World) (u0 b8:Nat) (F:List Lk) (T:Nat->Prop) (A:World):Prop where
 old:Below w4.heap.size w4 A
 sz:u0<=A.heap.size
 out:FC u0 b8 F T A
 le:F.length<=4096
structure FdY (w:World) (F:List Lk) (A:World):Prop where
 old:Below w.heap.size w A
 r2:A.heap[w.heap.size+1]?=some (.cells (fw 0 (.slice none 0 0)) 58)
 r3:A.heap[w.heap.size+1+1]?=some (.cells #[.bool false] 4)
 r4:A.heap[w.heap.size+1+1+1]?=some (.cells #[.int .i64 17] 39)
 lt:4096<F.length
theorem GB(s:Sys) (hE:eS s<=256) (vc vs vt ve:Value) (w:World) (hT:iH w) (hs:IsSys w s vc vs vt ve) (hN:movesN s.prob.a.states<1099511627776) :
  Calls Tryz.prog 18 #[.agg (bL s.prob vc vs s.n vt ve)] w fun r w'=>N4 (findW s) r w'/\Below w.heap.size w w':=by
 have HS:=aa hs;have HT:=aa hT;obtain⟨⟨pc,cc,rfl⟩,⟨ps,cs,rfl⟩,⟨pt,ct,rfl⟩,⟨pe,ce,rfl⟩⟩:=bB hs;clear hs hT;have HC:=aa (fun W (hb:Below w.heap.size w W)=>oH s hE _ _ _ _ W (HS.o.up hb) hN)
 have l4:am (readyE s=0->verifyE s=0/\agreeB s.prob.t=true):=aa fun h=>by
  refine⟨sH h,?_⟩;unfold readyE at h;split at h
  ·rename_i h1;exact absurd h h1
  split at h
  ·assumption
  ·omega
 have dg:am (readyE s≠0->findW s=([],false,readyE s)):=aa fun h=>by unfold findW;rw[if_pos h]
 have dU:am (readyE s=0->j9 s<0->findW s=([],false,0)):=aa fun h h2=>by unfold findW;rw[if_neg (by omega),if_pos h2]
 have eT:am (readyE s=0->¬ j9 s<0->findW s=if 4096<(kR s).length then([],false,17) else(kR s,true,0)):=aa fun h h2=>by unfold findW;rw[if_neg (by omega),if_neg h2]
 generalize findW s=vr at dg dU eT ⊢;obtain⟨re,lR⟩:∃ re,readyE s=re:=⟨_,rfl⟩;rw[lR]at dg dU eT HC l4;clear lR;refine gq Tryz.func18 rfl ?_;simp only[Tryz.ntmps18,List.size_toArray,List.length_cons,List.length_nil,Nat.reduceAdd,Nat.reduceSub,Array.replicate_succ,Array.replicate_zero,List.push_toArray,List.append_toArray,List.nil_append,List.cons_append]
 go_wp2_with fail
 refine aN (fun W=>Below w.heap.size w W/\W.heap[w.heap.size+1]?=some (.cells (fw 0 (.slice none 0 0)) 58)/\W.heap[w.heap.size+1+1]?=some (.cells #[.bool false] 4)/\W.heap[w.heap.size+1+1+1]?=some (.cells #[.int .i64 0] 39))
  ⟨by go_grown,ar _ (ar _ (bd _ _ _)),ar _ (eI _ _ _ _),by have h:=aq (((w.alloc (.cells (bL s.prob (.slice pc s.prob.t.cases.length cc) (.slice ps s.prob.a.states.length cs) s.n (.slice pt s.tab.length ct) (.slice pe s.ex.length ce)) 35)).alloc (.cells (fw 0 (.slice none 0 0)) 58)).alloc (.cells #[.bool false] 4)) (.cells #[.int .i64 0] 39);simpa using h⟩ (fun W0 aZ=>?_)
 obtain⟨aI,mJ,Ep,D5⟩:=aZ;refine(HC.o W0 aI).mono ?_;rintro r w1 ⟨v,rfl,aJ,h2,h3⟩;have bK:=aa (ae aI aJ);have fG:=aa (af aJ mJ);have gN:=aa (af aJ Ep);have jJ:=aa (af aJ D5);have gc:=aC jJ.o;by_cases hr:re=0
 case neg=>
  have HV:=aa (dg.o hr);obtain rfl:=h2 hr;have Hi:(re != 0)=true:=by simpa using hr
  clear aI aJ h2 h3 hr HC mJ Ep D5 dg dU eT l4
  go_wp2_with (refine wpList_store_row rfl 58 (.tmp 2) (.tmp 18) rfl (w.heap.size+1) (fw 0 (.slice none 0 0)) rfl rfl 58 _ (ar _ fG.o) (by kernel_rfl) rfl (by simp[Value.oneCell']) (gT (fun W=>Below w.heap.size w W/\W.heap[w.heap.size+1]?=some (.cells (fw 0 (.slice none 0 0)) 58)/\W.heap[w.heap.size+1+1]?=some (.cells #[.bool false] 4)/\W.heap[w.heap.size+1+1+1]?=some (.cells #[.int .i64 0] 39)) ⟨below_setRow (bK.o.alloc (by omega) _) (by omega) _,setRow_heap _ _ _ _ _ _ (ar _ fG.o),by rw[setRow_other _ _ _ _ (by omega)];exact ar _ gN.o,by rw[setRow_other _ _ _ _ (by omega)];exact ar _ jJ.o⟩ ?_);intro W2 eY;have cS:=aa eY;clear eY;have t3:=ab cS.o.2.2.1 0;have z3:=aE cS.o.2.2.1 0;have t4:=ab cS.o.2.2.2 0;have z4:=aE cS.o.2.2.2 0;simp at t3 t4)
  obtain⟨y1,y2,y3⟩:=oJ (ok:=false) (e:=re) cS.o.2.1 cS.o.2.2.1 cS.o.2.2.2;have e1:=HV.o;subst e1;exact iE (lN _ (w.heap.size+1) _ 0 re false _ rfl rfl rfl y1 y2 y3) ⟨⟨_,rfl,uG _⟩,(cS.o.1.setCell (by dsimp only;omega) _).setCell (by dsimp only;omega) _⟩
 obtain⟨B,rfl,hB,gj⟩:=h3 hr;have da:=aa (dU.o hr);have ld:=aa (eT.o hr);have q7:=aa (l4.o hr).1;have Hk:=aa (l4.o hr).2;have dA:=aa (jh q7.o);have HP:=aa (AY q7.o);have kV:=aa gj;subst hr;clear aI aJ h2 h3 HC gj mJ Ep D5 dg dU eT l4;have tb:=fun o j=>ab (ar o fG.o) j
 go_wp2_with fail
 clear tb;refine aN (fun W=>Below w1.heap.size w1 W/\W.heap[w1.heap.size]?=some (.cells #[.pointer (some ⟨B,0,none⟩)] 94)) ⟨by go_grown,aq _ _⟩ (fun W1 cD=>?_);have fx:=aa cD.1;have kW:=aa cD.2;clear cD;have Kc:=aa (kV.o.up fx.o);have xW:=aa (ae bK.o fx.o);refine(vO s dA.o HP.o hE B W1 Kc.o (HT.o.up xW.o)).mono ?_;rintro r w3 ⟨u,rfl,hu,bH⟩;have rm:=aa (yu u (ji s) (-1) w3 hu);obtain⟨pu,cu,rfl,_⟩:=hu.at;have ef:=aa (ae fx.o bH);have FT:=aa (af bH kW.o);clear hu bH;have Er:am (firstIx (ji s).length (fun i=>decide ((-1:Int)=(ji s).getD i 0))=labI s):=aa rfl;rw[Er.o]at rm;have VE:=aa (fun h=>To (s:=s) HP.o h);have G0:=aa (fun h=>Tp (s:=s) HP.o h);obtain⟨cn,Eu⟩:∃ cn,(ji s).length=cn:=⟨_,rfl⟩;rw[Eu]at rm ⊢;clear Er Eu;generalize labI s=lab at rm VE G0
 go_wp2_with fail
 refine rm.o.mono ?_;rintro r w4 ⟨rfl,cj⟩;have eG:=aa (ae ef.o cj);have FW:=aa (af cj FT.o);have AB:=aa (ae bK.o eG.o);have Ki:=aa (af eG.o fG.o);have Or:=aa (af eG.o gN.o);have Ox:=aa (af eG.o jJ.o);clear cj rm ef FT kW fx Kc xW;by_cases Ze:j9 s<0
 ·have aB:=VE.o Ze;have hd:decide (lab<0)=true:=decide_eq_true aB;have e1:=da.o Ze;subst e1;clear da ld VE G0 aB
  go_wp2_with (refine wpList_store_row rfl 58 (.tmp 2) (.tmp 25) rfl (w.heap.size+1) (fw 0 (.slice none 0 0)) rfl rfl 58 _ Ki.o (by kernel_rfl) rfl (by simp[Value.oneCell']) (gT (fun W=>Below w.heap.size w W/\W.heap[w.heap.size+1]?=some (.cells (fw 0 (.slice none 0 0)) 58)/\W.heap[w.heap.size+1+1]?=some (.cells #[.bool false] 4)/\W.heap[w.heap.size+1+1+1]?=some (.cells #[.int .i64 0] 39)) ⟨below_setRow AB.o (by omega) _,setRow_heap _ _ _ _ _ _ Ki.o,by rw[setRow_other _ _ _ _ (by omega)];exact Or.o,by rw[setRow_other _ _ _ _ (by omega)];exact Ox.o⟩ ?_);intro W2 eY;have cS:=aa eY;clear eY;have t3:=ab cS.o.2.2.1 0;have z3:=aE cS.o.2.2.1 0;have t4:=ab cS.o.2.2.2 0;have z4:=aE cS.o.2.2.2 0;simp at t3 t4)
  obtain⟨y1,y2,y3⟩:=oJ (ok:=false) (e:=0) cS.o.2.1 cS.o.2.2.1 cS.o.2.2.2;exact iE (lN _ (w.heap.size+1) _ 0 0 false _ rfl rfl rfl y1 y2 y3) ⟨⟨_,rfl,uG _⟩,(cS.o.1.setCell (by dsimp only;omega) _).setCell (by dsimp only;omega) _⟩
 obtain⟨lz,At,hleq⟩:=G0.o (by omega);have hd:decide (lab<0)=false:=decide_eq_false (by omega);have HV:=aa (ld.o (by omega));have mR:am (kR s=lH s (gw s (memL (partsS s) lab))):=aa (by rw[hleq];rfl);have UT:=aa (L6 dA.o lab);clear da ld VE G0 Ze lz hleq;have Re:=AB.o.size;have tb:=ab FW.o 0;simp at tb;have tb':∀ o o',((w4.alloc o).alloc o').cell? ⟨w1.heap.size,0,none⟩=some (.pointer (some ⟨B,0,none⟩)):=fun o o'=>ak (show Below w4.heap.size w4 ((w4.alloc o).alloc o') by go_grown) tb
 go_wp2_with fail
 refine(QN B lab _).mono ?_;rintro r w5 ⟨rfl,rfl⟩;clear tb tb'
 go_wp2_with fail
 refine bu (fun U=>Below w4.heap.size w4 U/\U.heap.size=w4.heap.size+1+1+1+1/\U.heap[w4.heap.size]?=some (.cells (fw 1 (.slice none 0 0)) 58)/\U.heap[w4.heap.size+1]?=some (.cells #[.int .i64 255] 3)/\U.heap[w4.heap.size+1+1]?=some (.cells #[.pointer (some ⟨B,0,none⟩)] 94)/\U.heap[w4.heap.size+1+1+1]?=some (.cells #[.int .i64 lab] 3))
  ⟨by go_grown,by simp,ar _ (ar _ (ar _ (aq _ _))),ar _ (ar _ (bd _ _ _)),ar _ (eI _ _ _ _),by have h:=aq (((w4.alloc (.cells (fw 1 (.slice none 0 0)) 58)).alloc (.cells #[.int .i64 255] 3)).alloc (.cells #[.pointer (some ⟨B,0,none⟩)] 94)) (.cells #[.int .i64 lab] 3);simpa using h⟩ (fun U hU=>?_)
 obtain⟨uN,tD,pH,mr,sL,Kv⟩:=hU;have HSC4:=aa (kV.o.up eG.o);have dr:=NY s q7.o hE hN B (w4.heap.size+1+1) (w4.heap.size+1+1+1) lab w4 HSC4.o U uN sL Kv;obtain⟨way,JS⟩:∃ way,gw s (memL (partsS s) lab)=way:=⟨_,rfl⟩;rw[JS]at dr mR UT;obtain⟨F,hF⟩:∃ F,kR s=F:=⟨_,rfl⟩;rw[hF]at mR HV;obtain⟨i0,cM,bX,bP,bY⟩:=info_parts Tryz.infoLink;have bO:=aa (And.intro cM (And.intro bX (And.intro bP bY)))
 have wL:am (∀ y∈F,bN y.x/\bN y.p):=aa (fun y hy=>by
  rw[mR.o]at hy;obtain⟨h1,h2⟩:=UT.o y (List.mem_of_mem_take hy);have:=dA.o.n.2.1
  exact⟨⟨by omega,by omega⟩,⟨by omega,by omega⟩⟩)
 have HU:am (FdI s w4 U.heap.size w4.heap.size way 0 (fun _=>False) U):=aa ⟨uN,Nat.le_refl _,⟨_,pH,aH.nil _ _ _ _,fun g hg=>by cases hg⟩,by rw[List.take_zero,show comM s (cA [])=255 from Co s];exact mr,fun j hj=>by omega,by omega,by simp,fun k h=>h.elim⟩;have T3:=aa (fun i T T' A A' (h:FdI s w4 U.heap.size w4.heap.size way i T A) (hc:ChT U.heap.size T A A') (hw:gQ A A' T T')=>h.ch (by omega) (by omega) hc hw);have gK:=dA.o.n.2.1;have V9:=dA.o.outs.2.1;clear uN pH mr sL Kv JS hF cM bX bP bY
 refine M1 (gf:=89) (lb:=#[.pointer (some ⟨w4.heap.size+1+1,0,none⟩),.pointer (some ⟨w4.heap.size+1+1+1,0,none⟩)]) rfl (enters_of Tryz.func89 (by kernel_rfl) rfl) dr (Below.refl _ _) (fun k hk=>by rcases hk with hk|rfl|rfl<;>omega) (fun i args h=>by rw[h];rfl)
  (FdI s w4 U.heap.size w4.heap.size way)
  (fun c i T A=>(c=.exit 0/\FdX w4 U.heap.size w4.heap.size F T A)\/(c=.ret/\FdY w F A))
  (fun i T T' A A' h hc hw=>T3.o i T T' A A' h hc hw)
  (fun c i T T' A A' h hc hw=>by
   rcases h with ⟨h1,h⟩|⟨h1,h⟩
   ·exact .inl ⟨h1,hc.below (by omega) h.old,Nat.le_trans h.sz hc.size,h.out.ch (by omega) hc hw,h.le⟩
   ·exact .inr ⟨h1,hc.below (by omega) h.old,(hc.low _ (by omega)).trans h.r2,(hc.low _ (by omega)).trans h.r3,(hc.low _ (by omega)).trans h.r4,h.lt⟩)
  HU.o ?rnd ?done ?stop
 case done=>
  intro D T A hD oe hK;have rg:FdX w4 U.heap.size w4.heap.size F T A:=⟨oe.old,oe.sz,by rw[mR.o,L7 oe.no];have h:=oe.out;rw[List.take_length]at h;exact h,by rw[mR.o,L7 oe.no];exact oe.le⟩;have yV:am (F.length<=4096):=aa rg.le;clear oe;obtain⟨v,jF,kr,_⟩:=rg.out;have Hj:=aC hK;have lO:=kn kr wL.o (by have:=rg.le;omega);obtain⟨pv,cv,rfl⟩:=kr.slice;have Y':=aa rg.old;have gz:=aa lO;have pG:=aa jF;have Y2:=aa (af rg.old Ki.o);have Y3:=aa (af rg.old Or.o);have Y4:=aa (af rg.old Ox.o);have t8:=ab jF;have MU:=aa hK;have hbU:w.heap.size+1+1+1<D:=by omega
  have hH:am (∀ b,(Value.slice pv F.length cv).ownBlock=some b->U.heap.size<=b):=aa (fun b hb=>(kr.lt b hb).1);have Hs:am (¬ (Value.slice pv F.length cv).ownBlock=some D):=aa (fun e=>kr.isCells hK rfl e.symm);clear jF kr lO dr hK rg
  go_wp2_with (refine wpList_store_row rfl 58 (.tmp 2) (.tmp 54) rfl (w.heap.size+1) (fw 1 (.slice pv F.length cv)) rfl rfl 58 _ Y2.o (by kernel_rfl) rfl (by simp[Value.oneCell']) (gT (fun W=>(Below w.heap.size w W/\bh W (.slice pv F.length cv) F/\W.heap[D]?=some (.deferred (some [])))/\W.heap[w.heap.size+1]?=some (.cells (fw 1 (.slice pv F.length cv)) 58)/\W.heap[w.heap.size+1+1]?=some (.cells #[.bool false] 4)/\W.heap[w.heap.size+1+1+1]?=some (.cells #[.int .i64 0] 39)) ⟨⟨below_setRow (ae AB.o Y'.o) (by omega) _,nO gz.o (fun b hb=>by rw[setRow_other _ _ _ _ (by have:=hH.o b hb;omega)]),by rw[setRow_other _ _ _ _ (by omega)];exact MU.o⟩,setRow_heap _ _ _ _ _ _ Y2.o,by rw[setRow_other _ _ _ _ (by omega)];exact Y3.o,by rw[setRow_other _ _ _ _ (by omega)];exact Y4.o⟩ ?_);intro W2 eY;have cS:=aa eY;clear eY;have t3:=ab cS.o.2.2.1 0;have z3:=aE cS.o.2.2.1 0;have t4:=ab cS.o.2.2.2 0;have z4:=aE cS.o.2.2.2 0;simp at t3 t4)
  obtain⟨y1,y2,y3⟩:=oJ (ok:=true) (e:=0) cS.o.2.1 cS.o.2.2.1 cS.o.2.2.2;refine iM (aK (aK cS.o.1.2.2 (by omega) _ _) (by omega) _ _) (lN _ (w.heap.size+1) _ 1 0 true _ rfl rfl rfl ((World.putObj_heap_other (by omega)).trans y1) ((World.putObj_heap_other (by omega)).trans y2) ((World.putObj_heap_other (by omega)).trans y3)) ?_;have e1:=HV.o;rw[if_neg (by have:=yV.o;omega)]at e1;subst e1;refine⟨⟨_,rfl,nO cS.o.1.2.1 (fun b hb=>by have h1:=hH.o b hb;have h2:b≠D:=fun e=>Hs.o (e ▸ hb);rw[World.putObj_heap_other h2,Below.heap_setCell _ _ _ _ (by dsimp only;omega),Below.heap_setCell _ _ _ _ (by dsimp only;omega)])⟩,eX (by omega) ((cS.o.1.1.setCell (by dsimp only;omega) _).setCell (by dsimp only;omega) _)⟩
 case stop=>
  rintro D c i T A hD hi h hK;rcases h with ⟨rfl,rg⟩|⟨rfl,hY⟩
  case inr=>
   have Hj:=aC hK
   go_wp2_with fail
   refine iM hK (lN _ (w.heap.size+1) _ 0 17 false _ rfl rfl rfl ((World.putObj_heap_other (by omega)).trans hY.r2) ((World.putObj_heap_other (by omega)).trans hY.r3) ((World.putObj_heap_other (by omega)).trans hY.r4)) ?_;have e1:=HV.o;rw[if_pos hY.lt]at e1;subst e1;exact⟨⟨_,rfl,uG _⟩,eX (by omega) hY.old⟩
  have yV:am (F.length<=4096):=aa rg.le;obtain⟨v,jF,kr,_⟩:=rg.out;have Hj:=aC hK;have lO:=kn kr wL.o (by have:=rg.le;omega);obtain⟨pv,cv,rfl⟩:=kr.slice;have Y':=aa rg.old;have gz:=aa lO;have pG:=aa jF;have Y2:=aa (af rg.old Ki.o);have Y3:=aa (af rg.old Or.o);have Y4:=aa (af rg.old Ox.o);have t8:=ab jF;have MU:=aa hK;have hbU:w.heap.size+1+1+1<D:=by omega
  have hH:am (∀ b,(Value.slice pv F.length cv).ownBlock=some b->U.heap.size<=b):=aa (fun b hb=>(kr.lt b hb).1);have Hs:am (¬ (Value.slice pv F.length cv).ownBlock=some D):=aa (fun e=>kr.isCells hK rfl e.symm);clear jF kr lO dr hK rg
  go_wp2_with (refine wpList_store_row rfl 58 (.tmp 2) (.tmp 54) rfl (w.heap.size+1) (fw 1 (.slice pv F.length cv)) rfl rfl 58 _ Y2.o (by kernel_rfl) rfl (by simp[Value.oneCell']) (gT (fun W=>(Below w.heap.size w W/\bh W (.slice pv F.length cv) F/\W.heap[D]?=some (.deferred (some [])))/\W.heap[w.heap.size+1]?=some (.cells (fw 1 (.slice pv F.length cv)) 58)/\W.heap[w.heap.size+1+1]?=some (.cells #[.bool false] 4)/\W.heap[w.heap.size+1+1+1]?=some (.cells #[.int .i64 0] 39)) ⟨⟨below_setRow (ae AB.o Y'.o) (by omega) _,nO gz.o (fun b hb=>by rw[setRow_other _ _ _ _ (by have:=hH.o b hb;omega)]),by rw[setRow_other _ _ _ _ (by omega)];exact MU.o⟩,setRow_heap _ _ _ _ _ _ Y2.o,by rw[setRow_other _ _ _ _ (by omega)];exact Y3.o,by rw[setRow_other _ _ _ _ (by omega)];exact Y4.o⟩ ?_);intro W2 eY;have cS:=aa eY;clear eY;have t3:=ab cS.o.2.2.1 0;have z3:=aE cS.o.2.2.1 0;have t4:=ab cS.o.2.2.2 0;have z4:=aE cS.o.2.2.2 0;simp at t3 t4)
  obtain⟨y1,y2,y3⟩:=oJ (ok:=true) (e:=0) cS.o.2.1 cS.o.2.2.1 cS.o.2.2.2;refine iM (aK (aK cS.o.1.2.2 (by omega) _ _) (by omega) _ _) (lN _ (w.heap.size+1) _ 1 0 true _ rfl rfl rfl ((World.putObj_heap_other (by omega)).trans y1) ((World.putObj_heap_other (by omega)).trans y2) ((World.putObj_heap_other (by omega)).trans y3)) ?_;have e1:=HV.o;rw[if_neg (by have:=yV.o;omega)]at e1;subst e1;refine⟨⟨_,rfl,nO cS.o.1.2.1 (fun b hb=>by have h1:=hH.o b hb;have h2:b≠D:=fun e=>Hs.o (e ▸ hb);rw[World.putObj_heap_other h2,Below.heap_setCell _ _ _ _ (by dsimp only;omega),Below.heap_setCell _ _ _ _ (by dsimp only;omega)])⟩,eX (by omega) ((cS.o.1.1.setCell (by dsimp only;omega) _).setCell (by dsimp only;omega) _)⟩
 case rnd=>
  rintro yl i T V args hi hl hlV hT rfl iT;obtain⟨y,hy⟩:∃ y,way.getD i default=y:=⟨_,rfl⟩;have X6:way[i]=y:=by rw[<-hy];simp[hi]
  obtain⟨⟨jl,U3⟩,hyp⟩:=UT.o way[i] (List.getElem_mem hi);rw[X6]at jl U3 hyp;have dT:=aa (Tr (s:=s) hi);rw[hy]at dT ⊢;obtain⟨yx,yp⟩:=y;dsimp only at jl U3 hyp dT;obtain⟨e,he⟩:∃ e:Nat,yx=e:=⟨yx.toNat,by omega⟩;subst he;rw[Int.toNat_natCast]at U3 dT;have pD:=aa iT;have HYW:=aa X6;clear iT hy X6 dr jl
  gi_wp2
  have Vj:Below V.heap.size V (V.alloc (.cells #[.int .i64 e,.int .i64 yp] 75)):=by go_grown
  refine⟨Bod.of_below (fun k hk=>hk.2) Vj,fun X=>FdI s w4 U.heap.size w4.heap.size way i T X/\X.heap[V.heap.size]?=some (.cells #[.int .i64 e,.int .i64 yp] 75)/\∀ g v,X.heap[w4.heap.size]?=some (.cells (fw 1 v) 58)->v.ownBlock=some g->g<V.heap.size,?_,⟨T3.o _ _ _ _ _ pD.o (ChT.of_below pD.o.sz Vj) (gQ.refl _ _ _),aq _ _,fun g v h1 h2=>?_⟩,fun X hX jI=>?_⟩
  ·intro A A' c h;refine⟨T3.o _ _ _ _ _ h.1 (ChT.of_chg c (Nat.le_refl _) h.1.sz) (gQ.refl _ _ _),c.same _ _ h.2.1 (.inr rfl),fun g v h1 h2=>?_⟩;obtain⟨v0,h3,_⟩:=h.1.out;have h4:=c.same _ _ h3 (.inr rfl);rw[h1]at h4;have h5:=dp h4;injection h5 with h5
   injection h5 with h5
   simp at h5;exact h.2.2 g v0 h3 (by rw[<-h5];exact h2)
  ·obtain⟨v0,h3,h4,_⟩:=pD.o.out;have h6:=af Vj h3;rw[h1]at h6;have h5:=dp h6;injection h5 with h5
   injection h5 with h5
   simp at h5;exact(h4.lt g (by rw[<-h5];exact h2)).2
  obtain⟨rlp,jI⟩:=jI;have JM:=aC jI;have hzV:=pD.o.sz;clear jI rlp Vj pD;obtain⟨SS,Za⟩:∃ SS:Nat->Prop,(fun k=>(T k\/k<w4.heap.size\/k=w4.heap.size+1+1\/k=w4.heap.size+1+1+1)/\k<V.heap.size)=SS:=⟨_,rfl⟩;rw[Za];have HSS:am (∀ k,SS k->(T k\/k<w4.heap.size\/k=w4.heap.size+1+1\/k=w4.heap.size+1+1+1)/\k<V.heap.size):=aa (fun k hk=>by rw[<-Za]at hk;exact hk);clear Za;have HX:=aa hX.1;have bT:=aa hX.2.1;have ly:=aC hX.2.1;obtain⟨v,jF,kr,RB⟩:=hX.1.out;rw[hX.1.len]at kr;obtain⟨pv,cv,rfl⟩:=kr.slice;have pG:=aa jF;have da:=aa kr;have HV3':=aa RB;have t8:=ab jF;have z8:=aE jF;have tb:=ab hX.2.1;have G7:=fun g h=>hX.2.2 g _ jF h
  have gL:=hX.1.no;have jQ:=hX.1.le;by_cases Zu:i=4096
  ·have V6:am (4096<F.length):=aa (by rw[mR.o,<-Zu];exact Tq hi gL);have Rq:((i:Int) == 4096)=true:=by rw[Zu];rfl
   have y2:=af hX.1.old Ki.o;have y3:=af hX.1.old Or.o;have y4:=af hX.1.old Ox.o;have Y2:=aa y2;have Y3:=aa y3;have Y4:=aa y4;clear hX jF kr RB tb gL y2 y3 y4 G7
   gi_wp2_with (refine zi rfl 58 (.tmp 2) (.tmp 35) rfl (w.heap.size+1) (fw 0 (.slice none 0 0)) rfl rfl 58 _ Y2.o (by kernel_rfl) rfl (by simp[Value.oneCell']) (Hv (fun W=>Bdx U.heap.size X W/\Below w.heap.size w W/\W.heap[w.heap.size+1]?=some (.cells (fw 0 (.slice none 0 0)) 58)/\W.heap[w.heap.size+1+1]?=some (.cells #[.bool false] 4)/\W.heap[w.heap.size+1+1+1]?=some (.cells #[.int .i64 0] 39)) ⟨⟨(below_setRow (Below.refl 0 X) (Nat.zero_le _) _).size,fun k o hk ho hc=>by rw[setRow_other _ _ _ _ (by omega)];exact ho⟩,below_setRow (ae AB.o HX.o.old) (by omega) _,setRow_heap _ _ _ _ _ _ Y2.o,by rw[setRow_other _ _ _ _ (by omega)];exact Y3.o,by rw[setRow_other _ _ _ _ (by omega)];exact Y4.o⟩ ?_);intro W2 eY;have cS:=aa eY;clear eY;have t3:=ab cS.o.2.2.2.1 0;have z3:=aE cS.o.2.2.2.1 0;have t4:=ab cS.o.2.2.2.2 0;have z4:=aE cS.o.2.2.2.2 0;simp at t3 t4)
   obtain⟨q1,q2,q3⟩:=oJ (ok:=false) (e:=17) cS.o.2.2.1 cS.o.2.2.2.1 cS.o.2.2.2.2;exact⟨⟨by simpa using cS.o.1.size,fun k o hk ho hc=>aK (aK (cS.o.1.same k o hk ho hc) (by omega) _ _) (by omega) _ _⟩,.inr ⟨rfl,(cS.o.2.1.setCell (by dsimp only;omega) _).setCell (by dsimp only;omega) _,q1,q2,q3,V6.o⟩⟩
  ·have hi5:i<4096:=by omega
   have Rq:((i:Int) == 4096)=false:=beq_eq_false_iff_ne.2 (by omega);have HX':=aa hX.1;have KK:∀ g,(Value.slice pv i cv).ownBlock=some g->g≠V.heap.size:=fun g hg=>by have:=G7 g hg;omega
   have bG:=aa (kr.up ((Below.refl _ X).alloc (Nat.le_refl _) (.cells #[.int .i64 e,.int .i64 yp] 75)));have bA:=aa (dx X [.int .i64 (e:Int),.int .i64 yp] 75);have jT:am (i+1<=maxLen):=aa (by unfold maxLen;omega);have dD:am ((i+1) * 16<=140737488355328):=aa (by omega);have fH:am (U.heap.size<=(X.alloc (.cells #[.int .i64 e,.int .i64 yp] 75)).heap.size):=aa (by have:=HX.o.sz;simp;omega);have hsX:=HX.o.sz;have tbA:∀ o j,(X.alloc o).cell? ⟨V.heap.size,j,none⟩=_:=fun o=>ab (ar o hX.2.1)
   clear hX jF kr RB gL Zu
   gi_wp2_with (gi_at_builtin;(refine rD _ rfl (.tmp 37) (.tmp 39) 54 rfl U.heap.size 75 i0 _ 2 16 Tryz.underlying54 bO.o.1 bO.o.2.1 bO.o.2.2.1 bO.o.2.2.2 rfl (by decide) _ i _ rfl bG.o ⟨X.heap.size,0,none⟩ 1 1 [.int .i64 (e:Int),.int .i64 yp] rfl rfl bA.o (by simp[Value.oneCell']) jT.o dD.o fH.o ?_;intro v4 w6 nd fh Kh;obtain⟨av4,cv4,rfl⟩:=nd.slice;have U5:=ur bG.o fh pG.o (by omega);have c8:=ab U5;have f8:=aE U5))
   have VQ:=fh.size;simp only[World.size_alloc]at VQ;obtain⟨W7,uL⟩:∃ W7,W7=w6.setCell ⟨w4.heap.size,1,none⟩ (.slice av4 (i+1) cv4):=⟨_,rfl⟩;rw[<-uL]
   have hkU:∀ k,k<U.heap.size->k≠w4.heap.size->∀ o,X.heap[k]?=some o->W7.heap[k]?=some o:=fun k hk hn o ho=>by
    rw[uL];exact aK (ur bG.o fh ho hk) hn _ _
   have h78:W7.heap[w4.heap.size]?=some (.cells (fw 1 (.slice av4 (i+1) cv4)) 58):=by rw[uL];exact(aF U5 _ _).trans rfl
   have h7r:aH W7 U.heap.size 75 2 (.slice av4 (i+1) cv4) (i+1) (cF (way.take (i+1))):=by
    rw[uL,List.take_succ_eq_append_getElem hi,HYW.o,jB];exact nd.put (fun g hg e=>by subst e;have:=(nd.lt _ hg).1;omega) _ _
   have Vc:Below w4.heap.size w4 W7:=by rw[uL];exact(Dp HX.o.old (by omega) (by omega) bG.o fh).setCell (by dsimp only;omega) _
   have h7s:W7.heap.size=w6.heap.size:=by rw[uL];simp
   have h7nc:∀ (k:Nat) (o:Obj),X.heap[k]?=some o->o.isCells=false->W7.heap[k]?=some o:=fun k o ho hc=>by
    rw[uL];exact aK (nM bG.o fh ho hc) (fun e=>by subst e;rw[pG.o]at ho;cases ho;cases hc) _ _
   have Zl:∀ k,k<X.heap.size->k≠w4.heap.size->(∀ g,(Value.slice pv i cv).ownBlock=some g->k≠g)->W7.heap[k]?=X.heap[k]?:=fun k h1 h2 h3=>by
    rw[uL,Below.heap_setCell _ _ _ _ h2,fh.block k (by simp;omega) (fun e=>h3 k e.symm rfl)];exact Below.heap_alloc X _ k h1
   have h7b:W7.heap[V.heap.size]?=some (.cells #[.int .i64 e,.int .i64 yp] 75):=(Zl _ ly (by omega) (fun g hg e=>KK g hg e.symm)).trans bT.o;have BZ:=hkU _ (by omega) (by omega) _ HX.o.left;have h7sc:=HSC4.o.up Vc;have H78:=aa h78;have H7R:=aa h7r;have H7O:=aa Vc;have H7N:=aa h7nc;have H7K:=aa Zl;have H79:=aa BZ;obtain⟨qv,kv,t10,ev⟩:=h7sc.val;obtain⟨bv,ov,rfl,tev⟩:=ev e U3;have t5:=ab (af Vc FW.o) 0;have t9:=ab BZ 0;have z9:=aE BZ 0;have tl:=ab h7b;simp only[List.getElem?_toArray,List.getElem?_cons_zero]at t5 t9;have my:bits .and .i64 ((comM s (cA (way.take i)):Nat):Int) ((il s e:Nat):Int)=((comM s (cA (way.take i)) &&& il s e:Nat):Int):=Be _ _ (by have:=LW s (cA (way.take i));omega) (by have:=LV s e;omega);rw[<-dT.o]at my;have HOB4:=aa Kh;generalize comM s (cA (way.take i))=ma,il s e=mb at t9 tev my;obtain⟨mc,uK⟩:∃ mc,comM s (cA (way.take (i+1)))=mc:=⟨_,rfl⟩;rw[uK]at my;have HMC:=aa uK;clear uL hkU h78 h7r Vc h7nc Zl h7b BZ h7sc ev uK tb tbA t8 z8 nd fh U5 c8 f8 Kh dT;refine lE 10 (fun ⟨_,_,h⟩=>h) (by kernel_rfl) (by kernel_rfl) (by kernel_rfl) (fun ops Lq hops hLq=>?_);simp only[List.take_succ_cons,List.take_zero,List.drop_succ_cons,List.drop_zero]at hLq ⊢;have EZ:=aa hLq;clear hLq;have TN:=aa hops;clear hops
   repeat still_step
   refine wpStill_nil ?_;refine EZ.o _ ?_;clear t10 tev t5
   go_wp2_with fail
   obtain⟨W8,pV⟩:∃ W8,W8=(W7.setCell ⟨w4.heap.size+1,0,none⟩ (.int .i64 mc)).drew:=⟨_,rfl⟩;rw[<-pV];have h8s:W8.heap.size=W7.heap.size:=by rw[pV];simp
   have Ry:∀ k,k≠w4.heap.size+1->W8.heap[k]?=W7.heap[k]?:=fun k hk=>by rw[pV];exact Below.heap_setCell W7 _ _ _ hk
   have Yl:W8.heap[w4.heap.size+1]?=some (.cells #[.int .i64 mc] 3):=by rw[pV];exact(aF (W:=W7) H79.o 0 _).trans rfl
   have h8o:Below w4.heap.size w4 W8:=by rw[pV];exact(H7O.o.setCell (by dsimp only;omega) _).drew
   have h88:=(Ry _ (by omega)).trans H78.o;have h8r:aH W8 U.heap.size 75 2 (.slice av4 (i+1) cv4) (i+1) (cF (way.take (i+1))):=H7R.o.keep fun g o hg ho=>(Ry g (by have:=(H7R.o.lt g hg).1;omega)).trans ho
   have h8n:∀ (k:Nat) (o:Obj),X.heap[k]?=some o->o.isCells=false->W8.heap[k]?=some o:=fun k o ho hc=>by
    rw[Ry k (fun e=>by subst e;rw[HX.o.left]at ho;cases ho;cases hc)];exact H7N.o k o ho hc
   have OQ:(way.take (i+1)).length=i+1:=by rw[List.length_take];omega
   have hnT:∀ g,(Value.slice av4 (i+1) cv4).ownBlock=some g->¬ T g:=fun g hg ht=>by
    rcases HOB4.o with h|h
    ·rw[h]at hg;exact HV3'.o g hg ht
    ·rw[h]at hg;injection hg with hg
     have:=HX.o.tb g ht;simp at hg;omega
   have KS:am (FC U.heap.size w4.heap.size (way.take (i+1)) T W8):=aa ⟨_,h88,by rw[OQ];exact h8r,hnT⟩
   have ik:am (cY s (way.take (i+1))=decide (mc=0)):=aa (by
    rw[<-HMC.o]
    exact Gw dA.o fun y hy=>(UT.o y (List.mem_of_mem_take hy)).1.2)
   have Yb:X.heap.size<=W8.heap.size:=by omega
   have H89:=aa Yl;have H8O:=aa h8o;have H8N:=aa h8n;have H8K:=aa Ry;have ku:=aa OQ;have t9':=ab Yl 0;simp only[List.getElem?_toArray,List.getElem?_cons_zero]at t9';clear pV Ry Yl h8o h88 h8r h8n hnT t9 z9 my tl OQ EZ TN;by_cases wS:mc=0
   ·have HF8:am (F=way.take (i+1)):=aa (by rw[mR.o];exact XP hi HX'.o.no (by rw[ik.o,wS];rfl));have hmz:((mc:Int) == 0)=true:=by rw[wS];rfl
    clear wS
    gi_wp2
    exact⟨⟨Yb,fun k o _ ho hc=>H8N.o k o ho hc⟩,.inl ⟨rfl,H8O.o,by omega,by rw[HF8.o];exact KS.o,by rw[HF8.o,ku.o];omega⟩⟩
   ·have hmz:((mc:Int) == 0)=false:=beq_eq_false_iff_ne.2 (by omega);have fi:am (cY s (way.take (i+1))=false):=aa (by rw[ik.o];exact decide_eq_false wS);clear wS
    gi_wp2
    refine⟨⟨Yb,fun k hk=>?_,fun k o _ ho hc=>H8N.o k o ho hc⟩,H8O.o,by omega,KS.o,by rw[HMC.o];exact H89.o,aV (p:=fun j=>cY s (way.take (j+1))=false) HX'.o.no fi.o,by omega,ku.o,fun k hk=>Nat.lt_of_lt_of_le (HX.o.tb k hk) Yb⟩;obtain⟨mm,og⟩:=HSS.o k hk
    have bM:k≠w4.heap.size/\k≠w4.heap.size+1:=by
     rcases mm with h|h|h|h
     ·have:=hT k h;omega
     ·omega
     ·omega
     ·omega
    rw[H8K.o k bM.2];refine H7K.o k (by omega) bM.1 fun g hg e=>?_
    subst e;have hgU:=(da.o.lt k hg).1;rcases mm with h|h|h|h
    ·exact HV3'.o k hg h
    ·omega
    ·omega
    ·omega
theorem QT{W W':World} {B:Nat} {v:Value} {l:List Lk} (h:bh W v l) (hB:W.heap[B]?=some (.cells (fw 0 (.slice none 0 0)) 58)) (hk:∀ k,k≠B->W'.heap[k]?=W.heap[k]?):bh W' v l:=by
 cases hl:l with
 | nil=>
  subst hl;obtain⟨a,c,e,h1,h2,_⟩:=h;exact⟨a,c,e,h1,h2,fun i x hx=>by simp at hx⟩
 | cons y r=>
  rw[<-hl];refine nO h fun b hb=>hk b fun e=>?_
  subst e;obtain⟨a,c,e,_,_,h3⟩:=h.at;obtain⟨b',o,rfl,h4,h5⟩:=h3 0 (by rw[hl];simp);have h4:=h4.1;have h5:=h5.1;subst e;simp[Value.ownBlock]at hb;subst hb;rw[ab hB]at h4 h5;rcases (show o=0\/o=1\/o=2\/o=3\/o=4\/5<=o by omega) with h|h|h|h|h|h
  all_goals first|(subst h;simp at h4 h5)|(rw[Array.getElem?_eq_none (by simp;omega)]at h4;cases h4)
def zW(lo:Nat) (l:List Lk) (u:Value) (W:World):Prop:=bh W u l/\∀ g,u.ownBlock=some g->lo<=g
def UL(lo:Nat) (l:List Lk):MP:=⟨fun x W=>∃ u,x=.tuple #[u,.bool true]/\zW lo l u W,fun _ _ _ h hb=>by obtain⟨u,e,h1,h2⟩:=h;exact⟨u,e,h1.up up_link hb,h2⟩⟩
def UM(lo:Nat) (l:List Lk):MP:=⟨fun x W=>zW lo l x W,fun _ _ _ h hb=>⟨h.1.up up_link hb,h.2⟩⟩
theorem QU{W w9:World} {pv v v9:Value} {l:List Lk} {ob:Obj} (h:bh W pv l) (ha:∀ g,pv.ownBlock=some g->v.ownBlock≠some g/\g<W.heap.size) (hg:(W.alloc ob).grownBy w9 v.ownBlock) (h9:v9.ownBlock=v.ownBlock\/v9.ownBlock=some (W.alloc ob).heap.size):bh w9 pv l/\∀ g,pv.ownBlock=some g->v9.ownBlock≠some g/\g<w9.heap.size:=by
 have hs:(W.alloc ob).heap.size=W.heap.size+1:=by simp
 refine⟨nO h fun b hb=>?_,fun g hb=>⟨fun e=>?_,?_⟩⟩
 ·obtain⟨h1,h2⟩:=ha b hb;rw[hg.block b (by omega) (fun e=>h1 e.symm)];obtain⟨x,hx⟩:∃ x,W.heap[b]?=some x:=⟨_,Array.getElem?_eq_getElem h2⟩;rw[hx,ar ob hx]
 ·obtain⟨h1,h2⟩:=ha g hb;rcases h9 with h9|h9
  ·exact h1 (h9.symm.trans e)
  ·rw[h9]at e;injection e with e
   omega
 ·have:=(ha g hb).2;have:=hg.size;omega
def XR(s:Sys) (L:List Nat) (full:List Lk) (base:Nat) (o:Value) (q:Nat) (W:World):Prop:=∃ O:List Lk,FoAt s L full O (gm s (L.getD (q - 1) 0) (L.drop q))/\(xU O).toNat=L.getD (q - 1) 0/\aH W base 75 2 o O.length (cF O)
def ZQ(s:Sys) (L:List Nat) (full P R:List Lk) (e base:Nat) (pv:Value) (PP:List Lk) (o:Value) (j:Nat) (W:World):Prop:=bh W pv PP/\(∀ g,pv.ownBlock=some g->o.ownBlock≠some g/\g<W.heap.size)/\∃ O:List Lk,FoAt s L full O (P.drop (j - 1)++R)/\(xU O).toNat=kG e (P.take (j - 1))/\aH W base 75 2 o O.length (cF O)
theorem N5(s:Sys) (hs:SysOk s) (hE:eS s<=256) (ha:agreeB s.prob.t=true) (k0:Int) (h0:memL (partsS s) k0≠[]) (vl vc vs vt ve:Value) (w:World) (cH:IsSys w s vc vs vt ve) (hv:aT w vl ((memL (partsS s) k0).map fun e:Nat=>(e:Int))) :
  Calls Tryz.prog 51 #[.agg (bL s.prob vc vs s.n vt ve),vl] w fun r w'=>∃ u,r=.returned u/\bh w' u (lH s (gw s (memL (partsS s) k0)))/\Below w.heap.size w w':=by
 obtain⟨i0,cM,bX,bP,bY⟩:=info_parts Tryz.infoLink;have bO:=aa (And.intro cM (And.intro bX (And.intro bP bY)));clear cM bX bP bY;have HS:=aa cH;obtain⟨⟨qc,kc,rfl⟩,⟨qs,ks,rfl⟩,⟨qt,kt,rfl⟩,⟨qe,ke,rfl⟩⟩:=bB cH;have HK:=aa (XQ hs k0 h0);obtain⟨L,hL⟩:∃ L,memL (partsS s) k0=L:=⟨_,rfl⟩;rw[hL]at HK hv h0 ⊢;clear hL;obtain⟨full,iL⟩:∃ full,lH s (gw s L)=full:=⟨_,rfl⟩
 have dT:am (FoAt s L full [⟨(L.getD 0 0:Nat),-1⟩] (gm s (L.getD 0 0) (L.drop 1))):=aa (by
  cases L with
  | nil=>exact absurd rfl h0
  | cons a r=>rw[<-iL];exact N3 hs ha (HK.o.lt a (by simp)))
 rw[iL];have gK:nS s<=5:=hs.n.2.1
 have fZ:am (∀ (O rest:List Lk),FoAt s L full O rest->(∀ y∈O++rest,bN y.x/\bN y.p)/\O.length+rest.length<=65281):=aa (fun O rest h=>⟨fun y hy=>by
  obtain⟨⟨h1,h2⟩,h3,h4⟩:=h.mem HK.o y hy
  exact⟨⟨by omega,by omega⟩,⟨by omega,by omega⟩⟩,h.len HK.o hE⟩)
 have wL:=aa (fun a b (ha:a∈L) (gp:b∈L) W (hb:Below w.heap.size w W)=>NO s hs hE _ _ _ _ a b (HK.o.lt a ha) (HK.o.lt b gp) (HK.o.near a ha b gp) W (HS.o.up hb));have BW:=aa (fun (l:List Lk) (hn:l.length<=1048576) (hx:∀ y∈l,0<=y.x/\y.x.toNat<eS s) vl W (hb:Below w.heap.size w W) (hl:bh W vl l)=>LE s hs l hn hx _ _ _ _ vl W (HS.o.up hb) hl);obtain⟨pl,cl,rfl,el⟩:=df hv;obtain⟨n,hn⟩:∃ n,L.length=n:=⟨_,rfl⟩;rw[List.length_map,hn]at el ⊢;have HN:=aa hn
 have hnp:0<n:=by
  rcases Nat.eq_zero_or_pos n with h|h
  ·rw[h]at hn;exact absurd (List.eq_nil_of_length_eq_zero hn) h0
  ·exact h
 have nV:n<=256:=by have:=HK.o.card;omega
 have yE:am (∀ i,i<n->∃ b o,pl=some ⟨b,o,none⟩/\w.cell? ⟨b,o+i,none⟩=some (.int .i64 ((L.getD i 0:Nat):Int))):=aa (fun i hi=>by
  obtain⟨b,o,e1,e2⟩:=el i hi;refine⟨b,o,e1,?_⟩
  rw[e2,show (L.map fun e:Nat=>(e:Int)).getD i 0=((L.getD i 0:Nat):Int) by simp[hn,hi]])
 have D8:am (∀ i,i<n->L.getD i 0∈L/\L.getD i 0<eS s):=aa (fun i hi=>by
  have:L.getD i 0∈L:=by rw[aA _ (show i<L.length by omega)];exact List.getElem_mem _
  exact⟨this,HK.o.lt _ this⟩)
 have HLG:am (∀ i,i<n->∀ e,gm s e (L.drop i)=gu s e (L.getD i 0)++gm s (L.getD i 0) (L.drop (i+1))):=aa (fun i hi e=>Xm (by omega) e);have yV:am (∀ e,gm s e (L.drop n)=[]):=aa (fun e=>by rw[List.drop_eq_nil_of_le (by omega)];rfl);have Ei:am (∀ a b,a∈L->b∈L->kG a (gu s a b)=b):=aa (fun a b h1 h2=>(E9 (HK.o.lt a h1) (HK.o.lt b h2) (HK.o.near a h1 b h2)).2.1);obtain⟨bl,ol,rfl,c0⟩:=yE.o 0 hnp;obtain⟨a0,VZ⟩:∃ a0,L.getD 0 0=a0:=⟨_,rfl⟩;rw[VZ,Nat.add_zero]at c0;rw[VZ]at dT;have HA0L:=aa VZ;have C0:=aa c0;have Mg:am (∀ O rest,FoAt s L full O rest->(∀ y∈O,0<=y.x/\y.x.toNat<eS s)):=aa (fun O rest h y hy=>(h.mem HK.o y (List.mem_append_left _ hy)).1);generalize s.prob.t.cases.length=nc,s.prob.a.states.length=ns,s.tab.length=nt,s.ex.length=ne at wL BW ⊢;clear cH hv iL el hn VZ c0 h0 hE ha
 go_enter Tryz.func51,Tryz.ntmps51
 have t0:∀ o:Obj,(w.alloc o).cell? ⟨bl,ol,none⟩=some (.int .i64 (a0:Nat)):=fun o=>ak ((Below.refl _ w).alloc (Nat.le_refl _) o) C0.o
 go_wp2_with fail
 clear t0;refine bu (fun W=>∃ W0:World,(Below w.heap.size w W0/\∃ c,W0.heap[w.heap.size]?=some (.cells c 35)/\c=bL s.prob (.slice qc nc kc) (.slice qs ns ks) s.n (.slice qt nt kt) (.slice qe ne ke))/\Below W0.heap.size W0 W/\aH W W0.heap.size 75 2 (.slice (some ⟨w.heap.size+1,0,none⟩) 1 1) 1 (cF [⟨(a0:Nat),-1⟩])) ⟨w.alloc (.cells (bL s.prob (.slice qc nc kc) (.slice qs ns ks) s.n (.slice qt nt kt) (.slice qe ne ke)) 35),⟨by go_grown,_,aq _ _,rfl⟩,(Below.refl _ _).alloc (Nat.le_refl _) _,⟨rfl,.inr ⟨w.heap.size+1,1,_,(0,0),rfl,by simp,bd _ _ _,fun i _ h=>by have:=h.2;simp at this,Nat.le_refl _,by unfold maxLen;omega,rfl,rfl⟩⟩⟩ (fun W1 cD=>?_);obtain⟨W0,⟨aI,_,bI,rfl⟩,cD⟩:=cD;have ed:=aa aI;have jm:=aa bI;have bK:=aa cD.1;have mR:am (XR s L full W0.heap.size (.slice (some ⟨w.heap.size+1,0,none⟩) 1 1) 1 W1):=aa ⟨_,by rw[show 1 - 1=0 from rfl,HA0L.o];exact dT.o,by rw[show 1 - 1=0 from rfl,HA0L.o];simp[xU],cD.2⟩;clear aI bI;clear cD dT
 go_wp2_with fail
 go_loopw [5,6] (fun o i wr=>∃ q:Nat,i=.int .i64 q/\1<=q/\q<=n/\Below W0.heap.size W0 wr/\XR s L full W0.heap.size o q wr) (fun _ i _=>n - (intOf i).toNat)
 ·exact⟨1,rfl,Nat.le_refl _,hnp,bK.o,mR.o⟩
 ·
  clear mR bK;obtain⟨q,rfl,GZ,EG,az,O,iB,wO,aS⟩:=hrel;obtain⟨ao,co,rfl⟩:=aS.slice;have bG:=aa aS;have aP:=aa az;have wT:=aa iB;have HLX:=aa wO;have Ag:=aa (af az jm.o);by_cases aB:q<n
  ·have lO:=kn aS (fun y hy=>(fZ.o O _ iB).1 y (List.mem_append_left _ hy)) (by have:=(fZ.o O _ iB).2;omega);have KR:=iB.pos
   obtain⟨b1,o1,rfl,c1⟩:∃ b o,ao=some ⟨b,o,none⟩/\wr.cell? ⟨b,o+(O.length - 1) * 2,none⟩=some (.int .i64 (O[O.length - 1]'(by omega)).x):=by
    obtain⟨al,cl',e0,_,_,ee⟩:=lO.at;injection e0 with e01 e02 e03
    subst e01;obtain⟨b1,o1,e1,c1⟩:=ee (O.length - 1) (by omega);exact⟨b1,o1,e1,c1.1.1⟩
   obtain⟨e,he⟩:∃ e,L.getD (q - 1) 0=e:=⟨_,rfl⟩;obtain⟨f,hf⟩:∃ f,L.getD q 0=f:=⟨_,rfl⟩;have pW:=D8.o (q - 1) (by omega);have Vb:=D8.o q aB;have jQ:=HLG.o q aB e;rw[he]at iB wO pW;rw[hf]at Vb jQ;rw[jQ]at iB
   have sW:(O[O.length - 1]'(by omega)).x=(e:Int):=by
    have h1:=Mg.o O _ iB _ (List.getElem_mem (show O.length - 1<O.length by omega));have h2:=wO;unfold xU at h2;rw[aA _ (show O.length - 1<O.length by omega)]at h2;omega
   rw[sW]at c1;have HF:=aa (wL.o e f pW.1 Vb.1);have ge:=Ei.o e f pW.1 Vb.1;obtain⟨P,hP⟩:∃ P,gu s e f=P:=⟨_,rfl⟩;obtain⟨R,hR⟩:∃ R,gm s f (L.drop (q+1))=R:=⟨_,rfl⟩;rw[hP]at iB HF ge;rw[hR]at iB;have HAT2:=aa iB;have iK:=aa ge;have HR:=aa hR;have Aa:=aa hf;have HLX2:=aa wO;obtain⟨b2,o2,e2,cq⟩:=yE.o q aB;injection e2 with e2
   injection e2 with e3 e4 _
   subst e3 e4;rw[hf]at cq;have hle2:=(fZ.o O _ iB).2;obtain⟨no,gL⟩:∃ no,O.length=no:=⟨_,rfl⟩;obtain⟨n1,jS⟩:∃ n1,no=n1+1:=⟨no - 1,by omega⟩;have jc:IntKind.i64.wrap ((no:Int) - 1)=(n1:Int):=by rw[IntWalk.i64_in _ (by omega)];omega
   rw[gL,show no - 1=n1 by omega]at c1;rw[gL]at aS ⊢;have hlt1:n1<no:=by omega
   have C1:=aa c1;have CQ:=aa cq;have lZ:=aa aS;have eh:=aa (ae ed.o aP.o);have cC:(⟨(e:Nat),-1⟩ :: P:List Lk).length=P.length+1:=by simp
   obtain⟨PP,Yi⟩:∃ PP,(⟨(e:Nat),-1⟩ :: P:List Lk)=PP:=⟨_,rfl⟩;obtain⟨np,hnp2⟩:∃ np,PP.length=np:=⟨_,rfl⟩;rw[Yi]at HF cC;have R8:=aa Yi;have JZ:=aa hnp2;have ku:=aa cC;obtain⟨w4,kq⟩:∃ x,x=wr:=⟨_,rfl⟩;subst kq;have fi:=aa gL;clear aS az iB wO lO KR c1 pW Vb jQ sW ge hP hR cq hle2 gL jS he hf cC Yi hnp2 wT HLX bG
   go_wp2_with fail
   have hS:List.Nodup [22,23,24,25,26,27,28,29,30,31,32,33,34,21,35,36,7,8]:=by decide
   refine qf 18 [22,23,24,25,26,27,28,29,30,31,32,33,34,21,35,36,7,8] [MP.eq (.agg #[.int .i64 s.prob.t.n,.int .i64 s.prob.t.ins,.int .i64 s.prob.t.outs,.slice qc nc kc,.int .i64 s.prob.a.n,.slice qs ns ks,.int .i64 s.prob.rounds,.int .i64 s.n,.slice qt nt kt,.slice qe ne ke]),MP.eq (.slice (some ⟨b1,o1,none⟩) no co),MP.eq (.slice (some ⟨b1,o1,none⟩) no co),MP.eq (.int .i64 (no:Nat)),MP.eq (.int .i64 (n1:Nat)),MP.eq (.pointer (some ⟨b1,o1+n1 * 2,none⟩)),MP.eq (.pointer (some ⟨b1,o1+n1 * 2,none⟩)),MP.eq (.int .i64 (e:Nat)),MP.eq (.slice (some ⟨bl,ol,none⟩) n cl),MP.eq (.int .i64 (q:Nat)),MP.eq (.pointer (some ⟨bl,ol+q,none⟩)),MP.eq (.int .i64 (f:Nat)),UL w4.heap.size PP,UL w4.heap.size PP,UM w4.heap.size PP,MP.eq (.bool true),UM w4.heap.size PP,MP.eq (.bool true)] (by kernel_rfl) rfl hS rfl (by kernel_rfl) ?step ?tail
   case step=>
    intro xq Wq iq oq sq F hi ho hs hB ap hF;rcases (show iq=0\/iq=1\/iq=2\/iq=3\/iq=4\/iq=5\/iq=6\/iq=7\/iq=8\/iq=9\/iq=10\/iq=11\/iq=12\/iq=13\/iq=14\/iq=15\/iq=16\/iq=17 by omega) with rfl|rfl|rfl|rfl|rfl|rfl|rfl|rfl|rfl|rfl|rfl|rfl|rfl|rfl|rfl|rfl|rfl|rfl
    all_goals (obtain rfl:=dp ho.symm;obtain rfl:=dp hs.symm;clear hi ho hs)
    ·obtain⟨g2,h2⟩:=cK hF 2 (.pointer (some ⟨w.heap.size,0,none⟩)) (by decide) rfl;have tb:=ab (af hB Ag.o);clear hF ap
     go_wp2_with fail
     exact aY.mk _ (Below.refl _ _) rfl rfl
    ·obtain⟨g5,h5⟩:=cK hF 5 (.slice (some ⟨b1,o1,none⟩) no co) (by decide) rfl;clear hF ap
     go_wp2_with fail
     exact aY.mk _ (Below.refl _ _) rfl rfl
    ·obtain⟨g5,h5⟩:=cK hF 5 (.slice (some ⟨b1,o1,none⟩) no co) (by decide) rfl;clear hF ap
     go_wp2_with fail
     exact aY.mk _ (Below.refl _ _) rfl rfl
    ·obtain⟨e2,f2⟩:=aQ hF 2 24 _ hS rfl (by kernel_rfl) (ap ⟨2,.data⟩ (by simp) rfl);clear hF ap
     go_wp2_with fail
     exact aY.mk _ (Below.refl _ _) rfl rfl
    ·obtain⟨e3,f3⟩:=aQ hF 3 25 _ hS rfl (by kernel_rfl) (ap ⟨3,.data⟩ (by simp) rfl);clear hF ap
     go_wp2_with fail
     exact aY.mk _ (Below.refl _ _) rfl rfl
    ·obtain⟨e1,f1⟩:=aQ hF 1 23 _ hS rfl (by kernel_rfl) (ap ⟨1,.data⟩ (by simp) rfl);obtain⟨e4,f4⟩:=aQ hF 4 26 _ hS rfl (by kernel_rfl) (ap ⟨4,.data⟩ (by simp) rfl);clear hF ap
     go_wp2_with fail
     exact aY.mk _ (Below.refl _ _) rfl rfl
    ·obtain⟨e5,f5⟩:=aQ hF 5 27 _ hS rfl (by kernel_rfl) (ap ⟨5,.data⟩ (by simp) rfl);clear hF ap
     go_wp2_with fail
     exact aY.mk _ (Below.refl _ _) rfl rfl
    ·obtain⟨e6,f6⟩:=aQ hF 6 28 _ hS rfl (by kernel_rfl) (ap ⟨6,.data⟩ (by simp) rfl);have tb:=ak hB C1.o;clear hF ap
     go_wp2_with fail
     exact aY.mk _ (Below.refl _ _) rfl rfl
    ·obtain⟨g1,h1⟩:=cK hF 1 (.slice (some ⟨bl,ol,none⟩) n cl) (by decide) rfl;clear hF ap
     go_wp2_with fail
     exact aY.mk _ (Below.refl _ _) rfl rfl
    ·obtain⟨g6,h6⟩:=cK hF 6 (.int .i64 (q:Nat)) (by decide) rfl;clear hF ap
     go_wp2_with fail
     exact aY.mk _ (Below.refl _ _) rfl rfl
    ·obtain⟨e8,f8⟩:=aQ hF 8 30 _ hS rfl (by kernel_rfl) (ap ⟨8,.data⟩ (by simp) rfl);obtain⟨e9,f9⟩:=aQ hF 9 31 _ hS rfl (by kernel_rfl) (ap ⟨9,.data⟩ (by simp) rfl);clear hF ap
     go_wp2_with fail
     exact aY.mk _ (Below.refl _ _) rfl rfl
    ·obtain⟨e10,f10⟩:=aQ hF 10 32 _ hS rfl (by kernel_rfl) (ap ⟨10,.data⟩ (by simp) rfl);have tb:=ak (ae eh.o hB) CQ.o;clear hF ap
     go_wp2_with fail
     exact aY.mk _ (Below.refl _ _) rfl rfl
    ·obtain⟨e0,f0⟩:=aQ hF 0 22 _ hS rfl (by kernel_rfl) (ap ⟨0,.data⟩ (by simp) rfl);obtain⟨e7,f7⟩:=aQ hF 7 29 _ hS rfl (by kernel_rfl) (ap ⟨7,.data⟩ (by simp) rfl);obtain⟨e11,f11⟩:=aQ hF 11 33 _ hS rfl (by kernel_rfl) (ap ⟨11,.data⟩ (by simp) rfl);clear hF ap
     go_wp2_with fail
     refine(HF.o Wq (ae eh.o hB)).mono ?_;rintro r w9 ⟨u9,rfl,⟨nX,Ha⟩,dS⟩;have wV:am (zW w4.heap.size PP u9 w9):=aa ⟨nX,fun g hg=>Nat.le_trans hB.size (Ha g hg)⟩;clear nX Ha
     go_wp2_with fail
     exact aY.mk _ dS ⟨_,rfl,wV.o⟩ rfl
    ·have d12:=ap ⟨12,.data⟩ (by simp) rfl;obtain⟨u12,MQ,g12⟩:∃ u,xq 12=.tuple #[u,.bool true]/\zW w4.heap.size PP u Wq:=d12;have G12:=aa g12;clear g12;obtain⟨e12,f12⟩:=aQ hF 12 34 _ hS rfl (by kernel_rfl) MQ;clear hF ap
     go_wp2_with fail
     exact aY.mk _ (Below.refl _ _) ⟨_,rfl,G12.o⟩ rfl
    ·have d13:=ap ⟨13,.data⟩ (by simp) rfl;obtain⟨u13,US,g13⟩:∃ u,xq 13=.tuple #[u,.bool true]/\zW w4.heap.size PP u Wq:=d13;have G13:=aa g13;clear g13;obtain⟨e13,f13⟩:=aQ hF 13 21 _ hS rfl (by kernel_rfl) US;clear hF ap
     go_wp2_with fail
     exact aY.mk _ (Below.refl _ _) G13.o rfl
    ·have d13:=ap ⟨13,.data⟩ (by simp) rfl;obtain⟨u13,US,g13⟩:∃ u,xq 13=.tuple #[u,.bool true]/\zW w4.heap.size PP u Wq:=d13;clear g13;obtain⟨e13,f13⟩:=aQ hF 13 21 _ hS rfl (by kernel_rfl) US;clear hF ap
     go_wp2_with fail
     exact aY.mk _ (Below.refl _ _) rfl rfl
    ·have d14:=ap ⟨14,.data⟩ (by simp) rfl;have D14:am (zW w4.heap.size PP (xq 14) Wq):=aa d14;clear d14;obtain⟨e14,f14⟩:=aQ hF 14 35 _ hS rfl (by kernel_rfl) rfl;clear hF ap
     go_wp2_with fail
     exact aY.mk _ (Below.refl _ _) D14.o rfl
    ·obtain⟨e15,f15⟩:=aQ hF 15 36 _ hS rfl (by kernel_rfl) (ap ⟨15,.data⟩ (by simp) rfl);clear hF ap
     go_wp2_with fail
     exact aY.mk _ (Below.refl _ _) rfl rfl
   case tail=>
    clear hS;intro xq W3 F hB aU hF;have e16:zW w4.heap.size PP (xq 16) W3:=aU 16 (by omega);clear aU;simp only[bz,cT,List.setIfInBounds_toArray,List.set_cons_succ,List.set_cons_zero,Nat.reduceAdd]at hF;generalize xq 0=r0,xq 1=r1,xq 2=r2,xq 3=r3,xq 4=r4,xq 5=r5,xq 6=r6,xq 7=r7,xq 8=r8,xq 9=r9,xq 10=r10,xq 11=r11,xq 12=r12,xq 13=r13,xq 14=r14,xq 15=r15,xq 16=r16,xq 17=r17 at hF e16;subst hF;obtain⟨pI,DX⟩:=e16;obtain⟨pp,cp,rfl,_,_,_⟩:=pI.at;have iz:np<=17592186044416:=by have h:=JZ.o;omega
    rw[JZ.o]at pI DX ⊢;have ef:=aa (ae aP.o hB);have pR:=aa (af hB Ag.o)
    have HI:am (ZQ s L full P R e W0.heap.size (.slice pp np cp) PP (.slice (some ⟨b1,o1,none⟩) no co) 1 W3):=aa ⟨pI,fun g hg=>⟨fun e=>by
      have h1:=DX g hg;have h2:=(lZ.o.lt g e).2
      omega,by
      obtain⟨y,hy⟩:∃ y,PP=y :: P:=⟨_,R8.o.symm⟩;obtain⟨a9,c9,e9,_,_,k9⟩:=pI.at;obtain⟨b9,o9,e8,h9,_⟩:=k9 0 (by rw[hy];simp);injection e9 with e91 _ _
      rw[e91,e8]at hg;injection hg with hg
      subst hg
      exact fo h9.1⟩,O,by simpa using HAT2.o,by simpa[kG] using HLX2.o,by rw[fi.o];exact lZ.o.up hB⟩
    clear hB pI DX lZ C1 CQ HAT2 HLX2 aP Ag HF eh
    go_wp2_with fail
    go_loopw [5,9] (fun o i wr=>∃ k:Nat,i=.int .i64 k/\1<=k/\k<=np/\Below W0.heap.size W0 wr/\ZQ s L full P R e W0.heap.size (.slice pp np cp) PP o k wr) (fun _ i _=>np - (intOf i).toNat)
    ·exact⟨1,rfl,Nat.le_refl _,by have:=ku.o;have:=JZ.o;omega,ef.o,HI.o⟩
    ·
     clear HI ef;obtain⟨k,rfl,mm,og,az,pI,DX,O2,iB,wO,aS⟩:=hrel;obtain⟨ao,co2,rfl⟩:=aS.slice;have Em:=aa pI;have R':=aa DX;have wT:=aa iB;have HLX:=aa wO;have bG:=aa aS;have aP:=aa az;have Ag:=aa (af (az.mono (Nat.le_refl _)) jm.o);by_cases yZ:k<np
     ·obtain⟨b3,o3,rfl,c3,c4,jj⟩:∃ b o,pp=some ⟨b,o,none⟩/\wr.cell? ⟨b,o+k * 2,none⟩=some (.int .i64 (PP.getD k default).x)/\wr.cell? ⟨b,o+k * 2+1,none⟩=some (.int .i64 (PP.getD k default).p)/\True:=by
       obtain⟨a9,c9,e9,_,_,k9⟩:=pI.at;obtain⟨b9,o9,e8,h9,B1⟩:=k9 k (by rw[JZ.o];exact yZ);injection e9 with e91 _ _
       rw[aA _ (show k<PP.length by rw[JZ.o];exact yZ)];exact⟨b9,o9,e91.trans e8,h9.1,B1.1,trivial⟩
      obtain⟨y,hy⟩:∃ y,PP.getD k default=y:=⟨_,rfl⟩;rw[hy]at c3 c4
      have Yz:P.drop (k - 1)=y :: P.drop k/\P.take k=P.take (k - 1)++[y]:=by
       have h1:=JZ.o;have h2:=ku.o;obtain⟨k',rfl⟩:∃ k',k=k'+1:=⟨k - 1,by omega⟩;have h3:k'<P.length:=by omega
       have h4:P[k']=y:=by rw[<-hy,<-R8.o];simp[h3]
       exact⟨by rw[Nat.add_sub_cancel,List.drop_eq_getElem_cons h3,h4],by rw[Nat.add_sub_cancel,List.take_succ_eq_append_getElem h3,h4]⟩
      rw[Yz.1]at iB;have O1:FoAt s L full O2 (y :: (P.drop k++R)):=iB;have cW:=fZ.o O2 _ O1
      have HIN2:am (∀ u∈O2++[y],bN u.x/\bN u.p):=aa (fun u hu=>cW.1 u (by
       rcases List.mem_append.1 hu with hu|hu
       ·exact List.mem_append_left _ hu
       ·exact List.mem_append_right _ (by rw[List.mem_singleton.1 hu];simp)))
      have hln2:O2.length+1<=65281:=by have:=cW.2;simp at this;omega
      have jT:am (∀ u∈O2++[y],0<=u.x/\u.x.toNat<eS s):=aa (fun u hu=>(O1.mem HK.o u (by
       rcases List.mem_append.1 hu with hu|hu
       ·exact List.mem_append_left _ hu
       ·exact List.mem_append_right _ (by rw[List.mem_singleton.1 hu];simp))).1)
      have V6:am (xU (O2++[y])=y.x/\kG e (P.take k)=y.x.toNat):=aa ⟨N2 _ _,by rw[Yz.2,end_app];rfl⟩;have HAT':=aa O1;have pQ:=aa (fun vl W hb hl=>BW.o (O2++[y]) (by simp;omega) jT.o vl W hb hl);obtain⟨cb,VW⟩:∃ cb,cY s (O2++[y])=cb:=⟨_,rfl⟩;rw[VW]at pQ;have Ea:=aa VW;obtain⟨no2,TF⟩:∃ no2,O2.length=no2:=⟨_,rfl⟩;have zY:=aa TF;rw[TF]at aS hln2 DX ⊢;obtain⟨yx,yp⟩:=y;dsimp only at c3 c4;have lZ:=aa (aS.up ((Below.refl _ wr).alloc (Nat.le_refl _) (.cells #[.int .i64 yx,.int .i64 yp] 75)));have bA:=aa (dx wr [.int .i64 yx,.int .i64 yp] 75);have io:am (no2+1<=maxLen):=aa (by unfold maxLen;omega);have lV:am ((no2+1) * 16<=140737488355328):=aa (by omega);have fH:am (W0.heap.size<=(wr.alloc (.cells #[.int .i64 yx,.int .i64 yp] 75)).heap.size):=aa (by have:=az.size;simp;omega);have HPB2:=aa DX;clear Yz iB O1 cW hy VW TF aS pI DX az wO bG wT
      go_wp2_with (at_builtin;(refine aX _ rfl (.tmp 43) (.tmp 48) 54 rfl W0.heap.size 75 i0 _ 2 16 Tryz.underlying54 bO.o.1 bO.o.2.1 bO.o.2.2.1 bO.o.2.2.2 rfl (by decide) _ no2 _ rfl lZ.o ⟨wr.heap.size,0,none⟩ 1 1 [.int .i64 yx,.int .i64 yp] rfl rfl bA.o (by simp[Value.oneCell']) io.o lV.o fH.o ?_;intro v9 w9 eV du hown9b;obtain⟨av9,cv9,rfl⟩:=eV.slice;have fy:=aa (dB aP.o (Nat.le_refl _) lZ.o du);have Oj:=aa (QU Em.o HPB2.o du hown9b);have FI:=aa eV;have HA9:=aa (af (dB aP.o (Nat.le_refl _) lZ.o du) jm.o);have t9:=ab HA9.o;clear eV du hown9b c3 c4))
      have Ha:bh w9 (.slice av9 (no2+1) cv9) (O2++[⟨yx,yp⟩]):=by
       have h:=FI.o;rw[show cF O2++[Value.int .i64 yx,.int .i64 yp]=cF (O2++[⟨yx,yp⟩]) by rw[jB];rfl,show no2+1=(O2++[(⟨yx,yp⟩:Lk)]).length by simp[zY.o]]at h;have h2:=kn h HIN2.o (by simp[zY.o];omega);rw[show (O2++[(⟨yx,yp⟩:Lk)]).length=no2+1 by simp[zY.o]]at h2;exact h2
      have RJ:=aa Ha;clear Ha;refine(pQ.o _ w9 (ae ed.o fy.o) RJ.o).mono ?_;rintro r w10 ⟨rfl,pf⟩;have FQ:=aa (ae fy.o pf);have HL10:=aa (RJ.o.up up_link pf);have HPL10:am (bh w10 (.slice (some ⟨b3,o3,none⟩) np cp) PP/\∀ g,(Value.slice (some ⟨b3,o3,none⟩) np cp).ownBlock=some g->(Value.slice av9 (no2+1) cv9).ownBlock≠some g/\g<w10.heap.size):=aa ⟨Oj.o.1.up up_link pf,fun g hg=>⟨(Oj.o.2 g hg).1,Nat.lt_of_lt_of_le (Oj.o.2 g hg).2 pf.size⟩⟩;have HOW10:=aa (FI.o.up pf);clear pf t9 Oj RJ FI;cases cb with
      | true=>
       have dT:=aa (HAT'.o.stop Ea.o)
       go_wp2_with fail
       go_ret
       exact⟨_,rfl,by rw[<-dT.o];exact HL10.o,ae ed.o FQ.o⟩
      | false=>
       have eO:=aa (HAT'.o.next Ea.o)
       go_wp2_with fail
       go_roundw
       ·exact⟨k+1,by go_num,by omega,by omega,FQ.o,HPL10.o.1,HPL10.o.2,O2++[⟨yx,yp⟩],eO.o,by rw[V6.o.1];exact V6.o.2.symm,by rw[jB,show (O2++[(⟨yx,yp⟩:Lk)]).length=no2+1 by simp[zY.o]];exact HOW10.o⟩
       ·simp[intOf];omega
     ·obtain rfl:k=np:=by omega
      have eO:am (XR s L full W0.heap.size (.slice ao O2.length co2) (q+1) wr):=aa (by
       have h1:=JZ.o;have h2:=ku.o;have h3:=iB;have h4:=wO;rw[List.drop_eq_nil_of_le (by omega),List.nil_append]at h3;rw[List.take_of_length_le (by omega),iK.o]at h4
       exact⟨O2,by rw[Nat.add_sub_cancel,Aa.o,HR.o];exact h3,by rw[Nat.add_sub_cancel,Aa.o];exact h4,aS⟩)
      clear iB wO aS pI DX az;generalize O2.length=no2 at *
      go_wp2_with fail
      go_roundw
      ·exact⟨q+1,by go_num,by omega,by omega,aP.o,eO.o⟩
      ·simp[intOf];omega
  ·obtain rfl:q=n:=by omega
   have qN:O=full:=by
    have h:=iB;rw[yV.o]at h;exact h.done
   have lO:=kn aS (fun y hy=>(fZ.o O _ iB).1 y (List.mem_append_left _ hy)) (by have:=(fZ.o O _ iB).2;omega);have gz:=aa lO;have HDN:=aa qN;clear lO qN iB wO aS az
   go_wp2_with fail
   go_ret
   exact⟨_,rfl,by rw[<-HDN.o];exact gz.o,ae ed.o aP.o⟩
def UN(l:List Lk):MP:=⟨fun x W=>bh W x l,fun _ _ _ h hb=>h.up up_link hb⟩
theorem mY(tmps:Array Value) (B:Nat) (W:World) (k e:Int) (ok:Bool) (u:Value) (h2:tmps[2]?.getD undef=.pointer (some ⟨B,0,none⟩)) (h3:tmps[3]?.getD undef=.bool ok) (h4:tmps[4]?.getD undef=.int .i64 e)
  (hB:W.heap[B]?=some (.cells (fw k u) 58)):(results Tryz.f19 tmps).run Tryz.prog W=.ok (.tuple #[.agg (fw k u),.bool ok,.int .i64 e]) W:=by
 have t2:=ab hB;simp[results,Tryz.results19,go_sem,h2,h3,h4,t2]
theorem JF{e:Int} {vr:List Lk × Bool × Int} {W:World} (h:vr=([],false,e)):N4 vr (.returned (.tuple #[.agg (fw 0 (.slice none 0 0)),.bool false,.int .i64 e])) W:=⟨.slice none 0 0,by rw[h];rfl,by rw[h];exact uG _⟩
theorem XS{s:Sys} {k:Nat} (hk:k<eS s) (h0:∀ j,j<k->0<=(choiceS s).getD j 0) (h1:(choiceS s).getD k 0<0):j9 s=k:=by
 unfold j9;exact dk _ k _ hk (fun j hj=>decide_eq_false (by have:=h0 j hj;omega)) (decide_eq_true h1)
theorem Ts{s:Sys} (h0:∀ j,j<eS s->0<=(choiceS s).getD j 0):j9 s<0:=by
 unfold j9;rcases bE (eS s) (fun e=>decide ((choiceS s).getD e 0<0)) with ⟨e,_⟩|⟨k,hk,_,h2,_⟩
 ·omega
 ·have:=h0 k hk;have h3:=of_decide_eq_true h2;omega
theorem QV(s:Sys) (hE:eS s<=256) (vc vs vt ve:Value) (w:World) (cH:IsSys w s vc vs vt ve) (hr:zV s vc vs vt ve w) :
  Calls Tryz.prog 19 #[.agg (bL s.prob vc vs s.n vt ve)] w fun r w'=>N4 (findW s) r w'/\Below w.heap.size w w':=by
 have HS:=aa cH;have oX:=aa hr;obtain⟨⟨qc,kc,rfl⟩,⟨qs,ks,rfl⟩,⟨qt,kt,rfl⟩,⟨qe,ke,rfl⟩⟩:=bB cH;have AK:=aa (fun (h:readyE s=0) W (hb:Below w.heap.size w W)=>DR s (qV h) hE _ _ _ _ W (HS.o.up hb));have jE:=aa (fun (h:readyE s=0) W (hb:Below w.heap.size w W)=>zU s (qV h) hE _ _ _ _ W (HS.o.up hb))
 have mR:=aa (fun (h:readyE s=0) (k0:Int) h0 vl W (hb:Below w.heap.size w W) hv=>N5 s (qV h) hE (by
  unfold readyE at h;split at h
  ·rename_i h1;exact absurd h h1
  ·split at h
   ·assumption
   ·omega) k0 h0 vl _ _ _ _ W (HS.o.up hb) hv)
 have dg:am (readyE s≠0->findW s=([],false,readyE s)):=aa fun h=>by unfold findW;rw[if_pos h]
 have dU:am (readyE s=0->j9 s<0->findW s=([],false,0)):=aa fun h h2=>by unfold findW;rw[if_neg (by omega),if_pos h2]
 have eT:am (readyE s=0->¬ j9 s<0->4096<(kR s).length->findW s=([],false,17)):=aa fun h h2 h3=>by unfold findW;rw[if_neg (by omega),if_neg h2,if_pos h3]
 have nT:am (readyE s=0->¬ j9 s<0->¬ 4096<(kR s).length->findW s=(kR s,true,0)):=aa fun h h2 h3=>by unfold findW;rw[if_neg (by omega),if_neg h2,if_neg h3]
 have MH:am (∀ k:Nat,j9 s=k->lH s (gw s (memL (partsS s) ((partsS s).getD k 0)))=kR s):=aa fun k h=>by unfold kR;rw[h,Int.toNat_natCast]
 have Ri:am (∀ k,k<eS s->memL (partsS s) ((partsS s).getD k 0)≠[]):=aa fun k hk h=>by
  have:k∈memL (partsS s) ((partsS s).getD k 0):=kH.2 ⟨by rw[dm];exact hk,rfl⟩;rw[h]at this;exact List.not_mem_nil this
 have vz:=aa (fun k hk h0 h1=>@XS s k hk h0 h1);have Zd:=aa (fun h=>@Ts s h);generalize findW s=vr at dg dU eT nT ⊢;unfold zV at oX;obtain⟨re,lR⟩:∃ re,readyE s=re:=⟨_,rfl⟩;rw[lR]at dg dU eT nT oX AK jE mR;have pB:s.ex.length=eS s:=rfl;rw[pB]at oX AK jE mR ⊢;obtain⟨m,hm⟩:∃ m,eS s=m:=⟨_,rfl⟩;have HM:=aa hm;have Em:am ((partsS s).length=m):=aa (by rw[dm,hm]);have kg:am ((choiceS s).length=m):=aa (by rw[<-hm];simp[choiceS]);rw[hm]at hE oX AK jE mR Ri vz Zd ⊢;generalize s.prob.t.cases.length=nc,s.prob.a.states.length=ns,s.tab.length=nt at oX AK jE mR ⊢;clear cH hr lR pB hm
 go_enter Tryz.func19,Tryz.ntmps19
 go_wp2_with fail
 refine aN (fun W=>Below w.heap.size w W/\(∃ c,W.heap[w.heap.size]?=some (.cells c 35)/\c=bL s.prob (.slice qc nc kc) (.slice qs ns ks) s.n (.slice qt nt kt) (.slice qe m ke))/\W.heap[w.heap.size+1]?=some (.cells (fw 0 (.slice none 0 0)) 58)) ⟨by go_grown,⟨_,ar _ (aq _ _),rfl⟩,bd _ _ _⟩ (fun W0 aZ=>?_);obtain⟨aI,⟨_,bI,rfl⟩,hD0⟩:=aZ;refine(oX.o W0 aI).mono ?_;rintro r w1 ⟨rfl,aJ⟩;have bK:=aa (ae aI aJ);have db:=aa (af aJ bI);have q8:=aa (af aJ hD0);have gc:=aC q8.o;clear aI bI hD0 aJ oX;by_cases hz:re=0
 case neg=>
  have HV:=aa (dg.o hz);have Mr:(re != 0)=true:=by simpa using hz
  clear AK jE mR dU eT nT MH Ri vz Zd
  go_wp2_with (refine wpList_store_row rfl 58 (.tmp 2) (.tmp 14) rfl (w.heap.size+1) (fw 0 (.slice none 0 0)) rfl rfl 58 _ q8.o (by kernel_rfl) rfl (by simp[Value.oneCell']) ?_)
  exact bodyPost_ret (mY _ (w.heap.size+1) _ 0 re false _ rfl rfl rfl (setRow_heap _ _ _ _ _ _ q8.o)) rfl ⟨JF HV.o,below_setRow bK.o (by omega) _⟩
 have da:=aa (dU.o hz);have ld:=aa (eT.o hz);have Ms:=aa (nT.o hz);have R8:=aa (AK.o hz);have pQ:=aa (jE.o hz);have rI:=aa (mR.o hz);subst hz;clear AK jE mR dg dU eT nT
 go_wp2_with fail
 have hS:List.Nodup [16,17,18,19,6,7]:=by decide
 refine qf 6 [16,17,18,19,6,7] [MP.eq (.agg #[.int .i64 s.prob.t.n,.int .i64 s.prob.t.ins,.int .i64 s.prob.t.outs,.slice qc nc kc,.int .i64 s.prob.a.n,.slice qs ns ks,.int .i64 s.prob.rounds,.int .i64 s.n,.slice qt nt kt,.slice qe m ke]),xT (partsS s),MP.eq (.agg #[.int .i64 s.prob.t.n,.int .i64 s.prob.t.ins,.int .i64 s.prob.t.outs,.slice qc nc kc,.int .i64 s.prob.a.n,.slice qs ns ks,.int .i64 s.prob.rounds,.int .i64 s.n,.slice qt nt kt,.slice qe m ke]),xT (choiceS s),xT (partsS s),xT (choiceS s)] (by kernel_rfl) rfl hS rfl (by kernel_rfl) ?step ?tail
 case step=>
  intro xq Wq iq oq sq F hi ho hs hB ap hF;rcases (show iq=0\/iq=1\/iq=2\/iq=3\/iq=4\/iq=5 by omega) with rfl|rfl|rfl|rfl|rfl|rfl
  all_goals (obtain rfl:=dp ho.symm;obtain rfl:=dp hs.symm;clear hi ho hs)
  ·obtain⟨g1,h1⟩:=cK hF 1 (.pointer (some ⟨w.heap.size,0,none⟩)) (by decide) rfl;have tb:=ab (af hB db.o);clear hF ap
   go_wp2_with fail
   exact aY.mk _ (Below.refl _ _) rfl rfl
  ·obtain⟨e0,f0⟩:=aQ hF 0 16 _ hS rfl (by kernel_rfl) (ap ⟨0,.data⟩ (by simp) rfl);clear hF ap
   go_wp2_with fail
   refine(R8.o Wq (ae bK.o hB)).mono ?_;rintro r w9 ⟨u9,rfl,nX,dS⟩;have wV:=aa nX;clear nX
   go_wp2_with fail
   exact aY.mk _ dS wV.o rfl
  ·obtain⟨g1,h1⟩:=cK hF 1 (.pointer (some ⟨w.heap.size,0,none⟩)) (by decide) rfl;have tb:=ab (af hB db.o);clear hF ap
   go_wp2_with fail
   exact aY.mk _ (Below.refl _ _) rfl rfl
  ·obtain⟨e2,f2⟩:=aQ hF 2 18 _ hS rfl (by kernel_rfl) (ap ⟨2,.data⟩ (by simp) rfl);clear hF ap
   go_wp2_with fail
   refine(pQ.o Wq (ae bK.o hB)).mono ?_;rintro r w9 ⟨u9,rfl,nX,dS⟩;have wV:=aa nX;clear nX
   go_wp2_with fail
   exact aY.mk _ dS wV.o rfl
  ·have d1:=ap ⟨1,.data⟩ (by simp) rfl;have D1:am (aT Wq (xq 1) (partsS s)):=aa d1;clear d1;obtain⟨e1,f1⟩:=aQ hF 1 17 _ hS rfl (by kernel_rfl) rfl;clear hF ap
   go_wp2_with fail
   exact aY.mk _ (Below.refl _ _) D1.o rfl
  ·have d3:=ap ⟨3,.data⟩ (by simp) rfl;have D3:am (aT Wq (xq 3) (choiceS s)):=aa d3;clear d3;obtain⟨e3,f3⟩:=aQ hF 3 19 _ hS rfl (by kernel_rfl) rfl;clear hF ap
   go_wp2_with fail
   exact aY.mk _ (Below.refl _ _) D3.o rfl
 case tail=>
  clear hS;intro xq W3 F hB aU hF;have e4:aT W3 (xq 4) (partsS s):=aU 4 (by omega);have e5:aT W3 (xq 5) (choiceS s):=aU 5 (by omega);clear aU;simp only[bz,cT,List.setIfInBounds_toArray,List.set_cons_succ,List.set_cons_zero,Nat.reduceAdd]at hF;generalize xq 0=r0,xq 1=r1,xq 2=r2,xq 3=r3,xq 4=r4,xq 5=r5 at hF e4 e5;subst hF;obtain⟨pu,cu,rfl,eu⟩:=df e4;obtain⟨pv,cv,rfl,ev⟩:=df e5;rw[Em.o]at eu ⊢;rw[kg.o]at ev ⊢;have HEU:=aa eu;have HEV:=aa ev;rw[Em.o]at e4;have HUU:=aa e4;have ef:=aa (ae bK.o hB);have pR:=aa (af hB db.o);have Es:=aa (af hB q8.o);clear hB e4 e5 eu ev R8 pQ db q8
  go_wp2_with fail
  go_loopw [8] (fun i wr=>∃ k:Nat,k<=m/\i=.int .i64 k/\Below W3.heap.size W3 wr/\∀ j,j<k->0<=(choiceS s).getD j 0) (fun i _=>m - (intOf i).toNat)
  ·exact⟨0,by omega,rfl,Below.refl _ _,fun j hj=>by omega⟩
  ·
   obtain⟨k,hk,rfl,az,gL⟩:=hrel;have fi:=aa gL;have eG:=aa (ae ef.o az);have aP:=aa az;have wJ:=aa (af az pR.o);have Yg:=aa (af az Es.o);clear gL az;by_cases aB:k<m
   ·obtain⟨b6,o6,rfl,c6⟩:=HEV.o k aB;have c6:=ak aP.o c6;obtain⟨xk,Sd⟩:∃ xk,(choiceS s).getD k 0=xk:=⟨_,rfl⟩;rw[Sd]at c6;by_cases hx:0<=xk
    ·have hd:decide ((0:Int)<=xk)=true:=decide_eq_true hx
     have eO:am (∀ j,j<k+1->0<=(choiceS s).getD j 0):=aa fun j hj=>by
      rcases Nat.lt_succ_iff_lt_or_eq.1 hj with h|h
      ·exact fi.o j h
      ·subst h;rw[Sd];exact hx
     have pT:(xk ≥ 0)=True:=by simpa using hx
     clear Sd
     go_wp2_with fail
     go_roundw
     ·exact⟨k+1,by omega,by go_num,aP.o,eO.o⟩
     ·simp[intOf];omega
    ·have hd:decide ((0:Int)<=xk)=false:=decide_eq_false hx;have lz:=vz.o k aB fi.o (by rw[Sd];omega);have Hl:=MH.o k lz;obtain⟨pk,pZ⟩:∃ pk,(partsS s).getD k 0=pk:=⟨_,rfl⟩;have rc:=Ri.o k aB;rw[pZ]at Hl rc;obtain⟨FS,hFS⟩:∃ FS,kR s=FS:=⟨_,rfl⟩;rw[hFS]at Hl ld Ms;have BK:=aa (fun vl W hb hv=>rI.o pk rc vl W hb hv);rw[Hl]at BK;obtain⟨b5,o5,rfl,c5⟩:=HEU.o k aB;rw[pZ]at c5;have CP:=aa (ak aP.o c5);have ld:=aa (ld.o (by omega));have Ms:=aa (Ms.o (by omega));have HMB:=aa (fun W (hb:Below wr.heap.size wr W)=>zT (.slice (some ⟨b5,o5,none⟩) m cu) (partsS s) pk (by have:=Em.o;omega) W (HUU.o.up up_int (ae aP.o hb)));clear Sd lz Hl rc hFS pZ c5 rI MH vz Ri
     go_wp2_with fail
     have hS:List.Nodup [31,32,33,34,35,36,37,38,9]:=by decide
     refine qf 9 [31,32,33,34,35,36,37,38,9] [MP.eq (.agg #[.int .i64 s.prob.t.n,.int .i64 s.prob.t.ins,.int .i64 s.prob.t.outs,.slice qc nc kc,.int .i64 s.prob.a.n,.slice qs ns ks,.int .i64 s.prob.rounds,.int .i64 s.n,.slice qt nt kt,.slice qe m ke]),MP.eq (.slice (some ⟨b5,o5,none⟩) m cu),MP.eq (.slice (some ⟨b5,o5,none⟩) m cu),MP.eq (.int .i64 (k:Nat)),MP.eq (.pointer (some ⟨b5,o5+k,none⟩)),MP.eq (.int .i64 pk),xT ((memL (partsS s) pk).map fun e:Nat=>(e:Int)),UN FS,UN FS] (by kernel_rfl) rfl hS rfl (by kernel_rfl) ?step9 ?tail9
     case step9=>
      intro xq Wq iq oq sq F hi ho hs hB ap hF;rcases (show iq=0\/iq=1\/iq=2\/iq=3\/iq=4\/iq=5\/iq=6\/iq=7\/iq=8 by omega) with rfl|rfl|rfl|rfl|rfl|rfl|rfl|rfl|rfl
      all_goals (obtain rfl:=dp ho.symm;obtain rfl:=dp hs.symm;clear hi ho hs)
      ·obtain⟨g1,h1⟩:=cK hF 1 (.pointer (some ⟨w.heap.size,0,none⟩)) (by decide) rfl;have tb:=ab (af hB wJ.o);clear hF ap
       go_wp2_with fail
       exact aY.mk _ (Below.refl _ _) rfl rfl
      ·obtain⟨g6,h6⟩:=cK hF 6 (.slice (some ⟨b5,o5,none⟩) m cu) (by decide) rfl;clear hF ap
       go_wp2_with fail
       exact aY.mk _ (Below.refl _ _) rfl rfl
      ·obtain⟨g6,h6⟩:=cK hF 6 (.slice (some ⟨b5,o5,none⟩) m cu) (by decide) rfl;clear hF ap
       go_wp2_with fail
       exact aY.mk _ (Below.refl _ _) rfl rfl
      ·obtain⟨g8,h8⟩:=cK hF 8 (.int .i64 (k:Nat)) (by decide) rfl;clear hF ap
       go_wp2_with fail
       exact aY.mk _ (Below.refl _ _) rfl rfl
      ·obtain⟨e2,f2⟩:=aQ hF 2 33 _ hS rfl (by kernel_rfl) (ap ⟨2,.data⟩ (by simp) rfl);obtain⟨e3,f3⟩:=aQ hF 3 34 _ hS rfl (by kernel_rfl) (ap ⟨3,.data⟩ (by simp) rfl);clear hF ap
       go_wp2_with fail
       exact aY.mk _ (Below.refl _ _) rfl rfl
      ·obtain⟨e4,f4⟩:=aQ hF 4 35 _ hS rfl (by kernel_rfl) (ap ⟨4,.data⟩ (by simp) rfl);have tb:=ak hB CP.o;clear hF ap
       go_wp2_with fail
       exact aY.mk _ (Below.refl _ _) rfl rfl
      ·obtain⟨e1,f1⟩:=aQ hF 1 32 _ hS rfl (by kernel_rfl) (ap ⟨1,.data⟩ (by simp) rfl);obtain⟨e5,f5⟩:=aQ hF 5 36 _ hS rfl (by kernel_rfl) (ap ⟨5,.data⟩ (by simp) rfl);clear hF ap
       go_wp2_with fail
       refine(HMB.o Wq hB).mono ?_;rintro r w9 ⟨u9,rfl,nX,dS,_⟩;have wV:=aa nX;clear nX
       go_wp2_with fail
       exact aY.mk _ dS wV.o rfl
      ·obtain⟨e0,f0⟩:=aQ hF 0 31 _ hS rfl (by kernel_rfl) (ap ⟨0,.data⟩ (by simp) rfl);have d6:=ap ⟨6,.data⟩ (by simp) rfl;have D6:am (aT Wq (xq 6) ((memL (partsS s) pk).map fun e:Nat=>(e:Int))):=aa d6;clear d6;obtain⟨e6,f6⟩:=aQ hF 6 37 _ hS rfl (by kernel_rfl) rfl;clear hF ap
       go_wp2_with fail
       refine(BK.o _ Wq (ae eG.o hB) D6.o).mono ?_;rintro r w9 ⟨u9,rfl,nX,dS⟩;have wV:=aa nX;clear nX
       go_wp2_with fail
       exact aY.mk _ dS wV.o rfl
      ·have d7:=ap ⟨7,.data⟩ (by simp) rfl;have D7:am (bh Wq (xq 7) FS):=aa d7;clear d7;obtain⟨e7,f7⟩:=aQ hF 7 38 _ hS rfl (by kernel_rfl) rfl;clear hF ap
       go_wp2_with fail
       exact aY.mk _ (Below.refl _ _) D7.o rfl
     case tail9=>
      clear hS;intro xq W5 F hB aU hF;have e8:bh W5 (xq 8) FS:=aU 8 (by omega);clear aU;simp only[bz,cT,List.setIfInBounds_toArray,List.set_cons_succ,List.set_cons_zero,Nat.reduceAdd]at hF;generalize xq 0=r0,xq 1=r1,xq 2=r2,xq 3=r3,xq 4=r4,xq 5=r5,xq 6=r6,xq 7=r7,xq 8=r8 at hF e8;subst hF;obtain⟨pw,cw,rfl,_,cC,_⟩:=e8.at;have lf:=aa (ae eG.o hB);have Cj:=aa (af hB Yg.o);have HL5:=aa e8;obtain⟨nf,hnf⟩:∃ nf,FS.length=nf:=⟨_,rfl⟩;rw[hnf]at cC HL5 ld Ms ⊢;have hs5:=aC Cj.o;clear hB e8 hnf HMB BK Yg wJ CP;by_cases VX:4096<nf
      ·have hd:decide ((4096:Int)<(nf:Int))=true:=decide_eq_true (by omega);have HV:=aa (ld.o VX);clear VX
       go_wp2_with (refine wpList_store_row rfl 58 (.tmp 2) (.tmp 42) rfl (w.heap.size+1) (fw 0 (.slice none 0 0)) rfl rfl 58 _ Cj.o (by kernel_rfl) rfl (by simp[Value.oneCell']) ?_)
       exact bodyPost_ret (mY _ (w.heap.size+1) _ 0 17 false _ rfl rfl rfl (setRow_heap _ _ _ _ _ _ Cj.o)) rfl ⟨JF HV.o,below_setRow lf.o (by omega) _⟩
      ·have hd:decide ((4096:Int)<(nf:Int))=false:=decide_eq_false (by omega);have HV:=aa (Ms.o VX);clear VX
       go_wp2_with (refine wpList_store_row rfl 58 (.tmp 2) (.tmp 44) rfl (w.heap.size+1) (fw 1 (.slice pw nf cw)) rfl rfl 58 _ Cj.o (by kernel_rfl) rfl (by simp[Value.oneCell']) ?_)
       exact bodyPost_ret (mY _ (w.heap.size+1) _ 1 0 true _ rfl rfl rfl (setRow_heap _ _ _ _ _ _ Cj.o)) rfl ⟨⟨.slice pw nf cw,by rw[HV.o];rfl,by rw[HV.o];exact QT HL5.o Cj.o (fun k hk=>setRow_other _ _ _ _ hk)⟩,below_setRow lf.o (by omega) _⟩
   ·obtain rfl:k=m:=by omega
    have HV:=aa (da.o (Zd.o fi.o));have Cj:=Yg;have hs5:=aC Cj.o;clear ld Ms rI MH vz Ri
    go_wp2_with (refine wpList_store_row rfl 58 (.tmp 2) (.tmp 45) rfl (w.heap.size+1) (fw 0 (.slice none 0 0)) rfl rfl 58 _ Cj.o (by kernel_rfl) rfl (by simp[Value.oneCell']) ?_)
    exact bodyPost_ret (mY _ (w.heap.size+1) _ 0 0 false _ rfl rfl rfl (setRow_heap _ _ _ _ _ _ Cj.o)) rfl ⟨JF HV.o,below_setRow eG.o (by omega) _⟩
end Go.Proofs.YtmeaoneaephjeaaGreatDoor
