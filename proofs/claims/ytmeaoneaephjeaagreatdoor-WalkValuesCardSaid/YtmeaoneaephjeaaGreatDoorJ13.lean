/-
  A part of the proof: lemmas and contracts that the parts behind it use. Each one's conditions are its own premises.
-/
import Derived.Test.YtmeaoneaephjeaaGreatDoorJ12
set_option maxRecDepth 100000
set_option maxHeartbeats 8000000
set_option linter.unusedVariables false
set_option linter.unusedSimpArgs false
namespace Go.Proofs.YtmeaoneaephjeaaGreatDoor
open Go.RowKit Go Go.Shelf
attribute [local go_sem] Oper.semAt_some
def jh(a b:List Int) (n:Nat) (O0:List Int) (i k:Nat) (O:List Int) (ch:Bool):Prop:=Glu a b n O/\((ch=true/\tD O<tD O0)\/(ch=false/\O=O0/\(∀ i',i'<i->∀ k',k'<i'->dy a b i' k'=true->O.getD i' 0=O.getD k' 0)/\∀ k',k'<k->dy a b i k'=true->O.getD i 0=O.getD k' 0))
theorem jh.row{a b:List Int} {n:Nat} {O0 O:List Int} {i:Nat} {ch:Bool} (h:jh a b n O0 i i O ch):jh a b n O0 (i+1) 0 O ch:=by
 refine⟨h.1,?_⟩;rcases h.2 with h2|⟨h2,h3,h4,h5⟩
 ·exact .inl h2
 ·refine .inr ⟨h2,h3,fun i' ou=>?_,fun k' qz=>by omega⟩
  by_cases e:i'=i
  ·subst e;exact h5
  ·exact h4 i' (by omega)
theorem jh.same{a b:List Int} {n:Nat} {O0 O:List Int} {i k:Nat} {ch:Bool} (h:jh a b n O0 i k O ch) (hq:dy a b i k=true->O.getD i 0=O.getD k 0):jh a b n O0 i (k+1) O ch:=by
 refine⟨h.1,?_⟩;rcases h.2 with h2|⟨h2,h3,h4,h5⟩
 ·exact .inl h2
 ·exact .inr ⟨h2,h3,h4,aS h5 hq⟩
theorem jh.put{a b:List Int} {n:Nat} {O0 O:List Int} {i k:Nat} {ch:Bool} (h:jh a b n O0 i k O ch) (hi:i<n) (hk:k<i) (hq:dy a b i k=true) (bJ:O.getD i 0≠O.getD k 0):jh a b n O0 i (k+1) (lh O i k) true:=by
 refine⟨h.1.step i k hi hk hq,.inl ⟨rfl,?_⟩⟩;have h1:=NJ h.1 i k hi hk bJ;rcases h.2 with ⟨_,h2⟩|⟨_,h3,_⟩
 ·omega
 ·rw[<-h3];exact h1
def Rq(W:World) (g:Nat):Nat:=match W.heap[g]? with|some (.cells cs _ _)=>(cs.toList.map fun v=>(intOf v).toNat).sum|_=>0
theorem Ku{W:World} {g:Nat} {O:List Int} {t:TypeId} {fz:Nat × Nat} (h:W.heap[g]?=some (.cells (bu O) t fz)):Rq W g=tD O:=by
 unfold Rq tD;rw[h];simp only[bu,List.toList_toArray,List.map_map];rfl
def Vo(c:Value) (x:Nat):Nat:=match c with|.bool true=>x+1|_=>0
theorem O4(va vb:Value) (a b:List Int) (w:World) (ha:aT w va a) (hb:aT w vb b) (hl:b.length=a.length) (hn:a.length<=256) :
  Calls Tryz.prog 92 #[va,vb] w fun r w'=>∃ u,r=.returned u/\aT w' u (kx a b)/\Below w.heap.size w w':=by
 obtain⟨pa,ca,rfl,ea⟩:=dO ha;obtain⟨pb,cb,rfl,eb⟩:=dO hb;have EA:=aa ea;have EB:=aa eb;obtain⟨n,fg⟩:∃ n,a.length=n:=⟨_,rfl⟩;rw[hl,fg]at EB;rw[fg]at EA hn;rw[hl,fg];have mV:=aa fg;have fO:=je (fun k:Nat=>(k:Int)) n hn;have A8:Hid (fC n (fun k:Nat=>(k:Int)) n=bu ((List.range n).map fun i:Nat=>(i:Int))):=aa (by rw[pK]);have HGS:=aa (Glu.start a b n);clear ha hb ea eb hl fg
 go_enter Tryz.func92,Tryz.ntmps92
 go_wp2_with fail
 clear fO;refine bm (fun W=>Below w.heap.size w W/\W.heap[w.heap.size]?=some (.cells (fC n (fun k:Nat=>(k:Int)) 0) 3)) ⟨by go_grown,am _ _⟩ (fun W0 aV=>?_);have iz:=aa aV;clear aV
 go_loopw [6] (fun i wr=>∃ k:Nat,k<=n/\i=.int .i64 k/\Below w.heap.size w wr/\wr.heap[w.heap.size]?=some (.cells (fC n (fun k:Nat=>(k:Int)) k) 3)) (fun i _=>n - (intOf i).toNat)
 case atStart=>exact⟨0,by omega,rfl,iz.out.1,iz.out.2⟩
 case round=>
  clear iz;obtain⟨k,hk,rfl,ar,hO⟩:=hrel;have HO:=aa hO;have aP:=aa ar;by_cases aA:k<n
  ·have tq:=ab hO k
   rw[lN _ _ _ _ aA]at tq;have zq:=aE hO k;clear hO ar
   go_wp2_with fail
   go_roundw
   case rel=>exact⟨k+1,by omega,by go_num,aP.out.setCell (by dsimp only;omega) _,by rw[aF HO.out,uu n (fun k:Nat=>(k:Int)) k aA]⟩
   case measure=>simp[intOf];omega
  obtain rfl:k=n:=by omega
  have eE:Hid (wr.heap[w.heap.size]?=some (.cells (bu ((List.range k).map fun i:Nat=>(i:Int))) 3)):=aa (by rw[hO,A8.out]);clear hO ar
  go_wp2_with fail
  clear HO;obtain⟨g,hg⟩:∃ g,w.heap.size=g:=⟨_,rfl⟩;have HG:=aa hg;rw[hg]at eE ⊢;obtain⟨w4,xV⟩:∃ x,x=wr:=⟨_,rfl⟩;subst xV;clear hg W0
  go_loopw [7] (fun c wr=>∃ (O:List Int) (ch:Bool),c=.bool ch/\Glu a b k O/\(ch=false->∀ i,i<k->∀ k',k'<i->dy a b i k'=true->O.getD i 0=O.getD k' 0)/\Below w.heap.size w wr/\wr.heap[g]?=some (.cells (bu O) 3)) (fun c wr=>Vo c (Rq wr g))
  case atStart=>exact⟨_,true,rfl,HGS.out,fun h=>(by cases h),aP.out,eE.out⟩
  case round=>
   clear aP eE;obtain⟨O,ch,rfl,Nh,aQ,ar,hO⟩:=hrel;have K8:=aa Nh;have aP:=aa ar;have HO:=aa hO;cases ch with
   | false=>
    have mz:=aa (aQ rfl)
    have HI:Hid (aT wr (.slice (some ⟨g,0,none⟩) k k) O):=aa (rf K8.out.len hn HO.out fun i hi=>by
     have:=K8.out.le i (by rw[<-K8.out.len];exact hi);have:=K8.out.len
     exact⟨by omega,by omega⟩)
    have Lb:=aa (zW _ O (by have:=K8.out.len;omega) wr HI.out);have HJ:Hid (kO O=kx a b):=aa (Qq mV.out K8.out fun i k' hi qz hq=>mz.out i hi k' qz hq);clear Nh aQ ar hO
    go_wp2_with fail
    refine Lb.out.mono ?_;rintro r w2 ⟨u,rfl,hu,aU⟩;obtain⟨au,cu,rfl,_⟩:=hu.at;have HU:=aa hu;have cL:=aa (ae aP.out aU);clear hu aU
    go_wp2_with fail
    go_ret
    exact⟨_,rfl,by rw[<-HJ.out];exact HU.out,cL.out⟩
   | true=>
    have Tx:Hid (jh a b k O 0 0 O false):=aa ⟨Nh,.inr ⟨rfl,rfl,fun i' ou=>by omega,fun k' qz=>by omega⟩⟩;clear Nh aQ ar hO;obtain⟨w5,Po⟩:∃ x,x=wr:=⟨_,rfl⟩;subst Po
    go_wp2_with fail
    go_loopw [7,8] (fun c x wr=>∃ (P:List Int) (ch:Bool) (i:Nat),i<=k/\c=.bool ch/\x=.int .i64 i/\jh a b k O i 0 P ch/\Below w.heap.size w wr/\wr.heap[g]?=some (.cells (bu P) 3)) (fun _ x _=>k - (intOf x).toNat)
    case atStart=>exact⟨O,false,0,by omega,rfl,rfl,Tx.out,aP.out,HO.out⟩
    case round=>
     clear Tx;obtain⟨P,ch,i,kl,rfl,rfl,hP,ar,hO⟩:=hrel;have HP:=aa hP;have eC:=aa ar;have yN:=aa hO;clear hP ar hO;obtain⟨w6,Pa⟩:∃ x,x=wr:=⟨_,rfl⟩;subst Pa;by_cases aA:i<k
     ·go_wp2_with fail
      go_loopw [7,9] (fun c x wr=>∃ (P:List Int) (ch:Bool) (j:Nat),j<=i/\c=.bool ch/\x=.int .i64 j/\jh a b k O i j P ch/\Below w.heap.size w wr/\wr.heap[g]?=some (.cells (bu P) 3)) (fun _ x _=>i - (intOf x).toNat)
      case atStart=>exact⟨P,ch,0,by omega,rfl,rfl,HP.out,eC.out,yN.out⟩
      case round=>
       clear HP eC yN;obtain⟨P,ch,j,oD,rfl,rfl,hP,ar,hO⟩:=hrel;have HP:=aa hP;have eC:=aa ar;have yN:=aa hO;by_cases fx:j<i
       ·obtain⟨ba,oa,rfl,ai⟩:=EA.out i aA
        obtain⟨_,_,e1,aj⟩:=EA.out j (by omega);injection e1 with e1
        injection e1 with e11 e12
        subst e11 e12;obtain⟨bb,ob,rfl,bi⟩:=EB.out i aA;obtain⟨_,_,e1,bj⟩:=EB.out j (by omega);injection e1 with e1
        injection e1 with e11 e12
        subst e11 e12;have Ih:Hid (dy a b i j=(decide (a.getD i 0=a.getD j 0) || decide (b.getD i 0=b.getD j 0))):=aa rfl;have Fh:=HP.out.1.len;have tp1:=ab hO i;rw[fX _ _ (by omega)]at tp1;have tp2:=ab hO j;rw[fX _ _ (by omega)]at tp2;obtain⟨pi,wS⟩:∃ x,P.getD i 0=x:=⟨_,rfl⟩;obtain⟨pj,wF⟩:∃ x,P.getD j 0=x:=⟨_,rfl⟩;rw[wS]at tp1;rw[wF]at tp2;have ya1:∀ z:ExtW wr,z.val.cell? ⟨ba,oa+i,none⟩=_:=fun z=>ak (ae eC.out z.ext) ai
        have ya2:∀ z:ExtW wr,z.val.cell? ⟨ba,oa+j,none⟩=_:=fun z=>ak (ae eC.out z.ext) aj
        have yb1:∀ z:ExtW wr,z.val.cell? ⟨bb,ob+i,none⟩=_:=fun z=>ak (ae eC.out z.ext) bi
        have yb2:∀ z:ExtW wr,z.val.cell? ⟨bb,ob+j,none⟩=_:=fun z=>ak (ae eC.out z.ext) bj
        have yp1:∀ z:ExtW wr,z.val.cell? ⟨g,i,none⟩=_:=fun z=>ak z.ext tp1
        have yp2:∀ z:ExtW wr,z.val.cell? ⟨g,j,none⟩=_:=fun z=>ak z.ext tp2
        generalize a.getD i 0=xi at ya1 Ih;generalize a.getD j 0=xj at ya2 Ih;generalize b.getD i 0=yi at yb1 Ih;generalize b.getD j 0=yj at yb2 Ih;clear hP ar hO ai aj bi bj;by_cases h1:xi=xj
        ·have df:(xi == xj)=true:=by simp[h1]
         by_cases h3:pi=pj
         ·have wH:(pi != pj)=false:=by simp[h3]
          have lU:Hid (jh a b k O i (j+1) P ch):=aa (HP.out.same (fun _=>by rw[wS,wF];exact h3));clear h1 h3 wS wF
          go_wp2_with fail
          refine aC (by kernel_rfl) (by kernel_rfl) ?_
          repeat (go_big_quiet_step (fail))
          refine wpQuiet_nil ?_;rintro _ ⟨xq,rfl⟩;clear ya1 ya2 yb1 yb2 yp1 yp2
          go_wp2_with fail
          go_roundw
          case rel=>exact⟨P,ch,j+1,by omega,rfl,by go_num,lU.out,ae eC.out xq.ext,af xq.ext yN.out⟩
          case measure=>simp[intOf];omega
         ·have wH:(pi != pj)=true:=by simpa using h3
          have Vy:Hid (jh a b k O i (j+1) (lh P i j) true):=aa (HP.out.put aA fx (by rw[Ih.out];simp[h1]) (by rw[wS,wF];exact h3));have WX:=aa wS;have VT:=aa wF;clear h1 h3 wS wF
          go_wp2_with fail
          refine aC (by kernel_rfl) (by kernel_rfl) ?_
          repeat (go_big_quiet_step (fail))
          refine wpQuiet_nil ?_;rintro _ ⟨xq,rfl⟩;have zp1:∀ z:ExtW xq.val,z.val.cell? ⟨g,i,none⟩=_:=fun z=>ak (ae xq.ext z.ext) tp1
          have zp2:∀ z:ExtW xq.val,z.val.cell? ⟨g,j,none⟩=_:=fun z=>ak (ae xq.ext z.ext) tp2
          clear ya1 ya2 yb1 yb2 yp1 yp2
          go_wp2_with fail
          refine aC (by kernel_rfl) (by kernel_rfl) ?_
          repeat (go_big_quiet_step (fail))
          refine wpQuiet_nil ?_;rintro _ ⟨x2,rfl⟩;have sM:=af (ae xq.ext x2.ext) yN.out;have kD:=ae eC.out (ae xq.ext x2.ext);generalize x2.val=V at sM kD ⊢;have c1:=ab sM i;rw[fX _ _ (by omega)]at c1;have f1:=aE sM i;have yP:=aF sM i (.int .i64 (min pi pj));rw[lO]at yP;have c2:=ab yP j;rw[fX _ _ (by simp;omega)]at c2;have f2:=aE yP j;have yL:=aa yP;have E6:=aa kD;clear zp1 zp2 sM yP kD tp1 tp2
          go_wp2_with fail
          go_roundw
          case rel=>
           refine⟨lh P i j,true,j+1,by omega,rfl,by go_num,Vy.out,(E6.out.setCell (by dsimp only;rw[HG.out];exact Nat.le_refl _) _).setCell (by dsimp only;rw[HG.out];exact Nat.le_refl _) _,?_⟩;rw[aF yL.out,lO];unfold lh;rw[WX.out,VT.out]
          case measure=>simp[intOf];omega
        ·have df:(xi == xj)=false:=beq_eq_false_iff_ne.2 h1
         by_cases h2:yi=yj
         ·have dM:(yi == yj)=true:=by simp[h2]
          by_cases h3:pi=pj
          ·have wH:(pi != pj)=false:=by simp[h3]
           have lU:Hid (jh a b k O i (j+1) P ch):=aa (HP.out.same (fun _=>by rw[wS,wF];exact h3));clear h1 h2 h3 wS wF
           go_wp2_with fail
           refine aC (by kernel_rfl) (by kernel_rfl) ?_
           repeat (go_big_quiet_step (fail))
           refine wpQuiet_nil ?_;rintro _ ⟨xq,rfl⟩;clear ya1 ya2 yb1 yb2 yp1 yp2
           go_wp2_with fail
           go_roundw
           case rel=>exact⟨P,ch,j+1,by omega,rfl,by go_num,lU.out,ae eC.out xq.ext,af xq.ext yN.out⟩
           case measure=>simp[intOf];omega
          ·have wH:(pi != pj)=true:=by simpa using h3
           have Vy:Hid (jh a b k O i (j+1) (lh P i j) true):=aa (HP.out.put aA fx (by rw[Ih.out];simp[h2]) (by rw[wS,wF];exact h3));have WX:=aa wS;have VT:=aa wF;clear h1 h2 h3 wS wF
           go_wp2_with fail
           refine aC (by kernel_rfl) (by kernel_rfl) ?_
           repeat (go_big_quiet_step (fail))
           refine wpQuiet_nil ?_;rintro _ ⟨xq,rfl⟩;have zp1:∀ z:ExtW xq.val,z.val.cell? ⟨g,i,none⟩=_:=fun z=>ak (ae xq.ext z.ext) tp1
           have zp2:∀ z:ExtW xq.val,z.val.cell? ⟨g,j,none⟩=_:=fun z=>ak (ae xq.ext z.ext) tp2
           clear ya1 ya2 yb1 yb2 yp1 yp2
           go_wp2_with fail
           refine aC (by kernel_rfl) (by kernel_rfl) ?_
           repeat (go_big_quiet_step (fail))
           refine wpQuiet_nil ?_;rintro _ ⟨x2,rfl⟩;have sM:=af (ae xq.ext x2.ext) yN.out;have kD:=ae eC.out (ae xq.ext x2.ext);generalize x2.val=V at sM kD ⊢;have c1:=ab sM i;rw[fX _ _ (by omega)]at c1;have f1:=aE sM i;have yP:=aF sM i (.int .i64 (min pi pj));rw[lO]at yP;have c2:=ab yP j;rw[fX _ _ (by simp;omega)]at c2;have f2:=aE yP j;have yL:=aa yP;have E6:=aa kD;clear zp1 zp2 sM yP kD tp1 tp2
           go_wp2_with fail
           go_roundw
           case rel=>
            refine⟨lh P i j,true,j+1,by omega,rfl,by go_num,Vy.out,(E6.out.setCell (by dsimp only;rw[HG.out];exact Nat.le_refl _) _).setCell (by dsimp only;rw[HG.out];exact Nat.le_refl _) _,?_⟩;rw[aF yL.out,lO];unfold lh;rw[WX.out,VT.out]
           case measure=>simp[intOf];omega
         ·have dM:(yi == yj)=false:=beq_eq_false_iff_ne.2 h2
          have og:Hid (¬ dy a b i j=true):=aa (by rw[Ih.out];simp[h1,h2]);have lU:Hid (jh a b k O i (j+1) P ch):=aa (HP.out.same (fun h=>absurd h og.out));clear h1 h2 wS wF
          go_wp2_with fail
          refine aC (by kernel_rfl) (by kernel_rfl) ?_
          repeat (go_big_quiet_step (fail))
          refine wpQuiet_nil ?_;rintro _ ⟨xq,rfl⟩;clear ya1 ya2 yb1 yb2 yp1 yp2
          go_wp2_with fail
          go_roundw
          case rel=>exact⟨P,ch,j+1,by omega,rfl,by go_num,lU.out,ae eC.out xq.ext,af xq.ext yN.out⟩
          case measure=>simp[intOf];omega
       ·obtain rfl:j=i:=by omega
        clear hP ar hO
        go_wp2_with fail
        go_roundw
        case rel=>exact⟨P,ch,j+1,by omega,rfl,by go_num,HP.out.row,eC.out,yN.out⟩
        case measure=>simp[intOf];omega
     ·obtain rfl:i=k:=by omega
      go_wp2_with fail
      go_roundw
      case rel=>
       refine⟨P,ch,rfl,HP.out.1,fun h=>?_,eC.out,yN.out⟩;rcases HP.out.2 with ⟨h2,_⟩|⟨_,_,h4,_⟩
       ·rw[h]at h2;cases h2
       ·exact h4
      case measure=>
       have e1:=Ku HO.out;have e2:=Ku yN.out;rcases HP.out.2 with ⟨h2,h3⟩|⟨h2,_⟩
       ·subst h2;simp[Vo];omega
       ·subst h2;simp[Vo]
theorem Mp(s:Sys) (hs:SysOk s) (hE:eS s<=256) (vc vs vt ve:Value) (w:World) (cT:IsSys w s vc vs vt ve) :
  Calls Tryz.prog 50 #[.agg (bT s.prob vc vs s.n vt ve)] w fun r w'=>∃ u,r=.returned u/\aT w' u (partsS s)/\Below w.heap.size w w':=by
 have HS:=aa cT;obtain⟨⟨pc,cc,rfl⟩,⟨ps,cs,rfl⟩,⟨pt,ct,rfl⟩,⟨pe,ce,rfl⟩⟩:=bE cT;clear cT;have ki:=aa (fun p (hp:p<nS s) W (hb:Below w.heap.size w W)=>Mo s hs p hp _ _ _ _ W (HS.out.up hb));have fg:=hs.n.2.2.1;have jP:=hs.n.1;have ji:=hs.n.2.1;have qj:Hid (∀ k,(dQ s k).length=eS s):=aa (gB s);have qD:Hid (∀ p,(classL s p).length=eS s):=aa (jb s);have HPS:Hid (∀ k,dQ s (k+1)=kx (dQ s k) (classL s (k+1))):=aa fun k=>rfl
 have Tx:Hid (dQ s 0=classL s 0):=aa rfl;have jq:Hid (partsS s=dQ s (nS s - 1)):=aa rfl;obtain⟨n,hn⟩:∃ n,nS s=n:=⟨_,rfl⟩;rw[hn]at fg jP ji ki jq;rw[fg]at ki ⊢;generalize partsS s=ps0 at jq ⊢;clear hn fg
 go_enter Tryz.func50,Tryz.ntmps50
 go_wp2_with fail
 refine aN (fun W=>Below w.heap.size w W/\∃ c,W.heap[w.heap.size]?=some (.cells c 35)/\c=bT s.prob (.slice pc s.prob.t.cases.length cc) (.slice ps s.prob.a.states.length cs) (n:Int) (.slice pt s.tab.length ct) (.slice pe s.ex.length ce)) ⟨by go_grown,_,am _ _,rfl⟩ (fun W0 aV=>?_);obtain⟨aH,_,hA,rfl⟩:=aV;have fj:=aa aH;have HA:=aa hA;have yF:=ki.out 0 (by omega) W0 aH;rw[show ((0:Nat):Int)=0 from rfl]at yF;refine yF.mono ?_;rintro r w1 ⟨u,rfl,hu,aI⟩;have HU:=aa hu;obtain⟨au,cu,rfl,_⟩:=hu.at;rw[qD.out]at HU;have bF:=aa aI;rw[qD.out];clear aH hA yF hu aI
 go_wp2_with fail
 go_loopw [3,4] (fun o i wr=>∃ k:Nat,k<n/\i=.int .i64 ((k:Int)+1)/\Below W0.heap.size W0 wr/\∃ a c,o=.slice a (eS s) c/\aT wr (.slice a (eS s) c) (dQ s k)) (fun _ i _=>n+1 - (intOf i).toNat)
 case atStart=>exact⟨0,by omega,rfl,bF.out,au,cu,rfl,by rw[Tx.out];exact HU.out⟩
 case round=>
  clear bF HU;obtain⟨k,hk,rfl,ar,a,c,rfl,hI⟩:=hrel;have aP:=aa ar;have HI:=aa hI;have tS:=ab (af ar HA.out);clear ar hI;by_cases aA:k+1<n
  ·have nR:(k:Int)+1<(n:Int):=by omega
   have bP:=ki.out (k+1) aA wr (ae fj.out aP.out);rw[show ((k+1:Nat):Int)=(k:Int)+1 by omega]at bP;have HC:=aa bP;clear bP
   go_wp2_with fail
   clear tS;refine HC.out.mono ?_;rintro r w2 ⟨u,rfl,hu,aU⟩;have HU:=aa hu;obtain⟨a2,c2,rfl,_⟩:=hu.at;have cL:=aa aU;have HGU:=aa (O4 _ _ (dQ s k) (classL s (k+1)) w2 (HI.out.up up_int cL.out) HU.out (by rw[qj.out,qD.out]) (by rw[qj.out];exact hE));rw[qD.out]at HGU ⊢;clear hu aU HC
   go_wp2_with fail
   refine HGU.out.mono ?_;rintro r w3 ⟨u3,rfl,nC,bC⟩;have fx:(kx (dQ s k) (classL s (k+1))).length=eS s:=by rw[<-HPS.out,qj.out]
   obtain⟨a3,c3,rfl,_⟩:=nC.at;rw[fx]at nC ⊢;have Az:=aa nC;have eo:=aa bC;clear nC bC fx
   go_wp2_with fail
   go_roundw
   case rel=>exact⟨k+1,aA,by go_num,ae aP.out (ae cL.out eo.out),a3,c3,rfl,by rw[HPS.out];exact Az.out⟩
   case measure=>simp[intOf];omega
  ·have nR:¬ (k:Int)+1<(n:Int):=by omega
   have HK:Hid (ps0=dQ s k):=aa (by rw[jq.out,show n - 1=k by omega])
   go_wp2_with fail
   go_ret
   exact⟨_,rfl,by rw[HK.out];exact HI.out,ae fj.out aP.out⟩
theorem Mq{w w':World} {B:Nat} (h:w'.heap[B]?=w.heap[B]?) (o:Nat):w'.cell? ⟨B,o,none⟩=w.cell? ⟨B,o,none⟩:=by
 simp[World.cell?,h]
theorem Hx(s:Sys) (hs:SysOk s) (hE:eS s<=256) (vc vs vt ve:Value) (w:World) (cT:IsSys w s vc vs vt ve) :
  Calls Tryz.prog 42 #[.agg (bT s.prob vc vs s.n vt ve)] w fun r w'=>∃ u,r=.returned u/\aT w' u (choiceS s)/\Below w.heap.size w w':=by
 have HS:=aa cT;obtain⟨⟨qc,kc,rfl⟩,⟨qs,ks,rfl⟩,⟨qt,kt,rfl⟩,⟨qe,ke,rfl⟩⟩:=bE cT;have Xe:=aa (fun W (hb:Below w.heap.size w W)=>Mp s hs hE _ _ _ _ W (HS.out.up hb));have HCO:=aa (fun (l:List Nat) (hl:∀ e∈l,e<eS s) vl W (hb:Below w.heap.size w W) (hv:aT W vl (l.map fun e:Nat=>(e:Int)))=>J0 s hs l hl vl _ _ _ _ W (HS.out.up hb) hv);have KV:Hid (chQ s 0 0=List.replicate (eS s) 0):=aa (QF s);have SX:Hid (∀ (k i:Nat) (hi:i<(memL (partsS s) k).length),chQ s k (i+1)=(chQ s k i).set ((memL (partsS s) k).getD i 0) (comB s (memL (partsS s) k))):=aa (fun k i hi=>QG hi);have HQN:=aa (QH s);have VC:Hid (∀ k:Nat,(memL (partsS s) k).length=0->chQ s k 0=choiceS s):=aa (fun k h=>QI h);have rE:=aa (Uf s);have uV:=aa (mJ s);have Xa:=aa (dJ s);have Cj:Hid (∀ (k:Nat),∀ e∈memL (partsS s) k,e<eS s):=aa (fun k=>qX)
 have iS:Hid (∀ x∈choiceS s,bM x):=aa (fun x hx=>by
  obtain⟨e,_,rfl⟩:=List.mem_map.1 hx
  exact uH s _ hs.outs.2.1)
 have Wp:Hid (∀ l,bM (comB s l)):=aa (fun l=>uH s l hs.outs.2.1);generalize choiceS s=CH at VC rE iS ⊢;generalize chQ s=Q at KV SX HQN VC rE uV;have fO:=je (fun _=>0) (eS s) hE;have HZ0:Hid (fC (eS s) (fun _=>(0:Int)) 0=bu (List.replicate (eS s) 0)):=aa (by unfold fC bu;simp[List.map_const']);obtain⟨m,hm⟩:∃ m,eS s=m:=⟨_,rfl⟩;have Ay:s.ex.length=eS s:=rfl;rw[Ay,hm]at Xe HCO ⊢;rw[hm]at KV rE uV Xa Cj hE fO HZ0;clear cT hm Ay
 go_enter Tryz.func42,Tryz.ntmps42
 go_wp2_with fail
 refine aN (fun W=>Below w.heap.size w W/\∃ c,W.heap[w.heap.size]?=some (.cells c 35)/\c=bT s.prob (.slice qc s.prob.t.cases.length kc) (.slice qs s.prob.a.states.length ks) s.n (.slice qt s.tab.length kt) (.slice qe m ke)) ⟨by go_grown,_,am _ _,rfl⟩ (fun W0 aV=>?_);obtain⟨aH,_,bB,rfl⟩:=aV;refine(Xe.out W0 aH).mono ?_;rintro r w1 ⟨u,rfl,hu,aI⟩;have HU:=aa hu;obtain⟨pu,cu,rfl,eu⟩:=dO hu;have bF:=aa (ae aH aI);have du:=aa (af aI bB);have Fh:=Xa.out;rw[Fh]at HU ⊢;clear hu eu aH aI bB Xe Fh
 go_wp2_with fail
 clear fO;refine bm (fun W=>Below w1.heap.size w1 W/\W.heap[w1.heap.size]?=some (.cells (bu (Q 0 0)) 3)) ⟨by go_grown,by rw[KV.out,<-HZ0.out];exact am _ _⟩ (fun W1 cD=>?_);obtain⟨js,qA⟩:=cD;obtain⟨g,hg⟩:∃ g,w1.heap.size=g:=⟨_,rfl⟩;rw[hg]at qA ⊢;have gr:=aa js;have nQ:=aa qA;have uK:=aa hg;have hwg:=bF.out.size;rw[hg]at hwg;have Ab:=aB du.out;rw[hg]at Ab;clear js qA hg
 have I5:Hid (∀ (V:World) (l:List Int),V.heap[g]?=some (.cells (bu l) 3)->l.length=m->l=CH->aT V (.slice (some ⟨g,0,none⟩) m m) CH):=aa (fun V l h1 h2 h3=>by
  subst h3
  exact EK h2 (by omega) h1 iS.out)
 go_loopw [5] (fun i wr=>∃ k:Nat,k<=m/\i=.int .i64 k/\Below w1.heap.size w1 wr/\wr.heap[g]?=some (.cells (bu (Q k 0)) 3)) (fun i _=>m - (intOf i).toNat)
 case atStart=>exact⟨0,by omega,rfl,gr.out,nQ.out⟩
 case round=>
  obtain⟨k,hk,rfl,ar,od⟩:=hrel;have aP:=aa ar;have AG:=aa od;have cQ:=ae bF.out ar;have eD:=aa cQ;by_cases aA:k<m
  ·have Ld:=aa (Hv _ (partsS s) k (by rw[Xa.out];omega) wr (HU.out.up up_int ar))
   have Aj:=aa (Cj.out k);have uI:=aa (SX.out k);have pY:=aa (HQN.out k);have Wm:=aa (VC.out k);clear ar od cQ;generalize memL (partsS s) k=L at Ld Aj uI pY Wm
   go_wp2_with fail
   refine Ld.out.mono ?_;rintro r w4 ⟨u4,rfl,ly,bQ,IZ⟩;have lZ:=aa ly;obtain⟨pl,cl,rfl,el⟩:=dO ly;rw[List.length_map]at el lZ ⊢
   have EL:Hid (∀ i (hi:i<L.length),∃ b o,pl=some ⟨b,o,none⟩/\w4.cell? ⟨b,o+i,none⟩=some (.int .i64 (L.getD i 0:Nat))):=aa (fun i hi=>by
    obtain⟨b,o,e1,h1⟩:=el i hi;refine⟨b,o,e1,?_⟩;rw[h1]
    simp[hi])
   have Ja:g<wr.heap.size:=(Array.getElem?_eq_some_iff.1 AG.out).1
   have HNG:Hid (∀ b o,pl=some ⟨b,o,none⟩->b≠g):=aa (fun b o hp=>by
    have:=IZ b (by rw[hp];rfl)
    omega)
   clear IZ Ja;have eQ:=aa (ae aP.out bQ);have Tz:=aa (af bQ AG.out);have yR:=aa (ae eD.out bQ);obtain⟨ln,Am⟩:∃ ln,L.length=ln:=⟨_,rfl⟩;have pV:=aa Am;rw[Am]at uI pY Wm EL lZ ⊢;obtain⟨_,_,_,_,hlm,_⟩:=ly.at;rw[List.length_map,Am]at hlm;clear ly el bQ Am Ld;by_cases yQ:ln=0
   ·have HR:=aa (I5.out w4 _ Tz.out (uV.out k 0) (Wm.out yQ))
    have hd:((ln:Int) == 0)=true:=by simp[yQ]
    clear yQ
    go_wp2_with fail
    go_ret
    exact⟨_,rfl,HR.out,yR.out⟩
   ·have hd:((ln:Int) == 0)=false:=beq_eq_false_iff_ne.2 (by omega)
    have tA:=ab (af eQ.out du.out)
    go_wp2_with fail
    refine(HCO.out L Aj.out _ w4 yR.out lZ.out).mono ?_;rintro r w5 ⟨rfl,dx⟩;generalize comB s L=cv at uI ⊢;have lY:=aa (ae eQ.out dx);have HG5:=aa (af dx Tz.out);have H45:=aa dx;clear tA dx
    go_wp2_with fail
    obtain⟨wrA,kG⟩:∃ x,x=wr:=⟨_,rfl⟩;subst kG;have hsz4:=H45.out.size
    go_loopw [8] (fun i wr=>∃ j:Nat,j<=ln/\i=.int .i64 j/\Below w1.heap.size w1 wr/\wr.heap[g]?=some (.cells (bu (Q k j)) 3)/\(∀ q,q<w4.heap.size->q≠g->wr.heap[q]?=w4.heap[q]?)) (fun i _=>ln - (intOf i).toNat)
    case atStart=>exact⟨0,by omega,rfl,lY.out,HG5.out,fun q hq _=>H45.out.block q hq⟩
    case round=>
     obtain⟨j,hj,rfl,Fw,KA,Th⟩:=hrel;have KQ:=aa Fw;have z5:=aa KA;have HKJ:=aa Th;by_cases fx:j<ln
     ·obtain⟨b1,o1,rfl,c1⟩:=EL.out j fx
      have HSJ:=aa (uI.out j fx);have hjl':j<L.length:=by rw[pV.out];exact fx
      have hLj:L.getD j 0<m:=by
       rw[az 0 hjl'];exact Aj.out _ (List.getElem_mem hjl')
      generalize L.getD j 0=e at c1 HSJ hLj;have Cq:=HNG.out b1 o1 rfl
      have hcw:wr.cell? ⟨b1,o1+j,none⟩=some (.int .i64 (e:Nat)):=by
       rw[<-c1];exact Mq (Th b1 (eX c1) Cq) (o1+j)
      have tG:=ab z5.out;have tF:=aE z5.out;have jG:(bu (Q k j))[e]?=some (.int .i64 ((Q k j).getD e 0)):=fX _ _ (by rw[uV.out];exact hLj)
      have HN7:Hid (∀ x,x=Value.int .i64 cv->Below w1.heap.size w1 (wr.setCell ⟨g,e,none⟩ x)/\(wr.setCell ⟨g,e,none⟩ x).heap[g]?=some (.cells (bu (Q k (j+1))) 3)/\(∀ q,q<w4.heap.size->q≠g->(wr.setCell ⟨g,e,none⟩ x).heap[q]?=w4.heap[q]?)):=aa (fun x hx=>by
       subst hx;refine⟨KQ.out.setCell (p:=⟨g,e,none⟩) (Nat.le_of_eq uK.out) _,?_,fun q hq hqg=>?_⟩
       ·rw[aF z5.out,lO,HSJ.out]
       ·rw[Below.heap_setCell _ _ _ _ hqg]
        exact HKJ.out q hq hqg)
      clear Fw KA Th c1
      go_wp2_with fail
      go_roundw
      case rel=>exact⟨j+1,by omega,by go_num,HN7.out _ rfl⟩
      case measure=>simp[intOf];omega
     ·obtain rfl:j=ln:=by omega
      have Pj:Hid (wr.heap[g]?=some (.cells (bu (Q (k+1) 0)) 3)):=aa (by rw[<-pY.out];exact z5.out);clear Fw KA Th
      go_wp2_with fail
      go_roundw
      case rel=>exact⟨k+1,by omega,by go_num,KQ.out,Pj.out⟩
      case measure=>simp[intOf];omega
  ·obtain rfl:k=m:=by omega
   have HR:=aa (I5.out wr _ od (uV.out k 0) rE.out);clear ar od cQ
   go_wp2_with fail
   go_ret
   exact⟨_,rfl,HR.out,eD.out⟩
abbrev xR(s:Sys) (vc vs vt ve:Value) (w:World):Prop:=∀ W,Below w.heap.size w W->Calls Tryz.prog 39 #[.agg (bT s.prob vc vs s.n vt ve)] W fun r w'=>r=.returned (.int .i64 (readyE s))/\Below W.heap.size W w'
theorem ES{s:Sys} (h:readyE s=0):SysOk s:=by
 refine jc ?_;unfold readyE at h;split at h
 ·rename_i h1;exact absurd h h1
 ·omega
theorem J1(s:Sys) (hE:eS s<=256) (vc vs vt ve:Value) (w:World) (cT:IsSys w s vc vs vt ve) (hr:xR s vc vs vt ve w) :
  Calls Tryz.prog 14 #[.agg (bT s.prob vc vs s.n vt ve)] w fun r w'=>∃ u,r=.returned (.tuple #[u,.int .i64 (choiceR s).2])/\aT w' u (choiceR s).1/\Below w.heap.size w w':=by
 have HS:=aa cT;have rH:=aa hr;obtain⟨⟨qc,kc,rfl⟩,⟨qs,ks,rfl⟩,⟨qt,kt,rfl⟩,⟨qe,ke,rfl⟩⟩:=bE cT;have ox:=aa (fun (h:readyE s=0) W (hb:Below w.heap.size w W)=>Hx s (ES h) hE _ _ _ _ W (HS.out.up hb));have cZ:Hid (readyE s≠0->choiceR s=([],readyE s)):=aa fun h=>by unfold choiceR;rw[if_pos h]
 have dN:Hid (readyE s=0->choiceR s=(choiceS s,0)):=aa fun h=>by unfold choiceR;rw[if_neg (by omega)]
 generalize choiceR s=cr at cZ dN ⊢;unfold xR at rH;generalize readyE s=re at cZ dN rH ox;clear cT hr;generalize s.prob.t.cases.length=nc,s.prob.a.states.length=ns,s.tab.length=nt,s.ex.length=ne at rH ox ⊢
 go_enter Tryz.func14,Tryz.ntmps14
 go_wp2_with fail
 refine aN (fun W=>Below w.heap.size w W/\∃ c,W.heap[w.heap.size]?=some (.cells c 35)/\c=bT s.prob (.slice qc nc kc) (.slice qs ns ks) s.n (.slice qt nt kt) (.slice qe ne ke)) ⟨by go_grown,_,am _ _,rfl⟩ (fun W0 aV=>?_);obtain⟨aH,_,bB,rfl⟩:=aV;refine(rH.out W0 aH).mono ?_;rintro r w1 ⟨rfl,aI⟩;have bF:=aa (ae aH aI);have tA:=ab (af aI bB);clear aH bB aI rH;by_cases hz:re=0
 case neg=>
  have HV:=aa (cZ.out hz);have KC:(re != 0)=true:=by simpa using hz
  clear hz ox
  go_wp2_with fail
  go_ret2
  exact⟨_,by rw[HV.out];rfl,by rw[HV.out];exact jo _,bF.out⟩
 have HV:=aa (dN.out hz);have uU:=aa (ox.out hz);subst hz;clear ox
 go_wp2_with fail
 refine(uU.out w1 bF.out).mono ?_;rintro r w2 ⟨u,rfl,hu,aU⟩;have HU:=aa hu;have cL:=aa (ae bF.out aU);clear hu aU tA
 go_wp2_with fail
 go_ret2
 exact⟨_,by rw[HV.out];rfl,by rw[HV.out];exact HU.out,cL.out⟩
theorem J2(s:Sys) (x:Int) (vc vs vt ve:Value) (w:World) (cT:IsSys w s vc vs vt ve) (hr:xR s vc vs vt ve w) :
  Calls Tryz.prog 12 #[.agg (bT s.prob vc vs s.n vt ve),.int .i64 x] w fun r w'=>∃ u,r=.returned (.tuple #[u,.int .i64 (valuesR s x).2])/\aT w' u (valuesR s x).1/\Below w.heap.size w w':=by
 have HS:=aa cT;have rH:=aa hr;obtain⟨⟨qc,kc,rfl⟩,⟨qs,ks,rfl⟩,⟨qt,kt,rfl⟩,⟨qe,ke,rfl⟩⟩:=bE cT;have xS:=aa (fun (h:readyE s=0) (e:Nat) (he:e<eS s) W (hb:Below w.heap.size w W)=>Kt s (ES h) e he _ _ _ _ W (HS.out.up hb));have cZ:Hid (readyE s≠0->valuesR s x=([],readyE s)):=aa fun h=>by unfold valuesR;rw[if_pos h]
 have dN:Hid (readyE s=0->(x<0\/(eS s:Int)<=x)->valuesR s x=([],6)):=aa fun h h2=>by unfold valuesR;rw[if_neg (by omega),if_pos h2]
 have fm:Hid (readyE s=0->¬ (x<0\/(eS s:Int)<=x)->valuesR s x=(valuesS s x.toNat,0)):=aa fun h h2=>by unfold valuesR;rw[if_neg (by omega),if_neg h2]
 generalize valuesR s x=vr at cZ dN fm ⊢;unfold xR at rH;generalize readyE s=re at cZ dN fm rH xS;have Ay:s.ex.length=eS s:=rfl;rw[Ay]at rH xS ⊢;clear cT hr Ay;generalize s.prob.t.cases.length=nc,s.prob.a.states.length=ns,s.tab.length=nt,eS s=ne at rH xS dN fm ⊢
 go_enter Tryz.func12,Tryz.ntmps12
 go_wp2_with fail
 refine aN (fun W=>Below w.heap.size w W/\∃ c,W.heap[w.heap.size]?=some (.cells c 35)/\c=bT s.prob (.slice qc nc kc) (.slice qs ns ks) s.n (.slice qt nt kt) (.slice qe ne ke)) ⟨by go_grown,_,am _ _,rfl⟩ (fun W0 aV=>?_);obtain⟨aH,_,bB,rfl⟩:=aV;refine(rH.out W0 aH).mono ?_;rintro r w1 ⟨rfl,aI⟩;have bF:=aa (ae aH aI);have tA:=ab (af aI bB);clear aH bB aI rH;by_cases hz:re=0
 case neg=>
  have HV:=aa (cZ.out hz);have KC:(re != 0)=true:=by simpa using hz
  clear hz xS
  go_wp2_with fail
  go_ret2
  exact⟨_,by rw[HV.out];rfl,by rw[HV.out];exact jo _,bF.out⟩
 by_cases cN:x<0
 ·have HV:=aa (dN.out hz (.inl cN))
  have hd:decide (x<0)=true:=decide_eq_true cN;subst hz;clear cN xS
  go_wp2_with fail
  go_ret2
  exact⟨_,by rw[HV.out];rfl,by rw[HV.out];exact jo _,bF.out⟩
 have hd:decide (x<0)=false:=decide_eq_false cN;obtain⟨e,rfl⟩:∃ e:Nat,x=e:=⟨x.toNat,by omega⟩;by_cases df:ne<=e
 ·have HV:=aa (dN.out hz (.inr (by omega)))
  have fY:decide ((ne:Int)<=(e:Int))=true:=decide_eq_true (by omega);have nL:decide (ne<=e)=true:=decide_eq_true df;subst hz;clear cN df xS
  go_wp2_with fail
  go_ret2
  exact⟨_,by rw[HV.out];rfl,by rw[HV.out];exact jo _,bF.out⟩
 have fY:decide ((ne:Int)<=(e:Int))=false:=decide_eq_false (by omega);have nL:decide (ne<=e)=false:=decide_eq_false df;have HV:=aa (fm.out hz (by omega));have uU:=aa (xS.out hz e (by omega));subst hz;clear cN df xS
 go_wp2_with fail
 refine(uU.out w1 bF.out).mono ?_;rintro r w2 ⟨u,rfl,hu,aU⟩;have HU:=aa hu;have cL:=aa (ae bF.out aU);clear hu aU tA
 go_wp2_with fail
 go_ret2
 exact⟨_,by rw[HV.out];rfl,by rw[HV.out];exact HU.out,cL.out⟩
theorem Mr(s:Sys) (vc vs vt ve:Value) (w:World) (cT:IsSys w s vc vs vt ve) (hN:movesN s.prob.a.states<2305843009213693952) (hf:tV s.prob) :
  Calls Tryz.prog 39 #[.agg (bT s.prob vc vs s.n vt ve)] w fun r w'=>r=.returned (.int .i64 (readyE s))/\Below w.heap.size w w':=by
 have HS:=aa cT;obtain⟨⟨qc,kc,rfl⟩,⟨qs,ks,rfl⟩,⟨qt,kt,rfl⟩,⟨qe,ke,rfl⟩⟩:=bE cT;have Tq:=aa (fun W (hb:Below w.heap.size w W)=>DI s _ _ _ _ W (HS.out.up hb) hN hf);have FE:=aa (fun W (hb:Below w.heap.size w W)=>Mn s.prob.t _ W (HS.out.cases.up up_case hb));have cZ:Hid (readyE s=if verifyE s≠0 then verifyE s else if agreeB s.prob.t then 0 else 11):=aa rfl;generalize readyE s=re at cZ ⊢;generalize verifyE s=vr at Tq cZ;generalize agreeB s.prob.t=ag at FE cZ;clear cT hN hf;generalize s.prob.t.cases.length=nc,s.prob.a.states.length=ns,s.tab.length=nt,s.ex.length=ne at Tq FE ⊢
 go_enter Tryz.func39,Tryz.ntmps39
 go_wp2_with fail
 refine aN (fun W=>Below w.heap.size w W/\∃ c,W.heap[w.heap.size]?=some (.cells c 35)/\c=bT s.prob (.slice qc nc kc) (.slice qs ns ks) s.n (.slice qt nt kt) (.slice qe ne ke)) ⟨by go_grown,_,am _ _,rfl⟩ (fun W0 aV=>?_);obtain⟨aH,_,bB,rfl⟩:=aV;refine(Tq.out W0 aH).mono ?_;rintro r w1 ⟨rfl,aI⟩;have bF:=aa (ae aH aI);have tA:=ab (af aI bB);clear aH bB aI Tq;by_cases hz:vr=0
 case neg=>
  have KC:(vr != 0)=true:=by simpa using hz
  have HV:Hid (re=vr):=aa (by rw[cZ.out,if_pos hz]);clear hz FE
  go_wp2_with fail
  go_ret
  exact⟨aD HV.out.symm,bF.out⟩
 have HV:Hid (re=if ag then 0 else 11):=aa (by rw[cZ.out,if_neg (by omega)]);subst hz;clear cZ
 go_wp2_with fail
 refine(FE.out w1 bF.out).mono ?_;rintro r w2 ⟨rfl,aU⟩;have cL:=aa (ae bF.out aU);clear tA aU FE;cases ag with
 | true=>
  go_wp2_with fail
  go_ret
  exact⟨aD (by rw[HV.out];rfl),cL.out⟩
 | false=>
  go_wp2_with fail
  go_ret
  exact⟨aD (by rw[HV.out];rfl),cL.out⟩
theorem EZ{s:Sys} {vc vs vt ve:Value} {w:World} (cT:IsSys w s vc vs vt ve) (hN:movesN s.prob.a.states<2305843009213693952) (hf:tV s.prob):xR s vc vs vt ve w:=fun W hb=>Mr s vc vs vt ve W (cT.up hb) hN hf
def Rr(s:Sys) (r:Ending):Prop:=∃ b,r=.returned (.bool b)/\(b=true->fewPB s.prob=true/\eS s<=70/\s.tab.length<=600)
theorem J3(s:Sys) (vc vs vt ve:Value) (w:World) (cT:IsSys w s vc vs vt ve) :
  Calls Tryz.prog 9 #[.agg (bT s.prob vc vs s.n vt ve)] w fun r w'=>Rr s r/\Below w.heap.size w w':=by
 have HS:=aa cT;obtain⟨⟨qc,kc,rfl⟩,⟨qs,ks,rfl⟩,⟨qt,kt,rfl⟩,_⟩:=bE cT;obtain⟨qe,ke,rfl,le1,le2,ee⟩:=cT.ex.at;have EE:=aa ee;have HF:=aa (fun W (hb:Below w.heap.size w W)=>Hb s.prob _ _ W (HS.out.cases.up up_case hb) (HS.out.states.up up_moves hb));have fy:Hid (Rr s (.returned (.bool false))):=aa ⟨false,rfl,fun h=>by cases h⟩;have jp:Hid (fewPB s.prob=true->¬ 600<s.tab.length->¬ 70<s.ex.length->Rr s (.returned (.bool true))):=aa fun h1 h0 h2=>⟨true,rfl,fun _=>⟨h1,by unfold eS;omega,by omega⟩⟩
 obtain⟨ne,bJ⟩:∃ ne,s.ex.length=ne:=⟨_,rfl⟩;have gJ:=aa bJ;rw[bJ]at le1 le2 jp ⊢;generalize fewPB s.prob=fb at HF jp;clear cT ee bJ;generalize s.prob.t.cases.length=nc,s.prob.a.states.length=ns,s.tab.length=nt at HF jp ⊢
 go_enter Tryz.func9,Tryz.ntmps9
 go_wp2_with fail
 refine aN (fun W=>Below w.heap.size w W/\∃ c,W.heap[w.heap.size]?=some (.cells c 35)/\c=bT s.prob (.slice qc nc kc) (.slice qs ns ks) s.n (.slice qt nt kt) (.slice qe ne ke)) ⟨by go_grown,_,am _ _,rfl⟩ (fun W0 aV=>?_);obtain⟨aH,_,bB,rfl⟩:=aV;refine(HF.out W0 aH).mono ?_;rintro r w1 ⟨rfl,aI⟩;have bF:=aa (ae aH aI);have dZ:=af aI bB;have du:=aa dZ;have tA:=ab dZ;clear aH bB aI HF dZ;cases fb with
 | false=>
  go_wp2_with fail
  go_ret
  exact⟨fy.out,bF.out⟩
 | true=>
  have HY:=aa (jp.out rfl);clear jp;by_cases h6:600<nt
  ·have hd:decide ((600:Int)<(nt:Int))=true:=decide_eq_true (by omega)
   go_wp2_with fail
   go_ret
   exact⟨fy.out,bF.out⟩
  have hd6:decide ((600:Int)<(nt:Int))=false:=decide_eq_false (by omega);by_cases h7:70<ne
  ·have hd:decide ((70:Int)<(ne:Int))=true:=decide_eq_true (by omega)
   go_wp2_with fail
   go_ret
   exact⟨fy.out,bF.out⟩
  have hd7:decide ((70:Int)<(ne:Int))=false:=decide_eq_false (by omega);have HYY:=aa (HY.out h6 h7)
  go_wp2_with fail
  clear tA
  go_loopw [3] (fun i wr=>Below w1.heap.size w1 wr/\∃ k:Nat,k<=ne/\i=.int .i64 k) (fun i _=>ne - (intOf i).toNat)
  case atStart=>exact⟨Below.refl _ _,0,by omega,rfl⟩
  case round=>
   obtain⟨ar,k,hk,rfl⟩:=hrel;have aP:=aa ar;have tA:=ab (af ar du.out);clear ar;by_cases aA:k<ne
   ·obtain⟨b1,o1,rfl,⟨c0,_⟩,⟨vw,c1,rg⟩,⟨vv,c2,WH⟩⟩:=EE.out k (by rw[gJ.out];exact aA)
    have cQ:=ae bF.out aP.out;obtain⟨pw,cw,rfl,_⟩:=rg.at;obtain⟨pv,cv,rfl,lv1,lv2,ev⟩:=WH.at;have EV:=aa ev;have c0:=ak cQ c0;have c1:=ak cQ c1;have c2:=ak cQ c2;have eD:=aa cQ;generalize (s.ex[k]'(by rw[gJ.out];exact aA))=x at c0 c1 c2 rg WH ev EV lv1 lv2;obtain⟨nv,IQ⟩:∃ nv,x.views.length=nv:=⟨_,rfl⟩;have KU:=aa IQ;rw[IQ]at c2 lv1 lv2;generalize x.word.length=lw at c1;obtain⟨wrA,kG⟩:∃ x,x=wr:=⟨_,rfl⟩;subst kG;clear cQ rg WH ev IQ;generalize x.c=xc at c0;have HG:=aa (ae bF.out (show Below w1.heap.size w1 (wrA.alloc (.cells #[.int .i64 xc,.slice pw lw cw,.slice pv nv cv] 89)) from aP.out.alloc aP.out.size _));have te:=ab (am wrA (.cells #[.int .i64 xc,.slice pw lw cw,.slice pv nv cv] 89));by_cases hw10:10<lw
    ·have hd:decide ((10:Int)<(lw:Int))=true:=decide_eq_true (by omega)
     go_wp2_with fail
     go_ret
     exact⟨fy.out,HG.out⟩
    have hdw:decide ((10:Int)<(lw:Int))=false:=decide_eq_false (by omega);by_cases hv10:10<nv
    ·have hd:decide ((10:Int)<(nv:Int))=true:=decide_eq_true (by omega)
     go_wp2_with fail
     go_ret
     exact⟨fy.out,HG.out⟩
    have Pv:decide ((10:Int)<(nv:Int))=false:=decide_eq_false (by omega)
    go_wp2_with fail
    refine bm (fun W=>Below wrA.heap.size wrA W/\W.heap[wrA.heap.size]?=some (.cells #[.int .i64 xc,.slice pw lw cw,.slice pv nv cv] 89)) ⟨by go_grown,am _ _⟩ (fun W2 eK=>?_);have cL:=aa eK.1;have fF:=aa eK.2;clear eK te tA c0 c1 c2 hdw Pv
    go_loopw [5] (fun i wr=>Below W2.heap.size W2 wr/\∃ q:Nat,q<=nv/\i=.int .i64 q) (fun i _=>nv - (intOf i).toNat)
    case atStart=>exact⟨Below.refl _ _,0,by omega,rfl⟩
    case round=>
     obtain⟨kn,q,hq,rfl⟩:=hrel;have eC:=aa (ae cL.out kn);have HBR2:=aa kn;have tX:=ab (af kn fF.out);clear kn;by_cases uP:q<nv
     ·obtain⟨b3,o3,rfl,⟨vr,c3,IP⟩⟩:=EV.out q (by rw[KU.out];exact uP)
      obtain⟨pr,cr,rfl,_⟩:=IP.at;have c3:=ak (ae eD.out eC.out) c3;rw[Nat.mul_one]at c3;generalize (x.views[q]'(by rw[KU.out];exact uP)).length=lr at c3;clear IP;by_cases hr10:10<lr
      ·have hd:decide ((10:Int)<(lr:Int))=true:=decide_eq_true (by omega)
       go_wp2_with fail
       go_ret
       exact⟨fy.out,ae bF.out (ae aP.out eC.out)⟩
      have hd:decide ((10:Int)<(lr:Int))=false:=decide_eq_false (by omega)
      go_wp2_with fail
      go_roundw
      case rel=>exact⟨HBR2.out,q+1,by omega,by go_num⟩
      case measure=>simp[intOf];omega
     ·obtain rfl:q=nv:=by omega
      go_wp2_with fail
      go_roundw
      case rel=>exact⟨ae aP.out eC.out,k+1,by omega,by go_num⟩
      case measure=>simp[intOf];omega
   ·obtain rfl:k=ne:=by omega
    go_wp2_with fail
    go_ret
    exact⟨HYY.out,ae bF.out aP.out⟩
theorem Hy(l:List Int):eqV l l=true:=by unfold eqV;simp
theorem Cd(s:Sys) (x:Int) (vc vs vt ve:Value) (w:World) (hT:ij w) (cT:IsSys w s vc vs vt ve) :
  Calls Tryz.prog 3 #[.agg (bT s.prob vc vs s.n vt ve),.int .i64 x] w fun r w'=>r=.returned (.bool true)/\Below w.heap.size w w':=by
 have HS:=aa cT;have HT:=aa hT;have HAW:=aa (fun W (hb:Below w.heap.size w W)=>Hu W (HT.out.up hb));obtain⟨⟨qc,kc,rfl⟩,⟨qs,ks,rfl⟩,⟨qt,kt,rfl⟩,⟨qe,ke,rfl⟩⟩:=bE cT;have VN:=aa (fun W (hb:Below w.heap.size w W)=>J3 s _ _ _ _ W (HS.out.up hb));have K0:=aa (fun (h1:fewPB s.prob=true) (h2:eS s<=70) W (hb:Below w.heap.size w W)=>B6 s x (by omega) _ _ _ _ W (HS.out.up hb) (by have:=pA h1;omega));have wL:=aa (fun (h1:fewPB s.prob=true) (h2:eS s<=70) W (hb:Below w.heap.size w W)=>J2 s x _ _ _ _ W (HS.out.up hb) (EZ (HS.out.up hb) (by have:=pA h1;omega) (Kp h1)));have kT:=aa (fun (h1:fewPB s.prob=true) (h2:eS s<=70) W (hb:Below w.heap.size w W)=>B7 s (by omega) _ _ _ _ W (HT.out.up hb) (HS.out.up hb) (by have:=pA h1;omega));have uN:=aa (fun (h1:fewPB s.prob=true) (h2:eS s<=70) W (hb:Below w.heap.size w W)=>J1 s (by omega) _ _ _ _ W (HS.out.up hb) (EZ (HS.out.up hb) (by have:=pA h1;omega) (Kp h1)));obtain⟨vr,IP⟩:∃ vr,valuesR s x=vr:=⟨_,rfl⟩;obtain⟨cr,nD⟩:∃ cr,choiceR s=cr:=⟨_,rfl⟩;rw[IP]at K0 wL;rw[nD]at kT uN;obtain⟨lv,e1⟩:=vr;obtain⟨lc,e2⟩:=cr;dsimp only at K0 wL kT uN;clear cT hT IP nD;generalize s.prob.t.cases.length=nc,s.prob.a.states.length=ns,s.tab.length=nt,s.ex.length=ne at VN K0 wL kT uN ⊢
 go_enter Tryz.func3,Tryz.ntmps3
 go_wp2_with fail
 refine aN (fun W=>Below w.heap.size w W/\∃ c,W.heap[w.heap.size]?=some (.cells c 35)/\c=bT s.prob (.slice qc nc kc) (.slice qs ns ks) s.n (.slice qt nt kt) (.slice qe ne ke)) ⟨by go_grown,_,am _ _,rfl⟩ (fun W0 aV=>?_);obtain⟨aH,_,bB,rfl⟩:=aV;refine(VN.out W0 aH).mono ?_;rintro r w1 ⟨⟨b,rfl,R3⟩,aI⟩;have bF:=aa (ae aH aI);have du:=aa (af aI bB);clear aH bB aI VN;cases b with
 | false=>
  clear R3
  go_wp2_with fail
  refine(HAW.out w1 bF.out).mono ?_;rintro r w2 ⟨rfl,aU⟩;have cL:=aa (ae bF.out aU);clear aU
  go_wp2_with fail
  go_ret
  exact⟨rfl,cL.out⟩
 | true=>
 obtain⟨eF,sT,_⟩:=R3 rfl;have K0:=aa (K0.out eF sT);have wL:=aa (wL.out eF sT);have kT:=aa (kT.out eF sT);have uN:=aa (uN.out eF sT);have tb:=ab du.out;clear R3 eF sT
 go_wp2_with fail
 clear tb;refine(K0.out w1 bF.out).mono ?_;rintro r w2 ⟨u2,rfl,rB,aU⟩;obtain⟨a2,n2,c2,rfl⟩:∃ a n c,u2=.slice a n c:=by obtain⟨a,c,e,_⟩:=rB.at;exact⟨_,_,_,e⟩
 have qE:=aa rB;have cL:=aa (ae bF.out aU);have pQ:=aa (af aU du.out);have tb:=ab pQ.out;clear rB aU
 go_wp2_with fail
 clear tb;refine(wL.out w2 cL.out).mono ?_;rintro r w3 ⟨u3,rfl,nC,bC⟩;obtain⟨a3,n3,c3,rfl⟩:∃ a n c,u3=.slice a n c:=by obtain⟨a,c,e,_⟩:=nC.at;exact⟨_,_,_,e⟩
 have Az:=aa nC;have eo:=aa (ae cL.out bC);have xY:=aa (af bC pQ.out);have qE:=aa (qE.out.up up_int bC);have tb:=ab xY.out;clear nC bC
 go_wp2_with fail
 clear tb;refine(kT.out w3 eo.out).mono ?_;rintro r w4 ⟨u4,rfl,ly,bQ⟩;obtain⟨a4,n4,c4,rfl⟩:∃ a n c,u4=.slice a n c:=by obtain⟨a,c,e,_⟩:=ly.at;exact⟨_,_,_,e⟩
 have lZ:=aa ly;have eQ:=aa (ae eo.out bQ);have Im:=aa (af bQ xY.out);have qE:=aa (qE.out.up up_int bQ);have Az:=aa (Az.out.up up_int bQ);have tb:=ab Im.out;clear ly bQ
 go_wp2_with fail
 clear tb;refine(uN.out w4 eQ.out).mono ?_;rintro r w5 ⟨u5,rfl,rF,dx⟩;obtain⟨a5,n5,c5,rfl⟩:∃ a n c,u5=.slice a n c:=by obtain⟨a,c,e,_⟩:=rF.at;exact⟨_,_,_,e⟩
 have wM:=aa rF;have lY:=aa (ae eQ.out dx);have Pk:=aa (af dx Im.out);have qE:=aa (qE.out.up up_int dx);have Az:=aa (Az.out.up up_int dx);have lZ:=aa (lZ.out.up up_int dx);have tb:=ab Pk.out;clear rF dx
 go_wp2_with fail
 clear tb;refine(HAW.out w5 lY.out).mono ?_;rintro r w6 ⟨rfl,gK⟩;have rN:=aa (ae lY.out gK);have qE:=aa (qE.out.up up_int gK);have Az:=aa (Az.out.up up_int gK);have lZ:=aa (lZ.out.up up_int gK);have wM:=aa (wM.out.up up_int gK);clear gK
 go_wp2_with fail
 refine(fS _ _ lv lv w6 qE.out Az.out).mono ?_;rintro r w7 ⟨rfl,sY⟩;rw[Hy];have WD:=aa (ae rN.out sY);have lZ:=aa (lZ.out.up up_int sY);have wM:=aa (wM.out.up up_int sY);clear sY
 go_wp2_with fail
 refine(fS _ _ lc lc w7 lZ.out wM.out).mono ?_;rintro r w8 ⟨rfl,z'⟩;rw[Hy];have Wc:=aa (ae WD.out z');clear z'
 go_wp2_with fail
 go_ret
 exact⟨rfl,Wc.out⟩
end Go.Proofs.YtmeaoneaephjeaaGreatDoor
