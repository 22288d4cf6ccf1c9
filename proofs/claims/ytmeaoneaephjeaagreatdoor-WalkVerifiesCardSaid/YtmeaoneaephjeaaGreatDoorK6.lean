/-
  A part of the proof: lemmas and contracts that the parts behind it use. Each one's conditions are its own premises.
-/
import Derived.Laws.Tables
import Derived.Laws.CopyOwn
import Derived.Test.YtmeaoneaephjeaaGreatDoorK5
set_option maxRecDepth 100000
set_option maxHeartbeats 8000000
set_option linter.unusedVariables false
set_option linter.unusedSimpArgs false
namespace Go.Proofs.YtmeaoneaephjeaaGreatDoor
open Go.RowKit Go Go.Shelf
theorem G8{t:Tk} {c:Cs} (h:c.out.length<1\/1024<c.out.length):vectorsE t c=5:=by unfold vectorsE;rw[if_pos h]
theorem xX{t:Tk} {c:Cs} (h:¬ (c.out.length<1\/1024<c.out.length)) (k:Nat) (e:Int) (hk:k<c.out.length) (hj:∀ j,j<k->iY t c j=0) (he:iY t c k=e) (h0:e≠0):e=vectorsE t c:=by
 unfold vectorsE;rw[if_neg h,<-bH k e hk hj he h0,if_pos h0]
theorem FY{t:Tk} {c:Cs} (h:¬ (c.out.length<1\/1024<c.out.length)) (ho:∀ j,j<c.out.length->iY t c j=0):vectorsE t c=a8 c.calm.length (iP c):=by
 unfold vectorsE;rw[if_neg h,cH _ _ ho];simp
theorem N'{t:Tk} {c:Cs} {j:Nat} (hj:j+1<c.out.length) (h1:vectorE c.out[j+1] t.n t.outs=0):iY t c (j+1)=if 0<=ordV (c.out[j]'(by omega)) c.out[j+1] then 14 else 0:=by
 unfold iY unordB;rw[ap [] hj,h1,Nat.add_sub_cancel,ap [] (show j<c.out.length by omega)];simp
theorem Oa{t:Tk} {c:Cs} (hj:0<c.out.length) (h1:vectorE c.out[0] t.n t.outs=0):iY t c 0=0:=by
 unfold iY unordB;rw[ap [] hj,h1];simp
theorem LP{c:Cs} {j:Nat} (hj:j+1<c.calm.length) (h1:hasV c.out c.calm[j+1]=true):iP c (j+1)=if 0<=ordV (c.calm[j]'(by omega)) c.calm[j+1] then 14 else 0:=by
 unfold iP unordB;rw[ap [] hj,h1,Nat.add_sub_cancel,ap [] (show j<c.calm.length by omega)];simp
theorem LQ{c:Cs} (hj:0<c.calm.length) (h1:hasV c.out c.calm[0]=true):iP c 0=0:=by
 unfold iP unordB;rw[ap [] hj,h1];simp
theorem QO{c:Cs} {k:Nat} (hk:k<c.calm.length) (h1:hasV c.out c.calm[k]=false):iP c k=6:=by
 unfold iP;rw[ap [] hk,h1];simp
theorem QP(t:Tk) (vc:Value) (k:Nat) (az:k<t.cases.length) (w:World) (hv:bK w vc t.cases) :
  Calls Tryz.prog 154 #[.agg #[.int .i64 t.n,.int .i64 t.ins,.int .i64 t.outs,vc],.int .i64 k] w fun e w'=>e=.returned (.int .i64 (eH t k))/\Below w.heap.size w w':=by
 obtain⟨pc,cc,rfl,l1,m1,e1⟩:=hv.at;clear hv;have E:=aa e1;clear e1;obtain⟨b1,o1,rfl,⟨x0,cx0,cS⟩,⟨x1,cx1,dj⟩,⟨x2,cx2,dU⟩⟩:=E.out k az;have yZ:=aa cS;have km:=aa dj;have fB:=aa dU;obtain⟨p1,q1,rfl,u1,v1,E1⟩:=dj.at;obtain⟨p2,q2,rfl,u2,v2,E2⟩:=dU.at;obtain⟨p0,q0,rfl,_⟩:=cS;have lQ:=aa E1;have kx:=aa E2;clear dj dU E1 E2
 have HO:Hid (eH t k=if vectorE t.cases[k].inp t.n t.ins≠0 then vectorE t.cases[k].inp t.n t.ins else if 0<k/\0<=ordV (t.cases.getD (k - 1) default).inp t.cases[k].inp then 14 else vectorsE t t.cases[k]):=by
  have h:eH t k=if vectorE t.cases[k].inp t.n t.ins≠0 then vectorE t.cases[k].inp t.n t.ins else if 0<k/\0<=ordV (t.cases.getD (k - 1) default).inp t.cases[k].inp then 14 else vectorsE t t.cases[k]:=by unfold eH;rw[ap default az]
  exact h
 have Ww:b1<w.heap.size:=fj cx0;have hlb':b1<w.heap.size+1:=by omega
 go_enter Tryz.func154,Tryz.ntmps154
 go_wp2_with fail
 refine aL (fun V=>Below w.heap.size w V/\V.heap[w.heap.size]?=some (.cells #[.int .i64 t.n,.int .i64 t.ins,.int .i64 t.outs,.slice (some ⟨b1,o1,none⟩) t.cases.length cc] 24)/\V.heap[w.heap.size+1]?=some (.cells #[.slice p0 t.cases[k].inp.length q0,.slice p1 t.cases[k].out.length q1,.slice p2 t.cases[k].calm.length q2] 135)) ⟨by go_grown,am _ (ak _ _),by simpa using ak (w.alloc _) _⟩ (fun V hV=>?_);obtain⟨qB,hT,hC⟩:=hV;have HT:=aa hT;have HC:=aa hC;have t1:=ab hT;have t2:=ab hC;clear hT hC cx1 cx2;refine(Ab _ _ _ _ _ (yZ.out.up up_int qB)).mono ?_;rintro e V' ⟨rfl,rfl⟩;generalize vectorE t.cases[k].inp t.n t.ins=ev at HO;by_cases lR:ev=0
 case neg=>
  have hev':(ev != 0)=true:=by simpa using lR
  go_wp2_with fail
  go_ret
  exact⟨aA (by rw[HO.out,if_pos lR]),qB⟩
 subst lR
 go_wp2_with fail
 clear t1 t2;by_cases eT:k=0
 case' pos=>
  have eU:Hid (eH t k=vectorsE t t.cases[k]):=by(have h:eH t k=vectorsE t t.cases[k]:=by(rw[HO.out,if_neg (by simp),if_neg (by omega)]));exact h
  have hd:decide ((0:Int)<(k:Int))=false:=decide_eq_false (by omega);have fS:decide (0<k)=false:=decide_eq_false (by omega);clear HO eT cx0;refine aB (by kernel_rfl) (by kernel_rfl) ?_
  repeat (go_big_quiet_step (fail))
  refine wpQuiet_nil ?_;intro _ dY;obtain⟨xq,cZ⟩:=dY;subst cZ;clear hd fS
 case' neg=>
  obtain⟨j,hj⟩:∃ j,k=j+1:=⟨k - 1,by omega⟩;have gR:j<t.cases.length:=by omega
  have HJ:=aa hj;obtain⟨b2,o2,e2,⟨y0,cy0,iV⟩,_⟩:=E.out j gR;obtain⟨rfl,rfl⟩:b1=b2/\o1=o2:=by simpa using e2
  clear e2;have hd:decide ((0:Int)<(k:Int))=true:=decide_eq_true (by omega);have fS:0<k:=by omega
  have gm:Hid (eH t k=if 0<=ordV t.cases[j].inp t.cases[k].inp then 14 else vectorsE t t.cases[k]):=by
   have h:eH t k=if 0<=ordV t.cases[j].inp t.cases[k].inp then 14 else vectorsE t t.cases[k]:=by
    rw[HO.out,if_neg (by simp)];have e:k - 1=j:=by omega
    rw[e,ap default gR]
    grind
   exact h
  clear HO eT hj;have jn:IntKind.i64.wrap ((k:Int) - 1)=(j:Int):=by rw[HJ.out];rw[IntWalk.i64_in _ (by omega)];omega
  have r1:∀ x:ExtW V,∀ o,x.val.cell? ⟨w.heap.size,o,none⟩=_:=fun x=>ab (af x.ext HT.out)
  have r2:∀ x:ExtW V,∀ o,x.val.cell? ⟨w.heap.size+1,o,none⟩=_:=fun x=>ab (af x.ext HC.out)
  have r3:∀ x:ExtW V,x.val.cell? ⟨b1,o1+j * 3,none⟩=some y0:=fun x=>x.cell (ai qB cy0)
  have bO:=aa (fun x:ExtW V=>Calls.ext_of (lh _ _ _ _ x.val (iV.up up_int (ae qB x.ext)) (yZ.out.up up_int (ae qB x.ext))));clear iV cy0 cx0;generalize ordV t.cases[j].inp t.cases[k].inp=oo at bO gm;refine aB (by kernel_rfl) (by kernel_rfl) ?_
  repeat (go_big_quiet_step ((go_at_call 132;exact bO.out _)))
  refine wpQuiet_nil ?_;intro _ dY;obtain⟨xq,cZ⟩:=dY;subst cZ;clear r1 r2 r3 hd fS jn;by_cases qA:0<=oo
  ·go_wp2_with fail
   go_ret
   exact⟨aA (by rw[gm.out,if_pos qA]),ae qB xq.ext⟩
  have eU:Hid (eH t k=vectorsE t t.cases[k]):=by(have h:eH t k=vectorsE t t.cases[k]:=by(rw[gm.out,if_neg qA]));exact h
  clear gm HJ bO
 all_goals
  have FD:=ae qB xq.ext;have dO:=FD;have Fp:=af xq.ext HT.out;have SW:=af xq.ext HC.out;clear FD HT HC;generalize xq.val=W5 at dO Fp SW ⊢;clear xq qB;have HT:=aa Fp;have HC:=aa SW;have t1:=ab Fp;have t2:=ab SW;clear Fp SW;by_cases KT:t.cases[k].out.length<1\/1024<t.cases[k].out.length
  ·have HR:=aa (G8 (t:=t) KT)
   rcases KT with KT|KT
   ·go_wp2_with fail
    go_ret
    exact⟨aA (by rw[eU.out,HR.out]),dO⟩
   ·have hou':¬ t.cases[k].out.length<1:=by omega
    go_wp2_with fail
    go_ret
    exact⟨aA (by rw[eU.out,HR.out]),dO⟩
  have Xv:=aa KT;have ho1:¬ t.cases[k].out.length<1:=by omega
  have rh:¬ 1024<t.cases[k].out.length:=by omega
  clear KT
  go_wp2_with fail
  clear t1 t2 ho1 rh
  go_loopw [7] (fun i wr=>Below W5.heap.size W5 wr/\∃ m:Nat,m<=t.cases[k].out.length/\i=.int .i64 m/\∀ j,j<m->iY t t.cases[k] j=0) (fun i _=>t.cases[k].out.length - (intOf i).toNat)
  case atStart=>exact⟨Below.refl _ _,0,by omega,rfl,by simp⟩
  case round=>
   obtain⟨Bg,m,hm,rfl,aS⟩:=hrel;have HM:=aa aS;clear aS;have aq:=ae dO Bg;have t1:=ab (af Bg HT.out);have t2:=ab (af Bg HC.out);by_cases lC:m<t.cases[k].out.length
   ·obtain⟨b3,o3,rfl,y,cy,hy⟩:=lQ.out m lC
    rw[Nat.mul_one]at cy;have HY:=aa hy
    go_wp2_with fail
    clear t1 t2;have r1:∀ x:ExtW wr,∀ o,x.val.cell? ⟨w.heap.size,o,none⟩=_:=fun x=>ab (af (ae Bg x.ext) HT.out)
    have r2:∀ x:ExtW wr,∀ o,x.val.cell? ⟨w.heap.size+1,o,none⟩=_:=fun x=>ab (af (ae Bg x.ext) HC.out)
    have r3:∀ x:ExtW wr,x.val.cell? ⟨b3,o3+m,none⟩=some y:=fun x=>x.cell (ai aq cy)
    have bO:=aa (fun x:ExtW wr=>Calls.ext_of ((Ab _ _ t.n t.outs x.val (HY.out.up up_int (ae aq x.ext))).mono (fun _ _ ⟨h1,h2⟩=>⟨h1,h2 ▸ Below.refl _ _⟩)));have HZ:=aa (fun (h:vectorE t.cases[k].out[m] t.n t.outs≠0)=>show iY t t.cases[k] m=vectorE t.cases[k].out[m] t.n t.outs by unfold iY;rw[ap [] lC,if_pos h]);generalize mE:vectorE t.cases[k].out[m] t.n t.outs=em at bO HZ;have zb:=aa mE;clear mE hy;have cyy:=cy;clear cy;refine aB (by kernel_rfl) (by kernel_rfl) ?_
    repeat (go_big_quiet_step ((go_at_call 185;exact bO.out _)))
    refine wpQuiet_nil ?_;intro _ dY;obtain⟨xs,cZ⟩:=dY;subst cZ;clear r1 r2 r3 bO;have MV:=ae Bg xs.ext;have Ea:=ae aq xs.ext;by_cases uV:em=0
    case neg=>
     have hem':(em != 0)=true:=by simpa using uV
     go_wp2_with fail
     go_ret
     exact⟨aA (by rw[eU.out];exact xX Xv.out m em lC HM.out (HZ.out uV) uV),Ea⟩
    subst uV
    go_wp2_with fail
    by_cases uW:m=0
    ·subst uW
     have yI:=aa (Oa lC zb.out);refine aB (by kernel_rfl) (by kernel_rfl) ?_
     repeat (go_big_quiet_step (fail))
     refine wpQuiet_nil ?_;intro _ dY;obtain⟨xt,cZ⟩:=dY;subst cZ
     go_wp2_with fail
     go_roundw
     case rel=>exact⟨ae MV xt.ext,1,by omega,by go_num,aT HM.out yI.out⟩
     case measure=>simp[intOf];omega
    ·obtain⟨j,rfl⟩:∃ j,m=j+1:=⟨m - 1,by omega⟩
     have yI:=aa (N' lC zb.out);obtain⟨b4,o4,e4,z,cz,hz⟩:=lQ.out j (by omega);obtain⟨rfl,rfl⟩:b3=b4/\o3=o4:=by simpa using e4
     rw[Nat.mul_one]at cz;have r1:∀ x:ExtW xs.val,∀ o,x.val.cell? ⟨w.heap.size,o,none⟩=_:=fun x=>ab (af (ae MV x.ext) HT.out)
     have r2:∀ x:ExtW xs.val,∀ o,x.val.cell? ⟨w.heap.size+1,o,none⟩=_:=fun x=>ab (af (ae MV x.ext) HC.out)
     have r3:∀ x:ExtW xs.val,x.val.cell? ⟨b3,o3+(j+1),none⟩=some y:=fun x=>x.cell (ai Ea cyy)
     have r4:∀ x:ExtW xs.val,x.val.cell? ⟨b3,o3+j,none⟩=some z:=fun x=>x.cell (ai Ea cz)
     have bO:=aa (fun x:ExtW xs.val=>Calls.ext_of (lh _ _ _ _ x.val (hz.up up_int (ae Ea x.ext)) (HY.out.up up_int (ae Ea x.ext))));have Tj:IntKind.i64.wrap (j:Int)=(j:Int):=IntWalk.i64_in _ (by omega);have nC:decide ((0:Int)<(j:Int)+1)=true:=decide_eq_true (by omega);have xl:(0:Int)<=(j:Int)+1:=by omega
     have Fb:(j:Int)+1<(t.cases[k].out.length:Int):=by omega
     have Ay:((j:Int)+1).toNat=j+1:=by omega
     generalize ordV t.cases[k].out[j] t.cases[k].out[j+1]=oo at bO yI;clear e4 hz cz cyy uW;refine aB (by kernel_rfl) (by kernel_rfl) ?_
     repeat (go_big_quiet_step ((go_at_call 132;exact bO.out _)))
     refine wpQuiet_nil ?_;intro _ dY;obtain⟨xt,cZ⟩:=dY;subst cZ;clear r1 r2 r3 r4 Tj nC xl Fb Ay;by_cases qA:0<=oo
     ·go_wp2_with fail
      go_ret
      exact⟨aA (by rw[eU.out];exact xX Xv.out (j+1) 14 lC HM.out (by rw[yI.out,if_pos qA]) (by decide)),ae Ea xt.ext⟩
     ·go_wp2_with fail
      go_roundw
      case rel=>exact⟨ae MV xt.ext,j+1+1,by omega,by go_num,aT HM.out (by rw[yI.out,if_neg (by omega)])⟩
      case measure=>simp[intOf];omega
   ·have ly:=aa (eU.out.trans (FY Xv.out (fun j hj=>HM.out j (by omega))))
    go_wp2_with fail
    clear t1 t2
    go_loopw [9] (fun i ws=>Below wr.heap.size wr ws/\∃ q:Nat,q<=t.cases[k].calm.length/\i=.int .i64 q/\∀ j,j<q->iP t.cases[k] j=0) (fun i _=>t.cases[k].calm.length - (intOf i).toNat)
    case atStart=>exact⟨Below.refl _ _,0,by omega,rfl,by simp⟩
    case round=>
     obtain⟨lG,q,hq,rfl,aS⟩:=hrel;have HQ:=aa aS;clear aS;have rt:=ae Bg lG;have gM:=ae aq lG
     rename World=>ws
     have t2:=ab (af rt HC.out);by_cases nL:q<t.cases[k].calm.length
     ·obtain⟨b6,o6,rfl,y,cy,hy⟩:=kx.out q nL
      rw[Nat.mul_one]at cy;have HY:=aa hy
      go_wp2_with fail
      clear t2;have r2:∀ x:ExtW ws,∀ o,x.val.cell? ⟨w.heap.size+1,o,none⟩=_:=fun x=>ab (af (ae rt x.ext) HC.out)
      have r3:∀ x:ExtW ws,x.val.cell? ⟨b6,o6+q,none⟩=some y:=fun x=>x.cell (ai gM cy)
      have bO:=aa (fun x:ExtW ws=>Calls.ext_of (Ez _ _ t.cases[k].out _ x.val (km.out.up up_ints (ae gM x.ext)) (HY.out.up up_int (ae gM x.ext))));cases mE:hasV t.cases[k].out t.cases[k].calm[q] with
      | false=>
       rw[mE]at bO;have HZ:=aa (QO nL mE);clear mE hy cy;refine aB (by kernel_rfl) (by kernel_rfl) ?_
       repeat (go_big_quiet_step ((go_at_call 81;exact bO.out _)))
       refine wpQuiet_nil ?_;intro _ dY;obtain⟨xu,cZ⟩:=dY;subst cZ;clear r2 r3 bO
       go_wp2_with fail
       go_ret
       exact⟨aA (by rw[ly.out];exact bH q 6 nL HQ.out HZ.out (by decide)),ae gM xu.ext⟩
      | true=>
       rw[mE]at bO;have zb:=aa mE;clear mE hy;have cyy:=cy;clear cy;refine aB (by kernel_rfl) (by kernel_rfl) ?_
       repeat (go_big_quiet_step ((go_at_call 81;exact bO.out _)))
       refine wpQuiet_nil ?_;intro _ dY;obtain⟨xs,cZ⟩:=dY;subst cZ;clear r2 r3 bO;have hbs6:=ae lG xs.ext;have hbs6':=ae rt xs.ext;have Jd:=ae gM xs.ext
       go_wp2_with fail
       by_cases uW:q=0
       ·subst uW
        have yI:=aa (LQ nL zb.out);refine aB (by kernel_rfl) (by kernel_rfl) ?_
        repeat (go_big_quiet_step (fail))
        refine wpQuiet_nil ?_;intro _ dY;obtain⟨xt,cZ⟩:=dY;subst cZ
        go_wp2_with fail
        go_roundw
        case rel=>exact⟨ae hbs6 xt.ext,1,by omega,by go_num,aT HQ.out yI.out⟩
        case measure=>simp[intOf];omega
       ·obtain⟨j,rfl⟩:∃ j,q=j+1:=⟨q - 1,by omega⟩
        have yI:=aa (LP nL zb.out);obtain⟨b4,o4,e4,z,cz,hz⟩:=kx.out j (by omega);obtain⟨rfl,rfl⟩:b6=b4/\o6=o4:=by simpa using e4
        rw[Nat.mul_one]at cz;have r2:∀ x:ExtW xs.val,∀ o,x.val.cell? ⟨w.heap.size+1,o,none⟩=_:=fun x=>ab (af (ae hbs6' x.ext) HC.out)
        have r3:∀ x:ExtW xs.val,x.val.cell? ⟨b6,o6+(j+1),none⟩=some y:=fun x=>x.cell (ai Jd cyy)
        have r4:∀ x:ExtW xs.val,x.val.cell? ⟨b6,o6+j,none⟩=some z:=fun x=>x.cell (ai Jd cz)
        have bO:=aa (fun x:ExtW xs.val=>Calls.ext_of (lh _ _ _ _ x.val (hz.up up_int (ae Jd x.ext)) (HY.out.up up_int (ae Jd x.ext))));have Tj:IntKind.i64.wrap (j:Int)=(j:Int):=IntWalk.i64_in _ (by omega);have nC:decide ((0:Int)<(j:Int)+1)=true:=decide_eq_true (by omega);have xl:(0:Int)<=(j:Int)+1:=by omega
        have Fb:(j:Int)+1<(t.cases[k].calm.length:Int):=by omega
        have Ay:((j:Int)+1).toNat=j+1:=by omega
        generalize ordV t.cases[k].calm[j] t.cases[k].calm[j+1]=oo at bO yI;clear e4 hz cz cyy uW;refine aB (by kernel_rfl) (by kernel_rfl) ?_
        repeat (go_big_quiet_step ((go_at_call 132;exact bO.out _)))
        refine wpQuiet_nil ?_;intro _ dY;obtain⟨xt,cZ⟩:=dY;subst cZ;clear r2 r3 r4 Tj nC xl Fb Ay;by_cases qA:0<=oo
        ·go_wp2_with fail
         go_ret
         exact⟨aA (by rw[ly.out];exact bH (j+1) 14 nL HQ.out (by rw[yI.out,if_pos qA]) (by decide)),ae Jd xt.ext⟩
        ·go_wp2_with fail
         go_roundw
         case rel=>exact⟨ae hbs6 xt.ext,j+1+1,by omega,by go_num,aT HQ.out (by rw[yI.out,if_neg (by omega)])⟩
         case measure=>simp[intOf];omega
     ·go_wp2_with fail
      go_ret
      exact⟨aA (by rw[ly.out,cH];intro j hj;exact HQ.out j (by omega)),gM⟩
theorem DA(t:Tk) (vc:Value) (w:World) (hv:bK w vc t.cases) :
  Calls Tryz.prog 114 #[.agg #[.int .i64 t.n,.int .i64 t.ins,.int .i64 t.outs,vc]] w fun e w'=>e=.returned (.int .i64 (taskE t))/\Below w.heap.size w w':=by
 have G:=aa hv;obtain⟨pc,cc,rfl,l1,m1,_⟩:=hv.at;clear hv;by_cases c0:t.n<1
 ·have HR:Hid (taskE t=2):=by(have h:taskE t=2:=by(unfold taskE;rw[if_pos (by omega)]));exact h
  go_enter Tryz.func114,Tryz.ntmps114
  go_wp2
  go_ret
  exact⟨aA HR.out.symm,by go_grown⟩
 by_cases c1:5<t.n
 ·have HR:Hid (taskE t=2):=by(have h:taskE t=2:=by(unfold taskE;rw[if_pos (by omega)]));exact h
  go_enter Tryz.func114,Tryz.ntmps114
  go_wp2
  go_ret
  exact⟨aA HR.out.symm,by go_grown⟩
 by_cases c2:t.ins<1
 ·have HR:Hid (taskE t=2):=by(have h:taskE t=2:=by(unfold taskE;rw[if_pos (by omega)]));exact h
  go_enter Tryz.func114,Tryz.ntmps114
  go_wp2
  go_ret
  exact⟨aA HR.out.symm,by go_grown⟩
 by_cases c3:8<t.ins
 ·have HR:Hid (taskE t=2):=by(have h:taskE t=2:=by(unfold taskE;rw[if_pos (by omega)]));exact h
  go_enter Tryz.func114,Tryz.ntmps114
  go_wp2
  go_ret
  exact⟨aA HR.out.symm,by go_grown⟩
 by_cases c4:t.outs<1
 ·have HR:Hid (taskE t=2):=by(have h:taskE t=2:=by(unfold taskE;rw[if_pos (by omega)]));exact h
  go_enter Tryz.func114,Tryz.ntmps114
  go_wp2
  go_ret
  exact⟨aA HR.out.symm,by go_grown⟩
 by_cases c5:8<t.outs
 ·have HR:Hid (taskE t=2):=by(have h:taskE t=2:=by(unfold taskE;rw[if_pos (by omega)]));exact h
  go_enter Tryz.func114,Tryz.ntmps114
  go_wp2
  go_ret
  exact⟨aA HR.out.symm,by go_grown⟩
 by_cases d0:t.cases.length<1
 ·have HR:Hid (taskE t=5):=by(have h:taskE t=5:=by(unfold taskE;rw[if_neg (by omega),if_pos (by omega)]));exact h
  go_enter Tryz.func114,Tryz.ntmps114
  go_wp2
  go_ret
  exact⟨aA HR.out.symm,by go_grown⟩
 by_cases d1:1024<t.cases.length
 ·have HR:Hid (taskE t=5):=by(have h:taskE t=5:=by(unfold taskE;rw[if_neg (by omega),if_pos (by omega)]));exact h
  go_enter Tryz.func114,Tryz.ntmps114
  go_wp2
  go_ret
  exact⟨aA HR.out.symm,by go_grown⟩
 have HV:Hid (taskE t=a8 t.cases.length (eH t)):=by(have h:taskE t=a8 t.cases.length (eH t):=by(unfold taskE;rw[if_neg (by omega),if_neg (by omega)]));exact h
 go_enter Tryz.func114,Tryz.ntmps114
 go_wp2
 refine bj (fun W=>Below w.heap.size w W/\W.heap[w.heap.size]?=some (.cells #[.int .i64 t.n,.int .i64 t.ins,.int .i64 t.outs,.slice pc t.cases.length cc] 24)) ⟨by go_grown,ak _ _⟩ (fun W0 aW=>?_);obtain⟨aC,br⟩:=aW;have HA:=aa br;clear br c0 c1 c2 c3 c4 c5 d0 d1
 go_loopw [3] (fun i wr=>Below W0.heap.size W0 wr/\∃ k:Nat,k<=t.cases.length/\i=.int .i64 k/\∀ j,j<k->eH t j=0) (fun i _=>t.cases.length - (intOf i).toNat)
 case atStart=>exact⟨Below.refl _ _,0,by omega,rfl,by simp⟩
 case round=>
  obtain⟨iM,k,hk,rfl,aS⟩:=hrel;have H:=aa aS;clear aS;have aq:=ae aC iM;have t1:=ab (af iM HA.out);by_cases az:k<t.cases.length
  ·have HC:=aa (QP t _ k az wr (G.out.up up_case aq))
   generalize mE:eH t k=ek at HC;have zb:=aa mE;clear mE;by_cases sS:ek=0
   ·subst sS
    go_wp2_with fail
    refine HC.out.mono ?_;rintro e w1 ⟨rfl,aG⟩
    go_wp2_with fail
    go_roundw
    case rel=>exact⟨ae iM aG,k+1,by omega,by go_num,aT H.out zb.out⟩
    case measure=>simp[intOf];omega
   ·have Sn:(ek != 0)=true:=by simpa using sS
    go_wp2_with fail
    refine HC.out.mono ?_;rintro e w1 ⟨rfl,aG⟩
    go_wp2_with fail
    go_ret
    exact⟨aA (by rw[HV.out];exact bH k ek az H.out zb.out sS),ae aq aG⟩
  ·go_wp2
   go_ret
   exact⟨aA (by rw[HV.out,cH];intro j hj;exact H.out j (by omega)),aq⟩
def fewVB(l:List (List Int)):Bool:=!decide (30<l.length)&&!anyLt l.length fun i=>decide (10<(l.getD i []).length)
theorem rX(v:Value) (l:List (List Int)) (w:World) (hv:dR w v l) :
  Calls Tryz.prog 112 #[v,.int .i64 30] w fun e w'=>e=.returned (.bool (fewVB l))/\w=w':=by
 obtain⟨pa,ca,rfl,la1,la2,ea⟩:=hv.at;clear hv;have EA:=aa ea;clear ea;by_cases hl:30<l.length
 ·have HV:Hid (fewVB l=false):=by(have h:fewVB l=false:=by(unfold fewVB;simp[hl]));exact h
  go_enter Tryz.func112,Tryz.ntmps112
  go_wp2
  go_ret
  exact⟨aN HV.out.symm,rfl⟩
 ·have HV:Hid (fewVB l=!anyLt l.length fun i=>decide (10<(l.getD i []).length)):=by(have h:fewVB l=!anyLt l.length fun i=>decide (10<(l.getD i []).length):=by(unfold fewVB;rw[decide_eq_false hl];rfl));exact h
  go_enter Tryz.func112,Tryz.ntmps112
  go_wp2
  go_loop [5] (fun i=>∃ k:Nat,k<=l.length/\i=.int .i64 k/\∀ j,j<k->decide (10<(l.getD j []).length)=false) (fun i=>l.length - (intOf i).toNat)
  case atStart=>exact⟨0,by omega,rfl,by simp⟩
  case round=>
   obtain⟨k,hk,rfl,aS⟩:=hrel;have H:=aa aS;clear aS;by_cases az:k<l.length
   ·obtain⟨b1,o1,rfl,x,cx,hx⟩:=EA.out k az
    rw[Nat.mul_one]at cx;have HX:=aa (ap [] az);obtain⟨px,qx,rfl,_,dU,_⟩:=hx;generalize l[k]=y at cx HX dU;by_cases CQ:10<y.length
    ·go_wp2
     go_ret
     exact⟨aN (by rw[HV.out,dV _ k _ az (by rw[HX.out];exact decide_eq_true CQ)];rfl),rfl⟩
    ·go_wp2
     go_round
     case rel=>exact⟨k+1,by omega,by go_num,aT H.out (by rw[HX.out];exact decide_eq_false (by omega))⟩
     case measure=>simp[intOf];omega
   ·go_wp2
    go_ret
    exact⟨aN (by rw[HV.out,eD];rfl;intro j hj;exact H.out j (by omega)),rfl⟩
def G9(c:Cs):Bool:=decide (10<c.inp.length) || !fewVB c.out || !fewVB c.calm
def fewTB(t:Tk):Bool:=!decide (30<t.cases.length)&&!anyLt t.cases.length fun i=>G9 (t.cases.getD i default)
theorem G'(t:Tk) (vc:Value) (w:World) (hv:bK w vc t.cases) :
  Calls Tryz.prog 69 #[.agg #[.int .i64 t.n,.int .i64 t.ins,.int .i64 t.outs,vc]] w fun e w'=>e=.returned (.bool (fewTB t))/\Below w.heap.size w w':=by
 obtain⟨pc,cc,rfl,l1,m1,e1⟩:=hv.at;clear hv;have E:=aa e1;clear e1;by_cases hl:30<t.cases.length
 ·have HV:Hid (fewTB t=false):=by(have h:fewTB t=false:=by(unfold fewTB;simp[hl]));exact h
  go_enter Tryz.func69,Tryz.ntmps69
  go_wp2
  go_ret
  exact⟨aN HV.out.symm,by go_grown⟩
 ·have HV:Hid (fewTB t=!anyLt t.cases.length fun i=>G9 (t.cases.getD i default)):=by(have h:fewTB t=!anyLt t.cases.length fun i=>G9 (t.cases.getD i default):=by(unfold fewTB;rw[decide_eq_false hl];rfl));exact h
  go_enter Tryz.func69,Tryz.ntmps69
  go_wp2
  refine bj (fun W=>Below w.heap.size w W/\W.heap[w.heap.size]?=some (.cells #[.int .i64 t.n,.int .i64 t.ins,.int .i64 t.outs,.slice pc t.cases.length cc] 24)) ⟨by go_grown,ak _ _⟩ (fun W0 aW=>?_);obtain⟨aC,br⟩:=aW;have HA:=aa br;clear br hl
  go_loopw [3] (fun i wr=>Below W0.heap.size W0 wr/\∃ k:Nat,k<=t.cases.length/\i=.int .i64 k/\∀ j,j<k->G9 (t.cases.getD j default)=false) (fun i _=>t.cases.length - (intOf i).toNat)
  case atStart=>exact⟨Below.refl _ _,0,by omega,rfl,by simp⟩
  case round=>
   obtain⟨iM,k,hk,rfl,aS⟩:=hrel;have H:=aa aS;clear aS;have aq:=ae aC iM;have t1:=ab (af iM HA.out);by_cases az:k<t.cases.length
   ·obtain⟨b1,o1,rfl,⟨x0,cx0,cS⟩,⟨x1,cx1,dj⟩,⟨x2,cx2,dU⟩⟩:=E.out k az
    have d0:=ai aq cx0;have d1:=ai aq cx1;have d2:=ai aq cx2;have HX:=aa (ap default az);have si:=aa (fun W (hb:Below w.heap.size w W)=>rX _ _ W (dj.up up_ints hb));have lA:=aa (fun W (hb:Below w.heap.size w W)=>rX _ _ W (dU.up up_ints hb));obtain⟨p0,q0,rfl,_,h0l,_⟩:=cS;obtain⟨p1,q1,rfl,_⟩:=dj;obtain⟨p2,q2,rfl,_⟩:=dU;have eK:=ar (af iM HA.out);clear cx0 cx1 cx2;have HB:Hid (G9 t.cases[k]=(decide (10<t.cases[k].inp.length) || !fewVB t.cases[k].out || !fewVB t.cases[k].calm)):=by exact rfl
    generalize fewVB t.cases[k].out=f1 at si HB;generalize fewVB t.cases[k].calm=f2 at lA HB;have su:Below wr.heap.size wr (wr.alloc (.cells #[.slice p0 t.cases[k].inp.length q0,.slice p1 t.cases[k].out.length q1,.slice p2 t.cases[k].calm.length q2] 135)):=by go_grown
    have yY:=ae aq su;have Ig:=aa su;clear su;by_cases CQ:10<t.cases[k].inp.length
    ·go_wp2_with fail
     go_ret
     exact⟨aN (by rw[HV.out,dV _ k _ az (by rw[HX.out,HB.out,decide_eq_true CQ];rfl)];rfl),yY⟩
    ·have RV:Hid (decide (10<t.cases[k].inp.length)=false):=by(have h:=decide_eq_false CQ);exact h
     cases f1 with
     | false=>
      go_wp2_with fail
      refine(si.out _ yY).mono ?_;rintro e w1 ⟨rfl,rfl⟩
      go_wp2_with fail
      go_ret
      exact⟨aN (by rw[HV.out,dV _ k _ az (by rw[HX.out,HB.out,RV.out];rfl)];rfl),yY⟩
     | true=>
      cases f2 with
      | false=>
       go_wp2_with fail
       refine(si.out _ yY).mono ?_;rintro e w1 ⟨rfl,rfl⟩
       go_wp2_with fail
       refine(lA.out _ yY).mono ?_;rintro e w1 ⟨rfl,rfl⟩
       go_wp2_with fail
       go_ret
       exact⟨aN (by rw[HV.out,dV _ k _ az (by rw[HX.out,HB.out,RV.out];rfl)];rfl),yY⟩
      | true=>
       go_wp2_with fail
       refine(si.out _ yY).mono ?_;rintro e w1 ⟨rfl,rfl⟩
       go_wp2_with fail
       refine(lA.out _ yY).mono ?_;rintro e w1 ⟨rfl,rfl⟩
       go_wp2_with fail
       go_roundw
       case rel=>exact⟨ae iM Ig.out,k+1,by omega,by go_num,aT H.out (by rw[HX.out,HB.out,RV.out];rfl)⟩
       case measure=>simp[intOf];omega
   ·go_wp2
    go_ret
    exact⟨aN (by rw[HV.out,eD];rfl;intro j hj;exact H.out j (by omega)),aq⟩
abbrev Gr.c(g:Gr):Array Value:=#[.int .i64 g.n,.int .i64 g.h0,.int .i64 g.h1,.int .i64 g.h2,.int .i64 g.h3,.int .i64 g.h4]
theorem BX(g:Gr) (w:World) :
  Calls Tryz.prog 208 #[g.v] w fun e w'=>e=.returned (.int .i64 (gH g))/\Below w.heap.size w w':=by
 by_cases hn:g.n<1\/5<g.n
 ·have H:Hid (gH g=2):=by(have h:gH g=2:=by(unfold gH;rw[if_pos hn]));exact h
  rcases hn with hn|hn
  ·go_enter Tryz.func208,Tryz.ntmps208
   go_wp2
   go_ret;exact⟨aA H.out.symm,by go_grown⟩
  ·have ze:¬ g.n<1:=by omega
   go_enter Tryz.func208,Tryz.ntmps208
   go_wp2
   go_ret;exact⟨aA H.out.symm,by go_grown⟩
 have kG:1<=g.n:=by omega
 have nU:g.n<=5:=by omega
 have HE:Hid (gH g=a8 5 fun p=>lY g.n (g.hear p) p):=by(have h:gH g=a8 5 fun p=>lY g.n (g.hear p) p:=by(unfold gH;rw[if_neg hn]));exact h
 clear hn;have hn3:¬ g.n<1:=by omega
 have hn4:¬ 5<g.n:=by omega
 go_enter Tryz.func208,Tryz.ntmps208
 go_wp2
 refine bj (fun W=>Below w.heap.size w W/\W.heap[w.heap.size]?=some (.cells g.c 139)) ⟨by go_grown,ak _ _⟩ (fun W0 aW=>?_);obtain⟨aC,hA⟩:=aW;have HA:=aa hA;have t1:=ab hA 0;simp at t1;clear hA
 go_loop [3] (fun i=>∃ k:Nat,k<=5/\i=.int .i64 k/\∀ j,j<k->lY g.n (g.hear j) j=0) (fun i=>5 - (intOf i).toNat)
 case atStart=>exact⟨0,by omega,rfl,by simp⟩
 case round=>
  obtain⟨k,hk,rfl,aS⟩:=hrel;have H:=aa aS;clear aS;by_cases az:k<5
  ·have hx:=mr g k az W0 _ HA.out
   obtain⟨x,nP⟩:∃ x,x=g.hear k:=⟨_,rfl⟩;rw[<-nP]at hx;have HX:=aa nP;clear nP;obtain⟨m,hm⟩:∃ m:Nat,g.n=m:=⟨g.n.toNat,by omega⟩;have hp:=zn m (by omega);have HC:=aa (fun w=>Er m (by omega) w)
   have HV:Hid (lY g.n x k=if (m:Int)<=k then(if x≠0 then 3 else 0) else if x<0\/2 ^ m - 1<x then 2 else if hasB x k then 0 else 3):=by
    have h:lY g.n x k=if (m:Int)<=k then(if x≠0 then 3 else 0) else if x<0\/2 ^ m - 1<x then 2 else if hasB x k then 0 else 3:=by
     unfold lY;rw[hm,Int.toNat_natCast]
    exact h
   rw[hm]at t1;rw[hm]at kG nU;have HM:=aa hm;generalize (2:Int) ^ m=y at hp HC HV;clear hm hn3 hn4;by_cases gL:(m:Int)<=k
   ·go_wp2
    ·go_ret
     refine⟨aA ?_,aC⟩;rw[HE.out]
     go_light
     refine bH k _ az H.out ?_ (by decide);rw[<-HX.out,HV.out]
     grind
    ·go_round
     case rel=>
      refine⟨k+1,by omega,by go_num,aT H.out ?_⟩
      go_light
      rw[<-HX.out,HV.out]
      grind
     case measure=>simp[intOf];omega
   ·by_cases nP:x<0\/y - 1<x
    ·have hq:∀ z,z=2->z=gH g:=fun z hz=>by
      subst hz;rw[HE.out];refine bH k _ az H.out ?_ (by decide);rw[<-HX.out,HV.out,if_neg gL,if_pos nP]
     have HQ:=aa hq;clear hq;rcases nP with nP|nP
     ·go_wp2
      go_ret
      exact⟨aA (HQ.out _ rfl),aC⟩
     ·have cS:¬ x<0:=by omega
      go_wp2_with (go_at_call 60;refine(HC.out _).mono ?_;rintro e w' ⟨rfl,rfl⟩)
      go_ret
      exact⟨aA (HQ.out _ rfl),aC⟩
    ·have cS:¬ x<0:=by omega
     have dj:¬ y - 1<x:=by omega
     have lA:=aa (fun w=>jX x k (by omega) (by omega) (by omega) w);cases hb:hasB x k with
     | true=>
      rw[hb]at lA HV;have Wk:=aa nP;clear hb nP
      go_wp2_with (first|(go_at_call 60;refine(HC.out _).mono ?_;rintro e w' ⟨rfl,rfl⟩)|(go_at_call 47;refine(lA.out _).mono ?_;rintro e w' ⟨rfl,rfl⟩))
      go_round
      case rel=>
       refine⟨k+1,by omega,by go_num,aT H.out ?_⟩;rw[<-HX.out,HV.out,if_neg (by omega),if_neg (by omega)];rfl
      case measure=>simp[intOf];omega
     | false=>
      rw[hb]at lA HV;have Wk:=aa nP;clear hb nP
      go_wp2_with (first|(go_at_call 60;refine(HC.out _).mono ?_;rintro e w' ⟨rfl,rfl⟩)|(go_at_call 47;refine(lA.out _).mono ?_;rintro e w' ⟨rfl,rfl⟩))
      go_ret
      refine⟨aA ?_,aC⟩;rw[HE.out];refine bH k _ az H.out ?_ (by decide);rw[<-HX.out,HV.out,if_neg (by omega),if_neg (by omega)];rfl
  ·go_wp2
   go_ret;exact⟨aA (by rw[HE.out,cH];intro j hj;exact H.out j (by omega)),aC⟩
theorem Ob{a b:Gr} (h:a.n<b.n):eZ a b=-1:=by unfold eZ cmpI;grind
theorem Oc{a b:Gr} (h:b.n<a.n):eZ a b=1:=by unfold eZ cmpI;grind
theorem Od{a b:Gr} (h:a.n=b.n):eZ a b=a8 5 fun p=>cmpI (a.hear p) (b.hear p):=by unfold eZ;rw[h,ph];simp
theorem zH(a b:Gr) (w:World) :
  Calls Tryz.prog 210 #[a.v,b.v] w fun e w'=>e=.returned (.int .i64 (eZ a b))/\Below w.heap.size w w':=by
 rcases Int.lt_trichotomy a.n b.n with hn|hn|hn
 ·have H:=aa (Ob hn)
  go_enter Tryz.func210,Tryz.ntmps210
  go_wp2
  go_ret;exact⟨aA H.out.symm,by go_grown⟩
 ·have HC:=aa (Od hn)
  have h1:¬ a.n<b.n:=by omega
  have h2:¬ b.n<a.n:=by omega
  clear hn
  go_enter Tryz.func210,Tryz.ntmps210
  go_wp2
  refine bj (fun W=>Below w.heap.size w W/\W.heap[w.heap.size]?=some (.cells a.c 139)/\W.heap[w.heap.size+1]?=some (.cells b.c 139))
   ⟨by go_grown,am _ (ak _ _),by have:=ak (w.alloc (.cells a.c 139));rw[World.size_alloc]at this;exact this _⟩ (fun W0 aW=>?_)
  obtain⟨aC,hA,hB⟩:=aW;have HA:=aa hA;clear hA;have HB:=aa hB;clear hB;clear h1 h2
  go_loopw [5] (fun i wr=>Below W0.heap.size W0 wr/\∃ k:Nat,k<=5/\i=.int .i64 k/\∀ j,j<k->cmpI (a.hear j) (b.hear j)=0) (fun i _=>5 - (intOf i).toNat)
  case atStart=>exact⟨Below.refl _ _,0,by omega,rfl,by simp⟩
  case round=>
   obtain⟨aq,k,hk,rfl,aS⟩:=hrel;have H:=aa aS;clear aS;by_cases az:k<5
   ·have c1:∀ n,(wr.drewN n).cell? ⟨w.heap.size,1+k,none⟩=some (.int .i64 (a.hear k)):=fun n=>mr a k az wr _ (af aq HA.out)
    have c2:∀ n,(wr.drewN n).cell? ⟨w.heap.size+1,1+k,none⟩=some (.int .i64 (b.hear k)):=fun n=>mr b k az wr _ (af aq HB.out)
    have HV:Hid (cmpI (a.hear k) (b.hear k)=if a.hear k<b.hear k then -1 else if b.hear k<a.hear k then 1 else 0):=by exact rfl
    generalize hx:a.hear k=x at c1 HV;generalize hy:b.hear k=y at c2 HV;have HX:=aa hx;clear hx;have HY:=aa hy;clear hy;rcases Int.lt_trichotomy x y with hn|hn|hn
    ·go_wp2
     go_quiet (fail)
     go_wp2
     go_ret
     refine⟨aA ?_,dZ (ae aC aq) _⟩;rw[HC.out];refine bH k _ az H.out ?_ (by decide);rw[HX.out,HY.out,HV.out,if_pos hn]
    ·have h1:¬ x<y:=by omega
     have h2:¬ y<x:=by omega
     clear hn
     go_wp2
     go_quiet (fail)
     go_wp2
     have c3:∀ m n,((wr.drewN m).drewN n).cell? ⟨w.heap.size,1+k,none⟩=some (.int .i64 x):=fun m n=>c1 m
     have c4:∀ m n,((wr.drewN m).drewN n).cell? ⟨w.heap.size+1,1+k,none⟩=some (.int .i64 y):=fun m n=>c2 m
     go_quiet (fail)
     go_wp2
     go_roundw
     case rel=>
      refine⟨dZ aq _,k+1,by omega,by go_num,aT H.out ?_⟩;rw[HX.out,HY.out,HV.out,if_neg (by omega),if_neg (by omega)]
     case measure=>simp[intOf];omega
    ·have h1:¬ x<y:=by omega
     go_wp2
     go_quiet (fail)
     go_wp2
     have c3:∀ m n,((wr.drewN m).drewN n).cell? ⟨w.heap.size,1+k,none⟩=some (.int .i64 x):=fun m n=>c1 m
     have c4:∀ m n,((wr.drewN m).drewN n).cell? ⟨w.heap.size+1,1+k,none⟩=some (.int .i64 y):=fun m n=>c2 m
     go_quiet (fail)
     go_wp2
     go_ret
     refine⟨aA ?_,dZ (dZ (ae aC aq) _) _⟩;rw[HC.out];refine bH k _ az H.out ?_ (by decide);rw[HX.out,HY.out,HV.out,if_neg (by omega),if_pos hn]
   ·go_wp2
    go_ret;exact⟨aA (by rw[HC.out,cH];intro j hj;exact H.out j (by omega)),ae aC aq⟩
 ·have H:=aa (Oc hn)
  have h1:¬ a.n<b.n:=by omega
  go_enter Tryz.func210,Tryz.ntmps210
  go_wp2
  go_ret;exact⟨aA H.out.symm,by go_grown⟩
theorem BY(r:Rd) (w:World) :
  Calls Tryz.prog 186 #[r.v] w fun e w'=>e=.returned (.int .i64 (roundE r))/\Below w.heap.size w w':=by
 obtain⟨⟨n,h0,h1,h2,h3,h4⟩,f⟩:=r
 go_enter Tryz.func186,Tryz.ntmps186
 go_wp2_with (first
  | (go_at_call 208;refine(BX ⟨_,_,_,_,_,_⟩ _).mono ?_;rintro e w1 ⟨rfl,hb⟩;obtain⟨hc,hf⟩:=Lj hb)
  | (go_at_call 209;refine(FS _ _ _).mono ?_;rintro e w2 ⟨rfl,rfl⟩))
 all_goals
  go_ret
  refine⟨aA ?_,?_⟩
  ·go_light
   unfold roundE
   grind
  ·exact ae (by go_grown) hb
theorem zI(a b:Rd) (w:World) :
  Calls Tryz.prog 187 #[a.v,b.v] w fun e w'=>e=.returned (.int .i64 (roundC a b))/\Below w.heap.size w w':=by
 obtain⟨⟨n,h0,h1,h2,h3,h4⟩,f⟩:=a;obtain⟨⟨m,g0,g1,g2,g3,g4⟩,g⟩:=b
 go_enter Tryz.func187,Tryz.ntmps187
 go_wp2_with (first
  | (go_at_call 210;refine(zH ⟨_,_,_,_,_,_⟩ ⟨_,_,_,_,_,_⟩ _).mono ?_;rintro e w1 ⟨rfl,hb⟩;obtain⟨hc,hf⟩:=Lj hb))
 all_goals
  go_ret
  refine⟨aA ?_,?_⟩
  ·go_light
   unfold roundC cmpI
   grind
  ·exact ae (by go_grown) hb
theorem BZ(n:Int) (v:Value) (l:List (List Mv)) (w:World) (hv:bk w v l) (hN:movesN l<2305843009213693952) :
  Calls Tryz.prog 113 #[.agg #[.int .i64 n,v]] w fun e w'=>e=.returned (.int .i64 (movesN l))/\Below w.heap.size w w':=by
 obtain⟨pa,ca,rfl,la1,la2,ea⟩:=hv.at;clear hv;have EA:=aa ea;clear ea
 go_enter Tryz.func113,Tryz.ntmps113
 go_wp2
 refine bj (fun W=>Below w.heap.size w W/\W.heap[w.heap.size]?=some (.cells #[.int .i64 n,.slice pa l.length ca] 27)) ⟨by go_grown,ak _ _⟩ (fun W0 aW=>?_);obtain⟨aC,br⟩:=aW;have t1:=ab br 1;simp at t1;clear br
 go_loop [3,4] (fun o i=>∃ k:Nat,k<=l.length/\i=.int .i64 k/\o=.int .i64 (cnt l k)) (fun _ i=>l.length - (intOf i).toNat)
 case atStart=>exact⟨0,by omega,rfl,by rw[oh];rfl⟩
 case round=>
  obtain⟨k,hk,rfl,rfl⟩:=hrel;by_cases az:k<l.length
  ·obtain⟨b1,o1,rfl,x,cx,hx⟩:=EA.out k az
   rw[Nat.mul_one]at cx;have c1:=ai aC cx;have bU:=Gl l k az;have nq:=aa (ol l k az);obtain⟨px,qx,rfl,_⟩:=hx;clear cx;generalize cnt l k=c at bU nq
   go_wp2
   go_round
   case rel=>exact⟨k+1,by omega,by go_num,by rw[nq.out];go_num⟩
   case measure=>simp[intOf];omega
  ·go_wp2
   go_ret
   exact⟨aA (by rw[ud l k (by omega)]),aC⟩
theorem Oe(a:Adv) (ps:Option Addr) (cs:Nat) (vl:Value) (l:List Mv) (k:Nat) (az:k<l.length) (w:World) (hv:og w vl l) :
  Calls Tryz.prog 155 #[.agg #[.int .i64 a.n,.slice ps a.states.length cs],vl,.int .i64 k] w fun e w'=>e=.returned (.int .i64 (dG a l k))/\Below w.heap.size w w':=by
 obtain⟨pc,cc,rfl,l1,m1,e1⟩:=hv.at;clear hv;have E:=aa e1;clear e1;obtain⟨b1,o1,rfl,⟨⟨c0,_⟩,⟨c1,_⟩,⟨c2,_⟩,⟨c3,_⟩,⟨c4,_⟩,⟨c5,_⟩,⟨c6,_⟩⟩,⟨c7,hc7⟩⟩:=E.out k az;have Ww:b1<w.heap.size:=fj c0;have hlb':b1<w.heap.size+1:=by omega
 have HO:Hid (dG a l k=if roundE l[k].r≠0 then roundE l[k].r else if l[k].r.g.n≠a.n then 22 else if 0<k/\0<=roundC (l.getD (k - 1) default).r l[k].r then 14 else if l[k].to<0\/(a.states.length:Int)<=l[k].to then 2 else 0):=by
  have h:dG a l k=if roundE l[k].r≠0 then roundE l[k].r else if l[k].r.g.n≠a.n then 22 else if 0<k/\0<=roundC (l.getD (k - 1) default).r l[k].r then 14 else if l[k].to<0\/(a.states.length:Int)<=l[k].to then 2 else 0:=by unfold dG;rw[ap default az]
  exact h
 have IN:=c7;generalize l[k]=m at c0 c1 c2 c3 c4 c5 c6 c7 hc7 HO IN;have HC7:=aa IN;clear IN
 go_enter Tryz.func155,Tryz.ntmps155
 go_wp2_with fail
 refine aL (fun V=>Below w.heap.size w V/\V.heap[w.heap.size]?=some (.cells #[.int .i64 a.n,.slice ps a.states.length cs] 27)/\V.heap[w.heap.size+1]?=some (.cells #[.int .i64 m.r.g.n,.int .i64 m.r.g.h0,.int .i64 m.r.g.h1,.int .i64 m.r.g.h2,.int .i64 m.r.g.h3,.int .i64 m.r.g.h4,.int .i64 m.r.f] 141)) ⟨by go_grown,am _ (ak _ _),by simpa using ak (w.alloc _) _⟩ (fun V hV=>?_);obtain⟨qB,hT,hC⟩:=hV;have HT:=aa hT;have HC:=aa hC;clear hT hC c0 c1 c2 c3 c4 c5 c6 c7;refine(BY m.r V).mono ?_;rintro e w1 ⟨rfl,aG⟩;have iS:=ae qB aG;have s1:=ab (af aG HT.out);have s2:=ab (af aG HC.out);generalize roundE m.r=er at HO;by_cases Fq:er=0
 case neg=>
  have her':(er != 0)=true:=by simpa using Fq
  go_wp2_with fail
  go_ret
  exact⟨aA (by rw[HO.out,if_pos Fq]),iS⟩
 subst Fq;by_cases uY:m.r.g.n=a.n
 case neg=>
  have Iu:(m.r.g.n != a.n)=true:=by simpa using uY
  go_wp2_with fail
  go_ret
  exact⟨aA (by rw[HO.out,if_neg (by simp),if_pos uY]),iS⟩
 have Iu:(m.r.g.n != a.n)=false:=by simpa using uY
 have gm:Hid (dG a l k=if 0<k/\0<=roundC (l.getD (k - 1) default).r m.r then 14 else if m.to<0\/(a.states.length:Int)<=m.to then 2 else 0):=by
  have h:dG a l k=if 0<k/\0<=roundC (l.getD (k - 1) default).r m.r then 14 else if m.to<0\/(a.states.length:Int)<=m.to then 2 else 0:=by rw[HO.out,if_neg (by simp),if_neg (by simpa using uY)]
  exact h
 clear HO uY
 go_wp2_with fail
 clear Iu s1 s2;by_cases eT:k=0
 case' pos=>
  have eU:Hid (dG a l k=if m.to<0\/(a.states.length:Int)<=m.to then 2 else 0):=by(have h:dG a l k=if m.to<0\/(a.states.length:Int)<=m.to then 2 else 0:=by(rw[gm.out,if_neg (by omega)]));exact h
  have hd:decide ((0:Int)<(k:Int))=false:=decide_eq_false (by omega);have fS:decide (0<k)=false:=decide_eq_false (by omega);clear gm eT;refine aB (by kernel_rfl) (by kernel_rfl) ?_
  repeat (go_big_quiet_step (fail))
  refine wpQuiet_nil ?_;intro _ dY;obtain⟨xq,cZ⟩:=dY;subst cZ;clear hd fS
 case' neg=>
  obtain⟨j,hj⟩:∃ j,k=j+1:=⟨k - 1,by omega⟩;have gR:j<l.length:=by omega
  have HJ:=aa hj;obtain⟨b2,o2,e2,⟨⟨c0,_⟩,⟨c1,_⟩,⟨c2,_⟩,⟨c3,_⟩,⟨c4,_⟩,⟨c5,_⟩,⟨c6,_⟩⟩,_⟩:=E.out j gR;obtain⟨rfl,rfl⟩:b1=b2/\o1=o2:=by simpa using e2
  clear e2;have hd:decide ((0:Int)<(k:Int))=true:=decide_eq_true (by omega);have fS:0<k:=by omega
  have ly:Hid (dG a l k=if 0<=roundC l[j].r m.r then 14 else if m.to<0\/(a.states.length:Int)<=m.to then 2 else 0):=by
   have h:dG a l k=if 0<=roundC l[j].r m.r then 14 else if m.to<0\/(a.states.length:Int)<=m.to then 2 else 0:=by
    rw[gm.out];have e:k - 1=j:=by omega
    rw[e,ap default gR]
    grind
   exact h
  clear gm eT hj;have jn:IntKind.i64.wrap ((k:Int) - 1)=(j:Int):=by rw[HJ.out];rw[IntWalk.i64_in _ (by omega)];omega
  generalize l[j]=m2 at c0 c1 c2 c3 c4 c5 c6 ly;have r1:∀ x:ExtW w1,∀ o,x.val.cell? ⟨w.heap.size,o,none⟩=_:=fun x=>ab (af (ae aG x.ext) HT.out)
  have r2:∀ x:ExtW w1,∀ o,x.val.cell? ⟨w.heap.size+1,o,none⟩=_:=fun x=>ab (af (ae aG x.ext) HC.out)
  have k0:∀ x:ExtW w1,x.val.cell? _=_:=fun x=>x.cell (ai iS c0)
  have k1:∀ x:ExtW w1,x.val.cell? _=_:=fun x=>x.cell (ai iS c1)
  have k2:∀ x:ExtW w1,x.val.cell? _=_:=fun x=>x.cell (ai iS c2)
  have k3:∀ x:ExtW w1,x.val.cell? _=_:=fun x=>x.cell (ai iS c3)
  have k4:∀ x:ExtW w1,x.val.cell? _=_:=fun x=>x.cell (ai iS c4)
  have k5:∀ x:ExtW w1,x.val.cell? _=_:=fun x=>x.cell (ai iS c5)
  have k6:∀ x:ExtW w1,x.val.cell? _=_:=fun x=>x.cell (ai iS c6)
  clear c0 c1 c2 c3 c4 c5 c6;refine aB (by kernel_rfl) (by kernel_rfl) ?_
  repeat (go_big_quiet_step ((go_at_call 187;exact Calls.ext_of (zI m2.r m.r _))))
  refine wpQuiet_nil ?_;intro _ dY;obtain⟨xq,cZ⟩:=dY;subst cZ;clear r1 r2 k0 k1 k2 k3 k4 k5 k6 hd fS jn;generalize roundC m2.r m.r=oo at ly;by_cases qA:0<=oo
  ·go_wp2_with fail
   go_ret
   exact⟨aA (by rw[ly.out,if_pos qA]),ae iS xq.ext⟩
  have eU:Hid (dG a l k=if m.to<0\/(a.states.length:Int)<=m.to then 2 else 0):=by(have h:dG a l k=if m.to<0\/(a.states.length:Int)<=m.to then 2 else 0:=by(rw[ly.out,if_neg qA]));exact h
  clear ly HJ
 all_goals
  have dO:=ae iS xq.ext;have Fp:=af (ae aG xq.ext) HT.out;generalize xq.val=W5 at dO Fp ⊢;have r1:∀ n o,(W5.drewN n).cell? ⟨w.heap.size,o,none⟩=_:=fun n=>ab Fp
  have r7:∀ n,(W5.drewN n).cell? _=_:=fun n=>ai dO HC7.out
  clear Fp;by_cases ht:m.to<0
  ·go_wp2_with fail
   go_quiet (fail)
   go_wp2_with fail
   go_ret
   exact⟨aA (by rw[eU.out,if_pos (by omega)]),dZ dO _⟩
  ·have hd:decide (m.to<0)=false:=decide_eq_false ht
   go_wp2_with fail
   go_quiet (fail)
   go_wp2_with fail
   ·go_ret
    refine⟨aA ?_,dZ dO _⟩;rw[eU.out]
    go_light
    grind
   ·go_ret
    refine⟨aA ?_,dZ dO _⟩;rw[eU.out]
    go_light
    grind
theorem QQ(a:Adv) (s j:Nat) (hs:s<a.states.length) (hj:j<a.states[s].length) :
  oU a (cnt a.states s+j)=anyLt (a.states.getD a.states[s][j].to.toNat []).length fun k=>!iE a.states[s][j].r.f ((a.states.getD a.states[s][j].to.toNat []).getD k default).r.f:=by
 unfold oU mS;rw[zi _ s j hs hj]
theorem QR(a:Adv) (s j u:Nat) (hs:s<a.states.length) (hj:j<a.states[s].length) (hu:u<a.states.length) (h:a.states[s][j].to=u) :
  oU a (cnt a.states s+j)=anyLt a.states[u].length fun k=>!iE a.states[s][j].r.f (a.states[u].getD k default).r.f:=by
 rw[QQ a s j hs hj,h,Int.toNat_natCast,ap [] hu]
theorem LR(a:Adv) (v:Value) (w:World) (hv:bk w v a.states) (gg:∀ s,s<a.states.length->stateE a (a.states.getD s [])=0) :
  Calls Tryz.prog 156 #[.agg #[.int .i64 a.n,v]] w fun e w'=>e=.returned (.bool (growsB a))/\Below w.heap.size w w':=by
 obtain⟨pa,ca,rfl,la1,la2,ea⟩:=hv.at;clear hv;have EA:=aa ea;clear ea;have di:=aa gg;clear gg;have HV:Hid (growsB a=!anyLt (movesN a.states) (oU a)):=by exact rfl
 go_enter Tryz.func156,Tryz.ntmps156
 go_wp2
 refine bj (fun W=>Below w.heap.size w W/\W.heap[w.heap.size]?=some (.cells #[.int .i64 a.n,.slice pa a.states.length ca] 27)) ⟨by go_grown,ak _ _⟩ (fun W0 aW=>?_);obtain⟨aC,br⟩:=aW;have HA:=aa br;clear br
 go_loopw [3] (fun i wr=>Below W0.heap.size W0 wr/\∃ s:Nat,s<=a.states.length/\i=.int .i64 s/\∀ j,j<cnt a.states s->oU a j=false) (fun i _=>a.states.length - (intOf i).toNat)
 case atStart=>exact⟨Below.refl _ _,0,by omega,rfl,by rw[oh];simp⟩
 case round=>
  obtain⟨iM,s,hs,rfl,aS⟩:=hrel;have H:=aa aS;clear aS;have aq:=ae aC iM;have t1:=ab (af iM HA.out);by_cases az:s<a.states.length
  ·obtain⟨b1,o1,rfl,x,cx,hx⟩:=EA.out s az
   rw[Nat.mul_one]at cx;obtain⟨px,qx,rfl,x1,x2,ex⟩:=hx.at;have EX:=aa ex;have CX:=aa cx;have nq:=aa (ol a.states s az);have bU:=Gl a.states s az;clear hx cx ex
   go_wp2
   clear t1
   go_loopw [4] (fun i ws=>Below wr.heap.size wr ws/\∃ m:Nat,m<=a.states[s].length/\i=.int .i64 m/\∀ j,j<cnt a.states s+m->oU a j=false) (fun i _=>a.states[s].length - (intOf i).toNat)
   case atStart=>exact⟨Below.refl _ _,0,by omega,rfl,by simpa using H.out⟩
   case round=>
    obtain⟨lG,m,hm,rfl,aS⟩:=hrel
    rename World=>ws
    have H2:=aa aS;clear aS;have rt:=ae iM lG;have gM:=ae aq lG;have t1:=ab (af rt HA.out);have c1:=ai gM CX.out;have eK:=ar (af rt HA.out);have aG:b1<ws.heap.size:=fj c1;by_cases lC:m<a.states[s].length
    ·obtain⟨b3,o3,rfl,⟨⟨d0,_⟩,⟨d1,_⟩,⟨d2,_⟩,⟨d3,_⟩,⟨d4,_⟩,⟨d5,_⟩,⟨d6,_⟩⟩,⟨d7,_⟩⟩:=EX.out m lC
     have hso:=kJ di.out az lC;obtain⟨u,hu⟩:∃ u:Nat,a.states[s][m].to=u:=⟨a.states[s][m].to.toNat,by omega⟩;have IM:u<a.states.length:=by omega
     have wM:=aa (QR a s m u az lC IM hu);rw[hu]at d7;have ez:=hso.1;obtain⟨b4,o4,e4,y,cy,hy⟩:=EA.out u IM;obtain⟨rfl,rfl⟩:b1=b4/\o1=o4:=by simpa using e4
     rw[Nat.mul_one]at cy;obtain⟨py,qy,rfl,y1,y2,ey⟩:=hy.at;have EY:=aa ey;have CY:=aa cy;have Px:=aa (fun j (hj:j<a.states[u].length)=>(kJ di.out IM hj).1);have g0:=ai gM d0;have g1:=ai gM d1;have g2:=ai gM d2;have g3:=ai gM d3;have g4:=ai gM d4;have g5:=ai gM d5;have g6:=ai gM d6;have g7:=ai gM d7;clear hu hso hy cy ey e4 d0 d1 d2 d3 d4 d5 d6 d7;generalize a.states[s][m]=mv at g0 g1 g2 g3 g4 g5 g6 wM ez
     go_wp2
     refine bj (fun W=>Below ws.heap.size ws W/\W.heap[ws.heap.size]?=some (.cells #[.int .i64 mv.r.g.n,.int .i64 mv.r.g.h0,.int .i64 mv.r.g.h1,.int .i64 mv.r.g.h2,.int .i64 mv.r.g.h3,.int .i64 mv.r.g.h4,.int .i64 mv.r.f,.int .i64 u] 143)) ⟨by go_grown,ak _ _⟩ (fun W6 yV=>?_);obtain⟨gx,hM6⟩:=yV;have HM6:=aa hM6;clear hM6 g0 g1 g2 g3 g4 g5 g6 g7 t1 c1 eK aG
     go_loopw [6] (fun i wt=>Below W6.heap.size W6 wt/\∃ q:Nat,q<=a.states[u].length/\i=.int .i64 q/\∀ j,j<q->(!iE mv.r.f (a.states[u].getD j default).r.f)=false) (fun i _=>a.states[u].length - (intOf i).toNat)
     case atStart=>exact⟨Below.refl _ _,0,by omega,rfl,by simp⟩
     case round=>
      obtain⟨tP,q,hq,rfl,aS⟩:=hrel
      rename World=>wt
      have H3:=aa aS;clear aS;have RK:=ae gx tP;have hbt5:=ae rt RK;have sP:=ae gM RK;have t1:=ab (af hbt5 HA.out);have t2:=ab (af tP HM6.out);have c2:=ai sP CY.out;by_cases nL:q<a.states[u].length
      ·obtain⟨b5,o5,rfl,⟨_,_,_,_,_,_,⟨f6,_⟩⟩,_⟩:=EY.out q nL
       have sA:=Px.out q nL;have dz:=aa (ap default nL);generalize a.states[u][q]=nx at f6 sA dz;have bO:=aa (fun x:ExtW wt=>Calls.ext_of ((JK mv.r.f nx.r.f (by omega) (by omega) x.val).mono (fun _ _ ⟨h1,h2⟩=>⟨h1,h2 ▸ Below.refl _ _⟩)))
       go_wp2_with fail
       have r1:∀ x:ExtW wt,∀ o,x.val.cell? ⟨w.heap.size,o,none⟩=_:=fun x=>ab (af (ae hbt5 x.ext) HA.out)
       have r2:∀ x:ExtW wt,∀ o,x.val.cell? ⟨ws.heap.size,o,none⟩=_:=fun x=>ab (af (ae tP x.ext) HM6.out)
       have r3:∀ x:ExtW wt,x.val.cell? ⟨b1,o1+u,none⟩=_:=fun x=>x.cell c2
       have r4:∀ x:ExtW wt,x.val.cell? _=_:=fun x=>x.cell (ai sP f6)
       clear t1 t2 c2 f6;cases cP:iE mv.r.f nx.r.f with
       | false=>
        rw[cP]at bO;have gu:=aa cP;clear cP;refine aB (by kernel_rfl) (by kernel_rfl) ?_
        repeat (go_big_quiet_step ((go_at_call 188;exact bO.out _)))
        refine wpQuiet_nil ?_;intro _ dY;obtain⟨xq,cZ⟩:=dY;subst cZ;clear r1 r2 r3 r4 bO
        go_wp2_with fail
        go_ret
        refine⟨aN ?_,ae sP xq.ext⟩;rw[HV.out,dV _ (cnt a.states s+m) _ (by omega) (by rw[wM.out];exact dV _ q _ nL (by rw[dz.out,gu.out];rfl))];rfl
       | true=>
        rw[cP]at bO;have gu:=aa cP;clear cP;refine aB (by kernel_rfl) (by kernel_rfl) ?_
        repeat (go_big_quiet_step ((go_at_call 188;exact bO.out _)))
        refine wpQuiet_nil ?_;intro _ dY;obtain⟨xq,cZ⟩:=dY;subst cZ;clear r1 r2 r3 r4 bO
        go_wp2_with fail
        go_roundw
        case rel=>exact⟨ae tP xq.ext,q+1,by omega,by go_num,aT H3.out (by rw[dz.out,gu.out];rfl)⟩
        case measure=>simp[intOf];omega
      ·go_wp2_with fail
       go_roundw
       case rel=>
        refine⟨ae lG RK,m+1,by omega,by go_num,?_⟩;rw[<-Nat.add_assoc];refine aT H2.out ?_;rw[wM.out];exact eD _ _ fun j hj=>H3.out j (by omega)
       case measure=>simp[intOf];omega
    ·go_wp2_with fail
     go_roundw
     case rel=>
      refine⟨ae iM lG,s+1,by omega,by go_num,?_⟩;rw[nq.out];exact fun j hj=>H2.out j (by omega)
     case measure=>simp[intOf];omega
  ·go_wp2
   go_ret
   refine⟨aN ?_,aq⟩;rw[HV.out,eD]
   ·rfl
   ·intro j hj
    refine H.out j ?_;rw[ud _ _ (by omega)];exact hj
theorem FZ(a:Adv) (v:Value) (w:World) (hv:bk w v a.states) (hN:movesN a.states<2305843009213693952) :
  Calls Tryz.prog 115 #[.agg #[.int .i64 a.n,v]] w fun e w'=>e=.returned (.int .i64 (advE a))/\Below w.heap.size w w':=by
 have G:=aa hv;obtain⟨pa,ca,rfl,la1,la2,ea⟩:=hv.at;clear hv;have EA:=aa ea;clear ea;by_cases c0:a.n<1
 ·have HR:Hid (advE a=2):=by(have h:advE a=2:=by(unfold advE;rw[if_pos (by omega)]));exact h
  go_enter Tryz.func115,Tryz.ntmps115
  go_wp2
  go_ret
  exact⟨aA HR.out.symm,by go_grown⟩
 by_cases c1:5<a.n
 ·have HR:Hid (advE a=2):=by(have h:advE a=2:=by(unfold advE;rw[if_pos (by omega)]));exact h
  go_enter Tryz.func115,Tryz.ntmps115
  go_wp2
  go_ret
  exact⟨aA HR.out.symm,by go_grown⟩
 by_cases c2:a.states.length<1
 ·have HR:Hid (advE a=5):=by(have h:advE a=5:=by(unfold advE;rw[if_neg (by omega),if_pos (by omega)]));exact h
  go_enter Tryz.func115,Tryz.ntmps115
  go_wp2
  go_ret
  exact⟨aA HR.out.symm,by go_grown⟩
 by_cases c3:256<a.states.length
 ·have HR:Hid (advE a=5):=by(have h:advE a=5:=by(unfold advE;rw[if_neg (by omega),if_pos (by omega)]));exact h
  go_enter Tryz.func115,Tryz.ntmps115
  go_wp2
  go_ret
  exact⟨aA HR.out.symm,by go_grown⟩
 have HC:=aa (fun W (hb:Below w.heap.size w W)=>BZ a.n _ a.states W (G.out.up up_moves hb) hN)
 have HV:Hid (advE a=if 4096<movesN a.states then 5 else if a8 a.states.length (fun s=>stateE a (a.states.getD s []))≠0 then a8 a.states.length (fun s=>stateE a (a.states.getD s [])) else if growsB a then 0 else 21):=by
  have h:advE a=if 4096<movesN a.states then 5 else if a8 a.states.length (fun s=>stateE a (a.states.getD s []))≠0 then a8 a.states.length (fun s=>stateE a (a.states.getD s [])) else if growsB a then 0 else 21:=by
   unfold advE;rw[if_neg (by omega)];by_cases h4:4096<movesN a.states
   ·rw[if_pos (by omega),if_pos h4]
   ·rw[if_neg (by omega),if_neg h4]
  exact h
 generalize movesN a.states=mN at HC HV hN
 go_enter Tryz.func115,Tryz.ntmps115
 go_wp2_with fail
 refine aL (fun W=>Below w.heap.size w W/\W.heap[w.heap.size]?=some (.cells #[.int .i64 a.n,.slice pa a.states.length ca] 27)) ⟨by go_grown,ak _ _⟩ (fun W0 aW=>?_);obtain⟨aC,br⟩:=aW;refine(HC.out W0 aC).mono ?_;rintro e W1 ⟨rfl,aG⟩;have dq:=ae aC aG;have HA:=aa (af aG br);have t1:=ab HA.out;clear br HC;by_cases c4:4096<mN
 ·have HR:Hid (advE a=5):=by(have h:advE a=5:=by(rw[HV.out,if_pos c4]));exact h
  go_wp2_with fail
  go_ret
  exact⟨aA HR.out.symm,dq⟩
 have nK:Hid (advE a=if a8 a.states.length (fun s=>stateE a (a.states.getD s []))≠0 then a8 a.states.length (fun s=>stateE a (a.states.getD s [])) else if growsB a then 0 else 21):=by
  have h:advE a=if a8 a.states.length (fun s=>stateE a (a.states.getD s []))≠0 then a8 a.states.length (fun s=>stateE a (a.states.getD s [])) else if growsB a then 0 else 21:=by rw[HV.out,if_neg c4]
  exact h
 clear HV
 go_wp2_with fail
 clear t1 c0 c1 c2 c3 c4
 go_loopw [3] (fun i wr=>Below W1.heap.size W1 wr/\∃ s:Nat,s<=a.states.length/\i=.int .i64 s/\∀ j,j<s->stateE a (a.states.getD j [])=0) (fun i _=>a.states.length - (intOf i).toNat)
 case atStart=>exact⟨Below.refl _ _,0,by omega,rfl,by simp⟩
 case round=>
  obtain⟨iM,s,hs,rfl,aS⟩:=hrel;have H:=aa aS;clear aS;have aq:=ae dq iM;have t1:=ab (af iM HA.out);by_cases az:s<a.states.length
  ·obtain⟨b1,o1,rfl,x,cx,hx⟩:=EA.out s az
   rw[Nat.mul_one]at cx;have HX:=aa hx;obtain⟨px,qx,rfl,_⟩:=hx;have CX:=aa cx;have c1:=ai aq cx
   have HS:Hid (stateE a (a.states.getD s [])=if a.states[s].length=0 then 19 else a8 a.states[s].length (dG a a.states[s])):=by
    have h:stateE a (a.states.getD s [])=if a.states[s].length=0 then 19 else a8 a.states[s].length (dG a a.states[s]):=by rw[ap [] az];rfl
    exact h
   clear cx;by_cases h0:a.states[s].length=0
   ·have h0':((a.states[s].length:Int) == 0)=true:=by simp[h0]
    have Lc:(a.states[s].length == 0)=true:=by simp[h0]
    have HR:Hid (stateE a (a.states.getD s [])=19):=by(have h:stateE a (a.states.getD s [])=19:=by(rw[HS.out,if_pos h0]));exact h
    have H0:=aa h0;clear h0
    go_wp2_with fail
    go_ret
    exact⟨aA (by rw[nK.out,<-bH (f:=fun s=>stateE a (a.states.getD s [])) s 19 az H.out HR.out (by decide)];rfl),aq⟩
   ·have h0':((a.states[s].length:Int) == 0)=false:=beq_eq_false_iff_ne.2 (by omega)
    have Lc:(a.states[s].length == 0)=false:=beq_eq_false_iff_ne.2 (by omega);have HR:Hid (stateE a (a.states.getD s [])=a8 a.states[s].length (dG a a.states[s])):=by(have h:stateE a (a.states.getD s [])=a8 a.states[s].length (dG a a.states[s]):=by(rw[HS.out,if_neg h0]));exact h
    clear h0
    go_wp2_with fail
    clear t1 c1 h0' Lc
    go_loopw [4] (fun i ws=>Below wr.heap.size wr ws/\∃ m:Nat,m<=a.states[s].length/\i=.int .i64 m/\∀ j,j<m->dG a a.states[s] j=0) (fun i _=>a.states[s].length - (intOf i).toNat)
    case atStart=>exact⟨Below.refl _ _,0,by omega,rfl,by simp⟩
    case round=>
     obtain⟨lG,m,hm,rfl,aS⟩:=hrel
     rename World=>ws
     have H2:=aa aS;clear aS;have rt:=ae iM lG;have gM:=ae aq lG;have t1:=ab (af rt HA.out);have c1:=ai gM CX.out;by_cases lC:m<a.states[s].length
     ·have bO:=aa (fun x:ExtW ws=>Calls.ext_of (Oe a (some ⟨b1,o1,none⟩) ca _ a.states[s] m lC x.val (HX.out.up up_move (ae gM x.ext))))
      generalize mE:dG a a.states[s] m=em at bO;have zb:=aa mE;clear mE
      go_wp2_with fail
      have r1:∀ x:ExtW ws,∀ o,x.val.cell? ⟨w.heap.size,o,none⟩=_:=fun x=>ab (af (ae rt x.ext) HA.out)
      have r3:∀ x:ExtW ws,x.val.cell? _=_:=fun x=>x.cell c1
      clear t1 c1;refine aB (by kernel_rfl) (by kernel_rfl) ?_
      repeat (go_big_quiet_step ((go_at_call 155;exact bO.out _)))
      refine wpQuiet_nil ?_;intro _ dY;obtain⟨xq,cZ⟩:=dY;subst cZ;clear r1 r3 bO;by_cases uV:em=0
      ·subst uV
       go_wp2_with fail
       go_roundw
       case rel=>exact⟨ae lG xq.ext,m+1,by omega,by go_num,aT H2.out zb.out⟩
       case measure=>simp[intOf];omega
      ·have hem':(em != 0)=true:=by simpa using uV
       go_wp2_with fail
       go_ret
       refine⟨aA ?_,ae gM xq.ext⟩;have e1:em=stateE a (a.states.getD s []):=by rw[HR.out];exact bH m em lC H2.out zb.out uV
       rw[nK.out,<-bH (f:=fun s=>stateE a (a.states.getD s [])) s em az H.out e1.symm uV,if_pos uV]
     ·go_wp2_with fail
      go_roundw
      case rel=>exact⟨ae iM lG,s+1,by omega,by go_num,aT H.out (by rw[HR.out];exact cH _ _ fun j hj=>H2.out j (by omega))⟩
      case measure=>simp[intOf];omega
  ·have aP:∀ j,j<a.states.length->stateE a (a.states.getD j [])=0:=fun j hj=>H.out j (by omega)
   have cT:Hid (advE a=if growsB a then 0 else 21):=by
    have h:advE a=if growsB a then 0 else 21:=by rw[nK.out,cH _ _ aP];simp
    exact h
   have HG:=aa (LR a _ wr (G.out.up up_moves aq) aP);clear aP;generalize growsB a=gb at HG cT;cases gb with
   | true=>
    go_wp2_with fail
    refine HG.out.mono ?_;rintro e w2 ⟨rfl,aV⟩
    go_wp2_with fail
    go_ret
    exact⟨aA (by rw[cT.out];rfl),ae aq aV⟩
   | false=>
    go_wp2_with fail
    refine HG.out.mono ?_;rintro e w2 ⟨rfl,aV⟩
    go_wp2_with fail
    go_ret
    exact⟨aA (by rw[cT.out];rfl),ae aq aV⟩
def rY(a:Adv):Bool:=decide (a.states.length<=8)&&decide (movesN a.states<=40)
theorem Vg(l:List (List Mv)) (B:Nat) (h:∀ k (hk:k<l.length),l[k].length<=B):∀ k,k<=l.length->cnt l k<=k * B:=by
 intro k;induction k with
 | zero=>intro _;rw[oh];exact Nat.zero_le _
 | succ k ih=>
  intro hk;rw[ol l k (by omega),Nat.succ_mul];exact Nat.add_le_add (ih (by omega)) (h k (by omega))
theorem Of{w:World} {v:Value} {l:List (List Mv)} (hv:bk w v l):movesN l<=l.length * 17592186044416:=by
 obtain⟨pa,ca,rfl,la1,la2,ea⟩:=hv.at
 have:=Vg l 17592186044416 (fun k hk=>by
  obtain⟨b,o,_,x,_,hx⟩:=ea k hk;obtain⟨_,_,_,_,dU,_⟩:=hx
  exact dU) l.length (Nat.le_refl _)
 rwa [ud l _ (Nat.le_refl _)]at this
theorem JQ(a:Adv) (v:Value) (w:World) (hv:bk w v a.states) :
  Calls Tryz.prog 70 #[.agg #[.int .i64 a.n,v]] w fun e w'=>e=.returned (.bool (rY a))/\Below w.heap.size w w':=by
 have hN:=Of hv;have HV:Hid (rY a=(decide (a.states.length<=8)&&decide (movesN a.states<=40))):=by exact rfl
 by_cases h8:a.states.length<=8
 ·have HC:=aa (fun W (hb:Below w.heap.size w W)=>BZ a.n _ a.states W (hv.up up_moves hb) (by omega))
  obtain⟨pa,ca,rfl,_⟩:=hv;have H8:Hid (decide (a.states.length<=8)=true):=by(have h:=decide_eq_true h8);exact h
  generalize movesN a.states=mN at HC HV hN
  go_enter Tryz.func70,Tryz.ntmps70
  go_wp2_with fail
  refine(HC.out _ (by go_grown)).mono ?_;rintro e W1 ⟨rfl,aG⟩
  go_wp2_with fail
  go_ret
  refine⟨aN ?_,ae (by go_grown) aG⟩;rw[HV.out,H8.out];simp;omega
 ·have H8:Hid (decide (a.states.length<=8)=false):=by(have h:=decide_eq_false h8);exact h
  obtain⟨pa,ca,rfl,_⟩:=hv
  go_enter Tryz.func70,Tryz.ntmps70
  go_wp2_with fail
  go_ret
  exact⟨aN (by rw[HV.out,H8.out];rfl),by go_grown⟩
def rZ(c:List Int) (n:Int) (m:Mv):Int:=min (n+c.getD m.to.toNat 0) 4097
def rowN(c:List Int) (l:List Mv):Int:=l.foldl (rZ c) 0
def li(a:Adv) (c:List Int):List Int:=a.states.map (rowN c)
def ed(a:Adv):Nat->List Int
 | 0=>List.replicate a.states.length 1
 | k+1=>li a (ed a k)
def numberS(a:Adv) (k:Nat):Int:=(ed a k).getD 0 0
def Ha(c:List Int):Prop:=∀ x∈c,0<=x/\x<=4097
theorem DB{c:List Int} (h:Ha c) (i:Nat):0<=c.getD i 0/\c.getD i 0<=4097:=by
 by_cases hi:i<c.length
 ·rw[ap 0 hi];exact h _ (List.getElem_mem hi)
 ·rw[List.getD_eq_getElem?_getD,List.getElem?_eq_none (by omega)];simp
theorem QS{c:List Int} (h:Ha c) {n:Int} (hn:0<=n/\n<=4097) (m:Mv):0<=rZ c n m/\rZ c n m<=4097:=by
 have:=DB h m.to.toNat;unfold rZ;omega
theorem Uw{c:List Int} (h:Ha c) (l:List Mv):∀ n:Int,(0<=n/\n<=4097)->0<=l.foldl (rZ c) n/\l.foldl (rZ c) n<=4097:=by
 induction l with
 | nil=>intro n hn;exact hn
 | cons m r ih=>intro n hn;exact ih _ (QS h hn m)
theorem Kk{c:List Int} (h:Ha c) (l:List Mv):0<=rowN c l/\rowN c l<=4097:=Uw h l 0 (by omega)
theorem QT{c:List Int} (h:Ha c) (a:Adv):Ha (li a c):=fun x hx=>by
 obtain⟨l,_,rfl⟩:=List.mem_map.1 hx;exact Kk h l
theorem Hb(a:Adv) (k:Nat):Ha (ed a k):=by
 induction k with
 | zero=>intro x hx;rw[(List.mem_replicate.1 hx).2];omega
 | succ k ih=>exact QT ih a
theorem Og(a:Adv) (k:Nat):(ed a k).length=a.states.length:=by
 cases k with
 | zero=>simp[ed]
 | succ k=>simp[ed,li]
theorem Oh(c:List Int) (l:List Mv) (i:Nat) (hi:i<l.length):rowN c (l.take (i+1))=rZ c (rowN c (l.take i)) l[i]:=by
 unfold rowN;rw[List.take_succ_eq_append_getElem hi,List.foldl_append];rfl
theorem ED{w:World} {v:Value} {t:TypeId} (j:Nat) (u:Value) (hj:[v][j]?=some u):(w.alloc (.cells #[v] t)).cell? (Addr.add ⟨w.heap.size,0,none⟩ j)=some u:=by
 cases j with
 | zero=>simp at hj;subst hj;simp[Addr.add,ab (ak w _)]
 | succ j=>simp at hj
theorem Ux(P:Program) (ats:Array TypeId) (ty:TypeId) (x y:Int) (w:World):(Builtin.min_ ats ty #[.int .i64 x,.int .i64 y]).run P w=.ok (.int .i64 (min x y)) w:=by
 have h:(if y<x then y else x)=min x y:=by omega
 simp[Builtin.min_,Builtin.min2,h]
theorem DC(a:Adv) (v:Value) (n:Nat) (hn:n<=6) (w:World) (hv:bk w v a.states) (gg:∀ s,s<a.states.length->stateE a (a.states.getD s [])=0) (h1:1<=a.states.length/\a.states.length<=256) :
  Calls Tryz.prog 116 #[.agg #[.int .i64 a.n,v],.int .i64 n,.int .i64 4096] w fun e w'=>e=.returned (.int .i64 (numberS a n))/\Below w.heap.size w w':=by
 obtain⟨pa,ca,rfl,la1,la2,ea⟩:=hv.at;have EA:=aa ea;have di:=aa gg;clear hv ea gg;obtain⟨i0,hi,cf,bP,cj⟩:=info_parts Tryz.infoInt
 go_enter Tryz.func116,Tryz.ntmps116
 go_wp2
 refine bj (fun W=>Below w.heap.size w W/\W.heap[w.heap.size]?=some (.cells #[.int .i64 a.n,.slice pa a.states.length ca] 27)) ⟨by go_grown,ak _ _⟩ (fun W0 aW=>?_);obtain⟨aC,br⟩:=aW;have HA:=aa br;clear br
 go_loopw [7,8] (fun o i wr=>Below W0.heap.size W0 wr/\∃ k:Nat,k<=a.states.length/\i=.int .i64 k/\wr.ownsRow W0.heap.size 3 1 o k (List.replicate k (.int .i64 1))) (fun _ i _=>a.states.length - (intOf i).toNat)
 case atStart=>exact⟨Below.refl _ _,0,by omega,rfl,World.ownsRow_nil _ _ _ _⟩
 case round=>
  obtain⟨iM,k,hk,rfl,aX⟩:=hrel;have bL:=aa aX;obtain⟨ao,co,rfl,_⟩:=rJ aX;clear aX;have t1:=ab (af iM HA.out);by_cases az:k<a.states.length
  ·have hA:Below wr.heap.size wr (wr.alloc (.cells #[.int .i64 1] 3)):=by go_grown
   have df:=aa (oy bL.out hA);have bB:=aa (fun j u hj=>ED (w:=wr) (v:=.int .i64 1) (t:=3) j u hj);clear hA;have gM:=iM.size
   go_wp2_with (at_builtin;(refine wpList_append_own _ rfl (.tmp 21) (.tmp 22) 38 rfl W0.heap.size 3 i0 (.int .i64 0) 1 8 Tryz.underlying38 hi cf bP cj rfl (by decide) _ k (List.replicate k (.int .i64 1)) rfl df.out ⟨wr.heap.size,0,none⟩ 1 1 [.int .i64 1] rfl rfl bB.out (by simp[Value.oneCell']) (by unfold maxLen;omega) (by omega) (by simp;omega) ?_;intro v' w2 fx dk _))
   go_roundw
   case rel=>
    refine⟨Below.grown (w:=wr.alloc (.cells #[.int .i64 1] 3)) (iM.alloc gM _) dk (by simp;omega) (fun g hg=>(Dl bL.out g hg).1),k+1,by omega,by go_num,?_⟩;rw[List.replicate_succ'];exact fx
   case measure=>simp[intOf];omega
  ·obtain rfl:k=a.states.length:=by omega
   have cP:(List.replicate a.states.length (Value.int .i64 1))=(ed a 0).map (Value.int .i64):=by simp[ed]
   rw[cP]at bL;clear cP
   go_wp2
   clear t1
   go_loopw [7,9] (fun o i ws=>Below wr.heap.size wr ws/\∃ k:Nat,k<=n/\i=.int .i64 k/\ws.ownsRow W0.heap.size 3 1 o a.states.length ((ed a k).map (Value.int .i64))) (fun _ i _=>n - (intOf i).toNat)
   case atStart=>exact⟨Below.refl _ _,0,by omega,rfl,bL.out⟩
   case round=>
    obtain⟨lG,k,hk,rfl,aX⟩:=hrel
    rename World=>ws
    have HOWN2:=aa aX;have gM:=ae iM lG;obtain⟨ac,cc,rfl,_,_,_,_,eB⟩:=rJ aX;have Gh:=aa eB;clear aX eB;have O5:=aa (Og a k);have HIO:=aa (Hb a k);by_cases az:k<n
    ·have t1:=ab (af gM HA.out)
     go_wp2
     clear t1
     go_loopw [10,11] (fun o i wt=>Below ws.heap.size ws wt/\∃ s:Nat,s<=a.states.length/\i=.int .i64 s/\wt.ownsRow ws.heap.size 3 1 o s (((li a (ed a k)).take s).map (Value.int .i64))) (fun _ i _=>a.states.length - (intOf i).toNat)
     case atStart=>exact⟨Below.refl _ _,0,by omega,rfl,World.ownsRow_nil _ _ _ _⟩
     case round=>
      obtain⟨tP,s,hs,rfl,aX⟩:=hrel
      rename World=>wt
      have dX:=aa aX;have sP:=ae gM tP;have hbtw:=ae aC sP;obtain⟨an,cn,rfl,_⟩:=rJ aX;clear aX;have t1:=ab (af sP HA.out);by_cases V5:s<a.states.length
      ·obtain⟨b1,o1,rfl,x,cx,hx⟩:=EA.out s V5
       rw[Nat.mul_one]at cx;obtain⟨px,qx,rfl,x1,x2,ex⟩:=hx.at;have EX:=aa ex;have c1:=ai hbtw cx
       have dz:Hid ((li a (ed a k)).take (s+1)=(li a (ed a k)).take s++[rowN (ed a k) a.states[s]]):=by
        have h:(li a (ed a k)).take (s+1)=(li a (ed a k)).take s++[rowN (ed a k) a.states[s]]:=by
         rw[List.take_succ_eq_append_getElem (by simp[li];exact V5)];simp[li]
        exact h
       have Px:=aa (fun j (hj:j<a.states[s].length)=>(kJ di.out V5 hj).2);clear hx ex cx
       go_wp2
       go_loop [12,13] (fun o i=>∃ m:Nat,m<=a.states[s].length/\i=.int .i64 m/\o=.int .i64 (rowN (ed a k) (a.states[s].take m))) (fun _ i=>a.states[s].length - (intOf i).toNat)
       case atStart=>exact⟨0,by omega,rfl,by simp[rowN]⟩
       case round=>
        obtain⟨m,hm,rfl,rfl⟩:=hrel;have VT:=Kk HIO.out (a.states[s].take m);by_cases lC:m<a.states[s].length
        ·obtain⟨b3,o3,rfl,_,⟨d7,_⟩⟩:=EX.out m lC
         have od:=Px.out m lC;obtain⟨u,hu⟩:∃ u:Nat,a.states[s][m].to=u:=⟨a.states[s][m].to.toNat,by omega⟩
         have jy:Hid (rowN (ed a k) (a.states[s].take (m+1))=min (rowN (ed a k) (a.states[s].take m)+(ed a k).getD u 0) 4097):=by
          have h:rowN (ed a k) (a.states[s].take (m+1))=min (rowN (ed a k) (a.states[s].take m)+(ed a k).getD u 0) 4097:=by
           rw[Oh _ _ m lC];unfold rZ;rw[hu,Int.toNat_natCast]
          exact h
         rw[hu]at d7;have IM:u<a.states.length:=by omega
         have wS:=DB HIO.out u;have Pz:u<(ed a k).length:=by rw[O5.out];exact IM
         obtain⟨b,e4,hc⟩:=Gh.out u (.int .i64 ((ed a k).getD u 0)) (by rw[ap 0 Pz];simp);have c2:=ai hbtw d7;subst e4;have c3:=ai tP hc;have hmin:=Ux Tryz.prog;generalize rowN (ed a k) (a.states[s].take m)=r0 at VT jy;generalize (ed a k).getD u 0=g0 at wS jy c3 hc;clear d7 hc hu od Pz
         go_wp2
         go_round
         case rel=>exact⟨m+1,by omega,by go_num,by rw[jy.out]⟩
         case measure=>simp[intOf];omega
        ·obtain rfl:m=a.states[s].length:=by omega
         rw[List.take_length];rw[List.take_length]at VT;generalize rowN (ed a k) a.states[s]=r0 at VT dz;have hA:Below wt.heap.size wt (wt.alloc (.cells #[.int .i64 r0] 3)):=by go_grown
         have HOWN4:=aa (oy dX.out hA);have bB:=aa (fun j u hj=>ED (w:=wt) (v:=.int .i64 r0) (t:=3) j u hj);have hbs3:=tP.size;clear hA
         go_wp2_with (at_builtin;(refine wpList_append_own _ rfl (.tmp 63) (.tmp 65) 38 rfl ws.heap.size 3 i0 (.int .i64 0) 1 8 Tryz.underlying38 hi cf bP cj rfl (by decide) _ s (((li a (ed a k)).take s).map (Value.int .i64)) rfl HOWN4.out ⟨wt.heap.size,0,none⟩ 1 1 [.int .i64 r0] rfl rfl bB.out (by simp[Value.oneCell']) (by unfold maxLen;omega) (by omega) (by simp;omega) ?_;intro v' w2 fx dk _))
         go_roundw
         case rel=>
          refine⟨Below.grown (w:=wt.alloc (.cells #[.int .i64 r0] 3)) (tP.alloc hbs3 _) dk (by simp;omega) (fun g hg=>(Dl dX.out g hg).1),s+1,by omega,by go_num,?_⟩;rw[dz.out,List.map_append];exact fx
         case measure=>simp[intOf];omega
      ·obtain rfl:s=a.states.length:=by omega
       go_wp2
       go_roundw
       case rel=>
        refine⟨ae lG tP,k+1,by omega,by go_num,?_⟩;have h:=rL (base':=W0.heap.size) dX.out (by have:=gM.size;exact this);rw[List.take_of_length_le (by simp[li])]at h;exact h
       case measure=>simp[intOf];omega
    ·obtain rfl:k=n:=by omega
     obtain⟨b,rfl,hc⟩:=Gh.out 0 (.int .i64 (numberS a k)) (by
      have h0:0<(ed a k).length:=by rw[O5.out];omega
      unfold numberS;rw[ap 0 h0]
      simp)
     go_wp2
     go_ret
     exact⟨rfl,ae aC gM⟩
theorem ux(p:Pb) (vc vs:Value) (w:World) (hc:bK w vc p.t.cases) (hs:bk w vs p.a.states) (hN:movesN p.a.states<2305843009213693952) :
  Calls Tryz.prog 71 #[qi p vc vs] w fun e w'=>e=.returned (.int .i64 (probE p))/\Below w.heap.size w w':=by
 have GC:=aa hc;have GS:=aa hs;obtain⟨pc,cc,rfl,_⟩:=hc.at;obtain⟨ps,cs,rfl,_⟩:=hs.at;clear hc hs;have HV:Hid (probE p=if taskE p.t≠0 then taskE p.t else if advE p.a≠0 then advE p.a else if p.t.n≠p.a.n then 22 else if p.rounds<0\/6<p.rounds then 2 else 0):=by exact rfl
 go_enter Tryz.func71,Tryz.ntmps71
 go_wp2_with fail
 refine aL (fun W=>Below w.heap.size w W/\W.heap[w.heap.size]?=some (.cells (zS p (.slice pc p.t.cases.length cc) (.slice ps p.a.states.length cs)) 29)) ⟨by go_grown,ak _ _⟩ (fun W0 aW=>?_);obtain⟨aC,br⟩:=aW;refine(DA p.t _ W0 (GC.out.up up_case aC)).mono ?_;rintro e w1 ⟨rfl,aG⟩;have gd:=ae aC aG;have dM:=af aG br;have t1:=ab dM;generalize taskE p.t=et at HV;have dy:=aa dM;clear dM br;by_cases nm:et=0
 case neg=>
  have Mx:(et != 0)=true:=by simpa using nm
  go_wp2_with fail
  go_ret
  exact⟨aA (by rw[HV.out,if_pos nm]),gd⟩
 subst nm
 go_wp2_with fail
 refine(FZ p.a _ w1 (GS.out.up up_moves gd) hN).mono ?_;rintro e w2 ⟨rfl,aV⟩;have j9:=ae gd aV;have t2:=ab (af aV dy.out);clear t1;generalize advE p.a=ea at HV;by_cases xh:ea=0
 case neg=>
  have hea':(ea != 0)=true:=by simpa using xh
  go_wp2_with fail
  go_ret
  exact⟨aA (by rw[HV.out,if_neg (by simp),if_pos xh]),j9⟩
 subst xh
 go_wp2_with fail
 all_goals
  go_ret
  refine⟨aA ?_,j9⟩;rw[HV.out]
  go_light
  grind
theorem JR{p:Pb} (h:probE p=0):∃ n:Nat,p.rounds=n/\n<=6:=⟨p.rounds.toNat,by have:=go h;omega,by have:=go h;omega⟩
def numberP(p:Pb):Int:=p.t.cases.length * numberS p.a p.rounds.toNat
theorem LS(a:Adv) (n:Nat):0<=numberS a n/\numberS a n<=4097:=DB (Hb a n) 0
theorem sa(p:Pb) (vc vs:Value) (w:World) (hc:bK w vc p.t.cases) (hs:bk w vs p.a.states) (hp:probE p=0) :
  Calls Tryz.prog 72 #[qi p vc vs,.int .i64 4096] w fun e w'=>e=.returned (.int .i64 (numberP p))/\Below w.heap.size w w':=by
 obtain⟨ht,ha,yP,_,_⟩:=go hp;clear yP;obtain⟨h1,h2,_⟩:=hH ha;have bU:=(eX ht).2.2.2.1;obtain⟨n,hn,hn6⟩:=JR hp;have HV:Hid (numberP p=p.t.cases.length * numberS p.a n):=by(have h:numberP p=p.t.cases.length * numberS p.a n:=by(unfold numberP;rw[hn,Int.toNat_natCast]));exact h
 have bO:=aa (fun W (hb:Below w.heap.size w W)=>DC p.a vs n hn6 W (hs.up up_moves hb) h2 h1);have jo:=LS p.a n;generalize numberS p.a n=nn at bO HV jo;obtain⟨pc,cc,rfl,_⟩:=hc;obtain⟨ps,cs,rfl,_⟩:=hs
 have HM:Hid (IntKind.i64.wrap ((p.t.cases.length:Int) * nn)=p.t.cases.length * nn):=by
  have h:IntKind.i64.wrap ((p.t.cases.length:Int) * nn)=p.t.cases.length * nn:=by
   have h1:(0:Int)<=(p.t.cases.length:Int) * nn:=Int.mul_nonneg (by omega) (by omega);have h2:(p.t.cases.length:Int) * nn<=1024 * 4097:=Int.mul_le_mul (by omega) (by omega) (by omega) (by omega);exact IntWalk.i64_in _ (by omega)
  exact h
 rw[<-hn]at bO;clear ht ha h1 h2 hp jo hn
 go_enter Tryz.func72,Tryz.ntmps72
 go_wp2_with fail
 refine bj (fun V=>Below w.heap.size w V/\V.heap[w.heap.size]?=some (.cells (zS p (.slice pc p.t.cases.length cc) (.slice ps p.a.states.length cs)) 29)) ⟨by go_grown,ak _ _⟩ (fun V hV=>?_);obtain⟨aC,br⟩:=hV;have qz:=aa (fun x:ExtW V=>Calls.ext_of (bO.out x.val (ae aC x.ext)));have r1:∀ x:ExtW V,∀ o,x.val.cell? ⟨w.heap.size,o,none⟩=_:=fun x=>ab (af x.ext br)
 have hM:=HM.out;clear br;refine aB (by kernel_rfl) (by kernel_rfl) ?_
 repeat (go_big_quiet_step ((go_at_call 116;exact qz.out _)))
 refine wpQuiet_nil ?_;intro _ dY;obtain⟨xq,cZ⟩:=dY;subst cZ;clear r1 bO hM
 go_wp2_with fail
 go_ret
 exact⟨aA (by rw[HV.out]),ae aC xq.ext⟩
def fewPB(p:Pb):Bool:=
 if fewTB p.t=false then false else if rY p.a=false then false else if 3<p.t.n/\p.t.n<=5 then false
 else if probE p≠0 then true else decide (numberP p<=60) || decide (4096<numberP p)
theorem Hc(p:Pb) (vc vs:Value) (w:World) (hc:bK w vc p.t.cases) (hs:bk w vs p.a.states) :
  Calls Tryz.prog 34 #[qi p vc vs] w fun e w'=>e=.returned (.bool (fewPB p))/\Below w.heap.size w w':=by
 have GC:=aa hc;have GS:=aa hs;obtain⟨pc,cc,rfl,_⟩:=hc;obtain⟨ps,cs,rfl,_⟩:=hs;have HV:Hid (fewPB p=if fewTB p.t=false then false else if rY p.a=false then false else if 3<p.t.n/\p.t.n<=5 then false else if probE p≠0 then true else decide (numberP p<=60) || decide (4096<numberP p)):=by exact rfl
 have HF:Hid (rY p.a=(decide (p.a.states.length<=8)&&decide (movesN p.a.states<=40))):=by exact rfl
 go_enter Tryz.func34,Tryz.ntmps34
 go_wp2_with fail
 refine aL (fun W=>Below w.heap.size w W/\W.heap[w.heap.size]?=some (.cells (zS p (.slice pc p.t.cases.length cc) (.slice ps p.a.states.length cs)) 29)) ⟨by go_grown,ak _ _⟩ (fun W0 aW=>?_);obtain⟨aC,br⟩:=aW;refine(G' p.t _ W0 (GC.out.up up_case aC)).mono ?_;rintro e w1 ⟨rfl,aG⟩;have gd:=ae aC aG;have dy:=aa (af aG br);have t1:=ab dy.out;clear br;generalize fewTB p.t=ft at HV;cases ft with
 | false=>
  go_wp2_with fail
  go_ret
  exact⟨aN (by rw[HV.out];rfl),gd⟩
 | true=>
 go_wp2_with fail
 refine(JQ p.a _ w1 (GS.out.up up_moves gd)).mono ?_;rintro e w2 ⟨rfl,aV⟩;have j9:=ae gd aV;have mK:=aa (af aV dy.out);have t2:=ab mK.out;clear t1;cases Cj:rY p.a with
 | false=>
  have yE:=aa Cj;clear Cj
  go_wp2_with fail
  go_ret
  exact⟨aN (by rw[HV.out,yE.out];rfl),j9⟩
 | true=>
 have S8:movesN p.a.states<=40:=by
  have h:=HF.out;rw[Cj]at h;simp at h;exact h.2
 rw[Cj]at HV;clear HF Cj;by_cases h3:3<p.t.n/\p.t.n<=5
 ·obtain⟨h31,FN⟩:=h3
  have HR:Hid (fewPB p=false):=by(have h:fewPB p=false:=by(rw[HV.out];simp[h31,FN]));exact h
  go_wp2_with fail
  go_ret
  exact⟨aN HR.out.symm,j9⟩
 have HR:Hid (fewPB p=if probE p≠0 then true else decide (numberP p<=60) || decide (4096<numberP p)):=by
  have h:fewPB p=if probE p≠0 then true else decide (numberP p<=60) || decide (4096<numberP p):=by
   rw[HV.out,if_neg (by simp),if_neg (by simp),if_neg h3]
  exact h
 clear HV;have TQ:¬ 3<p.t.n\/(3<p.t.n/\5<p.t.n):=by omega
 clear h3;have HC:=aa (ux p _ _ w2 (GC.out.up up_case j9) (GS.out.up up_moves j9) (by omega));have HNU:=aa (fun (hp:probE p=0) W (hb:Below w.heap.size w W)=>sa p _ _ W (GC.out.up up_case hb) (GS.out.up up_moves hb) hp);rcases TQ with h3|⟨h3,WA⟩
 all_goals
  go_wp2_with fail
  refine HC.out.mono ?_;rintro e w3 ⟨rfl,bA⟩;have MA:=ae j9 bA;have t3:=ab (af bA mK.out);clear t2;by_cases hp:probE p=0
  case neg=>
   generalize probE p=ep at hp HR;have PV:(ep != 0)=true:=by simpa using hp
   go_wp2_with fail
   go_ret
   exact⟨aN (by rw[HR.out,if_pos hp]),MA⟩
  have rf:=aa (HNU.out hp w3 MA);rw[hp]at HR ⊢;clear hp HNU
  go_wp2_with fail
  refine rf.out.mono ?_;rintro e w4 ⟨rfl,cg⟩;clear t3;generalize numberP p=nn at HR;by_cases h60:nn<=60
  ·go_wp2_with fail
   go_ret
   exact⟨aN (by rw[HR.out,if_neg (by simp),decide_eq_true h60];rfl),ae MA cg⟩
  ·have hd:decide (nn<=60)=false:=decide_eq_false h60
   have HD:=aa hd
   go_wp2_with fail
   go_ret
   exact⟨aN (by rw[HR.out,if_neg (by simp),HD.out];rfl),ae MA cg⟩
theorem oX{p:Pb} (h:fewPB p=true):movesN p.a.states<=40:=by
 unfold fewPB at h;split at h
 ·cases h
 split at h
 ·cases h
 ·rename_i h2
  have:rY p.a=true:=by simpa using h2
  unfold rY at this;simp at this;exact this.2
end Go.Proofs.YtmeaoneaephjeaaGreatDoor
namespace Go.Proofs.YtmeaoneaephjeaaGreatDoor
open Go.RowKit Go Go.Shelf
attribute [local go_sem] Oper.semAt_some
theorem Vh(a b:Vw) (w:World):(binOp .eql 190 a.v b.v).run Tryz.prog w=.ok (.bool (decide (a=b))) w:=by
 rw[run_eql_struct,Du 9997];rfl
def viewIx(l:List Vw) (v:Vw):Int:=firstIx l.length fun i=>decide (l.getD i default=v)
theorem LT(l:List Vw) (v:Vw):(viewIx l v<0/\putV l v=(l++[v],l.length))\/(0<=viewIx l v/\putV l v=(l,(viewIx l v).toNat)/\viewIx l v<l.length):=by
 unfold viewIx;rcases bD l.length (fun i=>decide (l.getD i default=v)) with ⟨e,h⟩|⟨k,hk,e,he,h⟩
 ·refine .inl ⟨by omega,?_⟩
  unfold putV;rw[if_neg];intro hv;obtain⟨i,hi,rfl⟩:=List.getElem_of_mem hv;have:=h i hi;simp[hi]at this
 ·refine .inr ⟨by omega,?_,by omega⟩
  have he:l[k]=v:=by simpa[hk] using he
  unfold putV;rw[if_pos (he ▸ List.getElem_mem hk),e];congr 1;rw[Int.toNat_natCast];have mm:v∈l:=he ▸ List.getElem_mem hk;have az:=List.idxOf_lt_length_of_mem mm;have CO:=List.getElem_idxOf az;rcases Nat.lt_trichotomy (l.idxOf v) k with h1|h1|h1
  ·have:=h _ h1
   simp[az]at this
  ·exact h1
  ·exfalso
   have:=List.not_of_lt_findIdx (xs:=l) (p:=(· == v)) (i:=k) h1;simp[he]at this
theorem Vi{w:World} {b o:Nat} {v:Vw} (h:Bv w b o v) {wr:World} (hb:Below w.heap.size w wr):∀ y:ExtW wr,y.val.cell? ⟨b,o,none⟩=some (.int .i64 v.p)/\y.val.cell? ⟨b,o+1,none⟩=some (.int .i64 v.k)/\y.val.cell? ⟨b,o+2,none⟩=some (.int .i64 v.i)/\y.val.cell? ⟨b,o+3,none⟩=some (.int .i64 v.h0)/\y.val.cell? ⟨b,o+4,none⟩=some (.int .i64 v.h1)/\y.val.cell? ⟨b,o+5,none⟩=some (.int .i64 v.h2)/\y.val.cell? ⟨b,o+6,none⟩=some (.int .i64 v.h3)/\y.val.cell? ⟨b,o+7,none⟩=some (.int .i64 v.h4):=by
 obtain⟨⟨c0,_⟩,⟨c1,_⟩,⟨c2,_⟩,⟨c3,_⟩,⟨c4,_⟩,⟨c5,_⟩,⟨c6,_⟩,⟨c7,_⟩⟩:=h;exact fun y=>⟨y.cell (ai hb c0),y.cell (ai hb c1),y.cell (ai hb c2),y.cell (ai hb c3),y.cell (ai hb c4),y.cell (ai hb c5),y.cell (ai hb c6),y.cell (ai hb c7)⟩
theorem JS(n:Int) (l:List Vw) (vt:Value) (v:Vw) (w:World) (h:mu w vt l) :
  Calls Tryz.prog 189 #[.agg #[.int .i64 n,vt],v.v] w fun e w'=>e=.returned (.int .i64 (viewIx l v))/\Below w.heap.size w w':=by
 obtain⟨pt,ct,rfl,lt1,lt2,et⟩:=h.at;have ET:=aa et;have pR:Hid (∀ k,k<l.length->(∀ j,j<k->decide (l.getD j default=v)=false)->decide (l.getD k default=v)=true->viewIx l v=k):=aa (fun k hk h1 h2=>dF _ _ _ hk h1 h2);have fD:Hid ((∀ j,j<l.length->decide (l.getD j default=v)=false)->viewIx l v=-1):=aa (eC _ _);clear h et
 go_enter Tryz.func189,Tryz.ntmps189
 go_wp2_with fail
 refine bj (fun W=>Below w.heap.size w W/\W.heap[w.heap.size]?=some (.cells #[.int .i64 n,.slice pt l.length ct] 32)/\W.heap[w.heap.size+1]?=some (.cells v.c 190)) ⟨by go_grown,am _ (ak _ _),ba _ _ _⟩ (fun W0 aW=>?_);obtain⟨aC,br,uQ⟩:=aW;have gT:=aa br;have yZ:=aa uQ;clear br uQ
 go_loopw [5] (fun i wr=>∃ k:Nat,k<=l.length/\i=.int .i64 k/\Below W0.heap.size W0 wr/\∀ j,j<k->decide (l.getD j default=v)=false) (fun i _=>l.length - (intOf i).toNat)
 case atStart=>exact⟨0,by omega,rfl,Below.refl _ _,by simp⟩
 case round=>
  obtain⟨k,hk,rfl,aq,aS⟩:=hrel;have H:=aa aS;clear aS;have tA:=ab (af aq gT.out);by_cases az:k<l.length
  ·obtain⟨b1,o1,rfl,c1⟩:=ET.out k az
   have HX:=aa (ap default az);have Dc:=aa (pR.out k az H.out);generalize l[k]=x at c1 HX;rw[HX.out]at Dc;have d1:=Vi c1 (ae aC aq);have a1:∀ z:ExtW wr,z.val.cell? ⟨w.heap.size,1,none⟩=some _:=fun z=>z.cell (ab (af aq gT.out) 1)
   have a2:∀ (z:ExtW wr) (o:Nat),z.val.cell? ⟨w.heap.size+1,o,none⟩=v.c[o]?:=fun z o=>ab (af (z.ext) (af aq yZ.out)) o
   have jK:=fun w=>Vh x v w
   have aR:=aa aq;clear c1 aq
   go_wp2_with fail
   clear tA;cases hd:decide (x=v) with
   | true=>
    have HR:=aa (Dc.out hd);rw[hd]at jK;clear hd;refine aB (by kernel_rfl) (by kernel_rfl) ?_
    repeat (go_big_quiet_step (fail))
    refine wpQuiet_nil ?_;rintro _ ⟨xq,rfl⟩;clear d1 a1 a2 jK
    go_wp2_with fail
    go_ret
    exact⟨aA (by rw[HR.out]),ae aC (ae aR.out xq.ext)⟩
   | false=>
    have HD:=aa hd;rw[hd]at jK;clear hd;refine aB (by kernel_rfl) (by kernel_rfl) ?_
    repeat (go_big_quiet_step (fail))
    refine wpQuiet_nil ?_;rintro _ ⟨xq,rfl⟩;clear d1 a1 a2 jK
    go_wp2_with fail
    go_roundw
    case rel=>exact⟨k+1,by omega,by go_num,ae aR.out xq.ext,aT H.out (by rw[HX.out];exact HD.out)⟩
    case measure=>simp[intOf];omega
  ·have HR:=aa (fD.out fun j hj=>H.out j (by omega))
   go_wp2_with fail
   go_ret
   exact⟨aA (by rw[HR.out]),ae aC aq⟩
def vC(p k i:Int) (f:Nat->Int) (q:Nat):Array Value:=((List.range 8).map fun j=>Value.int .i64 (if j=0 then p else if j=1 then k else if j=2 then i else if j<3+q then f (j - 3) else 0)).toArray
theorem xY(p k i:Int) (f:Nat->Int) (q j:Nat) (hj:j<8):(vC p k i f q)[j]?=some (.int .i64 (if j=0 then p else if j=1 then k else if j=2 then i else if j<3+q then f (j - 3) else 0)):=by simp[vC,hj]
theorem Oi(p k i:Int) (f:Nat->Int) (q:Nat) (hq:q<5):(vC p k i f q).setIfInBounds (3+q) (.int .i64 (f q))=vC p k i f (q+1):=by
 apply Array.ext_getElem?;intro j;rw[Array.getElem?_setIfInBounds];by_cases hj:j<8
 ·rw[xY _ _ _ _ _ _ hj,xY _ _ _ _ _ _ hj]
  by_cases e:3+q=j
  ·subst e
   rw[if_pos rfl,if_pos (by simp[vC];omega),if_neg (by omega),if_neg (by omega),if_neg (by omega),if_pos (by omega),Nat.add_sub_cancel_left]
  ·rw[if_neg e]
   have:(j<3+(q+1))↔(j<3+q):=by omega
   simp only[this]
 ·rw[if_neg (by omega),Array.getElem?_eq_none (by simp[vC];omega),Array.getElem?_eq_none (by simp[vC];omega)]
theorem Kl(p k i:Int) (f:Nat->Int):vC p k i f 0=#[.int .i64 p,.int .i64 k,.int .i64 i,.int .i64 0,.int .i64 0,.int .i64 0,.int .i64 0,.int .i64 0]:=rfl
theorem Km(p k i:Int) (f:Nat->Int):vC p k i f 5=#[.int .i64 p,.int .i64 k,.int .i64 i,.int .i64 (f 0),.int .i64 (f 1),.int .i64 (f 2),.int .i64 (f 3),.int .i64 (f 4)]:=rfl
abbrev zeroV:Array Value:=#[.int .i64 0,.int .i64 0,.int .i64 0,.int .i64 0,.int .i64 0,.int .i64 0,.int .i64 0,.int .i64 0]
theorem B1(tmps:Array Value) (f:Func) (s:Nat) (hf:f.results=#[.cell s 190]) (B:Nat) (W:World) (v:Vw) (ty:TypeId) (h1:tmps[s]?.getD undef=.pointer (some ⟨B,0,none⟩)) (hb:W.heap[B]?=some (.cells v.c ty)) :
  (results f tmps).run Tryz.prog W=.ok v.v W:=by
 have t1:=ab hb;simp[results,hf,go_sem,h1,t1]
theorem JT(p:Nat) (inp:Int) (w:World):Calls Tryz.prog 158 #[.int .i64 p,.int .i64 inp] w fun e w'=>e=.returned (⟨p,0,inp,-1,-1,-1,-1,-1⟩:Vw).v/\Below w.heap.size w w':=by
 go_enter Tryz.func158,Tryz.ntmps158
 go_wp2_with fail
 refine bj (fun W=>Below w.heap.size w W/\W.heap[w.heap.size]?=some (.cells zeroV 190)/\W.heap[w.heap.size+1]?=some (.cells (vC p 0 inp (fun _=>-1) 0) 190)) ⟨by go_grown,am _ (ak _ _),by rw[Kl];exact ba _ _ _⟩ (fun W0 aW=>?_);obtain⟨aC,gJ,gS⟩:=aW
 go_loopw [6] (fun i wr=>∃ q:Nat,q<=5/\i=.int .i64 q/\Below w.heap.size w wr/\wr.heap[w.heap.size]?=some (.cells zeroV 190)/\wr.heap[w.heap.size+1]?=some (.cells (vC p 0 inp (fun _=>-1) q) 190)) (fun i _=>5 - (intOf i).toNat)
 case atStart=>exact⟨0,by omega,rfl,aC,gJ,gS⟩
 case round=>
  clear aC gJ gS;obtain⟨q,hq,rfl,aq,hR,hO⟩:=hrel;by_cases az:q<5
  ·have zq:=aE hO (3+q)
   have tq:=ab hO (3+q);rw[xY _ _ _ _ _ _ (by omega)]at tq;have HR:=aa hR;have HO:=aa hO;clear hR hO;have nE:(q:Int)<5:=by omega
   go_wp2_with fail
   go_roundw
   case rel=>exact⟨q+1,by omega,by go_num,aq.setCell (by dsimp only;omega) _,aH HR.out (by omega) _ _,by rw[aF HO.out,<-Oi _ _ _ (fun _=>-1) q az]⟩
   case measure=>simp[intOf];omega
  ·obtain rfl:q=5:=by omega
   have tq:=ab hO;have HR:=aa hR;have HO:=aa hO;have zq:=fun o=>aE hR o
   have tq0:=ab hR;rw[Km]at tq;simp at tq0;clear hR hO
   go_wp2_with (refine wpList_store_row rfl 190 (.tmp 4) (.tmp 17) rfl w.heap.size (⟨p,0,inp,-1,-1,-1,-1,-1⟩:Vw).c rfl rfl 190 _ HR.out (by kernel_rfl) rfl (by simp[Value.oneCell']) ?_)
   exact bodyPost_ret (B1 _ _ 4 rfl w.heap.size _ ⟨p,0,inp,-1,-1,-1,-1,-1⟩ 190 rfl (setRow_heap _ _ _ _ _ _ HR.out)) rfl ⟨rfl,below_setRow aq (Nat.le_refl _) _⟩
theorem DD{a:Array Value} {i:Nat} {x:Value} (h:a[i]?=some x):a.setIfInBounds i x=a:=by
 apply Array.ext_getElem?;intro j;rw[Array.getElem?_setIfInBounds];split
 ·rename_i e;subst e
  split
  ·exact h.symm
  ·rw[Array.getElem?_eq_none (by omega)]
 ·rfl
def seenH(n:Nat) (g:Gr) (now:List Int) (p q:Nat):Int:=if q<n/\hasB (g.hear p) q=true then now.getD q 0 else -1
def seenV(n K:Nat) (g:Gr) (now:List Int) (p:Nat):Vw:=⟨p,K,0,seenH n g now p 0,seenH n g now p 1,seenH n g now p 2,seenH n g now p 3,seenH n g now p 4⟩
theorem LU(g:Gr) (K p n:Nat) (hn:g.n=n) (ic:n<=5) (hp:p<5) (hh:0<=g.hear p/\g.hear p<32) (vb:Value) (now:List Int) (oQ:n<=now.length) (w:World) (hb:aY w vb now) :
  Calls Tryz.prog 159 #[g.v,.int .i64 K,.int .i64 p,vb] w fun e w'=>e=.returned (seenV n K g now p).v/\Below w.heap.size w w':=by
 obtain⟨pb,cb,rfl,lb1,lb2,eb⟩:=hb.at;have EB:=aa eb;have HF:Hid (∀ q,seenH n g now p q=if (q:Int)<g.n/\hasB (g.hear p) q=true then now.getD q 0 else -1):=aa (fun q=>by unfold seenH;rw[hn];simp);have HV:Hid (seenV n K g now p=⟨p,K,0,seenH n g now p 0,seenH n g now p 1,seenH n g now p 2,seenH n g now p 3,seenH n g now p 4⟩):=aa rfl;have HN:=aa hn;generalize seenV n K g now p=V at HV;generalize seenH n g now p=f at HF HV;clear hb eb hn
 go_enter Tryz.func159,Tryz.ntmps159
 go_wp2_with fail
 refine bj (fun W=>Below w.heap.size w W/\W.heap[w.heap.size]?=some (.cells #[.int .i64 g.n,.int .i64 g.h0,.int .i64 g.h1,.int .i64 g.h2,.int .i64 g.h3,.int .i64 g.h4] 139)/\W.heap[w.heap.size+1]?=some (.cells zeroV 190)/\W.heap[w.heap.size+1+1]?=some (.cells (vC p K 0 f 0) 190)) ⟨by go_grown,am _ (am _ (ak _ _)),am _ (ba _ _ _),by rw[Kl];exact dH _ _ _ _⟩ (fun W0 aW=>?_);obtain⟨aC,hG0,gJ,gS⟩:=aW
 go_loopw [10] (fun i wr=>∃ q:Nat,q<=5/\i=.int .i64 q/\Below w.heap.size w wr/\wr.heap[w.heap.size]?=some (.cells #[.int .i64 g.n,.int .i64 g.h0,.int .i64 g.h1,.int .i64 g.h2,.int .i64 g.h3,.int .i64 g.h4] 139)/\wr.heap[w.heap.size+1]?=some (.cells zeroV 190)/\wr.heap[w.heap.size+1+1]?=some (.cells (vC p K 0 f q) 190)) (fun i _=>5 - (intOf i).toNat)
 case atStart=>exact⟨0,by omega,rfl,aC,hG0,gJ,gS⟩
 case round=>
  clear aC hG0 gJ gS;obtain⟨q,hq,rfl,aq,hG,hR,hO⟩:=hrel;by_cases az:q<5
  ·have zq:=aE hO (3+q)
   have tq:=ab hO (3+q);rw[xY _ _ _ _ _ _ (by omega)]at tq;have HG:=aa hG;have HR:=aa hR;have HO:=aa hO;have aR:=aa aq;clear hG hR hO aq;have nE:(q:Int)<5:=by omega
   have tG:=ab HG.out 0;simp at tG;have tH:=mr g p hp wr _ HG.out;have PV:(p:Int)<5:=by omega
   have FC:=aa (HF.out q);have hbz:=aR.out.size
   have jM:Hid (∀ x:Int,f q=x->∀ W:World,Below w.heap.size w W->W.heap[w.heap.size]?=some (.cells #[.int .i64 g.n,.int .i64 g.h0,.int .i64 g.h1,.int .i64 g.h2,.int .i64 g.h3,.int .i64 g.h4] 139)->W.heap[w.heap.size+1]?=some (.cells zeroV 190)->(∃ y:Value,W.heap[w.heap.size+1+1]?=some (.cells ((vC p K 0 f q).setIfInBounds (3+q) y) 190))->∃ q':Nat,q'<=5/\Value.int .i64 ((q:Int)+1)=.int .i64 q'/\Below w.heap.size w (W.setCell ⟨w.heap.size+1+1,3+q,none⟩ (.int .i64 x))/\(W.setCell ⟨w.heap.size+1+1,3+q,none⟩ (.int .i64 x)).heap[w.heap.size]?=some (.cells #[.int .i64 g.n,.int .i64 g.h0,.int .i64 g.h1,.int .i64 g.h2,.int .i64 g.h3,.int .i64 g.h4] 139)/\(W.setCell ⟨w.heap.size+1+1,3+q,none⟩ (.int .i64 x)).heap[w.heap.size+1]?=some (.cells zeroV 190)/\(W.setCell ⟨w.heap.size+1+1,3+q,none⟩ (.int .i64 x)).heap[w.heap.size+1+1]?=some (.cells (vC p K 0 f q') 190)):=aa (by
    rintro x rfl W q1 q2 q3 ⟨y,q4⟩;refine⟨q+1,by omega,by go_num,q1.setCell (by dsimp only;omega) _,aH q2 (by omega) _ _,aH q3 (by omega) _ _,?_⟩
    rw[aF q4,Array.setIfInBounds_setIfInBounds,Oi _ _ _ _ _ az])
   have HY:Hid (∃ y:Value,wr.heap[w.heap.size+1+1]?=some (.cells ((vC p K 0 f q).setIfInBounds (3+q) y) 190)):=aa ⟨_,HO.out.trans (congrArg (fun c=>some (Obj.cells c 190)) (DD (xY p K 0 f q (3+q) (by omega))).symm)⟩;by_cases rl:(q:Int)<g.n
   ·cases hb:hasB (g.hear p) q with
    | true=>
     obtain⟨b2,o2,rfl,⟨c2,_⟩⟩:=EB.out q (by have:=HN.out;omega);rw[Nat.mul_one]at c2;have d2:=ai aR.out c2;have aV:=fj c2;dsimp only at aV;have bA:¬ b2=w.heap.size+1+1:=by omega
     have hqnow:q<now.length:=by have:=HN.out;omega
     have uF:Hid (f q=now[q]):=aa (by rw[FC.out,if_pos ⟨rl,hb⟩,ap 0 hqnow]);generalize now[q]=x at d2 uF;clear c2
     go_wp2_with fail
     refine(jX (g.hear p) q (by omega) hh.1 (by omega) _).mono ?_;rintro e _ ⟨rfl,rfl⟩;rw[hb]
     go_wp2_with fail
     go_roundw
     case rel=>exact jM.out x uF.out _ (aR.out.setCell (by dsimp only;omega) _) (aH HG.out (by omega) _ _) (aH HR.out (by omega) _ _) ⟨_,aF HO.out _ _⟩
     case measure=>simp[intOf];omega
    | false=>
     have uF:Hid (f q=-1):=aa (by rw[FC.out,if_neg (by rw[hb];simp)])
     go_wp2_with fail
     refine(jX (g.hear p) q (by omega) hh.1 (by omega) _).mono ?_;rintro e _ ⟨rfl,rfl⟩;rw[hb]
     go_wp2_with fail
     go_roundw
     case rel=>exact jM.out (-1) uF.out _ aR.out HG.out HR.out HY.out
     case measure=>simp[intOf];omega
   ·have uF:Hid (f q=-1):=aa (by rw[FC.out,if_neg (fun h=>rl h.1)])
    go_wp2_with fail
    go_roundw
    case rel=>exact jM.out (-1) uF.out _ aR.out HG.out HR.out HY.out
    case measure=>simp[intOf];omega
  ·obtain rfl:q=5:=by omega
   have tq:=ab hO;have HR:=aa hR;have HO:=aa hO;have zq:=fun o=>aE hR o
   have tq0:=ab hR;rw[Km]at tq;simp at tq0;clear hG hR hO
   go_wp2_with (refine wpList_store_row rfl 190 (.tmp 8) (.tmp 40) rfl (w.heap.size+1) #[.int .i64 p,.int .i64 K,.int .i64 0,.int .i64 (f 0),.int .i64 (f 1),.int .i64 (f 2),.int .i64 (f 3),.int .i64 (f 4)] rfl rfl 190 _ HR.out (by kernel_rfl) rfl (by simp[Value.oneCell']) ?_)
   exact bodyPost_ret (B1 _ _ 8 rfl (w.heap.size+1) _ ⟨p,K,0,f 0,f 1,f 2,f 3,f 4⟩ 190 rfl (setRow_heap _ _ _ _ _ _ HR.out)) rfl ⟨by rw[HV.out],below_setRow aq (by omega) _⟩
theorem aD.rawK{w:World} {base size n:Nat} {e:TypeId} {v:Value} {xs:List Value} (h:aD w base e size v n xs) (h1:∀ u∈xs,u.oneCell'=true):gh w size v n xs:=by
 rcases h.2 with ⟨rfl,rfl⟩|⟨g,cap,cur,fz,rfl,_,hg,_,jO,_,_,ht⟩
 ·exact⟨none,0,rfl,fun _=>⟨rfl,rfl⟩,h.1,(fun j u hj=>by
   have:xs=[]:=List.eq_nil_of_length_eq_zero (by simpa using h.1)
   rw[this]at hj;simp at hj),h1⟩
 ·exact⟨some ⟨g,0,none⟩,cap,rfl,(fun e=>by cases e),h.1,fun j u hj=>by
   obtain⟨g',c',e1,e2⟩:=h.cell j u hj;injection e1 with e1
   injection e1 with e1
   injection e1 with e1
   subst e1
   exact⟨g,0,rfl,(by rw[Nat.zero_add];exact e2)⟩,h1⟩
theorem B2{α:Type} {to ti:TypeId} {k:Nat} {flat:List α->List Value} {w:World} {base base':Nat} {v:Value} {l:List (List α)} (h:bW to ti k flat w base v l) (hb:base'<=base):bW to ti k flat w base' v l:=by
 obtain⟨xs,h1,h2⟩:=h;exact⟨xs,h1.base hb,fun i hi=>by obtain⟨x,q1,q2⟩:=h2 i hi;exact⟨x,q1,q2.base hb⟩⟩
def nd(a:Adv) (k:Nat) (m:Mv):List (List Rd):=(bS a k m.to.toNat).map (m.r :: ·)
theorem JU(a:Adv) (k s:Nat):bS a (k+1) s=(a.states.getD s []).flatMap (nd a k):=rfl
def kh(a:Adv) (k:Nat) (mv:List Mv) (i:Nat):List (List Rd):=(mv.take i).flatMap (nd a k)
theorem Oj{α β:Type} (f:α->List β) (l:List α) (i:Nat) (hi:i<l.length):(l.take (i+1)).flatMap f=(l.take i).flatMap f++f l[i]:=by
 rw[List.take_succ_eq_append_getElem hi,List.flatMap_append];simp
theorem F0{α β:Type} (f:α->List β) (l:List α) (i:Nat):((l.take i).flatMap f).length<=(l.flatMap f).length:=by
 conv=>rhs;rw[<-List.take_append_drop i l,List.flatMap_append,List.length_append]
 omega
theorem EF(a:Adv) (gg:∀ s,s<a.states.length->∀ m∈a.states.getD s [],0<=m.to/\m.to<a.states.length):∀ (k:Nat) (st:Nat) (v:Value) (w:World),k<=64->st<a.states.length->(bS a k st).length<=4096->bk w v a.states →
  Calls Tryz.prog 157 #[.agg #[.int .i64 a.n,v],.int .i64 st,.int .i64 k] w fun r w'=>∃ u,r=.returned u/\ui w' w.heap.size u (bS a k st)/\Below w.heap.size w w'
 | 0,st,v,w,_,dT,_,hv=>by
  obtain⟨pa,ca,rfl,_⟩:=hv.at;clear hv
  go_enter Tryz.func157,Tryz.ntmps157
  go_wp2_with fail
  go_ret
  refine⟨_,rfl,⟨[.slice none 0 0],⟨rfl,.inr ⟨w.heap.size+1,1,_,(0,0),rfl,by omega,ba _ _ _,fun i _ h=>by have:=h.2;simp at this,Nat.le_refl _,by unfold maxLen;omega,rfl,rfl⟩⟩,fun i hi=>?_⟩,by go_grown⟩;obtain rfl:i=0:=by simp[bS]at hi;omega
  exact⟨_,rfl,aD.nil _ _ _ _⟩
 | k+1,st,v,w,hk64,dT,cK,hv=>by
  have IH:=aa (EF a gg k);obtain⟨i0,cG,cf,bP,cj⟩:=info_parts Tryz.infoRound;have bQ:=aa (And.intro cG (And.intro cf (And.intro bP cj)));obtain⟨i1,n8,iV,jm,iD⟩:=info_parts Tryz.infoWordRow;have sR:=aa (And.intro n8 (And.intro iV (And.intro jm iD)));obtain⟨pa,ca,rfl,la1,la2,ea⟩:=hv.at;obtain⟨b1,o1,rfl,x1,c1,dj⟩:=ea st dT;obtain⟨pm,cm,rfl,lm1,lm2,em⟩:=dj.at;rw[Nat.mul_one]at c1;have HV:=aa hv;have C1:=aa c1;have EM:=aa em;have Xy:Hid (∀ i (hi:i<(a.states[st]).length),0<=(a.states[st][i]).to/\(a.states[st][i]).to<a.states.length):=aa (fun i hi=>gg st dT _ (by rw[ap [] dT];exact List.getElem_mem hi));rw[JU,ap [] dT]at cK ⊢;generalize a.states[st]=mv at c1 C1 EM Xy lm1 lm2 cK dj ⊢;have kj:Hid (∀ i (hi:i<mv.length),kh a k mv (i+1)=kh a k mv i++nd a k mv[i]):=aa (Oj (nd a k) mv);have sW:Hid (∀ i,(kh a k mv i).length<=(mv.flatMap (nd a k)).length):=aa (F0 (nd a k) mv)
  have KH:Hid (∀ i (hi:i<mv.length),(nd a k mv[i]).length+(kh a k mv i).length<=4096):=aa (fun i hi=>by
   have h1:=sW.out (i+1);rw[kj.out i hi,List.length_append]at h1
   omega)
  have HFE0:Hid (kh a k mv mv.length=mv.flatMap (nd a k)):=aa (by unfold kh;rw[List.take_length]);have HF00:Hid (kh a k mv 0=[]):=aa rfl;generalize mv.flatMap (nd a k)=FF at sW HFE0 cK ⊢;obtain⟨n,hn⟩:∃ n,mv.length=n:=⟨_,rfl⟩;have HN:=aa hn;obtain⟨ns,uL⟩:∃ ns,a.states.length=ns:=⟨_,rfl⟩;have HNS:=aa uL;rw[uL]at dT la1 la2 Xy HV ⊢;clear hv ea em dj uL cG cf bP cj n8 iV jm iD;obtain⟨kz,Fg⟩:∃ kz:Int,((k+1:Nat):Int)=kz:=⟨_,rfl⟩;have eT:(kz == 0)=false:=beq_eq_false_iff_ne.2 (by omega);have HW1K:Hid (IntKind.i64.wrap (kz - 1)=(k:Int)):=aa (by rw[IntWalk.i64_in _ (by omega)];omega);rw[Fg];clear Fg
  go_enter Tryz.func157,Tryz.ntmps157
  go_wp2_with fail
  refine bj (fun W=>Below w.heap.size w W/\W.heap[w.heap.size]?=some (.cells #[.int .i64 a.n,.slice (some ⟨b1,o1,none⟩) ns ca] 27)) ⟨by go_grown,ak _ _⟩ (fun w1 jn=>?_);have gc:=aa jn.1;have dy:=aa jn.2;have fP:=ar jn.2;have hsz1:=jn.1.size;clear jn
  go_loopw [7,8] (fun o i wr=>∃ i':Nat,i'<=n/\i=.int .i64 i'/\Below w1.heap.size w1 wr/\ui wr w1.heap.size o (kh a k mv i')) (fun _ i _=>n - (intOf i).toNat)
  case atStart=>exact⟨0,by omega,rfl,Below.refl _ _,by rw[HF00.out];exact bW.nil _ _⟩
  case round=>
   obtain⟨i,hi,rfl,aq,qD⟩:=hrel;have aR:=aa aq;have db:=ae gc.out aq;have tA:=ab (af aq dy.out);have tc:=ai db C1.out;have hfr':=qD;obtain⟨xs0,Fo,PE⟩:=qD;obtain⟨po,co,rfl⟩:=Fo.slice;have uR:=aa hfr';have TV:=aa (Fo.lt);clear hfr' Fo PE;by_cases az:i<n
   ·have Tq:i<mv.length:=by rw[HN.out];exact az
    obtain⟨b2,o2,rfl,⟨⟨d0,_⟩,⟨d1,_⟩,⟨d2,_⟩,⟨d3,_⟩,⟨d4,_⟩,⟨d5,_⟩,⟨d6,_⟩⟩,⟨d7,_⟩⟩:=EM.out i Tq;have d0:=ai db d0;have d1:=ai db d1;have d2:=ai db d2;have d3:=ai db d3;have d4:=ai db d4;have d5:=ai db d5;have d6:=ai db d6;have d7:=ai db d7;have Wi:=aa (Xy.out i Tq);have Jg:=aa (kj.out i Tq);have Fz:=aa (KH.out i Tq);generalize mv[i]=m at d0 d1 d2 d3 d4 d5 d6 d7 Wi Jg Fz;obtain⟨to,od⟩:∃ to:Nat,m.to=to:=⟨m.to.toNat,by have:=Wi.out;omega⟩;have hto2:to<ns:=by have:=Wi.out;omega
    have Pn:=aa od;rw[od]at d7;have Sw:=HW1K.out;obtain⟨wrA,lB⟩:∃ x,x=wr:=⟨_,rfl⟩;subst lB;clear od;have S2:Hid (nd a k m=(bS a k to).map (m.r :: ·)):=aa (by unfold nd;rw[Pn.out,Int.toNat_natCast]);have hRL:(bS a k to).length<=4096:=by have h1:=Fz.out;rw[S2.out,List.length_map]at h1;omega
    have tA2:=fun o=>ab (am o (af aq dy.out))
    go_wp2_with fail
    refine aL (fun W=>Below wrA.heap.size wrA W/\W.heap[wrA.heap.size]?=some (.cells #[.int .i64 m.r.g.n,.int .i64 m.r.g.h0,.int .i64 m.r.g.h1,.int .i64 m.r.g.h2,.int .i64 m.r.g.h3,.int .i64 m.r.g.h4,.int .i64 m.r.f,.int .i64 to] 143)) ⟨by go_grown,ak _ _⟩ (fun w4 Cw=>?_);have P0:=aa Cw.1;have fe:=aa Cw.2;have At:=ar Cw.2;clear Cw d0 d1 d2 d3 d4 d5 d6 d7 tA tA2 tc;refine(IH.out to _ w4 (by omega) (by rw[HNS.out];exact hto2) hRL (HV.out.up up_moves (ae db P0.out))).mono ?_;rintro r w5 ⟨u,rfl,hu,dO⟩;have HU:=aa hu;have iy:=aa dO;obtain⟨xs,dj,dU⟩:=hu;obtain⟨pu,cu,rfl⟩:=dj.slice;have km:=aa dj;have fB:=aa dU;obtain⟨rs,Is⟩:∃ rs,bS a k to=rs:=⟨_,rfl⟩;rw[Is]at S2 hRL HU km fB ⊢;have hsz5:=dO.size;have HF5:=aa (uR.out.up (ae P0.out dO));have HBW5:=aa (ae aR.out (ae P0.out dO));have eO:=aa (af dO fe.out);have Wh:Hid (∀ x∈rs,x.length=k):=aa (by rw[<-Is];exact jR a k to);have hszA:=aR.out.size;clear dj dU Is dO IH db aq;obtain⟨LJ,Pe⟩:∃ LJ:Nat->List (List Rd),LJ=fun j=>kh a k mv i++(rs.take j).map (m.r :: ·):=⟨_,rfl⟩
    have Kx:Hid (LJ 0=kh a k mv i):=aa (by rw[Pe];simp);have Ua:Hid (∀ j (hj:j<rs.length),LJ (j+1)=LJ j++[m.r :: rs[j]]):=aa (fun j hj=>by rw[Pe];dsimp only;rw[List.take_succ_eq_append_getElem hj,List.map_append,List.append_assoc];rfl);have TD:Hid (LJ rs.length=kh a k mv (i+1)):=aa (by rw[Pe];dsimp only;rw[List.take_length,Jg.out,S2.out])
    have HJL:Hid (∀ j,j<=rs.length->(LJ j).length<=4096/\(LJ j).length=(LJ 0).length+j):=aa (fun j hj=>by
     have h1:=Fz.out;rw[S2.out,List.length_map]at h1;rw[Pe];simp only[List.length_append,List.length_map,List.length_take,Nat.min_eq_left hj,List.take_zero,List.map_nil,List.length_nil]
     omega)
    clear Pe;rw[<-Kx.out]at HF5 uR TV ⊢
    go_wp2_with fail
    go_loopw [7,11] (fun o j wr=>∃ j':Nat,j'<=rs.length/\j=.int .i64 j'/\Below w1.heap.size w1 wr/\wr.heap[wrA.heap.size]?=some (.cells #[.int .i64 m.r.g.n,.int .i64 m.r.g.h0,.int .i64 m.r.g.h1,.int .i64 m.r.g.h2,.int .i64 m.r.g.h3,.int .i64 m.r.g.h4,.int .i64 m.r.f,.int .i64 to] 143)/\(∀ q,w4.heap.size<=q->q<w5.heap.size->wr.heap[q]?=w5.heap[q]?)/\w5.heap.size<=wr.heap.size/\(∀ g,o.ownBlock=some g->g<w4.heap.size\/w5.heap.size<=g)/\ui wr w1.heap.size o (LJ j')) (fun _ j _=>rs.length - (intOf j).toNat)
    case atStart=>exact⟨0,by omega,rfl,HBW5.out,eO.out,fun q _ _=>rfl,Nat.le_refl _,fun g hg=>.inl (by have:=(TV.out g hg).2;omega),HF5.out⟩
    case round=>
     obtain⟨j,hj,rfl,SN,eN,hwin,hszj,wS,hfj⟩:=hrel;have XC:=aa SN;have Se:=aa eN;have RS:=aa hwin;have TR:=aa wS;have HFJ:=aa hfj;obtain⟨ys,jm,iD⟩:=hfj;obtain⟨pq,cq,rfl⟩:=jm.slice;have xj:=aa jm;have uK:=aa iD;clear SN hwin wS jm iD;by_cases gR:j<rs.length
     ·obtain⟨x,KL,pQ⟩:=fB.out j gR
      obtain⟨g0,c0,e0,Jo⟩:=km.out.cell j x KL;injection e0 with e0
      subst e0;have sO:=km.out.lt g0 rfl
      have tx:wr.cell? ⟨g0,j,none⟩=some x:=by
       unfold World.cell? at Jo ⊢;rw[RS.out g0 sO.1 sO.2];exact Jo
      have Jn:aD wr w4.heap.size 141 7 x rs[j].length (cV rs[j]):=pQ.keep fun g o hg hh=>(RS.out g (pQ.lt g hg).1 (pQ.lt g hg).2).trans hh
      have iw:(rs[j]).length=k:=Wh.out _ (List.getElem_mem gR);have yT:=aa (Ua.out j gR);have AG:=aa (HJL.out j (by omega));generalize rs[j]=word at Jn iw yT pQ;obtain⟨px,cx,rfl⟩:=Jn.slice;have HRK:=aa (Jn.rawK (rK word));have TF:=aa iw;have t9:=ab eN;have tx2:=fun o=>ai (show Below wr.heap.size wr (wr.alloc o) by go_grown) tx
      have su:Below wr.heap.size wr (wr.alloc (.cells m.r.c 141)):=by go_grown
      have jL:Hid (aD (wr.alloc (.cells m.r.c 141)) wr.heap.size 141 7 (.slice (some ⟨wr.heap.size,0,none⟩) 1 1) 1 m.r.c.toList):=aa ⟨rfl,.inr ⟨wr.heap.size,1,_,(0,0),rfl,Nat.le_refl _,ak _ _,fun i _ h=>by have:=h.2;simp at this,Nat.le_refl _,by unfold maxLen;omega,rfl,rfl⟩⟩
      have HRK2:Hid (gh (wr.alloc (.cells m.r.c 141)) 7 (.slice px word.length cx) word.length (cV word)):=aa (by
       have h:=(Jn.up su).rawK (rK word)
       exact h)
      have gO:Hid (1+word.length<=maxLen):=aa (by rw[iw];unfold maxLen;omega);have eo:Hid ((1+word.length) * 56<=140737488355328):=aa (by rw[iw];omega);have HMX2:Hid ((LJ j).length+1<=maxLen):=aa (by have:=AG.out.1;unfold maxLen;omega);have tK:Hid (((LJ j).length+1) * 24<=140737488355328):=aa (by have:=AG.out.1;omega);have hBJs:=XC.out.size;clear pQ Jn iw Jo KL eN;have Ig:=aa su;clear su tx
      go_wp2_with (at_builtin;first
                   | (refine fi _ rfl (.tmp 50) (.tmp 54) 87 rfl wr.heap.size 141 i0 _ 7 56 Tryz.underlying87 bQ.out.1 bQ.out.2.1 bQ.out.2.2.1 bQ.out.2.2.2 rfl (by decide) _ 1 m.r.c.toList rfl jL.out _ word.length (cV word) rfl HRK2.out gO.out eo.out (by simp) ?_;intro v6 w6 gF fN hob6;obtain⟨av6,cv6,rfl⟩:=gF.slice;have Xd:=aa fN;have HO6:=aa gF;have Tu:=fN.size;simp only[World.size_alloc]at Tu;have Il:Hid (∀ q,q<wr.heap.size->w6.heap[q]?=wr.heap[q]?):=aa (fun q hq=>(Xd.out.block q (by simp;omega) (fun e=>by have e:=cU e;dsimp only at e;omega)).trans (Below.heap_alloc wr _ q hq));have RJ:Hid (aD (w6.alloc (.cells #[.slice av6 (1+word.length) cv6] 87)) w1.heap.size 87 1 (.slice pq (LJ j).length cq) (LJ j).length ys):=aa ((((xj.out.up Ig.out).apart jL.out (by decide) Xd.out)).up (show Below w6.heap.size w6 (w6.alloc (.cells #[.slice av6 (1+word.length) cv6] 87)) by go_grown));have bB:=aa (eA w6 [.slice av6 (1+word.length) cv6] 87);have HBS7:Hid (w1.heap.size<=(w6.alloc (.cells #[.slice av6 (1+word.length) cv6] 87)).heap.size):=aa (by simp;omega);clear gF fN hob6)
                   | (refine aZ _ rfl (.tmp 49) (.tmp 56) 221 rfl w1.heap.size 87 i1 _ 1 24 Tryz.underlying221 sR.out.1 sR.out.2.1 sR.out.2.2.1 sR.out.2.2.2 rfl (by decide) _ (LJ j).length _ rfl RJ.out ⟨w6.heap.size,0,none⟩ 1 1 [.slice av6 (1+word.length) cv6] rfl rfl bB.out (by simp[Value.oneCell']) HMX2.out tK.out HBS7.out ?_;intro v9 w9 eh dg IC))
      have ry:=dg.size;simp only[World.size_alloc]at ry;have hxl2:(m.r :: word).length=1+word.length:=by simp;omega
      have hx6:aD (w6.alloc (.cells #[.slice av6 (1+word.length) cv6] 87)) w1.heap.size 141 7 (.slice av6 (1+word.length) cv6) (m.r :: word).length (cV (m.r :: word)):=by
       rw[hxl2];exact(HO6.out.base (show w1.heap.size<=wr.heap.size from hBJs)).up (show Below w6.heap.size w6 (w6.alloc (.cells #[.slice av6 (1+word.length) cv6] 87)) by go_grown)
      have jr:∀ i (hi:i<(LJ j).length),∃ x,ys[i]?=some x/\aD (w6.alloc (.cells #[.slice av6 (1+word.length) cv6] 87)) w1.heap.size 141 7 x (LJ j)[i].length (cV (LJ j)[i]):=fun i hi=>by
       obtain⟨x,q1,q2⟩:=uK.out i hi;exact⟨x,q1,(q2.keep fun g o hg hh=>(Il.out g (q2.lt g hg).2).trans hh).up (show Below w6.heap.size w6 (w6.alloc (.cells #[.slice av6 (1+word.length) cv6] 87)) by go_grown)⟩
      have hfr9:=bW.snoc RJ.out jr (by decide) hx6 dg eh
      have yD:∀ q,q<wr.heap.size->(∀ g,(Value.slice pq (LJ j).length cq).ownBlock=some g->q≠g)->w9.heap[q]?=wr.heap[q]?:=fun q hq hn=>by
       rw[dg.block q (by simp;omega) (fun e=>hn q e.symm rfl),Below.heap_alloc w6 _ q (by omega)];exact Il.out q hq
      have hb69:Below w1.heap.size w1 (w6.alloc (.cells #[.slice av6 (1+word.length) cv6] 87)):=(Below.grown (ae XC.out Ig.out) Xd.out (by simp;omega) (fun g hg=>by have e:=cU hg;dsimp only at e;omega)).alloc (by omega) _
      go_roundw
      case rel=>
       refine⟨j+1,by omega,by go_num,Below.grown hb69 dg (by simp;omega) (fun g hg=>(RJ.out.lt g hg).1),?_,fun q h1 h2=>?_,by omega,fun g hg=>?_,by rw[yT.out];exact hfr9⟩
       ·exact(yD _ (ar Se.out) (fun g hg e=>xj.out.ne Se.out (by decide) g hg e.symm)).trans Se.out
       ·exact(yD q (by omega) (fun g hg e=>by rcases TR.out g hg with h|h<;>omega)).trans (RS.out q h1 h2)
       ·rcases IC with h|h
        ·exact TR.out g (h ▸ hg)
        ·rw[h]at hg
         have e:=cU hg;simp at e;exact .inr (by omega)
      case measure=>simp[intOf];omega
     ·obtain rfl:j=rs.length:=by omega
      rw[TD.out]at HFJ xj ⊢
      go_wp2_with fail
      go_roundw
      case rel=>exact⟨i+1,by omega,by go_num,XC.out,HFJ.out⟩
      case measure=>simp[intOf];omega
   ·obtain rfl:i=n:=by omega
    have WR:Hid (ui wr w1.heap.size (.slice po (kh a k mv i).length co) FF):=aa (by have h:=uR.out;rwa [<-HFE0.out,HN.out])
    go_wp2_with fail
    go_ret
    exact⟨_,rfl,B2 WR.out (by omega),ae gc.out aR.out⟩
end Go.Proofs.YtmeaoneaephjeaaGreatDoor
namespace Go.Proofs.YtmeaoneaephjeaaGreatDoor
open Go.RowKit Go Go.Shelf
def dp(F:Array Value) (d:List Deferred) (Core:(Nat->Bool)->(Nat->Value)->World->Prop) (D:Nat->Bool) (i s:Nat) (x:Nat->Value) (a':Act) (W':World):Prop:=
 ∃ v,a'={ tmps:=F.setIfInBounds s v,defers:=d }/\Core (bz D i) (cA x i v) W'
def XJ(F:Array Value) (d:List Deferred) (Core:(Nat->Bool)->(Nat->Value)->World->Prop) (D:Nat->Bool) (i:Nat) (x:Nat->Value) (a':Act) (W':World):Prop:=
 a'={ tmps:=F,defers:=d }/\Core (bz D i) x W'
theorem dp.mk{F:Array Value} {d:List Deferred} {Core:(Nat->Bool)->(Nat->Value)->World->Prop} {D:Nat->Bool} {i s:Nat} {x:Nat->Value} {a':Act} {W':World} (v:Value) (hc:Core (bz D i) (cA x i v) W') (ha:a'={ tmps:=F.setIfInBounds s v,defers:=d }):dp F d Core D i s x a' W':=⟨v,ha,hc⟩
theorem oI{P:Program} {id:Nat} {l:List Oper} {Q:Exit->Act->World->Prop} {T:Array Value} {d:List Deferred} {w:World} (n:Nat) (S:List Nat) (Core:(Nat->Bool)->(Nat->Value)->World->Prop) (hm:P.follows .mixedOrders=true) (hn:l.toArray.size=n) (hS:S.Nodup)
  (hB:kg l.toArray n=true) (h0:∀ x,Core (fun _=>false) x w.drew)
  (dC:∀ x W D i o s F,l.toArray[i]?=some o->S[i]?=some s->D i=false->(∀ e∈o.after,Region.binds .any e=true->D e.on=true)->Core D x W->F=bd T S x →
   wpList P l.toArray (Exit.then (dp F d Core D i s x) Q) [o] { tmps:=F,defers:=d } W)
  (hfree:∀ x W D i o F,l.toArray[i]?=some o->S.length<=i->i<n->D i=false->(∀ e∈o.after,Region.binds .any e=true->D e.on=true)->Core D x W->F=bd T S x →
   wpList P l.toArray (Exit.then (XJ F d Core D i x) Q) [o] { tmps:=F,defers:=d } W)
  (gY:∀ x W D F,(∀ j,j<n->D j=true)->Core D x W->F=bd T S x->Q .normal { tmps:=F,defers:=d } W) :
  (Code.region id l.toArray true).wp P Q { tmps:=T,defers:=d } w:=by
 refine wp_region_any hm ?_;refine qN hn hB (fun D a W=>∃ x,a={ tmps:=bd T S x,defers:=d }/\Core D x W) ?_ ?_ _ _ _ _ (by rw[Array.size_replicate,hn]) ?_ ?_
 ·rintro D a W i o hi ho hD aj ⟨x,rfl,hc⟩
  by_cases his:i<S.length
  ·obtain⟨s,hs⟩:∃ s,S[i]?=some s:=⟨S[i],List.getElem?_eq_getElem his⟩
   refine dW ?_ (js ho (dC x W D i o s _ ho hs hD aj hc rfl));rintro a' W' ⟨v,rfl,kH⟩;exact⟨cA x i v,by rw[ij T S hS x i s v hs],kH⟩
  ·refine dW ?_ (js ho (hfree x W D i o _ ho (by omega) hi hD aj hc rfl))
   rintro a' W' ⟨rfl,kH⟩;exact⟨x,rfl,kH⟩
 ·rintro D a W aP ⟨x,rfl,hc⟩
  exact gY x W D _ aP hc rfl
 ·rw[hn];exact Nat.le_trans List.countP_le_length (by simp)
 ·have hf:(fun j=>(Array.replicate l.toArray.size false).getD j false)=fun _=>false:=by
   funext j
   simp only[Array.getD];split<;>simp
  rw[hf];refine⟨fun i=>T[S.getD i 0]!,?_,h0 _⟩;rw[it T S hS];intro i s hi hs;rw[List.getD_eq_getElem?_getD,hi];rfl
end Go.Proofs.YtmeaoneaephjeaaGreatDoor
namespace Go.Proofs.YtmeaoneaephjeaaGreatDoor
open Go.RowKit Go Go.Shelf
attribute [local go_sem] Oper.semAt_some
def XK(base:Nat) (l:List Vw):MP:=⟨fun x W=>aD W base 190 8 x l.length (eI l),fun _ _ _ h hb=>h.up hb⟩
def XT(base:Nat) (v:Vw):MP:=⟨fun x W=>∃ b,x=.slice (some ⟨b,0,none⟩) 1 1/\base<=b/\W.heap[b]?=some (.cells v.c 190),fun _ _ _ h hb=>by obtain⟨b,e,h1,h2⟩:=h;exact⟨b,e,h1,af hb h2⟩⟩
theorem Ac(tmps:Array Value) (B:Nat) (W:World) (n i:Int) (u:Value) (h4:tmps[4]?.getD undef=.pointer (some ⟨B,0,none⟩)) (h5:tmps[5]?.getD undef=.int .i64 i)
  (hB:W.heap[B]?=some (.cells #[.int .i64 n,u] 32)):(results Tryz.f160 tmps).run Tryz.prog W=.ok (.tuple #[.agg #[.int .i64 n,u],.int .i64 i]) W:=by
 have t2:=ab hB;simp[results,Tryz.results160,go_sem,h4,h5,t2]
structure PtR (w:World) (base b2 b4 b7:Nat) (n:Int) (ot u1:Value) (len m:Nat) (xs:List Value) (D:Nat->Bool) (x:Nat->Value) (W:World):Prop where
 old:Below w.heap.size w W
 r7:W.heap[b7]?=some (.cells #[.int .i64 n,u1] 32)
 r2:W.heap[b2]?=some (.cells #[.int .i64 n,ot] 32)
 r4:W.heap[b4]?=some (.cells (if D 4 then #[.int .i64 n,u1] else #[.int .i64 0,.slice none 0 0]) 32)
 own:aD W base 190 8 u1 m xs
 v0:D 0=true->x 0=.agg #[.int .i64 n,u1]
 v1:D 1=true->x 1=.pointer (some ⟨b2,1,none⟩)
 v2:D 2=true->x 2=ot
 v3:D 3=true->x 3=.int .i64 len
 v5:D 5=true->x 5=.int .i64 len
theorem PtR.set{w:World} {base b2 b4 b7:Nat} {n:Int} {ot u1:Value} {len m:Nat} {xs:List Value} {D:Nat->Bool} {x:Nat->Value} {W:World} (h:PtR w base b2 b4 b7 n ot u1 len m xs D x W) (i:Nat) (hi:i≠4) (v:Value)
  (hv:(i=0->v=.agg #[.int .i64 n,u1])/\(i=1->v=.pointer (some ⟨b2,1,none⟩))/\(i=2->v=ot)/\(i=3\/i=5->v=.int .i64 len)):PtR w base b2 b4 b7 n ot u1 len m xs (bz D i) (cA x i v) W:=by
 have key:∀ j,bz D i j=true->(j=i/\cA x i v j=v)\/(j≠i/\D j=true/\cA x i v j=x j):=fun j hj=>by
  by_cases e:j=i
  ·subst e;exact .inl ⟨rfl,ff _ _ _⟩
  ·exact .inr ⟨e,by simpa[bz,e] using hj,fK _ _ e⟩
 refine⟨h.old,h.r7,h.r2,by rw[show bz D i 4=D 4 by simp[bz,show ¬ (4=i) by omega]];exact h.r4,h.own,fun hd=>?_,fun hd=>?_,fun hd=>?_,fun hd=>?_,fun hd=>?_⟩
 ·rcases key 0 hd with ⟨e,h1⟩|⟨_,h1,h2⟩
  ·rw[h1];exact hv.1 e.symm
  ·rw[h2];exact h.v0 h1
 ·rcases key 1 hd with ⟨e,h1⟩|⟨_,h1,h2⟩
  ·rw[h1];exact hv.2.1 e.symm
  ·rw[h2];exact h.v1 h1
 ·rcases key 2 hd with ⟨e,h1⟩|⟨_,h1,h2⟩
  ·rw[h1];exact hv.2.2.1 e.symm
  ·rw[h2];exact h.v2 h1
 ·rcases key 3 hd with ⟨e,h1⟩|⟨_,h1,h2⟩
  ·rw[h1];exact hv.2.2.2 (.inl e.symm)
  ·rw[h2];exact h.v3 h1
 ·rcases key 5 hd with ⟨e,h1⟩|⟨_,h1,h2⟩
  ·rw[h1];exact hv.2.2.2 (.inr e.symm)
  ·rw[h2];exact h.v5 h1
theorem PtR.store{w:World} {base b2 b4 b7:Nat} {n:Int} {ot u1:Value} {len m:Nat} {xs:List Value} {D:Nat->Bool} {x:Nat->Value} {W:World} (h:PtR w base b2 b4 b7 n ot u1 len m xs D x W) (hw:w.heap.size<=b4) (h2:b2≠b4) (h7:b7≠b4) (v:Value):PtR w base b2 b4 b7 n ot u1 len m xs (bz D 4) (cA x 4 v) (W.setRow b4 #[.int .i64 n,u1]):=by
 have k:∀ j,j≠4->bz D 4 j=D j:=fun j hj=>by simp[bz,hj]
 have l:∀ j,j≠4->cA x 4 v j=x j:=fun j hj=>fK _ _ hj
 refine⟨below_setRow h.old hw _,by rw[setRow_other _ _ _ _ h7];exact h.r7,by rw[setRow_other _ _ _ _ h2];exact h.r2,?_,h.own.keep fun g o hg ho=>?_,?_,?_,?_,?_,?_⟩
 ·rw[show bz D 4 4=true by simp[bz]]
  exact setRow_heap _ _ _ _ _ _ h.r4
 ·rw[setRow_other _ _ _ _ (h.own.ne h.r4 (by decide) g hg)]
  exact ho
 all_goals rw[k _ (by omega),l _ (by omega)]
 ·exact h.v0
 ·exact h.v1
 ·exact h.v2
 ·exact h.v3
 ·exact h.v5
theorem QU(n:Int) (tab:List Vw) (vt:Value) (v:Vw) (base:Nat) (w:World) (l7:base<=w.heap.size) (ht:aD w base 190 8 vt tab.length (eI tab)) (cP:∀ u∈tab,jF u) (hl:tab.length<=1048576) :
  Calls Tryz.prog 160 #[.agg #[.int .i64 n,vt],v.v] w fun r w'=>(∃ u,r=.returned (.tuple #[.agg #[.int .i64 n,u],.int .i64 ((putV tab v).2:Nat)])/\aD w' base 190 8 u (putV tab v).1.length (eI (putV tab v).1))/\Below w.heap.size w w':=by
 obtain⟨pt,ct,rfl⟩:=ht.slice;obtain⟨i0,cG,cf,bP,cj⟩:=info_parts Tryz.infoView;have bQ:=aa (And.intro cG (And.intro cf (And.intro bP cj)));have HT:=aa ht;have pR:=aa (fun W (hb:Below w.heap.size w W)=>JS n tab _ v W (xW (ht.up hb) cP (by omega)));have zd:=aa (LT tab v);generalize putV tab v=pv at zd ⊢;generalize viewIx tab v=ix at pR zd;have HMX0:Hid (0+tab.length<=maxLen):=aa (by unfold maxLen;omega);have HBY0:Hid ((0+tab.length) * 64<=140737488355328):=aa (by omega);have HMX1:Hid (tab.length+1<=maxLen):=aa (by unfold maxLen;omega);have HBY1:Hid ((tab.length+1) * 64<=140737488355328):=aa (by omega);clear ht cG cf bP cj cP
 go_enter Tryz.func160,Tryz.ntmps160
 go_wp2_with fail
 refine aL (fun W=>Below w.heap.size w W/\W.heap[w.heap.size]?=some (.cells #[.int .i64 n,.slice pt tab.length ct] 32)/\W.heap[w.heap.size+1]?=some (.cells v.c 190)/\W.heap[w.heap.size+1+1]?=some (.cells #[.int .i64 0,.slice none 0 0] 32)) ⟨by go_grown,am _ (am _ (ak _ _)),am _ (ba _ _ _),dH _ _ _ _⟩ (fun W0 aW=>?_);obtain⟨aC,h2,h3,h4⟩:=aW;refine(pR.out W0 aC).mono ?_;rintro r w1 ⟨rfl,aG⟩;have bC:=aa (ae aC aG);have fB:=aa (af aG h2);have iW:=aa (af aG h3);have la:=aa (af aG h4);have RA:=aa (HT.out.up (ae aC aG));have fP:=ar la.out;have t2:=ab fB.out;have t4:=ab la.out;have z4:=aE la.out;clear aC h2 h3 h4 aG pR;by_cases P4:0<=ix
 ·have HE:Hid (pv=(tab,ix.toNat)/\ix<tab.length):=aa (by rcases zd.out with h|h;omega;exact h.2)
  have hd:decide (ix ≥ 0)=true:=decide_eq_true P4;have fS:decide (0<=ix)=true:=decide_eq_true P4
  go_wp2_with fail
  have bV:((w1.setCell ⟨w.heap.size+1+1,0,none⟩ (.int .i64 n)).setCell ⟨w.heap.size+1+1,1,none⟩ (.slice pt tab.length ct)).heap[w.heap.size+1+1]?=some (.cells #[.int .i64 n,.slice pt tab.length ct] 32):=(aF (aF la.out _ _) _ _).trans rfl;have e1:=HE.out.1;subst e1;refine bodyPost_ret (Ac _ (w.heap.size+1+1) _ n ix _ rfl rfl bV) rfl ⟨⟨.slice pt tab.length ct,?_,?_⟩,(bC.out.setCell (by dsimp only;omega) _).setCell (by dsimp only;omega) _⟩
  ·dsimp only
   rw[Int.toNat_of_nonneg P4]
  ·have bM:∀ g,(Value.slice pt tab.length ct).ownBlock=some g->g≠w.heap.size+1+1:=fun g hg=>by have:=(HT.out.lt g hg).2;omega
   exact(RA.out.put bM _ _).put bM _ _
 ·have HE:Hid (pv=(tab++[v],tab.length)):=aa (by rcases zd.out with h|h;exact h.2;omega)
  have hd:decide (ix ≥ 0)=false:=decide_eq_false P4;have fS:decide (0<=ix)=false:=decide_eq_false P4
  go_wp2_with fail
  refine bj (fun W=>Below w1.heap.size w1 W/\W.heap[w1.heap.size]?=some (.cells #[.int .i64 n,.slice none 0 0] 32)) ⟨by go_grown,ak _ _⟩ (fun W1 cC=>?_);have gc:=aa cC.1;have KQ:=aa cC.2;have wL:=ar cC.2;have fB:=aa (af cC.1 fB.out);have iW:=aa (af cC.1 iW.out);have la:=aa (af cC.1 la.out);have K9:=aa (RA.out.up cC.1);have hsW:=cC.1.size;have eP:=aa (ae bC.out cC.1);clear cC RA zd t2 t4 z4;obtain⟨b2,aV⟩:∃ b2,w.heap.size=b2:=⟨_,rfl⟩;obtain⟨b3,bA⟩:∃ b3,w.heap.size+1=b3:=⟨_,rfl⟩;obtain⟨b7,CM⟩:∃ b7,w1.heap.size=b7:=⟨_,rfl⟩;rw[bA]at iW;rw[aV]at fB;rw[CM]at KQ ⊢;rw[aV,show b2+1=b3 by omega];have hS:List.Nodup [18,19,20,21,22,23,24]:=by decide
  refine dJ 7 [18,19,20,21,22,23,24] [MP.eq (.pointer (some ⟨b7,1,none⟩)),MP.eq (.slice none 0 0),MP.eq (.pointer (some ⟨b2,1,none⟩)),MP.eq (.slice pt tab.length ct),XK W1.heap.size tab,MP.eq (v.v),XT W1.heap.size v] (by kernel_rfl) (by simp) hS rfl (by kernel_rfl) (by kernel_rfl) (by kernel_rfl) ?step ?tail
  case step=>
   intro xq Wq iq oq sq F hi ho hs hB aj hF;rcases (show iq=0\/iq=1\/iq=2\/iq=3\/iq=4\/iq=5\/iq=6 by omega) with rfl|rfl|rfl|rfl|rfl|rfl|rfl
   all_goals (obtain rfl:=cU ho.symm;obtain rfl:=cU hs.symm;clear hi ho hs)
   ·obtain⟨g7,h7⟩:=bT hF 7 (.pointer (some ⟨b7,0,none⟩)) (by decide) rfl
    clear hF aj
    go_wp2_with fail
    exact aQ.mk (.pointer (some ⟨b7,1,none⟩)) (Below.refl _ _) rfl rfl
   ·obtain⟨e0,f0⟩:=aJ hF 0 18 (.pointer (some ⟨b7,1,none⟩)) hS rfl (by kernel_rfl) (aj ⟨0,.data⟩ (by simp) rfl)
    have tb:=ab (af hB KQ.out) 1;simp at tb;clear hF aj
    go_wp2_with fail
    exact aQ.mk (.slice none 0 0) (Below.refl _ _) rfl rfl
   ·obtain⟨g2,h2⟩:=bT hF 2 (.pointer (some ⟨b2,0,none⟩)) (by decide) rfl
    clear hF aj
    go_wp2_with fail
    exact aQ.mk (.pointer (some ⟨b2,1,none⟩)) (Below.refl _ _) rfl rfl
   ·obtain⟨e2,f2⟩:=aJ hF 2 20 (.pointer (some ⟨b2,1,none⟩)) hS rfl (by kernel_rfl) (aj ⟨2,.data⟩ (by simp) rfl)
    have tb:=ab (af hB fB.out) 1;simp at tb;clear hF aj
    go_wp2_with fail
    exact aQ.mk (.slice pt tab.length ct) (Below.refl _ _) rfl rfl
   ·obtain⟨e1,f1⟩:=aJ hF 1 19 (.slice none 0 0) hS rfl (by kernel_rfl) (aj ⟨1,.data⟩ (by simp) rfl)
    obtain⟨e3,f3⟩:=aJ hF 3 21 (.slice pt tab.length ct) hS rfl (by kernel_rfl) (aj ⟨3,.data⟩ (by simp) rfl);have HRK:=aa ((K9.out.up hB).rawK (Ei tab));have HBSz:=aa (hB.size);clear hF aj;refine fi _ rfl (.tmp 19) (.tmp 21) 30 rfl W1.heap.size 190 i0 _ 8 64 Tryz.underlying30 bQ.out.1 bQ.out.2.1 bQ.out.2.2.1 bQ.out.2.2.2 rfl (by decide) _ 0 [] (by first|exact e1|exact f1) (aD.nil _ _ _ _) _ tab.length (eI tab) (by first|exact e3|exact f3) HRK.out HMX0.out HBY0.out HBSz.out ?_;intro v9 w9 jp AO IC;have mL:=aa jp;have O4:=aa (Below.grown (Below.refl Wq.heap.size Wq) AO (Nat.le_refl _) (fun g hg=>by cases hg));clear jp AO IC;exact aQ.mk _ O4.out (by have h:=mL.out;rw[Nat.zero_add,List.nil_append]at h;exact h) rfl
   ·obtain⟨g3,h3⟩:=bT hF 3 (.pointer (some ⟨b3,0,none⟩)) (by decide) rfl
    have tb:=ab (af hB iW.out);clear hF aj
    go_wp2_with fail
    exact aQ.mk (v.v) (Below.refl _ _) rfl rfl
   ·obtain⟨e5,f5⟩:=aJ hF 5 23 (v.v) hS rfl (by kernel_rfl) (aj ⟨5,.data⟩ (by simp) rfl)
    clear hF aj
    go_wp2_with fail
    exact aQ.mk _ (by go_grown) ⟨_,rfl,hB.size,ak _ _⟩ rfl
  case tail=>
   clear hS;intro xq Wq F hB aP hF;have d4:aD Wq W1.heap.size 190 8 (xq 4) tab.length (eI tab):=aP 4 (by omega);obtain⟨bn,e6,hbn1,hbn2⟩:∃ b,xq 6=.slice (some ⟨b,0,none⟩) 1 1/\W1.heap.size<=b/\Wq.heap[b]?=some (.cells v.c 190):=aP 6 (by omega);clear aP;obtain⟨a4,c4,e4⟩:=d4.slice;rw[e4]at d4;simp only[bd,cJ,List.setIfInBounds_toArray,List.set_cons_succ,List.set_cons_zero,Nat.reduceAdd]at hF;rw[e4,e6]at hF;generalize xq 0=s0,xq 1=s1,xq 2=s2,xq 3=s3,xq 5=s5 at hF;subst hF;have Jc:=aa d4;have Xh:=aa hB
   have bB:Hid (∀ j u,v.c.toList[j]?=some u->Wq.cell? (Addr.add ⟨bn,0,none⟩ j)=some u):=aa (fun j u hj=>by
    have:(Addr.add ⟨bn,0,none⟩ j)=⟨bn,j,none⟩:=by unfold Addr.add;split<;>simp_all
    rw[this,ab hbn2]
    simpa using hj)
   have HBSq:Hid (W1.heap.size<=Wq.heap.size):=aa hB.size;have hX7:=af hB KQ.out;have RL:=aa hX7;have HX2q:=aa (af hB fB.out);have HX4q:=aa (af hB la.out);have hsq:=hB.size;clear d4 e4 e6 hB hbn2 hX7;simp only[List.drop_succ_cons,List.drop_zero]
   go_wp2_with (at_builtin;(refine aZ _ rfl (.tmp 22) (.tmp 24) 30 rfl W1.heap.size 190 i0 _ 8 64 Tryz.underlying30 bQ.out.1 bQ.out.2.1 bQ.out.2.2.1 bQ.out.2.2.2 rfl (by decide) _ tab.length _ rfl Jc.out ⟨bn,0,none⟩ 1 1 v.c.toList rfl rfl bB.out (by simp[Value.oneCell']) HMX1.out HBY1.out HBSq.out ?_;intro v9 w9 eh dg IC;obtain⟨av9,cv9,rfl⟩:=eh.slice;have AB:=(dg.block b7 (ar RL.out) (fun e=>Jc.out.ne RL.out (by decide) b7 e.symm rfl)).trans RL.out;have c7:=ab AB;have f7:=aE AB))
   obtain⟨W3,ru⟩:∃ W3,W3=w9.setCell ⟨b7,1,none⟩ (.slice av9 (tab.length+1) cv9):=⟨_,rfl⟩;rw[<-ru];have h37:W3.heap[b7]?=some (.cells #[.int .i64 n,.slice av9 (tab.length+1) cv9] 32):=by rw[ru];exact(aF AB _ _).trans rfl
   have hZ:∀ k,k≠b7->k<Wq.heap.size->∀ c,Wq.heap[k]?=some (.cells c 32)->W3.heap[k]?=some (.cells c 32):=fun k h1 h2 c h3=>by
    rw[ru];exact aH ((dg.block k h2 (fun e=>Jc.out.ne h3 (by decide) k e.symm rfl)).trans h3) h1 _ _
   have FN:=hZ b2 (by omega) (ar HX2q.out) _ HX2q.out;have h34:=hZ (w.heap.size+1+1) (by omega) (ar HX4q.out) _ HX4q.out
   have h3o:aD W3 base 190 8 (.slice av9 (tab.length+1) cv9) (tab.length+1) (eI (tab++[v])):=by
    rw[ru,Eh];have h:=(eh.base (show base<=W1.heap.size by omega)).put (eh.ne AB (by decide)) 1 (.slice av9 (tab.length+1) cv9);exact h
   have WA:Below w.heap.size w W3:=by
    rw[ru];exact(Below.grown (ae eP.out Xh.out) dg (by omega) (fun g hg=>by have:=(Jc.out.lt g hg).1;omega)).setCell (p:=⟨b7,1,none⟩) (by dsimp only;omega) _
   clear ru eh dg IC AB c7 f7 hZ;subst bA;subst aV;have mC:Hid (∀ x,PtR w base w.heap.size (w.heap.size+1+1) b7 n (.slice pt tab.length ct) (.slice av9 (tab.length+1) cv9) tab.length (tab.length+1) (eI (tab++[v])) (fun _=>false) x W3.drew):=aa (fun x=>⟨WA.drew,h37,FN,h34,h3o.keep fun g o _ ho=>ho,by simp,by simp,by simp,by simp,by simp⟩);clear h37 FN h34 h3o WA;have hS:List.Nodup [27,28,29,30,999,5]:=by decide
   refine oI 6 [27,28,29,30,999,5] (PtR w base w.heap.size (w.heap.size+1+1) b7 n (.slice pt tab.length ct) (.slice av9 (tab.length+1) cv9) tab.length (tab.length+1) (eI (tab++[v]))) (by kernel_rfl) rfl hS (by kernel_rfl) mC.out ?step6 ?free6 ?last6
   case free6=>
    intro x W D i o F ho h6 h8;simp at h6;omega
   case step6=>
    intro x W D i o s' F ho uS hD aj hc hF;have hi:i<6:=(List.getElem?_eq_some_iff.1 uS).1;have CC2:=ab hc.r2;have CC7:=ab hc.r7;simp only[bd,cJ,List.setIfInBounds_toArray,List.set_cons_succ,List.set_cons_zero,List.set_nil,Nat.reduceAdd]at hF;rcases (show i=0\/i=1\/i=2\/i=3\/i=4\/i=5 by omega) with rfl|rfl|rfl|rfl|rfl|rfl
    all_goals (obtain rfl:=cU ho.symm;obtain rfl:=cU uS.symm;clear hi ho uS)
    ·subst hF
     clear aj
     go_wp2_with fail
     exact dp.mk (.agg #[.int .i64 n,.slice av9 (tab.length+1) cv9]) (hc.set 0 (by omega) _ ⟨fun _=>rfl,by omega,by omega,by omega⟩) rfl
    ·subst hF
     clear aj
     go_wp2_with fail
     exact dp.mk (.pointer (some ⟨w.heap.size,1,none⟩)) (hc.set 1 (by omega) _ ⟨by omega,fun _=>rfl,by omega,by omega⟩) rfl
    ·have e1:=hc.v1 (aj ⟨1,.data⟩ (by simp) rfl)
     rw[e1]at hF;subst hF;clear aj
     go_wp2_with fail
     exact dp.mk (.slice pt tab.length ct) (hc.set 2 (by omega) _ ⟨by omega,by omega,fun _=>rfl,by omega⟩) rfl
    ·have e1:=hc.v2 (aj ⟨2,.data⟩ (by simp) rfl)
     rw[e1]at hF;subst hF;clear aj
     go_wp2_with fail
     exact dp.mk (.int .i64 tab.length) (hc.set 3 (by omega) _ ⟨by omega,by omega,by omega,fun _=>rfl⟩) rfl
    ·have e0:=hc.v0 (aj ⟨0,.data⟩ (by simp) rfl)
     rw[e0]at hF;subst hF;have g3:=hc.r4;rw[hD]at g3;refine wpList_store_row rfl 32 (.tmp 4) (.tmp 27) rfl (w.heap.size+1+1) #[.int .i64 n,.slice av9 (tab.length+1) cv9] rfl rfl 32 _ g3 (by kernel_rfl) rfl (by simp[Value.oneCell']) ?_;exact dp.mk undef (hc.store (by omega) (by omega) (by omega) undef) rfl
    ·have e1:=hc.v3 (aj ⟨3,.data⟩ (by simp) rfl)
     rw[e1]at hF;subst hF;clear aj
     go_wp2_with fail
     exact dp.mk (.int .i64 tab.length) (hc.set 5 (by omega) _ ⟨by omega,by omega,by omega,fun _=>rfl⟩) rfl
   case last6=>
    intro x W3' D F aP hc hF;have e5:=hc.v5 (aP 5 (by omega));have h4:=hc.r4;rw[aP 4 (by omega)]at h4;have h4:W3'.heap[w.heap.size+1+1]?=some (.cells #[.int .i64 n,.slice av9 (tab.length+1) cv9] 32):=h4;simp only[bd,cJ,List.setIfInBounds_toArray,List.set_cons_succ,List.set_cons_zero,List.set_nil,Nat.reduceAdd]at hF;rw[e5]at hF;generalize x 0=y0,x 1=y1,x 2=y2,x 3=y3 at hF;subst hF;have HH4:=aa h4;have TV:=aa hc.old;have jL:=aa hc.own;clear aP hc h4 hS mC
    go_wp2_with fail
    have e1:=HE.out;subst e1;refine bodyPost_ret (Ac _ (w.heap.size+1+1) _ n tab.length _ rfl rfl HH4.out) rfl ⟨⟨_,rfl,?_⟩,TV.out⟩;rw[show (tab++[v]).length=tab.length+1 by simp];exact jL.out
end Go.Proofs.YtmeaoneaephjeaaGreatDoor
namespace Go.Proofs.YtmeaoneaephjeaaGreatDoor
open Go.RowKit Go Go.Shelf
theorem fG{w:World} {v:Value} {l:List Int} (h:aY w v l):∃ a c,v=.slice a l.length c/\∀ i,i<l.length->∃ b o,a=some ⟨b,o,none⟩/\w.cell? ⟨b,o+i,none⟩=some (.int .i64 (l.getD i 0)):=by
 obtain⟨a,c,e,_,_,el⟩:=h.at;refine⟨a,c,e,fun i hi=>?_⟩;obtain⟨b,o,e1,c1,_⟩:=el i hi;rw[Nat.mul_one,<-ap 0 hi]at c1;exact⟨b,o,e1,c1⟩
end Go.Proofs.YtmeaoneaephjeaaGreatDoor
