/-
  A part of the proof: lemmas and contracts that the parts behind it use. Each one's conditions are its own premises.
-/
import Derived.Laws.Tables
import Derived.Laws.CopyOwn
import Derived.Test.YtmeaoneaephjeaaGreatDoorJ5
set_option maxRecDepth 100000
set_option maxHeartbeats 8000000
set_option linter.unusedVariables false
set_option linter.unusedSimpArgs false
namespace Go.Proofs.YtmeaoneaephjeaaGreatDoor
open Go.RowKit Go Go.Shelf
theorem lj(va vb:Value) (a b:List Int) (w:World) (ha:aT w va a) (hb:aT w vb b) :
  Calls Tryz.prog 132 #[va,vb] w fun e w'=>e=.returned (.int .i64 (ordV a b))/\Below w.heap.size w w':=by
 obtain⟨pa,ca,rfl,la1,la2,ea⟩:=ha.at;obtain⟨pb,cb,rfl,lb1,lb2,eb⟩:=hb.at;clear ha hb;have EA:=aa ea;clear ea;have EB:=aa eb;clear eb
 go_enter Tryz.func132,Tryz.ntmps132
 go_wp2
 go_loopw [5] (fun i wr=>Below w.heap.size w wr/\∃ k:Nat,k<=a.length/\k<=b.length/\i=.int .i64 k/\ordV a b=ordV (a.drop k) (b.drop k)) (fun i _=>a.length - (intOf i).toNat)
 case atStart=>exact⟨Below.refl _ _,0,by omega,by omega,rfl,by simp⟩
 case round=>
  obtain⟨ar,k,hk,n8,rfl,aR⟩:=hrel;have H:=aa aR;clear aR;by_cases aA:k<a.length
  ·by_cases iL:k<b.length
   ·obtain⟨b1,o1,rfl,h1⟩:=EA.out k aA
    obtain⟨x,hx⟩:∃ x,x=a[k]:=⟨_,rfl⟩;rw[<-hx,Nat.mul_one]at h1;obtain⟨b2,o2,rfl,h2⟩:=EB.out k iL;obtain⟨y,hy⟩:∃ y,y=b[k]:=⟨_,rfl⟩;rw[<-hy,Nat.mul_one]at h2;have c1:∀ n,(wr.drewN n).cell? ⟨b1,o1+k,none⟩=some (.int .i64 x):=fun n=>ak ar h1.1
    have c2:∀ n,(wr.drewN n).cell? ⟨b2,o2+k,none⟩=some (.int .i64 y):=fun n=>ak ar h2.1
    have HS:=Ea aA iL H.out;rw[<-hx,<-hy]at HS;have KJ:=aa HS;clear HS hx hy h1 h2;rcases Int.lt_trichotomy x y with hn|hn|hn
    ·go_wp2
     go_quiet (fail)
     go_wp2
     go_ret
     refine⟨aD ?_,ed ar _⟩;rw[KJ.out];unfold cmpI;grind
    ·have h1:¬ x<y:=by omega
     have h2:¬ y<x:=by omega
     have HN:=aa hn;clear hn
     go_wp2
     go_quiet (fail)
     go_wp2
     have c3:∀ m n,((wr.drewN m).drewN n).cell? ⟨b1,o1+k,none⟩=some (.int .i64 x):=fun m n=>c1 m
     have c4:∀ m n,((wr.drewN m).drewN n).cell? ⟨b2,o2+k,none⟩=some (.int .i64 y):=fun m n=>c2 m
     go_quiet (fail)
     go_wp2
     go_roundw
     case rel=>
      refine⟨ed ar _,k+1,by omega,by omega,by go_num,?_⟩;rw[KJ.out,if_pos];rw[HN.out,cmpI];simp
     case measure=>simp[intOf];omega
    ·have h1:¬ x<y:=by omega
     go_wp2
     go_quiet (fail)
     go_wp2
     have c3:∀ m n,((wr.drewN m).drewN n).cell? ⟨b1,o1+k,none⟩=some (.int .i64 x):=fun m n=>c1 m
     have c4:∀ m n,((wr.drewN m).drewN n).cell? ⟨b2,o2+k,none⟩=some (.int .i64 y):=fun m n=>c2 m
     go_quiet (fail)
     go_wp2
     go_ret
     refine⟨aD ?_,ed (ed ar _) _⟩;rw[KJ.out];unfold cmpI;grind
   ·have HR:Hid (ordV a b=1):=by
     have h:ordV a b=1:=by rw[H.out,rP aA,List.drop_of_length_le (l:=b) (by omega)];rfl
     exact h
    have h3:¬ a.length<b.length:=by omega
    have h4:b.length<a.length:=by omega
    go_wp2
    go_ret
    exact⟨aD HR.out.symm,ar⟩
  ·have HR:Hid (ordV a b=if a.length<b.length then -1 else 0):=by
    have h:ordV a b=if a.length<b.length then -1 else 0:=by
     rw[H.out,List.drop_of_length_le (by omega),wj,List.length_drop]
     grind
    exact h
   have h3:¬ b.length<a.length:=by omega
   by_cases h4:a.length<b.length
   ·go_wp2
    go_ret
    refine⟨aD ?_,ar⟩;rw[HR.out,if_pos h4]
   ·go_wp2
    go_ret
    refine⟨aD ?_,ar⟩;rw[HR.out,if_neg (by omega)]
theorem G0(a b:List Int):(ordV a b == 0)=eqV a b:=by
 unfold eqV;by_cases h:a=b
 ·subst h;simp[rQ]
 ·simp[h]
  intro h1;exact h (Ni h1)
theorem Et(vl vv:Value) (l:List (List Int)) (v:List Int) (w:World) (hl:dR w vl l) (hv:aT w vv v) :
  Calls Tryz.prog 81 #[vl,vv] w fun e w'=>e=.returned (.bool (hasV l v))/\Below w.heap.size w w':=by
 obtain⟨pa,ca,rfl,la1,la2,ea⟩:=hl.at;have HV:=aa hv;obtain⟨pv,cv,rfl,_⟩:=hv;clear hl;have EA:=aa ea;clear ea;have HD:Hid (hasV l v=anyLt l.length fun i=>eqV (l.getD i []) v):=by exact rfl
 go_enter Tryz.func81,Tryz.ntmps81
 go_wp2
 go_loopw [5] (fun i wr=>Below w.heap.size w wr/\∃ k:Nat,k<=l.length/\i=.int .i64 k/\∀ j,j<k->eqV (l.getD j []) v=false) (fun i _=>l.length - (intOf i).toNat)
 case atStart=>exact⟨Below.refl _ _,0,by omega,rfl,by simp⟩
 case round=>
  obtain⟨ar,k,hk,rfl,aR⟩:=hrel;have H:=aa aR;clear aR;by_cases aA:k<l.length
  ·obtain⟨b1,o1,rfl,x,cx,hx⟩:=EA.out k aA
   rw[Nat.mul_one]at cx;have c1:=ak ar cx;have HX:=aa (hx.up up_int ar);obtain⟨px,qx,rfl,_⟩:=hx;have he:=G0 l[k] v;rw[show eqV l[k] v=eqV (l.getD k []) v by rw[az [] aA]]at he;have HC:=aa (lj _ _ l[k] v wr HX.out (HV.out.up up_int ar));clear cx;generalize ordV l[k] v=r at he HC;cases hp:eqV (l.getD k []) v with
   | true=>
    rw[hp]at he;have HP:=aa hp;clear hp
    go_wp2_with fail
    refine HC.out.mono ?_;rintro e w1 ⟨rfl,aI⟩
    go_wp2_with fail
    go_ret
    exact⟨aO (by rw[HD.out,dV _ k _ aA HP.out]),ae ar aI⟩
   | false=>
    rw[hp]at he;have HP:=aa hp;clear hp
    go_wp2_with fail
    refine HC.out.mono ?_;rintro e w1 ⟨rfl,aI⟩
    go_wp2_with fail
    go_roundw
    case rel=>exact⟨ae ar aI,k+1,by omega,by go_num,aS H.out HP.out⟩
    case measure=>simp[intOf];omega
  ·go_wp2
   go_ret
   exact⟨aO (by rw[HD.out,eG];intro j hj;exact H.out j (by omega)),ar⟩
theorem zP(v:Value) (l:List Int) (n most:Int) (w:World) (hv:aT w v l) :
  Calls Tryz.prog 185 #[v,.int .i64 n,.int .i64 most] w fun e w'=>e=.returned (.int .i64 (vectorE l n most))/\w=w':=by
 obtain⟨pa,ca,rfl,la1,la2,ea⟩:=hv.at;clear hv;have EA:=aa ea;clear ea;by_cases hl:(l.length:Int)=n
 ·have HV:Hid (vectorE l n most=if anyLt l.length (fun i=>decide (l.getD i 0<0) || decide (most<=l.getD i 0)) then 2 else 0):=by
   have h:vectorE l n most=if anyLt l.length (fun i=>decide (l.getD i 0<0) || decide (most<=l.getD i 0)) then 2 else 0:=by unfold vectorE;rw[if_neg (by simpa using hl)]
   exact h
  subst hl
  go_enter Tryz.func185,Tryz.ntmps185
  go_wp2
  go_loop [7] (fun i=>∃ k:Nat,k<=l.length/\i=.int .i64 k/\∀ j,j<k->(decide (l.getD j 0<0) || decide (most<=l.getD j 0))=false) (fun i=>l.length - (intOf i).toNat)
  case atStart=>exact⟨0,by omega,rfl,by simp⟩
  case round=>
   obtain⟨k,hk,rfl,aR⟩:=hrel;have H:=aa aR;clear aR;by_cases aA:k<l.length
   ·obtain⟨b1,o1,rfl,h1⟩:=EA.out k aA
    have HX:=aa (az 0 aA);rw[Nat.mul_one]at h1;have c1:=h1.1;generalize l[k]=x at c1 HX;clear h1
    go_wp2
    all_goals first
     | (go_ret
        refine⟨aD ?_,rfl⟩
        rw[HV.out,dV _ k _ aA (by rw[HX.out];go_light;simp;omega)]
        rfl)
     | (go_round
        case rel=>
         refine⟨k+1,by omega,by go_num,aS H.out ?_⟩
         rw[HX.out]
         go_light
         simp;omega
        case measure=>simp[intOf];omega)
   ·go_wp2
    go_ret
    exact⟨aD (by rw[HV.out,eG];rfl;intro j hj;exact H.out j (by omega)),rfl⟩
 ·have HV:Hid (vectorE l n most=15):=by(have h:vectorE l n most=15:=by(unfold vectorE;rw[if_pos hl]));exact h
  have ie:((l.length:Int) != n)=true:=by simpa using hl
  clear hl
  go_enter Tryz.func185,Tryz.ntmps185
  go_wp2
  go_ret
  exact⟨aD HV.out.symm,rfl⟩
theorem G7{t:Tk} {c:Cs} (h:c.out.length<1\/1024<c.out.length):vectorsE t c=5:=by unfold vectorsE;rw[if_pos h]
theorem xI{t:Tk} {c:Cs} (h:¬ (c.out.length<1\/1024<c.out.length)) (k:Nat) (e:Int) (hk:k<c.out.length) (hj:∀ j,j<k->iU t c j=0) (he:iU t c k=e) (h0:e≠0):e=vectorsE t c:=by
 unfold vectorsE;rw[if_neg h,<-bN k e hk hj he h0,if_pos h0]
theorem FV{t:Tk} {c:Cs} (h:¬ (c.out.length<1\/1024<c.out.length)) (ho:∀ j,j<c.out.length->iU t c j=0):vectorsE t c=aZ c.calm.length (iM c):=by
 unfold vectorsE;rw[if_neg h,cJ _ _ ho];simp
theorem Oj{t:Tk} {c:Cs} {j:Nat} (hj:j+1<c.out.length) (h1:vectorE c.out[j+1] t.n t.outs=0):iU t c (j+1)=if 0<=ordV (c.out[j]'(by omega)) c.out[j+1] then 14 else 0:=by
 unfold iU unordB;rw[az [] hj,h1,Nat.add_sub_cancel,az [] (show j<c.out.length by omega)];simp
theorem Ok{t:Tk} {c:Cs} (hj:0<c.out.length) (h1:vectorE c.out[0] t.n t.outs=0):iU t c 0=0:=by
 unfold iU unordB;rw[az [] hj,h1];simp
theorem LS{c:Cs} {j:Nat} (hj:j+1<c.calm.length) (h1:hasV c.out c.calm[j+1]=true):iM c (j+1)=if 0<=ordV (c.calm[j]'(by omega)) c.calm[j+1] then 14 else 0:=by
 unfold iM unordB;rw[az [] hj,h1,Nat.add_sub_cancel,az [] (show j<c.calm.length by omega)];simp
theorem LT{c:Cs} (hj:0<c.calm.length) (h1:hasV c.out c.calm[0]=true):iM c 0=0:=by
 unfold iM unordB;rw[az [] hj,h1];simp
theorem QU{c:Cs} {k:Nat} (hk:k<c.calm.length) (h1:hasV c.out c.calm[k]=false):iM c k=6:=by
 unfold iM;rw[az [] hk,h1];simp
theorem QV(t:Tk) (vc:Value) (k:Nat) (aA:k<t.cases.length) (w:World) (hv:bK w vc t.cases) :
  Calls Tryz.prog 154 #[.agg #[.int .i64 t.n,.int .i64 t.ins,.int .i64 t.outs,vc],.int .i64 k] w fun e w'=>e=.returned (.int .i64 (eL t k))/\Below w.heap.size w w':=by
 obtain⟨pc,cc,rfl,l1,m1,e1⟩:=hv.at;clear hv;have E:=aa e1;clear e1;obtain⟨b1,o1,rfl,⟨x0,cx0,cN⟩,⟨x1,cx1,df⟩,⟨x2,cx2,dM⟩⟩:=E.out k aA;have xX:=aa cN;have kj:=aa df;have fF:=aa dM;obtain⟨p1,q1,rfl,u1,v1,E1⟩:=df.at;obtain⟨p2,q2,rfl,u2,v2,E2⟩:=dM.at;obtain⟨p0,q0,rfl,_⟩:=cN;have qH:=aa E1;have mK:=aa E2;clear df dM E1 E2
 have HO:Hid (eL t k=if vectorE t.cases[k].inp t.n t.ins≠0 then vectorE t.cases[k].inp t.n t.ins else if 0<k/\0<=ordV (t.cases.getD (k - 1) default).inp t.cases[k].inp then 14 else vectorsE t t.cases[k]):=by
  have h:eL t k=if vectorE t.cases[k].inp t.n t.ins≠0 then vectorE t.cases[k].inp t.n t.ins else if 0<k/\0<=ordV (t.cases.getD (k - 1) default).inp t.cases[k].inp then 14 else vectorsE t t.cases[k]:=by unfold eL;rw[az default aA]
  exact h
 have WV:b1<w.heap.size:=eX cx0;have hlb':b1<w.heap.size+1:=by omega
 go_enter Tryz.func154,Tryz.ntmps154
 go_wp2_with fail
 refine aN (fun V=>Below w.heap.size w V/\V.heap[w.heap.size]?=some (.cells #[.int .i64 t.n,.int .i64 t.ins,.int .i64 t.outs,.slice (some ⟨b1,o1,none⟩) t.cases.length cc] 24)/\V.heap[w.heap.size+1]?=some (.cells #[.slice p0 t.cases[k].inp.length q0,.slice p1 t.cases[k].out.length q1,.slice p2 t.cases[k].calm.length q2] 135)) ⟨by go_grown,ap _ (am _ _),by simpa using am (w.alloc _) _⟩ (fun V hV=>?_);obtain⟨kD,hT,hC⟩:=hV;have HT:=aa hT;have HC:=aa hC;have t1:=ab hT;have t2:=ab hC;clear hT hC cx1 cx2;refine(zP _ _ _ _ _ (xX.out.up up_int kD)).mono ?_;rintro e V' ⟨rfl,rfl⟩;generalize vectorE t.cases[k].inp t.n t.ins=ev at HO;by_cases lT:ev=0
 case neg=>
  have hev':(ev != 0)=true:=by simpa using lT
  go_wp2_with fail
  go_ret
  exact⟨aD (by rw[HO.out,if_pos lT]),kD⟩
 subst lT
 go_wp2_with fail
 clear t1 t2;by_cases eP:k=0
 case' pos=>
  have eE:Hid (eL t k=vectorsE t t.cases[k]):=by(have h:eL t k=vectorsE t t.cases[k]:=by(rw[HO.out,if_neg (by simp),if_neg (by omega)]));exact h
  have hd:decide ((0:Int)<(k:Int))=false:=decide_eq_false (by omega);have fY:decide (0<k)=false:=decide_eq_false (by omega);clear HO eP cx0;refine aC (by kernel_rfl) (by kernel_rfl) ?_
  repeat (go_big_quiet_step (fail))
  refine wpQuiet_nil ?_;intro _ dY;obtain⟨xq,cX⟩:=dY;subst cX;clear hd fY
 case' neg=>
  obtain⟨j,hj⟩:∃ j,k=j+1:=⟨k - 1,by omega⟩;have fx:j<t.cases.length:=by omega
  have HJ:=aa hj;obtain⟨b2,o2,e2,⟨y0,cy0,iR⟩,_⟩:=E.out j fx;obtain⟨rfl,rfl⟩:b1=b2/\o1=o2:=by simpa using e2
  clear e2;have hd:decide ((0:Int)<(k:Int))=true:=decide_eq_true (by omega);have fY:0<k:=by omega
  have gp:Hid (eL t k=if 0<=ordV t.cases[j].inp t.cases[k].inp then 14 else vectorsE t t.cases[k]):=by
   have h:eL t k=if 0<=ordV t.cases[j].inp t.cases[k].inp then 14 else vectorsE t t.cases[k]:=by
    rw[HO.out,if_neg (by simp)];have e:k - 1=j:=by omega
    rw[e,az default fx]
    grind
   exact h
  clear HO eP hj;have js:IntKind.i64.wrap ((k:Int) - 1)=(j:Int):=by rw[HJ.out];rw[IntWalk.i64_in _ (by omega)];omega
  have r1:∀ x:ExtW V,∀ o,x.val.cell? ⟨w.heap.size,o,none⟩=_:=fun x=>ab (af x.ext HT.out)
  have r2:∀ x:ExtW V,∀ o,x.val.cell? ⟨w.heap.size+1,o,none⟩=_:=fun x=>ab (af x.ext HC.out)
  have r3:∀ x:ExtW V,x.val.cell? ⟨b1,o1+j * 3,none⟩=some y0:=fun x=>x.cell (ak kD cy0)
  have bO:=aa (fun x:ExtW V=>Calls.ext_of (lj _ _ _ _ x.val (iR.up up_int (ae kD x.ext)) (xX.out.up up_int (ae kD x.ext))));clear iR cy0 cx0;generalize ordV t.cases[j].inp t.cases[k].inp=oo at bO gp;refine aC (by kernel_rfl) (by kernel_rfl) ?_
  repeat (go_big_quiet_step ((go_at_call 132;exact bO.out _)))
  refine wpQuiet_nil ?_;intro _ dY;obtain⟨xq,cX⟩:=dY;subst cX;clear r1 r2 r3 hd fY js;by_cases qG:0<=oo
  ·go_wp2_with fail
   go_ret
   exact⟨aD (by rw[gp.out,if_pos qG]),ae kD xq.ext⟩
  have eE:Hid (eL t k=vectorsE t t.cases[k]):=by(have h:eL t k=vectorsE t t.cases[k]:=by(rw[gp.out,if_neg qG]));exact h
  clear gp HJ bO
 all_goals
  have FD:=ae kD xq.ext;have dx:=FD;have Fl:=af xq.ext HT.out;have TR:=af xq.ext HC.out;clear FD HT HC;generalize xq.val=W5 at dx Fl TR ⊢;clear xq kD;have HT:=aa Fl;have HC:=aa TR;have t1:=ab Fl;have t2:=ab TR;clear Fl TR;by_cases Ky:t.cases[k].out.length<1\/1024<t.cases[k].out.length
  ·have HR:=aa (G7 (t:=t) Ky)
   rcases Ky with Ky|Ky
   ·go_wp2_with fail
    go_ret
    exact⟨aD (by rw[eE.out,HR.out]),dx⟩
   ·have hou':¬ t.cases[k].out.length<1:=by omega
    go_wp2_with fail
    go_ret
    exact⟨aD (by rw[eE.out,HR.out]),dx⟩
  have VF:=aa Ky;have ho1:¬ t.cases[k].out.length<1:=by omega
  have rD:¬ 1024<t.cases[k].out.length:=by omega
  clear Ky
  go_wp2_with fail
  clear t1 t2 ho1 rD
  go_loopw [7] (fun i wr=>Below W5.heap.size W5 wr/\∃ m:Nat,m<=t.cases[k].out.length/\i=.int .i64 m/\∀ j,j<m->iU t t.cases[k] j=0) (fun i _=>t.cases[k].out.length - (intOf i).toNat)
  case atStart=>exact⟨Below.refl _ _,0,by omega,rfl,by simp⟩
  case round=>
   obtain⟨A9,m,hm,rfl,aR⟩:=hrel;have HM:=aa aR;clear aR;have ar:=ae dx A9;have t1:=ab (af A9 HT.out);have t2:=ab (af A9 HC.out);by_cases lS:m<t.cases[k].out.length
   ·obtain⟨b3,o3,rfl,y,cy,hy⟩:=qH.out m lS
    rw[Nat.mul_one]at cy;have HY:=aa hy
    go_wp2_with fail
    clear t1 t2;have r1:∀ x:ExtW wr,∀ o,x.val.cell? ⟨w.heap.size,o,none⟩=_:=fun x=>ab (af (ae A9 x.ext) HT.out)
    have r2:∀ x:ExtW wr,∀ o,x.val.cell? ⟨w.heap.size+1,o,none⟩=_:=fun x=>ab (af (ae A9 x.ext) HC.out)
    have r3:∀ x:ExtW wr,x.val.cell? ⟨b3,o3+m,none⟩=some y:=fun x=>x.cell (ak ar cy)
    have bO:=aa (fun x:ExtW wr=>Calls.ext_of ((zP _ _ t.n t.outs x.val (HY.out.up up_int (ae ar x.ext))).mono (fun _ _ ⟨h1,h2⟩=>⟨h1,h2 ▸ Below.refl _ _⟩)));have HZ:=aa (fun (h:vectorE t.cases[k].out[m] t.n t.outs≠0)=>show iU t t.cases[k] m=vectorE t.cases[k].out[m] t.n t.outs by unfold iU;rw[az [] lS,if_pos h]);generalize pZ:vectorE t.cases[k].out[m] t.n t.outs=em at bO HZ;have uK:=aa pZ;clear pZ hy;have cyy:=cy;clear cy;refine aC (by kernel_rfl) (by kernel_rfl) ?_
    repeat (go_big_quiet_step ((go_at_call 185;exact bO.out _)))
    refine wpQuiet_nil ?_;intro _ dY;obtain⟨xs,cX⟩:=dY;subst cX;clear r1 r2 r3 bO;have ML:=ae A9 xs.ext;have D6:=ae ar xs.ext;by_cases uR:em=0
    case neg=>
     have hem':(em != 0)=true:=by simpa using uR
     go_wp2_with fail
     go_ret
     exact⟨aD (by rw[eE.out];exact xI VF.out m em lS HM.out (HZ.out uR) uR),D6⟩
    subst uR
    go_wp2_with fail
    by_cases uT:m=0
    ·subst uT
     have yh:=aa (Ok lS uK.out);refine aC (by kernel_rfl) (by kernel_rfl) ?_
     repeat (go_big_quiet_step (fail))
     refine wpQuiet_nil ?_;intro _ dY;obtain⟨xt,cX⟩:=dY;subst cX
     go_wp2_with fail
     go_roundw
     case rel=>exact⟨ae ML xt.ext,1,by omega,by go_num,aS HM.out yh.out⟩
     case measure=>simp[intOf];omega
    ·obtain⟨j,rfl⟩:∃ j,m=j+1:=⟨m - 1,by omega⟩
     have yh:=aa (Oj lS uK.out);obtain⟨b4,o4,e4,z,cz,hz⟩:=qH.out j (by omega);obtain⟨rfl,rfl⟩:b3=b4/\o3=o4:=by simpa using e4
     rw[Nat.mul_one]at cz;have r1:∀ x:ExtW xs.val,∀ o,x.val.cell? ⟨w.heap.size,o,none⟩=_:=fun x=>ab (af (ae ML x.ext) HT.out)
     have r2:∀ x:ExtW xs.val,∀ o,x.val.cell? ⟨w.heap.size+1,o,none⟩=_:=fun x=>ab (af (ae ML x.ext) HC.out)
     have r3:∀ x:ExtW xs.val,x.val.cell? ⟨b3,o3+(j+1),none⟩=some y:=fun x=>x.cell (ak D6 cyy)
     have r4:∀ x:ExtW xs.val,x.val.cell? ⟨b3,o3+j,none⟩=some z:=fun x=>x.cell (ak D6 cz)
     have bO:=aa (fun x:ExtW xs.val=>Calls.ext_of (lj _ _ _ _ x.val (hz.up up_int (ae D6 x.ext)) (HY.out.up up_int (ae D6 x.ext))));have To:IntKind.i64.wrap (j:Int)=(j:Int):=IntWalk.i64_in _ (by omega);have nZ:decide ((0:Int)<(j:Int)+1)=true:=decide_eq_true (by omega);have wI:(0:Int)<=(j:Int)+1:=by omega
     have Fi:(j:Int)+1<(t.cases[k].out.length:Int):=by omega
     have Aq:((j:Int)+1).toNat=j+1:=by omega
     generalize ordV t.cases[k].out[j] t.cases[k].out[j+1]=oo at bO yh;clear e4 hz cz cyy uT;refine aC (by kernel_rfl) (by kernel_rfl) ?_
     repeat (go_big_quiet_step ((go_at_call 132;exact bO.out _)))
     refine wpQuiet_nil ?_;intro _ dY;obtain⟨xt,cX⟩:=dY;subst cX;clear r1 r2 r3 r4 To nZ wI Fi Aq;by_cases qG:0<=oo
     ·go_wp2_with fail
      go_ret
      exact⟨aD (by rw[eE.out];exact xI VF.out (j+1) 14 lS HM.out (by rw[yh.out,if_pos qG]) (by decide)),ae D6 xt.ext⟩
     ·go_wp2_with fail
      go_roundw
      case rel=>exact⟨ae ML xt.ext,j+1+1,by omega,by go_num,aS HM.out (by rw[yh.out,if_neg (by omega)])⟩
      case measure=>simp[intOf];omega
   ·have lu:=aa (eE.out.trans (FV VF.out (fun j hj=>HM.out j (by omega))))
    go_wp2_with fail
    clear t1 t2
    go_loopw [9] (fun i ws=>Below wr.heap.size wr ws/\∃ q:Nat,q<=t.cases[k].calm.length/\i=.int .i64 q/\∀ j,j<q->iM t.cases[k] j=0) (fun i _=>t.cases[k].calm.length - (intOf i).toNat)
    case atStart=>exact⟨Below.refl _ _,0,by omega,rfl,by simp⟩
    case round=>
     obtain⟨lE,q,hq,rfl,aR⟩:=hrel;have HQ:=aa aR;clear aR;have rx:=ae A9 lE;have ic:=ae ar lE
     rename World=>ws
     have t2:=ab (af rx HC.out);by_cases nE:q<t.cases[k].calm.length
     ·obtain⟨b6,o6,rfl,y,cy,hy⟩:=mK.out q nE
      rw[Nat.mul_one]at cy;have HY:=aa hy
      go_wp2_with fail
      clear t2;have r2:∀ x:ExtW ws,∀ o,x.val.cell? ⟨w.heap.size+1,o,none⟩=_:=fun x=>ab (af (ae rx x.ext) HC.out)
      have r3:∀ x:ExtW ws,x.val.cell? ⟨b6,o6+q,none⟩=some y:=fun x=>x.cell (ak ic cy)
      have bO:=aa (fun x:ExtW ws=>Calls.ext_of (Et _ _ t.cases[k].out _ x.val (kj.out.up up_ints (ae ic x.ext)) (HY.out.up up_int (ae ic x.ext))));cases pZ:hasV t.cases[k].out t.cases[k].calm[q] with
      | false=>
       rw[pZ]at bO;have HZ:=aa (QU nE pZ);clear pZ hy cy;refine aC (by kernel_rfl) (by kernel_rfl) ?_
       repeat (go_big_quiet_step ((go_at_call 81;exact bO.out _)))
       refine wpQuiet_nil ?_;intro _ dY;obtain⟨xu,cX⟩:=dY;subst cX;clear r2 r3 bO
       go_wp2_with fail
       go_ret
       exact⟨aD (by rw[lu.out];exact bN q 6 nE HQ.out HZ.out (by decide)),ae ic xu.ext⟩
      | true=>
       rw[pZ]at bO;have uK:=aa pZ;clear pZ hy;have cyy:=cy;clear cy;refine aC (by kernel_rfl) (by kernel_rfl) ?_
       repeat (go_big_quiet_step ((go_at_call 81;exact bO.out _)))
       refine wpQuiet_nil ?_;intro _ dY;obtain⟨xs,cX⟩:=dY;subst cX;clear r2 r3 bO;have hbs6:=ae lE xs.ext;have hbs6':=ae rx xs.ext;have Jh:=ae ic xs.ext
       go_wp2_with fail
       by_cases uT:q=0
       ·subst uT
        have yh:=aa (LT nE uK.out);refine aC (by kernel_rfl) (by kernel_rfl) ?_
        repeat (go_big_quiet_step (fail))
        refine wpQuiet_nil ?_;intro _ dY;obtain⟨xt,cX⟩:=dY;subst cX
        go_wp2_with fail
        go_roundw
        case rel=>exact⟨ae hbs6 xt.ext,1,by omega,by go_num,aS HQ.out yh.out⟩
        case measure=>simp[intOf];omega
       ·obtain⟨j,rfl⟩:∃ j,q=j+1:=⟨q - 1,by omega⟩
        have yh:=aa (LS nE uK.out);obtain⟨b4,o4,e4,z,cz,hz⟩:=mK.out j (by omega);obtain⟨rfl,rfl⟩:b6=b4/\o6=o4:=by simpa using e4
        rw[Nat.mul_one]at cz;have r2:∀ x:ExtW xs.val,∀ o,x.val.cell? ⟨w.heap.size+1,o,none⟩=_:=fun x=>ab (af (ae hbs6' x.ext) HC.out)
        have r3:∀ x:ExtW xs.val,x.val.cell? ⟨b6,o6+(j+1),none⟩=some y:=fun x=>x.cell (ak Jh cyy)
        have r4:∀ x:ExtW xs.val,x.val.cell? ⟨b6,o6+j,none⟩=some z:=fun x=>x.cell (ak Jh cz)
        have bO:=aa (fun x:ExtW xs.val=>Calls.ext_of (lj _ _ _ _ x.val (hz.up up_int (ae Jh x.ext)) (HY.out.up up_int (ae Jh x.ext))));have To:IntKind.i64.wrap (j:Int)=(j:Int):=IntWalk.i64_in _ (by omega);have nZ:decide ((0:Int)<(j:Int)+1)=true:=decide_eq_true (by omega);have wI:(0:Int)<=(j:Int)+1:=by omega
        have Fi:(j:Int)+1<(t.cases[k].calm.length:Int):=by omega
        have Aq:((j:Int)+1).toNat=j+1:=by omega
        generalize ordV t.cases[k].calm[j] t.cases[k].calm[j+1]=oo at bO yh;clear e4 hz cz cyy uT;refine aC (by kernel_rfl) (by kernel_rfl) ?_
        repeat (go_big_quiet_step ((go_at_call 132;exact bO.out _)))
        refine wpQuiet_nil ?_;intro _ dY;obtain⟨xt,cX⟩:=dY;subst cX;clear r2 r3 r4 To nZ wI Fi Aq;by_cases qG:0<=oo
        ·go_wp2_with fail
         go_ret
         exact⟨aD (by rw[lu.out];exact bN (j+1) 14 nE HQ.out (by rw[yh.out,if_pos qG]) (by decide)),ae Jh xt.ext⟩
        ·go_wp2_with fail
         go_roundw
         case rel=>exact⟨ae hbs6 xt.ext,j+1+1,by omega,by go_num,aS HQ.out (by rw[yh.out,if_neg (by omega)])⟩
         case measure=>simp[intOf];omega
     ·go_wp2_with fail
      go_ret
      exact⟨aD (by rw[lu.out,cJ];intro j hj;exact HQ.out j (by omega)),ic⟩
theorem Dx(t:Tk) (vc:Value) (w:World) (hv:bK w vc t.cases) :
  Calls Tryz.prog 114 #[.agg #[.int .i64 t.n,.int .i64 t.ins,.int .i64 t.outs,vc]] w fun e w'=>e=.returned (.int .i64 (taskE t))/\Below w.heap.size w w':=by
 have G:=aa hv;obtain⟨pc,cc,rfl,l1,m1,_⟩:=hv.at;clear hv;by_cases c0:t.n<1
 ·have HR:Hid (taskE t=2):=by(have h:taskE t=2:=by(unfold taskE;rw[if_pos (by omega)]));exact h
  go_enter Tryz.func114,Tryz.ntmps114
  go_wp2
  go_ret
  exact⟨aD HR.out.symm,by go_grown⟩
 by_cases c1:5<t.n
 ·have HR:Hid (taskE t=2):=by(have h:taskE t=2:=by(unfold taskE;rw[if_pos (by omega)]));exact h
  go_enter Tryz.func114,Tryz.ntmps114
  go_wp2
  go_ret
  exact⟨aD HR.out.symm,by go_grown⟩
 by_cases c2:t.ins<1
 ·have HR:Hid (taskE t=2):=by(have h:taskE t=2:=by(unfold taskE;rw[if_pos (by omega)]));exact h
  go_enter Tryz.func114,Tryz.ntmps114
  go_wp2
  go_ret
  exact⟨aD HR.out.symm,by go_grown⟩
 by_cases c3:8<t.ins
 ·have HR:Hid (taskE t=2):=by(have h:taskE t=2:=by(unfold taskE;rw[if_pos (by omega)]));exact h
  go_enter Tryz.func114,Tryz.ntmps114
  go_wp2
  go_ret
  exact⟨aD HR.out.symm,by go_grown⟩
 by_cases c4:t.outs<1
 ·have HR:Hid (taskE t=2):=by(have h:taskE t=2:=by(unfold taskE;rw[if_pos (by omega)]));exact h
  go_enter Tryz.func114,Tryz.ntmps114
  go_wp2
  go_ret
  exact⟨aD HR.out.symm,by go_grown⟩
 by_cases c5:8<t.outs
 ·have HR:Hid (taskE t=2):=by(have h:taskE t=2:=by(unfold taskE;rw[if_pos (by omega)]));exact h
  go_enter Tryz.func114,Tryz.ntmps114
  go_wp2
  go_ret
  exact⟨aD HR.out.symm,by go_grown⟩
 by_cases d0:t.cases.length<1
 ·have HR:Hid (taskE t=5):=by(have h:taskE t=5:=by(unfold taskE;rw[if_neg (by omega),if_pos (by omega)]));exact h
  go_enter Tryz.func114,Tryz.ntmps114
  go_wp2
  go_ret
  exact⟨aD HR.out.symm,by go_grown⟩
 by_cases d1:1024<t.cases.length
 ·have HR:Hid (taskE t=5):=by(have h:taskE t=5:=by(unfold taskE;rw[if_neg (by omega),if_pos (by omega)]));exact h
  go_enter Tryz.func114,Tryz.ntmps114
  go_wp2
  go_ret
  exact⟨aD HR.out.symm,by go_grown⟩
 have HV:Hid (taskE t=aZ t.cases.length (eL t)):=by(have h:taskE t=aZ t.cases.length (eL t):=by(unfold taskE;rw[if_neg (by omega),if_neg (by omega)]));exact h
 go_enter Tryz.func114,Tryz.ntmps114
 go_wp2
 refine bm (fun W=>Below w.heap.size w W/\W.heap[w.heap.size]?=some (.cells #[.int .i64 t.n,.int .i64 t.ins,.int .i64 t.outs,.slice pc t.cases.length cc] 24)) ⟨by go_grown,am _ _⟩ (fun W0 aV=>?_);obtain⟨aH,bB⟩:=aV;have HA:=aa bB;clear bB c0 c1 c2 c3 c4 c5 d0 d1
 go_loopw [3] (fun i wr=>Below W0.heap.size W0 wr/\∃ k:Nat,k<=t.cases.length/\i=.int .i64 k/\∀ j,j<k->eL t j=0) (fun i _=>t.cases.length - (intOf i).toNat)
 case atStart=>exact⟨Below.refl _ _,0,by omega,rfl,by simp⟩
 case round=>
  obtain⟨iK,k,hk,rfl,aR⟩:=hrel;have H:=aa aR;clear aR;have ar:=ae aH iK;have t1:=ab (af iK HA.out);by_cases aA:k<t.cases.length
  ·have HC:=aa (QV t _ k aA wr (G.out.up up_case ar))
   generalize pZ:eL t k=ek at HC;have uK:=aa pZ;clear pZ;by_cases sQ:ek=0
   ·subst sQ
    go_wp2_with fail
    refine HC.out.mono ?_;rintro e w1 ⟨rfl,aI⟩
    go_wp2_with fail
    go_roundw
    case rel=>exact⟨ae iK aI,k+1,by omega,by go_num,aS H.out uK.out⟩
    case measure=>simp[intOf];omega
   ·have RC:(ek != 0)=true:=by simpa using sQ
    go_wp2_with fail
    refine HC.out.mono ?_;rintro e w1 ⟨rfl,aI⟩
    go_wp2_with fail
    go_ret
    exact⟨aD (by rw[HV.out];exact bN k ek aA H.out uK.out sQ),ae ar aI⟩
  ·go_wp2
   go_ret
   exact⟨aD (by rw[HV.out,cJ];intro j hj;exact H.out j (by omega)),ar⟩
def fewVB(l:List (List Int)):Bool:=!decide (30<l.length)&&!anyLt l.length fun i=>decide (10<(l.getD i []).length)
theorem ss(v:Value) (l:List (List Int)) (w:World) (hv:dR w v l) :
  Calls Tryz.prog 112 #[v,.int .i64 30] w fun e w'=>e=.returned (.bool (fewVB l))/\w=w':=by
 obtain⟨pa,ca,rfl,la1,la2,ea⟩:=hv.at;clear hv;have EA:=aa ea;clear ea;by_cases hl:30<l.length
 ·have HV:Hid (fewVB l=false):=by(have h:fewVB l=false:=by(unfold fewVB;simp[hl]));exact h
  go_enter Tryz.func112,Tryz.ntmps112
  go_wp2
  go_ret
  exact⟨aO HV.out.symm,rfl⟩
 ·have HV:Hid (fewVB l=!anyLt l.length fun i=>decide (10<(l.getD i []).length)):=by(have h:fewVB l=!anyLt l.length fun i=>decide (10<(l.getD i []).length):=by(unfold fewVB;rw[decide_eq_false hl];rfl));exact h
  go_enter Tryz.func112,Tryz.ntmps112
  go_wp2
  go_loop [5] (fun i=>∃ k:Nat,k<=l.length/\i=.int .i64 k/\∀ j,j<k->decide (10<(l.getD j []).length)=false) (fun i=>l.length - (intOf i).toNat)
  case atStart=>exact⟨0,by omega,rfl,by simp⟩
  case round=>
   obtain⟨k,hk,rfl,aR⟩:=hrel;have H:=aa aR;clear aR;by_cases aA:k<l.length
   ·obtain⟨b1,o1,rfl,x,cx,hx⟩:=EA.out k aA
    rw[Nat.mul_one]at cx;have HX:=aa (az [] aA);obtain⟨px,qx,rfl,_,dM,_⟩:=hx;generalize l[k]=y at cx HX dM;by_cases Ft:10<y.length
    ·go_wp2
     go_ret
     exact⟨aO (by rw[HV.out,dV _ k _ aA (by rw[HX.out];exact decide_eq_true Ft)];rfl),rfl⟩
    ·go_wp2
     go_round
     case rel=>exact⟨k+1,by omega,by go_num,aS H.out (by rw[HX.out];exact decide_eq_false (by omega))⟩
     case measure=>simp[intOf];omega
   ·go_wp2
    go_ret
    exact⟨aO (by rw[HV.out,eG];rfl;intro j hj;exact H.out j (by omega)),rfl⟩
def G8(c:Cs):Bool:=decide (10<c.inp.length) || !fewVB c.out || !fewVB c.calm
def fewTB(t:Tk):Bool:=!decide (30<t.cases.length)&&!anyLt t.cases.length fun i=>G8 (t.cases.getD i default)
theorem G9(t:Tk) (vc:Value) (w:World) (hv:bK w vc t.cases) :
  Calls Tryz.prog 69 #[.agg #[.int .i64 t.n,.int .i64 t.ins,.int .i64 t.outs,vc]] w fun e w'=>e=.returned (.bool (fewTB t))/\Below w.heap.size w w':=by
 obtain⟨pc,cc,rfl,l1,m1,e1⟩:=hv.at;clear hv;have E:=aa e1;clear e1;by_cases hl:30<t.cases.length
 ·have HV:Hid (fewTB t=false):=by(have h:fewTB t=false:=by(unfold fewTB;simp[hl]));exact h
  go_enter Tryz.func69,Tryz.ntmps69
  go_wp2
  go_ret
  exact⟨aO HV.out.symm,by go_grown⟩
 ·have HV:Hid (fewTB t=!anyLt t.cases.length fun i=>G8 (t.cases.getD i default)):=by(have h:fewTB t=!anyLt t.cases.length fun i=>G8 (t.cases.getD i default):=by(unfold fewTB;rw[decide_eq_false hl];rfl));exact h
  go_enter Tryz.func69,Tryz.ntmps69
  go_wp2
  refine bm (fun W=>Below w.heap.size w W/\W.heap[w.heap.size]?=some (.cells #[.int .i64 t.n,.int .i64 t.ins,.int .i64 t.outs,.slice pc t.cases.length cc] 24)) ⟨by go_grown,am _ _⟩ (fun W0 aV=>?_);obtain⟨aH,bB⟩:=aV;have HA:=aa bB;clear bB hl
  go_loopw [3] (fun i wr=>Below W0.heap.size W0 wr/\∃ k:Nat,k<=t.cases.length/\i=.int .i64 k/\∀ j,j<k->G8 (t.cases.getD j default)=false) (fun i _=>t.cases.length - (intOf i).toNat)
  case atStart=>exact⟨Below.refl _ _,0,by omega,rfl,by simp⟩
  case round=>
   obtain⟨iK,k,hk,rfl,aR⟩:=hrel;have H:=aa aR;clear aR;have ar:=ae aH iK;have t1:=ab (af iK HA.out);by_cases aA:k<t.cases.length
   ·obtain⟨b1,o1,rfl,⟨x0,cx0,cN⟩,⟨x1,cx1,df⟩,⟨x2,cx2,dM⟩⟩:=E.out k aA
    have d0:=ak ar cx0;have d1:=ak ar cx1;have d2:=ak ar cx2;have HX:=aa (az default aA);have zX:=aa (fun W (hb:Below w.heap.size w W)=>ss _ _ W (df.up up_ints hb));have lA:=aa (fun W (hb:Below w.heap.size w W)=>ss _ _ W (dM.up up_ints hb));obtain⟨p0,q0,rfl,_,h0l,_⟩:=cN;obtain⟨p1,q1,rfl,_⟩:=df;obtain⟨p2,q2,rfl,_⟩:=dM;have eT:=aB (af iK HA.out);clear cx0 cx1 cx2;have HB:Hid (G8 t.cases[k]=(decide (10<t.cases[k].inp.length) || !fewVB t.cases[k].out || !fewVB t.cases[k].calm)):=by exact rfl
    generalize fewVB t.cases[k].out=f1 at zX HB;generalize fewVB t.cases[k].calm=f2 at lA HB;have od:Below wr.heap.size wr (wr.alloc (.cells #[.slice p0 t.cases[k].inp.length q0,.slice p1 t.cases[k].out.length q1,.slice p2 t.cases[k].calm.length q2] 135)):=by go_grown
    have yu:=ae ar od;have AG:=aa od;clear od;by_cases Ft:10<t.cases[k].inp.length
    ·go_wp2_with fail
     go_ret
     exact⟨aO (by rw[HV.out,dV _ k _ aA (by rw[HX.out,HB.out,decide_eq_true Ft];rfl)];rfl),yu⟩
    ·have RI:Hid (decide (10<t.cases[k].inp.length)=false):=by(have h:=decide_eq_false Ft);exact h
     cases f1 with
     | false=>
      go_wp2_with fail
      refine(zX.out _ yu).mono ?_;rintro e w1 ⟨rfl,rfl⟩
      go_wp2_with fail
      go_ret
      exact⟨aO (by rw[HV.out,dV _ k _ aA (by rw[HX.out,HB.out,RI.out];rfl)];rfl),yu⟩
     | true=>
      cases f2 with
      | false=>
       go_wp2_with fail
       refine(zX.out _ yu).mono ?_;rintro e w1 ⟨rfl,rfl⟩
       go_wp2_with fail
       refine(lA.out _ yu).mono ?_;rintro e w1 ⟨rfl,rfl⟩
       go_wp2_with fail
       go_ret
       exact⟨aO (by rw[HV.out,dV _ k _ aA (by rw[HX.out,HB.out,RI.out];rfl)];rfl),yu⟩
      | true=>
       go_wp2_with fail
       refine(zX.out _ yu).mono ?_;rintro e w1 ⟨rfl,rfl⟩
       go_wp2_with fail
       refine(lA.out _ yu).mono ?_;rintro e w1 ⟨rfl,rfl⟩
       go_wp2_with fail
       go_roundw
       case rel=>exact⟨ae iK AG.out,k+1,by omega,by go_num,aS H.out (by rw[HX.out,HB.out,RI.out];rfl)⟩
       case measure=>simp[intOf];omega
   ·go_wp2
    go_ret
    exact⟨aO (by rw[HV.out,eG];rfl;intro j hj;exact H.out j (by omega)),ar⟩
abbrev Gr.c(g:Gr):Array Value:=#[.int .i64 g.n,.int .i64 g.h0,.int .i64 g.h1,.int .i64 g.h2,.int .i64 g.h3,.int .i64 g.h4]
theorem BR(g:Gr) (w:World) :
  Calls Tryz.prog 208 #[g.v] w fun e w'=>e=.returned (.int .i64 (gF g))/\Below w.heap.size w w':=by
 by_cases hn:g.n<1\/5<g.n
 ·have H:Hid (gF g=2):=by(have h:gF g=2:=by(unfold gF;rw[if_pos hn]));exact h
  rcases hn with hn|hn
  ·go_enter Tryz.func208,Tryz.ntmps208
   go_wp2
   go_ret;exact⟨aD H.out.symm,by go_grown⟩
  ·have xW:¬ g.n<1:=by omega
   go_enter Tryz.func208,Tryz.ntmps208
   go_wp2
   go_ret;exact⟨aD H.out.symm,by go_grown⟩
 have jP:1<=g.n:=by omega
 have nW:g.n<=5:=by omega
 have HE:Hid (gF g=aZ 5 fun p=>l5 g.n (g.hear p) p):=by(have h:gF g=aZ 5 fun p=>l5 g.n (g.hear p) p:=by(unfold gF;rw[if_neg hn]));exact h
 clear hn;have hn3:¬ g.n<1:=by omega
 have hn4:¬ 5<g.n:=by omega
 go_enter Tryz.func208,Tryz.ntmps208
 go_wp2
 refine bm (fun W=>Below w.heap.size w W/\W.heap[w.heap.size]?=some (.cells g.c 139)) ⟨by go_grown,am _ _⟩ (fun W0 aV=>?_);obtain⟨aH,hA⟩:=aV;have HA:=aa hA;have t1:=ab hA 0;simp at t1;clear hA
 go_loop [3] (fun i=>∃ k:Nat,k<=5/\i=.int .i64 k/\∀ j,j<k->l5 g.n (g.hear j) j=0) (fun i=>5 - (intOf i).toNat)
 case atStart=>exact⟨0,by omega,rfl,by simp⟩
 case round=>
  obtain⟨k,hk,rfl,aR⟩:=hrel;have H:=aa aR;clear aR;by_cases aA:k<5
  ·have hx:=mC g k aA W0 _ HA.out
   obtain⟨x,kY⟩:∃ x,x=g.hear k:=⟨_,rfl⟩;rw[<-kY]at hx;have HX:=aa kY;clear kY;obtain⟨m,hm⟩:∃ m:Nat,g.n=m:=⟨g.n.toNat,by omega⟩;have hp:=y' m (by omega);have HC:=aa (fun w=>Em m (by omega) w)
   have HV:Hid (l5 g.n x k=if (m:Int)<=k then(if x≠0 then 3 else 0) else if x<0\/2 ^ m - 1<x then 2 else if hasB x k then 0 else 3):=by
    have h:l5 g.n x k=if (m:Int)<=k then(if x≠0 then 3 else 0) else if x<0\/2 ^ m - 1<x then 2 else if hasB x k then 0 else 3:=by
     unfold l5;rw[hm,Int.toNat_natCast]
    exact h
   rw[hm]at t1;rw[hm]at jP nW;have HM:=aa hm;generalize (2:Int) ^ m=y at hp HC HV;clear hm hn3 hn4;by_cases fO:(m:Int)<=k
   ·go_wp2
    ·go_ret
     refine⟨aD ?_,aH⟩;rw[HE.out]
     go_light
     refine bN k _ aA H.out ?_ (by decide);rw[<-HX.out,HV.out]
     grind
    ·go_round
     case rel=>
      refine⟨k+1,by omega,by go_num,aS H.out ?_⟩
      go_light
      rw[<-HX.out,HV.out]
      grind
     case measure=>simp[intOf];omega
   ·by_cases kY:x<0\/y - 1<x
    ·have hq:∀ z,z=2->z=gF g:=fun z hz=>by
      subst hz;rw[HE.out];refine bN k _ aA H.out ?_ (by decide);rw[<-HX.out,HV.out,if_neg fO,if_pos kY]
     have HQ:=aa hq;clear hq;rcases kY with kY|kY
     ·go_wp2
      go_ret
      exact⟨aD (HQ.out _ rfl),aH⟩
     ·have cN:¬ x<0:=by omega
      go_wp2_with (go_at_call 60;refine(HC.out _).mono ?_;rintro e w' ⟨rfl,rfl⟩)
      go_ret
      exact⟨aD (HQ.out _ rfl),aH⟩
    ·have cN:¬ x<0:=by omega
     have df:¬ y - 1<x:=by omega
     have lA:=aa (fun w=>mq x k (by omega) (by omega) (by omega) w);cases hb:hasB x k with
     | true=>
      rw[hb]at lA HV;have Ws:=aa kY;clear hb kY
      go_wp2_with (first|(go_at_call 60;refine(HC.out _).mono ?_;rintro e w' ⟨rfl,rfl⟩)|(go_at_call 47;refine(lA.out _).mono ?_;rintro e w' ⟨rfl,rfl⟩))
      go_round
      case rel=>
       refine⟨k+1,by omega,by go_num,aS H.out ?_⟩;rw[<-HX.out,HV.out,if_neg (by omega),if_neg (by omega)];rfl
      case measure=>simp[intOf];omega
     | false=>
      rw[hb]at lA HV;have Ws:=aa kY;clear hb kY
      go_wp2_with (first|(go_at_call 60;refine(HC.out _).mono ?_;rintro e w' ⟨rfl,rfl⟩)|(go_at_call 47;refine(lA.out _).mono ?_;rintro e w' ⟨rfl,rfl⟩))
      go_ret
      refine⟨aD ?_,aH⟩;rw[HE.out];refine bN k _ aA H.out ?_ (by decide);rw[<-HX.out,HV.out,if_neg (by omega),if_neg (by omega)];rfl
  ·go_wp2
   go_ret;exact⟨aD (by rw[HE.out,cJ];intro j hj;exact H.out j (by omega)),aH⟩
theorem Ol{a b:Gr} (h:a.n<b.n):fd a b=-1:=by unfold fd cmpI;grind
theorem Om{a b:Gr} (h:b.n<a.n):fd a b=1:=by unfold fd cmpI;grind
theorem On{a b:Gr} (h:a.n=b.n):fd a b=aZ 5 fun p=>cmpI (a.hear p) (b.hear p):=by unfold fd;rw[h,pF];simp
theorem zp(a b:Gr) (w:World) :
  Calls Tryz.prog 210 #[a.v,b.v] w fun e w'=>e=.returned (.int .i64 (fd a b))/\Below w.heap.size w w':=by
 rcases Int.lt_trichotomy a.n b.n with hn|hn|hn
 ·have H:=aa (Ol hn)
  go_enter Tryz.func210,Tryz.ntmps210
  go_wp2
  go_ret;exact⟨aD H.out.symm,by go_grown⟩
 ·have HC:=aa (On hn)
  have h1:¬ a.n<b.n:=by omega
  have h2:¬ b.n<a.n:=by omega
  clear hn
  go_enter Tryz.func210,Tryz.ntmps210
  go_wp2
  refine bm (fun W=>Below w.heap.size w W/\W.heap[w.heap.size]?=some (.cells a.c 139)/\W.heap[w.heap.size+1]?=some (.cells b.c 139))
   ⟨by go_grown,ap _ (am _ _),by have:=am (w.alloc (.cells a.c 139));rw[World.size_alloc]at this;exact this _⟩ (fun W0 aV=>?_)
  obtain⟨aH,hA,hB⟩:=aV;have HA:=aa hA;clear hA;have HB:=aa hB;clear hB;clear h1 h2
  go_loopw [5] (fun i wr=>Below W0.heap.size W0 wr/\∃ k:Nat,k<=5/\i=.int .i64 k/\∀ j,j<k->cmpI (a.hear j) (b.hear j)=0) (fun i _=>5 - (intOf i).toNat)
  case atStart=>exact⟨Below.refl _ _,0,by omega,rfl,by simp⟩
  case round=>
   obtain⟨ar,k,hk,rfl,aR⟩:=hrel;have H:=aa aR;clear aR;by_cases aA:k<5
   ·have c1:∀ n,(wr.drewN n).cell? ⟨w.heap.size,1+k,none⟩=some (.int .i64 (a.hear k)):=fun n=>mC a k aA wr _ (af ar HA.out)
    have c2:∀ n,(wr.drewN n).cell? ⟨w.heap.size+1,1+k,none⟩=some (.int .i64 (b.hear k)):=fun n=>mC b k aA wr _ (af ar HB.out)
    have HV:Hid (cmpI (a.hear k) (b.hear k)=if a.hear k<b.hear k then -1 else if b.hear k<a.hear k then 1 else 0):=by exact rfl
    generalize hx:a.hear k=x at c1 HV;generalize hy:b.hear k=y at c2 HV;have HX:=aa hx;clear hx;have HY:=aa hy;clear hy;rcases Int.lt_trichotomy x y with hn|hn|hn
    ·go_wp2
     go_quiet (fail)
     go_wp2
     go_ret
     refine⟨aD ?_,ed (ae aH ar) _⟩;rw[HC.out];refine bN k _ aA H.out ?_ (by decide);rw[HX.out,HY.out,HV.out,if_pos hn]
    ·have h1:¬ x<y:=by omega
     have h2:¬ y<x:=by omega
     clear hn
     go_wp2
     go_quiet (fail)
     go_wp2
     have c3:∀ m n,((wr.drewN m).drewN n).cell? ⟨w.heap.size,1+k,none⟩=some (.int .i64 x):=fun m n=>c1 m
     have c4:∀ m n,((wr.drewN m).drewN n).cell? ⟨w.heap.size+1,1+k,none⟩=some (.int .i64 y):=fun m n=>c2 m
     go_quiet (fail)
     go_wp2
     go_roundw
     case rel=>
      refine⟨ed ar _,k+1,by omega,by go_num,aS H.out ?_⟩;rw[HX.out,HY.out,HV.out,if_neg (by omega),if_neg (by omega)]
     case measure=>simp[intOf];omega
    ·have h1:¬ x<y:=by omega
     go_wp2
     go_quiet (fail)
     go_wp2
     have c3:∀ m n,((wr.drewN m).drewN n).cell? ⟨w.heap.size,1+k,none⟩=some (.int .i64 x):=fun m n=>c1 m
     have c4:∀ m n,((wr.drewN m).drewN n).cell? ⟨w.heap.size+1,1+k,none⟩=some (.int .i64 y):=fun m n=>c2 m
     go_quiet (fail)
     go_wp2
     go_ret
     refine⟨aD ?_,ed (ed (ae aH ar) _) _⟩;rw[HC.out];refine bN k _ aA H.out ?_ (by decide);rw[HX.out,HY.out,HV.out,if_neg (by omega),if_pos hn]
   ·go_wp2
    go_ret;exact⟨aD (by rw[HC.out,cJ];intro j hj;exact H.out j (by omega)),ae aH ar⟩
 ·have H:=aa (Om hn)
  have h1:¬ a.n<b.n:=by omega
  go_enter Tryz.func210,Tryz.ntmps210
  go_wp2
  go_ret;exact⟨aD H.out.symm,by go_grown⟩
theorem BS(r:Rd) (w:World) :
  Calls Tryz.prog 186 #[r.v] w fun e w'=>e=.returned (.int .i64 (roundE r))/\Below w.heap.size w w':=by
 obtain⟨⟨n,h0,h1,h2,h3,h4⟩,f⟩:=r
 go_enter Tryz.func186,Tryz.ntmps186
 go_wp2_with (first
  | (go_at_call 208;refine(BR ⟨_,_,_,_,_,_⟩ _).mono ?_;rintro e w1 ⟨rfl,hb⟩;obtain⟨hc,hf⟩:=Lh hb)
  | (go_at_call 209;refine(FP _ _ _).mono ?_;rintro e w2 ⟨rfl,rfl⟩))
 all_goals
  go_ret
  refine⟨aD ?_,?_⟩
  ·go_light
   unfold roundE
   grind
  ·exact ae (by go_grown) hb
theorem zs(a b:Rd) (w:World) :
  Calls Tryz.prog 187 #[a.v,b.v] w fun e w'=>e=.returned (.int .i64 (roundC a b))/\Below w.heap.size w w':=by
 obtain⟨⟨n,h0,h1,h2,h3,h4⟩,f⟩:=a;obtain⟨⟨m,g0,g1,g2,g3,g4⟩,g⟩:=b
 go_enter Tryz.func187,Tryz.ntmps187
 go_wp2_with (first
  | (go_at_call 210;refine(zp ⟨_,_,_,_,_,_⟩ ⟨_,_,_,_,_,_⟩ _).mono ?_;rintro e w1 ⟨rfl,hb⟩;obtain⟨hc,hf⟩:=Lh hb))
 all_goals
  go_ret
  refine⟨aD ?_,?_⟩
  ·go_light
   unfold roundC cmpI
   grind
  ·exact ae (by go_grown) hb
theorem BT(n:Int) (v:Value) (l:List (List Mv)) (w:World) (hv:bh w v l) (hN:movesN l<2305843009213693952) :
  Calls Tryz.prog 113 #[.agg #[.int .i64 n,v]] w fun e w'=>e=.returned (.int .i64 (movesN l))/\Below w.heap.size w w':=by
 obtain⟨pa,ca,rfl,la1,la2,ea⟩:=hv.at;clear hv;have EA:=aa ea;clear ea
 go_enter Tryz.func113,Tryz.ntmps113
 go_wp2
 refine bm (fun W=>Below w.heap.size w W/\W.heap[w.heap.size]?=some (.cells #[.int .i64 n,.slice pa l.length ca] 27)) ⟨by go_grown,am _ _⟩ (fun W0 aV=>?_);obtain⟨aH,bB⟩:=aV;have t1:=ab bB 1;simp at t1;clear bB
 go_loop [3,4] (fun o i=>∃ k:Nat,k<=l.length/\i=.int .i64 k/\o=.int .i64 (cnt l k)) (fun _ i=>l.length - (intOf i).toNat)
 case atStart=>exact⟨0,by omega,rfl,by rw[oI];rfl⟩
 case round=>
  obtain⟨k,hk,rfl,rfl⟩:=hrel;by_cases aA:k<l.length
  ·obtain⟨b1,o1,rfl,x,cx,hx⟩:=EA.out k aA
   rw[Nat.mul_one]at cx;have c1:=ak aH cx;have bP:=Gi l k aA;have nU:=aa (oJ l k aA);obtain⟨px,qx,rfl,_⟩:=hx;clear cx;generalize cnt l k=c at bP nU
   go_wp2
   go_round
   case rel=>exact⟨k+1,by omega,by go_num,by rw[nU.out];go_num⟩
   case measure=>simp[intOf];omega
  ·go_wp2
   go_ret
   exact⟨aD (by rw[ui l k (by omega)]),aH⟩
theorem Oo(a:Adv) (ps:Option Addr) (cs:Nat) (vl:Value) (l:List Mv) (k:Nat) (aA:k<l.length) (w:World) (hv:oG w vl l) :
  Calls Tryz.prog 155 #[.agg #[.int .i64 a.n,.slice ps a.states.length cs],vl,.int .i64 k] w fun e w'=>e=.returned (.int .i64 (dH a l k))/\Below w.heap.size w w':=by
 obtain⟨pc,cc,rfl,l1,m1,e1⟩:=hv.at;clear hv;have E:=aa e1;clear e1;obtain⟨b1,o1,rfl,⟨⟨c0,_⟩,⟨c1,_⟩,⟨c2,_⟩,⟨c3,_⟩,⟨c4,_⟩,⟨c5,_⟩,⟨c6,_⟩⟩,⟨c7,hc7⟩⟩:=E.out k aA;have WV:b1<w.heap.size:=eX c0;have hlb':b1<w.heap.size+1:=by omega
 have HO:Hid (dH a l k=if roundE l[k].r≠0 then roundE l[k].r else if l[k].r.g.n≠a.n then 22 else if 0<k/\0<=roundC (l.getD (k - 1) default).r l[k].r then 14 else if l[k].to<0\/(a.states.length:Int)<=l[k].to then 2 else 0):=by
  have h:dH a l k=if roundE l[k].r≠0 then roundE l[k].r else if l[k].r.g.n≠a.n then 22 else if 0<k/\0<=roundC (l.getD (k - 1) default).r l[k].r then 14 else if l[k].to<0\/(a.states.length:Int)<=l[k].to then 2 else 0:=by unfold dH;rw[az default aA]
  exact h
 have WU:=c7;generalize l[k]=m at c0 c1 c2 c3 c4 c5 c6 c7 hc7 HO WU;have HC7:=aa WU;clear WU
 go_enter Tryz.func155,Tryz.ntmps155
 go_wp2_with fail
 refine aN (fun V=>Below w.heap.size w V/\V.heap[w.heap.size]?=some (.cells #[.int .i64 a.n,.slice ps a.states.length cs] 27)/\V.heap[w.heap.size+1]?=some (.cells #[.int .i64 m.r.g.n,.int .i64 m.r.g.h0,.int .i64 m.r.g.h1,.int .i64 m.r.g.h2,.int .i64 m.r.g.h3,.int .i64 m.r.g.h4,.int .i64 m.r.f] 141)) ⟨by go_grown,ap _ (am _ _),by simpa using am (w.alloc _) _⟩ (fun V hV=>?_);obtain⟨kD,hT,hC⟩:=hV;have HT:=aa hT;have HC:=aa hC;clear hT hC c0 c1 c2 c3 c4 c5 c6 c7;refine(BS m.r V).mono ?_;rintro e w1 ⟨rfl,aI⟩;have iQ:=ae kD aI;have s1:=ab (af aI HT.out);have s2:=ab (af aI HC.out);generalize roundE m.r=er at HO;by_cases Fv:er=0
 case neg=>
  have her':(er != 0)=true:=by simpa using Fv
  go_wp2_with fail
  go_ret
  exact⟨aD (by rw[HO.out,if_pos Fv]),iQ⟩
 subst Fv;by_cases yv:m.r.g.n=a.n
 case neg=>
  have IF:(m.r.g.n != a.n)=true:=by simpa using yv
  go_wp2_with fail
  go_ret
  exact⟨aD (by rw[HO.out,if_neg (by simp),if_pos yv]),iQ⟩
 have IF:(m.r.g.n != a.n)=false:=by simpa using yv
 have gp:Hid (dH a l k=if 0<k/\0<=roundC (l.getD (k - 1) default).r m.r then 14 else if m.to<0\/(a.states.length:Int)<=m.to then 2 else 0):=by
  have h:dH a l k=if 0<k/\0<=roundC (l.getD (k - 1) default).r m.r then 14 else if m.to<0\/(a.states.length:Int)<=m.to then 2 else 0:=by rw[HO.out,if_neg (by simp),if_neg (by simpa using yv)]
  exact h
 clear HO yv
 go_wp2_with fail
 clear IF s1 s2;by_cases eP:k=0
 case' pos=>
  have eE:Hid (dH a l k=if m.to<0\/(a.states.length:Int)<=m.to then 2 else 0):=by(have h:dH a l k=if m.to<0\/(a.states.length:Int)<=m.to then 2 else 0:=by(rw[gp.out,if_neg (by omega)]));exact h
  have hd:decide ((0:Int)<(k:Int))=false:=decide_eq_false (by omega);have fY:decide (0<k)=false:=decide_eq_false (by omega);clear gp eP;refine aC (by kernel_rfl) (by kernel_rfl) ?_
  repeat (go_big_quiet_step (fail))
  refine wpQuiet_nil ?_;intro _ dY;obtain⟨xq,cX⟩:=dY;subst cX;clear hd fY
 case' neg=>
  obtain⟨j,hj⟩:∃ j,k=j+1:=⟨k - 1,by omega⟩;have fx:j<l.length:=by omega
  have HJ:=aa hj;obtain⟨b2,o2,e2,⟨⟨c0,_⟩,⟨c1,_⟩,⟨c2,_⟩,⟨c3,_⟩,⟨c4,_⟩,⟨c5,_⟩,⟨c6,_⟩⟩,_⟩:=E.out j fx;obtain⟨rfl,rfl⟩:b1=b2/\o1=o2:=by simpa using e2
  clear e2;have hd:decide ((0:Int)<(k:Int))=true:=decide_eq_true (by omega);have fY:0<k:=by omega
  have lu:Hid (dH a l k=if 0<=roundC l[j].r m.r then 14 else if m.to<0\/(a.states.length:Int)<=m.to then 2 else 0):=by
   have h:dH a l k=if 0<=roundC l[j].r m.r then 14 else if m.to<0\/(a.states.length:Int)<=m.to then 2 else 0:=by
    rw[gp.out];have e:k - 1=j:=by omega
    rw[e,az default fx]
    grind
   exact h
  clear gp eP hj;have js:IntKind.i64.wrap ((k:Int) - 1)=(j:Int):=by rw[HJ.out];rw[IntWalk.i64_in _ (by omega)];omega
  generalize l[j]=m2 at c0 c1 c2 c3 c4 c5 c6 lu;have r1:∀ x:ExtW w1,∀ o,x.val.cell? ⟨w.heap.size,o,none⟩=_:=fun x=>ab (af (ae aI x.ext) HT.out)
  have r2:∀ x:ExtW w1,∀ o,x.val.cell? ⟨w.heap.size+1,o,none⟩=_:=fun x=>ab (af (ae aI x.ext) HC.out)
  have k0:∀ x:ExtW w1,x.val.cell? _=_:=fun x=>x.cell (ak iQ c0)
  have k1:∀ x:ExtW w1,x.val.cell? _=_:=fun x=>x.cell (ak iQ c1)
  have k2:∀ x:ExtW w1,x.val.cell? _=_:=fun x=>x.cell (ak iQ c2)
  have k3:∀ x:ExtW w1,x.val.cell? _=_:=fun x=>x.cell (ak iQ c3)
  have k4:∀ x:ExtW w1,x.val.cell? _=_:=fun x=>x.cell (ak iQ c4)
  have k5:∀ x:ExtW w1,x.val.cell? _=_:=fun x=>x.cell (ak iQ c5)
  have k6:∀ x:ExtW w1,x.val.cell? _=_:=fun x=>x.cell (ak iQ c6)
  clear c0 c1 c2 c3 c4 c5 c6;refine aC (by kernel_rfl) (by kernel_rfl) ?_
  repeat (go_big_quiet_step ((go_at_call 187;exact Calls.ext_of (zs m2.r m.r _))))
  refine wpQuiet_nil ?_;intro _ dY;obtain⟨xq,cX⟩:=dY;subst cX;clear r1 r2 k0 k1 k2 k3 k4 k5 k6 hd fY js;generalize roundC m2.r m.r=oo at lu;by_cases qG:0<=oo
  ·go_wp2_with fail
   go_ret
   exact⟨aD (by rw[lu.out,if_pos qG]),ae iQ xq.ext⟩
  have eE:Hid (dH a l k=if m.to<0\/(a.states.length:Int)<=m.to then 2 else 0):=by(have h:dH a l k=if m.to<0\/(a.states.length:Int)<=m.to then 2 else 0:=by(rw[lu.out,if_neg qG]));exact h
  clear lu HJ
 all_goals
  have dx:=ae iQ xq.ext;have Fl:=af (ae aI xq.ext) HT.out;generalize xq.val=W5 at dx Fl ⊢;have r1:∀ n o,(W5.drewN n).cell? ⟨w.heap.size,o,none⟩=_:=fun n=>ab Fl
  have r7:∀ n,(W5.drewN n).cell? _=_:=fun n=>ak dx HC7.out
  clear Fl;by_cases ht:m.to<0
  ·go_wp2_with fail
   go_quiet (fail)
   go_wp2_with fail
   go_ret
   exact⟨aD (by rw[eE.out,if_pos (by omega)]),ed dx _⟩
  ·have hd:decide (m.to<0)=false:=decide_eq_false ht
   go_wp2_with fail
   go_quiet (fail)
   go_wp2_with fail
   ·go_ret
    refine⟨aD ?_,ed dx _⟩;rw[eE.out]
    go_light
    grind
   ·go_ret
    refine⟨aD ?_,ed dx _⟩;rw[eE.out]
    go_light
    grind
theorem QW(a:Adv) (s j:Nat) (hs:s<a.states.length) (hj:j<a.states[s].length) :
  pk a (cnt a.states s+j)=anyLt (a.states.getD a.states[s][j].to.toNat []).length fun k=>!iA a.states[s][j].r.f ((a.states.getD a.states[s][j].to.toNat []).getD k default).r.f:=by
 unfold pk mY;rw[yV _ s j hs hj]
theorem QX(a:Adv) (s j u:Nat) (hs:s<a.states.length) (hj:j<a.states[s].length) (hu:u<a.states.length) (h:a.states[s][j].to=u) :
  pk a (cnt a.states s+j)=anyLt a.states[u].length fun k=>!iA a.states[s][j].r.f (a.states[u].getD k default).r.f:=by
 rw[QW a s j hs hj,h,Int.toNat_natCast,az [] hu]
theorem LU(a:Adv) (v:Value) (w:World) (hv:bh w v a.states) (gg:∀ s,s<a.states.length->stateE a (a.states.getD s [])=0) :
  Calls Tryz.prog 156 #[.agg #[.int .i64 a.n,v]] w fun e w'=>e=.returned (.bool (growsB a))/\Below w.heap.size w w':=by
 obtain⟨pa,ca,rfl,la1,la2,ea⟩:=hv.at;clear hv;have EA:=aa ea;clear ea;have dB:=aa gg;clear gg;have HV:Hid (growsB a=!anyLt (movesN a.states) (pk a)):=by exact rfl
 go_enter Tryz.func156,Tryz.ntmps156
 go_wp2
 refine bm (fun W=>Below w.heap.size w W/\W.heap[w.heap.size]?=some (.cells #[.int .i64 a.n,.slice pa a.states.length ca] 27)) ⟨by go_grown,am _ _⟩ (fun W0 aV=>?_);obtain⟨aH,bB⟩:=aV;have HA:=aa bB;clear bB
 go_loopw [3] (fun i wr=>Below W0.heap.size W0 wr/\∃ s:Nat,s<=a.states.length/\i=.int .i64 s/\∀ j,j<cnt a.states s->pk a j=false) (fun i _=>a.states.length - (intOf i).toNat)
 case atStart=>exact⟨Below.refl _ _,0,by omega,rfl,by rw[oI];simp⟩
 case round=>
  obtain⟨iK,s,hs,rfl,aR⟩:=hrel;have H:=aa aR;clear aR;have ar:=ae aH iK;have t1:=ab (af iK HA.out);by_cases aA:s<a.states.length
  ·obtain⟨b1,o1,rfl,x,cx,hx⟩:=EA.out s aA
   rw[Nat.mul_one]at cx;obtain⟨px,qx,rfl,x1,x2,ex⟩:=hx.at;have EX:=aa ex;have CX:=aa cx;have nU:=aa (oJ a.states s aA);have bP:=Gi a.states s aA;clear hx cx ex
   go_wp2
   clear t1
   go_loopw [4] (fun i ws=>Below wr.heap.size wr ws/\∃ m:Nat,m<=a.states[s].length/\i=.int .i64 m/\∀ j,j<cnt a.states s+m->pk a j=false) (fun i _=>a.states[s].length - (intOf i).toNat)
   case atStart=>exact⟨Below.refl _ _,0,by omega,rfl,by simpa using H.out⟩
   case round=>
    obtain⟨lE,m,hm,rfl,aR⟩:=hrel
    rename World=>ws
    have H2:=aa aR;clear aR;have rx:=ae iK lE;have ic:=ae ar lE;have t1:=ab (af rx HA.out);have c1:=ak ic CX.out;have eT:=aB (af rx HA.out);have aI:b1<ws.heap.size:=eX c1;by_cases lS:m<a.states[s].length
    ·obtain⟨b3,o3,rfl,⟨⟨d0,_⟩,⟨d1,_⟩,⟨d2,_⟩,⟨d3,_⟩,⟨d4,_⟩,⟨d5,_⟩,⟨d6,_⟩⟩,⟨d7,_⟩⟩:=EX.out m lS
     have hso:=kL dB.out aA lS;obtain⟨u,hu⟩:∃ u:Nat,a.states[s][m].to=u:=⟨a.states[s][m].to.toNat,by omega⟩;have P2:u<a.states.length:=by omega
     have Fj:=aa (QX a s m u aA lS P2 hu);rw[hu]at d7;have eF:=hso.1;obtain⟨b4,o4,e4,y,cy,hy⟩:=EA.out u P2;obtain⟨rfl,rfl⟩:b1=b4/\o1=o4:=by simpa using e4
     rw[Nat.mul_one]at cy;obtain⟨py,qy,rfl,y1,y2,ey⟩:=hy.at;have EY:=aa ey;have CY:=aa cy;have Pt:=aa (fun j (hj:j<a.states[u].length)=>(kL dB.out P2 hj).1);have g0:=ak ic d0;have g1:=ak ic d1;have g2:=ak ic d2;have g3:=ak ic d3;have g4:=ak ic d4;have g5:=ak ic d5;have g6:=ak ic d6;have g7:=ak ic d7;clear hu hso hy cy ey e4 d0 d1 d2 d3 d4 d5 d6 d7;generalize a.states[s][m]=mv at g0 g1 g2 g3 g4 g5 g6 Fj eF
     go_wp2
     refine bm (fun W=>Below ws.heap.size ws W/\W.heap[ws.heap.size]?=some (.cells #[.int .i64 mv.r.g.n,.int .i64 mv.r.g.h0,.int .i64 mv.r.g.h1,.int .i64 mv.r.g.h2,.int .i64 mv.r.g.h3,.int .i64 mv.r.g.h4,.int .i64 mv.r.f,.int .i64 u] 143)) ⟨by go_grown,am _ _⟩ (fun W6 yH=>?_);obtain⟨gK,hM6⟩:=yH;have HM6:=aa hM6;clear hM6 g0 g1 g2 g3 g4 g5 g6 g7 t1 c1 eT aI
     go_loopw [6] (fun i wt=>Below W6.heap.size W6 wt/\∃ q:Nat,q<=a.states[u].length/\i=.int .i64 q/\∀ j,j<q->(!iA mv.r.f (a.states[u].getD j default).r.f)=false) (fun i _=>a.states[u].length - (intOf i).toNat)
     case atStart=>exact⟨Below.refl _ _,0,by omega,rfl,by simp⟩
     case round=>
      obtain⟨uf,q,hq,rfl,aR⟩:=hrel
      rename World=>wt
      have H3:=aa aR;clear aR;have Sa:=ae gK uf;have hbt5:=ae rx Sa;have tj:=ae ic Sa;have t1:=ab (af hbt5 HA.out);have t2:=ab (af uf HM6.out);have c2:=ak tj CY.out;by_cases nE:q<a.states[u].length
      ·obtain⟨b5,o5,rfl,⟨_,_,_,_,_,_,⟨f6,_⟩⟩,_⟩:=EY.out q nE
       have sT:=Pt.out q nE;have ge:=aa (az default nE);generalize a.states[u][q]=nx at f6 sT ge;have bO:=aa (fun x:ExtW wt=>Calls.ext_of ((JE mv.r.f nx.r.f (by omega) (by omega) x.val).mono (fun _ _ ⟨h1,h2⟩=>⟨h1,h2 ▸ Below.refl _ _⟩)))
       go_wp2_with fail
       have r1:∀ x:ExtW wt,∀ o,x.val.cell? ⟨w.heap.size,o,none⟩=_:=fun x=>ab (af (ae hbt5 x.ext) HA.out)
       have r2:∀ x:ExtW wt,∀ o,x.val.cell? ⟨ws.heap.size,o,none⟩=_:=fun x=>ab (af (ae uf x.ext) HM6.out)
       have r3:∀ x:ExtW wt,x.val.cell? ⟨b1,o1+u,none⟩=_:=fun x=>x.cell c2
       have r4:∀ x:ExtW wt,x.val.cell? _=_:=fun x=>x.cell (ak tj f6)
       clear t1 t2 c2 f6;cases cO:iA mv.r.f nx.r.f with
       | false=>
        rw[cO]at bO;have iS:=aa cO;clear cO;refine aC (by kernel_rfl) (by kernel_rfl) ?_
        repeat (go_big_quiet_step ((go_at_call 188;exact bO.out _)))
        refine wpQuiet_nil ?_;intro _ dY;obtain⟨xq,cX⟩:=dY;subst cX;clear r1 r2 r3 r4 bO
        go_wp2_with fail
        go_ret
        refine⟨aO ?_,ae tj xq.ext⟩;rw[HV.out,dV _ (cnt a.states s+m) _ (by omega) (by rw[Fj.out];exact dV _ q _ nE (by rw[ge.out,iS.out];rfl))];rfl
       | true=>
        rw[cO]at bO;have iS:=aa cO;clear cO;refine aC (by kernel_rfl) (by kernel_rfl) ?_
        repeat (go_big_quiet_step ((go_at_call 188;exact bO.out _)))
        refine wpQuiet_nil ?_;intro _ dY;obtain⟨xq,cX⟩:=dY;subst cX;clear r1 r2 r3 r4 bO
        go_wp2_with fail
        go_roundw
        case rel=>exact⟨ae uf xq.ext,q+1,by omega,by go_num,aS H3.out (by rw[ge.out,iS.out];rfl)⟩
        case measure=>simp[intOf];omega
      ·go_wp2_with fail
       go_roundw
       case rel=>
        refine⟨ae lE Sa,m+1,by omega,by go_num,?_⟩;rw[<-Nat.add_assoc];refine aS H2.out ?_;rw[Fj.out];exact eG _ _ fun j hj=>H3.out j (by omega)
       case measure=>simp[intOf];omega
    ·go_wp2_with fail
     go_roundw
     case rel=>
      refine⟨ae iK lE,s+1,by omega,by go_num,?_⟩;rw[nU.out];exact fun j hj=>H2.out j (by omega)
     case measure=>simp[intOf];omega
  ·go_wp2
   go_ret
   refine⟨aO ?_,ar⟩;rw[HV.out,eG]
   ·rfl
   ·intro j hj
    refine H.out j ?_;rw[ui _ _ (by omega)];exact hj
theorem FW(a:Adv) (v:Value) (w:World) (hv:bh w v a.states) (hN:movesN a.states<2305843009213693952) :
  Calls Tryz.prog 115 #[.agg #[.int .i64 a.n,v]] w fun e w'=>e=.returned (.int .i64 (advE a))/\Below w.heap.size w w':=by
 have G:=aa hv;obtain⟨pa,ca,rfl,la1,la2,ea⟩:=hv.at;clear hv;have EA:=aa ea;clear ea;by_cases c0:a.n<1
 ·have HR:Hid (advE a=2):=by(have h:advE a=2:=by(unfold advE;rw[if_pos (by omega)]));exact h
  go_enter Tryz.func115,Tryz.ntmps115
  go_wp2
  go_ret
  exact⟨aD HR.out.symm,by go_grown⟩
 by_cases c1:5<a.n
 ·have HR:Hid (advE a=2):=by(have h:advE a=2:=by(unfold advE;rw[if_pos (by omega)]));exact h
  go_enter Tryz.func115,Tryz.ntmps115
  go_wp2
  go_ret
  exact⟨aD HR.out.symm,by go_grown⟩
 by_cases c2:a.states.length<1
 ·have HR:Hid (advE a=5):=by(have h:advE a=5:=by(unfold advE;rw[if_neg (by omega),if_pos (by omega)]));exact h
  go_enter Tryz.func115,Tryz.ntmps115
  go_wp2
  go_ret
  exact⟨aD HR.out.symm,by go_grown⟩
 by_cases c3:256<a.states.length
 ·have HR:Hid (advE a=5):=by(have h:advE a=5:=by(unfold advE;rw[if_neg (by omega),if_pos (by omega)]));exact h
  go_enter Tryz.func115,Tryz.ntmps115
  go_wp2
  go_ret
  exact⟨aD HR.out.symm,by go_grown⟩
 have HC:=aa (fun W (hb:Below w.heap.size w W)=>BT a.n _ a.states W (G.out.up up_moves hb) hN)
 have HV:Hid (advE a=if 4096<movesN a.states then 5 else if aZ a.states.length (fun s=>stateE a (a.states.getD s []))≠0 then aZ a.states.length (fun s=>stateE a (a.states.getD s [])) else if growsB a then 0 else 21):=by
  have h:advE a=if 4096<movesN a.states then 5 else if aZ a.states.length (fun s=>stateE a (a.states.getD s []))≠0 then aZ a.states.length (fun s=>stateE a (a.states.getD s [])) else if growsB a then 0 else 21:=by
   unfold advE;rw[if_neg (by omega)];by_cases h4:4096<movesN a.states
   ·rw[if_pos (by omega),if_pos h4]
   ·rw[if_neg (by omega),if_neg h4]
  exact h
 generalize movesN a.states=mN at HC HV hN
 go_enter Tryz.func115,Tryz.ntmps115
 go_wp2_with fail
 refine aN (fun W=>Below w.heap.size w W/\W.heap[w.heap.size]?=some (.cells #[.int .i64 a.n,.slice pa a.states.length ca] 27)) ⟨by go_grown,am _ _⟩ (fun W0 aV=>?_);obtain⟨aH,bB⟩:=aV;refine(HC.out W0 aH).mono ?_;rintro e W1 ⟨rfl,aI⟩;have dm:=ae aH aI;have HA:=aa (af aI bB);have t1:=ab HA.out;clear bB HC;by_cases c4:4096<mN
 ·have HR:Hid (advE a=5):=by(have h:advE a=5:=by(rw[HV.out,if_pos c4]));exact h
  go_wp2_with fail
  go_ret
  exact⟨aD HR.out.symm,dm⟩
 have nV:Hid (advE a=if aZ a.states.length (fun s=>stateE a (a.states.getD s []))≠0 then aZ a.states.length (fun s=>stateE a (a.states.getD s [])) else if growsB a then 0 else 21):=by
  have h:advE a=if aZ a.states.length (fun s=>stateE a (a.states.getD s []))≠0 then aZ a.states.length (fun s=>stateE a (a.states.getD s [])) else if growsB a then 0 else 21:=by rw[HV.out,if_neg c4]
  exact h
 clear HV
 go_wp2_with fail
 clear t1 c0 c1 c2 c3 c4
 go_loopw [3] (fun i wr=>Below W1.heap.size W1 wr/\∃ s:Nat,s<=a.states.length/\i=.int .i64 s/\∀ j,j<s->stateE a (a.states.getD j [])=0) (fun i _=>a.states.length - (intOf i).toNat)
 case atStart=>exact⟨Below.refl _ _,0,by omega,rfl,by simp⟩
 case round=>
  obtain⟨iK,s,hs,rfl,aR⟩:=hrel;have H:=aa aR;clear aR;have ar:=ae dm iK;have t1:=ab (af iK HA.out);by_cases aA:s<a.states.length
  ·obtain⟨b1,o1,rfl,x,cx,hx⟩:=EA.out s aA
   rw[Nat.mul_one]at cx;have HX:=aa hx;obtain⟨px,qx,rfl,_⟩:=hx;have CX:=aa cx;have c1:=ak ar cx
   have HS:Hid (stateE a (a.states.getD s [])=if a.states[s].length=0 then 19 else aZ a.states[s].length (dH a a.states[s])):=by
    have h:stateE a (a.states.getD s [])=if a.states[s].length=0 then 19 else aZ a.states[s].length (dH a a.states[s]):=by rw[az [] aA];rfl
    exact h
   clear cx;by_cases h0:a.states[s].length=0
   ·have h0':((a.states[s].length:Int) == 0)=true:=by simp[h0]
    have Kx:(a.states[s].length == 0)=true:=by simp[h0]
    have HR:Hid (stateE a (a.states.getD s [])=19):=by(have h:stateE a (a.states.getD s [])=19:=by(rw[HS.out,if_pos h0]));exact h
    have H0:=aa h0;clear h0
    go_wp2_with fail
    go_ret
    exact⟨aD (by rw[nV.out,<-bN (f:=fun s=>stateE a (a.states.getD s [])) s 19 aA H.out HR.out (by decide)];rfl),ar⟩
   ·have h0':((a.states[s].length:Int) == 0)=false:=beq_eq_false_iff_ne.2 (by omega)
    have Kx:(a.states[s].length == 0)=false:=beq_eq_false_iff_ne.2 (by omega);have HR:Hid (stateE a (a.states.getD s [])=aZ a.states[s].length (dH a a.states[s])):=by(have h:stateE a (a.states.getD s [])=aZ a.states[s].length (dH a a.states[s]):=by(rw[HS.out,if_neg h0]));exact h
    clear h0
    go_wp2_with fail
    clear t1 c1 h0' Kx
    go_loopw [4] (fun i ws=>Below wr.heap.size wr ws/\∃ m:Nat,m<=a.states[s].length/\i=.int .i64 m/\∀ j,j<m->dH a a.states[s] j=0) (fun i _=>a.states[s].length - (intOf i).toNat)
    case atStart=>exact⟨Below.refl _ _,0,by omega,rfl,by simp⟩
    case round=>
     obtain⟨lE,m,hm,rfl,aR⟩:=hrel
     rename World=>ws
     have H2:=aa aR;clear aR;have rx:=ae iK lE;have ic:=ae ar lE;have t1:=ab (af rx HA.out);have c1:=ak ic CX.out;by_cases lS:m<a.states[s].length
     ·have bO:=aa (fun x:ExtW ws=>Calls.ext_of (Oo a (some ⟨b1,o1,none⟩) ca _ a.states[s] m lS x.val (HX.out.up up_move (ae ic x.ext))))
      generalize pZ:dH a a.states[s] m=em at bO;have uK:=aa pZ;clear pZ
      go_wp2_with fail
      have r1:∀ x:ExtW ws,∀ o,x.val.cell? ⟨w.heap.size,o,none⟩=_:=fun x=>ab (af (ae rx x.ext) HA.out)
      have r3:∀ x:ExtW ws,x.val.cell? _=_:=fun x=>x.cell c1
      clear t1 c1;refine aC (by kernel_rfl) (by kernel_rfl) ?_
      repeat (go_big_quiet_step ((go_at_call 155;exact bO.out _)))
      refine wpQuiet_nil ?_;intro _ dY;obtain⟨xq,cX⟩:=dY;subst cX;clear r1 r3 bO;by_cases uR:em=0
      ·subst uR
       go_wp2_with fail
       go_roundw
       case rel=>exact⟨ae lE xq.ext,m+1,by omega,by go_num,aS H2.out uK.out⟩
       case measure=>simp[intOf];omega
      ·have hem':(em != 0)=true:=by simpa using uR
       go_wp2_with fail
       go_ret
       refine⟨aD ?_,ae ic xq.ext⟩;have e1:em=stateE a (a.states.getD s []):=by rw[HR.out];exact bN m em lS H2.out uK.out uR
       rw[nV.out,<-bN (f:=fun s=>stateE a (a.states.getD s [])) s em aA H.out e1.symm uR,if_pos uR]
     ·go_wp2_with fail
      go_roundw
      case rel=>exact⟨ae iK lE,s+1,by omega,by go_num,aS H.out (by rw[HR.out];exact cJ _ _ fun j hj=>H2.out j (by omega))⟩
      case measure=>simp[intOf];omega
  ·have aQ:∀ j,j<a.states.length->stateE a (a.states.getD j [])=0:=fun j hj=>H.out j (by omega)
   have cV:Hid (advE a=if growsB a then 0 else 21):=by
    have h:advE a=if growsB a then 0 else 21:=by rw[nV.out,cJ _ _ aQ];simp
    exact h
   have HG:=aa (LU a _ wr (G.out.up up_moves ar) aQ);clear aQ;generalize growsB a=gb at HG cV;cases gb with
   | true=>
    go_wp2_with fail
    refine HG.out.mono ?_;rintro e w2 ⟨rfl,aU⟩
    go_wp2_with fail
    go_ret
    exact⟨aD (by rw[cV.out];rfl),ae ar aU⟩
   | false=>
    go_wp2_with fail
    refine HG.out.mono ?_;rintro e w2 ⟨rfl,aU⟩
    go_wp2_with fail
    go_ret
    exact⟨aD (by rw[cV.out];rfl),ae ar aU⟩
def su(a:Adv):Bool:=decide (a.states.length<=8)&&decide (movesN a.states<=40)
theorem U7(l:List (List Mv)) (B:Nat) (h:∀ k (hk:k<l.length),l[k].length<=B):∀ k,k<=l.length->cnt l k<=k * B:=by
 intro k;induction k with
 | zero=>intro _;rw[oI];exact Nat.zero_le _
 | succ k ih=>
  intro hk;rw[oJ l k (by omega),Nat.succ_mul];exact Nat.add_le_add (ih (by omega)) (h k (by omega))
theorem Oq{w:World} {v:Value} {l:List (List Mv)} (hv:bh w v l):movesN l<=l.length * 17592186044416:=by
 obtain⟨pa,ca,rfl,la1,la2,ea⟩:=hv.at
 have:=U7 l 17592186044416 (fun k hk=>by
  obtain⟨b,o,_,x,_,hx⟩:=ea k hk;obtain⟨_,_,_,_,dM,_⟩:=hx
  exact dM) l.length (Nat.le_refl _)
 rwa [ui l _ (Nat.le_refl _)]at this
theorem JK(a:Adv) (v:Value) (w:World) (hv:bh w v a.states) :
  Calls Tryz.prog 70 #[.agg #[.int .i64 a.n,v]] w fun e w'=>e=.returned (.bool (su a))/\Below w.heap.size w w':=by
 have hN:=Oq hv;have HV:Hid (su a=(decide (a.states.length<=8)&&decide (movesN a.states<=40))):=by exact rfl
 by_cases h8:a.states.length<=8
 ·have HC:=aa (fun W (hb:Below w.heap.size w W)=>BT a.n _ a.states W (hv.up up_moves hb) (by omega))
  obtain⟨pa,ca,rfl,_⟩:=hv;have H8:Hid (decide (a.states.length<=8)=true):=by(have h:=decide_eq_true h8);exact h
  generalize movesN a.states=mN at HC HV hN
  go_enter Tryz.func70,Tryz.ntmps70
  go_wp2_with fail
  refine(HC.out _ (by go_grown)).mono ?_;rintro e W1 ⟨rfl,aI⟩
  go_wp2_with fail
  go_ret
  refine⟨aO ?_,ae (by go_grown) aI⟩;rw[HV.out,H8.out];simp;omega
 ·have H8:Hid (decide (a.states.length<=8)=false):=by(have h:=decide_eq_false h8);exact h
  obtain⟨pa,ca,rfl,_⟩:=hv
  go_enter Tryz.func70,Tryz.ntmps70
  go_wp2_with fail
  go_ret
  exact⟨aO (by rw[HV.out,H8.out];rfl),by go_grown⟩
def sv(c:List Int) (n:Int) (m:Mv):Int:=min (n+c.getD m.to.toNat 0) 4097
def rowN(c:List Int) (l:List Mv):Int:=l.foldl (sv c) 0
def lm(a:Adv) (c:List Int):List Int:=a.states.map (rowN c)
def ef(a:Adv):Nat->List Int
 | 0=>List.replicate a.states.length 1
 | k+1=>lm a (ef a k)
def numberS(a:Adv) (k:Nat):Int:=(ef a k).getD 0 0
def G'(c:List Int):Prop:=∀ x∈c,0<=x/\x<=4097
theorem Dy{c:List Int} (h:G' c) (i:Nat):0<=c.getD i 0/\c.getD i 0<=4097:=by
 by_cases hi:i<c.length
 ·rw[az 0 hi];exact h _ (List.getElem_mem hi)
 ·rw[List.getD_eq_getElem?_getD,List.getElem?_eq_none (by omega)];simp
theorem QY{c:List Int} (h:G' c) {n:Int} (hn:0<=n/\n<=4097) (m:Mv):0<=sv c n m/\sv c n m<=4097:=by
 have:=Dy h m.to.toNat;unfold sv;omega
theorem Uo{c:List Int} (h:G' c) (l:List Mv):∀ n:Int,(0<=n/\n<=4097)->0<=l.foldl (sv c) n/\l.foldl (sv c) n<=4097:=by
 induction l with
 | nil=>intro n hn;exact hn
 | cons m r ih=>intro n hn;exact ih _ (QY h hn m)
theorem Kg{c:List Int} (h:G' c) (l:List Mv):0<=rowN c l/\rowN c l<=4097:=Uo h l 0 (by omega)
theorem QZ{c:List Int} (h:G' c) (a:Adv):G' (lm a c):=fun x hx=>by
 obtain⟨l,_,rfl⟩:=List.mem_map.1 hx;exact Kg h l
theorem Ha(a:Adv) (k:Nat):G' (ef a k):=by
 induction k with
 | zero=>intro x hx;rw[(List.mem_replicate.1 hx).2];omega
 | succ k ih=>exact QZ ih a
theorem Or(a:Adv) (k:Nat):(ef a k).length=a.states.length:=by
 cases k with
 | zero=>simp[ef]
 | succ k=>simp[ef,lm]
theorem Ot(c:List Int) (l:List Mv) (i:Nat) (hi:i<l.length):rowN c (l.take (i+1))=sv c (rowN c (l.take i)) l[i]:=by
 unfold rowN;rw[List.take_succ_eq_append_getElem hi,List.foldl_append];rfl
theorem Eu{w:World} {v:Value} {t:TypeId} (j:Nat) (u:Value) (hj:[v][j]?=some u):(w.alloc (.cells #[v] t)).cell? (Addr.add ⟨w.heap.size,0,none⟩ j)=some u:=by
 cases j with
 | zero=>simp at hj;subst hj;simp[Addr.add,ab (am w _)]
 | succ j=>simp at hj
theorem Uq(P:Program) (ats:Array TypeId) (ty:TypeId) (x y:Int) (w:World):(Builtin.min_ ats ty #[.int .i64 x,.int .i64 y]).run P w=.ok (.int .i64 (min x y)) w:=by
 have h:(if y<x then y else x)=min x y:=by omega
 simp[Builtin.min_,Builtin.min2,h]
theorem Dz(a:Adv) (v:Value) (n:Nat) (hn:n<=6) (w:World) (hv:bh w v a.states) (gg:∀ s,s<a.states.length->stateE a (a.states.getD s [])=0) (h1:1<=a.states.length/\a.states.length<=256) :
  Calls Tryz.prog 116 #[.agg #[.int .i64 a.n,v],.int .i64 n,.int .i64 4096] w fun e w'=>e=.returned (.int .i64 (numberS a n))/\Below w.heap.size w w':=by
 obtain⟨pa,ca,rfl,la1,la2,ea⟩:=hv.at;have EA:=aa ea;have dB:=aa gg;clear hv ea gg;obtain⟨i0,hi,cg,bV,cj⟩:=info_parts Tryz.infoInt
 go_enter Tryz.func116,Tryz.ntmps116
 go_wp2
 refine bm (fun W=>Below w.heap.size w W/\W.heap[w.heap.size]?=some (.cells #[.int .i64 a.n,.slice pa a.states.length ca] 27)) ⟨by go_grown,am _ _⟩ (fun W0 aV=>?_);obtain⟨aH,bB⟩:=aV;have HA:=aa bB;clear bB
 go_loopw [7,8] (fun o i wr=>Below W0.heap.size W0 wr/\∃ k:Nat,k<=a.states.length/\i=.int .i64 k/\wr.ownsRow W0.heap.size 3 1 o k (List.replicate k (.int .i64 1))) (fun _ i _=>a.states.length - (intOf i).toNat)
 case atStart=>exact⟨Below.refl _ _,0,by omega,rfl,World.ownsRow_nil _ _ _ _⟩
 case round=>
  obtain⟨iK,k,hk,rfl,aX⟩:=hrel;have bI:=aa aX;obtain⟨ao,co,rfl,_⟩:=rT aX;clear aX;have t1:=ab (af iK HA.out);by_cases aA:k<a.states.length
  ·have hA:Below wr.heap.size wr (wr.alloc (.cells #[.int .i64 1] 3)):=by go_grown
   have dd:=aa (oL bI.out hA);have bz:=aa (fun j u hj=>Eu (w:=wr) (v:=.int .i64 1) (t:=3) j u hj);clear hA;have ic:=iK.size
   go_wp2_with (at_builtin;(refine wpList_append_own _ rfl (.tmp 21) (.tmp 22) 38 rfl W0.heap.size 3 i0 (.int .i64 0) 1 8 Tryz.underlying38 hi cg bV cj rfl (by decide) _ k (List.replicate k (.int .i64 1)) rfl dd.out ⟨wr.heap.size,0,none⟩ 1 1 [.int .i64 1] rfl rfl bz.out (by simp[Value.oneCell']) (by unfold maxLen;omega) (by omega) (by simp;omega) ?_;intro v' w2 fD dg _))
   go_roundw
   case rel=>
    refine⟨Below.grown (w:=wr.alloc (.cells #[.int .i64 1] 3)) (iK.alloc ic _) dg (by simp;omega) (fun g hg=>(Dh bI.out g hg).1),k+1,by omega,by go_num,?_⟩;rw[List.replicate_succ'];exact fD
   case measure=>simp[intOf];omega
  ·obtain rfl:k=a.states.length:=by omega
   have cO:(List.replicate a.states.length (Value.int .i64 1))=(ef a 0).map (Value.int .i64):=by simp[ef]
   rw[cO]at bI;clear cO
   go_wp2
   clear t1
   go_loopw [7,9] (fun o i ws=>Below wr.heap.size wr ws/\∃ k:Nat,k<=n/\i=.int .i64 k/\ws.ownsRow W0.heap.size 3 1 o a.states.length ((ef a k).map (Value.int .i64))) (fun _ i _=>n - (intOf i).toNat)
   case atStart=>exact⟨Below.refl _ _,0,by omega,rfl,bI.out⟩
   case round=>
    obtain⟨lE,k,hk,rfl,aX⟩:=hrel
    rename World=>ws
    have HOWN2:=aa aX;have ic:=ae iK lE;obtain⟨ac,cc,rfl,_,_,_,_,eB⟩:=rT aX;have F9:=aa eB;clear aX eB;have P0:=aa (Or a k);have HIO:=aa (Ha a k);by_cases aA:k<n
    ·have t1:=ab (af ic HA.out)
     go_wp2
     clear t1
     go_loopw [10,11] (fun o i wt=>Below ws.heap.size ws wt/\∃ s:Nat,s<=a.states.length/\i=.int .i64 s/\wt.ownsRow ws.heap.size 3 1 o s (((lm a (ef a k)).take s).map (Value.int .i64))) (fun _ i _=>a.states.length - (intOf i).toNat)
     case atStart=>exact⟨Below.refl _ _,0,by omega,rfl,World.ownsRow_nil _ _ _ _⟩
     case round=>
      obtain⟨uf,s,hs,rfl,aX⟩:=hrel
      rename World=>wt
      have da:=aa aX;have tj:=ae ic uf;have hbtw:=ae aH tj;obtain⟨an,cn,rfl,_⟩:=rT aX;clear aX;have t1:=ab (af tj HA.out);by_cases KP:s<a.states.length
      ·obtain⟨b1,o1,rfl,x,cx,hx⟩:=EA.out s KP
       rw[Nat.mul_one]at cx;obtain⟨px,qx,rfl,x1,x2,ex⟩:=hx.at;have EX:=aa ex;have c1:=ak hbtw cx
       have ge:Hid ((lm a (ef a k)).take (s+1)=(lm a (ef a k)).take s++[rowN (ef a k) a.states[s]]):=by
        have h:(lm a (ef a k)).take (s+1)=(lm a (ef a k)).take s++[rowN (ef a k) a.states[s]]:=by
         rw[List.take_succ_eq_append_getElem (by simp[lm];exact KP)];simp[lm]
        exact h
       have Pt:=aa (fun j (hj:j<a.states[s].length)=>(kL dB.out KP hj).2);clear hx ex cx
       go_wp2
       go_loop [12,13] (fun o i=>∃ m:Nat,m<=a.states[s].length/\i=.int .i64 m/\o=.int .i64 (rowN (ef a k) (a.states[s].take m))) (fun _ i=>a.states[s].length - (intOf i).toNat)
       case atStart=>exact⟨0,by omega,rfl,by simp[rowN]⟩
       case round=>
        obtain⟨m,hm,rfl,rfl⟩:=hrel;have Vq:=Kg HIO.out (a.states[s].take m);by_cases lS:m<a.states[s].length
        ·obtain⟨b3,o3,rfl,_,⟨d7,_⟩⟩:=EX.out m lS
         have oB:=Pt.out m lS;obtain⟨u,hu⟩:∃ u:Nat,a.states[s][m].to=u:=⟨a.states[s][m].to.toNat,by omega⟩
         have ju:Hid (rowN (ef a k) (a.states[s].take (m+1))=min (rowN (ef a k) (a.states[s].take m)+(ef a k).getD u 0) 4097):=by
          have h:rowN (ef a k) (a.states[s].take (m+1))=min (rowN (ef a k) (a.states[s].take m)+(ef a k).getD u 0) 4097:=by
           rw[Ot _ _ m lS];unfold sv;rw[hu,Int.toNat_natCast]
          exact h
         rw[hu]at d7;have P2:u<a.states.length:=by omega
         have oz:=Dy HIO.out u;have Ja:u<(ef a k).length:=by rw[P0.out];exact P2
         obtain⟨b,e4,hc⟩:=F9.out u (.int .i64 ((ef a k).getD u 0)) (by rw[az 0 Ja];simp);have c2:=ak hbtw d7;subst e4;have c3:=ak uf hc;have hmin:=Uq Tryz.prog;generalize rowN (ef a k) (a.states[s].take m)=r0 at Vq ju;generalize (ef a k).getD u 0=g0 at oz ju c3 hc;clear d7 hc hu oB Ja
         go_wp2
         go_round
         case rel=>exact⟨m+1,by omega,by go_num,by rw[ju.out]⟩
         case measure=>simp[intOf];omega
        ·obtain rfl:m=a.states[s].length:=by omega
         rw[List.take_length];rw[List.take_length]at Vq;generalize rowN (ef a k) a.states[s]=r0 at Vq ge;have hA:Below wt.heap.size wt (wt.alloc (.cells #[.int .i64 r0] 3)):=by go_grown
         have HOWN4:=aa (oL da.out hA);have bz:=aa (fun j u hj=>Eu (w:=wt) (v:=.int .i64 r0) (t:=3) j u hj);have hbs3:=uf.size;clear hA
         go_wp2_with (at_builtin;(refine wpList_append_own _ rfl (.tmp 63) (.tmp 65) 38 rfl ws.heap.size 3 i0 (.int .i64 0) 1 8 Tryz.underlying38 hi cg bV cj rfl (by decide) _ s (((lm a (ef a k)).take s).map (Value.int .i64)) rfl HOWN4.out ⟨wt.heap.size,0,none⟩ 1 1 [.int .i64 r0] rfl rfl bz.out (by simp[Value.oneCell']) (by unfold maxLen;omega) (by omega) (by simp;omega) ?_;intro v' w2 fD dg _))
         go_roundw
         case rel=>
          refine⟨Below.grown (w:=wt.alloc (.cells #[.int .i64 r0] 3)) (uf.alloc hbs3 _) dg (by simp;omega) (fun g hg=>(Dh da.out g hg).1),s+1,by omega,by go_num,?_⟩;rw[ge.out,List.map_append];exact fD
         case measure=>simp[intOf];omega
      ·obtain rfl:s=a.states.length:=by omega
       go_wp2
       go_roundw
       case rel=>
        refine⟨ae lE uf,k+1,by omega,by go_num,?_⟩;have h:=rV (base':=W0.heap.size) da.out (by have:=ic.size;exact this);rw[List.take_of_length_le (by simp[lm])]at h;exact h
       case measure=>simp[intOf];omega
    ·obtain rfl:k=n:=by omega
     obtain⟨b,rfl,hc⟩:=F9.out 0 (.int .i64 (numberS a k)) (by
      have h0:0<(ef a k).length:=by rw[P0.out];omega
      unfold numberS;rw[az 0 h0]
      simp)
     go_wp2
     go_ret
     exact⟨rfl,ae aH ic⟩
theorem uC(p:Pb) (vc vs:Value) (w:World) (hc:bK w vc p.t.cases) (hs:bh w vs p.a.states) (hN:movesN p.a.states<2305843009213693952) :
  Calls Tryz.prog 71 #[qp p vc vs] w fun e w'=>e=.returned (.int .i64 (probE p))/\Below w.heap.size w w':=by
 have GC:=aa hc;have GS:=aa hs;obtain⟨pc,cc,rfl,_⟩:=hc.at;obtain⟨ps,cs,rfl,_⟩:=hs.at;clear hc hs;have HV:Hid (probE p=if taskE p.t≠0 then taskE p.t else if advE p.a≠0 then advE p.a else if p.t.n≠p.a.n then 22 else if p.rounds<0\/6<p.rounds then 2 else 0):=by exact rfl
 go_enter Tryz.func71,Tryz.ntmps71
 go_wp2_with fail
 refine aN (fun W=>Below w.heap.size w W/\W.heap[w.heap.size]?=some (.cells (zC p (.slice pc p.t.cases.length cc) (.slice ps p.a.states.length cs)) 29)) ⟨by go_grown,am _ _⟩ (fun W0 aV=>?_);obtain⟨aH,bB⟩:=aV;refine(Dx p.t _ W0 (GC.out.up up_case aH)).mono ?_;rintro e w1 ⟨rfl,aI⟩;have fZ:=ae aH aI;have dZ:=af aI bB;have t1:=ab dZ;generalize taskE p.t=et at HV;have du:=aa dZ;clear dZ bB;by_cases nJ:et=0
 case neg=>
  have M6:(et != 0)=true:=by simpa using nJ
  go_wp2_with fail
  go_ret
  exact⟨aD (by rw[HV.out,if_pos nJ]),fZ⟩
 subst nJ
 go_wp2_with fail
 refine(FW p.a _ w1 (GS.out.up up_moves fZ) hN).mono ?_;rintro e w2 ⟨rfl,aU⟩;have jY:=ae fZ aU;have t2:=ab (af aU du.out);clear t1;generalize advE p.a=ea at HV;by_cases wJ:ea=0
 case neg=>
  have hea':(ea != 0)=true:=by simpa using wJ
  go_wp2_with fail
  go_ret
  exact⟨aD (by rw[HV.out,if_neg (by simp),if_pos wJ]),jY⟩
 subst wJ
 go_wp2_with fail
 all_goals
  go_ret
  refine⟨aD ?_,jY⟩;rw[HV.out]
  go_light
  grind
theorem JL{p:Pb} (h:probE p=0):∃ n:Nat,p.rounds=n/\n<=6:=⟨p.rounds.toNat,by have:=gt h;omega,by have:=gt h;omega⟩
def numberP(p:Pb):Int:=p.t.cases.length * numberS p.a p.rounds.toNat
theorem LV(a:Adv) (n:Nat):0<=numberS a n/\numberS a n<=4097:=Dy (Ha a n) 0
theorem sw(p:Pb) (vc vs:Value) (w:World) (hc:bK w vc p.t.cases) (hs:bh w vs p.a.states) (hp:probE p=0) :
  Calls Tryz.prog 72 #[qp p vc vs,.int .i64 4096] w fun e w'=>e=.returned (.int .i64 (numberP p))/\Below w.heap.size w w':=by
 obtain⟨ht,ha,yG,_,_⟩:=gt hp;clear yG;obtain⟨h1,h2,_⟩:=gY ha;have bP:=(eY ht).2.2.2.1;obtain⟨n,hn,hn6⟩:=JL hp;have HV:Hid (numberP p=p.t.cases.length * numberS p.a n):=by(have h:numberP p=p.t.cases.length * numberS p.a n:=by(unfold numberP;rw[hn,Int.toNat_natCast]));exact h
 have bO:=aa (fun W (hb:Below w.heap.size w W)=>Dz p.a vs n hn6 W (hs.up up_moves hb) h2 h1);have jl:=LV p.a n;generalize numberS p.a n=nn at bO HV jl;obtain⟨pc,cc,rfl,_⟩:=hc;obtain⟨ps,cs,rfl,_⟩:=hs
 have HM:Hid (IntKind.i64.wrap ((p.t.cases.length:Int) * nn)=p.t.cases.length * nn):=by
  have h:IntKind.i64.wrap ((p.t.cases.length:Int) * nn)=p.t.cases.length * nn:=by
   have h1:(0:Int)<=(p.t.cases.length:Int) * nn:=Int.mul_nonneg (by omega) (by omega);have h2:(p.t.cases.length:Int) * nn<=1024 * 4097:=Int.mul_le_mul (by omega) (by omega) (by omega) (by omega);exact IntWalk.i64_in _ (by omega)
  exact h
 rw[<-hn]at bO;clear ht ha h1 h2 hp jl hn
 go_enter Tryz.func72,Tryz.ntmps72
 go_wp2_with fail
 refine bm (fun V=>Below w.heap.size w V/\V.heap[w.heap.size]?=some (.cells (zC p (.slice pc p.t.cases.length cc) (.slice ps p.a.states.length cs)) 29)) ⟨by go_grown,am _ _⟩ (fun V hV=>?_);obtain⟨aH,bB⟩:=hV;have kT:=aa (fun x:ExtW V=>Calls.ext_of (bO.out x.val (ae aH x.ext)));have r1:∀ x:ExtW V,∀ o,x.val.cell? ⟨w.heap.size,o,none⟩=_:=fun x=>ab (af x.ext bB)
 have hM:=HM.out;clear bB;refine aC (by kernel_rfl) (by kernel_rfl) ?_
 repeat (go_big_quiet_step ((go_at_call 116;exact kT.out _)))
 refine wpQuiet_nil ?_;intro _ dY;obtain⟨xq,cX⟩:=dY;subst cX;clear r1 bO hM
 go_wp2_with fail
 go_ret
 exact⟨aD (by rw[HV.out]),ae aH xq.ext⟩
def fewPB(p:Pb):Bool:=
 if fewTB p.t=false then false else if su p.a=false then false else if 3<p.t.n/\p.t.n<=5 then false
 else if probE p≠0 then true else decide (numberP p<=60) || decide (4096<numberP p)
theorem Hb(p:Pb) (vc vs:Value) (w:World) (hc:bK w vc p.t.cases) (hs:bh w vs p.a.states) :
  Calls Tryz.prog 34 #[qp p vc vs] w fun e w'=>e=.returned (.bool (fewPB p))/\Below w.heap.size w w':=by
 have GC:=aa hc;have GS:=aa hs;obtain⟨pc,cc,rfl,_⟩:=hc;obtain⟨ps,cs,rfl,_⟩:=hs;have HV:Hid (fewPB p=if fewTB p.t=false then false else if su p.a=false then false else if 3<p.t.n/\p.t.n<=5 then false else if probE p≠0 then true else decide (numberP p<=60) || decide (4096<numberP p)):=by exact rfl
 have HF:Hid (su p.a=(decide (p.a.states.length<=8)&&decide (movesN p.a.states<=40))):=by exact rfl
 go_enter Tryz.func34,Tryz.ntmps34
 go_wp2_with fail
 refine aN (fun W=>Below w.heap.size w W/\W.heap[w.heap.size]?=some (.cells (zC p (.slice pc p.t.cases.length cc) (.slice ps p.a.states.length cs)) 29)) ⟨by go_grown,am _ _⟩ (fun W0 aV=>?_);obtain⟨aH,bB⟩:=aV;refine(G9 p.t _ W0 (GC.out.up up_case aH)).mono ?_;rintro e w1 ⟨rfl,aI⟩;have fZ:=ae aH aI;have du:=aa (af aI bB);have t1:=ab du.out;clear bB;generalize fewTB p.t=ft at HV;cases ft with
 | false=>
  go_wp2_with fail
  go_ret
  exact⟨aO (by rw[HV.out];rfl),fZ⟩
 | true=>
 go_wp2_with fail
 refine(JK p.a _ w1 (GS.out.up up_moves fZ)).mono ?_;rintro e w2 ⟨rfl,aU⟩;have jY:=ae fZ aU;have pQ:=aa (af aU du.out);have t2:=ab pQ.out;clear t1;cases CM:su p.a with
 | false=>
  have ym:=aa CM;clear CM
  go_wp2_with fail
  go_ret
  exact⟨aO (by rw[HV.out,ym.out];rfl),jY⟩
 | true=>
 have S5:movesN p.a.states<=40:=by
  have h:=HF.out;rw[CM]at h;simp at h;exact h.2
 rw[CM]at HV;clear HF CM;by_cases h3:3<p.t.n/\p.t.n<=5
 ·obtain⟨h31,Fx⟩:=h3
  have HR:Hid (fewPB p=false):=by(have h:fewPB p=false:=by(rw[HV.out];simp[h31,Fx]));exact h
  go_wp2_with fail
  go_ret
  exact⟨aO HR.out.symm,jY⟩
 have HR:Hid (fewPB p=if probE p≠0 then true else decide (numberP p<=60) || decide (4096<numberP p)):=by
  have h:fewPB p=if probE p≠0 then true else decide (numberP p<=60) || decide (4096<numberP p):=by
   rw[HV.out,if_neg (by simp),if_neg (by simp),if_neg h3]
  exact h
 clear HV;have SJ:¬ 3<p.t.n\/(3<p.t.n/\5<p.t.n):=by omega
 clear h3;have HC:=aa (uC p _ _ w2 (GC.out.up up_case jY) (GS.out.up up_moves jY) (by omega));have HNU:=aa (fun (hp:probE p=0) W (hb:Below w.heap.size w W)=>sw p _ _ W (GC.out.up up_case hb) (GS.out.up up_moves hb) hp);rcases SJ with h3|⟨h3,Wx⟩
 all_goals
  go_wp2_with fail
  refine HC.out.mono ?_;rintro e w3 ⟨rfl,bC⟩;have MB:=ae jY bC;have t3:=ab (af bC pQ.out);clear t2;by_cases hp:probE p=0
  case neg=>
   generalize probE p=ep at hp HR;have PV:(ep != 0)=true:=by simpa using hp
   go_wp2_with fail
   go_ret
   exact⟨aO (by rw[HR.out,if_pos hp]),MB⟩
  have rl:=aa (HNU.out hp w3 MB);rw[hp]at HR ⊢;clear hp HNU
  go_wp2_with fail
  refine rl.out.mono ?_;rintro e w4 ⟨rfl,bQ⟩;clear t3;generalize numberP p=nn at HR;by_cases h60:nn<=60
  ·go_wp2_with fail
   go_ret
   exact⟨aO (by rw[HR.out,if_neg (by simp),decide_eq_true h60];rfl),ae MB bQ⟩
  ·have hd:decide (nn<=60)=false:=decide_eq_false h60
   have HD:=aa hd
   go_wp2_with fail
   go_ret
   exact⟨aO (by rw[HR.out,if_neg (by simp),HD.out];rfl),ae MB bQ⟩
theorem pA{p:Pb} (h:fewPB p=true):movesN p.a.states<=40:=by
 unfold fewPB at h;split at h
 ·cases h
 split at h
 ·cases h
 ·rename_i h2
  have:su p.a=true:=by simpa using h2
  unfold su at this;simp at this;exact this.2
end Go.Proofs.YtmeaoneaephjeaaGreatDoor
namespace Go.Proofs.YtmeaoneaephjeaaGreatDoor
open Go.RowKit Go Go.Shelf
attribute [local go_sem] Oper.semAt_some
theorem U8(a b:Vw) (w:World):(binOp .eql 190 a.v b.v).run Tryz.prog w=.ok (.bool (decide (a=b))) w:=by
 rw[run_eql_struct,Dq 9997];rfl
def viewIx(l:List Vw) (v:Vw):Int:=firstIx l.length fun i=>decide (l.getD i default=v)
theorem LW(l:List Vw) (v:Vw):(viewIx l v<0/\putV l v=(l++[v],l.length))\/(0<=viewIx l v/\putV l v=(l,(viewIx l v).toNat)/\viewIx l v<l.length):=by
 unfold viewIx;rcases bG l.length (fun i=>decide (l.getD i default=v)) with ⟨e,h⟩|⟨k,hk,e,he,h⟩
 ·refine .inl ⟨by omega,?_⟩
  unfold putV;rw[if_neg];intro hv;obtain⟨i,hi,rfl⟩:=List.getElem_of_mem hv;have:=h i hi;simp[hi]at this
 ·refine .inr ⟨by omega,?_,by omega⟩
  have he:l[k]=v:=by simpa[hk] using he
  unfold putV;rw[if_pos (he ▸ List.getElem_mem hk),e];congr 1;rw[Int.toNat_natCast];have mx:v∈l:=he ▸ List.getElem_mem hk;have aA:=List.idxOf_lt_length_of_mem mx;have C9:=List.getElem_idxOf aA;rcases Nat.lt_trichotomy (l.idxOf v) k with h1|h1|h1
  ·have:=h _ h1
   simp[aA]at this
  ·exact h1
  ·exfalso
   have:=List.not_of_lt_findIdx (xs:=l) (p:=(· == v)) (i:=k) h1;simp[he]at this
theorem U9{w:World} {b o:Nat} {v:Vw} (h:Bl w b o v) {wr:World} (hb:Below w.heap.size w wr):∀ y:ExtW wr,y.val.cell? ⟨b,o,none⟩=some (.int .i64 v.p)/\y.val.cell? ⟨b,o+1,none⟩=some (.int .i64 v.k)/\y.val.cell? ⟨b,o+2,none⟩=some (.int .i64 v.i)/\y.val.cell? ⟨b,o+3,none⟩=some (.int .i64 v.h0)/\y.val.cell? ⟨b,o+4,none⟩=some (.int .i64 v.h1)/\y.val.cell? ⟨b,o+5,none⟩=some (.int .i64 v.h2)/\y.val.cell? ⟨b,o+6,none⟩=some (.int .i64 v.h3)/\y.val.cell? ⟨b,o+7,none⟩=some (.int .i64 v.h4):=by
 obtain⟨⟨c0,_⟩,⟨c1,_⟩,⟨c2,_⟩,⟨c3,_⟩,⟨c4,_⟩,⟨c5,_⟩,⟨c6,_⟩,⟨c7,_⟩⟩:=h;exact fun y=>⟨y.cell (ak hb c0),y.cell (ak hb c1),y.cell (ak hb c2),y.cell (ak hb c3),y.cell (ak hb c4),y.cell (ak hb c5),y.cell (ak hb c6),y.cell (ak hb c7)⟩
theorem JM(n:Int) (l:List Vw) (vt:Value) (v:Vw) (w:World) (h:mD w vt l) :
  Calls Tryz.prog 189 #[.agg #[.int .i64 n,vt],v.v] w fun e w'=>e=.returned (.int .i64 (viewIx l v))/\Below w.heap.size w w':=by
 obtain⟨pt,ct,rfl,lt1,lt2,et⟩:=h.at;have ET:=aa et;have pO:Hid (∀ k,k<l.length->(∀ j,j<k->decide (l.getD j default=v)=false)->decide (l.getD k default=v)=true->viewIx l v=k):=aa (fun k hk h1 h2=>dj _ _ _ hk h1 h2);have fy:Hid ((∀ j,j<l.length->decide (l.getD j default=v)=false)->viewIx l v=-1):=aa (dG _ _);clear h et
 go_enter Tryz.func189,Tryz.ntmps189
 go_wp2_with fail
 refine bm (fun W=>Below w.heap.size w W/\W.heap[w.heap.size]?=some (.cells #[.int .i64 n,.slice pt l.length ct] 32)/\W.heap[w.heap.size+1]?=some (.cells v.c 190)) ⟨by go_grown,ap _ (am _ _),bd _ _ _⟩ (fun W0 aV=>?_);obtain⟨aH,bB,uJ⟩:=aV;have kV:=aa bB;have xX:=aa uJ;clear bB uJ
 go_loopw [5] (fun i wr=>∃ k:Nat,k<=l.length/\i=.int .i64 k/\Below W0.heap.size W0 wr/\∀ j,j<k->decide (l.getD j default=v)=false) (fun i _=>l.length - (intOf i).toNat)
 case atStart=>exact⟨0,by omega,rfl,Below.refl _ _,by simp⟩
 case round=>
  obtain⟨k,hk,rfl,ar,aR⟩:=hrel;have H:=aa aR;clear aR;have tA:=ab (af ar kV.out);by_cases aA:k<l.length
  ·obtain⟨b1,o1,rfl,c1⟩:=ET.out k aA
   have HX:=aa (az default aA);have Ck:=aa (pO.out k aA H.out);generalize l[k]=x at c1 HX;rw[HX.out]at Ck;have d1:=U9 c1 (ae aH ar);have a1:∀ z:ExtW wr,z.val.cell? ⟨w.heap.size,1,none⟩=some _:=fun z=>z.cell (ab (af ar kV.out) 1)
   have a2:∀ (z:ExtW wr) (o:Nat),z.val.cell? ⟨w.heap.size+1,o,none⟩=v.c[o]?:=fun z o=>ab (af (z.ext) (af ar xX.out)) o
   have jK:=fun w=>U8 x v w
   have aP:=aa ar;clear c1 ar
   go_wp2_with fail
   clear tA;cases hd:decide (x=v) with
   | true=>
    have HR:=aa (Ck.out hd);rw[hd]at jK;clear hd;refine aC (by kernel_rfl) (by kernel_rfl) ?_
    repeat (go_big_quiet_step (fail))
    refine wpQuiet_nil ?_;rintro _ ⟨xq,rfl⟩;clear d1 a1 a2 jK
    go_wp2_with fail
    go_ret
    exact⟨aD (by rw[HR.out]),ae aH (ae aP.out xq.ext)⟩
   | false=>
    have HD:=aa hd;rw[hd]at jK;clear hd;refine aC (by kernel_rfl) (by kernel_rfl) ?_
    repeat (go_big_quiet_step (fail))
    refine wpQuiet_nil ?_;rintro _ ⟨xq,rfl⟩;clear d1 a1 a2 jK
    go_wp2_with fail
    go_roundw
    case rel=>exact⟨k+1,by omega,by go_num,ae aP.out xq.ext,aS H.out (by rw[HX.out];exact HD.out)⟩
    case measure=>simp[intOf];omega
  ·have HR:=aa (fy.out fun j hj=>H.out j (by omega))
   go_wp2_with fail
   go_ret
   exact⟨aD (by rw[HR.out]),ae aH ar⟩
def vC(p k i:Int) (f:Nat->Int) (q:Nat):Array Value:=((List.range 8).map fun j=>Value.int .i64 (if j=0 then p else if j=1 then k else if j=2 then i else if j<3+q then f (j - 3) else 0)).toArray
theorem xJ(p k i:Int) (f:Nat->Int) (q j:Nat) (hj:j<8):(vC p k i f q)[j]?=some (.int .i64 (if j=0 then p else if j=1 then k else if j=2 then i else if j<3+q then f (j - 3) else 0)):=by simp[vC,hj]
theorem Ou(p k i:Int) (f:Nat->Int) (q:Nat) (hq:q<5):(vC p k i f q).setIfInBounds (3+q) (.int .i64 (f q))=vC p k i f (q+1):=by
 apply Array.ext_getElem?;intro j;rw[Array.getElem?_setIfInBounds];by_cases hj:j<8
 ·rw[xJ _ _ _ _ _ _ hj,xJ _ _ _ _ _ _ hj]
  by_cases e:3+q=j
  ·subst e
   rw[if_pos rfl,if_pos (by simp[vC];omega),if_neg (by omega),if_neg (by omega),if_neg (by omega),if_pos (by omega),Nat.add_sub_cancel_left]
  ·rw[if_neg e]
   have:(j<3+(q+1))↔(j<3+q):=by omega
   simp only[this]
 ·rw[if_neg (by omega),Array.getElem?_eq_none (by simp[vC];omega),Array.getElem?_eq_none (by simp[vC];omega)]
theorem Kh(p k i:Int) (f:Nat->Int):vC p k i f 0=#[.int .i64 p,.int .i64 k,.int .i64 i,.int .i64 0,.int .i64 0,.int .i64 0,.int .i64 0,.int .i64 0]:=rfl
theorem Ki(p k i:Int) (f:Nat->Int):vC p k i f 5=#[.int .i64 p,.int .i64 k,.int .i64 i,.int .i64 (f 0),.int .i64 (f 1),.int .i64 (f 2),.int .i64 (f 3),.int .i64 (f 4)]:=rfl
abbrev zeroV:Array Value:=#[.int .i64 0,.int .i64 0,.int .i64 0,.int .i64 0,.int .i64 0,.int .i64 0,.int .i64 0,.int .i64 0]
theorem BU(tmps:Array Value) (f:Func) (s:Nat) (hf:f.results=#[.cell s 190]) (B:Nat) (W:World) (v:Vw) (ty:TypeId) (h1:tmps[s]?.getD undef=.pointer (some ⟨B,0,none⟩)) (hb:W.heap[B]?=some (.cells v.c ty)) :
  (results f tmps).run Tryz.prog W=.ok v.v W:=by
 have t1:=ab hb;simp[results,hf,go_sem,h1,t1]
theorem JN(p:Nat) (inp:Int) (w:World):Calls Tryz.prog 158 #[.int .i64 p,.int .i64 inp] w fun e w'=>e=.returned (⟨p,0,inp,-1,-1,-1,-1,-1⟩:Vw).v/\Below w.heap.size w w':=by
 go_enter Tryz.func158,Tryz.ntmps158
 go_wp2_with fail
 refine bm (fun W=>Below w.heap.size w W/\W.heap[w.heap.size]?=some (.cells zeroV 190)/\W.heap[w.heap.size+1]?=some (.cells (vC p 0 inp (fun _=>-1) 0) 190)) ⟨by go_grown,ap _ (am _ _),by rw[Kh];exact bd _ _ _⟩ (fun W0 aV=>?_);obtain⟨aH,gL,gR⟩:=aV
 go_loopw [6] (fun i wr=>∃ q:Nat,q<=5/\i=.int .i64 q/\Below w.heap.size w wr/\wr.heap[w.heap.size]?=some (.cells zeroV 190)/\wr.heap[w.heap.size+1]?=some (.cells (vC p 0 inp (fun _=>-1) q) 190)) (fun i _=>5 - (intOf i).toNat)
 case atStart=>exact⟨0,by omega,rfl,aH,gL,gR⟩
 case round=>
  clear aH gL gR;obtain⟨q,hq,rfl,ar,hR,hO⟩:=hrel;by_cases aA:q<5
  ·have zq:=aE hO (3+q)
   have tq:=ab hO (3+q);rw[xJ _ _ _ _ _ _ (by omega)]at tq;have HR:=aa hR;have HO:=aa hO;clear hR hO;have nR:(q:Int)<5:=by omega
   go_wp2_with fail
   go_roundw
   case rel=>exact⟨q+1,by omega,by go_num,ar.setCell (by dsimp only;omega) _,aJ HR.out (by omega) _ _,by rw[aF HO.out,<-Ou _ _ _ (fun _=>-1) q aA]⟩
   case measure=>simp[intOf];omega
  ·obtain rfl:q=5:=by omega
   have tq:=ab hO;have HR:=aa hR;have HO:=aa hO;have zq:=fun o=>aE hR o
   have tq0:=ab hR;rw[Ki]at tq;simp at tq0;clear hR hO
   go_wp2_with (refine wpList_store_row rfl 190 (.tmp 4) (.tmp 17) rfl w.heap.size (⟨p,0,inp,-1,-1,-1,-1,-1⟩:Vw).c rfl rfl 190 _ HR.out (by kernel_rfl) rfl (by simp[Value.oneCell']) ?_)
   exact bodyPost_ret (BU _ _ 4 rfl w.heap.size _ ⟨p,0,inp,-1,-1,-1,-1,-1⟩ 190 rfl (setRow_heap _ _ _ _ _ _ HR.out)) rfl ⟨rfl,below_setRow ar (Nat.le_refl _) _⟩
theorem DA{a:Array Value} {i:Nat} {x:Value} (h:a[i]?=some x):a.setIfInBounds i x=a:=by
 apply Array.ext_getElem?;intro j;rw[Array.getElem?_setIfInBounds];split
 ·rename_i e;subst e
  split
  ·exact h.symm
  ·rw[Array.getElem?_eq_none (by omega)]
 ·rfl
def seenH(n:Nat) (g:Gr) (now:List Int) (p q:Nat):Int:=if q<n/\hasB (g.hear p) q=true then now.getD q 0 else -1
def seenV(n K:Nat) (g:Gr) (now:List Int) (p:Nat):Vw:=⟨p,K,0,seenH n g now p 0,seenH n g now p 1,seenH n g now p 2,seenH n g now p 3,seenH n g now p 4⟩
theorem LX(g:Gr) (K p n:Nat) (hn:g.n=n) (ji:n<=5) (hp:p<5) (hh:0<=g.hear p/\g.hear p<32) (vb:Value) (now:List Int) (pg:n<=now.length) (w:World) (hb:aT w vb now) :
  Calls Tryz.prog 159 #[g.v,.int .i64 K,.int .i64 p,vb] w fun e w'=>e=.returned (seenV n K g now p).v/\Below w.heap.size w w':=by
 obtain⟨pb,cb,rfl,lb1,lb2,eb⟩:=hb.at;have EB:=aa eb;have HF:Hid (∀ q,seenH n g now p q=if (q:Int)<g.n/\hasB (g.hear p) q=true then now.getD q 0 else -1):=aa (fun q=>by unfold seenH;rw[hn];simp);have HV:Hid (seenV n K g now p=⟨p,K,0,seenH n g now p 0,seenH n g now p 1,seenH n g now p 2,seenH n g now p 3,seenH n g now p 4⟩):=aa rfl;have HN:=aa hn;generalize seenV n K g now p=V at HV;generalize seenH n g now p=f at HF HV;clear hb eb hn
 go_enter Tryz.func159,Tryz.ntmps159
 go_wp2_with fail
 refine bm (fun W=>Below w.heap.size w W/\W.heap[w.heap.size]?=some (.cells #[.int .i64 g.n,.int .i64 g.h0,.int .i64 g.h1,.int .i64 g.h2,.int .i64 g.h3,.int .i64 g.h4] 139)/\W.heap[w.heap.size+1]?=some (.cells zeroV 190)/\W.heap[w.heap.size+1+1]?=some (.cells (vC p K 0 f 0) 190)) ⟨by go_grown,ap _ (ap _ (am _ _)),ap _ (bd _ _ _),by rw[Kh];exact dW _ _ _ _⟩ (fun W0 aV=>?_);obtain⟨aH,hG0,gL,gR⟩:=aV
 go_loopw [10] (fun i wr=>∃ q:Nat,q<=5/\i=.int .i64 q/\Below w.heap.size w wr/\wr.heap[w.heap.size]?=some (.cells #[.int .i64 g.n,.int .i64 g.h0,.int .i64 g.h1,.int .i64 g.h2,.int .i64 g.h3,.int .i64 g.h4] 139)/\wr.heap[w.heap.size+1]?=some (.cells zeroV 190)/\wr.heap[w.heap.size+1+1]?=some (.cells (vC p K 0 f q) 190)) (fun i _=>5 - (intOf i).toNat)
 case atStart=>exact⟨0,by omega,rfl,aH,hG0,gL,gR⟩
 case round=>
  clear aH hG0 gL gR;obtain⟨q,hq,rfl,ar,hG,hR,hO⟩:=hrel;by_cases aA:q<5
  ·have zq:=aE hO (3+q)
   have tq:=ab hO (3+q);rw[xJ _ _ _ _ _ _ (by omega)]at tq;have HG:=aa hG;have HR:=aa hR;have HO:=aa hO;have aP:=aa ar;clear hG hR hO ar;have nR:(q:Int)<5:=by omega
   have tG:=ab HG.out 0;simp at tG;have tH:=mC g p hp wr _ HG.out;have PV:(p:Int)<5:=by omega
   have E':=aa (HF.out q);have hbz:=aP.out.size
   have iY:Hid (∀ x:Int,f q=x->∀ W:World,Below w.heap.size w W->W.heap[w.heap.size]?=some (.cells #[.int .i64 g.n,.int .i64 g.h0,.int .i64 g.h1,.int .i64 g.h2,.int .i64 g.h3,.int .i64 g.h4] 139)->W.heap[w.heap.size+1]?=some (.cells zeroV 190)->(∃ y:Value,W.heap[w.heap.size+1+1]?=some (.cells ((vC p K 0 f q).setIfInBounds (3+q) y) 190))->∃ q':Nat,q'<=5/\Value.int .i64 ((q:Int)+1)=.int .i64 q'/\Below w.heap.size w (W.setCell ⟨w.heap.size+1+1,3+q,none⟩ (.int .i64 x))/\(W.setCell ⟨w.heap.size+1+1,3+q,none⟩ (.int .i64 x)).heap[w.heap.size]?=some (.cells #[.int .i64 g.n,.int .i64 g.h0,.int .i64 g.h1,.int .i64 g.h2,.int .i64 g.h3,.int .i64 g.h4] 139)/\(W.setCell ⟨w.heap.size+1+1,3+q,none⟩ (.int .i64 x)).heap[w.heap.size+1]?=some (.cells zeroV 190)/\(W.setCell ⟨w.heap.size+1+1,3+q,none⟩ (.int .i64 x)).heap[w.heap.size+1+1]?=some (.cells (vC p K 0 f q') 190)):=aa (by
    rintro x rfl W q1 q2 q3 ⟨y,q4⟩;refine⟨q+1,by omega,by go_num,q1.setCell (by dsimp only;omega) _,aJ q2 (by omega) _ _,aJ q3 (by omega) _ _,?_⟩
    rw[aF q4,Array.setIfInBounds_setIfInBounds,Ou _ _ _ _ _ aA])
   have HY:Hid (∃ y:Value,wr.heap[w.heap.size+1+1]?=some (.cells ((vC p K 0 f q).setIfInBounds (3+q) y) 190)):=aa ⟨_,HO.out.trans (congrArg (fun c=>some (Obj.cells c 190)) (DA (xJ p K 0 f q (3+q) (by omega))).symm)⟩;by_cases uP:(q:Int)<g.n
   ·cases hb:hasB (g.hear p) q with
    | true=>
     obtain⟨b2,o2,rfl,⟨c2,_⟩⟩:=EB.out q (by have:=HN.out;omega);rw[Nat.mul_one]at c2;have d2:=ak aP.out c2;have aU:=eX c2;dsimp only at aU;have bC:¬ b2=w.heap.size+1+1:=by omega
     have hqnow:q<now.length:=by have:=HN.out;omega
     have vf:Hid (f q=now[q]):=aa (by rw[E'.out,if_pos ⟨uP,hb⟩,az 0 hqnow]);generalize now[q]=x at d2 vf;clear c2
     go_wp2_with fail
     refine(mq (g.hear p) q (by omega) hh.1 (by omega) _).mono ?_;rintro e _ ⟨rfl,rfl⟩;rw[hb]
     go_wp2_with fail
     go_roundw
     case rel=>exact iY.out x vf.out _ (aP.out.setCell (by dsimp only;omega) _) (aJ HG.out (by omega) _ _) (aJ HR.out (by omega) _ _) ⟨_,aF HO.out _ _⟩
     case measure=>simp[intOf];omega
    | false=>
     have vf:Hid (f q=-1):=aa (by rw[E'.out,if_neg (by rw[hb];simp)])
     go_wp2_with fail
     refine(mq (g.hear p) q (by omega) hh.1 (by omega) _).mono ?_;rintro e _ ⟨rfl,rfl⟩;rw[hb]
     go_wp2_with fail
     go_roundw
     case rel=>exact iY.out (-1) vf.out _ aP.out HG.out HR.out HY.out
     case measure=>simp[intOf];omega
   ·have vf:Hid (f q=-1):=aa (by rw[E'.out,if_neg (fun h=>uP h.1)])
    go_wp2_with fail
    go_roundw
    case rel=>exact iY.out (-1) vf.out _ aP.out HG.out HR.out HY.out
    case measure=>simp[intOf];omega
  ·obtain rfl:q=5:=by omega
   have tq:=ab hO;have HR:=aa hR;have HO:=aa hO;have zq:=fun o=>aE hR o
   have tq0:=ab hR;rw[Ki]at tq;simp at tq0;clear hG hR hO
   go_wp2_with (refine wpList_store_row rfl 190 (.tmp 8) (.tmp 40) rfl (w.heap.size+1) #[.int .i64 p,.int .i64 K,.int .i64 0,.int .i64 (f 0),.int .i64 (f 1),.int .i64 (f 2),.int .i64 (f 3),.int .i64 (f 4)] rfl rfl 190 _ HR.out (by kernel_rfl) rfl (by simp[Value.oneCell']) ?_)
   exact bodyPost_ret (BU _ _ 8 rfl (w.heap.size+1) _ ⟨p,K,0,f 0,f 1,f 2,f 3,f 4⟩ 190 rfl (setRow_heap _ _ _ _ _ _ HR.out)) rfl ⟨by rw[HV.out],below_setRow ar (by omega) _⟩
theorem aG.rawK{w:World} {base size n:Nat} {e:TypeId} {v:Value} {xs:List Value} (h:aG w base e size v n xs) (h1:∀ u∈xs,u.oneCell'=true):mu w size v n xs:=by
 rcases h.2 with ⟨rfl,rfl⟩|⟨g,cap,cur,fz,rfl,_,hg,_,jO,_,_,ht⟩
 ·exact⟨none,0,rfl,fun _=>⟨rfl,rfl⟩,h.1,(fun j u hj=>by
   have:xs=[]:=List.eq_nil_of_length_eq_zero (by simpa using h.1)
   rw[this]at hj;simp at hj),h1⟩
 ·exact⟨some ⟨g,0,none⟩,cap,rfl,(fun e=>by cases e),h.1,fun j u hj=>by
   obtain⟨g',c',e1,e2⟩:=h.cell j u hj;injection e1 with e1
   injection e1 with e1
   injection e1 with e1
   subst e1
   exact⟨g,0,rfl,(by rw[Nat.zero_add];exact e2)⟩,h1⟩
theorem BV{α:Type} {to ti:TypeId} {k:Nat} {flat:List α->List Value} {w:World} {base base':Nat} {v:Value} {l:List (List α)} (h:bX to ti k flat w base v l) (hb:base'<=base):bX to ti k flat w base' v l:=by
 obtain⟨xs,h1,h2⟩:=h;exact⟨xs,h1.base hb,fun i hi=>by obtain⟨x,q1,q2⟩:=h2 i hi;exact⟨x,q1,q2.base hb⟩⟩
def nq(a:Adv) (k:Nat) (m:Mv):List (List Rd):=(bU a k m.to.toNat).map (m.r :: ·)
theorem JO(a:Adv) (k s:Nat):bU a (k+1) s=(a.states.getD s []).flatMap (nq a k):=rfl
def kb(a:Adv) (k:Nat) (mv:List Mv) (i:Nat):List (List Rd):=(mv.take i).flatMap (nq a k)
theorem Ov{α β:Type} (f:α->List β) (l:List α) (i:Nat) (hi:i<l.length):(l.take (i+1)).flatMap f=(l.take i).flatMap f++f l[i]:=by
 rw[List.take_succ_eq_append_getElem hi,List.flatMap_append];simp
theorem FX{α β:Type} (f:α->List β) (l:List α) (i:Nat):((l.take i).flatMap f).length<=(l.flatMap f).length:=by
 conv=>rhs;rw[<-List.take_append_drop i l,List.flatMap_append,List.length_append]
 omega
theorem Ev(a:Adv) (gg:∀ s,s<a.states.length->∀ m∈a.states.getD s [],0<=m.to/\m.to<a.states.length):∀ (k:Nat) (st:Nat) (v:Value) (w:World),k<=64->st<a.states.length->(bU a k st).length<=4096->bh w v a.states →
  Calls Tryz.prog 157 #[.agg #[.int .i64 a.n,v],.int .i64 st,.int .i64 k] w fun r w'=>∃ u,r=.returned u/\um w' w.heap.size u (bU a k st)/\Below w.heap.size w w'
 | 0,st,v,w,_,dU,_,hv=>by
  obtain⟨pa,ca,rfl,_⟩:=hv.at;clear hv
  go_enter Tryz.func157,Tryz.ntmps157
  go_wp2_with fail
  go_ret
  refine⟨_,rfl,⟨[.slice none 0 0],⟨rfl,.inr ⟨w.heap.size+1,1,_,(0,0),rfl,by omega,bd _ _ _,fun i _ h=>by have:=h.2;simp at this,Nat.le_refl _,by unfold maxLen;omega,rfl,rfl⟩⟩,fun i hi=>?_⟩,by go_grown⟩;obtain rfl:i=0:=by simp[bU]at hi;omega
  exact⟨_,rfl,aG.nil _ _ _ _⟩
 | k+1,st,v,w,hk64,dU,cG,hv=>by
  have IH:=aa (Ev a gg k);obtain⟨i0,cU,cg,bV,cj⟩:=info_parts Tryz.infoRound;have cf:=aa (And.intro cU (And.intro cg (And.intro bV cj)));obtain⟨i1,oF,iR,jk,iv⟩:=info_parts Tryz.infoWordRow;have sH:=aa (And.intro oF (And.intro iR (And.intro jk iv)));obtain⟨pa,ca,rfl,la1,la2,ea⟩:=hv.at;obtain⟨b1,o1,rfl,x1,c1,df⟩:=ea st dU;obtain⟨pm,cm,rfl,lm1,lm2,em⟩:=df.at;rw[Nat.mul_one]at c1;have HV:=aa hv;have C1:=aa c1;have EM:=aa em;have Wa:Hid (∀ i (hi:i<(a.states[st]).length),0<=(a.states[st][i]).to/\(a.states[st][i]).to<a.states.length):=aa (fun i hi=>gg st dU _ (by rw[az [] dU];exact List.getElem_mem hi));rw[JO,az [] dU]at cG ⊢;generalize a.states[st]=mv at c1 C1 EM Wa lm1 lm2 cG df ⊢;have km:Hid (∀ i (hi:i<mv.length),kb a k mv (i+1)=kb a k mv i++nq a k mv[i]):=aa (Ov (nq a k) mv);have sN:Hid (∀ i,(kb a k mv i).length<=(mv.flatMap (nq a k)).length):=aa (FX (nq a k) mv)
  have Cj:Hid (∀ i (hi:i<mv.length),(nq a k mv[i]).length+(kb a k mv i).length<=4096):=aa (fun i hi=>by
   have h1:=sN.out (i+1);rw[km.out i hi,List.length_append]at h1
   omega)
  have HFE0:Hid (kb a k mv mv.length=mv.flatMap (nq a k)):=aa (by unfold kb;rw[List.take_length]);have HF00:Hid (kb a k mv 0=[]):=aa rfl;generalize mv.flatMap (nq a k)=FF at sN HFE0 cG ⊢;obtain⟨n,hn⟩:∃ n,mv.length=n:=⟨_,rfl⟩;have HN:=aa hn;obtain⟨ns,uS⟩:∃ ns,a.states.length=ns:=⟨_,rfl⟩;have HNS:=aa uS;rw[uS]at dU la1 la2 Wa HV ⊢;clear hv ea em df uS cU cg bV cj oF iR jk iv;obtain⟨kz,hkz⟩:∃ kz:Int,((k+1:Nat):Int)=kz:=⟨_,rfl⟩;have eP:(kz == 0)=false:=beq_eq_false_iff_ne.2 (by omega);have HW1K:Hid (IntKind.i64.wrap (kz - 1)=(k:Int)):=aa (by rw[IntWalk.i64_in _ (by omega)];omega);rw[hkz];clear hkz
  go_enter Tryz.func157,Tryz.ntmps157
  go_wp2_with fail
  refine bm (fun W=>Below w.heap.size w W/\W.heap[w.heap.size]?=some (.cells #[.int .i64 a.n,.slice (some ⟨b1,o1,none⟩) ns ca] 27)) ⟨by go_grown,am _ _⟩ (fun w1 js=>?_);have gr:=aa js.1;have du:=aa js.2;have fP:=aB js.2;have hsz1:=js.1.size;clear js
  go_loopw [7,8] (fun o i wr=>∃ i':Nat,i'<=n/\i=.int .i64 i'/\Below w1.heap.size w1 wr/\um wr w1.heap.size o (kb a k mv i')) (fun _ i _=>n - (intOf i).toNat)
  case atStart=>exact⟨0,by omega,rfl,Below.refl _ _,by rw[HF00.out];exact bX.nil _ _⟩
  case round=>
   obtain⟨i,hi,rfl,ar,qC⟩:=hrel;have aP:=aa ar;have cQ:=ae gr.out ar;have tA:=ab (af ar du.out);have tc:=ak cQ C1.out;have hfr':=qC;obtain⟨xs0,Fu,Pp⟩:=qC;obtain⟨po,co,rfl⟩:=Fu.slice;have vg:=aa hfr';have Tg:=aa (Fu.lt);clear hfr' Fu Pp;by_cases aA:i<n
   ·have ST:i<mv.length:=by rw[HN.out];exact aA
    obtain⟨b2,o2,rfl,⟨⟨d0,_⟩,⟨d1,_⟩,⟨d2,_⟩,⟨d3,_⟩,⟨d4,_⟩,⟨d5,_⟩,⟨d6,_⟩⟩,⟨d7,_⟩⟩:=EM.out i ST;have d0:=ak cQ d0;have d1:=ak cQ d1;have d2:=ak cQ d2;have d3:=ak cQ d3;have d4:=ak cQ d4;have d5:=ak cQ d5;have d6:=ak cQ d6;have d7:=ak cQ d7;have Pw:=aa (Wa.out i ST);have Is:=aa (km.out i ST);have Fs:=aa (Cj.out i ST);generalize mv[i]=m at d0 d1 d2 d3 d4 d5 d6 d7 Pw Is Fs;obtain⟨to,oB⟩:∃ to:Nat,m.to=to:=⟨m.to.toNat,by have:=Pw.out;omega⟩;have hto2:to<ns:=by have:=Pw.out;omega
    have PR:=aa oB;rw[oB]at d7;have Se:=HW1K.out;obtain⟨wrA,kG⟩:∃ x,x=wr:=⟨_,rfl⟩;subst kG;clear oB;have TM:Hid (nq a k m=(bU a k to).map (m.r :: ·)):=aa (by unfold nq;rw[PR.out,Int.toNat_natCast]);have hRL:(bU a k to).length<=4096:=by have h1:=Fs.out;rw[TM.out,List.length_map]at h1;omega
    have tA2:=fun o=>ab (ap o (af ar du.out))
    go_wp2_with fail
    refine aN (fun W=>Below wrA.heap.size wrA W/\W.heap[wrA.heap.size]?=some (.cells #[.int .i64 m.r.g.n,.int .i64 m.r.g.h0,.int .i64 m.r.g.h1,.int .i64 m.r.g.h2,.int .i64 m.r.g.h3,.int .i64 m.r.g.h4,.int .i64 m.r.f,.int .i64 to] 143)) ⟨by go_grown,am _ _⟩ (fun w4 xV=>?_);have Ps:=aa xV.1;have eQ:=aa xV.2;have Aa:=aB xV.2;clear xV d0 d1 d2 d3 d4 d5 d6 d7 tA tA2 tc;refine(IH.out to _ w4 (by omega) (by rw[HNS.out];exact hto2) hRL (HV.out.up up_moves (ae cQ Ps.out))).mono ?_;rintro r w5 ⟨u,rfl,hu,dx⟩;have HU:=aa hu;have lY:=aa dx;obtain⟨xs,df,dM⟩:=hu;obtain⟨pu,cu,rfl⟩:=df.slice;have kj:=aa df;have fF:=aa dM;obtain⟨rs,I4⟩:∃ rs,bU a k to=rs:=⟨_,rfl⟩;rw[I4]at TM hRL HU kj fF ⊢;have hsz5:=dx.size;have HF5:=aa (vg.out.up (ae Ps.out dx));have HBW5:=aa (ae aP.out (ae Ps.out dx));have fM:=aa (af dx eQ.out);have VK:Hid (∀ x∈rs,x.length=k):=aa (by rw[<-I4];exact jR a k to);have hszA:=aP.out.size;clear df dM I4 dx IH cQ ar;obtain⟨LJ,Pz⟩:∃ LJ:Nat->List (List Rd),LJ=fun j=>kb a k mv i++(rs.take j).map (m.r :: ·):=⟨_,rfl⟩
    have KW:Hid (LJ 0=kb a k mv i):=aa (by rw[Pz];simp);have S6:Hid (∀ j (hj:j<rs.length),LJ (j+1)=LJ j++[m.r :: rs[j]]):=aa (fun j hj=>by rw[Pz];dsimp only;rw[List.take_succ_eq_append_getElem hj,List.map_append,List.append_assoc];rfl);have S4:Hid (LJ rs.length=kb a k mv (i+1)):=aa (by rw[Pz];dsimp only;rw[List.take_length,Is.out,TM.out])
    have HJL:Hid (∀ j,j<=rs.length->(LJ j).length<=4096/\(LJ j).length=(LJ 0).length+j):=aa (fun j hj=>by
     have h1:=Fs.out;rw[TM.out,List.length_map]at h1;rw[Pz];simp only[List.length_append,List.length_map,List.length_take,Nat.min_eq_left hj,List.take_zero,List.map_nil,List.length_nil]
     omega)
    clear Pz;rw[<-KW.out]at HF5 vg Tg ⊢
    go_wp2_with fail
    go_loopw [7,11] (fun o j wr=>∃ j':Nat,j'<=rs.length/\j=.int .i64 j'/\Below w1.heap.size w1 wr/\wr.heap[wrA.heap.size]?=some (.cells #[.int .i64 m.r.g.n,.int .i64 m.r.g.h0,.int .i64 m.r.g.h1,.int .i64 m.r.g.h2,.int .i64 m.r.g.h3,.int .i64 m.r.g.h4,.int .i64 m.r.f,.int .i64 to] 143)/\(∀ q,w4.heap.size<=q->q<w5.heap.size->wr.heap[q]?=w5.heap[q]?)/\w5.heap.size<=wr.heap.size/\(∀ g,o.ownBlock=some g->g<w4.heap.size\/w5.heap.size<=g)/\um wr w1.heap.size o (LJ j')) (fun _ j _=>rs.length - (intOf j).toNat)
    case atStart=>exact⟨0,by omega,rfl,HBW5.out,fM.out,fun q _ _=>rfl,Nat.le_refl _,fun g hg=>.inl (by have:=(Tg.out g hg).2;omega),HF5.out⟩
    case round=>
     obtain⟨j,hj,rfl,Fw,fk,hwin,hszj,oz,hfj⟩:=hrel;have KQ:=aa Fw;have RN:=aa fk;have RJ:=aa hwin;have TD:=aa oz;have HFJ:=aa hfj;obtain⟨ys,jk,iv⟩:=hfj;obtain⟨pq,cq,rfl⟩:=jk.slice;have rJ:=aa jk;have uX:=aa iv;clear Fw hwin oz jk iv;by_cases fx:j<rs.length
     ·obtain⟨x,Kz,pP⟩:=fF.out j fx
      obtain⟨g0,c0,e0,yF⟩:=kj.out.cell j x Kz;injection e0 with e0
      subst e0;have sP:=kj.out.lt g0 rfl
      have tx:wr.cell? ⟨g0,j,none⟩=some x:=by
       unfold World.cell? at yF ⊢;rw[RJ.out g0 sP.1 sP.2];exact yF
      have Jn:aG wr w4.heap.size 141 7 x rs[j].length (cP rs[j]):=pP.keep fun g o hg hh=>(RJ.out g (pP.lt g hg).1 (pP.lt g hg).2).trans hh
      have iu:(rs[j]).length=k:=VK.out _ (List.getElem_mem fx);have yO:=aa (S6.out j fx);have pV:=aa (HJL.out j (by omega));generalize rs[j]=word at Jn iu yO pP;obtain⟨px,cx,rfl⟩:=Jn.slice;have HRK:=aa (Jn.rawK (rU word));have Tw:=aa iu;have t9:=ab fk;have tx2:=fun o=>ak (show Below wr.heap.size wr (wr.alloc o) by go_grown) tx
      have od:Below wr.heap.size wr (wr.alloc (.cells m.r.c 141)):=by go_grown
      have ry:Hid (aG (wr.alloc (.cells m.r.c 141)) wr.heap.size 141 7 (.slice (some ⟨wr.heap.size,0,none⟩) 1 1) 1 m.r.c.toList):=aa ⟨rfl,.inr ⟨wr.heap.size,1,_,(0,0),rfl,Nat.le_refl _,am _ _,fun i _ h=>by have:=h.2;simp at this,Nat.le_refl _,by unfold maxLen;omega,rfl,rfl⟩⟩
      have HRK2:Hid (mu (wr.alloc (.cells m.r.c 141)) 7 (.slice px word.length cx) word.length (cP word)):=aa (by
       have h:=(Jn.up od).rawK (rU word)
       exact h)
      have jN:Hid (1+word.length<=maxLen):=aa (by rw[iu];unfold maxLen;omega);have eJ:Hid ((1+word.length) * 56<=140737488355328):=aa (by rw[iu];omega);have HMX2:Hid ((LJ j).length+1<=maxLen):=aa (by have:=pV.out.1;unfold maxLen;omega);have HBY2:Hid (((LJ j).length+1) * 24<=140737488355328):=aa (by have:=pV.out.1;omega);have hBJs:=KQ.out.size;clear pP Jn iu yF Kz fk;have AG:=aa od;clear od tx
      go_wp2_with (at_builtin;first
                   | (refine kA _ rfl (.tmp 50) (.tmp 54) 87 rfl wr.heap.size 141 i0 _ 7 56 Tryz.underlying87 cf.out.1 cf.out.2.1 cf.out.2.2.1 cf.out.2.2.2 rfl (by decide) _ 1 m.r.c.toList rfl ry.out _ word.length (cP word) rfl HRK2.out jN.out eJ.out (by simp) ?_;intro v6 w6 fc eA hob6;obtain⟨av6,cv6,rfl⟩:=fc.slice;have Pj:=aa eA;have HO6:=aa fc;have SM:=eA.size;simp only[World.size_alloc]at SM;have Je:Hid (∀ q,q<wr.heap.size->w6.heap[q]?=wr.heap[q]?):=aa (fun q hq=>(Pj.out.block q (by simp;omega) (fun e=>by have e:=dp e;dsimp only at e;omega)).trans (Below.heap_alloc wr _ q hq));have So:Hid (aG (w6.alloc (.cells #[.slice av6 (1+word.length) cv6] 87)) w1.heap.size 87 1 (.slice pq (LJ j).length cq) (LJ j).length ys):=aa ((((rJ.out.up AG.out).apart ry.out (by decide) Pj.out)).up (show Below w6.heap.size w6 (w6.alloc (.cells #[.slice av6 (1+word.length) cv6] 87)) by go_grown));have bz:=aa (dF w6 [.slice av6 (1+word.length) cv6] 87);have HBS7:Hid (w1.heap.size<=(w6.alloc (.cells #[.slice av6 (1+word.length) cv6] 87)).heap.size):=aa (by simp;omega);clear fc eA hob6)
                   | (refine aY _ rfl (.tmp 49) (.tmp 56) 221 rfl w1.heap.size 87 i1 _ 1 24 Tryz.underlying221 sH.out.1 sH.out.2.1 sH.out.2.2.1 sH.out.2.2.2 rfl (by decide) _ (LJ j).length _ rfl So.out ⟨w6.heap.size,0,none⟩ 1 1 [.slice av6 (1+word.length) cv6] rfl rfl bz.out (by simp[Value.oneCell']) HMX2.out HBY2.out HBS7.out ?_;intro v9 w9 gc dT In))
      have rk:=dT.size;simp only[World.size_alloc]at rk;have hxl2:(m.r :: word).length=1+word.length:=by simp;omega
      have hx6:aG (w6.alloc (.cells #[.slice av6 (1+word.length) cv6] 87)) w1.heap.size 141 7 (.slice av6 (1+word.length) cv6) (m.r :: word).length (cP (m.r :: word)):=by
       rw[hxl2];exact(HO6.out.base (show w1.heap.size<=wr.heap.size from hBJs)).up (show Below w6.heap.size w6 (w6.alloc (.cells #[.slice av6 (1+word.length) cv6] 87)) by go_grown)
      have jF:∀ i (hi:i<(LJ j).length),∃ x,ys[i]?=some x/\aG (w6.alloc (.cells #[.slice av6 (1+word.length) cv6] 87)) w1.heap.size 141 7 x (LJ j)[i].length (cP (LJ j)[i]):=fun i hi=>by
       obtain⟨x,q1,q2⟩:=uX.out i hi;exact⟨x,q1,(q2.keep fun g o hg hh=>(Je.out g (q2.lt g hg).2).trans hh).up (show Below w6.heap.size w6 (w6.alloc (.cells #[.slice av6 (1+word.length) cv6] 87)) by go_grown)⟩
      have hfr9:=bX.snoc So.out jF (by decide) hx6 dT gc
      have yy:∀ q,q<wr.heap.size->(∀ g,(Value.slice pq (LJ j).length cq).ownBlock=some g->q≠g)->w9.heap[q]?=wr.heap[q]?:=fun q hq hn=>by
       rw[dT.block q (by simp;omega) (fun e=>hn q e.symm rfl),Below.heap_alloc w6 _ q (by omega)];exact Je.out q hq
      have hb69:Below w1.heap.size w1 (w6.alloc (.cells #[.slice av6 (1+word.length) cv6] 87)):=(Below.grown (ae KQ.out AG.out) Pj.out (by simp;omega) (fun g hg=>by have e:=dp hg;dsimp only at e;omega)).alloc (by omega) _
      go_roundw
      case rel=>
       refine⟨j+1,by omega,by go_num,Below.grown hb69 dT (by simp;omega) (fun g hg=>(So.out.lt g hg).1),?_,fun q h1 h2=>?_,by omega,fun g hg=>?_,by rw[yO.out];exact hfr9⟩
       ·exact(yy _ (aB RN.out) (fun g hg e=>rJ.out.ne RN.out (by decide) g hg e.symm)).trans RN.out
       ·exact(yy q (by omega) (fun g hg e=>by rcases TD.out g hg with h|h<;>omega)).trans (RJ.out q h1 h2)
       ·rcases In with h|h
        ·exact TD.out g (h ▸ hg)
        ·rw[h]at hg
         have e:=dp hg;simp at e;exact .inr (by omega)
      case measure=>simp[intOf];omega
     ·obtain rfl:j=rs.length:=by omega
      rw[S4.out]at HFJ rJ ⊢
      go_wp2_with fail
      go_roundw
      case rel=>exact⟨i+1,by omega,by go_num,KQ.out,HFJ.out⟩
      case measure=>simp[intOf];omega
   ·obtain rfl:i=n:=by omega
    have VM:Hid (um wr w1.heap.size (.slice po (kb a k mv i).length co) FF):=aa (by have h:=vg.out;rwa [<-HFE0.out,HN.out])
    go_wp2_with fail
    go_ret
    exact⟨_,rfl,BV VM.out (by omega),ae gr.out aP.out⟩
end Go.Proofs.YtmeaoneaephjeaaGreatDoor
namespace Go.Proofs.YtmeaoneaephjeaaGreatDoor
open Go.RowKit Go Go.Shelf
def dk(F:Array Value) (d:List Deferred) (Core:(Nat->Bool)->(Nat->Value)->World->Prop) (D:Nat->Bool) (i s:Nat) (x:Nat->Value) (a':Act) (W':World):Prop:=
 ∃ v,a'={ tmps:=F.setIfInBounds s v,defers:=d }/\Core (bA D i) (bZ x i v) W'
def Xq(F:Array Value) (d:List Deferred) (Core:(Nat->Bool)->(Nat->Value)->World->Prop) (D:Nat->Bool) (i:Nat) (x:Nat->Value) (a':Act) (W':World):Prop:=
 a'={ tmps:=F,defers:=d }/\Core (bA D i) x W'
theorem dk.mk{F:Array Value} {d:List Deferred} {Core:(Nat->Bool)->(Nat->Value)->World->Prop} {D:Nat->Bool} {i s:Nat} {x:Nat->Value} {a':Act} {W':World} (v:Value) (hc:Core (bA D i) (bZ x i v) W') (ha:a'={ tmps:=F.setIfInBounds s v,defers:=d }):dk F d Core D i s x a' W':=⟨v,ha,hc⟩
theorem oV{P:Program} {id:Nat} {l:List Oper} {Q:Exit->Act->World->Prop} {T:Array Value} {d:List Deferred} {w:World} (n:Nat) (S:List Nat) (Core:(Nat->Bool)->(Nat->Value)->World->Prop) (hm:P.follows .mixedOrders=true) (hn:l.toArray.size=n) (hS:S.Nodup)
  (hB:ka l.toArray n=true) (h0:∀ x,Core (fun _=>false) x w.drew)
  (dD:∀ x W D i o s F,l.toArray[i]?=some o->S[i]?=some s->D i=false->(∀ e∈o.after,Region.binds .any e=true->D e.on=true)->Core D x W->F=br T S x →
   wpList P l.toArray (Exit.then (dk F d Core D i s x) Q) [o] { tmps:=F,defers:=d } W)
  (hfree:∀ x W D i o F,l.toArray[i]?=some o->S.length<=i->i<n->D i=false->(∀ e∈o.after,Region.binds .any e=true->D e.on=true)->Core D x W->F=br T S x →
   wpList P l.toArray (Exit.then (Xq F d Core D i x) Q) [o] { tmps:=F,defers:=d } W)
  (gV:∀ x W D F,(∀ j,j<n->D j=true)->Core D x W->F=br T S x->Q .normal { tmps:=F,defers:=d } W) :
  (Code.region id l.toArray true).wp P Q { tmps:=T,defers:=d } w:=by
 refine wp_region_any hm ?_;refine qP hn hB (fun D a W=>∃ x,a={ tmps:=br T S x,defers:=d }/\Core D x W) ?_ ?_ _ _ _ _ (by rw[Array.size_replicate,hn]) ?_ ?_
 ·rintro D a W i o hi ho hD aq ⟨x,rfl,hc⟩
  by_cases his:i<S.length
  ·obtain⟨s,hs⟩:∃ s,S[i]?=some s:=⟨S[i],List.getElem?_eq_getElem his⟩
   refine dX ?_ (jn ho (dD x W D i o s _ ho hs hD aq hc rfl));rintro a' W' ⟨v,rfl,kF⟩;exact⟨bZ x i v,by rw[ik T S hS x i s v hs],kF⟩
  ·refine dX ?_ (jn ho (hfree x W D i o _ ho (by omega) hi hD aq hc rfl))
   rintro a' W' ⟨rfl,kF⟩;exact⟨x,rfl,kF⟩
 ·rintro D a W aQ ⟨x,rfl,hc⟩
  exact gV x W D _ aQ hc rfl
 ·rw[hn];exact Nat.le_trans List.countP_le_length (by simp)
 ·have hf:(fun j=>(Array.replicate l.toArray.size false).getD j false)=fun _=>false:=by
   funext j
   simp only[Array.getD];split<;>simp
  rw[hf];refine⟨fun i=>T[S.getD i 0]!,?_,h0 _⟩;rw[ir T S hS];intro i s hi hs;rw[List.getD_eq_getElem?_getD,hi];rfl
end Go.Proofs.YtmeaoneaephjeaaGreatDoor
