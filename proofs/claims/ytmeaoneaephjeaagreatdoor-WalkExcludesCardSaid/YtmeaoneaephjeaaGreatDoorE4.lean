/-
  A part of the proof: lemmas and contracts that the parts behind it use. Each one's conditions are its own premises.
-/
import Derived.OwnWalkIn
import Derived.TacticsInMore
import Derived.LoopNIn
import Derived.LoopIn
import Derived.Laws.IdiomCopy
import Derived.Laws.CopyRow
import Derived.Test.YtmeaoneaephjeaaGreatDoorShelf
import Derived.ArgAppend
import Derived.Laws.IdiomStrings
import Derived.Test.YtmeaoneaephjeaaGreatDoorE3
set_option maxRecDepth 100000
set_option maxHeartbeats 8000000
set_option linter.unusedVariables false
set_option linter.unusedSimpArgs false
namespace Go.Proofs.YtmeaoneaephjeaaGreatDoor
open Go.RowKit Go Go.Shelf
theorem Cp(n:Int) (v:Value) (l:List (List Mv)) (w:World) (hv:bu w v l) (hN:movesN l<2305843009213693952) :
  Calls Tryz.prog 113 #[.agg #[.int .i64 n,v]] w fun e w'=>e=.returned (.int .i64 (movesN l))/\Below w.heap.size w w':=by
 obtain⟨pa,ca,rfl,la1,la2,ea⟩:=hv.at;clear hv;have EA:=aa ea;clear ea
 go_enter Tryz.func113,Tryz.ntmps113
 go_wp2
 refine bC (fun W=>Below w.heap.size w W/\W.heap[w.heap.size]?=some (.cells #[.int .i64 n,.slice pa l.length ca] 27)) ⟨by go_grown,ap _ _⟩ (fun W0 aX=>?_);obtain⟨aG,bB⟩:=aX;have t1:=ab bB 1;simp at t1;clear bB
 go_loop [3,4] (fun o i=>∃ k:Nat,k<=l.length/\i=.int .i64 k/\o=.int .i64 (cnt l k)) (fun _ i=>l.length - (intOf i).toNat)
 ·exact⟨0,by omega,rfl,by rw[pN];rfl⟩
 ·
  obtain⟨k,hk,rfl,rfl⟩:=hrel;by_cases aC:k<l.length
  ·obtain⟨b1,o1,rfl,x,cx,hx⟩:=EA.o k aC;rw[Nat.mul_one]at cx;have c1:=ak aG cx;have bW:=Hu l k aC;have oH:=aa (pO l k aC);obtain⟨px,qx,rfl,_⟩:=hx;clear cx;generalize cnt l k=c at bW oH
   go_wp2
   go_round
   ·exact⟨k+1,by omega,by go_num,by rw[oH.o];go_num⟩
   ·simp[intOf];omega
  ·go_wp2
   go_ret
   exact⟨aE (by rw[uX l k (by omega)]),aG⟩
theorem O8(a:Adv) (ps:Option Addr) (cs:Nat) (vl:Value) (l:List Mv) (k:Nat) (aC:k<l.length) (w:World) (hv:pI w vl l) :
  Calls Tryz.prog 155 #[.agg #[.int .i64 a.n,.slice ps a.states.length cs],vl,.int .i64 k] w fun e w'=>e=.returned (.int .i64 (dW a l k))/\Below w.heap.size w w':=by
 obtain⟨pc,cc,rfl,l1,m1,e1⟩:=hv.at;clear hv;have E:=aa e1;clear e1;obtain⟨b1,o1,rfl,⟨⟨c0,_⟩,⟨c1,_⟩,⟨c2,_⟩,⟨c3,_⟩,⟨c4,_⟩,⟨c5,_⟩,⟨c6,_⟩⟩,⟨c7,hc7⟩⟩:=E.o k aC;have YJ:b1<w.heap.size:=fx c0;have hlb':b1<w.heap.size+1:=by omega
 have HO:am (dW a l k=if roundE l[k].r≠0 then roundE l[k].r else if l[k].r.g.n≠a.n then 22 else if 0<k/\0<=roundC (l.getD (k - 1) default).r l[k].r then 14 else if l[k].to<0\/(a.states.length:Int)<=l[k].to then 2 else 0):=by
  have h:dW a l k=if roundE l[k].r≠0 then roundE l[k].r else if l[k].r.g.n≠a.n then 22 else if 0<k/\0<=roundC (l.getD (k - 1) default).r l[k].r then 14 else if l[k].to<0\/(a.states.length:Int)<=l[k].to then 2 else 0:=by unfold dW;rw[az default aC]
  exact h
 have XP:=c7;generalize l[k]=m at c0 c1 c2 c3 c4 c5 c6 c7 hc7 HO XP;have HC7:=aa XP;clear XP
 go_enter Tryz.func155,Tryz.ntmps155
 go_wp2_with fail
 refine aO (fun V=>Below w.heap.size w V/\V.heap[w.heap.size]?=some (.cells #[.int .i64 a.n,.slice ps a.states.length cs] 27)/\V.heap[w.heap.size+1]?=some (.cells #[.int .i64 m.r.g.n,.int .i64 m.r.g.h0,.int .i64 m.r.g.h1,.int .i64 m.r.g.h2,.int .i64 m.r.g.h3,.int .i64 m.r.g.h4,.int .i64 m.r.f] 141)) ⟨by go_grown,ar _ (ap _ _),by simpa using ap (w.alloc _) _⟩ (fun V hV=>?_);obtain⟨lp,hT,hC⟩:=hV;have HT:=aa hT;have HC:=aa hC;clear hT hC c0 c1 c2 c3 c4 c5 c6 c7;refine(Co m.r V).mono ?_;rintro e w1 ⟨rfl,aK⟩;have jk:=ae lp aK;have s1:=ab (af aK HT.o);have s2:=ab (af aK HC.o);generalize roundE m.r=er at HO;by_cases Gd:er=0
 case neg=>
  have her':(er != 0)=true:=by simpa using Gd
  go_wp2_with fail
  go_ret
  exact⟨aE (by rw[HO.o,if_pos Gd]),jk⟩
 subst Gd;by_cases v8:m.r.g.n=a.n
 case neg=>
  have Jh:(m.r.g.n != a.n)=true:=by simpa using v8
  go_wp2_with fail
  go_ret
  exact⟨aE (by rw[HO.o,if_neg (by simp),if_pos v8]),jk⟩
 have Jh:(m.r.g.n != a.n)=false:=by simpa using v8
 have gh:am (dW a l k=if 0<k/\0<=roundC (l.getD (k - 1) default).r m.r then 14 else if m.to<0\/(a.states.length:Int)<=m.to then 2 else 0):=by
  have h:dW a l k=if 0<k/\0<=roundC (l.getD (k - 1) default).r m.r then 14 else if m.to<0\/(a.states.length:Int)<=m.to then 2 else 0:=by rw[HO.o,if_neg (by simp),if_neg (by simpa using v8)]
  exact h
 clear HO v8
 go_wp2_with fail
 clear Jh s1 s2;by_cases ff:k=0
 case' pos=>
  have eO:am (dW a l k=if m.to<0\/(a.states.length:Int)<=m.to then 2 else 0):=by(have h:dW a l k=if m.to<0\/(a.states.length:Int)<=m.to then 2 else 0:=by(rw[gh.o,if_neg (by omega)]));exact h
  have hd:decide ((0:Int)<(k:Int))=false:=decide_eq_false (by omega);have fw:decide (0<k)=false:=decide_eq_false (by omega);clear gh ff;refine aB (by kernel_rfl) (by kernel_rfl) ?_
  repeat (go_big_quiet_step (fail))
  refine wpQuiet_nil ?_;intro _ eJ;obtain⟨xq,dj⟩:=eJ;subst dj;clear hd fw
 case' neg=>
  obtain⟨j,hj⟩:∃ j,k=j+1:=⟨k - 1,by omega⟩;have fL:j<l.length:=by omega
  have HJ:=aa hj;obtain⟨b2,o2,e2,⟨⟨c0,_⟩,⟨c1,_⟩,⟨c2,_⟩,⟨c3,_⟩,⟨c4,_⟩,⟨c5,_⟩,⟨c6,_⟩⟩,_⟩:=E.o j fL;obtain⟨rfl,rfl⟩:b1=b2/\o1=o2:=by simpa using e2
  clear e2;have hd:decide ((0:Int)<(k:Int))=true:=decide_eq_true (by omega);have fw:0<k:=by omega
  have lV:am (dW a l k=if 0<=roundC l[j].r m.r then 14 else if m.to<0\/(a.states.length:Int)<=m.to then 2 else 0):=by
   have h:dW a l k=if 0<=roundC l[j].r m.r then 14 else if m.to<0\/(a.states.length:Int)<=m.to then 2 else 0:=by
    rw[gh.o];have e:k - 1=j:=by omega
    rw[e,az default fL]
    grind
   exact h
  clear gh ff hj;have jn:IntKind.i64.wrap ((k:Int) - 1)=(j:Int):=by rw[HJ.o];rw[IntWalk.i64_in _ (by omega)];omega
  generalize l[j]=m2 at c0 c1 c2 c3 c4 c5 c6 lV;have r1:∀ x:ExtW w1,∀ o,x.val.cell? ⟨w.heap.size,o,none⟩=_:=fun x=>ab (af (ae aK x.ext) HT.o)
  have r2:∀ x:ExtW w1,∀ o,x.val.cell? ⟨w.heap.size+1,o,none⟩=_:=fun x=>ab (af (ae aK x.ext) HC.o)
  have k0:∀ x:ExtW w1,x.val.cell? _=_:=fun x=>x.cell (ak jk c0)
  have k1:∀ x:ExtW w1,x.val.cell? _=_:=fun x=>x.cell (ak jk c1)
  have k2:∀ x:ExtW w1,x.val.cell? _=_:=fun x=>x.cell (ak jk c2)
  have k3:∀ x:ExtW w1,x.val.cell? _=_:=fun x=>x.cell (ak jk c3)
  have k4:∀ x:ExtW w1,x.val.cell? _=_:=fun x=>x.cell (ak jk c4)
  have k5:∀ x:ExtW w1,x.val.cell? _=_:=fun x=>x.cell (ak jk c5)
  have k6:∀ x:ExtW w1,x.val.cell? _=_:=fun x=>x.cell (ak jk c6)
  clear c0 c1 c2 c3 c4 c5 c6;refine aB (by kernel_rfl) (by kernel_rfl) ?_
  repeat (go_big_quiet_step ((go_at_call 187;exact Calls.ext_of (Ap m2.r m.r _))))
  refine wpQuiet_nil ?_;intro _ eJ;obtain⟨xq,dj⟩:=eJ;subst dj;clear r1 r2 k0 k1 k2 k3 k4 k5 k6 hd fw jn;generalize roundC m2.r m.r=oo at lV;by_cases rc:0<=oo
  ·go_wp2_with fail
   go_ret
   exact⟨aE (by rw[lV.o,if_pos rc]),ae jk xq.ext⟩
  have eO:am (dW a l k=if m.to<0\/(a.states.length:Int)<=m.to then 2 else 0):=by(have h:dW a l k=if m.to<0\/(a.states.length:Int)<=m.to then 2 else 0:=by(rw[lV.o,if_neg rc]));exact h
  clear lV HJ
 all_goals
  have dS:=ae jk xq.ext;have Gx:=af (ae aK xq.ext) HT.o;generalize xq.val=W5 at dS Gx ⊢;have r1:∀ n o,(W5.drewN n).cell? ⟨w.heap.size,o,none⟩=_:=fun n=>ab Gx
  have r7:∀ n,(W5.drewN n).cell? _=_:=fun n=>ak dS HC7.o
  clear Gx;by_cases ht:m.to<0
  ·go_wp2_with fail
   go_quiet (fail)
   go_wp2_with fail
   go_ret
   exact⟨aE (by rw[eO.o,if_pos (by omega)]),eK dS _⟩
  ·have hd:decide (m.to<0)=false:=decide_eq_false ht
   go_wp2_with fail
   go_quiet (fail)
   go_wp2_with fail
   ·go_ret
    refine⟨aE ?_,eK dS _⟩;rw[eO.o]
    go_light
    grind
   ·go_ret
    refine⟨aE ?_,eK dS _⟩;rw[eO.o]
    go_light
    grind
theorem RT(a:Adv) (s j:Nat) (hs:s<a.states.length) (hj:j<a.states[s].length) :
  qd a (cnt a.states s+j)=anyLt (a.states.getD a.states[s][j].to.toNat []).length fun k=>!iU a.states[s][j].r.f ((a.states.getD a.states[s][j].to.toNat []).getD k default).r.f:=by
 unfold qd nM;rw[zW _ s j hs hj]
theorem RU(a:Adv) (s j u:Nat) (hs:s<a.states.length) (hj:j<a.states[s].length) (hu:u<a.states.length) (h:a.states[s][j].to=u) :
  qd a (cnt a.states s+j)=anyLt a.states[u].length fun k=>!iU a.states[s][j].r.f (a.states[u].getD k default).r.f:=by
 rw[RT a s j hs hj,h,Int.toNat_natCast,az [] hu]
theorem MD(a:Adv) (v:Value) (w:World) (hv:bu w v a.states) (eN:∀ s,s<a.states.length->stateE a (a.states.getD s [])=0) :
  Calls Tryz.prog 156 #[.agg #[.int .i64 a.n,v]] w fun e w'=>e=.returned (.bool (growsB a))/\Below w.heap.size w w':=by
 obtain⟨pa,ca,rfl,la1,la2,ea⟩:=hv.at;clear hv;have EA:=aa ea;clear ea;have dD:=aa eN;clear eN;have HV:am (growsB a=!anyLt (movesN a.states) (qd a)):=by exact rfl
 go_enter Tryz.func156,Tryz.ntmps156
 go_wp2
 refine bC (fun W=>Below w.heap.size w W/\W.heap[w.heap.size]?=some (.cells #[.int .i64 a.n,.slice pa a.states.length ca] 27)) ⟨by go_grown,ap _ _⟩ (fun W0 aX=>?_);obtain⟨aG,bB⟩:=aX;have HA:=aa bB;clear bB
 go_loopw [3] (fun i wr=>Below W0.heap.size W0 wr/\∃ s:Nat,s<=a.states.length/\i=.int .i64 s/\∀ j,j<cnt a.states s->qd a j=false) (fun i _=>a.states.length - (intOf i).toNat)
 ·exact⟨Below.refl _ _,0,by omega,rfl,by rw[pN];simp⟩
 ·
  obtain⟨ja,s,hs,rfl,aW⟩:=hrel;have H:=aa aW;clear aW;have aA:=ae aG ja;have t1:=ab (af ja HA.o);by_cases aC:s<a.states.length
  ·obtain⟨b1,o1,rfl,x,cx,hx⟩:=EA.o s aC;rw[Nat.mul_one]at cx;obtain⟨px,qx,rfl,x1,x2,ex⟩:=hx.at;have EX:=aa ex;have CX:=aa cx;have oH:=aa (pO a.states s aC);have bW:=Hu a.states s aC;clear hx cx ex
   go_wp2
   clear t1
   go_loopw [4] (fun i ws=>Below wr.heap.size wr ws/\∃ m:Nat,m<=a.states[s].length/\i=.int .i64 m/\∀ j,j<cnt a.states s+m->qd a j=false) (fun i _=>a.states[s].length - (intOf i).toNat)
   ·exact⟨Below.refl _ _,0,by omega,rfl,by simpa using H.o⟩
   ·
    obtain⟨l3,m,hm,rfl,aW⟩:=hrel
    rename World=>ws
    have H2:=aa aW;clear aW;have so:=ae ja l3;have iy:=ae aA l3;have t1:=ab (af so HA.o);have c1:=ak iy CX.o;have eT:=aD (af so HA.o);have aK:b1<ws.heap.size:=fx c1;by_cases ml:m<a.states[s].length
    ·obtain⟨b3,o3,rfl,⟨⟨d0,_⟩,⟨d1,_⟩,⟨d2,_⟩,⟨d3,_⟩,⟨d4,_⟩,⟨d5,_⟩,⟨d6,_⟩⟩,⟨d7,_⟩⟩:=EX.o m ml;have hso:=lw dD.o aC ml;obtain⟨u,hu⟩:∃ u:Nat,a.states[s][m].to=u:=⟨a.states[s][m].to.toNat,by omega⟩;have Qm:u<a.states.length:=by omega
     have A7:=aa (RU a s m u aC ml Qm hu);rw[hu]at d7;have eV:=hso.1;obtain⟨b4,o4,e4,y,cy,hy⟩:=EA.o u Qm;obtain⟨rfl,rfl⟩:b1=b4/\o1=o4:=by simpa using e4
     rw[Nat.mul_one]at cy;obtain⟨py,qy,rfl,y1,y2,ey⟩:=hy.at;have EY:=aa ey;have CY:=aa cy;have DU:=aa (fun j (hj:j<a.states[u].length)=>(lw dD.o Qm hj).1);have g0:=ak iy d0;have g1:=ak iy d1;have g2:=ak iy d2;have g3:=ak iy d3;have g4:=ak iy d4;have g5:=ak iy d5;have g6:=ak iy d6;have g7:=ak iy d7;clear hu hso hy cy ey e4 d0 d1 d2 d3 d4 d5 d6 d7;generalize a.states[s][m]=mv at g0 g1 g2 g3 g4 g5 g6 A7 eV
     go_wp2
     refine bC (fun W=>Below ws.heap.size ws W/\W.heap[ws.heap.size]?=some (.cells #[.int .i64 mv.r.g.n,.int .i64 mv.r.g.h0,.int .i64 mv.r.g.h1,.int .i64 mv.r.g.h2,.int .i64 mv.r.g.h3,.int .i64 mv.r.g.h4,.int .i64 mv.r.f,.int .i64 u] 143)) ⟨by go_grown,ap _ _⟩ (fun W6 zp=>?_);obtain⟨gz,hM6⟩:=zp;have HM6:=aa hM6;clear hM6 g0 g1 g2 g3 g4 g5 g6 g7 t1 c1 eT aK
     go_loopw [6] (fun i wt=>Below W6.heap.size W6 wt/\∃ q:Nat,q<=a.states[u].length/\i=.int .i64 q/\∀ j,j<q->(!iU mv.r.f (a.states[u].getD j default).r.f)=false) (fun i _=>a.states[u].length - (intOf i).toNat)
     ·exact⟨Below.refl _ _,0,by omega,rfl,by simp⟩
     ·
      obtain⟨uQ,q,hq,rfl,aW⟩:=hrel
      rename World=>wt
      have H3:=aa aW;clear aW;have SW:=ae gz uQ;have hbt5:=ae so SW;have uy:=ae iy SW;have t1:=ab (af hbt5 HA.o);have t2:=ab (af uQ HM6.o);have c2:=ak uy CY.o;by_cases oO:q<a.states[u].length
      ·obtain⟨b5,o5,rfl,⟨_,_,_,_,_,_,⟨f6,_⟩⟩,_⟩:=EY.o q oO;have Gi:=DU.o q oO;have gB:=aa (az default oO);generalize a.states[u][q]=nx at f6 Gi gB;have bV:=aa (fun x:ExtW wt=>Calls.ext_of ((KD mv.r.f nx.r.f (by omega) (by omega) x.val).mono (fun _ _ ⟨h1,h2⟩=>⟨h1,h2 ▸ Below.refl _ _⟩)))
       go_wp2_with fail
       have r1:∀ x:ExtW wt,∀ o,x.val.cell? ⟨w.heap.size,o,none⟩=_:=fun x=>ab (af (ae hbt5 x.ext) HA.o)
       have r2:∀ x:ExtW wt,∀ o,x.val.cell? ⟨ws.heap.size,o,none⟩=_:=fun x=>ab (af (ae uQ x.ext) HM6.o)
       have r3:∀ x:ExtW wt,x.val.cell? ⟨b1,o1+u,none⟩=_:=fun x=>x.cell c2
       have r4:∀ x:ExtW wt,x.val.cell? _=_:=fun x=>x.cell (ak uy f6)
       clear t1 t2 c2 f6;cases cZ:iU mv.r.f nx.r.f with
       | false=>
        rw[cZ]at bV;have iv:=aa cZ;clear cZ;refine aB (by kernel_rfl) (by kernel_rfl) ?_
        repeat (go_big_quiet_step ((go_at_call 188;exact bV.o _)))
        refine wpQuiet_nil ?_;intro _ eJ;obtain⟨xq,dj⟩:=eJ;subst dj;clear r1 r2 r3 r4 bV
        go_wp2_with fail
        go_ret
        refine⟨aR ?_,ae uy xq.ext⟩;rw[HV.o,dN _ (cnt a.states s+m) _ (by omega) (by rw[A7.o];exact dN _ q _ oO (by rw[gB.o,iv.o];rfl))];rfl
       | true=>
        rw[cZ]at bV;have iv:=aa cZ;clear cZ;refine aB (by kernel_rfl) (by kernel_rfl) ?_
        repeat (go_big_quiet_step ((go_at_call 188;exact bV.o _)))
        refine wpQuiet_nil ?_;intro _ eJ;obtain⟨xq,dj⟩:=eJ;subst dj;clear r1 r2 r3 r4 bV
        go_wp2_with fail
        go_roundw
        ·exact⟨ae uQ xq.ext,q+1,by omega,by go_num,aY H3.o (by rw[gB.o,iv.o];rfl)⟩
        ·simp[intOf];omega
      ·go_wp2_with fail
       go_roundw
       ·
        refine⟨ae l3 SW,m+1,by omega,by go_num,?_⟩;rw[<-Nat.add_assoc];refine aY H2.o ?_;rw[A7.o];exact eX _ _ fun j hj=>H3.o j (by omega)
       ·simp[intOf];omega
    ·go_wp2_with fail
     go_roundw
     ·
      refine⟨ae ja l3,s+1,by omega,by go_num,?_⟩;rw[oH.o];exact fun j hj=>H2.o j (by omega)
     ·simp[intOf];omega
  ·go_wp2
   go_ret
   refine⟨aR ?_,aA⟩;rw[HV.o,eX]
   ·rfl
   ·intro j hj;refine H.o j ?_;rw[uX _ _ (by omega)];exact hj
theorem GU(a:Adv) (v:Value) (w:World) (hv:bu w v a.states) (hN:movesN a.states<2305843009213693952) :
  Calls Tryz.prog 115 #[.agg #[.int .i64 a.n,v]] w fun e w'=>e=.returned (.int .i64 (advE a))/\Below w.heap.size w w':=by
 have G:=aa hv;obtain⟨pa,ca,rfl,la1,la2,ea⟩:=hv.at;clear hv;have EA:=aa ea;clear ea;by_cases c0:a.n<1
 ·have HR:am (advE a=2):=by(have h:advE a=2:=by(unfold advE;rw[if_pos (by omega)]));exact h
  go_enter Tryz.func115,Tryz.ntmps115
  go_wp2
  go_ret
  exact⟨aE HR.o.symm,by go_grown⟩
 by_cases c1:5<a.n
 ·have HR:am (advE a=2):=by(have h:advE a=2:=by(unfold advE;rw[if_pos (by omega)]));exact h
  go_enter Tryz.func115,Tryz.ntmps115
  go_wp2
  go_ret
  exact⟨aE HR.o.symm,by go_grown⟩
 by_cases c2:a.states.length<1
 ·have HR:am (advE a=5):=by(have h:advE a=5:=by(unfold advE;rw[if_neg (by omega),if_pos (by omega)]));exact h
  go_enter Tryz.func115,Tryz.ntmps115
  go_wp2
  go_ret
  exact⟨aE HR.o.symm,by go_grown⟩
 by_cases c3:256<a.states.length
 ·have HR:am (advE a=5):=by(have h:advE a=5:=by(unfold advE;rw[if_neg (by omega),if_pos (by omega)]));exact h
  go_enter Tryz.func115,Tryz.ntmps115
  go_wp2
  go_ret
  exact⟨aE HR.o.symm,by go_grown⟩
 have HC:=aa (fun W (hb:Below w.heap.size w W)=>Cp a.n _ a.states W (G.o.up up_moves hb) hN)
 have HV:am (advE a=if 4096<movesN a.states then 5 else if bm a.states.length (fun s=>stateE a (a.states.getD s []))≠0 then bm a.states.length (fun s=>stateE a (a.states.getD s [])) else if growsB a then 0 else 21):=by
  have h:advE a=if 4096<movesN a.states then 5 else if bm a.states.length (fun s=>stateE a (a.states.getD s []))≠0 then bm a.states.length (fun s=>stateE a (a.states.getD s [])) else if growsB a then 0 else 21:=by
   unfold advE;rw[if_neg (by omega)];by_cases h4:4096<movesN a.states
   ·rw[if_pos (by omega),if_pos h4]
   ·rw[if_neg (by omega),if_neg h4]
  exact h
 generalize movesN a.states=mN at HC HV hN
 go_enter Tryz.func115,Tryz.ntmps115
 go_wp2_with fail
 refine aO (fun W=>Below w.heap.size w W/\W.heap[w.heap.size]?=some (.cells #[.int .i64 a.n,.slice pa a.states.length ca] 27)) ⟨by go_grown,ap _ _⟩ (fun W0 aX=>?_);obtain⟨aG,bB⟩:=aX;refine(HC.o W0 aG).mono ?_;rintro e W1 ⟨rfl,aK⟩;have dF:=ae aG aK;have HA:=aa (af aK bB);have t1:=ab HA.o;clear bB HC;by_cases c4:4096<mN
 ·have HR:am (advE a=5):=by(have h:advE a=5:=by(rw[HV.o,if_pos c4]));exact h
  go_wp2_with fail
  go_ret
  exact⟨aE HR.o.symm,dF⟩
 have oy:am (advE a=if bm a.states.length (fun s=>stateE a (a.states.getD s []))≠0 then bm a.states.length (fun s=>stateE a (a.states.getD s [])) else if growsB a then 0 else 21):=by
  have h:advE a=if bm a.states.length (fun s=>stateE a (a.states.getD s []))≠0 then bm a.states.length (fun s=>stateE a (a.states.getD s [])) else if growsB a then 0 else 21:=by rw[HV.o,if_neg c4]
  exact h
 clear HV
 go_wp2_with fail
 clear t1 c0 c1 c2 c3 c4
 go_loopw [3] (fun i wr=>Below W1.heap.size W1 wr/\∃ s:Nat,s<=a.states.length/\i=.int .i64 s/\∀ j,j<s->stateE a (a.states.getD j [])=0) (fun i _=>a.states.length - (intOf i).toNat)
 ·exact⟨Below.refl _ _,0,by omega,rfl,by simp⟩
 ·
  obtain⟨ja,s,hs,rfl,aW⟩:=hrel;have H:=aa aW;clear aW;have aA:=ae dF ja;have t1:=ab (af ja HA.o);by_cases aC:s<a.states.length
  ·obtain⟨b1,o1,rfl,x,cx,hx⟩:=EA.o s aC;rw[Nat.mul_one]at cx;have HX:=aa hx;obtain⟨px,qx,rfl,_⟩:=hx;have CX:=aa cx;have c1:=ak aA cx
   have HS:am (stateE a (a.states.getD s [])=if a.states[s].length=0 then 19 else bm a.states[s].length (dW a a.states[s])):=by
    have h:stateE a (a.states.getD s [])=if a.states[s].length=0 then 19 else bm a.states[s].length (dW a a.states[s]):=by rw[az [] aC];rfl
    exact h
   clear cx;by_cases h0:a.states[s].length=0
   ·have h0':((a.states[s].length:Int) == 0)=true:=by simp[h0]
    have L2:(a.states[s].length == 0)=true:=by simp[h0]
    have HR:am (stateE a (a.states.getD s [])=19):=by(have h:stateE a (a.states.getD s [])=19:=by(rw[HS.o,if_pos h0]));exact h
    have H0:=aa h0;clear h0
    go_wp2_with fail
    go_ret
    exact⟨aE (by rw[oy.o,<-bT (f:=fun s=>stateE a (a.states.getD s [])) s 19 aC H.o HR.o (by decide)];rfl),aA⟩
   ·have h0':((a.states[s].length:Int) == 0)=false:=beq_eq_false_iff_ne.2 (by omega);have L2:(a.states[s].length == 0)=false:=beq_eq_false_iff_ne.2 (by omega);have HR:am (stateE a (a.states.getD s [])=bm a.states[s].length (dW a a.states[s])):=by(have h:stateE a (a.states.getD s [])=bm a.states[s].length (dW a a.states[s]):=by(rw[HS.o,if_neg h0]));exact h
    clear h0
    go_wp2_with fail
    clear t1 c1 h0' L2
    go_loopw [4] (fun i ws=>Below wr.heap.size wr ws/\∃ m:Nat,m<=a.states[s].length/\i=.int .i64 m/\∀ j,j<m->dW a a.states[s] j=0) (fun i _=>a.states[s].length - (intOf i).toNat)
    ·exact⟨Below.refl _ _,0,by omega,rfl,by simp⟩
    ·
     obtain⟨l3,m,hm,rfl,aW⟩:=hrel
     rename World=>ws
     have H2:=aa aW;clear aW;have so:=ae ja l3;have iy:=ae aA l3;have t1:=ab (af so HA.o);have c1:=ak iy CX.o;by_cases ml:m<a.states[s].length
     ·have bV:=aa (fun x:ExtW ws=>Calls.ext_of (O8 a (some ⟨b1,o1,none⟩) ca _ a.states[s] m ml x.val (HX.o.up up_move (ae iy x.ext))));generalize qM:dW a a.states[s] m=em at bV;have vS:=aa qM;clear qM
      go_wp2_with fail
      have r1:∀ x:ExtW ws,∀ o,x.val.cell? ⟨w.heap.size,o,none⟩=_:=fun x=>ab (af (ae so x.ext) HA.o)
      have r3:∀ x:ExtW ws,x.val.cell? _=_:=fun x=>x.cell c1
      clear t1 c1;refine aB (by kernel_rfl) (by kernel_rfl) ?_
      repeat (go_big_quiet_step ((go_at_call 155;exact bV.o _)))
      refine wpQuiet_nil ?_;intro _ eJ;obtain⟨xq,dj⟩:=eJ;subst dj;clear r1 r3 bV;by_cases vR:em=0
      ·subst vR
       go_wp2_with fail
       go_roundw
       ·exact⟨ae l3 xq.ext,m+1,by omega,by go_num,aY H2.o vS.o⟩
       ·simp[intOf];omega
      ·have hem':(em != 0)=true:=by simpa using vR
       go_wp2_with fail
       go_ret
       refine⟨aE ?_,ae iy xq.ext⟩;have e1:em=stateE a (a.states.getD s []):=by rw[HR.o];exact bT m em ml H2.o vS.o vR
       rw[oy.o,<-bT (f:=fun s=>stateE a (a.states.getD s [])) s em aC H.o e1.symm vR,if_pos vR]
     ·go_wp2_with fail
      go_roundw
      ·exact⟨ae ja l3,s+1,by omega,by go_num,aY H.o (by rw[HR.o];exact cS _ _ fun j hj=>H2.o j (by omega))⟩
      ·simp[intOf];omega
  ·have aU:∀ j,j<a.states.length->stateE a (a.states.getD j [])=0:=fun j hj=>H.o j (by omega)
   have dd:am (advE a=if growsB a then 0 else 21):=by
    have h:advE a=if growsB a then 0 else 21:=by rw[oy.o,cS _ _ aU];simp
    exact h
   have HG:=aa (MD a _ wr (G.o.up up_moves aA) aU);clear aU;generalize growsB a=gb at HG dd;cases gb with
   | true=>
    go_wp2_with fail
    refine HG.o.mono ?_;rintro e w2 ⟨rfl,aT⟩
    go_wp2_with fail
    go_ret
    exact⟨aE (by rw[dd.o];rfl),ae aA aT⟩
   | false=>
    go_wp2_with fail
    refine HG.o.mono ?_;rintro e w2 ⟨rfl,aT⟩
    go_wp2_with fail
    go_ret
    exact⟨aE (by rw[dd.o];rfl),ae aA aT⟩
def sS(a:Adv):Bool:=decide (a.states.length<=8)&&decide (movesN a.states<=40)
theorem Wo(l:List (List Mv)) (B:Nat) (h:∀ k (hk:k<l.length),l[k].length<=B):∀ k,k<=l.length->cnt l k<=k * B:=by
 intro k;induction k with
 | zero=>intro _;rw[pN];exact Nat.zero_le _
 | succ k ih=>
  intro hk;rw[pO l k (by omega),Nat.succ_mul];exact Nat.add_le_add (ih (by omega)) (h k (by omega))
theorem O9{w:World} {v:Value} {l:List (List Mv)} (hv:bu w v l):movesN l<=l.length * 17592186044416:=by
 obtain⟨pa,ca,rfl,la1,la2,ea⟩:=hv.at
 have:=Wo l 17592186044416 (fun k hk=>by
  obtain⟨b,o,_,x,_,hx⟩:=ea k hk;obtain⟨_,_,_,_,dM,_⟩:=hx
  exact dM) l.length (Nat.le_refl _)
 rwa [uX l _ (Nat.le_refl _)]at this
theorem KE(a:Adv) (v:Value) (w:World) (hv:bu w v a.states) :
  Calls Tryz.prog 70 #[.agg #[.int .i64 a.n,v]] w fun e w'=>e=.returned (.bool (sS a))/\Below w.heap.size w w':=by
 have hN:=O9 hv;have HV:am (sS a=(decide (a.states.length<=8)&&decide (movesN a.states<=40))):=by exact rfl
 by_cases h8:a.states.length<=8
 ·have HC:=aa (fun W (hb:Below w.heap.size w W)=>Cp a.n _ a.states W (hv.up up_moves hb) (by omega));obtain⟨pa,ca,rfl,_⟩:=hv;have H8:am (decide (a.states.length<=8)=true):=by(have h:=decide_eq_true h8);exact h
  generalize movesN a.states=mN at HC HV hN
  go_enter Tryz.func70,Tryz.ntmps70
  go_wp2_with fail
  refine(HC.o _ (by go_grown)).mono ?_;rintro e W1 ⟨rfl,aK⟩
  go_wp2_with fail
  go_ret
  refine⟨aR ?_,ae (by go_grown) aK⟩;rw[HV.o,H8.o];simp;omega
 ·have H8:am (decide (a.states.length<=8)=false):=by(have h:=decide_eq_false h8);exact h
  obtain⟨pa,ca,rfl,_⟩:=hv
  go_enter Tryz.func70,Tryz.ntmps70
  go_wp2_with fail
  go_ret
  exact⟨aR (by rw[HV.o,H8.o];rfl),by go_grown⟩
def sT(c:List Int) (n:Int) (m:Mv):Int:=min (n+c.getD m.to.toNat 0) 4097
def rowN(c:List Int) (l:List Mv):Int:=l.foldl (sT c) 0
def lO(a:Adv) (c:List Int):List Int:=a.states.map (rowN c)
def eL(a:Adv):Nat->List Int
 | 0=>List.replicate a.states.length 1
 | k+1=>lO a (eL a k)
def numberS(a:Adv) (k:Nat):Int:=(eL a k).getD 0 0
def It(c:List Int):Prop:=∀ x∈c,0<=x/\x<=4097
theorem Ei{c:List Int} (h:It c) (i:Nat):0<=c.getD i 0/\c.getD i 0<=4097:=by
 by_cases hi:i<c.length
 ·rw[az 0 hi];exact h _ (List.getElem_mem hi)
 ·rw[List.getD_eq_getElem?_getD,List.getElem?_eq_none (by omega)];simp
theorem RV{c:List Int} (h:It c) {n:Int} (hn:0<=n/\n<=4097) (m:Mv):0<=sT c n m/\sT c n m<=4097:=by
 have:=Ei h m.to.toNat;unfold sT;omega
theorem Vn{c:List Int} (h:It c) (l:List Mv):∀ n:Int,(0<=n/\n<=4097)->0<=l.foldl (sT c) n/\l.foldl (sT c) n<=4097:=by
 induction l with
 | nil=>intro n hn;exact hn
 | cons m r ih=>intro n hn;exact ih _ (RV h hn m)
theorem Le{c:List Int} (h:It c) (l:List Mv):0<=rowN c l/\rowN c l<=4097:=Vn h l 0 (by omega)
theorem RW{c:List Int} (h:It c) (a:Adv):It (lO a c):=fun x hx=>by
 obtain⟨l,_,rfl⟩:=List.mem_map.1 hx;exact Le h l
theorem Iu(a:Adv) (k:Nat):It (eL a k):=by
 induction k with
 | zero=>intro x hx;rw[(List.mem_replicate.1 hx).2];omega
 | succ k ih=>exact RW ih a
theorem O'(a:Adv) (k:Nat):(eL a k).length=a.states.length:=by
 cases k with
 | zero=>simp[eL]
 | succ k=>simp[eL,lO]
theorem Pa(c:List Int) (l:List Mv) (i:Nat) (hi:i<l.length):rowN c (l.take (i+1))=sT c (rowN c (l.take i)) l[i]:=by
 unfold rowN;rw[List.take_succ_eq_append_getElem hi,List.foldl_append];rfl
theorem Fy{w:World} {v:Value} {t:TypeId} (j:Nat) (u:Value) (hj:[v][j]?=some u):(w.alloc (.cells #[v] t)).cell? (Addr.add ⟨w.heap.size,0,none⟩ j)=some u:=by
 cases j with
 | zero=>simp at hj;subst hj;simp[Addr.add,ab (ap w _)]
 | succ j=>simp at hj
theorem Vo(P:Program) (ats:Array TypeId) (ty:TypeId) (x y:Int) (w:World):(Builtin.min_ ats ty #[.int .i64 x,.int .i64 y]).run P w=.ok (.int .i64 (min x y)) w:=by
 have h:(if y<x then y else x)=min x y:=by omega
 simp[Builtin.min_,Builtin.min2,h]
theorem Ej(a:Adv) (v:Value) (n:Nat) (hn:n<=6) (w:World) (hv:bu w v a.states) (eN:∀ s,s<a.states.length->stateE a (a.states.getD s [])=0) (h1:1<=a.states.length/\a.states.length<=256) :
  Calls Tryz.prog 116 #[.agg #[.int .i64 a.n,v],.int .i64 n,.int .i64 4096] w fun e w'=>e=.returned (.int .i64 (numberS a n))/\Below w.heap.size w w':=by
 obtain⟨pa,ca,rfl,la1,la2,ea⟩:=hv.at;have EA:=aa ea;have dD:=aa eN;clear hv ea eN;obtain⟨i0,hi,cD,bX,cF⟩:=info_parts Tryz.infoInt
 go_enter Tryz.func116,Tryz.ntmps116
 go_wp2
 refine bC (fun W=>Below w.heap.size w W/\W.heap[w.heap.size]?=some (.cells #[.int .i64 a.n,.slice pa a.states.length ca] 27)) ⟨by go_grown,ap _ _⟩ (fun W0 aX=>?_);obtain⟨aG,bB⟩:=aX;have HA:=aa bB;clear bB
 go_loopw [7,8] (fun o i wr=>Below W0.heap.size W0 wr/\∃ k:Nat,k<=a.states.length/\i=.int .i64 k/\wr.ownsRow W0.heap.size 3 1 o k (List.replicate k (.int .i64 1))) (fun _ i _=>a.states.length - (intOf i).toNat)
 ·exact⟨Below.refl _ _,0,by omega,rfl,World.ownsRow_nil _ _ _ _⟩
 ·
  obtain⟨ja,k,hk,rfl,bd⟩:=hrel;have bO:=aa bd;obtain⟨ao,co,rfl,_⟩:=sP bd;clear bd;have t1:=ab (af ja HA.o);by_cases aC:k<a.states.length
  ·have hA:Below wr.heap.size wr (wr.alloc (.cells #[.int .i64 1] 3)):=by go_grown
   have dx:=aa (pT bO.o hA);have bF:=aa (fun j u hj=>Fy (w:=wr) (v:=.int .i64 1) (t:=3) j u hj);clear hA;have iy:=ja.size
   go_wp2_with (at_builtin;(refine wpList_append_own _ rfl (.tmp 21) (.tmp 22) 38 rfl W0.heap.size 3 i0 (.int .i64 0) 1 8 Tryz.underlying38 hi cD bX cF rfl (by decide) _ k (List.replicate k (.int .i64 1)) rfl dx.o ⟨wr.heap.size,0,none⟩ 1 1 [.int .i64 1] rfl rfl bF.o (by simp[Value.oneCell']) (by unfold maxLen;omega) (by omega) (by simp;omega) ?_;intro v' w2 fQ dA _))
   go_roundw
   ·
    refine⟨Below.grown (w:=wr.alloc (.cells #[.int .i64 1] 3)) (ja.alloc iy _) dA (by simp;omega) (fun g hg=>(Eg bO.o g hg).1),k+1,by omega,by go_num,?_⟩;rw[List.replicate_succ'];exact fQ
   ·simp[intOf];omega
  ·obtain rfl:k=a.states.length:=by omega
   have cZ:(List.replicate a.states.length (Value.int .i64 1))=(eL a 0).map (Value.int .i64):=by simp[eL]
   rw[cZ]at bO;clear cZ
   go_wp2
   clear t1
   go_loopw [7,9] (fun o i ws=>Below wr.heap.size wr ws/\∃ k:Nat,k<=n/\i=.int .i64 k/\ws.ownsRow W0.heap.size 3 1 o a.states.length ((eL a k).map (Value.int .i64))) (fun _ i _=>n - (intOf i).toNat)
   ·exact⟨Below.refl _ _,0,by omega,rfl,bO.o⟩
   ·
    obtain⟨l3,k,hk,rfl,bd⟩:=hrel
    rename World=>ws
    have HOWN2:=aa bd;have iy:=ae ja l3;obtain⟨ac,cc,rfl,_,_,_,_,eP⟩:=sP bd;have Hm:=aa eP;clear bd eP;have QL:=aa (O' a k);have HIO:=aa (Iu a k);by_cases aC:k<n
    ·have t1:=ab (af iy HA.o)
     go_wp2
     clear t1
     go_loopw [10,11] (fun o i wt=>Below ws.heap.size ws wt/\∃ s:Nat,s<=a.states.length/\i=.int .i64 s/\wt.ownsRow ws.heap.size 3 1 o s (((lO a (eL a k)).take s).map (Value.int .i64))) (fun _ i _=>a.states.length - (intOf i).toNat)
     ·exact⟨Below.refl _ _,0,by omega,rfl,World.ownsRow_nil _ _ _ _⟩
     ·
      obtain⟨uQ,s,hs,rfl,bd⟩:=hrel
      rename World=>wt
      have cY:=aa bd;have uy:=ae iy uQ;have hbtw:=ae aG uy;obtain⟨an,cn,rfl,_⟩:=sP bd;clear bd;have t1:=ab (af uy HA.o);by_cases L3:s<a.states.length
      ·obtain⟨b1,o1,rfl,x,cx,hx⟩:=EA.o s L3;rw[Nat.mul_one]at cx;obtain⟨px,qx,rfl,x1,x2,ex⟩:=hx.at;have EX:=aa ex;have c1:=ak hbtw cx
       have gB:am ((lO a (eL a k)).take (s+1)=(lO a (eL a k)).take s++[rowN (eL a k) a.states[s]]):=by
        have h:(lO a (eL a k)).take (s+1)=(lO a (eL a k)).take s++[rowN (eL a k) a.states[s]]:=by
         rw[List.take_succ_eq_append_getElem (by simp[lO];exact L3)];simp[lO]
        exact h
       have DU:=aa (fun j (hj:j<a.states[s].length)=>(lw dD.o L3 hj).2);clear hx ex cx
       go_wp2
       go_loop [12,13] (fun o i=>∃ m:Nat,m<=a.states[s].length/\i=.int .i64 m/\o=.int .i64 (rowN (eL a k) (a.states[s].take m))) (fun _ i=>a.states[s].length - (intOf i).toNat)
       ·exact⟨0,by omega,rfl,by simp[rowN]⟩
       ·
        obtain⟨m,hm,rfl,rfl⟩:=hrel;have XS:=Le HIO.o (a.states[s].take m);by_cases ml:m<a.states[s].length
        ·obtain⟨b3,o3,rfl,_,⟨d7,_⟩⟩:=EX.o m ml;have oX:=DU.o m ml;obtain⟨u,hu⟩:∃ u:Nat,a.states[s][m].to=u:=⟨a.states[s][m].to.toNat,by omega⟩
         have iu:am (rowN (eL a k) (a.states[s].take (m+1))=min (rowN (eL a k) (a.states[s].take m)+(eL a k).getD u 0) 4097):=by
          have h:rowN (eL a k) (a.states[s].take (m+1))=min (rowN (eL a k) (a.states[s].take m)+(eL a k).getD u 0) 4097:=by
           rw[Pa _ _ m ml];unfold sT;rw[hu,Int.toNat_natCast]
          exact h
         rw[hu]at d7;have Qm:u<a.states.length:=by omega
         have pF:=Ei HIO.o u;have Ko:u<(eL a k).length:=by rw[QL.o];exact Qm
         obtain⟨b,e4,hc⟩:=Hm.o u (.int .i64 ((eL a k).getD u 0)) (by rw[az 0 Ko];simp);have c2:=ak hbtw d7;subst e4;have c3:=ak uQ hc;have hmin:=Vo Tryz.prog;generalize rowN (eL a k) (a.states[s].take m)=r0 at XS iu;generalize (eL a k).getD u 0=g0 at pF iu c3 hc;clear d7 hc hu oX Ko
         go_wp2
         go_round
         ·exact⟨m+1,by omega,by go_num,by rw[iu.o]⟩
         ·simp[intOf];omega
        ·obtain rfl:m=a.states[s].length:=by omega
         rw[List.take_length];rw[List.take_length]at XS;generalize rowN (eL a k) a.states[s]=r0 at XS gB;have hA:Below wt.heap.size wt (wt.alloc (.cells #[.int .i64 r0] 3)):=by go_grown
         have HOWN4:=aa (pT cY.o hA);have bF:=aa (fun j u hj=>Fy (w:=wt) (v:=.int .i64 r0) (t:=3) j u hj);have hbs3:=uQ.size;clear hA
         go_wp2_with (at_builtin;(refine wpList_append_own _ rfl (.tmp 63) (.tmp 65) 38 rfl ws.heap.size 3 i0 (.int .i64 0) 1 8 Tryz.underlying38 hi cD bX cF rfl (by decide) _ s (((lO a (eL a k)).take s).map (Value.int .i64)) rfl HOWN4.o ⟨wt.heap.size,0,none⟩ 1 1 [.int .i64 r0] rfl rfl bF.o (by simp[Value.oneCell']) (by unfold maxLen;omega) (by omega) (by simp;omega) ?_;intro v' w2 fQ dA _))
         go_roundw
         ·
          refine⟨Below.grown (w:=wt.alloc (.cells #[.int .i64 r0] 3)) (uQ.alloc hbs3 _) dA (by simp;omega) (fun g hg=>(Eg cY.o g hg).1),s+1,by omega,by go_num,?_⟩;rw[gB.o,List.map_append];exact fQ
         ·simp[intOf];omega
      ·obtain rfl:s=a.states.length:=by omega
       go_wp2
       go_roundw
       ·
        refine⟨ae l3 uQ,k+1,by omega,by go_num,?_⟩;have h:=sQ (base':=W0.heap.size) cY.o (by have:=iy.size;exact this);rw[List.take_of_length_le (by simp[lO])]at h;exact h
       ·simp[intOf];omega
    ·obtain rfl:k=n:=by omega
     obtain⟨b,rfl,hc⟩:=Hm.o 0 (.int .i64 (numberS a k)) (by
      have h0:0<(eL a k).length:=by rw[QL.o];omega
      unfold numberS;rw[az 0 h0]
      simp)
     go_wp2
     go_ret
     exact⟨rfl,ae aG iy⟩
end Go.Proofs.YtmeaoneaephjeaaGreatDoor
namespace Go.Proofs.YtmeaoneaephjeaaGreatDoor
open Go.RowKit Go Go.Shelf
attribute [local go_sem] Oper.semAt_some
theorem aI{W:World} {B:Nat} {cs:Array Value} {t:TypeId} {f:Nat × Nat} (h:W.heap[B]?=some (.cells cs t f)) (o:Nat) (v:Value):(W.setCell ⟨B,o,none⟩ v).heap[B]?=some (.cells (cs.setIfInBounds o v) t f):=by
 simp[World.setCell,Array.getElem?_modify,h]
theorem aM{W:World} {B C:Nat} {x:Obj} (h:W.heap[C]?=some x) (bK:C≠B) (o:Nat) (v:Value):(W.setCell ⟨B,o,none⟩ v).heap[C]?=some x:=
 (Below.heap_setCell W ⟨B,o,none⟩ v C bK).trans h
def js(n:Nat) (w w':World):Prop:=∀ k,k<n->w'.heap[k]?=w.heap[k]?
theorem js.cell{w w':World} (h:js w.heap.size w w') {a:Addr} {v:Value} (hc:w.cell? a=some v):w'.cell? a=some v:=by
 have:=fx hc;rw[World.cell?_of_block (w:=w) (h a.block this)];exact hc
theorem js.ck{w w':World} (h:js w.heap.size w w'):CK w w':=fun k _ hk _=>(h k (aD hk)).trans hk
theorem js.of_below{w w':World} (h:Below w.heap.size w w'):js w.heap.size w w':=h.block
theorem js.alloc{w w':World} (h:js w.heap.size w w') (o:Obj):js w.heap.size w (w'.alloc o):=fun k hk=>by
 have h1:w.heap[k]?=some w.heap[k]:=Array.getElem?_eq_getElem hk;rw[h1];exact ar o ((h k hk).trans h1)
theorem js.trans{n:Nat} {a b c:World} (h:js n a b) (k:js n b c):js n a c:=fun i hi=>(k i hi).trans (h i hi)
theorem yG(n:Int) (p:Option Addr) (len cap:Nat) (w:World) :
  Calls Tryz.prog 218 #[.agg #[.int .i64 n,.slice p len cap]] w fun e w'=>e=.returned (.func (.func 221) #[] #[.pointer (some ⟨w.heap.size,0,none⟩)])/\w'=w.alloc (.cells #[.int .i64 n,.slice p len cap] 27):=by
 go_enter Tryz.func218,Tryz.ntmps218
 go_wp2
 go_ret
 exact⟨rfl,rfl⟩
def Iv(l:List (List Mv)) (i:Nat):Array Value:=#[.int .i64 (mvAt l i).1,(mvAt l i).2.v]
theorem wO(wd:World) (v:Value) (l:List (List Mv)) (hv:bu wd v l) (w:World) (hb:Below wd.heap.size wd w) (Bx:Nat) (hx:w.cell? ⟨Bx,1,none⟩=some v) :
  sE Tryz.prog 221 #[.pointer (some ⟨Bx,0,none⟩)] (Iv l) (movesN l) (fun k=>k<wd.heap.size) w:=by
 intro yl J Jx W hW hJ oU hY h0;have dm:=ak hW hx;have ff:js wd.heap.size wd W:=(js.of_below hb).trans (fun k hk=>hW.block k (Nat.lt_of_lt_of_le hk hb.size));obtain⟨pa,ca,rfl,la1,la2,ea⟩:=hv.at;clear hv hx hW hb;have EA:=aa ea;clear ea;have HJ:=aa hJ;clear hJ;have Jr:=aa oU;clear oU;have HY:=aa hY;clear hY;refine(callsIn_wide (n:=0)).1 ?_;refine callsIn_of_wp Tryz.func221 rfl trivial ?_ rfl;simp only[Tryz.ntmps221,List.size_toArray,List.length_cons,List.length_nil,Nat.reduceAdd,Nat.reduceSub,Array.replicate_succ,Array.replicate_zero,List.push_toArray,List.append_toArray,List.nil_append,List.cons_append]
 gi_wp2
 gi_loopw [10] (fun i wr=>∃ s:Nat,s<=l.length/\i=.int .i64 s/\js wd.heap.size wd wr/\J (cnt l s) wr) (fun i _=>l.length - (intOf i).toNat)
 ·exact⟨0,by omega,rfl,ff,by rw[pN];exact h0⟩
 ·
  obtain⟨s,hs,rfl,gc,hj⟩:=hrel;have kr:=aa gc;clear gc;have jo:=aa hj;clear hj;by_cases aC:s<l.length
  ·obtain⟨b1,o1,rfl,x,cx,hxs⟩:=EA.o s aC;rw[Nat.mul_one]at cx;have d1:=kr.o.cell cx;obtain⟨p2,c2,rfl,m1,m2,e2⟩:=hxs.at;clear hxs cx;have E2:=aa e2;clear e2
   gi_wp2
   obtain⟨W0,aX⟩:∃ W0:World,W0=wr:=⟨_,rfl⟩;rw[<-aX]at kr jo d1 ⊢;clear aX wr
   gi_loopw [17] (fun i wr=>∃ j:Nat,j<=l[s].length/\i=.int .i64 j/\js wd.heap.size wd wr/\J (cnt l s+j) wr) (fun i _=>l[s].length - (intOf i).toNat)
   ·exact⟨0,by omega,rfl,kr.o,jo.o⟩
   ·
    obtain⟨j,hj,rfl,gc,zc⟩:=hrel;have ou:=aa gc;clear gc;have JD:=aa zc;clear zc;by_cases LL:j<l[s].length
    ·obtain⟨b2,o2,rfl,⟨⟨c0,_⟩,⟨c1,_⟩,⟨c2,_⟩,⟨c3,_⟩,⟨c4,_⟩,⟨c5,_⟩,⟨c6,_⟩⟩,c7,_⟩:=E2.o j LL;have d0:=ou.o.cell c0;have d1:=ou.o.cell c1;have d2:=ou.o.cell c2;have d3:=ou.o.cell c3;have d4:=ou.o.cell c4;have d5:=ou.o.cell c5;have d6:=ou.o.cell c6;have d7:=ou.o.cell c7;clear c0 c1 c2 c3 c4 c5 c6 c7;have Bh:=zW l s j aC LL;have lh:=Hu l s aC;generalize hm:l[s][j]=m at d0 d1 d2 d3 d4 d5 d6 d7 Bh;obtain⟨fn,tmps,assign,body,hy,hR⟩:=HY.o (cnt l s+j) (wr.alloc (.cells #[.int .i64 m.r.g.n,.int .i64 m.r.g.h0,.int .i64 m.r.g.h1,.int .i64 m.r.g.h2,.int .i64 m.r.g.h3,.int .i64 m.r.g.h4,.int .i64 m.r.f,.int .i64 m.to] 143)) (by omega) (HJ.o _ _ _ JD.o (by go_grown));unfold Iv at hy;rw[Bh]at hy;dsimp only at hy;have HR:=aa hR;clear hR Bh hm
     gi_wp2
     refine⟨rfl,HR.o.mono ?_⟩;rintro e W3 (⟨rfl,Do,DC,iw⟩|⟨rfl,sy⟩)
     ·gi_wp2
      go_roundw
      ·exact⟨j+1,by omega,by go_num,js.trans (ou.o.alloc _) iw,Do⟩
      ·simp[intOf];omega
     ·gi_wp2
      refine bodyPost_ret (results_none rfl _ _ _) rfl ?_;exact⟨⟨_,rfl⟩,.inr ⟨_,by omega,sy⟩⟩
    ·gi_wp2
     go_roundw
     ·
      refine⟨s+1,by omega,by go_num,ou.o,?_⟩;have e:l[s].length=j:=by omega
      rw[pO l s aC,e];exact JD.o
     ·simp[intOf];omega
  ·gi_wp2
   go_end0
   exact⟨⟨_,rfl⟩,.inl (by rw[<-uX l s (by omega)];exact jo.o)⟩
def sizedE(a:Adv):Int:=if a.states.length<1\/256<a.states.length\/4096<movesN a.states then 5 else 0
theorem Pc(a:Adv) (v:Value) (w:World) (hv:bu w v a.states) (hN:movesN a.states<1099511627776) :
  Calls Tryz.prog 216 #[.agg #[.int .i64 a.n,v]] w fun e w'=>e=.returned (.int .i64 (sizedE a))/\Below w.heap.size w w':=by
 have G:=aa hv;obtain⟨pa,ca,rfl,la1,la2,_⟩:=hv.at;clear hv;refine gi Tryz.func216 rfl ?_;simp only[Tryz.ntmps216,List.size_toArray,List.length_cons,List.length_nil,Nat.reduceAdd,Nat.reduceSub,Array.replicate_succ,Array.replicate_zero,List.push_toArray,List.append_toArray,List.nil_append,List.cons_append]
 go_wp2_with fail
 refine(yG _ _ _ _ _).mono ?_;rintro e w1 ⟨rfl,rfl⟩
 go_wp2_with fail
 refine bC (fun W=>Below w.heap.size w W/\W.heap[w.heap.size]?=some (.cells #[.int .i64 a.n,.slice pa a.states.length ca] 27)/\W.heap[w.heap.size+1]?=some (.cells #[.int .i64 0] 3)/\W.heap[w.heap.size+1+1]?=some (.cells #[.int .i64 a.n,.slice pa a.states.length ca] 27))
  ⟨by go_grown,ar _ (ar _ (ap _ _)),ar _ (by simpa using ap (w.alloc (.cells #[.int .i64 a.n,.slice pa a.states.length ca] 27)) (.cells #[.int .i64 0] 3)),by simpa using ap ((w.alloc (.cells #[.int .i64 a.n,.slice pa a.states.length ca] 27)).alloc (.cells #[.int .i64 0] 3)) (.cells #[.int .i64 a.n,.slice pa a.states.length ca] 27)⟩ (fun W0 aX=>?_)
 obtain⟨aG,hA,pA,hX⟩:=aX;have dg:=wO w _ a.states G.o W0 aG (w.heap.size+1+1) (by simp[ab hX]);have eT:=aD hX
 refine mL (gf:=221) (lb:=#[.pointer (some ⟨w.heap.size+1+1,0,none⟩)]) rfl (enters_of Tryz.func221 (by kernel_rfl) rfl) dg (Below.refl _ _) (fun k hk=>Nat.lt_of_lt_of_le hk aG.size) (fun i=>rfl)
  (fun i W=>Below w.heap.size w W/\W.heap[w.heap.size]?=some (.cells #[.int .i64 a.n,.slice pa a.states.length ca] 27)/\W.heap[w.heap.size+1]?=some (.cells #[.int .i64 i] 3))
  (fun _ _ _=>False) (fun i=>(cI.below (by omega)).and (cI.cells.and cI.cells)) (fun _ _=>cI.pure) ⟨aG,hA,pA⟩ ?round ?done ?stop
 case round=>
  intro l i W hi hl hI;unfold Iv
  gi_wp2
  refine⟨Bod.refl _ _ _,_,(cI.below (w:=w) (by omega)).and (cI.cells.and cI.cells),hI,fun W2 h2 _=>?_⟩;obtain⟨g1,g2,g3⟩:=h2;have c1:=ab g3 0;have f1:=aH g3 0;simp at c1;have HG:=aa (And.intro g1 (And.intro g2 g3));clear g1 g2 g3 hI dg
  gi_wp2
  obtain⟨g1,g2,g3⟩:=HG.o;refine⟨Bod.setCell _ _ _ (by simp),g1.setCell (by simp) _,aM g2 (by omega) _ _,?_⟩;rw[aI g3];simp
 case done=>
  intro D W hD hI hK;obtain⟨g1,g2,g3⟩:=hI;have HG:=aa (And.intro g1 (And.intro g2 g3));have t1:=ab g2;have t2:=ab g3;clear g1 g2 g3 dg
  go_wp2
  all_goals
   refine iK hK (results_tmp rfl _ _ _) ?_;refine⟨aE ?_,eY (by omega) HG.o.1⟩
   go_light
   unfold sizedE
   grind
 case stop=>
  intro D c i W _ _ h;exact h.elim
def bH(l:List Int):Array Value:=(l.map (Value.int .i64)).toArray
def fC(n:Nat) (f:Nat->Int) (q:Nat):Array Value:=((List.range n).map fun j=>Value.int .i64 (if j<q then f j else 0)).toArray
theorem pU(n:Nat) (f:Nat->Int) (q:Nat):(fC n f q).size=n:=by simp[fC]
theorem mg(n:Nat) (f:Nat->Int) (q j:Nat) (hj:j<n):(fC n f q)[j]?=some (.int .i64 (if j<q then f j else 0)):=by simp[fC,hj]
theorem vh(n:Nat) (f:Nat->Int) (q:Nat) (hq:q<n):(fC n f q).setIfInBounds q (.int .i64 (f q))=fC n f (q+1):=by
 apply Array.ext_getElem?;intro j;rw[Array.getElem?_setIfInBounds];by_cases hj:j<n
 ·rw[mg _ _ _ _ hj,mg _ _ _ _ hj];by_cases e:q=j
  ·subst e;rw[if_pos rfl,if_pos (by rw[pU];exact hj),if_pos (by omega)]
  ·rw[if_neg e];by_cases h:j<q
   ·rw[if_pos h,if_pos (by omega)]
   ·rw[if_neg h,if_neg (by omega)]
 ·have h1:(fC n f q)[j]?=none:=by rw[Array.getElem?_eq_none];rw[pU];omega
  have h2:(fC n f (q+1))[j]?=none:=by rw[Array.getElem?_eq_none];rw[pU];omega
  rw[h1,h2,if_neg (by omega)]
theorem qz(n:Nat) (f:Nat->Int):fC n f n=bH ((List.range n).map f):=by
 unfold fC bH;rw[List.map_map];congr 1;refine List.map_congr_left fun j hj=>?_
 rw[if_pos (List.mem_range.1 hj)];rfl
theorem Vp(f:Nat->Int) (n:Nat):madeCells (Value.int .i64 0).cells n=fC n f 0:=by
 apply Array.ext
 ·simp[madeCells,fC]
 ·intro i h1 h2;simp[madeCells,fC,Value.cells,Nat.mod_one]
theorem Cq(f:Nat->Int) (n:Nat) (hn:n<=65536) (w:World):(Instr.makeSlice 38 (.int .i64 (n:Int)) (.int .i64 (n:Int))).run Tryz.prog w=.ok (.slice (some ⟨w.heap.size,0,none⟩) n n) (w.alloc (.cells (fC n f 0) 3)):=by
 have hinfo:(Tryz.prog.info? 3).map (fun i=>(i.zero,i.size,i.bytes))=some (some (.int .i64 0),1,8):=by kernel_rfl
 obtain⟨i,hi,cD,bX,cF⟩:=info_parts hinfo;have:=run_make (P:=Tryz.prog) w 38 3 i (.int .i64 0) Tryz.underlying38 hi cD .i64 .i64 (n:Int) (n:Int) (by omega) (by omega) (by rw[cF];omega) (by omega);rw[this,bX,Nat.mul_one];simp only[Int.toNat_natCast,Vp f]
theorem jD(f:Nat->Int) (n:Nat) (hn:n<=256) (w:World):(Instr.makeSlice 38 (.int .i64 (n:Int)) (.int .i64 (n:Int))).run Tryz.prog w=.ok (.slice (some ⟨w.heap.size,0,none⟩) n n) (w.alloc (.cells (fC n f 0) 3)):=Cq f n (by omega) w
theorem rM{W:World} {B:Nat} {now:List Int} {n:Nat} (hl:now.length=n) (hn:n<=256) (h:W.heap[B]?=some (.cells (bH now) 3)) (hr:∀ i,i<now.length->bR (now.getD i 0)):aQ W (.slice (some ⟨B,0,none⟩) n n) now:=by
 subst hl;refine⟨some ⟨B,0,none⟩,now.length,rfl,⟨Nat.le_refl _,by omega,fun e=>by cases e⟩,by omega,fun i x hx=>⟨B,0,rfl,?_⟩⟩;obtain⟨hi,rfl⟩:=List.getElem?_eq_some_iff.1 hx;refine⟨?_,?_⟩
 ·rw[ab h,Nat.zero_add,Nat.mul_one];simp[bH,hi]
 ·have:=hr i hi
  rwa [az 0 hi]at this
def xC(n:Nat) (x:Int) (q:Nat):Array Value:=fC n (fun _=>x) q
theorem Lf(n:Nat) (x:Int) (q j:Nat) (hj:j<n):(xC n x q)[j]?=some (.int .i64 (if j<q then x else 0)):=mg n _ q j hj
theorem Pd(n:Nat) (x:Int) (q m:Nat) (h:q+m<=n):((xC n x q).toList.take q++List.replicate m (Value.int .i64 x)++(xC n x q).toList.drop (q+m)).toArray=xC n x (q+m):=by
 apply Array.ext_getElem?;intro j;have hl:(xC n x q).toList.length=n:=by rw[Array.length_toList];exact pU n _ q
 have hg:∀ q j,(xC n x q).toList[j]?=if j<n then some (.int .i64 (if j<q then x else 0)) else none:=by
  intro q j;rw[Array.getElem?_toList];by_cases hj:j<n
  ·rw[if_pos hj];exact Lf n x q j hj
  ·rw[if_neg hj,Array.getElem?_eq_none];unfold xC;rw[pU];omega
 rw[<-Array.getElem?_toList (xs:=xC n x (q+m)),hg,List.getElem?_toArray,List.append_assoc];by_cases h1:j<q
 ·rw[List.getElem?_append_left (by rw[List.length_take,hl];omega),List.getElem?_take_of_lt h1,hg,if_pos (show j<n by omega),if_pos h1,if_pos (show j<n by omega),if_pos (show j<q+m by omega)]
 ·rw[List.getElem?_append_right (by rw[List.length_take,hl];omega),List.length_take,hl,Nat.min_eq_left (by omega)];by_cases h2:j<q+m
  ·rw[List.getElem?_append_left (by rw[List.length_replicate];omega),List.getElem?_replicate,if_pos (show j - q<m by omega),if_pos (show j<n by omega),if_pos h2]
  ·rw[List.getElem?_append_right (by rw[List.length_replicate];omega),List.length_replicate,List.getElem?_drop,show q+m+(j - q - m)=j by omega,hg];by_cases h3:j<n
   ·rw[if_pos h3,if_pos h3,if_neg h1,if_neg h2]
   ·rw[if_neg h3,if_neg h3]
theorem rC(w:World) (g:Nat) (cur cur':Array Value) (t:TypeId) (hg:w.heap[g]?=some (.cells cur t (0,0))):(w.setRow g cur').heap[g]?=some (.cells cur' t (0,0)):=setRow_heap w g cur cur' t _ hg
theorem yH{P:Program} {w:World} {ops:Array Oper} {rest:List Oper} {o:Oper} {a:Act} {Q:Exit->Act->World->Prop} {d s:Operand} {t t':TypeId} {v u v':Value} {w':World} (hg:o.guard=none)
  (ho:o.op=.call { callee:=.builtin .copy,args:=#[d,s],argTypes:=#[t,t'] }) (hd:a.eval d=v) (hs:a.eval s=u)
  (hr:(Builtin.copy_ #[t,t'] o.type #[v,u]).run P w=.ok v' w') (h:wpList P ops Q rest (a.put o.dst v') w'):wpList P ops Q (o :: rest) a w:=by
 refine wpList_plain hg fun _ hK=>?_
 unfold Oper.wp;simp[execOp,ho,resolve,invoke,builtin,hd,hs,hr,Result.andThen];exact hK _ _ h
theorem ME(rv:Int) (n:Nat) (h1:1<=n) (p B:Nat) (W:World) (hp:W.heap[p]?=some (.cells #[.int .i64 rv] 3)) (hB:W.heap[B]?=some (.cells (xC n rv 0) 3)) :
  (Builtin.copy_ #[38,38] 3 #[.slice (some ⟨B,0,none⟩) n n,.slice (some ⟨p,0,none⟩) 1 1]).run Tryz.prog W=.ok (.int .i64 1) (W.setRow B (xC n rv 1)):=by
 have h:=run_copy_row Tryz.prog W 38 38 3 3 B 0 n n ⟨p,0,none⟩ 1 1 (xC n rv 0) 3 [.int .i64 rv] Tryz.underlying38 (by kernel_rfl) hB (by simp only[List.length_cons,List.length_nil];exact(Nat.min_eq_left h1).symm)
  (fun j v hj=>by
   cases j with
   | zero=>simp at hj;subst hj;rw[Addr.add_lit,ab hp];rfl
   | succ j=>simp at hj) (by unfold xC;rw[pU];simpa using h1) (by simp[Value.oneCell'])
 rw[h];exact congrArg (fun r=>Result.ok (Value.int .i64 1) (W.setRow B r)) (Pd n rv 0 1 (by omega))
theorem Pe(rv:Int) (n q m:Nat) (h1:q+m<=n) (hm:m=min q (n - q)) (B:Nat) (W:World) (hB:W.heap[B]?=some (.cells (xC n rv q) 3)) :
  (Builtin.copy_ #[38,38] 3 #[.slice (some ⟨B,q,none⟩) (n - q) (n - q),.slice (some ⟨B,0,none⟩) q n]).run Tryz.prog W=.ok (.int .i64 (m:Int)) (W.setRow B (xC n rv (q+m))):=by
 have h:=run_copy_row Tryz.prog W 38 38 3 3 B q (n - q) (n - q) ⟨B,0,none⟩ q n (xC n rv q) 3 (List.replicate m (.int .i64 rv)) Tryz.underlying38 (by kernel_rfl) hB (by rw[List.length_replicate];exact hm)
  (fun j v hj=>by
   rw[List.getElem?_replicate]at hj;by_cases Uy:j<m
   ·rw[if_pos Uy]at hj;cases hj;rw[Addr.add_lit,ab hB,Nat.zero_add,Lf _ _ _ _ (by omega),if_pos (by omega)]
   ·rw[if_neg Uy]at hj;cases hj) (by unfold xC;rw[pU,List.length_replicate];exact h1) (fun v hv=>by rw[(List.mem_replicate.1 hv).2];rfl)
 rw[h];have e:=Pd n rv q m h1;rw[List.length_replicate];exact congrArg (fun r=>Result.ok (Value.int .i64 (m:Int)) (W.setRow B r)) e
theorem sU{n:Nat} {w W:World} {g:Nat} {c:Array Value} (hn:n<=g) (h:Below n w W):Below n w (W.setRow g c):=
 ⟨h.os,h.tape,h.output,by simpa using h.size,fun k hk=>(setRow_other W g k c (by omega)).trans (h.block k hk)⟩
def qS(wq W2:World) (i:Nat) (D:Nat->Bool) (_x:Nat->Value) (W:World):Prop:=W=bif D i then W2 else wq
theorem qS.other{wq W2 W:World} {i j:Nat} {D:Nat->Bool} {x:Nat->Value} (h:qS wq W2 i D x W) (v:Value) (hj:i≠j):qS wq W2 i (bJ D j) (cG x j v) W:=by
 unfold qS at h ⊢;simp only[bJ,if_neg hj];exact h
theorem qS.hit{wq W2:World} {i:Nat} {D:Nat->Bool} {x:Nat->Value} (v:Value):qS wq W2 i (bJ D i) (cG x i v) W2:=by simp[qS,bJ]
theorem qS.yes{wq W2 W:World} {i:Nat} {D:Nat->Bool} {x:Nat->Value} (h:qS wq W2 i D x W) (hD:D i=true):W=W2:=by unfold qS at h;rw[hD]at h;exact h
theorem wP(rv:Int) (n:Nat) (h1:1<=n) (hn:n<=8192) (p:Nat) (w:World) (hp:w.heap[p]?=some (.cells #[.int .i64 rv] 3)) :
  Calls Tryz.prog 37 #[.slice (some ⟨p,0,none⟩) 1 1,.int .i64 n] w fun e w'=>e=.returned (.slice (some ⟨w.heap.size,0,none⟩) n n)/\w'.heap[w.heap.size]?=some (.cells (xC n rv n) 3)/\Below w.heap.size w w':=by
 have J3:=fun W=>Tryz.bits_Mul 1 n (by omega) (by omega) W
 have e1:1 * n / 18446744073709551616=0:=by omega
 have e2:1 * n % 18446744073709551616=n:=by omega
 rw[e1,e2]at J3;have hu:Tryz.prog.underlying 38=some (.slice 3):=Tryz.underlying38;have hs:(Tryz.prog.info? 3).map (·.size)=some 1:=by kernel_rfl
 have gg:=Cq (fun _=>rv) n (by omega);have HM:=aa J3;have HK:=aa gg;clear J3 gg e1 e2;have JX:¬ (9223372036854775807:Int)<n:=by omega
 have GI:¬ (n:Int)<0:=by omega
 have jn:IntKind.u64.wrap (n:Int)=n:=by rw[IntKind.wrap_u64];omega
 have zB:IntKind.i64.wrap (n:Int)=n:=by rw[IntKind.wrap_i64];omega
 go_enter Tryz.func37,Tryz.ntmps37
 go_wp2_with fail
 refine(HM.o _).mono ?_;rintro e w' ⟨rfl,rfl⟩;have gg:=HK.o;have Xo:(w'.alloc (.cells (fC n (fun _=>rv) 0) 3)).heap[w'.heap.size]?=some (.cells (xC n rv 0) 3):=ap _ _;have kR:=ME rv n h1 p w'.heap.size _ (ar _ hp) Xo
 go_wp2_with (at_builtin;refine yH rfl rfl rfl rfl kR ?_)
 refine bC (fun W=>Below w'.heap.size w' W/\W.heap[w'.heap.size]?=some (.cells (xC n rv 1) 3)) ⟨sU (Nat.le_refl _) ((Below.refl _ w').alloc (Nat.le_refl _) _),rC _ _ _ _ _ Xo⟩ (fun W0 aX=>?_);clear kR Xo gg HM HK
 go_loopw [8] (fun i wr=>Below w'.heap.size w' wr/\∃ q:Nat,1<=q/\q<=n/\i=.int .i64 q/\wr.heap[w'.heap.size]?=some (.cells (xC n rv q) 3)) (fun i _=>n - (intOf i).toNat)
 ·exact⟨aX.1,1,by omega,h1,rfl,aX.2⟩
 ·
  obtain⟨aA,q,hq1',hq2',rfl,bU⟩:=hrel;clear aX W0;by_cases aC:q<n
  ·obtain⟨m,hm⟩:∃ m,m=min q (n - q):=⟨_,rfl⟩;have xJ:q+m<=n:=by omega
   have hm1:1<=m:=by omega
   have oD:(q:Int)<n:=by omega
   have hle':(q:Int)<=n:=by omega
   have hne1:¬ n=q:=by omega
   have S0:¬ q=n:=by omega
   have hw3:IntKind.i64.wrap ((q:Int)+(m:Int))=(q:Int)+(m:Int):=by rw[IntKind.wrap_i64];omega
   have jl:=Pe rv n q m xJ hm w'.heap.size wr.drew bU;have mH:wr.drew.heap[w'.heap.size]?=some (.cells (xC n rv q) 3):=bU;have E':Below w'.heap.size w' wr.drew:=aA.drew;clear hm bU aA
   go_wp2_with fail
   obtain⟨wq,Jj⟩:∃ wq,wr.drew=wq:=⟨_,rfl⟩;rw[Jj]at jl mH E';refine Cb 10 [38,39,40,41,42,43,44,45,46,8] [some (Value.int .i64 (q:Int)),some (Value.slice (some ⟨w'.heap.size,0,none⟩) n n),some (Value.int .i64 (q:Int)),some (Value.slice (some ⟨w'.heap.size,q,none⟩) (n - q) (n - q)),some (Value.slice (some ⟨w'.heap.size,0,none⟩) n n),some (Value.int .i64 (q:Int)),some (Value.slice (some ⟨w'.heap.size,0,none⟩) q n),some (Value.int .i64 (m:Int)),some (Value.int .i64 ((q:Int)+(m:Int))),some (Value.int .i64 ((q:Int)+(m:Int)))] (qS wq (wq.setRow w'.heap.size (xC n rv (q+m))) 7) (by kernel_rfl) rfl (by decide) rfl (by kernel_rfl) (fun _=>Jj) ?step ?tail
   case step=>
    intro x W D i o s F hi ho hs hD cN bW aq hv aP hF;have fR:i=0\/i=1\/i=2\/i=3\/i=4\/i=5\/i=6\/i=7\/i=8\/i=9:=by omega
    rcases fR with rfl|rfl|rfl|rfl|rfl|rfl|rfl|rfl|rfl|rfl
    all_goals (have dR:=cN _ _ hs hD;obtain rfl:=dy ho.symm;obtain rfl:=dy hs.symm)
    ·have F1:D 9=false:=by
      cases h:D 9 with
      | false=>rfl
      | true=>exact absurd (bW 9 _ rfl h ⟨0,.phase⟩ (by simp) rfl) (by rw[hD];decide)
     have e8:F.getD 8 undef=Value.int .i64 (q:Int):=by(rw[hF];exact(l6 (by decide) (i:=9) rfl (Nat.le_of_ble_eq_true (by kernel_rfl))).trans (cN 9 8 rfl F1))
     clear F1;refine qo (.tmp 8) rfl rfl ?_;refine bY.mk (F.getD 8 undef) (fun c hc=>e8.trans (dy hc)) ?_ rfl;exact aP.other _ (by decide)
    ·have e7:F.getD 7 undef=Value.slice (some ⟨w'.heap.size,0,none⟩) n n:=lT hF (by decide) rfl;refine qo (.tmp 7) rfl rfl ?_;refine bY.mk (F.getD 7 undef) (fun c hc=>e7.trans (dy hc)) ?_ rfl;exact aP.other _ (by decide)
    ·have F1:D 9=false:=by
      cases h:D 9 with
      | false=>rfl
      | true=>exact absurd (bW 9 _ rfl h ⟨2,.phase⟩ (by simp) rfl) (by rw[hD];decide)
     have e8:F.getD 8 undef=Value.int .i64 (q:Int):=by(rw[hF];exact(l6 (by decide) (i:=9) rfl (Nat.le_of_ble_eq_true (by kernel_rfl))).trans (cN 9 8 rfl F1))
     clear F1;refine qo (.tmp 8) rfl rfl ?_;refine bY.mk (F.getD 8 undef) (fun c hc=>e8.trans (dy hc)) ?_ rfl;exact aP.other _ (by decide)
    ·have g1:=aq ⟨1,.data⟩ (by simp) rfl;have d1:=hv 1 _ (by omega) g1 rfl;have e39:=fG hF 1 39 (by decide) rfl (by kernel_rfl) d1;have e39':=dH e39;have g2:=aq ⟨2,.data⟩ (by simp) rfl;have d2:=hv 2 _ (by omega) g2 rfl;have e40:=fG hF 2 40 (by decide) rfl (by kernel_rfl) d2;have e40':=dH e40;have HC:=aa aP;clear aq hi hv aP cN bW hF dR jl mH E' Jj g1 d1 g2 d2
     go_wp2_with fail
     exact bY.mk _ fV (HC.o.other _ (by decide)) rfl
    ·have e7:F.getD 7 undef=Value.slice (some ⟨w'.heap.size,0,none⟩) n n:=lT hF (by decide) rfl;refine qo (.tmp 7) rfl rfl ?_;refine bY.mk (F.getD 7 undef) (fun c hc=>e7.trans (dy hc)) ?_ rfl;exact aP.other _ (by decide)
    ·have F1:D 9=false:=by
      cases h:D 9 with
      | false=>rfl
      | true=>exact absurd (bW 9 _ rfl h ⟨5,.phase⟩ (by simp) rfl) (by rw[hD];decide)
     have e8:F.getD 8 undef=Value.int .i64 (q:Int):=by(rw[hF];exact(l6 (by decide) (i:=9) rfl (Nat.le_of_ble_eq_true (by kernel_rfl))).trans (cN 9 8 rfl F1))
     clear F1;refine qo (.tmp 8) rfl rfl ?_;refine bY.mk (F.getD 8 undef) (fun c hc=>e8.trans (dy hc)) ?_ rfl;exact aP.other _ (by decide)
    ·have g4:=aq ⟨4,.data⟩ (by simp) rfl;have d4:=hv 4 _ (by omega) g4 rfl;have e42:=fG hF 4 42 (by decide) rfl (by kernel_rfl) d4;have e42':=dH e42;have g5:=aq ⟨5,.data⟩ (by simp) rfl;have d5:=hv 5 _ (by omega) g5 rfl;have e43:=fG hF 5 43 (by decide) rfl (by kernel_rfl) d5;have e43':=dH e43;have HC:=aa aP;clear aq hi hv aP cN bW hF dR jl mH E' Jj g4 d4 g5 d5
     go_wp2_with fail
     exact bY.mk _ fV (HC.o.other _ (by decide)) rfl
    ·have g3:=aq ⟨3,.data⟩ (by simp) rfl;have d3:=hv 3 _ (by omega) g3 rfl;have e41:=fG hF 3 41 (by decide) rfl (by kernel_rfl) d3;have e41':=dH e41;have g6:=aq ⟨6,.data⟩ (by simp) rfl;have d6:=hv 6 _ (by omega) g6 rfl;have e44:=fG hF 6 44 (by decide) rfl (by kernel_rfl) d6;have e44':=dH e44;have hW:W=wq:=by(rw[aP,hD];rfl)
     subst hW;clear aq hi hv aP cN bW hF dR g3 d3 g6 d6;refine yH rfl rfl e41 e44 jl ?_;exact bY.mk _ fV (qS.hit _) rfl
    ·have g0:=aq ⟨0,.data⟩ (by simp) rfl;have d0:=hv 0 _ (by omega) g0 rfl;have e38:=fG hF 0 38 (by decide) rfl (by kernel_rfl) d0;have e38':=dH e38;have g7:=aq ⟨7,.data⟩ (by simp) rfl;have d7:=hv 7 _ (by omega) g7 rfl;have e45:=fG hF 7 45 (by decide) rfl (by kernel_rfl) d7;have e45':=dH e45;have HC:=aa aP;clear aq hi hv aP cN bW hF dR jl mH E' Jj g0 d0 g7 d7
     go_wp2_with fail
     exact bY.mk _ fV (HC.o.other _ (by decide)) rfl
    ·have g8:=aq ⟨8,.data⟩ (by simp) rfl;have d8:=hv 8 _ (by omega) g8 rfl;have e46:=fG hF 8 46 (by decide) rfl (by kernel_rfl) d8;have e46':=dH e46;have g7:=aq ⟨7,.chain⟩ (by simp) rfl;have d7:=hv 7 _ (by omega) g7 rfl;have e45:=fG hF 7 45 (by decide) rfl (by kernel_rfl) d7;have e45':=dH e45;have HC:=aa aP;clear aq hi hv aP cN bW hF dR jl mH E' Jj g8 d8 g7 d7
     go_wp2_with fail
     exact bY.mk _ fV (HC.o.other _ (by decide)) rfl
   case tail=>
    intro x W' D F aU hv aP hF;have x0:=hv 0 _ (by omega) rfl;have x1:=hv 1 _ (by omega) rfl;have x2:=hv 2 _ (by omega) rfl;have x3:=hv 3 _ (by omega) rfl;have x4:=hv 4 _ (by omega) rfl;have x5:=hv 5 _ (by omega) rfl;have x6:=hv 6 _ (by omega) rfl;have x7:=hv 7 _ (by omega) rfl;have x8:=hv 8 _ (by omega) rfl;have x9:=hv 9 _ (by omega) rfl;have hWq:W'=wq.setRow w'.heap.size (xC n rv (q+m)):=aP.yes (aU 7 (by omega));clear aP;simp only[bA,cW,List.setIfInBounds_toArray,List.set_cons_succ,List.set_cons_zero,Nat.reduceAdd,x0,x1,x2,x3,x4,x5,x6,x7,x8,x9]at hF;subst hF hWq;clear hv aU jl Jj x0 x1 x2 x3 x4 x5 x6 x7 x8 x9
    go_wp2_with fail
    go_roundw
    ·exact⟨sU (Nat.le_refl _) E',q+m,by omega,xJ,by go_num,rC _ _ _ _ _ mH⟩
    ·simp[intOf];omega
  ·obtain rfl:q=n:=by omega
   go_wp2_with fail
   go_ret
   exact⟨rfl,bU,aA⟩
theorem GV(y x:Int) (b:Nat) (a:Addr) (n c:Nat) (hn:0<n) (W:World) (h1:W.cell? ⟨b,0,none⟩=some (.slice (some a) n c)) (h2:W.cell? a=some (.int .i64 x)) :
  Calls Tryz.prog 172 #[.int .i64 y,.pointer (some ⟨b,0,none⟩)] W fun e W'=>e=.returned (.bool (y != x))/\Below W.heap.size W W':=by
 go_enter Tryz.func172,Tryz.ntmps172
 go_wp2_with fail
 go_ret
 exact⟨rfl,by go_grown⟩
theorem Iw(v:Value) (l:List Int) (w:World) (hv:aQ w v l) :
  Calls Tryz.prog 125 #[v] w fun e w'=>e=.returned (.bool (constB l))/\Below w.heap.size w w':=by
 obtain⟨pa,ca,rfl,lt1,lt2,ea⟩:=hv.at
 have HC:=aa (fun (W:World) (hb:Below w.heap.size w W) (hB:W.heap[w.heap.size]?=some (.cells #[.slice pa l.length ca] 38))=>iE 172 #[.pointer (some ⟨w.heap.size,0,none⟩)] (enters_of Tryz.func172 (by kernel_rfl) rfl) (.slice pa l.length ca) l (fun i=>decide (l.getD i 0≠l.getD 0 0)) W (hv.up up_int hb) (fun i hi W2 aT=>by
  obtain⟨b0,o0,e0,h0,_⟩:=ea 0 (by omega);rw[Nat.zero_mul,Nat.add_zero]at h0;have:=GV l[i] (l.getD 0 0) w.heap.size ⟨b0,o0,none⟩ l.length ca (by omega) W2 (by rw[ab (af aT hB),e0];rfl) (by rw[az 0 (show 0<l.length by omega)];exact ak (ae hb aT) h0);refine this.mono fun e W' ⟨h1,h2⟩=>⟨?_,h2⟩
  rw[h1,az 0 hi];have hx:(l[i] != l.getD 0 0)=decide (l[i]≠l.getD 0 0):=by rw[Bool.eq_iff_iff];simp
  rw[hx]))
 have Mb:am (constB l=!(anyLt l.length fun i=>decide (l.getD i 0≠l.getD 0 0))):=aa rfl;clear hv ea
 go_enter Tryz.func125,Tryz.ntmps125
 go_wp2_with fail
 refine aO (fun W=>Below w.heap.size w W/\W.heap[w.heap.size]?=some (.cells #[.slice pa l.length ca] 38)) ⟨by go_grown,ap _ _⟩ (fun W0 aX=>?_);obtain⟨aG,bB⟩:=aX;refine(HC.o W0 aG bB).mono ?_;rintro e w1 ⟨rfl,aK⟩;clear bB HC;generalize (anyLt l.length fun i=>decide (l.getD i 0≠l.getD 0 0))=b at Mb
 go_wp2_with fail
 go_ret
 exact⟨aR (by rw[Mb.o]),ae aG aK⟩
def vj(e:Int) (a:Bool):Value:=.tuple #[.bool (decide (e=0)&&a),.int .i64 e]
theorem GW(t:Tk) (vc:Value) (w:World) (hv:bM w vc t.cases) :
  Calls Tryz.prog 76 #[.agg #[.int .i64 t.n,.int .i64 t.ins,.int .i64 t.outs,vc]] w fun e w'=>e=.returned (vj (taskE t) (agreeB t))/\Below w.heap.size w w':=by
 have HT:=aa (fun W (hb:Below w.heap.size w W)=>qR t vc W (hv.up up_case hb));obtain⟨te,hte⟩:∃ te,taskE t=te:=⟨_,rfl⟩;rw[hte]at HT ⊢;clear hte;obtain⟨pc,cc,rfl,l1,m1,e1⟩:=hv.at;clear hv;have E:=aa e1;clear e1
 have fk:am (∀ k j,k<t.cases.length->j<(t.cases.getD k default).out.length->constB ((t.cases.getD k default).out.getD j [])=false->agreeB t=false):=aa fun k j hk hj h=>by
  cases ha:agreeB t with
  | false=>rfl
  | true=>rw[(nf t).1 ha k hk j hj]at h;cases h
 have ju:am ((∀ k,k<t.cases.length->∀ j,j<(t.cases.getD k default).out.length->constB ((t.cases.getD k default).out.getD j [])=true)->agreeB t=true):=aa fun h=>(nf t).2 h
 generalize agreeB t=ag at fk ju
 go_enter Tryz.func76,Tryz.ntmps76
 go_wp2_with fail
 refine aO (fun W=>Below w.heap.size w W/\W.heap[w.heap.size]?=some (.cells #[.int .i64 t.n,.int .i64 t.ins,.int .i64 t.outs,.slice pc t.cases.length cc] 24)) ⟨by go_grown,ap _ _⟩ (fun W0 aX=>?_);obtain⟨aG,bB⟩:=aX;refine(HT.o W0 aG).mono ?_;rintro e w1 ⟨rfl,aK⟩;have gw:=ae aG aK;have t1:=ab (af aK bB);clear bB HT;by_cases hz:te=0
 case neg=>
  have LH:(te != 0)=true:=by simpa using hz
  have hd:decide (te=0)=false:=decide_eq_false hz
  go_wp2_with fail
  go_ret2
  exact⟨by unfold vj;rw[hd];simp,gw⟩
 subst hz;have bI:=aa gw
 go_wp2_with fail
 clear t1
 go_loopw [17] (fun i wr=>Below w1.heap.size w1 wr/\∃ k:Nat,k<=t.cases.length/\i=.int .i64 k/\∀ q,q<k->∀ j,j<(t.cases.getD q default).out.length->constB ((t.cases.getD q default).out.getD j [])=true) (fun i _=>t.cases.length - (intOf i).toNat)
 ·exact⟨Below.refl _ _,0,by omega,rfl,fun q hq=>by omega⟩
 ·
  obtain⟨aA,k,hk,rfl,aW⟩:=hrel;have H:=aa aW;clear aW;have dF:=ae bI.o aA;have dz:=aa dF;by_cases aC:k<t.cases.length
  ·obtain⟨b1,o1,rfl,⟨x0,cx0,dk⟩,⟨x1,cx1,dm⟩,⟨x2,cx2,dM⟩⟩:=E.o k aC;have d0:=ak dF cx0;have d1:=ak dF cx1;have d2:=ak dF cx2;have HG:=aa (az default aC);have kS:=aa (dm.up up_ints dF);obtain⟨p0,q0,rfl,_⟩:=dk;obtain⟨p1,q1,rfl,xg,Tp,ex⟩:=dm.at;obtain⟨p2,q2,rfl,_⟩:=dM;have EX:=aa ex;have nr:=aa (fun j=>fk.o k j aC);rw[HG.o]at nr;clear cx0 cx1 cx2 dm ex;generalize t.cases[k]=c at d0 d1 d2 kS EX HG nr xg Tp;have A7:=aa aA;clear aA dF
   go_wp2_with fail
   clear d0 d1 d2;obtain⟨wrA,lg⟩:∃ x,x=wr:=⟨_,rfl⟩;subst lg;refine bC (fun W=>Below wrA.heap.size wrA W) (by go_grown) (fun W1 aT=>?_);have cf:=aa aT;clear aT
   go_loopw [24] (fun i wr=>Below wrA.heap.size wrA wr/\∃ j:Nat,j<=c.out.length/\i=.int .i64 j/\∀ q,q<j->constB (c.out.getD q [])=true) (fun i _=>c.out.length - (intOf i).toNat)
   ·exact⟨cf.o,0,by omega,rfl,fun q hq=>by omega⟩
   ·
    obtain⟨aA,j,hj,rfl,aW⟩:=hrel;have H2:=aa aW;clear aW;have aV:=aa aA;have bP:=aa (ae dz.o aA);by_cases fL:j<c.out.length
    ·obtain⟨b3,o3,rfl,vx,cvx,F7⟩:=EX.o j fL;have dv:=ak bP.o cvx;have DA:=aa (F7.up up_int bP.o);have Bt:=aa (az [] fL);rw[Nat.mul_one]at dv;clear cvx F7 aA
     go_wp2_with fail
     refine(Iw vx _ wr DA.o).mono ?_;rintro e w4 ⟨rfl,bS⟩;have eE:=aa bS;clear dv bS;cases hc:constB c.out[j] with
     | true=>
      have HC:am (constB (c.out.getD j [])=true):=aa (by rw[Bt.o];exact hc);clear hc
      go_wp2_with fail
      go_roundw
      ·exact⟨ae aV.o eE.o,j+1,by omega,by go_num,aY H2.o HC.o⟩
      ·simp[intOf];omega
     | false=>
      have HC:am (ag=false):=aa (nr.o j fL (by rw[Bt.o];exact hc));clear hc
      go_wp2_with fail
      go_ret2
      exact⟨by rw[HC.o];unfold vj;simp,ae bP.o eE.o⟩
    ·have m5:am (∀ q,q<c.out.length->constB (c.out.getD q [])=true):=aa fun q hq=>H2.o q (by omega)
     clear aA
     go_wp2_with fail
     go_roundw
     ·exact⟨ae A7.o aV.o,k+1,by omega,by go_num,aY H.o (by rw[HG.o];exact m5.o)⟩
     ·simp[intOf];omega
  ·have HR:am (ag=true):=aa (ju.o fun q hq=>H.o q (by omega));clear aA dF
   go_wp2_with fail
   go_ret2
   exact⟨by rw[HR.o];unfold vj;simp,dz.o⟩
end Go.Proofs.YtmeaoneaephjeaaGreatDoor
namespace Go.Proofs.YtmeaoneaephjeaaGreatDoor
open Go.RowKit Go Go.Shelf
theorem lP(g:Nat):∀ (vs:List Value) (o:Nat) (w:World),(∀ k,k≠g->(w.setCells g o vs).heap[k]?=w.heap[k]?)/\(w.setCells g o vs).os=w.os/\(w.setCells g o vs).tape=w.tape/\(w.setCells g o vs).output=w.output/\(w.setCells g o vs).heap.size=w.heap.size
 | [],o,w=>⟨fun _ _=>rfl,rfl,rfl,rfl,rfl⟩
 | v :: r,o,w=>by
  obtain⟨h1,h2,h3,h4,h5⟩:=lP g r (o+1) (w.setCell ⟨g,o,none⟩ v);exact⟨fun k hk=>(h1 k hk).trans (Below.heap_setCell w ⟨g,o,none⟩ v k hk),h2,h3,h4,h5.trans (by simp)⟩
theorem mE(g:Nat) (e:TypeId) (fz:Nat × Nat):∀ (vs:List Value) (o:Nat) (w:World) (cur:Array Value),w.heap[g]?=some (.cells cur e fz)->o+vs.length<=cur.size →
  ∃ cur',(w.setCells g o vs).heap[g]?=some (.cells cur' e fz)/\cur'.size=cur.size/\cur'.toList.take (o+vs.length)=cur.toList.take o++vs
 | [],o,w,cur,hg,_=>⟨cur,hg,rfl,by simp⟩
 | v :: r,o,w,cur,hg,hl=>by
  simp only[List.length_cons]at hl;obtain⟨cur',h1,h2,h3⟩:=mE g e fz r (o+1) (w.setCell ⟨g,o,none⟩ v) (cur.setIfInBounds o v) (aI hg o v) (by simp;omega);refine⟨cur',h1,by simpa using h2,?_⟩;rw[show o+(v :: r).length=o+1+r.length by simp;omega,h3,Array.toList_setIfInBounds,List.take_succ_eq_append_getElem (by simp;omega),List.take_set_of_le (by omega),List.getElem_set_self];simp
def aJ(w:World) (base:Nat) (e:TypeId) (size:Nat) (v:Value) (n:Nat) (xs:List Value):Prop:=
 xs.length=n * size/\((v=.slice none 0 0/\n=0)\/∃ g cap cur fz,v=.slice (some ⟨g,0,none⟩) n cap/\base<=g/\w.heap[g]?=some (.cells cur e fz)/\(∀ i,i<cur.size->¬ (fz.1<=i/\i<fz.2))/\n<=cap/\cap<=maxLen/\cur.size=cap * size/\cur.toList.take (n * size)=xs)
theorem aJ.nil(w:World) (base:Nat) (e:TypeId) (size:Nat):aJ w base e size (.slice none 0 0) 0 []:=⟨by simp,.inl ⟨rfl,rfl⟩⟩
theorem aJ.of_owns{w:World} {base:Nat} {e:TypeId} {size:Nat} {v:Value} {n:Nat} {xs:List Value} (h:w.ownsRow base e size v n xs):aJ w base e size v n xs:=by
 refine⟨h.1,?_⟩;rcases h.2 with hn|⟨g,cap,cur,hv,hb,hg,rest⟩
 ·exact .inl hn
 ·exact .inr ⟨g,cap,cur,(0,0),hv,hb,hg,fun i _ h=>by have:=h.2;simp at this,rest⟩
theorem aJ.slice{w:World} {base size:Nat} {e:TypeId} {v:Value} {n:Nat} {xs:List Value} (h:aJ w base e size v n xs):∃ a c,v=.slice a n c:=by
 rcases h.2 with ⟨rfl,rfl⟩|⟨g,cap,cur,fz,rfl,_⟩
 ·exact⟨_,_,rfl⟩
 ·exact⟨_,_,rfl⟩
theorem aJ.ck{w w':World} {base size:Nat} {e:TypeId} {v:Value} {n:Nat} {xs:List Value} (h:aJ w base e size v n xs) (hb:CK w w'):aJ w' base e size v n xs:=by
 obtain⟨hl,h⟩:=h;refine⟨hl,?_⟩;rcases h with h|⟨g,cap,cur,fz,h1,h2,h3,h4⟩
 ·exact .inl h
 ·exact .inr ⟨g,cap,cur,fz,h1,h2,hb _ _ h3 rfl,h4⟩
theorem aJ.up{w w':World} {base size:Nat} {e:TypeId} {v:Value} {n:Nat} {xs:List Value} (h:aJ w base e size v n xs) (hb:Below w.heap.size w w'):aJ w' base e size v n xs:=h.ck (.of_below hb)
theorem aJ.lt{w:World} {base size:Nat} {e:TypeId} {v:Value} {n:Nat} {xs:List Value} (h:aJ w base e size v n xs):∀ k,v.ownBlock=some k->base<=k/\k<w.heap.size:=by
 intro k hk;rcases h.2 with ⟨rfl,_⟩|⟨g,cap,cur,fz,rfl,hb,hg,_⟩
 ·simp[Value.ownBlock]at hk
 ·simp[Value.ownBlock]at hk;subst hk;exact⟨hb,aD hg⟩
theorem aJ.ne{w:World} {base sz:Nat} {e e':TypeId} {v:Value} {n:Nat} {xs:List Value} {B:Nat} {cs:Array Value} {f:Nat × Nat} (h:aJ w base e sz v n xs) (hB:w.heap[B]?=some (.cells cs e' f)) (bK:e≠e'):∀ g,v.ownBlock=some g->g≠B:=by
 intro g hg hgB;rcases h.2 with ⟨rfl,_⟩|⟨g',cap,cur,fz,rfl,_,h3,_⟩
 ·cases hg
 ·have:g'=g:=by simpa[Value.ownBlock] using hg
  rw[this,hgB,hB]at h3;cases h3;exact bK rfl
theorem aJ.isCells{w:World} {base sz:Nat} {e:TypeId} {v:Value} {n:Nat} {xs:List Value} {B:Nat} {o:Obj} (h:aJ w base e sz v n xs) (hB:w.heap[B]?=some o) (ho:o.isCells=false):some B≠v.ownBlock:=by
 intro hg;rcases h.2 with ⟨rfl,_⟩|⟨g',cap,cur,fz,rfl,_,h3,_⟩
 ·cases hg
 ·have:B=g':=by simpa[Value.ownBlock] using hg
  rw[<-this,hB]at h3;cases h3;cases ho
theorem aJ.put{w:World} {base sz:Nat} {e:TypeId} {v:Value} {n:Nat} {xs:List Value} {B:Nat} (h:aJ w base e sz v n xs) (bK:∀ g,v.ownBlock=some g->g≠B) (o:Nat) (x:Value):aJ (w.setCell ⟨B,o,none⟩ x) base e sz v n xs:=by
 obtain⟨hl,h⟩:=h;refine⟨hl,?_⟩;rcases h with h|⟨g,cap,cur,fz,rfl,h2,h3,h4⟩
 ·exact .inl h
 ·exact .inr ⟨g,cap,cur,fz,rfl,h2,aM h3 (bK g rfl) _ _,h4⟩
theorem aJ.base{w:World} {base base':Nat} {e:TypeId} {sz:Nat} {v:Value} {n:Nat} {xs:List Value} (h:aJ w base e sz v n xs) (hb:base'<=base):aJ w base' e sz v n xs:=by
 obtain⟨hl,h⟩:=h;refine⟨hl,?_⟩;rcases h with h|⟨g,cap,cur,fz,h1,h2,h3⟩
 ·exact .inl h
 ·exact .inr ⟨g,cap,cur,fz,h1,Nat.le_trans hb h2,h3⟩
theorem aJ.cell{w:World} {base size:Nat} {e:TypeId} {v:Value} {n:Nat} {xs:List Value} (h:aJ w base e size v n xs) (j:Nat) (u:Value) (hu:xs[j]?=some u):∃ g c,v=.slice (some ⟨g,0,none⟩) n c/\w.cell? ⟨g,j,none⟩=some u:=by
 rcases h.2 with ⟨rfl,hn⟩|⟨g,cap,cur,fz,rfl,_,hg,_,_,_,_,ht⟩
 ·subst hn;have:xs=[]:=List.eq_nil_of_length_eq_zero (by simpa using h.1);rw[this]at hu;simp at hu
 ·refine⟨g,cap,rfl,?_⟩;rw[ab hg];rw[<-ht,List.getElem?_take]at hu;split at hu
  ·simpa using hu
  ·cases hu
section
variable {P : Program} (w : World)
theorem rN(base:Nat) (t ty e:TypeId) (i:TypeInfo) (z:Value) (size bytes:Nat) (ht:P.underlying t=some (.slice e)) (hi:P.info? e=some i) (hz:i.zero=some z)
  (fg:i.size=size) (gT:i.bytes=bytes) (rX:z.cells.size=size) (eT:0<size)
  (v:Value) (n:Nat) (xs:List Value) (bd:aJ w base e size v n xs)
  (a:Addr) (m c:Nat) (news:List Value) (hl:news.length=m * size) (bQ:∀ j u,news[j]?=some u->w.cell? (a.add j)=some u) (h1:∀ u∈news,u.oneCell'=true)
  (pG:n+m<=maxLen) (gK:(n+m) * bytes<=140737488355328) (mI:base<=w.heap.size) :
  ∃ v' w',(Builtin.append_ #[t,t] ty #[v,.slice (some a) m c]).run P w=.ok v' w'/\aJ w' base e size v' (n+m) (xs++news)/\w.grownBy w' v.ownBlock/\(v'.ownBlock=v.ownBlock\/v'.ownBlock=some w.heap.size):=by
 rcases bd.2 with ⟨rfl,rfl⟩|⟨g,cap,cur,fz,rfl,Dj,hg,nq,ig,qO,jQ,NO⟩
 ·have hx:xs=[]:=List.eq_nil_of_length_eq_zero (by simpa using bd.1);subst hx;by_cases hm:m=0
  ·obtain⟨v',w',q1,q2,q3,q4⟩:=run_append_own (P:=P) w base t ty e i z size bytes ht hi hz fg gT rX eT (.slice none 0 0) 0 [] (World.ownsRow_nil w base e size) a m c news hl bQ h1 pG gK mI;have:=q4.2 ⟨rfl,hm⟩;exact⟨v',w',q1,.of_owns q2,q3,.inl (by rw[this])⟩
  ·obtain⟨v',w',q1,q2,q3,q4⟩:=run_append_own (P:=P) w w.heap.size t ty e i z size bytes ht hi hz fg gT rX eT (.slice none 0 0) 0 [] (World.ownsRow_nil w _ e size) a m c news hl bQ h1 pG gK (Nat.le_refl _);subst fg gT;have hr:=run_append_nil (P:=P) w t ty e i z ht hi hz a m c news hl bQ (by omega) (by simp only[maxLen]at pG;omega) (by have hb:=gK;simp only[Nat.zero_add]at hb;omega);have e1:=hr.symm.trans q1;injection e1 with e1 e2
   subst e1 e2;exact⟨_,_,hr,(aJ.of_owns q2).base mI,q3,.inr rfl⟩
 ·subst fg;have cC:(xs++news).length=(n+m) * i.size:=by rw[List.length_append,bd.1,hl,Nat.add_mul]
  by_cases mJ:n+m<=cap
  ·have Kf:n * i.size+news.length<=cur.size:=by rw[hl,jQ,<-Nat.add_mul];exact Nat.mul_le_mul_right _ mJ
   have hr:=run_append_room_cells (P:=P) w t ty e i ht hi g 0 n cap a m c news hl bQ h1 mJ (fun j hj=>by rw[Nat.zero_add,ab hg];simp;omega)
    (fun j hj=>by
     simp only[World.frozen?,hg,Nat.zero_add];have:=nq (n * i.size+j) (by omega)
     simpa using this)
   rw[Nat.zero_add]at hr;obtain⟨cur',g1,g2,g3⟩:=mE g e fz news (n * i.size) w cur hg Kf;obtain⟨o1,o2,o3,o4,o5⟩:=lP g news (n * i.size) w;refine⟨_,_,hr,⟨cC,.inr ⟨g,cap,cur',fz,rfl,Dj,g1,fun k hk=>nq k (by omega),mJ,qO,by omega,?_⟩⟩,⟨o2,o3,o4,by omega,fun k _ hk=>o1 k (fun e=>hk (by rw[e];rfl))⟩,.inl rfl⟩;rw[Nat.add_mul,<-hl,g3,NO]
  ·subst gT
   have Dd:∀ j u,xs[j]?=some u->w.cell? ((⟨g,0,none⟩:Addr).add j)=some u:=fun j u hu=>by
    obtain⟨g',c',e1,hc⟩:=bd.cell j u hu;have:g'=g:=by simp at e1;exact e1.1.symm
    subst this;rw[<-hc];congr 1;unfold Addr.add;split<;>simp_all
   have hr:=run_append_grow (P:=P) w t ty e i z ht hi hz ⟨g,0,none⟩ n cap xs bd.1 Dd a m c news hl bQ (by omega) (by simp only[maxLen]at pG;omega) (growslice_fits (by omega) gK);obtain⟨v',w',q1,q2,q3⟩:=run_append_arg_grows (P:=P) w t ty e i z i.size i.bytes ht hi hz rfl rfl rX eT ⟨g,0,none⟩ n cap xs bd.1 Dd a m c news hl bQ (by omega) pG gK;have e1:=hr.symm.trans q1;injection e1 with e1 e2
   subst e1 e2;exact⟨_,_,hr,(aJ.of_owns q2).base mI,⟨q3.os,q3.tape,q3.output,q3.size,fun k hk _=>q3.block k hk (by simp)⟩,.inr rfl⟩
theorem bg{ops:Array Oper} {rest:List Oper} {o:Oper} {a:Act} {Q:Exit->Act->World->Prop} (lL:o.guard=none) (s x:Operand) (t:TypeId)
  (ho:o.op=.call { callee:=.builtin .append,args:=#[s,x],argTypes:=#[t,t] })
  (base:Nat) (e:TypeId) (i:TypeInfo) (z:Value) (size bytes:Nat) (ht:P.underlying t=some (.slice e)) (hi:P.info? e=some i) (hz:i.zero=some z)
  (fg:i.size=size) (gT:i.bytes=bytes) (rX:z.cells.size=size) (eT:0<size)
  (v:Value) (n:Nat) (xs:List Value) (hs:a.eval s=v) (bd:aJ w base e size v n xs)
  (ad:Addr) (m c:Nat) (news:List Value) (hx:a.eval x=.slice (some ad) m c) (hl:news.length=m * size) (bQ:∀ j u,news[j]?=some u->w.cell? (ad.add j)=some u) (h1:∀ u∈news,u.oneCell'=true)
  (pG:n+m<=maxLen) (gK:(n+m) * bytes<=140737488355328) (mI:base<=w.heap.size)
  (h:∀ v' w',aJ w' base e size v' (n+m) (xs++news)->w.grownBy w' v.ownBlock->(v'.ownBlock=v.ownBlock\/v'.ownBlock=some w.heap.size)->wpList P ops Q rest (a.put o.dst v') w'):wpList P ops Q (o :: rest) a w:=by
 refine wpList_plain lL fun _ hK=>?_
 obtain⟨v',w',hr,h2,h3,h4⟩:=rN (P:=P) w base t o.type e i z size bytes ht hi hz fg gT rX eT v n xs bd ad m c news hl bQ h1 pG gK mI;unfold Oper.wp execOp;simp only[ho,resolve,invoke,builtin,Sem.run_bind,Sem.run_pure,Result.andThen_ok,List.map_toArray,List.map_cons,List.map_nil,hs,hx,hr];exact hK _ _ (h v' w' h2 h3 h4)
theorem qZ{F:Fence} {d:Nat} {ops:Array Oper} {rest:List Oper} {o:Oper} {a:Act} {Q:Exit->Act->World->Prop} (lL:o.guard=none) (s x:Operand) (t:TypeId)
  (ho:o.op=.call { callee:=.builtin .append,args:=#[s,x],argTypes:=#[t,t] })
  (base:Nat) (e:TypeId) (i:TypeInfo) (z:Value) (size bytes:Nat) (ht:P.underlying t=some (.slice e)) (hi:P.info? e=some i) (hz:i.zero=some z)
  (fg:i.size=size) (gT:i.bytes=bytes) (rX:z.cells.size=size) (eT:0<size)
  (v:Value) (n:Nat) (xs:List Value) (hs:a.eval s=v) (bd:aJ w base e size v n xs)
  (ad:Addr) (m c:Nat) (news:List Value) (hx:a.eval x=.slice (some ad) m c) (hl:news.length=m * size) (bQ:∀ j u,news[j]?=some u->w.cell? (ad.add j)=some u) (h1:∀ u∈news,u.oneCell'=true)
  (pG:n+m<=maxLen) (gK:(n+m) * bytes<=140737488355328) (mI:base<=w.heap.size)
  (h:∀ v' w',aJ w' base e size v' (n+m) (xs++news)->w.grownBy w' v.ownBlock->(v'.ownBlock=v.ownBlock\/v'.ownBlock=some w.heap.size)->wpListIn F d P ops Q rest (a.put o.dst v') w'):wpListIn F d P ops Q (o :: rest) a w:=by
 refine wpListIn_plain lL fun K hK'=>?_
 obtain⟨v',w',Tr,r1,r2,r3⟩:=rN (P:=P) w base t o.type e i z size bytes ht hi hz fg gT rX eT v n xs bd ad m c news hl bQ h1 pG gK mI;unfold Oper.wpIn;refine⟨?_,?_⟩
 ·simp[Oper.about,ho,resolve,Target.leads,Sem.run_pure]
 ·rw[Oper.semAt_plain F _ _ (by rw[ho];intro c lj;cases lj)];simp[execOp,ho,resolve,invoke,builtin,hs,hx,Tr,Result.andThen];exact hK' _ _ (h v' w' r1 r2 r3)
end
theorem aJ.apart{w w':World} {base base' k k':Nat} {e e':TypeId} {u v:Value} {n m:Nat} {xs ys:List Value} (h:aJ w base e k u n xs) (hv:aJ w base' e' k' v m ys) (bK:e≠e') (hg:w.grownBy w' v.ownBlock):aJ w' base e k u n xs:=by
 obtain⟨hl,h⟩:=h;refine⟨hl,?_⟩;rcases h with h|⟨g,cap,cur,fz,h1,h2,h3,h4⟩
 ·exact .inl h
 ·refine .inr ⟨g,cap,cur,fz,h1,h2,(hg.block g (aD h3) (fun e1=>?_)).trans h3,h4⟩;exact hv.ne h3 (Ne.symm bK) g e1.symm rfl
def cj{α:Type} (to ti:TypeId) (k:Nat) (flat:List α->List Value) (w:World) (base:Nat) (v:Value) (l:List (List α)):Prop:=
 ∃ xs:List Value,aJ w base to 1 v l.length xs/\∀ i (hi:i<l.length),∃ x,xs[i]?=some x/\aJ w base ti k x l[i].length (flat l[i])
section
variable {α : Type} {to ti : TypeId} {k : Nat} {flat : List α → List Value} {w w' : World} {base : Nat} {v : Value} {l : List (List α)}
theorem cj.nil(w:World) (base:Nat):cj to ti k flat w base (.slice none 0 0) []:=⟨[],aJ.nil _ _ _ _,fun i hi=>by simp at hi⟩
theorem cj.ck(h:cj to ti k flat w base v l) (hb:CK w w'):cj to ti k flat w' base v l:=by
 obtain⟨xs,h1,h2⟩:=h;exact⟨xs,h1.ck hb,fun i hi=>by obtain⟨x,q1,q2⟩:=h2 i hi;exact⟨x,q1,q2.ck hb⟩⟩
theorem cj.up(h:cj to ti k flat w base v l) (hb:Below w.heap.size w w'):cj to ti k flat w' base v l:=h.ck (.of_below hb)
theorem cj.snoc{xs:List Value} (h1:aJ w base to 1 v l.length xs) (h2:∀ i (hi:i<l.length),∃ x,xs[i]?=some x/\aJ w base ti k x l[i].length (flat l[i])) (bK:ti≠to) {x:Value} {a:List α} (hx:aJ w base ti k x a.length (flat a))
  (hg:w.grownBy w' v.ownBlock) {v':Value} (ho:aJ w' base to 1 v' (l.length+1) (xs++[x])):cj to ti k flat w' base v' (l++[a]):=by
 have hl:xs.length=l.length:=by have:=h1.1;omega
 refine⟨xs++[x],by simpa using ho,fun i hi=>?_⟩;simp at hi;by_cases aC:i<l.length
 ·obtain⟨y,q1,q2⟩:=h2 i aC;refine⟨y,by rw[List.getElem?_append_left (by omega)];exact q1,?_⟩;rw[List.getElem_append_left aC];exact q2.apart h1 bK hg
 ·obtain rfl:i=l.length:=by omega
  refine⟨x,by rw[<-hl,List.getElem?_append_right (Nat.le_refl _)];simp,?_⟩;have e:(l++[a])[l.length]'(by simp)=a:=by simp
  rw[e];exact hx.apart h1 bK hg
theorem cj.sl{R:World->Nat->Nat->α->Prop} (h:cj to ti k flat w base v l) (hr:∀ (x:Value) (a:List α),a∈l->aJ w base ti k x a.length (flat a)->fj k R w x a) (hn:l.length<=17592186044416):fj 1 (mK k R) w v l:=by
 obtain⟨xs,h1,h2⟩:=h;rcases h1.2 with ⟨rfl,h0⟩|⟨g,cap,cur,fz,rfl,_,hg,_,ig,qO,_,ht⟩
 ·have:l=[]:=List.eq_nil_of_length_eq_zero h0;subst this;exact⟨none,0,rfl,⟨by simp,by omega,fun _=>rfl⟩,by simp,fun i x hx=>by simp at hx⟩
 ·refine⟨some ⟨g,0,none⟩,cap,rfl,⟨ig,by unfold maxLen at qO;omega,fun e=>by cases e⟩,hn,fun i a ha=>⟨g,0,rfl,?_⟩⟩;obtain⟨hi,rfl⟩:=List.getElem?_eq_some_iff.1 ha;obtain⟨x,q1,q2⟩:=h2 i hi;refine⟨x,?_,hr x _ (List.getElem_mem hi) q2⟩;rw[Nat.zero_add,Nat.mul_one,ab hg];rw[<-ht,List.getElem?_take]at q1;split at q1
  ·simpa using q1
  ·cases q1
end
theorem Pf(a:Adv) (ps:Option Addr) (cs:Nat) (v:Value) (l:List Mv) (w:World) (hv:pI w v l) :
  Calls Tryz.prog 217 #[.agg #[.int .i64 a.n,.slice ps a.states.length cs],v] w fun e w'=>e=.returned (.int .i64 (stateE a l))/\Below w.heap.size w w':=by
 obtain⟨pa,ca,rfl,l1,m1,e1⟩:=hv.at;clear hv;have E:=aa e1;clear e1;by_cases hz:l.length=0
 ·have bX:((l.length:Int) == 0)=true:=beq_iff_eq.2 (by omega);have HV:am (stateE a l=19):=by(have h:stateE a l=19:=by(unfold stateE;rw[if_pos hz]));exact h
  clear hz
  go_enter Tryz.func217,Tryz.ntmps217
  go_wp2_with fail
  go_ret
  exact⟨aE HV.o.symm,by go_grown⟩
 have bX:((l.length:Int) == 0)=false:=beq_eq_false_iff_ne.2 (by omega);have HV:am (stateE a l=bm l.length (dW a l)):=by(have h:stateE a l=bm l.length (dW a l):=by(unfold stateE;rw[if_neg hz]));exact h
 clear hz
 go_enter Tryz.func217,Tryz.ntmps217
 go_wp2_with fail
 refine bC (fun W=>Below w.heap.size w W/\W.heap[w.heap.size]?=some (.cells #[.int .i64 a.n,.slice ps a.states.length cs] 27))
  ⟨by go_grown,ap _ _⟩ (fun W0 aX=>?_)
 obtain⟨aG,hT⟩:=aX;have HT:=aa hT;clear hT bX
 go_loopw [13] (fun i wr=>Below W0.heap.size W0 wr/\∃ k:Nat,k<=l.length/\i=.int .i64 k/\∀ j,j<k->dW a l j=0) (fun i _=>l.length - (intOf i).toNat)
 ·exact⟨Below.refl _ _,0,by omega,rfl,by simp⟩
 ·
  obtain⟨aA,k,hk,rfl,aW⟩:=hrel;have H:=aa aW;clear aW;have dF:=ae aG aA;by_cases aC:k<l.length
  ·obtain⟨b1,o1,rfl,⟨⟨c0,_⟩,⟨c1,_⟩,⟨c2,_⟩,⟨c3,_⟩,⟨c4,_⟩,⟨c5,_⟩,⟨c6,_⟩⟩,c7,_⟩:=E.o k aC;have d0:=ak dF c0;have d1:=ak dF c1;have d2:=ak dF c2;have d3:=ak dF c3;have d4:=ak dF c4;have d5:=ak dF c5;have d6:=ak dF c6;have d7:=ak dF c7;clear c0 c1 c2 c3 c4 c5 c6 c7
   have HO:am (dW a l k=if roundE l[k].r≠0 then roundE l[k].r else if l[k].r.g.n≠a.n then 22 else if 0<k/\0<=roundC (l.getD (k - 1) default).r l[k].r then 14 else if l[k].to<0\/(a.states.length:Int)<=l[k].to then 2 else 0):=by
    have h:dW a l k=if roundE l[k].r≠0 then roundE l[k].r else if l[k].r.g.n≠a.n then 22 else if 0<k/\0<=roundC (l.getD (k - 1) default).r l[k].r then 14 else if l[k].to<0\/(a.states.length:Int)<=l[k].to then 2 else 0:=by unfold dW;rw[az default aC]
    exact h
   generalize l[k]=m at d0 d1 d2 d3 d4 d5 d6 d7 HO
   go_wp2_with fail
   refine aO (fun W=>Below wr.heap.size wr W/\W.heap[wr.heap.size]?=some (.cells #[.int .i64 m.r.g.n,.int .i64 m.r.g.h0,.int .i64 m.r.g.h1,.int .i64 m.r.g.h2,.int .i64 m.r.g.h3,.int .i64 m.r.g.h4,.int .i64 m.r.f,.int .i64 m.to] 143)) ⟨by go_grown,ap _ _⟩ (fun V hV=>?_);obtain⟨lp,hC⟩:=hV;have HC:=aa hC;clear hC;have UQ:=ae dF lp;refine(Ef m.r _).mono ?_;rintro e w1 ⟨rfl,aK⟩;clear d0 d1 d2 d3 d4 d5 d6 d7;have jk:=ae UQ aK;have zT:=ae aA (ae lp aK);have s1:=ab (af zT HT.o);have s2:=ab (af aK HC.o);generalize roundE m.r=er at HO;by_cases Gd:er=0
   case neg=>
    have her':(er != 0)=true:=by simpa using Gd
    go_wp2_with fail
    go_ret
    exact⟨aE (by rw[HV.o,<-bT k er aC H.o (by rw[HO.o,if_pos Gd]) Gd]),jk⟩
   subst Gd;by_cases v8:m.r.g.n=a.n
   case neg=>
    have Jh:(m.r.g.n != a.n)=true:=by simpa using v8
    go_wp2_with fail
    go_ret
    exact⟨aE (by rw[HV.o,<-bT k 22 aC H.o (by rw[HO.o,if_neg (by simp),if_pos v8]) (by decide)]),jk⟩
   have Jh:(m.r.g.n != a.n)=false:=by simpa using v8
   have gh:am (dW a l k=if 0<k/\0<=roundC (l.getD (k - 1) default).r m.r then 14 else if m.to<0\/(a.states.length:Int)<=m.to then 2 else 0):=by
    have h:dW a l k=if 0<k/\0<=roundC (l.getD (k - 1) default).r m.r then 14 else if m.to<0\/(a.states.length:Int)<=m.to then 2 else 0:=by rw[HO.o,if_neg (by simp),if_neg (by simpa using v8)]
    exact h
   clear HO v8
   go_wp2_with fail
   clear Jh;by_cases ff:k=0
   ·have eO:am (dW a l k=if m.to<0\/(a.states.length:Int)<=m.to then 2 else 0):=by(have h:dW a l k=if m.to<0\/(a.states.length:Int)<=m.to then 2 else 0:=by(rw[gh.o,if_neg (by omega)]));exact h
    have hd:decide ((0:Int)<(k:Int))=false:=by simp;omega
    have fw:decide (0<k)=false:=by simp;omega
    clear gh ff s1 s2;refine aB (by kernel_rfl) (by kernel_rfl) ?_
    repeat (go_big_quiet_step (fail))
    refine wpQuiet_nil ?_;intro _ eJ;obtain⟨xq,dj⟩:=eJ;subst dj;clear hd fw;have r1:=ab (af (ae zT xq.ext) HT.o);have r2:=ab (af (ae aK xq.ext) HC.o);have ul:=ae jk xq.ext
    go_wp2_with fail
    all_goals first
     | (go_ret
        refine⟨aE ?_,ul⟩
        rw[HV.o]
        go_light
        refine bT k _ aC H.o ?_ (by decide)
        rw[eO.o]
        grind)
     | (go_roundw
        ·
         refine⟨ae (ae zT xq.ext) (Below.refl _ _),k+1,by omega,by go_num,aY H.o ?_⟩
         go_light
         rw[eO.o]
         grind
        ·simp[intOf];omega)
   ·obtain⟨j,hj⟩:∃ j,k=j+1:=⟨k - 1,by omega⟩;have fL:j<l.length:=by omega
    have HJ:=aa hj;obtain⟨b2,o2,e2,⟨⟨c0,_⟩,⟨c1,_⟩,⟨c2,_⟩,⟨c3,_⟩,⟨c4,_⟩,⟨c5,_⟩,⟨c6,_⟩⟩,_⟩:=E.o j fL;obtain⟨rfl,rfl⟩:b1=b2/\o1=o2:=by simpa using e2
    clear e2;have hd:decide ((0:Int)<(k:Int))=true:=by simp;omega
    have fw:0<k:=by omega
    have eO:am (dW a l k=if 0<=roundC l[j].r m.r then 14 else if m.to<0\/(a.states.length:Int)<=m.to then 2 else 0):=by
     have h:dW a l k=if 0<=roundC l[j].r m.r then 14 else if m.to<0\/(a.states.length:Int)<=m.to then 2 else 0:=by
      rw[gh.o];have e:k - 1=j:=by omega
      rw[e,az default fL]
      grind
     exact h
    clear gh ff hj s1 s2;have jn:IntKind.i64.wrap ((k:Int) - 1)=(j:Int):=by rw[HJ.o];rw[IntWalk.i64_in _ (by omega)];omega
    generalize l[j]=m2 at c0 c1 c2 c3 c4 c5 c6 eO;have q1:∀ x:ExtW w1,∀ o,x.val.cell? ⟨w.heap.size,o,none⟩=_:=fun x=>ab (af (ae zT x.ext) HT.o)
    have q2:∀ x:ExtW w1,∀ o,x.val.cell? ⟨wr.heap.size,o,none⟩=_:=fun x=>ab (af (ae aK x.ext) HC.o)
    have k0:∀ x:ExtW w1,x.val.cell? _=_:=fun x=>x.cell (ak jk c0)
    have k1:∀ x:ExtW w1,x.val.cell? _=_:=fun x=>x.cell (ak jk c1)
    have k2:∀ x:ExtW w1,x.val.cell? _=_:=fun x=>x.cell (ak jk c2)
    have k3:∀ x:ExtW w1,x.val.cell? _=_:=fun x=>x.cell (ak jk c3)
    have k4:∀ x:ExtW w1,x.val.cell? _=_:=fun x=>x.cell (ak jk c4)
    have k5:∀ x:ExtW w1,x.val.cell? _=_:=fun x=>x.cell (ak jk c5)
    have k6:∀ x:ExtW w1,x.val.cell? _=_:=fun x=>x.cell (ak jk c6)
    clear c0 c1 c2 c3 c4 c5 c6;refine aB (by kernel_rfl) (by kernel_rfl) ?_
    repeat (go_big_quiet_step ((go_at_call 220;exact Calls.ext_of (BL m2.r m.r _))))
    refine wpQuiet_nil ?_;intro _ eJ;obtain⟨xq,dj⟩:=eJ;subst dj;have r1:=q1 xq;have r2:=q2 xq;clear q1 q2 k0 k1 k2 k3 k4 k5 k6 hd fw jn;have ul:=ae jk xq.ext;generalize roundC m2.r m.r=oo at eO
    go_wp2_with fail
    all_goals first
     | (go_ret
        refine⟨aE ?_,ul⟩
        rw[HV.o]
        go_light
        refine bT k _ aC H.o ?_ (by decide)
        rw[eO.o]
        grind)
     | (go_roundw
        ·
         refine⟨ae (ae zT xq.ext) (Below.refl _ _),k+1,by omega,by go_num,aY H.o ?_⟩
         go_light
         rw[eO.o]
         grind
        ·simp[intOf];omega)
  ·go_wp2_with fail
   go_ret
   exact⟨aE (by rw[HV.o,cS];intro j hj;exact H.o j (by omega)),dF⟩
theorem aJ.keepT{w w':World} {base sz:Nat} {e:TypeId} {v:Value} {n:Nat} {xs:List Value} (h:aJ w base e sz v n xs) (hk:∀ g o,v.ownBlock=some g->w.heap[g]?=some o->w'.heap[g]?=some o):aJ w' base e sz v n xs:=by
 obtain⟨hl,h⟩:=h;refine⟨hl,?_⟩;rcases h with h|⟨g,cap,cur,fz,rfl,h2,h3,h4⟩
 ·exact .inl h
 ·exact .inr ⟨g,cap,cur,fz,rfl,h2,hk g _ rfl h3,h4⟩
structure KeepT (ts:List TypeId) (ms:List Nat) (base:Nat) (w w':World):Prop where
 old:Below base w w'
 keep:∀ (k:Nat) (c:Array Value) (t:TypeId) (f:Nat × Nat),w.heap[k]?=some (.cells c t f)->t∉ts->w'.heap[k]?=some (.cells c t f)
 oth:∀ (k:Nat) (o:Obj),w.heap[k]?=some o->o.isCells=false->k∉ms->w'.heap[k]?=some o
section
variable {ts : List TypeId} {ms : List Nat} {base : Nat} {w w' w'' : World}
theorem KeepT.refl(ts:List TypeId) (base:Nat) (w:World):KeepT ts ms base w w:=⟨Below.refl _ _,fun _ _ _ _ h _=>h,fun _ _ h _ _=>h⟩
theorem KeepT.trans(h:KeepT ts ms base w w') (k:KeepT ts ms base w' w''):KeepT ts ms base w w'':=
 ⟨⟨k.old.os.trans h.old.os,k.old.tape.trans h.old.tape,k.old.output.trans h.old.output,Nat.le_trans h.old.size k.old.size,fun j hj=>(k.old.block j hj).trans (h.old.block j hj)⟩,fun j c t f h1 h2=>k.keep j c t f (h.keep j c t f h1 h2) h2,fun j o h1 h2 h3=>k.oth j o (h.oth j o h1 h2 h3) h2 h3⟩
theorem KeepT.of_below(ts:List TypeId) (h:Below w.heap.size w w') (hb:base<=w.heap.size):KeepT ts ms base w w':=
 ⟨⟨h.os,h.tape,h.output,h.size,fun j hj=>h.block j (by omega)⟩,fun _ _ _ _ h1 _=>af h h1,fun _ _ h1 _ _=>af h h1⟩
theorem KeepT.drew(h:KeepT ts ms base w w'):KeepT ts ms base w w'.drew:=⟨h.old.drew,h.keep,h.oth⟩
theorem KeepT.mono{us:List TypeId} {ns:List Nat} (h:KeepT ts ms base w w') (hs:∀ t,t∈ts->t∈us) (hm:∀ t,t∈ms->t∈ns):KeepT us ns base w w':=⟨h.old,fun k c t f h1 h2=>h.keep k c t f h1 (fun e=>h2 (hs t e)),fun k o h1 h2 h3=>h.oth k o h1 h2 (fun e=>h3 (hm k e))⟩
theorem KeepT.own{b k n:Nat} {e:TypeId} {v:Value} {xs:List Value} (h:KeepT ts ms base w w') (ho:aJ w b e k v n xs) (he:e∉ts):aJ w' b e k v n xs:=by
 obtain⟨hl,ho⟩:=ho;refine⟨hl,?_⟩;rcases ho with ho|⟨g,cap,cur,fz,h1,h2,h3,h4⟩
 ·exact .inl ho
 ·exact .inr ⟨g,cap,cur,fz,h1,h2,h.keep _ _ _ _ h3 he,h4⟩
theorem KeepT.fresh{α:Type} {to ti:TypeId} {k:Nat} {flat:List α->List Value} {b:Nat} {v:Value} {l:List (List α)} (h:KeepT ts ms base w w') (hf:cj to ti k flat w b v l) (h1:to∉ts) (h2:ti∉ts):cj to ti k flat w' b v l:=by
 obtain⟨xs,q1,q2⟩:=hf;exact⟨xs,h.own q1 h1,fun i hi=>by obtain⟨x,p1,p2⟩:=q2 i hi;exact⟨x,p1,h.own p2 h2⟩⟩
theorem KeepT.grown{b k n:Nat} {e:TypeId} {v:Value} {xs:List Value} (h:KeepT ts ms base w w') (ho:aJ w' b e k v n xs) (he:e∈ts) (hb:base<=b) (hs:base<=w.heap.size) (hg:w'.grownBy w'' v.ownBlock):KeepT ts ms base w w'':=by
 refine⟨Below.grown h.old hg (Nat.le_trans hs h.old.size) (fun g e=>Nat.le_trans hb (ho.lt g e).1),fun j c t f h1 h2=>?_,fun j o h1 h2 h3=>?_⟩
 ·have h3:=h.keep j c t f h1 h2;exact(hg.block j (aD h3) (fun e'=>ho.ne h3 (fun e=>h2 (e ▸ he)) j e'.symm rfl)).trans h3
 ·have h4:=h.oth j o h1 h2 h3;exact(hg.block j (aD h4) (fun e'=>ho.isCells h4 h2 e')).trans h4
theorem KeepT.set{B o:Nat} {c:Array Value} {t:TypeId} {f:Nat × Nat} (h:KeepT ts ms base w w') (hB:w'.heap[B]?=some (.cells c t f)) (ht:t∈ts) (hb:base<=B) (v:Value):KeepT ts ms base w (w'.setCell ⟨B,o,none⟩ v):=by
 refine⟨h.old.setCell hb v,fun j c' t' f' h1 h2=>?_,fun j o' h1 h2 h3=>aM (h.oth j o' h1 h2 h3) ?_ o v⟩
 ·have h3:=h.keep j c' t' f' h1 h2;refine aM h3 ?_ o v;rintro rfl;rw[hB]at h3;cases h3;exact h2 ht
 ·rintro rfl;have h4:=h.oth _ o' h1 h2 h3;rw[hB]at h4;cases h4;cases h2
theorem KeepT.put{B:Nat} {o o':Obj} (h:KeepT ts ms base w w') (hB:w'.heap[B]?=some o) (ho:o.isCells=false) (hb:base<=B) (hm:B∈ms):KeepT ts ms base w (w'.putObj B o'):=by
 refine⟨eY hb h.old,fun j c' t' f' h1 h2=>?_,fun j o2 h1 h2 h3=>(World.putObj_heap_other (fun e=>h3 (by rw[e];exact hm))).trans (h.oth j o2 h1 h2 h3)⟩;have h3:=h.keep j c' t' f' h1 h2;refine(World.putObj_heap_other ?_).trans h3;rintro rfl;rw[hB]at h3;cases h3;cases ho
end
structure CAppS (w Wr:World) (base:Nat) (ty:TypeId) (sz:Nat) (vd:Value) (p m:Nat) (ds news:List Value) (ib ia:Nat) (D:Nat->Bool) (x:Nat->Value) (W:World):Prop where
 lo:base<=w.heap.size
 old:KeepT [ty] [] base w W
 size:Wr.heap.size<=W.heap.size
 kept:∀ (k:Nat) (o:Obj),Wr.heap[k]?=some o->vd.ownBlock≠some k->W.heap[k]?=some o
 rd:aJ W base ty sz (bif D ia then x ia else vd) (bif D ia then p+m else p) (bif D ia then ds++news else ds)
 sb:D ib=true->D ia=false->∃ g,x ib=.slice (some ⟨g,0,none⟩) m m/\W.heap[g]?=some (.cells news.toArray ty)/\vd.ownBlock≠some g
section
variable {w Wr : World} {base : Nat} {ty : TypeId} {sz : Nat} {vd : Value} {p m : Nat} {ds news : List Value} {ib ia : Nat} {D : Nat → Bool} {x : Nat → Value} {W : World}
theorem CAppS.start{x:Nat->Value} (h0:base<=w.heap.size) (hb:KeepT [ty] [] base w W) (hs:Wr.heap.size<=W.heap.size) (hk:∀ (k:Nat) (o:Obj),Wr.heap[k]?=some o->vd.ownBlock≠some k->W.heap[k]?=some o) (hr:aJ W base ty sz vd p ds):CAppS w Wr base ty sz vd p m ds news ib ia (fun _=>false) x W:=⟨h0,hb,hs,hk,hr,nofun⟩
theorem CAppS.grow{W':World} (h:CAppS w Wr base ty sz vd p m ds news ib ia D x W) (hb:Below W.heap.size W W'):CAppS w Wr base ty sz vd p m ds news ib ia D x W':=
 ⟨h.lo,h.old.trans (.of_below _ hb (Nat.le_trans h.lo h.old.old.size)),Nat.le_trans h.size hb.size,fun k o h1 h3=>af hb (h.kept k o h1 h3),h.rd.up hb,
  fun h1 h2=>by obtain⟨g,e,q1,q2⟩:=h.sb h1 h2;exact⟨g,e,af hb q1,q2⟩⟩
theorem CAppS.other(h:CAppS w Wr base ty sz vd p m ds news ib ia D x W) {i:Nat} (v:Value) (h1:ib≠i) (h2:ia≠i):CAppS w Wr base ty sz vd p m ds news ib ia (bJ D i) (cG x i v) W:=by
 refine⟨h.lo,h.old,h.size,h.kept,?_,?_⟩
 ·simpa only[bJ,cG,if_neg h2] using h.rd
 ·simpa only[bJ,cG,if_neg h2,if_neg h1] using h.sb
theorem CAppS.app(h:CAppS w Wr base ty sz vd p m ds news ib ia D x W) (ha:D ia=false) {v':Value} {w3:World} (ho:aJ w3 base ty sz v' (p+m) (ds++news)) (hg:W.grownBy w3 vd.ownBlock) :
  CAppS w Wr base ty sz vd p m ds news ib ia (bJ D ia) (cG x ia v') w3:=by
 have rd:=h.rd;rw[ha]at rd;have eD:∀ (k:Nat) (o:Obj),W.heap[k]?=some o->vd.ownBlock≠some k->w3.heap[k]?=some o:=fun k o hk hn=>(hg.block k (aD hk) (fun e=>hn e.symm)).trans hk
 refine⟨h.lo,h.old.grown rd (by simp) (Nat.le_refl _) h.lo hg,Nat.le_trans h.size hg.size,fun k o h1 h3=>eD k o (h.kept k o h1 h3) h3,?_,fun _ e=>by simp[bJ]at e⟩;simpa[bJ,cG] using ho
theorem CAppS.build(h:CAppS w Wr base ty sz vd p m ds news ib ia D x W) (h1:ia≠ib):CAppS w Wr base ty sz vd p m ds news ib ia (bJ D ib) (cG x ib (.slice (some ⟨W.heap.size,0,none⟩) m m)) (W.alloc (.cells news.toArray ty)):=by
 have g:=h.grow (W':=W.alloc (.cells news.toArray ty)) (by go_grown);refine⟨g.lo,g.old,g.size,g.kept,?_,fun _ h4=>⟨W.heap.size,by simp[cG],ap _ _,fun e=>?_⟩⟩
 ·simpa only[bJ,cG,if_neg h1] using g.rd
 ·have h4':D ia=false:=by simpa only[bJ,if_neg h1] using h4
  have r:=h.rd;rw[h4']at r;have:=(r.lt _ e).2;omega
end
theorem dQ(W:World) (l:List Value) (t:TypeId):∀ j u',l[j]?=some u'->(W.alloc (.cells l.toArray t)).cell? (Addr.add ⟨W.heap.size,0,none⟩ j)=some u':=fun j u' hj=>by
 have e1:(Addr.add ⟨W.heap.size,0,none⟩ j)=⟨W.heap.size,j,none⟩:=by unfold Addr.add;split<;>simp_all
 rw[e1,ab (ap W _)];simpa using hj
section
variable {w W w2 : World} {o : Obj} {base : Nat} {e : TypeId} {k n : Nat} {v : Value} {xs : List Value}
theorem eG(hb:Below w.heap.size w W) (h0:w.heap.size<=base) (ho:aJ (W.alloc o) base e k v n xs) (hg:(W.alloc o).grownBy w2 v.ownBlock):Below w.heap.size w w2:=
 Below.grown (hb.alloc hb.size _) hg (by have:=hb.size;simp;omega) (fun g h=>Nat.le_trans h0 (ho.lt g h).1)
theorem Cr{N:Nat} (hb:Below N w W) (hN:N<=W.heap.size) (h0:N<=base) (ho:aJ (W.alloc o) base e k v n xs) (hg:(W.alloc o).grownBy w2 v.ownBlock):Below N w w2:=
 Below.grown (hb.alloc hN _) hg (by simp;omega) (fun g h=>Nat.le_trans h0 (ho.lt g h).1)
theorem im{b:Nat} {c:Array Value} {t:TypeId} {f:Nat × Nat} (ho:aJ (W.alloc o) base e k v n xs) (hg:(W.alloc o).grownBy w2 v.ownBlock) (h:W.heap[b]?=some (.cells c t f)) (bK:e≠t):w2.heap[b]?=some (.cells c t f):=by
 have h1:(W.alloc o).heap[b]?=some (.cells c t f):=ar _ h;exact(hg.block b (aD h1) (fun e'=>ho.ne h1 bK b e'.symm rfl)).trans h1
theorem nj{b:Nat} {x:Obj} (ho:aJ (W.alloc o) base e k v n xs) (hg:(W.alloc o).grownBy w2 v.ownBlock) (h:W.heap[b]?=some x) (hc:x.isCells=false):w2.heap[b]?=some x:=by
 have h1:(W.alloc o).heap[b]?=some x:=ar _ h;exact(hg.block b (aD h1) (fun e'=>ho.isCells h1 hc e')).trans h1
theorem sW{b:Nat} {x:Obj} (ho:aJ (W.alloc o) base e k v n xs) (hg:(W.alloc o).grownBy w2 v.ownBlock) (h:W.heap[b]?=some x) (hb:b<base):w2.heap[b]?=some x:=by
 have h1:(W.alloc o).heap[b]?=some x:=ar _ h;exact(hg.block b (aD h1) (fun e'=>by have:=(ho.lt b e'.symm).1;omega)).trans h1
end
def pV(l:List (Int × Int)) (k:Int):Option Int:=(l.find? fun p=>decide (k=p.1)).map (·.2)
def dq(w:World) (b:Nat) (f:Int->Option Int) (n:Nat):Prop:=
 ∃ es clock l,w.heap[b]?=some (.map es clock)/\es.toList.map (fun e=>(e.key,e.val))=l.map (fun p:Int × Int=>(Value.int .i64 p.1,Value.int .i64 p.2))/\l.length=n/\∀ k,pV l k=f k
theorem dq.kept{A A':World} {b n:Nat} {f:Int->Option Int} (h:dq A b f n) (he:A'.heap[b]?=A.heap[b]?):dq A' b f n:=by
 obtain⟨es,clock,l,h1,hf⟩:=h;exact⟨es,clock,l,he.trans h1,hf⟩
theorem dq.lt{w:World} {b n:Nat} {f:Int->Option Int} (h:dq w b f n):b<w.heap.size:=by
 obtain⟨_,_,_,he,_⟩:=h;exact aD he
theorem dq.up{A A':World} {b n:Nat} {f:Int->Option Int} (h:dq A b f n) (hb:Below A.heap.size A A'):dq A' b f n:=h.kept (hb.block b h.lt)
theorem dq.other{A:World} {b n:Nat} {f:Int->Option Int} (h:dq A b f n):∃ o,A.heap[b]?=some o/\o.isCells=false:=by
 obtain⟨es,clock,l,h1,_⟩:=h;exact⟨_,h1,rfl⟩
theorem dq.congr{A:World} {b n m:Nat} {f g:Int->Option Int} (h:dq A b f n) (hf:∀ k,f k=g k) (hn:n=m):dq A b g m:=by
 obtain⟨es,clock,l,h1,h2,h3,h4⟩:=h;exact⟨es,clock,l,h1,h2,hn ▸ h3,fun k=>(h4 k).trans (hf k)⟩
theorem dq.new(w:World):dq (w.alloc (.map #[] 0)) w.heap.size (fun _=>none) 0:=⟨#[],0,[],ap w _,rfl,rfl,fun _=>rfl⟩
theorem MF(k:Int) (d:TypeDesc) (hd:d=.int .i64):∀ (l:List (Int × Int)) (es:List MapEntry) (i:Nat),es.map (fun e=>(e.key,e.val))=l.map (fun p=>(Value.int .i64 p.1,Value.int .i64 p.2)) →
  (pV l k=none/\Instr.findNow d (.int .i64 k) es i=some none)\/∃ j x,pV l k=some x/\Instr.findNow d (.int .i64 k) es i=some (some (i+j,.int .i64 x))/\(l[j]?.map (·.1))=some k/\∀ y k',pV (l.modify j fun p=>(p.1,y)) k'=if k'=k then some y else pV l k'
 | [],es,i,h=>by
  obtain rfl:es=[]:=by simpa using h
  exact .inl ⟨rfl,rfl⟩
 | p :: l,es,i,h=>by
  cases es with
  | nil=>simp at h
  | cons e es=>
   simp only[List.map_cons,List.cons.injEq,Prod.mk.injEq]at h;obtain⟨⟨hk,hv⟩,h⟩:=h;subst hd;have hs:Instr.sameNow (.int .i64) (.int .i64 k) e.key=some (k == p.1):=by rw[hk];simp[Instr.sameNow]
   by_cases e1:k=p.1
   ·subst e1;refine .inr ⟨0,p.2,by simp[pV],by unfold Instr.findNow;rw[hs];simp[hv],rfl,fun y k'=>?_⟩;simp only[List.modify_zero_cons,pV,List.find?_cons];by_cases e2:k'=p.1
    ·simp[e2]
    ·simp[e2]
   ·have je:Instr.sameNow (.int .i64) (.int .i64 k) e.key=some false:=by rw[hs];simpa using e1
    have e3:pV (p :: l) k=pV l k:=by simp[pV,e1]
    have hf:Instr.findNow (.int .i64) (.int .i64 k) (e :: es) i=Instr.findNow (.int .i64) (.int .i64 k) es (i+1):=by
     rw[Instr.findNow,je]
    rcases MF k (.int .i64) rfl l es (i+1) h with ⟨h1,h2⟩|⟨j,x,h1,h2,h3,h4⟩
    ·exact .inl ⟨by rw[e3];exact h1,by rw[hf];exact h2⟩
    ·refine .inr ⟨j+1,x,by rw[e3];exact h1,by rw[hf,h2,show i+1+j=i+(j+1) by omega],by simpa using h3,fun y k'=>?_⟩;have h5:=h4 y k';simp only[List.modify_succ_cons,pV,List.find?_cons]at h5 ⊢;by_cases e2:k'=p.1
     ·subst e2;rw[if_neg (fun e=>e1 e.symm)];simp
     ·simp only[e2,decide_false];exact h5
theorem MG{P:Program} {kt:TypeId} (hk:P.underlying kt=some (.int .i64)) (k:Int) (es:List MapEntry) (w:World) (r:Option (Nat × Value)) (h:Instr.findNow (.int .i64) (.int .i64 k) es 0=some r):(Instr.findKey kt (.int .i64 k) es).run P w=.ok r w:=by
 unfold Instr.findKey;simp[Sem.run_bind,run_underlying hk,h]
theorem Cu{P:Program} {kt:TypeId} (hk:P.underlying kt=some (.int .i64)) (em:Bool) (k:Int) (w:World):(Instr.checkKey em 10000 kt (.int .i64 k)).run P w=.ok () w:=by
 unfold Instr.checkKey;simp[Sem.run_bind,run_underlying hk]
section
variable {P : Program} {kt mt vt : TypeId} {w : World} {b n : Nat} {f : Int → Option Int}
theorem Ek(hm:P.underlying mt=some (.map kt vt)) (hk:P.underlying kt=some (.int .i64)) (hz:∀ w,(zeroValue vt).run P w=.ok (.int .i64 0) w) (h:dq w b f n) (k:Int) :
  (Instr.lookup mt (.map (some b)) (.int .i64 k) true).run P w=.ok (.tuple #[.int .i64 ((f k).getD 0),.bool (f k).isSome]) w:=by
 obtain⟨es,clock,l,hb,jg,_,hf⟩:=h;have hg:(getObj b).run P w=.ok (.map es clock) w:=by simp[getObj,Sem.run,hb]
 rw[<-hf k];unfold Instr.lookup;rcases MF k _ rfl l es.toList 0 jg with ⟨h1,h2⟩|⟨j,x,h1,h2,_⟩
 ·simp[Sem.run_bind,run_underlying hm,hg,Cu hk,MG hk k _ w _ h2,hz,h1]
 ·simp[Sem.run_bind,run_underlying hm,hg,Cu hk,MG hk k _ w _ h2,h1]
theorem YU(h:dq w b f n):∃ es clock,w.heap[b]?=some (.map es clock)/\es.size=n:=by
 obtain⟨es,clock,l,hb,jg,hl,_⟩:=h;refine⟨es,clock,hb,?_⟩;have:=congrArg List.length jg;simpa[hl] using this
theorem Vq(hm:P.underlying mt=some (.map kt vt)) (ty:TypeId) (h:dq w b f n):(Builtin.len_ #[mt] ty #[.map (some b)]).run P w=.ok (.int .i64 (n:Int)) w:=by
 obtain⟨es,clock,hb,hn⟩:=YU h;have hg:(getObj b).run P w=.ok (.map es clock) w:=by simp[getObj,Sem.run,hb]
 subst hn;simp[Builtin.len_,run_underlying hm,hg,goInt,Result.andThen]
theorem vm(hm:P.underlying mt=some (.map kt vt)) (hk:P.underlying kt=some (.int .i64)) (h:dq w b f n) (k x:Int) :
  ∃ o,(Instr.mapUpdate mt (.map (some b)) (.int .i64 k) (.int .i64 x)).run P w=.ok () (w.putObj b o)/\dq (w.putObj b o) b (fun j=>if j=k then some x else f j) (if (f k).isSome then n else n+1):=by
 obtain⟨es,clock,l,hb,jg,hl,hf⟩:=h;have hg:(getObj b).run P w=.ok (.map es clock) w:=by simp[getObj,Sem.run,hb]
 have hs:∀ o,(setObj b o).run P w=.ok () (w.putObj b o):=fun o=>by simp[setObj,Sem.run,hb,World.putObj]
 rw[<-hf k];rcases MF k _ rfl l es.toList 0 jg with ⟨h1,h2⟩|⟨j,y,h1,h2,h3,h4⟩
 ·refine⟨.map (es.push { key:=.int .i64 k,val:=.int .i64 x,born:=clock }) (clock+1),?_,es.push { key:=.int .i64 k,val:=.int .i64 x,born:=clock },clock+1,l++[(k,x)],World.putObj_heap_same (aD hb),by simp[jg],by rw[h1];simp[hl],fun j=>?_⟩
  ·unfold Instr.mapUpdate;simp[Sem.run_bind,run_underlying hm,hg,Cu hk,MG hk k _ w _ h2,hs]
  ·unfold pV at h1 ⊢;rw[List.find?_append]
   show Option.map _ _=if j=k then some x else f j
   by_cases e:j=k
   ·subst e;rw[Option.map_eq_none_iff]at h1;simp[h1]
   ·rw[if_neg e,<-hf j];unfold pV;cases l.find? fun p=>decide (j=p.1)<;>simp[e]
 ·rw[Nat.zero_add]at h2;have cC:es.toList.length=l.length:=by simpa using congrArg List.length jg
  have hj:j<l.length:=by
   apply Classical.byContradiction;intro hj;rw[List.getElem?_eq_none (by omega)]at h3;simp at h3
  have hje:j<es.size:=by simpa using (show j<es.toList.length by omega)
  have m3:es[j].key=.int .i64 k:=by
   have h5:=congrArg (fun L=>L[j]?) jg;simp only[List.getElem?_map,List.getElem?_eq_getElem hj,List.getElem?_eq_getElem (show j<es.toList.length by omega)]at h5 h3;simp only[Option.map_some,Option.some.injEq,Prod.mk.injEq,Array.getElem_toList]at h5 h3;rw[h5.1,h3]
  refine⟨.map (es.modify j fun e=>{ e with key:=.int .i64 k,val:=.int .i64 x }) clock,?_,es.modify j fun e=>{ e with key:=.int .i64 k,val:=.int .i64 x },clock,l.modify j fun p=>(p.1,x),World.putObj_heap_same (aD hb),?_,by rw[h1];simp[hl],fun j'=>by rw[h4 x j',hf]⟩
  ·unfold Instr.mapUpdate
   have eD:(Instr.keyThatStays (.int .i64 k) (.int .i64 k)).run P w=.ok (.int .i64 k) w:=by
    unfold Instr.keyThatStays;rw[if_pos (by simp[Instr.sameBits])];rfl
   simp[Sem.run_bind,run_underlying hm,hg,Cu hk,MG hk k _ w _ h2,hs,hje,m3,eD]
  ·apply List.ext_getElem?;intro i;have h5:=congrArg (fun L=>L[i]?) jg;simp only[List.getElem?_map]at h5 ⊢;rw[List.getElem?_modify,Array.getElem?_toList,Array.getElem?_modify];rw[Array.getElem?_toList]at h5;by_cases e:j=i
   ·subst e;simp only[if_pos,List.getElem?_eq_getElem hj,Array.getElem?_eq_getElem hje,Option.map_some,Option.some.injEq,Prod.mk.injEq]at h5 ⊢;rw[List.getElem?_eq_getElem hj]at h3;simp only[Option.map_some,Option.some.injEq]at h3;simp[h3]
   ·simp only[if_neg e];cases h6:l[i]? with
    | none=>rw[h6]at h5;exact h5
    | some q=>rw[h6]at h5;exact h5
end
structure OwnQ (w:World) (g:Nat) (e:TypeId) (v:Value) (n:Nat) (xs:List Value):Prop where
 len:xs.length=n
 ex:∃ off cap,v=.slice (some ⟨g,off,none⟩) n cap/\n<=cap/\cap<=maxLen/\(cap=0\/∃ cur fz,w.heap[g]?=some (.cells cur e fz)/\(∀ i,i<cur.size->¬ (fz.1<=i/\i<fz.2))/\cur.size=off+cap/\(cur.toList.drop off).take n=xs)
theorem OwnQ.up{w w':World} {g:Nat} {e:TypeId} {v:Value} {n:Nat} {xs:List Value} (h:OwnQ w g e v n xs) (hb:w'.heap[g]?=w.heap[g]?\/g ≥ w.heap.size):OwnQ w' g e v n xs:=by
 obtain⟨off,cap,h1,h2,h3,h4⟩:=h.ex;refine⟨h.len,off,cap,h1,h2,h3,?_⟩;rcases h4 with h4|⟨cur,fz,h5,h6⟩
 ·exact .inl h4
 ·rcases hb with hb|hb
  ·exact .inr ⟨cur,fz,hb.trans h5,h6⟩
  ·have:=aD h5;omega
structure GrowQ (g:Nat) (w w':World):Prop where
 os:w'.os=w.os
 tape:w'.tape=w.tape
 output:w'.output=w.output
 size:w.heap.size<=w'.heap.size
 same:∀ k,k<w.heap.size->k≠g->w'.heap[k]?=w.heap[k]?
theorem GrowQ.below{g n:Nat} {w0 w w':World} (h:GrowQ g w w') (hb:Below n w0 w) (hn:n<=w.heap.size) (hg:n<=g):Below n w0 w':=
 ⟨h.os.trans hb.os,h.tape.trans hb.tape,h.output.trans hb.output,Nat.le_trans hb.size h.size,fun k hk=>(h.same k (by omega) (by omega)).trans (hb.block k hk)⟩
theorem GrowQ.keep{g:Nat} {w w':World} (h:GrowQ g w w') {k:Nat} {o:Obj} (hk:w.heap[k]?=some o) (hg:k≠g):w'.heap[k]?=some o:=(h.same k (aD hk) hg).trans hk
section
variable {P : Program} (w : World)
theorem Iy(t ty e:TypeId) (i:TypeInfo) (z:Value) (bytes:Nat) (ht:P.underlying t=some (.slice e)) (hi:P.info? e=some i) (hz:i.zero=some z)
  (fg:i.size=1) (gT:i.bytes=bytes) (rX:z.cells.size=1)
  (g:Nat) (v:Value) (n:Nat) (xs:List Value) (bd:OwnQ w g e v n xs)
  (a:Addr) (c:Nat) (u:Value) (bQ:∀ j x,[u][j]?=some x->w.cell? (a.add j)=some x) (h1:u.oneCell'=true)
  (pG:n+1<=maxLen) (gK:(n+1) * bytes<=140737488355328) :
  ∃ v' w' g',(Builtin.append_ #[t,t] ty #[v,.slice (some a) 1 c]).run P w=.ok v' w'/\OwnQ w' g' e v' (n+1) (xs++[u])/\GrowQ g w w'/\(g'=g/\g<w.heap.size\/g'=w.heap.size):=by
 obtain⟨off,cap,rfl,ig,qO,h⟩:=bd.ex;have iQ:=bd.len;by_cases mJ:n+1<=cap
 ·rcases h with h|⟨cur,fz,hg,nq,jQ,nH⟩
  ·omega
  have hr:=run_append_room_cells (P:=P) w t ty e i ht hi g off n cap a 1 c [u] (by simp[fg]) bQ (by simpa using h1) mJ (fun j hj=>by
    rw[fg,Nat.mul_one,ab hg];simp at hj;simp
    omega)
   (fun j hj=>by
    simp at hj;simp only[World.frozen?,hg];have:=nq (off+n * i.size+j) (by rw[fg];omega)
    simpa using this)
  rw[fg,Nat.mul_one]at hr;have gd:w.setCells g (off+n) [u]=w.setCell ⟨g,off+n,none⟩ u:=rfl;rw[gd]at hr;refine⟨_,_,g,hr,⟨by simp[iQ],off,cap,rfl,mJ,qO,.inr ⟨_,fz,aI hg _ _,fun i hi=>nq i (by simpa using hi),by simpa using jQ,?_⟩⟩,⟨rfl,rfl,rfl,by simp,fun k _ hk=>Below.heap_setCell _ _ _ _ hk⟩,.inl ⟨rfl,aD hg⟩⟩;rw[Array.toList_setIfInBounds,List.drop_set,if_neg (by omega),Nat.add_sub_cancel_left,List.take_succ_eq_append_getElem (by simp;omega),List.take_set_of_le (Nat.le_refl _),nH,List.getElem_set_self]
 ·have Dd:∀ j x,xs[j]?=some x->w.cell? ((⟨g,off,none⟩:Addr).add j)=some x:=fun j x hx=>by
   have hj:=(List.getElem?_eq_some_iff.1 hx).1;rcases h with h|⟨cur,fz,hg,nq,jQ,nH⟩
   ·omega
   have e1:((⟨g,off,none⟩:Addr).add j)=⟨g,off+j,none⟩:=by unfold Addr.add;split<;>simp_all
   rw[e1,ab hg];rw[<-nH,List.getElem?_take,if_pos (by omega),List.getElem?_drop]at hx;simpa using hx
  have hr:=run_append_grow (P:=P) w t ty e i z ht hi hz ⟨g,off,none⟩ n cap xs (by rw[fg,iQ,Nat.mul_one]) Dd a 1 c [u] (by simp[fg]) bQ (by omega) (by simp only[maxLen]at pG;omega) (growslice_fits (by omega) (by rw[gT];exact gK));obtain⟨v',w',q1,q2,q3⟩:=run_append_arg_grows (P:=P) w t ty e i z i.size i.bytes ht hi hz rfl rfl (by rw[fg,rX]) (by omega) ⟨g,off,none⟩ n cap xs (by rw[fg,iQ,Nat.mul_one]) Dd a 1 c [u] (by simp[fg]) bQ (by omega) pG (by rw[gT];exact gK);have e1:=hr.symm.trans q1;injection e1 with e1 e2
  subst e1 e2;have q4:=aJ.of_owns q2;rw[fg]at q4;refine⟨_,_,w.heap.size,hr,⟨by simp[iQ],?_⟩,⟨q3.os,q3.tape,q3.output,q3.size,fun k hk _=>q3.block k hk (by simp)⟩,.inr rfl⟩;rcases q4.2 with ⟨hn,_⟩|⟨g',cap',cur,fz,hv,_,hg,nq,hnc',hcm',jQ,nH⟩
  ·cases hn
  ·injection hv with kl _ QF
   injection kl with kl
   injection kl with kl
   subst kl QF;exact⟨0,_,rfl,hnc',hcm',.inr ⟨cur,fz,hg,nq,by omega,by rw[List.drop_zero,<-nH,Nat.mul_one]⟩⟩
theorem Aq{F:Fence} {d:Nat} {ops:Array Oper} {rest:List Oper} {o:Oper} {a:Act} {Q:Exit->Act->World->Prop} (lL:o.guard=none) (s x:Operand) (t:TypeId)
  (ho:o.op=.call { callee:=.builtin .append,args:=#[s,x],argTypes:=#[t,t] })
  (e:TypeId) (i:TypeInfo) (z:Value) (bytes:Nat) (ht:P.underlying t=some (.slice e)) (hi:P.info? e=some i) (hz:i.zero=some z)
  (fg:i.size=1) (gT:i.bytes=bytes) (rX:z.cells.size=1)
  (g:Nat) (v:Value) (n:Nat) (xs:List Value) (hs:a.eval s=v) (bd:OwnQ w g e v n xs)
  (ad:Addr) (c:Nat) (u:Value) (hx:a.eval x=.slice (some ad) 1 c) (bQ:∀ j x,[u][j]?=some x->w.cell? (ad.add j)=some x) (h1:u.oneCell'=true)
  (pG:n+1<=maxLen) (gK:(n+1) * bytes<=140737488355328)
  (h:∀ v' w' g',OwnQ w' g' e v' (n+1) (xs++[u])->GrowQ g w w'->(g'=g/\g<w.heap.size\/g'=w.heap.size)->wpListIn F d P ops Q rest (a.put o.dst v') w'):wpListIn F d P ops Q (o :: rest) a w:=by
 refine wpListIn_plain lL fun K hK'=>?_
 obtain⟨v',w',g',Tr,r1,r2,r3⟩:=Iy (P:=P) w t o.type e i z bytes ht hi hz fg gT rX g v n xs bd ad c u bQ h1 pG gK;unfold Oper.wpIn;refine⟨?_,?_⟩
 ·simp[Oper.about,ho,resolve,Target.leads,Sem.run_pure]
 ·rw[Oper.semAt_plain F _ _ (by rw[ho];intro c lj;cases lj)];simp[execOp,ho,resolve,invoke,builtin,hs,hx,Tr,Result.andThen];exact hK' _ _ (h v' w' g' r1 r2 r3)
end
theorem OwnQ.tail{w:World} {g:Nat} {e:TypeId} {off n cap:Nat} {x:Value} {xs:List Value} (h:OwnQ w g e (.slice (some ⟨g,off,none⟩) (n+1) cap) (n+1) (x :: xs)):OwnQ w g e (.slice (if cap=1 then some ⟨g,off,none⟩ else some ⟨g,off+1,none⟩) n (cap - 1)) n xs:=by
 have hl:=h.len;obtain⟨off',cap',hv,h2,h3,h4⟩:=h.ex;injection hv with e1 _ e3
 injection e1 with e1
 injection e1 with _ e1
 subst e1 e3;simp at hl;rcases h4 with h4|⟨cur,fz,h5,h6,h7,h8⟩
 ·omega
 by_cases hc:cap=1
 ·subst hc;obtain rfl:n=0:=by omega
  have:xs=[]:=List.eq_nil_of_length_eq_zero hl;subst this;exact⟨rfl,off,0,by simp,by omega,by omega,.inl rfl⟩
 ·refine⟨hl,off+1,cap - 1,by rw[if_neg hc],by omega,by omega,.inr ⟨cur,fz,h5,h6,by omega,?_⟩⟩;rw[show off+1=1+off by omega,<-List.drop_drop];have h9:=congrArg (List.drop 1) h8;rw[List.drop_take,Nat.add_sub_cancel]at h9;simpa using h9
end Go.Proofs.YtmeaoneaephjeaaGreatDoor
namespace Go.Proofs.YtmeaoneaephjeaaGreatDoor
open Go.RowKit Go Go.Shelf
attribute [local go_sem] Oper.semAt_some
theorem aZ(w:World) (a b:Obj):((w.alloc a).alloc b).heap[w.heap.size+1]?=some b:=by simpa using ap (w.alloc a) b
theorem dZ(w:World) (a b c:Obj):(((w.alloc a).alloc b).alloc c).heap[w.heap.size+1+1]?=some c:=by simpa using ap ((w.alloc a).alloc b) c
theorem jw(tmps:Array Value) (B:Nat) (W:World) (x:Int) (ty:TypeId) (ht:tmps[2]?.getD undef=.pointer (some ⟨B,0,none⟩)) (hb:W.heap[B]?=some (.cells #[.int .i64 x] ty)) :
  (results Tryz.f211 tmps).run Tryz.prog W=.ok (.int .i64 x) W:=by
 have c:=ab hb 0;simp at c;simp[results,Tryz.results211,go_sem,ht,c]
theorem yI(a:Adv) (v:Value) (w:World) (hv:bu w v a.states) (hN:movesN a.states<1099511627776) :
  Calls Tryz.prog 211 #[.agg #[.int .i64 a.n,v]] w fun e w'=>e=.returned (.int .i64 (advE a))/\Below w.heap.size w w':=by
 have G:=aa hv;obtain⟨pa,ca,rfl,la1,la2,ea⟩:=hv.at;clear hv;have E:=aa ea;clear ea;refine gi Tryz.func211 rfl ?_;simp only[Tryz.ntmps211,List.size_toArray,List.length_cons,List.length_nil,Nat.reduceAdd,Nat.reduceSub,Array.replicate_succ,Array.replicate_zero,List.push_toArray,List.append_toArray,List.nil_append,List.cons_append];by_cases hn:a.n<1\/5<a.n
 ·have HV:am (advE a=2):=by(have h:advE a=2:=by(unfold advE;rw[if_pos hn]));exact h
  rcases hn with hn|hn
  ·go_wp2_with fail
   refine iA (jw _ _ _ 2 _ rfl (aZ _ _ _)) ?_;exact⟨aE HV.o.symm,by go_grown⟩
  ·go_wp2_with fail
   refine iA (jw _ _ _ 2 _ rfl (aZ _ _ _)) ?_;exact⟨aE HV.o.symm,by go_grown⟩
 have kq:1<=a.n:=by omega
 have oM:a.n<=5:=by omega
 have HV:am (advE a=if sizedE a≠0 then sizedE a else if bm a.states.length (fun s=>stateE a (a.states.getD s []))≠0 then bm a.states.length (fun s=>stateE a (a.states.getD s [])) else if growsB a then 0 else 21):=by
  have h:advE a=if sizedE a≠0 then sizedE a else if bm a.states.length (fun s=>stateE a (a.states.getD s []))≠0 then bm a.states.length (fun s=>stateE a (a.states.getD s [])) else if growsB a then 0 else 21:=by
   unfold advE sizedE;rw[if_neg hn];grind
  exact h
 clear hn
 go_wp2_with fail
 refine aO (fun W=>Below w.heap.size w W/\W.heap[w.heap.size]?=some (.cells #[.int .i64 a.n,.slice pa a.states.length ca] 27)/\W.heap[w.heap.size+1]?=some (.cells #[.int .i64 0] 39)) ⟨by go_grown,ar _ (ap _ _),aZ _ _ _⟩ (fun W0 aX=>?_);obtain⟨aG,bB,eB⟩:=aX;refine(Pc a _ W0 (G.o.up up_moves aG) hN).mono ?_;rintro e w1 ⟨rfl,aK⟩;have eW:=af aK bB;have sd:=af aK eB;have jt:=ae aG aK;have c1:=ab sd 0;have f1:=aH sd 0;simp at c1;have t1:=ab eW;generalize sizedE a=es at HV;have du:=aa eW;have cO:=aa sd;clear bB eB aG aK W0 eW sd;by_cases jg:es=0
 case neg=>
  have hes':(es != 0)=true:=by simpa using jg
  go_wp2_with fail
  refine iA (jw _ _ _ es _ rfl (by rw[aI cO.o];rfl)) ?_;exact⟨aE (by rw[HV.o,if_pos jg]),jt.setCell (by simp) _⟩
 subst jg
 go_wp2_with fail
 clear t1 c1 f1
 go_loopw [27] (fun i wr=>Below w1.heap.size w1 wr/\∃ k:Nat,k<=a.states.length/\i=.int .i64 k/\∀ j,j<k->stateE a (a.states.getD j [])=0) (fun i _=>a.states.length - (intOf i).toNat)
 case atStart=>exact⟨Below.refl _ _,0,by omega,rfl,by simp⟩
 case round=>
  obtain⟨aA,k,hk,rfl,aW⟩:=hrel;have H:=aa aW;clear aW;have dF:=ae jt aA;have uu:=af aA du.o;have U0:=af aA cO.o;have t1:=ab uu;by_cases aC:k<a.states.length
  ·obtain⟨b1,o1,rfl,x,cx,hx⟩:=E.o k aC;rw[Nat.mul_one]at cx;have d1:=ak dF cx;have HX:=aa (hx.up up_move dF);obtain⟨px,qx,rfl,_⟩:=hx;clear cx;have UL:=aa U0;clear uu U0
   go_wp2_with fail
   refine(Pf a _ _ _ _ _ HX.o).mono ?_;rintro e w2 ⟨rfl,aT⟩;have mn:=af aT UL.o;have c1:=ab mn 0;have f1:=aH mn 0;simp at c1;have eh:=aa mn;clear mn;have HS:am (stateE a (a.states.getD k [])=stateE a a.states[k]):=by(have h:stateE a (a.states.getD k [])=stateE a a.states[k]:=by(rw[az [] aC]));exact h
   generalize stateE a a.states[k]=ek at HS;clear t1 d1;by_cases uf:ek=0
   ·subst uf
    go_wp2_with fail
    go_roundw
    ·exact⟨ae aA aT,k+1,by omega,by go_num,aY H.o HS.o⟩
    ·simp[intOf];omega
   ·have Ty:(ek != 0)=true:=by simpa using uf
    go_wp2_with fail
    refine iA (jw _ _ _ ek _ rfl (by rw[aI eh.o];rfl)) ?_;exact⟨aE (by rw[HV.o,if_neg (by simp),<-bT (f:=fun s=>stateE a (a.states.getD s [])) k ek aC H.o HS.o uf,if_pos uf]),(ae dF aT).setCell (by simp) _⟩
  ·have aU:∀ j,j<a.states.length->stateE a (a.states.getD j [])=0:=fun j hj=>H.o j (by omega)
   have dd:am (advE a=if growsB a then 0 else 21):=by
    have h:advE a=if growsB a then 0 else 21:=by rw[HV.o,if_neg (by simp),cS _ _ aU];simp
    exact h
   have m5:=aa aU;clear aU H HV;have HAr:=aa uu;have UL:=aa U0;clear uu U0
   go_wp2_with fail
   refine(yG _ _ _ _ _).mono ?_;rintro e w2 ⟨rfl,rfl⟩;clear t1
   go_wp2_with fail
   refine bC (fun W=>Below w.heap.size w W/\W.heap[w.heap.size]?=some (.cells #[.int .i64 a.n,.slice pa a.states.length ca] 27)/\W.heap[w.heap.size+1]?=some (.cells #[.int .i64 0] 39)/\W.heap[wr.heap.size]?=some (.cells #[.int .i64 a.n,.slice pa a.states.length ca] 27))
    ⟨dF.alloc dF.size _,ar _ HAr.o,ar _ UL.o,ap _ _⟩ (fun W0 aX=>?_)
   obtain⟨aG,hA,hR,hX⟩:=aX;have dg:=wO w _ a.states G.o W0 aG wr.heap.size (by simp[ab hX]);have eT:=aD hX;have hsw:=dF.size;have hsR:=aD UL.o
   refine mL (gf:=221) (lb:=#[.pointer (some ⟨wr.heap.size,0,none⟩)]) rfl (enters_of Tryz.func221 (by kernel_rfl) rfl) dg (Below.refl _ _) (fun k hk=>Nat.lt_of_lt_of_le hk aG.size) (fun i=>rfl)
    (fun i W=>Below w.heap.size w W/\W.heap[w.heap.size]?=some (.cells #[.int .i64 a.n,.slice pa a.states.length ca] 27)/\W.heap[w.heap.size+1]?=some (.cells #[.int .i64 0] 39)/\∀ j,j<i->qd a j=false)
    (fun c _ W=>c=.ret/\Below w.heap.size w W/\W.heap[w.heap.size+1]?=some (.cells #[.int .i64 21] 39)/\growsB a=false)
    (fun i=>(cI.below (by omega)).and (cI.cells.and (cI.cells.and cI.pure))) (fun c i=>cI.pure.and ((cI.below (by omega)).and (cI.cells.and cI.pure))) ⟨aG,hA,hR,by simp⟩ ?round ?done ?stop
   case round=>
    intro yl i W hi hl hI;unfold Iv;have eN:=Vf m5.o hi;have HB:am (qd a i=anyLt (nM a i).length fun k=>!iU (mvAt a.states i).2.r.f ((nM a i).getD k default).r.f):=by(have h:qd a i=anyLt (nM a i).length fun k=>!iU (mvAt a.states i).2.r.f ((nM a i).getD k default).r.f:=rfl);exact h
    have QM:am (nM a i=a.states.getD (mvAt a.states i).2.to.toNat []):=by(have h:nM a i=a.states.getD (mvAt a.states i).2.to.toNat []:=rfl);exact h
    generalize mvAt a.states i=sm at eN HB QM;obtain⟨sx,m⟩:=sm;dsimp only at eN HB QM;obtain⟨⟨fU,eV⟩,ht0,ht1⟩:=eN;have HI:=aa hI;clear hI;have TF:=HI.o.1.size
    gi_wp2
    refine⟨Bod.of_below (fun k hk=>Nat.lt_of_lt_of_le hk TF) (by go_grown),(fun W'=>Below w.heap.size w W'/\W'.heap[w.heap.size]?=some (.cells #[.int .i64 a.n,.slice pa a.states.length ca] 27)/\W'.heap[w.heap.size+1]?=some (.cells #[.int .i64 0] 39)/\W'.heap[W.heap.size]?=some (.cells #[.int .i64 m.r.g.n,.int .i64 m.r.g.h0,.int .i64 m.r.g.h1,.int .i64 m.r.g.h2,.int .i64 m.r.g.h3,.int .i64 m.r.g.h4,.int .i64 m.r.f,.int .i64 m.to] 143)),
     (cI.below (by omega)).and (cI.cells.and (cI.cells.and cI.cells)),⟨HI.o.1.alloc TF _,ar _ HI.o.2.1,ar _ HI.o.2.2.1,ap _ _⟩,fun W2 h2 _=>?_⟩
    obtain⟨g1,g2,g3,g4⟩:=h2;have qU:=aa HI.o.2.2.2;have J8:=g1.size;have hszR:=aD g3;have hszM:=aD g4;have tA:=ab g2;have tM:=ab g4;have oI:=aa g1;have Dz:=aa g3;have se:=aa g2;have T8:=aa g4;clear g1 g2 g3 g4 HI dg hA hR hX;obtain⟨b1,o1,rfl,x,cx,hx⟩:=E.o m.to.toNat (by omega);have HL:am (nM a i=a.states[m.to.toNat]):=by(have h:nM a i=a.states[m.to.toNat]:=by(rw[QM.o,az [] (by omega)]));exact h
    rw[Nat.mul_one]at cx;have d1:=ak oI.o cx;obtain⟨p2,c2,rfl,m1,m2,e2⟩:=hx.at;clear hx cx;have E2:=aa e2;clear e2;generalize hLL:a.states[m.to.toNat]=L at HL E2 d1 m1 m2;have jp:=aa hLL;clear hLL
    gi_wp2
    clear tA tM d1
    gi_loopw [49] (fun i wr=>Below W2.heap.size W2 wr/\∃ q:Nat,q<=L.length/\i=.int .i64 q/\∀ j,j<q->iU m.r.f (L.getD j default).r.f=true) (fun i _=>L.length - (intOf i).toNat)
    case atStart=>exact⟨Below.refl _ _,0,by omega,rfl,by simp⟩
    case round=>
     obtain⟨ki,q,hq,rfl,qk⟩:=hrel;have H2:=aa qk;clear qk;have tM:=ab (af ki T8.o);have De:=af ki Dz.o;have c1':=ab De 0;have f1':=aH De 0;simp at c1';have fT:=aa De;clear De;have kV:=ae oI.o ki;have je:=ki.size;have su:W.heap.size<wr.heap.size:=by omega
     have hR3':w.heap.size+1<wr.heap.size:=by omega
     by_cases Bz:q<L.length
     ·have NG:0<=L[q].r.f/\L[q].r.f<32:=by
       have:=(lw m5.o (s:=m.to.toNat) (j:=q) (by omega) (by rw[jp.o];exact Bz)).1;simpa[jp.o] using this
      have X9:am (L.getD q default=L[q]):=az default Bz;obtain⟨b2,o2,rfl,⟨⟨c0,_⟩,⟨c1,_⟩,⟨c2,_⟩,⟨c3,_⟩,⟨c4,_⟩,⟨c5,_⟩,⟨c6,_⟩⟩,c7,_⟩:=E2.o q Bz;have d0:=ak kV c0;have d1:=ak kV c1;have d2:=ak kV c2;have d3:=ak kV c3;have d4:=ak kV c4;have d5:=ak kV c5;have d6:=ak kV c6;have d7:=ak kV c7;clear c0 c1 c2 c3 c4 c5 c6 c7;generalize L[q]=y at NG X9 d0 d1 d2 d3 d4 d5 d6 d7;have gR:=GP m.r.f y.r.f fU eV NG.1 NG.2;clear NG;cases cZ:iU m.r.f y.r.f with
      | true=>
       rw[cZ]at gR;have iv:=aa cZ;clear cZ
       gi_wp2
       go_roundw
       ·exact⟨ki.alloc ki.size _,q+1,by omega,by go_num,aY H2.o (by rw[X9.o];exact iv.o)⟩
       ·simp[intOf];omega
      | false=>
       rw[cZ]at gR;have iv:=aa cZ;clear cZ
       gi_wp2
       refine⟨((Bod.of_below (fun k hk=>Nat.lt_of_lt_of_le hk J8) ki).trans (Bod.setCell _ ⟨w.heap.size+1,0,none⟩ _ (fun h=>by dsimp only at h;omega))).trans (Bod.of_below (fun k hk=>by simp only[World.size_setCell];omega) (by go_grown)),rfl,(kV.setCell (p:=⟨w.heap.size+1,0,none⟩) (by dsimp only;omega) _).alloc (by simp only[World.size_setCell];omega) _,?_,?_⟩
       ·exact ar _ (by rw[aI fT.o];rfl)
       ·unfold growsB;rw[dN _ i _ hi (by rw[HB.o,HL.o];exact dN _ q _ Bz (by rw[X9.o,iv.o];rfl))];rfl
     ·gi_wp2
      refine⟨Bod.of_below (fun k hk=>Nat.lt_of_lt_of_le hk J8) ki,kV,af ki se.o,fT.o,aY qU.o ?_⟩;rw[HB.o,HL.o];exact eX _ _ (fun j hj=>by rw[H2.o j (by omega)];rfl)
   case done=>
    intro D W hD hI hK;obtain⟨g1,g2,g3,g4⟩:=hI;have HG:=aa (And.intro g1 (And.intro g2 (And.intro g3 g4)));have c1:=ab g3 0;have f1:=aH g3 0;simp at c1;clear g1 g2 g3 g4 dg hA hR hX
    go_wp2_with fail
    refine iK (by rw[<-hK];exact Below.heap_setCell _ _ _ _ (by dsimp only;omega)) (jw _ _ _ 0 _ rfl ((World.putObj_heap_other (by omega)).trans (by rw[aI HG.o.2.2.1];rfl))) ?_;refine⟨aE ?_,eY (by omega) (HG.o.1.setCell (by simp) _)⟩;rw[dd.o];unfold growsB;rw[eX _ _ HG.o.2.2.2];rfl
   case stop=>
    rintro D c i W hD hi ⟨rfl,g1,g2,g3⟩ hK;have HG:=aa (And.intro g1 (And.intro g2 g3));clear g1 g2 g3 dg hA hR hX
    go_wp2_with fail
    refine iK hK (jw _ _ _ 21 _ rfl ((World.putObj_heap_other (by omega)).trans HG.o.2.1)) ?_;exact⟨aE (by rw[dd.o,HG.o.2.2];rfl),eY (by omega) HG.o.1⟩
abbrev Rd.c(r:Rd):Array Value:=#[.int .i64 r.g.n,.int .i64 r.g.h0,.int .i64 r.g.h1,.int .i64 r.g.h2,.int .i64 r.g.h3,.int .i64 r.g.h4,.int .i64 r.f]
end Go.Proofs.YtmeaoneaephjeaaGreatDoor
