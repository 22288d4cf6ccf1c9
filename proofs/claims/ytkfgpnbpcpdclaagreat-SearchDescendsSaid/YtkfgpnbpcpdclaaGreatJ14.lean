/-
  A part of the proof: lemmas and contracts that the parts behind it use. Each one's conditions are its own premises.
-/
import Derived.Test.YtkfgpnbpcpdclaaGreatJ13
set_option maxRecDepth 100000
set_option maxHeartbeats 8000000
set_option linter.unusedVariables false
namespace Go.Proofs.YtkfgpnbpcpdclaaGreat
open Go.RowKit Go Go.Shelf
theorem Rc(a:Adv) (s j:Nat) (hs:s<a.states.length) (hj:j<a.states[s].length) :
  pk a (cnt a.states s+j)=anyLt (a.states.getD a.states[s][j].to.toNat []).length fun k=>!cL a.states[s][j].r.f ((a.states.getD a.states[s][j].to.toNat []).getD k default).r.f:=by
 unfold pk nM;rw[tH _ s j hs hj]
theorem Re(a:Adv) (s j u:Nat) (hs:s<a.states.length) (hj:j<a.states[s].length) (hu:u<a.states.length) (h:a.states[s][j].to=u) :
  pk a (cnt a.states s+j)=anyLt a.states[u].length fun k=>!cL a.states[s][j].r.f (a.states[u].getD k default).r.f:=by
 rw[Rc a s j hs hj,h,Int.toNat_natCast,aA [] hu]
theorem Me(a:Adv) (v:Value) (w:World) (hv:bn w v a.states) (gL:∀ s,s<a.states.length->stateE a (a.states.getD s [])=0) :
  Calls Tryz.prog 128 #[.agg #[.int .i64 a.n,v]] w fun e w'=>e=.returned (.bool (growsB a))/\Below w.heap.size w w':=by
 obtain⟨pa,ca,rfl,la1,la2,ea⟩:=hv.at;clear hv;have EA:=aa ea;clear ea;have eM:=aa gL;clear gL;have HV:Hid (growsB a=!anyLt (movesN a.states) (pk a)):=by exact rfl
 go_enter Tryz.func128,Tryz.ntmps128
 go_wp2
 refine bw (fun W=>Below w.heap.size w W/\W.heap[w.heap.size]?=some (.cells #[.int .i64 a.n,.slice pa a.states.length ca] 27)) ⟨by go_grown,ar _ _⟩ (fun W0 bd=>?_);obtain⟨aH,bD⟩:=bd;have HA:=aa bD;clear bD
 go_loopw [3] (fun i wr=>Below W0.heap.size W0 wr/\∃ s:Nat,s<=a.states.length/\i=.int .i64 s/\∀ j,j<cnt a.states s->pk a j=false) (fun i _=>a.states.length - (intOf i).toNat)
 case atStart=>exact⟨Below.refl _ _,0,by omega,rfl,by rw[oQ];simp⟩
 case round=>
  obtain⟨dW,s,hs,rfl,aO⟩:=hrel;have H:=aa aO;clear aO;have aJ:=aj aH dW;have t1:=ae (ak dW HA.out);by_cases aF:s<a.states.length
  ·obtain⟨b1,o1,rfl,x,cx,hx⟩:=EA.out s aF
   rw[Nat.mul_one]at cx;obtain⟨px,qx,rfl,x1,x2,ex⟩:=hx.at;have EX:=aa ex;have CX:=aa cx;have IJ:=aa (kD a.states s aF);have bW:=A3 a.states s aF;clear hx cx ex
   go_wp2
   clear t1
   go_loopw [4] (fun i ws=>Below wr.heap.size wr ws/\∃ m:Nat,m<=a.states[s].length/\i=.int .i64 m/\∀ j,j<cnt a.states s+m->pk a j=false) (fun i _=>a.states[s].length - (intOf i).toNat)
   case atStart=>exact⟨Below.refl _ _,0,by omega,rfl,by simpa using H.out⟩
   case round=>
    obtain⟨mq,m,hm,rfl,aO⟩:=hrel
    rename World=>ws
    have H2:=aa aO;clear aO;have rI:=aj dW mq;have dJ:=aj aJ mq;have t1:=ae (ak rI HA.out);have c1:=ay dJ CX.out;have dM:=aB (ak rI HA.out);have aG:b1<ws.heap.size:=gc c1;by_cases qa:m<a.states[s].length
    ·obtain⟨b3,o3,rfl,⟨⟨d0,_⟩,⟨d1,_⟩,⟨d2,_⟩,⟨d3,_⟩,⟨d4,_⟩,⟨d5,_⟩,⟨d6,_⟩⟩,⟨d7,_⟩⟩:=EX.out m qa
     have K3:=jj eM.out aF qa;obtain⟨u,hu⟩:∃ u:Nat,a.states[s][m].to=u:=⟨a.states[s][m].to.toNat,by omega⟩;have Pe:u<a.states.length:=by omega
     have Aa:=aa (Re a s m u aF qa Pe hu);rw[hu]at d7;have xA:=K3.1;obtain⟨b4,o4,e4,y,cy,hy⟩:=EA.out u Pe;obtain⟨rfl,rfl⟩:b1=b4/\o1=o4:=by simpa using e4
     rw[Nat.mul_one]at cy;obtain⟨py,qy,rfl,y1,y2,ey⟩:=hy.at;have EY:=aa ey;have CY:=aa cy;have V9:=aa (fun j (hj:j<a.states[u].length)=>(jj eM.out Pe hj).1);have g0:=ay dJ d0;have g1:=ay dJ d1;have g2:=ay dJ d2;have g3:=ay dJ d3;have g4:=ay dJ d4;have g5:=ay dJ d5;have g6:=ay dJ d6;have g7:=ay dJ d7;clear hu K3 hy cy ey e4 d0 d1 d2 d3 d4 d5 d6 d7;generalize a.states[s][m]=mv at g0 g1 g2 g3 g4 g5 g6 Aa xA
     go_wp2
     refine bw (fun W=>Below ws.heap.size ws W/\W.heap[ws.heap.size]?=some (.cells #[.int .i64 mv.r.g.n,.int .i64 mv.r.g.h0,.int .i64 mv.r.g.h1,.int .i64 mv.r.g.h2,.int .i64 mv.r.g.h3,.int .i64 mv.r.g.h4,.int .i64 mv.r.f,.int .i64 u] 98)) ⟨by go_grown,ar _ _⟩ (fun W6 Jv=>?_);obtain⟨fD,hM6⟩:=Jv;have P5:=aa hM6;clear hM6 g0 g1 g2 g3 g4 g5 g6 g7 t1 c1 dM aG
     go_loopw [6] (fun i wt=>Below W6.heap.size W6 wt/\∃ q:Nat,q<=a.states[u].length/\i=.int .i64 q/\∀ j,j<q->(!cL mv.r.f (a.states[u].getD j default).r.f)=false) (fun i _=>a.states[u].length - (intOf i).toNat)
     case atStart=>exact⟨Below.refl _ _,0,by omega,rfl,by simp⟩
     case round=>
      obtain⟨th,q,hq,rfl,aO⟩:=hrel
      rename World=>wt
      have H3:=aa aO;clear aO;have RL:=aj fD th;have hbt5:=aj rI RL;have oy:=aj dJ RL;have t1:=ae (ak hbt5 HA.out);have t2:=ae (ak th P5.out);have c2:=ay oy CY.out;by_cases ot:q<a.states[u].length
      ·obtain⟨b5,o5,rfl,⟨_,_,_,_,_,_,⟨f6,_⟩⟩,_⟩:=EY.out q ot
       have wx:=V9.out q ot;have iJ:=aa (aA default ot);generalize a.states[u][q]=nx at f6 wx iJ;have bE:=aa (fun x:ExtW wt=>Calls.ext_of ((JU mv.r.f nx.r.f (by omega) (by omega) x.val).mono (fun _ _ ⟨h1,h2⟩=>⟨h1,h2 ▸ Below.refl _ _⟩)))
       go_wp2_with fail
       have r1:∀ x:ExtW wt,∀ o,x.val.cell? ⟨w.heap.size,o,none⟩=_:=fun x=>ae (ak (aj hbt5 x.ext) HA.out)
       have r2:∀ x:ExtW wt,∀ o,x.val.cell? ⟨ws.heap.size,o,none⟩=_:=fun x=>ae (ak (aj th x.ext) P5.out)
       have r3:∀ x:ExtW wt,x.val.cell? ⟨b1,o1+u,none⟩=_:=fun x=>x.cell c2
       have r4:∀ x:ExtW wt,x.val.cell? _=_:=fun x=>x.cell (ay oy f6)
       clear t1 t2 c2 f6;cases cK:cL mv.r.f nx.r.f with
       | false=>
        rw[cK]at bE;have kS:=aa cK;clear cK;refine aK (by kernel_rfl) (by kernel_rfl) ?_
        repeat (go_big_quiet_step ((go_at_call 170;exact bE.out _)))
        refine wpQuiet_nil ?_;intro _ bV;obtain⟨xq,bC⟩:=bV;subst bC;clear r1 r2 r3 r4 bE
        go_wp2_with fail
        go_ret
        refine⟨aV ?_,aj oy xq.ext⟩;rw[HV.out,dP _ (cnt a.states s+m) _ (by omega) (by rw[Aa.out];exact dP _ q _ ot (by rw[iJ.out,kS.out];rfl))];rfl
       | true=>
        rw[cK]at bE;have kS:=aa cK;clear cK;refine aK (by kernel_rfl) (by kernel_rfl) ?_
        repeat (go_big_quiet_step ((go_at_call 170;exact bE.out _)))
        refine wpQuiet_nil ?_;intro _ bV;obtain⟨xq,bC⟩:=bV;subst bC;clear r1 r2 r3 r4 bE
        go_wp2_with fail
        go_roundw
        case rel=>exact⟨aj th xq.ext,q+1,by omega,by go_num,aQ H3.out (by rw[iJ.out,kS.out];rfl)⟩
        case measure=>simp[intOf];omega
      ·go_wp2_with fail
       go_roundw
       case rel=>
        refine⟨aj mq RL,m+1,by omega,by go_num,?_⟩;rw[<-Nat.add_assoc];refine aQ H2.out ?_;rw[Aa.out];exact eG _ _ fun j hj=>H3.out j (by omega)
       case measure=>simp[intOf];omega
    ·go_wp2_with fail
     go_roundw
     case rel=>
      refine⟨aj dW mq,s+1,by omega,by go_num,?_⟩;rw[IJ.out];exact fun j hj=>H2.out j (by omega)
     case measure=>simp[intOf];omega
  ·go_wp2
   go_ret
   refine⟨aV ?_,aJ⟩;rw[HV.out,eG]
   ·rfl
   ·intro j hj
    refine H.out j ?_;rw[oR _ _ (by omega)];exact hj
theorem Gm(a:Adv) (v:Value) (w:World) (hv:bn w v a.states) (hN:movesN a.states<2305843009213693952) :
  Calls Tryz.prog 87 #[.agg #[.int .i64 a.n,v]] w fun e w'=>e=.returned (.int .i64 (advE a))/\Below w.heap.size w w':=by
 have G:=aa hv;obtain⟨pa,ca,rfl,la1,la2,ea⟩:=hv.at;clear hv;have EA:=aa ea;clear ea;by_cases c0:a.n<1
 ·have HR:Hid (advE a=2):=by(have h:advE a=2:=by(unfold advE;rw[if_pos (by omega)]));exact h
  go_enter Tryz.func87,Tryz.ntmps87
  go_wp2
  go_ret
  exact⟨aC HR.out.symm,by go_grown⟩
 by_cases c1:5<a.n
 ·have HR:Hid (advE a=2):=by(have h:advE a=2:=by(unfold advE;rw[if_pos (by omega)]));exact h
  go_enter Tryz.func87,Tryz.ntmps87
  go_wp2
  go_ret
  exact⟨aC HR.out.symm,by go_grown⟩
 by_cases c2:a.states.length<1
 ·have HR:Hid (advE a=5):=by(have h:advE a=5:=by(unfold advE;rw[if_neg (by omega),if_pos (by omega)]));exact h
  go_enter Tryz.func87,Tryz.ntmps87
  go_wp2
  go_ret
  exact⟨aC HR.out.symm,by go_grown⟩
 by_cases c3:256<a.states.length
 ·have HR:Hid (advE a=5):=by(have h:advE a=5:=by(unfold advE;rw[if_neg (by omega),if_pos (by omega)]));exact h
  go_enter Tryz.func87,Tryz.ntmps87
  go_wp2
  go_ret
  exact⟨aC HR.out.symm,by go_grown⟩
 have HC:=aa (fun W (hb:Below w.heap.size w W)=>Cl a.n _ a.states W (G.out.up up_moves hb) hN)
 have HV:Hid (advE a=if 4096<movesN a.states then 5 else if aP a.states.length (fun s=>stateE a (a.states.getD s []))≠0 then aP a.states.length (fun s=>stateE a (a.states.getD s [])) else if growsB a then 0 else 21):=by
  have h:advE a=if 4096<movesN a.states then 5 else if aP a.states.length (fun s=>stateE a (a.states.getD s []))≠0 then aP a.states.length (fun s=>stateE a (a.states.getD s [])) else if growsB a then 0 else 21:=by
   unfold advE;rw[if_neg (by omega)];by_cases h4:4096<movesN a.states
   ·rw[if_pos (by omega),if_pos h4]
   ·rw[if_neg (by omega),if_neg h4]
  exact h
 generalize movesN a.states=mN at HC HV hN
 go_enter Tryz.func87,Tryz.ntmps87
 go_wp2_with fail
 refine aT (fun W=>Below w.heap.size w W/\W.heap[w.heap.size]?=some (.cells #[.int .i64 a.n,.slice pa a.states.length ca] 27)) ⟨by go_grown,ar _ _⟩ (fun W0 bd=>?_);obtain⟨aH,bD⟩:=bd;refine(HC.out W0 aH).mono ?_;rintro e W1 ⟨rfl,aG⟩;have bS:=aj aH aG;have HA:=aa (ak aG bD);have t1:=ae HA.out;clear bD HC;by_cases c4:4096<mN
 ·have HR:Hid (advE a=5):=by(have h:advE a=5:=by(rw[HV.out,if_pos c4]));exact h
  go_wp2_with fail
  go_ret
  exact⟨aC HR.out.symm,bS⟩
 have db:Hid (advE a=if aP a.states.length (fun s=>stateE a (a.states.getD s []))≠0 then aP a.states.length (fun s=>stateE a (a.states.getD s [])) else if growsB a then 0 else 21):=by
  have h:advE a=if aP a.states.length (fun s=>stateE a (a.states.getD s []))≠0 then aP a.states.length (fun s=>stateE a (a.states.getD s [])) else if growsB a then 0 else 21:=by rw[HV.out,if_neg c4]
  exact h
 clear HV
 go_wp2_with fail
 clear t1 c0 c1 c2 c3 c4
 go_loopw [3] (fun i wr=>Below W1.heap.size W1 wr/\∃ s:Nat,s<=a.states.length/\i=.int .i64 s/\∀ j,j<s->stateE a (a.states.getD j [])=0) (fun i _=>a.states.length - (intOf i).toNat)
 case atStart=>exact⟨Below.refl _ _,0,by omega,rfl,by simp⟩
 case round=>
  obtain⟨dW,s,hs,rfl,aO⟩:=hrel;have H:=aa aO;clear aO;have aJ:=aj bS dW;have t1:=ae (ak dW HA.out);by_cases aF:s<a.states.length
  ·obtain⟨b1,o1,rfl,x,cx,hx⟩:=EA.out s aF
   rw[Nat.mul_one]at cx;have HX:=aa hx;obtain⟨px,qx,rfl,_⟩:=hx;have CX:=aa cx;have c1:=ay aJ cx
   have HS:Hid (stateE a (a.states.getD s [])=if a.states[s].length=0 then 19 else aP a.states[s].length (dF a a.states[s])):=by
    have h:stateE a (a.states.getD s [])=if a.states[s].length=0 then 19 else aP a.states[s].length (dF a a.states[s]):=by rw[aA [] aF];rfl
    exact h
   clear cx;by_cases h0:a.states[s].length=0
   ·have Pt:((a.states[s].length:Int) == 0)=true:=by simp[h0]
    have oI:(a.states[s].length == 0)=true:=by simp[h0]
    have HR:Hid (stateE a (a.states.getD s [])=19):=by(have h:stateE a (a.states.getD s [])=19:=by(rw[HS.out,if_pos h0]));exact h
    have H0:=aa h0;clear h0
    go_wp2_with fail
    go_ret
    exact⟨aC (by rw[db.out,<-bh (f:=fun s=>stateE a (a.states.getD s [])) s 19 aF H.out HR.out (by decide)];rfl),aJ⟩
   ·have Pt:((a.states[s].length:Int) == 0)=false:=beq_eq_false_iff_ne.2 (by omega)
    have oI:(a.states[s].length == 0)=false:=beq_eq_false_iff_ne.2 (by omega);have HR:Hid (stateE a (a.states.getD s [])=aP a.states[s].length (dF a a.states[s])):=by(have h:stateE a (a.states.getD s [])=aP a.states[s].length (dF a a.states[s]):=by(rw[HS.out,if_neg h0]));exact h
    clear h0
    go_wp2_with fail
    clear t1 c1 Pt oI
    go_loopw [4] (fun i ws=>Below wr.heap.size wr ws/\∃ m:Nat,m<=a.states[s].length/\i=.int .i64 m/\∀ j,j<m->dF a a.states[s] j=0) (fun i _=>a.states[s].length - (intOf i).toNat)
    case atStart=>exact⟨Below.refl _ _,0,by omega,rfl,by simp⟩
    case round=>
     obtain⟨mq,m,hm,rfl,aO⟩:=hrel
     rename World=>ws
     have H2:=aa aO;clear aO;have rI:=aj dW mq;have dJ:=aj aJ mq;have t1:=ae (ak rI HA.out);have c1:=ay dJ CX.out;by_cases qa:m<a.states[s].length
     ·have bE:=aa (fun x:ExtW ws=>Calls.ext_of (ON a (some ⟨b1,o1,none⟩) ca _ a.states[s] m qa x.val (HX.out.up up_move (aj dJ x.ext))))
      generalize rV:dF a a.states[s] m=em at bE;have xZ:=aa rV;clear rV
      go_wp2_with fail
      have r1:∀ x:ExtW ws,∀ o,x.val.cell? ⟨w.heap.size,o,none⟩=_:=fun x=>ae (ak (aj rI x.ext) HA.out)
      have r3:∀ x:ExtW ws,x.val.cell? _=_:=fun x=>x.cell c1
      clear t1 c1;refine aK (by kernel_rfl) (by kernel_rfl) ?_
      repeat (go_big_quiet_step ((go_at_call 127;exact bE.out _)))
      refine wpQuiet_nil ?_;intro _ bV;obtain⟨xq,bC⟩:=bV;subst bC;clear r1 r3 bE;by_cases sJ:em=0
      ·subst sJ
       go_wp2_with fail
       go_roundw
       case rel=>exact⟨aj mq xq.ext,m+1,by omega,by go_num,aQ H2.out xZ.out⟩
       case measure=>simp[intOf];omega
      ·have hem':(em != 0)=true:=by simpa using sJ
       go_wp2_with fail
       go_ret
       refine⟨aC ?_,aj dJ xq.ext⟩;have e1:em=stateE a (a.states.getD s []):=by rw[HR.out];exact bh m em qa H2.out xZ.out sJ
       rw[db.out,<-bh (f:=fun s=>stateE a (a.states.getD s [])) s em aF H.out e1.symm sJ,if_pos sJ]
     ·go_wp2_with fail
      go_roundw
      case rel=>exact⟨aj dW mq,s+1,by omega,by go_num,aQ H.out (by rw[HR.out];exact cp _ _ fun j hj=>H2.out j (by omega))⟩
      case measure=>simp[intOf];omega
  ·have aM:∀ j,j<a.states.length->stateE a (a.states.getD j [])=0:=fun j hj=>H.out j (by omega)
   have cU:Hid (advE a=if growsB a then 0 else 21):=by
    have h:advE a=if growsB a then 0 else 21:=by rw[db.out,cp _ _ aM];simp
    exact h
   have HG:=aa (Me a _ wr (G.out.up up_moves aJ) aM);clear aM;generalize growsB a=gb at HG cU;cases gb with
   | true=>
    go_wp2_with fail
    refine HG.out.mono ?_;rintro e w2 ⟨rfl,aS⟩
    go_wp2_with fail
    go_ret
    exact⟨aC (by rw[cU.out];rfl),aj aJ aS⟩
   | false=>
    go_wp2_with fail
    refine HG.out.mono ?_;rintro e w2 ⟨rfl,aS⟩
    go_wp2_with fail
    go_ret
    exact⟨aC (by rw[cU.out];rfl),aj aJ aS⟩
def sv(a:Adv):Bool:=decide (a.states.length<=8)&&decide (movesN a.states<=40)
theorem Um(l:List (List Mv)) (B:Nat) (h:∀ k (hk:k<l.length),l[k].length<=B):∀ k,k<=l.length->cnt l k<=k * B:=by
 intro k;induction k with
 | zero=>intro _;rw[oQ];exact Nat.zero_le _
 | succ k ih=>
  intro hk;rw[kD l k (by omega),Nat.succ_mul];exact Nat.add_le_add (ih (by omega)) (h k (by omega))
theorem OO{w:World} {v:Value} {l:List (List Mv)} (hv:bn w v l):movesN l<=l.length * 17592186044416:=by
 obtain⟨pa,ca,rfl,la1,la2,ea⟩:=hv.at
 have:=Um l 17592186044416 (fun k hk=>by
  obtain⟨b,o,_,x,_,hx⟩:=ea k hk;obtain⟨_,_,_,_,fF,_⟩:=hx
  exact fF) l.length (Nat.le_refl _)
 rwa [oR l _ (Nat.le_refl _)]at this
theorem J9(a:Adv) (v:Value) (w:World) (hv:bn w v a.states) :
  Calls Tryz.prog 55 #[.agg #[.int .i64 a.n,v]] w fun e w'=>e=.returned (.bool (sv a))/\Below w.heap.size w w':=by
 have hN:=OO hv;have HV:Hid (sv a=(decide (a.states.length<=8)&&decide (movesN a.states<=40))):=by exact rfl
 by_cases h8:a.states.length<=8
 ·have HC:=aa (fun W (hb:Below w.heap.size w W)=>Cl a.n _ a.states W (hv.up up_moves hb) (by omega))
  obtain⟨pa,ca,rfl,_⟩:=hv;have H8:Hid (decide (a.states.length<=8)=true):=by(have h:=decide_eq_true h8);exact h
  generalize movesN a.states=mN at HC HV hN
  go_enter Tryz.func55,Tryz.ntmps55
  go_wp2_with fail
  refine(HC.out _ (by go_grown)).mono ?_;rintro e W1 ⟨rfl,aG⟩
  go_wp2_with fail
  go_ret
  refine⟨aV ?_,aj (by go_grown) aG⟩;rw[HV.out,H8.out];simp;omega
 ·have H8:Hid (decide (a.states.length<=8)=false):=by(have h:=decide_eq_false h8);exact h
  obtain⟨pa,ca,rfl,_⟩:=hv
  go_enter Tryz.func55,Tryz.ntmps55
  go_wp2_with fail
  go_ret
  exact⟨aV (by rw[HV.out,H8.out];rfl),by go_grown⟩
def sw(c:List Int) (n:Int) (m:Mv):Int:=min (n+c.getD m.to.toNat 0) 4097
def rowN(c:List Int) (l:List Mv):Int:=l.foldl (sw c) 0
def mU(a:Adv) (c:List Int):List Int:=a.states.map (rowN c)
def eW(a:Adv):Nat->List Int
 | 0=>List.replicate a.states.length 1
 | k+1=>mU a (eW a k)
def numberS(a:Adv) (k:Nat):Int:=(eW a k).getD 0 0
def Im(c:List Int):Prop:=∀ x∈c,0<=x/\x<=4097
theorem DU{c:List Int} (h:Im c) (i:Nat):0<=c.getD i 0/\c.getD i 0<=4097:=by
 by_cases hi:i<c.length
 ·rw[aA 0 hi];exact h _ (List.getElem_mem hi)
 ·rw[List.getD_eq_getElem?_getD,List.getElem?_eq_none (by omega)];simp
theorem Rf{c:List Int} (h:Im c) {n:Int} (hn:0<=n/\n<=4097) (m:Mv):0<=sw c n m/\sw c n m<=4097:=by
 have:=DU h m.to.toNat;unfold sw;omega
theorem TX{c:List Int} (h:Im c) (l:List Mv):∀ n:Int,(0<=n/\n<=4097)->0<=l.foldl (sw c) n/\l.foldl (sw c) n<=4097:=by
 induction l with
 | nil=>intro n hn;exact hn
 | cons m r ih=>intro n hn;exact ih _ (Rf h hn m)
theorem Kt{c:List Int} (h:Im c) (l:List Mv):0<=rowN c l/\rowN c l<=4097:=TX h l 0 (by omega)
theorem Rg{c:List Int} (h:Im c) (a:Adv):Im (mU a c):=fun x hx=>by
 obtain⟨l,_,rfl⟩:=List.mem_map.1 hx;exact Kt h l
theorem Io(a:Adv) (k:Nat):Im (eW a k):=by
 induction k with
 | zero=>intro x hx;rw[(List.mem_replicate.1 hx).2];omega
 | succ k ih=>exact Rg ih a
theorem OP(a:Adv) (k:Nat):(eW a k).length=a.states.length:=by
 cases k with
 | zero=>simp[eW]
 | succ k=>simp[eW,mU]
theorem OQ(c:List Int) (l:List Mv) (i:Nat) (hi:i<l.length):rowN c (l.take (i+1))=sw c (rowN c (l.take i)) l[i]:=by
 unfold rowN;rw[List.take_succ_eq_append_getElem hi,List.foldl_append];rfl
theorem Fe{w:World} {v:Value} {t:TypeId} (j:Nat) (u:Value) (hj:[v][j]?=some u):(w.alloc (.cells #[v] t)).cell? (Addr.add ⟨w.heap.size,0,none⟩ j)=some u:=by
 cases j with
 | zero=>simp at hj;subst hj;simp[Addr.add,ae (ar w _)]
 | succ j=>simp at hj
theorem TY(P:Program) (ats:Array TypeId) (ty:TypeId) (x y:Int) (w:World):(Builtin.min_ ats ty #[.int .i64 x,.int .i64 y]).run P w=.ok (.int .i64 (min x y)) w:=by
 have h:(if y<x then y else x)=min x y:=by omega
 simp[Builtin.min_,Builtin.min2,h]
theorem DV(a:Adv) (v:Value) (n:Nat) (hn:n<=6) (w:World) (hv:bn w v a.states) (gL:∀ s,s<a.states.length->stateE a (a.states.getD s [])=0) (h1:1<=a.states.length/\a.states.length<=256) :
  Calls Tryz.prog 88 #[.agg #[.int .i64 a.n,v],.int .i64 n,.int .i64 4096] w fun e w'=>e=.returned (.int .i64 (numberS a n))/\Below w.heap.size w w':=by
 obtain⟨pa,ca,rfl,la1,la2,ea⟩:=hv.at;have EA:=aa ea;have eM:=aa gL;clear hv ea gL;obtain⟨i0,hi,dp,du,eB⟩:=info_parts Tryz.infoInt
 go_enter Tryz.func88,Tryz.ntmps88
 go_wp2
 refine bw (fun W=>Below w.heap.size w W/\W.heap[w.heap.size]?=some (.cells #[.int .i64 a.n,.slice pa a.states.length ca] 27)) ⟨by go_grown,ar _ _⟩ (fun W0 bd=>?_);obtain⟨aH,bD⟩:=bd;have HA:=aa bD;clear bD
 go_loopw [7,8] (fun o i wr=>Below W0.heap.size W0 wr/\∃ k:Nat,k<=a.states.length/\i=.int .i64 k/\wr.ownsRow W0.heap.size 3 1 o k (List.replicate k (.int .i64 1))) (fun _ i _=>a.states.length - (intOf i).toNat)
 case atStart=>exact⟨Below.refl _ _,0,by omega,rfl,World.ownsRow_nil _ _ _ _⟩
 case round=>
  obtain⟨dW,k,hk,rfl,aW⟩:=hrel;have da:=aa aW;obtain⟨ao,co,rfl,_⟩:=ig aW;clear aW;have t1:=ae (ak dW HA.out);by_cases aF:k<a.states.length
  ·have hA:Below wr.heap.size wr (wr.alloc (.cells #[.int .i64 1] 3)):=by go_grown
   have fK:=aa (lW da.out hA);have bZ:=aa (fun j u hj=>Fe (w:=wr) (v:=.int .i64 1) (t:=3) j u hj);clear hA;have dJ:=dW.size
   go_wp2_with (at_builtin;(refine wpList_append_own _ rfl (.tmp 21) (.tmp 22) 36 rfl W0.heap.size 3 i0 (.int .i64 0) 1 8 Tryz.underlying36 hi dp du eB rfl (by decide) _ k (List.replicate k (.int .i64 1)) rfl fK.out ⟨wr.heap.size,0,none⟩ 1 1 [.int .i64 1] rfl rfl bZ.out (by simp[Value.oneCell']) (by unfold maxLen;omega) (by omega) (by simp;omega) ?_;intro v' w2 lh iX _))
   go_roundw
   case rel=>
    refine⟨Below.grown (w:=wr.alloc (.cells #[.int .i64 1] 3)) (dW.alloc dJ _) iX (by simp;omega) (fun g hg=>(Dy da.out g hg).1),k+1,by omega,by go_num,?_⟩;rw[List.replicate_succ'];exact lh
   case measure=>simp[intOf];omega
  ·obtain rfl:k=a.states.length:=by omega
   have cK:(List.replicate a.states.length (Value.int .i64 1))=(eW a 0).map (Value.int .i64):=by simp[eW]
   rw[cK]at da;clear cK
   go_wp2
   clear t1
   go_loopw [7,9] (fun o i ws=>Below wr.heap.size wr ws/\∃ k:Nat,k<=n/\i=.int .i64 k/\ws.ownsRow W0.heap.size 3 1 o a.states.length ((eW a k).map (Value.int .i64))) (fun _ i _=>n - (intOf i).toNat)
   case atStart=>exact⟨Below.refl _ _,0,by omega,rfl,da.out⟩
   case round=>
    obtain⟨mq,k,hk,rfl,aW⟩:=hrel
    rename World=>ws
    have HOWN2:=aa aW;have dJ:=aj dW mq;obtain⟨ac,cc,rfl,_,_,_,_,gM⟩:=ig aW;have Gz:=aa gM;clear aW gM;have zZ:=aa (OP a k);have HIO:=aa (Io a k);by_cases aF:k<n
    ·have t1:=ae (ak dJ HA.out)
     go_wp2
     clear t1
     go_loopw [10,11] (fun o i wt=>Below ws.heap.size ws wt/\∃ s:Nat,s<=a.states.length/\i=.int .i64 s/\wt.ownsRow ws.heap.size 3 1 o s (((mU a (eW a k)).take s).map (Value.int .i64))) (fun _ i _=>a.states.length - (intOf i).toNat)
     case atStart=>exact⟨Below.refl _ _,0,by omega,rfl,World.ownsRow_nil _ _ _ _⟩
     case round=>
      obtain⟨th,s,hs,rfl,aW⟩:=hrel
      rename World=>wt
      have Mm:=aa aW;have oy:=aj dJ th;have hbtw:=aj aH oy;obtain⟨an,cn,rfl,_⟩:=ig aW;clear aW;have t1:=ae (ak oy HA.out);by_cases Vn:s<a.states.length
      ·obtain⟨b1,o1,rfl,x,cx,hx⟩:=EA.out s Vn
       rw[Nat.mul_one]at cx;obtain⟨px,qx,rfl,x1,x2,ex⟩:=hx.at;have EX:=aa ex;have c1:=ay hbtw cx
       have iJ:Hid ((mU a (eW a k)).take (s+1)=(mU a (eW a k)).take s++[rowN (eW a k) a.states[s]]):=by
        have h:(mU a (eW a k)).take (s+1)=(mU a (eW a k)).take s++[rowN (eW a k) a.states[s]]:=by
         rw[List.take_succ_eq_append_getElem (by simp[mU];exact Vn)];simp[mU]
        exact h
       have V9:=aa (fun j (hj:j<a.states[s].length)=>(jj eM.out Vn hj).2);clear hx ex cx
       go_wp2
       go_loop [12,13] (fun o i=>∃ m:Nat,m<=a.states[s].length/\i=.int .i64 m/\o=.int .i64 (rowN (eW a k) (a.states[s].take m))) (fun _ i=>a.states[s].length - (intOf i).toNat)
       case atStart=>exact⟨0,by omega,rfl,by simp[rowN]⟩
       case round=>
        obtain⟨m,hm,rfl,rfl⟩:=hrel;have U8:=Kt HIO.out (a.states[s].take m);by_cases qa:m<a.states[s].length
        ·obtain⟨b3,o3,rfl,_,⟨d7,_⟩⟩:=EX.out m qa
         have sF:=V9.out m qa;obtain⟨u,hu⟩:∃ u:Nat,a.states[s][m].to=u:=⟨a.states[s][m].to.toNat,by omega⟩
         have gO:Hid (rowN (eW a k) (a.states[s].take (m+1))=min (rowN (eW a k) (a.states[s].take m)+(eW a k).getD u 0) 4097):=by
          have h:rowN (eW a k) (a.states[s].take (m+1))=min (rowN (eW a k) (a.states[s].take m)+(eW a k).getD u 0) 4097:=by
           rw[OQ _ _ m qa];unfold sw;rw[hu,Int.toNat_natCast]
          exact h
         rw[hu]at d7;have Pe:u<a.states.length:=by omega
         have CQ:=DU HIO.out u;have Ux:u<(eW a k).length:=by rw[zZ.out];exact Pe
         obtain⟨b,e4,hc⟩:=Gz.out u (.int .i64 ((eW a k).getD u 0)) (by rw[aA 0 Ux];simp);have c2:=ay hbtw d7;subst e4;have c3:=ay th hc;have hmin:=TY Tryz.prog;generalize rowN (eW a k) (a.states[s].take m)=r0 at U8 gO;generalize (eW a k).getD u 0=g0 at CQ gO c3 hc;clear d7 hc hu sF Ux
         go_wp2
         go_round
         case rel=>exact⟨m+1,by omega,by go_num,by rw[gO.out]⟩
         case measure=>simp[intOf];omega
        ·obtain rfl:m=a.states[s].length:=by omega
         rw[List.take_length];rw[List.take_length]at U8;generalize rowN (eW a k) a.states[s]=r0 at U8 iJ;have hA:Below wt.heap.size wt (wt.alloc (.cells #[.int .i64 r0] 3)):=by go_grown
         have HOWN4:=aa (lW Mm.out hA);have bZ:=aa (fun j u hj=>Fe (w:=wt) (v:=.int .i64 r0) (t:=3) j u hj);have hbs3:=th.size;clear hA
         go_wp2_with (at_builtin;(refine wpList_append_own _ rfl (.tmp 63) (.tmp 65) 36 rfl ws.heap.size 3 i0 (.int .i64 0) 1 8 Tryz.underlying36 hi dp du eB rfl (by decide) _ s (((mU a (eW a k)).take s).map (Value.int .i64)) rfl HOWN4.out ⟨wt.heap.size,0,none⟩ 1 1 [.int .i64 r0] rfl rfl bZ.out (by simp[Value.oneCell']) (by unfold maxLen;omega) (by omega) (by simp;omega) ?_;intro v' w2 lh iX _))
         go_roundw
         case rel=>
          refine⟨Below.grown (w:=wt.alloc (.cells #[.int .i64 r0] 3)) (th.alloc hbs3 _) iX (by simp;omega) (fun g hg=>(Dy Mm.out g hg).1),s+1,by omega,by go_num,?_⟩;rw[iJ.out,List.map_append];exact lh
         case measure=>simp[intOf];omega
      ·obtain rfl:s=a.states.length:=by omega
       go_wp2
       go_roundw
       case rel=>
        refine⟨aj mq th,k+1,by omega,by go_num,?_⟩;have h:=lr (base':=W0.heap.size) Mm.out (by have:=dJ.size;exact this);rw[List.take_of_length_le (by simp[mU])]at h;exact h
       case measure=>simp[intOf];omega
    ·obtain rfl:k=n:=by omega
     obtain⟨b,rfl,hc⟩:=Gz.out 0 (.int .i64 (numberS a k)) (by
      have h0:0<(eW a k).length:=by rw[zZ.out];omega
      unfold numberS;rw[aA 0 h0]
      simp)
     go_wp2
     go_ret
     exact⟨rfl,aj aH dJ⟩
theorem DW(p:Pb) (vc vs:Value) (w:World) (hc:bJ w vc p.t.cases) (hs:bn w vs p.a.states) (hN:movesN p.a.states<2305843009213693952) :
  Calls Tryz.prog 56 #[jI p vc vs] w fun e w'=>e=.returned (.int .i64 (probE p))/\Below w.heap.size w w':=by
 have GC:=aa hc;have GS:=aa hs;obtain⟨pc,cc,rfl,_⟩:=hc.at;obtain⟨ps,cs,rfl,_⟩:=hs.at;clear hc hs;have HV:Hid (probE p=if taskE p.t≠0 then taskE p.t else if advE p.a≠0 then advE p.a else if p.t.n≠p.a.n then 22 else if p.rounds<0\/6<p.rounds then 2 else 0):=by exact rfl
 go_enter Tryz.func56,Tryz.ntmps56
 go_wp2_with fail
 refine aT (fun W=>Below w.heap.size w W/\W.heap[w.heap.size]?=some (.cells (rs p (.slice pc p.t.cases.length cc) (.slice ps p.a.states.length cs)) 29)) ⟨by go_grown,ar _ _⟩ (fun W0 bd=>?_);obtain⟨aH,bD⟩:=bd;refine(DT p.t _ W0 (GC.out.up up_case aH)).mono ?_;rintro e w1 ⟨rfl,aG⟩;have bU:=aj aH aG;have fk:=ak aG bD;have t1:=ae fk;generalize taskE p.t=et at HV;have fd:=aa fk;clear fk bD;by_cases iH:et=0
 case neg=>
  have D7:(et != 0)=true:=by simpa using iH
  go_wp2_with fail
  go_ret
  exact⟨aC (by rw[HV.out,if_pos iH]),bU⟩
 subst iH
 go_wp2_with fail
 refine(Gm p.a _ w1 (GS.out.up up_moves bU) hN).mono ?_;rintro e w2 ⟨rfl,aS⟩;have fy:=aj bU aS;have t2:=ae (ak aS fd.out);clear t1;generalize advE p.a=ea at HV;by_cases wh:ea=0
 case neg=>
  have hea':(ea != 0)=true:=by simpa using wh
  go_wp2_with fail
  go_ret
  exact⟨aC (by rw[HV.out,if_neg (by simp),if_pos wh]),fy⟩
 subst wh
 go_wp2_with fail
 all_goals
  go_ret
  refine⟨aC ?_,fy⟩;rw[HV.out]
  go_light
  grind
theorem J'{p:Pb} (h:probE p=0):∃ n:Nat,p.rounds=n/\n<=6:=⟨p.rounds.toNat,by have:=cX h;omega,by have:=cX h;omega⟩
def numberP(p:Pb):Int:=p.t.cases.length * numberS p.a p.rounds.toNat
theorem Mf(a:Adv) (n:Nat):0<=numberS a n/\numberS a n<=4097:=DU (Io a n) 0
theorem Cm(p:Pb) (vc vs:Value) (w:World) (hc:bJ w vc p.t.cases) (hs:bn w vs p.a.states) (hp:probE p=0) :
  Calls Tryz.prog 57 #[jI p vc vs,.int .i64 4096] w fun e w'=>e=.returned (.int .i64 (numberP p))/\Below w.heap.size w w':=by
 obtain⟨ht,ha,hna,_,_⟩:=cX hp;clear hna;obtain⟨h1,h2,_⟩:=iP ha;have bW:=(dY ht).2.2.2.1;obtain⟨n,hn,hn6⟩:=J' hp;have HV:Hid (numberP p=p.t.cases.length * numberS p.a n):=by(have h:numberP p=p.t.cases.length * numberS p.a n:=by(unfold numberP;rw[hn,Int.toNat_natCast]));exact h
 have bE:=aa (fun W (hb:Below w.heap.size w W)=>DV p.a vs n hn6 W (hs.up up_moves hb) h2 h1);have Jh:=Mf p.a n;generalize numberS p.a n=nn at bE HV Jh;obtain⟨pc,cc,rfl,_⟩:=hc;obtain⟨ps,cs,rfl,_⟩:=hs
 have HM:Hid (IntKind.i64.wrap ((p.t.cases.length:Int) * nn)=p.t.cases.length * nn):=by
  have h:IntKind.i64.wrap ((p.t.cases.length:Int) * nn)=p.t.cases.length * nn:=by
   have h1:(0:Int)<=(p.t.cases.length:Int) * nn:=Int.mul_nonneg (by omega) (by omega);have h2:(p.t.cases.length:Int) * nn<=1024 * 4097:=Int.mul_le_mul (by omega) (by omega) (by omega) (by omega);exact IntWalk.i64_in _ (by omega)
  exact h
 rw[<-hn]at bE;clear ht ha h1 h2 hp Jh hn
 go_enter Tryz.func57,Tryz.ntmps57
 go_wp2_with fail
 refine bw (fun V=>Below w.heap.size w V/\V.heap[w.heap.size]?=some (.cells (rs p (.slice pc p.t.cases.length cc) (.slice ps p.a.states.length cs)) 29)) ⟨by go_grown,ar _ _⟩ (fun V hV=>?_);obtain⟨aH,bD⟩:=hV;have HCA:=aa (fun x:ExtW V=>Calls.ext_of (bE.out x.val (aj aH x.ext)));have r1:∀ x:ExtW V,∀ o,x.val.cell? ⟨w.heap.size,o,none⟩=_:=fun x=>ae (ak x.ext bD)
 have hM:=HM.out;clear bD;refine aK (by kernel_rfl) (by kernel_rfl) ?_
 repeat (go_big_quiet_step ((go_at_call 88;exact HCA.out _)))
 refine wpQuiet_nil ?_;intro _ bV;obtain⟨xq,bC⟩:=bV;subst bC;clear r1 bE hM
 go_wp2_with fail
 go_ret
 exact⟨aC (by rw[HV.out]),aj aH xq.ext⟩
def pK(p:Pb):Bool:=
 if fewTB p.t=false then false else if sv p.a=false then false else if 3<p.t.n/\p.t.n<=5 then false
 else if probE p≠0 then true else decide (numberP p<=60) || decide (4096<numberP p)
theorem Ip(p:Pb) (vc vs:Value) (w:World) (hc:bJ w vc p.t.cases) (hs:bn w vs p.a.states) :
  Calls Tryz.prog 32 #[jI p vc vs] w fun e w'=>e=.returned (.bool (pK p))/\Below w.heap.size w w':=by
 have GC:=aa hc;have GS:=aa hs;obtain⟨pc,cc,rfl,_⟩:=hc;obtain⟨ps,cs,rfl,_⟩:=hs;have HV:Hid (pK p=if fewTB p.t=false then false else if sv p.a=false then false else if 3<p.t.n/\p.t.n<=5 then false else if probE p≠0 then true else decide (numberP p<=60) || decide (4096<numberP p)):=by exact rfl
 have HF:Hid (sv p.a=(decide (p.a.states.length<=8)&&decide (movesN p.a.states<=40))):=by exact rfl
 go_enter Tryz.func32,Tryz.ntmps32
 go_wp2_with fail
 refine aT (fun W=>Below w.heap.size w W/\W.heap[w.heap.size]?=some (.cells (rs p (.slice pc p.t.cases.length cc) (.slice ps p.a.states.length cs)) 29)) ⟨by go_grown,ar _ _⟩ (fun W0 bd=>?_);obtain⟨aH,bD⟩:=bd;refine(Il p.t _ W0 (GC.out.up up_case aH)).mono ?_;rintro e w1 ⟨rfl,aG⟩;have bU:=aj aH aG;have fd:=aa (ak aG bD);have t1:=ae fd.out;clear bD;generalize fewTB p.t=ft at HV;cases ft with
 | false=>
  go_wp2_with fail
  go_ret
  exact⟨aV (by rw[HV.out];rfl),bU⟩
 | true=>
 go_wp2_with fail
 refine(J9 p.a _ w1 (GS.out.up up_moves bU)).mono ?_;rintro e w2 ⟨rfl,aS⟩;have fy:=aj bU aS;have p9:=aa (ak aS fd.out);have t2:=ae p9.out;clear t1;cases P6:sv p.a with
 | false=>
  have SS:=aa P6;clear P6
  go_wp2_with fail
  go_ret
  exact⟨aV (by rw[HV.out,SS.out];rfl),fy⟩
 | true=>
 have KS:movesN p.a.states<=40:=by
  have h:=HF.out;rw[P6]at h;simp at h;exact h.2
 rw[P6]at HV;clear HF P6;by_cases h3:3<p.t.n/\p.t.n<=5
 ·obtain⟨h31,h32⟩:=h3
  have HR:Hid (pK p=false):=by(have h:pK p=false:=by(rw[HV.out];simp[h31,h32]));exact h
  go_wp2_with fail
  go_ret
  exact⟨aV HR.out.symm,fy⟩
 have HR:Hid (pK p=if probE p≠0 then true else decide (numberP p<=60) || decide (4096<numberP p)):=by
  have h:pK p=if probE p≠0 then true else decide (numberP p<=60) || decide (4096<numberP p):=by
   rw[HV.out,if_neg (by simp),if_neg (by simp),if_neg h3]
  exact h
 clear HV;have yc:¬ 3<p.t.n\/(3<p.t.n/\5<p.t.n):=by omega
 clear h3;have HC:=aa (DW p _ _ w2 (GC.out.up up_case fy) (GS.out.up up_moves fy) (by omega));have HNU:=aa (fun (hp:probE p=0) W (hb:Below w.heap.size w W)=>Cm p _ _ W (GC.out.up up_case hb) (GS.out.up up_moves hb) hp);rcases yc with h3|⟨h3,h3b⟩
 all_goals
  go_wp2_with fail
  refine HC.out.mono ?_;rintro e w3 ⟨rfl,bA⟩;have mp:=aj fy bA;have t3:=ae (ak bA p9.out);clear t2;by_cases hp:probE p=0
  case neg=>
   generalize probE p=ep at hp HR;have P1:(ep != 0)=true:=by simpa using hp
   go_wp2_with fail
   go_ret
   exact⟨aV (by rw[HR.out,if_pos hp]),mp⟩
  have C3:=aa (HNU.out hp w3 mp);rw[hp]at HR ⊢;clear hp HNU
  go_wp2_with fail
  refine C3.out.mono ?_;rintro e w4 ⟨rfl,bM⟩;clear t3;generalize numberP p=nn at HR;by_cases h60:nn<=60
  ·go_wp2_with fail
   go_ret
   exact⟨aV (by rw[HR.out,if_neg (by simp),decide_eq_true h60];rfl),aj mp bM⟩
  ·have hd:decide (nn<=60)=false:=decide_eq_false h60
   have HD:=aa hd
   go_wp2_with fail
   go_ret
   exact⟨aV (by rw[HR.out,if_neg (by simp),HD.out];rfl),aj mp bM⟩
theorem Ka{p:Pb} (h:pK p=true):movesN p.a.states<=40:=by
 unfold pK at h;split at h
 ·cases h
 split at h
 ·cases h
 ·rename_i h2
  have:sv p.a=true:=by simpa using h2
  unfold sv at this;simp at this;exact this.2
end Go.Proofs.YtkfgpnbpcpdclaaGreat
namespace Go.Proofs.YtkfgpnbpcpdclaaGreat
open Go.RowKit Go Go.Shelf
attribute [local go_sem] Oper.semAt_some
theorem Iq(a b:Nat) (pa pb:Option Addr) (ca cb:Nat) (w:World) (h:a<=17592186044416) (_:b<=17592186044416) :
  Calls Tryz.prog 11 #[.agg #[.slice pa a ca,.slice pb b cb]] w fun e w'=>QT e/\Below w.heap.size w w':=by
 go_enter Tryz.func11,Tryz.ntmps11
 by_cases h1:a<=60
 ·have h2:decide ((a:Int)<=60)=true:=by simp;omega
  go_wp2_with fail
  go_ret
  exact⟨⟨_,rfl⟩,by go_grown⟩
 ·have h2:decide ((a:Int)<=60)=false:=by simp;omega
  go_wp2_with fail
  go_ret
  exact⟨⟨_,rfl⟩,by go_grown⟩
def Un(p:Pb) (w:World) (e:Ending) (w':World):Prop:=∃ b:Bool,e=.returned (.bool b)/\(b=true->pK p=true)/\Below w.heap.size w w'
theorem Mg(p:Pb) (vc vs:Value) (m:Mac) (vf vy vt vo:Value) (w:World) (hc:bJ w vc p.t.cases) (hs:bn w vs p.a.states) (hf:bF w vf m.first) (hy:eZ w vy m.syms) (ht:dh w vt m.steps) (ho:fj w vo m.out) :
  Calls Tryz.prog 12 #[jI p vc vs,.agg (bX m vf vy vt vo)] w (Un p w):=by
 have HF:=aa hf;have HY:=aa hy;have HT:=aa ht;have HO:=aa ho;have HP:=aa (fun W hb=>Ip p vc vs W (hc.up up_case hb) (hs.up up_moves (w':=W) hb));obtain⟨pc,cc,rfl,_⟩:=hc.at;obtain⟨ps,cs,rfl,_⟩:=hs.at;obtain⟨pf,cf,rfl,_⟩:=hf.at;obtain⟨py,cy,rfl,_⟩:=hy.at;obtain⟨pt,ct,rfl,_⟩:=ht.at;obtain⟨po,co,rfl,_⟩:=ho.at;clear hc hs hf hy ht ho
 go_enter Tryz.func12,Tryz.ntmps12
 go_wp2_with fail
 refine aT (fun W=>Below w.heap.size w W/\W.heap[w.heap.size+1]?=some (.cells (bX m (.slice pf m.first.length cf) (.slice py m.syms.length cy) (.slice pt m.steps.length ct) (.slice po m.out.length co)) 35)) ⟨by go_grown,aX _ _ _⟩ (fun W0 bd=>?_);obtain⟨aH,kg⟩:=bd;refine(HP.out W0 aH).mono ?_;rintro e w1 ⟨rfl,aG⟩;have b7:=aj aH aG;have tB:=ae (ak aG kg);have HB:=aa b7;have HM:=aa (J4 m _ _ _ _ w1 (HF.out.up up_ints b7) (HY.out.up up_v3 b7) (HT.out.up up_step b7) (HO.out.up up_vecs b7));clear kg aH aG b7 HP;generalize hb:pK p=b;cases b with
 | false=>
  go_wp2_with fail
  go_ret
  exact⟨false,rfl,by simp,HB.out⟩
 | true=>
  have CG:=aa hb;clear hb
  go_wp2_with fail
  refine HM.out.mono ?_;rintro e w2 ⟨⟨b,rfl⟩,aS⟩;have jy:=aa (aj HB.out aS);clear HM tB aS
  go_wp2_with fail
  go_ret
  exact⟨b,rfl,fun _=>CG.out,jy.out⟩
theorem Rh(p:Pb) (vc vs:Value) (m:Mac) (vf vy vt vo:Value) (l:List Py) (v:Value) (w:World) (hc:bJ w vc p.t.cases) (hs:bn w vs p.a.states) (hf:bF w vf m.first) (hy:eZ w vy m.syms) (ht:dh w vt m.steps) (ho:fj w vo m.out) (hv:j9 w v l) :
  Calls Tryz.prog 4 #[jI p vc vs,.agg (bX m vf vy vt vo),v] w (Un p w):=by
 have HC:=aa hc;have HS:=aa hs;have HF:=aa hf;have HY:=aa hy;have HT:=aa ht;have HO:=aa ho;obtain⟨pc,cc,rfl,_⟩:=hc.at;obtain⟨ps,cs,rfl,_⟩:=hs.at;obtain⟨pf,cf,rfl,_⟩:=hf.at;obtain⟨py,cy,rfl,_⟩:=hy.at;obtain⟨pt,ct,rfl,_⟩:=ht.at;obtain⟨po,co,rfl,_⟩:=ho.at;obtain⟨pl,cl,rfl,ll,_,el⟩:=hv.at;have E:=aa el;clear hc hs hf hy ht ho hv el
 go_enter Tryz.func4,Tryz.ntmps4
 go_wp2_with fail
 refine bw (fun W=>Hid (Below w.heap.size w W)/\Hid (W.heap[w.heap.size]?=some (.cells (rs p (.slice pc p.t.cases.length cc) (.slice ps p.a.states.length cs)) 29))/\Hid (W.heap[w.heap.size+1]?=some (.cells (bX m (.slice pf m.first.length cf) (.slice py m.syms.length cy) (.slice pt m.steps.length ct) (.slice po m.out.length co)) 35))) ⟨aa (by go_grown),aa (aq _ (ar _ _)),aa (aX _ _ _)⟩ (fun W0 bd=>?_);obtain⟨jC,uB,PZ⟩:=bd
 go_loopw [11] (fun i wr=>Hid (Below W0.heap.size W0 wr)/\∃ k:Nat,k<=l.length/\i=.int .i64 k) (fun i _=>l.length - (intOf i).toNat)
 case atStart=>exact⟨aa (Below.refl _ _),0,by omega,rfl⟩
 case round=>
  obtain⟨fu,k,hk,rfl⟩:=hrel;have fB:=aa (aj jC.out fu.out);by_cases aF:k<l.length
  ·obtain⟨b,o,rfl,⟨vi,c0,fZ⟩,⟨vw,c1,zN⟩⟩:=E.out k aF
   have d0:=ay fB.out c0;have d1:=ay fB.out c1;obtain⟨p1,n1,rfl,_,k1,_⟩:=fZ;obtain⟨p2,n2,rfl,_,k2,_⟩:=zN;have HQ:=aa (fun W=>Iq _ _ p1 p2 n1 n2 W k1 k2);clear c0 c1 k1 k2
   go_wp2_with fail
   refine aT (fun W=>Below wr.heap.size wr W) (by go_grown) (fun W1 aG=>?_);refine(HQ.out W1).mono ?_;rintro e W2 ⟨⟨bb,rfl⟩,aS⟩;have io:=aa (aj aG aS);clear HQ d0 d1 aG aS;cases bb with
   | true=>
    go_wp2_with fail
    go_roundw
    case rel=>exact⟨aa (aj fu.out io.out),k+1,by omega,by go_num⟩
    case measure=>simp[intOf];omega
   | false=>
    go_wp2_with fail
    go_ret
    exact⟨false,rfl,by simp,aj fB.out io.out⟩
  ·have tA:=ae (ak fu.out uB.out)
   have tM:=ae (ak fu.out PZ.out)
   go_wp2_with fail
   have b7:=fB.out;refine(Mg p _ _ m _ _ _ _ wr (HC.out.up up_case b7) (HS.out.up up_moves b7) (HF.out.up up_ints b7) (HY.out.up up_v3 b7) (HT.out.up up_step b7) (HO.out.up up_vecs b7)).mono ?_;rintro e w1 ⟨bb,rfl,oy,aG⟩;have CG:=aa oy;have iy:=aa (aj b7 aG);clear tA tM b7 oy aG
   go_wp2_with fail
   go_ret
   exact⟨bb,rfl,CG.out,iy.out⟩
end Go.Proofs.YtkfgpnbpcpdclaaGreat
namespace Go.Proofs.YtkfgpnbpcpdclaaGreat
theorem pL(x y:Int):cL x y=true↔∀ p,p<5->cS x p=true->cS y p=true:=by
 unfold cL;rw[Bool.not_eq_true',cB];constructor
 ·intro h p hp hx
  have:=h p hp;rw[hx]at this;simpa using this
 ·intro h p hp
  cases hx:cS x p with
  | false=>rfl
  | true=>rw[h p hp hx];rfl
theorem ka(x:Int):cL x x=true:=(pL x x).2 fun _ _ h=>h
theorem vR{x y z:Int} (h1:cL x y=true) (h2:cL y z=true):cL x z=true:=(pL x z).2 fun p hp h=>(pL y z).1 h2 p hp ((pL x y).1 h1 p hp h)
structure LeP (n:Int) (x y:Py):Prop where
 wl:y.word.length=x.word.length
 il:y.inp.length=x.inp.length
 e:∀ k,k<x.word.length->∀ q:Nat,(q:Int)<n->cL ((x.word.getD k default).g.hear q) ((y.word.getD k default).g.hear q)=true
 f:∀ k,k<x.word.length->cL (y.word.getD k default).f (x.word.getD k default).f=true
 i:∀ q,q<x.inp.length->y.inp.getD q 0<=x.inp.getD q 0
theorem LeP.refl(n:Int) (x:Py):LeP n x x:=⟨rfl,rfl,fun _ _ _ _=>ka _,fun _ _=>ka _,fun _ _=>Int.le_refl _⟩
theorem LeP.trans{n:Int} {x y z:Py} (h:LeP n x y) (k:LeP n y z):LeP n x z:=
 ⟨k.wl.trans h.wl,k.il.trans h.il,fun j hj q hq=>vR (h.e j hj q hq) (k.e j (by rw[h.wl];exact hj) q hq),fun j hj=>vR (k.f j (by rw[h.wl];exact hj)) (h.f j hj),fun q hq=>Int.le_trans (k.i q (by rw[h.il];exact hq)) (h.i q hq)⟩
theorem AM{α:Type} (l:List α) (k j:Nat) (r d:α) (hk:k<l.length):(l.set k r).getD j d=if j=k then r else l.getD j d:=by
 rw[List.getD_eq_getElem?_getD,List.getD_eq_getElem?_getD,List.getElem?_set];by_cases h:k=j
 ·subst h;simp[hk]
 ·rw[if_neg h,if_neg (fun e=>h e.symm)]
theorem TZ{p:Pb} {x y:Py} (hp:probE p=0) (hx:cG p x=0) (h:y∈nearS p x):LeP p.t.n x y:=by
 obtain⟨_,fF⟩:=gu.1 hx;have ha:=(cX hp).2.1;have hn:=(cX hp).2.2.1;unfold nearS at h;rcases List.mem_append.1 h with h|h
 ·obtain⟨k,hk,h⟩:=List.mem_flatMap.1 h
  have hk:=List.mem_range.1 hk;unfold uV at h;obtain⟨r,hr,rfl⟩:=List.mem_map.1 h;obtain⟨rO,zP⟩:=List.mem_filter.1 hr;simp only[Bool.and_eq_true]at zP;have h1:=zP.1
  have gL:OkR p.a.n (x.word.getD k default):=by
   rw[show x.word.getD k default=x.word[k] by simp[hk]];exact lD ha (lE _ _ (kL fF).2 _ (List.getElem_mem hk))
  unfold mR at h1;simp only[Bool.and_eq_true,Bool.not_eq_true',decide_eq_true_eq]at h1;obtain⟨⟨h3,_⟩,h4⟩:=h1;have h3:=(cB _ _).1 h3;refine⟨List.length_set,rfl,fun j hj q hq=>?_,fun j hj=>?_,fun _ _=>Int.le_refl _⟩
  ·rw[AM _ _ _ _ _ hk]
   split
   ·rename_i e;subst e
    simpa using h3 q (by rw[gL.gn];omega)
   ·exact ka _
  ·rw[AM _ _ _ _ _ hk]
   split
   ·rename_i e;subst e;exact h4
   ·exact ka _
 ·obtain⟨q,hq,h⟩:=List.mem_flatMap.1 h
  have hq:=List.mem_range.1 hq;unfold BM at h;obtain⟨v,hv,rfl⟩:=List.mem_map.1 h;obtain⟨gV,li⟩:=List.mem_filter.1 hv;have gV:=List.mem_range.1 gV;refine⟨rfl,List.length_set,fun _ _ _ _=>ka _,fun _ _=>ka _,fun j hj=>?_⟩;rw[AM _ _ _ _ _ hq];split
  ·rename_i e;subst e;omega
  ·exact Int.le_refl _
theorem OR{p:Pb} (m:Mac) (hp:probE p=0):∀ (n:Nat) (x:Py),iB x=n->cG p x=0->LeP p.t.n x (dO p m x)/\(eV p m x≠0->eV p m (dO p m x)≠0):=by
 intro n;induction n using Nat.strongRecOn with
 | ind n ih=>
  intro x hn hx;rw[mB m hp hx];cases hb:gH p m x with
  | none=>exact⟨LeP.refl _ _,id⟩
  | some y=>
   obtain⟨h1,h2⟩:=iD hp hx (o7 hb).1;have h3:=ih (iB y) (by omega) y rfl h1;refine⟨(TZ hp hx (o7 hb).1).trans h3.1,fun _=>h3.2 ?_⟩;have:=(o7 hb).2;unfold badB at this;simpa using this
theorem OS{p:Pb} {m:Mac} (h:fx p m=0):probE p=0:=by
 unfold fx at h;split at h
 ·rename_i h1;exact absurd h h1
 ·rename_i h1;simpa using h1
theorem Ri{p:Pb} {m:Mac} {x:Py} (h:(dj p m x).2=0):(dj p m (dj p m x).1).2=0/\jH p m (dj p m x).1=(true,0)/\(dj p m (dj p m x).1).1=(dj p m x).1/\LeP p.t.n x (dj p m x).1/\0<=findE p.t (dj p m x).1.inp/\0<=afterS p.a 0 (dj p m x).1.word/\probE p=0:=by
 have hb:beginE p m x=0:=by
  unfold dj at h;split at h
  ·exact h
  ·rename_i h1;simpa using h1
 obtain⟨h1,h2,h3⟩:=mD hb;have hp:=OS h1;have e:(dj p m x).1=dO p m x:=by unfold dj;rw[if_neg (by simpa using hb)]
 rw[e];obtain⟨e1,e2,_⟩:=LX m hp _ x rfl h2;obtain⟨l1,l2⟩:=OR m hp _ x rfl h2
 have aS:beginE p m (dO p m x)=0:=by
  unfold beginE;rw[h1,e2];simp[l2 h3]
 have hs:dO p m (dO p m x)=dO p m x:=by rw[mB m hp e2,e1]
 obtain⟨r1,r2⟩:=gu.1 e2;unfold dj jH;rw[aS,e1,hs];exact⟨rfl,rfl,rfl,l1,r1,(kL r2).2,hp⟩
theorem Ir{p:Pb} {x:Py} (hp:probE p=0) (hx:cG p x=0):∀ k,k<x.word.length->OkR p.a.n (x.word.getD k default):=fun k hk=>by
 obtain⟨_,h2⟩:=gu.1 hx;rw[show x.word.getD k default=x.word[k] by simp[hk]];exact lD (cX hp).2.1 (lE _ _ (kL h2).2 _ (List.getElem_mem hk))
structure DescF (p:Pb) (m:Mac) (x y:Py):Prop where
 fe:(dj p m y).2=0
 fs:(dj p m y).1=y
 fm:jH p m y=(true,0)
 fle:LeP p.t.n x y
 ff:0<=findE p.t y.inp
 fa:0<=afterS p.a 0 y.word
 fp:probE p=0
 okx:∀ k,k<x.word.length->OkR p.a.n (x.word.getD k default)
 oky:∀ k,k<y.word.length->OkR p.a.n (y.word.getD k default)
theorem WN{p:Pb} {m:Mac} {x:Py} (h:(dj p m x).2=0):DescF p m x (dj p m x).1:=by
 obtain⟨h1,h2,h3,h4,h5,h6,h7⟩:=Ri h
 have key:∀ z:Py,(dj p m z).2=0->cG p z=0:=fun z hz=>by
  have hb:beginE p m z=0:=by
   unfold dj at hz;split at hz
   ·exact hz
   ·rename_i h1;simpa using h1
  exact(mD hb).2.1
 exact⟨h1,h3,h2,h4,h5,h6,h7,Ir h7 (key _ h),Ir h7 (key _ h1)⟩
end Go.Proofs.YtkfgpnbpcpdclaaGreat
namespace Go.Proofs.YtkfgpnbpcpdclaaGreat
open Go.RowKit Go Go.Shelf
attribute [local go_sem] Oper.semAt_some
theorem T3{w:World} {b o:Nat} {r:Rd} (h:jV w b o r) (q:Nat) (hq:q<5):w.cell? ⟨b,o+1+q,none⟩=some (.int .i64 (r.g.hear q)):=by
 obtain⟨_,⟨c1,_⟩,⟨c2,_⟩,⟨c3,_⟩,⟨c4,_⟩,⟨c5,_⟩,_⟩:=h;rcases (show q=0\/q=1\/q=2\/q=3\/q=4 by omega) with rfl|rfl|rfl|rfl|rfl
 ·exact c1
 ·exact c2
 ·exact c3
 ·exact c4
 ·exact c5
theorem Rj{W:World} {j:Nat} {vi vw:Value} {x:Py} {t:TypeId} (h:W.heap[j]?=some (.cells #[vi,vw] t)) (hi:aU W vi x.inp) (hw:bN W vw x.word):j9 W (sV j 1) [x]:=by
 have t:=ae h;refine⟨some ⟨j,0,none⟩,1,rfl,⟨Nat.le_refl _,by omega,fun e=>by cases e⟩,by simp,fun i y hx=>⟨j,0,rfl,?_⟩⟩;obtain⟨dI,rfl⟩:=List.getElem?_eq_some_iff.1 hx;obtain rfl:i=0:=by simp at dI;omega
 exact⟨⟨vi,t 0,hi⟩,⟨vw,t 1,hw⟩⟩
theorem Gn(p:Pb) (vc vs:Value) (m:Mac) (vf vy vt vo vi vw:Value) (x:Py) (w:World) (hc:bJ w vc p.t.cases) (hs:bn w vs p.a.states) (hf:bF w vf m.first) (hy:eZ w vy m.syms) (ht:dh w vt m.steps) (ho:fj w vo m.out) (hi:aU w vi x.inp) (hw:bN w vw x.word) :
  Calls Tryz.prog 3 #[jI p vc vs,.agg (bX m vf vy vt vo),.agg #[vi,vw]] w fun e w'=>e=.returned (.bool true)/\Below w.heap.size w w':=by
 have HC:=aa hc;have HS:=aa hs;have HF:=aa hf;have HY:=aa hy;have HT:=aa ht;have HO:=aa ho;have HI:=aa hi;have HW:=aa hw;obtain⟨pc,cc,rfl,_⟩:=hc.at;obtain⟨ps,cs,rfl,_⟩:=hs.at;obtain⟨pf,cf,rfl,_⟩:=hf.at;obtain⟨py,cy,rfl,_⟩:=hy.at;obtain⟨pt,ct,rfl,_⟩:=ht.at;obtain⟨po,co,rfl,_⟩:=ho.at;obtain⟨pi,ci,rfl,li1,li2,ei⟩:=hi.at;obtain⟨pw,cw,rfl,lw1,lw2,ew⟩:=hw.at;have EI:=aa ei;have EW:=aa ew;clear hc hs hf hy ht ho hi hw ei ew
 go_enter Tryz.func3,Tryz.ntmps3
 go_wp2_with fail
 refine aT (fun W=>Below w.heap.size w W/\W.heap[w.heap.size]?=some (.cells (rs p (.slice pc p.t.cases.length cc) (.slice ps p.a.states.length cs)) 29)/\W.heap[w.heap.size+1]?=some (.cells (bX m (.slice pf m.first.length cf) (.slice py m.syms.length cy) (.slice pt m.steps.length ct) (.slice po m.out.length co)) 35)/\W.heap[w.heap.size+1+1]?=some (.cells #[.slice pi x.inp.length ci,.slice pw x.word.length cw] 39)/\W.heap[w.heap.size+1+1+1]?=some (.cells #[.slice pi x.inp.length ci,.slice pw x.word.length cw] 39))
  ⟨xh [_,_,_,_] w,fW [_,_,_,_] w 0 rfl,fW [_,_,_,_] w 1 rfl,fW [_,_,_,_] w 2 rfl,fW [_,_,_,_] w 3 rfl⟩ (fun W0 bd=>?_)
 obtain⟨aH,Cq,iw,it,hL0⟩:=bd;refine(Rh p _ _ m _ _ _ _ [x] _ W0 (HC.out.up up_case aH) (HS.out.up up_moves aH) (HF.out.up up_ints aH) (HY.out.up up_v3 aH) (HT.out.up up_step aH) (HO.out.up up_vecs aH) (Rj hL0 (HI.out.up up_int aH) (HW.out.up up_round aH))).mono ?_;rintro e w1 ⟨b,rfl,hfew,bU⟩;have iy:=aa (aj aH bU);have z8:=aa (ak bU Cq);have jz:=aa (ak bU iw);have gk:=aa (ak bU it);have HFEW:=aa hfew;clear aH bU Cq iw it hL0 hfew;cases b with
 | false=>
  go_wp2_with fail
  refine(rz w1).mono ?_;rintro e w2 ⟨rfl,aS⟩
  go_wp2_with fail
  go_ret
  exact⟨rfl,aj iy.out aS⟩
 | true=>
 have HN:Hid (movesN p.a.states<1099511627776):=aa (by have:=Ka (HFEW.out rfl);omega);clear HFEW;have tP:=ae z8.out;have tM:=ae jz.out;have tX:=ae gk.out
 go_wp2_with fail
 clear tP tM tX;have aG:=iy.out;refine(vg p _ _ m _ _ _ _ _ _ x w1 (HC.out.up up_case aG) (HS.out.up up_moves aG) HN.out (HF.out.up up_ints aG) (HY.out.up up_v3 aG) (HT.out.up up_step aG) (HO.out.up up_vecs aG) (HI.out.up up_int aG) (HW.out.up up_round aG)).mono ?_;rintro e w2 ⟨u1,u2,rfl,wD,oh,aS⟩;have jy:=aa (aj aG aS);have Dh:=aa (ak aS z8.out);have jO:=aa (ak aS jz.out);have mJ:=aa (ak aS gk.out);have HZ:=aa (WN (p:=p) (m:=m) (x:=x));generalize (dj p m x).2=es at HZ;generalize (dj p m x).1=y at wD oh HZ;have IU:=aa wD;have yf:=aa oh;obtain⟨q1,k1,rfl,ly1,ly2,ey⟩:=wD.at;obtain⟨q2,k2,rfl,lz1,lz2,ez⟩:=oh.at;have EYI:=aa ey;have EYW:=aa ez;clear wD oh aG aS z8 jz gk ey ez;by_cases mg:es=0
 case neg=>
  have hes':(es != 0)=true:=by simpa using mg
  clear HZ
  go_wp2_with fail
  refine aT (fun W=>Below w2.heap.size w2 W) (by go_grown) (fun W3 bA=>?_);refine(rz W3).mono ?_;rintro e w3 ⟨rfl,mp⟩;have io:=aa (aj jy.out (aj bA mp));clear bA mp
  go_wp2_with fail
  go_ret
  exact⟨rfl,io.out⟩
 have HD:=aa (HZ.out mg);subst mg;clear HZ;have tP:=fun o=>ae (aq o Dh.out);have tM:=fun o=>ae (aq o jO.out)
 go_wp2_with fail
 clear tP tM;refine aT (fun W=>Below w2.heap.size w2 W/\W.heap[w2.heap.size]?=some (.cells #[.slice q1 y.inp.length k1,.slice q2 y.word.length k2] 39)) ⟨by go_grown,ar _ _⟩ (fun W3 hW3=>?_);obtain⟨bA,Ph⟩:=hW3;have cJ:=aj jy.out bA;refine(vg p _ _ m _ _ _ _ _ _ y W3 (HC.out.up up_case cJ) (HS.out.up up_moves cJ) HN.out (HF.out.up up_ints cJ) (HY.out.up up_v3 cJ) (HT.out.up up_step cJ) (HO.out.up up_vecs cJ) (IU.out.up up_int bA) (yf.out.up up_round bA)).mono ?_;rintro e w4 ⟨s1,s2,rfl,jg,iu,vA⟩;rw[HD.out.fs]at jg iu;rw[HD.out.fe];have bM:=aj bA vA;have Vq:=aa (ak bM Dh.out);have Pi:=aa (ak bM jO.out);have KP:=aa (ak bM mJ.out);have UA:=aa (ak vA Ph);have sB:=aa (aj jy.out bM);have MN:=aa bM;have rQ:=aa jg;have gj:=aa iu;obtain⟨q3,k3,rfl,_⟩:=jg.at;obtain⟨q4,k4,rfl,_⟩:=iu.at;have tP:=fun o=>ae (aq o Vq.out);have tM:=fun o=>ae (aq o Pi.out);have tY:=fun o=>ae (aq o UA.out)
 clear jg iu bA bM vA Ph cJ Dh jO mJ
 go_wp2_with fail
 clear tP tM tY;refine aT (fun W=>Below w4.heap.size w4 W/\W.heap[w4.heap.size]?=some (.cells #[.slice q3 y.inp.length k3,.slice q4 y.word.length k4] 39)) ⟨by go_grown,ar _ _⟩ (fun W5 qP=>?_);obtain⟨dy,hZ5⟩:=qP;have cJ:=aj sB.out dy;have Rl:=aj MN.out dy;refine(zx p _ _ m _ _ _ _ _ _ y W5 (HC.out.up up_case cJ) (HS.out.up up_moves cJ) HN.out (HF.out.up up_ints cJ) (HY.out.up up_v3 cJ) (HT.out.up up_step cJ) (HO.out.up up_vecs cJ) (IU.out.up up_int Rl) (yf.out.up up_round Rl)).mono ?_;rintro e w6 ⟨rfl,xQ⟩;rw[HD.out.fm];have fD:=aj dy xQ;have PK:=aa (ak fD Vq.out);have SL:=aa (ak fD KP.out);have Wt:=aa (ak fD UA.out);have HZ6:=aa (ak xQ hZ5);have nE:=aa (aj sB.out fD);have Sa:=aa (aj MN.out fD);have R7:=aa fD;have tY:=ae Wt.out;have tZ:=ae HZ6.out;clear dy fD xQ Rl cJ hZ5 Vq Pi KP UA
 go_wp2_with fail
 refine(si y y _ _ _ _ w6 (IU.out.up up_int Sa.out) (yf.out.up up_round Sa.out) (rQ.out.up up_int R7.out) (gj.out.up up_round R7.out)).mono ?_;rintro e w7 ⟨rfl,jA⟩;rw[decide_eq_true (rfl:y=y)];have Tg:=aa (ak jA PK.out);have Ur:=aa (ak jA SL.out);have HY7:=aa (ak jA Wt.out);have HB7:=aa (aj nE.out jA);have D4:=aa (aj Sa.out jA);have n1:((y.word.length:Int) != (x.word.length:Int))=false:=by have:=HD.out.fle.wl;simp;omega
 have n2:((y.inp.length:Int) != (x.inp.length:Int))=false:=by have:=HD.out.fle.il;simp;omega
 clear tY tZ jA PK SL Wt HZ6 R7;have tX:=ae Ur.out;have tY:=ae HY7.out
 go_wp2_with fail
 clear n1 n2 tX tY
 go_loopw [90] (fun i wr=>∃ k:Nat,k<=y.word.length/\i=.int .i64 k/\Hid (Below w7.heap.size w7 wr)) (fun i _=>y.word.length - (intOf i).toNat)
 case atStart=>exact⟨0,by omega,rfl,aa (Below.refl _ _)⟩
 case round=>
  obtain⟨k,hk,rfl,HR⟩:=hrel;by_cases aF:k<y.word.length
  ·obtain⟨b1,o1,rfl,c1⟩:=EYW.out k aF
   have Ft:k<x.word.length:=by have:=HD.out.fle.wl;omega
   obtain⟨b2,o2,rfl,c2⟩:=EW.out k Ft;have rG:=aa (HD.out.fle.e k Ft);have Sq:=aa (HD.out.fle.f k Ft);have P2:=aa (HD.out.okx k Ft);have P8:=aa (HD.out.oky k aF);rw[aA default aF,aA default Ft]at rG Sq;rw[aA default Ft]at P2;rw[aA default aF]at P8;have xB:=aj D4.out HR.out;have hbwr:=aj HB7.out HR.out;generalize y.word[k]=r at c1 rG Sq P8;generalize x.word[k]=s at c2 rG Sq P2;obtain⟨⟨d0,_⟩,⟨d1,_⟩,⟨d2,_⟩,⟨d3,_⟩,⟨d4,_⟩,⟨d5,_⟩,⟨d6,_⟩⟩:=c1;have d0:=ay xB d0;have d1:=ay xB d1;have d2:=ay xB d2;have d3:=ay xB d3;have d4:=ay xB d4;have d5:=ay xB d5;have d6:=ay xB d6;have fA:=aa c2;have fu:=aa hbwr;have jB:=aa (ak HR.out Tg.out);have Jb:=aa (ak HR.out Ur.out);have tP:=fun o=>ae (aq o jB.out)
   clear c2 xB hbwr
   go_wp2_with fail
   clear d0 d1 d2 d3 d4 d5 d6 tP;refine bw (fun W=>Hid (Below wr.heap.size wr W)/\Hid (W.heap[wr.heap.size]?=some (.cells r.c 52))) ⟨aa (by go_grown),aa (ar _ _)⟩ (fun W1 fR=>?_);obtain⟨HBW1,zQ⟩:=fR;obtain⟨wA,xM⟩:∃ x,x=wr:=⟨_,rfl⟩;subst xM
   go_loopw [98] (fun i wq=>∃ q:Nat,q<=p.t.n.toNat/\i=.int .i64 q/\Hid (Below W1.heap.size W1 wq)) (fun i _=>p.t.n.toNat - (intOf i).toNat)
   case atStart=>exact⟨0,by omega,rfl,aa (Below.refl _ _)⟩
   case round=>
    obtain⟨q,hq,rfl,HQ⟩:=hrel;have yh:=aj HBW1.out HQ.out;have kr:p.t.n<=5:=(dY (cX HD.out.fp).1).1.2;by_cases xR:(q:Int)<p.t.n
    ·have qk:q<5:=by omega
     have a1:∀ z:ExtW wr,z.val.cell? ⟨w.heap.size+1+1,1,none⟩=some _:=fun z=>z.cell (ae (ak yh Jb.out) 1)
     have a2:∀ z:ExtW wr,z.val.cell? ⟨b2,o2+k * 7+1+q,none⟩=some _:=fun z=>z.cell (ay (aj fu.out yh) (T3 fA.out q qk))
     have a3:∀ z:ExtW wr,z.val.cell? ⟨wA.heap.size,1+q,none⟩=some _:=fun z=>z.cell (nT r q qk _ _ _ (ak HQ.out zQ.out))
     have h1:=P2.out.h q qk;have h2:=P8.out.h q qk;have fJ:=jh (s.g.hear q) (r.g.hear q) h1.1 h1.2 h2.1 h2.2;rw[rG.out q xR]at fJ;have hq5':(q:Int)<5:=by omega
     have FT:=aa yh;clear h1 h2 yh
     go_wp2_with fail
     refine aK (by kernel_rfl) (by kernel_rfl) ?_
     repeat (go_big_quiet_step (fail))
     refine wpQuiet_nil ?_;rintro _ ⟨xq,rfl⟩;clear a1 a2 a3
     go_wp2_with fail
     go_roundw
     case rel=>exact⟨q+1,by omega,by go_num,aa (aj HQ.out xq.ext)⟩
     case measure=>simp[intOf];omega
    ·have a1:∀ z:ExtW wr,z.val.cell? ⟨w.heap.size+1+1,1,none⟩=some _:=fun z=>z.cell (ae (ak yh Jb.out) 1)
     have a2:∀ z:ExtW wr,z.val.cell? ⟨b2,o2+k * 7+6,none⟩=some _:=fun z=>z.cell (ay (aj fu.out yh) fA.out.2.2.2.2.2.2.1)
     have a3:∀ z:ExtW wr,z.val.cell? ⟨wA.heap.size,6,none⟩=some _:=fun z=>z.cell (ae (ak HQ.out zQ.out) 6)
     have fJ:=jh r.f s.f P8.out.f.1 P8.out.f.2 P2.out.f.1 P2.out.f.2;rw[Sq.out]at fJ;have FT:=aa yh;clear yh
     go_wp2_with fail
     refine aK (by kernel_rfl) (by kernel_rfl) ?_
     repeat (go_big_quiet_step (fail))
     refine wpQuiet_nil ?_;rintro _ ⟨xq,rfl⟩;clear a1 a2 a3
     go_wp2_with fail
     go_roundw
     case rel=>exact⟨k+1,by omega,by go_num,aa (aj HR.out (aj FT.out xq.ext))⟩
     case measure=>simp[intOf];omega
  ·have fu:=aa (aj HB7.out HR.out);have RE:=aa (aj D4.out HR.out)
   have jB:=aa (ak HR.out Tg.out);have Jb:=aa (ak HR.out Ur.out);have VZ:=aa (ak HR.out HY7.out);have tY:=ae VZ.out;clear HR;obtain⟨wA,xM⟩:∃ x,x=wr:=⟨_,rfl⟩;subst xM
   go_wp2_with fail
   clear tY
   go_loopw [132] (fun i wq=>∃ j:Nat,j<=y.inp.length/\i=.int .i64 j/\Hid (Below wA.heap.size wA wq)) (fun i _=>y.inp.length - (intOf i).toNat)
   case atStart=>exact⟨0,by omega,rfl,aa (Below.refl _ _)⟩
   case round=>
    obtain⟨j,hj,rfl,HQ⟩:=hrel;by_cases qb:j<y.inp.length
    ·obtain⟨b1,o1,rfl,c1,_⟩:=EYI.out j qb
     have K6:j<x.inp.length:=by have:=HD.out.fle.il;omega
     obtain⟨b2,o2,rfl,c2,_⟩:=EI.out j K6;have kl:=HD.out.fle.i j K6;rw[aA 0 qb,aA 0 K6]at kl;rw[Nat.mul_one]at c1 c2;generalize y.inp[j]=a at c1 kl;generalize x.inp[j]=b at c2 kl;have d1:=ay (aj RE.out HQ.out) c1;have d2:=ay (aj fu.out HQ.out) c2;have tX:=ae (ak HQ.out Jb.out);have Vm:decide (b<a)=false:=decide_eq_false (by omega);clear c1 c2
     go_wp2_with fail
     go_roundw
     case rel=>exact⟨j+1,by omega,by go_num,HQ⟩
     case measure=>simp[intOf];omega
    ·have KY:=aj fu.out HQ.out
     have tP:=ae (ak HQ.out jB.out);have tY:=ae (ak HQ.out VZ.out)
     go_wp2_with fail
     refine(xp p.t _ _ y.inp wr (HC.out.up up_case KY) (IU.out.up up_int (aj RE.out HQ.out))).mono ?_;rintro e w8 ⟨rfl,rF⟩;have wx:(kR p.t y.inp).2=0:=by unfold kR fw;rw[if_neg (by simpa using (cX HD.out.fp).1),if_neg (by have:=HD.out.ff;omega)]
     rw[wx];have O6:=aa (aj KY rF);have R3:=aa (aj HQ.out rF);clear tP tY KY rF wx;have tP:=ae (ak R3.out jB.out);have tY:=ae (ak R3.out VZ.out)
     go_wp2_with fail
     refine(uS p.a _ _ y.word w8 (HS.out.up up_moves O6.out) (yf.out.up up_round (aj RE.out R3.out)) HN.out (by rw[(cX HD.out.fp).2.1];decide)).mono ?_;rintro e w9 ⟨rfl,eA⟩;rw[show gh p.a y.word=(true,0) by unfold gh;rw[if_neg (by simpa using (cX HD.out.fp).2.1),decide_eq_true HD.out.fa]];have gP:=aa (aj O6.out eA);clear tP tY eA
     go_wp2_with fail
     refine(rz w9).mono ?_;rintro e w10 ⟨rfl,vk⟩
     go_wp2_with fail
     go_ret
     exact⟨rfl,aj gP.out vk⟩
end Go.Proofs.YtkfgpnbpcpdclaaGreat
