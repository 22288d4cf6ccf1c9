/-
  A part of the proof: lemmas and contracts that the parts behind it use. Each one's conditions are its own premises.
-/
import Derived.OwnWalkIn
import Derived.TacticsInMore
import Derived.LoopNIn
import Derived.LoopIn
import Derived.Laws.IdiomCopy
import Derived.Laws.CopyRow
import Derived.Test.YtmeaoneaephjeaaGreatDoorShelf
import Derived.ArgAppend
import Derived.Laws.IdiomStrings
import Derived.Test.YtmeaoneaephjeaaGreatDoorL3
set_option maxRecDepth 100000
set_option maxHeartbeats 8000000
set_option linter.unusedVariables false
set_option linter.unusedSimpArgs false
namespace Go.Proofs.YtmeaoneaephjeaaGreatDoor
open Go.RowKit Go Go.Shelf
theorem SI(a:Adv) (s j:Nat) (hs:s<a.states.length) (hj:j<a.states[s].length) :
  qH a (cnt a.states s+j)=anyLt (a.states.getD a.states[s][j].to.toNat []).length fun k=>!iV a.states[s][j].r.f ((a.states.getD a.states[s][j].to.toNat []).getD k default).r.f:=by
 unfold qH oy;rw[AN _ s j hs hj]
theorem SJ(a:Adv) (s j u:Nat) (hs:s<a.states.length) (hj:j<a.states[s].length) (hu:u<a.states.length) (h:a.states[s][j].to=u) :
  qH a (cnt a.states s+j)=anyLt a.states[u].length fun k=>!iV a.states[s][j].r.f (a.states[u].getD k default).r.f:=by
 rw[SI a s j hs hj,h,Int.toNat_natCast,aA [] hu]
theorem Nj(a:Adv) (v:Value) (w:World) (hv:bF w v a.states) (gC:∀ s,s<a.states.length->stateE a (a.states.getD s [])=0) :
  Calls Tryz.prog 156 #[.agg #[.int .i64 a.n,v]] w fun e w'=>e=.returned (.bool (growsB a))/\Below w.heap.size w w':=by
 obtain⟨pa,ca,rfl,la1,la2,ea⟩:=hv.at;clear hv;have EA:=aa ea;clear ea;have dA:=aa gC;clear gC;have HV:am (growsB a=!anyLt (movesN a.states) (qH a)):=by exact rfl
 go_enter Tryz.func156,Tryz.ntmps156
 go_wp2
 refine bu (fun W=>Below w.heap.size w W/\W.heap[w.heap.size]?=some (.cells #[.int .i64 a.n,.slice pa a.states.length ca] 27)) ⟨by go_grown,aq _ _⟩ (fun W0 aZ=>?_);obtain⟨aI,bI⟩:=aZ;have HA:=aa bI;clear bI
 go_loopw [3] (fun i wr=>Below W0.heap.size W0 wr/\∃ s:Nat,s<=a.states.length/\i=.int .i64 s/\∀ j,j<cnt a.states s->qH a j=false) (fun i _=>a.states.length - (intOf i).toNat)
 ·exact⟨Below.refl _ _,0,by omega,rfl,by rw[qh];simp⟩
 ·
  obtain⟨jb,s,hs,rfl,aW⟩:=hrel;have H:=aa aW;clear aW;have az:=ae aI jb;have t1:=ab (af jb HA.o);by_cases aB:s<a.states.length
  ·obtain⟨b1,o1,rfl,x,cx,hx⟩:=EA.o s aB;rw[Nat.mul_one]at cx;obtain⟨px,qx,rfl,x1,x2,ex⟩:=hx.at;have EX:=aa ex;have CX:=aa cx;have pA:=aa (qi a.states s aB);have bR:=ID a.states s aB;clear hx cx ex
   go_wp2
   clear t1
   go_loopw [4] (fun i ws=>Below wr.heap.size wr ws/\∃ m:Nat,m<=a.states[s].length/\i=.int .i64 m/\∀ j,j<cnt a.states s+m->qH a j=false) (fun i _=>a.states[s].length - (intOf i).toNat)
   ·exact⟨Below.refl _ _,0,by omega,rfl,by simpa using H.o⟩
   ·
    obtain⟨mw,m,hm,rfl,aW⟩:=hrel
    rename World=>ws
    have H2:=aa aW;clear aW;have td:=ae jb mw;have iy:=ae az mw;have t1:=ab (af td HA.o);have c1:=ak iy CX.o;have fk:=aC (af td HA.o);have aJ:b1<ws.heap.size:=fo c1;by_cases lS:m<a.states[s].length
    ·obtain⟨b3,o3,rfl,⟨⟨d0,_⟩,⟨d1,_⟩,⟨d2,_⟩,⟨d3,_⟩,⟨d4,_⟩,⟨d5,_⟩,⟨d6,_⟩⟩,⟨d7,_⟩⟩:=EX.o m lS;have hso:=lF dA.o aB lS;obtain⟨u,hu⟩:∃ u:Nat,a.states[s][m].to=u:=⟨a.states[s][m].to.toNat,by omega⟩;have Rc:u<a.states.length:=by omega
     have vz:=aa (SJ a s m u aB lS Rc hu);rw[hu]at d7;have eU:=hso.1;obtain⟨b4,o4,e4,y,cy,hy⟩:=EA.o u Rc;obtain⟨rfl,rfl⟩:b1=b4/\o1=o4:=by simpa using e4
     rw[Nat.mul_one]at cy;obtain⟨py,qy,rfl,y1,y2,ey⟩:=hy.at;have EY:=aa ey;have CY:=aa cy;have RU:=aa (fun j (hj:j<a.states[u].length)=>(lF dA.o Rc hj).1);have g0:=ak iy d0;have g1:=ak iy d1;have g2:=ak iy d2;have g3:=ak iy d3;have g4:=ak iy d4;have g5:=ak iy d5;have g6:=ak iy d6;have g7:=ak iy d7;clear hu hso hy cy ey e4 d0 d1 d2 d3 d4 d5 d6 d7;generalize a.states[s][m]=mv at g0 g1 g2 g3 g4 g5 g6 vz eU
     go_wp2
     refine bu (fun W=>Below ws.heap.size ws W/\W.heap[ws.heap.size]?=some (.cells #[.int .i64 mv.r.g.n,.int .i64 mv.r.g.h0,.int .i64 mv.r.g.h1,.int .i64 mv.r.g.h2,.int .i64 mv.r.g.h3,.int .i64 mv.r.g.h4,.int .i64 mv.r.f,.int .i64 u] 143)) ⟨by go_grown,aq _ _⟩ (fun W6 mn=>?_);obtain⟨gi,hM6⟩:=mn;have HM6:=aa hM6;clear hM6 g0 g1 g2 g3 g4 g5 g6 g7 t1 c1 fk aJ
     go_loopw [6] (fun i wt=>Below W6.heap.size W6 wt/\∃ q:Nat,q<=a.states[u].length/\i=.int .i64 q/\∀ j,j<q->(!iV mv.r.f (a.states[u].getD j default).r.f)=false) (fun i _=>a.states[u].length - (intOf i).toNat)
     ·exact⟨Below.refl _ _,0,by omega,rfl,by simp⟩
     ·
      obtain⟨vT,q,hq,rfl,aW⟩:=hrel
      rename World=>wt
      have H3:=aa aW;clear aW;have Uj:=ae gi vT;have hbt5:=ae td Uj;have vD:=ae iy Uj;have t1:=ab (af hbt5 HA.o);have t2:=ab (af vT HM6.o);have c2:=ak vD CY.o;by_cases oQ:q<a.states[u].length
      ·obtain⟨b5,o5,rfl,⟨_,_,_,_,_,_,⟨f6,_⟩⟩,_⟩:=EY.o q oQ;have vg:=RU.o q oQ;have eO:=aa (aA default oQ);generalize a.states[u][q]=nx at f6 vg eO;have bW:=aa (fun x:ExtW wt=>Calls.ext_of ((Le mv.r.f nx.r.f (by omega) (by omega) x.val).mono (fun _ _ ⟨h1,h2⟩=>⟨h1,h2 ▸ Below.refl _ _⟩)))
       go_wp2_with fail
       have r1:∀ x:ExtW wt,∀ o,x.val.cell? ⟨w.heap.size,o,none⟩=_:=fun x=>ab (af (ae hbt5 x.ext) HA.o)
       have r2:∀ x:ExtW wt,∀ o,x.val.cell? ⟨ws.heap.size,o,none⟩=_:=fun x=>ab (af (ae vT x.ext) HM6.o)
       have r3:∀ x:ExtW wt,x.val.cell? ⟨b1,o1+u,none⟩=_:=fun x=>x.cell c2
       have r4:∀ x:ExtW wt,x.val.cell? _=_:=fun x=>x.cell (ak vD f6)
       clear t1 t2 c2 f6;cases cW:iV mv.r.f nx.r.f with
       | false=>
        rw[cW]at bW;have fZ:=aa cW;clear cW;refine aD (by kernel_rfl) (by kernel_rfl) ?_
        repeat (go_big_quiet_step ((go_at_call 188;exact bW.o _)))
        refine wpQuiet_nil ?_;intro _ eJ;obtain⟨xq,dq⟩:=eJ;subst dq;clear r1 r2 r3 r4 bW
        go_wp2_with fail
        go_ret
        refine⟨aR ?_,ae vD xq.ext⟩;rw[HV.o,dW _ (cnt a.states s+m) _ (by omega) (by rw[vz.o];exact dW _ q _ oQ (by rw[eO.o,fZ.o];rfl))];rfl
       | true=>
        rw[cW]at bW;have fZ:=aa cW;clear cW;refine aD (by kernel_rfl) (by kernel_rfl) ?_
        repeat (go_big_quiet_step ((go_at_call 188;exact bW.o _)))
        refine wpQuiet_nil ?_;intro _ eJ;obtain⟨xq,dq⟩:=eJ;subst dq;clear r1 r2 r3 r4 bW
        go_wp2_with fail
        go_roundw
        ·exact⟨ae vT xq.ext,q+1,by omega,by go_num,aV H3.o (by rw[eO.o,fZ.o];rfl)⟩
        ·simp[intOf];omega
      ·go_wp2_with fail
       go_roundw
       ·
        refine⟨ae mw Uj,m+1,by omega,by go_num,?_⟩;rw[<-Nat.add_assoc];refine aV H2.o ?_;rw[vz.o];exact eW _ _ fun j hj=>H3.o j (by omega)
       ·simp[intOf];omega
    ·go_wp2_with fail
     go_roundw
     ·
      refine⟨ae jb mw,s+1,by omega,by go_num,?_⟩;rw[pA.o];exact fun j hj=>H2.o j (by omega)
     ·simp[intOf];omega
  ·go_wp2
   go_ret
   refine⟨aR ?_,az⟩;rw[HV.o,eW]
   ·rfl
   ·intro j hj;refine H.o j ?_;rw[vY _ _ (by omega)];exact hj
theorem H5(a:Adv) (v:Value) (w:World) (hv:bF w v a.states) (hN:movesN a.states<2305843009213693952) :
  Calls Tryz.prog 115 #[.agg #[.int .i64 a.n,v]] w fun e w'=>e=.returned (.int .i64 (advE a))/\Below w.heap.size w w':=by
 have G:=aa hv;obtain⟨pa,ca,rfl,la1,la2,ea⟩:=hv.at;clear hv;have EA:=aa ea;clear ea;by_cases c0:a.n<1
 ·have HR:am (advE a=2):=by(have h:advE a=2:=by(unfold advE;rw[if_pos (by omega)]));exact h
  go_enter Tryz.func115,Tryz.ntmps115
  go_wp2
  go_ret
  exact⟨aG HR.o.symm,by go_grown⟩
 by_cases c1:5<a.n
 ·have HR:am (advE a=2):=by(have h:advE a=2:=by(unfold advE;rw[if_pos (by omega)]));exact h
  go_enter Tryz.func115,Tryz.ntmps115
  go_wp2
  go_ret
  exact⟨aG HR.o.symm,by go_grown⟩
 by_cases c2:a.states.length<1
 ·have HR:am (advE a=5):=by(have h:advE a=5:=by(unfold advE;rw[if_neg (by omega),if_pos (by omega)]));exact h
  go_enter Tryz.func115,Tryz.ntmps115
  go_wp2
  go_ret
  exact⟨aG HR.o.symm,by go_grown⟩
 by_cases c3:256<a.states.length
 ·have HR:am (advE a=5):=by(have h:advE a=5:=by(unfold advE;rw[if_neg (by omega),if_pos (by omega)]));exact h
  go_enter Tryz.func115,Tryz.ntmps115
  go_wp2
  go_ret
  exact⟨aG HR.o.symm,by go_grown⟩
 have HC:=aa (fun W (hb:Below w.heap.size w W)=>Dn a.n _ a.states W (G.o.up up_moves hb) hN)
 have HV:am (advE a=if 4096<movesN a.states then 5 else if bg a.states.length (fun s=>stateE a (a.states.getD s []))≠0 then bg a.states.length (fun s=>stateE a (a.states.getD s [])) else if growsB a then 0 else 21):=by
  have h:advE a=if 4096<movesN a.states then 5 else if bg a.states.length (fun s=>stateE a (a.states.getD s []))≠0 then bg a.states.length (fun s=>stateE a (a.states.getD s [])) else if growsB a then 0 else 21:=by
   unfold advE;rw[if_neg (by omega)];by_cases h4:4096<movesN a.states
   ·rw[if_pos (by omega),if_pos h4]
   ·rw[if_neg (by omega),if_neg h4]
  exact h
 generalize movesN a.states=mN at HC HV hN
 go_enter Tryz.func115,Tryz.ntmps115
 go_wp2_with fail
 refine aN (fun W=>Below w.heap.size w W/\W.heap[w.heap.size]?=some (.cells #[.int .i64 a.n,.slice pa a.states.length ca] 27)) ⟨by go_grown,aq _ _⟩ (fun W0 aZ=>?_);obtain⟨aI,bI⟩:=aZ;refine(HC.o W0 aI).mono ?_;rintro e W1 ⟨rfl,aJ⟩;have dH:=ae aI aJ;have HA:=aa (af aJ bI);have t1:=ab HA.o;clear bI HC;by_cases c4:4096<mN
 ·have HR:am (advE a=5):=by(have h:advE a=5:=by(rw[HV.o,if_pos c4]));exact h
  go_wp2_with fail
  go_ret
  exact⟨aG HR.o.symm,dH⟩
 have pG:am (advE a=if bg a.states.length (fun s=>stateE a (a.states.getD s []))≠0 then bg a.states.length (fun s=>stateE a (a.states.getD s [])) else if growsB a then 0 else 21):=by
  have h:advE a=if bg a.states.length (fun s=>stateE a (a.states.getD s []))≠0 then bg a.states.length (fun s=>stateE a (a.states.getD s [])) else if growsB a then 0 else 21:=by rw[HV.o,if_neg c4]
  exact h
 clear HV
 go_wp2_with fail
 clear t1 c0 c1 c2 c3 c4
 go_loopw [3] (fun i wr=>Below W1.heap.size W1 wr/\∃ s:Nat,s<=a.states.length/\i=.int .i64 s/\∀ j,j<s->stateE a (a.states.getD j [])=0) (fun i _=>a.states.length - (intOf i).toNat)
 ·exact⟨Below.refl _ _,0,by omega,rfl,by simp⟩
 ·
  obtain⟨jb,s,hs,rfl,aW⟩:=hrel;have H:=aa aW;clear aW;have az:=ae dH jb;have t1:=ab (af jb HA.o);by_cases aB:s<a.states.length
  ·obtain⟨b1,o1,rfl,x,cx,hx⟩:=EA.o s aB;rw[Nat.mul_one]at cx;have HX:=aa hx;obtain⟨px,qx,rfl,_⟩:=hx;have CX:=aa cx;have c1:=ak az cx
   have HS:am (stateE a (a.states.getD s [])=if a.states[s].length=0 then 19 else bg a.states[s].length (dX a a.states[s])):=by
    have h:stateE a (a.states.getD s [])=if a.states[s].length=0 then 19 else bg a.states[s].length (dX a a.states[s]):=by rw[aA [] aB];rfl
    exact h
   clear cx;by_cases h0:a.states[s].length=0
   ·have h0':((a.states[s].length:Int) == 0)=true:=by simp[h0]
    have Mu:(a.states[s].length == 0)=true:=by simp[h0]
    have HR:am (stateE a (a.states.getD s [])=19):=by(have h:stateE a (a.states.getD s [])=19:=by(rw[HS.o,if_pos h0]));exact h
    have H0:=aa h0;clear h0
    go_wp2_with fail
    go_ret
    exact⟨aG (by rw[pG.o,<-bV (f:=fun s=>stateE a (a.states.getD s [])) s 19 aB H.o HR.o (by decide)];rfl),az⟩
   ·have h0':((a.states[s].length:Int) == 0)=false:=beq_eq_false_iff_ne.2 (by omega);have Mu:(a.states[s].length == 0)=false:=beq_eq_false_iff_ne.2 (by omega);have HR:am (stateE a (a.states.getD s [])=bg a.states[s].length (dX a a.states[s])):=by(have h:stateE a (a.states.getD s [])=bg a.states[s].length (dX a a.states[s]):=by(rw[HS.o,if_neg h0]));exact h
    clear h0
    go_wp2_with fail
    clear t1 c1 h0' Mu
    go_loopw [4] (fun i ws=>Below wr.heap.size wr ws/\∃ m:Nat,m<=a.states[s].length/\i=.int .i64 m/\∀ j,j<m->dX a a.states[s] j=0) (fun i _=>a.states[s].length - (intOf i).toNat)
    ·exact⟨Below.refl _ _,0,by omega,rfl,by simp⟩
    ·
     obtain⟨mw,m,hm,rfl,aW⟩:=hrel
     rename World=>ws
     have H2:=aa aW;clear aW;have td:=ae jb mw;have iy:=ae az mw;have t1:=ab (af td HA.o);have c1:=ak iy CX.o;by_cases lS:m<a.states[s].length
     ·have bW:=aa (fun x:ExtW ws=>Calls.ext_of (PT a (some ⟨b1,o1,none⟩) ca _ a.states[s] m lS x.val (HX.o.up up_move (ae iy x.ext))));generalize pT:dX a a.states[s] m=em at bW;have wK:=aa pT;clear pT
      go_wp2_with fail
      have r1:∀ x:ExtW ws,∀ o,x.val.cell? ⟨w.heap.size,o,none⟩=_:=fun x=>ab (af (ae td x.ext) HA.o)
      have r3:∀ x:ExtW ws,x.val.cell? _=_:=fun x=>x.cell c1
      clear t1 c1;refine aD (by kernel_rfl) (by kernel_rfl) ?_
      repeat (go_big_quiet_step ((go_at_call 155;exact bW.o _)))
      refine wpQuiet_nil ?_;intro _ eJ;obtain⟨xq,dq⟩:=eJ;subst dq;clear r1 r3 bW;by_cases pW:em=0
      ·subst pW
       go_wp2_with fail
       go_roundw
       ·exact⟨ae mw xq.ext,m+1,by omega,by go_num,aV H2.o wK.o⟩
       ·simp[intOf];omega
      ·have hem':(em != 0)=true:=by simpa using pW
       go_wp2_with fail
       go_ret
       refine⟨aG ?_,ae iy xq.ext⟩;have e1:em=stateE a (a.states.getD s []):=by rw[HR.o];exact bV m em lS H2.o wK.o pW
       rw[pG.o,<-bV (f:=fun s=>stateE a (a.states.getD s [])) s em aB H.o e1.symm pW,if_pos pW]
     ·go_wp2_with fail
      go_roundw
      ·exact⟨ae jb mw,s+1,by omega,by go_num,aV H.o (by rw[HR.o];exact cV _ _ fun j hj=>H2.o j (by omega))⟩
      ·simp[intOf];omega
  ·have aU:∀ j,j<a.states.length->stateE a (a.states.getD j [])=0:=fun j hj=>H.o j (by omega)
   have da:am (advE a=if growsB a then 0 else 21):=by
    have h:advE a=if growsB a then 0 else 21:=by rw[pG.o,cV _ _ aU];simp
    exact h
   have HG:=aa (Nj a _ wr (G.o.up up_moves az) aU);clear aU;generalize growsB a=gb at HG da;cases gb with
   | true=>
    go_wp2_with fail
    refine HG.o.mono ?_;rintro e w2 ⟨rfl,a8⟩
    go_wp2_with fail
    go_ret
    exact⟨aG (by rw[da.o];rfl),ae az a8⟩
   | false=>
    go_wp2_with fail
    refine HG.o.mono ?_;rintro e w2 ⟨rfl,a8⟩
    go_wp2_with fail
    go_ret
    exact⟨aG (by rw[da.o];rfl),ae az a8⟩
def ul(a:Adv):Bool:=decide (a.states.length<=8)&&decide (movesN a.states<=40)
theorem Xv(l:List (List Mv)) (B:Nat) (h:∀ k (hk:k<l.length),l[k].length<=B):∀ k,k<=l.length->cnt l k<=k * B:=by
 intro k;induction k with
 | zero=>intro _;rw[qh];exact Nat.zero_le _
 | succ k ih=>
  intro hk;rw[qi l k (by omega),Nat.succ_mul];exact Nat.add_le_add (ih (by omega)) (h k (by omega))
theorem PU{w:World} {v:Value} {l:List (List Mv)} (hv:bF w v l):movesN l<=l.length * 17592186044416:=by
 obtain⟨pa,ca,rfl,la1,la2,ea⟩:=hv.at
 have:=Xv l 17592186044416 (fun k hk=>by
  obtain⟨b,o,_,x,_,hx⟩:=ea k hk;obtain⟨_,_,_,_,eA,_⟩:=hx
  exact eA) l.length (Nat.le_refl _)
 rwa [vY l _ (Nat.le_refl _)]at this
theorem Lf(a:Adv) (v:Value) (w:World) (hv:bF w v a.states) :
  Calls Tryz.prog 70 #[.agg #[.int .i64 a.n,v]] w fun e w'=>e=.returned (.bool (ul a))/\Below w.heap.size w w':=by
 have hN:=PU hv;have HV:am (ul a=(decide (a.states.length<=8)&&decide (movesN a.states<=40))):=by exact rfl
 by_cases h8:a.states.length<=8
 ·have HC:=aa (fun W (hb:Below w.heap.size w W)=>Dn a.n _ a.states W (hv.up up_moves hb) (by omega));obtain⟨pa,ca,rfl,_⟩:=hv;have H8:am (decide (a.states.length<=8)=true):=by(have h:=decide_eq_true h8);exact h
  generalize movesN a.states=mN at HC HV hN
  go_enter Tryz.func70,Tryz.ntmps70
  go_wp2_with fail
  refine(HC.o _ (by go_grown)).mono ?_;rintro e W1 ⟨rfl,aJ⟩
  go_wp2_with fail
  go_ret
  refine⟨aR ?_,ae (by go_grown) aJ⟩;rw[HV.o,H8.o];simp;omega
 ·have H8:am (decide (a.states.length<=8)=false):=by(have h:=decide_eq_false h8);exact h
  obtain⟨pa,ca,rfl,_⟩:=hv
  go_enter Tryz.func70,Tryz.ntmps70
  go_wp2_with fail
  go_ret
  exact⟨aR (by rw[HV.o,H8.o];rfl),by go_grown⟩
def um(c:List Int) (n:Int) (m:Mv):Int:=min (n+c.getD m.to.toNat 0) 4097
def rowN(c:List Int) (l:List Mv):Int:=l.foldl (um c) 0
def l8(a:Adv) (c:List Int):List Int:=a.states.map (rowN c)
def eM(a:Adv):Nat->List Int
 | 0=>List.replicate a.states.length 1
 | k+1=>l8 a (eM a k)
def numberS(a:Adv) (k:Nat):Int:=(eM a k).getD 0 0
def I8(c:List Int):Prop:=∀ x∈c,0<=x/\x<=4097
theorem Ff{c:List Int} (h:I8 c) (i:Nat):0<=c.getD i 0/\c.getD i 0<=4097:=by
 by_cases hi:i<c.length
 ·rw[aA 0 hi];exact h _ (List.getElem_mem hi)
 ·rw[List.getD_eq_getElem?_getD,List.getElem?_eq_none (by omega)];simp
theorem SK{c:List Int} (h:I8 c) {n:Int} (hn:0<=n/\n<=4097) (m:Mv):0<=um c n m/\um c n m<=4097:=by
 have:=Ff h m.to.toNat;unfold um;omega
theorem Wu{c:List Int} (h:I8 c) (l:List Mv):∀ n:Int,(0<=n/\n<=4097)->0<=l.foldl (um c) n/\l.foldl (um c) n<=4097:=by
 induction l with
 | nil=>intro n hn;exact hn
 | cons m r ih=>intro n hn;exact ih _ (SK h hn m)
theorem LO{c:List Int} (h:I8 c) (l:List Mv):0<=rowN c l/\rowN c l<=4097:=Wu h l 0 (by omega)
theorem SL{c:List Int} (h:I8 c) (a:Adv):I8 (l8 a c):=fun x hx=>by
 obtain⟨l,_,rfl⟩:=List.mem_map.1 hx;exact LO h l
theorem I9(a:Adv) (k:Nat):I8 (eM a k):=by
 induction k with
 | zero=>intro x hx;rw[(List.mem_replicate.1 hx).2];omega
 | succ k ih=>exact SL ih a
theorem PV(a:Adv) (k:Nat):(eM a k).length=a.states.length:=by
 cases k with
 | zero=>simp[eM]
 | succ k=>simp[eM,l8]
theorem PW(c:List Int) (l:List Mv) (i:Nat) (hi:i<l.length):rowN c (l.take (i+1))=um c (rowN c (l.take i)) l[i]:=by
 unfold rowN;rw[List.take_succ_eq_append_getElem hi,List.foldl_append];rfl
theorem Gf{w:World} {v:Value} {t:TypeId} (j:Nat) (u:Value) (hj:[v][j]?=some u):(w.alloc (.cells #[v] t)).cell? (Addr.add ⟨w.heap.size,0,none⟩ j)=some u:=by
 cases j with
 | zero=>simp at hj;subst hj;simp[Addr.add,ab (aq w _)]
 | succ j=>simp at hj
theorem Wv(P:Program) (ats:Array TypeId) (ty:TypeId) (x y:Int) (w:World):(Builtin.min_ ats ty #[.int .i64 x,.int .i64 y]).run P w=.ok (.int .i64 (min x y)) w:=by
 have h:(if y<x then y else x)=min x y:=by omega
 simp[Builtin.min_,Builtin.min2,h]
theorem Fg(a:Adv) (v:Value) (n:Nat) (hn:n<=6) (w:World) (hv:bF w v a.states) (gC:∀ s,s<a.states.length->stateE a (a.states.getD s [])=0) (h1:1<=a.states.length/\a.states.length<=256) :
  Calls Tryz.prog 116 #[.agg #[.int .i64 a.n,v],.int .i64 n,.int .i64 4096] w fun e w'=>e=.returned (.int .i64 (numberS a n))/\Below w.heap.size w w':=by
 obtain⟨pa,ca,rfl,la1,la2,ea⟩:=hv.at;have EA:=aa ea;have dA:=aa gC;clear hv ea gC;obtain⟨i0,hi,bX,bP,bY⟩:=info_parts Tryz.infoInt
 go_enter Tryz.func116,Tryz.ntmps116
 go_wp2
 refine bu (fun W=>Below w.heap.size w W/\W.heap[w.heap.size]?=some (.cells #[.int .i64 a.n,.slice pa a.states.length ca] 27)) ⟨by go_grown,aq _ _⟩ (fun W0 aZ=>?_);obtain⟨aI,bI⟩:=aZ;have HA:=aa bI;clear bI
 go_loopw [7,8] (fun o i wr=>Below W0.heap.size W0 wr/\∃ k:Nat,k<=a.states.length/\i=.int .i64 k/\wr.ownsRow W0.heap.size 3 1 o k (List.replicate k (.int .i64 1))) (fun _ i _=>a.states.length - (intOf i).toNat)
 ·exact⟨Below.refl _ _,0,by omega,rfl,World.ownsRow_nil _ _ _ _⟩
 ·
  obtain⟨jb,k,hk,rfl,aS⟩:=hrel;have bG:=aa aS;obtain⟨ao,co,rfl,_⟩:=ui aS;clear aS;have t1:=ab (af jb HA.o);by_cases aB:k<a.states.length
  ·have hA:Below wr.heap.size wr (wr.alloc (.cells #[.int .i64 1] 3)):=by go_grown
   have dz:=aa (qo bG.o hA);have bA:=aa (fun j u hj=>Gf (w:=wr) (v:=.int .i64 1) (t:=3) j u hj);clear hA;have iy:=jb.size
   go_wp2_with (at_builtin;(refine wpList_append_own _ rfl (.tmp 21) (.tmp 22) 38 rfl W0.heap.size 3 i0 (.int .i64 0) 1 8 Tryz.underlying38 hi bX bP bY rfl (by decide) _ k (List.replicate k (.int .i64 1)) rfl dz.o ⟨wr.heap.size,0,none⟩ 1 1 [.int .i64 1] rfl rfl bA.o (by simp[Value.oneCell']) (by unfold maxLen;omega) (by omega) (by simp;omega) ?_;intro v' w2 fX dC _))
   go_roundw
   ·
    refine⟨Below.grown (w:=wr.alloc (.cells #[.int .i64 1] 3)) (jb.alloc iy _) dC (by simp;omega) (fun g hg=>(Fd bG.o g hg).1),k+1,by omega,by go_num,?_⟩;rw[List.replicate_succ'];exact fX
   ·simp[intOf];omega
  ·obtain rfl:k=a.states.length:=by omega
   have cW:(List.replicate a.states.length (Value.int .i64 1))=(eM a 0).map (Value.int .i64):=by simp[eM]
   rw[cW]at bG;clear cW
   go_wp2
   clear t1
   go_loopw [7,9] (fun o i ws=>Below wr.heap.size wr ws/\∃ k:Nat,k<=n/\i=.int .i64 k/\ws.ownsRow W0.heap.size 3 1 o a.states.length ((eM a k).map (Value.int .i64))) (fun _ i _=>n - (intOf i).toNat)
   ·exact⟨Below.refl _ _,0,by omega,rfl,bG.o⟩
   ·
    obtain⟨mw,k,hk,rfl,aS⟩:=hrel
    rename World=>ws
    have HOWN2:=aa aS;have iy:=ae jb mw;obtain⟨ac,cc,rfl,_,_,_,_,eQ⟩:=ui aS;have Is:=aa eQ;clear aS eQ;have Rb:=aa (PV a k);have HIO:=aa (I9 a k);by_cases aB:k<n
    ·have t1:=ab (af iy HA.o)
     go_wp2
     clear t1
     go_loopw [10,11] (fun o i wt=>Below ws.heap.size ws wt/\∃ s:Nat,s<=a.states.length/\i=.int .i64 s/\wt.ownsRow ws.heap.size 3 1 o s (((l8 a (eM a k)).take s).map (Value.int .i64))) (fun _ i _=>a.states.length - (intOf i).toNat)
     ·exact⟨Below.refl _ _,0,by omega,rfl,World.ownsRow_nil _ _ _ _⟩
     ·
      obtain⟨vT,s,hs,rfl,aS⟩:=hrel
      rename World=>wt
      have cL:=aa aS;have vD:=ae iy vT;have hbtw:=ae aI vD;obtain⟨an,cn,rfl,_⟩:=ui aS;clear aS;have t1:=ab (af vD HA.o);by_cases MG:s<a.states.length
      ·obtain⟨b1,o1,rfl,x,cx,hx⟩:=EA.o s MG;rw[Nat.mul_one]at cx;obtain⟨px,qx,rfl,x1,x2,ex⟩:=hx.at;have EX:=aa ex;have c1:=ak hbtw cx
       have eO:am ((l8 a (eM a k)).take (s+1)=(l8 a (eM a k)).take s++[rowN (eM a k) a.states[s]]):=by
        have h:(l8 a (eM a k)).take (s+1)=(l8 a (eM a k)).take s++[rowN (eM a k) a.states[s]]:=by
         rw[List.take_succ_eq_append_getElem (by simp[l8];exact MG)];simp[l8]
        exact h
       have RU:=aa (fun j (hj:j<a.states[s].length)=>(lF dA.o MG hj).2);clear hx ex cx
       go_wp2
       go_loop [12,13] (fun o i=>∃ m:Nat,m<=a.states[s].length/\i=.int .i64 m/\o=.int .i64 (rowN (eM a k) (a.states[s].take m))) (fun _ i=>a.states[s].length - (intOf i).toNat)
       ·exact⟨0,by omega,rfl,by simp[rowN]⟩
       ·
        obtain⟨m,hm,rfl,rfl⟩:=hrel;have X0:=LO HIO.o (a.states[s].take m);by_cases lS:m<a.states[s].length
        ·obtain⟨b3,o3,rfl,_,⟨d7,_⟩⟩:=EX.o m lS;have pK:=RU.o m lS;obtain⟨u,hu⟩:∃ u:Nat,a.states[s][m].to=u:=⟨a.states[s][m].to.toNat,by omega⟩
         have jR:am (rowN (eM a k) (a.states[s].take (m+1))=min (rowN (eM a k) (a.states[s].take m)+(eM a k).getD u 0) 4097):=by
          have h:rowN (eM a k) (a.states[s].take (m+1))=min (rowN (eM a k) (a.states[s].take m)+(eM a k).getD u 0) 4097:=by
           rw[PW _ _ m lS];unfold um;rw[hu,Int.toNat_natCast]
          exact h
         rw[hu]at d7;have Rc:u<a.states.length:=by omega
         have lX:=Ff HIO.o u;have G7:u<(eM a k).length:=by rw[Rb.o];exact Rc
         obtain⟨b,e4,hc⟩:=Is.o u (.int .i64 ((eM a k).getD u 0)) (by rw[aA 0 G7];simp);have c2:=ak hbtw d7;subst e4;have c3:=ak vT hc;have hmin:=Wv Tryz.prog;generalize rowN (eM a k) (a.states[s].take m)=r0 at X0 jR;generalize (eM a k).getD u 0=g0 at lX jR c3 hc;clear d7 hc hu pK G7
         go_wp2
         go_round
         ·exact⟨m+1,by omega,by go_num,by rw[jR.o]⟩
         ·simp[intOf];omega
        ·obtain rfl:m=a.states[s].length:=by omega
         rw[List.take_length];rw[List.take_length]at X0;generalize rowN (eM a k) a.states[s]=r0 at X0 eO;have hA:Below wt.heap.size wt (wt.alloc (.cells #[.int .i64 r0] 3)):=by go_grown
         have HOWN4:=aa (qo cL.o hA);have bA:=aa (fun j u hj=>Gf (w:=wt) (v:=.int .i64 r0) (t:=3) j u hj);have hbs3:=vT.size;clear hA
         go_wp2_with (at_builtin;(refine wpList_append_own _ rfl (.tmp 63) (.tmp 65) 38 rfl ws.heap.size 3 i0 (.int .i64 0) 1 8 Tryz.underlying38 hi bX bP bY rfl (by decide) _ s (((l8 a (eM a k)).take s).map (Value.int .i64)) rfl HOWN4.o ⟨wt.heap.size,0,none⟩ 1 1 [.int .i64 r0] rfl rfl bA.o (by simp[Value.oneCell']) (by unfold maxLen;omega) (by omega) (by simp;omega) ?_;intro v' w2 fX dC _))
         go_roundw
         ·
          refine⟨Below.grown (w:=wt.alloc (.cells #[.int .i64 r0] 3)) (vT.alloc hbs3 _) dC (by simp;omega) (fun g hg=>(Fd cL.o g hg).1),s+1,by omega,by go_num,?_⟩;rw[eO.o,List.map_append];exact fX
         ·simp[intOf];omega
      ·obtain rfl:s=a.states.length:=by omega
       go_wp2
       go_roundw
       ·
        refine⟨ae mw vT,k+1,by omega,by go_num,?_⟩;have h:=uj (base':=W0.heap.size) cL.o (by have:=iy.size;exact this);rw[List.take_of_length_le (by simp[l8])]at h;exact h
       ·simp[intOf];omega
    ·obtain rfl:k=n:=by omega
     obtain⟨b,rfl,hc⟩:=Is.o 0 (.int .i64 (numberS a k)) (by
      have h0:0<(eM a k).length:=by rw[Rb.o];omega
      unfold numberS;rw[aA 0 h0]
      simp)
     go_wp2
     go_ret
     exact⟨rfl,ae aI iy⟩
end Go.Proofs.YtmeaoneaephjeaaGreatDoor
namespace Go.Proofs.YtmeaoneaephjeaaGreatDoor
open Go.RowKit Go Go.Shelf
attribute [local go_sem] Oper.semAt_some
theorem aF{W:World} {B:Nat} {cs:Array Value} {t:TypeId} {f:Nat × Nat} (h:W.heap[B]?=some (.cells cs t f)) (o:Nat) (v:Value):(W.setCell ⟨B,o,none⟩ v).heap[B]?=some (.cells (cs.setIfInBounds o v) t f):=by
 simp[World.setCell,Array.getElem?_modify,h]
theorem aK{W:World} {B C:Nat} {x:Obj} (h:W.heap[C]?=some x) (bM:C≠B) (o:Nat) (v:Value):(W.setCell ⟨B,o,none⟩ v).heap[C]?=some x:=
 (Below.heap_setCell W ⟨B,o,none⟩ v C bM).trans h
def js(n:Nat) (w w':World):Prop:=∀ k,k<n->w'.heap[k]?=w.heap[k]?
theorem js.cell{w w':World} (h:js w.heap.size w w') {a:Addr} {v:Value} (hc:w.cell? a=some v):w'.cell? a=some v:=by
 have:=fo hc;rw[World.cell?_of_block (w:=w) (h a.block this)];exact hc
theorem js.ck{w w':World} (h:js w.heap.size w w'):CK w w':=fun k _ hk _=>(h k (aC hk)).trans hk
theorem js.of_below{w w':World} (h:Below w.heap.size w w'):js w.heap.size w w':=h.block
theorem js.alloc{w w':World} (h:js w.heap.size w w') (o:Obj):js w.heap.size w (w'.alloc o):=fun k hk=>by
 have h1:w.heap[k]?=some w.heap[k]:=Array.getElem?_eq_getElem hk;rw[h1];exact ar o ((h k hk).trans h1)
theorem js.trans{n:Nat} {a b c:World} (h:js n a b) (k:js n b c):js n a c:=fun i hi=>(k i hi).trans (h i hi)
theorem zA(n:Int) (p:Option Addr) (len cap:Nat) (w:World) :
  Calls Tryz.prog 218 #[.agg #[.int .i64 n,.slice p len cap]] w fun e w'=>e=.returned (.func (.func 221) #[] #[.pointer (some ⟨w.heap.size,0,none⟩)])/\w'=w.alloc (.cells #[.int .i64 n,.slice p len cap] 27):=by
 go_enter Tryz.func218,Tryz.ntmps218
 go_wp2
 go_ret
 exact⟨rfl,rfl⟩
def I'(l:List (List Mv)) (i:Nat):Array Value:=#[.int .i64 (mvAt l i).1,(mvAt l i).2.v]
theorem xE(wd:World) (v:Value) (l:List (List Mv)) (hv:bF wd v l) (w:World) (hb:Below wd.heap.size wd w) (Bx:Nat) (hx:w.cell? ⟨Bx,1,none⟩=some v) :
  tK Tryz.prog 221 #[.pointer (some ⟨Bx,0,none⟩)] (I' l) (movesN l) (fun k=>k<wd.heap.size) w:=by
 intro yl J Jx W hW hJ oM hY h0;have dL:=ak hW hx;have fg:js wd.heap.size wd W:=(js.of_below hb).trans (fun k hk=>hW.block k (Nat.lt_of_lt_of_le hk hb.size));obtain⟨pa,ca,rfl,la1,la2,ea⟩:=hv.at;clear hv hx hW hb;have EA:=aa ea;clear ea;have HJ:=aa hJ;clear hJ;have JN:=aa oM;clear oM;have HY:=aa hY;clear hY;refine(callsIn_wide (n:=0)).1 ?_;refine callsIn_of_wp Tryz.func221 rfl trivial ?_ rfl;simp only[Tryz.ntmps221,List.size_toArray,List.length_cons,List.length_nil,Nat.reduceAdd,Nat.reduceSub,Array.replicate_succ,Array.replicate_zero,List.push_toArray,List.append_toArray,List.nil_append,List.cons_append]
 gi_wp2
 gi_loopw [10] (fun i wr=>∃ s:Nat,s<=l.length/\i=.int .i64 s/\js wd.heap.size wd wr/\J (cnt l s) wr) (fun i _=>l.length - (intOf i).toNat)
 ·exact⟨0,by omega,rfl,fg,by rw[qh];exact h0⟩
 ·
  obtain⟨s,hs,rfl,gk,hj⟩:=hrel;have kx:=aa gk;clear gk;have jp:=aa hj;clear hj;by_cases aB:s<l.length
  ·obtain⟨b1,o1,rfl,x,cx,hxs⟩:=EA.o s aB;rw[Nat.mul_one]at cx;have d1:=kx.o.cell cx;obtain⟨p2,c2,rfl,m1,m2,e2⟩:=hxs.at;clear hxs cx;have E2:=aa e2;clear e2
   gi_wp2
   obtain⟨W0,aZ⟩:∃ W0:World,W0=wr:=⟨_,rfl⟩;rw[<-aZ]at kx jp d1 ⊢;clear aZ wr
   gi_loopw [17] (fun i wr=>∃ j:Nat,j<=l[s].length/\i=.int .i64 j/\js wd.heap.size wd wr/\J (cnt l s+j) wr) (fun i _=>l[s].length - (intOf i).toNat)
   ·exact⟨0,by omega,rfl,kx.o,jp.o⟩
   ·
    obtain⟨j,hj,rfl,gk,Au⟩:=hrel;have oY:=aa gk;clear gk;have Kl:=aa Au;clear Au;by_cases Mi:j<l[s].length
    ·obtain⟨b2,o2,rfl,⟨⟨c0,_⟩,⟨c1,_⟩,⟨c2,_⟩,⟨c3,_⟩,⟨c4,_⟩,⟨c5,_⟩,⟨c6,_⟩⟩,c7,_⟩:=E2.o j Mi;have d0:=oY.o.cell c0;have d1:=oY.o.cell c1;have d2:=oY.o.cell c2;have d3:=oY.o.cell c3;have d4:=oY.o.cell c4;have d5:=oY.o.cell c5;have d6:=oY.o.cell c6;have d7:=oY.o.cell c7;clear c0 c1 c2 c3 c4 c5 c6 c7;have Wi:=AN l s j aB Mi;have jQ:=ID l s aB;generalize hm:l[s][j]=m at d0 d1 d2 d3 d4 d5 d6 d7 Wi;obtain⟨fn,tmps,assign,body,hy,hR⟩:=HY.o (cnt l s+j) (wr.alloc (.cells #[.int .i64 m.r.g.n,.int .i64 m.r.g.h0,.int .i64 m.r.g.h1,.int .i64 m.r.g.h2,.int .i64 m.r.g.h3,.int .i64 m.r.g.h4,.int .i64 m.r.f,.int .i64 m.to] 143)) (by omega) (HJ.o _ _ _ Kl.o (by go_grown));unfold I' at hy;rw[Wi]at hy;dsimp only at hy;have HR:=aa hR;clear hR Wi hm
     gi_wp2
     refine⟨rfl,HR.o.mono ?_⟩;rintro e W3 (⟨rfl,El,EJ,iA⟩|⟨rfl,sY⟩)
     ·gi_wp2
      go_roundw
      ·exact⟨j+1,by omega,by go_num,js.trans (oY.o.alloc _) iA,El⟩
      ·simp[intOf];omega
     ·gi_wp2
      refine bodyPost_ret (results_none rfl _ _ _) rfl ?_;exact⟨⟨_,rfl⟩,.inr ⟨_,by omega,sY⟩⟩
    ·gi_wp2
     go_roundw
     ·
      refine⟨s+1,by omega,by go_num,oY.o,?_⟩;have e:l[s].length=j:=by omega
      rw[qi l s aB,e];exact Kl.o
     ·simp[intOf];omega
  ·gi_wp2
   go_end0
   exact⟨⟨_,rfl⟩,.inl (by rw[<-vY l s (by omega)];exact jp.o)⟩
def sizedE(a:Adv):Int:=if a.states.length<1\/256<a.states.length\/4096<movesN a.states then 5 else 0
theorem PX(a:Adv) (v:Value) (w:World) (hv:bF w v a.states) (hN:movesN a.states<1099511627776) :
  Calls Tryz.prog 216 #[.agg #[.int .i64 a.n,v]] w fun e w'=>e=.returned (.int .i64 (sizedE a))/\Below w.heap.size w w':=by
 have G:=aa hv;obtain⟨pa,ca,rfl,la1,la2,_⟩:=hv.at;clear hv;refine gq Tryz.func216 rfl ?_;simp only[Tryz.ntmps216,List.size_toArray,List.length_cons,List.length_nil,Nat.reduceAdd,Nat.reduceSub,Array.replicate_succ,Array.replicate_zero,List.push_toArray,List.append_toArray,List.nil_append,List.cons_append]
 go_wp2_with fail
 refine(zA _ _ _ _ _).mono ?_;rintro e w1 ⟨rfl,rfl⟩
 go_wp2_with fail
 refine bu (fun W=>Below w.heap.size w W/\W.heap[w.heap.size]?=some (.cells #[.int .i64 a.n,.slice pa a.states.length ca] 27)/\W.heap[w.heap.size+1]?=some (.cells #[.int .i64 0] 3)/\W.heap[w.heap.size+1+1]?=some (.cells #[.int .i64 a.n,.slice pa a.states.length ca] 27))
  ⟨by go_grown,ar _ (ar _ (aq _ _)),ar _ (by simpa using aq (w.alloc (.cells #[.int .i64 a.n,.slice pa a.states.length ca] 27)) (.cells #[.int .i64 0] 3)),by simpa using aq ((w.alloc (.cells #[.int .i64 a.n,.slice pa a.states.length ca] 27)).alloc (.cells #[.int .i64 0] 3)) (.cells #[.int .i64 a.n,.slice pa a.states.length ca] 27)⟩ (fun W0 aZ=>?_)
 obtain⟨aI,hA,kX,hX⟩:=aZ;have dr:=xE w _ a.states G.o W0 aI (w.heap.size+1+1) (by simp[ab hX]);have fk:=aC hX
 refine ni (gf:=221) (lb:=#[.pointer (some ⟨w.heap.size+1+1,0,none⟩)]) rfl (enters_of Tryz.func221 (by kernel_rfl) rfl) dr (Below.refl _ _) (fun k hk=>Nat.lt_of_lt_of_le hk aI.size) (fun i=>rfl)
  (fun i W=>Below w.heap.size w W/\W.heap[w.heap.size]?=some (.cells #[.int .i64 a.n,.slice pa a.states.length ca] 27)/\W.heap[w.heap.size+1]?=some (.cells #[.int .i64 i] 3))
  (fun _ _ _=>False) (fun i=>(cO.below (by omega)).and (cO.cells.and cO.cells)) (fun _ _=>cO.pure) ⟨aI,hA,kX⟩ ?round ?done ?stop
 case round=>
  intro l i W hi hl hI;unfold I'
  gi_wp2
  refine⟨Bod.refl _ _ _,_,(cO.below (w:=w) (by omega)).and (cO.cells.and cO.cells),hI,fun W2 h2 _=>?_⟩;obtain⟨g1,g2,g3⟩:=h2;have c1:=ab g3 0;have f1:=aE g3 0;simp at c1;have HG:=aa (And.intro g1 (And.intro g2 g3));clear g1 g2 g3 hI dr
  gi_wp2
  obtain⟨g1,g2,g3⟩:=HG.o;refine⟨Bod.setCell _ _ _ (by simp),g1.setCell (by simp) _,aK g2 (by omega) _ _,?_⟩;rw[aF g3];simp
 case done=>
  intro D W hD hI hK;obtain⟨g1,g2,g3⟩:=hI;have HG:=aa (And.intro g1 (And.intro g2 g3));have t1:=ab g2;have t2:=ab g3;clear g1 g2 g3 dr
  go_wp2
  all_goals
   refine iM hK (results_tmp rfl _ _ _) ?_;refine⟨aG ?_,eX (by omega) HG.o.1⟩
   go_light
   unfold sizedE
   grind
 case stop=>
  intro D c i W _ _ h;exact h.elim
def bC(l:List Int):Array Value:=(l.map (Value.int .i64)).toArray
def fC(n:Nat) (f:Nat->Int) (q:Nat):Array Value:=((List.range n).map fun j=>Value.int .i64 (if j<q then f j else 0)).toArray
theorem qp(n:Nat) (f:Nat->Int) (q:Nat):(fC n f q).size=n:=by simp[fC]
theorem kS(n:Nat) (f:Nat->Int) (q j:Nat) (hj:j<n):(fC n f q)[j]?=some (.int .i64 (if j<q then f j else 0)):=by simp[fC,hj]
theorem sB(n:Nat) (f:Nat->Int) (q:Nat) (hq:q<n):(fC n f q).setIfInBounds q (.int .i64 (f q))=fC n f (q+1):=by
 apply Array.ext_getElem?;intro j;rw[Array.getElem?_setIfInBounds];by_cases hj:j<n
 ·rw[kS _ _ _ _ hj,kS _ _ _ _ hj];by_cases e:q=j
  ·subst e;rw[if_pos rfl,if_pos (by rw[qp];exact hj),if_pos (by omega)]
  ·rw[if_neg e];by_cases h:j<q
   ·rw[if_pos h,if_pos (by omega)]
   ·rw[if_neg h,if_neg (by omega)]
 ·have h1:(fC n f q)[j]?=none:=by rw[Array.getElem?_eq_none];rw[qp];omega
  have h2:(fC n f (q+1))[j]?=none:=by rw[Array.getElem?_eq_none];rw[qp];omega
  rw[h1,h2,if_neg (by omega)]
theorem oE(n:Nat) (f:Nat->Int):fC n f n=bC ((List.range n).map f):=by
 unfold fC bC;rw[List.map_map];congr 1;refine List.map_congr_left fun j hj=>?_
 rw[if_pos (List.mem_range.1 hj)];rfl
theorem Ww(f:Nat->Int) (n:Nat):madeCells (Value.int .i64 0).cells n=fC n f 0:=by
 apply Array.ext
 ·simp[madeCells,fC]
 ·intro i h1 h2;simp[madeCells,fC,Value.cells,Nat.mod_one]
theorem Do(f:Nat->Int) (n:Nat) (hn:n<=65536) (w:World):(Instr.makeSlice 38 (.int .i64 (n:Int)) (.int .i64 (n:Int))).run Tryz.prog w=.ok (.slice (some ⟨w.heap.size,0,none⟩) n n) (w.alloc (.cells (fC n f 0) 3)):=by
 have hinfo:(Tryz.prog.info? 3).map (fun i=>(i.zero,i.size,i.bytes))=some (some (.int .i64 0),1,8):=by kernel_rfl
 obtain⟨i,hi,bX,bP,bY⟩:=info_parts hinfo;have:=run_make (P:=Tryz.prog) w 38 3 i (.int .i64 0) Tryz.underlying38 hi bX .i64 .i64 (n:Int) (n:Int) (by omega) (by omega) (by rw[bY];omega) (by omega);rw[this,bP,Nat.mul_one];simp only[Int.toNat_natCast,Ww f]
theorem iP(f:Nat->Int) (n:Nat) (hn:n<=256) (w:World):(Instr.makeSlice 38 (.int .i64 (n:Int)) (.int .i64 (n:Int))).run Tryz.prog w=.ok (.slice (some ⟨w.heap.size,0,none⟩) n n) (w.alloc (.cells (fC n f 0) 3)):=Do f n (by omega) w
theorem sC{W:World} {B:Nat} {now:List Int} {n:Nat} (hl:now.length=n) (hn:n<=256) (h:W.heap[B]?=some (.cells (bC now) 3)) (hr:∀ i,i<now.length->bN (now.getD i 0)):aT W (.slice (some ⟨B,0,none⟩) n n) now:=by
 subst hl;refine⟨some ⟨B,0,none⟩,now.length,rfl,⟨Nat.le_refl _,by omega,fun e=>by cases e⟩,by omega,fun i x hx=>⟨B,0,rfl,?_⟩⟩;obtain⟨hi,rfl⟩:=List.getElem?_eq_some_iff.1 hx;refine⟨?_,?_⟩
 ·rw[ab h,Nat.zero_add,Nat.mul_one];simp[bC,hi]
 ·have:=hr i hi
  rwa [aA 0 hi]at this
def xC(n:Nat) (x:Int) (q:Nat):Array Value:=fC n (fun _=>x) q
theorem LP(n:Nat) (x:Int) (q j:Nat) (hj:j<n):(xC n x q)[j]?=some (.int .i64 (if j<q then x else 0)):=kS n _ q j hj
theorem PY(n:Nat) (x:Int) (q m:Nat) (h:q+m<=n):((xC n x q).toList.take q++List.replicate m (Value.int .i64 x)++(xC n x q).toList.drop (q+m)).toArray=xC n x (q+m):=by
 apply Array.ext_getElem?;intro j;have hl:(xC n x q).toList.length=n:=by rw[Array.length_toList];exact qp n _ q
 have hg:∀ q j,(xC n x q).toList[j]?=if j<n then some (.int .i64 (if j<q then x else 0)) else none:=by
  intro q j;rw[Array.getElem?_toList];by_cases hj:j<n
  ·rw[if_pos hj];exact LP n x q j hj
  ·rw[if_neg hj,Array.getElem?_eq_none];unfold xC;rw[qp];omega
 rw[<-Array.getElem?_toList (xs:=xC n x (q+m)),hg,List.getElem?_toArray,List.append_assoc];by_cases h1:j<q
 ·rw[List.getElem?_append_left (by rw[List.length_take,hl];omega),List.getElem?_take_of_lt h1,hg,if_pos (show j<n by omega),if_pos h1,if_pos (show j<n by omega),if_pos (show j<q+m by omega)]
 ·rw[List.getElem?_append_right (by rw[List.length_take,hl];omega),List.length_take,hl,Nat.min_eq_left (by omega)];by_cases h2:j<q+m
  ·rw[List.getElem?_append_left (by rw[List.length_replicate];omega),List.getElem?_replicate,if_pos (show j - q<m by omega),if_pos (show j<n by omega),if_pos h2]
  ·rw[List.getElem?_append_right (by rw[List.length_replicate];omega),List.length_replicate,List.getElem?_drop,show q+m+(j - q - m)=j by omega,hg];by_cases h3:j<n
   ·rw[if_pos h3,if_pos h3,if_neg h1,if_neg h2]
   ·rw[if_neg h3,if_neg h3]
theorem sh(w:World) (g:Nat) (cur cur':Array Value) (t:TypeId) (hg:w.heap[g]?=some (.cells cur t (0,0))):(w.setRow g cur').heap[g]?=some (.cells cur' t (0,0)):=setRow_heap w g cur cur' t _ hg
theorem zB{P:Program} {w:World} {ops:Array Oper} {rest:List Oper} {o:Oper} {a:Act} {Q:Exit->Act->World->Prop} {d s:Operand} {t t':TypeId} {v u v':Value} {w':World} (hg:o.guard=none)
  (ho:o.op=.call { callee:=.builtin .copy,args:=#[d,s],argTypes:=#[t,t'] }) (hd:a.eval d=v) (hs:a.eval s=u)
  (hr:(Builtin.copy_ #[t,t'] o.type #[v,u]).run P w=.ok v' w') (h:wpList P ops Q rest (a.put o.dst v') w'):wpList P ops Q (o :: rest) a w:=by
 refine wpList_plain hg fun _ hK=>?_
 unfold Oper.wp;simp[execOp,ho,resolve,invoke,builtin,hd,hs,hr,Result.andThen];exact hK _ _ h
theorem Nk(rv:Int) (n:Nat) (h1:1<=n) (p B:Nat) (W:World) (hp:W.heap[p]?=some (.cells #[.int .i64 rv] 3)) (hB:W.heap[B]?=some (.cells (xC n rv 0) 3)) :
  (Builtin.copy_ #[38,38] 3 #[.slice (some ⟨B,0,none⟩) n n,.slice (some ⟨p,0,none⟩) 1 1]).run Tryz.prog W=.ok (.int .i64 1) (W.setRow B (xC n rv 1)):=by
 have h:=run_copy_row Tryz.prog W 38 38 3 3 B 0 n n ⟨p,0,none⟩ 1 1 (xC n rv 0) 3 [.int .i64 rv] Tryz.underlying38 (by kernel_rfl) hB (by simp only[List.length_cons,List.length_nil];exact(Nat.min_eq_left h1).symm)
  (fun j v hj=>by
   cases j with
   | zero=>simp at hj;subst hj;rw[Addr.add_lit,ab hp];rfl
   | succ j=>simp at hj) (by unfold xC;rw[qp];simpa using h1) (by simp[Value.oneCell'])
 rw[h];exact congrArg (fun r=>Result.ok (Value.int .i64 1) (W.setRow B r)) (PY n rv 0 1 (by omega))
theorem PZ(rv:Int) (n q m:Nat) (h1:q+m<=n) (hm:m=min q (n - q)) (B:Nat) (W:World) (hB:W.heap[B]?=some (.cells (xC n rv q) 3)) :
  (Builtin.copy_ #[38,38] 3 #[.slice (some ⟨B,q,none⟩) (n - q) (n - q),.slice (some ⟨B,0,none⟩) q n]).run Tryz.prog W=.ok (.int .i64 (m:Int)) (W.setRow B (xC n rv (q+m))):=by
 have h:=run_copy_row Tryz.prog W 38 38 3 3 B q (n - q) (n - q) ⟨B,0,none⟩ q n (xC n rv q) 3 (List.replicate m (.int .i64 rv)) Tryz.underlying38 (by kernel_rfl) hB (by rw[List.length_replicate];exact hm)
  (fun j v hj=>by
   rw[List.getElem?_replicate]at hj;by_cases UY:j<m
   ·rw[if_pos UY]at hj;cases hj;rw[Addr.add_lit,ab hB,Nat.zero_add,LP _ _ _ _ (by omega),if_pos (by omega)]
   ·rw[if_neg UY]at hj;cases hj) (by unfold xC;rw[qp,List.length_replicate];exact h1) (fun v hv=>by rw[(List.mem_replicate.1 hv).2];rfl)
 rw[h];have e:=PY n rv q m h1;rw[List.length_replicate];exact congrArg (fun r=>Result.ok (Value.int .i64 (m:Int)) (W.setRow B r)) e
theorem uq{n:Nat} {w W:World} {g:Nat} {c:Array Value} (hn:n<=g) (h:Below n w W):Below n w (W.setRow g c):=
 ⟨h.os,h.tape,h.output,by simpa using h.size,fun k hk=>(setRow_other W g k c (by omega)).trans (h.block k hk)⟩
def rp(wq W2:World) (i:Nat) (D:Nat->Bool) (_x:Nat->Value) (W:World):Prop:=W=bif D i then W2 else wq
theorem rp.other{wq W2 W:World} {i j:Nat} {D:Nat->Bool} {x:Nat->Value} (h:rp wq W2 i D x W) (v:Value) (hj:i≠j):rp wq W2 i (bJ D j) (cI x j v) W:=by
 unfold rp at h ⊢;simp only[bJ,if_neg hj];exact h
theorem rp.hit{wq W2:World} {i:Nat} {D:Nat->Bool} {x:Nat->Value} (v:Value):rp wq W2 i (bJ D i) (cI x i v) W2:=by simp[rp,bJ]
theorem rp.yes{wq W2 W:World} {i:Nat} {D:Nat->Bool} {x:Nat->Value} (h:rp wq W2 i D x W) (hD:D i=true):W=W2:=by unfold rp at h;rw[hD]at h;exact h
theorem xF(rv:Int) (n:Nat) (h1:1<=n) (hn:n<=8192) (p:Nat) (w:World) (hp:w.heap[p]?=some (.cells #[.int .i64 rv] 3)) :
  Calls Tryz.prog 37 #[.slice (some ⟨p,0,none⟩) 1 1,.int .i64 n] w fun e w'=>e=.returned (.slice (some ⟨w.heap.size,0,none⟩) n n)/\w'.heap[w.heap.size]?=some (.cells (xC n rv n) 3)/\Below w.heap.size w w':=by
 have Ku:=fun W=>Tryz.bits_Mul 1 n (by omega) (by omega) W
 have e1:1 * n / 18446744073709551616=0:=by omega
 have e2:1 * n % 18446744073709551616=n:=by omega
 rw[e1,e2]at Ku;have hu:Tryz.prog.underlying 38=some (.slice 3):=Tryz.underlying38;have hs:(Tryz.prog.info? 3).map (·.size)=some 1:=by kernel_rfl
 have fT:=Do (fun _=>rv) n (by omega);have HM:=aa Ku;have HK:=aa fT;clear Ku fT e1 e2;have GZ:¬ (9223372036854775807:Int)<n:=by omega
 have EG:¬ (n:Int)<0:=by omega
 have jc:IntKind.u64.wrap (n:Int)=n:=by rw[IntKind.wrap_u64];omega
 have AI:IntKind.i64.wrap (n:Int)=n:=by rw[IntKind.wrap_i64];omega
 go_enter Tryz.func37,Tryz.ntmps37
 go_wp2_with fail
 refine(HM.o _).mono ?_;rintro e w' ⟨rfl,rfl⟩;have fT:=HK.o;have Zm:(w'.alloc (.cells (fC n (fun _=>rv) 0) 3)).heap[w'.heap.size]?=some (.cells (xC n rv 0) 3):=aq _ _;have kZ:=Nk rv n h1 p w'.heap.size _ (ar _ hp) Zm
 go_wp2_with (at_builtin;refine zB rfl rfl rfl rfl kZ ?_)
 refine bu (fun W=>Below w'.heap.size w' W/\W.heap[w'.heap.size]?=some (.cells (xC n rv 1) 3)) ⟨uq (Nat.le_refl _) ((Below.refl _ w').alloc (Nat.le_refl _) _),sh _ _ _ _ _ Zm⟩ (fun W0 aZ=>?_);clear kZ Zm fT HM HK
 go_loopw [8] (fun i wr=>Below w'.heap.size w' wr/\∃ q:Nat,1<=q/\q<=n/\i=.int .i64 q/\wr.heap[w'.heap.size]?=some (.cells (xC n rv q) 3)) (fun i _=>n - (intOf i).toNat)
 ·exact⟨aZ.1,1,by omega,h1,rfl,aZ.2⟩
 ·
  obtain⟨az,q,hq1',hq2',rfl,bQ⟩:=hrel;clear aZ W0;by_cases aB:q<n
  ·obtain⟨m,hm⟩:∃ m,m=min q (n - q):=⟨_,rfl⟩;have GX:q+m<=n:=by omega
   have hm1:1<=m:=by omega
   have mx:(q:Int)<n:=by omega
   have hle':(q:Int)<=n:=by omega
   have hne1:¬ n=q:=by omega
   have TX:¬ q=n:=by omega
   have hw3:IntKind.i64.wrap ((q:Int)+(m:Int))=(q:Int)+(m:Int):=by rw[IntKind.wrap_i64];omega
   have jk:=PZ rv n q m GX hm w'.heap.size wr.drew bQ;have m8:wr.drew.heap[w'.heap.size]?=some (.cells (xC n rv q) 3):=bQ;have FU:Below w'.heap.size w' wr.drew:=az.drew;clear hm bQ az
   go_wp2_with fail
   obtain⟨wq,Kz⟩:∃ wq,wr.drew=wq:=⟨_,rfl⟩;rw[Kz]at jk m8 FU;refine Db 10 [38,39,40,41,42,43,44,45,46,8] [some (Value.int .i64 (q:Int)),some (Value.slice (some ⟨w'.heap.size,0,none⟩) n n),some (Value.int .i64 (q:Int)),some (Value.slice (some ⟨w'.heap.size,q,none⟩) (n - q) (n - q)),some (Value.slice (some ⟨w'.heap.size,0,none⟩) n n),some (Value.int .i64 (q:Int)),some (Value.slice (some ⟨w'.heap.size,0,none⟩) q n),some (Value.int .i64 (m:Int)),some (Value.int .i64 ((q:Int)+(m:Int))),some (Value.int .i64 ((q:Int)+(m:Int)))] (rp wq (wq.setRow w'.heap.size (xC n rv (q+m))) 7) (by kernel_rfl) rfl (by decide) rfl (by kernel_rfl) (fun _=>Kz) ?step ?tail
   case step=>
    intro x W D i o s F hi ho hs hD cP bR ap hv aM hF;have fY:i=0\/i=1\/i=2\/i=3\/i=4\/i=5\/i=6\/i=7\/i=8\/i=9:=by omega
    rcases fY with rfl|rfl|rfl|rfl|rfl|rfl|rfl|rfl|rfl|rfl
    all_goals (have dP:=cP _ _ hs hD;obtain rfl:=dp ho.symm;obtain rfl:=dp hs.symm)
    ·have GT:D 9=false:=by
      cases h:D 9 with
      | false=>rfl
      | true=>exact absurd (bR 9 _ rfl h ⟨0,.phase⟩ (by simp) rfl) (by rw[hD];decide)
     have e8:F.getD 8 undef=Value.int .i64 (q:Int):=by(rw[hF];exact(mB (by decide) (i:=9) rfl (Nat.le_of_ble_eq_true (by kernel_rfl))).trans (cP 9 8 rfl GT))
     clear GT;refine qP (.tmp 8) rfl rfl ?_;refine bZ.mk (F.getD 8 undef) (fun c hc=>e8.trans (dp hc)) ?_ rfl;exact aM.other _ (by decide)
    ·have e7:F.getD 7 undef=Value.slice (some ⟨w'.heap.size,0,none⟩) n n:=mh hF (by decide) rfl;refine qP (.tmp 7) rfl rfl ?_;refine bZ.mk (F.getD 7 undef) (fun c hc=>e7.trans (dp hc)) ?_ rfl;exact aM.other _ (by decide)
    ·have GT:D 9=false:=by
      cases h:D 9 with
      | false=>rfl
      | true=>exact absurd (bR 9 _ rfl h ⟨2,.phase⟩ (by simp) rfl) (by rw[hD];decide)
     have e8:F.getD 8 undef=Value.int .i64 (q:Int):=by(rw[hF];exact(mB (by decide) (i:=9) rfl (Nat.le_of_ble_eq_true (by kernel_rfl))).trans (cP 9 8 rfl GT))
     clear GT;refine qP (.tmp 8) rfl rfl ?_;refine bZ.mk (F.getD 8 undef) (fun c hc=>e8.trans (dp hc)) ?_ rfl;exact aM.other _ (by decide)
    ·have g1:=ap ⟨1,.data⟩ (by simp) rfl;have d1:=hv 1 _ (by omega) g1 rfl;have e39:=fK hF 1 39 (by decide) rfl (by kernel_rfl) d1;have e39':=dI e39;have g2:=ap ⟨2,.data⟩ (by simp) rfl;have d2:=hv 2 _ (by omega) g2 rfl;have e40:=fK hF 2 40 (by decide) rfl (by kernel_rfl) d2;have e40':=dI e40;have HC:=aa aM;clear ap hi hv aM cP bR hF dP jk m8 FU Kz g1 d1 g2 d2
     go_wp2_with fail
     exact bZ.mk _ gg (HC.o.other _ (by decide)) rfl
    ·have e7:F.getD 7 undef=Value.slice (some ⟨w'.heap.size,0,none⟩) n n:=mh hF (by decide) rfl;refine qP (.tmp 7) rfl rfl ?_;refine bZ.mk (F.getD 7 undef) (fun c hc=>e7.trans (dp hc)) ?_ rfl;exact aM.other _ (by decide)
    ·have GT:D 9=false:=by
      cases h:D 9 with
      | false=>rfl
      | true=>exact absurd (bR 9 _ rfl h ⟨5,.phase⟩ (by simp) rfl) (by rw[hD];decide)
     have e8:F.getD 8 undef=Value.int .i64 (q:Int):=by(rw[hF];exact(mB (by decide) (i:=9) rfl (Nat.le_of_ble_eq_true (by kernel_rfl))).trans (cP 9 8 rfl GT))
     clear GT;refine qP (.tmp 8) rfl rfl ?_;refine bZ.mk (F.getD 8 undef) (fun c hc=>e8.trans (dp hc)) ?_ rfl;exact aM.other _ (by decide)
    ·have g4:=ap ⟨4,.data⟩ (by simp) rfl;have d4:=hv 4 _ (by omega) g4 rfl;have e42:=fK hF 4 42 (by decide) rfl (by kernel_rfl) d4;have e42':=dI e42;have g5:=ap ⟨5,.data⟩ (by simp) rfl;have d5:=hv 5 _ (by omega) g5 rfl;have e43:=fK hF 5 43 (by decide) rfl (by kernel_rfl) d5;have e43':=dI e43;have HC:=aa aM;clear ap hi hv aM cP bR hF dP jk m8 FU Kz g4 d4 g5 d5
     go_wp2_with fail
     exact bZ.mk _ gg (HC.o.other _ (by decide)) rfl
    ·have g3:=ap ⟨3,.data⟩ (by simp) rfl;have d3:=hv 3 _ (by omega) g3 rfl;have e41:=fK hF 3 41 (by decide) rfl (by kernel_rfl) d3;have e41':=dI e41;have g6:=ap ⟨6,.data⟩ (by simp) rfl;have d6:=hv 6 _ (by omega) g6 rfl;have e44:=fK hF 6 44 (by decide) rfl (by kernel_rfl) d6;have e44':=dI e44;have hW:W=wq:=by(rw[aM,hD];rfl)
     subst hW;clear ap hi hv aM cP bR hF dP g3 d3 g6 d6;refine zB rfl rfl e41 e44 jk ?_;exact bZ.mk _ gg (rp.hit _) rfl
    ·have g0:=ap ⟨0,.data⟩ (by simp) rfl;have d0:=hv 0 _ (by omega) g0 rfl;have e38:=fK hF 0 38 (by decide) rfl (by kernel_rfl) d0;have e38':=dI e38;have g7:=ap ⟨7,.data⟩ (by simp) rfl;have d7:=hv 7 _ (by omega) g7 rfl;have e45:=fK hF 7 45 (by decide) rfl (by kernel_rfl) d7;have e45':=dI e45;have HC:=aa aM;clear ap hi hv aM cP bR hF dP jk m8 FU Kz g0 d0 g7 d7
     go_wp2_with fail
     exact bZ.mk _ gg (HC.o.other _ (by decide)) rfl
    ·have g8:=ap ⟨8,.data⟩ (by simp) rfl;have d8:=hv 8 _ (by omega) g8 rfl;have e46:=fK hF 8 46 (by decide) rfl (by kernel_rfl) d8;have e46':=dI e46;have g7:=ap ⟨7,.chain⟩ (by simp) rfl;have d7:=hv 7 _ (by omega) g7 rfl;have e45:=fK hF 7 45 (by decide) rfl (by kernel_rfl) d7;have e45':=dI e45;have HC:=aa aM;clear ap hi hv aM cP bR hF dP jk m8 FU Kz g8 d8 g7 d7
     go_wp2_with fail
     exact bZ.mk _ gg (HC.o.other _ (by decide)) rfl
   case tail=>
    intro x W' D F aU hv aM hF;have x0:=hv 0 _ (by omega) rfl;have x1:=hv 1 _ (by omega) rfl;have x2:=hv 2 _ (by omega) rfl;have x3:=hv 3 _ (by omega) rfl;have x4:=hv 4 _ (by omega) rfl;have x5:=hv 5 _ (by omega) rfl;have x6:=hv 6 _ (by omega) rfl;have x7:=hv 7 _ (by omega) rfl;have x8:=hv 8 _ (by omega) rfl;have x9:=hv 9 _ (by omega) rfl;have hWq:W'=wq.setRow w'.heap.size (xC n rv (q+m)):=aM.yes (aU 7 (by omega));clear aM;simp only[bz,cT,List.setIfInBounds_toArray,List.set_cons_succ,List.set_cons_zero,Nat.reduceAdd,x0,x1,x2,x3,x4,x5,x6,x7,x8,x9]at hF;subst hF hWq;clear hv aU jk Kz x0 x1 x2 x3 x4 x5 x6 x7 x8 x9
    go_wp2_with fail
    go_roundw
    ·exact⟨uq (Nat.le_refl _) FU,q+m,by omega,GX,by go_num,sh _ _ _ _ _ m8⟩
    ·simp[intOf];omega
  ·obtain rfl:q=n:=by omega
   go_wp2_with fail
   go_ret
   exact⟨rfl,bQ,az⟩
theorem H6(y x:Int) (b:Nat) (a:Addr) (n c:Nat) (hn:0<n) (W:World) (h1:W.cell? ⟨b,0,none⟩=some (.slice (some a) n c)) (h2:W.cell? a=some (.int .i64 x)) :
  Calls Tryz.prog 172 #[.int .i64 y,.pointer (some ⟨b,0,none⟩)] W fun e W'=>e=.returned (.bool (y != x))/\Below W.heap.size W W':=by
 go_enter Tryz.func172,Tryz.ntmps172
 go_wp2_with fail
 go_ret
 exact⟨rfl,by go_grown⟩
theorem Ja(v:Value) (l:List Int) (w:World) (hv:aT w v l) :
  Calls Tryz.prog 125 #[v] w fun e w'=>e=.returned (.bool (constB l))/\Below w.heap.size w w':=by
 obtain⟨pa,ca,rfl,lt1,lt2,ea⟩:=hv.at
 have HC:=aa (fun (W:World) (hb:Below w.heap.size w W) (hB:W.heap[w.heap.size]?=some (.cells #[.slice pa l.length ca] 38))=>kI 172 #[.pointer (some ⟨w.heap.size,0,none⟩)] (enters_of Tryz.func172 (by kernel_rfl) rfl) (.slice pa l.length ca) l (fun i=>decide (l.getD i 0≠l.getD 0 0)) W (hv.up up_int hb) (fun i hi W2 a8=>by
  obtain⟨b0,o0,e0,h0,_⟩:=ea 0 (by omega);rw[Nat.zero_mul,Nat.add_zero]at h0;have:=H6 l[i] (l.getD 0 0) w.heap.size ⟨b0,o0,none⟩ l.length ca (by omega) W2 (by rw[ab (af a8 hB),e0];rfl) (by rw[aA 0 (show 0<l.length by omega)];exact ak (ae hb a8) h0);refine this.mono fun e W' ⟨h1,h2⟩=>⟨?_,h2⟩
  rw[h1,aA 0 hi];have hx:(l[i] != l.getD 0 0)=decide (l[i]≠l.getD 0 0):=by rw[Bool.eq_iff_iff];simp
  rw[hx]))
 have Ea:am (constB l=!(anyLt l.length fun i=>decide (l.getD i 0≠l.getD 0 0))):=aa rfl;clear hv ea
 go_enter Tryz.func125,Tryz.ntmps125
 go_wp2_with fail
 refine aN (fun W=>Below w.heap.size w W/\W.heap[w.heap.size]?=some (.cells #[.slice pa l.length ca] 38)) ⟨by go_grown,aq _ _⟩ (fun W0 aZ=>?_);obtain⟨aI,bI⟩:=aZ;refine(HC.o W0 aI bI).mono ?_;rintro e w1 ⟨rfl,aJ⟩;clear bI HC;generalize (anyLt l.length fun i=>decide (l.getD i 0≠l.getD 0 0))=b at Ea
 go_wp2_with fail
 go_ret
 exact⟨aR (by rw[Ea.o]),ae aI aJ⟩
def wg(e:Int) (a:Bool):Value:=.tuple #[.bool (decide (e=0)&&a),.int .i64 e]
theorem H'(t:Tk) (vc:Value) (w:World) (hv:bS w vc t.cases) :
  Calls Tryz.prog 76 #[.agg #[.int .i64 t.n,.int .i64 t.ins,.int .i64 t.outs,vc]] w fun e w'=>e=.returned (wg (taskE t) (agreeB t))/\Below w.heap.size w w':=by
 have HT:=aa (fun W (hb:Below w.heap.size w W)=>ro t vc W (hv.up up_case hb));obtain⟨te,hte⟩:∃ te,taskE t=te:=⟨_,rfl⟩;rw[hte]at HT ⊢;clear hte;obtain⟨pc,cc,rfl,l1,m1,e1⟩:=hv.at;clear hv;have E:=aa e1;clear e1
 have fi:am (∀ k j,k<t.cases.length->j<(t.cases.getD k default).out.length->constB ((t.cases.getD k default).out.getD j [])=false->agreeB t=false):=aa fun k j hk hj h=>by
  cases ha:agreeB t with
  | false=>rfl
  | true=>rw[(nH t).1 ha k hk j hj]at h;cases h
 have jN:am ((∀ k,k<t.cases.length->∀ j,j<(t.cases.getD k default).out.length->constB ((t.cases.getD k default).out.getD j [])=true)->agreeB t=true):=aa fun h=>(nH t).2 h
 generalize agreeB t=ag at fi jN
 go_enter Tryz.func76,Tryz.ntmps76
 go_wp2_with fail
 refine aN (fun W=>Below w.heap.size w W/\W.heap[w.heap.size]?=some (.cells #[.int .i64 t.n,.int .i64 t.ins,.int .i64 t.outs,.slice pc t.cases.length cc] 24)) ⟨by go_grown,aq _ _⟩ (fun W0 aZ=>?_);obtain⟨aI,bI⟩:=aZ;refine(HT.o W0 aI).mono ?_;rintro e w1 ⟨rfl,aJ⟩;have gB:=ae aI aJ;have t1:=ab (af aJ bI);clear bI HT;by_cases hz:te=0
 case neg=>
  have Mr:(te != 0)=true:=by simpa using hz
  have hd:decide (te=0)=false:=decide_eq_false hz
  go_wp2_with fail
  go_ret2
  exact⟨by unfold wg;rw[hd];simp,gB⟩
 subst hz;have bK:=aa gB
 go_wp2_with fail
 clear t1
 go_loopw [17] (fun i wr=>Below w1.heap.size w1 wr/\∃ k:Nat,k<=t.cases.length/\i=.int .i64 k/\∀ q,q<k->∀ j,j<(t.cases.getD q default).out.length->constB ((t.cases.getD q default).out.getD j [])=true) (fun i _=>t.cases.length - (intOf i).toNat)
 ·exact⟨Below.refl _ _,0,by omega,rfl,fun q hq=>by omega⟩
 ·
  obtain⟨az,k,hk,rfl,aW⟩:=hrel;have H:=aa aW;clear aW;have dH:=ae bK.o az;have eh:=aa dH;by_cases aB:k<t.cases.length
  ·obtain⟨b1,o1,rfl,⟨x0,cx0,dj⟩,⟨x1,cx1,dL⟩,⟨x2,cx2,eA⟩⟩:=E.o k aB;have d0:=ak dH cx0;have d1:=ak dH cx1;have d2:=ak dH cx2;have HG:=aa (aA default aB);have kW:=aa (dL.up up_ints dH);obtain⟨p0,q0,rfl,_⟩:=dj;obtain⟨p1,q1,rfl,xV,Tz,ex⟩:=dL.at;obtain⟨p2,q2,rfl,_⟩:=eA;have EX:=aa ex;have q6:=aa (fun j=>fi.o k j aB);rw[HG.o]at q6;clear cx0 cx1 cx2 dL ex;generalize t.cases[k]=c at d0 d1 d2 kW EX HG q6 xV Tz;have vz:=aa az;clear az dH
   go_wp2_with fail
   clear d0 d1 d2;obtain⟨wrA,kw⟩:∃ x,x=wr:=⟨_,rfl⟩;subst kw;refine bu (fun W=>Below wrA.heap.size wrA W) (by go_grown) (fun W1 a8=>?_);have cQ:=aa a8;clear a8
   go_loopw [24] (fun i wr=>Below wrA.heap.size wrA wr/\∃ j:Nat,j<=c.out.length/\i=.int .i64 j/\∀ q,q<j->constB (c.out.getD q [])=true) (fun i _=>c.out.length - (intOf i).toNat)
   ·exact⟨cQ.o,0,by omega,rfl,fun q hq=>by omega⟩
   ·
    obtain⟨az,j,hj,rfl,aW⟩:=hrel;have H2:=aa aW;clear aW;have aP:=aa az;have bT:=aa (ae eh.o az);by_cases fS:j<c.out.length
    ·obtain⟨b3,o3,rfl,vx,cvx,GR⟩:=EX.o j fS;have dv:=ak bT.o cvx;have Ej:=aa (GR.up up_int bT.o);have Ca:=aa (aA [] fS);rw[Nat.mul_one]at dv;clear cvx GR az
     go_wp2_with fail
     refine(Ja vx _ wr Ej.o).mono ?_;rintro e w4 ⟨rfl,cj⟩;have eG:=aa cj;clear dv cj;cases hc:constB c.out[j] with
     | true=>
      have HC:am (constB (c.out.getD j [])=true):=aa (by rw[Ca.o];exact hc);clear hc
      go_wp2_with fail
      go_roundw
      ·exact⟨ae aP.o eG.o,j+1,by omega,by go_num,aV H2.o HC.o⟩
      ·simp[intOf];omega
     | false=>
      have HC:am (ag=false):=aa (q6.o j fS (by rw[Ca.o];exact hc));clear hc
      go_wp2_with fail
      go_ret2
      exact⟨by rw[HC.o];unfold wg;simp,ae bT.o eG.o⟩
    ·have nB:am (∀ q,q<c.out.length->constB (c.out.getD q [])=true):=aa fun q hq=>H2.o q (by omega)
     clear az
     go_wp2_with fail
     go_roundw
     ·exact⟨ae vz.o aP.o,k+1,by omega,by go_num,aV H.o (by rw[HG.o];exact nB.o)⟩
     ·simp[intOf];omega
  ·have HR:am (ag=true):=aa (jN.o fun q hq=>H.o q (by omega));clear az dH
   go_wp2_with fail
   go_ret2
   exact⟨by rw[HR.o];unfold wg;simp,eh.o⟩
end Go.Proofs.YtmeaoneaephjeaaGreatDoor
namespace Go.Proofs.YtmeaoneaephjeaaGreatDoor
open Go.RowKit Go Go.Shelf
theorem l9(g:Nat):∀ (vs:List Value) (o:Nat) (w:World),(∀ k,k≠g->(w.setCells g o vs).heap[k]?=w.heap[k]?)/\(w.setCells g o vs).os=w.os/\(w.setCells g o vs).tape=w.tape/\(w.setCells g o vs).output=w.output/\(w.setCells g o vs).heap.size=w.heap.size
 | [],o,w=>⟨fun _ _=>rfl,rfl,rfl,rfl,rfl⟩
 | v :: r,o,w=>by
  obtain⟨h1,h2,h3,h4,h5⟩:=l9 g r (o+1) (w.setCell ⟨g,o,none⟩ v);exact⟨fun k hk=>(h1 k hk).trans (Below.heap_setCell w ⟨g,o,none⟩ v k hk),h2,h3,h4,h5.trans (by simp)⟩
theorem mW(g:Nat) (e:TypeId) (fz:Nat × Nat):∀ (vs:List Value) (o:Nat) (w:World) (cur:Array Value),w.heap[g]?=some (.cells cur e fz)->o+vs.length<=cur.size →
  ∃ cur',(w.setCells g o vs).heap[g]?=some (.cells cur' e fz)/\cur'.size=cur.size/\cur'.toList.take (o+vs.length)=cur.toList.take o++vs
 | [],o,w,cur,hg,_=>⟨cur,hg,rfl,by simp⟩
 | v :: r,o,w,cur,hg,hl=>by
  simp only[List.length_cons]at hl;obtain⟨cur',h1,h2,h3⟩:=mW g e fz r (o+1) (w.setCell ⟨g,o,none⟩ v) (cur.setIfInBounds o v) (aF hg o v) (by simp;omega);refine⟨cur',h1,by simpa using h2,?_⟩;rw[show o+(v :: r).length=o+1+r.length by simp;omega,h3,Array.toList_setIfInBounds,List.take_succ_eq_append_getElem (by simp;omega),List.take_set_of_le (by omega),List.getElem_set_self];simp
def aH(w:World) (base:Nat) (e:TypeId) (size:Nat) (v:Value) (n:Nat) (xs:List Value):Prop:=
 xs.length=n * size/\((v=.slice none 0 0/\n=0)\/∃ g cap cur fz,v=.slice (some ⟨g,0,none⟩) n cap/\base<=g/\w.heap[g]?=some (.cells cur e fz)/\(∀ i,i<cur.size->¬ (fz.1<=i/\i<fz.2))/\n<=cap/\cap<=maxLen/\cur.size=cap * size/\cur.toList.take (n * size)=xs)
theorem aH.nil(w:World) (base:Nat) (e:TypeId) (size:Nat):aH w base e size (.slice none 0 0) 0 []:=⟨by simp,.inl ⟨rfl,rfl⟩⟩
theorem aH.of_owns{w:World} {base:Nat} {e:TypeId} {size:Nat} {v:Value} {n:Nat} {xs:List Value} (h:w.ownsRow base e size v n xs):aH w base e size v n xs:=by
 refine⟨h.1,?_⟩;rcases h.2 with hn|⟨g,cap,cur,hv,hb,hg,rest⟩
 ·exact .inl hn
 ·exact .inr ⟨g,cap,cur,(0,0),hv,hb,hg,fun i _ h=>by have:=h.2;simp at this,rest⟩
theorem aH.slice{w:World} {base size:Nat} {e:TypeId} {v:Value} {n:Nat} {xs:List Value} (h:aH w base e size v n xs):∃ a c,v=.slice a n c:=by
 rcases h.2 with ⟨rfl,rfl⟩|⟨g,cap,cur,fz,rfl,_⟩
 ·exact⟨_,_,rfl⟩
 ·exact⟨_,_,rfl⟩
theorem aH.ck{w w':World} {base size:Nat} {e:TypeId} {v:Value} {n:Nat} {xs:List Value} (h:aH w base e size v n xs) (hb:CK w w'):aH w' base e size v n xs:=by
 obtain⟨hl,h⟩:=h;refine⟨hl,?_⟩;rcases h with h|⟨g,cap,cur,fz,h1,h2,h3,h4⟩
 ·exact .inl h
 ·exact .inr ⟨g,cap,cur,fz,h1,h2,hb _ _ h3 rfl,h4⟩
theorem aH.up{w w':World} {base size:Nat} {e:TypeId} {v:Value} {n:Nat} {xs:List Value} (h:aH w base e size v n xs) (hb:Below w.heap.size w w'):aH w' base e size v n xs:=h.ck (.of_below hb)
theorem aH.lt{w:World} {base size:Nat} {e:TypeId} {v:Value} {n:Nat} {xs:List Value} (h:aH w base e size v n xs):∀ k,v.ownBlock=some k->base<=k/\k<w.heap.size:=by
 intro k hk;rcases h.2 with ⟨rfl,_⟩|⟨g,cap,cur,fz,rfl,hb,hg,_⟩
 ·simp[Value.ownBlock]at hk
 ·simp[Value.ownBlock]at hk;subst hk;exact⟨hb,aC hg⟩
theorem aH.ne{w:World} {base sz:Nat} {e e':TypeId} {v:Value} {n:Nat} {xs:List Value} {B:Nat} {cs:Array Value} {f:Nat × Nat} (h:aH w base e sz v n xs) (hB:w.heap[B]?=some (.cells cs e' f)) (bM:e≠e'):∀ g,v.ownBlock=some g->g≠B:=by
 intro g hg hgB;rcases h.2 with ⟨rfl,_⟩|⟨g',cap,cur,fz,rfl,_,h3,_⟩
 ·cases hg
 ·have:g'=g:=by simpa[Value.ownBlock] using hg
  rw[this,hgB,hB]at h3;cases h3;exact bM rfl
theorem aH.isCells{w:World} {base sz:Nat} {e:TypeId} {v:Value} {n:Nat} {xs:List Value} {B:Nat} {o:Obj} (h:aH w base e sz v n xs) (hB:w.heap[B]?=some o) (ho:o.isCells=false):some B≠v.ownBlock:=by
 intro hg;rcases h.2 with ⟨rfl,_⟩|⟨g',cap,cur,fz,rfl,_,h3,_⟩
 ·cases hg
 ·have:B=g':=by simpa[Value.ownBlock] using hg
  rw[<-this,hB]at h3;cases h3;cases ho
theorem aH.put{w:World} {base sz:Nat} {e:TypeId} {v:Value} {n:Nat} {xs:List Value} {B:Nat} (h:aH w base e sz v n xs) (bM:∀ g,v.ownBlock=some g->g≠B) (o:Nat) (x:Value):aH (w.setCell ⟨B,o,none⟩ x) base e sz v n xs:=by
 obtain⟨hl,h⟩:=h;refine⟨hl,?_⟩;rcases h with h|⟨g,cap,cur,fz,rfl,h2,h3,h4⟩
 ·exact .inl h
 ·exact .inr ⟨g,cap,cur,fz,rfl,h2,aK h3 (bM g rfl) _ _,h4⟩
theorem aH.base{w:World} {base base':Nat} {e:TypeId} {sz:Nat} {v:Value} {n:Nat} {xs:List Value} (h:aH w base e sz v n xs) (hb:base'<=base):aH w base' e sz v n xs:=by
 obtain⟨hl,h⟩:=h;refine⟨hl,?_⟩;rcases h with h|⟨g,cap,cur,fz,h1,h2,h3⟩
 ·exact .inl h
 ·exact .inr ⟨g,cap,cur,fz,h1,Nat.le_trans hb h2,h3⟩
theorem aH.cell{w:World} {base size:Nat} {e:TypeId} {v:Value} {n:Nat} {xs:List Value} (h:aH w base e size v n xs) (j:Nat) (u:Value) (hu:xs[j]?=some u):∃ g c,v=.slice (some ⟨g,0,none⟩) n c/\w.cell? ⟨g,j,none⟩=some u:=by
 rcases h.2 with ⟨rfl,hn⟩|⟨g,cap,cur,fz,rfl,_,hg,_,_,_,_,ht⟩
 ·subst hn;have:xs=[]:=List.eq_nil_of_length_eq_zero (by simpa using h.1);rw[this]at hu;simp at hu
 ·refine⟨g,cap,rfl,?_⟩;rw[ab hg];rw[<-ht,List.getElem?_take]at hu;split at hu
  ·simpa using hu
  ·cases hu
section
variable {P : Program} (w : World)
theorem sD(base:Nat) (t ty e:TypeId) (i:TypeInfo) (z:Value) (size bytes:Nat) (ht:P.underlying t=some (.slice e)) (hi:P.info? e=some i) (hz:i.zero=some z)
  (ff:i.size=size) (gR:i.bytes=bytes) (tE:z.cells.size=size) (fk:0<size)
  (v:Value) (n:Nat) (xs:List Value) (aS:aH w base e size v n xs)
  (a:Addr) (m c:Nat) (news:List Value) (hl:news.length=m * size) (bU:∀ j u,news[j]?=some u->w.cell? (a.add j)=some u) (h1:∀ u∈news,u.oneCell'=true)
  (pM:n+m<=maxLen) (gJ:(n+m) * bytes<=140737488355328) (ng:base<=w.heap.size) :
  ∃ v' w',(Builtin.append_ #[t,t] ty #[v,.slice (some a) m c]).run P w=.ok v' w'/\aH w' base e size v' (n+m) (xs++news)/\w.grownBy w' v.ownBlock/\(v'.ownBlock=v.ownBlock\/v'.ownBlock=some w.heap.size):=by
 rcases aS.2 with ⟨rfl,rfl⟩|⟨g,cap,cur,fz,rfl,DY,hg,oh,jH,rk,jU,Oh⟩
 ·have hx:xs=[]:=List.eq_nil_of_length_eq_zero (by simpa using aS.1);subst hx;by_cases hm:m=0
  ·obtain⟨v',w',q1,q2,q3,q4⟩:=run_append_own (P:=P) w base t ty e i z size bytes ht hi hz ff gR tE fk (.slice none 0 0) 0 [] (World.ownsRow_nil w base e size) a m c news hl bU h1 pM gJ ng;have:=q4.2 ⟨rfl,hm⟩;exact⟨v',w',q1,.of_owns q2,q3,.inl (by rw[this])⟩
  ·obtain⟨v',w',q1,q2,q3,q4⟩:=run_append_own (P:=P) w w.heap.size t ty e i z size bytes ht hi hz ff gR tE fk (.slice none 0 0) 0 [] (World.ownsRow_nil w _ e size) a m c news hl bU h1 pM gJ (Nat.le_refl _);subst ff gR;have hr:=run_append_nil (P:=P) w t ty e i z ht hi hz a m c news hl bU (by omega) (by simp only[maxLen]at pM;omega) (by have hb:=gJ;simp only[Nat.zero_add]at hb;omega);have e1:=hr.symm.trans q1;injection e1 with e1 e2
   subst e1 e2;exact⟨_,_,hr,(aH.of_owns q2).base ng,q3,.inr rfl⟩
 ·subst ff;have cC:(xs++news).length=(n+m) * i.size:=by rw[List.length_append,aS.1,hl,Nat.add_mul]
  by_cases mZ:n+m<=cap
  ·have J4:n * i.size+news.length<=cur.size:=by rw[hl,jU,<-Nat.add_mul];exact Nat.mul_le_mul_right _ mZ
   have hr:=run_append_room_cells (P:=P) w t ty e i ht hi g 0 n cap a m c news hl bU h1 mZ (fun j hj=>by rw[Nat.zero_add,ab hg];simp;omega)
    (fun j hj=>by
     simp only[World.frozen?,hg,Nat.zero_add];have:=oh (n * i.size+j) (by omega)
     simpa using this)
   rw[Nat.zero_add]at hr;obtain⟨cur',g1,g2,g3⟩:=mW g e fz news (n * i.size) w cur hg J4;obtain⟨o1,o2,o3,o4,o5⟩:=l9 g news (n * i.size) w;refine⟨_,_,hr,⟨cC,.inr ⟨g,cap,cur',fz,rfl,DY,g1,fun k hk=>oh k (by omega),mZ,rk,by omega,?_⟩⟩,⟨o2,o3,o4,by omega,fun k _ hk=>o1 k (fun e=>hk (by rw[e];rfl))⟩,.inl rfl⟩;rw[Nat.add_mul,<-hl,g3,Oh]
  ·subst gR
   have Ed:∀ j u,xs[j]?=some u->w.cell? ((⟨g,0,none⟩:Addr).add j)=some u:=fun j u hu=>by
    obtain⟨g',c',e1,hc⟩:=aS.cell j u hu;have:g'=g:=by simp at e1;exact e1.1.symm
    subst this;rw[<-hc];congr 1;unfold Addr.add;split<;>simp_all
   have hr:=run_append_grow (P:=P) w t ty e i z ht hi hz ⟨g,0,none⟩ n cap xs aS.1 Ed a m c news hl bU (by omega) (by simp only[maxLen]at pM;omega) (growslice_fits (by omega) gJ);obtain⟨v',w',q1,q2,q3⟩:=run_append_arg_grows (P:=P) w t ty e i z i.size i.bytes ht hi hz rfl rfl tE fk ⟨g,0,none⟩ n cap xs aS.1 Ed a m c news hl bU (by omega) pM gJ;have e1:=hr.symm.trans q1;injection e1 with e1 e2
   subst e1 e2;exact⟨_,_,hr,(aH.of_owns q2).base ng,⟨q3.os,q3.tape,q3.output,q3.size,fun k hk _=>q3.block k hk (by simp)⟩,.inr rfl⟩
theorem aX{ops:Array Oper} {rest:List Oper} {o:Oper} {a:Act} {Q:Exit->Act->World->Prop} (l3:o.guard=none) (s x:Operand) (t:TypeId)
  (ho:o.op=.call { callee:=.builtin .append,args:=#[s,x],argTypes:=#[t,t] })
  (base:Nat) (e:TypeId) (i:TypeInfo) (z:Value) (size bytes:Nat) (ht:P.underlying t=some (.slice e)) (hi:P.info? e=some i) (hz:i.zero=some z)
  (ff:i.size=size) (gR:i.bytes=bytes) (tE:z.cells.size=size) (fk:0<size)
  (v:Value) (n:Nat) (xs:List Value) (hs:a.eval s=v) (aS:aH w base e size v n xs)
  (ad:Addr) (m c:Nat) (news:List Value) (hx:a.eval x=.slice (some ad) m c) (hl:news.length=m * size) (bU:∀ j u,news[j]?=some u->w.cell? (ad.add j)=some u) (h1:∀ u∈news,u.oneCell'=true)
  (pM:n+m<=maxLen) (gJ:(n+m) * bytes<=140737488355328) (ng:base<=w.heap.size)
  (h:∀ v' w',aH w' base e size v' (n+m) (xs++news)->w.grownBy w' v.ownBlock->(v'.ownBlock=v.ownBlock\/v'.ownBlock=some w.heap.size)->wpList P ops Q rest (a.put o.dst v') w'):wpList P ops Q (o :: rest) a w:=by
 refine wpList_plain l3 fun _ hK=>?_
 obtain⟨v',w',hr,h2,h3,h4⟩:=sD (P:=P) w base t o.type e i z size bytes ht hi hz ff gR tE fk v n xs aS ad m c news hl bU h1 pM gJ ng;unfold Oper.wp execOp;simp only[ho,resolve,invoke,builtin,Sem.run_bind,Sem.run_pure,Result.andThen_ok,List.map_toArray,List.map_cons,List.map_nil,hs,hx,hr];exact hK _ _ (h v' w' h2 h3 h4)
theorem rD{F:Fence} {d:Nat} {ops:Array Oper} {rest:List Oper} {o:Oper} {a:Act} {Q:Exit->Act->World->Prop} (l3:o.guard=none) (s x:Operand) (t:TypeId)
  (ho:o.op=.call { callee:=.builtin .append,args:=#[s,x],argTypes:=#[t,t] })
  (base:Nat) (e:TypeId) (i:TypeInfo) (z:Value) (size bytes:Nat) (ht:P.underlying t=some (.slice e)) (hi:P.info? e=some i) (hz:i.zero=some z)
  (ff:i.size=size) (gR:i.bytes=bytes) (tE:z.cells.size=size) (fk:0<size)
  (v:Value) (n:Nat) (xs:List Value) (hs:a.eval s=v) (aS:aH w base e size v n xs)
  (ad:Addr) (m c:Nat) (news:List Value) (hx:a.eval x=.slice (some ad) m c) (hl:news.length=m * size) (bU:∀ j u,news[j]?=some u->w.cell? (ad.add j)=some u) (h1:∀ u∈news,u.oneCell'=true)
  (pM:n+m<=maxLen) (gJ:(n+m) * bytes<=140737488355328) (ng:base<=w.heap.size)
  (h:∀ v' w',aH w' base e size v' (n+m) (xs++news)->w.grownBy w' v.ownBlock->(v'.ownBlock=v.ownBlock\/v'.ownBlock=some w.heap.size)->wpListIn F d P ops Q rest (a.put o.dst v') w'):wpListIn F d P ops Q (o :: rest) a w:=by
 refine wpListIn_plain l3 fun K hK'=>?_
 obtain⟨v',w',Ux,r1,r2,r3⟩:=sD (P:=P) w base t o.type e i z size bytes ht hi hz ff gR tE fk v n xs aS ad m c news hl bU h1 pM gJ ng;unfold Oper.wpIn;refine⟨?_,?_⟩
 ·simp[Oper.about,ho,resolve,Target.leads,Sem.run_pure]
 ·rw[Oper.semAt_plain F _ _ (by rw[ho];intro c lC;cases lC)];simp[execOp,ho,resolve,invoke,builtin,hs,hx,Ux,Result.andThen];exact hK' _ _ (h v' w' r1 r2 r3)
end
theorem aH.apart{w w':World} {base base' k k':Nat} {e e':TypeId} {u v:Value} {n m:Nat} {xs ys:List Value} (h:aH w base e k u n xs) (hv:aH w base' e' k' v m ys) (bM:e≠e') (hg:w.grownBy w' v.ownBlock):aH w' base e k u n xs:=by
 obtain⟨hl,h⟩:=h;refine⟨hl,?_⟩;rcases h with h|⟨g,cap,cur,fz,h1,h2,h3,h4⟩
 ·exact .inl h
 ·refine .inr ⟨g,cap,cur,fz,h1,h2,(hg.block g (aC h3) (fun e1=>?_)).trans h3,h4⟩;exact hv.ne h3 (Ne.symm bM) g e1.symm rfl
def cB{α:Type} (to ti:TypeId) (k:Nat) (flat:List α->List Value) (w:World) (base:Nat) (v:Value) (l:List (List α)):Prop:=
 ∃ xs:List Value,aH w base to 1 v l.length xs/\∀ i (hi:i<l.length),∃ x,xs[i]?=some x/\aH w base ti k x l[i].length (flat l[i])
section
variable {α : Type} {to ti : TypeId} {k : Nat} {flat : List α → List Value} {w w' : World} {base : Nat} {v : Value} {l : List (List α)}
theorem cB.nil(w:World) (base:Nat):cB to ti k flat w base (.slice none 0 0) []:=⟨[],aH.nil _ _ _ _,fun i hi=>by simp at hi⟩
theorem cB.ck(h:cB to ti k flat w base v l) (hb:CK w w'):cB to ti k flat w' base v l:=by
 obtain⟨xs,h1,h2⟩:=h;exact⟨xs,h1.ck hb,fun i hi=>by obtain⟨x,q1,q2⟩:=h2 i hi;exact⟨x,q1,q2.ck hb⟩⟩
theorem cB.up(h:cB to ti k flat w base v l) (hb:Below w.heap.size w w'):cB to ti k flat w' base v l:=h.ck (.of_below hb)
theorem cB.snoc{xs:List Value} (h1:aH w base to 1 v l.length xs) (h2:∀ i (hi:i<l.length),∃ x,xs[i]?=some x/\aH w base ti k x l[i].length (flat l[i])) (bM:ti≠to) {x:Value} {a:List α} (hx:aH w base ti k x a.length (flat a))
  (hg:w.grownBy w' v.ownBlock) {v':Value} (ho:aH w' base to 1 v' (l.length+1) (xs++[x])):cB to ti k flat w' base v' (l++[a]):=by
 have hl:xs.length=l.length:=by have:=h1.1;omega
 refine⟨xs++[x],by simpa using ho,fun i hi=>?_⟩;simp at hi;by_cases aB:i<l.length
 ·obtain⟨y,q1,q2⟩:=h2 i aB;refine⟨y,by rw[List.getElem?_append_left (by omega)];exact q1,?_⟩;rw[List.getElem_append_left aB];exact q2.apart h1 bM hg
 ·obtain rfl:i=l.length:=by omega
  refine⟨x,by rw[<-hl,List.getElem?_append_right (Nat.le_refl _)];simp,?_⟩;have e:(l++[a])[l.length]'(by simp)=a:=by simp
  rw[e];exact hx.apart h1 bM hg
theorem cB.sl{R:World->Nat->Nat->α->Prop} (h:cB to ti k flat w base v l) (hr:∀ (x:Value) (a:List α),a∈l->aH w base ti k x a.length (flat a)->fm k R w x a) (hn:l.length<=17592186044416):fm 1 (nh k R) w v l:=by
 obtain⟨xs,h1,h2⟩:=h;rcases h1.2 with ⟨rfl,h0⟩|⟨g,cap,cur,fz,rfl,_,hg,_,jH,rk,_,ht⟩
 ·have:l=[]:=List.eq_nil_of_length_eq_zero h0;subst this;exact⟨none,0,rfl,⟨by simp,by omega,fun _=>rfl⟩,by simp,fun i x hx=>by simp at hx⟩
 ·refine⟨some ⟨g,0,none⟩,cap,rfl,⟨jH,by unfold maxLen at rk;omega,fun e=>by cases e⟩,hn,fun i a ha=>⟨g,0,rfl,?_⟩⟩;obtain⟨hi,rfl⟩:=List.getElem?_eq_some_iff.1 ha;obtain⟨x,q1,q2⟩:=h2 i hi;refine⟨x,?_,hr x _ (List.getElem_mem hi) q2⟩;rw[Nat.zero_add,Nat.mul_one,ab hg];rw[<-ht,List.getElem?_take]at q1;split at q1
  ·simpa using q1
  ·cases q1
end
theorem P0(a:Adv) (ps:Option Addr) (cs:Nat) (v:Value) (l:List Mv) (w:World) (hv:p7 w v l) :
  Calls Tryz.prog 217 #[.agg #[.int .i64 a.n,.slice ps a.states.length cs],v] w fun e w'=>e=.returned (.int .i64 (stateE a l))/\Below w.heap.size w w':=by
 obtain⟨pa,ca,rfl,l1,m1,e1⟩:=hv.at;clear hv;have E:=aa e1;clear e1;by_cases hz:l.length=0
 ·have bP:((l.length:Int) == 0)=true:=beq_iff_eq.2 (by omega);have HV:am (stateE a l=19):=by(have h:stateE a l=19:=by(unfold stateE;rw[if_pos hz]));exact h
  clear hz
  go_enter Tryz.func217,Tryz.ntmps217
  go_wp2_with fail
  go_ret
  exact⟨aG HV.o.symm,by go_grown⟩
 have bP:((l.length:Int) == 0)=false:=beq_eq_false_iff_ne.2 (by omega);have HV:am (stateE a l=bg l.length (dX a l)):=by(have h:stateE a l=bg l.length (dX a l):=by(unfold stateE;rw[if_neg hz]));exact h
 clear hz
 go_enter Tryz.func217,Tryz.ntmps217
 go_wp2_with fail
 refine bu (fun W=>Below w.heap.size w W/\W.heap[w.heap.size]?=some (.cells #[.int .i64 a.n,.slice ps a.states.length cs] 27))
  ⟨by go_grown,aq _ _⟩ (fun W0 aZ=>?_)
 obtain⟨aI,hT⟩:=aZ;have HT:=aa hT;clear hT bP
 go_loopw [13] (fun i wr=>Below W0.heap.size W0 wr/\∃ k:Nat,k<=l.length/\i=.int .i64 k/\∀ j,j<k->dX a l j=0) (fun i _=>l.length - (intOf i).toNat)
 ·exact⟨Below.refl _ _,0,by omega,rfl,by simp⟩
 ·
  obtain⟨az,k,hk,rfl,aW⟩:=hrel;have H:=aa aW;clear aW;have dH:=ae aI az;by_cases aB:k<l.length
  ·obtain⟨b1,o1,rfl,⟨⟨c0,_⟩,⟨c1,_⟩,⟨c2,_⟩,⟨c3,_⟩,⟨c4,_⟩,⟨c5,_⟩,⟨c6,_⟩⟩,c7,_⟩:=E.o k aB;have d0:=ak dH c0;have d1:=ak dH c1;have d2:=ak dH c2;have d3:=ak dH c3;have d4:=ak dH c4;have d5:=ak dH c5;have d6:=ak dH c6;have d7:=ak dH c7;clear c0 c1 c2 c3 c4 c5 c6 c7
   have HO:am (dX a l k=if roundE l[k].r≠0 then roundE l[k].r else if l[k].r.g.n≠a.n then 22 else if 0<k/\0<=roundC (l.getD (k - 1) default).r l[k].r then 14 else if l[k].to<0\/(a.states.length:Int)<=l[k].to then 2 else 0):=by
    have h:dX a l k=if roundE l[k].r≠0 then roundE l[k].r else if l[k].r.g.n≠a.n then 22 else if 0<k/\0<=roundC (l.getD (k - 1) default).r l[k].r then 14 else if l[k].to<0\/(a.states.length:Int)<=l[k].to then 2 else 0:=by unfold dX;rw[aA default aB]
    exact h
   generalize l[k]=m at d0 d1 d2 d3 d4 d5 d6 d7 HO
   go_wp2_with fail
   refine aN (fun W=>Below wr.heap.size wr W/\W.heap[wr.heap.size]?=some (.cells #[.int .i64 m.r.g.n,.int .i64 m.r.g.h0,.int .i64 m.r.g.h1,.int .i64 m.r.g.h2,.int .i64 m.r.g.h3,.int .i64 m.r.g.h4,.int .i64 m.r.f,.int .i64 m.to] 143)) ⟨by go_grown,aq _ _⟩ (fun V hV=>?_);obtain⟨lB,hC⟩:=hV;have HC:=aa hC;clear hC;have U1:=ae dH lB;refine(Fc m.r _).mono ?_;rintro e w1 ⟨rfl,aJ⟩;clear d0 d1 d2 d3 d4 d5 d6 d7;have jo:=ae U1 aJ;have AA:=ae az (ae lB aJ);have s1:=ab (af AA HT.o);have s2:=ab (af aJ HC.o);generalize roundE m.r=er at HO;by_cases GN:er=0
   case neg=>
    have her':(er != 0)=true:=by simpa using GN
    go_wp2_with fail
    go_ret
    exact⟨aG (by rw[HV.o,<-bV k er aB H.o (by rw[HO.o,if_pos GN]) GN]),jo⟩
   subst GN;by_cases rc:m.r.g.n=a.n
   case neg=>
    have KV:(m.r.g.n != a.n)=true:=by simpa using rc
    go_wp2_with fail
    go_ret
    exact⟨aG (by rw[HV.o,<-bV k 22 aB H.o (by rw[HO.o,if_neg (by simp),if_pos rc]) (by decide)]),jo⟩
   have KV:(m.r.g.n != a.n)=false:=by simpa using rc
   have fM:am (dX a l k=if 0<k/\0<=roundC (l.getD (k - 1) default).r m.r then 14 else if m.to<0\/(a.states.length:Int)<=m.to then 2 else 0):=by
    have h:dX a l k=if 0<k/\0<=roundC (l.getD (k - 1) default).r m.r then 14 else if m.to<0\/(a.states.length:Int)<=m.to then 2 else 0:=by rw[HO.o,if_neg (by simp),if_neg (by simpa using rc)]
    exact h
   clear HO rc
   go_wp2_with fail
   clear KV;by_cases fg:k=0
   ·have dR:am (dX a l k=if m.to<0\/(a.states.length:Int)<=m.to then 2 else 0):=by(have h:dX a l k=if m.to<0\/(a.states.length:Int)<=m.to then 2 else 0:=by(rw[fM.o,if_neg (by omega)]));exact h
    have hd:decide ((0:Int)<(k:Int))=false:=by simp;omega
    have gM:decide (0<k)=false:=by simp;omega
    clear fM fg s1 s2;refine aD (by kernel_rfl) (by kernel_rfl) ?_
    repeat (go_big_quiet_step (fail))
    refine wpQuiet_nil ?_;intro _ eJ;obtain⟨xq,dq⟩:=eJ;subst dq;clear hd gM;have r1:=ab (af (ae AA xq.ext) HT.o);have r2:=ab (af (ae aJ xq.ext) HC.o);have uU:=ae jo xq.ext
    go_wp2_with fail
    all_goals first
     | (go_ret
        refine⟨aG ?_,uU⟩
        rw[HV.o]
        go_light
        refine bV k _ aB H.o ?_ (by decide)
        rw[dR.o]
        grind)
     | (go_roundw
        ·
         refine⟨ae (ae AA xq.ext) (Below.refl _ _),k+1,by omega,by go_num,aV H.o ?_⟩
         go_light
         rw[dR.o]
         grind
        ·simp[intOf];omega)
   ·obtain⟨j,hj⟩:∃ j,k=j+1:=⟨k - 1,by omega⟩;have fS:j<l.length:=by omega
    have HJ:=aa hj;obtain⟨b2,o2,e2,⟨⟨c0,_⟩,⟨c1,_⟩,⟨c2,_⟩,⟨c3,_⟩,⟨c4,_⟩,⟨c5,_⟩,⟨c6,_⟩⟩,_⟩:=E.o j fS;obtain⟨rfl,rfl⟩:b1=b2/\o1=o2:=by simpa using e2
    clear e2;have hd:decide ((0:Int)<(k:Int))=true:=by simp;omega
    have gM:0<k:=by omega
    have dR:am (dX a l k=if 0<=roundC l[j].r m.r then 14 else if m.to<0\/(a.states.length:Int)<=m.to then 2 else 0):=by
     have h:dX a l k=if 0<=roundC l[j].r m.r then 14 else if m.to<0\/(a.states.length:Int)<=m.to then 2 else 0:=by
      rw[fM.o];have e:k - 1=j:=by omega
      rw[e,aA default fS]
      grind
     exact h
    clear fM fg hj s1 s2;have jc:IntKind.i64.wrap ((k:Int) - 1)=(j:Int):=by rw[HJ.o];rw[IntWalk.i64_in _ (by omega)];omega
    generalize l[j]=m2 at c0 c1 c2 c3 c4 c5 c6 dR;have q1:∀ x:ExtW w1,∀ o,x.val.cell? ⟨w.heap.size,o,none⟩=_:=fun x=>ab (af (ae AA x.ext) HT.o)
    have q2:∀ x:ExtW w1,∀ o,x.val.cell? ⟨wr.heap.size,o,none⟩=_:=fun x=>ab (af (ae aJ x.ext) HC.o)
    have k0:∀ x:ExtW w1,x.val.cell? _=_:=fun x=>x.cell (ak jo c0)
    have k1:∀ x:ExtW w1,x.val.cell? _=_:=fun x=>x.cell (ak jo c1)
    have k2:∀ x:ExtW w1,x.val.cell? _=_:=fun x=>x.cell (ak jo c2)
    have k3:∀ x:ExtW w1,x.val.cell? _=_:=fun x=>x.cell (ak jo c3)
    have k4:∀ x:ExtW w1,x.val.cell? _=_:=fun x=>x.cell (ak jo c4)
    have k5:∀ x:ExtW w1,x.val.cell? _=_:=fun x=>x.cell (ak jo c5)
    have k6:∀ x:ExtW w1,x.val.cell? _=_:=fun x=>x.cell (ak jo c6)
    clear c0 c1 c2 c3 c4 c5 c6;refine aD (by kernel_rfl) (by kernel_rfl) ?_
    repeat (go_big_quiet_step ((go_at_call 220;exact Calls.ext_of (Cv m2.r m.r _))))
    refine wpQuiet_nil ?_;intro _ eJ;obtain⟨xq,dq⟩:=eJ;subst dq;have r1:=q1 xq;have r2:=q2 xq;clear q1 q2 k0 k1 k2 k3 k4 k5 k6 hd gM jc;have uU:=ae jo xq.ext;generalize roundC m2.r m.r=oo at dR
    go_wp2_with fail
    all_goals first
     | (go_ret
        refine⟨aG ?_,uU⟩
        rw[HV.o]
        go_light
        refine bV k _ aB H.o ?_ (by decide)
        rw[dR.o]
        grind)
     | (go_roundw
        ·
         refine⟨ae (ae AA xq.ext) (Below.refl _ _),k+1,by omega,by go_num,aV H.o ?_⟩
         go_light
         rw[dR.o]
         grind
        ·simp[intOf];omega)
  ·go_wp2_with fail
   go_ret
   exact⟨aG (by rw[HV.o,cV];intro j hj;exact H.o j (by omega)),dH⟩
theorem aH.keepT{w w':World} {base sz:Nat} {e:TypeId} {v:Value} {n:Nat} {xs:List Value} (h:aH w base e sz v n xs) (hk:∀ g o,v.ownBlock=some g->w.heap[g]?=some o->w'.heap[g]?=some o):aH w' base e sz v n xs:=by
 obtain⟨hl,h⟩:=h;refine⟨hl,?_⟩;rcases h with h|⟨g,cap,cur,fz,rfl,h2,h3,h4⟩
 ·exact .inl h
 ·exact .inr ⟨g,cap,cur,fz,rfl,h2,hk g _ rfl h3,h4⟩
structure KeepT (ts:List TypeId) (ms:List Nat) (base:Nat) (w w':World):Prop where
 old:Below base w w'
 keep:∀ (k:Nat) (c:Array Value) (t:TypeId) (f:Nat × Nat),w.heap[k]?=some (.cells c t f)->t∉ts->w'.heap[k]?=some (.cells c t f)
 oth:∀ (k:Nat) (o:Obj),w.heap[k]?=some o->o.isCells=false->k∉ms->w'.heap[k]?=some o
section
variable {ts : List TypeId} {ms : List Nat} {base : Nat} {w w' w'' : World}
theorem KeepT.refl(ts:List TypeId) (base:Nat) (w:World):KeepT ts ms base w w:=⟨Below.refl _ _,fun _ _ _ _ h _=>h,fun _ _ h _ _=>h⟩
theorem KeepT.trans(h:KeepT ts ms base w w') (k:KeepT ts ms base w' w''):KeepT ts ms base w w'':=
 ⟨⟨k.old.os.trans h.old.os,k.old.tape.trans h.old.tape,k.old.output.trans h.old.output,Nat.le_trans h.old.size k.old.size,fun j hj=>(k.old.block j hj).trans (h.old.block j hj)⟩,fun j c t f h1 h2=>k.keep j c t f (h.keep j c t f h1 h2) h2,fun j o h1 h2 h3=>k.oth j o (h.oth j o h1 h2 h3) h2 h3⟩
theorem KeepT.of_below(ts:List TypeId) (h:Below w.heap.size w w') (hb:base<=w.heap.size):KeepT ts ms base w w':=
 ⟨⟨h.os,h.tape,h.output,h.size,fun j hj=>h.block j (by omega)⟩,fun _ _ _ _ h1 _=>af h h1,fun _ _ h1 _ _=>af h h1⟩
theorem KeepT.drew(h:KeepT ts ms base w w'):KeepT ts ms base w w'.drew:=⟨h.old.drew,h.keep,h.oth⟩
theorem KeepT.mono{us:List TypeId} {ns:List Nat} (h:KeepT ts ms base w w') (hs:∀ t,t∈ts->t∈us) (hm:∀ t,t∈ms->t∈ns):KeepT us ns base w w':=⟨h.old,fun k c t f h1 h2=>h.keep k c t f h1 (fun e=>h2 (hs t e)),fun k o h1 h2 h3=>h.oth k o h1 h2 (fun e=>h3 (hm k e))⟩
theorem KeepT.own{b k n:Nat} {e:TypeId} {v:Value} {xs:List Value} (h:KeepT ts ms base w w') (ho:aH w b e k v n xs) (he:e∉ts):aH w' b e k v n xs:=by
 obtain⟨hl,ho⟩:=ho;refine⟨hl,?_⟩;rcases ho with ho|⟨g,cap,cur,fz,h1,h2,h3,h4⟩
 ·exact .inl ho
 ·exact .inr ⟨g,cap,cur,fz,h1,h2,h.keep _ _ _ _ h3 he,h4⟩
theorem KeepT.fresh{α:Type} {to ti:TypeId} {k:Nat} {flat:List α->List Value} {b:Nat} {v:Value} {l:List (List α)} (h:KeepT ts ms base w w') (hf:cB to ti k flat w b v l) (h1:to∉ts) (h2:ti∉ts):cB to ti k flat w' b v l:=by
 obtain⟨xs,q1,q2⟩:=hf;exact⟨xs,h.own q1 h1,fun i hi=>by obtain⟨x,p1,p2⟩:=q2 i hi;exact⟨x,p1,h.own p2 h2⟩⟩
theorem KeepT.grown{b k n:Nat} {e:TypeId} {v:Value} {xs:List Value} (h:KeepT ts ms base w w') (ho:aH w' b e k v n xs) (he:e∈ts) (hb:base<=b) (hs:base<=w.heap.size) (hg:w'.grownBy w'' v.ownBlock):KeepT ts ms base w w'':=by
 refine⟨Below.grown h.old hg (Nat.le_trans hs h.old.size) (fun g e=>Nat.le_trans hb (ho.lt g e).1),fun j c t f h1 h2=>?_,fun j o h1 h2 h3=>?_⟩
 ·have h3:=h.keep j c t f h1 h2;exact(hg.block j (aC h3) (fun e'=>ho.ne h3 (fun e=>h2 (e ▸ he)) j e'.symm rfl)).trans h3
 ·have h4:=h.oth j o h1 h2 h3;exact(hg.block j (aC h4) (fun e'=>ho.isCells h4 h2 e')).trans h4
theorem KeepT.set{B o:Nat} {c:Array Value} {t:TypeId} {f:Nat × Nat} (h:KeepT ts ms base w w') (hB:w'.heap[B]?=some (.cells c t f)) (ht:t∈ts) (hb:base<=B) (v:Value):KeepT ts ms base w (w'.setCell ⟨B,o,none⟩ v):=by
 refine⟨h.old.setCell hb v,fun j c' t' f' h1 h2=>?_,fun j o' h1 h2 h3=>aK (h.oth j o' h1 h2 h3) ?_ o v⟩
 ·have h3:=h.keep j c' t' f' h1 h2;refine aK h3 ?_ o v;rintro rfl;rw[hB]at h3;cases h3;exact h2 ht
 ·rintro rfl;have h4:=h.oth _ o' h1 h2 h3;rw[hB]at h4;cases h4;cases h2
theorem KeepT.put{B:Nat} {o o':Obj} (h:KeepT ts ms base w w') (hB:w'.heap[B]?=some o) (ho:o.isCells=false) (hb:base<=B) (hm:B∈ms):KeepT ts ms base w (w'.putObj B o'):=by
 refine⟨eX hb h.old,fun j c' t' f' h1 h2=>?_,fun j o2 h1 h2 h3=>(World.putObj_heap_other (fun e=>h3 (by rw[e];exact hm))).trans (h.oth j o2 h1 h2 h3)⟩;have h3:=h.keep j c' t' f' h1 h2;refine(World.putObj_heap_other ?_).trans h3;rintro rfl;rw[hB]at h3;cases h3;cases ho
end
structure CAppS (w Wr:World) (base:Nat) (ty:TypeId) (sz:Nat) (vd:Value) (p m:Nat) (ds news:List Value) (ib ia:Nat) (D:Nat->Bool) (x:Nat->Value) (W:World):Prop where
 lo:base<=w.heap.size
 old:KeepT [ty] [] base w W
 size:Wr.heap.size<=W.heap.size
 kept:∀ (k:Nat) (o:Obj),Wr.heap[k]?=some o->vd.ownBlock≠some k->W.heap[k]?=some o
 rd:aH W base ty sz (bif D ia then x ia else vd) (bif D ia then p+m else p) (bif D ia then ds++news else ds)
 sb:D ib=true->D ia=false->∃ g,x ib=.slice (some ⟨g,0,none⟩) m m/\W.heap[g]?=some (.cells news.toArray ty)/\vd.ownBlock≠some g
section
variable {w Wr : World} {base : Nat} {ty : TypeId} {sz : Nat} {vd : Value} {p m : Nat} {ds news : List Value} {ib ia : Nat} {D : Nat → Bool} {x : Nat → Value} {W : World}
theorem CAppS.start{x:Nat->Value} (h0:base<=w.heap.size) (hb:KeepT [ty] [] base w W) (hs:Wr.heap.size<=W.heap.size) (hk:∀ (k:Nat) (o:Obj),Wr.heap[k]?=some o->vd.ownBlock≠some k->W.heap[k]?=some o) (hr:aH W base ty sz vd p ds):CAppS w Wr base ty sz vd p m ds news ib ia (fun _=>false) x W:=⟨h0,hb,hs,hk,hr,nofun⟩
theorem CAppS.grow{W':World} (h:CAppS w Wr base ty sz vd p m ds news ib ia D x W) (hb:Below W.heap.size W W'):CAppS w Wr base ty sz vd p m ds news ib ia D x W':=
 ⟨h.lo,h.old.trans (.of_below _ hb (Nat.le_trans h.lo h.old.old.size)),Nat.le_trans h.size hb.size,fun k o h1 h3=>af hb (h.kept k o h1 h3),h.rd.up hb,
  fun h1 h2=>by obtain⟨g,e,q1,q2⟩:=h.sb h1 h2;exact⟨g,e,af hb q1,q2⟩⟩
theorem CAppS.other(h:CAppS w Wr base ty sz vd p m ds news ib ia D x W) {i:Nat} (v:Value) (h1:ib≠i) (h2:ia≠i):CAppS w Wr base ty sz vd p m ds news ib ia (bJ D i) (cI x i v) W:=by
 refine⟨h.lo,h.old,h.size,h.kept,?_,?_⟩
 ·simpa only[bJ,cI,if_neg h2] using h.rd
 ·simpa only[bJ,cI,if_neg h2,if_neg h1] using h.sb
theorem CAppS.app(h:CAppS w Wr base ty sz vd p m ds news ib ia D x W) (ha:D ia=false) {v':Value} {w3:World} (ho:aH w3 base ty sz v' (p+m) (ds++news)) (hg:W.grownBy w3 vd.ownBlock) :
  CAppS w Wr base ty sz vd p m ds news ib ia (bJ D ia) (cI x ia v') w3:=by
 have rd:=h.rd;rw[ha]at rd;have eF:∀ (k:Nat) (o:Obj),W.heap[k]?=some o->vd.ownBlock≠some k->w3.heap[k]?=some o:=fun k o hk hn=>(hg.block k (aC hk) (fun e=>hn e.symm)).trans hk
 refine⟨h.lo,h.old.grown rd (by simp) (Nat.le_refl _) h.lo hg,Nat.le_trans h.size hg.size,fun k o h1 h3=>eF k o (h.kept k o h1 h3) h3,?_,fun _ e=>by simp[bJ]at e⟩;simpa[bJ,cI] using ho
theorem CAppS.build(h:CAppS w Wr base ty sz vd p m ds news ib ia D x W) (h1:ia≠ib):CAppS w Wr base ty sz vd p m ds news ib ia (bJ D ib) (cI x ib (.slice (some ⟨W.heap.size,0,none⟩) m m)) (W.alloc (.cells news.toArray ty)):=by
 have g:=h.grow (W':=W.alloc (.cells news.toArray ty)) (by go_grown);refine⟨g.lo,g.old,g.size,g.kept,?_,fun _ h4=>⟨W.heap.size,by simp[cI],aq _ _,fun e=>?_⟩⟩
 ·simpa only[bJ,cI,if_neg h1] using g.rd
 ·have h4':D ia=false:=by simpa only[bJ,if_neg h1] using h4
  have r:=h.rd;rw[h4']at r;have:=(r.lt _ e).2;omega
end
theorem dx(W:World) (l:List Value) (t:TypeId):∀ j u',l[j]?=some u'->(W.alloc (.cells l.toArray t)).cell? (Addr.add ⟨W.heap.size,0,none⟩ j)=some u':=fun j u' hj=>by
 have e1:(Addr.add ⟨W.heap.size,0,none⟩ j)=⟨W.heap.size,j,none⟩:=by unfold Addr.add;split<;>simp_all
 rw[e1,ab (aq W _)];simpa using hj
section
variable {w W w2 : World} {o : Obj} {base : Nat} {e : TypeId} {k n : Nat} {v : Value} {xs : List Value}
theorem dB(hb:Below w.heap.size w W) (h0:w.heap.size<=base) (ho:aH (W.alloc o) base e k v n xs) (hg:(W.alloc o).grownBy w2 v.ownBlock):Below w.heap.size w w2:=
 Below.grown (hb.alloc hb.size _) hg (by have:=hb.size;simp;omega) (fun g h=>Nat.le_trans h0 (ho.lt g h).1)
theorem Dp{N:Nat} (hb:Below N w W) (hN:N<=W.heap.size) (h0:N<=base) (ho:aH (W.alloc o) base e k v n xs) (hg:(W.alloc o).grownBy w2 v.ownBlock):Below N w w2:=
 Below.grown (hb.alloc hN _) hg (by simp;omega) (fun g h=>Nat.le_trans h0 (ho.lt g h).1)
theorem im{b:Nat} {c:Array Value} {t:TypeId} {f:Nat × Nat} (ho:aH (W.alloc o) base e k v n xs) (hg:(W.alloc o).grownBy w2 v.ownBlock) (h:W.heap[b]?=some (.cells c t f)) (bM:e≠t):w2.heap[b]?=some (.cells c t f):=by
 have h1:(W.alloc o).heap[b]?=some (.cells c t f):=ar _ h;exact(hg.block b (aC h1) (fun e'=>ho.ne h1 bM b e'.symm rfl)).trans h1
theorem nM{b:Nat} {x:Obj} (ho:aH (W.alloc o) base e k v n xs) (hg:(W.alloc o).grownBy w2 v.ownBlock) (h:W.heap[b]?=some x) (hc:x.isCells=false):w2.heap[b]?=some x:=by
 have h1:(W.alloc o).heap[b]?=some x:=ar _ h;exact(hg.block b (aC h1) (fun e'=>ho.isCells h1 hc e')).trans h1
theorem ur{b:Nat} {x:Obj} (ho:aH (W.alloc o) base e k v n xs) (hg:(W.alloc o).grownBy w2 v.ownBlock) (h:W.heap[b]?=some x) (hb:b<base):w2.heap[b]?=some x:=by
 have h1:(W.alloc o).heap[b]?=some x:=ar _ h;exact(hg.block b (aC h1) (fun e'=>by have:=(ho.lt b e'.symm).1;omega)).trans h1
end
def qq(l:List (Int × Int)) (k:Int):Option Int:=(l.find? fun p=>decide (k=p.1)).map (·.2)
def dy(w:World) (b:Nat) (f:Int->Option Int) (n:Nat):Prop:=
 ∃ es clock l,w.heap[b]?=some (.map es clock)/\es.toList.map (fun e=>(e.key,e.val))=l.map (fun p:Int × Int=>(Value.int .i64 p.1,Value.int .i64 p.2))/\l.length=n/\∀ k,qq l k=f k
theorem dy.kept{A A':World} {b n:Nat} {f:Int->Option Int} (h:dy A b f n) (he:A'.heap[b]?=A.heap[b]?):dy A' b f n:=by
 obtain⟨es,clock,l,h1,hf⟩:=h;exact⟨es,clock,l,he.trans h1,hf⟩
theorem dy.lt{w:World} {b n:Nat} {f:Int->Option Int} (h:dy w b f n):b<w.heap.size:=by
 obtain⟨_,_,_,he,_⟩:=h;exact aC he
theorem dy.up{A A':World} {b n:Nat} {f:Int->Option Int} (h:dy A b f n) (hb:Below A.heap.size A A'):dy A' b f n:=h.kept (hb.block b h.lt)
theorem dy.other{A:World} {b n:Nat} {f:Int->Option Int} (h:dy A b f n):∃ o,A.heap[b]?=some o/\o.isCells=false:=by
 obtain⟨es,clock,l,h1,_⟩:=h;exact⟨_,h1,rfl⟩
theorem dy.congr{A:World} {b n m:Nat} {f g:Int->Option Int} (h:dy A b f n) (hf:∀ k,f k=g k) (hn:n=m):dy A b g m:=by
 obtain⟨es,clock,l,h1,h2,h3,h4⟩:=h;exact⟨es,clock,l,h1,h2,hn ▸ h3,fun k=>(h4 k).trans (hf k)⟩
theorem dy.new(w:World):dy (w.alloc (.map #[] 0)) w.heap.size (fun _=>none) 0:=⟨#[],0,[],aq w _,rfl,rfl,fun _=>rfl⟩
theorem Nl(k:Int) (d:TypeDesc) (hd:d=.int .i64):∀ (l:List (Int × Int)) (es:List MapEntry) (i:Nat),es.map (fun e=>(e.key,e.val))=l.map (fun p=>(Value.int .i64 p.1,Value.int .i64 p.2)) →
  (qq l k=none/\Instr.findNow d (.int .i64 k) es i=some none)\/∃ j x,qq l k=some x/\Instr.findNow d (.int .i64 k) es i=some (some (i+j,.int .i64 x))/\(l[j]?.map (·.1))=some k/\∀ y k',qq (l.modify j fun p=>(p.1,y)) k'=if k'=k then some y else qq l k'
 | [],es,i,h=>by
  obtain rfl:es=[]:=by simpa using h
  exact .inl ⟨rfl,rfl⟩
 | p :: l,es,i,h=>by
  cases es with
  | nil=>simp at h
  | cons e es=>
   simp only[List.map_cons,List.cons.injEq,Prod.mk.injEq]at h;obtain⟨⟨hk,hv⟩,h⟩:=h;subst hd;have hs:Instr.sameNow (.int .i64) (.int .i64 k) e.key=some (k == p.1):=by rw[hk];simp[Instr.sameNow]
   by_cases e1:k=p.1
   ·subst e1;refine .inr ⟨0,p.2,by simp[qq],by unfold Instr.findNow;rw[hs];simp[hv],rfl,fun y k'=>?_⟩;simp only[List.modify_zero_cons,qq,List.find?_cons];by_cases e2:k'=p.1
    ·simp[e2]
    ·simp[e2]
   ·have iS:Instr.sameNow (.int .i64) (.int .i64 k) e.key=some false:=by rw[hs];simpa using e1
    have e3:qq (p :: l) k=qq l k:=by simp[qq,e1]
    have hf:Instr.findNow (.int .i64) (.int .i64 k) (e :: es) i=Instr.findNow (.int .i64) (.int .i64 k) es (i+1):=by
     rw[Instr.findNow,iS]
    rcases Nl k (.int .i64) rfl l es (i+1) h with ⟨h1,h2⟩|⟨j,x,h1,h2,h3,h4⟩
    ·exact .inl ⟨by rw[e3];exact h1,by rw[hf];exact h2⟩
    ·refine .inr ⟨j+1,x,by rw[e3];exact h1,by rw[hf,h2,show i+1+j=i+(j+1) by omega],by simpa using h3,fun y k'=>?_⟩;have h5:=h4 y k';simp only[List.modify_succ_cons,qq,List.find?_cons]at h5 ⊢;by_cases e2:k'=p.1
     ·subst e2;rw[if_neg (fun e=>e1 e.symm)];simp
     ·simp only[e2,decide_false];exact h5
theorem Nm{P:Program} {kt:TypeId} (hk:P.underlying kt=some (.int .i64)) (k:Int) (es:List MapEntry) (w:World) (r:Option (Nat × Value)) (h:Instr.findNow (.int .i64) (.int .i64 k) es 0=some r):(Instr.findKey kt (.int .i64 k) es).run P w=.ok r w:=by
 unfold Instr.findKey;simp[Sem.run_bind,run_underlying hk,h]
theorem Dq{P:Program} {kt:TypeId} (hk:P.underlying kt=some (.int .i64)) (em:Bool) (k:Int) (w:World):(Instr.checkKey em 10000 kt (.int .i64 k)).run P w=.ok () w:=by
 unfold Instr.checkKey;simp[Sem.run_bind,run_underlying hk]
section
variable {P : Program} {kt mt vt : TypeId} {w : World} {b n : Nat} {f : Int → Option Int}
theorem Fh(hm:P.underlying mt=some (.map kt vt)) (hk:P.underlying kt=some (.int .i64)) (hz:∀ w,(zeroValue vt).run P w=.ok (.int .i64 0) w) (h:dy w b f n) (k:Int) :
  (Instr.lookup mt (.map (some b)) (.int .i64 k) true).run P w=.ok (.tuple #[.int .i64 ((f k).getD 0),.bool (f k).isSome]) w:=by
 obtain⟨es,clock,l,hb,jd,_,hf⟩:=h;have hg:(getObj b).run P w=.ok (.map es clock) w:=by simp[getObj,Sem.run,hb]
 rw[<-hf k];unfold Instr.lookup;rcases Nl k _ rfl l es.toList 0 jd with ⟨h1,h2⟩|⟨j,x,h1,h2,_⟩
 ·simp[Sem.run_bind,run_underlying hm,hg,Dq hk,Nm hk k _ w _ h2,hz,h1]
 ·simp[Sem.run_bind,run_underlying hm,hg,Dq hk,Nm hk k _ w _ h2,h1]
theorem ZS(h:dy w b f n):∃ es clock,w.heap[b]?=some (.map es clock)/\es.size=n:=by
 obtain⟨es,clock,l,hb,jd,hl,_⟩:=h;refine⟨es,clock,hb,?_⟩;have:=congrArg List.length jd;simpa[hl] using this
theorem Wx(hm:P.underlying mt=some (.map kt vt)) (ty:TypeId) (h:dy w b f n):(Builtin.len_ #[mt] ty #[.map (some b)]).run P w=.ok (.int .i64 (n:Int)) w:=by
 obtain⟨es,clock,hb,hn⟩:=ZS h;have hg:(getObj b).run P w=.ok (.map es clock) w:=by simp[getObj,Sem.run,hb]
 subst hn;simp[Builtin.len_,run_underlying hm,hg,goInt,Result.andThen]
theorem wh(hm:P.underlying mt=some (.map kt vt)) (hk:P.underlying kt=some (.int .i64)) (h:dy w b f n) (k x:Int) :
  ∃ o,(Instr.mapUpdate mt (.map (some b)) (.int .i64 k) (.int .i64 x)).run P w=.ok () (w.putObj b o)/\dy (w.putObj b o) b (fun j=>if j=k then some x else f j) (if (f k).isSome then n else n+1):=by
 obtain⟨es,clock,l,hb,jd,hl,hf⟩:=h;have hg:(getObj b).run P w=.ok (.map es clock) w:=by simp[getObj,Sem.run,hb]
 have hs:∀ o,(setObj b o).run P w=.ok () (w.putObj b o):=fun o=>by simp[setObj,Sem.run,hb,World.putObj]
 rw[<-hf k];rcases Nl k _ rfl l es.toList 0 jd with ⟨h1,h2⟩|⟨j,y,h1,h2,h3,h4⟩
 ·refine⟨.map (es.push { key:=.int .i64 k,val:=.int .i64 x,born:=clock }) (clock+1),?_,es.push { key:=.int .i64 k,val:=.int .i64 x,born:=clock },clock+1,l++[(k,x)],World.putObj_heap_same (aC hb),by simp[jd],by rw[h1];simp[hl],fun j=>?_⟩
  ·unfold Instr.mapUpdate;simp[Sem.run_bind,run_underlying hm,hg,Dq hk,Nm hk k _ w _ h2,hs]
  ·unfold qq at h1 ⊢;rw[List.find?_append]
   show Option.map _ _=if j=k then some x else f j
   by_cases e:j=k
   ·subst e;rw[Option.map_eq_none_iff]at h1;simp[h1]
   ·rw[if_neg e,<-hf j];unfold qq;cases l.find? fun p=>decide (j=p.1)<;>simp[e]
 ·rw[Nat.zero_add]at h2;have cC:es.toList.length=l.length:=by simpa using congrArg List.length jd
  have hj:j<l.length:=by
   apply Classical.byContradiction;intro hj;rw[List.getElem?_eq_none (by omega)]at h3;simp at h3
  have hje:j<es.size:=by simpa using (show j<es.toList.length by omega)
  have nD:es[j].key=.int .i64 k:=by
   have h5:=congrArg (fun L=>L[j]?) jd;simp only[List.getElem?_map,List.getElem?_eq_getElem hj,List.getElem?_eq_getElem (show j<es.toList.length by omega)]at h5 h3;simp only[Option.map_some,Option.some.injEq,Prod.mk.injEq,Array.getElem_toList]at h5 h3;rw[h5.1,h3]
  refine⟨.map (es.modify j fun e=>{ e with key:=.int .i64 k,val:=.int .i64 x }) clock,?_,es.modify j fun e=>{ e with key:=.int .i64 k,val:=.int .i64 x },clock,l.modify j fun p=>(p.1,x),World.putObj_heap_same (aC hb),?_,by rw[h1];simp[hl],fun j'=>by rw[h4 x j',hf]⟩
  ·unfold Instr.mapUpdate
   have eF:(Instr.keyThatStays (.int .i64 k) (.int .i64 k)).run P w=.ok (.int .i64 k) w:=by
    unfold Instr.keyThatStays;rw[if_pos (by simp[Instr.sameBits])];rfl
   simp[Sem.run_bind,run_underlying hm,hg,Dq hk,Nm hk k _ w _ h2,hs,hje,nD,eF]
  ·apply List.ext_getElem?;intro i;have h5:=congrArg (fun L=>L[i]?) jd;simp only[List.getElem?_map]at h5 ⊢;rw[List.getElem?_modify,Array.getElem?_toList,Array.getElem?_modify];rw[Array.getElem?_toList]at h5;by_cases e:j=i
   ·subst e;simp only[if_pos,List.getElem?_eq_getElem hj,Array.getElem?_eq_getElem hje,Option.map_some,Option.some.injEq,Prod.mk.injEq]at h5 ⊢;rw[List.getElem?_eq_getElem hj]at h3;simp only[Option.map_some,Option.some.injEq]at h3;simp[h3]
   ·simp only[if_neg e];cases h6:l[i]? with
    | none=>rw[h6]at h5;exact h5
    | some q=>rw[h6]at h5;exact h5
end
structure OwnQ (w:World) (g:Nat) (e:TypeId) (v:Value) (n:Nat) (xs:List Value):Prop where
 len:xs.length=n
 ex:∃ off cap,v=.slice (some ⟨g,off,none⟩) n cap/\n<=cap/\cap<=maxLen/\(cap=0\/∃ cur fz,w.heap[g]?=some (.cells cur e fz)/\(∀ i,i<cur.size->¬ (fz.1<=i/\i<fz.2))/\cur.size=off+cap/\(cur.toList.drop off).take n=xs)
theorem OwnQ.up{w w':World} {g:Nat} {e:TypeId} {v:Value} {n:Nat} {xs:List Value} (h:OwnQ w g e v n xs) (hb:w'.heap[g]?=w.heap[g]?\/g ≥ w.heap.size):OwnQ w' g e v n xs:=by
 obtain⟨off,cap,h1,h2,h3,h4⟩:=h.ex;refine⟨h.len,off,cap,h1,h2,h3,?_⟩;rcases h4 with h4|⟨cur,fz,h5,h6⟩
 ·exact .inl h4
 ·rcases hb with hb|hb
  ·exact .inr ⟨cur,fz,hb.trans h5,h6⟩
  ·have:=aC h5;omega
structure GrowQ (g:Nat) (w w':World):Prop where
 os:w'.os=w.os
 tape:w'.tape=w.tape
 output:w'.output=w.output
 size:w.heap.size<=w'.heap.size
 same:∀ k,k<w.heap.size->k≠g->w'.heap[k]?=w.heap[k]?
theorem GrowQ.below{g n:Nat} {w0 w w':World} (h:GrowQ g w w') (hb:Below n w0 w) (hn:n<=w.heap.size) (hg:n<=g):Below n w0 w':=
 ⟨h.os.trans hb.os,h.tape.trans hb.tape,h.output.trans hb.output,Nat.le_trans hb.size h.size,fun k hk=>(h.same k (by omega) (by omega)).trans (hb.block k hk)⟩
theorem GrowQ.keep{g:Nat} {w w':World} (h:GrowQ g w w') {k:Nat} {o:Obj} (hk:w.heap[k]?=some o) (hg:k≠g):w'.heap[k]?=some o:=(h.same k (aC hk) hg).trans hk
section
variable {P : Program} (w : World)
theorem Jb(t ty e:TypeId) (i:TypeInfo) (z:Value) (bytes:Nat) (ht:P.underlying t=some (.slice e)) (hi:P.info? e=some i) (hz:i.zero=some z)
  (ff:i.size=1) (gR:i.bytes=bytes) (tE:z.cells.size=1)
  (g:Nat) (v:Value) (n:Nat) (xs:List Value) (aS:OwnQ w g e v n xs)
  (a:Addr) (c:Nat) (u:Value) (bU:∀ j x,[u][j]?=some x->w.cell? (a.add j)=some x) (h1:u.oneCell'=true)
  (pM:n+1<=maxLen) (gJ:(n+1) * bytes<=140737488355328) :
  ∃ v' w' g',(Builtin.append_ #[t,t] ty #[v,.slice (some a) 1 c]).run P w=.ok v' w'/\OwnQ w' g' e v' (n+1) (xs++[u])/\GrowQ g w w'/\(g'=g/\g<w.heap.size\/g'=w.heap.size):=by
 obtain⟨off,cap,rfl,jH,rk,h⟩:=aS.ex;have iQ:=aS.len;by_cases mZ:n+1<=cap
 ·rcases h with h|⟨cur,fz,hg,oh,jU,nP⟩
  ·omega
  have hr:=run_append_room_cells (P:=P) w t ty e i ht hi g off n cap a 1 c [u] (by simp[ff]) bU (by simpa using h1) mZ (fun j hj=>by
    rw[ff,Nat.mul_one,ab hg];simp at hj;simp
    omega)
   (fun j hj=>by
    simp at hj;simp only[World.frozen?,hg];have:=oh (off+n * i.size+j) (by rw[ff];omega)
    simpa using this)
  rw[ff,Nat.mul_one]at hr;have gj:w.setCells g (off+n) [u]=w.setCell ⟨g,off+n,none⟩ u:=rfl;rw[gj]at hr;refine⟨_,_,g,hr,⟨by simp[iQ],off,cap,rfl,mZ,rk,.inr ⟨_,fz,aF hg _ _,fun i hi=>oh i (by simpa using hi),by simpa using jU,?_⟩⟩,⟨rfl,rfl,rfl,by simp,fun k _ hk=>Below.heap_setCell _ _ _ _ hk⟩,.inl ⟨rfl,aC hg⟩⟩;rw[Array.toList_setIfInBounds,List.drop_set,if_neg (by omega),Nat.add_sub_cancel_left,List.take_succ_eq_append_getElem (by simp;omega),List.take_set_of_le (Nat.le_refl _),nP,List.getElem_set_self]
 ·have Ed:∀ j x,xs[j]?=some x->w.cell? ((⟨g,off,none⟩:Addr).add j)=some x:=fun j x hx=>by
   have hj:=(List.getElem?_eq_some_iff.1 hx).1;rcases h with h|⟨cur,fz,hg,oh,jU,nP⟩
   ·omega
   have e1:((⟨g,off,none⟩:Addr).add j)=⟨g,off+j,none⟩:=by unfold Addr.add;split<;>simp_all
   rw[e1,ab hg];rw[<-nP,List.getElem?_take,if_pos (by omega),List.getElem?_drop]at hx;simpa using hx
  have hr:=run_append_grow (P:=P) w t ty e i z ht hi hz ⟨g,off,none⟩ n cap xs (by rw[ff,iQ,Nat.mul_one]) Ed a 1 c [u] (by simp[ff]) bU (by omega) (by simp only[maxLen]at pM;omega) (growslice_fits (by omega) (by rw[gR];exact gJ));obtain⟨v',w',q1,q2,q3⟩:=run_append_arg_grows (P:=P) w t ty e i z i.size i.bytes ht hi hz rfl rfl (by rw[ff,tE]) (by omega) ⟨g,off,none⟩ n cap xs (by rw[ff,iQ,Nat.mul_one]) Ed a 1 c [u] (by simp[ff]) bU (by omega) pM (by rw[gR];exact gJ);have e1:=hr.symm.trans q1;injection e1 with e1 e2
  subst e1 e2;have q4:=aH.of_owns q2;rw[ff]at q4;refine⟨_,_,w.heap.size,hr,⟨by simp[iQ],?_⟩,⟨q3.os,q3.tape,q3.output,q3.size,fun k hk _=>q3.block k hk (by simp)⟩,.inr rfl⟩;rcases q4.2 with ⟨hn,_⟩|⟨g',cap',cur,fz,hv,_,hg,oh,hnc',hcm',jU,nP⟩
  ·cases hn
  ·injection hv with jF _ RB
   injection jF with jF
   injection jF with jF
   subst jF RB;exact⟨0,_,rfl,hnc',hcm',.inr ⟨cur,fz,hg,oh,by omega,by rw[List.drop_zero,<-nP,Nat.mul_one]⟩⟩
theorem A9{F:Fence} {d:Nat} {ops:Array Oper} {rest:List Oper} {o:Oper} {a:Act} {Q:Exit->Act->World->Prop} (l3:o.guard=none) (s x:Operand) (t:TypeId)
  (ho:o.op=.call { callee:=.builtin .append,args:=#[s,x],argTypes:=#[t,t] })
  (e:TypeId) (i:TypeInfo) (z:Value) (bytes:Nat) (ht:P.underlying t=some (.slice e)) (hi:P.info? e=some i) (hz:i.zero=some z)
  (ff:i.size=1) (gR:i.bytes=bytes) (tE:z.cells.size=1)
  (g:Nat) (v:Value) (n:Nat) (xs:List Value) (hs:a.eval s=v) (aS:OwnQ w g e v n xs)
  (ad:Addr) (c:Nat) (u:Value) (hx:a.eval x=.slice (some ad) 1 c) (bU:∀ j x,[u][j]?=some x->w.cell? (ad.add j)=some x) (h1:u.oneCell'=true)
  (pM:n+1<=maxLen) (gJ:(n+1) * bytes<=140737488355328)
  (h:∀ v' w' g',OwnQ w' g' e v' (n+1) (xs++[u])->GrowQ g w w'->(g'=g/\g<w.heap.size\/g'=w.heap.size)->wpListIn F d P ops Q rest (a.put o.dst v') w'):wpListIn F d P ops Q (o :: rest) a w:=by
 refine wpListIn_plain l3 fun K hK'=>?_
 obtain⟨v',w',g',Ux,r1,r2,r3⟩:=Jb (P:=P) w t o.type e i z bytes ht hi hz ff gR tE g v n xs aS ad c u bU h1 pM gJ;unfold Oper.wpIn;refine⟨?_,?_⟩
 ·simp[Oper.about,ho,resolve,Target.leads,Sem.run_pure]
 ·rw[Oper.semAt_plain F _ _ (by rw[ho];intro c lC;cases lC)];simp[execOp,ho,resolve,invoke,builtin,hs,hx,Ux,Result.andThen];exact hK' _ _ (h v' w' g' r1 r2 r3)
end
theorem OwnQ.tail{w:World} {g:Nat} {e:TypeId} {off n cap:Nat} {x:Value} {xs:List Value} (h:OwnQ w g e (.slice (some ⟨g,off,none⟩) (n+1) cap) (n+1) (x :: xs)):OwnQ w g e (.slice (if cap=1 then some ⟨g,off,none⟩ else some ⟨g,off+1,none⟩) n (cap - 1)) n xs:=by
 have hl:=h.len;obtain⟨off',cap',hv,h2,h3,h4⟩:=h.ex;injection hv with e1 _ e3
 injection e1 with e1
 injection e1 with _ e1
 subst e1 e3;simp at hl;rcases h4 with h4|⟨cur,fz,h5,h6,h7,h8⟩
 ·omega
 by_cases hc:cap=1
 ·subst hc;obtain rfl:n=0:=by omega
  have:xs=[]:=List.eq_nil_of_length_eq_zero hl;subst this;exact⟨rfl,off,0,by simp,by omega,by omega,.inl rfl⟩
 ·refine⟨hl,off+1,cap - 1,by rw[if_neg hc],by omega,by omega,.inr ⟨cur,fz,h5,h6,by omega,?_⟩⟩;rw[show off+1=1+off by omega,<-List.drop_drop];have h9:=congrArg (List.drop 1) h8;rw[List.drop_take,Nat.add_sub_cancel]at h9;simpa using h9
end Go.Proofs.YtmeaoneaephjeaaGreatDoor
namespace Go.Proofs.YtmeaoneaephjeaaGreatDoor
open Go.RowKit Go Go.Shelf
attribute [local go_sem] Oper.semAt_some
theorem bd(w:World) (a b:Obj):((w.alloc a).alloc b).heap[w.heap.size+1]?=some b:=by simpa using aq (w.alloc a) b
theorem eI(w:World) (a b c:Obj):(((w.alloc a).alloc b).alloc c).heap[w.heap.size+1+1]?=some c:=by simpa using aq ((w.alloc a).alloc b) c
theorem ju(tmps:Array Value) (B:Nat) (W:World) (x:Int) (ty:TypeId) (ht:tmps[2]?.getD undef=.pointer (some ⟨B,0,none⟩)) (hb:W.heap[B]?=some (.cells #[.int .i64 x] ty)) :
  (results Tryz.f211 tmps).run Tryz.prog W=.ok (.int .i64 x) W:=by
 have c:=ab hb 0;simp at c;simp[results,Tryz.results211,go_sem,ht,c]
theorem zC(a:Adv) (v:Value) (w:World) (hv:bF w v a.states) (hN:movesN a.states<1099511627776) :
  Calls Tryz.prog 211 #[.agg #[.int .i64 a.n,v]] w fun e w'=>e=.returned (.int .i64 (advE a))/\Below w.heap.size w w':=by
 have G:=aa hv;obtain⟨pa,ca,rfl,la1,la2,ea⟩:=hv.at;clear hv;have E:=aa ea;clear ea;refine gq Tryz.func211 rfl ?_;simp only[Tryz.ntmps211,List.size_toArray,List.length_cons,List.length_nil,Nat.reduceAdd,Nat.reduceSub,Array.replicate_succ,Array.replicate_zero,List.push_toArray,List.append_toArray,List.nil_append,List.cons_append];by_cases hn:a.n<1\/5<a.n
 ·have HV:am (advE a=2):=by(have h:advE a=2:=by(unfold advE;rw[if_pos hn]));exact h
  rcases hn with hn|hn
  ·go_wp2_with fail
   refine iE (ju _ _ _ 2 _ rfl (bd _ _ _)) ?_;exact⟨aG HV.o.symm,by go_grown⟩
  ·go_wp2_with fail
   refine iE (ju _ _ _ 2 _ rfl (bd _ _ _)) ?_;exact⟨aG HV.o.symm,by go_grown⟩
 have jS:1<=a.n:=by omega
 have nV:a.n<=5:=by omega
 have HV:am (advE a=if sizedE a≠0 then sizedE a else if bg a.states.length (fun s=>stateE a (a.states.getD s []))≠0 then bg a.states.length (fun s=>stateE a (a.states.getD s [])) else if growsB a then 0 else 21):=by
  have h:advE a=if sizedE a≠0 then sizedE a else if bg a.states.length (fun s=>stateE a (a.states.getD s []))≠0 then bg a.states.length (fun s=>stateE a (a.states.getD s [])) else if growsB a then 0 else 21:=by
   unfold advE sizedE;rw[if_neg hn];grind
  exact h
 clear hn
 go_wp2_with fail
 refine aN (fun W=>Below w.heap.size w W/\W.heap[w.heap.size]?=some (.cells #[.int .i64 a.n,.slice pa a.states.length ca] 27)/\W.heap[w.heap.size+1]?=some (.cells #[.int .i64 0] 39)) ⟨by go_grown,ar _ (aq _ _),bd _ _ _⟩ (fun W0 aZ=>?_);obtain⟨aI,bI,ic⟩:=aZ;refine(PX a _ W0 (G.o.up up_moves aI) hN).mono ?_;rintro e w1 ⟨rfl,aJ⟩;have eK:=af aJ bI;have sJ:=af aJ ic;have jt:=ae aI aJ;have c1:=ab sJ 0;have f1:=aE sJ 0;simp at c1;have t1:=ab eK;generalize sizedE a=es at HV;have db:=aa eK;have dg:=aa sJ;clear bI ic aI aJ W0 eK sJ;by_cases jd:es=0
 case neg=>
  have hes':(es != 0)=true:=by simpa using jd
  go_wp2_with fail
  refine iE (ju _ _ _ es _ rfl (by rw[aF dg.o];rfl)) ?_;exact⟨aG (by rw[HV.o,if_pos jd]),jt.setCell (by simp) _⟩
 subst jd
 go_wp2_with fail
 clear t1 c1 f1
 go_loopw [27] (fun i wr=>Below w1.heap.size w1 wr/\∃ k:Nat,k<=a.states.length/\i=.int .i64 k/\∀ j,j<k->stateE a (a.states.getD j [])=0) (fun i _=>a.states.length - (intOf i).toNat)
 case atStart=>exact⟨Below.refl _ _,0,by omega,rfl,by simp⟩
 case round=>
  obtain⟨az,k,hk,rfl,aW⟩:=hrel;have H:=aa aW;clear aW;have dH:=ae jt az;have uY:=af az db.o;have Wc:=af az dg.o;have t1:=ab uY;by_cases aB:k<a.states.length
  ·obtain⟨b1,o1,rfl,x,cx,hx⟩:=E.o k aB;rw[Nat.mul_one]at cx;have d1:=ak dH cx;have HX:=aa (hx.up up_move dH);obtain⟨px,qx,rfl,_⟩:=hx;clear cx;have Wg:=aa Wc;clear uY Wc
   go_wp2_with fail
   refine(P0 a _ _ _ _ _ HX.o).mono ?_;rintro e w2 ⟨rfl,a8⟩;have mJ:=af a8 Wg.o;have c1:=ab mJ 0;have f1:=aE mJ 0;simp at c1;have dU:=aa mJ;clear mJ;have HS:am (stateE a (a.states.getD k [])=stateE a a.states[k]):=by(have h:stateE a (a.states.getD k [])=stateE a a.states[k]:=by(rw[aA [] aB]));exact h
   generalize stateE a a.states[k]=ek at HS;clear t1 d1;by_cases pC:ek=0
   ·subst pC
    go_wp2_with fail
    go_roundw
    ·exact⟨ae az a8,k+1,by omega,by go_num,aV H.o HS.o⟩
    ·simp[intOf];omega
   ·have TV:(ek != 0)=true:=by simpa using pC
    go_wp2_with fail
    refine iE (ju _ _ _ ek _ rfl (by rw[aF dU.o];rfl)) ?_;exact⟨aG (by rw[HV.o,if_neg (by simp),<-bV (f:=fun s=>stateE a (a.states.getD s [])) k ek aB H.o HS.o pC,if_pos pC]),(ae dH a8).setCell (by simp) _⟩
  ·have aU:∀ j,j<a.states.length->stateE a (a.states.getD j [])=0:=fun j hj=>H.o j (by omega)
   have da:am (advE a=if growsB a then 0 else 21):=by
    have h:advE a=if growsB a then 0 else 21:=by rw[HV.o,if_neg (by simp),cV _ _ aU];simp
    exact h
   have nB:=aa aU;clear aU H HV;have HAr:=aa uY;have Wg:=aa Wc;clear uY Wc
   go_wp2_with fail
   refine(zA _ _ _ _ _).mono ?_;rintro e w2 ⟨rfl,rfl⟩;clear t1
   go_wp2_with fail
   refine bu (fun W=>Below w.heap.size w W/\W.heap[w.heap.size]?=some (.cells #[.int .i64 a.n,.slice pa a.states.length ca] 27)/\W.heap[w.heap.size+1]?=some (.cells #[.int .i64 0] 39)/\W.heap[wr.heap.size]?=some (.cells #[.int .i64 a.n,.slice pa a.states.length ca] 27))
    ⟨dH.alloc dH.size _,ar _ HAr.o,ar _ Wg.o,aq _ _⟩ (fun W0 aZ=>?_)
   obtain⟨aI,hA,hR,hX⟩:=aZ;have dr:=xE w _ a.states G.o W0 aI wr.heap.size (by simp[ab hX]);have fk:=aC hX;have hsw:=dH.size;have hsR:=aC Wg.o
   refine ni (gf:=221) (lb:=#[.pointer (some ⟨wr.heap.size,0,none⟩)]) rfl (enters_of Tryz.func221 (by kernel_rfl) rfl) dr (Below.refl _ _) (fun k hk=>Nat.lt_of_lt_of_le hk aI.size) (fun i=>rfl)
    (fun i W=>Below w.heap.size w W/\W.heap[w.heap.size]?=some (.cells #[.int .i64 a.n,.slice pa a.states.length ca] 27)/\W.heap[w.heap.size+1]?=some (.cells #[.int .i64 0] 39)/\∀ j,j<i->qH a j=false)
    (fun c _ W=>c=.ret/\Below w.heap.size w W/\W.heap[w.heap.size+1]?=some (.cells #[.int .i64 21] 39)/\growsB a=false)
    (fun i=>(cO.below (by omega)).and (cO.cells.and (cO.cells.and cO.pure))) (fun c i=>cO.pure.and ((cO.below (by omega)).and (cO.cells.and cO.pure))) ⟨aI,hA,hR,by simp⟩ ?round ?done ?stop
   case round=>
    intro yl i W hi hl hI;unfold I';have gC:=Wl nB.o hi;have HB:am (qH a i=anyLt (oy a i).length fun k=>!iV (mvAt a.states i).2.r.f ((oy a i).getD k default).r.f):=by(have h:qH a i=anyLt (oy a i).length fun k=>!iV (mvAt a.states i).2.r.f ((oy a i).getD k default).r.f:=rfl);exact h
    have Q6:am (oy a i=a.states.getD (mvAt a.states i).2.to.toNat []):=by(have h:oy a i=a.states.getD (mvAt a.states i).2.to.toNat []:=rfl);exact h
    generalize mvAt a.states i=sm at gC HB Q6;obtain⟨sx,m⟩:=sm;dsimp only at gC HB Q6;obtain⟨⟨hZ,eU⟩,ht0,ht1⟩:=gC;have HI:=aa hI;clear hI;have TZ:=HI.o.1.size
    gi_wp2
    refine⟨Bod.of_below (fun k hk=>Nat.lt_of_lt_of_le hk TZ) (by go_grown),(fun W'=>Below w.heap.size w W'/\W'.heap[w.heap.size]?=some (.cells #[.int .i64 a.n,.slice pa a.states.length ca] 27)/\W'.heap[w.heap.size+1]?=some (.cells #[.int .i64 0] 39)/\W'.heap[W.heap.size]?=some (.cells #[.int .i64 m.r.g.n,.int .i64 m.r.g.h0,.int .i64 m.r.g.h1,.int .i64 m.r.g.h2,.int .i64 m.r.g.h3,.int .i64 m.r.g.h4,.int .i64 m.r.f,.int .i64 m.to] 143)),
     (cO.below (by omega)).and (cO.cells.and (cO.cells.and cO.cells)),⟨HI.o.1.alloc TZ _,ar _ HI.o.2.1,ar _ HI.o.2.2.1,aq _ _⟩,fun W2 h2 _=>?_⟩
    obtain⟨g1,g2,g3,g4⟩:=h2;have ry:=aa HI.o.2.2.2;have JT:=g1.size;have hszR:=aC g3;have hszM:=aC g4;have tA:=ab g2;have tM:=ab g4;have pE:=aa g1;have Ek:=aa g3;have sP:=aa g2;have U4:=aa g4;clear g1 g2 g3 g4 HI dr hA hR hX;obtain⟨b1,o1,rfl,x,cx,hx⟩:=E.o m.to.toNat (by omega);have HL:am (oy a i=a.states[m.to.toNat]):=by(have h:oy a i=a.states[m.to.toNat]:=by(rw[Q6.o,aA [] (by omega)]));exact h
    rw[Nat.mul_one]at cx;have d1:=ak pE.o cx;obtain⟨p2,c2,rfl,m1,m2,e2⟩:=hx.at;clear hx cx;have E2:=aa e2;clear e2;generalize hLL:a.states[m.to.toNat]=L at HL E2 d1 m1 m2;have iw:=aa hLL;clear hLL
    gi_wp2
    clear tA tM d1
    gi_loopw [49] (fun i wr=>Below W2.heap.size W2 wr/\∃ q:Nat,q<=L.length/\i=.int .i64 q/\∀ j,j<q->iV m.r.f (L.getD j default).r.f=true) (fun i _=>L.length - (intOf i).toNat)
    case atStart=>exact⟨Below.refl _ _,0,by omega,rfl,by simp⟩
    case round=>
     obtain⟨ki,q,hq,rfl,qM⟩:=hrel;have H2:=aa qM;clear qM;have tM:=ab (af ki U4.o);have Ep:=af ki Ek.o;have c1':=ab Ep 0;have f1':=aE Ep 0;simp at c1';have eT:=aa Ep;clear Ep;have lg:=ae pE.o ki;have iS:=ki.size;have sO:W.heap.size<wr.heap.size:=by omega
     have hR3':w.heap.size+1<wr.heap.size:=by omega
     by_cases BR:q<L.length
     ·have OW:0<=L[q].r.f/\L[q].r.f<32:=by
       have:=(lF nB.o (s:=m.to.toNat) (j:=q) (by omega) (by rw[iw.o];exact BR)).1;simpa[iw.o] using this
      have Yv:am (L.getD q default=L[q]):=aA default BR;obtain⟨b2,o2,rfl,⟨⟨c0,_⟩,⟨c1,_⟩,⟨c2,_⟩,⟨c3,_⟩,⟨c4,_⟩,⟨c5,_⟩,⟨c6,_⟩⟩,c7,_⟩:=E2.o q BR;have d0:=ak lg c0;have d1:=ak lg c1;have d2:=ak lg c2;have d3:=ak lg c3;have d4:=ak lg c4;have d5:=ak lg c5;have d6:=ak lg c6;have d7:=ak lg c7;clear c0 c1 c2 c3 c4 c5 c6 c7;generalize L[q]=y at OW Yv d0 d1 d2 d3 d4 d5 d6 d7;have gP:=Hw m.r.f y.r.f hZ eU OW.1 OW.2;clear OW;cases cW:iV m.r.f y.r.f with
      | true=>
       rw[cW]at gP;have fZ:=aa cW;clear cW
       gi_wp2
       go_roundw
       ·exact⟨ki.alloc ki.size _,q+1,by omega,by go_num,aV H2.o (by rw[Yv.o];exact fZ.o)⟩
       ·simp[intOf];omega
      | false=>
       rw[cW]at gP;have fZ:=aa cW;clear cW
       gi_wp2
       refine⟨((Bod.of_below (fun k hk=>Nat.lt_of_lt_of_le hk JT) ki).trans (Bod.setCell _ ⟨w.heap.size+1,0,none⟩ _ (fun h=>by dsimp only at h;omega))).trans (Bod.of_below (fun k hk=>by simp only[World.size_setCell];omega) (by go_grown)),rfl,(lg.setCell (p:=⟨w.heap.size+1,0,none⟩) (by dsimp only;omega) _).alloc (by simp only[World.size_setCell];omega) _,?_,?_⟩
       ·exact ar _ (by rw[aF eT.o];rfl)
       ·unfold growsB;rw[dW _ i _ hi (by rw[HB.o,HL.o];exact dW _ q _ BR (by rw[Yv.o,fZ.o];rfl))];rfl
     ·gi_wp2
      refine⟨Bod.of_below (fun k hk=>Nat.lt_of_lt_of_le hk JT) ki,lg,af ki sP.o,eT.o,aV ry.o ?_⟩;rw[HB.o,HL.o];exact eW _ _ (fun j hj=>by rw[H2.o j (by omega)];rfl)
   case done=>
    intro D W hD hI hK;obtain⟨g1,g2,g3,g4⟩:=hI;have HG:=aa (And.intro g1 (And.intro g2 (And.intro g3 g4)));have c1:=ab g3 0;have f1:=aE g3 0;simp at c1;clear g1 g2 g3 g4 dr hA hR hX
    go_wp2_with fail
    refine iM (by rw[<-hK];exact Below.heap_setCell _ _ _ _ (by dsimp only;omega)) (ju _ _ _ 0 _ rfl ((World.putObj_heap_other (by omega)).trans (by rw[aF HG.o.2.2.1];rfl))) ?_;refine⟨aG ?_,eX (by omega) (HG.o.1.setCell (by simp) _)⟩;rw[da.o];unfold growsB;rw[eW _ _ HG.o.2.2.2];rfl
   case stop=>
    rintro D c i W hD hi ⟨rfl,g1,g2,g3⟩ hK;have HG:=aa (And.intro g1 (And.intro g2 g3));clear g1 g2 g3 dr hA hR hX
    go_wp2_with fail
    refine iM hK (ju _ _ _ 21 _ rfl ((World.putObj_heap_other (by omega)).trans HG.o.2.1)) ?_;exact⟨aG (by rw[da.o,HG.o.2.2];rfl),eX (by omega) HG.o.1⟩
abbrev Rd.c(r:Rd):Array Value:=#[.int .i64 r.g.n,.int .i64 r.g.h0,.int .i64 r.g.h1,.int .i64 r.g.h2,.int .i64 r.g.h3,.int .i64 r.g.h4,.int .i64 r.f]
end Go.Proofs.YtmeaoneaephjeaaGreatDoor
