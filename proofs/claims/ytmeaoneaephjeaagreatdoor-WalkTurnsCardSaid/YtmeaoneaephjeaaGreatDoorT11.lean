/-
  A part of the proof: lemmas and contracts that the parts behind it use. Each one's conditions are its own premises.
-/
import Derived.Test.YtmeaoneaephjeaaGreatDoorT10
set_option maxRecDepth 100000
set_option maxHeartbeats 8000000
set_option linter.unusedVariables false
set_option linter.unusedSimpArgs false
namespace Go.Proofs.YtmeaoneaephjeaaGreatDoor
open Go.RowKit Go Go.Shelf
attribute [local go_sem] Oper.semAt_some
theorem PI(t:Tk) (va vb:Value) (w:World) (ha:bN w va t.cases) (hb:bN w vb t.cases) :
  Calls Tryz.prog 181 #[.agg #[.int .i64 t.n,.int .i64 t.ins,.int .i64 t.outs,va],.agg #[.int .i64 t.n,.int .i64 t.ins,.int .i64 t.outs,vb]] w fun e w'=>e=.returned (.bool true)/\Below w.heap.size w w':=by
 obtain⟨pa,ca,rfl,la1,la2,ea⟩:=ha.at;obtain⟨pb,cb,rfl,lb1,lb2,eb⟩:=hb.at;have EA:=aa ea;have EB:=aa eb;clear ha hb ea eb;obtain⟨tn,ti,to,l⟩:=t;dsimp only at EA EB la1 la2 lb1 lb2 ⊢;obtain⟨m,hm⟩:∃ m,l.length=m:=⟨_,rfl⟩;have HM:=aa hm;rw[hm]at la1 la2 lb1 lb2 ⊢;clear hm;have FL:(tn != tn)=false:=by simp
 have gB:(ti != ti)=false:=by simp
 have qD:(to != to)=false:=by simp
 have hd:((m:Int) != (m:Int))=false:=by simp
 go_enter Tryz.func181,Tryz.ntmps181
 go_wp2_with fail
 refine bF (fun W=>Below w.heap.size w W/\W.heap[w.heap.size]?=some (.cells #[.int .i64 tn,.int .i64 ti,.int .i64 to,.slice pa m ca] 24)/\W.heap[w.heap.size+1]?=some (.cells #[.int .i64 tn,.int .i64 ti,.int .i64 to,.slice pb m cb] 24)) ⟨by go_grown,az _ (aq _ _),by have h:=aq (w.alloc (.cells #[.int .i64 tn,.int .i64 ti,.int .i64 to,.slice pa m ca] 24)) (.cells #[.int .i64 tn,.int .i64 ti,.int .i64 to,.slice pb m cb] 24);simpa using h⟩ (fun W0 bh=>?_);obtain⟨aJ,bK,nu⟩:=bh;have fE:=aa aJ;have lz:=aa bK;have nD:=aa nu;clear aJ bK nu
 go_loopw [5] (fun i wr=>∃ k:Nat,k<=m/\i=.int .i64 k/\Below W0.heap.size W0 wr) (fun i _=>m - (intOf i).toNat)
 ·exact⟨0,by omega,rfl,Below.refl _ _⟩
 ·
  obtain⟨k,hk,rfl,aB⟩:=hrel;have aU:=aa aB;have bV:=aa (ae fE.o aB);clear aB;have HAA:=aa (af aU.o lz.o);have uj:=aa (af aU.o nD.o);have tA:=ab HAA.o;by_cases aD:k<m
  ·obtain⟨b1,o1,rfl,⟨x0,cx0,dq⟩,⟨x1,cx1,dA⟩,⟨x2,cx2,dW⟩⟩:=EA.o k (by rw[HM.o];exact aD);obtain⟨b2,o2,rfl,⟨y0,cy0,jb⟩,⟨y1,cy1,jt⟩,⟨y2,cy2,iJ⟩⟩:=EB.o k (by rw[HM.o];exact aD);generalize l[k]'(by rw[HM.o];exact aD)=c at dq dA dW jb jt iJ;have P2:=aa (fun W (h:Below wr.heap.size wr W)=>lJ x0 y0 c.inp c.inp W (dq.up up_int (ae bV.o h)) (jb.up up_int (ae bV.o h)));rw[sk]at P2;have eO:=aa (fun W (h:Below wr.heap.size wr W)=>Fl x1 y1 c.out W (dA.up up_ints (ae bV.o h)) (jt.up up_ints (ae bV.o h)));have lT:=aa (fun W (h:Below wr.heap.size wr W)=>Fl x2 y2 c.calm W (dW.up up_ints (ae bV.o h)) (iJ.up up_ints (ae bV.o h)));obtain⟨p0,c0,rfl,_,_,_⟩:=dq.at;obtain⟨p1,c1,rfl,_,_,_⟩:=dA.at;obtain⟨p2,c2,rfl,_,_,_⟩:=dW.at;obtain⟨q0,d0,rfl,_,_,_⟩:=jb.at;obtain⟨q1,d1,rfl,_,_,_⟩:=jt.at;obtain⟨q2,d2,rfl,_,_,_⟩:=iJ.at;clear dq dA dW jb jt iJ;generalize c.inp.length=n0,c.out.length=n1,c.calm.length=n2 at cx0 cx1 cx2 cy0 cy1 cy2 P2 eO lT;have C0:=aa (ak bV.o cx0);have C1:=aa (ak bV.o cx1);have C2:=aa (ak bV.o cx2);have D0:=aa (ak bV.o cy0);have D1:=aa (ak bV.o cy1);have D2:=aa (ak bV.o cy2);clear cx0 cx1 cx2 cy0 cy1 cy2
   go_wp2_with fail
   clear tA;obtain⟨VS,xx⟩:∃ VS:List Value,VS=[.pointer (some ⟨w.heap.size,3,none⟩),.slice (some ⟨b1,o1,none⟩) m ca,.int .i64 (k:Nat),.pointer (some ⟨b1,o1+k * 3,none⟩),.agg #[.slice p0 n0 c0,.slice p1 n1 c1,.slice p2 n2 c2],.pointer (some ⟨w.heap.size+1,3,none⟩),.slice (some ⟨b2,o2,none⟩) m cb,.int .i64 (k:Nat),.pointer (some ⟨b2,o2+k * 3,none⟩),.agg #[.slice q0 n0 d0,.slice q1 n1 d1,.slice q2 n2 d2]]:=⟨_,rfl⟩;have hS:List.Nodup [43,44,45,46,47,48,49,50,51,52,6,7]:=by decide
   refine lH 14 [43,44,45,46,47,48,49,50,51,52,6,7] (TwoBox wr 10 VS #[.slice p0 n0 c0,.slice p1 n1 c1,.slice p2 n2 c2] #[.slice none 0 0,.slice none 0 0,.slice none 0 0] #[.slice q0 n0 d0,.slice q1 n1 d1,.slice q2 n2 d2] 135) (by kernel_rfl) rfl hS (by kernel_rfl) (fun x=>TwoBox.start (by go_grown)) ?step ?free ?last
   case step=>
    intro x W D i o' s' F ho qI hD ar hc hF;have hi:i<12:=(List.getElem?_eq_some_iff.1 qI).1;rcases (show i=0\/i=1\/i=2\/i=3\/i=4\/i=5\/i=6\/i=7\/i=8\/i=9\/i=10\/i=11 by omega) with rfl|rfl|rfl|rfl|rfl|rfl|rfl|rfl|rfl|rfl|rfl|rfl
    all_goals (obtain rfl:=dp ho.symm;obtain rfl:=dp qI.symm;clear hi ho qI;subst xx)
    ·obtain⟨e0,f0⟩:=cW hF 2 (.pointer (some ⟨w.heap.size,0,none⟩)) (by decide) rfl;clear hF ar
     go_wp2_with fail
     exact cI.mk (.pointer (some ⟨w.heap.size,3,none⟩)) (hc.set 0 (by omega) hD rfl) rfl
    ·obtain⟨e0,f0⟩:=aT hF 0 43 (.pointer (some ⟨w.heap.size,3,none⟩)) hS rfl (by kernel_rfl) (hc.val 0 (by omega) (ar ⟨0,.data⟩ (by simp) rfl));have t9:=ab (af hc.below HAA.o);clear hF ar
     go_wp2_with fail
     exact cI.mk (.slice (some ⟨b1,o1,none⟩) m ca) (hc.set 1 (by omega) hD rfl) rfl
    ·obtain⟨e0,f0⟩:=cW hF 5 (.int .i64 (k:Nat)) (by decide) rfl;clear hF ar
     go_wp2_with fail
     exact cI.mk (.int .i64 (k:Nat)) (hc.set 2 (by omega) hD rfl) rfl
    ·obtain⟨e1,f1⟩:=aT hF 1 44 (.slice (some ⟨b1,o1,none⟩) m ca) hS rfl (by kernel_rfl) (hc.val 1 (by omega) (ar ⟨1,.data⟩ (by simp) rfl));obtain⟨e2,f2⟩:=aT hF 2 45 (.int .i64 (k:Nat)) hS rfl (by kernel_rfl) (hc.val 2 (by omega) (ar ⟨2,.data⟩ (by simp) rfl));clear hF ar
     go_wp2_with fail
     exact cI.mk (.pointer (some ⟨b1,o1+k * 3,none⟩)) (hc.set 3 (by omega) hD rfl) rfl
    ·obtain⟨e3,f3⟩:=aT hF 3 46 (.pointer (some ⟨b1,o1+k * 3,none⟩)) hS rfl (by kernel_rfl) (hc.val 3 (by omega) (ar ⟨3,.data⟩ (by simp) rfl));have u1:=ak hc.below C0.o;have u2:=ak hc.below C1.o;have u3:=ak hc.below C2.o;clear hF ar
     go_wp2_with fail
     exact cI.mk (.agg #[.slice p0 n0 c0,.slice p1 n1 c1,.slice p2 n2 c2]) (hc.set 4 (by omega) hD rfl) rfl
    ·obtain⟨e0,f0⟩:=cW hF 3 (.pointer (some ⟨w.heap.size+1,0,none⟩)) (by decide) rfl;clear hF ar
     go_wp2_with fail
     exact cI.mk (.pointer (some ⟨w.heap.size+1,3,none⟩)) (hc.set 5 (by omega) hD rfl) rfl
    ·obtain⟨e5,f5⟩:=aT hF 5 48 (.pointer (some ⟨w.heap.size+1,3,none⟩)) hS rfl (by kernel_rfl) (hc.val 5 (by omega) (ar ⟨5,.data⟩ (by simp) rfl));have t9:=ab (af hc.below uj.o);clear hF ar
     go_wp2_with fail
     exact cI.mk (.slice (some ⟨b2,o2,none⟩) m cb) (hc.set 6 (by omega) hD rfl) rfl
    ·obtain⟨e0,f0⟩:=cW hF 5 (.int .i64 (k:Nat)) (by decide) rfl;clear hF ar
     go_wp2_with fail
     exact cI.mk (.int .i64 (k:Nat)) (hc.set 7 (by omega) hD rfl) rfl
    ·obtain⟨e6,f6⟩:=aT hF 6 49 (.slice (some ⟨b2,o2,none⟩) m cb) hS rfl (by kernel_rfl) (hc.val 6 (by omega) (ar ⟨6,.data⟩ (by simp) rfl));obtain⟨e7,f7⟩:=aT hF 7 50 (.int .i64 (k:Nat)) hS rfl (by kernel_rfl) (hc.val 7 (by omega) (ar ⟨7,.data⟩ (by simp) rfl));clear hF ar
     go_wp2_with fail
     exact cI.mk (.pointer (some ⟨b2,o2+k * 3,none⟩)) (hc.set 8 (by omega) hD rfl) rfl
    ·obtain⟨e8,f8⟩:=aT hF 8 51 (.pointer (some ⟨b2,o2+k * 3,none⟩)) hS rfl (by kernel_rfl) (hc.val 8 (by omega) (ar ⟨8,.data⟩ (by simp) rfl));have u1:=ak hc.below D0.o;have u2:=ak hc.below D1.o;have u3:=ak hc.below D2.o;clear hF ar
     go_wp2_with fail
     exact cI.mk (.agg #[.slice q0 n0 d0,.slice q1 n1 d1,.slice q2 n2 d2]) (hc.set 9 (by omega) hD rfl) rfl
    ·clear hF ar
     go_wp2_with fail
     exact cI.mk (.pointer (some ⟨W.heap.size,0,none⟩)) (hc.alloc_a hD) rfl
    ·clear hF ar
     go_wp2_with fail
     exact cI.mk (.pointer (some ⟨W.heap.size,0,none⟩)) (hc.alloc_b hD) rfl
   case free=>
    intro x W D i o' F ho h6 h8 hD ar hc hF;rcases (show i=12\/i=13 by simp at h6;omega) with rfl|rfl
    ·obtain rfl:=dp ho.symm;have g7:=hc.val 4 (by omega) (ar ⟨4,.data⟩ (by simp) rfl);have gA:=ar ⟨10,.data⟩ (by simp) rfl;obtain⟨g,g1,g2,g3⟩:=hc.a gA;rw[hD]at g3;obtain⟨e7,_⟩:=aT hF 4 47 (.agg #[.slice p0 n0 c0,.slice p1 n1 c1,.slice p2 n2 c2]) hS rfl (by kernel_rfl) (by rw[g7,xx];rfl);obtain⟨e8,_⟩:=aT hF 10 6 (.pointer (some ⟨g,0,none⟩)) hS rfl (by kernel_rfl) g1;refine wpList_store_row rfl 135 (.tmp 6) (.tmp 47) rfl g #[.slice p0 n0 c0,.slice p1 n1 c1,.slice p2 n2 c2] e8 e7 135 _ g3 (by kernel_rfl) (by kernel_rfl) (by simp[Value.oneCell']) ?_;exact⟨rfl,hc.store_a gA hD g1⟩
    ·obtain rfl:=dp ho.symm;have g7:=hc.val 9 (by omega) (ar ⟨9,.data⟩ (by simp) rfl);have gA:=ar ⟨11,.data⟩ (by simp) rfl;obtain⟨g,g1,g2,g3⟩:=hc.b gA;rw[hD]at g3;obtain⟨e7,_⟩:=aT hF 9 52 (.agg #[.slice q0 n0 d0,.slice q1 n1 d1,.slice q2 n2 d2]) hS rfl (by kernel_rfl) (by rw[g7,xx];rfl);obtain⟨e8,_⟩:=aT hF 11 7 (.pointer (some ⟨g,0,none⟩)) hS rfl (by kernel_rfl) g1;refine wpList_store_row rfl 135 (.tmp 7) (.tmp 52) rfl g #[.slice q0 n0 d0,.slice q1 n1 d1,.slice q2 n2 d2] e8 e7 135 _ g3 (by kernel_rfl) (by kernel_rfl) (by simp[Value.oneCell']) ?_;exact⟨rfl,hc.store_b gA hD g1⟩
   case last=>
    intro x W1 D F aS hc hF;obtain⟨g1,a1,a2,a3⟩:=hc.a (aS 10 (by omega));obtain⟨g2,z1,z2,z3⟩:=hc.b (aS 11 (by omega));rw[aS 12 (by omega)]at a3;rw[aS 13 (by omega)]at z3;have bL:=aa hc.below;have oA:=aa a3;have rX:=aa z3;clear hc aS xx hS a2 a3 z2 z3;simp only[bD,cX,List.setIfInBounds_toArray,List.set_cons_succ,List.set_cons_zero,Nat.reduceAdd]at hF;simp only[a1,z1]at hF;generalize x 0=s0,x 1=s1,x 2=s2,x 3=s3,x 4=s4,x 5=s5,x 6=s6,x 7=s7,x 8=s8,x 9=s9 at hF;subst hF;clear a1 z1;have tA:=ab oA.o;have tC:=ab rX.o
    go_wp2_with fail
    refine(P2.o W1 bL.o).mono ?_;rintro r W2 ⟨rfl,aY⟩;have cV:=aa (ae bL.o aY);clear tA tC;have tA:=ab (af aY oA.o);have tC:=ab (af aY rX.o);have H12:=aa aY;clear aY
    go_wp2_with fail
    refine(eO.o W2 cV.o).mono ?_;rintro r W3 ⟨rfl,bH⟩;have dX:=aa (ae cV.o bH);clear tA tC;have tA:=ab (af (ae H12.o bH) oA.o);have tC:=ab (af (ae H12.o bH) rX.o);clear bH
    go_wp2_with fail
    refine(lT.o W3 dX.o).mono ?_;rintro r W4 ⟨rfl,bR⟩;have eU:=aa (ae dX.o bR);clear tA tC bR
    go_wp2_with fail
    go_roundw
    ·exact⟨k+1,by omega,by go_num,ae aU.o eU.o⟩
    ·simp[intOf];omega
  ·obtain rfl:k=m:=by omega
   go_wp2_with fail
   go_ret
   exact⟨rfl,bV.o⟩
theorem PJ(p:Pb) (vc vs uc us:Value) (w:World) (hc:bN w vc p.t.cases) (hs:bA w vs p.a.states) (kc:bN w uc p.t.cases) (ks:bA w us p.a.states) :
  Calls Tryz.prog 148 #[.agg (z5 p vc vs),.agg (z5 p uc us)] w fun e w'=>e=.returned (.bool true)/\Below w.heap.size w w':=by
 have HT:=aa (fun W (h:Below w.heap.size w W)=>PI p.t vc uc W (hc.up up_case h) (kc.up up_case h));have HA:=aa (fun W (h:Below w.heap.size w W)=>Sa p.a.n p.a.states vs us W (hs.up up_moves h) (ks.up up_moves h));obtain⟨p1,c1,rfl,_,_,_⟩:=hc.at;obtain⟨p2,c2,rfl,_,_,_⟩:=hs.at;obtain⟨p3,c3,rfl,_,_,_⟩:=kc.at;obtain⟨p4,c4,rfl,_,_,_⟩:=ks.at;generalize p.t.cases.length=n1,p.a.states.length=n2 at HT HA ⊢;clear hc hs kc ks
 go_enter Tryz.func148,Tryz.ntmps148
 go_wp2_with fail
 refine aQ (fun W=>Below w.heap.size w W/\(∃ c,W.heap[w.heap.size]?=some (.cells c 29)/\c=z5 p (.slice p1 n1 c1) (.slice p2 n2 c2))/\(∃ c,W.heap[w.heap.size+1]?=some (.cells c 29)/\c=z5 p (.slice p3 n1 c3) (.slice p4 n2 c4))) ⟨by go_grown,⟨_,az _ (aq _ _),rfl⟩,⟨_,by have h:=aq (w.alloc (.cells (z5 p (.slice p1 n1 c1) (.slice p2 n2 c2)) 29)) (.cells (z5 p (.slice p3 n1 c3) (.slice p4 n2 c4)) 29);simpa using h,rfl⟩⟩ (fun W0 bh=>?_);obtain⟨aJ,⟨_,bK,rfl⟩,⟨_,nu,rfl⟩⟩:=bh;refine(HT.o W0 aJ).mono ?_;rintro r W1 ⟨rfl,aM⟩;have bL:=aa (ae aJ aM);have tA:=ab (af aM bK);have tC:=ab (af aM nu);clear aJ bK nu aM
 go_wp2_with fail
 refine(HA.o W1 bL.o).mono ?_;rintro r W2 ⟨rfl,aY⟩;have cV:=aa (ae bL.o aY);clear tA tC aY
 go_wp2_with fail
 go_ret
 exact⟨rfl,cV.o⟩
theorem M3(s z:Sys) (hp:z.prob=s.prob) (vc vs vt ve uc us ut ue:Value) (w:World) (hs:IsSys w s vc vs vt ve) (hz:IsSys w z uc us ut ue) :
  Calls Tryz.prog 102 #[.agg (cj s.prob vc vs s.n vt ve),.agg (cj s.prob uc us z.n ut ue)] w fun e w'=>e=.returned (.bool (decide ((s.n=z.n/\s.tab=z.tab)/\s.ex=z.ex)))/\Below w.heap.size w w':=by
 have T1:=aa (fun W (h:Below w.heap.size w W)=>PJ s.prob vc vs uc us W (hs.cases.up up_case h) (hs.states.up up_moves h) (by have:=hz.cases.up up_case h;rwa [hp]at this) (by have:=hz.states.up up_moves h;rwa [hp]at this));have Lo:=aa (fun W (h:Below w.heap.size w W)=>MZ s.n z.n vt ut s.tab z.tab W (hs.tab.up up_view h) (hz.tab.up up_view h));obtain⟨p1,c1,rfl,_,_,_⟩:=hs.cases.at;obtain⟨p2,c2,rfl,_,_,_⟩:=hs.states.at;obtain⟨p3,c3,rfl,_,_,_⟩:=hs.tab.at;obtain⟨q1,d1,rfl,_,_,_⟩:=hz.cases.at;obtain⟨q2,d2,rfl,_,_,_⟩:=hz.states.at;obtain⟨q3,d3,rfl,_,_,_⟩:=hz.tab.at;obtain⟨pa,ca,rfl,la1,la2,ea⟩:=hs.ex.at;obtain⟨pb,cb,rfl,lb1,lb2,eb⟩:=hz.ex.at;have EA:=aa ea;have EB:=aa eb;obtain⟨bt,ud⟩:∃ bt,decide (s.n=z.n/\s.tab=z.tab)=bt:=⟨_,rfl⟩;have JH:am (bt=false->decide ((s.n=z.n/\s.tab=z.tab)/\s.ex=z.ex)=false):=aa fun h=>decide_eq_false fun e=>(of_decide_eq_false (ud.trans h)) e.1
 have iG:am (s.ex.length≠z.ex.length->decide ((s.n=z.n/\s.tab=z.tab)/\s.ex=z.ex)=false):=aa fun h=>decide_eq_false fun e=>h (by rw[e.2])
 have oQ:am (∀ j,j<s.ex.length->s.ex.getD j default≠z.ex.getD j default->decide ((s.n=z.n/\s.tab=z.tab)/\s.ex=z.ex)=false):=aa fun j _ h=>decide_eq_false fun e=>h (by rw[e.2])
 have gV:am (bt=true/\s.ex.length=z.ex.length/\(∀ j,j<s.ex.length->s.ex.getD j default=z.ex.getD j default)->decide ((s.n=z.n/\s.tab=z.tab)/\s.ex=z.ex)=true):=aa fun ⟨h1,h2,h3⟩=>decide_eq_true ⟨of_decide_eq_true (ud.trans h1),fm default h2 h3⟩
 rw[ud]at Lo;generalize decide ((s.n=z.n/\s.tab=z.tab)/\s.ex=z.ex)=r at JH iG oQ gV ⊢;generalize s.ex=ax at EA iG oQ gV la1 la2 ⊢;generalize z.ex=ay at EB iG oQ gV lb1 lb2 ⊢;rw[hp]at T1 ⊢;clear hs hz ea eb ud hp;generalize s.prob.t.cases.length=n1,s.prob.a.states.length=n2,s.tab.length=n3,z.tab.length=n4 at T1 Lo ⊢;obtain⟨n,hn⟩:∃ n,ax.length=n:=⟨_,rfl⟩;obtain⟨m,hm⟩:∃ m,ay.length=m:=⟨_,rfl⟩;have HN:=aa hn;have HM:=aa hm;rw[hn]at la1 la2 ⊢;rw[hm]at lb1 lb2 ⊢;clear hn hm
 go_enter Tryz.func102,Tryz.ntmps102
 go_wp2_with fail
 refine aQ (fun W=>Below w.heap.size w W/\(∃ c,W.heap[w.heap.size]?=some (.cells c 35)/\c=cj s.prob (.slice p1 n1 c1) (.slice p2 n2 c2) s.n (.slice p3 n3 c3) (.slice pa n ca))/\(∃ c,W.heap[w.heap.size+1]?=some (.cells c 35)/\c=cj s.prob (.slice q1 n1 d1) (.slice q2 n2 d2) z.n (.slice q3 n4 d3) (.slice pb m cb))) ⟨by go_grown,⟨_,az _ (aq _ _),rfl⟩,⟨_,by have h:=aq (w.alloc (.cells (cj s.prob (.slice p1 n1 c1) (.slice p2 n2 c2) s.n (.slice p3 n3 c3) (.slice pa n ca)) 35)) (.cells (cj s.prob (.slice q1 n1 d1) (.slice q2 n2 d2) z.n (.slice q3 n4 d3) (.slice pb m cb)) 35);simpa using h,rfl⟩⟩ (fun W00 bh=>?_);obtain⟨aJ,⟨_,bK,rfl⟩,⟨_,nu,rfl⟩⟩:=bh;refine(T1.o W00 aJ).mono ?_;rintro e W01 ⟨rfl,aM⟩;have HB01:=aa (ae aJ aM);have HA01:=aa (af aM bK);have HC01:=aa (af aM nu);have tA:=ab HA01.o;have tC:=ab HC01.o;clear aJ bK nu aM T1
 go_wp2_with fail
 refine(Lo.o W01 HB01.o).mono ?_;rintro e W0 ⟨rfl,aM⟩;have fE:=aa (ae HB01.o aM);have lz:=aa (af aM HA01.o);have nD:=aa (af aM HC01.o);clear tA tC;have tA:=ab lz.o;have tC:=ab nD.o;clear aM Lo;cases bt with
 | false=>
  have HR:am (r=false):=aa (by first|exact JH.o rfl|exact JH.o trivial)
  go_wp2_with fail
  go_ret
  exact⟨aR (by rw[HR.o]),fE.o⟩
 | true=>
  by_cases hl:n=m
  case neg=>
   have hd:(((n:Nat):Int) != ((m:Nat):Int))=true:=by simp;omega
   have HR:=aa (iG.o (by rw[HN.o,HM.o];exact hl));clear hl
   go_wp2_with fail
   go_ret
   exact⟨aR (by rw[HR.o]),fE.o⟩
  subst hl;have hd:((n:Int) != (n:Int))=false:=by simp
  go_wp2_with fail
  clear tA tC
  go_loopw [5] (fun i wr=>∃ k:Nat,k<=n/\i=.int .i64 k/\Below W0.heap.size W0 wr/\∀ j,j<k->ax.getD j default=ay.getD j default) (fun i _=>n - (intOf i).toNat)
  ·exact⟨0,by omega,rfl,Below.refl _ _,fun j hj=>by omega⟩
  ·
   obtain⟨k,hk,rfl,aB,aV⟩:=hrel;have H:=aa aV;have aU:=aa aB;have bV:=aa (ae fE.o aB);clear aV aB;have tA:=ab (af aU.o lz.o);have tC:=ab (af aU.o nD.o);by_cases aD:k<n
   ·obtain⟨b1,o1,rfl,⟨g0,_⟩,⟨v1,g1,h1⟩,⟨v2,g2,h2⟩⟩:=EA.o k (by rw[HN.o];exact aD);obtain⟨b2,o2,rfl,⟨e0,_⟩,⟨u1,e1,i1⟩,⟨u2,e2,i2⟩⟩:=EB.o k (by rw[HM.o];exact aD);have qF:=aa (aA (default:Ex) (show k<ax.length by rw[HN.o];exact aD));have rV:=aa (aA (default:Ex) (show k<ay.length by rw[HM.o];exact aD));generalize ax[k]'(by rw[HN.o];exact aD)=x at g0 h1 h2 qF;generalize ay[k]'(by rw[HM.o];exact aD)=y at e0 i1 i2 rV;have t0:=ak bV.o g0;have t1:=ak bV.o g1;have t2:=ak bV.o g2;have r0:=ak bV.o e0;have r1:=ak bV.o e1;have r2:=ak bV.o e2;have yW:=aa (fun W (h:Below w.heap.size w W)=>M2 x y v1 u1 v2 u2 W (h1.up up_round h) (i1.up up_round h) (h2.up up_ints h) (i2.up up_ints h));clear h1 h2 i1 i2 g0 g1 g2 e0 e1 e2
    go_wp2_with fail
    go_still_tail 10,(by kernel_rfl)
    go_wp2_with fail
    refine aQ (fun W=>Below wr.heap.size wr W) (Below.drew (Below.refl _ _)) (fun W5 hW5=>?_);refine(yW.o W5 (ae bV.o hW5)).mono ?_;rintro e w6 ⟨rfl,jL⟩;have vH:=aa (ae aU.o (ae hW5 jL));clear hW5 jL t0 t1 t2 r0 r1 r2 tA tC yW;cases cG:decide (x=y) with
    | true=>
     have oG:=aa (of_decide_eq_true cG);clear cG
     go_wp2_with fail
     go_roundw
     ·exact⟨k+1,by omega,by go_num,vH.o,aW (p:=fun j=>ax.getD j default=ay.getD j default) H.o (by rw[qF.o,rV.o];exact oG.o)⟩
     ·simp[intOf];omega
    | false=>
     have HR:=aa (oQ.o k (by rw[HN.o];exact aD) (by rw[qF.o,rV.o];exact of_decide_eq_false cG));clear cG
     go_wp2_with fail
     go_ret
     exact⟨aR (by rw[HR.o]),ae fE.o vH.o⟩
   ·obtain rfl:k=n:=by omega
    have HF:∀ j,j<ax.length->ax.getD j default=ay.getD j default:=fun j hj=>H.o j (by have:=HN.o;omega)
    have HR:am (r=true):=aa (gV.o ⟨by first|rfl|trivial,by rw[HN.o,HM.o],HF⟩);clear HF
    go_wp2_with fail
    go_ret
    exact⟨aR (by rw[HR.o]),bV.o⟩
theorem Fm{w:World} {v:Value} {l:List Lk} (h:bJ w v l) (j:Nat) (u:Value) (hu:(cH l)[j]?=some u):∃ b o c,v=.slice (some ⟨b,o,none⟩) l.length c/\w.cell? ⟨b,o+j,none⟩=some u:=by
 have hj:=(List.getElem?_eq_some_iff.1 hu).1;rw[lM]at hj;obtain⟨i,s,hs,rfl⟩:∃ i s,s<2/\j=i * 2+s:=⟨j / 2,j % 2,by omega,by omega⟩;have hi:i<l.length:=by omega
 unfold cH at hu;rw[pK Lk.c 2 (fun _=>rfl) l i s hi hs]at hu;obtain⟨a,cap,rfl,_,_,e⟩:=h.at;obtain⟨b,o,rfl,⟨c0,_⟩,⟨c1,_⟩⟩:=e i hi;refine⟨b,o,cap,rfl,?_⟩;rw[<-Nat.add_assoc];rcases (show s=0\/s=1 by omega) with rfl|rfl<;>(simp at hu;subst hu;first|exact c0|exact c1)
theorem Iv{w:World} {v:Value} {l:List Lk} (h:bJ w v l):∀ y∈l,bT y.x/\bT y.p:=fun y hy=>by
 obtain⟨i,hi,rfl⟩:=List.getElem_of_mem hy;obtain⟨a,cap,rfl,_,_,e⟩:=h.at;obtain⟨b,o,_,h1⟩:=e i hi;exact⟨h1.1.2,h1.2.2⟩
theorem wE{w:World} {a:Option Addr} {n c:Nat} {l:List Lk} (h:bJ w (.slice a n c) l) (k:Nat) (hk:k<=l.length):bJ w (.slice a k c) (l.take k):=by
 obtain⟨a',c',e,⟨h1,h2,h3⟩,h4,h5⟩:=h;injection e with e1 e2 e3
 subst e1 e3;refine⟨a,c,by rw[List.length_take,Nat.min_eq_left hk],⟨by rw[List.length_take];omega,h2,h3⟩,by rw[List.length_take];omega,fun i x hx=>h5 i x ?_⟩;rw[List.getElem?_take]at hx;split at hx
 ·exact hx
 ·cases hx
theorem M4{w:World} {b o n c:Nat} {l:List Lk} (h:bJ w (.slice (some ⟨b,o,none⟩) n c) l) (k:Nat) (hk:k<=l.length):bJ w (.slice (some (if c=k then⟨b,o,none⟩ else⟨b,o+k * 2,none⟩)) (n - k) (c - k)) (l.drop k):=by
 obtain⟨a',c',e,⟨h1,h2,h3⟩,h4,h5⟩:=h;injection e with e1 e2 e3
 subst e1 e2 e3;refine⟨_,c - k,by rw[List.length_drop],⟨by rw[List.length_drop];omega,by omega,fun h=>by cases h⟩,by rw[List.length_drop];omega,fun i x hx=>?_⟩;rw[List.getElem?_drop]at hx;have hi:=(List.getElem?_eq_some_iff.1 hx).1;obtain⟨b',o',e,hr⟩:=h5 (k+i) x hx;injection e with e;injection e with e1 e2 e3
 subst e1 e2;refine⟨b,o+k * 2,by rw[if_neg (by omega)],?_⟩;rw[Nat.add_mul,<-Nat.add_assoc]at hr;exact hr
theorem pX(v:Value) (l:List Lk) (w:World) (hv:bJ w v l) (hn:l.length<=1048576) :
  Calls Tryz.prog 27 #[v] w fun e w'=>∃ u,e=.returned u/\aI w' w.heap.size 75 2 u l.length (cH l)/\Below w.heap.size w w':=by
 obtain⟨i0,hi,cC,bY,cD⟩:=info_parts Tryz.infoLink;have HW:=aa (Fm hv);have jX:=fun w=>Lib.run_eql_slice_nil (P:=Tryz.prog) w 54
 obtain⟨a,cap,rfl,⟨_,_,jZ⟩,_,_⟩:=hv;cases a with
 | none=>
  have hl:l.length=0:=by have:=jZ rfl;omega
  obtain rfl:l=[]:=List.eq_nil_of_length_eq_zero hl;obtain rfl:=jZ rfl
  go_enter Tryz.func27,Tryz.ntmps27
  go_wp2_with fail
  go_ret
  exact⟨_,rfl,aI.nil _ _ _ _,Below.refl _ _⟩
 | some ad=>
  have bS:∀ j u,(cH l)[j]?=some u->(w.alloc (.cells #[] 75)).cell? (ad.add j)=some u:=fun j u hj=>by
   obtain⟨b,o,c,e,eK⟩:=HW.o j u hj;have:ad=⟨b,o,none⟩:=by simp at e;exact e.1
   subst this;have:(Addr.add ⟨b,o,none⟩ j)=⟨b,o+j,none⟩:=by unfold Addr.add;split<;>simp_all
   rw[this];exact ak (by go_grown) eK
  have bg:aI (w.alloc (.cells #[] 75)) w.heap.size 75 2 (.slice (some ⟨w.heap.size,0,none⟩) 0 0) 0 []:=⟨by simp,.inr ⟨w.heap.size,0,#[],(0,0),rfl,Nat.le_refl _,aq _ _,fun i hi=>by simp at hi,by omega,by simp[maxLen],by simp,by simp⟩⟩;have bE:=aa bS;have bO:=aa bg;clear bS bg jZ
  go_enter Tryz.func27,Tryz.ntmps27
  go_wp2_with (at_builtin;(refine aZ _ rfl (.tmp 5) (.tmp 6) 54 rfl w.heap.size 75 i0 _ 2 16 Tryz.underlying54 hi cC bY cD rfl (by decide) _ 0 [] rfl bO.o ad l.length cap (cH l) rfl (lM l) bE.o (Cb l) (by unfold maxLen;omega) (by omega) (by simp) ?_;intro v' w1 gM lA _;obtain⟨av',cv',rfl⟩:=gM.slice))
  go_ret
  rw[Nat.zero_add,List.nil_append]at gM;refine⟨_,rfl,by simpa using gM,Below.grown (w:=w.alloc (.cells #[] 75)) (by go_grown) lA (by simp) (fun k hk=>?_)⟩;cases hk;exact Nat.le_refl _
theorem aI.links{w:World} {base:Nat} {v:Value} {l:List Lk} (h:aI w base 75 2 v l.length (cH l)) (hx:∀ u∈l,bT u.x/\bT u.p) (hn:l.length<=1048576):bJ w v l:=nd h hx (by omega)
theorem Lb{w:World} {base g n c:Nat} {l:List Lk} (h:aI w base 75 2 (.slice (some ⟨g,0,none⟩) n c) n (cH l)) (j:Nat) (x:Value) (hj:j<(cH l).length) {m:List Lk} (hm:cH m=(cH l).set j x):aI (w.setCell ⟨g,j,none⟩ x) base 75 2 (.slice (some ⟨g,0,none⟩) n c) n (cH m):=by
 obtain⟨hl,h⟩:=h;refine⟨by rw[hm,List.length_set];exact hl,?_⟩;rcases h with ⟨h,_⟩|⟨g',cap,cur,fz,h1,h2,h3,h4,h5,h6,h7,h8⟩
 ·cases h
 injection h1 with e1 e2 e3
 injection e1 with e1
 injection e1 with e1
 subst e1 e3;refine .inr ⟨g,c,cur.setIfInBounds j x,fz,rfl,h2,aH h3 _ _,by simpa using h4,h5,h6,by simpa using h7,?_⟩;rw[hm,Array.toList_setIfInBounds,List.take_set,h8]
theorem IsSys.kp{w w':World} {s:Sys} {vc vs vt ve:Value} (h:IsSys w s vc vs vt ve) (hb:CK w w'):IsSys w' s vc vs vt ve:=⟨h.cases.ck up_case hb,h.states.ck up_moves hb,h.tab.ck up_view hb,h.ex.ck up_ex hb⟩
theorem ScAt.kp{w w':World} {B:Nat} {s:Sys} (h:ScAt w B s) (hk:jh w.heap.size w w'):ScAt w' B s:=by
 obtain⟨vc,vs,vt,ve,vv,vl,h1,h2,h3,h4⟩:=h.ex;exact⟨vc,vs,vt,ve,vv,vl,(hk B (aC h1)).trans h1,h2.kp hk.ck,h3.ck up_int hk.ck,h4.ck up_int hk.ck⟩
theorem VC{n:Nat} (hn:n<=8) (q:Nat->Bool):maskN q n=maskN (fun p=>decide (p<n)&&q p) 8:=by
 refine Nat.eq_of_testBit_eq fun p=>?_
 rw[dT,dT];by_cases h:p<n
 ·rw[decide_eq_true h,decide_eq_true (show p<8 by omega)];rfl
 ·rw[decide_eq_false h];simp
theorem Sb{n:Nat} (hn:n<=8) (q:Nat->Bool):firstIx 8 (fun p=>decide (p<n)&&q p)=firstIx n q:=by
 rw[z' _ hn (fun v h1 h2=>by rw[decide_eq_false (by omega)];rfl)];exact my _ _ _ fun p hp=>by rw[decide_eq_true hp];rfl
theorem aI.some{w:World} {base size n:Nat} {e:TypeId} {v:Value} {xs:List Value} (h:aI w base e size v n xs) (hn:0<n):∃ g c,v=.slice (some ⟨g,0,none⟩) n c/\base<=g/\g<w.heap.size/\n<=c/\∀ j,j<n * size->(∃ u,w.cell? ⟨g,j,none⟩=some u)/\w.frozen? ⟨g,j,none⟩=false:=by
 rcases h.2 with ⟨_,h0⟩|⟨g,cap,cur,fz,rfl,h2,h3,h4,h5,h6,h7,h8⟩
 ·omega
 refine⟨g,cap,rfl,h2,aC h3,h5,fun j hj=>?_⟩;have aD:j<cur.size:=by rw[h7];exact Nat.lt_of_lt_of_le hj (Nat.mul_le_mul_right _ h5)
 refine⟨⟨cur[j],by rw[ab h3,Array.getElem?_eq_getElem aD]⟩,?_⟩;simp only[World.frozen?,h3];have:=h4 j aD;simpa using this
theorem Sc(a:List Lk) (y:Lk) (r:List Lk) (p:Int):cH (a++⟨y.x,p⟩ :: r)=(cH (a++y :: r)).set (a.length * 2+1) (.int .i64 p):=by
 rw[kq,kq,<-lM a,List.set_append_right _ _ (by omega),Nat.add_sub_cancel_left];rfl
def Ym(base:Nat) (l:List Lk):MP:=⟨fun x W=>aI W base 75 2 x l.length (cH l),fun _ _ _ h hb=>h.up hb⟩
def Yw(s:Sys) (l:List Lk) (pb n0:Nat) (i:Nat) (args:Array Value) (_:Nat->Prop) (W:World):Prop:=∃ v,args=#[v]/\bJ W v ((dL s l).getD i [])/\∀ b,v.ownBlock=some b->b=pb\/n0<=b
structure KSz (S:Nat->Prop) (w w':World):Prop where
 keep:gw S w w'
 size:w.heap.size<=w'.heap.size
theorem KSz.trans{S:Nat->Prop} {a b c:World} (h:KSz S a b) (k:KSz S b c):KSz S a c:=⟨gw.trans h.1 k.1,Nat.le_trans h.2 k.2⟩
theorem kr{w w':World} {pb po n c:Nat} {l:List Lk} (h:bJ w (.slice (some ⟨pb,po,none⟩) n c) l) (hk:w'.heap[pb]?=w.heap[pb]?):bJ w' (.slice (some ⟨pb,po,none⟩) n c) l:=by
 obtain⟨a',c',e,h1,h4,h5⟩:=h;refine⟨a',c',e,h1,h4,fun i x hx=>?_⟩;obtain⟨b,o,e2,hr⟩:=h5 i x hx;injection e with e3 e4 e5
 rw[<-e3]at e2;injection e2 with e2
 injection e2 with e6 e7
 have hc:∀ o',w'.cell? ⟨b,o',none⟩=w.cell? ⟨b,o',none⟩:=fun o'=>by unfold World.cell?;rw[<-e6,hk]
 refine⟨b,o,by rw[<-e3,e6,e7],⟨(hc _).trans hr.1.1,hr.1.2⟩,(hc _).trans hr.2.1,hr.2.2⟩
theorem KA(B:Nat) (v:Value) (w:World) (hv:∃ a n c,v=.slice a n c) :
  Calls Tryz.prog 55 #[.pointer (some ⟨B,0,none⟩),v] w fun r w'=>r=.returned (.func (.func 96) #[] #[.pointer (some ⟨w.heap.size+1,0,none⟩),.pointer (some ⟨w.heap.size,0,none⟩)])/\w'=(w.alloc (.cells #[.pointer (some ⟨B,0,none⟩)] 94)).alloc (.cells #[v] 54):=by
 obtain⟨a,n,c,rfl⟩:=hv
 go_enter Tryz.func55,Tryz.ntmps55
 go_wp2
 go_ret
 exact⟨rfl,rfl⟩
theorem Iw(s:Sys) (hs:SysOk s) (hE:eS s<=256) (l:List Lk) (ij:0<l.length) (nm:l.length<=4096) (hx:∀ y∈l,0<=y.x/\y.x.toNat<eS s) (B bx bw:Nat) (pb po cl:Nat) (w0:World) (hT:io w0) (fW:ScAt w0 B s) (w:World) (aJ:Below w0.heap.size w0 w) (hl:bJ w (.slice (some ⟨pb,po,none⟩) l.length cl) l)
  (dx:w.heap[bw]?=some (.cells #[.slice (some ⟨pb,po,none⟩) l.length cl] 54)) (jH:w.heap[bx]?=some (.cells #[.pointer (some ⟨B,0,none⟩)] 94)) :
  Tq Tryz.prog 96 #[.pointer (some ⟨bw,0,none⟩),.pointer (some ⟨bx,0,none⟩)] (Yw s l pb w.heap.size) (dL s l).length (fun k=>k<w0.heap.size\/k=pb\/k=bw\/k=bx) w:=by
 intro yl J Jx W hW hyl hJ oC hY kX;obtain⟨i0,cY,cC,bY,cD⟩:=info_parts Tryz.infoLink;have bZ:=aa (And.intro cY (And.intro cC (And.intro bY cD)));clear cY cC bY cD;obtain⟨pl,cl',ecl,lt1,lt2,el⟩:=hl.at;injection ecl with ecl1 _ ecl2
 obtain⟨pb',po',epb,hpb0⟩:=el 0 ij;rw[<-ecl1]at epb;injection epb with epb
 injection epb with epb1 epb2
 have lpb:pb<w.heap.size:=by rw[epb1];exact fo hpb0.1.1
 rw[<-ecl2]at lt1;clear epb1 epb2 ecl1 ecl2 hpb0 pb' po' pl cl' el;have lw1:=aC dx;have lw2:=aC jH;have WM:KSz (fun k=>k<w0.heap.size\/k=pb\/k=bw\/k=bx) w W:=⟨fun k hk=>hW.block k (by rcases hk with hk|rfl|rfl|rfl<;>first|(have:=aJ.size;omega)|assumption),hW.size⟩;obtain⟨S,hS⟩:∃ S,S=(fun k=>k<w0.heap.size\/k=pb\/k=bw\/k=bx):=⟨_,rfl⟩
 have Lp:am (∀ V,KSz S w V->jh w0.heap.size w0 V/\V.heap[pb]?=w.heap[pb]?/\V.heap[bw]?=some (.cells #[.slice (some ⟨pb,po,none⟩) l.length cl] 54)/\V.heap[bx]?=some (.cells #[.pointer (some ⟨B,0,none⟩)] 94)):=aa (fun V hV=>by
  subst hS
  exact⟨fun k hk=>(hV.1 k (.inl hk)).trans (aJ.block k hk),hV.1 pb (.inr (.inl rfl)),(hV.1 bw (.inr (.inr (.inl rfl)))).trans dx,(hV.1 bx (.inr (.inr (.inr rfl)))).trans jH⟩)
 rw[<-hS]at kX WM
 have Qt:am (∀ V V',KSz S w V->Below V.heap.size V V'->KSz S w V'):=aa (fun V V' h1 h2=>⟨fun k hk=>(h2.block k (by
  have h4:=h1.2;subst hS;rcases hk with hk|rfl|rfl|rfl
  ·have:=aJ.size;omega
  ·omega
  ·omega
  ·omega)).trans (h1.1 k hk),Nat.le_trans h1.2 h2.size⟩)
 have At:am (∀ (d:List (List Lk)) (c:List Lk) (r:List (List Lk)) (W1:World) (v:Value),dL s l=d++c :: r->bJ W1 v c->(∀ b,v.ownBlock=some b->b=pb\/w.heap.size<=b)->J d.length S W1->YieldAt Fence.wide 0 Tryz.prog yl #[v] W1 fun e W'=>(e=.returned (.bool true)/\KSz S W1 W'/\W1.heap.size<=W'.heap.size/\J (d++[c]).length S W')\/(e=.returned (.bool false)/\∃ i,i<=(dL s l).length/\Jx i S W')):=aa (fun d c r W1 v e hv kV hj=>by
  obtain⟨h1,h2,h3,h4⟩:=KS (x:=[]) e;obtain⟨fn,tmps,assign,body,hy,hR⟩:=hY d.length S W1 #[v] h1 ⟨v,rfl,by rw[h2];exact hv,kV⟩ hj;refine⟨fn,tmps,assign,body,hy,hR.mono ?_⟩;rintro e W' ⟨g1,g2,g3⟩;rcases g3 with ⟨rfl,g3⟩|⟨rfl,g3⟩
  ·exact .inl ⟨rfl,⟨g2,g1⟩,g1,by rw[h4];exact g3⟩
  ·exact .inr ⟨rfl,_,h1,g3⟩)
 have X2:am (∀ i V V',J i S V->Below V.heap.size V V'->J i S V'):=aa (fun i V V' h1 h2=>hJ i S S V V' h1 h2 (gG.refl _ _ _));have nD:am (dL s l=[]++l.dropLast :: ((if 1<l.length then [⟨(l.getD 1 default).x,-1⟩ :: l.drop 2] else [])++gu s l 0)):=aa (A7 s l);have Ue:=aa (fun V (hV:KSz S w V)=>kr hl (Lp.o V hV).2.1);have No:=aa (Iv hl);have X8:=aa hx;have ig:am (∀ V,KSz S w V->∀ e f:Nat,e<eS s->f<eS s->Calls Tryz.prog 97 #[.pointer (some ⟨B,0,none⟩),.int .i64 (e:Nat),.int .i64 (f:Nat)] V fun r w'=>r=.returned (.int .i64 (maskN (fun p=>linkB s p e f) (nS s):Nat))/\Below V.heap.size V w'):=aa (fun V hV e f he hf=>Kz s hs B e f he hf V (ScAt.kp fW (Lp.o V hV).1));have Xe:am (∀ V,KSz S w V->io V):=aa (fun V hV=>io.keep hT (Lp.o V hV).1);have uh:=aa WM;have LF:=aa kX;have HE4:=aa hE;have ju:nS s<=5:=hs.n.2.1;clear hY hJ oC kX WM hl fW hT hS hs hx hW aJ dx jH hyl lw1 lw2 lpb;have Ja:am (bJ W (.slice (some ⟨pb,po,none⟩) (l.length - 1) cl) l.dropLast):=aa (by rw[List.dropLast_eq_take];exact wE (Ue.o W uh.o) _ (by omega));have IT:am (∀ V,KSz S w V->∀ i,i<l.length->bJ V (.slice (some ⟨pb,po,none⟩) (i+1) cl) (l.take (i+1))):=aa (fun V hV i hi=>wE (Ue.o V hV) _ hi);have Xv:am (∀ V,KSz S w V->∀ k,k<l.length->bJ V (.slice (some ⟨pb,po+k * 2,none⟩) (l.length - k) (cl - k)) (l.drop k)):=aa (fun V hV k hk=>by have h:=M4 (Ue.o V hV) k (by omega);rwa [if_neg (by omega)]at h)
 have XA:am (∀ V,KSz S w V->∀ i,i<l.length->∃ e:Nat,(l.getD i default).x=(e:Int)/\(l.getD i default).x.toNat=e/\e<eS s/\V.cell? ⟨pb,po+i * 2,none⟩=some (.int .i64 (e:Int))):=aa (fun V hV i hi=>by
  obtain⟨a,c,e1,_,_,e2⟩:=(Ue.o V hV).at;obtain⟨b',o',e3,h1,h2⟩:=e2 i hi;injection e1 with e4 e5 e6
  rw[<-e4]at e3;injection e3 with e3
  injection e3 with e7 e8
  subst e7 e8;have h3:=X8.o l[i] (List.getElem_mem hi);have hg:l.getD i default=l[i]:=by simp[hi]
  rw[hg];refine⟨l[i].x.toNat,by omega,rfl,h3.2,?_⟩;rw[h1.1];congr 2
  omega)
 have AL:am (∀ V,KSz S w V->V.cell? ⟨bw,0,none⟩=some (.slice (some ⟨pb,po,none⟩) l.length cl)/\V.cell? ⟨bx,0,none⟩=some (.pointer (some ⟨B,0,none⟩))):=aa (fun V hV=>⟨(ab (Lp.o V hV).2.2.1 0).trans rfl,(ab (Lp.o V hV).2.2.2 0).trans rfl⟩);have QH:am (∀ i,i<l.length->gu s l i=gT s l i 0++gu s l (i+1)):=aa (Mt s l);have Ao:am (gu s l l.length=[]):=aa (O4 s l);have TI:am (∀ i j,l.length<=i+2+j->gT s l i j=[]):=aa (O5 s l);have HJN:am (∀ i j,i+2+j<l.length->eT s (l.getD i default).x.toNat (l.getD (l.length - 1 - j) default).x.toNat=false->gT s l i j=gT s l i (j+1)):=aa (fun i j h hb=>Mw s l i j h (by unfold wh;rw[hb];rfl));have Uk:am (∀ i j,i+2+j<l.length->eT s (l.getD i default).x.toNat (l.getD (l.length - 1 - j) default).x.toNat=true->gT s l i j=(l.take (i+1)++⟨(l.getD (l.length - 1 - j) default).x,byP s (l.getD i default).x.toNat (l.getD (l.length - 1 - j) default).x.toNat⟩ :: l.drop (l.length - 1 - j+1)) :: gT s l i (j+1)):=aa (fun i j h hb=>Mu s l i j h (by unfold wh;rw[hb];rfl));have yY:am (1<l.length->dL s l=[l.dropLast]++(⟨(l.getD 1 default).x,-1⟩ :: l.drop 2) :: gu s l 0):=aa (fun h=>by rw[A7,if_pos h];rfl);have UI:am (¬ 1<l.length->dL s l=[l.dropLast]++gu s l 0):=aa (fun h=>by rw[A7,if_neg h];rfl)
 have XJ:am (1<l.length->cH (⟨(l.getD 1 default).x,-1⟩ :: l.drop 2)=(cH (l.drop 1)).set 1 (.int .i64 (-1))):=aa (fun h=>by
  rw[List.drop_eq_getElem_cons h,show l.getD 1 default=l[1] by simp[h]]
  rfl)
 obtain⟨n,hn⟩:∃ n,l.length=n:=⟨_,rfl⟩;have HN:=aa hn;rw[hn]at ij nm Ja IT Xv XA AL QH Ao TI HJN Uk yY UI XJ lt1 lt2;clear hn;have tw:=(AL.o W uh.o).1;refine(callsIn_wide (n:=0)).1 ?_;refine callsIn_of_wp Tryz.func96 rfl trivial ?_ rfl;simp only[Tryz.ntmps96,List.size_toArray,List.length_cons,List.length_nil,Nat.reduceAdd,Nat.reduceSub,Array.replicate_succ,Array.replicate_zero,List.push_toArray,List.append_toArray,List.nil_append,List.cons_append];have jx:IntKind.i64.wrap ((n:Int) - 1)=((n - 1:Nat):Int):=by rw[IntWalk.i64_in _ (by omega)];omega
 obtain⟨fn,tmps,assign,body,oP,hR⟩:=At.o [] _ _ W _ nD.o Ja.o (fun b hb=>.inl (dp hb).symm) LF.o;have HR:=aa hR;clear hR
 gi_wp2
 refine⟨rfl,HR.o.mono ?_⟩;rintro e W3 (⟨rfl,ii,Dp,AC⟩|⟨rfl,i,hi,rO⟩)
 case inr=>
  gi_wp2
  refine bodyPost_ret (results_none rfl _ _ _) rfl ?_;exact⟨⟨_,rfl⟩,_,.inr ⟨_,hi,rO⟩⟩
 clear tw HR oP;have oH:=aa (KSz.trans uh.o ii);have Uj:=aa AC;clear ii AC Ja;have tw:=(AL.o W3 oH.o).1
 have T8:am (∃ d,dL s l=d++gu s l 0):=aa (by
  by_cases h:1<n
  ·exact⟨_,by rw[yY.o h,List.append_cons]⟩
  ·exact⟨_,UI.o h⟩)
 by_cases jV:1<n
 case' pos=>
  have Ww:decide ((1:Int)<(n:Int))=true:=decide_eq_true (by omega);have iU:=aa (pX (.slice (some ⟨pb,po+2,none⟩) (n - 1) (cl - 1)) (l.drop 1) W3 (Xv.o W3 oH.o 1 (by omega)) (by rw[List.length_drop,HN.o];omega));rw[List.length_drop,HN.o]at iU
  have yU:am (∀ y∈(⟨(l.getD 1 default).x,-1⟩ :: l.drop 2:List Lk),bT y.x/\bT y.p):=aa (fun y hy=>by
   rcases List.mem_cons.1 hy with rfl|hy
   ·have h1:=No.o (l.getD 1 default) (by rw[show l.getD 1 default=l[1]'(by rw[HN.o];omega) by simp[HN.o,jV]];exact List.getElem_mem _);exact⟨h1.1,⟨by dsimp only;omega,by dsimp only;omega⟩⟩
   ·exact No.o y (List.mem_of_mem_drop hy))
  have hn10:(0:Int)<((n - 1:Nat):Int):=by omega
  gi_wp2
  refine⟨trivial,rfl,callsIn_wide.2 (iU.o.mono ?_)⟩;rintro e w4 ⟨u,rfl,hu,bR⟩;obtain⟨g,c,rfl,oR,FM,rZ,Gf⟩:=hu.some (by omega);obtain⟨⟨uo,tu⟩,fu⟩:=Gf 1 (by omega);have HO:=aa hu;have eU:=aa bR;clear iU hu bR tw Gf;have hn100:0<n - 1:=by omega
  have ly:am (bJ (w4.setCell ⟨g,1,none⟩ (.int .i64 (-1))) (.slice (some ⟨g,0,none⟩) (n - 1) c) (⟨(l.getD 1 default).x,-1⟩ :: l.drop 2)/\Below W3.heap.size W3 (w4.setCell ⟨g,1,none⟩ (.int .i64 (-1)))):=aa (by
   have h1:=Lb HO.o 1 (.int .i64 (-1)) (by rw[lM,List.length_drop,HN.o];omega) (XJ.o jV);have e1:(⟨(l.getD 1 default).x,-1⟩ :: l.drop 2:List Lk).length=n - 1:=by rw[List.length_cons,List.length_drop,HN.o];omega
   refine⟨aI.links (base:=W3.heap.size) (by rw[e1];exact h1) yU.o (by rw[e1];omega),eU.o.setCell (p:=⟨g,1,none⟩) oR _⟩)
  obtain⟨fn2,tmps2,assign2,body2,oP,hR⟩:=At.o [l.dropLast] _ _ (w4.setCell ⟨g,1,none⟩ (.int .i64 (-1))) _ (yY.o jV) ly.o.1 (fun b hb=>.inr (by have e:=dp hb;have h1:=oH.o.2;dsimp only at e;omega)) (X2.o _ _ _ Uj.o ly.o.2);have HR:=aa hR;clear hR
  gi_wp2
  refine⟨rfl,HR.o.mono ?_⟩;rintro e W6 (⟨rfl,LK,hz6,hj6⟩|⟨rfl,i,hi,hJx6⟩)
  case inr=>
   clear At
   gi_wp2
   refine bodyPost_ret (results_none rfl _ _ _) rfl ?_;exact⟨⟨_,rfl⟩,_,.inr ⟨_,hi,hJx6⟩⟩
  have JV:=aa (KSz.trans (Qt.o _ _ oH.o ly.o.2) LK);have TH:am (∃ d,dL s l=d++gu s l 0/\J d.length S W6):=aa ⟨_,by rw[yY.o jV,List.append_cons],hj6⟩;clear LK hj6 hz6 ly HR oP HO eU tu fu oR FM rZ hn100 hn10 yU Ww
  gi_wp2
 case' neg=>
  have Ww:decide ((1:Int)<(n:Int))=false:=decide_eq_false (by omega);obtain⟨W6,tj⟩:∃ W6,W6=W3:=⟨_,rfl⟩;rw[<-tj]at oH Uj ⊢;have JV:=aa oH.o;have TH:am (∃ d,dL s l=d++gu s l 0/\J d.length S W6):=aa ⟨_,UI.o jV,Uj.o⟩;clear tj tw
  gi_wp2
  clear Ww
 all_goals
  clear T8 jV oH Uj uh LF nD yY UI XJ;obtain⟨W0,bh⟩:∃ W0,W0=W6:=⟨_,rfl⟩;rw[<-bh]at JV TH ⊢;clear bh
  gi_loopw [32] (fun i wr=>∃ (i':Nat) (d:List (List Lk)),i'<=n/\i=.int .i64 i'/\dL s l=d++gu s l i'/\KSz S w wr/\J d.length S wr) (fun i _=>n - (intOf i).toNat)
  ·
   obtain⟨d,h1,h2⟩:=TH.o;exact⟨0,d,by omega,rfl,h1,JV.o,h2⟩
  ·
   clear JV TH W0;obtain⟨i,d,hi,rfl,hd,fU,y8⟩:=hrel;have j9:=aa fU;have je:=aa y8;have HD:=aa hd;clear fU y8 hd;by_cases aD:i<n
   ·obtain⟨wrA,lV⟩:∃ x,x=wr:=⟨_,rfl⟩;rw[<-lV]at j9 je ⊢;clear lV;have HDI':am (dL s l=d++(gT s l i 0++gu s l (i+1))):=aa (by rw[<-QH.o i aD];exact HD.o)
    gi_wp2
    gi_loopw [7] (fun v wr=>∃ (j:Nat) (d:List (List Lk)),j<=n - 1/\v=.int .i64 ((n - 1 - j:Nat):Int)/\dL s l=d++(gT s l i j++gu s l (i+1))/\KSz S w wr/\J d.length S wr) (fun v _=>(intOf v).toNat)
    ·exact⟨0,d,by omega,by rw[Nat.sub_zero],HDI'.o,j9.o,je.o⟩
    ·
     clear j9 je HD HDI' d;obtain⟨j,d,hj,rfl,hd,fU,y8⟩:=hrel;have j9:=aa fU;have je:=aa y8;have HD:=aa hd;obtain⟨k,hk⟩:∃ k,n - 1 - j=k:=⟨_,rfl⟩;rw[hk];have HJE1:=aa (TI.o i j);have Jp:=aa (HJN.o i j);have Er:=aa (Uk.o i j);rw[hk]at Jp Er;have hnk1:k+1+j<=n:=by omega
     have hnk2:n<=k+1+j:=by omega
     clear y8 hd hk;have hwi:IntKind.i64.wrap ((i:Int)+2)=(i:Int)+2:=by rw[IntWalk.i64_in _ (by omega)]
     by_cases qH:i+2<=k
     ·obtain⟨e,Fz,AU,he3,he4⟩:=XA.o wr fU i aD;obtain⟨f,fQ,FB,hf3,hf4⟩:=XA.o wr fU k (by omega);rw[AU,FB]at Jp Er;rw[fQ]at Er;have F':=(AL.o wr fU).1;have Aw:=(AL.o wr fU).2;have yb:∀ z:ExtW wr,z.val.cell? ⟨bw,0,none⟩=_:=fun z=>ak z.ext F'
      have yx:∀ z:ExtW wr,z.val.cell? ⟨bx,0,none⟩=_:=fun z=>ak z.ext Aw
      have ye:∀ z:ExtW wr,z.val.cell? ⟨pb,po+i * 2,none⟩=_:=fun z=>ak z.ext he4
      have yf:∀ z:ExtW wr,z.val.cell? ⟨pb,po+k * 2,none⟩=_:=fun z=>ak z.ext hf4
      have bW:am (∀ y:ExtW wr,Calls Tryz.prog 97 #[.pointer (some ⟨B,0,none⟩),.int .i64 (e:Nat),.int .i64 (f:Nat)] y.val fun r w''=>r=.returned (.int .i64 (maskN (fun p=>linkB s p e f) (nS s):Nat))/\∃ z:ExtW wr,w''=z.val):=aa (fun y=>Calls.ext_of (ig.o y.val (Qt.o _ _ j9.o y.ext) e f he3 hf3));have HZ:am (maskN (fun p=>linkB s p e f) (nS s)=0↔eT s e f=false):=aa (nO _ _);have HUP:am (maskN (fun p=>linkB s p e f) (nS s)=maskN (fun p=>decide (p<nS s)&&linkB s p e f) 8):=aa (VC (by omega) _);have AQ:am (firstIx 8 (fun p=>decide (p<nS s)&&linkB s p e f)=byP s e f):=aa (Sb (by omega) _);have gQ:i<n:=aD;have mu:k<n:=by omega
      have vh:am ((l.getD k default).x=f):=aa fQ;have aU:am (∀ e f':Nat,bT (byP s e f')/\bT (f:Int)):=aa (fun e f'=>⟨by have:=Bj (nS s) fun p=>linkB s p e f';unfold byP;generalize firstIx (nS s) _=z at this;exact⟨by omega,by omega⟩,by have:=HE4.o;exact⟨by omega,by omega⟩⟩);clear Fz AU fQ FB he4 hf4 F' Aw fU he3 hf3;obtain⟨m,hm⟩:∃ m,maskN (fun p=>linkB s p e f) (nS s)=m:=⟨_,rfl⟩;rw[hm]at bW HZ HUP;clear hm
      gi_wp2
      refine wpIn_wide.2 ?_;refine aE (by kernel_rfl) (by kernel_rfl) ?_
      repeat (go_big_quiet_step ((go_at_call 97;with_reducible exact bW.o _)))
      refine wpQuiet_nil ?_;rintro _ ⟨xq,rfl⟩;have nz:=aa (Qt.o _ _ j9.o xq.ext);have NO:=aa (X2.o _ _ _ je.o xq.ext);generalize xq.val=wr2 at nz NO ⊢;clear yb yx ye yf bW j9 je xq wr;obtain⟨wr,kG⟩:∃ x,x=wr2:=⟨_,rfl⟩;rw[<-kG]at nz NO ⊢;clear kG;have SG:0<k->IntKind.i64.wrap ((k:Int) - 1)=((n - 1 - (j+1):Nat):Int):=fun _=>by rw[IntWalk.i64_in _ (by omega)];omega
      have SG:=SG (by omega);cases gH:eT s e f with
      | false=>
       obtain rfl:m=0:=HZ.o.2 gH;have gr:=aa (Jp.o (by omega) gH);clear gH Jp Er
       gi_wp2
       go_roundw
       ·exact⟨j+1,d,by omega,rfl,by rw[<-gr.o];exact HD.o,nz.o,NO.o⟩
       ·simp[intOf];omega
      | true=>
       have vM:((m:Int) == 0)=false:=beq_eq_false_iff_ne.2 (fun h=>by have:=HZ.o.1 (by omega);rw[gH]at this;cases this);have vm:=aa (Er.o (by omega) gH);clear gH Jp Er HZ;have J3:=aa (IT.o wr nz.o i gQ);have Tc:=aa (Lp.o wr nz.o).2.2.1;have Xd:=aa (Xv.o wr nz.o k mu);have ug:am ((l.take (i+1)).length=i+1):=aa (by rw[List.length_take,HN.o];omega);have IR:am ((l.drop k).length=n - k):=aa (by rw[List.length_drop,HN.o]);have hwi1:IntKind.i64.wrap ((i:Int)+1)=((i+1:Nat):Int):=by rw[IntWalk.i64_in _ (by omega)];omega
       rw[HN.o]at Tc
       gi_wp2
       refine wpIn_wide.2 ?_;have hS:List.Nodup [57,58,59,60,61,62,63,64]:=by decide
       refine fD 8 [57,58,59,60,61,62,63,64] [MP.eq (.slice (some ⟨pb,po,none⟩) n cl),MP.eq (.int .i64 i),MP.eq (.int .i64 ((i+1:Nat):Int)),MP.eq (.slice (some ⟨pb,po,none⟩) (i+1) cl),Ym wr.heap.size (l.take (i+1)),MP.eq (.slice (some ⟨pb,po,none⟩) n cl),MP.eq (.int .i64 k),MP.eq (.slice (some ⟨pb,po+k * 2,none⟩) (n - k) (cl - k))] (by kernel_rfl) (by simp) hS rfl (by kernel_rfl) (by kernel_rfl) (by kernel_rfl) ?step ?tail
       case step=>
        intro x W i o s F hi ho hs hB ar hF;rcases (show i=0\/i=1\/i=2\/i=3\/i=4\/i=5\/i=6\/i=7 by omega) with rfl|rfl|rfl|rfl|rfl|rfl|rfl|rfl
        all_goals (obtain rfl:=dp ho.symm;obtain rfl:=dp hs.symm;clear hi ho hs)
        ·obtain⟨g1,h1⟩:=cW hF 1 (.pointer (some ⟨bw,0,none⟩)) (by decide) rfl;have tw:=ab (af hB Tc.o) 0;simp at tw;clear hF ar
         go_wp2_with fail
         exact bB.mk _ (Below.refl _ _) rfl rfl
        ·obtain⟨g6,h6⟩:=cW hF 6 (.int .i64 i) (by decide) rfl;clear hF ar
         go_wp2_with fail
         exact bB.mk _ (Below.refl _ _) rfl rfl
        ·obtain⟨e1,f1⟩:=aT hF 1 58 _ hS rfl (by kernel_rfl) (ar ⟨1,.data⟩ (by simp) rfl);clear hF ar
         go_wp2_with fail
         exact bB.mk _ (Below.refl _ _) rfl rfl
        ·obtain⟨e0,f0⟩:=aT hF 0 57 _ hS rfl (by kernel_rfl) (ar ⟨0,.data⟩ (by simp) rfl);obtain⟨e2,f2⟩:=aT hF 2 59 _ hS rfl (by kernel_rfl) (ar ⟨2,.data⟩ (by simp) rfl);clear hF ar
         go_wp2_with fail
         exact bB.mk _ (Below.refl _ _) rfl rfl
        ·obtain⟨e3,f3⟩:=aT hF 3 60 _ hS rfl (by kernel_rfl) (ar ⟨3,.data⟩ (by simp) rfl);clear hF ar
         go_wp2_with fail
         refine(pX _ _ W (J3.o.up up_link hB) (by rw[ug.o];omega)).mono ?_;rintro e w9 ⟨u9,rfl,jB,eC⟩;have nC:=aa (jB.base hB.size);clear jB
         go_wp2_with fail
         exact bB.mk _ eC nC.o rfl
        ·obtain⟨g1,h1⟩:=cW hF 1 (.pointer (some ⟨bw,0,none⟩)) (by decide) rfl;have tw:=ab (af hB Tc.o) 0;simp at tw;clear hF ar
         go_wp2_with fail
         exact bB.mk _ (Below.refl _ _) rfl rfl
        ·obtain⟨g7,h7⟩:=cW hF 7 (.int .i64 k) (by decide) rfl;clear hF ar
         go_wp2_with fail
         exact bB.mk _ (Below.refl _ _) rfl rfl
        ·obtain⟨e5,f5⟩:=aT hF 5 62 _ hS rfl (by kernel_rfl) (ar ⟨5,.data⟩ (by simp) rfl);obtain⟨e6,f6⟩:=aT hF 6 63 _ hS rfl (by kernel_rfl) (ar ⟨6,.data⟩ (by simp) rfl);clear hF ar
         go_wp2_with fail
         exact bB.mk _ (Below.refl _ _) rfl rfl
       case tail=>
        clear hS;intro x W3 F hB aS hF;have d4:aI W3 wr.heap.size 75 2 (x 4) (l.take (i+1)).length (cH (l.take (i+1))):=aS 4 (by omega);have d7:x 7=.slice (some ⟨pb,po+k * 2,none⟩) (n - k) (cl - k):=aS 7 (by omega);rw[ug.o]at d4;obtain⟨a4,c4,e4⟩:=aI.slice d4;rw[e4]at d4;simp only[bD,cX,List.setIfInBounds_toArray,List.set_cons_succ,List.set_cons_zero,Nat.reduceAdd]at hF;rw[e4,d7]at hF;generalize x 0=s0,x 1=s1,x 2=s2,x 3=s3,x 5=s5,x 6=s6 at hF;subst hF;have jw:=aa hB;have yZ:=aa d4;have I9:=aa (Xd.o.up up_link hB)
        have bE:am (∀ j u,(cH (l.drop k))[j]?=some u->W3.cell? (Addr.add ⟨pb,po+k * 2,none⟩ j)=some u):=aa (fun j u hj=>by
         obtain⟨b',o',c',e1,hc⟩:=Fm I9.o j u hj;injection e1 with e1
         injection e1 with e1
         injection e1 with e1 e2
         subst e1 e2;have:(Addr.add ⟨pb,po+k * 2,none⟩ j)=⟨pb,po+k * 2+j,none⟩:=by unfold Addr.add;split<;>simp_all
         rw[this];exact hc)
        have Qo:am ((cH (l.drop k)).length=(n - k) * 2):=aa (by rw[lM,IR.o]);have jJ:am (i+1+(n - k)<=maxLen):=aa (by unfold maxLen;omega);have eV:am ((i+1+(n - k)) * 16<=140737488355328):=aa (by omega);clear aS d4 d7 e4 hB;simp only[List.drop_succ_cons,List.drop_zero]
        go_wp2_with (at_builtin;(refine aZ _ rfl (.tmp 61) (.tmp 64) 54 rfl wr.heap.size 75 i0 _ 2 16 Tryz.underlying54 bZ.o.1 bZ.o.2.1 bZ.o.2.2.1 bZ.o.2.2.2 rfl (by decide) _ (i+1) _ rfl yZ.o ⟨pb,po+k * 2,none⟩ (n - k) (cl - k) (cH (l.drop k)) rfl Qo.o bE.o (Cb _) jJ.o eV.o jw.o.size ?_;intro v5 w5 NF hgrow5 _))
        have dG:Below wr.heap.size wr w5:=Below.grown jw.o hgrow5 jw.o.size (fun g hg=>(yZ.o.lt g hg).1);obtain⟨g5,c5,rfl,oR,FM,rZ,Gf⟩:=NF.some (by omega);obtain⟨⟨uo,tu⟩,fu⟩:=Gf ((i+1) * 2+1) (by omega);have hi5:i+1<i+1+(n - k):=by omega
        have HK5:=aa (Qt.o _ _ nz.o dG)
        have St:am (Calls Tryz.prog 83 #[.int .i64 m] w5 fun r w'=>r=.returned (.int .i64 (byP s e f))/\w5=w'):=aa (by
         have h:=Ci (fun p=>decide (p<nS s)&&linkB s p e f) w5 (Xe.o w5 HK5.o);rw[<-HUP.o,AQ.o]at h
         exact h)
        have C7:am (aI w5 wr.heap.size 75 2 (.slice (some ⟨g5,0,none⟩) (i+1+(n - k)) c5) (i+1+(n - k)) (cH (l.take (i+1)++l.drop k))):=aa (by rw[kq];exact NF);have lC:=aa dG;clear NF hgrow5 Gf dG;have F7:am (bT (byP s e f)/\bT (f:Int)):=aa (aU.o e f);generalize byP s e f=bp at St vm F7
        gi_wp2
        refine⟨trivial,rfl,callsIn_wide.2 (St.o.mono ?_)⟩;rintro r w6 ⟨rfl,rfl⟩;have cZ:bT bp/\bT (f:Int):=F7.o;obtain⟨y,hy⟩:∃ y:Lk,y=⟨f,bp⟩:=⟨_,rfl⟩
        have QD:am (bJ (w5.setCell ⟨g5,(i+1) * 2+1,none⟩ (.int .i64 bp)) (.slice (some ⟨g5,0,none⟩) (i+1+(n - k)) c5) (l.take (i+1)++⟨f,bp⟩ :: l.drop (k+1))/\Below wr.heap.size wr (w5.setCell ⟨g5,(i+1) * 2+1,none⟩ (.int .i64 bp))):=aa (by
         have e0:(l.getD k default).x=f:=vh.o;have e1:l.drop k=l.getD k default :: l.drop (k+1):=by rw[List.drop_eq_getElem_cons (by rw[HN.o];exact mu),show l.getD k default=l[k]'(by rw[HN.o];exact mu) by simp[HN.o,mu]]
         have e2:cH (l.take (i+1)++⟨f,bp⟩ :: l.drop (k+1))=(cH (l.take (i+1)++l.drop k)).set ((i+1) * 2+1) (.int .i64 bp):=by rw[e1,<-e0,Sc,ug.o]
         have e3:(l.take (i+1)++⟨f,bp⟩ :: l.drop (k+1):List Lk).length=i+1+(n - k):=by rw[List.length_append,List.length_cons,ug.o,List.length_drop,HN.o];omega
         have h1:=Lb C7.o ((i+1) * 2+1) (.int .i64 bp) (by rw[lM,List.length_append,ug.o,IR.o];omega) e2;refine⟨aI.links (base:=wr.heap.size) (by rw[e3];exact h1) (fun y hy=>?_) (by rw[e3];omega),lC.o.setCell (p:=⟨g5,(i+1) * 2+1,none⟩) oR _⟩;rcases List.mem_append.1 hy with hy|hy
         ·exact No.o y (List.mem_of_mem_take hy)
         rcases List.mem_cons.1 hy with rfl|hy
         ·exact⟨cZ.2,cZ.1⟩
         ·exact No.o y (List.mem_of_mem_drop hy))
        clear hy y cZ St;obtain⟨fn,tmps,assign,body,oP,hR⟩:=At.o d _ (gT s l i (j+1)++gu s l (i+1)) (w5.setCell ⟨g5,(i+1) * 2+1,none⟩ (.int .i64 bp)) _ (by rw[HD.o,vm.o];rfl) QD.o.1 (fun b hb=>.inr (by have e:=dp hb;have h1:=nz.o.2;dsimp only at e;omega)) (X2.o _ _ _ NO.o QD.o.2);have HR:=aa hR;clear hR;have QJ:am (dL s l=(d++[l.take (i+1)++⟨f,bp⟩ :: l.drop (k+1)])++(gT s l i (j+1)++gu s l (i+1))):=aa (by rw[HD.o,vm.o];simp)
        gi_wp2
        refine⟨rfl,HR.o.mono ?_⟩;rintro r W9 (⟨rfl,vp,QP,P0⟩|⟨rfl,i9,QM,hJx9⟩)
        ·have qA:=aa (KSz.trans (Qt.o _ _ nz.o QD.o.2) vp);have HJ9:=aa P0;clear vp P0 QP HR oP
         gi_wp2
         go_roundw
         ·exact⟨j+1,_,by omega,rfl,QJ.o,qA.o,HJ9.o⟩
         ·simp[intOf];omega
        ·clear At HR oP
         gi_wp2
         refine bodyPost_ret (results_none rfl _ _ _) rfl ?_;exact⟨⟨_,rfl⟩,_,.inr ⟨_,QM,hJx9⟩⟩
     ·have HJE2:=aa (HJE1.o (by omega));clear fU
      gi_wp2
      go_roundw
      ·exact⟨i+1,d,by omega,by go_num,by rw[HD.o,HJE2.o];rfl,j9.o,je.o⟩
      ·simp[intOf];omega
   ·obtain rfl:i=n:=by omega
    have HCE:am (d.length=(dL s l).length):=aa (by rw[HD.o,Ao.o,List.append_nil])
    gi_wp2
    go_end0
    exact⟨⟨_,rfl⟩,_,.inl (by rw[<-HCE.o];exact je.o)⟩
abbrev eL(k:Int) (u:Value):Array Value:=#[.int .i64 k,u,.slice none 0 0,.slice none 0 0,.slice none 0 0]
theorem wW(tmps:Array Value) (B:Nat) (W:World) (k e:Int) (u:Value) (h4:tmps[4]?.getD undef=.pointer (some ⟨B,0,none⟩)) (h5:tmps[5]?.getD undef=.int .i64 e)
  (hB:W.heap[B]?=some (.cells (eL k u) 58)):(results Tryz.f22 tmps).run Tryz.prog W=.ok (.tuple #[.agg (eL k u),.int .i64 e]) W:=by
 have t2:=ab hB;simp[results,Tryz.results22,go_sem,h4,h5,t2]
theorem Bk{w:World} {pb po n c:Nat} {l:List Lk} (h:bJ w (.slice (some ⟨pb,po,none⟩) n c) l) (h0:0<l.length):pb<w.heap.size:=by
 obtain⟨pl,cl,e1,_,_,el⟩:=h.at;obtain⟨b,o,e2,h1⟩:=el 0 h0;injection e1 with e1
 rw[<-e1]at e2;injection e2 with e2
 injection e2 with e2
 rw[e2];exact fo h1.1.1
theorem VD{s:Sys} {w:List Lk} {i:Nat} (hi:i<(dL s w).length) (h0:∀ j,j<i->iY s ((dL s w).getD j [])=false) (h1:iY s ((dL s w).getD i [])=true):jN s w=some ((dL s w).getD i []):=by
 refine Rz (d:=(dL s w).take i) (r:=(dL s w).drop (i+1)) ?_ (fun x hx=>?_) h1
 ·rw[aA [] hi];simp
 ·obtain⟨j,hj,e⟩:=List.getElem_of_mem hx;rw[List.length_take]at hj;have h2:=h0 j (by omega);rw[aA [] (by omega)]at h2;rw[<-e,List.getElem_take];exact h2
theorem VE{s:Sys} {w:List Lk} (h0:∀ j,j<(dL s w).length->iY s ((dL s w).getD j [])=false):jN s w=none:=by
 refine O6 rfl (fun x hx=>?_);obtain⟨j,hj,e⟩:=List.getElem_of_mem hx;have h2:=h0 j hj;rw[aA [] hj,e]at h2;exact h2
theorem VF{s:Sys} {w c:List Lk} (hw:walkE s w=0) (hc:c∈dL s w):∀ y∈c,0<=y.x/\y.x.toNat<eS s:=fun y hy=>by
 have h0:0<c.length:=List.length_pos_of_mem hy;exact D8 ((Fa hc h0).walk hw) y hy
def Yt(vr:List Lk × Int) (r:Ending) (w':World):Prop:=∃ u,r=.returned (.tuple #[.agg (eL (if vr.2=0 then 1 else 0) u),.int .i64 vr.2])/\bJ w' u vr.1
structure ShI (w w0:World) (b8 b9:Nat) (wk:List Lk) (ag:Bool) (Ds:List Nat) (V:World):Prop where
 old:Below w0.heap.size w0 V
 wk:∃ pb po cl,V.heap[b8]?=some (.cells #[.slice (some ⟨pb,po,none⟩) wk.length cl] 54)/\bJ V (.slice (some ⟨pb,po,none⟩) wk.length cl) wk/\(pb≠b8/\pb≠b9)/\w0.heap.size<=pb
 ag:V.heap[b9]?=some (.cells #[.bool ag] 4)
 marks:cU w.heap.size Ds V
theorem ShI.sta{w w0:World} {b8 b9 B:Nat} {wk:List Lk} {ag:Bool} {Ds:List Nat} (h1:w0.heap.size<=B) (h2:∀ D∈Ds,D<B) {A A':World} (c:Chg B A A') (h:ShI w w0 b8 b9 wk ag Ds A):ShI w w0 b8 b9 wk ag Ds A':=by
 obtain⟨pb,po,cl,k1,k2,k3⟩:=h.wk;exact⟨c.below h1 h.old.size h.old,⟨pb,po,cl,c.same _ _ k1 (.inr rfl),k2.ck up_link c.ck,k3⟩,c.same _ _ h.ag (.inr rfl),cK.marks h2 A A' c h.marks⟩
def Yx(s:Sys) (w w0:World) (b6 b8:Nat) (F:List Lk) (n:Nat) (act:Act) (W:World):Prop:=∃ (b9:Nat) (wk:List Lk) (ag:Bool) (Ds:List Nat) (u0 u1 u3 u7 u10 u11 u12 u13 u14 u15 u16 u17 u18 u19 u20 u21 u22 u23 u24 u25 u26 u27 u28 u29 u30 u31 u32 u33 u34 u35:Value),
 act={ tmps:=#[u0,u1,.pointer (some ⟨w.heap.size,0,none⟩),u3,.pointer (some ⟨w.heap.size+1+1,0,none⟩),.int .i64 0,.pointer (some ⟨b6,0,none⟩),u7,.pointer (some ⟨b8,0,none⟩),.pointer (some ⟨b9,0,none⟩),u10,u11,u12,u13,u14,u15,u16,u17,u18,u19,u20,u21,u22,u23,u24,u25,u26,u27,u28,u29,u30,u31,u32,u33,u34,u35],defers:=mW Ds }/\n=2 * wk.length+(if ag then 1 else 0)/\walkE s wk=0/\(if ag then iQ s wk else wk)=F/\w0.heap.size<=b8/\b8<b9/\ShI w w0 b8 b9 wk ag Ds W
theorem Iy(s:Sys) (hE:eS s<=256) (vc vs vt ve vw:Value) (c:Ct) (pv:Option Addr) (cv:Nat) (pl:Option Addr) (cl:Nat) (pp:Option Addr) (cp:Nat) (w:World) (hT:io w) (hs:IsSys w s vc vs vt ve) (hN:movesN s.prob.a.states<1099511627776) (hw:bJ w vw c.walk) :
  Calls Tryz.prog 22 #[.agg (cj s.prob vc vs s.n vt ve),.agg #[.int .i64 c.kind,vw,.slice pv c.nv cv,.slice pl c.nl cl,.slice pp c.np cp]] w fun r w'=>Yt (shortR s c) r w'/\Below w.heap.size w w':=by
 have HS:=aa hs;have HT:=aa hT;obtain⟨⟨pc,cc,rfl⟩,⟨ps,cs,rfl⟩,⟨pt,ct,rfl⟩,⟨pe,ce,rfl⟩⟩:=bM hs;obtain⟨pw,cw,rfl,lw1,lw2,_⟩:=hw.at;have Uy:=aa hw;have HV:=aa (fun W (hb:Below w.heap.size w W)=>yt s hE _ _ _ _ _ c pv cv pl cl pp cp W (HS.o.up hb) hN (Uy.o.up up_link hb))
 have T3:am (certE s c=0->verifyE s=0/\walkE s c.walk=0):=aa (fun h=>by
  unfold certE at h;split at h
  ·rename_i h1;exact absurd h h1
  rename_i h1;refine⟨rI (by omega),?_⟩;unfold wg at h;split at h
  ·omega
  split at h
  ·omega
  split at h
  ·rename_i h4;exact absurd h h4
  ·rename_i h4;omega)
 have QG:am (certE s c=0->shortR s c=(iQ s c.walk,0)):=aa (fun h=>by unfold shortR;rw[if_neg (by omega)]);have dd:am (certE s c≠0->shortR s c=([],certE s c)):=aa (fun h=>by unfold shortR;rw[if_pos h]);generalize shortR s c=vr at QG dd ⊢;obtain⟨ee,xr⟩:∃ ee,certE s c=ee:=⟨_,rfl⟩;rw[xr]at HV T3 QG dd;obtain⟨kd,wk0,nv,nl,np⟩:=c;dsimp only at *;clear hs hT hw xr;refine gd Tryz.func22 rfl ?_;simp only[Tryz.ntmps22,List.size_toArray,List.length_cons,List.length_nil,Nat.reduceAdd,Nat.reduceSub,Array.replicate_succ,Array.replicate_zero,List.push_toArray,List.append_toArray,List.nil_append,List.cons_append]
 go_wp2_with fail
 refine aQ (fun W=>Below w.heap.size w W/\W.heap[w.heap.size+1]?=some (.cells #[.int .i64 kd,.slice pw wk0.length cw,.slice pv nv cv,.slice pl nl cl,.slice pp np cp] 58)/\W.heap[w.heap.size+1+1]?=some (.cells (eL 0 (.slice none 0 0)) 58)) ⟨by go_grown,az _ (bz _ _ _),eA _ _ _ _⟩ (fun W0 bh=>?_);obtain⟨aJ,gU,gq⟩:=bh;refine(HV.o W0 aJ).mono ?_;rintro r w1 ⟨⟨v,rfl,h2,h3⟩,aM⟩;have bL:=aa (ae aJ aM);have gy:=aa (af aM gU);have QV:=aa (af aM gq);have fV:=aC QV.o;by_cases hr:ee=0
 case neg=>
  have TF:=aa (dd.o hr);obtain rfl:=h3 hr;have FC:(ee != 0)=true:=by simpa using hr
  have WS:=aa hr;clear aJ aM h2 h3 hr HV gU gq T3 QG dd
  go_wp2_with (refine wpList_store_row rfl 58 (.tmp 4) (.tmp 19) rfl (w.heap.size+1+1) (eL 0 (.slice none 0 0)) rfl rfl 58 _ (az _ QV.o) (by kernel_rfl) rfl (by simp[Value.oneCell']) (gL (fun W=>Below w.heap.size w W/\W.heap[w.heap.size+1+1]?=some (.cells (eL 0 (.slice none 0 0)) 58)) ⟨below_setRow (bL.o.alloc (by omega) _) (by omega) _,setRow_heap _ _ _ _ _ _ (az _ QV.o)⟩ ?_);intro W2 fh;have cQ:=aa fh;clear fh)
  refine ik (wW _ (w.heap.size+1+1) _ 0 ee (.slice none 0 0) rfl rfl cQ.o.2) ?_;have e1:=TF.o;have e2:=WS.o;subst e1;exact⟨⟨.slice none 0 0,by dsimp only;rw[if_neg e2],⟨none,0,rfl,⟨by simp,by omega,fun _=>rfl⟩,by simp,fun i x hx=>by simp at hx⟩⟩,cQ.o.1⟩
 obtain⟨B,rfl,fW⟩:=h2 hr;have TF:=aa (QG.o hr);have HZ:=aa (T3.o hr);have dI:=aa (iZ HZ.o.1);have jA:=aa fW;have cN:=(ir s wk0).1 HZ.o.2;have zc:=cN.1;have oK:=cN.2.1;subst hr;clear aJ aM h2 h3 HV gU gq T3 QG dd fW cN;have to:=fun o j=>ab (az o gy.o) j
 go_wp2_with fail
 refine aQ (fun W=>Below w1.heap.size w1 W/\W.heap[w1.heap.size]?=some (.cells #[.pointer (some ⟨B,0,none⟩)] 94)) ⟨by go_grown,aq _ _⟩ (fun W1 cO=>?_);have gz:=aa cO.1;have kJ:=aa cO.2;clear cO to;refine(pX _ wk0 W1 (Uy.o.up up_link (ae bL.o gz.o)) (by omega)).mono ?_;rintro r w2 ⟨u,rfl,hu,aY⟩;obtain⟨pb,cc2,rfl,oR,FM,rZ,_⟩:=hu.some zc;have HU:=aa (aI.links hu (Iv Uy.o) (by omega));have cV:=aa aY;have cD:=aY.size;have bY:=gz.o.size;have dA:=aC kJ.o;clear hu aY;have Jl:=aa (jA.o.up gz.o);have jD:am (iQ s wk0=vr.1/\vr.2=0):=aa (by rw[TF.o];exact⟨rfl,rfl⟩);have HRS1:=aa (af gz.o QV.o);have wK:=aa (ae bL.o gz.o);have J3:=aa (HT.o.up wK.o);clear TF jA gy QV
 go_wp2_with fail
 have oI:Below w2.heap.size w2 ((w2.alloc (Obj.cells #[Value.slice (some { block:=pb,off:=0 }) wk0.length cc2] 54)).alloc (Obj.cells #[Value.bool true] 4)):=by go_grown
 have bZ:am (ShI w W1 w2.heap.size (w2.heap.size+1) wk0 true [] ((w2.alloc (Obj.cells #[Value.slice (some { block:=pb,off:=0 }) wk0.length cc2] 54)).alloc (Obj.cells #[Value.bool true] 4))):=aa
  ⟨ae cV.o oI,⟨pb,0,cc2,az _ (aq _ _),HU.o.up up_link oI,⟨by omega,by omega⟩,by omega⟩,bz _ _ _,cU.nil _ _⟩
 clear oI cV HU;refine AW (fun n act W=>Yx s w W1 w1.heap.size w2.heap.size (iQ s wk0) n act W) (2 * wk0.length+1) ?start ?round
 case start=>exact⟨w2.heap.size+1,wk0,true,[],_,_,_,_,_,_,_,_,_,_,_,_,_,_,_,_,_,_,_,_,_,_,_,_,_,_,_,_,_,_,rfl,rfl,HZ.o.2,rfl,cD,by omega,bZ.o⟩
 case round=>
  clear bZ oR FM rZ zc oK lw1 lw2;have Cw:W1.heap.size<=w2.heap.size:=cD;generalize w2.heap.size=b8 at Cw;rintro n act W ⟨b9,wk,ag,Ds,u0,u1,u3,u7,u10,u11,u12,u13,u14,u15,u16,u17,u18,u19,u20,u21,u22,u23,u24,u25,u26,u27,u28,u29,u30,u31,u32,u33,u34,u35,rfl,hn,Qd,hF,_,eC,hI⟩;have cN:=(ir s wk).1 Qd;have zc:=cN.1;have oK:=cN.2.1;clear cN;have lU:∀ E∈Ds,E<W.heap.size:=hI.marks.lt;obtain⟨pb,po,cl',h8,nE,⟨hp8,UF⟩,vL⟩:=hI.wk;have t9:=ab hI.ag 0;have t8:=ab h8 0;have f9:=aG hI.ag 0;simp at t9 t8;have JZ:=af hI.old HRS1.o;have HI:=aa hI;have HH8:=aa h8;have ig:=aa nE;have WW:=aa hF;have NY:=aa JZ;have HN:=aa hn;have vm:=aa (aC HRS1.o);cases ag with
  | false=>
   clear hI h8 nE hF JZ hn f9
   go_wp2_with (refine wpList_store_row rfl 58 (.tmp 4) (.tmp 35) rfl (w.heap.size+1+1) (eL 1 (.slice (some ⟨pb,po,none⟩) wk.length cl')) rfl rfl 58 _ NY.o (by kernel_rfl) rfl (by simp[Value.oneCell']) ?_)
   have hm:cU w.heap.size Ds (W.setRow (w.heap.size+1+1) (eL 1 (.slice (some ⟨pb,po,none⟩) wk.length cl'))):=HI.o.marks.keep fun k o ho hc=>by
    rw[setRow_other _ _ _ _ (fun e=>by subst e;rw[NY.o]at ho;cases ho;cases hc)];exact ho
   have cA:(W.setRow (w.heap.size+1+1) (eL 1 (.slice (some ⟨pb,po,none⟩) wk.length cl'))).heap[w.heap.size+1+1]?=some (.cells (eL 1 (.slice (some ⟨pb,po,none⟩) wk.length cl')) 58):=setRow_heap _ _ _ _ _ _ NY.o;refine rf hm (wW _ (w.heap.size+1+1) _ 1 0 (.slice (some ⟨pb,po,none⟩) wk.length cl') rfl rfl (rc hm _ _ cA rfl)) ?_;have e1:=jD.o;obtain⟨x1,x2⟩:=vr;dsimp only at e1;obtain⟨e1,rfl⟩:=e1;have e3:wk=x1:=by rw[<-e1];exact WW.o
   subst e3;refine⟨⟨_,rfl,?_⟩,mA (fun D hD=>(hm.2 D hD).1) (Nat.le_refl _) (below_setRow (ae wK.o HI.o.old) (by omega) _)⟩;refine fe.ck up_link (rc hm) (kr ig.o (setRow_other _ _ _ _ ?_));have:=vm.o;omega
  | true=>
   have tW:am (ShI w W1 b8 b9 wk false Ds (W.setCell ⟨b9,0,none⟩ (.bool false))):=aa
    ⟨hI.old.setCell (p:=⟨b9,0,none⟩) (by dsimp only;omega) _,⟨pb,po,cl',aN h8 (by omega) _ _,kr nE (Below.heap_setCell _ _ _ _ UF),⟨hp8,UF⟩,vL⟩,aH hI.ag _ _,hI.marks.keep fun k o ho hc=>aN ho (fun e=>by subst e;rw[hI.ag]at ho;cases ho;cases hc) _ _⟩
   have t6':=(ab (af tW.o.old kJ.o) 0).trans rfl;have WC:(W.setCell ⟨b9,0,none⟩ (.bool false)).heap[b8]?=some (.cells #[.slice (some ⟨pb,po,none⟩) wk.length cl'] 54):=aN h8 (by omega) _ _;have t8':=(ab WC 0).trans rfl;have HLK1:am (bJ (W.setCell ⟨b9,0,none⟩ (.bool false)) (.slice (some ⟨pb,po,none⟩) wk.length cl') wk):=aa (kr nE (Below.heap_setCell _ _ _ _ UF));have HH8':=aa WC;clear hI h8 nE hF JZ hn WC HI NY HH8 ig t8
   go_wp2_with fail
   clear t6' t8';refine aQ (fun V=>ShI w W1 b8 b9 wk false Ds V/\V.heap[b8]?=some (.cells #[.slice (some ⟨pb,po,none⟩) wk.length cl'] 54)/\bJ V (.slice (some ⟨pb,po,none⟩) wk.length cl') wk/\V.heap.size=W.heap.size) ⟨tW.o,HH8'.o,HLK1.o,by simp⟩ (fun V hV=>?_);have HV:=aa hV.1;have HV8:=aa hV.2.1;have Ar:=aa hV.2.2.1;have hVs:=hV.2.2.2;rw[<-hVs]at lU;clear hV tW HH8' HLK1 f9 t9 hVs W;refine(KA B (.slice (some ⟨pb,po,none⟩) wk.length cl') V ⟨_,_,_,rfl⟩).mono ?_;rintro r w3 ⟨rfl,rfl⟩
   go_wp2_with fail
   have rZ:Below V.heap.size V ((V.alloc (.cells #[.pointer (some ⟨B,0,none⟩)] 94)).alloc (.cells #[.slice (some ⟨pb,po,none⟩) wk.length cl'] 54)):=by go_grown
   refine bF (fun U=>Below V.heap.size V U/\U.heap[V.heap.size]?=some (.cells #[.pointer (some ⟨B,0,none⟩)] 94)/\U.heap[V.heap.size+1]?=some (.cells #[.slice (some ⟨pb,po,none⟩) wk.length cl'] 54)) ⟨rZ,az _ (aq _ _),bz _ _ _⟩ (fun U hU=>?_);obtain⟨sU,za,rR⟩:=hU;have hsU:=aC rR;have FE:=aa (HV.o.sta (B:=V.heap.size) HV.o.old.size lU (Chg.of_below sU));have dj:=Iw s dI.o hE wk zc oK (D8 Qd) B V.heap.size (V.heap.size+1) pb po cl' W1 J3.o Jl.o U FE.o.old (Ar.o.up up_link sU) rR za;have hpbV:=Bk Ar.o zc;have fk:=aa (fun (wk':List Lk) (ag':Bool) A A' (c:Chg U.heap.size A A') (h:ShI w W1 b8 b9 wk' ag' Ds A)=>h.sta (B:=U.heap.size) FE.o.old.size (fun E hE=>by have:=lU E hE;omega) c);have hb8U:b8<V.heap.size:=aC HV8.o;have hb9U:b9<V.heap.size:=aC HV.o.ag;clear sU za rZ
   refine L5 (gf:=96) (lb:=#[.pointer (some ⟨V.heap.size+1,0,none⟩),.pointer (some ⟨V.heap.size,0,none⟩)]) rfl (enters_of Tryz.func96 (by kernel_rfl) rfl) dj (Below.refl _ _) (fun k hk=>by have:=FE.o.old.size;rcases hk with hk|rfl|rfl|rfl<;>omega) (fun i args _ _ h=>by obtain⟨v,h,_⟩:=h;rw[h];rfl)
    (fun i T A=>ShI w W1 b8 b9 wk false Ds A/\(∀ j,j<i->iY s ((dL s wk).getD j [])=false)/\(¬ T b8/\¬ T b9)/\(∀ k,T k->k<A.heap.size)/\U.heap.size<=A.heap.size)
    (fun c i T A=>c=.exit 2/\∃ c',jN s wk=some c'/\ShI w W1 b8 b9 c' true Ds A)
    (fun i T T' A A' h hc hw=>⟨fk.o _ _ _ _ hc h.1,h.2.1,⟨fun hk=>by
     rcases hw.2 _ hk with h1|h1
     ·exact h.2.2.1.1 h1
     ·have:=h.2.2.2.2;omega,fun hk=>by
     rcases hw.2 _ hk with h1|h1
     ·exact h.2.2.1.2 h1
     ·have:=h.2.2.2.2;omega⟩,fun k hk=>by
     rcases hw.2 _ hk with h1|h1
     ·exact Nat.lt_of_lt_of_le (h.2.2.2.1 k h1) hc.size
     ·exact h1.2,Nat.le_trans h.2.2.2.2 hc.size⟩)
    (fun c i T T' A A' h hc hw=>by obtain⟨h1,c',h2,h3⟩:=h;exact⟨h1,c',h2,fk.o _ _ _ _ hc h3⟩)
    ⟨FE.o,fun j hj=>by omega,⟨by omega,by omega⟩,fun k hk=>by have:=FE.o.old.size;rcases hk with hk|rfl|rfl|rfl<;>omega,Nat.le_refl _⟩ ?rnd ?done ?stop
   case done=>
    intro D T A hD nq hK;have mx:=VE nq.2.1;have h9:=nq.1.ag;obtain⟨pb',po',cl'',k1,k2,⟨k3,k4⟩,k5⟩:=nq.1.wk;have t9:=ab h9 0;simp at t9;have hpa:=Bk k2 zc;have h8A:=aC k1;have Do:Below A.heap.size A (A.alloc (.cells #[.bool false] 4)):=by go_grown
    have yJ:am (ShI w W1 b8 A.heap.size wk false (D :: Ds) (A.alloc (.cells #[.bool false] 4))):=aa
     ⟨ae nq.1.old Do,⟨pb',po',cl'',af Do k1,k2.up up_link Do,⟨k3,by omega⟩,k5⟩,aq _ _,(cU.cons nq.1.marks (by have:=wK.o.size;have:=FE.o.old.size;omega) hK fun E hE=>by have:=lU E hE;omega).up Do⟩
    have gV:am ((if false=true then iQ s wk else wk)=iQ s wk0):=aa (by rw[if_neg (by decide),<-Mr mx];exact WW.o);have ng:am (2 * wk.length+(if false=true then 1 else 0)<n):=aa (by rw[HN.o];simp);clear nq dj k1 k2 k3 k4 k5 mx
    go_wp2_with fail
    exact⟨_,ng.o,A.heap.size,wk,false,D :: Ds,_,_,_,_,_,_,_,_,_,_,_,_,_,_,_,_,_,_,_,_,_,_,_,_,_,_,_,_,_,_,rfl,rfl,Qd,gV.o,Cw,by omega,yJ.o⟩
   case stop=>
    rintro D c i T A hD hi ⟨rfl,c',mx,nq⟩ hK;obtain⟨g1,g2,_,g4⟩:=sJ mx;have h9:=nq.ag;obtain⟨pb',po',cl'',k1,k2,⟨k3,k4⟩,k5⟩:=nq.wk;have t9:=ab h9 0;simp at t9;have hpa:=Bk k2 g2;have h8A:=aC k1;have Do:Below A.heap.size A (A.alloc (.cells #[.bool true] 4)):=by go_grown
    have yJ:am (ShI w W1 b8 A.heap.size c' true (D :: Ds) (A.alloc (.cells #[.bool true] 4))):=aa
     ⟨ae nq.old Do,⟨pb',po',cl'',af Do k1,k2.up up_link Do,⟨k3,by omega⟩,k5⟩,aq _ _,(cU.cons nq.marks (by have:=wK.o.size;have:=FE.o.old.size;omega) hK fun E hE=>by have:=lU E hE;omega).up Do⟩
    have gV:am ((if true=true then iQ s c' else c')=iQ s wk0):=aa (by rw[if_pos rfl,<-Ms mx];exact WW.o);have ng:am (2 * c'.length+(if true=true then 1 else 0)<n):=aa (by have:=g4.len;rw[HN.o];simp;omega);have hwz':=g4.walk Qd;clear nq dj k1 k2 k3 k4 k5 mx g1 g4
    go_wp2_with fail
    exact⟨_,ng.o,A.heap.size,c',true,D :: Ds,_,_,_,_,_,_,_,_,_,_,_,_,_,_,_,_,_,_,_,_,_,_,_,_,_,_,_,_,_,_,rfl,rfl,hwz',gV.o,Cw,by omega,yJ.o⟩
   case rnd=>
    rintro yl i T A args hi hl hlA hTl ⟨v,rfl,hv,hvb⟩ ⟨hSI,jv,⟨ht8,ht9⟩,hTA,hUA⟩;obtain⟨pv',cv',rfl,_⟩:=hv.at;have Au:=aa hv;have yW:=aa hSI;have HTA:=aa hTA;have HMEM:am ((dL s wk).getD i []∈dL s wk):=aa (by rw[aA [] hi];exact List.getElem_mem hi);have gr:=aa (fun h=>VD hi jv h);have fZ:=aa (fun h:iY s ((dL s wk).getD i [])=false=>aW (p:=fun j=>iY s ((dL s wk).getD j [])=false) jv h);generalize (dL s wk).getD i []=cand at Au HMEM gr fZ hv;have PZ:=aa hvb;clear hv hSI hTA jv dj
    gi_wp2
    refine⟨Bod.refl _ _ _,fun X=>ShI w W1 b8 b9 wk false Ds X/\bJ X (.slice pv' cand.length cv') cand/\(∀ k,T k->k<X.heap.size)/\U.heap.size<=X.heap.size,fun X X' c h=>⟨fk.o _ _ _ _ c h.1,h.2.1.ck up_link c.ck,fun k hk=>Nat.lt_of_lt_of_le (h.2.2.1 k hk) c.size,Nat.le_trans h.2.2.2 c.size⟩,⟨yW.o,Au.o,HTA.o,hUA⟩,fun X hX jz=>?_⟩;obtain⟨rlp,jz⟩:=jz;have I':=aC jz;clear jz rlp;have HX:=aa hX.1;have yU:=aa hX.2.1;have Xw:=aa hX.2.2.1;have hUX:=hX.2.2.2;have tb6:=(ab (af HX.o.old kJ.o) 0).trans rfl;have CL:=aa (qU s dI.o B _ cand (VF Qd HMEM.o) X (Jl.o.up HX.o.old) hX.2.1);obtain⟨pbx,pox,clx,q1,q2,⟨q3,q4⟩,q5⟩:=hX.1.wk;have Q1:=aa q1;have Q9:=aa hX.1.ag;clear hX q2 q3 q4 q5 q1
    gi_wp2
    refine⟨trivial,rfl,wP (CL.o.mono ?_)⟩;rintro r W4 ⟨rfl,bR⟩;clear tb6 CL;have eU:=aa bR;have r1:=af bR Q1.o;have r9:=af bR Q9.o;have s8:=ab r1 0;have s9:=ab r9 0;have f8:=aG r1 0;have f9:=aG r9 0;simp at s8 s9;have R1:=aa r1;have R9:=aa r9;clear r1 r9 bR;cases hg:iY s cand with
    | true=>
     have qE:=aa (gr.o hg)
     have h0c:0<cand.length:=by
      unfold iY at hg;rw[Bool.and_eq_true,decide_eq_true_eq]at hg;exact hg.1
     clear hg gr fZ;have hne89:¬ (b9=b8):=by omega
     have hne98:¬ (b8=b9):=by omega
     gi_wp2
     obtain⟨pl9,cl9,e9,_,_,el9⟩:=yU.o.at;obtain⟨pbv,pov,e8,_⟩:=el9 0 h0c;injection e9 with e9
     rw[<-e9]at e8;subst e8;have hvo:=PZ.o pbv rfl
     have bP:pbv≠b8/\pbv≠b9/\W1.heap.size<=pbv:=by
      have:=FE.o.old.size;rcases hvo with rfl|h
      ·exact⟨hp8,UF,vL⟩
      ·omega
     have sY:∀ (k:Nat) (o:Obj),W4.heap[k]?=some o->o.isCells=false->((W4.setCell ⟨b8,0,none⟩ (.slice (some ⟨pbv,pov,none⟩) cand.length cv')).setCell ⟨b9,0,none⟩ (.bool true)).heap[k]?=some o:=fun k o ho hc=>
      aN (aN ho (fun e=>by subst e;rw[R1.o]at ho;cases ho;cases hc) _ _) (fun e=>by subst e;rw[R9.o]at ho;cases ho;cases hc) _ _
     refine⟨⟨by simp;have:=eU.o.size;omega,fun k hk=>?_,fun k o _ ho hc=>sY k o (af eU.o ho) hc⟩,rfl,_,qE.o,?_⟩
     ·rw[Below.heap_setCell _ _ _ _ (fun e=>ht9 (by dsimp only at e;rw[<-e];exact hk)),Below.heap_setCell _ _ _ _ (fun e=>ht8 (by dsimp only at e;rw[<-e];exact hk))];exact eU.o.block k (Xw.o k hk)
     ·refine⟨((ae HX.o.old eU.o).setCell (p:=⟨b8,0,none⟩) Cw _).setCell (p:=⟨b9,0,none⟩) (by dsimp only;omega) _,⟨pbv,pov,cv',aN (aH R1.o _ _) hne98 _ _,kr (kr (yU.o.up up_link eU.o) (Below.heap_setCell _ _ _ _ bP.1)) (Below.heap_setCell _ _ _ _ bP.2.1),⟨bP.1,bP.2.1⟩,bP.2.2⟩,aH (aN R9.o hne89 _ _) _ _,(HX.o.marks.up eU.o).keep sY⟩
    | false=>
     have qE:=aa (fZ.o hg);clear hg gr fZ
     gi_wp2
     exact⟨Bod.of_below Xw.o eU.o,fk.o _ _ _ _ (Chg.of_below eU.o) HX.o,qE.o,⟨ht8,ht9⟩,fun k hk=>Nat.lt_of_lt_of_le (Xw.o k hk) eU.o.size,Nat.le_trans hUX eU.o.size⟩
def mC(s:Sys) (mem:List Nat) (i:Nat):List Lk:=if i=0 then gF s mem else kR s (mem.getD (i - 1) 0) (mem.drop i)
theorem KB(s:Sys) (mem:List Nat) (h:0<mem.length):mC s mem 0=⟨mem.getD 0 0,-1⟩ :: mC s mem 1:=by
 match mem,h with
 | a :: r,_=>rfl
theorem M5(s:Sys) (mem:List Nat) (i:Nat) (h0:0<i) (hi:i<mem.length):mC s mem i=kn s (mem.getD (i - 1) 0) (mem.getD i 0)++mC s mem (i+1):=by
 unfold mC;rw[if_neg (by omega),if_neg (by omega),List.drop_eq_getElem_cons hi,aA 0 hi,Nat.add_sub_cancel,aA 0 hi];rfl
theorem PK(s:Sys) (mem:List Nat):mC s mem mem.length=[]:=by
 unfold mC;split
 ·rename_i h;rw[List.eq_nil_of_length_eq_zero h];rfl
 ·rw[List.drop_length];rfl
structure SlS (J:Nat->(Nat->Prop)->World->Prop) (S:Nat->Prop) (w W:World) (yl c1 B:Nat) (x:Int) (d:Nat) (cur:Int) (T:Nat->Prop) (V:World):Prop where
 j:J d T V
 ks:KSz S w V
 sz:W.heap.size<=V.heap.size
 b3:V.heap[W.heap.size]?=some (.cells #[.func (.yield yl) #[] #[]] 80)
 b4:V.heap[W.heap.size+1]?=some (.cells #[.int .i64 cur] 3)
 x1:V.heap[c1]?=some (.cells #[.pointer (some ⟨B,0,none⟩)] 94)
 x2:V.heap[c1+1]?=some (.cells #[.int .i64 x] 3)
 t:T W.heap.size/\T (W.heap.size+1)/\T c1/\T (c1+1)
 tb:∀ k,T k->W.heap.size<=k/\k<V.heap.size
section
variable {J : Nat → (Nat → Prop) → World → Prop} {S : Nat → Prop} {w W : World} {yl c1 B : Nat} {x : Int} {d : Nat} {cur : Int} {T T' : Nat → Prop} {V V' : World}
theorem SlS.grow(h:SlS J S w W yl c1 B x d cur T V) (hJ:∀ i T T' A A',J i T A->ChT W.heap.size T A A'->gG A A' T T'->J i T' A') (hS:∀ k,S k->k<w.heap.size) (hb:Below V.heap.size V V') (hw:gG V V' T T'):SlS J S w W yl c1 B x d cur T' V':=
 ⟨hJ _ _ _ _ _ h.j (ChT.of_below h.sz hb) hw,⟨fun k hk=>(hb.block k (by have:=hS k hk;have:=h.ks.2;omega)).trans (h.ks.1 k hk),Nat.le_trans h.ks.2 hb.size⟩,Nat.le_trans h.sz hb.size,af hb h.b3,af hb h.b4,af hb h.x1,af hb h.x2,⟨hw.1 _ h.t.1,hw.1 _ h.t.2.1,hw.1 _ h.t.2.2.1,hw.1 _ h.t.2.2.2⟩,fun k hk=>by
  rcases hw.2 k hk with h1|h1
  ·exact⟨(h.tb k h1).1,Nat.lt_of_lt_of_le (h.tb k h1).2 hb.size⟩
  ·exact⟨by have:=h.sz;omega,h1.2⟩⟩
theorem SlS.chg{n:Nat} (h:SlS J S w W yl c1 B x d cur T V) (hJ:∀ i T T' A A',J i T A->ChT W.heap.size T A A'->gG A A' T T'->J i T' A') (hS:∀ k,S k->k<w.heap.size) (hn:W.heap.size<=n) (hwn:w.heap.size<=n) (hc:Chg n V V'):SlS J S w W yl c1 B x d cur T V':=
 ⟨hJ _ _ _ _ _ h.j (ChT.of_chg hc hn h.sz) (gG.refl _ _ _),⟨fun k hk=>by
  have h1:k<V.heap.size:=by have:=hS k hk;have:=h.ks.2;omega
  have h2:V.heap[k]?=some V.heap[k]:=Array.getElem?_eq_getElem h1;rw[hc.same k _ h2 (.inl (by have:=hS k hk;omega)),<-h2]
  exact h.ks.1 k hk,Nat.le_trans h.ks.2 hc.size⟩,Nat.le_trans h.sz hc.size,hc.same _ _ h.b3 (.inr rfl),hc.same _ _ h.b4 (.inr rfl),hc.same _ _ h.x1 (.inr rfl),hc.same _ _ h.x2 (.inr rfl),h.t,fun k hk=>⟨(h.tb k hk).1,Nat.lt_of_lt_of_le (h.tb k hk).2 hc.size⟩⟩
theorem SlS.put(h:SlS J S w W yl c1 B x d cur T V) (hJ:∀ i T T' A A',J i T A->ChT W.heap.size T A A'->gG A A' T T'->J i T' A') (hS:∀ k,S k->k<W.heap.size) (hc:c1≠W.heap.size+1/\c1+1≠W.heap.size+1) (y:Int):SlS J S w W yl c1 B x d y T (V.setCell ⟨W.heap.size+1,0,none⟩ (.int .i64 y)):=
 ⟨hJ _ _ _ _ _ h.j (ChT.set h.t.2.1 (by omega) _ _) (gG.refl _ _ _),⟨fun k hk=>(Below.heap_setCell _ _ _ _ (by have:=hS k hk;dsimp only;omega)).trans (h.ks.1 k hk),by simpa using h.ks.2⟩,by simpa using h.sz,aN h.b3 (by omega) _ _,aH h.b4 _ _,aN h.x1 hc.1 _ _,aN h.x2 hc.2 _ _,h.t,fun k hk=>by simpa using h.tb k hk⟩
theorem SlS.next{d':Nat} (h:SlS J S w W yl c1 B x d cur T V) (hS:∀ k,S k->k<w.heap.size) (hz:V.heap.size<=V'.heap.size) (hk:∀ k,T k\/S k->k<V.heap.size->V'.heap[k]?=V.heap[k]?) (hj:J d' T V'):SlS J S w W yl c1 B x d' cur T V':=
 ⟨hj,⟨fun k qY=>(hk k (.inr qY) (by have:=hS k qY;have:=h.ks.2;omega)).trans (h.ks.1 k qY),Nat.le_trans h.ks.2 hz⟩,Nat.le_trans h.sz hz,(hk _ (.inl h.t.1) (aC h.b3)).trans h.b3,(hk _ (.inl h.t.2.1) (aC h.b4)).trans h.b4,(hk _ (.inl h.t.2.2.1) (aC h.x1)).trans h.x1,(hk _ (.inl h.t.2.2.2) (aC h.x2)).trans h.x2,h.t,fun k qY=>⟨(h.tb k qY).1,Nat.lt_of_lt_of_le (h.tb k qY).2 hz⟩⟩
end
theorem PL(B:Nat) (x:Int) (w:World) :
  Calls Tryz.prog 49 #[.pointer (some ⟨B,0,none⟩),.int .i64 x] w fun r w'=>r=.returned (.func (.func 89) #[] #[.pointer (some ⟨w.heap.size,0,none⟩),.pointer (some ⟨w.heap.size+1,0,none⟩)])/\w'=(w.alloc (.cells #[.pointer (some ⟨B,0,none⟩)] 94)).alloc (.cells #[.int .i64 x] 3):=by
 go_enter Tryz.func49,Tryz.ntmps49
 go_wp2
 go_ret
 exact⟨rfl,rfl⟩
def We(base:Nat) (l:List Lk):MP:=⟨fun x W=>bJ W x l/\∀ k,x.ownBlock=some k->base<=k,fun _ _ _ h hb=>⟨h.1.up up_link hb,h.2⟩⟩
def Tv(base:Nat) (l:List Lk):MP:=⟨fun x W=>∃ u,x=.tuple #[u,.bool true,.int .i64 0]/\bJ W u l/\∀ k,u.ownBlock=some k->base<=k,fun _ _ _ h hb=>by obtain⟨u,e,h1,h2⟩:=h;exact⟨u,e,h1.up up_link hb,h2⟩⟩
theorem M6(s:Sys) (hv:verifyE s=0) (hE:eS s<=256) (hN:movesN s.prob.a.states<1099511627776) (B bx bl:Nat) (x:Int) (w0:World) (fW:ScAt w0 B s) (w:World) (aJ:Below w0.heap.size w0 w)
  (jH:w.heap[bx]?=some (.cells #[.pointer (some ⟨B,0,none⟩)] 94)) (lQ:w.heap[bl]?=some (.cells #[.int .i64 x] 3)) :
  Tr Tryz.prog 89 #[.pointer (some ⟨bx,0,none⟩),.pointer (some ⟨bl,0,none⟩)] (fun i args=>args=#[((gF s (memL (partsS s) x)).getD i default).v]) (gF s (memL (partsS s) x)).length (fun k=>k<w0.heap.size\/k=bx\/k=bl) w:=by
 intro yl J Jx W hW hyl hJ oC hY kX;have lx:=aC jH;have ll:=aC lQ;have mU:=aJ.size;have S0:=hW.size;obtain⟨S,hS⟩:∃ S,S=(fun k=>k<w0.heap.size\/k=bx\/k=bl):=⟨_,rfl⟩;have Je:∀ k,S k->k<w.heap.size:=fun k hk=>by subst hS;rcases hk with hk|rfl|rfl<;>omega
 have X6:∀ k,S k->k<W.heap.size:=fun k hk=>by have:=Je k hk;omega
 have AL:am (∀ V,KSz S w V->jh w0.heap.size w0 V/\V.cell? ⟨bx,0,none⟩=some (.pointer (some ⟨B,0,none⟩))/\V.cell? ⟨bl,0,none⟩=some (.int .i64 x)):=aa (fun V hV=>by
  subst hS
  exact⟨fun k hk=>(hV.1 k (.inl hk)).trans (aJ.block k hk),(ab ((hV.1 bx (.inr (.inl rfl))).trans jH) 0).trans rfl,(ab ((hV.1 bl (.inr (.inr rfl))).trans lQ) 0).trans rfl⟩)
 have HSL:am (∀ k,k<w0.heap.size->S k):=aa (fun k hk=>by subst hS;exact .inl hk);obtain⟨mem,kO⟩:∃ mem,memL (partsS s) x=mem:=⟨_,rfl⟩;rw[kO]at hY ⊢;rw[<-hS]at hY
 have At:am (∀ (d:List Lk) (c:Lk) (r:List Lk) (T:Nat->Prop) (W1:World),gF s mem=d++c :: r->J d.length T W1->W.heap.size<=W1.heap.size->YieldAt Fence.wide 0 Tryz.prog yl #[c.v] W1 fun e W'=>
   (W1.heap.size<=W'.heap.size/\(∀ k o,W.heap.size<=k->W1.heap[k]?=some o->o.isCells=false->W'.heap[k]?=some o))/\((e=.returned (.bool true)/\(∀ k,T k\/S k->k<W1.heap.size->W'.heap[k]?=W1.heap[k]?)/\J (d++[c]).length T W')\/(e=.returned (.bool false)/\∃ i,i<=(gF s mem).length/\Jx i T W'))):=aa (fun d c r T W1 e hj hz=>by
  obtain⟨h1,h2,h3,h4⟩:=KS (x:=default) e;obtain⟨fn,tmps,assign,body,hy,hR⟩:=hY d.length T W1 #[c.v] h1 (by dsimp only;rw[h2]) hj hz;refine⟨fn,tmps,assign,body,hy,hR.mono ?_⟩;rintro e W' ⟨g1,g4,g3⟩;rcases g3 with ⟨rfl,g2,g3⟩|⟨rfl,g3⟩
  ·exact⟨⟨g1,g4⟩,.inl ⟨rfl,g2,by rw[h4];exact g3⟩⟩
  ·exact⟨⟨g1,g4⟩,.inr ⟨rfl,_,h1,g3⟩⟩)
 have HJ:=aa hJ;have Jc:=aa oC;have LF:=aa kX;have jA:=aa fW;have LH:am (KSz S w W):=aa ⟨fun k hk=>hW.block k (Je k hk),hW.size⟩;have dI:=aa (iZ hv)
 have CJ:am (∀ i,i<mem.length->mem.getD i 0<eS s):=aa (fun i hi=>by
  rw[aA 0 hi];have h1:mem[i]∈memL (partsS s) x:=by rw[kO];exact List.getElem_mem hi
  exact ry _ h1)
 have HNR:am (∀ i k,i<mem.length->k<mem.length->0<=(db s (mem.getD k 0)).getD (mem.getD i 0) 0):=aa (fun i k hi hk=>by
  have h1:mem[i]∈memL (partsS s) x:=by rw[kO];exact List.getElem_mem hi
  have h2:mem[k]∈memL (partsS s) x:=by rw[kO];exact List.getElem_mem hk
  rw[aA 0 hi,aA 0 hk]
  exact B3 dI.o _ _ (ry _ h1) (ry _ h2) ((lp.1 h1).2.trans (lp.1 h2).2.symm))
 have HWF:=aa (KB s mem);have HWN:=aa (M5 s mem);have HWE:=aa (PK s mem);have eY:=aa (ae aJ hW);clear hY hJ oC kX fW jH lQ hS;have tw:=(AL.o W LH.o).2;have t1:∀ o o',((W.alloc o).alloc o').cell? ⟨bx,0,none⟩=some (.pointer (some ⟨B,0,none⟩)):=fun o o'=>ak (show Below W.heap.size W ((W.alloc o).alloc o') by go_grown) tw.1
 have t2:∀ o o',((W.alloc o).alloc o').cell? ⟨bl,0,none⟩=some (.int .i64 x):=fun o o'=>ak (show Below W.heap.size W ((W.alloc o).alloc o') by go_grown) tw.2
 refine gd Tryz.func89 rfl ?_;simp only[Tryz.ntmps89,List.size_toArray,List.length_cons,List.length_nil,Nat.reduceAdd,Nat.reduceSub,Array.replicate_succ,Array.replicate_zero,List.push_toArray,List.append_toArray,List.nil_append,List.cons_append]
 go_wp2_with fail
 refine(wV B x _).mono ?_;rintro r w2 ⟨rfl,rfl⟩;clear t1 t2 tw
 go_wp2_with fail
 refine bF (fun U=>Below W.heap.size W U/\U.heap.size=W.heap.size+1+1+1+1/\U.heap[W.heap.size]?=some (.cells #[.func (.yield yl) #[] #[]] 80)/\U.heap[W.heap.size+1]?=some (.cells #[.int .i64 (-1)] 3)/\U.heap[W.heap.size+1+1]?=some (.cells #[.pointer (some ⟨B,0,none⟩)] 94)/\U.heap[W.heap.size+1+1+1]?=some (.cells #[.int .i64 x] 3))
  ⟨by go_grown,by simp,az _ (az _ (az _ (aq _ _))),az _ (az _ (bz _ _ _)),az _ (eA _ _ _ _),by have h:=aq (((W.alloc (.cells #[.func (.yield yl) #[] #[]] 80)).alloc (.cells #[.int .i64 (-1)] 3)).alloc (.cells #[.pointer (some ⟨B,0,none⟩)] 94)) (.cells #[.int .i64 x] 3);simpa using h⟩ (fun U hU=>?_)
 obtain⟨sU,za,rR,mm,yF,I6⟩:=hU;obtain⟨c1,jI⟩:∃ c1,W.heap.size+1+1=c1:=⟨_,rfl⟩;rw[jI]at yF I6 za ⊢;have hc1':W.heap.size+2=c1:=jI;clear jI
 have HU:am (SlS J S w W yl c1 B x 0 (-1) (fun k=>W.heap.size<=k/\k<U.heap.size) U):=aa
  ⟨HJ.o _ _ _ _ _ LF.o (ChT.of_below (Nat.le_refl _) sU) ⟨fun k h=>h.elim,fun k h=>.inr h⟩,⟨fun k hk=>(sU.block k (X6 k hk)).trans (LH.o.1 k hk),Nat.le_trans LH.o.2 sU.size⟩,sU.size,rR,mm,yF,I6,⟨by omega,by omega,by omega,by omega⟩,fun k h=>h⟩
 have uh:=aa (AL.o U HU.o.ks).1;have dj:=uZ s B c1 (c1+1) x w0 jA.o U (ae eY.o sU) (by rw[ab yF];rfl) (by rw[ab I6];rfl);rw[kO]at dj;have kT:=aa (fun d cur T A A' (hc:Chg U.heap.size A A') (h:SlS J S w W yl c1 B x d cur T A)=>h.chg HJ.o Je (by omega) (by omega) hc);have hUs:=za;clear sU za rR mm yF I6 kO
 refine N9 (gf:=135) (lb:=#[.pointer (some ⟨c1,0,none⟩),.pointer (some ⟨c1+1,0,none⟩)]) rfl (enters_of Tryz.func135 (by kernel_rfl) rfl) dj (Below.refl _ _) (fun k hk=>by rcases hk with hk|rfl|rfl<;>omega) (fun i=>rfl)
  (fun i V=>∃ dl T,gF s mem=dl++mC s mem i/\SlS J S w W yl c1 B x dl.length (if i=0 then -1 else(mem.getD (i - 1) 0:Nat)) T V)
  (fun c i V=>c=.ret/\W.heap.size<=V.heap.size/\∃ T i,i<=(gF s mem).length/\Jx i T V)
  (fun i A A' hc h=>by obtain⟨dl,T,h1,h2⟩:=h;exact⟨dl,T,h1,kT.o _ _ _ _ _ hc h2⟩)
  (fun c i A A' hc h=>by obtain⟨h1,h0,T,i,h2,h3⟩:=h;exact⟨h1,Nat.le_trans h0 hc.size,T,i,h2,Jc.o _ _ _ _ _ h3 (ChT.of_chg hc (by omega) h0) (gG.refl _ _ _)⟩)
  ⟨[],_,rfl,HU.o⟩ ?rnd ?done ?stop
 case done=>
  rintro D V hD ⟨dl,T,h1,h2⟩ hK;rw[HWE.o,List.append_nil]at h1;have FN:=aC hK
  go_wp2_with fail
  refine N5 hK (v:=.tuple #[]) (by simp[results,Tryz.results89,go_sem]) ⟨⟨_,rfl⟩,T,.inl ?_⟩;rw[h1];exact HJ.o _ _ _ _ _ h2.j (ChT.of_chg (Chg.put _ hK (B:=U.heap.size) hD rfl) (by omega) h2.sz) (gG.refl _ _ _)
 case stop=>
  rintro D c i V hD hi ⟨rfl,h0,T,j,h1,h2⟩ hK;have FN:=aC hK
  go_wp2_with fail
  refine iz hK (v:=.tuple #[]) (by simp[results,Tryz.results89,go_sem]) ⟨⟨_,rfl⟩,T,.inr ⟨j,h1,?_⟩⟩;exact Jc.o _ _ _ _ _ h2 (ChT.of_chg (Chg.put _ hK (B:=U.heap.size) hD rfl) (by omega) h0) (gG.refl _ _ _)
 case rnd=>
  rintro yi i V hi hl ⟨dl,T,I8,Jr⟩;unfold wB;obtain⟨e,he⟩:∃ e,mem.getD i 0=e:=⟨_,rfl⟩;have iV:=CJ.o i hi;rw[he]at iV ⊢;have HSL2:=aa Jr;have HWY:=aa I8;have UL:=aa he;clear Jr I8 dj he
  gi_wp2
  refine⟨Bod.refl _ _ _,fun X=>SlS J S w W yl c1 B x dl.length (if i=0 then -1 else(mem.getD (i - 1) 0:Nat)) T X,fun A A' hc h=>kT.o _ _ _ _ _ hc h,HSL2.o,fun X hX jz=>?_⟩;obtain⟨rlp,jz⟩:=jz;have I':=aC jz;clear jz rlp HSL2;have HX:=aa hX;have t3:=ab hX.b3 0;have t4:=ab hX.b4 0;have f4:=aG hX.b4 0;simp only[List.getElem?_toArray,List.getElem?_cons_zero]at t3 t4;clear hX;have NM:¬ (W.heap.size+1<w0.heap.size\/W.heap.size+1=c1\/W.heap.size+1=c1+1):=by omega
  have eV:am (∀ (T:Nat->Prop) (V W':World),T c1/\T (c1+1)->c1+1<V.heap.size->w0.heap.size<=V.heap.size->(V.heap.size<=W'.heap.size/\(∀ k,T k\/S k->k<V.heap.size->W'.heap[k]?=V.heap[k]?)/\(∀ k o,W.heap.size<=k->V.heap[k]?=some o->o.isCells=false->W'.heap[k]?=some o))->Bod U.heap.size (fun k=>k<w0.heap.size\/k=c1\/k=c1+1) V W'):=aa (fun T V W' ht hv h0 h=>⟨h.1,fun k hk=>by
   rcases hk with hk|rfl|rfl
   ·exact h.2.1 k (.inr (HSL.o k hk)) (by omega)
   ·exact h.2.1 _ (.inl ht.1) (by omega)
   ·exact h.2.1 _ (.inl ht.2) hv,fun k o hk ho hc=>h.2.2 k o (by omega) ho hc⟩)
  have iU:=aa (aC HX.o.x2);have h0X:w0.heap.size<=X.heap.size:=by have:=HX.o.sz;omega
  by_cases cY:i=0
  ·subst cY;rw[if_pos rfl]at t4 HX;have HP:=aa (HX.o.put HJ.o X6 ⟨by omega,by omega⟩ e);have t3':=ab HP.o.b3 0;simp only[List.getElem?_toArray,List.getElem?_cons_zero]at t3';have iH:am (gF s mem=dl++⟨e,-1⟩ :: mC s mem 1):=aa (by rw[HWY.o,HWF.o (by omega),UL.o]);obtain⟨fn,tmps,assign,body,oP,hR⟩:=At.o dl ⟨e,-1⟩ _ T (X.setCell ⟨W.heap.size+1,0,none⟩ (.int .i64 e)) iH.o HP.o.j HP.o.sz;have HR:=aa hR;clear hR t3
   gi_wp2
   refine⟨rfl,wQ (HR.o.mono ?_)⟩;rintro r W3 ⟨pf,(⟨rfl,FW,AC⟩|⟨rfl,i9,QM,Tn⟩)⟩
   ·have As:=And.intro pf.1 (And.intro FW pf.2);have dX:=aa ((Bod.setCell (B:=U.heap.size) X ⟨W.heap.size+1,0,none⟩ (.int .i64 e) NM).trans (eV.o T _ W3 HP.o.t.2.2 (by have:=iU.o;simp;omega) (by simp;omega) As));have WD:=aa (HP.o.next Je As.1 As.2.1 AC);clear As pf FW AC HR oP t3' t4 f4 NM
    gi_wp2
    refine⟨dX.o,dl++[⟨e,-1⟩],T,by rw[iH.o,List.append_cons],?_⟩;rw[if_neg (by omega),Nat.zero_add,Nat.sub_self,UL.o];exact WD.o
   ·have dX:=aa ((Bod.setCell (B:=U.heap.size) (S:=fun _=>False) X ⟨W.heap.size+1,0,none⟩ (.int .i64 e) (fun h=>h)).out.trans ⟨pf.1,fun k o hk ho hc=>pf.2 k o (by omega) ho hc⟩);have Dp:W.heap.size<=W3.heap.size:=Nat.le_trans HP.o.sz pf.1;clear pf HR oP t3' t4 f4 NM At
    gi_wp2
    exact⟨dX.o,rfl,Dp,T,i9,QM,Tn⟩
  ·rw[if_neg cY]at t4 HX;obtain⟨a,ha⟩:∃ a,mem.getD (i - 1) 0=a:=⟨_,rfl⟩;have has:=CJ.o (i - 1) (by omega);have Ul:=HNR.o (i - 1) i (by omega) hi;have gr:=aa (HWN.o i (by omega) hi);rw[ha,UL.o]at Ul gr;rw[ha]at has t4 HX;obtain⟨path,GN⟩:∃ path,kn s a e=path:=⟨_,rfl⟩;rw[GN]at gr;have hlta:decide ((a:Int)<0)=false:=decide_eq_false (by omega);have hscX:=ScAt.kp jA.o (AL.o X HX.o.ks).1;obtain⟨vc,vs,vt,ve,vv,vl,q1,q2,_,_⟩:=hscX.ex;obtain⟨⟨qc,kc,rfl⟩,⟨qs,ks,rfl⟩,⟨qt,kt,rfl⟩,⟨qe,ke,rfl⟩⟩:=bM q2;have TE:=aa (fun V (hb:Below X.heap.size X V)=>PH s hv hE _ _ _ _ a e has iV Ul V (q2.up hb) hN);rw[GN]at TE;have hplen:path.length<256:=by rw[<-GN];have:=(KN has iV Ul).2.2;omega
   generalize s.prob.t.cases.length=nc,s.prob.a.states.length=ns,s.tab.length=nt,s.ex.length=ne at q1 TE;have Ge:=aa q1;have TB:=aa (AL.o X HX.o.ks).2.1;have kH:=aa HX.o.b4;obtain⟨b4,bR⟩:∃ b4,W.heap.size+1=b4:=⟨_,rfl⟩;rw[bR]at t4 f4 kH ⊢;clear hscX q1 q2 GN Ul ha f4 t3 NM
   gi_wp2
   have hS:List.Nodup [24,25,26,27,28,29,30,23,31,32,33,6,7,8]:=by decide
   refine zJ 14 [24,25,26,27,28,29,30,23,31,32,33,6,7,8] [MP.eq (.pointer (some ⟨B,0,none⟩)),MP.eq (.pointer (some ⟨B,0,none⟩)),MP.eq (.pointer (some ⟨B,0,none⟩)),MP.eq (.agg #[.int .i64 s.prob.t.n,.int .i64 s.prob.t.ins,.int .i64 s.prob.t.outs,.slice qc nc kc,.int .i64 s.prob.a.n,.slice qs ns ks,.int .i64 s.prob.rounds,.int .i64 s.n,.slice qt nt kt,.slice qe ne ke]),MP.eq (.int .i64 a),MP.eq (.int .i64 e),Tv X.heap.size (⟨a,-1⟩ :: path),Tv X.heap.size (⟨a,-1⟩ :: path),We X.heap.size (⟨a,-1⟩ :: path),MP.eq (.bool true),MP.eq (.int .i64 0),We X.heap.size (⟨a,-1⟩ :: path),MP.eq (.bool true),MP.eq (.int .i64 0)] (by kernel_rfl) rfl hS rfl (by kernel_rfl) (fun ⟨_,_,h⟩=>h) (by kernel_rfl) ?step ?tail
   case step=>
    intro xq Wq iq oq sq F hi ho hs hB ar hF;rcases (show iq=0\/iq=1\/iq=2\/iq=3\/iq=4\/iq=5\/iq=6\/iq=7\/iq=8\/iq=9\/iq=10\/iq=11\/iq=12\/iq=13 by omega) with rfl|rfl|rfl|rfl|rfl|rfl|rfl|rfl|rfl|rfl|rfl|rfl|rfl|rfl
    all_goals (obtain rfl:=dp ho.symm;obtain rfl:=dp hs.symm;clear hi ho hs)
    ·obtain⟨g1,h1⟩:=cW hF 1 (.pointer (some ⟨bx,0,none⟩)) (by decide) rfl;have tb:=ak hB TB.o;clear hF ar
     go_wp2_with fail
     exact bB.mk _ (Below.refl _ _) rfl rfl
    ·obtain⟨e0,f0⟩:=aT hF 0 24 _ hS rfl (by kernel_rfl) (ar ⟨0,.data⟩ (by simp) rfl);clear hF ar
     go_wp2_with fail
     exact bB.mk _ (Below.refl _ _) rfl rfl
    ·obtain⟨e1,f1⟩:=aT hF 1 25 _ hS rfl (by kernel_rfl) (ar ⟨1,.data⟩ (by simp) rfl);clear hF ar
     go_wp2_with fail
     exact bB.mk _ (Below.refl _ _) rfl rfl
    ·obtain⟨e2,f2⟩:=aT hF 2 26 _ hS rfl (by kernel_rfl) (ar ⟨2,.data⟩ (by simp) rfl);have tb:=ab (af hB Ge.o);clear hF ar
     go_wp2_with fail
     exact bB.mk _ (Below.refl _ _) rfl rfl
    ·obtain⟨g4,h4⟩:=cW hF 4 (.pointer (some ⟨b4,0,none⟩)) (by decide) rfl;have tb:=ab (af hB kH.o) 0;simp only[List.getElem?_toArray,List.getElem?_cons_zero]at tb;clear hF ar
     go_wp2_with fail
     exact bB.mk _ (Below.refl _ _) rfl rfl
    ·obtain⟨g5,h5⟩:=cW hF 5 (.int .i64 e) (by decide) rfl;clear hF ar
     go_wp2_with fail
     exact bB.mk _ (Below.refl _ _) rfl rfl
    ·obtain⟨e3,f3⟩:=aT hF 3 27 _ hS rfl (by kernel_rfl) (ar ⟨3,.data⟩ (by simp) rfl);obtain⟨e4,f4⟩:=aT hF 4 28 _ hS rfl (by kernel_rfl) (ar ⟨4,.data⟩ (by simp) rfl);obtain⟨e5,f5⟩:=aT hF 5 29 _ hS rfl (by kernel_rfl) (ar ⟨5,.data⟩ (by simp) rfl);clear hF ar
     go_wp2_with fail
     refine(TE.o Wq hB).mono ?_;rintro r w9 ⟨u9,rfl,⟨hl9,jB⟩,eC⟩;have UD:=aa hl9;have nC:=aa (fun k hk=>Nat.le_trans hB.size (jB k hk));clear hl9 jB
     go_wp2_with fail
     exact bB.mk _ eC ⟨_,rfl,UD.o,nC.o⟩ rfl
    ·have d6:=ar ⟨6,.data⟩ (by simp) rfl;obtain⟨u6,eu6,QR,Qn⟩:=d6;obtain⟨e6,f6⟩:=aT hF 6 30 _ hS rfl (by kernel_rfl) eu6;clear hF ar
     go_wp2_with fail
     exact bB.mk _ (Below.refl _ _) ⟨_,rfl,QR,Qn⟩ rfl
    ·have d7:=ar ⟨7,.data⟩ (by simp) rfl;obtain⟨u6,eu6,QR,Qn⟩:=d7;obtain⟨e7,f7⟩:=aT hF 7 23 _ hS rfl (by kernel_rfl) eu6;clear hF ar
     go_wp2_with fail
     exact bB.mk _ (Below.refl _ _) ⟨QR,Qn⟩ rfl
    ·have d7:=ar ⟨7,.data⟩ (by simp) rfl;obtain⟨u6,eu6,QR,Qn⟩:=d7;obtain⟨e7,f7⟩:=aT hF 7 23 _ hS rfl (by kernel_rfl) eu6;clear hF ar
     go_wp2_with fail
     exact bB.mk _ (Below.refl _ _) rfl rfl
    ·have d7:=ar ⟨7,.data⟩ (by simp) rfl;obtain⟨u6,eu6,QR,Qn⟩:=d7;obtain⟨e7,f7⟩:=aT hF 7 23 _ hS rfl (by kernel_rfl) eu6;clear hF ar
     go_wp2_with fail
     exact bB.mk _ (Below.refl _ _) rfl rfl
    ·have d8:=ar ⟨8,.data⟩ (by simp) rfl;obtain⟨e8,f8⟩:=aT hF 8 31 _ hS rfl (by kernel_rfl) rfl;clear hF ar
     go_wp2_with fail
     exact bB.mk _ (Below.refl _ _) d8 rfl
    ·obtain⟨e9,f9⟩:=aT hF 9 32 _ hS rfl (by kernel_rfl) (ar ⟨9,.data⟩ (by simp) rfl);clear hF ar
     go_wp2_with fail
     exact bB.mk _ (Below.refl _ _) rfl rfl
    ·obtain⟨e10,f10⟩:=aT hF 10 33 _ hS rfl (by kernel_rfl) (ar ⟨10,.data⟩ (by simp) rfl);clear hF ar
     go_wp2_with fail
     exact bB.mk _ (Below.refl _ _) rfl rfl
   case tail=>
    clear hS;intro xq Wq F hB aS hF;have d11:bJ Wq (xq 11) (⟨a,-1⟩ :: path)/\∀ k,(xq 11).ownBlock=some k->X.heap.size<=k:=aS 11 (by omega);have d12:xq 12=.bool true:=aS 12 (by omega);have d13:xq 13=.int .i64 0:=aS 13 (by omega);clear aS;obtain⟨nE,bg⟩:=d11;obtain⟨pu,cu,eu,lu1,lu2,el⟩:=nE.at;obtain⟨g,o,rfl,tk⟩:=el 0 (by simp);rw[eu]at nE bg;simp only[bD,cX,List.setIfInBounds_toArray,List.set_cons_succ,List.set_cons_zero,Nat.reduceAdd]at hF;rw[eu,d12,d13]at hF;generalize xq 0=s0,xq 1=s1,xq 2=s2,xq 3=s3,xq 4=s4,xq 5=s5,xq 6=s6,xq 7=s7,xq 8=s8,xq 9=s9,xq 10=s10 at hF;subst hF;have hgX:=bg g rfl;have hgW:g<Wq.heap.size:=fo tk.1.1;have Gh:(⟨a,-1⟩ :: path:List Lk).length=path.length+1:=by simp
    rw[Gh]at nE lu1 lu2 ⊢;have ig:=aa nE
    have SP:am (gG X Wq T (fun k=>T k\/k=g)):=aa ⟨fun k hk=>.inl hk,fun k hk=>by
     rcases hk with hk|rfl
     ·exact .inl hk
     ·exact .inr ⟨hgX,hgW⟩⟩
    have HQ:=aa (HX.o.grow HJ.o Je hB SP.o);have fg:am (Bod U.heap.size (fun k=>k<w0.heap.size\/k=c1\/k=c1+1) X Wq):=aa (Bod.of_below (fun k hk=>by have:=iU.o;rcases hk with hk|rfl|rfl<;>omega) hB);clear nE bg d12 d13 eu el tk hB Gh;have hmin:min (1:Int) ((path.length:Int)+1)=1:=by omega
    subst bR;have rQ:cu=1->path.length=0:=fun h=>by omega
    have HJ2:=aa HQ.o.j;generalize hgT:(fun k=>T k\/k=g)=T2 at HQ HJ2 SP;have X5:am (T2 g):=aa (by rw[<-hgT];exact .inr rfl);clear hgT SP HJ2 t4 TB Ge kH HX TE
    have HELT:am (∀ k (hk:k<path.length),Wq.cell? ⟨g,o+2+k * 2,none⟩=some (.int .i64 (path[k]).x)/\Wq.cell? ⟨g,o+2+k * 2+1,none⟩=some (.int .i64 (path[k]).p)):=aa (fun k hk=>by
     obtain⟨pl9,cl9,e9,_,_,el9⟩:=ig.o.at;injection e9 with e9
     obtain⟨b9,o9,e8,h8⟩:=el9 (k+1) (by simp;omega);rw[<-e9]at e8;injection e8 with e8
     injection e8 with e7 e6
     subst e7 e6;rw[show o+(k+1) * 2=o+2+k * 2 by omega]at h8
     exact⟨h8.1.1,h8.2.1⟩)
    obtain⟨m,hm⟩:∃ m,path.length=m:=⟨_,rfl⟩;have HM:=aa hm;rw[hm]at hmin rQ lu1 hplen ⊢;clear hm ig
    gi_wp2
    case' inl=>have hcu0:m=0:=by omega
    case' inr=>have hcu0:True:=trivial
    all_goals
     gi_loopw [40] (fun k wr=>∃ (k':Nat) (d:List Lk),k'<=m/\k=.int .i64 k'/\gF s mem=d++(path.drop k'++mC s mem (i+1))/\SlS J S w W yl c1 B x d.length a T2 wr/\Bod U.heap.size (fun k=>k<w0.heap.size\/k=c1\/k=c1+1) X wr/\wr.heap[g]?=Wq.heap[g]?) (fun k _=>m - (intOf k).toNat)
     ·exact⟨0,dl,by omega,rfl,by rw[HWY.o,gr.o];rfl,HQ.o,fg.o,rfl⟩
     ·
      obtain⟨k,d,hk,rfl,hd,hq,ni,TK⟩:=hrel;have HD:=aa hd;have wZ:=aa hq;have aU:=aa ni;have AS:=aa TK;clear hd hq ni TK;by_cases aD:k<m
      ·first
        | (exfalso;omega)
        | (
      have FW:k<path.length:=by rw[HM.o];exact aD
      have c0:=HELT.o k FW;have eK:∀ o',wr.cell? ⟨g,o',none⟩=Wq.cell? ⟨g,o',none⟩:=fun o'=>by unfold World.cell?;rw[AS.o]
      rw[<-eK,<-eK]at c0;have yY:am (gF s mem=d++path[k] :: (path.drop (k+1)++mC s mem (i+1))):=aa (by rw[HD.o,List.drop_eq_getElem_cons FW];rfl);generalize path[k]=y at c0 yY;obtain⟨yx,yp⟩:=y;obtain⟨cx,cp⟩:=c0;dsimp only at cx cp;have AB:Below wr.heap.size wr (wr.alloc (.cells #[.int .i64 yx,.int .i64 yp] 75)):=by go_grown
      have rL:=aa (wZ.o.grow HJ.o Je AB (gG.refl _ _ _));have t3':∀ o',(wr.alloc o').cell? ⟨W.heap.size,0,none⟩=some (.func (.yield yl) #[] #[]):=fun o'=>(ab (az o' wZ.o.b3) 0).trans rfl
      obtain⟨fn,tmps,assign,body,oP,hR⟩:=At.o d ⟨yx,yp⟩ _ T2 (wr.alloc (.cells #[.int .i64 yx,.int .i64 yp] 75)) yY.o rL.o.j rL.o.sz;have HR:=aa hR;have tp:am (Bod U.heap.size (fun k=>k<w0.heap.size\/k=c1\/k=c1+1) X (wr.alloc (.cells #[.int .i64 yx,.int .i64 yp] 75))):=aa (aU.o.trans (Bod.of_below (fun k hk=>by have:=aC wZ.o.x2;have:=wZ.o.sz;rcases hk with hk|rfl|rfl<;>omega) AB));have HGA:am ((wr.alloc (.cells #[.int .i64 yx,.int .i64 yp] 75)).heap[g]?=Wq.heap[g]?):=aa ((AB.block g (wZ.o.tb g X5.o).2).trans AS.o);clear hR eK AB
      gi_wp2
      refine⟨rfl,wQ (HR.o.mono ?_)⟩;rintro r W9 ⟨pf,(⟨rfl,FW,P0⟩|⟨rfl,i9,QM,Tn⟩)⟩
      ·have As:=And.intro pf.1 (And.intro FW pf.2);have ff:=aa (tp.o.trans (eV.o T2 _ W9 rL.o.t.2.2 (aC rL.o.x2) (by have:=rL.o.sz;omega) As));have HP9:=aa (rL.o.next Je As.1 As.2.1 P0);have IW:=aa ((As.2.1 g (.inl X5.o) (rL.o.tb g X5.o).2).trans HGA.o);clear As pf FW P0 HR oP t3' cx cp
       gi_wp2
       go_roundw
       ·exact⟨k+1,d++[⟨yx,yp⟩],by omega,by go_num,by rw[yY.o,List.append_cons],HP9.o,ff.o,IW.o⟩
       ·simp[intOf];omega
      ·have ff:=aa (tp.o.out.trans ⟨pf.1,fun k o hk ho hc=>pf.2 k o (by omega) ho hc⟩);have QP:W.heap.size<=W9.heap.size:=Nat.le_trans rL.o.sz pf.1;clear pf HR oP t3' cx cp At
       gi_wp2
       exact⟨ff.o,rfl,QP,T2,i9,QM,Tn⟩)
      ·obtain rfl:k=m:=by omega
       have HDE:am (gF s mem=d++mC s mem (i+1)):=aa (by rw[HD.o,<-HM.o,List.drop_length];rfl);have HPE:=aa (wZ.o.put HJ.o X6 ⟨by omega,by omega⟩ e);have Qy:=aa (aU.o.trans (Bod.setCell (B:=U.heap.size) (S:=fun k=>k<w0.heap.size\/k=c1\/k=c1+1) wr ⟨W.heap.size+1,0,none⟩ (.int .i64 e) (by dsimp only;omega)));have t4':=ab wZ.o.b4 0;have f4':=aG wZ.o.b4 0;simp only[List.getElem?_toArray,List.getElem?_cons_zero]at t4'
       gi_wp2
       refine⟨Qy.o,d,T2,HDE.o,?_⟩;rw[if_neg (by omega),Nat.add_sub_cancel,UL.o];exact HPE.o
end Go.Proofs.YtmeaoneaephjeaaGreatDoor
