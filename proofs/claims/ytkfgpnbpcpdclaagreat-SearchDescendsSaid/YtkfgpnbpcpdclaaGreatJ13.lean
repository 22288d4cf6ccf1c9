/-
  A part of the proof: lemmas and contracts that the parts behind it use. Each one's conditions are its own premises.
-/
import Derived.Test.YtkfgpnbpcpdclaaGreatJ12
set_option maxRecDepth 100000
set_option maxHeartbeats 8000000
set_option linter.unusedVariables false
namespace Go.Proofs.YtkfgpnbpcpdclaaGreat
open Go.RowKit Go Go.Shelf
def Ul(base:Nat) (l:List Rd):MP:=⟨fun x W=>aL W base 52 7 x l.length (bi l),fun _ _ _ h hb=>h.up hb⟩
def OH(base:Nat) (y:Py):MP:=⟨fun x W=>∃ a b,x=.agg #[a,b]/\aL W base 3 1 a y.inp.length (y.inp.map (Value.int .i64))/\aL W base 52 7 b y.word.length (bi y.word),fun _ _ _ h hb=>by obtain⟨a,b,h1,h2,h3⟩:=h;exact⟨a,b,h1,h2.up hb,h3.up hb⟩⟩
theorem OI{base:Nat} {y:Py} {W:World} {a b:Value} (h2:aL W base 3 1 a y.inp.length (y.inp.map (Value.int .i64))) (h3:aL W base 52 7 b y.word.length (bi y.word)):(OH base y).p (.agg #[a,b]) W:=⟨a,b,rfl,h2,h3⟩
theorem Fd(tmps:Array Value) (B:Nat) (W:World) (c0 c1:Value) (e:Int) (h6:tmps[6]?.getD undef=.pointer (some ⟨B,0,none⟩)) (h7:tmps[7]?.getD undef=.int .i64 e) (hR:W.heap[B]?=some (.cells #[c0,c1] 39)) :
  (results Tryz.f6 tmps).run Tryz.prog W=.ok (.tuple #[.agg #[c0,c1],.int .i64 e]) W:=by
 have t1:=ae hR;simp[results,Tryz.results6,go_sem,h6,h7,t1]
theorem vg(p:Pb) (vc vs:Value) (m:Mac) (vf vy vt vo vi vw:Value) (y:Py) (w:World) (hc:bJ w vc p.t.cases) (hs:bn w vs p.a.states) (hN:movesN p.a.states<1099511627776) (hf:bF w vf m.first) (hy:eZ w vy m.syms) (ht:dh w vt m.steps) (ho:fj w vo m.out) (hi:aU w vi y.inp) (hw:bN w vw y.word) :
  Calls Tryz.prog 6 #[jI p vc vs,.agg (bX m vf vy vt vo),.agg #[vi,vw]] w fun e w'=>∃ u1 u2,e=.returned (.tuple #[.agg #[u1,u2],.int .i64 (dj p m y).2])/\aU w' u1 (dj p m y).1.inp/\bN w' u2 (dj p m y).1.word/\Below w.heap.size w w':=by
 have HC:=aa hc;have HS:=aa hs;have HF:=aa hf;have HY:=aa hy;have HT:=aa ht;have HO:=aa ho;have HI:=aa hi;have HW:=aa hw;have HV:Hid (dj p m y=if beginE p m y≠0 then(⟨[],[]⟩,beginE p m y) else(dO p m y,0)):=aa rfl;obtain⟨pc,cc,rfl,_⟩:=hc.at;obtain⟨ps,cs,rfl,_⟩:=hs.at;obtain⟨pf,cf,rfl,_⟩:=hf.at;obtain⟨py,cy,rfl,_⟩:=hy.at;obtain⟨pt,ct,rfl,_⟩:=ht.at;obtain⟨po,co,rfl,_⟩:=ho.at;obtain⟨pi,ci,rfl,_⟩:=hi.at;obtain⟨pw,cw,rfl,_⟩:=hw.at;clear hc hs hf hy ht ho hi hw
 go_enter Tryz.func6,Tryz.ntmps6
 go_wp2_with fail
 refine aT (fun W=>Below w.heap.size w W/\W.heap[w.heap.size]?=some (.cells #[.int .i64 p.t.n,.int .i64 p.t.ins,.int .i64 p.t.outs,.slice pc p.t.cases.length cc,.int .i64 p.a.n,.slice ps p.a.states.length cs,.int .i64 p.rounds] 29)/\W.heap[w.heap.size+1+1]?=some (.cells #[.slice pi y.inp.length ci,.slice pw y.word.length cw] 39)/\W.heap[w.heap.size+1+1+1]?=some (.cells #[.slice none 0 0,.slice none 0 0] 39)) ⟨by go_grown,aq _ (aq _ (aq _ (ar _ _))),aq _ (cV _ _ _ _),lY _ _ _ _ _⟩ (fun W0 bd=>?_);obtain⟨aH,bD,it,iq⟩:=bd;refine(Fc p _ _ m _ _ _ _ _ _ y W0 (HC.out.up up_case aH) (HS.out.up up_moves aH) hN (HF.out.up up_ints aH) (HY.out.up up_v3 aH) (HT.out.up up_step aH) (HO.out.up up_vecs aH) (HI.out.up up_int aH) (HW.out.up up_round aH)).mono ?_;rintro e w1 ⟨fv,rfl,h1,h2,aG⟩;have fB:=aa (aj aH aG);have fd:=aa (ak aG bD);have gk:=aa (ak aG it);have jx:=aa (ak aG iq);have dp:=aB iq;have du:=aG.size;clear bD it iq;by_cases im:beginE p m y=0
 case neg=>
  obtain rfl:=h1 im;have HR:Hid (dj p m y=(⟨[],[]⟩,beginE p m y)):=aa (by rw[HV.out,if_pos im]);have Rr:(beginE p m y != 0)=true:=by simpa using im
  have tR:=ae jx.out;have zR:=fun o=>aD jx.out o
  generalize beginE p m y=be at HR Rr;clear h1 h2 im HV
  go_wp2_with fail
  obtain⟨p1,p2,p3,p4⟩:=Q9 jx.out rfl (.slice none 0 0) (.slice none 0 0) _ rfl;refine bodyPost_ret (P:=Tryz.prog) (fn:=Tryz.f6) (Fd _ (w.heap.size+1+1+1) _ (.slice none 0 0) (.slice none 0 0) be ?_ ?_ p1) ?_ ?_
  ·rfl
  ·rfl
  ·rfl
  rw[HR.out];exact⟨_,_,rfl,⟨none,0,rfl,⟨by simp,by omega,fun _=>rfl⟩,by simp,fun i x hx=>by simp at hx⟩,⟨none,0,rfl,⟨by simp,by omega,fun _=>rfl⟩,by simp,fun i x hx=>by simp at hx⟩,p4 _ _ (by omega) fB.out⟩
 obtain⟨mb,Bm,Bp,Bq,rfl,FA,dJ⟩:=h2 im;have HR:Hid (dj p m y=(dO p m y,0)):=aa (by rw[HV.out,if_neg (by simpa using im)]);obtain⟨g1,g2,g3⟩:=mD im
 have jB:Hid (probE p=0):=aa (by
  have h:=g1;unfold fx at h;split at h
  ·rename_i q;exact absurd h q
  ·rename_i q;simpa using q)
 have nC:=aa g2;have qH:=aa dJ;have dI:=(pW jB.out nC.out).1;have qO:=(nZ jB.out nC.out).1;rw[im];clear h1 h2 im HV g1 g2 g3 dJ
 go_wp2_with fail
 refine ip 7 [23,24,25,26,27,28,29] [MP.eq (.pointer (some ⟨w.heap.size+1+1,0,none⟩)),
  MP.eq (.slice pi y.inp.length ci),
  N6 w.heap.size y.inp,
  MP.eq (.pointer (some ⟨w.heap.size+1+1,1,none⟩)),
  MP.eq (.slice pw y.word.length cw),
  Ul w.heap.size y.word,
  OH w.heap.size y] (by kernel_rfl) (by simp) (by decide) rfl (by kernel_rfl) (by kernel_rfl) (by kernel_rfl) ?step ?tail
 case step=>
  intro x W i o s F hi ho hs hB al hF;have bY:i=0\/i=1\/i=2\/i=3\/i=4\/i=5\/i=6:=by omega
  rcases bY with rfl|rfl|rfl|rfl|rfl|rfl|rfl
  all_goals (obtain rfl:=cO ho.symm;obtain rfl:=cO hs.symm;simp only[bg,bQ,List.setIfInBounds_toArray,List.set_cons_succ,List.set_cons_zero,Nat.reduceAdd]at hF)
  ·clear al hi ho hs
   subst hF
   go_wp2_with fail
   exact bG _ (Below.refl _ _) rfl
  ·have d0:=bz (al ⟨0,.data⟩ (by simp) rfl)
   clear al hi ho hs;have t1:=ae (ak hB gk.out) 0;simp at t1;simp only[d0]at hF;subst hF
   go_wp2_with fail
   exact bG _ (Below.refl _ _) rfl
  ·have d1:=bz (al ⟨1,.data⟩ (by simp) rfl)
   clear al hi ho hs;simp only[d1]at hF;subst hF
   go_wp2_with fail
   refine(iL _ y.inp W (HI.out.up up_int (aj fB.out hB)) (by omega)).mono ?_;rintro e w9 ⟨u9,rfl,ku,eA⟩;have iU:=aa (ku.base (show w.heap.size<=W.heap.size by have:=hB.size;have:=fB.out.size;omega));clear ku
   go_wp2_with fail
   exact bG _ eA iU.out
  ·clear al hi ho hs
   subst hF
   go_wp2_with fail
   exact bG _ (Below.refl _ _) rfl
  ·have d3:=bz (al ⟨3,.data⟩ (by simp) rfl)
   clear al hi ho hs;have t1:=ae (ak hB gk.out) 1;simp at t1;simp only[d3]at hF;subst hF
   go_wp2_with fail
   exact bG _ (Below.refl _ _) rfl
  ·have d4:=bz (al ⟨4,.data⟩ (by simp) rfl)
   clear al hi ho hs;simp only[d4]at hF;subst hF
   go_wp2_with fail
   refine(iN _ y.word W (HW.out.up up_round (aj fB.out hB)) (by omega)).mono ?_;rintro e w9 ⟨u9,rfl,ku,eA⟩;have iU:=aa (ku.base (show w.heap.size<=W.heap.size by have:=hB.size;have:=fB.out.size;omega));clear ku
   go_wp2_with fail
   exact bG _ eA iU.out
  ·have d2:=al ⟨2,.data⟩ (by simp) rfl
   have d5:=al ⟨5,.data⟩ (by simp) rfl;clear al hi ho hs;obtain⟨a2,c2,e2⟩:=aL.slice d2;obtain⟨a5,c5,e5⟩:=aL.slice d5;rw[e2]at d2;rw[e5]at d5;have Co:=aa (show aL W w.heap.size 3 1 (.slice a2 y.inp.length c2) y.inp.length (y.inp.map (Value.int .i64)) from d2);have HD5:=aa (show aL W w.heap.size 52 7 (.slice a5 y.word.length c5) y.word.length (bi y.word) from d5);clear d2 d5;simp only[e2,e5]at hF;subst hF
   go_wp2_with fail
   refine aY.mk (.agg #[.slice a2 y.inp.length c2,.slice a5 y.word.length c5]) ?_ ?_ ?_
   ·exact(Below.refl _ _)
   ·exact OI Co.out HD5.out
   ·first
    | rfl
    | simp only[List.setIfInBounds_toArray,List.set_cons_succ,List.set_cons_zero]
 case tail=>
  intro x W3 F hB aM hF;have d6:=aM 6 (by omega);obtain⟨ya,yb,e6,h2,h3⟩:∃ a b,x 6=.agg #[a,b]/\aL W3 w.heap.size 3 1 a y.inp.length (y.inp.map (Value.int .i64))/\aL W3 w.heap.size 52 7 b y.word.length (bi y.word):=d6;clear aM;simp only[bg,bQ,List.setIfInBounds_toArray,List.set_cons_succ,List.set_cons_zero,Nat.reduceAdd]at hF;obtain⟨y1,z1,rfl⟩:=h2.slice;obtain⟨y2,z2,rfl⟩:=h3.slice;rw[e6]at hF;generalize x 0=s0,x 1=s1,x 2=s2,x 3=s3,x 4=s4,x 5=s5 at hF;subst hF;have wg:=ak hB gk.out;have qh:=aa wg;have tX:=ae wg;have zX:=fun o=>aD wg o
  have jL:=aa hB;have mj:=aa (lA h2 (na HI.out) (by omega));have Fh:=aa (lw h3 (G' HW.out) (by omega));clear e6 h2 h3 wg hB;simp only[List.drop_succ_cons,List.drop_zero];have HBS3:=aa (qH.out.up jL.out);have CU:=aa (ShI.put (y:=y) (z:=y) (aj fB.out jL.out) (ak jL.out fd.out) (ak jL.out jx.out) qh.out (mT _ _ _ _ _ _) mj.out Fh.out nC.out rfl HBS3.out)
  go_wp2_with fail
  generalize bd:World.setCell (World.setCell W3 ⟨w.heap.size+1+1,0,none⟩ (.slice y1 y.inp.length z1)) ⟨w.heap.size+1+1,1,none⟩ (.slice y2 y.word.length z2)=W0' at *;clear bd
  go_loopw [10] (fun _ wr=>∃ z,Hid (ShI p m mb Bm Bp Bq (.slice pc p.t.cases.length cc) (.slice ps p.a.states.length cs) (.slice pf m.first.length cf) (.slice py m.syms.length cy) (.slice pt m.steps.length ct) (.slice po m.out.length co) w y z wr)) (fun _ W=>Sp (w.heap.size+1+1) W)
  case atStart=>exact⟨y,CU⟩
  case round=>
   obtain⟨z,wj⟩:=hrel;obtain⟨B0,A0,R0,RD,re,sh,bs⟩:=wj.out;obtain⟨p1,n1,p2,n2,X0,zi,zw⟩:=RD;have Sr:=aa re;have HSH:=aa sh;have UD:=aa bs;have jC:=aa B0;have HA:=aa A0;have Cr:=aa R0;have Tj:=aa X0;have HMS:Hid (Sp (w.heap.size+1+1) wr=iB z):=aa (OG wj.out.read);have xJ:=aa (qA p jB.out z re _ _ _ _ wr (HC.out.up up_case B0) (HS.out.up up_moves B0) zi zw);have tA:=ae A0;have tX:=ae X0;have zi':=aa zi;have zw':=aa zw;clear wj B0 A0 R0 X0 re sh bs zi zw
   go_wp2_with fail
   refine xJ.out.mono ?_;rintro e w4 ⟨u,rfl,hu,bM⟩;have sB:=aa (aj jC.out bM);obtain⟨au,cu,e1,_,cZ,_⟩:=hu.at;have PQ:=aa (Ch p jB.out m mb Bm Bp Bq (nearS p z) (fun q hq=>(iD jB.out Sr.out hq).1) u w4 hu ((UD.out.up bM).bf (HC.out.up up_case sB.out) (HS.out.up up_moves sB.out) (HF.out.up up_ints sB.out) (HY.out.up up_v3 sB.out) (HT.out.up up_step sB.out) (HO.out.up up_vecs sB.out)) (by omega));have HU:=aa hu;have RK:=aa (UD.out.up bM);have Pg:=aa bM;subst e1;clear tA tX xJ hu bM UD
   go_wp2_with fail
   refine PQ.out.mono ?_;rintro e w5 ⟨rfl,dy,U7⟩;have HBZ5:=aa (RK.out.next dy U7);have xy:Hid (Below w.heap.size w w5):=aa (dy.below sB.out (by omega) (Nat.le_refl _));obtain⟨es,c,hm⟩:=U7.map
   have fM:CK w4 w5:=by
    obtain⟨f,⟨es,c,hm,_⟩,_⟩:=RK.out.known;exact dy.ck hm
   have Fw:=aa (fM _ _ (ak Pg.out HA.out) rfl);have qR:=aa (fM _ _ (ak Pg.out Cr.out) rfl);have P0:=aa (fM _ _ (ak Pg.out Tj.out) rfl);have HZI:=aa ((zi'.out.up up_int Pg.out).ck up_int fM);have HZW:=aa ((zw'.out.up up_round Pg.out).ck up_round fM);obtain⟨_,_,e1,_,_,E⟩:=HU.out.at;have HE:=aa E;cases e1;have tX5:=ae P0.out;have zX5:=fun o=>aD P0.out o
   have tR5:=ae qR.out;have zR5:=fun o=>aD qR.out o
   clear dy U7 hm E PQ zi' zw' RK HA Cr Tj sB jC;rcases TW p m z with ⟨oM,mH⟩|⟨k,hk,oM,mH⟩
   ·rw[oM]
    have iJ:=aa mH;clear oM mH fM HE HU
    go_wp2_with fail
    have kX:=aa (mB m jB.out Sr.out);obtain⟨q1,q2,q3,q4⟩:=ShI.out xy.out qR.out HZI.out HZW.out _ rfl;refine bodyPost_ret (P:=Tryz.prog) (fn:=Tryz.f6) (Fd _ (w.heap.size+1+1+1) _ _ _ 0 ?_ ?_ q1) ?_ ?_
    ·rfl
    ·rfl
    ·rfl
    have hz:(dO p m y,(0:Int))=(z,0):=by
     rw[<-HSH.out,kX.out,iJ.out]
    rw[HR.out,hz];exact⟨_,_,rfl,q2,q3,q4⟩
   ·rw[oM]
    have iJ:=aa mH;have Wj:=aa (iD jB.out Sr.out (List.getElem_mem hk));obtain⟨b,o,rfl,⟨vi,c0,fZ⟩,⟨vw,c1,zN⟩⟩:=HE.out k hk;have d0:=fM.cell c0;have d1:=fM.cell c1;have Ps:=fZ.ck up_int fM;have CT:=zN.ck up_round fM
    have kX:Hid (dO p m (nearS p z)[k]=dO p m y):=aa (by
     rw[<-HSH.out,mB m jB.out Sr.out,iJ.out])
    generalize (nearS p z)[k]=q at kX Wj fZ zN Ps CT iJ;obtain⟨qi,ni,rfl,_⟩:=Ps.at;obtain⟨qw,nw,rfl,_⟩:=CT.at;have HI5:=aa Ps;have HW5:=aa CT;clear oM mH fM HE HU c0 c1 fZ zN Ps CT
    go_wp2_with fail
    have HSI2:=aa (ShI.put (y:=y) (z:=q) xy.out Fw.out qR.out P0.out (mT _ _ _ _ _ _) HI5.out HW5.out Wj.out.1 kX.out HBZ5.out)
    go_roundw
    case rel=>exact⟨q,HSI2⟩
    case measure=>rw[HMS.out,OG HSI2.out.read];exact Wj.out.2
end Go.Proofs.YtkfgpnbpcpdclaaGreat
namespace Go.Proofs.YtkfgpnbpcpdclaaGreat
open Go.RowKit Go Go.Shelf
attribute [local go_sem] Oper.semAt_some
theorem Mb{w X:World} {B:Nat} {k0 e0:Value} (hb:Below w.heap.size w X) (hl:w.heap.size<=B) (hR:X.heap[B]?=some (.cells zeroTr 65)) (hK:X.heap[B+1]?=some (.cells #[k0] 3)) (hE:X.heap[B+1+1]?=some (.cells #[e0] 42))
  (c0 c1 c2 c3 c4 c5 kv ev:Value):∀ Y,Y=(((((((X.setCell ⟨B,0,none⟩ c0).setCell ⟨B,1,none⟩ c1).setCell ⟨B,2,none⟩ c2).setCell ⟨B,3,none⟩ c3).setCell ⟨B,4,none⟩ c4).setCell ⟨B,5,none⟩ c5).setCell ⟨B+1,0,none⟩ kv).setCell ⟨B+1+1,0,none⟩ ev →
  Y.heap[B]?=some (.cells #[c0,c1,c2,c3,c4,c5] 65)/\Y.heap[B+1]?=some (.cells #[kv] 3)/\Y.heap[B+1+1]?=some (.cells #[ev] 42)/\(∀ k,(k<B\/B+1+1<k)->Y.heap[k]?=X.heap[k]?)/\Below w.heap.size w Y:=by
 rintro Y rfl;obtain⟨p1,p2,p3,p4⟩:=AA hR rfl c0 c1 c2 c3 c4 c5 _ rfl;have q:=p4 _ _ hl hb;have Ju:=(p2 (B+1) (by omega)).trans hK;have Wc:=(p2 (B+1+1) (by omega)).trans hE;generalize (((((X.setCell ⟨B,0,none⟩ c0).setCell ⟨B,1,none⟩ c1).setCell ⟨B,2,none⟩ c2).setCell ⟨B,3,none⟩ c3).setCell ⟨B,4,none⟩ c4).setCell ⟨B,5,none⟩ c5=Z at *;refine⟨?_,?_,?_,fun k hk=>?_,?_⟩
 ·exact aI (aI p1 (by omega) _ _) (by omega) _ _
 ·exact aI (by rw[aE Ju];rfl) (by omega) _ _
 ·rw[aE (aI Wc (by omega) _ _)];rfl
 ·rw[Below.heap_setCell _ ⟨B+1+1,0,none⟩ _ _ (show k≠B+1+1 by omega),Below.heap_setCell _ ⟨B+1,0,none⟩ _ _ (show k≠B+1 by omega),p2 k (by omega)]
 ·exact(q.setCell (p:=⟨B+1,0,none⟩) (show w.heap.size<=B+1 by omega) _).setCell (p:=⟨B+1+1,0,none⟩) (show w.heap.size<=B+1+1 by omega) _
theorem WM{X:World} {B C:Nat} {cs:Array Value} {k0:Value} (hR:X.heap[B]?=some (.cells cs 65)) (hc:cs.size=6) (hK:X.heap[C]?=some (.cells #[k0] 3)) (hBC:B≠C)
  (c0 c1 c2 c3 c4 c5 kv:Value):∀ Y,Y=((((((X.setCell ⟨B,0,none⟩ c0).setCell ⟨B,1,none⟩ c1).setCell ⟨B,2,none⟩ c2).setCell ⟨B,3,none⟩ c3).setCell ⟨B,4,none⟩ c4).setCell ⟨B,5,none⟩ c5).setCell ⟨C,0,none⟩ kv →
  Y.heap[B]?=some (.cells #[c0,c1,c2,c3,c4,c5] 65)/\Y.heap[C]?=some (.cells #[kv] 3)/\(∀ k,k≠B->k≠C->Y.heap[k]?=X.heap[k]?)/\Y.heap.size=X.heap.size/\∀ n w0,n<=B->n<=C->Below n w0 X->Below n w0 Y:=by
 rintro Y rfl;obtain⟨p1,p2,p3,p4⟩:=AA hR hc c0 c1 c2 c3 c4 c5 _ rfl;have Ju:=(p2 C (Ne.symm hBC)).trans hK;generalize (((((X.setCell ⟨B,0,none⟩ c0).setCell ⟨B,1,none⟩ c1).setCell ⟨B,2,none⟩ c2).setCell ⟨B,3,none⟩ c3).setCell ⟨B,4,none⟩ c4).setCell ⟨B,5,none⟩ c5=Z at *;refine⟨aI p1 hBC _ _,by rw[aE Ju];rfl,fun k h1 h2=>?_,by simpa using p3,fun n w0 h1 h2 hb=>(p4 n w0 h1 hb).setCell (p:=⟨C,0,none⟩) h2 _⟩;rw[Below.heap_setCell _ ⟨C,0,none⟩ _ _ h2,p2 k h1]
theorem sr(tmps:Array Value) (B:Nat) (W:World) (c0 c1 c2 c3 c4 c5:Value) (k e:Int) (h4:tmps[4]?.getD undef=.pointer (some ⟨B,0,none⟩)) (h5:tmps[5]?.getD undef=.pointer (some ⟨B+1,0,none⟩)) (h6:tmps[6]?.getD undef=.pointer (some ⟨B+1+1,0,none⟩))
  (hR:W.heap[B]?=some (.cells #[c0,c1,c2,c3,c4,c5] 65)) (hK:W.heap[B+1]?=some (.cells #[.int .i64 k] 3)) (hE:W.heap[B+1+1]?=some (.cells #[.int .i64 e] 42)) :
  (results Tryz.f15 tmps).run Tryz.prog W=.ok (.tuple #[.agg #[c0,c1,c2,c3,c4,c5],.int .i64 k,.int .i64 e]) W:=by
 have t1:=ae hR;have t2:=ae hK 0;have t4:=ae hE 0;simp at t2 t4;simp[results,Tryz.results15,go_sem,h4,h5,h6,t1,t2,t4]
structure U3 (w:World) (W:World):Prop where
 old:Below w.heap.size w W
 r:W.heap[w.heap.size+1+1]?=some (.cells zeroTr 65)
 k:W.heap[w.heap.size+1+1+1]?=some (.cells #[.int .i64 0] 3)
 e:W.heap[w.heap.size+1+1+1+1]?=some (.cells #[.int .i64 0] 42)
theorem U3.up{w W W':World} (h:U3 w W) (hb:Below W.heap.size W W'):U3 w W':=⟨aj h.old hb,ak hb h.r,ak hb h.k,ak hb h.e⟩
theorem U3.keep{w W W':World} {n:Nat} (h:U3 w W) (hb:Below n w W') (hn:n=w.heap.size) (hk:∀ k,k<=w.heap.size+1+1+1+1->W'.heap[k]?=W.heap[k]?):U3 w W':=by
 subst hn;exact⟨hb,(hk _ (by omega)).trans h.r,(hk _ (by omega)).trans h.k,(hk _ (by omega)).trans h.e⟩
theorem U3.sta{w:World} {B:Nat} (hB:w.heap.size<=B):bR B (U3 w):=fun _ _ c h=>⟨c.below hB h.old.size h.old,c.same _ _ h.r (.inr rfl),c.same _ _ h.k (.inr rfl),c.same _ _ h.e (.inr rfl)⟩
theorem BI.sta{base:Nat} {t:Tr} {ui uw us um ud ut:Value} {B:Nat}:bR B (fun W=>BI base W t ui uw us um ud ut):=fun _ _ c h W hk=>h W fun k o h1 h2 h3=>hk k o h1 (c.same _ _ h2 (.inr h3)) h3
theorem BI.no(base:Nat) (W:World):BI base W noTr (.slice none 0 0) (.slice none 0 0) (.slice none 0 0) (.slice none 0 0) (.slice none 0 0) (.slice none 0 0):=fun W' _=>by
 have key:∀ {α:Type} {k:Nat} {R:World->Nat->Nat->α->Prop},eO k R W' (.slice none 0 0) ([]:List α):=fun {α k R}=>⟨none,0,rfl,⟨by simp,by omega,fun _=>rfl⟩,by simp,fun i x hx=>by simp at hx⟩
 exact⟨key,key,key,key,key,key⟩
def ss(p:Pb) (m:Mac) (w:World) (e:Ending) (w':World):Prop:=∃ ui uw us um ud ut,e=.returned (.tuple #[.agg (ee ui uw us um ud ut),.int .i64 (fV p m).2.1,.int .i64 (fV p m).2.2])/\((fV p m).2.2=0->IsTr w' (fV p m).1 ui uw us um ud ut)/\((fV p m).2.2≠0->ee ui uw us um ud ut=zeroTr)/\Below w.heap.size w w'
theorem ss.no{p:Pb} {m:Mac} {w w':World} {e:Int} (h:fV p m=(noTr,0,e)) (he:e≠0) (hb:Below w.heap.size w w'):ss p m w (.returned (.tuple #[.agg #[.slice none 0 0,.slice none 0 0,.slice none 0 0,.slice none 0 0,.slice none 0 0,.slice none 0 0],.int .i64 0,.int .i64 e])) w':=by
 unfold ss;rw[h];exact⟨_,_,_,_,_,_,rfl,(fun e=>absurd e he),fun _=>rfl,hb⟩
theorem Ck{p:Pb} {m:Mac} (h:fx p m=0):probE p=0/\checkE m=0/\m.n=p.t.n/\m.rounds=p.rounds/\m.ins=p.t.ins/\m.outs=p.t.outs:=by
 unfold fx at h;split at h
 ·rename_i q;exact absurd h q
 rename_i h1;split at h
 ·rename_i q;exact absurd h q
 rename_i h2;split at h
 ·cases h
 rename_i h3;exact⟨by simpa using h1,by simpa using h2,by omega,by omega,by omega,by omega⟩
structure WI (p:Pb) (m:Mac) (w w2:World) (z Bw Bm:Nat) (i:Nat) (W:World):Prop where
 u:U3 w W
 old:Below w2.heap.size w2 W
 size:z<=W.heap.size
 best:∃ ui uw us um ud ut,W.heap[Bw]?=some (.cells (ee ui uw us um ud ut) 65)/\BI z W (bestTo p m (aN p) i).1 ui uw us um ud ut
 most:W.heap[Bm]?=some (.cells #[.int .i64 (bestTo p m (aN p) i).2] 3)
 ok:∀ j,j<i->gG m (aN p) j=0
theorem WI.sta{p:Pb} {m:Mac} {w w2:World} {z Bw Bm i B:Nat} (h1:w.heap.size<=B) (h2:w2.heap.size<=B):bR B (WI p m w w2 z Bw Bm i):=fun A A' c h=>by
 obtain⟨ui,uw,us,um,ud,ut,q1,q2⟩:=h.best;exact⟨U3.sta h1 A A' c h.u,c.below h2 h.old.size h.old,Nat.le_trans h.size c.size,⟨ui,uw,us,um,ud,ut,c.same _ _ q1 (.inr rfl),BI.sta A A' c q2⟩,c.same _ _ h.most (.inr rfl),h.ok⟩
structure WStop (p:Pb) (m:Mac) (w:World) (c:Code) (W:World):Prop where
 c:c=.ret
 ex:∃ i,i<(aN p).length/\(∀ j,j<i->gG m (aN p) j=0)/\gG m (aN p) i≠0/\Below w.heap.size w W/\W.heap[w.heap.size+1+1]?=some (.cells zeroTr 65)/\W.heap[w.heap.size+1+1+1]?=some (.cells #[.int .i64 0] 3)/\W.heap[w.heap.size+1+1+1+1]?=some (.cells #[.int .i64 (gG m (aN p) i)] 42)
theorem WStop.sta{p:Pb} {m:Mac} {w:World} {c:Code} {B:Nat} (hB:w.heap.size<=B):bR B (WStop p m w c):=fun A A' ch h=>by
 obtain⟨i,h1,h2,h3,h4,h5,h6,h7⟩:=h.ex;exact⟨h.c,i,h1,h2,h3,ch.below hB h4.size h4,ch.same _ _ h5 (.inr rfl),ch.same _ _ h6 (.inr rfl),ch.same _ _ h7 (.inr rfl)⟩
theorem OJ{w w2:World} {pe pc:Option Addr} {C:Nat} {iv wv:List Value} {i:Nat} (hv:U3 w w2) (h:PlIn w2 pe pc C iv wv i) (bH:iv.getD i undef≠.slice none 0 0) (k:Nat) (hk:w.heap.size+1+1<=k/\k<=w.heap.size+1+1+1+1) :
  (∀ ad,pe=some ad->k≠ad.block)/\∀ ad,pc=some ad->k≠ad.block:=by
 obtain⟨be,oe,rfl,_,c,x2,c0,c1,_,_,_,bc,oc,rfl,_,c3⟩:=h.ex;obtain⟨a,m,n,ei⟩:=h.iv;have bY:k=w.heap.size+1+1\/k=w.heap.size+1+1+1\/k=w.heap.size+1+1+1+1:=by omega
 refine⟨fun ad e hkb=>?_,fun ad e hkb=>?_⟩
 ·cases e
  dsimp only at hkb;rw[<-hkb]at c0 c1;rcases bY with e|e|e<;>rw[e]at c0 c1
  ·rw[ae hv.r]at c0
   have aF:oe+i * 3<6:=(Array.getElem?_eq_some_iff.1 c0).1;rcases (show oe+i * 3=0\/oe+i * 3=1\/oe+i * 3=2\/oe+i * 3=3\/oe+i * 3=4\/oe+i * 3=5 by omega) with q|q|q|q|q|q<;>rw[q]at c0<;>simp at c0
  ·rw[ae hv.k]at c1
   have aF:oe+i * 3+1<1:=(Array.getElem?_eq_some_iff.1 c1).1;omega
  ·rw[ae hv.e]at c1
   have aF:oe+i * 3+1<1:=(Array.getElem?_eq_some_iff.1 c1).1;omega
 ·cases e
  dsimp only at hkb;rw[<-hkb]at c3;rcases bY with e|e|e<;>rw[e]at c3
  ·rw[ae hv.r]at c3
   have aF:oc+c * 3<6:=(Array.getElem?_eq_some_iff.1 c3).1;rcases (show oc+c * 3=0\/oc+c * 3=1\/oc+c * 3=2\/oc+c * 3=3\/oc+c * 3=4\/oc+c * 3=5 by omega) with q|q|q|q|q|q<;>rw[q]at c3<;>simp at c3<;>exact bH c3.symm
  ·rw[ae hv.k,ei]at c3
   have aF:oc+c * 3<1:=(Array.getElem?_eq_some_iff.1 c3).1;rw[show oc+c * 3=0 by omega]at c3;simp at c3
  ·rw[ae hv.e,ei]at c3
   have aF:oc+c * 3<1:=(Array.getElem?_eq_some_iff.1 c3).1;rw[show oc+c * 3=0 by omega]at c3;simp at c3
structure C17 (w Wd:World) (ui uw us um ud ut:Value) (b:Int) (D:Nat->Bool) (W:World):Prop where
 old:Below w.heap.size w W
 kept:∀ k,(k<w.heap.size+1+1\/w.heap.size+1+1+1+1<k)->W.heap[k]?=Wd.heap[k]?
 r:∃ cs,W.heap[w.heap.size+1+1]?=some (.cells cs 65)/\(D 3=false->cs=zeroTr)/\(D 3=true->cs=ee ui uw us um ud ut)
 k:∃ y,W.heap[w.heap.size+1+1+1]?=some (.cells #[.int .i64 y] 3)/\(D 4=true->y=max b 0)
 e:W.heap[w.heap.size+1+1+1+1]?=some (.cells #[.int .i64 0] 42)
theorem C17.same{w Wd W:World} {ui uw us um ud ut:Value} {b:Int} {D:Nat->Bool} {i:Nat} (h:C17 w Wd ui uw us um ud ut b D W) (h3:i≠3) (h4:i≠4):C17 w Wd ui uw us um ud ut b (bB D i) W:=by
 have e3:bB D i 3=D 3:=by unfold bB;rw[if_neg (Ne.symm h3)]
 have e4:bB D i 4=D 4:=by unfold bB;rw[if_neg (Ne.symm h4)]
 obtain⟨cs,q1,q2,q3⟩:=h.r;obtain⟨y,q4,q5⟩:=h.k;exact⟨h.old,h.kept,⟨cs,q1,by rw[e3];exact q2,by rw[e3];exact q3⟩,⟨y,q4,by rw[e4];exact q5⟩,h.e⟩
theorem OK(p:Pb) (vc vs:Value) (m:Mac) (vf vy vt vo:Value) (w:World) (hc:bJ w vc p.t.cases) (hs:bn w vs p.a.states) (hN:movesN p.a.states<1099511627776) (hf:bF w vf m.first) (hy:eZ w vy m.syms) (ht:dh w vt m.steps) (ho:fj w vo m.out) :
  Calls Tryz.prog 15 #[jI p vc vs,.agg (bX m vf vy vt vo)] w (ss p m w):=by
 have HC:=aa hc;have HS:=aa hs;have HF:=aa hf;have HY:=aa hy;have HT:=aa ht;have HO:=aa ho;have HV:Hid (fV p m=if fx p m≠0 then(noTr,0,fx p m) else if buildE p≠0 then(noTr,0,buildE p) else if aP (aN p).length (gG m (aN p))≠0 then(noTr,0,aP (aN p).length (gG m (aN p))) else((bestTo p m (aN p) (aN p).length).1,max (bestTo p m (aN p) (aN p).length).2 0,0)):=aa rfl;obtain⟨pc,cc,rfl,_⟩:=hc.at;obtain⟨ps,cs,rfl,_⟩:=hs.at;obtain⟨pf,cf,rfl,_⟩:=hf.at;obtain⟨py,cy,rfl,_⟩:=hy.at;obtain⟨pt,ct,rfl,_⟩:=ht.at;obtain⟨po,co,rfl,_⟩:=ho.at;clear hc hs hf hy ht ho;refine eI Tryz.func15 rfl ?_;simp only[Tryz.ntmps15,List.size_toArray,List.length_cons,List.length_nil,Nat.reduceAdd,Nat.reduceSub,Array.replicate_succ,Array.replicate_zero,List.push_toArray,List.append_toArray,List.nil_append,List.cons_append]
 go_wp2_with fail
 refine aT (fun W=>U3 w W/\W.heap[w.heap.size]?=some (.cells #[.int .i64 p.t.n,.int .i64 p.t.ins,.int .i64 p.t.outs,.slice pc p.t.cases.length cc,.int .i64 p.a.n,.slice ps p.a.states.length cs,.int .i64 p.rounds] 29)/\W.heap[w.heap.size+1]?=some (.cells (bX m (.slice pf m.first.length cf) (.slice py m.syms.length cy) (.slice pt m.steps.length ct) (.slice po m.out.length co)) 35))
  ⟨⟨by go_grown,aq _ (aq _ (cV _ _ _ _)),aq _ (lY _ _ _ _ _),by simpa using ar ((((w.alloc _).alloc _).alloc _).alloc _) _⟩,aq _ (aq _ (aq _ (aq _ (ar _ _)))),aq _ (aq _ (aq _ (aX _ _ _)))⟩ (fun W0 bd=>?_)
 obtain⟨Ji,bD,iw⟩:=bd;have aH:=Ji.old;refine(sZ p _ _ m _ _ _ _ W0 (HC.out.up up_case aH) (HS.out.up up_moves aH) hN (HF.out.up up_ints aH) (HY.out.up up_v3 aH) (HT.out.up up_step aH) (HO.out.up up_vecs aH)).mono ?_;rintro e w1 ⟨rfl,aG⟩;have gV:=Ji.up aG;have fd:=aa (ak aG bD);have jz:=aa (ak aG iw);have db:=aa gV;have du:=gV.old.size;have zE1:=aB gV.e;clear Ji bD iw aH aG;generalize im:fx p m=be at HV;by_cases hb:be=0
 case neg=>
  have eS:(be != 0)=true:=by simpa using hb
  have HR:Hid (fV p m=(noTr,0,be)):=aa (by rw[HV.out,if_pos hb]);have HB:=aa hb;have tR:=ae gV.r;have zR:=fun o=>aD gV.r o;have tK:=ae gV.k;have zK:=fun o=>aD gV.k o;have tE:=ae gV.e;have zE:=fun o=>aD gV.e o
  clear hb HV gV im
  go_wp2_with fail
  obtain⟨m1,m2,m4,_,m5⟩:=Mb db.out.old (by omega) db.out.r db.out.k db.out.e (.slice none 0 0) (.slice none 0 0) (.slice none 0 0) (.slice none 0 0) (.slice none 0 0) (.slice none 0 0) (.int .i64 0) (.int .i64 be) _ rfl;refine fH (sr _ (w.heap.size+1+1) _ _ _ _ _ _ _ _ _ rfl rfl rfl m1 m2 m4) (ss.no HR.out HB.out m5)
 subst hb;have IW:=aa im;have cU:Hid (fV p m=if buildE p≠0 then(noTr,0,buildE p) else if aP (aN p).length (gG m (aN p))≠0 then(noTr,0,aP (aN p).length (gG m (aN p))) else((bestTo p m (aN p) (aN p).length).1,max (bestTo p m (aN p) (aN p).length).2 0,0)):=aa (by rw[HV.out,if_neg (by simp)]);clear HV im;have tA:=ae fd.out;clear gV
 go_wp2_with fail
 refine(E6 p _ _ w1 (HC.out.up up_case db.out.old) (HS.out.up up_moves db.out.old) hN).mono ?_;rintro e w2 ⟨c,rfl,h1,h2,aS⟩;clear tA;have li:=db.out.up aS;have AU:=aa li;have p9:=aa (ak aS fd.out);have jO:=aa (ak aS jz.out);have eB:=aS.size;by_cases nJ:buildE p=0
 case neg=>
  have HR:Hid (fV p m=(noTr,0,buildE p)):=aa (by rw[cU.out,if_pos nJ]);have HB:=aa nJ;obtain rfl:=h2 nJ;have RY:(buildE p != 0)=true:=by simpa using nJ
  generalize buildE p=bu at HR RY HB;clear h1 h2 nJ cU li;have jd:Hid (∀ o:Obj,U3 w (w2.alloc o)):=aa fun o=>AU.out.up (Below.alloc (Below.refl _ w2) (Nat.le_refl _) _)
  go_wp2_with (refine la 30 rfl (fun W=>U3 w W) (jd.out _) (fun W3 kY=>?_);clear jd;have fE:=aa kY;have tR:=ae kY.r;have zR:=fun o=>aD kY.r o;have tK:=ae kY.k;have zK:=fun o=>aD kY.k o;have tE:=ae kY.e;have zE:=fun o=>aD kY.e o;clear kY)
  obtain⟨m1,m2,m4,_,m5⟩:=Mb fE.out.old (by omega) fE.out.r fE.out.k fE.out.e (.slice none 0 0) (.slice none 0 0) (.slice none 0 0) (.slice none 0 0) (.slice none 0 0) (.slice none 0 0) (.int .i64 0) (.int .i64 bu) _ rfl;refine fH (sr _ (w.heap.size+1+1) _ _ _ _ _ _ _ _ _ rfl rfl rfl m1 m2 m4) (ss.no HR.out HB.out m5)
 obtain⟨cZ,vW⟩:=ER nJ;obtain⟨uc,us,vt,ve,rfl,vz⟩:=h1 nJ;obtain⟨qc,dc,qe,de,iv,wv,rfl,rfl,UV,UO,kA⟩:=ES vz;obtain⟨qs,ds,rfl,_⟩:=vz.states.at;obtain⟨qt,dt,rfl,_⟩:=vz.tab.at;have fE:Hid (fV p m=if aP (aN p).length (gG m (aN p))≠0 then(noTr,0,aP (aN p).length (gG m (aN p))) else((bestTo p m (aN p) (aN p).length).1,max (bestTo p m (aN p) (aN p).length).2 0,0)):=aa (by rw[cU.out,if_neg (by simpa using nJ)]);have wc:=aa kA;have jB:=aa vW;rw[nJ];clear h1 h2 nJ cU li vz kA vW
 go_wp2_with fail
 refine aT (fun W=>U3 w W/\Below w2.heap.size w2 W/\W.heap[w2.heap.size]?=some (.cells #[.int .i64 p.t.n,.int .i64 p.t.ins,.int .i64 p.t.outs,.slice qc p.t.cases.length dc,.int .i64 p.a.n,.slice qs (dR p).prob.a.states.length ds,.int .i64 p.rounds,.int .i64 p.t.n,.slice qt (dR p).tab.length dt,.slice qe (aN p).length de] 107)/\W.heap[w2.heap.size+1]?=some (.cells zeroTr 65)/\W.heap[w2.heap.size+1+1]?=some (.cells #[.int .i64 (-1)] 3)) ⟨AU.out.up (by go_grown),by go_grown,aq _ (aq _ (ar _ _)),aq _ (aX _ _ _),cV _ _ _ _⟩ (fun W3 hW3=>?_);obtain⟨kY,bA,ks,eT,Rp⟩:=hW3;refine(EQ (ru p (.slice qc p.t.cases.length dc) (.slice qs (dR p).prob.a.states.length ds) p.t.n (.slice qt (dR p).tab.length dt) (.slice qe (aN p).length de)) ⟨_,_,_,_,_,_,rfl⟩ W3).mono ?_;rintro e w4 ⟨rfl,rfl⟩
 go_wp2_with fail
 refine bw (fun W=>U3 w W/\Below w2.heap.size w2 W/\W.heap[W3.heap.size]?=some (.cells (ru p (.slice qc p.t.cases.length dc) (.slice qs (dR p).prob.a.states.length ds) p.t.n (.slice qt (dR p).tab.length dt) (.slice qe (aN p).length de)) 107)/\W.heap[w2.heap.size+1]?=some (.cells zeroTr 65)/\W.heap[w2.heap.size+1+1]?=some (.cells #[.int .i64 (-1)] 3)) ⟨kY.up (by go_grown),bA.alloc bA.size _,ar _ _,aq _ eT,aq _ Rp⟩ (fun W4 hW4=>?_);have hzm3:=aB Rp;clear kY ks eT Rp;obtain⟨Cw,bM,Iu,vq,Mo⟩:=hW4;have bP:=B7 w2 p _ _ _ _ _ (aN p).length p.t.cases.length de dc iv wv (by omega) (by have:=(dY (cX jB.out).1).2.2.2.1;omega) UV UO (fun i hi=>(wc.out i hi).1) W4 bM W3.heap.size Iu;have UT:=bM.size;have wn:=bA.size;have zV:=aB Iu
 have qJ:Hid (∀ i,i<(aN p).length->iv.getD i undef≠.slice none 0 0):=aa fun i hi e=>by
  have h1:=(wc.out i hi).2.1;rw[e]at h1;obtain⟨a,c,e2,_⟩:=h1.at;injection e2 with _ e3 _
  obtain⟨c,hc,_,kA⟩:=AG p i (by rw[pV];exact hi);rw[kA]at e3;have h2:=((dY (cX jB.out).1).2.2.2.2 (p.t.cases.getD c default) (by rw[show p.t.cases.getD c default=p.t.cases[c] by simp[hc]];exact List.getElem_mem hc)).inp;have h3:=(dY (cX jB.out).1).1;dsimp only at e3;omega
 refine kG (gf:=65) (lb:=#[.pointer (some ⟨W3.heap.size,0,none⟩)]) rfl (enters_of Tryz.func65 (by kernel_rfl) rfl) bP (Below.refl _ _) (fun k hk=>by rcases hk with rfl|⟨hk,_⟩<;>omega) (fun i=>rfl)
  (WI p m w w2 W4.heap.size (w2.heap.size+1) (w2.heap.size+1+1))
  (fun c _ W=>WStop p m w c W)
  (fun i=>WI.sta (by omega) (by omega)) (fun c i=>WStop.sta (by omega)) ⟨Cw,bM,Nat.le_refl _,⟨_,_,_,_,_,_,vq,BI.no _ _⟩,Mo,by simp⟩ ?round ?done ?stop
 case round=>
  intro yl i W hi hl hI;unfold Gv;have bH:=qJ.out i hi;obtain⟨sL,cK,uy⟩:=wc.out i hi;have kS:=aa (cK.up up_int hI.old);have ux:=aa (uy.up up_round hI.old);have iV:=aa sL;have UC:=aa bH;obtain⟨pi,ci,ei,_⟩:=cK.at;obtain⟨pw,cw,ew,_⟩:=uy.at;rw[ei]at kS;rw[ew]at ux;rw[ei,ew];generalize hx:(aN p).getD i default=x at kS ux;have I0:=aa hx;clear hx bH sL cK uy ei ew;have HI:=aa hI;clear hI;have xH:=HI.out.size;have HSEQ:=aa bP;have HBW4:=aa (And.intro vq Mo);clear bP vq Mo Cw
  gi_wp2
  refine⟨Bod.of_below (fun k hk=>by rcases hk with rfl|⟨hk,_⟩<;>omega) (by go_grown),(fun W'=>WI p m w w2 W4.heap.size (w2.heap.size+1) (w2.heap.size+1+1) i W'/\W'.heap[W.heap.size]?=some (.cells #[.slice pi x.inp.length ci,.slice pw x.word.length cw] 39)/\aU W' (.slice pi x.inp.length ci) x.inp/\bN W' (.slice pw x.word.length cw) x.word),
   (WI.sta (by omega) (by omega)).and (bR.cells.and (fun A A' c h=>⟨h.1.ck up_int c.ck,h.2.ck up_round c.ck⟩)),⟨WI.sta (B:=W.heap.size) (by have:=HI.out.u.old.size;omega) (by have:=HI.out.old.size;omega) _ _ (Chg.of_below (by go_grown)) HI.out,ar _ _,kS.out.up up_int (by go_grown),ux.out.up up_round (by go_grown)⟩,fun W2 h2 _=>?_⟩
  obtain⟨Fm,hX,AP,xP⟩:=h2;have KZ:=aa Fm;have HINW:=aa AP;have HWDW:=aa xP;have hszX:=aB hX;have hszE:=aB Fm.u.e;have MC:=Fm.size;have hszM:=aB Fm.most;have Fw:=aa (ak Fm.old p9.out);have IZ:=aa (ak Fm.old jO.out);have tA:=ae Fw.out;have tM:=ae IZ.out;have tX:=ae hX;have b7:=Fm.u.old;have HJ:=aa (sS m _ _ _ _ _ _ x.inp x.word W2 (HF.out.up up_ints b7) (HY.out.up up_v3 b7) (HT.out.up up_step b7) (HO.out.up up_vecs b7) AP xP);clear Fm AP xP hX HI kS ux
  gi_wp2
  refine⟨trivial,rfl,kQ (HJ.out.mono ?_)⟩;rintro e W5 ⟨ui,uw,us,um,ud,ut,rfl,h1,h2,dy⟩;have vS:=KZ.out.u.up dy;have Ag:=aa vS;have Tf:=dy.size;have jL:=aa dy;clear tX tA tM HJ vS;have vU:Hid (gG m (aN p) i=playE m x.inp x.word):=aa (by unfold gG;rw[I0.out]);by_cases iT:playE m x.inp x.word=0
  case neg=>
   obtain⟨rfl,rfl,rfl,rfl,rfl,rfl⟩:=sn (h2 iT);have HPN:=aa iT;have hpe':(playE m x.inp x.word != 0)=true:=by simpa using iT
   generalize playE m x.inp x.word=pe at vU HPN hpe';clear h1 h2 iT;have jd:Hid (∀ o:Obj,U3 w (W5.alloc o)/\Below W5.heap.size W5 (W5.alloc o)):=aa fun o=>⟨Ag.out.up (by go_grown),by go_grown⟩
   gi_wp2_with (refine vQ 46 rfl (fun W=>U3 w W/\Below W5.heap.size W5 W) (jd.out _) (fun W6 h6=>?_);clear jd;obtain⟨mF,fD⟩:=h6;have Ah:=aa mF;have nE:=aa fD;have tR:=ae mF.r;have zR:=fun o=>aD mF.r o;have tK:=ae mF.k;have zK:=fun o=>aD mF.k o;have tE:=ae mF.e;have zE:=fun o=>aD mF.e o;clear mF fD)
   obtain⟨m1,m2,m4,m6,m5⟩:=Mb Ah.out.old (by omega) Ah.out.r Ah.out.k Ah.out.e (.slice none 0 0) (.slice none 0 0) (.slice none 0 0) (.slice none 0 0) (.slice none 0 0) (.slice none 0 0) (.int .i64 0) (.int .i64 pe) _ rfl;clear tR tK tE zR zK zE;have hz6:=nE.out.size;have Jo:=aj jL.out nE.out;refine⟨⟨?_,?_,?_⟩,rfl,i,hi,KZ.out.ok,by rw[vU.out];exact HPN.out,m5,m1,m2,by rw[vU.out];exact m4⟩
   ·simp only[World.size_setCell]
    omega
   ·intro k hk
    have cK:¬ (w.heap.size+1+1<=k/\k<=w.heap.size+1+1+1+1):=fun hc=>by
     rcases hk with rfl|⟨_,hk⟩
     ·omega
     ·have ha:=OJ AU.out iV.out UC.out k hc
      rcases hk with ⟨ad,e1,e2⟩|⟨ad,e1,e2⟩
      ·exact ha.1 ad e1 e2
      ·exact ha.2 ad e1 e2
    have aF:k<W2.heap.size:=by rcases hk with rfl|⟨hk,_⟩<;>omega
    exact(m6 k (by omega)).trans (Jo.block k aF)
   ·intro k o hk ho _
    exact(m6 k (.inr (by omega))).trans (ak Jo ho)
  have hT:=h1 iT W5 (cQ.refl _ _);have uz:=aa (h1 iT);obtain⟨r1,d1,rfl,_⟩:=hT.inp.at;obtain⟨r2,d2,rfl,_⟩:=hT.word.at;obtain⟨r3,d3,rfl,_⟩:=hT.states.at;obtain⟨r4,d4,rfl,_⟩:=hT.msgs.at;obtain⟨r5,d5,rfl,_⟩:=hT.dec.at;obtain⟨r6,d6,rfl,_⟩:=hT.times.at;generalize IC:eQ m x.inp x.word=tr at uz hT;have Tl:=aa IC;have HTT:=aa hT;have HPE0:Hid (gG m (aN p) i=0):=aa (by rw[vU.out,iT]);have Wh:=ak dy Fw.out;have Vo:=ak dy IZ.out;have zA:=aB Wh;have zM:=aB Vo;have tA:=ae Wh;have tM:=ae Vo;rw[iT];clear h1 h2 iT IC hT vU Wh Vo
  gi_wp2
  refine⟨trivial,rfl,kQ ?_⟩;refine aT (fun W=>U3 w W/\Below W5.heap.size W5 W/\W.heap[W5.heap.size]?=some (.cells #[.slice r1 tr.inp.length d1,.slice r2 tr.word.length d2,.slice r3 tr.states.length d3,.slice r4 tr.msgs.length d4,.slice r5 tr.dec.length d5,.slice r6 tr.times.length d6] 65)) ⟨Ag.out.up (by go_grown),by go_grown,ar _ _⟩ (fun W6 Jv=>?_);clear tA tM zA zM;obtain⟨mF,fD,OV⟩:=Jv;obtain⟨n,r,g⟩:=sR (Ck IW.out).2.1;have oP:m.n=(n:Int):=g.hn;have jM:p.t.n.toNat=n:=by have:=(Ck IW.out).2.2.1;omega
  have VE:=(cX jB.out).2.2.2
  have cZ:n<=tr.times.length:=by
   rw[<-Tl.out]
   show n<=((List.range m.n.toNat).map _).length
   rw[List.length_map,List.length_range];omega
  have HTI:=aa (L8 n g.n5 p.rounds VE tr _ _ _ _ _ _ cZ W6 (HTT.out.up fD));rw[oP];have HPNN:=aa jM;have hb56:=aa fD;have SL:=aa OV;clear oP jM VE cZ g mF fD OV;refine HTI.out.mono ?_;rintro e W7 ⟨rfl,jA⟩;have MU:=aj hb56.out jA;have Sh:=aj jL.out MU;have FX:WI p m w w2 W4.heap.size (w2.heap.size+1) (w2.heap.size+1+1) i W7:=WI.sta (B:=W2.heap.size) (by have:=KZ.out.u.old.size;omega) (by have:=KZ.out.old.size;omega) _ _ (Chg.of_below Sh) KZ.out;have Af:=aa FX
  have kX:Hid (bestTo p m (aN p) (i+1)=if (bestTo p m (aN p) i).2<timeS n p.rounds tr then(tr,timeS n p.rounds tr) else bestTo p m (aN p) i):=aa (by
   show (if (bestTo p m (aN p) i).2<timeS p.t.n.toNat p.rounds (eQ m ((aN p).getD i default).inp ((aN p).getD i default).word) then(eQ m ((aN p).getD i default).inp ((aN p).getD i default).word,timeS p.t.n.toNat p.rounds (eQ m ((aN p).getD i default).inp ((aN p).getD i default).word)) else bestTo p m (aN p) i)=_
   rw[I0.out,Tl.out,HPNN.out])
  obtain⟨yi,yw,ys,ym,yd,yt,b7,I4⟩:=FX.best;have fB:=aa b7;have IT:=aa FX.most;have hbT:=I4 W7 (cQ.refl _ _);have HB57:=aa MU;have D4:=aa Sh;have hz7:=MU.size;generalize timeS n p.rounds tr=tm at kX;generalize hbo:bestTo p m (aN p) i=bo at kX IT;have HBO:=aa hbo;obtain⟨bt,b2⟩:=bo;have tMo:=ae IT.out 0;have zMo:=fun o=>aD IT.out o
  have tW:=ae fB.out;have zW:=fun o=>aD fB.out o
  have tX:=ae (ak jA SL.out);simp at tMo;dsimp only at kX;clear FX hbT I4 b7 HTI MU Sh jA hbo KZ;by_cases aF:b2<tm
  ·have gj:Hid (bestTo p m (aN p) (i+1)=(tr,tm)):=aa (by rw[kX.out,if_pos aF])
   clear kX
   gi_wp2
   obtain⟨p1,p2,p3,p4,p5⟩:=WM fB.out rfl IT.out (by omega) (.slice r1 tr.inp.length d1) (.slice r2 tr.word.length d2) (.slice r3 tr.states.length d3) (.slice r4 tr.msgs.length d4) (.slice r5 tr.dec.length d5) (.slice r6 tr.times.length d6) (.int .i64 tm) _ rfl;clear tMo zMo tW zW tX;refine⟨⟨?_,?_,?_⟩,⟨?_,?_,?_,⟨_,_,_,_,_,_,p1,?_⟩,by rw[gj.out];exact p2,aQ Af.out.ok HPE0.out⟩⟩
   ·simp only[World.size_setCell]
    omega
   ·intro k hk
    have gD:k<W2.heap.size:=by rcases hk with rfl|⟨hk,_⟩<;>omega
    exact(p3 k (by rcases hk with rfl|⟨hk,_⟩<;>omega) (by rcases hk with rfl|⟨hk,_⟩<;>omega)).trans (D4.out.block k gD)
   ·intro k o hk ho _
    exact(p3 k (by omega) (by omega)).trans (ak D4.out ho)
   ·exact Af.out.u.keep (p5 _ _ (by omega) (by omega) Af.out.u.old) rfl (fun k hk=>p3 k (by omega) (by omega))
   ·exact p5 _ _ (by omega) (by omega) Af.out.old
   ·simp only[World.size_setCell]
    omega
   ·rw[gj.out]
    exact fun W' hk=>uz.out W' fun k o h1 h2 h3=>hk k o (by omega) ((p3 k (by omega) (by omega)).trans (ak HB57.out h2)) h3
  ·have gj:Hid (bestTo p m (aN p) (i+1)=bestTo p m (aN p) i):=aa (by rw[kX.out,if_neg aF,HBO.out])
   clear kX
   gi_wp2
   exact⟨Bod.of_below (fun k hk=>by rcases hk with rfl|⟨hk,_⟩<;>omega) D4.out,Af.out.u,Af.out.old,Af.out.size,by rw[gj.out];exact Af.out.best,by rw[gj.out];exact Af.out.most,aQ Af.out.ok HPE0.out⟩
 case done=>
  intro D W hD hI hK;obtain⟨ui,uw,us,um,ud,ut,b7,I4⟩:=hI.best;have HI:=aa hI;have HR:Hid (fV p m=((bestTo p m (aN p) (aN p).length).1,max (bestTo p m (aN p) (aN p).length).2 0,0)):=aa (by rw[fE.out,cp _ _ hI.ok];simp);have hT:=I4 W (cQ.refl _ _);have uz:=aa I4;have HBWD:=aa b7;obtain⟨r1,d1,rfl,_⟩:=hT.inp.at;obtain⟨r2,d2,rfl,_⟩:=hT.word.at;obtain⟨r3,d3,rfl,_⟩:=hT.states.at;obtain⟨r4,d4,rfl,_⟩:=hT.msgs.at;obtain⟨r5,d5,rfl,_⟩:=hT.dec.at;obtain⟨r6,d6,rfl,_⟩:=hT.times.at;have UN:=hI.most;have IT:=aa UN;have hu:=hI.u;have HU:=aa hu;have hzE:=aB hI.u.e;have hzM:=aB hI.most;have HKD:=aa hK;have hzz:=hI.size;generalize bestTo p m (aN p) (aN p).length=bb at HR uz IT HI UN I4 hT HBWD;clear hI hT I4 b7 UN hu hK bP vq Mo Cw;obtain⟨tr,b⟩:=bb;dsimp only at *
  go_wp2_with fail
  refine jZ 6 [59,60,61,46,47,57] [some (.agg #[.slice r1 tr.inp.length d1,.slice r2 tr.word.length d2,.slice r3 tr.states.length d3,.slice r4 tr.msgs.length d4,.slice r5 tr.dec.length d5,.slice r6 tr.times.length d6]),
   some (.int .i64 b),
   some (.int .i64 (max b 0)),
   some (undef),
   some (undef),
   some (undef)] (fun D _ X=>C17 w W (.slice r1 tr.inp.length d1) (.slice r2 tr.word.length d2) (.slice r3 tr.states.length d3) (.slice r4 tr.msgs.length d4) (.slice r5 tr.dec.length d5) (.slice r6 tr.times.length d6) b D X) (by kernel_rfl) rfl (by decide) rfl (by kernel_rfl) (fun _=>⟨HU.out.old.drew,fun k _=>rfl,⟨zeroTr,HU.out.r,fun _=>rfl,(fun q=>by cases q)⟩,⟨0,HU.out.k,(fun q=>by cases q)⟩,HU.out.e⟩) ?step ?tail
  case step=>
   intro x W D i o s F hi ho hs hD bv al hv az hF;have bY:i=0\/i=1\/i=2\/i=3\/i=4\/i=5:=by omega
   rcases bY with rfl|rfl|rfl|rfl|rfl|rfl
   all_goals (obtain rfl:=cO ho.symm;obtain rfl:=cO hs.symm)
   ·clear al hi ho hs hv
    have e10:F.getD 10 undef=.pointer (some ⟨w2.heap.size+1,0,none⟩):=eJ hF (by decide) rfl;clear hF bv;have t:=ae ((az.kept _ (.inr (by omega))).trans HBWD.out);have e10':=br e10;have HD:=aa hD;have ap:=aa az;clear hD az
    go_wp2_with fail
    refine aR.mk _ cD ?_ rfl;exact ap.out.same (by decide) (by decide)
   ·clear al hi ho hs hv
    have e11:F.getD 11 undef=.pointer (some ⟨w2.heap.size+1+1,0,none⟩):=eJ hF (by decide) rfl;clear hF bv;have t:=ae ((az.kept _ (.inr (by omega))).trans IT.out) 0;simp at t;have e11':=br e11;have HD:=aa hD;have ap:=aa az;clear hD az
    go_wp2_with fail
    refine aR.mk _ cD ?_ rfl;exact ap.out.same (by decide) (by decide)
   ·have g1:=al ⟨1,.data⟩ (by simp) rfl
    have d1:=hv 1 _ (by omega) g1 rfl;clear al hi ho hs hv;have e60:=bT hF 1 60 (by decide) rfl (by kernel_rfl) d1;clear hF bv d1;have e60':=br e60;have HD:=aa hD;have ap:=aa az;clear hD az;clear g1
    go_wp2_with fail
    refine aR.mk _ cD ?_ rfl;exact ap.out.same (by decide) (by decide)
   ·have g0:=al ⟨0,.data⟩ (by simp) rfl
    have d0:=hv 0 _ (by omega) g0 rfl;clear al hi ho hs hv;have e4:F.getD 4 undef=.pointer (some ⟨w.heap.size+1+1,0,none⟩):=eJ hF (by decide) rfl;have e59:=bT hF 0 59 (by decide) rfl (by kernel_rfl) d0;have dn:F=F.setIfInBounds 46 undef:=by(have iY:x 3=undef:=bv;rw[<-iY,hF];exact eD (by decide) rfl)
    have gE:=aa dn;clear dn;clear hF bv d0;obtain⟨cs,q1,q2,_⟩:=az.r;obtain rfl:=q2 hD;have t:=ae q1;have f:=fun o=>aD q1 o
    have HQ:=aa q1;clear q1 q2;have e4':=br e4;have e59':=br e59;have HD:=aa hD;have ap:=aa az;clear hD az;clear g0
    go_wp2_with fail
    refine aR.mk undef cD ?_ (congrArg (fun t=>Act.mk t _) gE.out);have h:=ap.out;obtain⟨p1,p2,p3,p4⟩:=AA HQ.out rfl (.slice r1 tr.inp.length d1) (.slice r2 tr.word.length d2) (.slice r3 tr.states.length d3) (.slice r4 tr.msgs.length d4) (.slice r5 tr.dec.length d5) (.slice r6 tr.times.length d6) _ rfl;obtain⟨y,q4,q5⟩:=h.k;exact⟨p4 _ _ (by omega) h.old,fun k hk=>(p2 k (by omega)).trans (h.kept k hk),⟨_,p1,(fun q=>by simp[bB]at q),fun _=>rfl⟩,⟨y,(p2 _ (by omega)).trans q4,fun q=>q5 (by simpa[bB] using q)⟩,(p2 _ (by omega)).trans h.e⟩
   ·have g2:=al ⟨2,.data⟩ (by simp) rfl
    have d2:=hv 2 _ (by omega) g2 rfl;clear al hi ho hs hv;have e5:F.getD 5 undef=.pointer (some ⟨w.heap.size+1+1+1,0,none⟩):=eJ hF (by decide) rfl;have e61:=bT hF 2 61 (by decide) rfl (by kernel_rfl) d2;have dn:F=F.setIfInBounds 47 undef:=by(have iY:x 4=undef:=bv;rw[<-iY,hF];exact eD (by decide) rfl)
    have gE:=aa dn;clear dn;clear hF bv d2;obtain⟨y,q1,_⟩:=az.k;have t:=ae q1 0;have f:=fun o=>aD q1 o
    have HQ:=aa q1;simp at t;clear q1;have e5':=br e5;have e61':=br e61;have HD:=aa hD;have ap:=aa az;clear hD az;clear g2
    go_wp2_with fail
    refine aR.mk undef cD ?_ (congrArg (fun t=>Act.mk t _) gE.out);have h:=ap.out;obtain⟨cs,q1,q2,q3⟩:=h.r;exact⟨h.old.setCell (by dsimp only;omega) _,fun k hk=>(Below.heap_setCell _ _ _ _ (by dsimp only;omega)).trans (h.kept k hk),⟨cs,aI q1 (by omega) _ _,fun q=>q2 (by simpa[bB] using q),fun q=>q3 (by simpa[bB] using q)⟩,⟨_,by rw[aE HQ.out];rfl,fun _=>rfl⟩,aI h.e (by omega) _ _⟩
   ·clear al hi ho hs hv
    have e6:F.getD 6 undef=.pointer (some ⟨w.heap.size+1+1+1+1,0,none⟩):=eJ hF (by decide) rfl;have dn:F=F.setIfInBounds 57 undef:=by(have iY:x 5=undef:=bv;rw[<-iY,hF];exact eD (by decide) rfl)
    have gE:=aa dn;clear dn;clear hF bv;have t:=ae az.e 0;have f:=fun o=>aD az.e o
    simp at t;have e6':=br e6;have HD:=aa hD;have ap:=aa az;clear hD az
    go_wp2_with fail
    refine aR.mk undef cD ?_ (congrArg (fun t=>Act.mk t _) gE.out);have h:=ap.out;obtain⟨cs,q1,q2,q3⟩:=h.r;obtain⟨y,q4,q5⟩:=h.k;exact⟨h.old.setCell (by dsimp only;omega) _,fun k hk=>(Below.heap_setCell _ _ _ _ (by dsimp only;omega)).trans (h.kept k hk),⟨cs,aI q1 (by omega) _ _,fun q=>q2 (by simpa[bB] using q),fun q=>q3 (by simpa[bB] using q)⟩,⟨y,aI q4 (by omega) _ _,fun q=>q5 (by simpa[bB] using q)⟩,by rw[aE h.e];rfl⟩
  case tail=>
   intro x W' D' F aM hv az hF;have e4:F[4]?.getD undef=.pointer (some ⟨w.heap.size+1+1,0,none⟩):=(show F[4]?.getD undef=F.getD 4 undef by simp only[Array.getD_eq_getD_getElem?]).trans (by(rw[hF,fI (by decide)];rfl));have e5:F[5]?.getD undef=.pointer (some ⟨w.heap.size+1+1+1,0,none⟩):=(show F[5]?.getD undef=F.getD 5 undef by simp only[Array.getD_eq_getD_getElem?]).trans (by(rw[hF,fI (by decide)];rfl));have e6:F[6]?.getD undef=.pointer (some ⟨w.heap.size+1+1+1+1,0,none⟩):=(show F[6]?.getD undef=F.getD 6 undef by simp only[Array.getD_eq_getD_getElem?]).trans (by(rw[hF,fI (by decide)];rfl));obtain⟨cs,q1,_,q3⟩:=az.r;obtain rfl:=q3 (aM 3 (by omega));obtain⟨y,q4,q5⟩:=az.k;obtain rfl:=q5 (aM 4 (by omega));have ap:=aa az;have HQ:=aa (And.intro q1 q4);clear az q1 q3 q4 q5 hF hv aM
   go_wp2_with fail
   refine dH ((ap.out.kept D (.inr (by omega))).trans HKD.out) (sr _ (w.heap.size+1+1) _ _ _ _ _ _ _ _ _ e4 e5 e6 ((World.putObj_heap_other (by omega)).trans HQ.out.1) ((World.putObj_heap_other (by omega)).trans HQ.out.2) ((World.putObj_heap_other (by omega)).trans ap.out.e)) ?_;unfold ss;rw[HR.out];exact⟨_,_,_,_,_,_,rfl,fun _=>uz.out _ (fun k o h1 h2 h3=>(World.putObj_heap_other (fun e=>by subst e;rw[HKD.out]at h2;cases h2;cases h3)).trans ((ap.out.kept k (.inr (by omega))).trans h2)),(fun e=>absurd rfl e),cT (by omega) ap.out.old⟩
 case stop=>
  rintro D c i W hD hi ⟨rfl,k,hk,h1,h2,h3,h4,h5,h6⟩ hK;have HH:=aa (And.intro h3 (And.intro h4 (And.intro h5 h6)));have C3:=aa h2;have HR:Hid (fV p m=(noTr,0,gG m (aN p) k)):=aa (by rw[fE.out,<-bh k _ hk h1 rfl h2,if_pos h2]);clear h1 h2 h3 h4 h5 h6 bP
  go_wp2_with fail
  refine dH hK (sr _ (w.heap.size+1+1) _ _ _ _ _ _ _ _ _ rfl rfl rfl ((World.putObj_heap_other (by omega)).trans HH.out.2.1) ((World.putObj_heap_other (by omega)).trans HH.out.2.2.1) ((World.putObj_heap_other (by omega)).trans HH.out.2.2.2)) (ss.no HR.out C3.out (cT (by omega) HH.out.1))
end Go.Proofs.YtkfgpnbpcpdclaaGreat
namespace Go.Proofs.YtkfgpnbpcpdclaaGreat
open Go.RowKit Go Go.Shelf
theorem Gk(p:Pb) (x:Py) (vc vs vi vw:Value) (w:World) (hc:bJ w vc p.t.cases) (hs:bn w vs p.a.states) (hN:movesN p.a.states<1099511627776) (hi:aU w vi x.inp) (hw:bN w vw x.word) :
  Calls Tryz.prog 19 #[jI p vc vs,.agg #[vi,vw]] w fun e w'=>∃ u,e=.returned (.tuple #[u,.int .i64 (pE p x).2])/\j9 w' u (pE p x).1/\Below w.heap.size w w':=by
 have HC:=aa hc;have HS:=aa hs;have HI:=aa hi;have HW:=aa hw;have HV:Hid (pE p x=if probE p≠0 then([],probE p) else if cG p x≠0 then([],cG p x) else(nearS p x,0)):=aa rfl;have lJ:∀ W:World,j9 W (.slice none 0 0) []:=fun W=>⟨none,0,rfl,⟨by simp,by omega,fun _=>rfl⟩,by simp,fun i x hx=>by simp at hx⟩
 have HNIL:=aa lJ;obtain⟨pc,cc,rfl,_⟩:=hc.at;obtain⟨ps,cs,rfl,_⟩:=hs.at;obtain⟨pi,ci,rfl,_⟩:=hi.at;obtain⟨pw,cw,rfl,_⟩:=hw.at;clear hc hs hi hw lJ
 go_enter Tryz.func19,Tryz.ntmps19
 go_wp2_with fail
 refine aT (fun W=>Below w.heap.size w W/\W.heap[w.heap.size]?=some (.cells #[.int .i64 p.t.n,.int .i64 p.t.ins,.int .i64 p.t.outs,.slice pc p.t.cases.length cc,.int .i64 p.a.n,.slice ps p.a.states.length cs,.int .i64 p.rounds] 29)/\W.heap[w.heap.size+1]?=some (.cells #[.slice pi x.inp.length ci,.slice pw x.word.length cw] 39)) ⟨by go_grown,aq _ (ar _ _),aX _ _ _⟩ (fun W0 bd=>?_);obtain⟨aH,bD,it⟩:=bd;refine(mO p _ _ W0 (HC.out.up up_case aH) (HS.out.up up_moves aH) hN).mono ?_;rintro e w1 ⟨rfl,aG⟩;have b7:=aj aH aG;have fd:=aa (ak aG bD);have gk:=aa (ak aG it);clear bD it aH aG;generalize iT:probE p=pe at HV;by_cases h0:pe=0
 case neg=>
  have Pt:(pe != 0)=true:=by simpa using h0
  have HR:Hid (pE p x=([],pe)):=aa (by rw[HV.out,if_pos h0]);clear HV h0 iT
  go_wp2_with fail
  go_ret2
  rw[HR.out];exact⟨_,rfl,HNIL.out _,b7⟩
 subst h0;have HP:=aa iT;clear iT;have cU:Hid (pE p x=if cG p x≠0 then([],cG p x) else(nearS p x,0)):=aa (by rw[HV.out,if_neg (by simp)]);have tA:=ae fd.out;have tX:=ae gk.out;clear HV
 go_wp2_with fail
 refine(E7 p HP.out _ _ _ _ x w1 (HC.out.up up_case b7) (HS.out.up up_moves b7) (HI.out.up up_int b7) (HW.out.up up_round b7)).mono ?_;rintro e w2 ⟨rfl,aS⟩;have dU:=aj b7 aS;generalize IB:cG p x=re at cU;clear tA tX;by_cases h1:re=0
 case neg=>
  have oI:(re != 0)=true:=by simpa using h1
  have HR:Hid (pE p x=([],re)):=aa (by rw[cU.out,if_pos h1]);clear cU h1 IB
  go_wp2_with fail
  go_ret2
  rw[HR.out];exact⟨_,rfl,HNIL.out _,dU⟩
 subst h1;have nC:=aa IB;clear IB;have HR:Hid (pE p x=(nearS p x,0)):=aa (by rw[cU.out,if_neg (by simp)]);have tA:=ae (ak aS fd.out);have tX:=ae (ak aS gk.out);clear cU
 go_wp2_with fail
 refine(qA p HP.out x nC.out _ _ _ _ w2 (HC.out.up up_case dU) (HS.out.up up_moves dU) (HI.out.up up_int dU) (HW.out.up up_round dU)).mono ?_;rintro e w3 ⟨u,rfl,hu,bA⟩;have HU:=aa hu;obtain⟨au,cu,rfl,_⟩:=hu.at;clear tA tX hu
 go_wp2_with fail
 go_ret2
 rw[HR.out];exact⟨_,rfl,HU.out,aj dU bA⟩
end Go.Proofs.YtkfgpnbpcpdclaaGreat
namespace Go.Proofs.YtkfgpnbpcpdclaaGreat
open Go.RowKit Go Go.Shelf
attribute [local go_sem] Oper.semAt_some
theorem rz(w:World):Calls Tryz.prog 5 #[] w fun e w'=>e=.returned (.bool true)/\Below w.heap.size w w':=by
 go_enter Tryz.func5,Tryz.ntmps5
 go_wp2_with fail
 refine(Id w).mono ?_;rintro e w1 ⟨p,m,vc,vs,vf,vy,vt,vo,rfl,hc,hs,hf,hy,ht,ho,aG,hE⟩;have HC:=aa hc;have HS:=aa hs;have HF:=aa hf;have HY:=aa hy;have HT:=aa ht;have HO:=aa ho;have HE:=aa hE;have iy:=aa aG;obtain⟨pc,cc,rfl,_⟩:=hc.at;obtain⟨ps,cs,rfl,_⟩:=hs.at;obtain⟨pf,cf,rfl,_⟩:=hf.at;obtain⟨py,cy,rfl,_⟩:=hy.at;obtain⟨pt,ct,rfl,_⟩:=ht.at;obtain⟨po,co,rfl,_⟩:=ho.at;clear hc hs hf hy ht ho hE aG
 go_wp2_with fail
 refine aT (fun W=>Below w1.heap.size w1 W/\W.heap[w1.heap.size]?=some (.cells (rs p (.slice pc p.t.cases.length cc) (.slice ps p.a.states.length cs)) 29)/\W.heap[w1.heap.size+1]?=some (.cells (bX m (.slice pf m.first.length cf) (.slice py m.syms.length cy) (.slice pt m.steps.length ct) (.slice po m.out.length co)) 35)) ⟨by go_grown,aq _ (ar _ _),aX _ _ _⟩ (fun W0 bd=>?_);obtain⟨aH,Cq,iw⟩:=bd;have HP0:=aa Cq;have PZ:=aa iw;refine(Gi p _ _ m _ _ _ _ W0 (HC.out.up up_case aH) (HS.out.up up_moves aH) HE.out.hN (HF.out.up up_ints aH) (HY.out.up up_v3 aH) (HT.out.up up_step aH) (HO.out.up up_vecs aH)).mono ?_;rintro e w2 ⟨ui,uw,us,um,ud,ut,rfl,KJ,_,aS⟩;obtain⟨v1,v2,v3,v4,v5⟩:=HE.out.vi;rw[v1,v2,v3];have Df:=KJ v2;have CB:=Df.inp;have CF:=Df.word;rw[v4]at CB;rw[v5]at CF;have RR:=aa CB;have RG:=aa CF;obtain⟨⟨pa1,na1,ca1,rfl⟩,⟨pa2,na2,ca2,rfl⟩,⟨pa3,na3,ca3,rfl⟩,⟨pa4,na4,ca4,rfl⟩⟩:=E0 Df;obtain⟨pi,ci,rfl,_⟩:=CB.at;obtain⟨pw,cw,rfl,_⟩:=CF.at;obtain⟨ni,hni⟩:∃ n,n=([0,1]:List Int).length:=⟨_,rfl⟩;obtain⟨nw,hnw⟩:∃ n,n=[cA 3 2].length:=⟨_,rfl⟩;rw[<-hni]at RR ⊢;rw[<-hnw]at RG ⊢;have dU:=aj aH aS;have Dh:=aa (ak aS Cq);have jO:=aa (ak aS iw);have tP:=fun o=>ae (aq o Dh.out);have tM:=fun o=>ae (aq o jO.out)
 have eB:=aB jO.out;have vu:=aa dU;clear Cq iw HP0 PZ aH aS KJ Df CB CF hni hnw dU v1 v2 v3 v4 v5
 go_wp2_with fail
 refine aT (fun W=>Below w2.heap.size w2 W/\W.heap[w2.heap.size]?=some (.cells (ee (.slice pi ni ci) (.slice pw nw cw) (.slice pa1 na1 ca1) (.slice pa2 na2 ca2) (.slice pa3 na3 ca3) (.slice pa4 na4 ca4)) 65)) ⟨by go_grown,ar _ _⟩ (fun W3 hW3=>?_);obtain⟨bA,CH⟩:=hW3;have eT:=aj vu.out bA;clear tP tM;refine(OK p _ _ m _ _ _ _ W3 (HC.out.up up_case eT) (HS.out.up up_moves eT) HE.out.hN (HF.out.up up_ints eT) (HY.out.up up_v3 eT) (HT.out.up up_step eT) (HO.out.up up_vecs eT)).mono ?_;rintro e w3 ⟨xi,xw,xs,xm,xd,xt,rfl,KJ,_,bM⟩;obtain⟨v1,v2,v3,v4⟩:=HE.out.wo;rw[v1,v2];have Df:=KJ v2;have CB:=Df.inp;have CF:=Df.word;rw[v3]at CB;rw[v4]at CF;have R5:=aa CB;have R6:=aa CF;obtain⟨⟨pb1,nb1,cb1,rfl⟩,⟨pb2,nb2,cb2,rfl⟩,⟨pb3,nb3,cb3,rfl⟩,⟨pb4,nb4,cb4,rfl⟩⟩:=E0 Df;obtain⟨pj,cj,rfl,_⟩:=CB.at;obtain⟨px,cx,rfl,_⟩:=CF.at;obtain⟨nj,Kw⟩:∃ n,n=([0,0]:List Int).length:=⟨_,rfl⟩;obtain⟨nx,mH⟩:∃ n,n=[cA 1 3].length:=⟨_,rfl⟩;rw[<-Kw]at R5 ⊢;rw[<-mH]at R6 ⊢;have AN:=aj bA bM;have D8:=aa AN;have HP3:=aa (ak AN Dh.out);have rX:=aa (ak AN jO.out);have Sg:=aa (ak bM CH);have wn:=aB Sg.out;clear KJ Df CB CF Kw mH v1 v2 v3 v4 bA bM AN eT CH
 go_wp2_with fail
 refine bw (fun W=>Below w3.heap.size w3 W/\W.heap[w3.heap.size]?=some (.cells (ee (.slice pj nj cj) (.slice px nx cx) (.slice pb1 nb1 cb1) (.slice pb2 nb2 cb2) (.slice pb3 nb3 cb3) (.slice pb4 nb4 cb4)) 65)) ⟨by go_grown,ar _ _⟩ (fun w4 hW4=>?_);obtain⟨bM,hT7⟩:=hW4;have MV:=aj D8.out bM;have VG:=aa hT7;have SH:=aa (ak bM Sg.out);have Wo:=aa (RR.out.up up_int MV);have VF:=aa (RG.out.up up_round MV);have PQ:=aa (R5.out.up up_int bM);have HXW:=aa (R6.out.up up_round bM);have MN:=aa MV;clear hT7 bM MV Sg RR RG R5 R6;have hS:List.Nodup [34,35,36,37,38,39,40,41,42,43,44,45,46,47,48,49,50,51,52,53,54,55,56,57,58,59,60,61,62,63,64,65,66,67,68,69,70,71,72,73,74,75,76,77,78,79,80,81]:=by decide
 refine lV 48 [34,35,36,37,38,39,40,41,42,43,44,45,46,47,48,49,50,51,52,53,54,55,56,57,58,59,60,61,62,63,64,65,66,67,68,69,70,71,72,73,74,75,76,77,78,79,80,81] [MP.eq (.int .i64 0),MP.eq (.bool false),MP.eq (.bool false),MP.eq (.int .i64 0),MP.eq (.bool false),MP.eq (.bool false),MP.eq (.bool false),MP.eq (.bool true),MP.eq (.bool false),MP.eq (.bool false),MP.eq (.bool false),MP.eq (.int .i64 3),MP.eq (.bool false),MP.eq (.bool false),MP.eq (.bool false),MP.eq (.int .i64 1),MP.eq (.bool false),MP.eq (.bool false),MP.eq (.bool false),MP.eq (.pointer (some ⟨w2.heap.size,0,none⟩)),MP.eq (.slice pi ni ci),BY [0,1],MP.eq (.bool true),MP.eq (.bool false),MP.eq (.bool false),MP.eq (.bool false),MP.eq (.pointer (some ⟨w2.heap.size,1,none⟩)),MP.eq (.slice pw nw cw),MP.eq (.agg #[.int .i64 2,.int .i64 3,.int .i64 2,.int .i64 0,.int .i64 0,.int .i64 0,.int .i64 0]),Ok (cA 3 2),MP.eq (.bool true),MP.eq (.bool false),MP.eq (.bool false),MP.eq (.bool false),MP.eq (.pointer (some ⟨w3.heap.size,0,none⟩)),MP.eq (.slice pj nj cj),BY [0,0],MP.eq (.bool true),MP.eq (.bool false),MP.eq (.bool false),MP.eq (.bool false),MP.eq (.pointer (some ⟨w3.heap.size,1,none⟩)),MP.eq (.slice px nx cx),MP.eq (.agg #[.int .i64 2,.int .i64 1,.int .i64 3,.int .i64 0,.int .i64 0,.int .i64 0,.int .i64 0]),Ok (cA 1 3),MP.eq (.bool true),MP.eq (.bool false),MP.eq (.bool false)] (by kernel_rfl) rfl hS rfl (by kernel_rfl) ?step ?tail
 case step=>
  intro x W i o s F hi ho hs hB al hF;rcases (show i=0\/i=1\/i=2\/i=3\/i=4\/i=5\/i=6\/i=7\/i=8\/i=9\/i=10\/i=11\/i=12\/i=13\/i=14\/i=15\/i=16\/i=17\/i=18\/i=19\/i=20\/i=21\/i=22\/i=23\/i=24\/i=25\/i=26\/i=27\/i=28\/i=29\/i=30\/i=31\/i=32\/i=33\/i=34\/i=35\/i=36\/i=37\/i=38\/i=39\/i=40\/i=41\/i=42\/i=43\/i=44\/i=45\/i=46\/i=47 by omega) with rfl|rfl|rfl|rfl|rfl|rfl|rfl|rfl|rfl|rfl|rfl|rfl|rfl|rfl|rfl|rfl|rfl|rfl|rfl|rfl|rfl|rfl|rfl|rfl|rfl|rfl|rfl|rfl|rfl|rfl|rfl|rfl|rfl|rfl|rfl|rfl|rfl|rfl|rfl|rfl|rfl|rfl|rfl|rfl|rfl|rfl|rfl|rfl
  all_goals (obtain rfl:=cO ho.symm;obtain rfl:=cO hs.symm;clear hi ho hs)
  ·obtain⟨g6,h6⟩:=gN hF 6 (.int .i64 0) (by decide) rfl
   clear hF al
   go_wp2_with fail
   exact aY.mk (.int .i64 0) (Below.refl _ _) rfl rfl
  ·obtain⟨e0,f0⟩:=ba hF 0 34 (.int .i64 0) hS rfl (by kernel_rfl) (al ⟨0,.data⟩ (by simp) rfl)
   clear hF al
   go_wp2_with fail
   exact aY.mk (.bool false) (Below.refl _ _) rfl rfl
  ·obtain⟨e1,f1⟩:=ba hF 1 35 (.bool false) hS rfl (by kernel_rfl) (al ⟨1,.data⟩ (by simp) rfl)
   clear hF al
   go_wp2_with fail
   exact aY.mk (.bool false) (Below.refl _ _) rfl rfl
  ·obtain⟨g9,h9⟩:=gN hF 9 (.int .i64 0) (by decide) rfl
   have m2:=cY hF 2 36 (.bool false) hS rfl (by kernel_rfl) (al ⟨2,.guard⟩ (by simp) rfl);clear hF al
   go_wp2_with fail
   exact aY.mk (.int .i64 0) (Below.refl _ _) rfl rfl
  ·obtain⟨e3,f3⟩:=ba hF 3 37 (.int .i64 0) hS rfl (by kernel_rfl) (al ⟨3,.data⟩ (by simp) rfl)
   have m2:=cY hF 2 36 (.bool false) hS rfl (by kernel_rfl) (al ⟨2,.guard⟩ (by simp) rfl);clear hF al
   go_wp2_with fail
   exact aY.mk (.bool false) (Below.refl _ _) rfl rfl
  ·obtain⟨e2,f2⟩:=ba hF 2 36 (.bool false) hS rfl (by kernel_rfl) (al ⟨2,.data⟩ (by simp) rfl)
   obtain⟨e4,f4⟩:=ba hF 4 38 (.bool false) hS rfl (by kernel_rfl) (al ⟨4,.data⟩ (by simp) rfl);clear hF al
   go_wp2_with fail
   exact aY.mk (.bool false) (Below.refl _ _) rfl rfl
  ·obtain⟨e5,f5⟩:=ba hF 5 39 (.bool false) hS rfl (by kernel_rfl) (al ⟨5,.data⟩ (by simp) rfl)
   clear hF al
   go_wp2_with fail
   exact aY.mk (.bool false) (Below.refl _ _) rfl rfl
  ·obtain⟨g5,h5⟩:=gN hF 5 (.bool true) (by decide) rfl
   have m6:=cY hF 6 40 (.bool false) hS rfl (by kernel_rfl) (al ⟨6,.guard⟩ (by simp) rfl);clear hF al
   go_wp2_with fail
   exact aY.mk (.bool true) (Below.refl _ _) rfl rfl
  ·obtain⟨e7,f7⟩:=ba hF 7 41 (.bool true) hS rfl (by kernel_rfl) (al ⟨7,.data⟩ (by simp) rfl)
   have m6:=cY hF 6 40 (.bool false) hS rfl (by kernel_rfl) (al ⟨6,.guard⟩ (by simp) rfl);clear hF al
   go_wp2_with fail
   exact aY.mk (.bool false) (Below.refl _ _) rfl rfl
  ·obtain⟨e6,f6⟩:=ba hF 6 40 (.bool false) hS rfl (by kernel_rfl) (al ⟨6,.data⟩ (by simp) rfl)
   obtain⟨e8,f8⟩:=ba hF 8 42 (.bool false) hS rfl (by kernel_rfl) (al ⟨8,.data⟩ (by simp) rfl);clear hF al
   go_wp2_with fail
   exact aY.mk (.bool false) (Below.refl _ _) rfl rfl
  ·obtain⟨e9,f9⟩:=ba hF 9 43 (.bool false) hS rfl (by kernel_rfl) (al ⟨9,.data⟩ (by simp) rfl)
   clear hF al
   go_wp2_with fail
   exact aY.mk (.bool false) (Below.refl _ _) rfl rfl
  ·obtain⟨g4,h4⟩:=gN hF 4 (.int .i64 3) (by decide) rfl
   have m10:=cY hF 10 44 (.bool false) hS rfl (by kernel_rfl) (al ⟨10,.guard⟩ (by simp) rfl);clear hF al
   go_wp2_with fail
   exact aY.mk (.int .i64 3) (Below.refl _ _) rfl rfl
  ·obtain⟨e11,f11⟩:=ba hF 11 45 (.int .i64 3) hS rfl (by kernel_rfl) (al ⟨11,.data⟩ (by simp) rfl)
   have m10:=cY hF 10 44 (.bool false) hS rfl (by kernel_rfl) (al ⟨10,.guard⟩ (by simp) rfl);clear hF al
   go_wp2_with fail
   exact aY.mk (.bool false) (Below.refl _ _) rfl rfl
  ·obtain⟨e10,f10⟩:=ba hF 10 44 (.bool false) hS rfl (by kernel_rfl) (al ⟨10,.data⟩ (by simp) rfl)
   obtain⟨e12,f12⟩:=ba hF 12 46 (.bool false) hS rfl (by kernel_rfl) (al ⟨12,.data⟩ (by simp) rfl);clear hF al
   go_wp2_with fail
   exact aY.mk (.bool false) (Below.refl _ _) rfl rfl
  ·obtain⟨e13,f13⟩:=ba hF 13 47 (.bool false) hS rfl (by kernel_rfl) (al ⟨13,.data⟩ (by simp) rfl)
   clear hF al
   go_wp2_with fail
   exact aY.mk (.bool false) (Below.refl _ _) rfl rfl
  ·obtain⟨g8,h8⟩:=gN hF 8 (.int .i64 1) (by decide) rfl
   have m14:=cY hF 14 48 (.bool false) hS rfl (by kernel_rfl) (al ⟨14,.guard⟩ (by simp) rfl);clear hF al
   go_wp2_with fail
   exact aY.mk (.int .i64 1) (Below.refl _ _) rfl rfl
  ·obtain⟨e15,f15⟩:=ba hF 15 49 (.int .i64 1) hS rfl (by kernel_rfl) (al ⟨15,.data⟩ (by simp) rfl)
   have m14:=cY hF 14 48 (.bool false) hS rfl (by kernel_rfl) (al ⟨14,.guard⟩ (by simp) rfl);clear hF al
   go_wp2_with fail
   exact aY.mk (.bool false) (Below.refl _ _) rfl rfl
  ·obtain⟨e14,f14⟩:=ba hF 14 48 (.bool false) hS rfl (by kernel_rfl) (al ⟨14,.data⟩ (by simp) rfl)
   obtain⟨e16,f16⟩:=ba hF 16 50 (.bool false) hS rfl (by kernel_rfl) (al ⟨16,.data⟩ (by simp) rfl);clear hF al
   go_wp2_with fail
   exact aY.mk (.bool false) (Below.refl _ _) rfl rfl
  ·obtain⟨e17,f17⟩:=ba hF 17 51 (.bool false) hS rfl (by kernel_rfl) (al ⟨17,.data⟩ (by simp) rfl)
   clear hF al
   go_wp2_with fail
   exact aY.mk (.bool false) (Below.refl _ _) rfl rfl
  ·obtain⟨g3,h3⟩:=gN hF 3 (.pointer (some ⟨w2.heap.size,0,none⟩)) (by decide) rfl
   have m18:=cY hF 18 52 (.bool false) hS rfl (by kernel_rfl) (al ⟨18,.guard⟩ (by simp) rfl);clear hF al
   go_wp2_with fail
   exact aY.mk (.pointer (some ⟨w2.heap.size,0,none⟩)) (Below.refl _ _) rfl rfl
  ·obtain⟨e19,f19⟩:=ba hF 19 53 (.pointer (some ⟨w2.heap.size,0,none⟩)) hS rfl (by kernel_rfl) (al ⟨19,.data⟩ (by simp) rfl)
   have m18:=cY hF 18 52 (.bool false) hS rfl (by kernel_rfl) (al ⟨18,.guard⟩ (by simp) rfl);have tb:=ae (ak hB SH.out);clear hF al
   go_wp2_with fail
   exact aY.mk (.slice pi ni ci) (Below.refl _ _) rfl rfl
  ·have m18:=cY hF 18 52 (.bool false) hS rfl (by kernel_rfl) (al ⟨18,.guard⟩ (by simp) rfl)
   clear hF al
   go_wp2_with fail
   exact aY.mk (sV W.heap.size 2) (by go_grown) ⟨_,rfl,ar _ _⟩ rfl
  ·obtain⟨e20,f20⟩:=ba hF 20 54 (.slice pi ni ci) hS rfl (by kernel_rfl) (al ⟨20,.data⟩ (by simp) rfl)
   have d21:=al ⟨21,.data⟩ (by simp) rfl;have m18:=cY hF 18 52 (.bool false) hS rfl (by kernel_rfl) (al ⟨18,.guard⟩ (by simp) rfl);obtain⟨i,ei,hi⟩:=d21;obtain⟨e21,f21⟩:=ba hF 21 55 _ hS rfl (by kernel_rfl) ei;clear hF al
   go_wp2_with fail
   refine(fP _ _ [0,1] [0,1] W (Wo.out.up up_int hB) (ib [0,1] hi (by decide) (by decide))).mono ?_;rintro e W' ⟨rfl,eS⟩
   go_wp2_with fail
   exact aY.mk (.bool true) eS rfl rfl
  ·obtain⟨e22,f22⟩:=ba hF 22 56 (.bool true) hS rfl (by kernel_rfl) (al ⟨22,.data⟩ (by simp) rfl)
   have m18:=cY hF 18 52 (.bool false) hS rfl (by kernel_rfl) (al ⟨18,.guard⟩ (by simp) rfl);clear hF al
   go_wp2_with fail
   exact aY.mk (.bool false) (Below.refl _ _) rfl rfl
  ·obtain⟨e18,f18⟩:=ba hF 18 52 (.bool false) hS rfl (by kernel_rfl) (al ⟨18,.data⟩ (by simp) rfl)
   obtain⟨e23,f23⟩:=ba hF 23 57 (.bool false) hS rfl (by kernel_rfl) (al ⟨23,.data⟩ (by simp) rfl);clear hF al
   go_wp2_with fail
   exact aY.mk (.bool false) (Below.refl _ _) rfl rfl
  ·obtain⟨e24,f24⟩:=ba hF 24 58 (.bool false) hS rfl (by kernel_rfl) (al ⟨24,.data⟩ (by simp) rfl)
   clear hF al
   go_wp2_with fail
   exact aY.mk (.bool false) (Below.refl _ _) rfl rfl
  ·obtain⟨g3,h3⟩:=gN hF 3 (.pointer (some ⟨w2.heap.size,0,none⟩)) (by decide) rfl
   have m25:=cY hF 25 59 (.bool false) hS rfl (by kernel_rfl) (al ⟨25,.guard⟩ (by simp) rfl);clear hF al
   go_wp2_with fail
   exact aY.mk (.pointer (some ⟨w2.heap.size,1,none⟩)) (Below.refl _ _) rfl rfl
  ·obtain⟨e26,f26⟩:=ba hF 26 60 (.pointer (some ⟨w2.heap.size,1,none⟩)) hS rfl (by kernel_rfl) (al ⟨26,.data⟩ (by simp) rfl)
   have m25:=cY hF 25 59 (.bool false) hS rfl (by kernel_rfl) (al ⟨25,.guard⟩ (by simp) rfl);have tb:=ae (ak hB SH.out);clear hF al
   go_wp2_with fail
   exact aY.mk (.slice pw nw cw) (Below.refl _ _) rfl rfl
  ·have m25:=cY hF 25 59 (.bool false) hS rfl (by kernel_rfl) (al ⟨25,.guard⟩ (by simp) rfl)
   clear hF al
   go_wp2_with fail
   refine(k8 3 2 W).mono ?_;rintro e W' ⟨rfl,eS⟩
   go_wp2_with fail
   exact aY.mk (.agg #[.int .i64 2,.int .i64 3,.int .i64 2,.int .i64 0,.int .i64 0,.int .i64 0,.int .i64 0]) eS rfl rfl
  ·obtain⟨e28,f28⟩:=ba hF 28 62 (.agg #[.int .i64 2,.int .i64 3,.int .i64 2,.int .i64 0,.int .i64 0,.int .i64 0,.int .i64 0]) hS rfl (by kernel_rfl) (al ⟨28,.data⟩ (by simp) rfl)
   have m25:=cY hF 25 59 (.bool false) hS rfl (by kernel_rfl) (al ⟨25,.guard⟩ (by simp) rfl);clear hF al
   go_wp2_with fail
   exact aY.mk (sV W.heap.size 1) (by go_grown) ⟨_,rfl,ar _ _⟩ rfl
  ·obtain⟨e27,f27⟩:=ba hF 27 61 (.slice pw nw cw) hS rfl (by kernel_rfl) (al ⟨27,.data⟩ (by simp) rfl)
   have d29:=al ⟨29,.data⟩ (by simp) rfl;have m25:=cY hF 25 59 (.bool false) hS rfl (by kernel_rfl) (al ⟨25,.guard⟩ (by simp) rfl);obtain⟨i,ei,hi⟩:=d29;obtain⟨e29,f29⟩:=ba hF 29 63 _ hS rfl (by kernel_rfl) ei;clear hF al
   go_wp2_with fail
   refine(nU _ _ [cA 3 2] [cA 3 2] W (VF.out.up up_round hB) (rx hi (ue 3 2 (by decide) (by decide)))).mono ?_;rintro e W' ⟨rfl,eS⟩
   go_wp2_with fail
   exact aY.mk (.bool true) eS rfl rfl
  ·obtain⟨e30,f30⟩:=ba hF 30 64 (.bool true) hS rfl (by kernel_rfl) (al ⟨30,.data⟩ (by simp) rfl)
   have m25:=cY hF 25 59 (.bool false) hS rfl (by kernel_rfl) (al ⟨25,.guard⟩ (by simp) rfl);clear hF al
   go_wp2_with fail
   exact aY.mk (.bool false) (Below.refl _ _) rfl rfl
  ·obtain⟨e25,f25⟩:=ba hF 25 59 (.bool false) hS rfl (by kernel_rfl) (al ⟨25,.data⟩ (by simp) rfl)
   obtain⟨e31,f31⟩:=ba hF 31 65 (.bool false) hS rfl (by kernel_rfl) (al ⟨31,.data⟩ (by simp) rfl);clear hF al
   go_wp2_with fail
   exact aY.mk (.bool false) (Below.refl _ _) rfl rfl
  ·obtain⟨e32,f32⟩:=ba hF 32 66 (.bool false) hS rfl (by kernel_rfl) (al ⟨32,.data⟩ (by simp) rfl)
   clear hF al
   go_wp2_with fail
   exact aY.mk (.bool false) (Below.refl _ _) rfl rfl
  ·obtain⟨g7,h7⟩:=gN hF 7 (.pointer (some ⟨w3.heap.size,0,none⟩)) (by decide) rfl
   have m33:=cY hF 33 67 (.bool false) hS rfl (by kernel_rfl) (al ⟨33,.guard⟩ (by simp) rfl);clear hF al
   go_wp2_with fail
   exact aY.mk (.pointer (some ⟨w3.heap.size,0,none⟩)) (Below.refl _ _) rfl rfl
  ·obtain⟨e34,f34⟩:=ba hF 34 68 (.pointer (some ⟨w3.heap.size,0,none⟩)) hS rfl (by kernel_rfl) (al ⟨34,.data⟩ (by simp) rfl)
   have m33:=cY hF 33 67 (.bool false) hS rfl (by kernel_rfl) (al ⟨33,.guard⟩ (by simp) rfl);have tb:=ae (ak hB VG.out);clear hF al
   go_wp2_with fail
   exact aY.mk (.slice pj nj cj) (Below.refl _ _) rfl rfl
  ·have m33:=cY hF 33 67 (.bool false) hS rfl (by kernel_rfl) (al ⟨33,.guard⟩ (by simp) rfl)
   clear hF al
   go_wp2_with fail
   exact aY.mk (sV W.heap.size 2) (by go_grown) ⟨_,rfl,ar _ _⟩ rfl
  ·obtain⟨e35,f35⟩:=ba hF 35 69 (.slice pj nj cj) hS rfl (by kernel_rfl) (al ⟨35,.data⟩ (by simp) rfl)
   have d36:=al ⟨36,.data⟩ (by simp) rfl;have m33:=cY hF 33 67 (.bool false) hS rfl (by kernel_rfl) (al ⟨33,.guard⟩ (by simp) rfl);obtain⟨i,ei,hi⟩:=d36;obtain⟨e36,f36⟩:=ba hF 36 70 _ hS rfl (by kernel_rfl) ei;clear hF al
   go_wp2_with fail
   refine(fP _ _ [0,0] [0,0] W (PQ.out.up up_int hB) (ib [0,0] hi (by decide) (by decide))).mono ?_;rintro e W' ⟨rfl,eS⟩
   go_wp2_with fail
   exact aY.mk (.bool true) eS rfl rfl
  ·obtain⟨e37,f37⟩:=ba hF 37 71 (.bool true) hS rfl (by kernel_rfl) (al ⟨37,.data⟩ (by simp) rfl)
   have m33:=cY hF 33 67 (.bool false) hS rfl (by kernel_rfl) (al ⟨33,.guard⟩ (by simp) rfl);clear hF al
   go_wp2_with fail
   exact aY.mk (.bool false) (Below.refl _ _) rfl rfl
  ·obtain⟨e33,f33⟩:=ba hF 33 67 (.bool false) hS rfl (by kernel_rfl) (al ⟨33,.data⟩ (by simp) rfl)
   obtain⟨e38,f38⟩:=ba hF 38 72 (.bool false) hS rfl (by kernel_rfl) (al ⟨38,.data⟩ (by simp) rfl);clear hF al
   go_wp2_with fail
   exact aY.mk (.bool false) (Below.refl _ _) rfl rfl
  ·obtain⟨e39,f39⟩:=ba hF 39 73 (.bool false) hS rfl (by kernel_rfl) (al ⟨39,.data⟩ (by simp) rfl)
   clear hF al
   go_wp2_with fail
   exact aY.mk (.bool false) (Below.refl _ _) rfl rfl
  ·obtain⟨g7,h7⟩:=gN hF 7 (.pointer (some ⟨w3.heap.size,0,none⟩)) (by decide) rfl
   have m40:=cY hF 40 74 (.bool false) hS rfl (by kernel_rfl) (al ⟨40,.guard⟩ (by simp) rfl);clear hF al
   go_wp2_with fail
   exact aY.mk (.pointer (some ⟨w3.heap.size,1,none⟩)) (Below.refl _ _) rfl rfl
  ·obtain⟨e41,f41⟩:=ba hF 41 75 (.pointer (some ⟨w3.heap.size,1,none⟩)) hS rfl (by kernel_rfl) (al ⟨41,.data⟩ (by simp) rfl)
   have m40:=cY hF 40 74 (.bool false) hS rfl (by kernel_rfl) (al ⟨40,.guard⟩ (by simp) rfl);have tb:=ae (ak hB VG.out);clear hF al
   go_wp2_with fail
   exact aY.mk (.slice px nx cx) (Below.refl _ _) rfl rfl
  ·have m40:=cY hF 40 74 (.bool false) hS rfl (by kernel_rfl) (al ⟨40,.guard⟩ (by simp) rfl)
   clear hF al
   go_wp2_with fail
   refine(k8 1 3 W).mono ?_;rintro e W' ⟨rfl,eS⟩
   go_wp2_with fail
   exact aY.mk (.agg #[.int .i64 2,.int .i64 1,.int .i64 3,.int .i64 0,.int .i64 0,.int .i64 0,.int .i64 0]) eS rfl rfl
  ·obtain⟨e43,f43⟩:=ba hF 43 77 (.agg #[.int .i64 2,.int .i64 1,.int .i64 3,.int .i64 0,.int .i64 0,.int .i64 0,.int .i64 0]) hS rfl (by kernel_rfl) (al ⟨43,.data⟩ (by simp) rfl)
   have m40:=cY hF 40 74 (.bool false) hS rfl (by kernel_rfl) (al ⟨40,.guard⟩ (by simp) rfl);clear hF al
   go_wp2_with fail
   exact aY.mk (sV W.heap.size 1) (by go_grown) ⟨_,rfl,ar _ _⟩ rfl
  ·obtain⟨e42,f42⟩:=ba hF 42 76 (.slice px nx cx) hS rfl (by kernel_rfl) (al ⟨42,.data⟩ (by simp) rfl)
   have d44:=al ⟨44,.data⟩ (by simp) rfl;have m40:=cY hF 40 74 (.bool false) hS rfl (by kernel_rfl) (al ⟨40,.guard⟩ (by simp) rfl);obtain⟨i,ei,hi⟩:=d44;obtain⟨e44,f44⟩:=ba hF 44 78 _ hS rfl (by kernel_rfl) ei;clear hF al
   go_wp2_with fail
   refine(nU _ _ [cA 1 3] [cA 1 3] W (HXW.out.up up_round hB) (rx hi (ue 1 3 (by decide) (by decide)))).mono ?_;rintro e W' ⟨rfl,eS⟩
   go_wp2_with fail
   exact aY.mk (.bool true) eS rfl rfl
  ·obtain⟨e45,f45⟩:=ba hF 45 79 (.bool true) hS rfl (by kernel_rfl) (al ⟨45,.data⟩ (by simp) rfl)
   have m40:=cY hF 40 74 (.bool false) hS rfl (by kernel_rfl) (al ⟨40,.guard⟩ (by simp) rfl);clear hF al
   go_wp2_with fail
   exact aY.mk (.bool false) (Below.refl _ _) rfl rfl
  ·obtain⟨e40,f40⟩:=ba hF 40 74 (.bool false) hS rfl (by kernel_rfl) (al ⟨40,.data⟩ (by simp) rfl)
   obtain⟨e46,f46⟩:=ba hF 46 80 (.bool false) hS rfl (by kernel_rfl) (al ⟨46,.data⟩ (by simp) rfl);clear hF al
   go_wp2_with fail
   exact aY.mk (.bool false) (Below.refl _ _) rfl rfl
 case tail=>
  clear hS;intro x w5 F hB aM hF;have e47:=aM 47 (by omega);change x 47=_ at e47;clear aM;simp only[bg,bQ,List.setIfInBounds_toArray,List.set_cons_succ,List.set_cons_zero,Nat.reduceAdd]at hF;simp only[e47]at hF;generalize x 0=r0,x 1=r1,x 2=r2,x 3=r3,x 4=r4,x 5=r5,x 6=r6,x 7=r7,x 8=r8,x 9=r9,x 10=r10,x 11=r11,x 12=r12,x 13=r13,x 14=r14,x 15=r15,x 16=r16,x 17=r17,x 18=r18,x 19=r19,x 20=r20,x 21=r21,x 22=r22,x 23=r23,x 24=r24,x 25=r25,x 26=r26,x 27=r27,x 28=r28,x 29=r29,x 30=r30,x 31=r31,x 32=r32,x 33=r33,x 34=r34,x 35=r35,x 36=r36,x 37=r37,x 38=r38,x 39=r39,x 40=r40,x 41=r41,x 42=r42,x 43=r43,x 44=r44,x 45=r45,x 46=r46 at hF;subst hF;have xy:=aa (aj MN.out hB);have Uo:=aa (ak xy.out Dh.out);have IZ:=aa (ak xy.out jO.out);have HT5:=aa (ak hB SH.out);have HBX5:=aa (aj vu.out xy.out);have HUI5:=aa (Wo.out.up up_int hB);have HUW5:=aa (VF.out.up up_round hB);clear hB e47 PQ HXW Wo VF VG SH
  go_wp2_with fail
  have hS:List.Nodup [83,84,85,86,87,88,82,89,90,10,6]:=by decide
  refine lV 11 [83,84,85,86,87,88,82,89,90,10,6] [MP.eq (.agg #[.int .i64 p.t.n,.int .i64 p.t.ins,.int .i64 p.t.outs,.slice pc p.t.cases.length cc,.int .i64 p.a.n,.slice ps p.a.states.length cs,.int .i64 p.rounds]),BY [1,0],MP.eq (.agg #[.int .i64 2,.int .i64 1,.int .i64 3,.int .i64 0,.int .i64 0,.int .i64 0,.int .i64 0]),Ok (cA 1 3),QU [1,0] (cA 1 3),Ui [⟨[1,0],[cA 3 3]⟩,⟨[0,0],[cA 1 3]⟩],Ui [⟨[1,0],[cA 3 3]⟩,⟨[0,0],[cA 1 3]⟩],Uj [⟨[1,0],[cA 3 3]⟩,⟨[0,0],[cA 1 3]⟩],MP.eq (.int .i64 0),Uj [⟨[1,0],[cA 3 3]⟩,⟨[0,0],[cA 1 3]⟩],MP.eq (.int .i64 0)] (by kernel_rfl) rfl hS rfl (by kernel_rfl) ?step ?tail
  case step=>
   intro x W i o s F hi ho hs hB al hF;rcases (show i=0\/i=1\/i=2\/i=3\/i=4\/i=5\/i=6\/i=7\/i=8\/i=9\/i=10 by omega) with rfl|rfl|rfl|rfl|rfl|rfl|rfl|rfl|rfl|rfl|rfl
   all_goals (obtain rfl:=cO ho.symm;obtain rfl:=cO hs.symm;clear hi ho hs)
   ·obtain⟨g1,h1⟩:=gN hF 1 (.pointer (some ⟨w1.heap.size,0,none⟩)) (by decide) rfl
    have tb:=ae (ak hB Uo.out);clear hF al
    go_wp2_with fail
    exact aY.mk (.agg #[.int .i64 p.t.n,.int .i64 p.t.ins,.int .i64 p.t.outs,.slice pc p.t.cases.length cc,.int .i64 p.a.n,.slice ps p.a.states.length cs,.int .i64 p.rounds]) (Below.refl _ _) rfl rfl
   ·clear hF al
    go_wp2_with fail
    exact aY.mk (sV W.heap.size 2) (by go_grown) ⟨_,rfl,ar _ _⟩ rfl
   ·clear hF al
    go_wp2_with fail
    refine(k8 1 3 W).mono ?_;rintro e W' ⟨rfl,eS⟩
    go_wp2_with fail
    exact aY.mk (.agg #[.int .i64 2,.int .i64 1,.int .i64 3,.int .i64 0,.int .i64 0,.int .i64 0,.int .i64 0]) eS rfl rfl
   ·obtain⟨e2,f2⟩:=ba hF 2 85 (.agg #[.int .i64 2,.int .i64 1,.int .i64 3,.int .i64 0,.int .i64 0,.int .i64 0,.int .i64 0]) hS rfl (by kernel_rfl) (al ⟨2,.data⟩ (by simp) rfl)
    clear hF al
    go_wp2_with fail
    exact aY.mk (sV W.heap.size 1) (by go_grown) ⟨_,rfl,ar _ _⟩ rfl
   ·have d1:=al ⟨1,.data⟩ (by simp) rfl
    have d3:=al ⟨3,.data⟩ (by simp) rfl;obtain⟨i,ei,hi⟩:=d1;obtain⟨j,ej,hj⟩:=d3;obtain⟨e1,f1⟩:=ba hF 1 84 _ hS rfl (by kernel_rfl) ei;obtain⟨e3,f3⟩:=ba hF 3 86 _ hS rfl (by kernel_rfl) ej;clear hF al
    go_wp2_with fail
    exact aY.mk (.agg #[sV i 2,sV j 1]) (Below.refl _ _) ⟨_,_,rfl,hi,hj⟩ rfl
   ·obtain⟨e0,f0⟩:=ba hF 0 83 (.agg #[.int .i64 p.t.n,.int .i64 p.t.ins,.int .i64 p.t.outs,.slice pc p.t.cases.length cc,.int .i64 p.a.n,.slice ps p.a.states.length cs,.int .i64 p.rounds]) hS rfl (by kernel_rfl) (al ⟨0,.data⟩ (by simp) rfl)
    have d4:=al ⟨4,.data⟩ (by simp) rfl;obtain⟨i,j,ei,hi,hj⟩:=d4;obtain⟨e4,f4⟩:=ba hF 4 87 _ hS rfl (by kernel_rfl) ei;clear hF al
    go_wp2_with fail
    have cJ:=aj HBX5.out hB;refine(Gk p ⟨[1,0],[cA 1 3]⟩ _ _ _ _ W (HC.out.up up_case cJ) (HS.out.up up_moves cJ) HE.out.hN (ib [1,0] hi (by decide) (by decide)) (rx hj (ue 1 3 (by decide) (by decide)))).mono ?_;rintro e W' ⟨u,rfl,hu,eS⟩;rw[HE.out.nb]at hu;have hz:(pE p ⟨[1,0],[cA 1 3]⟩).2=0:=by rw[HE.out.nb]
    rw[hz]
    go_wp2_with fail
    exact aY.mk (.tuple #[u,.int .i64 0]) eS ⟨u,rfl,hu⟩ rfl
   ·have d5:=al ⟨5,.data⟩ (by simp) rfl
    obtain⟨u,eu,hu⟩:=d5;obtain⟨e5,f5⟩:=ba hF 5 88 _ hS rfl (by kernel_rfl) eu;clear hF al
    go_wp2_with fail
    exact aY.mk (.tuple #[u,.int .i64 0]) (Below.refl _ _) ⟨u,rfl,hu⟩ rfl
   ·have d6:=al ⟨6,.data⟩ (by simp) rfl
    obtain⟨u,eu,hu⟩:=d6;obtain⟨e6,f6⟩:=ba hF 6 82 _ hS rfl (by kernel_rfl) eu;clear hF al
    go_wp2_with fail
    exact aY.mk u (Below.refl _ _) hu rfl
   ·have d6:=al ⟨6,.data⟩ (by simp) rfl
    obtain⟨u,eu,hu⟩:=d6;obtain⟨e6,f6⟩:=ba hF 6 82 _ hS rfl (by kernel_rfl) eu;clear hF al
    go_wp2_with fail
    exact aY.mk (.int .i64 0) (Below.refl _ _) rfl rfl
   ·have d7:=al ⟨7,.data⟩ (by simp) rfl
    obtain⟨e7,f7⟩:=ba hF 7 89 _ hS rfl (by kernel_rfl) rfl;clear hF al
    go_wp2_with fail
    exact aY.mk (x 7) (Below.refl _ _) d7 rfl
   ·obtain⟨e8,f8⟩:=ba hF 8 90 (.int .i64 0) hS rfl (by kernel_rfl) (al ⟨8,.data⟩ (by simp) rfl)
    clear hF al
    go_wp2_with fail
    exact aY.mk (.int .i64 0) (Below.refl _ _) rfl rfl
  case tail=>
   clear hS;intro x w6 F hB aM hF;have e10:=aM 10 (by omega);have d9:=aM 9 (by omega);change x 10=_ at e10;change j9 w6 (x 9) _ at d9;obtain⟨pl,cl,e9,_,_,el⟩:=d9.at;obtain⟨bl,ol,rfl,⟨va,ca0,ia⟩,⟨wa,ca1,ja⟩⟩:=el 0 (by decide);obtain⟨bl',ol',ebl,⟨vb,cb0,ib0⟩,⟨wb,cb1,jb⟩⟩:=el 1 (by decide);cases ebl;change aU w6 va [1,0]at ia;change bN w6 wa [cA 3 3]at ja;change aU w6 vb [0,0]at ib0;change bN w6 wb [cA 1 3]at jb;have UI:=aa ia;have HJA:=aa ja;have UZ:=aa ib0;have HJB:=aa jb;obtain⟨p5,c5,rfl,_⟩:=ia.at;obtain⟨p6,c6,rfl,_⟩:=ja.at;obtain⟨p7,c7,rfl,_⟩:=ib0.at;obtain⟨p8,c8,rfl,_⟩:=jb.at;have HCA0:=aa ca0;have HCA1:=aa ca1;have HCB0:=aa cb0;have HCB1:=aa cb1;clear ia ja ib0 jb el d9 ca0 ca1 cb0 cb1;simp only[bg,bQ,List.setIfInBounds_toArray,List.set_cons_succ,List.set_cons_zero,Nat.reduceAdd]at hF;simp only[e9,e10]at hF;generalize x 0=r0,x 1=r1,x 2=r2,x 3=r3,x 4=r4,x 5=r5,x 6=r6,x 7=r7,x 8=r8 at hF;subst hF;have PK:=aa (ak hB Uo.out);have P5:=aa (ak hB IZ.out);have HT6:=aa (ak hB HT5.out);have Rz:=aa (aj HBX5.out hB);have RS:=aa (HUI5.out.up up_int hB);have Se:=aa (HUW5.out.up up_round hB);have tP:=fun o=>ae (aq o PK.out);have tM:=fun o=>ae (aq o P5.out);have tT:=ae HT6.out
   clear hB e9 e10 aM Uo IZ HT5 HUI5 HUW5
   go_wp2_with fail
   refine aT (fun W=>Below w6.heap.size w6 W/\W.heap[w6.heap.size]?=some (.cells #[.slice pi ni ci,.slice pw nw cw] 39)) ⟨by go_grown,ar _ _⟩ (fun w7 hW7=>?_);obtain⟨jA,hX7⟩:=hW7;have cJ:=aj Rz.out jA;clear tP tM tT;refine(zx p _ _ m _ _ _ _ _ _ ⟨[0,1],[cA 3 2]⟩ w7 (HC.out.up up_case cJ) (HS.out.up up_moves cJ) HE.out.hN (HF.out.up up_ints cJ) (HY.out.up up_v3 cJ) (HT.out.up up_step cJ) (HO.out.up up_vecs cJ) (RS.out.up up_int jA) (Se.out.up up_round jA)).mono ?_;rintro e w8 ⟨rfl,rF⟩;rw[HE.out.mi];have I':=aj jA rF;have HP8:=aa (ak I' PK.out);have HM8:=aa (ak I' P5.out);have HX8:=aa (ak rF hX7);have HBX8:=aa (aj Rz.out I');have Sk:=aa I';have tP:=ae HP8.out;have tM:=ae HM8.out;have tX:=ae HX8.out;clear jA rF I' hX7 cJ
   go_wp2_with fail
   clear tP tM tX;have cJ:=HBX8.out;refine(vg p _ _ m _ _ _ _ _ _ ⟨[0,1],[cA 3 2]⟩ w8 (HC.out.up up_case cJ) (HS.out.up up_moves cJ) HE.out.hN (HF.out.up up_ints cJ) (HY.out.up up_v3 cJ) (HT.out.up up_step cJ) (HO.out.up up_vecs cJ) (RS.out.up up_int Sk.out) (Se.out.up up_round Sk.out)).mono ?_;rintro e w9 ⟨u1,u2,rfl,wD,oh,eA⟩;rw[HE.out.sh]at wD oh ⊢;change aU w9 u1 [0,1]at wD;change bN w9 u2 [cA 3 2]at oh;have IU:=aa wD;have yf:=aa oh;obtain⟨q1,k1,rfl,_⟩:=wD.at;obtain⟨q2,k2,rfl,_⟩:=oh.at;obtain⟨m1,oC⟩:∃ n,n=([0,1]:List Int).length:=⟨_,rfl⟩;obtain⟨m2,kb⟩:∃ n,n=[cA 3 2].length:=⟨_,rfl⟩;rw[<-oC]at IU ⊢;rw[<-kb]at yf ⊢;have I8:=aa (ak eA HX8.out);have tX:=fun o=>ae (aq o I8.out)
   have HB69:=aa (aj Sk.out eA);clear wD oh eA cJ oC kb
   go_wp2_with fail
   clear tX;refine aT (fun W=>Below w9.heap.size w9 W) (by go_grown) (fun w10 vk=>?_);have Gy:=aj HB69.out vk;refine(si ⟨[0,1],[cA 3 2]⟩ ⟨[0,1],[cA 3 2]⟩ _ _ _ _ w10 (RS.out.up up_int Gy) (Se.out.up up_round Gy) (IU.out.up up_int vk) (yf.out.up up_round vk)).mono ?_;rintro e w11 ⟨rfl,hb11⟩;rw[show decide ((⟨[0,1],[cA 3 2]⟩:Py)=⟨[0,1],[cA 3 2]⟩)=true by decide];have AQ:=aa (aj Gy hb11);clear vk hb11 Gy
   go_wp2_with fail
   have hS:List.Nodup [131,132,133,134,135,136,137,138,139,140,141,142,143,144,145,146,147,148,0]:=by decide
   refine lV 19 [131,132,133,134,135,136,137,138,139,140,141,142,143,144,145,146,147,148,0] [MP.eq (.slice (some ⟨bl,ol,none⟩) 2 cl),MP.eq (.pointer (some ⟨bl,ol,none⟩)),MP.eq (.agg #[.slice p5 ([1,0]:List Int).length c5,.slice p6 [cA 3 3].length c6]),BY [1,0],MP.eq (.agg #[.int .i64 2,.int .i64 3,.int .i64 3,.int .i64 0,.int .i64 0,.int .i64 0,.int .i64 0]),Ok (cA 3 3),QU [1,0] (cA 3 3),MP.eq (.bool true),MP.eq (.bool true),MP.eq (.slice (some ⟨bl,ol,none⟩) 2 cl),MP.eq (.pointer (some ⟨bl,ol+2,none⟩)),MP.eq (.agg #[.slice p7 ([0,0]:List Int).length c7,.slice p8 [cA 1 3].length c8]),BY [0,0],MP.eq (.agg #[.int .i64 2,.int .i64 1,.int .i64 3,.int .i64 0,.int .i64 0,.int .i64 0,.int .i64 0]),Ok (cA 1 3),QU [0,0] (cA 1 3),MP.eq (.bool true),MP.eq (.bool true),MP.eq (.bool true)] (by kernel_rfl) rfl hS rfl (by kernel_rfl) ?step ?tail
   case step=>
    intro x W i o s F hi ho hs hB al hF;rcases (show i=0\/i=1\/i=2\/i=3\/i=4\/i=5\/i=6\/i=7\/i=8\/i=9\/i=10\/i=11\/i=12\/i=13\/i=14\/i=15\/i=16\/i=17\/i=18 by omega) with rfl|rfl|rfl|rfl|rfl|rfl|rfl|rfl|rfl|rfl|rfl|rfl|rfl|rfl|rfl|rfl|rfl|rfl|rfl
    all_goals (obtain rfl:=cO ho.symm;obtain rfl:=cO hs.symm;clear hi ho hs)
    ·obtain⟨g10,rR⟩:=gN hF 10 (.slice (some ⟨bl,ol,none⟩) 2 cl) (by decide) rfl
     clear hF al
     go_wp2_with fail
     exact aY.mk (.slice (some ⟨bl,ol,none⟩) 2 cl) (Below.refl _ _) rfl rfl
    ·obtain⟨e0,f0⟩:=ba hF 0 131 (.slice (some ⟨bl,ol,none⟩) 2 cl) hS rfl (by kernel_rfl) (al ⟨0,.data⟩ (by simp) rfl)
     clear hF al
     go_wp2_with fail
     exact aY.mk (.pointer (some ⟨bl,ol,none⟩)) (Below.refl _ _) rfl rfl
    ·obtain⟨e1,f1⟩:=ba hF 1 132 (.pointer (some ⟨bl,ol,none⟩)) hS rfl (by kernel_rfl) (al ⟨1,.data⟩ (by simp) rfl)
     have t0:W.cell? ⟨bl,ol,none⟩=some _:=ay (aj AQ.out hB) HCA0.out;have t1:W.cell? ⟨bl,ol+1,none⟩=some _:=ay (aj AQ.out hB) HCA1.out;clear hF al
     go_wp2_with fail
     exact aY.mk (.agg #[.slice p5 ([1,0]:List Int).length c5,.slice p6 [cA 3 3].length c6]) (Below.refl _ _) rfl rfl
    ·clear hF al
     go_wp2_with fail
     exact aY.mk (sV W.heap.size 2) (by go_grown) ⟨_,rfl,ar _ _⟩ rfl
    ·clear hF al
     go_wp2_with fail
     refine(k8 3 3 W).mono ?_;rintro e W' ⟨rfl,eS⟩
     go_wp2_with fail
     exact aY.mk (.agg #[.int .i64 2,.int .i64 3,.int .i64 3,.int .i64 0,.int .i64 0,.int .i64 0,.int .i64 0]) eS rfl rfl
    ·obtain⟨e4,f4⟩:=ba hF 4 135 (.agg #[.int .i64 2,.int .i64 3,.int .i64 3,.int .i64 0,.int .i64 0,.int .i64 0,.int .i64 0]) hS rfl (by kernel_rfl) (al ⟨4,.data⟩ (by simp) rfl)
     clear hF al
     go_wp2_with fail
     exact aY.mk (sV W.heap.size 1) (by go_grown) ⟨_,rfl,ar _ _⟩ rfl
    ·have d3:=al ⟨3,.data⟩ (by simp) rfl
     have d5:=al ⟨5,.data⟩ (by simp) rfl;obtain⟨i,ei,hi⟩:=d3;obtain⟨j,ej,hj⟩:=d5;obtain⟨e3,f3⟩:=ba hF 3 134 _ hS rfl (by kernel_rfl) ei;obtain⟨e5,f5⟩:=ba hF 5 136 _ hS rfl (by kernel_rfl) ej;clear hF al
     go_wp2_with fail
     exact aY.mk (.agg #[sV i 2,sV j 1]) (Below.refl _ _) ⟨_,_,rfl,hi,hj⟩ rfl
    ·obtain⟨e2,f2⟩:=ba hF 2 133 (.agg #[.slice p5 ([1,0]:List Int).length c5,.slice p6 [cA 3 3].length c6]) hS rfl (by kernel_rfl) (al ⟨2,.data⟩ (by simp) rfl)
     have d6:=al ⟨6,.data⟩ (by simp) rfl;obtain⟨i,j,ei,hi,hj⟩:=d6;obtain⟨e6,f6⟩:=ba hF 6 137 _ hS rfl (by kernel_rfl) ei;clear hF al
     go_wp2_with fail
     have cJ:=aj AQ.out hB;refine(si ⟨[1,0],[cA 3 3]⟩ ⟨[1,0],[cA 3 3]⟩ _ _ _ _ W (UI.out.up up_int cJ) (HJA.out.up up_round cJ) (ib [1,0] hi (by decide) (by decide)) (rx hj (ue 3 3 (by decide) (by decide)))).mono ?_;rintro e W' ⟨rfl,eS⟩;rw[show decide ((⟨[1,0],[cA 3 3]⟩:Py)=⟨[1,0],[cA 3 3]⟩)=true by decide]
     go_wp2_with fail
     exact aY.mk (.bool true) eS rfl rfl
    ·obtain⟨e7,f7⟩:=ba hF 7 138 (.bool true) hS rfl (by kernel_rfl) (al ⟨7,.data⟩ (by simp) rfl)
     clear hF al
     go_wp2_with fail
     exact aY.mk (.bool true) (Below.refl _ _) rfl rfl
    ·obtain⟨g10,rR⟩:=gN hF 10 (.slice (some ⟨bl,ol,none⟩) 2 cl) (by decide) rfl
     have m8:=cY hF 8 139 (.bool true) hS rfl (by kernel_rfl) (al ⟨8,.guard⟩ (by simp) rfl);clear hF al
     go_wp2_with fail
     exact aY.mk (.slice (some ⟨bl,ol,none⟩) 2 cl) (Below.refl _ _) rfl rfl
    ·obtain⟨e9,f9⟩:=ba hF 9 140 (.slice (some ⟨bl,ol,none⟩) 2 cl) hS rfl (by kernel_rfl) (al ⟨9,.data⟩ (by simp) rfl)
     have m8:=cY hF 8 139 (.bool true) hS rfl (by kernel_rfl) (al ⟨8,.guard⟩ (by simp) rfl);clear hF al
     go_wp2_with fail
     exact aY.mk (.pointer (some ⟨bl,ol+2,none⟩)) (Below.refl _ _) rfl rfl
    ·obtain⟨e10,f10⟩:=ba hF 10 141 (.pointer (some ⟨bl,ol+2,none⟩)) hS rfl (by kernel_rfl) (al ⟨10,.data⟩ (by simp) rfl)
     have m8:=cY hF 8 139 (.bool true) hS rfl (by kernel_rfl) (al ⟨8,.guard⟩ (by simp) rfl);have t0:W.cell? ⟨bl,ol+2,none⟩=some _:=ay (aj AQ.out hB) HCB0.out;have t1:W.cell? ⟨bl,ol+2+1,none⟩=some _:=ay (aj AQ.out hB) HCB1.out;clear hF al
     go_wp2_with fail
     exact aY.mk (.agg #[.slice p7 ([0,0]:List Int).length c7,.slice p8 [cA 1 3].length c8]) (Below.refl _ _) rfl rfl
    ·have m8:=cY hF 8 139 (.bool true) hS rfl (by kernel_rfl) (al ⟨8,.guard⟩ (by simp) rfl)
     clear hF al
     go_wp2_with fail
     exact aY.mk (sV W.heap.size 2) (by go_grown) ⟨_,rfl,ar _ _⟩ rfl
    ·have m8:=cY hF 8 139 (.bool true) hS rfl (by kernel_rfl) (al ⟨8,.guard⟩ (by simp) rfl)
     clear hF al
     go_wp2_with fail
     refine(k8 1 3 W).mono ?_;rintro e W' ⟨rfl,eS⟩
     go_wp2_with fail
     exact aY.mk (.agg #[.int .i64 2,.int .i64 1,.int .i64 3,.int .i64 0,.int .i64 0,.int .i64 0,.int .i64 0]) eS rfl rfl
    ·obtain⟨e13,f13⟩:=ba hF 13 144 (.agg #[.int .i64 2,.int .i64 1,.int .i64 3,.int .i64 0,.int .i64 0,.int .i64 0,.int .i64 0]) hS rfl (by kernel_rfl) (al ⟨13,.data⟩ (by simp) rfl)
     have m8:=cY hF 8 139 (.bool true) hS rfl (by kernel_rfl) (al ⟨8,.guard⟩ (by simp) rfl);clear hF al
     go_wp2_with fail
     exact aY.mk (sV W.heap.size 1) (by go_grown) ⟨_,rfl,ar _ _⟩ rfl
    ·have d12:=al ⟨12,.data⟩ (by simp) rfl
     have d14:=al ⟨14,.data⟩ (by simp) rfl;have m8:=cY hF 8 139 (.bool true) hS rfl (by kernel_rfl) (al ⟨8,.guard⟩ (by simp) rfl);obtain⟨i,ei,hi⟩:=d12;obtain⟨j,ej,hj⟩:=d14;obtain⟨e12,f12⟩:=ba hF 12 143 _ hS rfl (by kernel_rfl) ei;obtain⟨e14,f14⟩:=ba hF 14 145 _ hS rfl (by kernel_rfl) ej;clear hF al
     go_wp2_with fail
     exact aY.mk (.agg #[sV i 2,sV j 1]) (Below.refl _ _) ⟨_,_,rfl,hi,hj⟩ rfl
    ·obtain⟨e11,f11⟩:=ba hF 11 142 (.agg #[.slice p7 ([0,0]:List Int).length c7,.slice p8 [cA 1 3].length c8]) hS rfl (by kernel_rfl) (al ⟨11,.data⟩ (by simp) rfl)
     have d15:=al ⟨15,.data⟩ (by simp) rfl;have m8:=cY hF 8 139 (.bool true) hS rfl (by kernel_rfl) (al ⟨8,.guard⟩ (by simp) rfl);obtain⟨i,j,ei,hi,hj⟩:=d15;obtain⟨e15,f15⟩:=ba hF 15 146 _ hS rfl (by kernel_rfl) ei;clear hF al
     go_wp2_with fail
     have cJ:=aj AQ.out hB;refine(si ⟨[0,0],[cA 1 3]⟩ ⟨[0,0],[cA 1 3]⟩ _ _ _ _ W (UZ.out.up up_int cJ) (HJB.out.up up_round cJ) (ib [0,0] hi (by decide) (by decide)) (rx hj (ue 1 3 (by decide) (by decide)))).mono ?_;rintro e W' ⟨rfl,eS⟩;rw[show decide ((⟨[0,0],[cA 1 3]⟩:Py)=⟨[0,0],[cA 1 3]⟩)=true by decide]
     go_wp2_with fail
     exact aY.mk (.bool true) eS rfl rfl
    ·obtain⟨e8,f8⟩:=ba hF 8 139 (.bool true) hS rfl (by kernel_rfl) (al ⟨8,.data⟩ (by simp) rfl)
     obtain⟨e16,f16⟩:=ba hF 16 147 (.bool true) hS rfl (by kernel_rfl) (al ⟨16,.data⟩ (by simp) rfl);clear hF al
     go_wp2_with fail
     exact aY.mk (.bool true) (Below.refl _ _) rfl rfl
    ·obtain⟨e17,f17⟩:=ba hF 17 148 (.bool true) hS rfl (by kernel_rfl) (al ⟨17,.data⟩ (by simp) rfl)
     clear hF al
     go_wp2_with fail
     exact aY.mk (.bool true) (Below.refl _ _) rfl rfl
   case tail=>
    clear hS;intro x w12 F hB aM hF;have e18:=aM 18 (by omega);change x 18=_ at e18;clear aM;simp only[bg,bQ,List.setIfInBounds_toArray,List.set_cons_succ,List.set_cons_zero,Nat.reduceAdd]at hF;simp only[e18]at hF;generalize x 0=r0,x 1=r1,x 2=r2,x 3=r3,x 4=r4,x 5=r5,x 6=r6,x 7=r7,x 8=r8,x 9=r9,x 10=r10,x 11=r11,x 12=r12,x 13=r13,x 14=r14,x 15=r15,x 16=r16,x 17=r17 at hF;subst hF
    go_wp2_with fail
    go_ret
    exact⟨rfl,aj iy.out (aj Rz.out (aj AQ.out hB))⟩
end Go.Proofs.YtkfgpnbpcpdclaaGreat
namespace Go.Proofs.YtkfgpnbpcpdclaaGreat
open Go.RowKit Go Go.Shelf
theorem Ij{t:Tk} {c:Cs} (h:c.out.length<1\/1024<c.out.length):vectorsE t c=5:=by unfold vectorsE;rw[if_pos h]
theorem xx{t:Tk} {c:Cs} (h:¬ (c.out.length<1\/1024<c.out.length)) (k:Nat) (e:Int) (hk:k<c.out.length) (hj:∀ j,j<k->jE t c j=0) (he:jE t c k=e) (h0:e≠0):e=vectorsE t c:=by
 unfold vectorsE;rw[if_neg h,<-bh k e hk hj he h0,if_pos h0]
theorem Gl{t:Tk} {c:Cs} (h:¬ (c.out.length<1\/1024<c.out.length)) (ho:∀ j,j<c.out.length->jE t c j=0):vectorsE t c=aP c.calm.length (iZ c):=by
 unfold vectorsE;rw[if_neg h,cp _ _ ho];simp
theorem OL{t:Tk} {c:Cs} {j:Nat} (hj:j+1<c.out.length) (h1:vectorE c.out[j+1] t.n t.outs=0):jE t c (j+1)=if 0<=ordV (c.out[j]'(by omega)) c.out[j+1] then 14 else 0:=by
 unfold jE unordB;rw[aA [] hj,h1,Nat.add_sub_cancel,aA [] (show j<c.out.length by omega)];simp
theorem OM{t:Tk} {c:Cs} (hj:0<c.out.length) (h1:vectorE c.out[0] t.n t.outs=0):jE t c 0=0:=by
 unfold jE unordB;rw[aA [] hj,h1];simp
theorem Mc{c:Cs} {j:Nat} (hj:j+1<c.calm.length) (h1:hasV c.out c.calm[j+1]=true):iZ c (j+1)=if 0<=ordV (c.calm[j]'(by omega)) c.calm[j+1] then 14 else 0:=by
 unfold iZ unordB;rw[aA [] hj,h1,Nat.add_sub_cancel,aA [] (show j<c.calm.length by omega)];simp
theorem Md{c:Cs} (hj:0<c.calm.length) (h1:hasV c.out c.calm[0]=true):iZ c 0=0:=by
 unfold iZ unordB;rw[aA [] hj,h1];simp
theorem Ra{c:Cs} {k:Nat} (hk:k<c.calm.length) (h1:hasV c.out c.calm[k]=false):iZ c k=6:=by
 unfold iZ;rw[aA [] hk,h1];simp
theorem Rb(t:Tk) (vc:Value) (k:Nat) (aF:k<t.cases.length) (w:World) (hv:bJ w vc t.cases) :
  Calls Tryz.prog 126 #[.agg #[.int .i64 t.n,.int .i64 t.ins,.int .i64 t.outs,vc],.int .i64 k] w fun e w'=>e=.returned (.int .i64 (eU t k))/\Below w.heap.size w w':=by
 obtain⟨pc,cc,rfl,l1,m1,e1⟩:=hv.at;clear hv;have E:=aa e1;clear e1;obtain⟨b1,o1,rfl,⟨x0,cx0,gi⟩,⟨x1,cx1,dV⟩,⟨x2,cx2,fF⟩⟩:=E.out k aF;have pX:=aa gi;have gk:=aa dV;have mJ:=aa fF;obtain⟨p1,q1,rfl,u1,v1,E1⟩:=dV.at;obtain⟨p2,q2,rfl,u2,v2,E2⟩:=fF.at;obtain⟨p0,q0,rfl,_⟩:=gi;have jP:=aa E1;have mj:=aa E2;clear dV fF E1 E2
 have HO:Hid (eU t k=if vectorE t.cases[k].inp t.n t.ins≠0 then vectorE t.cases[k].inp t.n t.ins else if 0<k/\0<=ordV (t.cases.getD (k - 1) default).inp t.cases[k].inp then 14 else vectorsE t t.cases[k]):=by
  have h:eU t k=if vectorE t.cases[k].inp t.n t.ins≠0 then vectorE t.cases[k].inp t.n t.ins else if 0<k/\0<=ordV (t.cases.getD (k - 1) default).inp t.cases[k].inp then 14 else vectorsE t t.cases[k]:=by unfold eU;rw[aA default aF]
  exact h
 have VP:b1<w.heap.size:=gc cx0;have hlb':b1<w.heap.size+1:=by omega
 go_enter Tryz.func126,Tryz.ntmps126
 go_wp2_with fail
 refine aT (fun V=>Below w.heap.size w V/\V.heap[w.heap.size]?=some (.cells #[.int .i64 t.n,.int .i64 t.ins,.int .i64 t.outs,.slice (some ⟨b1,o1,none⟩) t.cases.length cc] 24)/\V.heap[w.heap.size+1]?=some (.cells #[.slice p0 t.cases[k].inp.length q0,.slice p1 t.cases[k].out.length q1,.slice p2 t.cases[k].calm.length q2] 88)) ⟨by go_grown,aq _ (ar _ _),by simpa using ar (w.alloc _) _⟩ (fun V hV=>?_);obtain⟨fo,hT,hC⟩:=hV;have HT:=aa hT;have HC:=aa hC;have t1:=ae hT;have t2:=ae hC;clear hT hC cx1 cx2;refine(zs _ _ _ _ _ (pX.out.up up_int fo)).mono ?_;rintro e V' ⟨rfl,rfl⟩;generalize vectorE t.cases[k].inp t.n t.ins=ev at HO;by_cases ox:ev=0
 case neg=>
  have RX:(ev != 0)=true:=by simpa using ox
  go_wp2_with fail
  go_ret
  exact⟨aC (by rw[HO.out,if_pos ox]),fo⟩
 subst ox
 go_wp2_with fail
 clear t1 t2;by_cases gW:k=0
 case' pos=>
  have iI:Hid (eU t k=vectorsE t t.cases[k]):=by(have h:eU t k=vectorsE t t.cases[k]:=by(rw[HO.out,if_neg (by simp),if_neg (by omega)]));exact h
  have hd:decide ((0:Int)<(k:Int))=false:=decide_eq_false (by omega);have kz:decide (0<k)=false:=decide_eq_false (by omega);clear HO gW cx0;refine aK (by kernel_rfl) (by kernel_rfl) ?_
  repeat (go_big_quiet_step (fail))
  refine wpQuiet_nil ?_;intro _ bV;obtain⟨xq,bC⟩:=bV;subst bC;clear hd kz
 case' neg=>
  obtain⟨j,hj⟩:∃ j,k=j+1:=⟨k - 1,by omega⟩;have qf:j<t.cases.length:=by omega
  have HJ:=aa hj;obtain⟨b2,o2,e2,⟨y0,cy0,ww⟩,_⟩:=E.out j qf;obtain⟨rfl,rfl⟩:b1=b2/\o1=o2:=by simpa using e2
  clear e2;have hd:decide ((0:Int)<(k:Int))=true:=decide_eq_true (by omega);have kz:0<k:=by omega
  have ju:Hid (eU t k=if 0<=ordV t.cases[j].inp t.cases[k].inp then 14 else vectorsE t t.cases[k]):=by
   have h:eU t k=if 0<=ordV t.cases[j].inp t.cases[k].inp then 14 else vectorsE t t.cases[k]:=by
    rw[HO.out,if_neg (by simp)];have e:k - 1=j:=by omega
    rw[e,aA default qf]
    grind
   exact h
  clear HO gW hj;have mf:IntKind.i64.wrap ((k:Int) - 1)=(j:Int):=by rw[HJ.out];rw[IntWalk.i64_in _ (by omega)];omega
  have r1:∀ x:ExtW V,∀ o,x.val.cell? ⟨w.heap.size,o,none⟩=_:=fun x=>ae (ak x.ext HT.out)
  have r2:∀ x:ExtW V,∀ o,x.val.cell? ⟨w.heap.size+1,o,none⟩=_:=fun x=>ae (ak x.ext HC.out)
  have r3:∀ x:ExtW V,x.val.cell? ⟨b1,o1+j * 3,none⟩=some y0:=fun x=>x.cell (ay fo cy0)
  have bE:=aa (fun x:ExtW V=>Calls.ext_of (nY _ _ _ _ x.val (ww.up up_int (aj fo x.ext)) (pX.out.up up_int (aj fo x.ext))));clear ww cy0 cx0;generalize ordV t.cases[j].inp t.cases[k].inp=oo at bE ju;refine aK (by kernel_rfl) (by kernel_rfl) ?_
  repeat (go_big_quiet_step ((go_at_call 48;exact bE.out _)))
  refine wpQuiet_nil ?_;intro _ bV;obtain⟨xq,bC⟩:=bV;subst bC;clear r1 r2 r3 hd kz mf;by_cases rE:0<=oo
  ·go_wp2_with fail
   go_ret
   exact⟨aC (by rw[ju.out,if_pos rE]),aj fo xq.ext⟩
  have iI:Hid (eU t k=vectorsE t t.cases[k]):=by(have h:eU t k=vectorsE t t.cases[k]:=by(rw[ju.out,if_neg rE]));exact h
  clear ju HJ bE
 all_goals
  have ma:=aj fo xq.ext;have dy:=ma;have Fj:=ak xq.ext HT.out;have Te:=ak xq.ext HC.out;clear ma HT HC;generalize xq.val=W5 at dy Fj Te ⊢;clear xq fo;have HT:=aa Fj;have HC:=aa Te;have t1:=ae Fj;have t2:=ae Te;clear Fj Te;by_cases KN:t.cases[k].out.length<1\/1024<t.cases[k].out.length
  ·have HR:=aa (Ij (t:=t) KN)
   rcases KN with KN|KN
   ·go_wp2_with fail
    go_ret
    exact⟨aC (by rw[iI.out,HR.out]),dy⟩
   ·have hou':¬ t.cases[k].out.length<1:=by omega
    go_wp2_with fail
    go_ret
    exact⟨aC (by rw[iI.out,HR.out]),dy⟩
  have Wk:=aa KN;have ho1:¬ t.cases[k].out.length<1:=by omega
  have Fu:¬ 1024<t.cases[k].out.length:=by omega
  clear KN
  go_wp2_with fail
  clear t1 t2 ho1 Fu
  go_loopw [7] (fun i wr=>Below W5.heap.size W5 wr/\∃ m:Nat,m<=t.cases[k].out.length/\i=.int .i64 m/\∀ j,j<m->jE t t.cases[k] j=0) (fun i _=>t.cases[k].out.length - (intOf i).toNat)
  case atStart=>exact⟨Below.refl _ _,0,by omega,rfl,by simp⟩
  case round=>
   obtain⟨AS,m,hm,rfl,aO⟩:=hrel;have HM:=aa aO;clear aO;have aJ:=aj dy AS;have t1:=ae (ak AS HT.out);have t2:=ae (ak AS HC.out);by_cases qa:m<t.cases[k].out.length
   ·obtain⟨b3,o3,rfl,y,cy,hy⟩:=jP.out m qa
    rw[Nat.mul_one]at cy;have HY:=aa hy
    go_wp2_with fail
    clear t1 t2;have r1:∀ x:ExtW wr,∀ o,x.val.cell? ⟨w.heap.size,o,none⟩=_:=fun x=>ae (ak (aj AS x.ext) HT.out)
    have r2:∀ x:ExtW wr,∀ o,x.val.cell? ⟨w.heap.size+1,o,none⟩=_:=fun x=>ae (ak (aj AS x.ext) HC.out)
    have r3:∀ x:ExtW wr,x.val.cell? ⟨b3,o3+m,none⟩=some y:=fun x=>x.cell (ay aJ cy)
    have bE:=aa (fun x:ExtW wr=>Calls.ext_of ((zs _ _ t.n t.outs x.val (HY.out.up up_int (aj aJ x.ext))).mono (fun _ _ ⟨h1,h2⟩=>⟨h1,h2 ▸ Below.refl _ _⟩)));have HZ:=aa (fun (h:vectorE t.cases[k].out[m] t.n t.outs≠0)=>show jE t t.cases[k] m=vectorE t.cases[k].out[m] t.n t.outs by unfold jE;rw[aA [] qa,if_pos h]);generalize rV:vectorE t.cases[k].out[m] t.n t.outs=em at bE HZ;have xZ:=aa rV;clear rV hy;have cyy:=cy;clear cy;refine aK (by kernel_rfl) (by kernel_rfl) ?_
    repeat (go_big_quiet_step ((go_at_call 166;exact bE.out _)))
    refine wpQuiet_nil ?_;intro _ bV;obtain⟨xs,bC⟩:=bV;subst bC;clear r1 r2 r3 bE;have ML:=aj AS xs.ext;have D2:=aj aJ xs.ext;by_cases sJ:em=0
    case neg=>
     have hem':(em != 0)=true:=by simpa using sJ
     go_wp2_with fail
     go_ret
     exact⟨aC (by rw[iI.out];exact xx Wk.out m em qa HM.out (HZ.out sJ) sJ),D2⟩
    subst sJ
    go_wp2_with fail
    by_cases Cn:m=0
    ·subst Cn
     have xW:=aa (OM qa xZ.out);refine aK (by kernel_rfl) (by kernel_rfl) ?_
     repeat (go_big_quiet_step (fail))
     refine wpQuiet_nil ?_;intro _ bV;obtain⟨xt,bC⟩:=bV;subst bC
     go_wp2_with fail
     go_roundw
     case rel=>exact⟨aj ML xt.ext,1,by omega,by go_num,aQ HM.out xW.out⟩
     case measure=>simp[intOf];omega
    ·obtain⟨j,rfl⟩:∃ j,m=j+1:=⟨m - 1,by omega⟩
     have xW:=aa (OL qa xZ.out);obtain⟨b4,o4,e4,z,cz,hz⟩:=jP.out j (by omega);obtain⟨rfl,rfl⟩:b3=b4/\o3=o4:=by simpa using e4
     rw[Nat.mul_one]at cz;have r1:∀ x:ExtW xs.val,∀ o,x.val.cell? ⟨w.heap.size,o,none⟩=_:=fun x=>ae (ak (aj ML x.ext) HT.out)
     have r2:∀ x:ExtW xs.val,∀ o,x.val.cell? ⟨w.heap.size+1,o,none⟩=_:=fun x=>ae (ak (aj ML x.ext) HC.out)
     have r3:∀ x:ExtW xs.val,x.val.cell? ⟨b3,o3+(j+1),none⟩=some y:=fun x=>x.cell (ay D2 cyy)
     have r4:∀ x:ExtW xs.val,x.val.cell? ⟨b3,o3+j,none⟩=some z:=fun x=>x.cell (ay D2 cz)
     have bE:=aa (fun x:ExtW xs.val=>Calls.ext_of (nY _ _ _ _ x.val (hz.up up_int (aj D2 x.ext)) (HY.out.up up_int (aj D2 x.ext))));have SK:IntKind.i64.wrap (j:Int)=(j:Int):=IntWalk.i64_in _ (by omega);have rU:decide ((0:Int)<(j:Int)+1)=true:=decide_eq_true (by omega);have mG:(0:Int)<=(j:Int)+1:=by omega
     have oF:(j:Int)+1<(t.cases[k].out.length:Int):=by omega
     have sM:((j:Int)+1).toNat=j+1:=by omega
     generalize ordV t.cases[k].out[j] t.cases[k].out[j+1]=oo at bE xW;clear e4 hz cz cyy Cn;refine aK (by kernel_rfl) (by kernel_rfl) ?_
     repeat (go_big_quiet_step ((go_at_call 48;exact bE.out _)))
     refine wpQuiet_nil ?_;intro _ bV;obtain⟨xt,bC⟩:=bV;subst bC;clear r1 r2 r3 r4 SK rU mG oF sM;by_cases rE:0<=oo
     ·go_wp2_with fail
      go_ret
      exact⟨aC (by rw[iI.out];exact xx Wk.out (j+1) 14 qa HM.out (by rw[xW.out,if_pos rE]) (by decide)),aj D2 xt.ext⟩
     ·go_wp2_with fail
      go_roundw
      case rel=>exact⟨aj ML xt.ext,j+1+1,by omega,by go_num,aQ HM.out (by rw[xW.out,if_neg (by omega)])⟩
      case measure=>simp[intOf];omega
   ·have un:=aa (iI.out.trans (Gl Wk.out (fun j hj=>HM.out j (by omega))))
    go_wp2_with fail
    clear t1 t2
    go_loopw [9] (fun i ws=>Below wr.heap.size wr ws/\∃ q:Nat,q<=t.cases[k].calm.length/\i=.int .i64 q/\∀ j,j<q->iZ t.cases[k] j=0) (fun i _=>t.cases[k].calm.length - (intOf i).toNat)
    case atStart=>exact⟨Below.refl _ _,0,by omega,rfl,by simp⟩
    case round=>
     obtain⟨mq,q,hq,rfl,aO⟩:=hrel;have HQ:=aa aO;clear aO;have rI:=aj AS mq;have dJ:=aj aJ mq
     rename World=>ws
     have t2:=ae (ak rI HC.out);by_cases ot:q<t.cases[k].calm.length
     ·obtain⟨b6,o6,rfl,y,cy,hy⟩:=mj.out q ot
      rw[Nat.mul_one]at cy;have HY:=aa hy
      go_wp2_with fail
      clear t2;have r2:∀ x:ExtW ws,∀ o,x.val.cell? ⟨w.heap.size+1,o,none⟩=_:=fun x=>ae (ak (aj rI x.ext) HC.out)
      have r3:∀ x:ExtW ws,x.val.cell? ⟨b6,o6+q,none⟩=some y:=fun x=>x.cell (ay dJ cy)
      have bE:=aa (fun x:ExtW ws=>Calls.ext_of (Oi _ _ t.cases[k].out _ x.val (gk.out.up up_ints (aj dJ x.ext)) (HY.out.up up_int (aj dJ x.ext))));cases rV:hasV t.cases[k].out t.cases[k].calm[q] with
      | false=>
       rw[rV]at bE;have HZ:=aa (Ra ot rV);clear rV hy cy;refine aK (by kernel_rfl) (by kernel_rfl) ?_
       repeat (go_big_quiet_step ((go_at_call 167;exact bE.out _)))
       refine wpQuiet_nil ?_;intro _ bV;obtain⟨xu,bC⟩:=bV;subst bC;clear r2 r3 bE
       go_wp2_with fail
       go_ret
       exact⟨aC (by rw[un.out];exact bh q 6 ot HQ.out HZ.out (by decide)),aj dJ xu.ext⟩
      | true=>
       rw[rV]at bE;have xZ:=aa rV;clear rV hy;have cyy:=cy;clear cy;refine aK (by kernel_rfl) (by kernel_rfl) ?_
       repeat (go_big_quiet_step ((go_at_call 167;exact bE.out _)))
       refine wpQuiet_nil ?_;intro _ bV;obtain⟨xs,bC⟩:=bV;subst bC;clear r2 r3 bE;have hbs6:=aj mq xs.ext;have hbs6':=aj rI xs.ext;have Jk:=aj dJ xs.ext
       go_wp2_with fail
       by_cases Cn:q=0
       ·subst Cn
        have xW:=aa (Md ot xZ.out);refine aK (by kernel_rfl) (by kernel_rfl) ?_
        repeat (go_big_quiet_step (fail))
        refine wpQuiet_nil ?_;intro _ bV;obtain⟨xt,bC⟩:=bV;subst bC
        go_wp2_with fail
        go_roundw
        case rel=>exact⟨aj hbs6 xt.ext,1,by omega,by go_num,aQ HQ.out xW.out⟩
        case measure=>simp[intOf];omega
       ·obtain⟨j,rfl⟩:∃ j,q=j+1:=⟨q - 1,by omega⟩
        have xW:=aa (Mc ot xZ.out);obtain⟨b4,o4,e4,z,cz,hz⟩:=mj.out j (by omega);obtain⟨rfl,rfl⟩:b6=b4/\o6=o4:=by simpa using e4
        rw[Nat.mul_one]at cz;have r2:∀ x:ExtW xs.val,∀ o,x.val.cell? ⟨w.heap.size+1,o,none⟩=_:=fun x=>ae (ak (aj hbs6' x.ext) HC.out)
        have r3:∀ x:ExtW xs.val,x.val.cell? ⟨b6,o6+(j+1),none⟩=some y:=fun x=>x.cell (ay Jk cyy)
        have r4:∀ x:ExtW xs.val,x.val.cell? ⟨b6,o6+j,none⟩=some z:=fun x=>x.cell (ay Jk cz)
        have bE:=aa (fun x:ExtW xs.val=>Calls.ext_of (nY _ _ _ _ x.val (hz.up up_int (aj Jk x.ext)) (HY.out.up up_int (aj Jk x.ext))));have SK:IntKind.i64.wrap (j:Int)=(j:Int):=IntWalk.i64_in _ (by omega);have rU:decide ((0:Int)<(j:Int)+1)=true:=decide_eq_true (by omega);have mG:(0:Int)<=(j:Int)+1:=by omega
        have oF:(j:Int)+1<(t.cases[k].calm.length:Int):=by omega
        have sM:((j:Int)+1).toNat=j+1:=by omega
        generalize ordV t.cases[k].calm[j] t.cases[k].calm[j+1]=oo at bE xW;clear e4 hz cz cyy Cn;refine aK (by kernel_rfl) (by kernel_rfl) ?_
        repeat (go_big_quiet_step ((go_at_call 48;exact bE.out _)))
        refine wpQuiet_nil ?_;intro _ bV;obtain⟨xt,bC⟩:=bV;subst bC;clear r2 r3 r4 SK rU mG oF sM;by_cases rE:0<=oo
        ·go_wp2_with fail
         go_ret
         exact⟨aC (by rw[un.out];exact bh (j+1) 14 ot HQ.out (by rw[xW.out,if_pos rE]) (by decide)),aj Jk xt.ext⟩
        ·go_wp2_with fail
         go_roundw
         case rel=>exact⟨aj hbs6 xt.ext,j+1+1,by omega,by go_num,aQ HQ.out (by rw[xW.out,if_neg (by omega)])⟩
         case measure=>simp[intOf];omega
     ·go_wp2_with fail
      go_ret
      exact⟨aC (by rw[un.out,cp];intro j hj;exact HQ.out j (by omega)),dJ⟩
theorem DT(t:Tk) (vc:Value) (w:World) (hv:bJ w vc t.cases) :
  Calls Tryz.prog 86 #[.agg #[.int .i64 t.n,.int .i64 t.ins,.int .i64 t.outs,vc]] w fun e w'=>e=.returned (.int .i64 (taskE t))/\Below w.heap.size w w':=by
 have G:=aa hv;obtain⟨pc,cc,rfl,l1,m1,_⟩:=hv.at;clear hv;by_cases c0:t.n<1
 ·have HR:Hid (taskE t=2):=by(have h:taskE t=2:=by(unfold taskE;rw[if_pos (by omega)]));exact h
  go_enter Tryz.func86,Tryz.ntmps86
  go_wp2
  go_ret
  exact⟨aC HR.out.symm,by go_grown⟩
 by_cases c1:5<t.n
 ·have HR:Hid (taskE t=2):=by(have h:taskE t=2:=by(unfold taskE;rw[if_pos (by omega)]));exact h
  go_enter Tryz.func86,Tryz.ntmps86
  go_wp2
  go_ret
  exact⟨aC HR.out.symm,by go_grown⟩
 by_cases c2:t.ins<1
 ·have HR:Hid (taskE t=2):=by(have h:taskE t=2:=by(unfold taskE;rw[if_pos (by omega)]));exact h
  go_enter Tryz.func86,Tryz.ntmps86
  go_wp2
  go_ret
  exact⟨aC HR.out.symm,by go_grown⟩
 by_cases c3:8<t.ins
 ·have HR:Hid (taskE t=2):=by(have h:taskE t=2:=by(unfold taskE;rw[if_pos (by omega)]));exact h
  go_enter Tryz.func86,Tryz.ntmps86
  go_wp2
  go_ret
  exact⟨aC HR.out.symm,by go_grown⟩
 by_cases c4:t.outs<1
 ·have HR:Hid (taskE t=2):=by(have h:taskE t=2:=by(unfold taskE;rw[if_pos (by omega)]));exact h
  go_enter Tryz.func86,Tryz.ntmps86
  go_wp2
  go_ret
  exact⟨aC HR.out.symm,by go_grown⟩
 by_cases c5:8<t.outs
 ·have HR:Hid (taskE t=2):=by(have h:taskE t=2:=by(unfold taskE;rw[if_pos (by omega)]));exact h
  go_enter Tryz.func86,Tryz.ntmps86
  go_wp2
  go_ret
  exact⟨aC HR.out.symm,by go_grown⟩
 by_cases d0:t.cases.length<1
 ·have HR:Hid (taskE t=5):=by(have h:taskE t=5:=by(unfold taskE;rw[if_neg (by omega),if_pos (by omega)]));exact h
  go_enter Tryz.func86,Tryz.ntmps86
  go_wp2
  go_ret
  exact⟨aC HR.out.symm,by go_grown⟩
 by_cases d1:1024<t.cases.length
 ·have HR:Hid (taskE t=5):=by(have h:taskE t=5:=by(unfold taskE;rw[if_neg (by omega),if_pos (by omega)]));exact h
  go_enter Tryz.func86,Tryz.ntmps86
  go_wp2
  go_ret
  exact⟨aC HR.out.symm,by go_grown⟩
 have HV:Hid (taskE t=aP t.cases.length (eU t)):=by(have h:taskE t=aP t.cases.length (eU t):=by(unfold taskE;rw[if_neg (by omega),if_neg (by omega)]));exact h
 go_enter Tryz.func86,Tryz.ntmps86
 go_wp2
 refine bw (fun W=>Below w.heap.size w W/\W.heap[w.heap.size]?=some (.cells #[.int .i64 t.n,.int .i64 t.ins,.int .i64 t.outs,.slice pc t.cases.length cc] 24)) ⟨by go_grown,ar _ _⟩ (fun W0 bd=>?_);obtain⟨aH,bD⟩:=bd;have HA:=aa bD;clear bD c0 c1 c2 c3 c4 c5 d0 d1
 go_loopw [3] (fun i wr=>Below W0.heap.size W0 wr/\∃ k:Nat,k<=t.cases.length/\i=.int .i64 k/\∀ j,j<k->eU t j=0) (fun i _=>t.cases.length - (intOf i).toNat)
 case atStart=>exact⟨Below.refl _ _,0,by omega,rfl,by simp⟩
 case round=>
  obtain⟨dW,k,hk,rfl,aO⟩:=hrel;have H:=aa aO;clear aO;have aJ:=aj aH dW;have t1:=ae (ak dW HA.out);by_cases aF:k<t.cases.length
  ·have HC:=aa (Rb t _ k aF wr (G.out.up up_case aJ))
   generalize rV:eU t k=ek at HC;have xZ:=aa rV;clear rV;by_cases FV:ek=0
   ·subst FV
    go_wp2_with fail
    refine HC.out.mono ?_;rintro e w1 ⟨rfl,aG⟩
    go_wp2_with fail
    go_roundw
    case rel=>exact⟨aj dW aG,k+1,by omega,by go_num,aQ H.out xZ.out⟩
    case measure=>simp[intOf];omega
   ·have hek':(ek != 0)=true:=by simpa using FV
    go_wp2_with fail
    refine HC.out.mono ?_;rintro e w1 ⟨rfl,aG⟩
    go_wp2_with fail
    go_ret
    exact⟨aC (by rw[HV.out];exact bh k ek aF H.out xZ.out FV),aj aJ aG⟩
  ·go_wp2
   go_ret
   exact⟨aC (by rw[HV.out,cp];intro j hj;exact H.out j (by omega)),aJ⟩
def fewVB(l:List (List Int)):Bool:=!decide (30<l.length)&&!anyLt l.length fun i=>decide (10<(l.getD i []).length)
theorem su(v:Value) (l:List (List Int)) (w:World) (hv:bF w v l) :
  Calls Tryz.prog 84 #[v,.int .i64 30] w fun e w'=>e=.returned (.bool (fewVB l))/\w=w':=by
 obtain⟨pa,ca,rfl,la1,la2,ea⟩:=hv.at;clear hv;have EA:=aa ea;clear ea;by_cases hl:30<l.length
 ·have HV:Hid (fewVB l=false):=by(have h:fewVB l=false:=by(unfold fewVB;simp[hl]));exact h
  go_enter Tryz.func84,Tryz.ntmps84
  go_wp2
  go_ret
  exact⟨aV HV.out.symm,rfl⟩
 ·have HV:Hid (fewVB l=!anyLt l.length fun i=>decide (10<(l.getD i []).length)):=by(have h:fewVB l=!anyLt l.length fun i=>decide (10<(l.getD i []).length):=by(unfold fewVB;rw[decide_eq_false hl];rfl));exact h
  go_enter Tryz.func84,Tryz.ntmps84
  go_wp2
  go_loop [5] (fun i=>∃ k:Nat,k<=l.length/\i=.int .i64 k/\∀ j,j<k->decide (10<(l.getD j []).length)=false) (fun i=>l.length - (intOf i).toNat)
  case atStart=>exact⟨0,by omega,rfl,by simp⟩
  case round=>
   obtain⟨k,hk,rfl,aO⟩:=hrel;have H:=aa aO;clear aO;by_cases aF:k<l.length
   ·obtain⟨b1,o1,rfl,x,cx,hx⟩:=EA.out k aF
    rw[Nat.mul_one]at cx;have HX:=aa (aA [] aF);obtain⟨px,qx,rfl,_,fF,_⟩:=hx;generalize l[k]=y at cx HX fF;by_cases rR:10<y.length
    ·go_wp2
     go_ret
     exact⟨aV (by rw[HV.out,dP _ k _ aF (by rw[HX.out];exact decide_eq_true rR)];rfl),rfl⟩
    ·go_wp2
     go_round
     case rel=>exact⟨k+1,by omega,by go_num,aQ H.out (by rw[HX.out];exact decide_eq_false (by omega))⟩
     case measure=>simp[intOf];omega
   ·go_wp2
    go_ret
    exact⟨aV (by rw[HV.out,eG];rfl;intro j hj;exact H.out j (by omega)),rfl⟩
def Ik(c:Cs):Bool:=decide (10<c.inp.length) || !fewVB c.out || !fewVB c.calm
def fewTB(t:Tk):Bool:=!decide (30<t.cases.length)&&!anyLt t.cases.length fun i=>Ik (t.cases.getD i default)
theorem Il(t:Tk) (vc:Value) (w:World) (hv:bJ w vc t.cases) :
  Calls Tryz.prog 54 #[.agg #[.int .i64 t.n,.int .i64 t.ins,.int .i64 t.outs,vc]] w fun e w'=>e=.returned (.bool (fewTB t))/\Below w.heap.size w w':=by
 obtain⟨pc,cc,rfl,l1,m1,e1⟩:=hv.at;clear hv;have E:=aa e1;clear e1;by_cases hl:30<t.cases.length
 ·have HV:Hid (fewTB t=false):=by(have h:fewTB t=false:=by(unfold fewTB;simp[hl]));exact h
  go_enter Tryz.func54,Tryz.ntmps54
  go_wp2
  go_ret
  exact⟨aV HV.out.symm,by go_grown⟩
 ·have HV:Hid (fewTB t=!anyLt t.cases.length fun i=>Ik (t.cases.getD i default)):=by(have h:fewTB t=!anyLt t.cases.length fun i=>Ik (t.cases.getD i default):=by(unfold fewTB;rw[decide_eq_false hl];rfl));exact h
  go_enter Tryz.func54,Tryz.ntmps54
  go_wp2
  refine bw (fun W=>Below w.heap.size w W/\W.heap[w.heap.size]?=some (.cells #[.int .i64 t.n,.int .i64 t.ins,.int .i64 t.outs,.slice pc t.cases.length cc] 24)) ⟨by go_grown,ar _ _⟩ (fun W0 bd=>?_);obtain⟨aH,bD⟩:=bd;have HA:=aa bD;clear bD hl
  go_loopw [3] (fun i wr=>Below W0.heap.size W0 wr/\∃ k:Nat,k<=t.cases.length/\i=.int .i64 k/\∀ j,j<k->Ik (t.cases.getD j default)=false) (fun i _=>t.cases.length - (intOf i).toNat)
  case atStart=>exact⟨Below.refl _ _,0,by omega,rfl,by simp⟩
  case round=>
   obtain⟨dW,k,hk,rfl,aO⟩:=hrel;have H:=aa aO;clear aO;have aJ:=aj aH dW;have t1:=ae (ak dW HA.out);by_cases aF:k<t.cases.length
   ·obtain⟨b1,o1,rfl,⟨x0,cx0,gi⟩,⟨x1,cx1,dV⟩,⟨x2,cx2,fF⟩⟩:=E.out k aF
    have d0:=ay aJ cx0;have d1:=ay aJ cx1;have d2:=ay aJ cx2;have HX:=aa (aA default aF);have zT:=aa (fun W (hb:Below w.heap.size w W)=>su _ _ W (dV.up up_ints hb));have fA:=aa (fun W (hb:Below w.heap.size w W)=>su _ _ W (fF.up up_ints hb));obtain⟨p0,q0,rfl,_,h0l,_⟩:=gi;obtain⟨p1,q1,rfl,_⟩:=dV;obtain⟨p2,q2,rfl,_⟩:=fF;have dM:=aB (ak dW HA.out);clear cx0 cx1 cx2;have HB:Hid (Ik t.cases[k]=(decide (10<t.cases[k].inp.length) || !fewVB t.cases[k].out || !fewVB t.cases[k].calm)):=by exact rfl
    generalize fewVB t.cases[k].out=f1 at zT HB;generalize fewVB t.cases[k].calm=f2 at fA HB;have Cu:Below wr.heap.size wr (wr.alloc (.cells #[.slice p0 t.cases[k].inp.length q0,.slice p1 t.cases[k].out.length q1,.slice p2 t.cases[k].calm.length q2] 88)):=by go_grown
    have xD:=aj aJ Cu;have HGR:=aa Cu;clear Cu;by_cases rR:10<t.cases[k].inp.length
    ·go_wp2_with fail
     go_ret
     exact⟨aV (by rw[HV.out,dP _ k _ aF (by rw[HX.out,HB.out,decide_eq_true rR];rfl)];rfl),xD⟩
    ·have RB:Hid (decide (10<t.cases[k].inp.length)=false):=by(have h:=decide_eq_false rR);exact h
     cases f1 with
     | false=>
      go_wp2_with fail
      refine(zT.out _ xD).mono ?_;rintro e w1 ⟨rfl,rfl⟩
      go_wp2_with fail
      go_ret
      exact⟨aV (by rw[HV.out,dP _ k _ aF (by rw[HX.out,HB.out,RB.out];rfl)];rfl),xD⟩
     | true=>
      cases f2 with
      | false=>
       go_wp2_with fail
       refine(zT.out _ xD).mono ?_;rintro e w1 ⟨rfl,rfl⟩
       go_wp2_with fail
       refine(fA.out _ xD).mono ?_;rintro e w1 ⟨rfl,rfl⟩
       go_wp2_with fail
       go_ret
       exact⟨aV (by rw[HV.out,dP _ k _ aF (by rw[HX.out,HB.out,RB.out];rfl)];rfl),xD⟩
      | true=>
       go_wp2_with fail
       refine(zT.out _ xD).mono ?_;rintro e w1 ⟨rfl,rfl⟩
       go_wp2_with fail
       refine(fA.out _ xD).mono ?_;rintro e w1 ⟨rfl,rfl⟩
       go_wp2_with fail
       go_roundw
       case rel=>exact⟨aj dW HGR.out,k+1,by omega,by go_num,aQ H.out (by rw[HX.out,HB.out,RB.out];rfl)⟩
       case measure=>simp[intOf];omega
   ·go_wp2
    go_ret
    exact⟨aV (by rw[HV.out,eG];rfl;intro j hj;exact H.out j (by omega)),aJ⟩
theorem Cl(n:Int) (v:Value) (l:List (List Mv)) (w:World) (hv:bn w v l) (hN:movesN l<2305843009213693952) :
  Calls Tryz.prog 85 #[.agg #[.int .i64 n,v]] w fun e w'=>e=.returned (.int .i64 (movesN l))/\Below w.heap.size w w':=by
 obtain⟨pa,ca,rfl,la1,la2,ea⟩:=hv.at;clear hv;have EA:=aa ea;clear ea
 go_enter Tryz.func85,Tryz.ntmps85
 go_wp2
 refine bw (fun W=>Below w.heap.size w W/\W.heap[w.heap.size]?=some (.cells #[.int .i64 n,.slice pa l.length ca] 27)) ⟨by go_grown,ar _ _⟩ (fun W0 bd=>?_);obtain⟨aH,bD⟩:=bd;have t1:=ae bD 1;simp at t1;clear bD
 go_loop [3,4] (fun o i=>∃ k:Nat,k<=l.length/\i=.int .i64 k/\o=.int .i64 (cnt l k)) (fun _ i=>l.length - (intOf i).toNat)
 case atStart=>exact⟨0,by omega,rfl,by rw[oQ];rfl⟩
 case round=>
  obtain⟨k,hk,rfl,rfl⟩:=hrel;by_cases aF:k<l.length
  ·obtain⟨b1,o1,rfl,x,cx,hx⟩:=EA.out k aF
   rw[Nat.mul_one]at cx;have c1:=ay aH cx;have bW:=A3 l k aF;have IJ:=aa (kD l k aF);obtain⟨px,qx,rfl,_⟩:=hx;clear cx;generalize cnt l k=c at bW IJ
   go_wp2
   go_round
   case rel=>exact⟨k+1,by omega,by go_num,by rw[IJ.out];go_num⟩
   case measure=>simp[intOf];omega
  ·go_wp2
   go_ret
   exact⟨aC (by rw[oR l k (by omega)]),aH⟩
theorem ON(a:Adv) (ps:Option Addr) (cs:Nat) (vl:Value) (l:List Mv) (k:Nat) (aF:k<l.length) (w:World) (hv:rg w vl l) :
  Calls Tryz.prog 127 #[.agg #[.int .i64 a.n,.slice ps a.states.length cs],vl,.int .i64 k] w fun e w'=>e=.returned (.int .i64 (dF a l k))/\Below w.heap.size w w':=by
 obtain⟨pc,cc,rfl,l1,m1,e1⟩:=hv.at;clear hv;have E:=aa e1;clear e1;obtain⟨b1,o1,rfl,⟨⟨c0,_⟩,⟨c1,_⟩,⟨c2,_⟩,⟨c3,_⟩,⟨c4,_⟩,⟨c5,_⟩,⟨c6,_⟩⟩,⟨c7,hc7⟩⟩:=E.out k aF;have VP:b1<w.heap.size:=gc c0;have hlb':b1<w.heap.size+1:=by omega
 have HO:Hid (dF a l k=if roundE l[k].r≠0 then roundE l[k].r else if l[k].r.g.n≠a.n then 22 else if 0<k/\0<=roundC (l.getD (k - 1) default).r l[k].r then 14 else if l[k].to<0\/(a.states.length:Int)<=l[k].to then 2 else 0):=by
  have h:dF a l k=if roundE l[k].r≠0 then roundE l[k].r else if l[k].r.g.n≠a.n then 22 else if 0<k/\0<=roundC (l.getD (k - 1) default).r l[k].r then 14 else if l[k].to<0\/(a.states.length:Int)<=l[k].to then 2 else 0:=by unfold dF;rw[aA default aF]
  exact h
 have Di:=c7;generalize l[k]=m at c0 c1 c2 c3 c4 c5 c6 c7 hc7 HO Di;have HC7:=aa Di;clear Di
 go_enter Tryz.func127,Tryz.ntmps127
 go_wp2_with fail
 refine aT (fun V=>Below w.heap.size w V/\V.heap[w.heap.size]?=some (.cells #[.int .i64 a.n,.slice ps a.states.length cs] 27)/\V.heap[w.heap.size+1]?=some (.cells #[.int .i64 m.r.g.n,.int .i64 m.r.g.h0,.int .i64 m.r.g.h1,.int .i64 m.r.g.h2,.int .i64 m.r.g.h3,.int .i64 m.r.g.h4,.int .i64 m.r.f] 52)) ⟨by go_grown,aq _ (ar _ _),by simpa using ar (w.alloc _) _⟩ (fun V hV=>?_);obtain⟨fo,hT,hC⟩:=hV;have HT:=aa hT;have HC:=aa hC;clear hT hC c0 c1 c2 c3 c4 c5 c6 c7;refine(Ca m.r V).mono ?_;rintro e w1 ⟨rfl,aG⟩;have gl:=aj fo aG;have s1:=ae (ak aG HT.out);have s2:=ae (ak aG HC.out);generalize roundE m.r=er at HO;by_cases FF:er=0
 case neg=>
  have her':(er != 0)=true:=by simpa using FF
  go_wp2_with fail
  go_ret
  exact⟨aC (by rw[HO.out,if_pos FF]),gl⟩
 subst FF;by_cases oP:m.r.g.n=a.n
 case neg=>
  have I7:(m.r.g.n != a.n)=true:=by simpa using oP
  go_wp2_with fail
  go_ret
  exact⟨aC (by rw[HO.out,if_neg (by simp),if_pos oP]),gl⟩
 have I7:(m.r.g.n != a.n)=false:=by simpa using oP
 have ju:Hid (dF a l k=if 0<k/\0<=roundC (l.getD (k - 1) default).r m.r then 14 else if m.to<0\/(a.states.length:Int)<=m.to then 2 else 0):=by
  have h:dF a l k=if 0<k/\0<=roundC (l.getD (k - 1) default).r m.r then 14 else if m.to<0\/(a.states.length:Int)<=m.to then 2 else 0:=by rw[HO.out,if_neg (by simp),if_neg (by simpa using oP)]
  exact h
 clear HO oP
 go_wp2_with fail
 clear I7 s1 s2;by_cases gW:k=0
 case' pos=>
  have iI:Hid (dF a l k=if m.to<0\/(a.states.length:Int)<=m.to then 2 else 0):=by(have h:dF a l k=if m.to<0\/(a.states.length:Int)<=m.to then 2 else 0:=by(rw[ju.out,if_neg (by omega)]));exact h
  have hd:decide ((0:Int)<(k:Int))=false:=decide_eq_false (by omega);have kz:decide (0<k)=false:=decide_eq_false (by omega);clear ju gW;refine aK (by kernel_rfl) (by kernel_rfl) ?_
  repeat (go_big_quiet_step (fail))
  refine wpQuiet_nil ?_;intro _ bV;obtain⟨xq,bC⟩:=bV;subst bC;clear hd kz
 case' neg=>
  obtain⟨j,hj⟩:∃ j,k=j+1:=⟨k - 1,by omega⟩;have qf:j<l.length:=by omega
  have HJ:=aa hj;obtain⟨b2,o2,e2,⟨⟨c0,_⟩,⟨c1,_⟩,⟨c2,_⟩,⟨c3,_⟩,⟨c4,_⟩,⟨c5,_⟩,⟨c6,_⟩⟩,_⟩:=E.out j qf;obtain⟨rfl,rfl⟩:b1=b2/\o1=o2:=by simpa using e2
  clear e2;have hd:decide ((0:Int)<(k:Int))=true:=decide_eq_true (by omega);have kz:0<k:=by omega
  have un:Hid (dF a l k=if 0<=roundC l[j].r m.r then 14 else if m.to<0\/(a.states.length:Int)<=m.to then 2 else 0):=by
   have h:dF a l k=if 0<=roundC l[j].r m.r then 14 else if m.to<0\/(a.states.length:Int)<=m.to then 2 else 0:=by
    rw[ju.out];have e:k - 1=j:=by omega
    rw[e,aA default qf]
    grind
   exact h
  clear ju gW hj;have mf:IntKind.i64.wrap ((k:Int) - 1)=(j:Int):=by rw[HJ.out];rw[IntWalk.i64_in _ (by omega)];omega
  generalize l[j]=m2 at c0 c1 c2 c3 c4 c5 c6 un;have r1:∀ x:ExtW w1,∀ o,x.val.cell? ⟨w.heap.size,o,none⟩=_:=fun x=>ae (ak (aj aG x.ext) HT.out)
  have r2:∀ x:ExtW w1,∀ o,x.val.cell? ⟨w.heap.size+1,o,none⟩=_:=fun x=>ae (ak (aj aG x.ext) HC.out)
  have k0:∀ x:ExtW w1,x.val.cell? _=_:=fun x=>x.cell (ay gl c0)
  have k1:∀ x:ExtW w1,x.val.cell? _=_:=fun x=>x.cell (ay gl c1)
  have k2:∀ x:ExtW w1,x.val.cell? _=_:=fun x=>x.cell (ay gl c2)
  have k3:∀ x:ExtW w1,x.val.cell? _=_:=fun x=>x.cell (ay gl c3)
  have k4:∀ x:ExtW w1,x.val.cell? _=_:=fun x=>x.cell (ay gl c4)
  have k5:∀ x:ExtW w1,x.val.cell? _=_:=fun x=>x.cell (ay gl c5)
  have k6:∀ x:ExtW w1,x.val.cell? _=_:=fun x=>x.cell (ay gl c6)
  clear c0 c1 c2 c3 c4 c5 c6;refine aK (by kernel_rfl) (by kernel_rfl) ?_
  repeat (go_big_quiet_step ((go_at_call 169;exact Calls.ext_of (yL m2.r m.r _))))
  refine wpQuiet_nil ?_;intro _ bV;obtain⟨xq,bC⟩:=bV;subst bC;clear r1 r2 k0 k1 k2 k3 k4 k5 k6 hd kz mf;generalize roundC m2.r m.r=oo at un;by_cases rE:0<=oo
  ·go_wp2_with fail
   go_ret
   exact⟨aC (by rw[un.out,if_pos rE]),aj gl xq.ext⟩
  have iI:Hid (dF a l k=if m.to<0\/(a.states.length:Int)<=m.to then 2 else 0):=by(have h:dF a l k=if m.to<0\/(a.states.length:Int)<=m.to then 2 else 0:=by(rw[un.out,if_neg rE]));exact h
  clear un HJ
 all_goals
  have dy:=aj gl xq.ext;have Fj:=ak (aj aG xq.ext) HT.out;generalize xq.val=W5 at dy Fj ⊢;have r1:∀ n o,(W5.drewN n).cell? ⟨w.heap.size,o,none⟩=_:=fun n=>ae Fj
  have r7:∀ n,(W5.drewN n).cell? _=_:=fun n=>ay dy HC7.out
  clear Fj;by_cases ht:m.to<0
  ·go_wp2_with fail
   go_quiet (fail)
   go_wp2_with fail
   go_ret
   exact⟨aC (by rw[iI.out,if_pos (by omega)]),dC dy _⟩
  ·have hd:decide (m.to<0)=false:=decide_eq_false ht
   go_wp2_with fail
   go_quiet (fail)
   go_wp2_with fail
   ·go_ret
    refine⟨aC ?_,dC dy _⟩;rw[iI.out]
    go_light
    grind
   ·go_ret
    refine⟨aC ?_,dC dy _⟩;rw[iI.out]
    go_light
    grind
end Go.Proofs.YtkfgpnbpcpdclaaGreat
