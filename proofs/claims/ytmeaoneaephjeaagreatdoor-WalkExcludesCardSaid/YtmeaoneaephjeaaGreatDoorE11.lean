/-
  A part of the proof: lemmas and contracts that the parts behind it use. Each one's conditions are its own premises.
-/
import Derived.Test.YtmeaoneaephjeaaGreatDoorE10
set_option maxRecDepth 100000
set_option maxHeartbeats 8000000
set_option linter.unusedVariables false
set_option linter.unusedSimpArgs false
namespace Go.Proofs.YtmeaoneaephjeaaGreatDoor
open Go.RowKit Go Go.Shelf
attribute [local go_sem] Oper.semAt_some
abbrev gJ(k:Int) (u:Value):Array Value:=#[.int .i64 k,u,.slice none 0 0,.slice none 0 0,.slice none 0 0]
theorem xF(tmps:Array Value) (B:Nat) (W:World) (k e:Int) (u:Value) (h4:tmps[4]?.getD undef=.pointer (some ⟨B,0,none⟩)) (h5:tmps[5]?.getD undef=.int .i64 e)
  (hB:W.heap[B]?=some (.cells (gJ k u) 58)):(results Tryz.f22 tmps).run Tryz.prog W=.ok (.tuple #[.agg (gJ k u),.int .i64 e]) W:=by
 have t2:=ab hB;simp[results,Tryz.results22,go_sem,h4,h5,t2]
theorem BV{w:World} {pb po n c:Nat} {l:List Lk} (h:bN w (.slice (some ⟨pb,po,none⟩) n c) l) (h0:0<l.length):pb<w.heap.size:=by
 obtain⟨pl,cl,e1,_,_,el⟩:=h.at;obtain⟨b,o,e2,h1⟩:=el 0 h0;injection e1 with e1
 rw[<-e1]at e2;injection e2 with e2
 injection e2 with e2
 rw[e2];exact fx h1.1.1
theorem VZ{s:Sys} {w:List Lk} {i:Nat} (hi:i<(dP s w).length) (h0:∀ j,j<i->ji s ((dP s w).getD j [])=false) (h1:ji s ((dP s w).getD i [])=true):jT s w=some ((dP s w).getD i []):=by
 refine RE (d:=(dP s w).take i) (r:=(dP s w).drop (i+1)) ?_ (fun x hx=>?_) h1
 ·rw[az [] hi];simp
 ·obtain⟨j,hj,e⟩:=List.getElem_of_mem hx;rw[List.length_take]at hj;have h2:=h0 j (by omega);rw[az [] (by omega)]at h2;rw[<-e,List.getElem_take];exact h2
theorem V0{s:Sys} {w:List Lk} (h0:∀ j,j<(dP s w).length->ji s ((dP s w).getD j [])=false):jT s w=none:=by
 refine OU rfl (fun x hx=>?_);obtain⟨j,hj,e⟩:=List.getElem_of_mem hx;have h2:=h0 j hj;rw[az [] hj,e]at h2;exact h2
theorem V1{s:Sys} {w c:List Lk} (hw:walkE s w=0) (hc:c∈dP s w):∀ y∈c,0<=y.x/\y.x.toNat<eS s:=fun y hy=>by
 have h0:0<c.length:=List.length_pos_of_mem hy;exact EG ((Fr hc h0).walk hw) y hy
def YW(vr:List Lk × Int) (r:Ending) (w':World):Prop:=∃ u,r=.returned (.tuple #[.agg (gJ (if vr.2=0 then 1 else 0) u),.int .i64 vr.2])/\bN w' u vr.1
structure ShI (w w0:World) (b8 b9:Nat) (wk:List Lk) (ag:Bool) (Ds:List Nat) (V:World):Prop where
 old:Below w0.heap.size w0 V
 wk:∃ pb po cl,V.heap[b8]?=some (.cells #[.slice (some ⟨pb,po,none⟩) wk.length cl] 54)/\bN V (.slice (some ⟨pb,po,none⟩) wk.length cl) wk/\(pb≠b8/\pb≠b9)/\w0.heap.size<=pb
 ag:V.heap[b9]?=some (.cells #[.bool ag] 4)
 marks:cU w.heap.size Ds V
theorem ShI.sta{w w0:World} {b8 b9 B:Nat} {wk:List Lk} {ag:Bool} {Ds:List Nat} (h1:w0.heap.size<=B) (h2:∀ D∈Ds,D<B) {A A':World} (c:Chg B A A') (h:ShI w w0 b8 b9 wk ag Ds A):ShI w w0 b8 b9 wk ag Ds A':=by
 obtain⟨pb,po,cl,k1,k2,k3⟩:=h.wk;exact⟨c.below h1 h.old.size h.old,⟨pb,po,cl,c.same _ _ k1 (.inr rfl),k2.ck up_link c.ck,k3⟩,c.same _ _ h.ag (.inr rfl),cI.marks h2 A A' c h.marks⟩
def YZ(s:Sys) (w w0:World) (b6 b8:Nat) (F:List Lk) (n:Nat) (act:Act) (W:World):Prop:=∃ (b9:Nat) (wk:List Lk) (ag:Bool) (Ds:List Nat) (u0 u1 u3 u7 u10 u11 u12 u13 u14 u15 u16 u17 u18 u19 u20 u21 u22 u23 u24 u25 u26 u27 u28 u29 u30 u31 u32 u33 u34 u35:Value),
 act={ tmps:=#[u0,u1,.pointer (some ⟨w.heap.size,0,none⟩),u3,.pointer (some ⟨w.heap.size+1+1,0,none⟩),.int .i64 0,.pointer (some ⟨b6,0,none⟩),u7,.pointer (some ⟨b8,0,none⟩),.pointer (some ⟨b9,0,none⟩),u10,u11,u12,u13,u14,u15,u16,u17,u18,u19,u20,u21,u22,u23,u24,u25,u26,u27,u28,u29,u30,u31,u32,u33,u34,u35],defers:=m7 Ds }/\n=2 * wk.length+(if ag then 1 else 0)/\walkE s wk=0/\(if ag then iZ s wk else wk)=F/\w0.heap.size<=b8/\b8<b9/\ShI w w0 b8 b9 wk ag Ds W
theorem IY(s:Sys) (hE:eS s<=256) (vc vs vt ve vw:Value) (c:Ct) (pv:Option Addr) (cv:Nat) (pl:Option Addr) (cl:Nat) (pp:Option Addr) (cp:Nat) (w:World) (hT:iF w) (hs:IsSys w s vc vs vt ve) (hN:movesN s.prob.a.states<1099511627776) (hw:bN w vw c.walk) :
  Calls Tryz.prog 22 #[.agg (bL s.prob vc vs s.n vt ve),.agg #[.int .i64 c.kind,vw,.slice pv c.nv cv,.slice pl c.nl cl,.slice pp c.np cp]] w fun r w'=>YW (shortR s c) r w'/\Below w.heap.size w w':=by
 have HS:=aa hs;have HT:=aa hT;obtain⟨⟨pc,cc,rfl⟩,⟨ps,cs,rfl⟩,⟨pt,ct,rfl⟩,⟨pe,ce,rfl⟩⟩:=bD hs;obtain⟨pw,cw,rfl,lw1,lw2,_⟩:=hw.at;have Va:=aa hw;have HV:=aa (fun W (hb:Below w.heap.size w W)=>yW s hE _ _ _ _ _ c pv cv pl cl pp cp W (HS.o.up hb) hN (Va.o.up up_link hb))
 have Uk:am (certE s c=0->verifyE s=0/\walkE s c.walk=0):=aa (fun h=>by
  unfold certE at h;split at h
  ·rename_i h1;exact absurd h h1
  rename_i h1;refine⟨rQ (by omega),?_⟩;unfold zZ at h;split at h
  ·omega
  split at h
  ·omega
  split at h
  ·rename_i h4;exact absurd h h4
  ·rename_i h4;omega)
 have zx:am (certE s c=0->shortR s c=(iZ s c.walk,0)):=aa (fun h=>by unfold shortR;rw[if_neg (by omega)]);have cO:am (certE s c≠0->shortR s c=([],certE s c)):=aa (fun h=>by unfold shortR;rw[if_pos h]);generalize shortR s c=vr at zx cO ⊢;obtain⟨ee,xK⟩:∃ ee,certE s c=ee:=⟨_,rfl⟩;rw[xK]at HV Uk zx cO;obtain⟨kd,wk0,nv,nl,np⟩:=c;dsimp only at *;clear hs hT hw xK;refine gi Tryz.func22 rfl ?_;simp only[Tryz.ntmps22,List.size_toArray,List.length_cons,List.length_nil,Nat.reduceAdd,Nat.reduceSub,Array.replicate_succ,Array.replicate_zero,List.push_toArray,List.append_toArray,List.nil_append,List.cons_append]
 go_wp2_with fail
 refine aO (fun W=>Below w.heap.size w W/\W.heap[w.heap.size+1]?=some (.cells #[.int .i64 kd,.slice pw wk0.length cw,.slice pv nv cv,.slice pl nl cl,.slice pp np cp] 58)/\W.heap[w.heap.size+1+1]?=some (.cells (gJ 0 (.slice none 0 0)) 58)) ⟨by go_grown,ar _ (aZ _ _ _),dZ _ _ _ _⟩ (fun W0 aX=>?_);obtain⟨aG,gM,eB⟩:=aX;refine(HV.o W0 aG).mono ?_;rintro r w1 ⟨⟨v,rfl,h2,h3⟩,aK⟩;have bI:=aa (ae aG aK);have gh:=aa (af aK gM);have Q0:=aa (af aK eB);have fZ:=aD Q0.o;by_cases hr:ee=0
 case neg=>
  have U8:=aa (cO.o hr);obtain rfl:=h3 hr;have F3:(ee != 0)=true:=by simpa using hr
  have WW:=aa hr;clear aG aK h2 h3 hr HV gM eB Uk zx cO
  go_wp2_with (refine wpList_store_row rfl 58 (.tmp 4) (.tmp 19) rfl (w.heap.size+1+1) (gJ 0 (.slice none 0 0)) rfl rfl 58 _ (ar _ Q0.o) (by kernel_rfl) rfl (by simp[Value.oneCell']) (gX (fun W=>Below w.heap.size w W/\W.heap[w.heap.size+1+1]?=some (.cells (gJ 0 (.slice none 0 0)) 58)) ⟨below_setRow (bI.o.alloc (by omega) _) (by omega) _,setRow_heap _ _ _ _ _ _ (ar _ Q0.o)⟩ ?_);intro W2 eI;have cP:=aa eI;clear eI)
  refine iA (xF _ (w.heap.size+1+1) _ 0 ee (.slice none 0 0) rfl rfl cP.o.2) ?_;have e1:=U8.o;have e2:=WW.o;subst e1;exact⟨⟨.slice none 0 0,by dsimp only;rw[if_neg e2],⟨none,0,rfl,⟨by simp,by omega,fun _=>rfl⟩,by simp,fun i x hx=>by simp at hx⟩⟩,cP.o.1⟩
 obtain⟨B,rfl,gd⟩:=h2 hr;have U8:=aa (zx.o hr);have HZ:=aa (Uk.o hr);have dD:=aa (gE HZ.o.1);have jH:=aa gd;have cC:=(rB s wk0).1 HZ.o.2;have zg:=cC.1;have oV:=cC.2.1;subst hr;clear aG aK h2 h3 HV gM eB Uk zx cO gd cC;have to:=fun o j=>ab (ar o gh.o) j
 go_wp2_with fail
 refine aO (fun W=>Below w1.heap.size w1 W/\W.heap[w1.heap.size]?=some (.cells #[.pointer (some ⟨B,0,none⟩)] 94)) ⟨by go_grown,ap _ _⟩ (fun W1 cM=>?_);have gN:=aa cM.1;have kS:=aa cM.2;clear cM to;refine(uN _ wk0 W1 (Va.o.up up_link (ae bI.o gN.o)) (by omega)).mono ?_;rintro r w2 ⟨u,rfl,hu,aT⟩;obtain⟨pb,cc2,rfl,ra,GG,sp,_⟩:=hu.some zg;have HU:=aa (aJ.links hu (IV Va.o) (by omega));have cf:=aa aT;have cF:=aT.size;have bX:=gN.o.size;have dm:=aD kS.o;clear hu aT;have Jd:=aa (jH.o.up gN.o);have jO:am (iZ s wk0=vr.1/\vr.2=0):=aa (by rw[U8.o];exact⟨rfl,rfl⟩);have HRS1:=aa (af gN.o Q0.o);have xn:=aa (ae bI.o gN.o);have Kc:=aa (HT.o.up xn.o);clear U8 jH gh Q0
 go_wp2_with fail
 have oJ:Below w2.heap.size w2 ((w2.alloc (Obj.cells #[Value.slice (some { block:=pb,off:=0 }) wk0.length cc2] 54)).alloc (Obj.cells #[Value.bool true] 4)):=by go_grown
 have cB:am (ShI w W1 w2.heap.size (w2.heap.size+1) wk0 true [] ((w2.alloc (Obj.cells #[Value.slice (some { block:=pb,off:=0 }) wk0.length cc2] 54)).alloc (Obj.cells #[Value.bool true] 4))):=aa
  ⟨ae cf.o oJ,⟨pb,0,cc2,ar _ (ap _ _),HU.o.up up_link oJ,⟨by omega,by omega⟩,by omega⟩,aZ _ _ _,cU.nil _ _⟩
 clear oJ cf HU;refine BC (fun n act W=>YZ s w W1 w1.heap.size w2.heap.size (iZ s wk0) n act W) (2 * wk0.length+1) ?start ?round
 case start=>exact⟨w2.heap.size+1,wk0,true,[],_,_,_,_,_,_,_,_,_,_,_,_,_,_,_,_,_,_,_,_,_,_,_,_,_,_,_,_,_,_,rfl,rfl,HZ.o.2,rfl,cF,by omega,cB.o⟩
 case round=>
  clear cB ra GG sp zg oV lw1 lw2;have AU:W1.heap.size<=w2.heap.size:=cF;generalize w2.heap.size=b8 at AU;rintro n act W ⟨b9,wk,ag,Ds,u0,u1,u3,u7,u10,u11,u12,u13,u14,u15,u16,u17,u18,u19,u20,u21,u22,u23,u24,u25,u26,u27,u28,u29,u30,u31,u32,u33,u34,u35,rfl,hn,QO,hF,_,dU,hI⟩;have cC:=(rB s wk).1 QO;have zg:=cC.1;have oV:=cC.2.1;clear cC;have lW:∀ E∈Ds,E<W.heap.size:=hI.marks.lt;obtain⟨pb,po,cl',h8,qP,⟨hp8,F9⟩,vP⟩:=hI.wk;have t9:=ab hI.ag 0;have t8:=ab h8 0;have f9:=aH hI.ag 0;simp at t9 t8;have JQ:=af hI.old HRS1.o;have HI:=aa hI;have HH8:=aa h8;have it:=aa qP;have Xa:=aa hF;have NV:=aa JQ;have HN:=aa hn;have vY:=aa (aD HRS1.o);cases ag with
  | false=>
   clear hI h8 qP hF JQ hn f9
   go_wp2_with (refine wpList_store_row rfl 58 (.tmp 4) (.tmp 35) rfl (w.heap.size+1+1) (gJ 1 (.slice (some ⟨pb,po,none⟩) wk.length cl')) rfl rfl 58 _ NV.o (by kernel_rfl) rfl (by simp[Value.oneCell']) ?_)
   have hm:cU w.heap.size Ds (W.setRow (w.heap.size+1+1) (gJ 1 (.slice (some ⟨pb,po,none⟩) wk.length cl'))):=HI.o.marks.keep fun k o ho hc=>by
    rw[setRow_other _ _ _ _ (fun e=>by subst e;rw[NV.o]at ho;cases ho;cases hc)];exact ho
   have bU:(W.setRow (w.heap.size+1+1) (gJ 1 (.slice (some ⟨pb,po,none⟩) wk.length cl'))).heap[w.heap.size+1+1]?=some (.cells (gJ 1 (.slice (some ⟨pb,po,none⟩) wk.length cl')) 58):=setRow_heap _ _ _ _ _ _ NV.o;refine rp hm (xF _ (w.heap.size+1+1) _ 1 0 (.slice (some ⟨pb,po,none⟩) wk.length cl') rfl rfl (ro hm _ _ bU rfl)) ?_;have e1:=jO.o;obtain⟨x1,x2⟩:=vr;dsimp only at e1;obtain⟨e1,rfl⟩:=e1;have e3:wk=x1:=by rw[<-e1];exact Xa.o
   subst e3;refine⟨⟨_,rfl,?_⟩,mD (fun D hD=>(hm.2 D hD).1) (Nat.le_refl _) (below_setRow (ae xn.o HI.o.old) (by omega) _)⟩;refine fj.ck up_link (ro hm) (kG it.o (setRow_other _ _ _ _ ?_));have:=vY.o;omega
  | true=>
   have tK:am (ShI w W1 b8 b9 wk false Ds (W.setCell ⟨b9,0,none⟩ (.bool false))):=aa
    ⟨hI.old.setCell (p:=⟨b9,0,none⟩) (by dsimp only;omega) _,⟨pb,po,cl',aM h8 (by omega) _ _,kG qP (Below.heap_setCell _ _ _ _ F9),⟨hp8,F9⟩,vP⟩,aI hI.ag _ _,hI.marks.keep fun k o ho hc=>aM ho (fun e=>by subst e;rw[hI.ag]at ho;cases ho;cases hc) _ _⟩
   have t6':=(ab (af tK.o.old kS.o) 0).trans rfl;have Xh:(W.setCell ⟨b9,0,none⟩ (.bool false)).heap[b8]?=some (.cells #[.slice (some ⟨pb,po,none⟩) wk.length cl'] 54):=aM h8 (by omega) _ _;have t8':=(ab Xh 0).trans rfl;have HLK1:am (bN (W.setCell ⟨b9,0,none⟩ (.bool false)) (.slice (some ⟨pb,po,none⟩) wk.length cl') wk):=aa (kG qP (Below.heap_setCell _ _ _ _ F9));have HH8':=aa Xh;clear hI h8 qP hF JQ hn Xh HI NV HH8 it t8
   go_wp2_with fail
   clear t6' t8';refine aO (fun V=>ShI w W1 b8 b9 wk false Ds V/\V.heap[b8]?=some (.cells #[.slice (some ⟨pb,po,none⟩) wk.length cl'] 54)/\bN V (.slice (some ⟨pb,po,none⟩) wk.length cl') wk/\V.heap.size=W.heap.size) ⟨tK.o,HH8'.o,HLK1.o,by simp⟩ (fun V hV=>?_);have HV:=aa hV.1;have HV8:=aa hV.2.1;have nz:=aa hV.2.2.1;have hVs:=hV.2.2.2;rw[<-hVs]at lW;clear hV tK HH8' HLK1 f9 t9 hVs W;refine(KX B (.slice (some ⟨pb,po,none⟩) wk.length cl') V ⟨_,_,_,rfl⟩).mono ?_;rintro r w3 ⟨rfl,rfl⟩
   go_wp2_with fail
   have sp:Below V.heap.size V ((V.alloc (.cells #[.pointer (some ⟨B,0,none⟩)] 94)).alloc (.cells #[.slice (some ⟨pb,po,none⟩) wk.length cl'] 54)):=by go_grown
   refine bC (fun U=>Below V.heap.size V U/\U.heap[V.heap.size]?=some (.cells #[.pointer (some ⟨B,0,none⟩)] 94)/\U.heap[V.heap.size+1]?=some (.cells #[.slice (some ⟨pb,po,none⟩) wk.length cl'] 54)) ⟨sp,ar _ (ap _ _),aZ _ _ _⟩ (fun U hU=>?_);obtain⟨uh,zi,sB⟩:=hU;have hsU:=aD sB;have Ga:=aa (HV.o.sta (B:=V.heap.size) HV.o.old.size lW (Chg.of_below uh));have dg:=IX s dD.o hE wk zg oV (EG QO) B V.heap.size (V.heap.size+1) pb po cl' W1 Kc.o Jd.o U Ga.o.old (nz.o.up up_link uh) sB zi;have hpbV:=BV nz.o zg;have dr:=aa (fun (wk':List Lk) (ag':Bool) A A' (c:Chg U.heap.size A A') (h:ShI w W1 b8 b9 wk' ag' Ds A)=>h.sta (B:=U.heap.size) Ga.o.old.size (fun E hE=>by have:=lW E hE;omega) c);have hb8U:b8<V.heap.size:=aD HV8.o;have hb9U:b9<V.heap.size:=aD HV.o.ag;clear uh zi sp
   refine Mk (gf:=96) (lb:=#[.pointer (some ⟨V.heap.size+1,0,none⟩),.pointer (some ⟨V.heap.size,0,none⟩)]) rfl (enters_of Tryz.func96 (by kernel_rfl) rfl) dg (Below.refl _ _) (fun k hk=>by have:=Ga.o.old.size;rcases hk with hk|rfl|rfl|rfl<;>omega) (fun i args _ _ h=>by obtain⟨v,h,_⟩:=h;rw[h];rfl)
    (fun i T A=>ShI w W1 b8 b9 wk false Ds A/\(∀ j,j<i->ji s ((dP s wk).getD j [])=false)/\(¬ T b8/\¬ T b9)/\(∀ k,T k->k<A.heap.size)/\U.heap.size<=A.heap.size)
    (fun c i T A=>c=.exit 2/\∃ c',jT s wk=some c'/\ShI w W1 b8 b9 c' true Ds A)
    (fun i T T' A A' h hc hw=>⟨dr.o _ _ _ _ hc h.1,h.2.1,⟨fun hk=>by
     rcases hw.2 _ hk with h1|h1
     ·exact h.2.2.1.1 h1
     ·have:=h.2.2.2.2;omega,fun hk=>by
     rcases hw.2 _ hk with h1|h1
     ·exact h.2.2.1.2 h1
     ·have:=h.2.2.2.2;omega⟩,fun k hk=>by
     rcases hw.2 _ hk with h1|h1
     ·exact Nat.lt_of_lt_of_le (h.2.2.2.1 k h1) hc.size
     ·exact h1.2,Nat.le_trans h.2.2.2.2 hc.size⟩)
    (fun c i T T' A A' h hc hw=>by obtain⟨h1,c',h2,h3⟩:=h;exact⟨h1,c',h2,dr.o _ _ _ _ hc h3⟩)
    ⟨Ga.o,fun j hj=>by omega,⟨by omega,by omega⟩,fun k hk=>by have:=Ga.o.old.size;rcases hk with hk|rfl|rfl|rfl<;>omega,Nat.le_refl _⟩ ?rnd ?done ?stop
   case done=>
    intro D T A hD nE hK;have mu:=V0 nE.2.1;have h9:=nE.1.ag;obtain⟨pb',po',cl'',k1,k2,⟨k3,k4⟩,k5⟩:=nE.1.wk;have t9:=ab h9 0;simp at t9;have hpa:=BV k2 zg;have h8A:=aD k1;have DD:Below A.heap.size A (A.alloc (.cells #[.bool false] 4)):=by go_grown
    have zf:am (ShI w W1 b8 A.heap.size wk false (D :: Ds) (A.alloc (.cells #[.bool false] 4))):=aa
     ⟨ae nE.1.old DD,⟨pb',po',cl'',af DD k1,k2.up up_link DD,⟨k3,by omega⟩,k5⟩,ap _ _,(cU.cons nE.1.marks (by have:=xn.o.size;have:=Ga.o.old.size;omega) hK fun E hE=>by have:=lW E hE;omega).up DD⟩
    have ij:am ((if false=true then iZ s wk else wk)=iZ s wk0):=aa (by rw[if_neg (by decide),<-Mt mu];exact Xa.o);have lH:am (2 * wk.length+(if false=true then 1 else 0)<n):=aa (by rw[HN.o];simp);clear nE dg k1 k2 k3 k4 k5 mu
    go_wp2_with fail
    exact⟨_,lH.o,A.heap.size,wk,false,D :: Ds,_,_,_,_,_,_,_,_,_,_,_,_,_,_,_,_,_,_,_,_,_,_,_,_,_,_,_,_,_,_,rfl,rfl,QO,ij.o,AU,by omega,zf.o⟩
   case stop=>
    rintro D c i T A hD hi ⟨rfl,c',mu,nE⟩ hK;obtain⟨g1,g2,_,g4⟩:=sL mu;have h9:=nE.ag;obtain⟨pb',po',cl'',k1,k2,⟨k3,k4⟩,k5⟩:=nE.wk;have t9:=ab h9 0;simp at t9;have hpa:=BV k2 g2;have h8A:=aD k1;have DD:Below A.heap.size A (A.alloc (.cells #[.bool true] 4)):=by go_grown
    have zf:am (ShI w W1 b8 A.heap.size c' true (D :: Ds) (A.alloc (.cells #[.bool true] 4))):=aa
     ⟨ae nE.old DD,⟨pb',po',cl'',af DD k1,k2.up up_link DD,⟨k3,by omega⟩,k5⟩,ap _ _,(cU.cons nE.marks (by have:=xn.o.size;have:=Ga.o.old.size;omega) hK fun E hE=>by have:=lW E hE;omega).up DD⟩
    have ij:am ((if true=true then iZ s c' else c')=iZ s wk0):=aa (by rw[if_pos rfl,<-Mu mu];exact Xa.o);have lH:am (2 * c'.length+(if true=true then 1 else 0)<n):=aa (by have:=g4.len;rw[HN.o];simp;omega);have hwz':=g4.walk QO;clear nE dg k1 k2 k3 k4 k5 mu g1 g4
    go_wp2_with fail
    exact⟨_,lH.o,A.heap.size,c',true,D :: Ds,_,_,_,_,_,_,_,_,_,_,_,_,_,_,_,_,_,_,_,_,_,_,_,_,_,_,_,_,_,_,rfl,rfl,hwz',ij.o,AU,by omega,zf.o⟩
   case rnd=>
    rintro yl i T A args hi hl hlA hTl ⟨v,rfl,hv,hvb⟩ ⟨hSI,fY,⟨ht8,ht9⟩,hTA,hUA⟩;obtain⟨pv',cv',rfl,_⟩:=hv.at;have A8:=aa hv;have zK:=aa hSI;have HTA:=aa hTA;have HMEM:am ((dP s wk).getD i []∈dP s wk):=aa (by rw[az [] hi];exact List.getElem_mem hi);have gB:=aa (fun h=>VZ hi fY h);have fk:=aa (fun h:ji s ((dP s wk).getD i [])=false=>aY (p:=fun j=>ji s ((dP s wk).getD j [])=false) fY h);generalize (dP s wk).getD i []=cand at A8 HMEM gB fk hv;have Qu:=aa hvb;clear hv hSI hTA fY dg
    gi_wp2
    refine⟨Bod.refl _ _ _,fun X=>ShI w W1 b8 b9 wk false Ds X/\bN X (.slice pv' cand.length cv') cand/\(∀ k,T k->k<X.heap.size)/\U.heap.size<=X.heap.size,fun X X' c h=>⟨dr.o _ _ _ _ c h.1,h.2.1.ck up_link c.ck,fun k hk=>Nat.lt_of_lt_of_le (h.2.2.1 k hk) c.size,Nat.le_trans h.2.2.2 c.size⟩,⟨zK.o,A8.o,HTA.o,hUA⟩,fun X hX jI=>?_⟩;obtain⟨rlp,jI⟩:=jI;have Jg:=aD jI;clear jI rlp;have HX:=aa hX.1;have zD:=aa hX.2.1;have Xk:=aa hX.2.2.1;have hUX:=hX.2.2.2;have tb6:=(ab (af HX.o.old kS.o) 0).trans rfl;have TW:=aa (q6 s dD.o B _ cand (V1 QO HMEM.o) X (Jd.o.up HX.o.old) hX.2.1);obtain⟨pbx,pox,clx,q1,q2,⟨q3,q4⟩,q5⟩:=hX.1.wk;have Q1:=aa q1;have Q9:=aa hX.1.ag;clear hX q2 q3 q4 q5 q1
    gi_wp2
    refine⟨trivial,rfl,xr (TW.o.mono ?_)⟩;rintro r W4 ⟨rfl,bS⟩;clear tb6 TW;have eE:=aa bS;have r1:=af bS Q1.o;have r9:=af bS Q9.o;have s8:=ab r1 0;have s9:=ab r9 0;have f8:=aH r1 0;have f9:=aH r9 0;simp at s8 s9;have R1:=aa r1;have R9:=aa r9;clear r1 r9 bS;cases hg:ji s cand with
    | true=>
     have ss:=aa (gB.o hg)
     have h0c:0<cand.length:=by
      unfold ji at hg;rw[Bool.and_eq_true,decide_eq_true_eq]at hg;exact hg.1
     clear hg gB fk;have hne89:¬ (b9=b8):=by omega
     have hne98:¬ (b8=b9):=by omega
     gi_wp2
     obtain⟨pl9,cl9,e9,_,_,el9⟩:=zD.o.at;obtain⟨pbv,pov,e8,_⟩:=el9 0 h0c;injection e9 with e9
     rw[<-e9]at e8;subst e8;have J9:=Qu.o pbv rfl
     have bK:pbv≠b8/\pbv≠b9/\W1.heap.size<=pbv:=by
      have:=Ga.o.old.size;rcases J9 with rfl|h
      ·exact⟨hp8,F9,vP⟩
      ·omega
     have uj:∀ (k:Nat) (o:Obj),W4.heap[k]?=some o->o.isCells=false->((W4.setCell ⟨b8,0,none⟩ (.slice (some ⟨pbv,pov,none⟩) cand.length cv')).setCell ⟨b9,0,none⟩ (.bool true)).heap[k]?=some o:=fun k o ho hc=>
      aM (aM ho (fun e=>by subst e;rw[R1.o]at ho;cases ho;cases hc) _ _) (fun e=>by subst e;rw[R9.o]at ho;cases ho;cases hc) _ _
     refine⟨⟨by simp;have:=eE.o.size;omega,fun k hk=>?_,fun k o _ ho hc=>uj k o (af eE.o ho) hc⟩,rfl,_,ss.o,?_⟩
     ·rw[Below.heap_setCell _ _ _ _ (fun e=>ht9 (by dsimp only at e;rw[<-e];exact hk)),Below.heap_setCell _ _ _ _ (fun e=>ht8 (by dsimp only at e;rw[<-e];exact hk))];exact eE.o.block k (Xk.o k hk)
     ·refine⟨((ae HX.o.old eE.o).setCell (p:=⟨b8,0,none⟩) AU _).setCell (p:=⟨b9,0,none⟩) (by dsimp only;omega) _,⟨pbv,pov,cv',aM (aI R1.o _ _) hne98 _ _,kG (kG (zD.o.up up_link eE.o) (Below.heap_setCell _ _ _ _ bK.1)) (Below.heap_setCell _ _ _ _ bK.2.1),⟨bK.1,bK.2.1⟩,bK.2.2⟩,aI (aM R9.o hne89 _ _) _ _,(HX.o.marks.up eE.o).keep uj⟩
    | false=>
     have ss:=aa (fk.o hg);clear hg gB fk
     gi_wp2
     exact⟨Bod.of_below Xk.o eE.o,dr.o _ _ _ _ (Chg.of_below eE.o) HX.o,ss.o,⟨ht8,ht9⟩,fun k hk=>Nat.lt_of_lt_of_le (Xk.o k hk) eE.o.size,Nat.le_trans hUX eE.o.size⟩
def mF(s:Sys) (mem:List Nat) (i:Nat):List Lk:=if i=0 then gO s mem else la s (mem.getD (i - 1) 0) (mem.drop i)
theorem KY(s:Sys) (mem:List Nat) (h:0<mem.length):mF s mem 0=⟨mem.getD 0 0,-1⟩ :: mF s mem 1:=by
 match mem,h with
 | a :: r,_=>rfl
theorem Nf(s:Sys) (mem:List Nat) (i:Nat) (h0:0<i) (hi:i<mem.length):mF s mem i=kE s (mem.getD (i - 1) 0) (mem.getD i 0)++mF s mem (i+1):=by
 unfold mF;rw[if_neg (by omega),if_neg (by omega),List.drop_eq_getElem_cons hi,az 0 hi,Nat.add_sub_cancel,az 0 hi];rfl
theorem P3(s:Sys) (mem:List Nat):mF s mem mem.length=[]:=by
 unfold mF;split
 ·rename_i h;rw[List.eq_nil_of_length_eq_zero h];rfl
 ·rw[List.drop_length];rfl
structure SlS (J:Nat->(Nat->Prop)->World->Prop) (S:Nat->Prop) (w W:World) (yl c1 B:Nat) (x:Int) (d:Nat) (cur:Int) (T:Nat->Prop) (V:World):Prop where
 j:J d T V
 ks:KSz S w V
 sz:W.heap.size<=V.heap.size
 b3:V.heap[W.heap.size]?=some (.cells #[.func (.yield yl) #[] #[]] 80)
 b4:V.heap[W.heap.size+1]?=some (.cells #[.int .i64 cur] 3)
 x1:V.heap[c1]?=some (.cells #[.pointer (some ⟨B,0,none⟩)] 94)
 x2:V.heap[c1+1]?=some (.cells #[.int .i64 x] 3)
 t:T W.heap.size/\T (W.heap.size+1)/\T c1/\T (c1+1)
 tb:∀ k,T k->W.heap.size<=k/\k<V.heap.size
section
variable {J : Nat → (Nat → Prop) → World → Prop} {S : Nat → Prop} {w W : World} {yl c1 B : Nat} {x : Int} {d : Nat} {cur : Int} {T T' : Nat → Prop} {V V' : World}
theorem SlS.grow(h:SlS J S w W yl c1 B x d cur T V) (hJ:∀ i T T' A A',J i T A->ChT W.heap.size T A A'->gS A A' T T'->J i T' A') (hS:∀ k,S k->k<w.heap.size) (hb:Below V.heap.size V V') (hw:gS V V' T T'):SlS J S w W yl c1 B x d cur T' V':=
 ⟨hJ _ _ _ _ _ h.j (ChT.of_below h.sz hb) hw,⟨fun k hk=>(hb.block k (by have:=hS k hk;have:=h.ks.2;omega)).trans (h.ks.1 k hk),Nat.le_trans h.ks.2 hb.size⟩,Nat.le_trans h.sz hb.size,af hb h.b3,af hb h.b4,af hb h.x1,af hb h.x2,⟨hw.1 _ h.t.1,hw.1 _ h.t.2.1,hw.1 _ h.t.2.2.1,hw.1 _ h.t.2.2.2⟩,fun k hk=>by
  rcases hw.2 k hk with h1|h1
  ·exact⟨(h.tb k h1).1,Nat.lt_of_lt_of_le (h.tb k h1).2 hb.size⟩
  ·exact⟨by have:=h.sz;omega,h1.2⟩⟩
theorem SlS.chg{n:Nat} (h:SlS J S w W yl c1 B x d cur T V) (hJ:∀ i T T' A A',J i T A->ChT W.heap.size T A A'->gS A A' T T'->J i T' A') (hS:∀ k,S k->k<w.heap.size) (hn:W.heap.size<=n) (hwn:w.heap.size<=n) (hc:Chg n V V'):SlS J S w W yl c1 B x d cur T V':=
 ⟨hJ _ _ _ _ _ h.j (ChT.of_chg hc hn h.sz) (gS.refl _ _ _),⟨fun k hk=>by
  have h1:k<V.heap.size:=by have:=hS k hk;have:=h.ks.2;omega
  have h2:V.heap[k]?=some V.heap[k]:=Array.getElem?_eq_getElem h1;rw[hc.same k _ h2 (.inl (by have:=hS k hk;omega)),<-h2]
  exact h.ks.1 k hk,Nat.le_trans h.ks.2 hc.size⟩,Nat.le_trans h.sz hc.size,hc.same _ _ h.b3 (.inr rfl),hc.same _ _ h.b4 (.inr rfl),hc.same _ _ h.x1 (.inr rfl),hc.same _ _ h.x2 (.inr rfl),h.t,fun k hk=>⟨(h.tb k hk).1,Nat.lt_of_lt_of_le (h.tb k hk).2 hc.size⟩⟩
theorem SlS.put(h:SlS J S w W yl c1 B x d cur T V) (hJ:∀ i T T' A A',J i T A->ChT W.heap.size T A A'->gS A A' T T'->J i T' A') (hS:∀ k,S k->k<W.heap.size) (hc:c1≠W.heap.size+1/\c1+1≠W.heap.size+1) (y:Int):SlS J S w W yl c1 B x d y T (V.setCell ⟨W.heap.size+1,0,none⟩ (.int .i64 y)):=
 ⟨hJ _ _ _ _ _ h.j (ChT.set h.t.2.1 (by omega) _ _) (gS.refl _ _ _),⟨fun k hk=>(Below.heap_setCell _ _ _ _ (by have:=hS k hk;dsimp only;omega)).trans (h.ks.1 k hk),by simpa using h.ks.2⟩,by simpa using h.sz,aM h.b3 (by omega) _ _,aI h.b4 _ _,aM h.x1 hc.1 _ _,aM h.x2 hc.2 _ _,h.t,fun k hk=>by simpa using h.tb k hk⟩
theorem SlS.next{d':Nat} (h:SlS J S w W yl c1 B x d cur T V) (hS:∀ k,S k->k<w.heap.size) (hz:V.heap.size<=V'.heap.size) (hk:∀ k,T k\/S k->k<V.heap.size->V'.heap[k]?=V.heap[k]?) (hj:J d' T V'):SlS J S w W yl c1 B x d' cur T V':=
 ⟨hj,⟨fun k rh=>(hk k (.inr rh) (by have:=hS k rh;have:=h.ks.2;omega)).trans (h.ks.1 k rh),Nat.le_trans h.ks.2 hz⟩,Nat.le_trans h.sz hz,(hk _ (.inl h.t.1) (aD h.b3)).trans h.b3,(hk _ (.inl h.t.2.1) (aD h.b4)).trans h.b4,(hk _ (.inl h.t.2.2.1) (aD h.x1)).trans h.x1,(hk _ (.inl h.t.2.2.2) (aD h.x2)).trans h.x2,h.t,fun k rh=>⟨(h.tb k rh).1,Nat.lt_of_lt_of_le (h.tb k rh).2 hz⟩⟩
end
theorem P4(B:Nat) (x:Int) (w:World) :
  Calls Tryz.prog 49 #[.pointer (some ⟨B,0,none⟩),.int .i64 x] w fun r w'=>r=.returned (.func (.func 89) #[] #[.pointer (some ⟨w.heap.size,0,none⟩),.pointer (some ⟨w.heap.size+1,0,none⟩)])/\w'=(w.alloc (.cells #[.pointer (some ⟨B,0,none⟩)] 94)).alloc (.cells #[.int .i64 x] 3):=by
 go_enter Tryz.func49,Tryz.ntmps49
 go_wp2
 go_ret
 exact⟨rfl,rfl⟩
def WH(base:Nat) (l:List Lk):MP:=⟨fun x W=>bN W x l/\∀ k,x.ownBlock=some k->base<=k,fun _ _ _ h hb=>⟨h.1.up up_link hb,h.2⟩⟩
def TR(base:Nat) (l:List Lk):MP:=⟨fun x W=>∃ u,x=.tuple #[u,.bool true,.int .i64 0]/\bN W u l/\∀ k,u.ownBlock=some k->base<=k,fun _ _ _ h hb=>by obtain⟨u,e,h1,h2⟩:=h;exact⟨u,e,h1.up up_link hb,h2⟩⟩
theorem Ng(s:Sys) (hv:verifyE s=0) (hE:eS s<=256) (hN:movesN s.prob.a.states<1099511627776) (B bx bl:Nat) (x:Int) (w0:World) (gd:ScAt w0 B s) (w:World) (aG:Below w0.heap.size w0 w)
  (lm:w.heap[bx]?=some (.cells #[.pointer (some ⟨B,0,none⟩)] 94)) (ox:w.heap[bl]?=some (.cells #[.int .i64 x] 3)) :
  TN Tryz.prog 89 #[.pointer (some ⟨bx,0,none⟩),.pointer (some ⟨bl,0,none⟩)] (fun i args=>args=#[((gO s (memL (partsS s) x)).getD i default).v]) (gO s (memL (partsS s) x)).length (fun k=>k<w0.heap.size\/k=bx\/k=bl) w:=by
 intro yl J Jx W hW hyl hJ oU hY oG;have lx:=aD lm;have ll:=aD ox;have mY:=aG.size;have TF:=hW.size;obtain⟨S,hS⟩:∃ S,S=(fun k=>k<w0.heap.size\/k=bx\/k=bl):=⟨_,rfl⟩;have Jt:∀ k,S k->k<w.heap.size:=fun k hk=>by subst hS;rcases hk with hk|rfl|rfl<;>omega
 have Yo:∀ k,S k->k<W.heap.size:=fun k hk=>by have:=Jt k hk;omega
 have oZ:am (∀ V,KSz S w V->js w0.heap.size w0 V/\V.cell? ⟨bx,0,none⟩=some (.pointer (some ⟨B,0,none⟩))/\V.cell? ⟨bl,0,none⟩=some (.int .i64 x)):=aa (fun V hV=>by
  subst hS
  exact⟨fun k hk=>(hV.1 k (.inl hk)).trans (aG.block k hk),(ab ((hV.1 bx (.inr (.inl rfl))).trans lm) 0).trans rfl,(ab ((hV.1 bl (.inr (.inr rfl))).trans ox) 0).trans rfl⟩)
 have HSL:am (∀ k,k<w0.heap.size->S k):=aa (fun k hk=>by subst hS;exact .inl hk);obtain⟨mem,kZ⟩:∃ mem,memL (partsS s) x=mem:=⟨_,rfl⟩;rw[kZ]at hY ⊢;rw[<-hS]at hY
 have Bd:am (∀ (d:List Lk) (c:Lk) (r:List Lk) (T:Nat->Prop) (W1:World),gO s mem=d++c :: r->J d.length T W1->W.heap.size<=W1.heap.size->YieldAt Fence.wide 0 Tryz.prog yl #[c.v] W1 fun e W'=>
   (W1.heap.size<=W'.heap.size/\(∀ k o,W.heap.size<=k->W1.heap[k]?=some o->o.isCells=false->W'.heap[k]?=some o))/\((e=.returned (.bool true)/\(∀ k,T k\/S k->k<W1.heap.size->W'.heap[k]?=W1.heap[k]?)/\J (d++[c]).length T W')\/(e=.returned (.bool false)/\∃ i,i<=(gO s mem).length/\Jx i T W'))):=aa (fun d c r T W1 e hj hz=>by
  obtain⟨h1,h2,h3,h4⟩:=Lc (x:=default) e;obtain⟨fn,tmps,assign,body,hy,hR⟩:=hY d.length T W1 #[c.v] h1 (by dsimp only;rw[h2]) hj hz;refine⟨fn,tmps,assign,body,hy,hR.mono ?_⟩;rintro e W' ⟨g1,g4,g3⟩;rcases g3 with ⟨rfl,g2,g3⟩|⟨rfl,g3⟩
  ·exact⟨⟨g1,g4⟩,.inl ⟨rfl,g2,by rw[h4];exact g3⟩⟩
  ·exact⟨⟨g1,g4⟩,.inr ⟨rfl,_,h1,g3⟩⟩)
 have HJ:=aa hJ;have Jr:=aa oU;have LP:=aa oG;have jH:=aa gd;have LK:am (KSz S w W):=aa ⟨fun k hk=>hW.block k (Jt k hk),hW.size⟩;have dD:=aa (gE hv)
 have DI:am (∀ i,i<mem.length->mem.getD i 0<eS s):=aa (fun i hi=>by
  rw[az 0 hi];have h1:mem[i]∈memL (partsS s) x:=by rw[kZ];exact List.getElem_mem hi
  exact rG _ h1)
 have HNR:am (∀ i k,i<mem.length->k<mem.length->0<=(db s (mem.getD k 0)).getD (mem.getD i 0) 0):=aa (fun i k hi hk=>by
  have h1:mem[i]∈memL (partsS s) x:=by rw[kZ];exact List.getElem_mem hi
  have h2:mem[k]∈memL (partsS s) x:=by rw[kZ];exact List.getElem_mem hk
  rw[az 0 hi,az 0 hk]
  exact Ch dD.o _ _ (rG _ h1) (rG _ h2) ((jN.1 h1).2.trans (jN.1 h2).2.symm))
 have HWF:=aa (KY s mem);have HWN:=aa (Nf s mem);have HWE:=aa (P3 s mem);have dz:=aa (ae aG hW);clear hY hJ oU oG gd lm ox hS;have tw:=(oZ.o W LK.o).2;have t1:∀ o o',((W.alloc o).alloc o').cell? ⟨bx,0,none⟩=some (.pointer (some ⟨B,0,none⟩)):=fun o o'=>ak (show Below W.heap.size W ((W.alloc o).alloc o') by go_grown) tw.1
 have t2:∀ o o',((W.alloc o).alloc o').cell? ⟨bl,0,none⟩=some (.int .i64 x):=fun o o'=>ak (show Below W.heap.size W ((W.alloc o).alloc o') by go_grown) tw.2
 refine gi Tryz.func89 rfl ?_;simp only[Tryz.ntmps89,List.size_toArray,List.length_cons,List.length_nil,Nat.reduceAdd,Nat.reduceSub,Array.replicate_succ,Array.replicate_zero,List.push_toArray,List.append_toArray,List.nil_append,List.cons_append]
 go_wp2_with fail
 refine(xE B x _).mono ?_;rintro r w2 ⟨rfl,rfl⟩;clear t1 t2 tw
 go_wp2_with fail
 refine bC (fun U=>Below W.heap.size W U/\U.heap.size=W.heap.size+1+1+1+1/\U.heap[W.heap.size]?=some (.cells #[.func (.yield yl) #[] #[]] 80)/\U.heap[W.heap.size+1]?=some (.cells #[.int .i64 (-1)] 3)/\U.heap[W.heap.size+1+1]?=some (.cells #[.pointer (some ⟨B,0,none⟩)] 94)/\U.heap[W.heap.size+1+1+1]?=some (.cells #[.int .i64 x] 3))
  ⟨by go_grown,by simp,ar _ (ar _ (ar _ (ap _ _))),ar _ (ar _ (aZ _ _ _)),ar _ (dZ _ _ _ _),by have h:=ap (((W.alloc (.cells #[.func (.yield yl) #[] #[]] 80)).alloc (.cells #[.int .i64 (-1)] 3)).alloc (.cells #[.pointer (some ⟨B,0,none⟩)] 94)) (.cells #[.int .i64 x] 3);simpa using h⟩ (fun U hU=>?_)
 obtain⟨uh,zi,sB,mj,zd,Kj⟩:=hU;obtain⟨c1,kR⟩:∃ c1,W.heap.size+1+1=c1:=⟨_,rfl⟩;rw[kR]at zd Kj zi ⊢;have hc1':W.heap.size+2=c1:=kR;clear kR
 have HU:am (SlS J S w W yl c1 B x 0 (-1) (fun k=>W.heap.size<=k/\k<U.heap.size) U):=aa
  ⟨HJ.o _ _ _ _ _ LP.o (ChT.of_below (Nat.le_refl _) uh) ⟨fun k h=>h.elim,fun k h=>.inr h⟩,⟨fun k hk=>(uh.block k (Yo k hk)).trans (LK.o.1 k hk),Nat.le_trans LK.o.2 uh.size⟩,uh.size,sB,mj,zd,Kj,⟨by omega,by omega,by omega,by omega⟩,fun k h=>h⟩
 have um:=aa (oZ.o U HU.o.ks).1;have dg:=vF s B c1 (c1+1) x w0 jH.o U (ae dz.o uh) (by rw[ab zd];rfl) (by rw[ab Kj];rfl);rw[kZ]at dg;have iT:=aa (fun d cur T A A' (hc:Chg U.heap.size A A') (h:SlS J S w W yl c1 B x d cur T A)=>h.chg HJ.o Jt (by omega) (by omega) hc);have hUs:=zi;clear uh zi sB mj zd Kj kZ
 refine Ou (gf:=135) (lb:=#[.pointer (some ⟨c1,0,none⟩),.pointer (some ⟨c1+1,0,none⟩)]) rfl (enters_of Tryz.func135 (by kernel_rfl) rfl) dg (Below.refl _ _) (fun k hk=>by rcases hk with hk|rfl|rfl<;>omega) (fun i=>rfl)
  (fun i V=>∃ dl T,gO s mem=dl++mF s mem i/\SlS J S w W yl c1 B x dl.length (if i=0 then -1 else(mem.getD (i - 1) 0:Nat)) T V)
  (fun c i V=>c=.ret/\W.heap.size<=V.heap.size/\∃ T i,i<=(gO s mem).length/\Jx i T V)
  (fun i A A' hc h=>by obtain⟨dl,T,h1,h2⟩:=h;exact⟨dl,T,h1,iT.o _ _ _ _ _ hc h2⟩)
  (fun c i A A' hc h=>by obtain⟨h1,h0,T,i,h2,h3⟩:=h;exact⟨h1,Nat.le_trans h0 hc.size,T,i,h2,Jr.o _ _ _ _ _ h3 (ChT.of_chg hc (by omega) h0) (gS.refl _ _ _)⟩)
  ⟨[],_,rfl,HU.o⟩ ?rnd ?done ?stop
 case done=>
  rintro D V hD ⟨dl,T,h1,h2⟩ hK;rw[HWE.o,List.append_nil]at h1;have Gs:=aD hK
  go_wp2_with fail
  refine Oo hK (v:=.tuple #[]) (by simp[results,Tryz.results89,go_sem]) ⟨⟨_,rfl⟩,T,.inl ?_⟩;rw[h1];exact HJ.o _ _ _ _ _ h2.j (ChT.of_chg (Chg.put _ hK (B:=U.heap.size) hD rfl) (by omega) h2.sz) (gS.refl _ _ _)
 case stop=>
  rintro D c i V hD hi ⟨rfl,h0,T,j,h1,h2⟩ hK;have Gs:=aD hK
  go_wp2_with fail
  refine iK hK (v:=.tuple #[]) (by simp[results,Tryz.results89,go_sem]) ⟨⟨_,rfl⟩,T,.inr ⟨j,h1,?_⟩⟩;exact Jr.o _ _ _ _ _ h2 (ChT.of_chg (Chg.put _ hK (B:=U.heap.size) hD rfl) (by omega) h0) (gS.refl _ _ _)
 case rnd=>
  rintro yi i V hi hl ⟨dl,T,JE,J'⟩;unfold wX;obtain⟨e,he⟩:∃ e,mem.getD i 0=e:=⟨_,rfl⟩;have jg:=DI.o i hi;rw[he]at jg ⊢;have HSL2:=aa J';have HWY:=aa JE;have UF:=aa he;clear J' JE dg he
  gi_wp2
  refine⟨Bod.refl _ _ _,fun X=>SlS J S w W yl c1 B x dl.length (if i=0 then -1 else(mem.getD (i - 1) 0:Nat)) T X,fun A A' hc h=>iT.o _ _ _ _ _ hc h,HSL2.o,fun X hX jI=>?_⟩;obtain⟨rlp,jI⟩:=jI;have Jg:=aD jI;clear jI rlp HSL2;have HX:=aa hX;have t3:=ab hX.b3 0;have t4:=ab hX.b4 0;have f4:=aH hX.b4 0;simp only[List.getElem?_toArray,List.getElem?_cons_zero]at t3 t4;clear hX;have NW:¬ (W.heap.size+1<w0.heap.size\/W.heap.size+1=c1\/W.heap.size+1=c1+1):=by omega
  have fc:am (∀ (T:Nat->Prop) (V W':World),T c1/\T (c1+1)->c1+1<V.heap.size->w0.heap.size<=V.heap.size->(V.heap.size<=W'.heap.size/\(∀ k,T k\/S k->k<V.heap.size->W'.heap[k]?=V.heap[k]?)/\(∀ k o,W.heap.size<=k->V.heap[k]?=some o->o.isCells=false->W'.heap[k]?=some o))->Bod U.heap.size (fun k=>k<w0.heap.size\/k=c1\/k=c1+1) V W'):=aa (fun T V W' ht hv h0 h=>⟨h.1,fun k hk=>by
   rcases hk with hk|rfl|rfl
   ·exact h.2.1 k (.inr (HSL.o k hk)) (by omega)
   ·exact h.2.1 _ (.inl ht.1) (by omega)
   ·exact h.2.1 _ (.inl ht.2) hv,fun k o hk ho hc=>h.2.2 k o (by omega) ho hc⟩)
  have jR:=aa (aD HX.o.x2);have h0X:w0.heap.size<=X.heap.size:=by have:=HX.o.sz;omega
  by_cases cX:i=0
  ·subst cX;rw[if_pos rfl]at t4 HX;have HP:=aa (HX.o.put HJ.o Yo ⟨by omega,by omega⟩ e);have t3':=ab HP.o.b3 0;simp only[List.getElem?_toArray,List.getElem?_cons_zero]at t3';have iR:am (gO s mem=dl++⟨e,-1⟩ :: mF s mem 1):=aa (by rw[HWY.o,HWF.o (by omega),UF.o]);obtain⟨fn,tmps,assign,body,pz,hR⟩:=Bd.o dl ⟨e,-1⟩ _ T (X.setCell ⟨W.heap.size+1,0,none⟩ (.int .i64 e)) iR.o HP.o.j HP.o.sz;have HR:=aa hR;clear hR t3
   gi_wp2
   refine⟨rfl,xx (HR.o.mono ?_)⟩;rintro r W3 ⟨pf,(⟨rfl,FZ,AT⟩|⟨rfl,i9,Qt,SE⟩)⟩
   ·have Bg:=And.intro pf.1 (And.intro FZ pf.2);have dE:=aa ((Bod.setCell (B:=U.heap.size) X ⟨W.heap.size+1,0,none⟩ (.int .i64 e) NW).trans (fc.o T _ W3 HP.o.t.2.2 (by have:=jR.o;simp;omega) (by simp;omega) Bg));have WY:=aa (HP.o.next Jt Bg.1 Bg.2.1 AT);clear Bg pf FZ AT HR pz t3' t4 f4 NW
    gi_wp2
    refine⟨dE.o,dl++[⟨e,-1⟩],T,by rw[iR.o,List.append_cons],?_⟩;rw[if_neg (by omega),Nat.zero_add,Nat.sub_self,UF.o];exact WY.o
   ·have dE:=aa ((Bod.setCell (B:=U.heap.size) (S:=fun _=>False) X ⟨W.heap.size+1,0,none⟩ (.int .i64 e) (fun h=>h)).out.trans ⟨pf.1,fun k o hk ho hc=>pf.2 k o (by omega) ho hc⟩);have DC:W.heap.size<=W3.heap.size:=Nat.le_trans HP.o.sz pf.1;clear pf HR pz t3' t4 f4 NW Bd
    gi_wp2
    exact⟨dE.o,rfl,DC,T,i9,Qt,SE⟩
  ·rw[if_neg cX]at t4 HX;obtain⟨a,ha⟩:∃ a,mem.getD (i - 1) 0=a:=⟨_,rfl⟩;have YF:=DI.o (i - 1) (by omega);have U9:=HNR.o (i - 1) i (by omega) hi;have gB:=aa (HWN.o i (by omega) hi);rw[ha,UF.o]at U9 gB;rw[ha]at YF t4 HX;obtain⟨path,Hl⟩:∃ path,kE s a e=path:=⟨_,rfl⟩;rw[Hl]at gB;have hlta:decide ((a:Int)<0)=false:=decide_eq_false (by omega);have hscX:=ScAt.kp jH.o (oZ.o X HX.o.ks).1;obtain⟨vc,vs,vt,ve,vv,vl,q1,q2,_,_⟩:=hscX.ex;obtain⟨⟨qc,kc,rfl⟩,⟨qs,ks,rfl⟩,⟨qt,kt,rfl⟩,⟨qe,ke,rfl⟩⟩:=bD q2;have Un:=aa (fun V (hb:Below X.heap.size X V)=>PW s hv hE _ _ _ _ a e YF jg U9 V (q2.up hb) hN);rw[Hl]at Un;have hplen:path.length<256:=by rw[<-Hl];have:=(La YF jg U9).2.2;omega
   generalize s.prob.t.cases.length=nc,s.prob.a.states.length=ns,s.tab.length=nt,s.ex.length=ne at q1 Un;have Gg:=aa q1;have TB:=aa (oZ.o X HX.o.ks).2.1;have jF:=aa HX.o.b4;obtain⟨b4,bS⟩:∃ b4,W.heap.size+1=b4:=⟨_,rfl⟩;rw[bS]at t4 f4 jF ⊢;clear hscX q1 q2 Hl U9 ha f4 t3 NW
   gi_wp2
   have hS:List.Nodup [24,25,26,27,28,29,30,23,31,32,33,6,7,8]:=by decide
   refine Al 14 [24,25,26,27,28,29,30,23,31,32,33,6,7,8] [MP.eq (.pointer (some ⟨B,0,none⟩)),MP.eq (.pointer (some ⟨B,0,none⟩)),MP.eq (.pointer (some ⟨B,0,none⟩)),MP.eq (.agg #[.int .i64 s.prob.t.n,.int .i64 s.prob.t.ins,.int .i64 s.prob.t.outs,.slice qc nc kc,.int .i64 s.prob.a.n,.slice qs ns ks,.int .i64 s.prob.rounds,.int .i64 s.n,.slice qt nt kt,.slice qe ne ke]),MP.eq (.int .i64 a),MP.eq (.int .i64 e),TR X.heap.size (⟨a,-1⟩ :: path),TR X.heap.size (⟨a,-1⟩ :: path),WH X.heap.size (⟨a,-1⟩ :: path),MP.eq (.bool true),MP.eq (.int .i64 0),WH X.heap.size (⟨a,-1⟩ :: path),MP.eq (.bool true),MP.eq (.int .i64 0)] (by kernel_rfl) rfl hS rfl (by kernel_rfl) (fun ⟨_,_,h⟩=>h) (by kernel_rfl) ?step ?tail
   case step=>
    intro xq Wq iq oq sq F hi ho hs hB aq hF;rcases (show iq=0\/iq=1\/iq=2\/iq=3\/iq=4\/iq=5\/iq=6\/iq=7\/iq=8\/iq=9\/iq=10\/iq=11\/iq=12\/iq=13 by omega) with rfl|rfl|rfl|rfl|rfl|rfl|rfl|rfl|rfl|rfl|rfl|rfl|rfl|rfl
    all_goals (obtain rfl:=dy ho.symm;obtain rfl:=dy hs.symm;clear hi ho hs)
    ·obtain⟨g1,h1⟩:=cJ hF 1 (.pointer (some ⟨bx,0,none⟩)) (by decide) rfl;have tb:=ak hB TB.o;clear hF aq
     go_wp2_with fail
     exact bh.mk _ (Below.refl _ _) rfl rfl
    ·obtain⟨e0,f0⟩:=aS hF 0 24 _ hS rfl (by kernel_rfl) (aq ⟨0,.data⟩ (by simp) rfl);clear hF aq
     go_wp2_with fail
     exact bh.mk _ (Below.refl _ _) rfl rfl
    ·obtain⟨e1,f1⟩:=aS hF 1 25 _ hS rfl (by kernel_rfl) (aq ⟨1,.data⟩ (by simp) rfl);clear hF aq
     go_wp2_with fail
     exact bh.mk _ (Below.refl _ _) rfl rfl
    ·obtain⟨e2,f2⟩:=aS hF 2 26 _ hS rfl (by kernel_rfl) (aq ⟨2,.data⟩ (by simp) rfl);have tb:=ab (af hB Gg.o);clear hF aq
     go_wp2_with fail
     exact bh.mk _ (Below.refl _ _) rfl rfl
    ·obtain⟨g4,h4⟩:=cJ hF 4 (.pointer (some ⟨b4,0,none⟩)) (by decide) rfl;have tb:=ab (af hB jF.o) 0;simp only[List.getElem?_toArray,List.getElem?_cons_zero]at tb;clear hF aq
     go_wp2_with fail
     exact bh.mk _ (Below.refl _ _) rfl rfl
    ·obtain⟨g5,h5⟩:=cJ hF 5 (.int .i64 e) (by decide) rfl;clear hF aq
     go_wp2_with fail
     exact bh.mk _ (Below.refl _ _) rfl rfl
    ·obtain⟨e3,f3⟩:=aS hF 3 27 _ hS rfl (by kernel_rfl) (aq ⟨3,.data⟩ (by simp) rfl);obtain⟨e4,f4⟩:=aS hF 4 28 _ hS rfl (by kernel_rfl) (aq ⟨4,.data⟩ (by simp) rfl);obtain⟨e5,f5⟩:=aS hF 5 29 _ hS rfl (by kernel_rfl) (aq ⟨5,.data⟩ (by simp) rfl);clear hF aq
     go_wp2_with fail
     refine(Un.o Wq hB).mono ?_;rintro r w9 ⟨u9,rfl,⟨hl9,jJ⟩,dU⟩;have HL9:=aa hl9;have ny:=aa (fun k hk=>Nat.le_trans hB.size (jJ k hk));clear hl9 jJ
     go_wp2_with fail
     exact bh.mk _ dU ⟨_,rfl,HL9.o,ny.o⟩ rfl
    ·have d6:=aq ⟨6,.data⟩ (by simp) rfl;obtain⟨u6,eu6,Rn,QE⟩:=d6;obtain⟨e6,f6⟩:=aS hF 6 30 _ hS rfl (by kernel_rfl) eu6;clear hF aq
     go_wp2_with fail
     exact bh.mk _ (Below.refl _ _) ⟨_,rfl,Rn,QE⟩ rfl
    ·have d7:=aq ⟨7,.data⟩ (by simp) rfl;obtain⟨u6,eu6,Rn,QE⟩:=d7;obtain⟨e7,f7⟩:=aS hF 7 23 _ hS rfl (by kernel_rfl) eu6;clear hF aq
     go_wp2_with fail
     exact bh.mk _ (Below.refl _ _) ⟨Rn,QE⟩ rfl
    ·have d7:=aq ⟨7,.data⟩ (by simp) rfl;obtain⟨u6,eu6,Rn,QE⟩:=d7;obtain⟨e7,f7⟩:=aS hF 7 23 _ hS rfl (by kernel_rfl) eu6;clear hF aq
     go_wp2_with fail
     exact bh.mk _ (Below.refl _ _) rfl rfl
    ·have d7:=aq ⟨7,.data⟩ (by simp) rfl;obtain⟨u6,eu6,Rn,QE⟩:=d7;obtain⟨e7,f7⟩:=aS hF 7 23 _ hS rfl (by kernel_rfl) eu6;clear hF aq
     go_wp2_with fail
     exact bh.mk _ (Below.refl _ _) rfl rfl
    ·have d8:=aq ⟨8,.data⟩ (by simp) rfl;obtain⟨e8,f8⟩:=aS hF 8 31 _ hS rfl (by kernel_rfl) rfl;clear hF aq
     go_wp2_with fail
     exact bh.mk _ (Below.refl _ _) d8 rfl
    ·obtain⟨e9,f9⟩:=aS hF 9 32 _ hS rfl (by kernel_rfl) (aq ⟨9,.data⟩ (by simp) rfl);clear hF aq
     go_wp2_with fail
     exact bh.mk _ (Below.refl _ _) rfl rfl
    ·obtain⟨e10,f10⟩:=aS hF 10 33 _ hS rfl (by kernel_rfl) (aq ⟨10,.data⟩ (by simp) rfl);clear hF aq
     go_wp2_with fail
     exact bh.mk _ (Below.refl _ _) rfl rfl
   case tail=>
    clear hS;intro xq Wq F hB aU hF;have d11:bN Wq (xq 11) (⟨a,-1⟩ :: path)/\∀ k,(xq 11).ownBlock=some k->X.heap.size<=k:=aU 11 (by omega);have d12:xq 12=.bool true:=aU 12 (by omega);have d13:xq 13=.int .i64 0:=aU 13 (by omega);clear aU;obtain⟨qP,bd⟩:=d11;obtain⟨pu,cu,eu,lu1,lu2,el⟩:=qP.at;obtain⟨g,o,rfl,tW⟩:=el 0 (by simp);rw[eu]at qP bd;simp only[bA,cW,List.setIfInBounds_toArray,List.set_cons_succ,List.set_cons_zero,Nat.reduceAdd]at hF;rw[eu,d12,d13]at hF;generalize xq 0=s0,xq 1=s1,xq 2=s2,xq 3=s3,xq 4=s4,xq 5=s5,xq 6=s6,xq 7=s7,xq 8=s8,xq 9=s9,xq 10=s10 at hF;subst hF;have hgX:=bd g rfl;have hgW:g<Wq.heap.size:=fx tW.1.1;have vZ:(⟨a,-1⟩ :: path:List Lk).length=path.length+1:=by simp
    rw[vZ]at qP lu1 lu2 ⊢;have it:=aa qP
    have SN:am (gS X Wq T (fun k=>T k\/k=g)):=aa ⟨fun k hk=>.inl hk,fun k hk=>by
     rcases hk with hk|rfl
     ·exact .inl hk
     ·exact .inr ⟨hgX,hgW⟩⟩
    have HQ:=aa (HX.o.grow HJ.o Jt hB SN.o);have eU:am (Bod U.heap.size (fun k=>k<w0.heap.size\/k=c1\/k=c1+1) X Wq):=aa (Bod.of_below (fun k hk=>by have:=jR.o;rcases hk with hk|rfl|rfl<;>omega) hB);clear qP bd d12 d13 eu el tW hB vZ;have hmin:min (1:Int) ((path.length:Int)+1)=1:=by omega
    subst bS;have rW:cu=1->path.length=0:=fun h=>by omega
    have HJ2:=aa HQ.o.j;generalize hgT:(fun k=>T k\/k=g)=T2 at HQ HJ2 SN;have Xn:am (T2 g):=aa (by rw[<-hgT];exact .inr rfl);clear hgT SN HJ2 t4 TB Gg jF HX Un
    have HELT:am (∀ k (hk:k<path.length),Wq.cell? ⟨g,o+2+k * 2,none⟩=some (.int .i64 (path[k]).x)/\Wq.cell? ⟨g,o+2+k * 2+1,none⟩=some (.int .i64 (path[k]).p)):=aa (fun k hk=>by
     obtain⟨pl9,cl9,e9,_,_,el9⟩:=it.o.at;injection e9 with e9
     obtain⟨b9,o9,e8,h8⟩:=el9 (k+1) (by simp;omega);rw[<-e9]at e8;injection e8 with e8
     injection e8 with e7 e6
     subst e7 e6;rw[show o+(k+1) * 2=o+2+k * 2 by omega]at h8
     exact⟨h8.1.1,h8.2.1⟩)
    obtain⟨m,hm⟩:∃ m,path.length=m:=⟨_,rfl⟩;have HM:=aa hm;rw[hm]at hmin rW lu1 hplen ⊢;clear hm it
    gi_wp2
    case' inl=>have hcu0:m=0:=by omega
    case' inr=>have hcu0:True:=trivial
    all_goals
     gi_loopw [40] (fun k wr=>∃ (k':Nat) (d:List Lk),k'<=m/\k=.int .i64 k'/\gO s mem=d++(path.drop k'++mF s mem (i+1))/\SlS J S w W yl c1 B x d.length a T2 wr/\Bod U.heap.size (fun k=>k<w0.heap.size\/k=c1\/k=c1+1) X wr/\wr.heap[g]?=Wq.heap[g]?) (fun k _=>m - (intOf k).toNat)
     ·exact⟨0,dl,by omega,rfl,by rw[HWY.o,gB.o];rfl,HQ.o,eU.o,rfl⟩
     ·
      obtain⟨k,d,hk,rfl,hd,hq,nm,UG⟩:=hrel;have HD:=aa hd;have xQ:=aa hq;have aV:=aa nm;have AQ:=aa UG;clear hd hq nm UG;by_cases aC:k<m
      ·first
        | (exfalso;omega)
        | (
      have FZ:k<path.length:=by rw[HM.o];exact aC
      have c0:=HELT.o k FZ;have eP:∀ o',wr.cell? ⟨g,o',none⟩=Wq.cell? ⟨g,o',none⟩:=fun o'=>by unfold World.cell?;rw[AQ.o]
      rw[<-eP,<-eP]at c0;have zn:am (gO s mem=d++path[k] :: (path.drop (k+1)++mF s mem (i+1))):=aa (by rw[HD.o,List.drop_eq_getElem_cons FZ];rfl);generalize path[k]=y at c0 zn;obtain⟨yx,yp⟩:=y;obtain⟨cx,cp⟩:=c0;dsimp only at cx cp;have BB:Below wr.heap.size wr (wr.alloc (.cells #[.int .i64 yx,.int .i64 yp] 75)):=by go_grown
      have rT:=aa (xQ.o.grow HJ.o Jt BB (gS.refl _ _ _));have t3':∀ o',(wr.alloc o').cell? ⟨W.heap.size,0,none⟩=some (.func (.yield yl) #[] #[]):=fun o'=>(ab (ar o' xQ.o.b3) 0).trans rfl
      obtain⟨fn,tmps,assign,body,pz,hR⟩:=Bd.o d ⟨yx,yp⟩ _ T2 (wr.alloc (.cells #[.int .i64 yx,.int .i64 yp] 75)) zn.o rT.o.j rT.o.sz;have HR:=aa hR;have A7:am (Bod U.heap.size (fun k=>k<w0.heap.size\/k=c1\/k=c1+1) X (wr.alloc (.cells #[.int .i64 yx,.int .i64 yp] 75))):=aa (aV.o.trans (Bod.of_below (fun k hk=>by have:=aD xQ.o.x2;have:=xQ.o.sz;rcases hk with hk|rfl|rfl<;>omega) BB));have HGA:am ((wr.alloc (.cells #[.int .i64 yx,.int .i64 yp] 75)).heap[g]?=Wq.heap[g]?):=aa ((BB.block g (xQ.o.tb g Xn.o).2).trans AQ.o);clear hR eP BB
      gi_wp2
      refine⟨rfl,xx (HR.o.mono ?_)⟩;rintro r W9 ⟨pf,(⟨rfl,FZ,Qy⟩|⟨rfl,i9,Qt,SE⟩)⟩
      ·have Bg:=And.intro pf.1 (And.intro FZ pf.2);have fr:=aa (A7.o.trans (fc.o T2 _ W9 rT.o.t.2.2 (aD rT.o.x2) (by have:=rT.o.sz;omega) Bg));have HP9:=aa (rT.o.next Jt Bg.1 Bg.2.1 Qy);have Q5:=aa ((Bg.2.1 g (.inl Xn.o) (rT.o.tb g Xn.o).2).trans HGA.o);clear Bg pf FZ Qy HR pz t3' cx cp
       gi_wp2
       go_roundw
       ·exact⟨k+1,d++[⟨yx,yp⟩],by omega,by go_num,by rw[zn.o,List.append_cons],HP9.o,fr.o,Q5.o⟩
       ·simp[intOf];omega
      ·have fr:=aa (A7.o.out.trans ⟨pf.1,fun k o hk ho hc=>pf.2 k o (by omega) ho hc⟩);have QW:W.heap.size<=W9.heap.size:=Nat.le_trans rT.o.sz pf.1;clear pf HR pz t3' cx cp Bd
       gi_wp2
       exact⟨fr.o,rfl,QW,T2,i9,Qt,SE⟩)
      ·obtain rfl:k=m:=by omega
       have Ka:am (gO s mem=d++mF s mem (i+1)):=aa (by rw[HD.o,<-HM.o,List.drop_length];rfl);have QJ:=aa (xQ.o.put HJ.o Yo ⟨by omega,by omega⟩ e);have za:=aa (aV.o.trans (Bod.setCell (B:=U.heap.size) (S:=fun k=>k<w0.heap.size\/k=c1\/k=c1+1) wr ⟨W.heap.size+1,0,none⟩ (.int .i64 e) (by dsimp only;omega)));have t4':=ab xQ.o.b4 0;have f4':=aH xQ.o.b4 0;simp only[List.getElem?_toArray,List.getElem?_cons_zero]at t4'
       gi_wp2
       refine⟨za.o,d,T2,Ka.o,?_⟩;rw[if_neg (by omega),Nat.add_sub_cancel,UF.o];exact QJ.o
theorem C5(k:Int) (a:List Lk) (va vb:Value) (p1 p2 p3 q1 q2 q3:Option Addr) (c1 c2 c3 d1 d2 d3:Nat) (w:World) (ha:bN w va a) (hb:bN w vb a) :
  Calls Tryz.prog 20 #[.agg #[.int .i64 k,va,.slice p1 0 c1,.slice p2 0 c2,.slice p3 0 c3],.agg #[.int .i64 k,vb,.slice q1 0 d1,.slice q2 0 d2,.slice q3 0 d3]] w fun r w'=>r=.returned (.bool true)/\Below w.heap.size w w':=by
 have zf:=aa (fun W (h:Below w.heap.size w W)=>M7 va vb a a W (ha.up up_link h) (hb.up up_link h));obtain⟨pa,ca,rfl,_,_,_⟩:=ha.at;obtain⟨pb,cb,rfl,_,_,_⟩:=hb.at;rw[decide_eq_true (rfl:a=a)]at zf;generalize a.length=n at zf ⊢;clear ha hb
 go_enter Tryz.func20,Tryz.ntmps20
 go_wp2_with fail
 refine aO (fun W=>Below w.heap.size w W/\W.heap[w.heap.size]?=some (.cells #[.int .i64 k,.slice pa n ca,.slice p1 0 c1,.slice p2 0 c2,.slice p3 0 c3] 58)/\W.heap[w.heap.size+1]?=some (.cells #[.int .i64 k,.slice pb n cb,.slice q1 0 d1,.slice q2 0 d2,.slice q3 0 d3] 58)) ⟨by go_grown,ar _ (ap _ _),by have h:=ap (w.alloc (.cells #[.int .i64 k,.slice pa n ca,.slice p1 0 c1,.slice p2 0 c2,.slice p3 0 c3] 58)) (.cells #[.int .i64 k,.slice pb n cb,.slice q1 0 d1,.slice q2 0 d2,.slice q3 0 d3] 58);simpa using h⟩ (fun W0 aX=>?_);obtain⟨aG,bB,nG⟩:=aX;refine(zf.o W0 aG).mono ?_;rintro r w1 ⟨rfl,aK⟩;have bI:=aa (ae aG aK);have tA:=ab (af aK bB);have tC:=ab (af aK nG);clear aG bB nG aK zf
 go_wp2_with fail
 go_ret
 exact⟨rfl,bI.o⟩
theorem Nh(n:Nat) (hn:n<=4096) (x:Int) (w:World) :
  Calls Tryz.prog 45 #[.int .i64 n,.int .i64 x] w fun r w'=>∃ u,r=.returned u/\aJ w' w.heap.size 3 1 u n ((List.replicate n x).map (Value.int .i64))/\Below w.heap.size w w':=by
 obtain⟨i0,cX,cD,bX,cF⟩:=info_parts Tryz.infoInt;have cB:=aa (And.intro cX (And.intro cD (And.intro bX cF)));clear cX cD bX cF;have dr:am (∀ k,List.replicate (k+1) x=List.replicate k x++[x]):=aa fun k=>List.replicate_succ'
 go_enter Tryz.func45,Tryz.ntmps45
 go_wp2_with fail
 go_loopw [5,6] (fun o i wr=>∃ k:Nat,k<=n/\i=.int .i64 k/\Below w.heap.size w wr/\aJ wr w.heap.size 3 1 o k ((List.replicate k x).map (Value.int .i64))) (fun _ i _=>n - (intOf i).toNat)
 ·exact⟨0,by omega,rfl,Below.refl _ _,aJ.nil _ _ _ _⟩
 ·
  obtain⟨k,hk,rfl,aA,bd⟩:=hrel;obtain⟨al,cl2,rfl⟩:=bd.slice;have bO:=aa bd;have aV:=aa aA;clear bd aA;by_cases aC:k<n
  ·have cY:=aa (bO.o.up ((Below.refl _ wr).alloc (Nat.le_refl _) (.cells #[.int .i64 x] 3)));have bF:=aa (dQ wr [.int .i64 x] 3);have kH:am (k+1<=maxLen):=aa (by unfold maxLen;omega);have p8:am ((k+1) * 8<=140737488355328):=aa (by omega);have gu:am (w.heap.size<=(wr.alloc (.cells #[.int .i64 x] 3)).heap.size):=aa (by have:=aV.o.size;simp;omega)
   go_wp2_with (at_builtin;(refine bg _ rfl (.tmp 12) (.tmp 14) 38 rfl w.heap.size 3 i0 _ 1 8 Tryz.underlying38 cB.o.1 cB.o.2.1 cB.o.2.2.1 cB.o.2.2.2 rfl (by decide) _ k _ rfl cY.o ⟨wr.heap.size,0,none⟩ 1 1 [.int .i64 x] rfl rfl bF.o (by simp[Value.oneCell']) kH.o p8.o gu.o ?_;intro v6 w6 fh eF _))
   go_roundw
   ·
    refine⟨k+1,by omega,by go_num,eG aV.o (Nat.le_refl _) cY.o eF,?_⟩;rw[dr.o,List.map_append];exact fh
   ·simp[intOf];omega
  ·obtain rfl:k=n:=by omega
   go_wp2_with fail
   go_ret
   exact⟨_,rfl,bO.o,aV.o⟩
theorem P5(n:Nat) (hn:n<=4096) (x:Int) (hx:bR x) (w:World) :
  Calls Tryz.prog 45 #[.int .i64 n,.int .i64 x] w fun r w'=>∃ u,r=.returned u/\aQ w' u (List.replicate n x)/\Below w.heap.size w w':=by
 refine(Nh n hn x w).mono ?_;rintro r w' ⟨u,rfl,ho,hb⟩;exact⟨_,rfl,gp (l:=List.replicate n x) (base:=w.heap.size) (by rw[List.length_replicate];exact ho) (fun y hy=>by rw[List.eq_of_mem_replicate hy];exact hx) (by simp;omega),hb⟩
theorem Sp(v:Value) (l:List Int) (x:Int) (w:World) (hv:aQ w v l) :
  Calls Tryz.prog 44 #[v,.int .i64 x] w fun r w'=>r=.returned (.bool (l.contains x))/\w=w':=by
 obtain⟨pl,cl,rfl,el⟩:=cV hv;obtain⟨_,_,_,_,cC,_⟩:=hv.at;have EL:=aa el;have HY:am (∀ k,k<l.length->l.getD k 0=x->l.contains x=true):=aa fun k hk h=>by rw[List.contains_iff_mem,<-h,az 0 hk];exact List.getElem_mem hk
 have fk:am ((∀ k,k<l.length->l.getD k 0≠x)->l.contains x=false):=aa fun h=>by
  cases hc:l.contains x with
  | false=>rfl
  | true=>
   obtain⟨k,hk,e⟩:=List.getElem_of_mem (List.contains_iff_mem.1 hc);exact absurd (by rw[az 0 hk];exact e) (h k hk)
 generalize l.contains x=b at HY fk ⊢;clear hv el
 go_enter Tryz.func44,Tryz.ntmps44
 go_wp2_with fail
 go_loop [5] (fun i=>∃ k:Nat,k<=l.length/\i=.int .i64 k/\∀ j,j<k->l.getD j 0≠x) (fun i=>l.length - (intOf i).toNat)
 ·exact⟨0,by omega,rfl,fun j hj=>by omega⟩
 ·
  obtain⟨k,hk,rfl,hz⟩:=hrel;have HZ:=aa hz;clear hz;by_cases aC:k<l.length
  ·obtain⟨b1,o1,rfl,c1⟩:=EL.o k aC;have Qr:=aa (HY.o k aC);have gB:am (l.getD k 0≠x->∀ j,j<k+1->l.getD j 0≠x):=aa fun h=>aY HZ.o h
   generalize l.getD k 0=y at c1 Qr gB;by_cases cg:y=x
   ·have HR:=aa (Qr.o cg);have hd:(y == x)=true:=by simp[cg]
    clear cg
    go_wp2_with fail
    go_ret
    exact⟨aR (by rw[HR.o]),rfl⟩
   ·have HN:=aa (gB.o cg);have hd:(y == x)=false:=beq_eq_false_iff_ne.2 cg;clear cg
    go_wp2_with fail
    go_round
    ·exact⟨k+1,by omega,by go_num,HN.o⟩
    ·simp[intOf];omega
  ·have HR:=aa (fk.o fun j hj=>HZ.o j (by omega))
   go_wp2_with fail
   go_ret
   exact⟨aR (by rw[HR.o]),rfl⟩
theorem IZ(v:Value) (l:List Int) (x:Int) (hn:l.length<=4096) (w:World) (hv:aQ w v l) :
  Calls Tryz.prog 52 #[v,.int .i64 x] w fun r w'=>∃ u,r=.returned u/\aQ w' u ((memL l x).map fun e:Nat=>(e:Int))/\Below w.heap.size w w'/\∀ b,u.ownBlock=some b->w.heap.size<=b:=by
 obtain⟨i0,cX,cD,bX,cF⟩:=info_parts Tryz.infoInt;have cB:=aa (And.intro cX (And.intro cD (And.intro bX cF)));clear cX cD bX cF;obtain⟨pl,cl,rfl,el⟩:=cV hv;have EL:=aa el;obtain⟨L,hL⟩:∃ L:Nat->List Int,L=fun k=>(gH l x k).map fun e:Nat=>(e:Int):=⟨_,rfl⟩
 have jp:am (L 0=[]/\(∀ k,l.getD k 0=x->L (k+1)=L k++[(k:Int)])/\(∀ k,l.getD k 0≠x->L (k+1)=L k)/\(∀ k,(L k).length<=k)/\∀ k,k<=4096->∀ y∈L k,bR y):=aa (by
  subst hL;refine⟨rfl,fun k h=>by dsimp only;rw[tp h,List.map_append];rfl,fun k h=>by dsimp only;rw[BS h],fun k=>?_,fun k hk y hy=>?_⟩
  ·dsimp only;rw[List.length_map];exact Nat.le_trans (List.length_filter_le _ _) (by simp)
  ·obtain⟨j,hj,rfl⟩:=List.mem_map.1 hy;have:=List.mem_range.1 (List.mem_filter.1 hj).1
   exact⟨by omega,by omega⟩)
 have HF:am (L l.length=(memL l x).map fun e:Nat=>(e:Int)):=aa (by subst hL;rfl);generalize ((memL l x).map fun e:Nat=>(e:Int))=F at HF ⊢;obtain⟨n,A2⟩:∃ n,l.length=n:=⟨_,rfl⟩;rw[A2]at EL HF hn ⊢;clear hv el hL A2
 go_enter Tryz.func52,Tryz.ntmps52
 go_wp2_with fail
 go_loopw [5,6] (fun o i wr=>∃ k:Nat,k<=n/\i=.int .i64 k/\Below w.heap.size w wr/\aJ wr w.heap.size 3 1 o (L k).length ((L k).map (Value.int .i64))) (fun _ i _=>n - (intOf i).toNat)
 ·exact⟨0,by omega,rfl,Below.refl _ _,by rw[jp.o.1];exact aJ.nil _ _ _ _⟩
 ·
  obtain⟨k,hk,rfl,aA,bd⟩:=hrel;obtain⟨al,cl2,rfl⟩:=bd.slice;have bO:=aa bd;have aV:=aa aA;have J4:=jp.o.2.2.2.1 k;by_cases aC:k<n
  ·obtain⟨b1,o1,rfl,c0⟩:=EL.o k aC;have c1:=ak aA c0;have rZ:=aa (jp.o.2.1 k);have ss:=aa (jp.o.2.2.1 k);obtain⟨q,hq⟩:∃ q,(L k).length=q:=⟨_,rfl⟩;rw[hq]at bO J4 ⊢;have HQ:=aa hq;generalize l.getD k 0=y at c1 rZ ss;clear bd aA c0 hq;by_cases cg:y=x
   ·have dr:=aa (rZ.o cg);have pk:am ((L (k+1)).length=q+1):=aa (by rw[dr.o,List.length_append,HQ.o];rfl);have hd:(y == x)=true:=by simp[cg]
    clear cg;have cY:=aa (bO.o.up ((Below.refl _ wr).alloc (Nat.le_refl _) (.cells #[.int .i64 (k:Int)] 3)));have bF:=aa (dQ wr [.int .i64 (k:Int)] 3);have kH:am (q+1<=maxLen):=aa (by unfold maxLen;omega);have p8:am ((q+1) * 8<=140737488355328):=aa (by omega);have gu:am (w.heap.size<=(wr.alloc (.cells #[.int .i64 (k:Int)] 3)).heap.size):=aa (by have:=aV.o.size;simp;omega)
    go_wp2_with (at_builtin;(refine bg _ rfl (.tmp 19) (.tmp 21) 38 rfl w.heap.size 3 i0 _ 1 8 Tryz.underlying38 cB.o.1 cB.o.2.1 cB.o.2.2.1 cB.o.2.2.2 rfl (by decide) _ q _ rfl cY.o ⟨wr.heap.size,0,none⟩ 1 1 [.int .i64 (k:Int)] rfl rfl bF.o (by simp[Value.oneCell']) kH.o p8.o gu.o ?_;intro v6 w6 fh eF _))
    go_roundw
    ·
     refine⟨k+1,by omega,by go_num,eG aV.o (Nat.le_refl _) cY.o eF,?_⟩;rw[pk.o,dr.o,List.map_append];exact fh
    ·simp[intOf];omega
   ·have dr:=aa (ss.o cg);have hd:(y == x)=false:=beq_eq_false_iff_ne.2 cg;clear cg
    go_wp2_with fail
    go_roundw
    ·
     refine⟨k+1,by omega,by go_num,aV.o,?_⟩;rw[dr.o,HQ.o];exact bO.o
    ·simp[intOf];omega
  ·obtain rfl:k=n:=by omega
   have HQ:am (aQ wr (.slice al (L k).length cl2) F):=aa (by rw[<-HF.o];exact gp (l:=L k) (base:=w.heap.size) bd (jp.o.2.2.2.2 k hn) (by omega));have QV:am (∀ b,(Value.slice al (L k).length cl2).ownBlock=some b->w.heap.size<=b):=aa (fun b hb=>(bd.lt b hb).1);clear bd aA
   go_wp2_with fail
   go_ret
   exact⟨_,rfl,HQ.o,aV.o,QV.o⟩
theorem I0(x0:Value) (p1:Option Addr) (n1 c1:Nat) (p2:Option Addr) (n2 c2:Nat) (f:Int) (w:World) (h0:∃ a n c,x0=.slice a n c) :
  Calls Tryz.prog 80 #[.agg #[x0,.slice p1 n1 c1,.slice p2 n2 c2],.int .i64 f] w fun e w'=>e=.returned (if f=0/\0<n2 then .slice p2 n2 c2 else .slice p1 n1 c1)/\Below w.heap.size w w':=by
 obtain⟨a0,m0,k0,rfl⟩:=h0;by_cases hf:f=0
 ·have hd:(f == 0)=true:=by simp[hf]
  by_cases hl:0<n2
  ·have e1:decide ((0:Int)<(n2:Int))=true:=decide_eq_true (by omega);have e2:decide (0<n2)=true:=decide_eq_true hl;rw[if_pos ⟨hf,hl⟩];clear hf hl
   go_enter Tryz.func80,Tryz.ntmps80
   go_wp2_with fail
   go_ret
   exact⟨rfl,by go_grown⟩
  ·have e1:decide ((0:Int)<(n2:Int))=false:=decide_eq_false (by omega);have e2:decide (0<n2)=false:=decide_eq_false hl;rw[if_neg (fun h=>hl h.2)];clear hf hl
   go_enter Tryz.func80,Tryz.ntmps80
   go_wp2_with fail
   go_ret
   exact⟨rfl,by go_grown⟩
 ·have hd:(f == 0)=false:=beq_eq_false_iff_ne.2 hf;rw[if_neg (fun h=>hf h.1)];clear hf
  go_enter Tryz.func80,Tryz.ntmps80
  go_wp2_with fail
  go_ret
  exact⟨rfl,by go_grown⟩
theorem V4(s:Sys) (hs:SysOk s) (e:Nat) (he:e<eS s) (vc vs vt ve:Value) (w:World) (cA:IsSys w s vc vs vt ve) :
  Calls Tryz.prog 40 #[.agg (bL s.prob vc vs s.n vt ve),.int .i64 e] w fun r w'=>∃ u,r=.returned u/\aQ w' u (valuesS s e)/\Below w.heap.size w w':=by
 obtain⟨i0,cX,cD,bX,cF⟩:=info_parts Tryz.infoInt;have cB:=aa (And.intro cX (And.intro cD (And.intro bX cF)));clear cX cD bX cF;have HS:=aa cA;obtain⟨⟨pc,cc,rfl⟩,⟨ps,cs,rfl⟩,⟨pt,ct,rfl⟩,⟨pe,ce,rfl⟩⟩:=bD cA;clear cA;obtain⟨b,o,_,ce',e0,rfl,pw,nw,cw,pv,cv,c1,c2,c3,li,eV,fU,-⟩:=gy hs HS.o.ex he;injection e0 with e01 e02 e03
 subst e01;have xd:nw<=6:=by have:=hs.rounds;omega
 clear e02 e03 li;have zC:=aa (fun W (hb:Below w.heap.size w W)=>AL (cH s e).c (fltS s e) pw nw cw (.slice pv (s.prob.rounds.toNat+1) cv) W xd (fun h=>by obtain⟨b1,o1,q1,q2⟩:=eV h;exact⟨b1,o1,q1,ak hb q2⟩) fU);obtain⟨ff,mo⟩:=hs.cas e he;obtain⟨k,hk⟩:∃ k:Nat,(cH s e).c=k:=⟨(cH s e).c.toNat,by omega⟩;rw[hk,Int.toNat_natCast]at mo;obtain⟨pc',cc',e1,_,_,ec⟩:=HS.o.cases.at;injection e1 with e11 e12 e13
 subst e11;clear e12 e13;obtain⟨bc,oc,rfl,⟨x0,cx0,dk⟩,⟨x1,cx1,dm⟩,⟨x2,cx2,dM⟩⟩:=ec k mo;have F2:s.prob.t.cases[k]=s.prob.t.cases.getD (cH s e).c.toNat default:=by rw[hk,Int.toNat_natCast];exact(az default mo).symm
 rw[F2]at dk dm dM;obtain⟨p0,q0,rfl,_⟩:=dk;have kS:=aa dm;have fN:=aa dM;obtain⟨p1,q1,rfl,_⟩:=dm;obtain⟨p2,q2,rfl,_⟩:=dM
 have jS:am (dL w (if fltS s e=0/\0<(s.prob.t.cases.getD (cH s e).c.toNat default).calm.length then .slice p2 (s.prob.t.cases.getD (cH s e).c.toNat default).calm.length q2 else .slice p1 (s.prob.t.cases.getD (cH s e).c.toNat default).out.length q1) (vecE s e)):=aa (by
  unfold vecE fm;split
  ·exact fN.o
  ·exact kS.o)
 have XV:am (∃ a n c,(if fltS s e=0/\0<(s.prob.t.cases.getD (cH s e).c.toNat default).calm.length then Value.slice p2 (s.prob.t.cases.getD (cH s e).c.toNat default).calm.length q2 else .slice p1 (s.prob.t.cases.getD (cH s e).c.toNat default).out.length q1)=.slice a n c):=aa (by
  split
  ·exact⟨_,_,_,rfl⟩
  ·exact⟨_,_,_,rfl⟩)
 have Jq:=aa (fun W=>I0 (.slice p0 (s.prob.t.cases.getD (cH s e).c.toNat default).inp.length q0) p1 (s.prob.t.cases.getD (cH s e).c.toNat default).out.length q1 p2 (s.prob.t.cases.getD (cH s e).c.toNat default).calm.length q2 (fltS s e) W ⟨_,_,_,rfl⟩);have Qu:am (∀ v:Nat,valB s e v=hasV (vecE s e) (List.replicate (nS s) (v:Int))):=aa fun v=>rfl
 have fE:=hs.n.2.2.1;have jf:=hs.n.2.1;have rc:=hs.outs.2.2;have US:=hs.outs.2.1;have Yl:am (iJ s e (oS s)=valuesS s e):=aa rfl;have nz:=aa (BU s e);have HVY:=aa (fun k (h:valB s e k=true)=>IW h);have HVN:=aa (fun k (h:valB s e k=false)=>Lr h);have pA:iJ s e 0=[]:=rfl;have DR:=aa pA;generalize (if fltS s e=0/\0<(s.prob.t.cases.getD (cH s e).c.toNat default).calm.length then Value.slice p2 (s.prob.t.cases.getD (cH s e).c.toNat default).calm.length q2 else .slice p1 (s.prob.t.cases.getD (cH s e).c.toNat default).out.length q1)=V at jS XV Jq;obtain⟨va,vn,vk,rfl⟩:=XV.o;rw[hk]at zC c1;obtain⟨n,hn⟩:∃ n,nS s=n:=⟨_,rfl⟩;obtain⟨oo,hoq⟩:∃ oo,oS s=oo:=⟨_,rfl⟩;obtain⟨m,hm⟩:∃ m,s.ex.length=m:=⟨_,rfl⟩;have vR:e<m:=by rw[<-hm];exact he
 rw[hn]at fE jf Qu;rw[hoq]at rc US Yl;rw[hm];obtain⟨vl,rf⟩:∃ vl,vecE s e=vl:=⟨_,rfl⟩;rw[rf]at jS Qu;have lH:=aa fE;have HOO:=aa rc;generalize valuesS s e=vs0 at Yl ⊢;generalize (s.prob.t.cases.getD (cH s e).c.toNat default).inp.length=l0 at cx0 Jq;generalize (s.prob.t.cases.getD (cH s e).c.toNat default).out.length=l1 at cx1 Jq;generalize (s.prob.t.cases.getD (cH s e).c.toNat default).calm.length=l2 at cx2 Jq;generalize fltS s e=fl at zC Jq;obtain⟨rn,hrn⟩:∃ rn,s.prob.rounds.toNat+1=rn:=⟨_,rfl⟩;rw[hrn]at zC c3;clear XV eV fU hn hoq hm rf hk ff F2 fE rc kS fN ec pA hrn
 go_enter Tryz.func40,Tryz.ntmps40
 have d1:∀ o',(w.alloc o').cell? ⟨b,o+e * 3,none⟩=_:=fun o'=>ak (by go_grown) c1
 have d2:∀ o',(w.alloc o').cell? ⟨b,o+e * 3+1,none⟩=_:=fun o'=>ak (by go_grown) c2
 have d3:∀ o',(w.alloc o').cell? ⟨b,o+e * 3+2,none⟩=_:=fun o'=>ak (by go_grown) c3
 go_wp2_with fail
 clear d1 d2 d3 c1 c2 c3;refine bC (fun W=>Below w.heap.size w W/\(∃ c,W.heap[w.heap.size]?=some (.cells c 35)/\c=bL s.prob (.slice (some ⟨bc,oc,none⟩) s.prob.t.cases.length cc) (.slice ps s.prob.a.states.length cs) s.n (.slice pt s.tab.length ct) (.slice (some ⟨b,o,none⟩) m ce))/\W.heap[w.heap.size+1]?=some (.cells #[.int .i64 k,.slice pw nw cw,.slice pv rn cv] 89)) ⟨by go_grown,⟨_,ar _ (ap _ _),rfl⟩,aZ _ _ _⟩ (fun W0 aX=>?_);obtain⟨aG,⟨_,hA,rfl⟩,hX⟩:=aX;have eQ:=aa aG;have HA:=aa hA;have HX:=aa hX;have yC:∀ z:ExtW W0,z.val.cell? ⟨w.heap.size,3,none⟩=some (.slice (some ⟨bc,oc,none⟩) s.prob.t.cases.length cc):=fun z=>(ab (af z.ext HA.o) 3).trans rfl
 have yX:∀ z:ExtW W0,∀ j,z.val.cell? ⟨w.heap.size+1,j,none⟩=_:=fun z=>ab (af z.ext HX.o)
 have y0:∀ z:ExtW W0,z.val.cell? ⟨bc,oc+k * 3,none⟩=_:=fun z=>ak (ae eQ.o z.ext) cx0
 have y1:∀ z:ExtW W0,z.val.cell? ⟨bc,oc+k * 3+1,none⟩=_:=fun z=>ak (ae eQ.o z.ext) cx1
 have y2:∀ z:ExtW W0,z.val.cell? ⟨bc,oc+k * 3+2,none⟩=_:=fun z=>ak (ae eQ.o z.ext) cx2
 have K1:am (∀ y:ExtW W0,Calls Tryz.prog 61 #[.agg #[.int .i64 (k:Int),.slice pw nw cw,.slice pv rn cv]] y.val fun r w''=>r=.returned (.int .i64 fl)/\∃ z:ExtW W0,w''=z.val):=aa (fun y=>Calls.ext_of (zC.o y.val (ae eQ.o y.ext)));have K2:am (∀ y:ExtW W0,Calls Tryz.prog 80 #[.agg #[.slice p0 l0 q0,.slice p1 l1 q1,.slice p2 l2 q2],.int .i64 fl] y.val fun r w''=>r=.returned (.slice va vn vk)/\∃ z:ExtW W0,w''=z.val):=aa (fun y=>Calls.ext_of (Jq.o y.val));clear aG hA hX cx0 cx1 cx2 zC Jq;refine aB (by kernel_rfl) (by kernel_rfl) ?_
 repeat (go_big_quiet_step (first|(go_at_call 61;with_reducible exact K1.o _)|(go_at_call 80;with_reducible exact K2.o _)))
 refine wpQuiet_nil ?_;rintro _ ⟨xq,rfl⟩;have bP:=aa (ae eQ.o xq.ext);have QT:=aa (af xq.ext HA.o);clear yC yX y0 y1 y2;generalize xq.val=W1 at bP QT ⊢;have hsw1:=bP.o.size
 go_wp2_with fail
 go_loopw [7,8] (fun q i wr=>∃ k:Nat,k<=oo/\i=.int .i64 k/\Below W1.heap.size W1 wr/\aJ wr W1.heap.size 3 1 q (iJ s e k).length ((iJ s e k).map (Value.int .i64))) (fun _ i _=>oo - (intOf i).toNat)
 ·exact⟨0,by omega,rfl,Below.refl _ _,by rw[DR.o];exact aJ.nil _ _ _ _⟩
 ·
  obtain⟨v,hv,rfl,aA,bd⟩:=hrel;obtain⟨al,cl2,rfl⟩:=bd.slice;have bO:=aa bd;have aV:=aa aA;have uu:=af aA QT.o;have tO:wr.cell? ⟨w.heap.size,2,none⟩=some (.int .i64 (oo:Int)):=(ab uu 2).trans (by rw[<-HOO.o];rfl);have tN:wr.cell? ⟨w.heap.size,7,none⟩=some (.int .i64 (n:Int)):=(ab uu 7).trans (by rw[<-lH.o];rfl);have J4:=nz.o v;clear bd aA uu;by_cases aC:v<oo
  ·have oD:(v:Int)<(oo:Int):=by omega
   have zf:=aa (P5 n (by omega) (v:Int) ⟨by omega,by omega⟩ wr)
   go_wp2_with fail
   clear tO tN;refine zf.o.mono ?_;rintro r w2 ⟨u,rfl,hu,aT⟩;have HU:=aa hu;have cf:=aa (ae aV.o aT);have NX:=aa aT;obtain⟨au,cu,rfl,_⟩:=hu.at;have Yj:=aa (Fx _ _ vl _ w2 (jS.o.up up_ints (ae bP.o cf.o)) HU.o);rw[<-Qu.o]at Yj;rw[List.length_replicate]at Yj ⊢;clear hu aT zf
   go_wp2_with fail
   refine Yj.o.mono ?_;rintro r w3 ⟨rfl,bG⟩;have dE:=aa (ae cf.o bG);have HOWN2:=aa (bO.o.up (ae NX.o bG));clear bG bO;have bO:=HOWN2;obtain⟨wr4,kV⟩:∃ x,x=wr:=⟨_,rfl⟩;subst kV;obtain⟨wr,kV⟩:∃ x,x=w3:=⟨_,rfl⟩;subst kV;clear aV;have aV:=dE;obtain⟨q,hq⟩:∃ q,(iJ s e v).length=q:=⟨_,rfl⟩;rw[hq]at bO J4 ⊢;have HQ:=aa hq;clear hq;cases hb:valB s e v with
   | true=>
    have dr:=aa (HVY.o v hb);have pk:am ((iJ s e (v+1)).length=q+1):=aa (by rw[dr.o,List.length_append,HQ.o];rfl);clear hb;have cY:=aa (bO.o.up ((Below.refl _ wr).alloc (Nat.le_refl _) (.cells #[.int .i64 (v:Int)] 3)));have bF:=aa (dQ wr [.int .i64 (v:Int)] 3);have kH:am (q+1<=maxLen):=aa (by unfold maxLen;omega);have p8:am ((q+1) * 8<=140737488355328):=aa (by omega);have gu:am (W1.heap.size<=(wr.alloc (.cells #[.int .i64 (v:Int)] 3)).heap.size):=aa (by have:=aV.o.size;simp;omega)
    go_wp2_with (at_builtin;(refine bg _ rfl (.tmp 40) (.tmp 42) 38 rfl W1.heap.size 3 i0 _ 1 8 Tryz.underlying38 cB.o.1 cB.o.2.1 cB.o.2.2.1 cB.o.2.2.2 rfl (by decide) _ q _ rfl cY.o ⟨wr.heap.size,0,none⟩ 1 1 [.int .i64 (v:Int)] rfl rfl bF.o (by simp[Value.oneCell']) kH.o p8.o gu.o ?_;intro v6 w6 fh eF _))
    go_roundw
    ·
     refine⟨v+1,by omega,by go_num,eG aV.o (Nat.le_refl _) cY.o eF,?_⟩;rw[pk.o,dr.o,List.map_append];exact fh
    ·simp[intOf];omega
   | false=>
    have dr:=aa (HVN.o v hb);clear hb
    go_wp2_with fail
    go_roundw
    ·
     refine⟨v+1,by omega,by go_num,aV.o,?_⟩;rw[dr.o,HQ.o];exact bO.o
    ·simp[intOf];omega
  ·obtain rfl:v=oo:=by omega
   clear tN
   have HI:am (aQ wr (.slice al (iJ s e v).length cl2) vs0):=aa (by
    rw[<-Yl.o];refine gp (l:=iJ s e v) bO.o (fun y hy=>?_) (by omega);obtain⟨j,hj,rfl⟩:=List.mem_map.1 hy;have:=List.mem_range.1 (List.mem_filter.1 hj).1
    exact⟨by omega,by omega⟩)
   go_wp2_with fail
   go_ret
   exact⟨_,rfl,HI.o,ae bP.o aV.o⟩
theorem Ni(t:Tk) (vc:Value) (w:World) (hv:bM w vc t.cases) :
  Calls Tryz.prog 79 #[.agg #[.int .i64 t.n,.int .i64 t.ins,.int .i64 t.outs,vc]] w fun e w'=>e=.returned (.bool (agreeB t))/\Below w.heap.size w w':=by
 obtain⟨pc,cc,rfl,l1,m1,e1⟩:=hv.at;clear hv;have E:=aa e1;clear e1
 have fk:am (∀ k j,k<t.cases.length->j<(t.cases.getD k default).out.length->constB ((t.cases.getD k default).out.getD j [])=false->agreeB t=false):=aa fun k j hk hj h=>by
  cases ha:agreeB t with
  | false=>rfl
  | true=>rw[(nf t).1 ha k hk j hj]at h;cases h
 have ju:am ((∀ k,k<t.cases.length->∀ j,j<(t.cases.getD k default).out.length->constB ((t.cases.getD k default).out.getD j [])=true)->agreeB t=true):=aa fun h=>(nf t).2 h
 generalize agreeB t=ag at fk ju
 go_enter Tryz.func79,Tryz.ntmps79
 go_wp2_with fail
 refine bC (fun W=>Below w.heap.size w W/\W.heap[w.heap.size]?=some (.cells #[.int .i64 t.n,.int .i64 t.ins,.int .i64 t.outs,.slice pc t.cases.length cc] 24)) ⟨by go_grown,ap _ _⟩ (fun W0 aX=>?_);have eQ:=aa aX.1;have j8:=aa aX.2;clear aX
 go_loopw [3] (fun i wr=>∃ k:Nat,k<=t.cases.length/\i=.int .i64 k/\Below W0.heap.size W0 wr/\∀ q,q<k->∀ j,j<(t.cases.getD q default).out.length->constB ((t.cases.getD q default).out.getD j [])=true) (fun i _=>t.cases.length - (intOf i).toNat)
 ·exact⟨0,by omega,rfl,Below.refl _ _,fun q hq=>by omega⟩
 ·
  obtain⟨k,hk,rfl,aA,aW⟩:=hrel;have H:=aa aW;clear aW;have dF:=ae eQ.o aA;have dz:=aa dF;have HBR0:=aa aA;have tA:=ab (af aA j8.o);by_cases aC:k<t.cases.length
  ·obtain⟨b1,o1,rfl,⟨x0,cx0,dk⟩,⟨x1,cx1,dm⟩,⟨x2,cx2,dM⟩⟩:=E.o k aC;have HG:=aa (az default aC);obtain⟨p1,q1,rfl,xg,Tp,ex⟩:=dm.at;have EX:=aa ex;have D1:=aa cx1;have nr:=aa (fun j=>fk.o k j aC);rw[HG.o]at nr;clear cx0 cx1 cx2 dk dm dM ex;generalize t.cases[k]=c at D1 EX HG nr xg Tp
   go_wp2_with fail
   clear tA;obtain⟨wrA,lg⟩:∃ x,x=wr:=⟨_,rfl⟩;subst lg
   go_loopw [4] (fun i wr=>∃ j:Nat,j<=c.out.length/\i=.int .i64 j/\Below W0.heap.size W0 wr/\∀ q,q<j->constB (c.out.getD q [])=true) (fun i _=>c.out.length - (intOf i).toNat)
   ·exact⟨0,by omega,rfl,HBR0.o,fun q hq=>by omega⟩
   ·
    obtain⟨j,hj,rfl,nm,aW⟩:=hrel;have H2:=aa aW;clear aW;have eU:=aa nm;have bP:=aa (ae eQ.o nm);have tA:=ab (af nm j8.o);have d1:=ak bP.o D1.o;by_cases fL:j<c.out.length
    ·obtain⟨b3,o3,rfl,vx,cvx,F7⟩:=EX.o j fL;have dv:=ak bP.o cvx;have DA:=aa (F7.up up_int bP.o);have Bt:=aa (az [] fL);rw[Nat.mul_one]at dv;clear cvx F7 nm
     go_wp2_with fail
     refine(M8 vx _ wr DA.o).mono ?_;rintro e w4 ⟨rfl,bS⟩;have eE:=aa (ae eU.o bS);clear dv bS tA d1;cases hc:constB c.out[j] with
     | false=>
      have HR:=aa (nr.o j fL (by rw[Bt.o];exact hc));clear hc
      go_wp2_with fail
      go_ret
      exact⟨aR (by rw[HR.o]),ae eQ.o eE.o⟩
     | true=>
      have HN:=aa (aY (p:=fun q=>constB (c.out.getD q [])=true) H2.o (by rw[Bt.o];exact hc));clear hc
      go_wp2_with fail
      go_roundw
      ·exact⟨j+1,by omega,by go_num,eE.o,HN.o⟩
      ·simp[intOf];omega
    ·obtain rfl:j=c.out.length:=by omega
     have HN:am (∀ q,q<k+1->∀ j,j<(t.cases.getD q default).out.length->constB ((t.cases.getD q default).out.getD j [])=true):=aa (aY (p:=fun q=>∀ j,j<(t.cases.getD q default).out.length->constB ((t.cases.getD q default).out.getD j [])=true) H.o (by rw[HG.o];exact H2.o));clear nm
     go_wp2_with fail
     go_roundw
     ·exact⟨k+1,by omega,by go_num,eU.o,HN.o⟩
     ·simp[intOf];omega
  ·obtain rfl:k=t.cases.length:=by omega
   have HR:=aa (ju.o fun q hq=>H.o q hq)
   go_wp2_with fail
   go_ret
   exact⟨aR (by rw[HR.o]),dz.o⟩
theorem V5{s:Sys} {e v:Nat} (hv:v<oS s):(valuesS s e).contains (v:Int)=valB s e v:=by
 cases h:valB s e v with
 | true=>
  rw[List.contains_iff_mem];exact List.mem_map.2 ⟨v,List.mem_filter.2 ⟨List.mem_range.2 hv,h⟩,rfl⟩
 | false=>
  cases hc:(valuesS s e).contains (v:Int) with
  | false=>rfl
  | true=>
   rw[List.contains_iff_mem]at hc;obtain⟨y,hy,e1⟩:=List.mem_map.1 hc;have h2:=(List.mem_filter.1 hy).2;have:y=v:=by omega
   rw[this,h]at h2;cases h2
def TS(l:List Int):MP:=⟨fun x W=>aQ W x l,fun _ _ _ h hb=>h.up up_int hb⟩
theorem KZ(s:Sys) (hs:SysOk s) (l:List Nat) (hl:∀ e∈l,e<eS s) (vl vc vs vt ve:Value) (w:World) (cA:IsSys w s vc vs vt ve) (hv:aQ w vl (l.map fun e:Nat=>(e:Int))) :
  Calls Tryz.prog 86 #[.agg (bL s.prob vc vs s.n vt ve),vl] w fun r w'=>r=.returned (.int .i64 (comB s l))/\Below w.heap.size w w':=by
 have HS:=aa cA;obtain⟨⟨qc,kc,rfl⟩,⟨qs,ks,rfl⟩,⟨qt,kt,rfl⟩,⟨qe,ke,rfl⟩⟩:=bD cA;have HOF:=aa (fun e (he:e<eS s) W (hb:Below w.heap.size w W)=>V4 s hs e he _ _ _ _ W (HS.o.up hb));obtain⟨pl,cl,rfl,el⟩:=cV hv;obtain⟨_,_,_,_,cC,_⟩:=hv.at;rw[List.length_map]at el cC ⊢
 have EL:am (∀ i (hi:i<l.length),∃ b o,pl=some ⟨b,o,none⟩/\w.cell? ⟨b,o+i,none⟩=some (.int .i64 (l[i]:Nat))):=aa (fun i hi=>by
  obtain⟨b,o,e1,h1⟩:=el i hi;refine⟨b,o,e1,?_⟩;rw[h1]
  simp[hi])
 have HLM:am (∀ i (hi:i<l.length),l[i]<eS s):=aa (fun i hi=>hl _ (List.getElem_mem hi));have HHV:am (∀ e v,v<oS s->(valuesS s e).contains (v:Int)=valB s e v):=aa (fun e v h=>V5 h);have Dr:am (∀ v,v<oS s->(∀ j,j<v->l.all (fun e=>valB s e j)=false)->l.all (fun e=>valB s e v)=true->comB s l=v):=aa (fun v h1 h2 h3=>dB (oS s) v _ h1 h2 h3)
 have N2:am ((∀ j,j<oS s->l.all (fun e=>valB s e j)=false)->comB s l=-1):=aa (fun h=>by
  unfold comB;rcases bE (oS s) (fun v=>l.all fun e=>valB s e v) with ⟨e,_⟩|⟨k,hk,_,h2,_⟩
  ·exact e
  ·rw[h k hk]at h2;cases h2)
 have kU:am (∀ v i (hi:i<l.length),((l.take (i+1)).all fun e=>valB s e v)=(((l.take i).all fun e=>valB s e v)&&valB s l[i] v)):=aa (fun v i hi=>by rw[List.take_succ_eq_append_getElem hi,List.all_append];simp);have QP:am (∀ v,((l.take l.length).all fun e=>valB s e v)=l.all fun e=>valB s e v):=aa (fun v=>by rw[List.take_length]);have Ji:am (∀ v,((l.take 0).all fun e=>valB s e v)=true):=aa (fun v=>by simp);generalize hA:(fun (v i:Nat)=>(l.take i).all fun e=>valB s e v)=A at *;have kU:am (∀ v i (hi:i<l.length),A v (i+1)=(A v i&&valB s l[i] v)):=aa (fun v i hi=>by rw[<-hA];exact kU.o v i hi);have QP:am (∀ v,A v l.length=l.all fun e=>valB s e v):=aa (fun v=>by rw[<-hA];exact QP.o v);have Ji:am (∀ v,A v 0=true):=aa (fun v=>by rw[<-hA];exact Ji.o v);generalize comB s l=r at Dr N2 ⊢;have YH:s.prob.t.outs=(oS s:Int):=by have:=hs.outs;unfold oS at *;omega
 have US:oS s<=8:=hs.outs.2.1;obtain⟨no,fY⟩:∃ no,oS s=no:=⟨_,rfl⟩;rw[fY]at HHV Dr N2 YH US;obtain⟨n,hn⟩:∃ n,l.length=n:=⟨_,rfl⟩;have HN:=aa hn;rw[hn]at cC ⊢;have HOS:=aa YH;clear cA hv el hl hA fY hn YH
 go_enter Tryz.func86,Tryz.ntmps86
 go_wp2_with fail
 refine bC (fun W=>Below w.heap.size w W/\∃ c,W.heap[w.heap.size]?=some (.cells c 35)/\c=bL s.prob (.slice qc s.prob.t.cases.length kc) (.slice qs s.prob.a.states.length ks) s.n (.slice qt s.tab.length kt) (.slice qe s.ex.length ke)) ⟨by go_grown,_,ap _ _,rfl⟩ (fun W1 cM=>?_);obtain⟨aK,_,eW,rfl⟩:=cM;have bI:=aa aK;have du:=aa eW;clear aK eW
 go_loopw [5] (fun i wr=>∃ v:Nat,v<=no/\i=.int .i64 v/\Below W1.heap.size W1 wr/\∀ j,j<v->(l.all fun e=>valB s e j)=false) (fun i _=>no - (intOf i).toNat)
 ·exact⟨0,by omega,rfl,Below.refl _ _,fun j hj=>by omega⟩
 ·
  obtain⟨v,hv,rfl,aA,aW⟩:=hrel;have H:=aa aW;have aV:=aa aA;have tA:=ab (af aA du.o);clear aW;by_cases aC:v<no
  ·have hd:decide ((v:Int)<s.prob.t.outs)=true:=decide_eq_true (by have:=HOS.o;omega);have HAV:am (A v 0=true):=aa (Ji.o v);clear aA
   go_wp2_with fail
   clear tA hd;obtain⟨wrA,lg⟩:∃ x,x=wr:=⟨_,rfl⟩;subst lg
   go_loopw [6,7] (fun a i wr=>∃ k:Nat,k<=n/\i=.int .i64 k/\a=.bool (A v k)/\Below W1.heap.size W1 wr) (fun _ i _=>n - (intOf i).toNat)
   ·exact⟨0,by omega,rfl,by rw[HAV.o],aV.o⟩
   ·
    obtain⟨k,hk,rfl,rfl,JH⟩:=hrel;have oW:=aa JH;by_cases vV:k<n
    ·have mq:k<l.length:=by rw[HN.o];exact vV
     obtain⟨b1,o1,rfl,c1⟩:=EL.o k mq;have F5:=aa (kU.o v k mq);have jg:=HLM.o k mq;generalize l[k]'mq=e at c1 F5 jg;have C1:=aa (ak (ae bI.o JH) c1);have Gg:=aa (af JH du.o);have oy:=aa (HHV.o e v aC);cases DW:A v k with
     | false=>
      rw[DW]at F5;clear JH c1 DW jg
      go_wp2_with fail
      refine aB (by kernel_rfl) (by kernel_rfl) ?_
      repeat (go_big_quiet_step (fail))
      refine wpQuiet_nil ?_;rintro _ ⟨xq,rfl⟩
      go_wp2_with fail
      go_roundw
      ·exact⟨k+1,by omega,by go_num,by rw[F5.o];rfl,ae oW.o xq.ext⟩
      ·simp[intOf];omega
     | true=>
      rw[DW]at F5;have Rl:=aa jg;generalize valB s e v=bv at F5 oy;generalize s.prob.t.cases.length=nc,s.prob.a.states.length=ns,s.tab.length=nt,s.ex.length=ne at Gg HOF;clear JH c1 DW jg
      go_wp2_with fail
      have hS:List.Nodup [22,23,24,25,26,27,28,29,30,31,32]:=by decide
      refine gk 11 [22,23,24,25,26,27,28,29,30,31,32] [MP.eq (.bool true),MP.eq (.bool true),MP.eq (.agg #[.int .i64 s.prob.t.n,.int .i64 s.prob.t.ins,.int .i64 s.prob.t.outs,.slice qc nc kc,.int .i64 s.prob.a.n,.slice qs ns ks,.int .i64 s.prob.rounds,.int .i64 s.n,.slice qt nt kt,.slice qe ne ke]),MP.eq (.slice (some ⟨b1,o1,none⟩) n cl),MP.eq (.int .i64 k),MP.eq (.pointer (some ⟨b1,o1+k,none⟩)),MP.eq (.int .i64 (e:Nat)),TS (valuesS s e),MP.eq (.int .i64 v),MP.eq (.bool bv),MP.eq (.bool bv)] (by kernel_rfl) (by simp) hS rfl (by kernel_rfl) (by kernel_rfl) (by kernel_rfl) ?step ?tail
      case step=>
       intro xq Wq iq oq sq F hi ho hs hB aq hF;rcases (show iq=0\/iq=1\/iq=2\/iq=3\/iq=4\/iq=5\/iq=6\/iq=7\/iq=8\/iq=9\/iq=10 by omega) with rfl|rfl|rfl|rfl|rfl|rfl|rfl|rfl|rfl|rfl|rfl
       all_goals (obtain rfl:=dy ho.symm;obtain rfl:=dy hs.symm;clear hi ho hs)
       ·obtain⟨g6,h6⟩:=cJ hF 6 (.bool true) (by decide) rfl;clear hF aq
        go_wp2_with fail
        exact bh.mk _ (Below.refl _ _) rfl rfl
       ·obtain⟨e0,f0⟩:=aS hF 0 22 _ hS rfl (by kernel_rfl) (aq ⟨0,.data⟩ (by simp) rfl);clear hF aq
        go_wp2_with fail
        exact bh.mk _ (Below.refl _ _) rfl rfl
       ·obtain⟨g2,h2⟩:=cJ hF 2 (.pointer (some ⟨w.heap.size,0,none⟩)) (by decide) rfl;have m1:=fB hF 1 23 (.bool true) hS rfl (by kernel_rfl) (aq ⟨1,.guard⟩ (by simp) rfl);have tb:=ab (af hB Gg.o);clear hF aq
        go_wp2_with fail
        exact bh.mk _ (Below.refl _ _) rfl rfl
       ·obtain⟨g1,h1⟩:=cJ hF 1 (.slice (some ⟨b1,o1,none⟩) n cl) (by decide) rfl;have m1:=fB hF 1 23 (.bool true) hS rfl (by kernel_rfl) (aq ⟨1,.guard⟩ (by simp) rfl);clear hF aq
        go_wp2_with fail
        exact bh.mk _ (Below.refl _ _) rfl rfl
       ·obtain⟨g7,h7⟩:=cJ hF 7 (.int .i64 k) (by decide) rfl;have m1:=fB hF 1 23 (.bool true) hS rfl (by kernel_rfl) (aq ⟨1,.guard⟩ (by simp) rfl);clear hF aq
        go_wp2_with fail
        exact bh.mk _ (Below.refl _ _) rfl rfl
       ·obtain⟨e3,f3⟩:=aS hF 3 25 _ hS rfl (by kernel_rfl) (aq ⟨3,.data⟩ (by simp) rfl);obtain⟨e4,f4⟩:=aS hF 4 26 _ hS rfl (by kernel_rfl) (aq ⟨4,.data⟩ (by simp) rfl);have m1:=fB hF 1 23 (.bool true) hS rfl (by kernel_rfl) (aq ⟨1,.guard⟩ (by simp) rfl);clear hF aq
        go_wp2_with fail
        exact bh.mk _ (Below.refl _ _) rfl rfl
       ·obtain⟨e5,f5⟩:=aS hF 5 27 _ hS rfl (by kernel_rfl) (aq ⟨5,.data⟩ (by simp) rfl);have m1:=fB hF 1 23 (.bool true) hS rfl (by kernel_rfl) (aq ⟨1,.guard⟩ (by simp) rfl);have tb:=ak hB C1.o;clear hF aq
        go_wp2_with fail
        exact bh.mk _ (Below.refl _ _) rfl rfl
       ·obtain⟨e2,f2⟩:=aS hF 2 24 _ hS rfl (by kernel_rfl) (aq ⟨2,.data⟩ (by simp) rfl);obtain⟨e6,f6⟩:=aS hF 6 28 _ hS rfl (by kernel_rfl) (aq ⟨6,.data⟩ (by simp) rfl);have m1:=fB hF 1 23 (.bool true) hS rfl (by kernel_rfl) (aq ⟨1,.guard⟩ (by simp) rfl);clear hF aq
        go_wp2_with fail
        refine(HOF.o e Rl.o Wq (ae bI.o (ae oW.o hB))).mono ?_;rintro r w9 ⟨u9,rfl,F',dU⟩;have Ri:=aa F';clear F'
        go_wp2_with fail
        exact bh.mk _ dU Ri.o rfl
       ·obtain⟨g5,h5⟩:=cJ hF 5 (.int .i64 v) (by decide) rfl;have m1:=fB hF 1 23 (.bool true) hS rfl (by kernel_rfl) (aq ⟨1,.guard⟩ (by simp) rfl);clear hF aq
        go_wp2_with fail
        exact bh.mk _ (Below.refl _ _) rfl rfl
       ·have d7:=aq ⟨7,.data⟩ (by simp) rfl;obtain⟨e8,f8⟩:=aS hF 8 30 _ hS rfl (by kernel_rfl) (aq ⟨8,.data⟩ (by simp) rfl);have m1:=fB hF 1 23 (.bool true) hS rfl (by kernel_rfl) (aq ⟨1,.guard⟩ (by simp) rfl);have d7':aQ Wq (xq 7) (valuesS s e):=d7;obtain⟨e7,f7⟩:=aS hF 7 29 _ hS rfl (by kernel_rfl) rfl;clear hF aq
        go_wp2_with fail
        refine(Sp _ (valuesS s e) v Wq d7').mono ?_;rintro r w9 ⟨rfl,rfl⟩;rw[oy.o]
        go_wp2_with fail
        exact bh.mk _ (Below.refl _ _) rfl rfl
       ·obtain⟨e1,f1⟩:=aS hF 1 23 _ hS rfl (by kernel_rfl) (aq ⟨1,.data⟩ (by simp) rfl);obtain⟨e9,f9⟩:=aS hF 9 31 _ hS rfl (by kernel_rfl) (aq ⟨9,.data⟩ (by simp) rfl);clear hF aq
        go_wp2_with fail
        exact bh.mk _ (Below.refl _ _) rfl rfl
      case tail=>
       clear hS;intro xq W3 F hB aU hF;have e11:xq 10=.bool bv:=aU 10 (by omega);clear aU;simp only[bA,cW,List.setIfInBounds_toArray,List.set_cons_succ,List.set_cons_zero,Nat.reduceAdd]at hF;rw[e11]at hF;generalize xq 0=s0,xq 1=s1,xq 2=s2,xq 3=s3,xq 4=s4,xq 5=s5,xq 6=s6,xq 7=s7,xq 8=s8,xq 9=s9 at hF;subst hF;have bP:=aa (ae oW.o hB);clear hB e11;simp only[List.drop_succ_cons,List.drop_zero]
       go_wp2_with fail
       go_roundw
       ·exact⟨k+1,by omega,by go_num,by rw[F5.o];rfl,bP.o⟩
       ·simp[intOf];omega
    ·obtain rfl:k=n:=by omega
     have Dp:=aa (QP.o v);rw[HN.o]at Dp;cases DW:A v k with
     | true=>
      have HR:=aa (Dr.o v aC H.o (by rw[<-Dp.o];exact DW));clear DW JH
      go_wp2_with fail
      go_ret
      exact⟨aE (by rw[HR.o]),ae bI.o oW.o⟩
     | false=>
      have ss:=aa (aY (p:=fun j=>(l.all fun e=>valB s e j)=false) H.o (by rw[<-Dp.o];exact DW));clear DW JH
      go_wp2_with fail
      go_roundw
      ·exact⟨v+1,by omega,by go_num,oW.o,ss.o⟩
      ·simp[intOf];omega
  ·obtain rfl:v=no:=by omega
   have hd:decide ((v:Int)<s.prob.t.outs)=false:=decide_eq_false (by have:=HOS.o;omega);have HR:=aa (N2.o H.o);clear aA
   go_wp2_with fail
   go_ret
   exact⟨aE (by rw[HR.o]),ae bI.o aV.o⟩
def Sq(q:Nat->Nat->Bool) (i k:Nat) (x:Int):Prop:=(x=-1/\∀ j,j<k->q j i=false)\/∃ m,m<i/\firstIx i (fun k=>q k i)=m/\x=(br q i).1.getD m 0/\0<=x
theorem V6{q:Nat->Nat->Bool} {i:Nat} {x:Int} (h:Sq q i i x):(x<0->br q (i+1)=((br q i).1++[(br q i).2],(br q i).2+1))/\(0<=x->br q (i+1)=((br q i).1++[x],(br q i).2)):=by
 rcases h with ⟨rfl,h⟩|⟨m,hm,h1,h2,h3⟩
 ·refine⟨fun _=>?_,fun h=>by omega⟩;rw[br];rw[dK _ _ h,if_pos (by omega)]
 ·refine⟨fun h=>by omega,fun _=>?_⟩;rw[br];rw[h1,if_neg (by omega),Int.toNat_natCast,h2]
theorem AN(q:Nat->Nat->Bool):∀ i,0<=(br q i).2/\(br q i).2<=i/\∀ x∈(br q i).1,0<=x/\x<=i
 | 0=>⟨by simp[br],by simp[br],fun x hx=>by simp[br]at hx⟩
 | i+1=>by
  obtain⟨h1,h2,h3⟩:=AN q i;have hl:=kn q i;rw[br];split
  ·refine⟨by dsimp only;omega,by dsimp only;omega,fun x hx=>?_⟩;rcases List.mem_append.1 hx with hx|hx
   ·have:=h3 x hx;omega
   ·rw[List.mem_singleton.1 hx];omega
  ·rename_i h4;refine⟨h1,by dsimp only;omega,fun x hx=>?_⟩;rcases List.mem_append.1 hx with hx|hx
   ·have:=h3 x hx;omega
   ·rw[List.mem_singleton.1 hx];rcases bE i (fun k=>q k i) with ⟨e,_⟩|⟨k,hk,e,_⟩
    ·omega
    ·rw[e,Int.toNat_natCast,az 0 (by omega)];have:=h3 _ (List.getElem_mem (l:=(br q i).1) (n:=k) (by omega));omega
theorem AO(v:Value) (l:List Int) (hl:l.length<=4096) (w:World) (hv:aQ w v l) :
  Calls Tryz.prog 140 #[v] w fun r w'=>∃ u,r=.returned u/\aQ w' u (ly l)/\Below w.heap.size w w':=by
 obtain⟨pl,cl,rfl,el⟩:=cV hv;have EL:=aa el;obtain⟨i0,cX,cD,bX,cF⟩:=info_parts Tryz.infoInt;have cB:=aa (And.intro cX (And.intro cD (And.intro bX cF)));obtain⟨q,hq⟩:∃ q:Nat->Nat->Bool,q=fun k i=>decide (l.getD k 0=l.getD i 0):=⟨_,rfl⟩
 have HQ:am (∀ k i,q k i=decide (l.getD k 0=l.getD i 0)):=aa fun k i=>by rw[hq]
 have it:am (ly l=(br q l.length).1):=aa (by rw[hq];rfl);have mm:=aa (AN q);have pk:=aa (kn q);have jv:=aa (fun i x=>V6 (q:=q) (i:=i) (x:=x));obtain⟨n,hn⟩:∃ n,l.length=n:=⟨_,rfl⟩;rw[hn]at EL hl it ⊢;clear hv el hq hn cX cD bX cF
 go_enter Tryz.func140,Tryz.ntmps140
 go_wp2_with fail
 go_loopw [3,4,5] (fun o nx i wr=>∃ k:Nat,k<=n/\i=.int .i64 k/\nx=.int .i64 (br q k).2/\Below w.heap.size w wr/\aJ wr w.heap.size 3 1 o k ((br q k).1.map (Value.int .i64))) (fun _ _ i _=>n - (intOf i).toNat)
 ·exact⟨0,by omega,rfl,rfl,Below.refl _ _,aJ.nil _ _ _ _⟩
 ·
  obtain⟨i,hi,rfl,rfl,aA,bd⟩:=hrel;obtain⟨al,cl2,rfl⟩:=bd.slice;have bO:=aa bd;have aV:=aa aA;have AY:=aA.size;clear bd aA;obtain⟨wrA,lg⟩:∃ x,x=wr:=⟨_,rfl⟩;subst lg;by_cases aC:i<n
  ·obtain⟨bi,oi,rfl,ci⟩:=EL.o i aC;have di:=ak aV.o ci;have L3:=mm.o i
   go_wp2_with fail
   go_loopw [6,7] (fun x j wr=>∃ k:Nat,k<=i/\j=.int .i64 k/\Below wrA.heap.size wrA wr/\∃ y:Int,x=.int .i64 y/\Sq q i k y) (fun _ j _=>i - (intOf j).toNat)
   ·exact⟨0,by omega,rfl,Below.refl _ _,-1,rfl,.inl ⟨rfl,fun j hj=>by omega⟩⟩
   ·
    obtain⟨k,hk,rfl,nm,y,rfl,NY⟩:=hrel;have SF:=aa NY;have eU:=aa nm;by_cases pF:k<i/\y<0
    ·obtain⟨DV,hy⟩:=pF;have qJ:decide ((k:Int)<(i:Int))=true:=decide_eq_true (by omega);have SG:decide (k<i)=true:=decide_eq_true DV;have fw:decide (y<0)=true:=decide_eq_true hy;obtain⟨bk,ok,e1,ck⟩:=EL.o k (by omega);injection e1 with e1
     injection e1 with e11 e12
     subst e11 e12;have y1:∀ z:ExtW wr,z.val.cell? ⟨bi,oi+k,none⟩=_:=fun z=>ak (ae aV.o (ae eU.o z.ext)) ck
     have y2:∀ z:ExtW wr,z.val.cell? ⟨bi,oi+i,none⟩=_:=fun z=>ak (ae aV.o (ae eU.o z.ext)) ci
     have vV:k<n:=by omega
     have fk:am (∀ j,j<k->q j i=false):=aa (by
      rcases SF.o with ⟨_,h⟩|⟨m,_,_,_,h⟩
      ·exact h
      ·omega)
     cases Bc:q k i with
     | true=>
      have cg:l.getD k 0=l.getD i 0:=of_decide_eq_true ((HQ.o k i).symm.trans Bc);have HF:am (firstIx i (fun k=>q k i)=k):=aa (dB _ _ _ DV fk.o Bc);have cC:=pk.o i;have qW:((br q i).1.map (Value.int .i64))[k]?=some (.int .i64 ((br q i).1.getD k 0)):=by rw[List.getElem?_map,List.getElem?_eq_getElem (by omega),az 0 (by omega)];rfl
      obtain⟨g,c',ev,cv⟩:=bO.o.cell k _ qW;injection ev with ev1 ev2 ev3
      subst ev1;clear ev2 ev3;have dv:=ak eU.o cv;have HY:am (0<=(br q i).1.getD k 0):=aa (by rw[az 0 (by omega)];exact(L3.2.2 _ (List.getElem_mem _)).1);rw[cg]at y1;clear NY nm cg Bc qW cv ck cC;generalize l.getD i 0=x at y1 y2;have lJ:(x == x)=true:=by simp
      go_wp2_with fail
      refine aB (by kernel_rfl) (by kernel_rfl) ?_
      repeat (go_big_quiet_step (fail))
      refine wpQuiet_nil ?_;rintro _ ⟨xq,rfl⟩;have dv2:=ak xq.ext dv;clear y1 y2
      go_wp2_with fail
      go_roundw
      ·exact⟨k+1,by omega,by go_num,ae eU.o xq.ext,_,rfl,.inr ⟨k,DV,HF.o,rfl,HY.o⟩⟩
      ·simp[intOf];omega
     | false=>
      have cg:¬ l.getD k 0=l.getD i 0:=of_decide_eq_false ((HQ.o k i).symm.trans Bc)
      have Ro:am (y=-1):=aa (by
       rcases SF.o with ⟨h,_⟩|⟨m,_,_,_,h⟩
       ·exact h
       ·omega)
      have TJ:am (∀ j,j<k+1->q j i=false):=aa (aY fk.o Bc);have lJ:(l.getD k 0 == l.getD i 0)=false:=beq_eq_false_iff_ne.2 cg;clear NY nm cg Bc ck;generalize l.getD i 0=x at y1 y2 lJ;generalize l.getD k 0=x2 at y1 lJ
      go_wp2_with fail
      refine aB (by kernel_rfl) (by kernel_rfl) ?_
      repeat (go_big_quiet_step (fail))
      refine wpQuiet_nil ?_;rintro _ ⟨xq,rfl⟩;clear y1 y2
      go_wp2_with fail
      go_roundw
      ·exact⟨k+1,by omega,by go_num,ae eU.o xq.ext,_,rfl,.inl ⟨Ro.o,TJ.o⟩⟩
      ·simp[intOf];omega
    ·have HE:am (Sq q i i y):=aa (by
      rcases SF.o with ⟨h,h2⟩|h
      ·have:k=i:=by omega
       rw[this]at h2;exact .inl ⟨h,h2⟩
      ·exact .inr h)
     have bP:=aa (ae aV.o nm);have NI:=aa (bO.o.up nm);have kH:am (i+1<=maxLen):=aa (by unfold maxLen;omega);have fc:am ((i+1) * 8<=140737488355328):=aa (by omega);have Rl:=aa (jv.o i y HE.o);obtain⟨nx,mu⟩:∃ nx,(br q i).2=nx:=⟨_,rfl⟩;rw[mu]at L3 Rl;clear NY nm;by_cases hy:y<0
     ·have DV:¬ k<i:=fun h=>pF ⟨h,hy⟩
      have qJ:decide ((k:Int)<(i:Int))=false:=decide_eq_false (by omega);have SG:decide (k<i)=false:=decide_eq_false DV;have fw:decide (y<0)=true:=decide_eq_true hy;have dr:=aa (Rl.o.1 hy);clear pF DV;have cY:=aa (NI.o.up ((Below.refl _ wr).alloc (Nat.le_refl _) (.cells #[.int .i64 nx] 3)));have bF:=aa (dQ wr [.int .i64 nx] 3);have gu:am (w.heap.size<=(wr.alloc (.cells #[.int .i64 nx] 3)).heap.size):=aa (by have:=bP.o.size;simp;omega)
      go_wp2_with (at_builtin;(refine bg _ rfl (.tmp 41) (.tmp 43) 38 rfl w.heap.size 3 i0 _ 1 8 Tryz.underlying38 cB.o.1 cB.o.2.1 cB.o.2.2.1 cB.o.2.2.2 rfl (by decide) _ i _ rfl cY.o ⟨wr.heap.size,0,none⟩ 1 1 [.int .i64 nx] rfl rfl bF.o (by simp[Value.oneCell']) kH.o fc.o gu.o ?_;intro v6 w6 fh eF _))
      go_roundw
      ·
       refine⟨i+1,by omega,by go_num,rE (by rw[dr.o]),eG bP.o (Nat.le_refl _) cY.o eF,?_⟩;rw[dr.o,List.map_append];exact fh
      ·simp[intOf];omega
     ·have fw:decide (y<0)=false:=decide_eq_false hy;have dr:=aa (Rl.o.2 (by omega));by_cases DV:k<i
      ·have qJ:decide ((k:Int)<(i:Int))=true:=decide_eq_true (by omega);have SG:decide (k<i)=true:=decide_eq_true DV;clear pF;have cY:=aa (NI.o.up ((Below.refl _ wr).alloc (Nat.le_refl _) (.cells #[.int .i64 y] 3)));have bF:=aa (dQ wr [.int .i64 y] 3);have gu:am (w.heap.size<=(wr.alloc (.cells #[.int .i64 y] 3)).heap.size):=aa (by have:=bP.o.size;simp;omega)
       go_wp2_with (at_builtin;(refine bg _ rfl (.tmp 41) (.tmp 43) 38 rfl w.heap.size 3 i0 _ 1 8 Tryz.underlying38 cB.o.1 cB.o.2.1 cB.o.2.2.1 cB.o.2.2.2 rfl (by decide) _ i _ rfl cY.o ⟨wr.heap.size,0,none⟩ 1 1 [.int .i64 y] rfl rfl bF.o (by simp[Value.oneCell']) kH.o fc.o gu.o ?_;intro v6 w6 fh eF _))
       go_roundw
       ·
        refine⟨i+1,by omega,by go_num,rE (by rw[dr.o]),eG bP.o (Nat.le_refl _) cY.o eF,?_⟩;rw[dr.o,List.map_append];exact fh
       ·simp[intOf];omega
      ·have qJ:decide ((k:Int)<(i:Int))=false:=decide_eq_false (by omega);have SG:decide (k<i)=false:=decide_eq_false DV;clear pF;have cY:=aa (NI.o.up ((Below.refl _ wr).alloc (Nat.le_refl _) (.cells #[.int .i64 y] 3)));have bF:=aa (dQ wr [.int .i64 y] 3);have gu:am (w.heap.size<=(wr.alloc (.cells #[.int .i64 y] 3)).heap.size):=aa (by have:=bP.o.size;simp;omega)
       go_wp2_with (at_builtin;(refine bg _ rfl (.tmp 41) (.tmp 43) 38 rfl w.heap.size 3 i0 _ 1 8 Tryz.underlying38 cB.o.1 cB.o.2.1 cB.o.2.2.1 cB.o.2.2.2 rfl (by decide) _ i _ rfl cY.o ⟨wr.heap.size,0,none⟩ 1 1 [.int .i64 y] rfl rfl bF.o (by simp[Value.oneCell']) kH.o fc.o gu.o ?_;intro v6 w6 fh eF _))
       go_roundw
       ·
        refine⟨i+1,by omega,by go_num,rE (by rw[dr.o]),eG bP.o (Nat.le_refl _) cY.o eF,?_⟩;rw[dr.o,List.map_append];exact fh
       ·simp[intOf];omega
  ·obtain rfl:i=n:=by omega
   go_wp2_with fail
   go_ret
   refine⟨_,rfl,?_,aV.o⟩;rw[it.o];have h1:=pk.o i;exact gp (l:=(br q i).1) (base:=w.heap.size) (by rw[h1];exact bO.o) (fun x hx=>by have:=(mm.o i).2.2 x hx;exact⟨by omega,by omega⟩) (by omega)
def BW(R:Nat->Bool) (e j:Nat) (x:Int):Prop:=(x=e/\∀ f,j<=f->f<e->R f=false)\/∃ m,j<=m/\m<e/\x=m/\R m=true/\∀ f,j<=f->f<m->R f=false
theorem V7{R:Nat->Bool} {e j:Nat} (hj:j<e) (h:R j=true):BW R e j j:=.inr ⟨j,Nat.le_refl _,hj,rfl,h,fun f h1 h2=>by omega⟩
theorem WI{R:Nat->Bool} {e j:Nat} {x:Int} (h:R j=false) (hk:BW R e (j+1) x):BW R e j x:=by
 rcases hk with ⟨h1,h2⟩|⟨m,h1,h2,h3,h4,h5⟩
 ·refine .inl ⟨h1,fun f g1 g2=>?_⟩;by_cases e1:f=j
  ·subst e1;exact h
  ·exact h2 f (by omega) g2
 ·refine .inr ⟨m,by omega,h2,h3,h4,fun f g1 g2=>?_⟩;by_cases e1:f=j
  ·subst e1;exact h
  ·exact h5 f (by omega) g2
theorem V8{R:Nat->Nat->Bool} {e:Nat} {x:Int} (h:BW (R e) e 0 x):x=rI R e:=by
 unfold rI;rcases h with ⟨h1,h2⟩|⟨m,_,h2,h3,h4,h5⟩
 ·rw[dK _ _ (fun f hf=>h2 f (by omega) hf),if_pos (by omega)];exact h1
 ·rw[dB _ _ _ h2 (fun f hf=>h5 f (by omega) hf) h4,if_neg (by omega)];exact h3
theorem P6{R:Nat->Nat->Bool} (e:Nat):0<=rI R e/\rI R e<=e:=by
 rcases wB R e with ⟨h,_⟩|⟨k,hk,h,_⟩
 ·rw[h];omega
 ·rw[h];omega
theorem Nj(s:Sys) (hs:SysOk s) (p:Nat) (hp:p<nS s) (vc vs vt ve:Value) (w:World) (cA:IsSys w s vc vs vt ve) :
  Calls Tryz.prog 91 #[.agg (bL s.prob vc vs s.n vt ve),.int .i64 p] w fun r w'=>∃ u,r=.returned u/\aQ w' u (classL s p)/\Below w.heap.size w w':=by
 have HS:=aa cA;obtain⟨⟨pc,cc,rfl⟩,⟨ps,cs,rfl⟩,⟨pt,ct,rfl⟩,⟨pe,ce,rfl⟩⟩:=bD cA;clear cA;have it:=aa (fun e f (he:e<eS s) (hf:f<eS s) W (hb:Below w.heap.size w W)=>M6 s hs p e f hp he hf _ _ _ _ W (HS.o.up hb));have lE:=hs.count;obtain⟨i0,cX,cD,bX,cF⟩:=info_parts Tryz.infoInt;have cB:=aa (And.intro cX (And.intro cD (And.intro bX cF)));obtain⟨R,hR⟩:∃ R:Nat->Nat->Bool,R=fun e f=>linkB s p e f:=⟨_,rfl⟩
 have HR:am (∀ e f,linkB s p e f=R e f):=aa fun e f=>by rw[hR]
 obtain⟨L,hL⟩:∃ L:Nat->List Int,L=fun k=>(List.range k).map (rI R):=⟨_,rfl⟩
 have jp:am (L 0=[]/\(∀ k,L (k+1)=L k++[rI R k])/\(∀ k,(L k).length=k)/\∀ k,k<=4096->∀ x∈L k,bR x):=aa (by
  subst hL;refine⟨rfl,fun k=>by simp[List.range_succ],fun k=>by simp,fun k hk x hx=>?_⟩;obtain⟨j,hj,rfl⟩:=List.mem_map.1 hx;have h1:=P6 (R:=R) j;have h2:=List.mem_range.1 hj
  exact⟨by omega,by omega⟩)
 have jR:am (ly (L (eS s))=classL s p):=aa (by
  subst hL;subst hR;rw[H7];unfold classL
  exact nO fun i hi k hk=>Vh (R:=fun e f=>linkB s p e f) (fun a b=>ry s p a b) (fun a b c h1 h2=>uG h1 h2) i k hk)
 obtain⟨m,hm⟩:∃ m,eS s=m:=⟨_,rfl⟩;have rY:s.ex.length=m:=hm;rw[hm]at it lE jR;rw[rY]at it ⊢;generalize classL s p=cl0 at jR ⊢;clear hR hL hm rY cX cD bX cF
 go_enter Tryz.func91,Tryz.ntmps91
 go_wp2_with fail
 refine bC (fun W=>Below w.heap.size w W/\∃ c,W.heap[w.heap.size]?=some (.cells c 35)/\c=bL s.prob (.slice pc s.prob.t.cases.length cc) (.slice ps s.prob.a.states.length cs) s.n (.slice pt s.tab.length ct) (.slice pe m ce)) ⟨by go_grown,_,ap _ _,rfl⟩ (fun W0 aX=>?_);obtain⟨aG,_,hA,rfl⟩:=aX;have eQ:=aa aG;have HA:=aa hA;clear aG hA
 go_loopw [5,6] (fun o i wr=>∃ k:Nat,k<=m/\i=.int .i64 k/\Below W0.heap.size W0 wr/\aJ wr W0.heap.size 3 1 o k ((L k).map (Value.int .i64))) (fun _ i _=>m - (intOf i).toNat)
 ·exact⟨0,by omega,rfl,Below.refl _ _,by rw[jp.o.1];exact aJ.nil _ _ _ _⟩
 ·
  obtain⟨e,he,rfl,aA,bd⟩:=hrel;obtain⟨al,cl2,rfl⟩:=bd.slice;have bO:=aa bd;have aV:=aa aA;have AY:=aA.size;have tS:=ab (af aA HA.o);clear bd aA;obtain⟨wrA,lg⟩:∃ x,x=wr:=⟨_,rfl⟩;subst lg;by_cases aC:e<m
  ·go_wp2_with fail
   clear tS
   go_loopw [7,8] (fun x j wr=>∃ k:Nat,k<=e/\j=.int .i64 ((k:Int) - 1)/\Below wrA.heap.size wrA wr/\∃ y:Int,x=.int .i64 y/\BW (R e) e k y) (fun _ j _=>((intOf j)+1).toNat)
   ·exact⟨e,Nat.le_refl _,rfl,Below.refl _ _,_,rfl,.inl ⟨rfl,fun f h1 h2=>by omega⟩⟩
   ·
    obtain⟨k,hk,rfl,nm,y,rfl,m3⟩:=hrel;have Fa:=aa m3;have eU:=aa nm;have bP:=aa (ae aV.o nm);have tS:=ab (af bP.o HA.o);clear m3 nm;by_cases ff:0<k
    ·obtain⟨j,rfl⟩:∃ j,k=j+1:=⟨k - 1,by omega⟩;have Qn:(((j+1:Nat):Int) - 1)=(j:Int):=by omega
     rw[Qn];have qJ:decide ((0:Int)<=(j:Int))=true:=decide_eq_true (by omega);have uk:=aa (it.o e j aC (by omega) wr (ae eQ.o bP.o));clear Qn ff
     go_wp2_with fail
     clear tS;refine uk.o.mono ?_;rintro r w2 ⟨rfl,aT⟩;rw[HR.o];have cf:=aa (ae eU.o aT);clear aT;cases hb:R e j with
     | true=>
      have HN:am (BW (R e) e j j):=aa (V7 (by omega) hb);clear hb
      go_wp2_with fail
      go_roundw
      ·exact⟨j,by omega,by go_num,cf.o,_,rfl,HN.o⟩
      ·simp[intOf]
     | false=>
      have HN:am (BW (R e) e j y):=aa (WI hb Fa.o);clear hb
      go_wp2_with fail
      go_roundw
      ·exact⟨j,by omega,by go_num,cf.o,_,rfl,HN.o⟩
      ·simp[intOf]
    ·obtain rfl:k=0:=by omega
     have HY:=aa (V8 Fa.o);have Qn:(((0:Nat):Int) - 1)=-1:=by omega
     rw[Qn];have cY:=aa ((bO.o.up eU.o).up ((Below.refl _ wr).alloc (Nat.le_refl _) (.cells #[.int .i64 y] 3)));have bF:=aa (dQ wr [.int .i64 y] 3);have kH:am (e+1<=maxLen):=aa (by unfold maxLen;omega);have fc:am ((e+1) * 8<=140737488355328):=aa (by omega);have gu:am (W0.heap.size<=(wr.alloc (.cells #[.int .i64 y] 3)).heap.size):=aa (by have:=bP.o.size;simp;omega);clear Qn tS
     go_wp2_with (at_builtin;(refine bg _ rfl (.tmp 29) (.tmp 31) 38 rfl W0.heap.size 3 i0 _ 1 8 Tryz.underlying38 cB.o.1 cB.o.2.1 cB.o.2.2.1 cB.o.2.2.2 rfl (by decide) _ e _ rfl cY.o ⟨wr.heap.size,0,none⟩ 1 1 [.int .i64 y] rfl rfl bF.o (by simp[Value.oneCell']) kH.o fc.o gu.o ?_;intro v6 w6 fh eF _))
     go_roundw
     ·
      refine⟨e+1,by omega,by go_num,eG bP.o (Nat.le_refl _) cY.o eF,?_⟩;rw[jp.o.2.1,<-HY.o,List.map_append];exact fh
     ·simp[intOf];omega
  ·obtain rfl:e=m:=by omega
   have J4:=jp.o.2.2.1 e;have HI:am (aQ wrA (.slice al e cl2) (L e)):=aa (gp (l:=L e) (base:=W0.heap.size) (by rw[J4];exact bO.o) (jp.o.2.2.2 e lE) (by omega));have L4:=aa (AO _ (L e) (by omega) wrA HI.o);clear J4
   go_wp2_with fail
   refine L4.o.mono ?_;rintro r w2 ⟨u,rfl,hu,aT⟩;obtain⟨au,cu,rfl,_⟩:=hu.at;have HU:=aa hu;have cf:=aa (ae eQ.o (ae aV.o aT));clear hu aT tS
   go_wp2_with fail
   go_ret
   exact⟨_,rfl,by rw[<-jR.o];exact HU.o,cf.o⟩
def jE(a b:List Int) (n:Nat) (O0:List Int) (i k:Nat) (O:List Int) (ch:Bool):Prop:=Glu a b n O/\((ch=true/\uF O<uF O0)\/(ch=false/\O=O0/\(∀ i',i'<i->∀ k',k'<i'->dO a b i' k'=true->O.getD i' 0=O.getD k' 0)/\∀ k',k'<k->dO a b i k'=true->O.getD i 0=O.getD k' 0))
theorem jE.row{a b:List Int} {n:Nat} {O0 O:List Int} {i:Nat} {ch:Bool} (h:jE a b n O0 i i O ch):jE a b n O0 (i+1) 0 O ch:=by
 refine⟨h.1,?_⟩;rcases h.2 with h2|⟨h2,h3,h4,h5⟩
 ·exact .inl h2
 ·refine .inr ⟨h2,h3,fun i' nC=>?_,fun k' rh=>by omega⟩;by_cases e:i'=i
  ·subst e;exact h5
  ·exact h4 i' (by omega)
theorem jE.same{a b:List Int} {n:Nat} {O0 O:List Int} {i k:Nat} {ch:Bool} (h:jE a b n O0 i k O ch) (hq:dO a b i k=true->O.getD i 0=O.getD k 0):jE a b n O0 i (k+1) O ch:=by
 refine⟨h.1,?_⟩;rcases h.2 with h2|⟨h2,h3,h4,h5⟩
 ·exact .inl h2
 ·exact .inr ⟨h2,h3,h4,aY h5 hq⟩
theorem jE.put{a b:List Int} {n:Nat} {O0 O:List Int} {i k:Nat} {ch:Bool} (h:jE a b n O0 i k O ch) (hi:i<n) (hk:k<i) (hq:dO a b i k=true) (bK:O.getD i 0≠O.getD k 0):jE a b n O0 i (k+1) (lM O i k) true:=by
 refine⟨h.1.step i k hi hk hq,.inl ⟨rfl,?_⟩⟩;have h1:=OD h.1 i k hi hk bK;rcases h.2 with ⟨_,h2⟩|⟨_,h3,_⟩
 ·omega
 ·rw[<-h3];exact h1
def Sr(W:World) (g:Nat):Nat:=match W.heap[g]? with|some (.cells cs _ _)=>(cs.toList.map fun v=>(intOf v).toNat).sum|_=>0
theorem Lt{W:World} {g:Nat} {O:List Int} {t:TypeId} {fz:Nat × Nat} (h:W.heap[g]?=some (.cells (bH O) t fz)):Sr W g=uF O:=by
 unfold Sr uF;rw[h];simp only[bH,List.toList_toArray,List.map_map];rfl
def WJ(c:Value) (x:Nat):Nat:=match c with|.bool true=>x+1|_=>0
theorem P7(va vb:Value) (a b:List Int) (w:World) (ha:aQ w va a) (hb:aQ w vb b) (hl:b.length=a.length) (hn:a.length<=256) :
  Calls Tryz.prog 92 #[va,vb] w fun r w'=>∃ u,r=.returned u/\aQ w' u (k9 a b)/\Below w.heap.size w w':=by
 obtain⟨pa,ca,rfl,ea⟩:=cV ha;obtain⟨pb,cb,rfl,eb⟩:=cV hb;have EA:=aa ea;have EB:=aa eb;obtain⟨n,fE⟩:∃ n,a.length=n:=⟨_,rfl⟩;rw[hl,fE]at EB;rw[fE]at EA hn;rw[hl,fE];have lH:=aa fE;have gg:=jD (fun k:Nat=>(k:Int)) n hn;have B6:am (fC n (fun k:Nat=>(k:Int)) n=bH ((List.range n).map fun i:Nat=>(i:Int))):=aa (by rw[qz]);have HGS:=aa (Glu.start a b n);clear ha hb ea eb hl fE
 go_enter Tryz.func92,Tryz.ntmps92
 go_wp2_with fail
 clear gg;refine bC (fun W=>Below w.heap.size w W/\W.heap[w.heap.size]?=some (.cells (fC n (fun k:Nat=>(k:Int)) 0) 3)) ⟨by go_grown,ap _ _⟩ (fun W0 aX=>?_);have iR:=aa aX;clear aX
 go_loopw [6] (fun i wr=>∃ k:Nat,k<=n/\i=.int .i64 k/\Below w.heap.size w wr/\wr.heap[w.heap.size]?=some (.cells (fC n (fun k:Nat=>(k:Int)) k) 3)) (fun i _=>n - (intOf i).toNat)
 ·exact⟨0,by omega,rfl,iR.o.1,iR.o.2⟩
 ·
  clear iR;obtain⟨k,hk,rfl,aA,hO⟩:=hrel;have HO:=aa hO;have aV:=aa aA;by_cases aC:k<n
  ·have tq:=ab hO k;rw[mg _ _ _ _ aC]at tq;have zq:=aH hO k;clear hO aA
   go_wp2_with fail
   go_roundw
   ·exact⟨k+1,by omega,by go_num,aV.o.setCell (by dsimp only;omega) _,by rw[aI HO.o,vh n (fun k:Nat=>(k:Int)) k aC]⟩
   ·simp[intOf];omega
  obtain rfl:k=n:=by omega
  have eO:am (wr.heap[w.heap.size]?=some (.cells (bH ((List.range k).map fun i:Nat=>(i:Int))) 3)):=aa (by rw[hO,B6.o]);clear hO aA
  go_wp2_with fail
  clear HO;obtain⟨g,hg⟩:∃ g,w.heap.size=g:=⟨_,rfl⟩;have HG:=aa hg;rw[hg]at eO ⊢;obtain⟨w4,zy⟩:∃ x,x=wr:=⟨_,rfl⟩;subst zy;clear hg W0
  go_loopw [7] (fun c wr=>∃ (O:List Int) (ch:Bool),c=.bool ch/\Glu a b k O/\(ch=false->∀ i,i<k->∀ k',k'<i->dO a b i k'=true->O.getD i 0=O.getD k' 0)/\Below w.heap.size w wr/\wr.heap[g]?=some (.cells (bH O) 3)) (fun c wr=>WJ c (Sr wr g))
  ·exact⟨_,true,rfl,HGS.o,fun h=>(by cases h),aV.o,eO.o⟩
  ·
   clear aV eO;obtain⟨O,ch,rfl,NF,aU,aA,hO⟩:=hrel;have Mc:=aa NF;have aV:=aa aA;have HO:=aa hO;cases ch with
   | false=>
    have m5:=aa (aU rfl)
    have HI:am (aQ wr (.slice (some ⟨g,0,none⟩) k k) O):=aa (rM Mc.o.len hn HO.o fun i hi=>by
     have:=Mc.o.le i (by rw[<-Mc.o.len];exact hi);have:=Mc.o.len
     exact⟨by omega,by omega⟩)
    have L4:=aa (AO _ O (by have:=Mc.o.len;omega) wr HI.o);have HJ:am (ly O=k9 a b):=aa (Rv lH.o Mc.o fun i k' hi rh hq=>m5.o i hi k' rh hq);clear NF aU aA hO
    go_wp2_with fail
    refine L4.o.mono ?_;rintro r w2 ⟨u,rfl,hu,aT⟩;obtain⟨au,cu,rfl,_⟩:=hu.at;have HU:=aa hu;have cf:=aa (ae aV.o aT);clear hu aT
    go_wp2_with fail
    go_ret
    exact⟨_,rfl,by rw[<-HJ.o];exact HU.o,cf.o⟩
   | true=>
    have Um:am (jE a b k O 0 0 O false):=aa ⟨NF,.inr ⟨rfl,rfl,fun i' nC=>by omega,fun k' rh=>by omega⟩⟩;clear NF aU aA hO;obtain⟨w5,Rj⟩:∃ x,x=wr:=⟨_,rfl⟩;subst Rj
    go_wp2_with fail
    go_loopw [7,8] (fun c x wr=>∃ (P:List Int) (ch:Bool) (i:Nat),i<=k/\c=.bool ch/\x=.int .i64 i/\jE a b k O i 0 P ch/\Below w.heap.size w wr/\wr.heap[g]?=some (.cells (bH P) 3)) (fun _ x _=>k - (intOf x).toNat)
    ·exact⟨O,false,0,by omega,rfl,rfl,Um.o,aV.o,HO.o⟩
    ·
     clear Um;obtain⟨P,ch,i,kQ,rfl,rfl,hP,aA,hO⟩:=hrel;have HP:=aa hP;have eU:=aa aA;have zl:=aa hO;clear hP aA hO;obtain⟨w6,QY⟩:∃ x,x=wr:=⟨_,rfl⟩;subst QY;by_cases aC:i<k
     ·go_wp2_with fail
      go_loopw [7,9] (fun c x wr=>∃ (P:List Int) (ch:Bool) (j:Nat),j<=i/\c=.bool ch/\x=.int .i64 j/\jE a b k O i j P ch/\Below w.heap.size w wr/\wr.heap[g]?=some (.cells (bH P) 3)) (fun _ x _=>i - (intOf x).toNat)
      ·exact⟨P,ch,0,by omega,rfl,rfl,HP.o,eU.o,zl.o⟩
      ·
       clear HP eU zl;obtain⟨P,ch,j,pD,rfl,rfl,hP,aA,hO⟩:=hrel;have HP:=aa hP;have eU:=aa aA;have zl:=aa hO;by_cases fL:j<i
       ·obtain⟨ba,oa,rfl,ai⟩:=EA.o i aC;obtain⟨_,_,e1,aj⟩:=EA.o j (by omega);injection e1 with e1
        injection e1 with e11 e12
        subst e11 e12;obtain⟨bb,ob,rfl,bi⟩:=EB.o i aC;obtain⟨_,_,e1,bj⟩:=EB.o j (by omega);injection e1 with e1
        injection e1 with e11 e12
        subst e11 e12;have JA:am (dO a b i j=(decide (a.getD i 0=a.getD j 0) || decide (b.getD i 0=b.getD j 0))):=aa rfl;have vZ:=HP.o.1.len;have tp1:=ab hO i;rw[go _ _ (by omega)]at tp1;have tp2:=ab hO j;rw[go _ _ (by omega)]at tp2;obtain⟨pi,xS⟩:∃ x,P.getD i 0=x:=⟨_,rfl⟩;obtain⟨pj,xT⟩:∃ x,P.getD j 0=x:=⟨_,rfl⟩;rw[xS]at tp1;rw[xT]at tp2;have ya1:∀ z:ExtW wr,z.val.cell? ⟨ba,oa+i,none⟩=_:=fun z=>ak (ae eU.o z.ext) ai
        have ya2:∀ z:ExtW wr,z.val.cell? ⟨ba,oa+j,none⟩=_:=fun z=>ak (ae eU.o z.ext) aj
        have yb1:∀ z:ExtW wr,z.val.cell? ⟨bb,ob+i,none⟩=_:=fun z=>ak (ae eU.o z.ext) bi
        have yb2:∀ z:ExtW wr,z.val.cell? ⟨bb,ob+j,none⟩=_:=fun z=>ak (ae eU.o z.ext) bj
        have yp1:∀ z:ExtW wr,z.val.cell? ⟨g,i,none⟩=_:=fun z=>ak z.ext tp1
        have yp2:∀ z:ExtW wr,z.val.cell? ⟨g,j,none⟩=_:=fun z=>ak z.ext tp2
        generalize a.getD i 0=xi at ya1 JA;generalize a.getD j 0=xj at ya2 JA;generalize b.getD i 0=yi at yb1 JA;generalize b.getD j 0=yj at yb2 JA;clear hP aA hO ai aj bi bj;by_cases h1:xi=xj
        ·have dm:(xi == xj)=true:=by simp[h1]
         by_cases h3:pi=pj
         ·have xN:(pi != pj)=false:=by simp[h3]
          have mm:am (jE a b k O i (j+1) P ch):=aa (HP.o.same (fun _=>by rw[xS,xT];exact h3));clear h1 h3 xS xT
          go_wp2_with fail
          refine aB (by kernel_rfl) (by kernel_rfl) ?_
          repeat (go_big_quiet_step (fail))
          refine wpQuiet_nil ?_;rintro _ ⟨xq,rfl⟩;clear ya1 ya2 yb1 yb2 yp1 yp2
          go_wp2_with fail
          go_roundw
          ·exact⟨P,ch,j+1,by omega,rfl,by go_num,mm.o,ae eU.o xq.ext,af xq.ext zl.o⟩
          ·simp[intOf];omega
         ·have xN:(pi != pj)=true:=by simpa using h3
          have X7:am (jE a b k O i (j+1) (lM P i j) true):=aa (HP.o.put aC fL (by rw[JA.o];simp[h1]) (by rw[xS,xT];exact h3));have XE:=aa xS;have Xx:=aa xT;clear h1 h3 xS xT
          go_wp2_with fail
          refine aB (by kernel_rfl) (by kernel_rfl) ?_
          repeat (go_big_quiet_step (fail))
          refine wpQuiet_nil ?_;rintro _ ⟨xq,rfl⟩;have zp1:∀ z:ExtW xq.val,z.val.cell? ⟨g,i,none⟩=_:=fun z=>ak (ae xq.ext z.ext) tp1
          have zp2:∀ z:ExtW xq.val,z.val.cell? ⟨g,j,none⟩=_:=fun z=>ak (ae xq.ext z.ext) tp2
          clear ya1 ya2 yb1 yb2 yp1 yp2
          go_wp2_with fail
          refine aB (by kernel_rfl) (by kernel_rfl) ?_
          repeat (go_big_quiet_step (fail))
          refine wpQuiet_nil ?_;rintro _ ⟨x2,rfl⟩;have tU:=af (ae xq.ext x2.ext) zl.o;have lp:=ae eU.o (ae xq.ext x2.ext);generalize x2.val=V at tU lp ⊢;have c1:=ab tU i;rw[go _ _ (by omega)]at c1;have f1:=aH tU i;have zk:=aI tU i (.int .i64 (min pi pj));rw[mh]at zk;have c2:=ab zk j;rw[go _ _ (by simp;omega)]at c2;have f2:=aH zk j;have zS:=aa zk;have lq:=aa lp;clear zp1 zp2 tU zk lp tp1 tp2
          go_wp2_with fail
          go_roundw
          ·
           refine⟨lM P i j,true,j+1,by omega,rfl,by go_num,X7.o,(lq.o.setCell (by dsimp only;rw[HG.o];exact Nat.le_refl _) _).setCell (by dsimp only;rw[HG.o];exact Nat.le_refl _) _,?_⟩;rw[aI zS.o,mh];unfold lM;rw[XE.o,Xx.o]
          ·simp[intOf];omega
        ·have dm:(xi == xj)=false:=beq_eq_false_iff_ne.2 h1;by_cases h2:yi=yj
         ·have dM:(yi == yj)=true:=by simp[h2]
          by_cases h3:pi=pj
          ·have xN:(pi != pj)=false:=by simp[h3]
           have mm:am (jE a b k O i (j+1) P ch):=aa (HP.o.same (fun _=>by rw[xS,xT];exact h3));clear h1 h2 h3 xS xT
           go_wp2_with fail
           refine aB (by kernel_rfl) (by kernel_rfl) ?_
           repeat (go_big_quiet_step (fail))
           refine wpQuiet_nil ?_;rintro _ ⟨xq,rfl⟩;clear ya1 ya2 yb1 yb2 yp1 yp2
           go_wp2_with fail
           go_roundw
           ·exact⟨P,ch,j+1,by omega,rfl,by go_num,mm.o,ae eU.o xq.ext,af xq.ext zl.o⟩
           ·simp[intOf];omega
          ·have xN:(pi != pj)=true:=by simpa using h3
           have X7:am (jE a b k O i (j+1) (lM P i j) true):=aa (HP.o.put aC fL (by rw[JA.o];simp[h2]) (by rw[xS,xT];exact h3));have XE:=aa xS;have Xx:=aa xT;clear h1 h2 h3 xS xT
           go_wp2_with fail
           refine aB (by kernel_rfl) (by kernel_rfl) ?_
           repeat (go_big_quiet_step (fail))
           refine wpQuiet_nil ?_;rintro _ ⟨xq,rfl⟩;have zp1:∀ z:ExtW xq.val,z.val.cell? ⟨g,i,none⟩=_:=fun z=>ak (ae xq.ext z.ext) tp1
           have zp2:∀ z:ExtW xq.val,z.val.cell? ⟨g,j,none⟩=_:=fun z=>ak (ae xq.ext z.ext) tp2
           clear ya1 ya2 yb1 yb2 yp1 yp2
           go_wp2_with fail
           refine aB (by kernel_rfl) (by kernel_rfl) ?_
           repeat (go_big_quiet_step (fail))
           refine wpQuiet_nil ?_;rintro _ ⟨x2,rfl⟩;have tU:=af (ae xq.ext x2.ext) zl.o;have lp:=ae eU.o (ae xq.ext x2.ext);generalize x2.val=V at tU lp ⊢;have c1:=ab tU i;rw[go _ _ (by omega)]at c1;have f1:=aH tU i;have zk:=aI tU i (.int .i64 (min pi pj));rw[mh]at zk;have c2:=ab zk j;rw[go _ _ (by simp;omega)]at c2;have f2:=aH zk j;have zS:=aa zk;have lq:=aa lp;clear zp1 zp2 tU zk lp tp1 tp2
           go_wp2_with fail
           go_roundw
           ·
            refine⟨lM P i j,true,j+1,by omega,rfl,by go_num,X7.o,(lq.o.setCell (by dsimp only;rw[HG.o];exact Nat.le_refl _) _).setCell (by dsimp only;rw[HG.o];exact Nat.le_refl _) _,?_⟩;rw[aI zS.o,mh];unfold lM;rw[XE.o,Xx.o]
           ·simp[intOf];omega
         ·have dM:(yi == yj)=false:=beq_eq_false_iff_ne.2 h2;have pB:am (¬ dO a b i j=true):=aa (by rw[JA.o];simp[h1,h2]);have mm:am (jE a b k O i (j+1) P ch):=aa (HP.o.same (fun h=>absurd h pB.o));clear h1 h2 xS xT
          go_wp2_with fail
          refine aB (by kernel_rfl) (by kernel_rfl) ?_
          repeat (go_big_quiet_step (fail))
          refine wpQuiet_nil ?_;rintro _ ⟨xq,rfl⟩;clear ya1 ya2 yb1 yb2 yp1 yp2
          go_wp2_with fail
          go_roundw
          ·exact⟨P,ch,j+1,by omega,rfl,by go_num,mm.o,ae eU.o xq.ext,af xq.ext zl.o⟩
          ·simp[intOf];omega
       ·obtain rfl:j=i:=by omega
        clear hP aA hO
        go_wp2_with fail
        go_roundw
        ·exact⟨P,ch,j+1,by omega,rfl,by go_num,HP.o.row,eU.o,zl.o⟩
        ·simp[intOf];omega
     ·obtain rfl:i=k:=by omega
      go_wp2_with fail
      go_roundw
      ·
       refine⟨P,ch,rfl,HP.o.1,fun h=>?_,eU.o,zl.o⟩;rcases HP.o.2 with ⟨h2,_⟩|⟨_,_,h4,_⟩
       ·rw[h]at h2;cases h2
       ·exact h4
      ·
       have e1:=Lt HO.o;have e2:=Lt zl.o;rcases HP.o.2 with ⟨h2,h3⟩|⟨h2,_⟩
       ·subst h2;simp[WJ];omega
       ·subst h2;simp[WJ]
theorem Nk(s:Sys) (hs:SysOk s) (hE:eS s<=256) (vc vs vt ve:Value) (w:World) (cA:IsSys w s vc vs vt ve) :
  Calls Tryz.prog 50 #[.agg (bL s.prob vc vs s.n vt ve)] w fun r w'=>∃ u,r=.returned u/\aQ w' u (partsS s)/\Below w.heap.size w w':=by
 have HS:=aa cA;obtain⟨⟨pc,cc,rfl⟩,⟨ps,cs,rfl⟩,⟨pt,ct,rfl⟩,⟨pe,ce,rfl⟩⟩:=bD cA;clear cA;have jR:=aa (fun p (hp:p<nS s) W (hb:Below w.heap.size w W)=>Nj s hs p hp _ _ _ _ W (HS.o.up hb));have fE:=hs.n.2.2.1;have kq:=hs.n.1;have jf:=hs.n.2.1;have qV:am (∀ k,(eA s k).length=eS s):=aa (gV s);have rl:am (∀ p,(classL s p).length=eS s):=aa (jA s);have HPS:am (∀ k,eA s (k+1)=k9 (eA s k) (classL s (k+1))):=aa fun k=>rfl
 have Um:am (eA s 0=classL s 0):=aa rfl;have jO:am (partsS s=eA s (nS s - 1)):=aa rfl;obtain⟨n,hn⟩:∃ n,nS s=n:=⟨_,rfl⟩;rw[hn]at fE kq jf jR jO;rw[fE]at jR ⊢;generalize partsS s=ps0 at jO ⊢;clear hn fE
 go_enter Tryz.func50,Tryz.ntmps50
 go_wp2_with fail
 refine aO (fun W=>Below w.heap.size w W/\∃ c,W.heap[w.heap.size]?=some (.cells c 35)/\c=bL s.prob (.slice pc s.prob.t.cases.length cc) (.slice ps s.prob.a.states.length cs) (n:Int) (.slice pt s.tab.length ct) (.slice pe s.ex.length ce)) ⟨by go_grown,_,ap _ _,rfl⟩ (fun W0 aX=>?_);obtain⟨aG,_,hA,rfl⟩:=aX;have eQ:=aa aG;have HA:=aa hA;have sA:=jR.o 0 (by omega) W0 aG;rw[show ((0:Nat):Int)=0 from rfl]at sA;refine sA.mono ?_;rintro r w1 ⟨u,rfl,hu,aK⟩;have HU:=aa hu;obtain⟨au,cu,rfl,_⟩:=hu.at;rw[rl.o]at HU;have bI:=aa aK;rw[rl.o];clear aG hA sA hu aK
 go_wp2_with fail
 go_loopw [3,4] (fun o i wr=>∃ k:Nat,k<n/\i=.int .i64 ((k:Int)+1)/\Below W0.heap.size W0 wr/\∃ a c,o=.slice a (eS s) c/\aQ wr (.slice a (eS s) c) (eA s k)) (fun _ i _=>n+1 - (intOf i).toNat)
 ·exact⟨0,by omega,rfl,bI.o,au,cu,rfl,by rw[Um.o];exact HU.o⟩
 ·
  clear bI HU;obtain⟨k,hk,rfl,aA,a,c,rfl,hI⟩:=hrel;have aV:=aa aA;have HI:=aa hI;have tS:=ab (af aA HA.o);clear aA hI;by_cases aC:k+1<n
  ·have oD:(k:Int)+1<(n:Int):=by omega
   have bW:=jR.o (k+1) aC wr (ae eQ.o aV.o);rw[show ((k+1:Nat):Int)=(k:Int)+1 by omega]at bW;have HC:=aa bW;clear bW
   go_wp2_with fail
   clear tS;refine HC.o.mono ?_;rintro r w2 ⟨u,rfl,hu,aT⟩;have HU:=aa hu;obtain⟨a2,c2,rfl,_⟩:=hu.at;have cf:=aa aT;have HGU:=aa (P7 _ _ (eA s k) (classL s (k+1)) w2 (HI.o.up up_int cf.o) HU.o (by rw[qV.o,rl.o]) (by rw[qV.o];exact hE));rw[rl.o]at HGU ⊢;clear hu aT HC
   go_wp2_with fail
   refine HGU.o.mono ?_;rintro r w3 ⟨u3,rfl,sB,bG⟩;have fL:(k9 (eA s k) (classL s (k+1))).length=eS s:=by rw[<-HPS.o,qV.o]
   obtain⟨a3,c3,rfl,_⟩:=sB.at;rw[fL]at sB ⊢;have HU3:=aa sB;have dE:=aa bG;clear sB bG fL
   go_wp2_with fail
   go_roundw
   ·exact⟨k+1,aC,by go_num,ae aV.o (ae cf.o dE.o),a3,c3,rfl,by rw[HPS.o];exact HU3.o⟩
   ·simp[intOf];omega
  ·have oD:¬ (k:Int)+1<(n:Int):=by omega
   have HK:am (ps0=eA s k):=aa (by rw[jO.o,show n - 1=k by omega])
   go_wp2_with fail
   go_ret
   exact⟨_,rfl,by rw[HK.o];exact HI.o,ae eQ.o aV.o⟩
theorem Nl{w w':World} {B:Nat} (h:w'.heap[B]?=w.heap[B]?) (o:Nat):w'.cell? ⟨B,o,none⟩=w.cell? ⟨B,o,none⟩:=by
 simp[World.cell?,h]
theorem I4(s:Sys) (hs:SysOk s) (hE:eS s<=256) (vc vs vt ve:Value) (w:World) (cA:IsSys w s vc vs vt ve) :
  Calls Tryz.prog 42 #[.agg (bL s.prob vc vs s.n vt ve)] w fun r w'=>∃ u,r=.returned u/\aQ w' u (choiceS s)/\Below w.heap.size w w':=by
 have HS:=aa cA;obtain⟨⟨qc,kc,rfl⟩,⟨qs,ks,rfl⟩,⟨qt,kt,rfl⟩,⟨qe,ke,rfl⟩⟩:=bD cA;have WT:=aa (fun W (hb:Below w.heap.size w W)=>Nk s hs hE _ _ _ _ W (HS.o.up hb));have HCO:=aa (fun (l:List Nat) (hl:∀ e∈l,e<eS s) vl W (hb:Below w.heap.size w W) (hv:aQ W vl (l.map fun e:Nat=>(e:Int)))=>KZ s hs l hl vl _ _ _ _ W (HS.o.up hb) hv);have LR:am (chQ s 0 0=List.replicate (eS s) 0):=aa (RF s);have UT:am (∀ (k i:Nat) (hi:i<(memL (partsS s) k).length),chQ s k (i+1)=(chQ s k i).set ((memL (partsS s) k).getD i 0) (comB s (memL (partsS s) k))):=aa (fun k i hi=>RG hi);have HQN:=aa (RH s);have XI:am (∀ k:Nat,(memL (partsS s) k).length=0->chQ s k 0=choiceS s):=aa (fun k h=>RI h);have rT:=aa (Vi s);have vW:=aa (nh s);have Yr:=aa (dp s);have DI:am (∀ (k:Nat),∀ e∈memL (partsS s) k,e<eS s):=aa (fun k=>rG)
 have iv:am (∀ x∈choiceS s,bR x):=aa (fun x hx=>by
  obtain⟨e,_,rfl⟩:=List.mem_map.1 hx
  exact vG s _ hs.outs.2.1)
 have Yw:am (∀ l,bR (comB s l)):=aa (fun l=>vG s l hs.outs.2.1);generalize choiceS s=CH at XI rT iv ⊢;generalize chQ s=Q at LR UT HQN XI rT vW;have gg:=jD (fun _=>0) (eS s) hE;have HZ0:am (fC (eS s) (fun _=>(0:Int)) 0=bH (List.replicate (eS s) 0)):=aa (by unfold fC bH;simp[List.map_const']);obtain⟨m,hm⟩:∃ m,eS s=m:=⟨_,rfl⟩;have rY:s.ex.length=eS s:=rfl;rw[rY,hm]at WT HCO ⊢;rw[hm]at LR rT vW Yr DI hE gg HZ0;clear cA hm rY
 go_enter Tryz.func42,Tryz.ntmps42
 go_wp2_with fail
 refine aO (fun W=>Below w.heap.size w W/\∃ c,W.heap[w.heap.size]?=some (.cells c 35)/\c=bL s.prob (.slice qc s.prob.t.cases.length kc) (.slice qs s.prob.a.states.length ks) s.n (.slice qt s.tab.length kt) (.slice qe m ke)) ⟨by go_grown,_,ap _ _,rfl⟩ (fun W0 aX=>?_);obtain⟨aG,_,bB,rfl⟩:=aX;refine(WT.o W0 aG).mono ?_;rintro r w1 ⟨u,rfl,hu,aK⟩;have HU:=aa hu;obtain⟨pu,cu,rfl,eu⟩:=cV hu;have bI:=aa (ae aG aK);have du:=aa (af aK bB);have vZ:=Yr.o;rw[vZ]at HU ⊢;clear hu eu aG aK bB WT vZ
 go_wp2_with fail
 clear gg;refine bC (fun W=>Below w1.heap.size w1 W/\W.heap[w1.heap.size]?=some (.cells (bH (Q 0 0)) 3)) ⟨by go_grown,by rw[LR.o,<-HZ0.o];exact ap _ _⟩ (fun W1 cM=>?_);obtain⟨jn,ra⟩:=cM;obtain⟨g,hg⟩:∃ g,w1.heap.size=g:=⟨_,rfl⟩;rw[hg]at ra ⊢;have gN:=aa jn;have oI:=aa ra;have vS:=aa hg;have hwg:=bI.o.size;rw[hg]at hwg;have A9:=aD du.o;rw[hg]at A9;clear jn ra hg
 have JR:am (∀ (V:World) (l:List Int),V.heap[g]?=some (.cells (bH l) 3)->l.length=m->l=CH->aQ V (.slice (some ⟨g,0,none⟩) m m) CH):=aa (fun V l h1 h2 h3=>by
  subst h3
  exact FQ h2 (by omega) h1 iv.o)
 go_loopw [5] (fun i wr=>∃ k:Nat,k<=m/\i=.int .i64 k/\Below w1.heap.size w1 wr/\wr.heap[g]?=some (.cells (bH (Q k 0)) 3)) (fun i _=>m - (intOf i).toNat)
 ·exact⟨0,by omega,rfl,gN.o,oI.o⟩
 ·
  obtain⟨k,hk,rfl,aA,oJ⟩:=hrel;have aV:=aa aA;have AQ:=aa oJ;have df:=ae bI.o aA;have dz:=aa df;by_cases aC:k<m
  ·have LI:=aa (IZ _ (partsS s) k (by rw[Yr.o];omega) wr (HU.o.up up_int aA));have AR:=aa (DI.o k);have vQ:=aa (UT.o k);have nr:=aa (HQN.o k);have LF:=aa (XI.o k);clear aA oJ df;generalize memL (partsS s) k=L at LI AR vQ nr LF
   go_wp2_with fail
   refine LI.o.mono ?_;rintro r w4 ⟨u4,rfl,mj,bS,JS⟩;have wz:=aa mj;obtain⟨pl,cl,rfl,el⟩:=cV mj;rw[List.length_map]at el wz ⊢
   have EL:am (∀ i (hi:i<L.length),∃ b o,pl=some ⟨b,o,none⟩/\w4.cell? ⟨b,o+i,none⟩=some (.int .i64 (L.getD i 0:Nat))):=aa (fun i hi=>by
    obtain⟨b,o,e1,h1⟩:=el i hi;refine⟨b,o,e1,?_⟩;rw[h1]
    simp[hi])
   have Ko:g<wr.heap.size:=(Array.getElem?_eq_some_iff.1 AQ.o).1
   have HNG:am (∀ b o,pl=some ⟨b,o,none⟩->b≠g):=aa (fun b o hp=>by
    have:=JS b (by rw[hp];rfl)
    omega)
   clear JS Ko;have eE:=aa (ae aV.o bS);have T8:=aa (af bS AQ.o);have zG:=aa (ae dz.o bS);obtain⟨ln,A2⟩:∃ ln,L.length=ln:=⟨_,rfl⟩;have pk:=aa A2;rw[A2]at vQ nr LF EL wz ⊢;obtain⟨_,_,_,_,hlm,_⟩:=mj.at;rw[List.length_map,A2]at hlm;clear mj el bS A2 LI;by_cases zg:ln=0
   ·have HR:=aa (JR.o w4 _ T8.o (vW.o k 0) (LF.o zg));have hd:((ln:Int) == 0)=true:=by simp[zg]
    clear zg
    go_wp2_with fail
    go_ret
    exact⟨_,rfl,HR.o,zG.o⟩
   ·have hd:((ln:Int) == 0)=false:=beq_eq_false_iff_ne.2 (by omega);have tA:=ab (af eE.o du.o)
    go_wp2_with fail
    refine(HCO.o L AR.o _ w4 zG.o wz.o).mono ?_;rintro r w5 ⟨rfl,dS⟩;generalize comB s L=cv at vQ ⊢;have mx:=aa (ae eE.o dS);have HG5:=aa (af dS T8.o);have H45:=aa dS;clear tA dS
    go_wp2_with fail
    obtain⟨wrA,lg⟩:∃ x,x=wr:=⟨_,rfl⟩;subst lg;have hsz4:=H45.o.size
    go_loopw [8] (fun i wr=>∃ j:Nat,j<=ln/\i=.int .i64 j/\Below w1.heap.size w1 wr/\wr.heap[g]?=some (.cells (bH (Q k j)) 3)/\(∀ q,q<w4.heap.size->q≠g->wr.heap[q]?=w4.heap[q]?)) (fun i _=>ln - (intOf i).toNat)
    ·exact⟨0,by omega,rfl,mx.o,HG5.o,fun q hq _=>H45.o.block q hq⟩
    ·
     obtain⟨j,hj,rfl,GA,LS,UM⟩:=hrel;have LN:=aa GA;have Bt:=aa LS;have HKJ:=aa UM;by_cases fL:j<ln
     ·obtain⟨b1,o1,rfl,c1⟩:=EL.o j fL;have HSJ:=aa (vQ.o j fL);have hjl':j<L.length:=by rw[pk.o];exact fL
      have hLj:L.getD j 0<m:=by
       rw[az 0 hjl'];exact AR.o _ (List.getElem_mem hjl')
      generalize L.getD j 0=e at c1 HSJ hLj;have Dj:=HNG.o b1 o1 rfl
      have hcw:wr.cell? ⟨b1,o1+j,none⟩=some (.int .i64 (e:Nat)):=by
       rw[<-c1];exact Nl (UM b1 (fx c1) Dj) (o1+j)
      have tG:=ab Bt.o;have tF:=aH Bt.o;have jG:(bH (Q k j))[e]?=some (.int .i64 ((Q k j).getD e 0)):=go _ _ (by rw[vW.o];exact hLj)
      have HN7:am (∀ x,x=Value.int .i64 cv->Below w1.heap.size w1 (wr.setCell ⟨g,e,none⟩ x)/\(wr.setCell ⟨g,e,none⟩ x).heap[g]?=some (.cells (bH (Q k (j+1))) 3)/\(∀ q,q<w4.heap.size->q≠g->(wr.setCell ⟨g,e,none⟩ x).heap[q]?=w4.heap[q]?)):=aa (fun x hx=>by
       subst hx;refine⟨LN.o.setCell (p:=⟨g,e,none⟩) (Nat.le_of_eq vS.o) _,?_,fun q hq hqg=>?_⟩
       ·rw[aI Bt.o,mh,HSJ.o]
       ·rw[Below.heap_setCell _ _ _ _ hqg]
        exact HKJ.o q hq hqg)
      clear GA LS UM c1
      go_wp2_with fail
      go_roundw
      ·exact⟨j+1,by omega,by go_num,HN7.o _ rfl⟩
      ·simp[intOf];omega
     ·obtain rfl:j=ln:=by omega
      have QH:am (wr.heap[g]?=some (.cells (bH (Q (k+1) 0)) 3)):=aa (by rw[<-nr.o];exact Bt.o);clear GA LS UM
      go_wp2_with fail
      go_roundw
      ·exact⟨k+1,by omega,by go_num,LN.o,QH.o⟩
      ·simp[intOf];omega
  ·obtain rfl:k=m:=by omega
   have HR:=aa (JR.o wr _ oJ (vW.o k 0) rT.o);clear aA oJ df
   go_wp2_with fail
   go_ret
   exact⟨_,rfl,HR.o,dz.o⟩
abbrev I5(s:Sys) (vc vs vt ve:Value) (w:World):Prop:=∀ W,Below w.heap.size w W->Calls Tryz.prog 39 #[.agg (bL s.prob vc vs s.n vt ve)] W fun r w'=>r=.returned (.int .i64 (readyE s))/\Below W.heap.size W w'
theorem FR{s:Sys} (h:readyE s=0):SysOk s:=by
 refine gE ?_;unfold readyE at h;split at h
 ·rename_i h1;exact absurd h h1
 ·omega
theorem K0(s:Sys) (hE:eS s<=256) (vc vs vt ve:Value) (w:World) (cA:IsSys w s vc vs vt ve) (hr:I5 s vc vs vt ve w) :
  Calls Tryz.prog 14 #[.agg (bL s.prob vc vs s.n vt ve)] w fun r w'=>∃ u,r=.returned (.tuple #[u,.int .i64 (choiceR s).2])/\aQ w' u (choiceR s).1/\Below w.heap.size w w':=by
 have HS:=aa cA;have Gy:=aa hr;obtain⟨⟨qc,kc,rfl⟩,⟨qs,ks,rfl⟩,⟨qt,kt,rfl⟩,⟨qe,ke,rfl⟩⟩:=bD cA;have iT:=aa (fun (h:readyE s=0) W (hb:Below w.heap.size w W)=>I4 s (FR h) hE _ _ _ _ W (HS.o.up hb));have cO:am (readyE s≠0->choiceR s=([],readyE s)):=aa fun h=>by unfold choiceR;rw[if_pos h]
 have eh:am (readyE s=0->choiceR s=(choiceS s,0)):=aa fun h=>by unfold choiceR;rw[if_neg (by omega)]
 generalize choiceR s=cr at cO eh ⊢;unfold I5 at Gy;generalize readyE s=re at cO eh Gy iT;clear cA hr;generalize s.prob.t.cases.length=nc,s.prob.a.states.length=ns,s.tab.length=nt,s.ex.length=ne at Gy iT ⊢
 go_enter Tryz.func14,Tryz.ntmps14
 go_wp2_with fail
 refine aO (fun W=>Below w.heap.size w W/\∃ c,W.heap[w.heap.size]?=some (.cells c 35)/\c=bL s.prob (.slice qc nc kc) (.slice qs ns ks) s.n (.slice qt nt kt) (.slice qe ne ke)) ⟨by go_grown,_,ap _ _,rfl⟩ (fun W0 aX=>?_);obtain⟨aG,_,bB,rfl⟩:=aX;refine(Gy.o W0 aG).mono ?_;rintro r w1 ⟨rfl,aK⟩;have bI:=aa (ae aG aK);have tA:=ab (af aK bB);clear aG bB aK Gy;by_cases hz:re=0
 case neg=>
  have HV:=aa (cO.o hz);have LH:(re != 0)=true:=by simpa using hz
  clear hz iT
  go_wp2_with fail
  go_ret2
  exact⟨_,by rw[HV.o];rfl,by rw[HV.o];exact mW _,bI.o⟩
 have HV:=aa (eh.o hz);have uk:=aa (iT.o hz);subst hz;clear iT
 go_wp2_with fail
 refine(uk.o w1 bI.o).mono ?_;rintro r w2 ⟨u,rfl,hu,aT⟩;have HU:=aa hu;have cf:=aa (ae bI.o aT);clear hu aT tA
 go_wp2_with fail
 go_ret2
 exact⟨_,by rw[HV.o];rfl,by rw[HV.o];exact HU.o,cf.o⟩
end Go.Proofs.YtmeaoneaephjeaaGreatDoor
