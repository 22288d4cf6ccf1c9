/-
  A part of the proof: lemmas and contracts that the parts behind it use. Each one's conditions are its own premises.
-/
import Derived.Test.YtmeaoneaephjeaaGreatDoorS8
set_option maxRecDepth 100000
set_option maxHeartbeats 8000000
set_option linter.unusedVariables false
set_option linter.unusedSimpArgs false
namespace Go.Proofs.YtmeaoneaephjeaaGreatDoor
open Go.RowKit Go Go.Shelf
attribute [local go_sem] Oper.semAt_some
theorem Kn(l:List Lk) (h0:∀ y∈l,0<=y.x) (bx:Nat) (vl:Value) (w0:World) (hl:bJ w0 vl l) (w:World) (aK:Below w0.heap.size w0 w) (hx:w.cell? ⟨bx,0,none⟩=some vl) :
  sg Tryz.prog 98 #[.pointer (some ⟨bx,0,none⟩)] (wo (cJ l)) l.length (fun k=>k<w0.heap.size\/k=bx) w:=by
 intro yl J Jx W hW hJ oB hY nU;have kV:=fk hx;have mM:=aK.size;obtain⟨pl,cl,rfl,lt1,lt2,el⟩:=hl.at;have eX:gy (fun k=>k<w0.heap.size\/k=bx) w W:=fun k hk=>hW.block k (by rcases hk with hk|rfl<;>first|omega|assumption)
 have tx:=(eX.cell (.inr rfl)).trans hx;have sS:=aa eX;have LD:=aa hW.size
 have BG:am (∀ k (hk:k<l.length),wo (cJ l) k=#[.int .i64 (l[k]).x]):=aa (fun k hk=>by
  unfold wo cJ;have h1:=h0 l[k] (List.getElem_mem hk);rw[az 0 (by simpa using hk),List.getElem_map];congr 2;congr 1
  omega)
 have EL:am (∀ (V:World),gy (fun k=>k<w0.heap.size\/k=bx) w V->∀ i (hi:i<l.length),∃ b o,pl=some ⟨b,o,none⟩/\V.cell? ⟨b,o+i * 2,none⟩=some (.int .i64 (l[i]).x)/\V.cell? ⟨b,o+i * 2+1,none⟩=some (.int .i64 (l[i]).p)):=aa (fun V hV i hi=>by
  obtain⟨b,o,e1,c1,c2⟩:=el i hi;have aB:b<w0.heap.size:=fk c1.1
  have sZ:∀ o',V.cell? ⟨b,o',none⟩=w0.cell? ⟨b,o',none⟩:=fun o'=>by
   rw[hV.cell (.inl aB)];unfold World.cell?;rw[aK.block b aB]
  exact⟨b,o,e1,(sZ _).trans c1.1,(sZ _).trans c2.1⟩)
 have HJ:=aa hJ;have Jw:=aa oB;have HY:=aa hY;have H0:=aa nU;clear hx aK eX hJ oB hY nU hl el hW h0;refine(callsIn_wide (n:=0)).1 ?_;refine callsIn_of_wp Tryz.func98 rfl trivial ?_ rfl;simp only[Tryz.ntmps98,List.size_toArray,List.length_cons,List.length_nil,Nat.reduceAdd,Nat.reduceSub,Array.replicate_succ,Array.replicate_zero,List.push_toArray,List.append_toArray,List.nil_append,List.cons_append]
 gi_wp2
 clear tx
 gi_loopw [7] (fun i wr=>∃ k:Nat,k<=l.length/\i=.int .i64 k/\w.heap.size<=wr.heap.size/\gy (fun k=>k<w0.heap.size\/k=bx) w wr/\J k wr) (fun i _=>l.length - (intOf i).toNat)
 ·exact⟨0,by omega,rfl,LD.o,sS.o,H0.o⟩
 ·
  obtain⟨k,hk,rfl,eQ,fS,hj⟩:=hrel;have j8:=aa fS;have jg:=aa hj;clear hj;by_cases aB:k<l.length
  ·obtain⟨b1,o1,rfl,c1,c2⟩:=EL.o wr fS k aB;have HE:=aa (BG.o k aB);generalize l[k]=y at c1 c2 HE;obtain⟨x,p⟩:=y;dsimp only at c1 c2 HE;have hja:=HJ.o k wr (wr.alloc (.cells #[.int .i64 x,.int .i64 p] 75)) jg.o (by go_grown);have HKA:am (gy (fun k=>k<w0.heap.size\/k=bx) wr (wr.alloc (.cells #[.int .i64 x,.int .i64 p] 75))):=aa fun q hq=>Below.heap_alloc wr _ q (by rcases hq with hq|rfl<;>omega)
   obtain⟨fn,tmps,assign,body,oW,hR⟩:=HY.o k _ aB hja;rw[HE.o]at oW;have HR:=aa hR;clear hR hja fS
   gi_wp2
   refine⟨rfl,HR.o.mono ?_⟩;rintro e W3 (⟨rfl,Dl,CM,im⟩|⟨rfl,rS⟩)
   ·have QO:w.heap.size<=W3.heap.size:=by simp at CM;omega
    gi_wp2
    go_roundw
    ·exact⟨k+1,by omega,by go_num,QO,gy.trans (gy.trans j8.o HKA.o) im,Dl⟩
    ·simp[intOf];omega
   ·gi_wp2
    refine bodyPost_ret (results_none rfl _ _ _) rfl ?_;exact⟨⟨_,rfl⟩,.inr ⟨_,by omega,rS⟩⟩
  ·obtain rfl:k=l.length:=by omega
   clear fS
   gi_wp2
   go_end0
   exact⟨⟨_,rfl⟩,.inl jg.o⟩
theorem Fj{s:Sys} (hs:SysOk s) {l:List Lk} (hx:∀ y∈l,y.x.toNat<eS s):cW s l=decide (comM s (cJ l)=0):=by
 unfold cW;rw[decide_eq_decide];exact Og hs fun e he=>by obtain⟨y,hy,rfl⟩:=List.mem_map.1 he;exact hx y hy
theorem qO(s:Sys) (hs:SysOk s) (B:Nat) (vl:Value) (l:List Lk) (hx:∀ y∈l,0<=y.x/\y.x.toNat<eS s) (w:World) (fU:ScAt w B s) (hl:bJ w vl l) :
  Calls Tryz.prog 56 #[.pointer (some ⟨B,0,none⟩),vl] w fun r w'=>r=.returned (.bool (iy s l))/\Below w.heap.size w w':=by
 have jA:=aa fU;have HL:=aa hl;obtain⟨pl,cl,rfl,lt1,lt2,el⟩:=hl.at;have uS:am ((cJ l).length=l.length):=aa (by simp[cJ])
 have qU:=aa (fun W (hb:Below w.heap.size w W) (hX:W.heap[w.heap.size]?=some (.cells #[.slice pl l.length cl] 54))=>Cm s B 98 #[.pointer (some ⟨w.heap.size,0,none⟩)] (enters_of Tryz.func98 (by kernel_rfl) rfl) (cJ l) (fun e he=>by obtain⟨y,hy,rfl⟩:=List.mem_map.1 he;exact(hx y hy).2) (fun k=>k<w.heap.size\/k=w.heap.size) W (jA.o.up hb) (fun k hk=>by have:=aC hX;rcases hk with hk|rfl<;>omega) (fun V hV=>by
  rw[uS.o]
  exact Kn l (fun y hy=>(hx y hy).1) w.heap.size _ w HL.o V (ae hb hV) (by rw[ab (af hV hX)];rfl)))
 have hZ:=aa (Fj hs (fun y hy=>(hx y hy).2));have HG:am (iy s l=(decide (0<l.length)&&cW s l)):=aa rfl;rw[hZ.o]at HG;generalize comM s (cJ l)=c at HG qU;clear hl el hx fU hZ;by_cases h0:0<l.length
 ·have hd:decide ((0:Int)<(l.length:Int))=true:=decide_eq_true (by omega);have gm:decide (0<l.length)=true:=decide_eq_true h0;rw[gm,Bool.true_and]at HG
  go_enter Tryz.func56,Tryz.ntmps56
  go_wp2_with fail
  refine aQ (fun W=>Below w.heap.size w W/\W.heap[w.heap.size]?=some (.cells #[.slice pl l.length cl] 54)) ⟨by go_grown,ap _ _⟩ (fun W0 bd=>?_);obtain⟨aK,vy⟩:=bd;refine(qU.o W0 aK vy).mono ?_;rintro e w1 ⟨rfl,aM⟩;have kH:=aa (ae aK aM);clear aK aM vy qU
  go_wp2_with fail
  go_ret
  refine⟨aS ?_,kH.o⟩;rw[HG.o,Bool.eq_iff_iff];simp
 ·have hd:decide ((0:Int)<(l.length:Int))=false:=decide_eq_false (by omega);have gm:decide (0<l.length)=false:=decide_eq_false h0;rw[gm,Bool.false_and]at HG
  go_enter Tryz.func56,Tryz.ntmps56
  go_wp2_with fail
  go_ret
  exact⟨aS (by rw[HG.o]),by go_grown⟩
theorem Ea{s:Sys} {l:List Lk} (h:walkE s l=0):∀ y∈l,0<=y.x/\y.x.toNat<eS s:=fun y hy=>by
 obtain⟨i,hi,rfl⟩:=List.getElem_of_mem hy;have h1:=((nG s l).1 h).2.2 i hi;have h2:=(rh s l i).1 h1;rw[az default hi]at h2;exact⟨h2.1,h2.2.1⟩
theorem rE{s:Sys} (h:readyE s=0):verifyE s=0:=by
 unfold readyE at h;split at h
 ·rename_i h1;exact absurd h h1
 ·omega
def Yo(s:Sys) (e:Int) (r:Ending) (w:World):Prop:=∃ v,r=.returned (.tuple #[v,.int .i64 e])/\(e=0->∃ B,v=.pointer (some ⟨B,0,none⟩)/\ScAt w B s)/\(e≠0->v=.pointer none)
theorem yh(s:Sys) (hE:eS s<=256) (vc vs vt ve vw:Value) (c:Ct) (pv:Option Addr) (cv:Nat) (pl:Option Addr) (cl:Nat) (pp:Option Addr) (cp:Nat) (w:World) (hs:IsSys w s vc vs vt ve) (hN:movesN s.prob.a.states<1099511627776) (hw:bJ w vw c.walk) :
  Calls Tryz.prog 54 #[.agg (bZ s.prob vc vs s.n vt ve),.agg #[.int .i64 c.kind,vw,.slice pv c.nv cv,.slice pl c.nl cl,.slice pp c.np cp]] w fun r w'=>Yo s (certE s c) r w'/\Below w.heap.size w w':=by
 have HS:=aa hs;obtain⟨⟨pc,cc,rfl⟩,⟨ps,cs,rfl⟩,⟨pt,ct,rfl⟩,⟨pe,ce,rfl⟩⟩:=bM hs;obtain⟨pw,cw,rfl,lw1,lw2,_⟩:=hw.at;have HWK:=aa hw;clear hs hw;have HC:=aa (fun W (hb:Below w.heap.size w W)=>nN s hE _ _ _ _ W (HS.o.up hb) hN);have Qc:=aa (fun (hv:verifyE s=0) W (hb:Below w.heap.size w W)=>Kl s hv _ _ _ _ _ c.walk W (HS.o.up hb) hN (HWK.o.up up_link hb));have dd:am (readyE s≠0->certE s c=readyE s):=aa fun h=>by unfold certE;rw[if_pos h]
 have eJ:am (readyE s=0->c.kind≠1->certE s c=1):=aa fun h h1=>by unfold certE;rw[if_neg (by omega)];unfold vR;rw[if_pos h1]
 have gp:am (readyE s=0->c.kind=1->(0<c.nv\/0<c.nl\/0<c.np)->certE s c=3):=aa fun h h1 h2=>by unfold certE;rw[if_neg (by omega)];unfold vR;rw[if_neg (by omega),if_pos h2]
 have oQ:am (readyE s=0->c.kind=1->¬ (0<c.nv\/0<c.nl\/0<c.np)->walkE s c.walk≠0->certE s c=walkE s c.walk):=aa fun h h1 h2 h3=>by unfold certE;rw[if_neg (by omega)];unfold vR;rw[if_neg (by omega),if_neg h2,if_pos h3]
 have xl:am (readyE s=0->c.kind=1->¬ (0<c.nv\/0<c.nl\/0<c.np)->walkE s c.walk=0->certE s c=if iy s c.walk then 0 else 18):=aa fun h h1 h2 h3=>by
  have h4:=((nG s c.walk).1 h3).1;unfold certE;rw[if_neg (by omega)];unfold vR;rw[if_neg (by omega),if_neg h2,if_neg (by omega)];unfold iy;rw[decide_eq_true h4,Bool.true_and]
 have UC:=aa (fun (hs:SysOk s) (h:walkE s c.walk=0) B W (fU:ScAt W B s) (hl:bJ W (.slice pw c.walk.length cw) c.walk)=>qO s hs B _ c.walk (Ea h) W fU hl);have sT:am (readyE s=0->verifyE s=0):=aa rE;generalize certE s c=ce0 at dd eJ gp oQ xl ⊢;obtain⟨re,jX⟩:∃ re,readyE s=re:=⟨_,rfl⟩;rw[jX]at dd eJ gp oQ xl HC sT;obtain⟨kd,wk,nv,nl,np⟩:=c;dsimp only at *;clear jX
 go_enter Tryz.func54,Tryz.ntmps54
 go_wp2_with fail
 refine aQ (fun W=>Below w.heap.size w W/\(∃ q,W.heap[w.heap.size]?=some (.cells q 35)/\q=bZ s.prob (.slice pc s.prob.t.cases.length cc) (.slice ps s.prob.a.states.length cs) s.n (.slice pt s.tab.length ct) (.slice pe s.ex.length ce))/\W.heap[w.heap.size+1]?=some (.cells #[.int .i64 kd,.slice pw wk.length cw,.slice pv nv cv,.slice pl nl cl,.slice pp np cp] 58)) ⟨by go_grown,⟨_,aq _ (ap _ _),rfl⟩,bu _ _ _⟩ (fun W0 bd=>?_);obtain⟨aK,⟨_,bK,rfl⟩,hH⟩:=bd;refine(HC.o W0 aK).mono ?_;rintro e w1 ⟨v,rfl,aM,h2,h3⟩;have bL:=aa (ae aK aM);have gE:=aa (af aM hH);have dP:=aa (af aM bK);by_cases hr:re=0
 case neg=>
  have HV:=aa (dd.o hr);obtain rfl:=h2 hr;have F4:(re != 0)=true:=by simpa using hr
  have Wo:=aa hr;clear aK aM h2 h3 hr HC hH bK
  go_wp2_with fail
  go_ret2
  exact⟨⟨_,by rw[HV.o];rfl,fun h=>absurd (HV.o.symm.trans h) Wo.o,fun _=>rfl⟩,bL.o⟩
 obtain⟨B,rfl,hB,fU⟩:=h3 hr;have jA:=aa fU;have CE:=aa (sT.o hr);have dL:=aa (ja CE.o);subst hr;have to:=ab gE.o;clear aK aM h2 h3 HC fU hH bK;by_cases hk:kd=1
 case neg=>
  have HV:=aa (eJ.o rfl hk);have qS:(kd != 1)=true:=by simpa using hk
  clear hk
  go_wp2_with fail
  go_ret2
  exact⟨⟨_,by rw[HV.o];rfl,fun h=>by have:=HV.o;omega,fun _=>rfl⟩,bL.o⟩
 have qS:(kd != 1)=false:=by simp[hk]
 have KY:=aa hk;by_cases h1:0<nv
 ·have HV:=aa (gp.o rfl hk (.inl h1));have hd:decide ((0:Int)<(nv:Int))=true:=decide_eq_true (by omega);have gm:decide (0<nv)=true:=decide_eq_true h1;clear hk h1
  go_wp2_with fail
  go_ret2
  exact⟨⟨_,by rw[HV.o];rfl,fun h=>by have:=HV.o;omega,fun _=>rfl⟩,bL.o⟩
 have e1:decide ((0:Int)<(nv:Int))=false:=decide_eq_false (by omega);have e1':decide (0<nv)=false:=decide_eq_false h1;by_cases h2:0<nl
 ·have HV:=aa (gp.o rfl hk (.inr (.inl h2)));have hd:decide ((0:Int)<(nl:Int))=true:=decide_eq_true (by omega);have gm:decide (0<nl)=true:=decide_eq_true h2;clear hk h1 h2
  go_wp2_with fail
  go_ret2
  exact⟨⟨_,by rw[HV.o];rfl,fun h=>by have:=HV.o;omega,fun _=>rfl⟩,bL.o⟩
 have e2:decide ((0:Int)<(nl:Int))=false:=decide_eq_false (by omega);have e2':decide (0<nl)=false:=decide_eq_false h2;by_cases h3:0<np
 ·have HV:=aa (gp.o rfl hk (.inr (.inr h3)));have hd:decide ((0:Int)<(np:Int))=true:=decide_eq_true (by omega);have gm:decide (0<np)=true:=decide_eq_true h3;clear hk h1 h2 h3
  go_wp2_with fail
  go_ret2
  exact⟨⟨_,by rw[HV.o];rfl,fun h=>by have:=HV.o;omega,fun _=>rfl⟩,bL.o⟩
 have e3:decide ((0:Int)<(np:Int))=false:=decide_eq_false (by omega);have e3':decide (0<np)=false:=decide_eq_false h3;have fY:am (¬ (0<nv\/0<nl\/0<np)):=aa (by omega);have tA:=ab dP.o;clear hk h1 h2 h3
 go_wp2_with fail
 clear tA to;refine(Qc.o CE.o w1 bL.o).mono ?_;rintro e w2 ⟨rfl,aZ⟩;have cX:=aa (ae bL.o aZ);have JK:=aa (jA.o.up aZ);have to:=ab (af aZ gE.o);clear aZ;by_cases hz:walkE s wk=0
 case neg=>
  have HV:=aa (oQ.o (by first|trivial|rfl) KY.o fY.o hz);generalize walkE s wk=we at hz HV;have Lm:(we != 0)=true:=by simpa using hz
  have HNZ:=aa hz;clear hz
  go_wp2_with fail
  go_ret2
  exact⟨⟨_,by rw[HV.o];rfl,fun h=>absurd (HV.o.symm.trans h) HNZ.o,fun _=>rfl⟩,cX.o⟩
 have HV:=aa (xl.o (by first|trivial|rfl) KY.o fY.o hz);have tI:=aa (UC.o dL.o hz B);rw[hz];clear hz
 go_wp2_with fail
 clear to;refine(tI.o w2 JK.o (HWK.o.up up_link cX.o)).mono ?_;rintro e w3 ⟨rfl,bG⟩;have dT:=aa (ae cX.o bG);have Sn:=aa (JK.o.up bG);clear bG;cases hg:iy s wk with
 | true=>
  have dg:am (ce0=0):=aa (by rw[HV.o,hg];rfl);clear hg
  go_wp2_with fail
  go_ret2
  exact⟨⟨_,by rw[dg.o];rfl,fun _=>⟨B,rfl,Sn.o⟩,fun h=>absurd dg.o h⟩,dT.o⟩
 | false=>
  have dg:am (ce0=18):=aa (by rw[HV.o,hg];rfl);clear hg
  go_wp2_with fail
  go_ret2
  exact⟨⟨_,by rw[dg.o];rfl,fun h=>by have:=dg.o;omega,fun _=>rfl⟩,dT.o⟩
theorem Ak(s:Sys) (hE:eS s<=256) (vc vs vt ve vw:Value) (c:Ct) (pv:Option Addr) (cv:Nat) (pl:Option Addr) (cl:Nat) (pp:Option Addr) (cp:Nat) (w:World) (hs:IsSys w s vc vs vt ve) (hN:movesN s.prob.a.states<1099511627776) (hw:bJ w vw c.walk) :
  Calls Tryz.prog 24 #[.agg (bZ s.prob vc vs s.n vt ve),.agg #[.int .i64 c.kind,vw,.slice pv c.nv cv,.slice pl c.nl cl,.slice pp c.np cp]] w fun r w'=>r=.returned (.int .i64 (certE s c))/\Below w.heap.size w w':=by
 have HS:=aa hs;obtain⟨⟨pc,cc,rfl⟩,⟨ps,cs,rfl⟩,⟨pt,ct,rfl⟩,⟨pe,ce,rfl⟩⟩:=bM hs;obtain⟨pw,cw,rfl,lw1,lw2,_⟩:=hw.at;have HC:=aa (fun W (hb:Below w.heap.size w W)=>yh s hE _ _ _ _ _ c pv cv pl cl pp cp W (HS.o.up hb) hN (hw.up up_link hb));clear hs hw
 go_enter Tryz.func24,Tryz.ntmps24
 go_wp2_with fail
 refine aQ (fun W=>Below w.heap.size w W) (by go_grown) (fun W0 aK=>?_);refine(HC.o W0 aK).mono ?_;rintro e w1 ⟨⟨v,rfl,_,_⟩,aM⟩;have HB:=aa (ae aK aM);clear aK aM HC
 go_wp2_with fail
 go_ret
 exact⟨rfl,HB.o⟩
structure TwoBox (w:World) (n:Nat) (VS:List Value) (CA CZ CB:Array Value) (t:TypeId) (D:Nat->Bool) (x:Nat->Value) (W:World):Prop where
 below:Below w.heap.size w W
 val:∀ i,i<n->D i=true->x i=VS.getD i undef
 a:D n=true->∃ g,x n=.pointer (some ⟨g,0,none⟩)/\w.heap.size<=g/\W.heap[g]?=some (.cells (if D (n+2) then CA else CZ) t)
 b:D (n+1)=true->∃ g,x (n+1)=.pointer (some ⟨g,0,none⟩)/\w.heap.size<=g/\W.heap[g]?=some (.cells (if D (n+3) then CB else CZ) t)
 ne:D n=true->D (n+1)=true->x n≠x (n+1)
 oa:D (n+2)=true->D n=true
 ob:D (n+3)=true->D (n+1)=true
section
variable {w W : World} {n : Nat} {VS : List Value} {CA CZ CB : Array Value} {t : TypeId} {D : Nat → Bool} {x : Nat → Value}
theorem TwoBox.start(hb:Below w.heap.size w W):TwoBox w n VS CA CZ CB t (fun _=>false) x W:=by
 refine⟨hb,?_,?_,?_,?_,?_,?_⟩<;>intros<;>contradiction
theorem TwoBox.set(h:TwoBox w n VS CA CZ CB t D x W) (i:Nat) (hi:i<n) {v:Value} (_:D i=false) (hv:v=VS.getD i undef):TwoBox w n VS CA CZ CB t (bI D i) (cF x i v) W:=by
 have k:∀ j,n<=j->bI D i j=D j:=fun j hj=>by simp[bI,show j≠i by omega]
 have l:∀ j,n<=j->cF x i v j=x j:=fun j hj=>fQ _ _ (by omega)
 refine⟨h.below,fun j hj hd=>?_,?_,?_,?_,?_,?_⟩
 ·by_cases e:j=i
  ·subst e;rw[fx,hv]
  ·rw[fQ _ _ e];exact h.val j hj (by simpa[bI,e] using hd)
 ·rw[k n (by omega),k (n+2) (by omega),l n (by omega)];exact h.a
 ·rw[k (n+1) (by omega),k (n+3) (by omega),l (n+1) (by omega)];exact h.b
 ·rw[k n (by omega),k (n+1) (by omega),l n (by omega),l (n+1) (by omega)];exact h.ne
 ·rw[k n (by omega),k (n+2) (by omega)];exact h.oa
 ·rw[k (n+1) (by omega),k (n+3) (by omega)];exact h.ob
theorem TwoBox.alloc_a(h:TwoBox w n VS CA CZ CB t D x W) (hD:D n=false):TwoBox w n VS CA CZ CB t (bI D n) (cF x n (.pointer (some ⟨W.heap.size,0,none⟩))) (W.alloc (.cells CZ t)):=by
 have hz:=h.below.size;have h2:D (n+2)=false:=by cases e:D (n+2) with|false=>rfl|true=>rw[h.oa e]at hD;cases hD
 have k:∀ j,j≠n->bI D n j=D j:=fun j hj=>by simp[bI,hj]
 have l:∀ j,j≠n->cF x n (.pointer (some ⟨W.heap.size,0,none⟩)) j=x j:=fun j hj=>fQ _ _ hj
 refine⟨h.below.alloc hz _,fun j hj hd=>?_,fun _=>⟨W.heap.size,fx _ _ _,hz,?_⟩,?_,fun _ hd=>?_,?_,?_⟩
 ·rw[l j (by omega)];exact h.val j hj (by rwa [k j (by omega)]at hd)
 ·rw[k (n+2) (by omega),h2];exact ap _ _
 ·rw[k (n+1) (by omega),k (n+3) (by omega),l (n+1) (by omega)];intro hd;obtain⟨g,g1,g2,g3⟩:=h.b hd;exact⟨g,g1,g2,aq _ g3⟩
 ·rw[k (n+1) (by omega)]at hd;obtain⟨g,g1,g2,g3⟩:=h.b hd;rw[fx,l (n+1) (by omega),g1];have:=aC g3;intro e;injection e with e;injection e with e;injection e with e;omega
 ·rw[k (n+2) (by omega),h2];intro e;cases e
 ·rw[k (n+1) (by omega),k (n+3) (by omega)];exact h.ob
theorem TwoBox.alloc_b(h:TwoBox w n VS CA CZ CB t D x W) (hD:D (n+1)=false):TwoBox w n VS CA CZ CB t (bI D (n+1)) (cF x (n+1) (.pointer (some ⟨W.heap.size,0,none⟩))) (W.alloc (.cells CZ t)):=by
 have hz:=h.below.size;have h2:D (n+3)=false:=by cases e:D (n+3) with|false=>rfl|true=>rw[h.ob e]at hD;cases hD
 have k:∀ j,j≠n+1->bI D (n+1) j=D j:=fun j hj=>by simp[bI,hj]
 have l:∀ j,j≠n+1->cF x (n+1) (.pointer (some ⟨W.heap.size,0,none⟩)) j=x j:=fun j hj=>fQ _ _ hj
 refine⟨h.below.alloc hz _,fun j hj hd=>?_,?_,fun _=>⟨W.heap.size,fx _ _ _,hz,?_⟩,fun hd _=>?_,?_,?_⟩
 ·rw[l j (by omega)];exact h.val j hj (by rwa [k j (by omega)]at hd)
 ·rw[k n (by omega),k (n+2) (by omega),l n (by omega)];intro hd;obtain⟨g,g1,g2,g3⟩:=h.a hd;exact⟨g,g1,g2,aq _ g3⟩
 ·rw[k (n+3) (by omega),h2];exact ap _ _
 ·rw[k n (by omega)]at hd;obtain⟨g,g1,g2,g3⟩:=h.a hd;rw[fx,l n (by omega),g1];have:=aC g3;intro e;injection e with e;injection e with e;injection e with e;omega
 ·rw[k n (by omega),k (n+2) (by omega)];exact h.oa
 ·rw[k (n+3) (by omega),h2];intro e;cases e
theorem TwoBox.store_a(h:TwoBox w n VS CA CZ CB t D x W) (ha:D n=true) (_:D (n+2)=false) {g:Nat} (hg:x n=.pointer (some ⟨g,0,none⟩)):TwoBox w n VS CA CZ CB t (bI D (n+2)) x (W.setRow g CA):=by
 have k:∀ j,j≠n+2->bI D (n+2) j=D j:=fun j hj=>by simp[bI,hj]
 obtain⟨g',g1,g2,g3⟩:=h.a ha;obtain rfl:g'=g:=by rw[hg]at g1;injection g1 with e;injection e with e;injection e with e;exact e.symm
 refine⟨sC g2 h.below,fun j hj hd=>h.val j hj (by rwa [k j (by omega)]at hd),fun _=>⟨g',g1,g2,?_⟩,?_,?_,?_,?_⟩
 ·rw[show bI D (n+2) (n+2)=true by simp[bI]];exact ri _ _ _ _ _ g3
 ·rw[k (n+1) (by omega),k (n+3) (by omega)];intro hd;obtain⟨g4,q1,q2,q3⟩:=h.b hd;have bR:g4≠g':=fun e=>h.ne ha hd (by rw[g1,q1,e])
  exact⟨g4,q1,q2,by rw[setRow_other _ _ _ _ bR];exact q3⟩
 ·rw[k n (by omega),k (n+1) (by omega)];exact h.ne
 ·rw[k n (by omega)];exact fun _=>ha
 ·rw[k (n+1) (by omega),k (n+3) (by omega)];exact h.ob
theorem TwoBox.store_b(h:TwoBox w n VS CA CZ CB t D x W) (hb:D (n+1)=true) (_:D (n+3)=false) {g:Nat} (hg:x (n+1)=.pointer (some ⟨g,0,none⟩)):TwoBox w n VS CA CZ CB t (bI D (n+3)) x (W.setRow g CB):=by
 have k:∀ j,j≠n+3->bI D (n+3) j=D j:=fun j hj=>by simp[bI,hj]
 obtain⟨g',g1,g2,g3⟩:=h.b hb;obtain rfl:g'=g:=by rw[hg]at g1;injection g1 with e;injection e with e;injection e with e;exact e.symm
 refine⟨sC g2 h.below,fun j hj hd=>h.val j hj (by rwa [k j (by omega)]at hd),?_,fun _=>⟨g',g1,g2,?_⟩,?_,?_,?_⟩
 ·rw[k n (by omega),k (n+2) (by omega)];intro hd;obtain⟨g4,q1,q2,q3⟩:=h.a hd;have bR:g4≠g':=fun e=>h.ne hd hb (by rw[g1,q1,e])
  exact⟨g4,q1,q2,by rw[setRow_other _ _ _ _ bR];exact q3⟩
 ·rw[show bI D (n+3) (n+3)=true by simp[bI]];exact ri _ _ _ _ _ g3
 ·rw[k n (by omega),k (n+1) (by omega)];exact h.ne
 ·rw[k n (by omega),k (n+2) (by omega)];exact h.oa
 ·rw[k (n+1) (by omega)];exact fun _=>hb
end
theorem Vf{a b:Nat} (ha:a<1024) (hb:b<1024) (p:Nat):bits .or .i64 (a:Int) (b:Int)=((a ||| b:Nat):Int)/\hasB ((a ||| b:Nat):Int) p=(hasB (a:Int) p || hasB (b:Int) p):=by
 refine⟨vP _ _ (by omega) (by omega),?_⟩;rw[nD _ (by omega),nD _ (by omega),nD _ (by omega),Int.toNat_natCast,Int.toNat_natCast,Int.toNat_natCast,Nat.testBit_or]
theorem KQ{s:Sys} (hs:SysOk s) {e:Nat} (he:e<eS s):∃ a:Nat,fltS s e=a/\a<1024:=by
 have hn:=hs.n;have yE:=hs.flt e he;refine⟨(fltS s e).toNat,by omega,?_⟩;have h3:((2:Int) ^ nS s)=(((2:Nat) ^ nS s:Nat):Int):=by simp
 have h2:=yE.2;rw[h3]at h2;have h4:(2:Nat) ^ nS s<=2 ^ 5:=Nat.pow_le_pow_right (by omega) hn.2.1;omega
theorem Ko(s:Sys) (hs:SysOk s) (B e f:Nat) (he:e<eS s) (hf:f<eS s) (w:World) (fU:ScAt w B s) :
  Calls Tryz.prog 97 #[.pointer (some ⟨B,0,none⟩),.int .i64 (e:Nat),.int .i64 (f:Nat)] w fun r w'=>r=.returned (.int .i64 (maskN (fun p=>linkB s p e f) (nS s):Nat))/\Below w.heap.size w w':=by
 obtain⟨qc,qs,qt,qe,qv,ql,q1,q2,_,_⟩:=fU.ex;obtain⟨b,o,_,ce,rfl,rfl,pw,nw,cw,pv,cv,c1,c2,c3,mn,fN,gW,b2,o2,pr,cr,rfl,c4,cA⟩:=iJ hs q2.ex he;obtain⟨b',o',_,ce',e0,rfl,pw',nw',cw',pv',cv',d1,d2,d3,NO,oJ,tt,b3,o3,pr',cr',rfl,d4,mA⟩:=iJ hs q2.ex hf;injection e0 with e1 e2 e3
 injection e1 with e1
 injection e1 with e1 e4
 subst e1 e4 e3;clear e2;have hn:=hs.n;obtain⟨rr,Dq⟩:∃ rr:Nat,s.prob.rounds=rr:=⟨s.prob.rounds.toNat,by have:=hs.rounds.1;omega⟩;have FK:s.prob.rounds.toNat=rr:=by omega
 have qi:rr<=6:=by have:=hs.rounds;omega
 rw[FK]at mn NO c3 c4 d3 d4;have mn:=mn.symm;have NO:=NO.symm;subst mn;subst NO;have T6:am (w.cell? ⟨B,6,none⟩=some (.int .i64 (rr:Nat))):=aa ((ab q1 6).trans (by rw[<-Dq];rfl));have T7:am (w.cell? ⟨B,7,none⟩=some (.int .i64 (nS s:Nat))):=aa ((ab q1 7).trans (by rw[<-hn.2.2.1];rfl));have T9:am (w.cell? ⟨B,9,none⟩=some (.slice (some ⟨b,o,none⟩) (eS s) ce)):=aa ((ab q1 9).trans rfl);have C1:=aa c1;have C2:=aa c2;have C3:=aa c3;have C4:=aa c4;have D1:=aa d1;have D2:=aa d2;have D3:=aa d3;have D4:=aa d4;obtain⟨fa,CP,hfa2⟩:=KQ hs he;obtain⟨fb,XP,hfb2⟩:=KQ hs hf;have HK:am (∀ p,linkB s p e f=(!(hasB (fa:Int) p || hasB (fb:Int) p)&&decide (finS s e p=finS s f p))):=aa (fun p=>by unfold linkB;rw[CP,XP,Bool.not_or]);obtain⟨pr2,cr2,e4,erow⟩:=ef cA;injection e4 with e41 e42 e43
 subst e41 e43;obtain⟨pr3,cr3,e5,erow'⟩:=ef mA;injection e5 with e51 e52 e53
 subst e51 e53;clear e42 e52
 have R1:am (∀ p,p<nS s->∃ b o,pr=some ⟨b,o,none⟩/\w.cell? ⟨b,o+p,none⟩=some (.int .i64 (finS s e p))):=aa (fun p hp=>by
  obtain⟨b,o,e1,h1⟩:=erow p (by simpa using hp);rw[nP hp]at h1
  exact⟨b,o,e1,h1⟩)
 have R2:am (∀ p,p<nS s->∃ b o,pr'=some ⟨b,o,none⟩/\w.cell? ⟨b,o+p,none⟩=some (.int .i64 (finS s f p))):=aa (fun p hp=>by
  obtain⟨b,o,e1,h1⟩:=erow' p (by simpa using hp);rw[nP hp]at h1
  exact⟨b,o,e1,h1⟩)
 rw[CP]at fN gW;rw[XP]at oJ tt;have Lb:=aa fN;have HF0:=aa gW;have nT:=aa oJ;have HG0:=aa tt;have HM:=aa (ic (fun p=>linkB s p e f));have Fx:=aa (fun k=>@xI (fun p=>linkB s p e f) k);have vu:=aa (fun k=>@vQ (fun p=>linkB s p e f) k);have jz:nS s<=5:=hn.2.1;generalize hm:eS s=m at *;generalize fw:nS s=n at *;clear q1 q2 c1 c2 c3 c4 d1 d2 d3 d4 cA mA fN gW oJ tt Dq FK CP XP fU hn hm fw hs erow erow'
 go_enter Tryz.func97,Tryz.ntmps97
 go_wp2_with fail
 obtain⟨VS,CR⟩:∃ VS:List Value,VS=[.pointer (some ⟨B,0,none⟩),.pointer (some ⟨B,0,none⟩),.pointer (some ⟨B,0,none⟩),.pointer (some ⟨B,9,none⟩),.slice (some ⟨b,o,none⟩) m ce,.int .i64 (e:Nat),.pointer (some ⟨b,o+e * 3,none⟩),.agg #[.int .i64 (cM s e).c,.slice pw rr cw,.slice (some ⟨b2,o2,none⟩) (rr+1) cv],.pointer (some ⟨B,0,none⟩),.pointer (some ⟨B,0,none⟩),.pointer (some ⟨B,0,none⟩),.pointer (some ⟨B,9,none⟩),.slice (some ⟨b,o,none⟩) m ce,.int .i64 (f:Nat),.pointer (some ⟨b,o+f * 3,none⟩),.agg #[.int .i64 (cM s f).c,.slice pw' rr cw',.slice (some ⟨b3,o3,none⟩) (rr+1) cv']]:=⟨_,rfl⟩;have hS:List.Nodup [14,15,16,17,18,19,20,21,22,23,24,25,26,27,28,29,8,9]:=by decide
 refine pz 20 [14,15,16,17,18,19,20,21,22,23,24,25,26,27,28,29,8,9] (TwoBox w 16 VS #[.int .i64 (cM s e).c,.slice pw rr cw,.slice (some ⟨b2,o2,none⟩) (rr+1) cv] #[.int .i64 0,.slice none 0 0,.slice none 0 0] #[.int .i64 (cM s f).c,.slice pw' rr cw',.slice (some ⟨b3,o3,none⟩) (rr+1) cv'] 89) (by kernel_rfl) rfl hS (by kernel_rfl) (fun x=>TwoBox.start (by go_grown)) ?step ?free ?last
 case step=>
  intro x W D i o' s' F ho vF hD ar hc hF;have hi:i<18:=(List.getElem?_eq_some_iff.1 vF).1;rcases (show i=0\/i=1\/i=2\/i=3\/i=4\/i=5\/i=6\/i=7\/i=8\/i=9\/i=10\/i=11\/i=12\/i=13\/i=14\/i=15\/i=16\/i=17 by omega) with rfl|rfl|rfl|rfl|rfl|rfl|rfl|rfl|rfl|rfl|rfl|rfl|rfl|rfl|rfl|rfl|rfl|rfl
  all_goals (obtain rfl:=dE ho.symm;obtain rfl:=dE vF.symm;clear hi ho vF;subst CR)
  ·obtain⟨e0,f0⟩:=dr hF 0 (.pointer (some ⟨B,0,none⟩)) (by decide) rfl;clear hF ar
   go_wp2_with fail
   exact dF.mk (.pointer (some ⟨B,0,none⟩)) (hc.set 0 (by omega) hD rfl) rfl
  ·obtain⟨e0,f0⟩:=aW hF 0 14 (.pointer (some ⟨B,0,none⟩)) hS rfl (by kernel_rfl) (hc.val 0 (by omega) (ar ⟨0,.data⟩ (by simp) rfl));clear hF ar
   go_wp2_with fail
   exact dF.mk (.pointer (some ⟨B,0,none⟩)) (hc.set 1 (by omega) hD rfl) rfl
  ·obtain⟨e1,f1⟩:=aW hF 1 15 (.pointer (some ⟨B,0,none⟩)) hS rfl (by kernel_rfl) (hc.val 1 (by omega) (ar ⟨1,.data⟩ (by simp) rfl));clear hF ar
   go_wp2_with fail
   exact dF.mk (.pointer (some ⟨B,0,none⟩)) (hc.set 2 (by omega) hD rfl) rfl
  ·obtain⟨e2,f2⟩:=aW hF 2 16 (.pointer (some ⟨B,0,none⟩)) hS rfl (by kernel_rfl) (hc.val 2 (by omega) (ar ⟨2,.data⟩ (by simp) rfl));clear hF ar
   go_wp2_with fail
   exact dF.mk (.pointer (some ⟨B,9,none⟩)) (hc.set 3 (by omega) hD rfl) rfl
  ·obtain⟨e3,f3⟩:=aW hF 3 17 (.pointer (some ⟨B,9,none⟩)) hS rfl (by kernel_rfl) (hc.val 3 (by omega) (ar ⟨3,.data⟩ (by simp) rfl));have t9:=ak hc.below T9.o;clear hF ar
   go_wp2_with fail
   exact dF.mk (.slice (some ⟨b,o,none⟩) m ce) (hc.set 4 (by omega) hD rfl) rfl
  ·obtain⟨e0,f0⟩:=dr hF 1 (.int .i64 (e:Nat)) (by decide) rfl;clear hF ar
   go_wp2_with fail
   exact dF.mk (.int .i64 (e:Nat)) (hc.set 5 (by omega) hD rfl) rfl
  ·obtain⟨e4,f4⟩:=aW hF 4 18 (.slice (some ⟨b,o,none⟩) m ce) hS rfl (by kernel_rfl) (hc.val 4 (by omega) (ar ⟨4,.data⟩ (by simp) rfl));obtain⟨e5,f5⟩:=aW hF 5 19 (.int .i64 (e:Nat)) hS rfl (by kernel_rfl) (hc.val 5 (by omega) (ar ⟨5,.data⟩ (by simp) rfl));clear hF ar
   go_wp2_with fail
   exact dF.mk (.pointer (some ⟨b,o+e * 3,none⟩)) (hc.set 6 (by omega) hD rfl) rfl
  ·obtain⟨e6,f6⟩:=aW hF 6 20 (.pointer (some ⟨b,o+e * 3,none⟩)) hS rfl (by kernel_rfl) (hc.val 6 (by omega) (ar ⟨6,.data⟩ (by simp) rfl));have u1:=ak hc.below C1.o;have u2:=ak hc.below C2.o;have u3:=ak hc.below C3.o;clear hF ar
   go_wp2_with fail
   exact dF.mk (.agg #[.int .i64 (cM s e).c,.slice pw rr cw,.slice (some ⟨b2,o2,none⟩) (rr+1) cv]) (hc.set 7 (by omega) hD rfl) rfl
  ·obtain⟨e0,f0⟩:=dr hF 0 (.pointer (some ⟨B,0,none⟩)) (by decide) rfl;clear hF ar
   go_wp2_with fail
   exact dF.mk (.pointer (some ⟨B,0,none⟩)) (hc.set 8 (by omega) hD rfl) rfl
  ·obtain⟨e8,f8⟩:=aW hF 8 22 (.pointer (some ⟨B,0,none⟩)) hS rfl (by kernel_rfl) (hc.val 8 (by omega) (ar ⟨8,.data⟩ (by simp) rfl));clear hF ar
   go_wp2_with fail
   exact dF.mk (.pointer (some ⟨B,0,none⟩)) (hc.set 9 (by omega) hD rfl) rfl
  ·obtain⟨e9,f9⟩:=aW hF 9 23 (.pointer (some ⟨B,0,none⟩)) hS rfl (by kernel_rfl) (hc.val 9 (by omega) (ar ⟨9,.data⟩ (by simp) rfl));clear hF ar
   go_wp2_with fail
   exact dF.mk (.pointer (some ⟨B,0,none⟩)) (hc.set 10 (by omega) hD rfl) rfl
  ·obtain⟨e10,f10⟩:=aW hF 10 24 (.pointer (some ⟨B,0,none⟩)) hS rfl (by kernel_rfl) (hc.val 10 (by omega) (ar ⟨10,.data⟩ (by simp) rfl));clear hF ar
   go_wp2_with fail
   exact dF.mk (.pointer (some ⟨B,9,none⟩)) (hc.set 11 (by omega) hD rfl) rfl
  ·obtain⟨e11,f11⟩:=aW hF 11 25 (.pointer (some ⟨B,9,none⟩)) hS rfl (by kernel_rfl) (hc.val 11 (by omega) (ar ⟨11,.data⟩ (by simp) rfl));have t9:=ak hc.below T9.o;clear hF ar
   go_wp2_with fail
   exact dF.mk (.slice (some ⟨b,o,none⟩) m ce) (hc.set 12 (by omega) hD rfl) rfl
  ·obtain⟨e0,f0⟩:=dr hF 2 (.int .i64 (f:Nat)) (by decide) rfl;clear hF ar
   go_wp2_with fail
   exact dF.mk (.int .i64 (f:Nat)) (hc.set 13 (by omega) hD rfl) rfl
  ·obtain⟨e12,f12⟩:=aW hF 12 26 (.slice (some ⟨b,o,none⟩) m ce) hS rfl (by kernel_rfl) (hc.val 12 (by omega) (ar ⟨12,.data⟩ (by simp) rfl));obtain⟨e13,f13⟩:=aW hF 13 27 (.int .i64 (f:Nat)) hS rfl (by kernel_rfl) (hc.val 13 (by omega) (ar ⟨13,.data⟩ (by simp) rfl));clear hF ar
   go_wp2_with fail
   exact dF.mk (.pointer (some ⟨b,o+f * 3,none⟩)) (hc.set 14 (by omega) hD rfl) rfl
  ·obtain⟨e14,f14⟩:=aW hF 14 28 (.pointer (some ⟨b,o+f * 3,none⟩)) hS rfl (by kernel_rfl) (hc.val 14 (by omega) (ar ⟨14,.data⟩ (by simp) rfl));have u1:=ak hc.below D1.o;have u2:=ak hc.below D2.o;have u3:=ak hc.below D3.o;clear hF ar
   go_wp2_with fail
   exact dF.mk (.agg #[.int .i64 (cM s f).c,.slice pw' rr cw',.slice (some ⟨b3,o3,none⟩) (rr+1) cv']) (hc.set 15 (by omega) hD rfl) rfl
  ·clear hF ar
   go_wp2_with fail
   exact dF.mk (.pointer (some ⟨W.heap.size,0,none⟩)) (hc.alloc_a hD) rfl
  ·clear hF ar
   go_wp2_with fail
   exact dF.mk (.pointer (some ⟨W.heap.size,0,none⟩)) (hc.alloc_b hD) rfl
 case free=>
  intro x W D i o' F ho h6 h8 hD ar hc hF;rcases (show i=18\/i=19 by simp at h6;omega) with rfl|rfl
  ·obtain rfl:=dE ho.symm;have g7:=hc.val 7 (by omega) (ar ⟨7,.data⟩ (by simp) rfl);have gA:=ar ⟨16,.data⟩ (by simp) rfl;obtain⟨g,g1,g2,g3⟩:=hc.a gA;rw[hD]at g3;obtain⟨e7,_⟩:=aW hF 7 21 (.agg #[.int .i64 (cM s e).c,.slice pw rr cw,.slice (some ⟨b2,o2,none⟩) (rr+1) cv]) hS rfl (by kernel_rfl) (by rw[g7,CR];rfl);obtain⟨e8,_⟩:=aW hF 16 8 (.pointer (some ⟨g,0,none⟩)) hS rfl (by kernel_rfl) g1;refine wpList_store_row rfl 89 (.tmp 8) (.tmp 21) rfl g #[.int .i64 (cM s e).c,.slice pw rr cw,.slice (some ⟨b2,o2,none⟩) (rr+1) cv] e8 e7 89 _ g3 (by kernel_rfl) (by kernel_rfl) (by simp[Value.oneCell']) ?_;exact⟨rfl,hc.store_a gA hD g1⟩
  ·obtain rfl:=dE ho.symm;have g7:=hc.val 15 (by omega) (ar ⟨15,.data⟩ (by simp) rfl);have gA:=ar ⟨17,.data⟩ (by simp) rfl;obtain⟨g,g1,g2,g3⟩:=hc.b gA;rw[hD]at g3;obtain⟨e7,_⟩:=aW hF 15 29 (.agg #[.int .i64 (cM s f).c,.slice pw' rr cw',.slice (some ⟨b3,o3,none⟩) (rr+1) cv']) hS rfl (by kernel_rfl) (by rw[g7,CR];rfl);obtain⟨e8,_⟩:=aW hF 17 9 (.pointer (some ⟨g,0,none⟩)) hS rfl (by kernel_rfl) g1;refine wpList_store_row rfl 89 (.tmp 9) (.tmp 29) rfl g #[.int .i64 (cM s f).c,.slice pw' rr cw',.slice (some ⟨b3,o3,none⟩) (rr+1) cv'] e8 e7 89 _ g3 (by kernel_rfl) (by kernel_rfl) (by simp[Value.oneCell']) ?_;exact⟨rfl,hc.store_b gA hD g1⟩
 case last=>
  intro x W1 D F aT hc hF;obtain⟨g1,a1,a2,a3⟩:=hc.a (aT 16 (by omega));obtain⟨g2,z1,z2,z3⟩:=hc.b (aT 17 (by omega));rw[aT 18 (by omega)]at a3;rw[aT 19 (by omega)]at z3;have bL:=aa hc.below;have nT:=aa a3;have rX:=aa z3;clear hc aT CR hS a2 a3 z2 z3;simp only[bC,da,List.setIfInBounds_toArray,List.set_cons_succ,List.set_cons_zero,Nat.reduceAdd]at hF;simp only[a1,z1]at hF;generalize x 0=s0,x 1=s1,x 2=s2,x 3=s3,x 4=s4,x 5=s5,x 6=s6,x 7=s7,x 8=s8,x 9=s9,x 10=s10,x 11=s11,x 12=s12,x 13=s13,x 14=s14,x 15=s15 at hF;subst hF;clear a1 z1;have t7:=ak bL.o T7.o
  go_wp2_with fail
  clear t7
  go_loopw [7,36] (fun v i wr=>∃ k:Nat,k<=n/\i=.int .i64 k/\v=.int .i64 (maskN (fun p=>linkB s p e f) k:Nat)/\Below w.heap.size w wr/\wr.heap[g1]?=some (.cells #[.int .i64 (cM s e).c,.slice pw rr cw,.slice (some ⟨b2,o2,none⟩) (rr+1) cv] 89)/\wr.heap[g2]?=some (.cells #[.int .i64 (cM s f).c,.slice pw' rr cw',.slice (some ⟨b3,o3,none⟩) (rr+1) cv'] 89)) (fun _ i _=>n - (intOf i).toNat)
  ·exact⟨0,by omega,rfl,rfl,bL.o,nT.o,rX.o⟩
  ·
   clear bL nT rX;obtain⟨k,hk,rfl,rfl,aA,ha,hc⟩:=hrel;have aY:=aa aA;have HA:=aa ha;have HC:=aa hc;by_cases aB:k<n
   ·have fX:maskN (fun p=>linkB s p e f) k<1024:=by
     have h1:=HM.o k;have h2:(2:Nat) ^ k<=2 ^ 5:=Nat.pow_le_pow_right (by omega) (by omega);omega
    obtain⟨b6,o6,rfl,c6⟩:=R1.o k aB;obtain⟨b7,o7,rfl,c7⟩:=R2.o k aB;have HL:=aa (HK.o k);obtain⟨xe,hxe⟩:∃ xe,finS s e k=xe:=⟨_,rfl⟩;obtain⟨xf,hxf⟩:∃ xf,finS s f k=xf:=⟨_,rfl⟩;rw[hxe]at c6 HL;rw[hxf]at c7 HL;have tA:=ab ha;have tB:=ab hc;have t6:=ak aA T6.o;have y4:∀ z:ExtW wr,z.val.cell? ⟨b2,o2+rr,none⟩=_:=fun z=>ak (ae aY.o z.ext) C4.o
    have y5:∀ z:ExtW wr,z.val.cell? ⟨b3,o3+rr,none⟩=_:=fun z=>ak (ae aY.o z.ext) D4.o
    have y6:∀ z:ExtW wr,z.val.cell? ⟨b6,o6+k,none⟩=_:=fun z=>ak (ae aY.o z.ext) c6
    have y7:∀ z:ExtW wr,z.val.cell? ⟨b7,o7+k,none⟩=_:=fun z=>ak (ae aY.o z.ext) c7
    have yA:∀ z:ExtW wr,∀ j,z.val.cell? ⟨g1,j,none⟩=_:=fun z=>ab (af z.ext HA.o)
    have yB:∀ z:ExtW wr,∀ j,z.val.cell? ⟨g2,j,none⟩=_:=fun z=>ab (af z.ext HC.o)
    clear aA ha hc c6 c7 hxe hxf;generalize QA:maskN (fun p=>linkB s p e f) k=mk at fX ⊢;by_cases h0:rr=0
    ·have e1:=HF0.o h0;have e2:=HG0.o h0;have e1:fa=0:=by omega
     have e2:fb=0:=by omega
     subst h0 e1 e2;have HL:am (linkB s k e f=(!hasB (0:Int) k&&decide (xe=xf))):=aa (by rw[HL.o];simp);simp only[Nat.add_zero]at y4 y5;clear Lb nT HF0 HG0;have gJ:(bits .and .i64 0 1 == 0)=true:=by decide
     have hh:hasB (0:Int) k=false:=by unfold hasB;simp
     have CO:am (linkB s k e f=decide (xe=xf)):=aa (by rw[HL.o,hh];rfl);clear hh;by_cases hx:xe=xf
     ·subst hx;have HB:am (linkB s k e f=true):=aa (by rw[CO.o];simp);clear CO
      go_wp2_with fail
      refine aF (by kernel_rfl) (by kernel_rfl) ?_
      repeat (go_big_quiet_step (fail))
      refine wpQuiet_nil ?_;rintro _ ⟨xq,rfl⟩;have bW:=aa xq.ext;clear t6 yA yB y4 y5 y6 y7
      go_wp2_with fail
      go_roundw
      ·exact⟨k+1,by omega,by go_num,rk (by rw[<-Fx.o k HB.o,QA];exact ui (by omega) (by omega)),ae aY.o bW.o,af bW.o HA.o,af bW.o HC.o⟩
      ·simp[intOf];omega
     ·have dJ:(xe == xf)=false:=by simpa using hx
      have ed:decide (xe=xf)=false:=decide_eq_false hx;have HB:am (linkB s k e f=false):=aa (by rw[CO.o,ed]);clear hx
      go_wp2_with fail
      refine aF (by kernel_rfl) (by kernel_rfl) ?_
      repeat (go_big_quiet_step (fail))
      refine wpQuiet_nil ?_;rintro _ ⟨xq,rfl⟩;have bW:=aa xq.ext;clear t6 yA yB y4 y5 y6 y7
      go_wp2_with fail
      go_roundw
      ·exact⟨k+1,by omega,by go_num,by rw[<-vu.o k HB.o,QA],ae aY.o bW.o,af bW.o HA.o,af bW.o HC.o⟩
      ·simp[intOf];omega
    ·obtain⟨q,rfl⟩:∃ q,rr=q+1:=⟨rr - 1,by omega⟩;obtain⟨b8,o8,rfl,c8⟩:=Lb.o (by omega);obtain⟨b9,o9,rfl,c9⟩:=nT.o (by omega);rw[Nat.add_sub_cancel]at c8 c9;have t8:∀ z:ExtW wr,z.val.cell? ⟨b8,o8+q * 7+6,none⟩=_:=fun z=>ak (ae aY.o z.ext) c8
     have t9:∀ z:ExtW wr,z.val.cell? ⟨b9,o9+q * 7+6,none⟩=_:=fun z=>ak (ae aY.o z.ext) c9
     obtain⟨hor,Jg⟩:=Vf hfa2 hfb2 k;rw[<-Jg]at HL;clear c8 c9 Jg
     go_wp2_with fail
     refine aF (by kernel_rfl) (by kernel_rfl) ?_
     repeat (go_big_quiet_step (fail))
     refine wpQuiet_nil ?_;rintro _ ⟨x9,rfl⟩;have t6:=ak x9.ext t6;have y4:=fun z:ExtW x9.val=>y4 ⟨z.val,ae x9.ext z.ext⟩
     have y5:=fun z:ExtW x9.val=>y5 ⟨z.val,ae x9.ext z.ext⟩
     have y6:=fun z:ExtW x9.val=>y6 ⟨z.val,ae x9.ext z.ext⟩
     have y7:=fun z:ExtW x9.val=>y7 ⟨z.val,ae x9.ext z.ext⟩
     have yA:=fun (z:ExtW x9.val) j=>yA ⟨z.val,ae x9.ext z.ext⟩ j
     have yB:=fun (z:ExtW x9.val) j=>yB ⟨z.val,ae x9.ext z.ext⟩ j
     dsimp only at y4 y5 y6 y7 yA yB;clear t8 t9 tA tB;have gJ:=sp (((fa ||| fb:Nat):Int)) k;cases hh:hasB (((fa ||| fb:Nat):Int)) k with
     | true=>
      have HB:am (linkB s k e f=false):=aa (by rw[HL.o,hh];rfl);rw[hh]at gJ;clear hh
      go_wp2_with fail
      refine aF (by kernel_rfl) (by kernel_rfl) ?_
      repeat (go_big_quiet_step (fail))
      refine wpQuiet_nil ?_;rintro _ ⟨xq,rfl⟩;have bW:=aa (ae x9.ext xq.ext);clear t6 yA yB y4 y5 y6 y7
      go_wp2_with fail
      go_roundw
      ·exact⟨k+1,by omega,by go_num,by rw[<-vu.o k HB.o,QA],ae aY.o bW.o,af bW.o HA.o,af bW.o HC.o⟩
      ·simp[intOf];omega
     | false=>
      rw[hh]at gJ;have CO:am (linkB s k e f=decide (xe=xf)):=aa (by rw[HL.o,hh];rfl);clear hh;by_cases hx:xe=xf
      ·subst hx;have HB:am (linkB s k e f=true):=aa (by rw[CO.o];simp);clear CO
       go_wp2_with fail
       refine aF (by kernel_rfl) (by kernel_rfl) ?_
       repeat (go_big_quiet_step (fail))
       refine wpQuiet_nil ?_;rintro _ ⟨xq,rfl⟩;have bW:=aa (ae x9.ext xq.ext);clear t6 yA yB y4 y5 y6 y7
       go_wp2_with fail
       go_roundw
       ·exact⟨k+1,by omega,by go_num,rk (by rw[<-Fx.o k HB.o,QA];exact ui (by omega) (by omega)),ae aY.o bW.o,af bW.o HA.o,af bW.o HC.o⟩
       ·simp[intOf];omega
      ·have dJ:(xe == xf)=false:=by simpa using hx
       have ed:decide (xe=xf)=false:=decide_eq_false hx;have HB:am (linkB s k e f=false):=aa (by rw[CO.o,ed]);clear hx
       go_wp2_with fail
       refine aF (by kernel_rfl) (by kernel_rfl) ?_
       repeat (go_big_quiet_step (fail))
       refine wpQuiet_nil ?_;rintro _ ⟨xq,rfl⟩;have bW:=aa (ae x9.ext xq.ext);clear t6 yA yB y4 y5 y6 y7
       go_wp2_with fail
       go_roundw
       ·exact⟨k+1,by omega,by go_num,by rw[<-vu.o k HB.o,QA],ae aY.o bW.o,af bW.o HA.o,af bW.o HC.o⟩
       ·simp[intOf];omega
   ·obtain rfl:k=n:=by omega
    clear aA ha hc
    go_wp2_with fail
    go_ret
    exact⟨rfl,aY.o⟩
theorem Fk{W:World} {B:Nat} {now:List Int} {n:Nat} (hl:now.length=n) (hn:n<=65536) (h:W.heap[B]?=some (.cells (bD now) 3)) (hr:∀ x∈now,bS x):aX W (.slice (some ⟨B,0,none⟩) n n) now:=by
 subst hl;refine⟨some ⟨B,0,none⟩,now.length,rfl,⟨Nat.le_refl _,by omega,fun e=>by cases e⟩,by omega,fun i x hx=>⟨B,0,rfl,?_⟩⟩;obtain⟨hi,rfl⟩:=List.getElem?_eq_some_iff.1 hx;refine⟨?_,hr _ (List.getElem_mem hi)⟩;rw[ab h,Nat.zero_add,Nat.mul_one];simp[bD,hi]
theorem Vg{s:Sys} (hv:verifyE s=0):0<s.tab.length:=by
 have hs:=ja hv;have h1:=lK hs (zA hv) (p:=0) hs.n.1;omega
theorem pS(s:Sys) (e:Nat) (out:List Int):∀ p,(gq s e out p).length=out.length
 | 0=>rfl
 | p+1=>by
  rw[gq];split
  ·exact pS s e out p
  ·rw[List.length_set];exact pS s e out p
theorem wu(s:Sys):∀ e,(fR s e).length=s.tab.length
 | 0=>by simp[fR]
 | e+1=>by rw[fR,pS,wu s e]
theorem Vh{s:Sys} (ho:oS s<=8):(∀ e,e<=eS s->∀ x∈fR s e,bS x):=by
 have hp:∀ e,e<eS s->∀ out:List Int,(∀ x∈out,bS x)->∀ p,∀ x∈gq s e out p,bS x:=by
  intro e he out uZ p;induction p with
  | zero=>exact uZ
  | succ p ih=>
   rw[gq];split
   ·exact ih
   ·intro x hx;rcases List.mem_or_eq_of_mem_set hx with h|h
    ·exact ih x h
    ·rw[h];unfold choiceS;rw[nP he];exact uQ s _ ho
 intro e;induction e with
 | zero=>intro _ x hx;rw[fR]at hx;rw[List.eq_of_mem_replicate hx];exact⟨by decide,by decide⟩
 | succ e ih=>intro he;rw[fR];exact hp e (by omega) _ (ih (by omega)) _
theorem Al{s:Sys} (h0:0<eS s) (k:Nat) (hk:k<=nO s):∃ e,e<eS s/\(partsS s).getD e 0=k:=by
 obtain⟨i,hi,e⟩:=Bg (partsS s) ((partsS s).length - 1);rw[dN]at hi;have h1:=(Cn h0).1;rw[e]at h1;by_cases h2:k=nO s
 ·exact⟨i,by omega,by rw[h1,h2]⟩
 ·obtain⟨j,hj,h3⟩:=vO (wm s (nS s - 1)) i (by rw[gO];omega) (k:Int) (by omega) (by have h4:(eo s (nS s - 1)).getD i 0=(nO s:Int):=h1;omega);exact⟨j,by omega,h3⟩
theorem Pr{s:Sys} (h0:0<eS s):(jb s).contains (-1)=true↔-1∈choiceS s:=by
 rw[List.contains_iff_mem];unfold jb kN choiceS;simp only[List.mem_map,List.mem_range];constructor
 ·rintro⟨k,hk,h1⟩;obtain⟨e,he,h2⟩:=Al h0 k (by omega);exact⟨e,he,by rw[h2];exact h1⟩
 ·rintro⟨e,he,h1⟩;have h2:=qf h0 e he;have h3:=(kM s e he).1;exact⟨((partsS s).getD e 0).toNat,by omega,by rw[show ((((partsS s).getD e 0).toNat:Nat):Int)=(partsS s).getD e 0 by omega];exact h1⟩
def MD(u:Value) (ok:Bool) (e:Int):Value:=.tuple #[.agg #[u],.bool ok,.int .i64 e]
theorem rF(tmps:Array Value) (B:Nat) (W:World) (u:Value) (ok:Bool) (e:Int) (h2:tmps[2]?.getD undef=.pointer (some ⟨B,0,none⟩)) (h3:tmps[3]?.getD undef=.bool ok) (h4:tmps[4]?.getD undef=.int .i64 e)
  (hB:W.heap[B]?=some (.cells #[u] 49)):(results Tryz.f16 tmps).run Tryz.prog W=.ok (MD u ok e) W:=by
 have t2:=ab hB 0;simp at t2;simp[results,Tryz.results16,go_sem,h2,h3,h4,t2,MD]
theorem Ps(s:Sys) (hE:eS s<=256) (vc vs vt ve:Value) (w:World) (hT:iA w) (hs:IsSys w s vc vs vt ve) (hN:movesN s.prob.a.states<1099511627776) :
  Calls Tryz.prog 16 #[.agg (bZ s.prob vc vs s.n vt ve)] w fun r w'=>∃ u,r=.returned (MD u (ruleR s).2.1 (ruleR s).2.2)/\aX w' u (ruleR s).1/\Below w.heap.size w w':=by
 have HS:=aa hs;have HT:=aa hT;obtain⟨⟨pc,cc,rfl⟩,⟨ps,cs,rfl⟩,⟨pt,ct,rfl⟩,⟨pe,ce,rfl⟩⟩:=bM hs;clear hs hT;have HC:=aa (fun W (hb:Below w.heap.size w W)=>nN s hE _ _ _ _ W (HS.o.up hb) hN)
 have oV:am (readyE s=0->verifyE s=0):=aa fun h=>by
  unfold readyE at h;split at h
  ·rename_i h1;exact absurd h h1
  ·omega
 have dd:am (readyE s≠0->ruleR s=([],false,readyE s)):=aa fun h=>by unfold ruleR;rw[if_pos h]
 have eJ:am (readyE s=0->-1∈choiceS s->ruleR s=([],false,0)):=aa fun h h2=>by unfold ruleR;rw[if_neg (by omega),if_pos h2]
 have gp:am (readyE s=0->¬ -1∈choiceS s->ruleR s=(fR s (eS s),true,0)):=aa fun h h2=>by unfold ruleR;rw[if_neg (by omega),if_neg h2]
 generalize ruleR s=vr at dd eJ gp ⊢;obtain⟨re,jX⟩:∃ re,readyE s=re:=⟨_,rfl⟩;rw[jX]at dd eJ gp HC oV;clear jX
 go_enter Tryz.func16,Tryz.ntmps16
 go_wp2_with fail
 refine aQ (fun W=>Below w.heap.size w W/\W.heap[w.heap.size+1]?=some (.cells #[.slice none 0 0] 49)/\∃ c,W.heap[w.heap.size]?=some (.cells c 35)/\c=bZ s.prob (.slice pc s.prob.t.cases.length cc) (.slice ps s.prob.a.states.length cs) s.n (.slice pt s.tab.length ct) (.slice pe s.ex.length ce)) ⟨by go_grown,bu _ _ _,_,aq _ (ap _ _),rfl⟩ (fun W0 bd=>?_);obtain⟨aK,hH,_,bK,rfl⟩:=bd;refine(HC.o W0 aK).mono ?_;rintro e w1 ⟨v,rfl,aM,h2,h3⟩;have bL:=aa (ae aK aM);have gE:=aa (af aM hH);have dP:=aa (af aM bK);have fT:=aC gE.o;by_cases hr:re=0
 case neg=>
  have HV:=aa (dd.o hr);obtain rfl:=h2 hr;have F4:(re != 0)=true:=by simpa using hr
  have to:=ab gE.o 0;have zo:=aH gE.o 0;simp at to;clear aK aM h2 h3 hr HC hH bK
  go_wp2_with fail
  exact bodyPost_ret (rF _ (w.heap.size+1) _ (.slice none 0 0) false re rfl rfl rfl (aI gE.o 0 _)) rfl ⟨_,by rw[HV.o],by rw[HV.o];exact mL _,bL.o.setCell (by dsimp only;omega) _⟩
 obtain⟨B,rfl,hB,fU⟩:=h3 hr;have jA:=aa fU;have dg:=aa (eJ.o hr);have rL:=aa (gp.o hr);have sT:=aa (oV.o hr);have dL:=aa (ja sT.o);have HP:=aa (zA sT.o);subst hr;clear aK aM h2 h3 HC fU hH bK
 go_wp2_with fail
 refine(uk s dL.o HP.o hE B w1 jA.o (HT.o.up bL.o)).mono ?_;rintro e w2 ⟨u,rfl,hu,aZ⟩;have HU:=aa hu;have cX:=aa (ae bL.o aZ);have eP:=aa (af aZ gE.o);have sX:=aa (af aZ dP.o);have JK:=aa (jA.o.up aZ);obtain⟨pu,cu,rfl,eu⟩:=ef hu;have EU:=aa eu;obtain⟨cn,Dp⟩:∃ cn,(jb s).length=cn:=⟨_,rfl⟩;rw[Dp]at EU HU ⊢;have HCN:=aa Dp;clear hu aZ eu Dp jA gE dP
 go_wp2_with fail
 refine(Bc _ (jb s) (-1) w2 HU.o).mono ?_;rintro e w3 ⟨rfl,bG⟩;have dT:=aa (ae cX.o bG);have HB23:=aa bG;have lM:=aa (af bG eP.o);have FU:=aa (af bG sX.o);have Sn:=aa (JK.o.up bG);have HU3:=aa (HU.o.up up_int bG);have X9:=aa (Pr HP.o);cases Ug:(jb s).contains (-1) with
 | true=>
  have HV:=aa (dg.o (X9.o.1 Ug));have to:=ab lM.o 0;have zo:=aH lM.o 0;simp at to;clear Ug bG
  go_wp2_with fail
  exact bodyPost_ret (rF _ (w.heap.size+1) _ (.slice none 0 0) false 0 rfl rfl rfl (aI lM.o 0 _)) rfl ⟨_,by rw[HV.o],by rw[HV.o];exact mL _,dT.o.setCell (by dsimp only;omega) _⟩
 | false=>
  have HV:=aa (rL.o (fun h=>by have:=X9.o.2 h;rw[Ug]at this;cases this));clear Ug bG JK eP sX cX HU;have tA:∀ o' j,(w3.alloc o').cell? ⟨w.heap.size,j,none⟩=_:=fun o' j=>ab (aq o' FU.o) j
  have htp:=Vg sT.o;have Qy:=dL.o.tab;have BF:am (∀ n:Nat,fC n (fun _=>(-1:Int)) n=bD (List.replicate n (-1))):=aa fun n=>by rw[p9];simp[List.map_const']
  go_wp2_with fail
  refine(v7 (-1) s.tab.length htp Qy w3.heap.size _ (ap _ _)).mono ?_;rintro e w4 ⟨rfl,CJ,bO⟩;have hb34:Below w3.heap.size w3 w4:=ae (by go_grown) bO;have hRl:=aC CJ;rw[show (w3.alloc (.cells #[.int .i64 (-1)] 3)).heap.size=w3.heap.size+1 by simp]at CJ hRl ⊢;obtain⟨R,hR⟩:∃ R,w3.heap.size+1=R:=⟨_,rfl⟩;rw[hR]at CJ hRl ⊢;have Dt:w3.heap.size<R:=by omega
  have hR4':w4.heap[R]?=some (.cells (bD (fR s 0)) 3):=by rw[CJ];unfold xC;rw[BF.o];rfl
  have oQ:=aa hR4';have HB34:=aa hb34;have tA4:=ab (af hb34 FU.o);clear bO hR CJ hR4' tA BF;have F2:=aa HS.o.ex;have HK:am (∀ k,k<eS s->_):=aa (fun k (hk:k<eS s)=>iJ dL.o F2.o hk);obtain⟨qc,qs,qt,qe,qv,ql,q1,_,_,q2⟩:=Sn.o.ex;obtain⟨pl,cl,rfl,el⟩:=ef q2;rw[dN]at el q1;have EL:=aa el;have Ly:am (w3.cell? ⟨B,11,none⟩=some (.slice pl (eS s) cl)):=aa ((ab q1 11).trans rfl);have HBR3:=aa (aC q1);have qU:am (∀ k,k<eS s->0<=(partsS s).getD k 0/\((partsS s).getD k 0).toNat<(jb s).length/\(jb s).getD ((partsS s).getD k 0).toNat 0=(choiceS s).getD k 0):=aa fun k hk=>⟨(kM s k hk).1,by have:=qf HP.o k hk;rw[show (jb s).length=nO s+1 by simp[jb,kN]];omega,Pp HP.o k hk⟩
  have HFN:am (∀ k p,k<eS s->p<nS s->0<=finS s k p/\finS s k p<s.tab.length):=aa fun k p hk hp=>lK dL.o hk hp
  have jf:am (∀ x∈fR s (eS s),bS x):=aa (Vh dL.o.outs.2.1 _ (Nat.le_refl _));have WI:am (∀ k,(fR s k).length=s.tab.length):=aa (wu s);have HRP:am (∀ k p,(gq s k (fR s k) p).length=s.tab.length):=aa fun k p=>by rw[pS,wu]
  have PQ:=aa (fun k (hk:k<eS s) W (hb:Below w.heap.size w W)=>RM s sT.o k hk _ _ _ _ W (HS.o.up hb) hN);have jU:s.ex.length=eS s:=rfl;rw[jU]at tA4 FU PQ F2;obtain⟨m,hm⟩:∃ m,eS s=m:=⟨_,rfl⟩;have HM:=aa hm;have jz:=dL.o.n.2.1;have qi:=dL.o.rounds.2;obtain⟨rr,Dq⟩:∃ rr:Nat,s.prob.rounds=rr:=⟨s.prob.rounds.toNat,by have:=dL.o.rounds.1;omega⟩;have Lf:=aa Dq;have FK:s.prob.rounds.toNat=rr:=by omega
  rw[FK]at HK;clear FK;rw[hm]at hE HK EL Ly qU HFN jf PQ tA4 FU;clear jU q1 q2 el hm Dq
  go_wp2_with fail
  clear tA4
  go_loopw [38] (fun i wr=>∃ k:Nat,k<=m/\i=.int .i64 k/\Below w3.heap.size w3 wr/\wr.heap[R]?=some (.cells (bD (fR s k)) 3)) (fun i _=>m - (intOf i).toNat)
  ·exact⟨0,by omega,rfl,HB34.o,oQ.o⟩
  ·
   clear oQ HB34;obtain⟨k,hk,rfl,aA,hR⟩:=hrel;have aY:=aa aA;have Gb:=aa hR;have eN:=aa (ae dT.o aA);have Xb:=aa (af aA FU.o);have hRl2:=aC hR;by_cases aB:k<m
   ·obtain⟨b,o,_,ce',e0,rfl,pw,nw,cw,pv,cv,c1,c2,c3,-,-,-,b2,o2,pr,cr,rfl,c4,cA⟩:=HK.o k aB;injection e0 with e01 e02 e03
    subst e01;clear e02 e03;obtain⟨pr2,cr2,e4,erow⟩:=ef cA;injection e4 with e41 e42 e43
    subst e41 e43;clear e42
    have ku:am (∀ p,p<nS s->∃ b o,pr=some ⟨b,o,none⟩/\w.cell? ⟨b,o+p,none⟩=some (.int .i64 (finS s k p))):=aa (fun p hp=>by
     obtain⟨b,o,e1,h1⟩:=erow p (by simpa using hp);rw[nP hp]at h1
     exact⟨b,o,e1,h1⟩)
    have d1:=ak eN.o c1;have d2:=ak eN.o c2;have d3:=ak eN.o c3;have XG:=aa c4;have tA:∀ o' j,(wr.alloc o').cell? ⟨w.heap.size,j,none⟩=_:=fun o' j=>ab (aq o' Xb.o) j
    clear aA hR c1 c2 c3 c4 cA erow
    go_wp2_with fail
    clear tA d1 d2 d3;refine aQ (fun W=>Below wr.heap.size wr W/\W.heap[wr.heap.size]?=some (.cells #[.int .i64 (cM s k).c,.slice pw nw cw,.slice (some ⟨b2,o2,none⟩) (rr+1) cv] 89)) ⟨by go_grown,ap _ _⟩ (fun W5 hW5=>?_);obtain⟨dB,hX5⟩:=hW5;refine(PQ.o k aB W5 (ae eN.o dB)).mono ?_;rintro r w5 ⟨rfl,ip⟩;have pM:=ae dB ip;have tX:=ab (af ip hX5);have tA5:w5.cell? ⟨w.heap.size,6,none⟩=some (.int .i64 rr):=(ab (af pM Xb.o) 6).trans (by rw[<-Lf.o];rfl);have tv:=ak (ae eN.o pM) XG.o;have kL:=aa (ae aY.o pM);have xl:=aa (af pM Gb.o);obtain⟨wrA,lN⟩:∃ x,x=wr:=⟨_,rfl⟩;subst lN;obtain⟨g,hg⟩:∃ g,wrA.heap.size=g:=⟨_,rfl⟩;rw[hg]at tX ⊢;clear dB ip hX5 pM hg
    go_wp2_with fail
    clear tX tA5 tv
    go_loopw [61] (fun i wr=>∃ p:Nat,p<=nS s/\i=.int .i64 p/\Below w3.heap.size w3 wr/\wr.heap[R]?=some (.cells (bD (gq s k (fR s k) p)) 3)) (fun i _=>nS s - (intOf i).toNat)
    ·exact⟨0,by omega,rfl,kL.o,xl.o⟩
    ·
     clear kL xl;obtain⟨p,hp,rfl,aA,hR⟩:=hrel;have ff:=aa aA;have AT:=aa hR;by_cases FS:p<nS s
     ·obtain⟨b3,o3,rfl,c6⟩:=ku.o p FS;obtain⟨z0,z1⟩:=HFN.o k p aB FS;obtain⟨z,hz⟩:∃ z:Nat,finS s k p=z:=⟨(finS s k p).toNat,by omega⟩;rw[hz]at c6 z1;have HZ:=aa hz;have d6:=ak (ae dT.o aA) c6;have gJ:=ra ((oblM s k:Nat):Int) p;have Jg:hasB ((oblM s k:Nat):Int) p=!hasB (fltS s k) p:=by unfold oblM;rw[mS,decide_eq_true FS,Bool.true_and]
      rw[Jg]at gJ;have hp30:p<=30:=by omega
      have zt:z<s.tab.length:=by omega
      have HRL2:=aa (HRP.o k p);clear c6 z0 z1 hz Jg;cases hb:hasB (fltS s k) p with
      | true=>
       have gt:am (gq s k (fR s k) (p+1)=gq s k (fR s k) p):=aa (by rw[gq,if_pos hb]);rw[hb]at gJ;clear hb aA hR
       go_wp2_with fail
       go_roundw
       ·exact⟨p+1,by omega,by go_num,ff.o,by rw[gt.o];exact AT.o⟩
       ·simp[intOf];omega
      | false=>
       have gt:am (gq s k (fR s k) (p+1)=(gq s k (fR s k) p).set z ((choiceS s).getD k 0)):=aa (by rw[gq,if_neg (by rw[hb];simp),HZ.o,Int.toNat_natCast]);rw[hb]at gJ;obtain⟨g1,g2,g3⟩:=qU.o k aB;obtain⟨n,hn⟩:∃ n:Nat,(partsS s).getD k 0=n:=⟨((partsS s).getD k 0).toNat,by omega⟩;rw[hn,Int.toNat_natCast,HCN.o]at g2;rw[hn,Int.toNat_natCast]at g3;obtain⟨b4,o4,rfl,c7⟩:=EL.o k aB;rw[hn]at c7;have d7:=ak aA c7;obtain⟨b5,o5,rfl,c8⟩:=EU.o n g2;rw[g3]at c8;have d8:=ak (ae HB23.o aA) c8;have tl:=ak aA Ly.o;have tR:=ab hR z;rw[gi _ _ (by rw[HRL2.o];exact zt)]at tR;have zR:=aH hR z;generalize (choiceS s).getD k 0=x at d8 gt;generalize (gq s k (fR s k) p).getD z 0=y at tR;clear hb aA hR g1 g3 hn c7 c8
       go_wp2_with fail
       go_roundw
       ·exact⟨p+1,by omega,by go_num,ff.o.setCell (by dsimp only;omega) _,by rw[aI AT.o,l6,gt.o]⟩
       ·simp[intOf];omega
     ·obtain rfl:p=nS s:=by omega
      clear aA hR
      go_wp2_with fail
      go_roundw
      ·exact⟨k+1,by omega,by go_num,ff.o,AT.o⟩
      ·simp[intOf];omega
   ·obtain rfl:k=m:=by omega
    have to:=ab (af aA lM.o) 0;have zo:=aH (af aA lM.o) 0;simp at to;have Qa:=aa (af aA lM.o);clear aA hR
    go_wp2_with fail
    refine bodyPost_ret (rF _ (w.heap.size+1) _ (.slice (some ⟨R,0,none⟩) s.tab.length s.tab.length) true 0 rfl rfl rfl (aI Qa.o 0 _)) rfl ⟨_,by rw[HV.o],?_,eN.o.setCell (by dsimp only;omega) _⟩;rw[HV.o,HM.o];exact Fk (WI.o k) (by omega) (aO Gb.o (by have:=aC lM.o;omega) _ _) jf.o
theorem ME(n:Nat) (hn:n<=4096) (x:Int) (w:World) :
  Calls Tryz.prog 45 #[.int .i64 n,.int .i64 x] w fun r w'=>∃ u,r=.returned u/\aJ w' w.heap.size 3 1 u n ((List.replicate n x).map (Value.int .i64))/\Below w.heap.size w w':=by
 obtain⟨i0,df,cH,cj,cI⟩:=info_parts Tryz.infoInt;have cG:=aa (And.intro df (And.intro cH (And.intro cj cI)));clear df cH cj cI;have eF:am (∀ k,List.replicate (k+1) x=List.replicate k x++[x]):=aa fun k=>List.replicate_succ'
 go_enter Tryz.func45,Tryz.ntmps45
 go_wp2_with fail
 go_loopw [5,6] (fun o i wr=>∃ k:Nat,k<=n/\i=.int .i64 k/\Below w.heap.size w wr/\aJ wr w.heap.size 3 1 o k ((List.replicate k x).map (Value.int .i64))) (fun _ i _=>n - (intOf i).toNat)
 ·exact⟨0,by omega,rfl,Below.refl _ _,aJ.nil _ _ _ _⟩
 ·
  obtain⟨k,hk,rfl,aA,bg⟩:=hrel;obtain⟨al,cl2,rfl⟩:=bg.slice;have bP:=aa bg;have aY:=aa aA;clear bg aA;by_cases aB:k<n
  ·have dm:=aa (bP.o.up ((Below.refl _ wr).alloc (Nat.le_refl _) (.cells #[.int .i64 x] 3)));have bE:=aa (dU wr [.int .i64 x] 3);have lE:am (k+1<=maxLen):=aa (by unfold maxLen;omega);have rQ:am ((k+1) * 8<=140737488355328):=aa (by omega);have gC:am (w.heap.size<=(wr.alloc (.cells #[.int .i64 x] 3)).heap.size):=aa (by have:=aY.o.size;simp;omega)
   go_wp2_with (at_builtin;(refine bh _ rfl (.tmp 12) (.tmp 14) 38 rfl w.heap.size 3 i0 _ 1 8 Tryz.underlying38 cG.o.1 cG.o.2.1 cG.o.2.2.1 cG.o.2.2.2 rfl (by decide) _ k _ rfl dm.o ⟨wr.heap.size,0,none⟩ 1 1 [.int .i64 x] rfl rfl bE.o (by simp[Value.oneCell']) lE.o rQ.o gC.o ?_;intro v6 w6 fo eL _))
   go_roundw
   ·
    refine⟨k+1,by omega,by go_num,eK aY.o (Nat.le_refl _) dm.o eL,?_⟩;rw[eF.o,List.map_append];exact fo
   ·simp[intOf];omega
  ·obtain rfl:k=n:=by omega
   go_wp2_with fail
   go_ret
   exact⟨_,rfl,bP.o,aY.o⟩
theorem Pt(n:Nat) (hn:n<=4096) (x:Int) (hx:bS x) (w:World) :
  Calls Tryz.prog 45 #[.int .i64 n,.int .i64 x] w fun r w'=>∃ u,r=.returned u/\aX w' u (List.replicate n x)/\Below w.heap.size w w':=by
 refine(ME n hn x w).mono ?_;rintro r w' ⟨u,rfl,ho,hb⟩;exact⟨_,rfl,gI (l:=List.replicate n x) (base:=w.heap.size) (by rw[List.length_replicate];exact ho) (fun y hy=>by rw[List.eq_of_mem_replicate hy];exact hx) (by simp;omega),hb⟩
theorem RQ(v:Value) (l:List Int) (x:Int) (w:World) (hv:aX w v l) :
  Calls Tryz.prog 44 #[v,.int .i64 x] w fun r w'=>r=.returned (.bool (l.contains x))/\w=w':=by
 obtain⟨pl,cl,rfl,el⟩:=ef hv;obtain⟨_,_,_,_,cP,_⟩:=hv.at;have EL:=aa el;have HY:am (∀ k,k<l.length->l.getD k 0=x->l.contains x=true):=aa fun k hk h=>by rw[List.contains_iff_mem,<-h,az 0 hk];exact List.getElem_mem hk
 have fY:am ((∀ k,k<l.length->l.getD k 0≠x)->l.contains x=false):=aa fun h=>by
  cases hc:l.contains x with
  | false=>rfl
  | true=>
   obtain⟨k,hk,e⟩:=List.getElem_of_mem (List.contains_iff_mem.1 hc);exact absurd (by rw[az 0 hk];exact e) (h k hk)
 generalize l.contains x=b at HY fY ⊢;clear hv el
 go_enter Tryz.func44,Tryz.ntmps44
 go_wp2_with fail
 go_loop [5] (fun i=>∃ k:Nat,k<=l.length/\i=.int .i64 k/\∀ j,j<k->l.getD j 0≠x) (fun i=>l.length - (intOf i).toNat)
 ·exact⟨0,by omega,rfl,fun j hj=>by omega⟩
 ·
  obtain⟨k,hk,rfl,hz⟩:=hrel;have HZ:=aa hz;clear hz;by_cases aB:k<l.length
  ·obtain⟨b1,o1,rfl,c1⟩:=EL.o k aB;have Qh:=aa (HY.o k aB);have gt:am (l.getD k 0≠x->∀ j,j<k+1->l.getD j 0≠x):=aa fun h=>aV HZ.o h
   generalize l.getD k 0=y at c1 Qh gt;by_cases cC:y=x
   ·have HR:=aa (Qh.o cC);have hd:(y == x)=true:=by simp[cC]
    clear cC
    go_wp2_with fail
    go_ret
    exact⟨aS (by rw[HR.o]),rfl⟩
   ·have HN:=aa (gt.o cC);have hd:(y == x)=false:=beq_eq_false_iff_ne.2 cC;clear cC
    go_wp2_with fail
    go_round
    ·exact⟨k+1,by omega,by go_num,HN.o⟩
    ·simp[intOf];omega
  ·have HR:=aa (fY.o fun j hj=>HZ.o j (by omega))
   go_wp2_with fail
   go_ret
   exact⟨aS (by rw[HR.o]),rfl⟩
theorem Ip(v:Value) (l:List Int) (x:Int) (hn:l.length<=4096) (w:World) (hv:aX w v l) :
  Calls Tryz.prog 52 #[v,.int .i64 x] w fun r w'=>∃ u,r=.returned u/\aX w' u ((memL l x).map fun e:Nat=>(e:Int))/\Below w.heap.size w w'/\∀ b,u.ownBlock=some b->w.heap.size<=b:=by
 obtain⟨i0,df,cH,cj,cI⟩:=info_parts Tryz.infoInt;have cG:=aa (And.intro df (And.intro cH (And.intro cj cI)));clear df cH cj cI;obtain⟨pl,cl,rfl,el⟩:=ef hv;have EL:=aa el;obtain⟨L,hL⟩:∃ L:Nat->List Int,L=fun k=>(gz l x k).map fun e:Nat=>(e:Int):=⟨_,rfl⟩
 have kW:am (L 0=[]/\(∀ k,l.getD k 0=x->L (k+1)=L k++[(k:Int)])/\(∀ k,l.getD k 0≠x->L (k+1)=L k)/\(∀ k,(L k).length<=k)/\∀ k,k<=4096->∀ y∈L k,bS y):=aa (by
  subst hL;refine⟨rfl,fun k h=>by dsimp only;rw[sM h,List.map_append];rfl,fun k h=>by dsimp only;rw[Bj h],fun k=>?_,fun k hk y hy=>?_⟩
  ·dsimp only;rw[List.length_map];exact Nat.le_trans (List.length_filter_le _ _) (by simp)
  ·obtain⟨j,hj,rfl⟩:=List.mem_map.1 hy;have:=List.mem_range.1 (List.mem_filter.1 hj).1
   exact⟨by omega,by omega⟩)
 have HF:am (L l.length=(memL l x).map fun e:Nat=>(e:Int)):=aa (by subst hL;rfl);generalize ((memL l x).map fun e:Nat=>(e:Int))=F at HF ⊢;obtain⟨n,AS⟩:∃ n,l.length=n:=⟨_,rfl⟩;rw[AS]at EL HF hn ⊢;clear hv el hL AS
 go_enter Tryz.func52,Tryz.ntmps52
 go_wp2_with fail
 go_loopw [5,6] (fun o i wr=>∃ k:Nat,k<=n/\i=.int .i64 k/\Below w.heap.size w wr/\aJ wr w.heap.size 3 1 o (L k).length ((L k).map (Value.int .i64))) (fun _ i _=>n - (intOf i).toNat)
 ·exact⟨0,by omega,rfl,Below.refl _ _,by rw[kW.o.1];exact aJ.nil _ _ _ _⟩
 ·
  obtain⟨k,hk,rfl,aA,bg⟩:=hrel;obtain⟨al,cl2,rfl⟩:=bg.slice;have bP:=aa bg;have aY:=aa aA;have Jl:=kW.o.2.2.2.1 k;by_cases aB:k<n
  ·obtain⟨b1,o1,rfl,c0⟩:=EL.o k aB;have c1:=ak aA c0;have rG:=aa (kW.o.2.1 k);have rM:=aa (kW.o.2.2.1 k);obtain⟨q,hq⟩:∃ q,(L k).length=q:=⟨_,rfl⟩;rw[hq]at bP Jl ⊢;have HQ:=aa hq;generalize l.getD k 0=y at c1 rG rM;clear bg aA c0 hq;by_cases cC:y=x
   ·have eF:=aa (rG.o cC);have qq:am ((L (k+1)).length=q+1):=aa (by rw[eF.o,List.length_append,HQ.o];rfl);have hd:(y == x)=true:=by simp[cC]
    clear cC;have dm:=aa (bP.o.up ((Below.refl _ wr).alloc (Nat.le_refl _) (.cells #[.int .i64 (k:Int)] 3)));have bE:=aa (dU wr [.int .i64 (k:Int)] 3);have lE:am (q+1<=maxLen):=aa (by unfold maxLen;omega);have rQ:am ((q+1) * 8<=140737488355328):=aa (by omega);have gC:am (w.heap.size<=(wr.alloc (.cells #[.int .i64 (k:Int)] 3)).heap.size):=aa (by have:=aY.o.size;simp;omega)
    go_wp2_with (at_builtin;(refine bh _ rfl (.tmp 19) (.tmp 21) 38 rfl w.heap.size 3 i0 _ 1 8 Tryz.underlying38 cG.o.1 cG.o.2.1 cG.o.2.2.1 cG.o.2.2.2 rfl (by decide) _ q _ rfl dm.o ⟨wr.heap.size,0,none⟩ 1 1 [.int .i64 (k:Int)] rfl rfl bE.o (by simp[Value.oneCell']) lE.o rQ.o gC.o ?_;intro v6 w6 fo eL _))
    go_roundw
    ·
     refine⟨k+1,by omega,by go_num,eK aY.o (Nat.le_refl _) dm.o eL,?_⟩;rw[qq.o,eF.o,List.map_append];exact fo
    ·simp[intOf];omega
   ·have eF:=aa (rM.o cC);have hd:(y == x)=false:=beq_eq_false_iff_ne.2 cC;clear cC
    go_wp2_with fail
    go_roundw
    ·
     refine⟨k+1,by omega,by go_num,aY.o,?_⟩;rw[eF.o,HQ.o];exact bP.o
    ·simp[intOf];omega
  ·obtain rfl:k=n:=by omega
   have HQ:am (aX wr (.slice al (L k).length cl2) F):=aa (by rw[<-HF.o];exact gI (l:=L k) (base:=w.heap.size) bg (kW.o.2.2.2.2 k hn) (by omega));have PQ:am (∀ b,(Value.slice al (L k).length cl2).ownBlock=some b->w.heap.size<=b):=aa (fun b hb=>(bg.lt b hb).1);clear bg aA
   go_wp2_with fail
   go_ret
   exact⟨_,rfl,HQ.o,aY.o,PQ.o⟩
theorem Iq(x0:Value) (p1:Option Addr) (n1 c1:Nat) (p2:Option Addr) (n2 c2:Nat) (f:Int) (w:World) (h0:∃ a n c,x0=.slice a n c) :
  Calls Tryz.prog 80 #[.agg #[x0,.slice p1 n1 c1,.slice p2 n2 c2],.int .i64 f] w fun e w'=>e=.returned (if f=0/\0<n2 then .slice p2 n2 c2 else .slice p1 n1 c1)/\Below w.heap.size w w':=by
 obtain⟨a0,m0,k0,rfl⟩:=h0;by_cases hf:f=0
 ·have hd:(f == 0)=true:=by simp[hf]
  by_cases hl:0<n2
  ·have e1:decide ((0:Int)<(n2:Int))=true:=decide_eq_true (by omega);have e2:decide (0<n2)=true:=decide_eq_true hl;rw[if_pos ⟨hf,hl⟩];clear hf hl
   go_enter Tryz.func80,Tryz.ntmps80
   go_wp2_with fail
   go_ret
   exact⟨rfl,by go_grown⟩
  ·have e1:decide ((0:Int)<(n2:Int))=false:=decide_eq_false (by omega);have e2:decide (0<n2)=false:=decide_eq_false hl;rw[if_neg (fun h=>hl h.2)];clear hf hl
   go_enter Tryz.func80,Tryz.ntmps80
   go_wp2_with fail
   go_ret
   exact⟨rfl,by go_grown⟩
 ·have hd:(f == 0)=false:=beq_eq_false_iff_ne.2 hf;rw[if_neg (fun h=>hf h.1)];clear hf
  go_enter Tryz.func80,Tryz.ntmps80
  go_wp2_with fail
  go_ret
  exact⟨rfl,by go_grown⟩
theorem Vi(s:Sys) (hs:SysOk s) (e:Nat) (he:e<eS s) (vc vs vt ve:Value) (w:World) (dC:IsSys w s vc vs vt ve) :
  Calls Tryz.prog 40 #[.agg (bZ s.prob vc vs s.n vt ve),.int .i64 e] w fun r w'=>∃ u,r=.returned u/\aX w' u (valuesS s e)/\Below w.heap.size w w':=by
 obtain⟨i0,df,cH,cj,cI⟩:=info_parts Tryz.infoInt;have cG:=aa (And.intro df (And.intro cH (And.intro cj cI)));clear df cH cj cI;have HS:=aa dC;obtain⟨⟨pc,cc,rfl⟩,⟨ps,cs,rfl⟩,⟨pt,ct,rfl⟩,⟨pe,ce,rfl⟩⟩:=bM dC;clear dC;obtain⟨b,o,_,ce',e0,rfl,pw,nw,cw,pv,cv,c1,c2,c3,mn,fN,gW,-⟩:=iJ hs HS.o.ex he;injection e0 with e01 e02 e03
 subst e01;have BA:nw<=6:=by have:=hs.rounds;omega
 clear e02 e03 mn;have yQ:=aa (fun W (hb:Below w.heap.size w W)=>Aj (cM s e).c (fltS s e) pw nw cw (.slice pv (s.prob.rounds.toNat+1) cv) W BA (fun h=>by obtain⟨b1,o1,q1,q2⟩:=fN h;exact⟨b1,o1,q1,ak hb q2⟩) gW);obtain⟨eX,ka⟩:=hs.cas e he;obtain⟨k,hk⟩:∃ k:Nat,(cM s e).c=k:=⟨(cM s e).c.toNat,by omega⟩;rw[hk,Int.toNat_natCast]at ka;obtain⟨pc',cc',e1,_,_,ec⟩:=HS.o.cases.at;injection e1 with e11 e12 e13
 subst e11;clear e12 e13;obtain⟨bc,oc,rfl,⟨x0,cx0,dp⟩,⟨x1,cx1,dJ⟩,⟨x2,cx2,ed⟩⟩:=ec k ka;have yW:s.prob.t.cases[k]=s.prob.t.cases.getD (cM s e).c.toNat default:=by rw[hk,Int.toNat_natCast];exact(az default ka).symm
 rw[yW]at dp dJ ed;obtain⟨p0,q0,rfl,_⟩:=dp;have kG:=aa dJ;have fZ:=aa ed;obtain⟨p1,q1,rfl,_⟩:=dJ;obtain⟨p2,q2,rfl,_⟩:=ed
 have oV:am (ez w (if fltS s e=0/\0<(s.prob.t.cases.getD (cM s e).c.toNat default).calm.length then .slice p2 (s.prob.t.cases.getD (cM s e).c.toNat default).calm.length q2 else .slice p1 (s.prob.t.cases.getD (cM s e).c.toNat default).out.length q1) (vecE s e)):=aa (by
  unfold vecE gg;split
  ·exact fZ.o
  ·exact kG.o)
 have WE:am (∃ a n c,(if fltS s e=0/\0<(s.prob.t.cases.getD (cM s e).c.toNat default).calm.length then Value.slice p2 (s.prob.t.cases.getD (cM s e).c.toNat default).calm.length q2 else .slice p1 (s.prob.t.cases.getD (cM s e).c.toNat default).out.length q1)=.slice a n c):=aa (by
  split
  ·exact⟨_,_,_,rfl⟩
  ·exact⟨_,_,_,rfl⟩)
 have JG:=aa (fun W=>Iq (.slice p0 (s.prob.t.cases.getD (cM s e).c.toNat default).inp.length q0) p1 (s.prob.t.cases.getD (cM s e).c.toNat default).out.length q1 p2 (s.prob.t.cases.getD (cM s e).c.toNat default).calm.length q2 (fltS s e) W ⟨_,_,_,rfl⟩);have P7:am (∀ v:Nat,valB s e v=hasV (vecE s e) (List.replicate (nS s) (v:Int))):=aa fun v=>rfl
 have fw:=hs.n.2.2.1;have jz:=hs.n.2.1;have qV:=hs.outs.2.2;have T5:=hs.outs.2.1;have WN:am (iE s e (oS s)=valuesS s e):=aa rfl;have uS:=aa (Bk s e);have HVY:=aa (fun k (h:valB s e k=true)=>Io h);have HVN:=aa (fun k (h:valB s e k=false)=>KP h);have oN:iE s e 0=[]:=rfl;have CE:=aa oN;generalize (if fltS s e=0/\0<(s.prob.t.cases.getD (cM s e).c.toNat default).calm.length then Value.slice p2 (s.prob.t.cases.getD (cM s e).c.toNat default).calm.length q2 else .slice p1 (s.prob.t.cases.getD (cM s e).c.toNat default).out.length q1)=V at oV WE JG;obtain⟨va,vn,vk,rfl⟩:=WE.o;rw[hk]at yQ c1;obtain⟨n,hn⟩:∃ n,nS s=n:=⟨_,rfl⟩;obtain⟨oo,hoq⟩:∃ oo,oS s=oo:=⟨_,rfl⟩;obtain⟨m,hm⟩:∃ m,s.ex.length=m:=⟨_,rfl⟩;have vJ:e<m:=by rw[<-hm];exact he
 rw[hn]at fw jz P7;rw[hoq]at qV T5 WN;rw[hm];obtain⟨vl,wY⟩:∃ vl,vecE s e=vl:=⟨_,rfl⟩;rw[wY]at oV P7;have nq:=aa fw;have HOO:=aa qV;generalize valuesS s e=vs0 at WN ⊢;generalize (s.prob.t.cases.getD (cM s e).c.toNat default).inp.length=l0 at cx0 JG;generalize (s.prob.t.cases.getD (cM s e).c.toNat default).out.length=l1 at cx1 JG;generalize (s.prob.t.cases.getD (cM s e).c.toNat default).calm.length=l2 at cx2 JG;generalize fltS s e=fl at yQ JG;obtain⟨rn,hrn⟩:∃ rn,s.prob.rounds.toNat+1=rn:=⟨_,rfl⟩;rw[hrn]at yQ c3;clear WE fN gW hn hoq hm wY hk eX yW fw qV kG fZ ec oN hrn
 go_enter Tryz.func40,Tryz.ntmps40
 have d1:∀ o',(w.alloc o').cell? ⟨b,o+e * 3,none⟩=_:=fun o'=>ak (by go_grown) c1
 have d2:∀ o',(w.alloc o').cell? ⟨b,o+e * 3+1,none⟩=_:=fun o'=>ak (by go_grown) c2
 have d3:∀ o',(w.alloc o').cell? ⟨b,o+e * 3+2,none⟩=_:=fun o'=>ak (by go_grown) c3
 go_wp2_with fail
 clear d1 d2 d3 c1 c2 c3;refine bF (fun W=>Below w.heap.size w W/\(∃ c,W.heap[w.heap.size]?=some (.cells c 35)/\c=bZ s.prob (.slice (some ⟨bc,oc,none⟩) s.prob.t.cases.length cc) (.slice ps s.prob.a.states.length cs) s.n (.slice pt s.tab.length ct) (.slice (some ⟨b,o,none⟩) m ce))/\W.heap[w.heap.size+1]?=some (.cells #[.int .i64 k,.slice pw nw cw,.slice pv rn cv] 89)) ⟨by go_grown,⟨_,aq _ (ap _ _),rfl⟩,bu _ _ _⟩ (fun W0 bd=>?_);obtain⟨aK,⟨_,hA,rfl⟩,hX⟩:=bd;have fA:=aa aK;have HA:=aa hA;have HX:=aa hX;have yC:∀ z:ExtW W0,z.val.cell? ⟨w.heap.size,3,none⟩=some (.slice (some ⟨bc,oc,none⟩) s.prob.t.cases.length cc):=fun z=>(ab (af z.ext HA.o) 3).trans rfl
 have yX:∀ z:ExtW W0,∀ j,z.val.cell? ⟨w.heap.size+1,j,none⟩=_:=fun z=>ab (af z.ext HX.o)
 have y0:∀ z:ExtW W0,z.val.cell? ⟨bc,oc+k * 3,none⟩=_:=fun z=>ak (ae fA.o z.ext) cx0
 have y1:∀ z:ExtW W0,z.val.cell? ⟨bc,oc+k * 3+1,none⟩=_:=fun z=>ak (ae fA.o z.ext) cx1
 have y2:∀ z:ExtW W0,z.val.cell? ⟨bc,oc+k * 3+2,none⟩=_:=fun z=>ak (ae fA.o z.ext) cx2
 have K1:am (∀ y:ExtW W0,Calls Tryz.prog 61 #[.agg #[.int .i64 (k:Int),.slice pw nw cw,.slice pv rn cv]] y.val fun r w''=>r=.returned (.int .i64 fl)/\∃ z:ExtW W0,w''=z.val):=aa (fun y=>Calls.ext_of (yQ.o y.val (ae fA.o y.ext)));have K2:am (∀ y:ExtW W0,Calls Tryz.prog 80 #[.agg #[.slice p0 l0 q0,.slice p1 l1 q1,.slice p2 l2 q2],.int .i64 fl] y.val fun r w''=>r=.returned (.slice va vn vk)/\∃ z:ExtW W0,w''=z.val):=aa (fun y=>Calls.ext_of (JG.o y.val));clear aK hA hX cx0 cx1 cx2 yQ JG;refine aF (by kernel_rfl) (by kernel_rfl) ?_
 repeat (go_big_quiet_step (first|(go_at_call 61;with_reducible exact K1.o _)|(go_at_call 80;with_reducible exact K2.o _)))
 refine wpQuiet_nil ?_;rintro _ ⟨xq,rfl⟩;have bW:=aa (ae fA.o xq.ext);have HAX:=aa (af xq.ext HA.o);clear yC yX y0 y1 y2;generalize xq.val=W1 at bW HAX ⊢;have hsw1:=bW.o.size
 go_wp2_with fail
 go_loopw [7,8] (fun q i wr=>∃ k:Nat,k<=oo/\i=.int .i64 k/\Below W1.heap.size W1 wr/\aJ wr W1.heap.size 3 1 q (iE s e k).length ((iE s e k).map (Value.int .i64))) (fun _ i _=>oo - (intOf i).toNat)
 ·exact⟨0,by omega,rfl,Below.refl _ _,by rw[CE.o];exact aJ.nil _ _ _ _⟩
 ·
  obtain⟨v,hv,rfl,aA,bg⟩:=hrel;obtain⟨al,cl2,rfl⟩:=bg.slice;have bP:=aa bg;have aY:=aa aA;have tU:=af aA HAX.o;have tO:wr.cell? ⟨w.heap.size,2,none⟩=some (.int .i64 (oo:Int)):=(ab tU 2).trans (by rw[<-HOO.o];rfl);have tN:wr.cell? ⟨w.heap.size,7,none⟩=some (.int .i64 (n:Int)):=(ab tU 7).trans (by rw[<-nq.o];rfl);have Jl:=uS.o v;clear bg aA tU;by_cases aB:v<oo
  ·have nZ:(v:Int)<(oo:Int):=by omega
   have yG:=aa (Pt n (by omega) (v:Int) ⟨by omega,by omega⟩ wr)
   go_wp2_with fail
   clear tO tN;refine yG.o.mono ?_;rintro r w2 ⟨u,rfl,hu,aZ⟩;have HU:=aa hu;have cX:=aa (ae aY.o aZ);have Nv:=aa aZ;obtain⟨au,cu,rfl,_⟩:=hu.at;have WA:=aa (E6 _ _ vl _ w2 (oV.o.up up_ints (ae bW.o cX.o)) HU.o);rw[<-P7.o]at WA;rw[List.length_replicate]at WA ⊢;clear hu aZ yG
   go_wp2_with fail
   refine WA.o.mono ?_;rintro r w3 ⟨rfl,bG⟩;have dT:=aa (ae cX.o bG);have HOWN2:=aa (bP.o.up (ae Nv.o bG));clear bG bP;have bP:=HOWN2;obtain⟨wr4,kJ⟩:∃ x,x=wr:=⟨_,rfl⟩;subst kJ;obtain⟨wr,kJ⟩:∃ x,x=w3:=⟨_,rfl⟩;subst kJ;clear aY;have aY:=dT;obtain⟨q,hq⟩:∃ q,(iE s e v).length=q:=⟨_,rfl⟩;rw[hq]at bP Jl ⊢;have HQ:=aa hq;clear hq;cases hb:valB s e v with
   | true=>
    have eF:=aa (HVY.o v hb);have qq:am ((iE s e (v+1)).length=q+1):=aa (by rw[eF.o,List.length_append,HQ.o];rfl);clear hb;have dm:=aa (bP.o.up ((Below.refl _ wr).alloc (Nat.le_refl _) (.cells #[.int .i64 (v:Int)] 3)));have bE:=aa (dU wr [.int .i64 (v:Int)] 3);have lE:am (q+1<=maxLen):=aa (by unfold maxLen;omega);have rQ:am ((q+1) * 8<=140737488355328):=aa (by omega);have gC:am (W1.heap.size<=(wr.alloc (.cells #[.int .i64 (v:Int)] 3)).heap.size):=aa (by have:=aY.o.size;simp;omega)
    go_wp2_with (at_builtin;(refine bh _ rfl (.tmp 40) (.tmp 42) 38 rfl W1.heap.size 3 i0 _ 1 8 Tryz.underlying38 cG.o.1 cG.o.2.1 cG.o.2.2.1 cG.o.2.2.2 rfl (by decide) _ q _ rfl dm.o ⟨wr.heap.size,0,none⟩ 1 1 [.int .i64 (v:Int)] rfl rfl bE.o (by simp[Value.oneCell']) lE.o rQ.o gC.o ?_;intro v6 w6 fo eL _))
    go_roundw
    ·
     refine⟨v+1,by omega,by go_num,eK aY.o (Nat.le_refl _) dm.o eL,?_⟩;rw[qq.o,eF.o,List.map_append];exact fo
    ·simp[intOf];omega
   | false=>
    have eF:=aa (HVN.o v hb);clear hb
    go_wp2_with fail
    go_roundw
    ·
     refine⟨v+1,by omega,by go_num,aY.o,?_⟩;rw[eF.o,HQ.o];exact bP.o
    ·simp[intOf];omega
  ·obtain rfl:v=oo:=by omega
   clear tN
   have HI:am (aX wr (.slice al (iE s e v).length cl2) vs0):=aa (by
    rw[<-WN.o];refine gI (l:=iE s e v) bP.o (fun y hy=>?_) (by omega);obtain⟨j,hj,rfl⟩:=List.mem_map.1 hy;have:=List.mem_range.1 (List.mem_filter.1 hj).1
    exact⟨by omega,by omega⟩)
   go_wp2_with fail
   go_ret
   exact⟨_,rfl,HI.o,ae bW.o aY.o⟩
def RR(q:Nat->Nat->Bool) (i k:Nat) (x:Int):Prop:=(x=-1/\∀ j,j<k->q j i=false)\/∃ m,m<i/\firstIx i (fun k=>q k i)=m/\x=(br q i).1.getD m 0/\0<=x
theorem Vj{q:Nat->Nat->Bool} {i:Nat} {x:Int} (h:RR q i i x):(x<0->br q (i+1)=((br q i).1++[(br q i).2],(br q i).2+1))/\(0<=x->br q (i+1)=((br q i).1++[x],(br q i).2)):=by
 rcases h with ⟨rfl,h⟩|⟨m,hm,h1,h2,h3⟩
 ·refine⟨fun _=>?_,fun h=>by omega⟩;rw[br];rw[dA _ _ h,if_pos (by omega)]
 ·refine⟨fun h=>by omega,fun _=>?_⟩;rw[br];rw[h1,if_neg (by omega),Int.toNat_natCast,h2]
theorem Am(q:Nat->Nat->Bool):∀ i,0<=(br q i).2/\(br q i).2<=i/\∀ x∈(br q i).1,0<=x/\x<=i
 | 0=>⟨by simp[br],by simp[br],fun x hx=>by simp[br]at hx⟩
 | i+1=>by
  obtain⟨h1,h2,h3⟩:=Am q i;have hl:=jY q i;rw[br];split
  ·refine⟨by dsimp only;omega,by dsimp only;omega,fun x hx=>?_⟩;rcases List.mem_append.1 hx with hx|hx
   ·have:=h3 x hx;omega
   ·rw[List.mem_singleton.1 hx];omega
  ·rename_i h4;refine⟨h1,by dsimp only;omega,fun x hx=>?_⟩;rcases List.mem_append.1 hx with hx|hx
   ·have:=h3 x hx;omega
   ·rw[List.mem_singleton.1 hx];rcases bH i (fun k=>q k i) with ⟨e,_⟩|⟨k,hk,e,_⟩
    ·omega
    ·rw[e,Int.toNat_natCast,az 0 (by omega)];have:=h3 _ (List.getElem_mem (l:=(br q i).1) (n:=k) (by omega));omega
theorem An(v:Value) (l:List Int) (hl:l.length<=4096) (w:World) (hv:aX w v l) :
  Calls Tryz.prog 140 #[v] w fun r w'=>∃ u,r=.returned u/\aX w' u (lg l)/\Below w.heap.size w w':=by
 obtain⟨pl,cl,rfl,el⟩:=ef hv;have EL:=aa el;obtain⟨i0,df,cH,cj,cI⟩:=info_parts Tryz.infoInt;have cG:=aa (And.intro df (And.intro cH (And.intro cj cI)));obtain⟨q,hq⟩:∃ q:Nat->Nat->Bool,q=fun k i=>decide (l.getD k 0=l.getD i 0):=⟨_,rfl⟩
 have HQ:am (∀ k i,q k i=decide (l.getD k 0=l.getD i 0)):=aa fun k i=>by rw[hq]
 have it:am (lg l=(br q l.length).1):=aa (by rw[hq];rfl);have mo:=aa (Am q);have qq:=aa (jY q);have jk:=aa (fun i x=>Vj (q:=q) (i:=i) (x:=x));obtain⟨n,hn⟩:∃ n,l.length=n:=⟨_,rfl⟩;rw[hn]at EL hl it ⊢;clear hv el hq hn df cH cj cI
 go_enter Tryz.func140,Tryz.ntmps140
 go_wp2_with fail
 go_loopw [3,4,5] (fun o nx i wr=>∃ k:Nat,k<=n/\i=.int .i64 k/\nx=.int .i64 (br q k).2/\Below w.heap.size w wr/\aJ wr w.heap.size 3 1 o k ((br q k).1.map (Value.int .i64))) (fun _ _ i _=>n - (intOf i).toNat)
 ·exact⟨0,by omega,rfl,rfl,Below.refl _ _,aJ.nil _ _ _ _⟩
 ·
  obtain⟨i,hi,rfl,rfl,aA,bg⟩:=hrel;obtain⟨al,cl2,rfl⟩:=bg.slice;have bP:=aa bg;have aY:=aa aA;have vj:=aA.size;clear bg aA;obtain⟨wrA,lN⟩:∃ x,x=wr:=⟨_,rfl⟩;subst lN;by_cases aB:i<n
  ·obtain⟨bi,oi,rfl,ci⟩:=EL.o i aB;have di:=ak aY.o ci;have LF:=mo.o i
   go_wp2_with fail
   go_loopw [6,7] (fun x j wr=>∃ k:Nat,k<=i/\j=.int .i64 k/\Below wrA.heap.size wrA wr/\∃ y:Int,x=.int .i64 y/\RR q i k y) (fun _ j _=>i - (intOf j).toNat)
   ·exact⟨0,by omega,rfl,Below.refl _ _,-1,rfl,.inl ⟨rfl,fun j hj=>by omega⟩⟩
   ·
    obtain⟨k,hk,rfl,ng,y,rfl,NT⟩:=hrel;have SF:=aa NT;have ff:=aa ng;by_cases oL:k<i/\y<0
    ·obtain⟨Du,hy⟩:=oL;have AN:decide ((k:Int)<(i:Int))=true:=decide_eq_true (by omega);have SD:decide (k<i)=true:=decide_eq_true Du;have gm:decide (y<0)=true:=decide_eq_true hy;obtain⟨bk,ok,e1,ck⟩:=EL.o k (by omega);injection e1 with e1
     injection e1 with e11 e12
     subst e11 e12;have y1:∀ z:ExtW wr,z.val.cell? ⟨bi,oi+k,none⟩=_:=fun z=>ak (ae aY.o (ae ff.o z.ext)) ck
     have y2:∀ z:ExtW wr,z.val.cell? ⟨bi,oi+i,none⟩=_:=fun z=>ak (ae aY.o (ae ff.o z.ext)) ci
     have CS:k<n:=by omega
     have fY:am (∀ j,j<k->q j i=false):=aa (by
      rcases SF.o with ⟨_,h⟩|⟨m,_,_,_,h⟩
      ·exact h
      ·omega)
     cases AK:q k i with
     | true=>
      have cC:l.getD k 0=l.getD i 0:=of_decide_eq_true ((HQ.o k i).symm.trans AK);have HF:am (firstIx i (fun k=>q k i)=k):=aa (dq _ _ _ Du fY.o AK);have cP:=qq.o i;have qH:((br q i).1.map (Value.int .i64))[k]?=some (.int .i64 ((br q i).1.getD k 0)):=by rw[List.getElem?_map,List.getElem?_eq_getElem (by omega),az 0 (by omega)];rfl
      obtain⟨g,c',ev,cv⟩:=bP.o.cell k _ qH;injection ev with ev1 ev2 ev3
      subst ev1;clear ev2 ev3;have dv:=ak ff.o cv;have HY:am (0<=(br q i).1.getD k 0):=aa (by rw[az 0 (by omega)];exact(LF.2.2 _ (List.getElem_mem _)).1);rw[cC]at y1;clear NT ng cC AK qH cv ck cP;generalize l.getD i 0=x at y1 y2;have lA:(x == x)=true:=by simp
      go_wp2_with fail
      refine aF (by kernel_rfl) (by kernel_rfl) ?_
      repeat (go_big_quiet_step (fail))
      refine wpQuiet_nil ?_;rintro _ ⟨xq,rfl⟩;have dv2:=ak xq.ext dv;clear y1 y2
      go_wp2_with fail
      go_roundw
      ·exact⟨k+1,by omega,by go_num,ae ff.o xq.ext,_,rfl,.inr ⟨k,Du,HF.o,rfl,HY.o⟩⟩
      ·simp[intOf];omega
     | false=>
      have cC:¬ l.getD k 0=l.getD i 0:=of_decide_eq_false ((HQ.o k i).symm.trans AK)
      have LP:am (y=-1):=aa (by
       rcases SF.o with ⟨h,_⟩|⟨m,_,_,_,h⟩
       ·exact h
       ·omega)
      have SH:am (∀ j,j<k+1->q j i=false):=aa (aV fY.o AK);have lA:(l.getD k 0 == l.getD i 0)=false:=beq_eq_false_iff_ne.2 cC;clear NT ng cC AK ck;generalize l.getD i 0=x at y1 y2 lA;generalize l.getD k 0=x2 at y1 lA
      go_wp2_with fail
      refine aF (by kernel_rfl) (by kernel_rfl) ?_
      repeat (go_big_quiet_step (fail))
      refine wpQuiet_nil ?_;rintro _ ⟨xq,rfl⟩;clear y1 y2
      go_wp2_with fail
      go_roundw
      ·exact⟨k+1,by omega,by go_num,ae ff.o xq.ext,_,rfl,.inl ⟨LP.o,SH.o⟩⟩
      ·simp[intOf];omega
    ·have HE:am (RR q i i y):=aa (by
      rcases SF.o with ⟨h,h2⟩|h
      ·have:k=i:=by omega
       rw[this]at h2;exact .inl ⟨h,h2⟩
      ·exact .inr h)
     have bW:=aa (ae aY.o ng);have Nc:=aa (bP.o.up ng);have lE:am (i+1<=maxLen):=aa (by unfold maxLen;omega);have eW:am ((i+1) * 8<=140737488355328):=aa (by omega);have Qk:=aa (jk.o i y HE.o);obtain⟨nx,mi⟩:∃ nx,(br q i).2=nx:=⟨_,rfl⟩;rw[mi]at LF Qk;clear NT ng;by_cases hy:y<0
     ·have Du:¬ k<i:=fun h=>oL ⟨h,hy⟩
      have AN:decide ((k:Int)<(i:Int))=false:=decide_eq_false (by omega);have SD:decide (k<i)=false:=decide_eq_false Du;have gm:decide (y<0)=true:=decide_eq_true hy;have eF:=aa (Qk.o.1 hy);clear oL Du;have dm:=aa (Nc.o.up ((Below.refl _ wr).alloc (Nat.le_refl _) (.cells #[.int .i64 nx] 3)));have bE:=aa (dU wr [.int .i64 nx] 3);have gC:am (w.heap.size<=(wr.alloc (.cells #[.int .i64 nx] 3)).heap.size):=aa (by have:=bW.o.size;simp;omega)
      go_wp2_with (at_builtin;(refine bh _ rfl (.tmp 41) (.tmp 43) 38 rfl w.heap.size 3 i0 _ 1 8 Tryz.underlying38 cG.o.1 cG.o.2.1 cG.o.2.2.1 cG.o.2.2.2 rfl (by decide) _ i _ rfl dm.o ⟨wr.heap.size,0,none⟩ 1 1 [.int .i64 nx] rfl rfl bE.o (by simp[Value.oneCell']) lE.o eW.o gC.o ?_;intro v6 w6 fo eL _))
      go_roundw
      ·
       refine⟨i+1,by omega,by go_num,rk (by rw[eF.o]),eK bW.o (Nat.le_refl _) dm.o eL,?_⟩;rw[eF.o,List.map_append];exact fo
      ·simp[intOf];omega
     ·have gm:decide (y<0)=false:=decide_eq_false hy;have eF:=aa (Qk.o.2 (by omega));by_cases Du:k<i
      ·have AN:decide ((k:Int)<(i:Int))=true:=decide_eq_true (by omega);have SD:decide (k<i)=true:=decide_eq_true Du;clear oL;have dm:=aa (Nc.o.up ((Below.refl _ wr).alloc (Nat.le_refl _) (.cells #[.int .i64 y] 3)));have bE:=aa (dU wr [.int .i64 y] 3);have gC:am (w.heap.size<=(wr.alloc (.cells #[.int .i64 y] 3)).heap.size):=aa (by have:=bW.o.size;simp;omega)
       go_wp2_with (at_builtin;(refine bh _ rfl (.tmp 41) (.tmp 43) 38 rfl w.heap.size 3 i0 _ 1 8 Tryz.underlying38 cG.o.1 cG.o.2.1 cG.o.2.2.1 cG.o.2.2.2 rfl (by decide) _ i _ rfl dm.o ⟨wr.heap.size,0,none⟩ 1 1 [.int .i64 y] rfl rfl bE.o (by simp[Value.oneCell']) lE.o eW.o gC.o ?_;intro v6 w6 fo eL _))
       go_roundw
       ·
        refine⟨i+1,by omega,by go_num,rk (by rw[eF.o]),eK bW.o (Nat.le_refl _) dm.o eL,?_⟩;rw[eF.o,List.map_append];exact fo
       ·simp[intOf];omega
      ·have AN:decide ((k:Int)<(i:Int))=false:=decide_eq_false (by omega);have SD:decide (k<i)=false:=decide_eq_false Du;clear oL;have dm:=aa (Nc.o.up ((Below.refl _ wr).alloc (Nat.le_refl _) (.cells #[.int .i64 y] 3)));have bE:=aa (dU wr [.int .i64 y] 3);have gC:am (w.heap.size<=(wr.alloc (.cells #[.int .i64 y] 3)).heap.size):=aa (by have:=bW.o.size;simp;omega)
       go_wp2_with (at_builtin;(refine bh _ rfl (.tmp 41) (.tmp 43) 38 rfl w.heap.size 3 i0 _ 1 8 Tryz.underlying38 cG.o.1 cG.o.2.1 cG.o.2.2.1 cG.o.2.2.2 rfl (by decide) _ i _ rfl dm.o ⟨wr.heap.size,0,none⟩ 1 1 [.int .i64 y] rfl rfl bE.o (by simp[Value.oneCell']) lE.o eW.o gC.o ?_;intro v6 w6 fo eL _))
       go_roundw
       ·
        refine⟨i+1,by omega,by go_num,rk (by rw[eF.o]),eK bW.o (Nat.le_refl _) dm.o eL,?_⟩;rw[eF.o,List.map_append];exact fo
       ·simp[intOf];omega
  ·obtain rfl:i=n:=by omega
   go_wp2_with fail
   go_ret
   refine⟨_,rfl,?_,aY.o⟩;rw[it.o];have h1:=qq.o i;exact gI (l:=(br q i).1) (base:=w.heap.size) (by rw[h1];exact bP.o) (fun x hx=>by have:=(mo.o i).2.2 x hx;exact⟨by omega,by omega⟩) (by omega)
def Bl(R:Nat->Bool) (e j:Nat) (x:Int):Prop:=(x=e/\∀ f,j<=f->f<e->R f=false)\/∃ m,j<=m/\m<e/\x=m/\R m=true/\∀ f,j<=f->f<m->R f=false
theorem Vl{R:Nat->Bool} {e j:Nat} (hj:j<e) (h:R j=true):Bl R e j j:=.inr ⟨j,Nat.le_refl _,hj,rfl,h,fun f h1 h2=>by omega⟩
theorem VZ{R:Nat->Bool} {e j:Nat} {x:Int} (h:R j=false) (hk:Bl R e (j+1) x):Bl R e j x:=by
 rcases hk with ⟨h1,h2⟩|⟨m,h1,h2,h3,h4,h5⟩
 ·refine .inl ⟨h1,fun f g1 g2=>?_⟩;by_cases e1:f=j
  ·subst e1;exact h
  ·exact h2 f (by omega) g2
 ·refine .inr ⟨m,by omega,h2,h3,h4,fun f g1 g2=>?_⟩;by_cases e1:f=j
  ·subst e1;exact h
  ·exact h5 f (by omega) g2
theorem Vm{R:Nat->Nat->Bool} {e:Nat} {x:Int} (h:Bl (R e) e 0 x):x=ru R e:=by
 unfold ru;rcases h with ⟨h1,h2⟩|⟨m,_,h2,h3,h4,h5⟩
 ·rw[dA _ _ (fun f hf=>h2 f (by omega) hf),if_pos (by omega)];exact h1
 ·rw[dq _ _ _ h2 (fun f hf=>h5 f (by omega) hf) h4,if_neg (by omega)];exact h3
theorem Pu{R:Nat->Nat->Bool} (e:Nat):0<=ru R e/\ru R e<=e:=by
 rcases vN R e with ⟨h,_⟩|⟨k,hk,h,_⟩
 ·rw[h];omega
 ·rw[h];omega
theorem MF(s:Sys) (hs:SysOk s) (p:Nat) (hp:p<nS s) (vc vs vt ve:Value) (w:World) (dC:IsSys w s vc vs vt ve) :
  Calls Tryz.prog 91 #[.agg (bZ s.prob vc vs s.n vt ve),.int .i64 p] w fun r w'=>∃ u,r=.returned u/\aX w' u (classL s p)/\Below w.heap.size w w':=by
 have HS:=aa dC;obtain⟨⟨pc,cc,rfl⟩,⟨ps,cs,rfl⟩,⟨pt,ct,rfl⟩,⟨pe,ce,rfl⟩⟩:=bM dC;clear dC;have it:=aa (fun e f (he:e<eS s) (hf:f<eS s) W (hb:Below w.heap.size w W)=>MC s hs p e f hp he hf _ _ _ _ W (HS.o.up hb));have ly:=hs.count;obtain⟨i0,df,cH,cj,cI⟩:=info_parts Tryz.infoInt;have cG:=aa (And.intro df (And.intro cH (And.intro cj cI)));obtain⟨R,hR⟩:∃ R:Nat->Nat->Bool,R=fun e f=>linkB s p e f:=⟨_,rfl⟩
 have HR:am (∀ e f,linkB s p e f=R e f):=aa fun e f=>by rw[hR]
 obtain⟨L,hL⟩:∃ L:Nat->List Int,L=fun k=>(List.range k).map (ru R):=⟨_,rfl⟩
 have kW:am (L 0=[]/\(∀ k,L (k+1)=L k++[ru R k])/\(∀ k,(L k).length=k)/\∀ k,k<=4096->∀ x∈L k,bS x):=aa (by
  subst hL;refine⟨rfl,fun k=>by simp[List.range_succ],fun k=>by simp,fun k hk x hx=>?_⟩;obtain⟨j,hj,rfl⟩:=List.mem_map.1 hx;have h1:=Pu (R:=R) j;have h2:=List.mem_range.1 hj
  exact⟨by omega,by omega⟩)
 have ju:am (lg (L (eS s))=classL s p):=aa (by
  subst hL;subst hR;rw[G'];unfold classL
  exact nA fun i hi k hk=>UL (R:=fun e f=>linkB s p e f) (fun a b=>rc s p a b) (fun a b c h1 h2=>ud h1 h2) i k hk)
 obtain⟨m,hm⟩:∃ m,eS s=m:=⟨_,rfl⟩;have Jc:s.ex.length=m:=hm;rw[hm]at it ly ju;rw[Jc]at it ⊢;generalize classL s p=cl0 at ju ⊢;clear hR hL hm Jc df cH cj cI
 go_enter Tryz.func91,Tryz.ntmps91
 go_wp2_with fail
 refine bF (fun W=>Below w.heap.size w W/\∃ c,W.heap[w.heap.size]?=some (.cells c 35)/\c=bZ s.prob (.slice pc s.prob.t.cases.length cc) (.slice ps s.prob.a.states.length cs) s.n (.slice pt s.tab.length ct) (.slice pe m ce)) ⟨by go_grown,_,ap _ _,rfl⟩ (fun W0 bd=>?_);obtain⟨aK,_,hA,rfl⟩:=bd;have fA:=aa aK;have HA:=aa hA;clear aK hA
 go_loopw [5,6] (fun o i wr=>∃ k:Nat,k<=m/\i=.int .i64 k/\Below W0.heap.size W0 wr/\aJ wr W0.heap.size 3 1 o k ((L k).map (Value.int .i64))) (fun _ i _=>m - (intOf i).toNat)
 ·exact⟨0,by omega,rfl,Below.refl _ _,by rw[kW.o.1];exact aJ.nil _ _ _ _⟩
 ·
  obtain⟨e,he,rfl,aA,bg⟩:=hrel;obtain⟨al,cl2,rfl⟩:=bg.slice;have bP:=aa bg;have aY:=aa aA;have vj:=aA.size;have tS:=ab (af aA HA.o);clear bg aA;obtain⟨wrA,lN⟩:∃ x,x=wr:=⟨_,rfl⟩;subst lN;by_cases aB:e<m
  ·go_wp2_with fail
   clear tS
   go_loopw [7,8] (fun x j wr=>∃ k:Nat,k<=e/\j=.int .i64 ((k:Int) - 1)/\Below wrA.heap.size wrA wr/\∃ y:Int,x=.int .i64 y/\Bl (R e) e k y) (fun _ j _=>((intOf j)+1).toNat)
   ·exact⟨e,Nat.le_refl _,rfl,Below.refl _ _,_,rfl,.inl ⟨rfl,fun f h1 h2=>by omega⟩⟩
   ·
    obtain⟨k,hk,rfl,ng,y,rfl,mO⟩:=hrel;have El:=aa mO;have ff:=aa ng;have bW:=aa (ae aY.o ng);have tS:=ab (af bW.o HA.o);clear mO ng;by_cases eX:0<k
    ·obtain⟨j,rfl⟩:∃ j,k=j+1:=⟨k - 1,by omega⟩;have PR:(((j+1:Nat):Int) - 1)=(j:Int):=by omega
     rw[PR];have AN:decide ((0:Int)<=(j:Int))=true:=decide_eq_true (by omega);have tI:=aa (it.o e j aB (by omega) wr (ae fA.o bW.o));clear PR eX
     go_wp2_with fail
     clear tS;refine tI.o.mono ?_;rintro r w2 ⟨rfl,aZ⟩;rw[HR.o];have cX:=aa (ae ff.o aZ);clear aZ;cases hb:R e j with
     | true=>
      have HN:am (Bl (R e) e j j):=aa (Vl (by omega) hb);clear hb
      go_wp2_with fail
      go_roundw
      ·exact⟨j,by omega,by go_num,cX.o,_,rfl,HN.o⟩
      ·simp[intOf]
     | false=>
      have HN:am (Bl (R e) e j y):=aa (VZ hb El.o);clear hb
      go_wp2_with fail
      go_roundw
      ·exact⟨j,by omega,by go_num,cX.o,_,rfl,HN.o⟩
      ·simp[intOf]
    ·obtain rfl:k=0:=by omega
     have HY:=aa (Vm El.o);have PR:(((0:Nat):Int) - 1)=-1:=by omega
     rw[PR];have dm:=aa ((bP.o.up ff.o).up ((Below.refl _ wr).alloc (Nat.le_refl _) (.cells #[.int .i64 y] 3)));have bE:=aa (dU wr [.int .i64 y] 3);have lE:am (e+1<=maxLen):=aa (by unfold maxLen;omega);have eW:am ((e+1) * 8<=140737488355328):=aa (by omega);have gC:am (W0.heap.size<=(wr.alloc (.cells #[.int .i64 y] 3)).heap.size):=aa (by have:=bW.o.size;simp;omega);clear PR tS
     go_wp2_with (at_builtin;(refine bh _ rfl (.tmp 29) (.tmp 31) 38 rfl W0.heap.size 3 i0 _ 1 8 Tryz.underlying38 cG.o.1 cG.o.2.1 cG.o.2.2.1 cG.o.2.2.2 rfl (by decide) _ e _ rfl dm.o ⟨wr.heap.size,0,none⟩ 1 1 [.int .i64 y] rfl rfl bE.o (by simp[Value.oneCell']) lE.o eW.o gC.o ?_;intro v6 w6 fo eL _))
     go_roundw
     ·
      refine⟨e+1,by omega,by go_num,eK bW.o (Nat.le_refl _) dm.o eL,?_⟩;rw[kW.o.2.1,<-HY.o,List.map_append];exact fo
     ·simp[intOf];omega
  ·obtain rfl:e=m:=by omega
   have Jl:=kW.o.2.2.1 e;have HI:am (aX wrA (.slice al e cl2) (L e)):=aa (gI (l:=L e) (base:=W0.heap.size) (by rw[Jl];exact bP.o) (kW.o.2.2.2 e ly) (by omega));have Ly:=aa (An _ (L e) (by omega) wrA HI.o);clear Jl
   go_wp2_with fail
   refine Ly.o.mono ?_;rintro r w2 ⟨u,rfl,hu,aZ⟩;obtain⟨au,cu,rfl,_⟩:=hu.at;have HU:=aa hu;have cX:=aa (ae fA.o (ae aY.o aZ));clear hu aZ tS
   go_wp2_with fail
   go_ret
   exact⟨_,rfl,by rw[<-ju.o];exact HU.o,cX.o⟩
def jt(a b:List Int) (n:Nat) (O0:List Int) (i k:Nat) (O:List Int) (ch:Bool):Prop:=Glu a b n O/\((ch=true/\tZ O<tZ O0)\/(ch=false/\O=O0/\(∀ i',i'<i->∀ k',k'<i'->dM a b i' k'=true->O.getD i' 0=O.getD k' 0)/\∀ k',k'<k->dM a b i k'=true->O.getD i 0=O.getD k' 0))
theorem jt.row{a b:List Int} {n:Nat} {O0 O:List Int} {i:Nat} {ch:Bool} (h:jt a b n O0 i i O ch):jt a b n O0 (i+1) 0 O ch:=by
 refine⟨h.1,?_⟩;rcases h.2 with h2|⟨h2,h3,h4,h5⟩
 ·exact .inl h2
 ·refine .inr ⟨h2,h3,fun i' oU=>?_,fun k' qS=>by omega⟩;by_cases e:i'=i
  ·subst e;exact h5
  ·exact h4 i' (by omega)
theorem jt.same{a b:List Int} {n:Nat} {O0 O:List Int} {i k:Nat} {ch:Bool} (h:jt a b n O0 i k O ch) (hq:dM a b i k=true->O.getD i 0=O.getD k 0):jt a b n O0 i (k+1) O ch:=by
 refine⟨h.1,?_⟩;rcases h.2 with h2|⟨h2,h3,h4,h5⟩
 ·exact .inl h2
 ·exact .inr ⟨h2,h3,h4,aV h5 hq⟩
theorem jt.put{a b:List Int} {n:Nat} {O0 O:List Int} {i k:Nat} {ch:Bool} (h:jt a b n O0 i k O ch) (hi:i<n) (hk:k<i) (hq:dM a b i k=true) (bR:O.getD i 0≠O.getD k 0):jt a b n O0 i (k+1) (lF O i k) true:=by
 refine⟨h.1.step i k hi hk hq,.inl ⟨rfl,?_⟩⟩;have h1:=N8 h.1 i k hi hk bR;rcases h.2 with ⟨_,h2⟩|⟨_,h3,_⟩
 ·omega
 ·rw[<-h3];exact h1
def RS(W:World) (g:Nat):Nat:=match W.heap[g]? with|some (.cells cs _ _)=>(cs.toList.map fun v=>(intOf v).toNat).sum|_=>0
theorem KR{W:World} {g:Nat} {O:List Int} {t:TypeId} {fz:Nat × Nat} (h:W.heap[g]?=some (.cells (bD O) t fz)):RS W g=tZ O:=by
 unfold RS tZ;rw[h];simp only[bD,List.toList_toArray,List.map_map];rfl
def V0(c:Value) (x:Nat):Nat:=match c with|.bool true=>x+1|_=>0
theorem Pv(va vb:Value) (a b:List Int) (w:World) (ha:aX w va a) (hb:aX w vb b) (hl:b.length=a.length) (hn:a.length<=256) :
  Calls Tryz.prog 92 #[va,vb] w fun r w'=>∃ u,r=.returned u/\aX w' u (kQ a b)/\Below w.heap.size w w':=by
 obtain⟨pa,ca,rfl,ea⟩:=ef ha;obtain⟨pb,cb,rfl,eb⟩:=ef hb;have EA:=aa ea;have EB:=aa eb;obtain⟨n,fw⟩:∃ n,a.length=n:=⟨_,rfl⟩;rw[hl,fw]at EB;rw[fw]at EA hn;rw[hl,fw];have nq:=aa fw;have fX:=js (fun k:Nat=>(k:Int)) n hn;have BF:am (fC n (fun k:Nat=>(k:Int)) n=bD ((List.range n).map fun i:Nat=>(i:Int))):=aa (by rw[p9]);have HGS:=aa (Glu.start a b n);clear ha hb ea eb hl fw
 go_enter Tryz.func92,Tryz.ntmps92
 go_wp2_with fail
 clear fX;refine bF (fun W=>Below w.heap.size w W/\W.heap[w.heap.size]?=some (.cells (fC n (fun k:Nat=>(k:Int)) 0) 3)) ⟨by go_grown,ap _ _⟩ (fun W0 bd=>?_);have iO:=aa bd;clear bd
 go_loopw [6] (fun i wr=>∃ k:Nat,k<=n/\i=.int .i64 k/\Below w.heap.size w wr/\wr.heap[w.heap.size]?=some (.cells (fC n (fun k:Nat=>(k:Int)) k) 3)) (fun i _=>n - (intOf i).toNat)
 ·exact⟨0,by omega,rfl,iO.o.1,iO.o.2⟩
 ·
  clear iO;obtain⟨k,hk,rfl,aA,hO⟩:=hrel;have HO:=aa hO;have aY:=aa aA;by_cases aB:k<n
  ·have tq:=ab hO k;rw[l5 _ _ _ _ aB]at tq;have zq:=aH hO k;clear hO aA
   go_wp2_with fail
   go_roundw
   ·exact⟨k+1,by omega,by go_num,aY.o.setCell (by dsimp only;omega) _,by rw[aI HO.o,uE n (fun k:Nat=>(k:Int)) k aB]⟩
   ·simp[intOf];omega
  obtain rfl:k=n:=by omega
  have eP:am (wr.heap[w.heap.size]?=some (.cells (bD ((List.range k).map fun i:Nat=>(i:Int))) 3)):=aa (by rw[hO,BF.o]);clear hO aA
  go_wp2_with fail
  clear HO;obtain⟨g,hg⟩:∃ g,w.heap.size=g:=⟨_,rfl⟩;have HG:=aa hg;rw[hg]at eP ⊢;obtain⟨w4,yJ⟩:∃ x,x=wr:=⟨_,rfl⟩;subst yJ;clear hg W0
  go_loopw [7] (fun c wr=>∃ (O:List Int) (ch:Bool),c=.bool ch/\Glu a b k O/\(ch=false->∀ i,i<k->∀ k',k'<i->dM a b i k'=true->O.getD i 0=O.getD k' 0)/\Below w.heap.size w wr/\wr.heap[g]?=some (.cells (bD O) 3)) (fun c wr=>V0 c (RS wr g))
  ·exact⟨_,true,rfl,HGS.o,fun h=>(by cases h),aY.o,eP.o⟩
  ·
   clear aY eP;obtain⟨O,ch,rfl,M',aT,aA,hO⟩:=hrel;have LO:=aa M';have aY:=aa aA;have HO:=aa hO;cases ch with
   | false=>
    have mP:=aa (aT rfl)
    have HI:am (aX wr (.slice (some ⟨g,0,none⟩) k k) O):=aa (rA LO.o.len hn HO.o fun i hi=>by
     have:=LO.o.le i (by rw[<-LO.o.len];exact hi);have:=LO.o.len
     exact⟨by omega,by omega⟩)
    have Ly:=aa (An _ O (by have:=LO.o.len;omega) wr HI.o);have HJ:am (lg O=kQ a b):=aa (QY nq.o LO.o fun i k' hi qS hq=>mP.o i hi k' qS hq);clear M' aT aA hO
    go_wp2_with fail
    refine Ly.o.mono ?_;rintro r w2 ⟨u,rfl,hu,aZ⟩;obtain⟨au,cu,rfl,_⟩:=hu.at;have HU:=aa hu;have cX:=aa (ae aY.o aZ);clear hu aZ
    go_wp2_with fail
    go_ret
    exact⟨_,rfl,by rw[<-HJ.o];exact HU.o,cX.o⟩
   | true=>
    have Tl:am (jt a b k O 0 0 O false):=aa ⟨M',.inr ⟨rfl,rfl,fun i' oU=>by omega,fun k' qS=>by omega⟩⟩;clear M' aT aA hO;obtain⟨w5,PV⟩:∃ x,x=wr:=⟨_,rfl⟩;subst PV
    go_wp2_with fail
    go_loopw [7,8] (fun c x wr=>∃ (P:List Int) (ch:Bool) (i:Nat),i<=k/\c=.bool ch/\x=.int .i64 i/\jt a b k O i 0 P ch/\Below w.heap.size w wr/\wr.heap[g]?=some (.cells (bD P) 3)) (fun _ x _=>k - (intOf x).toNat)
    ·exact⟨O,false,0,by omega,rfl,rfl,Tl.o,aY.o,HO.o⟩
    ·
     clear Tl;obtain⟨P,ch,i,kI,rfl,rfl,hP,aA,hO⟩:=hrel;have HP:=aa hP;have ff:=aa aA;have yD:=aa hO;clear hP aA hO;obtain⟨w6,Qw⟩:∃ x,x=wr:=⟨_,rfl⟩;subst Qw;by_cases aB:i<k
     ·go_wp2_with fail
      go_loopw [7,9] (fun c x wr=>∃ (P:List Int) (ch:Bool) (j:Nat),j<=i/\c=.bool ch/\x=.int .i64 j/\jt a b k O i j P ch/\Below w.heap.size w wr/\wr.heap[g]?=some (.cells (bD P) 3)) (fun _ x _=>i - (intOf x).toNat)
      ·exact⟨P,ch,0,by omega,rfl,rfl,HP.o,ff.o,yD.o⟩
      ·
       clear HP ff yD;obtain⟨P,ch,j,oO,rfl,rfl,hP,aA,hO⟩:=hrel;have HP:=aa hP;have ff:=aa aA;have yD:=aa hO;by_cases fH:j<i
       ·obtain⟨ba,oa,rfl,ai⟩:=EA.o i aB;obtain⟨_,_,e1,aj⟩:=EA.o j (by omega);injection e1 with e1
        injection e1 with e11 e12
        subst e11 e12;obtain⟨bb,ob,rfl,bi⟩:=EB.o i aB;obtain⟨_,_,e1,bj⟩:=EB.o j (by omega);injection e1 with e1
        injection e1 with e11 e12
        subst e11 e12;have Jm:am (dM a b i j=(decide (a.getD i 0=a.getD j 0) || decide (b.getD i 0=b.getD j 0))):=aa rfl;have FO:=HP.o.1.len;have tp1:=ab hO i;rw[gi _ _ (by omega)]at tp1;have tp2:=ab hO j;rw[gi _ _ (by omega)]at tp2;obtain⟨pi,xa⟩:∃ x,P.getD i 0=x:=⟨_,rfl⟩;obtain⟨pj,wW⟩:∃ x,P.getD j 0=x:=⟨_,rfl⟩;rw[xa]at tp1;rw[wW]at tp2;have ya1:∀ z:ExtW wr,z.val.cell? ⟨ba,oa+i,none⟩=_:=fun z=>ak (ae ff.o z.ext) ai
        have ya2:∀ z:ExtW wr,z.val.cell? ⟨ba,oa+j,none⟩=_:=fun z=>ak (ae ff.o z.ext) aj
        have yb1:∀ z:ExtW wr,z.val.cell? ⟨bb,ob+i,none⟩=_:=fun z=>ak (ae ff.o z.ext) bi
        have yb2:∀ z:ExtW wr,z.val.cell? ⟨bb,ob+j,none⟩=_:=fun z=>ak (ae ff.o z.ext) bj
        have yp1:∀ z:ExtW wr,z.val.cell? ⟨g,i,none⟩=_:=fun z=>ak z.ext tp1
        have yp2:∀ z:ExtW wr,z.val.cell? ⟨g,j,none⟩=_:=fun z=>ak z.ext tp2
        generalize a.getD i 0=xi at ya1 Jm;generalize a.getD j 0=xj at ya2 Jm;generalize b.getD i 0=yi at yb1 Jm;generalize b.getD j 0=yj at yb2 Jm;clear hP aA hO ai aj bi bj;by_cases h1:xi=xj
        ·have dJ:(xi == xj)=true:=by simp[h1]
         by_cases h3:pi=pj
         ·have wX:(pi != pj)=false:=by simp[h3]
          have mo:am (jt a b k O i (j+1) P ch):=aa (HP.o.same (fun _=>by rw[xa,wW];exact h3));clear h1 h3 xa wW
          go_wp2_with fail
          refine aF (by kernel_rfl) (by kernel_rfl) ?_
          repeat (go_big_quiet_step (fail))
          refine wpQuiet_nil ?_;rintro _ ⟨xq,rfl⟩;clear ya1 ya2 yb1 yb2 yp1 yp2
          go_wp2_with fail
          go_roundw
          ·exact⟨P,ch,j+1,by omega,rfl,by go_num,mo.o,ae ff.o xq.ext,af xq.ext yD.o⟩
          ·simp[intOf];omega
         ·have wX:(pi != pj)=true:=by simpa using h3
          have WX:am (jt a b k O i (j+1) (lF P i j) true):=aa (HP.o.put aB fH (by rw[Jm.o];simp[h1]) (by rw[xa,wW];exact h3));have Wp:=aa xa;have XR:=aa wW;clear h1 h3 xa wW
          go_wp2_with fail
          refine aF (by kernel_rfl) (by kernel_rfl) ?_
          repeat (go_big_quiet_step (fail))
          refine wpQuiet_nil ?_;rintro _ ⟨xq,rfl⟩;have zp1:∀ z:ExtW xq.val,z.val.cell? ⟨g,i,none⟩=_:=fun z=>ak (ae xq.ext z.ext) tp1
          have zp2:∀ z:ExtW xq.val,z.val.cell? ⟨g,j,none⟩=_:=fun z=>ak (ae xq.ext z.ext) tp2
          clear ya1 ya2 yb1 yb2 yp1 yp2
          go_wp2_with fail
          refine aF (by kernel_rfl) (by kernel_rfl) ?_
          repeat (go_big_quiet_step (fail))
          refine wpQuiet_nil ?_;rintro _ ⟨x2,rfl⟩;have tD:=af (ae xq.ext x2.ext) yD.o;have kY:=ae ff.o (ae xq.ext x2.ext);generalize x2.val=V at tD kY ⊢;have c1:=ab tD i;rw[gi _ _ (by omega)]at c1;have f1:=aH tD i;have zk:=aI tD i (.int .i64 (min pi pj));rw[l6]at zk;have c2:=ab zk j;rw[gi _ _ (by simp;omega)]at c2;have f2:=aH zk j;have yu:=aa zk;have FJ:=aa kY;clear zp1 zp2 tD zk kY tp1 tp2
          go_wp2_with fail
          go_roundw
          ·
           refine⟨lF P i j,true,j+1,by omega,rfl,by go_num,WX.o,(FJ.o.setCell (by dsimp only;rw[HG.o];exact Nat.le_refl _) _).setCell (by dsimp only;rw[HG.o];exact Nat.le_refl _) _,?_⟩;rw[aI yu.o,l6];unfold lF;rw[Wp.o,XR.o]
          ·simp[intOf];omega
        ·have dJ:(xi == xj)=false:=beq_eq_false_iff_ne.2 h1;by_cases h2:yi=yj
         ·have ed:(yi == yj)=true:=by simp[h2]
          by_cases h3:pi=pj
          ·have wX:(pi != pj)=false:=by simp[h3]
           have mo:am (jt a b k O i (j+1) P ch):=aa (HP.o.same (fun _=>by rw[xa,wW];exact h3));clear h1 h2 h3 xa wW
           go_wp2_with fail
           refine aF (by kernel_rfl) (by kernel_rfl) ?_
           repeat (go_big_quiet_step (fail))
           refine wpQuiet_nil ?_;rintro _ ⟨xq,rfl⟩;clear ya1 ya2 yb1 yb2 yp1 yp2
           go_wp2_with fail
           go_roundw
           ·exact⟨P,ch,j+1,by omega,rfl,by go_num,mo.o,ae ff.o xq.ext,af xq.ext yD.o⟩
           ·simp[intOf];omega
          ·have wX:(pi != pj)=true:=by simpa using h3
           have WX:am (jt a b k O i (j+1) (lF P i j) true):=aa (HP.o.put aB fH (by rw[Jm.o];simp[h2]) (by rw[xa,wW];exact h3));have Wp:=aa xa;have XR:=aa wW;clear h1 h2 h3 xa wW
           go_wp2_with fail
           refine aF (by kernel_rfl) (by kernel_rfl) ?_
           repeat (go_big_quiet_step (fail))
           refine wpQuiet_nil ?_;rintro _ ⟨xq,rfl⟩;have zp1:∀ z:ExtW xq.val,z.val.cell? ⟨g,i,none⟩=_:=fun z=>ak (ae xq.ext z.ext) tp1
           have zp2:∀ z:ExtW xq.val,z.val.cell? ⟨g,j,none⟩=_:=fun z=>ak (ae xq.ext z.ext) tp2
           clear ya1 ya2 yb1 yb2 yp1 yp2
           go_wp2_with fail
           refine aF (by kernel_rfl) (by kernel_rfl) ?_
           repeat (go_big_quiet_step (fail))
           refine wpQuiet_nil ?_;rintro _ ⟨x2,rfl⟩;have tD:=af (ae xq.ext x2.ext) yD.o;have kY:=ae ff.o (ae xq.ext x2.ext);generalize x2.val=V at tD kY ⊢;have c1:=ab tD i;rw[gi _ _ (by omega)]at c1;have f1:=aH tD i;have zk:=aI tD i (.int .i64 (min pi pj));rw[l6]at zk;have c2:=ab zk j;rw[gi _ _ (by simp;omega)]at c2;have f2:=aH zk j;have yu:=aa zk;have FJ:=aa kY;clear zp1 zp2 tD zk kY tp1 tp2
           go_wp2_with fail
           go_roundw
           ·
            refine⟨lF P i j,true,j+1,by omega,rfl,by go_num,WX.o,(FJ.o.setCell (by dsimp only;rw[HG.o];exact Nat.le_refl _) _).setCell (by dsimp only;rw[HG.o];exact Nat.le_refl _) _,?_⟩;rw[aI yu.o,l6];unfold lF;rw[Wp.o,XR.o]
           ·simp[intOf];omega
         ·have ed:(yi == yj)=false:=beq_eq_false_iff_ne.2 h2;have oT:am (¬ dM a b i j=true):=aa (by rw[Jm.o];simp[h1,h2]);have mo:am (jt a b k O i (j+1) P ch):=aa (HP.o.same (fun h=>absurd h oT.o));clear h1 h2 xa wW
          go_wp2_with fail
          refine aF (by kernel_rfl) (by kernel_rfl) ?_
          repeat (go_big_quiet_step (fail))
          refine wpQuiet_nil ?_;rintro _ ⟨xq,rfl⟩;clear ya1 ya2 yb1 yb2 yp1 yp2
          go_wp2_with fail
          go_roundw
          ·exact⟨P,ch,j+1,by omega,rfl,by go_num,mo.o,ae ff.o xq.ext,af xq.ext yD.o⟩
          ·simp[intOf];omega
       ·obtain rfl:j=i:=by omega
        clear hP aA hO
        go_wp2_with fail
        go_roundw
        ·exact⟨P,ch,j+1,by omega,rfl,by go_num,HP.o.row,ff.o,yD.o⟩
        ·simp[intOf];omega
     ·obtain rfl:i=k:=by omega
      go_wp2_with fail
      go_roundw
      ·
       refine⟨P,ch,rfl,HP.o.1,fun h=>?_,ff.o,yD.o⟩;rcases HP.o.2 with ⟨h2,_⟩|⟨_,_,h4,_⟩
       ·rw[h]at h2;cases h2
       ·exact h4
      ·
       have e1:=KR HO.o;have e2:=KR yD.o;rcases HP.o.2 with ⟨h2,h3⟩|⟨h2,_⟩
       ·subst h2;simp[V0];omega
       ·subst h2;simp[V0]
theorem MG(s:Sys) (hs:SysOk s) (hE:eS s<=256) (vc vs vt ve:Value) (w:World) (dC:IsSys w s vc vs vt ve) :
  Calls Tryz.prog 50 #[.agg (bZ s.prob vc vs s.n vt ve)] w fun r w'=>∃ u,r=.returned u/\aX w' u (partsS s)/\Below w.heap.size w w':=by
 have HS:=aa dC;obtain⟨⟨pc,cc,rfl⟩,⟨ps,cs,rfl⟩,⟨pt,ct,rfl⟩,⟨pe,ce,rfl⟩⟩:=bM dC;clear dC;have ju:=aa (fun p (hp:p<nS s) W (hb:Below w.heap.size w W)=>MF s hs p hp _ _ _ _ W (HS.o.up hb));have fw:=hs.n.2.2.1;have jZ:=hs.n.1;have jz:=hs.n.2.1;have qI:am (∀ k,(eo s k).length=eS s):=aa (gO s);have qP:am (∀ p,(classL s p).length=eS s):=aa (jq s);have HPS:am (∀ k,eo s (k+1)=kQ (eo s k) (classL s (k+1))):=aa fun k=>rfl
 have Tl:am (eo s 0=classL s 0):=aa rfl;have jD:am (partsS s=eo s (nS s - 1)):=aa rfl;obtain⟨n,hn⟩:∃ n,nS s=n:=⟨_,rfl⟩;rw[hn]at fw jZ jz ju jD;rw[fw]at ju ⊢;generalize partsS s=ps0 at jD ⊢;clear hn fw
 go_enter Tryz.func50,Tryz.ntmps50
 go_wp2_with fail
 refine aQ (fun W=>Below w.heap.size w W/\∃ c,W.heap[w.heap.size]?=some (.cells c 35)/\c=bZ s.prob (.slice pc s.prob.t.cases.length cc) (.slice ps s.prob.a.states.length cs) (n:Int) (.slice pt s.tab.length ct) (.slice pe s.ex.length ce)) ⟨by go_grown,_,ap _ _,rfl⟩ (fun W0 bd=>?_);obtain⟨aK,_,hA,rfl⟩:=bd;have fA:=aa aK;have HA:=aa hA;have uW:=ju.o 0 (by omega) W0 aK;rw[show ((0:Nat):Int)=0 from rfl]at uW;refine uW.mono ?_;rintro r w1 ⟨u,rfl,hu,aM⟩;have HU:=aa hu;obtain⟨au,cu,rfl,_⟩:=hu.at;rw[qP.o]at HU;have bL:=aa aM;rw[qP.o];clear aK hA uW hu aM
 go_wp2_with fail
 go_loopw [3,4] (fun o i wr=>∃ k:Nat,k<n/\i=.int .i64 ((k:Int)+1)/\Below W0.heap.size W0 wr/\∃ a c,o=.slice a (eS s) c/\aX wr (.slice a (eS s) c) (eo s k)) (fun _ i _=>n+1 - (intOf i).toNat)
 ·exact⟨0,by omega,rfl,bL.o,au,cu,rfl,by rw[Tl.o];exact HU.o⟩
 ·
  clear bL HU;obtain⟨k,hk,rfl,aA,a,c,rfl,hI⟩:=hrel;have aY:=aa aA;have HI:=aa hI;have tS:=ab (af aA HA.o);clear aA hI;by_cases aB:k+1<n
  ·have nZ:(k:Int)+1<(n:Int):=by omega
   have bU:=ju.o (k+1) aB wr (ae fA.o aY.o);rw[show ((k+1:Nat):Int)=(k:Int)+1 by omega]at bU;have HC:=aa bU;clear bU
   go_wp2_with fail
   clear tS;refine HC.o.mono ?_;rintro r w2 ⟨u,rfl,hu,aZ⟩;have HU:=aa hu;obtain⟨a2,c2,rfl,_⟩:=hu.at;have cX:=aa aZ;have HGU:=aa (Pv _ _ (eo s k) (classL s (k+1)) w2 (HI.o.up up_int cX.o) HU.o (by rw[qI.o,qP.o]) (by rw[qI.o];exact hE));rw[qP.o]at HGU ⊢;clear hu aZ HC
   go_wp2_with fail
   refine HGU.o.mono ?_;rintro r w3 ⟨u3,rfl,sa,bG⟩;have fH:(kQ (eo s k) (classL s (k+1))).length=eS s:=by rw[<-HPS.o,qI.o]
   obtain⟨a3,c3,rfl,_⟩:=sa.at;rw[fH]at sa ⊢;have HU3:=aa sa;have dT:=aa bG;clear sa bG fH
   go_wp2_with fail
   go_roundw
   ·exact⟨k+1,aB,by go_num,ae aY.o (ae cX.o dT.o),a3,c3,rfl,by rw[HPS.o];exact HU3.o⟩
   ·simp[intOf];omega
  ·have nZ:¬ (k:Int)+1<(n:Int):=by omega
   have HK:am (ps0=eo s k):=aa (by rw[jD.o,show n - 1=k by omega])
   go_wp2_with fail
   go_ret
   exact⟨_,rfl,by rw[HK.o];exact HI.o,ae fA.o aY.o⟩
end Go.Proofs.YtmeaoneaephjeaaGreatDoor
namespace Go.Proofs.YtmeaoneaephjeaaGreatDoor
def jJ(dh:Int) (st:List Int × List Nat) (f:Nat):List Int × List Nat:=if st.1.getD f 0<0 then(st.1.set f dh,st.2++[f]) else st
def eI(s:Sys) (h:Nat) (D:List Int) (l:List Nat):List Int × List Nat:=l.foldl (jJ (D.getD h 0+1)) (D,[])
theorem Co(s:Sys) (h:Nat) (D:List Int) (l:List Nat) (f:Nat):eI s h D (l++[f])=jJ (D.getD h 0+1) (eI s h D l) f:=by simp[eI]
theorem Pw(dh:Int) (st:List Int × List Nat) (f:Nat):(jJ dh st f).1.length=st.1.length:=by unfold jJ;split<;>simp
theorem yk(s:Sys) (h:Nat) (D:List Int) (l:List Nat):(eI s h D l).1.length=D.length:=by
 unfold eI;generalize D.getD h 0+1=dh
 have key:∀ (l:List Nat) (st:List Int × List Nat),(l.foldl (jJ dh) st).1.length=st.1.length:=by
  intro l;induction l with
  | nil=>intro st;rfl
  | cons a r ih=>intro st;rw[List.foldl_cons,ih,Pw]
 exact key l _
theorem RT{s:Sys} {h:Nat} {D:List Int} (hl:D.length=eS s) (h0:0<=D.getD h 0):∀ k,k<=eS s->(∀ e,e<eS s->(eI s h D (fW s h k)).1.getD e 0=ji (eU s) (fun e=>D.getD e 0) h k e)/\(eI s h D (fW s h k)).2=tY (eU s) (fun e=>D.getD e 0) h k:=by
 intro k;induction k with
 | zero=>intro _;exact⟨fun e _=>by unfold ji;rw[if_neg (by omega)];rfl,rfl⟩
 | succ k ih=>
  intro hk;obtain⟨i1,i2⟩:=ih (by omega);have cP:=yk s h D (fW s h k)
  have hq:tY (eU s) (fun e=>D.getD e 0) h (k+1)=tY (eU s) (fun e=>D.getD e 0) h k++if decide (D.getD k 0<0)&&eU s h k then [k] else []:=by
   unfold tY;rw[List.range_succ,List.filter_append];cases hb:decide (D.getD k 0<0)&&eU s h k<;>simp[hb]<;>simpa using hb
  have Er:(eI s h D (fW s h k)).1.getD k 0=D.getD k 0:=by rw[i1 k (by omega)];unfold ji;rw[if_neg (by omega)]
  cases hn:sK s h k with
  | true=>
   have gM:eU s h k=true:=by unfold sK at hn;simp only[Bool.and_eq_true]at hn;exact hn.1
   rw[wn hn,Co];unfold jJ;rw[Er];by_cases hd:D.getD k 0<0
   ·rw[if_pos hd];refine⟨fun e he=>?_,?_⟩
    ·dsimp only;rw[fD _ _ _ _ _ (by omega)];by_cases ee:e=k
     ·subst ee;rw[if_pos rfl];unfold ji;rw[if_pos ⟨by omega,hd,gM⟩]
     ·rw[if_neg ee,i1 e he];unfold ji;by_cases hc:e<k/\D.getD e 0<0/\eU s h e=true
      ·rw[if_pos hc,if_pos ⟨by omega,hc.2⟩]
      ·rw[if_neg hc,if_neg (fun h=>hc ⟨by omega,h.2⟩)]
    ·dsimp only;rw[i2,hq,decide_eq_true hd,gM];rfl
   ·rw[if_neg hd];refine⟨fun e he=>?_,?_⟩
    ·rw[i1 e he];unfold ji;by_cases ee:e=k
     ·subst ee;rw[if_neg (fun h=>hd h.2.1),if_neg (fun h=>hd h.2.1)]
     ·by_cases hc:e<k/\D.getD e 0<0/\eU s h e=true
      ·rw[if_pos hc,if_pos ⟨by omega,hc.2⟩]
      ·rw[if_neg hc,if_neg (fun h=>hc ⟨by omega,h.2⟩)]
    ·rw[i2,hq,decide_eq_false hd,Bool.false_and];simp
  | false=>
   rw[zz hn]
   have jw:¬ (D.getD k 0<0/\eU s h k=true):=fun ⟨g1,g2⟩=>by
    unfold sK at hn;rw[g2,Bool.true_and]at hn;have:k=h:=by simpa using hn
    subst this;omega
   refine⟨fun e he=>?_,?_⟩
   ·rw[i1 e he];unfold ji;by_cases ee:e=k
    ·subst ee;rw[if_neg (fun h=>jw h.2),if_neg (fun h=>jw h.2)]
    ·by_cases hc:e<k/\D.getD e 0<0/\eU s h e=true
     ·rw[if_pos hc,if_pos ⟨by omega,hc.2⟩]
     ·rw[if_neg hc,if_neg (fun h=>hc ⟨by omega,h.2⟩)]
   ·rw[i2,hq];cases hd:decide (D.getD k 0<0)&&eU s h k with
    | false=>simp
    | true=>simp only[Bool.and_eq_true,decide_eq_true_eq]at hd;exact absurd hd jw
theorem Fl{n:Nat} {L:Nat->Nat->Bool} {f:Nat} {D E:Nat->Int} {Q:List Nat} (hf:f<n) (h:Bfs n L f D Q) (he:∀ e,e<n->D e=E e):Bfs n L f E Q:=by
 refine⟨by rw[<-he f hf];exact h.zero,fun e h1 h2=>h.only e h1 (by rw[he e h1];exact h2),fun e h1=>by rw[<-he e h1];exact h.low e h1,fun e h1 d h2=>?_,fun q hq=>?_,fun e g h1 h2 h3 h4 h5=>?_,?_,fun a r h1 e h2=>?_⟩
 ·obtain⟨g,hg,e1,e2⟩:=h.pred e h1 d (by rw[he e h1];exact h2);exact⟨g,hg,by rw[<-he g hg];exact e1,e2⟩
 ·have:=h.ok q hq;exact⟨this.1,by rw[<-he q this.1];exact this.2⟩
 ·rw[<-he e h1,<-he g h2];exact h.done e g h1 h2 (by rw[he g h2];exact h3) h4 h5
 ·refine h.asc.imp_of_mem fun {a b} ha hb Ao=>?_
  rw[<-he a (h.ok a ha).1,<-he b (h.ok b hb).1];exact Ao
 ·have ha:=(h.ok a (by rw[h1];simp)).1;rw[<-he e h2,<-he a ha];exact h.near a r h1 e h2
theorem Px{s:Sys} {f h:Nat} (hf:f<eS s) {D:List Int} {r:List Nat} (hl:D.length=eS s) (b:Bfs (eS s) (eU s) f (fun e=>D.getD e 0) (h :: r)) :
  Bfs (eS s) (eU s) f (fun e=>(eI s h D (dZ s h)).1.getD e 0) (r++(eI s h D (dZ s h)).2)/\(r++(eI s h D (dZ s h)).2).length+((List.range (eS s)).filter fun e=>decide ((eI s h D (dZ s h)).1.getD e 0<0)).length<(h :: r).length+((List.range (eS s)).filter fun e=>decide (D.getD e 0<0)).length:=by
 have h0:=(b.ok h (by simp)).2;obtain⟨i1,i2⟩:=RT hl h0 (eS s) (Nat.le_refl _);unfold dZ;refine⟨?_,?_⟩
 ·rw[i2];exact Fl hf (b.step (fun e g=>He s e g)) fun e he=>(i1 e he).symm
 ·have h3:=J0 (n:=eS s) (eU s) (fun e=>D.getD e 0) h h0 r;rw[i2]
  have h4:((List.range (eS s)).filter fun e=>decide ((eI s h D (fW s h (eS s))).1.getD e 0<0))=(List.range (eS s)).filter fun e=>decide (ji (eU s) (fun e=>D.getD e 0) h (eS s) e<0):=
   List.filter_congr fun e he=>by rw[i1 e (List.mem_range.1 he)]
  rw[h4];exact h3
theorem Vn{s:Sys} {f:Nat} (hf:f<eS s) {D:List Int} (hl:D.length=eS s) (b:Bfs (eS s) (eU s) f (fun e=>D.getD e 0) []):D=db s f:=by
 have h1:=JZ b.dist (lh hf);refine List.ext_getElem (by rw[hl,vU]) fun i h2 h3=>?_
 have h4:=h1 i (by omega);rw[show D.getD i 0=D[i] by simp[h2],show (db s f).getD i 0=(db s f)[i] by simp[h3]]at h4;exact h4
def labI(s:Sys):Int:=firstIx (jb s).length fun i=>decide ((-1:Int)=(jb s).getD i 0)
theorem KS(s:Sys):(jb s).length=nO s+1:=by simp[jb,kN]
theorem Eb(s:Sys) (k:Nat) (hk:k<nO s+1):(jb s).getD k 0=comB s (memL (partsS s) k):=by simp[jb,kN,hk]
theorem RU(s:Sys) (l:List Nat) (h:comB s l<0):comB s l=-1:=by
 unfold comB at *;rcases bH (oS s) (fun v=>l.all fun e=>valB s e v) with ⟨e,_⟩|⟨k,_,e,_⟩<;>omega
theorem RV{s:Sys} (h0:0<eS s) (h:lQ s<0):labI s<0:=by
 unfold labI;rcases bH (jb s).length (fun i=>decide ((-1:Int)=(jb s).getD i 0)) with ⟨e,_⟩|⟨k,hk,_,h2,_⟩
 ·omega
 ·exfalso;rw[KS]at hk;obtain⟨e,he,h3⟩:=Al h0 k (by omega);have h4:=nH s e he;have h5:=of_decide_eq_true h2;rw[Eb s k hk]at h5;rw[h3]at h4;unfold lQ at h;rcases bH (eS s) (fun e=>decide ((choiceS s).getD e 0<0)) with ⟨_,h6⟩|⟨j,_,e6,_⟩
  ·have:=h6 e he;rw[h4,<-h5]at this;simp at this
  ·omega
theorem RW{s:Sys} (h0:0<eS s) (h:¬ lQ s<0):(lQ s).toNat<eS s/\0<=labI s/\labI s=(partsS s).getD (lQ s).toNat 0:=by
 have hb:∃ j,j<eS s/\lQ s=j/\(choiceS s).getD j 0<0/\∀ i,i<j->¬ (choiceS s).getD i 0<0:=by
  unfold lQ at h ⊢;rcases bH (eS s) (fun e=>decide ((choiceS s).getD e 0<0)) with ⟨e,_⟩|⟨j,hj,e6,h6,h7⟩
  ·omega
  ·exact⟨j,hj,e6,of_decide_eq_true h6,fun i hi=>of_decide_eq_false (h7 i hi)⟩
 obtain⟨j,hj,e1,h1,h2⟩:=hb;rw[e1,Int.toNat_natCast];have hr:=kM s j hj;have ht:=qf h0 j hj;obtain⟨k,hk⟩:∃ k:Nat,(partsS s).getD j 0=k:=⟨((partsS s).getD j 0).toNat,by omega⟩;rw[hk]at ht ⊢;refine⟨hj,?_⟩;have hch:=nH s j hj;rw[hk]at hch
 have:labI s=k:=by
  unfold labI;refine dq _ k _ (by rw[KS];omega) (fun i hi=>?_) ?_
  ·refine decide_eq_false fun e=>?_
   rw[Eb s i (by omega)]at e;obtain⟨j',m7,e3⟩:=vO (ss s) j (by rw[dN];exact hj) i (by omega) (by omega);have h4:=nH s j' (by omega);rw[e3,<-e]at h4;exact h2 j' m7 (by omega)
  ·rw[Eb s k (by omega),decide_eq_true_eq,RU s _ (by rw[<-hch];exact h1)]
 omega
theorem Fm{s:Sys}:∀ (l:List Lk) (e:Nat),chainB s e l->∀ y∈l,(0<=y.x/\y.x.toNat<eS s)/\0<=y.p/\y.p<nS s
 | [],_,_,y,hy=>by cases hy
 | z :: r,e,⟨h1,h2,h3,h4,_,h6⟩,y,hy=>by
  rcases List.mem_cons.1 hy with rfl|hy
  ·exact⟨⟨h1,h2⟩,h3,h4⟩
  ·exact Fm r _ h6 y hy
theorem Vo{s:Sys} (hs:SysOk s) (k:Int):∀ y∈gG s (memL (partsS s) k),(0<=y.x/\y.x.toNat<eS s)/\-1<=y.p/\y.p<nS s:=by
 cases hm:memL (partsS s) k with
 | nil=>intro y hy;cases hy
 | cons a r=>
  obtain⟨h1,h2,_⟩:=Oj hs k a r hm;intro y hy;rcases List.mem_cons.1 hy with rfl|hy
  ·exact⟨⟨by dsimp only;omega,by dsimp only;omega⟩,by dsimp only;omega,by dsimp only;omega⟩
  ·obtain⟨h3,h4,h5⟩:=Fm _ _ h2 y hy;exact⟨h3,by omega,h5⟩
theorem V1{s:Sys} {l:List Lk} {i:Nat} (hi:i<l.length) (h0:∀ j,j<i->cW s (l.take (j+1))=false) (h1:cW s (l.take (i+1))=true):nF s l=l.take (i+1):=by
 unfold nF rf;rw[dq l.length i (fun i=>cW s (l.take (i+1))) hi h0 h1,if_neg (by omega),Int.toNat_natCast]
theorem KT{s:Sys} {l:List Lk} (h0:∀ j,j<l.length->cW s (l.take (j+1))=false):nF s l=l:=by
 unfold nF rf;rcases bH l.length (fun i=>cW s (l.take (i+1))) with ⟨e,_⟩|⟨k,hk,_,h2,_⟩
 ·rw[e,if_pos (by omega),List.take_length]
 ·rw[h0 k hk]at h2;cases h2
theorem RX{s:Sys} {l:List Lk} {i:Nat} (hi:i<l.length) (h0:∀ j,j<i->cW s (l.take (j+1))=false):i<(nF s l).length:=by
 unfold nF rf;rcases bH l.length (fun i=>cW s (l.take (i+1))) with ⟨e,_⟩|⟨k,hk,e,h2,_⟩
 ·rw[e,if_pos (by omega),List.take_length];exact hi
 ·rw[e,if_neg (by omega),Int.toNat_natCast,List.length_take];by_cases h:k<i
  ·rw[h0 k h]at h2;cases h2
  ·omega
theorem RY{s:Sys} {l:List Lk} {i:Nat} (hi:i<l.length):comM s (cJ (l.take (i+1)))=comM s (cJ (l.take i)) &&& ie s (l.getD i default).x.toNat:=by
 rw[List.take_succ_eq_append_getElem hi,vV,show l.getD i default=l[i] by simp[hi]];exact EZ s _ _
end Go.Proofs.YtmeaoneaephjeaaGreatDoor
