/-
  A part of the proof: lemmas and contracts that the parts behind it use. Each one's conditions are its own premises.
-/
import Derived.Test.YtmeaoneaephjeaaGreatDoorK11
set_option maxRecDepth 100000
set_option maxHeartbeats 8000000
set_option linter.unusedVariables false
set_option linter.unusedSimpArgs false
namespace Go.Proofs.YtmeaoneaephjeaaGreatDoor
open Go.RowKit Go Go.Shelf
attribute [local go_sem] Oper.semAt_some
theorem Mh(t:Tk) (vc:Value) (w:World) (hv:bK w vc t.cases) :
  Calls Tryz.prog 79 #[.agg #[.int .i64 t.n,.int .i64 t.ins,.int .i64 t.outs,vc]] w fun e w'=>e=.returned (.bool (agreeB t))/\Below w.heap.size w w':=by
 obtain⟨pc,cc,rfl,l1,m1,e1⟩:=hv.at;clear hv;have E:=aa e1;clear e1
 have fD:Hid (∀ k j,k<t.cases.length->j<(t.cases.getD k default).out.length->constB ((t.cases.getD k default).out.getD j [])=false->agreeB t=false):=aa fun k j hk hj h=>by
  cases ha:agreeB t with
  | false=>rfl
  | true=>rw[(pA t).1 ha k hk j hj]at h;cases h
 have ju:Hid ((∀ k,k<t.cases.length->∀ j,j<(t.cases.getD k default).out.length->constB ((t.cases.getD k default).out.getD j [])=true)->agreeB t=true):=aa fun h=>(pA t).2 h
 generalize agreeB t=ag at fD ju
 go_enter Tryz.func79,Tryz.ntmps79
 go_wp2_with fail
 refine bj (fun W=>Below w.heap.size w W/\W.heap[w.heap.size]?=some (.cells #[.int .i64 t.n,.int .i64 t.ins,.int .i64 t.outs,.slice pc t.cases.length cc] 24)) ⟨by go_grown,ak _ _⟩ (fun W0 aW=>?_);have cM:=aa aW.1;have gT:=aa aW.2;clear aW
 go_loopw [3] (fun i wr=>∃ k:Nat,k<=t.cases.length/\i=.int .i64 k/\Below W0.heap.size W0 wr/\∀ q,q<k->∀ j,j<(t.cases.getD q default).out.length->constB ((t.cases.getD q default).out.getD j [])=true) (fun i _=>t.cases.length - (intOf i).toNat)
 case atStart=>exact⟨0,by omega,rfl,Below.refl _ _,fun q hq=>by omega⟩
 case round=>
  obtain⟨k,hk,rfl,aq,aS⟩:=hrel;have H:=aa aS;clear aS;have dq:=ae cM.out aq;have eP:=aa dq;have HBR0:=aa aq;have tA:=ab (af aq gT.out);by_cases az:k<t.cases.length
  ·obtain⟨b1,o1,rfl,⟨x0,cx0,cS⟩,⟨x1,cx1,dj⟩,⟨x2,cx2,dU⟩⟩:=E.out k az
   have HG:=aa (ap default az);obtain⟨p1,q1,rfl,wc,R7,ex⟩:=dj.at;have EX:=aa ex;have D1:=aa cx1;have sU:=aa (fun j=>fD.out k j az);rw[HG.out]at sU;clear cx0 cx1 cx2 cS dj dU ex;generalize t.cases[k]=c at D1 EX HG sU wc R7
   go_wp2_with fail
   clear tA;obtain⟨wrA,lB⟩:∃ x,x=wr:=⟨_,rfl⟩;subst lB
   go_loopw [4] (fun i wr=>∃ j:Nat,j<=c.out.length/\i=.int .i64 j/\Below W0.heap.size W0 wr/\∀ q,q<j->constB (c.out.getD q [])=true) (fun i _=>c.out.length - (intOf i).toNat)
   case atStart=>exact⟨0,by omega,rfl,HBR0.out,fun q hq=>by omega⟩
   case round=>
    obtain⟨j,hj,rfl,sG,aS⟩:=hrel;have H2:=aa aS;clear aS;have jx:=aa sG;have bZ:=aa (ae cM.out sG);have tA:=ab (af sG gT.out);have d1:=ai bZ.out D1.out;by_cases gR:j<c.out.length
    ·obtain⟨b3,o3,rfl,vx,cvx,Fe⟩:=EX.out j gR
     have dv:=ai bZ.out cvx;have Cu:=aa (Fe.up up_int bZ.out);have PM:=aa (ap [] gR);rw[Nat.mul_one]at dv;clear cvx Fe sG
     go_wp2_with fail
     refine(L6 vx _ wr Cu.out).mono ?_;rintro e w4 ⟨rfl,cg⟩;have fe:=aa (ae jx.out cg);clear dv cg tA d1;cases hc:constB c.out[j] with
     | false=>
      have HR:=aa (sU.out j gR (by rw[PM.out];exact hc));clear hc
      go_wp2_with fail
      go_ret
      exact⟨aN (by rw[HR.out]),ae cM.out fe.out⟩
     | true=>
      have HN:=aa (aT (p:=fun q=>constB (c.out.getD q [])=true) H2.out (by rw[PM.out];exact hc));clear hc
      go_wp2_with fail
      go_roundw
      case rel=>exact⟨j+1,by omega,by go_num,fe.out,HN.out⟩
      case measure=>simp[intOf];omega
    ·obtain rfl:j=c.out.length:=by omega
     have HN:Hid (∀ q,q<k+1->∀ j,j<(t.cases.getD q default).out.length->constB ((t.cases.getD q default).out.getD j [])=true):=aa (aT (p:=fun q=>∀ j,j<(t.cases.getD q default).out.length->constB ((t.cases.getD q default).out.getD j [])=true) H.out (by rw[HG.out];exact H2.out));clear sG
     go_wp2_with fail
     go_roundw
     case rel=>exact⟨k+1,by omega,by go_num,jx.out,HN.out⟩
     case measure=>simp[intOf];omega
  ·obtain rfl:k=t.cases.length:=by omega
   have HR:=aa (ju.out fun q hq=>H.out q hq)
   go_wp2_with fail
   go_ret
   exact⟨aN (by rw[HR.out]),eP.out⟩
theorem U1{s:Sys} {e v:Nat} (hv:v<oS s):(valuesS s e).contains (v:Int)=valB s e v:=by
 cases h:valB s e v with
 | true=>
  rw[List.contains_iff_mem];exact List.mem_map.2 ⟨v,List.mem_filter.2 ⟨List.mem_range.2 hv,h⟩,rfl⟩
 | false=>
  cases hc:(valuesS s e).contains (v:Int) with
  | false=>rfl
  | true=>
   rw[List.contains_iff_mem]at hc;obtain⟨y,hy,e1⟩:=List.mem_map.1 hc;have h2:=(List.mem_filter.1 hy).2;have:y=v:=by omega
   rw[this,h]at h2;cases h2
def SL(l:List Int):MP:=⟨fun x W=>aY W x l,fun _ _ _ h hb=>h.up up_int hb⟩
theorem J5(s:Sys) (hs:SysOk s) (l:List Nat) (hl:∀ e∈l,e<eS s) (vl vc vs vt ve:Value) (w:World) (bX:IsSys w s vc vs vt ve) (hv:aY w vl (l.map fun e:Nat=>(e:Int))) :
  Calls Tryz.prog 86 #[.agg (bE s.prob vc vs s.n vt ve),vl] w fun r w'=>r=.returned (.int .i64 (comB s l))/\Below w.heap.size w w':=by
 have HS:=aa bX;obtain⟨⟨qc,kc,rfl⟩,⟨qs,ks,rfl⟩,⟨qt,kt,rfl⟩,⟨qe,ke,rfl⟩⟩:=bg bX;have HOF:=aa (fun e (he:e<eS s) W (hb:Below w.heap.size w W)=>U0 s hs e he _ _ _ _ W (HS.out.up hb));obtain⟨pl,cl,rfl,el⟩:=fG hv;obtain⟨_,_,_,_,cK,_⟩:=hv.at;rw[List.length_map]at el cK ⊢
 have EL:Hid (∀ i (hi:i<l.length),∃ b o,pl=some ⟨b,o,none⟩/\w.cell? ⟨b,o+i,none⟩=some (.int .i64 (l[i]:Nat))):=aa (fun i hi=>by
  obtain⟨b,o,e1,h1⟩:=el i hi;refine⟨b,o,e1,?_⟩;rw[h1]
  simp[hi])
 have HLM:Hid (∀ i (hi:i<l.length),l[i]<eS s):=aa (fun i hi=>hl _ (List.getElem_mem hi));have HHV:Hid (∀ e v,v<oS s->(valuesS s e).contains (v:Int)=valB s e v):=aa (fun e v h=>U1 h);have Dc:Hid (∀ v,v<oS s->(∀ j,j<v->l.all (fun e=>valB s e j)=false)->l.all (fun e=>valB s e v)=true->comB s l=v):=aa (fun v h1 h2 h3=>dF (oS s) v _ h1 h2 h3)
 have MX:Hid ((∀ j,j<oS s->l.all (fun e=>valB s e j)=false)->comB s l=-1):=aa (fun h=>by
  unfold comB;rcases bD (oS s) (fun v=>l.all fun e=>valB s e v) with ⟨e,_⟩|⟨k,hk,_,h2,_⟩
  ·exact e
  ·rw[h k hk]at h2;cases h2)
 have kj:Hid (∀ v i (hi:i<l.length),((l.take (i+1)).all fun e=>valB s e v)=(((l.take i).all fun e=>valB s e v)&&valB s l[i] v)):=aa (fun v i hi=>by rw[List.take_succ_eq_append_getElem hi,List.all_append];simp);have Pm:Hid (∀ v,((l.take l.length).all fun e=>valB s e v)=l.all fun e=>valB s e v):=aa (fun v=>by rw[List.take_length]);have IS:Hid (∀ v,((l.take 0).all fun e=>valB s e v)=true):=aa (fun v=>by simp);generalize hA:(fun (v i:Nat)=>(l.take i).all fun e=>valB s e v)=A at *;have kj:Hid (∀ v i (hi:i<l.length),A v (i+1)=(A v i&&valB s l[i] v)):=aa (fun v i hi=>by rw[<-hA];exact kj.out v i hi);have Pm:Hid (∀ v,A v l.length=l.all fun e=>valB s e v):=aa (fun v=>by rw[<-hA];exact Pm.out v);have IS:Hid (∀ v,A v 0=true):=aa (fun v=>by rw[<-hA];exact IS.out v);generalize comB s l=r at Dc MX ⊢;have Xa:s.prob.t.outs=(oS s:Int):=by have:=hs.outs;unfold oS at *;omega
 have TK:oS s<=8:=hs.outs.2.1;obtain⟨no,jo⟩:∃ no,oS s=no:=⟨_,rfl⟩;rw[jo]at HHV Dc MX Xa TK;obtain⟨n,hn⟩:∃ n,l.length=n:=⟨_,rfl⟩;have HN:=aa hn;rw[hn]at cK ⊢;have HOS:=aa Xa;clear bX hv el hl hA jo hn Xa
 go_enter Tryz.func86,Tryz.ntmps86
 go_wp2_with fail
 refine bj (fun W=>Below w.heap.size w W/\∃ c,W.heap[w.heap.size]?=some (.cells c 35)/\c=bE s.prob (.slice qc s.prob.t.cases.length kc) (.slice qs s.prob.a.states.length ks) s.n (.slice qt s.tab.length kt) (.slice qe s.ex.length ke)) ⟨by go_grown,_,ak _ _,rfl⟩ (fun W1 cC=>?_);obtain⟨aG,_,dM,rfl⟩:=cC;have bC:=aa aG;have dy:=aa dM;clear aG dM
 go_loopw [5] (fun i wr=>∃ v:Nat,v<=no/\i=.int .i64 v/\Below W1.heap.size W1 wr/\∀ j,j<v->(l.all fun e=>valB s e j)=false) (fun i _=>no - (intOf i).toNat)
 case atStart=>exact⟨0,by omega,rfl,Below.refl _ _,fun j hj=>by omega⟩
 case round=>
  obtain⟨v,hv,rfl,aq,aS⟩:=hrel;have H:=aa aS;have aR:=aa aq;have tA:=ab (af aq dy.out);clear aS;by_cases az:v<no
  ·have hd:decide ((v:Int)<s.prob.t.outs)=true:=decide_eq_true (by have:=HOS.out;omega)
   have HAV:Hid (A v 0=true):=aa (IS.out v);clear aq
   go_wp2_with fail
   clear tA hd;obtain⟨wrA,lB⟩:∃ x,x=wr:=⟨_,rfl⟩;subst lB
   go_loopw [6,7] (fun a i wr=>∃ k:Nat,k<=n/\i=.int .i64 k/\a=.bool (A v k)/\Below W1.heap.size W1 wr) (fun _ i _=>n - (intOf i).toNat)
   case atStart=>exact⟨0,by omega,rfl,by rw[HAV.out],aR.out⟩
   case round=>
    obtain⟨k,hk,rfl,rfl,uX⟩:=hrel;have nR:=aa uX;by_cases wT:k<n
    ·have lW:k<l.length:=by rw[HN.out];exact wT
     obtain⟨b1,o1,rfl,c1⟩:=EL.out k lW;have Fc:=aa (kj.out v k lW);have iN:=HLM.out k lW;generalize l[k]'lW=e at c1 Fc iN;have C1:=aa (ai (ae bC.out uX) c1);have mO:=aa (af uX dy.out);have nK:=aa (HHV.out e v az);cases CI:A v k with
     | false=>
      rw[CI]at Fc;clear uX c1 CI iN
      go_wp2_with fail
      refine aB (by kernel_rfl) (by kernel_rfl) ?_
      repeat (go_big_quiet_step (fail))
      refine wpQuiet_nil ?_;rintro _ ⟨xq,rfl⟩
      go_wp2_with fail
      go_roundw
      case rel=>exact⟨k+1,by omega,by go_num,by rw[Fc.out];rfl,ae nR.out xq.ext⟩
      case measure=>simp[intOf];omega
     | true=>
      rw[CI]at Fc;have HES:=aa iN;generalize valB s e v=bv at Fc nK;generalize s.prob.t.cases.length=nc,s.prob.a.states.length=ns,s.tab.length=nt,s.ex.length=ne at mO HOF;clear uX c1 CI iN
      go_wp2_with fail
      have hS:List.Nodup [22,23,24,25,26,27,28,29,30,31,32]:=by decide
      refine dJ 11 [22,23,24,25,26,27,28,29,30,31,32] [MP.eq (.bool true),MP.eq (.bool true),MP.eq (.agg #[.int .i64 s.prob.t.n,.int .i64 s.prob.t.ins,.int .i64 s.prob.t.outs,.slice qc nc kc,.int .i64 s.prob.a.n,.slice qs ns ks,.int .i64 s.prob.rounds,.int .i64 s.n,.slice qt nt kt,.slice qe ne ke]),MP.eq (.slice (some ⟨b1,o1,none⟩) n cl),MP.eq (.int .i64 k),MP.eq (.pointer (some ⟨b1,o1+k,none⟩)),MP.eq (.int .i64 (e:Nat)),SL (valuesS s e),MP.eq (.int .i64 v),MP.eq (.bool bv),MP.eq (.bool bv)] (by kernel_rfl) (by simp) hS rfl (by kernel_rfl) (by kernel_rfl) (by kernel_rfl) ?step ?tail
      case step=>
       intro xq Wq iq oq sq F hi ho hs hB aj hF;rcases (show iq=0\/iq=1\/iq=2\/iq=3\/iq=4\/iq=5\/iq=6\/iq=7\/iq=8\/iq=9\/iq=10 by omega) with rfl|rfl|rfl|rfl|rfl|rfl|rfl|rfl|rfl|rfl|rfl
       all_goals (obtain rfl:=cU ho.symm;obtain rfl:=cU hs.symm;clear hi ho hs)
       ·obtain⟨g6,h6⟩:=bT hF 6 (.bool true) (by decide) rfl
        clear hF aj
        go_wp2_with fail
        exact aQ.mk (.bool true) (Below.refl _ _) rfl rfl
       ·obtain⟨e0,f0⟩:=aJ hF 0 22 (.bool true) hS rfl (by kernel_rfl) (aj ⟨0,.data⟩ (by simp) rfl)
        clear hF aj
        go_wp2_with fail
        exact aQ.mk (.bool true) (Below.refl _ _) rfl rfl
       ·obtain⟨g2,h2⟩:=bT hF 2 (.pointer (some ⟨w.heap.size,0,none⟩)) (by decide) rfl
        have m1:=cY hF 1 23 (.bool true) hS rfl (by kernel_rfl) (aj ⟨1,.guard⟩ (by simp) rfl);have tb:=ab (af hB mO.out);clear hF aj
        go_wp2_with fail
        exact aQ.mk (.agg #[.int .i64 s.prob.t.n,.int .i64 s.prob.t.ins,.int .i64 s.prob.t.outs,.slice qc nc kc,.int .i64 s.prob.a.n,.slice qs ns ks,.int .i64 s.prob.rounds,.int .i64 s.n,.slice qt nt kt,.slice qe ne ke]) (Below.refl _ _) rfl rfl
       ·obtain⟨g1,h1⟩:=bT hF 1 (.slice (some ⟨b1,o1,none⟩) n cl) (by decide) rfl
        have m1:=cY hF 1 23 (.bool true) hS rfl (by kernel_rfl) (aj ⟨1,.guard⟩ (by simp) rfl);clear hF aj
        go_wp2_with fail
        exact aQ.mk (.slice (some ⟨b1,o1,none⟩) n cl) (Below.refl _ _) rfl rfl
       ·obtain⟨g7,h7⟩:=bT hF 7 (.int .i64 k) (by decide) rfl
        have m1:=cY hF 1 23 (.bool true) hS rfl (by kernel_rfl) (aj ⟨1,.guard⟩ (by simp) rfl);clear hF aj
        go_wp2_with fail
        exact aQ.mk (.int .i64 k) (Below.refl _ _) rfl rfl
       ·obtain⟨e3,f3⟩:=aJ hF 3 25 (.slice (some ⟨b1,o1,none⟩) n cl) hS rfl (by kernel_rfl) (aj ⟨3,.data⟩ (by simp) rfl)
        obtain⟨e4,f4⟩:=aJ hF 4 26 (.int .i64 k) hS rfl (by kernel_rfl) (aj ⟨4,.data⟩ (by simp) rfl);have m1:=cY hF 1 23 (.bool true) hS rfl (by kernel_rfl) (aj ⟨1,.guard⟩ (by simp) rfl);clear hF aj
        go_wp2_with fail
        exact aQ.mk (.pointer (some ⟨b1,o1+k,none⟩)) (Below.refl _ _) rfl rfl
       ·obtain⟨e5,f5⟩:=aJ hF 5 27 (.pointer (some ⟨b1,o1+k,none⟩)) hS rfl (by kernel_rfl) (aj ⟨5,.data⟩ (by simp) rfl)
        have m1:=cY hF 1 23 (.bool true) hS rfl (by kernel_rfl) (aj ⟨1,.guard⟩ (by simp) rfl);have tb:=ai hB C1.out;clear hF aj
        go_wp2_with fail
        exact aQ.mk (.int .i64 (e:Nat)) (Below.refl _ _) rfl rfl
       ·obtain⟨e2,f2⟩:=aJ hF 2 24 (.agg #[.int .i64 s.prob.t.n,.int .i64 s.prob.t.ins,.int .i64 s.prob.t.outs,.slice qc nc kc,.int .i64 s.prob.a.n,.slice qs ns ks,.int .i64 s.prob.rounds,.int .i64 s.n,.slice qt nt kt,.slice qe ne ke]) hS rfl (by kernel_rfl) (aj ⟨2,.data⟩ (by simp) rfl)
        obtain⟨e6,f6⟩:=aJ hF 6 28 (.int .i64 (e:Nat)) hS rfl (by kernel_rfl) (aj ⟨6,.data⟩ (by simp) rfl);have m1:=cY hF 1 23 (.bool true) hS rfl (by kernel_rfl) (aj ⟨1,.guard⟩ (by simp) rfl);clear hF aj
        go_wp2_with fail
        refine(HOF.out e HES.out Wq (ae bC.out (ae nR.out hB))).mono ?_;rintro r w9 ⟨u9,rfl,P5,eN⟩;have WD:=aa P5;clear P5
        go_wp2_with fail
        exact aQ.mk _ eN WD.out rfl
       ·obtain⟨g5,h5⟩:=bT hF 5 (.int .i64 v) (by decide) rfl
        have m1:=cY hF 1 23 (.bool true) hS rfl (by kernel_rfl) (aj ⟨1,.guard⟩ (by simp) rfl);clear hF aj
        go_wp2_with fail
        exact aQ.mk (.int .i64 v) (Below.refl _ _) rfl rfl
       ·have d7:=aj ⟨7,.data⟩ (by simp) rfl
        obtain⟨e8,f8⟩:=aJ hF 8 30 (.int .i64 v) hS rfl (by kernel_rfl) (aj ⟨8,.data⟩ (by simp) rfl);have m1:=cY hF 1 23 (.bool true) hS rfl (by kernel_rfl) (aj ⟨1,.guard⟩ (by simp) rfl);have d7':aY Wq (xq 7) (valuesS s e):=d7;obtain⟨e7,f7⟩:=aJ hF 7 29 _ hS rfl (by kernel_rfl) rfl;clear hF aj
        go_wp2_with fail
        refine(Rk _ (valuesS s e) v Wq d7').mono ?_;rintro r w9 ⟨rfl,rfl⟩;rw[nK.out]
        go_wp2_with fail
        exact aQ.mk (.bool bv) (Below.refl _ _) rfl rfl
       ·obtain⟨e1,f1⟩:=aJ hF 1 23 (.bool true) hS rfl (by kernel_rfl) (aj ⟨1,.data⟩ (by simp) rfl)
        obtain⟨e9,f9⟩:=aJ hF 9 31 (.bool bv) hS rfl (by kernel_rfl) (aj ⟨9,.data⟩ (by simp) rfl);clear hF aj
        go_wp2_with fail
        exact aQ.mk (.bool bv) (Below.refl _ _) rfl rfl
      case tail=>
       clear hS;intro xq W3 F hB aP hF;have e11:xq 10=.bool bv:=aP 10 (by omega);clear aP;simp only[bd,cJ,List.setIfInBounds_toArray,List.set_cons_succ,List.set_cons_zero,Nat.reduceAdd]at hF;rw[e11]at hF;generalize xq 0=s0,xq 1=s1,xq 2=s2,xq 3=s3,xq 4=s4,xq 5=s5,xq 6=s6,xq 7=s7,xq 8=s8,xq 9=s9 at hF;subst hF;have bZ:=aa (ae nR.out hB);clear hB e11;simp only[List.drop_succ_cons,List.drop_zero]
       go_wp2_with fail
       go_roundw
       case rel=>exact⟨k+1,by omega,by go_num,by rw[Fc.out];rfl,bZ.out⟩
       case measure=>simp[intOf];omega
    ·obtain rfl:k=n:=by omega
     have PS:=aa (Pm.out v);rw[HN.out]at PS;cases CI:A v k with
     | true=>
      have HR:=aa (Dc.out v az H.out (by rw[<-PS.out];exact CI));clear CI uX
      go_wp2_with fail
      go_ret
      exact⟨aA (by rw[HR.out]),ae bC.out nR.out⟩
     | false=>
      have sT:=aa (aT (p:=fun j=>(l.all fun e=>valB s e j)=false) H.out (by rw[<-PS.out];exact CI));clear CI uX
      go_wp2_with fail
      go_roundw
      case rel=>exact⟨v+1,by omega,by go_num,nR.out,sT.out⟩
      case measure=>simp[intOf];omega
  ·obtain rfl:v=no:=by omega
   have hd:decide ((v:Int)<s.prob.t.outs)=false:=decide_eq_false (by have:=HOS.out;omega);have HR:=aa (MX.out H.out);clear aq
   go_wp2_with fail
   go_ret
   exact⟨aA (by rw[HR.out]),ae bC.out aR.out⟩
abbrev Cg(s:Sys) (vc vs vt ve:Value) (w:World):Prop:=∀ W,Below w.heap.size w W->Calls Tryz.prog 39 #[.agg (bE s.prob vc vs s.n vt ve)] W fun r w'=>r=.returned (.int .i64 (readyE s))/\Below W.heap.size W w'
theorem ES{s:Sys} (h:readyE s=0):SysOk s:=by
 refine jh ?_;unfold readyE at h;split at h
 ·rename_i h1;exact absurd h h1
 ·omega
def Rl(s:Sys) (r:Ending):Prop:=∃ b,r=.returned (.bool b)/\(b=true->fewPB s.prob=true/\eS s<=70/\s.tab.length<=600)
theorem J6(s:Sys) (vc vs vt ve:Value) (w:World) (bX:IsSys w s vc vs vt ve) :
  Calls Tryz.prog 9 #[.agg (bE s.prob vc vs s.n vt ve)] w fun r w'=>Rl s r/\Below w.heap.size w w':=by
 have HS:=aa bX;obtain⟨⟨qc,kc,rfl⟩,⟨qs,ks,rfl⟩,⟨qt,kt,rfl⟩,_⟩:=bg bX;obtain⟨qe,ke,rfl,le1,le2,ee⟩:=bX.ex.at;have EE:=aa ee;have HF:=aa (fun W (hb:Below w.heap.size w W)=>Hc s.prob _ _ W (HS.out.cases.up up_case hb) (HS.out.states.up up_moves hb));have fD:Hid (Rl s (.returned (.bool false))):=aa ⟨false,rfl,fun h=>by cases h⟩;have ju:Hid (fewPB s.prob=true->¬ 600<s.tab.length->¬ 70<s.ex.length->Rl s (.returned (.bool true))):=aa fun h1 h0 h2=>⟨true,rfl,fun _=>⟨h1,by unfold eS;omega,by omega⟩⟩
 obtain⟨ne,bM⟩:∃ ne,s.ex.length=ne:=⟨_,rfl⟩;have gK:=aa bM;rw[bM]at le1 le2 ju ⊢;generalize fewPB s.prob=fb at HF ju;clear bX ee bM;generalize s.prob.t.cases.length=nc,s.prob.a.states.length=ns,s.tab.length=nt at HF ju ⊢
 go_enter Tryz.func9,Tryz.ntmps9
 go_wp2_with fail
 refine aL (fun W=>Below w.heap.size w W/\∃ c,W.heap[w.heap.size]?=some (.cells c 35)/\c=bE s.prob (.slice qc nc kc) (.slice qs ns ks) s.n (.slice qt nt kt) (.slice qe ne ke)) ⟨by go_grown,_,ak _ _,rfl⟩ (fun W0 aW=>?_);obtain⟨aC,_,br,rfl⟩:=aW;refine(HF.out W0 aC).mono ?_;rintro r w1 ⟨rfl,aG⟩;have bC:=aa (ae aC aG);have dM:=af aG br;have dy:=aa dM;have tA:=ab dM;clear aC br aG HF dM;cases fb with
 | false=>
  go_wp2_with fail
  go_ret
  exact⟨fD.out,bC.out⟩
 | true=>
  have HY:=aa (ju.out rfl);clear ju;by_cases h6:600<nt
  ·have hd:decide ((600:Int)<(nt:Int))=true:=decide_eq_true (by omega)
   go_wp2_with fail
   go_ret
   exact⟨fD.out,bC.out⟩
  have hd6:decide ((600:Int)<(nt:Int))=false:=decide_eq_false (by omega);by_cases h7:70<ne
  ·have hd:decide ((70:Int)<(ne:Int))=true:=decide_eq_true (by omega)
   go_wp2_with fail
   go_ret
   exact⟨fD.out,bC.out⟩
  have hd7:decide ((70:Int)<(ne:Int))=false:=decide_eq_false (by omega);have HYY:=aa (HY.out h6 h7)
  go_wp2_with fail
  clear tA
  go_loopw [3] (fun i wr=>Below w1.heap.size w1 wr/\∃ k:Nat,k<=ne/\i=.int .i64 k) (fun i _=>ne - (intOf i).toNat)
  case atStart=>exact⟨Below.refl _ _,0,by omega,rfl⟩
  case round=>
   obtain⟨aq,k,hk,rfl⟩:=hrel;have aR:=aa aq;have tA:=ab (af aq dy.out);clear aq;by_cases az:k<ne
   ·obtain⟨b1,o1,rfl,⟨c0,_⟩,⟨vw,c1,q8⟩,⟨vv,c2,Xj⟩⟩:=EE.out k (by rw[gK.out];exact az)
    have db:=ae bC.out aR.out;obtain⟨pw,cw,rfl,_⟩:=q8.at;obtain⟨pv,cv,rfl,lv1,lv2,ev⟩:=Xj.at;have EV:=aa ev;have c0:=ai db c0;have c1:=ai db c1;have c2:=ai db c2;have eP:=aa db;generalize (s.ex[k]'(by rw[gK.out];exact az))=x at c0 c1 c2 q8 Xj ev EV lv1 lv2;obtain⟨nv,Ao⟩:∃ nv,x.views.length=nv:=⟨_,rfl⟩;have KN:=aa Ao;rw[Ao]at c2 lv1 lv2;generalize x.word.length=lw at c1;obtain⟨wrA,lB⟩:∃ x,x=wr:=⟨_,rfl⟩;subst lB;clear db q8 Xj ev Ao;generalize x.c=xc at c0;have HG:=aa (ae bC.out (show Below w1.heap.size w1 (wrA.alloc (.cells #[.int .i64 xc,.slice pw lw cw,.slice pv nv cv] 89)) from aR.out.alloc aR.out.size _));have te:=ab (ak wrA (.cells #[.int .i64 xc,.slice pw lw cw,.slice pv nv cv] 89));by_cases hw10:10<lw
    ·have hd:decide ((10:Int)<(lw:Int))=true:=decide_eq_true (by omega)
     go_wp2_with fail
     go_ret
     exact⟨fD.out,HG.out⟩
    have hdw:decide ((10:Int)<(lw:Int))=false:=decide_eq_false (by omega);by_cases hv10:10<nv
    ·have hd:decide ((10:Int)<(nv:Int))=true:=decide_eq_true (by omega)
     go_wp2_with fail
     go_ret
     exact⟨fD.out,HG.out⟩
    have PF:decide ((10:Int)<(nv:Int))=false:=decide_eq_false (by omega)
    go_wp2_with fail
    refine bj (fun W=>Below wrA.heap.size wrA W/\W.heap[wrA.heap.size]?=some (.cells #[.int .i64 xc,.slice pw lw cw,.slice pv nv cv] 89)) ⟨by go_grown,ak _ _⟩ (fun W2 eF=>?_);have cB:=aa eF.1;have fB:=aa eF.2;clear eF te tA c0 c1 c2 hdw PF
    go_loopw [5] (fun i wr=>Below W2.heap.size W2 wr/\∃ q:Nat,q<=nv/\i=.int .i64 q) (fun i _=>nv - (intOf i).toNat)
    case atStart=>exact⟨Below.refl _ _,0,by omega,rfl⟩
    case round=>
     obtain⟨sG,q,hq,rfl⟩:=hrel;have jx:=aa (ae cB.out sG);have HBR2:=aa sG;have tX:=ab (af sG fB.out);clear sG;by_cases rl:q<nv
     ·obtain⟨b3,o3,rfl,⟨vr,c3,TC⟩⟩:=EV.out q (by rw[KN.out];exact rl)
      obtain⟨pr,cr,rfl,_⟩:=TC.at;have c3:=ai (ae eP.out jx.out) c3;rw[Nat.mul_one]at c3;generalize (x.views[q]'(by rw[KN.out];exact rl)).length=lr at c3;clear TC;by_cases hr10:10<lr
      ·have hd:decide ((10:Int)<(lr:Int))=true:=decide_eq_true (by omega)
       go_wp2_with fail
       go_ret
       exact⟨fD.out,ae bC.out (ae aR.out jx.out)⟩
      have hd:decide ((10:Int)<(lr:Int))=false:=decide_eq_false (by omega)
      go_wp2_with fail
      go_roundw
      case rel=>exact⟨HBR2.out,q+1,by omega,by go_num⟩
      case measure=>simp[intOf];omega
     ·obtain rfl:q=nv:=by omega
      go_wp2_with fail
      go_roundw
      case rel=>exact⟨ae aR.out jx.out,k+1,by omega,by go_num⟩
      case measure=>simp[intOf];omega
   ·obtain rfl:k=ne:=by omega
    go_wp2_with fail
    go_ret
    exact⟨HYY.out,ae bC.out aR.out⟩
theorem J7{s:Sys} {l:List Lk} (hx:∀ y∈l,0<=y.x/\y.x.toNat<eS s):(bY l).map (fun e:Nat=>(e:Int))=l.map fun y=>y.x:=by
 unfold bY;rw[List.map_map];refine List.map_congr_left fun y hy=>?_
 have:=(hx y hy).1;simp only[Function.comp_apply];omega
theorem OS{s:Sys} {l:List Lk} (hx:∀ y∈l,0<=y.x/\y.x.toNat<eS s):∀ e∈bY l,e<eS s:=fun e he=>by
 obtain⟨y,hy,rfl⟩:=List.mem_map.1 he;exact(hx y hy).2
theorem Ah(s:Sys) (hs:SysOk s) (l:List Lk) (hn:l.length<=1048576) (hx:∀ y∈l,0<=y.x/\y.x.toNat<eS s) (vc vs vt ve vl:Value) (w:World) (bX:IsSys w s vc vs vt ve) (hl:aU w vl l) :
  Calls Tryz.prog 94 #[.agg (bE s.prob vc vs s.n vt ve),vl] w fun r w'=>r=.returned (.bool (contraB s l))/\Below w.heap.size w w':=by
 have HS:=aa bX;obtain⟨⟨qc,kc,rfl⟩,⟨qs,ks,rfl⟩,⟨qt,kt,rfl⟩,⟨qe,ke,rfl⟩⟩:=bg bX;have Av:=aa (J7 hx);have TH:=aa (fun vl W (hb:Below w.heap.size w W) (hv:aY W vl (l.map fun y=>y.x))=>J5 s hs (bY l) (OS hx) vl _ _ _ _ W (HS.out.up hb) (by rw[Av.out];exact hv));have Ip:=aa (fun W (hb:Below w.heap.size w W)=>Hq vl l hn W (hl.up up_link hb));obtain⟨pl,cl,rfl,_,_,_⟩:=hl.at;obtain⟨vsl,hvsl⟩:∃ x,(l.map fun y=>y.x)=x:=⟨_,rfl⟩;have hCB:contraB s l=decide (comB s (bY l)<0):=rfl;rw[hCB];rw[hvsl]at TH Ip;generalize comB s (bY l)=cv at TH ⊢;generalize l.length=nl at Ip ⊢;clear bX hl hx hn hCB Av hvsl
 go_enter Tryz.func94,Tryz.ntmps94
 go_wp2_with fail
 refine bj (fun W=>Below w.heap.size w W/\∃ c,W.heap[w.heap.size]?=some (.cells c 35)/\c=bE s.prob (.slice qc s.prob.t.cases.length kc) (.slice qs s.prob.a.states.length ks) s.n (.slice qt s.tab.length kt) (.slice qe s.ex.length ke)) ⟨by go_grown,_,ak _ _,rfl⟩ (fun W0 aW=>?_);obtain⟨aC,_,br,rfl⟩:=aW;have cM:=aa aC;have gT:=aa br;generalize s.prob.t.cases.length=nc,s.prob.a.states.length=ns,s.tab.length=nt,s.ex.length=ne at gT TH;clear aC br
 go_wp2_with fail
 have hS:List.Nodup [5,6,7,8,9]:=by decide
 refine dJ 5 [5,6,7,8,9] [MP.eq (.agg #[.int .i64 s.prob.t.n,.int .i64 s.prob.t.ins,.int .i64 s.prob.t.outs,.slice qc nc kc,.int .i64 s.prob.a.n,.slice qs ns ks,.int .i64 s.prob.rounds,.int .i64 s.n,.slice qt nt kt,.slice qe ne ke]),MP.eq (.slice pl nl cl),SL vsl,MP.eq (.int .i64 cv),MP.eq (.bool (decide (cv<0)))] (by kernel_rfl) (by simp) hS rfl (by kernel_rfl) (by kernel_rfl) (by kernel_rfl) ?step ?tail
 case step=>
  intro xq Wq iq oq sq F hi ho hs hB aj hF;rcases (show iq=0\/iq=1\/iq=2\/iq=3\/iq=4 by omega) with rfl|rfl|rfl|rfl|rfl
  all_goals (obtain rfl:=cU ho.symm;obtain rfl:=cU hs.symm;clear hi ho hs)
  ·obtain⟨g2,h2⟩:=bT hF 2 (.pointer (some ⟨w.heap.size,0,none⟩)) (by decide) rfl
   have tb:=ab (af hB gT.out);clear hF aj
   go_wp2_with fail
   exact aQ.mk (.agg #[.int .i64 s.prob.t.n,.int .i64 s.prob.t.ins,.int .i64 s.prob.t.outs,.slice qc nc kc,.int .i64 s.prob.a.n,.slice qs ns ks,.int .i64 s.prob.rounds,.int .i64 s.n,.slice qt nt kt,.slice qe ne ke]) (Below.refl _ _) rfl rfl
  ·obtain⟨g1,h1⟩:=bT hF 1 (.slice pl nl cl) (by decide) rfl
   clear hF aj
   go_wp2_with fail
   exact aQ.mk (.slice pl nl cl) (Below.refl _ _) rfl rfl
  ·obtain⟨e1,f1⟩:=aJ hF 1 6 (.slice pl nl cl) hS rfl (by kernel_rfl) (aj ⟨1,.data⟩ (by simp) rfl)
   clear hF aj
   go_wp2_with fail
   refine(Ip.out Wq (ae cM.out hB)).mono ?_;rintro r w9 ⟨u9,rfl,P5,eN⟩;have WD:=aa P5;clear P5
   go_wp2_with fail
   exact aQ.mk _ eN WD.out rfl
  ·obtain⟨e0,f0⟩:=aJ hF 0 5 (.agg #[.int .i64 s.prob.t.n,.int .i64 s.prob.t.ins,.int .i64 s.prob.t.outs,.slice qc nc kc,.int .i64 s.prob.a.n,.slice qs ns ks,.int .i64 s.prob.rounds,.int .i64 s.n,.slice qt nt kt,.slice qe ne ke]) hS rfl (by kernel_rfl) (aj ⟨0,.data⟩ (by simp) rfl)
   have d2:=aj ⟨2,.data⟩ (by simp) rfl;have d2':aY Wq (xq 2) vsl:=d2;obtain⟨e2,f2⟩:=aJ hF 2 7 _ hS rfl (by kernel_rfl) rfl;clear hF aj
   go_wp2_with fail
   refine(TH.out _ Wq (ae cM.out hB) d2').mono ?_;rintro r w9 ⟨rfl,eN⟩
   go_wp2_with fail
   exact aQ.mk (.int .i64 cv) eN rfl rfl
  ·obtain⟨e3,f3⟩:=aJ hF 3 8 (.int .i64 cv) hS rfl (by kernel_rfl) (aj ⟨3,.data⟩ (by simp) rfl)
   clear hF aj
   go_wp2_with fail
   exact aQ.mk (.bool (decide (cv<0))) (Below.refl _ _) rfl rfl
 case tail=>
  clear hS;intro xq W3 F hB aP hF;have e4:xq 4=.bool (decide (cv<0)):=aP 4 (by omega);clear aP;simp only[bd,cJ,List.setIfInBounds_toArray,List.set_cons_succ,List.set_cons_zero,Nat.reduceAdd]at hF;rw[e4]at hF;generalize xq 0=s0,xq 1=s1,xq 2=s2,xq 3=s3 at hF;subst hF;have bZ:=aa (ae cM.out hB);clear hB e4;simp only[List.drop_succ_cons,List.drop_zero]
  go_wp2_with fail
  go_ret
  exact⟨rfl,bZ.out⟩
theorem v8{s:Sys} {l:List Lk} (h:walkE s l=0):0<l.length/\l.length<=4096/\∀ y∈l,0<=y.x/\y.x.toNat<eS s:=by
 unfold walkE at h;split at h
 ·omega
 split at h
 ·omega
 refine⟨by omega,by omega,fun y hy=>?_⟩;obtain⟨i,hi,rfl⟩:=List.getElem_of_mem hy;have h1:=eV h i hi;unfold linkE at h1;rw[show l.getD i default=l[i] by simp[hi]]at h1;split at h1
 ·omega
 omega
theorem Mi(s:Sys) (hs:SysOk s) (l:List Lk) (hw:l=[]\/walkE s l=0) (vc vs vt ve vl:Value) (w:World) (bX:IsSys w s vc vs vt ve) (hl:aU w vl l) :
  Calls Tryz.prog 99 #[.agg (bE s.prob vc vs s.n vt ve),vl] w fun r w'=>r=.returned (.bool (dB s l))/\Below w.heap.size w w':=by
 have HS:=aa bX;obtain⟨⟨qc,kc,rfl⟩,⟨qs,ks,rfl⟩,⟨qt,kt,rfl⟩,⟨qe,ke,rfl⟩⟩:=bg bX;have HL:=aa hl;obtain⟨pl,cl,rfl,_,_,_⟩:=hl.at;by_cases uT:l.length=0
 ·have hg:dB s l=false:=by unfold dB;rw[uT];rfl
  rw[hg,uT];clear bX hl uT hw hg HL HS
  go_enter Tryz.func99,Tryz.ntmps99
  go_wp2_with fail
  go_ret
  exact⟨rfl,by go_grown⟩
 have Xg:walkE s l=0:=hw.resolve_left fun h=>uT (by rw[h];rfl)
 obtain⟨hp,hn,hx⟩:=v8 Xg;have iU:=aa (fun W (hb:Below w.heap.size w W)=>Cf s hs l _ _ _ _ _ W (HS.out.up hb) (HL.out.up up_link hb));have lq:=aa (fun W (hb:Below w.heap.size w W)=>Ah s hs l (by omega) hx _ _ _ _ _ W (HS.out.up hb) (HL.out.up up_link hb));have hg:dB s l=contraB s l:=by unfold dB;rw[decide_eq_true hp,Bool.true_and]
 rw[Xg]at iU;rw[hg];have hd:decide (0<(l.length:Int))=true:=decide_eq_true (by omega);have fS:decide (0<l.length)=true:=decide_eq_true hp;generalize contraB s l=cb at lq ⊢;generalize l.length=nl at lq iU hd fS ⊢;clear bX hl hx hn hw Xg hp hg HL uT
 go_enter Tryz.func99,Tryz.ntmps99
 go_wp2_with fail
 refine aL (fun W=>Below w.heap.size w W/\∃ c,W.heap[w.heap.size]?=some (.cells c 35)/\c=bE s.prob (.slice qc s.prob.t.cases.length kc) (.slice qs s.prob.a.states.length ks) s.n (.slice qt s.tab.length kt) (.slice qe s.ex.length ke)) ⟨by go_grown,_,ak _ _,rfl⟩ (fun W0 aW=>?_);obtain⟨aC,_,br,rfl⟩:=aW;refine(iU.out W0 aC).mono ?_;rintro r w1 ⟨rfl,aG⟩;have bC:=aa (ae aC aG);have tA:=ab (af aG br);clear aC br aG
 go_wp2_with fail
 refine(lq.out w1 bC.out).mono ?_;rintro r w2 ⟨rfl,aV⟩;have cB:=aa (ae bC.out aV);clear aV tA
 go_wp2_with fail
 go_ret
 exact⟨rfl,cB.out⟩
theorem OT{w:World} {v:Value} {l:List Lk} (h:aU w v l):gh w 2 v l.length (bF l):=by
 have hc:=pE h;obtain⟨a,cap,rfl,⟨h1,h2,h3⟩,_,_⟩:=h;refine⟨a,cap,rfl,fun ha=>?_,eY _,fun j u hu=>?_,mX _⟩
 ·have:=h3 ha;omega
 ·obtain⟨b,o,c,e,hu⟩:=hc j u hu
  injection e with e
  exact⟨b,o,e,hu⟩
theorem Rm{s:Sys} {e f:Nat} (h:byB s e f=false):ja (byM s e f:Nat) 5=[]:=by
 have hz:byM s e f=0:=(lf _ _).2 h;rw[hz];decide
theorem U2(w:World):aU w (.slice none 0 0) []:=kQ (base:=0) (aD.nil w 0 _ _) (by simp) (by simp)
def XW(cs:Array Value):MP:=⟨fun x W=>∃ b,x=.slice (some ⟨b,0,none⟩) 1 1/\W.heap[b]?=some (.cells cs 75),fun _ _ _ h hb=>by obtain⟨b,e,h1⟩:=h;exact⟨b,e,af hb h1⟩⟩
theorem Rn{W:World} {b:Nat} {l:List Value} {t:TypeId} {f:Nat × Nat} (h:W.heap[b]?=some (.cells l.toArray t f)):∀ j u',l[j]?=some u'->W.cell? (Addr.add ⟨b,0,none⟩ j)=some u':=fun j u' hj=>by
 have e1:(Addr.add ⟨b,0,none⟩ j)=⟨b,j,none⟩:=by unfold Addr.add;split<;>simp_all
 rw[e1,ab h];simpa using hj
theorem Ro(s:Sys) (hs:SysOk s) (l:List Lk) (hn:l.length<=4096) (hx:∀ y∈l,0<=y.x/\y.x.toNat<eS s) (i k:Nat) (jw:i<k) (hk:k<l.length) (vc vs vt ve vl:Value) (w:World) (bX:IsSys w s vc vs vt ve) (hl:aU w vl l) :
  Calls Tryz.prog 100 #[.agg (bE s.prob vc vs s.n vt ve),vl,.int .i64 i,.int .i64 k] w fun r w'=>∃ u,r=.returned u/\aU w' u ((l3 s l i k).getD [])/\Below w.heap.size w w':=by
 obtain⟨i0,cG,cf,bP,cj⟩:=info_parts Tryz.infoLink;have bQ:=aa (And.intro cG (And.intro cf (And.intro bP cj)));clear cG cf bP cj;have HS:=aa bX;obtain⟨⟨qc,kc,rfl⟩,⟨qs,ks,rfl⟩,⟨qt,kt,rfl⟩,⟨qe,ke,rfl⟩⟩:=bg bX;have HL:=aa hl;obtain⟨pl,cl,rfl,lt1,lt2,el⟩:=hl.at;have hi:i<l.length:=by omega
 obtain⟨b1,o1,rfl,⟨c1,_⟩,_⟩:=el i hi;obtain⟨b2,o2,e2,⟨c2,_⟩,_⟩:=el k hk;injection e2 with e2
 injection e2 with e3 e4 _
 subst e3 e4;obtain⟨e,he⟩:∃ e:Nat,l[i].x=e:=⟨l[i].x.toNat,by have:=(hx _ (List.getElem_mem hi)).1;omega⟩;obtain⟨f,hf⟩:∃ f:Nat,l[k].x=f:=⟨l[k].x.toNat,by have:=(hx _ (List.getElem_mem hk)).1;omega⟩;have heE:e<eS s:=by have:=(hx _ (List.getElem_mem hi)).2;rw[he]at this;simpa using this
 have hfE:f<eS s:=by have:=(hx _ (List.getElem_mem hk)).2;rw[hf]at this;simpa using this
 have ic:nS s<=5:=by have:=hs.n;unfold nS;omega
 have hCI:l3 s l i k=if byB s e f=true then some (l.take (i+1)++⟨f,byP s e f⟩ :: l.drop (k+1)) else none:=by
  unfold l3;rw[show l.getD i default=l[i] by simp[hi],show l.getD k default=l[k] by simp[hk],he,hf,Int.toNat_natCast,Int.toNat_natCast]
 rw[hCI];have eo:=aa (fun W (hb:Below w.heap.size w W)=>UJ s hs e f heE hfE _ _ _ _ W (HS.out.up hb))
 have hbm:byM s e f<32:=by
  have:=fF (fun p=>linkB s p e f) (nS s);have h2:=Nat.pow_le_pow_right (show 0<2 by omega) ic;unfold byM;omega
 have Al:=aa (fun W=>OB ((byM s e f:Nat):Int) (by omega) (by omega) W);have fD:Hid (byB s e f=false->ja (byM s e f:Nat) 5=[]):=aa Rm;have HYE:Hid (byB s e f=true->∃ t,ja (byM s e f:Nat) 5=byP s e f :: t):=aa (UP ic);have gu:=aa (rc hl);have y8:Hid (byB s e f=true->bI (byP s e f)):=aa (fun h=>by have:=uj h;exact⟨by omega,by omega⟩);have Cz:Hid (bI (f:Int)):=aa (by rw[<-hf];exact(rc hl _ (List.getElem_mem hk)).1);rw[he]at c1;rw[hf]at c2;generalize byB s e f=bb at *;generalize byP s e f=bp at *;generalize byM s e f=bm at *;generalize jr:ja ((bm:Nat):Int) 5=EL at *;have C1:=aa c1;have C2:=aa c2;obtain⟨n,wW⟩:∃ n,l.length=n:=⟨_,rfl⟩;have HN:=aa wW;rw[wW]at hn hk hi lt1 lt2 ⊢;clear bX hl el hx he hf ic hCI hbm c1 c2 jr wW heE hfE
 go_enter Tryz.func100,Tryz.ntmps100
 go_wp2_with fail
 refine bj (fun W=>Below w.heap.size w W/\∃ c,W.heap[w.heap.size]?=some (.cells c 35)/\c=bE s.prob (.slice qc s.prob.t.cases.length kc) (.slice qs s.prob.a.states.length ks) s.n (.slice qt s.tab.length kt) (.slice qe s.ex.length ke)) ⟨by go_grown,_,ak _ _,rfl⟩ (fun W0 aW=>?_);obtain⟨aC,_,br,rfl⟩:=aW;have cM:=aa aC;have tA:=ab br;have t1:=ai aC C1.out;have t2:=ai aC C2.out;clear aC br
 go_still_tail 11,(by kernel_rfl)
 go_wp2_with fail
 refine aL (fun W=>Below w.heap.size w W) cM.out.drew (fun W1 cC=>?_);refine(eo.out W1 cC).mono ?_;rintro r w1 ⟨rfl,aG⟩;have bC:=aa (ae cC aG);clear cC tA t1 t2 aG eo
 go_wp2_with fail
 refine(Al.out w1).mono ?_;rintro r w2 ⟨u2,rfl,oe,aV⟩;have cB:=aa (ae bC.out aV);obtain⟨pu,cu,rfl,IM,hum,eu⟩:=oe.at;clear aV Al oe;cases bb with
 | false=>
  have hE:=fD.out rfl;subst hE;clear IM hum eu
  go_wp2_with fail
  go_ret
  exact⟨_,rfl,U2 _,cB.out⟩
 | true=>
  obtain⟨t,hE⟩:=HYE.out rfl;subst hE;obtain⟨bu,ou,rfl,cu0,_⟩:=eu 0 (by simp);have hd:(((bp :: t).length:Int) == 0)=false:=beq_eq_false_iff_ne.2 (by simp only[List.length_cons];omega);have fS:(((t.length:Nat):Int)+1 == 0)=false:=beq_eq_false_iff_ne.2 (by omega);have jn:IntKind.i64.wrap ((i:Int)+1)=((i+1:Nat):Int):=by rw[IntWalk.i64_in _ (by omega)];omega
  have xg:IntKind.i64.wrap ((k:Int)+1)=((k+1:Nat):Int):=by rw[IntWalk.i64_in _ (by omega)];omega
  have cu1:w2.cell? ⟨bu,ou,none⟩=some (.int .i64 bp):=by simpa using cu0
  have CU:=aa cu1;have jL:=aa (aD.of_owns (World.ownsRow_made (base:=w2.heap.size) (size:=2) (e:=75) w2 #[] 0 (Nat.le_refl _) (by decide) rfl))
  have HRA:Hid (gh (w2.alloc (.cells #[] 75)) 2 (.slice (some ⟨b1,o1,none⟩) (i+1) cl) (i+1) (bF (l.take (i+1)))):=aa (by
   have h:=OT (ni (HL.out.up up_link (cB.out.trans ((Below.refl _ w2).alloc (Nat.le_refl _) (.cells #[] 75) |>.mono cB.out.size))) (i+1) (by rw[HN.out];exact hi));rw[List.length_take,Nat.min_eq_left (by rw[HN.out];exact hi)]at h
   exact h)
  have gO:Hid (0+(i+1)<=maxLen):=aa (by unfold maxLen;omega);have tK:Hid ((0+(i+1)) * 16<=140737488355328):=aa (by omega);have fL:Hid (w2.heap.size<=(w2.alloc (.cells #[] 75)).heap.size):=aa (by simp);clear eu cu0 cu1
  go_wp2_with (at_builtin;(refine fi _ rfl (.tmp 27) (.tmp 31) 54 rfl w2.heap.size 75 i0 _ 2 16 Tryz.underlying54 bQ.out.1 bQ.out.2.1 bQ.out.2.2.1 bQ.out.2.2.2 rfl (by decide) _ 0 [] rfl jL.out _ (i+1) _ rfl HRA.out gO.out tK.out fL.out ?_;intro v5 w5 sE yW _))
  obtain⟨a5,c5,rfl⟩:=sE.slice;have Ii:=aa (eR (Below.refl _ w2) (Nat.le_refl _) jL.out yW);have iy:=aa (ae cB.out Ii.out);rw[Nat.zero_add,List.nil_append]at sE;rw[Nat.zero_add];have HOW5:=aa sE
  have HRB:Hid (∀ V,Below w.heap.size w V->(∀ X,gh V 2 (.slice (some ⟨b1,o1+(k+1) * 2,none⟩) (n - (k+1)) X) (n - (k+1)) (bF (l.drop (k+1))))/\(n<=k+1->∀ X,gh V 2 (.slice (some ⟨b1,o1,none⟩) (n - (k+1)) X) (n - (k+1)) (bF (l.drop (k+1))))):=aa (fun V hV=>by
   refine⟨fun X=>?_,fun lu X=>?_⟩
   ·have hc:=pE (HL.out.up up_link hV)
    refine⟨_,X,rfl,(fun h=>by cases h),by rw[eY,List.length_drop,HN.out],fun j u hu=>?_,mX _⟩
    have oe:(bF l)[(k+1) * 2+j]?=some u:=by
     rw[<-List.take_append_drop (k+1) l,jj,List.getElem?_append_right (by rw[eY,List.length_take,HN.out];omega),eY,List.length_take,HN.out];rw[show (k+1) * 2+j - min (k+1) n * 2=j by omega];exact hu
    obtain⟨b',o',c',e1,e2⟩:=hc _ u oe;injection e1 with e1
    injection e1 with e1
    injection e1 with e3 e4 _
    subst e3 e4;exact⟨b1,o1+(k+1) * 2,rfl,by rw[Nat.add_assoc];exact e2⟩
   ·have hz:l.drop (k+1)=[]:=List.drop_eq_nil_of_le (by rw[HN.out];exact lu)
    rw[hz,show n - (k+1)=0 by omega]
    exact⟨_,X,rfl,(fun h=>by cases h),rfl,(fun j u hu=>by simp[bF]at hu),(fun u hu=>by simp[bF]at hu)⟩)
  have MS:Hid (∀ V u,aD V w2.heap.size 75 2 u (i+1+1+(n - (k+1))) (bF (l.take (i+1))++[.int .i64 (f:Int),.int .i64 bp]++bF (l.drop (k+1)))->aU V u (l.take (i+1)++⟨f,bp⟩ :: l.drop (k+1))):=aa (fun V u h=>by
   have e1:bF (l.take (i+1))++[.int .i64 (f:Int),.int .i64 bp]++bF (l.drop (k+1))=bF (l.take (i+1)++⟨f,bp⟩ :: l.drop (k+1)):=by
    rw[List.append_assoc,jj];rfl
   have e2:(l.take (i+1)++⟨f,bp⟩ :: l.drop (k+1):List Lk).length=i+1+1+(n - (k+1)):=by
    rw[List.length_append,List.length_cons,List.length_take,List.length_drop,HN.out];omega
   rw[e1,<-e2]at h;refine kQ h (fun y hy=>?_) (by rw[e2];omega);rcases List.mem_append.1 hy with hy|hy
   ·exact gu.out y (List.mem_of_mem_take hy)
   ·rcases List.mem_cons.1 hy with rfl|hy
    ·exact⟨Cz.out,y8.out (by first|rfl|trivial)⟩
    ·exact gu.out y (List.mem_of_mem_drop hy))
  have Xl:Hid (i+1+1+(n - (k+1))<=maxLen):=aa (by unfold maxLen;omega);have VY:Hid ((i+1+1+(n - (k+1))) * 16<=140737488355328):=aa (by omega);clear gO tK fL HRA yW sE jL;have hS:List.Nodup [33,34,35,36,37,38,39,40,41,42,43]:=by decide
  refine dJ 11 [33,34,35,36,37,38,39,40,41,42,43] [MP.eq (.slice a5 (i+1) c5),MP.eq (.slice (some ⟨b1,o1,none⟩) n cl),MP.eq (.int .i64 (k:Nat)),MP.eq (.pointer (some ⟨b1,o1+k * 2,none⟩)),MP.eq (.pointer (some ⟨b1,o1+k * 2,none⟩)),MP.eq (.int .i64 (f:Nat)),MP.eq (.slice (some ⟨bu,ou,none⟩) (t.length+1) cu),MP.eq (.pointer (some ⟨bu,ou,none⟩)),MP.eq (.int .i64 bp),MP.eq (.agg #[.int .i64 (f:Nat),.int .i64 bp]),XW #[.int .i64 (f:Nat),.int .i64 bp]] (by kernel_rfl) (by simp) hS rfl (by kernel_rfl) (by kernel_rfl) (by kernel_rfl) ?step ?tail
  case step=>
   intro xq Wq iq oq sq F hi ho hs hB aj hF;rcases (show iq=0\/iq=1\/iq=2\/iq=3\/iq=4\/iq=5\/iq=6\/iq=7\/iq=8\/iq=9\/iq=10 by omega) with rfl|rfl|rfl|rfl|rfl|rfl|rfl|rfl|rfl|rfl|rfl
   all_goals (obtain rfl:=cU ho.symm;obtain rfl:=cU hs.symm;clear hi ho hs)
   ·obtain⟨g10,CQ⟩:=bT hF 10 (.slice a5 (i+1) c5) (by decide) rfl
    clear hF aj
    go_wp2_with fail
    exact aQ.mk (.slice a5 (i+1) c5) (Below.refl _ _) rfl rfl
   ·obtain⟨g1,h1⟩:=bT hF 1 (.slice (some ⟨b1,o1,none⟩) n cl) (by decide) rfl
    clear hF aj
    go_wp2_with fail
    exact aQ.mk (.slice (some ⟨b1,o1,none⟩) n cl) (Below.refl _ _) rfl rfl
   ·obtain⟨g3,h3⟩:=bT hF 3 (.int .i64 (k:Nat)) (by decide) rfl
    clear hF aj
    go_wp2_with fail
    exact aQ.mk (.int .i64 (k:Nat)) (Below.refl _ _) rfl rfl
   ·obtain⟨e1,f1⟩:=aJ hF 1 34 (.slice (some ⟨b1,o1,none⟩) n cl) hS rfl (by kernel_rfl) (aj ⟨1,.data⟩ (by simp) rfl)
    obtain⟨e2,f2⟩:=aJ hF 2 35 (.int .i64 (k:Nat)) hS rfl (by kernel_rfl) (aj ⟨2,.data⟩ (by simp) rfl);clear hF aj
    go_wp2_with fail
    exact aQ.mk (.pointer (some ⟨b1,o1+k * 2,none⟩)) (Below.refl _ _) rfl rfl
   ·obtain⟨e3,f3⟩:=aJ hF 3 36 (.pointer (some ⟨b1,o1+k * 2,none⟩)) hS rfl (by kernel_rfl) (aj ⟨3,.data⟩ (by simp) rfl)
    clear hF aj
    go_wp2_with fail
    exact aQ.mk (.pointer (some ⟨b1,o1+k * 2,none⟩)) (Below.refl _ _) rfl rfl
   ·obtain⟨e4,f4⟩:=aJ hF 4 37 (.pointer (some ⟨b1,o1+k * 2,none⟩)) hS rfl (by kernel_rfl) (aj ⟨4,.data⟩ (by simp) rfl)
    have tb:=ai (iy.out.trans (hB.mono iy.out.size)) C2.out;clear hF aj
    go_wp2_with fail
    exact aQ.mk (.int .i64 (f:Nat)) (Below.refl _ _) rfl rfl
   ·obtain⟨g9,h9⟩:=bT hF 9 (.slice (some ⟨bu,ou,none⟩) (t.length+1) cu) (by decide) rfl
    clear hF aj
    go_wp2_with fail
    exact aQ.mk (.slice (some ⟨bu,ou,none⟩) (t.length+1) cu) (Below.refl _ _) rfl rfl
   ·obtain⟨e6,f6⟩:=aJ hF 6 39 (.slice (some ⟨bu,ou,none⟩) (t.length+1) cu) hS rfl (by kernel_rfl) (aj ⟨6,.data⟩ (by simp) rfl)
    clear hF aj
    go_wp2_with fail
    exact aQ.mk (.pointer (some ⟨bu,ou,none⟩)) (Below.refl _ _) rfl rfl
   ·obtain⟨e7,f7⟩:=aJ hF 7 40 (.pointer (some ⟨bu,ou,none⟩)) hS rfl (by kernel_rfl) (aj ⟨7,.data⟩ (by simp) rfl)
    have tb:=ai (Ii.out.trans (hB.mono Ii.out.size)) CU.out;clear hF aj
    go_wp2_with fail
    exact aQ.mk (.int .i64 bp) (Below.refl _ _) rfl rfl
   ·obtain⟨e5,f5⟩:=aJ hF 5 38 (.int .i64 (f:Nat)) hS rfl (by kernel_rfl) (aj ⟨5,.data⟩ (by simp) rfl)
    obtain⟨e8,f8⟩:=aJ hF 8 41 (.int .i64 bp) hS rfl (by kernel_rfl) (aj ⟨8,.data⟩ (by simp) rfl);clear hF aj
    go_wp2_with fail
    exact aQ.mk (.agg #[.int .i64 (f:Nat),.int .i64 bp]) (Below.refl _ _) rfl rfl
   ·obtain⟨e9,f9⟩:=aJ hF 9 42 (.agg #[.int .i64 (f:Nat),.int .i64 bp]) hS rfl (by kernel_rfl) (aj ⟨9,.data⟩ (by simp) rfl)
    clear hF aj
    go_wp2_with fail
    exact aQ.mk _ (by go_grown) ⟨_,rfl,ak _ _⟩ rfl
  case tail=>
   clear hS;intro xq W3 F hB aP hF;have e0:xq 0=.slice a5 (i+1) c5:=aP 0 (by omega);obtain⟨bl,e10,kl⟩:∃ b,xq 10=.slice (some ⟨b,0,none⟩) 1 1/\W3.heap[b]?=some (.cells #[.int .i64 (f:Int),.int .i64 bp] 75):=aP 10 (by omega);clear aP;simp only[bd,cJ,List.setIfInBounds_toArray,List.set_cons_succ,List.set_cons_zero,Nat.reduceAdd]at hF;rw[e0,e10]at hF;generalize xq 1=s1,xq 2=s2,xq 3=s3,xq 4=s4,xq 5=s5,xq 6=s6,xq 7=s7,xq 8=s8,xq 9=s9 at hF;subst hF;clear e0 e10;have qn:=hB;have bB:=aa (Rn (l:=[.int .i64 (f:Int),.int .i64 bp]) kl);have D9:=aa (Ii.out.trans (hB.mono Ii.out.size));have jL:=aa (HOW5.out.up qn);have gO:Hid (i+1+1<=maxLen):=aa (by unfold maxLen;omega);have tK:Hid ((i+1+1) * 16<=140737488355328):=aa (by omega);have fL:Hid (w2.heap.size<=W3.heap.size):=aa D9.out.size;clear hB qn kl;simp only[List.drop_succ_cons,List.drop_zero];refine aZ _ rfl (.tmp 33) (.tmp 43) 54 rfl w2.heap.size 75 i0 _ 2 16 Tryz.underlying54 bQ.out.1 bQ.out.2.1 bQ.out.2.2.1 bQ.out.2.2.2 rfl (by decide) _ (i+1) _ rfl jL.out ⟨bl,0,none⟩ 1 1 [.int .i64 (f:Int),.int .i64 bp] rfl rfl bB.out (by simp[Value.oneCell']) gO.out tK.out fL.out ?_;intro v9 w9 eh dg _;have Jb:=aa (Below.grown D9.out dg D9.out.size (fun g h=>(jL.out.lt g h).1));have eO:=aa (cB.out.trans (Jb.out.mono cB.out.size));have DX:=aa eh;obtain⟨a9,c9,rfl⟩:=eh.slice;have bZ:Hid (∀ (v10:Value) (w10:World),w9.grownBy w10 (Value.slice a9 (i+1+1) c9).ownBlock->Below w.heap.size w w10):=aa (fun v10 w10 hg=>cB.out.trans ((Below.grown Jb.out hg Jb.out.size (fun g h=>(DX.out.lt g h).1)).mono cB.out.size));clear eh dg bB gO tK fL jL;by_cases IN:cl=k+1
   ·have HR:=aa ((HRB.out _ eO.out).2 (by omega))
    have hz:n - (k+1)=0:=by omega
    rw[hz]at HR Xl VY MS;subst IN
    go_wp2_with (at_builtin;(refine fi _ rfl (.tmp 45) (.tmp 49) 54 rfl w2.heap.size 75 i0 _ 2 16 Tryz.underlying54 bQ.out.1 bQ.out.2.1 bQ.out.2.2.1 bQ.out.2.2.2 rfl (by decide) _ (i+1+1) _ rfl DX.out _ 0 _ rfl (HR.out _) Xl.out VY.out Jb.out.size ?_;intro v10 w10 yw uU _;have wM:=aa (bZ.out v10 _ uU);have RF:=aa yw;clear yw uU))
    go_ret
    exact⟨_,rfl,MS.out _ _ RF.out,wM.out⟩
   ·have HR:=aa (HRB.out _ eO.out).1
    go_wp2_with (at_builtin;(refine fi _ rfl (.tmp 45) (.tmp 49) 54 rfl w2.heap.size 75 i0 _ 2 16 Tryz.underlying54 bQ.out.1 bQ.out.2.1 bQ.out.2.2.1 bQ.out.2.2.2 rfl (by decide) _ (i+1+1) _ rfl DX.out _ (n - (k+1)) _ rfl (HR.out _) Xl.out VY.out Jb.out.size ?_;intro v10 w10 yw uU _;have wM:=aa (bZ.out v10 _ uU);have RF:=aa yw;clear yw uU))
    go_ret
    exact⟨_,rfl,MS.out _ _ RF.out,wM.out⟩
theorem gh.up2{w w':World} {k n:Nat} {v:Value} {xs:List Value} (h:gh w k v n xs) (hb:Below w.heap.size w w'):gh w' k v n xs:=by
 obtain⟨a,cap,e,h1,h2,h3,h4⟩:=h;exact⟨a,cap,e,h1,h2,fun j u hu=>by obtain⟨b,o,e1,e2⟩:=h3 j u hu;exact⟨b,o,e1,ai hb e2⟩,h4⟩
def XN(B:Nat) (cs:Array Value):MP:=⟨fun x W=>∃ b,x=.slice (some ⟨b,0,none⟩) 1 1/\B<=b/\W.heap[b]?=some (.cells cs 75),fun _ _ _ h hb=>by obtain⟨b,e,h0,h1⟩:=h;exact⟨b,e,h0,af hb h1⟩⟩
def Vv(n:Nat) (xs:List Value):MP:=⟨fun x W=>gh W 2 x n xs,fun _ _ _ h hb=>h.up2 hb⟩
theorem Rp{V:World} {b1 o1 n cl k:Nat} {l:List Lk} (hl:aU V (.slice (some ⟨b1,o1,none⟩) n cl) l) (hn:l.length=n) (hk:k<=n) (X:Nat):gh V 2 (.slice (some ⟨b1,o1+k * 2,none⟩) (n - k) X) (n - k) (bF (l.drop k)):=by
 have hc:=pE hl;refine⟨_,X,rfl,(fun h=>by cases h),by rw[eY,List.length_drop,hn],fun j u hu=>?_,mX _⟩
 have oe:(bF l)[k * 2+j]?=some u:=by
  rw[<-List.take_append_drop k l,jj,List.getElem?_append_right (by rw[eY,List.length_take,hn];omega),eY,List.length_take,hn];rw[show k * 2+j - min k n * 2=j by omega];exact hu
 obtain⟨b',o',c',e1,e2⟩:=hc _ u oe;injection e1 with e1
 injection e1 with e1
 injection e1 with e3 e4 _
 subst e3 e4;exact⟨b1,o1+k * 2,rfl,by rw[Nat.add_assoc];exact e2⟩
theorem Rq(V:World) (b o X:Nat):gh V 2 (.slice (some ⟨b,o,none⟩) 0 X) 0 []:=⟨_,X,rfl,(fun h=>by cases h),rfl,(fun j u hu=>by simp at hu),(fun u hu=>by simp at hu)⟩
theorem OU(s:Sys) (hs:SysOk s) (l:List Lk) (hw:walkE s l=0) (vc vs vt ve vl:Value) (w:World) (bX:IsSys w s vc vs vt ve) (hl:aU w vl l) :
  Calls Tryz.prog 57 #[.agg (bE s.prob vc vs s.n vt ve),vl] w fun r w'=>∃ u,r=.returned (.tuple #[u,.bool (nextW s l).isSome])/\aU w' u ((nextW s l).getD l)/\Below w.heap.size w w':=by
 obtain⟨i0,cG,cf,bP,cj⟩:=info_parts Tryz.infoLink;have bQ:=aa (And.intro cG (And.intro cf (And.intro bP cj)));clear cG cf bP cj;have HS:=aa bX;obtain⟨⟨qc,kc,rfl⟩,⟨qs,ks,rfl⟩,⟨qt,kt,rfl⟩,⟨qe,ke,rfl⟩⟩:=bg bX;obtain⟨lS,hn,hx⟩:=v8 hw;have HL:=aa hl;have gu:=aa (rc hl);obtain⟨pl,cl,rfl,lt1,lt2,el⟩:=hl.at;obtain⟨b1,o1,rfl,_,_⟩:=el 0 lS
 have si:Hid (∀ h:1<l.length,w.cell? ⟨b1,o1+2,none⟩=some (.int .i64 (l.getD 1 default).x)):=aa (fun h=>by
  obtain⟨b2,o2,e2,⟨c2,_⟩,_⟩:=el 1 h;injection e2 with e2
  injection e2 with e3 e4 _
  subst e3 e4;rw[show l.getD 1 default=l[1] by simp[h]]
  simpa using c2)
 have FH:=aa (fun (c:List Lk) (hc:c=[]\/walkE s c=0) vl W (hb:Below w.heap.size w W) (hv:aU W vl c)=>Mi s hs c hc _ _ _ _ vl W (HS.out.up hb) hv);have lq:=aa (fun (i k:Nat) (jw:i<k) (hk:k<l.length) W (hb:Below w.heap.size w W)=>Ro s hs l hn hx i k jw hk _ _ _ _ _ W (HS.out.up hb) (HL.out.up up_link hb));obtain⟨P,hP⟩:∃ P:List (List Lk)->Prop,P=fun R=>∃ d,dr s l=d++R/\∀ x∈d,dB s x=false:=⟨_,rfl⟩
 have SV:Hid (∀ c r,P (c :: r)->c=[]\/walkE s c=0):=aa (fun c r h=>by
  subst hP;obtain⟨d,h1,_⟩:=h;by_cases h0:0<c.length
  ·exact .inr ((xK (by rw[h1];simp) h0).walk hw)
  ·exact .inl (List.eq_nil_of_length_eq_zero (by omega)))
 have PZ:Hid (∀ c r,P (c :: r)->dB s c=true->nextW s l=some c):=aa (fun c r h hg=>by
  subst hP;obtain⟨d,h1,h2⟩:=h
  exact GW h1 h2 hg)
 have To:Hid (∀ c r,P (c :: r)->dB s c=false->P r):=aa (fun c r h hg=>by
  subst hP;obtain⟨d,h1,h2⟩:=h;refine⟨d++[c],by rw[h1];simp,fun x hx=>?_⟩;rcases List.mem_append.1 hx with hx|hx
  ·exact h2 x hx
  ·rw[List.mem_singleton.1 hx];exact hg)
 have Pu:Hid (P []->nextW s l=none):=aa (fun h=>by
  subst hP;obtain⟨d,h1,h2⟩:=h
  exact Ew (by rw[h1];simp) h2)
 have Jj:Hid (P (l.dropLast :: ((if 1<l.length then [⟨(l.getD 1 default).x,-1⟩ :: l.drop 2] else [])++dL s l 0))):=aa (by
  subst hP
  exact⟨[],vR s l,by simp⟩)
 have HD:Hid (∀ W,Below w.heap.size w W->aU W (.slice (some ⟨b1,o1,none⟩) (l.length - 1) cl) l.dropLast):=aa (fun W hb=>by
  rw[List.dropLast_eq_take]
  exact ni (HL.out.up up_link hb) _ (by omega))
 have kU:Hid (∀ W,Below w.heap.size w W->aU W (.slice (some ⟨b1,o1,none⟩) l.length cl) l):=aa (fun W hb=>HL.out.up up_link hb)
 have bP:1<l.length->bI (l.getD 1 default).x:=fun h=>by
  rw[show l.getD 1 default=l[1] by simp[h]];exact(gu.out _ (List.getElem_mem h)).1
 have O':=aa bP;generalize nextW s l=NX at PZ Pu ⊢;obtain⟨DL,hDL⟩:∃ x,l.dropLast=x:=⟨_,rfl⟩;rw[hDL]at Jj HD;generalize (l.getD 1 default).x=z1 at si Jj O';obtain⟨n,wW⟩:∃ n,l.length=n:=⟨_,rfl⟩;have HN:=aa wW;rw[wW]at lS hn lt1 lt2 si lq Jj HD kU O' ⊢;clear bX hl el hx hP hDL wW hw bP;have V6:IntKind.i64.wrap ((n:Int) - 1)=((n - 1:Nat):Int):=by rw[IntWalk.i64_in _ (by omega)];omega
 have Cl:((n - 1:Nat):Int)=(n:Int) - 1:=by omega
 have VF:=aa V6;have Wp:=aa (show n - 1<=cl by omega)
 go_enter Tryz.func57,Tryz.ntmps57
 go_wp2_with fail
 refine bj (fun W=>Below w.heap.size w W/\∃ c,W.heap[w.heap.size]?=some (.cells c 35)/\c=bE s.prob (.slice qc s.prob.t.cases.length kc) (.slice qs s.prob.a.states.length ks) s.n (.slice qt s.tab.length kt) (.slice qe s.ex.length ke)) ⟨by go_grown,_,ak _ _,rfl⟩ (fun W0 aW=>?_);obtain⟨aC,_,br,rfl⟩:=aW;have cM:=aa aC;have gT:=aa br;generalize s.prob.t.cases.length=nc,s.prob.a.states.length=ns,s.tab.length=nt,s.ex.length=ne at gT FH lq;clear aC br;have hS:List.Nodup [13,14,15,16,17]:=by decide
 refine dJ 5 [13,14,15,16,17] [MP.eq (.agg #[.int .i64 s.prob.t.n,.int .i64 s.prob.t.ins,.int .i64 s.prob.t.outs,.slice qc nc kc,.int .i64 s.prob.a.n,.slice qs ns ks,.int .i64 s.prob.rounds,.int .i64 s.n,.slice qt nt kt,.slice qe ne ke]),MP.eq (.slice (some ⟨b1,o1,none⟩) n cl),MP.eq (.int .i64 (n:Nat)),MP.eq (.int .i64 ((n:Int) - 1)),MP.eq (.slice (some ⟨b1,o1,none⟩) (n - 1) cl)] (by kernel_rfl) (by simp) hS rfl (by kernel_rfl) (by kernel_rfl) (by kernel_rfl) ?step ?tail
 case step=>
  intro xq Wq iq oq sq F hi ho hs hB aj hF;rcases (show iq=0\/iq=1\/iq=2\/iq=3\/iq=4 by omega) with rfl|rfl|rfl|rfl|rfl
  all_goals (obtain rfl:=cU ho.symm;obtain rfl:=cU hs.symm;clear hi ho hs)
  ·obtain⟨g2,h2⟩:=bT hF 2 (.pointer (some ⟨w.heap.size,0,none⟩)) (by decide) rfl
   have tb:=ab (af hB gT.out);clear hF aj
   go_wp2_with fail
   exact aQ.mk (.agg #[.int .i64 s.prob.t.n,.int .i64 s.prob.t.ins,.int .i64 s.prob.t.outs,.slice qc nc kc,.int .i64 s.prob.a.n,.slice qs ns ks,.int .i64 s.prob.rounds,.int .i64 s.n,.slice qt nt kt,.slice qe ne ke]) (Below.refl _ _) rfl rfl
  ·obtain⟨g1,h1⟩:=bT hF 1 (.slice (some ⟨b1,o1,none⟩) n cl) (by decide) rfl
   clear hF aj
   go_wp2_with fail
   exact aQ.mk (.slice (some ⟨b1,o1,none⟩) n cl) (Below.refl _ _) rfl rfl
  ·obtain⟨g6,h6⟩:=bT hF 6 (.int .i64 (n:Nat)) (by decide) rfl
   clear hF aj
   go_wp2_with fail
   exact aQ.mk (.int .i64 (n:Nat)) (Below.refl _ _) rfl rfl
  ·obtain⟨e2,f2⟩:=aJ hF 2 15 (.int .i64 (n:Nat)) hS rfl (by kernel_rfl) (aj ⟨2,.data⟩ (by simp) rfl)
   have V6:=VF.out;clear hF aj
   go_wp2_with fail
   exact aQ.mk (.int .i64 ((n:Int) - 1)) (Below.refl _ _) rfl rfl
  ·obtain⟨e1,f1⟩:=aJ hF 1 14 (.slice (some ⟨b1,o1,none⟩) n cl) hS rfl (by kernel_rfl) (aj ⟨1,.data⟩ (by simp) rfl)
   obtain⟨e3,f3⟩:=aJ hF 3 16 (.int .i64 ((n:Int) - 1)) hS rfl (by kernel_rfl) (aj ⟨3,.data⟩ (by simp) rfl);have gt:=Wp.out;clear hF aj
   go_wp2_with fail
   exact aQ.mk (.slice (some ⟨b1,o1,none⟩) (n - 1) cl) (Below.refl _ _) rfl rfl
 case tail=>
  clear hS;intro xq W3 F hB aP hF;have e0:xq 0=.agg #[.int .i64 s.prob.t.n,.int .i64 s.prob.t.ins,.int .i64 s.prob.t.outs,.slice qc nc kc,.int .i64 s.prob.a.n,.slice qs ns ks,.int .i64 s.prob.rounds,.int .i64 s.n,.slice qt nt kt,.slice qe ne ke]:=aP 0 (by omega);have e4:xq 4=.slice (some ⟨b1,o1,none⟩) (n - 1) cl:=aP 4 (by omega);clear aP;simp only[bd,cJ,List.setIfInBounds_toArray,List.set_cons_succ,List.set_cons_zero,Nat.reduceAdd]at hF;rw[e0,e4]at hF;generalize xq 1=s1,xq 2=s2,xq 3=s3 at hF;subst hF;clear e0 e4;have cC:=hB;clear hB;simp only[List.drop_succ_cons,List.drop_zero]
  go_wp2_with fail
  refine(FH.out _ (SV.out _ _ Jj.out) _ W3 (ae cM.out cC) (HD.out W3 (ae cM.out cC))).mono ?_;rintro r w1 ⟨rfl,aG⟩;have bC:=aa (ae cC aG);clear cC aG;cases hg:dB s DL with
  | true=>
   have dz:=aa (PZ.out _ _ Jj.out hg);have HU:=aa (HD.out w1 (ae cM.out bC.out));clear hg
   go_wp2_with fail
   go_ret2
   exact⟨_,by rw[dz.out];rfl,by rw[dz.out];exact HU.out,ae cM.out bC.out⟩
  | false=>
   have SX:=aa (To.out _ _ Jj.out hg);clear hg Jj HD;by_cases Fy:1<n
   ·have P7:Hid (P ((⟨z1,-1⟩ :: l.drop 2) :: dL s l 0)):=aa (by have h:=SX.out;rwa [if_pos Fy]at h)
    have HLT1:=aa (show 1<n from Fy);have HLT2:=aa (show 2<=n/\n<=cl by omega);have Tb:=aa (si.out Fy);have Io:decide ((1:Int)<(n:Int))=true:=decide_eq_true (by omega);have hd1n:decide (1<n)=true:=decide_eq_true Fy;clear SX
    go_wp2_with fail
    have hS:List.Nodup [25,26,27,28,29,30,31,32]:=by decide
    refine dJ 8 [25,26,27,28,29,30,31,32] [MP.eq (.slice (some ⟨b1,o1,none⟩) n cl),MP.eq (.pointer (some ⟨b1,o1+2,none⟩)),MP.eq (.pointer (some ⟨b1,o1+2,none⟩)),MP.eq (.int .i64 z1),MP.eq (.agg #[.int .i64 z1,.int .i64 (-1)]),XN w1.heap.size #[.int .i64 z1,.int .i64 (-1)],MP.eq (.slice (some ⟨b1,o1,none⟩) n cl),Vv (n - 2) (bF (l.drop 2))] (by kernel_rfl) (by simp) hS rfl (by kernel_rfl) (by kernel_rfl) (by kernel_rfl) ?step ?tail
    case step=>
     intro xq Wq iq oq sq F hi ho hs hB aj hF;rcases (show iq=0\/iq=1\/iq=2\/iq=3\/iq=4\/iq=5\/iq=6\/iq=7 by omega) with rfl|rfl|rfl|rfl|rfl|rfl|rfl|rfl
     all_goals (obtain rfl:=cU ho.symm;obtain rfl:=cU hs.symm;clear hi ho hs)
     ·obtain⟨g1,h1⟩:=bT hF 1 (.slice (some ⟨b1,o1,none⟩) n cl) (by decide) rfl
      clear hF aj
      go_wp2_with fail
      exact aQ.mk (.slice (some ⟨b1,o1,none⟩) n cl) (Below.refl _ _) rfl rfl
     ·obtain⟨e0,f0⟩:=aJ hF 0 25 (.slice (some ⟨b1,o1,none⟩) n cl) hS rfl (by kernel_rfl) (aj ⟨0,.data⟩ (by simp) rfl)
      have gt:=HLT1.out;clear hF aj
      go_wp2_with fail
      exact aQ.mk (.pointer (some ⟨b1,o1+2,none⟩)) (Below.refl _ _) rfl rfl
     ·obtain⟨e1,f1⟩:=aJ hF 1 26 (.pointer (some ⟨b1,o1+2,none⟩)) hS rfl (by kernel_rfl) (aj ⟨1,.data⟩ (by simp) rfl)
      clear hF aj
      go_wp2_with fail
      exact aQ.mk (.pointer (some ⟨b1,o1+2,none⟩)) (Below.refl _ _) rfl rfl
     ·obtain⟨e2,f2⟩:=aJ hF 2 27 (.pointer (some ⟨b1,o1+2,none⟩)) hS rfl (by kernel_rfl) (aj ⟨2,.data⟩ (by simp) rfl)
      have tb:=ai (ae cM.out (ae bC.out hB)) Tb.out;clear hF aj
      go_wp2_with fail
      exact aQ.mk (.int .i64 z1) (Below.refl _ _) rfl rfl
     ·obtain⟨e3,f3⟩:=aJ hF 3 28 (.int .i64 z1) hS rfl (by kernel_rfl) (aj ⟨3,.data⟩ (by simp) rfl)
      clear hF aj
      go_wp2_with fail
      exact aQ.mk (.agg #[.int .i64 z1,.int .i64 (-1)]) (Below.refl _ _) rfl rfl
     ·obtain⟨e4,f4⟩:=aJ hF 4 29 (.agg #[.int .i64 z1,.int .i64 (-1)]) hS rfl (by kernel_rfl) (aj ⟨4,.data⟩ (by simp) rfl)
      have gM:=hB.size;clear hF aj
      go_wp2_with fail
      exact aQ.mk _ (by go_grown) ⟨_,rfl,gM,ak _ _⟩ rfl
     ·obtain⟨g1,h1⟩:=bT hF 1 (.slice (some ⟨b1,o1,none⟩) n cl) (by decide) rfl
      clear hF aj
      go_wp2_with fail
      exact aQ.mk (.slice (some ⟨b1,o1,none⟩) n cl) (Below.refl _ _) rfl rfl
     ·obtain⟨e6,f6⟩:=aJ hF 6 31 (.slice (some ⟨b1,o1,none⟩) n cl) hS rfl (by kernel_rfl) (aj ⟨6,.data⟩ (by simp) rfl)
      have gt:=HLT2.out;have Xh:=aa (ae cM.out (ae bC.out hB));clear hF aj;by_cases IN:cl=2
      ·have hz:n - 2=0:=by omega
       have HR:Hid (∀ X,gh Wq 2 (.slice (some ⟨b1,o1,none⟩) 0 X) (n - 2) (bF (l.drop 2))):=aa (fun X=>by rw[hz,List.drop_eq_nil_of_le (by rw[HN.out];omega)];exact Rq _ _ _ _);subst IN
       go_wp2_with fail
       exact aQ.mk _ (Below.refl _ _) (HR.out _) rfl
      have HR:Hid (∀ X,gh Wq 2 (.slice (some ⟨b1,o1+2 * 2,none⟩) (n - 2) X) (n - 2) (bF (l.drop 2))):=aa (fun X=>Rp (kU.out _ Xh.out) HN.out (by omega) X)
      go_wp2_with fail
      exact aQ.mk _ (Below.refl _ _) (HR.out _) rfl
    case tail=>
     clear hS;intro xq W3 F hB aP hF;obtain⟨bl,e5,mE,kl⟩:∃ b,xq 5=.slice (some ⟨b,0,none⟩) 1 1/\w1.heap.size<=b/\W3.heap[b]?=some (.cells #[.int .i64 z1,.int .i64 (-1)] 75):=aP 5 (by omega);have D8:gh W3 2 (xq 7) (n - 2) (bF (l.drop 2)):=aP 7 (by omega);clear aP;simp only[bd,cJ,List.setIfInBounds_toArray,List.set_cons_succ,List.set_cons_zero,Nat.reduceAdd]at hF;rw[e5]at hF;generalize xq 7=s7 at hF D8;generalize xq 0=s0,xq 1=s1,xq 2=s2,xq 3=s3,xq 4=s4,xq 6=s6 at hF;subst hF;clear e5;have yz:=aa D8;have dP:=aa hB;have jL:Hid (aD W3 w1.heap.size 75 2 (.slice (some ⟨bl,0,none⟩) 1 1) 1 [.int .i64 z1,.int .i64 (-1)]):=aa ⟨rfl,.inr ⟨bl,1,_,(0,0),rfl,mE,kl,fun i _ h=>by have:=h.2;simp at this,Nat.le_refl _,by unfold maxLen;omega,rfl,rfl⟩⟩;have gO:Hid (1+(n - 2)<=maxLen):=aa (by unfold maxLen;omega);have tK:Hid ((1+(n - 2)) * 16<=140737488355328):=aa (by omega);have fL:Hid (w1.heap.size<=W3.heap.size):=aa hB.size;clear hB kl D8 mE;simp only[List.drop_succ_cons,List.drop_zero];refine fi _ rfl (.tmp 30) (.tmp 32) 54 rfl w1.heap.size 75 i0 _ 2 16 Tryz.underlying54 bQ.out.1 bQ.out.2.1 bQ.out.2.2.1 bQ.out.2.2.2 rfl (by decide) _ 1 _ rfl jL.out _ (n - 2) _ rfl yz.out gO.out tK.out fL.out ?_;intro v9 w9 eh dg _;have eO:=aa (ae bC.out (Below.grown dP.out dg fL.out (fun g h=>(jL.out.lt g h).1)))
     have Tw:Hid (aU w9 v9 (⟨z1,-1⟩ :: l.drop 2)):=aa (by
      have e2:(⟨z1,-1⟩ :: l.drop 2:List Lk).length=1+(n - 2):=by rw[List.length_cons,List.length_drop,HN.out];omega
      rw[<-e2]at eh;refine kQ (l:=⟨z1,-1⟩ :: l.drop 2) eh (fun y hy=>?_) (by rw[e2];omega);rcases List.mem_cons.1 hy with rfl|hy
      ·exact⟨O'.out Fy,show bI (-1) by unfold bI;omega⟩
      ·exact gu.out y (List.mem_of_mem_drop hy))
     obtain⟨a9,c9,rfl⟩:=eh.slice;have tA:=ab (af eO.out gT.out);clear eh dg gO tK fL jL yz
     go_wp2_with fail
     refine(FH.out _ (SV.out _ _ P7.out) _ w9 (ae cM.out eO.out) Tw.out).mono ?_;rintro r w10 ⟨rfl,rD⟩;have Cr:=aa (ae eO.out rD);have TW:=aa (Tw.out.up up_link rD);clear tA rD;cases hg:dB s (⟨z1,-1⟩ :: l.drop 2) with
     | true=>
      have dz:=aa (PZ.out _ _ P7.out hg);clear hg
      go_wp2_with fail
      go_ret2
      exact⟨_,by rw[dz.out];rfl,by rw[dz.out];exact TW.out,ae cM.out Cr.out⟩
     | false=>
      have wQ:=aa (To.out _ _ P7.out hg);clear hg
      go_wp2_with fail
      go_loopw [8] (fun i wr=>∃ i':Nat,i'<=n/\i=.int .i64 i'/\Below W0.heap.size W0 wr/\P (dL s l i')) (fun i _=>n - (intOf i).toNat)
      case atStart=>exact⟨0,by omega,rfl,Cr.out,wQ.out⟩
      case round=>
       obtain⟨i,hi,rfl,aq,PQ⟩:=hrel;have aR:=aa aq;have PU:=aa PQ;clear PQ aq;by_cases cP:i<n
       ·have VP:Hid (P (fh s l i 0++dL s l (i+1))):=aa (by rw[<-vO s l i (by rw[HN.out];exact cP)];exact PU.out)
        have hwi:IntKind.i64.wrap ((i:Int)+2)=(i:Int)+2:=by rw[IntWalk.i64_in _ (by omega)]
        go_wp2_with fail
        obtain⟨wrA,lB⟩:∃ x,x=wr:=⟨_,rfl⟩;subst lB
        go_loopw [9] (fun kv wr=>∃ (j:Nat) (kz:Int),kz=(n:Int) - 1 - j/\j<=n/\kv=.int .i64 kz/\Below W0.heap.size W0 wr/\P (fh s l i j++dL s l (i+1))) (fun kv _=>(intOf kv).toNat)
        case atStart=>exact⟨0,(n:Int) - 1,by omega,by omega,rfl,aR.out,VP.out⟩
        case round=>
         obtain⟨j,kz,Fg,hj,rfl,uX,nr⟩:=hrel;have nR:=aa uX;have P6:=aa nr;clear uX nr;by_cases hk:(i:Int)+2<=kz
         ·obtain⟨k,rfl⟩:∃ k:Nat,kz=k:=⟨kz.toNat,by omega⟩
          have hd:decide ((i:Int)+2<=(k:Int))=true:=decide_eq_true hk;have Ft:decide (i+2<=k)=true:=decide_eq_true (by omega);have Cx:Hid (k=l.length - 1 - j/\i+2+j<l.length):=aa (by rw[HN.out];omega);have wT:k<n:=by omega
          have jw:i<k:=by omega
          have VB:IntKind.i64.wrap ((k:Int) - 1)=(k:Int) - 1:=by rw[IntWalk.i64_in _ (by omega)]
          have Id:Hid ((k:Int) - 1=(n:Int) - 1 - ((j+1:Nat):Int)/\((k:Int) - 1).toNat<k/\j+1<=n):=aa ⟨by omega,by omega,by omega⟩;have tA:=ab (af nR.out gT.out);clear Fg hk
          go_wp2_with fail
          refine(lq.out i k jw wT wr (ae cM.out nR.out)).mono ?_;rintro r w5 ⟨u5,rfl,kY,dO⟩
          obtain⟨c,Ib,KF,hT,hF⟩:∃ c,aU w5 u5 c/\(c=[]\/walkE s c=0)/\(dB s c=true->NX=some c)/\(dB s c=false->P (fh s l i (j+1)++dL s l (i+1))):=by
           have nr:=P6.out;obtain⟨jI,ku⟩:=Cx.out;cases Ar:l3 s l i k with
           | none=>
            rw[Ar]at kY;rw[vQ s l i j ku (by rw[<-jI];exact Ar)]at nr;exact⟨[],kY,.inl rfl,(fun h=>by simp[dB]at h),fun _=>nr⟩
           | some c=>
            rw[Ar]at kY;rw[vP s l i j ku (by rw[<-jI];exact Ar)]at nr;exact⟨c,kY,SV.out _ _ nr,PZ.out _ _ nr,To.out _ _ nr⟩
          have HU:=aa Ib;have Ts:=aa KF;have HT:=aa hT;have HF:=aa hF;have iy:=aa (ae nR.out dO);obtain⟨u5p,u5n,u5c,rfl⟩:∃ a b c,u5=.slice a b c:=by obtain⟨p,q,e,_⟩:=Ib.at;exact⟨p,_,q,e⟩
          clear kY dO Ib KF hT hF tA;have tA:=ab (af iy.out gT.out)
          go_wp2_with fail
          refine(FH.out c Ts.out _ w5 (ae cM.out iy.out) HU.out).mono ?_;rintro r w6 ⟨rfl,gx⟩;have lO:=aa (ae iy.out gx);have XB:=aa (HU.out.up up_link gx);clear gx tA;cases hg:dB s c with
          | true=>
           have dz:=aa (HT.out hg);clear hg
           go_wp2_with fail
           go_ret2
           exact⟨_,by rw[dz.out];rfl,by rw[dz.out];exact XB.out,ae cM.out lO.out⟩
          | false=>
           have SA:=aa (HF.out hg);clear hg
           go_wp2_with fail
           go_roundw
           case rel=>exact⟨j+1,(k:Int) - 1,Id.out.1,Id.out.2.2,by first|rfl|go_num,lO.out,SA.out⟩
           case measure=>have:=Id.out.2.1;simp[intOf];omega
         ·have Ss:Hid (P (dL s l (i+1))):=aa (by
           have h:=P6.out
           rwa [xT s l i j (by rw[HN.out];omega),List.nil_append]at h)
          have hd:decide ((i:Int)+2<=kz)=false:=decide_eq_false hk;clear Fg hk
          go_wp2_with fail
          go_roundw
          case rel=>exact⟨i+1,by omega,by go_num,nR.out,Ss.out⟩
          case measure=>simp[intOf];omega
       ·obtain rfl:i=n:=by omega
        have dz:Hid (NX=none):=aa (Pu.out (by have h:=PU.out;rwa [<-HN.out,xS]at h));have HU:=aa (kU.out wr (ae cM.out aR.out))
        go_wp2_with fail
        go_ret2
        exact⟨_,by rw[dz.out];rfl,by rw[dz.out];exact HU.out,ae cM.out aR.out⟩
   ·have wQ:Hid (P (dL s l 0)):=aa (by have h:=SX.out;rwa [if_neg Fy,List.nil_append]at h)
    have Io:decide ((1:Int)<(n:Int))=false:=decide_eq_false (by omega);have hd1n:decide (1<n)=false:=decide_eq_false Fy;have Cr:=bC;clear SX Fy
    go_wp2_with fail
    go_loopw [8] (fun i wr=>∃ i':Nat,i'<=n/\i=.int .i64 i'/\Below W0.heap.size W0 wr/\P (dL s l i')) (fun i _=>n - (intOf i).toNat)
    case atStart=>exact⟨0,by omega,rfl,Cr.out,wQ.out⟩
    case round=>
     obtain⟨i,hi,rfl,aq,PQ⟩:=hrel;have aR:=aa aq;have PU:=aa PQ;clear PQ aq;by_cases cP:i<n
     ·have VP:Hid (P (fh s l i 0++dL s l (i+1))):=aa (by rw[<-vO s l i (by rw[HN.out];exact cP)];exact PU.out)
      have hwi:IntKind.i64.wrap ((i:Int)+2)=(i:Int)+2:=by rw[IntWalk.i64_in _ (by omega)]
      go_wp2_with fail
      obtain⟨wrA,lB⟩:∃ x,x=wr:=⟨_,rfl⟩;subst lB
      go_loopw [9] (fun kv wr=>∃ (j:Nat) (kz:Int),kz=(n:Int) - 1 - j/\j<=n/\kv=.int .i64 kz/\Below W0.heap.size W0 wr/\P (fh s l i j++dL s l (i+1))) (fun kv _=>(intOf kv).toNat)
      case atStart=>exact⟨0,(n:Int) - 1,by omega,by omega,rfl,aR.out,VP.out⟩
      case round=>
       obtain⟨j,kz,Fg,hj,rfl,uX,nr⟩:=hrel;have nR:=aa uX;have P6:=aa nr;clear uX nr;by_cases hk:(i:Int)+2<=kz
       ·obtain⟨k,rfl⟩:∃ k:Nat,kz=k:=⟨kz.toNat,by omega⟩
        have hd:decide ((i:Int)+2<=(k:Int))=true:=decide_eq_true hk;have Ft:decide (i+2<=k)=true:=decide_eq_true (by omega);have Cx:Hid (k=l.length - 1 - j/\i+2+j<l.length):=aa (by rw[HN.out];omega);have wT:k<n:=by omega
        have jw:i<k:=by omega
        have VB:IntKind.i64.wrap ((k:Int) - 1)=(k:Int) - 1:=by rw[IntWalk.i64_in _ (by omega)]
        have Id:Hid ((k:Int) - 1=(n:Int) - 1 - ((j+1:Nat):Int)/\((k:Int) - 1).toNat<k/\j+1<=n):=aa ⟨by omega,by omega,by omega⟩;have tA:=ab (af nR.out gT.out);clear Fg hk
        go_wp2_with fail
        refine(lq.out i k jw wT wr (ae cM.out nR.out)).mono ?_;rintro r w5 ⟨u5,rfl,kY,dO⟩
        obtain⟨c,Ib,KF,hT,hF⟩:∃ c,aU w5 u5 c/\(c=[]\/walkE s c=0)/\(dB s c=true->NX=some c)/\(dB s c=false->P (fh s l i (j+1)++dL s l (i+1))):=by
         have nr:=P6.out;obtain⟨jI,ku⟩:=Cx.out;cases Ar:l3 s l i k with
         | none=>
          rw[Ar]at kY;rw[vQ s l i j ku (by rw[<-jI];exact Ar)]at nr;exact⟨[],kY,.inl rfl,(fun h=>by simp[dB]at h),fun _=>nr⟩
         | some c=>
          rw[Ar]at kY;rw[vP s l i j ku (by rw[<-jI];exact Ar)]at nr;exact⟨c,kY,SV.out _ _ nr,PZ.out _ _ nr,To.out _ _ nr⟩
        have HU:=aa Ib;have Ts:=aa KF;have HT:=aa hT;have HF:=aa hF;have iy:=aa (ae nR.out dO);obtain⟨u5p,u5n,u5c,rfl⟩:∃ a b c,u5=.slice a b c:=by obtain⟨p,q,e,_⟩:=Ib.at;exact⟨p,_,q,e⟩
        clear kY dO Ib KF hT hF tA;have tA:=ab (af iy.out gT.out)
        go_wp2_with fail
        refine(FH.out c Ts.out _ w5 (ae cM.out iy.out) HU.out).mono ?_;rintro r w6 ⟨rfl,gx⟩;have lO:=aa (ae iy.out gx);have XB:=aa (HU.out.up up_link gx);clear gx tA;cases hg:dB s c with
        | true=>
         have dz:=aa (HT.out hg);clear hg
         go_wp2_with fail
         go_ret2
         exact⟨_,by rw[dz.out];rfl,by rw[dz.out];exact XB.out,ae cM.out lO.out⟩
        | false=>
         have SA:=aa (HF.out hg);clear hg
         go_wp2_with fail
         go_roundw
         case rel=>exact⟨j+1,(k:Int) - 1,Id.out.1,Id.out.2.2,by first|rfl|go_num,lO.out,SA.out⟩
         case measure=>have:=Id.out.2.1;simp[intOf];omega
       ·have Ss:Hid (P (dL s l (i+1))):=aa (by
         have h:=P6.out
         rwa [xT s l i j (by rw[HN.out];omega),List.nil_append]at h)
        have hd:decide ((i:Int)+2<=kz)=false:=decide_eq_false hk;clear Fg hk
        go_wp2_with fail
        go_roundw
        case rel=>exact⟨i+1,by omega,by go_num,nR.out,Ss.out⟩
        case measure=>simp[intOf];omega
     ·obtain rfl:i=n:=by omega
      have dz:Hid (NX=none):=aa (Pu.out (by have h:=PU.out;rwa [<-HN.out,xS]at h));have HU:=aa (kU.out wr (ae cM.out aR.out))
      go_wp2_with fail
      go_ret2
      exact⟨_,by rw[dz.out];rfl,by rw[dz.out];exact HU.out,ae cM.out aR.out⟩
theorem J8(s:Sys) (hs:SysOk s) (vc vs vt ve vw:Value) (c:Ct) (pv:Option Addr) (cv:Nat) (pl:Option Addr) (cl:Nat) (pp:Option Addr) (cp:Nat) (w:World) (bX:IsSys w s vc vs vt ve) (hw:aU w vw c.walk) :
  Calls Tryz.prog 58 #[.agg (bE s.prob vc vs s.n vt ve),.agg #[.int .i64 c.kind,vw,.slice pv c.nv cv,.slice pl c.nl cl,.slice pp c.np cp]] w fun r w'=>r=.returned (.int .i64 (certR s c))/\Below w.heap.size w w':=by
 have HS:=aa bX;obtain⟨⟨qc,kc,rfl⟩,⟨qs,ks,rfl⟩,⟨qt,kt,rfl⟩,⟨qe,ke,rfl⟩⟩:=bg bX;have iU:=aa (fun W (hb:Below w.heap.size w W)=>Cf s hs c.walk _ _ _ _ _ W (HS.out.up hb) (hw.up up_link hb));have lq:=aa (fun (h:walkE s c.walk=0) W (hb:Below w.heap.size w W)=>Ah s hs c.walk (by have:=(v8 h).2.1;omega) (v8 h).2.2 _ _ _ _ _ W (HS.out.up hb) (hw.up up_link hb));obtain⟨pw,cw,rfl,_,_,_⟩:=hw.at;have HR:Hid (certR s c=if c.kind≠1 then 1 else if 0<c.nv\/0<c.nl\/0<c.np then 3 else if walkE s c.walk≠0 then walkE s c.walk else if contraB s c.walk=true then 0 else 18):=aa rfl;generalize certR s c=cr at HR ⊢;generalize walkE s c.walk=we at HR iU lq;generalize contraB s c.walk=cb at HR lq;obtain⟨kd,wk,nv,nl,np⟩:=c;dsimp only at HR iU lq ⊢;generalize wk.length=nw at iU lq ⊢;clear bX hw;generalize s.prob.t.cases.length=nc,s.prob.a.states.length=ns,s.tab.length=nt,s.ex.length=ne at iU lq ⊢
 go_enter Tryz.func58,Tryz.ntmps58
 by_cases hk:kd=1
 case neg=>
  have HV:Hid (cr=1):=aa (by rw[HR.out,if_pos hk]);have uP:(kd != 1)=true:=by simpa using hk
  clear hk
  go_wp2_with fail
  go_ret
  exact⟨aA (by rw[HV.out]),by go_grown⟩
 subst hk;have HR:Hid (cr=if 0<nv\/0<nl\/0<np then 3 else if we≠0 then we else if cb=true then 0 else 18):=aa (by rw[HR.out,if_neg (by simp)]);by_cases h1:0<nv
 ·have HV:Hid (cr=3):=aa (by rw[HR.out,if_pos (.inl h1)])
  have hd:decide ((0:Int)<(nv:Int))=true:=decide_eq_true (by omega);have fS:decide (0<nv)=true:=decide_eq_true h1;clear h1
  go_wp2_with fail
  go_ret
  exact⟨aA (by rw[HV.out]),by go_grown⟩
 have e1:decide ((0:Int)<(nv:Int))=false:=decide_eq_false (by omega);have e1':decide (0<nv)=false:=decide_eq_false h1;by_cases h2:0<nl
 ·have HV:Hid (cr=3):=aa (by rw[HR.out,if_pos (.inr (.inl h2))])
  have hd:decide ((0:Int)<(nl:Int))=true:=decide_eq_true (by omega);have fS:decide (0<nl)=true:=decide_eq_true h2;clear h1 h2
  go_wp2_with fail
  go_ret
  exact⟨aA (by rw[HV.out]),by go_grown⟩
 have e2:decide ((0:Int)<(nl:Int))=false:=decide_eq_false (by omega);have e2':decide (0<nl)=false:=decide_eq_false h2;by_cases h3:0<np
 ·have HV:Hid (cr=3):=aa (by rw[HR.out,if_pos (.inr (.inr h3))])
  have hd:decide ((0:Int)<(np:Int))=true:=decide_eq_true (by omega);have fS:decide (0<np)=true:=decide_eq_true h3;clear h1 h2 h3
  go_wp2_with fail
  go_ret
  exact⟨aA (by rw[HV.out]),by go_grown⟩
 have e3:decide ((0:Int)<(np:Int))=false:=decide_eq_false (by omega);have e3':decide (0<np)=false:=decide_eq_false h3;have HR:Hid (cr=if we≠0 then we else if cb=true then 0 else 18):=aa (by rw[HR.out,if_neg (by omega)]);clear h1 h2 h3
 go_wp2_with fail
 refine aL (fun W=>Below w.heap.size w W/\(∃ c,W.heap[w.heap.size]?=some (.cells c 35)/\c=bE s.prob (.slice qc nc kc) (.slice qs ns ks) s.n (.slice qt nt kt) (.slice qe ne ke))/\W.heap[w.heap.size+1]?=some (.cells #[.int .i64 1,.slice pw nw cw,.slice pv nv cv,.slice pl nl cl,.slice pp np cp] 58)) ⟨by go_grown,⟨_,am _ (ak _ _),rfl⟩,by have h:=ak (w.alloc (.cells (bE s.prob (.slice qc nc kc) (.slice qs ns ks) s.n (.slice qt nt kt) (.slice qe ne ke)) 35)) (.cells #[.int .i64 1,.slice pw nw cw,.slice pv nv cv,.slice pl nl cl,.slice pp np cp] 58);simpa using h⟩ (fun W0 aW=>?_);obtain⟨aC,⟨_,br,rfl⟩,iB⟩:=aW;refine(iU.out W0 aC).mono ?_;rintro r w1 ⟨rfl,aG⟩;have bC:=aa (ae aC aG);have tA:=ab (af aG br);have tC:=ab (af aG iB);clear aC br iB aG iU;by_cases hz:we=0
 case neg=>
  have HV:Hid (cr=we):=aa (by rw[HR.out,if_pos hz]);have Fr:(we != 0)=true:=by simpa using hz
  clear hz lq
  go_wp2_with fail
  go_ret
  exact⟨aA (by rw[HV.out]),bC.out⟩
 have sJ:=aa (lq.out hz);have HR:Hid (cr=if cb=true then 0 else 18):=aa (by rw[HR.out,if_neg (by simp[hz])]);subst hz;clear lq
 go_wp2_with fail
 refine(sJ.out w1 bC.out).mono ?_;rintro r w2 ⟨rfl,aV⟩;have cB:=aa (ae bC.out aV);clear aV tA tC;cases cb with
 | true=>
  have HV:Hid (cr=0):=aa (by have h:=HR.out;simpa using h)
  go_wp2_with fail
  go_ret
  exact⟨aA (by rw[HV.out]),cB.out⟩
 | false=>
  have HV:Hid (cr=18):=aa (by have h:=HR.out;simpa using h)
  go_wp2_with fail
  go_ret
  exact⟨aA (by rw[HV.out]),cB.out⟩
theorem yr(s:Sys) (vc vs vt ve vw:Value) (c:Ct) (pv:Option Addr) (cv:Nat) (pl:Option Addr) (cl:Nat) (pp:Option Addr) (cp:Nat) (w:World) (bX:IsSys w s vc vs vt ve) (hw:aU w vw c.walk) (hr:Cg s vc vs vt ve w) :
  Calls Tryz.prog 25 #[.agg (bE s.prob vc vs s.n vt ve),.agg #[.int .i64 c.kind,vw,.slice pv c.nv cv,.slice pl c.nl cl,.slice pp c.np cp]] w fun r w'=>r=.returned (.int .i64 (certE s c))/\Below w.heap.size w w':=by
 have HS:=aa bX;have Fu:=aa hr;obtain⟨⟨qc,kc,rfl⟩,⟨qs,ks,rfl⟩,⟨qt,kt,rfl⟩,⟨qe,ke,rfl⟩⟩:=bg bX;have wQ:=aa (fun (h:readyE s=0) W (hb:Below w.heap.size w W)=>J8 s (ES h) _ _ _ _ vw c pv cv pl cl pp cp W (HS.out.up hb) (hw.up up_link hb));obtain⟨pw,cw,rfl,_,_,_⟩:=hw.at;have cX:Hid (readyE s≠0->certE s c=readyE s):=aa fun h=>by unfold certE;rw[if_pos h]
 have dE:Hid (readyE s=0->certE s c=certR s c):=aa fun h=>by unfold certE;rw[if_neg (by omega)]
 generalize certE s c=ce at cX dE ⊢;generalize certR s c=cr at dE wQ;unfold Cg at Fu;generalize readyE s=re at cX dE Fu wQ;obtain⟨kd,wk,nv,nl,np⟩:=c;dsimp only at wQ ⊢;generalize wk.length=nw at wQ ⊢;clear bX hr hw;generalize s.prob.t.cases.length=nc,s.prob.a.states.length=ns,s.tab.length=nt,s.ex.length=ne at Fu wQ ⊢
 go_enter Tryz.func25,Tryz.ntmps25
 go_wp2_with fail
 refine aL (fun W=>Below w.heap.size w W/\(∃ c,W.heap[w.heap.size]?=some (.cells c 35)/\c=bE s.prob (.slice qc nc kc) (.slice qs ns ks) s.n (.slice qt nt kt) (.slice qe ne ke))/\W.heap[w.heap.size+1]?=some (.cells #[.int .i64 kd,.slice pw nw cw,.slice pv nv cv,.slice pl nl cl,.slice pp np cp] 58)) ⟨by go_grown,⟨_,am _ (ak _ _),rfl⟩,by have h:=ak (w.alloc (.cells (bE s.prob (.slice qc nc kc) (.slice qs ns ks) s.n (.slice qt nt kt) (.slice qe ne ke)) 35)) (.cells #[.int .i64 kd,.slice pw nw cw,.slice pv nv cv,.slice pl nl cl,.slice pp np cp] 58);simpa using h⟩ (fun W0 aW=>?_);obtain⟨aC,⟨_,br,rfl⟩,iB⟩:=aW;refine(Fu.out W0 aC).mono ?_;rintro r w1 ⟨rfl,aG⟩;have bC:=aa (ae aC aG);have tA:=ab (af aG br);have tC:=ab (af aG iB);clear aC br iB aG Fu;by_cases hz:re=0
 case neg=>
  have HV:=aa (cX.out hz);have Fr:(re != 0)=true:=by simpa using hz
  clear hz wQ
  go_wp2_with fail
  go_ret
  exact⟨aA (by rw[HV.out]),bC.out⟩
 have HV:=aa (dE.out hz);have sJ:=aa (wQ.out hz);subst hz;clear wQ
 go_wp2_with fail
 refine(sJ.out w1 bC.out).mono ?_;rintro r w2 ⟨rfl,aV⟩;have cB:=aa (ae bC.out aV);clear aV tA tC
 go_wp2_with fail
 go_ret
 exact⟨aA (by rw[HV.out]),cB.out⟩
theorem uD(tmps:Array Value) (B:Nat) (W:World) (k e:Int) (u:Value) (h4:tmps[4]?.getD undef=.pointer (some ⟨B,0,none⟩)) (h5:tmps[5]?.getD undef=.int .i64 e)
  (hB:W.heap[B]?=some (.cells (fp k u) 58)):(results Tryz.f23 tmps).run Tryz.prog W=.ok (.tuple #[.agg (fp k u),.int .i64 e]) W:=by
 have t2:=ab hB;simp[results,Tryz.results23,go_sem,h4,h5,t2]
theorem OV{W W':World} {B:Nat} {v:Value} {l:List Lk} (h:aU W v l) (hB:W.heap[B]?=some (.cells (fp 0 (.slice none 0 0)) 58)) (hk:∀ k,k≠B->W'.heap[k]?=W.heap[k]?):aU W' v l:=by
 cases hl:l with
 | nil=>
  subst hl;obtain⟨a,c,e,h1,h2,_⟩:=h;exact⟨a,c,e,h1,h2,fun i x hx=>by simp at hx⟩
 | cons y r=>
  rw[<-hl];refine pF h fun b hb=>hk b fun e=>?_
  subst e;obtain⟨a,c,e,_,_,h3⟩:=h.at;obtain⟨b',o,rfl,h4,h5⟩:=h3 0 (by rw[hl];simp);have h4:=h4.1;have h5:=h5.1;subst e;simp[Value.ownBlock]at hb;subst hb;rw[ab hB]at h4 h5;rcases (show o=0\/o=1\/o=2\/o=3\/o=4\/5<=o by omega) with h|h|h|h|h|h
  all_goals first|(subst h;simp at h4 h5)|(rw[Array.getElem?_eq_none (by simp;omega)]at h4;cases h4)
def slLen:Value->Nat
 | .slice _ n _=>n
 | _=>0
def bitOf:Value->Nat
 | .bool true=>1
 | _=>0
theorem Rr{s:Sys} {c:Ct} (h:certE s c=0):readyE s=0/\walkE s c.walk=0:=by
 unfold certE at h;by_cases h1:readyE s=0
 ·rw[if_neg (by simpa using h1)]at h
  refine⟨h1,?_⟩;unfold certR at h;by_cases h2:c.kind≠1
  ·rw[if_pos h2]at h;omega
  rw[if_neg h2]at h;by_cases h3:0<c.nv\/0<c.nl\/0<c.np
  ·rw[if_pos h3]at h;omega
  rw[if_neg h3]at h;by_cases h4:walkE s c.walk≠0
  ·rw[if_pos h4]at h;exact absurd h h4
  ·omega
 ·rw[if_pos h1]at h;exact absurd h h1
def OW(s:Sys) (F:List Lk) (o i:Value) (W:World):Prop:=∃ cur d,i=.bool d/\aU W o cur/\walkE s cur=0/\(if d=true then fW s cur else cur)=F
theorem OW.step{s:Sys} {F l:List Lk} {u:Value} {W:World} (hw:walkE s l=0) (hF:fW s l=F) (hu:aU W u ((nextW s l).getD l)):OW s F u (.bool (nextW s l).isSome) W:=by
 cases hn:nextW s l with
 | none=>
  rw[hn]at hu;exact⟨l,false,rfl,hu,hw,by rw[if_neg (by decide),<-hF,BE hn]⟩
 | some c=>
  rw[hn]at hu;exact⟨c,true,rfl,hu,(mz hn).2.2.2.walk hw,by rw[if_pos rfl,<-hF,BF hn]⟩
theorem Rt{s:Sys} {l:List Lk}:2 * ((nextW s l).getD l).length+(if (nextW s l).isSome=true then 1 else 0)<2 * l.length+1:=by
 cases hn:nextW s l with
 | none=>simp
 | some c=>have:=(mz hn).2.2.2.len;simp;omega
theorem Hs(s:Sys) (vc vs vt ve vw:Value) (c:Ct) (pv:Option Addr) (cv:Nat) (pl:Option Addr) (cl:Nat) (pp:Option Addr) (cp:Nat) (w:World) (bX:IsSys w s vc vs vt ve) (hw:aU w vw c.walk) (hr:Cg s vc vs vt ve w) :
  Calls Tryz.prog 23 #[.agg (bE s.prob vc vs s.n vt ve),.agg #[.int .i64 c.kind,vw,.slice pv c.nv cv,.slice pl c.nl cl,.slice pp c.np cp]] w fun r w'=>Re (shortR s c) r w'/\Below w.heap.size w w':=by
 have HS:=aa bX;have y':=aa (fun W (hb:Below w.heap.size w W)=>yr s vc vs vt ve vw c pv cv pl cl pp cp W (bX.up hb) (hw.up up_link hb) (fun W' fd=>hr W' (ae hb fd)));have fE:=aa (fun (h:readyE s=0) l (hl:walkE s l=0) vl W (hb:Below w.heap.size w W) (hv:aU W vl l)=>OU s (ES h) l hl vc vs vt ve vl W (bX.up hb) hv);obtain⟨⟨qc,kc,rfl⟩,⟨qs,ks,rfl⟩,⟨qt,kt,rfl⟩,⟨qe,ke,rfl⟩⟩:=bg bX;have HW:=aa hw;obtain⟨pw,cw,rfl,_,_,_⟩:=hw.at;have cX:Hid (certE s c≠0->shortR s c=([],certE s c)):=aa fun h=>by unfold shortR;rw[if_pos h]
 have dE:Hid (certE s c=0->shortR s c=(fW s c.walk,0)):=aa fun h=>by unfold shortR;rw[if_neg (by omega)]
 have di:=aa (@Rr s c);generalize shortR s c=sr at cX dE ⊢;generalize certE s c=ce at cX dE y' di;obtain⟨kd,wk,nv,nl,np⟩:=c;dsimp only at y' dE di HW ⊢;obtain⟨nk,KG⟩:∃ nk,wk.length=nk:=⟨_,rfl⟩;rw[KG]at y' HW ⊢;have sU:=aa KG;clear bX hr hw KG;generalize s.prob.t.cases.length=nc,s.prob.a.states.length=ns,s.tab.length=nt,s.ex.length=ne at y' fE HS ⊢
 go_enter Tryz.func23,Tryz.ntmps23
 go_wp2_with fail
 refine aL (fun W=>Below w.heap.size w W/\(∃ c,W.heap[w.heap.size]?=some (.cells c 35)/\c=bE s.prob (.slice qc nc kc) (.slice qs ns ks) s.n (.slice qt nt kt) (.slice qe ne ke))/\W.heap[w.heap.size+1]?=some (.cells #[.int .i64 kd,.slice pw nk cw,.slice pv nv cv,.slice pl nl cl,.slice pp np cp] 58)/\W.heap[w.heap.size+1+1]?=some (.cells (fp 0 (.slice none 0 0)) 58)) ⟨by go_grown,⟨_,am _ (am _ (ak _ _)),rfl⟩,am _ (ba _ _ _),dH _ _ _ _⟩ (fun W0 aW=>?_);obtain⟨aC,⟨_,br,rfl⟩,iB,hD0⟩:=aW;refine(y'.out W0 aC).mono ?_;rintro r w1 ⟨rfl,aG⟩;have bC:=aa (ae aC aG);have dM:=af aG br;have dy:=aa dM;have pP:=aa (af aG hD0);have tA:=ab dM;have tC:=ab (af aG iB);clear aC br iB hD0 aG dM y';have fP:=ar pP.out;by_cases hz:ce=0
 case neg=>
  have HV:=aa (cX.out hz);have Fr:(ce != 0)=true:=by simpa using hz
  clear fE di dE
  go_wp2_with (refine wpList_store_row rfl 58 (.tmp 4) (.tmp 14) rfl (w.heap.size+1+1) (fp 0 (.slice none 0 0)) rfl rfl 58 _ pP.out (by kernel_rfl) rfl (by simp[Value.oneCell']) ?_)
  refine bodyPost_ret (uD _ (w.heap.size+1+1) _ 0 ce _ rfl rfl (setRow_heap _ _ _ _ _ _ pP.out)) rfl ⟨⟨.slice none 0 0,?_,?_⟩,below_setRow bC.out (by omega) _⟩
  ·rw[HV.out,if_neg hz]
  ·rw[HV.out];exact sf _
 have HV:=aa (dE.out hz);obtain⟨mG,Cl⟩:=di.out hz;have sJ:=aa (fE.out mG);have HWZ:=aa Cl;subst hz;clear fE di cX dE mG Cl
 go_wp2_with fail
 refine(sJ.out wk HWZ.out _ w1 bC.out (HW.out.up up_link bC.out)).mono ?_;rintro r w2 ⟨u,rfl,hu,aV⟩;have pN:=aa (OW.step HWZ.out rfl hu);obtain⟨pu,cu,rfl,_⟩:=hu.at;generalize (nextW s wk).isSome=bb at pN ⊢;generalize ((nextW s wk).getD wk).length=nu at pN ⊢;have cB:=aa (ae bC.out aV);have mK:=aa (af aV dy.out);have PT:=aa (af aV pP.out);clear hu aV tA tC dy pP
 go_wp2_with fail
 go_loopw [7,8] (fun o i wr=>Below w2.heap.size w2 wr/\OW s (fW s wk) o i wr) (fun o i _=>2 * slLen o+bitOf i)
 case atStart=>exact⟨Below.refl _ _,pN.out⟩
 case round=>
  obtain⟨aq,cur,d,rfl,tI,Ie,hF⟩:=hrel;have aR:=aa aq;have hA:=af aq mK.out;have tA:=ab hA;have HCUR:=aa tI;obtain⟨pk,ck,rfl,_⟩:=tI.at;have Tb:=aa Ie;have HF:=aa hF;clear aq hA tI Ie hF pN;cases d with
  | true=>
   have Cy:=HF.out;rw[if_pos rfl]at Cy;have AQ:=aa Cy;clear Cy HF
   go_wp2_with fail
   refine(sJ.out cur Tb.out _ wr (ae cB.out aR.out) HCUR.out).mono ?_;rintro r w3 ⟨u,rfl,hu,bA⟩;have pN:=aa (OW.step Tb.out AQ.out hu);have cK:=@Rt s cur;have p9:=aa cK;obtain⟨pz,cz,rfl,_⟩:=hu.at;clear hu cK;generalize (nextW s cur).isSome=bb at pN p9 ⊢;generalize ((nextW s cur).getD cur).length=nz at pN p9 ⊢;have dP:=aa (ae aR.out bA);clear bA tA
   go_wp2_with fail
   go_roundw
   case rel=>exact⟨dP.out,pN.out⟩
   case measure=>have:=p9.out;cases bb<;>simp[slLen,bitOf]at this ⊢<;>omega
  | false=>
   have Cy:=HF.out;rw[if_neg (by decide)]at Cy;have AQ:=aa Cy;have yQ:=aa (af aR.out PT.out);clear Cy HF
   go_wp2_with (refine wpList_store_row rfl 58 (.tmp 4) (.tmp 31) rfl (w.heap.size+1+1) (fp 1 (.slice pk cur.length ck)) rfl rfl 58 _ yQ.out (by kernel_rfl) rfl (by simp[Value.oneCell']) ?_)
   refine bodyPost_ret (uD _ (w.heap.size+1+1) _ 1 0 _ rfl rfl (setRow_heap _ _ _ _ _ _ yQ.out)) rfl ⟨⟨.slice pk cur.length ck,?_,?_⟩,below_setRow (ae cB.out aR.out) (by omega) _⟩
   ·rw[HV.out,if_pos rfl]
   ·rw[HV.out,<-AQ.out]
    exact OV HCUR.out yQ.out (fun k hk=>setRow_other _ _ _ _ hk)
end Go.Proofs.YtmeaoneaephjeaaGreatDoor
