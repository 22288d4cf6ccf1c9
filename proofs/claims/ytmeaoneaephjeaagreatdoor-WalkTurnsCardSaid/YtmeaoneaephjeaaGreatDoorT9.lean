/-
  A part of the proof: lemmas and contracts that the parts behind it use. Each one's conditions are its own premises.
-/
import Derived.Test.YtmeaoneaephjeaaGreatDoorT8
set_option maxRecDepth 100000
set_option maxHeartbeats 8000000
set_option linter.unusedVariables false
set_option linter.unusedSimpArgs false
namespace Go.Proofs.YtmeaoneaephjeaaGreatDoor
open Go.RowKit Go Go.Shelf
attribute [local go_sem] Oper.semAt_some
theorem Kw(s:Sys) (hv:verifyE s=0) (vc vs vt ve vl:Value) (l:List Lk) (w:World) (hs:IsSys w s vc vs vt ve) (hN:movesN s.prob.a.states<1099511627776) (hl:bJ w vl l) :
  Calls Tryz.prog 95 #[.agg (cj s.prob vc vs s.n vt ve),vl] w fun e w'=>e=.returned (.int .i64 (walkE s l))/\Below w.heap.size w w':=by
 have HS:=aa hs;have HL:=aa hl;obtain⟨⟨pc,cc,rfl⟩,⟨ps,cs,rfl⟩,⟨pt,ct,rfl⟩,⟨pe,ce,rfl⟩⟩:=bM hs;obtain⟨pl,cl,rfl,lt1,lt2,el⟩:=hl.at;have EL:=aa el;clear hs hl el;have HC:=aa (fun W (hb:Below w.heap.size w W)=>D7 s _ _ _ _ W (HS.o.up hb) hN);have dI:=aa (iZ hv);have HV:=aa hv;have ju:=dI.o.n.2.1;have iH:am (l.length=0->walkE s l=16):=aa fun h=>by unfold walkE;rw[if_pos h]
 have gz:am (0<l.length->4096<l.length->walkE s l=5):=aa fun h h1=>by unfold walkE;rw[if_neg (by omega),if_pos h1]
 have cQ:am (0<l.length->l.length<=4096->walkE s l=bm l.length (fq s l)):=aa fun h h1=>by unfold walkE;rw[if_neg (by omega),if_neg (by omega)]
 have Ao:am (∀ k,k<l.length->fq s l k=if (l.getD k default).x<0\/(eS s:Int)<=(l.getD k default).x then 6 else if k=0 then(if (l.getD k default).p≠-1 then 3 else 0) else if (l.getD k default).p<0\/(nS s:Int)<=(l.getD k default).p then 2 else if linkB s (l.getD k default).p.toNat (l.getD (k - 1) default).x.toNat (l.getD k default).x.toNat then 0 else 18):=aa fun k _=>rfl
 have HOKX:am (∀ k,fq s l k=0->0<=(l.getD k default).x/\(l.getD k default).x.toNat<eS s):=aa fun k h=>⟨((ip s l k).1 h).1,((ip s l k).1 h).2.1⟩
 clear hv
 go_enter Tryz.func95,Tryz.ntmps95
 go_wp2_with fail
 refine aQ (fun W=>Below w.heap.size w W) (by go_grown) (fun W0 aJ=>?_);refine(HC.o W0 aJ).mono ?_;rintro e w1 ⟨v,rfl,aM,_,h2⟩;obtain⟨B,rfl,hF,-⟩:=h2 HV.o;rw[HV.o];have dx:=ae aJ aM;have eY:=aa dx;have HF:=aa hF;clear aJ aM h2 hF dx HC;by_cases h0:l.length=0
 ·have HR:=aa (iH.o h0);have hd:(((l.length:Nat):Int) == 0)=true:=by simp[h0]
  clear h0
  go_wp2_with fail
  go_ret
  exact⟨aF (by rw[HR.o]),eY.o⟩
 have hd:(((l.length:Nat):Int) == 0)=false:=beq_eq_false_iff_ne.2 (by omega);have SR:0<l.length:=by omega
 clear h0;by_cases h1:4096<l.length
 ·have HR:=aa (gz.o SR h1)
  go_wp2_with fail
  go_ret
  exact⟨aF (by rw[HR.o]),eY.o⟩
 have df:=aa (cQ.o SR (by omega))
 go_wp2_with fail
 clear hd h1 SR iH gz cQ
 go_loopw [28] (fun i wr=>∃ k:Nat,k<=l.length/\i=.int .i64 k/\Below w.heap.size w wr/\FinAt wr B s/\∀ j,j<k->fq s l j=0) (fun i _=>l.length - (intOf i).toNat)
 ·exact⟨0,by omega,rfl,eY.o,HF.o,fun j hj=>by omega⟩
 ·
  clear eY HF;obtain⟨k,hk,rfl,aB,hF,hz⟩:=hrel;have aU:=aa aB;have HF:=aa hF;have HZ:=aa hz;clear hF hz;by_cases aD:k<l.length
  ·obtain⟨b1,o1,rfl,h1⟩:=EL.o k aD;have c1:=ak aB h1.1.1;have c2:=ak aB h1.2.1;have HE:=aa (Ao.o k aD);have IV:am (∀ v:Int,fq s l k=v->v≠0->walkE s l=v):=aa fun v h1 h2=>by rw[df.o];exact(bU k v aD HZ.o h1 h2).symm
   have hr:l.getD k default=l[k]:=aA default aD;rw[hr]at HE;clear hr;generalize l[k]=y at c1 c2 HE h1;obtain⟨x,p⟩:=y;dsimp only at c1 c2 HE;clear h1 aB
   go_wp2_with fail
   clear c1 c2;refine aQ (fun W=>Below w.heap.size w W/\FinAt W B s/\W.heap[wr.heap.size]?=some (.cells #[.int .i64 x,.int .i64 p] 75)) ⟨aU.o.alloc aU.o.size _,HF.o.up (by go_grown),aq _ _⟩ (fun W2 fh=>?_);obtain⟨aY,Xj,Qc⟩:=fh;refine(Cg s B x W2 Xj).mono ?_;rintro e w3 ⟨rfl,bH⟩;have dX:=aa (ae aY bH);have I4:=aa (Xj.up bH);have iS:=aa (af bH Qc);generalize wr.heap.size=g at iS;have tb:=ab iS.o;clear aY Xj Qc bH;by_cases hx:0<=x/\x<(eS s:Int)
   ·have hd:(decide (0<=x)&&decide (x<(eS s:Int)))=true:=by simp[hx]
    rw[hd];clear hd;by_cases eZ:k=0
    ·subst eZ;by_cases hp:p=-1
     ·subst hp;have gr:am (fq s l 0=0):=aa (by rw[HE.o,if_neg (by omega)];simp);clear hx
      go_wp2_with fail
      go_roundw
      ·exact⟨1,by omega,by go_num,dX.o,I4.o,aW HZ.o gr.o⟩
      ·simp[intOf];omega
     ·have QX:(p != -1)=true:=by simpa using hp
      have HR:=aa (IV.o 3 (by rw[HE.o,if_neg (by omega),if_pos rfl,if_pos hp]) (by decide));clear hx hp
      go_wp2_with fail
      go_ret
      exact⟨aF (by rw[HR.o]),dX.o⟩
    ·obtain⟨j,hj⟩:∃ j,k=j+1:=⟨k - 1,by omega⟩;have fJ:j<l.length:=by omega
     have kZ:((k:Int) == 0)=false:=by simp;omega
     have hX:=HOKX.o j (HZ.o j (by omega));have nr:am (fq s l k=if p<0\/(nS s:Int)<=p then 2 else if linkB s p.toNat (l.getD j default).x.toNat x.toNat then 0 else 18):=aa (by rw[HE.o,if_neg (by omega),if_neg eZ,show k - 1=j by omega]);have jx:IntKind.i64.wrap ((k:Int) - 1)=(j:Int):=by rw[hj,IntWalk.i64_in _ (by omega)];omega
     obtain⟨b2,o2,e2,h2⟩:=EL.o j fJ;cases e2;have d1:=ak dX.o h2.1.1;rw[<-aA default fJ]at d1;obtain⟨e,he⟩:∃ e:Nat,(l.getD j default).x=e:=⟨(l.getD j default).x.toNat,by omega⟩;rw[he]at d1 nr hX;obtain⟨f,hf⟩:∃ f:Nat,x=f:=⟨x.toNat,by omega⟩;subst hf;simp only[Int.toNat_natCast]at nr hX;have hfe:f<eS s:=by omega
     clear he h2 eZ hj HE;by_cases vL:p<0
     ·have hpd:decide (p<0)=true:=decide_eq_true vL;have HR:=aa (IV.o 2 (by rw[nr.o,if_pos (.inl vL)]) (by decide));clear hx hX d1 jx vL;have tb1:∀ z:ExtW w3,∀ o,z.val.cell? ⟨g,o,none⟩=_:=fun z=>ab (af z.ext iS.o)
      go_wp2_with fail
      refine aE (by kernel_rfl) (by kernel_rfl) ?_
      repeat (go_big_quiet_step (fail))
      refine wpQuiet_nil ?_;rintro _ ⟨xq,rfl⟩;clear tb tb1
      go_wp2_with fail
      go_ret
      exact⟨aF (by rw[HR.o]),ae dX.o xq.ext⟩
     have hpd:decide (p<0)=false:=decide_eq_false vL;obtain⟨q,rfl⟩:∃ q:Nat,p=q:=⟨p.toNat,by omega⟩;simp only[Int.toNat_natCast]at nr;obtain⟨pl2,cl2,hB,_⟩:=I4.o.open;have tb1:∀ z:ExtW w3,∀ o,z.val.cell? ⟨g,o,none⟩=_:=fun z=>ab (af z.ext iS.o)
     have tb2:∀ z:ExtW w3,z.val.cell? ⟨B,0,none⟩=some (.int .i64 (nS s)):=fun z=>(ab (af z.ext hB) 0).trans rfl
     clear hB;by_cases hq:nS s<=q
     ·have hqd:decide ((nS s:Int)<=(q:Int))=true:=decide_eq_true (by omega);have AE:decide (nS s<=q)=true:=decide_eq_true hq;have HR:=aa (IV.o 2 (by rw[nr.o,if_pos (.inr (by omega))]) (by decide));clear hx hX d1 jx vL hq
      go_wp2_with fail
      refine aE (by kernel_rfl) (by kernel_rfl) ?_
      repeat (go_big_quiet_step (fail))
      refine wpQuiet_nil ?_;rintro _ ⟨xq,rfl⟩;clear tb tb1 tb2
      go_wp2_with fail
      go_ret
      exact⟨aF (by rw[HR.o]),ae dX.o xq.ext⟩
     have hqd:decide ((nS s:Int)<=(q:Int))=false:=decide_eq_false (by omega);have AE:decide (nS s<=q)=false:=decide_eq_false hq;have C8:am (fq s l k=if linkB s q e f then 0 else 18):=aa (by rw[nr.o,if_neg (by omega)]);obtain⟨set,ly⟩:∃ set,maskN (fun p=>linkB s p e f) (nS s)=set:=⟨_,rfl⟩;have fK:hasB (set:Int) q=linkB s q e f:=by rw[<-ly,m5,decide_eq_true (by omega),Bool.true_and]
     have lZ:=sv (set:Int) q;rw[fK]at lZ;clear fK;have hq30:q<=30:=by omega
     clear hx vL hq
     go_wp2_with fail
     refine aE (by kernel_rfl) (by kernel_rfl) ?_
     repeat (go_big_quiet_step (fail))
     refine wpQuiet_nil ?_;rintro _ ⟨xq,rfl⟩;have fg:=aa (ae dX.o xq.ext);have F2:=aa (I4.o.up xq.ext);have HXQ:=aa (af xq.ext iS.o);have d2:∀ z:ExtW xq.val,z.val.cell? ⟨b1,o1+j * 2,none⟩=_:=fun z=>ak (ae xq.ext z.ext) d1
     have tq1:∀ z:ExtW xq.val,∀ o,z.val.cell? ⟨g,o,none⟩=_:=fun z=>ab (af z.ext HXQ.o)
     have bW:=aa (show ∀ y:ExtW xq.val,Calls Tryz.prog 146 #[.pointer (some ⟨B,0,none⟩),.int .i64 (e:Int),.int .i64 (f:Int)] y.val fun r w''=>r=.returned (.int .i64 (set:Nat))/\∃ z:ExtW xq.val,w''=z.val from fun y=>Calls.ext_of ((Af s dI.o B e f hX.2 hfe y.val (F2.o.up y.ext)).mono fun r w'' ⟨h1,h2⟩=>⟨by rw[h1,ly],h2 ▸ Below.refl _ _⟩));clear tb tb1 tb2 d1 ly;cases hb:linkB s q e f with
     | true=>
      have gr:am (fq s l k=0):=aa (by rw[C8.o,hb];rfl);rw[hb]at lZ;clear hb
      go_wp2_with fail
      refine aE (by kernel_rfl) (by kernel_rfl) ?_
      repeat (go_big_quiet_step ((go_at_call 146;with_reducible exact bW.o _)))
      refine wpQuiet_nil ?_;rintro _ ⟨x2,rfl⟩;clear d2 tq1 lZ jx
      go_wp2_with fail
      go_roundw
      ·exact⟨k+1,by omega,by go_num,ae fg.o x2.ext,F2.o.up x2.ext,aW HZ.o gr.o⟩
      ·simp[intOf];omega
     | false=>
      have HR:=aa (IV.o 18 (by rw[C8.o,hb];rfl) (by decide));rw[hb]at lZ;clear hb
      go_wp2_with fail
      refine aE (by kernel_rfl) (by kernel_rfl) ?_
      repeat (go_big_quiet_step ((go_at_call 146;with_reducible exact bW.o _)))
      refine wpQuiet_nil ?_;rintro _ ⟨x2,rfl⟩;clear d2 tq1 lZ jx
      go_wp2_with fail
      go_ret
      exact⟨aF (by rw[HR.o]),ae fg.o x2.ext⟩
   ·have hd:(decide (0<=x)&&decide (x<(eS s:Int)))=false:=by
     rw[Bool.and_eq_false_iff];simp only[decide_eq_false_iff_not];omega
    rw[hd];have HR:=aa (IV.o 6 (by rw[HE.o,if_pos (by omega)]) (by decide));clear hx hd
    go_wp2_with fail
    go_ret
    exact⟨aF (by rw[HR.o]),dX.o⟩
  ·have HR:am (walkE s l=0):=aa (by rw[df.o];exact cT _ _ fun j hj=>HZ.o j (by omega))
   go_wp2_with fail
   go_ret
   exact⟨aF (by rw[HR.o]),aB⟩
end Go.Proofs.YtmeaoneaephjeaaGreatDoor
namespace Go.Proofs.YtmeaoneaephjeaaGreatDoor
open Go.RowKit Go Go.Shelf
attribute [local go_sem] Oper.semAt_some
attribute [local go_sem] xU
theorem KZ(s:Sys) (e:Nat):gY s e<256:=gX _ 8
theorem K0(s:Sys) (l:List Nat):comM s l<256:=gX _ 8
theorem ScAt.val{w:World} {B:Nat} {s:Sys} (h:ScAt w B s):∃ pv cv,w.cell? ⟨B,10,none⟩=some (.slice pv (eS s) cv)/\∀ e,e<eS s->∃ b o,pv=some ⟨b,o,none⟩/\w.cell? ⟨b,o+e,none⟩=some (.int .i64 (gY s e:Nat)):=by
 obtain⟨vc,vs,vt,ve,vv,vl,h1,_,h2,_⟩:=h.ex;obtain⟨pv,cv,rfl,_,_,ev⟩:=h2.at;have hl:(DW s).length=eS s:=by simp[DW]
 rw[hl]at h1;refine⟨pv,cv,(ab h1 10).trans rfl,fun e he=>?_⟩;obtain⟨b,o,e1,c1,_⟩:=ev e (by rw[hl];exact he);refine⟨b,o,e1,?_⟩;rw[Nat.mul_one]at c1;rw[c1];simp[DW]
theorem Kx(bo bs B n cv e m v b o:Nat) (hm:m<256) (hv:v<256) (he:e<n) (W:World) (h1:W.heap[bo]?=some (.cells #[.int .i64 m] 3)) (h2:W.cell? ⟨bs,0,none⟩=some (.pointer (some ⟨B,0,none⟩))) (h3:W.cell? ⟨B,10,none⟩=some (.slice (some ⟨b,o,none⟩) n cv)) (h4:W.cell? ⟨b,o+e,none⟩=some (.int .i64 v)) :
  Calls Tryz.prog 134 #[.int .i64 e,.pointer (some ⟨bo,0,none⟩),.pointer (some ⟨bs,0,none⟩)] W fun r W'=>(∃ x,r=.returned x)/\W'=W.drew.setCell ⟨bo,0,none⟩ (.int .i64 (m &&& v:Nat)):=by
 have t1:=ab h1 0;simp at t1;have Wu:=aa h1;have lZ:bits .and .i64 ((m:Nat):Int) ((v:Nat):Int)=((m &&& v:Nat):Int):=zT m v (by omega) (by omega);clear h1
 go_enter Tryz.func134,Tryz.ntmps134
 go_still_tail 9,(by kernel_rfl)
 change wpList _ _ _ _ _ W.drew;have t2:W.drew.cell? ⟨bo,0,none⟩=some (.int .i64 m):=t1;have z2:W.drew.frozen? ⟨bo,0,none⟩=false:=aG Wu.o 0;clear t1 h2 h3 h4;obtain⟨V,hV⟩:∃ V,V=W.drew:=⟨_,rfl⟩;rw[<-hV]at t2 z2 ⊢;clear hV
 go_wp2_with fail
 go_end0
 exact⟨⟨_,rfl⟩,rfl⟩
structure CmI (s:Sys) (w:World) (B:Nat) (l:List Nat) (V:World):Prop where
 old:Below w.heap.size w V
 sc:V.heap[w.heap.size]?=some (.cells #[.pointer (some ⟨B,0,none⟩)] 94)
 out:V.heap[w.heap.size+1]?=some (.cells #[.int .i64 (comM s l:Nat)] 3)
 fn:V.heap[w.heap.size+1+1]?=some (.cells #[.func (.func 134) #[] #[.pointer (some ⟨w.heap.size+1,0,none⟩),.pointer (some ⟨w.heap.size,0,none⟩)]] 205)
theorem CmI.sta{s:Sys} {w:World} {B B0:Nat} {l:List Nat} (h:w.heap.size<=B0):cK B0 (CmI s w B l):=fun _ _ c x=>⟨c.below h x.old.size x.old,c.same _ _ x.sc (.inr rfl),c.same _ _ x.out (.inr rfl),c.same _ _ x.fn (.inr rfl)⟩
theorem Cl(s:Sys) (B:Nat) (gf:Nat) (lb:Array Value) (eg:∀ args w,(callFunc gf args).run Tryz.prog w=.ok (.enter gf args) w) (l:List Nat) (hl:∀ e∈l,e<eS s) (S:Nat->Prop) (w:World) (fW:ScAt w B s) (hS:∀ k,S k->k<w.heap.size)
  (dj:∀ W,Below w.heap.size w W->so Tryz.prog gf lb (wB l) l.length S W) :
  Calls Tryz.prog 84 #[.pointer (some ⟨B,0,none⟩),.func (.func gf) #[] lb] w fun r w'=>r=.returned (.int .i64 (comM s l:Nat))/\Below w.heap.size w w':=by
 have jA:=aa fW;have HL:=aa hl;have HNIL:am (comM s (l.take 0)=255):=aa (by rw[List.take_zero];exact A5 s);have HSQ:=aa dj;have ec:=enters_of Tryz.func134 (by kernel_rfl) rfl;clear fW hl dj;refine gd Tryz.func84 rfl ?_;simp only[Tryz.ntmps84,List.size_toArray,List.length_cons,List.length_nil,Nat.reduceAdd,Nat.reduceSub,Array.replicate_succ,Array.replicate_zero,List.push_toArray,List.append_toArray,List.nil_append,List.cons_append]
 go_wp2_with fail
 refine bF (fun W=>CmI s w B [] W) ⟨by go_grown,az _ (az _ (aq _ _)),by rw[A5];exact az _ (bz _ _ _),eA _ _ _ _⟩ (fun W1 cO=>?_);have gz:=aa cO;have C9:=cO.old.size;have dj:=HSQ.o W1 cO.old;have hsf:=aC cO.fn;clear cO
 refine mI (gf:=gf) (lb:=lb) rfl eg dj (Below.refl _ _) (fun k hk=>by have:=hS k hk;omega) (fun i=>rfl)
  (fun i V=>CmI s w B (l.take i) V) (fun _ _ _=>False) (fun i=>CmI.sta (by omega)) (fun c i=>cK.pure) (by rw[List.take_zero];exact gz.o) ?rnd ?done ?stop
 case stop=>rintro D' c i V hD hi h;exact h.elim
 case rnd=>
  intro yl i V hi hl iE;unfold wB;obtain⟨e,jY⟩:∃ e,l.getD i 0=e:=⟨_,rfl⟩;have xr:l[i]=e:=by rw[<-jY,aA 0 hi]
  have iV:=HL.o l[i] (List.getElem_mem hi);rw[xr]at iV;have jy:am (comM s (l.take (i+1))=comM s (l.take i) &&& gY s e):=aa (by rw[List.take_succ_eq_append_getElem hi,E8,xr]);rw[jY];have oy:=aa iE;clear iE jY xr dj
  gi_wp2
  refine⟨Bod.refl _ _ _,fun V=>CmI s w B (l.take i) V,CmI.sta (by omega),oy.o,fun V2 h2 jz=>?_⟩;have df:=aa h2;have tf:=ab h2.fn 0;simp at tf;obtain⟨pv,cv,t10,ev⟩:=(jA.o.up h2.old).val;obtain⟨b,o,rfl,te⟩:=ev e iV;have HC:=aa (Kx (w.heap.size+1) w.heap.size B (eS s) cv e (comM s (l.take i)) (gY s e) b o (K0 _ _) (KZ _ _) iV V2 h2.out (by rw[ab h2.sc];rfl) t10 te);have I':=h2.old.size;clear h2 t10 ev te jz
  gi_wp2
  refine⟨trivial,rfl,wP (HC.o.mono ?_)⟩;rintro r w3 ⟨⟨x,rfl⟩,rfl⟩
  gi_wp2
  obtain⟨q1,q2,q3,q4⟩:=df.o;refine⟨⟨by simp,fun k hk=>?_,fun k o _ hk ho=>?_⟩,⟨(q1.drew.setCell (by dsimp only;omega) _),aN (by exact q2) (by omega) _ _,?_,aN (by exact q4) (by omega) _ _⟩⟩
  ·have:=hS k hk;exact Below.heap_setCell V2.drew _ _ _ (by dsimp only;omega)
  ·exact(KeepsOthers.setCell V2.drew _ _).same k o hk ho
  ·rw[jy.o];exact(aH (W:=V2.drew) q3 0 _).trans rfl
 case done=>
  intro D' V hD iE hK;rw[List.take_of_length_le (Nat.le_refl _)]at iE;have t1:=ab iE.out 0;simp at t1;have oy:=aa iE;clear iE dj
  go_wp2_with fail
  refine iz hK (results_tmp rfl _ _ _) ?_;exact⟨rfl,eR (by omega) oy.o.old⟩
end Go.Proofs.YtmeaoneaephjeaaGreatDoor
namespace Go.Proofs.YtmeaoneaephjeaaGreatDoor
open Go.RowKit Go Go.Shelf
attribute [local go_sem] Oper.semAt_some
theorem zz{s:Sys} (hv:verifyE s=0):0<eS s:=by
 obtain⟨hb,hs⟩:=E6 hv;have hp:=(iZ hv).prob;obtain⟨ht,ha,_⟩:=ru hp;have h1:=(fp ht).2.2.2.1.1;have h2:=hZ ha;have h3:=Fc h2.2.1 (by have:=h2.1;omega) s.prob.rounds.toNat 0 (by have:=h2.1;omega);rw[hs]
 show 0<(execsS s.prob (aO s.prob) (jl s.prob.t.cases.length (aO s.prob).length)).2.length
 unfold execsS;rw[rG,xX];have:0<(aO s.prob).length:=h3;have:=Nat.mul_pos (show 0<s.prob.t.cases.length by omega) this;simp;omega
def nW(s:Sys):Nat:=(maxTo (partsS s) ((partsS s).length - 1)).toNat
def kM(s:Sys) (k:Nat):List Int:=(List.range k).map fun x:Nat=>comB s (memL (partsS s) x)
def i8(s:Sys):List Int:=kM s (nW s+1)
theorem kL(s:Sys) (e:Nat) (he:e<eS s):0<=(partsS s).getD e 0/\(partsS s).getD e 0<=e:=l8 (wz s _) e (by rw[gJ];exact he)
theorem Cm{s:Sys} (h0:0<eS s):maxTo (partsS s) ((partsS s).length - 1)=(nW s:Int)/\nW s<eS s:=by
 obtain⟨i,hi,e⟩:=Bd (partsS s) ((partsS s).length - 1);rw[dK]at hi;have h1:=kL s i (by omega);unfold nW;rw[e];exact⟨by omega,by omega⟩
theorem qj{s:Sys} (h0:0<eS s) (e:Nat) (he:e<eS s):((partsS s).getD e 0).toNat<=nW s:=by
 have h1:=Im (partsS s) ((partsS s).length - 1) e (by rw[dK];omega);have h2:=(Cm h0).1;omega
theorem nX{f:Nat->Int} {n k:Nat} (h:k<n):((List.range n).map f).getD k 0=f k:=by simp[h]
theorem Pw{s:Sys} (h0:0<eS s) (e:Nat) (he:e<eS s):(i8 s).getD ((partsS s).getD e 0).toNat 0=(choiceS s).getD e 0:=by
 have h1:=qj h0 e he;have h2:=kL s e he;unfold i8 kM choiceS;rw[nX (by omega),nX he,show ((((partsS s).getD e 0).toNat:Nat):Int)=(partsS s).getD e 0 by omega]
theorem ry{s:Sys} {x:Int}:∀ e∈memL (partsS s) x,e<eS s:=fun e he=>by
 have:=(lp.1 he).1;rw[dK]at this;exact this
theorem vf(s:Sys) (l:List Nat) (ho:oS s<=8):bT (comB s l):=by
 have:=Mq s l;unfold comB at *;rcases bI (oS s) (fun v=>l.all fun e=>valB s e v) with ⟨e,_⟩|⟨k,hk,e,_⟩
 ·rw[e];exact⟨by omega,by omega⟩
 ·rw[e];exact⟨by omega,by omega⟩
theorem uB(s:Sys) (hs:SysOk s) (h0:0<eS s) (hE:eS s<=256) (B:Nat) (w:World) (fW:ScAt w B s) (hT:io w) :
  Calls Tryz.prog 41 #[.pointer (some ⟨B,0,none⟩)] w fun r w'=>∃ u,r=.returned u/\aX w' u (i8 s)/\Below w.heap.size w w':=by
 obtain⟨vc,vs,vt,ve,vv,vl,h1,_,_,h2⟩:=fW.ex;obtain⟨pl,cl,rfl,lt1,lt2,el⟩:=h2.at;have tl:w.cell? ⟨B,11,none⟩=some (.slice pl (partsS s).length cl):=(ab h1 11).trans rfl;obtain⟨i0,cY,cC,bY,cD⟩:=info_parts Tryz.infoInt;have bZ:=aa (And.intro cY (And.intro cC (And.intro bY cD)));have jJ:=aa (GB _ _ w h2 (by rw[dK];exact h0));have htop:=(Cm h0).2;rw[(Cm h0).1]at jJ;have jA:=aa fW;have HT:=aa hT;have Wp:=aa (fun (k:Nat) (W:World) (hb:Below w.heap.size w W) (q:Nat) (hq:comB s (memL (partsS s) k)=firstIx 8 (wj s (memL (partsS s) k)))=>Ci (wj s (memL (partsS s) k)) W (hT.up hb));have gV:am (∀ k:Nat,comB s (memL (partsS s) k)=firstIx 8 (wj s (memL (partsS s) k))):=aa fun k=>KM hs ry
 have kT:am (kM s 0=[]/\(∀ k,kM s (k+1)=kM s k++[comB s (memL (partsS s) k)])/\(∀ k,(kM s k).length=k)/\∀ k,∀ x∈kM s k,bT x):=aa ⟨rfl,fun k=>by simp[kM,List.range_succ],fun k=>by simp[kM],fun k x hx=>by
  obtain⟨j,_,rfl⟩:=List.mem_map.1 hx
  exact vf s _ hs.outs.2.1⟩
 have jD:am (kM s (nW s+1)=i8 s):=aa rfl;obtain⟨M,hM⟩:∃ M,nW s=M:=⟨_,rfl⟩;rw[hM]at htop jJ jD;clear h1 h2 fW hT cY cC bY cD el hM
 go_enter Tryz.func41,Tryz.ntmps41
 go_wp2_with fail
 refine jJ.o.mono ?_;rintro e w1 ⟨rfl,rfl⟩;clear tl
 go_wp2_with fail
 go_loopw [3,11] (fun o i wr=>∃ k:Nat,k<=M+1/\i=.int .i64 k/\Below w.heap.size w wr/\aI wr w.heap.size 3 1 o k ((kM s k).map (Value.int .i64))) (fun _ i _=>M+1 - (intOf i).toNat)
 ·exact⟨0,by omega,rfl,Below.refl _ _,by rw[kT.o.1];exact aI.nil _ _ _ _⟩
 ·
  obtain⟨k,hk,rfl,aB,bg⟩:=hrel;obtain⟨al,cl2,rfl⟩:=bg.slice;have bO:=aa bg;have aU:=aa aB;have AF:=aB.size;clear bg aB;by_cases aD:k<M+1
  ·have kN:(k:Int)<(M:Int)+1:=by omega
   go_wp2_with fail
   refine(wV B k wr).mono ?_;rintro e w2 ⟨rfl,rfl⟩
   go_wp2_with fail
   refine aQ (fun W=>Below wr.heap.size wr W/\W.heap[wr.heap.size]?=some (.cells #[.pointer (some ⟨B,0,none⟩)] 94)/\W.heap[wr.heap.size+1]?=some (.cells #[.int .i64 k] 3)) ⟨by go_grown,az _ (aq _ _),bz _ _ _⟩ (fun W2 fh=>?_);obtain⟨aY,dW,iJ⟩:=fh;have rN:=ae aU.o aY;have JG:=aC iJ;refine(Cl s B 135 _ (enters_of Tryz.func135 (by kernel_rfl) rfl) (memL (partsS s) k) ry (fun q=>q<wr.heap.size\/q=wr.heap.size\/q=wr.heap.size+1) W2 (jA.o.up rN) (fun q hq=>by rcases hq with hq|rfl|rfl<;>omega) (fun W hb=>uZ s B wr.heap.size (wr.heap.size+1) k wr (jA.o.up aU.o) W (ae aY hb) (by rw[ab (af hb dW)];rfl) (by rw[ab (af hb iJ)];rfl))).mono ?_;rintro e w3 ⟨rfl,bH⟩;have uG:=ae rN bH;have jw:=aa (ae aY bH);clear dW iJ aY rN bH
   go_wp2_with fail
   refine(Wp.o k w3 uG 0 (gV.o k)).mono ?_;rintro e w4 ⟨rfl,rfl⟩;rw[<-gV.o k];obtain⟨x,hx⟩:∃ x,comB s (memL (partsS s) k)=x:=⟨_,rfl⟩;rw[hx];have jF:am (kM s (k+1)=kM s k++[x]):=aa (by rw[<-hx];exact kT.o.2.1 k);have dm:=aa ((bO.o.up jw.o).up ((Below.refl _ w3).alloc (Nat.le_refl _) (.cells #[.int .i64 x] 3)));have bE:=aa (dR w3 [.int .i64 x] 3);have dX:=aa uG;have lw:am (k+1<=maxLen):=aa (by unfold maxLen;omega);have eV:am ((k+1) * 8<=140737488355328):=aa (by omega);have gm:am (w.heap.size<=(w3.alloc (.cells #[.int .i64 x] 3)).heap.size):=aa (by have:=dX.o.size;simp;omega);clear uG hx
   go_wp2_with (at_builtin;(refine aZ _ rfl (.tmp 14) (.tmp 21) 38 rfl w.heap.size 3 i0 _ 1 8 Tryz.underlying38 bZ.o.1 bZ.o.2.1 bZ.o.2.2.1 bZ.o.2.2.2 rfl (by decide) _ k _ rfl dm.o ⟨w3.heap.size,0,none⟩ 1 1 [.int .i64 x] rfl rfl bE.o (by simp[Value.oneCell']) lw.o eV.o gm.o ?_;intro v6 w6 fr eJ _))
   go_roundw
   ·
    refine⟨k+1,by omega,by go_num,eI dX.o (Nat.le_refl _) dm.o eJ,?_⟩;rw[jF.o,List.map_append];exact fr
   ·simp[intOf];omega
  ·obtain rfl:k=M+1:=by omega
   have kN:¬ ((M:Int)+1<(M:Int)+1):=by omega
   go_wp2_with fail
   go_ret
   refine⟨_,rfl,?_,aU.o⟩;rw[<-jD.o];have h3:=kT.o.2.2.1 (M+1);exact gE (base:=w.heap.size) (by rw[h3];exact bO.o) (kT.o.2.2.2 _) (by omega)
def iw(s:Sys) (e k:Nat):List Int:=((List.range k).filter (valB s e)).map fun v:Nat=>(v:Int)
theorem RX{s:Sys} (h:SysOk s) {e:Nat} (he:e<eS s):iw s e 8=valuesS s e:=by
 unfold iw valuesS;have ho:=h.outs.2.1;obtain⟨d,hd⟩:∃ d,8=oS s+d:=⟨8 - oS s,by omega⟩
 have jZ:((List.range d).map (oS s+·)).filter (valB s e)=[]:=List.filter_eq_nil_iff.2 fun v hv h2=>by
  obtain⟨j,_,rfl⟩:=List.mem_map.1 hv;have:=OV h he h2;omega
 rw[hd,List.range_add,List.filter_append,jZ,List.append_nil]
theorem Ir{s:Sys} {e k:Nat} (h:valB s e k=true):iw s e (k+1)=iw s e k++[(k:Int)]:=by
 unfold iw;rw[List.range_succ,List.filter_append,List.map_append];simp[h]
theorem K4{s:Sys} {e k:Nat} (h:valB s e k=false):iw s e (k+1)=iw s e k:=by
 unfold iw;rw[List.range_succ,List.filter_append,List.map_append];simp[h]
theorem Bh(s:Sys) (e k:Nat):(iw s e k).length<=k:=by
 unfold iw;rw[List.length_map];exact Nat.le_trans (List.length_filter_le _ _) (by simp)
theorem mS(w:World):aX w (.slice none 0 0) []:=gE (aI.nil w 0 _ _) (by simp) (by simp)
theorem MK(s:Sys) (x:Int) (hE:eS s<=256) (vc vs vt ve:Value) (w:World) (hs:IsSys w s vc vs vt ve) (hN:movesN s.prob.a.states<1099511627776) :
  Calls Tryz.prog 11 #[.agg (cj s.prob vc vs s.n vt ve),.int .i64 x] w fun r w'=>∃ u,r=.returned (.tuple #[u,.int .i64 (valuesR s x).2])/\aX w' u (valuesR s x).1/\Below w.heap.size w w':=by
 have HS:=aa hs;obtain⟨⟨pc,cc,rfl⟩,⟨ps,cs,rfl⟩,⟨pt,ct,rfl⟩,⟨pe,ce,rfl⟩⟩:=bM hs;clear hs;have HC:=aa (fun W (hb:Below w.heap.size w W)=>nV s hE _ _ _ _ W (HS.o.up hb) hN);obtain⟨i0,cY,cC,bY,cD⟩:=info_parts Tryz.infoInt;have bZ:=aa (And.intro cY (And.intro cC (And.intro bY cD)))
 have dI:am (readyE s=0->SysOk s):=aa fun h=>by
  refine iZ ?_;unfold readyE at h;split at h
  ·rename_i h1;exact absurd h h1
  ·omega
 have dd:am (readyE s≠0->valuesR s x=([],readyE s)):=aa fun h=>by unfold valuesR;rw[if_pos h]
 have eH:am (readyE s=0->(x<0\/(eS s:Int)<=x)->valuesR s x=([],6)):=aa fun h h2=>by unfold valuesR;rw[if_neg (by omega),if_pos h2]
 have gk:am (readyE s=0->¬ (x<0\/(eS s:Int)<=x)->valuesR s x=(valuesS s x.toNat,0)):=aa fun h h2=>by unfold valuesR;rw[if_neg (by omega),if_neg h2]
 generalize valuesR s x=vr at dd eH gk ⊢;obtain⟨re,ka⟩:∃ re,readyE s=re:=⟨_,rfl⟩;rw[ka]at dd eH gk HC dI;clear ka cY cC bY cD
 go_enter Tryz.func11,Tryz.ntmps11
 go_wp2_with fail
 refine aQ (fun W=>Below w.heap.size w W) (by go_grown) (fun W0 aJ=>?_);refine(HC.o W0 aJ).mono ?_;rintro e w1 ⟨v,rfl,aM,h2,h3⟩;have bL:=aa (ae aJ aM);by_cases hr:re=0
 case neg=>
  have HV:=aa (dd.o hr);obtain rfl:=h2 hr;have FC:(re != 0)=true:=by simpa using hr
  clear aJ aM h2 h3 hr HC
  go_wp2_with fail
  go_ret2
  exact⟨_,by rw[HV.o];rfl,by rw[HV.o];exact mS _,bL.o⟩
 obtain⟨B,rfl,hB,fW⟩:=h3 hr;have jA:=aa fW;obtain⟨pv,cv,tv,ev⟩:=fW.val;have EV:=aa ev;have Jz:=aa (dI.o hr);subst hr;have fV:=bL.o.size;clear aJ aM h2 h3 HC fW ev;by_cases dq:x<0
 ·have HV:=aa (eH.o rfl (.inl dq));have hd:decide (x<0)=true:=decide_eq_true dq;clear dq
  go_wp2_with fail
  go_ret2
  exact⟨_,by rw[HV.o];rfl,by rw[HV.o];exact mS _,bL.o⟩
 have hd:decide (x<0)=false:=decide_eq_false dq;obtain⟨e,rfl⟩:∃ e:Nat,x=e:=⟨x.toNat,by omega⟩;by_cases dA:eS s<=e
 ·have HV:=aa (eH.o rfl (.inr (by omega)));have gB:decide ((eS s:Int)<=(e:Int))=true:=decide_eq_true (by omega);have qD:decide (eS s<=e)=true:=decide_eq_true dA;clear dq dA
  go_wp2_with fail
  go_ret2
  exact⟨_,by rw[HV.o];rfl,by rw[HV.o];exact mS _,bL.o⟩
 have gB:decide ((eS s:Int)<=(e:Int))=false:=decide_eq_false (by omega);have qD:decide (eS s<=e)=false:=decide_eq_false dA;have HV:=aa (gk.o rfl (by omega));have he:e<eS s:=by omega
 obtain⟨b,o,rfl,te⟩:=EV.o e he;have Ar:am (iw s e 8=valuesS s e):=aa (RX Jz.o he);clear dq dA
 go_wp2_with fail
 go_loopw [8,29] (fun q i wr=>∃ k:Nat,k<=8/\i=.int .i64 k/\Below w1.heap.size w1 wr/\aI wr w1.heap.size 3 1 q (iw s e k).length ((iw s e k).map (Value.int .i64))) (fun _ i _=>8 - (intOf i).toNat)
 ·exact⟨0,by omega,rfl,Below.refl _ _,aI.nil _ _ _ _⟩
 ·
  obtain⟨k,hk,rfl,aB,bg⟩:=hrel;obtain⟨al,cl2,rfl⟩:=bg.slice;have bO:=aa bg;have aU:=aa aB;have AF:=aB.size;have tvr:=ak aU.o tv;have ter:=ak aU.o te;clear bg aB;by_cases aD:k<8
  ·have kN:(k:Int)<8:=by omega
   have fK:=rj ((gY s e:Nat):Int) k;have WL:hasB ((gY s e:Nat):Int) k=valB s e k:=by unfold gY;rw[m5,decide_eq_true aD,Bool.true_and]
   rw[WL]at fK;have xm:=Bh s e k;cases hb:valB s e k with
   | true=>
    have HY:=aa (Ir hb);rw[hb]at fK;obtain⟨n,hn⟩:∃ n,(iw s e k).length=n:=⟨_,rfl⟩;rw[hn]at xm bO ⊢;have qE:am ((iw s e (k+1)).length=n+1):=aa (by rw[HY.o,List.length_append,hn];rfl);have dm:=aa (bO.o.up ((Below.refl _ wr).alloc (Nat.le_refl _) (.cells #[.int .i64 k] 3)));have bE:=aa (dR wr [.int .i64 (k:Int)] 3);have lw:am (n+1<=maxLen):=aa (by unfold maxLen;omega);have eV:am ((n+1) * 8<=140737488355328):=aa (by omega);have gm:am (w1.heap.size<=(wr.alloc (.cells #[.int .i64 k] 3)).heap.size):=aa (by simp;omega);clear hb WL hn
    go_wp2_with (at_builtin;(refine aZ _ rfl (.tmp 43) (.tmp 45) 38 rfl w1.heap.size 3 i0 _ 1 8 Tryz.underlying38 bZ.o.1 bZ.o.2.1 bZ.o.2.2.1 bZ.o.2.2.2 rfl (by decide) _ n _ rfl dm.o ⟨wr.heap.size,0,none⟩ 1 1 [.int .i64 (k:Int)] rfl rfl bE.o (by simp[Value.oneCell']) lw.o eV.o gm.o ?_;intro v6 w6 fr eJ _))
    go_roundw
    ·
     refine⟨k+1,by omega,by go_num,eI aU.o (Nat.le_refl _) dm.o eJ,?_⟩;rw[qE.o,HY.o,List.map_append];exact fr
    ·simp[intOf];omega
   | false=>
    have HY:=aa (K4 hb);rw[hb]at fK;clear hb WL
    go_wp2_with fail
    go_roundw
    ·
     refine⟨k+1,by omega,by go_num,aU.o,?_⟩;rw[HY.o];exact bO.o
    ·simp[intOf];omega
  ·obtain rfl:k=8:=by omega
   clear tvr ter
   go_wp2_with fail
   go_ret2
   refine⟨_,by rw[HV.o];rfl,?_,ae bL.o aU.o⟩;rw[HV.o,Int.toNat_natCast,<-Ar.o];refine gE (l:=iw s e 8) bO.o (fun y hy=>?_) (by have:=Bh s e 8;omega);obtain⟨j,hj,rfl⟩:=List.mem_map.1 hy;have:=List.mem_range.1 (List.mem_filter.1 hj).1;exact⟨by omega,by omega⟩
theorem ML(s:Sys) (hE:eS s<=256) (vc vs vt ve:Value) (w:World) (hT:io w) (hs:IsSys w s vc vs vt ve) (hN:movesN s.prob.a.states<1099511627776) :
  Calls Tryz.prog 13 #[.agg (cj s.prob vc vs s.n vt ve)] w fun r w'=>∃ u,r=.returned (.tuple #[u,.int .i64 (choiceR s).2])/\aX w' u (choiceR s).1/\Below w.heap.size w w':=by
 have HS:=aa hs;have HT:=aa hT;obtain⟨⟨pc,cc,rfl⟩,⟨ps,cs,rfl⟩,⟨pt,ct,rfl⟩,⟨pe,ce,rfl⟩⟩:=bM hs;clear hs hT;have HC:=aa (fun W (hb:Below w.heap.size w W)=>nV s hE _ _ _ _ W (HS.o.up hb) hN);obtain⟨i0,cY,cC,bY,cD⟩:=info_parts Tryz.infoInt;have bZ:=aa (And.intro cY (And.intro cC (And.intro bY cD)))
 have oZ:am (readyE s=0->verifyE s=0):=aa fun h=>by
  unfold readyE at h;split at h
  ·rename_i h1;exact absurd h h1
  ·omega
 have dd:am (readyE s≠0->choiceR s=([],readyE s)):=aa fun h=>by unfold choiceR;rw[if_pos h]
 have gk:am (readyE s=0->choiceR s=(choiceS s,0)):=aa fun h=>by unfold choiceR;rw[if_neg (by omega)]
 generalize choiceR s=vr at dd gk ⊢;obtain⟨re,ka⟩:∃ re,readyE s=re:=⟨_,rfl⟩;rw[ka]at dd gk HC oZ;clear ka cY cC bY cD
 go_enter Tryz.func13,Tryz.ntmps13
 go_wp2_with fail
 refine aQ (fun W=>Below w.heap.size w W) (by go_grown) (fun W0 aJ=>?_);refine(HC.o W0 aJ).mono ?_;rintro e w1 ⟨v,rfl,aM,h2,h3⟩;have bL:=aa (ae aJ aM);by_cases hr:re=0
 case neg=>
  have HV:=aa (dd.o hr);obtain rfl:=h2 hr;have FC:(re != 0)=true:=by simpa using hr
  clear aJ aM h2 h3 hr HC
  go_wp2_with fail
  go_ret2
  exact⟨_,by rw[HV.o];rfl,by rw[HV.o];exact mS _,bL.o⟩
 obtain⟨B,rfl,hB,fW⟩:=h3 hr;have jA:=aa fW;have HV:=aa (gk.o hr);have tZ:=aa (oZ.o hr);have dI:=aa (iZ tZ.o);have HP:=aa (zz tZ.o);subst hr;have fV:=bL.o.size;clear aJ aM h2 h3 HC fW
 go_wp2_with fail
 refine(uB s dI.o HP.o hE B w1 jA.o (HT.o.up bL.o)).mono ?_;rintro e w2 ⟨u,rfl,hu,aY⟩;have HU:=aa hu;obtain⟨pu,cu,rfl,eu⟩:=dY hu;have EU:=aa eu;have cV:=aa (ae bL.o aY);obtain⟨vc,vs,vt,ve,vv,vl,q1,_,_,q2⟩:=(jA.o.up aY).ex;obtain⟨pl,cl,rfl,el⟩:=dY q2;have EL:=aa el;have tl:w2.cell? ⟨B,11,none⟩=some (.slice pl (partsS s).length cl):=(ab q1 11).trans rfl;have iU:am ((i8 s).length=nW s+1):=aa (by simp[i8,kM]);have HL:am ((partsS s).length=eS s):=aa (dK s);obtain⟨L,hL⟩:∃ L:Nat->List Int,L=fun k=>(List.range k).map fun e=>(choiceS s).getD e 0:=⟨_,rfl⟩
 have kY:am (L 0=[]/\(∀ k,L (k+1)=L k++[(choiceS s).getD k 0])/\(∀ k,(L k).length=k)/\L (eS s)=choiceS s/\∀ k,k<=eS s->∀ x∈L k,bT x):=aa (by
  subst hL;refine⟨rfl,fun k=>by simp[List.range_succ],fun k=>by simp,?_,fun k hk x hx=>?_⟩
  ·unfold choiceS;exact List.map_congr_left fun e he=>nX (List.mem_range.1 he)
  ·obtain⟨j,hj,rfl⟩:=List.mem_map.1 hx;have:=List.mem_range.1 hj;unfold choiceS;rw[nX (by omega)]
   exact vf s _ dI.o.outs.2.1)
 have qV:am (∀ k,k<eS s->0<=(partsS s).getD k 0/\((partsS s).getD k 0).toNat<(i8 s).length/\(i8 s).getD ((partsS s).getD k 0).toNat 0=(choiceS s).getD k 0):=aa fun k hk=>⟨(kL s k hk).1,by have:=qj HP.o k hk;have:=iU.o;omega,Pw HP.o k hk⟩
 rw[HL.o]at tl EL;obtain⟨m,hm⟩:∃ m,eS s=m:=⟨_,rfl⟩;rw[hm]at hE kY qV tl EL;clear hu eu aY q1 q2 el hL hm;obtain⟨cn,CW⟩:∃ cn,(i8 s).length=cn:=⟨_,rfl⟩;rw[CW]at EU qV ⊢;clear CW iU HL
 go_wp2_with fail
 clear tl
 go_loopw [7,25] (fun q i wr=>∃ k:Nat,k<=m/\i=.int .i64 k/\Below w2.heap.size w2 wr/\aI wr w2.heap.size 3 1 q k ((L k).map (Value.int .i64))) (fun _ i _=>m - (intOf i).toNat)
 ·exact⟨0,by omega,rfl,Below.refl _ _,by rw[kY.o.1];exact aI.nil _ _ _ _⟩
 ·
  obtain⟨k,hk,rfl,aB,bg⟩:=hrel;obtain⟨al,cl2,rfl⟩:=bg.slice;have bO:=aa bg;have aU:=aa aB;have AF:=aB.size;clear bg;by_cases aD:k<m
  ·obtain⟨b,o,rfl,c1⟩:=EL.o k aD;obtain⟨g1,g2,g3⟩:=qV.o k aD;obtain⟨n,hn⟩:∃ n:Nat,(partsS s).getD k 0=n:=⟨((partsS s).getD k 0).toNat,by omega⟩;rw[hn,Int.toNat_natCast]at g2 g3;obtain⟨b2,o2,rfl,c2⟩:=EU.o n g2;rw[g3]at c2;rw[hn]at c1;have d1:=ak aB c1;have d2:=ak aB c2;have jF:=aa (kY.o.2.1 k);generalize (choiceS s).getD k 0=x at d2 jF;have dm:=aa (bO.o.up ((Below.refl _ wr).alloc (Nat.le_refl _) (.cells #[.int .i64 x] 3)));have bE:=aa (dR wr [.int .i64 x] 3);have lw:am (k+1<=maxLen):=aa (by unfold maxLen;omega);have eV:am ((k+1) * 8<=140737488355328):=aa (by omega);have gm:am (w2.heap.size<=(wr.alloc (.cells #[.int .i64 x] 3)).heap.size):=aa (by simp;omega);clear g1 g3 hn c1 c2 aB
   go_wp2_with (at_builtin;(refine aZ _ rfl (.tmp 29) (.tmp 34) 38 rfl w2.heap.size 3 i0 _ 1 8 Tryz.underlying38 bZ.o.1 bZ.o.2.1 bZ.o.2.2.1 bZ.o.2.2.2 rfl (by decide) _ k _ rfl dm.o ⟨wr.heap.size,0,none⟩ 1 1 [.int .i64 x] rfl rfl bE.o (by simp[Value.oneCell']) lw.o eV.o gm.o ?_;intro v6 w6 fr eJ _))
   go_roundw
   ·
    refine⟨k+1,by omega,by go_num,eI aU.o (Nat.le_refl _) dm.o eJ,?_⟩;rw[jF.o,List.map_append];exact fr
   ·simp[intOf];omega
  ·obtain rfl:k=m:=by omega
   clear aB
   go_wp2_with fail
   go_ret2
   refine⟨_,by rw[HV.o];rfl,?_,ae cV.o aU.o⟩;rw[HV.o,<-kY.o.2.2.2.1];exact gE (l:=L k) (by rw[kY.o.2.2.1 k];exact bO.o) (kY.o.2.2.2.2 k (Nat.le_refl _)) (by have:=kY.o.2.2.1 k;omega)
theorem K5{s:Sys} {p:Nat} (hp:p<nS s) (e:Nat):hasB ((oblM s e:Nat):Int) p=!hasB (fltS s e) p:=by unfold oblM;rw[m5,decide_eq_true hp,Bool.true_and]
theorem Is{s:Sys} (h:nS s<=5) (e:Nat):oblM s e<32:=by
 have h1:=gX (fun p=>!hasB (fltS s e) p) (nS s);have h4:(2:Nat) ^ nS s<=2 ^ 5:=Nat.pow_le_pow_right (by omega) h;unfold oblM;omega
theorem MM(s:Sys) (hs:SysOk s) (p e f:Nat) (hp:p<nS s) (he:e<eS s) (hf:f<eS s) (vc vs vt ve:Value) (w:World) (dy:IsSys w s vc vs vt ve) :
  Calls Tryz.prog 139 #[.agg (cj s.prob vc vs s.n vt ve),.int .i64 p,.int .i64 e,.int .i64 f] w fun r w'=>r=.returned (.bool (linkB s p e f))/\Below w.heap.size w w':=by
 have HS:=aa dy;obtain⟨⟨pc,cc,rfl⟩,⟨ps,cs,rfl⟩,⟨pt,ct,rfl⟩,⟨pe,ce,rfl⟩⟩:=bM dy;clear dy;have LE:=aa (fun W (hb:Below w.heap.size w W)=>yr s hs e he _ _ _ _ W (HS.o.up hb));have HMF:=aa (fun W (hb:Below w.heap.size w W)=>yr s hs f hf _ _ _ _ W (HS.o.up hb));have ju:=hs.n.2.1;have kW:=Is ju e;have hlf:=Is ju f;have XC:=aa (fun w=>mM ((oblM s e:Nat):Int) p (by omega) (by omega) (by omega) w);have WG:=aa (fun w=>mM ((oblM s f:Nat):Int) p (by omega) (by omega) (by omega) w);rw[K5 hp]at XC WG;have ig:am (linkB s p e f=(!hasB (fltS s e) p&&!hasB (fltS s f) p&&decide (finS s e p=finS s f p))):=aa rfl;obtain⟨b,o,_,ce1,e0,rfl,_,_,_,_,cv1,-,-,c3,-,-,-,b2,o2,pr,cr,rfl,c4,cA⟩:=iD hs HS.o.ex he;injection e0 with e01 e02 e03
 subst e01;clear e02 e03;obtain⟨b',o',_,ce2,e0,e4,_,_,_,_,cv2,-,-,d3,-,-,-,b3,o3,pr',cr',rfl,d4,mF⟩:=iD hs HS.o.ex hf;injection e0 with e01 e02 e03
 injection e01 with e01
 injection e01 with e011 e012
 subst e011 e012;clear e02 e03 e4;have qz:=hs.rounds;obtain⟨rr,Dv⟩:∃ rr:Nat,s.prob.rounds=rr:=⟨s.prob.rounds.toNat,by omega⟩;have FJ:s.prob.rounds.toNat=rr:=by omega
 rw[FJ]at c3 c4 d3 d4;obtain⟨pa,ca,ea,r1⟩:=dY cA;injection ea with ea1 ea2 ea3
 subst ea1 ea3;clear ea2;obtain⟨pa',ca',ea,r2⟩:=dY mF;injection ea with ea1 ea2 ea3
 subst ea1 ea3;clear ea2;obtain⟨b6,o6,rfl,f1⟩:=r1 p (by simpa using hp);obtain⟨b7,o7,rfl,f2⟩:=r2 p (by simpa using hp);rw[nX hp]at f1 f2;have J0:s.ex.length=eS s:=rfl;have Lx:=aa (fun W (hb:Below w.heap.size w W)=>Cj s e rr Dv (.slice pc s.prob.t.cases.length cc) (.slice ps s.prob.a.states.length cs) (.slice pt s.tab.length ct) b o s.ex.length ce he b2 o2 (rr+1) cv1 (by omega) (.slice (some ⟨b6,o6,none⟩) (nS s) cr) ⟨_,_,_,rfl⟩ W (ak hb c3) (ak hb c4));have xb:=aa (fun W (hb:Below w.heap.size w W)=>Cj s f rr Dv (.slice pc s.prob.t.cases.length cc) (.slice ps s.prob.a.states.length cs) (.slice pt s.tab.length ct) b o s.ex.length ce hf b3 o3 (rr+1) cv2 (by omega) (.slice (some ⟨b7,o7,none⟩) (nS s) cr') ⟨_,_,_,rfl⟩ W (ak hb d3) (ak hb d4));have oA:=aa f1;have rX:=aa f2;generalize hasB (fltS s e) p=be at XC ig;generalize hasB (fltS s f) p=bf at WG ig;generalize finS s e p=xe at oA ig;generalize finS s f p=xf at rX ig;generalize linkB s p e f=lk at ig ⊢;clear c3 c4 d3 d4 cA mF r1 r2 f1 f2 Dv FJ J0 qz kW hlf
 go_enter Tryz.func139,Tryz.ntmps139
 go_wp2_with fail
 refine aQ (fun W=>Below w.heap.size w W/\∃ c,W.heap[w.heap.size]?=some (.cells c 35)/\c=cj s.prob (.slice pc s.prob.t.cases.length cc) (.slice ps s.prob.a.states.length cs) s.n (.slice pt s.tab.length ct) (.slice (some ⟨b,o,none⟩) s.ex.length ce)) ⟨by go_grown,_,aq _ _,rfl⟩ (fun W0 bh=>?_);obtain⟨aJ,_,hA,rfl⟩:=bh;refine(LE.o W0 aJ).mono ?_;rintro r w1 ⟨rfl,aM⟩;have bL:=aa (ae aJ aM);have dN:=aa (af aM hA);clear aJ aM hA LE
 go_wp2_with fail
 refine(XC.o w1).mono ?_;rintro r w' ⟨rfl,rfl⟩;cases be with
 | true=>
  go_wp2_with fail
  go_ret
  exact⟨aR (by rw[ig.o];rfl),bL.o⟩
 | false=>
  have tS:=ab dN.o
  go_wp2_with fail
  clear tS;refine(HMF.o w1 bL.o).mono ?_;rintro r w2 ⟨rfl,aY⟩;have cV:=aa (ae bL.o aY);have tV:=aa (af aY dN.o);clear aY
  go_wp2_with fail
  refine(WG.o w2).mono ?_;rintro r w' ⟨rfl,rfl⟩;cases bf with
  | true=>
   go_wp2_with fail
   go_ret
   exact⟨aR (by rw[ig.o];rfl),cV.o⟩
  | false=>
   have HLK2:am (lk=decide (xe=xf)):=aa (by rw[ig.o];rfl)
   go_wp2_with fail
   have yS:∀ z:ExtW w2,∀ j,z.val.cell? ⟨w.heap.size,j,none⟩=_:=fun z=>ab (af z.ext tV.o)
   have y1:∀ z:ExtW w2,z.val.cell? ⟨b6,o6+p,none⟩=_:=fun z=>ak (ae cV.o z.ext) oA.o
   have y2:∀ z:ExtW w2,z.val.cell? ⟨b7,o7+p,none⟩=_:=fun z=>ak (ae cV.o z.ext) rX.o
   have K1:am (∀ y:ExtW w2,Calls Tryz.prog 46 #[.agg #[.int .i64 s.prob.t.n,.int .i64 s.prob.t.ins,.int .i64 s.prob.t.outs,.slice pc s.prob.t.cases.length cc,.int .i64 s.prob.a.n,.slice ps s.prob.a.states.length cs,.int .i64 s.prob.rounds,.int .i64 s.n,.slice pt s.tab.length ct,.slice (some ⟨b,o,none⟩) s.ex.length ce],.int .i64 e] y.val fun r w''=>r=.returned (.slice (some ⟨b6,o6,none⟩) (nS s) cr)/\∃ z:ExtW w2,w''=z.val):=aa (fun y=>Calls.ext_of (Lx.o y.val (ae cV.o y.ext)));have K2:am (∀ y:ExtW w2,Calls Tryz.prog 46 #[.agg #[.int .i64 s.prob.t.n,.int .i64 s.prob.t.ins,.int .i64 s.prob.t.outs,.slice pc s.prob.t.cases.length cc,.int .i64 s.prob.a.n,.slice ps s.prob.a.states.length cs,.int .i64 s.prob.rounds,.int .i64 s.n,.slice pt s.tab.length ct,.slice (some ⟨b,o,none⟩) s.ex.length ce],.int .i64 f] y.val fun r w''=>r=.returned (.slice (some ⟨b7,o7,none⟩) (nS s) cr')/\∃ z:ExtW w2,w''=z.val):=aa (fun y=>Calls.ext_of (xb.o y.val (ae cV.o y.ext)));refine aE (by kernel_rfl) (by kernel_rfl) ?_
   repeat (go_big_quiet_step (first|(go_at_call 46;with_reducible exact K1.o _)|(go_at_call 46;with_reducible exact K2.o _)))
   refine wpQuiet_nil ?_;rintro _ ⟨xq,rfl⟩;clear yS y1 y2
   go_wp2_with fail
   go_ret
   exact⟨aR (by rw[HLK2.o,Bool.eq_iff_iff];simp),ae cV.o xq.ext⟩
theorem Ky(l:List Lk) (h0:∀ y∈l,0<=y.x) (bx:Nat) (vl:Value) (w0:World) (hl:bJ w0 vl l) (w:World) (aJ:Below w0.heap.size w0 w) (hx:w.cell? ⟨bx,0,none⟩=some vl) :
  so Tryz.prog 98 #[.pointer (some ⟨bx,0,none⟩)] (wB (cF l)) l.length (fun k=>k<w0.heap.size\/k=bx) w:=by
 intro yl J Jx W hW hJ oC hY kX;have jH:=fo hx;have mU:=aJ.size;obtain⟨pl,cl,rfl,lt1,lt2,el⟩:=hl.at;have eZ:gw (fun k=>k<w0.heap.size\/k=bx) w W:=fun k hk=>hW.block k (by rcases hk with hk|rfl<;>first|omega|assumption)
 have tx:=(eZ.cell (.inr rfl)).trans hx;have uh:=aa eZ;have LI:=aa hW.size
 have BC:am (∀ k (hk:k<l.length),wB (cF l) k=#[.int .i64 (l[k]).x]):=aa (fun k hk=>by
  unfold wB cF;have h1:=h0 l[k] (List.getElem_mem hk);rw[aA 0 (by simpa using hk),List.getElem_map];congr 2;congr 1
  omega)
 have EL:am (∀ (V:World),gw (fun k=>k<w0.heap.size\/k=bx) w V->∀ i (hi:i<l.length),∃ b o,pl=some ⟨b,o,none⟩/\V.cell? ⟨b,o+i * 2,none⟩=some (.int .i64 (l[i]).x)/\V.cell? ⟨b,o+i * 2+1,none⟩=some (.int .i64 (l[i]).p)):=aa (fun V hV i hi=>by
  obtain⟨b,o,e1,c1,c2⟩:=el i hi;have aD:b<w0.heap.size:=fo c1.1
  have tY:∀ o',V.cell? ⟨b,o',none⟩=w0.cell? ⟨b,o',none⟩:=fun o'=>by
   rw[hV.cell (.inl aD)];unfold World.cell?;rw[aJ.block b aD]
  exact⟨b,o,e1,(tY _).trans c1.1,(tY _).trans c2.1⟩)
 have HJ:=aa hJ;have Jc:=aa oC;have HY:=aa hY;have H0:=aa kX;clear hx aJ eZ hJ oC hY kX hl el hW h0;refine(callsIn_wide (n:=0)).1 ?_;refine callsIn_of_wp Tryz.func98 rfl trivial ?_ rfl;simp only[Tryz.ntmps98,List.size_toArray,List.length_cons,List.length_nil,Nat.reduceAdd,Nat.reduceSub,Array.replicate_succ,Array.replicate_zero,List.push_toArray,List.append_toArray,List.nil_append,List.cons_append]
 gi_wp2
 clear tx
 gi_loopw [7] (fun i wr=>∃ k:Nat,k<=l.length/\i=.int .i64 k/\w.heap.size<=wr.heap.size/\gw (fun k=>k<w0.heap.size\/k=bx) w wr/\J k wr) (fun i _=>l.length - (intOf i).toNat)
 ·exact⟨0,by omega,rfl,LI.o,uh.o,H0.o⟩
 ·
  obtain⟨k,hk,rfl,eM,fU,hj⟩:=hrel;have j9:=aa fU;have je:=aa hj;clear hj;by_cases aD:k<l.length
  ·obtain⟨b1,o1,rfl,c1,c2⟩:=EL.o wr fU k aD;have HE:=aa (BC.o k aD);generalize l[k]=y at c1 c2 HE;obtain⟨x,p⟩:=y;dsimp only at c1 c2 HE;have hja:=HJ.o k wr (wr.alloc (.cells #[.int .i64 x,.int .i64 p] 75)) je.o (by go_grown);have HKA:am (gw (fun k=>k<w0.heap.size\/k=bx) wr (wr.alloc (.cells #[.int .i64 x,.int .i64 p] 75))):=aa fun q hq=>Below.heap_alloc wr _ q (by rcases hq with hq|rfl<;>omega)
   obtain⟨fn,tmps,assign,body,oP,hR⟩:=HY.o k _ aD hja;rw[HE.o]at oP;have HR:=aa hR;clear hR hja fU
   gi_wp2
   refine⟨rfl,HR.o.mono ?_⟩;rintro e W3 (⟨rfl,Cy,Dp,ii⟩|⟨rfl,rO⟩)
   ·have QN:w.heap.size<=W3.heap.size:=by simp at Dp;omega
    gi_wp2
    go_roundw
    ·exact⟨k+1,by omega,by go_num,QN,gw.trans (gw.trans j9.o HKA.o) ii,Cy⟩
    ·simp[intOf];omega
   ·gi_wp2
    refine bodyPost_ret (results_none rfl _ _ _) rfl ?_;exact⟨⟨_,rfl⟩,.inr ⟨_,by omega,rO⟩⟩
  ·obtain rfl:k=l.length:=by omega
   clear fU
   gi_wp2
   go_end0
   exact⟨⟨_,rfl⟩,.inl je.o⟩
theorem Fh{s:Sys} (hs:SysOk s) {l:List Lk} (hx:∀ y∈l,y.x.toNat<eS s):cM s l=decide (comM s (cF l)=0):=by
 unfold cM;rw[decide_eq_decide];exact OX hs fun e he=>by obtain⟨y,hy,rfl⟩:=List.mem_map.1 he;exact hx y hy
theorem qU(s:Sys) (hs:SysOk s) (B:Nat) (vl:Value) (l:List Lk) (hx:∀ y∈l,0<=y.x/\y.x.toNat<eS s) (w:World) (fW:ScAt w B s) (hl:bJ w vl l) :
  Calls Tryz.prog 56 #[.pointer (some ⟨B,0,none⟩),vl] w fun r w'=>r=.returned (.bool (iY s l))/\Below w.heap.size w w':=by
 have jA:=aa fW;have HL:=aa hl;obtain⟨pl,cl,rfl,lt1,lt2,el⟩:=hl.at;have Ar:am ((cF l).length=l.length):=aa (by simp[cF])
 have qV:=aa (fun W (hb:Below w.heap.size w W) (hX:W.heap[w.heap.size]?=some (.cells #[.slice pl l.length cl] 54))=>Cl s B 98 #[.pointer (some ⟨w.heap.size,0,none⟩)] (enters_of Tryz.func98 (by kernel_rfl) rfl) (cF l) (fun e he=>by obtain⟨y,hy,rfl⟩:=List.mem_map.1 he;exact(hx y hy).2) (fun k=>k<w.heap.size\/k=w.heap.size) W (jA.o.up hb) (fun k hk=>by have:=aC hX;rcases hk with hk|rfl<;>omega) (fun V hV=>by
  rw[Ar.o]
  exact Ky l (fun y hy=>(hx y hy).1) w.heap.size _ w HL.o V (ae hb hV) (by rw[ab (af hV hX)];rfl)))
 have gV:=aa (Fh hs (fun y hy=>(hx y hy).2));have HG:am (iY s l=(decide (0<l.length)&&cM s l)):=aa rfl;rw[gV.o]at HG;generalize comM s (cF l)=c at HG qV;clear hl el hx fW gV;by_cases h0:0<l.length
 ·have hd:decide ((0:Int)<(l.length:Int))=true:=decide_eq_true (by omega);have gB:decide (0<l.length)=true:=decide_eq_true h0;rw[gB,Bool.true_and]at HG
  go_enter Tryz.func56,Tryz.ntmps56
  go_wp2_with fail
  refine aQ (fun W=>Below w.heap.size w W/\W.heap[w.heap.size]?=some (.cells #[.slice pl l.length cl] 54)) ⟨by go_grown,aq _ _⟩ (fun W0 bh=>?_);obtain⟨aJ,vE⟩:=bh;refine(qV.o W0 aJ vE).mono ?_;rintro e w1 ⟨rfl,aM⟩;have jw:=aa (ae aJ aM);clear aJ aM vE qV
  go_wp2_with fail
  go_ret
  refine⟨aR ?_,jw.o⟩;rw[HG.o,Bool.eq_iff_iff];simp
 ·have hd:decide ((0:Int)<(l.length:Int))=false:=decide_eq_false (by omega);have gB:decide (0<l.length)=false:=decide_eq_false h0;rw[gB,Bool.false_and]at HG
  go_enter Tryz.func56,Tryz.ntmps56
  go_wp2_with fail
  go_ret
  exact⟨aR (by rw[HG.o]),by go_grown⟩
theorem D8{s:Sys} {l:List Lk} (h:walkE s l=0):∀ y∈l,0<=y.x/\y.x.toNat<eS s:=fun y hy=>by
 obtain⟨i,hi,rfl⟩:=List.getElem_of_mem hy;have h1:=((ir s l).1 h).2.2 i hi;have h2:=(ip s l i).1 h1;rw[aA default hi]at h2;exact⟨h2.1,h2.2.1⟩
theorem rI{s:Sys} (h:readyE s=0):verifyE s=0:=by
 unfold readyE at h;split at h
 ·rename_i h1;exact absurd h h1
 ·omega
def Yv(s:Sys) (e:Int) (r:Ending) (w:World):Prop:=∃ v,r=.returned (.tuple #[v,.int .i64 e])/\(e=0->∃ B,v=.pointer (some ⟨B,0,none⟩)/\ScAt w B s)/\(e≠0->v=.pointer none)
theorem yt(s:Sys) (hE:eS s<=256) (vc vs vt ve vw:Value) (c:Ct) (pv:Option Addr) (cv:Nat) (pl:Option Addr) (cl:Nat) (pp:Option Addr) (cp:Nat) (w:World) (hs:IsSys w s vc vs vt ve) (hN:movesN s.prob.a.states<1099511627776) (hw:bJ w vw c.walk) :
  Calls Tryz.prog 54 #[.agg (cj s.prob vc vs s.n vt ve),.agg #[.int .i64 c.kind,vw,.slice pv c.nv cv,.slice pl c.nl cl,.slice pp c.np cp]] w fun r w'=>Yv s (certE s c) r w'/\Below w.heap.size w w':=by
 have HS:=aa hs;obtain⟨⟨pc,cc,rfl⟩,⟨ps,cs,rfl⟩,⟨pt,ct,rfl⟩,⟨pe,ce,rfl⟩⟩:=bM hs;obtain⟨pw,cw,rfl,lw1,lw2,_⟩:=hw.at;have JX:=aa hw;clear hs hw;have HC:=aa (fun W (hb:Below w.heap.size w W)=>nV s hE _ _ _ _ W (HS.o.up hb) hN);have QB:=aa (fun (hv:verifyE s=0) W (hb:Below w.heap.size w W)=>Kw s hv _ _ _ _ _ c.walk W (HS.o.up hb) hN (JX.o.up up_link hb));have dd:am (readyE s≠0->certE s c=readyE s):=aa fun h=>by unfold certE;rw[if_pos h]
 have eH:am (readyE s=0->c.kind≠1->certE s c=1):=aa fun h h1=>by unfold certE;rw[if_neg (by omega)];unfold wg;rw[if_pos h1]
 have gk:am (readyE s=0->c.kind=1->(0<c.nv\/0<c.nl\/0<c.np)->certE s c=3):=aa fun h h1 h2=>by unfold certE;rw[if_neg (by omega)];unfold wg;rw[if_neg (by omega),if_pos h2]
 have pk:am (readyE s=0->c.kind=1->¬ (0<c.nv\/0<c.nl\/0<c.np)->walkE s c.walk≠0->certE s c=walkE s c.walk):=aa fun h h1 h2 h3=>by unfold certE;rw[if_neg (by omega)];unfold wg;rw[if_neg (by omega),if_neg h2,if_pos h3]
 have xA:am (readyE s=0->c.kind=1->¬ (0<c.nv\/0<c.nl\/0<c.np)->walkE s c.walk=0->certE s c=if iY s c.walk then 0 else 18):=aa fun h h1 h2 h3=>by
  have h4:=((ir s c.walk).1 h3).1;unfold certE;rw[if_neg (by omega)];unfold wg;rw[if_neg (by omega),if_neg h2,if_neg (by omega)];unfold iY;rw[decide_eq_true h4,Bool.true_and]
 have CL:=aa (fun (hs:SysOk s) (h:walkE s c.walk=0) B W (fW:ScAt W B s) (hl:bJ W (.slice pw c.walk.length cw) c.walk)=>qU s hs B _ c.walk (D8 h) W fW hl);have tZ:am (readyE s=0->verifyE s=0):=aa rI;generalize certE s c=ce0 at dd eH gk pk xA ⊢;obtain⟨re,ka⟩:∃ re,readyE s=re:=⟨_,rfl⟩;rw[ka]at dd eH gk pk xA HC tZ;obtain⟨kd,wk,nv,nl,np⟩:=c;dsimp only at *;clear ka
 go_enter Tryz.func54,Tryz.ntmps54
 go_wp2_with fail
 refine aQ (fun W=>Below w.heap.size w W/\(∃ q,W.heap[w.heap.size]?=some (.cells q 35)/\q=cj s.prob (.slice pc s.prob.t.cases.length cc) (.slice ps s.prob.a.states.length cs) s.n (.slice pt s.tab.length ct) (.slice pe s.ex.length ce))/\W.heap[w.heap.size+1]?=some (.cells #[.int .i64 kd,.slice pw wk.length cw,.slice pv nv cv,.slice pl nl cl,.slice pp np cp] 58)) ⟨by go_grown,⟨_,az _ (aq _ _),rfl⟩,bz _ _ _⟩ (fun W0 bh=>?_);obtain⟨aJ,⟨_,bK,rfl⟩,gU⟩:=bh;refine(HC.o W0 aJ).mono ?_;rintro e w1 ⟨v,rfl,aM,h2,h3⟩;have bL:=aa (ae aJ aM);have gy:=aa (af aM gU);have dN:=aa (af aM bK);by_cases hr:re=0
 case neg=>
  have HV:=aa (dd.o hr);obtain rfl:=h2 hr;have FC:(re != 0)=true:=by simpa using hr
  have WS:=aa hr;clear aJ aM h2 h3 hr HC gU bK
  go_wp2_with fail
  go_ret2
  exact⟨⟨_,by rw[HV.o];rfl,fun h=>absurd (HV.o.symm.trans h) WS.o,fun _=>rfl⟩,bL.o⟩
 obtain⟨B,rfl,hB,fW⟩:=h3 hr;have jA:=aa fW;have CE:=aa (tZ.o hr);have dI:=aa (iZ CE.o);subst hr;have to:=ab gy.o;clear aJ aM h2 h3 HC fW gU bK;by_cases hk:kd=1
 case neg=>
  have HV:=aa (eH.o rfl hk);have qY:(kd != 1)=true:=by simpa using hk
  clear hk
  go_wp2_with fail
  go_ret2
  exact⟨⟨_,by rw[HV.o];rfl,fun h=>by have:=HV.o;omega,fun _=>rfl⟩,bL.o⟩
 have qY:(kd != 1)=false:=by simp[hk]
 have Le:=aa hk;by_cases h1:0<nv
 ·have HV:=aa (gk.o rfl hk (.inl h1));have hd:decide ((0:Int)<(nv:Int))=true:=decide_eq_true (by omega);have gB:decide (0<nv)=true:=decide_eq_true h1;clear hk h1
  go_wp2_with fail
  go_ret2
  exact⟨⟨_,by rw[HV.o];rfl,fun h=>by have:=HV.o;omega,fun _=>rfl⟩,bL.o⟩
 have e1:decide ((0:Int)<(nv:Int))=false:=decide_eq_false (by omega);have e1':decide (0<nv)=false:=decide_eq_false h1;by_cases h2:0<nl
 ·have HV:=aa (gk.o rfl hk (.inr (.inl h2)));have hd:decide ((0:Int)<(nl:Int))=true:=decide_eq_true (by omega);have gB:decide (0<nl)=true:=decide_eq_true h2;clear hk h1 h2
  go_wp2_with fail
  go_ret2
  exact⟨⟨_,by rw[HV.o];rfl,fun h=>by have:=HV.o;omega,fun _=>rfl⟩,bL.o⟩
 have e2:decide ((0:Int)<(nl:Int))=false:=decide_eq_false (by omega);have e2':decide (0<nl)=false:=decide_eq_false h2;by_cases h3:0<np
 ·have HV:=aa (gk.o rfl hk (.inr (.inr h3)));have hd:decide ((0:Int)<(np:Int))=true:=decide_eq_true (by omega);have gB:decide (0<np)=true:=decide_eq_true h3;clear hk h1 h2 h3
  go_wp2_with fail
  go_ret2
  exact⟨⟨_,by rw[HV.o];rfl,fun h=>by have:=HV.o;omega,fun _=>rfl⟩,bL.o⟩
 have e3:decide ((0:Int)<(np:Int))=false:=decide_eq_false (by omega);have e3':decide (0<np)=false:=decide_eq_false h3;have fZ:am (¬ (0<nv\/0<nl\/0<np)):=aa (by omega);have tA:=ab dN.o;clear hk h1 h2 h3
 go_wp2_with fail
 clear tA to;refine(QB.o CE.o w1 bL.o).mono ?_;rintro e w2 ⟨rfl,aY⟩;have cV:=aa (ae bL.o aY);have JP:=aa (jA.o.up aY);have to:=ab (af aY gy.o);clear aY;by_cases hz:walkE s wk=0
 case neg=>
  have HV:=aa (pk.o (by first|trivial|rfl) Le.o fZ.o hz);generalize walkE s wk=we at hz HV;have LZ:(we != 0)=true:=by simpa using hz
  have HNZ:=aa hz;clear hz
  go_wp2_with fail
  go_ret2
  exact⟨⟨_,by rw[HV.o];rfl,fun h=>absurd (HV.o.symm.trans h) HNZ.o,fun _=>rfl⟩,cV.o⟩
 have HV:=aa (xA.o (by first|trivial|rfl) Le.o fZ.o hz);have uj:=aa (CL.o dI.o hz B);rw[hz];clear hz
 go_wp2_with fail
 clear to;refine(uj.o w2 JP.o (JX.o.up up_link cV.o)).mono ?_;rintro e w3 ⟨rfl,bH⟩;have dX:=aa (ae cV.o bH);have SB:=aa (JP.o.up bH);clear bH;cases hg:iY s wk with
 | true=>
  have df:am (ce0=0):=aa (by rw[HV.o,hg];rfl);clear hg
  go_wp2_with fail
  go_ret2
  exact⟨⟨_,by rw[df.o];rfl,fun _=>⟨B,rfl,SB.o⟩,fun h=>absurd df.o h⟩,dX.o⟩
 | false=>
  have df:am (ce0=18):=aa (by rw[HV.o,hg];rfl);clear hg
  go_wp2_with fail
  go_ret2
  exact⟨⟨_,by rw[df.o];rfl,fun h=>by have:=df.o;omega,fun _=>rfl⟩,dX.o⟩
theorem Ai(s:Sys) (hE:eS s<=256) (vc vs vt ve vw:Value) (c:Ct) (pv:Option Addr) (cv:Nat) (pl:Option Addr) (cl:Nat) (pp:Option Addr) (cp:Nat) (w:World) (hs:IsSys w s vc vs vt ve) (hN:movesN s.prob.a.states<1099511627776) (hw:bJ w vw c.walk) :
  Calls Tryz.prog 24 #[.agg (cj s.prob vc vs s.n vt ve),.agg #[.int .i64 c.kind,vw,.slice pv c.nv cv,.slice pl c.nl cl,.slice pp c.np cp]] w fun r w'=>r=.returned (.int .i64 (certE s c))/\Below w.heap.size w w':=by
 have HS:=aa hs;obtain⟨⟨pc,cc,rfl⟩,⟨ps,cs,rfl⟩,⟨pt,ct,rfl⟩,⟨pe,ce,rfl⟩⟩:=bM hs;obtain⟨pw,cw,rfl,lw1,lw2,_⟩:=hw.at;have HC:=aa (fun W (hb:Below w.heap.size w W)=>yt s hE _ _ _ _ _ c pv cv pl cl pp cp W (HS.o.up hb) hN (hw.up up_link hb));clear hs hw
 go_enter Tryz.func24,Tryz.ntmps24
 go_wp2_with fail
 refine aQ (fun W=>Below w.heap.size w W) (by go_grown) (fun W0 aJ=>?_);refine(HC.o W0 aJ).mono ?_;rintro e w1 ⟨⟨v,rfl,_,_⟩,aM⟩;have HB:=aa (ae aJ aM);clear aJ aM HC
 go_wp2_with fail
 go_ret
 exact⟨rfl,HB.o⟩
structure TwoBox (w:World) (n:Nat) (VS:List Value) (CA CZ CB:Array Value) (t:TypeId) (D:Nat->Bool) (x:Nat->Value) (W:World):Prop where
 below:Below w.heap.size w W
 val:∀ i,i<n->D i=true->x i=VS.getD i undef
 a:D n=true->∃ g,x n=.pointer (some ⟨g,0,none⟩)/\w.heap.size<=g/\W.heap[g]?=some (.cells (if D (n+2) then CA else CZ) t)
 b:D (n+1)=true->∃ g,x (n+1)=.pointer (some ⟨g,0,none⟩)/\w.heap.size<=g/\W.heap[g]?=some (.cells (if D (n+3) then CB else CZ) t)
 ne:D n=true->D (n+1)=true->x n≠x (n+1)
 oa:D (n+2)=true->D n=true
 ob:D (n+3)=true->D (n+1)=true
section
variable {w W : World} {n : Nat} {VS : List Value} {CA CZ CB : Array Value} {t : TypeId} {D : Nat → Bool} {x : Nat → Value}
theorem TwoBox.start(hb:Below w.heap.size w W):TwoBox w n VS CA CZ CB t (fun _=>false) x W:=by
 refine⟨hb,?_,?_,?_,?_,?_,?_⟩<;>intros<;>contradiction
theorem TwoBox.set(h:TwoBox w n VS CA CZ CB t D x W) (i:Nat) (hi:i<n) {v:Value} (_:D i=false) (hv:v=VS.getD i undef):TwoBox w n VS CA CZ CB t (br D i) (bQ x i v) W:=by
 have k:∀ j,n<=j->br D i j=D j:=fun j hj=>by simp[br,show j≠i by omega]
 have l:∀ j,n<=j->bQ x i v j=x j:=fun j hj=>eB _ _ (by omega)
 refine⟨h.below,fun j hj hd=>?_,?_,?_,?_,?_,?_⟩
 ·by_cases e:j=i
  ·subst e;rw[dC,hv]
  ·rw[eB _ _ e];exact h.val j hj (by simpa[br,e] using hd)
 ·rw[k n (by omega),k (n+2) (by omega),l n (by omega)];exact h.a
 ·rw[k (n+1) (by omega),k (n+3) (by omega),l (n+1) (by omega)];exact h.b
 ·rw[k n (by omega),k (n+1) (by omega),l n (by omega),l (n+1) (by omega)];exact h.ne
 ·rw[k n (by omega),k (n+2) (by omega)];exact h.oa
 ·rw[k (n+1) (by omega),k (n+3) (by omega)];exact h.ob
theorem TwoBox.alloc_a(h:TwoBox w n VS CA CZ CB t D x W) (hD:D n=false):TwoBox w n VS CA CZ CB t (br D n) (bQ x n (.pointer (some ⟨W.heap.size,0,none⟩))) (W.alloc (.cells CZ t)):=by
 have hz:=h.below.size;have h2:D (n+2)=false:=by cases e:D (n+2) with|false=>rfl|true=>rw[h.oa e]at hD;cases hD
 have k:∀ j,j≠n->br D n j=D j:=fun j hj=>by simp[br,hj]
 have l:∀ j,j≠n->bQ x n (.pointer (some ⟨W.heap.size,0,none⟩)) j=x j:=fun j hj=>eB _ _ hj
 refine⟨h.below.alloc hz _,fun j hj hd=>?_,fun _=>⟨W.heap.size,dC _ _ _,hz,?_⟩,?_,fun _ hd=>?_,?_,?_⟩
 ·rw[l j (by omega)];exact h.val j hj (by rwa [k j (by omega)]at hd)
 ·rw[k (n+2) (by omega),h2];exact aq _ _
 ·rw[k (n+1) (by omega),k (n+3) (by omega),l (n+1) (by omega)];intro hd;obtain⟨g,g1,g2,g3⟩:=h.b hd;exact⟨g,g1,g2,az _ g3⟩
 ·rw[k (n+1) (by omega)]at hd;obtain⟨g,g1,g2,g3⟩:=h.b hd;rw[dC,l (n+1) (by omega),g1];have:=aC g3;intro e;injection e with e;injection e with e;injection e with e;omega
 ·rw[k (n+2) (by omega),h2];intro e;cases e
 ·rw[k (n+1) (by omega),k (n+3) (by omega)];exact h.ob
theorem TwoBox.alloc_b(h:TwoBox w n VS CA CZ CB t D x W) (hD:D (n+1)=false):TwoBox w n VS CA CZ CB t (br D (n+1)) (bQ x (n+1) (.pointer (some ⟨W.heap.size,0,none⟩))) (W.alloc (.cells CZ t)):=by
 have hz:=h.below.size;have h2:D (n+3)=false:=by cases e:D (n+3) with|false=>rfl|true=>rw[h.ob e]at hD;cases hD
 have k:∀ j,j≠n+1->br D (n+1) j=D j:=fun j hj=>by simp[br,hj]
 have l:∀ j,j≠n+1->bQ x (n+1) (.pointer (some ⟨W.heap.size,0,none⟩)) j=x j:=fun j hj=>eB _ _ hj
 refine⟨h.below.alloc hz _,fun j hj hd=>?_,?_,fun _=>⟨W.heap.size,dC _ _ _,hz,?_⟩,fun hd _=>?_,?_,?_⟩
 ·rw[l j (by omega)];exact h.val j hj (by rwa [k j (by omega)]at hd)
 ·rw[k n (by omega),k (n+2) (by omega),l n (by omega)];intro hd;obtain⟨g,g1,g2,g3⟩:=h.a hd;exact⟨g,g1,g2,az _ g3⟩
 ·rw[k (n+3) (by omega),h2];exact aq _ _
 ·rw[k n (by omega)]at hd;obtain⟨g,g1,g2,g3⟩:=h.a hd;rw[dC,l n (by omega),g1];have:=aC g3;intro e;injection e with e;injection e with e;injection e with e;omega
 ·rw[k n (by omega),k (n+2) (by omega)];exact h.oa
 ·rw[k (n+3) (by omega),h2];intro e;cases e
theorem TwoBox.store_a(h:TwoBox w n VS CA CZ CB t D x W) (ha:D n=true) (_:D (n+2)=false) {g:Nat} (hg:x n=.pointer (some ⟨g,0,none⟩)):TwoBox w n VS CA CZ CB t (br D (n+2)) x (W.setRow g CA):=by
 have k:∀ j,j≠n+2->br D (n+2) j=D j:=fun j hj=>by simp[br,hj]
 obtain⟨g',g1,g2,g3⟩:=h.a ha;obtain rfl:g'=g:=by rw[hg]at g1;injection g1 with e;injection e with e;injection e with e;exact e.symm
 refine⟨sD g2 h.below,fun j hj hd=>h.val j hj (by rwa [k j (by omega)]at hd),fun _=>⟨g',g1,g2,?_⟩,?_,?_,?_,?_⟩
 ·rw[show br D (n+2) (n+2)=true by simp[br]];exact rk _ _ _ _ _ g3
 ·rw[k (n+1) (by omega),k (n+3) (by omega)];intro hd;obtain⟨g4,q1,q2,q3⟩:=h.b hd;have bP:g4≠g':=fun e=>h.ne ha hd (by rw[g1,q1,e])
  exact⟨g4,q1,q2,by rw[setRow_other _ _ _ _ bP];exact q3⟩
 ·rw[k n (by omega),k (n+1) (by omega)];exact h.ne
 ·rw[k n (by omega)];exact fun _=>ha
 ·rw[k (n+1) (by omega),k (n+3) (by omega)];exact h.ob
theorem TwoBox.store_b(h:TwoBox w n VS CA CZ CB t D x W) (hb:D (n+1)=true) (_:D (n+3)=false) {g:Nat} (hg:x (n+1)=.pointer (some ⟨g,0,none⟩)):TwoBox w n VS CA CZ CB t (br D (n+3)) x (W.setRow g CB):=by
 have k:∀ j,j≠n+3->br D (n+3) j=D j:=fun j hj=>by simp[br,hj]
 obtain⟨g',g1,g2,g3⟩:=h.b hb;obtain rfl:g'=g:=by rw[hg]at g1;injection g1 with e;injection e with e;injection e with e;exact e.symm
 refine⟨sD g2 h.below,fun j hj hd=>h.val j hj (by rwa [k j (by omega)]at hd),?_,fun _=>⟨g',g1,g2,?_⟩,?_,?_,?_⟩
 ·rw[k n (by omega),k (n+2) (by omega)];intro hd;obtain⟨g4,q1,q2,q3⟩:=h.a hd;have bP:g4≠g':=fun e=>h.ne hd hb (by rw[g1,q1,e])
  exact⟨g4,q1,q2,by rw[setRow_other _ _ _ _ bP];exact q3⟩
 ·rw[show br D (n+3) (n+3)=true by simp[br]];exact rk _ _ _ _ _ g3
 ·rw[k n (by omega),k (n+1) (by omega)];exact h.ne
 ·rw[k n (by omega),k (n+2) (by omega)];exact h.oa
 ·rw[k (n+1) (by omega)];exact fun _=>hb
end
theorem Vm{a b:Nat} (ha:a<1024) (hb:b<1024) (p:Nat):bits .or .i64 (a:Int) (b:Int)=((a ||| b:Nat):Int)/\hasB ((a ||| b:Nat):Int) p=(hasB (a:Int) p || hasB (b:Int) p):=by
 refine⟨vV _ _ (by omega) (by omega),?_⟩;rw[nM _ (by omega),nM _ (by omega),nM _ (by omega),Int.toNat_natCast,Int.toNat_natCast,Int.toNat_natCast,Nat.testBit_or]
theorem K6{s:Sys} (hs:SysOk s) {e:Nat} (he:e<eS s):∃ a:Nat,fltS s e=a/\a<1024:=by
 have hn:=hs.n;have ol:=hs.flt e he;refine⟨(fltS s e).toNat,by omega,?_⟩;have h3:((2:Int) ^ nS s)=(((2:Nat) ^ nS s:Nat):Int):=by simp
 have h2:=ol.2;rw[h3]at h2;have h4:(2:Nat) ^ nS s<=2 ^ 5:=Nat.pow_le_pow_right (by omega) hn.2.1;omega
theorem Kz(s:Sys) (hs:SysOk s) (B e f:Nat) (he:e<eS s) (hf:f<eS s) (w:World) (fW:ScAt w B s) :
  Calls Tryz.prog 97 #[.pointer (some ⟨B,0,none⟩),.int .i64 (e:Nat),.int .i64 (f:Nat)] w fun r w'=>r=.returned (.int .i64 (maskN (fun p=>linkB s p e f) (nS s):Nat))/\Below w.heap.size w w':=by
 obtain⟨qc,qs,qt,qe,qv,ql,q1,q2,_,_⟩:=fW.ex;obtain⟨b,o,_,ce,rfl,rfl,pw,nw,cw,pv,cv,c1,c2,c3,mi,fQ,gR,b2,o2,pr,cr,rfl,c4,cA⟩:=iD hs q2.ex he;obtain⟨b',o',_,ce',e0,rfl,pw',nw',cw',pv',cv',d1,d2,d3,NK,oR,tk,b3,o3,pr',cr',rfl,d4,mF⟩:=iD hs q2.ex hf;injection e0 with e1 e2 e3
 injection e1 with e1
 injection e1 with e1 e4
 subst e1 e4 e3;clear e2;have hn:=hs.n;obtain⟨rr,Dv⟩:∃ rr:Nat,s.prob.rounds=rr:=⟨s.prob.rounds.toNat,by have:=hs.rounds.1;omega⟩;have FJ:s.prob.rounds.toNat=rr:=by omega
 have qz:rr<=6:=by have:=hs.rounds;omega
 rw[FJ]at mi NK c3 c4 d3 d4;have mi:=mi.symm;have NK:=NK.symm;subst mi;subst NK;have T6:am (w.cell? ⟨B,6,none⟩=some (.int .i64 (rr:Nat))):=aa ((ab q1 6).trans (by rw[<-Dv];rfl));have T7:am (w.cell? ⟨B,7,none⟩=some (.int .i64 (nS s:Nat))):=aa ((ab q1 7).trans (by rw[<-hn.2.2.1];rfl));have T9:am (w.cell? ⟨B,9,none⟩=some (.slice (some ⟨b,o,none⟩) (eS s) ce)):=aa ((ab q1 9).trans rfl);have C1:=aa c1;have C2:=aa c2;have C3:=aa c3;have C4:=aa c4;have D1:=aa d1;have D2:=aa d2;have D3:=aa d3;have D4:=aa d4;obtain⟨fa,C5,hfa2⟩:=K6 hs he;obtain⟨fb,WI,hfb2⟩:=K6 hs hf;have HK:am (∀ p,linkB s p e f=(!(hasB (fa:Int) p || hasB (fb:Int) p)&&decide (finS s e p=finS s f p))):=aa (fun p=>by unfold linkB;rw[C5,WI,Bool.not_or]);obtain⟨pr2,cr2,e4,erow⟩:=dY cA;injection e4 with e41 e42 e43
 subst e41 e43;obtain⟨pr3,cr3,e5,erow'⟩:=dY mF;injection e5 with e51 e52 e53
 subst e51 e53;clear e42 e52
 have R1:am (∀ p,p<nS s->∃ b o,pr=some ⟨b,o,none⟩/\w.cell? ⟨b,o+p,none⟩=some (.int .i64 (finS s e p))):=aa (fun p hp=>by
  obtain⟨b,o,e1,h1⟩:=erow p (by simpa using hp);rw[nX hp]at h1
  exact⟨b,o,e1,h1⟩)
 have R2:am (∀ p,p<nS s->∃ b o,pr'=some ⟨b,o,none⟩/\w.cell? ⟨b,o+p,none⟩=some (.int .i64 (finS s f p))):=aa (fun p hp=>by
  obtain⟨b,o,e1,h1⟩:=erow' p (by simpa using hp);rw[nX hp]at h1
  exact⟨b,o,e1,h1⟩)
 rw[C5]at fQ gR;rw[WI]at oR tk;have Lx:=aa fQ;have HF0:=aa gR;have oA:=aa oR;have HG0:=aa tk;have HM:=aa (gX (fun p=>linkB s p e f));have Ge:=aa (fun k=>@xW (fun p=>linkB s p e f) k);have vG:=aa (fun k=>@wc (fun p=>linkB s p e f) k);have ju:nS s<=5:=hn.2.1;generalize hm:eS s=m at *;generalize fA:nS s=n at *;clear q1 q2 c1 c2 c3 c4 d1 d2 d3 d4 cA mF fQ gR oR tk Dv FJ C5 WI fW hn hm fA hs erow erow'
 go_enter Tryz.func97,Tryz.ntmps97
 go_wp2_with fail
 obtain⟨VS,xx⟩:∃ VS:List Value,VS=[.pointer (some ⟨B,0,none⟩),.pointer (some ⟨B,0,none⟩),.pointer (some ⟨B,0,none⟩),.pointer (some ⟨B,9,none⟩),.slice (some ⟨b,o,none⟩) m ce,.int .i64 (e:Nat),.pointer (some ⟨b,o+e * 3,none⟩),.agg #[.int .i64 (cJ s e).c,.slice pw rr cw,.slice (some ⟨b2,o2,none⟩) (rr+1) cv],.pointer (some ⟨B,0,none⟩),.pointer (some ⟨B,0,none⟩),.pointer (some ⟨B,0,none⟩),.pointer (some ⟨B,9,none⟩),.slice (some ⟨b,o,none⟩) m ce,.int .i64 (f:Nat),.pointer (some ⟨b,o+f * 3,none⟩),.agg #[.int .i64 (cJ s f).c,.slice pw' rr cw',.slice (some ⟨b3,o3,none⟩) (rr+1) cv']]:=⟨_,rfl⟩;have hS:List.Nodup [14,15,16,17,18,19,20,21,22,23,24,25,26,27,28,29,8,9]:=by decide
 refine lH 20 [14,15,16,17,18,19,20,21,22,23,24,25,26,27,28,29,8,9] (TwoBox w 16 VS #[.int .i64 (cJ s e).c,.slice pw rr cw,.slice (some ⟨b2,o2,none⟩) (rr+1) cv] #[.int .i64 0,.slice none 0 0,.slice none 0 0] #[.int .i64 (cJ s f).c,.slice pw' rr cw',.slice (some ⟨b3,o3,none⟩) (rr+1) cv'] 89) (by kernel_rfl) rfl hS (by kernel_rfl) (fun x=>TwoBox.start (by go_grown)) ?step ?free ?last
 case step=>
  intro x W D i o' s' F ho qI hD ar hc hF;have hi:i<18:=(List.getElem?_eq_some_iff.1 qI).1;rcases (show i=0\/i=1\/i=2\/i=3\/i=4\/i=5\/i=6\/i=7\/i=8\/i=9\/i=10\/i=11\/i=12\/i=13\/i=14\/i=15\/i=16\/i=17 by omega) with rfl|rfl|rfl|rfl|rfl|rfl|rfl|rfl|rfl|rfl|rfl|rfl|rfl|rfl|rfl|rfl|rfl|rfl
  all_goals (obtain rfl:=dp ho.symm;obtain rfl:=dp qI.symm;clear hi ho qI;subst xx)
  ·obtain⟨e0,f0⟩:=cW hF 0 (.pointer (some ⟨B,0,none⟩)) (by decide) rfl;clear hF ar
   go_wp2_with fail
   exact cI.mk (.pointer (some ⟨B,0,none⟩)) (hc.set 0 (by omega) hD rfl) rfl
  ·obtain⟨e0,f0⟩:=aT hF 0 14 (.pointer (some ⟨B,0,none⟩)) hS rfl (by kernel_rfl) (hc.val 0 (by omega) (ar ⟨0,.data⟩ (by simp) rfl));clear hF ar
   go_wp2_with fail
   exact cI.mk (.pointer (some ⟨B,0,none⟩)) (hc.set 1 (by omega) hD rfl) rfl
  ·obtain⟨e1,f1⟩:=aT hF 1 15 (.pointer (some ⟨B,0,none⟩)) hS rfl (by kernel_rfl) (hc.val 1 (by omega) (ar ⟨1,.data⟩ (by simp) rfl));clear hF ar
   go_wp2_with fail
   exact cI.mk (.pointer (some ⟨B,0,none⟩)) (hc.set 2 (by omega) hD rfl) rfl
  ·obtain⟨e2,f2⟩:=aT hF 2 16 (.pointer (some ⟨B,0,none⟩)) hS rfl (by kernel_rfl) (hc.val 2 (by omega) (ar ⟨2,.data⟩ (by simp) rfl));clear hF ar
   go_wp2_with fail
   exact cI.mk (.pointer (some ⟨B,9,none⟩)) (hc.set 3 (by omega) hD rfl) rfl
  ·obtain⟨e3,f3⟩:=aT hF 3 17 (.pointer (some ⟨B,9,none⟩)) hS rfl (by kernel_rfl) (hc.val 3 (by omega) (ar ⟨3,.data⟩ (by simp) rfl));have t9:=ak hc.below T9.o;clear hF ar
   go_wp2_with fail
   exact cI.mk (.slice (some ⟨b,o,none⟩) m ce) (hc.set 4 (by omega) hD rfl) rfl
  ·obtain⟨e0,f0⟩:=cW hF 1 (.int .i64 (e:Nat)) (by decide) rfl;clear hF ar
   go_wp2_with fail
   exact cI.mk (.int .i64 (e:Nat)) (hc.set 5 (by omega) hD rfl) rfl
  ·obtain⟨e4,f4⟩:=aT hF 4 18 (.slice (some ⟨b,o,none⟩) m ce) hS rfl (by kernel_rfl) (hc.val 4 (by omega) (ar ⟨4,.data⟩ (by simp) rfl));obtain⟨e5,f5⟩:=aT hF 5 19 (.int .i64 (e:Nat)) hS rfl (by kernel_rfl) (hc.val 5 (by omega) (ar ⟨5,.data⟩ (by simp) rfl));clear hF ar
   go_wp2_with fail
   exact cI.mk (.pointer (some ⟨b,o+e * 3,none⟩)) (hc.set 6 (by omega) hD rfl) rfl
  ·obtain⟨e6,f6⟩:=aT hF 6 20 (.pointer (some ⟨b,o+e * 3,none⟩)) hS rfl (by kernel_rfl) (hc.val 6 (by omega) (ar ⟨6,.data⟩ (by simp) rfl));have u1:=ak hc.below C1.o;have u2:=ak hc.below C2.o;have u3:=ak hc.below C3.o;clear hF ar
   go_wp2_with fail
   exact cI.mk (.agg #[.int .i64 (cJ s e).c,.slice pw rr cw,.slice (some ⟨b2,o2,none⟩) (rr+1) cv]) (hc.set 7 (by omega) hD rfl) rfl
  ·obtain⟨e0,f0⟩:=cW hF 0 (.pointer (some ⟨B,0,none⟩)) (by decide) rfl;clear hF ar
   go_wp2_with fail
   exact cI.mk (.pointer (some ⟨B,0,none⟩)) (hc.set 8 (by omega) hD rfl) rfl
  ·obtain⟨e8,f8⟩:=aT hF 8 22 (.pointer (some ⟨B,0,none⟩)) hS rfl (by kernel_rfl) (hc.val 8 (by omega) (ar ⟨8,.data⟩ (by simp) rfl));clear hF ar
   go_wp2_with fail
   exact cI.mk (.pointer (some ⟨B,0,none⟩)) (hc.set 9 (by omega) hD rfl) rfl
  ·obtain⟨e9,f9⟩:=aT hF 9 23 (.pointer (some ⟨B,0,none⟩)) hS rfl (by kernel_rfl) (hc.val 9 (by omega) (ar ⟨9,.data⟩ (by simp) rfl));clear hF ar
   go_wp2_with fail
   exact cI.mk (.pointer (some ⟨B,0,none⟩)) (hc.set 10 (by omega) hD rfl) rfl
  ·obtain⟨e10,f10⟩:=aT hF 10 24 (.pointer (some ⟨B,0,none⟩)) hS rfl (by kernel_rfl) (hc.val 10 (by omega) (ar ⟨10,.data⟩ (by simp) rfl));clear hF ar
   go_wp2_with fail
   exact cI.mk (.pointer (some ⟨B,9,none⟩)) (hc.set 11 (by omega) hD rfl) rfl
  ·obtain⟨e11,f11⟩:=aT hF 11 25 (.pointer (some ⟨B,9,none⟩)) hS rfl (by kernel_rfl) (hc.val 11 (by omega) (ar ⟨11,.data⟩ (by simp) rfl));have t9:=ak hc.below T9.o;clear hF ar
   go_wp2_with fail
   exact cI.mk (.slice (some ⟨b,o,none⟩) m ce) (hc.set 12 (by omega) hD rfl) rfl
  ·obtain⟨e0,f0⟩:=cW hF 2 (.int .i64 (f:Nat)) (by decide) rfl;clear hF ar
   go_wp2_with fail
   exact cI.mk (.int .i64 (f:Nat)) (hc.set 13 (by omega) hD rfl) rfl
  ·obtain⟨e12,f12⟩:=aT hF 12 26 (.slice (some ⟨b,o,none⟩) m ce) hS rfl (by kernel_rfl) (hc.val 12 (by omega) (ar ⟨12,.data⟩ (by simp) rfl));obtain⟨e13,f13⟩:=aT hF 13 27 (.int .i64 (f:Nat)) hS rfl (by kernel_rfl) (hc.val 13 (by omega) (ar ⟨13,.data⟩ (by simp) rfl));clear hF ar
   go_wp2_with fail
   exact cI.mk (.pointer (some ⟨b,o+f * 3,none⟩)) (hc.set 14 (by omega) hD rfl) rfl
  ·obtain⟨e14,f14⟩:=aT hF 14 28 (.pointer (some ⟨b,o+f * 3,none⟩)) hS rfl (by kernel_rfl) (hc.val 14 (by omega) (ar ⟨14,.data⟩ (by simp) rfl));have u1:=ak hc.below D1.o;have u2:=ak hc.below D2.o;have u3:=ak hc.below D3.o;clear hF ar
   go_wp2_with fail
   exact cI.mk (.agg #[.int .i64 (cJ s f).c,.slice pw' rr cw',.slice (some ⟨b3,o3,none⟩) (rr+1) cv']) (hc.set 15 (by omega) hD rfl) rfl
  ·clear hF ar
   go_wp2_with fail
   exact cI.mk (.pointer (some ⟨W.heap.size,0,none⟩)) (hc.alloc_a hD) rfl
  ·clear hF ar
   go_wp2_with fail
   exact cI.mk (.pointer (some ⟨W.heap.size,0,none⟩)) (hc.alloc_b hD) rfl
 case free=>
  intro x W D i o' F ho h6 h8 hD ar hc hF;rcases (show i=18\/i=19 by simp at h6;omega) with rfl|rfl
  ·obtain rfl:=dp ho.symm;have g7:=hc.val 7 (by omega) (ar ⟨7,.data⟩ (by simp) rfl);have gA:=ar ⟨16,.data⟩ (by simp) rfl;obtain⟨g,g1,g2,g3⟩:=hc.a gA;rw[hD]at g3;obtain⟨e7,_⟩:=aT hF 7 21 (.agg #[.int .i64 (cJ s e).c,.slice pw rr cw,.slice (some ⟨b2,o2,none⟩) (rr+1) cv]) hS rfl (by kernel_rfl) (by rw[g7,xx];rfl);obtain⟨e8,_⟩:=aT hF 16 8 (.pointer (some ⟨g,0,none⟩)) hS rfl (by kernel_rfl) g1;refine wpList_store_row rfl 89 (.tmp 8) (.tmp 21) rfl g #[.int .i64 (cJ s e).c,.slice pw rr cw,.slice (some ⟨b2,o2,none⟩) (rr+1) cv] e8 e7 89 _ g3 (by kernel_rfl) (by kernel_rfl) (by simp[Value.oneCell']) ?_;exact⟨rfl,hc.store_a gA hD g1⟩
  ·obtain rfl:=dp ho.symm;have g7:=hc.val 15 (by omega) (ar ⟨15,.data⟩ (by simp) rfl);have gA:=ar ⟨17,.data⟩ (by simp) rfl;obtain⟨g,g1,g2,g3⟩:=hc.b gA;rw[hD]at g3;obtain⟨e7,_⟩:=aT hF 15 29 (.agg #[.int .i64 (cJ s f).c,.slice pw' rr cw',.slice (some ⟨b3,o3,none⟩) (rr+1) cv']) hS rfl (by kernel_rfl) (by rw[g7,xx];rfl);obtain⟨e8,_⟩:=aT hF 17 9 (.pointer (some ⟨g,0,none⟩)) hS rfl (by kernel_rfl) g1;refine wpList_store_row rfl 89 (.tmp 9) (.tmp 29) rfl g #[.int .i64 (cJ s f).c,.slice pw' rr cw',.slice (some ⟨b3,o3,none⟩) (rr+1) cv'] e8 e7 89 _ g3 (by kernel_rfl) (by kernel_rfl) (by simp[Value.oneCell']) ?_;exact⟨rfl,hc.store_b gA hD g1⟩
 case last=>
  intro x W1 D F aS hc hF;obtain⟨g1,a1,a2,a3⟩:=hc.a (aS 16 (by omega));obtain⟨g2,z1,z2,z3⟩:=hc.b (aS 17 (by omega));rw[aS 18 (by omega)]at a3;rw[aS 19 (by omega)]at z3;have bL:=aa hc.below;have oA:=aa a3;have rX:=aa z3;clear hc aS xx hS a2 a3 z2 z3;simp only[bD,cX,List.setIfInBounds_toArray,List.set_cons_succ,List.set_cons_zero,Nat.reduceAdd]at hF;simp only[a1,z1]at hF;generalize x 0=s0,x 1=s1,x 2=s2,x 3=s3,x 4=s4,x 5=s5,x 6=s6,x 7=s7,x 8=s8,x 9=s9,x 10=s10,x 11=s11,x 12=s12,x 13=s13,x 14=s14,x 15=s15 at hF;subst hF;clear a1 z1;have t7:=ak bL.o T7.o
  go_wp2_with fail
  clear t7
  go_loopw [7,36] (fun v i wr=>∃ k:Nat,k<=n/\i=.int .i64 k/\v=.int .i64 (maskN (fun p=>linkB s p e f) k:Nat)/\Below w.heap.size w wr/\wr.heap[g1]?=some (.cells #[.int .i64 (cJ s e).c,.slice pw rr cw,.slice (some ⟨b2,o2,none⟩) (rr+1) cv] 89)/\wr.heap[g2]?=some (.cells #[.int .i64 (cJ s f).c,.slice pw' rr cw',.slice (some ⟨b3,o3,none⟩) (rr+1) cv'] 89)) (fun _ i _=>n - (intOf i).toNat)
  ·exact⟨0,by omega,rfl,rfl,bL.o,oA.o,rX.o⟩
  ·
   clear bL oA rX;obtain⟨k,hk,rfl,rfl,aB,ha,hc⟩:=hrel;have aU:=aa aB;have HA:=aa ha;have HC:=aa hc;by_cases aD:k<n
   ·have gc:maskN (fun p=>linkB s p e f) k<1024:=by
     have h1:=HM.o k;have h2:(2:Nat) ^ k<=2 ^ 5:=Nat.pow_le_pow_right (by omega) (by omega);omega
    obtain⟨b6,o6,rfl,c6⟩:=R1.o k aD;obtain⟨b7,o7,rfl,c7⟩:=R2.o k aD;have HL:=aa (HK.o k);obtain⟨xe,hxe⟩:∃ xe,finS s e k=xe:=⟨_,rfl⟩;obtain⟨xf,hxf⟩:∃ xf,finS s f k=xf:=⟨_,rfl⟩;rw[hxe]at c6 HL;rw[hxf]at c7 HL;have tA:=ab ha;have tB:=ab hc;have t6:=ak aB T6.o;have y4:∀ z:ExtW wr,z.val.cell? ⟨b2,o2+rr,none⟩=_:=fun z=>ak (ae aU.o z.ext) C4.o
    have y5:∀ z:ExtW wr,z.val.cell? ⟨b3,o3+rr,none⟩=_:=fun z=>ak (ae aU.o z.ext) D4.o
    have y6:∀ z:ExtW wr,z.val.cell? ⟨b6,o6+k,none⟩=_:=fun z=>ak (ae aU.o z.ext) c6
    have y7:∀ z:ExtW wr,z.val.cell? ⟨b7,o7+k,none⟩=_:=fun z=>ak (ae aU.o z.ext) c7
    have yA:∀ z:ExtW wr,∀ j,z.val.cell? ⟨g1,j,none⟩=_:=fun z=>ab (af z.ext HA.o)
    have yB:∀ z:ExtW wr,∀ j,z.val.cell? ⟨g2,j,none⟩=_:=fun z=>ab (af z.ext HC.o)
    clear aB ha hc c6 c7 hxe hxf;generalize Qe:maskN (fun p=>linkB s p e f) k=mk at gc ⊢;by_cases h0:rr=0
    ·have e1:=HF0.o h0;have e2:=HG0.o h0;have e1:fa=0:=by omega
     have e2:fb=0:=by omega
     subst h0 e1 e2;have HL:am (linkB s k e f=(!hasB (0:Int) k&&decide (xe=xf))):=aa (by rw[HL.o];simp);simp only[Nat.add_zero]at y4 y5;clear Lx oA HF0 HG0;have fK:(bits .and .i64 0 1 == 0)=true:=by decide
     have hh:hasB (0:Int) k=false:=by unfold hasB;simp
     have Dr:am (linkB s k e f=decide (xe=xf)):=aa (by rw[HL.o,hh];rfl);clear hh;by_cases hx:xe=xf
     ·subst hx;have HB:am (linkB s k e f=true):=aa (by rw[Dr.o];simp);clear Dr
      go_wp2_with fail
      refine aE (by kernel_rfl) (by kernel_rfl) ?_
      repeat (go_big_quiet_step (fail))
      refine wpQuiet_nil ?_;rintro _ ⟨xq,rfl⟩;have bV:=aa xq.ext;clear t6 yA yB y4 y5 y6 y7
      go_wp2_with fail
      go_roundw
      ·exact⟨k+1,by omega,by go_num,rq (by rw[<-Ge.o k HB.o,Qe];exact uz (by omega) (by omega)),ae aU.o bV.o,af bV.o HA.o,af bV.o HC.o⟩
      ·simp[intOf];omega
     ·have dA:(xe == xf)=false:=by simpa using hx
      have dW:decide (xe=xf)=false:=decide_eq_false hx;have HB:am (linkB s k e f=false):=aa (by rw[Dr.o,dW]);clear hx
      go_wp2_with fail
      refine aE (by kernel_rfl) (by kernel_rfl) ?_
      repeat (go_big_quiet_step (fail))
      refine wpQuiet_nil ?_;rintro _ ⟨xq,rfl⟩;have bV:=aa xq.ext;clear t6 yA yB y4 y5 y6 y7
      go_wp2_with fail
      go_roundw
      ·exact⟨k+1,by omega,by go_num,by rw[<-vG.o k HB.o,Qe],ae aU.o bV.o,af bV.o HA.o,af bV.o HC.o⟩
      ·simp[intOf];omega
    ·obtain⟨q,rfl⟩:∃ q,rr=q+1:=⟨rr - 1,by omega⟩;obtain⟨b8,o8,rfl,c8⟩:=Lx.o (by omega);obtain⟨b9,o9,rfl,c9⟩:=oA.o (by omega);rw[Nat.add_sub_cancel]at c8 c9;have t8:∀ z:ExtW wr,z.val.cell? ⟨b8,o8+q * 7+6,none⟩=_:=fun z=>ak (ae aU.o z.ext) c8
     have t9:∀ z:ExtW wr,z.val.cell? ⟨b9,o9+q * 7+6,none⟩=_:=fun z=>ak (ae aU.o z.ext) c9
     obtain⟨hor,AP⟩:=Vm hfa2 hfb2 k;rw[<-AP]at HL;clear c8 c9 AP
     go_wp2_with fail
     refine aE (by kernel_rfl) (by kernel_rfl) ?_
     repeat (go_big_quiet_step (fail))
     refine wpQuiet_nil ?_;rintro _ ⟨x9,rfl⟩;have t6:=ak x9.ext t6;have y4:=fun z:ExtW x9.val=>y4 ⟨z.val,ae x9.ext z.ext⟩
     have y5:=fun z:ExtW x9.val=>y5 ⟨z.val,ae x9.ext z.ext⟩
     have y6:=fun z:ExtW x9.val=>y6 ⟨z.val,ae x9.ext z.ext⟩
     have y7:=fun z:ExtW x9.val=>y7 ⟨z.val,ae x9.ext z.ext⟩
     have yA:=fun (z:ExtW x9.val) j=>yA ⟨z.val,ae x9.ext z.ext⟩ j
     have yB:=fun (z:ExtW x9.val) j=>yB ⟨z.val,ae x9.ext z.ext⟩ j
     dsimp only at y4 y5 y6 y7 yA yB;clear t8 t9 tA tB;have fK:=sv (((fa ||| fb:Nat):Int)) k;cases hh:hasB (((fa ||| fb:Nat):Int)) k with
     | true=>
      have HB:am (linkB s k e f=false):=aa (by rw[HL.o,hh];rfl);rw[hh]at fK;clear hh
      go_wp2_with fail
      refine aE (by kernel_rfl) (by kernel_rfl) ?_
      repeat (go_big_quiet_step (fail))
      refine wpQuiet_nil ?_;rintro _ ⟨xq,rfl⟩;have bV:=aa (ae x9.ext xq.ext);clear t6 yA yB y4 y5 y6 y7
      go_wp2_with fail
      go_roundw
      ·exact⟨k+1,by omega,by go_num,by rw[<-vG.o k HB.o,Qe],ae aU.o bV.o,af bV.o HA.o,af bV.o HC.o⟩
      ·simp[intOf];omega
     | false=>
      rw[hh]at fK;have Dr:am (linkB s k e f=decide (xe=xf)):=aa (by rw[HL.o,hh];rfl);clear hh;by_cases hx:xe=xf
      ·subst hx;have HB:am (linkB s k e f=true):=aa (by rw[Dr.o];simp);clear Dr
       go_wp2_with fail
       refine aE (by kernel_rfl) (by kernel_rfl) ?_
       repeat (go_big_quiet_step (fail))
       refine wpQuiet_nil ?_;rintro _ ⟨xq,rfl⟩;have bV:=aa (ae x9.ext xq.ext);clear t6 yA yB y4 y5 y6 y7
       go_wp2_with fail
       go_roundw
       ·exact⟨k+1,by omega,by go_num,rq (by rw[<-Ge.o k HB.o,Qe];exact uz (by omega) (by omega)),ae aU.o bV.o,af bV.o HA.o,af bV.o HC.o⟩
       ·simp[intOf];omega
      ·have dA:(xe == xf)=false:=by simpa using hx
       have dW:decide (xe=xf)=false:=decide_eq_false hx;have HB:am (linkB s k e f=false):=aa (by rw[Dr.o,dW]);clear hx
       go_wp2_with fail
       refine aE (by kernel_rfl) (by kernel_rfl) ?_
       repeat (go_big_quiet_step (fail))
       refine wpQuiet_nil ?_;rintro _ ⟨xq,rfl⟩;have bV:=aa (ae x9.ext xq.ext);clear t6 yA yB y4 y5 y6 y7
       go_wp2_with fail
       go_roundw
       ·exact⟨k+1,by omega,by go_num,by rw[<-vG.o k HB.o,Qe],ae aU.o bV.o,af bV.o HA.o,af bV.o HC.o⟩
       ·simp[intOf];omega
   ·obtain rfl:k=n:=by omega
    clear aB ha hc
    go_wp2_with fail
    go_ret
    exact⟨rfl,aU.o⟩
theorem Fi{W:World} {B:Nat} {now:List Int} {n:Nat} (hl:now.length=n) (hn:n<=65536) (h:W.heap[B]?=some (.cells (bG now) 3)) (hr:∀ x∈now,bT x):aX W (.slice (some ⟨B,0,none⟩) n n) now:=by
 subst hl;refine⟨some ⟨B,0,none⟩,now.length,rfl,⟨Nat.le_refl _,by omega,fun e=>by cases e⟩,by omega,fun i x hx=>⟨B,0,rfl,?_⟩⟩;obtain⟨hi,rfl⟩:=List.getElem?_eq_some_iff.1 hx;refine⟨?_,hr _ (List.getElem_mem hi)⟩;rw[ab h,Nat.zero_add,Nat.mul_one];simp[bG,hi]
theorem Vn{s:Sys} (hv:verifyE s=0):0<s.tab.length:=by
 have hs:=iZ hv;have h1:=lO hs (zz hv) (p:=0) hs.n.1;omega
theorem pW(s:Sys) (e:Nat) (out:List Int):∀ p,(go s e out p).length=out.length
 | 0=>rfl
 | p+1=>by
  rw[go];split
  ·exact pW s e out p
  ·rw[List.length_set];exact pW s e out p
theorem wC(s:Sys):∀ e,(fT s e).length=s.tab.length
 | 0=>by simp[fT]
 | e+1=>by rw[fT,pW,wC s e]
theorem Vo{s:Sys} (ho:oS s<=8):(∀ e,e<=eS s->∀ x∈fT s e,bT x):=by
 have hp:∀ e,e<eS s->∀ out:List Int,(∀ x∈out,bT x)->∀ p,∀ x∈go s e out p,bT x:=by
  intro e he out vu p;induction p with
  | zero=>exact vu
  | succ p ih=>
   rw[go];split
   ·exact ih
   ·intro x hx;rcases List.mem_or_eq_of_mem_set hx with h|h
    ·exact ih x h
    ·rw[h];unfold choiceS;rw[nX he];exact vf s _ ho
 intro e;induction e with
 | zero=>intro _ x hx;rw[fT]at hx;rw[List.eq_of_mem_replicate hx];exact⟨by decide,by decide⟩
 | succ e ih=>intro he;rw[fT];exact hp e (by omega) _ (ih (by omega)) _
theorem Aj{s:Sys} (h0:0<eS s) (k:Nat) (hk:k<=nW s):∃ e,e<eS s/\(partsS s).getD e 0=k:=by
 obtain⟨i,hi,e⟩:=Bd (partsS s) ((partsS s).length - 1);rw[dK]at hi;have h1:=(Cm h0).1;rw[e]at h1;by_cases h2:k=nW s
 ·exact⟨i,by omega,by rw[h1,h2]⟩
 ·obtain⟨j,hj,h3⟩:=vU (wz s (nS s - 1)) i (by rw[gJ];omega) (k:Int) (by omega) (by have h4:(ed s (nS s - 1)).getD i 0=(nW s:Int):=h1;omega);exact⟨j,by omega,h3⟩
theorem Px{s:Sys} (h0:0<eS s):(i8 s).contains (-1)=true↔-1∈choiceS s:=by
 rw[List.contains_iff_mem];unfold i8 kM choiceS;simp only[List.mem_map,List.mem_range];constructor
 ·rintro⟨k,hk,h1⟩;obtain⟨e,he,h2⟩:=Aj h0 k (by omega);exact⟨e,he,by rw[h2];exact h1⟩
 ·rintro⟨e,he,h1⟩;have h2:=qj h0 e he;have h3:=(kL s e he).1;exact⟨((partsS s).getD e 0).toNat,by omega,by rw[show ((((partsS s).getD e 0).toNat:Nat):Int)=(partsS s).getD e 0 by omega];exact h1⟩
def MN(u:Value) (ok:Bool) (e:Int):Value:=.tuple #[.agg #[u],.bool ok,.int .i64 e]
theorem rJ(tmps:Array Value) (B:Nat) (W:World) (u:Value) (ok:Bool) (e:Int) (h2:tmps[2]?.getD undef=.pointer (some ⟨B,0,none⟩)) (h3:tmps[3]?.getD undef=.bool ok) (h4:tmps[4]?.getD undef=.int .i64 e)
  (hB:W.heap[B]?=some (.cells #[u] 49)):(results Tryz.f16 tmps).run Tryz.prog W=.ok (MN u ok e) W:=by
 have t2:=ab hB 0;simp at t2;simp[results,Tryz.results16,go_sem,h2,h3,h4,t2,MN]
theorem Py(s:Sys) (hE:eS s<=256) (vc vs vt ve:Value) (w:World) (hT:io w) (hs:IsSys w s vc vs vt ve) (hN:movesN s.prob.a.states<1099511627776) :
  Calls Tryz.prog 16 #[.agg (cj s.prob vc vs s.n vt ve)] w fun r w'=>∃ u,r=.returned (MN u (ruleR s).2.1 (ruleR s).2.2)/\aX w' u (ruleR s).1/\Below w.heap.size w w':=by
 have HS:=aa hs;have HT:=aa hT;obtain⟨⟨pc,cc,rfl⟩,⟨ps,cs,rfl⟩,⟨pt,ct,rfl⟩,⟨pe,ce,rfl⟩⟩:=bM hs;clear hs hT;have HC:=aa (fun W (hb:Below w.heap.size w W)=>nV s hE _ _ _ _ W (HS.o.up hb) hN)
 have oZ:am (readyE s=0->verifyE s=0):=aa fun h=>by
  unfold readyE at h;split at h
  ·rename_i h1;exact absurd h h1
  ·omega
 have dd:am (readyE s≠0->ruleR s=([],false,readyE s)):=aa fun h=>by unfold ruleR;rw[if_pos h]
 have eH:am (readyE s=0->-1∈choiceS s->ruleR s=([],false,0)):=aa fun h h2=>by unfold ruleR;rw[if_neg (by omega),if_pos h2]
 have gk:am (readyE s=0->¬ -1∈choiceS s->ruleR s=(fT s (eS s),true,0)):=aa fun h h2=>by unfold ruleR;rw[if_neg (by omega),if_neg h2]
 generalize ruleR s=vr at dd eH gk ⊢;obtain⟨re,ka⟩:∃ re,readyE s=re:=⟨_,rfl⟩;rw[ka]at dd eH gk HC oZ;clear ka
 go_enter Tryz.func16,Tryz.ntmps16
 go_wp2_with fail
 refine aQ (fun W=>Below w.heap.size w W/\W.heap[w.heap.size+1]?=some (.cells #[.slice none 0 0] 49)/\∃ c,W.heap[w.heap.size]?=some (.cells c 35)/\c=cj s.prob (.slice pc s.prob.t.cases.length cc) (.slice ps s.prob.a.states.length cs) s.n (.slice pt s.tab.length ct) (.slice pe s.ex.length ce)) ⟨by go_grown,bz _ _ _,_,az _ (aq _ _),rfl⟩ (fun W0 bh=>?_);obtain⟨aJ,gU,_,bK,rfl⟩:=bh;refine(HC.o W0 aJ).mono ?_;rintro e w1 ⟨v,rfl,aM,h2,h3⟩;have bL:=aa (ae aJ aM);have gy:=aa (af aM gU);have dN:=aa (af aM bK);have fV:=aC gy.o;by_cases hr:re=0
 case neg=>
  have HV:=aa (dd.o hr);obtain rfl:=h2 hr;have FC:(re != 0)=true:=by simpa using hr
  have to:=ab gy.o 0;have zo:=aG gy.o 0;simp at to;clear aJ aM h2 h3 hr HC gU bK
  go_wp2_with fail
  exact bodyPost_ret (rJ _ (w.heap.size+1) _ (.slice none 0 0) false re rfl rfl rfl (aH gy.o 0 _)) rfl ⟨_,by rw[HV.o],by rw[HV.o];exact mS _,bL.o.setCell (by dsimp only;omega) _⟩
 obtain⟨B,rfl,hB,fW⟩:=h3 hr;have jA:=aa fW;have df:=aa (eH.o hr);have rM:=aa (gk.o hr);have tZ:=aa (oZ.o hr);have dI:=aa (iZ tZ.o);have HP:=aa (zz tZ.o);subst hr;clear aJ aM h2 h3 HC fW gU bK
 go_wp2_with fail
 refine(uB s dI.o HP.o hE B w1 jA.o (HT.o.up bL.o)).mono ?_;rintro e w2 ⟨u,rfl,hu,aY⟩;have HU:=aa hu;have cV:=aa (ae bL.o aY);have eO:=aa (af aY gy.o);have tV:=aa (af aY dN.o);have JP:=aa (jA.o.up aY);obtain⟨pu,cu,rfl,eu⟩:=dY hu;have EU:=aa eu;obtain⟨cn,CW⟩:∃ cn,(i8 s).length=cn:=⟨_,rfl⟩;rw[CW]at EU HU ⊢;have HCN:=aa CW;clear hu aY eu CW jA gy dN
 go_wp2_with fail
 refine(A4 _ (i8 s) (-1) w2 HU.o).mono ?_;rintro e w3 ⟨rfl,bH⟩;have dX:=aa (ae cV.o bH);have HB23:=aa bH;have lT:=aa (af bH eO.o);have F0:=aa (af bH tV.o);have SB:=aa (JP.o.up bH);have HU3:=aa (HU.o.up up_int bH);have Xl:=aa (Px HP.o);cases IS:(i8 s).contains (-1) with
 | true=>
  have HV:=aa (df.o (Xl.o.1 IS));have to:=ab lT.o 0;have zo:=aG lT.o 0;simp at to;clear IS bH
  go_wp2_with fail
  exact bodyPost_ret (rJ _ (w.heap.size+1) _ (.slice none 0 0) false 0 rfl rfl rfl (aH lT.o 0 _)) rfl ⟨_,by rw[HV.o],by rw[HV.o];exact mS _,dX.o.setCell (by dsimp only;omega) _⟩
 | false=>
  have HV:=aa (rM.o (fun h=>by have:=Xl.o.2 h;rw[IS]at this;cases this));clear IS bH JP eO tV cV HU;have tA:∀ o' j,(w3.alloc o').cell? ⟨w.heap.size,j,none⟩=_:=fun o' j=>ab (az o' F0.o) j
  have htp:=Vn tZ.o;have Qk:=dI.o.tab;have Bt:am (∀ n:Nat,fC n (fun _=>(-1:Int)) n=bG (List.replicate n (-1))):=aa fun n=>by rw[qf];simp[List.map_const']
  go_wp2_with fail
  refine(vZ (-1) s.tab.length htp Qk w3.heap.size _ (aq _ _)).mono ?_;rintro e w4 ⟨rfl,C',bR⟩;have hb34:Below w3.heap.size w3 w4:=ae (by go_grown) bR;have hRl:=aC C';rw[show (w3.alloc (.cells #[.int .i64 (-1)] 3)).heap.size=w3.heap.size+1 by simp]at C' hRl ⊢;obtain⟨R,hR⟩:∃ R,w3.heap.size+1=R:=⟨_,rfl⟩;rw[hR]at C' hRl ⊢;have Dj:w3.heap.size<R:=by omega
  have hR4':w4.heap[R]?=some (.cells (bG (fT s 0)) 3):=by rw[C'];unfold xC;rw[Bt.o];rfl
  have pk:=aa hR4';have HB34:=aa hb34;have tA4:=ab (af hb34 F0.o);clear bR hR C' hR4' tA Bt;have FO:=aa HS.o.ex;have HK:am (∀ k,k<eS s->_):=aa (fun k (hk:k<eS s)=>iD dI.o FO.o hk);obtain⟨qc,qs,qt,qe,qv,ql,q1,_,_,q2⟩:=SB.o.ex;obtain⟨pl,cl,rfl,el⟩:=dY q2;rw[dK]at el q1;have EL:=aa el;have F9:am (w3.cell? ⟨B,11,none⟩=some (.slice pl (eS s) cl)):=aa ((ab q1 11).trans rfl);have HBR3:=aa (aC q1);have qV:am (∀ k,k<eS s->0<=(partsS s).getD k 0/\((partsS s).getD k 0).toNat<(i8 s).length/\(i8 s).getD ((partsS s).getD k 0).toNat 0=(choiceS s).getD k 0):=aa fun k hk=>⟨(kL s k hk).1,by have:=qj HP.o k hk;rw[show (i8 s).length=nW s+1 by simp[i8,kM]];omega,Pw HP.o k hk⟩
  have HFN:am (∀ k p,k<eS s->p<nS s->0<=finS s k p/\finS s k p<s.tab.length):=aa fun k p hk hp=>lO dI.o hk hp
  have jd:am (∀ x∈fT s (eS s),bT x):=aa (Vo dI.o.outs.2.1 _ (Nat.le_refl _));have WH:am (∀ k,(fT s k).length=s.tab.length):=aa (wC s);have HRP:am (∀ k p,(go s k (fT s k) p).length=s.tab.length):=aa fun k p=>by rw[pW,wC]
  have Qz:=aa (fun k (hk:k<eS s) W (hb:Below w.heap.size w W)=>RU s tZ.o k hk _ _ _ _ W (HS.o.up hb) hN);have jY:s.ex.length=eS s:=rfl;rw[jY]at tA4 F0 Qz FO;obtain⟨m,hm⟩:∃ m,eS s=m:=⟨_,rfl⟩;have HM:=aa hm;have ju:=dI.o.n.2.1;have qz:=dI.o.rounds.2;obtain⟨rr,Dv⟩:∃ rr:Nat,s.prob.rounds=rr:=⟨s.prob.rounds.toNat,by have:=dI.o.rounds.1;omega⟩;have Lu:=aa Dv;have FJ:s.prob.rounds.toNat=rr:=by omega
  rw[FJ]at HK;clear FJ;rw[hm]at hE HK EL F9 qV HFN jd Qz tA4 F0;clear jY q1 q2 el hm Dv
  go_wp2_with fail
  clear tA4
  go_loopw [38] (fun i wr=>∃ k:Nat,k<=m/\i=.int .i64 k/\Below w3.heap.size w3 wr/\wr.heap[R]?=some (.cells (bG (fT s k)) 3)) (fun i _=>m - (intOf i).toNat)
  ·exact⟨0,by omega,rfl,HB34.o,pk.o⟩
  ·
   clear pk HB34;obtain⟨k,hk,rfl,aB,hR⟩:=hrel;have aU:=aa aB;have Fu:=aa hR;have eY:=aa (ae dX.o aB);have WU:=aa (af aB F0.o);have hRl2:=aC hR;by_cases aD:k<m
   ·obtain⟨b,o,_,ce',e0,rfl,pw,nw,cw,pv,cv,c1,c2,c3,-,-,-,b2,o2,pr,cr,rfl,c4,cA⟩:=HK.o k aD;injection e0 with e01 e02 e03
    subst e01;clear e02 e03;obtain⟨pr2,cr2,e4,erow⟩:=dY cA;injection e4 with e41 e42 e43
    subst e41 e43;clear e42
    have kx:am (∀ p,p<nS s->∃ b o,pr=some ⟨b,o,none⟩/\w.cell? ⟨b,o+p,none⟩=some (.int .i64 (finS s k p))):=aa (fun p hp=>by
     obtain⟨b,o,e1,h1⟩:=erow p (by simpa using hp);rw[nX hp]at h1
     exact⟨b,o,e1,h1⟩)
    have d1:=ak eY.o c1;have d2:=ak eY.o c2;have d3:=ak eY.o c3;have Xz:=aa c4;have tA:∀ o' j,(wr.alloc o').cell? ⟨w.heap.size,j,none⟩=_:=fun o' j=>ab (az o' WU.o) j
    clear aB hR c1 c2 c3 c4 cA erow
    go_wp2_with fail
    clear tA d1 d2 d3;refine aQ (fun W=>Below wr.heap.size wr W/\W.heap[wr.heap.size]?=some (.cells #[.int .i64 (cJ s k).c,.slice pw nw cw,.slice (some ⟨b2,o2,none⟩) (rr+1) cv] 89)) ⟨by go_grown,aq _ _⟩ (fun W5 hW5=>?_);obtain⟨dG,hX5⟩:=hW5;refine(Qz.o k aD W5 (ae eY.o dG)).mono ?_;rintro r w5 ⟨rfl,jL⟩;have pO:=ae dG jL;have tX:=ab (af jL hX5);have tA5:w5.cell? ⟨w.heap.size,6,none⟩=some (.int .i64 rr):=(ab (af pO WU.o) 6).trans (by rw[<-Lu.o];rfl);have tv:=ak (ae eY.o pO) Xz.o;have lC:=aa (ae aU.o pO);have xA:=aa (af pO Fu.o);obtain⟨wrA,lV⟩:∃ x,x=wr:=⟨_,rfl⟩;subst lV;obtain⟨g,hg⟩:∃ g,wrA.heap.size=g:=⟨_,rfl⟩;rw[hg]at tX ⊢;clear dG jL hX5 pO hg
    go_wp2_with fail
    clear tX tA5 tv
    go_loopw [61] (fun i wr=>∃ p:Nat,p<=nS s/\i=.int .i64 p/\Below w3.heap.size w3 wr/\wr.heap[R]?=some (.cells (bG (go s k (fT s k) p)) 3)) (fun i _=>nS s - (intOf i).toNat)
    ·exact⟨0,by omega,rfl,lC.o,xA.o⟩
    ·
     clear lC xA;obtain⟨p,hp,rfl,aB,hR⟩:=hrel;have fg:=aa aB;have AI:=aa hR;by_cases CT:p<nS s
     ·obtain⟨b3,o3,rfl,c6⟩:=kx.o p CT;obtain⟨z0,z1⟩:=HFN.o k p aD CT;obtain⟨z,hz⟩:∃ z:Nat,finS s k p=z:=⟨(finS s k p).toNat,by omega⟩;rw[hz]at c6 z1;have HZ:=aa hz;have d6:=ak (ae dX.o aB) c6;have fK:=rj ((oblM s k:Nat):Int) p;have AP:hasB ((oblM s k:Nat):Int) p=!hasB (fltS s k) p:=by unfold oblM;rw[m5,decide_eq_true CT,Bool.true_and]
      rw[AP]at fK;have hp30:p<=30:=by omega
      have zt:z<s.tab.length:=by omega
      have HRL2:=aa (HRP.o k p);clear c6 z0 z1 hz AP;cases hb:hasB (fltS s k) p with
      | true=>
       have gr:am (go s k (fT s k) (p+1)=go s k (fT s k) p):=aa (by rw[go,if_pos hb]);rw[hb]at fK;clear hb aB hR
       go_wp2_with fail
       go_roundw
       ·exact⟨p+1,by omega,by go_num,fg.o,by rw[gr.o];exact AI.o⟩
       ·simp[intOf];omega
      | false=>
       have gr:am (go s k (fT s k) (p+1)=(go s k (fT s k) p).set z ((choiceS s).getD k 0)):=aa (by rw[go,if_neg (by rw[hb];simp),HZ.o,Int.toNat_natCast]);rw[hb]at fK;obtain⟨g1,g2,g3⟩:=qV.o k aD;obtain⟨n,hn⟩:∃ n:Nat,(partsS s).getD k 0=n:=⟨((partsS s).getD k 0).toNat,by omega⟩;rw[hn,Int.toNat_natCast,HCN.o]at g2;rw[hn,Int.toNat_natCast]at g3;obtain⟨b4,o4,rfl,c7⟩:=EL.o k aD;rw[hn]at c7;have d7:=ak aB c7;obtain⟨b5,o5,rfl,c8⟩:=EU.o n g2;rw[g3]at c8;have d8:=ak (ae HB23.o aB) c8;have tl:=ak aB F9.o;have tR:=ab hR z;rw[gi _ _ (by rw[HRL2.o];exact zt)]at tR;have zR:=aG hR z;generalize (choiceS s).getD k 0=x at d8 gr;generalize (go s k (fT s k) p).getD z 0=y at tR;clear hb aB hR g1 g3 hn c7 c8
       go_wp2_with fail
       go_roundw
       ·exact⟨p+1,by omega,by go_num,fg.o.setCell (by dsimp only;omega) _,by rw[aH AI.o,mg,gr.o]⟩
       ·simp[intOf];omega
     ·obtain rfl:p=nS s:=by omega
      clear aB hR
      go_wp2_with fail
      go_roundw
      ·exact⟨k+1,by omega,by go_num,fg.o,AI.o⟩
      ·simp[intOf];omega
   ·obtain rfl:k=m:=by omega
    have to:=ab (af aB lT.o) 0;have zo:=aG (af aB lT.o) 0;simp at to;have P2:=aa (af aB lT.o);clear aB hR
    go_wp2_with fail
    refine bodyPost_ret (rJ _ (w.heap.size+1) _ (.slice (some ⟨R,0,none⟩) s.tab.length s.tab.length) true 0 rfl rfl rfl (aH P2.o 0 _)) rfl ⟨_,by rw[HV.o],?_,eY.o.setCell (by dsimp only;omega) _⟩;rw[HV.o,HM.o];exact Fi (WH.o k) (by omega) (aN Fu.o (by have:=aC lT.o;omega) _ _) jd.o
theorem MO(n:Nat) (hn:n<=4096) (x:Int) (w:World) :
  Calls Tryz.prog 45 #[.int .i64 n,.int .i64 x] w fun r w'=>∃ u,r=.returned u/\aI w' w.heap.size 3 1 u n ((List.replicate n x).map (Value.int .i64))/\Below w.heap.size w w':=by
 obtain⟨i0,cY,cC,bY,cD⟩:=info_parts Tryz.infoInt;have bZ:=aa (And.intro cY (And.intro cC (And.intro bY cD)));clear cY cC bY cD;have fk:am (∀ k,List.replicate (k+1) x=List.replicate k x++[x]):=aa fun k=>List.replicate_succ'
 go_enter Tryz.func45,Tryz.ntmps45
 go_wp2_with fail
 go_loopw [5,6] (fun o i wr=>∃ k:Nat,k<=n/\i=.int .i64 k/\Below w.heap.size w wr/\aI wr w.heap.size 3 1 o k ((List.replicate k x).map (Value.int .i64))) (fun _ i _=>n - (intOf i).toNat)
 ·exact⟨0,by omega,rfl,Below.refl _ _,aI.nil _ _ _ _⟩
 ·
  obtain⟨k,hk,rfl,aB,bg⟩:=hrel;obtain⟨al,cl2,rfl⟩:=bg.slice;have bO:=aa bg;have aU:=aa aB;clear bg aB;by_cases aD:k<n
  ·have dm:=aa (bO.o.up ((Below.refl _ wr).alloc (Nat.le_refl _) (.cells #[.int .i64 x] 3)));have bE:=aa (dR wr [.int .i64 x] 3);have lw:am (k+1<=maxLen):=aa (by unfold maxLen;omega);have sa:am ((k+1) * 8<=140737488355328):=aa (by omega);have gm:am (w.heap.size<=(wr.alloc (.cells #[.int .i64 x] 3)).heap.size):=aa (by have:=aU.o.size;simp;omega)
   go_wp2_with (at_builtin;(refine aZ _ rfl (.tmp 12) (.tmp 14) 38 rfl w.heap.size 3 i0 _ 1 8 Tryz.underlying38 bZ.o.1 bZ.o.2.1 bZ.o.2.2.1 bZ.o.2.2.2 rfl (by decide) _ k _ rfl dm.o ⟨wr.heap.size,0,none⟩ 1 1 [.int .i64 x] rfl rfl bE.o (by simp[Value.oneCell']) lw.o sa.o gm.o ?_;intro v6 w6 fr eJ _))
   go_roundw
   ·
    refine⟨k+1,by omega,by go_num,eI aU.o (Nat.le_refl _) dm.o eJ,?_⟩;rw[fk.o,List.map_append];exact fr
   ·simp[intOf];omega
  ·obtain rfl:k=n:=by omega
   go_wp2_with fail
   go_ret
   exact⟨_,rfl,bO.o,aU.o⟩
theorem Pz(n:Nat) (hn:n<=4096) (x:Int) (hx:bT x) (w:World) :
  Calls Tryz.prog 45 #[.int .i64 n,.int .i64 x] w fun r w'=>∃ u,r=.returned u/\aX w' u (List.replicate n x)/\Below w.heap.size w w':=by
 refine(MO n hn x w).mono ?_;rintro r w' ⟨u,rfl,ho,hb⟩;exact⟨_,rfl,gE (l:=List.replicate n x) (base:=w.heap.size) (by rw[List.length_replicate];exact ho) (fun y hy=>by rw[List.eq_of_mem_replicate hy];exact hx) (by simp;omega),hb⟩
theorem RY(v:Value) (l:List Int) (x:Int) (w:World) (hv:aX w v l) :
  Calls Tryz.prog 44 #[v,.int .i64 x] w fun r w'=>r=.returned (.bool (l.contains x))/\w=w':=by
 obtain⟨pl,cl,rfl,el⟩:=dY hv;obtain⟨_,_,_,_,cN,_⟩:=hv.at;have EL:=aa el;have HY:am (∀ k,k<l.length->l.getD k 0=x->l.contains x=true):=aa fun k hk h=>by rw[List.contains_iff_mem,<-h,aA 0 hk];exact List.getElem_mem hk
 have fZ:am ((∀ k,k<l.length->l.getD k 0≠x)->l.contains x=false):=aa fun h=>by
  cases hc:l.contains x with
  | false=>rfl
  | true=>
   obtain⟨k,hk,e⟩:=List.getElem_of_mem (List.contains_iff_mem.1 hc);exact absurd (by rw[aA 0 hk];exact e) (h k hk)
 generalize l.contains x=b at HY fZ ⊢;clear hv el
 go_enter Tryz.func44,Tryz.ntmps44
 go_wp2_with fail
 go_loop [5] (fun i=>∃ k:Nat,k<=l.length/\i=.int .i64 k/\∀ j,j<k->l.getD j 0≠x) (fun i=>l.length - (intOf i).toNat)
 ·exact⟨0,by omega,rfl,fun j hj=>by omega⟩
 ·
  obtain⟨k,hk,rfl,hz⟩:=hrel;have HZ:=aa hz;clear hz;by_cases aD:k<l.length
  ·obtain⟨b1,o1,rfl,c1⟩:=EL.o k aD;have QL:=aa (HY.o k aD);have gr:am (l.getD k 0≠x->∀ j,j<k+1->l.getD j 0≠x):=aa fun h=>aW HZ.o h
   generalize l.getD k 0=y at c1 QL gr;by_cases cG:y=x
   ·have HR:=aa (QL.o cG);have hd:(y == x)=true:=by simp[cG]
    clear cG
    go_wp2_with fail
    go_ret
    exact⟨aR (by rw[HR.o]),rfl⟩
   ·have HN:=aa (gr.o cG);have hd:(y == x)=false:=beq_eq_false_iff_ne.2 cG;clear cG
    go_wp2_with fail
    go_round
    ·exact⟨k+1,by omega,by go_num,HN.o⟩
    ·simp[intOf];omega
  ·have HR:=aa (fZ.o fun j hj=>HZ.o j (by omega))
   go_wp2_with fail
   go_ret
   exact⟨aR (by rw[HR.o]),rfl⟩
theorem It(v:Value) (l:List Int) (x:Int) (hn:l.length<=4096) (w:World) (hv:aX w v l) :
  Calls Tryz.prog 52 #[v,.int .i64 x] w fun r w'=>∃ u,r=.returned u/\aX w' u ((memL l x).map fun e:Nat=>(e:Int))/\Below w.heap.size w w'/\∀ b,u.ownBlock=some b->w.heap.size<=b:=by
 obtain⟨i0,cY,cC,bY,cD⟩:=info_parts Tryz.infoInt;have bZ:=aa (And.intro cY (And.intro cC (And.intro bY cD)));clear cY cC bY cD;obtain⟨pl,cl,rfl,el⟩:=dY hv;have EL:=aa el;obtain⟨L,hL⟩:∃ L:Nat->List Int,L=fun k=>(gx l x k).map fun e:Nat=>(e:Int):=⟨_,rfl⟩
 have kY:am (L 0=[]/\(∀ k,l.getD k 0=x->L (k+1)=L k++[(k:Int)])/\(∀ k,l.getD k 0≠x->L (k+1)=L k)/\(∀ k,(L k).length<=k)/\∀ k,k<=4096->∀ y∈L k,bT y):=aa (by
  subst hL;refine⟨rfl,fun k h=>by dsimp only;rw[sR h,List.map_append];rfl,fun k h=>by dsimp only;rw[Bg h],fun k=>?_,fun k hk y hy=>?_⟩
  ·dsimp only;rw[List.length_map];exact Nat.le_trans (List.length_filter_le _ _) (by simp)
  ·obtain⟨j,hj,rfl⟩:=List.mem_map.1 hy;have:=List.mem_range.1 (List.mem_filter.1 hj).1
   exact⟨by omega,by omega⟩)
 have HF:am (L l.length=(memL l x).map fun e:Nat=>(e:Int)):=aa (by subst hL;rfl);generalize ((memL l x).map fun e:Nat=>(e:Int))=F at HF ⊢;obtain⟨n,xE⟩:∃ n,l.length=n:=⟨_,rfl⟩;rw[xE]at EL HF hn ⊢;clear hv el hL xE
 go_enter Tryz.func52,Tryz.ntmps52
 go_wp2_with fail
 go_loopw [5,6] (fun o i wr=>∃ k:Nat,k<=n/\i=.int .i64 k/\Below w.heap.size w wr/\aI wr w.heap.size 3 1 o (L k).length ((L k).map (Value.int .i64))) (fun _ i _=>n - (intOf i).toNat)
 ·exact⟨0,by omega,rfl,Below.refl _ _,by rw[kY.o.1];exact aI.nil _ _ _ _⟩
 ·
  obtain⟨k,hk,rfl,aB,bg⟩:=hrel;obtain⟨al,cl2,rfl⟩:=bg.slice;have bO:=aa bg;have aU:=aa aB;have Jt:=kY.o.2.2.2.1 k;by_cases aD:k<n
  ·obtain⟨b1,o1,rfl,c0⟩:=EL.o k aD;have c1:=ak aB c0;have sf:=aa (kY.o.2.1 k);have qE:=aa (kY.o.2.2.1 k);obtain⟨q,hq⟩:∃ q,(L k).length=q:=⟨_,rfl⟩;rw[hq]at bO Jt ⊢;have HQ:=aa hq;generalize l.getD k 0=y at c1 sf qE;clear bg aB c0 hq;by_cases cG:y=x
   ·have fk:=aa (sf.o cG);have qJ:am ((L (k+1)).length=q+1):=aa (by rw[fk.o,List.length_append,HQ.o];rfl);have hd:(y == x)=true:=by simp[cG]
    clear cG;have dm:=aa (bO.o.up ((Below.refl _ wr).alloc (Nat.le_refl _) (.cells #[.int .i64 (k:Int)] 3)));have bE:=aa (dR wr [.int .i64 (k:Int)] 3);have lw:am (q+1<=maxLen):=aa (by unfold maxLen;omega);have sa:am ((q+1) * 8<=140737488355328):=aa (by omega);have gm:am (w.heap.size<=(wr.alloc (.cells #[.int .i64 (k:Int)] 3)).heap.size):=aa (by have:=aU.o.size;simp;omega)
    go_wp2_with (at_builtin;(refine aZ _ rfl (.tmp 19) (.tmp 21) 38 rfl w.heap.size 3 i0 _ 1 8 Tryz.underlying38 bZ.o.1 bZ.o.2.1 bZ.o.2.2.1 bZ.o.2.2.2 rfl (by decide) _ q _ rfl dm.o ⟨wr.heap.size,0,none⟩ 1 1 [.int .i64 (k:Int)] rfl rfl bE.o (by simp[Value.oneCell']) lw.o sa.o gm.o ?_;intro v6 w6 fr eJ _))
    go_roundw
    ·
     refine⟨k+1,by omega,by go_num,eI aU.o (Nat.le_refl _) dm.o eJ,?_⟩;rw[qJ.o,fk.o,List.map_append];exact fr
    ·simp[intOf];omega
   ·have fk:=aa (qE.o cG);have hd:(y == x)=false:=beq_eq_false_iff_ne.2 cG;clear cG
    go_wp2_with fail
    go_roundw
    ·
     refine⟨k+1,by omega,by go_num,aU.o,?_⟩;rw[fk.o,HQ.o];exact bO.o
    ·simp[intOf];omega
  ·obtain rfl:k=n:=by omega
   have HQ:am (aX wr (.slice al (L k).length cl2) F):=aa (by rw[<-HF.o];exact gE (l:=L k) (base:=w.heap.size) bg (kY.o.2.2.2.2 k hn) (by omega));have Qz:am (∀ b,(Value.slice al (L k).length cl2).ownBlock=some b->w.heap.size<=b):=aa (fun b hb=>(bg.lt b hb).1);clear bg aB
   go_wp2_with fail
   go_ret
   exact⟨_,rfl,HQ.o,aU.o,Qz.o⟩
theorem Iu(x0:Value) (p1:Option Addr) (n1 c1:Nat) (p2:Option Addr) (n2 c2:Nat) (f:Int) (w:World) (h0:∃ a n c,x0=.slice a n c) :
  Calls Tryz.prog 80 #[.agg #[x0,.slice p1 n1 c1,.slice p2 n2 c2],.int .i64 f] w fun e w'=>e=.returned (if f=0/\0<n2 then .slice p2 n2 c2 else .slice p1 n1 c1)/\Below w.heap.size w w':=by
 obtain⟨a0,m0,k0,rfl⟩:=h0;by_cases hf:f=0
 ·have hd:(f == 0)=true:=by simp[hf]
  by_cases hl:0<n2
  ·have e1:decide ((0:Int)<(n2:Int))=true:=decide_eq_true (by omega);have e2:decide (0<n2)=true:=decide_eq_true hl;rw[if_pos ⟨hf,hl⟩];clear hf hl
   go_enter Tryz.func80,Tryz.ntmps80
   go_wp2_with fail
   go_ret
   exact⟨rfl,by go_grown⟩
  ·have e1:decide ((0:Int)<(n2:Int))=false:=decide_eq_false (by omega);have e2:decide (0<n2)=false:=decide_eq_false hl;rw[if_neg (fun h=>hl h.2)];clear hf hl
   go_enter Tryz.func80,Tryz.ntmps80
   go_wp2_with fail
   go_ret
   exact⟨rfl,by go_grown⟩
 ·have hd:(f == 0)=false:=beq_eq_false_iff_ne.2 hf;rw[if_neg (fun h=>hf h.1)];clear hf
  go_enter Tryz.func80,Tryz.ntmps80
  go_wp2_with fail
  go_ret
  exact⟨rfl,by go_grown⟩
theorem Vp(s:Sys) (hs:SysOk s) (e:Nat) (he:e<eS s) (vc vs vt ve:Value) (w:World) (dy:IsSys w s vc vs vt ve) :
  Calls Tryz.prog 40 #[.agg (cj s.prob vc vs s.n vt ve),.int .i64 e] w fun r w'=>∃ u,r=.returned u/\aX w' u (valuesS s e)/\Below w.heap.size w w':=by
 obtain⟨i0,cY,cC,bY,cD⟩:=info_parts Tryz.infoInt;have bZ:=aa (And.intro cY (And.intro cC (And.intro bY cD)));clear cY cC bY cD;have HS:=aa dy;obtain⟨⟨pc,cc,rfl⟩,⟨ps,cs,rfl⟩,⟨pt,ct,rfl⟩,⟨pe,ce,rfl⟩⟩:=bM dy;clear dy;obtain⟨b,o,_,ce',e0,rfl,pw,nw,cw,pv,cv,c1,c2,c3,mi,fQ,gR,-⟩:=iD hs HS.o.ex he;injection e0 with e01 e02 e03
 subst e01;have Bq:nw<=6:=by have:=hs.rounds;omega
 clear e02 e03 mi;have yL:=aa (fun W (hb:Below w.heap.size w W)=>Ah (cJ s e).c (fltS s e) pw nw cw (.slice pv (s.prob.rounds.toNat+1) cv) W Bq (fun h=>by obtain⟨b1,o1,q1,q2⟩:=fQ h;exact⟨b1,o1,q1,ak hb q2⟩) gR);obtain⟨eZ,kZ⟩:=hs.cas e he;obtain⟨k,hk⟩:∃ k:Nat,(cJ s e).c=k:=⟨(cJ s e).c.toNat,by omega⟩;rw[hk,Int.toNat_natCast]at kZ;obtain⟨pc',cc',e1,_,_,ec⟩:=HS.o.cases.at;injection e1 with e11 e12 e13
 subst e11;clear e12 e13;obtain⟨bc,oc,rfl,⟨x0,cx0,dq⟩,⟨x1,cx1,dA⟩,⟨x2,cx2,dW⟩⟩:=ec k kZ;have Gf:s.prob.t.cases[k]=s.prob.t.cases.getD (cJ s e).c.toNat default:=by rw[hk,Int.toNat_natCast];exact(aA default kZ).symm
 rw[Gf]at dq dA dW;obtain⟨p0,q0,rfl,_⟩:=dq;have kJ:=aa dA;have fY:=aa dW;obtain⟨p1,q1,rfl,_⟩:=dA;obtain⟨p2,q2,rfl,_⟩:=dW
 have oZ:am (ef w (if fltS s e=0/\0<(s.prob.t.cases.getD (cJ s e).c.toNat default).calm.length then .slice p2 (s.prob.t.cases.getD (cJ s e).c.toNat default).calm.length q2 else .slice p1 (s.prob.t.cases.getD (cJ s e).c.toNat default).out.length q1) (vecE s e)):=aa (by
  unfold vecE gg;split
  ·exact fY.o
  ·exact kJ.o)
 have XD:am (∃ a n c,(if fltS s e=0/\0<(s.prob.t.cases.getD (cJ s e).c.toNat default).calm.length then Value.slice p2 (s.prob.t.cases.getD (cJ s e).c.toNat default).calm.length q2 else .slice p1 (s.prob.t.cases.getD (cJ s e).c.toNat default).out.length q1)=.slice a n c):=aa (by
  split
  ·exact⟨_,_,_,rfl⟩
  ·exact⟨_,_,_,rfl⟩)
 have J2:=aa (fun W=>Iu (.slice p0 (s.prob.t.cases.getD (cJ s e).c.toNat default).inp.length q0) p1 (s.prob.t.cases.getD (cJ s e).c.toNat default).out.length q1 p2 (s.prob.t.cases.getD (cJ s e).c.toNat default).calm.length q2 (fltS s e) W ⟨_,_,_,rfl⟩);have PZ:am (∀ v:Nat,valB s e v=hasV (vecE s e) (List.replicate (nS s) (v:Int))):=aa fun v=>rfl
 have fA:=hs.n.2.2.1;have ju:=hs.n.2.1;have qW:=hs.outs.2.2;have TO:=hs.outs.2.1;have WJ:am (iw s e (oS s)=valuesS s e):=aa rfl;have Ar:=aa (Bh s e);have HVY:=aa (fun k (h:valB s e k=true)=>Ir h);have HVN:=aa (fun k (h:valB s e k=false)=>K4 h);have oJ:iw s e 0=[]:=rfl;have CE:=aa oJ;generalize (if fltS s e=0/\0<(s.prob.t.cases.getD (cJ s e).c.toNat default).calm.length then Value.slice p2 (s.prob.t.cases.getD (cJ s e).c.toNat default).calm.length q2 else .slice p1 (s.prob.t.cases.getD (cJ s e).c.toNat default).out.length q1)=V at oZ XD J2;obtain⟨va,vn,vk,rfl⟩:=XD.o;rw[hk]at yL c1;obtain⟨n,hn⟩:∃ n,nS s=n:=⟨_,rfl⟩;obtain⟨oo,hoq⟩:∃ oo,oS s=oo:=⟨_,rfl⟩;obtain⟨m,hm⟩:∃ m,s.ex.length=m:=⟨_,rfl⟩;have vR:e<m:=by rw[<-hm];exact he
 rw[hn]at fA ju PZ;rw[hoq]at qW TO WJ;rw[hm];obtain⟨vl,xm⟩:∃ vl,vecE s e=vl:=⟨_,rfl⟩;rw[xm]at oZ PZ;have ng:=aa fA;have HOO:=aa qW;generalize valuesS s e=vs0 at WJ ⊢;generalize (s.prob.t.cases.getD (cJ s e).c.toNat default).inp.length=l0 at cx0 J2;generalize (s.prob.t.cases.getD (cJ s e).c.toNat default).out.length=l1 at cx1 J2;generalize (s.prob.t.cases.getD (cJ s e).c.toNat default).calm.length=l2 at cx2 J2;generalize fltS s e=fl at yL J2;obtain⟨rn,hrn⟩:∃ rn,s.prob.rounds.toNat+1=rn:=⟨_,rfl⟩;rw[hrn]at yL c3;clear XD fQ gR hn hoq hm xm hk eZ Gf fA qW kJ fY ec oJ hrn
 go_enter Tryz.func40,Tryz.ntmps40
 have d1:∀ o',(w.alloc o').cell? ⟨b,o+e * 3,none⟩=_:=fun o'=>ak (by go_grown) c1
 have d2:∀ o',(w.alloc o').cell? ⟨b,o+e * 3+1,none⟩=_:=fun o'=>ak (by go_grown) c2
 have d3:∀ o',(w.alloc o').cell? ⟨b,o+e * 3+2,none⟩=_:=fun o'=>ak (by go_grown) c3
 go_wp2_with fail
 clear d1 d2 d3 c1 c2 c3;refine bF (fun W=>Below w.heap.size w W/\(∃ c,W.heap[w.heap.size]?=some (.cells c 35)/\c=cj s.prob (.slice (some ⟨bc,oc,none⟩) s.prob.t.cases.length cc) (.slice ps s.prob.a.states.length cs) s.n (.slice pt s.tab.length ct) (.slice (some ⟨b,o,none⟩) m ce))/\W.heap[w.heap.size+1]?=some (.cells #[.int .i64 k,.slice pw nw cw,.slice pv rn cv] 89)) ⟨by go_grown,⟨_,az _ (aq _ _),rfl⟩,bz _ _ _⟩ (fun W0 bh=>?_);obtain⟨aJ,⟨_,hA,rfl⟩,hX⟩:=bh;have fE:=aa aJ;have HA:=aa hA;have HX:=aa hX;have yC:∀ z:ExtW W0,z.val.cell? ⟨w.heap.size,3,none⟩=some (.slice (some ⟨bc,oc,none⟩) s.prob.t.cases.length cc):=fun z=>(ab (af z.ext HA.o) 3).trans rfl
 have yX:∀ z:ExtW W0,∀ j,z.val.cell? ⟨w.heap.size+1,j,none⟩=_:=fun z=>ab (af z.ext HX.o)
 have y0:∀ z:ExtW W0,z.val.cell? ⟨bc,oc+k * 3,none⟩=_:=fun z=>ak (ae fE.o z.ext) cx0
 have y1:∀ z:ExtW W0,z.val.cell? ⟨bc,oc+k * 3+1,none⟩=_:=fun z=>ak (ae fE.o z.ext) cx1
 have y2:∀ z:ExtW W0,z.val.cell? ⟨bc,oc+k * 3+2,none⟩=_:=fun z=>ak (ae fE.o z.ext) cx2
 have K1:am (∀ y:ExtW W0,Calls Tryz.prog 61 #[.agg #[.int .i64 (k:Int),.slice pw nw cw,.slice pv rn cv]] y.val fun r w''=>r=.returned (.int .i64 fl)/\∃ z:ExtW W0,w''=z.val):=aa (fun y=>Calls.ext_of (yL.o y.val (ae fE.o y.ext)));have K2:am (∀ y:ExtW W0,Calls Tryz.prog 80 #[.agg #[.slice p0 l0 q0,.slice p1 l1 q1,.slice p2 l2 q2],.int .i64 fl] y.val fun r w''=>r=.returned (.slice va vn vk)/\∃ z:ExtW W0,w''=z.val):=aa (fun y=>Calls.ext_of (J2.o y.val));clear aJ hA hX cx0 cx1 cx2 yL J2;refine aE (by kernel_rfl) (by kernel_rfl) ?_
 repeat (go_big_quiet_step (first|(go_at_call 61;with_reducible exact K1.o _)|(go_at_call 80;with_reducible exact K2.o _)))
 refine wpQuiet_nil ?_;rintro _ ⟨xq,rfl⟩;have bV:=aa (ae fE.o xq.ext);have HAX:=aa (af xq.ext HA.o);clear yC yX y0 y1 y2;generalize xq.val=W1 at bV HAX ⊢;have hsw1:=bV.o.size
 go_wp2_with fail
 go_loopw [7,8] (fun q i wr=>∃ k:Nat,k<=oo/\i=.int .i64 k/\Below W1.heap.size W1 wr/\aI wr W1.heap.size 3 1 q (iw s e k).length ((iw s e k).map (Value.int .i64))) (fun _ i _=>oo - (intOf i).toNat)
 ·exact⟨0,by omega,rfl,Below.refl _ _,by rw[CE.o];exact aI.nil _ _ _ _⟩
 ·
  obtain⟨v,hv,rfl,aB,bg⟩:=hrel;obtain⟨al,cl2,rfl⟩:=bg.slice;have bO:=aa bg;have aU:=aa aB;have tK:=af aB HAX.o;have tO:wr.cell? ⟨w.heap.size,2,none⟩=some (.int .i64 (oo:Int)):=(ab tK 2).trans (by rw[<-HOO.o];rfl);have tN:wr.cell? ⟨w.heap.size,7,none⟩=some (.int .i64 (n:Int)):=(ab tK 7).trans (by rw[<-ng.o];rfl);have Jt:=Ar.o v;clear bg aB tK;by_cases aD:v<oo
  ·have kN:(v:Int)<(oo:Int):=by omega
   have yJ:=aa (Pz n (by omega) (v:Int) ⟨by omega,by omega⟩ wr)
   go_wp2_with fail
   clear tO tN;refine yJ.o.mono ?_;rintro r w2 ⟨u,rfl,hu,aY⟩;have HU:=aa hu;have cV:=aa (ae aU.o aY);have Nd:=aa aY;obtain⟨au,cu,rfl,_⟩:=hu.at;have X9:=aa (ER _ _ vl _ w2 (oZ.o.up up_ints (ae bV.o cV.o)) HU.o);rw[<-PZ.o]at X9;rw[List.length_replicate]at X9 ⊢;clear hu aY yJ
   go_wp2_with fail
   refine X9.o.mono ?_;rintro r w3 ⟨rfl,bH⟩;have dX:=aa (ae cV.o bH);have HOWN2:=aa (bO.o.up (ae Nd.o bH));clear bH bO;have bO:=HOWN2;obtain⟨wr4,kG⟩:∃ x,x=wr:=⟨_,rfl⟩;subst kG;obtain⟨wr,kG⟩:∃ x,x=w3:=⟨_,rfl⟩;subst kG;clear aU;have aU:=dX;obtain⟨q,hq⟩:∃ q,(iw s e v).length=q:=⟨_,rfl⟩;rw[hq]at bO Jt ⊢;have HQ:=aa hq;clear hq;cases hb:valB s e v with
   | true=>
    have fk:=aa (HVY.o v hb);have qJ:am ((iw s e (v+1)).length=q+1):=aa (by rw[fk.o,List.length_append,HQ.o];rfl);clear hb;have dm:=aa (bO.o.up ((Below.refl _ wr).alloc (Nat.le_refl _) (.cells #[.int .i64 (v:Int)] 3)));have bE:=aa (dR wr [.int .i64 (v:Int)] 3);have lw:am (q+1<=maxLen):=aa (by unfold maxLen;omega);have sa:am ((q+1) * 8<=140737488355328):=aa (by omega);have gm:am (W1.heap.size<=(wr.alloc (.cells #[.int .i64 (v:Int)] 3)).heap.size):=aa (by have:=aU.o.size;simp;omega)
    go_wp2_with (at_builtin;(refine aZ _ rfl (.tmp 40) (.tmp 42) 38 rfl W1.heap.size 3 i0 _ 1 8 Tryz.underlying38 bZ.o.1 bZ.o.2.1 bZ.o.2.2.1 bZ.o.2.2.2 rfl (by decide) _ q _ rfl dm.o ⟨wr.heap.size,0,none⟩ 1 1 [.int .i64 (v:Int)] rfl rfl bE.o (by simp[Value.oneCell']) lw.o sa.o gm.o ?_;intro v6 w6 fr eJ _))
    go_roundw
    ·
     refine⟨v+1,by omega,by go_num,eI aU.o (Nat.le_refl _) dm.o eJ,?_⟩;rw[qJ.o,fk.o,List.map_append];exact fr
    ·simp[intOf];omega
   | false=>
    have fk:=aa (HVN.o v hb);clear hb
    go_wp2_with fail
    go_roundw
    ·
     refine⟨v+1,by omega,by go_num,aU.o,?_⟩;rw[fk.o,HQ.o];exact bO.o
    ·simp[intOf];omega
  ·obtain rfl:v=oo:=by omega
   clear tN
   have HI:am (aX wr (.slice al (iw s e v).length cl2) vs0):=aa (by
    rw[<-WJ.o];refine gE (l:=iw s e v) bO.o (fun y hy=>?_) (by omega);obtain⟨j,hj,rfl⟩:=List.mem_map.1 hy;have:=List.mem_range.1 (List.mem_filter.1 hj).1
    exact⟨by omega,by omega⟩)
   go_wp2_with fail
   go_ret
   exact⟨_,rfl,HI.o,ae bV.o aU.o⟩
def RZ(q:Nat->Nat->Bool) (i k:Nat) (x:Int):Prop:=(x=-1/\∀ j,j<k->q j i=false)\/∃ m,m<i/\firstIx i (fun k=>q k i)=m/\x=(bu q i).1.getD m 0/\0<=x
theorem Vq{q:Nat->Nat->Bool} {i:Nat} {x:Int} (h:RZ q i i x):(x<0->bu q (i+1)=((bu q i).1++[(bu q i).2],(bu q i).2+1))/\(0<=x->bu q (i+1)=((bu q i).1++[x],(bu q i).2)):=by
 rcases h with ⟨rfl,h⟩|⟨m,hm,h1,h2,h3⟩
 ·refine⟨fun _=>?_,fun h=>by omega⟩;rw[bu];rw[dH _ _ h,if_pos (by omega)]
 ·refine⟨fun h=>by omega,fun _=>?_⟩;rw[bu];rw[h1,if_neg (by omega),Int.toNat_natCast,h2]
theorem Ak(q:Nat->Nat->Bool):∀ i,0<=(bu q i).2/\(bu q i).2<=i/\∀ x∈(bu q i).1,0<=x/\x<=i
 | 0=>⟨by simp[bu],by simp[bu],fun x hx=>by simp[bu]at hx⟩
 | i+1=>by
  obtain⟨h1,h2,h3⟩:=Ak q i;have hl:=j8 q i;rw[bu];split
  ·refine⟨by dsimp only;omega,by dsimp only;omega,fun x hx=>?_⟩;rcases List.mem_append.1 hx with hx|hx
   ·have:=h3 x hx;omega
   ·rw[List.mem_singleton.1 hx];omega
  ·rename_i h4;refine⟨h1,by dsimp only;omega,fun x hx=>?_⟩;rcases List.mem_append.1 hx with hx|hx
   ·have:=h3 x hx;omega
   ·rw[List.mem_singleton.1 hx];rcases bI i (fun k=>q k i) with ⟨e,_⟩|⟨k,hk,e,_⟩
    ·omega
    ·rw[e,Int.toNat_natCast,aA 0 (by omega)];have:=h3 _ (List.getElem_mem (l:=(bu q i).1) (n:=k) (by omega));omega
theorem Al(v:Value) (l:List Int) (hl:l.length<=4096) (w:World) (hv:aX w v l) :
  Calls Tryz.prog 140 #[v] w fun r w'=>∃ u,r=.returned u/\aX w' u (lh l)/\Below w.heap.size w w':=by
 obtain⟨pl,cl,rfl,el⟩:=dY hv;have EL:=aa el;obtain⟨i0,cY,cC,bY,cD⟩:=info_parts Tryz.infoInt;have bZ:=aa (And.intro cY (And.intro cC (And.intro bY cD)));obtain⟨q,hq⟩:∃ q:Nat->Nat->Bool,q=fun k i=>decide (l.getD k 0=l.getD i 0):=⟨_,rfl⟩
 have HQ:am (∀ k i,q k i=decide (l.getD k 0=l.getD i 0)):=aa fun k i=>by rw[hq]
 have ig:am (lh l=(bu q l.length).1):=aa (by rw[hq];rfl);have mj:=aa (Ak q);have qJ:=aa (j8 q);have ji:=aa (fun i x=>Vq (q:=q) (i:=i) (x:=x));obtain⟨n,hn⟩:∃ n,l.length=n:=⟨_,rfl⟩;rw[hn]at EL hl ig ⊢;clear hv el hq hn cY cC bY cD
 go_enter Tryz.func140,Tryz.ntmps140
 go_wp2_with fail
 go_loopw [3,4,5] (fun o nx i wr=>∃ k:Nat,k<=n/\i=.int .i64 k/\nx=.int .i64 (bu q k).2/\Below w.heap.size w wr/\aI wr w.heap.size 3 1 o k ((bu q k).1.map (Value.int .i64))) (fun _ _ i _=>n - (intOf i).toNat)
 ·exact⟨0,by omega,rfl,rfl,Below.refl _ _,aI.nil _ _ _ _⟩
 ·
  obtain⟨i,hi,rfl,rfl,aB,bg⟩:=hrel;obtain⟨al,cl2,rfl⟩:=bg.slice;have bO:=aa bg;have aU:=aa aB;have AF:=aB.size;clear bg aB;obtain⟨wrA,lV⟩:∃ x,x=wr:=⟨_,rfl⟩;subst lV;by_cases aD:i<n
  ·obtain⟨bi,oi,rfl,ci⟩:=EL.o i aD;have di:=ak aU.o ci;have Ly:=mj.o i
   go_wp2_with fail
   go_loopw [6,7] (fun x j wr=>∃ k:Nat,k<=i/\j=.int .i64 k/\Below wrA.heap.size wrA wr/\∃ y:Int,x=.int .i64 y/\RZ q i k y) (fun _ j _=>i - (intOf j).toNat)
   ·exact⟨0,by omega,rfl,Below.refl _ _,-1,rfl,.inl ⟨rfl,fun j hj=>by omega⟩⟩
   ·
    obtain⟨k,hk,rfl,ni,y,rfl,Nu⟩:=hrel;have S7:=aa Nu;have fg:=aa ni;by_cases oT:k<i/\y<0
    ·obtain⟨CG,hy⟩:=oT;have FL:decide ((k:Int)<(i:Int))=true:=decide_eq_true (by omega);have Tp:decide (k<i)=true:=decide_eq_true CG;have gB:decide (y<0)=true:=decide_eq_true hy;obtain⟨bk,ok,e1,ck⟩:=EL.o k (by omega);injection e1 with e1
     injection e1 with e11 e12
     subst e11 e12;have y1:∀ z:ExtW wr,z.val.cell? ⟨bi,oi+k,none⟩=_:=fun z=>ak (ae aU.o (ae fg.o z.ext)) ck
     have y2:∀ z:ExtW wr,z.val.cell? ⟨bi,oi+i,none⟩=_:=fun z=>ak (ae aU.o (ae fg.o z.ext)) ci
     have yQ:k<n:=by omega
     have fZ:am (∀ j,j<k->q j i=false):=aa (by
      rcases S7.o with ⟨_,h⟩|⟨m,_,_,_,h⟩
      ·exact h
      ·omega)
     cases AA:q k i with
     | true=>
      have cG:l.getD k 0=l.getD i 0:=of_decide_eq_true ((HQ.o k i).symm.trans AA);have HF:am (firstIx i (fun k=>q k i)=k):=aa (dB _ _ _ CG fZ.o AA);have cN:=qJ.o i;have qO:((bu q i).1.map (Value.int .i64))[k]?=some (.int .i64 ((bu q i).1.getD k 0)):=by rw[List.getElem?_map,List.getElem?_eq_getElem (by omega),aA 0 (by omega)];rfl
      obtain⟨g,c',ev,cv⟩:=bO.o.cell k _ qO;injection ev with ev1 ev2 ev3
      subst ev1;clear ev2 ev3;have dv:=ak fg.o cv;have HY:am (0<=(bu q i).1.getD k 0):=aa (by rw[aA 0 (by omega)];exact(Ly.2.2 _ (List.getElem_mem _)).1);rw[cG]at y1;clear Nu ni cG AA qO cv ck cN;generalize l.getD i 0=x at y1 y2;have lF:(x == x)=true:=by simp
      go_wp2_with fail
      refine aE (by kernel_rfl) (by kernel_rfl) ?_
      repeat (go_big_quiet_step (fail))
      refine wpQuiet_nil ?_;rintro _ ⟨xq,rfl⟩;have dv2:=ak xq.ext dv;clear y1 y2
      go_wp2_with fail
      go_roundw
      ·exact⟨k+1,by omega,by go_num,ae fg.o xq.ext,_,rfl,.inr ⟨k,CG,HF.o,rfl,HY.o⟩⟩
      ·simp[intOf];omega
     | false=>
      have cG:¬ l.getD k 0=l.getD i 0:=of_decide_eq_false ((HQ.o k i).symm.trans AA)
      have QT:am (y=-1):=aa (by
       rcases S7.o with ⟨h,_⟩|⟨m,_,_,_,h⟩
       ·exact h
       ·omega)
      have Sz:am (∀ j,j<k+1->q j i=false):=aa (aW fZ.o AA);have lF:(l.getD k 0 == l.getD i 0)=false:=beq_eq_false_iff_ne.2 cG;clear Nu ni cG AA ck;generalize l.getD i 0=x at y1 y2 lF;generalize l.getD k 0=x2 at y1 lF
      go_wp2_with fail
      refine aE (by kernel_rfl) (by kernel_rfl) ?_
      repeat (go_big_quiet_step (fail))
      refine wpQuiet_nil ?_;rintro _ ⟨xq,rfl⟩;clear y1 y2
      go_wp2_with fail
      go_roundw
      ·exact⟨k+1,by omega,by go_num,ae fg.o xq.ext,_,rfl,.inl ⟨QT.o,Sz.o⟩⟩
      ·simp[intOf];omega
    ·have HE:am (RZ q i i y):=aa (by
      rcases S7.o with ⟨h,h2⟩|h
      ·have:k=i:=by omega
       rw[this]at h2;exact .inl ⟨h,h2⟩
      ·exact .inr h)
     have bV:=aa (ae aU.o ni);have Ny:=aa (bO.o.up ni);have lw:am (i+1<=maxLen):=aa (by unfold maxLen;omega);have eV:am ((i+1) * 8<=140737488355328):=aa (by omega);have Qh:=aa (ji.o i y HE.o);obtain⟨nx,mx⟩:∃ nx,(bu q i).2=nx:=⟨_,rfl⟩;rw[mx]at Ly Qh;clear Nu ni;by_cases hy:y<0
     ·have CG:¬ k<i:=fun h=>oT ⟨h,hy⟩
      have FL:decide ((k:Int)<(i:Int))=false:=decide_eq_false (by omega);have Tp:decide (k<i)=false:=decide_eq_false CG;have gB:decide (y<0)=true:=decide_eq_true hy;have fk:=aa (Qh.o.1 hy);clear oT CG;have dm:=aa (Ny.o.up ((Below.refl _ wr).alloc (Nat.le_refl _) (.cells #[.int .i64 nx] 3)));have bE:=aa (dR wr [.int .i64 nx] 3);have gm:am (w.heap.size<=(wr.alloc (.cells #[.int .i64 nx] 3)).heap.size):=aa (by have:=bV.o.size;simp;omega)
      go_wp2_with (at_builtin;(refine aZ _ rfl (.tmp 41) (.tmp 43) 38 rfl w.heap.size 3 i0 _ 1 8 Tryz.underlying38 bZ.o.1 bZ.o.2.1 bZ.o.2.2.1 bZ.o.2.2.2 rfl (by decide) _ i _ rfl dm.o ⟨wr.heap.size,0,none⟩ 1 1 [.int .i64 nx] rfl rfl bE.o (by simp[Value.oneCell']) lw.o eV.o gm.o ?_;intro v6 w6 fr eJ _))
      go_roundw
      ·
       refine⟨i+1,by omega,by go_num,rq (by rw[fk.o]),eI bV.o (Nat.le_refl _) dm.o eJ,?_⟩;rw[fk.o,List.map_append];exact fr
      ·simp[intOf];omega
     ·have gB:decide (y<0)=false:=decide_eq_false hy;have fk:=aa (Qh.o.2 (by omega));by_cases CG:k<i
      ·have FL:decide ((k:Int)<(i:Int))=true:=decide_eq_true (by omega);have Tp:decide (k<i)=true:=decide_eq_true CG;clear oT;have dm:=aa (Ny.o.up ((Below.refl _ wr).alloc (Nat.le_refl _) (.cells #[.int .i64 y] 3)));have bE:=aa (dR wr [.int .i64 y] 3);have gm:am (w.heap.size<=(wr.alloc (.cells #[.int .i64 y] 3)).heap.size):=aa (by have:=bV.o.size;simp;omega)
       go_wp2_with (at_builtin;(refine aZ _ rfl (.tmp 41) (.tmp 43) 38 rfl w.heap.size 3 i0 _ 1 8 Tryz.underlying38 bZ.o.1 bZ.o.2.1 bZ.o.2.2.1 bZ.o.2.2.2 rfl (by decide) _ i _ rfl dm.o ⟨wr.heap.size,0,none⟩ 1 1 [.int .i64 y] rfl rfl bE.o (by simp[Value.oneCell']) lw.o eV.o gm.o ?_;intro v6 w6 fr eJ _))
       go_roundw
       ·
        refine⟨i+1,by omega,by go_num,rq (by rw[fk.o]),eI bV.o (Nat.le_refl _) dm.o eJ,?_⟩;rw[fk.o,List.map_append];exact fr
       ·simp[intOf];omega
      ·have FL:decide ((k:Int)<(i:Int))=false:=decide_eq_false (by omega);have Tp:decide (k<i)=false:=decide_eq_false CG;clear oT;have dm:=aa (Ny.o.up ((Below.refl _ wr).alloc (Nat.le_refl _) (.cells #[.int .i64 y] 3)));have bE:=aa (dR wr [.int .i64 y] 3);have gm:am (w.heap.size<=(wr.alloc (.cells #[.int .i64 y] 3)).heap.size):=aa (by have:=bV.o.size;simp;omega)
       go_wp2_with (at_builtin;(refine aZ _ rfl (.tmp 41) (.tmp 43) 38 rfl w.heap.size 3 i0 _ 1 8 Tryz.underlying38 bZ.o.1 bZ.o.2.1 bZ.o.2.2.1 bZ.o.2.2.2 rfl (by decide) _ i _ rfl dm.o ⟨wr.heap.size,0,none⟩ 1 1 [.int .i64 y] rfl rfl bE.o (by simp[Value.oneCell']) lw.o eV.o gm.o ?_;intro v6 w6 fr eJ _))
       go_roundw
       ·
        refine⟨i+1,by omega,by go_num,rq (by rw[fk.o]),eI bV.o (Nat.le_refl _) dm.o eJ,?_⟩;rw[fk.o,List.map_append];exact fr
       ·simp[intOf];omega
  ·obtain rfl:i=n:=by omega
   go_wp2_with fail
   go_ret
   refine⟨_,rfl,?_,aU.o⟩;rw[ig.o];have h1:=qJ.o i;exact gE (l:=(bu q i).1) (base:=w.heap.size) (by rw[h1];exact bO.o) (fun x hx=>by have:=(mj.o i).2.2 x hx;exact⟨by omega,by omega⟩) (by omega)
end Go.Proofs.YtmeaoneaephjeaaGreatDoor
