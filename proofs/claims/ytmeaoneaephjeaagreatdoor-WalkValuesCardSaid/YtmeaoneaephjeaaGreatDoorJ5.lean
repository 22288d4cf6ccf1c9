/-
  A part of the proof: lemmas and contracts that the parts behind it use. Each one's conditions are its own premises.
-/
import Derived.Test.YtmeaoneaephjeaaGreatDoorJ4
set_option maxRecDepth 100000
set_option maxHeartbeats 8000000
set_option linter.unusedVariables false
set_option linter.unusedSimpArgs false
namespace Go.Proofs.YtmeaoneaephjeaaGreatDoor
open Go.RowKit Go Go.Shelf
attribute [local go_sem] Oper.semAt_some
def mu(w:World) (k:Nat) (v:Value) (n:Nat) (xs:List Value):Prop:=
 ∃ a cap,v=.slice a n cap/\(a=none->n=0/\cap=0)/\xs.length=n * k/\(∀ j u,xs[j]?=some u->∃ b o,a=some ⟨b,o,none⟩/\w.cell? ⟨b,o+j,none⟩=some u)/\∀ u∈xs,u.oneCell'=true
theorem BI{α:Type} {k:Nat} {R:World->Nat->Nat->α->Prop} {w:World} {v:Value} {l:List α} (h:eR k R w v l) (hk:0<k) (hR:∀ b o x j,R w b o x->j<k->∃ u,w.cell? ⟨b,o+j,none⟩=some u/\u.oneCell'=true):∃ xs,mu w k v l.length xs:=by
 obtain⟨a,cap,rfl,h1,h2,h3⟩:=h
 have key:∀ i:Fin (l.length * k),∃ u:Value,∃ b o,a=some ⟨b,o,none⟩/\w.cell? ⟨b,o+i.1,none⟩=some u/\u.oneCell'=true:=fun i=>by
  have hi:i.1 / k<l.length:=by rw[Nat.div_lt_iff_lt_mul hk];exact i.2
  obtain⟨b,o,ha,hr⟩:=h3 (i.1 / k) _ (List.getElem?_eq_getElem hi);obtain⟨u,hu,h1⟩:=hR b _ _ (i.1 % k) hr (Nat.mod_lt _ hk);refine⟨u,b,o,ha,?_,h1⟩;rw[<-hu];congr 2;have:=Nat.div_add_mod i.1 k;rw[Nat.mul_comm]at this;omega
 refine⟨List.ofFn fun i=>Classical.choose (key i),a,cap,rfl,fun e=>?_,by simp,fun j u hj=>?_,fun u hu=>?_⟩
 ·have:=h1.2.2 e;have:=h1.1;omega
 ·have hi:j<l.length * k:=by have:=(List.getElem?_eq_some_iff.1 hj).1;simpa using this
  have e:u=Classical.choose (key ⟨j,hi⟩):=by
   rw[List.getElem?_ofFn]at hj;simp[hi]at hj;exact hj.symm
  obtain⟨b,o,ha,hc,_⟩:=Classical.choose_spec (key ⟨j,hi⟩);exact⟨b,o,ha,by rw[e];exact hc⟩
 ·obtain⟨i,rfl⟩:=(List.mem_ofFn).1 hu
  obtain⟨_,_,_,_,hs⟩:=Classical.choose_spec (key i);exact hs
theorem BJ{α:Type} {k:Nat} {R:World->Nat->Nat->α->Prop} {w:World} {b o:Nat} {l:List α} (h:mi k R w b o l):∃ u,w.cell? ⟨b,o,none⟩=some u/\u.oneCell'=true:=by
 obtain⟨v,hc,hs⟩:=h;exact⟨v,hc,FM hs⟩
theorem N4{w:World} {v:Value} {l:List Cs} (h:bK w v l):∃ xs,mu w 3 v l.length xs:=BI h (by decide) fun b o x j hr hj=>by
 obtain⟨h0,h1,h2⟩:=hr;have:j=0\/j=1\/j=2:=by omega
 rcases this with rfl|rfl|rfl
 ·exact BJ h0
 ·exact BJ h1
 ·exact BJ h2
theorem LH{w:World} {v:Value} {l:List (List Mv)} (h:bh w v l):∃ xs,mu w 1 v l.length xs:=BI h (by decide) fun b o x j hr hj=>by
 obtain rfl:j=0:=by omega
 exact BJ hr
abbrev Mv.c(m:Mv):Array Value:=#[.int .i64 m.r.g.n,.int .i64 m.r.g.h0,.int .i64 m.r.g.h1,.int .i64 m.r.g.h2,.int .i64 m.r.g.h3,.int .i64 m.r.g.h4,.int .i64 m.r.f,.int .i64 m.to]
def fr(xs:List Mv):List Value:=xs.flatMap fun m=>m.c.toList
theorem BK(xs:List Mv):(fr xs).length=xs.length * 8:=by
 unfold fr;induction xs with
 | nil=>rfl
 | cons x r ih=>rw[List.flatMap_cons,List.length_append,ih];simp;omega
theorem N5{w:World} {v:Value} {l:List Mv} (h:oG w v l):mu w 8 v l.length (fr l):=by
 obtain⟨a,cap,rfl,h1,h2,h3⟩:=h;refine⟨a,cap,rfl,fun e=>?_,BK l,fun j u hu=>?_,fun u hu=>?_⟩
 ·have:=h1.2.2 e;have:=h1.1;omega
 ·have hj:=(List.getElem?_eq_some_iff.1 hu).1
  rw[BK]at hj;obtain⟨i,s,hs,rfl⟩:∃ i s,s<8/\j=i * 8+s:=⟨j / 8,j % 8,by omega,by omega⟩;have hi:i<l.length:=by omega
  unfold fr at hu;rw[oK Mv.c 8 (fun _=>rfl) l i s hi hs]at hu;obtain⟨b,o,ha,⟨⟨c0,_⟩,⟨c1,_⟩,⟨c2,_⟩,⟨c3,_⟩,⟨c4,_⟩,⟨c5,_⟩,⟨c6,_⟩⟩,⟨c7,_⟩⟩:=h3 i _ (List.getElem?_eq_getElem hi);refine⟨b,o,ha,?_⟩;rw[<-Nat.add_assoc];rcases (show s=0\/s=1\/s=2\/s=3\/s=4\/s=5\/s=6\/s=7 by omega) with rfl|rfl|rfl|rfl|rfl|rfl|rfl|rfl<;>(simp at hu;subst hu;first|exact c0|exact c1|exact c2|exact c3|exact c4|exact c5|exact c6|exact c7)
 ·obtain⟨m,_,hm⟩:=List.mem_flatMap.1 hu
  simp at hm;rcases hm with h|h|h|h|h|h|h|h<;>subst h<;>rfl
theorem Er{w:World} {base:Nat} {v:Value} {l:List Mv} (h:aG w base 143 8 v l.length (fr l)) (hx:∀ m∈l,oU m.r/\bM m.to) (hn:l.length<=17592186044416):oG w v l:=by
 have aQ:=fun i (hi:i<l.length) j (u:Value) (hj:j<8) (hu:l[i].c[j]?=some u)=>h.cell (i * 8+j) u (by unfold fr;rw[oK Mv.c 8 (fun _=>rfl) l i j hi hj];exact hu)
 rcases h.2 with ⟨hz,h0⟩|⟨g,cap,cur,fz,rfl,_,hg,_,kg,iP,_⟩
 ·refine⟨none,0,by rw[hz,h0],⟨by omega,by omega,fun _=>rfl⟩,hn,fun i x hi=>?_⟩
  have:=(List.getElem?_eq_some_iff.1 hi).1;omega
 ·refine⟨some ⟨g,0,none⟩,cap,rfl,⟨kg,by simp only[maxLen]at iP;omega,fun e=>by cases e⟩,hn,fun i x hi=>⟨g,0,rfl,?_⟩⟩
  obtain⟨gM,rfl⟩:=List.getElem?_eq_some_iff.1 hi;obtain⟨⟨r0,r1,r2,r3,r4,r5,r6⟩,r7⟩:=hx _ (List.getElem_mem gM)
  have key:∀ j u,j<8->l[i].c[j]?=some u->w.cell? ⟨g,0+i * 8+j,none⟩=some u:=fun j u hj hu=>by
   obtain⟨g',c',e1,e2⟩:=aQ i gM j u hj hu;have:g=g':=by simp at e1;exact e1.1
   rw[this,Nat.zero_add];exact e2
  exact⟨⟨⟨key 0 _ (by omega) rfl,r0⟩,⟨key 1 _ (by omega) rfl,r1⟩,⟨key 2 _ (by omega) rfl,r2⟩,⟨key 3 _ (by omega) rfl,r3⟩,⟨key 4 _ (by omega) rfl,r4⟩,⟨key 5 _ (by omega) rfl,r5⟩,⟨key 6 _ (by omega) rfl,r6⟩⟩,⟨key 7 _ (by omega) rfl,r7⟩⟩
theorem QD{w:World} {v:Value} {l:List Mv} (h:oG w v l):∀ m∈l,oU m.r/\bM m.to:=fun m hm=>by
 obtain⟨i,hi,rfl⟩:=List.getElem_of_mem hm;obtain⟨a,cap,rfl,_,_,e⟩:=h;obtain⟨b,o,ha,⟨⟨_,c0⟩,⟨_,c1⟩,⟨_,c2⟩,⟨_,c3⟩,⟨_,c4⟩,⟨_,c5⟩,⟨_,c6⟩⟩,⟨_,c7⟩⟩:=e i _ (List.getElem?_eq_getElem hi);exact⟨⟨c0,c1,c2,c3,c4,c5,c6⟩,c7⟩
theorem Tryz.infoCase:(Tryz.prog.info? 135).map (fun i=>(i.zero,i.size,i.bytes))=some (some (.agg #[.slice none 0 0,.slice none 0 0,.slice none 0 0]),3,72):=by kernel_rfl
theorem Tryz.infoMoves:(Tryz.prog.info? 136).map (fun i=>(i.zero,i.size,i.bytes))=some (some (.slice none 0 0),1,24):=by kernel_rfl
theorem Tryz.infoMove:(Tryz.prog.info? 143).map (fun i=>(i.zero,i.size,i.bytes))=some (some (.agg #[.int .i64 0,.int .i64 0,.int .i64 0,.int .i64 0,.int .i64 0,.int .i64 0,.int .i64 0,.int .i64 0]),8,64):=by kernel_rfl
theorem Dr(v:Value) (n:Nat) (xs:List Value) (w:World) (hv:mu w 3 v n xs) (hn:n<=1048576) :
  Calls Tryz.prog 194 #[v] w fun e w'=>∃ u,e=.returned u/\aG w' w.heap.size 135 3 u n xs/\Below w.heap.size w w':=by
 obtain⟨i0,hi,cg,bV,cj⟩:=info_parts Tryz.infoCase;obtain⟨a,cap,rfl,jD,iu,hc,h1⟩:=hv;have jK:=fun w=>Lib.run_eql_slice_nil (P:=Tryz.prog) w 22
 cases a with
 | none=>
  obtain⟨rfl,rfl⟩:=jD rfl;have cN:xs=[]:=List.eq_nil_of_length_eq_zero (by omega);subst cN
  go_enter Tryz.func194,Tryz.ntmps194
  go_wp2_with fail
  go_ret
  exact⟨_,rfl,aG.nil _ _ _ _,Below.refl _ _⟩
 | some ad=>
  have bL:∀ j u,xs[j]?=some u->(w.alloc (.cells #[] 135)).cell? (ad.add j)=some u:=fun j u hj=>by
   obtain⟨b,o,e,eB⟩:=hc j u hj;cases e;have:(Addr.add ⟨b,o,none⟩ j)=⟨b,o+j,none⟩:=by unfold Addr.add;split<;>simp_all
   rw[this];exact ak (by go_grown) eB
  have aX:aG (w.alloc (.cells #[] 135)) w.heap.size 135 3 (.slice (some ⟨w.heap.size,0,none⟩) 0 0) 0 []:=⟨by simp,.inr ⟨w.heap.size,0,#[],(0,0),rfl,Nat.le_refl _,am _ _,fun i hi=>by simp at hi,by omega,by simp[maxLen],by simp,by simp⟩⟩;have bz:=aa bL;have bI:=aa aX;have H1:=aa h1;have yr:=aa iu;clear bL aX jD hc h1 iu
  go_enter Tryz.func194,Tryz.ntmps194
  go_wp2_with (at_builtin;(refine aY _ rfl (.tmp 5) (.tmp 6) 22 rfl w.heap.size 135 i0 _ 3 72 Tryz.underlying22 hi cg bV cj rfl (by decide) _ 0 [] rfl bI.out ad n cap xs rfl yr.out bz.out H1.out (by unfold maxLen;omega) (by omega) (by simp) ?_;intro v' w1 gE la _;obtain⟨av',cv',rfl⟩:=gE.slice))
  go_ret
  rw[Nat.zero_add,List.nil_append]at gE;refine⟨_,rfl,by simpa using gE,Below.grown (w:=w.alloc (.cells #[] 135)) (by go_grown) la (by simp) (fun k hk=>?_)⟩;cases hk;exact Nat.le_refl _
theorem BL(v:Value) (n:Nat) (xs:List Value) (w:World) (hv:mu w 1 v n xs) (hn:n<=1048576) :
  Calls Tryz.prog 197 #[v] w fun e w'=>∃ u,e=.returned u/\aG w' w.heap.size 136 1 u n xs/\Below w.heap.size w w':=by
 obtain⟨i0,hi,cg,bV,cj⟩:=info_parts Tryz.infoMoves;obtain⟨a,cap,rfl,jD,iu,hc,h1⟩:=hv;have jK:=fun w=>Lib.run_eql_slice_nil (P:=Tryz.prog) w 25
 cases a with
 | none=>
  obtain⟨rfl,rfl⟩:=jD rfl;have cN:xs=[]:=List.eq_nil_of_length_eq_zero (by omega);subst cN
  go_enter Tryz.func197,Tryz.ntmps197
  go_wp2_with fail
  go_ret
  exact⟨_,rfl,aG.nil _ _ _ _,Below.refl _ _⟩
 | some ad=>
  have bL:∀ j u,xs[j]?=some u->(w.alloc (.cells #[] 136)).cell? (ad.add j)=some u:=fun j u hj=>by
   obtain⟨b,o,e,eB⟩:=hc j u hj;cases e;have:(Addr.add ⟨b,o,none⟩ j)=⟨b,o+j,none⟩:=by unfold Addr.add;split<;>simp_all
   rw[this];exact ak (by go_grown) eB
  have aX:aG (w.alloc (.cells #[] 136)) w.heap.size 136 1 (.slice (some ⟨w.heap.size,0,none⟩) 0 0) 0 []:=⟨by simp,.inr ⟨w.heap.size,0,#[],(0,0),rfl,Nat.le_refl _,am _ _,fun i hi=>by simp at hi,by omega,by simp[maxLen],by simp,by simp⟩⟩;have bz:=aa bL;have bI:=aa aX;have H1:=aa h1;have yr:=aa iu;clear bL aX jD hc h1 iu
  go_enter Tryz.func197,Tryz.ntmps197
  go_wp2_with (at_builtin;(refine aY _ rfl (.tmp 5) (.tmp 6) 25 rfl w.heap.size 136 i0 _ 1 24 Tryz.underlying25 hi cg bV cj rfl (by decide) _ 0 [] rfl bI.out ad n cap xs rfl yr.out bz.out H1.out (by unfold maxLen;omega) (by omega) (by simp) ?_;intro v' w1 gE la _;obtain⟨av',cv',rfl⟩:=gE.slice))
  go_ret
  rw[Nat.zero_add,List.nil_append]at gE;refine⟨_,rfl,by simpa using gE,Below.grown (w:=w.alloc (.cells #[] 136)) (by go_grown) la (by simp) (fun k hk=>?_)⟩;cases hk;exact Nat.le_refl _
theorem Dt(v:Value) (n:Nat) (xs:List Value) (w:World) (hv:mu w 8 v n xs) (hn:n<=1048576) :
  Calls Tryz.prog 198 #[v] w fun e w'=>∃ u,e=.returned u/\aG w' w.heap.size 143 8 u n xs/\Below w.heap.size w w':=by
 obtain⟨i0,hi,cg,bV,cj⟩:=info_parts Tryz.infoMove;obtain⟨a,cap,rfl,jD,iu,hc,h1⟩:=hv;have jK:=fun w=>Lib.run_eql_slice_nil (P:=Tryz.prog) w 136
 cases a with
 | none=>
  obtain⟨rfl,rfl⟩:=jD rfl;have cN:xs=[]:=List.eq_nil_of_length_eq_zero (by omega);subst cN
  go_enter Tryz.func198,Tryz.ntmps198
  go_wp2_with fail
  go_ret
  exact⟨_,rfl,aG.nil _ _ _ _,Below.refl _ _⟩
 | some ad=>
  have bL:∀ j u,xs[j]?=some u->(w.alloc (.cells #[] 143)).cell? (ad.add j)=some u:=fun j u hj=>by
   obtain⟨b,o,e,eB⟩:=hc j u hj;cases e;have:(Addr.add ⟨b,o,none⟩ j)=⟨b,o+j,none⟩:=by unfold Addr.add;split<;>simp_all
   rw[this];exact ak (by go_grown) eB
  have aX:aG (w.alloc (.cells #[] 143)) w.heap.size 143 8 (.slice (some ⟨w.heap.size,0,none⟩) 0 0) 0 []:=⟨by simp,.inr ⟨w.heap.size,0,#[],(0,0),rfl,Nat.le_refl _,am _ _,fun i hi=>by simp at hi,by omega,by simp[maxLen],by simp,by simp⟩⟩;have bz:=aa bL;have bI:=aa aX;have H1:=aa h1;have yr:=aa iu;clear bL aX jD hc h1 iu
  go_enter Tryz.func198,Tryz.ntmps198
  go_wp2_with (at_builtin;(refine aY _ rfl (.tmp 5) (.tmp 6) 136 rfl w.heap.size 143 i0 _ 8 64 Tryz.underlying136 hi cg bV cj rfl (by decide) _ 0 [] rfl bI.out ad n cap xs rfl yr.out bz.out H1.out (by unfold maxLen;omega) (by omega) (by simp) ?_;intro v' w1 gE la _;obtain⟨av',cv',rfl⟩:=gE.slice))
  go_ret
  rw[Nat.zero_add,List.nil_append]at gE;refine⟨_,rfl,by simpa using gE,Below.grown (w:=w.alloc (.cells #[] 143)) (by go_grown) la (by simp) (fun k hk=>?_)⟩;cases hk;exact Nat.le_refl _
theorem sg(v:Value) (l:List (List Int)) (w:World) (hv:dR w v l) (hn:l.length<=1048576) (nW:∀ x∈l,x.length<=1099511627776) :
  Calls Tryz.prog 196 #[v] w fun e w'=>∃ u,e=.returned u/\cI w' w.heap.size u l/\Below w.heap.size w w':=by
 obtain⟨i0,hi,cg,bV,cj⟩:=info_parts Tryz.infoInts;obtain⟨p,cap,rfl,la1,la2,ea⟩:=hv.at;have EA:=aa ea;have rl:=aa nW;clear ea hv nW
 go_enter Tryz.func196,Tryz.ntmps196
 go_wp2_with fail
 go_loopw [3,8] (fun o i wr=>Below w.heap.size w wr/\∃ k:Nat,k<=l.length/\i=.int .i64 k/\cI wr w.heap.size o (l.take k)) (fun _ i _=>l.length - (intOf i).toNat)
 case atStart=>exact⟨Below.refl _ _,0,by omega,rfl,bX.nil _ _⟩
 case round=>
  obtain⟨ar,k,hk,rfl,qC⟩:=hrel;have vg:=aa qC;by_cases aA:k<l.length
  ·obtain⟨b1,o1,rfl,x,cx,hx⟩:=EA.out k aA
   rw[Nat.mul_one]at cx;have d1:=ak ar cx;have hH:=aa (rl.out _ (List.getElem_mem aA));have km:Hid (l.take (k+1)=l.take k++[l[k]]):=aa (List.take_succ_eq_append_getElem aA);generalize l[k]=y at hx hH km;have HX:=aa (hx.up up_int ar);obtain⟨px,qx,rfl,_⟩:=hx;clear cx;obtain⟨xs,aX,jF⟩:=qC;have lX:(l.take k).length=k:=by simp;omega
   rw[lX]at aX;have bI:=aa aX;have Co:=aa jF;have Td:=aa lX;obtain⟨ao,co,rfl⟩:=aX.slice;clear aX jF lX
   go_wp2_with fail
   refine(ux _ y wr HX.out hH.out).mono ?_;rintro e w1 ⟨u,rfl,hu,aI⟩;obtain⟨au,cu,rfl⟩:=hu.slice;have wV:=ae ar aI;have hA:Below w1.heap.size w1 (w1.alloc (.cells #[(Value.slice au y.length cu)] 38)):=by go_grown
   have dd:=aa ((bI.out.up aI).up hA)
   have bL:∀ j u',[(Value.slice au y.length cu)][j]?=some u'->(w1.alloc (.cells #[(Value.slice au y.length cu)] 38)).cell? (Addr.add ⟨w1.heap.size,0,none⟩ j)=some u':=fun j u' hj=>by
    cases j with
    | zero=>simp at hj;subst hj;simp[Addr.add,ab (am w1 _)]
    | succ j=>simp at hj
   have bz:=aa bL;have HU:=aa hu;clear bL hu d1;have ic:=wV.size
   go_wp2_with (at_builtin;(refine aY _ rfl (.tmp 12) (.tmp 15) 56 rfl w.heap.size 38 i0 _ 1 24 Tryz.underlying56 hi cg bV cj rfl (by decide) _ k xs rfl dd.out ⟨w1.heap.size,0,none⟩ 1 1 [(Value.slice au y.length cu)] rfl rfl bz.out (by simp[Value.oneCell']) (by unfold maxLen;omega) (by omega) (by simp;omega) ?_;intro v' w2 fD dg _))
   go_roundw
   case rel=>
    refine⟨Below.grown (w:=w1.alloc (.cells #[(Value.slice au y.length cu)] 38)) (wV.alloc ic _) dg (by simp;omega) (fun g hg=>(dd.out.lt g hg).1),k+1,by omega,by go_num,?_⟩;rw[km.out];exact bX.snoc (l:=l.take k) (by rw[Td.out];exact dd.out) (fun i hi=>by obtain⟨z,q1,q2⟩:=Co.out i hi;exact⟨z,q1,(q2.up aI).up hA⟩) (by decide) ((HU.out.base ar.size).up hA) dg (by rw[Td.out];exact fD)
   case measure=>simp[intOf];omega
  ·obtain rfl:k=l.length:=by omega
   rw[List.take_length]at vg qC;obtain⟨xs,aX,_⟩:=qC;obtain⟨ao,co,rfl⟩:=aX.slice;clear aX
   go_wp2_with fail
   go_ret
   exact⟨_,rfl,vg.out,ar⟩
def dK(p:Pb):Int × Int:=
 if probE p≠0 then(0,probE p) else if (countedR 1048576 p.a p.rounds).2≠0 then(0,(countedR 1048576 p.a p.rounds).2)
 else if 1048576<(countedR 1048576 p.a p.rounds).1 * p.t.cases.length then(0,17) else((countedR 1048576 p.a p.rounds).1 * p.t.cases.length,0)
theorem FT(L:Int) (hL:0<=L) (a:Adv) (r:Int):0<=(countedR L a r).1/\(countedR L a r).1<=L:=by
 unfold countedR;have h:=(uj hL (AJ hL a r.toNat) 0);change 0<=numberL L a r.toNat/\_ at h;split
 ·simp;omega
 ·split
  ·simp;omega
  ·split
   ·simp;omega
   ·simp;omega
theorem FU(p:Pb) (vc vs:Value) (w:World) (hc:bK w vc p.t.cases) (hs:bh w vs p.a.states) (hN:movesN p.a.states<1099511627776) (bP:probE p=0->p.t.cases.length<=1048576) :
  Calls Tryz.prog 161 #[qp p vc vs] w fun e w'=>e=.returned (.tuple #[.int .i64 (dK p).1,.int .i64 (dK p).2])/\Below w.heap.size w w':=by
 have GC:=aa hc;have GS:=aa hs;obtain⟨pc,cc,rfl,_⟩:=hc.at;obtain⟨ps,cs,rfl,_⟩:=hs.at;clear hc hs;have HV:Hid (dK p=if probE p≠0 then(0,probE p) else if (countedR 1048576 p.a p.rounds).2≠0 then(0,(countedR 1048576 p.a p.rounds).2) else if 1048576<(countedR 1048576 p.a p.rounds).1 * p.t.cases.length then(0,17) else((countedR 1048576 p.a p.rounds).1 * p.t.cases.length,0)):=by exact rfl
 go_enter Tryz.func161,Tryz.ntmps161
 go_wp2_with fail
 refine aN (fun W=>Below w.heap.size w W/\W.heap[w.heap.size]?=some (.cells #[.int .i64 p.t.n,.int .i64 p.t.ins,.int .i64 p.t.outs,.slice pc p.t.cases.length cc,.int .i64 p.a.n,.slice ps p.a.states.length cs,.int .i64 p.rounds] 29)) ⟨by go_grown,am _ _⟩ (fun W0 aV=>?_);obtain⟨aH,bB⟩:=aV;refine(FN p _ _ W0 (GC.out.up up_case aH) (GS.out.up up_moves aH) hN).mono ?_;rintro e w1 ⟨rfl,aI⟩;have fZ:=ae aH aI;have dZ:=af aI bB;have t1:=ab dZ;have ki:=aa bP;have du:=aa dZ;clear dZ bB bP;generalize probE p=et at HV ki;by_cases nJ:et=0
 case neg=>
  have M6:(et != 0)=true:=by simpa using nJ
  have cV:Hid (dK p=(0,et)):=aa (by rw[HV.out,if_pos nJ]);clear HV
  go_wp2_with fail
  go_ret2
  refine⟨jU ?_ ?_,fZ⟩<;>rw[cV.out]
 subst nJ;have bP:=ki.out rfl
 go_wp2_with fail
 refine(GO p.a _ p.rounds w1 (GS.out.up up_moves fZ) hN).mono ?_;rintro e w2 ⟨rfl,aU⟩;have jY:=ae fZ aU;have t2:=ab (af aU du.out);have nD:=FT 1048576 (by omega) p.a p.rounds;clear t1;generalize countedR 1048576 p.a p.rounds=cr at HV nD;obtain⟨c1,c2⟩:=cr;dsimp only at HV nD ⊢;by_cases iP:c2=0
 case neg=>
  have hc2':(c2 != 0)=true:=by simpa using iP
  have cV:Hid (dK p=(0,c2)):=aa (by rw[HV.out,if_neg (by simp),if_pos iP]);clear HV
  go_wp2_with fail
  go_ret2
  refine⟨jU ?_ ?_,jY⟩<;>rw[cV.out]
 subst iP;have hprod:0<=c1 * (p.t.cases.length:Int)/\c1 * (p.t.cases.length:Int)<=1048576 * 1048576:=⟨Int.mul_nonneg nD.1 (by omega),Int.mul_le_mul nD.2 (by omega) (by omega) (by omega)⟩;have kr:IntKind.i64.wrap (c1 * (p.t.cases.length:Int))=c1 * (p.t.cases.length:Int):=IntWalk.i64_in _ (by omega);by_cases hx:1048576<c1 * (p.t.cases.length:Int)
 ·have cV:Hid (dK p=(0,17)):=aa (by rw[HV.out,if_neg (by simp),if_neg (by simp),if_pos hx])
  clear HV
  go_wp2_with fail
  go_ret2
  refine⟨jU ?_ ?_,jY⟩<;>rw[cV.out]
 ·have cV:Hid (dK p=(c1 * (p.t.cases.length:Int),0)):=aa (by rw[HV.out,if_neg (by simp),if_neg (by simp),if_neg hx])
  clear HV
  go_wp2_with fail
  go_ret2
  refine⟨jU ?_ ?_,jY⟩<;>rw[cV.out]
end Go.Proofs.YtmeaoneaephjeaaGreatDoor
namespace Go.Proofs.YtmeaoneaephjeaaGreatDoor
open Go.RowKit Go Go.Shelf
theorem dF(W:World) (l:List Value) (t:TypeId):∀ j u',l[j]?=some u'->(W.alloc (.cells l.toArray t)).cell? (Addr.add ⟨W.heap.size,0,none⟩ j)=some u':=fun j u' hj=>by
 have e1:(Addr.add ⟨W.heap.size,0,none⟩ j)=⟨W.heap.size,j,none⟩:=by unfold Addr.add;split<;>simp_all
 rw[e1,ab (am W _)];simpa using hj
section
variable {w W w2 : World} {o : Obj} {base : Nat} {e : TypeId} {k n : Nat} {v : Value} {xs : List Value}
theorem ez(hb:Below w.heap.size w W) (h0:w.heap.size<=base) (ho:aG (W.alloc o) base e k v n xs) (hg:(W.alloc o).grownBy w2 v.ownBlock):Below w.heap.size w w2:=
 Below.grown (hb.alloc hb.size _) hg (by have:=hb.size;simp;omega) (fun g h=>Nat.le_trans h0 (ho.lt g h).1)
theorem BM{N:Nat} (hb:Below N w W) (hN:N<=W.heap.size) (h0:N<=base) (ho:aG (W.alloc o) base e k v n xs) (hg:(W.alloc o).grownBy w2 v.ownBlock):Below N w w2:=
 Below.grown (hb.alloc hN _) hg (by simp;omega) (fun g h=>Nat.le_trans h0 (ho.lt g h).1)
theorem gU{b:Nat} {c:Array Value} {t:TypeId} {f:Nat × Nat} (ho:aG (W.alloc o) base e k v n xs) (hg:(W.alloc o).grownBy w2 v.ownBlock) (h:W.heap[b]?=some (.cells c t f)) (bJ:e≠t):w2.heap[b]?=some (.cells c t f):=by
 have h1:(W.alloc o).heap[b]?=some (.cells c t f):=ap _ h;exact(hg.block b (aB h1) (fun e'=>ho.ne h1 bJ b e'.symm rfl)).trans h1
theorem mI{b:Nat} {x:Obj} (ho:aG (W.alloc o) base e k v n xs) (hg:(W.alloc o).grownBy w2 v.ownBlock) (h:W.heap[b]?=some x) (hc:x.isCells=false):w2.heap[b]?=some x:=by
 have h1:(W.alloc o).heap[b]?=some x:=ap _ h;exact(hg.block b (aB h1) (fun e'=>ho.isCells h1 hc e')).trans h1
theorem sh{b:Nat} {x:Obj} (ho:aG (W.alloc o) base e k v n xs) (hg:(W.alloc o).grownBy w2 v.ownBlock) (h:W.heap[b]?=some x) (hb:b<base):w2.heap[b]?=some x:=by
 have h1:(W.alloc o).heap[b]?=some x:=ap _ h;exact(hg.block b (aB h1) (fun e'=>by have:=(ho.lt b e'.symm).1;omega)).trans h1
end
end Go.Proofs.YtmeaoneaephjeaaGreatDoor
namespace Go.Proofs.YtmeaoneaephjeaaGreatDoor
def gP(s:Sys) (w:List Lk) (i j:Nat):List (List Lk):=(List.range' j (w.length - (i+2) - j)).filterMap fun j=>vB s w i (w.length - 1 - j)
def gj(s:Sys) (w:List Lk) (i:Nat):List (List Lk):=(List.range' i (w.length - i)).flatMap (F4 s w)
theorem N6(s:Sys) (w:List Lk):gj s w 0=(List.range w.length).flatMap (F4 s w):=by
 unfold gj;rw[List.range_eq_range',Nat.sub_zero]
theorem N7(s:Sys) (w:List Lk):gj s w w.length=[]:=by
 unfold gj;rw[Nat.sub_self];rfl
theorem LI(s:Sys) (w:List Lk) (i:Nat) (hi:i<w.length):gj s w i=gP s w i 0++gj s w (i+1):=by
 unfold gj gP;rw[show w.length - i=(w.length - (i+1))+1 by omega,List.range'_succ,List.flatMap_cons,Nat.sub_zero];unfold F4;rw[List.range_eq_range']
theorem N8(s:Sys) (w:List Lk) (i j:Nat) (h:w.length<=i+2+j):gP s w i j=[]:=by
 unfold gP;rw[show w.length - (i+2) - j=0 by omega];rfl
theorem LK(s:Sys) (w:List Lk) (i j:Nat) (h:i+2+j<w.length) {c:List Lk} (hc:vB s w i (w.length - 1 - j)=some c):gP s w i j=c :: gP s w i (j+1):=by
 unfold gP;rw[show w.length - (i+2) - j=(w.length - (i+2) - (j+1))+1 by omega,List.range'_succ,List.filterMap_cons,hc]
theorem LL(s:Sys) (w:List Lk) (i j:Nat) (h:i+2+j<w.length) (hc:vB s w i (w.length - 1 - j)=none):gP s w i j=gP s w i (j+1):=by
 unfold gP;rw[show w.length - (i+2) - j=(w.length - (i+2) - (j+1))+1 by omega,List.range'_succ,List.filterMap_cons,hc]
theorem AR(s:Sys) (w:List Lk):dz s w=w.dropLast :: ((if 1<w.length then [⟨(w.getD 1 default).x,-1⟩ :: w.drop 2] else [])++gj s w 0):=by
 rw[N6];rfl
theorem Kd{α:Type} {L d r:List α} {c x:α} (h:L=d++c :: r):d.length<L.length/\L.getD d.length x=c/\L=(d++[c])++r/\(d++[c]).length=d.length+1:=by
 subst h;refine⟨by simp,?_,by simp,by simp⟩;rw[List.getD_eq_getElem?_getD,List.getElem?_append_right (Nat.le_refl _)];simp
theorem QE{s:Sys} {w c:List Lk} {d r:List (List Lk)} (h:dz s w=d++c :: r) (hd:∀ x∈d,iN s x=false) (hc:iN s c=true):jv s w=some c:=by
 unfold jv;rw[h,List.find?_append,List.find?_eq_none.2 (fun x hx=>by rw[hd x hx];simp)];simp[hc]
theorem N9{s:Sys} {w:List Lk} {d:List (List Lk)} (h:dz s w=d) (hd:∀ x∈d,iN s x=false):jv s w=none:=by
 unfold jv;rw[h];exact List.find?_eq_none.2 (fun x hx=>by rw[hd x hx];simp)
theorem Ke{α:Type} {p q:Prop} [Decidable p] [Decidable q] (h:p↔q) (a b:α):(if p then a else b)=if q then a else b:=by
 by_cases hp:p
 ·rw[if_pos hp,if_pos (h.1 hp)]
 ·rw[if_neg hp,if_neg fun hq=>hp (h.2 hq)]
def chQ(s:Sys) (k i:Nat):List Int:=(List.range (eS s)).map fun e=>if (partsS s).getD e 0<k\/e∈(memL (partsS s) k).take i then(choiceS s).getD e 0 else 0
theorem mJ(s:Sys) (k i:Nat):(chQ s k i).length=eS s:=by simp[chQ]
theorem uA(s:Sys) (k i e:Nat) (he:e<eS s):(chQ s k i).getD e 0=if (partsS s).getD e 0<k\/e∈(memL (partsS s) k).take i then(choiceS s).getD e 0 else 0:=by simp[chQ,he]
theorem si(s:Sys):lI (partsS s):=by
 unfold partsS;cases nS s - 1 with
 | zero=>exact oO _ _
 | succ k=>exact oO _ _
theorem sk{a b:List Int} {n:Nat} (ha:a.length=n) (hb:b.length=n) (h:∀ i,i<n->a.getD i 0=b.getD i 0):a=b:=by
 refine List.ext_getElem (by omega) fun i h1 h2=>?_
 have:=h i (by omega)
 rwa [List.getD_eq_getElem?_getD,List.getD_eq_getElem?_getD,List.getElem?_eq_getElem h1,List.getElem?_eq_getElem h2]at this
theorem QF(s:Sys):chQ s 0 0=List.replicate (eS s) 0:=by
 refine sk (mJ _ _ _) (by simp) fun e he=>?_
 have h1:=(lJ (si s) e (by rw[dJ];exact he)).1
 rw[uA _ _ _ _ he,if_neg (by rw[List.take_zero];rintro(h|h);· omega
                             ·cases h)]
 simp[he]
theorem QG{s:Sys} {k i:Nat} (hi:i<(memL (partsS s) k).length):chQ s k (i+1)=(chQ s k i).set ((memL (partsS s) k).getD i 0) (comB s (memL (partsS s) k)):=by
 have hm:(memL (partsS s) k).getD i 0=(memL (partsS s) k)[i]:=by simp[hi]
 obtain⟨hl,hp⟩:=mn.1 (List.getElem_mem hi);rw[<-hm]at hl hp;rw[dJ]at hl;refine sk (mJ _ _ _) (by rw[List.length_set,mJ]) fun e he=>?_
 have ht:e∈(memL (partsS s) k).take (i+1)↔e∈(memL (partsS s) k).take i\/e=(memL (partsS s) k).getD i 0:=by rw[List.take_succ_eq_append_getElem hi,hm,List.mem_append,List.mem_singleton]
 rw[uA _ _ _ _ he];by_cases h:e=(memL (partsS s) k).getD i 0
 ·rw[if_pos (.inr (ht.2 (.inr h)))]
  subst h;rw[qO _ _ he,hp,List.getD_eq_getElem?_getD (l:=(chQ s k i).set _ _),List.getElem?_set_self (by rw[mJ];exact hl)];rfl
 ·have h2:((chQ s k i).set ((memL (partsS s) k).getD i 0) (comB s (memL (partsS s) k))).getD e 0=(chQ s k i).getD e 0:=by
   rw[List.getD_eq_getElem?_getD,List.getElem?_set_ne (by omega),<-List.getD_eq_getElem?_getD]
  rw[h2,uA _ _ _ _ he];refine Ke ?_ _ _;rw[ht];exact⟨fun q=>by rcases q with q|q|q<;>first|exact .inl q|exact .inr q|exact absurd q h,fun q=>by rcases q with q|q;exact .inl q;exact .inr (.inl q)⟩
theorem QH(s:Sys) (k:Nat):chQ s k (memL (partsS s) k).length=chQ s (k+1) 0:=by
 refine sk (mJ _ _ _) (mJ _ _ _) fun e he=>?_
 rw[uA _ _ _ _ he,uA _ _ _ _ he];refine Ke ?_ _ _;rw[List.take_length,mn,dJ,List.take_zero];simp only[List.not_mem_nil,or_false];constructor
 ·rintro(h|h)
  ·omega
  ·omega
 ·intro h
  by_cases h2:(partsS s).getD e 0<k
  ·exact .inl h2
  ·exact .inr ⟨he,by omega⟩
theorem GV{s:Sys} {k:Nat} (h:∀ e,e<eS s->(partsS s).getD e 0<k):chQ s k 0=choiceS s:=by
 refine sk (mJ _ _ _) (by simp[choiceS]) fun e he=>?_
 rw[uA _ _ _ _ he,if_pos (.inl (h e he))]
theorem QI{s:Sys} {k:Nat} (h:(memL (partsS s) k).length=0):chQ s k 0=choiceS s:=GV fun e he=>by
 have hn:∀ x,x<eS s->(partsS s).getD x 0≠k:=fun x hx e2=>by
  have:x∈memL (partsS s) k:=mn.2 ⟨by rw[dJ];exact hx,e2⟩;rw[List.eq_nil_of_length_eq_zero h]at this;cases this
 have h1:=hn e he;by_cases h2:(partsS s).getD e 0<k
 ·exact h2
 ·obtain⟨j,hj,e3⟩:=vF (si s) e (by rw[dJ];exact he) k (by omega) (by omega)
  exact absurd e3 (hn j (by omega))
theorem Uf(s:Sys):chQ s (eS s) 0=choiceS s:=GV fun e he=>by
 have h1:=lJ (si s) e (by rw[dJ];exact he);omega
def SC(h:Int × Int):Rd:=⟨⟨2,h.1,h.2,0,0,0⟩,0⟩
def ckCs:List Cs:=[⟨[0,0],[[0,0]],[]⟩,⟨[0,1],[[0,0],[1,1]],[]⟩,⟨[1,1],[[1,1]],[]⟩]
def qq(rounds:Int) (gs:List (Int × Int)):Pb:=⟨⟨2,2,2,ckCs⟩,⟨2,[gs.map fun h=>⟨SC h,0⟩]⟩,rounds⟩
def ck1:Sys:=aM (qq 1 [(1,3),(3,3)])
def ck2:Sys:=aM (qq 0 [(3,3)])
def ck3:Sys:=aM (qq 1 [(1,3),(3,2),(3,3)])
def ckW:List Lk:=[⟨0,-1⟩,⟨1,0⟩,⟨2,1⟩]
structure CkB (p:Pb):Prop where
 few:buildE p=0
 ready:readyE (aM p)=0
 size:eS (aM p)<=256
 moves:movesN p.a.states<1099511627776
theorem ck1_b:CkB (qq 1 [(1,3),(3,3)]):=⟨by decide +kernel,by decide +kernel,by decide +kernel,by decide +kernel⟩
theorem ck2_b:CkB (qq 0 [(3,3)]):=⟨by decide +kernel,by decide +kernel,by decide +kernel,by decide +kernel⟩
theorem ck3_b:CkB (qq 1 [(1,3),(3,2),(3,3)]):=⟨by decide +kernel,by decide +kernel,by decide +kernel,by decide +kernel⟩
theorem ck1_vals:valuesR ck1 3=([0,1],0):=by decide +kernel
theorem ck1_choice:choiceR ck1=([0,0,0,0,1,1],0):=by decide +kernel
theorem ck1_rule:(ruleR ck1).2=(true,0):=by decide +kernel
theorem ck2_find:findW ck2=(ckW,true,0):=by decide +kernel
theorem ck2_cert:certE ck2 ⟨1,ckW,0,0,0⟩=0:=by decide +kernel
theorem ck2_short:shortR ck2 ⟨1,ckW,0,0,0⟩=(ckW,0):=by decide +kernel
theorem ck2_not:certE ck2 ⟨1,ckW.take 2,0,0,0⟩=18:=by decide +kernel
theorem ck3_choice:choiceR ck3=(List.replicate 9 (-1),0):=by decide +kernel
end Go.Proofs.YtmeaoneaephjeaaGreatDoor
namespace Go.Proofs.YtmeaoneaephjeaaGreatDoor
open Go.RowKit Go Go.Shelf
theorem gu{w:World} {base:Nat} {v:Value} {l:List Int} (h:aG w base 3 1 v l.length (l.map (Value.int .i64))) (hr:∀ x∈l,bM x) (hn:l.length<=17592186044416):aT w v l:=by
 have aQ:=fun i (hi:i<l.length)=>h.cell i (.int .i64 l[i]) (by simp[hi])
 rcases h.2 with ⟨rfl,hz⟩|⟨g,cap,cur,fz,rfl,_,hg,_,kg,iP,_,_⟩
 ·refine⟨none,0,by rw[hz],⟨by omega,by omega,fun _=>rfl⟩,hn,fun i x hi=>?_⟩
  have:=(List.getElem?_eq_some_iff.1 hi).1;omega
 ·refine⟨some ⟨g,0,none⟩,cap,rfl,⟨kg,by simp only[maxLen]at iP;omega,fun e=>by cases e⟩,hn,fun i x hi=>⟨g,0,rfl,?_⟩⟩
  obtain⟨gM,rfl⟩:=List.getElem?_eq_some_iff.1 hi;obtain⟨g',c',e1,e2⟩:=aQ i gM;have:g=g':=by simp at e1;exact e1.1
  subst this;exact⟨by rw[Nat.mul_one,Nat.zero_add];exact e2,hr _ (List.getElem_mem gM)⟩
theorem aG.keep{w w':World} {base sz:Nat} {e:TypeId} {v:Value} {n:Nat} {xs:List Value} (h:aG w base e sz v n xs) (hk:∀ (g:Nat) (o:Obj),v.ownBlock=some g->w.heap[g]?=some o->w'.heap[g]?=some o):aG w' base e sz v n xs:=by
 obtain⟨hl,h⟩:=h;refine⟨hl,?_⟩;rcases h with h|⟨g,cap,cur,fz,rfl,h2,h3,h4⟩
 ·exact .inl h
 ·exact .inr ⟨g,cap,cur,fz,rfl,h2,hk g _ rfl h3,h4⟩
end Go.Proofs.YtmeaoneaephjeaaGreatDoor
namespace Go.Proofs.YtmeaoneaephjeaaGreatDoor
open Go.RowKit Go Go.Shelf
attribute [local go_sem] Oper.semAt_some
def SD(B:Nat):List Obj:=[iC [0,0],iC [0,0],.cells #[sV (B+1) 2] 38,iC [0,1],iC [0,0],iC [1,1],.cells #[sV (B+4) 2,sV (B+5) 2] 38,iC [1,1],iC [1,1],.cells #[sV (B+8) 2] 38,
 .cells #[sV B 2,sV (B+2) 1,.slice none 0 0,sV (B+3) 2,sV (B+6) 2,.slice none 0 0,sV (B+7) 2,sV (B+9) 1,.slice none 0 0] 135,.cells #[.int .i64 2,.int .i64 2,.int .i64 2,sV (B+10) 3] 24]
theorem GW(w:World):dR w (.slice none 0 0) []:=⟨none,0,rfl,⟨by simp,by omega,fun _=>rfl⟩,by simp,fun i x hx=>by simp at hx⟩
theorem QJ{B:Nat} {X:World} (g:∀ i o,(SD B)[i]?=some o->X.heap[B+i]?=some o):bK X (sV (B+10) 3) ckCs:=by
 have t:=ab (g 10 _ rfl);refine⟨some ⟨B+10,0,none⟩,3,rfl,⟨by simp[ckCs],by omega,fun e=>by cases e⟩,by simp[ckCs],fun i x hx=>⟨B+10,0,rfl,?_⟩⟩;obtain⟨hi,rfl⟩:=List.getElem?_eq_some_iff.1 hx;rcases (show i=0\/i=1\/i=2 by simp[ckCs]at hi;omega) with rfl|rfl|rfl
 ·exact⟨⟨_,t 0,ib [0,0] (g 0 _ rfl) (by decide) (by decide)⟩,⟨_,t 1,xA (g 2 _ rfl) (ib [0,0] (g 1 _ rfl) (by decide) (by decide))⟩,⟨_,t 2,GW _⟩⟩
 ·exact⟨⟨_,t 3,ib [0,1] (g 3 _ rfl) (by decide) (by decide)⟩,⟨_,t 4,NR (g 6 _ rfl) (ib [0,0] (g 4 _ rfl) (by decide) (by decide)) (ib [1,1] (g 5 _ rfl) (by decide) (by decide))⟩,⟨_,t 5,GW _⟩⟩
 ·exact⟨⟨_,t 6,ib [1,1] (g 7 _ rfl) (by decide) (by decide)⟩,⟨_,t 7,xA (g 9 _ rfl) (ib [1,1] (g 8 _ rfl) (by decide) (by decide))⟩,⟨_,t 8,GW _⟩⟩
def mw(h:Int × Int):Mv:=⟨SC h,0⟩
theorem GX(tmps:Array Value) (B:Nat) (W:World) (c0 c1 c2 c3 c4 c5 c6:Value) (h2:tmps[4]?.getD undef=.pointer (some ⟨B,0,none⟩))
  (hB:W.heap[B]?=some (.cells #[c0,c1,c2,c3,c4,c5,c6] 29)):(results Tryz.f36 tmps).run Tryz.prog W=.ok (.agg #[c0,c1,c2,c3,c4,c5,c6]) W:=by
 have t2:=ab hB;simp[results,Tryz.results36,go_sem,h2,t2]
theorem N'(rounds:Int) (gs:List (Int × Int)) (n:Nat) (hl:gs.length=n) (hn:n<=100) (cO:∀ h∈gs,bM h.1/\bM h.2) (b:Nat) (w:World) (hb:∀ i (hi:i<gs.length),w.cell? ⟨b,i * 2,none⟩=some (.int .i64 gs[i].1)/\w.cell? ⟨b,i * 2+1,none⟩=some (.int .i64 gs[i].2)) :
  Calls Tryz.prog 36 #[.int .i64 rounds,.slice (some ⟨b,0,none⟩) n n] w fun r w'=>∃ vc vs,r=.returned (qp (qq rounds gs) vc vs)/\(∀ Wf:World,(∀ k,w.heap.size<=k->k<w'.heap.size->Wf.heap[k]?=w'.heap[k]?)->bK Wf vc (qq rounds gs).t.cases/\bh Wf vs (qq rounds gs).a.states)/\Below w.heap.size w w':=by
 obtain⟨i0,cU,cg,bV,cj⟩:=info_parts Tryz.infoMove;have cf:=aa (And.intro cU (And.intro cg (And.intro bV cj)));have HG:=aa hb;have HL:=aa hl
 have HFS:Hid (∀ k (hk:k<gs.length),fr ((gs.take (k+1)).map mw)=fr ((gs.take k).map mw)++(mw gs[k]).c.toList):=aa fun k hk=>by
  rw[List.take_succ_eq_append_getElem hk,List.map_append];simp[fr]
 have VM:Hid (fr ((gs.take gs.length).map mw)=fr (gs.map mw)):=aa (by rw[List.take_length])
 have iS:Hid (∀ m∈gs.map mw,oU m.r/\bM m.to):=aa (fun m hm=>by
  obtain⟨h,hh,rfl⟩:=List.mem_map.1 hm;have z0:bM 0:=⟨by omega,by omega⟩
  exact⟨⟨⟨by simp[mw,SC],by simp[mw,SC]⟩,(cO h hh).1,(cO h hh).2,z0,z0,z0,z0⟩,z0⟩)
 clear cU cg bV cj hb hl cO
 go_enter Tryz.func36,Tryz.ntmps36
 go_wp2_with fail
 refine bm (fun W=>Below w.heap.size w W/\W.heap[w.heap.size]?=some (.cells #[.int .i64 0,.int .i64 0,.int .i64 0,.slice none 0 0,.int .i64 0,.slice none 0 0,.int .i64 0] 29)/\∀ i o,(SD (w.heap.size+1))[i]?=some o->W.heap[w.heap.size+1+i]?=some o) ⟨by go_grown,BG (SD (w.heap.size+1)) (w.alloc _) (am _ _),fun i o h=>by
  have:=Lx (SD (w.heap.size+1)) (w.alloc (.cells #[.int .i64 0,.int .i64 0,.int .i64 0,.slice none 0 0,.int .i64 0,.slice none 0 0,.int .i64 0] 29)) i h;rw[World.size_alloc]at this
  exact this⟩ (fun W1 cD=>?_)
 have bF:=aa cD.1;have cZ:=aa cD.2.1;have nH:=aa cD.2.2;have fP:=aB cD.2.1;have Io:=aa (cD.2.2 11 _ rfl);have iI:=aB Io.out;clear cD
 go_loopw [6,26] (fun o i wr=>∃ k:Nat,k<=n/\i=.int .i64 k/\Below W1.heap.size W1 wr/\aG wr W1.heap.size 143 8 o k (fr ((gs.take k).map mw))) (fun _ i _=>n - (intOf i).toNat)
 case atStart=>exact⟨0,by omega,rfl,Below.refl _ _,aG.nil _ _ _ _⟩
 case round=>
  obtain⟨k,hk,rfl,ar,aX⟩:=hrel;obtain⟨al,cl,rfl⟩:=aX.slice;have bI:=aa aX;have aP:=aa ar;clear aX ar;by_cases aA:k<n
  ·obtain⟨g1,g2⟩:=HG.out k (by rw[HL.out];exact aA)
   have cQ:=ae bF.out aP.out;have t1:=ak cQ g1;have t2:=ak cQ g2;have V0:=HFS.out k (by rw[HL.out];exact aA);generalize gs[k]'(by rw[HL.out];exact aA)=h at t1 t2 V0;obtain⟨h1,h2⟩:=h;dsimp only at t1 t2;have CQ:Hid (fr ((gs.take (k+1)).map mw)=fr ((gs.take k).map mw)++[.int .i64 2,.int .i64 h1,.int .i64 h2,.int .i64 0,.int .i64 0,.int .i64 0,.int .i64 0,.int .i64 0]):=aa V0;have FK:Below wr.heap.size wr ((wr.alloc (.cells #[.int .i64 h1,.int .i64 h2] 92)).alloc (.cells #[.int .i64 2,.int .i64 h1,.int .i64 h2,.int .i64 0,.int .i64 0,.int .i64 0,.int .i64 0,.int .i64 0] 143)):=by go_grown
   have tb:=ab (am wr (.cells #[.int .i64 h1,.int .i64 h2] 92));have ru:=aa FK;have ry:=aa (bI.out.up FK);have bL:=dF (wr.alloc (.cells #[.int .i64 h1,.int .i64 h2] 92)) [.int .i64 2,.int .i64 h1,.int .i64 h2,.int .i64 0,.int .i64 0,.int .i64 0,.int .i64 0,.int .i64 0] 143;rw[World.size_alloc]at bL;have bz:=aa bL;have jN:Hid (k+1<=maxLen):=aa (by unfold maxLen;omega);have eJ:Hid ((k+1) * 64<=140737488355328):=aa (by omega);have gq:Hid (W1.heap.size<=((wr.alloc (.cells #[.int .i64 h1,.int .i64 h2] 92)).alloc (.cells #[.int .i64 2,.int .i64 h1,.int .i64 h2,.int .i64 0,.int .i64 0,.int .i64 0,.int .i64 0,.int .i64 0] 143)).heap.size):=aa (by have:=aP.out.size;simp;omega);clear V0 FK bL g1 g2 cQ
   go_wp2_with (at_builtin;(refine aY _ rfl (.tmp 30) (.tmp 39) 136 rfl W1.heap.size 143 i0 _ 8 64 Tryz.underlying136 cf.out.1 cf.out.2.1 cf.out.2.2.1 cf.out.2.2.2 rfl (by decide) _ k _ rfl ry.out ⟨wr.heap.size+1,0,none⟩ 1 1 [.int .i64 2,.int .i64 h1,.int .i64 h2,.int .i64 0,.int .i64 0,.int .i64 0,.int .i64 0,.int .i64 0] rfl rfl bz.out (by simp[Value.oneCell']) jN.out eJ.out gq.out ?_;intro v9 w9 gc dT _))
   go_roundw
   case rel=>
    refine⟨k+1,by omega,by go_num,Below.grown (ae aP.out ru.out) dT gq.out (fun g hg=>(ry.out.lt g hg).1),?_⟩;rw[CQ.out];exact gc
   case measure=>simp[intOf];omega
  ·obtain rfl:k=n:=by omega
   have ar:=aP.out;have dN:=aa (ap (.cells #[.slice al k cl] 136) (af ar cZ.out));have tT:=ab (ap (.cells #[.slice al k cl] 136) (af ar Io.out));have tT2:=ab (af ar Io.out);clear ar
   go_wp2_with (refine wpList_store_row rfl 29 (.tmp 4) (.tmp 47) rfl w.heap.size #[.int .i64 2,.int .i64 2,.int .i64 2,sV (w.heap.size+1+10) 3,.int .i64 2,.slice (some ⟨wr.heap.size,0,none⟩) 1 1,.int .i64 rounds] rfl rfl 29 _ dN.out (by kernel_rfl) rfl (by simp[Value.oneCell']) ?_)
   have od:Below W1.heap.size W1 (wr.alloc (.cells #[.slice al k cl] 136)):=aP.out.alloc aP.out.size _;have wc:=below_setRow (ae bF.out od) (Nat.le_refl _) #[.int .i64 2,.int .i64 2,.int .i64 2,sV (w.heap.size+1+10) 3,.int .i64 2,.slice (some ⟨wr.heap.size,0,none⟩) 1 1,.int .i64 rounds];have hRt:∀ q,q≠w.heap.size->((wr.alloc (.cells #[.slice al k cl] 136)).setRow w.heap.size #[.int .i64 2,.int .i64 2,.int .i64 2,sV (w.heap.size+1+10) 3,.int .i64 2,.slice (some ⟨wr.heap.size,0,none⟩) 1 1,.int .i64 rounds]).heap[q]?=(wr.alloc (.cells #[.slice al k cl] 136)).heap[q]?:=fun _ hk=>setRow_other _ _ _ _ hk
   refine bodyPost_ret (GX _ w.heap.size _ _ _ _ _ _ _ _ rfl (setRow_heap _ _ _ _ _ _ dN.out)) rfl ⟨sV (w.heap.size+1+10) 3,.slice (some ⟨wr.heap.size,0,none⟩) 1 1,rfl,fun Wf Iz=>?_,wc⟩;have eT:(wr.alloc (.cells #[.slice al k cl] 136)).heap.size<=((wr.alloc (.cells #[.slice al k cl] 136)).setRow w.heap.size #[.int .i64 2,.int .i64 2,.int .i64 2,sV (w.heap.size+1+10) 3,.int .i64 2,.slice (some ⟨wr.heap.size,0,none⟩) 1 1,.int .i64 rounds]).heap.size:=(below_setRow (Below.refl w.heap.size _) (Nat.le_refl _) _).size;have CW:∀ g o,w.heap.size<g->(wr.alloc (.cells #[.slice al k cl] 136)).heap[g]?=some o->Wf.heap[g]?=some o:=fun g o hg ho=>(Iz g (by omega) (Nat.lt_of_lt_of_le (aB ho) eT)).trans ((setRow_other _ _ _ _ (by omega)).trans ho)
   have rk:=aP.out.size;refine⟨QJ fun i o h=>CW _ _ (by omega) (af od (nH.out i o h)),?_⟩
   have hm:oG Wf (.slice al k cl) (gs.map mw):=by
    have h1:=bI.out;have e1:fr ((gs.take k).map mw)=fr (gs.map mw):=by rw[<-VM.out,HL.out]
    rw[e1]at h1;have h2:=h1.keep (w':=Wf) (fun g o hg ho=>CW g o (by have:=(h1.lt g hg).1;omega) (ap _ ho));refine Er (l:=gs.map mw) (base:=W1.heap.size) (by rw[List.length_map,HL.out];exact h2) iS.out (by rw[List.length_map,HL.out];omega)
   exact xA (CW _ _ (by omega) (am _ _)) hm
theorem QK{w:World} {v:Value} {l:List Cs} {xs:List Value} (h:bK w v l) (hr:mu w 3 v l.length xs) (i:Nat) (hi:i<l.length) :
  ∃ a b c,xs[i * 3]?=some a/\xs[i * 3+1]?=some b/\xs[i * 3+2]?=some c/\aT w a l[i].inp/\dR w b l[i].out/\dR w c l[i].calm:=by
 obtain⟨p,cap,rfl,_,iu,hc,_⟩:=hr;obtain⟨p',cap',e,_,_,h3⟩:=h;cases e;obtain⟨b,o,rfl,⟨a0,q0,r0⟩,⟨a1,q1,r1⟩,⟨a2,q2,r2⟩⟩:=h3 i _ (List.getElem?_eq_getElem hi)
 have key:∀ s u,s<3->w.cell? ⟨b,o+i * 3+s,none⟩=some u->xs[i * 3+s]?=some u:=fun s u hs hu=>by
  have aA:i * 3+s<xs.length:=by omega
  obtain⟨b',o',e,hq⟩:=hc (i * 3+s) xs[i * 3+s] (List.getElem?_eq_getElem aA);cases e;rw[<-Nat.add_assoc,hu]at hq;rw[List.getElem?_eq_getElem aA,<-dp hq]
 exact⟨a0,a1,a2,key 0 _ (by omega) q0,key 1 _ (by omega) q1,key 2 _ (by omega) q2,r0,r1,r2⟩
theorem Oa{w:World} {v:Value} {l:List (List Mv)} {xs:List Value} (h:bh w v l) (hr:mu w 1 v l.length xs) (i:Nat) (hi:i<l.length):∃ a,xs[i]?=some a/\oG w a l[i]:=by
 obtain⟨p,cap,rfl,_,iu,hc,_⟩:=hr;obtain⟨p',cap',e,_,_,h3⟩:=h;cases e;obtain⟨b,o,rfl,a0,q0,r0⟩:=h3 i _ (List.getElem?_eq_getElem hi);refine⟨a0,?_,r0⟩;have aA:i<xs.length:=by omega
 obtain⟨b',o',e,hq⟩:=hc i xs[i] (List.getElem?_eq_getElem aA);cases e;rw[Nat.mul_one]at q0;rw[q0]at hq;rw[List.getElem?_eq_getElem aA,<-dp hq]
def Ug(W:World) (base:Nat) (cur:Array Value) (i:Nat) (c:Cs):Prop:=
 ∃ a b d,cur[i * 3]?=some a/\cur[i * 3+1]?=some b/\cur[i * 3+2]?=some d/\aG W base 3 1 a c.inp.length (c.inp.map (Value.int .i64))/\cI W base b c.out/\cI W base d c.calm
structure CaseRow (base g cap:Nat) (raw:List Value) (cs:List Cs) (k:Nat) (W:World):Prop where
 lo:base<=g
 fit:cs.length<=cap/\cap<=maxLen
 row:∃ cur fz,W.heap[g]?=some (.cells cur 135 fz)/\(∀ i,i<cur.size->¬ (fz.1<=i/\i<fz.2))/\cur.size=cap * 3/\(∀ i (hi:i<cs.length),i<k->Ug W base cur i cs[i])/\∀ j,k * 3<=j->j<cs.length * 3->cur[j]?=raw[j]?
theorem bX.setT{α:Type} {to ti:TypeId} {k:Nat} {flat:List α->List Value} {w:World} {base:Nat} {v:Value} {l:List (List α)} {B:Nat} {cs:Array Value} {t:TypeId} {f:Nat × Nat} (h:bX to ti k flat w base v l) (hB:w.heap[B]?=some (.cells cs t f)) (h1:to≠t) (h2:ti≠t) (o:Nat) (x:Value):bX to ti k flat (w.setCell ⟨B,o,none⟩ x) base v l:=by
 obtain⟨xs,q1,q2⟩:=h;exact⟨xs,q1.put (fun g e=>q1.ne hB h1 g e) _ _,fun i hi=>by obtain⟨y,p1,p2⟩:=q2 i hi;exact⟨y,p1,p2.put (fun g e=>p2.ne hB h2 g e) _ _⟩⟩
theorem CaseRow.up{base g cap:Nat} {raw:List Value} {cs:List Cs} {k:Nat} {W W':World} (h:CaseRow base g cap raw cs k W) (hb:Below W.heap.size W W'):CaseRow base g cap raw cs k W':=by
 obtain⟨cur,fz,q1,q2,q3,q4,q5⟩:=h.row;exact⟨h.lo,h.fit,cur,fz,af hb q1,q2,q3,fun i hi hk=>by obtain⟨a,b,d,p1,p2,p3,p4,p5,p6⟩:=q4 i hi hk;exact⟨a,b,d,p1,p2,p3,p4.up hb,p5.up hb,p6.up hb⟩,q5⟩
theorem CaseRow.put{base g cap:Nat} {raw:List Value} {cs:List Cs} {k:Nat} {W:World} (h:CaseRow base g cap raw cs k W) (hk:k<cs.length) {a b d:Value} (h1:aG W base 3 1 a cs[k].inp.length (cs[k].inp.map (Value.int .i64))) (h2:cI W base b cs[k].out) (h3:cI W base d cs[k].calm) :
  CaseRow base g cap raw cs (k+1) (((W.setCell ⟨g,k * 3,none⟩ a).setCell ⟨g,k * 3+1,none⟩ b).setCell ⟨g,k * 3+2,none⟩ d):=by
 obtain⟨cur,fz,q1,q2,q3,q4,q5⟩:=h.row;have e1:=aF q1 (k * 3) a;have e2:=aF e1 (k * 3+1) b;have e3:=aF e2 (k * 3+2) d
 have ko:∀ {x:Value} {n:Nat} {xs:List Value},aG W base 3 1 x n xs->aG (((W.setCell ⟨g,k * 3,none⟩ a).setCell ⟨g,k * 3+1,none⟩ b).setCell ⟨g,k * 3+2,none⟩ d) base 3 1 x n xs:=fun hq=>
  have w1:=hq.put (fun g' e=>hq.ne q1 (by decide) g' e) (k * 3) a;have w2:=w1.put (fun g' e=>w1.ne e1 (by decide) g' e) (k * 3+1) b
  w2.put (fun g' e=>w2.ne e2 (by decide) g' e) (k * 3+2) d
 have kf:∀ {x:Value} {l:List (List Int)},cI W base x l->cI (((W.setCell ⟨g,k * 3,none⟩ a).setCell ⟨g,k * 3+1,none⟩ b).setCell ⟨g,k * 3+2,none⟩ d) base x l:=fun hq=>
  ((hq.setT q1 (by decide) (by decide) _ _).setT e1 (by decide) (by decide) _ _).setT e2 (by decide) (by decide) _ _
 have eT:k * 3+2<cur.size:=by have:=h.fit.1;omega
 refine⟨h.lo,h.fit,_,fz,e3,fun i hi=>q2 i (by simpa using hi),by simpa using q3,fun i hi kl=>?_,fun j hj Fi=>?_⟩
 ·by_cases aA:i<k
  ·obtain⟨x,y,z,p1,p2,p3,p4,p5,p6⟩:=q4 i hi aA
   refine⟨x,y,z,?_,?_,?_,ko p4,kf p5,kf p6⟩
   ·rw[Array.getElem?_setIfInBounds_ne (by omega),Array.getElem?_setIfInBounds_ne (by omega),Array.getElem?_setIfInBounds_ne (by omega)];exact p1
   ·rw[Array.getElem?_setIfInBounds_ne (by omega),Array.getElem?_setIfInBounds_ne (by omega),Array.getElem?_setIfInBounds_ne (by omega)];exact p2
   ·rw[Array.getElem?_setIfInBounds_ne (by omega),Array.getElem?_setIfInBounds_ne (by omega),Array.getElem?_setIfInBounds_ne (by omega)];exact p3
  ·obtain rfl:i=k:=by omega
   refine⟨a,b,d,?_,?_,?_,ko h1,kf h2,kf h3⟩
   ·rw[Array.getElem?_setIfInBounds_ne (by omega),Array.getElem?_setIfInBounds_ne (by omega),Array.getElem?_setIfInBounds_self_of_lt (by omega)]
   ·rw[Array.getElem?_setIfInBounds_ne (by omega),Array.getElem?_setIfInBounds_self_of_lt (by simp;omega)]
   ·rw[Array.getElem?_setIfInBounds_self_of_lt (by simp;omega)]
 ·rw[Array.getElem?_setIfInBounds_ne (by omega),Array.getElem?_setIfInBounds_ne (by omega),Array.getElem?_setIfInBounds_ne (by omega)]
  exact q5 j (by omega) Fi
theorem nm{W:World} {base:Nat} {v:Value} {l:List (List Int)} (h:cI W base v l) (hr:∀ x∈l,∀ y∈x,bM y) (hn:l.length<=1048576) (nW:∀ x∈l,x.length<=1048576):dR W v l:=
 bX.sl h (fun x a ha ho=>gu ho (hr a ha) (by have:=nW a ha;omega)) (by omega)
theorem vR{w:World} {v:Value} {l:List Cs} (h:bK w v l):∀ c∈l,(∀ y∈c.inp,bM y)/\(∀ x∈c.out,∀ y∈x,bM y)/\∀ x∈c.calm,∀ y∈x,bM y:=fun c hc=>by
 have hv:∀ {b o:Nat} {q:List (List Int)},ug w b o q->∀ x∈q,∀ y∈x,bM y:=fun {b o q} hq x hx=>by
  obtain⟨u,_,p,cap,rfl,_,_,e⟩:=hq;obtain⟨i,hi,rfl⟩:=List.getElem_of_mem hx;obtain⟨_,_,_,u2,_,h2⟩:=e i _ (List.getElem?_eq_getElem hi);exact Gq h2
 obtain⟨i,hi,rfl⟩:=List.getElem_of_mem hc;obtain⟨p,cap,rfl,_,_,e⟩:=h;obtain⟨_,_,_,⟨_,_,h0⟩,h1,h2⟩:=e i _ (List.getElem?_eq_getElem hi);exact⟨Gq h0,hv h1,hv h2⟩
theorem CaseRow.done{base g cap:Nat} {raw:List Value} {t:Tk} {k:Nat} {W:World} (h:CaseRow base g cap raw t.cases k W) (hk:t.cases.length<=k) (ht:taskE t=0) (cO:∀ c∈t.cases,(∀ y∈c.inp,bM y)/\(∀ x∈c.out,∀ y∈x,bM y)/\∀ x∈c.calm,∀ y∈x,bM y):bK W (.slice (some ⟨g,0,none⟩) t.cases.length cap) t.cases:=by
 obtain⟨cur,fz,q1,q2,q3,q4,q5⟩:=h.row;obtain⟨⟨_,ji⟩,_,_,⟨_,hl⟩,gg⟩:=eY ht;have hf:=h.fit;refine⟨some ⟨g,0,none⟩,cap,rfl,⟨hf.1,by have:=hf.2;unfold maxLen at this;omega,fun e=>by cases e⟩,by omega,fun i x hx=>⟨g,0,rfl,?_⟩⟩;obtain⟨hi,rfl⟩:=List.getElem?_eq_some_iff.1 hx;obtain⟨a,b,d,p1,p2,p3,p4,p5,p6⟩:=q4 i hi (by omega);obtain⟨r1,r2,r3⟩:=cO _ (List.getElem_mem hi);have ho:=gg _ (List.getElem_mem hi);rw[Nat.zero_add];have c1:=ho.inp;have c2:=ho.out2;have c3:=ho.calm;refine⟨⟨a,(ab q1 _).trans p1,gu p4 r1 (by omega)⟩,⟨b,(ab q1 _).trans p2,nm p5 r2 (by omega) (fun x hx=>by have:=ho.outs x hx;omega)⟩,⟨d,(ab q1 _).trans p3,nm p6 r3 (by omega) (fun x hx=>by have:=ho.outs x (ho.calms x hx);omega)⟩⟩
structure StateRow (base g cap:Nat) (raw:List Value) (l:List (List Mv)) (k:Nat) (W:World):Prop where
 lo:base<=g
 fit:l.length<=cap/\cap<=maxLen
 row:∃ cur fz,W.heap[g]?=some (.cells cur 136 fz)/\(∀ i,i<cur.size->¬ (fz.1<=i/\i<fz.2))/\cur.size=cap/\(∀ i (hi:i<l.length),i<k->∃ a,cur[i]?=some a/\aG W base 143 8 a l[i].length (fr l[i]))/\∀ j,k<=j->j<l.length->cur[j]?=raw[j]?
theorem StateRow.up{base g cap:Nat} {raw:List Value} {l:List (List Mv)} {k:Nat} {W W':World} (h:StateRow base g cap raw l k W) (hb:Below W.heap.size W W'):StateRow base g cap raw l k W':=by
 obtain⟨cur,fz,q1,q2,q3,q4,q5⟩:=h.row;exact⟨h.lo,h.fit,cur,fz,af hb q1,q2,q3,fun i hi hk=>by obtain⟨a,p1,p2⟩:=q4 i hi hk;exact⟨a,p1,p2.up hb⟩,q5⟩
theorem StateRow.put{base g cap:Nat} {raw:List Value} {l:List (List Mv)} {k:Nat} {W:World} (h:StateRow base g cap raw l k W) (hk:k<l.length) {a:Value} (h1:aG W base 143 8 a l[k].length (fr l[k])):StateRow base g cap raw l (k+1) (W.setCell ⟨g,k,none⟩ a):=by
 obtain⟨cur,fz,q1,q2,q3,q4,q5⟩:=h.row;have eT:k<cur.size:=by have:=h.fit.1;omega
 refine⟨h.lo,h.fit,_,fz,aF q1 k a,fun i hi=>q2 i (by simpa using hi),by simpa using q3,fun i hi kl=>?_,fun j hj Fi=>?_⟩
 ·by_cases aA:i<k
  ·obtain⟨x,p1,p2⟩:=q4 i hi aA
   exact⟨x,by rw[Array.getElem?_setIfInBounds_ne (by omega)];exact p1,p2.put (fun g' e=>p2.ne q1 (by decide) g' e) _ _⟩
  ·obtain rfl:i=k:=by omega
   exact⟨a,by rw[Array.getElem?_setIfInBounds_self_of_lt (by omega)],h1.put (fun g' e=>h1.ne q1 (by decide) g' e) _ _⟩
 ·rw[Array.getElem?_setIfInBounds_ne (by omega)]
  exact q5 j (by omega) Fi
theorem StateRow.done{base g cap:Nat} {raw:List Value} {l:List (List Mv)} {k:Nat} {W:World} (h:StateRow base g cap raw l k W) (hk:l.length<=k) (hl:l.length<=256) (mP:∀ x∈l,x.length<=1048576) (cO:∀ x∈l,∀ m∈x,oU m.r/\bM m.to):bh W (.slice (some ⟨g,0,none⟩) l.length cap) l:=by
 obtain⟨cur,fz,q1,q2,q3,q4,q5⟩:=h.row;have hf:=h.fit;refine⟨some ⟨g,0,none⟩,cap,rfl,⟨hf.1,by have:=hf.2;unfold maxLen at this;omega,fun e=>by cases e⟩,by omega,fun i x hx=>⟨g,0,rfl,?_⟩⟩;obtain⟨hi,rfl⟩:=List.getElem?_eq_some_iff.1 hx;obtain⟨a,p1,p2⟩:=q4 i hi (by omega);rw[Nat.zero_add,Nat.mul_one];exact⟨a,(ab q1 _).trans p1,Er p2 (cO _ (List.getElem_mem hi)) (by have:=mP _ (List.getElem_mem hi);omega)⟩
theorem LM{w:World} {v:Value} {l:List (List Mv)} (h:bh w v l):∀ x∈l,∀ m∈x,oU m.r/\bM m.to:=fun x hx=>by
 obtain⟨i,hi,rfl⟩:=List.getElem_of_mem hx;obtain⟨p,cap,rfl,_,_,e⟩:=h;obtain⟨_,_,_,u,_,hu⟩:=e i _ (List.getElem?_eq_getElem hi);exact QD hu
theorem Below.trans3{w a b c:World} (h1:Below w.heap.size w a) (h2:Below a.heap.size a b) (h3:Below b.heap.size b c):Below w.heap.size w c:=ae h1 (ae h2 h3)
theorem bX.lower9{α:Type} {to ti:TypeId} {k:Nat} {flat:List α->List Value} {w:World} {base b:Nat} {v:Value} {l:List (List α)} (h:bX to ti k flat w base v l) (hb:b<=base):bX to ti k flat w b v l:=by
 obtain⟨xs,q1,q2⟩:=h;exact⟨xs,q1.base hb,fun i hi=>by obtain⟨x,p1,p2⟩:=q2 i hi;exact⟨x,p1,p2.base hb⟩⟩
abbrev zPb:Array Value:=#[.int .i64 0,.int .i64 0,.int .i64 0,.slice none 0 0,.int .i64 0,.slice none 0 0,.int .i64 0]
theorem aG.from{w w':World} {base sz:Nat} {e:TypeId} {v:Value} {n:Nat} {xs:List Value} (h:aG w base e sz v n xs) (hk:∀ k o,base<=k->w.heap[k]?=some o->w'.heap[k]?=some o):aG w' base e sz v n xs:=
 h.keepT fun g o e1 e2=>hk g o (h.lt g e1).1 e2
theorem bX.from{α:Type} {to ti:TypeId} {k:Nat} {flat:List α->List Value} {w w':World} {base:Nat} {v:Value} {l:List (List α)} (h:bX to ti k flat w base v l) (hk:∀ k o,base<=k->w.heap[k]?=some o->w'.heap[k]?=some o):bX to ti k flat w' base v l:=by
 obtain⟨xs,q1,q2⟩:=h;exact⟨xs,q1.from hk,fun i hi=>by obtain⟨x,p1,p2⟩:=q2 i hi;exact⟨x,p1,p2.from hk⟩⟩
theorem CaseRow.from{base g cap:Nat} {raw:List Value} {cs:List Cs} {k:Nat} {W W':World} (h:CaseRow base g cap raw cs k W) (hk:∀ k o,base<=k->W.heap[k]?=some o->W'.heap[k]?=some o):CaseRow base g cap raw cs k W':=by
 obtain⟨cur,fz,q1,q2,q3,q4,q5⟩:=h.row;exact⟨h.lo,h.fit,cur,fz,hk _ _ h.lo q1,q2,q3,fun i hi kl=>by obtain⟨a,b,d,p1,p2,p3,p4,p5,p6⟩:=q4 i hi kl;exact⟨a,b,d,p1,p2,p3,p4.from hk,p5.from hk,p6.from hk⟩,q5⟩
theorem StateRow.from{base g cap:Nat} {raw:List Value} {l:List (List Mv)} {k:Nat} {W W':World} (h:StateRow base g cap raw l k W) (hk:∀ k o,base<=k->W.heap[k]?=some o->W'.heap[k]?=some o):StateRow base g cap raw l k W':=by
 obtain⟨cur,fz,q1,q2,q3,q4,q5⟩:=h.row;exact⟨h.lo,h.fit,cur,fz,hk _ _ h.lo q1,q2,q3,fun i hi kl=>by obtain⟨a,p1,p2⟩:=q4 i hi kl;exact⟨a,p1,p2.from hk⟩,q5⟩
theorem CaseRow.keep{base g cap:Nat} {raw:List Value} {cs:List Cs} {k:Nat} {W W':World} {ts:List TypeId} {ms:List Nat} {b:Nat} (h:CaseRow base g cap raw cs k W) (hk:KeepT ts ms b W W') (h1:135∉ts) (h2:3∉ts) (h3:38∉ts):CaseRow base g cap raw cs k W':=by
 obtain⟨cur,fz,q1,q2,q3,q4,q5⟩:=h.row;exact⟨h.lo,h.fit,cur,fz,hk.keep _ _ _ _ q1 h1,q2,q3,fun i hi kl=>by obtain⟨a,b,d,p1,p2,p3,p4,p5,p6⟩:=q4 i hi kl;exact⟨a,b,d,p1,p2,p3,hk.own p4 h2,hk.fresh p5 h3 h2,hk.fresh p6 h3 h2⟩,q5⟩
theorem StateRow.keep{base g cap:Nat} {raw:List Value} {l:List (List Mv)} {k:Nat} {W W':World} {ts:List TypeId} {ms:List Nat} {b:Nat} (h:StateRow base g cap raw l k W) (hk:KeepT ts ms b W W') (h1:136∉ts) (h2:143∉ts):StateRow base g cap raw l k W':=by
 obtain⟨cur,fz,q1,q2,q3,q4,q5⟩:=h.row;exact⟨h.lo,h.fit,cur,fz,hk.keep _ _ _ _ q1 h1,q2,q3,fun i hi kl=>by obtain⟨a,p1,p2⟩:=q4 i hi kl;exact⟨a,p1,hk.own p2 h2⟩,q5⟩
def Uh(base:Nat) (l:List Mv):MP:=⟨fun x W=>aG W base 143 8 x l.length (fr l),fun _ _ _ h hb=>h.up hb⟩
theorem List.single_le_sum9(l:List Nat) (x:Nat) (h:x∈l):x<=l.sum:=by
 induction l with
 | nil=>simp at h
 | cons a r ih=>
  rw[List.sum_cons];rcases List.mem_cons.1 h with rfl|h
  ·omega
  ·have:=ih h
   omega
theorem GY(l:List (List Mv)) (k:Nat) (h:k<l.length):l[k].length<=movesN l:=by
 unfold movesN;exact List.single_le_sum9 (l.map List.length) _ (List.mem_map.2 ⟨_,List.getElem_mem h,rfl⟩)
theorem qT{W:World} {g:Nat} {cur:Array Value} {t:TypeId} {fz:Nat × Nat} (h:W.heap[g]?=some (.cells cur t fz)) (hf:∀ i,i<cur.size->¬ (fz.1<=i/\i<fz.2)) (o:Nat) (ho:o<cur.size):W.frozen? ⟨g,o,none⟩=false:=by
 simp only[World.frozen?,h];have:=hf o ho;simpa using this
def U2(base:Nat) (l:List Int):MP:=⟨fun x W=>aG W base 3 1 x l.length (l.map (Value.int .i64)),fun _ _ _ h hb=>h.up hb⟩
def Ob(base:Nat) (l:List (List Int)):MP:=⟨fun x W=>cI W base x l,fun _ _ _ h hb=>h.up hb⟩
def Oc(base:Nat) (c:Cs):MP:=⟨fun x W=>∃ a b d,x=.agg #[a,b,d]/\aG W base 3 1 a c.inp.length (c.inp.map (Value.int .i64))/\cI W base b c.out/\cI W base d c.calm,fun _ _ _ h hb=>by obtain⟨a,b,d,h1,h2,h3,h4⟩:=h;exact⟨a,b,d,h1,h2.up hb,h3.up hb,h4.up hb⟩⟩
theorem Od{base:Nat} {c:Cs} {W:World} {a b d:Value} (h2:aG W base 3 1 a c.inp.length (c.inp.map (Value.int .i64))) (h3:cI W base b c.out) (h4:cI W base d c.calm):(Oc base c).p (.agg #[a,b,d]) W:=⟨a,b,d,rfl,h2,h3,h4⟩
theorem bX.slice{α:Type} {to ti:TypeId} {k:Nat} {flat:List α->List Value} {w:World} {base:Nat} {v:Value} {l:List (List α)} (h:bX to ti k flat w base v l):∃ a c,v=.slice a l.length c:=by
 obtain⟨xs,q,_⟩:=h;exact q.slice
theorem Du(p:Pb) (vc vs:Value) (w:World) (hc:bK w vc p.t.cases) (hs:bh w vs p.a.states) (ht:taskE p.t=0) (ha:advE p.a=0) (hN:movesN p.a.states<=4096) :
  Calls Tryz.prog 163 #[qp p vc vs] w fun e w'=>∃ uc us,e=.returned (qp p uc us)/\(∀ W:World,(∀ k o,w.heap.size<=k->w'.heap[k]?=some o->W.heap[k]?=some o)->bK W uc p.t.cases/\bh W us p.a.states)/\Below w.heap.size w w':=by
 obtain⟨raw,hraw⟩:=N4 hc;obtain⟨raw2,hraw2⟩:=LH hs;have HC:=aa hc;have HS:=aa hs;have HR:=aa hraw;have dN:=aa hraw2;obtain⟨⟨_,ji⟩,_,_,⟨wh,bP⟩,gg⟩:=eY ht;obtain⟨⟨fP,iI⟩,_⟩:=gY ha;have dB:=aa gg;obtain⟨pc,cc,rfl,_⟩:=hc.at;obtain⟨ps,cs,rfl,_⟩:=hs.at;clear hc hs hraw hraw2 gg
 go_enter Tryz.func163,Tryz.ntmps163
 go_wp2_with fail
 refine aN (fun W=>Below w.heap.size w W/\W.heap[w.heap.size]?=some (.cells #[.int .i64 p.t.n,.int .i64 p.t.ins,.int .i64 p.t.outs,.slice pc p.t.cases.length cc,.int .i64 p.a.n,.slice ps p.a.states.length cs,.int .i64 p.rounds] 29)/\W.heap[w.heap.size+1]?=some (.cells zPb 29)) ⟨by go_grown,ap _ (am _ _),bd _ _ _⟩ (fun W0 aV=>?_);obtain⟨aH,bB,gR⟩:=aV;have cg:=aH.size;refine(Dr _ p.t.cases.length raw W0 ?_ (by omega)).mono ?_
 ·obtain⟨q,cap,e,h1,h2,h3,h4⟩:=HR.out
  exact⟨q,cap,e,h1,h2,fun j u hj=>by obtain⟨b,o,e1,e2⟩:=h3 j u hj;exact⟨b,o,e1,ak aH e2⟩,h4⟩
 rintro e w1 ⟨u,rfl,hu,aI⟩
 have bW:∃ g cap,u=.slice (some ⟨g,0,none⟩) p.t.cases.length cap/\CaseRow w.heap.size g cap raw p.t.cases 0 w1:=by
  rcases hu.2 with ⟨_,h0⟩|⟨g,cap,cur,fz,rfl,h1,h2,h3,h4,h5,h6,h7⟩
  ·omega
  ·refine⟨g,cap,rfl,by omega,⟨h4,h5⟩,cur,fz,h2,h3,h6,fun i hi hk=>by omega,fun j _ hj=>?_⟩
   rw[<-h7,List.getElem?_take_of_lt hj];simp
 obtain⟨g,cap,rfl,bW⟩:=bW;have iX:=ae aH aI;have dZ:=af aI bB;have K9:=af aI gR;have t1:=ab dZ;have z1:=fun o=>aE dZ o
 have jZ:=aa bW;have du:=aa dZ;have gp:=aa K9;have bV:=aI.size;have Vp:=aB K9;clear hu bW bB gR dZ K9
 go_wp2_with fail
 clear t1 z1;refine bm (fun W=>Below w.heap.size w W/\W.heap[w.heap.size]?=some (.cells #[.int .i64 p.t.n,.int .i64 p.t.ins,.int .i64 p.t.outs,.slice (some ⟨g,0,none⟩) p.t.cases.length cap,.int .i64 p.a.n,.slice ps p.a.states.length cs,.int .i64 p.rounds] 29)/\W.heap[w.heap.size+1]?=some (.cells zPb 29)/\CaseRow w.heap.size g cap raw p.t.cases 0 W) ?_ (fun W2 eK=>?_)
 ·refine⟨iX.setCell (Nat.le_refl _) _,by rw[aF du.out];rfl,aJ gp.out (by omega) _ _,?_⟩
  obtain⟨cur,fz,q1,q2,q3,q4,q5⟩:=jZ.out.row;exact⟨jZ.out.lo,jZ.out.fit,cur,fz,aJ q1 (fun e=>by have:=du.out;rw[<-e,q1]at this;cases this) _ _,q2,q3,fun i hi hk=>by omega,q5⟩
 obtain⟨aU,hA2,qF,sO⟩:=eK
 go_loopw [17] (fun i wr=>∃ k:Nat,k<=p.t.cases.length/\i=.int .i64 k/\Below w.heap.size w wr/\wr.heap[w.heap.size]?=some (.cells #[.int .i64 p.t.n,.int .i64 p.t.ins,.int .i64 p.t.outs,.slice (some ⟨g,0,none⟩) p.t.cases.length cap,.int .i64 p.a.n,.slice ps p.a.states.length cs,.int .i64 p.rounds] 29)/\wr.heap[w.heap.size+1]?=some (.cells zPb 29)/\CaseRow w.heap.size g cap raw p.t.cases k wr) (fun i _=>p.t.cases.length - (intOf i).toNat)
 case atStart=>exact⟨0,by omega,rfl,aU,hA2,qF,sO⟩
 case round=>
  clear aU hA2 qF sO;obtain⟨k,hk,rfl,ar,hA,hO,bW⟩:=hrel;have HA:=aa hA;have HO:=aa hO;have ze:=aa bW;by_cases aA:k<p.t.cases.length
  ·obtain⟨va,vb,vd,q1,q2,q3,i1,i2,i3⟩:=QK HC.out HR.out k aA
   obtain⟨cur,fz,p1,p2,p3,_,p5⟩:=bW.row;have Iq:=bW.fit.1;have d0:wr.cell? ⟨g,k * 3,none⟩=some va:=by rw[ab p1,p5 _ (by omega) (by omega),q1]
   have d1:wr.cell? ⟨g,k * 3+1,none⟩=some vb:=by rw[ab p1,p5 _ (by omega) (by omega),q2]
   have d2:wr.cell? ⟨g,k * 3+2,none⟩=some vd:=by rw[ab p1,p5 _ (by omega) (by omega),q3]
   have I1:=aa i1;have I2:=aa i2;have I3:=aa i3;obtain⟨pa,ca,rfl,_⟩:=i1.at;obtain⟨pb,cb,rfl,_⟩:=i2.at;obtain⟨pd,cd,rfl,_⟩:=i3.at;have nH:=aa (dB.out _ (List.getElem_mem aA));have Ii:=aa (fun (W:World) (h:CaseRow w.heap.size g cap raw p.t.cases k W) (a b d:Value)=>h.put aA (a:=a) (b:=b) (d:=d));have WB:=aB p1;clear q1 q2 q3 i1 i2 i3 p1 p2 p3 p5 hA hO bW;generalize p.t.cases[k]=c at I1 I2 I3 nH Ii d0 d1 d2
   go_wp2_with fail
   clear d0 d1 d2;refine bm (fun W=>Below wr.heap.size wr W/\W.heap[wr.heap.size]?=some (.cells #[.slice pa c.inp.length ca,.slice pb c.out.length cb,.slice pd c.calm.length cd] 135)) ⟨by go_grown,am _ _⟩ (fun W4 hW4=>?_);obtain⟨bQ,hx4⟩:=hW4;have kZ:=aa hx4;have Im:=aa (af bQ HA.out);have AE:=ar.size;have TG:=aB HA.out;have Vp:=aB HO.out;clear hx4
   refine fU 14 [22,23,24,25,26,27,28,29,30,31,32,33,34,35] [MP.eq (.pointer (some ⟨w.heap.size,0,none⟩)),
    MP.eq (.pointer (some ⟨w.heap.size,3,none⟩)),
    MP.eq (.slice (some ⟨g,0,none⟩) p.t.cases.length cap),
    MP.eq (.int .i64 k),
    MP.eq (.pointer (some ⟨wr.heap.size,0,none⟩)),
    MP.eq (.slice pa c.inp.length ca),
    U2 w.heap.size c.inp,
    MP.eq (.pointer (some ⟨wr.heap.size,1,none⟩)),
    MP.eq (.slice pb c.out.length cb),
    Ob w.heap.size c.out,
    MP.eq (.pointer (some ⟨wr.heap.size,2,none⟩)),
    MP.eq (.slice pd c.calm.length cd),
    Ob w.heap.size c.calm,
    Oc w.heap.size c] (by kernel_rfl) (by simp) (by decide) rfl (by kernel_rfl) (by kernel_rfl) (by kernel_rfl) ?step ?tail
   case step=>
    intro x W i o s F hi ho hs hB aq hF;have fE:i=0\/i=1\/i=2\/i=3\/i=4\/i=5\/i=6\/i=7\/i=8\/i=9\/i=10\/i=11\/i=12\/i=13:=by omega
    rcases fE with rfl|rfl|rfl|rfl|rfl|rfl|rfl|rfl|rfl|rfl|rfl|rfl|rfl|rfl
    all_goals (obtain rfl:=dp ho.symm;obtain rfl:=dp hs.symm;simp only[br,cW,List.setIfInBounds_toArray,List.set_cons_succ,List.set_cons_zero,Nat.reduceAdd]at hF)
    ·clear aq hi ho hs
     subst hF
     go_wp2_with fail
     exact ky _ (Below.refl _ _) rfl
    ·have d0:=oQ (aq ⟨0,.data⟩ (by simp) rfl)
     clear aq hi ho hs;simp only[d0]at hF;subst hF
     go_wp2_with fail
     exact ky _ (Below.refl _ _) rfl
    ·have d1:=oQ (aq ⟨1,.data⟩ (by simp) rfl)
     clear aq hi ho hs;have t1:=ab (af hB Im.out) 3;simp at t1;simp only[d1]at hF;subst hF
     go_wp2_with fail
     exact ky _ (Below.refl _ _) rfl
    ·clear aq hi ho hs
     subst hF
     go_wp2_with fail
     exact ky _ (Below.refl _ _) rfl
    ·clear aq hi ho hs
     subst hF
     go_wp2_with fail
     exact ky _ (Below.refl _ _) rfl
    ·have d4:=oQ (aq ⟨4,.data⟩ (by simp) rfl)
     clear aq hi ho hs;have t1:=ab (af hB kZ.out) 0;simp at t1;simp only[d4]at hF;subst hF
     go_wp2_with fail
     exact ky _ (Below.refl _ _) rfl
    ·have d5:=oQ (aq ⟨5,.data⟩ (by simp) rfl)
     clear aq hi ho hs;simp only[d5]at hF;subst hF
     go_wp2_with fail
     refine(ux _ c.inp W (I1.out.up up_int (Below.trans3 ar bQ hB)) (by have:=nH.out.inp;omega)).mono ?_;rintro e w9 ⟨u9,rfl,jj,fk⟩;have mT:=aa (jj.base (show w.heap.size<=W.heap.size by have:=hB.size;have:=bQ.size;omega));clear jj
     go_wp2_with fail
     exact ky _ fk mT.out
    ·clear aq hi ho hs
     subst hF
     go_wp2_with fail
     exact ky _ (Below.refl _ _) rfl
    ·have d7:=oQ (aq ⟨7,.data⟩ (by simp) rfl)
     clear aq hi ho hs;have t1:=ab (af hB kZ.out) 1;simp at t1;simp only[d7]at hF;subst hF
     go_wp2_with fail
     exact ky _ (Below.refl _ _) rfl
    ·have d8:=oQ (aq ⟨8,.data⟩ (by simp) rfl)
     clear aq hi ho hs;simp only[d8]at hF;subst hF
     go_wp2_with fail
     refine(sg _ c.out W (I2.out.up up_ints (Below.trans3 ar bQ hB)) (by have:=nH.out.out2;have:=nH.out.calm;omega) (fun x hx=>by have:=nH.out.outs x hx;omega)).mono ?_;rintro e w9 ⟨u9,rfl,jj,fk⟩;have mT:=aa (bX.lower9 jj (show w.heap.size<=W.heap.size by have:=hB.size;have:=bQ.size;omega));clear jj
     go_wp2_with fail
     exact ky _ fk mT.out
    ·clear aq hi ho hs
     subst hF
     go_wp2_with fail
     exact ky _ (Below.refl _ _) rfl
    ·have d10:=oQ (aq ⟨10,.data⟩ (by simp) rfl)
     clear aq hi ho hs;have t1:=ab (af hB kZ.out) 2;simp at t1;simp only[d10]at hF;subst hF
     go_wp2_with fail
     exact ky _ (Below.refl _ _) rfl
    ·have d11:=oQ (aq ⟨11,.data⟩ (by simp) rfl)
     clear aq hi ho hs;simp only[d11]at hF;subst hF
     go_wp2_with fail
     refine(sg _ c.calm W (I3.out.up up_ints (Below.trans3 ar bQ hB)) (by have:=nH.out.out2;have:=nH.out.calm;omega) (fun x hx=>by have:=nH.out.outs x (nH.out.calms x hx);omega)).mono ?_;rintro e w9 ⟨u9,rfl,jj,fk⟩;have mT:=aa (bX.lower9 jj (show w.heap.size<=W.heap.size by have:=hB.size;have:=bQ.size;omega));clear jj
     go_wp2_with fail
     exact ky _ fk mT.out
    ·have d6:=aq ⟨6,.data⟩ (by simp) rfl
     have d9:=aq ⟨9,.data⟩ (by simp) rfl;have d12:=aq ⟨12,.data⟩ (by simp) rfl;clear aq hi ho hs;obtain⟨a6,c6,e6⟩:=aG.slice d6;obtain⟨a9,c9,e9⟩:=bX.slice d9;obtain⟨a12,c12,e12⟩:=bX.slice d12;rw[e6]at d6;rw[e9]at d9;rw[e12]at d12;have HD6:=aa (show aG W w.heap.size 3 1 (.slice a6 c.inp.length c6) c.inp.length (c.inp.map (Value.int .i64)) from d6);have PY:=aa (show cI W w.heap.size (.slice a9 c.out.length c9) c.out from d9);have HD12:=aa (show cI W w.heap.size (.slice a12 c.calm.length c12) c.calm from d12);clear d6 d9 d12;simp only[e6,e9,e12]at hF;subst hF
     go_wp2_with fail
     refine bD.mk (.agg #[.slice a6 c.inp.length c6,.slice a9 c.out.length c9,.slice a12 c.calm.length c12]) ?_ ?_ ?_
     ·exact(Below.refl _ _)
     ·exact Od HD6.out PY.out HD12.out
     ·first
      | rfl
      | simp only[List.setIfInBounds_toArray,List.set_cons_succ,List.set_cons_zero]
   case tail=>
    intro x W3 F hB aQ hF;have d2:x 2=.slice (some ⟨g,0,none⟩) p.t.cases.length cap:=aQ 2 (by omega);have d3:x 3=.int .i64 k:=aQ 3 (by omega);have d13:=aQ 13 (by omega);obtain⟨ya,yb,yd,e13,h2,h3,h4⟩:∃ a b d,x 13=.agg #[a,b,d]/\aG W3 w.heap.size 3 1 a c.inp.length (c.inp.map (Value.int .i64))/\cI W3 w.heap.size b c.out/\cI W3 w.heap.size d c.calm:=d13;clear aQ;simp only[br,cW,List.setIfInBounds_toArray,List.set_cons_succ,List.set_cons_zero,Nat.reduceAdd]at hF;obtain⟨y1,z1,rfl⟩:=h2.slice;obtain⟨y2,z2,rfl⟩:=h3.slice;obtain⟨y3,z3,rfl⟩:=h4.slice;rw[d2,d3,e13]at hF;generalize x 0=s0,x 1=s1,x 4=s4,x 5=s5,x 6=s6,x 7=s7,x 8=s8,x 9=s9,x 10=s10,x 11=s11,x 12=s12 at hF;subst hF;have zi:=ze.out.up (ae bQ hB);have zf:=aa zi;have H2:=aa h2;have H3:=aa h3;have H4:=aa h4;obtain⟨cur3,fz3,q1,q2,q3,_,q5⟩:=zi.row;have c0:∃ u,W3.cell? ⟨g,k * 3,none⟩=some u:=⟨cur3[k * 3]'(by omega),by rw[ab q1];exact Array.getElem?_eq_getElem _⟩;have c1:∃ u,W3.cell? ⟨g,k * 3+1,none⟩=some u:=⟨cur3[k * 3+1]'(by omega),by rw[ab q1];exact Array.getElem?_eq_getElem _⟩;have c2:∃ u,W3.cell? ⟨g,k * 3+2,none⟩=some u:=⟨cur3[k * 3+2]'(by omega),by rw[ab q1];exact Array.getElem?_eq_getElem _⟩;obtain⟨o0,c0⟩:=c0;obtain⟨o1,c1⟩:=c1;obtain⟨o2,c2⟩:=c2;have f0:=qT q1 q2 (k * 3) (by omega);have f1:=qT q1 q2 (k * 3+1) (by omega);have f2:=qT q1 q2 (k * 3+2) (by omega);have zZ:=af (ae bQ hB) HA.out;have AB:=af (ae bQ hB) HO.out;have Ac:w.heap.size≠g:=mr zZ q1 (by decide);have oz:w.heap.size+1≠g:=mr AB q1 (by decide);have Pk:=aa zZ;have Vx:=aa AB;have lY:=aa (Below.trans3 ar bQ hB);have wQ:=zf.out.lo;clear d2 d3 e13 h2 h3 h4 zi q1 q2 q3 q5 zZ AB hB
    simp only[List.drop_succ_cons,List.drop_zero]
    go_wp2_with fail
    go_roundw
    case rel=>exact⟨k+1,by omega,by go_num,((lY.out.setCell wQ _).setCell wQ _).setCell wQ _,aJ (aJ (aJ Pk.out Ac _ _) Ac _ _) Ac _ _,aJ (aJ (aJ Vx.out oz _ _) oz _ _) oz _ _,Ii.out _ zf.out _ _ _ H2.out H3.out H4.out⟩
    case measure=>simp[intOf];omega
  ·obtain rfl:k=p.t.cases.length:=by omega
   obtain⟨wrA,A7⟩:∃ x,x=wr:=⟨_,rfl⟩;subst A7;have t1:=ab hA;have z1:=fun o=>aE hA o
   have AE:=ar.size;have TG:=aB hA;have Vp:=aB hO;clear hA hO bW
   go_wp2_with fail
   refine(BL _ p.a.states.length raw2 wrA ?_ (by omega)).mono ?_
   ·obtain⟨q,cap,e,h1,h2,h3,h4⟩:=dN.out
    exact⟨q,cap,e,h1,h2,fun j u hj=>by obtain⟨b,o,e1,e2⟩:=h3 j u hj;exact⟨b,o,e1,ak ar e2⟩,h4⟩
   rintro e w3 ⟨u,rfl,hu,bC⟩
   have bW:∃ g2 cap2,u=.slice (some ⟨g2,0,none⟩) p.a.states.length cap2/\StateRow w.heap.size g2 cap2 raw2 p.a.states 0 w3:=by
    rcases hu.2 with ⟨_,h0⟩|⟨g2,cap2,cur,fz,rfl,h1,h2,h3,h4,h5,h6,h7⟩
    ·omega
    ·refine⟨g2,cap2,rfl,by omega,⟨h4,h5⟩,cur,fz,h2,h3,by omega,fun i hi hk=>by omega,fun j _ hj=>?_⟩
     rw[<-h7,List.getElem?_take_of_lt (by omega)];simp
   obtain⟨g2,cap2,rfl,bW⟩:=bW;clear t1 z1;have SW:=af bC HA.out;have t1:=ab SW;have z1:=fun o=>aE SW o
   have ud:=ae ar bC;have Cg:=aa bW;have xY:=aa SW;have lu:=aa (af bC HO.out);have zf:=aa (ze.out.up bC);clear hu bW SW
   go_wp2_with fail
   clear t1 z1;refine bm (fun W=>Below w.heap.size w W/\W.heap[w.heap.size]?=some (.cells #[.int .i64 p.t.n,.int .i64 p.t.ins,.int .i64 p.t.outs,.slice (some ⟨g,0,none⟩) p.t.cases.length cap,.int .i64 p.a.n,.slice (some ⟨g2,0,none⟩) p.a.states.length cap2,.int .i64 p.rounds] 29)/\W.heap[w.heap.size+1]?=some (.cells zPb 29)/\CaseRow w.heap.size g cap raw p.t.cases p.t.cases.length W/\StateRow w.heap.size g2 cap2 raw2 p.a.states 0 W) ?_ (fun W5 hW5=>?_)
   ·have yT:=KeepT.set (o:=5) (KeepT.refl (ms:=[]) [29] w.heap.size w3) xY.out (by simp) (Nat.le_refl _) (.slice (some ⟨g2,0,none⟩) p.a.states.length cap2)
    exact⟨ud.setCell (Nat.le_refl _) _,by rw[aF xY.out];rfl,aJ lu.out (by omega) _ _,zf.out.keep yT (by decide) (by decide) (by decide),Cg.out.keep yT (by decide) (by decide)⟩
   obtain⟨dx,zZ,AB,hrow5,hst5⟩:=hW5
   go_loopw [48] (fun i wr=>∃ k:Nat,k<=p.a.states.length/\i=.int .i64 k/\Below w.heap.size w wr/\wr.heap[w.heap.size]?=some (.cells #[.int .i64 p.t.n,.int .i64 p.t.ins,.int .i64 p.t.outs,.slice (some ⟨g,0,none⟩) p.t.cases.length cap,.int .i64 p.a.n,.slice (some ⟨g2,0,none⟩) p.a.states.length cap2,.int .i64 p.rounds] 29)/\wr.heap[w.heap.size+1]?=some (.cells zPb 29)/\CaseRow w.heap.size g cap raw p.t.cases p.t.cases.length wr/\StateRow w.heap.size g2 cap2 raw2 p.a.states k wr) (fun i _=>p.a.states.length - (intOf i).toNat)
   case atStart=>exact⟨0,by omega,rfl,dx,zZ,AB,hrow5,hst5⟩
   case round=>
    clear dx zZ AB hrow5 hst5;obtain⟨k,hk,rfl,ar,hA,hO,bW,dU⟩:=hrel;have HA:=aa hA;have HO:=aa hO;have HROW6:=aa bW;have HST6:=aa dU;by_cases aA:k<p.a.states.length
    ·obtain⟨va,q1,i1⟩:=Oa HS.out dN.out k aA
     obtain⟨cur,fz,p1,p2,p3,_,p5⟩:=dU.row;have Iq:=dU.fit.1;have d0:wr.cell? ⟨g2,k,none⟩=some va:=by rw[ab p1,p5 _ (by omega) (by omega),q1]
     have I1:=aa i1;obtain⟨pa,ca,rfl,_⟩:=i1.at;have Ii:=aa (fun (W:World) (h:StateRow w.heap.size g2 cap2 raw2 p.a.states k W) (a:Value)=>h.put aA (a:=a));have pV:Hid (p.a.states[k].length<=1048576):=aa (by have:=GY p.a.states k aA;omega);have WB:=aB p1;clear q1 i1 p1 p2 p3 p5 hA hO bW dU;generalize p.a.states[k]=c at I1 Ii pV d0;have AE:=ar.size;have TG:=aB HA.out
     go_wp2_with fail
     clear d0
     refine fU 6 [53,54,55,56,57,58] [MP.eq (.pointer (some ⟨w.heap.size,4,none⟩)),
      MP.eq (.pointer (some ⟨w.heap.size,5,none⟩)),
      MP.eq (.slice (some ⟨g2,0,none⟩) p.a.states.length cap2),
      MP.eq (.int .i64 k),
      MP.eq (.slice pa c.length ca),
      Uh w.heap.size c] (by kernel_rfl) (by simp) (by decide) rfl (by kernel_rfl) (by kernel_rfl) (by kernel_rfl) ?step ?tail
     case step=>
      intro x W i o s F hi ho hs hB aq hF;have fE:i=0\/i=1\/i=2\/i=3\/i=4\/i=5:=by omega
      rcases fE with rfl|rfl|rfl|rfl|rfl|rfl
      all_goals (obtain rfl:=dp ho.symm;obtain rfl:=dp hs.symm;simp only[br,cW,List.setIfInBounds_toArray,List.set_cons_succ,List.set_cons_zero,Nat.reduceAdd]at hF)
      ·clear aq hi ho hs
       subst hF
       go_wp2_with fail
       exact ky _ (Below.refl _ _) rfl
      ·have d0:=oQ (aq ⟨0,.data⟩ (by simp) rfl)
       clear aq hi ho hs;simp only[d0]at hF;subst hF
       go_wp2_with fail
       exact ky _ (Below.refl _ _) rfl
      ·have d1:=oQ (aq ⟨1,.data⟩ (by simp) rfl)
       clear aq hi ho hs;have t1:=ab (af hB HA.out) 5;simp at t1;simp only[d1]at hF;subst hF
       go_wp2_with fail
       exact ky _ (Below.refl _ _) rfl
      ·clear aq hi ho hs
       subst hF
       go_wp2_with fail
       exact ky _ (Below.refl _ _) rfl
      ·clear aq hi ho hs
       subst hF
       go_wp2_with fail
       exact ky _ (Below.refl _ _) rfl
      ·have d4:=oQ (aq ⟨4,.data⟩ (by simp) rfl)
       clear aq hi ho hs;simp only[d4]at hF;subst hF
       go_wp2_with fail
       refine(Dt _ c.length (fr c) W (N5 (I1.out.up up_move (ae ar hB))) pV.out).mono ?_;rintro e w9 ⟨u9,rfl,jj,fk⟩;have mT:=aa (jj.base (show w.heap.size<=W.heap.size by have:=hB.size;omega));clear jj
       go_wp2_with fail
       exact ky _ fk mT.out
     case tail=>
      intro x W3 F hB aQ hF;have d2:x 2=.slice (some ⟨g2,0,none⟩) p.a.states.length cap2:=aQ 2 (by omega);have d3:x 3=.int .i64 k:=aQ 3 (by omega);have h2:aG W3 w.heap.size 143 8 (x 5) c.length (fr c):=aQ 5 (by omega);clear aQ;simp only[br,cW,List.setIfInBounds_toArray,List.set_cons_succ,List.set_cons_zero,Nat.reduceAdd]at hF;obtain⟨y1,z1,e5⟩:=h2.slice;rw[d2,d3,e5]at hF;rw[e5]at h2;generalize x 0=s0,x 1=s1,x 4=s4 at hF;subst hF;have Rt:=HST6.out.up hB;have HST3:=aa Rt;have zf:=aa (HROW6.out.up hB);have H2:=aa h2;obtain⟨cur3,fz3,q1,q2,q3,_,q5⟩:=Rt.row;have c0:∃ u,W3.cell? ⟨g2,k,none⟩=some u:=⟨cur3[k]'(by omega),by rw[ab q1];exact Array.getElem?_eq_getElem _⟩;obtain⟨o0,c0⟩:=c0;have f0:=qT q1 q2 k (by omega);have zZ:=af hB HA.out;have AB:=af hB HO.out;have Ac:w.heap.size≠g2:=mr zZ q1 (by decide);have oz:w.heap.size+1≠g2:=mr AB q1 (by decide);have Pk:=aa zZ;have Vx:=aa AB;have lY:=aa (ae ar hB);have wQ:=HST3.out.lo;have CP:=aa q1;clear d2 d3 e5 h2 Rt q1 q2 q3 q5 zZ AB hB;simp only[List.drop_succ_cons,List.drop_zero]
      go_wp2_with fail
      go_roundw
      case rel=>exact⟨k+1,by omega,by go_num,lY.out.setCell wQ _,aJ Pk.out Ac _ _,aJ Vx.out oz _ _,zf.out.keep (KeepT.set (KeepT.refl (ms:=[]) [136] w.heap.size W3) CP.out (by simp) wQ _) (by decide) (by decide) (by decide),Ii.out _ HST3.out _ H2.out⟩
      case measure=>simp[intOf];omega
    ·obtain rfl:k=p.a.states.length:=by omega
     have tA:=ab hA;have tO:=ab hO;have zO:=fun o=>aE hO o
     have AE:=ar.size;have TG:=aB HA.out;clear hA hO bW dU
     go_wp2_with fail
     have e0:=aF HO.out 0 (.int .i64 p.t.n);have e1:=aF e0 1 (.int .i64 p.t.ins);have e2:=aF e1 2 (.int .i64 p.t.outs);have e3:=aF e2 3 (.slice (some ⟨g,0,none⟩) p.t.cases.length cap);have e4:=aF e3 4 (.int .i64 p.a.n);have e5:=aF e4 5 (.slice (some ⟨g2,0,none⟩) p.a.states.length cap2);have e6:=aF e5 6 (.int .i64 p.rounds);have sZ:w.heap.size<=w.heap.size+1:=by omega
     have yT:=((((((((KeepT.refl (ms:=[]) [29] w.heap.size wr).set (o:=0) HO.out (by simp) sZ (.int .i64 p.t.n)).set (o:=1) e0 (by simp) sZ (.int .i64 p.t.ins)).set (o:=2) e1 (by simp) sZ (.int .i64 p.t.outs)).set (o:=3) e2 (by simp) sZ (.slice (some ⟨g,0,none⟩) p.t.cases.length cap)).set (o:=4) e3 (by simp) sZ (.int .i64 p.a.n)).set (o:=5) e4 (by simp) sZ (.slice (some ⟨g2,0,none⟩) p.a.states.length cap2)).set (o:=6) e5 (by simp) sZ (.int .i64 p.rounds));have CI:=((((((ar.setCell sZ (p:=⟨w.heap.size+1,0,none⟩) (.int .i64 p.t.n)).setCell sZ (p:=⟨w.heap.size+1,1,none⟩) (.int .i64 p.t.ins)).setCell sZ (p:=⟨w.heap.size+1,2,none⟩) (.int .i64 p.t.outs)).setCell sZ (p:=⟨w.heap.size+1,3,none⟩) (.slice (some ⟨g,0,none⟩) p.t.cases.length cap)).setCell sZ (p:=⟨w.heap.size+1,4,none⟩) (.int .i64 p.a.n)).setCell sZ (p:=⟨w.heap.size+1,5,none⟩) (.slice (some ⟨g2,0,none⟩) p.a.states.length cap2)).setCell sZ (p:=⟨w.heap.size+1,6,none⟩) (.int .i64 p.rounds);have t7:=ab e6;refine bodyPost_ret (v:=qp p (.slice (some ⟨g,0,none⟩) p.t.cases.length cap) (.slice (some ⟨g2,0,none⟩) p.a.states.length cap2)) (by simp[results,Tryz.results163,go_sem,t7]) rfl ⟨_,_,rfl,fun W' Tf=>⟨?_,?_⟩,CI⟩
     ·exact((HROW6.out.keep yT (by decide) (by decide) (by decide)).from Tf).done (Nat.le_refl _) ht (vR HC.out)
     ·exact((HST6.out.keep yT (by decide) (by decide)).from Tf).done (Nat.le_refl _) iI (fun x hx=>by obtain⟨i,hi,rfl⟩:=List.getElem_of_mem hx;have:=GY p.a.states i hi;omega) (LM HS.out)
theorem tJ(n:Nat):∀ c,ja c n=(List.range (c * n)).map fun i=>(i / n,i % n)
 | 0=>by simp[ja]
 | c+1=>by
  have ih:=tJ n c;unfold ja at ih ⊢;rw[List.range_succ,List.flatMap_append,ih,Nat.succ_mul,List.range_add,List.map_append,List.map_map];congr 1;simp only[List.flatMap_cons,List.flatMap_nil,List.append_nil];refine List.map_congr_left fun j hj=>?_
  have hj:=List.mem_range.1 hj;simp only[Function.comp];rw[show c * n+j=n * c+j by rw[Nat.mul_comm],Nat.mul_add_div (by omega),Nat.div_eq_of_lt hj,Nat.mul_add_mod,Nat.mod_eq_of_lt hj,Nat.add_zero]
theorem Ui{α:Type} {k:Nat} {R:World->Nat->Nat->α->Prop} {w:World} {v:Value} {l:List (List α)} (h:eR 1 (mi k R) w v l):∃ ws:List Value,ws.length=l.length/\∃ a cap,v=.slice a l.length cap/\∀ i (hi:i<l.length),∃ b o,a=some ⟨b,o,none⟩/\w.cell? ⟨b,o+i,none⟩=some (ws.getD i undef)/\eR k R w (ws.getD i undef) l[i]:=by
 obtain⟨a,cap,rfl,h1,h2,h3⟩:=h
 have key:∀ i:Fin l.length,∃ x:Value,∃ b off,a=some ⟨b,off,none⟩/\w.cell? ⟨b,off+i.1,none⟩=some x/\eR k R w x l[i.1]:=fun i=>by
  obtain⟨b,off,ha,x,hx,hs⟩:=h3 i.1 _ (List.getElem?_eq_getElem i.2);exact⟨x,b,off,ha,by rwa [Nat.mul_one]at hx,hs⟩
 refine⟨List.ofFn fun i=>Classical.choose (key i),by simp,a,cap,rfl,fun i hi=>?_⟩
 have e:(List.ofFn fun i=>Classical.choose (key i)).getD i undef=Classical.choose (key ⟨i,hi⟩):=by
  rw[List.getD_eq_getElem?_getD,List.getElem?_ofFn];simp[hi]
 rw[e];exact Classical.choose_spec (key ⟨i,hi⟩)
theorem Dv(p:Pb) (pc:Option Addr) (nc cc:Nat) (ps:Option Addr) (ns cs:Nat) (pw:Option Addr) (nw cw:Nat) (w:World) :
  Calls Tryz.prog 164 #[qp p (.slice pc nc cc) (.slice ps ns cs),.slice pw nw cw] w fun e w'=>e=.returned (.func (.func 199) #[] #[.pointer (some ⟨w.heap.size,0,none⟩),.pointer (some ⟨w.heap.size+1,0,none⟩)]) ∧
   w'=(w.alloc (.cells #[.int .i64 p.t.n,.int .i64 p.t.ins,.int .i64 p.t.outs,.slice pc nc cc,.int .i64 p.a.n,.slice ps ns cs,.int .i64 p.rounds] 29)).alloc (.cells #[.slice pw nw cw] 221):=by
 go_enter Tryz.func164,Tryz.ntmps164
 go_wp2
 go_ret
 exact⟨rfl,rfl⟩
def QL(n:Nat) (ws:List Value) (i:Nat):Array Value:=#[.int .i64 ((i / n:Nat):Int),ws.getD (i % n) undef]
theorem BN(wd:World) (C n:Nat) (pw:Option Addr) (cw:Nat) (ws:List Value) (hn:n<=1048576) (hC:C<=1048576) (hws:∀ j,j<n->∃ b o,pw=some ⟨b,o,none⟩/\b<wd.heap.size/\wd.cell? ⟨b,o+j,none⟩=some (ws.getD j undef)/\∃ a m c,ws.getD j undef=.slice a m c) (hcw:n<=cw/\cw<=9223372036854775807)
  (w:World) (hb:Below wd.heap.size wd w) (Bp Bw:Nat) (x0 x1 x2 x4 x5 x6:Value) (pc:Option Addr) (cc:Nat) (hp:w.heap[Bp]?=some (.cells #[x0,x1,x2,.slice pc C cc,x4,x5,x6] 29)) (hw:w.heap[Bw]?=some (.cells #[.slice pw n cw] 221)) :
  rR Tryz.prog 199 #[.pointer (some ⟨Bp,0,none⟩),.pointer (some ⟨Bw,0,none⟩)] (QL n ws) (C * n) (fun k=>k=Bw\/∃ ad,pw=some ad/\k=ad.block) w:=by
 intro yl J Jx W hW hJ nM hY h0;have sF:=ab (af hW hp) 3;simp at sF;have js:=af hW hw;have eP:∀ ad,pw=some ad->ad.block<wd.heap.size->W.heap[ad.block]?=wd.heap[ad.block]?:=fun ad _ hk=>(hW.block _ (Nat.lt_of_lt_of_le hk hb.size)).trans (hb.block _ hk)
 clear hW hb hp hw;have KT:=aa hws;clear hws;have HJ:=aa hJ;clear hJ;have Jb:=aa nM;clear nM;have HY:=aa hY;clear hY;refine(callsIn_wide (n:=0)).1 ?_;refine callsIn_of_wp Tryz.func199 rfl trivial ?_ rfl;simp only[Tryz.ntmps199,List.size_toArray,List.length_cons,List.length_nil,Nat.reduceAdd,Nat.reduceSub,Array.replicate_succ,Array.replicate_zero,List.push_toArray,List.append_toArray,List.nil_append,List.cons_append]
 gi_wp2
 clear sF
 gi_loopw [11] (fun i wr=>∃ s:Nat,s<=C/\i=.int .i64 s/\(∀ ad,pw=some ad->ad.block<wd.heap.size->wr.heap[ad.block]?=wd.heap[ad.block]?)/\wr.heap[Bw]?=some (.cells #[.slice pw n cw] 221)/\J (s * n) wr) (fun i _=>C - (intOf i).toNat)
 case atStart=>exact⟨0,by omega,rfl,eP,js,by rw[Nat.zero_mul];exact h0⟩
 case round=>
  obtain⟨s,hs,rfl,fL,kr,hj⟩:=hrel;have jM:=aa fL;clear fL;have iT:=aa hj;clear hj;have CC:=aa kr;by_cases aA:s<C
  ·have tw:=ab kr 0
   simp at tw;clear kr
   gi_wp2
   clear tw;obtain⟨W0,aV⟩:∃ W0:World,W0=wr:=⟨_,rfl⟩;rw[<-aV]at jM iT CC ⊢;clear aV wr
   gi_loopw [16] (fun i wr=>∃ j:Nat,j<=n/\i=.int .i64 j/\(∀ ad,pw=some ad->ad.block<wd.heap.size->wr.heap[ad.block]?=wd.heap[ad.block]?)/\wr.heap[Bw]?=some (.cells #[.slice pw n cw] 221)/\J (s * n+j) wr) (fun i _=>n - (intOf i).toNat)
   case atStart=>exact⟨0,by omega,rfl,jM.out,CC.out,iT.out⟩
   case round=>
    obtain⟨j,hj,rfl,fL,kr,xU⟩:=hrel;have nA:=aa fL;clear fL;have IE:=aa xU;clear xU;have HWR2:=aa kr;clear kr;by_cases K7:j<n
    ·obtain⟨b2,o2,rfl,WV,c0,a9,m9,c9,e9⟩:=KT.out j K7
     have d0:wr.cell? ⟨b2,o2+j,none⟩=some (ws.getD j undef):=by
      rw[<-c0];simp only[World.cell?,nA.out _ rfl WV]
     have kH:s * n+j<C * n:=by
      have h1:(s+1) * n<=C * n:=Nat.mul_le_mul_right _ aA;rw[Nat.succ_mul]at h1;omega
     have hdiv:(s * n+j) / n=s:=by rw[Nat.mul_comm,Nat.mul_add_div (by omega),Nat.div_eq_of_lt K7,Nat.add_zero]
     have hmod:(s * n+j) % n=j:=by rw[Nat.mul_comm,Nat.mul_add_mod,Nat.mod_eq_of_lt K7]
     obtain⟨fn,tmps,assign,body,hy,hR⟩:=HY.out (s * n+j) wr kH IE.out;unfold QL at hy;rw[hdiv,hmod,e9]at hy;rw[e9]at d0;have HR:=aa hR;clear hR hdiv hmod c0 e9;have AA:=aa kH;clear kH
     gi_wp2
     refine⟨rfl,HR.out.mono ?_⟩;rintro e W3 (⟨rfl,C6,CE,hZ⟩|⟨rfl,rA⟩)
     ·gi_wp2
      go_roundw
      case rel=>exact⟨j+1,by omega,by go_num,fun ad e1 e2=>(hZ _ (.inr ⟨ad,e1,rfl⟩)).trans (nA.out ad e1 e2),(hZ Bw (.inl rfl)).trans HWR2.out,C6⟩
      case measure=>simp[intOf];omega
     ·gi_wp2
      refine bodyPost_ret (results_none rfl _ _ _) rfl ?_;exact⟨⟨_,rfl⟩,.inr ⟨_,AA.out,rA⟩⟩
    ·gi_wp2
     go_roundw
     case rel=>
      refine⟨s+1,by omega,by go_num,nA.out,HWR2.out,?_⟩;have e:n=j:=by omega
      rw[Nat.succ_mul];have h9:=IE.out;rw[<-e]at h9;exact h9
     case measure=>simp[intOf];omega
  ·obtain rfl:s=C:=by omega
   gi_wp2
   go_end0
   exact⟨⟨_,rfl⟩,.inl iT.out⟩
end Go.Proofs.YtmeaoneaephjeaaGreatDoor
namespace Go.Proofs.YtmeaoneaephjeaaGreatDoor
open Go.RowKit Go Go.Shelf
def jC(v:Vw):Prop:=bM v.p/\bM v.k/\bM v.i/\bM v.h0/\bM v.h1/\bM v.h2/\bM v.h3/\bM v.h4
theorem QM(B:Nat) (st:List Vw × List Int) (v:Vw) (hv:jC v) (h1:∀ u∈st.1,jC u) (h2:∀ z∈st.2,0<=z/\z<=B) (hl:st.1.length<=B):(∀ u∈(gO st v).1,jC u)/\∀ z∈(gO st v).2,0<=z/\z<=(B:Int):=by
 unfold gO;refine⟨fun u hu=>?_,fun z hz=>?_⟩
 ·unfold putV at hu
  dsimp only at hu;split at hu
  ·exact h1 u hu
  ·rcases List.mem_append.1 hu with h|h
   ·exact h1 u h
   ·rw[List.mem_singleton]at h;subst h;exact hv
 ·rcases List.mem_append.1 hz with h|h
  ·exact h2 z h
  ·rw[List.mem_singleton]at h
   subst h;have:=Ua st.1 v;omega
theorem xF(B:Nat) (vs:List Vw):∀ st:List Vw × List Int,(∀ v∈vs,jC v)->(∀ u∈st.1,jC u)->(∀ z∈st.2,0<=z/\z<=(B:Int))->st.1.length+vs.length<=B->(∀ u∈(vs.foldl gO st).1,jC u)/\∀ z∈(vs.foldl gO st).2,0<=z/\z<=(B:Int):=by
 induction vs with
 | nil=>intro st _ h1 h2 _;exact⟨h1,h2⟩
 | cons v r ih=>
  intro st hv h1 h2 hl;simp only[List.length_cons]at hl;have h3:=QM B st v (hv v (by simp)) h1 h2 (by omega);have h4:=(D8 st v).2;exact ih _ (fun u hu=>hv u (by simp[hu])) h3.1 h3.2 (by omega)
theorem Oe(st:List Vw × List Int) (v:Vw):st.1.length<=(gO st v).1.length:=by
 unfold gO putV;dsimp only;split<;>simp
theorem BO(vs:List Vw):∀ st:List Vw × List Int,st.1.length<=(vs.foldl gO st).1.length:=by
 induction vs with
 | nil=>intro st;exact Nat.le_refl _
 | cons v r ih=>intro st;exact Nat.le_trans (Oe st v) (ih _)
theorem BP(n:Nat) (inp:List Int) (word:List Rd) (tb:List Vw):∀ k,tb.length<=(playTo n inp word tb k).1.length
 | 0=>BO _ (tb,[])
 | k+1=>Nat.le_trans (BP n inp word tb k) (BO (fB n k (word.getD k default) ((playTo n inp word tb k).2.getLastD [])) ((playTo n inp word tb k).1,[]))
theorem uB(k:Nat) (h:k<=1000000):bM (k:Int):=⟨by omega,by omega⟩
theorem xG(n:Nat) (hn:n<=5) (inp:List Int) (hi:∀ x∈inp,bM x) (word:List Rd) (tb:List Vw) (ht:∀ v∈tb,jC v):∀ k,k<=6->tb.length+40<=100000->(∀ v∈(playTo n inp word tb k).1,jC v)/\∀ row∈(playTo n inp word tb k).2,∀ z∈row,0<=z/\z<=(100000:Int)
 | 0,_,hl=>by
  have h:=xF 100000 (fW inp n) (tb,[]) (fun v hv=>by
   obtain⟨p,hp,rfl⟩:=List.mem_map.1 hv;have hp:=List.mem_range.1 hp
   have hx:bM (inp.getD p 0):=by
    by_cases h:p<inp.length
    ·rw[az 0 h];exact hi _ (List.getElem_mem h)
    ·rw[List.getD_eq_getElem?_getD,List.getElem?_eq_none (by omega)];exact⟨by simp,by simp⟩
   exact⟨uB p (by omega),⟨by simp[dS],by simp[dS]⟩,hx,⟨by simp[dS],by simp[dS]⟩,⟨by simp[dS],by simp[dS]⟩,⟨by simp[dS],by simp[dS]⟩,⟨by simp[dS],by simp[dS]⟩,⟨by simp[dS],by simp[dS]⟩⟩) ht (fun z hz=>by simp at hz) (by simp;omega)
  exact⟨h.1,fun row hr z hz=>by
   have:row=(addAll tb (fW inp n)).2:=by simpa[playTo,uk] using hr
   subst this
   exact h.2 z hz⟩
 | k+1,hk,hl=>by
  obtain⟨h1,h2⟩:=xG n hn inp hi word tb ht k (by omega) hl;have cG:=il n inp word tb k;have h9:n * (k+1)<=5 * 7:=Nat.mul_le_mul hn (by omega);have e:(playTo n inp word tb (k+1)).2=(playTo n inp word tb k).2++[(addAll (playTo n inp word tb k).1 (fB n k (word.getD k default) ((playTo n inp word tb k).2.getLastD []))).2]:=rfl
  have pg:∀ q,0<=((playTo n inp word tb k).2.getLastD []).getD q 0/\((playTo n inp word tb k).2.getLastD []).getD q 0<=(100000:Int):=fun q=>by
   have hm:(playTo n inp word tb k).2.getLastD []∈(playTo n inp word tb k).2:=by
    rcases List.eq_nil_or_concat (playTo n inp word tb k).2 with h|⟨l',a,h⟩
    ·rw[h]at cG;simp at cG
    ·rw[h,List.concat_eq_append,List.getLastD_concat];simp
   by_cases h:q<((playTo n inp word tb k).2.getLastD []).length
   ·rw[az 0 h];exact h2 _ hm _ (List.getElem_mem h)
   ·rw[List.getD_eq_getElem?_getD,List.getElem?_eq_none (by omega)];simp
  have e1:(playTo n inp word tb (k+1)).1=(addAll (playTo n inp word tb k).1 (fB n k (word.getD k default) ((playTo n inp word tb k).2.getLastD []))).1:=rfl;rw[e,e1];generalize (playTo n inp word tb k).2.getLastD []=now at pg ⊢
  have hv:∀ v∈fB n k (word.getD k default) now,jC v:=fun v hv=>by
   obtain⟨p,hp,rfl⟩:=List.mem_map.1 hv;have hp:=List.mem_range.1 hp
   have hh:∀ q,bM (lG n (word.getD k default) now p q):=fun q=>by
    unfold lG;have:=pg q;split
    ·exact⟨by omega,by omega⟩
    ·exact⟨by simp,by simp⟩
   exact⟨uB p (by omega),⟨by simp only[nextV];omega,by simp only[nextV];omega⟩,⟨by simp[nextV],by simp[nextV]⟩,hh 0,hh 1,hh 2,hh 3,hh 4⟩
  have h:=xF 100000 (fB n k (word.getD k default) now) ((playTo n inp word tb k).1,[]) hv h1 (fun z hz=>by simp at hz) (by simp;omega);refine⟨h.1,fun row hr=>?_⟩
  ·rcases List.mem_append.1 hr with hr|hr
   ·exact h2 row hr
   ·rw[List.mem_singleton]at hr
    subst hr;exact h.2
end Go.Proofs.YtmeaoneaephjeaaGreatDoor
namespace Go.Proofs.YtmeaoneaephjeaaGreatDoor
open Go.RowKit Go Go.Shelf
attribute [local go_sem] Oper.semAt_some
theorem U3{p:Pb} (h:probE p=0):movesN p.a.states<=4096:=by
 have ha:=(gt h).2.1;unfold advE at ha;by_cases h1:p.a.n<1\/5<p.a.n
 ·rw[if_pos h1]at ha;omega
 ·rw[if_neg h1]at ha
  by_cases h2:p.a.states.length<1\/256<p.a.states.length\/4096<movesN p.a.states
  ·rw[if_pos h2]at ha;omega
  ·omega
theorem JI{p:Pb} (h:probE p=0):((dK p).2≠0->(dK p).2=17/\4096<p.t.cases.length * (aK p).length)/\((dK p).2=0->(dK p).1=((p.t.cases.length * (aK p).length:Nat):Int)):=by
 obtain⟨ht,ha,_,rL,pR⟩:=gt h;have bP:=(eY ht).2.2.2.1;have hn:=qI (L:=1048576) (by omega) p.a (fun s hs m hm=>(uz ha s hs m hm).2) (by have:=(gY ha).1;omega) p.rounds.toNat;have hw:(aK p).length=(bU p.a p.rounds.toNat 0).length:=rfl;rw[<-hw]at hn
 have nD:countedR 1048576 p.a p.rounds=if 1048576<numberL 1048576 p.a p.rounds.toNat then(0,17) else(numberL 1048576 p.a p.rounds.toNat,0):=by
  unfold countedR;rw[if_neg (by simpa using ha),if_neg (by omega)]
 unfold dK;rw[if_neg (by simpa using h),nD];by_cases h1:1048576<numberL 1048576 p.a p.rounds.toNat
 ·rw[if_pos h1]
  have h9:1 * 1048576<=p.t.cases.length * (aK p).length:=Nat.mul_le_mul bP.1 (by omega);refine⟨fun _=>⟨by simp,by omega⟩,fun e=>by simp at e⟩
 ·rw[if_neg h1]
  have he:numberL 1048576 p.a p.rounds.toNat=((aK p).length:Int):=by omega
  rw[he];dsimp only;rw[if_neg (by simp),Int.mul_comm,<-Int.natCast_mul];by_cases h2:(1048576:Int)<((p.t.cases.length * (aK p).length:Nat):Int)
  ·rw[if_pos h2]
   refine⟨fun _=>⟨by simp,by omega⟩,fun e=>by simp at e⟩
  ·rw[if_neg h2]
   exact⟨fun e=>by simp at e,fun _=>rfl⟩
theorem JJ{p:Pb} (h:probE p=0) (h2:¬ 4096<p.t.cases.length * (aK p).length):pL p.a p.rounds=(aK p,0):=by
 obtain⟨ht,ha,_,rL,pR⟩:=gt h;have bP:=(eY ht).2.2.2.1;have hn:=qI (L:=4096) (by omega) p.a (fun s hs m hm=>(uz ha s hs m hm).2) (by have:=(gY ha).1;omega) p.rounds.toNat;have hw:(aK p).length=(bU p.a p.rounds.toNat 0).length:=rfl;rw[<-hw]at hn;have h9:1 * (aK p).length<=p.t.cases.length * (aK p).length:=Nat.mul_le_mul_right _ bP.1
 have nD:(countedR 4096 p.a p.rounds).2=0:=by
  unfold countedR;rw[if_neg (by simpa using ha),if_neg (by omega),if_neg (by omega)]
 unfold pL;rw[if_neg (by simpa using nD)];rfl
theorem Es{a:Adv} (h:∀ s,s<a.states.length->stateE a (a.states.getD s [])=0) (h1:0<a.states.length) (k:Nat):∀ s,s<a.states.length->0<(bU a k s).length:=by
 induction k with
 | zero=>intro s _;simp[bU]
 | succ k ih=>
  intro s hs;have h2:=h s hs
  have bJ:(a.states.getD s []).length≠0:=by
   intro e;unfold stateE at h2;rw[if_pos e]at h2;cases h2
  obtain⟨m,hm⟩:∃ m,m∈a.states.getD s []:=by
   cases hl:a.states.getD s [] with
   | nil=>rw[hl]at bJ;simp at bJ
   | cons m r=>exact⟨m,by simp⟩
  have oB:m.to.toNat<a.states.length:=Xm h s hs m hm;have h3:=ih _ oB;obtain⟨y,hy⟩:=List.length_pos_iff_exists_mem.1 h3;refine List.length_pos_iff_exists_mem.2 ⟨m.r :: y,?_⟩;simp only[bU,List.mem_flatMap,List.mem_map];exact⟨m,hm,y,hy,rfl⟩
theorem so(p:Pb) (words:List (List Rd)) (l:List (Nat × Nat)):∀ st:List Vw × List Ex,(l.foldl (jS p words) st).2.length=st.2.length+l.length:=by
 induction l with
 | nil=>intro st;simp
 | cons x r ih=>
  intro st;rw[List.foldl_cons,ih];simp[jS];omega
theorem LN(p:Pb) (words:List (List Rd)) (l:List (Nat × Nat)) (i:Nat) (h:i<l.length):execsS p words (l.take (i+1))=jS p words (execsS p words (l.take i)) l[i]:=by
 unfold execsS;rw[List.take_succ_eq_append_getElem h,List.foldl_append];rfl
theorem LO(p:Pb) (words:List (List Rd)) (l:List (Nat × Nat)):∀ st:List Vw × List Ex,st.1.length<=(l.foldl (jS p words) st).1.length:=by
 induction l with
 | nil=>intro st;exact Nat.le_refl _
 | cons x r ih=>
  intro st;refine Nat.le_trans ?_ (ih _);exact BP _ _ _ _ _
theorem wA(p:Pb) (words:List (List Rd)) (l:List (Nat × Nat)) (i:Nat):(execsS p words (l.take i)).1.length<=(execsS p words l).1.length:=by
 have h:execsS p words l=(l.drop i).foldl (jS p words) (execsS p words (l.take i)):=by
  unfold execsS;rw[<-List.foldl_append,List.take_append_drop]
 rw[h];exact LO p words _ _
abbrev fw(p:Pb):List (Nat × Nat):=ja p.t.cases.length (aK p).length
abbrev stP(p:Pb) (i:Nat):List Vw × List Ex:=execsS p (aK p) ((fw p).take i)
theorem jg(p:Pb):(fw p).length=p.t.cases.length * (aK p).length:=by
 unfold fw;rw[tJ];simp
theorem vS(p:Pb) (i:Nat) (h:i<p.t.cases.length * (aK p).length):stP p (i+1)=jS p (aK p) (stP p i) (i / (aK p).length,i % (aK p).length):=by
 unfold stP;rw[LN _ _ _ _ (by rw[jg];exact h)];congr 1;unfold fw;simp only[tJ];simp
theorem LP{p:Pb} (h:probE p=0) (hm:¬ 4096<p.t.cases.length * (aK p).length) (i:Nat) (hi:8192<(stP p i).1.length):buildE p=17:=by
 have h2:=wA p (aK p) (fw p) i;have h3:(aM p).tab=(execsS p (aK p) (fw p)).1:=rfl;unfold buildE;rw[if_neg (by simpa using h),if_neg hm,if_pos (by rw[h3];exact Nat.lt_of_lt_of_le hi h2)]
theorem LQ(w:World) (a b c d:Obj):((((w.alloc a).alloc b).alloc c).alloc d).heap[w.heap.size+1+1+1]?=some d:=by
 have:=am (((w.alloc a).alloc b).alloc c) d;simpa only[World.size_alloc] using this
def za(W:World) (base:Nat) (xs:List Value) (i:Nat) (x:Ex):Prop:=
 ∃ a b,xs[i * 3]?=some (.int .i64 x.c)/\xs[i * 3+1]?=some a/\xs[i * 3+2]?=some b/\aG W base 141 7 a x.word.length (cP x.word)/\cI W base b x.views
structure BInv (p:Pb) (uc us:Value) (wd:World) (Bs Bb b mb:Nat) (tab:List Vw) (ex:List Ex) (W:World):Prop where
 old:Below wd.heap.size wd W
 lo:wd.heap.size<=Bs
 bx:W.heap[Bb]?=some (.cells #[.pointer (some ⟨b,0,none⟩)] 231)
 s:∃ ve xs,W.heap[Bs]?=some (.cells (bT p uc us 0 (.slice none 0 0) ve) 35)/\aG W wd.heap.size 89 3 ve ex.length xs/\∀ i (hi:i<ex.length),za W wd.heap.size xs i ex[i]
 bld:BldIs wd.heap.size b mb p.t.n.toNat tab W
theorem BInv.sta{p:Pb} {uc us:Value} {wd:World} {Bs Bb b mb:Nat} {tab:List Vw} {ex:List Ex} {B:Nat} (hB:wd.heap.size<=B) (hm:mb<B):cB B (fun W=>BInv p uc us wd Bs Bb b mb tab ex W):=fun A A' c h=>by
 obtain⟨ve,xs,h1,h2,h3⟩:=h.s;obtain⟨vs,q1,q2,q3,es,ck,q4,q5⟩:=h.bld.ex
 exact⟨c.below hB h.old.size h.old,h.lo,c.same _ _ h.bx (.inr rfl),⟨ve,xs,c.same _ _ h1 (.inr rfl),h2.ck c.ck,fun i hi=>by obtain⟨a,d,p1,p2,p3,p4,p5⟩:=h3 i hi;exact⟨a,d,p1,p2,p3,p4.ck c.ck,p5.ck c.ck⟩⟩,
  h.bld.lo,vs,c.same _ _ q1 (.inr rfl),q2,q3.ck c.ck,es,ck,c.same _ _ q4 (.inl hm),q5⟩
theorem Uj{w W:World} {B:Nat} {c:Array Value} (hb:Below w.heap.size w W) (hl:w.heap.size<=B) (hR:W.heap[B]?=some (.cells c 35)) (hc:c.size=10) (hE:W.heap[B+1]?=some (.cells #[.int .i64 0] 39)) (l:List Value) (cG:l.length=10) (e:Int) :
  ((W.setCells B 0 l).setCell ⟨B+1,0,none⟩ (.int .i64 e)).heap[B]?=some (.cells l.toArray 35)/\((W.setCells B 0 l).setCell ⟨B+1,0,none⟩ (.int .i64 e)).heap[B+1]?=some (.cells #[.int .i64 e] 39)/\Below w.heap.size w ((W.setCells B 0 l).setCell ⟨B+1,0,none⟩ (.int .i64 e)) ∧
   ∀ k,k≠B->k≠B+1->((W.setCells B 0 l).setCell ⟨B+1,0,none⟩ (.int .i64 e)).heap[k]?=W.heap[k]?:=by
 obtain⟨cur',h1,h2,h3⟩:=l6 B _ _ l 0 W c hR (by omega);obtain⟨o1,o2,o3,o4,o5⟩:=lf B l 0 W
 have D5:cur'=l.toArray:=by
  rw[Nat.zero_add,List.take_zero,List.nil_append,List.take_of_length_le (by simp;omega)]at h3;rw[<-h3]
 subst D5;have h4:=(o1 (B+1) (by omega)).trans hE;refine⟨aJ h1 (by omega) _ _,by rw[aF h4];rfl,Below.setCell ⟨o2.trans hb.os,o3.trans hb.tape,o4.trans hb.output,by rw[o5];exact hb.size,fun k hk=>(o1 k (by omega)).trans (hb.block k hk)⟩ (by dsimp only;omega) _,fun k h5 h6=>(Below.heap_setCell _ _ _ _ (by dsimp only;exact h6)).trans (o1 k h5)⟩
theorem sp{w W:World} {B:Nat} {c:Array Value} (hb:Below w.heap.size w W) (hl:w.heap.size<=B) (hR:W.heap[B]?=some (.cells c 35)) (hc:c.size=10) (hE:W.heap[B+1]?=some (.cells #[.int .i64 0] 39)) (c0 c1 c2 c3 c4 c5 c6 c7 c8 c9:Value) (e:Int) :
  (((((((((((W.setCell ⟨B,0,none⟩ c0).setCell ⟨B,1,none⟩ c1).setCell ⟨B,2,none⟩ c2).setCell ⟨B,3,none⟩ c3).setCell ⟨B,4,none⟩ c4).setCell ⟨B,5,none⟩ c5).setCell ⟨B,6,none⟩ c6).setCell ⟨B,7,none⟩ c7).setCell ⟨B,8,none⟩ c8).setCell ⟨B,9,none⟩ c9).setCell ⟨B+1,0,none⟩ (.int .i64 e)).heap[B]?=some (.cells #[c0,c1,c2,c3,c4,c5,c6,c7,c8,c9] 35)/\(((((((((((W.setCell ⟨B,0,none⟩ c0).setCell ⟨B,1,none⟩ c1).setCell ⟨B,2,none⟩ c2).setCell ⟨B,3,none⟩ c3).setCell ⟨B,4,none⟩ c4).setCell ⟨B,5,none⟩ c5).setCell ⟨B,6,none⟩ c6).setCell ⟨B,7,none⟩ c7).setCell ⟨B,8,none⟩ c8).setCell ⟨B,9,none⟩ c9).setCell ⟨B+1,0,none⟩ (.int .i64 e)).heap[B+1]?=some (.cells #[.int .i64 e] 39)/\Below w.heap.size w (((((((((((W.setCell ⟨B,0,none⟩ c0).setCell ⟨B,1,none⟩ c1).setCell ⟨B,2,none⟩ c2).setCell ⟨B,3,none⟩ c3).setCell ⟨B,4,none⟩ c4).setCell ⟨B,5,none⟩ c5).setCell ⟨B,6,none⟩ c6).setCell ⟨B,7,none⟩ c7).setCell ⟨B,8,none⟩ c8).setCell ⟨B,9,none⟩ c9).setCell ⟨B+1,0,none⟩ (.int .i64 e)) ∧
   ∀ k,k≠B->k≠B+1->(((((((((((W.setCell ⟨B,0,none⟩ c0).setCell ⟨B,1,none⟩ c1).setCell ⟨B,2,none⟩ c2).setCell ⟨B,3,none⟩ c3).setCell ⟨B,4,none⟩ c4).setCell ⟨B,5,none⟩ c5).setCell ⟨B,6,none⟩ c6).setCell ⟨B,7,none⟩ c7).setCell ⟨B,8,none⟩ c8).setCell ⟨B,9,none⟩ c9).setCell ⟨B+1,0,none⟩ (.int .i64 e)).heap[k]?=W.heap[k]?:=Uj hb hl hR hc hE [c0,c1,c2,c3,c4,c5,c6,c7,c8,c9] rfl e
theorem pz(tmps:Array Value) (B:Nat) (W:World) (c0 c1 c2 c3 c4 c5 c6 c7 c8 c9:Value) (e:Int) (h2:tmps[2]?.getD undef=.pointer (some ⟨B,0,none⟩)) (h3:tmps[3]?.getD undef=.pointer (some ⟨B+1,0,none⟩))
  (hB:W.heap[B]?=some (.cells #[c0,c1,c2,c3,c4,c5,c6,c7,c8,c9] 35)) (hE:W.heap[B+1]?=some (.cells #[.int .i64 e] 39)) :
  (results Tryz.f120 tmps).run Tryz.prog W=.ok (.tuple #[.agg #[c0,c1,c2,c3,c4,c5,c6,c7,c8,c9],.int .i64 e]) W:=by
 have t2:=ab hB;have t3:=ab hE 0;simp at t3;simp[results,Tryz.results120,go_sem,h2,h3,t2,t3]
structure BCore (base b mb n:Nat) (tab tab':List Vw) (c:Nat) (word:List Rd) (views:List (List Int)) (Wr:World) (D:Nat->Bool) (x:Nat->Value) (W:World):Prop where
 lo:base<=Wr.heap.size
 keep:KeepT bldT [mb] base Wr W
 bld:BldIs base b mb n (bif D 14 then tab' else tab) W
 x4:D 4=true->aG W base 141 7 (x 4) word.length (cP word)
 x14:D 14=true->cI W base (x 14) views
 x15:D 15=true->D 4=true/\D 14=true/\x 15=.agg #[.int .i64 c,x 4,x 14]
 x16:D 16=true->D 4=true/\D 14=true/\∃ g,x 16=.slice (some ⟨g,0,none⟩) 1 1/\W.heap[g]?=some (.cells #[.int .i64 c,x 4,x 14] 89)
section
variable {base b mb n : Nat} {tab tab' : List Vw} {c : Nat} {word : List Rd} {views : List (List Int)} {Wr : World} {D : Nat → Bool} {x : Nat → Value} {W W' : World}
theorem BCore.other(h:BCore base b mb n tab tab' c word views Wr D x W) {i:Nat} (u:Value) (h4:4≠i) (Jd:14≠i) (h15:15≠i) (h16:16≠i):BCore base b mb n tab tab' c word views Wr (bA D i) (bZ x i u) W:=by
 refine⟨h.lo,h.keep,?_,?_,?_,?_,?_⟩
 ·simpa only[bA,if_neg Jd] using h.bld
 ·simpa only[bA,bZ,if_neg h4] using h.x4
 ·simpa only[bA,bZ,if_neg Jd] using h.x14
 ·simpa only[bA,bZ,if_neg h4,if_neg Jd,if_neg h15] using h.x15
 ·simpa only[bA,bZ,if_neg h4,if_neg Jd,if_neg h16] using h.x16
theorem BCore.clone(h:BCore base b mb n tab tab' c word views Wr D x W) (h4:D 4=false) (hb:Below W.heap.size W W') {u:Value} (ho:aG W' base 141 7 u word.length (cP word)):BCore base b mb n tab tab' c word views Wr (bA D 4) (bZ x 4 u) W':=by
 refine⟨h.lo,h.keep.trans (.of_below _ hb (Nat.le_trans h.lo h.keep.old.size)),?_,fun _=>by simpa[bZ] using ho,fun e=>?_,fun e=>?_,fun e=>?_⟩
 ·simpa only[bA,if_neg (show (14:Nat)≠4 by decide)] using h.bld.up hb
 ·simp only[bA,bZ,if_neg (show (14:Nat)≠4 by decide)]at e ⊢
  exact(h.x14 e).up hb
 ·simp only[bA,if_neg (show (15:Nat)≠4 by decide)]at e
  have:=(h.x15 e).1;rw[h4]at this;cases this
 ·simp only[bA,if_neg (show (16:Nat)≠4 by decide)]at e
  have:=(h.x16 e).1;rw[h4]at this;cases this
theorem BCore.play(h:BCore base b mb n tab tab' c word views Wr D x W) (Jd:D 14=false) (hk:KeepT bldT [mb] base W W') (hb:BldIs base b mb n tab' W') {u:Value} (ho:cI W' base u views):BCore base b mb n tab tab' c word views Wr (bA D 14) (bZ x 14 u) W':=by
 refine⟨h.lo,h.keep.trans hk,by simpa[bA] using hb,fun e=>?_,fun _=>by simpa[bZ] using ho,fun e=>?_,fun e=>?_⟩
 ·simp only[bA,bZ,if_neg (show (4:Nat)≠14 by decide)]at e ⊢
  exact hk.own (h.x4 e) (by decide)
 ·simp only[bA,if_neg (show (15:Nat)≠14 by decide)]at e
  have:=(h.x15 e).2.1;rw[Jd]at this;cases this
 ·simp only[bA,if_neg (show (16:Nat)≠14 by decide)]at e
  have:=(h.x16 e).2.1;rw[Jd]at this;cases this
theorem BCore.made(h:BCore base b mb n tab tab' c word views Wr D x W) (g4:D 4=true) (g14:D 14=true) {u:Value} (hu:u=.agg #[.int .i64 c,x 4,x 14]):BCore base b mb n tab tab' c word views Wr (bA D 15) (bZ x 15 u) W:=by
 refine⟨h.lo,h.keep,?_,?_,?_,fun _=>?_,?_⟩
 ·simpa only[bA,if_neg (show (14:Nat)≠15 by decide)] using h.bld
 ·simpa only[bA,bZ,if_neg (show (4:Nat)≠15 by decide)] using h.x4
 ·simpa only[bA,bZ,if_neg (show (14:Nat)≠15 by decide)] using h.x14
 ·simp only[bA,bZ,if_neg (show (4:Nat)≠15 by decide),if_neg (show (14:Nat)≠15 by decide),if_true]
  exact⟨g4,g14,hu⟩
 ·simpa only[bA,bZ,if_neg (show (4:Nat)≠15 by decide),if_neg (show (14:Nat)≠15 by decide),if_neg (show (16:Nat)≠15 by decide)] using h.x16
theorem BCore.row(h:BCore base b mb n tab tab' c word views Wr D x W) (g4:D 4=true) (g14:D 14=true) {u4 u14:Value} (e4:x 4=u4) (e14:x 14=u14):BCore base b mb n tab tab' c word views Wr (bA D 16) (bZ x 16 (.slice (some ⟨W.heap.size,0,none⟩) 1 1)) (W.alloc (.cells #[.int .i64 c,u4,u14] 89)):=by
 subst e4 e14;have hb:Below W.heap.size W (W.alloc (.cells #[.int .i64 c,x 4,x 14] 89)):=by go_grown
 refine⟨h.lo,h.keep.trans (.of_below _ hb (Nat.le_trans h.lo h.keep.old.size)),?_,fun e=>?_,fun e=>?_,?_,fun _=>?_⟩
 ·simpa only[bA,if_neg (show (14:Nat)≠16 by decide)] using h.bld.up hb
 ·simp only[bA,bZ,if_neg (show (4:Nat)≠16 by decide)]at e ⊢
  exact(h.x4 e).up hb
 ·simp only[bA,bZ,if_neg (show (14:Nat)≠16 by decide)]at e ⊢
  exact(h.x14 e).up hb
 ·simpa only[bA,bZ,if_neg (show (4:Nat)≠16 by decide),if_neg (show (14:Nat)≠16 by decide),if_neg (show (15:Nat)≠16 by decide)] using h.x15
 ·simp only[bA,bZ,if_neg (show (4:Nat)≠16 by decide),if_neg (show (14:Nat)≠16 by decide),if_true]
  exact⟨g4,g14,W.heap.size,rfl,am _ _⟩
end
theorem Tryz.infoExec:(Tryz.prog.info? 89).map (fun i=>(i.zero,i.size,i.bytes))=some (some (.agg #[.int .i64 0,.slice none 0 0,.slice none 0 0]),3,56):=by kernel_rfl
theorem QN{F:Fence} {n:Nat} {P:Program} {c:Code} {Q:Exit->Act->World->Prop} {a:Act} {W:World} (I:World->Prop) (h:I W) (k:∀ W0,I W0->c.wpIn F n P Q a W0):c.wpIn F n P Q a W:=k W h
theorem BInv.up{p:Pb} {uc us:Value} {wd:World} {Bs Bb b mb:Nat} {tab:List Vw} {ex:List Ex} {W W':World} (h:BInv p uc us wd Bs Bb b mb tab ex W) (hb:Below W.heap.size W W'):BInv p uc us wd Bs Bb b mb tab ex W':=by
 obtain⟨ve,xs,h1,h2,h3⟩:=h.s;exact⟨ae h.old hb,h.lo,af hb h.bx,⟨ve,xs,af hb h1,h2.up hb,fun i hi=>by obtain⟨a,d,p1,p2,p3,p4,p5⟩:=h3 i hi;exact⟨a,d,p1,p2,p3,p4.up hb,p5.up hb⟩⟩,h.bld.up hb⟩
end Go.Proofs.YtmeaoneaephjeaaGreatDoor
namespace Go.Proofs.YtmeaoneaephjeaaGreatDoor
open Go.RowKit Go Go.Shelf
theorem xH{w:World} {base:Nat} {v:Value} {l:List Vw} (h:aG w base 190 8 v l.length (eM l)) (hx:∀ u∈l,jC u) (hn:l.length<=17592186044416):mD w v l:=by
 have aQ:=fun i (hi:i<l.length) j (u:Value) (hj:j<8) (hu:l[i].c[j]?=some u)=>h.cell (i * 8+j) u (by unfold eM;rw[oK Vw.c 8 (fun _=>rfl) l i j hi hj];exact hu)
 rcases h.2 with ⟨hz,h0⟩|⟨g,cap,cur,fz,rfl,_,hg,_,kg,iP,_⟩
 ·refine⟨none,0,by rw[hz,h0],⟨by omega,by omega,fun _=>rfl⟩,hn,fun i x hi=>?_⟩
  have:=(List.getElem?_eq_some_iff.1 hi).1;omega
 ·refine⟨some ⟨g,0,none⟩,cap,rfl,⟨kg,by simp only[maxLen]at iP;omega,fun e=>by cases e⟩,hn,fun i x hi=>⟨g,0,rfl,?_⟩⟩
  obtain⟨gM,rfl⟩:=List.getElem?_eq_some_iff.1 hi;obtain⟨r0,r1,r2,r3,r4,r5,r6,r7⟩:=hx _ (List.getElem_mem gM)
  have key:∀ j u,j<8->l[i].c[j]?=some u->w.cell? ⟨g,0+i * 8+j,none⟩=some u:=fun j u hj hu=>by
   obtain⟨g',c',e1,e2⟩:=aQ i gM j u hj hu;have:g=g':=by simp at e1;exact e1.1
   rw[this,Nat.zero_add];exact e2
  exact⟨⟨key 0 _ (by omega) rfl,r0⟩,⟨key 1 _ (by omega) rfl,r1⟩,⟨key 2 _ (by omega) rfl,r2⟩,⟨key 3 _ (by omega) rfl,r3⟩,⟨key 4 _ (by omega) rfl,r4⟩,⟨key 5 _ (by omega) rfl,r5⟩,⟨key 6 _ (by omega) rfl,r6⟩,⟨key 7 _ (by omega) rfl,r7⟩⟩
structure ExGood (x:Ex):Prop where
 c:bM x.c
 word:x.word.length<=6/\∀ r∈x.word,oU r
 views:x.views.length<=7/\(∀ row∈x.views,row.length<=5)/\∀ row∈x.views,∀ z∈row,bM z
theorem Kf{w:World} {base:Nat} {v:Value} {l:List Ex} {xs:List Value} (h:aG w base 89 3 v l.length xs) (hx:∀ i (hi:i<l.length),za w base xs i l[i]) (hg:∀ x∈l,ExGood x) (hn:l.length<=17592186044416):y8 w v l:=by
 have aQ:=fun j (u:Value) (hu:xs[j]?=some u)=>h.cell j u hu
 rcases h.2 with ⟨hz,h0⟩|⟨g,cap,cur,fz,rfl,_,mS,_,kg,iP,_⟩
 ·refine⟨none,0,by rw[hz,h0],⟨by omega,by omega,fun _=>rfl⟩,hn,fun i x hi=>?_⟩
  have:=(List.getElem?_eq_some_iff.1 hi).1;omega
 ·refine⟨some ⟨g,0,none⟩,cap,rfl,⟨kg,by simp only[maxLen]at iP;omega,fun e=>by cases e⟩,hn,fun i x hi=>⟨g,0,rfl,?_⟩⟩
  obtain⟨gM,rfl⟩:=List.getElem?_eq_some_iff.1 hi;obtain⟨a,b,p1,p2,p3,p4,p5⟩:=hx i gM;have kX:=hg _ (List.getElem_mem gM)
  have key:∀ j u,xs[i * 3+j]?=some u->w.cell? ⟨g,0+i * 3+j,none⟩=some u:=fun j u hu=>by
   obtain⟨g',c',e1,e2⟩:=aQ _ u hu;have:g=g':=by simp at e1;exact e1.1
   rw[this,Nat.zero_add];exact e2
  refine⟨⟨key 0 _ p1,kX.c⟩,⟨a,key 1 _ p2,q6 p4 (fun i hi=>kX.word.2 _ (List.getElem_mem hi)) (by have:=kX.word.1;omega)⟩,⟨b,key 2 _ p3,nm p5 kX.views.2.2 (by have:=kX.views.1;omega) (fun x hx=>by have:=kX.views.2.1 x hx;omega)⟩⟩
theorem tK(n:Nat) (inp:List Int) (word:List Rd) (tb:List Vw):∀ k,∀ row∈(playTo n inp word tb k).2,row.length=n
 | 0=>fun row hr=>by
  have h:=(il n inp word tb 0).2.1;have e:(playTo n inp word tb 0).2=[(uk n inp tb).2]:=rfl;rw[e]at hr h;rw[List.mem_singleton]at hr;subst hr;exact h
 | k+1=>fun row hr=>by
  have h:=(il n inp word tb (k+1)).2.1;have e:(playTo n inp word tb (k+1)).2=(playTo n inp word tb k).2++[(addAll (playTo n inp word tb k).1 (fB n k (word.getD k default) ((playTo n inp word tb k).2.getLastD []))).2]:=rfl;rw[e]at hr h;rw[List.getLastD_concat]at h;rcases List.mem_append.1 hr with hr|hr
  ·exact tK n inp word tb k row hr
  ·rw[List.mem_singleton]at hr
   subst hr;exact h
theorem AS{p:Pb} (h:probE p=0) (hc:∀ c∈p.t.cases,∀ y∈c.inp,bM y) (hw:∀ x∈aK p,∀ r∈x,oU r) (ht:(execsS p (aK p) (fw p)).1.length<=8192):∀ i,i<=p.t.cases.length * (aK p).length->(∀ v∈(stP p i).1,jC v)/\∀ x∈(stP p i).2,ExGood x
 | 0,_=>⟨fun v hv=>by simp[stP,execsS]at hv,fun x hx=>by simp[stP,execsS]at hx⟩
 | i+1,hi=>by
  obtain⟨h1,h2⟩:=AS h hc hw ht i (by omega);obtain⟨mO,_,_,rL,pR⟩:=gt h;obtain⟨⟨_,ji⟩,_,_,⟨_,bP⟩,gg⟩:=eY mO;have kH:(stP p i).1.length<=8192:=Nat.le_trans (wA p (aK p) (fw p) i) ht;have aA:i<p.t.cases.length * (aK p).length:=by omega
  have oA:0<(aK p).length:=by
   rcases Nat.eq_zero_or_pos (aK p).length with h|h
   ·rw[h]at aA;simp at aA
   ·exact h
  have hci:i / (aK p).length<p.t.cases.length:=by rw[Nat.div_lt_iff_lt_mul oA];exact aA
  have hj:i % (aK p).length<(aK p).length:=Nat.mod_lt _ oA;have dU:=vS p i aA;unfold jS at dU;dsimp only at dU;rw[az default hci,az [] hj]at dU
  have Pa:((aK p)[i % (aK p).length]).length<=6:=by
   have:=jR p.a p.rounds.toNat 0 _ (List.getElem_mem (l:=aK p) hj);omega
  have cO:=xG p.t.n.toNat (by omega) (p.t.cases[i / (aK p).length]).inp (hc _ (List.getElem_mem hci)) (aK p)[i % (aK p).length] (stP p i).1 h1 _ Pa (by omega);have hrows:=tK p.t.n.toNat (p.t.cases[i / (aK p).length]).inp (aK p)[i % (aK p).length] (stP p i).1 ((aK p)[i % (aK p).length]).length;have cG:=(il p.t.n.toNat (p.t.cases[i / (aK p).length]).inp (aK p)[i % (aK p).length] (stP p i).1 ((aK p)[i % (aK p).length]).length).1;rw[dU];refine⟨cO.1,fun x hx=>?_⟩;rcases List.mem_append.1 hx with hx|hx
  ·exact h2 x hx
  ·rw[List.mem_singleton]at hx
   subst hx;exact⟨uB _ (by omega),⟨Pa,hw _ (List.getElem_mem hj)⟩,by simp only[gh];omega,fun row hr=>by have:=hrows row hr;omega,fun row hr z hz=>by have:=cO.2 row hr z hz;exact⟨by omega,by omega⟩⟩
theorem Of(a b:Rd) (w:World):(binOp .neq 141 a.v b.v).run Tryz.prog w=.ok (.bool (!decide (a=b))) w:=by
 rw[run_neq_struct,Df 9996];rfl
theorem eW{α:Type} [DecidableEq α] {a b:List α} (d:α) (hl:a.length=b.length) (h:∀ j,j<a.length->a.getD j d=b.getD j d):a=b:=
 List.ext_getElem hl fun i h1 h2=>by
  have:=h i h1
  rwa [az d h1,az d h2]at this
theorem BQ(va vb:Value) (a b:List Rd) (w:World) (ha:j8 w va a) (hb:j8 w vb b) :
  Calls Tryz.prog 167 #[va,vb] w fun e w'=>e=.returned (.bool (decide (a=b)))/\Below w.heap.size w w':=by
 obtain⟨pa,ca,rfl,la1,la2,ea⟩:=ha.at;obtain⟨pb,cb,rfl,lb1,lb2,eb⟩:=hb.at;clear ha hb;have EA:=aa ea;clear ea;have EB:=aa eb;clear eb;generalize nB:decide (a=b)=res;have jr:=aa nB;clear nB;by_cases hl:a.length=b.length
 case neg=>
  have ie:((a.length:Int) != (b.length:Int))=true:=by simp;omega
  have HR:Hid (res=false):=by(have h:res=false:=by(rw[<-jr.out];simp;intro h;exact hl (by rw[h])));exact h
  clear hl
  go_enter Tryz.func167,Tryz.ntmps167
  go_wp2
  go_ret
  exact⟨aO HR.out.symm,Below.refl _ _⟩
 have ie:((a.length:Int) != (b.length:Int))=false:=by simp[hl]
 have HL:=aa hl;clear hl
 go_enter Tryz.func167,Tryz.ntmps167
 go_wp2
 clear ie
 go_loopw [13] (fun i wr=>Below w.heap.size w wr/\∃ k:Nat,k<=a.length/\i=.int .i64 k/\∀ j,j<k->a.getD j default=b.getD j default) (fun i _=>a.length - (intOf i).toNat)
 case atStart=>exact⟨Below.refl _ _,0,by omega,rfl,by simp⟩
 case round=>
  obtain⟨ar,k,hk,rfl,aR⟩:=hrel;have H:=aa aR;clear aR;by_cases aA:k<a.length
  ·have iL:k<b.length:=by have:=HL.out;omega
   obtain⟨b1,o1,rfl,⟨c0,r0⟩,⟨c1,r1⟩,⟨c2,r2⟩,⟨c3,r3⟩,⟨c4,r4⟩,⟨c5,r5⟩,⟨c6,r6⟩⟩:=EA.out k aA;obtain⟨b2,o2,rfl,⟨e0,s0⟩,⟨e1,s1⟩,⟨e2,s2⟩,⟨e3,s3⟩,⟨e4,s4⟩,⟨e5,s5⟩,⟨e6,s6⟩⟩:=EB.out k iL;have c0':∀ y:ExtW wr,y.val.cell? ⟨b1,o1+k * 7,none⟩=_:=fun y=>y.cell (ak ar c0)
   have c1':∀ y:ExtW wr,y.val.cell? ⟨b1,o1+k * 7+1,none⟩=_:=fun y=>y.cell (ak ar c1)
   have c2':∀ y:ExtW wr,y.val.cell? ⟨b1,o1+k * 7+2,none⟩=_:=fun y=>y.cell (ak ar c2)
   have c3':∀ y:ExtW wr,y.val.cell? ⟨b1,o1+k * 7+3,none⟩=_:=fun y=>y.cell (ak ar c3)
   have c4':∀ y:ExtW wr,y.val.cell? ⟨b1,o1+k * 7+4,none⟩=_:=fun y=>y.cell (ak ar c4)
   have c5':∀ y:ExtW wr,y.val.cell? ⟨b1,o1+k * 7+5,none⟩=_:=fun y=>y.cell (ak ar c5)
   have c6':∀ y:ExtW wr,y.val.cell? ⟨b1,o1+k * 7+6,none⟩=_:=fun y=>y.cell (ak ar c6)
   have e0':∀ y:ExtW wr,y.val.cell? ⟨b2,o2+k * 7,none⟩=_:=fun y=>y.cell (ak ar e0)
   have e1':∀ y:ExtW wr,y.val.cell? ⟨b2,o2+k * 7+1,none⟩=_:=fun y=>y.cell (ak ar e1)
   have e2':∀ y:ExtW wr,y.val.cell? ⟨b2,o2+k * 7+2,none⟩=_:=fun y=>y.cell (ak ar e2)
   have e3':∀ y:ExtW wr,y.val.cell? ⟨b2,o2+k * 7+3,none⟩=_:=fun y=>y.cell (ak ar e3)
   have e4':∀ y:ExtW wr,y.val.cell? ⟨b2,o2+k * 7+4,none⟩=_:=fun y=>y.cell (ak ar e4)
   have e5':∀ y:ExtW wr,y.val.cell? ⟨b2,o2+k * 7+5,none⟩=_:=fun y=>y.cell (ak ar e5)
   have e6':∀ y:ExtW wr,y.val.cell? ⟨b2,o2+k * 7+6,none⟩=_:=fun y=>y.cell (ak ar e6)
   have HX:=aa (az default aA);have HY:=aa (az default iL);clear c0 r0 e0 s0 c1 r1 e1 s1 c2 r2 e2 s2 c3 r3 e3 s3 c4 r4 e4 s4 c5 r5 e5 s5 c6 r6 e6 s6;generalize a[k]=x at c0' c1' c2' c3' c4' c5' c6' HX;generalize b[k]=y at e0' e1' e2' e3' e4' e5' e6' HY;have bJ:=fun w=>Of x y w
   go_wp2
   by_cases bY:x=y
   ·have hd:decide (x=y)=true:=by simpa using bY
    have nT:Hid (a.getD k default=b.getD k default):=by(have h:a.getD k default=b.getD k default:=by(rw[HX.out,HY.out,bY]));exact h
    rw[hd]at bJ;clear bY hd;refine aC (by kernel_rfl) (by kernel_rfl) ?_
    repeat (go_big_quiet_step (fail))
    refine wpQuiet_nil ?_;intro _ dY;obtain⟨xq,cX⟩:=dY;subst cX;clear c0' c1' c2' c3' c4' c5' c6' e0' e1' e2' e3' e4' e5' e6' bJ
    go_wp2
    go_roundw
    case rel=>exact⟨ae ar xq.ext,k+1,by omega,by go_num,aS H.out nT.out⟩
    case measure=>simp[intOf];omega
   ·have hd:decide (x=y)=false:=by simpa using bY
    have HR:Hid (res=false):=by(have h:res=false:=by(rw[<-jr.out];simp;intro h;subst h;rw[HX.out]at HY;exact bY HY.out));exact h
    rw[hd]at bJ;clear bY hd;refine aC (by kernel_rfl) (by kernel_rfl) ?_
    repeat (go_big_quiet_step (fail))
    refine wpQuiet_nil ?_;intro _ dY;obtain⟨xq,cX⟩:=dY;subst cX;clear c0' c1' c2' c3' c4' c5' c6' e0' e1' e2' e3' e4' e5' e6' bJ
    go_wp2
    go_ret
    exact⟨aO HR.out.symm,ae ar xq.ext⟩
  ·have HR:Hid (res=true):=by(have h:res=true:=by(rw[<-jr.out];simp;exact eW default HL.out fun j hj=>H.out j (by omega)));exact h
   go_wp2
   go_ret
   exact⟨aO HR.out.symm,ar⟩
end Go.Proofs.YtmeaoneaephjeaaGreatDoor
namespace Go.Proofs.YtmeaoneaephjeaaGreatDoor
def Dw(r:Rd):List Rd->List Rd
 | []=>[r]
 | x :: l=>if roundC r x<0 then r :: x :: l else if roundC r x=0 then x :: l else x :: Dw r l
def AT(a:Adv):List Rd:=(a.states.flatMap fun l=>l.map (·.r)).foldr Dw []
theorem QO(a:List Int):∀ b,ordV a b=0↔a=b:=by
 induction a with
 | nil=>intro b;cases b<;>simp[ordV]
 | cons x r ih=>
  intro b;cases b with
  | nil=>simp[ordV]
  | cons y s=>
   rw[ordV];have:=ih s;rw[List.cons.injEq]
   grind
theorem QP{a b:Rd} (h:a.list=b.list):a=b:=by
 obtain⟨⟨_,_,_,_,_,_⟩,_⟩:=a;obtain⟨⟨_,_,_,_,_,_⟩,_⟩:=b;simp[Rd.list]at h;simp[h]
theorem LR(a b:Rd):roundC a b=0↔a=b:=by
 rw[Ju,QO];exact⟨QP,fun h=>by rw[h]⟩
theorem QQ(r x:Rd) (l:List Rd):x∈Dw r l↔x=r\/x∈l:=by
 induction l with
 | nil=>simp[Dw]
 | cons y l ih=>
  unfold Dw;by_cases h1:roundC r y<0
  ·simp[h1]
  ·by_cases h2:roundC r y=0
   ·have:=(LR r y).1 h2
    subst this;simp[h2]
   ·simp only[if_neg h1,if_neg h2,List.mem_cons,ih]
    grind
theorem zN(a:Adv) (x:Rd):x∈AT a↔∃ l∈a.states,∃ m∈l,m.r=x:=by
 unfold AT
 have key:∀ l:List Rd,x∈l.foldr Dw []↔x∈l:=by
  intro l;induction l with
  | nil=>simp
  | cons y l ih=>rw[List.foldr_cons,QQ,ih,List.mem_cons]
 rw[key];simp
structure OkR (n:Int) (r:Rd):Prop where
 gn:r.g.n=n
 h:∀ q,q<5->0<=r.g.hear q/\r.g.hear q<32
 z:∀ q:Nat,n<=q->q<5->r.g.hear q=0
 n1:1<=n/\n<=5
 f:0<=r.f/\r.f<32
theorem QR{g:Gr} (h:gF g=0):(∀ q,q<5->0<=g.hear q/\g.hear q<32)/\(∀ q:Nat,g.n<=q->q<5->g.hear q=0)/\1<=g.n/\g.n<=5:=by
 unfold gF at h;split at h
 ·omega
 rename_i h1;have h2:=fo h;have hn:g.n=1\/g.n=2\/g.n=3\/g.n=4\/g.n=5:=by omega
 have key:∀ q,q<5->(0<=g.hear q/\g.hear q<32)/\(g.n<=(q:Int)->g.hear q=0):=fun q hq=>by
  have h3:=h2 q hq;unfold l5 at h3;split at h3
  ·split at h3
   ·omega
   ·rename_i h4
    exact⟨by omega,fun _=>by omega⟩
  ·split at h3
   ·omega
   ·rename_i h4 h5
    refine⟨?_,fun e=>absurd e h4⟩;rcases hn with e|e|e|e|e<;>rw[e]at h5<;>simp at h5<;>omega
 exact⟨fun q hq=>(key q hq).1,fun q hn hq=>(key q hq).2 hn,by omega,by omega⟩
theorem Og{a:Adv} (ha:advE a=0) {r:Rd} (h:r∈AT a):OkR a.n r:=by
 obtain⟨l,hl,m,hm,rfl⟩:=(zN a r).1 h;obtain⟨s,hs,rfl⟩:=List.getElem_of_mem hl;obtain⟨j,hj,rfl⟩:=List.getElem_of_mem hm;have h1:=(gY ha).2.1 s hs;rw[show a.states.getD s []=a.states[s] by simp[hs]]at h1;unfold stateE at h1;rw[if_neg (by omega)]at h1;have h2:=fo h1 j hj;have hf:=(Dc h2).1;unfold dH at h2;rw[show a.states[s].getD j default=a.states[s][j] by simp[hj]]at h2 hf;split at h2
 ·rename_i h3;exact absurd h2 h3
 rename_i h3;split at h2
 ·omega
 rename_i h4;have h5:roundE a.states[s][j].r=0:=by simpa using h3
 unfold roundE at h5;split at h5
 ·rename_i h6;exact absurd h5 h6
 rename_i h6;obtain⟨g1,g2,g3,g4⟩:=QR (by simpa using h6);have hn:a.states[s][j].r.g.n=a.n:=by simpa using h4
 rw[hn]at g2 g3 g4;exact⟨hn,g1,g2,⟨g3,g4⟩,hf⟩
end Go.Proofs.YtmeaoneaephjeaaGreatDoor
namespace Go.Proofs.YtmeaoneaephjeaaGreatDoor
open Go.RowKit Go Go.Shelf
section
variable {ts : List TypeId} {ms : List Nat} {base : Nat} {w w' w'' : World}
theorem KeepT.up(h:KeepT ts ms base w w') (hb:Below w'.heap.size w' w'') (hs:base<=w.heap.size):KeepT ts ms base w w'':=
 h.trans (.of_below ts hb (Nat.le_trans hs h.old.size))
end
theorem sr{p:Pb} (h:probE p=0):∀ i,i<=p.t.cases.length * (aK p).length->(stP p i).1.length<=i * 35
 | 0,_=>by simp[stP,execsS]
 | i+1,hi=>by
  have ih:=sr h i (by omega);obtain⟨mO,_,_,rL,pR⟩:=gt h;obtain⟨⟨_,ji⟩,_,_,⟨_,bP⟩,gg⟩:=eY mO;have aA:i<p.t.cases.length * (aK p).length:=by omega
  have oA:0<(aK p).length:=by
   rcases Nat.eq_zero_or_pos (aK p).length with h|h
   ·rw[h]at aA;simp at aA
   ·exact h
  have hj:i % (aK p).length<(aK p).length:=Nat.mod_lt _ oA
  have Pa:((aK p)[i % (aK p).length]).length<=6:=by
   have:=jR p.a p.rounds.toNat 0 _ (List.getElem_mem (l:=aK p) hj);omega
  have dU:=vS p i aA;unfold jS at dU;dsimp only at dU;rw[az [] hj]at dU;have cG:=(il p.t.n.toNat (p.t.cases.getD (i / (aK p).length) default).inp (aK p)[i % (aK p).length] (stP p i).1 ((aK p)[i % (aK p).length]).length).2.2;have h9:p.t.n.toNat * (((aK p)[i % (aK p).length]).length+1)<=5 * 7:=Nat.mul_le_mul (by omega) (by omega);rw[dU];simp only[gh];omega
theorem Oh{P:Rd->Prop} (a:Adv) (h:∀ s,∀ m∈a.states.getD s [],P m.r) (k:Nat):∀ s,∀ x∈bU a k s,∀ r∈x,P r:=by
 induction k with
 | zero=>intro s x hx r hr;simp[bU]at hx;subst hx;simp at hr
 | succ k ih=>
  intro s x hx r hr;simp only[bU,List.mem_flatMap,List.mem_map]at hx;obtain⟨m,hm,y,hy,rfl⟩:=hx;rcases List.mem_cons.1 hr with rfl|hr
  ·exact h s m hm
  ·exact ih _ y hy r hr
theorem Oi{p:Pb} (h:probE p=0):∀ x∈aK p,∀ r∈x,OkR p.a.n r:=by
 have ha:=(gt h).2.1;refine Oh p.a (fun s m hm=>Og ha ((zN p.a m.r).2 ?_)) _ 0;by_cases hs:s<p.a.states.length
 ·rw[az [] hs]at hm
  exact⟨_,List.getElem_mem hs,m,hm,rfl⟩
 ·rw[List.getD_eq_getElem?_getD,List.getElem?_eq_none (by omega)]at hm
  simp at hm
def btT(n:Nat) (inp:List Int) (word:List Rd) (tb:List Vw):Nat->List Vw × List (List Int)
 | 0=>(tb,[])
 | k+1=>playTo n inp word tb k
def btV(n:Nat) (inp:List Int) (word:List Rd) (k:Nat) (now:List Int):List Vw:=(List.range n).map fun q=>if k=0 then dS inp q else nextV n (k - 1) (word.getD (k - 1) default) now q
theorem Uk(n:Nat) (inp:List Int) (word:List Rd) (k:Nat) (now:List Int):(btV n inp word k now).length=n:=by simp[btV]
theorem QS(n:Nat) (inp:List Int) (word:List Rd) (tb:List Vw):∀ k,btT n inp word tb (k+1)=((addAll (btT n inp word tb k).1 (btV n inp word k ((btT n inp word tb k).2.getLastD []))).1,(btT n inp word tb k).2++[(addAll (btT n inp word tb k).1 (btV n inp word k ((btT n inp word tb k).2.getLastD []))).2])
 | 0=>rfl
 | _+1=>rfl
theorem Ul(n:Nat) (inp:List Int) (word:List Rd) (tb:List Vw):∀ k,(btT n inp word tb k).2.length=k/\(btT n inp word tb k).1.length<=tb.length+n * k/\∀ row∈(btT n inp word tb k).2,row.length=n
 | 0=>⟨rfl,Nat.le_add_right _ _,fun row h=>by simp[btT]at h⟩
 | k+1=>⟨(il n inp word tb k).1,(il n inp word tb k).2.2,tK n inp word tb k⟩
theorem U4(n:Nat) (hn:n<=5) (inp:List Int) (hi:∀ x∈inp,bM x) (word:List Rd) (tb:List Vw) (ht:∀ v∈tb,jC v) (hl:tb.length+40<=100000):∀ k,k<=7->(∀ v∈(btT n inp word tb k).1,jC v)/\∀ row∈(btT n inp word tb k).2,∀ z∈row,0<=z/\z<=(100000:Int)
 | 0,_=>⟨ht,fun row h=>by simp[btT]at h⟩
 | k+1,hk=>xG n hn inp hi word tb ht k (by omega) hl
theorem U5(n:Nat) (hn:n<=5) (inp:List Int) (hi:∀ x∈inp,bM x) (word:List Rd) (k:Nat) (hk:k<=7) (now:List Int) (pg:∀ z∈now,0<=z/\z<=(100000:Int)):∀ v∈btV n inp word k now,jC v:=fun v hv=>by
 obtain⟨q,hq,rfl⟩:=List.mem_map.1 hv;have hq:=List.mem_range.1 hq;have z1:bM (-1):=⟨by omega,by omega⟩;have z0:bM 0:=⟨by omega,by omega⟩;by_cases h0:k=0
 ·rw[if_pos h0]
  have hx:bM (inp.getD q 0):=by
   by_cases h:q<inp.length
   ·rw[az 0 h];exact hi _ (List.getElem_mem h)
   ·rw[List.getD_eq_getElem?_getD,List.getElem?_eq_none (by omega)];exact z0
  exact⟨uB q (by omega),z0,hx,z1,z1,z1,z1,z1⟩
 ·rw[if_neg h0]
  have hh:∀ p,bM (lG n (word.getD (k - 1) default) now q p):=fun p=>by
   unfold lG;split
   ·by_cases h:p<now.length
    ·rw[az 0 h];have:=pg _ (List.getElem_mem h);exact⟨by omega,by omega⟩
    ·rw[List.getD_eq_getElem?_getD,List.getElem?_eq_none (by omega)];exact z0
   ·exact z1
  exact⟨uB q (by omega),⟨by simp only[nextV];omega,by simp only[nextV];omega⟩,z0,hh 0,hh 1,hh 2,hh 3,hh 4⟩
def pM(tb:List Vw) (vs:List Vw) (q:Nat):List Vw × List Int:=addAll tb (vs.take q)
theorem Um(tb vs:List Vw):pM tb vs vs.length=addAll tb vs:=by unfold pM;rw[List.take_length]
theorem QT(tb vs:List Vw) (q:Nat) (hq:q<vs.length):pM tb vs (q+1)=((putV (pM tb vs q).1 vs[q]).1,(pM tb vs q).2++[((putV (pM tb vs q).1 vs[q]).2:Int)]):=by
 unfold pM;rw[tm tb vs q hq];rfl
theorem U6(tb vs:List Vw) (hv:∀ v∈vs,jC v) (ht:∀ v∈tb,jC v) (hl:tb.length+vs.length<=100000) (q:Nat):(∀ v∈(pM tb vs q).1,jC v)/\(∀ z∈(pM tb vs q).2,0<=z/\z<=(100000:Int))/\(pM tb vs q).1.length<=100000:=by
 have kH:(vs.take q).length<=vs.length:=by rw[List.length_take];omega
 have h:=xF 100000 (vs.take q) (tb,[]) (fun v h=>hv v (List.mem_of_mem_take h)) ht (fun z hz=>by simp at hz) (by dsimp only;omega);have h2:=fA (vs.take q) (tb,[]);exact⟨h.1,h.2,by have:=h2.2;simp only[pM,addAll]at this ⊢;omega⟩
theorem Un(tb vs:List Vw) (q:Nat) (hq:q<=vs.length):(pM tb vs q).2.length=q:=by
 have h2:=(fA (vs.take q) (tb,[])).1;simp only[pM,addAll];rw[h2,List.length_take];simp;omega
section
variable {P : Program} (w : World)
theorem GZ(base:Nat) (t ty e:TypeId) (i:TypeInfo) (z:Value) (size bytes:Nat) (ht:P.underlying t=some (.slice e)) (hi:P.info? e=some i) (hz:i.zero=some z)
  (eO:i.size=size) (gy:i.bytes=bytes) (rK:z.cells.size=size) (eT:0<size)
  (v:Value) (n:Nat) (xs:List Value) (aX:aG w base e size v n xs)
  (u:Value) (m:Nat) (news:List Value) (hu:mu w size u m news)
  (oh:n+m<=maxLen) (go:(n+m) * bytes<=140737488355328) (l9:base<=w.heap.size) :
  ∃ v' w',(Builtin.append_ #[t,t] ty #[v,u]).run P w=.ok v' w'/\aG w' base e size v' (n+m) (xs++news)/\w.grownBy w' v.ownBlock/\(v'.ownBlock=v.ownBlock\/v'.ownBlock=some w.heap.size):=by
 obtain⟨a,cap,rfl,jD,cG,hc,h1⟩:=hu;cases a with
 | some ad=>
  refine qZ w base t ty e i z size bytes ht hi hz eO gy rK eT v n xs aX ad m cap news cG (fun j u hj=>?_) h1 oh go l9;obtain⟨b,o,e1,eB⟩:=hc j u hj;cases e1;have:(Addr.add ⟨b,o,none⟩ j)=⟨b,o+j,none⟩:=by unfold Addr.add;split<;>simp_all
  rw[this];exact eB
 | none=>
  obtain⟨rfl,rfl⟩:=jD rfl;have hn:news=[]:=List.eq_nil_of_length_eq_zero (by simpa using cG);subst hn;refine⟨v,w,?_,by simpa using aX,⟨rfl,rfl,rfl,Nat.le_refl _,fun _ _ _=>rfl⟩,.inl rfl⟩;rcases aX.2 with ⟨rfl,rfl⟩|⟨g,cp,cur,fz,rfl,_,_,_,jO,_⟩
  ·simp[Builtin.append_,run_underlying ht,sizeOf,typeInfo,hi,Builtin.lenOf,Builtin.firstCells]
  ·simp[Builtin.append_,run_underlying ht,sizeOf,typeInfo,hi,Builtin.lenOf,Builtin.firstCells,jO,storeCells]
theorem kA{ops:Array Oper} {rest:List Oper} {o:Oper} {a:Act} {Q:Exit->Act->World->Prop} (kX:o.guard=none) (s x:Operand) (t:TypeId)
  (ho:o.op=.call { callee:=.builtin .append,args:=#[s,x],argTypes:=#[t,t] })
  (base:Nat) (e:TypeId) (i:TypeInfo) (z:Value) (size bytes:Nat) (ht:P.underlying t=some (.slice e)) (hi:P.info? e=some i) (hz:i.zero=some z)
  (eO:i.size=size) (gy:i.bytes=bytes) (rK:z.cells.size=size) (eT:0<size)
  (v:Value) (n:Nat) (xs:List Value) (hs:a.eval s=v) (aX:aG w base e size v n xs)
  (u:Value) (m:Nat) (news:List Value) (hx:a.eval x=u) (hu:mu w size u m news)
  (oh:n+m<=maxLen) (go:(n+m) * bytes<=140737488355328) (l9:base<=w.heap.size)
  (h:∀ v' w',aG w' base e size v' (n+m) (xs++news)->w.grownBy w' v.ownBlock->(v'.ownBlock=v.ownBlock\/v'.ownBlock=some w.heap.size)->wpList P ops Q rest (a.put o.dst v') w'):wpList P ops Q (o :: rest) a w:=by
 refine wpList_plain kX fun _ hK=>?_
 obtain⟨v',w',hr,h2,h3,h4⟩:=GZ (P:=P) w base t o.type e i z size bytes ht hi hz eO gy rK eT v n xs aX u m news hu oh go l9;unfold Oper.wp execOp;simp only[ho,resolve,invoke,builtin,Sem.run_bind,Sem.run_pure,Result.andThen_ok,List.map_toArray,List.map_cons,List.map_nil,hs,hx,hr];exact hK _ _ (h v' w' h2 h3 h4)
end
end Go.Proofs.YtmeaoneaephjeaaGreatDoor
