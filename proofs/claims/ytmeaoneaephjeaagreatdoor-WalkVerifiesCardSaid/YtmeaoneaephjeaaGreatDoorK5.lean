/-
  A part of the proof: lemmas and contracts that the parts behind it use. Each one's conditions are its own premises.
-/
import Derived.Test.YtmeaoneaephjeaaGreatDoorK4
set_option maxRecDepth 100000
set_option maxHeartbeats 8000000
set_option linter.unusedVariables false
set_option linter.unusedSimpArgs false
namespace Go.Proofs.YtmeaoneaephjeaaGreatDoor
open Go.RowKit Go Go.Shelf
attribute [local go_sem] Oper.semAt_some
def gh(w:World) (k:Nat) (v:Value) (n:Nat) (xs:List Value):Prop:=
 ∃ a cap,v=.slice a n cap/\(a=none->n=0/\cap=0)/\xs.length=n * k/\(∀ j u,xs[j]?=some u->∃ b o,a=some ⟨b,o,none⟩/\w.cell? ⟨b,o+j,none⟩=some u)/\∀ u∈xs,u.oneCell'=true
theorem BO{α:Type} {k:Nat} {R:World->Nat->Nat->α->Prop} {w:World} {v:Value} {l:List α} (h:eM k R w v l) (hk:0<k) (hR:∀ b o x j,R w b o x->j<k->∃ u,w.cell? ⟨b,o+j,none⟩=some u/\u.oneCell'=true):∃ xs,gh w k v l.length xs:=by
 obtain⟨a,cap,rfl,h1,h2,h3⟩:=h
 have key:∀ i:Fin (l.length * k),∃ u:Value,∃ b o,a=some ⟨b,o,none⟩/\w.cell? ⟨b,o+i.1,none⟩=some u/\u.oneCell'=true:=fun i=>by
  have hi:i.1 / k<l.length:=by rw[Nat.div_lt_iff_lt_mul hk];exact i.2
  obtain⟨b,o,ha,hr⟩:=h3 (i.1 / k) _ (List.getElem?_eq_getElem hi);obtain⟨u,hu,h1⟩:=hR b _ _ (i.1 % k) hr (Nat.mod_lt _ hk);refine⟨u,b,o,ha,?_,h1⟩;rw[<-hu];congr 2;have:=Nat.div_add_mod i.1 k;rw[Nat.mul_comm]at this;omega
 refine⟨List.ofFn fun i=>Classical.choose (key i),a,cap,rfl,fun e=>?_,by simp,fun j u hj=>?_,fun u hu=>?_⟩
 ·have:=h1.2.2 e;have:=h1.1;omega
 ·have hi:j<l.length * k:=by have:=(List.getElem?_eq_some_iff.1 hj).1;simpa using this
  have e:u=Classical.choose (key ⟨j,hi⟩):=by
   rw[List.getElem?_ofFn]at hj;simp[hi]at hj;exact hj.symm
  obtain⟨b,o,ha,hc,_⟩:=Classical.choose_spec (key ⟨j,hi⟩);exact⟨b,o,ha,by rw[e];exact hc⟩
 ·obtain⟨i,rfl⟩:=(List.mem_ofFn).1 hu
  obtain⟨_,_,_,_,hs⟩:=Classical.choose_spec (key i);exact hs
theorem BP{α:Type} {k:Nat} {R:World->Nat->Nat->α->Prop} {w:World} {b o:Nat} {l:List α} (h:mf k R w b o l):∃ u,w.cell? ⟨b,o,none⟩=some u/\u.oneCell'=true:=by
 obtain⟨v,hc,hs⟩:=h;exact⟨v,hc,FQ hs⟩
theorem NY{w:World} {v:Value} {l:List Cs} (h:bK w v l):∃ xs,gh w 3 v l.length xs:=BO h (by decide) fun b o x j hr hj=>by
 obtain⟨h0,h1,h2⟩:=hr;have:j=0\/j=1\/j=2:=by omega
 rcases this with rfl|rfl|rfl
 ·exact BP h0
 ·exact BP h1
 ·exact BP h2
theorem LH{w:World} {v:Value} {l:List (List Mv)} (h:bk w v l):∃ xs,gh w 1 v l.length xs:=BO h (by decide) fun b o x j hr hj=>by
 obtain rfl:j=0:=by omega
 exact BP hr
abbrev Mv.c(m:Mv):Array Value:=#[.int .i64 m.r.g.n,.int .i64 m.r.g.h0,.int .i64 m.r.g.h1,.int .i64 m.r.g.h2,.int .i64 m.r.g.h3,.int .i64 m.r.g.h4,.int .i64 m.r.f,.int .i64 m.to]
def fm(xs:List Mv):List Value:=xs.flatMap fun m=>m.c.toList
theorem BQ(xs:List Mv):(fm xs).length=xs.length * 8:=by
 unfold fm;induction xs with
 | nil=>rfl
 | cons x r ih=>rw[List.flatMap_cons,List.length_append,ih];simp;omega
theorem NZ{w:World} {v:Value} {l:List Mv} (h:og w v l):gh w 8 v l.length (fm l):=by
 obtain⟨a,cap,rfl,h1,h2,h3⟩:=h;refine⟨a,cap,rfl,fun e=>?_,BQ l,fun j u hu=>?_,fun u hu=>?_⟩
 ·have:=h1.2.2 e;have:=h1.1;omega
 ·have hj:=(List.getElem?_eq_some_iff.1 hu).1
  rw[BQ]at hj;obtain⟨i,s,hs,rfl⟩:∃ i s,s<8/\j=i * 8+s:=⟨j / 8,j % 8,by omega,by omega⟩;have hi:i<l.length:=by omega
  unfold fm at hu;rw[ox Mv.c 8 (fun _=>rfl) l i s hi hs]at hu;obtain⟨b,o,ha,⟨⟨c0,_⟩,⟨c1,_⟩,⟨c2,_⟩,⟨c3,_⟩,⟨c4,_⟩,⟨c5,_⟩,⟨c6,_⟩⟩,⟨c7,_⟩⟩:=h3 i _ (List.getElem?_eq_getElem hi);refine⟨b,o,ha,?_⟩;rw[<-Nat.add_assoc];rcases (show s=0\/s=1\/s=2\/s=3\/s=4\/s=5\/s=6\/s=7 by omega) with rfl|rfl|rfl|rfl|rfl|rfl|rfl|rfl<;>(simp at hu;subst hu;first|exact c0|exact c1|exact c2|exact c3|exact c4|exact c5|exact c6|exact c7)
 ·obtain⟨m,_,hm⟩:=List.mem_flatMap.1 hu
  simp at hm;rcases hm with h|h|h|h|h|h|h|h<;>subst h<;>rfl
theorem Ev{w:World} {base:Nat} {v:Value} {l:List Mv} (h:aD w base 143 8 v l.length (fm l)) (hx:∀ m∈l,oH m.r/\bI m.to) (hn:l.length<=17592186044416):og w v l:=by
 have aP:=fun i (hi:i<l.length) j (u:Value) (hj:j<8) (hu:l[i].c[j]?=some u)=>h.cell (i * 8+j) u (by unfold fm;rw[ox Mv.c 8 (fun _=>rfl) l i j hi hj];exact hu)
 rcases h.2 with ⟨hz,h0⟩|⟨g,cap,cur,fz,rfl,_,hg,_,kq,iT,_⟩
 ·refine⟨none,0,by rw[hz,h0],⟨by omega,by omega,fun _=>rfl⟩,hn,fun i x hi=>?_⟩
  have:=(List.getElem?_eq_some_iff.1 hi).1;omega
 ·refine⟨some ⟨g,0,none⟩,cap,rfl,⟨kq,by simp only[maxLen]at iT;omega,fun e=>by cases e⟩,hn,fun i x hi=>⟨g,0,rfl,?_⟩⟩
  obtain⟨gN,rfl⟩:=List.getElem?_eq_some_iff.1 hi;obtain⟨⟨r0,r1,r2,r3,r4,r5,r6⟩,r7⟩:=hx _ (List.getElem_mem gN)
  have key:∀ j u,j<8->l[i].c[j]?=some u->w.cell? ⟨g,0+i * 8+j,none⟩=some u:=fun j u hj hu=>by
   obtain⟨g',c',e1,e2⟩:=aP i gN j u hj hu;have:g=g':=by simp at e1;exact e1.1
   rw[this,Nat.zero_add];exact e2
  exact⟨⟨⟨key 0 _ (by omega) rfl,r0⟩,⟨key 1 _ (by omega) rfl,r1⟩,⟨key 2 _ (by omega) rfl,r2⟩,⟨key 3 _ (by omega) rfl,r3⟩,⟨key 4 _ (by omega) rfl,r4⟩,⟨key 5 _ (by omega) rfl,r5⟩,⟨key 6 _ (by omega) rfl,r6⟩⟩,⟨key 7 _ (by omega) rfl,r7⟩⟩
theorem QE{w:World} {v:Value} {l:List Mv} (h:og w v l):∀ m∈l,oH m.r/\bI m.to:=fun m hm=>by
 obtain⟨i,hi,rfl⟩:=List.getElem_of_mem hm;obtain⟨a,cap,rfl,_,_,e⟩:=h;obtain⟨b,o,ha,⟨⟨_,c0⟩,⟨_,c1⟩,⟨_,c2⟩,⟨_,c3⟩,⟨_,c4⟩,⟨_,c5⟩,⟨_,c6⟩⟩,⟨_,c7⟩⟩:=e i _ (List.getElem?_eq_getElem hi);exact⟨⟨c0,c1,c2,c3,c4,c5,c6⟩,c7⟩
theorem Tryz.infoCase:(Tryz.prog.info? 135).map (fun i=>(i.zero,i.size,i.bytes))=some (some (.agg #[.slice none 0 0,.slice none 0 0,.slice none 0 0]),3,72):=by kernel_rfl
theorem Tryz.infoMoves:(Tryz.prog.info? 136).map (fun i=>(i.zero,i.size,i.bytes))=some (some (.slice none 0 0),1,24):=by kernel_rfl
theorem Tryz.infoMove:(Tryz.prog.info? 143).map (fun i=>(i.zero,i.size,i.bytes))=some (some (.agg #[.int .i64 0,.int .i64 0,.int .i64 0,.int .i64 0,.int .i64 0,.int .i64 0,.int .i64 0,.int .i64 0]),8,64):=by kernel_rfl
theorem Dv(v:Value) (n:Nat) (xs:List Value) (w:World) (hv:gh w 3 v n xs) (hn:n<=1048576) :
  Calls Tryz.prog 194 #[v] w fun e w'=>∃ u,e=.returned u/\aD w' w.heap.size 135 3 u n xs/\Below w.heap.size w w':=by
 obtain⟨i0,hi,cf,bP,cj⟩:=info_parts Tryz.infoCase;obtain⟨a,cap,rfl,jH,iw,hc,h1⟩:=hv;have jK:=fun w=>Lib.run_eql_slice_nil (P:=Tryz.prog) w 22
 cases a with
 | none=>
  obtain⟨rfl,rfl⟩:=jH rfl;have cS:xs=[]:=List.eq_nil_of_length_eq_zero (by omega);subst cS
  go_enter Tryz.func194,Tryz.ntmps194
  go_wp2_with fail
  go_ret
  exact⟨_,rfl,aD.nil _ _ _ _,Below.refl _ _⟩
 | some ad=>
  have bN:∀ j u,xs[j]?=some u->(w.alloc (.cells #[] 135)).cell? (ad.add j)=some u:=fun j u hj=>by
   obtain⟨b,o,e,eB⟩:=hc j u hj;cases e;have:(Addr.add ⟨b,o,none⟩ j)=⟨b,o+j,none⟩:=by unfold Addr.add;split<;>simp_all
   rw[this];exact ai (by go_grown) eB
  have aX:aD (w.alloc (.cells #[] 135)) w.heap.size 135 3 (.slice (some ⟨w.heap.size,0,none⟩) 0 0) 0 []:=⟨by simp,.inr ⟨w.heap.size,0,#[],(0,0),rfl,Nat.le_refl _,ak _ _,fun i hi=>by simp at hi,by omega,by simp[maxLen],by simp,by simp⟩⟩;have bB:=aa bN;have bL:=aa aX;have H1:=aa h1;have yK:=aa iw;clear bN aX jH hc h1 iw
  go_enter Tryz.func194,Tryz.ntmps194
  go_wp2_with (at_builtin;(refine aZ _ rfl (.tmp 5) (.tmp 6) 22 rfl w.heap.size 135 i0 _ 3 72 Tryz.underlying22 hi cf bP cj rfl (by decide) _ 0 [] rfl bL.out ad n cap xs rfl yK.out bB.out H1.out (by unfold maxLen;omega) (by omega) (by simp) ?_;intro v' w1 gG kZ _;obtain⟨av',cv',rfl⟩:=gG.slice))
  go_ret
  rw[Nat.zero_add,List.nil_append]at gG;refine⟨_,rfl,by simpa using gG,Below.grown (w:=w.alloc (.cells #[] 135)) (by go_grown) kZ (by simp) (fun k hk=>?_)⟩;cases hk;exact Nat.le_refl _
theorem BR(v:Value) (n:Nat) (xs:List Value) (w:World) (hv:gh w 1 v n xs) (hn:n<=1048576) :
  Calls Tryz.prog 197 #[v] w fun e w'=>∃ u,e=.returned u/\aD w' w.heap.size 136 1 u n xs/\Below w.heap.size w w':=by
 obtain⟨i0,hi,cf,bP,cj⟩:=info_parts Tryz.infoMoves;obtain⟨a,cap,rfl,jH,iw,hc,h1⟩:=hv;have jK:=fun w=>Lib.run_eql_slice_nil (P:=Tryz.prog) w 25
 cases a with
 | none=>
  obtain⟨rfl,rfl⟩:=jH rfl;have cS:xs=[]:=List.eq_nil_of_length_eq_zero (by omega);subst cS
  go_enter Tryz.func197,Tryz.ntmps197
  go_wp2_with fail
  go_ret
  exact⟨_,rfl,aD.nil _ _ _ _,Below.refl _ _⟩
 | some ad=>
  have bN:∀ j u,xs[j]?=some u->(w.alloc (.cells #[] 136)).cell? (ad.add j)=some u:=fun j u hj=>by
   obtain⟨b,o,e,eB⟩:=hc j u hj;cases e;have:(Addr.add ⟨b,o,none⟩ j)=⟨b,o+j,none⟩:=by unfold Addr.add;split<;>simp_all
   rw[this];exact ai (by go_grown) eB
  have aX:aD (w.alloc (.cells #[] 136)) w.heap.size 136 1 (.slice (some ⟨w.heap.size,0,none⟩) 0 0) 0 []:=⟨by simp,.inr ⟨w.heap.size,0,#[],(0,0),rfl,Nat.le_refl _,ak _ _,fun i hi=>by simp at hi,by omega,by simp[maxLen],by simp,by simp⟩⟩;have bB:=aa bN;have bL:=aa aX;have H1:=aa h1;have yK:=aa iw;clear bN aX jH hc h1 iw
  go_enter Tryz.func197,Tryz.ntmps197
  go_wp2_with (at_builtin;(refine aZ _ rfl (.tmp 5) (.tmp 6) 25 rfl w.heap.size 136 i0 _ 1 24 Tryz.underlying25 hi cf bP cj rfl (by decide) _ 0 [] rfl bL.out ad n cap xs rfl yK.out bB.out H1.out (by unfold maxLen;omega) (by omega) (by simp) ?_;intro v' w1 gG kZ _;obtain⟨av',cv',rfl⟩:=gG.slice))
  go_ret
  rw[Nat.zero_add,List.nil_append]at gG;refine⟨_,rfl,by simpa using gG,Below.grown (w:=w.alloc (.cells #[] 136)) (by go_grown) kZ (by simp) (fun k hk=>?_)⟩;cases hk;exact Nat.le_refl _
theorem Dw(v:Value) (n:Nat) (xs:List Value) (w:World) (hv:gh w 8 v n xs) (hn:n<=1048576) :
  Calls Tryz.prog 198 #[v] w fun e w'=>∃ u,e=.returned u/\aD w' w.heap.size 143 8 u n xs/\Below w.heap.size w w':=by
 obtain⟨i0,hi,cf,bP,cj⟩:=info_parts Tryz.infoMove;obtain⟨a,cap,rfl,jH,iw,hc,h1⟩:=hv;have jK:=fun w=>Lib.run_eql_slice_nil (P:=Tryz.prog) w 136
 cases a with
 | none=>
  obtain⟨rfl,rfl⟩:=jH rfl;have cS:xs=[]:=List.eq_nil_of_length_eq_zero (by omega);subst cS
  go_enter Tryz.func198,Tryz.ntmps198
  go_wp2_with fail
  go_ret
  exact⟨_,rfl,aD.nil _ _ _ _,Below.refl _ _⟩
 | some ad=>
  have bN:∀ j u,xs[j]?=some u->(w.alloc (.cells #[] 143)).cell? (ad.add j)=some u:=fun j u hj=>by
   obtain⟨b,o,e,eB⟩:=hc j u hj;cases e;have:(Addr.add ⟨b,o,none⟩ j)=⟨b,o+j,none⟩:=by unfold Addr.add;split<;>simp_all
   rw[this];exact ai (by go_grown) eB
  have aX:aD (w.alloc (.cells #[] 143)) w.heap.size 143 8 (.slice (some ⟨w.heap.size,0,none⟩) 0 0) 0 []:=⟨by simp,.inr ⟨w.heap.size,0,#[],(0,0),rfl,Nat.le_refl _,ak _ _,fun i hi=>by simp at hi,by omega,by simp[maxLen],by simp,by simp⟩⟩;have bB:=aa bN;have bL:=aa aX;have H1:=aa h1;have yK:=aa iw;clear bN aX jH hc h1 iw
  go_enter Tryz.func198,Tryz.ntmps198
  go_wp2_with (at_builtin;(refine aZ _ rfl (.tmp 5) (.tmp 6) 136 rfl w.heap.size 143 i0 _ 8 64 Tryz.underlying136 hi cf bP cj rfl (by decide) _ 0 [] rfl bL.out ad n cap xs rfl yK.out bB.out H1.out (by unfold maxLen;omega) (by omega) (by simp) ?_;intro v' w1 gG kZ _;obtain⟨av',cv',rfl⟩:=gG.slice))
  go_ret
  rw[Nat.zero_add,List.nil_append]at gG;refine⟨_,rfl,by simpa using gG,Below.grown (w:=w.alloc (.cells #[] 143)) (by go_grown) kZ (by simp) (fun k hk=>?_)⟩;cases hk;exact Nat.le_refl _
theorem rT(v:Value) (l:List (List Int)) (w:World) (hv:dR w v l) (hn:l.length<=1048576) (nU:∀ x∈l,x.length<=1099511627776) :
  Calls Tryz.prog 196 #[v] w fun e w'=>∃ u,e=.returned u/\cN w' w.heap.size u l/\Below w.heap.size w w':=by
 obtain⟨i0,hi,cf,bP,cj⟩:=info_parts Tryz.infoInts;obtain⟨p,cap,rfl,la1,la2,ea⟩:=hv.at;have EA:=aa ea;have rf:=aa nU;clear ea hv nU
 go_enter Tryz.func196,Tryz.ntmps196
 go_wp2_with fail
 go_loopw [3,8] (fun o i wr=>Below w.heap.size w wr/\∃ k:Nat,k<=l.length/\i=.int .i64 k/\cN wr w.heap.size o (l.take k)) (fun _ i _=>l.length - (intOf i).toNat)
 case atStart=>exact⟨Below.refl _ _,0,by omega,rfl,bW.nil _ _⟩
 case round=>
  obtain⟨aq,k,hk,rfl,qD⟩:=hrel;have uR:=aa qD;by_cases az:k<l.length
  ·obtain⟨b1,o1,rfl,x,cx,hx⟩:=EA.out k az
   rw[Nat.mul_one]at cx;have d1:=ai aq cx;have gk:=aa (rf.out _ (List.getElem_mem az));have kj:Hid (l.take (k+1)=l.take k++[l[k]]):=aa (List.take_succ_eq_append_getElem az);generalize l[k]=y at hx gk kj;have HX:=aa (hx.up up_int aq);obtain⟨px,qx,rfl,_⟩:=hx;clear cx;obtain⟨xs,aX,jr⟩:=qD;have lW:(l.take k).length=k:=by simp;omega
   rw[lW]at aX;have bL:=aa aX;have C5:=aa jr;have T3:=aa lW;obtain⟨ao,co,rfl⟩:=aX.slice;clear aX jr lW
   go_wp2_with fail
   refine(um _ y wr HX.out gk.out).mono ?_;rintro e w1 ⟨u,rfl,hu,aG⟩;obtain⟨au,cu,rfl⟩:=hu.slice;have wY:=ae aq aG;have hA:Below w1.heap.size w1 (w1.alloc (.cells #[(Value.slice au y.length cu)] 38)):=by go_grown
   have df:=aa ((bL.out.up aG).up hA)
   have bN:∀ j u',[(Value.slice au y.length cu)][j]?=some u'->(w1.alloc (.cells #[(Value.slice au y.length cu)] 38)).cell? (Addr.add ⟨w1.heap.size,0,none⟩ j)=some u':=fun j u' hj=>by
    cases j with
    | zero=>simp at hj;subst hj;simp[Addr.add,ab (ak w1 _)]
    | succ j=>simp at hj
   have bB:=aa bN;have HU:=aa hu;clear bN hu d1;have gM:=wY.size
   go_wp2_with (at_builtin;(refine aZ _ rfl (.tmp 12) (.tmp 15) 56 rfl w.heap.size 38 i0 _ 1 24 Tryz.underlying56 hi cf bP cj rfl (by decide) _ k xs rfl df.out ⟨w1.heap.size,0,none⟩ 1 1 [(Value.slice au y.length cu)] rfl rfl bB.out (by simp[Value.oneCell']) (by unfold maxLen;omega) (by omega) (by simp;omega) ?_;intro v' w2 fx dk _))
   go_roundw
   case rel=>
    refine⟨Below.grown (w:=w1.alloc (.cells #[(Value.slice au y.length cu)] 38)) (wY.alloc gM _) dk (by simp;omega) (fun g hg=>(df.out.lt g hg).1),k+1,by omega,by go_num,?_⟩;rw[kj.out];exact bW.snoc (l:=l.take k) (by rw[T3.out];exact df.out) (fun i hi=>by obtain⟨z,q1,q2⟩:=C5.out i hi;exact⟨z,q1,(q2.up aG).up hA⟩) (by decide) ((HU.out.base aq.size).up hA) dk (by rw[T3.out];exact fx)
   case measure=>simp[intOf];omega
  ·obtain rfl:k=l.length:=by omega
   rw[List.take_length]at uR qD;obtain⟨xs,aX,_⟩:=qD;obtain⟨ao,co,rfl⟩:=aX.slice;clear aX
   go_wp2_with fail
   go_ret
   exact⟨_,rfl,uR.out,aq⟩
def dK(p:Pb):Int × Int:=
 if probE p≠0 then(0,probE p) else if (countedR 1048576 p.a p.rounds).2≠0 then(0,(countedR 1048576 p.a p.rounds).2)
 else if 1048576<(countedR 1048576 p.a p.rounds).1 * p.t.cases.length then(0,17) else((countedR 1048576 p.a p.rounds).1 * p.t.cases.length,0)
theorem FW(L:Int) (hL:0<=L) (a:Adv) (r:Int):0<=(countedR L a r).1/\(countedR L a r).1<=L:=by
 unfold countedR;have h:=(uf hL (AT hL a r.toNat) 0);change 0<=numberL L a r.toNat/\_ at h;split
 ·simp;omega
 ·split
  ·simp;omega
  ·split
   ·simp;omega
   ·simp;omega
theorem FX(p:Pb) (vc vs:Value) (w:World) (hc:bK w vc p.t.cases) (hs:bk w vs p.a.states) (hN:movesN p.a.states<1099511627776) (bU:probE p=0->p.t.cases.length<=1048576) :
  Calls Tryz.prog 161 #[qi p vc vs] w fun e w'=>e=.returned (.tuple #[.int .i64 (dK p).1,.int .i64 (dK p).2])/\Below w.heap.size w w':=by
 have GC:=aa hc;have GS:=aa hs;obtain⟨pc,cc,rfl,_⟩:=hc.at;obtain⟨ps,cs,rfl,_⟩:=hs.at;clear hc hs;have HV:Hid (dK p=if probE p≠0 then(0,probE p) else if (countedR 1048576 p.a p.rounds).2≠0 then(0,(countedR 1048576 p.a p.rounds).2) else if 1048576<(countedR 1048576 p.a p.rounds).1 * p.t.cases.length then(0,17) else((countedR 1048576 p.a p.rounds).1 * p.t.cases.length,0)):=by exact rfl
 go_enter Tryz.func161,Tryz.ntmps161
 go_wp2_with fail
 refine aL (fun W=>Below w.heap.size w W/\W.heap[w.heap.size]?=some (.cells #[.int .i64 p.t.n,.int .i64 p.t.ins,.int .i64 p.t.outs,.slice pc p.t.cases.length cc,.int .i64 p.a.n,.slice ps p.a.states.length cs,.int .i64 p.rounds] 29)) ⟨by go_grown,ak _ _⟩ (fun W0 aW=>?_);obtain⟨aC,br⟩:=aW;refine(FR p _ _ W0 (GC.out.up up_case aC) (GS.out.up up_moves aC) hN).mono ?_;rintro e w1 ⟨rfl,aG⟩;have gd:=ae aC aG;have dM:=af aG br;have t1:=ab dM;have qE:=aa bU;have dy:=aa dM;clear dM br bU;generalize probE p=et at HV qE;by_cases nm:et=0
 case neg=>
  have Mx:(et != 0)=true:=by simpa using nm
  have cT:Hid (dK p=(0,et)):=aa (by rw[HV.out,if_pos nm]);clear HV
  go_wp2_with fail
  go_ret2
  refine⟨jU ?_ ?_,gd⟩<;>rw[cT.out]
 subst nm;have bU:=qE.out rfl
 go_wp2_with fail
 refine(GP p.a _ p.rounds w1 (GS.out.up up_moves gd) hN).mono ?_;rintro e w2 ⟨rfl,aV⟩;have j9:=ae gd aV;have t2:=ab (af aV dy.out);have qq:=FW 1048576 (by omega) p.a p.rounds;clear t1;generalize countedR 1048576 p.a p.rounds=cr at HV qq;obtain⟨c1,c2⟩:=cr;dsimp only at HV qq ⊢;by_cases iT:c2=0
 case neg=>
  have hc2':(c2 != 0)=true:=by simpa using iT
  have cT:Hid (dK p=(0,c2)):=aa (by rw[HV.out,if_neg (by simp),if_pos iT]);clear HV
  go_wp2_with fail
  go_ret2
  refine⟨jU ?_ ?_,j9⟩<;>rw[cT.out]
 subst iT;have hprod:0<=c1 * (p.t.cases.length:Int)/\c1 * (p.t.cases.length:Int)<=1048576 * 1048576:=⟨Int.mul_nonneg qq.1 (by omega),Int.mul_le_mul qq.2 (by omega) (by omega) (by omega)⟩;have kr:IntKind.i64.wrap (c1 * (p.t.cases.length:Int))=c1 * (p.t.cases.length:Int):=IntWalk.i64_in _ (by omega);by_cases hx:1048576<c1 * (p.t.cases.length:Int)
 ·have cT:Hid (dK p=(0,17)):=aa (by rw[HV.out,if_neg (by simp),if_neg (by simp),if_pos hx])
  clear HV
  go_wp2_with fail
  go_ret2
  refine⟨jU ?_ ?_,j9⟩<;>rw[cT.out]
 ·have cT:Hid (dK p=(c1 * (p.t.cases.length:Int),0)):=aa (by rw[HV.out,if_neg (by simp),if_neg (by simp),if_neg hx])
  clear HV
  go_wp2_with fail
  go_ret2
  refine⟨jU ?_ ?_,j9⟩<;>rw[cT.out]
end Go.Proofs.YtmeaoneaephjeaaGreatDoor
namespace Go.Proofs.YtmeaoneaephjeaaGreatDoor
open Go.RowKit Go Go.Shelf
theorem eA(W:World) (l:List Value) (t:TypeId):∀ j u',l[j]?=some u'->(W.alloc (.cells l.toArray t)).cell? (Addr.add ⟨W.heap.size,0,none⟩ j)=some u':=fun j u' hj=>by
 have e1:(Addr.add ⟨W.heap.size,0,none⟩ j)=⟨W.heap.size,j,none⟩:=by unfold Addr.add;split<;>simp_all
 rw[e1,ab (ak W _)];simpa using hj
section
variable {w W w2 : World} {o : Obj} {base : Nat} {e : TypeId} {k n : Nat} {v : Value} {xs : List Value}
theorem eR(hb:Below w.heap.size w W) (h0:w.heap.size<=base) (ho:aD (W.alloc o) base e k v n xs) (hg:(W.alloc o).grownBy w2 v.ownBlock):Below w.heap.size w w2:=
 Below.grown (hb.alloc hb.size _) hg (by have:=hb.size;simp;omega) (fun g h=>Nat.le_trans h0 (ho.lt g h).1)
theorem BS{N:Nat} (hb:Below N w W) (hN:N<=W.heap.size) (h0:N<=base) (ho:aD (W.alloc o) base e k v n xs) (hg:(W.alloc o).grownBy w2 v.ownBlock):Below N w w2:=
 Below.grown (hb.alloc hN _) hg (by simp;omega) (fun g h=>Nat.le_trans h0 (ho.lt g h).1)
theorem gW{b:Nat} {c:Array Value} {t:TypeId} {f:Nat × Nat} (ho:aD (W.alloc o) base e k v n xs) (hg:(W.alloc o).grownBy w2 v.ownBlock) (h:W.heap[b]?=some (.cells c t f)) (bM:e≠t):w2.heap[b]?=some (.cells c t f):=by
 have h1:(W.alloc o).heap[b]?=some (.cells c t f):=am _ h;exact(hg.block b (ar h1) (fun e'=>ho.ne h1 bM b e'.symm rfl)).trans h1
theorem mB{b:Nat} {x:Obj} (ho:aD (W.alloc o) base e k v n xs) (hg:(W.alloc o).grownBy w2 v.ownBlock) (h:W.heap[b]?=some x) (hc:x.isCells=false):w2.heap[b]?=some x:=by
 have h1:(W.alloc o).heap[b]?=some x:=am _ h;exact(hg.block b (ar h1) (fun e'=>ho.isCells h1 hc e')).trans h1
theorem rU{b:Nat} {x:Obj} (ho:aD (W.alloc o) base e k v n xs) (hg:(W.alloc o).grownBy w2 v.ownBlock) (h:W.heap[b]?=some x) (hb:b<base):w2.heap[b]?=some x:=by
 have h1:(W.alloc o).heap[b]?=some x:=am _ h;exact(hg.block b (ar h1) (fun e'=>by have:=(ho.lt b e'.symm).1;omega)).trans h1
end
end Go.Proofs.YtmeaoneaephjeaaGreatDoor
namespace Go.Proofs.YtmeaoneaephjeaaGreatDoor
def fh(s:Sys) (w:List Lk) (i j:Nat):List (List Lk):=(List.range' j (w.length - (i+2) - j)).filterMap fun j=>l3 s w i (w.length - 1 - j)
def dL(s:Sys) (w:List Lk) (i:Nat):List (List Lk):=(List.range' i (w.length - i)).flatMap (F7 s w)
theorem N0(s:Sys) (w:List Lk):dL s w 0=(List.range w.length).flatMap (F7 s w):=by
 unfold dL;rw[List.range_eq_range',Nat.sub_zero]
theorem xS(s:Sys) (w:List Lk):dL s w w.length=[]:=by
 unfold dL;rw[Nat.sub_self];rfl
theorem vO(s:Sys) (w:List Lk) (i:Nat) (hi:i<w.length):dL s w i=fh s w i 0++dL s w (i+1):=by
 unfold dL fh;rw[show w.length - i=(w.length - (i+1))+1 by omega,List.range'_succ,List.flatMap_cons,Nat.sub_zero];unfold F7;rw[List.range_eq_range']
theorem xT(s:Sys) (w:List Lk) (i j:Nat) (h:w.length<=i+2+j):fh s w i j=[]:=by
 unfold fh;rw[show w.length - (i+2) - j=0 by omega];rfl
theorem vP(s:Sys) (w:List Lk) (i j:Nat) (h:i+2+j<w.length) {c:List Lk} (hc:l3 s w i (w.length - 1 - j)=some c):fh s w i j=c :: fh s w i (j+1):=by
 unfold fh;rw[show w.length - (i+2) - j=(w.length - (i+2) - (j+1))+1 by omega,List.range'_succ,List.filterMap_cons,hc]
theorem vQ(s:Sys) (w:List Lk) (i j:Nat) (h:i+2+j<w.length) (hc:l3 s w i (w.length - 1 - j)=none):fh s w i j=fh s w i (j+1):=by
 unfold fh;rw[show w.length - (i+2) - j=(w.length - (i+2) - (j+1))+1 by omega,List.range'_succ,List.filterMap_cons,hc]
theorem vR(s:Sys) (w:List Lk):dr s w=w.dropLast :: ((if 1<w.length then [⟨(w.getD 1 default).x,-1⟩ :: w.drop 2] else [])++dL s w 0):=by
 rw[N0];rfl
theorem Ki{α:Type} {L d r:List α} {c x:α} (h:L=d++c :: r):d.length<L.length/\L.getD d.length x=c/\L=(d++[c])++r/\(d++[c]).length=d.length+1:=by
 subst h;refine⟨by simp,?_,by simp,by simp⟩;rw[List.getD_eq_getElem?_getD,List.getElem?_append_right (Nat.le_refl _)];simp
theorem GW{s:Sys} {w c:List Lk} {d r:List (List Lk)} (h:dr s w=d++c :: r) (hd:∀ x∈d,dB s x=false) (hc:dB s c=true):nextW s w=some c:=by
 unfold nextW;rw[h,List.find?_append,List.find?_eq_none.2 (fun x hx=>by rw[hd x hx];simp)];simp[hc]
theorem Ew{s:Sys} {w:List Lk} {d:List (List Lk)} (h:dr s w=d) (hd:∀ x∈d,dB s x=false):nextW s w=none:=by
 unfold nextW;rw[h];exact List.find?_eq_none.2 (fun x hx=>by rw[hd x hx];simp)
theorem N1(s:Sys):lK (aO s):=by
 unfold aO;cases nS s - 1 with
 | zero=>exact oC _ _
 | succ k=>exact oC _ _
def SH(h:Int × Int):Rd:=⟨⟨2,h.1,h.2,0,0,0⟩,0⟩
def ckCs:List Cs:=[⟨[0,0],[[0,0]],[]⟩,⟨[0,1],[[0,0],[1,1]],[]⟩,⟨[1,1],[[1,1]],[]⟩]
def qj(rounds:Int) (gs:List (Int × Int)):Pb:=⟨⟨2,2,2,ckCs⟩,⟨2,[gs.map fun h=>⟨SH h,0⟩]⟩,rounds⟩
def ck1:Sys:=aM (qj 1 [(1,3),(3,3)])
def ck2:Sys:=aM (qj 0 [(3,3)])
def ck3:Sys:=aM (qj 1 [(1,3),(3,2),(3,3)])
def ckW:List Lk:=[⟨0,-1⟩,⟨1,0⟩,⟨2,1⟩]
structure CkB (p:Pb):Prop where
 few:buildE p=0
 ready:readyE (aM p)=0
 size:eS (aM p)<=256
 moves:movesN p.a.states<1099511627776
theorem ck1_b:CkB (qj 1 [(1,3),(3,3)]):=⟨by decide +kernel,by decide +kernel,by decide +kernel,by decide +kernel⟩
theorem ck2_b:CkB (qj 0 [(3,3)]):=⟨by decide +kernel,by decide +kernel,by decide +kernel,by decide +kernel⟩
theorem ck3_b:CkB (qj 1 [(1,3),(3,2),(3,3)]):=⟨by decide +kernel,by decide +kernel,by decide +kernel,by decide +kernel⟩
theorem ck1_vals:valuesR ck1 3=([0,1],0):=by decide +kernel
theorem ck1_choice:choiceR ck1=([0,0,0,0,1,1],0):=by decide +kernel
theorem ck1_rule:(ruleR ck1).2=(true,0):=by decide +kernel
theorem ck2_find:findW ck2=(ckW,true,0):=by decide +kernel
theorem ck2_cert:certE ck2 ⟨1,ckW,0,0,0⟩=0:=by decide +kernel
theorem ck2_short:shortR ck2 ⟨1,ckW,0,0,0⟩=(ckW,0):=by decide +kernel
theorem ck2_not:certE ck2 ⟨1,ckW.take 2,0,0,0⟩=18:=by decide +kernel
theorem ck3_choice:choiceR ck3=(List.replicate 9 (-1),0):=by decide +kernel
end Go.Proofs.YtmeaoneaephjeaaGreatDoor
namespace Go.Proofs.YtmeaoneaephjeaaGreatDoor
open Go.RowKit Go Go.Shelf
theorem gX{w:World} {base:Nat} {v:Value} {l:List Int} (h:aD w base 3 1 v l.length (l.map (Value.int .i64))) (hr:∀ x∈l,bI x) (hn:l.length<=17592186044416):aY w v l:=by
 have aP:=fun i (hi:i<l.length)=>h.cell i (.int .i64 l[i]) (by simp[hi])
 rcases h.2 with ⟨rfl,hz⟩|⟨g,cap,cur,fz,rfl,_,hg,_,kq,iT,_,_⟩
 ·refine⟨none,0,by rw[hz],⟨by omega,by omega,fun _=>rfl⟩,hn,fun i x hi=>?_⟩
  have:=(List.getElem?_eq_some_iff.1 hi).1;omega
 ·refine⟨some ⟨g,0,none⟩,cap,rfl,⟨kq,by simp only[maxLen]at iT;omega,fun e=>by cases e⟩,hn,fun i x hi=>⟨g,0,rfl,?_⟩⟩
  obtain⟨gN,rfl⟩:=List.getElem?_eq_some_iff.1 hi;obtain⟨g',c',e1,e2⟩:=aP i gN;have:g=g':=by simp at e1;exact e1.1
  subst this;exact⟨by rw[Nat.mul_one,Nat.zero_add];exact e2,hr _ (List.getElem_mem gN)⟩
theorem aD.keep{w w':World} {base sz:Nat} {e:TypeId} {v:Value} {n:Nat} {xs:List Value} (h:aD w base e sz v n xs) (hk:∀ (g:Nat) (o:Obj),v.ownBlock=some g->w.heap[g]?=some o->w'.heap[g]?=some o):aD w' base e sz v n xs:=by
 obtain⟨hl,h⟩:=h;refine⟨hl,?_⟩;rcases h with h|⟨g,cap,cur,fz,rfl,h2,h3,h4⟩
 ·exact .inl h
 ·exact .inr ⟨g,cap,cur,fz,rfl,h2,hk g _ rfl h3,h4⟩
end Go.Proofs.YtmeaoneaephjeaaGreatDoor
namespace Go.Proofs.YtmeaoneaephjeaaGreatDoor
open Go.RowKit Go Go.Shelf
attribute [local go_sem] Oper.semAt_some
def SI(B:Nat):List Obj:=[iC [0,0],iC [0,0],.cells #[sV (B+1) 2] 38,iC [0,1],iC [0,0],iC [1,1],.cells #[sV (B+4) 2,sV (B+5) 2] 38,iC [1,1],iC [1,1],.cells #[sV (B+8) 2] 38,
 .cells #[sV B 2,sV (B+2) 1,.slice none 0 0,sV (B+3) 2,sV (B+6) 2,.slice none 0 0,sV (B+7) 2,sV (B+9) 1,.slice none 0 0] 135,.cells #[.int .i64 2,.int .i64 2,.int .i64 2,sV (B+10) 3] 24]
theorem GX(w:World):dR w (.slice none 0 0) []:=⟨none,0,rfl,⟨by simp,by omega,fun _=>rfl⟩,by simp,fun i x hx=>by simp at hx⟩
theorem QF{B:Nat} {X:World} (g:∀ i o,(SI B)[i]?=some o->X.heap[B+i]?=some o):bK X (sV (B+10) 3) ckCs:=by
 have t:=ab (g 10 _ rfl);refine⟨some ⟨B+10,0,none⟩,3,rfl,⟨by simp[ckCs],by omega,fun e=>by cases e⟩,by simp[ckCs],fun i x hx=>⟨B+10,0,rfl,?_⟩⟩;obtain⟨hi,rfl⟩:=List.getElem?_eq_some_iff.1 hx;rcases (show i=0\/i=1\/i=2 by simp[ckCs]at hi;omega) with rfl|rfl|rfl
 ·exact⟨⟨_,t 0,ib [0,0] (g 0 _ rfl) (by decide) (by decide)⟩,⟨_,t 1,xO (g 2 _ rfl) (ib [0,0] (g 1 _ rfl) (by decide) (by decide))⟩,⟨_,t 2,GX _⟩⟩
 ·exact⟨⟨_,t 3,ib [0,1] (g 3 _ rfl) (by decide) (by decide)⟩,⟨_,t 4,NK (g 6 _ rfl) (ib [0,0] (g 4 _ rfl) (by decide) (by decide)) (ib [1,1] (g 5 _ rfl) (by decide) (by decide))⟩,⟨_,t 5,GX _⟩⟩
 ·exact⟨⟨_,t 6,ib [1,1] (g 7 _ rfl) (by decide) (by decide)⟩,⟨_,t 7,xO (g 9 _ rfl) (ib [1,1] (g 8 _ rfl) (by decide) (by decide))⟩,⟨_,t 8,GX _⟩⟩
def ml(h:Int × Int):Mv:=⟨SH h,0⟩
theorem GY(tmps:Array Value) (B:Nat) (W:World) (c0 c1 c2 c3 c4 c5 c6:Value) (h2:tmps[4]?.getD undef=.pointer (some ⟨B,0,none⟩))
  (hB:W.heap[B]?=some (.cells #[c0,c1,c2,c3,c4,c5,c6] 29)):(results Tryz.f36 tmps).run Tryz.prog W=.ok (.agg #[c0,c1,c2,c3,c4,c5,c6]) W:=by
 have t2:=ab hB;simp[results,Tryz.results36,go_sem,h2,t2]
theorem N2(rounds:Int) (gs:List (Int × Int)) (n:Nat) (hl:gs.length=n) (hn:n<=100) (cP:∀ h∈gs,bI h.1/\bI h.2) (b:Nat) (w:World) (hb:∀ i (hi:i<gs.length),w.cell? ⟨b,i * 2,none⟩=some (.int .i64 gs[i].1)/\w.cell? ⟨b,i * 2+1,none⟩=some (.int .i64 gs[i].2)) :
  Calls Tryz.prog 36 #[.int .i64 rounds,.slice (some ⟨b,0,none⟩) n n] w fun r w'=>∃ vc vs,r=.returned (qi (qj rounds gs) vc vs)/\(∀ Wf:World,(∀ k,w.heap.size<=k->k<w'.heap.size->Wf.heap[k]?=w'.heap[k]?)->bK Wf vc (qj rounds gs).t.cases/\bk Wf vs (qj rounds gs).a.states)/\Below w.heap.size w w':=by
 obtain⟨i0,cG,cf,bP,cj⟩:=info_parts Tryz.infoMove;have bQ:=aa (And.intro cG (And.intro cf (And.intro bP cj)));have HG:=aa hb;have HL:=aa hl
 have HFS:Hid (∀ k (hk:k<gs.length),fm ((gs.take (k+1)).map ml)=fm ((gs.take k).map ml)++(ml gs[k]).c.toList):=aa fun k hk=>by
  rw[List.take_succ_eq_append_getElem hk,List.map_append];simp[fm]
 have WR:Hid (fm ((gs.take gs.length).map ml)=fm (gs.map ml)):=aa (by rw[List.take_length])
 have gu:Hid (∀ m∈gs.map ml,oH m.r/\bI m.to):=aa (fun m hm=>by
  obtain⟨h,hh,rfl⟩:=List.mem_map.1 hm;have z0:bI 0:=⟨by omega,by omega⟩
  exact⟨⟨⟨by simp[ml,SH],by simp[ml,SH]⟩,(cP h hh).1,(cP h hh).2,z0,z0,z0,z0⟩,z0⟩)
 clear cG cf bP cj hb hl cP
 go_enter Tryz.func36,Tryz.ntmps36
 go_wp2_with fail
 refine bj (fun W=>Below w.heap.size w W/\W.heap[w.heap.size]?=some (.cells #[.int .i64 0,.int .i64 0,.int .i64 0,.slice none 0 0,.int .i64 0,.slice none 0 0,.int .i64 0] 29)/\∀ i o,(SI (w.heap.size+1))[i]?=some o->W.heap[w.heap.size+1+i]?=some o) ⟨by go_grown,BM (SI (w.heap.size+1)) (w.alloc _) (ak _ _),fun i o h=>by
  have:=Lx (SI (w.heap.size+1)) (w.alloc (.cells #[.int .i64 0,.int .i64 0,.int .i64 0,.slice none 0 0,.int .i64 0,.slice none 0 0,.int .i64 0] 29)) i h;rw[World.size_alloc]at this
  exact this⟩ (fun W1 cC=>?_)
 have bC:=aa cC.1;have cX:=aa cC.2.1;have iU:=aa cC.2.2;have fP:=ar cC.2.1;have I0:=aa (cC.2.2 11 _ rfl);have iL:=ar I0.out;clear cC
 go_loopw [6,26] (fun o i wr=>∃ k:Nat,k<=n/\i=.int .i64 k/\Below W1.heap.size W1 wr/\aD wr W1.heap.size 143 8 o k (fm ((gs.take k).map ml))) (fun _ i _=>n - (intOf i).toNat)
 case atStart=>exact⟨0,by omega,rfl,Below.refl _ _,aD.nil _ _ _ _⟩
 case round=>
  obtain⟨k,hk,rfl,aq,aX⟩:=hrel;obtain⟨al,cl,rfl⟩:=aX.slice;have bL:=aa aX;have aR:=aa aq;clear aX aq;by_cases az:k<n
  ·obtain⟨g1,g2⟩:=HG.out k (by rw[HL.out];exact az)
   have db:=ae bC.out aR.out;have t1:=ai db g1;have t2:=ai db g2;have WG:=HFS.out k (by rw[HL.out];exact az);generalize gs[k]'(by rw[HL.out];exact az)=h at t1 t2 WG;obtain⟨h1,h2⟩:=h;dsimp only at t1 t2;have Da:Hid (fm ((gs.take (k+1)).map ml)=fm ((gs.take k).map ml)++[.int .i64 2,.int .i64 h1,.int .i64 h2,.int .i64 0,.int .i64 0,.int .i64 0,.int .i64 0,.int .i64 0]):=aa WG;have Fx:Below wr.heap.size wr ((wr.alloc (.cells #[.int .i64 h1,.int .i64 h2] 92)).alloc (.cells #[.int .i64 2,.int .i64 h1,.int .i64 h2,.int .i64 0,.int .i64 0,.int .i64 0,.int .i64 0,.int .i64 0] 143)):=by go_grown
   have tb:=ab (ak wr (.cells #[.int .i64 h1,.int .i64 h2] 92));have rA:=aa Fx;have jL:=aa (bL.out.up Fx);have bN:=eA (wr.alloc (.cells #[.int .i64 h1,.int .i64 h2] 92)) [.int .i64 2,.int .i64 h1,.int .i64 h2,.int .i64 0,.int .i64 0,.int .i64 0,.int .i64 0,.int .i64 0] 143;rw[World.size_alloc]at bN;have bB:=aa bN;have gO:Hid (k+1<=maxLen):=aa (by unfold maxLen;omega);have eo:Hid ((k+1) * 64<=140737488355328):=aa (by omega);have fL:Hid (W1.heap.size<=((wr.alloc (.cells #[.int .i64 h1,.int .i64 h2] 92)).alloc (.cells #[.int .i64 2,.int .i64 h1,.int .i64 h2,.int .i64 0,.int .i64 0,.int .i64 0,.int .i64 0,.int .i64 0] 143)).heap.size):=aa (by have:=aR.out.size;simp;omega);clear WG Fx bN g1 g2 db
   go_wp2_with (at_builtin;(refine aZ _ rfl (.tmp 30) (.tmp 39) 136 rfl W1.heap.size 143 i0 _ 8 64 Tryz.underlying136 bQ.out.1 bQ.out.2.1 bQ.out.2.2.1 bQ.out.2.2.2 rfl (by decide) _ k _ rfl jL.out ⟨wr.heap.size+1,0,none⟩ 1 1 [.int .i64 2,.int .i64 h1,.int .i64 h2,.int .i64 0,.int .i64 0,.int .i64 0,.int .i64 0,.int .i64 0] rfl rfl bB.out (by simp[Value.oneCell']) gO.out eo.out fL.out ?_;intro v9 w9 eh dg _))
   go_roundw
   case rel=>
    refine⟨k+1,by omega,by go_num,Below.grown (ae aR.out rA.out) dg fL.out (fun g hg=>(jL.out.lt g hg).1),?_⟩;rw[Da.out];exact eh
   case measure=>simp[intOf];omega
  ·obtain rfl:k=n:=by omega
   have aq:=aR.out;have dE:=aa (am (.cells #[.slice al k cl] 136) (af aq cX.out));have tT:=ab (am (.cells #[.slice al k cl] 136) (af aq I0.out));have tT2:=ab (af aq I0.out);clear aq
   go_wp2_with (refine wpList_store_row rfl 29 (.tmp 4) (.tmp 47) rfl w.heap.size #[.int .i64 2,.int .i64 2,.int .i64 2,sV (w.heap.size+1+10) 3,.int .i64 2,.slice (some ⟨wr.heap.size,0,none⟩) 1 1,.int .i64 rounds] rfl rfl 29 _ dE.out (by kernel_rfl) rfl (by simp[Value.oneCell']) ?_)
   have su:Below W1.heap.size W1 (wr.alloc (.cells #[.slice al k cl] 136)):=aR.out.alloc aR.out.size _;have wg:=below_setRow (ae bC.out su) (Nat.le_refl _) #[.int .i64 2,.int .i64 2,.int .i64 2,sV (w.heap.size+1+10) 3,.int .i64 2,.slice (some ⟨wr.heap.size,0,none⟩) 1 1,.int .i64 rounds];have hRt:∀ q,q≠w.heap.size->((wr.alloc (.cells #[.slice al k cl] 136)).setRow w.heap.size #[.int .i64 2,.int .i64 2,.int .i64 2,sV (w.heap.size+1+10) 3,.int .i64 2,.slice (some ⟨wr.heap.size,0,none⟩) 1 1,.int .i64 rounds]).heap[q]?=(wr.alloc (.cells #[.slice al k cl] 136)).heap[q]?:=fun _ hk=>setRow_other _ _ _ _ hk
   refine bodyPost_ret (GY _ w.heap.size _ _ _ _ _ _ _ _ rfl (setRow_heap _ _ _ _ _ _ dE.out)) rfl ⟨sV (w.heap.size+1+10) 3,.slice (some ⟨wr.heap.size,0,none⟩) 1 1,rfl,fun Wf Iv=>?_,wg⟩;have eK:(wr.alloc (.cells #[.slice al k cl] 136)).heap.size<=((wr.alloc (.cells #[.slice al k cl] 136)).setRow w.heap.size #[.int .i64 2,.int .i64 2,.int .i64 2,sV (w.heap.size+1+10) 3,.int .i64 2,.slice (some ⟨wr.heap.size,0,none⟩) 1 1,.int .i64 rounds]).heap.size:=(below_setRow (Below.refl w.heap.size _) (Nat.le_refl _) _).size;have CP:∀ g o,w.heap.size<g->(wr.alloc (.cells #[.slice al k cl] 136)).heap[g]?=some o->Wf.heap[g]?=some o:=fun g o hg ho=>(Iv g (by omega) (Nat.lt_of_lt_of_le (ar ho) eK)).trans ((setRow_other _ _ _ _ (by omega)).trans ho)
   have ry:=aR.out.size;refine⟨QF fun i o h=>CP _ _ (by omega) (af su (iU.out i o h)),?_⟩
   have hm:og Wf (.slice al k cl) (gs.map ml):=by
    have h1:=bL.out;have e1:fm ((gs.take k).map ml)=fm (gs.map ml):=by rw[<-WR.out,HL.out]
    rw[e1]at h1;have h2:=h1.keep (w':=Wf) (fun g o hg ho=>CP g o (by have:=(h1.lt g hg).1;omega) (am _ ho));refine Ev (l:=gs.map ml) (base:=W1.heap.size) (by rw[List.length_map,HL.out];exact h2) gu.out (by rw[List.length_map,HL.out];omega)
   exact xO (CP _ _ (by omega) (ak _ _)) hm
theorem QG{w:World} {v:Value} {l:List Cs} {xs:List Value} (h:bK w v l) (hr:gh w 3 v l.length xs) (i:Nat) (hi:i<l.length) :
  ∃ a b c,xs[i * 3]?=some a/\xs[i * 3+1]?=some b/\xs[i * 3+2]?=some c/\aY w a l[i].inp/\dR w b l[i].out/\dR w c l[i].calm:=by
 obtain⟨p,cap,rfl,_,iw,hc,_⟩:=hr;obtain⟨p',cap',e,_,_,h3⟩:=h;cases e;obtain⟨b,o,rfl,⟨a0,q0,r0⟩,⟨a1,q1,r1⟩,⟨a2,q2,r2⟩⟩:=h3 i _ (List.getElem?_eq_getElem hi)
 have key:∀ s u,s<3->w.cell? ⟨b,o+i * 3+s,none⟩=some u->xs[i * 3+s]?=some u:=fun s u hs hu=>by
  have az:i * 3+s<xs.length:=by omega
  obtain⟨b',o',e,hq⟩:=hc (i * 3+s) xs[i * 3+s] (List.getElem?_eq_getElem az);cases e;rw[<-Nat.add_assoc,hu]at hq;rw[List.getElem?_eq_getElem az,<-cU hq]
 exact⟨a0,a1,a2,key 0 _ (by omega) q0,key 1 _ (by omega) q1,key 2 _ (by omega) q2,r0,r1,r2⟩
theorem N3{w:World} {v:Value} {l:List (List Mv)} {xs:List Value} (h:bk w v l) (hr:gh w 1 v l.length xs) (i:Nat) (hi:i<l.length):∃ a,xs[i]?=some a/\og w a l[i]:=by
 obtain⟨p,cap,rfl,_,iw,hc,_⟩:=hr;obtain⟨p',cap',e,_,_,h3⟩:=h;cases e;obtain⟨b,o,rfl,a0,q0,r0⟩:=h3 i _ (List.getElem?_eq_getElem hi);refine⟨a0,?_,r0⟩;have az:i<xs.length:=by omega
 obtain⟨b',o',e,hq⟩:=hc i xs[i] (List.getElem?_eq_getElem az);cases e;rw[Nat.mul_one]at q0;rw[q0]at hq;rw[List.getElem?_eq_getElem az,<-cU hq]
def Us(W:World) (base:Nat) (cur:Array Value) (i:Nat) (c:Cs):Prop:=
 ∃ a b d,cur[i * 3]?=some a/\cur[i * 3+1]?=some b/\cur[i * 3+2]?=some d/\aD W base 3 1 a c.inp.length (c.inp.map (Value.int .i64))/\cN W base b c.out/\cN W base d c.calm
structure CaseRow (base g cap:Nat) (raw:List Value) (cs:List Cs) (k:Nat) (W:World):Prop where
 lo:base<=g
 fit:cs.length<=cap/\cap<=maxLen
 row:∃ cur fz,W.heap[g]?=some (.cells cur 135 fz)/\(∀ i,i<cur.size->¬ (fz.1<=i/\i<fz.2))/\cur.size=cap * 3/\(∀ i (hi:i<cs.length),i<k->Us W base cur i cs[i])/\∀ j,k * 3<=j->j<cs.length * 3->cur[j]?=raw[j]?
theorem bW.setT{α:Type} {to ti:TypeId} {k:Nat} {flat:List α->List Value} {w:World} {base:Nat} {v:Value} {l:List (List α)} {B:Nat} {cs:Array Value} {t:TypeId} {f:Nat × Nat} (h:bW to ti k flat w base v l) (hB:w.heap[B]?=some (.cells cs t f)) (h1:to≠t) (h2:ti≠t) (o:Nat) (x:Value):bW to ti k flat (w.setCell ⟨B,o,none⟩ x) base v l:=by
 obtain⟨xs,q1,q2⟩:=h;exact⟨xs,q1.put (fun g e=>q1.ne hB h1 g e) _ _,fun i hi=>by obtain⟨y,p1,p2⟩:=q2 i hi;exact⟨y,p1,p2.put (fun g e=>p2.ne hB h2 g e) _ _⟩⟩
theorem CaseRow.up{base g cap:Nat} {raw:List Value} {cs:List Cs} {k:Nat} {W W':World} (h:CaseRow base g cap raw cs k W) (hb:Below W.heap.size W W'):CaseRow base g cap raw cs k W':=by
 obtain⟨cur,fz,q1,q2,q3,q4,q5⟩:=h.row;exact⟨h.lo,h.fit,cur,fz,af hb q1,q2,q3,fun i hi hk=>by obtain⟨a,b,d,p1,p2,p3,p4,p5,p6⟩:=q4 i hi hk;exact⟨a,b,d,p1,p2,p3,p4.up hb,p5.up hb,p6.up hb⟩,q5⟩
theorem CaseRow.put{base g cap:Nat} {raw:List Value} {cs:List Cs} {k:Nat} {W:World} (h:CaseRow base g cap raw cs k W) (hk:k<cs.length) {a b d:Value} (h1:aD W base 3 1 a cs[k].inp.length (cs[k].inp.map (Value.int .i64))) (h2:cN W base b cs[k].out) (h3:cN W base d cs[k].calm) :
  CaseRow base g cap raw cs (k+1) (((W.setCell ⟨g,k * 3,none⟩ a).setCell ⟨g,k * 3+1,none⟩ b).setCell ⟨g,k * 3+2,none⟩ d):=by
 obtain⟨cur,fz,q1,q2,q3,q4,q5⟩:=h.row;have e1:=aF q1 (k * 3) a;have e2:=aF e1 (k * 3+1) b;have e3:=aF e2 (k * 3+2) d
 have ko:∀ {x:Value} {n:Nat} {xs:List Value},aD W base 3 1 x n xs->aD (((W.setCell ⟨g,k * 3,none⟩ a).setCell ⟨g,k * 3+1,none⟩ b).setCell ⟨g,k * 3+2,none⟩ d) base 3 1 x n xs:=fun hq=>
  have w1:=hq.put (fun g' e=>hq.ne q1 (by decide) g' e) (k * 3) a;have w2:=w1.put (fun g' e=>w1.ne e1 (by decide) g' e) (k * 3+1) b
  w2.put (fun g' e=>w2.ne e2 (by decide) g' e) (k * 3+2) d
 have kf:∀ {x:Value} {l:List (List Int)},cN W base x l->cN (((W.setCell ⟨g,k * 3,none⟩ a).setCell ⟨g,k * 3+1,none⟩ b).setCell ⟨g,k * 3+2,none⟩ d) base x l:=fun hq=>
  ((hq.setT q1 (by decide) (by decide) _ _).setT e1 (by decide) (by decide) _ _).setT e2 (by decide) (by decide) _ _
 have eK:k * 3+2<cur.size:=by have:=h.fit.1;omega
 refine⟨h.lo,h.fit,_,fz,e3,fun i hi=>q2 i (by simpa using hi),by simpa using q3,fun i hi jw=>?_,fun j hj Fb=>?_⟩
 ·by_cases az:i<k
  ·obtain⟨x,y,z,p1,p2,p3,p4,p5,p6⟩:=q4 i hi az
   refine⟨x,y,z,?_,?_,?_,ko p4,kf p5,kf p6⟩
   ·rw[Array.getElem?_setIfInBounds_ne (by omega),Array.getElem?_setIfInBounds_ne (by omega),Array.getElem?_setIfInBounds_ne (by omega)];exact p1
   ·rw[Array.getElem?_setIfInBounds_ne (by omega),Array.getElem?_setIfInBounds_ne (by omega),Array.getElem?_setIfInBounds_ne (by omega)];exact p2
   ·rw[Array.getElem?_setIfInBounds_ne (by omega),Array.getElem?_setIfInBounds_ne (by omega),Array.getElem?_setIfInBounds_ne (by omega)];exact p3
  ·obtain rfl:i=k:=by omega
   refine⟨a,b,d,?_,?_,?_,ko h1,kf h2,kf h3⟩
   ·rw[Array.getElem?_setIfInBounds_ne (by omega),Array.getElem?_setIfInBounds_ne (by omega),Array.getElem?_setIfInBounds_self_of_lt (by omega)]
   ·rw[Array.getElem?_setIfInBounds_ne (by omega),Array.getElem?_setIfInBounds_self_of_lt (by simp;omega)]
   ·rw[Array.getElem?_setIfInBounds_self_of_lt (by simp;omega)]
 ·rw[Array.getElem?_setIfInBounds_ne (by omega),Array.getElem?_setIfInBounds_ne (by omega),Array.getElem?_setIfInBounds_ne (by omega)]
  exact q5 j (by omega) Fb
theorem m8{W:World} {base:Nat} {v:Value} {l:List (List Int)} (h:cN W base v l) (hr:∀ x∈l,∀ y∈x,bI y) (hn:l.length<=1048576) (nU:∀ x∈l,x.length<=1048576):dR W v l:=
 bW.sl h (fun x a ha ho=>gX ho (hr a ha) (by have:=nU a ha;omega)) (by omega)
theorem vS{w:World} {v:Value} {l:List Cs} (h:bK w v l):∀ c∈l,(∀ y∈c.inp,bI y)/\(∀ x∈c.out,∀ y∈x,bI y)/\∀ x∈c.calm,∀ y∈x,bI y:=fun c hc=>by
 have hv:∀ {b o:Nat} {q:List (List Int)},tW w b o q->∀ x∈q,∀ y∈x,bI y:=fun {b o q} hq x hx=>by
  obtain⟨u,_,p,cap,rfl,_,_,e⟩:=hq;obtain⟨i,hi,rfl⟩:=List.getElem_of_mem hx;obtain⟨_,_,_,u2,_,h2⟩:=e i _ (List.getElem?_eq_getElem hi);exact Gu h2
 obtain⟨i,hi,rfl⟩:=List.getElem_of_mem hc;obtain⟨p,cap,rfl,_,_,e⟩:=h;obtain⟨_,_,_,⟨_,_,h0⟩,h1,h2⟩:=e i _ (List.getElem?_eq_getElem hi);exact⟨Gu h0,hv h1,hv h2⟩
theorem CaseRow.done{base g cap:Nat} {raw:List Value} {t:Tk} {k:Nat} {W:World} (h:CaseRow base g cap raw t.cases k W) (hk:t.cases.length<=k) (ht:taskE t=0) (cP:∀ c∈t.cases,(∀ y∈c.inp,bI y)/\(∀ x∈c.out,∀ y∈x,bI y)/\∀ x∈c.calm,∀ y∈x,bI y):bK W (.slice (some ⟨g,0,none⟩) t.cases.length cap) t.cases:=by
 obtain⟨cur,fz,q1,q2,q3,q4,q5⟩:=h.row;obtain⟨⟨_,ic⟩,_,_,⟨_,hl⟩,gg⟩:=eX ht;have hf:=h.fit;refine⟨some ⟨g,0,none⟩,cap,rfl,⟨hf.1,by have:=hf.2;unfold maxLen at this;omega,fun e=>by cases e⟩,by omega,fun i x hx=>⟨g,0,rfl,?_⟩⟩;obtain⟨hi,rfl⟩:=List.getElem?_eq_some_iff.1 hx;obtain⟨a,b,d,p1,p2,p3,p4,p5,p6⟩:=q4 i hi (by omega);obtain⟨r1,r2,r3⟩:=cP _ (List.getElem_mem hi);have ho:=gg _ (List.getElem_mem hi);rw[Nat.zero_add];have c1:=ho.inp;have c2:=ho.out2;have c3:=ho.calm;refine⟨⟨a,(ab q1 _).trans p1,gX p4 r1 (by omega)⟩,⟨b,(ab q1 _).trans p2,m8 p5 r2 (by omega) (fun x hx=>by have:=ho.outs x hx;omega)⟩,⟨d,(ab q1 _).trans p3,m8 p6 r3 (by omega) (fun x hx=>by have:=ho.outs x (ho.calms x hx);omega)⟩⟩
structure StateRow (base g cap:Nat) (raw:List Value) (l:List (List Mv)) (k:Nat) (W:World):Prop where
 lo:base<=g
 fit:l.length<=cap/\cap<=maxLen
 row:∃ cur fz,W.heap[g]?=some (.cells cur 136 fz)/\(∀ i,i<cur.size->¬ (fz.1<=i/\i<fz.2))/\cur.size=cap/\(∀ i (hi:i<l.length),i<k->∃ a,cur[i]?=some a/\aD W base 143 8 a l[i].length (fm l[i]))/\∀ j,k<=j->j<l.length->cur[j]?=raw[j]?
theorem StateRow.up{base g cap:Nat} {raw:List Value} {l:List (List Mv)} {k:Nat} {W W':World} (h:StateRow base g cap raw l k W) (hb:Below W.heap.size W W'):StateRow base g cap raw l k W':=by
 obtain⟨cur,fz,q1,q2,q3,q4,q5⟩:=h.row;exact⟨h.lo,h.fit,cur,fz,af hb q1,q2,q3,fun i hi hk=>by obtain⟨a,p1,p2⟩:=q4 i hi hk;exact⟨a,p1,p2.up hb⟩,q5⟩
theorem StateRow.put{base g cap:Nat} {raw:List Value} {l:List (List Mv)} {k:Nat} {W:World} (h:StateRow base g cap raw l k W) (hk:k<l.length) {a:Value} (h1:aD W base 143 8 a l[k].length (fm l[k])):StateRow base g cap raw l (k+1) (W.setCell ⟨g,k,none⟩ a):=by
 obtain⟨cur,fz,q1,q2,q3,q4,q5⟩:=h.row;have eK:k<cur.size:=by have:=h.fit.1;omega
 refine⟨h.lo,h.fit,_,fz,aF q1 k a,fun i hi=>q2 i (by simpa using hi),by simpa using q3,fun i hi jw=>?_,fun j hj Fb=>?_⟩
 ·by_cases az:i<k
  ·obtain⟨x,p1,p2⟩:=q4 i hi az
   exact⟨x,by rw[Array.getElem?_setIfInBounds_ne (by omega)];exact p1,p2.put (fun g' e=>p2.ne q1 (by decide) g' e) _ _⟩
  ·obtain rfl:i=k:=by omega
   exact⟨a,by rw[Array.getElem?_setIfInBounds_self_of_lt (by omega)],h1.put (fun g' e=>h1.ne q1 (by decide) g' e) _ _⟩
 ·rw[Array.getElem?_setIfInBounds_ne (by omega)]
  exact q5 j (by omega) Fb
theorem StateRow.done{base g cap:Nat} {raw:List Value} {l:List (List Mv)} {k:Nat} {W:World} (h:StateRow base g cap raw l k W) (hk:l.length<=k) (hl:l.length<=256) (mD:∀ x∈l,x.length<=1048576) (cP:∀ x∈l,∀ m∈x,oH m.r/\bI m.to):bk W (.slice (some ⟨g,0,none⟩) l.length cap) l:=by
 obtain⟨cur,fz,q1,q2,q3,q4,q5⟩:=h.row;have hf:=h.fit;refine⟨some ⟨g,0,none⟩,cap,rfl,⟨hf.1,by have:=hf.2;unfold maxLen at this;omega,fun e=>by cases e⟩,by omega,fun i x hx=>⟨g,0,rfl,?_⟩⟩;obtain⟨hi,rfl⟩:=List.getElem?_eq_some_iff.1 hx;obtain⟨a,p1,p2⟩:=q4 i hi (by omega);rw[Nat.zero_add,Nat.mul_one];exact⟨a,(ab q1 _).trans p1,Ev p2 (cP _ (List.getElem_mem hi)) (by have:=mD _ (List.getElem_mem hi);omega)⟩
theorem LI{w:World} {v:Value} {l:List (List Mv)} (h:bk w v l):∀ x∈l,∀ m∈x,oH m.r/\bI m.to:=fun x hx=>by
 obtain⟨i,hi,rfl⟩:=List.getElem_of_mem hx;obtain⟨p,cap,rfl,_,_,e⟩:=h;obtain⟨_,_,_,u,_,hu⟩:=e i _ (List.getElem?_eq_getElem hi);exact QE hu
theorem Below.trans3{w a b c:World} (h1:Below w.heap.size w a) (h2:Below a.heap.size a b) (h3:Below b.heap.size b c):Below w.heap.size w c:=ae h1 (ae h2 h3)
theorem bW.lower9{α:Type} {to ti:TypeId} {k:Nat} {flat:List α->List Value} {w:World} {base b:Nat} {v:Value} {l:List (List α)} (h:bW to ti k flat w base v l) (hb:b<=base):bW to ti k flat w b v l:=by
 obtain⟨xs,q1,q2⟩:=h;exact⟨xs,q1.base hb,fun i hi=>by obtain⟨x,p1,p2⟩:=q2 i hi;exact⟨x,p1,p2.base hb⟩⟩
abbrev zPb:Array Value:=#[.int .i64 0,.int .i64 0,.int .i64 0,.slice none 0 0,.int .i64 0,.slice none 0 0,.int .i64 0]
theorem aD.from{w w':World} {base sz:Nat} {e:TypeId} {v:Value} {n:Nat} {xs:List Value} (h:aD w base e sz v n xs) (hk:∀ k o,base<=k->w.heap[k]?=some o->w'.heap[k]?=some o):aD w' base e sz v n xs:=
 h.keepT fun g o e1 e2=>hk g o (h.lt g e1).1 e2
theorem bW.from{α:Type} {to ti:TypeId} {k:Nat} {flat:List α->List Value} {w w':World} {base:Nat} {v:Value} {l:List (List α)} (h:bW to ti k flat w base v l) (hk:∀ k o,base<=k->w.heap[k]?=some o->w'.heap[k]?=some o):bW to ti k flat w' base v l:=by
 obtain⟨xs,q1,q2⟩:=h;exact⟨xs,q1.from hk,fun i hi=>by obtain⟨x,p1,p2⟩:=q2 i hi;exact⟨x,p1,p2.from hk⟩⟩
theorem CaseRow.from{base g cap:Nat} {raw:List Value} {cs:List Cs} {k:Nat} {W W':World} (h:CaseRow base g cap raw cs k W) (hk:∀ k o,base<=k->W.heap[k]?=some o->W'.heap[k]?=some o):CaseRow base g cap raw cs k W':=by
 obtain⟨cur,fz,q1,q2,q3,q4,q5⟩:=h.row;exact⟨h.lo,h.fit,cur,fz,hk _ _ h.lo q1,q2,q3,fun i hi jw=>by obtain⟨a,b,d,p1,p2,p3,p4,p5,p6⟩:=q4 i hi jw;exact⟨a,b,d,p1,p2,p3,p4.from hk,p5.from hk,p6.from hk⟩,q5⟩
theorem StateRow.from{base g cap:Nat} {raw:List Value} {l:List (List Mv)} {k:Nat} {W W':World} (h:StateRow base g cap raw l k W) (hk:∀ k o,base<=k->W.heap[k]?=some o->W'.heap[k]?=some o):StateRow base g cap raw l k W':=by
 obtain⟨cur,fz,q1,q2,q3,q4,q5⟩:=h.row;exact⟨h.lo,h.fit,cur,fz,hk _ _ h.lo q1,q2,q3,fun i hi jw=>by obtain⟨a,p1,p2⟩:=q4 i hi jw;exact⟨a,p1,p2.from hk⟩,q5⟩
theorem CaseRow.keep{base g cap:Nat} {raw:List Value} {cs:List Cs} {k:Nat} {W W':World} {ts:List TypeId} {ms:List Nat} {b:Nat} (h:CaseRow base g cap raw cs k W) (hk:KeepT ts ms b W W') (h1:135∉ts) (h2:3∉ts) (h3:38∉ts):CaseRow base g cap raw cs k W':=by
 obtain⟨cur,fz,q1,q2,q3,q4,q5⟩:=h.row;exact⟨h.lo,h.fit,cur,fz,hk.keep _ _ _ _ q1 h1,q2,q3,fun i hi jw=>by obtain⟨a,b,d,p1,p2,p3,p4,p5,p6⟩:=q4 i hi jw;exact⟨a,b,d,p1,p2,p3,hk.own p4 h2,hk.fresh p5 h3 h2,hk.fresh p6 h3 h2⟩,q5⟩
theorem StateRow.keep{base g cap:Nat} {raw:List Value} {l:List (List Mv)} {k:Nat} {W W':World} {ts:List TypeId} {ms:List Nat} {b:Nat} (h:StateRow base g cap raw l k W) (hk:KeepT ts ms b W W') (h1:136∉ts) (h2:143∉ts):StateRow base g cap raw l k W':=by
 obtain⟨cur,fz,q1,q2,q3,q4,q5⟩:=h.row;exact⟨h.lo,h.fit,cur,fz,hk.keep _ _ _ _ q1 h1,q2,q3,fun i hi jw=>by obtain⟨a,p1,p2⟩:=q4 i hi jw;exact⟨a,p1,hk.own p2 h2⟩,q5⟩
def Ut(base:Nat) (l:List Mv):MP:=⟨fun x W=>aD W base 143 8 x l.length (fm l),fun _ _ _ h hb=>h.up hb⟩
theorem List.single_le_sum9(l:List Nat) (x:Nat) (h:x∈l):x<=l.sum:=by
 induction l with
 | nil=>simp at h
 | cons a r ih=>
  rw[List.sum_cons];rcases List.mem_cons.1 h with rfl|h
  ·omega
  ·have:=ih h
   omega
theorem GZ(l:List (List Mv)) (k:Nat) (h:k<l.length):l[k].length<=movesN l:=by
 unfold movesN;exact List.single_le_sum9 (l.map List.length) _ (List.mem_map.2 ⟨_,List.getElem_mem h,rfl⟩)
theorem qS{W:World} {g:Nat} {cur:Array Value} {t:TypeId} {fz:Nat × Nat} (h:W.heap[g]?=some (.cells cur t fz)) (hf:∀ i,i<cur.size->¬ (fz.1<=i/\i<fz.2)) (o:Nat) (ho:o<cur.size):W.frozen? ⟨g,o,none⟩=false:=by
 simp only[World.frozen?,h];have:=hf o ho;simpa using this
def Vd(base:Nat) (l:List Int):MP:=⟨fun x W=>aD W base 3 1 x l.length (l.map (Value.int .i64)),fun _ _ _ h hb=>h.up hb⟩
def N4(base:Nat) (l:List (List Int)):MP:=⟨fun x W=>cN W base x l,fun _ _ _ h hb=>h.up hb⟩
def N5(base:Nat) (c:Cs):MP:=⟨fun x W=>∃ a b d,x=.agg #[a,b,d]/\aD W base 3 1 a c.inp.length (c.inp.map (Value.int .i64))/\cN W base b c.out/\cN W base d c.calm,fun _ _ _ h hb=>by obtain⟨a,b,d,h1,h2,h3,h4⟩:=h;exact⟨a,b,d,h1,h2.up hb,h3.up hb,h4.up hb⟩⟩
theorem N6{base:Nat} {c:Cs} {W:World} {a b d:Value} (h2:aD W base 3 1 a c.inp.length (c.inp.map (Value.int .i64))) (h3:cN W base b c.out) (h4:cN W base d c.calm):(N5 base c).p (.agg #[a,b,d]) W:=⟨a,b,d,rfl,h2,h3,h4⟩
theorem bW.slice{α:Type} {to ti:TypeId} {k:Nat} {flat:List α->List Value} {w:World} {base:Nat} {v:Value} {l:List (List α)} (h:bW to ti k flat w base v l):∃ a c,v=.slice a l.length c:=by
 obtain⟨xs,q,_⟩:=h;exact q.slice
theorem Dx(p:Pb) (vc vs:Value) (w:World) (hc:bK w vc p.t.cases) (hs:bk w vs p.a.states) (ht:taskE p.t=0) (ha:advE p.a=0) (hN:movesN p.a.states<=4096) :
  Calls Tryz.prog 163 #[qi p vc vs] w fun e w'=>∃ uc us,e=.returned (qi p uc us)/\(∀ W:World,(∀ k o,w.heap.size<=k->w'.heap[k]?=some o->W.heap[k]?=some o)->bK W uc p.t.cases/\bk W us p.a.states)/\Below w.heap.size w w':=by
 obtain⟨raw,D8⟩:=NY hc;obtain⟨raw2,hraw2⟩:=LH hs;have HC:=aa hc;have HS:=aa hs;have HR:=aa D8;have dE:=aa hraw2;obtain⟨⟨_,ic⟩,_,_,⟨wc,bU⟩,gg⟩:=eX ht;obtain⟨⟨fP,iL⟩,_⟩:=hH ha;have di:=aa gg;obtain⟨pc,cc,rfl,_⟩:=hc.at;obtain⟨ps,cs,rfl,_⟩:=hs.at;clear hc hs D8 hraw2 gg
 go_enter Tryz.func163,Tryz.ntmps163
 go_wp2_with fail
 refine aL (fun W=>Below w.heap.size w W/\W.heap[w.heap.size]?=some (.cells #[.int .i64 p.t.n,.int .i64 p.t.ins,.int .i64 p.t.outs,.slice pc p.t.cases.length cc,.int .i64 p.a.n,.slice ps p.a.states.length cs,.int .i64 p.rounds] 29)/\W.heap[w.heap.size+1]?=some (.cells zPb 29)) ⟨by go_grown,am _ (ak _ _),ba _ _ _⟩ (fun W0 aW=>?_);obtain⟨aC,br,gS⟩:=aW;have cf:=aC.size;refine(Dv _ p.t.cases.length raw W0 ?_ (by omega)).mono ?_
 ·obtain⟨q,cap,e,h1,h2,h3,h4⟩:=HR.out
  exact⟨q,cap,e,h1,h2,fun j u hj=>by obtain⟨b,o,e1,e2⟩:=h3 j u hj;exact⟨b,o,e1,ai aC e2⟩,h4⟩
 rintro e w1 ⟨u,rfl,hu,aG⟩
 have bV:∃ g cap,u=.slice (some ⟨g,0,none⟩) p.t.cases.length cap/\CaseRow w.heap.size g cap raw p.t.cases 0 w1:=by
  rcases hu.2 with ⟨_,h0⟩|⟨g,cap,cur,fz,rfl,h1,h2,h3,h4,h5,h6,h7⟩
  ·omega
  ·refine⟨g,cap,rfl,by omega,⟨h4,h5⟩,cur,fz,h2,h3,h6,fun i hi hk=>by omega,fun j _ hj=>?_⟩
   rw[<-h7,List.getElem?_take_of_lt hj];simp
 obtain⟨g,cap,rfl,bV⟩:=bV;have jb:=ae aC aG;have dM:=af aG br;have KP:=af aG gS;have t1:=ab dM;have z1:=fun o=>aE dM o
 have j8:=aa bV;have dy:=aa dM;have gm:=aa KP;have bP:=aG.size;have Wg:=ar KP;clear hu bV br gS dM KP
 go_wp2_with fail
 clear t1 z1;refine bj (fun W=>Below w.heap.size w W/\W.heap[w.heap.size]?=some (.cells #[.int .i64 p.t.n,.int .i64 p.t.ins,.int .i64 p.t.outs,.slice (some ⟨g,0,none⟩) p.t.cases.length cap,.int .i64 p.a.n,.slice ps p.a.states.length cs,.int .i64 p.rounds] 29)/\W.heap[w.heap.size+1]?=some (.cells zPb 29)/\CaseRow w.heap.size g cap raw p.t.cases 0 W) ?_ (fun W2 eF=>?_)
 ·refine⟨jb.setCell (Nat.le_refl _) _,by rw[aF dy.out];rfl,aH gm.out (by omega) _ _,?_⟩
  obtain⟨cur,fz,q1,q2,q3,q4,q5⟩:=j8.out.row;exact⟨j8.out.lo,j8.out.fit,cur,fz,aH q1 (fun e=>by have:=dy.out;rw[<-e,q1]at this;cases this) _ _,q2,q3,fun i hi hk=>by omega,q5⟩
 obtain⟨aV,hA2,qr,sk⟩:=eF
 go_loopw [17] (fun i wr=>∃ k:Nat,k<=p.t.cases.length/\i=.int .i64 k/\Below w.heap.size w wr/\wr.heap[w.heap.size]?=some (.cells #[.int .i64 p.t.n,.int .i64 p.t.ins,.int .i64 p.t.outs,.slice (some ⟨g,0,none⟩) p.t.cases.length cap,.int .i64 p.a.n,.slice ps p.a.states.length cs,.int .i64 p.rounds] 29)/\wr.heap[w.heap.size+1]?=some (.cells zPb 29)/\CaseRow w.heap.size g cap raw p.t.cases k wr) (fun i _=>p.t.cases.length - (intOf i).toNat)
 case atStart=>exact⟨0,by omega,rfl,aV,hA2,qr,sk⟩
 case round=>
  clear aV hA2 qr sk;obtain⟨k,hk,rfl,aq,hA,hO,bV⟩:=hrel;have HA:=aa hA;have HO:=aa hO;have zA:=aa bV;by_cases az:k<p.t.cases.length
  ·obtain⟨va,vb,vd,q1,q2,q3,i1,i2,i3⟩:=QG HC.out HR.out k az
   obtain⟨cur,fz,p1,p2,p3,_,p5⟩:=bV.row;have Ij:=bV.fit.1;have d0:wr.cell? ⟨g,k * 3,none⟩=some va:=by rw[ab p1,p5 _ (by omega) (by omega),q1]
   have d1:wr.cell? ⟨g,k * 3+1,none⟩=some vb:=by rw[ab p1,p5 _ (by omega) (by omega),q2]
   have d2:wr.cell? ⟨g,k * 3+2,none⟩=some vd:=by rw[ab p1,p5 _ (by omega) (by omega),q3]
   have I1:=aa i1;have I2:=aa i2;have I3:=aa i3;obtain⟨pa,ca,rfl,_⟩:=i1.at;obtain⟨pb,cb,rfl,_⟩:=i2.at;obtain⟨pd,cd,rfl,_⟩:=i3.at;have iU:=aa (di.out _ (List.getElem_mem az));have I8:=aa (fun (W:World) (h:CaseRow w.heap.size g cap raw p.t.cases k W) (a b d:Value)=>h.put az (a:=a) (b:=b) (d:=d));have Xm:=ar p1;clear q1 q2 q3 i1 i2 i3 p1 p2 p3 p5 hA hO bV;generalize p.t.cases[k]=c at I1 I2 I3 iU I8 d0 d1 d2
   go_wp2_with fail
   clear d0 d1 d2;refine bj (fun W=>Below wr.heap.size wr W/\W.heap[wr.heap.size]?=some (.cells #[.slice pa c.inp.length ca,.slice pb c.out.length cb,.slice pd c.calm.length cd] 135)) ⟨by go_grown,ak _ _⟩ (fun W4 hW4=>?_);obtain⟨cg,hx4⟩:=hW4;have la:=aa hx4;have IJ:=aa (af cg HA.out);have wU:=aq.size;have Tl:=ar HA.out;have Wg:=ar HO.out;clear hx4
   refine dJ 14 [22,23,24,25,26,27,28,29,30,31,32,33,34,35] [MP.eq (.pointer (some ⟨w.heap.size,0,none⟩)),
    MP.eq (.pointer (some ⟨w.heap.size,3,none⟩)),
    MP.eq (.slice (some ⟨g,0,none⟩) p.t.cases.length cap),
    MP.eq (.int .i64 k),
    MP.eq (.pointer (some ⟨wr.heap.size,0,none⟩)),
    MP.eq (.slice pa c.inp.length ca),
    Vd w.heap.size c.inp,
    MP.eq (.pointer (some ⟨wr.heap.size,1,none⟩)),
    MP.eq (.slice pb c.out.length cb),
    N4 w.heap.size c.out,
    MP.eq (.pointer (some ⟨wr.heap.size,2,none⟩)),
    MP.eq (.slice pd c.calm.length cd),
    N4 w.heap.size c.calm,
    N5 w.heap.size c] (by kernel_rfl) (by simp) (by decide) rfl (by kernel_rfl) (by kernel_rfl) (by kernel_rfl) ?step ?tail
   case step=>
    intro x W i o s F hi ho hs hB aj hF;have fy:i=0\/i=1\/i=2\/i=3\/i=4\/i=5\/i=6\/i=7\/i=8\/i=9\/i=10\/i=11\/i=12\/i=13:=by omega
    rcases fy with rfl|rfl|rfl|rfl|rfl|rfl|rfl|rfl|rfl|rfl|rfl|rfl|rfl|rfl
    all_goals (obtain rfl:=cU ho.symm;obtain rfl:=cU hs.symm;simp only[bd,cJ,List.setIfInBounds_toArray,List.set_cons_succ,List.set_cons_zero,Nat.reduceAdd]at hF)
    ·clear aj hi ho hs
     subst hF
     go_wp2_with fail
     exact kD _ (Below.refl _ _) rfl
    ·have d0:=oE (aj ⟨0,.data⟩ (by simp) rfl)
     clear aj hi ho hs;simp only[d0]at hF;subst hF
     go_wp2_with fail
     exact kD _ (Below.refl _ _) rfl
    ·have d1:=oE (aj ⟨1,.data⟩ (by simp) rfl)
     clear aj hi ho hs;have t1:=ab (af hB IJ.out) 3;simp at t1;simp only[d1]at hF;subst hF
     go_wp2_with fail
     exact kD _ (Below.refl _ _) rfl
    ·clear aj hi ho hs
     subst hF
     go_wp2_with fail
     exact kD _ (Below.refl _ _) rfl
    ·clear aj hi ho hs
     subst hF
     go_wp2_with fail
     exact kD _ (Below.refl _ _) rfl
    ·have d4:=oE (aj ⟨4,.data⟩ (by simp) rfl)
     clear aj hi ho hs;have t1:=ab (af hB la.out) 0;simp at t1;simp only[d4]at hF;subst hF
     go_wp2_with fail
     exact kD _ (Below.refl _ _) rfl
    ·have d5:=oE (aj ⟨5,.data⟩ (by simp) rfl)
     clear aj hi ho hs;simp only[d5]at hF;subst hF
     go_wp2_with fail
     refine(um _ c.inp W (I1.out.up up_int (Below.trans3 aq cg hB)) (by have:=iU.out.inp;omega)).mono ?_;rintro e w9 ⟨u9,rfl,jp,eN⟩;have mL:=aa (jp.base (show w.heap.size<=W.heap.size by have:=hB.size;have:=cg.size;omega));clear jp
     go_wp2_with fail
     exact kD _ eN mL.out
    ·clear aj hi ho hs
     subst hF
     go_wp2_with fail
     exact kD _ (Below.refl _ _) rfl
    ·have d7:=oE (aj ⟨7,.data⟩ (by simp) rfl)
     clear aj hi ho hs;have t1:=ab (af hB la.out) 1;simp at t1;simp only[d7]at hF;subst hF
     go_wp2_with fail
     exact kD _ (Below.refl _ _) rfl
    ·have d8:=oE (aj ⟨8,.data⟩ (by simp) rfl)
     clear aj hi ho hs;simp only[d8]at hF;subst hF
     go_wp2_with fail
     refine(rT _ c.out W (I2.out.up up_ints (Below.trans3 aq cg hB)) (by have:=iU.out.out2;have:=iU.out.calm;omega) (fun x hx=>by have:=iU.out.outs x hx;omega)).mono ?_;rintro e w9 ⟨u9,rfl,jp,eN⟩;have mL:=aa (bW.lower9 jp (show w.heap.size<=W.heap.size by have:=hB.size;have:=cg.size;omega));clear jp
     go_wp2_with fail
     exact kD _ eN mL.out
    ·clear aj hi ho hs
     subst hF
     go_wp2_with fail
     exact kD _ (Below.refl _ _) rfl
    ·have d10:=oE (aj ⟨10,.data⟩ (by simp) rfl)
     clear aj hi ho hs;have t1:=ab (af hB la.out) 2;simp at t1;simp only[d10]at hF;subst hF
     go_wp2_with fail
     exact kD _ (Below.refl _ _) rfl
    ·have d11:=oE (aj ⟨11,.data⟩ (by simp) rfl)
     clear aj hi ho hs;simp only[d11]at hF;subst hF
     go_wp2_with fail
     refine(rT _ c.calm W (I3.out.up up_ints (Below.trans3 aq cg hB)) (by have:=iU.out.out2;have:=iU.out.calm;omega) (fun x hx=>by have:=iU.out.outs x (iU.out.calms x hx);omega)).mono ?_;rintro e w9 ⟨u9,rfl,jp,eN⟩;have mL:=aa (bW.lower9 jp (show w.heap.size<=W.heap.size by have:=hB.size;have:=cg.size;omega));clear jp
     go_wp2_with fail
     exact kD _ eN mL.out
    ·have d6:=aj ⟨6,.data⟩ (by simp) rfl
     have d9:=aj ⟨9,.data⟩ (by simp) rfl;have d12:=aj ⟨12,.data⟩ (by simp) rfl;clear aj hi ho hs;obtain⟨a6,c6,e6⟩:=aD.slice d6;obtain⟨a9,c9,e9⟩:=bW.slice d9;obtain⟨a12,c12,e12⟩:=bW.slice d12;rw[e6]at d6;rw[e9]at d9;rw[e12]at d12;have HD6:=aa (show aD W w.heap.size 3 1 (.slice a6 c.inp.length c6) c.inp.length (c.inp.map (Value.int .i64)) from d6);have Pc:=aa (show cN W w.heap.size (.slice a9 c.out.length c9) c.out from d9);have HD12:=aa (show cN W w.heap.size (.slice a12 c.calm.length c12) c.calm from d12);clear d6 d9 d12;simp only[e6,e9,e12]at hF;subst hF
     go_wp2_with fail
     refine aQ.mk (.agg #[.slice a6 c.inp.length c6,.slice a9 c.out.length c9,.slice a12 c.calm.length c12]) ?_ ?_ ?_
     ·exact(Below.refl _ _)
     ·exact N6 HD6.out Pc.out HD12.out
     ·first
      | rfl
      | simp only[List.setIfInBounds_toArray,List.set_cons_succ,List.set_cons_zero]
   case tail=>
    intro x W3 F hB aP hF;have d2:x 2=.slice (some ⟨g,0,none⟩) p.t.cases.length cap:=aP 2 (by omega);have d3:x 3=.int .i64 k:=aP 3 (by omega);have d13:=aP 13 (by omega);obtain⟨ya,yb,yd,e13,h2,h3,h4⟩:∃ a b d,x 13=.agg #[a,b,d]/\aD W3 w.heap.size 3 1 a c.inp.length (c.inp.map (Value.int .i64))/\cN W3 w.heap.size b c.out/\cN W3 w.heap.size d c.calm:=d13;clear aP;simp only[bd,cJ,List.setIfInBounds_toArray,List.set_cons_succ,List.set_cons_zero,Nat.reduceAdd]at hF;obtain⟨y1,z1,rfl⟩:=h2.slice;obtain⟨y2,z2,rfl⟩:=h3.slice;obtain⟨y3,z3,rfl⟩:=h4.slice;rw[d2,d3,e13]at hF;generalize x 0=s0,x 1=s1,x 4=s4,x 5=s5,x 6=s6,x 7=s7,x 8=s8,x 9=s9,x 10=s10,x 11=s11,x 12=s12 at hF;subst hF;have zz:=zA.out.up (ae cg hB);have zy:=aa zz;have H2:=aa h2;have H3:=aa h3;have H4:=aa h4;obtain⟨cur3,fz3,q1,q2,q3,_,q5⟩:=zz.row;have c0:∃ u,W3.cell? ⟨g,k * 3,none⟩=some u:=⟨cur3[k * 3]'(by omega),by rw[ab q1];exact Array.getElem?_eq_getElem _⟩;have c1:∃ u,W3.cell? ⟨g,k * 3+1,none⟩=some u:=⟨cur3[k * 3+1]'(by omega),by rw[ab q1];exact Array.getElem?_eq_getElem _⟩;have c2:∃ u,W3.cell? ⟨g,k * 3+2,none⟩=some u:=⟨cur3[k * 3+2]'(by omega),by rw[ab q1];exact Array.getElem?_eq_getElem _⟩;obtain⟨o0,c0⟩:=c0;obtain⟨o1,c1⟩:=c1;obtain⟨o2,c2⟩:=c2;have f0:=qS q1 q2 (k * 3) (by omega);have f1:=qS q1 q2 (k * 3+1) (by omega);have f2:=qS q1 q2 (k * 3+2) (by omega);have AJ:=af (ae cg hB) HA.out;have Au:=af (ae cg hB) HO.out;have AA:w.heap.size≠g:=mj AJ q1 (by decide);have wS:w.heap.size+1≠g:=mj Au q1 (by decide);have KK:=aa AJ;have Wt:=aa Au;have iy:=aa (Below.trans3 aq cg hB);have wV:=zy.out.lo;clear d2 d3 e13 h2 h3 h4 zz q1 q2 q3 q5 AJ Au hB
    simp only[List.drop_succ_cons,List.drop_zero]
    go_wp2_with fail
    go_roundw
    case rel=>exact⟨k+1,by omega,by go_num,((iy.out.setCell wV _).setCell wV _).setCell wV _,aH (aH (aH KK.out AA _ _) AA _ _) AA _ _,aH (aH (aH Wt.out wS _ _) wS _ _) wS _ _,I8.out _ zy.out _ _ _ H2.out H3.out H4.out⟩
    case measure=>simp[intOf];omega
  ·obtain rfl:k=p.t.cases.length:=by omega
   obtain⟨wrA,Bi⟩:∃ x,x=wr:=⟨_,rfl⟩;subst Bi;have t1:=ab hA;have z1:=fun o=>aE hA o
   have wU:=aq.size;have Tl:=ar hA;have Wg:=ar hO;clear hA hO bV
   go_wp2_with fail
   refine(BR _ p.a.states.length raw2 wrA ?_ (by omega)).mono ?_
   ·obtain⟨q,cap,e,h1,h2,h3,h4⟩:=dE.out
    exact⟨q,cap,e,h1,h2,fun j u hj=>by obtain⟨b,o,e1,e2⟩:=h3 j u hj;exact⟨b,o,e1,ai aq e2⟩,h4⟩
   rintro e w3 ⟨u,rfl,hu,bA⟩
   have bV:∃ g2 cap2,u=.slice (some ⟨g2,0,none⟩) p.a.states.length cap2/\StateRow w.heap.size g2 cap2 raw2 p.a.states 0 w3:=by
    rcases hu.2 with ⟨_,h0⟩|⟨g2,cap2,cur,fz,rfl,h1,h2,h3,h4,h5,h6,h7⟩
    ·omega
    ·refine⟨g2,cap2,rfl,by omega,⟨h4,h5⟩,cur,fz,h2,h3,by omega,fun i hi hk=>by omega,fun j _ hj=>?_⟩
     rw[<-h7,List.getElem?_take_of_lt (by omega)];simp
   obtain⟨g2,cap2,rfl,bV⟩:=bV;clear t1 z1;have Tm:=af bA HA.out;have t1:=ab Tm;have z1:=fun o=>aE Tm o
   have tV:=ae aq bA;have Co:=aa bV;have wR:=aa Tm;have ly:=aa (af bA HO.out);have zy:=aa (zA.out.up bA);clear hu bV Tm
   go_wp2_with fail
   clear t1 z1;refine bj (fun W=>Below w.heap.size w W/\W.heap[w.heap.size]?=some (.cells #[.int .i64 p.t.n,.int .i64 p.t.ins,.int .i64 p.t.outs,.slice (some ⟨g,0,none⟩) p.t.cases.length cap,.int .i64 p.a.n,.slice (some ⟨g2,0,none⟩) p.a.states.length cap2,.int .i64 p.rounds] 29)/\W.heap[w.heap.size+1]?=some (.cells zPb 29)/\CaseRow w.heap.size g cap raw p.t.cases p.t.cases.length W/\StateRow w.heap.size g2 cap2 raw2 p.a.states 0 W) ?_ (fun W5 hW5=>?_)
   ·have y9:=KeepT.set (o:=5) (KeepT.refl (ms:=[]) [29] w.heap.size w3) wR.out (by simp) (Nat.le_refl _) (.slice (some ⟨g2,0,none⟩) p.a.states.length cap2)
    exact⟨tV.setCell (Nat.le_refl _) _,by rw[aF wR.out];rfl,aH ly.out (by omega) _ _,zy.out.keep y9 (by decide) (by decide) (by decide),Co.out.keep y9 (by decide) (by decide)⟩
   obtain⟨dO,AJ,Au,hrow5,hst5⟩:=hW5
   go_loopw [48] (fun i wr=>∃ k:Nat,k<=p.a.states.length/\i=.int .i64 k/\Below w.heap.size w wr/\wr.heap[w.heap.size]?=some (.cells #[.int .i64 p.t.n,.int .i64 p.t.ins,.int .i64 p.t.outs,.slice (some ⟨g,0,none⟩) p.t.cases.length cap,.int .i64 p.a.n,.slice (some ⟨g2,0,none⟩) p.a.states.length cap2,.int .i64 p.rounds] 29)/\wr.heap[w.heap.size+1]?=some (.cells zPb 29)/\CaseRow w.heap.size g cap raw p.t.cases p.t.cases.length wr/\StateRow w.heap.size g2 cap2 raw2 p.a.states k wr) (fun i _=>p.a.states.length - (intOf i).toNat)
   case atStart=>exact⟨0,by omega,rfl,dO,AJ,Au,hrow5,hst5⟩
   case round=>
    clear dO AJ Au hrow5 hst5;obtain⟨k,hk,rfl,aq,hA,hO,bV,dT⟩:=hrel;have HA:=aa hA;have HO:=aa hO;have HROW6:=aa bV;have HST6:=aa dT;by_cases az:k<p.a.states.length
    ·obtain⟨va,q1,i1⟩:=N3 HS.out dE.out k az
     obtain⟨cur,fz,p1,p2,p3,_,p5⟩:=dT.row;have Ij:=dT.fit.1;have d0:wr.cell? ⟨g2,k,none⟩=some va:=by rw[ab p1,p5 _ (by omega) (by omega),q1]
     have I1:=aa i1;obtain⟨pa,ca,rfl,_⟩:=i1.at;have I8:=aa (fun (W:World) (h:StateRow w.heap.size g2 cap2 raw2 p.a.states k W) (a:Value)=>h.put az (a:=a));have AG:Hid (p.a.states[k].length<=1048576):=aa (by have:=GZ p.a.states k az;omega);have Xm:=ar p1;clear q1 i1 p1 p2 p3 p5 hA hO bV dT;generalize p.a.states[k]=c at I1 I8 AG d0;have wU:=aq.size;have Tl:=ar HA.out
     go_wp2_with fail
     clear d0
     refine dJ 6 [53,54,55,56,57,58] [MP.eq (.pointer (some ⟨w.heap.size,4,none⟩)),
      MP.eq (.pointer (some ⟨w.heap.size,5,none⟩)),
      MP.eq (.slice (some ⟨g2,0,none⟩) p.a.states.length cap2),
      MP.eq (.int .i64 k),
      MP.eq (.slice pa c.length ca),
      Ut w.heap.size c] (by kernel_rfl) (by simp) (by decide) rfl (by kernel_rfl) (by kernel_rfl) (by kernel_rfl) ?step ?tail
     case step=>
      intro x W i o s F hi ho hs hB aj hF;have fy:i=0\/i=1\/i=2\/i=3\/i=4\/i=5:=by omega
      rcases fy with rfl|rfl|rfl|rfl|rfl|rfl
      all_goals (obtain rfl:=cU ho.symm;obtain rfl:=cU hs.symm;simp only[bd,cJ,List.setIfInBounds_toArray,List.set_cons_succ,List.set_cons_zero,Nat.reduceAdd]at hF)
      ·clear aj hi ho hs
       subst hF
       go_wp2_with fail
       exact kD _ (Below.refl _ _) rfl
      ·have d0:=oE (aj ⟨0,.data⟩ (by simp) rfl)
       clear aj hi ho hs;simp only[d0]at hF;subst hF
       go_wp2_with fail
       exact kD _ (Below.refl _ _) rfl
      ·have d1:=oE (aj ⟨1,.data⟩ (by simp) rfl)
       clear aj hi ho hs;have t1:=ab (af hB HA.out) 5;simp at t1;simp only[d1]at hF;subst hF
       go_wp2_with fail
       exact kD _ (Below.refl _ _) rfl
      ·clear aj hi ho hs
       subst hF
       go_wp2_with fail
       exact kD _ (Below.refl _ _) rfl
      ·clear aj hi ho hs
       subst hF
       go_wp2_with fail
       exact kD _ (Below.refl _ _) rfl
      ·have d4:=oE (aj ⟨4,.data⟩ (by simp) rfl)
       clear aj hi ho hs;simp only[d4]at hF;subst hF
       go_wp2_with fail
       refine(Dw _ c.length (fm c) W (NZ (I1.out.up up_move (ae aq hB))) AG.out).mono ?_;rintro e w9 ⟨u9,rfl,jp,eN⟩;have mL:=aa (jp.base (show w.heap.size<=W.heap.size by have:=hB.size;omega));clear jp
       go_wp2_with fail
       exact kD _ eN mL.out
     case tail=>
      intro x W3 F hB aP hF;have d2:x 2=.slice (some ⟨g2,0,none⟩) p.a.states.length cap2:=aP 2 (by omega);have d3:x 3=.int .i64 k:=aP 3 (by omega);have h2:aD W3 w.heap.size 143 8 (x 5) c.length (fm c):=aP 5 (by omega);clear aP;simp only[bd,cJ,List.setIfInBounds_toArray,List.set_cons_succ,List.set_cons_zero,Nat.reduceAdd]at hF;obtain⟨y1,z1,e5⟩:=h2.slice;rw[d2,d3,e5]at hF;rw[e5]at h2;generalize x 0=s0,x 1=s1,x 4=s4 at hF;subst hF;have St:=HST6.out.up hB;have HST3:=aa St;have zy:=aa (HROW6.out.up hB);have H2:=aa h2;obtain⟨cur3,fz3,q1,q2,q3,_,q5⟩:=St.row;have c0:∃ u,W3.cell? ⟨g2,k,none⟩=some u:=⟨cur3[k]'(by omega),by rw[ab q1];exact Array.getElem?_eq_getElem _⟩;obtain⟨o0,c0⟩:=c0;have f0:=qS q1 q2 k (by omega);have AJ:=af hB HA.out;have Au:=af hB HO.out;have AA:w.heap.size≠g2:=mj AJ q1 (by decide);have wS:w.heap.size+1≠g2:=mj Au q1 (by decide);have KK:=aa AJ;have Wt:=aa Au;have iy:=aa (ae aq hB);have wV:=HST3.out.lo;have Dd:=aa q1;clear d2 d3 e5 h2 St q1 q2 q3 q5 AJ Au hB;simp only[List.drop_succ_cons,List.drop_zero]
      go_wp2_with fail
      go_roundw
      case rel=>exact⟨k+1,by omega,by go_num,iy.out.setCell wV _,aH KK.out AA _ _,aH Wt.out wS _ _,zy.out.keep (KeepT.set (KeepT.refl (ms:=[]) [136] w.heap.size W3) Dd.out (by simp) wV _) (by decide) (by decide) (by decide),I8.out _ HST3.out _ H2.out⟩
      case measure=>simp[intOf];omega
    ·obtain rfl:k=p.a.states.length:=by omega
     have tA:=ab hA;have tO:=ab hO;have zO:=fun o=>aE hO o
     have wU:=aq.size;have Tl:=ar HA.out;clear hA hO bV dT
     go_wp2_with fail
     have e0:=aF HO.out 0 (.int .i64 p.t.n);have e1:=aF e0 1 (.int .i64 p.t.ins);have e2:=aF e1 2 (.int .i64 p.t.outs);have e3:=aF e2 3 (.slice (some ⟨g,0,none⟩) p.t.cases.length cap);have e4:=aF e3 4 (.int .i64 p.a.n);have e5:=aF e4 5 (.slice (some ⟨g2,0,none⟩) p.a.states.length cap2);have e6:=aF e5 6 (.int .i64 p.rounds);have sI:w.heap.size<=w.heap.size+1:=by omega
     have y9:=((((((((KeepT.refl (ms:=[]) [29] w.heap.size wr).set (o:=0) HO.out (by simp) sI (.int .i64 p.t.n)).set (o:=1) e0 (by simp) sI (.int .i64 p.t.ins)).set (o:=2) e1 (by simp) sI (.int .i64 p.t.outs)).set (o:=3) e2 (by simp) sI (.slice (some ⟨g,0,none⟩) p.t.cases.length cap)).set (o:=4) e3 (by simp) sI (.int .i64 p.a.n)).set (o:=5) e4 (by simp) sI (.slice (some ⟨g2,0,none⟩) p.a.states.length cap2)).set (o:=6) e5 (by simp) sI (.int .i64 p.rounds));have CE:=((((((aq.setCell sI (p:=⟨w.heap.size+1,0,none⟩) (.int .i64 p.t.n)).setCell sI (p:=⟨w.heap.size+1,1,none⟩) (.int .i64 p.t.ins)).setCell sI (p:=⟨w.heap.size+1,2,none⟩) (.int .i64 p.t.outs)).setCell sI (p:=⟨w.heap.size+1,3,none⟩) (.slice (some ⟨g,0,none⟩) p.t.cases.length cap)).setCell sI (p:=⟨w.heap.size+1,4,none⟩) (.int .i64 p.a.n)).setCell sI (p:=⟨w.heap.size+1,5,none⟩) (.slice (some ⟨g2,0,none⟩) p.a.states.length cap2)).setCell sI (p:=⟨w.heap.size+1,6,none⟩) (.int .i64 p.rounds);have t7:=ab e6;refine bodyPost_ret (v:=qi p (.slice (some ⟨g,0,none⟩) p.t.cases.length cap) (.slice (some ⟨g2,0,none⟩) p.a.states.length cap2)) (by simp[results,Tryz.results163,go_sem,t7]) rfl ⟨_,_,rfl,fun W' TS=>⟨?_,?_⟩,CE⟩
     ·exact((HROW6.out.keep y9 (by decide) (by decide) (by decide)).from TS).done (Nat.le_refl _) ht (vS HC.out)
     ·exact((HST6.out.keep y9 (by decide) (by decide)).from TS).done (Nat.le_refl _) iL (fun x hx=>by obtain⟨i,hi,rfl⟩:=List.getElem_of_mem hx;have:=GZ p.a.states i hi;omega) (LI HS.out)
theorem tm(n:Nat):∀ c,jd c n=(List.range (c * n)).map fun i=>(i / n,i % n)
 | 0=>by simp[jd]
 | c+1=>by
  have ih:=tm n c;unfold jd at ih ⊢;rw[List.range_succ,List.flatMap_append,ih,Nat.succ_mul,List.range_add,List.map_append,List.map_map];congr 1;simp only[List.flatMap_cons,List.flatMap_nil,List.append_nil];refine List.map_congr_left fun j hj=>?_
  have hj:=List.mem_range.1 hj;simp only[Function.comp];rw[show c * n+j=n * c+j by rw[Nat.mul_comm],Nat.mul_add_div (by omega),Nat.div_eq_of_lt hj,Nat.mul_add_mod,Nat.mod_eq_of_lt hj,Nat.add_zero]
theorem Uu{α:Type} {k:Nat} {R:World->Nat->Nat->α->Prop} {w:World} {v:Value} {l:List (List α)} (h:eM 1 (mf k R) w v l):∃ ws:List Value,ws.length=l.length/\∃ a cap,v=.slice a l.length cap/\∀ i (hi:i<l.length),∃ b o,a=some ⟨b,o,none⟩/\w.cell? ⟨b,o+i,none⟩=some (ws.getD i undef)/\eM k R w (ws.getD i undef) l[i]:=by
 obtain⟨a,cap,rfl,h1,h2,h3⟩:=h
 have key:∀ i:Fin l.length,∃ x:Value,∃ b off,a=some ⟨b,off,none⟩/\w.cell? ⟨b,off+i.1,none⟩=some x/\eM k R w x l[i.1]:=fun i=>by
  obtain⟨b,off,ha,x,hx,hs⟩:=h3 i.1 _ (List.getElem?_eq_getElem i.2);exact⟨x,b,off,ha,by rwa [Nat.mul_one]at hx,hs⟩
 refine⟨List.ofFn fun i=>Classical.choose (key i),by simp,a,cap,rfl,fun i hi=>?_⟩
 have e:(List.ofFn fun i=>Classical.choose (key i)).getD i undef=Classical.choose (key ⟨i,hi⟩):=by
  rw[List.getD_eq_getElem?_getD,List.getElem?_ofFn];simp[hi]
 rw[e];exact Classical.choose_spec (key ⟨i,hi⟩)
theorem Dy(p:Pb) (pc:Option Addr) (nc cc:Nat) (ps:Option Addr) (ns cs:Nat) (pw:Option Addr) (nw cw:Nat) (w:World) :
  Calls Tryz.prog 164 #[qi p (.slice pc nc cc) (.slice ps ns cs),.slice pw nw cw] w fun e w'=>e=.returned (.func (.func 199) #[] #[.pointer (some ⟨w.heap.size,0,none⟩),.pointer (some ⟨w.heap.size+1,0,none⟩)]) ∧
   w'=(w.alloc (.cells #[.int .i64 p.t.n,.int .i64 p.t.ins,.int .i64 p.t.outs,.slice pc nc cc,.int .i64 p.a.n,.slice ps ns cs,.int .i64 p.rounds] 29)).alloc (.cells #[.slice pw nw cw] 221):=by
 go_enter Tryz.func164,Tryz.ntmps164
 go_wp2
 go_ret
 exact⟨rfl,rfl⟩
def QH(n:Nat) (ws:List Value) (i:Nat):Array Value:=#[.int .i64 ((i / n:Nat):Int),ws.getD (i % n) undef]
theorem BT(wd:World) (C n:Nat) (pw:Option Addr) (cw:Nat) (ws:List Value) (hn:n<=1048576) (hC:C<=1048576) (hws:∀ j,j<n->∃ b o,pw=some ⟨b,o,none⟩/\b<wd.heap.size/\wd.cell? ⟨b,o+j,none⟩=some (ws.getD j undef)/\∃ a m c,ws.getD j undef=.slice a m c) (KF:n<=cw/\cw<=9223372036854775807)
  (w:World) (hb:Below wd.heap.size wd w) (Bp Bw:Nat) (x0 x1 x2 x4 x5 x6:Value) (pc:Option Addr) (cc:Nat) (hp:w.heap[Bp]?=some (.cells #[x0,x1,x2,.slice pc C cc,x4,x5,x6] 29)) (hw:w.heap[Bw]?=some (.cells #[.slice pw n cw] 221)) :
  rH Tryz.prog 199 #[.pointer (some ⟨Bp,0,none⟩),.pointer (some ⟨Bw,0,none⟩)] (QH n ws) (C * n) (fun k=>k=Bw\/∃ ad,pw=some ad/\k=ad.block) w:=by
 intro yl J Jx W hW hJ nV hY h0;have sM:=ab (af hW hp) 3;simp at sM;have jn:=af hW hw;have eT:∀ ad,pw=some ad->ad.block<wd.heap.size->W.heap[ad.block]?=wd.heap[ad.block]?:=fun ad _ hk=>(hW.block _ (Nat.lt_of_lt_of_le hk hb.size)).trans (hb.block _ hk)
 clear hW hb hp hw;have KB:=aa hws;clear hws;have HJ:=aa hJ;clear hJ;have Jh:=aa nV;clear nV;have HY:=aa hY;clear hY;refine(callsIn_wide (n:=0)).1 ?_;refine callsIn_of_wp Tryz.func199 rfl trivial ?_ rfl;simp only[Tryz.ntmps199,List.size_toArray,List.length_cons,List.length_nil,Nat.reduceAdd,Nat.reduceSub,Array.replicate_succ,Array.replicate_zero,List.push_toArray,List.append_toArray,List.nil_append,List.cons_append]
 gi_wp2
 clear sM
 gi_loopw [11] (fun i wr=>∃ s:Nat,s<=C/\i=.int .i64 s/\(∀ ad,pw=some ad->ad.block<wd.heap.size->wr.heap[ad.block]?=wd.heap[ad.block]?)/\wr.heap[Bw]?=some (.cells #[.slice pw n cw] 221)/\J (s * n) wr) (fun i _=>C - (intOf i).toNat)
 case atStart=>exact⟨0,by omega,rfl,eT,jn,by rw[Nat.zero_mul];exact h0⟩
 case round=>
  obtain⟨s,hs,rfl,fM,kr,hj⟩:=hrel;have jP:=aa fM;clear fM;have iX:=aa hj;clear hj;have CW:=aa kr;by_cases az:s<C
  ·have tw:=ab kr 0
   simp at tw;clear kr
   gi_wp2
   clear tw;obtain⟨W0,aW⟩:∃ W0:World,W0=wr:=⟨_,rfl⟩;rw[<-aW]at jP iX CW ⊢;clear aW wr
   gi_loopw [16] (fun i wr=>∃ j:Nat,j<=n/\i=.int .i64 j/\(∀ ad,pw=some ad->ad.block<wd.heap.size->wr.heap[ad.block]?=wd.heap[ad.block]?)/\wr.heap[Bw]?=some (.cells #[.slice pw n cw] 221)/\J (s * n+j) wr) (fun i _=>n - (intOf i).toNat)
   case atStart=>exact⟨0,by omega,rfl,jP.out,CW.out,iX.out⟩
   case round=>
    obtain⟨j,hj,rfl,fM,kr,yN⟩:=hrel;have nD:=aa fM;clear fM;have ID:=aa yN;clear yN;have HWR2:=aa kr;clear kr;by_cases K5:j<n
    ·obtain⟨b2,o2,rfl,Ww,c0,a9,m9,c9,e9⟩:=KB.out j K5
     have d0:wr.cell? ⟨b2,o2+j,none⟩=some (ws.getD j undef):=by
      rw[<-c0];simp only[World.cell?,nD.out _ rfl Ww]
     have lu:s * n+j<C * n:=by
      have h1:(s+1) * n<=C * n:=Nat.mul_le_mul_right _ az;rw[Nat.succ_mul]at h1;omega
     have hdiv:(s * n+j) / n=s:=by rw[Nat.mul_comm,Nat.mul_add_div (by omega),Nat.div_eq_of_lt K5,Nat.add_zero]
     have hmod:(s * n+j) % n=j:=by rw[Nat.mul_comm,Nat.mul_add_mod,Nat.mod_eq_of_lt K5]
     obtain⟨fn,tmps,assign,body,hy,hR⟩:=HY.out (s * n+j) wr lu ID.out;unfold QH at hy;rw[hdiv,hmod,e9]at hy;rw[e9]at d0;have HR:=aa hR;clear hR hdiv hmod c0 e9;have As:=aa lu;clear lu
     gi_wp2
     refine⟨rfl,HR.out.mono ?_⟩;rintro e W3 (⟨rfl,Cn,Cm,hZ⟩|⟨rfl,rB⟩)
     ·gi_wp2
      go_roundw
      case rel=>exact⟨j+1,by omega,by go_num,fun ad e1 e2=>(hZ _ (.inr ⟨ad,e1,rfl⟩)).trans (nD.out ad e1 e2),(hZ Bw (.inl rfl)).trans HWR2.out,Cn⟩
      case measure=>simp[intOf];omega
     ·gi_wp2
      refine bodyPost_ret (results_none rfl _ _ _) rfl ?_;exact⟨⟨_,rfl⟩,.inr ⟨_,As.out,rB⟩⟩
    ·gi_wp2
     go_roundw
     case rel=>
      refine⟨s+1,by omega,by go_num,nD.out,HWR2.out,?_⟩;have e:n=j:=by omega
      rw[Nat.succ_mul];have h9:=ID.out;rw[<-e]at h9;exact h9
     case measure=>simp[intOf];omega
  ·obtain rfl:s=C:=by omega
   gi_wp2
   go_end0
   exact⟨⟨_,rfl⟩,.inl iX.out⟩
end Go.Proofs.YtmeaoneaephjeaaGreatDoor
namespace Go.Proofs.YtmeaoneaephjeaaGreatDoor
open Go.RowKit Go Go.Shelf
def jF(v:Vw):Prop:=bI v.p/\bI v.k/\bI v.i/\bI v.h0/\bI v.h1/\bI v.h2/\bI v.h3/\bI v.h4
theorem QI(B:Nat) (st:List Vw × List Int) (v:Vw) (hv:jF v) (h1:∀ u∈st.1,jF u) (h2:∀ z∈st.2,0<=z/\z<=B) (hl:st.1.length<=B):(∀ u∈(gQ st v).1,jF u)/\∀ z∈(gQ st v).2,0<=z/\z<=(B:Int):=by
 unfold gQ;refine⟨fun u hu=>?_,fun z hz=>?_⟩
 ·unfold putV at hu
  dsimp only at hu;split at hu
  ·exact h1 u hu
  ·rcases List.mem_append.1 hu with h|h
   ·exact h1 u h
   ·rw[List.mem_singleton]at h;subst h;exact hv
 ·rcases List.mem_append.1 hz with h|h
  ·exact h2 z h
  ·rw[List.mem_singleton]at h
   subst h;have:=Um st.1 v;omega
theorem xU(B:Nat) (vs:List Vw):∀ st:List Vw × List Int,(∀ v∈vs,jF v)->(∀ u∈st.1,jF u)->(∀ z∈st.2,0<=z/\z<=(B:Int))->st.1.length+vs.length<=B->(∀ u∈(vs.foldl gQ st).1,jF u)/\∀ z∈(vs.foldl gQ st).2,0<=z/\z<=(B:Int):=by
 induction vs with
 | nil=>intro st _ h1 h2 _;exact⟨h1,h2⟩
 | cons v r ih=>
  intro st hv h1 h2 hl;simp only[List.length_cons]at hl;have h3:=QI B st v (hv v (by simp)) h1 h2 (by omega);have h4:=(Ee st v).2;exact ih _ (fun u hu=>hv u (by simp[hu])) h3.1 h3.2 (by omega)
theorem N7(st:List Vw × List Int) (v:Vw):st.1.length<=(gQ st v).1.length:=by
 unfold gQ putV;dsimp only;split<;>simp
theorem BU(vs:List Vw):∀ st:List Vw × List Int,st.1.length<=(vs.foldl gQ st).1.length:=by
 induction vs with
 | nil=>intro st;exact Nat.le_refl _
 | cons v r ih=>intro st;exact Nat.le_trans (N7 st v) (ih _)
theorem BV(n:Nat) (inp:List Int) (word:List Rd) (tb:List Vw):∀ k,tb.length<=(playTo n inp word tb k).1.length
 | 0=>BU _ (tb,[])
 | k+1=>Nat.le_trans (BV n inp word tb k) (BU (fw n k (word.getD k default) ((playTo n inp word tb k).2.getLastD [])) ((playTo n inp word tb k).1,[]))
theorem uu(k:Nat) (h:k<=1000000):bI (k:Int):=⟨by omega,by omega⟩
theorem xV(n:Nat) (hn:n<=5) (inp:List Int) (hi:∀ x∈inp,bI x) (word:List Rd) (tb:List Vw) (ht:∀ v∈tb,jF v):∀ k,k<=6->tb.length+40<=100000->(∀ v∈(playTo n inp word tb k).1,jF v)/\∀ row∈(playTo n inp word tb k).2,∀ z∈row,0<=z/\z<=(100000:Int)
 | 0,_,hl=>by
  have h:=xU 100000 (fY inp n) (tb,[]) (fun v hv=>by
   obtain⟨p,hp,rfl⟩:=List.mem_map.1 hv;have hp:=List.mem_range.1 hp
   have hx:bI (inp.getD p 0):=by
    by_cases h:p<inp.length
    ·rw[ap 0 h];exact hi _ (List.getElem_mem h)
    ·rw[List.getD_eq_getElem?_getD,List.getElem?_eq_none (by omega)];exact⟨by simp,by simp⟩
   exact⟨uu p (by omega),⟨by simp[dS],by simp[dS]⟩,hx,⟨by simp[dS],by simp[dS]⟩,⟨by simp[dS],by simp[dS]⟩,⟨by simp[dS],by simp[dS]⟩,⟨by simp[dS],by simp[dS]⟩,⟨by simp[dS],by simp[dS]⟩⟩) ht (fun z hz=>by simp at hz) (by simp;omega)
  exact⟨h.1,fun row hr z hz=>by
   have:row=(addAll tb (fY inp n)).2:=by simpa[playTo,ug] using hr
   subst this
   exact h.2 z hz⟩
 | k+1,hk,hl=>by
  obtain⟨h1,h2⟩:=xV n hn inp hi word tb ht k (by omega) hl;have cK:=ik n inp word tb k;have h9:n * (k+1)<=5 * 7:=Nat.mul_le_mul hn (by omega);have e:(playTo n inp word tb (k+1)).2=(playTo n inp word tb k).2++[(addAll (playTo n inp word tb k).1 (fw n k (word.getD k default) ((playTo n inp word tb k).2.getLastD []))).2]:=rfl
  have oQ:∀ q,0<=((playTo n inp word tb k).2.getLastD []).getD q 0/\((playTo n inp word tb k).2.getLastD []).getD q 0<=(100000:Int):=fun q=>by
   have hm:(playTo n inp word tb k).2.getLastD []∈(playTo n inp word tb k).2:=by
    rcases List.eq_nil_or_concat (playTo n inp word tb k).2 with h|⟨l',a,h⟩
    ·rw[h]at cK;simp at cK
    ·rw[h,List.concat_eq_append,List.getLastD_concat];simp
   by_cases h:q<((playTo n inp word tb k).2.getLastD []).length
   ·rw[ap 0 h];exact h2 _ hm _ (List.getElem_mem h)
   ·rw[List.getD_eq_getElem?_getD,List.getElem?_eq_none (by omega)];simp
  have e1:(playTo n inp word tb (k+1)).1=(addAll (playTo n inp word tb k).1 (fw n k (word.getD k default) ((playTo n inp word tb k).2.getLastD []))).1:=rfl;rw[e,e1];generalize (playTo n inp word tb k).2.getLastD []=now at oQ ⊢
  have hv:∀ v∈fw n k (word.getD k default) now,jF v:=fun v hv=>by
   obtain⟨p,hp,rfl⟩:=List.mem_map.1 hv;have hp:=List.mem_range.1 hp
   have hh:∀ q,bI (lI n (word.getD k default) now p q):=fun q=>by
    unfold lI;have:=oQ q;split
    ·exact⟨by omega,by omega⟩
    ·exact⟨by simp,by simp⟩
   exact⟨uu p (by omega),⟨by simp only[nextV];omega,by simp only[nextV];omega⟩,⟨by simp[nextV],by simp[nextV]⟩,hh 0,hh 1,hh 2,hh 3,hh 4⟩
  have h:=xU 100000 (fw n k (word.getD k default) now) ((playTo n inp word tb k).1,[]) hv h1 (fun z hz=>by simp at hz) (by simp;omega);refine⟨h.1,fun row hr=>?_⟩
  ·rcases List.mem_append.1 hr with hr|hr
   ·exact h2 row hr
   ·rw[List.mem_singleton]at hr
    subst hr;exact h.2
end Go.Proofs.YtmeaoneaephjeaaGreatDoor
namespace Go.Proofs.YtmeaoneaephjeaaGreatDoor
open Go.RowKit Go Go.Shelf
attribute [local go_sem] Oper.semAt_some
theorem Vf{p:Pb} (h:probE p=0):movesN p.a.states<=4096:=by
 have ha:=(go h).2.1;unfold advE at ha;by_cases h1:p.a.n<1\/5<p.a.n
 ·rw[if_pos h1]at ha;omega
 ·rw[if_neg h1]at ha
  by_cases h2:p.a.states.length<1\/256<p.a.states.length\/4096<movesN p.a.states
  ·rw[if_pos h2]at ha;omega
  ·omega
theorem JO{p:Pb} (h:probE p=0):((dK p).2≠0->(dK p).2=17/\4096<p.t.cases.length * (aI p).length)/\((dK p).2=0->(dK p).1=((p.t.cases.length * (aI p).length:Nat):Int)):=by
 obtain⟨ht,ha,_,ro,pL⟩:=go h;have bU:=(eX ht).2.2.2.1;have hn:=qF (L:=1048576) (by omega) p.a (fun s hs m hm=>(ur ha s hs m hm).2) (by have:=(hH ha).1;omega) p.rounds.toNat;have hw:(aI p).length=(bS p.a p.rounds.toNat 0).length:=rfl;rw[<-hw]at hn
 have qq:countedR 1048576 p.a p.rounds=if 1048576<numberL 1048576 p.a p.rounds.toNat then(0,17) else(numberL 1048576 p.a p.rounds.toNat,0):=by
  unfold countedR;rw[if_neg (by simpa using ha),if_neg (by omega)]
 unfold dK;rw[if_neg (by simpa using h),qq];by_cases h1:1048576<numberL 1048576 p.a p.rounds.toNat
 ·rw[if_pos h1]
  have h9:1 * 1048576<=p.t.cases.length * (aI p).length:=Nat.mul_le_mul bU.1 (by omega);refine⟨fun _=>⟨by simp,by omega⟩,fun e=>by simp at e⟩
 ·rw[if_neg h1]
  have he:numberL 1048576 p.a p.rounds.toNat=((aI p).length:Int):=by omega
  rw[he];dsimp only;rw[if_neg (by simp),Int.mul_comm,<-Int.natCast_mul];by_cases h2:(1048576:Int)<((p.t.cases.length * (aI p).length:Nat):Int)
  ·rw[if_pos h2]
   refine⟨fun _=>⟨by simp,by omega⟩,fun e=>by simp at e⟩
  ·rw[if_neg h2]
   exact⟨fun e=>by simp at e,fun _=>rfl⟩
theorem JP{p:Pb} (h:probE p=0) (h2:¬ 4096<p.t.cases.length * (aI p).length):pC p.a p.rounds=(aI p,0):=by
 obtain⟨ht,ha,_,ro,pL⟩:=go h;have bU:=(eX ht).2.2.2.1;have hn:=qF (L:=4096) (by omega) p.a (fun s hs m hm=>(ur ha s hs m hm).2) (by have:=(hH ha).1;omega) p.rounds.toNat;have hw:(aI p).length=(bS p.a p.rounds.toNat 0).length:=rfl;rw[<-hw]at hn;have h9:1 * (aI p).length<=p.t.cases.length * (aI p).length:=Nat.mul_le_mul_right _ bU.1
 have qq:(countedR 4096 p.a p.rounds).2=0:=by
  unfold countedR;rw[if_neg (by simpa using ha),if_neg (by omega),if_neg (by omega)]
 unfold pC;rw[if_neg (by simpa using qq)];rfl
theorem Ey{a:Adv} (h:∀ s,s<a.states.length->stateE a (a.states.getD s [])=0) (h1:0<a.states.length) (k:Nat):∀ s,s<a.states.length->0<(bS a k s).length:=by
 induction k with
 | zero=>intro s _;simp[bS]
 | succ k ih=>
  intro s hs;have h2:=h s hs
  have bM:(a.states.getD s []).length≠0:=by
   intro e;unfold stateE at h2;rw[if_pos e]at h2;cases h2
  obtain⟨m,hm⟩:∃ m,m∈a.states.getD s []:=by
   cases hl:a.states.getD s [] with
   | nil=>rw[hl]at bM;simp at bM
   | cons m r=>exact⟨m,by simp⟩
  have od:m.to.toNat<a.states.length:=XE h s hs m hm;have h3:=ih _ od;obtain⟨y,hy⟩:=List.length_pos_iff_exists_mem.1 h3;refine List.length_pos_iff_exists_mem.2 ⟨m.r :: y,?_⟩;simp only[bS,List.mem_flatMap,List.mem_map];exact⟨m,hm,y,hy,rfl⟩
theorem rV(p:Pb) (words:List (List Rd)) (l:List (Nat × Nat)):∀ st:List Vw × List Ex,(l.foldl (jS p words) st).2.length=st.2.length+l.length:=by
 induction l with
 | nil=>intro st;simp
 | cons x r ih=>
  intro st;rw[List.foldl_cons,ih];simp[jS];omega
theorem LK(p:Pb) (words:List (List Rd)) (l:List (Nat × Nat)) (i:Nat) (h:i<l.length):execsS p words (l.take (i+1))=jS p words (execsS p words (l.take i)) l[i]:=by
 unfold execsS;rw[List.take_succ_eq_append_getElem h,List.foldl_append];rfl
theorem LL(p:Pb) (words:List (List Rd)) (l:List (Nat × Nat)):∀ st:List Vw × List Ex,st.1.length<=(l.foldl (jS p words) st).1.length:=by
 induction l with
 | nil=>intro st;exact Nat.le_refl _
 | cons x r ih=>
  intro st;refine Nat.le_trans ?_ (ih _);exact BV _ _ _ _ _
theorem wE(p:Pb) (words:List (List Rd)) (l:List (Nat × Nat)) (i:Nat):(execsS p words (l.take i)).1.length<=(execsS p words l).1.length:=by
 have h:execsS p words l=(l.drop i).foldl (jS p words) (execsS p words (l.take i)):=by
  unfold execsS;rw[<-List.foldl_append,List.take_append_drop]
 rw[h];exact LL p words _ _
abbrev fo(p:Pb):List (Nat × Nat):=jd p.t.cases.length (aI p).length
abbrev stP(p:Pb) (i:Nat):List Vw × List Ex:=execsS p (aI p) ((fo p).take i)
theorem jl(p:Pb):(fo p).length=p.t.cases.length * (aI p).length:=by
 unfold fo;rw[tm];simp
theorem vT(p:Pb) (i:Nat) (h:i<p.t.cases.length * (aI p).length):stP p (i+1)=jS p (aI p) (stP p i) (i / (aI p).length,i % (aI p).length):=by
 unfold stP;rw[LK _ _ _ _ (by rw[jl];exact h)];congr 1;unfold fo;simp only[tm];simp
theorem LM{p:Pb} (h:probE p=0) (hm:¬ 4096<p.t.cases.length * (aI p).length) (i:Nat) (hi:8192<(stP p i).1.length):buildE p=17:=by
 have h2:=wE p (aI p) (fo p) i;have h3:(aM p).tab=(execsS p (aI p) (fo p)).1:=rfl;unfold buildE;rw[if_neg (by simpa using h),if_neg hm,if_pos (by rw[h3];exact Nat.lt_of_lt_of_le hi h2)]
theorem LN(w:World) (a b c d:Obj):((((w.alloc a).alloc b).alloc c).alloc d).heap[w.heap.size+1+1+1]?=some d:=by
 have:=ak (((w.alloc a).alloc b).alloc c) d;simpa only[World.size_alloc] using this
def zp(W:World) (base:Nat) (xs:List Value) (i:Nat) (x:Ex):Prop:=
 ∃ a b,xs[i * 3]?=some (.int .i64 x.c)/\xs[i * 3+1]?=some a/\xs[i * 3+2]?=some b/\aD W base 141 7 a x.word.length (cV x.word)/\cN W base b x.views
structure BInv (p:Pb) (uc us:Value) (wd:World) (Bs Bb b mb:Nat) (tab:List Vw) (ex:List Ex) (W:World):Prop where
 old:Below wd.heap.size wd W
 lo:wd.heap.size<=Bs
 bx:W.heap[Bb]?=some (.cells #[.pointer (some ⟨b,0,none⟩)] 231)
 s:∃ ve xs,W.heap[Bs]?=some (.cells (bE p uc us 0 (.slice none 0 0) ve) 35)/\aD W wd.heap.size 89 3 ve ex.length xs/\∀ i (hi:i<ex.length),zp W wd.heap.size xs i ex[i]
 bld:BldIs wd.heap.size b mb p.t.n.toNat tab W
theorem BInv.sta{p:Pb} {uc us:Value} {wd:World} {Bs Bb b mb:Nat} {tab:List Vw} {ex:List Ex} {B:Nat} (hB:wd.heap.size<=B) (hm:mb<B):cI B (fun W=>BInv p uc us wd Bs Bb b mb tab ex W):=fun A A' c h=>by
 obtain⟨ve,xs,h1,h2,h3⟩:=h.s;obtain⟨vs,q1,q2,q3,es,ck,q4,q5⟩:=h.bld.ex
 exact⟨c.below hB h.old.size h.old,h.lo,c.same _ _ h.bx (.inr rfl),⟨ve,xs,c.same _ _ h1 (.inr rfl),h2.ck c.ck,fun i hi=>by obtain⟨a,d,p1,p2,p3,p4,p5⟩:=h3 i hi;exact⟨a,d,p1,p2,p3,p4.ck c.ck,p5.ck c.ck⟩⟩,
  h.bld.lo,vs,c.same _ _ q1 (.inr rfl),q2,q3.ck c.ck,es,ck,c.same _ _ q4 (.inl hm),q5⟩
theorem Uv{w W:World} {B:Nat} {c:Array Value} (hb:Below w.heap.size w W) (hl:w.heap.size<=B) (hR:W.heap[B]?=some (.cells c 35)) (hc:c.size=10) (hE:W.heap[B+1]?=some (.cells #[.int .i64 0] 39)) (l:List Value) (cK:l.length=10) (e:Int) :
  ((W.setCells B 0 l).setCell ⟨B+1,0,none⟩ (.int .i64 e)).heap[B]?=some (.cells l.toArray 35)/\((W.setCells B 0 l).setCell ⟨B+1,0,none⟩ (.int .i64 e)).heap[B+1]?=some (.cells #[.int .i64 e] 39)/\Below w.heap.size w ((W.setCells B 0 l).setCell ⟨B+1,0,none⟩ (.int .i64 e)) ∧
   ∀ k,k≠B->k≠B+1->((W.setCells B 0 l).setCell ⟨B+1,0,none⟩ (.int .i64 e)).heap[k]?=W.heap[k]?:=by
 obtain⟨cur',h1,h2,h3⟩:=lZ B _ _ l 0 W c hR (by omega);obtain⟨o1,o2,o3,o4,o5⟩:=ld B l 0 W
 have tI:cur'=l.toArray:=by
  rw[Nat.zero_add,List.take_zero,List.nil_append,List.take_of_length_le (by simp;omega)]at h3;rw[<-h3]
 subst tI;have h4:=(o1 (B+1) (by omega)).trans hE;refine⟨aH h1 (by omega) _ _,by rw[aF h4];rfl,Below.setCell ⟨o2.trans hb.os,o3.trans hb.tape,o4.trans hb.output,by rw[o5];exact hb.size,fun k hk=>(o1 k (by omega)).trans (hb.block k hk)⟩ (by dsimp only;omega) _,fun k h5 h6=>(Below.heap_setCell _ _ _ _ (by dsimp only;exact h6)).trans (o1 k h5)⟩
theorem rW{w W:World} {B:Nat} {c:Array Value} (hb:Below w.heap.size w W) (hl:w.heap.size<=B) (hR:W.heap[B]?=some (.cells c 35)) (hc:c.size=10) (hE:W.heap[B+1]?=some (.cells #[.int .i64 0] 39)) (c0 c1 c2 c3 c4 c5 c6 c7 c8 c9:Value) (e:Int) :
  (((((((((((W.setCell ⟨B,0,none⟩ c0).setCell ⟨B,1,none⟩ c1).setCell ⟨B,2,none⟩ c2).setCell ⟨B,3,none⟩ c3).setCell ⟨B,4,none⟩ c4).setCell ⟨B,5,none⟩ c5).setCell ⟨B,6,none⟩ c6).setCell ⟨B,7,none⟩ c7).setCell ⟨B,8,none⟩ c8).setCell ⟨B,9,none⟩ c9).setCell ⟨B+1,0,none⟩ (.int .i64 e)).heap[B]?=some (.cells #[c0,c1,c2,c3,c4,c5,c6,c7,c8,c9] 35)/\(((((((((((W.setCell ⟨B,0,none⟩ c0).setCell ⟨B,1,none⟩ c1).setCell ⟨B,2,none⟩ c2).setCell ⟨B,3,none⟩ c3).setCell ⟨B,4,none⟩ c4).setCell ⟨B,5,none⟩ c5).setCell ⟨B,6,none⟩ c6).setCell ⟨B,7,none⟩ c7).setCell ⟨B,8,none⟩ c8).setCell ⟨B,9,none⟩ c9).setCell ⟨B+1,0,none⟩ (.int .i64 e)).heap[B+1]?=some (.cells #[.int .i64 e] 39)/\Below w.heap.size w (((((((((((W.setCell ⟨B,0,none⟩ c0).setCell ⟨B,1,none⟩ c1).setCell ⟨B,2,none⟩ c2).setCell ⟨B,3,none⟩ c3).setCell ⟨B,4,none⟩ c4).setCell ⟨B,5,none⟩ c5).setCell ⟨B,6,none⟩ c6).setCell ⟨B,7,none⟩ c7).setCell ⟨B,8,none⟩ c8).setCell ⟨B,9,none⟩ c9).setCell ⟨B+1,0,none⟩ (.int .i64 e)) ∧
   ∀ k,k≠B->k≠B+1->(((((((((((W.setCell ⟨B,0,none⟩ c0).setCell ⟨B,1,none⟩ c1).setCell ⟨B,2,none⟩ c2).setCell ⟨B,3,none⟩ c3).setCell ⟨B,4,none⟩ c4).setCell ⟨B,5,none⟩ c5).setCell ⟨B,6,none⟩ c6).setCell ⟨B,7,none⟩ c7).setCell ⟨B,8,none⟩ c8).setCell ⟨B,9,none⟩ c9).setCell ⟨B+1,0,none⟩ (.int .i64 e)).heap[k]?=W.heap[k]?:=Uv hb hl hR hc hE [c0,c1,c2,c3,c4,c5,c6,c7,c8,c9] rfl e
theorem oW(tmps:Array Value) (B:Nat) (W:World) (c0 c1 c2 c3 c4 c5 c6 c7 c8 c9:Value) (e:Int) (h2:tmps[2]?.getD undef=.pointer (some ⟨B,0,none⟩)) (h3:tmps[3]?.getD undef=.pointer (some ⟨B+1,0,none⟩))
  (hB:W.heap[B]?=some (.cells #[c0,c1,c2,c3,c4,c5,c6,c7,c8,c9] 35)) (hE:W.heap[B+1]?=some (.cells #[.int .i64 e] 39)) :
  (results Tryz.f120 tmps).run Tryz.prog W=.ok (.tuple #[.agg #[c0,c1,c2,c3,c4,c5,c6,c7,c8,c9],.int .i64 e]) W:=by
 have t2:=ab hB;have t3:=ab hE 0;simp at t3;simp[results,Tryz.results120,go_sem,h2,h3,t2,t3]
structure BCore (base b mb n:Nat) (tab tab':List Vw) (c:Nat) (word:List Rd) (views:List (List Int)) (Wr:World) (D:Nat->Bool) (x:Nat->Value) (W:World):Prop where
 lo:base<=Wr.heap.size
 keep:KeepT bldT [mb] base Wr W
 bld:BldIs base b mb n (bif D 14 then tab' else tab) W
 x4:D 4=true->aD W base 141 7 (x 4) word.length (cV word)
 x14:D 14=true->cN W base (x 14) views
 x15:D 15=true->D 4=true/\D 14=true/\x 15=.agg #[.int .i64 c,x 4,x 14]
 x16:D 16=true->D 4=true/\D 14=true/\∃ g,x 16=.slice (some ⟨g,0,none⟩) 1 1/\W.heap[g]?=some (.cells #[.int .i64 c,x 4,x 14] 89)
section
variable {base b mb n : Nat} {tab tab' : List Vw} {c : Nat} {word : List Rd} {views : List (List Int)} {Wr : World} {D : Nat → Bool} {x : Nat → Value} {W W' : World}
theorem BCore.other(h:BCore base b mb n tab tab' c word views Wr D x W) {i:Nat} (u:Value) (h4:4≠i) (Jv:14≠i) (h15:15≠i) (h16:16≠i):BCore base b mb n tab tab' c word views Wr (bz D i) (cA x i u) W:=by
 refine⟨h.lo,h.keep,?_,?_,?_,?_,?_⟩
 ·simpa only[bz,if_neg Jv] using h.bld
 ·simpa only[bz,cA,if_neg h4] using h.x4
 ·simpa only[bz,cA,if_neg Jv] using h.x14
 ·simpa only[bz,cA,if_neg h4,if_neg Jv,if_neg h15] using h.x15
 ·simpa only[bz,cA,if_neg h4,if_neg Jv,if_neg h16] using h.x16
theorem BCore.clone(h:BCore base b mb n tab tab' c word views Wr D x W) (h4:D 4=false) (hb:Below W.heap.size W W') {u:Value} (ho:aD W' base 141 7 u word.length (cV word)):BCore base b mb n tab tab' c word views Wr (bz D 4) (cA x 4 u) W':=by
 refine⟨h.lo,h.keep.trans (.of_below _ hb (Nat.le_trans h.lo h.keep.old.size)),?_,fun _=>by simpa[cA] using ho,fun e=>?_,fun e=>?_,fun e=>?_⟩
 ·simpa only[bz,if_neg (show (14:Nat)≠4 by decide)] using h.bld.up hb
 ·simp only[bz,cA,if_neg (show (14:Nat)≠4 by decide)]at e ⊢
  exact(h.x14 e).up hb
 ·simp only[bz,if_neg (show (15:Nat)≠4 by decide)]at e
  have:=(h.x15 e).1;rw[h4]at this;cases this
 ·simp only[bz,if_neg (show (16:Nat)≠4 by decide)]at e
  have:=(h.x16 e).1;rw[h4]at this;cases this
theorem BCore.play(h:BCore base b mb n tab tab' c word views Wr D x W) (Jv:D 14=false) (hk:KeepT bldT [mb] base W W') (hb:BldIs base b mb n tab' W') {u:Value} (ho:cN W' base u views):BCore base b mb n tab tab' c word views Wr (bz D 14) (cA x 14 u) W':=by
 refine⟨h.lo,h.keep.trans hk,by simpa[bz] using hb,fun e=>?_,fun _=>by simpa[cA] using ho,fun e=>?_,fun e=>?_⟩
 ·simp only[bz,cA,if_neg (show (4:Nat)≠14 by decide)]at e ⊢
  exact hk.own (h.x4 e) (by decide)
 ·simp only[bz,if_neg (show (15:Nat)≠14 by decide)]at e
  have:=(h.x15 e).2.1;rw[Jv]at this;cases this
 ·simp only[bz,if_neg (show (16:Nat)≠14 by decide)]at e
  have:=(h.x16 e).2.1;rw[Jv]at this;cases this
theorem BCore.made(h:BCore base b mb n tab tab' c word views Wr D x W) (g4:D 4=true) (g14:D 14=true) {u:Value} (hu:u=.agg #[.int .i64 c,x 4,x 14]):BCore base b mb n tab tab' c word views Wr (bz D 15) (cA x 15 u) W:=by
 refine⟨h.lo,h.keep,?_,?_,?_,fun _=>?_,?_⟩
 ·simpa only[bz,if_neg (show (14:Nat)≠15 by decide)] using h.bld
 ·simpa only[bz,cA,if_neg (show (4:Nat)≠15 by decide)] using h.x4
 ·simpa only[bz,cA,if_neg (show (14:Nat)≠15 by decide)] using h.x14
 ·simp only[bz,cA,if_neg (show (4:Nat)≠15 by decide),if_neg (show (14:Nat)≠15 by decide),if_true]
  exact⟨g4,g14,hu⟩
 ·simpa only[bz,cA,if_neg (show (4:Nat)≠15 by decide),if_neg (show (14:Nat)≠15 by decide),if_neg (show (16:Nat)≠15 by decide)] using h.x16
theorem BCore.row(h:BCore base b mb n tab tab' c word views Wr D x W) (g4:D 4=true) (g14:D 14=true) {u4 u14:Value} (e4:x 4=u4) (e14:x 14=u14):BCore base b mb n tab tab' c word views Wr (bz D 16) (cA x 16 (.slice (some ⟨W.heap.size,0,none⟩) 1 1)) (W.alloc (.cells #[.int .i64 c,u4,u14] 89)):=by
 subst e4 e14;have hb:Below W.heap.size W (W.alloc (.cells #[.int .i64 c,x 4,x 14] 89)):=by go_grown
 refine⟨h.lo,h.keep.trans (.of_below _ hb (Nat.le_trans h.lo h.keep.old.size)),?_,fun e=>?_,fun e=>?_,?_,fun _=>?_⟩
 ·simpa only[bz,if_neg (show (14:Nat)≠16 by decide)] using h.bld.up hb
 ·simp only[bz,cA,if_neg (show (4:Nat)≠16 by decide)]at e ⊢
  exact(h.x4 e).up hb
 ·simp only[bz,cA,if_neg (show (14:Nat)≠16 by decide)]at e ⊢
  exact(h.x14 e).up hb
 ·simpa only[bz,cA,if_neg (show (4:Nat)≠16 by decide),if_neg (show (14:Nat)≠16 by decide),if_neg (show (15:Nat)≠16 by decide)] using h.x15
 ·simp only[bz,cA,if_neg (show (4:Nat)≠16 by decide),if_neg (show (14:Nat)≠16 by decide),if_true]
  exact⟨g4,g14,W.heap.size,rfl,ak _ _⟩
end
theorem Tryz.infoExec:(Tryz.prog.info? 89).map (fun i=>(i.zero,i.size,i.bytes))=some (some (.agg #[.int .i64 0,.slice none 0 0,.slice none 0 0]),3,56):=by kernel_rfl
theorem QJ{F:Fence} {n:Nat} {P:Program} {c:Code} {Q:Exit->Act->World->Prop} {a:Act} {W:World} (I:World->Prop) (h:I W) (k:∀ W0,I W0->c.wpIn F n P Q a W0):c.wpIn F n P Q a W:=k W h
theorem BInv.up{p:Pb} {uc us:Value} {wd:World} {Bs Bb b mb:Nat} {tab:List Vw} {ex:List Ex} {W W':World} (h:BInv p uc us wd Bs Bb b mb tab ex W) (hb:Below W.heap.size W W'):BInv p uc us wd Bs Bb b mb tab ex W':=by
 obtain⟨ve,xs,h1,h2,h3⟩:=h.s;exact⟨ae h.old hb,h.lo,af hb h.bx,⟨ve,xs,af hb h1,h2.up hb,fun i hi=>by obtain⟨a,d,p1,p2,p3,p4,p5⟩:=h3 i hi;exact⟨a,d,p1,p2,p3,p4.up hb,p5.up hb⟩⟩,h.bld.up hb⟩
end Go.Proofs.YtmeaoneaephjeaaGreatDoor
namespace Go.Proofs.YtmeaoneaephjeaaGreatDoor
open Go.RowKit Go Go.Shelf
theorem xW{w:World} {base:Nat} {v:Value} {l:List Vw} (h:aD w base 190 8 v l.length (eI l)) (hx:∀ u∈l,jF u) (hn:l.length<=17592186044416):mu w v l:=by
 have aP:=fun i (hi:i<l.length) j (u:Value) (hj:j<8) (hu:l[i].c[j]?=some u)=>h.cell (i * 8+j) u (by unfold eI;rw[ox Vw.c 8 (fun _=>rfl) l i j hi hj];exact hu)
 rcases h.2 with ⟨hz,h0⟩|⟨g,cap,cur,fz,rfl,_,hg,_,kq,iT,_⟩
 ·refine⟨none,0,by rw[hz,h0],⟨by omega,by omega,fun _=>rfl⟩,hn,fun i x hi=>?_⟩
  have:=(List.getElem?_eq_some_iff.1 hi).1;omega
 ·refine⟨some ⟨g,0,none⟩,cap,rfl,⟨kq,by simp only[maxLen]at iT;omega,fun e=>by cases e⟩,hn,fun i x hi=>⟨g,0,rfl,?_⟩⟩
  obtain⟨gN,rfl⟩:=List.getElem?_eq_some_iff.1 hi;obtain⟨r0,r1,r2,r3,r4,r5,r6,r7⟩:=hx _ (List.getElem_mem gN)
  have key:∀ j u,j<8->l[i].c[j]?=some u->w.cell? ⟨g,0+i * 8+j,none⟩=some u:=fun j u hj hu=>by
   obtain⟨g',c',e1,e2⟩:=aP i gN j u hj hu;have:g=g':=by simp at e1;exact e1.1
   rw[this,Nat.zero_add];exact e2
  exact⟨⟨key 0 _ (by omega) rfl,r0⟩,⟨key 1 _ (by omega) rfl,r1⟩,⟨key 2 _ (by omega) rfl,r2⟩,⟨key 3 _ (by omega) rfl,r3⟩,⟨key 4 _ (by omega) rfl,r4⟩,⟨key 5 _ (by omega) rfl,r5⟩,⟨key 6 _ (by omega) rfl,r6⟩,⟨key 7 _ (by omega) rfl,r7⟩⟩
structure ExGood (x:Ex):Prop where
 c:bI x.c
 word:x.word.length<=6/\∀ r∈x.word,oH r
 views:x.views.length<=7/\(∀ row∈x.views,row.length<=5)/\∀ row∈x.views,∀ z∈row,bI z
theorem Kj{w:World} {base:Nat} {v:Value} {l:List Ex} {xs:List Value} (h:aD w base 89 3 v l.length xs) (hx:∀ i (hi:i<l.length),zp w base xs i l[i]) (hg:∀ x∈l,ExGood x) (hn:l.length<=17592186044416):zm w v l:=by
 have aP:=fun j (u:Value) (hu:xs[j]?=some u)=>h.cell j u hu
 rcases h.2 with ⟨hz,h0⟩|⟨g,cap,cur,fz,rfl,_,mQ,_,kq,iT,_⟩
 ·refine⟨none,0,by rw[hz,h0],⟨by omega,by omega,fun _=>rfl⟩,hn,fun i x hi=>?_⟩
  have:=(List.getElem?_eq_some_iff.1 hi).1;omega
 ·refine⟨some ⟨g,0,none⟩,cap,rfl,⟨kq,by simp only[maxLen]at iT;omega,fun e=>by cases e⟩,hn,fun i x hi=>⟨g,0,rfl,?_⟩⟩
  obtain⟨gN,rfl⟩:=List.getElem?_eq_some_iff.1 hi;obtain⟨a,b,p1,p2,p3,p4,p5⟩:=hx i gN;have k9:=hg _ (List.getElem_mem gN)
  have key:∀ j u,xs[i * 3+j]?=some u->w.cell? ⟨g,0+i * 3+j,none⟩=some u:=fun j u hu=>by
   obtain⟨g',c',e1,e2⟩:=aP _ u hu;have:g=g':=by simp at e1;exact e1.1
   rw[this,Nat.zero_add];exact e2
  refine⟨⟨key 0 _ p1,k9.c⟩,⟨a,key 1 _ p2,qW p4 (fun i hi=>k9.word.2 _ (List.getElem_mem hi)) (by have:=k9.word.1;omega)⟩,⟨b,key 2 _ p3,m8 p5 k9.views.2.2 (by have:=k9.views.1;omega) (fun x hx=>by have:=k9.views.2.1 x hx;omega)⟩⟩
theorem tp(n:Nat) (inp:List Int) (word:List Rd) (tb:List Vw):∀ k,∀ row∈(playTo n inp word tb k).2,row.length=n
 | 0=>fun row hr=>by
  have h:=(ik n inp word tb 0).2.1;have e:(playTo n inp word tb 0).2=[(ug n inp tb).2]:=rfl;rw[e]at hr h;rw[List.mem_singleton]at hr;subst hr;exact h
 | k+1=>fun row hr=>by
  have h:=(ik n inp word tb (k+1)).2.1;have e:(playTo n inp word tb (k+1)).2=(playTo n inp word tb k).2++[(addAll (playTo n inp word tb k).1 (fw n k (word.getD k default) ((playTo n inp word tb k).2.getLastD []))).2]:=rfl;rw[e]at hr h;rw[List.getLastD_concat]at h;rcases List.mem_append.1 hr with hr|hr
  ·exact tp n inp word tb k row hr
  ·rw[List.mem_singleton]at hr
   subst hr;exact h
theorem A1{p:Pb} (h:probE p=0) (hc:∀ c∈p.t.cases,∀ y∈c.inp,bI y) (hw:∀ x∈aI p,∀ r∈x,oH r) (ht:(execsS p (aI p) (fo p)).1.length<=8192):∀ i,i<=p.t.cases.length * (aI p).length->(∀ v∈(stP p i).1,jF v)/\∀ x∈(stP p i).2,ExGood x
 | 0,_=>⟨fun v hv=>by simp[stP,execsS]at hv,fun x hx=>by simp[stP,execsS]at hx⟩
 | i+1,hi=>by
  obtain⟨h1,h2⟩:=A1 h hc hw ht i (by omega);obtain⟨mP,_,_,ro,pL⟩:=go h;obtain⟨⟨_,ic⟩,_,_,⟨_,bU⟩,gg⟩:=eX mP;have lu:(stP p i).1.length<=8192:=Nat.le_trans (wE p (aI p) (fo p) i) ht;have az:i<p.t.cases.length * (aI p).length:=by omega
  have lS:0<(aI p).length:=by
   rcases Nat.eq_zero_or_pos (aI p).length with h|h
   ·rw[h]at az;simp at az
   ·exact h
  have hci:i / (aI p).length<p.t.cases.length:=by rw[Nat.div_lt_iff_lt_mul lS];exact az
  have hj:i % (aI p).length<(aI p).length:=Nat.mod_lt _ lS;have dT:=vT p i az;unfold jS at dT;dsimp only at dT;rw[ap default hci,ap [] hj]at dT
  have Xk:((aI p)[i % (aI p).length]).length<=6:=by
   have:=jR p.a p.rounds.toNat 0 _ (List.getElem_mem (l:=aI p) hj);omega
  have cP:=xV p.t.n.toNat (by omega) (p.t.cases[i / (aI p).length]).inp (hc _ (List.getElem_mem hci)) (aI p)[i % (aI p).length] (stP p i).1 h1 _ Xk (by omega);have hrows:=tp p.t.n.toNat (p.t.cases[i / (aI p).length]).inp (aI p)[i % (aI p).length] (stP p i).1 ((aI p)[i % (aI p).length]).length;have cK:=(ik p.t.n.toNat (p.t.cases[i / (aI p).length]).inp (aI p)[i % (aI p).length] (stP p i).1 ((aI p)[i % (aI p).length]).length).1;rw[dT];refine⟨cP.1,fun x hx=>?_⟩;rcases List.mem_append.1 hx with hx|hx
  ·exact h2 x hx
  ·rw[List.mem_singleton]at hx
   subst hx;exact⟨uu _ (by omega),⟨Xk,hw _ (List.getElem_mem hj)⟩,by simp only[gi];omega,fun row hr=>by have:=hrows row hr;omega,fun row hr z hz=>by have:=cP.2 row hr z hz;exact⟨by omega,by omega⟩⟩
theorem N8(a b:Rd) (w:World):(binOp .neq 141 a.v b.v).run Tryz.prog w=.ok (.bool (!decide (a=b))) w:=by
 rw[run_neq_struct,Dj 9996];rfl
theorem eW{α:Type} [DecidableEq α] {a b:List α} (d:α) (hl:a.length=b.length) (h:∀ j,j<a.length->a.getD j d=b.getD j d):a=b:=
 List.ext_getElem hl fun i h1 h2=>by
  have:=h i h1
  rwa [ap d h1,ap d h2]at this
theorem BW(va vb:Value) (a b:List Rd) (w:World) (ha:ka w va a) (hb:ka w vb b) :
  Calls Tryz.prog 167 #[va,vb] w fun e w'=>e=.returned (.bool (decide (a=b)))/\Below w.heap.size w w':=by
 obtain⟨pa,ca,rfl,la1,la2,ea⟩:=ha.at;obtain⟨pb,cb,rfl,lb1,lb2,eb⟩:=hb.at;clear ha hb;have EA:=aa ea;clear ea;have EB:=aa eb;clear eb;generalize nH:decide (a=b)=res;have jt:=aa nH;clear nH;by_cases hl:a.length=b.length
 case neg=>
  have gt:((a.length:Int) != (b.length:Int))=true:=by simp;omega
  have HR:Hid (res=false):=by(have h:res=false:=by(rw[<-jt.out];simp;intro h;exact hl (by rw[h])));exact h
  clear hl
  go_enter Tryz.func167,Tryz.ntmps167
  go_wp2
  go_ret
  exact⟨aN HR.out.symm,Below.refl _ _⟩
 have gt:((a.length:Int) != (b.length:Int))=false:=by simp[hl]
 have HL:=aa hl;clear hl
 go_enter Tryz.func167,Tryz.ntmps167
 go_wp2
 clear gt
 go_loopw [13] (fun i wr=>Below w.heap.size w wr/\∃ k:Nat,k<=a.length/\i=.int .i64 k/\∀ j,j<k->a.getD j default=b.getD j default) (fun i _=>a.length - (intOf i).toNat)
 case atStart=>exact⟨Below.refl _ _,0,by omega,rfl,by simp⟩
 case round=>
  obtain⟨aq,k,hk,rfl,aS⟩:=hrel;have H:=aa aS;clear aS;by_cases az:k<a.length
  ·have iO:k<b.length:=by have:=HL.out;omega
   obtain⟨b1,o1,rfl,⟨c0,r0⟩,⟨c1,r1⟩,⟨c2,r2⟩,⟨c3,r3⟩,⟨c4,r4⟩,⟨c5,r5⟩,⟨c6,r6⟩⟩:=EA.out k az;obtain⟨b2,o2,rfl,⟨e0,s0⟩,⟨e1,s1⟩,⟨e2,s2⟩,⟨e3,s3⟩,⟨e4,s4⟩,⟨e5,s5⟩,⟨e6,s6⟩⟩:=EB.out k iO;have c0':∀ y:ExtW wr,y.val.cell? ⟨b1,o1+k * 7,none⟩=_:=fun y=>y.cell (ai aq c0)
   have c1':∀ y:ExtW wr,y.val.cell? ⟨b1,o1+k * 7+1,none⟩=_:=fun y=>y.cell (ai aq c1)
   have c2':∀ y:ExtW wr,y.val.cell? ⟨b1,o1+k * 7+2,none⟩=_:=fun y=>y.cell (ai aq c2)
   have c3':∀ y:ExtW wr,y.val.cell? ⟨b1,o1+k * 7+3,none⟩=_:=fun y=>y.cell (ai aq c3)
   have c4':∀ y:ExtW wr,y.val.cell? ⟨b1,o1+k * 7+4,none⟩=_:=fun y=>y.cell (ai aq c4)
   have c5':∀ y:ExtW wr,y.val.cell? ⟨b1,o1+k * 7+5,none⟩=_:=fun y=>y.cell (ai aq c5)
   have c6':∀ y:ExtW wr,y.val.cell? ⟨b1,o1+k * 7+6,none⟩=_:=fun y=>y.cell (ai aq c6)
   have e0':∀ y:ExtW wr,y.val.cell? ⟨b2,o2+k * 7,none⟩=_:=fun y=>y.cell (ai aq e0)
   have e1':∀ y:ExtW wr,y.val.cell? ⟨b2,o2+k * 7+1,none⟩=_:=fun y=>y.cell (ai aq e1)
   have e2':∀ y:ExtW wr,y.val.cell? ⟨b2,o2+k * 7+2,none⟩=_:=fun y=>y.cell (ai aq e2)
   have e3':∀ y:ExtW wr,y.val.cell? ⟨b2,o2+k * 7+3,none⟩=_:=fun y=>y.cell (ai aq e3)
   have e4':∀ y:ExtW wr,y.val.cell? ⟨b2,o2+k * 7+4,none⟩=_:=fun y=>y.cell (ai aq e4)
   have e5':∀ y:ExtW wr,y.val.cell? ⟨b2,o2+k * 7+5,none⟩=_:=fun y=>y.cell (ai aq e5)
   have e6':∀ y:ExtW wr,y.val.cell? ⟨b2,o2+k * 7+6,none⟩=_:=fun y=>y.cell (ai aq e6)
   have HX:=aa (ap default az);have HY:=aa (ap default iO);clear c0 r0 e0 s0 c1 r1 e1 s1 c2 r2 e2 s2 c3 r3 e3 s3 c4 r4 e4 s4 c5 r5 e5 s5 c6 r6 e6 s6;generalize a[k]=x at c0' c1' c2' c3' c4' c5' c6' HX;generalize b[k]=y at e0' e1' e2' e3' e4' e5' e6' HY;have bM:=fun w=>N8 x y w
   go_wp2
   by_cases cO:x=y
   ·have hd:decide (x=y)=true:=by simpa using cO
    have nA:Hid (a.getD k default=b.getD k default):=by(have h:a.getD k default=b.getD k default:=by(rw[HX.out,HY.out,cO]));exact h
    rw[hd]at bM;clear cO hd;refine aB (by kernel_rfl) (by kernel_rfl) ?_
    repeat (go_big_quiet_step (fail))
    refine wpQuiet_nil ?_;intro _ dY;obtain⟨xq,cZ⟩:=dY;subst cZ;clear c0' c1' c2' c3' c4' c5' c6' e0' e1' e2' e3' e4' e5' e6' bM
    go_wp2
    go_roundw
    case rel=>exact⟨ae aq xq.ext,k+1,by omega,by go_num,aT H.out nA.out⟩
    case measure=>simp[intOf];omega
   ·have hd:decide (x=y)=false:=by simpa using cO
    have HR:Hid (res=false):=by(have h:res=false:=by(rw[<-jt.out];simp;intro h;subst h;rw[HX.out]at HY;exact cO HY.out));exact h
    rw[hd]at bM;clear cO hd;refine aB (by kernel_rfl) (by kernel_rfl) ?_
    repeat (go_big_quiet_step (fail))
    refine wpQuiet_nil ?_;intro _ dY;obtain⟨xq,cZ⟩:=dY;subst cZ;clear c0' c1' c2' c3' c4' c5' c6' e0' e1' e2' e3' e4' e5' e6' bM
    go_wp2
    go_ret
    exact⟨aN HR.out.symm,ae aq xq.ext⟩
  ·have HR:Hid (res=true):=by(have h:res=true:=by(rw[<-jt.out];simp;exact eW default HL.out fun j hj=>H.out j (by omega)));exact h
   go_wp2
   go_ret
   exact⟨aN HR.out.symm,aq⟩
end Go.Proofs.YtmeaoneaephjeaaGreatDoor
namespace Go.Proofs.YtmeaoneaephjeaaGreatDoor
def Dz(r:Rd):List Rd->List Rd
 | []=>[r]
 | x :: l=>if roundC r x<0 then r :: x :: l else if roundC r x=0 then x :: l else x :: Dz r l
def A2(a:Adv):List Rd:=(a.states.flatMap fun l=>l.map (·.r)).foldr Dz []
theorem QK(a:List Int):∀ b,ordV a b=0↔a=b:=by
 induction a with
 | nil=>intro b;cases b<;>simp[ordV]
 | cons x r ih=>
  intro b;cases b with
  | nil=>simp[ordV]
  | cons y s=>
   rw[ordV];have:=ih s;rw[List.cons.injEq]
   grind
theorem QL{a b:Rd} (h:a.list=b.list):a=b:=by
 obtain⟨⟨_,_,_,_,_,_⟩,_⟩:=a;obtain⟨⟨_,_,_,_,_,_⟩,_⟩:=b;simp[Rd.list]at h;simp[h]
theorem LO(a b:Rd):roundC a b=0↔a=b:=by
 rw[JB,QK];exact⟨QL,fun h=>by rw[h]⟩
theorem QM(r x:Rd) (l:List Rd):x∈Dz r l↔x=r\/x∈l:=by
 induction l with
 | nil=>simp[Dz]
 | cons y l ih=>
  unfold Dz;by_cases h1:roundC r y<0
  ·simp[h1]
  ·by_cases h2:roundC r y=0
   ·have:=(LO r y).1 h2
    subst this;simp[h2]
   ·simp only[if_neg h1,if_neg h2,List.mem_cons,ih]
    grind
theorem Aa(a:Adv) (x:Rd):x∈A2 a↔∃ l∈a.states,∃ m∈l,m.r=x:=by
 unfold A2
 have key:∀ l:List Rd,x∈l.foldr Dz []↔x∈l:=by
  intro l;induction l with
  | nil=>simp
  | cons y l ih=>rw[List.foldr_cons,QM,ih,List.mem_cons]
 rw[key];simp
structure OkR (n:Int) (r:Rd):Prop where
 gn:r.g.n=n
 h:∀ q,q<5->0<=r.g.hear q/\r.g.hear q<32
 z:∀ q:Nat,n<=q->q<5->r.g.hear q=0
 n1:1<=n/\n<=5
 f:0<=r.f/\r.f<32
theorem QN{g:Gr} (h:gH g=0):(∀ q,q<5->0<=g.hear q/\g.hear q<32)/\(∀ q:Nat,g.n<=q->q<5->g.hear q=0)/\1<=g.n/\g.n<=5:=by
 unfold gH at h;split at h
 ·omega
 rename_i h1;have h2:=eV h;have hn:g.n=1\/g.n=2\/g.n=3\/g.n=4\/g.n=5:=by omega
 have key:∀ q,q<5->(0<=g.hear q/\g.hear q<32)/\(g.n<=(q:Int)->g.hear q=0):=fun q hq=>by
  have h3:=h2 q hq;unfold lY at h3;split at h3
  ·split at h3
   ·omega
   ·rename_i h4
    exact⟨by omega,fun _=>by omega⟩
  ·split at h3
   ·omega
   ·rename_i h4 h5
    refine⟨?_,fun e=>absurd e h4⟩;rcases hn with e|e|e|e|e<;>rw[e]at h5<;>simp at h5<;>omega
 exact⟨fun q hq=>(key q hq).1,fun q hn hq=>(key q hq).2 hn,by omega,by omega⟩
theorem N9{a:Adv} (ha:advE a=0) {r:Rd} (h:r∈A2 a):OkR a.n r:=by
 obtain⟨l,hl,m,hm,rfl⟩:=(Aa a r).1 h;obtain⟨s,hs,rfl⟩:=List.getElem_of_mem hl;obtain⟨j,hj,rfl⟩:=List.getElem_of_mem hm;have h1:=(hH ha).2.1 s hs;rw[show a.states.getD s []=a.states[s] by simp[hs]]at h1;unfold stateE at h1;rw[if_neg (by omega)]at h1;have h2:=eV h1 j hj;have hf:=(Dg h2).1;unfold dG at h2;rw[show a.states[s].getD j default=a.states[s][j] by simp[hj]]at h2 hf;split at h2
 ·rename_i h3;exact absurd h2 h3
 rename_i h3;split at h2
 ·omega
 rename_i h4;have h5:roundE a.states[s][j].r=0:=by simpa using h3
 unfold roundE at h5;split at h5
 ·rename_i h6;exact absurd h5 h6
 rename_i h6;obtain⟨g1,g2,g3,g4⟩:=QN (by simpa using h6);have hn:a.states[s][j].r.g.n=a.n:=by simpa using h4
 rw[hn]at g2 g3 g4;exact⟨hn,g1,g2,⟨g3,g4⟩,hf⟩
end Go.Proofs.YtmeaoneaephjeaaGreatDoor
namespace Go.Proofs.YtmeaoneaephjeaaGreatDoor
open Go.RowKit Go Go.Shelf
section
variable {P : Program} (w : World)
theorem G0(base:Nat) (t ty e:TypeId) (i:TypeInfo) (z:Value) (size bytes:Nat) (ht:P.underlying t=some (.slice e)) (hi:P.info? e=some i) (hz:i.zero=some z)
  (eJ:i.size=size) (gw:i.bytes=bytes) (rm:z.cells.size=size) (eK:0<size)
  (v:Value) (n:Nat) (xs:List Value) (aX:aD w base e size v n xs)
  (u:Value) (m:Nat) (news:List Value) (hu:gh w size u m news)
  (nX:n+m<=maxLen) (gl:(n+m) * bytes<=140737488355328) (l7:base<=w.heap.size) :
  ∃ v' w',(Builtin.append_ #[t,t] ty #[v,u]).run P w=.ok v' w'/\aD w' base e size v' (n+m) (xs++news)/\w.grownBy w' v.ownBlock/\(v'.ownBlock=v.ownBlock\/v'.ownBlock=some w.heap.size):=by
 obtain⟨a,cap,rfl,jH,cK,hc,h1⟩:=hu;cases a with
 | some ad=>
  refine qV w base t ty e i z size bytes ht hi hz eJ gw rm eK v n xs aX ad m cap news cK (fun j u hj=>?_) h1 nX gl l7;obtain⟨b,o,e1,eB⟩:=hc j u hj;cases e1;have:(Addr.add ⟨b,o,none⟩ j)=⟨b,o+j,none⟩:=by unfold Addr.add;split<;>simp_all
  rw[this];exact eB
 | none=>
  obtain⟨rfl,rfl⟩:=jH rfl;have hn:news=[]:=List.eq_nil_of_length_eq_zero (by simpa using cK);subst hn;refine⟨v,w,?_,by simpa using aX,⟨rfl,rfl,rfl,Nat.le_refl _,fun _ _ _=>rfl⟩,.inl rfl⟩;rcases aX.2 with ⟨rfl,rfl⟩|⟨g,cp,cur,fz,rfl,_,_,_,jO,_⟩
  ·simp[Builtin.append_,run_underlying ht,sizeOf,typeInfo,hi,Builtin.lenOf,Builtin.firstCells]
  ·simp[Builtin.append_,run_underlying ht,sizeOf,typeInfo,hi,Builtin.lenOf,Builtin.firstCells,jO,storeCells]
theorem fi{ops:Array Oper} {rest:List Oper} {o:Oper} {a:Act} {Q:Exit->Act->World->Prop} (k9:o.guard=none) (s x:Operand) (t:TypeId)
  (ho:o.op=.call { callee:=.builtin .append,args:=#[s,x],argTypes:=#[t,t] })
  (base:Nat) (e:TypeId) (i:TypeInfo) (z:Value) (size bytes:Nat) (ht:P.underlying t=some (.slice e)) (hi:P.info? e=some i) (hz:i.zero=some z)
  (eJ:i.size=size) (gw:i.bytes=bytes) (rm:z.cells.size=size) (eK:0<size)
  (v:Value) (n:Nat) (xs:List Value) (hs:a.eval s=v) (aX:aD w base e size v n xs)
  (u:Value) (m:Nat) (news:List Value) (hx:a.eval x=u) (hu:gh w size u m news)
  (nX:n+m<=maxLen) (gl:(n+m) * bytes<=140737488355328) (l7:base<=w.heap.size)
  (h:∀ v' w',aD w' base e size v' (n+m) (xs++news)->w.grownBy w' v.ownBlock->(v'.ownBlock=v.ownBlock\/v'.ownBlock=some w.heap.size)->wpList P ops Q rest (a.put o.dst v') w'):wpList P ops Q (o :: rest) a w:=by
 refine wpList_plain k9 fun _ hK=>?_
 obtain⟨v',w',hr,h2,h3,h4⟩:=G0 (P:=P) w base t o.type e i z size bytes ht hi hz eJ gw rm eK v n xs aX u m news hu nX gl l7;unfold Oper.wp execOp;simp only[ho,resolve,invoke,builtin,Sem.run_bind,Sem.run_pure,Result.andThen_ok,List.map_toArray,List.map_cons,List.map_nil,hs,hx,hr];exact hK _ _ (h v' w' h2 h3 h4)
end
theorem lh(va vb:Value) (a b:List Int) (w:World) (ha:aY w va a) (hb:aY w vb b) :
  Calls Tryz.prog 132 #[va,vb] w fun e w'=>e=.returned (.int .i64 (ordV a b))/\Below w.heap.size w w':=by
 obtain⟨pa,ca,rfl,la1,la2,ea⟩:=ha.at;obtain⟨pb,cb,rfl,lb1,lb2,eb⟩:=hb.at;clear ha hb;have EA:=aa ea;clear ea;have EB:=aa eb;clear eb
 go_enter Tryz.func132,Tryz.ntmps132
 go_wp2
 go_loopw [5] (fun i wr=>Below w.heap.size w wr/\∃ k:Nat,k<=a.length/\k<=b.length/\i=.int .i64 k/\ordV a b=ordV (a.drop k) (b.drop k)) (fun i _=>a.length - (intOf i).toNat)
 case atStart=>exact⟨Below.refl _ _,0,by omega,by omega,rfl,by simp⟩
 case round=>
  obtain⟨aq,k,hk,ku,rfl,aS⟩:=hrel;have H:=aa aS;clear aS;by_cases az:k<a.length
  ·by_cases iO:k<b.length
   ·obtain⟨b1,o1,rfl,h1⟩:=EA.out k az
    obtain⟨x,hx⟩:∃ x,x=a[k]:=⟨_,rfl⟩;rw[<-hx,Nat.mul_one]at h1;obtain⟨b2,o2,rfl,h2⟩:=EB.out k iO;obtain⟨y,hy⟩:∃ y,y=b[k]:=⟨_,rfl⟩;rw[<-hy,Nat.mul_one]at h2;have c1:∀ n,(wr.drewN n).cell? ⟨b1,o1+k,none⟩=some (.int .i64 x):=fun n=>ai aq h1.1
    have c2:∀ n,(wr.drewN n).cell? ⟨b2,o2+k,none⟩=some (.int .i64 y):=fun n=>ai aq h2.1
    have HS:=Eg az iO H.out;rw[<-hx,<-hy]at HS;have KU:=aa HS;clear HS hx hy h1 h2;rcases Int.lt_trichotomy x y with hn|hn|hn
    ·go_wp2
     go_quiet (fail)
     go_wp2
     go_ret
     refine⟨aA ?_,dZ aq _⟩;rw[KU.out];unfold cmpI;grind
    ·have h1:¬ x<y:=by omega
     have h2:¬ y<x:=by omega
     have HN:=aa hn;clear hn
     go_wp2
     go_quiet (fail)
     go_wp2
     have c3:∀ m n,((wr.drewN m).drewN n).cell? ⟨b1,o1+k,none⟩=some (.int .i64 x):=fun m n=>c1 m
     have c4:∀ m n,((wr.drewN m).drewN n).cell? ⟨b2,o2+k,none⟩=some (.int .i64 y):=fun m n=>c2 m
     go_quiet (fail)
     go_wp2
     go_roundw
     case rel=>
      refine⟨dZ aq _,k+1,by omega,by omega,by go_num,?_⟩;rw[KU.out,if_pos];rw[HN.out,cmpI];simp
     case measure=>simp[intOf];omega
    ·have h1:¬ x<y:=by omega
     go_wp2
     go_quiet (fail)
     go_wp2
     have c3:∀ m n,((wr.drewN m).drewN n).cell? ⟨b1,o1+k,none⟩=some (.int .i64 x):=fun m n=>c1 m
     have c4:∀ m n,((wr.drewN m).drewN n).cell? ⟨b2,o2+k,none⟩=some (.int .i64 y):=fun m n=>c2 m
     go_quiet (fail)
     go_wp2
     go_ret
     refine⟨aA ?_,dZ (dZ aq _) _⟩;rw[KU.out];unfold cmpI;grind
   ·have HR:Hid (ordV a b=1):=by
     have h:ordV a b=1:=by rw[H.out,rF az,List.drop_of_length_le (l:=b) (by omega)];rfl
     exact h
    have h3:¬ a.length<b.length:=by omega
    have h4:b.length<a.length:=by omega
    go_wp2
    go_ret
    exact⟨aA HR.out.symm,aq⟩
  ·have HR:Hid (ordV a b=if a.length<b.length then -1 else 0):=by
    have h:ordV a b=if a.length<b.length then -1 else 0:=by
     rw[H.out,List.drop_of_length_le (by omega),wo,List.length_drop]
     grind
    exact h
   have h3:¬ b.length<a.length:=by omega
   by_cases h4:a.length<b.length
   ·go_wp2
    go_ret
    refine⟨aA ?_,aq⟩;rw[HR.out,if_pos h4]
   ·go_wp2
    go_ret
    refine⟨aA ?_,aq⟩;rw[HR.out,if_neg (by omega)]
theorem G7(a b:List Int):(ordV a b == 0)=eqV a b:=by
 unfold eqV;by_cases h:a=b
 ·subst h;simp[rG]
 ·simp[h]
  intro h1;exact h (Nb h1)
theorem Ez(vl vv:Value) (l:List (List Int)) (v:List Int) (w:World) (hl:dR w vl l) (hv:aY w vv v) :
  Calls Tryz.prog 81 #[vl,vv] w fun e w'=>e=.returned (.bool (hasV l v))/\Below w.heap.size w w':=by
 obtain⟨pa,ca,rfl,la1,la2,ea⟩:=hl.at;have HV:=aa hv;obtain⟨pv,cv,rfl,_⟩:=hv;clear hl;have EA:=aa ea;clear ea;have HD:Hid (hasV l v=anyLt l.length fun i=>eqV (l.getD i []) v):=by exact rfl
 go_enter Tryz.func81,Tryz.ntmps81
 go_wp2
 go_loopw [5] (fun i wr=>Below w.heap.size w wr/\∃ k:Nat,k<=l.length/\i=.int .i64 k/\∀ j,j<k->eqV (l.getD j []) v=false) (fun i _=>l.length - (intOf i).toNat)
 case atStart=>exact⟨Below.refl _ _,0,by omega,rfl,by simp⟩
 case round=>
  obtain⟨aq,k,hk,rfl,aS⟩:=hrel;have H:=aa aS;clear aS;by_cases az:k<l.length
  ·obtain⟨b1,o1,rfl,x,cx,hx⟩:=EA.out k az
   rw[Nat.mul_one]at cx;have c1:=ai aq cx;have HX:=aa (hx.up up_int aq);obtain⟨px,qx,rfl,_⟩:=hx;have he:=G7 l[k] v;rw[show eqV l[k] v=eqV (l.getD k []) v by rw[ap [] az]]at he;have HC:=aa (lh _ _ l[k] v wr HX.out (HV.out.up up_int aq));clear cx;generalize ordV l[k] v=r at he HC;cases hp:eqV (l.getD k []) v with
   | true=>
    rw[hp]at he;have HP:=aa hp;clear hp
    go_wp2_with fail
    refine HC.out.mono ?_;rintro e w1 ⟨rfl,aG⟩
    go_wp2_with fail
    go_ret
    exact⟨aN (by rw[HD.out,dV _ k _ az HP.out]),ae aq aG⟩
   | false=>
    rw[hp]at he;have HP:=aa hp;clear hp
    go_wp2_with fail
    refine HC.out.mono ?_;rintro e w1 ⟨rfl,aG⟩
    go_wp2_with fail
    go_roundw
    case rel=>exact⟨ae aq aG,k+1,by omega,by go_num,aT H.out HP.out⟩
    case measure=>simp[intOf];omega
  ·go_wp2
   go_ret
   exact⟨aN (by rw[HD.out,eD];intro j hj;exact H.out j (by omega)),aq⟩
theorem Ab(v:Value) (l:List Int) (n most:Int) (w:World) (hv:aY w v l) :
  Calls Tryz.prog 185 #[v,.int .i64 n,.int .i64 most] w fun e w'=>e=.returned (.int .i64 (vectorE l n most))/\w=w':=by
 obtain⟨pa,ca,rfl,la1,la2,ea⟩:=hv.at;clear hv;have EA:=aa ea;clear ea;by_cases hl:(l.length:Int)=n
 ·have HV:Hid (vectorE l n most=if anyLt l.length (fun i=>decide (l.getD i 0<0) || decide (most<=l.getD i 0)) then 2 else 0):=by
   have h:vectorE l n most=if anyLt l.length (fun i=>decide (l.getD i 0<0) || decide (most<=l.getD i 0)) then 2 else 0:=by unfold vectorE;rw[if_neg (by simpa using hl)]
   exact h
  subst hl
  go_enter Tryz.func185,Tryz.ntmps185
  go_wp2
  go_loop [7] (fun i=>∃ k:Nat,k<=l.length/\i=.int .i64 k/\∀ j,j<k->(decide (l.getD j 0<0) || decide (most<=l.getD j 0))=false) (fun i=>l.length - (intOf i).toNat)
  case atStart=>exact⟨0,by omega,rfl,by simp⟩
  case round=>
   obtain⟨k,hk,rfl,aS⟩:=hrel;have H:=aa aS;clear aS;by_cases az:k<l.length
   ·obtain⟨b1,o1,rfl,h1⟩:=EA.out k az
    have HX:=aa (ap 0 az);rw[Nat.mul_one]at h1;have c1:=h1.1;generalize l[k]=x at c1 HX;clear h1
    go_wp2
    all_goals first
     | (go_ret
        refine⟨aA ?_,rfl⟩
        rw[HV.out,dV _ k _ az (by rw[HX.out];go_light;simp;omega)]
        rfl)
     | (go_round
        case rel=>
         refine⟨k+1,by omega,by go_num,aT H.out ?_⟩
         rw[HX.out]
         go_light
         simp;omega
        case measure=>simp[intOf];omega)
   ·go_wp2
    go_ret
    exact⟨aA (by rw[HV.out,eD];rfl;intro j hj;exact H.out j (by omega)),rfl⟩
 ·have HV:Hid (vectorE l n most=15):=by(have h:vectorE l n most=15:=by(unfold vectorE;rw[if_pos hl]));exact h
  have gt:((l.length:Int) != n)=true:=by simpa using hl
  clear hl
  go_enter Tryz.func185,Tryz.ntmps185
  go_wp2
  go_ret
  exact⟨aA HV.out.symm,rfl⟩
end Go.Proofs.YtmeaoneaephjeaaGreatDoor
