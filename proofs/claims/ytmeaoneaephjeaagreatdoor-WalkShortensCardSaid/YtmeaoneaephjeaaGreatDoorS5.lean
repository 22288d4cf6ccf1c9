/-
  A part of the proof: lemmas and contracts that the parts behind it use. Each one's conditions are its own premises.
-/
import Derived.WalkSpells
import Derived.Shelf.Spec.TrailingZeros
import Derived.Laws.CopyOwn
import Derived.Test.YtmeaoneaephjeaaGreatDoorS4
set_option maxRecDepth 100000
set_option maxHeartbeats 8000000
set_option linter.unusedVariables false
set_option linter.unusedSimpArgs false
namespace Go.Proofs.YtmeaoneaephjeaaGreatDoor
open Go.RowKit Go Go.Shelf
theorem pH{α:Type} (c:α->Array Value) (k:Nat) (hc:∀ x,(c x).size=k) (xs:List α) (i j:Nat) (hi:i<xs.length) (hj:j<k):(xs.flatMap fun x=>(c x).toList)[i * k+j]?=(c xs[i])[j]?:=by
 induction xs generalizing i with
 | nil=>simp at hi
 | cons x r ih=>
  rw[List.flatMap_cons];have hx:(c x).toList.length=k:=by rw[Array.length_toList,hc]
  cases i with
  | zero=>
   rw[List.getElem?_append_left (by omega)];simp
  | succ i=>
   rw[List.getElem?_append_right (by rw[hx,Nat.succ_mul];omega)];have:=ih i (by simpa using hi);simp only[List.getElem_cons_succ];rw[<-this,hx];congr 1;rw[Nat.succ_mul];omega
def cZ(xs:List Rd):List Value:=xs.flatMap fun r=>r.c.toList
theorem xR(xs:List Rd):(cZ xs).length=xs.length * 7:=by
 unfold cZ;induction xs with
 | nil=>rfl
 | cons x r ih=>rw[List.flatMap_cons,List.length_append,ih];simp;omega
theorem sE(xs:List Rd):∀ u∈cZ xs,u.oneCell'=true:=by
 intro u hu;unfold cZ at hu;rw[List.mem_flatMap]at hu;obtain⟨r,_,hr⟩:=hu;simp at hr;rcases hr with rfl|rfl|rfl|rfl|rfl|rfl|rfl<;>rfl
theorem OP{w:World} {v:Value} {l:List Rd} (h:kx w v l) (j:Nat) (u:Value) (hu:(cZ l)[j]?=some u):∃ b o c,v=.slice (some ⟨b,o,none⟩) l.length c/\w.cell? ⟨b,o+j,none⟩=some u:=by
 have hj:=(List.getElem?_eq_some_iff.1 hu).1;rw[xR]at hj;obtain⟨i,s,hs,rfl⟩:∃ i s,s<7/\j=i * 7+s:=⟨j / 7,j % 7,by omega,by omega⟩;have hi:i<l.length:=by omega
 unfold cZ at hu;rw[pH Rd.c 7 (fun _=>rfl) l i s hi hs]at hu;obtain⟨a,cap,rfl,_,_,e⟩:=h.at;obtain⟨b,o,rfl,⟨c0,_⟩,⟨c1,_⟩,⟨c2,_⟩,⟨c3,_⟩,⟨c4,_⟩,⟨c5,_⟩,⟨c6,_⟩⟩:=e i hi;refine⟨b,o,cap,rfl,?_⟩;rw[<-Nat.add_assoc];rcases (show s=0\/s=1\/s=2\/s=3\/s=4\/s=5\/s=6 by omega) with rfl|rfl|rfl|rfl|rfl|rfl|rfl<;>(simp at hu;subst hu;first|exact c0|exact c1|exact c2|exact c3|exact c4|exact c5|exact c6)
theorem rC{w:World} {base:Nat} {v:Value} {l:List Rd} (h:aJ w base 141 7 v l.length (cZ l)) (hx:∀ i (hi:i<l.length),bS l[i].g.n/\bS l[i].g.h0/\bS l[i].g.h1/\bS l[i].g.h2/\bS l[i].g.h3/\bS l[i].g.h4/\bS l[i].f) (hn:l.length<=17592186044416):kx w v l:=by
 have aT:=fun i (hi:i<l.length) j (u:Value) (hj:j<7) (hu:l[i].c[j]?=some u)=>h.cell (i * 7+j) u (by unfold cZ;rw[pH Rd.c 7 (fun _=>rfl) l i j hi hj];exact hu)
 rcases h.2 with ⟨rfl,hz⟩|⟨g,cap,cur,fz,rfl,_,hg,_,kE,jc,_,_⟩
 ·refine⟨none,0,by rw[hz],⟨by omega,by omega,fun _=>rfl⟩,hn,fun i x hi=>?_⟩;have:=(List.getElem?_eq_some_iff.1 hi).1;omega
 ·refine⟨some ⟨g,0,none⟩,cap,rfl,⟨kE,by simp only[maxLen]at jc;omega,fun e=>by cases e⟩,hn,fun i x hi=>⟨g,0,rfl,?_⟩⟩;obtain⟨gX,rfl⟩:=List.getElem?_eq_some_iff.1 hi;obtain⟨r0,r1,r2,r3,r4,r5,r6⟩:=hx i gX
  have key:∀ j u,j<7->l[i].c[j]?=some u->w.cell? ⟨g,0+i * 7+j,none⟩=some u:=fun j u hj hu=>by
   obtain⟨g',c',e1,e2⟩:=aT i gX j u hj hu;have:g=g':=by simp at e1;exact e1.1
   rw[this,Nat.zero_add];exact e2
  exact⟨⟨key 0 _ (by omega) rfl,r0⟩,⟨key 1 _ (by omega) rfl,r1⟩,⟨key 2 _ (by omega) rfl,r2⟩,⟨key 3 _ (by omega) rfl,r3⟩,⟨key 4 _ (by omega) rfl,r4⟩,⟨key 5 _ (by omega) rfl,r5⟩,⟨key 6 _ (by omega) rfl,r6⟩⟩
theorem Tryz.infoRound:(Tryz.prog.info? 141).map (fun i=>(i.zero,i.size,i.bytes))=some (some (.agg #[.int .i64 0,.int .i64 0,.int .i64 0,.int .i64 0,.int .i64 0,.int .i64 0,.int .i64 0]),7,56):=by kernel_rfl
theorem km{k l:IntKind} {a b c d:Int} (h1:a=b) (h2:c=d):Ending.returned (.tuple #[.int k a,.int l c])=.returned (.tuple #[.int k b,.int l d]):=by rw[h1,h2]
abbrev nJ(p:Pb) (vc vs:Value):Value:=.agg #[.int .i64 p.t.n,.int .i64 p.t.ins,.int .i64 p.t.outs,vc,.int .i64 p.a.n,vs,.int .i64 p.rounds]
theorem Gt(p:Pb) (vc vs:Value) (w:World) (hc:bN w vc p.t.cases) (hs:bz w vs p.a.states) (hN:movesN p.a.states<1099511627776) :
  Calls Tryz.prog 190 #[nJ p vc vs] w fun e w'=>e=.returned (.int .i64 (probE p))/\Below w.heap.size w w':=by
 have GC:=aa hc;have GS:=aa hs;obtain⟨pc,cc,rfl,_⟩:=hc.at;obtain⟨ps,cs,rfl,_⟩:=hs.at;clear hc hs;have HV:am (probE p=if taskE p.t≠0 then taskE p.t else if advE p.a≠0 then advE p.a else if p.t.n≠p.a.n then 22 else if p.rounds<0\/6<p.rounds then 2 else 0):=by exact rfl
 go_enter Tryz.func190,Tryz.ntmps190
 go_wp2_with fail
 refine aQ (fun W=>Below w.heap.size w W/\W.heap[w.heap.size]?=some (.cells #[.int .i64 p.t.n,.int .i64 p.t.ins,.int .i64 p.t.outs,.slice pc p.t.cases.length cc,.int .i64 p.a.n,.slice ps p.a.states.length cs,.int .i64 p.rounds] 29)) ⟨by go_grown,ap _ _⟩ (fun W0 bd=>?_);obtain⟨aK,bK⟩:=bd;refine(qF p.t _ W0 (GC.o.up up_case aK)).mono ?_;rintro e w1 ⟨rfl,aM⟩;have gl:=ae aK aM;have eO:=af aM bK;have t1:=ab eO;generalize taskE p.t=et at HV;have dP:=aa eO;clear eO bK;by_cases oD:et=0
 case neg=>
  have NR:(et != 0)=true:=by simpa using oD
  go_wp2_with fail
  go_ret
  exact⟨aG (by rw[HV.o,if_pos oD]),gl⟩
 subst oD
 go_wp2_with fail
 refine(xQ p.a _ w1 (GS.o.up up_moves gl) hN).mono ?_;rintro e w2 ⟨rfl,aZ⟩;have kr:=ae gl aZ;have t2:=ab (af aZ dP.o);clear t1;generalize advE p.a=ea at HV;by_cases xd:ea=0
 case neg=>
  have hea':(ea != 0)=true:=by simpa using xd
  go_wp2_with fail
  go_ret
  exact⟨aG (by rw[HV.o,if_neg (by simp),if_pos xd]),kr⟩
 subst xd
 go_wp2_with fail
 all_goals
  go_ret
  refine⟨aG ?_,kr⟩;rw[HV.o]
  go_light
  grind
theorem GE(P:Program) (t:TypeId) (w:World):(Instr.makeMap t none).run P w=.ok (.map (some w.heap.size)) (w.alloc (.map #[] 0)):=rfl
def hC(f:Nat->Int) (q:Nat):Array Value:=((List.range 5).map fun j=>Value.int .i64 (if j<q then f j else 0)).toArray
theorem DP(f:Nat->Int) (q:Nat):(hC f q).size=5:=by simp[hC]
theorem Hy(f:Nat->Int) (q j:Nat) (hj:j<5):(hC f q)[j]?=some (.int .i64 (if j<q then f j else 0)):=by simp[hC,hj]
theorem VM(f:Nat->Int) (q:Nat) (hq:q<5):(hC f q).setIfInBounds q (.int .i64 (f q))=hC f (q+1):=by
 apply Array.ext_getElem?;intro j;rw[Array.getElem?_setIfInBounds];by_cases hj:j<5
 ·rw[Hy _ _ _ hj,Hy _ _ _ hj];by_cases e:q=j
  ·subst e;rw[if_pos rfl,if_pos (by rw[DP];exact hj),if_pos (by omega)]
  ·rw[if_neg e];by_cases h:j<q
   ·rw[if_pos h,if_pos (by omega)]
   ·rw[if_neg h,if_neg (by omega)]
 ·have h1:(hC f q)[j]?=none:=by rw[Array.getElem?_eq_none];rw[DP];omega
  have h2:(hC f (q+1))[j]?=none:=by rw[Array.getElem?_eq_none];rw[DP];omega
  rw[h1,h2,if_neg (by omega)]
theorem DQ(f:Nat->Int):hC f 0=#[.int .i64 0,.int .i64 0,.int .i64 0,.int .i64 0,.int .i64 0]:=rfl
theorem UU(f:Nat->Int):hC f 5=#[.int .i64 (f 0),.int .i64 (f 1),.int .i64 (f 2),.int .i64 (f 3),.int .i64 (f 4)]:=rfl
theorem J9(tmps:Array Value) (f:Func) (s:Nat) (hf:f.results=#[.cell s 137]) (B:Nat) (W:World) (x0 x1 x2 x3 x4:Int) (ty:TypeId) (h1:tmps[s]?.getD undef=.pointer (some ⟨B,0,none⟩)) (hb:W.heap[B]?=some (.cells #[.int .i64 x0,.int .i64 x1,.int .i64 x2,.int .i64 x3,.int .i64 x4] ty)) :
  (results f tmps).run Tryz.prog W=.ok (.agg #[.int .i64 x0,.int .i64 x1,.int .i64 x2,.int .i64 x3,.int .i64 x4]) W:=by
 have t1:=ab hb;simp[results,hf,go_sem,h1,t1]
def countedR(L:Int) (a:Adv) (r:Int):Int × Int:=
 if advE a≠0 then(0,advE a) else if r<0\/6<r then(0,2) else if L<numberL L a r.toNat then(0,17) else(numberL L a r.toNat,0)
theorem Ad(a:Adv) (v:Value) (r L:Int) (w:World) (hv:bz w v a.states) (hN:movesN a.states<1099511627776) (hL:0<=L) (hL2:L<=1048576) :
  Calls Tryz.prog 192 #[.agg #[.int .i64 a.n,v],.int .i64 r,.int .i64 L] w fun e w'=>e=.returned (.tuple #[.int .i64 (countedR L a r).1,.int .i64 (countedR L a r).2])/\Below w.heap.size w w':=by
 have G:=aa hv;obtain⟨pa,ca,rfl,_⟩:=hv.at;clear hv
 go_enter Tryz.func192,Tryz.ntmps192
 go_wp2_with fail
 refine aQ (fun W=>Below w.heap.size w W/\W.heap[w.heap.size]?=some (.cells #[.int .i64 a.n,.slice pa a.states.length ca] 27)) ⟨by go_grown,ap _ _⟩ (fun W0 bd=>?_);obtain⟨aK,bK⟩:=bd;refine(xQ a _ W0 (G.o.up up_moves aK) hN).mono ?_;rintro e w1 ⟨rfl,aM⟩;have jl:=ae aK aM;have eO:=af aM bK;have t1:=ab eO;have HE:=aa (show advE a=0->_ from fun h=>ik h);have HV:am (countedR L a r=if advE a≠0 then(0,advE a) else if r<0\/6<r then(0,2) else if L<numberL L a r.toNat then(0,17) else(numberL L a r.toNat,0)):=by exact rfl
 generalize advE a=ea at HE HV;have dP:=aa eO;clear eO bK;by_cases xd:ea=0
 case neg=>
  have hea':(ea != 0)=true:=by simpa using xd
  have dg:am (countedR L a r=(0,ea)):=by(have h:countedR L a r=(0,ea):=by rw[HV.o,if_pos xd]);exact h
  clear HV xd
  go_wp2_with fail
  go_ret2
  refine⟨km ?_ ?_,jl⟩<;>rw[dg.o]
 subst xd;by_cases hr:r<0\/6<r
 ·have dg:am (countedR L a r=(0,2)):=by(have h:countedR L a r=(0,2):=by rw[HV.o,if_neg (by simp),if_pos hr]);exact h
  clear HV;rcases hr with hr|hr
  ·go_wp2_with fail
   go_ret2
   refine⟨km ?_ ?_,jl⟩<;>rw[dg.o]
  ·go_wp2_with fail
   go_ret2
   refine⟨km ?_ ?_,jl⟩<;>rw[dg.o]
 obtain⟨k,rfl⟩:∃ k:Nat,r=(k:Int):=⟨r.toNat,by omega⟩;have hk:k<=6:=by omega
 rw[Int.toNat_natCast,if_neg (by simp),if_neg hr]at HV;have Ln:¬ ((k:Int)<0):=by omega
 have K5:¬ (6<(k:Int)):=by omega
 clear hr
 go_wp2_with fail
 refine(Gs a _ k L w1 (G.o.up up_moves jl) (HE.o trivial).1.1 (HE.o trivial).1.2 (HE.o trivial).2.1 hk hL hL2).mono ?_;rintro e w2 ⟨rfl,aZ⟩;have rP:=ae jl aZ;generalize numberL L a k=x at HV;by_cases hx:L<x
 ·have dg:am (countedR L a k=(0,17)):=by(have h:countedR L a k=(0,17):=by rw[HV.o,if_pos hx]);exact h
  clear HV t1
  go_wp2_with fail
  go_ret2
  refine⟨km ?_ ?_,rP⟩<;>rw[dg.o]
 ·have dg:am (countedR L a k=(x,0)):=by(have h:countedR L a k=(x,0):=by rw[HV.o,if_neg hx]);exact h
  clear HV t1
  go_wp2_with fail
  go_ret2
  refine⟨km ?_ ?_,rP⟩<;>rw[dg.o]
theorem Hz(a:Adv) (v:Value) (r:Int) (w:World) (hv:bz w v a.states) (hN:movesN a.states<1099511627776) :
  Calls Tryz.prog 191 #[.agg #[.int .i64 a.n,v],.int .i64 r] w fun e w'=>e=.returned (.tuple #[.int .i64 (countedR 1048576 a r).1,.int .i64 (countedR 1048576 a r).2])/\Below w.heap.size w w':=by
 have G:=aa hv;obtain⟨pa,ca,rfl,_⟩:=hv.at;clear hv
 go_enter Tryz.func191,Tryz.ntmps191
 go_wp2_with fail
 refine aQ (fun W=>Below w.heap.size w W) (by go_grown) (fun W0 aK=>?_);refine(Ad a _ r 1048576 W0 (G.o.up up_moves aK) hN (by omega) (by omega)).mono ?_;rintro e w1 ⟨rfl,aM⟩
 go_wp2_with fail
 go_ret2
 exact⟨rfl,ae aK aM⟩
theorem E9(a b:List Rd):cZ (a++b)=cZ a++cZ b:=by simp[cZ]
theorem uH(v:Value) (l:List Int) (w:World) (hv:aX w v l) (hn:l.length<=1099511627776) :
  Calls Tryz.prog 195 #[v] w fun e w'=>∃ u,e=.returned u/\aJ w' w.heap.size 3 1 u l.length (l.map (Value.int .i64))/\Below w.heap.size w w':=by
 refine(xM v _ w (z6 hv) (by simpa using hn)).mono ?_;rintro e w' ⟨u,rfl,ho,hb⟩;exact⟨u,rfl,aJ.of_owns (by simpa using ho),hb⟩
theorem uI(v:Value) (l:List Rd) (w:World) (hv:kx w v l) (hn:l.length<=1048576) :
  Calls Tryz.prog 165 #[v] w fun e w'=>∃ u,e=.returned u/\aJ w' w.heap.size 141 7 u l.length (cZ l)/\Below w.heap.size w w':=by
 obtain⟨i0,hi,cH,cj,cI⟩:=info_parts Tryz.infoRound;have HW:=aa (OP hv);have jQ:=fun w=>Lib.run_eql_slice_nil (P:=Tryz.prog) w 87
 obtain⟨a,cap,rfl,⟨_,_,jP⟩,_,_⟩:=hv;cases a with
 | none=>
  have hl:l.length=0:=by have:=jP rfl;omega
  obtain rfl:l=[]:=List.eq_nil_of_length_eq_zero hl;obtain rfl:=jP rfl
  go_enter Tryz.func165,Tryz.ntmps165
  go_wp2_with fail
  go_ret
  exact⟨_,rfl,aJ.nil _ _ _ _,Below.refl _ _⟩
 | some ad=>
  have bT:∀ j u,(cZ l)[j]?=some u->(w.alloc (.cells #[] 141)).cell? (ad.add j)=some u:=fun j u hj=>by
   obtain⟨b,o,c,e,eM⟩:=HW.o j u hj;have:ad=⟨b,o,none⟩:=by simp at e;exact e.1
   subst this;have:(Addr.add ⟨b,o,none⟩ j)=⟨b,o+j,none⟩:=by unfold Addr.add;split<;>simp_all
   rw[this];exact ak (by go_grown) eM
  have bg:aJ (w.alloc (.cells #[] 141)) w.heap.size 141 7 (.slice (some ⟨w.heap.size,0,none⟩) 0 0) 0 []:=⟨by simp,.inr ⟨w.heap.size,0,#[],(0,0),rfl,Nat.le_refl _,ap _ _,fun i hi=>by simp at hi,by omega,by simp[maxLen],by simp,by simp⟩⟩;have bE:=aa bT;have bP:=aa bg;clear bT bg jP
  go_enter Tryz.func165,Tryz.ntmps165
  go_wp2_with (at_builtin;(refine bh _ rfl (.tmp 5) (.tmp 6) 87 rfl w.heap.size 141 i0 _ 7 56 Tryz.underlying87 hi cH cj cI rfl (by decide) _ 0 [] rfl bP.o ad l.length cap (cZ l) rfl (xR l) bE.o (sE l) (by unfold maxLen;omega) (by omega) (by simp) ?_;intro v' w1 gR lw _;obtain⟨av',cv',rfl⟩:=gR.slice))
  go_ret
  rw[Nat.zero_add,List.nil_append]at gR;refine⟨_,rfl,by simpa using gR,Below.grown (w:=w.alloc (.cells #[] 141)) (by go_grown) lw (by simp) (fun k hk=>?_)⟩;cases hk;exact Nat.le_refl _
theorem Gu{P:Program} (w:World) (base:Nat) (t ty e:TypeId) (i:TypeInfo) (size:Nat) (ht:P.underlying t=some (.slice e)) (hi:P.info? e=some i)
  (fc:i.size=size) (g cap n:Nat) (xs:List Value) (bg:aJ w base e size (.slice (some ⟨g,0,none⟩) n cap) n xs)
  (a:Addr) (m c:Nat) (news:List Value) (hl:news.length=m * size) (bT:∀ j u,news[j]?=some u->w.cell? (a.add j)=some u) (h1:∀ u∈news,u.oneCell'=true) (mz:n+m<=cap) :
  ∃ w',(Builtin.append_ #[t,t] ty #[.slice (some ⟨g,0,none⟩) n cap,.slice (some a) m c]).run P w=.ok (.slice (some ⟨g,0,none⟩) (n+m) cap) w'/\aJ w' base e size (.slice (some ⟨g,0,none⟩) (n+m) cap) (n+m) (xs++news)/\w.grownBy w' (some g)/\w'.heap.size=w.heap.size:=by
 obtain⟨iN,h⟩:=bg;rcases h with ⟨h,_⟩|⟨g',cap',cur,fz,h,Df,hg,nf,iL,qz,jH,Ng⟩
 ·cases h
 cases h
 subst fc;have IL:n * i.size+news.length<=cur.size:=by rw[hl,jH,<-Nat.add_mul];exact Nat.mul_le_mul_right _ mz
 have hr:=run_append_room_cells (P:=P) w t ty e i ht hi g 0 n cap a m c news hl bT h1 mz (fun j hj=>by rw[Nat.zero_add,ab hg];simp;omega)
  (fun j hj=>by
   simp only[World.frozen?,hg,Nat.zero_add];have:=nf (n * i.size+j) (by omega)
   simpa using this)
 rw[Nat.zero_add]at hr;obtain⟨cur',g1,g2,g3⟩:=mw g e fz news (n * i.size) w cur hg IL;obtain⟨o1,o2,o3,o4,o5⟩:=lI g news (n * i.size) w;refine⟨_,hr,⟨by rw[List.length_append,iN,hl,Nat.add_mul],.inr ⟨g,cap,cur',fz,rfl,Df,g1,fun k hk=>nf k (by omega),mz,qz,by omega,?_⟩⟩,⟨o2,o3,o4,by omega,fun k _ hk=>o1 k (fun e=>hk (by rw[e]))⟩,o5⟩;rw[Nat.add_mul,<-hl,g3,Ng]
theorem A9{P:Program} {ops:Array Oper} {rest:List Oper} {o:Oper} {a:Act} {w:World} {Q:Exit->Act->World->Prop} (lB:o.guard=none) (s x:Operand) (t:TypeId)
  (ho:o.op=.call { callee:=.builtin .append,args:=#[s,x],argTypes:=#[t,t] })
  (base:Nat) (e:TypeId) (i:TypeInfo) (size:Nat) (ht:P.underlying t=some (.slice e)) (hi:P.info? e=some i)
  (fc:i.size=size) (g cap n:Nat) (xs:List Value) (hs:a.eval s=.slice (some ⟨g,0,none⟩) n cap) (bg:aJ w base e size (.slice (some ⟨g,0,none⟩) n cap) n xs)
  (ad:Addr) (m c:Nat) (news:List Value) (hx:a.eval x=.slice (some ad) m c) (hl:news.length=m * size) (bT:∀ j u,news[j]?=some u->w.cell? (ad.add j)=some u) (h1:∀ u∈news,u.oneCell'=true) (mz:n+m<=cap)
  (h:∀ w',aJ w' base e size (.slice (some ⟨g,0,none⟩) (n+m) cap) (n+m) (xs++news)->w.grownBy w' (some g)->w'.heap.size=w.heap.size->wpList P ops Q rest (a.put o.dst (.slice (some ⟨g,0,none⟩) (n+m) cap)) w'):wpList P ops Q (o :: rest) a w:=by
 refine wpList_plain lB fun _ hK=>?_
 obtain⟨w',hr,h2,h3,h4⟩:=Gu (P:=P) w base t o.type e i size ht hi fc g cap n xs bg ad m c news hl bT h1 mz;unfold Oper.wp execOp;simp only[ho,resolve,invoke,builtin,Sem.run_bind,Sem.run_pure,Result.andThen_ok,List.map_toArray,List.map_cons,List.map_nil,hs,hx,hr];exact hK _ _ (h w' h2 h3 h4)
theorem aJ.shrink{w:World} {base:Nat} {e:TypeId} {k:Nat} {g cap n m:Nat} {xs ys:List Value} (h:aJ w base e k (.slice (some ⟨g,0,none⟩) (n+m) cap) (n+m) (xs++ys)) (hx:xs.length=n * k):aJ w base e k (.slice (some ⟨g,0,none⟩) n cap) n xs:=by
 obtain⟨hl,h⟩:=h;rcases h with ⟨h,_⟩|⟨g',cap',cur,fz,h,Df,hg,nf,iL,qz,jH,ht⟩
 ·cases h
 cases h
 refine⟨hx,.inr ⟨g,cap,cur,fz,rfl,Df,hg,nf,by omega,qz,jH,?_⟩⟩;have h2:=congrArg (List.take (n * k)) ht;rw[List.take_take,List.take_append_of_le_length (by omega),List.take_of_length_le (by omega:xs.length<=n * k)]at h2;rw[<-h2];congr 1;have:=Nat.mul_le_mul_right k (Nat.le_add_right n m);omega
theorem OQ(a b:Rd) (w:World):(binOp .neq 141 a.v b.v).run Tryz.prog w=.ok (.bool (!decide (a=b))) w:=by
 rw[run_neq_struct,DI 9996];rfl
theorem fj{α:Type} [DecidableEq α] {a b:List α} (d:α) (hl:a.length=b.length) (h:∀ j,j<a.length->a.getD j d=b.getD j d):a=b:=
 List.ext_getElem hl fun i h1 h2=>by
  have:=h i h1
  rwa [az d h1,az d h2]at this
theorem B3(va vb:Value) (a b:List Rd) (w:World) (ha:kx w va a) (hb:kx w vb b) :
  Calls Tryz.prog 167 #[va,vb] w fun e w'=>e=.returned (.bool (decide (a=b)))/\Below w.heap.size w w':=by
 obtain⟨pa,ca,rfl,la1,la2,ea⟩:=ha.at;obtain⟨pb,cb,rfl,lb1,lb2,eb⟩:=hb.at;clear ha hb;have EA:=aa ea;clear ea;have EB:=aa eb;clear eb;generalize oe:decide (a=b)=res;have jE:=aa oe;clear oe;by_cases hl:a.length=b.length
 case neg=>
  have ir:((a.length:Int) != (b.length:Int))=true:=by simp;omega
  have HR:am (res=false):=by(have h:res=false:=by(rw[<-jE.o];simp;intro h;exact hl (by rw[h])));exact h
  clear hl
  go_enter Tryz.func167,Tryz.ntmps167
  go_wp2
  go_ret
  exact⟨aS HR.o.symm,Below.refl _ _⟩
 have ir:((a.length:Int) != (b.length:Int))=false:=by simp[hl]
 have HL:=aa hl;clear hl
 go_enter Tryz.func167,Tryz.ntmps167
 go_wp2
 clear ir
 go_loopw [13] (fun i wr=>Below w.heap.size w wr/\∃ k:Nat,k<=a.length/\i=.int .i64 k/\∀ j,j<k->a.getD j default=b.getD j default) (fun i _=>a.length - (intOf i).toNat)
 ·exact⟨Below.refl _ _,0,by omega,rfl,by simp⟩
 ·
  obtain⟨aA,k,hk,rfl,aU⟩:=hrel;have H:=aa aU;clear aU;by_cases aB:k<a.length
  ·have iF:k<b.length:=by have:=HL.o;omega
   obtain⟨b1,o1,rfl,⟨c0,r0⟩,⟨c1,r1⟩,⟨c2,r2⟩,⟨c3,r3⟩,⟨c4,r4⟩,⟨c5,r5⟩,⟨c6,r6⟩⟩:=EA.o k aB;obtain⟨b2,o2,rfl,⟨e0,s0⟩,⟨e1,s1⟩,⟨e2,s2⟩,⟨e3,s3⟩,⟨e4,s4⟩,⟨e5,s5⟩,⟨e6,s6⟩⟩:=EB.o k iF;have c0':∀ y:ExtW wr,y.val.cell? ⟨b1,o1+k * 7,none⟩=_:=fun y=>y.cell (ak aA c0)
   have c1':∀ y:ExtW wr,y.val.cell? ⟨b1,o1+k * 7+1,none⟩=_:=fun y=>y.cell (ak aA c1)
   have c2':∀ y:ExtW wr,y.val.cell? ⟨b1,o1+k * 7+2,none⟩=_:=fun y=>y.cell (ak aA c2)
   have c3':∀ y:ExtW wr,y.val.cell? ⟨b1,o1+k * 7+3,none⟩=_:=fun y=>y.cell (ak aA c3)
   have c4':∀ y:ExtW wr,y.val.cell? ⟨b1,o1+k * 7+4,none⟩=_:=fun y=>y.cell (ak aA c4)
   have c5':∀ y:ExtW wr,y.val.cell? ⟨b1,o1+k * 7+5,none⟩=_:=fun y=>y.cell (ak aA c5)
   have c6':∀ y:ExtW wr,y.val.cell? ⟨b1,o1+k * 7+6,none⟩=_:=fun y=>y.cell (ak aA c6)
   have e0':∀ y:ExtW wr,y.val.cell? ⟨b2,o2+k * 7,none⟩=_:=fun y=>y.cell (ak aA e0)
   have e1':∀ y:ExtW wr,y.val.cell? ⟨b2,o2+k * 7+1,none⟩=_:=fun y=>y.cell (ak aA e1)
   have e2':∀ y:ExtW wr,y.val.cell? ⟨b2,o2+k * 7+2,none⟩=_:=fun y=>y.cell (ak aA e2)
   have e3':∀ y:ExtW wr,y.val.cell? ⟨b2,o2+k * 7+3,none⟩=_:=fun y=>y.cell (ak aA e3)
   have e4':∀ y:ExtW wr,y.val.cell? ⟨b2,o2+k * 7+4,none⟩=_:=fun y=>y.cell (ak aA e4)
   have e5':∀ y:ExtW wr,y.val.cell? ⟨b2,o2+k * 7+5,none⟩=_:=fun y=>y.cell (ak aA e5)
   have e6':∀ y:ExtW wr,y.val.cell? ⟨b2,o2+k * 7+6,none⟩=_:=fun y=>y.cell (ak aA e6)
   have HX:=aa (az default aB);have HY:=aa (az default iF);clear c0 r0 e0 s0 c1 r1 e1 s1 c2 r2 e2 s2 c3 r3 e3 s3 c4 r4 e4 s4 c5 r5 e5 s5 c6 r6 e6 s6;generalize a[k]=x at c0' c1' c2' c3' c4' c5' c6' HX;generalize b[k]=y at e0' e1' e2' e3' e4' e5' e6' HY;have bR:=fun w=>OQ x y w
   go_wp2
   by_cases cC:x=y
   ·have hd:decide (x=y)=true:=by simpa using cC
    have ou:am (a.getD k default=b.getD k default):=by(have h:a.getD k default=b.getD k default:=by(rw[HX.o,HY.o,cC]));exact h
    rw[hd]at bR;clear cC hd;refine aF (by kernel_rfl) (by kernel_rfl) ?_
    repeat (go_big_quiet_step (fail))
    refine wpQuiet_nil ?_;intro _ eE;obtain⟨xq,dj⟩:=eE;subst dj;clear c0' c1' c2' c3' c4' c5' c6' e0' e1' e2' e3' e4' e5' e6' bR
    go_wp2
    go_roundw
    ·exact⟨ae aA xq.ext,k+1,by omega,by go_num,aV H.o ou.o⟩
    ·simp[intOf];omega
   ·have hd:decide (x=y)=false:=by simpa using cC
    have HR:am (res=false):=by(have h:res=false:=by(rw[<-jE.o];simp;intro h;subst h;rw[HX.o]at HY;exact cC HY.o));exact h
    rw[hd]at bR;clear cC hd;refine aF (by kernel_rfl) (by kernel_rfl) ?_
    repeat (go_big_quiet_step (fail))
    refine wpQuiet_nil ?_;intro _ eE;obtain⟨xq,dj⟩:=eE;subst dj;clear c0' c1' c2' c3' c4' c5' c6' e0' e1' e2' e3' e4' e5' e6' bR
    go_wp2
    go_ret
    exact⟨aS HR.o.symm,ae aA xq.ext⟩
  ·have HR:am (res=true):=by(have h:res=true:=by(rw[<-jE.o];simp;exact fj default HL.o fun j hj=>H.o j (by omega)));exact h
   go_wp2
   go_ret
   exact⟨aS HR.o.symm,aA⟩
end Go.Proofs.YtmeaoneaephjeaaGreatDoor
namespace Go.Proofs.YtmeaoneaephjeaaGreatDoor
open Go.RowKit Go Go.Shelf
attribute [local go_sem] Oper.semAt_some
theorem uJ(P:Program) (w:World) (a:Addr) (m:Mode) (g:Fn) (b c:Array Value):(store a (.func g b c) m).run P w=stored P w a (.func g b c) m:=run_store P w a _ m rfl
attribute [local go_sem] uJ
abbrev iA(w:World):Prop:=TabAt 1 Lib.deBruijn64tab w
theorem iA.up{w w':World} (h:iA w) (hb:Below w.heap.size w w'):iA w':=fun j hj=>ak hb (h j hj)
theorem iA.keep{w w':World} (h:iA w) (hb:jj w.heap.size w w'):iA w':=fun j hj=>hb.cell (h j hj)
theorem UV(x k idx:Nat) (w:World) (dp:((x:Int) == 0)=false)
  (key:IntKind.u64.wrap (bits BinOp.and IntKind.u64 (x:Int) (IntKind.u64.wrap (-(x:Int))) * 285870213051353865) / 288230376151711744=(idx:Int))
  (hi:idx<64) (hk:k<64) (eM:w.cell? ⟨1,idx,none⟩=some (.int .u8 k)) :
  Calls Tryz.prog 178 #[.int .u64 x] w fun e w'=>e=.returned (.int .i64 k)/\w=w':=by
 go_enter Tryz.func178,Tryz.ntmps178
 go_wp2_with (simp only[key])
 go_ret
 exact⟨rfl,rfl⟩
def v8(l:List Int):List Value:=l.map (Value.int .i64)
theorem aJ.ints{w:World} {base:Nat} {v:Value} {l:List Int} (h:aJ w base 3 1 v l.length (v8 l)) (hl:l.length<=1048576) (hr:∀ x∈l,bS x):aX w v l:=by
 rcases h.2 with ⟨rfl,h0⟩|⟨g,cap,cur,fz,rfl,_,hg,_,iL,qz,_,ht⟩
 ·have:l=[]:=List.eq_nil_of_length_eq_zero h0;subst this;exact⟨none,0,rfl,⟨by simp,by omega,fun _=>rfl⟩,by simp,fun i x hx=>by simp at hx⟩
 ·refine⟨some ⟨g,0,none⟩,cap,rfl,⟨iL,by unfold maxLen at qz;omega,fun e=>by cases e⟩,by omega,fun i x hx=>⟨g,0,rfl,?_,hr x (List.mem_of_getElem? hx)⟩⟩;rw[Nat.zero_add,Nat.mul_one,ab hg];have h1:(v8 l)[i]?=some (.int .i64 x):=by unfold v8;rw[List.getElem?_map,hx];rfl
  rw[<-ht,List.getElem?_take]at h1;split at h1
  ·simpa using h1
  ·cases h1
theorem wP(v:Value) (l:List Int) (x:Int) (w:World) (hv:aX w v l) :
  Calls Tryz.prog 48 #[v,.int .i64 x] w fun e w'=>e=.returned (.int .i64 (firstIx l.length fun i=>decide (x=l.getD i 0)))/\Below w.heap.size w w':=by
 obtain⟨pa,ca,rfl,la1,la2,ea⟩:=hv.at;have EA:=aa ea;clear hv ea;generalize hr:(firstIx l.length fun i=>decide (x=l.getD i 0))=r;have HR:=aa hr;clear hr
 go_enter Tryz.func48,Tryz.ntmps48
 go_wp2
 go_loop [8] (fun i=>∃ k:Nat,k<=l.length/\i=.int .i64 k/\∀ j,j<k->decide (x=l.getD j 0)=false) (fun i=>l.length - (intOf i).toNat)
 ·exact⟨0,by omega,rfl,by simp⟩
 ·
  obtain⟨k,hk,rfl,aU⟩:=hrel;have H:=aa aU;clear aU;by_cases aB:k<l.length
  ·obtain⟨b1,o1,rfl,h1⟩:=EA.o k aB;rw[Nat.mul_one]at h1;have c1:=h1.1;have HG:=aa (az 0 aB);clear h1;generalize l[k]=y at c1 HG;by_cases cC:x=y
   ·subst cC
    go_wp2
    go_ret
    exact⟨aG (by rw[<-HR.o,dq _ k _ aB H.o (by rw[HG.o];simp)]),Below.refl _ _⟩
   ·have hxy':(x == y)=false:=by simpa using cC
    have HX:am (decide (x=l.getD k 0)=false):=by(have h:decide (x=l.getD k 0)=false:=by(rw[HG.o];simpa using cC));exact h
    clear cC
    go_wp2
    go_round
    ·exact⟨k+1,by omega,by go_num,aV H.o HX.o⟩
    ·simp[intOf];omega
  ·go_wp2
   go_ret
   exact⟨aG (by rw[<-HR.o,dA];intro j hj;exact H.o j (by omega)),Below.refl _ _⟩
theorem DR(l:List Int) (x:Int):(anyLt l.length fun i=>decide (x=l.getD i 0))=l.contains x:=by
 rw[Bool.eq_iff_iff,la,List.contains_iff_mem];constructor
 ·rintro⟨k,hk,h⟩;simp only[decide_eq_true_eq]at h;rw[az 0 hk]at h;rw[h];exact List.getElem_mem hk
 ·intro h;obtain⟨k,hk,rfl⟩:=List.getElem_of_mem h;exact⟨k,hk,by rw[az 0 hk];simp⟩
theorem Bc(v:Value) (l:List Int) (x:Int) (w:World) (hv:aX w v l) :
  Calls Tryz.prog 33 #[v,.int .i64 x] w fun e w'=>e=.returned (.bool (l.contains x))/\Below w.heap.size w w':=by
 have HC:=aa (wP v l x w hv);have HA:am (l.contains x=decide (0<=firstIx l.length fun i=>decide (x=l.getD i 0))):=by(have h:l.contains x=decide (0<=firstIx l.length fun i=>decide (x=l.getD i 0)):=by(rw[lV,DR]));exact h
 generalize (firstIx l.length fun i=>decide (x=l.getD i 0))=r at HC HA;obtain⟨pa,ca,rfl,_⟩:=hv.at;clear hv
 go_enter Tryz.func33,Tryz.ntmps33
 go_wp2_with fail
 refine HC.o.mono ?_;rintro e w1 ⟨rfl,aM⟩
 go_wp2_with fail
 go_ret
 exact⟨aS HA.o.symm,aM⟩
theorem HH{α:Type} {k:Nat} {R:World->Nat->Nat->α->Prop} {W:World} {B n:Nat} {cs:Array Value} {t:TypeId} {xs:List (List α)} (h:W.heap[B]?=some (.cells cs t)) (hn:n=xs.length) (hs:xs.length<=256) (he:∀ i (hi:i<xs.length),∃ v,cs[i]?=some v/\fe k R W v xs[i]):fe 1 (mC k R) W (.slice (some ⟨B,0,none⟩) n n) xs:=by
 subst hn;refine⟨some ⟨B,0,none⟩,xs.length,rfl,⟨Nat.le_refl _,by omega,fun e=>by cases e⟩,by omega,fun i x hx=>⟨B,0,rfl,?_⟩⟩;obtain⟨hi,rfl⟩:=List.getElem?_eq_some_iff.1 hx;obtain⟨v,h1,h2⟩:=he i hi;exact⟨v,by rw[Nat.zero_add,Nat.mul_one,ab h];exact h1,h2⟩
theorem B4(l:List Obj) (w:World) {k:Nat} {o:Obj} (h:w.heap[k]?=some o):(l.foldl World.alloc w).heap[k]?=some o:=by
 induction l generalizing w with
 | nil=>exact h
 | cons a r ih=>exact ih _ (aq _ h)
theorem Mh(l:List Obj) (w:World) (i:Nat) {o:Obj} (h:l[i]?=some o):(l.foldl World.alloc w).heap[w.heap.size+i]?=some o:=by
 induction l generalizing w i with
 | nil=>simp at h
 | cons a r ih=>
  cases i with
  | zero=>
   simp at h;subst h;exact B4 r _ (ap w a)
  | succ i=>
   have:=ih (w.alloc a) i (by simpa using h);rw[World.size_alloc]at this;rw[show w.heap.size+(i+1)=w.heap.size+1+i by omega];exact this
theorem OR{l:List Int} (h:∀ x∈l,-2<x/\x<100):∀ i,i<l.length->bS (l.getD i 0):=fun i hi=>by
 have:=h _ (List.getElem_mem hi);rw[az 0 hi];unfold bS;omega
theorem ib{W:World} {B:Nat} (l:List Int) (h:W.heap[B]?=some (.cells (bD l) 3)) (hn:l.length<=256) (hs:∀ x∈l,-2<x/\x<100):aX W (.slice (some ⟨B,0,none⟩) l.length l.length) l:=rA rfl hn h (OR hs)
theorem OS{α:Type} {k:Nat} {R:World->Nat->Nat->α->Prop} {W:World} {B:Nat} {a b:Value} {t:TypeId} {x y:List α} (h:W.heap[B]?=some (.cells #[a,b] t)) (ha:fe k R W a x) (hb:fe k R W b y):fe 1 (mC k R) W (.slice (some ⟨B,0,none⟩) 2 2) [x,y]:=
 HH h rfl (by simp) fun i hi=>by
  rcases (show i=0\/i=1 by simp at hi;omega) with rfl|rfl
  ·exact⟨a,rfl,ha⟩
  ·exact⟨b,rfl,hb⟩
theorem xS{α:Type} {k:Nat} {R:World->Nat->Nat->α->Prop} {W:World} {B:Nat} {a:Value} {t:TypeId} {x:List α} (h:W.heap[B]?=some (.cells #[a] t)) (ha:fe k R W a x):fe 1 (mC k R) W (.slice (some ⟨B,0,none⟩) 1 1) [x]:=
 HH h rfl (by simp) fun i hi=>by
  obtain rfl:i=0:=by simp at hi;omega
  exact⟨a,rfl,ha⟩
abbrev iC(l:List Int):Obj:=.cells (bD l) 3
abbrev sV(B n:Nat):Value:=.slice (some ⟨B,0,none⟩) n n
theorem mI{W:World} {b c:Nat} {x y:Array Value} {t u:TypeId} {f g:Nat × Nat} (h1:W.heap[b]?=some (.cells x t f)) (h2:W.heap[c]?=some (.cells y u g)) (bR:t≠u):b≠c:=by
 rintro rfl;rw[h1]at h2;cases h2;exact bR rfl
theorem gh{W W':World} {row:Option Nat} (hg:W.grownBy W' row) {k:Nat} {o:Obj} (hk:W.heap[k]?=some o) (hn:row≠some k):W'.heap[k]?=some o:=(hg.block k (aC hk) (fun e=>hn e.symm)).trans hk
theorem J'{w:World} {base:Nat} {e:TypeId} {k:Nat} {v:Value} {n:Nat} {xs:List Value} (h:aJ w base e k v n xs):v.oneCell'=true:=by
 obtain⟨a,c,rfl⟩:=h.slice;rfl
abbrev pI(r:Rd):Prop:=bS r.g.n/\bS r.g.h0/\bS r.g.h1/\bS r.g.h2/\bS r.g.h3/\bS r.g.h4/\bS r.f
abbrev B5(Br Bo Ba Bf:Nat):Value:=.func (.func 193) #[] #[.pointer (some ⟨Br,0,none⟩),.pointer (some ⟨Bo,0,none⟩),.pointer (some ⟨Ba,0,none⟩),.pointer (some ⟨Bf,0,none⟩)]
structure WEnv (a:Adv) (v:Value) (k:Nat) (w:World) (Br Bo Ba Bf wb:Nat) (L:List (List Rd)) (word:List Rd) (W:World):Prop where
 old:Below w.heap.size w W
 lo:w.heap.size<=Bo
 r:W.heap[Br]?=some (.cells #[.int .i64 k] 3)
 a:W.heap[Ba]?=some (.cells #[.int .i64 a.n,v] 27)
 f:W.heap[Bf]?=some (.cells #[B5 Br Bo Ba Bf] 259)
 o:∃ vo xs,W.heap[Bo]?=some (.cells #[vo] 221)/\aJ W w.heap.size 87 1 vo L.length xs/\∀ i (hi:i<L.length),∃ x,xs[i]?=some x/\aJ W (wb+1) 141 7 x L[i].length (cZ L[i])
 b:aJ W w.heap.size 141 7 (.slice (some ⟨wb,0,none⟩) word.length k) word.length (cZ word)
section
variable {a : Adv} {v : Value} {k : Nat} {w : World} {Br Bo Ba Bf wb : Nat} {L : List (List Rd)} {word : List Rd} {W W' : World}
theorem WEnv.up(h:WEnv a v k w Br Bo Ba Bf wb L word W) (hb:Below W.heap.size W W'):WEnv a v k w Br Bo Ba Bf wb L word W':=by
 refine⟨ae h.old hb,h.lo,af hb h.r,af hb h.a,af hb h.f,?_,h.b.up hb⟩;obtain⟨vo,xs,h1,h2,h3⟩:=h.o;exact⟨vo,xs,af hb h1,h2.up hb,fun i hi=>by obtain⟨x,q1,q2⟩:=h3 i hi;exact⟨x,q1,q2.up hb⟩⟩
theorem WEnv.wb_at(h:WEnv a v k w Br Bo Ba Bf wb L word W):∃ cur fz,W.heap[wb]?=some (.cells cur 141 fz)/\w.heap.size<=wb:=by
 obtain⟨_,h⟩:=h.b;rcases h with ⟨h,_⟩|⟨g,cap,cur,fz,h,Df,hg,_⟩
 ·cases h
 ·cases h;exact⟨cur,fz,hg,Df⟩
theorem WEnv.grow_word(h:WEnv a v k w Br Bo Ba Bf wb L word W) (hg:W.grownBy W' (some wb)) {word':List Rd} (hb:aJ W' w.heap.size 141 7 (.slice (some ⟨wb,0,none⟩) word'.length k) word'.length (cZ word')):WEnv a v k w Br Bo Ba Bf wb L word' W':=by
 obtain⟨cur,fz,Av,xh⟩:=h.wb_at;have kp:∀ {k:Nat} {x:Array Value} {t:TypeId} {f:Nat × Nat},W.heap[k]?=some (.cells x t f)->t≠141->W'.heap[k]?=some (.cells x t f):=fun hk bR=>gh hg hk (fun e=>mI hk Av bR (dE e).symm)
 refine⟨Below.grown h.old hg h.old.size (fun g e=>by cases e;exact xh),h.lo,kp h.r (by decide),kp h.a (by decide),kp h.f (by decide),?_,hb⟩;obtain⟨vo,xs,h1,h2,h3⟩:=h.o;refine⟨vo,xs,kp h1 (by decide),h2.keepT fun g o e1 e2=>gh hg e2 (fun e=>h2.ne Av (by decide) g e1 (dE e).symm),fun i hi=>?_⟩;obtain⟨x,q1,q2⟩:=h3 i hi;exact⟨x,q1,q2.keepT fun g o e1 e2=>gh hg e2 (fun e=>by have h4:=(q2.lt g e1).1;have h5:=dE e;omega)⟩
theorem WEnv.shrink{r:Rd} (h:WEnv a v k w Br Bo Ba Bf wb L (word++[r]) W):WEnv a v k w Br Bo Ba Bf wb L word W:=by
 refine⟨h.old,h.lo,h.r,h.a,h.f,h.o,?_⟩;have hb:=h.b;rw[List.length_append,List.length_singleton,E9]at hb;exact hb.shrink (xR word)
theorem WEnv.put{vo x v':Value} {xs:List Value} {w2:World} (h:WEnv a v k w Br Bo Ba Bf wb L word W) (h1:W.heap[Bo]?=some (.cells #[vo] 221)) (h2:aJ W w.heap.size 87 1 vo L.length xs) (h3:∀ i (hi:i<L.length),∃ x,xs[i]?=some x/\aJ W (wb+1) 141 7 x L[i].length (cZ L[i]))
  {l:List Rd} (hx:aJ W (wb+1) 141 7 x l.length (cZ l)) (hg:W.grownBy w2 vo.ownBlock) (ho:aJ w2 w.heap.size 87 1 v' (L.length+1) (xs++[x])):WEnv a v k w Br Bo Ba Bf wb (L++[l]) word (w2.setCell ⟨Bo,0,none⟩ v'):=by
 have kp:∀ {k:Nat} {x:Array Value} {t:TypeId} {f:Nat × Nat},W.heap[k]?=some (.cells x t f)->t≠87->w2.heap[k]?=some (.cells x t f):=fun hk bR=>gh hg hk (fun e=>h2.ne hk (fun e=>bR e.symm) _ e rfl)
 have FH:=kp h1 (by decide);have kp2:∀ {k:Nat} {x:Array Value} {t:TypeId} {f:Nat × Nat},W.heap[k]?=some (.cells x t f)->t≠87->t≠221->(w2.setCell ⟨Bo,0,none⟩ v').heap[k]?=some (.cells x t f):=fun hk bR hne2=>aO (kp hk bR) (mI hk h1 hne2) _ _
 have ko:∀ {x:Value} {l:List Rd} {b:Nat},aJ W b 141 7 x l.length (cZ l)->aJ (w2.setCell ⟨Bo,0,none⟩ v') b 141 7 x l.length (cZ l):=fun hq=>(hq.apart h2 (by decide) hg).put (fun g e=>(hq.apart h2 (by decide) hg).ne FH (by decide) g e) _ _
 have aZ:Below w.heap.size w w2:=Below.grown h.old hg h.old.size (fun g e=>(h2.lt g e).1);refine⟨aZ.setCell h.lo _,h.lo,kp2 h.r (by decide) (by decide),kp2 h.a (by decide) (by decide),kp2 h.f (by decide) (by decide),⟨v',xs++[x],by rw[aI FH];rfl,?_,fun i hi=>?_⟩,?_⟩
 ·rw[List.length_append,List.length_singleton];exact ho.put (fun g e=>ho.ne FH (by decide) g e) _ _
 ·have hl:xs.length=L.length:=by have:=h2.1;omega
  rw[List.length_append,List.length_singleton]at hi;by_cases aB:i<L.length
  ·obtain⟨y,q1,q2⟩:=h3 i aB;refine⟨y,by rw[List.getElem?_append_left (by omega)];exact q1,?_⟩;rw[List.getElem_append_left aB];exact ko q2
  ·obtain rfl:i=L.length:=by omega
   refine⟨x,by rw[<-hl,List.getElem?_append_right (Nat.le_refl _)];simp,?_⟩;have e:(L++[l])[L.length]'(by simp)=l:=by simp
   rw[e];exact ko hx
 ·have hq:=h.b;exact ko (l:=word) hq
end
def jI(a:Adv) (d:Nat) (word:List Rd) (l:List Mv):List (List Rd):=l.flatMap fun m=>(bY a d m.to.toNat).map fun y=>word++(m.r :: y)
theorem E'(a:Adv) (d s:Nat) (word:List Rd):(bY a (d+1) s).map (word++·)=jI a d word (a.states.getD s []):=by
 simp only[bY,jI,List.map_flatMap,List.map_map];rfl
theorem Mi(a:Adv) (d:Nat) (word:List Rd) (l:List Mv) (j:Nat) (h:j<l.length):jI a d word (l.take (j+1))=jI a d word (l.take j)++(bY a d l[j].to.toNat).map ((word++[l[j].r])++·):=by
 unfold jI;rw[List.take_succ_eq_append_getElem h,List.flatMap_append];simp
theorem Rv(a:Adv) (d:Nat) (word:List Rd) (l:List Mv) (j:Nat):(jI a d word (l.take j)).length<=(jI a d word l).length:=by
 conv=>rhs;rw[<-List.take_append_drop j l]
 unfold jI;rw[List.flatMap_append,List.length_append];omega
structure WCore (a:Adv) (v:Value) (k:Nat) (w:World) (Br Bo Ba Bf wb B9:Nat) (L:List (List Rd)) (word:List Rd) (m:Mv) (D:Nat->Bool) (x:Nat->Value) (W:World):Prop where
 env:WEnv a v k w Br Bo Ba Bf wb L (bif D 7 then word++[m.r] else word) W
 box:W.heap[B9]?=some (.cells #[.int .i64 m.r.g.n,.int .i64 m.r.g.h0,.int .i64 m.r.g.h1,.int .i64 m.r.g.h2,.int .i64 m.r.g.h3,.int .i64 m.r.g.h4,.int .i64 m.r.f,.int .i64 m.to] 143)
 sb:D 6=true->D 7=false->∃ g,x 6=.slice (some ⟨g,0,none⟩) 1 1/\W.heap[g]?=some (.cells #[.int .i64 m.r.g.n,.int .i64 m.r.g.h0,.int .i64 m.r.g.h1,.int .i64 m.r.g.h2,.int .i64 m.r.g.h3,.int .i64 m.r.g.h4,.int .i64 m.r.f] 141)
section
variable {a : Adv} {v : Value} {k : Nat} {w : World} {Br Bo Ba Bf wb B9 : Nat} {L : List (List Rd)} {word : List Rd} {m : Mv} {D : Nat → Bool} {x : Nat → Value} {W : World}
theorem WCore.other(h:WCore a v k w Br Bo Ba Bf wb B9 L word m D x W) {i:Nat} (u:Value) (h6:6≠i) (h7:7≠i):WCore a v k w Br Bo Ba Bf wb B9 L word m (bI D i) (cF x i u) W:=by
 refine⟨?_,h.box,?_⟩
 ·simpa only[bI,if_neg h7] using h.env
 ·simpa only[bI,cF,if_neg h6,if_neg h7] using h.sb
theorem WCore.build(h:WCore a v k w Br Bo Ba Bf wb B9 L word m D x W):WCore a v k w Br Bo Ba Bf wb B9 L word m (bI D 6) (cF x 6 (.slice (some ⟨W.heap.size,0,none⟩) 1 1)) (W.alloc (.cells #[.int .i64 m.r.g.n,.int .i64 m.r.g.h0,.int .i64 m.r.g.h1,.int .i64 m.r.g.h2,.int .i64 m.r.g.h3,.int .i64 m.r.g.h4,.int .i64 m.r.f] 141)):=by
 refine⟨?_,aq _ h.box,fun _ _=>⟨W.heap.size,by simp[cF],ap _ _⟩⟩;have:=h.env.up (W':=W.alloc (.cells #[.int .i64 m.r.g.n,.int .i64 m.r.g.h0,.int .i64 m.r.g.h1,.int .i64 m.r.g.h2,.int .i64 m.r.g.h3,.int .i64 m.r.g.h4,.int .i64 m.r.f] 141)) (by go_grown);simpa only[bI,if_neg (show (7:Nat)≠6 by decide)] using this
theorem WCore.app(h:WCore a v k w Br Bo Ba Bf wb B9 L word m D x W) (h7:D 7=false) {w3:World} (u:Value) (ho:aJ w3 w.heap.size 141 7 (.slice (some ⟨wb,0,none⟩) (word.length+1) k) (word.length+1) (cZ word++cZ [m.r])) (hg:W.grownBy w3 (some wb)):WCore a v k w Br Bo Ba Bf wb B9 L word m (bI D 7) (cF x 7 u) w3:=by
 have he:=h.env;rw[h7]at he;obtain⟨cur,fz,Av,_⟩:=he.wb_at;refine⟨?_,gh hg h.box (fun e=>mI h.box Av (by decide) (dE e).symm),fun _ e=>by simp[bI]at e⟩;simp only[bI,if_true,cond_true];refine he.grow_word hg ?_;rw[List.length_append,List.length_singleton,E9];exact ho
end
def Ye(wb:Nat) (word:List Rd):MP:=⟨fun x W=>aJ W (wb+1) 141 7 x word.length (cZ word),fun _ _ _ h hb=>h.up hb⟩
def OT(wb:Nat) (word:List Rd):MP:=⟨fun y W=>∃ x g,aJ W (wb+1) 141 7 x word.length (cZ word)/\y=.slice (some ⟨g,0,none⟩) 1 1/\W.heap[g]?=some (.cells #[x] 87),fun _ _ _ h hb=>by obtain⟨x,g,h1,h2,h3⟩:=h;exact⟨x,g,h1.up hb,h2,af hb h3⟩⟩
theorem OU{wb:Nat} {word:List Rd} {W:World} {x:Value} {g:Nat} (h1:aJ W (wb+1) 141 7 x word.length (cZ word)) (h3:W.heap[g]?=some (.cells #[x] 87)):(OT wb word).p (.slice (some ⟨g,0,none⟩) 1 1) W:=⟨x,g,h1,rfl,h3⟩
theorem Tryz.infoWordRow:(Tryz.prog.info? 87).map (fun i=>(i.zero,i.size,i.bytes))=some (some (.slice none 0 0),1,24):=by kernel_rfl
theorem Mj(a:Adv) (v:Value) (k:Nat) (hk:k<=6) (w:World) (hv:bz w v a.states) (oM:∀ s,s<a.states.length->∀ m∈a.states.getD s [],0<=m.to/\m.to.toNat<a.states.length) (Br Bo Ba Bf wb:Nat) :
  ∀ (d:Nat) (s:Nat) (L:List (List Rd)) (word:List Rd) (W:World),word.length+d=k->s<a.states.length->(∀ r∈word,pI r)->L.length+(bY a d s).length<=1048576->WEnv a v k w Br Bo Ba Bf wb L word W →
   Calls Tryz.prog 193 #[.int .i64 s,.slice (some ⟨wb,0,none⟩) word.length k,.pointer (some ⟨Br,0,none⟩),.pointer (some ⟨Bo,0,none⟩),.pointer (some ⟨Ba,0,none⟩),.pointer (some ⟨Bf,0,none⟩)] W fun e W'=>(∃ u,e=.returned u)/\WEnv a v k w Br Bo Ba Bf wb (L++(bY a d s).map (word++·)) word W':=by
 have HV:=aa hv;clear hv;have Qv:=aa oM;clear oM;intro d;induction d with
 | zero=>
  intro s L word W hd hs cY cP pN;have jf:=aa cY;have EE:=aa pN;have qI:=aa cP;have tr:=ab pN.r 0;obtain⟨vo,xs,h1,h2,h3⟩:=pN.o;have to:=ab h1 0;simp at tr to;have zg:(word.length:Int)=k:=by omega
  have K6:=aa zg;have yK:=aa hd;clear cY cP pN hd
  go_enter Tryz.func193,Tryz.ntmps193
  obtain⟨i0,df,cH,cj,cI⟩:=info_parts Tryz.infoWordRow;have H2:=aa h2;have H3:=aa h3;clear h2 h3;have aB:=(EE.o.wb_at).elim fun _ h=>h.elim fun _ h=>aC h.1
  go_wp2_with fail
  refine ge 4 [14,15,16,17] [MP.eq vo,
   MP.eq (.slice (some ⟨wb,0,none⟩) word.length k),
   Ye wb word,
   OT wb word] (by kernel_rfl) (by simp) (by decide) rfl (by kernel_rfl) (by kernel_rfl) (by kernel_rfl) ?step ?tail
  case step=>
   intro x W i o s F hi ho hs hB ar hF;have fK:i=0\/i=1\/i=2\/i=3:=by omega
   rcases fK with rfl|rfl|rfl|rfl
   all_goals (obtain rfl:=dE ho.symm;obtain rfl:=dE hs.symm;simp only[bC,da,List.setIfInBounds_toArray,List.set_cons_succ,List.set_cons_zero,Nat.reduceAdd]at hF)
   ·clear ar hi ho hs;have t1:=ak hB to;subst hF
    go_wp2_with fail
    exact kP _ (Below.refl _ _) rfl
   ·clear ar hi ho hs;subst hF
    go_wp2_with fail
    exact kP _ (Below.refl _ _) rfl
   ·have d1:=ph (ar ⟨1,.data⟩ (by simp) rfl);clear ar hi ho hs;simp only[d1]at hF;subst hF
    go_wp2_with fail
    refine(uI _ word W ((rC EE.o.b (fun i hi=>jf.o _ (List.getElem_mem hi)) (by omega)).up up_round hB) (by omega)).mono ?_;rintro e w9 ⟨u9,rfl,jy,fi⟩;have nr:=aa (jy.base (base':=wb+1) (by have:=hB.size;omega));clear jy
    go_wp2_with fail
    exact kP _ fi nr.o
   ·have d2:=ar ⟨2,.data⟩ (by simp) rfl;clear ar hi ho hs;obtain⟨a9,c9,e9⟩:=aJ.slice d2;rw[e9]at d2;have P0:=aa (show aJ W (wb+1) 141 7 (.slice a9 word.length c9) word.length (cZ word) from d2);clear d2;simp only[e9]at hF;subst hF
    go_wp2_with fail
    refine bA.mk (.slice (some ⟨W.heap.size,0,none⟩) 1 1) ?_ ?_ ?_
    ·exact(by go_grown)
    ·exact OU (P0.o.up (by go_grown)) (ap _ _)
    ·first
     | rfl
     | simp only[List.setIfInBounds_toArray,List.set_cons_succ,List.set_cons_zero]
  case tail=>
   intro x W2 F hB aT hF;have d0:x 0=vo:=aT 0 (by omega);have d3:=aT 3 (by omega);obtain⟨x9,g9,jy,e9,AB⟩:∃ x9 g9,aJ W2 (wb+1) 141 7 x9 word.length (cZ word)/\x 3=.slice (some ⟨g9,0,none⟩) 1 1/\W2.heap[g9]?=some (.cells #[x9] 87):=d3;clear aT;simp only[bC,da,List.setIfInBounds_toArray,List.set_cons_succ,List.set_cons_zero,Nat.reduceAdd]at hF;rw[d0,e9]at hF;subst hF;have nr:=aa jy;have Qz:=aa AB;have fG:=aa hB;have QM:=fG.o.size;have hL:=qI.o;simp only[bY,List.length_singleton]at hL;clear jy AB hB d0 e9;simp only[List.drop_succ_cons,List.drop_zero];refine bh W2 rfl (.tmp 14) (.tmp 17) 221 rfl w.heap.size 87 i0 _ 1 24 Tryz.underlying221 df cH cj cI rfl (by decide) _ L.length xs rfl (H2.o.up fG.o) ⟨g9,0,none⟩ 1 1 [x9] rfl rfl (fun j u hj=>?_) (by simpa using J' nr.o) (by unfold maxLen;omega) (by omega) (by have:=EE.o.old.size;omega) ?_
   ·cases j with
    | zero=>simp at hj;subst hj;simp[Addr.add,ab Qz.o]
    | succ j=>simp at hj
   intro v9 w9 go eB _;have HOW9:=aa go;have IG:=aa eB;clear go eB;have FH:=gh IG.o (af fG.o h1) (fun e=>H2.o.ne h1 (by decide) _ e rfl);have tBo:=ab FH 0;have zBo:=aH FH 0;simp at tBo;have hBoL:=aC FH;obtain⟨a9,c9,hv9⟩:=HOW9.o.slice;subst hv9;clear FH
   go_wp2_with fail
   go_returns
   refine⟨⟨_,rfl⟩,?_⟩;have e9:L++(bY a 0 s).map (word++·)=L++[word]:=by simp[bY]
   rw[e9];exact(EE.o.up fG.o).put (af fG.o h1) (H2.o.up fG.o) (fun i hi=>by obtain⟨y,q1,q2⟩:=H3.o i hi;exact⟨y,q1,q2.up fG.o⟩) nr.o IG.o HOW9.o
 | succ d ih=>
  intro s L word W hd hs cY cP pN;have jf:=aa cY;have EE:=aa pN;have qI:=aa (show L.length+(jI a d word (a.states.getD s [])).length<=1048576 by rw[<-E'];simpa using cP);have tr:=ab pN.r 0;have ta:=ab pN.a 1;simp at tr ta;obtain⟨pa,ca,rfl,la1,la2,ea⟩:=HV.o.at;obtain⟨b1,o1,rfl,xc,cx0,hx⟩:=ea s hs;rw[Nat.mul_one]at cx0;have cx:=ak pN.old cx0;clear cx0;obtain⟨px,qx,rfl,x1,x2,ex⟩:=hx.at;have EX:=aa ex;have TF:=aa (az [] hs);have SW:=aa (Qv.o s hs);rw[TF.o]at qI SW;rw[E',TF.o];clear hx ex ea cP pN cY;generalize a.states[s]=l at EX x1 x2 cx qI SW;have zg:((word.length:Int) == (k:Int))=false:=by simp;omega
  have K6:=aa zg;have yK:=aa hd;clear hd
  go_enter Tryz.func193,Tryz.ntmps193
  go_wp2_with fail
  clear cx ta tr;obtain⟨i1,oX,_,jx,_⟩:=info_parts Tryz.infoRound
  go_loopw [25] (fun i wr=>∃ j:Nat,j<=l.length/\i=.int .i64 j/\WEnv a (.slice (some ⟨b1,o1,none⟩) a.states.length ca) k w Br Bo Ba Bf wb (L++jI a d word (l.take j)) word wr) (fun i _=>l.length - (intOf i).toNat)
  ·exact⟨0,by omega,rfl,by simpa[jI] using EE.o⟩
  ·
   obtain⟨j,hj,rfl,oy⟩:=hrel;have WZ:=aa oy;by_cases aB:j<l.length
   ·obtain⟨b3,o3,rfl,⟨⟨d0,j0⟩,⟨d1,j1⟩,⟨d2,j2⟩,⟨d3,j3⟩,⟨d4,j4⟩,⟨d5,j5⟩,⟨d6,j6⟩⟩,⟨d7,_⟩⟩:=EX.o j aB
    have HINM:am (∀ r∈word++[l[j].r],pI r):=aa (fun r hr=>by
     rcases List.mem_append.1 hr with h|h
     ·exact jf.o r h
     ·rw[List.mem_singleton]at h;subst h;exact⟨j0,j1,j2,j3,j4,j5,j6⟩)
    have Jd:=Mi a d word l j aB;have k8:=Rv a d word l (j+1);have HM:=aa (SW.o _ (List.getElem_mem aB))
    have Wm:(L++jI a d word (l.take j)).length+(bY a d l[j].to.toNat).length<=1048576:=by
     have h9:=qI.o;rw[Jd,List.length_append,List.length_map]at k8;rw[List.length_append];omega
    have HLJ:=aa Wm;have jF:=aa Jd;clear Jd k8 Wm j0 j1 j2 j3 j4 j5 j6;generalize l[j]=m at d0 d1 d2 d3 d4 d5 d6 d7 HINM HM HLJ jF;have HTON:am (((m.to.toNat:Nat):Int)=m.to):=aa (by have:=HM.o.1;omega)
    replace d0:=ak oy.old d0
    replace d1:=ak oy.old d1
    replace d2:=ak oy.old d2
    replace d3:=ak oy.old d3
    replace d4:=ak oy.old d4
    replace d5:=ak oy.old d5
    replace d6:=ak oy.old d6
    replace d7:=ak oy.old d7
    clear oy
    go_wp2_with fail
    refine bF (fun W1=>WEnv a (.slice (some ⟨b1,o1,none⟩) a.states.length ca) k w Br Bo Ba Bf wb (L++jI a d word (l.take j)) word W1/\W1.heap[wr.heap.size]?=some (.cells #[.int .i64 m.r.g.n,.int .i64 m.r.g.h0,.int .i64 m.r.g.h1,.int .i64 m.r.g.h2,.int .i64 m.r.g.h3,.int .i64 m.r.g.h4,.int .i64 m.r.f,.int .i64 m.to] 143)) ⟨WZ.o.up (by go_grown),ap _ _⟩ (fun W1 cO=>?_);have gD:=aa cO;clear cO d0 d1 d2 d3 d4 d5 d6 d7
    refine mF 8 [29,30,31,32,33,34,35,36] [some (B5 Br Bo Ba Bf),
     some (.pointer (some ⟨wr.heap.size,7,none⟩)),
     some (.int .i64 m.to),
     some (.slice (some ⟨wb,0,none⟩) word.length k),
     some (.pointer (some ⟨wr.heap.size,0,none⟩)),
     some (m.r.v),
     none,
     some ((.slice (some ⟨wb,0,none⟩) (word.length+1) k))] (WCore a (.slice (some ⟨b1,o1,none⟩) a.states.length ca) k w Br Bo Ba Bf wb wr.heap.size (L++jI a d word (l.take j)) word m) (by kernel_rfl) rfl (by decide) rfl (by kernel_rfl) (by kernel_rfl) (by kernel_rfl) (fun _=>⟨gD.o.1.up (by go_grown),af (by go_grown) gD.o.2,nofun⟩) ?step ?tail
    case step=>
     intro x W D i o s F hi ho hs hD cQ bU ar hv aR hF;have fK:i=0\/i=1\/i=2\/i=3\/i=4\/i=5\/i=6\/i=7:=by omega
     rcases fK with rfl|rfl|rfl|rfl|rfl|rfl|rfl|rfl
     all_goals (have dQ:=cQ _ _ hs hD;obtain rfl:=dE ho.symm;obtain rfl:=dE hs.symm)
     ·clear ar hi hv;have e5:F.getD 5 undef=.pointer (some ⟨Bf,0,none⟩):=lL hF (by decide) rfl;clear cQ bU;clear hF dQ;have t1:=ab aR.env.f 0;simp at t1;have e5':=dH e5;have HD:=aa hD;have bB:=aa aR;clear hD aR
      go_wp2_with fail
      refine bX.mk _ fP ?_ rfl;exact bB.o.other _ (by decide) (by decide)
     ·clear ar hi hv;have e9:F.getD 9 undef=.pointer (some ⟨wr.heap.size,0,none⟩):=lL hF (by decide) rfl;clear cQ bU;clear hF dQ;have e9':=dH e9;have HD:=aa hD;have bB:=aa aR;clear hD aR
      go_wp2_with fail
      refine bX.mk _ fP ?_ rfl;exact bB.o.other _ (by decide) (by decide)
     ·have g1:=ar ⟨1,.data⟩ (by simp) rfl;have d1:=hv 1 _ (by omega) g1 rfl;clear ar hi hv;have e30:=fy hF 1 30 (by decide) rfl (by kernel_rfl) d1;clear cQ bU;clear hF dQ d1;have t1:=ab aR.box 7;simp at t1;have e30':=dH e30;have HD:=aa hD;have bB:=aa aR;clear hD aR;clear g1
      go_wp2_with fail
      refine bX.mk _ fP ?_ rfl;exact bB.o.other _ (by decide) (by decide)
     ·clear ar hi hv;have e1:F.getD 1 undef=.slice (some ⟨wb,0,none⟩) word.length k:=lL hF (by decide) rfl;clear cQ bU;clear hF dQ;have e1':=dH e1;have HD:=aa hD;have bB:=aa aR;clear hD aR
      go_wp2_with fail
      refine bX.mk _ fP ?_ rfl;exact bB.o.other _ (by decide) (by decide)
     ·clear ar hi hv;have e9:F.getD 9 undef=.pointer (some ⟨wr.heap.size,0,none⟩):=lL hF (by decide) rfl;clear cQ bU;clear hF dQ;have e9':=dH e9;have HD:=aa hD;have bB:=aa aR;clear hD aR
      go_wp2_with fail
      refine bX.mk _ fP ?_ rfl;exact bB.o.other _ (by decide) (by decide)
     ·have g4:=ar ⟨4,.data⟩ (by simp) rfl;have d4:=hv 4 _ (by omega) g4 rfl;clear ar hi hv;have e33:=fy hF 4 33 (by decide) rfl (by kernel_rfl) d4;clear cQ bU;clear hF dQ d4;have t1:=ab aR.box;have e33':=dH e33;have HD:=aa hD;have bB:=aa aR;clear hD aR;clear g4
      go_wp2_with fail
      refine bX.mk _ fP ?_ rfl;exact bB.o.other _ (by decide) (by decide)
     ·have g5:=ar ⟨5,.data⟩ (by simp) rfl;have d5:=hv 5 _ (by omega) g5 rfl;clear ar hi hv;have e34:=fy hF 5 34 (by decide) rfl (by kernel_rfl) d5;clear cQ bU;clear hF dQ d5;have e34':=dH e34;have HD:=aa hD;have bB:=aa aR;clear hD aR;clear g5
      go_wp2_with fail
      refine bX.mk _ (fun c hc=>by cases hc) ?_ rfl;exact bB.o.build
     ·have g3:=ar ⟨3,.data⟩ (by simp) rfl;have d3:=hv 3 _ (by omega) g3 rfl;have g6:=ar ⟨6,.data⟩ (by simp) rfl;clear ar hi hv;have e32:=fy hF 3 32 (by decide) rfl (by kernel_rfl) d3;have e35:=fy hF 6 35 (by decide) rfl (by kernel_rfl) rfl;clear cQ bU;clear hF dQ d3;obtain⟨gb,qx,m8⟩:=aR.sb g6 hD;rw[qx]at e35;have cA:=aR.env.b;rw[hD]at cA;have C7:=aa (show aJ W w.heap.size 141 7 (.slice (some ⟨wb,0,none⟩) word.length k) word.length (cZ word) from cA)
      have bT:∀ j u',(cZ [m.r])[j]?=some u'->W.cell? (Addr.add ⟨gb,0,none⟩ j)=some u':=fun j u' hj=>by
       have e1:(Addr.add ⟨gb,0,none⟩ j)=⟨gb,j,none⟩:=by unfold Addr.add;split<;>simp_all
       rw[e1,ab m8];simpa[cZ] using hj
      have bE:=aa bT;clear bT cA m8 qx;have e32':=dH e32;have e35':=dH e35;have HD:=aa hD;have bB:=aa aR;clear hD aR;clear g3;clear g6;refine A9 rfl (.tmp 32) (.tmp 35) 87 rfl w.heap.size 141 i1 7 Tryz.underlying87 oX jx wb k word.length (cZ word) e32 C7.o ⟨gb,0,none⟩ 1 1 (cZ [m.r]) e35 rfl bE.o (sE _) (by have:=yK.o;omega) ?_;intro w3 ol jT _;refine bX.mk _ fP ?_ rfl;exact bB.o.app HD.o _ ol jT
    case tail=>
     intro x W' D F aT hv aR hF;have x0:=hv 0 _ (by omega) rfl;have x1:=hv 1 _ (by omega) rfl;have x2:=hv 2 _ (by omega) rfl;have x3:=hv 3 _ (by omega) rfl;have x4:=hv 4 _ (by omega) rfl;have x5:=hv 5 _ (by omega) rfl;have x7:=hv 7 _ (by omega) rfl;have ox:=aR.env;rw[aT 7 (by omega)]at ox;have HE9:=aa (show WEnv a (.slice (some ⟨b1,o1,none⟩) a.states.length ca) k w Br Bo Ba Bf wb (L++jI a d word (l.take j)) (word++[m.r]) W' from ox);simp only[bC,da,List.setIfInBounds_toArray,List.set_cons_succ,List.set_cons_zero,Nat.reduceAdd,x0,x1,x2,x3,x4,x5,x7]at hF;generalize x 6=y6 at hF;subst hF;clear hv aT aR ox x0 x1 x2 x3 x4 x5 x7;simp only[List.drop_succ_cons,List.drop_zero];have dO:=ih m.to.toNat (L++jI a d word (l.take j)) (word++[m.r]) W' (by have:=yK.o;simp;omega) HM.o.2 HINM.o (HLJ.o) HE9.o;rw[List.length_append,List.length_singleton,HTON.o]at dO;have bQ:=aa dO;clear dO ih
     go_wp2_with fail
     refine bQ.o.mono ?_;rintro e w9 ⟨⟨u9,rfl⟩,ox⟩;have HE10:=aa ox;clear ox
     go_wp2_with fail
     go_roundw
     ·
      refine⟨j+1,by omega,by go_num,?_⟩;rw[jF.o,<-List.append_assoc];exact HE10.o.shrink
     ·simp[intOf];omega
   ·obtain rfl:j=l.length:=by omega
    rw[List.take_length]at WZ;clear oy
    go_wp2_with fail
    go_returns
    exact⟨⟨_,rfl⟩,WZ.o⟩
theorem xT(P:Program) (w:World) (a:Addr) (m:Mode) (g:Fn) (b c:Array Value):(store a (.func g b c) m).run P w=stored P w a (.func g b c) m:=run_store P w a _ m rfl
attribute [local go_sem] xT
theorem OV(cs:Array Value) (m:Nat):(madeCells cs m).size=m:=by simp[madeCells]
theorem Mk(n:Nat) (hn:n<=4096) (w:World):(Instr.makeSlice 221 (.int .i64 0) (.int .i64 (n:Int))).run Tryz.prog w=.ok (.slice (some ⟨w.heap.size,0,none⟩) 0 n) (w.alloc (.cells (madeCells (Value.slice none 0 0).cells n) 87)):=by
 obtain⟨i,hi,cH,cj,cI⟩:=info_parts Tryz.infoWordRow;have:=run_make (P:=Tryz.prog) w 221 87 i (.slice none 0 0) Tryz.underlying221 hi cH .i64 .i64 0 (n:Int) (by omega) (by omega) (by rw[cI];omega) (by omega);rw[this,cj,Nat.mul_one];rfl
theorem Ka(k:Nat) (hk:k<=6) (w:World):(Instr.makeSlice 87 (.int .i64 0) (.int .i64 (k:Int))).run Tryz.prog w=.ok (.slice (some ⟨w.heap.size,0,none⟩) 0 k) (w.alloc (.cells (madeCells (Value.agg #[.int .i64 0,.int .i64 0,.int .i64 0,.int .i64 0,.int .i64 0,.int .i64 0,.int .i64 0]).cells (k * 7)) 141)):=by
 obtain⟨i,hi,cH,cj,cI⟩:=info_parts Tryz.infoRound;have:=run_make (P:=Tryz.prog) w 87 141 i _ Tryz.underlying87 hi cH .i64 .i64 0 (k:Int) (by omega) (by omega) (by rw[cI];omega) (by omega);rw[this,cj];rfl
theorem H5{W:World} {base g n k:Nat} {e:TypeId} {cs:Array Value} (h:W.heap[g]?=some (.cells (madeCells cs (n * k)) e)) (hb:base<=g) (hn:n<=1048576):aJ W base e k (.slice (some ⟨g,0,none⟩) 0 n) 0 []:=
 ⟨by simp,.inr ⟨g,n,_,(0,0),rfl,hb,h,fun i _ h=>by have:=h.2;simp at this,by omega,by unfold maxLen;omega,OV _ _,by simp⟩⟩
def VN(base k:Nat):MP:=⟨fun v W=>∃ g,base<=g/\v=.slice (some ⟨g,0,none⟩) 0 k/\aJ W base 141 7 (.slice (some ⟨g,0,none⟩) 0 k) 0 [],fun _ _ _ h hb=>by obtain⟨g,h1,h2,h3⟩:=h;exact⟨g,h1,h2,h3.up hb⟩⟩
theorem UW{base k g:Nat} {W:World} (h1:base<=g) (h3:aJ W base 141 7 (.slice (some ⟨g,0,none⟩) 0 k) 0 []):(VN base k).p (.slice (some ⟨g,0,none⟩) 0 k) W:=⟨g,h1,rfl,h3⟩
theorem sF{w:World} {v:Value} {l:List (List Mv)} (h:bz w v l):∀ s,∀ m∈l.getD s [],pI m.r:=fun s m hm=>by
 by_cases hs:s<l.length
 ·rw[az [] hs]at hm;obtain⟨pa,ca,rfl,_,_,ea⟩:=h.at;obtain⟨_,_,_,x,_,hx⟩:=ea s hs;obtain⟨px,qx,rfl,_,_,ex⟩:=hx.at;obtain⟨j,hj,rfl⟩:=List.getElem_of_mem hm;obtain⟨_,_,_,⟨⟨_,j0⟩,⟨_,j1⟩,⟨_,j2⟩,⟨_,j3⟩,⟨_,j4⟩,⟨_,j5⟩,⟨_,j6⟩⟩,_⟩:=ex j hj;exact⟨j0,j1,j2,j3,j4,j5,j6⟩
 ·rw[List.getD_eq_getElem?_getD,List.getElem?_eq_none (by omega)]at hm;simp at hm
theorem wg(a:Adv) (h:∀ s,∀ m∈a.states.getD s [],pI m.r) (k:Nat):∀ s,∀ x∈bY a k s,∀ r∈x,pI r:=by
 induction k with
 | zero=>intro s x hx r hr;simp[bY]at hx;subst hx;simp at hr
 | succ k ih=>
  intro s x hx r hr;simp only[bY,List.mem_flatMap,List.mem_map]at hx;obtain⟨m,hm,y,hy,rfl⟩:=hx;rcases List.mem_cons.1 hr with rfl|hr
  ·exact h s m hm
  ·exact ih _ y hy r hr
theorem uK{a:Adv} (h:advE a=0):∀ s,s<a.states.length->∀ m∈a.states.getD s [],0<=m.to/\m.to.toNat<a.states.length:=fun s hs m hm=>by
 rw[az [] hs]at hm;obtain⟨j,hj,rfl⟩:=List.getElem_of_mem hm;have:=(lf (ik h).2.1 hs hj).2;omega
def qd(a:Adv) (r:Int):List (List Rd) × Int:=if (countedR 4096 a r).2≠0 then([],(countedR 4096 a r).2) else(bY a r.toNat 0,0)
theorem Ml{a:Adv} {r:Int} (h:(countedR 4096 a r).2=0):advE a=0/\0<=r/\r<=6/\(bY a r.toNat 0).length<=4096/\(countedR 4096 a r).1=(bY a r.toNat 0).length:=by
 unfold countedR at h ⊢;by_cases h1:advE a=0
 ·rw[if_neg (by simpa using h1)]at h ⊢;by_cases h2:r<0\/6<r
  ·rw[if_pos h2]at h;cases h
  ·rw[if_neg h2]at h ⊢;have hn:=q6 (L:=4096) (by omega) a (fun s hs m hm=>(uK h1 s hs m hm).2) (by have:=(ik h1).1;omega) r.toNat;by_cases h3:4096<numberL 4096 a r.toNat
   ·rw[if_pos h3]at h;cases h
   ·rw[if_neg h3];refine⟨h1,by omega,by omega,?_,?_⟩
    ·omega
    ·show numberL 4096 a r.toNat=_
     omega
 ·rw[if_pos h1]at h;exact absurd h h1
theorem OW(a:Adv) (v:Value) (r:Int) (w:World) (hv:bz w v a.states) (hN:movesN a.states<1099511627776) :
  Calls Tryz.prog 162 #[.agg #[.int .i64 a.n,v],.int .i64 r] w fun e w'=>∃ u,e=.returned (.tuple #[u,.int .i64 (qd a r).2])/\fe 1 (mC 7 oZ) w' u (qd a r).1/\(∀ ad n c,u=.slice (some ad) n c->w.heap.size<=ad.block)/\Below w.heap.size w w':=by
 have HV:=aa hv;obtain⟨pa,ca,rfl,_⟩:=hv.at;clear hv
 go_enter Tryz.func162,Tryz.ntmps162
 go_wp2_with fail
 refine aQ (fun W=>Below w.heap.size w W/\W.heap[w.heap.size]?=some (.cells #[.int .i64 a.n,.slice pa a.states.length ca] 27)/\W.heap[w.heap.size+1]?=some (.cells #[.int .i64 r] 3)) ⟨by go_grown,aq _ (ap _ _),bu _ _ _⟩ (fun W0 bd=>?_);obtain⟨aK,bK,gr⟩:=bd;refine(Ad a _ r 4096 W0 (HV.o.up up_moves aK) hN (by omega) (by omega)).mono ?_;rintro e w1 ⟨rfl,aM⟩;have jl:=ae aK aM;have eO:=af aM bK;have rZ:=af aM gr;by_cases he:(countedR 4096 a r).2=0
 case neg=>
  have Cz:am (qd a r=([],(countedR 4096 a r).2)):=aa (by unfold qd;rw[if_pos he]);generalize (countedR 4096 a r).2=x at he Cz;have TA:(x != 0)=true:=by simpa using he
  clear bK gr eO rZ he
  go_wp2_with fail
  go_ret2
  rw[Cz.o];exact⟨_,rfl,⟨none,0,rfl,⟨by simp,by omega,fun _=>rfl⟩,by simp,fun i x hx=>by simp at hx⟩,(fun ad n c e=>by cases e),jl⟩
 obtain⟨ha,rO,qi,cP,ly⟩:=Ml he;obtain⟨k,rfl⟩:∃ k:Nat,r=(k:Int):=⟨r.toNat,by omega⟩;rw[Int.toNat_natCast]at cP ly;have Cz:am (qd a k=(bY a k 0,0)):=aa (by unfold qd;rw[if_neg (by simpa using he),Int.toNat_natCast]);have Qv:=aa (uK ha);have HAOK:=aa (ik ha);rw[he,ly];have hk:k<=6:=by omega
 have qI:=aa cP;generalize hn:(bY a k 0).length=n at cP;have HN:=aa hn;have fX:=Mk n cP;clear hn he ly ha rO qi;have cj:=jl.size;have dP:=aa eO;have dd:=aa rZ;clear bK gr eO rZ
 go_wp2_with fail
 refine bF (fun W=>Below w.heap.size w W/\W.heap[w.heap.size]?=some (.cells #[.int .i64 a.n,.slice pa a.states.length ca] 27)/\W.heap[w.heap.size+1]?=some (.cells #[.int .i64 k] 3)/\W.heap[w1.heap.size]?=some (.cells (madeCells (Value.slice none 0 0).cells n) 87)/\W.heap[w1.heap.size+1]?=some (.cells #[.slice (some ⟨w1.heap.size,0,none⟩) 0 n] 221)/\W.heap[w1.heap.size+1+1]?=some (.cells #[B5 (w.heap.size+1) (w1.heap.size+1) w.heap.size (w1.heap.size+1+1)] 259)) ?_ (fun W2 fg=>?_)
 ·exact⟨((jl.alloc cj _).alloc (by simp only[World.size_alloc];omega) _).alloc (by simp only[World.size_alloc];omega) _,aq _ (aq _ (aq _ dP.o)),aq _ (aq _ (aq _ dd.o)),aq _ (aq _ (ap _ _)),aq _ (bu _ _ _),eD _ _ _ _⟩
 obtain⟨g1,g2,g3,g4,g5,g6⟩:=fg;have G1:=aa g1;have G2:=aa g2;have G3:=aa g3;have G4:=aa g4;have G5:=aa g5;have G6:=aa g6;have cI:=g1.size;clear g1 g2 g3 g4 g5 g6 fX
 refine ge 3 [22,23,24] [MP.eq (B5 (w.heap.size+1) (w1.heap.size+1) w.heap.size (w1.heap.size+1+1)),
  MP.eq (.int .i64 k),
  VN w.heap.size k] (by kernel_rfl) (by simp) (by decide) rfl (by kernel_rfl) (by kernel_rfl) (by kernel_rfl) ?step ?tail
 case step=>
  intro x W i o s F hi ho hs hB ar hF;have fK:i=0\/i=1\/i=2:=by omega
  rcases fK with rfl|rfl|rfl
  all_goals (obtain rfl:=dE ho.symm;obtain rfl:=dE hs.symm;simp only[bC,da,List.setIfInBounds_toArray,List.set_cons_succ,List.set_cons_zero,Nat.reduceAdd]at hF)
  ·clear ar hi ho hs;have t1:=ab (af hB G6.o) 0;simp at t1;subst hF
   go_wp2_with fail
   exact kP _ (Below.refl _ _) rfl
  ·clear ar hi ho hs;have t1:=ab (af hB G3.o) 0;simp at t1;subst hF
   go_wp2_with fail
   exact kP _ (Below.refl _ _) rfl
  ·have d1:=ph (ar ⟨1,.data⟩ (by simp) rfl);clear ar hi ho hs;have fX:=Ka k hk;simp only[d1]at hF;subst hF
   go_wp2_with fail
   refine bA.mk (.slice (some ⟨W.heap.size,0,none⟩) 0 k) ?_ ?_ ?_
   ·exact(by go_grown)
   ·exact UW (by have:=hB.size;omega) (H5 (ap _ _) (by have:=hB.size;omega) (by omega))
   ·first
    | rfl
    | simp only[List.setIfInBounds_toArray,List.set_cons_succ,List.set_cons_zero]
 case tail=>
  intro x W3 F hB aT hF;have d0:x 0=(B5 (w.heap.size+1) (w1.heap.size+1) w.heap.size (w1.heap.size+1+1)):=aT 0 (by omega);have d1:x 1=.int .i64 k:=aT 1 (by omega);have d2:=aT 2 (by omega);obtain⟨wb,Av,e2,qC⟩:∃ g,w.heap.size<=g/\x 2=.slice (some ⟨g,0,none⟩) 0 k/\aJ W3 w.heap.size 141 7 (.slice (some ⟨g,0,none⟩) 0 k) 0 []:=d2;clear aT;simp only[bC,da,List.setIfInBounds_toArray,List.set_cons_succ,List.set_cons_zero,Nat.reduceAdd]at hF;rw[d0,d1,e2]at hF;subst hF;have fG:=aa hB;have rU:=aa qC;clear hB qC d0 d1 e2;simp only[List.drop_succ_cons,List.drop_zero]
  have pN:WEnv a (.slice pa a.states.length ca) k w (w.heap.size+1) (w1.heap.size+1) w.heap.size (w1.heap.size+1+1) wb [] [] W3:=
   ⟨ae G1.o fG.o,by omega,af fG.o G3.o,af fG.o G2.o,af fG.o G6.o,⟨_,[],af fG.o G5.o,H5 (n:=n) (cs:=(Value.slice none 0 0).cells) (by rw[Nat.mul_one];exact af fG.o G4.o) (by omega) (by omega),fun i hi=>by simp at hi⟩,rU.o⟩
  have dO:=Mj a _ k hk w HV.o Qv.o _ _ _ _ wb k 0 [] [] W3 (by simp) (by have:=HAOK.o.1;omega) (fun r hr=>by simp at hr) (by have:=HN.o;simp;omega) pN;simp only[List.length_nil,List.nil_append,List.map_id']at dO;have bQ:=aa dO;clear dO pN
  go_wp2_with fail
  refine bQ.o.mono ?_;rintro e w9 ⟨⟨u9,rfl⟩,ox⟩;have hbw9:=ox.old;obtain⟨vo,xs,q1,q2,q3⟩:=ox.o;obtain⟨wcur,wfz,hw9,hwlo⟩:=ox.wb_at;have t1:=ab q1 0;simp at t1;have jE:am (fe 1 (mC 7 oZ) w9 vo (bY a k 0)):=aa (cB.sl (base:=w.heap.size) ⟨xs,q2,fun i hi=>by obtain⟨y,p1,p2⟩:=q3 i hi;exact⟨y,p1,p2.base (by omega)⟩⟩ (fun y l hl hy=>rC hy (fun i hi=>wg a (sF HV.o) k 0 l hl _ (List.getElem_mem hi)) (by have:=kg a k 0 l hl;omega)) (by have:=HN.o;omega))
  have HLO9:am (∀ ad n c,vo=.slice (some ad) n c->w.heap.size<=ad.block):=aa (fun ad n c e=>by
   rcases q2.2 with ⟨e2,_⟩|⟨g,cap,cur,fz,e2,h1,_⟩
   ·rw[e2]at e;cases e
   ·rw[e2]at e;cases e;exact h1)
  obtain⟨av,cv,rfl⟩:=q2.slice;clear q1 q2 q3 ox hw9
  go_wp2_with fail
  go_ret2
  rw[Cz.o];exact⟨_,rfl,jE.o,HLO9.o,hbw9⟩
theorem B6(v:Value) (l:List Int) (w:World) (hv:aX w v l) (hp:lZ l) (hl:l.length<=65536) :
  Calls Tryz.prog 206 #[v] w fun e w'=>e=.returned (.int .i64 0)/\Below w.heap.size w w':=by
 obtain⟨pa,ca,rfl,la1,la2,ea⟩:=hv.at;have EA:=aa ea;obtain⟨N,hN,hs⟩:=hp;have HS:=aa hs;have HN:=aa hN;clear hv ea hs hN
 go_enter Tryz.func206,Tryz.ntmps206
 go_wp2
 go_loop [3,11] (fun nx i=>∃ k:Nat,k<=l.length/\i=.int .i64 k/\nx=.int .i64 (N k)/\0<=N k/\N k<=k) (fun _ i=>l.length - (intOf i).toNat)
 ·exact⟨0,by omega,rfl,by rw[HN.o],by rw[HN.o];omega,by rw[HN.o];omega⟩
 ·
  obtain⟨k,hk,rfl,rfl,oN,jZ⟩:=hrel;by_cases aB:k<l.length
  ·obtain⟨b1,o1,rfl,h1⟩:=EA.o k aB;rw[Nat.mul_one]at h1;have c1:=h1.1;obtain⟨dp,dJ,ed⟩:=HS.o k aB;rw[az 0 aB]at dp dJ ed;clear h1;generalize l[k]=x at c1 dp dJ ed;have HX:=aa ed;clear ed;generalize N k=nk at oN jZ dJ HX;by_cases Xs:x=nk
   ·subst Xs;have fZ:am (N (k+1)=x+1):=aa (by rw[HX.o,if_pos rfl])
    go_wp2
    go_round
    ·exact⟨k+1,by omega,by go_num,by rw[fZ.o],by rw[fZ.o];omega,by rw[fZ.o];omega⟩
    ·simp[intOf];omega
   ·have hxn':(x == nk)=false:=by simpa using Xs
    have ed:¬ nk<x:=by omega
    have wX:¬ x<0:=by omega
    have fZ:am (N (k+1)=nk):=aa (by rw[HX.o,if_neg Xs])
    go_wp2
    go_round
    ·exact⟨k+1,by omega,by go_num,by rw[fZ.o],by rw[fZ.o];omega,by rw[fZ.o];omega⟩
    ·simp[intOf];omega
  ·go_wp2
   go_ret
   exact⟨rfl,by go_grown⟩
theorem OX(va vb:Value) (a b:List Int) (w:World) (ha:aX w va a) (hb:aX w vb b) (pa:lZ a) (pb:lZ b) (hl:b.length=a.length) (m5:a.length<=65536) :
  Calls Tryz.prog 174 #[va,vb] w fun e w'=>e=.returned (.int .i64 0)/\Below w.heap.size w w':=by
 have HA:=aa ha;have HB:=aa hb;have HL:=aa hl;have PA:=aa pa;have PB:=aa pb;obtain⟨qa,ca,rfl,_⟩:=ha.at;obtain⟨qb,cb,rfl,_⟩:=hb.at;clear ha hb hl pa pb;have Jl:((a.length:Int) != (b.length:Int))=false:=by rw[HL.o];simp
 go_enter Tryz.func174,Tryz.ntmps174
 go_wp2_with fail
 refine bF (fun W=>Below w.heap.size w W/\W.heap[w.heap.size]?=some (.cells #[.slice qa a.length ca,.slice qb b.length cb] 38)) ⟨by go_grown,ap _ _⟩ (fun W0 bd=>?_);obtain⟨aK,bK⟩:=bd;have lC:=aa bK;clear bK
 go_loopw [12] (fun i wr=>∃ k:Nat,k<=2/\i=.int .i64 k/\Below w.heap.size w wr/\Below W0.heap.size W0 wr) (fun i _=>2 - (intOf i).toNat)
 ·exact⟨0,by omega,rfl,aK,Below.refl _ _⟩
 ·
  clear aK;obtain⟨k,hk,rfl,dy,aA⟩:=hrel;have tB:=ab (af aA lC.o);by_cases h0:k=0
  ·subst h0
   go_wp2_with fail
   refine(B6 _ _ wr (HA.o.up up_int dy) PA.o m5).mono ?_;rintro e w1 ⟨rfl,aM⟩;clear tB
   go_wp2_with fail
   go_roundw
   ·exact⟨1,by omega,by go_num,ae dy aM,ae aA aM⟩
   ·simp[intOf]
  by_cases h1:k=1
  ·subst h1
   go_wp2_with fail
   refine(B6 _ _ wr (HB.o.up up_int dy) PB.o (by rw[HL.o];exact m5)).mono ?_;rintro e w1 ⟨rfl,aM⟩;clear tB
   go_wp2_with fail
   go_roundw
   ·exact⟨2,by omega,by go_num,ae dy aM,ae aA aM⟩
   ·simp[intOf]
  obtain rfl:k=2:=by omega
  clear tB
  go_wp2_with fail
  go_ret
  exact⟨rfl,dy⟩
theorem Kb(v:Value) (keys:List Int) (w:World) (hv:aX w v keys) (hl:keys.length<=256) :
  Calls Tryz.prog 176 #[v] w fun e w'=>∃ u,e=.returned u/\aX w' u (lg keys)/\Below w.heap.size w w':=by
 obtain⟨pa,ca,rfl,la1,la2,ea⟩:=hv.at;have EA:=aa ea;clear hv ea;obtain⟨f,hf⟩:∃ f,f=fun i=>(lg keys).getD i 0:=⟨_,rfl⟩
 obtain⟨key,mO⟩:∃ key:Nat->Int,key=fun i=>keys.getD i 0:=⟨_,rfl⟩
 obtain⟨q,hq⟩:∃ q:Nat->Nat->Bool,q=fun k i=>decide (keys.getD k 0=keys.getD i 0):=⟨_,rfl⟩
 have HF:am ((∀ i,f i=(iw q keys.length).getD i 0)/\(List.range keys.length).map f=lg keys):=aa (by
  subst hf hq;refine⟨fun _=>rfl,?_⟩;refine List.ext_getElem (by simp[lg,pC]) fun i h1 h2=>?_
  simp[h2])
 have HQ:am (∀ k,firstIx k (fun j=>q j k)=firstIx k (fun j=>decide (key j=key k))):=aa (fun k=>by subst hq mO;rfl);have HK:am (∀ k (h:k<keys.length),key k=keys[k]):=aa (fun k h=>by subst mO;exact az 0 h);have HC:=aa (jN q);clear hf hq mO;have fX:=js f keys.length hl;have Dm:=@GE Tryz.prog
 go_enter Tryz.func176,Tryz.ntmps176
 go_wp2_with fail
 clear fX Dm;refine bF (fun W=>Below w.heap.size w W/\du W w.heap.size (dI key f 0) 0/\W.heap[w.heap.size+1]?=some (.cells (fC keys.length f 0) 3)) ⟨by go_grown,((du.new w).up (Below.refl _ _ |>.alloc (Nat.le_refl _) _)).congr (fun _=>rfl) rfl,bu _ _ _⟩ (fun W0 bd=>?_);obtain⟨aK,hM0,hH⟩:=bd
 go_loopw [15] (fun i wr=>∃ k:Nat,k<=keys.length/\i=.int .i64 k/\Below w.heap.size w wr/\du wr w.heap.size (dI key f k) (br q k).2.toNat/\wr.heap[w.heap.size+1]?=some (.cells (fC keys.length f k) 3)) (fun i _=>keys.length - (intOf i).toNat)
 ·exact⟨0,by omega,rfl,aK,hM0,hH⟩
 ·
  clear aK hM0 hH;obtain⟨k,hk,rfl,aA,hM,hO⟩:=hrel;by_cases aB:k<keys.length
  ·obtain⟨b1,o1,rfl,h1⟩:=EA.o k aB;rw[Nat.mul_one]at h1;have c1:=ak aA h1.1;have nY:=HK.o k aB;clear h1;generalize keys[k]=x at c1 nY;have HX:=aa nY;have y':=DO (mt:=245) (kt:=3) (vt:=3) Tryz.underlying245 Tryz.underlying3 (fun w=>by kernel_rfl) hM x;have HM:=aa hM;have HO:=aa hO;have aY:=aa aA;have eQ:=hM.lt;have IE:=aC hO;have hc:=(HC.o k).1;have jc:=(HC.o k).2.1;cases hs:dI key f k x with
   | none=>
    rw[hs]at y';have AS:=UT (mt:=245) (kt:=3) (vt:=3) Tryz.underlying245 3 hM;obtain⟨nn,fw⟩:∃ nn:Nat,(br q k).2.toNat=nn:=⟨_,rfl⟩;rw[fw]at AS
    have Bv:am (∀ y,dI key f (k+1) y=if y=x then some (f k) else dI key f k y):=aa (by
     have:=xG (key:=key) (f:=f) (k:=k) (by rw[nY];exact hs)
     rwa [nY]at this)
    have Le:firstIx k (fun j=>q j k)<0:=by
     rw[HQ.o,nY];unfold dI at hs;split at hs
     ·assumption
     ·cases hs
    obtain⟨n1,n2⟩:=Ha (q:=q) aB Le;have rM:am (f k=nn):=aa ((HF.o.1 k).trans (by omega));have rJ:am ((br q (k+1)).2.toNat=if (dI key f k x).isSome then(br q k).2.toNat else(br q k).2.toNat+1):=aa (by rw[hs,n2];simp;omega);obtain⟨o,LI,rN⟩:=uG (mt:=245) (kt:=3) (vt:=3) Tryz.underlying245 Tryz.underlying3 HM.o x (nn:Int);have wV:=aa rN;have eP:am ((wr.putObj w.heap.size o).heap[w.heap.size+1]?=some (.cells (fC keys.length f k) 3)):=aa ((World.putObj_heap_other (by omega)).trans HO.o);have tq:=ab eP.o k;rw[l5 _ _ _ _ aB]at tq;have zq:=aH eP.o k;clear rN hM hO aA hs Le n1 n2 fw nY
    go_wp2_with fail
    go_roundw
    ·
     refine⟨k+1,by omega,by go_num,Below.setCell (eT (Nat.le_refl _) aY.o) (by dsimp only;omega) _,?_,?_⟩
     ·refine du.congr (du.kept wV.o (Below.heap_setCell _ _ _ _ (by dsimp only;omega))) (fun y=>?_) rJ.o.symm;rw[Bv.o,rM.o]
     ·rw[aI eP.o,<-uE _ _ _ aB,rM.o]
    ·simp[intOf];omega
   | some z=>
    rw[hs]at y';have yZ:am (∀ y,dI key f (k+1) y=dI key f k y):=aa (xH (z:=z) (by rw[nY];exact hs));obtain⟨j,hj,e1,e2,e3⟩:=q8 hs;obtain⟨n1,n2⟩:=Hb (q:=q) (j:=j) aB (by rw[HQ.o,nY];exact e1);have rM:am (f k=z):=aa (by rw[HF.o.1 k,n1,<-HF.o.1 j,e3]);have rJ:am ((br q (k+1)).2.toNat=(br q k).2.toNat):=aa (by rw[n2]);have tq:=ab HO.o k;rw[l5 _ _ _ _ aB]at tq;have zq:=aH HO.o k;clear hM hO aA hs n1 n2 e1 e2 e3 nY
    go_wp2_with fail
    go_roundw
    ·
     refine⟨k+1,by omega,by go_num,aY.o.setCell (by dsimp only;omega) _,?_,?_⟩
     ·exact du.congr (du.kept HM.o (Below.heap_setCell _ _ _ _ (by dsimp only;omega))) (fun y=>(yZ.o y).symm) rJ.o.symm
     ·rw[aI HO.o,<-uE _ _ _ aB,rM.o]
    ·simp[intOf];omega
  ·obtain rfl:k=keys.length:=by omega
   have HO:=aa hO;have aY:=aa aA;clear hM hO aA
   go_wp2_with fail
   go_ret
   refine⟨_,rfl,?_,aY.o⟩;have h1:=HO.o;rw[p9,HF.o.2]at h1;refine rA (by simp[lg,pC]) hl h1 fun i hi=>?_
   have:=l3 (pD (fun k i=>decide (keys.getD k 0=keys.getD i 0)) keys.length) i hi;have oU:i<keys.length:=by simpa[lg,pC] using hi
   unfold bS lg;omega
theorem gi(l:List Int) (j:Nat) (h:j<l.length):(bD l)[j]?=some (.int .i64 (l.getD j 0)):=by simp[bD,h]
theorem l6(l:List Int) (j:Nat) (x:Int):(bD l).setIfInBounds j (.int .i64 x)=bD (l.set j x):=by
 unfold bD;rw[List.map_set,List.setIfInBounds_toArray]
structure Only (B:Nat) (w w':World):Prop where
 os:w'.os=w.os
 tape:w'.tape=w.tape
 output:w'.output=w.output
 size:w'.heap.size=w.heap.size
 same:∀ k,k≠B->w'.heap[k]?=w.heap[k]?
theorem Only.refl(B:Nat) (w:World):Only B w w:=⟨rfl,rfl,rfl,rfl,fun _ _=>rfl⟩
theorem Only.trans{B:Nat} {a b c:World} (h:Only B a b) (k:Only B b c):Only B a c:=⟨k.os.trans h.os,k.tape.trans h.tape,k.output.trans h.output,k.size.trans h.size,fun i hi=>(k.same i hi).trans (h.same i hi)⟩
theorem Only.drew{B:Nat} {a b:World} (h:Only B a b):Only B a b.drew:=⟨h.os,h.tape,h.output,h.size,h.same⟩
theorem Only.setCell{B:Nat} {a b:World} (h:Only B a b) (o:Nat) (v:Value):Only B a (b.setCell ⟨B,o,none⟩ v):=
 ⟨h.os,h.tape,h.output,by simpa using h.size,fun k hk=>(Below.heap_setCell _ _ _ _ hk).trans (h.same k hk)⟩
theorem Only.below{B n:Nat} {w a b:World} (h:Only B a b) (hb:Below n w a) (hn:n<=B):Below n w b:=
 ⟨h.os.trans hb.os,h.tape.trans hb.tape,h.output.trans hb.output,by rw[h.size];exact hb.size,fun k hk=>(h.same k (by omega)).trans (hb.block k hk)⟩
theorem xU(n bx B:Nat) (P:List Int) (hP:Par n P) (i:Nat) (hi:i<n) (w:World) (bR:bx≠B) (h1:w.heap[bx]?=some (.cells #[.slice (some ⟨B,0,none⟩) n n] 38)) (h2:w.heap[B]?=some (.cells (bD P) 3)) :
  Calls Tryz.prog 175 #[.int .i64 i,.pointer (some ⟨bx,0,none⟩)] w fun e w'=>e=.returned (.int .i64 (rootN P i))/\Only B w w'/\∃ P',w'.heap[B]?=some (.cells (bD P') 3)/\Par n P'/\∀ j,j<n->rootN P' j=rootN P j:=by
 have H1:=aa h1;have H2:=aa h2;have HP:=aa hP;clear h1 h2 hP
 go_enter Tryz.func175,Tryz.ntmps175
 go_wp2_with fail
 go_loopw [0] (fun x wr=>∃ (j:Nat) (Q:List Int),x=.int .i64 j/\j<n/\Only B w wr/\wr.heap[B]?=some (.cells (bD Q) 3)/\Par n Q/\(∀ j,j<n->rootN Q j=rootN P j)/\rootN P j=rootN P i) (fun x _=>(intOf x).toNat)
 ·exact⟨i,P,rfl,hi,Only.refl _ _,H2.o,HP.o,fun _ _=>rfl,rfl⟩
 ·
  obtain⟨j,Q,rfl,hj,ho,hB,hQ,hr,oO⟩:=hrel;have kV:wr.heap[bx]?=_:=(ho.same bx bR).trans H1.o;have tx:=ab kV 0;simp at tx;obtain⟨a0,a1⟩:=hQ.le j hj;obtain⟨A,hA⟩:∃ A:Nat,Q.getD j 0=A:=⟨(Q.getD j 0).toNat,by omega⟩;have hl:=hQ.len;have t1:=ab hB j;rw[gi _ _ (by omega),hA]at t1;have HO:=aa ho;have HB:=aa hB;have HQ:=aa hQ;have HR:=aa hr;have HJ:=aa oO;have HA:=aa hA;clear ho hQ hr oO kV;by_cases hd:A=j
  ·subst hd;clear hB;have jD:am (rootN P i=A):=aa (by rw[<-HJ.o,<-HR.o A hj];exact nC HA.o)
   go_wp2_with fail
   go_ret
   exact⟨by rw[jD.o];rfl,HO.o,Q,HB.o,HQ.o,HR.o⟩
  ·have hd':((A:Int) != (j:Int))=true:=by simp;omega
   have hAn:A<n:=by omega
   obtain⟨b0,b1⟩:=HQ.o.le A hAn;obtain⟨C,hC⟩:∃ C:Nat,Q.getD A 0=C:=⟨(Q.getD A 0).toNat,by omega⟩;have hCA:C<=A:=by omega
   have hAj:A<j:=by have:=HA.o;omega
   have t2:=ab hB A;rw[gi _ _ (by omega),hC]at t2;have zq:=aH hB j;have HC:=aa hC
   have ii:(wr.drew.setCell ⟨B,j,none⟩ (.int .i64 C)).heap[B]?=some (.cells (bD (Q.set j C)) 3):=by
    rw[aI (W:=wr.drew) hB,l6]
   have t3:=ab ii j;rw[gi _ _ (by simp;omega),fD _ _ _ _ _ (by omega),if_pos rfl]at t3;have hbx2:(wr.drew.setCell ⟨B,j,none⟩ (.int .i64 C)).heap[bx]?=_:=((HO.o.drew.setCell j (.int .i64 C)).same bx bR).trans H1.o;have tx2:=ab hbx2 0;simp at tx2;have HS:=aa ii;clear ii hbx2 hC hA hB
   go_wp2_with fail
   go_still_tail 10,(by kernel_rfl)
   change wpList _ _ _ _ _ wr.drew
   go_wp2_with fail
   go_roundw
   ·
    have hh:=N5 HQ.o j hj;rw[HA.o,Int.toNat_natCast,HC.o]at hh;refine⟨C,Q.set j C,rfl,by omega,HO.o.drew.setCell j _,HS.o,hh.1,fun x hx=>(hh.2 x hx).trans (HR.o x hx),?_⟩;have e1:=mR HQ.o j hj;have e2:=mR HQ.o A hAn;rw[HA.o,Int.toNat_natCast]at e1;rw[HC.o,Int.toNat_natCast]at e2;rw[<-HR.o C (by omega),e2,e1,HR.o j hj];exact HJ.o
   ·simp[intOf];omega
theorem Uni.same{a b:List Int} {n:Nat} {P Q:List Int} (h:Uni a b n P) (hq:Par n Q) (hr:∀ j,j<n->rootN Q j=rootN P j):Uni a b n Q:=⟨hq,fun i hi=>by rw[hr i hi];exact h.wr i hi⟩
theorem Rw{a b l:List Int} {n m j p q:Nat} {P Q Q3:List Int} (hU:Uni a b n Q) (h3:Par n Q3) (hr:∀ i,i<n->rootN Q3 i=rootN Q i) (Jj:jo n P Q) (hD:fE l n m Q) (hm:m<n) (hj:j<m) (e:l.getD j 0=l.getD m 0) (hjq:dM a b m j=true) (hp:rootN Q m=p) (hq:rootN Q j=q) :
  Uni a b n (Q3.set (max p q) (min p q:Nat))/\jo n P (Q3.set (max p q) (min p q:Nat))/\fE l n (m+1) (Q3.set (max p q) (min p q:Nat)):=by
 have hU3:=hU.same h3 hr;have hu:=hU3.union m j hm (by omega) hjq;have e1:rootN Q3 m=p:=(hr m hm).trans hp;have e2:rootN Q3 j=q:=(hr j (by omega)).trans hq;rw[e1,e2]at hu;have k1:jo n Q (Q3.set (max p q) (min p q:Nat)):=(J1 hr).trans (J2 hu.2);refine⟨hu.1,Jj.trans k1,hD.join hm hj e k1 ?_⟩;rw[hu.2 m hm,hu.2 j (by omega),e1,e2];rcases Nat.le_total p q with h|h
 ·rw[Nat.max_eq_right h,Nat.min_eq_left h];split<;>simp
 ·rw[Nat.max_eq_left h,Nat.min_eq_right h];simp
theorem OY{a b:List Int} {qa qb:Option Addr} {n ca cb j:Nat} {w:World} {P:List Int} (hj:j<2) (ha:aX w (.slice qa n ca) a) (hb:aX w (.slice qb n cb) b) (zj:a.length=n) (iM:b.length=n) (h1:1<=j->fE a n n P) :
  ∃ (l:List Int) (ql:Option Addr) (cl:Nat),(#[Value.slice qa n ca,Value.slice qb n cb])[j]?=some (.slice ql n cl)/\aX w (.slice ql n cl) l/\l.length=n/\(∀ i k,l.getD i 0=l.getD k 0->dM a b i k=true)/\∀ Q,fE l n n Q->jo n P Q->(1<=j+1->fE a n n Q)/\(2<=j+1->fE b n n Q):=by
 by_cases e:j=0
 ·subst e;exact⟨a,qa,ca,rfl,ha,zj,fun i k h=>by unfold dM;rw[decide_eq_true h];rfl,fun Q h _=>⟨fun _=>h,fun h'=>by omega⟩⟩
 ·obtain rfl:j=1:=by omega
  exact⟨b,qb,cb,rfl,hb,iM,fun i k h=>by unfold dM;rw[decide_eq_true h,Bool.or_true],fun Q h k=>⟨fun _=>(h1 (by omega)).keep k,fun _=>h⟩⟩
theorem OZ(va vb:Value) (a b:List Int) (w:World) (ha:aX w va a) (hb:aX w vb b) (pa:lZ a) (pb:lZ b) (hl:b.length=a.length) (hn:a.length<=256) :
  Calls Tryz.prog 130 #[va,vb] w fun e w'=>∃ u,e=.returned (.tuple #[u,.int .i64 0])/\aX w' u (kQ a b)/\Below w.heap.size w w':=by
 have HA:=aa ha;have HB:=aa hb;have PA:=aa pa;have PB:=aa pb;obtain⟨n,zj⟩:∃ n,a.length=n:=⟨_,rfl⟩;have iM:b.length=n:=hl.trans zj;obtain⟨qa,ca,rfl,_⟩:=ha.at;obtain⟨qb,cb,rfl,_⟩:=hb.at;have HC:=aa (OX _ _ a b w HA.o HB.o PA.o PB.o hl (by omega));have GM:n<=256:=by omega
 rw[zj]at HA HC ⊢;rw[iM]at HB HC ⊢;clear ha hb hl pa pb hn;have HNA:=aa zj;have Aq:=aa iM;clear zj iM;obtain⟨f,hf⟩:∃ f:Nat->Int,f=fun i:Nat=>(i:Int):=⟨_,rfl⟩
 have JQ:am (∀ i,f i=(i:Int)):=aa fun i=>by rw[hf]
 clear hf;have fX:=js f n GM;have eg:=enters_of Tryz.func175 (by kernel_rfl) rfl
 go_enter Tryz.func130,Tryz.ntmps130
 go_wp2_with fail
 refine HC.o.mono ?_;rintro e w1 ⟨rfl,aM⟩
 go_wp2_with fail
 clear fX
 refine bF (fun W=>Below w.heap.size w W/\W.heap[w1.heap.size]?=some (.cells (fC n f 0) 3)/\W.heap[w1.heap.size+1]?=some (.cells #[.slice (some ⟨w1.heap.size,0,none⟩) n n] 38))
  ⟨ae aM (by go_grown),aq _ (ap _ _),bu _ _ _⟩ (fun W0 bd=>?_)
 obtain⟨aK,hH,vy⟩:=bd;have hBw:=aM.size;generalize w1.heap.size=B at hH vy hBw;clear aM w1;have iO:=aa (And.intro aK (And.intro hH vy));have tx0:=ab vy 0;simp at tx0;clear aK hH vy
 go_wp2_with fail
 clear tx0
 go_loopw [32] (fun i wr=>∃ k:Nat,k<=n/\i=.int .i64 k/\Below w.heap.size w wr/\wr.heap[B]?=some (.cells (fC n f k) 3)/\wr.heap[B+1]?=some (.cells #[.slice (some ⟨B,0,none⟩) n n] 38)) (fun i _=>n - (intOf i).toNat)
 ·exact⟨0,by omega,rfl,iO.o.1,iO.o.2.1,iO.o.2.2⟩
 ·
  clear iO;obtain⟨k,hk,rfl,aA,hO,hX⟩:=hrel;have tx:=ab hX 0;simp at tx;have eQ:=aC hX;by_cases aB:k<n
  ·have tq:=ab hO k;rw[l5 _ _ _ _ aB]at tq;have zq:=aH hO k;have HO:=aa hO;have HX:=aa hX;have aY:=aa aA;clear hO hX aA
   go_wp2_with fail
   go_roundw
   ·exact⟨k+1,by omega,by go_num,aY.o.setCell (by dsimp only;omega) _,by rw[aI HO.o,<-JQ.o k,uE _ _ _ aB],aO HX.o (by omega) _ _⟩
   ·simp[intOf];omega
  obtain rfl:k=n:=by omega
  clear tx;have qW:=hO;rw[p9]at qW;have hU:=Uni.start a b k
  have HU:am (Uni a b k ((List.range k).map f)):=aa (by
   have e:(List.range k).map f=(List.range k).map fun i:Nat=>(i:Int):=List.map_congr_left fun i _=>JQ.o i
   rw[e];exact hU)
  have HO:=aa qW;have HX:=aa hX;have aY:=aa aA;clear hO qW hX aA hU;have mM:=aY.o.size
  go_wp2_with fail
  refine bF (fun W=>Below w.heap.size w W/\W.heap[wr.heap.size]?=some (.cells #[.slice qa k ca,.slice qb k cb] 38)/\W.heap[B+1]?=some (.cells #[.slice (some ⟨B,0,none⟩) k k] 38)/\W.heap[B]?=some (.cells (bD ((List.range k).map f)) 3)) ⟨aY.o.alloc mM _,ap _ _,aq _ HX.o,aq _ HO.o⟩ (fun W1 cO=>?_);have hLB:=eQ;generalize wr.heap.size=L at cO mM hLB;have gD:=aa cO;clear cO HO HX aY eQ wr W0
  go_loopw [45] (fun i wr=>∃ (j:Nat) (P:List Int),j<=2/\i=.int .i64 j/\Below w.heap.size w wr/\wr.heap[L]?=some (.cells #[.slice qa k ca,.slice qb k cb] 38)/\wr.heap[B+1]?=some (.cells #[.slice (some ⟨B,0,none⟩) k k] 38)/\wr.heap[B]?=some (.cells (bD P) 3)/\Uni a b k P/\(1<=j->fE a k k P)/\(2<=j->fE b k k P)) (fun i _=>2 - (intOf i).toNat)
  ·exact⟨0,_,by omega,rfl,gD.o.1,gD.o.2.1,gD.o.2.2.1,gD.o.2.2.2,HU.o,fun h=>by omega,fun h=>by omega⟩
  ·
   clear gD HU;obtain⟨j,P,hj,rfl,aA,hL,hX,hO,hU,Tt,FD⟩:=hrel;by_cases aB:j<2
   ·obtain⟨l,ql,cl,sR,yv,FA,hp4,IZ⟩:=OY aB HA.o HB.o HNA.o Aq.o Tt;have tL:=ab hL j;rw[sR]at tL;have Dm:=@GE Tryz.prog;have HP2:=aa yv;have XD:=aa FA;have HP4:=aa hp4;have HP5:=aa IZ;have HL:=aa hL;have HX:=aa hX;have HO:=aa hO;have HU:=aa hU;have aY:=aa aA;have Nl:=aC hL;have Es:=aA.size;clear sR yv FA hp4 IZ hL hX hO hU aA Tt FD
    go_wp2_with fail
    clear Dm tL;obtain⟨key,mO⟩:∃ key:Nat->Int,key=fun i=>l.getD i 0:=⟨_,rfl⟩
    have HK:am (∀ i,key i=l.getD i 0):=aa fun i=>by rw[mO]
    clear mO;refine bF (fun W=>Below w.heap.size w W/\W.heap[L]?=some (.cells #[.slice qa k ca,.slice qb k cb] 38)/\W.heap[B+1]?=some (.cells #[.slice (some ⟨B,0,none⟩) k k] 38)/\W.heap[B]?=some (.cells (bD P) 3)/\du W wr.heap.size (dI key f 0) 0) ⟨aY.o.alloc Es _,aq _ HL.o,aq _ HX.o,aq _ HO.o,du.new wr⟩ (fun W2 fg=>?_);have hML:=Nl;generalize wr.heap.size=M at fg hML Es;have cS:=aa fg;clear fg HL HX HO aY Nl wr;have hd:decide ((j:Int)<2)=true:=decide_eq_true (by omega);simp only[hd];clear hd
    go_loopw [52] (fun i wr=>∃ (m:Nat) (Q:List Int),m<=k/\i=.int .i64 m/\Below w.heap.size w wr/\wr.heap[L]?=some (.cells #[.slice qa k ca,.slice qb k cb] 38)/\wr.heap[B+1]?=some (.cells #[.slice (some ⟨B,0,none⟩) k k] 38)/\wr.heap[B]?=some (.cells (bD Q) 3)/\Uni a b k Q/\jo k P Q/\fE l k m Q/\∃ c,du wr M (dI key f m) c) (fun i _=>k - (intOf i).toNat)
    ·exact⟨0,P,by omega,rfl,cS.o.1,cS.o.2.1,cS.o.2.2.1,cS.o.2.2.2.1,HU.o,jo.refl _ _,fun i _ _ _ h=>by omega,0,cS.o.2.2.2.2⟩
    ·
     clear cS;obtain⟨m,Q,hm,rfl,aA,hL,hX,hO,Tn,Jj,QE,c,hM⟩:=hrel;have HL:=aa hL;have HX:=aa hX;have HO:=aa hO;have WB:=aa Tn;have aY:=aa aA;have HPQ:=aa Jj;have HDQ:=aa QE;have hszM:=hM.lt;have hszr2:=aA.size;by_cases fX:m<k
     ·have mm:m<l.length:=by have:=XD.o;omega
      obtain⟨ql',cl',e',_,_,ep⟩:=HP2.o.at;injection e' with e1 e2 e3
      subst e1;clear e2 e3;obtain⟨b1,o1,rfl,h1⟩:=ep m mm;rw[Nat.mul_one]at h1;have c1:=ak aA h1.1;have nY:key m=l[m]:=(HK.o m).trans (az 0 mm);clear h1 ep;generalize l[m]=x at c1 nY;clear mm;have y':=DO (mt:=245) (kt:=3) (vt:=3) Tryz.underlying245 Tryz.underlying3 (fun w=>by kernel_rfl) hM x;have nd:=aa nY;have HM:=aa hM;cases hs:dI key f m x with
      | none=>
       rw[hs]at y';obtain⟨o,LI,rN⟩:=uG (mt:=245) (kt:=3) (vt:=3) Tryz.underlying245 Tryz.underlying3 hM x (m:Int);have wV:=aa rN
       have Bv:am (∀ y,dI key f (m+1) y=if y=x then some (m:Int) else dI key f m y):=aa (by
        have:=xG (key:=key) (f:=f) (k:=m) (by rw[nY];exact hs);rw[nY,JQ.o m]at this
        exact this)
       have vL:am (∀ k,k<m->l.getD k 0≠l.getD m 0):=aa (fun k hk=>by
        have:=BO.1 hs k hk;rw[HK.o k]at this
        rw[<-HK.o m,nY];exact this)
       clear rN hM hL hX hO Tn Jj QE hs nY aA
       go_wp2_with fail
       go_roundw
       ·exact⟨m+1,Q,by omega,by go_num,eT (by omega) aY.o,(World.putObj_heap_other (by omega)).trans HL.o,(World.putObj_heap_other (by omega)).trans HX.o,(World.putObj_heap_other (by omega)).trans HO.o,WB.o,HPQ.o,HDQ.o.fresh vL.o,_,wV.o.congr (fun y=>(Bv.o y).symm) rfl⟩
       ·simp[intOf];omega
      | some z=>
       rw[hs]at y';have yZ:am (∀ y,dI key f (m+1) y=dI key f m y):=aa (xH (z:=z) (by rw[nY];exact hs));obtain⟨i,hi,_,e2,e3⟩:=q8 hs;rw[JQ.o i]at e3;subst e3;have HE:am (l.getD i 0=l.getD m 0):=aa (by rw[<-HK.o i,<-HK.o m,e2,nY]);have kI:i<k:=by omega
       clear hM hL hX hO Tn Jj QE hs nY aA e2
       go_wp2_with fail
       refine(xU k (B+1) B Q WB.o.par m fX wr (by omega) HX.o HO.o).mono ?_;rintro e w2 ⟨rfl,rR,Q2,qW,Dy,K5⟩;have eP:=aa rR;have j7:=aa qW;have Ni:=aa Dy;have eJ:=aa K5;clear rR qW Dy K5;obtain⟨p,hp⟩:∃ p,rootN Q m=p:=⟨_,rfl⟩;rw[hp];have l7:p<k:=by rw[<-hp];exact ry fX
       have HP:=aa hp;clear hp y'
       go_wp2_with fail
       refine(xU k (B+1) B Q2 Ni.o i kI w2 (by omega) ((eP.o.same _ (by omega)).trans HX.o) j7.o).mono ?_;rintro e w3 ⟨rfl,ho3,Q3,tD,M9,Lh⟩;obtain⟨q,hq⟩:∃ q,rootN Q2 i=q:=⟨_,rfl⟩;rw[hq];have AK:q<k:=by rw[<-hq];exact ry kI
       have ho:=eP.o.trans ho3;have dK:=fun e=>Rw (l:=l) (m:=m) (j:=i) WB.o M9 (fun x hx=>(Lh x hx).trans (eJ.o x hx)) HPQ.o HDQ.o fX hi e (HP4.o m i HE.o.symm) HP.o ((eJ.o i kI).symm.trans hq)
       have eF:=aa (dK HE.o);have vB:=aa (And.intro ((ho.same _ (by omega)).trans HL.o) (And.intro ((ho.same _ (by omega)).trans HX.o) (HM.o.kept (ho.same M (by omega)))));have dT:=aa (ho.below aY.o (by omega));have yL:=aa tD;have tj:=M9.len;have tx:=ab vB.o.2.1 0;simp at tx;have Xj:=aa tj;clear ho3 tD M9 Lh hq ho dK tj
       have NK:∀ oU lo:Nat,oU=max p q->lo=min p q->∃ (m':Nat) (Q':List Int),m'<=k/\Value.int .i64 ((m:Int)+1)=.int .i64 m'/\Below w.heap.size w (w3.setCell ⟨B,oU,none⟩ (.int .i64 lo))/\(w3.setCell ⟨B,oU,none⟩ (.int .i64 lo)).heap[L]?=some (.cells #[.slice qa k ca,.slice qb k cb] 38)/\(w3.setCell ⟨B,oU,none⟩ (.int .i64 lo)).heap[B+1]?=some (.cells #[.slice (some ⟨B,0,none⟩) k k] 38)/\(w3.setCell ⟨B,oU,none⟩ (.int .i64 lo)).heap[B]?=some (.cells (bD Q') 3)/\Uni a b k Q'/\jo k P Q'/\fE l k m' Q'/\∃ c,du (w3.setCell ⟨B,oU,none⟩ (.int .i64 lo)) M (dI key f m') c:=by
        rintro oU lo rfl rfl;exact⟨m+1,_,by omega,by go_num,dT.o.setCell (by dsimp only;omega) _,aO vB.o.1 (by omega) _ _,aO vB.o.2.1 (by omega) _ _,by rw[aI yL.o,l6],eF.o.1,eF.o.2.1,eF.o.2.2,c,(vB.o.2.2.kept (Below.heap_setCell _ _ _ _ (by dsimp only;omega))).congr (fun y=>(yZ.o y).symm) rfl⟩
       have jD:=aa NK;clear NK;rcases Nat.lt_trichotomy p q with Li|Li|Li
       ·have tq:=ab yL.o q;rw[gi _ _ (by have:=Xj.o;omega)]at tq;have zq:=aH yL.o q;have hpq':¬ (q:Int)<p:=by omega
        have Qe:max (p:Int) (q:Int)=(q:Int):=Int.max_eq_right (by omega);have uV:min (p:Int) (q:Int)=(p:Int):=Int.min_eq_left (by omega)
        go_wp2_with fail
        go_roundw
        ·exact jD.o q p (by omega) (by omega)
        ·simp[intOf];omega
       ·subst Li;have tq:=ab yL.o p;rw[gi _ _ (by have:=Xj.o;omega)]at tq;have zq:=aH yL.o p
        go_wp2_with fail
        go_roundw
        ·exact jD.o p p (by omega) (by omega)
        ·simp[intOf];omega
       ·have tq:=ab yL.o p;rw[gi _ _ (by have:=Xj.o;omega)]at tq;have zq:=aH yL.o p;have hpq':¬ (p:Int)<q:=by omega
        have Qe:max (p:Int) (q:Int)=(p:Int):=Int.max_eq_left (by omega);have uV:min (p:Int) (q:Int)=(q:Int):=Int.min_eq_right (by omega)
        go_wp2_with fail
        go_roundw
        ·exact jD.o p q (by omega) (by omega)
        ·simp[intOf];omega
     ·obtain rfl:m=k:=by omega
      clear hM
      go_wp2_with fail
      go_roundw
      ·exact⟨j+1,Q,by omega,by go_num,aA,hL,hX,hO,Tn,(HP5.o Q QE Jj).1,(HP5.o Q QE Jj).2⟩
      ·simp[intOf];omega
   ·obtain rfl:j=2:=by omega
    have HX:=aa hX;have HO:=aa hO;have HU:=aa hU;have aY:=aa aA;have yU:=aa (Tt (by omega));have X6:=aa (FD (by omega));have Nl:=aC hL;have Es:=aA.size;clear hL hX hO hU aA Tt FD;obtain⟨f2,FB⟩:∃ f2:Nat->Int,f2=fun i:Nat=>(rootN P i:Int):=⟨_,rfl⟩
    have xr:am (∀ i,f2 i=(rootN P i:Int)):=aa fun i=>by rw[FB]
    have HJ:am (lg ((List.range k).map f2)=kQ a b):=aa (by rw[FB];exact QX HNA.o HU.o yU.o X6.o);clear FB;have fX:=js f2 k GM
    go_wp2_with fail
    clear fX;refine bF (fun W=>Below w.heap.size w W/\W.heap[B+1]?=some (.cells #[.slice (some ⟨B,0,none⟩) k k] 38)/\W.heap[B]?=some (.cells (bD P) 3)/\W.heap[wr.heap.size]?=some (.cells (fC k f2 0) 3)) ⟨aY.o.alloc Es _,aq _ HX.o,aq _ HO.o,ap _ _⟩ (fun W2 fg=>?_);generalize wr.heap.size=R at fg Nl Es;have cS:=aa fg;clear fg HX HO aY wr
    go_loopw [88] (fun i wr=>∃ (m:Nat) (Q:List Int),m<=k/\i=.int .i64 m/\Below w.heap.size w wr/\wr.heap[B+1]?=some (.cells #[.slice (some ⟨B,0,none⟩) k k] 38)/\wr.heap[B]?=some (.cells (bD Q) 3)/\Par k Q/\(∀ i,i<k->rootN Q i=rootN P i)/\wr.heap[R]?=some (.cells (fC k f2 m) 3)) (fun i _=>k - (intOf i).toNat)
    ·exact⟨0,P,by omega,rfl,cS.o.1,cS.o.2.1,cS.o.2.2.1,HU.o.par,fun _ _=>rfl,cS.o.2.2.2⟩
    ·
     clear cS;obtain⟨m,Q,hm,rfl,aA,hX,hO,hQ,hr,hR⟩:=hrel;by_cases fX:m<k
     ·have HR:=aa hR;have HX:=aa hX;have HO:=aa hO;have aY:=aa aA;have xb:=aa hr;have HRT:am (rootN Q m=rootN P m):=aa (hr m fX);have hc:=xU k (B+1) B Q hQ m fX wr (by omega) hX hO;rw[HRT.o]at hc;have HC:=aa hc;have HV:=aa (xr.o m);clear hR hX hO aA hr hQ hc;generalize rootN P m=p at HC HV HRT
      go_wp2_with fail
      refine HC.o.mono ?_;rintro e w2 ⟨rfl,rR,Q2,qW,Dy,K5⟩;have cX:=aa (rR.below aY.o (by omega));have fZ:=aa ((rR.same _ (by omega)).trans HX.o);have l9:=(rR.same R (by omega)).trans HR.o;have eJ:=aa l9;have tq:=ab l9 m;rw[l5 _ _ _ _ fX]at tq;have zq:=aH l9 m;have eP:=aa qW;have Ni:=aa Dy;have Lf:=aa K5;clear rR qW Dy K5 l9
      go_wp2_with fail
      go_roundw
      ·(repeat apply Exists.intro);refine⟨?_,rfl⟩;exact⟨m+1,Q2,by omega,by go_num,cX.o.setCell (by dsimp only;omega) _,aO fZ.o (by omega) _ _,aO eP.o (by omega) _ _,Ni.o,fun i hi=>(Lf.o i hi).trans (xb.o i hi),by rw[aI eJ.o,<-uE _ _ _ fX,HV.o]⟩
      ·simp[intOf];omega
     ·obtain rfl:m=k:=by omega
      rw[p9]at hR
      have HRI:am (aX wr (.slice (some ⟨R,0,none⟩) m m) ((List.range m).map f2)):=aa (rA (by simp) GM hR fun i hi=>by
       rw[show ((List.range m).map f2).getD i 0=f2 i by simp at hi;simp[hi],xr.o];have:=G0 P i;simp at hi
       exact⟨by omega,by omega⟩)
      have aY:=aa aA;clear hR hX hO hQ hr aA
      go_wp2_with fail
      refine(Kb _ _ wr HRI.o (by simpa using GM)).mono ?_;rintro e w2 ⟨u,rfl,hu,aZ⟩;rw[HJ.o]at hu;have LL:=aa hu;obtain⟨_,_,rfl,_⟩:=hu.at;clear hu
      go_wp2_with fail
      go_ret2
      exact⟨_,rfl,LL.o,ae aY.o aZ⟩
end Go.Proofs.YtmeaoneaephjeaaGreatDoor
namespace Go.Proofs.YtmeaoneaephjeaaGreatDoor
open Go.RowKit Go Go.Shelf
abbrev Ae(p:Pb) (vc vs:Value):Array Value:=#[.int .i64 p.t.n,.int .i64 p.t.ins,.int .i64 p.t.outs,vc,.int .i64 p.a.n,vs,.int .i64 p.rounds]
theorem gH{p:Pb} (h:probE p=0):taskE p.t=0/\advE p.a=0/\p.t.n=p.a.n/\0<=p.rounds/\p.rounds<=6:=by
 unfold probE at h;split at h
 ·rename_i h1;exact absurd h h1
 rename_i h1;split at h
 ·rename_i h2;exact absurd h h2
 rename_i h2;split at h
 ·omega
 split at h
 ·omega
 exact⟨by simpa using h1,by simpa using h2,by omega,by omega,by omega⟩
theorem up_words:Up (mC 7 oZ):=zl up_round
def H6(w:World) (b o:Nat) (x:Vw):Prop:=
 gd w b o x.p/\gd w b (o+1) x.k/\gd w b (o+2) x.i/\gd w b (o+3) x.h0/\gd w b (o+4) x.h1/\gd w b (o+5) x.h2/\gd w b (o+6) x.h3/\gd w b (o+7) x.h4
theorem up_view:Up H6:=fun _ _ _ _ _ hb ⟨h0,h1,h2,h3,h4,h5,h6,h7⟩=>
 ⟨up_int _ _ _ _ _ hb h0,up_int _ _ _ _ _ hb h1,up_int _ _ _ _ _ hb h2,up_int _ _ _ _ _ hb h3,up_int _ _ _ _ _ hb h4,up_int _ _ _ _ _ hb h5,up_int _ _ _ _ _ hb h6,up_int _ _ _ _ _ hb h7⟩
abbrev mX:=fe 8 H6
abbrev Vw.c(v:Vw):Array Value:=#[.int .i64 v.p,.int .i64 v.k,.int .i64 v.i,.int .i64 v.h0,.int .i64 v.h1,.int .i64 v.h2,.int .i64 v.h3,.int .i64 v.h4]
abbrev Vw.v(v:Vw):Value:=.agg v.c
def eZ(xs:List Vw):List Value:=xs.flatMap fun x=>x.c.toList
theorem Fa(a b:List Vw):eZ (a++b)=eZ a++eZ b:=by simp[eZ]
theorem Fb(xs:List Vw):∀ u∈eZ xs,u.oneCell'=true:=by
 intro u hu;obtain⟨x,_,hx⟩:=List.mem_flatMap.1 hu;simp at hx;rcases hx with h|h|h|h|h|h|h|h<;>subst h<;>rfl
def VO(w:World) (b o:Nat) (x:Ex):Prop:=gd w b o x.c/\mC 7 oZ w b (o+1) x.word/\ux w b (o+2) x.views
theorem up_ex:Up VO:=fun _ _ _ _ _ hb h=>⟨up_int _ _ _ _ _ hb h.1,up_words _ _ _ _ _ hb h.2.1,up_vecs _ _ _ _ _ hb h.2.2⟩
abbrev zx:=fe 3 VO
abbrev bZ(p:Pb) (vc vs:Value) (n:Int) (vt ve:Value):Array Value:=Ae p vc vs++#[.int .i64 n,vt,ve]
abbrev zeroPb:Pb:=⟨⟨0,0,0,[]⟩,⟨0,[]⟩,0⟩
abbrev zeroSys:Array Value:=bZ zeroPb (.slice none 0 0) (.slice none 0 0) 0 (.slice none 0 0) (.slice none 0 0)
structure IsSys (w:World) (s:Sys) (vc vs vt ve:Value):Prop where
 cases:bN w vc s.prob.t.cases
 states:bz w vs s.prob.a.states
 tab:mX w vt s.tab
 ex:zx w ve s.ex
theorem IsSys.up{w w':World} {s:Sys} {vc vs vt ve:Value} (h:IsSys w s vc vs vt ve) (hb:Below w.heap.size w w'):IsSys w' s vc vs vt ve:=⟨h.cases.up up_case hb,h.states.up up_moves hb,h.tab.up up_view hb,h.ex.up up_ex hb⟩
abbrev uL(w:World) (base:Nat) (v:Value) (l:List (List Rd)):Prop:=cB 87 141 7 cZ w base v l
abbrev cT(w:World) (base:Nat) (v:Value) (l:List (List Int)):Prop:=cB 38 3 1 (fun l=>l.map (Value.int .i64)) w base v l
def O1(w:World) (b o:Nat) (x:Lk):Prop:=gd w b o x.x/\gd w b (o+1) x.p
theorem up_link:Up O1:=fun _ _ _ _ _ hb h=>⟨up_int _ _ _ _ _ hb h.1,up_int _ _ _ _ _ hb h.2⟩
abbrev bJ:=fe 2 O1
abbrev Lk.c(y:Lk):Array Value:=#[.int .i64 y.x,.int .i64 y.p]
abbrev Lk.v(y:Lk):Value:=.agg y.c
def cK(l:List Lk):List Value:=l.flatMap fun y=>y.c.toList
theorem kn(xs:List Lk):(cK xs).length=xs.length * 2:=by
 induction xs with
 | nil=>rfl
 | cons a r ih=>
  have:cK (a :: r)=a.c.toList++cK r:=rfl;rw[this,List.length_append,ih];simp;omega
theorem nK(a b:List Lk):cK (a++b)=cK a++cK b:=by simp[cK]
theorem B7(xs:List Lk):∀ u∈cK xs,u.oneCell'=true:=by
 intro u hu;obtain⟨x,_,hx⟩:=List.mem_flatMap.1 hu;simp at hx;rcases hx with h|h<;>subst h<;>rfl
def fr(s:Sys) (e:Nat):List Int:=(List.range (nS s)).map fun p=>if hasB (fltS s e) p then -1 else finS s e p
def rD(s:Sys):List (List Int):=(List.range (eS s)).map (fr s)
def DS(s:Sys):List Int:=(List.range (eS s)).map fun e=>((ie s e:Nat):Int)
structure FinAt (w:World) (B:Nat) (s:Sys):Prop where
 ex:∃ vl,w.heap[B]?=some (.cells #[.int .i64 (nS s),vl] 201)/\ez w vl (rD s)
theorem FinAt.up{w w':World} {B:Nat} {s:Sys} (h:FinAt w B s) (hb:Below w.heap.size w w'):FinAt w' B s:=by
 obtain⟨vl,h1,h2⟩:=h.ex;exact⟨vl,af hb h1,h2.up up_ints hb⟩
structure ScAt (w:World) (B:Nat) (s:Sys):Prop where
 ex:∃ vc vs vt ve vv vl,w.heap[B]?=some (.cells (bZ s.prob vc vs s.n vt ve++#[vv,vl]) 98)/\IsSys w s vc vs vt ve/\aX w vv (DS s)/\aX w vl (partsS s)
theorem ScAt.up{w w':World} {B:Nat} {s:Sys} (h:ScAt w B s) (hb:Below w.heap.size w w'):ScAt w' B s:=by
 obtain⟨vc,vs,vt,ve,vv,vl,h1,h2,h3,h4⟩:=h.ex;exact⟨vc,vs,vt,ve,vv,vl,af hb h1,h2.up hb,h3.up up_int hb,h4.up up_int hb⟩
theorem gI{w:World} {base:Nat} {v:Value} {l:List Int} (h:aJ w base 3 1 v l.length (l.map (Value.int .i64))) (hr:∀ x∈l,bS x) (hn:l.length<=17592186044416):aX w v l:=by
 have aT:=fun i (hi:i<l.length)=>h.cell i (.int .i64 l[i]) (by simp[hi])
 rcases h.2 with ⟨rfl,hz⟩|⟨g,cap,cur,fz,rfl,_,hg,_,kE,jc,_,_⟩
 ·refine⟨none,0,by rw[hz],⟨by omega,by omega,fun _=>rfl⟩,hn,fun i x hi=>?_⟩;have:=(List.getElem?_eq_some_iff.1 hi).1;omega
 ·refine⟨some ⟨g,0,none⟩,cap,rfl,⟨kE,by simp only[maxLen]at jc;omega,fun e=>by cases e⟩,hn,fun i x hi=>⟨g,0,rfl,?_⟩⟩;obtain⟨gX,rfl⟩:=List.getElem?_eq_some_iff.1 hi;obtain⟨g',c',e1,e2⟩:=aT i gX;have:g=g':=by simp at e1;exact e1.1
  subst this;exact⟨by rw[Nat.mul_one,Nat.zero_add];exact e2,hr _ (List.getElem_mem gX)⟩
theorem aJ.keep{w w':World} {base sz:Nat} {e:TypeId} {v:Value} {n:Nat} {xs:List Value} (h:aJ w base e sz v n xs) (hk:∀ (g:Nat) (o:Obj),v.ownBlock=some g->w.heap[g]?=some o->w'.heap[g]?=some o):aJ w' base e sz v n xs:=by
 obtain⟨hl,h⟩:=h;refine⟨hl,?_⟩;rcases h with h|⟨g,cap,cur,fz,rfl,h2,h3,h4⟩
 ·exact .inl h
 ·exact .inr ⟨g,cap,cur,fz,rfl,h2,hk g _ rfl h3,h4⟩
theorem uM(p:Pb) (vc vs:Value) (w:World) (hc:bN w vc p.t.cases) (hs:bz w vs p.a.states) (hN:movesN p.a.states<2305843009213693952) :
  Calls Tryz.prog 71 #[nJ p vc vs] w fun e w'=>e=.returned (.int .i64 (probE p))/\Below w.heap.size w w':=by
 have GC:=aa hc;have GS:=aa hs;obtain⟨pc,cc,rfl,_⟩:=hc.at;obtain⟨ps,cs,rfl,_⟩:=hs.at;clear hc hs;have HV:am (probE p=if taskE p.t≠0 then taskE p.t else if advE p.a≠0 then advE p.a else if p.t.n≠p.a.n then 22 else if p.rounds<0\/6<p.rounds then 2 else 0):=by exact rfl
 go_enter Tryz.func71,Tryz.ntmps71
 go_wp2_with fail
 refine aQ (fun W=>Below w.heap.size w W/\W.heap[w.heap.size]?=some (.cells (Ae p (.slice pc p.t.cases.length cc) (.slice ps p.a.states.length cs)) 29)) ⟨by go_grown,ap _ _⟩ (fun W0 bd=>?_);obtain⟨aK,bK⟩:=bd;refine(DL p.t _ W0 (GC.o.up up_case aK)).mono ?_;rintro e w1 ⟨rfl,aM⟩;have gl:=ae aK aM;have eO:=af aM bK;have t1:=ab eO;generalize taskE p.t=et at HV;have dP:=aa eO;clear eO bK;by_cases oD:et=0
 case neg=>
  have NR:(et != 0)=true:=by simpa using oD
  go_wp2_with fail
  go_ret
  exact⟨aG (by rw[HV.o,if_pos oD]),gl⟩
 subst oD
 go_wp2_with fail
 refine(Gn p.a _ w1 (GS.o.up up_moves gl) hN).mono ?_;rintro e w2 ⟨rfl,aZ⟩;have kr:=ae gl aZ;have t2:=ab (af aZ dP.o);clear t1;generalize advE p.a=ea at HV;by_cases xd:ea=0
 case neg=>
  have hea':(ea != 0)=true:=by simpa using xd
  go_wp2_with fail
  go_ret
  exact⟨aG (by rw[HV.o,if_neg (by simp),if_pos xd]),kr⟩
 subst xd
 go_wp2_with fail
 all_goals
  go_ret
  refine⟨aG ?_,kr⟩;rw[HV.o]
  go_light
  grind
theorem Kc{p:Pb} (h:probE p=0):∃ n:Nat,p.rounds=n/\n<=6:=⟨p.rounds.toNat,by have:=gH h;omega,by have:=gH h;omega⟩
def numberP(p:Pb):Int:=p.t.cases.length * numberS p.a p.rounds.toNat
theorem Mm(a:Adv) (n:Nat):0<=numberS a n/\numberS a n<=4097:=DM (Hu a n) 0
theorem sG(p:Pb) (vc vs:Value) (w:World) (hc:bN w vc p.t.cases) (hs:bz w vs p.a.states) (hp:probE p=0) :
  Calls Tryz.prog 72 #[nJ p vc vs,.int .i64 4096] w fun e w'=>e=.returned (.int .i64 (numberP p))/\Below w.heap.size w w':=by
 obtain⟨ht,ha,zj,_,_⟩:=gH hp;clear zj;obtain⟨h1,h2,_⟩:=ik ha;have bU:=(fm ht).2.2.2.1;obtain⟨n,hn,hn6⟩:=Kc hp;have HV:am (numberP p=p.t.cases.length * numberS p.a n):=by(have h:numberP p=p.t.cases.length * numberS p.a n:=by(unfold numberP;rw[hn,Int.toNat_natCast]));exact h
 have bQ:=aa (fun W (hb:Below w.heap.size w W)=>DN p.a vs n hn6 W (hs.up up_moves hb) h2 h1);have jw:=Mm p.a n;generalize numberS p.a n=nn at bQ HV jw;obtain⟨pc,cc,rfl,_⟩:=hc;obtain⟨ps,cs,rfl,_⟩:=hs
 have HM:am (IntKind.i64.wrap ((p.t.cases.length:Int) * nn)=p.t.cases.length * nn):=by
  have h:IntKind.i64.wrap ((p.t.cases.length:Int) * nn)=p.t.cases.length * nn:=by
   have h1:(0:Int)<=(p.t.cases.length:Int) * nn:=Int.mul_nonneg (by omega) (by omega);have h2:(p.t.cases.length:Int) * nn<=1024 * 4097:=Int.mul_le_mul (by omega) (by omega) (by omega) (by omega);exact IntWalk.i64_in _ (by omega)
  exact h
 rw[<-hn]at bQ;clear ht ha h1 h2 hp jw hn
 go_enter Tryz.func72,Tryz.ntmps72
 go_wp2_with fail
 refine bF (fun V=>Below w.heap.size w V/\V.heap[w.heap.size]?=some (.cells (Ae p (.slice pc p.t.cases.length cc) (.slice ps p.a.states.length cs)) 29)) ⟨by go_grown,ap _ _⟩ (fun V hV=>?_);obtain⟨aK,bK⟩:=hV;have qU:=aa (fun x:ExtW V=>Calls.ext_of (bQ.o x.val (ae aK x.ext)));have r1:∀ x:ExtW V,∀ o,x.val.cell? ⟨w.heap.size,o,none⟩=_:=fun x=>ab (af x.ext bK)
 have hM:=HM.o;clear bK;refine aF (by kernel_rfl) (by kernel_rfl) ?_
 repeat (go_big_quiet_step ((go_at_call 116;exact qU.o _)))
 refine wpQuiet_nil ?_;intro _ eE;obtain⟨xq,dj⟩:=eE;subst dj;clear r1 bQ hM
 go_wp2_with fail
 go_ret
 exact⟨aG (by rw[HV.o]),ae aK xq.ext⟩
def fewPB(p:Pb):Bool:=
 if fewTB p.t=false then false else if sA p.a=false then false else if 3<p.t.n/\p.t.n<=5 then false
 else if probE p≠0 then true else decide (numberP p<=60) || decide (4096<numberP p)
theorem H7(p:Pb) (vc vs:Value) (w:World) (hc:bN w vc p.t.cases) (hs:bz w vs p.a.states) :
  Calls Tryz.prog 34 #[nJ p vc vs] w fun e w'=>e=.returned (.bool (fewPB p))/\Below w.heap.size w w':=by
 have GC:=aa hc;have GS:=aa hs;obtain⟨pc,cc,rfl,_⟩:=hc;obtain⟨ps,cs,rfl,_⟩:=hs;have HV:am (fewPB p=if fewTB p.t=false then false else if sA p.a=false then false else if 3<p.t.n/\p.t.n<=5 then false else if probE p≠0 then true else decide (numberP p<=60) || decide (4096<numberP p)):=by exact rfl
 have HF:am (sA p.a=(decide (p.a.states.length<=8)&&decide (movesN p.a.states<=40))):=by exact rfl
 go_enter Tryz.func34,Tryz.ntmps34
 go_wp2_with fail
 refine aQ (fun W=>Below w.heap.size w W/\W.heap[w.heap.size]?=some (.cells (Ae p (.slice pc p.t.cases.length cc) (.slice ps p.a.states.length cs)) 29)) ⟨by go_grown,ap _ _⟩ (fun W0 bd=>?_);obtain⟨aK,bK⟩:=bd;refine(Hs p.t _ W0 (GC.o.up up_case aK)).mono ?_;rintro e w1 ⟨rfl,aM⟩;have gl:=ae aK aM;have dP:=aa (af aM bK);have t1:=ab dP.o;clear bK;generalize fewTB p.t=ft at HV;cases ft with
 | false=>
  go_wp2_with fail
  go_ret
  exact⟨aS (by rw[HV.o];rfl),gl⟩
 | true=>
 go_wp2_with fail
 refine(J8 p.a _ w1 (GS.o.up up_moves gl)).mono ?_;rintro e w2 ⟨rfl,aZ⟩;have kr:=ae gl aZ;have sX:=aa (af aZ dP.o);have t2:=ab sX.o;clear t1;cases CP:sA p.a with
 | false=>
  have yQ:=aa CP;clear CP
  go_wp2_with fail
  go_ret
  exact⟨aS (by rw[HV.o,yQ.o];rfl),kr⟩
 | true=>
 have Dv:movesN p.a.states<=40:=by
  have h:=HF.o;rw[CP]at h;simp at h;exact h.2
 rw[CP]at HV;clear HF CP;by_cases h3:3<p.t.n/\p.t.n<=5
 ·obtain⟨h31,FI⟩:=h3;have HR:am (fewPB p=false):=by(have h:fewPB p=false:=by(rw[HV.o];simp[h31,FI]));exact h
  go_wp2_with fail
  go_ret
  exact⟨aS HR.o.symm,kr⟩
 have HR:am (fewPB p=if probE p≠0 then true else decide (numberP p<=60) || decide (4096<numberP p)):=by
  have h:fewPB p=if probE p≠0 then true else decide (numberP p<=60) || decide (4096<numberP p):=by
   rw[HV.o,if_neg (by simp),if_neg (by simp),if_neg h3]
  exact h
 clear HV;have TY:¬ 3<p.t.n\/(3<p.t.n/\5<p.t.n):=by omega
 clear h3;have HC:=aa (uM p _ _ w2 (GC.o.up up_case kr) (GS.o.up up_moves kr) (by omega));have HNU:=aa (fun (hp:probE p=0) W (hb:Below w.heap.size w W)=>sG p _ _ W (GC.o.up up_case hb) (GS.o.up up_moves hb) hp);rcases TY with h3|⟨h3,Xq⟩
 all_goals
  go_wp2_with fail
  refine HC.o.mono ?_;rintro e w3 ⟨rfl,bG⟩;have Nk:=ae kr bG;have t3:=ab (af bG sX.o);clear t2;by_cases hp:probE p=0
  case neg=>
   generalize probE p=ep at hp HR;have QF:(ep != 0)=true:=by simpa using hp
   go_wp2_with fail
   go_ret
   exact⟨aS (by rw[HR.o,if_pos hp]),Nk⟩
  have rJ:=aa (HNU.o hp w3 Nk);rw[hp]at HR ⊢;clear hp HNU
  go_wp2_with fail
  refine rJ.o.mono ?_;rintro e w4 ⟨rfl,bO⟩;clear t3;generalize numberP p=nn at HR;by_cases h60:nn<=60
  ·go_wp2_with fail
   go_ret
   exact⟨aS (by rw[HR.o,if_neg (by simp),decide_eq_true h60];rfl),ae Nk bO⟩
  ·have hd:decide (nn<=60)=false:=decide_eq_false h60;have HD:=aa hd
   go_wp2_with fail
   go_ret
   exact⟨aS (by rw[HR.o,if_neg (by simp),HD.o];rfl),ae Nk bO⟩
theorem pQ{p:Pb} (h:fewPB p=true):movesN p.a.states<=40:=by
 unfold fewPB at h;split at h
 ·cases h
 split at h
 ·cases h
 ·rename_i h2;have:sA p.a=true:=by simpa using h2
  unfold sA at this;simp at this;exact this.2
end Go.Proofs.YtmeaoneaephjeaaGreatDoor
namespace Go.Proofs.YtmeaoneaephjeaaGreatDoor
open Go.RowKit Go Go.Shelf
attribute [local go_sem] Oper.semAt_some
theorem DT(d:Nat) (a b:Vw) (w:World):(Op.equalIn (d+3) 190 a.v b.v).run Tryz.prog w=.ok (decide (a=b)) w:=by
 have hS:Tryz.prog.underlying 190=some (.struct (Tryz.prog.fieldsOf 190)):=by kernel_rfl
 have hp:Tryz.prog.stoodInHeld 190=false:=by kernel_rfl
 rw[run_equalIn_struct w (d+2) 190 _ _ hS hp];have ag:=Tryz.isAgg3;have ah:=Tryz.isAgg137;have zh:=Tryz.sizeOf137;have u3:=Tryz.underlying3;simp only[Program.fieldsOf,Tryz.underlying190];simp[Op.eqFields,part,ag,ah,zh,run_equalIn_int w (d+1) 3 _ .i64 _ _ u3,Hk d];obtain⟨n,k,j,h0,h1,h2,h3,h4⟩:=a;obtain⟨m,l,i,g0,g1,g2,g3,g4⟩:=b;by_cases hn:n=m
 case neg=>simp[hn]
 by_cases hk:k=l
 case neg=>simp[hn,hk]
 by_cases hj:j=i
 case neg=>simp[hn,hk,hj]
 by_cases hh:h0=g0/\h1=g1/\h2=g2/\h3=g3/\h4=g4<;>simp[hn,hk,hj,hh]
theorem kit_vw:KeyKit Tryz.prog 190 Vw.v:=
 ⟨fun a b w=>DT 9997 a b w,fun em a w=>by kernel_rfl,⟨_,Tryz.underlying190⟩⟩
theorem Tryz.infoView:(Tryz.prog.info? 190).map (fun i=>(i.zero,i.size,i.bytes))=some (some (.agg #[.int .i64 0,.int .i64 0,.int .i64 0,.int .i64 0,.int .i64 0,.int .i64 0,.int .i64 0,.int .i64 0]),8,64):=by kernel_rfl
abbrev silV:Value:=.agg #[.int .i64 (-1),.int .i64 (-1),.int .i64 (-1),.int .i64 (-1),.int .i64 (-1)]
theorem Af(w:World):Calls Tryz.prog 201 #[] w fun e w'=>e=.returned silV/\Below w.heap.size w w':=by
 go_enter Tryz.func201,Tryz.ntmps201
 go_wp2_with fail
 refine bF (fun W=>Below w.heap.size w W/\W.heap[w.heap.size]?=some (.cells (hC (fun _=>-1) 0) 137)/\W.heap[w.heap.size+1]?=some (.cells (hC (fun _=>-1) 0) 137)) ⟨by go_grown,by rw[DQ];exact aq _ (ap _ _),by rw[DQ];exact bu _ _ _⟩ (fun W0 bd=>?_);obtain⟨aK,gr,hH⟩:=bd
 go_loopw [3] (fun i wr=>∃ q:Nat,q<=5/\i=.int .i64 q/\Below w.heap.size w wr/\wr.heap[w.heap.size]?=some (.cells (hC (fun _=>-1) 0) 137)/\wr.heap[w.heap.size+1]?=some (.cells (hC (fun _=>-1) q) 137)) (fun i _=>5 - (intOf i).toNat)
 ·exact⟨0,by omega,rfl,aK,gr,hH⟩
 ·
  clear aK gr hH;obtain⟨q,hq,rfl,aA,hR,hO⟩:=hrel;by_cases aB:q<5
  ·have zq:=aH hO q;have tq:=ab hO q;rw[Hy _ _ _ aB]at tq;have HR:=aa hR;have HO:=aa hO;clear hR hO;have nZ:(q:Int)<5:=by omega
   go_wp2_with fail
   go_roundw
   ·exact⟨q+1,by omega,by go_num,aA.setCell (by dsimp only;omega) _,aO HR.o (by omega) _ _,by rw[aI HO.o,<-VM (fun _=>-1) q aB]⟩
   ·simp[intOf];omega
  ·obtain rfl:q=5:=by omega
   have tq:=ab hO;have HR:=aa hR;have HO:=aa hO;have zq:=fun o=>aH hR o
   have tq0:=ab hR;rw[UU]at tq;simp[DQ]at tq0;clear hR hO
   go_wp2_with fail
   have h5:=aI (aI (aI (aI (aI HR.o 0 (.int .i64 (-1))) 1 (.int .i64 (-1))) 2 (.int .i64 (-1))) 3 (.int .i64 (-1))) 4 (.int .i64 (-1));refine bodyPost_ret (J9 _ _ 0 rfl w.heap.size _ (-1) (-1) (-1) (-1) (-1) 137 rfl (h5.trans rfl)) rfl ⟨rfl,?_⟩;exact((((aA.setCell (by dsimp only;omega) _).setCell (by dsimp only;omega) _).setCell (by dsimp only;omega) _).setCell (by dsimp only;omega) _).setCell (by dsimp only;omega) _
abbrev bldT:List TypeId:=[190,234]
structure BldIs (base b mb n:Nat) (tab:List Vw) (W:World):Prop where
 lo:base<=b
 ex:∃ vs,W.heap[b]?=some (.cells #[.int .i64 n,vs,.map (some mb)] 234)/\base<=mb/\aJ W base 190 8 vs tab.length (eZ tab)/\l4 Vw.v W mb (ug tab)
theorem BldIs.up{base b mb n:Nat} {tab:List Vw} {W W':World} (h:BldIs base b mb n tab W) (hb:Below W.heap.size W W'):BldIs base b mb n tab W':=by
 obtain⟨vs,h1,h2,h3,h4⟩:=h.ex;exact⟨h.lo,vs,af hb h1,h2,h3.up hb,h4.up hb⟩
theorem Mn(v:Vw):∀ u∈v.c.toList,u.oneCell'=true:=fun u hu=>Fb [v] u (by simpa[eZ] using hu)
theorem UX(tb:List Vw) (v:Vw):(putV tb v).2<=tb.length:=by
 unfold putV;split
 ·exact List.idxOf_le_length
 ·exact Nat.le_refl _
theorem KI(base b mb n:Nat) (tab:List Vw) (v:Vw) (w:World) (hB:BldIs base b mb n tab w) (hl:tab.length<=100000) :
  Calls Tryz.prog 200 #[.pointer (some ⟨b,0,none⟩),v.v] w fun e w'=>e=.returned (.int .i64 (putV tab v).2)/\BldIs base b mb n (putV tab v).1 w'/\KeepT bldT [mb] base w w':=by
 have xh:=hB.lo;obtain⟨vs,h1,h2,h3,h4⟩:=hB.ex;have dy:=aC h1;obtain⟨av,cv,rfl⟩:=h3.slice;have H1:=aa h1;have H3:=aa h3;have H4:=aa h4;clear h1 h3 h4 hB
 go_enter Tryz.func200,Tryz.ntmps200
 go_wp2_with fail
 refine bF (fun W=>Below w.heap.size w W/\W.heap[w.heap.size]?=some (.cells v.c 190)) ⟨by go_grown,ap _ _⟩ (fun W0 bd=>?_);obtain⟨aK,WQ⟩:=bd;have CE:=aa WQ;have k1:∀ x:ExtW W0,∀ o,x.val.cell? ⟨w.heap.size,o,none⟩=_:=fun x=>ab (af x.ext WQ)
 have k2:∀ x:ExtW W0,∀ o,x.val.cell? ⟨b,o,none⟩=_:=fun x=>ab (af (ae aK x.ext) H1.o)
 have Qe:∀ x:ExtW W0,l4 Vw.v x.val mb (ug tab):=fun x=>H4.o.up (ae aK x.ext)
 have j9:=aa Qe;have qH:=Rn tab v;clear WQ Qe;by_cases hm:v∈tab
 ·have HP:am (putV tab v=(tab,tab.idxOf v)):=aa (by unfold putV;rw[if_pos hm]);rw[if_pos hm]at qH
  have k3:∀ x:ExtW W0,(Instr.lookup 232 (.map (some mb)) v.v true).run Tryz.prog x.val=.ok (.tuple #[.int .i64 (tab.idxOf v:Nat),.bool true]) x.val:=fun x=>by
   have:=Ho kit_vw (mt:=232) (vt:=3) (z:=.int .i64 0) Tryz.underlying232 (fun w=>by kernel_rfl) (j9.o x) v;rw[qH]at this;exact this
  clear qH;refine aF (by kernel_rfl) (by kernel_rfl) ?_
  repeat (go_big_quiet_step (fail))
  refine wpQuiet_nil ?_;intro _ eE;obtain⟨xq,dj⟩:=eE;subst dj;clear k1 k2 k3
  go_wp2_with fail
  go_ret
  rw[HP.o];have hx:=ae aK xq.ext;exact⟨rfl,⟨xh,_,af hx H1.o,h2,H3.o.up hx,H4.o.up hx⟩,KeepT.of_below _ hx (by omega)⟩
 ·have HP:am (putV tab v=(tab++[v],tab.length)):=aa (by unfold putV;rw[if_neg hm]);rw[if_neg hm]at qH
  have k3:∀ x:ExtW W0,(Instr.lookup 232 (.map (some mb)) v.v true).run Tryz.prog x.val=.ok (.tuple #[.int .i64 0,.bool false]) x.val:=fun x=>by
   have:=Ho kit_vw (mt:=232) (vt:=3) (z:=.int .i64 0) Tryz.underlying232 (fun w=>by kernel_rfl) (j9.o x) v;rw[qH]at this;exact this
  have HGET:=aa qH;clear qH;refine aF (by kernel_rfl) (by kernel_rfl) ?_
  repeat (go_big_quiet_step (fail))
  refine wpQuiet_nil ?_;intro _ eE;obtain⟨xq,dj⟩:=eE;subst dj;clear k1 k2 k3;have hx:=ae aK xq.ext;have AG:=af xq.ext CE.o;generalize xq.val=W1 at hx AG;have HX:=aa hx;have Qc:=aa AG;have t1:=ab (af hx H1.o);have tv:=ab AG;obtain⟨o,LI,hG2⟩:=UP kit_vw (mt:=232) (vt:=3) Tryz.underlying232 (w:=W1.drew) (b:=mb) (f:=ug tab) (H4.o.up hx.drew) v (.int .i64 (tab.length:Nat)) HGET.o;have rX:=aa hG2;clear hx AG hG2
  go_wp2_with fail
  go_still_tail 6,(by kernel_rfl)
  change wpList _ _ _ _ _ W1.drew
  go_wp2_with fail
  have lD:∃ o2,W1.drew.heap[mb]?=some o2/\o2.isCells=false:=by
   obtain⟨es,ck,p1,_⟩:=H4.o.up HX.o.drew;exact⟨_,p1,rfl⟩
  obtain⟨o2,lD,rR⟩:=lD;have F9:b≠mb:=fun e=>by rw[<-e,(af HX.o.drew H1.o)]at lD;cases lD;cases rR
  have hvn:w.heap.size≠mb:=fun e=>by
   have h9:W1.drew.heap[w.heap.size]?=some (.cells v.c 190):=Qc.o;rw[e,lD]at h9;cases h9;cases rR
  refine bF (fun W=>W.heap[b]?=some (.cells #[.int .i64 n,.slice av tab.length cv,.map (some mb)] 234)/\aJ W base 190 8 (.slice av tab.length cv) tab.length (eZ tab)/\l4 Vw.v W mb (ug (tab++[v]))/\W.heap[w.heap.size]?=some (.cells v.c 190)/\KeepT bldT [mb] base w W/\w.heap.size<W.heap.size)
   ⟨(World.putObj_heap_other F9).trans (af HX.o.drew H1.o),(H3.o.up HX.o.drew).keepT fun g o' e1 e2=>(World.putObj_heap_other (fun e=>(H3.o.up HX.o.drew).isCells (B:=mb) lD rR (by rw[e1,e]))).trans e2,by rw[OA];exact rX.o,(World.putObj_heap_other hvn).trans Qc.o,(KeepT.of_below _ HX.o.drew (by omega)).put lD rR h2 (by simp),by have:=aC Qc.o;simpa using this⟩ (fun W2 fg=>?_)
  obtain⟨g1,g3,g4,g5,g6,g7⟩:=fg;have G1:=aa g1;have G3:=aa g3;have G4:=aa g4;have G5:=aa g5;have G6:=aa g6;clear g1 g3 g4 g5 g6 lD rR LI t1 tv;obtain⟨i0,df,cH,cj,cI⟩:=info_parts Tryz.infoView
  refine mF 8 [29,30,31,32,33,34,35,36] [some (.pointer (some ⟨b,0,none⟩)),
   some (.pointer (some ⟨b,0,none⟩)),
   some (.pointer (some ⟨b,0,none⟩)),
   some (.pointer (some ⟨b,1,none⟩)),
   some (.slice av tab.length cv),
   some (v.v),
   none,
   none] (CAppS W2 W2 base 190 8 (.slice av tab.length cv) tab.length 1 (eZ tab) v.c.toList 6 7) (by kernel_rfl) rfl (by decide) rfl (by kernel_rfl) (by kernel_rfl) (by kernel_rfl) (fun _=>CAppS.start (by omega) (KeepT.refl _ _ _).drew (Nat.le_refl _) (fun _ _ h _=>h) G3.o) ?step ?tail
  case step=>
   intro x W D i o s F hi ho hs hD cQ bU ar hv aR hF;have fK:i=0\/i=1\/i=2\/i=3\/i=4\/i=5\/i=6\/i=7:=by omega
   rcases fK with rfl|rfl|rfl|rfl|rfl|rfl|rfl|rfl
   all_goals (have dQ:=cQ _ _ hs hD;obtain rfl:=dE ho.symm;obtain rfl:=dE hs.symm)
   ·clear ar hi hv;have e0:F.getD 0 undef=.pointer (some ⟨b,0,none⟩):=lL hF (by decide) rfl;clear cQ bU;clear hF dQ;have e0':=dH e0;have HD:=aa hD;have bB:=aa aR;clear hD aR
    go_wp2_with fail
    refine bX.mk _ fP ?_ rfl;exact bB.o.other _ (by decide) (by decide)
   ·clear ar hi hv;have e0:F.getD 0 undef=.pointer (some ⟨b,0,none⟩):=lL hF (by decide) rfl;clear cQ bU;clear hF dQ;have e0':=dH e0;have HD:=aa hD;have bB:=aa aR;clear hD aR
    go_wp2_with fail
    refine bX.mk _ fP ?_ rfl;exact bB.o.other _ (by decide) (by decide)
   ·have g1:=ar ⟨1,.data⟩ (by simp) rfl;have d1:=hv 1 _ (by omega) g1 rfl;clear ar hi hv;have e30:=fy hF 1 30 (by decide) rfl (by kernel_rfl) d1;clear cQ bU;clear hF dQ d1;have e30':=dH e30;have HD:=aa hD;have bB:=aa aR;clear hD aR;clear g1
    go_wp2_with fail
    refine bX.mk _ fP ?_ rfl;exact bB.o.other _ (by decide) (by decide)
   ·have g2:=ar ⟨2,.data⟩ (by simp) rfl;have d2:=hv 2 _ (by omega) g2 rfl;clear ar hi hv;have e31:=fy hF 2 31 (by decide) rfl (by kernel_rfl) d2;clear cQ bU;clear hF dQ d2;have e31':=dH e31;have HD:=aa hD;have bB:=aa aR;clear hD aR;clear g2
    go_wp2_with fail
    refine bX.mk _ fP ?_ rfl;exact bB.o.other _ (by decide) (by decide)
   ·have g3:=ar ⟨3,.data⟩ (by simp) rfl;have d3:=hv 3 _ (by omega) g3 rfl;clear ar hi hv;have e32:=fy hF 3 32 (by decide) rfl (by kernel_rfl) d3;clear cQ bU;clear hF dQ d3;have t1:=ab (aR.kept _ _ G1.o (fun e=>G3.o.ne G1.o (by decide) _ e rfl)) 1;simp at t1;have e32':=dH e32;have HD:=aa hD;have bB:=aa aR;clear hD aR;clear g3
    go_wp2_with fail
    refine bX.mk _ fP ?_ rfl;exact bB.o.other _ (by decide) (by decide)
   ·clear ar hi hv;have e3:F.getD 3 undef=.pointer (some ⟨w.heap.size,0,none⟩):=lL hF (by decide) rfl;clear cQ bU;clear hF dQ;have t1:=ab (aR.kept _ _ G5.o (fun e=>by have:=(H3.o.lt _ e).2;omega));have e3':=dH e3;have HD:=aa hD;have bB:=aa aR;clear hD aR
    go_wp2_with fail
    refine bX.mk _ fP ?_ rfl;exact bB.o.other _ (by decide) (by decide)
   ·have g5:=ar ⟨5,.data⟩ (by simp) rfl;have d5:=hv 5 _ (by omega) g5 rfl;clear ar hi hv;have e34:=fy hF 5 34 (by decide) rfl (by kernel_rfl) d5;clear cQ bU;clear hF dQ d5;have e34':=dH e34;have HD:=aa hD;have bB:=aa aR;clear hD aR;clear g5
    go_wp2_with fail
    refine bX.mk _ (fun c hc=>by cases hc) ?_ rfl;exact bB.o.build (by decide)
   ·have g4:=ar ⟨4,.data⟩ (by simp) rfl;have d4:=hv 4 _ (by omega) g4 rfl;have g6:=ar ⟨6,.data⟩ (by simp) rfl;clear ar hi hv;have e33:=fy hF 4 33 (by decide) rfl (by kernel_rfl) d4;have e35:=fy hF 6 35 (by decide) rfl (by kernel_rfl) rfl;clear cQ bU;clear hF dQ d4;obtain⟨gb,qx,m8,_⟩:=aR.sb g6 hD;rw[qx]at e35;have cA:=aR.rd;rw[hD]at cA;have C7:=aa (show aJ W base 190 8 (.slice av tab.length cv) tab.length (eZ tab) from cA)
    have bT:∀ j u',v.c.toList[j]?=some u'->W.cell? (Addr.add ⟨gb,0,none⟩ j)=some u':=fun j u' hj=>by
     have e1:(Addr.add ⟨gb,0,none⟩ j)=⟨gb,j,none⟩:=by unfold Addr.add;split<;>simp_all
     rw[e1,ab m8];simpa using hj
    have bE:=aa bT;have io:=aR.old.old.size;clear bT cA m8 qx;have e33':=dH e33;have e35':=dH e35;have HD:=aa hD;have bB:=aa aR;clear hD aR;clear g4;clear g6;refine bh W rfl (.tmp 33) (.tmp 35) 30 rfl base 190 i0 _ 8 64 Tryz.underlying30 df cH cj cI rfl (by decide) _ tab.length (eZ tab) e33 C7.o ⟨gb,0,none⟩ 1 1 v.c.toList e35 rfl bE.o (Mn v) (by unfold maxLen;omega) (by omega) (by omega) ?_;intro v9 w3 ol jT _;refine bX.mk v9 (fun c hc=>by cases hc) ?_ rfl;exact bB.o.app HD.o ol jT
  case tail=>
   intro x W' D F aT hv aR hF;have x0:=hv 0 _ (by omega) rfl;have x1:=hv 1 _ (by omega) rfl;have x2:=hv 2 _ (by omega) rfl;have x3:=hv 3 _ (by omega) rfl;have x4:=hv 4 _ (by omega) rfl;have x5:=hv 5 _ (by omega) rfl;have Lv:=aR.rd;rw[aT 7 (by omega)]at Lv;have No:aJ W' base 190 8 (x 7) (tab.length+1) (eZ tab++v.c.toList):=Lv;obtain⟨g9,c9,q9⟩:=No.slice;rw[q9]at No;have FM:=aa No;have fi:=aR.kept _ _ G1.o (fun e=>G3.o.ne G1.o (by decide) _ e rfl)
   have hm9:l4 Vw.v W' mb (ug (tab++[v])):=by
    obtain⟨es,ck,p1,p2⟩:=G4.o;exact⟨es,ck,aR.kept _ _ p1 (fun e=>G3.o.isCells p1 rfl e.symm),p2⟩
   have HM9:=aa hm9;have fG:=aa fi;have qD:=aa aR.old;have t1:=ab fi 1;have z1:=aH fi 1;simp only[bC,da,List.setIfInBounds_toArray,List.set_cons_succ,List.set_cons_zero,Nat.reduceAdd,x0,x1,x2,x3,x4,x5,q9]at hF;generalize x 6=y6 at hF;subst hF;clear hv aT aR Lv No q9 fi hm9 x0 x1 x2 x3 x4 x5;simp only[List.drop_succ_cons,List.drop_zero]
   go_wp2_with fail
   go_ret
   rw[HP.o];have bR:∀ g,Value.ownBlock (.slice g9 (tab.length+1) c9)=some g->g≠b:=fun g e=>FM.o.ne fG.o (by decide) g e
   refine⟨rfl,⟨xh,_,aI fG.o 1 _,h2,?_,?_⟩,?_⟩
   ·rw[List.length_append,List.length_singleton,Fa];exact FM.o.put bR _ _
   ·obtain⟨es,ck,p1,p2⟩:=HM9.o;exact⟨es,ck,aO p1 (fun e=>by rw[e,fG.o]at p1;cases p1) _ _,p2⟩
   ·exact(G6.o.trans (qD.o.mono (by simp) (by simp))).set fG.o (by simp) xh _
end Go.Proofs.YtmeaoneaephjeaaGreatDoor
