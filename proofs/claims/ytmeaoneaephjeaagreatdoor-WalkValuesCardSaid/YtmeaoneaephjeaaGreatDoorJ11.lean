/-
  A part of the proof: lemmas and contracts that the parts behind it use. Each one's conditions are its own premises.
-/
import Derived.OwnWalkIn
import Derived.Laws.Tables
import Derived.Test.YtmeaoneaephjeaaGreatDoorJ10
set_option maxRecDepth 100000
set_option maxHeartbeats 8000000
set_option linter.unusedVariables false
set_option linter.unusedSimpArgs false
namespace Go.Proofs.YtmeaoneaephjeaaGreatDoor
open Go.RowKit Go Go.Shelf
attribute [local go_sem] Oper.semAt_some
theorem EN{w:World} {v:Value} {l:List Lk} (h:bH w v l) (j:Nat) (u:Value) (hu:(cK l)[j]?=some u):∃ b o c,v=.slice (some ⟨b,o,none⟩) l.length c/\w.cell? ⟨b,o+j,none⟩=some u:=by
 have hj:=(List.getElem?_eq_some_iff.1 hu).1;rw[li]at hj;obtain⟨i,s,hs,rfl⟩:∃ i s,s<2/\j=i * 2+s:=⟨j / 2,j % 2,by omega,by omega⟩;have hi:i<l.length:=by omega
 unfold cK at hu;rw[oK Lk.c 2 (fun _=>rfl) l i s hi hs]at hu;obtain⟨a,cap,rfl,_,_,e⟩:=h.at;obtain⟨b,o,rfl,⟨c0,_⟩,⟨c1,_⟩⟩:=e i hi;refine⟨b,o,cap,rfl,?_⟩;rw[<-Nat.add_assoc];rcases (show s=0\/s=1 by omega) with rfl|rfl<;>(simp at hu;subst hu;first|exact c0|exact c1)
theorem Ho{w:World} {v:Value} {l:List Lk} (h:bH w v l):∀ y∈l,bM y.x/\bM y.p:=fun y hy=>by
 obtain⟨i,hi,rfl⟩:=List.getElem_of_mem hy;obtain⟨a,cap,rfl,_,_,e⟩:=h.at;obtain⟨b,o,_,h1⟩:=e i hi;exact⟨h1.1.2,h1.2.2⟩
theorem vY{w:World} {a:Option Addr} {n c:Nat} {l:List Lk} (h:bH w (.slice a n c) l) (k:Nat) (hk:k<=l.length):bH w (.slice a k c) (l.take k):=by
 obtain⟨a',c',e,⟨h1,h2,h3⟩,h4,h5⟩:=h;injection e with e1 e2 e3
 subst e1 e3;refine⟨a,c,by rw[List.length_take,Nat.min_eq_left hk],⟨by rw[List.length_take];omega,h2,h3⟩,by rw[List.length_take];omega,fun i x hx=>h5 i x ?_⟩;rw[List.getElem?_take]at hx;split at hx
 ·exact hx
 ·cases hx
theorem Mg{w:World} {b o n c:Nat} {l:List Lk} (h:bH w (.slice (some ⟨b,o,none⟩) n c) l) (k:Nat) (hk:k<=l.length):bH w (.slice (some (if c=k then⟨b,o,none⟩ else⟨b,o+k * 2,none⟩)) (n - k) (c - k)) (l.drop k):=by
 obtain⟨a',c',e,⟨h1,h2,h3⟩,h4,h5⟩:=h;injection e with e1 e2 e3
 subst e1 e2 e3;refine⟨_,c - k,by rw[List.length_drop],⟨by rw[List.length_drop];omega,by omega,fun h=>by cases h⟩,by rw[List.length_drop];omega,fun i x hx=>?_⟩;rw[List.getElem?_drop]at hx;have hi:=(List.getElem?_eq_some_iff.1 hx).1;obtain⟨b',o',e,hr⟩:=h5 (k+i) x hx;injection e with e;injection e with e1 e2 e3
 subst e1 e2;refine⟨b,o+k * 2,by rw[if_neg (by omega)],?_⟩;rw[Nat.add_mul,<-Nat.add_assoc]at hr;exact hr
theorem tW(v:Value) (l:List Lk) (w:World) (hv:bH w v l) (hn:l.length<=1048576) :
  Calls Tryz.prog 27 #[v] w fun e w'=>∃ u,e=.returned u/\aG w' w.heap.size 75 2 u l.length (cK l)/\Below w.heap.size w w':=by
 obtain⟨i0,hi,cg,bV,cj⟩:=info_parts Tryz.infoLink;have HW:=aa (EN hv);have jK:=fun w=>Lib.run_eql_slice_nil (P:=Tryz.prog) w 54
 obtain⟨a,cap,rfl,⟨_,_,jD⟩,_,_⟩:=hv;cases a with
 | none=>
  have hl:l.length=0:=by have:=jD rfl;omega
  obtain rfl:l=[]:=List.eq_nil_of_length_eq_zero hl;obtain rfl:=jD rfl
  go_enter Tryz.func27,Tryz.ntmps27
  go_wp2_with fail
  go_ret
  exact⟨_,rfl,aG.nil _ _ _ _,Below.refl _ _⟩
 | some ad=>
  have bL:∀ j u,(cK l)[j]?=some u->(w.alloc (.cells #[] 75)).cell? (ad.add j)=some u:=fun j u hj=>by
   obtain⟨b,o,c,e,eB⟩:=HW.out j u hj;have:ad=⟨b,o,none⟩:=by simp at e;exact e.1
   subst this;have:(Addr.add ⟨b,o,none⟩ j)=⟨b,o+j,none⟩:=by unfold Addr.add;split<;>simp_all
   rw[this];exact ak (by go_grown) eB
  have aX:aG (w.alloc (.cells #[] 75)) w.heap.size 75 2 (.slice (some ⟨w.heap.size,0,none⟩) 0 0) 0 []:=⟨by simp,.inr ⟨w.heap.size,0,#[],(0,0),rfl,Nat.le_refl _,am _ _,fun i hi=>by simp at hi,by omega,by simp[maxLen],by simp,by simp⟩⟩;have bz:=aa bL;have bI:=aa aX;clear bL aX jD
  go_enter Tryz.func27,Tryz.ntmps27
  go_wp2_with (at_builtin;(refine aY _ rfl (.tmp 5) (.tmp 6) 54 rfl w.heap.size 75 i0 _ 2 16 Tryz.underlying54 hi cg bV cj rfl (by decide) _ 0 [] rfl bI.out ad l.length cap (cK l) rfl (li l) bz.out (Bz l) (by unfold maxLen;omega) (by omega) (by simp) ?_;intro v' w1 gE la _;obtain⟨av',cv',rfl⟩:=gE.slice))
  go_ret
  rw[Nat.zero_add,List.nil_append]at gE;refine⟨_,rfl,by simpa using gE,Below.grown (w:=w.alloc (.cells #[] 75)) (by go_grown) la (by simp) (fun k hk=>?_)⟩;cases hk;exact Nat.le_refl _
theorem aG.links{w:World} {base:Nat} {v:Value} {l:List Lk} (h:aG w base 75 2 v l.length (cK l)) (hx:∀ u∈l,bM u.x/\bM u.p) (hn:l.length<=1048576):bH w v l:=sC h hx (by omega)
theorem Kq{w:World} {base g n c:Nat} {l:List Lk} (h:aG w base 75 2 (.slice (some ⟨g,0,none⟩) n c) n (cK l)) (j:Nat) (x:Value) (hj:j<(cK l).length) {m:List Lk} (hm:cK m=(cK l).set j x):aG (w.setCell ⟨g,j,none⟩ x) base 75 2 (.slice (some ⟨g,0,none⟩) n c) n (cK m):=by
 obtain⟨hl,h⟩:=h;refine⟨by rw[hm,List.length_set];exact hl,?_⟩;rcases h with ⟨h,_⟩|⟨g',cap,cur,fz,h1,h2,h3,h4,h5,h6,h7,h8⟩
 ·cases h
 injection h1 with e1 e2 e3
 injection e1 with e1
 injection e1 with e1
 subst e1 e3;refine .inr ⟨g,c,cur.setIfInBounds j x,fz,rfl,h2,aF h3 _ _,by simpa using h4,h5,h6,by simpa using h7,?_⟩;rw[hm,Array.toList_setIfInBounds,List.take_set,h8]
theorem IsSys.kp{w w':World} {s:Sys} {vc vs vt ve:Value} (h:IsSys w s vc vs vt ve) (hb:CK w w'):IsSys w' s vc vs vt ve:=⟨h.cases.ck up_case hb,h.states.ck up_moves hb,h.tab.ck up_view hb,h.ex.ck up_ex hb⟩
theorem ScAt.kp{w w':World} {B:Nat} {s:Sys} (h:ScAt w B s) (hk:iV w.heap.size w w'):ScAt w' B s:=by
 obtain⟨vc,vs,vt,ve,vv,vl,h1,h2,h3,h4⟩:=h.ex;exact⟨vc,vs,vt,ve,vv,vl,(hk B (aB h1)).trans h1,h2.kp hk.ck,h3.ck up_int hk.ck,h4.ck up_int hk.ck⟩
theorem UN{n:Nat} (hn:n<=8) (q:Nat->Bool):maskN q n=maskN (fun p=>decide (p<n)&&q p) 8:=by
 refine Nat.eq_of_testBit_eq fun p=>?_
 rw[dI,dI];by_cases h:p<n
 ·rw[decide_eq_true h,decide_eq_true (show p<8 by omega)];rfl
 ·rw[decide_eq_false h];simp
theorem Rh{n:Nat} (hn:n<=8) (q:Nat->Bool):firstIx 8 (fun p=>decide (p<n)&&q p)=firstIx n q:=by
 rw[zG _ hn (fun v h1 h2=>by rw[decide_eq_false (by omega)];rfl)];exact l4 _ _ _ fun p hp=>by rw[decide_eq_true hp];rfl
theorem aG.some{w:World} {base size n:Nat} {e:TypeId} {v:Value} {xs:List Value} (h:aG w base e size v n xs) (hn:0<n):∃ g c,v=.slice (some ⟨g,0,none⟩) n c/\base<=g/\g<w.heap.size/\n<=c/\∀ j,j<n * size->(∃ u,w.cell? ⟨g,j,none⟩=some u)/\w.frozen? ⟨g,j,none⟩=false:=by
 rcases h.2 with ⟨_,h0⟩|⟨g,cap,cur,fz,rfl,h2,h3,h4,h5,h6,h7,h8⟩
 ·omega
 refine⟨g,cap,rfl,h2,aB h3,h5,fun j hj=>?_⟩;have aA:j<cur.size:=by rw[h7];exact Nat.lt_of_lt_of_le hj (Nat.mul_le_mul_right _ h5)
 refine⟨⟨cur[j],by rw[ab h3,Array.getElem?_eq_getElem aA]⟩,?_⟩;simp only[World.frozen?,h3];have:=h4 j aA;simpa using this
theorem Ri(a:List Lk) (y:Lk) (r:List Lk) (p:Int):cK (a++⟨y.x,p⟩ :: r)=(cK (a++y :: r)).set (a.length * 2+1) (.int .i64 p):=by
 rw[ni,ni,<-li a,List.set_append_right _ _ (by omega),Nat.add_sub_cancel_left];rfl
def Xt(base:Nat) (l:List Lk):MP:=⟨fun x W=>aG W base 75 2 x l.length (cK l),fun _ _ _ h hb=>h.up hb⟩
def XD(s:Sys) (l:List Lk) (pb n0:Nat) (i:Nat) (args:Array Value) (_:Nat->Prop) (W:World):Prop:=∃ v,args=#[v]/\bH W v ((dz s l).getD i [])/\∀ b,v.ownBlock=some b->b=pb\/n0<=b
structure KSz (S:Nat->Prop) (w w':World):Prop where
 keep:gk S w w'
 size:w.heap.size<=w'.heap.size
theorem KSz.trans{S:Nat->Prop} {a b c:World} (h:KSz S a b) (k:KSz S b c):KSz S a c:=⟨gk.trans h.1 k.1,Nat.le_trans h.2 k.2⟩
theorem jX{w w':World} {pb po n c:Nat} {l:List Lk} (h:bH w (.slice (some ⟨pb,po,none⟩) n c) l) (hk:w'.heap[pb]?=w.heap[pb]?):bH w' (.slice (some ⟨pb,po,none⟩) n c) l:=by
 obtain⟨a',c',e,h1,h4,h5⟩:=h;refine⟨a',c',e,h1,h4,fun i x hx=>?_⟩;obtain⟨b,o,e2,hr⟩:=h5 i x hx;injection e with e3 e4 e5
 rw[<-e3]at e2;injection e2 with e2
 injection e2 with e6 e7
 have hc:∀ o',w'.cell? ⟨b,o',none⟩=w.cell? ⟨b,o',none⟩:=fun o'=>by unfold World.cell?;rw[<-e6,hk]
 refine⟨b,o,by rw[<-e3,e6,e7],⟨(hc _).trans hr.1.1,hr.1.2⟩,(hc _).trans hr.2.1,hr.2.2⟩
theorem JY(B:Nat) (v:Value) (w:World) (hv:∃ a n c,v=.slice a n c) :
  Calls Tryz.prog 55 #[.pointer (some ⟨B,0,none⟩),v] w fun r w'=>r=.returned (.func (.func 96) #[] #[.pointer (some ⟨w.heap.size+1,0,none⟩),.pointer (some ⟨w.heap.size,0,none⟩)])/\w'=(w.alloc (.cells #[.pointer (some ⟨B,0,none⟩)] 94)).alloc (.cells #[v] 54):=by
 obtain⟨a,n,c,rfl⟩:=hv
 go_enter Tryz.func55,Tryz.ntmps55
 go_wp2
 go_ret
 exact⟨rfl,rfl⟩
theorem Hp(s:Sys) (hs:SysOk s) (hE:eS s<=256) (l:List Lk) (ie:0<l.length) (mP:l.length<=4096) (hx:∀ y∈l,0<=y.x/\y.x.toNat<eS s) (B bx bw:Nat) (pb po cl:Nat) (w0:World) (hT:ij w0) (fK:ScAt w0 B s) (w:World) (aH:Below w0.heap.size w0 w) (hl:bH w (.slice (some ⟨pb,po,none⟩) l.length cl) l)
  (cQ:w.heap[bw]?=some (.cells #[.slice (some ⟨pb,po,none⟩) l.length cl] 54)) (kE:w.heap[bx]?=some (.cells #[.pointer (some ⟨B,0,none⟩)] 94)) :
  SB Tryz.prog 96 #[.pointer (some ⟨bw,0,none⟩),.pointer (some ⟨bx,0,none⟩)] (XD s l pb w.heap.size) (dz s l).length (fun k=>k<w0.heap.size\/k=pb\/k=bw\/k=bx) w:=by
 intro yl J Jx W hW hyl hJ nM hY nZ;obtain⟨i0,cU,cg,bV,cj⟩:=info_parts Tryz.infoLink;have cf:=aa (And.intro cU (And.intro cg (And.intro bV cj)));clear cU cg bV cj;obtain⟨pl,cl',ecl,lt1,lt2,el⟩:=hl.at;injection ecl with ecl1 _ ecl2
 obtain⟨pb',po',epb,hpb0⟩:=el 0 ie;rw[<-ecl1]at epb;injection epb with epb
 injection epb with epb1 epb2
 have lpb:pb<w.heap.size:=by rw[epb1];exact eX hpb0.1.1
 rw[<-ecl2]at lt1;clear epb1 epb2 ecl1 ecl2 hpb0 pb' po' pl cl' el;have lw1:=aB cQ;have lw2:=aB kE;have VG:KSz (fun k=>k<w0.heap.size\/k=pb\/k=bw\/k=bx) w W:=⟨fun k hk=>hW.block k (by rcases hk with hk|rfl|rfl|rfl<;>first|(have:=aH.size;omega)|assumption),hW.size⟩;obtain⟨S,hS⟩:∃ S,S=(fun k=>k<w0.heap.size\/k=pb\/k=bw\/k=bx):=⟨_,rfl⟩
 have KG:Hid (∀ V,KSz S w V->iV w0.heap.size w0 V/\V.heap[pb]?=w.heap[pb]?/\V.heap[bw]?=some (.cells #[.slice (some ⟨pb,po,none⟩) l.length cl] 54)/\V.heap[bx]?=some (.cells #[.pointer (some ⟨B,0,none⟩)] 94)):=aa (fun V hV=>by
  subst hS
  exact⟨fun k hk=>(hV.1 k (.inl hk)).trans (aH.block k hk),hV.1 pb (.inr (.inl rfl)),(hV.1 bw (.inr (.inr (.inl rfl)))).trans cQ,(hV.1 bx (.inr (.inr (.inr rfl)))).trans kE⟩)
 rw[<-hS]at nZ VG
 have PU:Hid (∀ V V',KSz S w V->Below V.heap.size V V'->KSz S w V'):=aa (fun V V' h1 h2=>⟨fun k hk=>(h2.block k (by
  have h4:=h1.2;subst hS;rcases hk with hk|rfl|rfl|rfl
  ·have:=aH.size;omega
  ·omega
  ·omega
  ·omega)).trans (h1.1 k hk),Nat.le_trans h1.2 h2.size⟩)
 have Al:Hid (∀ (d:List (List Lk)) (c:List Lk) (r:List (List Lk)) (W1:World) (v:Value),dz s l=d++c :: r->bH W1 v c->(∀ b,v.ownBlock=some b->b=pb\/w.heap.size<=b)->J d.length S W1->YieldAt Fence.wide 0 Tryz.prog yl #[v] W1 fun e W'=>(e=.returned (.bool true)/\KSz S W1 W'/\W1.heap.size<=W'.heap.size/\J (d++[c]).length S W')\/(e=.returned (.bool false)/\∃ i,i<=(dz s l).length/\Jx i S W')):=aa (fun d c r W1 v e hv kI hj=>by
  obtain⟨h1,h2,h3,h4⟩:=Kd (x:=[]) e;obtain⟨fn,tmps,assign,body,hy,hR⟩:=hY d.length S W1 #[v] h1 ⟨v,rfl,by rw[h2];exact hv,kI⟩ hj;refine⟨fn,tmps,assign,body,hy,hR.mono ?_⟩;rintro e W' ⟨g1,g2,g3⟩;rcases g3 with ⟨rfl,g3⟩|⟨rfl,g3⟩
  ·exact .inl ⟨rfl,⟨g2,g1⟩,g1,by rw[h4];exact g3⟩
  ·exact .inr ⟨rfl,_,h1,g3⟩)
 have WF:Hid (∀ i V V',J i S V->Below V.heap.size V V'->J i S V'):=aa (fun i V V' h1 h2=>hJ i S S V V' h1 h2 (gx.refl _ _ _));have mX:Hid (dz s l=[]++l.dropLast :: ((if 1<l.length then [⟨(l.getD 1 default).x,-1⟩ :: l.drop 2] else [])++gj s l 0)):=aa (AR s l);have SZ:=aa (fun V (hV:KSz S w V)=>jX hl (KG.out V hV).2.1);have ME:=aa (Ho hl);have Ws:=aa hx;have hH:Hid (∀ V,KSz S w V->∀ e f:Nat,e<eS s->f<eS s->Calls Tryz.prog 97 #[.pointer (some ⟨B,0,none⟩),.int .i64 (e:Nat),.int .i64 (f:Nat)] V fun r w'=>r=.returned (.int .i64 (maskN (fun p=>linkB s p e f) (nS s):Nat))/\Below V.heap.size V w'):=aa (fun V hV e f he hf=>JX s hs B e f he hf V (ScAt.kp fK (KG.out V hV).1));have Wg:Hid (∀ V,KSz S w V->ij V):=aa (fun V hV=>ij.keep hT (KG.out V hV).1);have sS:=aa VG;have KW:=aa nZ;have HE4:=aa hE;have ji:nS s<=5:=hs.n.2.1;clear hY hJ nM nZ VG hl fK hT hS hs hx hW aH cQ kE hyl lw1 lw2 lpb;have IX:Hid (bH W (.slice (some ⟨pb,po,none⟩) (l.length - 1) cl) l.dropLast):=aa (by rw[List.dropLast_eq_take];exact vY (SZ.out W sS.out) _ (by omega));have Is:Hid (∀ V,KSz S w V->∀ i,i<l.length->bH V (.slice (some ⟨pb,po,none⟩) (i+1) cl) (l.take (i+1))):=aa (fun V hV i hi=>vY (SZ.out V hV) _ hi);have VY:Hid (∀ V,KSz S w V->∀ k,k<l.length->bH V (.slice (some ⟨pb,po+k * 2,none⟩) (l.length - k) (cl - k)) (l.drop k)):=aa (fun V hV k hk=>by have h:=Mg (SZ.out V hV) k (by omega);rwa [if_neg (by omega)]at h)
 have WA:Hid (∀ V,KSz S w V->∀ i,i<l.length->∃ e:Nat,(l.getD i default).x=(e:Int)/\(l.getD i default).x.toNat=e/\e<eS s/\V.cell? ⟨pb,po+i * 2,none⟩=some (.int .i64 (e:Int))):=aa (fun V hV i hi=>by
  obtain⟨a,c,e1,_,_,e2⟩:=(SZ.out V hV).at;obtain⟨b',o',e3,h1,h2⟩:=e2 i hi;injection e1 with e4 e5 e6
  rw[<-e4]at e3;injection e3 with e3
  injection e3 with e7 e8
  subst e7 e8;have h3:=Ws.out l[i] (List.getElem_mem hi);have hg:l.getD i default=l[i]:=by simp[hi]
  rw[hg];refine⟨l[i].x.toNat,by omega,rfl,h3.2,?_⟩;rw[h1.1];congr 2
  omega)
 have Ar:Hid (∀ V,KSz S w V->V.cell? ⟨bw,0,none⟩=some (.slice (some ⟨pb,po,none⟩) l.length cl)/\V.cell? ⟨bx,0,none⟩=some (.pointer (some ⟨B,0,none⟩))):=aa (fun V hV=>⟨(ab (KG.out V hV).2.2.1 0).trans rfl,(ab (KG.out V hV).2.2.2 0).trans rfl⟩);have PI:Hid (∀ i,i<l.length->gj s l i=gP s l i 0++gj s l (i+1)):=aa (LI s l);have AA:Hid (gj s l l.length=[]):=aa (N7 s l);have S4:Hid (∀ i j,l.length<=i+2+j->gP s l i j=[]):=aa (N8 s l);have HJN:Hid (∀ i j,i+2+j<l.length->eI s (l.getD i default).x.toNat (l.getD (l.length - 1 - j) default).x.toNat=false->gP s l i j=gP s l i (j+1)):=aa (fun i j h hb=>LL s l i j h (by unfold vB;rw[hb];rfl));have S6:Hid (∀ i j,i+2+j<l.length->eI s (l.getD i default).x.toNat (l.getD (l.length - 1 - j) default).x.toNat=true->gP s l i j=(l.take (i+1)++⟨(l.getD (l.length - 1 - j) default).x,byP s (l.getD i default).x.toNat (l.getD (l.length - 1 - j) default).x.toNat⟩ :: l.drop (l.length - 1 - j+1)) :: gP s l i (j+1)):=aa (fun i j h hb=>LK s l i j h (by unfold vB;rw[hb];rfl));have yt:Hid (1<l.length->dz s l=[l.dropLast]++(⟨(l.getD 1 default).x,-1⟩ :: l.drop 2) :: gj s l 0):=aa (fun h=>by rw[AR,if_pos h];rfl);have S7:Hid (¬ 1<l.length->dz s l=[l.dropLast]++gj s l 0):=aa (fun h=>by rw[AR,if_neg h];rfl)
 have VD:Hid (1<l.length->cK (⟨(l.getD 1 default).x,-1⟩ :: l.drop 2)=(cK (l.drop 1)).set 1 (.int .i64 (-1))):=aa (fun h=>by
  rw[List.drop_eq_getElem_cons h,show l.getD 1 default=l[1] by simp[h]]
  rfl)
 obtain⟨n,hn⟩:∃ n,l.length=n:=⟨_,rfl⟩;have HN:=aa hn;rw[hn]at ie mP IX Is VY WA Ar PI AA S4 HJN S6 yt S7 VD lt1 lt2;clear hn;have tw:=(Ar.out W sS.out).1;refine(callsIn_wide (n:=0)).1 ?_;refine callsIn_of_wp Tryz.func96 rfl trivial ?_ rfl;simp only[Tryz.ntmps96,List.size_toArray,List.length_cons,List.length_nil,Nat.reduceAdd,Nat.reduceSub,Array.replicate_succ,Array.replicate_zero,List.push_toArray,List.append_toArray,List.nil_append,List.cons_append];have js:IntKind.i64.wrap ((n:Int) - 1)=((n - 1:Nat):Int):=by rw[IntWalk.i64_in _ (by omega)];omega
 obtain⟨fn,tmps,assign,body,oy,hR⟩:=Al.out [] _ _ W _ mX.out IX.out (fun b hb=>.inl (dp hb).symm) KW.out;have HR:=aa hR;clear hR
 gi_wp2
 refine⟨rfl,HR.out.mono ?_⟩;rintro e W3 (⟨rfl,hZ,CE,Aq⟩|⟨rfl,i,hi,rA⟩)
 case inr=>
  gi_wp2
  refine bodyPost_ret (results_none rfl _ _ _) rfl ?_;exact⟨⟨_,rfl⟩,_,.inr ⟨_,hi,rA⟩⟩
 clear tw HR oy;have nX:=aa (KSz.trans sS.out hZ);have Tc:=aa Aq;clear hZ Aq IX;have tw:=(Ar.out W3 nX.out).1
 have TD:Hid (∃ d,dz s l=d++gj s l 0):=aa (by
  by_cases h:1<n
  ·exact⟨_,by rw[yt.out h,List.append_cons]⟩
  ·exact⟨_,S7.out h⟩)
 by_cases jP:1<n
 case' pos=>
  have V1:decide ((1:Int)<(n:Int))=true:=decide_eq_true (by omega);have ki:=aa (tW (.slice (some ⟨pb,po+2,none⟩) (n - 1) (cl - 1)) (l.drop 1) W3 (VY.out W3 nX.out 1 (by omega)) (by rw[List.length_drop,HN.out];omega));rw[List.length_drop,HN.out]at ki
  have yr:Hid (∀ y∈(⟨(l.getD 1 default).x,-1⟩ :: l.drop 2:List Lk),bM y.x/\bM y.p):=aa (fun y hy=>by
   rcases List.mem_cons.1 hy with rfl|hy
   ·have h1:=ME.out (l.getD 1 default) (by rw[show l.getD 1 default=l[1]'(by rw[HN.out];omega) by simp[HN.out,jP]];exact List.getElem_mem _)
    exact⟨h1.1,⟨by dsimp only;omega,by dsimp only;omega⟩⟩
   ·exact ME.out y (List.mem_of_mem_drop hy))
  have hn10:(0:Int)<((n - 1:Nat):Int):=by omega
  gi_wp2
  refine⟨trivial,rfl,callsIn_wide.2 (ki.out.mono ?_)⟩;rintro e w4 ⟨u,rfl,hu,bQ⟩;obtain⟨g,c,rfl,qA,FK,rG,Fz⟩:=hu.some (by omega);obtain⟨⟨uo,tu⟩,fu⟩:=Fz 1 (by omega);have HO:=aa hu;have eQ:=aa bQ;clear ki hu bQ tw Fz;have hn100:0<n - 1:=by omega
  have k8:Hid (bH (w4.setCell ⟨g,1,none⟩ (.int .i64 (-1))) (.slice (some ⟨g,0,none⟩) (n - 1) c) (⟨(l.getD 1 default).x,-1⟩ :: l.drop 2)/\Below W3.heap.size W3 (w4.setCell ⟨g,1,none⟩ (.int .i64 (-1)))):=aa (by
   have h1:=Kq HO.out 1 (.int .i64 (-1)) (by rw[li,List.length_drop,HN.out];omega) (VD.out jP);have e1:(⟨(l.getD 1 default).x,-1⟩ :: l.drop 2:List Lk).length=n - 1:=by rw[List.length_cons,List.length_drop,HN.out];omega
   refine⟨aG.links (base:=W3.heap.size) (by rw[e1];exact h1) yr.out (by rw[e1];omega),eQ.out.setCell (p:=⟨g,1,none⟩) qA _⟩)
  obtain⟨fn2,tmps2,assign2,body2,oy,hR⟩:=Al.out [l.dropLast] _ _ (w4.setCell ⟨g,1,none⟩ (.int .i64 (-1))) _ (yt.out jP) k8.out.1 (fun b hb=>.inr (by have e:=dp hb;have h1:=nX.out.2;dsimp only at e;omega)) (WF.out _ _ _ Tc.out k8.out.2);have HR:=aa hR;clear hR
  gi_wp2
  refine⟨rfl,HR.out.mono ?_⟩;rintro e W6 (⟨rfl,Lf,hz6,hj6⟩|⟨rfl,i,hi,hJx6⟩)
  case inr=>
   clear Al
   gi_wp2
   refine bodyPost_ret (results_none rfl _ _ _) rfl ?_;exact⟨⟨_,rfl⟩,_,.inr ⟨_,hi,hJx6⟩⟩
  have Je:=aa (KSz.trans (PU.out _ _ nX.out k8.out.2) Lf);have SL:Hid (∃ d,dz s l=d++gj s l 0/\J d.length S W6):=aa ⟨_,by rw[yt.out jP,List.append_cons],hj6⟩;clear Lf hj6 hz6 k8 HR oy HO eQ tu fu qA FK rG hn100 hn10 yr V1
  gi_wp2
 case' neg=>
  have V1:decide ((1:Int)<(n:Int))=false:=decide_eq_false (by omega);obtain⟨W6,yH⟩:∃ W6,W6=W3:=⟨_,rfl⟩;rw[<-yH]at nX Tc ⊢;have Je:=aa nX.out;have SL:Hid (∃ d,dz s l=d++gj s l 0/\J d.length S W6):=aa ⟨_,S7.out jP,Tc.out⟩;clear yH tw
  gi_wp2
  clear V1
 all_goals
  clear TD jP nX Tc sS KW mX yt S7 VD;obtain⟨W0,aV⟩:∃ W0,W0=W6:=⟨_,rfl⟩;rw[<-aV]at Je SL ⊢;clear aV
  gi_loopw [32] (fun i wr=>∃ (i':Nat) (d:List (List Lk)),i'<=n/\i=.int .i64 i'/\dz s l=d++gj s l i'/\KSz S w wr/\J d.length S wr) (fun i _=>n - (intOf i).toNat)
  case atStart=>
   obtain⟨d,h1,h2⟩:=SL.out;exact⟨0,d,by omega,rfl,h1,Je.out,h2⟩
  case round=>
   clear Je SL W0;obtain⟨i,d,hi,rfl,hd,fL,xU⟩:=hrel;have jM:=aa fL;have iT:=aa xU;have HD:=aa hd;clear fL xU hd;by_cases aA:i<n
   ·obtain⟨wrA,kG⟩:∃ x,x=wr:=⟨_,rfl⟩
    rw[<-kG]at jM iT ⊢;clear kG;have HDI':Hid (dz s l=d++(gP s l i 0++gj s l (i+1))):=aa (by rw[<-PI.out i aA];exact HD.out)
    gi_wp2
    gi_loopw [7] (fun v wr=>∃ (j:Nat) (d:List (List Lk)),j<=n - 1/\v=.int .i64 ((n - 1 - j:Nat):Int)/\dz s l=d++(gP s l i j++gj s l (i+1))/\KSz S w wr/\J d.length S wr) (fun v _=>(intOf v).toNat)
    case atStart=>exact⟨0,d,by omega,by rw[Nat.sub_zero],HDI'.out,jM.out,iT.out⟩
    case round=>
     clear jM iT HD HDI' d;obtain⟨j,d,hj,rfl,hd,fL,xU⟩:=hrel;have jM:=aa fL;have iT:=aa xU;have HD:=aa hd;obtain⟨k,hk⟩:∃ k,n - 1 - j=k:=⟨_,rfl⟩;rw[hk];have HJE1:=aa (S4.out i j);have Iw:=aa (HJN.out i j);have DT:=aa (S6.out i j);rw[hk]at Iw DT;have hnk1:k+1+j<=n:=by omega
     have hnk2:n<=k+1+j:=by omega
     clear xU hd hk;have hwi:IntKind.i64.wrap ((i:Int)+2)=(i:Int)+2:=by rw[IntWalk.i64_in _ (by omega)]
     by_cases pZ:i+2<=k
     ·obtain⟨e,Fm,z6,he3,he4⟩:=WA.out wr fL i aA
      obtain⟨f,eF,sT,hf3,hf4⟩:=WA.out wr fL k (by omega);rw[z6,sT]at Iw DT;rw[eF]at DT;have hbv:=(Ar.out wr fL).1;have Av:=(Ar.out wr fL).2;have yb:∀ z:ExtW wr,z.val.cell? ⟨bw,0,none⟩=_:=fun z=>ak z.ext hbv
      have yx:∀ z:ExtW wr,z.val.cell? ⟨bx,0,none⟩=_:=fun z=>ak z.ext Av
      have ye:∀ z:ExtW wr,z.val.cell? ⟨pb,po+i * 2,none⟩=_:=fun z=>ak z.ext he4
      have yf:∀ z:ExtW wr,z.val.cell? ⟨pb,po+k * 2,none⟩=_:=fun z=>ak z.ext hf4
      have bO:Hid (∀ y:ExtW wr,Calls Tryz.prog 97 #[.pointer (some ⟨B,0,none⟩),.int .i64 (e:Nat),.int .i64 (f:Nat)] y.val fun r w''=>r=.returned (.int .i64 (maskN (fun p=>linkB s p e f) (nS s):Nat))/\∃ z:ExtW wr,w''=z.val):=aa (fun y=>Calls.ext_of (hH.out y.val (PU.out _ _ jM.out y.ext) e f he3 hf3));have HZ:Hid (maskN (fun p=>linkB s p e f) (nS s)=0↔eI s e f=false):=aa (nh _ _);have HUP:Hid (maskN (fun p=>linkB s p e f) (nS s)=maskN (fun p=>decide (p<nS s)&&linkB s p e f) 8):=aa (UN (by omega) _);have Ap:Hid (firstIx 8 (fun p=>decide (p<nS s)&&linkB s p e f)=byP s e f):=aa (Rh (by omega) _);have gM:i<n:=aA;have lX:k<n:=by omega
      have vf:Hid ((l.getD k default).x=f):=aa eF;have aP:Hid (∀ e f':Nat,bM (byP s e f')/\bM (f:Int)):=aa (fun e f'=>⟨by have:=A0 (nS s) fun p=>linkB s p e f';unfold byP;generalize firstIx (nS s) _=z at this;exact⟨by omega,by omega⟩,by have:=HE4.out;exact⟨by omega,by omega⟩⟩);clear Fm z6 eF sT he4 hf4 hbv Av fL he3 hf3;obtain⟨m,hm⟩:∃ m,maskN (fun p=>linkB s p e f) (nS s)=m:=⟨_,rfl⟩;rw[hm]at bO HZ HUP;clear hm
      gi_wp2
      refine wpIn_wide.2 ?_;refine aC (by kernel_rfl) (by kernel_rfl) ?_
      repeat (go_big_quiet_step ((go_at_call 97;with_reducible exact bO.out _)))
      refine wpQuiet_nil ?_;rintro _ ⟨xq,rfl⟩;have mM:=aa (PU.out _ _ jM.out xq.ext);have MH:=aa (WF.out _ _ _ iT.out xq.ext);generalize xq.val=wr2 at mM MH ⊢;clear yb yx ye yf bO jM iT xq wr;obtain⟨wr,kr⟩:∃ x,x=wr2:=⟨_,rfl⟩;rw[<-kr]at mM MH ⊢;clear kr;have Se:0<k->IntKind.i64.wrap ((k:Int) - 1)=((n - 1 - (j+1):Nat):Int):=fun _=>by rw[IntWalk.i64_in _ (by omega)];omega
      have Se:=Se (by omega);cases gy:eI s e f with
      | false=>
       obtain rfl:m=0:=HZ.out.2 gy;have ge:=aa (Iw.out (by omega) gy);clear gy Iw DT
       gi_wp2
       go_roundw
       case rel=>exact⟨j+1,d,by omega,rfl,by rw[<-ge.out];exact HD.out,mM.out,MH.out⟩
       case measure=>simp[intOf];omega
      | true=>
       have uT:((m:Int) == 0)=false:=beq_eq_false_iff_ne.2 (fun h=>by have:=HZ.out.1 (by omega);rw[gy]at this;cases this);have vj:=aa (DT.out (by omega) gy);clear gy Iw DT HZ;have Io:=aa (Is.out wr mM.out i gM);have Sl:=aa (KG.out wr mM.out).2.2.1;have VA:=aa (VY.out wr mM.out k lX);have sN:Hid ((l.take (i+1)).length=i+1):=aa (by rw[List.length_take,HN.out];omega);have IJ:Hid ((l.drop k).length=n - k):=aa (by rw[List.length_drop,HN.out]);have hwi1:IntKind.i64.wrap ((i:Int)+1)=((i+1:Nat):Int):=by rw[IntWalk.i64_in _ (by omega)];omega
       rw[HN.out]at Sl
       gi_wp2
       refine wpIn_wide.2 ?_;have hS:List.Nodup [57,58,59,60,61,62,63,64]:=by decide
       refine fU 8 [57,58,59,60,61,62,63,64] [MP.eq (.slice (some ⟨pb,po,none⟩) n cl),MP.eq (.int .i64 i),MP.eq (.int .i64 ((i+1:Nat):Int)),MP.eq (.slice (some ⟨pb,po,none⟩) (i+1) cl),Xt wr.heap.size (l.take (i+1)),MP.eq (.slice (some ⟨pb,po,none⟩) n cl),MP.eq (.int .i64 k),MP.eq (.slice (some ⟨pb,po+k * 2,none⟩) (n - k) (cl - k))] (by kernel_rfl) (by simp) hS rfl (by kernel_rfl) (by kernel_rfl) (by kernel_rfl) ?step ?tail
       case step=>
        intro x W i o s F hi ho hs hB aq hF;rcases (show i=0\/i=1\/i=2\/i=3\/i=4\/i=5\/i=6\/i=7 by omega) with rfl|rfl|rfl|rfl|rfl|rfl|rfl|rfl
        all_goals (obtain rfl:=dp ho.symm;obtain rfl:=dp hs.symm;clear hi ho hs)
        ·obtain⟨g1,h1⟩:=dC hF 1 (.pointer (some ⟨bw,0,none⟩)) (by decide) rfl
         have tw:=ab (af hB Sl.out) 0;simp at tw;clear hF aq
         go_wp2_with fail
         exact bD.mk (.slice (some ⟨pb,po,none⟩) n cl) (Below.refl _ _) rfl rfl
        ·obtain⟨g6,h6⟩:=dC hF 6 (.int .i64 i) (by decide) rfl
         clear hF aq
         go_wp2_with fail
         exact bD.mk (.int .i64 i) (Below.refl _ _) rfl rfl
        ·obtain⟨e1,f1⟩:=aW hF 1 58 (.int .i64 i) hS rfl (by kernel_rfl) (aq ⟨1,.data⟩ (by simp) rfl)
         clear hF aq
         go_wp2_with fail
         exact bD.mk (.int .i64 ((i+1:Nat):Int)) (Below.refl _ _) rfl rfl
        ·obtain⟨e0,f0⟩:=aW hF 0 57 (.slice (some ⟨pb,po,none⟩) n cl) hS rfl (by kernel_rfl) (aq ⟨0,.data⟩ (by simp) rfl)
         obtain⟨e2,f2⟩:=aW hF 2 59 (.int .i64 ((i+1:Nat):Int)) hS rfl (by kernel_rfl) (aq ⟨2,.data⟩ (by simp) rfl);clear hF aq
         go_wp2_with fail
         exact bD.mk (.slice (some ⟨pb,po,none⟩) (i+1) cl) (Below.refl _ _) rfl rfl
        ·obtain⟨e3,f3⟩:=aW hF 3 60 (.slice (some ⟨pb,po,none⟩) (i+1) cl) hS rfl (by kernel_rfl) (aq ⟨3,.data⟩ (by simp) rfl)
         clear hF aq
         go_wp2_with fail
         refine(tW _ _ W (Io.out.up up_link hB) (by rw[sN.out];omega)).mono ?_;rintro e w9 ⟨u9,rfl,jj,fk⟩;have mT:=aa (jj.base hB.size);clear jj
         go_wp2_with fail
         exact bD.mk _ fk mT.out rfl
        ·obtain⟨g1,h1⟩:=dC hF 1 (.pointer (some ⟨bw,0,none⟩)) (by decide) rfl
         have tw:=ab (af hB Sl.out) 0;simp at tw;clear hF aq
         go_wp2_with fail
         exact bD.mk (.slice (some ⟨pb,po,none⟩) n cl) (Below.refl _ _) rfl rfl
        ·obtain⟨g7,h7⟩:=dC hF 7 (.int .i64 k) (by decide) rfl
         clear hF aq
         go_wp2_with fail
         exact bD.mk (.int .i64 k) (Below.refl _ _) rfl rfl
        ·obtain⟨e5,f5⟩:=aW hF 5 62 (.slice (some ⟨pb,po,none⟩) n cl) hS rfl (by kernel_rfl) (aq ⟨5,.data⟩ (by simp) rfl)
         obtain⟨e6,f6⟩:=aW hF 6 63 (.int .i64 k) hS rfl (by kernel_rfl) (aq ⟨6,.data⟩ (by simp) rfl);clear hF aq
         go_wp2_with fail
         exact bD.mk (.slice (some ⟨pb,po+k * 2,none⟩) (n - k) (cl - k)) (Below.refl _ _) rfl rfl
       case tail=>
        clear hS;intro x W3 F hB aQ hF;have d4:aG W3 wr.heap.size 75 2 (x 4) (l.take (i+1)).length (cK (l.take (i+1))):=aQ 4 (by omega);have d7:x 7=.slice (some ⟨pb,po+k * 2,none⟩) (n - k) (cl - k):=aQ 7 (by omega);rw[sN.out]at d4;obtain⟨a4,c4,e4⟩:=aG.slice d4;rw[e4]at d4;simp only[br,cW,List.setIfInBounds_toArray,List.set_cons_succ,List.set_cons_zero,Nat.reduceAdd]at hF;rw[e4,d7]at hF;generalize x 0=s0,x 1=s1,x 2=s2,x 3=s3,x 5=s5,x 6=s6 at hF;subst hF;have nO:=aa hB;have yL:=aa d4;have IM:=aa (VA.out.up up_link hB)
        have bz:Hid (∀ j u,(cK (l.drop k))[j]?=some u->W3.cell? (Addr.add ⟨pb,po+k * 2,none⟩ j)=some u):=aa (fun j u hj=>by
         obtain⟨b',o',c',e1,hc⟩:=EN IM.out j u hj;injection e1 with e1
         injection e1 with e1
         injection e1 with e1 e2
         subst e1 e2;have:(Addr.add ⟨pb,po+k * 2,none⟩ j)=⟨pb,po+k * 2+j,none⟩:=by unfold Addr.add;split<;>simp_all
         rw[this];exact hc)
        have P5:Hid ((cK (l.drop k)).length=(n - k) * 2):=aa (by rw[li,IJ.out]);have jN:Hid (i+1+(n - k)<=maxLen):=aa (by unfold maxLen;omega);have eJ:Hid ((i+1+(n - k)) * 16<=140737488355328):=aa (by omega);clear aQ d4 d7 e4 hB;simp only[List.drop_succ_cons,List.drop_zero]
        go_wp2_with (at_builtin;(refine aY _ rfl (.tmp 61) (.tmp 64) 54 rfl wr.heap.size 75 i0 _ 2 16 Tryz.underlying54 cf.out.1 cf.out.2.1 cf.out.2.2.1 cf.out.2.2.2 rfl (by decide) _ (i+1) _ rfl yL.out ⟨pb,po+k * 2,none⟩ (n - k) (cl - k) (cK (l.drop k)) rfl P5.out bz.out (Bz _) jN.out eJ.out nO.out.size ?_;intro v5 w5 My hgrow5 _))
        have dx:Below wr.heap.size wr w5:=Below.grown nO.out hgrow5 nO.out.size (fun g hg=>(yL.out.lt g hg).1);obtain⟨g5,c5,rfl,qA,FK,rG,Fz⟩:=My.some (by omega);obtain⟨⟨uo,tu⟩,fu⟩:=Fz ((i+1) * 2+1) (by omega);have hi5:i+1<i+1+(n - k):=by omega
        have HK5:=aa (PU.out _ _ mM.out dx)
        have Su:Hid (Calls Tryz.prog 83 #[.int .i64 m] w5 fun r w'=>r=.returned (.int .i64 (byP s e f))/\w5=w'):=aa (by
         have h:=B3 (fun p=>decide (p<nS s)&&linkB s p e f) w5 (Wg.out w5 HK5.out);rw[<-HUP.out,Ap.out]at h
         exact h)
        have Cw:Hid (aG w5 wr.heap.size 75 2 (.slice (some ⟨g5,0,none⟩) (i+1+(n - k)) c5) (i+1+(n - k)) (cK (l.take (i+1)++l.drop k))):=aa (by rw[ni];exact My);have lY:=aa dx;clear My hgrow5 Fz dx;have Fc:Hid (bM (byP s e f)/\bM (f:Int)):=aa (aP.out e f);generalize byP s e f=bp at Su vj Fc
        gi_wp2
        refine⟨trivial,rfl,callsIn_wide.2 (Su.out.mono ?_)⟩;rintro r w6 ⟨rfl,rfl⟩;have cO:bM bp/\bM (f:Int):=Fc.out;obtain⟨y,hy⟩:∃ y:Lk,y=⟨f,bp⟩:=⟨_,rfl⟩
        have P9:Hid (bH (w5.setCell ⟨g5,(i+1) * 2+1,none⟩ (.int .i64 bp)) (.slice (some ⟨g5,0,none⟩) (i+1+(n - k)) c5) (l.take (i+1)++⟨f,bp⟩ :: l.drop (k+1))/\Below wr.heap.size wr (w5.setCell ⟨g5,(i+1) * 2+1,none⟩ (.int .i64 bp))):=aa (by
         have e0:(l.getD k default).x=f:=vf.out;have e1:l.drop k=l.getD k default :: l.drop (k+1):=by rw[List.drop_eq_getElem_cons (by rw[HN.out];exact lX),show l.getD k default=l[k]'(by rw[HN.out];exact lX) by simp[HN.out,lX]]
         have e2:cK (l.take (i+1)++⟨f,bp⟩ :: l.drop (k+1))=(cK (l.take (i+1)++l.drop k)).set ((i+1) * 2+1) (.int .i64 bp):=by rw[e1,<-e0,Ri,sN.out]
         have e3:(l.take (i+1)++⟨f,bp⟩ :: l.drop (k+1):List Lk).length=i+1+(n - k):=by rw[List.length_append,List.length_cons,sN.out,List.length_drop,HN.out];omega
         have h1:=Kq Cw.out ((i+1) * 2+1) (.int .i64 bp) (by rw[li,List.length_append,sN.out,IJ.out];omega) e2;refine⟨aG.links (base:=wr.heap.size) (by rw[e3];exact h1) (fun y hy=>?_) (by rw[e3];omega),lY.out.setCell (p:=⟨g5,(i+1) * 2+1,none⟩) qA _⟩;rcases List.mem_append.1 hy with hy|hy
         ·exact ME.out y (List.mem_of_mem_take hy)
         rcases List.mem_cons.1 hy with rfl|hy
         ·exact⟨cO.2,cO.1⟩
         ·exact ME.out y (List.mem_of_mem_drop hy))
        clear hy y cO Su;obtain⟨fn,tmps,assign,body,oy,hR⟩:=Al.out d _ (gP s l i (j+1)++gj s l (i+1)) (w5.setCell ⟨g5,(i+1) * 2+1,none⟩ (.int .i64 bp)) _ (by rw[HD.out,vj.out];rfl) P9.out.1 (fun b hb=>.inr (by have e:=dp hb;have h1:=mM.out.2;dsimp only at e;omega)) (WF.out _ _ _ MH.out P9.out.2);have HR:=aa hR;clear hR;have PY:Hid (dz s l=(d++[l.take (i+1)++⟨f,bp⟩ :: l.drop (k+1)])++(gP s l i (j+1)++gj s l (i+1))):=aa (by rw[HD.out,vj.out];simp)
        gi_wp2
        refine⟨rfl,HR.out.mono ?_⟩;rintro r W9 (⟨rfl,yy,PK,P8⟩|⟨rfl,i9,PH,hJx9⟩)
        ·have pT:=aa (KSz.trans (PU.out _ _ mM.out P9.out.2) yy);have HJ9:=aa P8
         clear yy P8 PK HR oy
         gi_wp2
         go_roundw
         case rel=>exact⟨j+1,_,by omega,rfl,PY.out,pT.out,HJ9.out⟩
         case measure=>simp[intOf];omega
        ·clear Al HR oy
         gi_wp2
         refine bodyPost_ret (results_none rfl _ _ _) rfl ?_;exact⟨⟨_,rfl⟩,_,.inr ⟨_,PH,hJx9⟩⟩
     ·have HJE2:=aa (HJE1.out (by omega))
      clear fL
      gi_wp2
      go_roundw
      case rel=>exact⟨i+1,d,by omega,by go_num,by rw[HD.out,HJE2.out];rfl,jM.out,iT.out⟩
      case measure=>simp[intOf];omega
   ·obtain rfl:i=n:=by omega
    have HCE:Hid (d.length=(dz s l).length):=aa (by rw[HD.out,AA.out,List.append_nil])
    gi_wp2
    go_end0
    exact⟨⟨_,rfl⟩,_,.inl (by rw[<-HCE.out];exact iT.out)⟩
abbrev gm(k:Int) (u:Value):Array Value:=#[.int .i64 k,u,.slice none 0 0,.slice none 0 0,.slice none 0 0]
theorem wD(tmps:Array Value) (B:Nat) (W:World) (k e:Int) (u:Value) (h4:tmps[4]?.getD undef=.pointer (some ⟨B,0,none⟩)) (h5:tmps[5]?.getD undef=.int .i64 e)
  (hB:W.heap[B]?=some (.cells (gm k u) 58)):(results Tryz.f22 tmps).run Tryz.prog W=.ok (.tuple #[.agg (gm k u),.int .i64 e]) W:=by
 have t2:=ab hB;simp[results,Tryz.results22,go_sem,h4,h5,t2]
theorem A1{w:World} {pb po n c:Nat} {l:List Lk} (h:bH w (.slice (some ⟨pb,po,none⟩) n c) l) (h0:0<l.length):pb<w.heap.size:=by
 obtain⟨pl,cl,e1,_,_,el⟩:=h.at;obtain⟨b,o,e2,h1⟩:=el 0 h0;injection e1 with e1
 rw[<-e1]at e2;injection e2 with e2
 injection e2 with e2
 rw[e2];exact eX h1.1.1
theorem UO{s:Sys} {w:List Lk} {i:Nat} (hi:i<(dz s w).length) (h0:∀ j,j<i->iN s ((dz s w).getD j [])=false) (h1:iN s ((dz s w).getD i [])=true):jv s w=some ((dz s w).getD i []):=by
 refine QE (d:=(dz s w).take i) (r:=(dz s w).drop (i+1)) ?_ (fun x hx=>?_) h1
 ·rw[az [] hi]
  simp
 ·obtain⟨j,hj,e⟩:=List.getElem_of_mem hx
  rw[List.length_take]at hj;have h2:=h0 j (by omega);rw[az [] (by omega)]at h2;rw[<-e,List.getElem_take];exact h2
theorem UP{s:Sys} {w:List Lk} (h0:∀ j,j<(dz s w).length->iN s ((dz s w).getD j [])=false):jv s w=none:=by
 refine N9 rfl (fun x hx=>?_);obtain⟨j,hj,e⟩:=List.getElem_of_mem hx;have h2:=h0 j hj;rw[az [] hj,e]at h2;exact h2
theorem UQ{s:Sys} {w c:List Lk} (hw:walkE s w=0) (hc:c∈dz s w):∀ y∈c,0<=y.x/\y.x.toNat<eS s:=fun y hy=>by
 have h0:0<c.length:=List.length_pos_of_mem hy;exact DH ((Ek hc h0).walk hw) y hy
def XA(vr:List Lk × Int) (r:Ending) (w':World):Prop:=∃ u,r=.returned (.tuple #[.agg (gm (if vr.2=0 then 1 else 0) u),.int .i64 vr.2])/\bH w' u vr.1
structure ShI (w w0:World) (b8 b9:Nat) (wk:List Lk) (ag:Bool) (Ds:List Nat) (V:World):Prop where
 old:Below w0.heap.size w0 V
 wk:∃ pb po cl,V.heap[b8]?=some (.cells #[.slice (some ⟨pb,po,none⟩) wk.length cl] 54)/\bH V (.slice (some ⟨pb,po,none⟩) wk.length cl) wk/\(pb≠b8/\pb≠b9)/\w0.heap.size<=pb
 ag:V.heap[b9]?=some (.cells #[.bool ag] 4)
 marks:cM w.heap.size Ds V
theorem ShI.sta{w w0:World} {b8 b9 B:Nat} {wk:List Lk} {ag:Bool} {Ds:List Nat} (h1:w0.heap.size<=B) (h2:∀ D∈Ds,D<B) {A A':World} (c:Chg B A A') (h:ShI w w0 b8 b9 wk ag Ds A):ShI w w0 b8 b9 wk ag Ds A':=by
 obtain⟨pb,po,cl,k1,k2,k3⟩:=h.wk;exact⟨c.below h1 h.old.size h.old,⟨pb,po,cl,c.same _ _ k1 (.inr rfl),k2.ck up_link c.ck,k3⟩,c.same _ _ h.ag (.inr rfl),cB.marks h2 A A' c h.marks⟩
def XE(s:Sys) (w w0:World) (b6 b8:Nat) (F:List Lk) (n:Nat) (act:Act) (W:World):Prop:=∃ (b9:Nat) (wk:List Lk) (ag:Bool) (Ds:List Nat) (u0 u1 u3 u7 u10 u11 u12 u13 u14 u15 u16 u17 u18 u19 u20 u21 u22 u23 u24 u25 u26 u27 u28 u29 u30 u31 u32 u33 u34 u35:Value),
 act={ tmps:=#[u0,u1,.pointer (some ⟨w.heap.size,0,none⟩),u3,.pointer (some ⟨w.heap.size+1+1,0,none⟩),.int .i64 0,.pointer (some ⟨b6,0,none⟩),u7,.pointer (some ⟨b8,0,none⟩),.pointer (some ⟨b9,0,none⟩),u10,u11,u12,u13,u14,u15,u16,u17,u18,u19,u20,u21,u22,u23,u24,u25,u26,u27,u28,u29,u30,u31,u32,u33,u34,u35],defers:=mH Ds }/\n=2 * wk.length+(if ag then 1 else 0)/\walkE s wk=0/\(if ag then iF s wk else wk)=F/\w0.heap.size<=b8/\b8<b9/\ShI w w0 b8 b9 wk ag Ds W
theorem Hq(s:Sys) (hE:eS s<=256) (vc vs vt ve vw:Value) (c:Ct) (pv:Option Addr) (cv:Nat) (pl:Option Addr) (cl:Nat) (pp:Option Addr) (cp:Nat) (w:World) (hT:ij w) (hs:IsSys w s vc vs vt ve) (hN:movesN s.prob.a.states<1099511627776) (hw:bH w vw c.walk) :
  Calls Tryz.prog 22 #[.agg (bT s.prob vc vs s.n vt ve),.agg #[.int .i64 c.kind,vw,.slice pv c.nv cv,.slice pl c.nl cl,.slice pp c.np cp]] w fun r w'=>XA (shortR s c) r w'/\Below w.heap.size w w':=by
 have HS:=aa hs;have HT:=aa hT;obtain⟨⟨pc,cc,rfl⟩,⟨ps,cs,rfl⟩,⟨pt,ct,rfl⟩,⟨pe,ce,rfl⟩⟩:=bE hs;obtain⟨pw,cw,rfl,lw1,lw2,_⟩:=hw.at;have Tw:=aa hw;have HV:=aa (fun W (hb:Below w.heap.size w W)=>xO s hE _ _ _ _ _ c pv cv pl cl pp cp W (HS.out.up hb) hN (Tw.out.up up_link hb))
 have TT:Hid (certE s c=0->verifyE s=0/\walkE s c.walk=0):=aa (fun h=>by
  unfold certE at h;split at h
  ·rename_i h1;exact absurd h h1
  rename_i h1;refine⟨rh (by omega),?_⟩;unfold y9 at h;split at h
  ·omega
  split at h
  ·omega
  split at h
  ·rename_i h4;exact absurd h h4
  ·rename_i h4;omega)
 have P1:Hid (certE s c=0->shortR s c=(iF s c.walk,0)):=aa (fun h=>by unfold shortR;rw[if_neg (by omega)]);have cZ:Hid (certE s c≠0->shortR s c=([],certE s c)):=aa (fun h=>by unfold shortR;rw[if_pos h]);generalize shortR s c=vr at P1 cZ ⊢;obtain⟨ee,wO⟩:∃ ee,certE s c=ee:=⟨_,rfl⟩;rw[wO]at HV TT P1 cZ;obtain⟨kd,wk0,nv,nl,np⟩:=c;dsimp only at *;clear hs hT hw wO;refine fQ Tryz.func22 rfl ?_;simp only[Tryz.ntmps22,List.size_toArray,List.length_cons,List.length_nil,Nat.reduceAdd,Nat.reduceSub,Array.replicate_succ,Array.replicate_zero,List.push_toArray,List.append_toArray,List.nil_append,List.cons_append]
 go_wp2_with fail
 refine aN (fun W=>Below w.heap.size w W/\W.heap[w.heap.size+1]?=some (.cells #[.int .i64 kd,.slice pw wk0.length cw,.slice pv nv cv,.slice pl nl cl,.slice pp np cp] 58)/\W.heap[w.heap.size+1+1]?=some (.cells (gm 0 (.slice none 0 0)) 58)) ⟨by go_grown,ap _ (bd _ _ _),dW _ _ _ _⟩ (fun W0 aV=>?_);obtain⟨aH,gR,gL⟩:=aV;refine(HV.out W0 aH).mono ?_;rintro r w1 ⟨⟨v,rfl,h2,h3⟩,aI⟩;have bF:=aa (ae aH aI);have gp:=aa (af aI gR);have Pd:=aa (af aI gL);have fP:=aB Pd.out;by_cases hr:ee=0
 case neg=>
  have Tb:=aa (cZ.out hr);obtain rfl:=h3 hr;have E7:(ee != 0)=true:=by simpa using hr
  have WO:=aa hr;clear aH aI h2 h3 hr HV gR gL TT P1 cZ
  go_wp2_with (refine wpList_store_row rfl 58 (.tmp 4) (.tmp 19) rfl (w.heap.size+1+1) (gm 0 (.slice none 0 0)) rfl rfl 58 _ (ap _ Pd.out) (by kernel_rfl) rfl (by simp[Value.oneCell']) (gD (fun W=>Below w.heap.size w W/\W.heap[w.heap.size+1+1]?=some (.cells (gm 0 (.slice none 0 0)) 58)) ⟨below_setRow (bF.out.alloc (by omega) _) (by omega) _,setRow_heap _ _ _ _ _ _ (ap _ Pd.out)⟩ ?_);intro W2 eK;have cH:=aa eK;clear eK)
  refine ig (wD _ (w.heap.size+1+1) _ 0 ee (.slice none 0 0) rfl rfl cH.out.2) ?_;have e1:=Tb.out;have e2:=WO.out;subst e1;exact⟨⟨.slice none 0 0,by dsimp only;rw[if_neg e2],⟨none,0,rfl,⟨by simp,by omega,fun _=>rfl⟩,by simp,fun i x hx=>by simp at hx⟩⟩,cH.out.1⟩
 obtain⟨B,rfl,fK⟩:=h2 hr;have Tb:=aa (P1.out hr);have HZ:=aa (TT.out hr);have dB:=aa (jc HZ.out.1);have kh:=aa fK;have cG:=(qN s wk0).1 HZ.out.2;have yQ:=cG.1;have n9:=cG.2.1;subst hr;clear aH aI h2 h3 HV gR gL TT P1 cZ fK cG;have to:=fun o j=>ab (ap o gp.out) j
 go_wp2_with fail
 refine aN (fun W=>Below w1.heap.size w1 W/\W.heap[w1.heap.size]?=some (.cells #[.pointer (some ⟨B,0,none⟩)] 94)) ⟨by go_grown,am _ _⟩ (fun W1 cD=>?_);have gr:=aa cD.1;have kj:=aa cD.2;clear cD to;refine(tW _ wk0 W1 (Tw.out.up up_link (ae bF.out gr.out)) (by omega)).mono ?_;rintro r w2 ⟨u,rfl,hu,aU⟩;obtain⟨pb,cc2,rfl,qA,FK,rG,_⟩:=hu.some yQ;have HU:=aa (aG.links hu (Ho Tw.out) (by omega));have cL:=aa aU;have cj:=aU.size;have bV:=gr.out.size;have df:=aB kj.out;clear hu aU;have IA:=aa (kh.out.up gr.out);have jq:Hid (iF s wk0=vr.1/\vr.2=0):=aa (by rw[Tb.out];exact⟨rfl,rfl⟩);have HRS1:=aa (af gr.out Pd.out);have wg:=aa (ae bF.out gr.out);have Io:=aa (HT.out.up wg.out);clear Tb kh gp Pd
 go_wp2_with fail
 have od:Below w2.heap.size w2 ((w2.alloc (Obj.cells #[Value.slice (some { block:=pb,off:=0 }) wk0.length cc2] 54)).alloc (Obj.cells #[Value.bool true] 4)):=by go_grown
 have cf:Hid (ShI w W1 w2.heap.size (w2.heap.size+1) wk0 true [] ((w2.alloc (Obj.cells #[Value.slice (some { block:=pb,off:=0 }) wk0.length cc2] 54)).alloc (Obj.cells #[Value.bool true] 4))):=aa
  ⟨ae cL.out od,⟨pb,0,cc2,ap _ (am _ _),HU.out.up up_link od,⟨by omega,by omega⟩,by omega⟩,bd _ _ _,cM.nil _ _⟩
 clear od cL HU;refine AZ (fun n act W=>XE s w W1 w1.heap.size w2.heap.size (iF s wk0) n act W) (2 * wk0.length+1) ?start ?round
 case start=>exact⟨w2.heap.size+1,wk0,true,[],_,_,_,_,_,_,_,_,_,_,_,_,_,_,_,_,_,_,_,_,_,_,_,_,_,_,_,_,_,_,rfl,rfl,HZ.out.2,rfl,cj,by omega,cf.out⟩
 case round=>
  clear cf qA FK rG yQ n9 lw1 lw2;have z':W1.heap.size<=w2.heap.size:=cj;generalize w2.heap.size=b8 at z';rintro n act W ⟨b9,wk,ag,Ds,u0,u1,u3,u7,u10,u11,u12,u13,u14,u15,u16,u17,u18,u19,u20,u21,u22,u23,u24,u25,u26,u27,u28,u29,u30,u31,u32,u33,u34,u35,rfl,hn,PJ,hF,_,fk,hI⟩;have cG:=(qN s wk).1 PJ;have yQ:=cG.1;have n9:=cG.2.1;clear cG;have lB:∀ E∈Ds,E<W.heap.size:=hI.marks.lt;obtain⟨pb,po,cl',h8,pX,⟨hp8,S0⟩,uY⟩:=hI.wk;have t9:=ab hI.ag 0;have t8:=ab h8 0;have f9:=aE hI.ag 0;simp at t9 t8;have I4:=af hI.old HRS1.out;have HI:=aa hI;have HH8:=aa h8;have hH:=aa pX;have Ww:=aa hF;have Na:=aa I4;have HN:=aa hn;have vj:=aa (aB HRS1.out);cases ag with
  | false=>
   clear hI h8 pX hF I4 hn f9
   go_wp2_with (refine wpList_store_row rfl 58 (.tmp 4) (.tmp 35) rfl (w.heap.size+1+1) (gm 1 (.slice (some ⟨pb,po,none⟩) wk.length cl')) rfl rfl 58 _ Na.out (by kernel_rfl) rfl (by simp[Value.oneCell']) ?_)
   have hm:cM w.heap.size Ds (W.setRow (w.heap.size+1+1) (gm 1 (.slice (some ⟨pb,po,none⟩) wk.length cl'))):=HI.out.marks.keep fun k o ho hc=>by
    rw[setRow_other _ _ _ _ (fun e=>by subst e;rw[Na.out]at ho;cases ho;cases hc)];exact ho
   have bW:(W.setRow (w.heap.size+1+1) (gm 1 (.slice (some ⟨pb,po,none⟩) wk.length cl'))).heap[w.heap.size+1+1]?=some (.cells (gm 1 (.slice (some ⟨pb,po,none⟩) wk.length cl')) 58):=setRow_heap _ _ _ _ _ _ Na.out;refine qS hm (wD _ (w.heap.size+1+1) _ 1 0 (.slice (some ⟨pb,po,none⟩) wk.length cl') rfl rfl (qR hm _ _ bW rfl)) ?_;have e1:=jq.out;obtain⟨x1,x2⟩:=vr;dsimp only at e1;obtain⟨e1,rfl⟩:=e1;have e3:wk=x1:=by rw[<-e1];exact Ww.out
   subst e3;refine⟨⟨_,rfl,?_⟩,l7 (fun D hD=>(hm.2 D hD).1) (Nat.le_refl _) (below_setRow (ae wg.out HI.out.old) (by omega) _)⟩;refine eR.ck up_link (qR hm) (jX hH.out (setRow_other _ _ _ _ ?_));have:=vj.out;omega
  | true=>
   have sH:Hid (ShI w W1 b8 b9 wk false Ds (W.setCell ⟨b9,0,none⟩ (.bool false))):=aa
    ⟨hI.old.setCell (p:=⟨b9,0,none⟩) (by dsimp only;omega) _,⟨pb,po,cl',aJ h8 (by omega) _ _,jX pX (Below.heap_setCell _ _ _ _ S0),⟨hp8,S0⟩,uY⟩,aF hI.ag _ _,hI.marks.keep fun k o ho hc=>aJ ho (fun e=>by subst e;rw[hI.ag]at ho;cases ho;cases hc) _ _⟩
   have t6':=(ab (af sH.out.old kj.out) 0).trans rfl;have Wz:(W.setCell ⟨b9,0,none⟩ (.bool false)).heap[b8]?=some (.cells #[.slice (some ⟨pb,po,none⟩) wk.length cl'] 54):=aJ h8 (by omega) _ _;have t8':=(ab Wz 0).trans rfl;have HLK1:Hid (bH (W.setCell ⟨b9,0,none⟩ (.bool false)) (.slice (some ⟨pb,po,none⟩) wk.length cl') wk):=aa (jX pX (Below.heap_setCell _ _ _ _ S0));have HH8':=aa Wz;clear hI h8 pX hF I4 hn Wz HI Na HH8 hH t8
   go_wp2_with fail
   clear t6' t8';refine aN (fun V=>ShI w W1 b8 b9 wk false Ds V/\V.heap[b8]?=some (.cells #[.slice (some ⟨pb,po,none⟩) wk.length cl'] 54)/\bH V (.slice (some ⟨pb,po,none⟩) wk.length cl') wk/\V.heap.size=W.heap.size) ⟨sH.out,HH8'.out,HLK1.out,by simp⟩ (fun V hV=>?_);have HV:=aa hV.1;have HV8:=aa hV.2.1;have Ao:=aa hV.2.2.1;have hVs:=hV.2.2.2;rw[<-hVs]at lB;clear hV sH HH8' HLK1 f9 t9 hVs W;refine(JY B (.slice (some ⟨pb,po,none⟩) wk.length cl') V ⟨_,_,_,rfl⟩).mono ?_;rintro r w3 ⟨rfl,rfl⟩
   go_wp2_with fail
   have rG:Below V.heap.size V ((V.alloc (.cells #[.pointer (some ⟨B,0,none⟩)] 94)).alloc (.cells #[.slice (some ⟨pb,po,none⟩) wk.length cl'] 54)):=by go_grown
   refine bm (fun U=>Below V.heap.size V U/\U.heap[V.heap.size]?=some (.cells #[.pointer (some ⟨B,0,none⟩)] 94)/\U.heap[V.heap.size+1]?=some (.cells #[.slice (some ⟨pb,po,none⟩) wk.length cl'] 54)) ⟨rG,ap _ (am _ _),bd _ _ _⟩ (fun U hU=>?_);obtain⟨tk,rB,nC⟩:=hU;have hsU:=aB nC;have Fy:=aa (HV.out.sta (B:=V.heap.size) HV.out.old.size lB (Chg.of_below tk));have cY:=Hp s dB.out hE wk yQ n9 (DH PJ) B V.heap.size (V.heap.size+1) pb po cl' W1 Io.out IA.out U Fy.out.old (Ao.out.up up_link tk) nC rB;have hpbV:=A1 Ao.out yQ;have eV:=aa (fun (wk':List Lk) (ag':Bool) A A' (c:Chg U.heap.size A A') (h:ShI w W1 b8 b9 wk' ag' Ds A)=>h.sta (B:=U.heap.size) Fy.out.old.size (fun E hE=>by have:=lB E hE;omega) c);have hb8U:b8<V.heap.size:=aB HV8.out;have hb9U:b9<V.heap.size:=aB HV.out.ag;clear tk rB rG
   refine Lw (gf:=96) (lb:=#[.pointer (some ⟨V.heap.size+1,0,none⟩),.pointer (some ⟨V.heap.size,0,none⟩)]) rfl (enters_of Tryz.func96 (by kernel_rfl) rfl) cY (Below.refl _ _) (fun k hk=>by have:=Fy.out.old.size;rcases hk with hk|rfl|rfl|rfl<;>omega) (fun i args _ _ h=>by obtain⟨v,h,_⟩:=h;rw[h];rfl)
    (fun i T A=>ShI w W1 b8 b9 wk false Ds A/\(∀ j,j<i->iN s ((dz s wk).getD j [])=false)/\(¬ T b8/\¬ T b9)/\(∀ k,T k->k<A.heap.size)/\U.heap.size<=A.heap.size)
    (fun c i T A=>c=.exit 2/\∃ c',jv s wk=some c'/\ShI w W1 b8 b9 c' true Ds A)
    (fun i T T' A A' h hc hw=>⟨eV.out _ _ _ _ hc h.1,h.2.1,⟨fun hk=>by
     rcases hw.2 _ hk with h1|h1
     ·exact h.2.2.1.1 h1
     ·have:=h.2.2.2.2;omega,fun hk=>by
     rcases hw.2 _ hk with h1|h1
     ·exact h.2.2.1.2 h1
     ·have:=h.2.2.2.2;omega⟩,fun k hk=>by
     rcases hw.2 _ hk with h1|h1
     ·exact Nat.lt_of_lt_of_le (h.2.2.2.1 k h1) hc.size
     ·exact h1.2,Nat.le_trans h.2.2.2.2 hc.size⟩)
    (fun c i T T' A A' h hc hw=>by obtain⟨h1,c',h2,h3⟩:=h;exact⟨h1,c',h2,eV.out _ _ _ _ hc h3⟩)
    ⟨Fy.out,fun j hj=>by omega,⟨by omega,by omega⟩,fun k hk=>by have:=Fy.out.old.size;rcases hk with hk|rfl|rfl|rfl<;>omega,Nat.le_refl _⟩ ?rnd ?done ?stop
   case done=>
    intro D T A hD mQ hK;have lQ:=UP mQ.2.1;have h9:=mQ.1.ag;obtain⟨pb',po',cl'',k1,k2,⟨k3,k4⟩,k5⟩:=mQ.1.wk;have t9:=ab h9 0;simp at t9;have hpa:=A1 k2 yQ;have h8A:=aB k1;have C8:Below A.heap.size A (A.alloc (.cells #[.bool false] 4)):=by go_grown
    have yw:Hid (ShI w W1 b8 A.heap.size wk false (D :: Ds) (A.alloc (.cells #[.bool false] 4))):=aa
     ⟨ae mQ.1.old C8,⟨pb',po',cl'',af C8 k1,k2.up up_link C8,⟨k3,by omega⟩,k5⟩,am _ _,(cM.cons mQ.1.marks (by have:=wg.out.size;have:=Fy.out.old.size;omega) hK fun E hE=>by have:=lB E hE;omega).up C8⟩
    have gQ:Hid ((if false=true then iF s wk else wk)=iF s wk0):=aa (by rw[if_neg (by decide),<-Ls lQ];exact Ww.out);have mV:Hid (2 * wk.length+(if false=true then 1 else 0)<n):=aa (by rw[HN.out];simp);clear mQ cY k1 k2 k3 k4 k5 lQ
    go_wp2_with fail
    exact⟨_,mV.out,A.heap.size,wk,false,D :: Ds,_,_,_,_,_,_,_,_,_,_,_,_,_,_,_,_,_,_,_,_,_,_,_,_,_,_,_,_,_,_,rfl,rfl,PJ,gQ.out,z',by omega,yw.out⟩
   case stop=>
    rintro D c i T A hD hi ⟨rfl,c',lQ,mQ⟩ hK;obtain⟨g1,g2,_,g4⟩:=sd lQ;have h9:=mQ.ag;obtain⟨pb',po',cl'',k1,k2,⟨k3,k4⟩,k5⟩:=mQ.wk;have t9:=ab h9 0;simp at t9;have hpa:=A1 k2 g2;have h8A:=aB k1;have C8:Below A.heap.size A (A.alloc (.cells #[.bool true] 4)):=by go_grown
    have yw:Hid (ShI w W1 b8 A.heap.size c' true (D :: Ds) (A.alloc (.cells #[.bool true] 4))):=aa
     ⟨ae mQ.old C8,⟨pb',po',cl'',af C8 k1,k2.up up_link C8,⟨k3,by omega⟩,k5⟩,am _ _,(cM.cons mQ.marks (by have:=wg.out.size;have:=Fy.out.old.size;omega) hK fun E hE=>by have:=lB E hE;omega).up C8⟩
    have gQ:Hid ((if true=true then iF s c' else c')=iF s wk0):=aa (by rw[if_pos rfl,<-Lt lQ];exact Ww.out);have mV:Hid (2 * c'.length+(if true=true then 1 else 0)<n):=aa (by have:=g4.len;rw[HN.out];simp;omega);have hwz':=g4.walk PJ;clear mQ cY k1 k2 k3 k4 k5 lQ g1 g4
    go_wp2_with fail
    exact⟨_,mV.out,A.heap.size,c',true,D :: Ds,_,_,_,_,_,_,_,_,_,_,_,_,_,_,_,_,_,_,_,_,_,_,_,_,_,_,_,_,_,_,rfl,rfl,hwz',gQ.out,z',by omega,yw.out⟩
   case rnd=>
    rintro yl i T A args hi hl hlA hTl ⟨v,rfl,hv,hvb⟩ ⟨hSI,jl,⟨ht8,ht9⟩,hTA,hUA⟩;obtain⟨pv',cv',rfl,_⟩:=hv.at;have Ag:=aa hv;have yM:=aa hSI;have HTA:=aa hTA;have HMEM:Hid ((dz s wk).getD i []∈dz s wk):=aa (by rw[az [] hi];exact List.getElem_mem hi);have ge:=aa (fun h=>UO hi jl h);have fy:=aa (fun h:iN s ((dz s wk).getD i [])=false=>aS (p:=fun j=>iN s ((dz s wk).getD j [])=false) jl h);generalize (dz s wk).getD i []=cand at Ag HMEM ge fy hv;have wL:=aa hvb;clear hv hSI hTA jl cY
    gi_wp2
    refine⟨Bod.refl _ _ _,fun X=>ShI w W1 b8 b9 wk false Ds X/\bH X (.slice pv' cand.length cv') cand/\(∀ k,T k->k<X.heap.size)/\U.heap.size<=X.heap.size,fun X X' c h=>⟨eV.out _ _ _ _ c h.1,h.2.1.ck up_link c.ck,fun k hk=>Nat.lt_of_lt_of_le (h.2.2.1 k hk) c.size,Nat.le_trans h.2.2.2 c.size⟩,⟨yM.out,Ag.out,HTA.out,hUA⟩,fun X hX jm=>?_⟩;obtain⟨rlp,jm⟩:=jm;have Iu:=aB jm;clear jm rlp;have HX:=aa hX.1;have yr:=aa hX.2.1;have Wi:=aa hX.2.2.1;have hUX:=hX.2.2.2;have tb6:=(ab (af HX.out.old kj.out) 0).trans rfl;have S8:=aa (qr s dB.out B _ cand (UQ PJ HMEM.out) X (IA.out.up HX.out.old) hX.2.1);obtain⟨pbx,pox,clx,q1,q2,⟨q3,q4⟩,q5⟩:=hX.1.wk;have Q1:=aa q1;have Q9:=aa hX.1.ag;clear hX q2 q3 q4 q5 q1
    gi_wp2
    refine⟨trivial,rfl,wo (S8.out.mono ?_)⟩;rintro r W4 ⟨rfl,bQ⟩;clear tb6 S8;have eQ:=aa bQ;have r1:=af bQ Q1.out;have r9:=af bQ Q9.out;have s8:=ab r1 0;have s9:=ab r9 0;have f8:=aE r1 0;have f9:=aE r9 0;simp at s8 s9;have R1:=aa r1;have R9:=aa r9;clear r1 r9 bQ;cases hg:iN s cand with
    | true=>
     have rO:=aa (ge.out hg)
     have h0c:0<cand.length:=by
      unfold iN at hg;rw[Bool.and_eq_true,decide_eq_true_eq]at hg;exact hg.1
     clear hg ge fy;have hne89:¬ (b9=b8):=by omega
     have hne98:¬ (b8=b9):=by omega
     gi_wp2
     obtain⟨pl9,cl9,e9,_,_,el9⟩:=yr.out.at;obtain⟨pbv,pov,e8,_⟩:=el9 0 h0c;injection e9 with e9
     rw[<-e9]at e8;subst e8;have hvo:=wL.out pbv rfl
     have bJ:pbv≠b8/\pbv≠b9/\W1.heap.size<=pbv:=by
      have:=Fy.out.old.size;rcases hvo with rfl|h
      ·exact⟨hp8,S0,uY⟩
      ·omega
     have sG:∀ (k:Nat) (o:Obj),W4.heap[k]?=some o->o.isCells=false->((W4.setCell ⟨b8,0,none⟩ (.slice (some ⟨pbv,pov,none⟩) cand.length cv')).setCell ⟨b9,0,none⟩ (.bool true)).heap[k]?=some o:=fun k o ho hc=>
      aJ (aJ ho (fun e=>by subst e;rw[R1.out]at ho;cases ho;cases hc) _ _) (fun e=>by subst e;rw[R9.out]at ho;cases ho;cases hc) _ _
     refine⟨⟨by simp;have:=eQ.out.size;omega,fun k hk=>?_,fun k o _ ho hc=>sG k o (af eQ.out ho) hc⟩,rfl,_,rO.out,?_⟩
     ·rw[Below.heap_setCell _ _ _ _ (fun e=>ht9 (by dsimp only at e;rw[<-e];exact hk)),Below.heap_setCell _ _ _ _ (fun e=>ht8 (by dsimp only at e;rw[<-e];exact hk))]
      exact eQ.out.block k (Wi.out k hk)
     ·refine⟨((ae HX.out.old eQ.out).setCell (p:=⟨b8,0,none⟩) z' _).setCell (p:=⟨b9,0,none⟩) (by dsimp only;omega) _,⟨pbv,pov,cv',aJ (aF R1.out _ _) hne98 _ _,jX (jX (yr.out.up up_link eQ.out) (Below.heap_setCell _ _ _ _ bJ.1)) (Below.heap_setCell _ _ _ _ bJ.2.1),⟨bJ.1,bJ.2.1⟩,bJ.2.2⟩,aF (aJ R9.out hne89 _ _) _ _,(HX.out.marks.up eQ.out).keep sG⟩
    | false=>
     have rO:=aa (fy.out hg);clear hg ge fy
     gi_wp2
     exact⟨Bod.of_below Wi.out eQ.out,eV.out _ _ _ _ (Chg.of_below eQ.out) HX.out,rO.out,⟨ht8,ht9⟩,fun k hk=>Nat.lt_of_lt_of_le (Wi.out k hk) eQ.out.size,Nat.le_trans hUX eQ.out.size⟩
end Go.Proofs.YtmeaoneaephjeaaGreatDoor
namespace Go.Proofs.YtmeaoneaephjeaaGreatDoor
open Go.RowKit Go Go.Shelf
structure ChT (n:Nat) (T:Nat->Prop) (A A':World):Prop where
 os:A'.os=A.os
 tape:A'.tape=A.tape
 output:A'.output=A.output
 size:A.heap.size<=A'.heap.size
 low:∀ k,k<n->A'.heap[k]?=A.heap[k]?
 same:∀ k o,A.heap[k]?=some o->o.isCells=true->¬ T k->A'.heap[k]?=some o
theorem ChT.of_below{n:Nat} {T:Nat->Prop} {A A':World} (hn:n<=A.heap.size) (h:Below A.heap.size A A'):ChT n T A A':=
 ⟨h.os,h.tape,h.output,h.size,fun k hk=>h.block k (by omega),fun _ _ hk _ _=>af h hk⟩
theorem ChT.of_chg{n B:Nat} {T:Nat->Prop} {A A':World} (h:Chg B A A') (hB:n<=B) (hn:n<=A.heap.size):ChT n T A A':=
 ⟨h.os,h.tape,h.output,h.size,fun k hk=>by
  have h1:A.heap[k]?=some A.heap[k]:=Array.getElem?_eq_getElem (by omega)
  rw[h.same k _ h1 (.inl (by omega)),h1],fun _ _ hk ho _=>h.same _ _ hk (.inr ho)⟩
theorem ChT.mono{n m:Nat} {T:Nat->Prop} {A A':World} (h:ChT n T A A') (hm:m<=n):ChT m T A A':=⟨h.os,h.tape,h.output,h.size,fun k hk=>h.low k (by omega),h.same⟩
theorem ChT.below{n m:Nat} {T:Nat->Prop} {w A A':World} (h:ChT n T A A') (hm:m<=n) (hb:Below m w A):Below m w A':=
 ⟨h.os.trans hb.os,h.tape.trans hb.tape,h.output.trans hb.output,Nat.le_trans hb.size h.size,fun k hk=>(h.low k (by omega)).trans (hb.block k hk)⟩
theorem ChT.set{n b:Nat} {T:Nat->Prop} {A:World} (hT:T b) (hn:n<=b) (o:Nat) (v:Value):ChT n T A (A.setCell ⟨b,o,none⟩ v):=
 ⟨rfl,rfl,rfl,by simp,fun k hk=>Below.heap_setCell _ _ _ _ (by dsimp only;omega),fun k x hk _ ht=>by
  rw[Below.heap_setCell _ _ _ _ (show k≠b from fun e=>ht (e ▸ hT))];exact hk⟩
structure Bdx (B:Nat) (W W':World):Prop where
 size:W.heap.size<=W'.heap.size
 same:∀ (k:Nat) (o:Obj),B<=k->W.heap[k]?=some o->o.isCells=false->W'.heap[k]?=some o
theorem Bod.out{B:Nat} {S:Nat->Prop} {W W':World} (h:Bod B S W W'):Bdx B W W':=⟨h.size,h.same⟩
theorem Bdx.trans{B:Nat} {X Y Z:World} (h:Bdx B X Y) (k:Bdx B Y Z):Bdx B X Z:=⟨Nat.le_trans h.size k.size,fun i o hB hi ho=>k.same i o hB (h.same i o hB hi ho) ho⟩
def Hr(B:Nat) (S:Nat->Prop) (I:Nat->World->Prop) (Ix:Code->Nat->World->Prop) (i:Nat) (W:World):Exit->Act->World->Prop
 | .normal,_,W'=>Bod B S W W'/\I i W'
 | .ret,_,W'=>Bdx B W W'/\Ix .ret i W'
 | .exit id,_,W'=>Bdx B W W'/\Ix (.exit id) i W'
 | .goto t,_,W'=>Bdx B W W'/\Ix (.goto t) i W'
 | .panic _,_,_=>False
 | .outgrown,_,_=>False
theorem EO{P:Program} {B:Nat} {S:Nat->Prop} {ps:Array Tmp} {assign body:Code} {tmps:Array Value} {l i:Nat} {I:Nat->World->Prop} {Ix:Code->Nat->World->Prop} {W:World} {args:Array Value} {r:Loop} (R:Ending->World->Prop)
  (uO:B<=l) (qB:¬ S l) (hr:r.params=ps/\r.assign=assign/\r.body=body/\r.tmps=tmps/\r.state=.ready/\r.pending=none) (hl:W.heap[l]?=some (.loop r)) (xT:args.size=ps.size)
  (k9:assign.wpIn (Fence.wide.inRound l) 0 P (Exit.then (fun a1 W1=>Bod B S W W1/\∃ Ax:World->Prop,cB B Ax/\Ax W1/\∀ W2,Ax W2->(∃ r,W2.heap[l]?=some (.loop r))->body.wpIn (Fence.wide.inRound l) 0 P (Hr B S I Ix (i+1) W2) a1 W2) (fun _ _ _=>False))
   { tmps:=(ps.zip args).foldl (fun t (p,v)=>t.setIfInBounds p v) tmps,defers:=[] } W)
  (ro:∀ W3 W4,W.heap.size<=W3.heap.size->Bod (l+1) S W W4->W4.heap[l]?=some (.loop r)->Chg B W3 W4->I (i+1) W3->(∀ k o,B<=k->k≠l->W.heap[k]?=some o->o.isCells=false->W4.heap[k]?=some o)->R (.returned (.bool true)) W4)
  (l3:∀ c W3 W4,W.heap.size<=W3.heap.size->W.heap.size<=W4.heap.size->W4.heap[l]?=some (.loop { r with state:=.done,pending:=some c })->Chg B W3 W4->Ix c (i+1) W3->(∀ k o,B<=k->k≠l->W.heap[k]?=some o->o.isCells=false->W4.heap[k]?=some o)->R (.returned (.bool false)) W4) :
  YieldAt Fence.wide 0 P l args W R:=by
 obtain⟨h1,h2,h3,h4,h5,h6⟩:=hr;refine⟨r.fn,_,r.assign,r.body,run_yield hl (by rw[h1];exact xT),roundIn_of_wpIn trivial ?_⟩;rw[h1,h2,h3,h4];refine wpIn_mono k9 ?_;rintro e a1 W1 hp;cases e<;>first|exact hp.elim|skip
 obtain⟨Be,Ax,VV,VX,MG⟩:=hp;have ie:W1.heap[l]?=some (.loop r):=Be.same l _ uO hl rfl;have mP:(W1.putObj l (.loop { r with state:=.busy })).heap[l]?=some (.loop { r with state:=.busy }):=World.putObj_heap_same (aB ie);have aU:Bod (l+1) S W (W1.putObj l (.loop { r with state:=.busy })):=(Be.mono (by omega)).trans (Bod.put _ _ qB)
 have n8:∀ k o,B<=k->k≠l->W.heap[k]?=some o->o.isCells=false->(W1.putObj l (.loop { r with state:=.busy })).heap[k]?=some o:=
  fun k o hk bJ ho hc=>(World.putObj_heap_other bJ).trans (Be.same k o hk ho hc)
 refine⟨_,run_beginRound ie h5,wpIn_mono (MG _ (VV _ _ (Chg.put _ ie uO rfl) VX) ⟨_,mP⟩) ?_⟩;generalize W1.putObj l (.loop { r with state:=.busy })=W2 at mP aU n8;rintro e a3 W3 hp
 have fin:∀ (jump:Option Code),Bod B S W2 W3->(Instr.endRound l jump).run P W3=.ok (.bool jump.isNone) (W3.putObj l (.loop { r with state:=if jump.isNone then .ready else .done,pending:=jump })) ∧
   (W3.putObj l (.loop { r with state:=if jump.isNone then .ready else .done,pending:=jump })).heap[l]?=some (.loop { r with state:=if jump.isNone then .ready else .done,pending:=jump }) ∧
   Chg B W3 (W3.putObj l (.loop { r with state:=if jump.isNone then .ready else .done,pending:=jump }))/\Bod (l+1) S W (W3.putObj l (.loop { r with state:=if jump.isNone then .ready else .done,pending:=jump })) ∧
   (∀ k o,B<=k->k≠l->W.heap[k]?=some o->o.isCells=false->(W3.putObj l (.loop { r with state:=if jump.isNone then .ready else .done,pending:=jump })).heap[k]?=some o):=fun jump bC=>by
  have sI:=bC.same l _ uO mP rfl
  exact⟨run_endRound (r:={ r with state:=.busy }) jump sI,World.putObj_heap_same (aB sI),Chg.put _ sI uO rfl,(aU.trans (bC.mono (by omega))).trans (Bod.put _ _ qB),
   fun k o hk bJ ho hc=>(World.putObj_heap_other bJ).trans (bC.same k o hk (n8 k o hk bJ ho hc) hc)⟩
 have fin2:∀ (jump:Option Code),Bdx B W2 W3->(Instr.endRound l jump).run P W3=.ok (.bool jump.isNone) (W3.putObj l (.loop { r with state:=if jump.isNone then .ready else .done,pending:=jump })) ∧
   (W3.putObj l (.loop { r with state:=if jump.isNone then .ready else .done,pending:=jump })).heap[l]?=some (.loop { r with state:=if jump.isNone then .ready else .done,pending:=jump }) ∧
   Chg B W3 (W3.putObj l (.loop { r with state:=if jump.isNone then .ready else .done,pending:=jump }))/\W.heap.size<=(W3.putObj l (.loop { r with state:=if jump.isNone then .ready else .done,pending:=jump })).heap.size ∧
   (∀ k o,B<=k->k≠l->W.heap[k]?=some o->o.isCells=false->(W3.putObj l (.loop { r with state:=if jump.isNone then .ready else .done,pending:=jump })).heap[k]?=some o):=fun jump bC=>by
  have sI:=bC.same l _ uO mP rfl
  exact⟨run_endRound (r:={ r with state:=.busy }) jump sI,World.putObj_heap_same (aB sI),Chg.put _ sI uO rfl,by simpa using Nat.le_trans aU.size bC.size,
   fun k o hk bJ ho hc=>(World.putObj_heap_other bJ).trans (bC.same k o hk (n8 k o hk bJ ho hc) hc)⟩
 cases e with
 | normal=>
  obtain⟨bC,hi⟩:=hp;obtain⟨f1,f2,f3,f4,f5⟩:=fin none bC;refine⟨_,_,f1,ro W3 _ (Nat.le_trans aU.size bC.size) f4 ?_ f3 hi f5⟩;rw[f2];cases r;simp_all
 | ret=>
  obtain⟨bC,hi⟩:=hp;obtain⟨f1,f2,f3,f4,f5⟩:=fin2 (some .ret) bC;exact⟨_,_,f1,l3 .ret W3 _ (Nat.le_trans aU.size bC.size) f4 f2 f3 hi f5⟩
 | exit id=>
  obtain⟨bC,hi⟩:=hp;obtain⟨f1,f2,f3,f4,f5⟩:=fin2 (some (.exit id)) bC;exact⟨_,_,f1,l3 (.exit id) W3 _ (Nat.le_trans aU.size bC.size) f4 f2 f3 hi f5⟩
 | goto t=>
  obtain⟨bC,hi⟩:=hp;obtain⟨f1,f2,f3,f4,f5⟩:=fin2 (some (.goto t)) bC;exact⟨_,_,f1,l3 (.goto t) W3 _ (Nat.le_trans aU.size bC.size) f4 f2 f3 hi f5⟩
 | panic ch=>exact hp.elim
 | outgrown=>exact hp.elim
theorem OT{P:Program} {g:Operand} {ps:Array Tmp} {assign body:Code} {Q:Exit->Act->World->Prop} {a:Act} {w:World}
  {gf:Nat} {lb:Array Value} (hg:a.eval g=.func (.func gf) #[] lb) (eg:∀ args w,(callFunc gf args).run P w=.ok (.enter gf args) w)
  {encs:Nat->Array Value} {N:Nat} {S:Nat->Prop} {w0:World} (cY:rR P gf lb encs N S w0) (aH:Below w0.heap.size w0 w) (hS:∀ k,S k->k<w.heap.size) (xT:∀ i,(encs i).size=ps.size)
  (I:Nat->World->Prop) (Ix:Code->Nat->World->Prop) (hI:∀ i,cB w.heap.size (I i)) (sE:∀ c i,cB w.heap.size (Ix c i)) (h0:I 0 w)
  (k9:∀ l i W,i<N->w.heap.size<=l->I i W →
   assign.wpIn (Fence.wide.inRound l) 0 P (Exit.then (fun a1 W1=>Bod w.heap.size S W W1/\∃ Ax:World->Prop,cB w.heap.size Ax/\Ax W1/\∀ W2,Ax W2->(∃ r,W2.heap[l]?=some (.loop r))->body.wpIn (Fence.wide.inRound l) 0 P (Hr w.heap.size S I Ix (i+1) W2) a1 W2) (fun _ _ _=>False))
    { tmps:=(ps.zip (encs i)).foldl (fun t (p,v)=>t.setIfInBounds p v) a.tmps,defers:=[] } W)
  (vZ:∀ D W,w.heap.size<=D->I N W->W.heap[D]?=some (.deferred (some []))->Q .normal { a with defers:=gX D :: a.defers } W)
  (v8:∀ D c i W,w.heap.size<=D->i<=N->Ix c i W->W.heap[D]?=some (.deferred (some []))->c.wp P Q { a with defers:=gX D :: a.defers } W) :
  (Code.rangeFunc g ps assign body).wp P Q a w:=by
 refine(wpIn_wide (n:=0)).1 (wpIn_rangeFunc ?_);intro fn _;obtain⟨rec,j7⟩:∃ rec:Loop,rec={ state:=.ready,pending:=none,fn,tmps:=a.tmps,params:=ps,assign,body,defers:=w.heap.size }:=⟨_,rfl⟩;obtain⟨W1,cD⟩:∃ W1,(w.alloc (.deferred (some []))).alloc (.loop rec)=W1:=⟨_,rfl⟩
 have IN:W1.heap[w.heap.size+1]?=some (.loop rec):=by
  rw[<-cD];have:=am (w.alloc (.deferred (some []))) (.loop rec);rwa [World.size_alloc]at this
 have I7:W1.heap[w.heap.size]?=some (.deferred (some [])):=by rw[<-cD];exact ap _ (am w _)
 have rI:Below w.heap.size w W1:=by rw[<-cD];exact((Below.refl _ w).alloc (Nat.le_refl _) _).alloc (by simp) _
 have PD:¬ S (w.heap.size+1):=fun h=>by have:=hS _ h;omega
 refine⟨w.heap.size+1,[gX w.heap.size],W1,{ target:=.fn (.func gf) lb,args:=#[.func (.yield (w.heap.size+1)) #[] #[]] },W1,gf,
  #[.func (.yield (w.heap.size+1)) #[] #[]]++lb,W1,?_,?_,fun _ _=>trivial,?_,fun h=>(by simp[Fence.wide]at h),?_⟩
 ·rw[<-cD,j7];exact run_enterLoop_outer _ _ _ _ _
 ·simp only[resolve,hg]
  simp[go_sem]
 ·simp[invoke,go_sem,eg]
 ·refine(callsIn_wide (n:=0 - 1)).2 ?_
  refine(cY (w.heap.size+1)
   (fun i W=>I i W/\W.heap[w.heap.size+1]?=some (.loop rec)/\W.heap[w.heap.size]?=some (.deferred (some [])))
   (fun i W=>∃ c,Ix c i W/\W.heap[w.heap.size+1]?=some (.loop { rec with state:=.done,pending:=some c })/\W.heap[w.heap.size]?=some (.deferred (some [])))
   W1 (ae aH rI)
   (fun i A A' h hb=>⟨hI i A A' (.of_below hb) h.1,af hb h.2.1,af hb h.2.2⟩)
   (fun i A A' h hb=>by obtain⟨c,h1,h2,h3⟩:=h;exact⟨c,sE c i A A' (.of_below hb) h1,af hb h2,af hb h3⟩)
   ?_ ⟨hI 0 _ _ (.of_below rI) h0,IN,I7⟩).mono ?_
  ·rintro i W hi ⟨Jl,hl,hk⟩
   refine EO (B:=w.heap.size) (S:=S) (ps:=ps) (assign:=assign) (body:=body) (tmps:=a.tmps) (i:=i) (I:=I) (Ix:=Ix) _ (by omega) PD (by rw[j7];simp) hl (xT i) (k9 _ i W hi (by omega) Jl) ?_ ?_
   ·intro W3 W4 _ bQ n9 hc rM lD
    exact .inl ⟨rfl,⟨hI _ _ _ hc rM,n9,lD _ _ (Nat.le_refl _) (by omega) hk rfl⟩,bQ.size,bQ.keep⟩
   ·intro c W3 W4 _ _ n9 hc rM lD
    exact .inr ⟨rfl,c,sE _ _ _ _ hc rM,n9,lD _ _ (Nat.le_refl _) (by omega) hk rfl⟩
  ·rintro e W2 ⟨⟨v,rfl⟩,(⟨hi,hl,hk⟩|⟨i,cO,c,hi,hl,hk⟩)⟩
   ·exact⟨none,_,by have:=run_endLoop (P:=P) hl (by rw[j7];simp);rw[this,j7],vZ _ _ (Nat.le_refl _) (hI _ _ _ (Chg.put _ hl (by omega) rfl) hi) ((World.putObj_heap_other (by omega)).trans hk)⟩
   ·exact⟨some c,_,by have:=run_endLoop (P:=P) hl (by simp);rw[this],wpIn_wide.2 (v8 _ c i _ (Nat.le_refl _) cO (sE _ _ _ _ (Chg.put _ hl (by omega) rfl) hi) ((World.putObj_heap_other (by omega)).trans hk))⟩
def SE(P:Program) (g:Nat) (lb:Array Value) (E:Nat->Array Value->Prop) (N:Nat) (S:Nat->Prop) (w:World):Prop:=
 ∀ (l:Nat) (J Jx:Nat->(Nat->Prop)->World->Prop) (W:World),Below w.heap.size w W->l<W.heap.size →
  (∀ i T T' A A',J i T A->ChT W.heap.size T A A'->gx A A' T T'->J i T' A')->(∀ i T T' A A',Jx i T A->ChT W.heap.size T A A'->gx A A' T T'->Jx i T' A') →
  (∀ i T W1 args,i<N->E i args->J i T W1->W.heap.size<=W1.heap.size->YieldAt Fence.wide 0 P l args W1 fun e W'=>
   W1.heap.size<=W'.heap.size/\(∀ k o,W.heap.size<=k->W1.heap[k]?=some o->o.isCells=false->W'.heap[k]?=some o)/\((e=.returned (.bool true)/\(∀ k,T k\/S k->k<W1.heap.size->W'.heap[k]?=W1.heap[k]?)/\J (i+1) T W')\/(e=.returned (.bool false)/\Jx (i+1) T W'))) →
  J 0 (fun _=>False) W →
  Calls P g (#[.func (.yield l) #[] #[]]++lb) W fun e W'=>(∃ v,e=.returned v)/\∃ T,J N T W'\/∃ i,i<=N/\Jx i T W'
theorem Mh{P:Program} {g:Operand} {ps:Array Tmp} {assign body:Code} {Q:Exit->Act->World->Prop} {a:Act} {w:World}
  {gf:Nat} {lb:Array Value} (hg:a.eval g=.func (.func gf) #[] lb) (eg:∀ args w,(callFunc gf args).run P w=.ok (.enter gf args) w)
  {E:Nat->Array Value->Prop} {N:Nat} {S:Nat->Prop} {w0:World} (cY:SE P gf lb E N S w0) (aH:Below w0.heap.size w0 w) (hS:∀ k,S k->k<w.heap.size) (xT:∀ i args,E i args->args.size=ps.size)
  (I:Nat->(Nat->Prop)->World->Prop) (Ix:Code->Nat->(Nat->Prop)->World->Prop)
  (hI:∀ i T T' A A',I i T A->ChT w.heap.size T A A'->gx A A' T T'->I i T' A') (sE:∀ c i T T' A A',Ix c i T A->ChT w.heap.size T A A'->gx A A' T T'->Ix c i T' A') (h0:I 0 (fun _=>False) w)
  (k9:∀ l i T W args,i<N->w.heap.size<l->l<W.heap.size->(∀ k,T k->w.heap.size+2<=k)->E i args->I i T W →
   assign.wpIn (Fence.wide.inRound l) 0 P (Exit.then (fun a1 W1=>Bod w.heap.size (fun k=>(T k\/S k)/\k<W.heap.size) W W1/\∃ Ax:World->Prop,cB w.heap.size Ax/\Ax W1/\∀ W2,Ax W2->(∃ r,W2.heap[l]?=some (.loop r))->body.wpIn (Fence.wide.inRound l) 0 P (Hr w.heap.size (fun k=>(T k\/S k)/\k<W.heap.size) (fun i=>I i T) (fun c i=>Ix c i T) (i+1) W2) a1 W2) (fun _ _ _=>False))
    { tmps:=(ps.zip args).foldl (fun t (p,v)=>t.setIfInBounds p v) a.tmps,defers:=[] } W)
  (vZ:∀ D T W,w.heap.size<=D->I N T W->W.heap[D]?=some (.deferred (some []))->Q .normal { a with defers:=gX D :: a.defers } W)
  (v8:∀ D c i T W,w.heap.size<=D->i<=N->Ix c i T W->W.heap[D]?=some (.deferred (some []))->c.wp P Q { a with defers:=gX D :: a.defers } W) :
  (Code.rangeFunc g ps assign body).wp P Q a w:=by
 refine(wpIn_wide (n:=0)).1 (wpIn_rangeFunc ?_);intro fn _;obtain⟨rec,j7⟩:∃ rec:Loop,rec={ state:=.ready,pending:=none,fn,tmps:=a.tmps,params:=ps,assign,body,defers:=w.heap.size }:=⟨_,rfl⟩;obtain⟨W1,cD⟩:∃ W1,(w.alloc (.deferred (some []))).alloc (.loop rec)=W1:=⟨_,rfl⟩
 have IN:W1.heap[w.heap.size+1]?=some (.loop rec):=by
  rw[<-cD];have:=am (w.alloc (.deferred (some []))) (.loop rec);rwa [World.size_alloc]at this
 have I7:W1.heap[w.heap.size]?=some (.deferred (some [])):=by rw[<-cD];exact ap _ (am w _)
 have bV:W1.heap.size=w.heap.size+2:=by rw[<-cD];simp
 have rI:Below w.heap.size w W1:=by rw[<-cD];exact((Below.refl _ w).alloc (Nat.le_refl _) _).alloc (by simp) _
 have Nb:∀ {T:Nat->Prop} {A A':World},ChT W1.heap.size T A A'->ChT w.heap.size T A A':=fun h=>h.mono (by omega)
 have wT:∀ {i:Nat} {T:Nat->Prop} {A A':World},Chg w.heap.size A A'->w.heap.size<=A.heap.size->I i T A->I i T A':=fun hc hs h=>hI _ _ _ _ _ h (.of_chg hc (Nat.le_refl _) hs) (gx.refl _ _ _)
 have hIx1:∀ {c:Code} {i:Nat} {T:Nat->Prop} {A A':World},Chg w.heap.size A A'->w.heap.size<=A.heap.size->Ix c i T A->Ix c i T A':=fun hc hs h=>sE _ _ _ _ _ _ h (.of_chg hc (Nat.le_refl _) hs) (gx.refl _ _ _)
 have hTw:∀ {T T':Nat->Prop} {A A':World},gx A A' T T'->w.heap.size+2<=A.heap.size->(∀ k,T k->w.heap.size+2<=k)->∀ k,T' k->w.heap.size+2<=k:=fun hw hs h k hk=>by
  rcases hw.2 k hk with h1|h1
  ·exact h k h1
  ·omega
 refine⟨w.heap.size+1,[gX w.heap.size],W1,{ target:=.fn (.func gf) lb,args:=#[.func (.yield (w.heap.size+1)) #[] #[]] },W1,gf,
  #[.func (.yield (w.heap.size+1)) #[] #[]]++lb,W1,?_,?_,fun _ _=>trivial,?_,fun h=>(by simp[Fence.wide]at h),?_⟩
 ·rw[<-cD,j7];exact run_enterLoop_outer _ _ _ _ _
 ·simp only[resolve,hg]
  simp[go_sem]
 ·simp[invoke,go_sem,eg]
 ·refine(callsIn_wide (n:=0 - 1)).2 ?_
  refine(cY (w.heap.size+1)
   (fun i T W=>I i T W/\W.heap[w.heap.size+1]?=some (.loop rec)/\W.heap[w.heap.size]?=some (.deferred (some []))/\∀ k,T k->w.heap.size+2<=k)
   (fun i T W=>∃ c,Ix c i T W/\W.heap[w.heap.size+1]?=some (.loop { rec with state:=.done,pending:=some c })/\W.heap[w.heap.size]?=some (.deferred (some [])))
   W1 (ae aH rI) (by omega)
   (fun i T T' A A' h hb hw=>⟨hI i T T' A A' h.1 (Nb hb) hw,(hb.low _ (by omega)).trans h.2.1,(hb.low _ (by omega)).trans h.2.2.1,hTw hw (by have:=aB h.2.1;omega) h.2.2.2⟩)
   (fun i T T' A A' h hb hw=>by obtain⟨c,h1,h2,h3⟩:=h;exact⟨c,sE c i T T' A A' h1 (Nb hb) hw,(hb.low _ (by omega)).trans h2,(hb.low _ (by omega)).trans h3⟩)
   ?_ ⟨hI 0 _ _ _ _ h0 (.of_below (Nat.le_refl _) rI) (gx.refl _ _ _),IN,I7,fun k h=>h.elim⟩).mono ?_
  ·rintro i T W args hi hE ⟨Jl,hl,hk,hT⟩ eT
   have aA:=aB hl
   have hnl:¬ ((T (w.heap.size+1)\/S (w.heap.size+1))/\w.heap.size+1<W.heap.size):=fun h=>by
    rcases h.1 with h|h
    ·have:=hT _ h;omega
    ·have:=hS _ h;omega
   refine EO (B:=w.heap.size) (S:=fun k=>(T k\/S k)/\k<W.heap.size) (ps:=ps) (assign:=assign) (body:=body) (tmps:=a.tmps) (i:=i) (I:=fun i=>I i T) (Ix:=fun c i=>Ix c i T) _ (by omega) hnl (by rw[j7];simp) hl (xT i args hE) (k9 _ i T W args hi (by omega) aA hT hE Jl) ?_ ?_
   ·intro W3 W4 mR bQ n9 hc rM lD
    exact⟨bQ.size,fun k o hk ho hc=>bQ.same k o (by omega) ho hc,.inl ⟨rfl,fun k hk aA=>bQ.keep k ⟨hk,aA⟩,wT hc (by omega) rM,n9,lD _ _ (Nat.le_refl _) (by omega) hk rfl,hT⟩⟩
   ·intro c W3 W4 mR Pm n9 hc rM lD
    exact⟨Pm,fun k o hk ho hc=>lD k o (by omega) (by omega) ho hc,.inr ⟨rfl,c,hIx1 hc (by omega) rM,n9,lD _ _ (Nat.le_refl _) (by omega) hk rfl⟩⟩
  ·rintro e W2 ⟨⟨v,rfl⟩,T,(⟨hi,hl,hk,_⟩|⟨i,cO,c,hi,hl,hk⟩)⟩
   ·have mP:=aB hl
    exact⟨none,_,by have:=run_endLoop (P:=P) hl (by rw[j7];simp);rw[this,j7],vZ _ T _ (Nat.le_refl _) (wT (Chg.put _ hl (by omega) rfl) (by omega) hi) ((World.putObj_heap_other (by omega)).trans hk)⟩
   ·have mP:=aB hl
    exact⟨some c,_,by have:=run_endLoop (P:=P) hl (by simp);rw[this],wpIn_wide.2 (v8 _ c i T _ (Nat.le_refl _) cO (hIx1 (Chg.put _ hl (by omega) rfl) (by omega) hi) ((World.putObj_heap_other (by omega)).trans hk))⟩
end Go.Proofs.YtmeaoneaephjeaaGreatDoor
namespace Go.Proofs.YtmeaoneaephjeaaGreatDoor
open Go.RowKit Go Go.Shelf
attribute [local go_sem] Oper.semAt_some
def l8(s:Sys) (mem:List Nat) (i:Nat):List Lk:=if i=0 then jA s mem else lg s (mem.getD (i - 1) 0) (mem.drop i)
theorem JZ(s:Sys) (mem:List Nat) (h:0<mem.length):l8 s mem 0=⟨mem.getD 0 0,-1⟩ :: l8 s mem 1:=by
 match mem,h with
 | a :: r,_=>rfl
theorem Mi(s:Sys) (mem:List Nat) (i:Nat) (h0:0<i) (hi:i<mem.length):l8 s mem i=jV s (mem.getD (i - 1) 0) (mem.getD i 0)++l8 s mem (i+1):=by
 unfold l8;rw[if_neg (by omega),if_neg (by omega),List.drop_eq_getElem_cons hi,az 0 hi,Nat.add_sub_cancel,az 0 hi];rfl
theorem OU(s:Sys) (mem:List Nat):l8 s mem mem.length=[]:=by
 unfold l8;split
 ·rename_i h
  rw[List.eq_nil_of_length_eq_zero h];rfl
 ·rw[List.drop_length]
  rfl
structure SlS (J:Nat->(Nat->Prop)->World->Prop) (S:Nat->Prop) (w W:World) (yl c1 B:Nat) (x:Int) (d:Nat) (cur:Int) (T:Nat->Prop) (V:World):Prop where
 j:J d T V
 ks:KSz S w V
 sz:W.heap.size<=V.heap.size
 b3:V.heap[W.heap.size]?=some (.cells #[.func (.yield yl) #[] #[]] 80)
 b4:V.heap[W.heap.size+1]?=some (.cells #[.int .i64 cur] 3)
 x1:V.heap[c1]?=some (.cells #[.pointer (some ⟨B,0,none⟩)] 94)
 x2:V.heap[c1+1]?=some (.cells #[.int .i64 x] 3)
 t:T W.heap.size/\T (W.heap.size+1)/\T c1/\T (c1+1)
 tb:∀ k,T k->W.heap.size<=k/\k<V.heap.size
section
variable {J : Nat → (Nat → Prop) → World → Prop} {S : Nat → Prop} {w W : World} {yl c1 B : Nat} {x : Int} {d : Nat} {cur : Int} {T T' : Nat → Prop} {V V' : World}
theorem SlS.grow(h:SlS J S w W yl c1 B x d cur T V) (hJ:∀ i T T' A A',J i T A->ChT W.heap.size T A A'->gx A A' T T'->J i T' A') (hS:∀ k,S k->k<w.heap.size) (hb:Below V.heap.size V V') (hw:gx V V' T T'):SlS J S w W yl c1 B x d cur T' V':=
 ⟨hJ _ _ _ _ _ h.j (ChT.of_below h.sz hb) hw,⟨fun k hk=>(hb.block k (by have:=hS k hk;have:=h.ks.2;omega)).trans (h.ks.1 k hk),Nat.le_trans h.ks.2 hb.size⟩,Nat.le_trans h.sz hb.size,af hb h.b3,af hb h.b4,af hb h.x1,af hb h.x2,⟨hw.1 _ h.t.1,hw.1 _ h.t.2.1,hw.1 _ h.t.2.2.1,hw.1 _ h.t.2.2.2⟩,fun k hk=>by
  rcases hw.2 k hk with h1|h1
  ·exact⟨(h.tb k h1).1,Nat.lt_of_lt_of_le (h.tb k h1).2 hb.size⟩
  ·exact⟨by have:=h.sz;omega,h1.2⟩⟩
theorem SlS.chg{n:Nat} (h:SlS J S w W yl c1 B x d cur T V) (hJ:∀ i T T' A A',J i T A->ChT W.heap.size T A A'->gx A A' T T'->J i T' A') (hS:∀ k,S k->k<w.heap.size) (hn:W.heap.size<=n) (hwn:w.heap.size<=n) (hc:Chg n V V'):SlS J S w W yl c1 B x d cur T V':=
 ⟨hJ _ _ _ _ _ h.j (ChT.of_chg hc hn h.sz) (gx.refl _ _ _),⟨fun k hk=>by
  have h1:k<V.heap.size:=by have:=hS k hk;have:=h.ks.2;omega
  have h2:V.heap[k]?=some V.heap[k]:=Array.getElem?_eq_getElem h1;rw[hc.same k _ h2 (.inl (by have:=hS k hk;omega)),<-h2]
  exact h.ks.1 k hk,Nat.le_trans h.ks.2 hc.size⟩,Nat.le_trans h.sz hc.size,hc.same _ _ h.b3 (.inr rfl),hc.same _ _ h.b4 (.inr rfl),hc.same _ _ h.x1 (.inr rfl),hc.same _ _ h.x2 (.inr rfl),h.t,fun k hk=>⟨(h.tb k hk).1,Nat.lt_of_lt_of_le (h.tb k hk).2 hc.size⟩⟩
theorem SlS.put(h:SlS J S w W yl c1 B x d cur T V) (hJ:∀ i T T' A A',J i T A->ChT W.heap.size T A A'->gx A A' T T'->J i T' A') (hS:∀ k,S k->k<W.heap.size) (hc:c1≠W.heap.size+1/\c1+1≠W.heap.size+1) (y:Int):SlS J S w W yl c1 B x d y T (V.setCell ⟨W.heap.size+1,0,none⟩ (.int .i64 y)):=
 ⟨hJ _ _ _ _ _ h.j (ChT.set h.t.2.1 (by omega) _ _) (gx.refl _ _ _),⟨fun k hk=>(Below.heap_setCell _ _ _ _ (by have:=hS k hk;dsimp only;omega)).trans (h.ks.1 k hk),by simpa using h.ks.2⟩,by simpa using h.sz,aJ h.b3 (by omega) _ _,aF h.b4 _ _,aJ h.x1 hc.1 _ _,aJ h.x2 hc.2 _ _,h.t,fun k hk=>by simpa using h.tb k hk⟩
theorem SlS.next{d':Nat} (h:SlS J S w W yl c1 B x d cur T V) (hS:∀ k,S k->k<w.heap.size) (hz:V.heap.size<=V'.heap.size) (hk:∀ k,T k\/S k->k<V.heap.size->V'.heap[k]?=V.heap[k]?) (hj:J d' T V'):SlS J S w W yl c1 B x d' cur T V':=
 ⟨hj,⟨fun k qz=>(hk k (.inr qz) (by have:=hS k qz;have:=h.ks.2;omega)).trans (h.ks.1 k qz),Nat.le_trans h.ks.2 hz⟩,Nat.le_trans h.sz hz,(hk _ (.inl h.t.1) (aB h.b3)).trans h.b3,(hk _ (.inl h.t.2.1) (aB h.b4)).trans h.b4,(hk _ (.inl h.t.2.2.1) (aB h.x1)).trans h.x1,(hk _ (.inl h.t.2.2.2) (aB h.x2)).trans h.x2,h.t,fun k qz=>⟨(h.tb k qz).1,Nat.lt_of_lt_of_le (h.tb k qz).2 hz⟩⟩
end
theorem OV(B:Nat) (x:Int) (w:World) :
  Calls Tryz.prog 49 #[.pointer (some ⟨B,0,none⟩),.int .i64 x] w fun r w'=>r=.returned (.func (.func 89) #[] #[.pointer (some ⟨w.heap.size,0,none⟩),.pointer (some ⟨w.heap.size+1,0,none⟩)])/\w'=(w.alloc (.cells #[.pointer (some ⟨B,0,none⟩)] 94)).alloc (.cells #[.int .i64 x] 3):=by
 go_enter Tryz.func49,Tryz.ntmps49
 go_wp2
 go_ret
 exact⟨rfl,rfl⟩
def Vl(base:Nat) (l:List Lk):MP:=⟨fun x W=>bH W x l/\∀ k,x.ownBlock=some k->base<=k,fun _ _ _ h hb=>⟨h.1.up up_link hb,h.2⟩⟩
def SF(base:Nat) (l:List Lk):MP:=⟨fun x W=>∃ u,x=.tuple #[u,.bool true,.int .i64 0]/\bH W u l/\∀ k,u.ownBlock=some k->base<=k,fun _ _ _ h hb=>by obtain⟨u,e,h1,h2⟩:=h;exact⟨u,e,h1.up up_link hb,h2⟩⟩
theorem Mj(s:Sys) (hv:verifyE s=0) (hE:eS s<=256) (hN:movesN s.prob.a.states<1099511627776) (B bx bl:Nat) (x:Int) (w0:World) (fK:ScAt w0 B s) (w:World) (aH:Below w0.heap.size w0 w)
  (kE:w.heap[bx]?=some (.cells #[.pointer (some ⟨B,0,none⟩)] 94)) (n':w.heap[bl]?=some (.cells #[.int .i64 x] 3)) :
  SE Tryz.prog 89 #[.pointer (some ⟨bx,0,none⟩),.pointer (some ⟨bl,0,none⟩)] (fun i args=>args=#[((jA s (memL (partsS s) x)).getD i default).v]) (jA s (memL (partsS s) x)).length (fun k=>k<w0.heap.size\/k=bx\/k=bl) w:=by
 intro yl J Jx W hW hyl hJ nM hY nZ;have lx:=aB kE;have ll:=aB n';have mA:=aH.size;have RB:=hW.size;obtain⟨S,hS⟩:∃ S,S=(fun k=>k<w0.heap.size\/k=bx\/k=bl):=⟨_,rfl⟩;have Jp:∀ k,S k->k<w.heap.size:=fun k hk=>by subst hS;rcases hk with hk|rfl|rfl<;>omega
 have Wh:∀ k,S k->k<W.heap.size:=fun k hk=>by have:=Jp k hk;omega
 have Ar:Hid (∀ V,KSz S w V->iV w0.heap.size w0 V/\V.cell? ⟨bx,0,none⟩=some (.pointer (some ⟨B,0,none⟩))/\V.cell? ⟨bl,0,none⟩=some (.int .i64 x)):=aa (fun V hV=>by
  subst hS
  exact⟨fun k hk=>(hV.1 k (.inl hk)).trans (aH.block k hk),(ab ((hV.1 bx (.inr (.inl rfl))).trans kE) 0).trans rfl,(ab ((hV.1 bl (.inr (.inr rfl))).trans n') 0).trans rfl⟩)
 have HSL:Hid (∀ k,k<w0.heap.size->S k):=aa (fun k hk=>by subst hS;exact .inl hk);obtain⟨mem,mx⟩:∃ mem,memL (partsS s) x=mem:=⟨_,rfl⟩;rw[mx]at hY ⊢;rw[<-hS]at hY
 have Al:Hid (∀ (d:List Lk) (c:Lk) (r:List Lk) (T:Nat->Prop) (W1:World),jA s mem=d++c :: r->J d.length T W1->W.heap.size<=W1.heap.size->YieldAt Fence.wide 0 Tryz.prog yl #[c.v] W1 fun e W'=>
   (W1.heap.size<=W'.heap.size/\(∀ k o,W.heap.size<=k->W1.heap[k]?=some o->o.isCells=false->W'.heap[k]?=some o))/\((e=.returned (.bool true)/\(∀ k,T k\/S k->k<W1.heap.size->W'.heap[k]?=W1.heap[k]?)/\J (d++[c]).length T W')\/(e=.returned (.bool false)/\∃ i,i<=(jA s mem).length/\Jx i T W'))):=aa (fun d c r T W1 e hj hz=>by
  obtain⟨h1,h2,h3,h4⟩:=Kd (x:=default) e;obtain⟨fn,tmps,assign,body,hy,hR⟩:=hY d.length T W1 #[c.v] h1 (by dsimp only;rw[h2]) hj hz;refine⟨fn,tmps,assign,body,hy,hR.mono ?_⟩;rintro e W' ⟨g1,g4,g3⟩;rcases g3 with ⟨rfl,g2,g3⟩|⟨rfl,g3⟩
  ·exact⟨⟨g1,g4⟩,.inl ⟨rfl,g2,by rw[h4];exact g3⟩⟩
  ·exact⟨⟨g1,g4⟩,.inr ⟨rfl,_,h1,g3⟩⟩)
 have HJ:=aa hJ;have Jb:=aa nM;have KW:=aa nZ;have kh:=aa fK;have KB:Hid (KSz S w W):=aa ⟨fun k hk=>hW.block k (Jp k hk),hW.size⟩;have dB:=aa (jc hv)
 have Cj:Hid (∀ i,i<mem.length->mem.getD i 0<eS s):=aa (fun i hi=>by
  rw[az 0 hi];have h1:mem[i]∈memL (partsS s) x:=by rw[mx];exact List.getElem_mem hi
  exact qX _ h1)
 have HNR:Hid (∀ i k,i<mem.length->k<mem.length->0<=(cS s (mem.getD k 0)).getD (mem.getD i 0) 0):=aa (fun i k hi hk=>by
  have h1:mem[i]∈memL (partsS s) x:=by rw[mx];exact List.getElem_mem hi
  have h2:mem[k]∈memL (partsS s) x:=by rw[mx];exact List.getElem_mem hk
  rw[az 0 hi,az 0 hk]
  exact Bv dB.out _ _ (qX _ h1) (qX _ h2) ((mn.1 h1).2.trans (mn.1 h2).2.symm))
 have HWF:=aa (JZ s mem);have HWN:=aa (Mi s mem);have HWE:=aa (OU s mem);have eD:=aa (ae aH hW);clear hY hJ nM nZ fK kE n' hS;have tw:=(Ar.out W KB.out).2;have t1:∀ o o',((W.alloc o).alloc o').cell? ⟨bx,0,none⟩=some (.pointer (some ⟨B,0,none⟩)):=fun o o'=>ak (show Below W.heap.size W ((W.alloc o).alloc o') by go_grown) tw.1
 have t2:∀ o o',((W.alloc o).alloc o').cell? ⟨bl,0,none⟩=some (.int .i64 x):=fun o o'=>ak (show Below W.heap.size W ((W.alloc o).alloc o') by go_grown) tw.2
 refine fQ Tryz.func89 rfl ?_;simp only[Tryz.ntmps89,List.size_toArray,List.length_cons,List.length_nil,Nat.reduceAdd,Nat.reduceSub,Array.replicate_succ,Array.replicate_zero,List.push_toArray,List.append_toArray,List.nil_append,List.cons_append]
 go_wp2_with fail
 refine(wB B x _).mono ?_;rintro r w2 ⟨rfl,rfl⟩;clear t1 t2 tw
 go_wp2_with fail
 refine bm (fun U=>Below W.heap.size W U/\U.heap.size=W.heap.size+1+1+1+1/\U.heap[W.heap.size]?=some (.cells #[.func (.yield yl) #[] #[]] 80)/\U.heap[W.heap.size+1]?=some (.cells #[.int .i64 (-1)] 3)/\U.heap[W.heap.size+1+1]?=some (.cells #[.pointer (some ⟨B,0,none⟩)] 94)/\U.heap[W.heap.size+1+1+1]?=some (.cells #[.int .i64 x] 3))
  ⟨by go_grown,by simp,ap _ (ap _ (ap _ (am _ _))),ap _ (ap _ (bd _ _ _)),ap _ (dW _ _ _ _),by have h:=am (((W.alloc (.cells #[.func (.yield yl) #[] #[]] 80)).alloc (.cells #[.int .i64 (-1)] 3)).alloc (.cells #[.pointer (some ⟨B,0,none⟩)] 94)) (.cells #[.int .i64 x] 3);simpa using h⟩ (fun U hU=>?_)
 obtain⟨tk,rB,nC,ly,rF,IR⟩:=hU;obtain⟨c1,kg⟩:∃ c1,W.heap.size+1+1=c1:=⟨_,rfl⟩;rw[kg]at rF IR rB ⊢;have hc1':W.heap.size+2=c1:=kg;clear kg
 have HU:Hid (SlS J S w W yl c1 B x 0 (-1) (fun k=>W.heap.size<=k/\k<U.heap.size) U):=aa
  ⟨HJ.out _ _ _ _ _ KW.out (ChT.of_below (Nat.le_refl _) tk) ⟨fun k h=>h.elim,fun k h=>.inr h⟩,⟨fun k hk=>(tk.block k (Wh k hk)).trans (KB.out.1 k hk),Nat.le_trans KB.out.2 tk.size⟩,tk.size,nC,ly,rF,IR,⟨by omega,by omega,by omega,by omega⟩,fun k h=>h⟩
 have sS:=aa (Ar.out U HU.out.ks).1;have cY:=uG s B c1 (c1+1) x w0 kh.out U (ae eD.out tk) (by rw[ab rF];rfl) (by rw[ab IR];rfl);rw[mx]at cY;have ox:=aa (fun d cur T A A' (hc:Chg U.heap.size A A') (h:SlS J S w W yl c1 B x d cur T A)=>h.chg HJ.out Jp (by omega) (by omega) hc);have hUs:=rB;clear tk rB nC ly rF IR mx
 refine OT (gf:=135) (lb:=#[.pointer (some ⟨c1,0,none⟩),.pointer (some ⟨c1+1,0,none⟩)]) rfl (enters_of Tryz.func135 (by kernel_rfl) rfl) cY (Below.refl _ _) (fun k hk=>by rcases hk with hk|rfl|rfl<;>omega) (fun i=>rfl)
  (fun i V=>∃ dl T,jA s mem=dl++l8 s mem i/\SlS J S w W yl c1 B x dl.length (if i=0 then -1 else(mem.getD (i - 1) 0:Nat)) T V)
  (fun c i V=>c=.ret/\W.heap.size<=V.heap.size/\∃ T i,i<=(jA s mem).length/\Jx i T V)
  (fun i A A' hc h=>by obtain⟨dl,T,h1,h2⟩:=h;exact⟨dl,T,h1,ox.out _ _ _ _ _ hc h2⟩)
  (fun c i A A' hc h=>by obtain⟨h1,h0,T,i,h2,h3⟩:=h;exact⟨h1,Nat.le_trans h0 hc.size,T,i,h2,Jb.out _ _ _ _ _ h3 (ChT.of_chg hc (by omega) h0) (gx.refl _ _ _)⟩)
  ⟨[],_,rfl,HU.out⟩ ?rnd ?done ?stop
 case done=>
  rintro D V hD ⟨dl,T,h1,h2⟩ hK;rw[HWE.out,List.append_nil]at h1;have E3:=aB hK
  go_wp2_with fail
  refine No hK (v:=.tuple #[]) (by simp[results,Tryz.results89,go_sem]) ⟨⟨_,rfl⟩,T,.inl ?_⟩;rw[h1];exact HJ.out _ _ _ _ _ h2.j (ChT.of_chg (Chg.put _ hK (B:=U.heap.size) hD rfl) (by omega) h2.sz) (gx.refl _ _ _)
 case stop=>
  rintro D c i V hD hi ⟨rfl,h0,T,j,h1,h2⟩ hK;have E3:=aB hK
  go_wp2_with fail
  refine ip hK (v:=.tuple #[]) (by simp[results,Tryz.results89,go_sem]) ⟨⟨_,rfl⟩,T,.inr ⟨j,h1,?_⟩⟩;exact Jb.out _ _ _ _ _ h2 (ChT.of_chg (Chg.put _ hK (B:=U.heap.size) hD rfl) (by omega) h0) (gx.refl _ _ _)
 case rnd=>
  rintro yi i V hi hl ⟨dl,T,Jj,Ip⟩;unfold vV;obtain⟨e,he⟩:∃ e,mem.getD i 0=e:=⟨_,rfl⟩;have iJ:=Cj.out i hi;rw[he]at iJ ⊢;have HSL2:=aa Ip;have HWY:=aa Jj;have SP:=aa he;clear Ip Jj cY he
  gi_wp2
  refine⟨Bod.refl _ _ _,fun X=>SlS J S w W yl c1 B x dl.length (if i=0 then -1 else(mem.getD (i - 1) 0:Nat)) T X,fun A A' hc h=>ox.out _ _ _ _ _ hc h,HSL2.out,fun X hX jm=>?_⟩;obtain⟨rlp,jm⟩:=jm;have Iu:=aB jm;clear jm rlp HSL2;have HX:=aa hX;have t3:=ab hX.b3 0;have t4:=ab hX.b4 0;have f4:=aE hX.b4 0;simp only[List.getElem?_toArray,List.getElem?_cons_zero]at t3 t4;clear hX;have Mu:¬ (W.heap.size+1<w0.heap.size\/W.heap.size+1=c1\/W.heap.size+1=c1+1):=by omega
  have eJ:Hid (∀ (T:Nat->Prop) (V W':World),T c1/\T (c1+1)->c1+1<V.heap.size->w0.heap.size<=V.heap.size->(V.heap.size<=W'.heap.size/\(∀ k,T k\/S k->k<V.heap.size->W'.heap[k]?=V.heap[k]?)/\(∀ k o,W.heap.size<=k->V.heap[k]?=some o->o.isCells=false->W'.heap[k]?=some o))->Bod U.heap.size (fun k=>k<w0.heap.size\/k=c1\/k=c1+1) V W'):=aa (fun T V W' ht hv h0 h=>⟨h.1,fun k hk=>by
   rcases hk with hk|rfl|rfl
   ·exact h.2.1 k (.inr (HSL.out k hk)) (by omega)
   ·exact h.2.1 _ (.inl ht.1) (by omega)
   ·exact h.2.1 _ (.inl ht.2) hv,fun k o hk ho hc=>h.2.2 k o (by omega) ho hc⟩)
  have ki:=aa (aB HX.out.x2);have h0X:w0.heap.size<=X.heap.size:=by have:=HX.out.sz;omega
  by_cases cU:i=0
  ·subst cU
   rw[if_pos rfl]at t4 HX;have HP:=aa (HX.out.put HJ.out Wh ⟨by omega,by omega⟩ e);have t3':=ab HP.out.b3 0;simp only[List.getElem?_toArray,List.getElem?_cons_zero]at t3';have iz:Hid (jA s mem=dl++⟨e,-1⟩ :: l8 s mem 1):=aa (by rw[HWY.out,HWF.out (by omega),SP.out]);obtain⟨fn,tmps,assign,body,oy,hR⟩:=Al.out dl ⟨e,-1⟩ _ T (X.setCell ⟨W.heap.size+1,0,none⟩ (.int .i64 e)) iz.out HP.out.j HP.out.sz;have HR:=aa hR;clear hR t3
   gi_wp2
   refine⟨rfl,wu (HR.out.mono ?_)⟩;rintro r W3 ⟨oC,(⟨rfl,Fo,Aq⟩|⟨rfl,i9,PH,RH⟩)⟩
   ·have At:=And.intro oC.1 (And.intro Fo oC.2)
    have eo:=aa ((Bod.setCell (B:=U.heap.size) X ⟨W.heap.size+1,0,none⟩ (.int .i64 e) Mu).trans (eJ.out T _ W3 HP.out.t.2.2 (by have:=ki.out;simp;omega) (by simp;omega) At));have Wy:=aa (HP.out.next Jp At.1 At.2.1 Aq);clear At oC Fo Aq HR oy t3' t4 f4 Mu
    gi_wp2
    refine⟨eo.out,dl++[⟨e,-1⟩],T,by rw[iz.out,List.append_cons],?_⟩;rw[if_neg (by omega),Nat.zero_add,Nat.sub_self,SP.out];exact Wy.out
   ·have eo:=aa ((Bod.setCell (B:=U.heap.size) (S:=fun _=>False) X ⟨W.heap.size+1,0,none⟩ (.int .i64 e) (fun h=>h)).out.trans ⟨oC.1,fun k o hk ho hc=>oC.2 k o (by omega) ho hc⟩)
    have CE:W.heap.size<=W3.heap.size:=Nat.le_trans HP.out.sz oC.1;clear oC HR oy t3' t4 f4 Mu Al
    gi_wp2
    exact⟨eo.out,rfl,CE,T,i9,PH,RH⟩
  ·rw[if_neg cU]at t4 HX
   obtain⟨a,ha⟩:∃ a,mem.getD (i - 1) 0=a:=⟨_,rfl⟩;have WC:=Cj.out (i - 1) (by omega);have TJ:=HNR.out (i - 1) i (by omega) hi;have ge:=aa (HWN.out i (by omega) hi);rw[ha,SP.out]at TJ ge;rw[ha]at WC t4 HX;obtain⟨path,Gf⟩:∃ path,jV s a e=path:=⟨_,rfl⟩;rw[Gf]at ge;have hlta:decide ((a:Int)<0)=false:=decide_eq_false (by omega);have hscX:=ScAt.kp kh.out (Ar.out X HX.out.ks).1;obtain⟨vc,vs,vt,ve,vv,vl,q1,q2,_,_⟩:=hscX.ex;obtain⟨⟨qc,kc,rfl⟩,⟨qs,ks,rfl⟩,⟨qt,kt,rfl⟩,⟨qe,ke,rfl⟩⟩:=bE q2;have TK:=aa (fun V (hb:Below X.heap.size X V)=>OO s hv hE _ _ _ _ a e WC iJ TJ V (q2.up hb) hN);rw[Gf]at TK;have hplen:path.length<256:=by rw[<-Gf];have:=(J9 WC iJ TJ).2.2;omega
   generalize s.prob.t.cases.length=nc,s.prob.a.states.length=ns,s.tab.length=nt,s.ex.length=ne at q1 TK;have FB:=aa q1;have TB:=aa (Ar.out X HX.out.ks).2.1;have kZ:=aa HX.out.b4;obtain⟨b4,bQ⟩:∃ b4,W.heap.size+1=b4:=⟨_,rfl⟩;rw[bQ]at t4 f4 kZ ⊢;clear hscX q1 q2 Gf TJ ha f4 t3 Mu
   gi_wp2
   have hS:List.Nodup [24,25,26,27,28,29,30,23,31,32,33,6,7,8]:=by decide
   refine zn 14 [24,25,26,27,28,29,30,23,31,32,33,6,7,8] [MP.eq (.pointer (some ⟨B,0,none⟩)),MP.eq (.pointer (some ⟨B,0,none⟩)),MP.eq (.pointer (some ⟨B,0,none⟩)),MP.eq (.agg #[.int .i64 s.prob.t.n,.int .i64 s.prob.t.ins,.int .i64 s.prob.t.outs,.slice qc nc kc,.int .i64 s.prob.a.n,.slice qs ns ks,.int .i64 s.prob.rounds,.int .i64 s.n,.slice qt nt kt,.slice qe ne ke]),MP.eq (.int .i64 a),MP.eq (.int .i64 e),SF X.heap.size (⟨a,-1⟩ :: path),SF X.heap.size (⟨a,-1⟩ :: path),Vl X.heap.size (⟨a,-1⟩ :: path),MP.eq (.bool true),MP.eq (.int .i64 0),Vl X.heap.size (⟨a,-1⟩ :: path),MP.eq (.bool true),MP.eq (.int .i64 0)] (by kernel_rfl) rfl hS rfl (by kernel_rfl) (fun ⟨_,_,h⟩=>h) (by kernel_rfl) ?step ?tail
   case step=>
    intro xq Wq iq oq sq F hi ho hs hB aq hF;rcases (show iq=0\/iq=1\/iq=2\/iq=3\/iq=4\/iq=5\/iq=6\/iq=7\/iq=8\/iq=9\/iq=10\/iq=11\/iq=12\/iq=13 by omega) with rfl|rfl|rfl|rfl|rfl|rfl|rfl|rfl|rfl|rfl|rfl|rfl|rfl|rfl
    all_goals (obtain rfl:=dp ho.symm;obtain rfl:=dp hs.symm;clear hi ho hs)
    ·obtain⟨g1,h1⟩:=dC hF 1 (.pointer (some ⟨bx,0,none⟩)) (by decide) rfl
     have tb:=ak hB TB.out;clear hF aq
     go_wp2_with fail
     exact bD.mk (.pointer (some ⟨B,0,none⟩)) (Below.refl _ _) rfl rfl
    ·obtain⟨e0,f0⟩:=aW hF 0 24 (.pointer (some ⟨B,0,none⟩)) hS rfl (by kernel_rfl) (aq ⟨0,.data⟩ (by simp) rfl)
     clear hF aq
     go_wp2_with fail
     exact bD.mk (.pointer (some ⟨B,0,none⟩)) (Below.refl _ _) rfl rfl
    ·obtain⟨e1,f1⟩:=aW hF 1 25 (.pointer (some ⟨B,0,none⟩)) hS rfl (by kernel_rfl) (aq ⟨1,.data⟩ (by simp) rfl)
     clear hF aq
     go_wp2_with fail
     exact bD.mk (.pointer (some ⟨B,0,none⟩)) (Below.refl _ _) rfl rfl
    ·obtain⟨e2,f2⟩:=aW hF 2 26 (.pointer (some ⟨B,0,none⟩)) hS rfl (by kernel_rfl) (aq ⟨2,.data⟩ (by simp) rfl)
     have tb:=ab (af hB FB.out);clear hF aq
     go_wp2_with fail
     exact bD.mk (.agg #[.int .i64 s.prob.t.n,.int .i64 s.prob.t.ins,.int .i64 s.prob.t.outs,.slice qc nc kc,.int .i64 s.prob.a.n,.slice qs ns ks,.int .i64 s.prob.rounds,.int .i64 s.n,.slice qt nt kt,.slice qe ne ke]) (Below.refl _ _) rfl rfl
    ·obtain⟨g4,h4⟩:=dC hF 4 (.pointer (some ⟨b4,0,none⟩)) (by decide) rfl
     have tb:=ab (af hB kZ.out) 0;simp only[List.getElem?_toArray,List.getElem?_cons_zero]at tb;clear hF aq
     go_wp2_with fail
     exact bD.mk (.int .i64 a) (Below.refl _ _) rfl rfl
    ·obtain⟨g5,h5⟩:=dC hF 5 (.int .i64 e) (by decide) rfl
     clear hF aq
     go_wp2_with fail
     exact bD.mk (.int .i64 e) (Below.refl _ _) rfl rfl
    ·obtain⟨e3,f3⟩:=aW hF 3 27 (.agg #[.int .i64 s.prob.t.n,.int .i64 s.prob.t.ins,.int .i64 s.prob.t.outs,.slice qc nc kc,.int .i64 s.prob.a.n,.slice qs ns ks,.int .i64 s.prob.rounds,.int .i64 s.n,.slice qt nt kt,.slice qe ne ke]) hS rfl (by kernel_rfl) (aq ⟨3,.data⟩ (by simp) rfl)
     obtain⟨e4,f4⟩:=aW hF 4 28 (.int .i64 a) hS rfl (by kernel_rfl) (aq ⟨4,.data⟩ (by simp) rfl);obtain⟨e5,f5⟩:=aW hF 5 29 (.int .i64 e) hS rfl (by kernel_rfl) (aq ⟨5,.data⟩ (by simp) rfl);clear hF aq
     go_wp2_with fail
     refine(TK.out Wq hB).mono ?_;rintro r w9 ⟨u9,rfl,⟨hl9,jj⟩,fk⟩;have HL9:=aa hl9;have mT:=aa (fun k hk=>Nat.le_trans hB.size (jj k hk));clear hl9 jj
     go_wp2_with fail
     exact bD.mk _ fk ⟨_,rfl,HL9.out,mT.out⟩ rfl
    ·have d6:=aq ⟨6,.data⟩ (by simp) rfl
     obtain⟨u6,eu6,O',PF⟩:=d6;obtain⟨e6,f6⟩:=aW hF 6 30 _ hS rfl (by kernel_rfl) eu6;clear hF aq
     go_wp2_with fail
     exact bD.mk _ (Below.refl _ _) ⟨_,rfl,O',PF⟩ rfl
    ·have d7:=aq ⟨7,.data⟩ (by simp) rfl
     obtain⟨u6,eu6,O',PF⟩:=d7;obtain⟨e7,f7⟩:=aW hF 7 23 _ hS rfl (by kernel_rfl) eu6;clear hF aq
     go_wp2_with fail
     exact bD.mk _ (Below.refl _ _) ⟨O',PF⟩ rfl
    ·have d7:=aq ⟨7,.data⟩ (by simp) rfl
     obtain⟨u6,eu6,O',PF⟩:=d7;obtain⟨e7,f7⟩:=aW hF 7 23 _ hS rfl (by kernel_rfl) eu6;clear hF aq
     go_wp2_with fail
     exact bD.mk (.bool true) (Below.refl _ _) rfl rfl
    ·have d7:=aq ⟨7,.data⟩ (by simp) rfl
     obtain⟨u6,eu6,O',PF⟩:=d7;obtain⟨e7,f7⟩:=aW hF 7 23 _ hS rfl (by kernel_rfl) eu6;clear hF aq
     go_wp2_with fail
     exact bD.mk (.int .i64 0) (Below.refl _ _) rfl rfl
    ·have d8:=aq ⟨8,.data⟩ (by simp) rfl
     obtain⟨e8,f8⟩:=aW hF 8 31 _ hS rfl (by kernel_rfl) rfl;clear hF aq
     go_wp2_with fail
     exact bD.mk _ (Below.refl _ _) d8 rfl
    ·obtain⟨e9,f9⟩:=aW hF 9 32 (.bool true) hS rfl (by kernel_rfl) (aq ⟨9,.data⟩ (by simp) rfl)
     clear hF aq
     go_wp2_with fail
     exact bD.mk (.bool true) (Below.refl _ _) rfl rfl
    ·obtain⟨e10,f10⟩:=aW hF 10 33 (.int .i64 0) hS rfl (by kernel_rfl) (aq ⟨10,.data⟩ (by simp) rfl)
     clear hF aq
     go_wp2_with fail
     exact bD.mk (.int .i64 0) (Below.refl _ _) rfl rfl
   case tail=>
    clear hS;intro xq Wq F hB aQ hF;have d11:bH Wq (xq 11) (⟨a,-1⟩ :: path)/\∀ k,(xq 11).ownBlock=some k->X.heap.size<=k:=aQ 11 (by omega);have d12:xq 12=.bool true:=aQ 12 (by omega);have d13:xq 13=.int .i64 0:=aQ 13 (by omega);clear aQ;obtain⟨pX,aX⟩:=d11;obtain⟨pu,cu,eu,lu1,lu2,el⟩:=pX.at;obtain⟨g,o,rfl,sP⟩:=el 0 (by simp);rw[eu]at pX aX;simp only[br,cW,List.setIfInBounds_toArray,List.set_cons_succ,List.set_cons_zero,Nat.reduceAdd]at hF;rw[eu,d12,d13]at hF;generalize xq 0=s0,xq 1=s1,xq 2=s2,xq 3=s3,xq 4=s4,xq 5=s5,xq 6=s6,xq 7=s7,xq 8=s8,xq 9=s9,xq 10=s10 at hF;subst hF;have hgX:=aX g rfl;have hgW:g<Wq.heap.size:=eX sP.1.1;have Fh:(⟨a,-1⟩ :: path:List Lk).length=path.length+1:=by simp
    rw[Fh]at pX lu1 lu2 ⊢;have hH:=aa pX
    have Sz:Hid (gx X Wq T (fun k=>T k\/k=g)):=aa ⟨fun k hk=>.inl hk,fun k hk=>by
     rcases hk with hk|rfl
     ·exact .inl hk
     ·exact .inr ⟨hgX,hgW⟩⟩
    have HQ:=aa (HX.out.grow HJ.out Jp hB Sz.out);have eC:Hid (Bod U.heap.size (fun k=>k<w0.heap.size\/k=c1\/k=c1+1) X Wq):=aa (Bod.of_below (fun k hk=>by have:=ki.out;rcases hk with hk|rfl|rfl<;>omega) hB);clear pX aX d12 d13 eu el sP hB Fh;have hmin:min (1:Int) ((path.length:Int)+1)=1:=by omega
    subst bQ;have rq:cu=1->path.length=0:=fun h=>by omega
    have HJ2:=aa HQ.out.j;generalize hgT:(fun k=>T k\/k=g)=T2 at HQ HJ2 Sz;have WI:Hid (T2 g):=aa (by rw[<-hgT];exact .inr rfl);clear hgT Sz HJ2 t4 TB FB kZ HX TK
    have HELT:Hid (∀ k (hk:k<path.length),Wq.cell? ⟨g,o+2+k * 2,none⟩=some (.int .i64 (path[k]).x)/\Wq.cell? ⟨g,o+2+k * 2+1,none⟩=some (.int .i64 (path[k]).p)):=aa (fun k hk=>by
     obtain⟨pl9,cl9,e9,_,_,el9⟩:=hH.out.at;injection e9 with e9
     obtain⟨b9,o9,e8,h8⟩:=el9 (k+1) (by simp;omega);rw[<-e9]at e8;injection e8 with e8
     injection e8 with e7 e6
     subst e7 e6;rw[show o+(k+1) * 2=o+2+k * 2 by omega]at h8
     exact⟨h8.1.1,h8.2.1⟩)
    obtain⟨m,hm⟩:∃ m,path.length=m:=⟨_,rfl⟩;have HM:=aa hm;rw[hm]at hmin rq lu1 hplen ⊢;clear hm hH
    gi_wp2
    case' inl=>have hcu0:m=0:=by omega
    case' inr=>have hcu0:True:=trivial
    all_goals
     gi_loopw [40] (fun k wr=>∃ (k':Nat) (d:List Lk),k'<=m/\k=.int .i64 k'/\jA s mem=d++(path.drop k'++l8 s mem (i+1))/\SlS J S w W yl c1 B x d.length a T2 wr/\Bod U.heap.size (fun k=>k<w0.heap.size\/k=c1\/k=c1+1) X wr/\wr.heap[g]?=Wq.heap[g]?) (fun k _=>m - (intOf k).toNat)
     case atStart=>exact⟨0,dl,by omega,rfl,by rw[HWY.out,ge.out];rfl,HQ.out,eC.out,rfl⟩
     case round=>
      obtain⟨k,d,hk,rfl,hd,hq,kn,TC⟩:=hrel;have HD:=aa hd;have wN:=aa hq;have aP:=aa kn;have AG:=aa TC;clear hd hq kn TC;by_cases aA:k<m
      ·first
        | (exfalso;omega)
        | (
      have Fo:k<path.length:=by rw[HM.out];exact aA
      have c0:=HELT.out k Fo;have eB:∀ o',wr.cell? ⟨g,o',none⟩=Wq.cell? ⟨g,o',none⟩:=fun o'=>by unfold World.cell?;rw[AG.out]
      rw[<-eB,<-eB]at c0;have yt:Hid (jA s mem=d++path[k] :: (path.drop (k+1)++l8 s mem (i+1))):=aa (by rw[HD.out,List.drop_eq_getElem_cons Fo];rfl);generalize path[k]=y at c0 yt;obtain⟨yx,yp⟩:=y;obtain⟨cx,cp⟩:=c0;dsimp only at cx cp;have Ac:Below wr.heap.size wr (wr.alloc (.cells #[.int .i64 yx,.int .i64 yp] 75)):=by go_grown
      have rE:=aa (wN.out.grow HJ.out Jp Ac (gx.refl _ _ _));have t3':∀ o',(wr.alloc o').cell? ⟨W.heap.size,0,none⟩=some (.func (.yield yl) #[] #[]):=fun o'=>(ab (ap o' wN.out.b3) 0).trans rfl
      obtain⟨fn,tmps,assign,body,oy,hR⟩:=Al.out d ⟨yx,yp⟩ _ T2 (wr.alloc (.cells #[.int .i64 yx,.int .i64 yp] 75)) yt.out rE.out.j rE.out.sz;have HR:=aa hR;have Fj:Hid (Bod U.heap.size (fun k=>k<w0.heap.size\/k=c1\/k=c1+1) X (wr.alloc (.cells #[.int .i64 yx,.int .i64 yp] 75))):=aa (aP.out.trans (Bod.of_below (fun k hk=>by have:=aB wN.out.x2;have:=wN.out.sz;rcases hk with hk|rfl|rfl<;>omega) Ac));have HGA:Hid ((wr.alloc (.cells #[.int .i64 yx,.int .i64 yp] 75)).heap[g]?=Wq.heap[g]?):=aa ((Ac.block g (wN.out.tb g WI.out).2).trans AG.out);clear hR eB Ac
      gi_wp2
      refine⟨rfl,wu (HR.out.mono ?_)⟩;rintro r W9 ⟨oC,(⟨rfl,Fo,P8⟩|⟨rfl,i9,PH,RH⟩)⟩
      ·have At:=And.intro oC.1 (And.intro Fo oC.2)
       have fM:=aa (Fj.out.trans (eJ.out T2 _ W9 rE.out.t.2.2 (aB rE.out.x2) (by have:=rE.out.sz;omega) At));have HP9:=aa (rE.out.next Jp At.1 At.2.1 P8);have PX:=aa ((At.2.1 g (.inl WI.out) (rE.out.tb g WI.out).2).trans HGA.out);clear At oC Fo P8 HR oy t3' cx cp
       gi_wp2
       go_roundw
       case rel=>exact⟨k+1,d++[⟨yx,yp⟩],by omega,by go_num,by rw[yt.out,List.append_cons],HP9.out,fM.out,PX.out⟩
       case measure=>simp[intOf];omega
      ·have fM:=aa (Fj.out.out.trans ⟨oC.1,fun k o hk ho hc=>oC.2 k o (by omega) ho hc⟩)
       have PK:W.heap.size<=W9.heap.size:=Nat.le_trans rE.out.sz oC.1;clear oC HR oy t3' cx cp Al
       gi_wp2
       exact⟨fM.out,rfl,PK,T2,i9,PH,RH⟩)
      ·obtain rfl:k=m:=by omega
       have HDE:Hid (jA s mem=d++l8 s mem (i+1)):=aa (by rw[HD.out,<-HM.out,List.drop_length];rfl);have HPE:=aa (wN.out.put HJ.out Wh ⟨by omega,by omega⟩ e);have Pf:=aa (aP.out.trans (Bod.setCell (B:=U.heap.size) (S:=fun k=>k<w0.heap.size\/k=c1\/k=c1+1) wr ⟨W.heap.size+1,0,none⟩ (.int .i64 e) (by dsimp only;omega)));have t4':=ab wN.out.b4 0;have f4':=aE wN.out.b4 0;simp only[List.getElem?_toArray,List.getElem?_cons_zero]at t4'
       gi_wp2
       refine⟨Pf.out,d,T2,HDE.out,?_⟩;rw[if_neg (by omega),Nat.add_sub_cancel,SP.out];exact HPE.out
end Go.Proofs.YtmeaoneaephjeaaGreatDoor
namespace Go.Proofs.YtmeaoneaephjeaaGreatDoor
def labI(s:Sys):Int:=firstIx (iO s).length fun i=>decide ((-1:Int)=(iO s).getD i 0)
theorem Kr(s:Sys):(iO s).length=nu s+1:=by simp[iO,kw]
theorem DK(s:Sys) (k:Nat) (hk:k<nu s+1):(iO s).getD k 0=comB s (memL (partsS s) k):=by simp[iO,kw,hk]
theorem Rj(s:Sys) (l:List Nat) (h:comB s l<0):comB s l=-1:=by
 unfold comB at *;rcases bG (oS s) (fun v=>l.all fun e=>valB s e v) with ⟨e,_⟩|⟨k,_,e,_⟩<;>omega
theorem Rk{s:Sys} (h0:0<eS s) (h:qf s<0):labI s<0:=by
 unfold labI;rcases bG (iO s).length (fun i=>decide ((-1:Int)=(iO s).getD i 0)) with ⟨e,_⟩|⟨k,hk,_,h2,_⟩
 ·omega
 ·exfalso
  rw[Kr]at hk;obtain⟨e,he,h3⟩:=zU h0 k (by omega);have h4:=qO s e he;have h5:=of_decide_eq_true h2;rw[DK s k hk]at h5;rw[h3]at h4;unfold qf at h;rcases bG (eS s) (fun e=>decide ((choiceS s).getD e 0<0)) with ⟨_,h6⟩|⟨j,_,e6,_⟩
  ·have:=h6 e he
   rw[h4,<-h5]at this;simp at this
  ·omega
theorem Rl{s:Sys} (h0:0<eS s) (h:¬ qf s<0):(qf s).toNat<eS s/\0<=labI s/\labI s=(partsS s).getD (qf s).toNat 0:=by
 have hb:∃ j,j<eS s/\qf s=j/\(choiceS s).getD j 0<0/\∀ i,i<j->¬ (choiceS s).getD i 0<0:=by
  unfold qf at h ⊢;rcases bG (eS s) (fun e=>decide ((choiceS s).getD e 0<0)) with ⟨e,_⟩|⟨j,hj,e6,h6,h7⟩
  ·omega
  ·exact⟨j,hj,e6,of_decide_eq_true h6,fun i hi=>of_decide_eq_false (h7 i hi)⟩
 obtain⟨j,hj,e1,h1,h2⟩:=hb;rw[e1,Int.toNat_natCast];have hr:=ku s j hj;have ht:=pN h0 j hj;obtain⟨k,hk⟩:∃ k:Nat,(partsS s).getD j 0=k:=⟨((partsS s).getD j 0).toNat,by omega⟩;rw[hk]at ht ⊢;refine⟨hj,?_⟩;have hch:=qO s j hj;rw[hk]at hch
 have:labI s=k:=by
  unfold labI;refine dj _ k _ (by rw[Kr];omega) (fun i hi=>?_) ?_
  ·refine decide_eq_false fun e=>?_
   rw[DK s i (by omega)]at e;obtain⟨j',mW,e3⟩:=vF (si s) j (by rw[dJ];exact hj) i (by omega) (by omega);have h4:=qO s j' (by omega);rw[e3,<-e]at h4;exact h2 j' mW (by omega)
  ·rw[DK s k (by omega),decide_eq_true_eq,Rj s _ (by rw[<-hch];exact h1)]
 omega
theorem EP{s:Sys}:∀ (l:List Lk) (e:Nat),chainB s e l->∀ y∈l,(0<=y.x/\y.x.toNat<eS s)/\0<=y.p/\y.p<nS s
 | [],_,_,y,hy=>by cases hy
 | z :: r,e,⟨h1,h2,h3,h4,_,h6⟩,y,hy=>by
  rcases List.mem_cons.1 hy with rfl|hy
  ·exact⟨⟨h1,h2⟩,h3,h4⟩
  ·exact EP r _ h6 y hy
theorem UR{s:Sys} (hs:SysOk s) (k:Int):∀ y∈jA s (memL (partsS s) k),(0<=y.x/\y.x.toNat<eS s)/\-1<=y.p/\y.p<nS s:=by
 cases hm:memL (partsS s) k with
 | nil=>intro y hy;cases hy
 | cons a r=>
  obtain⟨h1,h2,_⟩:=UZ hs k a r hm;intro y hy;rcases List.mem_cons.1 hy with rfl|hy
  ·exact⟨⟨by dsimp only;omega,by dsimp only;omega⟩,by dsimp only;omega,by dsimp only;omega⟩
  ·obtain⟨h3,h4,h5⟩:=EP _ _ h2 y hy
   exact⟨h3,by omega,h5⟩
theorem Vm{s:Sys} {l:List Lk} {i:Nat} (hi:i<l.length) (h0:∀ j,j<i->eZ s (l.take (j+1))=false) (h1:eZ s (l.take (i+1))=true):xl s l=l.take (i+1):=by
 unfold xl F3;rw[dj l.length i (fun i=>eZ s (l.take (i+1))) hi h0 h1,if_neg (by omega),Int.toNat_natCast]
theorem Ks{s:Sys} {l:List Lk} (h0:∀ j,j<l.length->eZ s (l.take (j+1))=false):xl s l=l:=by
 unfold xl F3;rcases bG l.length (fun i=>eZ s (l.take (i+1))) with ⟨e,_⟩|⟨k,hk,_,h2,_⟩
 ·rw[e,if_pos (by omega),List.take_length]
 ·rw[h0 k hk]at h2;cases h2
theorem Rm{s:Sys} {l:List Lk} {i:Nat} (hi:i<l.length) (h0:∀ j,j<i->eZ s (l.take (j+1))=false):i<(xl s l).length:=by
 unfold xl F3;rcases bG l.length (fun i=>eZ s (l.take (i+1))) with ⟨e,_⟩|⟨k,hk,e,h2,_⟩
 ·rw[e,if_pos (by omega),List.take_length];exact hi
 ·rw[e,if_neg (by omega),Int.toNat_natCast,List.length_take]
  by_cases h:k<i
  ·rw[h0 k h]at h2;cases h2
  ·omega
theorem Rn{s:Sys} {l:List Lk} {i:Nat} (hi:i<l.length):comM s (cC (l.take (i+1)))=comM s (cC (l.take i)) &&& gT s (l.getD i default).x.toNat:=by
 rw[List.take_succ_eq_append_getElem hi,vH,show l.getD i default=l[i] by simp[hi]];exact Eh s _ _
end Go.Proofs.YtmeaoneaephjeaaGreatDoor
namespace Go.Proofs.YtmeaoneaephjeaaGreatDoor
open Go.RowKit Go Go.Shelf
theorem xP{F:Fence} {d:Nat} {P:Program} {ops:Array Oper} {rest:List Oper} {o:Oper} {a:Act} {w:World} {Q:Exit->Act->World->Prop} (kX:o.guard=none) (ty:TypeId) (x y:Operand) (ho:o.op=.store ty x y)
  (g:Nat) (cells:Array Value) (hx:a.eval x=.pointer (some ⟨g,0,none⟩)) (hy:a.eval y=.agg cells)
  (t:TypeId) (old:Array Value) (hg:w.heap[g]?=some (.cells old t (0,0))) (hi:(P.info? ty).map (·.size)=some cells.size)
  (qk:old.size=cells.size) (h1:cells.all (·.oneCell')=true)
  (h:wpListIn F d P ops Q rest (a.put o.dst undef) (w.setRow g cells)):wpListIn F d P ops Q (o :: rest) a w:=by
 refine wpListIn_plain kX fun K hK'=>?_
 unfold Oper.wpIn;refine⟨?_,?_⟩
 ·simp[Oper.about,ho]
 ·rw[Oper.semAt_plain F _ _ (by rw[ho];intro c kF;cases kF)]
  unfold execOp;simp only[ho,hx,hy,Instr.storeAt,Instr.sureAddr,Sem.run_bind,Sem.run_pure,Result.andThen_ok,run_storeVar_row w g t ty old cells hg hi qk h1];exact hK' _ _ h
theorem F2{F:Fence} {d:Nat} {P:Program} {ops:Array Oper} {Q:Exit->Act->World->Prop} {l:List Oper} {a:Act} {W:World} (I:World->Prop) (h:I W) (k:∀ W0,I W0->wpListIn F d P ops Q l a W0):wpListIn F d P ops Q l a W:=k W h
end Go.Proofs.YtmeaoneaephjeaaGreatDoor
