/-
  A part of the proof: lemmas and contracts that the parts behind it use. Each one's conditions are its own premises.
-/
import Derived.Test.YtmeaoneaephjeaaGreatDoorS10
set_option maxRecDepth 100000
set_option maxHeartbeats 8000000
set_option linter.unusedVariables false
set_option linter.unusedSimpArgs false
namespace Go.Proofs.YtmeaoneaephjeaaGreatDoor
open Go.RowKit Go Go.Shelf
attribute [local go_sem] Oper.semAt_some
theorem IsSys.kp{w w':World} {s:Sys} {vc vs vt ve:Value} (h:IsSys w s vc vs vt ve) (hb:CK w w'):IsSys w' s vc vs vt ve:=⟨h.cases.ck up_case hb,h.states.ck up_moves hb,h.tab.ck up_view hb,h.ex.ck up_ex hb⟩
theorem ScAt.kp{w w':World} {B:Nat} {s:Sys} (h:ScAt w B s) (hk:jj w.heap.size w w'):ScAt w' B s:=by
 obtain⟨vc,vs,vt,ve,vv,vl,h1,h2,h3,h4⟩:=h.ex;exact⟨vc,vs,vt,ve,vv,vl,(hk B (aC h1)).trans h1,h2.kp hk.ck,h3.ck up_int hk.ck,h4.ck up_int hk.ck⟩
theorem Vv{n:Nat} (hn:n<=8) (q:Nat->Bool):maskN q n=maskN (fun p=>decide (p<n)&&q p) 8:=by
 refine Nat.eq_of_testBit_eq fun p=>?_
 rw[dX,dX];by_cases h:p<n
 ·rw[decide_eq_true h,decide_eq_true (show p<8 by omega)];rfl
 ·rw[decide_eq_false h];simp
theorem R3{n:Nat} (hn:n<=8) (q:Nat->Bool):firstIx 8 (fun p=>decide (p<n)&&q p)=firstIx n q:=by
 rw[zX _ hn (fun v h1 h2=>by rw[decide_eq_false (by omega)];rfl)];exact mq _ _ _ fun p hp=>by rw[decide_eq_true hp];rfl
theorem aJ.some{w:World} {base size n:Nat} {e:TypeId} {v:Value} {xs:List Value} (h:aJ w base e size v n xs) (hn:0<n):∃ g c,v=.slice (some ⟨g,0,none⟩) n c/\base<=g/\g<w.heap.size/\n<=c/\∀ j,j<n * size->(∃ u,w.cell? ⟨g,j,none⟩=some u)/\w.frozen? ⟨g,j,none⟩=false:=by
 rcases h.2 with ⟨_,h0⟩|⟨g,cap,cur,fz,rfl,h2,h3,h4,h5,h6,h7,h8⟩
 ·omega
 refine⟨g,cap,rfl,h2,aC h3,h5,fun j hj=>?_⟩;have aB:j<cur.size:=by rw[h7];exact Nat.lt_of_lt_of_le hj (Nat.mul_le_mul_right _ h5)
 refine⟨⟨cur[j],by rw[ab h3,Array.getElem?_eq_getElem aB]⟩,?_⟩;simp only[World.frozen?,h3];have:=h4 j aB;simpa using this
theorem R4(a:List Lk) (y:Lk) (r:List Lk) (p:Int):cK (a++⟨y.x,p⟩ :: r)=(cK (a++y :: r)).set (a.length * 2+1) (.int .i64 p):=by
 rw[nK,nK,<-kn a,List.set_append_right _ _ (by omega),Nat.add_sub_cancel_left];rfl
def Yh(base:Nat) (l:List Lk):MP:=⟨fun x W=>aJ W base 75 2 x l.length (cK l),fun _ _ _ h hb=>h.up hb⟩
def Yp(s:Sys) (l:List Lk) (pb n0:Nat) (i:Nat) (args:Array Value) (_:Nat->Prop) (W:World):Prop:=∃ v,args=#[v]/\bJ W v ((dz s l).getD i [])/\∀ b,v.ownBlock=some b->b=pb\/n0<=b
structure KSz (S:Nat->Prop) (w w':World):Prop where
 keep:gy S w w'
 size:w.heap.size<=w'.heap.size
theorem KSz.trans{S:Nat->Prop} {a b c:World} (h:KSz S a b) (k:KSz S b c):KSz S a c:=⟨gy.trans h.1 k.1,Nat.le_trans h.2 k.2⟩
theorem kq{w w':World} {pb po n c:Nat} {l:List Lk} (h:bJ w (.slice (some ⟨pb,po,none⟩) n c) l) (hk:w'.heap[pb]?=w.heap[pb]?):bJ w' (.slice (some ⟨pb,po,none⟩) n c) l:=by
 obtain⟨a',c',e,h1,h4,h5⟩:=h;refine⟨a',c',e,h1,h4,fun i x hx=>?_⟩;obtain⟨b,o,e2,hr⟩:=h5 i x hx;injection e with e3 e4 e5
 rw[<-e3]at e2;injection e2 with e2
 injection e2 with e6 e7
 have hc:∀ o',w'.cell? ⟨b,o',none⟩=w.cell? ⟨b,o',none⟩:=fun o'=>by unfold World.cell?;rw[<-e6,hk]
 refine⟨b,o,by rw[<-e3,e6,e7],⟨(hc _).trans hr.1.1,hr.1.2⟩,(hc _).trans hr.2.1,hr.2.2⟩
theorem Kp(B:Nat) (v:Value) (w:World) (hv:∃ a n c,v=.slice a n c) :
  Calls Tryz.prog 55 #[.pointer (some ⟨B,0,none⟩),v] w fun r w'=>r=.returned (.func (.func 96) #[] #[.pointer (some ⟨w.heap.size+1,0,none⟩),.pointer (some ⟨w.heap.size,0,none⟩)])/\w'=(w.alloc (.cells #[.pointer (some ⟨B,0,none⟩)] 94)).alloc (.cells #[v] 54):=by
 obtain⟨a,n,c,rfl⟩:=hv
 go_enter Tryz.func55,Tryz.ntmps55
 go_wp2
 go_ret
 exact⟨rfl,rfl⟩
theorem Ir(s:Sys) (hs:SysOk s) (hE:eS s<=256) (l:List Lk) (ir:0<l.length) (m5:l.length<=4096) (hx:∀ y∈l,0<=y.x/\y.x.toNat<eS s) (B bx bw:Nat) (pb po cl:Nat) (w0:World) (hT:iA w0) (fU:ScAt w0 B s) (w:World) (aK:Below w0.heap.size w0 w) (hl:bJ w (.slice (some ⟨pb,po,none⟩) l.length cl) l)
  (dy:w.heap[bw]?=some (.cells #[.slice (some ⟨pb,po,none⟩) l.length cl] 54)) (kV:w.heap[bx]?=some (.cells #[.pointer (some ⟨B,0,none⟩)] 94)) :
  Te Tryz.prog 96 #[.pointer (some ⟨bw,0,none⟩),.pointer (some ⟨bx,0,none⟩)] (Yp s l pb w.heap.size) (dz s l).length (fun k=>k<w0.heap.size\/k=pb\/k=bw\/k=bx) w:=by
 intro yl J Jx W hW hyl hJ oB hY nU;obtain⟨i0,df,cH,cj,cI⟩:=info_parts Tryz.infoLink;have cG:=aa (And.intro df (And.intro cH (And.intro cj cI)));clear df cH cj cI;obtain⟨pl,cl',ecl,lt1,lt2,el⟩:=hl.at;injection ecl with ecl1 _ ecl2
 obtain⟨pb',po',epb,hpb0⟩:=el 0 ir;rw[<-ecl1]at epb;injection epb with epb
 injection epb with epb1 epb2
 have lpb:pb<w.heap.size:=by rw[epb1];exact fk hpb0.1.1
 rw[<-ecl2]at lt1;clear epb1 epb2 ecl1 ecl2 hpb0 pb' po' pl cl' el;have lw1:=aC dy;have lw2:=aC kV;have XL:KSz (fun k=>k<w0.heap.size\/k=pb\/k=bw\/k=bx) w W:=⟨fun k hk=>hW.block k (by rcases hk with hk|rfl|rfl|rfl<;>first|(have:=aK.size;omega)|assumption),hW.size⟩;obtain⟨S,hS⟩:∃ S,S=(fun k=>k<w0.heap.size\/k=pb\/k=bw\/k=bx):=⟨_,rfl⟩
 have LQ:am (∀ V,KSz S w V->jj w0.heap.size w0 V/\V.heap[pb]?=w.heap[pb]?/\V.heap[bw]?=some (.cells #[.slice (some ⟨pb,po,none⟩) l.length cl] 54)/\V.heap[bx]?=some (.cells #[.pointer (some ⟨B,0,none⟩)] 94)):=aa (fun V hV=>by
  subst hS
  exact⟨fun k hk=>(hV.1 k (.inl hk)).trans (aK.block k hk),hV.1 pb (.inr (.inl rfl)),(hV.1 bw (.inr (.inr (.inl rfl)))).trans dy,(hV.1 bx (.inr (.inr (.inr rfl)))).trans kV⟩)
 rw[<-hS]at nU XL
 have P3:am (∀ V V',KSz S w V->Below V.heap.size V V'->KSz S w V'):=aa (fun V V' h1 h2=>⟨fun k hk=>(h2.block k (by
  have h4:=h1.2;subst hS;rcases hk with hk|rfl|rfl|rfl
  ·have:=aK.size;omega
  ·omega
  ·omega
  ·omega)).trans (h1.1 k hk),Nat.le_trans h1.2 h2.size⟩)
 have AJ:am (∀ (d:List (List Lk)) (c:List Lk) (r:List (List Lk)) (W1:World) (v:Value),dz s l=d++c :: r->bJ W1 v c->(∀ b,v.ownBlock=some b->b=pb\/w.heap.size<=b)->J d.length S W1->YieldAt Fence.wide 0 Tryz.prog yl #[v] W1 fun e W'=>(e=.returned (.bool true)/\KSz S W1 W'/\W1.heap.size<=W'.heap.size/\J (d++[c]).length S W')\/(e=.returned (.bool false)/\∃ i,i<=(dz s l).length/\Jx i S W')):=aa (fun d c r W1 v e hv kT hj=>by
  obtain⟨h1,h2,h3,h4⟩:=KD (x:=[]) e;obtain⟨fn,tmps,assign,body,hy,hR⟩:=hY d.length S W1 #[v] h1 ⟨v,rfl,by rw[h2];exact hv,kT⟩ hj;refine⟨fn,tmps,assign,body,hy,hR.mono ?_⟩;rintro e W' ⟨g1,g2,g3⟩;rcases g3 with ⟨rfl,g3⟩|⟨rfl,g3⟩
  ·exact .inl ⟨rfl,⟨g2,g1⟩,g1,by rw[h4];exact g3⟩
  ·exact .inr ⟨rfl,_,h1,g3⟩)
 have Xh:am (∀ i V V',J i S V->Below V.heap.size V V'->J i S V'):=aa (fun i V V' h1 h2=>hJ i S S V V' h1 h2 (gL.refl _ _ _));have nh:am (dz s l=[]++l.dropLast :: ((if 1<l.length then [⟨(l.getD 1 default).x,-1⟩ :: l.drop 2] else [])++gx s l 0)):=aa (A4 s l);have TV:=aa (fun V (hV:KSz S w V)=>kq hl (LQ.o V hV).2.1);have ND:=aa (Bq hl);have WF:=aa hx;have it:am (∀ V,KSz S w V->∀ e f:Nat,e<eS s->f<eS s->Calls Tryz.prog 97 #[.pointer (some ⟨B,0,none⟩),.int .i64 (e:Nat),.int .i64 (f:Nat)] V fun r w'=>r=.returned (.int .i64 (maskN (fun p=>linkB s p e f) (nS s):Nat))/\Below V.heap.size V w'):=aa (fun V hV e f he hf=>Ko s hs B e f he hf V (ScAt.kp fU (LQ.o V hV).1));have X8:am (∀ V,KSz S w V->iA V):=aa (fun V hV=>iA.keep hT (LQ.o V hV).1);have sS:=aa XL;have Lj:=aa nU;have HE4:=aa hE;have jz:nS s<=5:=hs.n.2.1;clear hY hJ oB nU XL hl fU hT hS hs hx hW aK dy kV hyl lw1 lw2 lpb;have I7:am (bJ W (.slice (some ⟨pb,po,none⟩) (l.length - 1) cl) l.dropLast):=aa (by rw[List.dropLast_eq_take];exact rl (TV.o W sS.o) _ (by omega));have JO:am (∀ V,KSz S w V->∀ i,i<l.length->bJ V (.slice (some ⟨pb,po,none⟩) (i+1) cl) (l.take (i+1))):=aa (fun V hV i hi=>rl (TV.o V hV) _ hi);have XZ:am (∀ V,KSz S w V->∀ k,k<l.length->bJ V (.slice (some ⟨pb,po+k * 2,none⟩) (l.length - k) (cl - k)) (l.drop k)):=aa (fun V hV k hk=>by have h:=Cp (TV.o V hV) k (by omega);rwa [if_neg (by omega)]at h)
 have Xd:am (∀ V,KSz S w V->∀ i,i<l.length->∃ e:Nat,(l.getD i default).x=(e:Int)/\(l.getD i default).x.toNat=e/\e<eS s/\V.cell? ⟨pb,po+i * 2,none⟩=some (.int .i64 (e:Int))):=aa (fun V hV i hi=>by
  obtain⟨a,c,e1,_,_,e2⟩:=(TV.o V hV).at;obtain⟨b',o',e3,h1,h2⟩:=e2 i hi;injection e1 with e4 e5 e6
  rw[<-e4]at e3;injection e3 with e3
  injection e3 with e7 e8
  subst e7 e8;have h3:=WF.o l[i] (List.getElem_mem hi);have hg:l.getD i default=l[i]:=by simp[hi]
  rw[hg];refine⟨l[i].x.toNat,by omega,rfl,h3.2,?_⟩;rw[h1.1];congr 2
  omega)
 have Ap:am (∀ V,KSz S w V->V.cell? ⟨bw,0,none⟩=some (.slice (some ⟨pb,po,none⟩) l.length cl)/\V.cell? ⟨bx,0,none⟩=some (.pointer (some ⟨B,0,none⟩))):=aa (fun V hV=>⟨(ab (LQ.o V hV).2.2.1 0).trans rfl,(ab (LQ.o V hV).2.2.2 0).trans rfl⟩);have QN:am (∀ i,i<l.length->gx s l i=gZ s l i 0++gx s l (i+1)):=aa (L6 s l);have Ay:am (gx s l l.length=[]):=aa (Oq s l);have Ua:am (∀ i j,l.length<=i+2+j->gZ s l i j=[]):=aa (Or s l);have HJN:am (∀ i j,i+2+j<l.length->eU s (l.getD i default).x.toNat (l.getD (l.length - 1 - j) default).x.toNat=false->gZ s l i j=gZ s l i (j+1)):=aa (fun i j h hb=>L8 s l i j h (by unfold vS;rw[hb];rfl));have Tr:am (∀ i j,i+2+j<l.length->eU s (l.getD i default).x.toNat (l.getD (l.length - 1 - j) default).x.toNat=true->gZ s l i j=(l.take (i+1)++⟨(l.getD (l.length - 1 - j) default).x,byP s (l.getD i default).x.toNat (l.getD (l.length - 1 - j) default).x.toNat⟩ :: l.drop (l.length - 1 - j+1)) :: gZ s l i (j+1)):=aa (fun i j h hb=>L7 s l i j h (by unfold vS;rw[hb];rfl));have yU:am (1<l.length->dz s l=[l.dropLast]++(⟨(l.getD 1 default).x,-1⟩ :: l.drop 2) :: gx s l 0):=aa (fun h=>by rw[A4,if_pos h];rfl);have Uy:am (¬ 1<l.length->dz s l=[l.dropLast]++gx s l 0):=aa (fun h=>by rw[A4,if_neg h];rfl)
 have Lo:am (1<l.length->cK (⟨(l.getD 1 default).x,-1⟩ :: l.drop 2)=(cK (l.drop 1)).set 1 (.int .i64 (-1))):=aa (fun h=>by
  rw[List.drop_eq_getElem_cons h,show l.getD 1 default=l[1] by simp[h]]
  rfl)
 obtain⟨n,hn⟩:∃ n,l.length=n:=⟨_,rfl⟩;have HN:=aa hn;rw[hn]at ir m5 I7 JO XZ Xd Ap QN Ay Ua HJN Tr yU Uy Lo lt1 lt2;clear hn;have tw:=(Ap.o W sS.o).1;refine(callsIn_wide (n:=0)).1 ?_;refine callsIn_of_wp Tryz.func96 rfl trivial ?_ rfl;simp only[Tryz.ntmps96,List.size_toArray,List.length_cons,List.length_nil,Nat.reduceAdd,Nat.reduceSub,Array.replicate_succ,Array.replicate_zero,List.push_toArray,List.append_toArray,List.nil_append,List.cons_append];have jB:IntKind.i64.wrap ((n:Int) - 1)=((n - 1:Nat):Int):=by rw[IntWalk.i64_in _ (by omega)];omega
 obtain⟨fn,tmps,assign,body,oW,hR⟩:=AJ.o [] _ _ W _ nh.o I7.o (fun b hb=>.inl (dE hb).symm) Lj.o;have HR:=aa hR;clear hR
 gi_wp2
 refine⟨rfl,HR.o.mono ?_⟩;rintro e W3 (⟨rfl,im,CM,AF⟩|⟨rfl,i,hi,rS⟩)
 case inr=>
  gi_wp2
  refine bodyPost_ret (results_none rfl _ _ _) rfl ?_;exact⟨⟨_,rfl⟩,_,.inr ⟨_,hi,rS⟩⟩
 clear tw HR oW;have oG:=aa (KSz.trans sS.o im);have TS:=aa AF;clear im AF I7;have tw:=(Ap.o W3 oG.o).1
 have Ue:am (∃ d,dz s l=d++gx s l 0):=aa (by
  by_cases h:1<n
  ·exact⟨_,by rw[yU.o h,List.append_cons]⟩
  ·exact⟨_,Uy.o h⟩)
 by_cases jZ:1<n
 case' pos=>
  have QJ:decide ((1:Int)<(n:Int))=true:=decide_eq_true (by omega);have ju:=aa (pT (.slice (some ⟨pb,po+2,none⟩) (n - 1) (cl - 1)) (l.drop 1) W3 (XZ.o W3 oG.o 1 (by omega)) (by rw[List.length_drop,HN.o];omega));rw[List.length_drop,HN.o]at ju
  have vm:am (∀ y∈(⟨(l.getD 1 default).x,-1⟩ :: l.drop 2:List Lk),bS y.x/\bS y.p):=aa (fun y hy=>by
   rcases List.mem_cons.1 hy with rfl|hy
   ·have h1:=ND.o (l.getD 1 default) (by rw[show l.getD 1 default=l[1]'(by rw[HN.o];omega) by simp[HN.o,jZ]];exact List.getElem_mem _);exact⟨h1.1,⟨by dsimp only;omega,by dsimp only;omega⟩⟩
   ·exact ND.o y (List.mem_of_mem_drop hy))
  have hn10:(0:Int)<((n - 1:Nat):Int):=by omega
  gi_wp2
  refine⟨trivial,rfl,callsIn_wide.2 (ju.o.mono ?_)⟩;rintro e w4 ⟨u,rfl,hu,bO⟩;obtain⟨g,c,rfl,oJ,AX,qk,yW⟩:=hu.some (by omega);obtain⟨⟨uo,tu⟩,fu⟩:=yW 1 (by omega);have HO:=aa hu;have eV:=aa bO;clear ju hu bO tw yW;have hn100:0<n - 1:=by omega
  have ii:am (bJ (w4.setCell ⟨g,1,none⟩ (.int .i64 (-1))) (.slice (some ⟨g,0,none⟩) (n - 1) c) (⟨(l.getD 1 default).x,-1⟩ :: l.drop 2)/\Below W3.heap.size W3 (w4.setCell ⟨g,1,none⟩ (.int .i64 (-1)))):=aa (by
   have h1:=Ec HO.o 1 (.int .i64 (-1)) (by rw[kn,List.length_drop,HN.o];omega) (Lo.o jZ);have e1:(⟨(l.getD 1 default).x,-1⟩ :: l.drop 2:List Lk).length=n - 1:=by rw[List.length_cons,List.length_drop,HN.o];omega
   refine⟨aJ.links (base:=W3.heap.size) (by rw[e1];exact h1) vm.o (by rw[e1];omega),eV.o.setCell (p:=⟨g,1,none⟩) oJ _⟩)
  obtain⟨fn2,tmps2,assign2,body2,oW,hR⟩:=AJ.o [l.dropLast] _ _ (w4.setCell ⟨g,1,none⟩ (.int .i64 (-1))) _ (yU.o jZ) ii.o.1 (fun b hb=>.inr (by have e:=dE hb;have h1:=oG.o.2;dsimp only at e;omega)) (Xh.o _ _ _ TS.o ii.o.2);have HR:=aa hR;clear hR
  gi_wp2
  refine⟨rfl,HR.o.mono ?_⟩;rintro e W6 (⟨rfl,Lu,hz6,hj6⟩|⟨rfl,i,hi,hJx6⟩)
  case inr=>
   clear AJ
   gi_wp2
   refine bodyPost_ret (results_none rfl _ _ _) rfl ?_;exact⟨⟨_,rfl⟩,_,.inr ⟨_,hi,hJx6⟩⟩
  have I8:=aa (KSz.trans (P3.o _ _ oG.o ii.o.2) Lu);have Uc:am (∃ d,dz s l=d++gx s l 0/\J d.length S W6):=aa ⟨_,by rw[yU.o jZ,List.append_cons],hj6⟩;clear Lu hj6 hz6 ii HR oW HO eV tu fu oJ AX qk hn100 hn10 vm QJ
  gi_wp2
 case' neg=>
  have QJ:decide ((1:Int)<(n:Int))=false:=decide_eq_false (by omega);obtain⟨W6,uU⟩:∃ W6,W6=W3:=⟨_,rfl⟩;rw[<-uU]at oG TS ⊢;have I8:=aa oG.o;have Uc:am (∃ d,dz s l=d++gx s l 0/\J d.length S W6):=aa ⟨_,Uy.o jZ,TS.o⟩;clear uU tw
  gi_wp2
  clear QJ
 all_goals
  clear Ue jZ oG TS sS Lj nh yU Uy Lo;obtain⟨W0,bd⟩:∃ W0,W0=W6:=⟨_,rfl⟩;rw[<-bd]at I8 Uc ⊢;clear bd
  gi_loopw [32] (fun i wr=>∃ (i':Nat) (d:List (List Lk)),i'<=n/\i=.int .i64 i'/\dz s l=d++gx s l i'/\KSz S w wr/\J d.length S wr) (fun i _=>n - (intOf i).toNat)
  ·
   obtain⟨d,h1,h2⟩:=Uc.o;exact⟨0,d,by omega,rfl,h1,I8.o,h2⟩
  ·
   clear I8 Uc W0;obtain⟨i,d,hi,rfl,hd,fS,yO⟩:=hrel;have j8:=aa fS;have jg:=aa yO;have HD:=aa hd;clear fS yO hd;by_cases aB:i<n
   ·obtain⟨wrA,lN⟩:∃ x,x=wr:=⟨_,rfl⟩;rw[<-lN]at j8 jg ⊢;clear lN;have HDI':am (dz s l=d++(gZ s l i 0++gx s l (i+1))):=aa (by rw[<-QN.o i aB];exact HD.o)
    gi_wp2
    gi_loopw [7] (fun v wr=>∃ (j:Nat) (d:List (List Lk)),j<=n - 1/\v=.int .i64 ((n - 1 - j:Nat):Int)/\dz s l=d++(gZ s l i j++gx s l (i+1))/\KSz S w wr/\J d.length S wr) (fun v _=>(intOf v).toNat)
    ·exact⟨0,d,by omega,by rw[Nat.sub_zero],HDI'.o,j8.o,jg.o⟩
    ·
     clear j8 jg HD HDI' d;obtain⟨j,d,hj,rfl,hd,fS,yO⟩:=hrel;have j8:=aa fS;have jg:=aa yO;have HD:=aa hd;obtain⟨k,hk⟩:∃ k,n - 1 - j=k:=⟨_,rfl⟩;rw[hk];have HJE1:=aa (Ua.o i j);have I5:=aa (HJN.o i j);have Ew:=aa (Tr.o i j);rw[hk]at I5 Ew;have hnk1:k+1+j<=n:=by omega
     have hnk2:n<=k+1+j:=by omega
     clear yO hd hk;have hwi:IntKind.i64.wrap ((i:Int)+2)=(i:Int)+2:=by rw[IntWalk.i64_in _ (by omega)]
     by_cases qr:i+2<=k
     ·obtain⟨e,F7,Az,he3,he4⟩:=Xd.o wr fS i aB;obtain⟨f,fN,FB,hf3,hf4⟩:=Xd.o wr fS k (by omega);rw[Az,FB]at I5 Ew;rw[fN]at Ew;have hbv:=(Ap.o wr fS).1;have AG:=(Ap.o wr fS).2;have yb:∀ z:ExtW wr,z.val.cell? ⟨bw,0,none⟩=_:=fun z=>ak z.ext hbv
      have yx:∀ z:ExtW wr,z.val.cell? ⟨bx,0,none⟩=_:=fun z=>ak z.ext AG
      have ye:∀ z:ExtW wr,z.val.cell? ⟨pb,po+i * 2,none⟩=_:=fun z=>ak z.ext he4
      have yf:∀ z:ExtW wr,z.val.cell? ⟨pb,po+k * 2,none⟩=_:=fun z=>ak z.ext hf4
      have bQ:am (∀ y:ExtW wr,Calls Tryz.prog 97 #[.pointer (some ⟨B,0,none⟩),.int .i64 (e:Nat),.int .i64 (f:Nat)] y.val fun r w''=>r=.returned (.int .i64 (maskN (fun p=>linkB s p e f) (nS s):Nat))/\∃ z:ExtW wr,w''=z.val):=aa (fun y=>Calls.ext_of (it.o y.val (P3.o _ _ j8.o y.ext) e f he3 hf3));have HZ:am (maskN (fun p=>linkB s p e f) (nS s)=0↔eU s e f=false):=aa (nE _ _);have HUP:am (maskN (fun p=>linkB s p e f) (nS s)=maskN (fun p=>decide (p<nS s)&&linkB s p e f) 8):=aa (Vv (by omega) _);have AU:am (firstIx 8 (fun p=>decide (p<nS s)&&linkB s p e f)=byP s e f):=aa (R3 (by omega) _);have gX:i<n:=aB;have mf:k<n:=by omega
      have vB:am ((l.getD k default).x=f):=aa fN;have aY:am (∀ e f':Nat,bS (byP s e f')/\bS (f:Int)):=aa (fun e f'=>⟨by have:=Bm (nS s) fun p=>linkB s p e f';unfold byP;generalize firstIx (nS s) _=z at this;exact⟨by omega,by omega⟩,by have:=HE4.o;exact⟨by omega,by omega⟩⟩);clear F7 Az fN FB he4 hf4 hbv AG fS he3 hf3;obtain⟨m,hm⟩:∃ m,maskN (fun p=>linkB s p e f) (nS s)=m:=⟨_,rfl⟩;rw[hm]at bQ HZ HUP;clear hm
      gi_wp2
      refine wpIn_wide.2 ?_;refine aF (by kernel_rfl) (by kernel_rfl) ?_
      repeat (go_big_quiet_step ((go_at_call 97;with_reducible exact bQ.o _)))
      refine wpQuiet_nil ?_;rintro _ ⟨xq,rfl⟩;have nd:=aa (P3.o _ _ j8.o xq.ext);have Nj:=aa (Xh.o _ _ _ jg.o xq.ext);generalize xq.val=wr2 at nd Nj ⊢;clear yb yx ye yf bQ j8 jg xq wr;obtain⟨wr,kJ⟩:∃ x,x=wr2:=⟨_,rfl⟩;rw[<-kJ]at nd Nj ⊢;clear kJ;have Sp:0<k->IntKind.i64.wrap ((k:Int) - 1)=((n - 1 - (j+1):Nat):Int):=fun _=>by rw[IntWalk.i64_in _ (by omega)];omega
      have Sp:=Sp (by omega);cases gM:eU s e f with
      | false=>
       obtain rfl:m=0:=HZ.o.2 gM;have gt:=aa (I5.o (by omega) gM);clear gM I5 Ew
       gi_wp2
       go_roundw
       ·exact⟨j+1,d,by omega,rfl,by rw[<-gt.o];exact HD.o,nd.o,Nj.o⟩
       ·simp[intOf];omega
      | true=>
       have uY:((m:Int) == 0)=false:=beq_eq_false_iff_ne.2 (fun h=>by have:=HZ.o.1 (by omega);rw[gM]at this;cases this);have qp:=aa (Ew.o (by omega) gM);clear gM I5 Ew HZ;have I4:=aa (JO.o wr nd.o i gX);have Sm:=aa (LQ.o wr nd.o).2.2.1;have X6:=aa (XZ.o wr nd.o k mf);have tk:am ((l.take (i+1)).length=i+1):=aa (by rw[List.length_take,HN.o];omega);have IT:am ((l.drop k).length=n - k):=aa (by rw[List.length_drop,HN.o]);have hwi1:IntKind.i64.wrap ((i:Int)+1)=((i+1:Nat):Int):=by rw[IntWalk.i64_in _ (by omega)];omega
       rw[HN.o]at Sm
       gi_wp2
       refine wpIn_wide.2 ?_;have hS:List.Nodup [57,58,59,60,61,62,63,64]:=by decide
       refine ge 8 [57,58,59,60,61,62,63,64] [MP.eq (.slice (some ⟨pb,po,none⟩) n cl),MP.eq (.int .i64 i),MP.eq (.int .i64 ((i+1:Nat):Int)),MP.eq (.slice (some ⟨pb,po,none⟩) (i+1) cl),Yh wr.heap.size (l.take (i+1)),MP.eq (.slice (some ⟨pb,po,none⟩) n cl),MP.eq (.int .i64 k),MP.eq (.slice (some ⟨pb,po+k * 2,none⟩) (n - k) (cl - k))] (by kernel_rfl) (by simp) hS rfl (by kernel_rfl) (by kernel_rfl) (by kernel_rfl) ?step ?tail
       case step=>
        intro x W i o s F hi ho hs hB ar hF;rcases (show i=0\/i=1\/i=2\/i=3\/i=4\/i=5\/i=6\/i=7 by omega) with rfl|rfl|rfl|rfl|rfl|rfl|rfl|rfl
        all_goals (obtain rfl:=dE ho.symm;obtain rfl:=dE hs.symm;clear hi ho hs)
        ·obtain⟨g1,h1⟩:=dr hF 1 (.pointer (some ⟨bw,0,none⟩)) (by decide) rfl;have tw:=ab (af hB Sm.o) 0;simp at tw;clear hF ar
         go_wp2_with fail
         exact bA.mk _ (Below.refl _ _) rfl rfl
        ·obtain⟨g6,h6⟩:=dr hF 6 (.int .i64 i) (by decide) rfl;clear hF ar
         go_wp2_with fail
         exact bA.mk _ (Below.refl _ _) rfl rfl
        ·obtain⟨e1,f1⟩:=aW hF 1 58 _ hS rfl (by kernel_rfl) (ar ⟨1,.data⟩ (by simp) rfl);clear hF ar
         go_wp2_with fail
         exact bA.mk _ (Below.refl _ _) rfl rfl
        ·obtain⟨e0,f0⟩:=aW hF 0 57 _ hS rfl (by kernel_rfl) (ar ⟨0,.data⟩ (by simp) rfl);obtain⟨e2,f2⟩:=aW hF 2 59 _ hS rfl (by kernel_rfl) (ar ⟨2,.data⟩ (by simp) rfl);clear hF ar
         go_wp2_with fail
         exact bA.mk _ (Below.refl _ _) rfl rfl
        ·obtain⟨e3,f3⟩:=aW hF 3 60 _ hS rfl (by kernel_rfl) (ar ⟨3,.data⟩ (by simp) rfl);clear hF ar
         go_wp2_with fail
         refine(pT _ _ W (I4.o.up up_link hB) (by rw[tk.o];omega)).mono ?_;rintro e w9 ⟨u9,rfl,jy,fi⟩;have nr:=aa (jy.base hB.size);clear jy
         go_wp2_with fail
         exact bA.mk _ fi nr.o rfl
        ·obtain⟨g1,h1⟩:=dr hF 1 (.pointer (some ⟨bw,0,none⟩)) (by decide) rfl;have tw:=ab (af hB Sm.o) 0;simp at tw;clear hF ar
         go_wp2_with fail
         exact bA.mk _ (Below.refl _ _) rfl rfl
        ·obtain⟨g7,h7⟩:=dr hF 7 (.int .i64 k) (by decide) rfl;clear hF ar
         go_wp2_with fail
         exact bA.mk _ (Below.refl _ _) rfl rfl
        ·obtain⟨e5,f5⟩:=aW hF 5 62 _ hS rfl (by kernel_rfl) (ar ⟨5,.data⟩ (by simp) rfl);obtain⟨e6,f6⟩:=aW hF 6 63 _ hS rfl (by kernel_rfl) (ar ⟨6,.data⟩ (by simp) rfl);clear hF ar
         go_wp2_with fail
         exact bA.mk _ (Below.refl _ _) rfl rfl
       case tail=>
        clear hS;intro x W3 F hB aT hF;have d4:aJ W3 wr.heap.size 75 2 (x 4) (l.take (i+1)).length (cK (l.take (i+1))):=aT 4 (by omega);have d7:x 7=.slice (some ⟨pb,po+k * 2,none⟩) (n - k) (cl - k):=aT 7 (by omega);rw[tk.o]at d4;obtain⟨a4,c4,e4⟩:=aJ.slice d4;rw[e4]at d4;simp only[bC,da,List.setIfInBounds_toArray,List.set_cons_succ,List.set_cons_zero,Nat.reduceAdd]at hF;rw[e4,d7]at hF;generalize x 0=s0,x 1=s1,x 2=s2,x 3=s3,x 5=s5,x 6=s6 at hF;subst hF;have kH:=aa hB;have yu:=aa d4;have Jk:=aa (X6.o.up up_link hB)
        have bE:am (∀ j u,(cK (l.drop k))[j]?=some u->W3.cell? (Addr.add ⟨pb,po+k * 2,none⟩ j)=some u):=aa (fun j u hj=>by
         obtain⟨b',o',c',e1,hc⟩:=Fp Jk.o j u hj;injection e1 with e1
         injection e1 with e1
         injection e1 with e1 e2
         subst e1 e2;have:(Addr.add ⟨pb,po+k * 2,none⟩ j)=⟨pb,po+k * 2+j,none⟩:=by unfold Addr.add;split<;>simp_all
         rw[this];exact hc)
        have QD:am ((cK (l.drop k)).length=(n - k) * 2):=aa (by rw[kn,IT.o]);have j9:am (i+1+(n - k)<=maxLen):=aa (by unfold maxLen;omega);have eW:am ((i+1+(n - k)) * 16<=140737488355328):=aa (by omega);clear aT d4 d7 e4 hB;simp only[List.drop_succ_cons,List.drop_zero]
        go_wp2_with (at_builtin;(refine bh _ rfl (.tmp 61) (.tmp 64) 54 rfl wr.heap.size 75 i0 _ 2 16 Tryz.underlying54 cG.o.1 cG.o.2.1 cG.o.2.2.1 cG.o.2.2.2 rfl (by decide) _ (i+1) _ rfl yu.o ⟨pb,po+k * 2,none⟩ (n - k) (cl - k) (cK (l.drop k)) rfl QD.o bE.o (B7 _) j9.o eW.o kH.o.size ?_;intro v5 w5 Nf hgrow5 _))
        have dB:Below wr.heap.size wr w5:=Below.grown kH.o hgrow5 kH.o.size (fun g hg=>(yu.o.lt g hg).1);obtain⟨g5,c5,rfl,oJ,AX,qk,yW⟩:=Nf.some (by omega);obtain⟨⟨uo,tu⟩,fu⟩:=yW ((i+1) * 2+1) (by omega);have hi5:i+1<i+1+(n - k):=by omega
        have HK5:=aa (P3.o _ _ nd.o dB)
        have Ss:am (Calls Tryz.prog 83 #[.int .i64 m] w5 fun r w'=>r=.returned (.int .i64 (byP s e f))/\w5=w'):=aa (by
         have h:=Cf (fun p=>decide (p<nS s)&&linkB s p e f) w5 (X8.o w5 HK5.o);rw[<-HUP.o,AU.o]at h
         exact h)
        have CV:am (aJ w5 wr.heap.size 75 2 (.slice (some ⟨g5,0,none⟩) (i+1+(n - k)) c5) (i+1+(n - k)) (cK (l.take (i+1)++l.drop k))):=aa (by rw[nK];exact Nf);have kL:=aa dB;clear Nf hgrow5 yW dB;have FT:am (bS (byP s e f)/\bS (f:Int)):=aa (aY.o e f);generalize byP s e f=bp at Ss qp FT
        gi_wp2
        refine⟨trivial,rfl,callsIn_wide.2 (Ss.o.mono ?_)⟩;rintro r w6 ⟨rfl,rfl⟩;have cY:bS bp/\bS (f:Int):=FT.o;obtain⟨y,hy⟩:∃ y:Lk,y=⟨f,bp⟩:=⟨_,rfl⟩
        have PY:am (bJ (w5.setCell ⟨g5,(i+1) * 2+1,none⟩ (.int .i64 bp)) (.slice (some ⟨g5,0,none⟩) (i+1+(n - k)) c5) (l.take (i+1)++⟨f,bp⟩ :: l.drop (k+1))/\Below wr.heap.size wr (w5.setCell ⟨g5,(i+1) * 2+1,none⟩ (.int .i64 bp))):=aa (by
         have e0:(l.getD k default).x=f:=vB.o;have e1:l.drop k=l.getD k default :: l.drop (k+1):=by rw[List.drop_eq_getElem_cons (by rw[HN.o];exact mf),show l.getD k default=l[k]'(by rw[HN.o];exact mf) by simp[HN.o,mf]]
         have e2:cK (l.take (i+1)++⟨f,bp⟩ :: l.drop (k+1))=(cK (l.take (i+1)++l.drop k)).set ((i+1) * 2+1) (.int .i64 bp):=by rw[e1,<-e0,R4,tk.o]
         have e3:(l.take (i+1)++⟨f,bp⟩ :: l.drop (k+1):List Lk).length=i+1+(n - k):=by rw[List.length_append,List.length_cons,tk.o,List.length_drop,HN.o];omega
         have h1:=Ec CV.o ((i+1) * 2+1) (.int .i64 bp) (by rw[kn,List.length_append,tk.o,IT.o];omega) e2;refine⟨aJ.links (base:=wr.heap.size) (by rw[e3];exact h1) (fun y hy=>?_) (by rw[e3];omega),kL.o.setCell (p:=⟨g5,(i+1) * 2+1,none⟩) oJ _⟩;rcases List.mem_append.1 hy with hy|hy
         ·exact ND.o y (List.mem_of_mem_take hy)
         rcases List.mem_cons.1 hy with rfl|hy
         ·exact⟨cY.2,cY.1⟩
         ·exact ND.o y (List.mem_of_mem_drop hy))
        clear hy y cY Ss;obtain⟨fn,tmps,assign,body,oW,hR⟩:=AJ.o d _ (gZ s l i (j+1)++gx s l (i+1)) (w5.setCell ⟨g5,(i+1) * 2+1,none⟩ (.int .i64 bp)) _ (by rw[HD.o,qp.o];rfl) PY.o.1 (fun b hb=>.inr (by have e:=dE hb;have h1:=nd.o.2;dsimp only at e;omega)) (Xh.o _ _ _ Nj.o PY.o.2);have HR:=aa hR;clear hR;have P0:am (dz s l=(d++[l.take (i+1)++⟨f,bp⟩ :: l.drop (k+1)])++(gZ s l i (j+1)++gx s l (i+1))):=aa (by rw[HD.o,qp.o];simp)
        gi_wp2
        refine⟨rfl,HR.o.mono ?_⟩;rintro r W9 (⟨rfl,zd,QM,P9⟩|⟨rfl,i9,P2,hJx9⟩)
        ·have qD:=aa (KSz.trans (P3.o _ _ nd.o PY.o.2) zd);have HJ9:=aa P9;clear zd P9 QM HR oW
         gi_wp2
         go_roundw
         ·exact⟨j+1,_,by omega,rfl,P0.o,qD.o,HJ9.o⟩
         ·simp[intOf];omega
        ·clear AJ HR oW
         gi_wp2
         refine bodyPost_ret (results_none rfl _ _ _) rfl ?_;exact⟨⟨_,rfl⟩,_,.inr ⟨_,P2,hJx9⟩⟩
     ·have HJE2:=aa (HJE1.o (by omega));clear fS
      gi_wp2
      go_roundw
      ·exact⟨i+1,d,by omega,by go_num,by rw[HD.o,HJE2.o];rfl,j8.o,jg.o⟩
      ·simp[intOf];omega
   ·obtain rfl:i=n:=by omega
    have HCE:am (d.length=(dz s l).length):=aa (by rw[HD.o,Ay.o,List.append_nil])
    gi_wp2
    go_end0
    exact⟨⟨_,rfl⟩,_,.inl (by rw[<-HCE.o];exact jg.o)⟩
abbrev fM(k:Int) (u:Value):Array Value:=#[.int .i64 k,u,.slice none 0 0,.slice none 0 0,.slice none 0 0]
theorem wS(tmps:Array Value) (B:Nat) (W:World) (k e:Int) (u:Value) (h4:tmps[4]?.getD undef=.pointer (some ⟨B,0,none⟩)) (h5:tmps[5]?.getD undef=.int .i64 e)
  (hB:W.heap[B]?=some (.cells (fM k u) 58)):(results Tryz.f22 tmps).run Tryz.prog W=.ok (.tuple #[.agg (fM k u),.int .i64 e]) W:=by
 have t2:=ab hB;simp[results,Tryz.results22,go_sem,h4,h5,t2]
theorem Bt{w:World} {pb po n c:Nat} {l:List Lk} (h:bJ w (.slice (some ⟨pb,po,none⟩) n c) l) (h0:0<l.length):pb<w.heap.size:=by
 obtain⟨pl,cl,e1,_,_,el⟩:=h.at;obtain⟨b,o,e2,h1⟩:=el 0 h0;injection e1 with e1
 rw[<-e1]at e2;injection e2 with e2
 injection e2 with e2
 rw[e2];exact fk h1.1.1
theorem Vx{s:Sys} {w:List Lk} {i:Nat} (hi:i<(dz s w).length) (h0:∀ j,j<i->iy s ((dz s w).getD j [])=false) (h1:iy s ((dz s w).getD i [])=true):iz s w=some ((dz s w).getD i []):=by
 refine Rb (d:=(dz s w).take i) (r:=(dz s w).drop (i+1)) ?_ (fun x hx=>?_) h1
 ·rw[az [] hi];simp
 ·obtain⟨j,hj,e⟩:=List.getElem_of_mem hx;rw[List.length_take]at hj;have h2:=h0 j (by omega);rw[az [] (by omega)]at h2;rw[<-e,List.getElem_take];exact h2
theorem Vy{s:Sys} {w:List Lk} (h0:∀ j,j<(dz s w).length->iy s ((dz s w).getD j [])=false):iz s w=none:=by
 refine Ot rfl (fun x hx=>?_);obtain⟨j,hj,e⟩:=List.getElem_of_mem hx;have h2:=h0 j hj;rw[az [] hj,e]at h2;exact h2
theorem Vz{s:Sys} {w c:List Lk} (hw:walkE s w=0) (hc:c∈dz s w):∀ y∈c,0<=y.x/\y.x.toNat<eS s:=fun y hy=>by
 have h0:0<c.length:=List.length_pos_of_mem hy;exact Ea ((E0 hc h0).walk hw) y hy
def V8(vr:List Lk × Int) (r:Ending) (w':World):Prop:=∃ u,r=.returned (.tuple #[.agg (fM (if vr.2=0 then 1 else 0) u),.int .i64 vr.2])/\bJ w' u vr.1
structure ShI (w w0:World) (b8 b9:Nat) (wk:List Lk) (ag:Bool) (Ds:List Nat) (V:World):Prop where
 old:Below w0.heap.size w0 V
 wk:∃ pb po cl,V.heap[b8]?=some (.cells #[.slice (some ⟨pb,po,none⟩) wk.length cl] 54)/\bJ V (.slice (some ⟨pb,po,none⟩) wk.length cl) wk/\(pb≠b8/\pb≠b9)/\w0.heap.size<=pb
 ag:V.heap[b9]?=some (.cells #[.bool ag] 4)
 marks:cV w.heap.size Ds V
theorem ShI.sta{w w0:World} {b8 b9 B:Nat} {wk:List Lk} {ag:Bool} {Ds:List Nat} (h1:w0.heap.size<=B) (h2:∀ D∈Ds,D<B) {A A':World} (c:Chg B A A') (h:ShI w w0 b8 b9 wk ag Ds A):ShI w w0 b8 b9 wk ag Ds A':=by
 obtain⟨pb,po,cl,k1,k2,k3⟩:=h.wk;exact⟨c.below h1 h.old.size h.old,⟨pb,po,cl,c.same _ _ k1 (.inr rfl),k2.ck up_link c.ck,k3⟩,c.same _ _ h.ag (.inr rfl),cN.marks h2 A A' c h.marks⟩
def Yq(s:Sys) (w w0:World) (b6 b8:Nat) (F:List Lk) (n:Nat) (act:Act) (W:World):Prop:=∃ (b9:Nat) (wk:List Lk) (ag:Bool) (Ds:List Nat) (u0 u1 u3 u7 u10 u11 u12 u13 u14 u15 u16 u17 u18 u19 u20 u21 u22 u23 u24 u25 u26 u27 u28 u29 u30 u31 u32 u33 u34 u35:Value),
 act={ tmps:=#[u0,u1,.pointer (some ⟨w.heap.size,0,none⟩),u3,.pointer (some ⟨w.heap.size+1+1,0,none⟩),.int .i64 0,.pointer (some ⟨b6,0,none⟩),u7,.pointer (some ⟨b8,0,none⟩),.pointer (some ⟨b9,0,none⟩),u10,u11,u12,u13,u14,u15,u16,u17,u18,u19,u20,u21,u22,u23,u24,u25,u26,u27,u28,u29,u30,u31,u32,u33,u34,u35],defers:=mQ Ds }/\n=2 * wk.length+(if ag then 1 else 0)/\walkE s wk=0/\(if ag then gB s wk else wk)=F/\w0.heap.size<=b8/\b8<b9/\ShI w w0 b8 b9 wk ag Ds W
theorem ym(s:Sys) (hE:eS s<=256) (vc vs vt ve vw:Value) (c:Ct) (pv:Option Addr) (cv:Nat) (pl:Option Addr) (cl:Nat) (pp:Option Addr) (cp:Nat) (w:World) (hT:iA w) (hs:IsSys w s vc vs vt ve) (hN:movesN s.prob.a.states<1099511627776) (hw:bJ w vw c.walk) :
  Calls Tryz.prog 22 #[.agg (bZ s.prob vc vs s.n vt ve),.agg #[.int .i64 c.kind,vw,.slice pv c.nv cv,.slice pl c.nl cl,.slice pp c.np cp]] w fun r w'=>V8 (shortR s c) r w'/\Below w.heap.size w w':=by
 have HS:=aa hs;have HT:=aa hT;obtain⟨⟨pc,cc,rfl⟩,⟨ps,cs,rfl⟩,⟨pt,ct,rfl⟩,⟨pe,ce,rfl⟩⟩:=bM hs;obtain⟨pw,cw,rfl,lw1,lw2,_⟩:=hw.at;have Ux:=aa hw;have HV:=aa (fun W (hb:Below w.heap.size w W)=>yh s hE _ _ _ _ _ c pv cv pl cl pp cp W (HS.o.up hb) hN (Ux.o.up up_link hb))
 have Ur:am (certE s c=0->verifyE s=0/\walkE s c.walk=0):=aa (fun h=>by
  unfold certE at h;split at h
  ·rename_i h1;exact absurd h h1
  rename_i h1;refine⟨rE (by omega),?_⟩;unfold vR at h;split at h
  ·omega
  split at h
  ·omega
  split at h
  ·rename_i h4;exact absurd h h4
  ·rename_i h4;omega)
 have QP:am (certE s c=0->shortR s c=(gB s c.walk,0)):=aa (fun h=>by unfold shortR;rw[if_neg (by omega)]);have dd:am (certE s c≠0->shortR s c=([],certE s c)):=aa (fun h=>by unfold shortR;rw[if_pos h]);generalize shortR s c=vr at QP dd ⊢;obtain⟨ee,wZ⟩:∃ ee,certE s c=ee:=⟨_,rfl⟩;rw[wZ]at HV Ur QP dd;obtain⟨kd,wk0,nv,nl,np⟩:=c;dsimp only at *;clear hs hT hw wZ;refine gc Tryz.func22 rfl ?_;simp only[Tryz.ntmps22,List.size_toArray,List.length_cons,List.length_nil,Nat.reduceAdd,Nat.reduceSub,Array.replicate_succ,Array.replicate_zero,List.push_toArray,List.append_toArray,List.nil_append,List.cons_append]
 go_wp2_with fail
 refine aQ (fun W=>Below w.heap.size w W/\W.heap[w.heap.size+1]?=some (.cells #[.int .i64 kd,.slice pw wk0.length cw,.slice pv nv cv,.slice pl nl cl,.slice pp np cp] 58)/\W.heap[w.heap.size+1+1]?=some (.cells (fM 0 (.slice none 0 0)) 58)) ⟨by go_grown,aq _ (bu _ _ _),eD _ _ _ _⟩ (fun W0 bd=>?_);obtain⟨aK,hH,gr⟩:=bd;refine(HV.o W0 aK).mono ?_;rintro r w1 ⟨⟨v,rfl,h2,h3⟩,aM⟩;have bL:=aa (ae aK aM);have gE:=aa (af aM hH);have Qf:=aa (af aM gr);have fT:=aC Qf.o;by_cases hr:ee=0
 case neg=>
  have Tm:=aa (dd.o hr);obtain rfl:=h3 hr;have F4:(ee != 0)=true:=by simpa using hr
  have Wo:=aa hr;clear aK aM h2 h3 hr HV hH gr Ur QP dd
  go_wp2_with (refine wpList_store_row rfl 58 (.tmp 4) (.tmp 19) rfl (w.heap.size+1+1) (fM 0 (.slice none 0 0)) rfl rfl 58 _ (aq _ Qf.o) (by kernel_rfl) rfl (by simp[Value.oneCell']) (gQ (fun W=>Below w.heap.size w W/\W.heap[w.heap.size+1+1]?=some (.cells (fM 0 (.slice none 0 0)) 58)) ⟨below_setRow (bL.o.alloc (by omega) _) (by omega) _,setRow_heap _ _ _ _ _ _ (aq _ Qf.o)⟩ ?_);intro W2 fg;have cS:=aa fg;clear fg)
  refine iu (wS _ (w.heap.size+1+1) _ 0 ee (.slice none 0 0) rfl rfl cS.o.2) ?_;have e1:=Tm.o;have e2:=Wo.o;subst e1;exact⟨⟨.slice none 0 0,by dsimp only;rw[if_neg e2],⟨none,0,rfl,⟨by simp,by omega,fun _=>rfl⟩,by simp,fun i x hx=>by simp at hx⟩⟩,cS.o.1⟩
 obtain⟨B,rfl,fU⟩:=h2 hr;have Tm:=aa (QP.o hr);have HZ:=aa (Ur.o hr);have dL:=aa (ja HZ.o.1);have jA:=aa fU;have cP:=(nG s wk0).1 HZ.o.2;have yy:=cP.1;have oF:=cP.2.1;subst hr;clear aK aM h2 h3 HV hH gr Ur QP dd fU cP;have to:=fun o j=>ab (aq o gE.o) j
 go_wp2_with fail
 refine aQ (fun W=>Below w1.heap.size w1 W/\W.heap[w1.heap.size]?=some (.cells #[.pointer (some ⟨B,0,none⟩)] 94)) ⟨by go_grown,ap _ _⟩ (fun W1 cO=>?_);have gD:=aa cO.1;have kG:=aa cO.2;clear cO to;refine(pT _ wk0 W1 (Ux.o.up up_link (ae bL.o gD.o)) (by omega)).mono ?_;rintro r w2 ⟨u,rfl,hu,aZ⟩;obtain⟨pb,cc2,rfl,oJ,AX,qk,_⟩:=hu.some yy;have HU:=aa (aJ.links hu (Bq Ux.o) (by omega));have cX:=aa aZ;have cI:=aZ.size;have cj:=gD.o.size;have dJ:=aC kG.o;clear hu aZ;have JH:=aa (jA.o.up gD.o);have jD:am (gB s wk0=vr.1/\vr.2=0):=aa (by rw[Tm.o];exact⟨rfl,rfl⟩);have HRS1:=aa (af gD.o Qf.o);have wF:=aa (ae bL.o gD.o);have I4:=aa (HT.o.up wF.o);clear Tm jA gE Qf
 go_wp2_with fail
 have nR:Below w2.heap.size w2 ((w2.alloc (Obj.cells #[Value.slice (some { block:=pb,off:=0 }) wk0.length cc2] 54)).alloc (Obj.cells #[Value.bool true] 4)):=by go_grown
 have cG:am (ShI w W1 w2.heap.size (w2.heap.size+1) wk0 true [] ((w2.alloc (Obj.cells #[Value.slice (some { block:=pb,off:=0 }) wk0.length cc2] 54)).alloc (Obj.cells #[Value.bool true] 4))):=aa
  ⟨ae cX.o nR,⟨pb,0,cc2,aq _ (ap _ _),HU.o.up up_link nR,⟨by omega,by omega⟩,by omega⟩,bu _ _ _,cV.nil _ _⟩
 clear nR cX HU;refine AY (fun n act W=>Yq s w W1 w1.heap.size w2.heap.size (gB s wk0) n act W) (2 * wk0.length+1) ?start ?round
 case start=>exact⟨w2.heap.size+1,wk0,true,[],_,_,_,_,_,_,_,_,_,_,_,_,_,_,_,_,_,_,_,_,_,_,_,_,_,_,_,_,_,_,rfl,rfl,HZ.o.2,rfl,cI,by omega,cG.o⟩
 case round=>
  clear cG oJ AX qk yy oF lw1 lw2;have IM:W1.heap.size<=w2.heap.size:=cI;generalize w2.heap.size=b8 at IM;rintro n act W ⟨b9,wk,ag,Ds,u0,u1,u3,u7,u10,u11,u12,u13,u14,u15,u16,u17,u18,u19,u20,u21,u22,u23,u24,u25,u26,u27,u28,u29,u30,u31,u32,u33,u34,u35,rfl,hn,PX,hF,_,fi,hI⟩;have cP:=(nG s wk).1 PX;have yy:=cP.1;have oF:=cP.2.1;clear cP;have lO:∀ E∈Ds,E<W.heap.size:=hI.marks.lt;obtain⟨pb,po,cl',h8,qj,⟨hp8,Ts⟩,vf⟩:=hI.wk;have t9:=ab hI.ag 0;have t8:=ab h8 0;have f9:=aH hI.ag 0;simp at t9 t8;have I9:=af hI.old HRS1.o;have HI:=aa hI;have HH8:=aa h8;have it:=aa qj;have Xy:=aa hF;have Nw:=aa I9;have HN:=aa hn;have qp:=aa (aC HRS1.o);cases ag with
  | false=>
   clear hI h8 qj hF I9 hn f9
   go_wp2_with (refine wpList_store_row rfl 58 (.tmp 4) (.tmp 35) rfl (w.heap.size+1+1) (fM 1 (.slice (some ⟨pb,po,none⟩) wk.length cl')) rfl rfl 58 _ Nw.o (by kernel_rfl) rfl (by simp[Value.oneCell']) ?_)
   have hm:cV w.heap.size Ds (W.setRow (w.heap.size+1+1) (fM 1 (.slice (some ⟨pb,po,none⟩) wk.length cl'))):=HI.o.marks.keep fun k o ho hc=>by
    rw[setRow_other _ _ _ _ (fun e=>by subst e;rw[Nw.o]at ho;cases ho;cases hc)];exact ho
   have cA:(W.setRow (w.heap.size+1+1) (fM 1 (.slice (some ⟨pb,po,none⟩) wk.length cl'))).heap[w.heap.size+1+1]?=some (.cells (fM 1 (.slice (some ⟨pb,po,none⟩) wk.length cl')) 58):=setRow_heap _ _ _ _ _ _ Nw.o;refine qZ hm (wS _ (w.heap.size+1+1) _ 1 0 (.slice (some ⟨pb,po,none⟩) wk.length cl') rfl rfl (qY hm _ _ cA rfl)) ?_;have e1:=jD.o;obtain⟨x1,x2⟩:=vr;dsimp only at e1;obtain⟨e1,rfl⟩:=e1;have e3:wk=x1:=by rw[<-e1];exact Xy.o
   subst e3;refine⟨⟨_,rfl,?_⟩,mu (fun D hD=>(hm.2 D hD).1) (Nat.le_refl _) (below_setRow (ae wF.o HI.o.old) (by omega) _)⟩;refine fe.ck up_link (qY hm) (kq it.o (setRow_other _ _ _ _ ?_));have:=qp.o;omega
  | true=>
   have tJ:am (ShI w W1 b8 b9 wk false Ds (W.setCell ⟨b9,0,none⟩ (.bool false))):=aa
    ⟨hI.old.setCell (p:=⟨b9,0,none⟩) (by dsimp only;omega) _,⟨pb,po,cl',aO h8 (by omega) _ _,kq qj (Below.heap_setCell _ _ _ _ Ts),⟨hp8,Ts⟩,vf⟩,aI hI.ag _ _,hI.marks.keep fun k o ho hc=>aO ho (fun e=>by subst e;rw[hI.ag]at ho;cases ho;cases hc) _ _⟩
   have t6':=(ab (af tJ.o.old kG.o) 0).trans rfl;have WV:(W.setCell ⟨b9,0,none⟩ (.bool false)).heap[b8]?=some (.cells #[.slice (some ⟨pb,po,none⟩) wk.length cl'] 54):=aO h8 (by omega) _ _;have t8':=(ab WV 0).trans rfl;have HLK1:am (bJ (W.setCell ⟨b9,0,none⟩ (.bool false)) (.slice (some ⟨pb,po,none⟩) wk.length cl') wk):=aa (kq qj (Below.heap_setCell _ _ _ _ Ts));have HH8':=aa WV;clear hI h8 qj hF I9 hn WV HI Nw HH8 it t8
   go_wp2_with fail
   clear t6' t8';refine aQ (fun V=>ShI w W1 b8 b9 wk false Ds V/\V.heap[b8]?=some (.cells #[.slice (some ⟨pb,po,none⟩) wk.length cl'] 54)/\bJ V (.slice (some ⟨pb,po,none⟩) wk.length cl') wk/\V.heap.size=W.heap.size) ⟨tJ.o,HH8'.o,HLK1.o,by simp⟩ (fun V hV=>?_);have HV:=aa hV.1;have HV8:=aa hV.2.1;have uS:=aa hV.2.2.1;have hVs:=hV.2.2.2;rw[<-hVs]at lO;clear hV tJ HH8' HLK1 f9 t9 hVs W;refine(Kp B (.slice (some ⟨pb,po,none⟩) wk.length cl') V ⟨_,_,_,rfl⟩).mono ?_;rintro r w3 ⟨rfl,rfl⟩
   go_wp2_with fail
   have qk:Below V.heap.size V ((V.alloc (.cells #[.pointer (some ⟨B,0,none⟩)] 94)).alloc (.cells #[.slice (some ⟨pb,po,none⟩) wk.length cl'] 54)):=by go_grown
   refine bF (fun U=>Below V.heap.size V U/\U.heap[V.heap.size]?=some (.cells #[.pointer (some ⟨B,0,none⟩)] 94)/\U.heap[V.heap.size+1]?=some (.cells #[.slice (some ⟨pb,po,none⟩) wk.length cl'] 54)) ⟨qk,aq _ (ap _ _),bu _ _ _⟩ (fun U hU=>?_);obtain⟨tE,yM,sa⟩:=hU;have hsU:=aC sa;have Gf:=aa (HV.o.sta (B:=V.heap.size) HV.o.old.size lO (Chg.of_below tE));have dk:=Ir s dL.o hE wk yy oF (Ea PX) B V.heap.size (V.heap.size+1) pb po cl' W1 I4.o JH.o U Gf.o.old (uS.o.up up_link tE) sa yM;have hpbV:=Bt uS.o yy;have eF:=aa (fun (wk':List Lk) (ag':Bool) A A' (c:Chg U.heap.size A A') (h:ShI w W1 b8 b9 wk' ag' Ds A)=>h.sta (B:=U.heap.size) Gf.o.old.size (fun E hE=>by have:=lO E hE;omega) c);have hb8U:b8<V.heap.size:=aC HV8.o;have hb9U:b9<V.heap.size:=aC HV.o.ag;clear tE yM qk
   refine LW (gf:=96) (lb:=#[.pointer (some ⟨V.heap.size+1,0,none⟩),.pointer (some ⟨V.heap.size,0,none⟩)]) rfl (enters_of Tryz.func96 (by kernel_rfl) rfl) dk (Below.refl _ _) (fun k hk=>by have:=Gf.o.old.size;rcases hk with hk|rfl|rfl|rfl<;>omega) (fun i args _ _ h=>by obtain⟨v,h,_⟩:=h;rw[h];rfl)
    (fun i T A=>ShI w W1 b8 b9 wk false Ds A/\(∀ j,j<i->iy s ((dz s wk).getD j [])=false)/\(¬ T b8/\¬ T b9)/\(∀ k,T k->k<A.heap.size)/\U.heap.size<=A.heap.size)
    (fun c i T A=>c=.exit 2/\∃ c',iz s wk=some c'/\ShI w W1 b8 b9 c' true Ds A)
    (fun i T T' A A' h hc hw=>⟨eF.o _ _ _ _ hc h.1,h.2.1,⟨fun hk=>by
     rcases hw.2 _ hk with h1|h1
     ·exact h.2.2.1.1 h1
     ·have:=h.2.2.2.2;omega,fun hk=>by
     rcases hw.2 _ hk with h1|h1
     ·exact h.2.2.1.2 h1
     ·have:=h.2.2.2.2;omega⟩,fun k hk=>by
     rcases hw.2 _ hk with h1|h1
     ·exact Nat.lt_of_lt_of_le (h.2.2.2.1 k h1) hc.size
     ·exact h1.2,Nat.le_trans h.2.2.2.2 hc.size⟩)
    (fun c i T T' A A' h hc hw=>by obtain⟨h1,c',h2,h3⟩:=h;exact⟨h1,c',h2,eF.o _ _ _ _ hc h3⟩)
    ⟨Gf.o,fun j hj=>by omega,⟨by omega,by omega⟩,fun k hk=>by have:=Gf.o.old.size;rcases hk with hk|rfl|rfl|rfl<;>omega,Nat.le_refl _⟩ ?rnd ?done ?stop
   case done=>
    intro D T A hD nm hK;have mi:=Vy nm.2.1;have h9:=nm.1.ag;obtain⟨pb',po',cl'',k1,k2,⟨k3,k4⟩,k5⟩:=nm.1.wk;have t9:=ab h9 0;simp at t9;have hpa:=Bt k2 yy;have h8A:=aC k1;have Dn:Below A.heap.size A (A.alloc (.cells #[.bool false] 4)):=by go_grown
    have yG:am (ShI w W1 b8 A.heap.size wk false (D :: Ds) (A.alloc (.cells #[.bool false] 4))):=aa
     ⟨ae nm.1.old Dn,⟨pb',po',cl'',af Dn k1,k2.up up_link Dn,⟨k3,by omega⟩,k5⟩,ap _ _,(cV.cons nm.1.marks (by have:=wF.o.size;have:=Gf.o.old.size;omega) hK fun E hE=>by have:=lO E hE;omega).up Dn⟩
    have hZ:am ((if false=true then gB s wk else wk)=gB s wk0):=aa (by rw[if_neg (by decide),<-BT mi];exact Xy.o);have nq:am (2 * wk.length+(if false=true then 1 else 0)<n):=aa (by rw[HN.o];simp);clear nm dk k1 k2 k3 k4 k5 mi
    go_wp2_with fail
    exact⟨_,nq.o,A.heap.size,wk,false,D :: Ds,_,_,_,_,_,_,_,_,_,_,_,_,_,_,_,_,_,_,_,_,_,_,_,_,_,_,_,_,_,_,rfl,rfl,PX,hZ.o,IM,by omega,yG.o⟩
   case stop=>
    rintro D c i T A hD hi ⟨rfl,c',mi,nm⟩ hK;obtain⟨g1,g2,_,g4⟩:=pZ mi;have h9:=nm.ag;obtain⟨pb',po',cl'',k1,k2,⟨k3,k4⟩,k5⟩:=nm.wk;have t9:=ab h9 0;simp at t9;have hpa:=Bt k2 g2;have h8A:=aC k1;have Dn:Below A.heap.size A (A.alloc (.cells #[.bool true] 4)):=by go_grown
    have yG:am (ShI w W1 b8 A.heap.size c' true (D :: Ds) (A.alloc (.cells #[.bool true] 4))):=aa
     ⟨ae nm.old Dn,⟨pb',po',cl'',af Dn k1,k2.up up_link Dn,⟨k3,by omega⟩,k5⟩,ap _ _,(cV.cons nm.marks (by have:=wF.o.size;have:=Gf.o.old.size;omega) hK fun E hE=>by have:=lO E hE;omega).up Dn⟩
    have hZ:am ((if true=true then gB s c' else c')=gB s wk0):=aa (by rw[if_pos rfl,<-L5 mi];exact Xy.o);have nq:am (2 * c'.length+(if true=true then 1 else 0)<n):=aa (by have:=g4.len;rw[HN.o];simp;omega);have hwz':=g4.walk PX;clear nm dk k1 k2 k3 k4 k5 mi g1 g4
    go_wp2_with fail
    exact⟨_,nq.o,A.heap.size,c',true,D :: Ds,_,_,_,_,_,_,_,_,_,_,_,_,_,_,_,_,_,_,_,_,_,_,_,_,_,_,_,_,_,_,rfl,rfl,hwz',hZ.o,IM,by omega,yG.o⟩
   case rnd=>
    rintro yl i T A args hi hl hlA hTl ⟨v,rfl,hv,hvb⟩ ⟨hSI,jw,⟨ht8,ht9⟩,hTA,hUA⟩;obtain⟨pv',cv',rfl,_⟩:=hv.at;have Aw:=aa hv;have yF:=aa hSI;have HTA:=aa hTA;have HMEM:am ((dz s wk).getD i []∈dz s wk):=aa (by rw[az [] hi];exact List.getElem_mem hi);have gt:=aa (fun h=>Vx hi jw h);have fY:=aa (fun h:iy s ((dz s wk).getD i [])=false=>aV (p:=fun j=>iy s ((dz s wk).getD j [])=false) jw h);generalize (dz s wk).getD i []=cand at Aw HMEM gt fY hv;have P7:=aa hvb;clear hv hSI hTA jw dk
    gi_wp2
    refine⟨Bod.refl _ _ _,fun X=>ShI w W1 b8 b9 wk false Ds X/\bJ X (.slice pv' cand.length cv') cand/\(∀ k,T k->k<X.heap.size)/\U.heap.size<=X.heap.size,fun X X' c h=>⟨eF.o _ _ _ _ c h.1,h.2.1.ck up_link c.ck,fun k hk=>Nat.lt_of_lt_of_le (h.2.2.1 k hk) c.size,Nat.le_trans h.2.2.2 c.size⟩,⟨yF.o,Aw.o,HTA.o,hUA⟩,fun X hX jv=>?_⟩;obtain⟨rlp,jv⟩:=jv;have I0:=aC jv;clear jv rlp;have HX:=aa hX.1;have vm:=aa hX.2.1;have Wx:=aa hX.2.2.1;have hUX:=hX.2.2.2;have tb6:=(ab (af HX.o.old kG.o) 0).trans rfl;have UC:=aa (qO s dL.o B _ cand (Vz PX HMEM.o) X (JH.o.up HX.o.old) hX.2.1);obtain⟨pbx,pox,clx,q1,q2,⟨q3,q4⟩,q5⟩:=hX.1.wk;have Q1:=aa q1;have Q9:=aa hX.1.ag;clear hX q2 q3 q4 q5 q1
    gi_wp2
    refine⟨trivial,rfl,wL (UC.o.mono ?_)⟩;rintro r W4 ⟨rfl,bO⟩;clear tb6 UC;have eV:=aa bO;have r1:=af bO Q1.o;have r9:=af bO Q9.o;have s8:=ab r1 0;have s9:=ab r9 0;have f8:=aH r1 0;have f9:=aH r9 0;simp at s8 s9;have R1:=aa r1;have R9:=aa r9;clear r1 r9 bO;cases hg:iy s cand with
    | true=>
     have rM:=aa (gt.o hg)
     have h0c:0<cand.length:=by
      unfold iy at hg;rw[Bool.and_eq_true,decide_eq_true_eq]at hg;exact hg.1
     clear hg gt fY;have hne89:¬ (b9=b8):=by omega
     have hne98:¬ (b8=b9):=by omega
     gi_wp2
     obtain⟨pl9,cl9,e9,_,_,el9⟩:=vm.o.at;obtain⟨pbv,pov,e8,_⟩:=el9 0 h0c;injection e9 with e9
     rw[<-e9]at e8;subst e8;have hvo:=P7.o pbv rfl
     have bR:pbv≠b8/\pbv≠b9/\W1.heap.size<=pbv:=by
      have:=Gf.o.old.size;rcases hvo with rfl|h
      ·exact⟨hp8,Ts,vf⟩
      ·omega
     have sU:∀ (k:Nat) (o:Obj),W4.heap[k]?=some o->o.isCells=false->((W4.setCell ⟨b8,0,none⟩ (.slice (some ⟨pbv,pov,none⟩) cand.length cv')).setCell ⟨b9,0,none⟩ (.bool true)).heap[k]?=some o:=fun k o ho hc=>
      aO (aO ho (fun e=>by subst e;rw[R1.o]at ho;cases ho;cases hc) _ _) (fun e=>by subst e;rw[R9.o]at ho;cases ho;cases hc) _ _
     refine⟨⟨by simp;have:=eV.o.size;omega,fun k hk=>?_,fun k o _ ho hc=>sU k o (af eV.o ho) hc⟩,rfl,_,rM.o,?_⟩
     ·rw[Below.heap_setCell _ _ _ _ (fun e=>ht9 (by dsimp only at e;rw[<-e];exact hk)),Below.heap_setCell _ _ _ _ (fun e=>ht8 (by dsimp only at e;rw[<-e];exact hk))];exact eV.o.block k (Wx.o k hk)
     ·refine⟨((ae HX.o.old eV.o).setCell (p:=⟨b8,0,none⟩) IM _).setCell (p:=⟨b9,0,none⟩) (by dsimp only;omega) _,⟨pbv,pov,cv',aO (aI R1.o _ _) hne98 _ _,kq (kq (vm.o.up up_link eV.o) (Below.heap_setCell _ _ _ _ bR.1)) (Below.heap_setCell _ _ _ _ bR.2.1),⟨bR.1,bR.2.1⟩,bR.2.2⟩,aI (aO R9.o hne89 _ _) _ _,(HX.o.marks.up eV.o).keep sU⟩
    | false=>
     have rM:=aa (fY.o hg);clear hg gt fY
     gi_wp2
     exact⟨Bod.of_below Wx.o eV.o,eF.o _ _ _ _ (Chg.of_below eV.o) HX.o,rM.o,⟨ht8,ht9⟩,fun k hk=>Nat.lt_of_lt_of_le (Wx.o k hk) eV.o.size,Nat.le_trans hUX eV.o.size⟩
def mx(s:Sys) (mem:List Nat) (i:Nat):List Lk:=if i=0 then gG s mem else kR s (mem.getD (i - 1) 0) (mem.drop i)
theorem Kq(s:Sys) (mem:List Nat) (h:0<mem.length):mx s mem 0=⟨mem.getD 0 0,-1⟩ :: mx s mem 1:=by
 match mem,h with
 | a :: r,_=>rfl
theorem MU(s:Sys) (mem:List Nat) (i:Nat) (h0:0<i) (hi:i<mem.length):mx s mem i=kj s (mem.getD (i - 1) 0) (mem.getD i 0)++mx s mem (i+1):=by
 unfold mx;rw[if_neg (by omega),if_neg (by omega),List.drop_eq_getElem_cons hi,az 0 hi,Nat.add_sub_cancel,az 0 hi];rfl
theorem PE(s:Sys) (mem:List Nat):mx s mem mem.length=[]:=by
 unfold mx;split
 ·rename_i h;rw[List.eq_nil_of_length_eq_zero h];rfl
 ·rw[List.drop_length];rfl
structure SlS (J:Nat->(Nat->Prop)->World->Prop) (S:Nat->Prop) (w W:World) (yl c1 B:Nat) (x:Int) (d:Nat) (cur:Int) (T:Nat->Prop) (V:World):Prop where
 j:J d T V
 ks:KSz S w V
 sz:W.heap.size<=V.heap.size
 b3:V.heap[W.heap.size]?=some (.cells #[.func (.yield yl) #[] #[]] 80)
 b4:V.heap[W.heap.size+1]?=some (.cells #[.int .i64 cur] 3)
 x1:V.heap[c1]?=some (.cells #[.pointer (some ⟨B,0,none⟩)] 94)
 x2:V.heap[c1+1]?=some (.cells #[.int .i64 x] 3)
 t:T W.heap.size/\T (W.heap.size+1)/\T c1/\T (c1+1)
 tb:∀ k,T k->W.heap.size<=k/\k<V.heap.size
section
variable {J : Nat → (Nat → Prop) → World → Prop} {S : Nat → Prop} {w W : World} {yl c1 B : Nat} {x : Int} {d : Nat} {cur : Int} {T T' : Nat → Prop} {V V' : World}
theorem SlS.grow(h:SlS J S w W yl c1 B x d cur T V) (hJ:∀ i T T' A A',J i T A->ChT W.heap.size T A A'->gL A A' T T'->J i T' A') (hS:∀ k,S k->k<w.heap.size) (hb:Below V.heap.size V V') (hw:gL V V' T T'):SlS J S w W yl c1 B x d cur T' V':=
 ⟨hJ _ _ _ _ _ h.j (ChT.of_below h.sz hb) hw,⟨fun k hk=>(hb.block k (by have:=hS k hk;have:=h.ks.2;omega)).trans (h.ks.1 k hk),Nat.le_trans h.ks.2 hb.size⟩,Nat.le_trans h.sz hb.size,af hb h.b3,af hb h.b4,af hb h.x1,af hb h.x2,⟨hw.1 _ h.t.1,hw.1 _ h.t.2.1,hw.1 _ h.t.2.2.1,hw.1 _ h.t.2.2.2⟩,fun k hk=>by
  rcases hw.2 k hk with h1|h1
  ·exact⟨(h.tb k h1).1,Nat.lt_of_lt_of_le (h.tb k h1).2 hb.size⟩
  ·exact⟨by have:=h.sz;omega,h1.2⟩⟩
theorem SlS.chg{n:Nat} (h:SlS J S w W yl c1 B x d cur T V) (hJ:∀ i T T' A A',J i T A->ChT W.heap.size T A A'->gL A A' T T'->J i T' A') (hS:∀ k,S k->k<w.heap.size) (hn:W.heap.size<=n) (hwn:w.heap.size<=n) (hc:Chg n V V'):SlS J S w W yl c1 B x d cur T V':=
 ⟨hJ _ _ _ _ _ h.j (ChT.of_chg hc hn h.sz) (gL.refl _ _ _),⟨fun k hk=>by
  have h1:k<V.heap.size:=by have:=hS k hk;have:=h.ks.2;omega
  have h2:V.heap[k]?=some V.heap[k]:=Array.getElem?_eq_getElem h1;rw[hc.same k _ h2 (.inl (by have:=hS k hk;omega)),<-h2]
  exact h.ks.1 k hk,Nat.le_trans h.ks.2 hc.size⟩,Nat.le_trans h.sz hc.size,hc.same _ _ h.b3 (.inr rfl),hc.same _ _ h.b4 (.inr rfl),hc.same _ _ h.x1 (.inr rfl),hc.same _ _ h.x2 (.inr rfl),h.t,fun k hk=>⟨(h.tb k hk).1,Nat.lt_of_lt_of_le (h.tb k hk).2 hc.size⟩⟩
theorem SlS.put(h:SlS J S w W yl c1 B x d cur T V) (hJ:∀ i T T' A A',J i T A->ChT W.heap.size T A A'->gL A A' T T'->J i T' A') (hS:∀ k,S k->k<W.heap.size) (hc:c1≠W.heap.size+1/\c1+1≠W.heap.size+1) (y:Int):SlS J S w W yl c1 B x d y T (V.setCell ⟨W.heap.size+1,0,none⟩ (.int .i64 y)):=
 ⟨hJ _ _ _ _ _ h.j (ChT.set h.t.2.1 (by omega) _ _) (gL.refl _ _ _),⟨fun k hk=>(Below.heap_setCell _ _ _ _ (by have:=hS k hk;dsimp only;omega)).trans (h.ks.1 k hk),by simpa using h.ks.2⟩,by simpa using h.sz,aO h.b3 (by omega) _ _,aI h.b4 _ _,aO h.x1 hc.1 _ _,aO h.x2 hc.2 _ _,h.t,fun k hk=>by simpa using h.tb k hk⟩
theorem SlS.next{d':Nat} (h:SlS J S w W yl c1 B x d cur T V) (hS:∀ k,S k->k<w.heap.size) (hz:V.heap.size<=V'.heap.size) (hk:∀ k,T k\/S k->k<V.heap.size->V'.heap[k]?=V.heap[k]?) (hj:J d' T V'):SlS J S w W yl c1 B x d' cur T V':=
 ⟨hj,⟨fun k qS=>(hk k (.inr qS) (by have:=hS k qS;have:=h.ks.2;omega)).trans (h.ks.1 k qS),Nat.le_trans h.ks.2 hz⟩,Nat.le_trans h.sz hz,(hk _ (.inl h.t.1) (aC h.b3)).trans h.b3,(hk _ (.inl h.t.2.1) (aC h.b4)).trans h.b4,(hk _ (.inl h.t.2.2.1) (aC h.x1)).trans h.x1,(hk _ (.inl h.t.2.2.2) (aC h.x2)).trans h.x2,h.t,fun k qS=>⟨(h.tb k qS).1,Nat.lt_of_lt_of_le (h.tb k qS).2 hz⟩⟩
end
theorem PF(B:Nat) (x:Int) (w:World) :
  Calls Tryz.prog 49 #[.pointer (some ⟨B,0,none⟩),.int .i64 x] w fun r w'=>r=.returned (.func (.func 89) #[] #[.pointer (some ⟨w.heap.size,0,none⟩),.pointer (some ⟨w.heap.size+1,0,none⟩)])/\w'=(w.alloc (.cells #[.pointer (some ⟨B,0,none⟩)] 94)).alloc (.cells #[.int .i64 x] 3):=by
 go_enter Tryz.func49,Tryz.ntmps49
 go_wp2
 go_ret
 exact⟨rfl,rfl⟩
def V9(base:Nat) (l:List Lk):MP:=⟨fun x W=>bJ W x l/\∀ k,x.ownBlock=some k->base<=k,fun _ _ _ h hb=>⟨h.1.up up_link hb,h.2⟩⟩
def Tj(base:Nat) (l:List Lk):MP:=⟨fun x W=>∃ u,x=.tuple #[u,.bool true,.int .i64 0]/\bJ W u l/\∀ k,u.ownBlock=some k->base<=k,fun _ _ _ h hb=>by obtain⟨u,e,h1,h2⟩:=h;exact⟨u,e,h1.up up_link hb,h2⟩⟩
theorem MV(s:Sys) (hv:verifyE s=0) (hE:eS s<=256) (hN:movesN s.prob.a.states<1099511627776) (B bx bl:Nat) (x:Int) (w0:World) (fU:ScAt w0 B s) (w:World) (aK:Below w0.heap.size w0 w)
  (kV:w.heap[bx]?=some (.cells #[.pointer (some ⟨B,0,none⟩)] 94)) (oh:w.heap[bl]?=some (.cells #[.int .i64 x] 3)) :
  Tf Tryz.prog 89 #[.pointer (some ⟨bx,0,none⟩),.pointer (some ⟨bl,0,none⟩)] (fun i args=>args=#[((gG s (memL (partsS s) x)).getD i default).v]) (gG s (memL (partsS s) x)).length (fun k=>k<w0.heap.size\/k=bx\/k=bl) w:=by
 intro yl J Jx W hW hyl hJ oB hY nU;have lx:=aC kV;have ll:=aC oh;have mM:=aK.size;have Su:=hW.size;obtain⟨S,hS⟩:∃ S,S=(fun k=>k<w0.heap.size\/k=bx\/k=bl):=⟨_,rfl⟩;have IJ:∀ k,S k->k<w.heap.size:=fun k hk=>by subst hS;rcases hk with hk|rfl|rfl<;>omega
 have XM:∀ k,S k->k<W.heap.size:=fun k hk=>by have:=IJ k hk;omega
 have Ap:am (∀ V,KSz S w V->jj w0.heap.size w0 V/\V.cell? ⟨bx,0,none⟩=some (.pointer (some ⟨B,0,none⟩))/\V.cell? ⟨bl,0,none⟩=some (.int .i64 x)):=aa (fun V hV=>by
  subst hS
  exact⟨fun k hk=>(hV.1 k (.inl hk)).trans (aK.block k hk),(ab ((hV.1 bx (.inr (.inl rfl))).trans kV) 0).trans rfl,(ab ((hV.1 bl (.inr (.inr rfl))).trans oh) 0).trans rfl⟩)
 have HSL:am (∀ k,k<w0.heap.size->S k):=aa (fun k hk=>by subst hS;exact .inl hk);obtain⟨mem,kO⟩:∃ mem,memL (partsS s) x=mem:=⟨_,rfl⟩;rw[kO]at hY ⊢;rw[<-hS]at hY
 have AJ:am (∀ (d:List Lk) (c:Lk) (r:List Lk) (T:Nat->Prop) (W1:World),gG s mem=d++c :: r->J d.length T W1->W.heap.size<=W1.heap.size->YieldAt Fence.wide 0 Tryz.prog yl #[c.v] W1 fun e W'=>
   (W1.heap.size<=W'.heap.size/\(∀ k o,W.heap.size<=k->W1.heap[k]?=some o->o.isCells=false->W'.heap[k]?=some o))/\((e=.returned (.bool true)/\(∀ k,T k\/S k->k<W1.heap.size->W'.heap[k]?=W1.heap[k]?)/\J (d++[c]).length T W')\/(e=.returned (.bool false)/\∃ i,i<=(gG s mem).length/\Jx i T W'))):=aa (fun d c r T W1 e hj hz=>by
  obtain⟨h1,h2,h3,h4⟩:=KD (x:=default) e;obtain⟨fn,tmps,assign,body,hy,hR⟩:=hY d.length T W1 #[c.v] h1 (by dsimp only;rw[h2]) hj hz;refine⟨fn,tmps,assign,body,hy,hR.mono ?_⟩;rintro e W' ⟨g1,g4,g3⟩;rcases g3 with ⟨rfl,g2,g3⟩|⟨rfl,g3⟩
  ·exact⟨⟨g1,g4⟩,.inl ⟨rfl,g2,by rw[h4];exact g3⟩⟩
  ·exact⟨⟨g1,g4⟩,.inr ⟨rfl,_,h1,g3⟩⟩)
 have HJ:=aa hJ;have Jw:=aa oB;have Lj:=aa nU;have jA:=aa fU;have K6:am (KSz S w W):=aa ⟨fun k hk=>hW.block k (IJ k hk),hW.size⟩;have dL:=aa (ja hv)
 have CG:am (∀ i,i<mem.length->mem.getD i 0<eS s):=aa (fun i hi=>by
  rw[az 0 hi];have h1:mem[i]∈memL (partsS s) x:=by rw[kO];exact List.getElem_mem hi
  exact rq _ h1)
 have HNR:am (∀ i k,i<mem.length->k<mem.length->0<=(db s (mem.getD k 0)).getD (mem.getD i 0) 0):=aa (fun i k hi hk=>by
  have h1:mem[i]∈memL (partsS s) x:=by rw[kO];exact List.getElem_mem hi
  have h2:mem[k]∈memL (partsS s) x:=by rw[kO];exact List.getElem_mem hk
  rw[az 0 hi,az 0 hk]
  exact BR dL.o _ _ (rq _ h1) (rq _ h2) ((li.1 h1).2.trans (li.1 h2).2.symm))
 have HWF:=aa (Kq s mem);have HWN:=aa (MU s mem);have HWE:=aa (PE s mem);have eN:=aa (ae aK hW);clear hY hJ oB nU fU kV oh hS;have tw:=(Ap.o W K6.o).2;have t1:∀ o o',((W.alloc o).alloc o').cell? ⟨bx,0,none⟩=some (.pointer (some ⟨B,0,none⟩)):=fun o o'=>ak (show Below W.heap.size W ((W.alloc o).alloc o') by go_grown) tw.1
 have t2:∀ o o',((W.alloc o).alloc o').cell? ⟨bl,0,none⟩=some (.int .i64 x):=fun o o'=>ak (show Below W.heap.size W ((W.alloc o).alloc o') by go_grown) tw.2
 refine gc Tryz.func89 rfl ?_;simp only[Tryz.ntmps89,List.size_toArray,List.length_cons,List.length_nil,Nat.reduceAdd,Nat.reduceSub,Array.replicate_succ,Array.replicate_zero,List.push_toArray,List.append_toArray,List.nil_append,List.cons_append]
 go_wp2_with fail
 refine(wR B x _).mono ?_;rintro r w2 ⟨rfl,rfl⟩;clear t1 t2 tw
 go_wp2_with fail
 refine bF (fun U=>Below W.heap.size W U/\U.heap.size=W.heap.size+1+1+1+1/\U.heap[W.heap.size]?=some (.cells #[.func (.yield yl) #[] #[]] 80)/\U.heap[W.heap.size+1]?=some (.cells #[.int .i64 (-1)] 3)/\U.heap[W.heap.size+1+1]?=some (.cells #[.pointer (some ⟨B,0,none⟩)] 94)/\U.heap[W.heap.size+1+1+1]?=some (.cells #[.int .i64 x] 3))
  ⟨by go_grown,by simp,aq _ (aq _ (aq _ (ap _ _))),aq _ (aq _ (bu _ _ _)),aq _ (eD _ _ _ _),by have h:=ap (((W.alloc (.cells #[.func (.yield yl) #[] #[]] 80)).alloc (.cells #[.int .i64 (-1)] 3)).alloc (.cells #[.pointer (some ⟨B,0,none⟩)] 94)) (.cells #[.int .i64 x] 3);simpa using h⟩ (fun U hU=>?_)
 obtain⟨tE,yM,sa,mj,yH,JJ⟩:=hU;obtain⟨c1,kE⟩:∃ c1,W.heap.size+1+1=c1:=⟨_,rfl⟩;rw[kE]at yH JJ yM ⊢;have hc1':W.heap.size+2=c1:=kE;clear kE
 have HU:am (SlS J S w W yl c1 B x 0 (-1) (fun k=>W.heap.size<=k/\k<U.heap.size) U):=aa
  ⟨HJ.o _ _ _ _ _ Lj.o (ChT.of_below (Nat.le_refl _) tE) ⟨fun k h=>h.elim,fun k h=>.inr h⟩,⟨fun k hk=>(tE.block k (XM k hk)).trans (K6.o.1 k hk),Nat.le_trans K6.o.2 tE.size⟩,tE.size,sa,mj,yH,JJ,⟨by omega,by omega,by omega,by omega⟩,fun k h=>h⟩
 have sS:=aa (Ap.o U HU.o.ks).1;have dk:=uP s B c1 (c1+1) x w0 jA.o U (ae eN.o tE) (by rw[ab yH];rfl) (by rw[ab JJ];rfl);rw[kO]at dk;have kX:=aa (fun d cur T A A' (hc:Chg U.heap.size A A') (h:SlS J S w W yl c1 B x d cur T A)=>h.chg HJ.o IJ (by omega) (by omega) hc);have hUs:=yM;clear tE yM sa mj yH JJ kO
 refine NZ (gf:=135) (lb:=#[.pointer (some ⟨c1,0,none⟩),.pointer (some ⟨c1+1,0,none⟩)]) rfl (enters_of Tryz.func135 (by kernel_rfl) rfl) dk (Below.refl _ _) (fun k hk=>by rcases hk with hk|rfl|rfl<;>omega) (fun i=>rfl)
  (fun i V=>∃ dl T,gG s mem=dl++mx s mem i/\SlS J S w W yl c1 B x dl.length (if i=0 then -1 else(mem.getD (i - 1) 0:Nat)) T V)
  (fun c i V=>c=.ret/\W.heap.size<=V.heap.size/\∃ T i,i<=(gG s mem).length/\Jx i T V)
  (fun i A A' hc h=>by obtain⟨dl,T,h1,h2⟩:=h;exact⟨dl,T,h1,kX.o _ _ _ _ _ hc h2⟩)
  (fun c i A A' hc h=>by obtain⟨h1,h0,T,i,h2,h3⟩:=h;exact⟨h1,Nat.le_trans h0 hc.size,T,i,h2,Jw.o _ _ _ _ _ h3 (ChT.of_chg hc (by omega) h0) (gL.refl _ _ _)⟩)
  ⟨[],_,rfl,HU.o⟩ ?rnd ?done ?stop
 case done=>
  rintro D V hD ⟨dl,T,h1,h2⟩ hK;rw[HWE.o,List.append_nil]at h1;have FD:=aC hK
  go_wp2_with fail
  refine NV hK (v:=.tuple #[]) (by simp[results,Tryz.results89,go_sem]) ⟨⟨_,rfl⟩,T,.inl ?_⟩;rw[h1];exact HJ.o _ _ _ _ _ h2.j (ChT.of_chg (Chg.put _ hK (B:=U.heap.size) hD rfl) (by omega) h2.sz) (gL.refl _ _ _)
 case stop=>
  rintro D c i V hD hi ⟨rfl,h0,T,j,h1,h2⟩ hK;have FD:=aC hK
  go_wp2_with fail
  refine iG hK (v:=.tuple #[]) (by simp[results,Tryz.results89,go_sem]) ⟨⟨_,rfl⟩,T,.inr ⟨j,h1,?_⟩⟩;exact Jw.o _ _ _ _ _ h2 (ChT.of_chg (Chg.put _ hK (B:=U.heap.size) hD rfl) (by omega) h0) (gL.refl _ _ _)
 case rnd=>
  rintro yi i V hi hl ⟨dl,T,Ja,JD⟩;unfold wo;obtain⟨e,he⟩:∃ e,mem.getD i 0=e:=⟨_,rfl⟩;have iY:=CG.o i hi;rw[he]at iY ⊢;have HSL2:=aa JD;have HWY:=aa Ja;have TK:=aa he;clear JD Ja dk he
  gi_wp2
  refine⟨Bod.refl _ _ _,fun X=>SlS J S w W yl c1 B x dl.length (if i=0 then -1 else(mem.getD (i - 1) 0:Nat)) T X,fun A A' hc h=>kX.o _ _ _ _ _ hc h,HSL2.o,fun X hX jv=>?_⟩;obtain⟨rlp,jv⟩:=jv;have I0:=aC jv;clear jv rlp HSL2;have HX:=aa hX;have t3:=ab hX.b3 0;have t4:=ab hX.b4 0;have f4:=aH hX.b4 0;simp only[List.getElem?_toArray,List.getElem?_cons_zero]at t3 t4;clear hX;have Nm:¬ (W.heap.size+1<w0.heap.size\/W.heap.size+1=c1\/W.heap.size+1=c1+1):=by omega
  have eW:am (∀ (T:Nat->Prop) (V W':World),T c1/\T (c1+1)->c1+1<V.heap.size->w0.heap.size<=V.heap.size->(V.heap.size<=W'.heap.size/\(∀ k,T k\/S k->k<V.heap.size->W'.heap[k]?=V.heap[k]?)/\(∀ k o,W.heap.size<=k->V.heap[k]?=some o->o.isCells=false->W'.heap[k]?=some o))->Bod U.heap.size (fun k=>k<w0.heap.size\/k=c1\/k=c1+1) V W'):=aa (fun T V W' ht hv h0 h=>⟨h.1,fun k hk=>by
   rcases hk with hk|rfl|rfl
   ·exact h.2.1 k (.inr (HSL.o k hk)) (by omega)
   ·exact h.2.1 _ (.inl ht.1) (by omega)
   ·exact h.2.1 _ (.inl ht.2) hv,fun k o hk ho hc=>h.2.2 k o (by omega) ho hc⟩)
  have ju:=aa (aC HX.o.x2);have h0X:w0.heap.size<=X.heap.size:=by have:=HX.o.sz;omega
  by_cases df:i=0
  ·subst df;rw[if_pos rfl]at t4 HX;have HP:=aa (HX.o.put HJ.o XM ⟨by omega,by omega⟩ e);have t3':=ab HP.o.b3 0;simp only[List.getElem?_toArray,List.getElem?_cons_zero]at t3';have iO:am (gG s mem=dl++⟨e,-1⟩ :: mx s mem 1):=aa (by rw[HWY.o,HWF.o (by omega),TK.o]);obtain⟨fn,tmps,assign,body,oW,hR⟩:=AJ.o dl ⟨e,-1⟩ _ T (X.setCell ⟨W.heap.size+1,0,none⟩ (.int .i64 e)) iO.o HP.o.j HP.o.sz;have HR:=aa hR;clear hR t3
   gi_wp2
   refine⟨rfl,wM (HR.o.mono ?_)⟩;rintro r W3 ⟨oP,(⟨rfl,FL,AF⟩|⟨rfl,i9,P2,Sq⟩)⟩
   ·have AV:=And.intro oP.1 (And.intro FL oP.2);have dT:=aa ((Bod.setCell (B:=U.heap.size) X ⟨W.heap.size+1,0,none⟩ (.int .i64 e) Nm).trans (eW.o T _ W3 HP.o.t.2.2 (by have:=ju.o;simp;omega) (by simp;omega) AV));have XD:=aa (HP.o.next IJ AV.1 AV.2.1 AF);clear AV oP FL AF HR oW t3' t4 f4 Nm
    gi_wp2
    refine⟨dT.o,dl++[⟨e,-1⟩],T,by rw[iO.o,List.append_cons],?_⟩;rw[if_neg (by omega),Nat.zero_add,Nat.sub_self,TK.o];exact XD.o
   ·have dT:=aa ((Bod.setCell (B:=U.heap.size) (S:=fun _=>False) X ⟨W.heap.size+1,0,none⟩ (.int .i64 e) (fun h=>h)).out.trans ⟨oP.1,fun k o hk ho hc=>oP.2 k o (by omega) ho hc⟩);have CM:W.heap.size<=W3.heap.size:=Nat.le_trans HP.o.sz oP.1;clear oP HR oW t3' t4 f4 Nm AJ
    gi_wp2
    exact⟨dT.o,rfl,CM,T,i9,P2,Sq⟩
  ·rw[if_neg df]at t4 HX;obtain⟨a,ha⟩:∃ a,mem.getD (i - 1) 0=a:=⟨_,rfl⟩;have WH:=CG.o (i - 1) (by omega);have To:=HNR.o (i - 1) i (by omega) hi;have gt:=aa (HWN.o i (by omega) hi);rw[ha,TK.o]at To gt;rw[ha]at WH t4 HX;obtain⟨path,GJ⟩:∃ path,kj s a e=path:=⟨_,rfl⟩;rw[GJ]at gt;have hlta:decide ((a:Int)<0)=false:=decide_eq_false (by omega);have hscX:=ScAt.kp jA.o (Ap.o X HX.o.ks).1;obtain⟨vc,vs,vt,ve,vv,vl,q1,q2,_,_⟩:=hscX.ex;obtain⟨⟨qc,kc,rfl⟩,⟨qs,ks,rfl⟩,⟨qt,kt,rfl⟩,⟨qe,ke,rfl⟩⟩:=bM q2;have TQ:=aa (fun V (hb:Below X.heap.size X V)=>Pz s hv hE _ _ _ _ a e WH iY To V (q2.up hb) hN);rw[GJ]at TQ;have hplen:path.length<256:=by rw[<-GJ];have:=(KB WH iY To).2.2;omega
   generalize s.prob.t.cases.length=nc,s.prob.a.states.length=ns,s.tab.length=nt,s.ex.length=ne at q1 TQ;have Fx:=aa q1;have TB:=aa (Ap.o X HX.o.ks).2.1;have kK:=aa HX.o.b4;obtain⟨b4,bO⟩:∃ b4,W.heap.size+1=b4:=⟨_,rfl⟩;rw[bO]at t4 f4 kK ⊢;clear hscX q1 q2 GJ To ha f4 t3 Nm
   gi_wp2
   have hS:List.Nodup [24,25,26,27,28,29,30,23,31,32,33,6,7,8]:=by decide
   refine zK 14 [24,25,26,27,28,29,30,23,31,32,33,6,7,8] [MP.eq (.pointer (some ⟨B,0,none⟩)),MP.eq (.pointer (some ⟨B,0,none⟩)),MP.eq (.pointer (some ⟨B,0,none⟩)),MP.eq (.agg #[.int .i64 s.prob.t.n,.int .i64 s.prob.t.ins,.int .i64 s.prob.t.outs,.slice qc nc kc,.int .i64 s.prob.a.n,.slice qs ns ks,.int .i64 s.prob.rounds,.int .i64 s.n,.slice qt nt kt,.slice qe ne ke]),MP.eq (.int .i64 a),MP.eq (.int .i64 e),Tj X.heap.size (⟨a,-1⟩ :: path),Tj X.heap.size (⟨a,-1⟩ :: path),V9 X.heap.size (⟨a,-1⟩ :: path),MP.eq (.bool true),MP.eq (.int .i64 0),V9 X.heap.size (⟨a,-1⟩ :: path),MP.eq (.bool true),MP.eq (.int .i64 0)] (by kernel_rfl) rfl hS rfl (by kernel_rfl) (fun ⟨_,_,h⟩=>h) (by kernel_rfl) ?step ?tail
   case step=>
    intro xq Wq iq oq sq F hi ho hs hB ar hF;rcases (show iq=0\/iq=1\/iq=2\/iq=3\/iq=4\/iq=5\/iq=6\/iq=7\/iq=8\/iq=9\/iq=10\/iq=11\/iq=12\/iq=13 by omega) with rfl|rfl|rfl|rfl|rfl|rfl|rfl|rfl|rfl|rfl|rfl|rfl|rfl|rfl
    all_goals (obtain rfl:=dE ho.symm;obtain rfl:=dE hs.symm;clear hi ho hs)
    ·obtain⟨g1,h1⟩:=dr hF 1 (.pointer (some ⟨bx,0,none⟩)) (by decide) rfl;have tb:=ak hB TB.o;clear hF ar
     go_wp2_with fail
     exact bA.mk _ (Below.refl _ _) rfl rfl
    ·obtain⟨e0,f0⟩:=aW hF 0 24 _ hS rfl (by kernel_rfl) (ar ⟨0,.data⟩ (by simp) rfl);clear hF ar
     go_wp2_with fail
     exact bA.mk _ (Below.refl _ _) rfl rfl
    ·obtain⟨e1,f1⟩:=aW hF 1 25 _ hS rfl (by kernel_rfl) (ar ⟨1,.data⟩ (by simp) rfl);clear hF ar
     go_wp2_with fail
     exact bA.mk _ (Below.refl _ _) rfl rfl
    ·obtain⟨e2,f2⟩:=aW hF 2 26 _ hS rfl (by kernel_rfl) (ar ⟨2,.data⟩ (by simp) rfl);have tb:=ab (af hB Fx.o);clear hF ar
     go_wp2_with fail
     exact bA.mk _ (Below.refl _ _) rfl rfl
    ·obtain⟨g4,h4⟩:=dr hF 4 (.pointer (some ⟨b4,0,none⟩)) (by decide) rfl;have tb:=ab (af hB kK.o) 0;simp only[List.getElem?_toArray,List.getElem?_cons_zero]at tb;clear hF ar
     go_wp2_with fail
     exact bA.mk _ (Below.refl _ _) rfl rfl
    ·obtain⟨g5,h5⟩:=dr hF 5 (.int .i64 e) (by decide) rfl;clear hF ar
     go_wp2_with fail
     exact bA.mk _ (Below.refl _ _) rfl rfl
    ·obtain⟨e3,f3⟩:=aW hF 3 27 _ hS rfl (by kernel_rfl) (ar ⟨3,.data⟩ (by simp) rfl);obtain⟨e4,f4⟩:=aW hF 4 28 _ hS rfl (by kernel_rfl) (ar ⟨4,.data⟩ (by simp) rfl);obtain⟨e5,f5⟩:=aW hF 5 29 _ hS rfl (by kernel_rfl) (ar ⟨5,.data⟩ (by simp) rfl);clear hF ar
     go_wp2_with fail
     refine(TQ.o Wq hB).mono ?_;rintro r w9 ⟨u9,rfl,⟨hl9,jy⟩,fi⟩;have HL9:=aa hl9;have nr:=aa (fun k hk=>Nat.le_trans hB.size (jy k hk));clear hl9 jy
     go_wp2_with fail
     exact bA.mk _ fi ⟨_,rfl,HL9.o,nr.o⟩ rfl
    ·have d6:=ar ⟨6,.data⟩ (by simp) rfl;obtain⟨u6,eu6,Qo,QQ⟩:=d6;obtain⟨e6,f6⟩:=aW hF 6 30 _ hS rfl (by kernel_rfl) eu6;clear hF ar
     go_wp2_with fail
     exact bA.mk _ (Below.refl _ _) ⟨_,rfl,Qo,QQ⟩ rfl
    ·have d7:=ar ⟨7,.data⟩ (by simp) rfl;obtain⟨u6,eu6,Qo,QQ⟩:=d7;obtain⟨e7,f7⟩:=aW hF 7 23 _ hS rfl (by kernel_rfl) eu6;clear hF ar
     go_wp2_with fail
     exact bA.mk _ (Below.refl _ _) ⟨Qo,QQ⟩ rfl
    ·have d7:=ar ⟨7,.data⟩ (by simp) rfl;obtain⟨u6,eu6,Qo,QQ⟩:=d7;obtain⟨e7,f7⟩:=aW hF 7 23 _ hS rfl (by kernel_rfl) eu6;clear hF ar
     go_wp2_with fail
     exact bA.mk _ (Below.refl _ _) rfl rfl
    ·have d7:=ar ⟨7,.data⟩ (by simp) rfl;obtain⟨u6,eu6,Qo,QQ⟩:=d7;obtain⟨e7,f7⟩:=aW hF 7 23 _ hS rfl (by kernel_rfl) eu6;clear hF ar
     go_wp2_with fail
     exact bA.mk _ (Below.refl _ _) rfl rfl
    ·have d8:=ar ⟨8,.data⟩ (by simp) rfl;obtain⟨e8,f8⟩:=aW hF 8 31 _ hS rfl (by kernel_rfl) rfl;clear hF ar
     go_wp2_with fail
     exact bA.mk _ (Below.refl _ _) d8 rfl
    ·obtain⟨e9,f9⟩:=aW hF 9 32 _ hS rfl (by kernel_rfl) (ar ⟨9,.data⟩ (by simp) rfl);clear hF ar
     go_wp2_with fail
     exact bA.mk _ (Below.refl _ _) rfl rfl
    ·obtain⟨e10,f10⟩:=aW hF 10 33 _ hS rfl (by kernel_rfl) (ar ⟨10,.data⟩ (by simp) rfl);clear hF ar
     go_wp2_with fail
     exact bA.mk _ (Below.refl _ _) rfl rfl
   case tail=>
    clear hS;intro xq Wq F hB aT hF;have d11:bJ Wq (xq 11) (⟨a,-1⟩ :: path)/\∀ k,(xq 11).ownBlock=some k->X.heap.size<=k:=aT 11 (by omega);have d12:xq 12=.bool true:=aT 12 (by omega);have d13:xq 13=.int .i64 0:=aT 13 (by omega);clear aT;obtain⟨qj,bg⟩:=d11;obtain⟨pu,cu,eu,lu1,lu2,el⟩:=qj.at;obtain⟨g,o,rfl,tt⟩:=el 0 (by simp);rw[eu]at qj bg;simp only[bC,da,List.setIfInBounds_toArray,List.set_cons_succ,List.set_cons_zero,Nat.reduceAdd]at hF;rw[eu,d12,d13]at hF;generalize xq 0=s0,xq 1=s1,xq 2=s2,xq 3=s3,xq 4=s4,xq 5=s5,xq 6=s6,xq 7=s7,xq 8=s8,xq 9=s9,xq 10=s10 at hF;subst hF;have hgX:=bg g rfl;have hgW:g<Wq.heap.size:=fk tt.1.1;have FO:(⟨a,-1⟩ :: path:List Lk).length=path.length+1:=by simp
    rw[FO]at qj lu1 lu2 ⊢;have it:=aa qj
    have SE:am (gL X Wq T (fun k=>T k\/k=g)):=aa ⟨fun k hk=>.inl hk,fun k hk=>by
     rcases hk with hk|rfl
     ·exact .inl hk
     ·exact .inr ⟨hgX,hgW⟩⟩
    have HQ:=aa (HX.o.grow HJ.o IJ hB SE.o);have ff:am (Bod U.heap.size (fun k=>k<w0.heap.size\/k=c1\/k=c1+1) X Wq):=aa (Bod.of_below (fun k hk=>by have:=ju.o;rcases hk with hk|rfl|rfl<;>omega) hB);clear qj bg d12 d13 eu el tt hB FO;have hmin:min (1:Int) ((path.length:Int)+1)=1:=by omega
    subst bO;have rI:cu=1->path.length=0:=fun h=>by omega
    have HJ2:=aa HQ.o.j;generalize hgT:(fun k=>T k\/k=g)=T2 at HQ HJ2 SE;have Xu:am (T2 g):=aa (by rw[<-hgT];exact .inr rfl);clear hgT SE HJ2 t4 TB Fx kK HX TQ
    have HELT:am (∀ k (hk:k<path.length),Wq.cell? ⟨g,o+2+k * 2,none⟩=some (.int .i64 (path[k]).x)/\Wq.cell? ⟨g,o+2+k * 2+1,none⟩=some (.int .i64 (path[k]).p)):=aa (fun k hk=>by
     obtain⟨pl9,cl9,e9,_,_,el9⟩:=it.o.at;injection e9 with e9
     obtain⟨b9,o9,e8,h8⟩:=el9 (k+1) (by simp;omega);rw[<-e9]at e8;injection e8 with e8
     injection e8 with e7 e6
     subst e7 e6;rw[show o+(k+1) * 2=o+2+k * 2 by omega]at h8
     exact⟨h8.1.1,h8.2.1⟩)
    obtain⟨m,hm⟩:∃ m,path.length=m:=⟨_,rfl⟩;have HM:=aa hm;rw[hm]at hmin rI lu1 hplen ⊢;clear hm it
    gi_wp2
    case' inl=>have hcu0:m=0:=by omega
    case' inr=>have hcu0:True:=trivial
    all_goals
     gi_loopw [40] (fun k wr=>∃ (k':Nat) (d:List Lk),k'<=m/\k=.int .i64 k'/\gG s mem=d++(path.drop k'++mx s mem (i+1))/\SlS J S w W yl c1 B x d.length a T2 wr/\Bod U.heap.size (fun k=>k<w0.heap.size\/k=c1\/k=c1+1) X wr/\wr.heap[g]?=Wq.heap[g]?) (fun k _=>m - (intOf k).toNat)
     ·exact⟨0,dl,by omega,rfl,by rw[HWY.o,gt.o];rfl,HQ.o,ff.o,rfl⟩
     ·
      obtain⟨k,d,hk,rfl,hd,hq,ng,UG⟩:=hrel;have HD:=aa hd;have xb:=aa hq;have aY:=aa ng;have AR:=aa UG;clear hd hq ng UG;by_cases aB:k<m
      ·first
        | (exfalso;omega)
        | (
      have FL:k<path.length:=by rw[HM.o];exact aB
      have c0:=HELT.o k FL;have eM:∀ o',wr.cell? ⟨g,o',none⟩=Wq.cell? ⟨g,o',none⟩:=fun o'=>by unfold World.cell?;rw[AR.o]
      rw[<-eM,<-eM]at c0;have yU:am (gG s mem=d++path[k] :: (path.drop (k+1)++mx s mem (i+1))):=aa (by rw[HD.o,List.drop_eq_getElem_cons FL];rfl);generalize path[k]=y at c0 yU;obtain⟨yx,yp⟩:=y;obtain⟨cx,cp⟩:=c0;dsimp only at cx cp;have AC:Below wr.heap.size wr (wr.alloc (.cells #[.int .i64 yx,.int .i64 yp] 75)):=by go_grown
      have sd:=aa (xb.o.grow HJ.o IJ AC (gL.refl _ _ _));have t3':∀ o',(wr.alloc o').cell? ⟨W.heap.size,0,none⟩=some (.func (.yield yl) #[] #[]):=fun o'=>(ab (aq o' xb.o.b3) 0).trans rfl
      obtain⟨fn,tmps,assign,body,oW,hR⟩:=AJ.o d ⟨yx,yp⟩ _ T2 (wr.alloc (.cells #[.int .i64 yx,.int .i64 yp] 75)) yU.o sd.o.j sd.o.sz;have HR:=aa hR;have Fw:am (Bod U.heap.size (fun k=>k<w0.heap.size\/k=c1\/k=c1+1) X (wr.alloc (.cells #[.int .i64 yx,.int .i64 yp] 75))):=aa (aY.o.trans (Bod.of_below (fun k hk=>by have:=aC xb.o.x2;have:=xb.o.sz;rcases hk with hk|rfl|rfl<;>omega) AC));have HGA:am ((wr.alloc (.cells #[.int .i64 yx,.int .i64 yp] 75)).heap[g]?=Wq.heap[g]?):=aa ((AC.block g (xb.o.tb g Xu.o).2).trans AR.o);clear hR eM AC
      gi_wp2
      refine⟨rfl,wM (HR.o.mono ?_)⟩;rintro r W9 ⟨oP,(⟨rfl,FL,P9⟩|⟨rfl,i9,P2,Sq⟩)⟩
      ·have AV:=And.intro oP.1 (And.intro FL oP.2);have fG:=aa (Fw.o.trans (eW.o T2 _ W9 sd.o.t.2.2 (aC sd.o.x2) (by have:=sd.o.sz;omega) AV));have HP9:=aa (sd.o.next IJ AV.1 AV.2.1 P9);have Qz:=aa ((AV.2.1 g (.inl Xu.o) (sd.o.tb g Xu.o).2).trans HGA.o);clear AV oP FL P9 HR oW t3' cx cp
       gi_wp2
       go_roundw
       ·exact⟨k+1,d++[⟨yx,yp⟩],by omega,by go_num,by rw[yU.o,List.append_cons],HP9.o,fG.o,Qz.o⟩
       ·simp[intOf];omega
      ·have fG:=aa (Fw.o.out.trans ⟨oP.1,fun k o hk ho hc=>oP.2 k o (by omega) ho hc⟩);have QM:W.heap.size<=W9.heap.size:=Nat.le_trans sd.o.sz oP.1;clear oP HR oW t3' cx cp AJ
       gi_wp2
       exact⟨fG.o,rfl,QM,T2,i9,P2,Sq⟩)
      ·obtain rfl:k=m:=by omega
       have HDE:am (gG s mem=d++mx s mem (i+1)):=aa (by rw[HD.o,<-HM.o,List.drop_length];rfl);have HPE:=aa (xb.o.put HJ.o XM ⟨by omega,by omega⟩ e);have QH:=aa (aY.o.trans (Bod.setCell (B:=U.heap.size) (S:=fun k=>k<w0.heap.size\/k=c1\/k=c1+1) wr ⟨W.heap.size+1,0,none⟩ (.int .i64 e) (by dsimp only;omega)));have t4':=ab xb.o.b4 0;have f4':=aH xb.o.b4 0;simp only[List.getElem?_toArray,List.getElem?_cons_zero]at t4'
       gi_wp2
       refine⟨QH.o,d,T2,HDE.o,?_⟩;rw[if_neg (by omega),Nat.add_sub_cancel,TK.o];exact HPE.o
def Wa(vr:List Lk × Bool × Int) (r:Ending) (w':World):Prop:=∃ u,r=.returned (.tuple #[.agg (fM (if vr.2.1 then 1 else 0) u),.bool vr.2.1,.int .i64 vr.2.2])/\bJ w' u vr.1
theorem lr(tmps:Array Value) (B:Nat) (W:World) (k e:Int) (ok:Bool) (u:Value) (h2:tmps[2]?.getD undef=.pointer (some ⟨B,0,none⟩)) (h3:tmps[3]?.getD undef=.pointer (some ⟨B+1,0,none⟩)) (h4:tmps[4]?.getD undef=.pointer (some ⟨B+1+1,0,none⟩))
  (hB:W.heap[B]?=some (.cells (fM k u) 58)) (hC:W.heap[B+1]?=some (.cells #[.bool ok] 4)) (hD:W.heap[B+1+1]?=some (.cells #[.int .i64 e] 39)):(results Tryz.f18 tmps).run Tryz.prog W=.ok (.tuple #[.agg (fM k u),.bool ok,.int .i64 e]) W:=by
 have t2:=ab hB;have t3:=ab hC 0;have t4:=ab hD 0;simp at t3 t4;simp[results,Tryz.results18,go_sem,h2,h3,h4,t2,t3,t4]
theorem nQ{W:World} {B:Nat} {k e e':Int} {ok ok':Bool} {u:Value} (hB:W.heap[B]?=some (.cells (fM k u) 58)) (hC:W.heap[B+1]?=some (.cells #[.bool ok'] 4)) (hD:W.heap[B+1+1]?=some (.cells #[.int .i64 e'] 39)) :
  ((W.setCell ⟨B+1,0,none⟩ (.bool ok)).setCell ⟨B+1+1,0,none⟩ (.int .i64 e)).heap[B]?=some (.cells (fM k u) 58)/\((W.setCell ⟨B+1,0,none⟩ (.bool ok)).setCell ⟨B+1+1,0,none⟩ (.int .i64 e)).heap[B+1]?=some (.cells #[.bool ok] 4)/\((W.setCell ⟨B+1,0,none⟩ (.bool ok)).setCell ⟨B+1+1,0,none⟩ (.int .i64 e)).heap[B+1+1]?=some (.cells #[.int .i64 e] 39):=
 ⟨aO (aO hB (by omega) _ _) (by omega) _ _,aO (aI hC _ _) (by omega) _ _,aI (aO hD (by omega) _ _) _ _⟩
theorem yo(w:World):bJ w (.slice none 0 0) []:=⟨none,0,rfl,⟨by simp,by omega,fun _=>rfl⟩,by simp,fun i x hx=>by simp at hx⟩
theorem sO{w w':World} {v:Value} {l:List Lk} (h:bJ w v l) (hk:∀ b,v.ownBlock=some b->w'.heap[b]?=w.heap[b]?):bJ w' v l:=by
 cases hl:l with
 | nil=>
  subst hl;obtain⟨a,c,e,h1,h2,_⟩:=h;exact⟨a,c,e,h1,h2,fun i x hx=>by simp at hx⟩
 | cons y r=>
  obtain⟨a,c,e,_,_,h3⟩:=h.at;obtain⟨b,o,rfl,_⟩:=h3 0 (by rw[hl];simp);subst e;rw[<-hl];exact kq h (hk b rfl)
def Ed(u0 b8:Nat) (l:List Lk) (T:Nat->Prop) (A:World):Prop:=∃ v,A.heap[b8]?=some (.cells (fM 1 v) 58)/\aJ A u0 75 2 v l.length (cK l)/\∀ g,v.ownBlock=some g->¬ T g
theorem Ed.ch{u0 b8:Nat} {l:List Lk} {T T':Nat->Prop} {A A':World} (h:Ed u0 b8 l T A) (hb:b8<u0) (hc:ChT u0 T A A') (hw:gL A A' T T'):Ed u0 b8 l T' A':=by
 obtain⟨v,h1,h2,h3⟩:=h;refine⟨v,(hc.low _ hb).trans h1,h2.keep fun g o hg ho=>?_,fun g hg ht=>?_⟩
 ·have eM:o.isCells=true:=by
   rcases h2.2 with ⟨e,_⟩|⟨g',_,_,_,e,_,e2,_⟩
   ·rw[e]at hg;cases hg
   ·rw[e]at hg;injection hg with hg
    subst hg;rw[e2]at ho;injection ho with ho
    subst ho;rfl
  exact hc.same g o ho eM (h3 g hg)
 ·rcases hw.2 g ht with h5|h5
  ·exact h3 g hg h5
  ·have:=(h2.lt g hg).2;omega
structure FdI (s:Sys) (w4:World) (u0 b8:Nat) (way:List Lk) (i:Nat) (T:Nat->Prop) (A:World):Prop where
 old:Below w4.heap.size w4 A
 sz:u0<=A.heap.size
 out:Ed u0 b8 (way.take i) T A
 left:A.heap[b8+1]?=some (.cells #[.int .i64 (comM s (cJ (way.take i)):Nat)] 3)
 no:∀ j,j<i->cW s (way.take (j+1))=false
 le:i<=4096
 len:(way.take i).length=i
 tb:∀ k,T k->k<A.heap.size
theorem FdI.ch{s:Sys} {w4:World} {u0 b8 i:Nat} {way:List Lk} {T T':Nat->Prop} {A A':World} (h:FdI s w4 u0 b8 way i T A) (h4:w4.heap.size<=u0) (hb:b8+1<u0) (hc:ChT u0 T A A') (hw:gL A A' T T'):FdI s w4 u0 b8 way i T' A':=
 ⟨hc.below h4 h.old,Nat.le_trans h.sz hc.size,h.out.ch (by omega) hc hw,(hc.low _ (by omega)).trans h.left,h.no,h.le,h.len,fun k hk=>by
  rcases hw.2 k hk with h1|h1
  ·exact Nat.lt_of_lt_of_le (h.tb k h1) hc.size
  ·exact h1.2⟩
structure FdX (w4:World) (u0 b8:Nat) (F:List Lk) (T:Nat->Prop) (A:World):Prop where
 old:Below w4.heap.size w4 A
 sz:u0<=A.heap.size
 out:Ed u0 b8 F T A
 le:F.length<=4096
structure FdY (w:World) (F:List Lk) (A:World):Prop where
 old:Below w.heap.size w A
 r2:A.heap[w.heap.size+1]?=some (.cells (fM 0 (.slice none 0 0)) 58)
 r3:A.heap[w.heap.size+1+1]?=some (.cells #[.bool false] 4)
 r4:A.heap[w.heap.size+1+1+1]?=some (.cells #[.int .i64 17] 39)
 lt:4096<F.length
theorem Fq(s:Sys) (hE:eS s<=256) (vc vs vt ve:Value) (w:World) (hT:iA w) (hs:IsSys w s vc vs vt ve) (hN:movesN s.prob.a.states<1099511627776) :
  Calls Tryz.prog 18 #[.agg (bZ s.prob vc vs s.n vt ve)] w fun r w'=>Wa (findW s) r w'/\Below w.heap.size w w':=by
 have HS:=aa hs;have HT:=aa hT;obtain⟨⟨pc,cc,rfl⟩,⟨ps,cs,rfl⟩,⟨pt,ct,rfl⟩,⟨pe,ce,rfl⟩⟩:=bM hs;clear hs hT;have HC:=aa (fun W (hb:Below w.heap.size w W)=>nN s hE _ _ _ _ W (HS.o.up hb) hN)
 have oV:am (readyE s=0->verifyE s=0/\agreeB s.prob.t=true):=aa fun h=>by
  refine⟨rE h,?_⟩;unfold readyE at h;split at h
  ·rename_i h1;exact absurd h h1
  split at h
  ·assumption
  ·omega
 have dd:am (readyE s≠0->findW s=([],false,readyE s)):=aa fun h=>by unfold findW;rw[if_pos h]
 have eJ:am (readyE s=0->lQ s<0->findW s=([],false,0)):=aa fun h h2=>by unfold findW;rw[if_neg (by omega),if_pos h2]
 have gp:am (readyE s=0->¬ lQ s<0->findW s=if 4096<(kA s).length then([],false,17) else(kA s,true,0)):=aa fun h h2=>by unfold findW;rw[if_neg (by omega),if_neg h2]
 generalize findW s=vr at dd eJ gp ⊢;obtain⟨re,jX⟩:∃ re,readyE s=re:=⟨_,rfl⟩;rw[jX]at dd eJ gp HC oV;clear jX;refine gc Tryz.func18 rfl ?_;simp only[Tryz.ntmps18,List.size_toArray,List.length_cons,List.length_nil,Nat.reduceAdd,Nat.reduceSub,Array.replicate_succ,Array.replicate_zero,List.push_toArray,List.append_toArray,List.nil_append,List.cons_append]
 go_wp2_with fail
 refine aQ (fun W=>Below w.heap.size w W/\W.heap[w.heap.size+1]?=some (.cells (fM 0 (.slice none 0 0)) 58)/\W.heap[w.heap.size+1+1]?=some (.cells #[.bool false] 4)/\W.heap[w.heap.size+1+1+1]?=some (.cells #[.int .i64 0] 39))
  ⟨by go_grown,aq _ (aq _ (bu _ _ _)),aq _ (eD _ _ _ _),by have h:=ap (((w.alloc (.cells (bZ s.prob (.slice pc s.prob.t.cases.length cc) (.slice ps s.prob.a.states.length cs) s.n (.slice pt s.tab.length ct) (.slice pe s.ex.length ce)) 35)).alloc (.cells (fM 0 (.slice none 0 0)) 58)).alloc (.cells #[.bool false] 4)) (.cells #[.int .i64 0] 39);simpa using h⟩ (fun W0 bd=>?_)
 obtain⟨aK,l9,Dt,CJ⟩:=bd;refine(HC.o W0 aK).mono ?_;rintro r w1 ⟨v,rfl,aM,h2,h3⟩;have bL:=aa (ae aK aM);have fZ:=aa (af aM l9);have iX:=aa (af aM Dt);have kK:=aa (af aM CJ);have fT:=aC kK.o;by_cases hr:re=0
 case neg=>
  have HV:=aa (dd.o hr);obtain rfl:=h2 hr;have F4:(re != 0)=true:=by simpa using hr
  clear aK aM h2 h3 hr HC l9 Dt CJ dd eJ gp oV
  go_wp2_with (refine wpList_store_row rfl 58 (.tmp 2) (.tmp 18) rfl (w.heap.size+1) (fM 0 (.slice none 0 0)) rfl rfl 58 _ (aq _ fZ.o) (by kernel_rfl) rfl (by simp[Value.oneCell']) (gQ (fun W=>Below w.heap.size w W/\W.heap[w.heap.size+1]?=some (.cells (fM 0 (.slice none 0 0)) 58)/\W.heap[w.heap.size+1+1]?=some (.cells #[.bool false] 4)/\W.heap[w.heap.size+1+1+1]?=some (.cells #[.int .i64 0] 39)) ⟨below_setRow (bL.o.alloc (by omega) _) (by omega) _,setRow_heap _ _ _ _ _ _ (aq _ fZ.o),by rw[setRow_other _ _ _ _ (by omega)];exact aq _ iX.o,by rw[setRow_other _ _ _ _ (by omega)];exact aq _ kK.o⟩ ?_);intro W2 fg;have cS:=aa fg;clear fg;have t3:=ab cS.o.2.2.1 0;have z3:=aH cS.o.2.2.1 0;have t4:=ab cS.o.2.2.2 0;have z4:=aH cS.o.2.2.2 0;simp at t3 t4)
  obtain⟨y1,y2,y3⟩:=nQ (ok:=false) (e:=re) cS.o.2.1 cS.o.2.2.1 cS.o.2.2.2;have e1:=HV.o;subst e1;exact iu (lr _ (w.heap.size+1) _ 0 re false _ rfl rfl rfl y1 y2 y3) ⟨⟨_,rfl,yo _⟩,(cS.o.1.setCell (by dsimp only;omega) _).setCell (by dsimp only;omega) _⟩
 obtain⟨B,rfl,hB,fU⟩:=h3 hr;have dg:=aa (eJ.o hr);have rL:=aa (gp.o hr);have sT:=aa (oV.o hr).1;have FV:=aa (oV.o hr).2;have dL:=aa (ja sT.o);have HP:=aa (zA sT.o);have jA:=aa fU;subst hr;clear aK aM h2 h3 HC fU l9 Dt CJ dd eJ gp oV;have tb:=fun o j=>ab (aq o fZ.o) j
 go_wp2_with fail
 clear tb;refine aQ (fun W=>Below w1.heap.size w1 W/\W.heap[w1.heap.size]?=some (.cells #[.pointer (some ⟨B,0,none⟩)] 94)) ⟨by go_grown,ap _ _⟩ (fun W1 cO=>?_);have gD:=aa cO.1;have kG:=aa cO.2;clear cO;have JH:=aa (jA.o.up gD.o);have wF:=aa (ae bL.o gD.o);refine(uk s dL.o HP.o hE B W1 JH.o (HT.o.up wF.o)).mono ?_;rintro r w3 ⟨u,rfl,hu,bG⟩;have qn:=aa (wP u (jb s) (-1) w3 hu);obtain⟨pu,cu,rfl,_⟩:=hu.at;have dT:=aa (ae gD.o bG);have Eu:=aa (af bG kG.o);clear hu bG;have QN:am (firstIx (jb s).length (fun i=>decide ((-1:Int)=(jb s).getD i 0))=labI s):=aa rfl;rw[QN.o]at qn;have Uz:=aa (fun h=>RV (s:=s) HP.o h);have FZ:=aa (fun h=>RW (s:=s) HP.o h);obtain⟨cn,Dp⟩:∃ cn,(jb s).length=cn:=⟨_,rfl⟩;rw[Dp]at qn ⊢;clear QN Dp;generalize labI s=lab at qn Uz FZ
 go_wp2_with fail
 refine qn.o.mono ?_;rintro r w4 ⟨rfl,bO⟩;have eV:=aa (ae dT.o bO);have ED:=aa (af bO Eu.o);have yP:=aa (ae bL.o eV.o);have Jz:=aa (af eV.o fZ.o);have Nu:=aa (af eV.o iX.o);have NE:=aa (af eV.o kK.o);clear bO qn dT Eu kG gD JH wF;by_cases Ls:lQ s<0
 ·have aB:=Uz.o Ls;have hd:decide (lab<0)=true:=decide_eq_true aB;have e1:=dg.o Ls;subst e1;clear dg rL Uz FZ aB
  go_wp2_with (refine wpList_store_row rfl 58 (.tmp 2) (.tmp 25) rfl (w.heap.size+1) (fM 0 (.slice none 0 0)) rfl rfl 58 _ Jz.o (by kernel_rfl) rfl (by simp[Value.oneCell']) (gQ (fun W=>Below w.heap.size w W/\W.heap[w.heap.size+1]?=some (.cells (fM 0 (.slice none 0 0)) 58)/\W.heap[w.heap.size+1+1]?=some (.cells #[.bool false] 4)/\W.heap[w.heap.size+1+1+1]?=some (.cells #[.int .i64 0] 39)) ⟨below_setRow yP.o (by omega) _,setRow_heap _ _ _ _ _ _ Jz.o,by rw[setRow_other _ _ _ _ (by omega)];exact Nu.o,by rw[setRow_other _ _ _ _ (by omega)];exact NE.o⟩ ?_);intro W2 fg;have cS:=aa fg;clear fg;have t3:=ab cS.o.2.2.1 0;have z3:=aH cS.o.2.2.1 0;have t4:=ab cS.o.2.2.2 0;have z4:=aH cS.o.2.2.2 0;simp at t3 t4)
  obtain⟨y1,y2,y3⟩:=nQ (ok:=false) (e:=0) cS.o.2.1 cS.o.2.2.1 cS.o.2.2.2;exact iu (lr _ (w.heap.size+1) _ 0 0 false _ rfl rfl rfl y1 y2 y3) ⟨⟨_,rfl,yo _⟩,(cS.o.1.setCell (by dsimp only;omega) _).setCell (by dsimp only;omega) _⟩
 obtain⟨kZ,yy,hleq⟩:=FZ.o (by omega);have hd:decide (lab<0)=false:=decide_eq_false (by omega);have HV:=aa (rL.o (by omega));have rH:am (kA s=nF s (gG s (memL (partsS s) lab))):=aa (by rw[hleq];rfl);have Uw:=aa (Vo dL.o lab);clear dg rL Uz FZ Ls kZ hleq;have QO:=yP.o.size;have tb:=ab ED.o 0;simp at tb;have tb':∀ o o',((w4.alloc o).alloc o').cell? ⟨w1.heap.size,0,none⟩=some (.pointer (some ⟨B,0,none⟩)):=fun o o'=>ak (show Below w4.heap.size w4 ((w4.alloc o).alloc o') by go_grown) tb
 go_wp2_with fail
 refine(PF B lab _).mono ?_;rintro r w5 ⟨rfl,rfl⟩;clear tb tb'
 go_wp2_with fail
 refine bF (fun U=>Below w4.heap.size w4 U/\U.heap.size=w4.heap.size+1+1+1+1/\U.heap[w4.heap.size]?=some (.cells (fM 1 (.slice none 0 0)) 58)/\U.heap[w4.heap.size+1]?=some (.cells #[.int .i64 255] 3)/\U.heap[w4.heap.size+1+1]?=some (.cells #[.pointer (some ⟨B,0,none⟩)] 94)/\U.heap[w4.heap.size+1+1+1]?=some (.cells #[.int .i64 lab] 3))
  ⟨by go_grown,by simp,aq _ (aq _ (aq _ (ap _ _))),aq _ (aq _ (bu _ _ _)),aq _ (eD _ _ _ _),by have h:=ap (((w4.alloc (.cells (fM 1 (.slice none 0 0)) 58)).alloc (.cells #[.int .i64 255] 3)).alloc (.cells #[.pointer (some ⟨B,0,none⟩)] 94)) (.cells #[.int .i64 lab] 3);simpa using h⟩ (fun U hU=>?_)
 obtain⟨tE,yM,sa,mj,yH,JJ⟩:=hU;have HSC4:=aa (jA.o.up eV.o);have dk:=MV s sT.o hE hN B (w4.heap.size+1+1) (w4.heap.size+1+1+1) lab w4 HSC4.o U tE yH JJ;obtain⟨way,Ja⟩:∃ way,gG s (memL (partsS s) lab)=way:=⟨_,rfl⟩;rw[Ja]at dk rH Uw;obtain⟨F,hF⟩:∃ F,kA s=F:=⟨_,rfl⟩;rw[hF]at rH HV;obtain⟨i0,df,cH,cj,cI⟩:=info_parts Tryz.infoLink;have cG:=aa (And.intro df (And.intro cH (And.intro cj cI)))
 have JQ:am (∀ y∈F,bS y.x/\bS y.p):=aa (fun y hy=>by
  rw[rH.o]at hy;obtain⟨h1,h2⟩:=Uw.o y (List.mem_of_mem_take hy);have:=dL.o.n.2.1
  exact⟨⟨by omega,by omega⟩,⟨by omega,by omega⟩⟩)
 have HU:am (FdI s w4 U.heap.size w4.heap.size way 0 (fun _=>False) U):=aa ⟨tE,Nat.le_refl _,⟨_,sa,aJ.nil _ _ _ _,fun g hg=>by cases hg⟩,by rw[List.take_zero,show comM s (cJ [])=255 from A2 s];exact mj,fun j hj=>by omega,by omega,by simp,fun k h=>h.elim⟩;have SO:=aa (fun i T T' A A' (h:FdI s w4 U.heap.size w4.heap.size way i T A) (hc:ChT U.heap.size T A A') (hw:gL A A' T T')=>h.ch (by omega) (by omega) hc hw);have jz:=dL.o.n.2.1;have T5:=dL.o.outs.2.1;clear tE sa mj yH JJ Ja hF df cH cj cI
 refine LX (gf:=89) (lb:=#[.pointer (some ⟨w4.heap.size+1+1,0,none⟩),.pointer (some ⟨w4.heap.size+1+1+1,0,none⟩)]) rfl (enters_of Tryz.func89 (by kernel_rfl) rfl) dk (Below.refl _ _) (fun k hk=>by rcases hk with hk|rfl|rfl<;>omega) (fun i args h=>by rw[h];rfl)
  (FdI s w4 U.heap.size w4.heap.size way)
  (fun c i T A=>(c=.exit 0/\FdX w4 U.heap.size w4.heap.size F T A)\/(c=.ret/\FdY w F A))
  (fun i T T' A A' h hc hw=>SO.o i T T' A A' h hc hw)
  (fun c i T T' A A' h hc hw=>by
   rcases h with ⟨h1,h⟩|⟨h1,h⟩
   ·exact .inl ⟨h1,hc.below (by omega) h.old,Nat.le_trans h.sz hc.size,h.out.ch (by omega) hc hw,h.le⟩
   ·exact .inr ⟨h1,hc.below (by omega) h.old,(hc.low _ (by omega)).trans h.r2,(hc.low _ (by omega)).trans h.r3,(hc.low _ (by omega)).trans h.r4,h.lt⟩)
  HU.o ?rnd ?done ?stop
 case done=>
  intro D T A hD nm hK;have qA:FdX w4 U.heap.size w4.heap.size F T A:=⟨nm.old,nm.sz,by rw[rH.o,KT nm.no];have h:=nm.out;rw[List.take_length]at h;exact h,by rw[rH.o,KT nm.no];exact nm.le⟩;have Ay:am (F.length<=4096):=aa qA.le;clear nm;obtain⟨v,jW,kT,_⟩:=qA.out;have FD:=aC hK;have qj:=sN kT JQ.o (by have:=qA.le;omega);obtain⟨pv,cv,rfl⟩:=kT.slice;have Xt:=aa qA.old;have it:=aa qj;have oA:=aa jW;have Y2:=aa (af qA.old Jz.o);have Y3:=aa (af qA.old Nu.o);have Y4:=aa (af qA.old NE.o);have t8:=ab jW;have KY:=aa hK;have hbU:w.heap.size+1+1+1<D:=by omega
  have iP:am (∀ b,(Value.slice pv F.length cv).ownBlock=some b->U.heap.size<=b):=aa (fun b hb=>(kT.lt b hb).1);have Fz:am (¬ (Value.slice pv F.length cv).ownBlock=some D):=aa (fun e=>kT.isCells hK rfl e.symm);clear jW kT qj dk hK qA
  go_wp2_with (refine wpList_store_row rfl 58 (.tmp 2) (.tmp 54) rfl (w.heap.size+1) (fM 1 (.slice pv F.length cv)) rfl rfl 58 _ Y2.o (by kernel_rfl) rfl (by simp[Value.oneCell']) (gQ (fun W=>(Below w.heap.size w W/\bJ W (.slice pv F.length cv) F/\W.heap[D]?=some (.deferred (some [])))/\W.heap[w.heap.size+1]?=some (.cells (fM 1 (.slice pv F.length cv)) 58)/\W.heap[w.heap.size+1+1]?=some (.cells #[.bool false] 4)/\W.heap[w.heap.size+1+1+1]?=some (.cells #[.int .i64 0] 39)) ⟨⟨below_setRow (ae yP.o Xt.o) (by omega) _,sO it.o (fun b hb=>by rw[setRow_other _ _ _ _ (by have:=iP.o b hb;omega)]),by rw[setRow_other _ _ _ _ (by omega)];exact KY.o⟩,setRow_heap _ _ _ _ _ _ Y2.o,by rw[setRow_other _ _ _ _ (by omega)];exact Y3.o,by rw[setRow_other _ _ _ _ (by omega)];exact Y4.o⟩ ?_);intro W2 fg;have cS:=aa fg;clear fg;have t3:=ab cS.o.2.2.1 0;have z3:=aH cS.o.2.2.1 0;have t4:=ab cS.o.2.2.2 0;have z4:=aH cS.o.2.2.2 0;simp at t3 t4)
  obtain⟨y1,y2,y3⟩:=nQ (ok:=true) (e:=0) cS.o.2.1 cS.o.2.2.1 cS.o.2.2.2;refine iG (aO (aO cS.o.1.2.2 (by omega) _ _) (by omega) _ _) (lr _ (w.heap.size+1) _ 1 0 true _ rfl rfl rfl ((World.putObj_heap_other (by omega)).trans y1) ((World.putObj_heap_other (by omega)).trans y2) ((World.putObj_heap_other (by omega)).trans y3)) ?_;have e1:=HV.o;rw[if_neg (by have:=Ay.o;omega)]at e1;subst e1;refine⟨⟨_,rfl,sO cS.o.1.2.1 (fun b hb=>by have h1:=iP.o b hb;have h2:b≠D:=fun e=>Fz.o (e ▸ hb);rw[World.putObj_heap_other h2,Below.heap_setCell _ _ _ _ (by dsimp only;omega),Below.heap_setCell _ _ _ _ (by dsimp only;omega)])⟩,eT (by omega) ((cS.o.1.1.setCell (by dsimp only;omega) _).setCell (by dsimp only;omega) _)⟩
 case stop=>
  rintro D c i T A hD hi h hK;rcases h with ⟨rfl,qA⟩|⟨rfl,hY⟩
  case inr=>
   have FD:=aC hK
   go_wp2_with fail
   refine iG hK (lr _ (w.heap.size+1) _ 0 17 false _ rfl rfl rfl ((World.putObj_heap_other (by omega)).trans hY.r2) ((World.putObj_heap_other (by omega)).trans hY.r3) ((World.putObj_heap_other (by omega)).trans hY.r4)) ?_;have e1:=HV.o;rw[if_pos hY.lt]at e1;subst e1;exact⟨⟨_,rfl,yo _⟩,eT (by omega) hY.old⟩
  have Ay:am (F.length<=4096):=aa qA.le;obtain⟨v,jW,kT,_⟩:=qA.out;have FD:=aC hK;have qj:=sN kT JQ.o (by have:=qA.le;omega);obtain⟨pv,cv,rfl⟩:=kT.slice;have Xt:=aa qA.old;have it:=aa qj;have oA:=aa jW;have Y2:=aa (af qA.old Jz.o);have Y3:=aa (af qA.old Nu.o);have Y4:=aa (af qA.old NE.o);have t8:=ab jW;have KY:=aa hK;have hbU:w.heap.size+1+1+1<D:=by omega
  have iP:am (∀ b,(Value.slice pv F.length cv).ownBlock=some b->U.heap.size<=b):=aa (fun b hb=>(kT.lt b hb).1);have Fz:am (¬ (Value.slice pv F.length cv).ownBlock=some D):=aa (fun e=>kT.isCells hK rfl e.symm);clear jW kT qj dk hK qA
  go_wp2_with (refine wpList_store_row rfl 58 (.tmp 2) (.tmp 54) rfl (w.heap.size+1) (fM 1 (.slice pv F.length cv)) rfl rfl 58 _ Y2.o (by kernel_rfl) rfl (by simp[Value.oneCell']) (gQ (fun W=>(Below w.heap.size w W/\bJ W (.slice pv F.length cv) F/\W.heap[D]?=some (.deferred (some [])))/\W.heap[w.heap.size+1]?=some (.cells (fM 1 (.slice pv F.length cv)) 58)/\W.heap[w.heap.size+1+1]?=some (.cells #[.bool false] 4)/\W.heap[w.heap.size+1+1+1]?=some (.cells #[.int .i64 0] 39)) ⟨⟨below_setRow (ae yP.o Xt.o) (by omega) _,sO it.o (fun b hb=>by rw[setRow_other _ _ _ _ (by have:=iP.o b hb;omega)]),by rw[setRow_other _ _ _ _ (by omega)];exact KY.o⟩,setRow_heap _ _ _ _ _ _ Y2.o,by rw[setRow_other _ _ _ _ (by omega)];exact Y3.o,by rw[setRow_other _ _ _ _ (by omega)];exact Y4.o⟩ ?_);intro W2 fg;have cS:=aa fg;clear fg;have t3:=ab cS.o.2.2.1 0;have z3:=aH cS.o.2.2.1 0;have t4:=ab cS.o.2.2.2 0;have z4:=aH cS.o.2.2.2 0;simp at t3 t4)
  obtain⟨y1,y2,y3⟩:=nQ (ok:=true) (e:=0) cS.o.2.1 cS.o.2.2.1 cS.o.2.2.2;refine iG (aO (aO cS.o.1.2.2 (by omega) _ _) (by omega) _ _) (lr _ (w.heap.size+1) _ 1 0 true _ rfl rfl rfl ((World.putObj_heap_other (by omega)).trans y1) ((World.putObj_heap_other (by omega)).trans y2) ((World.putObj_heap_other (by omega)).trans y3)) ?_;have e1:=HV.o;rw[if_neg (by have:=Ay.o;omega)]at e1;subst e1;refine⟨⟨_,rfl,sO cS.o.1.2.1 (fun b hb=>by have h1:=iP.o b hb;have h2:b≠D:=fun e=>Fz.o (e ▸ hb);rw[World.putObj_heap_other h2,Below.heap_setCell _ _ _ _ (by dsimp only;omega),Below.heap_setCell _ _ _ _ (by dsimp only;omega)])⟩,eT (by omega) ((cS.o.1.1.setCell (by dsimp only;omega) _).setCell (by dsimp only;omega) _)⟩
 case rnd=>
  rintro yl i T V args hi hl hlV hT rfl iQ;obtain⟨y,hy⟩:∃ y,way.getD i default=y:=⟨_,rfl⟩;have Xg:way[i]=y:=by rw[<-hy];simp[hi]
  obtain⟨⟨je,TC⟩,hyp⟩:=Uw.o way[i] (List.getElem_mem hi);rw[Xg]at je TC hyp;have eF:=aa (RY (s:=s) hi);rw[hy]at eF ⊢;obtain⟨yx,yp⟩:=y;dsimp only at je TC hyp eF;obtain⟨e,he⟩:∃ e:Nat,yx=e:=⟨yx.toNat,by omega⟩;subst he;rw[Int.toNat_natCast]at TC eF;have od:=aa iQ;have HYW:=aa Xg;clear iQ hy Xg dk je
  gi_wp2
  have UA:Below V.heap.size V (V.alloc (.cells #[.int .i64 e,.int .i64 yp] 75)):=by go_grown
  refine⟨Bod.of_below (fun k hk=>hk.2) UA,fun X=>FdI s w4 U.heap.size w4.heap.size way i T X/\X.heap[V.heap.size]?=some (.cells #[.int .i64 e,.int .i64 yp] 75)/\∀ g v,X.heap[w4.heap.size]?=some (.cells (fM 1 v) 58)->v.ownBlock=some g->g<V.heap.size,?_,⟨SO.o _ _ _ _ _ od.o (ChT.of_below od.o.sz UA) (gL.refl _ _ _),ap _ _,fun g v h1 h2=>?_⟩,fun X hX jv=>?_⟩
  ·intro A A' c h;refine⟨SO.o _ _ _ _ _ h.1 (ChT.of_chg c (Nat.le_refl _) h.1.sz) (gL.refl _ _ _),c.same _ _ h.2.1 (.inr rfl),fun g v h1 h2=>?_⟩;obtain⟨v0,h3,_⟩:=h.1.out;have h4:=c.same _ _ h3 (.inr rfl);rw[h1]at h4;have h5:=dE h4;injection h5 with h5
   injection h5 with h5
   simp at h5;exact h.2.2 g v0 h3 (by rw[<-h5];exact h2)
  ·obtain⟨v0,h3,h4,_⟩:=od.o.out;have h6:=af UA h3;rw[h1]at h6;have h5:=dE h6;injection h5 with h5
   injection h5 with h5
   simp at h5;exact(h4.lt g (by rw[<-h5];exact h2)).2
  obtain⟨rlp,jv⟩:=jv;have I0:=aC jv;have hzV:=od.o.sz;clear jv rlp UA od;obtain⟨SS,XV⟩:∃ SS:Nat->Prop,(fun k=>(T k\/k<w4.heap.size\/k=w4.heap.size+1+1\/k=w4.heap.size+1+1+1)/\k<V.heap.size)=SS:=⟨_,rfl⟩;rw[XV];have HSS:am (∀ k,SS k->(T k\/k<w4.heap.size\/k=w4.heap.size+1+1\/k=w4.heap.size+1+1+1)/\k<V.heap.size):=aa (fun k hk=>by rw[<-XV]at hk;exact hk);clear XV;have HX:=aa hX.1;have bW:=aa hX.2.1;have kV:=aC hX.2.1;obtain⟨v,jW,kT,QB⟩:=hX.1.out;rw[hX.1.len]at kT;obtain⟨pv,cv,rfl⟩:=kT.slice;have oA:=aa jW;have dg:=aa kT;have HV3':=aa QB;have t8:=ab jW;have z8:=aH jW;have tb:=ab hX.2.1;have Jo:=fun g h=>hX.2.2 g _ jW h
  have jw:=hX.1.no;have k8:=hX.1.le;by_cases Yb:i=4096
  ·have HLT:am (4096<F.length):=aa (by rw[rH.o,<-Yb];exact RX hi jw);have hdd:((i:Int) == 4096)=true:=by rw[Yb];rfl
   have y2:=af hX.1.old Jz.o;have y3:=af hX.1.old Nu.o;have y4:=af hX.1.old NE.o;have Y2:=aa y2;have Y3:=aa y3;have Y4:=aa y4;clear hX jW kT QB tb jw y2 y3 y4 Jo
   gi_wp2_with (refine xF rfl 58 (.tmp 2) (.tmp 35) rfl (w.heap.size+1) (fM 0 (.slice none 0 0)) rfl rfl 58 _ Y2.o (by kernel_rfl) rfl (by simp[Value.oneCell']) (Gi (fun W=>Bdx U.heap.size X W/\Below w.heap.size w W/\W.heap[w.heap.size+1]?=some (.cells (fM 0 (.slice none 0 0)) 58)/\W.heap[w.heap.size+1+1]?=some (.cells #[.bool false] 4)/\W.heap[w.heap.size+1+1+1]?=some (.cells #[.int .i64 0] 39)) ⟨⟨(below_setRow (Below.refl 0 X) (Nat.zero_le _) _).size,fun k o hk ho hc=>by rw[setRow_other _ _ _ _ (by omega)];exact ho⟩,below_setRow (ae yP.o HX.o.old) (by omega) _,setRow_heap _ _ _ _ _ _ Y2.o,by rw[setRow_other _ _ _ _ (by omega)];exact Y3.o,by rw[setRow_other _ _ _ _ (by omega)];exact Y4.o⟩ ?_);intro W2 fg;have cS:=aa fg;clear fg;have t3:=ab cS.o.2.2.2.1 0;have z3:=aH cS.o.2.2.2.1 0;have t4:=ab cS.o.2.2.2.2 0;have z4:=aH cS.o.2.2.2.2 0;simp at t3 t4)
   obtain⟨q1,q2,q3⟩:=nQ (ok:=false) (e:=17) cS.o.2.2.1 cS.o.2.2.2.1 cS.o.2.2.2.2;exact⟨⟨by simpa using cS.o.1.size,fun k o hk ho hc=>aO (aO (cS.o.1.same k o hk ho hc) (by omega) _ _) (by omega) _ _⟩,.inr ⟨rfl,(cS.o.2.1.setCell (by dsimp only;omega) _).setCell (by dsimp only;omega) _,q1,q2,q3,HLT.o⟩⟩
  ·have hi5:i<4096:=by omega
   have hdd:((i:Int) == 4096)=false:=beq_eq_false_iff_ne.2 (by omega);have HX':=aa hX.1;have Jg:∀ g,(Value.slice pv i cv).ownBlock=some g->g≠V.heap.size:=fun g hg=>by have:=Jo g hg;omega
   have bP:=aa (kT.up ((Below.refl _ X).alloc (Nat.le_refl _) (.cells #[.int .i64 e,.int .i64 yp] 75)));have bE:=aa (dU X [.int .i64 (e:Int),.int .i64 yp] 75);have j9:am (i+1<=maxLen):=aa (by unfold maxLen;omega);have eW:am ((i+1) * 16<=140737488355328):=aa (by omega);have gC:am (U.heap.size<=(X.alloc (.cells #[.int .i64 e,.int .i64 yp] 75)).heap.size):=aa (by have:=HX.o.sz;simp;omega);have hsX:=HX.o.sz;have tbA:∀ o j,(X.alloc o).cell? ⟨V.heap.size,j,none⟩=_:=fun o=>ab (aq o hX.2.1)
   clear hX jW kT QB jw Yb
   gi_wp2_with (gi_at_builtin;(refine qN _ rfl (.tmp 37) (.tmp 39) 54 rfl U.heap.size 75 i0 _ 2 16 Tryz.underlying54 cG.o.1 cG.o.2.1 cG.o.2.2.1 cG.o.2.2.2 rfl (by decide) _ i _ rfl bP.o ⟨X.heap.size,0,none⟩ 1 1 [.int .i64 (e:Int),.int .i64 yp] rfl rfl bE.o (by simp[Value.oneCell']) j9.o eW.o gC.o ?_;intro v4 w6 mB fd JT;obtain⟨av4,cv4,rfl⟩:=mB.slice;have Uk:=sD bP.o fd oA.o (by omega);have c8:=ab Uk;have f8:=aH Uk))
   have Tz:=fd.size;simp only[World.size_alloc]at Tz;obtain⟨W7,tg⟩:∃ W7,W7=w6.setCell ⟨w4.heap.size,1,none⟩ (.slice av4 (i+1) cv4):=⟨_,rfl⟩;rw[<-tg]
   have hkU:∀ k,k<U.heap.size->k≠w4.heap.size->∀ o,X.heap[k]?=some o->W7.heap[k]?=some o:=fun k hk hn o ho=>by
    rw[tg];exact aO (sD bP.o fd ho hk) hn _ _
   have h78:W7.heap[w4.heap.size]?=some (.cells (fM 1 (.slice av4 (i+1) cv4)) 58):=by rw[tg];exact(aI Uk _ _).trans rfl
   have h7r:aJ W7 U.heap.size 75 2 (.slice av4 (i+1) cv4) (i+1) (cK (way.take (i+1))):=by
    rw[tg,List.take_succ_eq_append_getElem hi,HYW.o,nK];exact mB.put (fun g hg e=>by subst e;have:=(mB.lt _ hg).1;omega) _ _
   have Tw:Below w4.heap.size w4 W7:=by rw[tg];exact(B1 HX.o.old (by omega) (by omega) bP.o fd).setCell (by dsimp only;omega) _
   have h7s:W7.heap.size=w6.heap.size:=by rw[tg];simp
   have h7nc:∀ (k:Nat) (o:Obj),X.heap[k]?=some o->o.isCells=false->W7.heap[k]?=some o:=fun k o ho hc=>by
    rw[tg];exact aO (mW bP.o fd ho hc) (fun e=>by subst e;rw[oA.o]at ho;cases ho;cases hc) _ _
   have Xa:∀ k,k<X.heap.size->k≠w4.heap.size->(∀ g,(Value.slice pv i cv).ownBlock=some g->k≠g)->W7.heap[k]?=X.heap[k]?:=fun k h1 h2 h3=>by
    rw[tg,Below.heap_setCell _ _ _ _ h2,fd.block k (by simp;omega) (fun e=>h3 k e.symm rfl)];exact Below.heap_alloc X _ k h1
   have h7b:W7.heap[V.heap.size]?=some (.cells #[.int .i64 e,.int .i64 yp] 75):=(Xa _ kV (by omega) (fun g hg e=>Jg g hg e.symm)).trans bW.o;have As:=hkU _ (by omega) (by omega) _ HX.o.left;have h7sc:=HSC4.o.up Tw;have H78:=aa h78;have H7R:=aa h7r;have H7O:=aa Tw;have H7N:=aa h7nc;have H7K:=aa Xa;have H79:=aa As;obtain⟨qv,kv,t10,ev⟩:=h7sc.val;obtain⟨bv,ov,rfl,tev⟩:=ev e TC;have t5:=ab (af Tw ED.o) 0;have t9:=ab As 0;have z9:=aH As 0;have tl:=ab h7b;simp only[List.getElem?_toArray,List.getElem?_cons_zero]at t5 t9;have lT:bits .and .i64 ((comM s (cJ (way.take i)):Nat):Int) ((ie s e:Nat):Int)=((comM s (cJ (way.take i)) &&& ie s e:Nat):Int):=zV _ _ (by have:=KO s (cJ (way.take i));omega) (by have:=KN s e;omega);rw[<-eF.o]at lT;have HOB4:=aa JT;generalize comM s (cJ (way.take i))=ma,ie s e=mb at t9 tev lT;obtain⟨mc,sW⟩:∃ mc,comM s (cJ (way.take (i+1)))=mc:=⟨_,rfl⟩;rw[sW]at lT;have HMC:=aa sW;clear tg hkU h78 h7r Tw h7nc Xa h7b As h7sc ev sW tb tbA t8 z8 mB fd Uk c8 f8 JT eF;refine ld 10 (fun ⟨_,_,h⟩=>h) (by kernel_rfl) (by kernel_rfl) (by kernel_rfl) (fun ops Lq hops hLq=>?_);simp only[List.take_succ_cons,List.take_zero,List.drop_succ_cons,List.drop_zero]at hLq ⊢;have CN:=aa hLq;clear hLq;have SL:=aa hops;clear hops
   repeat still_step
   refine wpStill_nil ?_;refine CN.o _ ?_;clear t10 tev t5
   go_wp2_with fail
   obtain⟨W8,lz⟩:∃ W8,W8=(W7.setCell ⟨w4.heap.size+1,0,none⟩ (.int .i64 mc)).drew:=⟨_,rfl⟩;rw[<-lz];have h8s:W8.heap.size=W7.heap.size:=by rw[lz];simp
   have QL:∀ k,k≠w4.heap.size+1->W8.heap[k]?=W7.heap[k]?:=fun k hk=>by rw[lz];exact Below.heap_setCell W7 _ _ _ hk
   have Ws:W8.heap[w4.heap.size+1]?=some (.cells #[.int .i64 mc] 3):=by rw[lz];exact(aI (W:=W7) H79.o 0 _).trans rfl
   have h8o:Below w4.heap.size w4 W8:=by rw[lz];exact(H7O.o.setCell (by dsimp only;omega) _).drew
   have h88:=(QL _ (by omega)).trans H78.o;have h8r:aJ W8 U.heap.size 75 2 (.slice av4 (i+1) cv4) (i+1) (cK (way.take (i+1))):=H7R.o.keep fun g o hg ho=>(QL g (by have:=(H7R.o.lt g hg).1;omega)).trans ho
   have h8n:∀ (k:Nat) (o:Obj),X.heap[k]?=some o->o.isCells=false->W8.heap[k]?=some o:=fun k o ho hc=>by
    rw[QL k (fun e=>by subst e;rw[HX.o.left]at ho;cases ho;cases hc)];exact H7N.o k o ho hc
   have NB:(way.take (i+1)).length=i+1:=by rw[List.length_take];omega
   have hnT:∀ g,(Value.slice av4 (i+1) cv4).ownBlock=some g->¬ T g:=fun g hg ht=>by
    rcases HOB4.o with h|h
    ·rw[h]at hg;exact HV3'.o g hg ht
    ·rw[h]at hg;injection hg with hg
     have:=HX.o.tb g ht;simp at hg;omega
   have IV:am (Ed U.heap.size w4.heap.size (way.take (i+1)) T W8):=aa ⟨_,h88,by rw[NB];exact h8r,hnT⟩
   have hZ:am (cW s (way.take (i+1))=decide (mc=0)):=aa (by
    rw[<-HMC.o]
    exact Fj dL.o fun y hy=>(Uw.o y (List.mem_of_mem_take hy)).1.2)
   have XX:X.heap.size<=W8.heap.size:=by omega
   have H89:=aa Ws;have H8O:=aa h8o;have H8N:=aa h8n;have H8K:=aa QL;have qq:=aa NB;have t9':=ab Ws 0;simp only[List.getElem?_toArray,List.getElem?_cons_zero]at t9';clear lz QL Ws h8o h88 h8r h8n hnT t9 z9 lT tl NB CN SL;by_cases uY:mc=0
   ·have HF8:am (F=way.take (i+1)):=aa (by rw[rH.o];exact V1 hi HX'.o.no (by rw[hZ.o,uY];rfl));have hmz:((mc:Int) == 0)=true:=by rw[uY];rfl
    clear uY
    gi_wp2
    exact⟨⟨XX,fun k o _ ho hc=>H8N.o k o ho hc⟩,.inl ⟨rfl,H8O.o,by omega,by rw[HF8.o];exact IV.o,by rw[HF8.o,qq.o];omega⟩⟩
   ·have hmz:((mc:Int) == 0)=false:=beq_eq_false_iff_ne.2 (by omega);have fY:am (cW s (way.take (i+1))=false):=aa (by rw[hZ.o];exact decide_eq_false uY);clear uY
    gi_wp2
    refine⟨⟨XX,fun k hk=>?_,fun k o _ ho hc=>H8N.o k o ho hc⟩,H8O.o,by omega,IV.o,by rw[HMC.o];exact H89.o,aV (p:=fun j=>cW s (way.take (j+1))=false) HX'.o.no fY.o,by omega,qq.o,fun k hk=>Nat.lt_of_lt_of_le (HX.o.tb k hk) XX⟩;obtain⟨ka,mg⟩:=HSS.o k hk
    have bR:k≠w4.heap.size/\k≠w4.heap.size+1:=by
     rcases ka with h|h|h|h
     ·have:=hT k h;omega
     ·omega
     ·omega
     ·omega
    rw[H8K.o k bR.2];refine H7K.o k (by omega) bR.1 fun g hg e=>?_
    subst e;have hgU:=(dg.o.lt k hg).1;rcases ka with h|h|h|h
    ·exact HV3'.o k hg h
    ·omega
    ·omega
    ·omega
theorem wA(k:Int) (a:List Lk) (va vb:Value) (p1 p2 p3 q1 q2 q3:Option Addr) (c1 c2 c3 d1 d2 d3:Nat) (w:World) (ha:bJ w va a) (hb:bJ w vb a) :
  Calls Tryz.prog 20 #[.agg #[.int .i64 k,va,.slice p1 0 c1,.slice p2 0 c2,.slice p3 0 c3],.agg #[.int .i64 k,vb,.slice q1 0 d1,.slice q2 0 d2,.slice q3 0 d3]] w fun r w'=>r=.returned (.bool true)/\Below w.heap.size w w':=by
 have yG:=aa (fun W (h:Below w.heap.size w W)=>MM va vb a a W (ha.up up_link h) (hb.up up_link h));obtain⟨pa,ca,rfl,_,_,_⟩:=ha.at;obtain⟨pb,cb,rfl,_,_,_⟩:=hb.at;rw[decide_eq_true (rfl:a=a)]at yG;generalize a.length=n at yG ⊢;clear ha hb
 go_enter Tryz.func20,Tryz.ntmps20
 go_wp2_with fail
 refine aQ (fun W=>Below w.heap.size w W/\W.heap[w.heap.size]?=some (.cells #[.int .i64 k,.slice pa n ca,.slice p1 0 c1,.slice p2 0 c2,.slice p3 0 c3] 58)/\W.heap[w.heap.size+1]?=some (.cells #[.int .i64 k,.slice pb n cb,.slice q1 0 d1,.slice q2 0 d2,.slice q3 0 d3] 58)) ⟨by go_grown,aq _ (ap _ _),by have h:=ap (w.alloc (.cells #[.int .i64 k,.slice pa n ca,.slice p1 0 c1,.slice p2 0 c2,.slice p3 0 c3] 58)) (.cells #[.int .i64 k,.slice pb n cb,.slice q1 0 d1,.slice q2 0 d2,.slice q3 0 d3] 58);simpa using h⟩ (fun W0 bd=>?_);obtain⟨aK,bK,ni⟩:=bd;refine(yG.o W0 aK).mono ?_;rintro r w1 ⟨rfl,aM⟩;have bL:=aa (ae aK aM);have tA:=ab (af aM bK);have tC:=ab (af aM ni);clear aK bK ni aM yG
 go_wp2_with fail
 go_ret
 exact⟨rfl,bL.o⟩
theorem MW(t:Tk) (vc:Value) (w:World) (hv:bN w vc t.cases) :
  Calls Tryz.prog 79 #[.agg #[.int .i64 t.n,.int .i64 t.ins,.int .i64 t.outs,vc]] w fun e w'=>e=.returned (.bool (agreeB t))/\Below w.heap.size w w':=by
 obtain⟨pc,cc,rfl,l1,m1,e1⟩:=hv.at;clear hv;have E:=aa e1;clear e1
 have fY:am (∀ k j,k<t.cases.length->j<(t.cases.getD k default).out.length->constB ((t.cases.getD k default).out.getD j [])=false->agreeB t=false):=aa fun k j hk hj h=>by
  cases ha:agreeB t with
  | false=>rfl
  | true=>rw[(pY t).1 ha k hk j hj]at h;cases h
 have jS:am ((∀ k,k<t.cases.length->∀ j,j<(t.cases.getD k default).out.length->constB ((t.cases.getD k default).out.getD j [])=true)->agreeB t=true):=aa fun h=>(pY t).2 h
 generalize agreeB t=ag at fY jS
 go_enter Tryz.func79,Tryz.ntmps79
 go_wp2_with fail
 refine bF (fun W=>Below w.heap.size w W/\W.heap[w.heap.size]?=some (.cells #[.int .i64 t.n,.int .i64 t.ins,.int .i64 t.outs,.slice pc t.cases.length cc] 24)) ⟨by go_grown,ap _ _⟩ (fun W0 bd=>?_);have fA:=aa bd.1;have lC:=aa bd.2;clear bd
 go_loopw [3] (fun i wr=>∃ k:Nat,k<=t.cases.length/\i=.int .i64 k/\Below W0.heap.size W0 wr/\∀ q,q<k->∀ j,j<(t.cases.getD q default).out.length->constB ((t.cases.getD q default).out.getD j [])=true) (fun i _=>t.cases.length - (intOf i).toNat)
 ·exact⟨0,by omega,rfl,Below.refl _ _,fun q hq=>by omega⟩
 ·
  obtain⟨k,hk,rfl,aA,aU⟩:=hrel;have H:=aa aU;clear aU;have dG:=ae fA.o aA;have eN:=aa dG;have HBR0:=aa aA;have tA:=ab (af aA lC.o);by_cases aB:k<t.cases.length
  ·obtain⟨b1,o1,rfl,⟨x0,cx0,dp⟩,⟨x1,cx1,dJ⟩,⟨x2,cx2,ed⟩⟩:=E.o k aB;have HG:=aa (az default aB);obtain⟨p1,q1,rfl,wI,Se,ex⟩:=dJ.at;have EX:=aa ex;have D1:=aa cx1;have qo:=aa (fun j=>fY.o k j aB);rw[HG.o]at qo;clear cx0 cx1 cx2 dp dJ ed ex;generalize t.cases[k]=c at D1 EX HG qo wI Se
   go_wp2_with fail
   clear tA;obtain⟨wrA,lN⟩:∃ x,x=wr:=⟨_,rfl⟩;subst lN
   go_loopw [4] (fun i wr=>∃ j:Nat,j<=c.out.length/\i=.int .i64 j/\Below W0.heap.size W0 wr/\∀ q,q<j->constB (c.out.getD q [])=true) (fun i _=>c.out.length - (intOf i).toNat)
   ·exact⟨0,by omega,rfl,HBR0.o,fun q hq=>by omega⟩
   ·
    obtain⟨j,hj,rfl,ng,aU⟩:=hrel;have H2:=aa aU;clear aU;have ff:=aa ng;have bW:=aa (ae fA.o ng);have tA:=ab (af ng lC.o);have d1:=ak bW.o D1.o;by_cases fH:j<c.out.length
    ·obtain⟨b3,o3,rfl,vx,cvx,FE⟩:=EX.o j fH;have dv:=ak bW.o cvx;have CW:=aa (FE.up up_int bW.o);have AA:=aa (az [] fH);rw[Nat.mul_one]at dv;clear cvx FE ng
     go_wp2_with fail
     refine(MN vx _ wr CW.o).mono ?_;rintro e w4 ⟨rfl,bO⟩;have eV:=aa (ae ff.o bO);clear dv bO tA d1;cases hc:constB c.out[j] with
     | false=>
      have HR:=aa (qo.o j fH (by rw[AA.o];exact hc));clear hc
      go_wp2_with fail
      go_ret
      exact⟨aS (by rw[HR.o]),ae fA.o eV.o⟩
     | true=>
      have HN:=aa (aV (p:=fun q=>constB (c.out.getD q [])=true) H2.o (by rw[AA.o];exact hc));clear hc
      go_wp2_with fail
      go_roundw
      ·exact⟨j+1,by omega,by go_num,eV.o,HN.o⟩
      ·simp[intOf];omega
    ·obtain rfl:j=c.out.length:=by omega
     have HN:am (∀ q,q<k+1->∀ j,j<(t.cases.getD q default).out.length->constB ((t.cases.getD q default).out.getD j [])=true):=aa (aV (p:=fun q=>∀ j,j<(t.cases.getD q default).out.length->constB ((t.cases.getD q default).out.getD j [])=true) H.o (by rw[HG.o];exact H2.o));clear ng
     go_wp2_with fail
     go_roundw
     ·exact⟨k+1,by omega,by go_num,ff.o,HN.o⟩
     ·simp[intOf];omega
  ·obtain rfl:k=t.cases.length:=by omega
   have HR:=aa (jS.o fun q hq=>H.o q hq)
   go_wp2_with fail
   go_ret
   exact⟨aS (by rw[HR.o]),eN.o⟩
theorem VA{s:Sys} {e v:Nat} (hv:v<oS s):(valuesS s e).contains (v:Int)=valB s e v:=by
 cases h:valB s e v with
 | true=>
  rw[List.contains_iff_mem];exact List.mem_map.2 ⟨v,List.mem_filter.2 ⟨List.mem_range.2 hv,h⟩,rfl⟩
 | false=>
  cases hc:(valuesS s e).contains (v:Int) with
  | false=>rfl
  | true=>
   rw[List.contains_iff_mem]at hc;obtain⟨y,hy,e1⟩:=List.mem_map.1 hc;have h2:=(List.mem_filter.1 hy).2;have:y=v:=by omega
   rw[this,h]at h2;cases h2
def Yi(l:List Int):MP:=⟨fun x W=>aX W x l,fun _ _ _ h hb=>h.up up_int hb⟩
theorem Kr(s:Sys) (hs:SysOk s) (l:List Nat) (hl:∀ e∈l,e<eS s) (vl vc vs vt ve:Value) (w:World) (dC:IsSys w s vc vs vt ve) (hv:aX w vl (l.map fun e:Nat=>(e:Int))) :
  Calls Tryz.prog 86 #[.agg (bZ s.prob vc vs s.n vt ve),vl] w fun r w'=>r=.returned (.int .i64 (comB s l))/\Below w.heap.size w w':=by
 have HS:=aa dC;obtain⟨⟨qc,kc,rfl⟩,⟨qs,ks,rfl⟩,⟨qt,kt,rfl⟩,⟨qe,ke,rfl⟩⟩:=bM dC;have HOF:=aa (fun e (he:e<eS s) W (hb:Below w.heap.size w W)=>Vi s hs e he _ _ _ _ W (HS.o.up hb));obtain⟨pl,cl,rfl,el⟩:=ef hv;obtain⟨_,_,_,_,cP,_⟩:=hv.at;rw[List.length_map]at el cP ⊢
 have EL:am (∀ i (hi:i<l.length),∃ b o,pl=some ⟨b,o,none⟩/\w.cell? ⟨b,o+i,none⟩=some (.int .i64 (l[i]:Nat))):=aa (fun i hi=>by
  obtain⟨b,o,e1,h1⟩:=el i hi;refine⟨b,o,e1,?_⟩;rw[h1]
  simp[hi])
 have HLM:am (∀ i (hi:i<l.length),l[i]<eS s):=aa (fun i hi=>hl _ (List.getElem_mem hi));have HHV:am (∀ e v,v<oS s->(valuesS s e).contains (v:Int)=valB s e v):=aa (fun e v h=>VA h);have CL:am (∀ v,v<oS s->(∀ j,j<v->l.all (fun e=>valB s e j)=false)->l.all (fun e=>valB s e v)=true->comB s l=v):=aa (fun v h1 h2 h3=>dq (oS s) v _ h1 h2 h3)
 have Nz:am ((∀ j,j<oS s->l.all (fun e=>valB s e j)=false)->comB s l=-1):=aa (fun h=>by
  unfold comB;rcases bH (oS s) (fun v=>l.all fun e=>valB s e v) with ⟨e,_⟩|⟨k,hk,_,h2,_⟩
  ·exact e
  ·rw[h k hk]at h2;cases h2)
 have jR:am (∀ v i (hi:i<l.length),((l.take (i+1)).all fun e=>valB s e v)=(((l.take i).all fun e=>valB s e v)&&valB s l[i] v)):=aa (fun v i hi=>by rw[List.take_succ_eq_append_getElem hi,List.all_append];simp);have Qb:am (∀ v,((l.take l.length).all fun e=>valB s e v)=l.all fun e=>valB s e v):=aa (fun v=>by rw[List.take_length]);have I7:am (∀ v,((l.take 0).all fun e=>valB s e v)=true):=aa (fun v=>by simp);generalize hA:(fun (v i:Nat)=>(l.take i).all fun e=>valB s e v)=A at *;have jR:am (∀ v i (hi:i<l.length),A v (i+1)=(A v i&&valB s l[i] v)):=aa (fun v i hi=>by rw[<-hA];exact jR.o v i hi);have Qb:am (∀ v,A v l.length=l.all fun e=>valB s e v):=aa (fun v=>by rw[<-hA];exact Qb.o v);have I7:am (∀ v,A v 0=true):=aa (fun v=>by rw[<-hA];exact I7.o v);generalize comB s l=r at CL Nz ⊢;have Wz:s.prob.t.outs=(oS s:Int):=by have:=hs.outs;unfold oS at *;omega
 have T5:oS s<=8:=hs.outs.2.1;obtain⟨no,jw⟩:∃ no,oS s=no:=⟨_,rfl⟩;rw[jw]at HHV CL Nz Wz T5;obtain⟨n,hn⟩:∃ n,l.length=n:=⟨_,rfl⟩;have HN:=aa hn;rw[hn]at cP ⊢;have HOS:=aa Wz;clear dC hv el hl hA jw hn Wz
 go_enter Tryz.func86,Tryz.ntmps86
 go_wp2_with fail
 refine bF (fun W=>Below w.heap.size w W/\∃ c,W.heap[w.heap.size]?=some (.cells c 35)/\c=bZ s.prob (.slice qc s.prob.t.cases.length kc) (.slice qs s.prob.a.states.length ks) s.n (.slice qt s.tab.length kt) (.slice qe s.ex.length ke)) ⟨by go_grown,_,ap _ _,rfl⟩ (fun W1 cO=>?_);obtain⟨aM,_,eO,rfl⟩:=cO;have bL:=aa aM;have dP:=aa eO;clear aM eO
 go_loopw [5] (fun i wr=>∃ v:Nat,v<=no/\i=.int .i64 v/\Below W1.heap.size W1 wr/\∀ j,j<v->(l.all fun e=>valB s e j)=false) (fun i _=>no - (intOf i).toNat)
 ·exact⟨0,by omega,rfl,Below.refl _ _,fun j hj=>by omega⟩
 ·
  obtain⟨v,hv,rfl,aA,aU⟩:=hrel;have H:=aa aU;have aY:=aa aA;have tA:=ab (af aA dP.o);clear aU;by_cases aB:v<no
  ·have hd:decide ((v:Int)<s.prob.t.outs)=true:=decide_eq_true (by have:=HOS.o;omega);have HAV:am (A v 0=true):=aa (I7.o v);clear aA
   go_wp2_with fail
   clear tA hd;obtain⟨wrA,lN⟩:∃ x,x=wr:=⟨_,rfl⟩;subst lN
   go_loopw [6,7] (fun a i wr=>∃ k:Nat,k<=n/\i=.int .i64 k/\a=.bool (A v k)/\Below W1.heap.size W1 wr) (fun _ i _=>n - (intOf i).toNat)
   ·exact⟨0,by omega,rfl,by rw[HAV.o],aY.o⟩
   ·
    obtain⟨k,hk,rfl,rfl,IF⟩:=hrel;have Dw:=aa IF;by_cases CS:k<n
    ·have mf:k<l.length:=by rw[HN.o];exact CS
     obtain⟨b1,o1,rfl,c1⟩:=EL.o k mf;have FX:=aa (jR.o v k mf);have iY:=HLM.o k mf;generalize l[k]'mf=e at c1 FX iY;have C1:=aa (ak (ae bL.o IF) c1);have Fx:=aa (af IF dP.o);have oA:=aa (HHV.o e v aB);cases CF:A v k with
     | false=>
      rw[CF]at FX;clear IF c1 CF iY
      go_wp2_with fail
      refine aF (by kernel_rfl) (by kernel_rfl) ?_
      repeat (go_big_quiet_step (fail))
      refine wpQuiet_nil ?_;rintro _ ⟨xq,rfl⟩
      go_wp2_with fail
      go_roundw
      ·exact⟨k+1,by omega,by go_num,by rw[FX.o];rfl,ae Dw.o xq.ext⟩
      ·simp[intOf];omega
     | true=>
      rw[CF]at FX;have Qk:=aa iY;generalize valB s e v=bv at FX oA;generalize s.prob.t.cases.length=nc,s.prob.a.states.length=ns,s.tab.length=nt,s.ex.length=ne at Fx HOF;clear IF c1 CF iY
      go_wp2_with fail
      have hS:List.Nodup [22,23,24,25,26,27,28,29,30,31,32]:=by decide
      refine ge 11 [22,23,24,25,26,27,28,29,30,31,32] [MP.eq (.bool true),MP.eq (.bool true),MP.eq (.agg #[.int .i64 s.prob.t.n,.int .i64 s.prob.t.ins,.int .i64 s.prob.t.outs,.slice qc nc kc,.int .i64 s.prob.a.n,.slice qs ns ks,.int .i64 s.prob.rounds,.int .i64 s.n,.slice qt nt kt,.slice qe ne ke]),MP.eq (.slice (some ⟨b1,o1,none⟩) n cl),MP.eq (.int .i64 k),MP.eq (.pointer (some ⟨b1,o1+k,none⟩)),MP.eq (.int .i64 (e:Nat)),Yi (valuesS s e),MP.eq (.int .i64 v),MP.eq (.bool bv),MP.eq (.bool bv)] (by kernel_rfl) (by simp) hS rfl (by kernel_rfl) (by kernel_rfl) (by kernel_rfl) ?step ?tail
      case step=>
       intro xq Wq iq oq sq F hi ho hs hB ar hF;rcases (show iq=0\/iq=1\/iq=2\/iq=3\/iq=4\/iq=5\/iq=6\/iq=7\/iq=8\/iq=9\/iq=10 by omega) with rfl|rfl|rfl|rfl|rfl|rfl|rfl|rfl|rfl|rfl|rfl
       all_goals (obtain rfl:=dE ho.symm;obtain rfl:=dE hs.symm;clear hi ho hs)
       ·obtain⟨g6,h6⟩:=dr hF 6 (.bool true) (by decide) rfl;clear hF ar
        go_wp2_with fail
        exact bA.mk _ (Below.refl _ _) rfl rfl
       ·obtain⟨e0,f0⟩:=aW hF 0 22 _ hS rfl (by kernel_rfl) (ar ⟨0,.data⟩ (by simp) rfl);clear hF ar
        go_wp2_with fail
        exact bA.mk _ (Below.refl _ _) rfl rfl
       ·obtain⟨g2,h2⟩:=dr hF 2 (.pointer (some ⟨w.heap.size,0,none⟩)) (by decide) rfl;have m1:=fq hF 1 23 (.bool true) hS rfl (by kernel_rfl) (ar ⟨1,.guard⟩ (by simp) rfl);have tb:=ab (af hB Fx.o);clear hF ar
        go_wp2_with fail
        exact bA.mk _ (Below.refl _ _) rfl rfl
       ·obtain⟨g1,h1⟩:=dr hF 1 (.slice (some ⟨b1,o1,none⟩) n cl) (by decide) rfl;have m1:=fq hF 1 23 (.bool true) hS rfl (by kernel_rfl) (ar ⟨1,.guard⟩ (by simp) rfl);clear hF ar
        go_wp2_with fail
        exact bA.mk _ (Below.refl _ _) rfl rfl
       ·obtain⟨g7,h7⟩:=dr hF 7 (.int .i64 k) (by decide) rfl;have m1:=fq hF 1 23 (.bool true) hS rfl (by kernel_rfl) (ar ⟨1,.guard⟩ (by simp) rfl);clear hF ar
        go_wp2_with fail
        exact bA.mk _ (Below.refl _ _) rfl rfl
       ·obtain⟨e3,f3⟩:=aW hF 3 25 _ hS rfl (by kernel_rfl) (ar ⟨3,.data⟩ (by simp) rfl);obtain⟨e4,f4⟩:=aW hF 4 26 _ hS rfl (by kernel_rfl) (ar ⟨4,.data⟩ (by simp) rfl);have m1:=fq hF 1 23 (.bool true) hS rfl (by kernel_rfl) (ar ⟨1,.guard⟩ (by simp) rfl);clear hF ar
        go_wp2_with fail
        exact bA.mk _ (Below.refl _ _) rfl rfl
       ·obtain⟨e5,f5⟩:=aW hF 5 27 _ hS rfl (by kernel_rfl) (ar ⟨5,.data⟩ (by simp) rfl);have m1:=fq hF 1 23 (.bool true) hS rfl (by kernel_rfl) (ar ⟨1,.guard⟩ (by simp) rfl);have tb:=ak hB C1.o;clear hF ar
        go_wp2_with fail
        exact bA.mk _ (Below.refl _ _) rfl rfl
       ·obtain⟨e2,f2⟩:=aW hF 2 24 _ hS rfl (by kernel_rfl) (ar ⟨2,.data⟩ (by simp) rfl);obtain⟨e6,f6⟩:=aW hF 6 28 _ hS rfl (by kernel_rfl) (ar ⟨6,.data⟩ (by simp) rfl);have m1:=fq hF 1 23 (.bool true) hS rfl (by kernel_rfl) (ar ⟨1,.guard⟩ (by simp) rfl);clear hF ar
        go_wp2_with fail
        refine(HOF.o e Qk.o Wq (ae bL.o (ae Dw.o hB))).mono ?_;rintro r w9 ⟨u9,rfl,hu9,fi⟩;have HU9:=aa hu9;clear hu9
        go_wp2_with fail
        exact bA.mk _ fi HU9.o rfl
       ·obtain⟨g5,h5⟩:=dr hF 5 (.int .i64 v) (by decide) rfl;have m1:=fq hF 1 23 (.bool true) hS rfl (by kernel_rfl) (ar ⟨1,.guard⟩ (by simp) rfl);clear hF ar
        go_wp2_with fail
        exact bA.mk _ (Below.refl _ _) rfl rfl
       ·have d7:=ar ⟨7,.data⟩ (by simp) rfl;obtain⟨e8,f8⟩:=aW hF 8 30 _ hS rfl (by kernel_rfl) (ar ⟨8,.data⟩ (by simp) rfl);have m1:=fq hF 1 23 (.bool true) hS rfl (by kernel_rfl) (ar ⟨1,.guard⟩ (by simp) rfl);have d7':aX Wq (xq 7) (valuesS s e):=d7;obtain⟨e7,f7⟩:=aW hF 7 29 _ hS rfl (by kernel_rfl) rfl;clear hF ar
        go_wp2_with fail
        refine(RQ _ (valuesS s e) v Wq d7').mono ?_;rintro r w9 ⟨rfl,rfl⟩;rw[oA.o]
        go_wp2_with fail
        exact bA.mk _ (Below.refl _ _) rfl rfl
       ·obtain⟨e1,f1⟩:=aW hF 1 23 _ hS rfl (by kernel_rfl) (ar ⟨1,.data⟩ (by simp) rfl);obtain⟨e9,f9⟩:=aW hF 9 31 _ hS rfl (by kernel_rfl) (ar ⟨9,.data⟩ (by simp) rfl);clear hF ar
        go_wp2_with fail
        exact bA.mk _ (Below.refl _ _) rfl rfl
      case tail=>
       clear hS;intro xq W3 F hB aT hF;have e11:xq 10=.bool bv:=aT 10 (by omega);clear aT;simp only[bC,da,List.setIfInBounds_toArray,List.set_cons_succ,List.set_cons_zero,Nat.reduceAdd]at hF;rw[e11]at hF;generalize xq 0=s0,xq 1=s1,xq 2=s2,xq 3=s3,xq 4=s4,xq 5=s5,xq 6=s6,xq 7=s7,xq 8=s8,xq 9=s9 at hF;subst hF;have bW:=aa (ae Dw.o hB);clear hB e11;simp only[List.drop_succ_cons,List.drop_zero]
       go_wp2_with fail
       go_roundw
       ·exact⟨k+1,by omega,by go_num,by rw[FX.o];rfl,bW.o⟩
       ·simp[intOf];omega
    ·obtain rfl:k=n:=by omega
     have QI:=aa (Qb.o v);rw[HN.o]at QI;cases CF:A v k with
     | true=>
      have HR:=aa (CL.o v aB H.o (by rw[<-QI.o];exact CF));clear CF IF
      go_wp2_with fail
      go_ret
      exact⟨aG (by rw[HR.o]),ae bL.o Dw.o⟩
     | false=>
      have rM:=aa (aV (p:=fun j=>(l.all fun e=>valB s e j)=false) H.o (by rw[<-QI.o];exact CF));clear CF IF
      go_wp2_with fail
      go_roundw
      ·exact⟨v+1,by omega,by go_num,Dw.o,rM.o⟩
      ·simp[intOf];omega
  ·obtain rfl:v=no:=by omega
   have hd:decide ((v:Int)<s.prob.t.outs)=false:=decide_eq_false (by have:=HOS.o;omega);have HR:=aa (Nz.o H.o);clear aA
   go_wp2_with fail
   go_ret
   exact⟨aG (by rw[HR.o]),ae bL.o aY.o⟩
end Go.Proofs.YtmeaoneaephjeaaGreatDoor
