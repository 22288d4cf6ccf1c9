/-
  A part of the proof: lemmas and contracts that the parts behind it use. Each one's conditions are its own premises.
-/
import Derived.WalkSpells
import Derived.Test.YtkfgpnbpcpdclaaGreatJ4
set_option maxRecDepth 100000
set_option maxHeartbeats 8000000
set_option linter.unusedVariables false
namespace Go.Proofs.YtkfgpnbpcpdclaaGreat
open Go.RowKit Go Go.Shelf
theorem Qt(w:World) (g:Nat) (l:List UInt8) (t:TypeId) (h:w.heap[g]?=some (.cells (l.map gz).toArray t)):(convert 255 9 (.slice (some ⟨g,0,none⟩) l.length l.length)).run Tryz.prog w=.ok (.string (bytesOf l)) w:=
 run_convert_bytes_back w _ _ 5 ⟨g,0,none⟩ l.length l Tryz.underlying255 Tryz.underlying5 Tryz.underlying9 (fun j hj=>by
  have e1:(Addr.add ⟨g,0,none⟩ j)=⟨g,j,none⟩:=by unfold Addr.add;split<;>simp_all
  rw[e1,ae h]
  simp[hj])
theorem JN(k p q sym:Nat) (hk:k<256) (hp:p<256) (hq:q<256) (hs:sym<1099511627776) (w:World) :
  Calls Tryz.prog 117 #[.agg #[.int .i64 (k:Int),.int .i64 (p:Int),.int .i64 (q:Int)],.int .i64 (sym:Int)] w fun e w'=>e=.returned (.string (bytesOf (wP k p q sym)))/\Below w.heap.size w w':=by
 have HM:Hid (wP k p q sym=yn ([UInt8.ofNat k,UInt8.ofNat p,UInt8.ofNat q]++lp sym)):=by exact rfl
 have e1:=jG k hk;have e2:=jG p hp;have e3:=jG q hq;have mf:=wY k hk;have oN:=wY p hp;have Dc:=wY q hq;generalize UInt8.ofNat k=bk at e1 HM;generalize UInt8.ofNat p=bp at e2 HM;generalize UInt8.ofNat q=bq at e3 HM
 have Mz:(convert 255 9 (.slice (some ⟨w.heap.size+1,0,none⟩) 3 3)).run Tryz.prog ((w.alloc (.cells #[.int .i64 (k:Int),.int .i64 (p:Int),.int .i64 (q:Int)] 216)).alloc (.cells #[.int .u8 (k:Int),.int .u8 (p:Int),.int .u8 (q:Int)] 5))=.ok (.string (bytesOf [bk,bp,bq])) ((w.alloc (.cells #[.int .i64 (k:Int),.int .i64 (p:Int),.int .i64 (q:Int)] 216)).alloc (.cells #[.int .u8 (k:Int),.int .u8 (p:Int),.int .u8 (q:Int)] 5)):=by
  refine Qt _ (w.heap.size+1) [bk,bp,bq] 5 ?_;have:([bk,bp,bq].map gz).toArray=#[.int .u8 (k:Int),.int .u8 (p:Int),.int .u8 (q:Int)]:=by rw[<-e1,<-e2,<-e3];rfl
  rw[this];exact aX _ _ _
 have g1:=enters_of Tryz.func184 (P:=Tryz.prog) (by kernel_rfl) rfl;have g2:=enters_of Tryz.func185 (P:=Tryz.prog) (by kernel_rfl) rfl;clear e1 e2 e3
 go_enter Tryz.func117,Tryz.ntmps117
 go_wp2_with fail
 clear Mz mf oN Dc;refine aT (fun W=>Below w.heap.size w W) (by go_grown) (fun W0 aH=>?_);refine(Lt (bytesOf [bk,bp,bq]) (by show (#[bk,bp,bq]:Array UInt8).size<=_;simp) W0).mono ?_;rintro e w1 ⟨B,u,rfl,hB,hu,hbB,aG⟩;have KF:aL w1 W0.heap.size 5 1 u [bk,bp,bq].length ([bk,bp,bq].map gz):=hu;have HB:=aa hB;have HU:=aa KF;clear hB hu KF;have dD:=aj aH aG;have jg:=aG.size
 go_wp2_with fail
 refine aT (fun V=>Below w1.heap.size w1 V/\V.heap[w1.heap.size]?=some (.cells #[.int .i64 (sym:Int)] 3)) ⟨by go_grown,ar _ _⟩ (fun V hV=>?_);obtain⟨fo,hL⟩:=hV;refine(JK sym hs w1.heap.size B W0.heap.size u [bk,bp,bq] (by simp) V hL (ak fo HB.out) (HU.out.up fo) hbB (by have:=fo.size;omega)).mono ?_;rintro e w2 ⟨⟨x,rfl⟩,u',KE,oh,aS⟩;have yf:=aa oh;have dU:Below W0.heap.size W0 w2:=(aG.trans (fo.mono jg)).trans aS;obtain⟨au,cu,rfl⟩:=oh.slice;have oN:=JJ B _ w2 ⟨_,_,_,rfl⟩ KE;have jf:=aa oN;clear oN oh KE hL
 go_wp2_with fail
 refine jf.out.mono ?_;rintro e w3 ⟨rfl,rfl⟩
 go_wp2_with fail
 refine(Lu _ _ W0.heap.size w2 yf.out (by simp) (by have:=Ay sym (by omega);simp;omega) dU.size).mono ?_;rintro e w4 ⟨rfl,bM⟩
 go_wp2_with fail
 go_ret
 exact⟨by rw[HM.out];rfl,aj aH (dU.trans bM)⟩
theorem DB(m:Mac) (n r:Nat) (g:Good m n r) (hc:checkE m=0) (vf vy vt vo:Value) (k p q:Nat) (hk:k<r) (hp:p<n) (hq:q<n) (jQ:p≠q) (w:World) (hf:bF w vf m.first) (hy:eZ w vy m.syms) (ht:dh w vt m.steps) (ho:fj w vo m.out) :
  Calls Tryz.prog 115 #[.agg #[.int .i64 (k:Int),.int .i64 (p:Int),.int .i64 (q:Int)],.agg (bX m vf vy vt vo)] w fun e w'=>e=.returned (.int .i64 0)/\Below w.heap.size w w':=by
 have jK:=aa (fun W (hb:Below w.heap.size w W)=>ln m vf vy vt vo W (hf.up up_ints hb) (hy.up up_v3 hb) (ht.up up_step hb) (ho.up up_vecs hb));rw[hc]at jK;obtain⟨pf,cf,rfl,_⟩:=hf.at;obtain⟨py,cy,rfl,_⟩:=hy.at;obtain⟨pt,ct,rfl,_⟩:=ht.at;obtain⟨po,co,rfl,_⟩:=ho.at;have rO:¬ m.rounds<=(k:Int):=by rw[g.hr];omega
 have IE:¬ m.n<=(p:Int):=by rw[g.hn];omega
 have n9:¬ m.n<=(q:Int):=by rw[g.hn];omega
 have hpq1:¬ (p:Int)=(q:Int):=by omega
 have hpq2:((p:Int) == (q:Int))=false:=by simpa using hpq1
 clear hf hy ht ho g hc
 go_enter Tryz.func115,Tryz.ntmps115
 go_wp2_with fail
 refine aT (fun W=>Below w.heap.size w W/\W.heap[w.heap.size]?=some (.cells #[.int .i64 (k:Int),.int .i64 (p:Int),.int .i64 (q:Int)] 216)/\W.heap[w.heap.size+1]?=some (.cells (bX m (.slice pf m.first.length cf) (.slice py m.syms.length cy) (.slice pt m.steps.length ct) (.slice po m.out.length co)) 35)) ⟨by go_grown,aq _ (ar _ _),aX _ _ _⟩ (fun W0 bd=>?_);obtain⟨aH,hP,hM⟩:=bd;refine(jK.out W0 aH).mono ?_;rintro e w1 ⟨rfl,aG⟩;have t1:=ae (ak aG hP);have t2:=ae (ak aG hM);clear hP hM
 go_wp2_with fail
 go_ret
 exact⟨rfl,aj aH aG⟩
theorem Lv(m:Mac) (n r:Nat) (g:Good m n r) (hc:checkE m=0) (vf vy vt vo:Value) (k p q s:Nat) (hk:k<r) (hp:p<n) (hq:q<n) (jQ:p≠q) (hs:s<(((m.syms.getD k []).getD p []).getD q []).length) (w:World) (hf:bF w vf m.first) (hy:eZ w vy m.syms) (ht:dh w vt m.steps) (ho:fj w vo m.out) :
  Calls Tryz.prog 69 #[.agg (bX m vf vy vt vo),.int .i64 (k:Int),.int .i64 (p:Int),.int .i64 (q:Int),.int .i64 (s:Int)] w fun e w'=>e=.returned (.tuple #[.string (bytesOf (wP k p q (mY m k p q s).toNat)),.int .i64 0])/\Below w.heap.size w w':=by
 have jK:=aa (fun W (hb:Below w.heap.size w W)=>DB m n r g hc vf vy vt vo k p q hk hp hq jQ W (hf.up up_ints hb) (hy.up up_v3 hb) (ht.up up_step hb) (ho.up up_vecs hb));have yj:=g.symr k p q s hk hp hq hs;have kr:=g.n5;have FU:=g.r6;obtain⟨pf,cf,rfl,_⟩:=hf.at;obtain⟨pt,ct,rfl,_⟩:=ht.at;obtain⟨po,co,rfl,_⟩:=ho.at;have FZ:=aa (fun W (hb:Below w.heap.size w W)=>JM m n r g pf m.first.length cf vy pt m.steps.length ct po m.out.length co k p q hk hp hq W (hy.up up_v3 hb));obtain⟨py,cy,rfl,_⟩:=hy.at;have SX:Hid (mY m k p q s=(((m.syms.getD k []).getD p []).getD q []).getD s 0):=by(have h:mY m k p q s=(((m.syms.getD k []).getD p []).getD q []).getD s 0:=by(unfold mY;rw[Int.toNat_natCast]));exact h
 generalize ((m.syms.getD k []).getD p []).getD q []=l at hs yj FZ SX;clear hf hy ht ho g hc
 go_enter Tryz.func69,Tryz.ntmps69
 go_wp2_with fail
 refine aT (fun W=>Below w.heap.size w W/\W.heap[w.heap.size]?=some (.cells (bX m (.slice pf m.first.length cf) (.slice py m.syms.length cy) (.slice pt m.steps.length ct) (.slice po m.out.length co)) 35)/\W.heap[w.heap.size+1]?=some (.cells #[.int .i64 (k:Int),.int .i64 (p:Int),.int .i64 (q:Int)] 216)) ⟨by go_grown,aq _ (ar _ _),aX _ _ _⟩ (fun W0 bd=>?_);obtain⟨aH,hM,hP⟩:=bd;have HM:=aa hM;have HP:=aa hP;clear hM hP;refine(jK.out W0 aH).mono ?_;rintro e w1 ⟨rfl,aG⟩;have t1:=ae (ak aG HM.out);have t2:=ae (ak aG HP.out);have dD:=aj aH aG
 go_wp2_with fail
 refine(FZ.out w1 dD).mono ?_;rintro e w2 ⟨v,rfl,hv,aS⟩;have dU:=aj dD aS;clear t1 t2;obtain⟨pv,cv,rfl,lv1,lv2,ev⟩:=hv.at;obtain⟨b1,o1,rfl,c1,_⟩:=ev s hs;rw[Nat.mul_one]at c1;have HG:=aa (aA 0 hs);rw[aA 0 hs]at yj;obtain⟨sy,VY⟩:∃ sy:Nat,l[s]=sy:=⟨l[s].toNat,by omega⟩;have HSY2:Hid ((mY m k p q s).toNat=sy):=by(have h:(mY m k p q s).toNat=sy:=by(rw[SX.out,HG.out,VY,Int.toNat_natCast]));exact h
 rw[VY]at c1 yj;have q1:∀ y:ExtW w2,∀ o,y.val.cell? ⟨w.heap.size+1,o,none⟩=_:=fun y=>ae (ak (aj (aj aG aS) y.ext) HP.out)
 have q2:∀ y:ExtW w2,y.val.cell? ⟨b1,o1+s,none⟩=_:=fun y=>y.cell c1
 have bE:=aa (show ∀ y:ExtW w2,Calls Tryz.prog 117 #[.agg #[.int .i64 (k:Int),.int .i64 (p:Int),.int .i64 (q:Int)],.int .i64 (sy:Int)] y.val fun e w''=>e=.returned (.string (bytesOf (wP k p q sy)))/\∃ z:ExtW w2,w''=z.val from fun y=>Calls.ext_of (JN k p q sy (by omega) (by omega) (by omega) (by omega) _));clear hv ev c1 VY HG
 go_wp2_with fail
 refine aK (by kernel_rfl) (by kernel_rfl) ?_
 repeat (go_big_quiet_step ((go_at_call 117;with_reducible exact bE.out _)))
 refine wpQuiet_nil ?_;intro _ bV;obtain⟨xq,bC⟩:=bV;subst bC;clear q1 q2
 go_wp2_with fail
 go_ret2
 exact⟨by rw[HSY2.out];rfl,aj dU xq.ext⟩
theorem k7{α:Type} (c:α->Array Value) (k:Nat) (hc:∀ x,(c x).size=k) (xs:List α) (i j:Nat) (hi:i<xs.length) (hj:j<k):(xs.flatMap fun x=>(c x).toList)[i * k+j]?=(c xs[i])[j]?:=by
 induction xs generalizing i with
 | nil=>simp at hi
 | cons x r ih=>
  rw[List.flatMap_cons];have hx:(c x).toList.length=k:=by rw[Array.length_toList,hc]
  cases i with
  | zero=>
   rw[List.getElem?_append_left (by omega)];simp
  | succ i=>
   rw[List.getElem?_append_right (by rw[hx,Nat.succ_mul];omega)];have:=ih i (by simpa using hi);simp only[List.getElem_cons_succ];rw[<-this,hx];congr 1;rw[Nat.succ_mul];omega
def bi(xs:List Rd):List Value:=xs.flatMap fun r=>r.c.toList
theorem ge(xs:List Rd):(bi xs).length=xs.length * 7:=by
 unfold bi;induction xs with
 | nil=>rfl
 | cons x r ih=>rw[List.flatMap_cons,List.length_append,ih];simp;omega
theorem sd(xs:List Rd):∀ u∈bi xs,u.oneCell'=true:=by
 intro u hu;unfold bi at hu;rw[List.mem_flatMap]at hu;obtain⟨r,_,hr⟩:=hu;simp at hr;rcases hr with rfl|rfl|rfl|rfl|rfl|rfl|rfl<;>rfl
theorem Nr{w:World} {v:Value} {l:List Rd} (h:bN w v l) (j:Nat) (u:Value) (hu:(bi l)[j]?=some u):∃ b o c,v=.slice (some ⟨b,o,none⟩) l.length c/\w.cell? ⟨b,o+j,none⟩=some u:=by
 have hj:=(List.getElem?_eq_some_iff.1 hu).1;rw[ge]at hj;obtain⟨i,s,hs,rfl⟩:∃ i s,s<7/\j=i * 7+s:=⟨j / 7,j % 7,by omega,by omega⟩;have hi:i<l.length:=by omega
 unfold bi at hu;rw[k7 Rd.c 7 (fun _=>rfl) l i s hi hs]at hu;obtain⟨a,cap,rfl,_,_,e⟩:=h.at;obtain⟨b,o,rfl,⟨c0,_⟩,⟨c1,_⟩,⟨c2,_⟩,⟨c3,_⟩,⟨c4,_⟩,⟨c5,_⟩,⟨c6,_⟩⟩:=e i hi;refine⟨b,o,cap,rfl,?_⟩;rw[<-Nat.add_assoc];rcases (show s=0\/s=1\/s=2\/s=3\/s=4\/s=5\/s=6 by omega) with rfl|rfl|rfl|rfl|rfl|rfl|rfl<;>(simp at hu;subst hu;first|exact c0|exact c1|exact c2|exact c3|exact c4|exact c5|exact c6)
theorem lw{w:World} {base:Nat} {v:Value} {l:List Rd} (h:aL w base 52 7 v l.length (bi l)) (hx:∀ i (hi:i<l.length),bK l[i].g.n/\bK l[i].g.h0/\bK l[i].g.h1/\bK l[i].g.h2/\bK l[i].g.h3/\bK l[i].g.h4/\bK l[i].f) (hn:l.length<=17592186044416):bN w v l:=by
 have aM:=fun i (hi:i<l.length) j (u:Value) (hj:j<7) (hu:l[i].c[j]?=some u)=>h.cell (i * 7+j) u (by unfold bi;rw[k7 Rd.c 7 (fun _=>rfl) l i j hi hj];exact hu)
 rcases h.2 with ⟨rfl,hz⟩|⟨g,cap,cur,fz,rfl,_,hg,_,kj,fg,_,_⟩
 ·refine⟨none,0,by rw[hz],⟨by omega,by omega,fun _=>rfl⟩,hn,fun i x hi=>?_⟩
  have:=(List.getElem?_eq_some_iff.1 hi).1;omega
 ·refine⟨some ⟨g,0,none⟩,cap,rfl,⟨kj,by simp only[maxLen]at fg;omega,fun e=>by cases e⟩,hn,fun i x hi=>⟨g,0,rfl,?_⟩⟩
  obtain⟨dI,rfl⟩:=List.getElem?_eq_some_iff.1 hi;obtain⟨r0,r1,r2,r3,r4,r5,r6⟩:=hx i dI
  have key:∀ j u,j<7->l[i].c[j]?=some u->w.cell? ⟨g,0+i * 7+j,none⟩=some u:=fun j u hj hu=>by
   obtain⟨g',c',e1,e2⟩:=aM i dI j u hj hu;have:g=g':=by simp at e1;exact e1.1
   rw[this,Nat.zero_add];exact e2
  exact⟨⟨key 0 _ (by omega) rfl,r0⟩,⟨key 1 _ (by omega) rfl,r1⟩,⟨key 2 _ (by omega) rfl,r2⟩,⟨key 3 _ (by omega) rfl,r3⟩,⟨key 4 _ (by omega) rfl,r4⟩,⟨key 5 _ (by omega) rfl,r5⟩,⟨key 6 _ (by omega) rfl,r6⟩⟩
theorem Tryz.infoRound:(Tryz.prog.info? 52).map (fun i=>(i.zero,i.size,i.bytes))=some (some (.agg #[.int .i64 0,.int .i64 0,.int .i64 0,.int .i64 0,.int .i64 0,.int .i64 0,.int .i64 0]),7,56):=by kernel_rfl
end Go.Proofs.YtkfgpnbpcpdclaaGreat
namespace Go.Proofs.YtkfgpnbpcpdclaaGreat
open Go.RowKit Go Go.Shelf
attribute [local go_sem] Oper.semAt_some
theorem pB.conv{P:Program} {g:Nat} {lb:Array Value} {E E':Nat->Array Value->(Nat->Prop)->World->Prop} {N:Nat} {S:Nat->Prop} {w:World} (h:pB P g lb E N S w) (hE:∀ i args T W,i<N->E i args T W->E' i args T W):pB P g lb E' N S w:=by
 intro l J Jx W hW hl hJ kT hY h0;exact h l J Jx W hW hl hJ kT (fun i T W1 args hi he hj=>hY i T W1 args hi (hE i args T W1 hi he) hj) h0
theorem Qu(xs:List Msg) (i j:Nat) (hi:i<xs.length) (hj:j<4):(kI xs)[i * 4+j]?=xs[i].c[j]?:=by
 unfold kI;induction xs generalizing i with
 | nil=>simp at hi
 | cons x r ih=>
  rw[List.flatMap_cons];cases i with
  | zero=>
   rw[List.getElem?_append_left (by simp;omega)];simp
  | succ i=>
   rw[List.getElem?_append_right (by simp;omega)];have:=ih i (by simpa using hi);simp only[List.getElem_cons_succ];rw[<-this];congr 1;simp;omega
theorem G8{w:World} {base:Nat} {v:Value} {xs:List Msg} (h:aL w base 165 4 v xs.length (kI xs)) (hx:∀ x∈xs,bK x.rd/\bK x.fr/\bK x.to/\x.bs.size<=140737488351232) (hn:xs.length<=17592186044416):Bh w v xs:=by
 have aM:=fun i (hi:i<xs.length) j (u:Value) (hj:j<4) (hu:xs[i].c[j]?=some u)=>h.cell (i * 4+j) u (by rw[Qu xs i j hi hj];exact hu)
 rcases h.2 with ⟨rfl,hz⟩|⟨g,cap,cur,fz,rfl,_,hg,_,kj,fg,_,_⟩
 ·refine⟨none,0,by rw[hz],⟨by omega,by omega,fun _=>rfl⟩,hn,fun i x hi=>?_⟩
  have:=(List.getElem?_eq_some_iff.1 hi).1;omega
 ·refine⟨some ⟨g,0,none⟩,cap,rfl,⟨kj,by simp only[maxLen]at fg;omega,fun e=>by cases e⟩,hn,fun i x hi=>⟨g,0,rfl,?_⟩⟩
  obtain⟨dI,rfl⟩:=List.getElem?_eq_some_iff.1 hi;obtain⟨r1,r2,r3,r4⟩:=hx _ (List.getElem_mem dI)
  have key:∀ j u,j<4->xs[i].c[j]?=some u->w.cell? ⟨g,0+i * 4+j,none⟩=some u:=fun j u hj hu=>by
   obtain⟨g',c',e1,e2⟩:=aM i dI j u hj hu;have:g=g':=by simp at e1;exact e1.1
   rw[this,Nat.zero_add];exact e2
  exact⟨⟨key 0 _ (by omega) rfl,r1⟩,⟨key 1 _ (by omega) rfl,r2⟩,⟨key 2 _ (by omega) rfl,r3⟩,key 3 _ (by omega) rfl,r4⟩
def Ns(x:Nat × Nat × Nat):Msg:=⟨x.1,x.2.1,x.2.2,⟨#[]⟩⟩
theorem za{n:Nat} {word:List Rd} {x:Nat × Nat × Nat} (h:x∈gd n word):x.1<word.length/\x.2.1<n/\x.2.2<n:=by
 unfold gd dv iA at h;rw[List.mem_filterMap]at h;obtain⟨j,hj,hx⟩:=h;rw[List.mem_range]at hj;unfold tN at hx;split at hx
 ·rename_i hc
  cases hx
  exact⟨by dsimp only;omega,hc.1,hc.2.1⟩
 ·cases hx
theorem zc(n:Nat) (word:List Rd):(gd n word).length<=word.length * 25:=by
 unfold gd dv iA;exact Nat.le_trans (List.length_filterMap_le _ _) (by simp)
theorem rr(b:ByteArray) (i:Nat):0<=byteI b i/\byteI b i<256:=by
 unfold byteI;have:=Kj (b.data.toList.getD i 0);omega
theorem wZ(b:ByteArray) (q:Nat) (_h:q<=b.size):(b.extract 0 q).data.toList=b.data.toList.take q:=by
 simp[ByteArray.extract,ByteArray.copySlice]
theorem G9(b:ByteArray) (q:Nat) (h:q<=b.size):(b.extract 0 q).size=q:=by
 have:=congrArg List.length (wZ b q h);simp only[Array.length_toList,List.length_take]at this;have h2:b.data.size=b.size:=rfl
 show (b.extract 0 q).data.size=q
 omega
theorem Nt(b:ByteArray) (i:Nat) (hi:i<b.size) (w:World):(Instr.index 9 (.string b) (.int .i64 (i:Int))).run Tryz.prog w=.ok (.int .u8 (byteI b i)) w:=by
 rw[run_index_string w _ b _ _ Tryz.underlying9,dif_pos (by omega)];congr 2;unfold byteI;have:=En b i hi;rw[<-this];simp;rfl
theorem Nu(b:ByteArray) (q:Nat) (hq:q<=b.size) (w:World):(Instr.slice 9 (.string b) none (some (.int .i64 (q:Int))) none).run Tryz.prog w=.ok (.string (b.extract 0 q)) w:=by
 have:=run_slice_string_h w 9 b Tryz.underlying9 .i64 (q:Int) (by omega) (by omega);simpa using this
theorem Lw(b:ByteArray) (q:Nat) (hq:b.size=q+2) (h4:4<=q):kH b=decide ((ckS (b.data.toList.take q):Int)≠byteI b q * 256+byteI b (q+1)):=by
 unfold kH;rw[hq,show decide (q+2<6)=false by simp;omega];simp
theorem yH(t:Tr) (vi vw vs vm vd vt:Value) (w:World) (ht:IsTr w t vi vw vs vm vd vt) (h5:t.inp.length<=5) (h6:t.word.length<=6) :
  Calls Tryz.prog 135 #[.agg (ee vi vw vs vm vd vt)] w fun e w'=>e=.returned (.int .i64 (messagesE t))/\Below w.heap.size w w':=by
 have HT:=aa ht;obtain⟨hi,hw,hs,hm,hd,xY⟩:=ht;obtain⟨pi,ci,rfl,li1,li2,_⟩:=hi.at;obtain⟨pw,cw,rfl,lw1,lw2,_⟩:=hw.at;obtain⟨ps,cs,rfl,ls1,ls2,_⟩:=hs.at;obtain⟨pm,cm,rfl,lm1,lm2,em⟩:=hm.at;obtain⟨pd,cd,rfl,_⟩:=hd.at;obtain⟨pt,ct,rfl,_⟩:=xY.at;have EM:=aa em;clear hi hw hs hm hd xY em;obtain⟨L,hL⟩:∃ L,L=gd t.inp.length t.word:=⟨_,rfl⟩;have HV:Hid (messagesE t=if L.length≠t.msgs.length then 15 else aP t.msgs.length (eP t)):=by(have h:messagesE t=if L.length≠t.msgs.length then 15 else aP t.msgs.length (eP t):=by(rw[hL];rfl));exact h
 have hLl:L.length<=150:=by rw[hL];have:=zc t.inp.length t.word;omega
 have HLM:Hid (∀ x∈L,x.1<6/\x.2.1<5/\x.2.2<5):=by(have h:∀ x∈L,x.1<6/\x.2.1<5/\x.2.2<5:=fun x hx=>by(rw[hL]at hx;have:=za hx;omega));exact h
 have HL:=aa hL;clear hL
 go_enter Tryz.func135,Tryz.ntmps135
 go_wp2_with fail
 refine(BA _ _ _ _ _).mono ?_;rintro e w1 ⟨rfl,rfl⟩
 go_wp2_with fail
 refine aT (fun W=>Below w.heap.size w W/\W.heap[w.heap.size]?=some (.cells (ee (.slice pi t.inp.length ci) (.slice pw t.word.length cw) (.slice ps t.states.length cs) (.slice pm t.msgs.length cm) (.slice pd t.dec.length cd) (.slice pt t.times.length ct)) 65)/\W.heap[w.heap.size+1]?=some (.cells #[.int .i64 t.inp.length] 3)/\W.heap[w.heap.size+1+1]?=some (.cells #[.slice pw t.word.length cw] 37))
  ⟨by go_grown,aq _ (aq _ (ar _ _)),aq _ (aX _ _ _),cV _ _ _ _⟩ (fun W0 bd=>?_)
 obtain⟨aH,ow,hN0,it⟩:=bd;have dM:=aB it
 have bP:=(yU w _ t.word HT.out.word t.inp.length h5 W0 aH (w.heap.size+1+1) (w.heap.size+1) (by simp[ae it]) hN0).conv (E':=fun i args _ _=>args=#[.agg ((L.map Ns).getD i default).c]) (fun i args _ _ hi h=>by
  rw[h,HL.out,List.getD_eq_getElem?_getD,List.getD_eq_getElem?_getD,List.getElem?_map,List.getElem?_eq_getElem hi];rfl)
 have hlenL:(gd t.inp.length t.word).length=(L.map Ns).length:=by rw[List.length_map,HL.out]
 rw[hlenL]at bP;refine(GY 114 _ (enters_of Tryz.func114 (by kernel_rfl) rfl) (L.map Ns) (by rw[List.length_map];omega) _ W0 bP (fun k hk=>by rcases hk with hk|hk;have:=aH.size;omega;omega)).mono ?_;rintro e w1 ⟨v,rfl,hv,aG⟩
 have hdue:=G8 hv (fun x hx=>by
  obtain⟨y,hy,rfl⟩:=List.mem_map.1 hx;have:=HLM.out y hy
  refine⟨?_,?_,?_,?_⟩<;>simp[Ns,bK,ByteArray.size]<;>omega) (by rw[List.length_map];omega)
 obtain⟨pv,cv,rfl,lv1,lv2,ev⟩:=hdue.at;rw[List.length_map]at *;have EV:=aa ev;have v8:=aa (ak aG ow);have AV:=aj aH aG;clear hlenL hdue hv bP ow hN0 it ev;have t1:=ae v8.out;by_cases cZ:L.length=t.msgs.length
 case neg=>
  have db:Hid (messagesE t=15):=by(have h:messagesE t=15:=by(rw[HV.out,if_pos cZ]));exact h
  have d1:((L.length:Int) != (t.msgs.length:Int))=true:=by simp;omega
  go_wp2_with fail
  go_ret
  exact⟨aC db.out.symm,AV⟩
 have db:Hid (messagesE t=aP t.msgs.length (eP t)):=by(have h:messagesE t=aP t.msgs.length (eP t):=by(rw[HV.out,if_neg (by omega)]));exact h
 have d1:((L.length:Int) != (t.msgs.length:Int))=false:=by simp;omega
 have qC:=aa cZ;clear cZ HV
 go_wp2_with fail
 clear t1 d1
 go_loopw [23] (fun i wr=>Below w1.heap.size w1 wr/\∃ k:Nat,k<=t.msgs.length/\i=.int .i64 k/\∀ j,j<k->eP t j=0) (fun i _=>t.msgs.length - (intOf i).toNat)
 case atStart=>exact⟨Below.refl _ _,0,by omega,rfl,by simp⟩
 case round=>
  obtain⟨aJ,k,hk,rfl,aO⟩:=hrel;have H:=aa aO;clear aO;have bS:=aj AV aJ;by_cases aF:k<t.msgs.length
  ·have RM:k<L.length:=by have:=qC.out;omega
   obtain⟨b1,o1,rfl,⟨c0,_⟩,⟨c1,_⟩,⟨c2,_⟩,c3,dJ⟩:=EM.out k aF;obtain⟨b2,o2,rfl,⟨e0,_⟩,⟨e1,_⟩,⟨e2,_⟩,e3,_⟩:=EV.out k (by rw[List.length_map];exact RM);rw[List.getElem_map]at e0 e1 e2 e3
   have HE:Hid (eP t k=if t.msgs[k].rd≠L[k].1\/t.msgs[k].fr≠L[k].2.1\/t.msgs[k].to≠L[k].2.2 then 14 else if kH t.msgs[k].bs then 24 else if byteI t.msgs[k].bs 0≠t.msgs[k].rd\/byteI t.msgs[k].bs 1≠t.msgs[k].fr\/byteI t.msgs[k].bs 2≠t.msgs[k].to then 22 else 0):=by
    (have h:eP t k=if t.msgs[k].rd≠L[k].1\/t.msgs[k].fr≠L[k].2.1\/t.msgs[k].to≠L[k].2.2 then 14 else if kH t.msgs[k].bs then 24 else if byteI t.msgs[k].bs 0≠t.msgs[k].rd\/byteI t.msgs[k].bs 1≠t.msgs[k].fr\/byteI t.msgs[k].bs 2≠t.msgs[k].to then 22 else 0:=by(unfold eP;rw[<-HL.out,aA default aF,aA (0,0,0) RM]));exact h
   have d0:=ay bS c0;have d1:=ay bS c1;have d2:=ay bS c2;have d3:=ay bS c3;have Cv:=aa (ay aJ e0);have jP:=aa (ay aJ e1);have mj:=aa (ay aJ e2);clear c0 c1 c2 c3 e0 e1 e2 e3;generalize t.msgs[k]=m at d0 d1 d2 d3 dJ HE;generalize L[k]=x at Cv jP mj HE;obtain⟨x1,x2,x3⟩:=x;obtain⟨mrd,mfr,mto,bs⟩:=m;dsimp only[Ns]at Cv jP mj HE d0 d1 d2 d3 dJ;have dM:=aB (ak aJ v8.out)
   go_wp2_with fail
   refine bw (fun W=>Below wr.heap.size wr W/\W.heap[wr.heap.size]?=some (.cells (Msg.c ⟨mrd,mfr,mto,bs⟩) 165)) ⟨by go_grown,ar _ _⟩ (fun V hV=>?_);obtain⟨fo,hmV⟩:=hV;have HM:=aa hmV;have uv:=aj bS fo;clear hmV d0 d1 d2 d3 dM;have hltv:k<L.length:=RM;by_cases h1:mrd=(x1:Int)
   case neg=>
    have oI:(mrd != (x1:Int))=true:=by simpa using h1
    have q1:∀ y:ExtW V,∀ o,y.val.cell? ⟨wr.heap.size,o,none⟩=_:=fun y=>ae (ak y.ext HM.out)
    have q2:∀ y:ExtW V,y.val.cell? ⟨b2,o2+k * 4,none⟩=some (.int .i64 (x1:Int)):=fun y=>y.cell (ay fo Cv.out)
    have q3:∀ y:ExtW V,y.val.cell? ⟨b2,o2+k * 4+1,none⟩=some (.int .i64 (x2:Int)):=fun y=>y.cell (ay fo jP.out)
    have q4:∀ y:ExtW V,y.val.cell? ⟨b2,o2+k * 4+2,none⟩=some (.int .i64 (x3:Int)):=fun y=>y.cell (ay fo mj.out)
    refine aK (by kernel_rfl) (by kernel_rfl) ?_
    repeat (go_big_quiet_step (fail))
    refine wpQuiet_nil ?_;intro _ bV;obtain⟨xq,bC⟩:=bV;subst bC;clear q1 q2 q3 q4;have HX:Hid (eP t k=14):=by(have h:eP t k=14:=by(rw[HE.out,if_pos (Or.inl h1)]));exact h
    go_wp2_with fail
    go_ret
    exact⟨aC (by rw[db.out,<-bh k 14 aF H.out HX.out (by decide)]),aj uv xq.ext⟩
   subst h1;by_cases h2:mfr=(x2:Int)
   case neg=>
    have CE:(mfr != (x2:Int))=true:=by simpa using h2
    have q1:∀ y:ExtW V,∀ o,y.val.cell? ⟨wr.heap.size,o,none⟩=_:=fun y=>ae (ak y.ext HM.out)
    have q2:∀ y:ExtW V,y.val.cell? ⟨b2,o2+k * 4,none⟩=some (.int .i64 (x1:Int)):=fun y=>y.cell (ay fo Cv.out)
    have q3:∀ y:ExtW V,y.val.cell? ⟨b2,o2+k * 4+1,none⟩=some (.int .i64 (x2:Int)):=fun y=>y.cell (ay fo jP.out)
    have q4:∀ y:ExtW V,y.val.cell? ⟨b2,o2+k * 4+2,none⟩=some (.int .i64 (x3:Int)):=fun y=>y.cell (ay fo mj.out)
    refine aK (by kernel_rfl) (by kernel_rfl) ?_
    repeat (go_big_quiet_step (fail))
    refine wpQuiet_nil ?_;intro _ bV;obtain⟨xq,bC⟩:=bV;subst bC;clear q1 q2 q3 q4;have HX:Hid (eP t k=14):=by(have h:eP t k=14:=by(rw[HE.out,if_pos (Or.inr (Or.inl h2))]));exact h
    go_wp2_with fail
    go_ret
    exact⟨aC (by rw[db.out,<-bh k 14 aF H.out HX.out (by decide)]),aj uv xq.ext⟩
   subst h2;by_cases h3:mto=(x3:Int)
   case neg=>
    have yc:(mto != (x3:Int))=true:=by simpa using h3
    have q1:∀ y:ExtW V,∀ o,y.val.cell? ⟨wr.heap.size,o,none⟩=_:=fun y=>ae (ak y.ext HM.out)
    have q2:∀ y:ExtW V,y.val.cell? ⟨b2,o2+k * 4,none⟩=some (.int .i64 (x1:Int)):=fun y=>y.cell (ay fo Cv.out)
    have q3:∀ y:ExtW V,y.val.cell? ⟨b2,o2+k * 4+1,none⟩=some (.int .i64 (x2:Int)):=fun y=>y.cell (ay fo jP.out)
    have q4:∀ y:ExtW V,y.val.cell? ⟨b2,o2+k * 4+2,none⟩=some (.int .i64 (x3:Int)):=fun y=>y.cell (ay fo mj.out)
    refine aK (by kernel_rfl) (by kernel_rfl) ?_
    repeat (go_big_quiet_step (fail))
    refine wpQuiet_nil ?_;intro _ bV;obtain⟨xq,bC⟩:=bV;subst bC;clear q1 q2 q3 q4;have HX:Hid (eP t k=14):=by(have h:eP t k=14:=by(rw[HE.out,if_pos (Or.inr (Or.inr h3))]));exact h
    go_wp2_with fail
    go_ret
    exact⟨aC (by rw[db.out,<-bh k 14 aF H.out HX.out (by decide)]),aj uv xq.ext⟩
   subst h3;have Sy:Hid (eP t k=if kH bs then 24 else if byteI bs 0≠x1\/byteI bs 1≠x2\/byteI bs 2≠x3 then 22 else 0):=by(have h:eP t k=if kH bs then 24 else if byteI bs 0≠x1\/byteI bs 1≠x2\/byteI bs 2≠x3 then 22 else 0:=by(rw[HE.out,if_neg (by simp)]));exact h
   clear HE;have q1:∀ y:ExtW V,∀ o,y.val.cell? ⟨wr.heap.size,o,none⟩=_:=fun y=>ae (ak y.ext HM.out)
   have q2:∀ y:ExtW V,y.val.cell? ⟨b2,o2+k * 4,none⟩=some (.int .i64 (x1:Int)):=fun y=>y.cell (ay fo Cv.out)
   have q3:∀ y:ExtW V,y.val.cell? ⟨b2,o2+k * 4+1,none⟩=some (.int .i64 (x2:Int)):=fun y=>y.cell (ay fo jP.out)
   have q4:∀ y:ExtW V,y.val.cell? ⟨b2,o2+k * 4+2,none⟩=some (.int .i64 (x3:Int)):=fun y=>y.cell (ay fo mj.out)
   refine aK (by kernel_rfl) (by kernel_rfl) ?_
   repeat (go_big_quiet_step (fail))
   refine wpQuiet_nil ?_;intro _ bV;obtain⟨xq,bC⟩:=bV;subst bC;clear q1 q2 q3 q4;have U1:=ak xq.ext HM.out;have mh:=aj uv xq.ext;obtain⟨V2,O3⟩:∃ V2,V2=xq.val:=⟨_,rfl⟩;rw[<-O3]at U1 mh ⊢;have sK:Hid (Below wr.heap.size wr V2):=by(have h:Below wr.heap.size wr V2:=by(rw[O3];exact aj fo xq.ext));exact h
   have jO:=aa U1;clear O3 U1 HM fo uv xq V
   go_wp2_with fail
   by_cases h6':bs.size<6
   ·have Ve:decide ((bs.size:Int) - 2<4)=true:=by simp;omega
    have kz:(bs.size:Int) - 2<4:=by omega
    have HX:Hid (eP t k=24):=by(have h:eP t k=24:=by(rw[Sy.out,show kH bs=true by unfold kH;simp[h6']];rfl));exact h
    refine aK (by kernel_rfl) (by kernel_rfl) ?_
    repeat (go_big_quiet_step (fail))
    refine wpQuiet_nil ?_;intro _ bV;obtain⟨xq,bC⟩:=bV;subst bC
    go_wp2_with fail
    go_ret
    exact⟨aC (by rw[db.out,<-bh k 24 aF H.out HX.out (by decide)]),aj mh xq.ext⟩
   ·obtain⟨q,hq⟩:∃ q,bs.size=q+2:=⟨bs.size - 2,by omega⟩
    have CO:4<=q:=by omega
    have hqq:(bs.size:Int) - 2=(q:Int):=by omega
    rw[hqq];have Ve:¬ ((q:Int)<4):=by omega
    have kz:decide ((q:Int)<4)=false:=by simp;omega
    have AX:=Lw bs q hq CO;have oM:=Nt bs;have pY:=Nu bs q (by omega);have dV:=oM q (by omega);have fF:∀ w,(Instr.index 9 (.string bs) (.int .i64 ((q:Int)+1))).run Tryz.prog w=.ok (.int .u8 (byteI bs (q+1))) w:=oM (q+1) (by omega);have hqb:q<=140737488351232:=by omega
    have uu:=aa (show ∀ w,(Instr.index 9 (.string bs) (.int .i64 0)).run Tryz.prog w=.ok (.int .u8 (byteI bs 0)) w from oM 0 (by omega));have HI1:=aa (show ∀ w,(Instr.index 9 (.string bs) (.int .i64 1)).run Tryz.prog w=.ok (.int .u8 (byteI bs 1)) w from oM 1 (by omega));have HI2:=aa (show ∀ w,(Instr.index 9 (.string bs) (.int .i64 2)).run Tryz.prog w=.ok (.int .u8 (byteI bs 2)) w from oM 2 (by omega));have xX:=rr bs q;have rM:=rr bs (q+1);have jK:=aa (show ∀ y:ExtW V2,Calls Tryz.prog 176 #[.string (bs.extract 0 q)] y.val fun e w''=>e=.returned (.int .i64 (ckS (bs.data.toList.take q)))/\∃ p:ExtW V2,w''=p.val from fun y=>Calls.ext_of (by rw[<-wZ bs q (by omega)];exact wX _ (by rw[G9 bs q (by omega)];omega) _));clear oM hq hqq;generalize ckS (bs.data.toList.take q)=ck at jK AX;generalize byteI bs q=y1 at dV xX AX;generalize byteI bs (q+1)=y2 at fF rM AX;have mf:IntKind.i64.wrap (y1 * 256)=y1 * 256:=IntWalk.i64_in _ (by omega);have oN:IntKind.i64.wrap (y1 * 256+y2)=y1 * 256+y2:=IntWalk.i64_in _ (by omega);have Dc:IntKind.i64.wrap y1=y1:=IntWalk.i64_in _ (by omega);have Ac:IntKind.i64.wrap y2=y2:=IntWalk.i64_in _ (by omega);have q1:∀ y:ExtW V2,∀ o,y.val.cell? ⟨wr.heap.size,o,none⟩=_:=fun y=>ae (ak y.ext jO.out)
    by_cases fM:(ck:Int)=y1 * 256+y2
    case neg=>
     have Ro:((ck:Int) != y1 * 256+y2)=true:=by simpa using fM
     have HX:Hid (eP t k=24):=by(have h:eP t k=24:=by(rw[Sy.out,AX];simp[fM]));exact h
     clear AX;refine aK (by kernel_rfl) (by kernel_rfl) ?_
     repeat (go_big_quiet_step ((go_at_call 176;exact jK.out _)))
     refine wpQuiet_nil ?_;intro _ bV;obtain⟨xq,bC⟩:=bV;subst bC;clear q1
     go_wp2_with fail
     go_ret
     exact⟨aC (by rw[db.out,<-bh k 24 aF H.out HX.out (by decide)]),aj mh xq.ext⟩
    have Ro:((ck:Int) != y1 * 256+y2)=false:=by simpa using fM
    have ID:Hid (eP t k=if byteI bs 0≠x1\/byteI bs 1≠x2\/byteI bs 2≠x3 then 22 else 0):=by(have h:eP t k=if byteI bs 0≠x1\/byteI bs 1≠x2\/byteI bs 2≠x3 then 22 else 0:=by(rw[Sy.out,AX];simp[fM]));exact h
    clear AX fM Sy;refine aK (by kernel_rfl) (by kernel_rfl) ?_
    repeat (go_big_quiet_step ((go_at_call 176;exact jK.out _)))
    refine wpQuiet_nil ?_;intro _ bV;obtain⟨xq,bC⟩:=bV;subst bC;clear q1 dV fF xX rM mf oN Dc Ac Ro pY Ve kz;have S6:=ak xq.ext jO.out;have Mw:=aj mh xq.ext;obtain⟨V3,zS⟩:∃ V3,V3=xq.val:=⟨_,rfl⟩;rw[<-zS]at S6 Mw ⊢;have HBX3:Hid (Below wr.heap.size wr V3):=by(have h:Below wr.heap.size wr V3:=by(rw[zS];exact aj sK.out xq.ext));exact h
    have rX:=aa S6;clear zS S6 jO sK mh jK xq V2
    go_wp2_with fail
    have dp:=rr bs 0;have du:=rr bs 1;have eB:=rr bs 2;have g0:=uu.out;have g1:=HI1.out;have g2:=HI2.out;generalize byteI bs 0=z0 at dp g0 ID;generalize byteI bs 1=z1 at du g1 ID;generalize byteI bs 2=z2 at eB g2 ID;have Dc:IntKind.i64.wrap z0=z0:=IntWalk.i64_in _ (by omega);have Ac:IntKind.i64.wrap z1=z1:=IntWalk.i64_in _ (by omega);have CT:IntKind.i64.wrap z2=z2:=IntWalk.i64_in _ (by omega);have q1:∀ y:ExtW V3,∀ o,y.val.cell? ⟨wr.heap.size,o,none⟩=_:=fun y=>ae (ak y.ext rX.out)
    clear uu HI1 HI2;by_cases h1:z0=(x1:Int)
    case neg=>
     have oI:(z0 != (x1:Int))=true:=by simpa using h1
     refine aK (by kernel_rfl) (by kernel_rfl) ?_
     repeat (go_big_quiet_step (fail))
     refine wpQuiet_nil ?_;intro _ bV;obtain⟨xq,bC⟩:=bV;subst bC;clear q1;have HX:Hid (eP t k=22):=by(have h:eP t k=22:=by(rw[ID.out,if_pos (Or.inl h1)]));exact h
     go_wp2_with fail
     go_ret
     exact⟨aC (by rw[db.out,<-bh k 22 aF H.out HX.out (by decide)]),aj Mw xq.ext⟩
    have oI:(z0 != (x1:Int))=false:=by simpa using h1
    by_cases h2:z1=(x2:Int)
    case neg=>
     have CE:(z1 != (x2:Int))=true:=by simpa using h2
     refine aK (by kernel_rfl) (by kernel_rfl) ?_
     repeat (go_big_quiet_step (fail))
     refine wpQuiet_nil ?_;intro _ bV;obtain⟨xq,bC⟩:=bV;subst bC;clear q1;have HX:Hid (eP t k=22):=by(have h:eP t k=22:=by(rw[ID.out,if_pos (Or.inr (Or.inl h2))]));exact h
     go_wp2_with fail
     go_ret
     exact⟨aC (by rw[db.out,<-bh k 22 aF H.out HX.out (by decide)]),aj Mw xq.ext⟩
    have CE:(z1 != (x2:Int))=false:=by simpa using h2
    by_cases h3:z2=(x3:Int)
    case neg=>
     have yc:(z2 != (x3:Int))=true:=by simpa using h3
     refine aK (by kernel_rfl) (by kernel_rfl) ?_
     repeat (go_big_quiet_step (fail))
     refine wpQuiet_nil ?_;intro _ bV;obtain⟨xq,bC⟩:=bV;subst bC;clear q1;have HX:Hid (eP t k=22):=by(have h:eP t k=22:=by(rw[ID.out,if_pos (Or.inr (Or.inr h3))]));exact h
     go_wp2_with fail
     go_ret
     exact⟨aC (by rw[db.out,<-bh k 22 aF H.out HX.out (by decide)]),aj Mw xq.ext⟩
    have yc:(z2 != (x3:Int))=false:=by simpa using h3
    have HX:Hid (eP t k=0):=by(have h:eP t k=0:=by(rw[ID.out,if_neg (by omega)]));exact h
    clear h1 h2 h3;refine aK (by kernel_rfl) (by kernel_rfl) ?_
    repeat (go_big_quiet_step (fail))
    refine wpQuiet_nil ?_;intro _ bV;obtain⟨xq,bC⟩:=bV;subst bC;clear q1 g0 g1 g2
    go_wp2_with fail
    go_roundw
    case rel=>exact⟨aj aJ (aj HBX3.out xq.ext),k+1,by omega,by go_num,aQ H.out HX.out⟩
    case measure=>simp[intOf];omega
  ·go_wp2_with fail
   go_ret
   exact⟨aC (by rw[db.out,cp];intro j hj;exact H.out j (by omega)),bS⟩
end Go.Proofs.YtkfgpnbpcpdclaaGreat
namespace Go.Proofs.YtkfgpnbpcpdclaaGreat
open Go.RowKit Go Go.Shelf
abbrev zeroTr:Array Value:=#[.slice none 0 0,.slice none 0 0,.slice none 0 0,.slice none 0 0,.slice none 0 0,.slice none 0 0]
theorem AA{W:World} {B:Nat} {cs:Array Value} {t:TypeId} (h:W.heap[B]?=some (.cells cs t)) (hc:cs.size=6) (a b c d e f:Value) :
  ∀ W',W'=(((((W.setCell ⟨B,0,none⟩ a).setCell ⟨B,1,none⟩ b).setCell ⟨B,2,none⟩ c).setCell ⟨B,3,none⟩ d).setCell ⟨B,4,none⟩ e).setCell ⟨B,5,none⟩ f →
  W'.heap[B]?=some (.cells #[a,b,c,d,e,f] t)/\(∀ k,k≠B->W'.heap[k]?=W.heap[k]?)/\W'.heap.size=W.heap.size/\∀ n w0,n<=B->Below n w0 W->Below n w0 W':=by
 rintro W' rfl;refine⟨?_,fun k hk=>?_,by simp,fun n w0 hn hb=>?_⟩
 ·obtain⟨x0,x1,x2,x3,x4,x5,rfl⟩:∃ x0 x1 x2 x3 x4 x5,cs=#[x0,x1,x2,x3,x4,x5]:=by
   obtain⟨l⟩:=cs;simp at hc
   match l,hc with
   | [x0,x1,x2,x3,x4,x5],_=>exact⟨_,_,_,_,_,_,rfl⟩
  rw[aE (aE (aE (aE (aE (aE h _ _) _ _) _ _) _ _) _ _)];rfl
 ·rw[Below.heap_setCell _ ⟨B,5,none⟩ _ _ hk,Below.heap_setCell _ ⟨B,4,none⟩ _ _ hk,Below.heap_setCell _ ⟨B,3,none⟩ _ _ hk,Below.heap_setCell _ ⟨B,2,none⟩ _ _ hk,Below.heap_setCell _ ⟨B,1,none⟩ _ _ hk,Below.heap_setCell _ ⟨B,0,none⟩ _ _ hk]
 ·exact(((((hb.setCell (p:=⟨B,0,none⟩) hn _).setCell (p:=⟨B,1,none⟩) hn _).setCell (p:=⟨B,2,none⟩) hn _).setCell (p:=⟨B,3,none⟩) hn _).setCell (p:=⟨B,4,none⟩) hn _).setCell (p:=⟨B,5,none⟩) hn _
structure PlayOk (m:Mac) (inputs:List Int) (word:List Rd) (n r:Nat):Prop where
 good:Good m n r
 chk:checkE m=0
 il:inputs.length=n
 ir:∀ p,p<n->0<=inputs.getD p 0/\inputs.getD p 0<m.ins
 we:wordE n word=0
 wl:word.length=r
 rl:(eC m inputs word).length=r+1
theorem BH{m:Mac} {inputs:List Int} {word:List Rd} (h:playE m inputs word=0):∃ n r,PlayOk m inputs word n r:=by
 unfold playE at h;split at h
 ·rename_i q;exact absurd h q
 rename_i h1;have oI:checkE m=0:=by simpa using h1
 obtain⟨n,r,g⟩:=sR oI;have hn:=g.hn;have hr:=g.hr;split at h
 ·cases h
 split at h
 ·cases h
 rename_i h2 h3;split at h
 ·rename_i q;exact absurd h q
 rename_i h4;split at h
 ·cases h
 split at h
 ·cases h
 rename_i h5 h6;have yc:allB inputs 0 (m.ins - 1)=true:=by simpa using h3
 have Fo:wordE m.n word=0:=by simpa using h4
 rw[hn]at Fo;refine⟨n,r,g,oI,by omega,fun p hp=>?_,Fo,by omega,by omega⟩;have:=Em yc p (by omega);omega
theorem Lx{n:Nat} {word:List Rd} {x:Nat × Nat × Nat} (h:x∈gd n word):x.2.1≠x.2.2:=by
 unfold gd dv iA at h;rw[List.mem_filterMap]at h;obtain⟨j,hj,hx⟩:=h;unfold tN at hx;split at hx
 ·rename_i hc
  cases hx
  exact hc.2.2.1
 ·cases hx
theorem lA{w:World} {base:Nat} {v:Value} {l:List Int} (h:aL w base 3 1 v l.length (l.map (Value.int .i64))) (hr:∀ x∈l,bK x) (hn:l.length<=17592186044416):aU w v l:=by
 have aM:=fun i (hi:i<l.length)=>h.cell i (.int .i64 l[i]) (by simp[hi])
 rcases h.2 with ⟨rfl,hz⟩|⟨g,cap,cur,fz,rfl,_,hg,_,kj,fg,_,_⟩
 ·refine⟨none,0,by rw[hz],⟨by omega,by omega,fun _=>rfl⟩,hn,fun i x hi=>?_⟩
  have:=(List.getElem?_eq_some_iff.1 hi).1;omega
 ·refine⟨some ⟨g,0,none⟩,cap,rfl,⟨kj,by simp only[maxLen]at fg;omega,fun e=>by cases e⟩,hn,fun i x hi=>⟨g,0,rfl,?_⟩⟩
  obtain⟨dI,rfl⟩:=List.getElem?_eq_some_iff.1 hi;obtain⟨g',c',e1,e2⟩:=aM i dI;have:g=g':=by simp at e1;exact e1.1
  subst this;exact⟨by rw[Nat.mul_one,Nat.zero_add];exact e2,hr _ (List.getElem_mem dI)⟩
theorem aL.keep{w w':World} {base sz:Nat} {e:TypeId} {v:Value} {n:Nat} {xs:List Value} (h:aL w base e sz v n xs) (hk:∀ (g:Nat) (o:Obj),v.ownBlock=some g->w.heap[g]?=some o->w'.heap[g]?=some o):aL w' base e sz v n xs:=by
 obtain⟨hl,h⟩:=h;refine⟨hl,?_⟩;rcases h with h|⟨g,cap,cur,fz,rfl,h2,h3,h4⟩
 ·exact .inl h
 ·exact .inr ⟨g,cap,cur,fz,rfl,h2,hk g _ rfl h3,h4⟩
structure SI (w W3:World) (Bt Be:Nat) (va vb vs:Value) (xs:List Msg) (i:Nat) (T:Nat->Prop) (W:World):Prop where
 old:Below w.heap.size w W
 kept:∀ (k:Nat) (o:Obj),W3.heap[k]?=some o->o.isCells=true->k≠Bt->W.heap[k]?=some o
 size:W3.heap.size<=W.heap.size
 lt:∀ k,T k->k<W.heap.size
 notB:¬ T Bt
 notE:¬ T Be
 row:∃ v,W.heap[Bt]?=some (.cells (ee va vb vs v (.slice none 0 0) (.slice none 0 0)) 65)/\aL W W3.heap.size 165 4 v i (kI (xs.take i))/\∀ g,v.ownBlock=some g->¬ T g
theorem SI.next{w W3:World} {Bt Be:Nat} {va vb vs:Value} {xs:List Msg} {i B:Nat} {T T':Nat->Prop} {A A':World} (h:SI w W3 Bt Be va vb vs xs i T A) (hE:Be<W3.heap.size) (hB:w.heap.size<=B) (hc:Chg B A A') (hw:mA A A' T T'):SI w W3 Bt Be va vb vs xs i T' A':=by
 obtain⟨v,h1,h2,h3⟩:=h.row
 have hn:∀ g,g<A.heap.size->¬ T g->¬ T' g:=fun g hg h ht=>by
  rcases hw.2 g ht with h4|h4
  ·exact h h4
  ·omega
 exact⟨hc.below hB h.old.size h.old,fun k o hk ho hb=>hc.ck _ _ (h.kept k o hk ho hb) ho,Nat.le_trans h.size hc.size,fun k hk=>by
  rcases hw.2 k hk with h4|h4
  ·exact Nat.lt_of_lt_of_le (h.lt k h4) hc.size
  ·exact h4.2,hn _ (aB h1) h.notB,hn _ (Nat.lt_of_lt_of_le hE h.size) h.notE,v,hc.ck _ _ h1 rfl,h2.ck hc.ck,fun g hg=>hn _ (h2.lt g hg).2 (h3 g hg)⟩
structure C7 (w W2:World) (Bm Be k p q:Nat) (bs:ByteArray) (D:Nat->Bool) (_x:Nat->Value) (W:World):Prop where
 old:Below w.heap.size w W
 size:W2.heap.size<=W.heap.size
 kept:∀ (j:Nat) (o:Obj),W2.heap[j]?=some o->j≠Bm->j≠Be->W.heap[j]?=some o
 be:W.heap[Be]?=some (.cells #[.int .i64 0] 42)
 bm:∃ s,W.heap[Bm]?=some (.cells #[.int .i64 (k:Int),.int .i64 (p:Int),.int .i64 (q:Int),.string s] 165)/\(D 21=true->s=bs)
theorem C7.grow{w W2:World} {Bm Be k p q:Nat} {bs:ByteArray} {D:Nat->Bool} {x:Nat->Value} {W W':World} (h:C7 w W2 Bm Be k p q bs D x W) (hb:Below W.heap.size W W'):C7 w W2 Bm Be k p q bs D x W':=by
 obtain⟨s,h1,h2⟩:=h.bm;exact⟨aj h.old hb,Nat.le_trans h.size hb.size,fun j o hj h3 h4=>ak hb (h.kept j o hj h3 h4),ak hb h.be,s,ak hb h1,h2⟩
structure DI (w Wd:World) (Bt:Nat) (va vb vs vm:Value) (ds ts:List Int) (p:Nat) (W:World):Prop where
 old:Below w.heap.size w W
 size:Wd.heap.size<=W.heap.size
 kept:∀ (k:Nat) (o:Obj),Wd.heap[k]?=some o->k≠Bt->W.heap[k]?=some o
 row:∃ vd vt,W.heap[Bt]?=some (.cells (ee va vb vs vm vd vt) 65)/\aL W Wd.heap.size 3 1 vd p ((ds.take p).map (Value.int .i64))/\aL W Wd.heap.size 3 1 vt p ((ts.take p).map (Value.int .i64))/\∀ g,vd.ownBlock=some g->vt.ownBlock≠some g
theorem DI.drew{w Wd:World} {Bt:Nat} {va vb vs vm:Value} {ds ts:List Int} {p:Nat} {W W':World} (h:DI w Wd Bt va vb vs vm ds ts p W) (hb:Below W.heap.size W W'):DI w Wd Bt va vb vs vm ds ts p W':=by
 obtain⟨vd,vt,h1,h2,h3,h4⟩:=h.row;exact⟨aj h.old hb,Nat.le_trans h.size hb.size,fun k o hk eS=>ak hb (h.kept k o hk eS),vd,vt,ak hb h1,h2.up hb,h3.up hb,h4⟩
theorem PlayOk.fits{m:Mac} {inputs:List Int} {word:List Rd} {n r:Nat} (h:PlayOk m inputs word n r) {k p:Nat} (hk:k<r+1) (hp:p<n) :
  0<=((eC m inputs word).getD k []).getD p 0/\((eC m inputs word).getD k []).getD p 0<(((m.out.getD k []).getD p []).length:Int):=by
 have hl:k<(eC m inputs word).length:=by rw[h.rl];exact hk
 have:=(nA h.good (word:=word) h.il h.ir k _ (List.getElem?_eq_getElem hl)).2 p hp;rw[aA [] hl];exact this
theorem PlayOk.out{m:Mac} {inputs:List Int} {word:List Rd} {n r:Nat} (h:PlayOk m inputs word n r) {k p:Nat} (hk:k<r+1) (hp:p<n) :
  -1<=oW m k p (((eC m inputs word).getD k []).getD p 0)/\oW m k p (((eC m inputs word).getD k []).getD p 0)<8:=by
 have h1:=h.fits hk hp;generalize ((eC m inputs word).getD k []).getD p 0=s at h1;have h2:=h.good.outr k p s.toNat hk hp (by omega);have h3:=h.good.outs;unfold oW;omega
theorem PlayOk.when{m:Mac} {inputs:List Int} {word:List Rd} {n r:Nat} (h:PlayOk m inputs word n r) (p:Nat):-1<=mM m (eC m inputs word) p/\mM m (eC m inputs word) p<r+1:=by
 unfold mM;have h1:=h.rl;rcases dN (eC m inputs word).length (fun k=>decide (oW m k p (((eC m inputs word).getD k []).getD p 0)≠-1)) with ⟨e,_⟩|⟨k,hk,e,_⟩<;>omega
theorem PlayOk.dec{m:Mac} {inputs:List Int} {word:List Rd} {n r:Nat} (h:PlayOk m inputs word n r) {p:Nat} (hp:p<n):-1<=uJ m (eC m inputs word) p/\uJ m (eC m inputs word) p<8:=by
 have h1:=h.when p;unfold uJ;split
 ·omega
 ·exact h.out (by omega) hp
theorem PlayOk.msg{m:Mac} {inputs:List Int} {word:List Rd} {n r:Nat} (h:PlayOk m inputs word n r) {x:Nat × Nat × Nat} (hk:x.1<r) (hp:x.2.1<n) (hq:x.2.2<n) (jQ:x.2.1≠x.2.2) :
  bK (oX m (eC m inputs word) x).rd/\bK (oX m (eC m inputs word) x).fr/\bK (oX m (eC m inputs word) x).to/\(oX m (eC m inputs word) x).bs.size<=140737488351232:=by
 obtain⟨k,p,q⟩:=x;dsimp only at hk hp hq jQ;have h5:=h.good.n5;have h6:=h.good.r6;have h1:=h.fits (k:=k) (by omega) hp;refine⟨?_,?_,?_,?_⟩
 ·simp[oX,bK];omega
 ·simp[oX,bK];omega
 ·simp[oX,bK];omega
 ·unfold oX
  dsimp only;generalize ((eC m inputs word).getD k []).getD p 0=s at h1;have h2:=h.good.symr k p q s.toNat hk hp hq (by rw[h.good.yq k p q hk hp hq,if_neg jQ];omega);have h3:(lp (mY m k p q s).toNat).length<=64:=Ay _ (by unfold mY;omega)
  show (wP k p q (mY m k p q s).toNat).toArray.size<=_
  simp only[wP,yn,List.size_toArray,List.length_append,List.length_cons,List.length_nil];omega
structure C22 (w Wd Wr:World) (Bt:Nat) (a0 a1 a2 a3 vd vt:Value) (p:Nat) (ds ts:List Value) (d t:Value) (D:Nat->Bool) (x:Nat->Value) (W:World):Prop where
 old:Below w.heap.size w W
 size:Wr.heap.size<=W.heap.size
 kept:∀ (k:Nat) (o:Obj),Wr.heap[k]?=some o->k≠Bt->vd.ownBlock≠some k->vt.ownBlock≠some k->W.heap[k]?=some o
 rd:aL W Wd.heap.size 3 1 (bif D 4 then x 4 else vd) (bif D 4 then p+1 else p) (bif D 4 then ds++[d] else ds)
 rt:aL W Wd.heap.size 3 1 (bif D 9 then x 9 else vt) (bif D 9 then p+1 else p) (bif D 9 then ts++[t] else ts)
 ne:∀ g,(bif D 4 then x 4 else vd).ownBlock=some g->(bif D 9 then x 9 else vt).ownBlock≠some g
 box:W.heap[Bt]?=some (.cells (ee a0 a1 a2 a3 (bif D 11 then x 4 else vd) (bif D 13 then x 9 else vt)) 65)
 s3:D 3=true->D 4=false->∃ g,x 3=.slice (some ⟨g,0,none⟩) 1 1/\W.heap[g]?=some (.cells #[d] 3)/\vd.ownBlock≠some g/\(bif D 9 then x 9 else vt).ownBlock≠some g
 s8:D 8=true->D 9=false->∃ g,x 8=.slice (some ⟨g,0,none⟩) 1 1/\W.heap[g]?=some (.cells #[t] 3)/\(bif D 4 then x 4 else vd).ownBlock≠some g/\vt.ownBlock≠some g
 o11:D 11=true->D 1=true/\D 4=true/\D 6=true/\D 9=true
 o13:D 13=true->D 11=true
theorem C22.grow{w Wd Wr:World} {Bt:Nat} {a0 a1 a2 a3 vd vt:Value} {p:Nat} {ds ts:List Value} {d t:Value} {D:Nat->Bool} {x:Nat->Value} {W W':World} (h:C22 w Wd Wr Bt a0 a1 a2 a3 vd vt p ds ts d t D x W) (hb:Below W.heap.size W W'):C22 w Wd Wr Bt a0 a1 a2 a3 vd vt p ds ts d t D x W':=
 ⟨aj h.old hb,Nat.le_trans h.size hb.size,fun k o h1 h2 h3 h4=>ak hb (h.kept k o h1 h2 h3 h4),h.rd.up hb,h.rt.up hb,h.ne,ak hb h.box,
  fun h1 h2=>by obtain⟨g,e,q1,q2⟩:=h.s3 h1 h2;exact⟨g,e,ak hb q1,q2⟩,fun h1 h2=>by obtain⟨g,e,q1,q2⟩:=h.s8 h1 h2;exact⟨g,e,ak hb q1,q2⟩,h.o11,h.o13⟩
theorem C22.app4{w Wd Wr:World} {Bt:Nat} {a0 a1 a2 a3 vd vt:Value} {p:Nat} {ds ts:List Value} {d t:Value} {D:Nat->Bool} {x:Nat->Value} {W:World} (h:C22 w Wd Wr Bt a0 a1 a2 a3 vd vt p ds ts d t D x W) (h4:D 4=false) {v':Value} {w3:World} (ho:aL w3 Wd.heap.size 3 1 v' (p+1) (ds++[d])) (hg:W.grownBy w3 vd.ownBlock) (hw:v'.ownBlock=vd.ownBlock\/v'.ownBlock=some W.heap.size) (hd:w.heap.size<=Wd.heap.size) :
  C22 w Wd Wr Bt a0 a1 a2 a3 vd vt p ds ts d t (bB D 4) (cF x 4 v') w3:=by
 have kU:D 11=false:=by
  cases e:D 11 with
  | false=>rfl
  | true=>exact absurd (h.o11 e).2.1 (by rw[h4];decide)
 have ij:D 13=false:=by
  cases e:D 13 with
  | false=>rfl
  | true=>exact absurd (h.o13 e) (by rw[kU];decide)
 have rd:=h.rd;rw[h4]at rd;have ne:=h.ne;rw[h4]at ne;have eN:∀ (k:Nat) (o:Obj),W.heap[k]?=some o->vd.ownBlock≠some k->w3.heap[k]?=some o:=fun k o hk hn=>(hg.block k (aB hk) (fun e=>hn e.symm)).trans hk
 have Rw:∀ g,v'.ownBlock=some g->(bif D 9 then x 9 else vt).ownBlock≠some g:=fun g sD=>by
  rcases hw with e|e
  ·exact ne g (e ▸ sD)
  ·intro e2
   have:=(h.rt.lt g e2).2;rw[e]at sD;cases sD;omega
 refine⟨Below.grown h.old hg h.old.size (fun g sD=>Nat.le_trans hd (rd.lt g sD).1),Nat.le_trans h.size hg.size,fun k o h1 h2 h3 h5=>eN k o (h.kept k o h1 h2 h3 h5) h3,ho,h.rt.keep (fun g o sD hk=>eN g o hk (fun e=>ne g e sD)),Rw,?_,fun _ e=>by simp[bB]at e,fun h8 h9=>?_,fun e=>absurd (kU.symm.trans e) (by decide),fun e=>absurd (ij.symm.trans e) (by decide)⟩
 ·have hb:=h.box
  have:w3.heap[Bt]?=_:=eN Bt _ hb (fun e=>rd.ne hb (by decide) Bt e rfl);rw[kU,ij]at this
  show w3.heap[Bt]?=some (.cells (ee a0 a1 a2 a3 (bif D 11 then v' else vd) (bif D 13 then x 9 else vt)) 65)
  rw[kU,ij];exact this
 ·obtain⟨g,e,q1,q2,q3⟩:=h.s8 h8 h9
  rw[h4]at q2;refine⟨g,e,eN g _ q1 q2,?_,q3⟩
  show v'.ownBlock≠some g
  rcases hw with e|e
  ·rw[e];exact q2
  ·rw[e]
   intro e2;cases e2;have:=aB q1;omega
theorem C22.app9{w Wd Wr:World} {Bt:Nat} {a0 a1 a2 a3 vd vt:Value} {p:Nat} {ds ts:List Value} {d t:Value} {D:Nat->Bool} {x:Nat->Value} {W:World} (h:C22 w Wd Wr Bt a0 a1 a2 a3 vd vt p ds ts d t D x W) (h4:D 4=true) (h9:D 9=false) {v':Value} {w3:World} (ho:aL w3 Wd.heap.size 3 1 v' (p+1) (ts++[t])) (hg:W.grownBy w3 vt.ownBlock) (hw:v'.ownBlock=vt.ownBlock\/v'.ownBlock=some W.heap.size) (hd:w.heap.size<=Wd.heap.size) :
  C22 w Wd Wr Bt a0 a1 a2 a3 vd vt p ds ts d t (bB D 9) (cF x 9 v') w3:=by
 have kU:D 11=false:=by
  cases e:D 11 with
  | false=>rfl
  | true=>exact absurd (h.o11 e).2.2.2 (by rw[h9];decide)
 have ij:D 13=false:=by
  cases e:D 13 with
  | false=>rfl
  | true=>exact absurd (h.o13 e) (by rw[kU];decide)
 have rt:=h.rt;rw[h9]at rt;have ne:=h.ne;rw[h9]at ne;have eN:∀ (k:Nat) (o:Obj),W.heap[k]?=some o->vt.ownBlock≠some k->w3.heap[k]?=some o:=fun k o hk hn=>(hg.block k (aB hk) (fun e=>hn e.symm)).trans hk
 have Rw:∀ g,(bif D 4 then x 4 else vd).ownBlock=some g->v'.ownBlock≠some g:=fun g sD=>by
  rcases hw with e|e
  ·rw[e];exact ne g sD
  ·rw[e]
   intro e2;cases e2;have:=(h.rd.lt _ sD).2;omega
 refine⟨Below.grown h.old hg h.old.size (fun g sD=>Nat.le_trans hd (rt.lt g sD).1),Nat.le_trans h.size hg.size,fun k o h1 h2 h3 h5=>eN k o (h.kept k o h1 h2 h3 h5) h5,h.rd.keep (fun g o sD hk=>eN g o hk (ne g sD)),ho,Rw,?_,fun _ e=>absurd (h4.symm.trans e) (by decide),fun _ e=>by simp[bB]at e,fun e=>absurd (kU.symm.trans e) (by decide),fun e=>absurd (ij.symm.trans e) (by decide)⟩;have hb:=h.box;have:w3.heap[Bt]?=_:=eN Bt _ hb (fun e=>rt.ne hb (by decide) Bt e rfl);rw[kU,ij]at this
 show w3.heap[Bt]?=some (.cells (ee a0 a1 a2 a3 (bif D 11 then x 4 else vd) (bif D 13 then v' else vt)) 65)
 rw[kU,ij];exact this
theorem C22.build3{w Wd Wr:World} {Bt:Nat} {a0 a1 a2 a3 vd vt:Value} {p:Nat} {ds ts:List Value} {d t:Value} {D:Nat->Bool} {x:Nat->Value} {W:World} (h:C22 w Wd Wr Bt a0 a1 a2 a3 vd vt p ds ts d t D x W):C22 w Wd Wr Bt a0 a1 a2 a3 vd vt p ds ts d t (bB D 3) (cF x 3 (.slice (some ⟨W.heap.size,0,none⟩) 1 1)) (W.alloc (.cells #[d] 3)):=by
 have g:=h.grow (W':=W.alloc (.cells #[d] 3)) (by go_grown);refine⟨g.old,g.size,g.kept,g.rd,g.rt,g.ne,g.box,fun _ h4=>⟨W.heap.size,rfl,ar _ _,fun e=>?_,fun e=>?_⟩,g.s8,g.o11,g.o13⟩
 ·have Fo:D 4=false:=h4
  have r:=h.rd;rw[Fo]at r;have:=(r.lt _ e).2;omega
 ·have:=(h.rt.lt _ e).2
  omega
theorem C22.build8{w Wd Wr:World} {Bt:Nat} {a0 a1 a2 a3 vd vt:Value} {p:Nat} {ds ts:List Value} {d t:Value} {D:Nat->Bool} {x:Nat->Value} {W:World} (h:C22 w Wd Wr Bt a0 a1 a2 a3 vd vt p ds ts d t D x W):C22 w Wd Wr Bt a0 a1 a2 a3 vd vt p ds ts d t (bB D 8) (cF x 8 (.slice (some ⟨W.heap.size,0,none⟩) 1 1)) (W.alloc (.cells #[t] 3)):=by
 have g:=h.grow (W':=W.alloc (.cells #[t] 3)) (by go_grown);refine⟨g.old,g.size,g.kept,g.rd,g.rt,g.ne,g.box,g.s3,fun _ h9=>⟨W.heap.size,rfl,ar _ _,fun e=>?_,fun e=>?_⟩,g.o11,g.o13⟩
 ·have:=(h.rd.lt _ e).2
  omega
 ·have h9':D 9=false:=h9
  have r:=h.rt;rw[h9']at r;have:=(r.lt _ e).2;omega
theorem C22.put{w Wd Wr:World} {Bt:Nat} {a0 a1 a2 a3 vd vt:Value} {p:Nat} {ds ts:List Value} {d t:Value} {D:Nat->Bool} {x:Nat->Value} {W:World} (h:C22 w Wd Wr Bt a0 a1 a2 a3 vd vt p ds ts d t D x W) (h4:D 4=true) (h9:D 9=true) (hd:w.heap.size<=Bt) {D':Nat->Bool} {x':Nat->Value} (hD:∀ j,j≠11->j≠13->D' j=D j) (IQ:x' 4=x 4) (hx9:x' 9=x 9) (o:Nat) (v:Value)
  (vp:(ee a0 a1 a2 a3 (bif D 11 then x 4 else vd) (bif D 13 then x 9 else vt)).setIfInBounds o v=ee a0 a1 a2 a3 (bif D' 11 then x' 4 else vd) (bif D' 13 then x' 9 else vt)) (h1:D 1=true) (h6:D 6=true) (ij:D' 13=true->D' 11=true) :
  C22 w Wd Wr Bt a0 a1 a2 a3 vd vt p ds ts d t D' x' (W.setCell ⟨Bt,o,none⟩ v):=by
 have e4:=(hD 4 (by decide) (by decide)).trans h4;have e9:=(hD 9 (by decide) (by decide)).trans h9;have rd:=h.rd;have rt:=h.rt;have ne:=h.ne;rw[h4]at rd ne;rw[h9]at rt ne;have hb:=h.box;refine⟨h.old.setCell (p:=⟨Bt,o,none⟩) hd _,by simp;exact h.size,fun k ob h1 h2 h3 h5=>aI (h.kept k ob h1 h2 h3 h5) h2 _ _,?_,?_,?_,?_,fun _ e=>absurd (e4.symm.trans e) (by decide),fun _ e=>absurd (e9.symm.trans e) (by decide),fun _=>⟨(hD 1 (by decide) (by decide)).trans h1,e4,(hD 6 (by decide) (by decide)).trans h6,e9⟩,ij⟩
 ·rw[e4,IQ]
  exact rd.put (rd.ne hb (by decide)) _ _
 ·rw[e9,hx9]
  exact rt.put (rt.ne hb (by decide)) _ _
 ·rw[e4,e9,IQ,hx9]
  exact ne
 ·rw[aE hb,vp]
theorem yy{f:Nat->Int} {n p:Nat} {ds:List Int} {d:Int} (h:(List.range n).map f=ds) (hp:p<n) (hd:f p=d):(ds.take (p+1)).map (Value.int .i64)=(ds.take p).map (Value.int .i64)++[.int .i64 d]:=by
 have h1:ds[p]?=some d:=by
  rw[<-h,<-hd];simp[hp]
 rw[List.take_add_one,h1];simp
theorem Ty{m:Mac} {L:List (List Int)} {p q:Nat} {y:Int} (hq:q<L.length) (h:∀ j,j<q->oW m j p ((L.getD j []).getD p 0)=-1) (ho:oW m q p ((L.getD q []).getD p 0)=y) (hy:y≠-1):mM m L p=q/\uJ m L p=y:=by
 have h1:mM m L p=q:=gY _ _ _ hq (fun j hj=>by(rw[h j hj];rfl)) (by rw[ho];simpa using hy);refine⟨h1,?_⟩;unfold uJ;rw[h1,if_neg (by omega),Int.toNat_natCast,ho]
theorem Nv{m:Mac} {L:List (List Int)} {p:Nat} (h:∀ j,j<L.length->oW m j p ((L.getD j []).getD p 0)=-1):mM m L p=-1/\uJ m L p=-1:=by
 have h1:mM m L p=-1:=fT _ _ (fun j hj=>by(rw[h j hj];rfl));refine⟨h1,?_⟩;unfold uJ;rw[h1];rfl
theorem xa(a b:List Rd):bi (a++b)=bi a++bi b:=by simp[bi]
theorem iL(v:Value) (l:List Int) (w:World) (hv:aU w v l) (hn:l.length<=1099511627776) :
  Calls Tryz.prog 21 #[v] w fun e w'=>∃ u,e=.returned u/\aL w' w.heap.size 3 1 u l.length (l.map (Value.int .i64))/\Below w.heap.size w w':=by
 refine(wV v _ w (yV hv) (by simpa using hn)).mono ?_;rintro e w' ⟨u,rfl,ho,hb⟩;exact⟨u,rfl,aL.of_owns (by simpa using ho),hb⟩
theorem iN(v:Value) (l:List Rd) (w:World) (hv:bN w v l) (hn:l.length<=1048576) :
  Calls Tryz.prog 22 #[v] w fun e w'=>∃ u,e=.returned u/\aL w' w.heap.size 52 7 u l.length (bi l)/\Below w.heap.size w w':=by
 obtain⟨i0,hi,dp,du,eB⟩:=info_parts Tryz.infoRound;have HW:=aa (Nr hv);have mK:=fun w=>Lib.run_eql_slice_nil (P:=Tryz.prog) w 37
 obtain⟨a,cap,rfl,⟨_,_,lJ⟩,_,_⟩:=hv;cases a with
 | none=>
  have hl:l.length=0:=by have:=lJ rfl;omega
  obtain rfl:l=[]:=List.eq_nil_of_length_eq_zero hl;obtain rfl:=lJ rfl
  go_enter Tryz.func22,Tryz.ntmps22
  go_wp2_with fail
  go_ret
  exact⟨_,rfl,aL.nil _ _ _ _,Below.refl _ _⟩
 | some ad=>
  have bj:∀ j u,(bi l)[j]?=some u->(w.alloc (.cells #[] 52)).cell? (ad.add j)=some u:=fun j u hj=>by
   obtain⟨b,o,c,e,gM⟩:=HW.out j u hj;have:ad=⟨b,o,none⟩:=by simp at e;exact e.1
   subst this;have:(Addr.add ⟨b,o,none⟩ j)=⟨b,o+j,none⟩:=by unfold Addr.add;split<;>simp_all
   rw[this];exact ay (by go_grown) gM
  have aW:aL (w.alloc (.cells #[] 52)) w.heap.size 52 7 (.slice (some ⟨w.heap.size,0,none⟩) 0 0) 0 []:=⟨by simp,.inr ⟨w.heap.size,0,#[],(0,0),rfl,Nat.le_refl _,ar _ _,fun i hi=>by simp at hi,by omega,by simp[maxLen],by simp,by simp⟩⟩;have bZ:=aa bj;have da:=aa aW;clear bj aW lJ
  go_enter Tryz.func22,Tryz.ntmps22
  go_wp2_with (at_builtin;(refine bO _ rfl (.tmp 5) (.tmp 6) 37 rfl w.heap.size 52 i0 _ 7 56 Tryz.underlying37 hi dp du eB rfl (by decide) _ 0 [] rfl da.out ad l.length cap (bi l) rfl (ge l) bZ.out (sd l) (by unfold maxLen;omega) (by omega) (by simp) ?_;intro v' w1 iE lM _;obtain⟨av',cv',rfl⟩:=iE.slice))
  go_ret
  rw[Nat.zero_add,List.nil_append]at iE;refine⟨_,rfl,by simpa using iE,Below.grown (w:=w.alloc (.cells #[] 52)) (by go_grown) lM (by simp) (fun k hk=>?_)⟩;cases hk;exact Nat.le_refl _
theorem F4{P:Program} (w:World) (base:Nat) (t ty e:TypeId) (i:TypeInfo) (size:Nat) (ht:P.underlying t=some (.slice e)) (hi:P.info? e=some i)
  (mW:i.size=size) (g cap n:Nat) (xs:List Value) (aW:aL w base e size (.slice (some ⟨g,0,none⟩) n cap) n xs)
  (a:Addr) (m c:Nat) (news:List Value) (hl:news.length=m * size) (bj:∀ j u,news[j]?=some u->w.cell? (a.add j)=some u) (h1:∀ u∈news,u.oneCell'=true) (rc:n+m<=cap) :
  ∃ w',(Builtin.append_ #[t,t] ty #[.slice (some ⟨g,0,none⟩) n cap,.slice (some a) m c]).run P w=.ok (.slice (some ⟨g,0,none⟩) (n+m) cap) w'/\aL w' base e size (.slice (some ⟨g,0,none⟩) (n+m) cap) (n+m) (xs++news)/\w.grownBy w' (some g)/\w'.heap.size=w.heap.size:=by
 obtain⟨nH,h⟩:=aW;rcases h with ⟨h,_⟩|⟨g',cap',cur,fz,h,Iw,hg,FB,O4,zH,sC,Mx⟩
 ·cases h
 cases h
 subst mW;have km:n * i.size+news.length<=cur.size:=by rw[hl,sC,<-Nat.add_mul];exact Nat.mul_le_mul_right _ rc
 have hr:=run_append_room_cells (P:=P) w t ty e i ht hi g 0 n cap a m c news hl bj h1 rc (fun j hj=>by rw[Nat.zero_add,ae hg];simp;omega)
  (fun j hj=>by
   simp only[World.frozen?,hg,Nat.zero_add];have:=FB (n * i.size+j) (by omega)
   simpa using this)
 rw[Nat.zero_add]at hr;obtain⟨cur',g1,g2,g3⟩:=kO g e fz news (n * i.size) w cur hg km;obtain⟨o1,o2,o3,o4,o5⟩:=eX g news (n * i.size) w;refine⟨_,hr,⟨by rw[List.length_append,nH,hl,Nat.add_mul],.inr ⟨g,cap,cur',fz,rfl,Iw,g1,fun k hk=>FB k (by omega),rc,zH,by omega,?_⟩⟩,⟨o2,o3,o4,by omega,fun k _ hk=>o1 k (fun e=>hk (by rw[e]))⟩,o5⟩;rw[Nat.add_mul,<-hl,g3,Mx]
theorem AB{P:Program} {ops:Array Oper} {rest:List Oper} {o:Oper} {a:Act} {w:World} {Q:Exit->Act->World->Prop} (oL:o.guard=none) (s x:Operand) (t:TypeId)
  (ho:o.op=.call { callee:=.builtin .append,args:=#[s,x],argTypes:=#[t,t] })
  (base:Nat) (e:TypeId) (i:TypeInfo) (size:Nat) (ht:P.underlying t=some (.slice e)) (hi:P.info? e=some i)
  (mW:i.size=size) (g cap n:Nat) (xs:List Value) (hs:a.eval s=.slice (some ⟨g,0,none⟩) n cap) (aW:aL w base e size (.slice (some ⟨g,0,none⟩) n cap) n xs)
  (ad:Addr) (m c:Nat) (news:List Value) (hx:a.eval x=.slice (some ad) m c) (hl:news.length=m * size) (bj:∀ j u,news[j]?=some u->w.cell? (ad.add j)=some u) (h1:∀ u∈news,u.oneCell'=true) (rc:n+m<=cap)
  (h:∀ w',aL w' base e size (.slice (some ⟨g,0,none⟩) (n+m) cap) (n+m) (xs++news)->w.grownBy w' (some g)->w'.heap.size=w.heap.size->wpList P ops Q rest (a.put o.dst (.slice (some ⟨g,0,none⟩) (n+m) cap)) w'):wpList P ops Q (o :: rest) a w:=by
 refine wpList_plain oL fun _ hK=>?_
 obtain⟨w',hr,h2,h3,h4⟩:=F4 (P:=P) w base t o.type e i size ht hi mW g cap n xs aW ad m c news hl bj h1 rc;unfold Oper.wp execOp;simp only[ho,resolve,invoke,builtin,Sem.run_bind,Sem.run_pure,Result.andThen_ok,List.map_toArray,List.map_cons,List.map_nil,hs,hx,hr];exact hK _ _ (h w' h2 h3 h4)
theorem aL.shrink{w:World} {base:Nat} {e:TypeId} {k:Nat} {g cap n m:Nat} {xs ys:List Value} (h:aL w base e k (.slice (some ⟨g,0,none⟩) (n+m) cap) (n+m) (xs++ys)) (hx:xs.length=n * k):aL w base e k (.slice (some ⟨g,0,none⟩) n cap) n xs:=by
 obtain⟨hl,h⟩:=h;rcases h with ⟨h,_⟩|⟨g',cap',cur,fz,h,Iw,hg,FB,O4,zH,sC,ht⟩
 ·cases h
 cases h
 refine⟨hx,.inr ⟨g,cap,cur,fz,rfl,Iw,hg,FB,by omega,zH,sC,?_⟩⟩;have h2:=congrArg (List.take (n * k)) ht;rw[List.take_take,List.take_append_of_le_length (by omega),List.take_of_length_le (by omega:xs.length<=n * k)]at h2;rw[<-h2];congr 1;have:=Nat.mul_le_mul_right k (Nat.le_add_right n m);omega
end Go.Proofs.YtkfgpnbpcpdclaaGreat
