/-
  A part of the proof: lemmas and contracts that the parts behind it use. Each one's conditions are its own premises.
-/
import Derived.Lib.MinMax
import Derived.Laws.Tables
import Derived.Laws.CopyOwn
import Derived.Test.YtmeaoneaephjeaaGreatDoorL6
set_option maxRecDepth 100000
set_option maxHeartbeats 8000000
set_option linter.unusedVariables false
set_option linter.unusedSimpArgs false
namespace Go.Proofs.YtmeaoneaephjeaaGreatDoor
open Go.RowKit Go Go.Shelf
attribute [local go_sem] Oper.semAt_some
def ja(s:Sys) (p e:Nat):Int:=if hasB (fltS s e) p then -1 else finS s e p
theorem WJ{s:Sys} (h:SysOk s) {p e:Nat} (hp:p<nS s) (he:e<eS s):-1<=ja s p e/\ja s p e<=8192:=by
 have h1:=kK h he hp;have h2:=h.tab;unfold ja;split<;>omega
theorem Qn{s:Sys} (h:SysOk s) {p:Nat} (hp:p<nS s) {k:Nat} (hk:k<eS s):(ja s p k<0->firstIx k (fun j=>linkB s p j k)=-1)/\(0<=ja s p k->firstIx k (fun j=>linkB s p j k)=firstIx k fun j=>decide (ja s p j=ja s p k)):=by
 refine⟨fun h1=>dM _ _ fun j hj=>?_,fun h1=>mT _ _ _ fun j hj=>?_⟩
 ·rw[Cz h (show j<eS s by omega) hk hp (ja s p j) (ja s p k) rfl rfl];by_cases e:0<=ja s p j
  ·rw[decide_eq_false (show ¬ ja s p j=ja s p k by omega)];simp
  ·rw[decide_eq_false e];rfl
 ·rw[Cz h (show j<eS s by omega) hk hp (ja s p j) (ja s p k) rfl rfl];by_cases e:ja s p j=ja s p k
  ·rw[decide_eq_true e,decide_eq_true (by omega)];rfl
  ·rw[decide_eq_false e];simp
theorem zJ(s:Sys) (hs:SysOk s) (hE:eS s<=256) (B p:Nat) (hp:p<nS s) (w:World) (h:FinAt w B s) :
  Calls Tryz.prog 129 #[.pointer (some ⟨B,0,none⟩),.int .i64 p] w fun r w'=>∃ u,r=.returned u/\aT w' u (classL s p)/\Below w.heap.size w w':=by
 obtain⟨pl,cl,h1,bQ⟩:=h.open;have H1:=aa h1;have jO:=aa bQ;clear h1 bQ h;obtain⟨i0,cM,bX,bP,bY⟩:=info_parts Tryz.infoInt;obtain⟨f,hf⟩:∃ f,f=fun i=>(classL s p).getD i 0:=⟨_,rfl⟩
 obtain⟨q,hq⟩:∃ q:Nat->Nat->Bool,q=fun k i=>linkB s p k i:=⟨_,rfl⟩
 obtain⟨lc,hlc⟩:∃ lc:Nat->List Value,lc=fun k=>(List.range k).map fun i=>Value.int .i64 (f i):=⟨_,rfl⟩
 have rP:am (lc 0=[]/\(∀ k,lc (k+1)=lc k++[.int .i64 (f k)])/\lc (eS s)=xG (classL s p)):=aa (by
  subst hlc;refine⟨rfl,fun k=>by simp[List.range_succ],?_⟩;subst hf;unfold xG;refine List.ext_getElem (by simp[jA]) fun i h1 h2=>?_
  have h3:i<(classL s p).length:=by simpa using h2
  simp[h3])
 have rP:am (lc 0=[]/\∀ k,lc (k+1)=lc k++[.int .i64 (f k)])/\am (lc (eS s)=xG (classL s p)):=⟨aa ⟨rP.o.1,rP.o.2.1⟩,aa rP.o.2.2⟩;obtain⟨rP,iK⟩:=rP;have CR:am (∀ k,k<eS s->firstIx k (fun j=>q j k)<0->f k=(br q k).2/\(br q (k+1)).2=(br q k).2+1):=aa (fun k hk h=>by subst hf hq;exact IO hk h);have Ak:am (∀ k j,k<eS s->firstIx k (fun j=>q j k)=(j:Nat)->f k=f j/\(br q (k+1)).2=(br q k).2):=aa (fun k j hk h=>by subst hf hq;exact IP hk h);have FR:am (∀ k,k<eS s->(ja s p k<0->firstIx k (fun j=>q j k)=-1)/\(0<=ja s p k->firstIx k (fun j=>q j k)=firstIx k fun j=>decide (ja s p j=ja s p k))):=aa (fun k hk=>by subst hq;exact Qn hs hp hk);have fZ:am (∀ k,k<eS s->-1<=ja s p k/\ja s p k<=8192):=aa fun k hk=>WJ hs hp hk
 have HC:=aa (j8 q)
 have ie:am (∀ w' u,aH w' w.heap.size 3 1 u (eS s) (xG (classL s p))->aT w' u (classL s p)):=aa (fun w' u h=>by
  have hl:=jA s p;refine aH.ints (base:=w.heap.size) (by rw[hl];exact h) (by omega) fun x hx=>?_
  obtain⟨i,hi,rfl⟩:=List.getElem_of_mem hx;have:=mE (qk (fun k i=>linkB s p k i) (eS s)) i hi;have e:(iG (fun k i=>linkB s p k i) (eS s)).getD i 0=(classL s p)[i]:=aA 0 hi;rw[e]at this
  exact⟨by omega,by omega⟩)
 clear hf hq hlc;have DU:=@Il Tryz.prog;have t1:=ab (ar (.map #[] 0) H1.o);obtain⟨n,hn⟩:∃ n,nS s=n:=⟨_,rfl⟩;obtain⟨m,hm⟩:∃ m,eS s=m:=⟨_,rfl⟩;rw[hn]at hp jO t1;rw[hm]at hE jO t1 iK CR Ak FR fZ ie;obtain⟨key,nD⟩:∃ key:Nat->Int,key=ja s p:=⟨_,rfl⟩;rw[<-nD]at FR fZ
 have wZ:am (∀ e,e<m->∃ b o,pl=some ⟨b,o,none⟩/\∃ b' o' cr,w.cell? ⟨b,o+e,none⟩=some (.slice (some ⟨b',o',none⟩) n cr)/\w.cell? ⟨b',o'+p,none⟩=some (.int .i64 (key e))):=aa (fun e he=>by
  obtain⟨b,o,e1,pr,cr,h1,h2⟩:=jO.o e he;obtain⟨b',o',e2,h3⟩:=Fs h2 hp;subst e2
  exact⟨b,o,e1,b',o',cr,h1,by rw[nD];exact h3⟩)
 clear jO H1 nD hn hm hs
 go_enter Tryz.func129,Tryz.ntmps129
 go_wp2_with fail
 clear DU t1;refine bu (fun W=>Below w.heap.size w W/\dy W w.heap.size (fun _=>none) 0) ⟨by go_grown,dy.new w⟩ (fun W0 aZ=>?_);have U0:w.heap.size<=w.heap.size:=Nat.le_refl _;have iU:=aa aZ;clear aZ;obtain⟨M,hM⟩:∃ M,M=w.heap.size:=⟨_,rfl⟩;have Mg:=aa hM;have U0:w.heap.size<=M:=by omega
 rw[<-hM]at iU ⊢;clear hM
 go_loopw [6,7,19] (fun ov nv i wr=>∃ k:Nat,k<=m/\i=.int .i64 k/\Below w.heap.size w wr/\aH wr w.heap.size 3 1 ov k (lc k)/\nv=.int .i64 (br q k).2/\∃ g c,dy wr M g c/\∀ y,0<=y->g y=dJ key f k y) (fun _ _ i _=>m - (intOf i).toNat)
 ·exact⟨0,by omega,rfl,by have h:=iU.o.1;rw[Mg.o]at h;exact h,by rw[rP.o.1];exact aH.nil _ _ _ _,rfl,_,_,iU.o.2,fun y _=>rfl⟩
 ·
  clear iU;obtain⟨k,hk,rfl,az,aS,rfl,g,c,hM,hg⟩:=hrel;have CV:=az.size;have hML:=hM.lt;obtain⟨av,cv,rfl⟩:=aS.slice;have bG:=aa aS;have aP:=aa az;have HG:=aa hg;have HM:=aa hM;clear aS hg;by_cases aB:k<m
  ·obtain⟨b,o,rfl,b',o',cr,c1,c2⟩:=wZ.o k aB;have d1:=ak az c1;have d2:=ak az c2;have vA:=FR.o k aB;have cW:=fZ.o k aB;have hc:=HC.o k;clear c1 c2 az;obtain⟨x,dj⟩:∃ x,key k=x:=⟨_,rfl⟩;rw[dj]at d2 vA cW;obtain⟨nx,mO⟩:∃ nx,(br q k).2=nx:=⟨_,rfl⟩;rw[mO]at hc ⊢;obtain⟨Ay,kZ,_⟩:=hc;have Am:=Fh (mt:=245) (kt:=3) (vt:=3) Tryz.underlying245 Tryz.underlying3 (fun w=>by kernel_rfl) hM x;by_cases hx:x<0
   ·have Vv:decide (x<0)=true:=decide_eq_true hx;obtain⟨e1,e2⟩:=CR.o k aB (by rw[vA.1 hx];omega);have Ey:am (f k=nx):=aa (e1.trans mO);have eO:am ((br q (k+1)).2=nx+1):=aa (by rw[e2,mO])
    have jR:am (∀ y,0<=y->(if y=x then some nx else g y)=dJ key f (k+1) y):=aa (fun y hy=>by
     rw[if_neg (by omega),HG.o y hy];unfold dJ
     rw[show firstIx (k+1) (fun j=>decide (key j=y))=firstIx k (fun j=>decide (key j=y)) by
      rcases bE k (fun j=>decide (key j=y)) with ⟨e,h⟩|⟨j,hj,e,h,h'⟩
      ·rw[e,dM];intro j hj;by_cases ej:j=k
       ·subst ej;exact decide_eq_false (by omega)
       ·exact h j (by omega)
      ·rw[e];exact dk (k+1) j _ (by omega) h' h])
    clear e1 e2 vA mO dj;cases BI:g x with
    | none=>
     rw[BI]at Am;clear BI;obtain⟨o,L',sO⟩:=wh (mt:=245) (kt:=3) (vt:=3) Tryz.underlying245 Tryz.underlying3 HM.o x nx;have y':=aa sO;clear sO hM;have l5:=HM.o.other;obtain⟨om,l5,uK⟩:=l5;have GY:=aa (And.intro l5 uK);clear l5 uK;have dz:=aa ((bG.o.ck (fun b o' gp lC=>(World.putObj_heap_other (fun e=>by subst e;rw[GY.o.1]at gp;cases gp;rw[GY.o.2]at lC;cases lC)).trans gp):aH (wr.putObj M o) w.heap.size 3 1 (.slice av k cv) k (lc k)).up (Below.refl _ _ |>.alloc (Nat.le_refl _) (.cells #[.int .i64 nx] 3)));have bA:=aa (by have h:=dx (wr.putObj M o) [.int .i64 nx] 3;rw[show (wr.putObj M o).heap.size=wr.heap.size by simp]at h;exact h);have Aw:=aa (eX (D:=M) (o:=o) U0 aP.o)
     go_wp2_with (at_builtin;(refine aX _ rfl (.tmp 45) (.tmp 47) 38 rfl w.heap.size 3 i0 _ 1 8 Tryz.underlying38 cM bX bP bY rfl (by decide) _ k _ rfl dz.o ⟨wr.heap.size,0,none⟩ 1 1 [.int .i64 nx] rfl rfl bA.o (by simp[Value.oneCell']) (by unfold maxLen;omega) (by omega) (by simp;omega) ?_;intro v' w2 fX dC _))
     go_roundw
     ·
      refine⟨k+1,by omega,by go_num,dB Aw.o (Nat.le_refl _) dz.o dC,?_,?_,?_⟩
      ·rw[rP.o.2 k,Ey.o];exact fX
      ·rw[eO.o]
      ·refine⟨_,_,y'.o.kept ?_,fun y hy=>?_⟩
       ·obtain⟨o3,h3,JU⟩:=y'.o.other;rw[nM dz.o dC h3 JU,h3]
       ·rw[jR.o y hy]
        try rw[HG.o y hy]
     ·simp[intOf];omega
    | some z=>
     rw[BI]at Am;clear BI;obtain⟨o,L',sO⟩:=wh (mt:=245) (kt:=3) (vt:=3) Tryz.underlying245 Tryz.underlying3 HM.o x nx;have y':=aa sO;clear sO hM;have l5:=HM.o.other;obtain⟨om,l5,uK⟩:=l5;have GY:=aa (And.intro l5 uK);clear l5 uK;have dz:=aa ((bG.o.ck (fun b o' gp lC=>(World.putObj_heap_other (fun e=>by subst e;rw[GY.o.1]at gp;cases gp;rw[GY.o.2]at lC;cases lC)).trans gp):aH (wr.putObj M o) w.heap.size 3 1 (.slice av k cv) k (lc k)).up (Below.refl _ _ |>.alloc (Nat.le_refl _) (.cells #[.int .i64 nx] 3)));have bA:=aa (by have h:=dx (wr.putObj M o) [.int .i64 nx] 3;rw[show (wr.putObj M o).heap.size=wr.heap.size by simp]at h;exact h);have Aw:=aa (eX (D:=M) (o:=o) U0 aP.o)
     go_wp2_with (at_builtin;(refine aX _ rfl (.tmp 45) (.tmp 47) 38 rfl w.heap.size 3 i0 _ 1 8 Tryz.underlying38 cM bX bP bY rfl (by decide) _ k _ rfl dz.o ⟨wr.heap.size,0,none⟩ 1 1 [.int .i64 nx] rfl rfl bA.o (by simp[Value.oneCell']) (by unfold maxLen;omega) (by omega) (by simp;omega) ?_;intro v' w2 fX dC _))
     go_roundw
     ·
      refine⟨k+1,by omega,by go_num,dB Aw.o (Nat.le_refl _) dz.o dC,?_,?_,?_⟩
      ·rw[rP.o.2 k,Ey.o];exact fX
      ·rw[eO.o]
      ·refine⟨_,_,y'.o.kept ?_,fun y hy=>?_⟩
       ·obtain⟨o3,h3,JU⟩:=y'.o.other;rw[nM dz.o dC h3 JU,h3]
       ·rw[jR.o y hy]
        try rw[HG.o y hy]
     ·simp[intOf];omega
   ·have Vv:decide (x<0)=false:=decide_eq_false hx;have BI:=HG.o x (by omega);cases B2:dJ key f k x with
    | none=>
     rw[BI,B2]at Am
     obtain⟨e1,e2⟩:=CR.o k aB (by
      rw[vA.2 (by omega)];rw[<-dj];unfold dJ at B2;rw[dj];split at B2
      ·assumption
      ·cases B2)
     have Ey:am (f k=nx):=aa (e1.trans mO);have eO:am ((br q (k+1)).2=nx+1):=aa (by rw[e2,mO])
     have jR:am (∀ y,0<=y->(if y=x then some nx else g y)=dJ key f (k+1) y):=aa (fun y hy=>by
      have h:=zj (key:=key) (f:=f) (k:=k) (by rw[dj];exact B2) y;rw[dj,Ey.o]at h
      rw[h,HG.o y hy])
     clear e1 e2 vA mO dj B2 BI;obtain⟨o,L',sO⟩:=wh (mt:=245) (kt:=3) (vt:=3) Tryz.underlying245 Tryz.underlying3 HM.o x nx;have y':=aa sO;clear sO hM;have l5:=HM.o.other;obtain⟨om,l5,uK⟩:=l5;have GY:=aa (And.intro l5 uK);clear l5 uK;have dz:=aa ((bG.o.ck (fun b o' gp lC=>(World.putObj_heap_other (fun e=>by subst e;rw[GY.o.1]at gp;cases gp;rw[GY.o.2]at lC;cases lC)).trans gp):aH (wr.putObj M o) w.heap.size 3 1 (.slice av k cv) k (lc k)).up (Below.refl _ _ |>.alloc (Nat.le_refl _) (.cells #[.int .i64 nx] 3)));have bA:=aa (by have h:=dx (wr.putObj M o) [.int .i64 nx] 3;rw[show (wr.putObj M o).heap.size=wr.heap.size by simp]at h;exact h);have Aw:=aa (eX (D:=M) (o:=o) U0 aP.o)
     go_wp2_with (at_builtin;(refine aX _ rfl (.tmp 45) (.tmp 47) 38 rfl w.heap.size 3 i0 _ 1 8 Tryz.underlying38 cM bX bP bY rfl (by decide) _ k _ rfl dz.o ⟨wr.heap.size,0,none⟩ 1 1 [.int .i64 nx] rfl rfl bA.o (by simp[Value.oneCell']) (by unfold maxLen;omega) (by omega) (by simp;omega) ?_;intro v' w2 fX dC _))
     go_roundw
     ·
      refine⟨k+1,by omega,by go_num,dB Aw.o (Nat.le_refl _) dz.o dC,?_,?_,?_⟩
      ·rw[rP.o.2 k,Ey.o];exact fX
      ·rw[eO.o]
      ·refine⟨_,_,y'.o.kept ?_,fun y hy=>?_⟩
       ·obtain⟨o3,h3,JU⟩:=y'.o.other;rw[nM dz.o dC h3 JU,h3]
       ·rw[jR.o y hy]
        try rw[HG.o y hy]
     ·simp[intOf];omega
    | some z=>
     rw[BI,B2]at Am;obtain⟨j,hj,e3,e4,e5⟩:=rY B2;obtain⟨e1,e2⟩:=Ak.o k j aB (by rw[vA.2 (by omega)];exact e3);have Ey:am (f k=z):=aa (by rw[e1,e5]);have eO:am ((br q (k+1)).2=nx):=aa (by rw[e2,mO]);have jR:am (∀ y,dJ key f (k+1) y=dJ key f k y):=aa (zk (z:=z) (by rw[dj];exact B2));clear e1 e2 e3 e4 e5 vA mO dj B2 BI;clear hM;have dz:=aa (bG.o.up (Below.refl _ _ |>.alloc (Nat.le_refl _) (.cells #[.int .i64 z] 3)));have bA:=aa (dx wr [.int .i64 z] 3)
     go_wp2_with (at_builtin;(refine aX _ rfl (.tmp 45) (.tmp 47) 38 rfl w.heap.size 3 i0 _ 1 8 Tryz.underlying38 cM bX bP bY rfl (by decide) _ k _ rfl dz.o ⟨wr.heap.size,0,none⟩ 1 1 [.int .i64 z] rfl rfl bA.o (by simp[Value.oneCell']) (by unfold maxLen;omega) (by omega) (by simp;omega) ?_;intro v' w2 fX dC _))
     go_roundw
     ·
      refine⟨k+1,by omega,by go_num,dB aP.o (Nat.le_refl _) dz.o dC,?_,?_,?_⟩
      ·rw[rP.o.2 k,Ey.o];exact fX
      ·rw[eO.o]
      ·refine⟨_,_,HM.o.kept ?_,fun y hy=>?_⟩
       ·obtain⟨o3,h3,JU⟩:=HM.o.other;rw[nM dz.o dC h3 JU,h3]
       ·rw[HG.o y hy,jR.o y]
     ·simp[intOf];omega
  ·obtain rfl:k=m:=by omega
   rw[iK.out]at bG;clear hM
   go_wp2_with fail
   go_ret
   exact⟨_,rfl,ie.o _ _ bG.o,aP.o⟩
theorem Jp{w:World} {base:Nat} {v:Value} {l:List (List Int)} (h:qS w base v l) (hr:∀ x∈l,∀ y∈x,bN y) (hn:l.length<=1048576) (nV:∀ x∈l,x.length<=1048576):eD w v l:=by
 obtain⟨xs,h1,h2⟩:=h;have h3:=aH.of_owns h1;have hl:xs.length=l.length:=by have:=h3.1;omega
 exact oF ⟨xs,h3,fun i hi=>⟨xs[i]'(by omega),by rw[List.getElem?_eq_getElem],aH.of_owns (h2 i hi (by omega))⟩⟩ hr hn nV
theorem DE{s:Sys} (h:SysOk s) {e:Nat} (he:e<eS s):iY s.prob.t (cN s e).c (fltS s e)=0:=by
 have h1:=h.cas e he;have h2:=h.flt e he;have h3:=(sp h.prob).1;unfold iY;rw[if_neg (by omega),if_neg (by omega),if_neg];have h4:s.prob.t.n.toNat=nS s:=by have:=h.n;omega
 rw[h4];omega
theorem Ln{s:Sys} (h:SysOk s) {e:Nat} (he:e<eS s):iZ s.prob.t (cN s e).c (fltS s e)=vecE s e:=by
 unfold iZ;rw[if_neg (by rw[DE h he];simp)];rfl
def vq(s:Sys) (e j x:Nat):Bool:=anyLt j fun i=>decide (((vecE s e).getD i []).getD 0 0=(x:Int))
theorem WK(s:Sys) (e j v:Nat) (hv:v<8) (h:((vecE s e).getD j []).getD 0 0=(v:Int)):maskN (vq s e j) 8 ||| 2 ^ v=maskN (vq s e (j+1)) 8:=by
 rw[<-Pq hv,So];refine Bg fun x _=>?_
 show (vq s e j x || decide (x=v))=(vq s e j x || decide (((vecE s e).getD j []).getD 0 0=(x:Int)))
 congr 1;rw[h,decide_eq_decide];omega
theorem WL(s:Sys) (e:Nat):maskN (vq s e 0) 8=0:=(kF _ _).2 ((fA _ _).2 fun _ _=>rfl)
theorem Gm{s:Sys} (h:SysOk s) (ha:agreeB s.prob.t=true) {e:Nat} (he:e<eS s) {v:List Int} (hv:v∈vecE s e):constB v=true/\v=List.replicate (nS s) (v.getD 0 0)/\0<=v.getD 0 0/\v.getD 0 0<oS s/\v.length=nS s:=by
 obtain⟨_,h2⟩:=zu h he;obtain⟨h3,h4,i,j,hi,hj,h5⟩:=h2 v hv;have hc:=(nH _).1 ha i hi j hj;rw[<-h5]at hc;have hn:=h.n;have h6:=F9 hc;have h7:=h4 (v.getD 0 0) (by rw[show v.getD 0 0=v[0]'(by omega) by simp[show 0<v.length by omega]];exact List.getElem_mem _);exact⟨hc,by rw[<-h3];exact h6,h7.1,h7.2,h3⟩
theorem XA{s:Sys} (h:SysOk s) (ha:agreeB s.prob.t=true) {e:Nat} (he:e<eS s):maskN (vq s e (vecE s e).length) 8=il s e:=by
 refine Bg fun x _=>?_
 rw[Bool.eq_iff_iff,E7];unfold vq;rw[lD];constructor
 ·rintro⟨k,hk,h1⟩;have h2:(vecE s e)[k]∈vecE s e:=List.getElem_mem hk;have h3:=(Gm h ha he h2).2.1;rw[aA [] hk]at h1;rw[of_decide_eq_true h1]at h3;rw[<-h3];exact h2
 ·intro h1;obtain⟨k,hk,e1⟩:=List.getElem_of_mem h1;refine⟨k,hk,?_⟩;rw[aA [] hk,e1];have hn:=h.n.1;simp[show 0<nS s by omega]
theorem vM{m k:Nat} (hm:m<1024) (hk:k<=30):bits .or .i64 ((m:Nat):Int) (wrap64 ((2:Int) ^ k))=((m ||| 2 ^ k:Nat):Int):=by
 have h2:(2:Nat) ^ k<=2 ^ 30:=Nat.pow_le_pow_right (by omega) hk;rw[Jo hk,xl _ _ (by omega) (by omega)]
theorem Qo(y x:Int) (b:Nat) (a:Addr) (n c:Nat) (hn:0<n) (W:World) (h1:W.cell? ⟨b,0,none⟩=some (.slice (some a) n c)) (h2:W.cell? a=some (.int .i64 x)) :
  Calls Tryz.prog 127 #[.int .i64 y,.pointer (some ⟨b,0,none⟩)] W fun e W'=>e=.returned (.bool (y != x))/\Below W.heap.size W W':=by
 go_enter Tryz.func127,Tryz.ntmps127
 go_wp2_with fail
 go_ret
 exact⟨rfl,by go_grown⟩
theorem Qp(l:List Int) (hc:constB l=true) (a:Option Addr) (c b:Nat) (W:World) (hv:aT W (.slice a l.length c) l) (hB:W.heap[b]?=some (.cells #[.slice a l.length c] 38)) :
  Calls Tryz.prog 106 #[.slice a l.length c,.func (.func 127) #[] #[.pointer (some ⟨b,0,none⟩)]] W fun e W'=>e=.returned (.bool false)/\Below W.heap.size W W':=by
 refine(kI 127 #[.pointer (some ⟨b,0,none⟩)] (enters_of Tryz.func127 (by kernel_rfl) rfl) _ l (fun i=>decide (l.getD i 0≠l.getD 0 0)) W hv (fun i hi W2 a8=>?_)).mono fun e W' ⟨h1,h2⟩=>⟨?_,h2⟩
 ·obtain⟨pa,ca,e1,_,_,ea⟩:=hv.at;injection e1 with e1 _ _
  subst e1;obtain⟨b0,o0,e0,h0,_⟩:=ea 0 (by omega);rw[Nat.zero_mul,Nat.add_zero]at h0;have:=Qo l[i] (l.getD 0 0) b ⟨b0,o0,none⟩ l.length c (by omega) W2 (by rw[ab (af a8 hB),e0];rfl) (by rw[aA 0 (show 0<l.length by omega)];exact ak a8 h0);refine this.mono fun e W' ⟨h1,h2⟩=>⟨?_,h2⟩
  rw[h1,aA 0 hi];have hx:(l[i] != l.getD 0 0)=decide (l[i]≠l.getD 0 0):=by rw[Bool.eq_iff_iff];simp
  rw[hx]
 ·rw[h1];unfold constB at hc;rw[Bool.not_eq_true']at hc;rw[hc]
theorem SV(s:Sys) (hs:SysOk s) (ha:agreeB s.prob.t=true) (e:Nat) (he:e<eS s) (vc:Value) (pw:Option Addr) (nw cw:Nat) (vv:Value) (w:World) (hv:bS w vc s.prob.t.cases) (mS:nw<=6)
  (eU:0<nw->∃ b1 o1,pw=some ⟨b1,o1,none⟩/\w.cell? ⟨b1,o1+(nw - 1) * 7+6,none⟩=some (.int .i64 (fltS s e))) (hZ:nw=0->fltS s e=0) :
  Calls Tryz.prog 77 #[.agg #[.int .i64 s.prob.t.n,.int .i64 s.prob.t.ins,.int .i64 s.prob.t.outs,vc],.agg #[.int .i64 (cN s e).c,.slice pw nw cw,vv]] w fun r w'=>r=.returned (.tuple #[.int .i64 (il s e:Nat),.int .i64 0])/\Below w.heap.size w w':=by
 have HA:=aa (fun W (hb:Below w.heap.size w W)=>Ld s.prob.t vc (cN s e).c (fltS s e) W (hv.up up_case hb));rw[DE hs he,Ln hs he]at HA
 have rQ:=aa (fun (W:World) (base:Nat) (u:Value) (h:qS W base u (vecE s e))=>Jp h (fun x hx y hy=>by
  have h1:=(zu hs he).2 x hx;have h2:=h1.2.1 y hy;have h3:=hs.outs;exact⟨by omega,by omega⟩) (by
  have h1:=hs.cas e he;have h2:=(fB (sp hs.prob).1).2.2.2.2 (s.prob.t.cases.getD (cN s e).c.toNat default) (by rw[aA default h1.2];exact List.getElem_mem _);have h3:=LG h2 (fltS s e);have h4:vecE s e=gt (s.prob.t.cases.getD (cN s e).c.toNat default) (fltS s e):=rfl;rw[h4]
  omega) (fun x hx=>by have:=((zu hs he).2 x hx).1;have:=hs.n;omega))
 have HCON:=aa (fun (v:List Int) (hv:v∈vecE s e)=>Gm hs ha he hv);have dT:=aa (fun j v=>WK s e j v);have nB:=aa (XA hs ha he);have HZ:=aa (WL s e);have hos:=hs.outs.2.1;obtain⟨pc,cc,rfl,l1,m1,e1⟩:=hv.at;clear hv e1 ha;generalize vecE s e=vl at HA rQ HCON dT nB;by_cases hw:nw=0
 case' pos=>
  have hz:=hZ hw;subst hw;rw[hz]at HA
  go_enter Tryz.func77,Tryz.ntmps77
  go_wp2_with fail
 case' neg=>
  obtain⟨q,rfl⟩:∃ q,nw=q+1:=⟨nw - 1,by omega⟩;obtain⟨b1,o1,rfl,c5⟩:=eU (by omega);rw[Nat.add_sub_cancel]at c5;have d5:∀ o1' o2',((w.alloc o1').alloc o2').cell? ⟨b1,o1+q * 7+6,none⟩=some (.int .i64 (fltS s e)):=fun o1' o2'=>ak (by go_grown) c5
  clear c5 eU hZ
  go_enter Tryz.func77,Tryz.ntmps77
  go_wp2_with fail
  clear d5
 all_goals
  refine aN (fun W=>Below w.heap.size w W) (by go_grown) (fun W0 aI=>?_);refine(HA.o W0 aI).mono ?_;rintro r w1 ⟨u,rfl,hu,aJ⟩;have HU:=aa (rQ.o _ _ _ hu);obtain⟨pu,cu,rfl,lu1,lu2,eu⟩:=HU.o.at;have EU:=aa eu;have bK:=aa (ae aI aJ);clear hu aI aJ eu
  go_wp2_with fail
  go_loopw [10,35] (fun o i wr=>∃ j:Nat,j<=vl.length/\i=.int .i64 j/\o=.int .i64 (maskN (vq s e j) 8:Nat)/\Below w1.heap.size w1 wr) (fun _ i _=>vl.length - (intOf i).toNat)
  ·exact⟨0,by omega,rfl,by rw[HZ.o];rfl,Below.refl _ _⟩
  ·
   obtain⟨j,hj,rfl,rfl,az⟩:=hrel;have aP:=aa az;by_cases aB:j<vl.length
   ·obtain⟨b3,o3,rfl,vx,cvx,GR⟩:=EU.o j aB;have dv:=ak az cvx;have Ej:=aa (GR.up up_int az);obtain⟨pv,cv,rfl,lv1,lv2,ev⟩:=Ej.o.at;obtain⟨g1,g2,g3,g4,g5⟩:=HCON.o vl[j] (List.getElem_mem aB);have MN:vl.getD j []=vl[j]:=aA [] aB;have ra:=aa (dT.o j);rw[MN]at ra;rw[Nat.mul_one]at dv;generalize vl[j]=v at dv Ej lv1 lv2 ev g1 g2 g3 g4 g5 ra;have fj:=hs.n.1;obtain⟨b4,o4,rfl,c4,-⟩:=ev 0 (by omega);have Wa:v[0]'(by omega)=v.getD 0 0:=(aA 0 (by omega)).symm;rw[Wa,Nat.zero_mul,Nat.add_zero]at c4;obtain⟨v0,jF⟩:∃ v0:Nat,v.getD 0 0=v0:=⟨(v.getD 0 0).toNat,by omega⟩;rw[jF]at c4 g4 ra;have hv8:v0<8:=by omega
    have Aq:=aa (ra.o v0 hv8 rfl);have pE:=aa g1;have cC:0<v.length:=by omega
    have Yn:=aa c4;have hmlt:maskN (vq s e j) 8<256:=gd _ 8;have AC:=aa hmlt;clear cvx GR az ev g1 g2 g3 g4 g5 MN Wa jF c4 hmlt ra fj
    go_wp2_with fail
    clear dv;refine aN (fun W=>Below wr.heap.size wr W/\W.heap[wr.heap.size]?=some (.cells #[.slice (some ⟨b4,o4,none⟩) v.length cv] 38)) ⟨by go_grown,aq _ _⟩ (fun W3 nY=>?_);obtain⟨bH,YH⟩:=nY;refine(Qp v pE.o _ cv wr.heap.size W3 (Ej.o.up up_int bH) YH).mono ?_;rintro r w4 ⟨rfl,cj⟩;have tb:=ab (af cj YH) 0;simp at tb;have t0:=ak (ae bH cj) Yn.o;have eG:=aa (ae bH cj);clear bH cj YH
    go_wp2_with fail
    go_roundw
    ·exact⟨j+1,by omega,by go_num,qK (by rw[<-Aq.o];exact vM (by have:=AC.o;omega) (by omega)),ae aP.o eG.o⟩
    ·simp[intOf];omega
   ·have HR:am (maskN (vq s e j) 8=il s e):=aa (by rw[<-nB.o,show j=vl.length by omega])
    go_wp2_with fail
    go_ret2
    exact⟨by rw[HR.o];simp,ae bK.o aP.o⟩
theorem Qq(x:Nat) (hx:x<256) (dj:x≠0) (w:World) (hT:iH w) :
  Calls Tryz.prog 178 #[.int .u64 x] w fun e w'=>e=.returned (.int .i64 (Lib.ctz 64 x))/\w=w':=by
 obtain⟨OI,hk⟩:=Lib.lowest_bit 64 x dj (by omega);obtain⟨hi,z6⟩:=Lib.deBruijn64_at _ hk;have eQ:=hT _ hi;rw[z6]at eQ;exact Wz x _ _ w (by simp;omega) (tz64_key x _ (by omega) dj OI) hi hk eQ
theorem WM(x:Nat) (hx:x<256) (dj:x≠0) (w:World) (hT:iH w) :
  Calls Tryz.prog 133 #[.int .u64 x] w fun e w'=>e=.returned (.int .i64 (Lib.ctz 64 x))/\w=w':=by
 have HC:=aa (Qq x hx dj w hT);clear hT
 go_enter Tryz.func133,Tryz.ntmps133
 go_wp2_with fail
 refine HC.o.mono ?_;rintro e w' ⟨rfl,rfl⟩
 go_wp2_with fail
 go_ret
 exact⟨rfl,rfl⟩
theorem ctz_first:∀ x,x<256->x≠0->((Lib.ctz 64 x:Nat):Int)=firstIx 8 fun i=>x.testBit i:=by decide +kernel
theorem DF(q:Nat->Bool) (w:World) (hT:iH w) :
  Calls Tryz.prog 83 #[.int .i64 (maskN q 8:Nat)] w fun e w'=>e=.returned (.int .i64 (firstIx 8 q))/\w=w':=by
 have aB:maskN q 8<256:=gd q 8;have HZ:am (maskN q 8=0->firstIx 8 q=-1):=aa fun h=>dM _ _ ((fA _ _).1 ((kF q 8).1 h))
 have HN:am (maskN q 8≠0->((Lib.ctz 64 (maskN q 8):Nat):Int)=firstIx 8 q):=aa fun h=>by
  rw[ctz_first _ aB h];refine mT _ _ _ fun j hj=>?_
  rw[dY,decide_eq_true hj,Bool.true_and]
 have HC:=aa (fun h=>WM (maskN q 8) aB h w hT);generalize maskN q 8=x at *;clear hT;by_cases h0:x=0
 ·have HR:=aa (HZ.o h0);have hd:((x:Int) == 0)=true:=by simp[h0]
  clear h0
  go_enter Tryz.func83,Tryz.ntmps83
  go_wp2_with fail
  go_ret
  exact⟨aG (by rw[HR.o]),rfl⟩
 ·have HR:=aa (HN.o h0);have pQ:=aa (HC.o h0);have hd:((x:Int) == 0)=false:=by simp;omega
  have hw:IntKind.u64.wrap (x:Int)=x:=by simp[IntKind.wrap,IntKind.bits];omega
  clear h0
  go_enter Tryz.func83,Tryz.ntmps83
  go_wp2_with fail
  refine pQ.o.mono ?_;rintro e w' ⟨rfl,rfl⟩
  go_wp2_with fail
  go_ret
  exact⟨aG (by rw[HR.o]),rfl⟩
def maxTo(l:List Int):Nat->Int
 | 0=>l.getD 0 0
 | k+1=>max (maxTo l k) (l.getD (k+1) 0)
theorem Jq(l:List Int):∀ k i,i<=k->l.getD i 0<=maxTo l k
 | 0,i,h=>by
  obtain rfl:i=0:=by omega
  exact Int.le_refl _
 | k+1,i,h=>by
  rw[maxTo];by_cases e:i=k+1
  ·subst e;omega
  ·have:=Jq l k i (by omega);omega
theorem CC(l:List Int):∀ k,∃ i,i<=k/\maxTo l k=l.getD i 0
 | 0=>⟨0,Nat.le_refl _,rfl⟩
 | k+1=>by
  obtain⟨i,hi,e⟩:=CC l k;rw[maxTo];by_cases h:maxTo l k<=l.getD (k+1) 0
  ·exact⟨k+1,Nat.le_refl _,by omega⟩
  ·exact⟨i,by omega,by omega⟩
theorem If(v:Value) (l:List Int) (w:World) (hv:aT w v l) (h0:0<l.length) :
  Calls Tryz.prog 82 #[v] w fun e w'=>e=.returned (.int .i64 (maxTo l (l.length - 1)))/\w=w':=by
 obtain⟨pa,ca,rfl,lt1,lt2,ea⟩:=hv.at;have EA:=aa ea;obtain⟨b0,o0,rfl,c0,-⟩:=ea 0 h0;rw[Nat.zero_mul,Nat.add_zero,<-aA 0 h0]at c0;clear hv ea
 go_enter Tryz.func82,Tryz.ntmps82
 go_wp2_with fail
 clear c0
 go_loop [3,4] (fun m i=>∃ k:Nat,k<l.length/\i=.int .i64 ((k:Int)+1)/\m=.int .i64 (maxTo l k)) (fun _ i=>l.length+1 - (intOf i).toNat)
 ·exact⟨0,h0,rfl,qK (by rw[maxTo,aA 0 h0])⟩
 ·
  obtain⟨k,hk,rfl,rfl⟩:=hrel;by_cases aB:k+1<l.length
  ·obtain⟨b1,o1,e1,c1,-⟩:=EA.o (k+1) aB;cases e1;rw[Nat.mul_one,<-aA 0 aB]at c1;have c2:w.cell? ⟨b0,o0+(k+1),none⟩=some (.int .i64 (l.getD (k+1) 0)):=c1;have HM:am (maxTo l (k+1)=max (maxTo l k) (l.getD (k+1) 0)):=aa rfl;generalize l.getD (k+1) 0=x at c1 c2 HM;generalize maxTo l k=m at HM;have mx:(k:Int)+1<(l.length:Int):=by omega
   go_wp2_with fail
   go_round
   ·exact⟨k+1,aB,by go_num,qK (by rw[HM.o])⟩
   ·simp[intOf];omega
  ·have mx:¬ (k:Int)+1<(l.length:Int):=by omega
   have HK:am (l.length - 1=k):=aa (by omega)
   go_wp2_with fail
   go_ret
   exact⟨aG (by rw[HK.o]),rfl⟩
end Go.Proofs.YtmeaoneaephjeaaGreatDoor
namespace Go.Proofs.YtmeaoneaephjeaaGreatDoor
open Go.RowKit Go Go.Shelf
def ka(v:Vw):Prop:=bN v.p/\bN v.k/\bN v.i/\bN v.h0/\bN v.h1/\bN v.h2/\bN v.h3/\bN v.h4
theorem SW(B:Nat) (st:List Vw × List Int) (v:Vw) (hv:ka v) (h1:∀ u∈st.1,ka u) (h2:∀ z∈st.2,0<=z/\z<=B) (hl:st.1.length<=B):(∀ u∈(ig st v).1,ka u)/\∀ z∈(ig st v).2,0<=z/\z<=(B:Int):=by
 unfold ig;refine⟨fun u hu=>?_,fun z hz=>?_⟩
 ·unfold putV at hu;dsimp only at hu;split at hu
  ·exact h1 u hu
  ·rcases List.mem_append.1 hu with h|h
   ·exact h1 u h
   ·rw[List.mem_singleton]at h;subst h;exact hv
 ·rcases List.mem_append.1 hz with h|h
  ·exact h2 z h
  ·rw[List.mem_singleton]at h;subst h;have:=WB st.1 v;omega
theorem zK(B:Nat) (vs:List Vw):∀ st:List Vw × List Int,(∀ v∈vs,ka v)->(∀ u∈st.1,ka u)->(∀ z∈st.2,0<=z/\z<=(B:Int))->st.1.length+vs.length<=B->(∀ u∈(vs.foldl ig st).1,ka u)/\∀ z∈(vs.foldl ig st).2,0<=z/\z<=(B:Int):=by
 induction vs with
 | nil=>intro st _ h1 h2 _;exact⟨h1,h2⟩
 | cons v r ih=>
  intro st hv h1 h2 hl;simp only[List.length_cons]at hl;have h3:=SW B st v (hv v (by simp)) h1 h2 (by omega);have h4:=(F2 st v).2;exact ih _ (fun u hu=>hv u (by simp[hu])) h3.1 h3.2 (by omega)
theorem Qr(st:List Vw × List Int) (v:Vw):st.1.length<=(ig st v).1.length:=by
 unfold ig putV;dsimp only;split<;>simp
theorem DG(vs:List Vw):∀ st:List Vw × List Int,st.1.length<=(vs.foldl ig st).1.length:=by
 induction vs with
 | nil=>intro st;exact Nat.le_refl _
 | cons v r ih=>intro st;exact Nat.le_trans (Qr st v) (ih _)
theorem DH(n:Nat) (inp:List Int) (word:List Rd) (tb:List Vw):∀ k,tb.length<=(playTo n inp word tb k).1.length
 | 0=>DG _ (tb,[])
 | k+1=>Nat.le_trans (DH n inp word tb k) (DG (fW n k (word.getD k default) ((playTo n inp word tb k).2.getLastD [])) ((playTo n inp word tb k).1,[]))
theorem ww(k:Nat) (h:k<=1000000):bN (k:Int):=⟨by omega,by omega⟩
theorem zL(n:Nat) (hn:n<=5) (inp:List Int) (hi:∀ x∈inp,bN x) (word:List Rd) (tb:List Vw) (ht:∀ v∈tb,ka v):∀ k,k<=6->tb.length+40<=100000->(∀ v∈(playTo n inp word tb k).1,ka v)/\∀ row∈(playTo n inp word tb k).2,∀ z∈row,0<=z/\z<=(100000:Int)
 | 0,_,hl=>by
  have h:=zK 100000 (gy inp n) (tb,[]) (fun v hv=>by
   obtain⟨p,hp,rfl⟩:=List.mem_map.1 hv;have hp:=List.mem_range.1 hp
   have hx:bN (inp.getD p 0):=by
    by_cases h:p<inp.length
    ·rw[aA 0 h];exact hi _ (List.getElem_mem h)
    ·rw[List.getD_eq_getElem?_getD,List.getElem?_eq_none (by omega)];exact⟨by simp,by simp⟩
   exact⟨ww p (by omega),⟨by simp[eE],by simp[eE]⟩,hx,⟨by simp[eE],by simp[eE]⟩,⟨by simp[eE],by simp[eE]⟩,⟨by simp[eE],by simp[eE]⟩,⟨by simp[eE],by simp[eE]⟩,⟨by simp[eE],by simp[eE]⟩⟩) ht (fun z hz=>by simp at hz) (by simp;omega)
  exact⟨h.1,fun row hr z hz=>by
   have:row=(addAll tb (gy inp n)).2:=by simpa[playTo,v7] using hr
   subst this
   exact h.2 z hz⟩
 | k+1,hk,hl=>by
  obtain⟨h1,h2⟩:=zL n hn inp hi word tb ht k (by omega) hl;have cC:=iI n inp word tb k;have h9:n * (k+1)<=5 * 7:=Nat.mul_le_mul hn (by omega);have e:(playTo n inp word tb (k+1)).2=(playTo n inp word tb k).2++[(addAll (playTo n inp word tb k).1 (fW n k (word.getD k default) ((playTo n inp word tb k).2.getLastD []))).2]:=rfl
  have qF:∀ q,0<=((playTo n inp word tb k).2.getLastD []).getD q 0/\((playTo n inp word tb k).2.getLastD []).getD q 0<=(100000:Int):=fun q=>by
   have hm:(playTo n inp word tb k).2.getLastD []∈(playTo n inp word tb k).2:=by
    rcases List.eq_nil_or_concat (playTo n inp word tb k).2 with h|⟨l',a,h⟩
    ·rw[h]at cC;simp at cC
    ·rw[h,List.concat_eq_append,List.getLastD_concat];simp
   by_cases h:q<((playTo n inp word tb k).2.getLastD []).length
   ·rw[aA 0 h];exact h2 _ hm _ (List.getElem_mem h)
   ·rw[List.getD_eq_getElem?_getD,List.getElem?_eq_none (by omega)];simp
  have e1:(playTo n inp word tb (k+1)).1=(addAll (playTo n inp word tb k).1 (fW n k (word.getD k default) ((playTo n inp word tb k).2.getLastD []))).1:=rfl;rw[e,e1];generalize (playTo n inp word tb k).2.getLastD []=now at qF ⊢
  have hv:∀ v∈fW n k (word.getD k default) now,ka v:=fun v hv=>by
   obtain⟨p,hp,rfl⟩:=List.mem_map.1 hv;have hp:=List.mem_range.1 hp
   have hh:∀ q,bN (mC n (word.getD k default) now p q):=fun q=>by
    unfold mC;have:=qF q;split
    ·exact⟨by omega,by omega⟩
    ·exact⟨by simp,by simp⟩
   exact⟨ww p (by omega),⟨by simp only[nextV];omega,by simp only[nextV];omega⟩,⟨by simp[nextV],by simp[nextV]⟩,hh 0,hh 1,hh 2,hh 3,hh 4⟩
  have h:=zK 100000 (fW n k (word.getD k default) now) ((playTo n inp word tb k).1,[]) hv h1 (fun z hz=>by simp at hz) (by simp;omega);refine⟨h.1,fun row hr=>?_⟩
  ·rcases List.mem_append.1 hr with hr|hr
   ·exact h2 row hr
   ·rw[List.mem_singleton]at hr;subst hr;exact h.2
section
variable {P : Program} (w : World)
theorem Jr(base:Nat) (t ty e:TypeId) (i:TypeInfo) (z:Value) (size bytes:Nat) (ht:P.underlying t=some (.slice e)) (hi:P.info? e=some i) (hz:i.zero=some z)
  (ff:i.size=size) (gR:i.bytes=bytes) (tE:z.cells.size=size) (fk:0<size)
  (v:Value) (n:Nat) (xs:List Value) (aS:aH w base e size v n xs)
  (u:Value) (m:Nat) (news:List Value) (hu:ny w size u m news)
  (pM:n+m<=maxLen) (gJ:(n+m) * bytes<=140737488355328) (ng:base<=w.heap.size) :
  ∃ v' w',(Builtin.append_ #[t,t] ty #[v,u]).run P w=.ok v' w'/\aH w' base e size v' (n+m) (xs++news)/\w.grownBy w' v.ownBlock/\(v'.ownBlock=v.ownBlock\/v'.ownBlock=some w.heap.size):=by
 obtain⟨a,cap,rfl,kl,cC,hc,h1⟩:=hu;cases a with
 | some ad=>
  refine sD w base t ty e i z size bytes ht hi hz ff gR tE fk v n xs aS ad m cap news cC (fun j u hj=>?_) h1 pM gJ ng;obtain⟨b,o,e1,eQ⟩:=hc j u hj;cases e1;have:(Addr.add ⟨b,o,none⟩ j)=⟨b,o+j,none⟩:=by unfold Addr.add;split<;>simp_all
  rw[this];exact eQ
 | none=>
  obtain⟨rfl,rfl⟩:=kl rfl;have hn:news=[]:=List.eq_nil_of_length_eq_zero (by simpa using cC);subst hn;refine⟨v,w,?_,by simpa using aS,⟨rfl,rfl,rfl,Nat.le_refl _,fun _ _ _=>rfl⟩,.inl rfl⟩;rcases aS.2 with ⟨rfl,rfl⟩|⟨g,cp,cur,fz,rfl,_,_,_,jH,_⟩
  ·simp[Builtin.append_,run_underlying ht,sizeOf,typeInfo,hi,Builtin.lenOf,Builtin.firstCells]
  ·simp[Builtin.append_,run_underlying ht,sizeOf,typeInfo,hi,Builtin.lenOf,Builtin.firstCells,jH,storeCells]
theorem lq{ops:Array Oper} {rest:List Oper} {o:Oper} {a:Act} {Q:Exit->Act->World->Prop} (l3:o.guard=none) (s x:Operand) (t:TypeId)
  (ho:o.op=.call { callee:=.builtin .append,args:=#[s,x],argTypes:=#[t,t] })
  (base:Nat) (e:TypeId) (i:TypeInfo) (z:Value) (size bytes:Nat) (ht:P.underlying t=some (.slice e)) (hi:P.info? e=some i) (hz:i.zero=some z)
  (ff:i.size=size) (gR:i.bytes=bytes) (tE:z.cells.size=size) (fk:0<size)
  (v:Value) (n:Nat) (xs:List Value) (hs:a.eval s=v) (aS:aH w base e size v n xs)
  (u:Value) (m:Nat) (news:List Value) (hx:a.eval x=u) (hu:ny w size u m news)
  (pM:n+m<=maxLen) (gJ:(n+m) * bytes<=140737488355328) (ng:base<=w.heap.size)
  (h:∀ v' w',aH w' base e size v' (n+m) (xs++news)->w.grownBy w' v.ownBlock->(v'.ownBlock=v.ownBlock\/v'.ownBlock=some w.heap.size)->wpList P ops Q rest (a.put o.dst v') w'):wpList P ops Q (o :: rest) a w:=by
 refine wpList_plain l3 fun _ hK=>?_
 obtain⟨v',w',hr,h2,h3,h4⟩:=Jr (P:=P) w base t o.type e i z size bytes ht hi hz ff gR tE fk v n xs aS u m news hu pM gJ ng;unfold Oper.wp execOp;simp only[ho,resolve,invoke,builtin,Sem.run_bind,Sem.run_pure,Result.andThen_ok,List.map_toArray,List.map_cons,List.map_nil,hs,hx,hr];exact hK _ _ (h v' w' h2 h3 h4)
end
end Go.Proofs.YtmeaoneaephjeaaGreatDoor
namespace Go.Proofs.YtmeaoneaephjeaaGreatDoor
open Go.RowKit Go Go.Shelf
attribute [local go_sem] Oper.semAt_some
theorem XB{p:Pb} (h:probE p=0):movesN p.a.states<=4096:=by
 have ha:=(gO h).2.1;unfold advE at ha;by_cases h1:p.a.n<1\/5<p.a.n
 ·rw[if_pos h1]at ha;omega
 ·rw[if_neg h1]at ha;by_cases h2:p.a.states.length<1\/256<p.a.states.length\/4096<movesN p.a.states
  ·rw[if_pos h2]at ha;omega
  ·omega
theorem Lo{p:Pb} (h:probE p=0):((dZ p).2≠0->(dZ p).2=17/\4096<p.t.cases.length * (aL p).length)/\((dZ p).2=0->(dZ p).1=((p.t.cases.length * (aL p).length:Nat):Int)):=by
 obtain⟨ht,ha,_,sS,rl⟩:=gO h;have bR:=(fB ht).2.2.2.1;have hn:=rW (L:=1048576) (by omega) p.a (fun s hs m hm=>(wn ha s hs m hm).2) (by have:=(ir ha).1;omega) p.rounds.toNat;have hw:(aL p).length=(cf p.a p.rounds.toNat 0).length:=rfl;rw[<-hw]at hn
 have rO:countedR 1048576 p.a p.rounds=if 1048576<numberL 1048576 p.a p.rounds.toNat then(0,17) else(numberL 1048576 p.a p.rounds.toNat,0):=by
  unfold countedR;rw[if_neg (by simpa using ha),if_neg (by omega)]
 unfold dZ;rw[if_neg (by simpa using h),rO];by_cases h1:1048576<numberL 1048576 p.a p.rounds.toNat
 ·rw[if_pos h1];have h9:1 * 1048576<=p.t.cases.length * (aL p).length:=Nat.mul_le_mul bR.1 (by omega);refine⟨fun _=>⟨by simp,by omega⟩,fun e=>by simp at e⟩
 ·rw[if_neg h1];have he:numberL 1048576 p.a p.rounds.toNat=((aL p).length:Int):=by omega
  rw[he];dsimp only;rw[if_neg (by simp),Int.mul_comm,<-Int.natCast_mul];by_cases h2:(1048576:Int)<((p.t.cases.length * (aL p).length:Nat):Int)
  ·rw[if_pos h2];refine⟨fun _=>⟨by simp,by omega⟩,fun e=>by simp at e⟩
  ·rw[if_neg h2];exact⟨fun e=>by simp at e,fun _=>rfl⟩
theorem Lp{p:Pb} (h:probE p=0) (h2:¬ 4096<p.t.cases.length * (aL p).length):qT p.a p.rounds=(aL p,0):=by
 obtain⟨ht,ha,_,sS,rl⟩:=gO h;have bR:=(fB ht).2.2.2.1;have hn:=rW (L:=4096) (by omega) p.a (fun s hs m hm=>(wn ha s hs m hm).2) (by have:=(ir ha).1;omega) p.rounds.toNat;have hw:(aL p).length=(cf p.a p.rounds.toNat 0).length:=rfl;rw[<-hw]at hn;have h9:1 * (aL p).length<=p.t.cases.length * (aL p).length:=Nat.mul_le_mul_right _ bR.1
 have rO:(countedR 4096 p.a p.rounds).2=0:=by
  unfold countedR;rw[if_neg (by simpa using ha),if_neg (by omega),if_neg (by omega)]
 unfold qT;rw[if_neg (by simpa using rO)];rfl
theorem Gn{a:Adv} (h:∀ s,s<a.states.length->stateE a (a.states.getD s [])=0) (h1:0<a.states.length) (k:Nat):∀ s,s<a.states.length->0<(cf a k s).length:=by
 induction k with
 | zero=>intro s _;simp[cf]
 | succ k ih=>
  intro s hs;have h2:=h s hs
  have bM:(a.states.getD s []).length≠0:=by
   intro e;unfold stateE at h2;rw[if_pos e]at h2;cases h2
  obtain⟨m,hm⟩:∃ m,m∈a.states.getD s []:=by
   cases hl:a.states.getD s [] with
   | nil=>rw[hl]at bM;simp at bM
   | cons m r=>exact⟨m,by simp⟩
  have pK:m.to.toNat<a.states.length:=ZI h s hs m hm;have h3:=ih _ pK;obtain⟨y,hy⟩:=List.length_pos_iff_exists_mem.1 h3;refine List.length_pos_iff_exists_mem.2 ⟨m.r :: y,?_⟩;simp only[cf,List.mem_flatMap,List.mem_map];exact⟨m,hm,y,hy,rfl⟩
theorem uA(p:Pb) (words:List (List Rd)) (l:List (Nat × Nat)):∀ st:List Vw × List Ex,(l.foldl (kD p words) st).2.length=st.2.length+l.length:=by
 induction l with
 | nil=>intro st;simp
 | cons x r ih=>
  intro st;rw[List.foldl_cons,ih];simp[kD];omega
theorem Nx(p:Pb) (words:List (List Rd)) (l:List (Nat × Nat)) (i:Nat) (h:i<l.length):execsS p words (l.take (i+1))=kD p words (execsS p words (l.take i)) l[i]:=by
 unfold execsS;rw[List.take_succ_eq_append_getElem h,List.foldl_append];rfl
theorem Ny(p:Pb) (words:List (List Rd)) (l:List (Nat × Nat)):∀ st:List Vw × List Ex,st.1.length<=(l.foldl (kD p words) st).1.length:=by
 induction l with
 | nil=>intro st;exact Nat.le_refl _
 | cons x r ih=>
  intro st;refine Nat.le_trans ?_ (ih _);exact DH _ _ _ _ _
theorem yv(p:Pb) (words:List (List Rd)) (l:List (Nat × Nat)) (i:Nat):(execsS p words (l.take i)).1.length<=(execsS p words l).1.length:=by
 have h:execsS p words l=(l.drop i).foldl (kD p words) (execsS p words (l.take i)):=by
  unfold execsS;rw[<-List.foldl_append,List.take_append_drop]
 rw[h];exact Ny p words _ _
abbrev fR(p:Pb):List (Nat × Nat):=jv p.t.cases.length (aL p).length
abbrev stP(p:Pb) (i:Nat):List Vw × List Ex:=execsS p (aL p) ((fR p).take i)
theorem jC(p:Pb):(fR p).length=p.t.cases.length * (aL p).length:=by
 unfold fR;rw[vL];simp
theorem xK(p:Pb) (i:Nat) (h:i<p.t.cases.length * (aL p).length):stP p (i+1)=kD p (aL p) (stP p i) (i / (aL p).length,i % (aL p).length):=by
 unfold stP;rw[Nx _ _ _ _ (by rw[jC];exact h)];congr 1;unfold fR;simp only[vL];simp
theorem Nz{p:Pb} (h:probE p=0) (hm:¬ 4096<p.t.cases.length * (aL p).length) (i:Nat) (hi:8192<(stP p i).1.length):buildE p=17:=by
 have h2:=yv p (aL p) (fR p) i;have h3:(aO p).tab=(execsS p (aL p) (fR p)).1:=rfl;unfold buildE;rw[if_neg (by simpa using h),if_neg hm,if_pos (by rw[h3];exact Nat.lt_of_lt_of_le hi h2)]
theorem NA(w:World) (a b c d:Obj):((((w.alloc a).alloc b).alloc c).alloc d).heap[w.heap.size+1+1+1]?=some d:=by
 have:=aq (((w.alloc a).alloc b).alloc c) d;simpa only[World.size_alloc] using this
def AW(W:World) (base:Nat) (xs:List Value) (i:Nat) (x:Ex):Prop:=
 ∃ a b,xs[i * 3]?=some (.int .i64 x.c)/\xs[i * 3+1]?=some a/\xs[i * 3+2]?=some b/\aH W base 141 7 a x.word.length (dd x.word)/\cU W base b x.views
structure BInv (p:Pb) (uc us:Value) (wd:World) (Bs Bb b mb:Nat) (tab:List Vw) (ex:List Ex) (W:World):Prop where
 old:Below wd.heap.size wd W
 lo:wd.heap.size<=Bs
 bx:W.heap[Bb]?=some (.cells #[.pointer (some ⟨b,0,none⟩)] 231)
 s:∃ ve xs,W.heap[Bs]?=some (.cells (bL p uc us 0 (.slice none 0 0) ve) 35)/\aH W wd.heap.size 89 3 ve ex.length xs/\∀ i (hi:i<ex.length),AW W wd.heap.size xs i ex[i]
 bld:BldIs wd.heap.size b mb p.t.n.toNat tab W
theorem BInv.sta{p:Pb} {uc us:Value} {wd:World} {Bs Bb b mb:Nat} {tab:List Vw} {ex:List Ex} {B:Nat} (hB:wd.heap.size<=B) (hm:mb<B):cO B (fun W=>BInv p uc us wd Bs Bb b mb tab ex W):=fun A A' c h=>by
 obtain⟨ve,xs,h1,h2,h3⟩:=h.s;obtain⟨vs,q1,q2,q3,es,ck,q4,q5⟩:=h.bld.ex
 exact⟨c.below hB h.old.size h.old,h.lo,c.same _ _ h.bx (.inr rfl),⟨ve,xs,c.same _ _ h1 (.inr rfl),h2.ck c.ck,fun i hi=>by obtain⟨a,d,p1,p2,p3,p4,p5⟩:=h3 i hi;exact⟨a,d,p1,p2,p3,p4.ck c.ck,p5.ck c.ck⟩⟩,
  h.bld.lo,vs,c.same _ _ q1 (.inr rfl),q2,q3.ck c.ck,es,ck,c.same _ _ q4 (.inl hm),q5⟩
theorem WN{w W:World} {B:Nat} {c:Array Value} (hb:Below w.heap.size w W) (hl:w.heap.size<=B) (hR:W.heap[B]?=some (.cells c 35)) (hc:c.size=10) (hE:W.heap[B+1]?=some (.cells #[.int .i64 0] 39)) (l:List Value) (cC:l.length=10) (e:Int) :
  ((W.setCells B 0 l).setCell ⟨B+1,0,none⟩ (.int .i64 e)).heap[B]?=some (.cells l.toArray 35)/\((W.setCells B 0 l).setCell ⟨B+1,0,none⟩ (.int .i64 e)).heap[B+1]?=some (.cells #[.int .i64 e] 39)/\Below w.heap.size w ((W.setCells B 0 l).setCell ⟨B+1,0,none⟩ (.int .i64 e)) ∧
   ∀ k,k≠B->k≠B+1->((W.setCells B 0 l).setCell ⟨B+1,0,none⟩ (.int .i64 e)).heap[k]?=W.heap[k]?:=by
 obtain⟨cur',h1,h2,h3⟩:=mW B _ _ l 0 W c hR (by omega);obtain⟨o1,o2,o3,o4,o5⟩:=l9 B l 0 W
 have rA:cur'=l.toArray:=by
  rw[Nat.zero_add,List.take_zero,List.nil_append,List.take_of_length_le (by simp;omega)]at h3;rw[<-h3]
 subst rA;have h4:=(o1 (B+1) (by omega)).trans hE;refine⟨aK h1 (by omega) _ _,by rw[aF h4];rfl,Below.setCell ⟨o2.trans hb.os,o3.trans hb.tape,o4.trans hb.output,by rw[o5];exact hb.size,fun k hk=>(o1 k (by omega)).trans (hb.block k hk)⟩ (by dsimp only;omega) _,fun k h5 h6=>(Below.heap_setCell _ _ _ _ (by dsimp only;exact h6)).trans (o1 k h5)⟩
theorem uB{w W:World} {B:Nat} {c:Array Value} (hb:Below w.heap.size w W) (hl:w.heap.size<=B) (hR:W.heap[B]?=some (.cells c 35)) (hc:c.size=10) (hE:W.heap[B+1]?=some (.cells #[.int .i64 0] 39)) (c0 c1 c2 c3 c4 c5 c6 c7 c8 c9:Value) (e:Int) :
  (((((((((((W.setCell ⟨B,0,none⟩ c0).setCell ⟨B,1,none⟩ c1).setCell ⟨B,2,none⟩ c2).setCell ⟨B,3,none⟩ c3).setCell ⟨B,4,none⟩ c4).setCell ⟨B,5,none⟩ c5).setCell ⟨B,6,none⟩ c6).setCell ⟨B,7,none⟩ c7).setCell ⟨B,8,none⟩ c8).setCell ⟨B,9,none⟩ c9).setCell ⟨B+1,0,none⟩ (.int .i64 e)).heap[B]?=some (.cells #[c0,c1,c2,c3,c4,c5,c6,c7,c8,c9] 35)/\(((((((((((W.setCell ⟨B,0,none⟩ c0).setCell ⟨B,1,none⟩ c1).setCell ⟨B,2,none⟩ c2).setCell ⟨B,3,none⟩ c3).setCell ⟨B,4,none⟩ c4).setCell ⟨B,5,none⟩ c5).setCell ⟨B,6,none⟩ c6).setCell ⟨B,7,none⟩ c7).setCell ⟨B,8,none⟩ c8).setCell ⟨B,9,none⟩ c9).setCell ⟨B+1,0,none⟩ (.int .i64 e)).heap[B+1]?=some (.cells #[.int .i64 e] 39)/\Below w.heap.size w (((((((((((W.setCell ⟨B,0,none⟩ c0).setCell ⟨B,1,none⟩ c1).setCell ⟨B,2,none⟩ c2).setCell ⟨B,3,none⟩ c3).setCell ⟨B,4,none⟩ c4).setCell ⟨B,5,none⟩ c5).setCell ⟨B,6,none⟩ c6).setCell ⟨B,7,none⟩ c7).setCell ⟨B,8,none⟩ c8).setCell ⟨B,9,none⟩ c9).setCell ⟨B+1,0,none⟩ (.int .i64 e)) ∧
   ∀ k,k≠B->k≠B+1->(((((((((((W.setCell ⟨B,0,none⟩ c0).setCell ⟨B,1,none⟩ c1).setCell ⟨B,2,none⟩ c2).setCell ⟨B,3,none⟩ c3).setCell ⟨B,4,none⟩ c4).setCell ⟨B,5,none⟩ c5).setCell ⟨B,6,none⟩ c6).setCell ⟨B,7,none⟩ c7).setCell ⟨B,8,none⟩ c8).setCell ⟨B,9,none⟩ c9).setCell ⟨B+1,0,none⟩ (.int .i64 e)).heap[k]?=W.heap[k]?:=WN hb hl hR hc hE [c0,c1,c2,c3,c4,c5,c6,c7,c8,c9] rfl e
theorem qL(tmps:Array Value) (B:Nat) (W:World) (c0 c1 c2 c3 c4 c5 c6 c7 c8 c9:Value) (e:Int) (h2:tmps[2]?.getD undef=.pointer (some ⟨B,0,none⟩)) (h3:tmps[3]?.getD undef=.pointer (some ⟨B+1,0,none⟩))
  (hB:W.heap[B]?=some (.cells #[c0,c1,c2,c3,c4,c5,c6,c7,c8,c9] 35)) (hE:W.heap[B+1]?=some (.cells #[.int .i64 e] 39)) :
  (results Tryz.f120 tmps).run Tryz.prog W=.ok (.tuple #[.agg #[c0,c1,c2,c3,c4,c5,c6,c7,c8,c9],.int .i64 e]) W:=by
 have t2:=ab hB;have t3:=ab hE 0;simp at t3;simp[results,Tryz.results120,go_sem,h2,h3,t2,t3]
structure BCore (base b mb n:Nat) (tab tab':List Vw) (c:Nat) (word:List Rd) (views:List (List Int)) (Wr:World) (D:Nat->Bool) (x:Nat->Value) (W:World):Prop where
 lo:base<=Wr.heap.size
 keep:KeepT bldT [mb] base Wr W
 bld:BldIs base b mb n (bif D 14 then tab' else tab) W
 x4:D 4=true->aH W base 141 7 (x 4) word.length (dd word)
 x14:D 14=true->cU W base (x 14) views
 x15:D 15=true->D 4=true/\D 14=true/\x 15=.agg #[.int .i64 c,x 4,x 14]
 x16:D 16=true->D 4=true/\D 14=true/\∃ g,x 16=.slice (some ⟨g,0,none⟩) 1 1/\W.heap[g]?=some (.cells #[.int .i64 c,x 4,x 14] 89)
section
variable {base b mb n : Nat} {tab tab' : List Vw} {c : Nat} {word : List Rd} {views : List (List Int)} {Wr : World} {D : Nat → Bool} {x : Nat → Value} {W W' : World}
theorem BCore.other(h:BCore base b mb n tab tab' c word views Wr D x W) {i:Nat} (u:Value) (h4:4≠i) (J3:14≠i) (h15:15≠i) (h16:16≠i):BCore base b mb n tab tab' c word views Wr (bJ D i) (cI x i u) W:=by
 refine⟨h.lo,h.keep,?_,?_,?_,?_,?_⟩
 ·simpa only[bJ,if_neg J3] using h.bld
 ·simpa only[bJ,cI,if_neg h4] using h.x4
 ·simpa only[bJ,cI,if_neg J3] using h.x14
 ·simpa only[bJ,cI,if_neg h4,if_neg J3,if_neg h15] using h.x15
 ·simpa only[bJ,cI,if_neg h4,if_neg J3,if_neg h16] using h.x16
theorem BCore.clone(h:BCore base b mb n tab tab' c word views Wr D x W) (h4:D 4=false) (hb:Below W.heap.size W W') {u:Value} (ho:aH W' base 141 7 u word.length (dd word)):BCore base b mb n tab tab' c word views Wr (bJ D 4) (cI x 4 u) W':=by
 refine⟨h.lo,h.keep.trans (.of_below _ hb (Nat.le_trans h.lo h.keep.old.size)),?_,fun _=>by simpa[cI] using ho,fun e=>?_,fun e=>?_,fun e=>?_⟩
 ·simpa only[bJ,if_neg (show (14:Nat)≠4 by decide)] using h.bld.up hb
 ·simp only[bJ,cI,if_neg (show (14:Nat)≠4 by decide)]at e ⊢;exact(h.x14 e).up hb
 ·simp only[bJ,if_neg (show (15:Nat)≠4 by decide)]at e;have:=(h.x15 e).1;rw[h4]at this;cases this
 ·simp only[bJ,if_neg (show (16:Nat)≠4 by decide)]at e;have:=(h.x16 e).1;rw[h4]at this;cases this
theorem BCore.play(h:BCore base b mb n tab tab' c word views Wr D x W) (J3:D 14=false) (hk:KeepT bldT [mb] base W W') (hb:BldIs base b mb n tab' W') {u:Value} (ho:cU W' base u views):BCore base b mb n tab tab' c word views Wr (bJ D 14) (cI x 14 u) W':=by
 refine⟨h.lo,h.keep.trans hk,by simpa[bJ] using hb,fun e=>?_,fun _=>by simpa[cI] using ho,fun e=>?_,fun e=>?_⟩
 ·simp only[bJ,cI,if_neg (show (4:Nat)≠14 by decide)]at e ⊢;exact hk.own (h.x4 e) (by decide)
 ·simp only[bJ,if_neg (show (15:Nat)≠14 by decide)]at e;have:=(h.x15 e).2.1;rw[J3]at this;cases this
 ·simp only[bJ,if_neg (show (16:Nat)≠14 by decide)]at e;have:=(h.x16 e).2.1;rw[J3]at this;cases this
theorem BCore.made(h:BCore base b mb n tab tab' c word views Wr D x W) (g4:D 4=true) (g14:D 14=true) {u:Value} (hu:u=.agg #[.int .i64 c,x 4,x 14]):BCore base b mb n tab tab' c word views Wr (bJ D 15) (cI x 15 u) W:=by
 refine⟨h.lo,h.keep,?_,?_,?_,fun _=>?_,?_⟩
 ·simpa only[bJ,if_neg (show (14:Nat)≠15 by decide)] using h.bld
 ·simpa only[bJ,cI,if_neg (show (4:Nat)≠15 by decide)] using h.x4
 ·simpa only[bJ,cI,if_neg (show (14:Nat)≠15 by decide)] using h.x14
 ·simp only[bJ,cI,if_neg (show (4:Nat)≠15 by decide),if_neg (show (14:Nat)≠15 by decide),if_true];exact⟨g4,g14,hu⟩
 ·simpa only[bJ,cI,if_neg (show (4:Nat)≠15 by decide),if_neg (show (14:Nat)≠15 by decide),if_neg (show (16:Nat)≠15 by decide)] using h.x16
theorem BCore.row(h:BCore base b mb n tab tab' c word views Wr D x W) (g4:D 4=true) (g14:D 14=true) {u4 u14:Value} (e4:x 4=u4) (e14:x 14=u14):BCore base b mb n tab tab' c word views Wr (bJ D 16) (cI x 16 (.slice (some ⟨W.heap.size,0,none⟩) 1 1)) (W.alloc (.cells #[.int .i64 c,u4,u14] 89)):=by
 subst e4 e14;have hb:Below W.heap.size W (W.alloc (.cells #[.int .i64 c,x 4,x 14] 89)):=by go_grown
 refine⟨h.lo,h.keep.trans (.of_below _ hb (Nat.le_trans h.lo h.keep.old.size)),?_,fun e=>?_,fun e=>?_,?_,fun _=>?_⟩
 ·simpa only[bJ,if_neg (show (14:Nat)≠16 by decide)] using h.bld.up hb
 ·simp only[bJ,cI,if_neg (show (4:Nat)≠16 by decide)]at e ⊢;exact(h.x4 e).up hb
 ·simp only[bJ,cI,if_neg (show (14:Nat)≠16 by decide)]at e ⊢;exact(h.x14 e).up hb
 ·simpa only[bJ,cI,if_neg (show (4:Nat)≠16 by decide),if_neg (show (14:Nat)≠16 by decide),if_neg (show (15:Nat)≠16 by decide)] using h.x15
 ·simp only[bJ,cI,if_neg (show (4:Nat)≠16 by decide),if_neg (show (14:Nat)≠16 by decide),if_true];exact⟨g4,g14,W.heap.size,rfl,aq _ _⟩
end
theorem Tryz.infoExec:(Tryz.prog.info? 89).map (fun i=>(i.zero,i.size,i.bytes))=some (some (.agg #[.int .i64 0,.slice none 0 0,.slice none 0 0]),3,56):=by kernel_rfl
theorem SX{F:Fence} {n:Nat} {P:Program} {c:Code} {Q:Exit->Act->World->Prop} {a:Act} {W:World} (I:World->Prop) (h:I W) (k:∀ W0,I W0->c.wpIn F n P Q a W0):c.wpIn F n P Q a W:=k W h
theorem BInv.up{p:Pb} {uc us:Value} {wd:World} {Bs Bb b mb:Nat} {tab:List Vw} {ex:List Ex} {W W':World} (h:BInv p uc us wd Bs Bb b mb tab ex W) (hb:Below W.heap.size W W'):BInv p uc us wd Bs Bb b mb tab ex W':=by
 obtain⟨ve,xs,h1,h2,h3⟩:=h.s;exact⟨ae h.old hb,h.lo,af hb h.bx,⟨ve,xs,af hb h1,h2.up hb,fun i hi=>by obtain⟨a,d,p1,p2,p3,p4,p5⟩:=h3 i hi;exact⟨a,d,p1,p2,p3,p4.up hb,p5.up hb⟩⟩,h.bld.up hb⟩
theorem XC(a b:Vw) (w:World):(binOp .eql 190 a.v b.v).run Tryz.prog w=.ok (.bool (decide (a=b))) w:=by
 rw[run_eql_struct,Fm 9997];rfl
def viewIx(l:List Vw) (v:Vw):Int:=firstIx l.length fun i=>decide (l.getD i default=v)
theorem NB(l:List Vw) (v:Vw):(viewIx l v<0/\putV l v=(l++[v],l.length))\/(0<=viewIx l v/\putV l v=(l,(viewIx l v).toNat)/\viewIx l v<l.length):=by
 unfold viewIx;rcases bE l.length (fun i=>decide (l.getD i default=v)) with ⟨e,h⟩|⟨k,hk,e,he,h⟩
 ·refine .inl ⟨by omega,?_⟩;unfold putV;rw[if_neg];intro hv;obtain⟨i,hi,rfl⟩:=List.getElem_of_mem hv;have:=h i hi;simp[hi]at this
 ·refine .inr ⟨by omega,?_,by omega⟩;have he:l[k]=v:=by simpa[hk] using he
  unfold putV;rw[if_pos (he ▸ List.getElem_mem hk),e];congr 1;rw[Int.toNat_natCast];have nC:v∈l:=he ▸ List.getElem_mem hk;have aB:=List.idxOf_lt_length_of_mem nC;have iB:=List.getElem_idxOf aB;rcases Nat.lt_trichotomy (l.idxOf v) k with h1|h1|h1
  ·have:=h _ h1;simp[aB]at this
  ·exact h1
  ·exfalso;have:=List.not_of_lt_findIdx (xs:=l) (p:=(· == v)) (i:=k) h1;simp[he]at this
theorem XD{w:World} {b o:Nat} {v:Vw} (h:Dw w b o v) {wr:World} (hb:Below w.heap.size w wr):∀ y:ExtW wr,y.val.cell? ⟨b,o,none⟩=some (.int .i64 v.p)/\y.val.cell? ⟨b,o+1,none⟩=some (.int .i64 v.k)/\y.val.cell? ⟨b,o+2,none⟩=some (.int .i64 v.i)/\y.val.cell? ⟨b,o+3,none⟩=some (.int .i64 v.h0)/\y.val.cell? ⟨b,o+4,none⟩=some (.int .i64 v.h1)/\y.val.cell? ⟨b,o+5,none⟩=some (.int .i64 v.h2)/\y.val.cell? ⟨b,o+6,none⟩=some (.int .i64 v.h3)/\y.val.cell? ⟨b,o+7,none⟩=some (.int .i64 v.h4):=by
 obtain⟨⟨c0,_⟩,⟨c1,_⟩,⟨c2,_⟩,⟨c3,_⟩,⟨c4,_⟩,⟨c5,_⟩,⟨c6,_⟩,⟨c7,_⟩⟩:=h;exact fun y=>⟨y.cell (ak hb c0),y.cell (ak hb c1),y.cell (ak hb c2),y.cell (ak hb c3),y.cell (ak hb c4),y.cell (ak hb c5),y.cell (ak hb c6),y.cell (ak hb c7)⟩
theorem Lr(n:Int) (l:List Vw) (vt:Value) (v:Vw) (w:World) (h:nN w vt l) :
  Calls Tryz.prog 189 #[.agg #[.int .i64 n,vt],v.v] w fun e w'=>e=.returned (.int .i64 (viewIx l v))/\Below w.heap.size w w':=by
 obtain⟨pt,ct,rfl,lt1,lt2,et⟩:=h.at;have ET:=aa et;have rm:am (∀ k,k<l.length->(∀ j,j<k->decide (l.getD j default=v)=false)->decide (l.getD k default=v)=true->viewIx l v=k):=aa (fun k hk h1 h2=>dk _ _ _ hk h1 h2);have fi:am ((∀ j,j<l.length->decide (l.getD j default=v)=false)->viewIx l v=-1):=aa (dM _ _);clear h et
 go_enter Tryz.func189,Tryz.ntmps189
 go_wp2_with fail
 refine bu (fun W=>Below w.heap.size w W/\W.heap[w.heap.size]?=some (.cells #[.int .i64 n,.slice pt l.length ct] 32)/\W.heap[w.heap.size+1]?=some (.cells v.c 190)) ⟨by go_grown,ar _ (aq _ _),bd _ _ _⟩ (fun W0 aZ=>?_);obtain⟨aI,bI,wE⟩:=aZ;have jm:=aa bI;have Az:=aa wE;clear bI wE
 go_loopw [5] (fun i wr=>∃ k:Nat,k<=l.length/\i=.int .i64 k/\Below W0.heap.size W0 wr/\∀ j,j<k->decide (l.getD j default=v)=false) (fun i _=>l.length - (intOf i).toNat)
 ·exact⟨0,by omega,rfl,Below.refl _ _,by simp⟩
 ·
  obtain⟨k,hk,rfl,az,aW⟩:=hrel;have H:=aa aW;clear aW;have tA:=ab (af az jm.o);by_cases aB:k<l.length
  ·obtain⟨b1,o1,rfl,c1⟩:=ET.o k aB;have HX:=aa (aA default aB);have wT:=aa (rm.o k aB H.o);generalize l[k]=x at c1 HX;rw[HX.o]at wT;have d1:=XD c1 (ae aI az);have a1:∀ z:ExtW wr,z.val.cell? ⟨w.heap.size,1,none⟩=some _:=fun z=>z.cell (ab (af az jm.o) 1)
   have a2:∀ (z:ExtW wr) (o:Nat),z.val.cell? ⟨w.heap.size+1,o,none⟩=v.c[o]?:=fun z o=>ab (af (z.ext) (af az Az.o)) o
   have kh:=fun w=>XC x v w
   have aP:=aa az;clear c1 az
   go_wp2_with fail
   clear tA;cases hd:decide (x=v) with
   | true=>
    have HR:=aa (wT.o hd);rw[hd]at kh;clear hd;refine aD (by kernel_rfl) (by kernel_rfl) ?_
    repeat (go_big_quiet_step (fail))
    refine wpQuiet_nil ?_;rintro _ ⟨xq,rfl⟩;clear d1 a1 a2 kh
    go_wp2_with fail
    go_ret
    exact⟨aG (by rw[HR.o]),ae aI (ae aP.o xq.ext)⟩
   | false=>
    have HD:=aa hd;rw[hd]at kh;clear hd;refine aD (by kernel_rfl) (by kernel_rfl) ?_
    repeat (go_big_quiet_step (fail))
    refine wpQuiet_nil ?_;rintro _ ⟨xq,rfl⟩;clear d1 a1 a2 kh
    go_wp2_with fail
    go_roundw
    ·exact⟨k+1,by omega,by go_num,ae aP.o xq.ext,aV H.o (by rw[HX.o];exact HD.o)⟩
    ·simp[intOf];omega
  ·have HR:=aa (fi.o fun j hj=>H.o j (by omega))
   go_wp2_with fail
   go_ret
   exact⟨aG (by rw[HR.o]),ae aI az⟩
def vC(p k i:Int) (f:Nat->Int) (q:Nat):Array Value:=((List.range 8).map fun j=>Value.int .i64 (if j=0 then p else if j=1 then k else if j=2 then i else if j<3+q then f (j - 3) else 0)).toArray
theorem zM(p k i:Int) (f:Nat->Int) (q j:Nat) (hj:j<8):(vC p k i f q)[j]?=some (.int .i64 (if j=0 then p else if j=1 then k else if j=2 then i else if j<3+q then f (j - 3) else 0)):=by simp[vC,hj]
theorem Qs(p k i:Int) (f:Nat->Int) (q:Nat) (hq:q<5):(vC p k i f q).setIfInBounds (3+q) (.int .i64 (f q))=vC p k i f (q+1):=by
 apply Array.ext_getElem?;intro j;rw[Array.getElem?_setIfInBounds];by_cases hj:j<8
 ·rw[zM _ _ _ _ _ _ hj,zM _ _ _ _ _ _ hj];by_cases e:3+q=j
  ·subst e;rw[if_pos rfl,if_pos (by simp[vC];omega),if_neg (by omega),if_neg (by omega),if_neg (by omega),if_pos (by omega),Nat.add_sub_cancel_left]
  ·rw[if_neg e];have:(j<3+(q+1))↔(j<3+q):=by omega
   simp only[this]
 ·rw[if_neg (by omega),Array.getElem?_eq_none (by simp[vC];omega),Array.getElem?_eq_none (by simp[vC];omega)]
theorem LS(p k i:Int) (f:Nat->Int):vC p k i f 0=#[.int .i64 p,.int .i64 k,.int .i64 i,.int .i64 0,.int .i64 0,.int .i64 0,.int .i64 0,.int .i64 0]:=rfl
theorem LT(p k i:Int) (f:Nat->Int):vC p k i f 5=#[.int .i64 p,.int .i64 k,.int .i64 i,.int .i64 (f 0),.int .i64 (f 1),.int .i64 (f 2),.int .i64 (f 3),.int .i64 (f 4)]:=rfl
abbrev zeroV:Array Value:=#[.int .i64 0,.int .i64 0,.int .i64 0,.int .i64 0,.int .i64 0,.int .i64 0,.int .i64 0,.int .i64 0]
theorem DI(tmps:Array Value) (f:Func) (s:Nat) (hf:f.results=#[.cell s 190]) (B:Nat) (W:World) (v:Vw) (ty:TypeId) (h1:tmps[s]?.getD undef=.pointer (some ⟨B,0,none⟩)) (hb:W.heap[B]?=some (.cells v.c ty)) :
  (results f tmps).run Tryz.prog W=.ok v.v W:=by
 have t1:=ab hb;simp[results,hf,go_sem,h1,t1]
theorem Ls(p:Nat) (inp:Int) (w:World):Calls Tryz.prog 158 #[.int .i64 p,.int .i64 inp] w fun e w'=>e=.returned (⟨p,0,inp,-1,-1,-1,-1,-1⟩:Vw).v/\Below w.heap.size w w':=by
 go_enter Tryz.func158,Tryz.ntmps158
 go_wp2_with fail
 refine bu (fun W=>Below w.heap.size w W/\W.heap[w.heap.size]?=some (.cells zeroV 190)/\W.heap[w.heap.size+1]?=some (.cells (vC p 0 inp (fun _=>-1) 0) 190)) ⟨by go_grown,ar _ (aq _ _),by rw[LS];exact bd _ _ _⟩ (fun W0 aZ=>?_);obtain⟨aI,ic,gl⟩:=aZ
 go_loopw [6] (fun i wr=>∃ q:Nat,q<=5/\i=.int .i64 q/\Below w.heap.size w wr/\wr.heap[w.heap.size]?=some (.cells zeroV 190)/\wr.heap[w.heap.size+1]?=some (.cells (vC p 0 inp (fun _=>-1) q) 190)) (fun i _=>5 - (intOf i).toNat)
 ·exact⟨0,by omega,rfl,aI,ic,gl⟩
 ·
  clear aI ic gl;obtain⟨q,hq,rfl,az,hR,hO⟩:=hrel;by_cases aB:q<5
  ·have zq:=aE hO (3+q);have tq:=ab hO (3+q);rw[zM _ _ _ _ _ _ (by omega)]at tq;have HR:=aa hR;have HO:=aa hO;clear hR hO;have mx:(q:Int)<5:=by omega
   go_wp2_with fail
   go_roundw
   ·exact⟨q+1,by omega,by go_num,az.setCell (by dsimp only;omega) _,aK HR.o (by omega) _ _,by rw[aF HO.o,<-Qs _ _ _ (fun _=>-1) q aB]⟩
   ·simp[intOf];omega
  ·obtain rfl:q=5:=by omega
   have tq:=ab hO;have HR:=aa hR;have HO:=aa hO;have zq:=fun o=>aE hR o
   have tq0:=ab hR;rw[LT]at tq;simp at tq0;clear hR hO
   go_wp2_with (refine wpList_store_row rfl 190 (.tmp 4) (.tmp 17) rfl w.heap.size (⟨p,0,inp,-1,-1,-1,-1,-1⟩:Vw).c rfl rfl 190 _ HR.o (by kernel_rfl) rfl (by simp[Value.oneCell']) ?_)
   exact bodyPost_ret (DI _ _ 4 rfl w.heap.size _ ⟨p,0,inp,-1,-1,-1,-1,-1⟩ 190 rfl (setRow_heap _ _ _ _ _ _ HR.o)) rfl ⟨rfl,below_setRow az (Nat.le_refl _) _⟩
theorem Ft{a:Array Value} {i:Nat} {x:Value} (h:a[i]?=some x):a.setIfInBounds i x=a:=by
 apply Array.ext_getElem?;intro j;rw[Array.getElem?_setIfInBounds];split
 ·rename_i e;subst e;split
  ·exact h.symm
  ·rw[Array.getElem?_eq_none (by omega)]
 ·rfl
def seenH(n:Nat) (g:Gr) (now:List Int) (p q:Nat):Int:=if q<n/\hasB (g.hear p) q=true then now.getD q 0 else -1
def seenV(n K:Nat) (g:Gr) (now:List Int) (p:Nat):Vw:=⟨p,K,0,seenH n g now p 0,seenH n g now p 1,seenH n g now p 2,seenH n g now p 3,seenH n g now p 4⟩
theorem NC(g:Gr) (K p n:Nat) (hn:g.n=n) (gK:n<=5) (hp:p<5) (hh:0<=g.hear p/\g.hear p<32) (vb:Value) (now:List Int) (qF:n<=now.length) (w:World) (hb:aT w vb now) :
  Calls Tryz.prog 159 #[g.v,.int .i64 K,.int .i64 p,vb] w fun e w'=>e=.returned (seenV n K g now p).v/\Below w.heap.size w w':=by
 obtain⟨pb,cb,rfl,lb1,lb2,eb⟩:=hb.at;have EB:=aa eb;have HF:am (∀ q,seenH n g now p q=if (q:Int)<g.n/\hasB (g.hear p) q=true then now.getD q 0 else -1):=aa (fun q=>by unfold seenH;rw[hn];simp);have HV:am (seenV n K g now p=⟨p,K,0,seenH n g now p 0,seenH n g now p 1,seenH n g now p 2,seenH n g now p 3,seenH n g now p 4⟩):=aa rfl;have HN:=aa hn;generalize seenV n K g now p=V at HV;generalize seenH n g now p=f at HF HV;clear hb eb hn
 go_enter Tryz.func159,Tryz.ntmps159
 go_wp2_with fail
 refine bu (fun W=>Below w.heap.size w W/\W.heap[w.heap.size]?=some (.cells #[.int .i64 g.n,.int .i64 g.h0,.int .i64 g.h1,.int .i64 g.h2,.int .i64 g.h3,.int .i64 g.h4] 139)/\W.heap[w.heap.size+1]?=some (.cells zeroV 190)/\W.heap[w.heap.size+1+1]?=some (.cells (vC p K 0 f 0) 190)) ⟨by go_grown,ar _ (ar _ (aq _ _)),ar _ (bd _ _ _),by rw[LS];exact eI _ _ _ _⟩ (fun W0 aZ=>?_);obtain⟨aI,hG0,ic,gl⟩:=aZ
 go_loopw [10] (fun i wr=>∃ q:Nat,q<=5/\i=.int .i64 q/\Below w.heap.size w wr/\wr.heap[w.heap.size]?=some (.cells #[.int .i64 g.n,.int .i64 g.h0,.int .i64 g.h1,.int .i64 g.h2,.int .i64 g.h3,.int .i64 g.h4] 139)/\wr.heap[w.heap.size+1]?=some (.cells zeroV 190)/\wr.heap[w.heap.size+1+1]?=some (.cells (vC p K 0 f q) 190)) (fun i _=>5 - (intOf i).toNat)
 ·exact⟨0,by omega,rfl,aI,hG0,ic,gl⟩
 ·
  clear aI hG0 ic gl;obtain⟨q,hq,rfl,az,hG,hR,hO⟩:=hrel;by_cases aB:q<5
  ·have zq:=aE hO (3+q);have tq:=ab hO (3+q);rw[zM _ _ _ _ _ _ (by omega)]at tq;have HG:=aa hG;have HR:=aa hR;have HO:=aa hO;have aP:=aa az;clear hG hR hO az;have mx:(q:Int)<5:=by omega
   have tG:=ab HG.o 0;simp at tG;have tH:=nL g p hp wr _ HG.o;have RQ:(p:Int)<5:=by omega
   have Aa:=aa (HF.o q);have YE:=aP.o.size
   have iK:am (∀ x:Int,f q=x->∀ W:World,Below w.heap.size w W->W.heap[w.heap.size]?=some (.cells #[.int .i64 g.n,.int .i64 g.h0,.int .i64 g.h1,.int .i64 g.h2,.int .i64 g.h3,.int .i64 g.h4] 139)->W.heap[w.heap.size+1]?=some (.cells zeroV 190)->(∃ y:Value,W.heap[w.heap.size+1+1]?=some (.cells ((vC p K 0 f q).setIfInBounds (3+q) y) 190))->∃ q':Nat,q'<=5/\Value.int .i64 ((q:Int)+1)=.int .i64 q'/\Below w.heap.size w (W.setCell ⟨w.heap.size+1+1,3+q,none⟩ (.int .i64 x))/\(W.setCell ⟨w.heap.size+1+1,3+q,none⟩ (.int .i64 x)).heap[w.heap.size]?=some (.cells #[.int .i64 g.n,.int .i64 g.h0,.int .i64 g.h1,.int .i64 g.h2,.int .i64 g.h3,.int .i64 g.h4] 139)/\(W.setCell ⟨w.heap.size+1+1,3+q,none⟩ (.int .i64 x)).heap[w.heap.size+1]?=some (.cells zeroV 190)/\(W.setCell ⟨w.heap.size+1+1,3+q,none⟩ (.int .i64 x)).heap[w.heap.size+1+1]?=some (.cells (vC p K 0 f q') 190)):=aa (by
    rintro x rfl W q1 q2 q3 ⟨y,q4⟩;refine⟨q+1,by omega,by go_num,q1.setCell (by dsimp only;omega) _,aK q2 (by omega) _ _,aK q3 (by omega) _ _,?_⟩
    rw[aF q4,Array.setIfInBounds_setIfInBounds,Qs _ _ _ _ _ aB])
   have HY:am (∃ y:Value,wr.heap[w.heap.size+1+1]?=some (.cells ((vC p K 0 f q).setIfInBounds (3+q) y) 190)):=aa ⟨_,HO.o.trans (congrArg (fun c=>some (Obj.cells c 190)) (Ft (zM p K 0 f q (3+q) (by omega))).symm)⟩;by_cases wX:(q:Int)<g.n
   ·cases hb:hasB (g.hear p) q with
    | true=>
     obtain⟨b2,o2,rfl,⟨c2,_⟩⟩:=EB.o q (by have:=HN.o;omega);rw[Nat.mul_one]at c2;have d2:=ak aP.o c2;have a8:=fo c2;dsimp only at a8;have bH:¬ b2=w.heap.size+1+1:=by omega
     have hqnow:q<now.length:=by have:=HN.o;omega
     have wY:am (f q=now[q]):=aa (by rw[Aa.o,if_pos ⟨wX,hb⟩,aA 0 hqnow]);generalize now[q]=x at d2 wY;clear c2
     go_wp2_with fail
     refine(jM (g.hear p) q (by omega) hh.1 (by omega) _).mono ?_;rintro e _ ⟨rfl,rfl⟩;rw[hb]
     go_wp2_with fail
     go_roundw
     ·exact iK.o x wY.o _ (aP.o.setCell (by dsimp only;omega) _) (aK HG.o (by omega) _ _) (aK HR.o (by omega) _ _) ⟨_,aF HO.o _ _⟩
     ·simp[intOf];omega
    | false=>
     have wY:am (f q=-1):=aa (by rw[Aa.o,if_neg (by rw[hb];simp)])
     go_wp2_with fail
     refine(jM (g.hear p) q (by omega) hh.1 (by omega) _).mono ?_;rintro e _ ⟨rfl,rfl⟩;rw[hb]
     go_wp2_with fail
     go_roundw
     ·exact iK.o (-1) wY.o _ aP.o HG.o HR.o HY.o
     ·simp[intOf];omega
   ·have wY:am (f q=-1):=aa (by rw[Aa.o,if_neg (fun h=>wX h.1)])
    go_wp2_with fail
    go_roundw
    ·exact iK.o (-1) wY.o _ aP.o HG.o HR.o HY.o
    ·simp[intOf];omega
  ·obtain rfl:q=5:=by omega
   have tq:=ab hO;have HR:=aa hR;have HO:=aa hO;have zq:=fun o=>aE hR o
   have tq0:=ab hR;rw[LT]at tq;simp at tq0;clear hG hR hO
   go_wp2_with (refine wpList_store_row rfl 190 (.tmp 8) (.tmp 40) rfl (w.heap.size+1) #[.int .i64 p,.int .i64 K,.int .i64 0,.int .i64 (f 0),.int .i64 (f 1),.int .i64 (f 2),.int .i64 (f 3),.int .i64 (f 4)] rfl rfl 190 _ HR.o (by kernel_rfl) rfl (by simp[Value.oneCell']) ?_)
   exact bodyPost_ret (DI _ _ 8 rfl (w.heap.size+1) _ ⟨p,K,0,f 0,f 1,f 2,f 3,f 4⟩ 190 rfl (setRow_heap _ _ _ _ _ _ HR.o)) rfl ⟨by rw[HV.o],below_setRow az (by omega) _⟩
theorem aH.rawK{w:World} {base size n:Nat} {e:TypeId} {v:Value} {xs:List Value} (h:aH w base e size v n xs) (h1:∀ u∈xs,u.oneCell'=true):ny w size v n xs:=by
 rcases h.2 with ⟨rfl,rfl⟩|⟨g,cap,cur,fz,rfl,_,hg,_,jH,_,_,ht⟩
 ·exact⟨none,0,rfl,fun _=>⟨rfl,rfl⟩,h.1,(fun j u hj=>by
   have:xs=[]:=List.eq_nil_of_length_eq_zero (by simpa using h.1)
   rw[this]at hj;simp at hj),h1⟩
 ·exact⟨some ⟨g,0,none⟩,cap,rfl,(fun e=>by cases e),h.1,fun j u hj=>by
   obtain⟨g',c',e1,e2⟩:=h.cell j u hj;injection e1 with e1
   injection e1 with e1
   injection e1 with e1
   subst e1
   exact⟨g,0,rfl,(by rw[Nat.zero_add];exact e2)⟩,h1⟩
theorem DJ{α:Type} {to ti:TypeId} {k:Nat} {flat:List α->List Value} {w:World} {base base':Nat} {v:Value} {l:List (List α)} (h:cB to ti k flat w base v l) (hb:base'<=base):cB to ti k flat w base' v l:=by
 obtain⟨xs,h1,h2⟩:=h;exact⟨xs,h1.base hb,fun i hi=>by obtain⟨x,q1,q2⟩:=h2 i hi;exact⟨x,q1,q2.base hb⟩⟩
def oG(a:Adv) (k:Nat) (m:Mv):List (List Rd):=(cf a k m.to.toNat).map (m.r :: ·)
theorem Lt(a:Adv) (k s:Nat):cf a (k+1) s=(a.states.getD s []).flatMap (oG a k):=rfl
def kU(a:Adv) (k:Nat) (mv:List Mv) (i:Nat):List (List Rd):=(mv.take i).flatMap (oG a k)
theorem Qt{α β:Type} (f:α->List β) (l:List α) (i:Nat) (hi:i<l.length):(l.take (i+1)).flatMap f=(l.take i).flatMap f++f l[i]:=by
 rw[List.take_succ_eq_append_getElem hi,List.flatMap_append];simp
theorem Ig{α β:Type} (f:α->List β) (l:List α) (i:Nat):((l.take i).flatMap f).length<=(l.flatMap f).length:=by
 conv=>rhs;rw[<-List.take_append_drop i l,List.flatMap_append,List.length_append]
 omega
theorem Gp(a:Adv) (gC:∀ s,s<a.states.length->∀ m∈a.states.getD s [],0<=m.to/\m.to<a.states.length):∀ (k:Nat) (st:Nat) (v:Value) (w:World),k<=64->st<a.states.length->(cf a k st).length<=4096->bF w v a.states →
  Calls Tryz.prog 157 #[.agg #[.int .i64 a.n,v],.int .i64 st,.int .i64 k] w fun r w'=>∃ u,r=.returned u/\wo w' w.heap.size u (cf a k st)/\Below w.heap.size w w'
 | 0,st,v,w,_,eF,_,hv=>by
  obtain⟨pa,ca,rfl,_⟩:=hv.at;clear hv
  go_enter Tryz.func157,Tryz.ntmps157
  go_wp2_with fail
  go_ret
  refine⟨_,rfl,⟨[.slice none 0 0],⟨rfl,.inr ⟨w.heap.size+1,1,_,(0,0),rfl,by omega,bd _ _ _,fun i _ h=>by have:=h.2;simp at this,Nat.le_refl _,by unfold maxLen;omega,rfl,rfl⟩⟩,fun i hi=>?_⟩,by go_grown⟩;obtain rfl:i=0:=by simp[cf]at hi;omega
  exact⟨_,rfl,aH.nil _ _ _ _⟩
 | k+1,st,v,w,hk64,eF,cC,hv=>by
  have IH:=aa (Gp a gC k);obtain⟨i0,cM,bX,bP,bY⟩:=info_parts Tryz.infoRound;have bO:=aa (And.intro cM (And.intro bX (And.intro bP bY)));obtain⟨i1,pN,jl,jj,iR⟩:=info_parts Tryz.infoWordRow;have vp:=aa (And.intro pN (And.intro jl (And.intro jj iR)));obtain⟨pa,ca,rfl,la1,la2,ea⟩:=hv.at;obtain⟨b1,o1,rfl,x1,c1,dL⟩:=ea st eF;obtain⟨pm,cm,rfl,lm1,lm2,em⟩:=dL.at;rw[Nat.mul_one]at c1;have HV:=aa hv;have C1:=aa c1;have EM:=aa em;have YM:am (∀ i (hi:i<(a.states[st]).length),0<=(a.states[st][i]).to/\(a.states[st][i]).to<a.states.length):=aa (fun i hi=>gC st eF _ (by rw[aA [] eF];exact List.getElem_mem hi));rw[Lt,aA [] eF]at cC ⊢;generalize a.states[st]=mv at c1 C1 EM YM lm1 lm2 cC dL ⊢;have la:am (∀ i (hi:i<mv.length),kU a k mv (i+1)=kU a k mv i++oG a k mv[i]):=aa (Qt (oG a k) mv);have uJ:am (∀ i,(kU a k mv i).length<=(mv.flatMap (oG a k)).length):=aa (Ig (oG a k) mv)
  have AC:am (∀ i (hi:i<mv.length),(oG a k mv[i]).length+(kU a k mv i).length<=4096):=aa (fun i hi=>by
   have h1:=uJ.o (i+1);rw[la.o i hi,List.length_append]at h1
   omega)
  have HFE0:am (kU a k mv mv.length=mv.flatMap (oG a k)):=aa (by unfold kU;rw[List.take_length]);have HF00:am (kU a k mv 0=[]):=aa rfl;generalize mv.flatMap (oG a k)=FF at uJ HFE0 cC ⊢;obtain⟨n,hn⟩:∃ n,mv.length=n:=⟨_,rfl⟩;have HN:=aa hn;obtain⟨ns,rN⟩:∃ ns,a.states.length=ns:=⟨_,rfl⟩;have HNS:=aa rN;rw[rN]at eF la1 la2 YM HV ⊢;clear hv ea em dL rN cM bX bP bY pN jl jj iR;obtain⟨kz,hkz⟩:∃ kz:Int,((k+1:Nat):Int)=kz:=⟨_,rfl⟩;have fg:(kz == 0)=false:=beq_eq_false_iff_ne.2 (by omega);have HW1K:am (IntKind.i64.wrap (kz - 1)=(k:Int)):=aa (by rw[IntWalk.i64_in _ (by omega)];omega);rw[hkz];clear hkz
  go_enter Tryz.func157,Tryz.ntmps157
  go_wp2_with fail
  refine bu (fun W=>Below w.heap.size w W/\W.heap[w.heap.size]?=some (.cells #[.int .i64 a.n,.slice (some ⟨b1,o1,none⟩) ns ca] 27)) ⟨by go_grown,aq _ _⟩ (fun w1 jc=>?_);have fx:=aa jc.1;have db:=aa jc.2;have gc:=aC jc.2;have hsz1:=jc.1.size;clear jc
  go_loopw [7,8] (fun o i wr=>∃ i':Nat,i'<=n/\i=.int .i64 i'/\Below w1.heap.size w1 wr/\wo wr w1.heap.size o (kU a k mv i')) (fun _ i _=>n - (intOf i).toNat)
  ·exact⟨0,by omega,rfl,Below.refl _ _,by rw[HF00.o];exact cB.nil _ _⟩
  ·
   obtain⟨i,hi,rfl,az,oW⟩:=hrel;have aP:=aa az;have cZ:=ae fx.o az;have tA:=ab (af az db.o);have tc:=ak cZ C1.o;have hfr':=oW;obtain⟨xs0,GJ,RO⟩:=oW;obtain⟨po,co,rfl⟩:=GJ.slice;have rQ:=aa hfr';have ME:=aa (GJ.lt);clear hfr' GJ RO;by_cases aB:i<n
   ·have Vx:i<mv.length:=by rw[HN.o];exact aB
    obtain⟨b2,o2,rfl,⟨⟨d0,_⟩,⟨d1,_⟩,⟨d2,_⟩,⟨d3,_⟩,⟨d4,_⟩,⟨d5,_⟩,⟨d6,_⟩⟩,⟨d7,_⟩⟩:=EM.o i Vx;have d0:=ak cZ d0;have d1:=ak cZ d1;have d2:=ak cZ d2;have d3:=ak cZ d3;have d4:=ak cZ d4;have d5:=ak cZ d5;have d6:=ak cZ d6;have d7:=ak cZ d7;have RT:=aa (YM.o i Vx);have JY:=aa (la.o i Vx);have G0:=aa (AC.o i Vx);generalize mv[i]=m at d0 d1 d2 d3 d4 d5 d6 d7 RT JY G0;obtain⟨to,pK⟩:∃ to:Nat,m.to=to:=⟨m.to.toNat,by have:=RT.o;omega⟩;have hto2:to<ns:=by have:=RT.o;omega
    have RR:=aa pK;rw[pK]at d7;have TL:=HW1K.o;obtain⟨wrA,kw⟩:∃ x,x=wr:=⟨_,rfl⟩;subst kw;clear pK;have V0:am (oG a k m=(cf a k to).map (m.r :: ·)):=aa (by unfold oG;rw[RR.o,Int.toNat_natCast]);have hRL:(cf a k to).length<=4096:=by have h1:=G0.o;rw[V0.o,List.length_map]at h1;omega
    have tA2:=fun o=>ab (ar o (af az db.o))
    go_wp2_with fail
    refine aN (fun W=>Below wrA.heap.size wrA W/\W.heap[wrA.heap.size]?=some (.cells #[.int .i64 m.r.g.n,.int .i64 m.r.g.h0,.int .i64 m.r.g.h1,.int .i64 m.r.g.h2,.int .i64 m.r.g.h3,.int .i64 m.r.g.h4,.int .i64 m.r.f,.int .i64 to] 143)) ⟨by go_grown,aq _ _⟩ (fun w4 kq=>?_);have Rf:=aa kq.1;have eG:=aa kq.2;have Ae:=aC kq.2;clear kq d0 d1 d2 d3 d4 d5 d6 d7 tA tA2 tc;refine(IH.o to _ w4 (by omega) (by rw[HNS.o];exact hto2) hRL (HV.o.up up_moves (ae cZ Rf.o))).mono ?_;rintro r w5 ⟨u,rfl,hu,dE⟩;have HU:=aa hu;have lf:=aa dE;obtain⟨xs,dL,eA⟩:=hu;obtain⟨pu,cu,rfl⟩:=dL.slice;have kW:=aa dL;have fG:=aa eA;obtain⟨rs,KX⟩:∃ rs,cf a k to=rs:=⟨_,rfl⟩;rw[KX]at V0 hRL HU kW fG ⊢;have hsz5:=dE.size;have HF5:=aa (rQ.o.up (ae Rf.o dE));have HBW5:=aa (ae aP.o (ae Rf.o dE));have fy:=aa (af dE eG.o);have XY:am (∀ x∈rs,x.length=k):=aa (by rw[<-KX];exact kA a k to);have hszA:=aP.o.size;clear dL eA KX dE IH cZ az;obtain⟨LJ,RL⟩:∃ LJ:Nat->List (List Rd),LJ=fun j=>kU a k mv i++(rs.take j).map (m.r :: ·):=⟨_,rfl⟩
    have MF:am (LJ 0=kU a k mv i):=aa (by rw[RL];simp);have V7:am (∀ j (hj:j<rs.length),LJ (j+1)=LJ j++[m.r :: rs[j]]):=aa (fun j hj=>by rw[RL];dsimp only;rw[List.take_succ_eq_append_getElem hj,List.map_append,List.append_assoc];rfl);have Vl:am (LJ rs.length=kU a k mv (i+1)):=aa (by rw[RL];dsimp only;rw[List.take_length,JY.o,V0.o])
    have HJL:am (∀ j,j<=rs.length->(LJ j).length<=4096/\(LJ j).length=(LJ 0).length+j):=aa (fun j hj=>by
     have h1:=G0.o;rw[V0.o,List.length_map]at h1;rw[RL];simp only[List.length_append,List.length_map,List.length_take,Nat.min_eq_left hj,List.take_zero,List.map_nil,List.length_nil]
     omega)
    clear RL;rw[<-MF.o]at HF5 rQ ME ⊢
    go_wp2_with fail
    go_loopw [7,11] (fun o j wr=>∃ j':Nat,j'<=rs.length/\j=.int .i64 j'/\Below w1.heap.size w1 wr/\wr.heap[wrA.heap.size]?=some (.cells #[.int .i64 m.r.g.n,.int .i64 m.r.g.h0,.int .i64 m.r.g.h1,.int .i64 m.r.g.h2,.int .i64 m.r.g.h3,.int .i64 m.r.g.h4,.int .i64 m.r.f,.int .i64 to] 143)/\(∀ q,w4.heap.size<=q->q<w5.heap.size->wr.heap[q]?=w5.heap[q]?)/\w5.heap.size<=wr.heap.size/\(∀ g,o.ownBlock=some g->g<w4.heap.size\/w5.heap.size<=g)/\wo wr w1.heap.size o (LJ j')) (fun _ j _=>rs.length - (intOf j).toNat)
    ·exact⟨0,by omega,rfl,HBW5.o,fy.o,fun q _ _=>rfl,Nat.le_refl _,fun g hg=>.inl (by have:=(ME.o g hg).2;omega),HF5.o⟩
    ·
     obtain⟨j,hj,rfl,GW,dS,hwin,hszj,lX,hfj⟩:=hrel;have Mw:=aa GW;have Ut:=aa dS;have TE:=aa hwin;have Vf:=aa lX;have HFJ:=aa hfj;obtain⟨ys,jj,iR⟩:=hfj;obtain⟨pq,cq,rfl⟩:=jj.slice;have sZ:=aa jj;have wW:=aa iR;clear GW hwin lX jj iR;by_cases fS:j<rs.length
     ·obtain⟨x,B5,rj⟩:=fG.o j fS;obtain⟨g0,c0,e0,Ay⟩:=kW.o.cell j x B5;injection e0 with e0
      subst e0;have uS:=kW.o.lt g0 rfl
      have tx:wr.cell? ⟨g0,j,none⟩=some x:=by
       unfold World.cell? at Ay ⊢;rw[TE.o g0 uS.1 uS.2];exact Ay
      have Kn:aH wr w4.heap.size 141 7 x rs[j].length (dd rs[j]):=rj.keep fun g o hg hh=>(TE.o g (rj.lt g hg).1 (rj.lt g hg).2).trans hh
      have iQ:(rs[j]).length=k:=XY.o _ (List.getElem_mem fS);have Aq:=aa (V7.o j fS);have ku:=aa (HJL.o j (by omega));generalize rs[j]=word at Kn iQ Aq rj;obtain⟨px,cx,rfl⟩:=Kn.slice;have HRK:=aa (Kn.rawK (uu word));have VL:=aa iQ;have t9:=ab dS;have tx2:=fun o=>ak (show Below wr.heap.size wr (wr.alloc o) by go_grown) tx
      have oR:Below wr.heap.size wr (wr.alloc (.cells m.r.c 141)):=by go_grown
      have lZ:am (aH (wr.alloc (.cells m.r.c 141)) wr.heap.size 141 7 (.slice (some ⟨wr.heap.size,0,none⟩) 1 1) 1 m.r.c.toList):=aa ⟨rfl,.inr ⟨wr.heap.size,1,_,(0,0),rfl,Nat.le_refl _,aq _ _,fun i _ h=>by have:=h.2;simp at this,Nat.le_refl _,by unfold maxLen;omega,rfl,rfl⟩⟩
      have HRK2:am (ny (wr.alloc (.cells m.r.c 141)) 7 (.slice px word.length cx) word.length (dd word)):=aa (by
       have h:=(Kn.up oR).rawK (uu word)
       exact h)
      have jT:am (1+word.length<=maxLen):=aa (by rw[iQ];unfold maxLen;omega);have dD:am ((1+word.length) * 56<=140737488355328):=aa (by rw[iQ];omega);have HMX2:am ((LJ j).length+1<=maxLen):=aa (by have:=ku.o.1;unfold maxLen;omega);have HBY2:am (((LJ j).length+1) * 24<=140737488355328):=aa (by have:=ku.o.1;omega);have hBJs:=Mw.o.size;clear rj Kn iQ Ay B5 dS;have B':=aa oR;clear oR tx
      go_wp2_with (at_builtin;first
                   | (refine lq _ rfl (.tmp 50) (.tmp 54) 87 rfl wr.heap.size 141 i0 _ 7 56 Tryz.underlying87 bO.o.1 bO.o.2.1 bO.o.2.2.1 bO.o.2.2.2 rfl (by decide) _ 1 m.r.c.toList rfl lZ.o _ word.length (dd word) rfl HRK2.o jT.o dD.o (by simp) ?_;intro v6 w6 eP dQ hob6;obtain⟨av6,cv6,rfl⟩:=eP.slice;have Rn:=aa dQ;have U9:=aa eP;have VQ:=dQ.size;simp only[World.size_alloc]at VQ;have yT:am (∀ q,q<wr.heap.size->w6.heap[q]?=wr.heap[q]?):=aa (fun q hq=>(Rn.o.block q (by simp;omega) (fun e=>by have e:=dp e;dsimp only at e;omega)).trans (Below.heap_alloc wr _ q hq));have TQ:am (aH (w6.alloc (.cells #[.slice av6 (1+word.length) cv6] 87)) w1.heap.size 87 1 (.slice pq (LJ j).length cq) (LJ j).length ys):=aa ((((sZ.o.up B'.o).apart lZ.o (by decide) Rn.o)).up (show Below w6.heap.size w6 (w6.alloc (.cells #[.slice av6 (1+word.length) cv6] 87)) by go_grown));have bA:=aa (dx w6 [.slice av6 (1+word.length) cv6] 87);have HBS7:am (w1.heap.size<=(w6.alloc (.cells #[.slice av6 (1+word.length) cv6] 87)).heap.size):=aa (by simp;omega);clear eP dQ hob6)
                   | (refine aX _ rfl (.tmp 49) (.tmp 56) 221 rfl w1.heap.size 87 i1 _ 1 24 Tryz.underlying221 vp.o.1 vp.o.2.1 vp.o.2.2.1 vp.o.2.2.2 rfl (by decide) _ (LJ j).length _ rfl TQ.o ⟨w6.heap.size,0,none⟩ 1 1 [.slice av6 (1+word.length) cv6] rfl rfl bA.o (by simp[Value.oneCell']) HMX2.o HBY2.o HBS7.o ?_;intro v9 w9 eV du Kj))
      have tz:=du.size;simp only[World.size_alloc]at tz;have hxl2:(m.r :: word).length=1+word.length:=by simp;omega
      have hx6:aH (w6.alloc (.cells #[.slice av6 (1+word.length) cv6] 87)) w1.heap.size 141 7 (.slice av6 (1+word.length) cv6) (m.r :: word).length (dd (m.r :: word)):=by
       rw[hxl2];exact(U9.o.base (show w1.heap.size<=wr.heap.size from hBJs)).up (show Below w6.heap.size w6 (w6.alloc (.cells #[.slice av6 (1+word.length) cv6] 87)) by go_grown)
      have kj:∀ i (hi:i<(LJ j).length),∃ x,ys[i]?=some x/\aH (w6.alloc (.cells #[.slice av6 (1+word.length) cv6] 87)) w1.heap.size 141 7 x (LJ j)[i].length (dd (LJ j)[i]):=fun i hi=>by
       obtain⟨x,q1,q2⟩:=wW.o i hi;exact⟨x,q1,(q2.keep fun g o hg hh=>(yT.o g (q2.lt g hg).2).trans hh).up (show Below w6.heap.size w6 (w6.alloc (.cells #[.slice av6 (1+word.length) cv6] 87)) by go_grown)⟩
      have hfr9:=cB.snoc TQ.o kj (by decide) hx6 du eV
      have Ar:∀ q,q<wr.heap.size->(∀ g,(Value.slice pq (LJ j).length cq).ownBlock=some g->q≠g)->w9.heap[q]?=wr.heap[q]?:=fun q hq hn=>by
       rw[du.block q (by simp;omega) (fun e=>hn q e.symm rfl),Below.heap_alloc w6 _ q (by omega)];exact yT.o q hq
      have hb69:Below w1.heap.size w1 (w6.alloc (.cells #[.slice av6 (1+word.length) cv6] 87)):=(Below.grown (ae Mw.o B'.o) Rn.o (by simp;omega) (fun g hg=>by have e:=dp hg;dsimp only at e;omega)).alloc (by omega) _
      go_roundw
      ·
       refine⟨j+1,by omega,by go_num,Below.grown hb69 du (by simp;omega) (fun g hg=>(TQ.o.lt g hg).1),?_,fun q h1 h2=>?_,by omega,fun g hg=>?_,by rw[Aq.o];exact hfr9⟩
       ·exact(Ar _ (aC Ut.o) (fun g hg e=>sZ.o.ne Ut.o (by decide) g hg e.symm)).trans Ut.o
       ·exact(Ar q (by omega) (fun g hg e=>by rcases Vf.o g hg with h|h<;>omega)).trans (TE.o q h1 h2)
       ·rcases Kj with h|h
        ·exact Vf.o g (h ▸ hg)
        ·rw[h]at hg;have e:=dp hg;simp at e;exact .inr (by omega)
      ·simp[intOf];omega
     ·obtain rfl:j=rs.length:=by omega
      rw[Vl.o]at HFJ sZ ⊢
      go_wp2_with fail
      go_roundw
      ·exact⟨i+1,by omega,by go_num,Mw.o,HFJ.o⟩
      ·simp[intOf];omega
   ·obtain rfl:i=n:=by omega
    have YP:am (wo wr w1.heap.size (.slice po (kU a k mv i).length co) FF):=aa (by have h:=rQ.o;rwa [<-HFE0.o,HN.o])
    go_wp2_with fail
    go_ret
    exact⟨_,rfl,DJ YP.o (by omega),ae fx.o aP.o⟩
end Go.Proofs.YtmeaoneaephjeaaGreatDoor
namespace Go.Proofs.YtmeaoneaephjeaaGreatDoor
open Go.ChangeShapes Go.WideShapes Go.ChangeAt Go.RowKit Go Go.Deep
section
variable {H : Type} {enc : TypeId × Value → H} {w : World}
theorem ZT{l:List Value} (h:l.length=3):∃ c0 c1 c2,l=[c0,c1,c2]:=by
 match l,h with
 | [c0,c1,c2],_=>exact⟨c0,c1,c2,rfl⟩
theorem ZU{l:List Value} (h:l.length=8):∃ c0 c1 c2 c3 c4 c5 c6 c7,l=[c0,c1,c2,c3,c4,c5,c6,c7]:=by
 match l,h with
 | [c0,c1,c2,c3,c4,c5,c6,c7],_=>exact⟨c0,c1,c2,c3,c4,c5,c6,c7,rfl⟩
theorem ZL{l:List Value} (h:l.length=10):∃ a c0 c1 c2,l=a++[c0,c1,c2]/\a.length=7:=by
 match l,h with
 | [b0,b1,b2,b3,b4,b5,b6,c0,c1,c2],_=>exact⟨[b0,b1,b2,b3,b4,b5,b6],c0,c1,c2,rfl,rfl⟩
theorem Tryz.cView:Tryz.prog.cellsOf 190=8:=by kernel_rfl
theorem Tryz.cHeard:Tryz.prog.cellsOf 137=5:=by kernel_rfl
theorem Tryz.cViews:Tryz.prog.cellsOf 30=1:=by kernel_rfl
theorem Tryz.cTable:Tryz.prog.cellsOf 32=2:=by kernel_rfl
theorem Tryz.cExec:Tryz.prog.cellsOf 89=3:=by kernel_rfl
theorem Tryz.cExecs:Tryz.prog.cellsOf 33=1:=by kernel_rfl
theorem Tryz.cRounds:Tryz.prog.cellsOf 87=1:=by kernel_rfl
theorem Tryz.cSystem:Tryz.prog.cellsOf 35=10:=by kernel_rfl
theorem opn_view:yq enc w 190 8 Dw:=fun fuel cs x b off h hz hc=>by
 obtain⟨hl,n,hf⟩:=jy Tryz.underlying190 h hz;rw[Tryz.cView]at hl;obtain⟨c0,c1,c2,c3,c4,c5,c6,c7,rfl⟩:=ZU hl;obtain⟨y0,r0,_⟩:=hf 0 _ rfl;obtain⟨y1,r1,_⟩:=hf 1 _ rfl;obtain⟨y2,r2,_⟩:=hf 2 _ rfl;obtain⟨y3,r3,_⟩:=hf 3 _ rfl;change iu enc w n 3 (([c0,c1,c2,c3,c4,c5,c6,c7].drop 0).take (Tryz.prog.cellsOf 3)) y0 at r0;change iu enc w n 3 (([c0,c1,c2,c3,c4,c5,c6,c7].drop 1).take (Tryz.prog.cellsOf 3)) y1 at r1;change iu enc w n 3 (([c0,c1,c2,c3,c4,c5,c6,c7].drop 2).take (Tryz.prog.cellsOf 3)) y2 at r2;change iu enc w n 137 (([c0,c1,c2,c3,c4,c5,c6,c7].drop 3).take (Tryz.prog.cellsOf 137)) y3 at r3;rw[Tryz.cInt]at r0 r1 r2;rw[Tryz.cHeard]at r3;obtain⟨m0,e0,_,w0⟩:=DataW.trod_int Tryz.underlying3 r0;obtain⟨m1,e1,_,w1⟩:=DataW.trod_int Tryz.underlying3 r1;obtain⟨m2,e2,_,w2⟩:=DataW.trod_int Tryz.underlying3 r2;have ha:=(zl (enc:=enc) (w:=w) Tryz.underlying137 Tryz.underlying3 Tryz.cInt Tryz.cHeard _ _ _ r3).2;obtain⟨m3,e3,w3⟩:=ha 0 (by omega);obtain⟨m4,e4,w4⟩:=ha 1 (by omega);obtain⟨m5,e5,w5⟩:=ha 2 (by omega);obtain⟨m6,e6,w6⟩:=ha 3 (by omega);obtain⟨m7,e7,w7⟩:=ha 4 (by omega);simp at e0 e1 e2 e3 e4 e5 e6 e7;subst e0 e1 e2 e3 e4 e5 e6 e7;exact⟨⟨m0,m1,m2,m3,m4,m5,m6,m7⟩,⟨hc 0 (by omega),sA w0⟩,⟨hc 1 (by omega),sA w1⟩,⟨hc 2 (by omega),sA w2⟩,⟨hc 3 (by omega),w3⟩,⟨hc 4 (by omega),w4⟩,⟨hc 5 (by omega),w5⟩,⟨hc 6 (by omega),w6⟩,hc 7 (by omega),w7⟩
theorem opn_ex:yq enc w 89 3 SO:=fun fuel cs x b off h hz hc=>by
 obtain⟨hl,n,hf⟩:=jy Tryz.underlying89 h hz;rw[Tryz.cExec]at hl;obtain⟨c0,c1,c2,rfl⟩:=ZT hl;obtain⟨y0,r0,_⟩:=hf 0 _ rfl;obtain⟨y1,r1,z1⟩:=hf 1 _ rfl;obtain⟨y2,r2,z2⟩:=hf 2 _ rfl;change iu enc w n 3 (([c0,c1,c2].drop 0).take (Tryz.prog.cellsOf 3)) y0 at r0;change iu enc w n 87 (([c0,c1,c2].drop 1).take (Tryz.prog.cellsOf 87)) y1 at r1;change iu enc w n 56 (([c0,c1,c2].drop 2).take (Tryz.prog.cellsOf 56)) y2 at r2;change pJ 87 y1.1 at z1;change pJ 56 y2.1 at z2;rw[Tryz.cInt]at r0;rw[Tryz.cRounds]at r1;rw[Tryz.cVecs]at r2;obtain⟨m0,e0,_,w0⟩:=DataW.trod_int Tryz.underlying3 r0;obtain⟨v1,l1,e1,g1⟩:=qm Tryz.underlying87 Tryz.cRound (by omega) (of_decide_eq_true (by kernel_rfl)) opn_round r1 z1;obtain⟨v2,l2,e2,g2⟩:=qm Tryz.underlying56 Tryz.cInts (by omega) (of_decide_eq_true (by kernel_rfl)) opn_ints r2 z2;simp at e0 e1 e2;subst e0 e1 e2;exact⟨⟨m0,l1,l2⟩,⟨hc 0 (by omega),sA w0⟩,⟨_,hc 1 (by omega),g1⟩,⟨_,hc 2 (by omega),g2⟩⟩
theorem SY{fuel:Nat} {cs:List Value} {x:DataW H × List MemPlace} (h:iu enc w fuel 35 cs x) (hz:pJ 35 x.1) :
  ∃ (s:Sys) (vc vs vt ve:Value),cs=(bL s.prob vc vs s.n vt ve).toList/\IsSys w s vc vs vt ve:=by
 obtain⟨hl,n,hf⟩:=jy Tryz.underlying35 h hz;rw[Tryz.cSystem]at hl;obtain⟨a,c0,c1,c2,rfl,ha⟩:=ZL hl;obtain⟨y0,r0,z0⟩:=hf 0 _ rfl;obtain⟨y1,r1,z1⟩:=hf 1 _ rfl;obtain⟨y2,r2,z2⟩:=hf 2 _ rfl;change iu enc w n 29 (((a++[c0,c1,c2]).drop 0).take (Tryz.prog.cellsOf 29)) y0 at r0;change iu enc w n 32 (((a++[c0,c1,c2]).drop 7).take (Tryz.prog.cellsOf 32)) y1 at r1;change iu enc w n 33 (((a++[c0,c1,c2]).drop 9).take (Tryz.prog.cellsOf 33)) y2 at r2;change pJ 29 y0.1 at z0;change pJ 32 y1.1 at z1;change pJ 33 y2.1 at z2;rw[Tryz.cProb,List.drop_zero,<-ha,List.take_left']at r0
 rotate_left
 ·rfl
 rw[Tryz.cTable,<-ha,List.drop_left']at r1
 rotate_left
 ·rfl
 rw[Tryz.cExecs,show 9=a.length+2 by omega,List.drop_append]at r2;simp at r1 r2;obtain⟨p,vc,vs,rfl,g1,g2⟩:=Po r0 z0;obtain⟨_,n1,eU⟩:=jy Tryz.underlying32 r1 z1;obtain⟨u0,s0,_⟩:=eU 0 _ rfl;obtain⟨u1,s1,q1⟩:=eU 1 _ rfl;change iu enc w n1 3 (([c0,c1].drop 0).take (Tryz.prog.cellsOf 3)) u0 at s0;change iu enc w n1 30 (([c0,c1].drop 1).take (Tryz.prog.cellsOf 30)) u1 at s1;change pJ 30 u1.1 at q1;rw[Tryz.cInt]at s0;rw[Tryz.cViews]at s1;obtain⟨m0,e0,_,w0⟩:=DataW.trod_int Tryz.underlying3 s0;obtain⟨v1,l1,e1,g3⟩:=qm Tryz.underlying30 Tryz.cView (by omega) (of_decide_eq_true (by kernel_rfl)) opn_view s1 q1;obtain⟨v2,l2,e2,g4⟩:=qm Tryz.underlying33 Tryz.cExec (by omega) (of_decide_eq_true (by kernel_rfl)) opn_ex r2 z2;simp at e0 e1 e2;subst e0 e1 e2;exact⟨⟨p,m0,l1,l2⟩,vc,vs,_,_,rfl,g1,g2,g3,g4⟩
end
end Go.Proofs.YtmeaoneaephjeaaGreatDoor
namespace Go.Proofs.YtmeaoneaephjeaaGreatDoor
def Fu(r:Rd):List Rd->List Rd
 | []=>[r]
 | x :: l=>if roundC r x<0 then r :: x :: l else if roundC r x=0 then x :: l else x :: Fu r l
def CD(a:Adv):List Rd:=(a.states.flatMap fun l=>l.map (·.r)).foldr Fu []
theorem SZ(a:List Int):∀ b,ordV a b=0↔a=b:=by
 induction a with
 | nil=>intro b;cases b<;>simp[ordV]
 | cons x r ih=>
  intro b;cases b with
  | nil=>simp[ordV]
  | cons y s=>
   rw[ordV];have:=ih s;rw[List.cons.injEq]
   grind
theorem S0{a b:Rd} (h:a.list=b.list):a=b:=by
 obtain⟨⟨_,_,_,_,_,_⟩,_⟩:=a;obtain⟨⟨_,_,_,_,_,_⟩,_⟩:=b;simp[Rd.list]at h;simp[h]
theorem ND(a b:Rd):roundC a b=0↔a=b:=by
 rw[K4,SZ];exact⟨S0,fun h=>by rw[h]⟩
theorem S1(r x:Rd) (l:List Rd):x∈Fu r l↔x=r\/x∈l:=by
 induction l with
 | nil=>simp[Fu]
 | cons y l ih=>
  unfold Fu;by_cases h1:roundC r y<0
  ·simp[h1]
  ·by_cases h2:roundC r y=0
   ·have:=(ND r y).1 h2;subst this;simp[h2]
   ·simp only[if_neg h1,if_neg h2,List.mem_cons,ih]
    grind
theorem BB(a:Adv) (x:Rd):x∈CD a↔∃ l∈a.states,∃ m∈l,m.r=x:=by
 unfold CD
 have key:∀ l:List Rd,x∈l.foldr Fu []↔x∈l:=by
  intro l;induction l with
  | nil=>simp
  | cons y l ih=>rw[List.foldr_cons,S1,ih,List.mem_cons]
 rw[key];simp
structure OkR (n:Int) (r:Rd):Prop where
 gn:r.g.n=n
 h:∀ q,q<5->0<=r.g.hear q/\r.g.hear q<32
 z:∀ q:Nat,n<=q->q<5->r.g.hear q=0
 n1:1<=n/\n<=5
 f:0<=r.f/\r.f<32
theorem S2{g:Gr} (h:gV g=0):(∀ q,q<5->0<=g.hear q/\g.hear q<32)/\(∀ q:Nat,g.n<=q->q<5->g.hear q=0)/\1<=g.n/\g.n<=5:=by
 unfold gV at h;split at h
 ·omega
 rename_i h1;have h2:=fN h;have hn:g.n=1\/g.n=2\/g.n=3\/g.n=4\/g.n=5:=by omega
 have key:∀ q,q<5->(0<=g.hear q/\g.hear q<32)/\(g.n<=(q:Int)->g.hear q=0):=fun q hq=>by
  have h3:=h2 q hq;unfold mU at h3;split at h3
  ·split at h3
   ·omega
   ·rename_i h4;exact⟨by omega,fun _=>by omega⟩
  ·split at h3
   ·omega
   ·rename_i h4 h5;refine⟨?_,fun e=>absurd e h4⟩;rcases hn with e|e|e|e|e<;>rw[e]at h5<;>simp at h5<;>omega
 exact⟨fun q hq=>(key q hq).1,fun q hn hq=>(key q hq).2 hn,by omega,by omega⟩
theorem Qu{a:Adv} (ha:advE a=0) {r:Rd} (h:r∈CD a):OkR a.n r:=by
 obtain⟨l,hl,m,hm,rfl⟩:=(BB a r).1 h;obtain⟨s,hs,rfl⟩:=List.getElem_of_mem hl;obtain⟨j,hj,rfl⟩:=List.getElem_of_mem hm;have h1:=(ir ha).2.1 s hs;rw[show a.states.getD s []=a.states[s] by simp[hs]]at h1;unfold stateE at h1;rw[if_neg (by omega)]at h1;have h2:=fN h1 j hj;have hf:=(E4 h2).1;unfold dX at h2;rw[show a.states[s].getD j default=a.states[s][j] by simp[hj]]at h2 hf;split at h2
 ·rename_i h3;exact absurd h2 h3
 rename_i h3;split at h2
 ·omega
 rename_i h4;have h5:roundE a.states[s][j].r=0:=by simpa using h3
 unfold roundE at h5;split at h5
 ·rename_i h6;exact absurd h5 h6
 rename_i h6;obtain⟨g1,g2,g3,g4⟩:=S2 (by simpa using h6);have hn:a.states[s][j].r.g.n=a.n:=by simpa using h4
 rw[hn]at g2 g3 g4;exact⟨hn,g1,g2,⟨g3,g4⟩,hf⟩
end Go.Proofs.YtmeaoneaephjeaaGreatDoor
namespace Go.Proofs.YtmeaoneaephjeaaGreatDoor
open Go.RowKit Go Go.Shelf
theorem zN{w:World} {base:Nat} {v:Value} {l:List Vw} (h:aH w base 190 8 v l.length (fc l)) (hx:∀ u∈l,ka u) (hn:l.length<=17592186044416):nN w v l:=by
 have aU:=fun i (hi:i<l.length) j (u:Value) (hj:j<8) (hu:l[i].c[j]?=some u)=>h.cell (i * 8+j) u (by unfold fc;rw[qr Vw.c 8 (fun _=>rfl) l i j hi hj];exact hu)
 rcases h.2 with ⟨hz,h0⟩|⟨g,cap,cur,fz,rfl,_,hg,_,kZ,jk,_⟩
 ·refine⟨none,0,by rw[hz,h0],⟨by omega,by omega,fun _=>rfl⟩,hn,fun i x hi=>?_⟩;have:=(List.getElem?_eq_some_iff.1 hi).1;omega
 ·refine⟨some ⟨g,0,none⟩,cap,rfl,⟨kZ,by simp only[maxLen]at jk;omega,fun e=>by cases e⟩,hn,fun i x hi=>⟨g,0,rfl,?_⟩⟩;obtain⟨gZ,rfl⟩:=List.getElem?_eq_some_iff.1 hi;obtain⟨r0,r1,r2,r3,r4,r5,r6,r7⟩:=hx _ (List.getElem_mem gZ)
  have key:∀ j u,j<8->l[i].c[j]?=some u->w.cell? ⟨g,0+i * 8+j,none⟩=some u:=fun j u hj hu=>by
   obtain⟨g',c',e1,e2⟩:=aU i gZ j u hj hu;have:g=g':=by simp at e1;exact e1.1
   rw[this,Nat.zero_add];exact e2
  exact⟨⟨key 0 _ (by omega) rfl,r0⟩,⟨key 1 _ (by omega) rfl,r1⟩,⟨key 2 _ (by omega) rfl,r2⟩,⟨key 3 _ (by omega) rfl,r3⟩,⟨key 4 _ (by omega) rfl,r4⟩,⟨key 5 _ (by omega) rfl,r5⟩,⟨key 6 _ (by omega) rfl,r6⟩,⟨key 7 _ (by omega) rfl,r7⟩⟩
structure ExGood (x:Ex):Prop where
 c:bN x.c
 word:x.word.length<=6/\∀ r∈x.word,qz r
 views:x.views.length<=7/\(∀ row∈x.views,row.length<=5)/\∀ row∈x.views,∀ z∈row,bN z
theorem LU{w:World} {base:Nat} {v:Value} {l:List Ex} {xs:List Value} (h:aH w base 89 3 v l.length xs) (hx:∀ i (hi:i<l.length),AW w base xs i l[i]) (hg:∀ x∈l,ExGood x) (hn:l.length<=17592186044416):AV w v l:=by
 have aU:=fun j (u:Value) (hu:xs[j]?=some u)=>h.cell j u hu
 rcases h.2 with ⟨hz,h0⟩|⟨g,cap,cur,fz,rfl,_,ml,_,kZ,jk,_⟩
 ·refine⟨none,0,by rw[hz,h0],⟨by omega,by omega,fun _=>rfl⟩,hn,fun i x hi=>?_⟩;have:=(List.getElem?_eq_some_iff.1 hi).1;omega
 ·refine⟨some ⟨g,0,none⟩,cap,rfl,⟨kZ,by simp only[maxLen]at jk;omega,fun e=>by cases e⟩,hn,fun i x hi=>⟨g,0,rfl,?_⟩⟩;obtain⟨gZ,rfl⟩:=List.getElem?_eq_some_iff.1 hi;obtain⟨a,b,p1,p2,p3,p4,p5⟩:=hx i gZ;have l3:=hg _ (List.getElem_mem gZ)
  have key:∀ j u,xs[i * 3+j]?=some u->w.cell? ⟨g,0+i * 3+j,none⟩=some u:=fun j u hu=>by
   obtain⟨g',c',e1,e2⟩:=aU _ u hu;have:g=g':=by simp at e1;exact e1.1
   rw[this,Nat.zero_add];exact e2
  refine⟨⟨key 0 _ p1,l3.c⟩,⟨a,key 1 _ p2,sE p4 (fun i hi=>l3.word.2 _ (List.getElem_mem hi)) (by have:=l3.word.1;omega)⟩,⟨b,key 2 _ p3,oF p5 l3.views.2.2 (by have:=l3.views.1;omega) (fun x hx=>by have:=l3.views.2.1 x hx;omega)⟩⟩
theorem vN(n:Nat) (inp:List Int) (word:List Rd) (tb:List Vw):∀ k,∀ row∈(playTo n inp word tb k).2,row.length=n
 | 0=>fun row hr=>by
  have h:=(iI n inp word tb 0).2.1;have e:(playTo n inp word tb 0).2=[(v7 n inp tb).2]:=rfl;rw[e]at hr h;rw[List.mem_singleton]at hr;subst hr;exact h
 | k+1=>fun row hr=>by
  have h:=(iI n inp word tb (k+1)).2.1;have e:(playTo n inp word tb (k+1)).2=(playTo n inp word tb k).2++[(addAll (playTo n inp word tb k).1 (fW n k (word.getD k default) ((playTo n inp word tb k).2.getLastD []))).2]:=rfl;rw[e]at hr h;rw[List.getLastD_concat]at h;rcases List.mem_append.1 hr with hr|hr
  ·exact vN n inp word tb k row hr
  ·rw[List.mem_singleton]at hr;subst hr;exact h
theorem CE{p:Pb} (h:probE p=0) (hc:∀ c∈p.t.cases,∀ y∈c.inp,bN y) (hw:∀ x∈aL p,∀ r∈x,qz r) (ht:(execsS p (aL p) (fR p)).1.length<=8192):∀ i,i<=p.t.cases.length * (aL p).length->(∀ v∈(stP p i).1,ka v)/\∀ x∈(stP p i).2,ExGood x
 | 0,_=>⟨fun v hv=>by simp[stP,execsS]at hv,fun x hx=>by simp[stP,execsS]at hx⟩
 | i+1,hi=>by
  obtain⟨h1,h2⟩:=CE h hc hw ht i (by omega);obtain⟨nP,_,_,sS,rl⟩:=gO h;obtain⟨⟨_,gK⟩,_,_,⟨_,bR⟩,gC⟩:=fB nP;have jQ:(stP p i).1.length<=8192:=Nat.le_trans (yv p (aL p) (fR p) i) ht;have aB:i<p.t.cases.length * (aL p).length:=by omega
  have kX:0<(aL p).length:=by
   rcases Nat.eq_zero_or_pos (aL p).length with h|h
   ·rw[h]at aB;simp at aB
   ·exact h
  have hci:i / (aL p).length<p.t.cases.length:=by rw[Nat.div_lt_iff_lt_mul kX];exact aB
  have hj:i % (aL p).length<(aL p).length:=Nat.mod_lt _ kX;have eF:=xK p i aB;unfold kD at eF;dsimp only at eF;rw[aA default hci,aA [] hj]at eF
  have Ra:((aL p)[i % (aL p).length]).length<=6:=by
   have:=kA p.a p.rounds.toNat 0 _ (List.getElem_mem (l:=aL p) hj);omega
  have cW:=zL p.t.n.toNat (by omega) (p.t.cases[i / (aL p).length]).inp (hc _ (List.getElem_mem hci)) (aL p)[i % (aL p).length] (stP p i).1 h1 _ Ra (by omega);have hrows:=vN p.t.n.toNat (p.t.cases[i / (aL p).length]).inp (aL p)[i % (aL p).length] (stP p i).1 ((aL p)[i % (aL p).length]).length;have cC:=(iI p.t.n.toNat (p.t.cases[i / (aL p).length]).inp (aL p)[i % (aL p).length] (stP p i).1 ((aL p)[i % (aL p).length]).length).1;rw[eF];refine⟨cW.1,fun x hx=>?_⟩;rcases List.mem_append.1 hx with hx|hx
  ·exact h2 x hx
  ·rw[List.mem_singleton]at hx;subst hx;exact⟨ww _ (by omega),⟨Ra,hw _ (List.getElem_mem hj)⟩,by simp only[gD];omega,fun row hr=>by have:=hrows row hr;omega,fun row hr z hz=>by have:=cW.2 row hr z hz;exact⟨by omega,by omega⟩⟩
theorem yw(g:Nat) (e:TypeId) (fz:Nat × Nat):∀ (vs:List Value) (o:Nat) (w:World) (cur:Array Value),w.heap[g]?=some (.cells cur e fz)->o+vs.length<=cur.size →
  ∃ cur',(w.setCells g o vs).heap[g]?=some (.cells cur' e fz)/\cur'.toList=cur.toList.take o++vs++cur.toList.drop (o+vs.length)
 | [],o,w,cur,hg,_=>⟨cur,hg,by simp⟩
 | v :: r,o,w,cur,hg,hl=>by
  simp only[List.length_cons]at hl;obtain⟨cur',h1,h2⟩:=yw g e fz r (o+1) (w.setCell ⟨g,o,none⟩ v) (cur.setIfInBounds o v) (aF hg o v) (by simp;omega);refine⟨cur',h1,?_⟩;rw[h2,Array.toList_setIfInBounds,List.take_succ_eq_append_getElem (by simp;omega),List.take_set_of_le (by omega),List.getElem_set_self,List.drop_set_of_lt (by omega),show o+(v :: r).length=o+1+r.length by simp;omega];simp
theorem aH.setMany{w:World} {base sz:Nat} {e:TypeId} {g c n:Nat} {xs:List Value} (h:aH w base e sz (.slice (some ⟨g,0,none⟩) n c) n xs) (o:Nat) (vs:List Value) (ho:o+vs.length<=n * sz) :
  aH (w.setCells g o vs) base e sz (.slice (some ⟨g,0,none⟩) n c) n (xs.take o++vs++xs.drop (o+vs.length)):=by
 obtain⟨hl,h⟩:=h;refine⟨by simp;omega,?_⟩;rcases h with ⟨h,_⟩|⟨g',cap,cur,fz,e1,h2,h3,h4,h5,h6,h7,h8⟩
 ·cases h
 ·simp only[Value.slice.injEq,Option.some.injEq,Addr.mk.injEq]at e1;obtain⟨⟨rfl,_⟩,_,rfl⟩:=e1;have fk:n * sz<=c * sz:=Nat.mul_le_mul_right _ h5;obtain⟨cur',k1,k2⟩:=yw g e fz vs o w cur h3 (by omega)
  have bR:cur'.size=cur.size:=by
   have:=congrArg List.length k2;simp at this;omega
  refine .inr ⟨g,c,cur',fz,rfl,h2,k1,by rw[bR];exact h4,h5,h6,by rw[bR];exact h7,?_⟩;obtain⟨rest,hrest⟩:∃ rest,cur.toList=xs++rest:=⟨cur.toList.drop (n * sz),by rw[<-h8,List.take_append_drop]⟩;rw[k2,hrest,List.take_append_of_le_length (l₁:=xs) (by omega),List.drop_append_of_le_length (l₁:=xs) (by omega),<-List.append_assoc];exact List.take_left' (by simp;omega)
end Go.Proofs.YtmeaoneaephjeaaGreatDoor
namespace Go.Proofs.YtmeaoneaephjeaaGreatDoor
open Go.RowKit Go Go.Shelf
attribute [local go_sem] Oper.semAt_some
def ZM(base:Nat) (l:List Vw):MP:=⟨fun x W=>aH W base 190 8 x l.length (fc l),fun _ _ _ h hb=>h.up hb⟩
def ZV(base:Nat) (v:Vw):MP:=⟨fun x W=>∃ b,x=.slice (some ⟨b,0,none⟩) 1 1/\base<=b/\W.heap[b]?=some (.cells v.c 190),fun _ _ _ h hb=>by obtain⟨b,e,h1,h2⟩:=h;exact⟨b,e,h1,af hb h2⟩⟩
theorem BC(tmps:Array Value) (B:Nat) (W:World) (n i:Int) (u:Value) (h4:tmps[4]?.getD undef=.pointer (some ⟨B,0,none⟩)) (h5:tmps[5]?.getD undef=.int .i64 i)
  (hB:W.heap[B]?=some (.cells #[.int .i64 n,u] 32)):(results Tryz.f160 tmps).run Tryz.prog W=.ok (.tuple #[.agg #[.int .i64 n,u],.int .i64 i]) W:=by
 have t2:=ab hB;simp[results,Tryz.results160,go_sem,h4,h5,t2]
structure PtR (w:World) (base b2 b4 b7:Nat) (n:Int) (ot u1:Value) (len m:Nat) (xs:List Value) (D:Nat->Bool) (x:Nat->Value) (W:World):Prop where
 old:Below w.heap.size w W
 r7:W.heap[b7]?=some (.cells #[.int .i64 n,u1] 32)
 r2:W.heap[b2]?=some (.cells #[.int .i64 n,ot] 32)
 r4:W.heap[b4]?=some (.cells (if D 4 then #[.int .i64 n,u1] else #[.int .i64 0,.slice none 0 0]) 32)
 own:aH W base 190 8 u1 m xs
 v0:D 0=true->x 0=.agg #[.int .i64 n,u1]
 v1:D 1=true->x 1=.pointer (some ⟨b2,1,none⟩)
 v2:D 2=true->x 2=ot
 v3:D 3=true->x 3=.int .i64 len
 v5:D 5=true->x 5=.int .i64 len
theorem PtR.set{w:World} {base b2 b4 b7:Nat} {n:Int} {ot u1:Value} {len m:Nat} {xs:List Value} {D:Nat->Bool} {x:Nat->Value} {W:World} (h:PtR w base b2 b4 b7 n ot u1 len m xs D x W) (i:Nat) (hi:i≠4) (v:Value)
  (hv:(i=0->v=.agg #[.int .i64 n,u1])/\(i=1->v=.pointer (some ⟨b2,1,none⟩))/\(i=2->v=ot)/\(i=3\/i=5->v=.int .i64 len)):PtR w base b2 b4 b7 n ot u1 len m xs (bJ D i) (cI x i v) W:=by
 have key:∀ j,bJ D i j=true->(j=i/\cI x i v j=v)\/(j≠i/\D j=true/\cI x i v j=x j):=fun j hj=>by
  by_cases e:j=i
  ·subst e;exact .inl ⟨rfl,fJ _ _ _⟩
  ·exact .inr ⟨e,by simpa[bJ,e] using hj,gh _ _ e⟩
 refine⟨h.old,h.r7,h.r2,by rw[show bJ D i 4=D 4 by simp[bJ,show ¬ (4=i) by omega]];exact h.r4,h.own,fun hd=>?_,fun hd=>?_,fun hd=>?_,fun hd=>?_,fun hd=>?_⟩
 ·rcases key 0 hd with ⟨e,h1⟩|⟨_,h1,h2⟩
  ·rw[h1];exact hv.1 e.symm
  ·rw[h2];exact h.v0 h1
 ·rcases key 1 hd with ⟨e,h1⟩|⟨_,h1,h2⟩
  ·rw[h1];exact hv.2.1 e.symm
  ·rw[h2];exact h.v1 h1
 ·rcases key 2 hd with ⟨e,h1⟩|⟨_,h1,h2⟩
  ·rw[h1];exact hv.2.2.1 e.symm
  ·rw[h2];exact h.v2 h1
 ·rcases key 3 hd with ⟨e,h1⟩|⟨_,h1,h2⟩
  ·rw[h1];exact hv.2.2.2 (.inl e.symm)
  ·rw[h2];exact h.v3 h1
 ·rcases key 5 hd with ⟨e,h1⟩|⟨_,h1,h2⟩
  ·rw[h1];exact hv.2.2.2 (.inr e.symm)
  ·rw[h2];exact h.v5 h1
theorem PtR.store{w:World} {base b2 b4 b7:Nat} {n:Int} {ot u1:Value} {len m:Nat} {xs:List Value} {D:Nat->Bool} {x:Nat->Value} {W:World} (h:PtR w base b2 b4 b7 n ot u1 len m xs D x W) (hw:w.heap.size<=b4) (h2:b2≠b4) (h7:b7≠b4) (v:Value):PtR w base b2 b4 b7 n ot u1 len m xs (bJ D 4) (cI x 4 v) (W.setRow b4 #[.int .i64 n,u1]):=by
 have k:∀ j,j≠4->bJ D 4 j=D j:=fun j hj=>by simp[bJ,hj]
 have l:∀ j,j≠4->cI x 4 v j=x j:=fun j hj=>gh _ _ hj
 refine⟨below_setRow h.old hw _,by rw[setRow_other _ _ _ _ h7];exact h.r7,by rw[setRow_other _ _ _ _ h2];exact h.r2,?_,h.own.keep fun g o hg ho=>?_,?_,?_,?_,?_,?_⟩
 ·rw[show bJ D 4 4=true by simp[bJ]];exact setRow_heap _ _ _ _ _ _ h.r4
 ·rw[setRow_other _ _ _ _ (h.own.ne h.r4 (by decide) g hg)];exact ho
 all_goals rw[k _ (by omega),l _ (by omega)]
 ·exact h.v0
 ·exact h.v1
 ·exact h.v2
 ·exact h.v3
 ·exact h.v5
theorem S3(n:Int) (tab:List Vw) (vt:Value) (v:Vw) (base:Nat) (w:World) (ng:base<=w.heap.size) (ht:aH w base 190 8 vt tab.length (fc tab)) (cW:∀ u∈tab,ka u) (hl:tab.length<=1048576) :
  Calls Tryz.prog 160 #[.agg #[.int .i64 n,vt],v.v] w fun r w'=>(∃ u,r=.returned (.tuple #[.agg #[.int .i64 n,u],.int .i64 ((putV tab v).2:Nat)])/\aH w' base 190 8 u (putV tab v).1.length (fc (putV tab v).1))/\Below w.heap.size w w':=by
 obtain⟨pt,ct,rfl⟩:=ht.slice;obtain⟨i0,cM,bX,bP,bY⟩:=info_parts Tryz.infoView;have bO:=aa (And.intro cM (And.intro bX (And.intro bP bY)));have HT:=aa ht;have rm:=aa (fun W (hb:Below w.heap.size w W)=>Lr n tab _ v W (zN (ht.up hb) cW (by omega)));have Kt:=aa (NB tab v);generalize putV tab v=pv at Kt ⊢;generalize viewIx tab v=ix at rm Kt;have HMX0:am (0+tab.length<=maxLen):=aa (by unfold maxLen;omega);have HBY0:am ((0+tab.length) * 64<=140737488355328):=aa (by omega);have HMX1:am (tab.length+1<=maxLen):=aa (by unfold maxLen;omega);have HBY1:am ((tab.length+1) * 64<=140737488355328):=aa (by omega);clear ht cM bX bP bY cW
 go_enter Tryz.func160,Tryz.ntmps160
 go_wp2_with fail
 refine aN (fun W=>Below w.heap.size w W/\W.heap[w.heap.size]?=some (.cells #[.int .i64 n,.slice pt tab.length ct] 32)/\W.heap[w.heap.size+1]?=some (.cells v.c 190)/\W.heap[w.heap.size+1+1]?=some (.cells #[.int .i64 0,.slice none 0 0] 32)) ⟨by go_grown,ar _ (ar _ (aq _ _)),ar _ (bd _ _ _),eI _ _ _ _⟩ (fun W0 aZ=>?_);obtain⟨aI,h2,h3,h4⟩:=aZ;refine(rm.o W0 aI).mono ?_;rintro r w1 ⟨rfl,aJ⟩;have bK:=aa (ae aI aJ);have fG:=aa (af aJ h2);have gN:=aa (af aJ h3);have jJ:=aa (af aJ h4);have T1:=aa (HT.o.up (ae aI aJ));have gc:=aC jJ.o;have t2:=ab fG.o;have t4:=ab jJ.o;have z4:=aE jJ.o;clear aI h2 h3 h4 aJ rm;by_cases R7:0<=ix
 ·have HE:am (pv=(tab,ix.toNat)/\ix<tab.length):=aa (by rcases Kt.o with h|h;omega;exact h.2);have hd:decide (ix ≥ 0)=true:=decide_eq_true R7;have gM:decide (0<=ix)=true:=decide_eq_true R7
  go_wp2_with fail
  have bQ:((w1.setCell ⟨w.heap.size+1+1,0,none⟩ (.int .i64 n)).setCell ⟨w.heap.size+1+1,1,none⟩ (.slice pt tab.length ct)).heap[w.heap.size+1+1]?=some (.cells #[.int .i64 n,.slice pt tab.length ct] 32):=(aF (aF jJ.o _ _) _ _).trans rfl;have e1:=HE.o.1;subst e1;refine bodyPost_ret (BC _ (w.heap.size+1+1) _ n ix _ rfl rfl bQ) rfl ⟨⟨.slice pt tab.length ct,?_,?_⟩,(bK.o.setCell (by dsimp only;omega) _).setCell (by dsimp only;omega) _⟩
  ·dsimp only;rw[Int.toNat_of_nonneg R7]
  ·have bM:∀ g,(Value.slice pt tab.length ct).ownBlock=some g->g≠w.heap.size+1+1:=fun g hg=>by have:=(HT.o.lt g hg).2;omega
   exact(T1.o.put bM _ _).put bM _ _
 ·have HE:am (pv=(tab++[v],tab.length)):=aa (by rcases Kt.o with h|h;exact h.2;omega);have hd:decide (ix ≥ 0)=false:=decide_eq_false R7;have gM:decide (0<=ix)=false:=decide_eq_false R7
  go_wp2_with fail
  refine bu (fun W=>Below w1.heap.size w1 W/\W.heap[w1.heap.size]?=some (.cells #[.int .i64 n,.slice none 0 0] 32)) ⟨by go_grown,aq _ _⟩ (fun W1 cD=>?_);have fx:=aa cD.1;have MM:=aa cD.2;have yF:=aC cD.2;have fG:=aa (af cD.1 fG.o);have gN:=aa (af cD.1 gN.o);have jJ:=aa (af cD.1 jJ.o);have Mx:=aa (T1.o.up cD.1);have hsW:=cD.1.size;have eh:=aa (ae bK.o cD.1);clear cD T1 Kt t2 t4 z4;obtain⟨b2,a8⟩:∃ b2,w.heap.size=b2:=⟨_,rfl⟩;obtain⟨b3,bH⟩:∃ b3,w.heap.size+1=b3:=⟨_,rfl⟩;obtain⟨b7,lA⟩:∃ b7,w1.heap.size=b7:=⟨_,rfl⟩;rw[bH]at gN;rw[a8]at fG;rw[lA]at MM ⊢;rw[a8,show b2+1=b3 by omega];have hS:List.Nodup [18,19,20,21,22,23,24]:=by decide
  refine fL 7 [18,19,20,21,22,23,24] [MP.eq (.pointer (some ⟨b7,1,none⟩)),MP.eq (.slice none 0 0),MP.eq (.pointer (some ⟨b2,1,none⟩)),MP.eq (.slice pt tab.length ct),ZM W1.heap.size tab,MP.eq (v.v),ZV W1.heap.size v] (by kernel_rfl) (by simp) hS rfl (by kernel_rfl) (by kernel_rfl) (by kernel_rfl) ?step ?tail
  case step=>
   intro xq Wq iq oq sq F hi ho hs hB ap hF;rcases (show iq=0\/iq=1\/iq=2\/iq=3\/iq=4\/iq=5\/iq=6 by omega) with rfl|rfl|rfl|rfl|rfl|rfl|rfl
   all_goals (obtain rfl:=dp ho.symm;obtain rfl:=dp hs.symm;clear hi ho hs)
   ·obtain⟨g7,h7⟩:=cK hF 7 (.pointer (some ⟨b7,0,none⟩)) (by decide) rfl;clear hF ap
    go_wp2_with fail
    exact aY.mk _ (Below.refl _ _) rfl rfl
   ·obtain⟨e0,f0⟩:=aQ hF 0 18 _ hS rfl (by kernel_rfl) (ap ⟨0,.data⟩ (by simp) rfl);have tb:=ab (af hB MM.o) 1;simp at tb;clear hF ap
    go_wp2_with fail
    exact aY.mk _ (Below.refl _ _) rfl rfl
   ·obtain⟨g2,h2⟩:=cK hF 2 (.pointer (some ⟨b2,0,none⟩)) (by decide) rfl;clear hF ap
    go_wp2_with fail
    exact aY.mk _ (Below.refl _ _) rfl rfl
   ·obtain⟨e2,f2⟩:=aQ hF 2 20 _ hS rfl (by kernel_rfl) (ap ⟨2,.data⟩ (by simp) rfl);have tb:=ab (af hB fG.o) 1;simp at tb;clear hF ap
    go_wp2_with fail
    exact aY.mk _ (Below.refl _ _) rfl rfl
   ·obtain⟨e1,f1⟩:=aQ hF 1 19 _ hS rfl (by kernel_rfl) (ap ⟨1,.data⟩ (by simp) rfl);obtain⟨e3,f3⟩:=aQ hF 3 21 _ hS rfl (by kernel_rfl) (ap ⟨3,.data⟩ (by simp) rfl);have HRK:=aa ((Mx.o.up hB).rawK (Gk tab));have HBSz:=aa (hB.size);clear hF ap;refine lq _ rfl (.tmp 19) (.tmp 21) 30 rfl W1.heap.size 190 i0 _ 8 64 Tryz.underlying30 bO.o.1 bO.o.2.1 bO.o.2.2.1 bO.o.2.2.2 rfl (by decide) _ 0 [] (by first|exact e1|exact f1) (aH.nil _ _ _ _) _ tab.length (fc tab) (by first|exact e3|exact f3) HRK.o HMX0.o HBY0.o HBSz.o ?_;intro v9 w9 jK wM Kj;have nQ:=aa jK;have KM:=aa (Below.grown (Below.refl Wq.heap.size Wq) wM (Nat.le_refl _) (fun g hg=>by cases hg));clear jK wM Kj;exact aY.mk _ KM.o (by have h:=nQ.o;rw[Nat.zero_add,List.nil_append]at h;exact h) rfl
   ·obtain⟨g3,h3⟩:=cK hF 3 (.pointer (some ⟨b3,0,none⟩)) (by decide) rfl;have tb:=ab (af hB gN.o);clear hF ap
    go_wp2_with fail
    exact aY.mk _ (Below.refl _ _) rfl rfl
   ·obtain⟨e5,f5⟩:=aQ hF 5 23 _ hS rfl (by kernel_rfl) (ap ⟨5,.data⟩ (by simp) rfl);clear hF ap
    go_wp2_with fail
    exact aY.mk _ (by go_grown) ⟨_,rfl,hB.size,aq _ _⟩ rfl
  case tail=>
   clear hS;intro xq Wq F hB aU hF;have d4:aH Wq W1.heap.size 190 8 (xq 4) tab.length (fc tab):=aU 4 (by omega);obtain⟨bn,e6,hbn1,hbn2⟩:∃ b,xq 6=.slice (some ⟨b,0,none⟩) 1 1/\W1.heap.size<=b/\Wq.heap[b]?=some (.cells v.c 190):=aU 6 (by omega);clear aU;obtain⟨a4,c4,e4⟩:=d4.slice;rw[e4]at d4;simp only[bz,cT,List.setIfInBounds_toArray,List.set_cons_succ,List.set_cons_zero,Nat.reduceAdd]at hF;rw[e4,e6]at hF;generalize xq 0=s0,xq 1=s1,xq 2=s2,xq 3=s3,xq 5=s5 at hF;subst hF;have wD:=aa d4;have HBq:=aa hB
   have bA:am (∀ j u,v.c.toList[j]?=some u->Wq.cell? (Addr.add ⟨bn,0,none⟩ j)=some u):=aa (fun j u hj=>by
    have:(Addr.add ⟨bn,0,none⟩ j)=⟨bn,j,none⟩:=by unfold Addr.add;split<;>simp_all
    rw[this,ab hbn2]
    simpa using hj)
   have HBSq:am (W1.heap.size<=Wq.heap.size):=aa hB.size;have hX7:=af hB MM.o;have Ui:=aa hX7;have HX2q:=aa (af hB fG.o);have HX4q:=aa (af hB jJ.o);have hsq:=hB.size;clear d4 e4 e6 hB hbn2 hX7;simp only[List.drop_succ_cons,List.drop_zero]
   go_wp2_with (at_builtin;(refine aX _ rfl (.tmp 22) (.tmp 24) 30 rfl W1.heap.size 190 i0 _ 8 64 Tryz.underlying30 bO.o.1 bO.o.2.1 bO.o.2.2.1 bO.o.2.2.2 rfl (by decide) _ tab.length _ rfl wD.o ⟨bn,0,none⟩ 1 1 v.c.toList rfl rfl bA.o (by simp[Value.oneCell']) HMX1.o HBY1.o HBSq.o ?_;intro v9 w9 eV du Kj;obtain⟨av9,cv9,rfl⟩:=eV.slice;have BZ:=(du.block b7 (aC Ui.o) (fun e=>wD.o.ne Ui.o (by decide) b7 e.symm rfl)).trans Ui.o;have c7:=ab BZ;have f7:=aE BZ))
   obtain⟨W3,nY⟩:∃ W3,W3=w9.setCell ⟨b7,1,none⟩ (.slice av9 (tab.length+1) cv9):=⟨_,rfl⟩;rw[<-nY];have h37:W3.heap[b7]?=some (.cells #[.int .i64 n,.slice av9 (tab.length+1) cv9] 32):=by rw[nY];exact(aF BZ _ _).trans rfl
   have iA:∀ k,k≠b7->k<Wq.heap.size->∀ c,Wq.heap[k]?=some (.cells c 32)->W3.heap[k]?=some (.cells c 32):=fun k h1 h2 c h3=>by
    rw[nY];exact aK ((du.block k h2 (fun e=>wD.o.ne h3 (by decide) k e.symm rfl)).trans h3) h1 _ _
   have G':=iA b2 (by omega) (aC HX2q.o) _ HX2q.o;have h34:=iA (w.heap.size+1+1) (by omega) (aC HX4q.o) _ HX4q.o
   have h3o:aH W3 base 190 8 (.slice av9 (tab.length+1) cv9) (tab.length+1) (fc (tab++[v])):=by
    rw[nY,Gj];have h:=(eV.base (show base<=W1.heap.size by omega)).put (eV.ne BZ (by decide)) 1 (.slice av9 (tab.length+1) cv9);exact h
   have ZF:Below w.heap.size w W3:=by
    rw[nY];exact(Below.grown (ae eh.o HBq.o) du (by omega) (fun g hg=>by have:=(wD.o.lt g hg).1;omega)).setCell (p:=⟨b7,1,none⟩) (by dsimp only;omega) _
   clear nY eV du Kj BZ c7 f7 iA;subst bH;subst a8;have nZ:am (∀ x,PtR w base w.heap.size (w.heap.size+1+1) b7 n (.slice pt tab.length ct) (.slice av9 (tab.length+1) cv9) tab.length (tab.length+1) (fc (tab++[v])) (fun _=>false) x W3.drew):=aa (fun x=>⟨ZF.drew,h37,G',h34,h3o.keep fun g o _ ho=>ho,by simp,by simp,by simp,by simp,by simp⟩);clear h37 G' h34 h3o ZF;have hS:List.Nodup [27,28,29,30,999,5]:=by decide
   refine qg 6 [27,28,29,30,999,5] (PtR w base w.heap.size (w.heap.size+1+1) b7 n (.slice pt tab.length ct) (.slice av9 (tab.length+1) cv9) tab.length (tab.length+1) (fc (tab++[v]))) (by kernel_rfl) rfl hS (by kernel_rfl) nZ.o ?step6 ?free6 ?last6
   case free6=>
    intro x W D i o F ho h6 h8;simp at h6;omega
   case step6=>
    intro x W D i o s' F ho wG hD ap hc hF;have hi:i<6:=(List.getElem?_eq_some_iff.1 wG).1;have CC2:=ab hc.r2;have CC7:=ab hc.r7;simp only[bz,cT,List.setIfInBounds_toArray,List.set_cons_succ,List.set_cons_zero,List.set_nil,Nat.reduceAdd]at hF;rcases (show i=0\/i=1\/i=2\/i=3\/i=4\/i=5 by omega) with rfl|rfl|rfl|rfl|rfl|rfl
    all_goals (obtain rfl:=dp ho.symm;obtain rfl:=dp wG.symm;clear hi ho wG)
    ·subst hF;clear ap
     go_wp2_with fail
     exact dF.mk (.agg #[.int .i64 n,.slice av9 (tab.length+1) cv9]) (hc.set 0 (by omega) _ ⟨fun _=>rfl,by omega,by omega,by omega⟩) rfl
    ·subst hF;clear ap
     go_wp2_with fail
     exact dF.mk (.pointer (some ⟨w.heap.size,1,none⟩)) (hc.set 1 (by omega) _ ⟨by omega,fun _=>rfl,by omega,by omega⟩) rfl
    ·have e1:=hc.v1 (ap ⟨1,.data⟩ (by simp) rfl);rw[e1]at hF;subst hF;clear ap
     go_wp2_with fail
     exact dF.mk (.slice pt tab.length ct) (hc.set 2 (by omega) _ ⟨by omega,by omega,fun _=>rfl,by omega⟩) rfl
    ·have e1:=hc.v2 (ap ⟨2,.data⟩ (by simp) rfl);rw[e1]at hF;subst hF;clear ap
     go_wp2_with fail
     exact dF.mk (.int .i64 tab.length) (hc.set 3 (by omega) _ ⟨by omega,by omega,by omega,fun _=>rfl⟩) rfl
    ·have e0:=hc.v0 (ap ⟨0,.data⟩ (by simp) rfl);rw[e0]at hF;subst hF;have g3:=hc.r4;rw[hD]at g3;refine wpList_store_row rfl 32 (.tmp 4) (.tmp 27) rfl (w.heap.size+1+1) #[.int .i64 n,.slice av9 (tab.length+1) cv9] rfl rfl 32 _ g3 (by kernel_rfl) rfl (by simp[Value.oneCell']) ?_;exact dF.mk undef (hc.store (by omega) (by omega) (by omega) undef) rfl
    ·have e1:=hc.v3 (ap ⟨3,.data⟩ (by simp) rfl);rw[e1]at hF;subst hF;clear ap
     go_wp2_with fail
     exact dF.mk (.int .i64 tab.length) (hc.set 5 (by omega) _ ⟨by omega,by omega,by omega,fun _=>rfl⟩) rfl
   case last6=>
    intro x W3' D F aU hc hF;have e5:=hc.v5 (aU 5 (by omega));have h4:=hc.r4;rw[aU 4 (by omega)]at h4;have h4:W3'.heap[w.heap.size+1+1]?=some (.cells #[.int .i64 n,.slice av9 (tab.length+1) cv9] 32):=h4;simp only[bz,cT,List.setIfInBounds_toArray,List.set_cons_succ,List.set_cons_zero,List.set_nil,Nat.reduceAdd]at hF;rw[e5]at hF;generalize x 0=y0,x 1=y1,x 2=y2,x 3=y3 at hF;subst hF;have HH4:=aa h4;have ME:=aa hc.old;have lZ:=aa hc.own;clear aU hc h4 hS nZ
    go_wp2_with fail
    have e1:=HE.o;subst e1;refine bodyPost_ret (BC _ (w.heap.size+1+1) _ n tab.length _ rfl rfl HH4.o) rfl ⟨⟨_,rfl,?_⟩,ME.o⟩;rw[show (tab++[v]).length=tab.length+1 by simp];exact lZ.o
end Go.Proofs.YtmeaoneaephjeaaGreatDoor
