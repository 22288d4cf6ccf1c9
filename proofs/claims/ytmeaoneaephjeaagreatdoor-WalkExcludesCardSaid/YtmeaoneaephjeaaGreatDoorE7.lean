/-
  A part of the proof: lemmas and contracts that the parts behind it use. Each one's conditions are its own premises.
-/
import Derived.Lib.MinMax
import Derived.Laws.Tables
import Derived.Laws.CopyOwn
import Derived.Test.YtmeaoneaephjeaaGreatDoorE6
set_option maxRecDepth 100000
set_option maxHeartbeats 8000000
set_option linter.unusedVariables false
set_option linter.unusedSimpArgs false
namespace Go.Proofs.YtmeaoneaephjeaaGreatDoor
open Go.RowKit Go Go.Shelf
attribute [local go_sem] Oper.semAt_some
def i8(s:Sys) (p e:Nat):Int:=if hasB (fltS s e) p then -1 else finS s e p
theorem VD{s:Sys} (h:SysOk s) {p e:Nat} (hp:p<nS s) (he:e<eS s):-1<=i8 s p e/\i8 s p e<=8192:=by
 have h1:=iH h he hp;have h2:=h.tab;unfold i8;split<;>omega
theorem PF{s:Sys} (h:SysOk s) {p:Nat} (hp:p<nS s) {k:Nat} (hk:k<eS s):(i8 s p k<0->firstIx k (fun j=>linkB s p j k)=-1)/\(0<=i8 s p k->firstIx k (fun j=>linkB s p j k)=firstIx k fun j=>decide (i8 s p j=i8 s p k)):=by
 refine⟨fun h1=>dK _ _ fun j hj=>?_,fun h1=>mB _ _ _ fun j hj=>?_⟩
 ·rw[BO h (show j<eS s by omega) hk hp (i8 s p j) (i8 s p k) rfl rfl];by_cases e:0<=i8 s p j
  ·rw[decide_eq_false (show ¬ i8 s p j=i8 s p k by omega)];simp
  ·rw[decide_eq_false e];rfl
 ·rw[BO h (show j<eS s by omega) hk hp (i8 s p j) (i8 s p k) rfl rfl];by_cases e:i8 s p j=i8 s p k
  ·rw[decide_eq_true e,decide_eq_true (by omega)];rfl
  ·rw[decide_eq_false e];simp
theorem yP(s:Sys) (hs:SysOk s) (hE:eS s<=256) (B p:Nat) (hp:p<nS s) (w:World) (h:FinAt w B s) :
  Calls Tryz.prog 129 #[.pointer (some ⟨B,0,none⟩),.int .i64 p] w fun r w'=>∃ u,r=.returned u/\aQ w' u (classL s p)/\Below w.heap.size w w':=by
 obtain⟨pl,cl,h1,bU⟩:=h.open;have H1:=aa h1;have jd:=aa bU;clear h1 bU h;obtain⟨i0,cX,cD,bX,cF⟩:=info_parts Tryz.infoInt;obtain⟨f,hf⟩:∃ f,f=fun i=>(classL s p).getD i 0:=⟨_,rfl⟩
 obtain⟨q,hq⟩:∃ q:Nat->Nat->Bool,q=fun k i=>linkB s p k i:=⟨_,rfl⟩
 obtain⟨lc,hlc⟩:∃ lc:Nat->List Value,lc=fun k=>(List.range k).map fun i=>Value.int .i64 (f i):=⟨_,rfl⟩
 have rl:am (lc 0=[]/\(∀ k,lc (k+1)=lc k++[.int .i64 (f k)])/\lc (eS s)=wQ (classL s p)):=aa (by
  subst hlc;refine⟨rfl,fun k=>by simp[List.range_succ],?_⟩;subst hf;unfold wQ;refine List.ext_getElem (by simp[jA]) fun i h1 h2=>?_
  have h3:i<(classL s p).length:=by simpa using h2
  simp[h3])
 have rl:am (lc 0=[]/\∀ k,lc (k+1)=lc k++[.int .i64 (f k)])/\am (lc (eS s)=wQ (classL s p)):=⟨aa ⟨rl.o.1,rl.o.2.1⟩,aa rl.o.2.2⟩;obtain⟨rl,jv⟩:=rl;have B1:am (∀ k,k<eS s->firstIx k (fun j=>q j k)<0->f k=(br q k).2/\(br q (k+1)).2=(br q k).2+1):=aa (fun k hk h=>by subst hf hq;exact H' hk h);have zM:am (∀ k j,k<eS s->firstIx k (fun j=>q j k)=(j:Nat)->f k=f j/\(br q (k+1)).2=(br q k).2):=aa (fun k j hk h=>by subst hf hq;exact Ia hk h);have Fa:am (∀ k,k<eS s->(i8 s p k<0->firstIx k (fun j=>q j k)=-1)/\(0<=i8 s p k->firstIx k (fun j=>q j k)=firstIx k fun j=>decide (i8 s p j=i8 s p k))):=aa (fun k hk=>by subst hq;exact PF hs hp hk);have iv:am (∀ k,k<eS s->-1<=i8 s p k/\i8 s p k<=8192):=aa fun k hk=>VD hs hp hk
 have HC:=aa (jZ q)
 have jO:am (∀ w' u,aJ w' w.heap.size 3 1 u (eS s) (wQ (classL s p))->aQ w' u (classL s p)):=aa (fun w' u h=>by
  have hl:=jA s p;refine aJ.ints (base:=w.heap.size) (by rw[hl];exact h) (by omega) fun x hx=>?_
  obtain⟨i,hi,rfl⟩:=List.getElem_of_mem hx;have:=l8 (pQ (fun k i=>linkB s p k i) (eS s)) i hi;have e:(iD (fun k i=>linkB s p k i) (eS s)).getD i 0=(classL s p)[i]:=az 0 hi;rw[e]at this
  exact⟨by omega,by omega⟩)
 clear hf hq hlc;have vL:=@He Tryz.prog;have t1:=ab (ar (.map #[] 0) H1.o);obtain⟨n,hn⟩:∃ n,nS s=n:=⟨_,rfl⟩;obtain⟨m,hm⟩:∃ m,eS s=m:=⟨_,rfl⟩;rw[hn]at hp jd t1;rw[hm]at hE jd t1 jv B1 zM Fa iv jO;obtain⟨key,m3⟩:∃ key:Nat->Int,key=i8 s p:=⟨_,rfl⟩;rw[<-m3]at Fa iv
 have GE:am (∀ e,e<m->∃ b o,pl=some ⟨b,o,none⟩/\∃ b' o' cr,w.cell? ⟨b,o+e,none⟩=some (.slice (some ⟨b',o',none⟩) n cr)/\w.cell? ⟨b',o'+p,none⟩=some (.int .i64 (key e))):=aa (fun e he=>by
  obtain⟨b,o,e1,pr,cr,h1,h2⟩:=jd.o e he;obtain⟨b',o',e2,h3⟩:=Ev h2 hp;subst e2
  exact⟨b,o,e1,b',o',cr,h1,by rw[m3];exact h3⟩)
 clear jd H1 m3 hn hm hs
 go_enter Tryz.func129,Tryz.ntmps129
 go_wp2_with fail
 clear vL t1;refine bC (fun W=>Below w.heap.size w W/\dq W w.heap.size (fun _=>none) 0) ⟨by go_grown,dq.new w⟩ (fun W0 aX=>?_);have T3:w.heap.size<=w.heap.size:=Nat.le_refl _;have iR:=aa aX;clear aX;obtain⟨M,hM⟩:∃ M,M=w.heap.size:=⟨_,rfl⟩;have HMM:=aa hM;have T3:w.heap.size<=M:=by omega
 rw[<-hM]at iR ⊢;clear hM
 go_loopw [6,7,19] (fun ov nv i wr=>∃ k:Nat,k<=m/\i=.int .i64 k/\Below w.heap.size w wr/\aJ wr w.heap.size 3 1 ov k (lc k)/\nv=.int .i64 (br q k).2/\∃ g c,dq wr M g c/\∀ y,0<=y->g y=dI key f k y) (fun _ _ i _=>m - (intOf i).toNat)
 ·exact⟨0,by omega,rfl,by have h:=iR.o.1;rw[HMM.o]at h;exact h,by rw[rl.o.1];exact aJ.nil _ _ _ _,rfl,_,_,iR.o.2,fun y _=>rfl⟩
 ·
  clear iR;obtain⟨k,hk,rfl,aA,bd,rfl,g,c,hM,hg⟩:=hrel;have E0:=aA.size;have hML:=hM.lt;obtain⟨av,cv,rfl⟩:=bd.slice;have bO:=aa bd;have aV:=aa aA;have HG:=aa hg;have HM:=aa hM;clear bd hg;by_cases aC:k<m
  ·obtain⟨b,o,rfl,b',o',cr,c1,c2⟩:=GE.o k aC;have d1:=ak aA c1;have d2:=ak aA c2;have ui:=Fa.o k aC;have cZ:=iv.o k aC;have hc:=HC.o k;clear c1 c2 aA;obtain⟨x,dk⟩:∃ x,key k=x:=⟨_,rfl⟩;rw[dk]at d2 ui cZ;obtain⟨nx,mu⟩:∃ nx,(br q k).2=nx:=⟨_,rfl⟩;rw[mu]at hc ⊢;obtain⟨sA,kR,_⟩:=hc;have y9:=Ek (mt:=245) (kt:=3) (vt:=3) Tryz.underlying245 Tryz.underlying3 (fun w=>by kernel_rfl) hM x;by_cases hx:x<0
   ·have TZ:decide (x<0)=true:=decide_eq_true hx;obtain⟨e1,e2⟩:=B1.o k aC (by rw[ui.1 hx];omega);have oE:am (f k=nx):=aa (e1.trans mu);have gB:am ((br q (k+1)).2=nx+1):=aa (by rw[e2,mu])
    have iu:am (∀ y,0<=y->(if y=x then some nx else g y)=dI key f (k+1) y):=aa (fun y hy=>by
     rw[if_neg (by omega),HG.o y hy];unfold dI
     rw[show firstIx (k+1) (fun j=>decide (key j=y))=firstIx k (fun j=>decide (key j=y)) by
      rcases bE k (fun j=>decide (key j=y)) with ⟨e,h⟩|⟨j,hj,e,h,h'⟩
      ·rw[e,dK];intro j hj;by_cases ej:j=k
       ·subst ej;exact decide_eq_false (by omega)
       ·exact h j (by omega)
      ·rw[e];exact dB (k+1) j _ (by omega) h' h])
    clear e1 e2 ui mu dk;cases A4:g x with
    | none=>
     rw[A4]at y9;clear A4;obtain⟨o,ku,su⟩:=vm (mt:=245) (kt:=3) (vt:=3) Tryz.underlying245 Tryz.underlying3 HM.o x nx;have xL:=aa su;clear su hM;have lF:=HM.o.other;obtain⟨om,lF,uB⟩:=lF;have Gv:=aa (And.intro lF uB);clear lF uB;have dx:=aa ((bO.o.ck (fun b o' fS lj=>(World.putObj_heap_other (fun e=>by subst e;rw[Gv.o.1]at fS;cases fS;rw[Gv.o.2]at lj;cases lj)).trans fS):aJ (wr.putObj M o) w.heap.size 3 1 (.slice av k cv) k (lc k)).up (Below.refl _ _ |>.alloc (Nat.le_refl _) (.cells #[.int .i64 nx] 3)));have bF:=aa (by have h:=dQ (wr.putObj M o) [.int .i64 nx] 3;rw[show (wr.putObj M o).heap.size=wr.heap.size by simp]at h;exact h);have Da:=aa (eY (D:=M) (o:=o) T3 aV.o)
     go_wp2_with (at_builtin;(refine bg _ rfl (.tmp 45) (.tmp 47) 38 rfl w.heap.size 3 i0 _ 1 8 Tryz.underlying38 cX cD bX cF rfl (by decide) _ k _ rfl dx.o ⟨wr.heap.size,0,none⟩ 1 1 [.int .i64 nx] rfl rfl bF.o (by simp[Value.oneCell']) (by unfold maxLen;omega) (by omega) (by simp;omega) ?_;intro v' w2 fQ dA _))
     go_roundw
     ·
      refine⟨k+1,by omega,by go_num,eG Da.o (Nat.le_refl _) dx.o dA,?_,?_,?_⟩
      ·rw[rl.o.2 k,oE.o];exact fQ
      ·rw[gB.o]
      ·refine⟨_,_,xL.o.kept ?_,fun y hy=>?_⟩
       ·obtain⟨o3,h3,JW⟩:=xL.o.other;rw[nj dx.o dA h3 JW,h3]
       ·rw[iu.o y hy]
        try rw[HG.o y hy]
     ·simp[intOf];omega
    | some z=>
     rw[A4]at y9;clear A4;obtain⟨o,ku,su⟩:=vm (mt:=245) (kt:=3) (vt:=3) Tryz.underlying245 Tryz.underlying3 HM.o x nx;have xL:=aa su;clear su hM;have lF:=HM.o.other;obtain⟨om,lF,uB⟩:=lF;have Gv:=aa (And.intro lF uB);clear lF uB;have dx:=aa ((bO.o.ck (fun b o' fS lj=>(World.putObj_heap_other (fun e=>by subst e;rw[Gv.o.1]at fS;cases fS;rw[Gv.o.2]at lj;cases lj)).trans fS):aJ (wr.putObj M o) w.heap.size 3 1 (.slice av k cv) k (lc k)).up (Below.refl _ _ |>.alloc (Nat.le_refl _) (.cells #[.int .i64 nx] 3)));have bF:=aa (by have h:=dQ (wr.putObj M o) [.int .i64 nx] 3;rw[show (wr.putObj M o).heap.size=wr.heap.size by simp]at h;exact h);have Da:=aa (eY (D:=M) (o:=o) T3 aV.o)
     go_wp2_with (at_builtin;(refine bg _ rfl (.tmp 45) (.tmp 47) 38 rfl w.heap.size 3 i0 _ 1 8 Tryz.underlying38 cX cD bX cF rfl (by decide) _ k _ rfl dx.o ⟨wr.heap.size,0,none⟩ 1 1 [.int .i64 nx] rfl rfl bF.o (by simp[Value.oneCell']) (by unfold maxLen;omega) (by omega) (by simp;omega) ?_;intro v' w2 fQ dA _))
     go_roundw
     ·
      refine⟨k+1,by omega,by go_num,eG Da.o (Nat.le_refl _) dx.o dA,?_,?_,?_⟩
      ·rw[rl.o.2 k,oE.o];exact fQ
      ·rw[gB.o]
      ·refine⟨_,_,xL.o.kept ?_,fun y hy=>?_⟩
       ·obtain⟨o3,h3,JW⟩:=xL.o.other;rw[nj dx.o dA h3 JW,h3]
       ·rw[iu.o y hy]
        try rw[HG.o y hy]
     ·simp[intOf];omega
   ·have TZ:decide (x<0)=false:=decide_eq_false hx;have A4:=HG.o x (by omega);cases AX:dI key f k x with
    | none=>
     rw[A4,AX]at y9
     obtain⟨e1,e2⟩:=B1.o k aC (by
      rw[ui.2 (by omega)];rw[<-dk];unfold dI at AX;rw[dk];split at AX
      ·assumption
      ·cases AX)
     have oE:am (f k=nx):=aa (e1.trans mu);have gB:am ((br q (k+1)).2=nx+1):=aa (by rw[e2,mu])
     have iu:am (∀ y,0<=y->(if y=x then some nx else g y)=dI key f (k+1) y):=aa (fun y hy=>by
      have h:=yo (key:=key) (f:=f) (k:=k) (by rw[dk];exact AX) y;rw[dk,oE.o]at h
      rw[h,HG.o y hy])
     clear e1 e2 ui mu dk AX A4;obtain⟨o,ku,su⟩:=vm (mt:=245) (kt:=3) (vt:=3) Tryz.underlying245 Tryz.underlying3 HM.o x nx;have xL:=aa su;clear su hM;have lF:=HM.o.other;obtain⟨om,lF,uB⟩:=lF;have Gv:=aa (And.intro lF uB);clear lF uB;have dx:=aa ((bO.o.ck (fun b o' fS lj=>(World.putObj_heap_other (fun e=>by subst e;rw[Gv.o.1]at fS;cases fS;rw[Gv.o.2]at lj;cases lj)).trans fS):aJ (wr.putObj M o) w.heap.size 3 1 (.slice av k cv) k (lc k)).up (Below.refl _ _ |>.alloc (Nat.le_refl _) (.cells #[.int .i64 nx] 3)));have bF:=aa (by have h:=dQ (wr.putObj M o) [.int .i64 nx] 3;rw[show (wr.putObj M o).heap.size=wr.heap.size by simp]at h;exact h);have Da:=aa (eY (D:=M) (o:=o) T3 aV.o)
     go_wp2_with (at_builtin;(refine bg _ rfl (.tmp 45) (.tmp 47) 38 rfl w.heap.size 3 i0 _ 1 8 Tryz.underlying38 cX cD bX cF rfl (by decide) _ k _ rfl dx.o ⟨wr.heap.size,0,none⟩ 1 1 [.int .i64 nx] rfl rfl bF.o (by simp[Value.oneCell']) (by unfold maxLen;omega) (by omega) (by simp;omega) ?_;intro v' w2 fQ dA _))
     go_roundw
     ·
      refine⟨k+1,by omega,by go_num,eG Da.o (Nat.le_refl _) dx.o dA,?_,?_,?_⟩
      ·rw[rl.o.2 k,oE.o];exact fQ
      ·rw[gB.o]
      ·refine⟨_,_,xL.o.kept ?_,fun y hy=>?_⟩
       ·obtain⟨o3,h3,JW⟩:=xL.o.other;rw[nj dx.o dA h3 JW,h3]
       ·rw[iu.o y hy]
        try rw[HG.o y hy]
     ·simp[intOf];omega
    | some z=>
     rw[A4,AX]at y9;obtain⟨j,hj,e3,e4,e5⟩:=ru AX;obtain⟨e1,e2⟩:=zM.o k j aC (by rw[ui.2 (by omega)];exact e3);have oE:am (f k=z):=aa (by rw[e1,e5]);have gB:am ((br q (k+1)).2=nx):=aa (by rw[e2,mu]);have iu:am (∀ y,dI key f (k+1) y=dI key f k y):=aa (yq (z:=z) (by rw[dk];exact AX));clear e1 e2 e3 e4 e5 ui mu dk AX A4;clear hM;have dx:=aa (bO.o.up (Below.refl _ _ |>.alloc (Nat.le_refl _) (.cells #[.int .i64 z] 3)));have bF:=aa (dQ wr [.int .i64 z] 3)
     go_wp2_with (at_builtin;(refine bg _ rfl (.tmp 45) (.tmp 47) 38 rfl w.heap.size 3 i0 _ 1 8 Tryz.underlying38 cX cD bX cF rfl (by decide) _ k _ rfl dx.o ⟨wr.heap.size,0,none⟩ 1 1 [.int .i64 z] rfl rfl bF.o (by simp[Value.oneCell']) (by unfold maxLen;omega) (by omega) (by simp;omega) ?_;intro v' w2 fQ dA _))
     go_roundw
     ·
      refine⟨k+1,by omega,by go_num,eG aV.o (Nat.le_refl _) dx.o dA,?_,?_,?_⟩
      ·rw[rl.o.2 k,oE.o];exact fQ
      ·rw[gB.o]
      ·refine⟨_,_,HM.o.kept ?_,fun y hy=>?_⟩
       ·obtain⟨o3,h3,JW⟩:=HM.o.other;rw[nj dx.o dA h3 JW,h3]
       ·rw[HG.o y hy,iu.o y]
     ·simp[intOf];omega
  ·obtain rfl:k=m:=by omega
   rw[jv.out]at bO;clear hM
   go_wp2_with fail
   go_ret
   exact⟨_,rfl,jO.o _ _ bO.o,aV.o⟩
theorem IO{w:World} {base:Nat} {v:Value} {l:List (List Int)} (h:qr w base v l) (hr:∀ x∈l,∀ y∈x,bR y) (hn:l.length<=1048576) (oM:∀ x∈l,x.length<=1048576):dL w v l:=by
 obtain⟨xs,h1,h2⟩:=h;have h3:=aJ.of_owns h1;have hl:xs.length=l.length:=by have:=h3.1;omega
 exact nZ ⟨xs,h3,fun i hi=>⟨xs[i]'(by omega),by rw[List.getElem?_eq_getElem],aJ.of_owns (h2 i hi (by omega))⟩⟩ hr hn oM
theorem CJ{s:Sys} (h:SysOk s) {e:Nat} (he:e<eS s):gI s.prob.t (cH s e).c (fltS s e)=0:=by
 have h1:=h.cas e he;have h2:=h.flt e he;have h3:=(pS h.prob).1;unfold gI;rw[if_neg (by omega),if_neg (by omega),if_neg];have h4:s.prob.t.n.toNat=nS s:=by have:=h.n;omega
 rw[h4];omega
theorem KL{s:Sys} (h:SysOk s) {e:Nat} (he:e<eS s):iY s.prob.t (cH s e).c (fltS s e)=vecE s e:=by
 unfold iY;rw[if_neg (by rw[CJ h he];simp)];rfl
def vq(s:Sys) (e j x:Nat):Bool:=anyLt j fun i=>decide (((vecE s e).getD i []).getD 0 0=(x:Int))
theorem VE(s:Sys) (e j v:Nat) (hv:v<8) (h:((vecE s e).getD j []).getD 0 0=(v:Int)):maskN (vq s e j) 8 ||| 2 ^ v=maskN (vq s e (j+1)) 8:=by
 rw[<-OI hv,Ry];refine Av fun x _=>?_
 show (vq s e j x || decide (x=v))=(vq s e j x || decide (((vecE s e).getD j []).getD 0 0=(x:Int)))
 congr 1;rw[h,decide_eq_decide];omega
theorem VF(s:Sys) (e:Nat):maskN (vq s e 0) 8=0:=(nT _ _).2 ((dG _ _).2 fun _ _=>rfl)
theorem FG{s:Sys} (h:SysOk s) (ha:agreeB s.prob.t=true) {e:Nat} (he:e<eS s) {v:List Int} (hv:v∈vecE s e):constB v=true/\v=List.replicate (nS s) (v.getD 0 0)/\0<=v.getD 0 0/\v.getD 0 0<oS s/\v.length=nS s:=by
 obtain⟨_,h2⟩:=vf h he;obtain⟨h3,h4,i,j,hi,hj,h5⟩:=h2 v hv;have hc:=(nf _).1 ha i hi j hj;rw[<-h5]at hc;have hn:=h.n;have h6:=Fo hc;have h7:=h4 (v.getD 0 0) (by rw[show v.getD 0 0=v[0]'(by omega) by simp[show 0<v.length by omega]];exact List.getElem_mem _);exact⟨hc,by rw[<-h3];exact h6,h7.1,h7.2,h3⟩
theorem Ww{s:Sys} (h:SysOk s) (ha:agreeB s.prob.t=true) {e:Nat} (he:e<eS s):maskN (vq s e (vecE s e).length) 8=il s e:=by
 refine Av fun x _=>?_
 rw[Bool.eq_iff_iff,D9];unfold vq;rw[km];constructor
 ·rintro⟨k,hk,h1⟩;have h2:(vecE s e)[k]∈vecE s e:=List.getElem_mem hk;have h3:=(FG h ha he h2).2.1;rw[az [] hk]at h1;rw[of_decide_eq_true h1]at h3;rw[<-h3];exact h2
 ·intro h1;obtain⟨k,hk,e1⟩:=List.getElem_of_mem h1;refine⟨k,hk,?_⟩;rw[az [] hk,e1];have hn:=h.n.1;simp[show 0<nS s by omega]
theorem uL{m k:Nat} (hm:m<1024) (hk:k<=30):bits .or .i64 ((m:Nat):Int) (wrap64 ((2:Int) ^ k))=((m ||| 2 ^ k:Nat):Int):=by
 have h2:(2:Nat) ^ k<=2 ^ 30:=Nat.pow_le_pow_right (by omega) hk;rw[IN hk,wD _ _ (by omega) (by omega)]
theorem PG(y x:Int) (b:Nat) (a:Addr) (n c:Nat) (hn:0<n) (W:World) (h1:W.cell? ⟨b,0,none⟩=some (.slice (some a) n c)) (h2:W.cell? a=some (.int .i64 x)) :
  Calls Tryz.prog 127 #[.int .i64 y,.pointer (some ⟨b,0,none⟩)] W fun e W'=>e=.returned (.bool (y != x))/\Below W.heap.size W W':=by
 go_enter Tryz.func127,Tryz.ntmps127
 go_wp2_with fail
 go_ret
 exact⟨rfl,by go_grown⟩
theorem PH(l:List Int) (hc:constB l=true) (a:Option Addr) (c b:Nat) (W:World) (hv:aQ W (.slice a l.length c) l) (hB:W.heap[b]?=some (.cells #[.slice a l.length c] 38)) :
  Calls Tryz.prog 106 #[.slice a l.length c,.func (.func 127) #[] #[.pointer (some ⟨b,0,none⟩)]] W fun e W'=>e=.returned (.bool false)/\Below W.heap.size W W':=by
 refine(iE 127 #[.pointer (some ⟨b,0,none⟩)] (enters_of Tryz.func127 (by kernel_rfl) rfl) _ l (fun i=>decide (l.getD i 0≠l.getD 0 0)) W hv (fun i hi W2 aT=>?_)).mono fun e W' ⟨h1,h2⟩=>⟨?_,h2⟩
 ·obtain⟨pa,ca,e1,_,_,ea⟩:=hv.at;injection e1 with e1 _ _
  subst e1;obtain⟨b0,o0,e0,h0,_⟩:=ea 0 (by omega);rw[Nat.zero_mul,Nat.add_zero]at h0;have:=PG l[i] (l.getD 0 0) b ⟨b0,o0,none⟩ l.length c (by omega) W2 (by rw[ab (af aT hB),e0];rfl) (by rw[az 0 (show 0<l.length by omega)];exact ak aT h0);refine this.mono fun e W' ⟨h1,h2⟩=>⟨?_,h2⟩
  rw[h1,az 0 hi];have hx:(l[i] != l.getD 0 0)=decide (l[i]≠l.getD 0 0):=by rw[Bool.eq_iff_iff];simp
  rw[hx]
 ·rw[h1];unfold constB at hc;rw[Bool.not_eq_true']at hc;rw[hc]
theorem R6(s:Sys) (hs:SysOk s) (ha:agreeB s.prob.t=true) (e:Nat) (he:e<eS s) (vc:Value) (pw:Option Addr) (nw cw:Nat) (vv:Value) (w:World) (hv:bM w vc s.prob.t.cases) (li:nw<=6)
  (eV:0<nw->∃ b1 o1,pw=some ⟨b1,o1,none⟩/\w.cell? ⟨b1,o1+(nw - 1) * 7+6,none⟩=some (.int .i64 (fltS s e))) (fU:nw=0->fltS s e=0) :
  Calls Tryz.prog 77 #[.agg #[.int .i64 s.prob.t.n,.int .i64 s.prob.t.ins,.int .i64 s.prob.t.outs,vc],.agg #[.int .i64 (cH s e).c,.slice pw nw cw,vv]] w fun r w'=>r=.returned (.tuple #[.int .i64 (il s e:Nat),.int .i64 0])/\Below w.heap.size w w':=by
 have HA:=aa (fun W (hb:Below w.heap.size w W)=>KC s.prob.t vc (cH s e).c (fltS s e) W (hv.up up_case hb));rw[CJ hs he,KL hs he]at HA
 have wc:=aa (fun (W:World) (base:Nat) (u:Value) (h:qr W base u (vecE s e))=>IO h (fun x hx y hy=>by
  have h1:=(vf hs he).2 x hx;have h2:=h1.2.1 y hy;have h3:=hs.outs;exact⟨by omega,by omega⟩) (by
  have h1:=hs.cas e he;have h2:=(fy (pS hs.prob).1).2.2.2.2 (s.prob.t.cases.getD (cH s e).c.toNat default) (by rw[az default h1.2];exact List.getElem_mem _);have h3:=K8 h2 (fltS s e);have h4:vecE s e=fm (s.prob.t.cases.getD (cH s e).c.toNat default) (fltS s e):=rfl;rw[h4]
  omega) (fun x hx=>by have:=((vf hs he).2 x hx).1;have:=hs.n;omega))
 have HCON:=aa (fun (v:List Int) (hv:v∈vecE s e)=>FG hs ha he hv);have dr:=aa (fun j v=>VE s e j v);have m5:=aa (Ww hs ha he);have HZ:=aa (VF s e);have hos:=hs.outs.2.1;obtain⟨pc,cc,rfl,l1,m1,e1⟩:=hv.at;clear hv e1 ha;generalize vecE s e=vl at HA wc HCON dr m5;by_cases hw:nw=0
 case' pos=>
  have hz:=fU hw;subst hw;rw[hz]at HA
  go_enter Tryz.func77,Tryz.ntmps77
  go_wp2_with fail
 case' neg=>
  obtain⟨q,rfl⟩:∃ q,nw=q+1:=⟨nw - 1,by omega⟩;obtain⟨b1,o1,rfl,c5⟩:=eV (by omega);rw[Nat.add_sub_cancel]at c5;have d5:∀ o1' o2',((w.alloc o1').alloc o2').cell? ⟨b1,o1+q * 7+6,none⟩=some (.int .i64 (fltS s e)):=fun o1' o2'=>ak (by go_grown) c5
  clear c5 eV fU
  go_enter Tryz.func77,Tryz.ntmps77
  go_wp2_with fail
  clear d5
 all_goals
  refine aO (fun W=>Below w.heap.size w W) (by go_grown) (fun W0 aG=>?_);refine(HA.o W0 aG).mono ?_;rintro r w1 ⟨u,rfl,hu,aK⟩;have HU:=aa (wc.o _ _ _ hu);obtain⟨pu,cu,rfl,lu1,lu2,eu⟩:=HU.o.at;have EU:=aa eu;have bI:=aa (ae aG aK);clear hu aG aK eu
  go_wp2_with fail
  go_loopw [10,35] (fun o i wr=>∃ j:Nat,j<=vl.length/\i=.int .i64 j/\o=.int .i64 (maskN (vq s e j) 8:Nat)/\Below w1.heap.size w1 wr) (fun _ i _=>vl.length - (intOf i).toNat)
  ·exact⟨0,by omega,rfl,by rw[HZ.o];rfl,Below.refl _ _⟩
  ·
   obtain⟨j,hj,rfl,rfl,aA⟩:=hrel;have aV:=aa aA;by_cases aC:j<vl.length
   ·obtain⟨b3,o3,rfl,vx,cvx,F7⟩:=EU.o j aC;have dv:=ak aA cvx;have DA:=aa (F7.up up_int aA);obtain⟨pv,cv,rfl,lv1,lv2,ev⟩:=DA.o.at;obtain⟨g1,g2,g3,g4,g5⟩:=HCON.o vl[j] (List.getElem_mem aC);have LS:vl.getD j []=vl[j]:=az [] aC;have kx:=aa (dr.o j);rw[LS]at kx;rw[Nat.mul_one]at dv;generalize vl[j]=v at dv DA lv1 lv2 ev g1 g2 g3 g4 g5 kx;have fE:=hs.n.1;obtain⟨b4,o4,rfl,c4,-⟩:=ev 0 (by omega);have Bi:v[0]'(by omega)=v.getD 0 0:=(az 0 (by omega)).symm;rw[Bi,Nat.zero_mul,Nat.add_zero]at c4;obtain⟨v0,kl⟩:∃ v0:Nat,v.getD 0 0=v0:=⟨(v.getD 0 0).toNat,by omega⟩;rw[kl]at c4 g4 kx;have hv8:v0<8:=by omega
    have zH:=aa (kx.o v0 hv8 rfl);have oI:=aa g1;have cC:0<v.length:=by omega
    have YI:=aa c4;have hmlt:maskN (vq s e j) 8<256:=ik _ 8;have DI:=aa hmlt;clear cvx F7 aA ev g1 g2 g3 g4 g5 LS Bi kl c4 hmlt kx fE
    go_wp2_with fail
    clear dv;refine aO (fun W=>Below wr.heap.size wr W/\W.heap[wr.heap.size]?=some (.cells #[.slice (some ⟨b4,o4,none⟩) v.length cv] 38)) ⟨by go_grown,ap _ _⟩ (fun W3 mz=>?_);obtain⟨bG,Yq⟩:=mz;refine(PH v oI.o _ cv wr.heap.size W3 (DA.o.up up_int bG) Yq).mono ?_;rintro r w4 ⟨rfl,bS⟩;have tb:=ab (af bS Yq) 0;simp at tb;have t0:=ak (ae bG bS) YI.o;have eE:=aa (ae bG bS);clear bG bS Yq
    go_wp2_with fail
    go_roundw
    ·exact⟨j+1,by omega,by go_num,rE (by rw[<-zH.o];exact uL (by have:=DI.o;omega) (by omega)),ae aV.o eE.o⟩
    ·simp[intOf];omega
   ·have HR:am (maskN (vq s e j) 8=il s e):=aa (by rw[<-m5.o,show j=vl.length by omega])
    go_wp2_with fail
    go_ret2
    exact⟨by rw[HR.o];simp,ae bI.o aV.o⟩
theorem PI(x:Nat) (hx:x<256) (dk:x≠0) (w:World) (hT:iF w) :
  Calls Tryz.prog 178 #[.int .u64 x] w fun e w'=>e=.returned (.int .i64 (Lib.ctz 64 x))/\w=w':=by
 obtain⟨NL,hk⟩:=Lib.lowest_bit 64 x dk (by omega);obtain⟨hi,zP⟩:=Lib.deBruijn64_at _ hk;have eP:=hT _ hi;rw[zP]at eP;exact Vs x _ _ w (by simp;omega) (tz64_key x _ (by omega) dk NL) hi hk eP
theorem VG(x:Nat) (hx:x<256) (dk:x≠0) (w:World) (hT:iF w) :
  Calls Tryz.prog 133 #[.int .u64 x] w fun e w'=>e=.returned (.int .i64 (Lib.ctz 64 x))/\w=w':=by
 have HC:=aa (PI x hx dk w hT);clear hT
 go_enter Tryz.func133,Tryz.ntmps133
 go_wp2_with fail
 refine HC.o.mono ?_;rintro e w' ⟨rfl,rfl⟩
 go_wp2_with fail
 go_ret
 exact⟨rfl,rfl⟩
theorem ctz_first:∀ x,x<256->x≠0->((Lib.ctz 64 x:Nat):Int)=firstIx 8 fun i=>x.testBit i:=by decide +kernel
theorem CL(q:Nat->Bool) (w:World) (hT:iF w) :
  Calls Tryz.prog 83 #[.int .i64 (maskN q 8:Nat)] w fun e w'=>e=.returned (.int .i64 (firstIx 8 q))/\w=w':=by
 have aC:maskN q 8<256:=ik q 8;have HZ:am (maskN q 8=0->firstIx 8 q=-1):=aa fun h=>dK _ _ ((dG _ _).1 ((nT q 8).1 h))
 have HN:am (maskN q 8≠0->((Lib.ctz 64 (maskN q 8):Nat):Int)=firstIx 8 q):=aa fun h=>by
  rw[ctz_first _ aC h];refine mB _ _ _ fun j hj=>?_
  rw[dY,decide_eq_true hj,Bool.true_and]
 have HC:=aa (fun h=>VG (maskN q 8) aC h w hT);generalize maskN q 8=x at *;clear hT;by_cases h0:x=0
 ·have HR:=aa (HZ.o h0);have hd:((x:Int) == 0)=true:=by simp[h0]
  clear h0
  go_enter Tryz.func83,Tryz.ntmps83
  go_wp2_with fail
  go_ret
  exact⟨aE (by rw[HR.o]),rfl⟩
 ·have HR:=aa (HN.o h0);have uk:=aa (HC.o h0);have hd:((x:Int) == 0)=false:=by simp;omega
  have hw:IntKind.u64.wrap (x:Int)=x:=by simp[IntKind.wrap,IntKind.bits];omega
  clear h0
  go_enter Tryz.func83,Tryz.ntmps83
  go_wp2_with fail
  refine uk.o.mono ?_;rintro e w' ⟨rfl,rfl⟩
  go_wp2_with fail
  go_ret
  exact⟨aE (by rw[HR.o]),rfl⟩
def maxTo(l:List Int):Nat->Int
 | 0=>l.getD 0 0
 | k+1=>max (maxTo l k) (l.getD (k+1) 0)
theorem IP(l:List Int):∀ k i,i<=k->l.getD i 0<=maxTo l k
 | 0,i,h=>by
  obtain rfl:i=0:=by omega
  exact Int.le_refl _
 | k+1,i,h=>by
  rw[maxTo];by_cases e:i=k+1
  ·subst e;omega
  ·have:=IP l k i (by omega);omega
theorem BP(l:List Int):∀ k,∃ i,i<=k/\maxTo l k=l.getD i 0
 | 0=>⟨0,Nat.le_refl _,rfl⟩
 | k+1=>by
  obtain⟨i,hi,e⟩:=BP l k;rw[maxTo];by_cases h:maxTo l k<=l.getD (k+1) 0
  ·exact⟨k+1,Nat.le_refl _,by omega⟩
  ·exact⟨i,by omega,by omega⟩
theorem G8(v:Value) (l:List Int) (w:World) (hv:aQ w v l) (h0:0<l.length) :
  Calls Tryz.prog 82 #[v] w fun e w'=>e=.returned (.int .i64 (maxTo l (l.length - 1)))/\w=w':=by
 obtain⟨pa,ca,rfl,lt1,lt2,ea⟩:=hv.at;have EA:=aa ea;obtain⟨b0,o0,rfl,c0,-⟩:=ea 0 h0;rw[Nat.zero_mul,Nat.add_zero,<-az 0 h0]at c0;clear hv ea
 go_enter Tryz.func82,Tryz.ntmps82
 go_wp2_with fail
 clear c0
 go_loop [3,4] (fun m i=>∃ k:Nat,k<l.length/\i=.int .i64 ((k:Int)+1)/\m=.int .i64 (maxTo l k)) (fun _ i=>l.length+1 - (intOf i).toNat)
 ·exact⟨0,h0,rfl,rE (by rw[maxTo,az 0 h0])⟩
 ·
  obtain⟨k,hk,rfl,rfl⟩:=hrel;by_cases aC:k+1<l.length
  ·obtain⟨b1,o1,e1,c1,-⟩:=EA.o (k+1) aC;cases e1;rw[Nat.mul_one,<-az 0 aC]at c1;have c2:w.cell? ⟨b0,o0+(k+1),none⟩=some (.int .i64 (l.getD (k+1) 0)):=c1;have HM:am (maxTo l (k+1)=max (maxTo l k) (l.getD (k+1) 0)):=aa rfl;generalize l.getD (k+1) 0=x at c1 c2 HM;generalize maxTo l k=m at HM;have oD:(k:Int)+1<(l.length:Int):=by omega
   go_wp2_with fail
   go_round
   ·exact⟨k+1,aC,by go_num,rE (by rw[HM.o])⟩
   ·simp[intOf];omega
  ·have oD:¬ (k:Int)+1<(l.length:Int):=by omega
   have HK:am (l.length - 1=k):=aa (by omega)
   go_wp2_with fail
   go_ret
   exact⟨aE (by rw[HK.o]),rfl⟩
end Go.Proofs.YtmeaoneaephjeaaGreatDoor
namespace Go.Proofs.YtmeaoneaephjeaaGreatDoor
open Go.RowKit Go Go.Shelf
def j7(v:Vw):Prop:=bR v.p/\bR v.k/\bR v.i/\bR v.h0/\bR v.h1/\bR v.h2/\bR v.h3/\bR v.h4
theorem R7(B:Nat) (st:List Vw × List Int) (v:Vw) (hv:j7 v) (h1:∀ u∈st.1,j7 u) (h2:∀ z∈st.2,0<=z/\z<=B) (hl:st.1.length<=B):(∀ u∈(gl st v).1,j7 u)/\∀ z∈(gl st v).2,0<=z/\z<=(B:Int):=by
 unfold gl;refine⟨fun u hu=>?_,fun z hz=>?_⟩
 ·unfold putV at hu;dsimp only at hu;split at hu
  ·exact h1 u hu
  ·rcases List.mem_append.1 hu with h|h
   ·exact h1 u h
   ·rw[List.mem_singleton]at h;subst h;exact hv
 ·rcases List.mem_append.1 hz with h|h
  ·exact h2 z h
  ·rw[List.mem_singleton]at h;subst h;have:=Vu st.1 v;omega
theorem yQ(B:Nat) (vs:List Vw):∀ st:List Vw × List Int,(∀ v∈vs,j7 v)->(∀ u∈st.1,j7 u)->(∀ z∈st.2,0<=z/\z<=(B:Int))->st.1.length+vs.length<=B->(∀ u∈(vs.foldl gl st).1,j7 u)/\∀ z∈(vs.foldl gl st).2,0<=z/\z<=(B:Int):=by
 induction vs with
 | nil=>intro st _ h1 h2 _;exact⟨h1,h2⟩
 | cons v r ih=>
  intro st hv h1 h2 hl;simp only[List.length_cons]at hl;have h3:=R7 B st v (hv v (by simp)) h1 h2 (by omega);have h4:=(Fh st v).2;exact ih _ (fun u hu=>hv u (by simp[hu])) h3.1 h3.2 (by omega)
theorem PJ(st:List Vw × List Int) (v:Vw):st.1.length<=(gl st v).1.length:=by
 unfold gl putV;dsimp only;split<;>simp
theorem CM(vs:List Vw):∀ st:List Vw × List Int,st.1.length<=(vs.foldl gl st).1.length:=by
 induction vs with
 | nil=>intro st;exact Nat.le_refl _
 | cons v r ih=>intro st;exact Nat.le_trans (PJ st v) (ih _)
theorem CN(n:Nat) (inp:List Int) (word:List Rd) (tb:List Vw):∀ k,tb.length<=(playTo n inp word tb k).1.length
 | 0=>CM _ (tb,[])
 | k+1=>Nat.le_trans (CN n inp word tb k) (CM (fP n k (word.getD k default) ((playTo n inp word tb k).2.getLastD [])) ((playTo n inp word tb k).1,[]))
theorem vD(k:Nat) (h:k<=1000000):bR (k:Int):=⟨by omega,by omega⟩
theorem yR(n:Nat) (hn:n<=5) (inp:List Int) (hi:∀ x∈inp,bR x) (word:List Rd) (tb:List Vw) (ht:∀ v∈tb,j7 v):∀ k,k<=6->tb.length+40<=100000->(∀ v∈(playTo n inp word tb k).1,j7 v)/\∀ row∈(playTo n inp word tb k).2,∀ z∈row,0<=z/\z<=(100000:Int)
 | 0,_,hl=>by
  have h:=yQ 100000 (gq inp n) (tb,[]) (fun v hv=>by
   obtain⟨p,hp,rfl⟩:=List.mem_map.1 hv;have hp:=List.mem_range.1 hp
   have hx:bR (inp.getD p 0):=by
    by_cases h:p<inp.length
    ·rw[az 0 h];exact hi _ (List.getElem_mem h)
    ·rw[List.getD_eq_getElem?_getD,List.getElem?_eq_none (by omega)];exact⟨by simp,by simp⟩
   exact⟨vD p (by omega),⟨by simp[dX],by simp[dX]⟩,hx,⟨by simp[dX],by simp[dX]⟩,⟨by simp[dX],by simp[dX]⟩,⟨by simp[dX],by simp[dX]⟩,⟨by simp[dX],by simp[dX]⟩,⟨by simp[dX],by simp[dX]⟩⟩) ht (fun z hz=>by simp at hz) (by simp;omega)
  exact⟨h.1,fun row hr z hz=>by
   have:row=(addAll tb (gq inp n)).2:=by simpa[playTo,uZ] using hr
   subst this
   exact h.2 z hz⟩
 | k+1,hk,hl=>by
  obtain⟨h1,h2⟩:=yR n hn inp hi word tb ht k (by omega) hl;have cC:=iG n inp word tb k;have h9:n * (k+1)<=5 * 7:=Nat.mul_le_mul hn (by omega);have e:(playTo n inp word tb (k+1)).2=(playTo n inp word tb k).2++[(addAll (playTo n inp word tb k).1 (fP n k (word.getD k default) ((playTo n inp word tb k).2.getLastD []))).2]:=rfl
  have mZ:∀ q,0<=((playTo n inp word tb k).2.getLastD []).getD q 0/\((playTo n inp word tb k).2.getLastD []).getD q 0<=(100000:Int):=fun q=>by
   have hm:(playTo n inp word tb k).2.getLastD []∈(playTo n inp word tb k).2:=by
    rcases List.eq_nil_or_concat (playTo n inp word tb k).2 with h|⟨l',a,h⟩
    ·rw[h]at cC;simp at cC
    ·rw[h,List.concat_eq_append,List.getLastD_concat];simp
   by_cases h:q<((playTo n inp word tb k).2.getLastD []).length
   ·rw[az 0 h];exact h2 _ hm _ (List.getElem_mem h)
   ·rw[List.getD_eq_getElem?_getD,List.getElem?_eq_none (by omega)];simp
  have e1:(playTo n inp word tb (k+1)).1=(addAll (playTo n inp word tb k).1 (fP n k (word.getD k default) ((playTo n inp word tb k).2.getLastD []))).1:=rfl;rw[e,e1];generalize (playTo n inp word tb k).2.getLastD []=now at mZ ⊢
  have hv:∀ v∈fP n k (word.getD k default) now,j7 v:=fun v hv=>by
   obtain⟨p,hp,rfl⟩:=List.mem_map.1 hv;have hp:=List.mem_range.1 hp
   have hh:∀ q,bR (kL n (word.getD k default) now p q):=fun q=>by
    unfold kL;have:=mZ q;split
    ·exact⟨by omega,by omega⟩
    ·exact⟨by simp,by simp⟩
   exact⟨vD p (by omega),⟨by simp only[nextV];omega,by simp only[nextV];omega⟩,⟨by simp[nextV],by simp[nextV]⟩,hh 0,hh 1,hh 2,hh 3,hh 4⟩
  have h:=yQ 100000 (fP n k (word.getD k default) now) ((playTo n inp word tb k).1,[]) hv h1 (fun z hz=>by simp at hz) (by simp;omega);refine⟨h.1,fun row hr=>?_⟩
  ·rcases List.mem_append.1 hr with hr|hr
   ·exact h2 row hr
   ·rw[List.mem_singleton]at hr;subst hr;exact h.2
section
variable {P : Program} (w : World)
theorem IQ(base:Nat) (t ty e:TypeId) (i:TypeInfo) (z:Value) (size bytes:Nat) (ht:P.underlying t=some (.slice e)) (hi:P.info? e=some i) (hz:i.zero=some z)
  (fg:i.size=size) (gT:i.bytes=bytes) (rX:z.cells.size=size) (eT:0<size)
  (v:Value) (n:Nat) (xs:List Value) (bd:aJ w base e size v n xs)
  (u:Value) (m:Nat) (news:List Value) (hu:mU w size u m news)
  (pG:n+m<=maxLen) (gK:(n+m) * bytes<=140737488355328) (mI:base<=w.heap.size) :
  ∃ v' w',(Builtin.append_ #[t,t] ty #[v,u]).run P w=.ok v' w'/\aJ w' base e size v' (n+m) (xs++news)/\w.grownBy w' v.ownBlock/\(v'.ownBlock=v.ownBlock\/v'.ownBlock=some w.heap.size):=by
 obtain⟨a,cap,rfl,j9,cC,hc,h1⟩:=hu;cases a with
 | some ad=>
  refine rN w base t ty e i z size bytes ht hi hz fg gT rX eT v n xs bd ad m cap news cC (fun j u hj=>?_) h1 pG gK mI;obtain⟨b,o,e1,eP⟩:=hc j u hj;cases e1;have:(Addr.add ⟨b,o,none⟩ j)=⟨b,o+j,none⟩:=by unfold Addr.add;split<;>simp_all
  rw[this];exact eP
 | none=>
  obtain⟨rfl,rfl⟩:=j9 rfl;have hn:news=[]:=List.eq_nil_of_length_eq_zero (by simpa using cC);subst hn;refine⟨v,w,?_,by simpa using bd,⟨rfl,rfl,rfl,Nat.le_refl _,fun _ _ _=>rfl⟩,.inl rfl⟩;rcases bd.2 with ⟨rfl,rfl⟩|⟨g,cp,cur,fz,rfl,_,_,_,ig,_⟩
  ·simp[Builtin.append_,run_underlying ht,sizeOf,typeInfo,hi,Builtin.lenOf,Builtin.firstCells]
  ·simp[Builtin.append_,run_underlying ht,sizeOf,typeInfo,hi,Builtin.lenOf,Builtin.firstCells,ig,storeCells]
theorem ld{ops:Array Oper} {rest:List Oper} {o:Oper} {a:Act} {Q:Exit->Act->World->Prop} (lL:o.guard=none) (s x:Operand) (t:TypeId)
  (ho:o.op=.call { callee:=.builtin .append,args:=#[s,x],argTypes:=#[t,t] })
  (base:Nat) (e:TypeId) (i:TypeInfo) (z:Value) (size bytes:Nat) (ht:P.underlying t=some (.slice e)) (hi:P.info? e=some i) (hz:i.zero=some z)
  (fg:i.size=size) (gT:i.bytes=bytes) (rX:z.cells.size=size) (eT:0<size)
  (v:Value) (n:Nat) (xs:List Value) (hs:a.eval s=v) (bd:aJ w base e size v n xs)
  (u:Value) (m:Nat) (news:List Value) (hx:a.eval x=u) (hu:mU w size u m news)
  (pG:n+m<=maxLen) (gK:(n+m) * bytes<=140737488355328) (mI:base<=w.heap.size)
  (h:∀ v' w',aJ w' base e size v' (n+m) (xs++news)->w.grownBy w' v.ownBlock->(v'.ownBlock=v.ownBlock\/v'.ownBlock=some w.heap.size)->wpList P ops Q rest (a.put o.dst v') w'):wpList P ops Q (o :: rest) a w:=by
 refine wpList_plain lL fun _ hK=>?_
 obtain⟨v',w',hr,h2,h3,h4⟩:=IQ (P:=P) w base t o.type e i z size bytes ht hi hz fg gT rX eT v n xs bd u m news hu pG gK mI;unfold Oper.wp execOp;simp only[ho,resolve,invoke,builtin,Sem.run_bind,Sem.run_pure,Result.andThen_ok,List.map_toArray,List.map_cons,List.map_nil,hs,hx,hr];exact hK _ _ (h v' w' h2 h3 h4)
end
end Go.Proofs.YtmeaoneaephjeaaGreatDoor
namespace Go.Proofs.YtmeaoneaephjeaaGreatDoor
open Go.RowKit Go Go.Shelf
attribute [local go_sem] Oper.semAt_some
theorem Wx{p:Pb} (h:probE p=0):movesN p.a.states<=4096:=by
 have ha:=(gP h).2.1;unfold advE at ha;by_cases h1:p.a.n<1\/5<p.a.n
 ·rw[if_pos h1]at ha;omega
 ·rw[if_neg h1]at ha;by_cases h2:p.a.states.length<1\/256<p.a.states.length\/4096<movesN p.a.states
  ·rw[if_pos h2]at ha;omega
  ·omega
theorem KM{p:Pb} (h:probE p=0):((ed p).2≠0->(ed p).2=17/\4096<p.t.cases.length * (aN p).length)/\((ed p).2=0->(ed p).1=((p.t.cases.length * (aN p).length:Nat):Int)):=by
 obtain⟨ht,ha,_,sr,pg⟩:=gP h;have bW:=(fy ht).2.2.2.1;have hn:=rq (L:=1048576) (by omega) p.a (fun s hs m hm=>(vz ha s hs m hm).2) (by have:=(ip ha).1;omega) p.rounds.toNat;have hw:(aN p).length=(bZ p.a p.rounds.toNat 0).length:=rfl;rw[<-hw]at hn
 have q7:countedR 1048576 p.a p.rounds=if 1048576<numberL 1048576 p.a p.rounds.toNat then(0,17) else(numberL 1048576 p.a p.rounds.toNat,0):=by
  unfold countedR;rw[if_neg (by simpa using ha),if_neg (by omega)]
 unfold ed;rw[if_neg (by simpa using h),q7];by_cases h1:1048576<numberL 1048576 p.a p.rounds.toNat
 ·rw[if_pos h1];have h9:1 * 1048576<=p.t.cases.length * (aN p).length:=Nat.mul_le_mul bW.1 (by omega);refine⟨fun _=>⟨by simp,by omega⟩,fun e=>by simp at e⟩
 ·rw[if_neg h1];have he:numberL 1048576 p.a p.rounds.toNat=((aN p).length:Int):=by omega
  rw[he];dsimp only;rw[if_neg (by simp),Int.mul_comm,<-Int.natCast_mul];by_cases h2:(1048576:Int)<((p.t.cases.length * (aN p).length:Nat):Int)
  ·rw[if_pos h2];refine⟨fun _=>⟨by simp,by omega⟩,fun e=>by simp at e⟩
  ·rw[if_neg h2];exact⟨fun e=>by simp at e,fun _=>rfl⟩
theorem KN{p:Pb} (h:probE p=0) (h2:¬ 4096<p.t.cases.length * (aN p).length):qA p.a p.rounds=(aN p,0):=by
 obtain⟨ht,ha,_,sr,pg⟩:=gP h;have bW:=(fy ht).2.2.2.1;have hn:=rq (L:=4096) (by omega) p.a (fun s hs m hm=>(vz ha s hs m hm).2) (by have:=(ip ha).1;omega) p.rounds.toNat;have hw:(aN p).length=(bZ p.a p.rounds.toNat 0).length:=rfl;rw[<-hw]at hn;have h9:1 * (aN p).length<=p.t.cases.length * (aN p).length:=Nat.mul_le_mul_right _ bW.1
 have q7:(countedR 4096 p.a p.rounds).2=0:=by
  unfold countedR;rw[if_neg (by simpa using ha),if_neg (by omega),if_neg (by omega)]
 unfold qA;rw[if_neg (by simpa using q7)];rfl
theorem FH{a:Adv} (h:∀ s,s<a.states.length->stateE a (a.states.getD s [])=0) (h1:0<a.states.length) (k:Nat):∀ s,s<a.states.length->0<(bZ a k s).length:=by
 induction k with
 | zero=>intro s _;simp[bZ]
 | succ k ih=>
  intro s hs;have h2:=h s hs
  have bK:(a.states.getD s []).length≠0:=by
   intro e;unfold stateE at h2;rw[if_pos e]at h2;cases h2
  obtain⟨m,hm⟩:∃ m,m∈a.states.getD s []:=by
   cases hl:a.states.getD s [] with
   | nil=>rw[hl]at bK;simp at bK
   | cons m r=>exact⟨m,by simp⟩
  have oX:m.to.toNat<a.states.length:=YM h s hs m hm;have h3:=ih _ oX;obtain⟨y,hy⟩:=List.length_pos_iff_exists_mem.1 h3;refine List.length_pos_iff_exists_mem.2 ⟨m.r :: y,?_⟩;simp only[bZ,List.mem_flatMap,List.mem_map];exact⟨m,hm,y,hy,rfl⟩
theorem tg(p:Pb) (words:List (List Rd)) (l:List (Nat × Nat)):∀ st:List Vw × List Ex,(l.foldl (jx p words) st).2.length=st.2.length+l.length:=by
 induction l with
 | nil=>intro st;simp
 | cons x r ih=>
  intro st;rw[List.foldl_cons,ih];simp[jx];omega
theorem MS(p:Pb) (words:List (List Rd)) (l:List (Nat × Nat)) (i:Nat) (h:i<l.length):execsS p words (l.take (i+1))=jx p words (execsS p words (l.take i)) l[i]:=by
 unfold execsS;rw[List.take_succ_eq_append_getElem h,List.foldl_append];rfl
theorem MT(p:Pb) (words:List (List Rd)) (l:List (Nat × Nat)):∀ st:List Vw × List Ex,st.1.length<=(l.foldl (jx p words) st).1.length:=by
 induction l with
 | nil=>intro st;exact Nat.le_refl _
 | cons x r ih=>
  intro st;refine Nat.le_trans ?_ (ih _);exact CN _ _ _ _ _
theorem xD(p:Pb) (words:List (List Rd)) (l:List (Nat × Nat)) (i:Nat):(execsS p words (l.take i)).1.length<=(execsS p words l).1.length:=by
 have h:execsS p words l=(l.drop i).foldl (jx p words) (execsS p words (l.take i)):=by
  unfold execsS;rw[<-List.foldl_append,List.take_append_drop]
 rw[h];exact MT p words _ _
abbrev fp(p:Pb):List (Nat × Nat):=iX p.t.cases.length (aN p).length
abbrev stP(p:Pb) (i:Nat):List Vw × List Ex:=execsS p (aN p) ((fp p).take i)
theorem iI(p:Pb):(fp p).length=p.t.cases.length * (aN p).length:=by
 unfold fp;rw[uK];simp
theorem wU(p:Pb) (i:Nat) (h:i<p.t.cases.length * (aN p).length):stP p (i+1)=jx p (aN p) (stP p i) (i / (aN p).length,i % (aN p).length):=by
 unfold stP;rw[MS _ _ _ _ (by rw[iI];exact h)];congr 1;unfold fp;simp only[uK];simp
theorem MU{p:Pb} (h:probE p=0) (hm:¬ 4096<p.t.cases.length * (aN p).length) (i:Nat) (hi:8192<(stP p i).1.length):buildE p=17:=by
 have h2:=xD p (aN p) (fp p) i;have h3:(aF p).tab=(execsS p (aN p) (fp p)).1:=rfl;unfold buildE;rw[if_neg (by simpa using h),if_neg hm,if_pos (by rw[h3];exact Nat.lt_of_lt_of_le hi h2)]
theorem MV(w:World) (a b c d:Obj):((((w.alloc a).alloc b).alloc c).alloc d).heap[w.heap.size+1+1+1]?=some d:=by
 have:=ap (((w.alloc a).alloc b).alloc c) d;simpa only[World.size_alloc] using this
def Ab(W:World) (base:Nat) (xs:List Value) (i:Nat) (x:Ex):Prop:=
 ∃ a b,xs[i * 3]?=some (.int .i64 x.c)/\xs[i * 3+1]?=some a/\xs[i * 3+2]?=some b/\aJ W base 141 7 a x.word.length (da x.word)/\cQ W base b x.views
structure BInv (p:Pb) (uc us:Value) (wd:World) (Bs Bb b mb:Nat) (tab:List Vw) (ex:List Ex) (W:World):Prop where
 old:Below wd.heap.size wd W
 lo:wd.heap.size<=Bs
 bx:W.heap[Bb]?=some (.cells #[.pointer (some ⟨b,0,none⟩)] 231)
 s:∃ ve xs,W.heap[Bs]?=some (.cells (bL p uc us 0 (.slice none 0 0) ve) 35)/\aJ W wd.heap.size 89 3 ve ex.length xs/\∀ i (hi:i<ex.length),Ab W wd.heap.size xs i ex[i]
 bld:BldIs wd.heap.size b mb p.t.n.toNat tab W
theorem BInv.sta{p:Pb} {uc us:Value} {wd:World} {Bs Bb b mb:Nat} {tab:List Vw} {ex:List Ex} {B:Nat} (hB:wd.heap.size<=B) (hm:mb<B):cI B (fun W=>BInv p uc us wd Bs Bb b mb tab ex W):=fun A A' c h=>by
 obtain⟨ve,xs,h1,h2,h3⟩:=h.s;obtain⟨vs,q1,q2,q3,es,ck,q4,q5⟩:=h.bld.ex
 exact⟨c.below hB h.old.size h.old,h.lo,c.same _ _ h.bx (.inr rfl),⟨ve,xs,c.same _ _ h1 (.inr rfl),h2.ck c.ck,fun i hi=>by obtain⟨a,d,p1,p2,p3,p4,p5⟩:=h3 i hi;exact⟨a,d,p1,p2,p3,p4.ck c.ck,p5.ck c.ck⟩⟩,
  h.bld.lo,vs,c.same _ _ q1 (.inr rfl),q2,q3.ck c.ck,es,ck,c.same _ _ q4 (.inl hm),q5⟩
theorem VH{w W:World} {B:Nat} {c:Array Value} (hb:Below w.heap.size w W) (hl:w.heap.size<=B) (hR:W.heap[B]?=some (.cells c 35)) (hc:c.size=10) (hE:W.heap[B+1]?=some (.cells #[.int .i64 0] 39)) (l:List Value) (cC:l.length=10) (e:Int) :
  ((W.setCells B 0 l).setCell ⟨B+1,0,none⟩ (.int .i64 e)).heap[B]?=some (.cells l.toArray 35)/\((W.setCells B 0 l).setCell ⟨B+1,0,none⟩ (.int .i64 e)).heap[B+1]?=some (.cells #[.int .i64 e] 39)/\Below w.heap.size w ((W.setCells B 0 l).setCell ⟨B+1,0,none⟩ (.int .i64 e)) ∧
   ∀ k,k≠B->k≠B+1->((W.setCells B 0 l).setCell ⟨B+1,0,none⟩ (.int .i64 e)).heap[k]?=W.heap[k]?:=by
 obtain⟨cur',h1,h2,h3⟩:=mE B _ _ l 0 W c hR (by omega);obtain⟨o1,o2,o3,o4,o5⟩:=lP B l 0 W
 have EZ:cur'=l.toArray:=by
  rw[Nat.zero_add,List.take_zero,List.nil_append,List.take_of_length_le (by simp;omega)]at h3;rw[<-h3]
 subst EZ;have h4:=(o1 (B+1) (by omega)).trans hE;refine⟨aM h1 (by omega) _ _,by rw[aI h4];rfl,Below.setCell ⟨o2.trans hb.os,o3.trans hb.tape,o4.trans hb.output,by rw[o5];exact hb.size,fun k hk=>(o1 k (by omega)).trans (hb.block k hk)⟩ (by dsimp only;omega) _,fun k h5 h6=>(Below.heap_setCell _ _ _ _ (by dsimp only;exact h6)).trans (o1 k h5)⟩
theorem tj{w W:World} {B:Nat} {c:Array Value} (hb:Below w.heap.size w W) (hl:w.heap.size<=B) (hR:W.heap[B]?=some (.cells c 35)) (hc:c.size=10) (hE:W.heap[B+1]?=some (.cells #[.int .i64 0] 39)) (c0 c1 c2 c3 c4 c5 c6 c7 c8 c9:Value) (e:Int) :
  (((((((((((W.setCell ⟨B,0,none⟩ c0).setCell ⟨B,1,none⟩ c1).setCell ⟨B,2,none⟩ c2).setCell ⟨B,3,none⟩ c3).setCell ⟨B,4,none⟩ c4).setCell ⟨B,5,none⟩ c5).setCell ⟨B,6,none⟩ c6).setCell ⟨B,7,none⟩ c7).setCell ⟨B,8,none⟩ c8).setCell ⟨B,9,none⟩ c9).setCell ⟨B+1,0,none⟩ (.int .i64 e)).heap[B]?=some (.cells #[c0,c1,c2,c3,c4,c5,c6,c7,c8,c9] 35)/\(((((((((((W.setCell ⟨B,0,none⟩ c0).setCell ⟨B,1,none⟩ c1).setCell ⟨B,2,none⟩ c2).setCell ⟨B,3,none⟩ c3).setCell ⟨B,4,none⟩ c4).setCell ⟨B,5,none⟩ c5).setCell ⟨B,6,none⟩ c6).setCell ⟨B,7,none⟩ c7).setCell ⟨B,8,none⟩ c8).setCell ⟨B,9,none⟩ c9).setCell ⟨B+1,0,none⟩ (.int .i64 e)).heap[B+1]?=some (.cells #[.int .i64 e] 39)/\Below w.heap.size w (((((((((((W.setCell ⟨B,0,none⟩ c0).setCell ⟨B,1,none⟩ c1).setCell ⟨B,2,none⟩ c2).setCell ⟨B,3,none⟩ c3).setCell ⟨B,4,none⟩ c4).setCell ⟨B,5,none⟩ c5).setCell ⟨B,6,none⟩ c6).setCell ⟨B,7,none⟩ c7).setCell ⟨B,8,none⟩ c8).setCell ⟨B,9,none⟩ c9).setCell ⟨B+1,0,none⟩ (.int .i64 e)) ∧
   ∀ k,k≠B->k≠B+1->(((((((((((W.setCell ⟨B,0,none⟩ c0).setCell ⟨B,1,none⟩ c1).setCell ⟨B,2,none⟩ c2).setCell ⟨B,3,none⟩ c3).setCell ⟨B,4,none⟩ c4).setCell ⟨B,5,none⟩ c5).setCell ⟨B,6,none⟩ c6).setCell ⟨B,7,none⟩ c7).setCell ⟨B,8,none⟩ c8).setCell ⟨B,9,none⟩ c9).setCell ⟨B+1,0,none⟩ (.int .i64 e)).heap[k]?=W.heap[k]?:=VH hb hl hR hc hE [c0,c1,c2,c3,c4,c5,c6,c7,c8,c9] rfl e
theorem qh(tmps:Array Value) (B:Nat) (W:World) (c0 c1 c2 c3 c4 c5 c6 c7 c8 c9:Value) (e:Int) (h2:tmps[2]?.getD undef=.pointer (some ⟨B,0,none⟩)) (h3:tmps[3]?.getD undef=.pointer (some ⟨B+1,0,none⟩))
  (hB:W.heap[B]?=some (.cells #[c0,c1,c2,c3,c4,c5,c6,c7,c8,c9] 35)) (hE:W.heap[B+1]?=some (.cells #[.int .i64 e] 39)) :
  (results Tryz.f120 tmps).run Tryz.prog W=.ok (.tuple #[.agg #[c0,c1,c2,c3,c4,c5,c6,c7,c8,c9],.int .i64 e]) W:=by
 have t2:=ab hB;have t3:=ab hE 0;simp at t3;simp[results,Tryz.results120,go_sem,h2,h3,t2,t3]
structure BCore (base b mb n:Nat) (tab tab':List Vw) (c:Nat) (word:List Rd) (views:List (List Int)) (Wr:World) (D:Nat->Bool) (x:Nat->Value) (W:World):Prop where
 lo:base<=Wr.heap.size
 keep:KeepT bldT [mb] base Wr W
 bld:BldIs base b mb n (bif D 14 then tab' else tab) W
 x4:D 4=true->aJ W base 141 7 (x 4) word.length (da word)
 x14:D 14=true->cQ W base (x 14) views
 x15:D 15=true->D 4=true/\D 14=true/\x 15=.agg #[.int .i64 c,x 4,x 14]
 x16:D 16=true->D 4=true/\D 14=true/\∃ g,x 16=.slice (some ⟨g,0,none⟩) 1 1/\W.heap[g]?=some (.cells #[.int .i64 c,x 4,x 14] 89)
section
variable {base b mb n : Nat} {tab tab' : List Vw} {c : Nat} {word : List Rd} {views : List (List Int)} {Wr : World} {D : Nat → Bool} {x : Nat → Value} {W W' : World}
theorem BCore.other(h:BCore base b mb n tab tab' c word views Wr D x W) {i:Nat} (u:Value) (h4:4≠i) (JY:14≠i) (h15:15≠i) (h16:16≠i):BCore base b mb n tab tab' c word views Wr (bJ D i) (cG x i u) W:=by
 refine⟨h.lo,h.keep,?_,?_,?_,?_,?_⟩
 ·simpa only[bJ,if_neg JY] using h.bld
 ·simpa only[bJ,cG,if_neg h4] using h.x4
 ·simpa only[bJ,cG,if_neg JY] using h.x14
 ·simpa only[bJ,cG,if_neg h4,if_neg JY,if_neg h15] using h.x15
 ·simpa only[bJ,cG,if_neg h4,if_neg JY,if_neg h16] using h.x16
theorem BCore.clone(h:BCore base b mb n tab tab' c word views Wr D x W) (h4:D 4=false) (hb:Below W.heap.size W W') {u:Value} (ho:aJ W' base 141 7 u word.length (da word)):BCore base b mb n tab tab' c word views Wr (bJ D 4) (cG x 4 u) W':=by
 refine⟨h.lo,h.keep.trans (.of_below _ hb (Nat.le_trans h.lo h.keep.old.size)),?_,fun _=>by simpa[cG] using ho,fun e=>?_,fun e=>?_,fun e=>?_⟩
 ·simpa only[bJ,if_neg (show (14:Nat)≠4 by decide)] using h.bld.up hb
 ·simp only[bJ,cG,if_neg (show (14:Nat)≠4 by decide)]at e ⊢;exact(h.x14 e).up hb
 ·simp only[bJ,if_neg (show (15:Nat)≠4 by decide)]at e;have:=(h.x15 e).1;rw[h4]at this;cases this
 ·simp only[bJ,if_neg (show (16:Nat)≠4 by decide)]at e;have:=(h.x16 e).1;rw[h4]at this;cases this
theorem BCore.play(h:BCore base b mb n tab tab' c word views Wr D x W) (JY:D 14=false) (hk:KeepT bldT [mb] base W W') (hb:BldIs base b mb n tab' W') {u:Value} (ho:cQ W' base u views):BCore base b mb n tab tab' c word views Wr (bJ D 14) (cG x 14 u) W':=by
 refine⟨h.lo,h.keep.trans hk,by simpa[bJ] using hb,fun e=>?_,fun _=>by simpa[cG] using ho,fun e=>?_,fun e=>?_⟩
 ·simp only[bJ,cG,if_neg (show (4:Nat)≠14 by decide)]at e ⊢;exact hk.own (h.x4 e) (by decide)
 ·simp only[bJ,if_neg (show (15:Nat)≠14 by decide)]at e;have:=(h.x15 e).2.1;rw[JY]at this;cases this
 ·simp only[bJ,if_neg (show (16:Nat)≠14 by decide)]at e;have:=(h.x16 e).2.1;rw[JY]at this;cases this
theorem BCore.made(h:BCore base b mb n tab tab' c word views Wr D x W) (g4:D 4=true) (g14:D 14=true) {u:Value} (hu:u=.agg #[.int .i64 c,x 4,x 14]):BCore base b mb n tab tab' c word views Wr (bJ D 15) (cG x 15 u) W:=by
 refine⟨h.lo,h.keep,?_,?_,?_,fun _=>?_,?_⟩
 ·simpa only[bJ,if_neg (show (14:Nat)≠15 by decide)] using h.bld
 ·simpa only[bJ,cG,if_neg (show (4:Nat)≠15 by decide)] using h.x4
 ·simpa only[bJ,cG,if_neg (show (14:Nat)≠15 by decide)] using h.x14
 ·simp only[bJ,cG,if_neg (show (4:Nat)≠15 by decide),if_neg (show (14:Nat)≠15 by decide),if_true];exact⟨g4,g14,hu⟩
 ·simpa only[bJ,cG,if_neg (show (4:Nat)≠15 by decide),if_neg (show (14:Nat)≠15 by decide),if_neg (show (16:Nat)≠15 by decide)] using h.x16
theorem BCore.row(h:BCore base b mb n tab tab' c word views Wr D x W) (g4:D 4=true) (g14:D 14=true) {u4 u14:Value} (e4:x 4=u4) (e14:x 14=u14):BCore base b mb n tab tab' c word views Wr (bJ D 16) (cG x 16 (.slice (some ⟨W.heap.size,0,none⟩) 1 1)) (W.alloc (.cells #[.int .i64 c,u4,u14] 89)):=by
 subst e4 e14;have hb:Below W.heap.size W (W.alloc (.cells #[.int .i64 c,x 4,x 14] 89)):=by go_grown
 refine⟨h.lo,h.keep.trans (.of_below _ hb (Nat.le_trans h.lo h.keep.old.size)),?_,fun e=>?_,fun e=>?_,?_,fun _=>?_⟩
 ·simpa only[bJ,if_neg (show (14:Nat)≠16 by decide)] using h.bld.up hb
 ·simp only[bJ,cG,if_neg (show (4:Nat)≠16 by decide)]at e ⊢;exact(h.x4 e).up hb
 ·simp only[bJ,cG,if_neg (show (14:Nat)≠16 by decide)]at e ⊢;exact(h.x14 e).up hb
 ·simpa only[bJ,cG,if_neg (show (4:Nat)≠16 by decide),if_neg (show (14:Nat)≠16 by decide),if_neg (show (15:Nat)≠16 by decide)] using h.x15
 ·simp only[bJ,cG,if_neg (show (4:Nat)≠16 by decide),if_neg (show (14:Nat)≠16 by decide),if_true];exact⟨g4,g14,W.heap.size,rfl,ap _ _⟩
end
theorem Tryz.infoExec:(Tryz.prog.info? 89).map (fun i=>(i.zero,i.size,i.bytes))=some (some (.agg #[.int .i64 0,.slice none 0 0,.slice none 0 0]),3,56):=by kernel_rfl
theorem R8{F:Fence} {n:Nat} {P:Program} {c:Code} {Q:Exit->Act->World->Prop} {a:Act} {W:World} (I:World->Prop) (h:I W) (k:∀ W0,I W0->c.wpIn F n P Q a W0):c.wpIn F n P Q a W:=k W h
theorem BInv.up{p:Pb} {uc us:Value} {wd:World} {Bs Bb b mb:Nat} {tab:List Vw} {ex:List Ex} {W W':World} (h:BInv p uc us wd Bs Bb b mb tab ex W) (hb:Below W.heap.size W W'):BInv p uc us wd Bs Bb b mb tab ex W':=by
 obtain⟨ve,xs,h1,h2,h3⟩:=h.s;exact⟨ae h.old hb,h.lo,af hb h.bx,⟨ve,xs,af hb h1,h2.up hb,fun i hi=>by obtain⟨a,d,p1,p2,p3,p4,p5⟩:=h3 i hi;exact⟨a,d,p1,p2,p3,p4.up hb,p5.up hb⟩⟩,h.bld.up hb⟩
theorem Wy(a b:Vw) (w:World):(binOp .eql 190 a.v b.v).run Tryz.prog w=.ok (.bool (decide (a=b))) w:=by
 rw[run_eql_struct,Ep 9997];rfl
def viewIx(l:List Vw) (v:Vw):Int:=firstIx l.length fun i=>decide (l.getD i default=v)
theorem MW(l:List Vw) (v:Vw):(viewIx l v<0/\putV l v=(l++[v],l.length))\/(0<=viewIx l v/\putV l v=(l,(viewIx l v).toNat)/\viewIx l v<l.length):=by
 unfold viewIx;rcases bE l.length (fun i=>decide (l.getD i default=v)) with ⟨e,h⟩|⟨k,hk,e,he,h⟩
 ·refine .inl ⟨by omega,?_⟩;unfold putV;rw[if_neg];intro hv;obtain⟨i,hi,rfl⟩:=List.getElem_of_mem hv;have:=h i hi;simp[hi]at this
 ·refine .inr ⟨by omega,?_,by omega⟩;have he:l[k]=v:=by simpa[hk] using he
  unfold putV;rw[if_pos (he ▸ List.getElem_mem hk),e];congr 1;rw[Int.toNat_natCast];have kZ:v∈l:=he ▸ List.getElem_mem hk;have aC:=List.idxOf_lt_length_of_mem kZ;have DS:=List.getElem_idxOf aC;rcases Nat.lt_trichotomy (l.idxOf v) k with h1|h1|h1
  ·have:=h _ h1;simp[aC]at this
  ·exact h1
  ·exfalso;have:=List.not_of_lt_findIdx (xs:=l) (p:=(· == v)) (i:=k) h1;simp[he]at this
theorem Wz{w:World} {b o:Nat} {v:Vw} (h:ID w b o v) {wr:World} (hb:Below w.heap.size w wr):∀ y:ExtW wr,y.val.cell? ⟨b,o,none⟩=some (.int .i64 v.p)/\y.val.cell? ⟨b,o+1,none⟩=some (.int .i64 v.k)/\y.val.cell? ⟨b,o+2,none⟩=some (.int .i64 v.i)/\y.val.cell? ⟨b,o+3,none⟩=some (.int .i64 v.h0)/\y.val.cell? ⟨b,o+4,none⟩=some (.int .i64 v.h1)/\y.val.cell? ⟨b,o+5,none⟩=some (.int .i64 v.h2)/\y.val.cell? ⟨b,o+6,none⟩=some (.int .i64 v.h3)/\y.val.cell? ⟨b,o+7,none⟩=some (.int .i64 v.h4):=by
 obtain⟨⟨c0,_⟩,⟨c1,_⟩,⟨c2,_⟩,⟨c3,_⟩,⟨c4,_⟩,⟨c5,_⟩,⟨c6,_⟩,⟨c7,_⟩⟩:=h;exact fun y=>⟨y.cell (ak hb c0),y.cell (ak hb c1),y.cell (ak hb c2),y.cell (ak hb c3),y.cell (ak hb c4),y.cell (ak hb c5),y.cell (ak hb c6),y.cell (ak hb c7)⟩
theorem KO(n:Int) (l:List Vw) (vt:Value) (v:Vw) (w:World) (h:kW w vt l) :
  Calls Tryz.prog 189 #[.agg #[.int .i64 n,vt],v.v] w fun e w'=>e=.returned (.int .i64 (viewIx l v))/\Below w.heap.size w w':=by
 obtain⟨pt,ct,rfl,lt1,lt2,et⟩:=h.at;have ET:=aa et;have qG:am (∀ k,k<l.length->(∀ j,j<k->decide (l.getD j default=v)=false)->decide (l.getD k default=v)=true->viewIx l v=k):=aa (fun k hk h1 h2=>dB _ _ _ hk h1 h2);have fk:am ((∀ j,j<l.length->decide (l.getD j default=v)=false)->viewIx l v=-1):=aa (dK _ _);clear h et
 go_enter Tryz.func189,Tryz.ntmps189
 go_wp2_with fail
 refine bC (fun W=>Below w.heap.size w W/\W.heap[w.heap.size]?=some (.cells #[.int .i64 n,.slice pt l.length ct] 32)/\W.heap[w.heap.size+1]?=some (.cells v.c 190)) ⟨by go_grown,ar _ (ap _ _),aZ _ _ _⟩ (fun W0 aX=>?_);obtain⟨aG,bB,wl⟩:=aX;have j8:=aa bB;have zA:=aa wl;clear bB wl
 go_loopw [5] (fun i wr=>∃ k:Nat,k<=l.length/\i=.int .i64 k/\Below W0.heap.size W0 wr/\∀ j,j<k->decide (l.getD j default=v)=false) (fun i _=>l.length - (intOf i).toNat)
 ·exact⟨0,by omega,rfl,Below.refl _ _,by simp⟩
 ·
  obtain⟨k,hk,rfl,aA,aW⟩:=hrel;have H:=aa aW;clear aW;have tA:=ab (af aA j8.o);by_cases aC:k<l.length
  ·obtain⟨b1,o1,rfl,c1⟩:=ET.o k aC;have HX:=aa (az default aC);have Dr:=aa (qG.o k aC H.o);generalize l[k]=x at c1 HX;rw[HX.o]at Dr;have d1:=Wz c1 (ae aG aA);have a1:∀ z:ExtW wr,z.val.cell? ⟨w.heap.size,1,none⟩=some _:=fun z=>z.cell (ab (af aA j8.o) 1)
   have a2:∀ (z:ExtW wr) (o:Nat),z.val.cell? ⟨w.heap.size+1,o,none⟩=v.c[o]?:=fun z o=>ab (af (z.ext) (af aA zA.o)) o
   have ka:=fun w=>Wy x v w
   have aV:=aa aA;clear c1 aA
   go_wp2_with fail
   clear tA;cases hd:decide (x=v) with
   | true=>
    have HR:=aa (Dr.o hd);rw[hd]at ka;clear hd;refine aB (by kernel_rfl) (by kernel_rfl) ?_
    repeat (go_big_quiet_step (fail))
    refine wpQuiet_nil ?_;rintro _ ⟨xq,rfl⟩;clear d1 a1 a2 ka
    go_wp2_with fail
    go_ret
    exact⟨aE (by rw[HR.o]),ae aG (ae aV.o xq.ext)⟩
   | false=>
    have HD:=aa hd;rw[hd]at ka;clear hd;refine aB (by kernel_rfl) (by kernel_rfl) ?_
    repeat (go_big_quiet_step (fail))
    refine wpQuiet_nil ?_;rintro _ ⟨xq,rfl⟩;clear d1 a1 a2 ka
    go_wp2_with fail
    go_roundw
    ·exact⟨k+1,by omega,by go_num,ae aV.o xq.ext,aY H.o (by rw[HX.o];exact HD.o)⟩
    ·simp[intOf];omega
  ·have HR:=aa (fk.o fun j hj=>H.o j (by omega))
   go_wp2_with fail
   go_ret
   exact⟨aE (by rw[HR.o]),ae aG aA⟩
def vC(p k i:Int) (f:Nat->Int) (q:Nat):Array Value:=((List.range 8).map fun j=>Value.int .i64 (if j=0 then p else if j=1 then k else if j=2 then i else if j<3+q then f (j - 3) else 0)).toArray
theorem yT(p k i:Int) (f:Nat->Int) (q j:Nat) (hj:j<8):(vC p k i f q)[j]?=some (.int .i64 (if j=0 then p else if j=1 then k else if j=2 then i else if j<3+q then f (j - 3) else 0)):=by simp[vC,hj]
theorem PK(p k i:Int) (f:Nat->Int) (q:Nat) (hq:q<5):(vC p k i f q).setIfInBounds (3+q) (.int .i64 (f q))=vC p k i f (q+1):=by
 apply Array.ext_getElem?;intro j;rw[Array.getElem?_setIfInBounds];by_cases hj:j<8
 ·rw[yT _ _ _ _ _ _ hj,yT _ _ _ _ _ _ hj];by_cases e:3+q=j
  ·subst e;rw[if_pos rfl,if_pos (by simp[vC];omega),if_neg (by omega),if_neg (by omega),if_neg (by omega),if_pos (by omega),Nat.add_sub_cancel_left]
  ·rw[if_neg e];have:(j<3+(q+1))↔(j<3+q):=by omega
   simp only[this]
 ·rw[if_neg (by omega),Array.getElem?_eq_none (by simp[vC];omega),Array.getElem?_eq_none (by simp[vC];omega)]
theorem Li(p k i:Int) (f:Nat->Int):vC p k i f 0=#[.int .i64 p,.int .i64 k,.int .i64 i,.int .i64 0,.int .i64 0,.int .i64 0,.int .i64 0,.int .i64 0]:=rfl
theorem Lj(p k i:Int) (f:Nat->Int):vC p k i f 5=#[.int .i64 p,.int .i64 k,.int .i64 i,.int .i64 (f 0),.int .i64 (f 1),.int .i64 (f 2),.int .i64 (f 3),.int .i64 (f 4)]:=rfl
abbrev zeroV:Array Value:=#[.int .i64 0,.int .i64 0,.int .i64 0,.int .i64 0,.int .i64 0,.int .i64 0,.int .i64 0,.int .i64 0]
theorem CO(tmps:Array Value) (f:Func) (s:Nat) (hf:f.results=#[.cell s 190]) (B:Nat) (W:World) (v:Vw) (ty:TypeId) (h1:tmps[s]?.getD undef=.pointer (some ⟨B,0,none⟩)) (hb:W.heap[B]?=some (.cells v.c ty)) :
  (results f tmps).run Tryz.prog W=.ok v.v W:=by
 have t1:=ab hb;simp[results,hf,go_sem,h1,t1]
theorem KP(p:Nat) (inp:Int) (w:World):Calls Tryz.prog 158 #[.int .i64 p,.int .i64 inp] w fun e w'=>e=.returned (⟨p,0,inp,-1,-1,-1,-1,-1⟩:Vw).v/\Below w.heap.size w w':=by
 go_enter Tryz.func158,Tryz.ntmps158
 go_wp2_with fail
 refine bC (fun W=>Below w.heap.size w W/\W.heap[w.heap.size]?=some (.cells zeroV 190)/\W.heap[w.heap.size+1]?=some (.cells (vC p 0 inp (fun _=>-1) 0) 190)) ⟨by go_grown,ar _ (ap _ _),by rw[Li];exact aZ _ _ _⟩ (fun W0 aX=>?_);obtain⟨aG,eB,gM⟩:=aX
 go_loopw [6] (fun i wr=>∃ q:Nat,q<=5/\i=.int .i64 q/\Below w.heap.size w wr/\wr.heap[w.heap.size]?=some (.cells zeroV 190)/\wr.heap[w.heap.size+1]?=some (.cells (vC p 0 inp (fun _=>-1) q) 190)) (fun i _=>5 - (intOf i).toNat)
 ·exact⟨0,by omega,rfl,aG,eB,gM⟩
 ·
  clear aG eB gM;obtain⟨q,hq,rfl,aA,hR,hO⟩:=hrel;by_cases aC:q<5
  ·have zq:=aH hO (3+q);have tq:=ab hO (3+q);rw[yT _ _ _ _ _ _ (by omega)]at tq;have HR:=aa hR;have HO:=aa hO;clear hR hO;have oD:(q:Int)<5:=by omega
   go_wp2_with fail
   go_roundw
   ·exact⟨q+1,by omega,by go_num,aA.setCell (by dsimp only;omega) _,aM HR.o (by omega) _ _,by rw[aI HO.o,<-PK _ _ _ (fun _=>-1) q aC]⟩
   ·simp[intOf];omega
  ·obtain rfl:q=5:=by omega
   have tq:=ab hO;have HR:=aa hR;have HO:=aa hO;have zq:=fun o=>aH hR o
   have tq0:=ab hR;rw[Lj]at tq;simp at tq0;clear hR hO
   go_wp2_with (refine wpList_store_row rfl 190 (.tmp 4) (.tmp 17) rfl w.heap.size (⟨p,0,inp,-1,-1,-1,-1,-1⟩:Vw).c rfl rfl 190 _ HR.o (by kernel_rfl) rfl (by simp[Value.oneCell']) ?_)
   exact bodyPost_ret (CO _ _ 4 rfl w.heap.size _ ⟨p,0,inp,-1,-1,-1,-1,-1⟩ 190 rfl (setRow_heap _ _ _ _ _ _ HR.o)) rfl ⟨rfl,below_setRow aA (Nat.le_refl _) _⟩
theorem Ew{a:Array Value} {i:Nat} {x:Value} (h:a[i]?=some x):a.setIfInBounds i x=a:=by
 apply Array.ext_getElem?;intro j;rw[Array.getElem?_setIfInBounds];split
 ·rename_i e;subst e;split
  ·exact h.symm
  ·rw[Array.getElem?_eq_none (by omega)]
 ·rfl
def seenH(n:Nat) (g:Gr) (now:List Int) (p q:Nat):Int:=if q<n/\hasB (g.hear p) q=true then now.getD q 0 else -1
def seenV(n K:Nat) (g:Gr) (now:List Int) (p:Nat):Vw:=⟨p,K,0,seenH n g now p 0,seenH n g now p 1,seenH n g now p 2,seenH n g now p 3,seenH n g now p 4⟩
theorem MX(g:Gr) (K p n:Nat) (hn:g.n=n) (jf:n<=5) (hp:p<5) (hh:0<=g.hear p/\g.hear p<32) (vb:Value) (now:List Int) (mZ:n<=now.length) (w:World) (hb:aQ w vb now) :
  Calls Tryz.prog 159 #[g.v,.int .i64 K,.int .i64 p,vb] w fun e w'=>e=.returned (seenV n K g now p).v/\Below w.heap.size w w':=by
 obtain⟨pb,cb,rfl,lb1,lb2,eb⟩:=hb.at;have EB:=aa eb;have HF:am (∀ q,seenH n g now p q=if (q:Int)<g.n/\hasB (g.hear p) q=true then now.getD q 0 else -1):=aa (fun q=>by unfold seenH;rw[hn];simp);have HV:am (seenV n K g now p=⟨p,K,0,seenH n g now p 0,seenH n g now p 1,seenH n g now p 2,seenH n g now p 3,seenH n g now p 4⟩):=aa rfl;have HN:=aa hn;generalize seenV n K g now p=V at HV;generalize seenH n g now p=f at HF HV;clear hb eb hn
 go_enter Tryz.func159,Tryz.ntmps159
 go_wp2_with fail
 refine bC (fun W=>Below w.heap.size w W/\W.heap[w.heap.size]?=some (.cells #[.int .i64 g.n,.int .i64 g.h0,.int .i64 g.h1,.int .i64 g.h2,.int .i64 g.h3,.int .i64 g.h4] 139)/\W.heap[w.heap.size+1]?=some (.cells zeroV 190)/\W.heap[w.heap.size+1+1]?=some (.cells (vC p K 0 f 0) 190)) ⟨by go_grown,ar _ (ar _ (ap _ _)),ar _ (aZ _ _ _),by rw[Li];exact dZ _ _ _ _⟩ (fun W0 aX=>?_);obtain⟨aG,hG0,eB,gM⟩:=aX
 go_loopw [10] (fun i wr=>∃ q:Nat,q<=5/\i=.int .i64 q/\Below w.heap.size w wr/\wr.heap[w.heap.size]?=some (.cells #[.int .i64 g.n,.int .i64 g.h0,.int .i64 g.h1,.int .i64 g.h2,.int .i64 g.h3,.int .i64 g.h4] 139)/\wr.heap[w.heap.size+1]?=some (.cells zeroV 190)/\wr.heap[w.heap.size+1+1]?=some (.cells (vC p K 0 f q) 190)) (fun i _=>5 - (intOf i).toNat)
 ·exact⟨0,by omega,rfl,aG,hG0,eB,gM⟩
 ·
  clear aG hG0 eB gM;obtain⟨q,hq,rfl,aA,hG,hR,hO⟩:=hrel;by_cases aC:q<5
  ·have zq:=aH hO (3+q);have tq:=ab hO (3+q);rw[yT _ _ _ _ _ _ (by omega)]at tq;have HG:=aa hG;have HR:=aa hR;have HO:=aa hO;have aV:=aa aA;clear hG hR hO aA;have oD:(q:Int)<5:=by omega
   have tG:=ab HG.o 0;simp at tG;have tH:=ni g p hp wr _ HG.o;have Q8:(p:Int)<5:=by omega
   have Gz:=aa (HF.o q);have hbz:=aV.o.size
   have jv:am (∀ x:Int,f q=x->∀ W:World,Below w.heap.size w W->W.heap[w.heap.size]?=some (.cells #[.int .i64 g.n,.int .i64 g.h0,.int .i64 g.h1,.int .i64 g.h2,.int .i64 g.h3,.int .i64 g.h4] 139)->W.heap[w.heap.size+1]?=some (.cells zeroV 190)->(∃ y:Value,W.heap[w.heap.size+1+1]?=some (.cells ((vC p K 0 f q).setIfInBounds (3+q) y) 190))->∃ q':Nat,q'<=5/\Value.int .i64 ((q:Int)+1)=.int .i64 q'/\Below w.heap.size w (W.setCell ⟨w.heap.size+1+1,3+q,none⟩ (.int .i64 x))/\(W.setCell ⟨w.heap.size+1+1,3+q,none⟩ (.int .i64 x)).heap[w.heap.size]?=some (.cells #[.int .i64 g.n,.int .i64 g.h0,.int .i64 g.h1,.int .i64 g.h2,.int .i64 g.h3,.int .i64 g.h4] 139)/\(W.setCell ⟨w.heap.size+1+1,3+q,none⟩ (.int .i64 x)).heap[w.heap.size+1]?=some (.cells zeroV 190)/\(W.setCell ⟨w.heap.size+1+1,3+q,none⟩ (.int .i64 x)).heap[w.heap.size+1+1]?=some (.cells (vC p K 0 f q') 190)):=aa (by
    rintro x rfl W q1 q2 q3 ⟨y,q4⟩;refine⟨q+1,by omega,by go_num,q1.setCell (by dsimp only;omega) _,aM q2 (by omega) _ _,aM q3 (by omega) _ _,?_⟩
    rw[aI q4,Array.setIfInBounds_setIfInBounds,PK _ _ _ _ _ aC])
   have HY:am (∃ y:Value,wr.heap[w.heap.size+1+1]?=some (.cells ((vC p K 0 f q).setIfInBounds (3+q) y) 190)):=aa ⟨_,HO.o.trans (congrArg (fun c=>some (Obj.cells c 190)) (Ew (yT p K 0 f q (3+q) (by omega))).symm)⟩;by_cases AZ:(q:Int)<g.n
   ·cases hb:hasB (g.hear p) q with
    | true=>
     obtain⟨b2,o2,rfl,⟨c2,_⟩⟩:=EB.o q (by have:=HN.o;omega);rw[Nat.mul_one]at c2;have d2:=ak aV.o c2;have aT:=fx c2;dsimp only at aT;have bG:¬ b2=w.heap.size+1+1:=by omega
     have hqnow:q<now.length:=by have:=HN.o;omega
     have vT:am (f q=now[q]):=aa (by rw[Gz.o,if_pos ⟨AZ,hb⟩,az 0 hqnow]);generalize now[q]=x at d2 vT;clear c2
     go_wp2_with fail
     refine(mR (g.hear p) q (by omega) hh.1 (by omega) _).mono ?_;rintro e _ ⟨rfl,rfl⟩;rw[hb]
     go_wp2_with fail
     go_roundw
     ·exact jv.o x vT.o _ (aV.o.setCell (by dsimp only;omega) _) (aM HG.o (by omega) _ _) (aM HR.o (by omega) _ _) ⟨_,aI HO.o _ _⟩
     ·simp[intOf];omega
    | false=>
     have vT:am (f q=-1):=aa (by rw[Gz.o,if_neg (by rw[hb];simp)])
     go_wp2_with fail
     refine(mR (g.hear p) q (by omega) hh.1 (by omega) _).mono ?_;rintro e _ ⟨rfl,rfl⟩;rw[hb]
     go_wp2_with fail
     go_roundw
     ·exact jv.o (-1) vT.o _ aV.o HG.o HR.o HY.o
     ·simp[intOf];omega
   ·have vT:am (f q=-1):=aa (by rw[Gz.o,if_neg (fun h=>AZ h.1)])
    go_wp2_with fail
    go_roundw
    ·exact jv.o (-1) vT.o _ aV.o HG.o HR.o HY.o
    ·simp[intOf];omega
  ·obtain rfl:q=5:=by omega
   have tq:=ab hO;have HR:=aa hR;have HO:=aa hO;have zq:=fun o=>aH hR o
   have tq0:=ab hR;rw[Lj]at tq;simp at tq0;clear hG hR hO
   go_wp2_with (refine wpList_store_row rfl 190 (.tmp 8) (.tmp 40) rfl (w.heap.size+1) #[.int .i64 p,.int .i64 K,.int .i64 0,.int .i64 (f 0),.int .i64 (f 1),.int .i64 (f 2),.int .i64 (f 3),.int .i64 (f 4)] rfl rfl 190 _ HR.o (by kernel_rfl) rfl (by simp[Value.oneCell']) ?_)
   exact bodyPost_ret (CO _ _ 8 rfl (w.heap.size+1) _ ⟨p,K,0,f 0,f 1,f 2,f 3,f 4⟩ 190 rfl (setRow_heap _ _ _ _ _ _ HR.o)) rfl ⟨by rw[HV.o],below_setRow aA (by omega) _⟩
theorem aJ.rawK{w:World} {base size n:Nat} {e:TypeId} {v:Value} {xs:List Value} (h:aJ w base e size v n xs) (h1:∀ u∈xs,u.oneCell'=true):mU w size v n xs:=by
 rcases h.2 with ⟨rfl,rfl⟩|⟨g,cap,cur,fz,rfl,_,hg,_,ig,_,_,ht⟩
 ·exact⟨none,0,rfl,fun _=>⟨rfl,rfl⟩,h.1,(fun j u hj=>by
   have:xs=[]:=List.eq_nil_of_length_eq_zero (by simpa using h.1)
   rw[this]at hj;simp at hj),h1⟩
 ·exact⟨some ⟨g,0,none⟩,cap,rfl,(fun e=>by cases e),h.1,fun j u hj=>by
   obtain⟨g',c',e1,e2⟩:=h.cell j u hj;injection e1 with e1
   injection e1 with e1
   injection e1 with e1
   subst e1
   exact⟨g,0,rfl,(by rw[Nat.zero_add];exact e2)⟩,h1⟩
theorem CP{α:Type} {to ti:TypeId} {k:Nat} {flat:List α->List Value} {w:World} {base base':Nat} {v:Value} {l:List (List α)} (h:cj to ti k flat w base v l) (hb:base'<=base):cj to ti k flat w base' v l:=by
 obtain⟨xs,h1,h2⟩:=h;exact⟨xs,h1.base hb,fun i hi=>by obtain⟨x,q1,q2⟩:=h2 i hi;exact⟨x,q1,q2.base hb⟩⟩
def n'(a:Adv) (k:Nat) (m:Mv):List (List Rd):=(bZ a k m.to.toNat).map (m.r :: ·)
theorem KQ(a:Adv) (k s:Nat):bZ a (k+1) s=(a.states.getD s []).flatMap (n' a k):=rfl
def kO(a:Adv) (k:Nat) (mv:List Mv) (i:Nat):List (List Rd):=(mv.take i).flatMap (n' a k)
theorem PL{α β:Type} (f:α->List β) (l:List α) (i:Nat) (hi:i<l.length):(l.take (i+1)).flatMap f=(l.take i).flatMap f++f l[i]:=by
 rw[List.take_succ_eq_append_getElem hi,List.flatMap_append];simp
theorem G9{α β:Type} (f:α->List β) (l:List α) (i:Nat):((l.take i).flatMap f).length<=(l.flatMap f).length:=by
 conv=>rhs;rw[<-List.take_append_drop i l,List.flatMap_append,List.length_append]
 omega
theorem FI(a:Adv) (eN:∀ s,s<a.states.length->∀ m∈a.states.getD s [],0<=m.to/\m.to<a.states.length):∀ (k:Nat) (st:Nat) (v:Value) (w:World),k<=64->st<a.states.length->(bZ a k st).length<=4096->bu w v a.states →
  Calls Tryz.prog 157 #[.agg #[.int .i64 a.n,v],.int .i64 st,.int .i64 k] w fun r w'=>∃ u,r=.returned u/\vA w' w.heap.size u (bZ a k st)/\Below w.heap.size w w'
 | 0,st,v,w,_,eD,_,hv=>by
  obtain⟨pa,ca,rfl,_⟩:=hv.at;clear hv
  go_enter Tryz.func157,Tryz.ntmps157
  go_wp2_with fail
  go_ret
  refine⟨_,rfl,⟨[.slice none 0 0],⟨rfl,.inr ⟨w.heap.size+1,1,_,(0,0),rfl,by omega,aZ _ _ _,fun i _ h=>by have:=h.2;simp at this,Nat.le_refl _,by unfold maxLen;omega,rfl,rfl⟩⟩,fun i hi=>?_⟩,by go_grown⟩;obtain rfl:i=0:=by simp[bZ]at hi;omega
  exact⟨_,rfl,aJ.nil _ _ _ _⟩
 | k+1,st,v,w,hk64,eD,cC,hv=>by
  have IH:=aa (FI a eN k);obtain⟨i0,cX,cD,bX,cF⟩:=info_parts Tryz.infoRound;have cB:=aa (And.intro cX (And.intro cD (And.intro bX cF)));obtain⟨i1,pC,fM,jK,iN⟩:=info_parts Tryz.infoWordRow;have tK:=aa (And.intro pC (And.intro fM (And.intro jK iN)));obtain⟨pa,ca,rfl,la1,la2,ea⟩:=hv.at;obtain⟨b1,o1,rfl,x1,c1,dm⟩:=ea st eD;obtain⟨pm,cm,rfl,lm1,lm2,em⟩:=dm.at;rw[Nat.mul_one]at c1;have HV:=aa hv;have C1:=aa c1;have EM:=aa em;have XX:am (∀ i (hi:i<(a.states[st]).length),0<=(a.states[st][i]).to/\(a.states[st][i]).to<a.states.length):=aa (fun i hi=>eN st eD _ (by rw[az [] eD];exact List.getElem_mem hi));rw[KQ,az [] eD]at cC ⊢;generalize a.states[st]=mv at c1 C1 EM XX lm1 lm2 cC dm ⊢;have kU:am (∀ i (hi:i<mv.length),kO a k mv (i+1)=kO a k mv i++n' a k mv[i]):=aa (PL (n' a k) mv);have ud:am (∀ i,(kO a k mv i).length<=(mv.flatMap (n' a k)).length):=aa (G9 (n' a k) mv)
  have DI:am (∀ i (hi:i<mv.length),(n' a k mv[i]).length+(kO a k mv i).length<=4096):=aa (fun i hi=>by
   have h1:=ud.o (i+1);rw[kU.o i hi,List.length_append]at h1
   omega)
  have HFE0:am (kO a k mv mv.length=mv.flatMap (n' a k)):=aa (by unfold kO;rw[List.take_length]);have HF00:am (kO a k mv 0=[]):=aa rfl;generalize mv.flatMap (n' a k)=FF at ud HFE0 cC ⊢;obtain⟨n,hn⟩:∃ n,mv.length=n:=⟨_,rfl⟩;have HN:=aa hn;obtain⟨ns,oK⟩:∃ ns,a.states.length=ns:=⟨_,rfl⟩;have HNS:=aa oK;rw[oK]at eD la1 la2 XX HV ⊢;clear hv ea em dm oK cX cD bX cF pC fM jK iN;obtain⟨kz,hkz⟩:∃ kz:Int,((k+1:Nat):Int)=kz:=⟨_,rfl⟩;have ff:(kz == 0)=false:=beq_eq_false_iff_ne.2 (by omega);have HW1K:am (IntKind.i64.wrap (kz - 1)=(k:Int)):=aa (by rw[IntWalk.i64_in _ (by omega)];omega);rw[hkz];clear hkz
  go_enter Tryz.func157,Tryz.ntmps157
  go_wp2_with fail
  refine bC (fun W=>Below w.heap.size w W/\W.heap[w.heap.size]?=some (.cells #[.int .i64 a.n,.slice (some ⟨b1,o1,none⟩) ns ca] 27)) ⟨by go_grown,ap _ _⟩ (fun w1 jn=>?_);have gN:=aa jn.1;have du:=aa jn.2;have fZ:=aD jn.2;have hsz1:=jn.1.size;clear jn
  go_loopw [7,8] (fun o i wr=>∃ i':Nat,i'<=n/\i=.int .i64 i'/\Below w1.heap.size w1 wr/\vA wr w1.heap.size o (kO a k mv i')) (fun _ i _=>n - (intOf i).toNat)
  ·exact⟨0,by omega,rfl,Below.refl _ _,by rw[HF00.o];exact cj.nil _ _⟩
  ·
   obtain⟨i,hi,rfl,aA,ri⟩:=hrel;have aV:=aa aA;have df:=ae gN.o aA;have tA:=ab (af aA du.o);have tc:=ak df C1.o;have hfr':=ri;obtain⟨xs0,GH,Ra⟩:=ri;obtain⟨po,co,rfl⟩:=GH.slice;have wc:=aa hfr';have TY:=aa (GH.lt);clear hfr' GH Ra;by_cases aC:i<n
   ·have UE:i<mv.length:=by rw[HN.o];exact aC
    obtain⟨b2,o2,rfl,⟨⟨d0,_⟩,⟨d1,_⟩,⟨d2,_⟩,⟨d3,_⟩,⟨d4,_⟩,⟨d5,_⟩,⟨d6,_⟩⟩,⟨d7,_⟩⟩:=EM.o i UE;have d0:=ak df d0;have d1:=ak df d1;have d2:=ak df d2;have d3:=ak df d3;have d4:=ak df d4;have d5:=ak df d5;have d6:=ak df d6;have d7:=ak df d7;have Ro:=aa (XX.o i UE);have Jl:=aa (kU.o i UE);have GD:=aa (DI.o i UE);generalize mv[i]=m at d0 d1 d2 d3 d4 d5 d6 d7 Ro Jl GD;obtain⟨to,oX⟩:∃ to:Nat,m.to=to:=⟨m.to.toNat,by have:=Ro.o;omega⟩;have hto2:to<ns:=by have:=Ro.o;omega
    have QX:=aa oX;rw[oX]at d7;have S9:=HW1K.o;obtain⟨wrA,lg⟩:∃ x,x=wr:=⟨_,rfl⟩;subst lg;clear oX;have T1:am (n' a k m=(bZ a k to).map (m.r :: ·)):=aa (by unfold n';rw[QX.o,Int.toNat_natCast]);have hRL:(bZ a k to).length<=4096:=by have h1:=GD.o;rw[T1.o,List.length_map]at h1;omega
    have tA2:=fun o=>ab (ar o (af aA du.o))
    go_wp2_with fail
    refine aO (fun W=>Below wrA.heap.size wrA W/\W.heap[wrA.heap.size]?=some (.cells #[.int .i64 m.r.g.n,.int .i64 m.r.g.h0,.int .i64 m.r.g.h1,.int .i64 m.r.g.h2,.int .i64 m.r.g.h3,.int .i64 m.r.g.h4,.int .i64 m.r.f,.int .i64 to] 143)) ⟨by go_grown,ap _ _⟩ (fun w4 zy=>?_);have QQ:=aa zy.1;have eE:=aa zy.2;have zQ:=aD zy.2;clear zy d0 d1 d2 d3 d4 d5 d6 d7 tA tA2 tc;refine(IH.o to _ w4 (by omega) (by rw[HNS.o];exact hto2) hRL (HV.o.up up_moves (ae df QQ.o))).mono ?_;rintro r w5 ⟨u,rfl,hu,dS⟩;have HU:=aa hu;have mx:=aa dS;obtain⟨xs,dm,dM⟩:=hu;obtain⟨pu,cu,rfl⟩:=dm.slice;have kS:=aa dm;have fN:=aa dM;obtain⟨rs,JQ⟩:∃ rs,bZ a k to=rs:=⟨_,rfl⟩;rw[JQ]at T1 hRL HU kS fN ⊢;have hsz5:=dS.size;have HF5:=aa (wc.o.up (ae QQ.o dS));have HBW5:=aa (ae aV.o (ae QQ.o dS));have fr:=aa (af dS eE.o);have Xv:am (∀ x∈rs,x.length=k):=aa (by rw[<-JQ];exact kA a k to);have hszA:=aV.o.size;clear dm dM JQ dS IH df aA;obtain⟨LJ,Qx⟩:∃ LJ:Nat->List (List Rd),LJ=fun j=>kO a k mv i++(rs.take j).map (m.r :: ·):=⟨_,rfl⟩
    have LP:am (LJ 0=kO a k mv i):=aa (by rw[Qx];simp);have UI:am (∀ j (hj:j<rs.length),LJ (j+1)=LJ j++[m.r :: rs[j]]):=aa (fun j hj=>by rw[Qx];dsimp only;rw[List.take_succ_eq_append_getElem hj,List.map_append,List.append_assoc];rfl);have UN:am (LJ rs.length=kO a k mv (i+1)):=aa (by rw[Qx];dsimp only;rw[List.take_length,Jl.o,T1.o])
    have HJL:am (∀ j,j<=rs.length->(LJ j).length<=4096/\(LJ j).length=(LJ 0).length+j):=aa (fun j hj=>by
     have h1:=GD.o;rw[T1.o,List.length_map]at h1;rw[Qx];simp only[List.length_append,List.length_map,List.length_take,Nat.min_eq_left hj,List.take_zero,List.map_nil,List.length_nil]
     omega)
    clear Qx;rw[<-LP.o]at HF5 wc TY ⊢
    go_wp2_with fail
    go_loopw [7,11] (fun o j wr=>∃ j':Nat,j'<=rs.length/\j=.int .i64 j'/\Below w1.heap.size w1 wr/\wr.heap[wrA.heap.size]?=some (.cells #[.int .i64 m.r.g.n,.int .i64 m.r.g.h0,.int .i64 m.r.g.h1,.int .i64 m.r.g.h2,.int .i64 m.r.g.h3,.int .i64 m.r.g.h4,.int .i64 m.r.f,.int .i64 to] 143)/\(∀ q,w4.heap.size<=q->q<w5.heap.size->wr.heap[q]?=w5.heap[q]?)/\w5.heap.size<=wr.heap.size/\(∀ g,o.ownBlock=some g->g<w4.heap.size\/w5.heap.size<=g)/\vA wr w1.heap.size o (LJ j')) (fun _ j _=>rs.length - (intOf j).toNat)
    ·exact⟨0,by omega,rfl,HBW5.o,fr.o,fun q _ _=>rfl,Nat.le_refl _,fun g hg=>.inl (by have:=(TY.o g hg).2;omega),HF5.o⟩
    ·
     obtain⟨j,hj,rfl,GA,dU,hwin,hszj,pF,hfj⟩:=hrel;have LN:=aa GA;have ST:=aa dU;have S2:=aa hwin;have UD:=aa pF;have HFJ:=aa hfj;obtain⟨ys,jK,iN⟩:=hfj;obtain⟨pq,cq,rfl⟩:=jK.slice;have rZ:=aa jK;have wg:=aa iN;clear GA hwin pF jK iN;by_cases fL:j<rs.length
     ·obtain⟨x,L5,qI⟩:=fN.o j fL;obtain⟨g0,c0,e0,sA⟩:=kS.o.cell j x L5;injection e0 with e0
      subst e0;have tW:=kS.o.lt g0 rfl
      have tx:wr.cell? ⟨g0,j,none⟩=some x:=by
       unfold World.cell? at sA ⊢;rw[S2.o g0 tW.1 tW.2];exact sA
      have JC:aJ wr w4.heap.size 141 7 x rs[j].length (da rs[j]):=qI.keep fun g o hg hh=>(S2.o g (qI.lt g hg).1 (qI.lt g hg).2).trans hh
      have iQ:(rs[j]).length=k:=Xv.o _ (List.getElem_mem fL);have zH:=aa (UI.o j fL);have pk:=aa (HJL.o j (by omega));generalize rs[j]=word at JC iQ zH qI;obtain⟨px,cx,rfl⟩:=JC.slice;have HRK:=aa (JC.rawK (sX word));have Va:=aa iQ;have t9:=ab dU;have tx2:=fun o=>ak (show Below wr.heap.size wr (wr.alloc o) by go_grown) tx
      have oJ:Below wr.heap.size wr (wr.alloc (.cells m.r.c 141)):=by go_grown
      have sh:am (aJ (wr.alloc (.cells m.r.c 141)) wr.heap.size 141 7 (.slice (some ⟨wr.heap.size,0,none⟩) 1 1) 1 m.r.c.toList):=aa ⟨rfl,.inr ⟨wr.heap.size,1,_,(0,0),rfl,Nat.le_refl _,ap _ _,fun i _ h=>by have:=h.2;simp at this,Nat.le_refl _,by unfold maxLen;omega,rfl,rfl⟩⟩
      have HRK2:am (mU (wr.alloc (.cells m.r.c 141)) 7 (.slice px word.length cx) word.length (da word)):=aa (by
       have h:=(JC.up oJ).rawK (sX word)
       exact h)
      have kw:am (1+word.length<=maxLen):=aa (by rw[iQ];unfold maxLen;omega);have fc:am ((1+word.length) * 56<=140737488355328):=aa (by rw[iQ];omega);have HMX2:am ((LJ j).length+1<=maxLen):=aa (by have:=pk.o.1;unfold maxLen;omega);have HBY2:am (((LJ j).length+1) * 24<=140737488355328):=aa (by have:=pk.o.1;omega);have hBJs:=LN.o.size;clear qI JC iQ sA L5 dU;have AQ:=aa oJ;clear oJ tx
      go_wp2_with (at_builtin;first
                   | (refine ld _ rfl (.tmp 50) (.tmp 54) 87 rfl wr.heap.size 141 i0 _ 7 56 Tryz.underlying87 cB.o.1 cB.o.2.1 cB.o.2.2.1 cB.o.2.2.2 rfl (by decide) _ 1 m.r.c.toList rfl sh.o _ word.length (da word) rfl HRK2.o kw.o fc.o (by simp) ?_;intro v6 w6 fh eF hob6;obtain⟨av6,cv6,rfl⟩:=fh.slice;have QH:=aa eF;have HO6:=aa fh;have Uq:=eF.size;simp only[World.size_alloc]at Uq;have J0:am (∀ q,q<wr.heap.size->w6.heap[q]?=wr.heap[q]?):=aa (fun q hq=>(QH.o.block q (by simp;omega) (fun e=>by have e:=dy e;dsimp only at e;omega)).trans (Below.heap_alloc wr _ q hq));have TK:am (aJ (w6.alloc (.cells #[.slice av6 (1+word.length) cv6] 87)) w1.heap.size 87 1 (.slice pq (LJ j).length cq) (LJ j).length ys):=aa ((((rZ.o.up AQ.o).apart sh.o (by decide) QH.o)).up (show Below w6.heap.size w6 (w6.alloc (.cells #[.slice av6 (1+word.length) cv6] 87)) by go_grown));have bF:=aa (dQ w6 [.slice av6 (1+word.length) cv6] 87);have HBS7:am (w1.heap.size<=(w6.alloc (.cells #[.slice av6 (1+word.length) cv6] 87)).heap.size):=aa (by simp;omega);clear fh eF hob6)
                   | (refine bg _ rfl (.tmp 49) (.tmp 56) 221 rfl w1.heap.size 87 i1 _ 1 24 Tryz.underlying221 tK.o.1 tK.o.2.1 tK.o.2.2.1 tK.o.2.2.2 rfl (by decide) _ (LJ j).length _ rfl TK.o ⟨w6.heap.size,0,none⟩ 1 1 [.slice av6 (1+word.length) cv6] rfl rfl bF.o (by simp[Value.oneCell']) HMX2.o HBY2.o HBS7.o ?_;intro v9 w9 gt eC Ke))
      have sw:=eC.size;simp only[World.size_alloc]at sw;have hxl2:(m.r :: word).length=1+word.length:=by simp;omega
      have hx6:aJ (w6.alloc (.cells #[.slice av6 (1+word.length) cv6] 87)) w1.heap.size 141 7 (.slice av6 (1+word.length) cv6) (m.r :: word).length (da (m.r :: word)):=by
       rw[hxl2];exact(HO6.o.base (show w1.heap.size<=wr.heap.size from hBJs)).up (show Below w6.heap.size w6 (w6.alloc (.cells #[.slice av6 (1+word.length) cv6] 87)) by go_grown)
      have kh:∀ i (hi:i<(LJ j).length),∃ x,ys[i]?=some x/\aJ (w6.alloc (.cells #[.slice av6 (1+word.length) cv6] 87)) w1.heap.size 141 7 x (LJ j)[i].length (da (LJ j)[i]):=fun i hi=>by
       obtain⟨x,q1,q2⟩:=wg.o i hi;exact⟨x,q1,(q2.keep fun g o hg hh=>(J0.o g (q2.lt g hg).2).trans hh).up (show Below w6.heap.size w6 (w6.alloc (.cells #[.slice av6 (1+word.length) cv6] 87)) by go_grown)⟩
      have hfr9:=cj.snoc TK.o kh (by decide) hx6 eC gt
      have zI:∀ q,q<wr.heap.size->(∀ g,(Value.slice pq (LJ j).length cq).ownBlock=some g->q≠g)->w9.heap[q]?=wr.heap[q]?:=fun q hq hn=>by
       rw[eC.block q (by simp;omega) (fun e=>hn q e.symm rfl),Below.heap_alloc w6 _ q (by omega)];exact J0.o q hq
      have hb69:Below w1.heap.size w1 (w6.alloc (.cells #[.slice av6 (1+word.length) cv6] 87)):=(Below.grown (ae LN.o AQ.o) QH.o (by simp;omega) (fun g hg=>by have e:=dy hg;dsimp only at e;omega)).alloc (by omega) _
      go_roundw
      ·
       refine⟨j+1,by omega,by go_num,Below.grown hb69 eC (by simp;omega) (fun g hg=>(TK.o.lt g hg).1),?_,fun q h1 h2=>?_,by omega,fun g hg=>?_,by rw[zH.o];exact hfr9⟩
       ·exact(zI _ (aD ST.o) (fun g hg e=>rZ.o.ne ST.o (by decide) g hg e.symm)).trans ST.o
       ·exact(zI q (by omega) (fun g hg e=>by rcases UD.o g hg with h|h<;>omega)).trans (S2.o q h1 h2)
       ·rcases Ke with h|h
        ·exact UD.o g (h ▸ hg)
        ·rw[h]at hg;have e:=dy hg;simp at e;exact .inr (by omega)
      ·simp[intOf];omega
     ·obtain rfl:j=rs.length:=by omega
      rw[UN.o]at HFJ rZ ⊢
      go_wp2_with fail
      go_roundw
      ·exact⟨i+1,by omega,by go_num,LN.o,HFJ.o⟩
      ·simp[intOf];omega
   ·obtain rfl:i=n:=by omega
    have Yt:am (vA wr w1.heap.size (.slice po (kO a k mv i).length co) FF):=aa (by have h:=wc.o;rwa [<-HFE0.o,HN.o])
    go_wp2_with fail
    go_ret
    exact⟨_,rfl,CP Yt.o (by omega),ae gN.o aV.o⟩
end Go.Proofs.YtmeaoneaephjeaaGreatDoor
namespace Go.Proofs.YtmeaoneaephjeaaGreatDoor
def Ey(r:Rd):List Rd->List Rd
 | []=>[r]
 | x :: l=>if roundC r x<0 then r :: x :: l else if roundC r x=0 then x :: l else x :: Ey r l
def BQ(a:Adv):List Rd:=(a.states.flatMap fun l=>l.map (·.r)).foldr Ey []
theorem R'(a:List Int):∀ b,ordV a b=0↔a=b:=by
 induction a with
 | nil=>intro b;cases b<;>simp[ordV]
 | cons x r ih=>
  intro b;cases b with
  | nil=>simp[ordV]
  | cons y s=>
   rw[ordV];have:=ih s;rw[List.cons.injEq]
   grind
theorem Sa{a b:Rd} (h:a.list=b.list):a=b:=by
 obtain⟨⟨_,_,_,_,_,_⟩,_⟩:=a;obtain⟨⟨_,_,_,_,_,_⟩,_⟩:=b;simp[Rd.list]at h;simp[h]
theorem MY(a b:Rd):roundC a b=0↔a=b:=by
 rw[Kt,R'];exact⟨Sa,fun h=>by rw[h]⟩
theorem Sb(r x:Rd) (l:List Rd):x∈Ey r l↔x=r\/x∈l:=by
 induction l with
 | nil=>simp[Ey]
 | cons y l ih=>
  unfold Ey;by_cases h1:roundC r y<0
  ·simp[h1]
  ·by_cases h2:roundC r y=0
   ·have:=(MY r y).1 h2;subst this;simp[h2]
   ·simp only[if_neg h1,if_neg h2,List.mem_cons,ih]
    grind
theorem AJ(a:Adv) (x:Rd):x∈BQ a↔∃ l∈a.states,∃ m∈l,m.r=x:=by
 unfold BQ
 have key:∀ l:List Rd,x∈l.foldr Ey []↔x∈l:=by
  intro l;induction l with
  | nil=>simp
  | cons y l ih=>rw[List.foldr_cons,Sb,ih,List.mem_cons]
 rw[key];simp
structure OkR (n:Int) (r:Rd):Prop where
 gn:r.g.n=n
 h:∀ q,q<5->0<=r.g.hear q/\r.g.hear q<32
 z:∀ q:Nat,n<=q->q<5->r.g.hear q=0
 n1:1<=n/\n<=5
 f:0<=r.f/\r.f<32
theorem Sc{g:Gr} (h:gZ g=0):(∀ q,q<5->0<=g.hear q/\g.hear q<32)/\(∀ q:Nat,g.n<=q->q<5->g.hear q=0)/\1<=g.n/\g.n<=5:=by
 unfold gZ at h;split at h
 ·omega
 rename_i h1;have h2:=fH h;have hn:g.n=1\/g.n=2\/g.n=3\/g.n=4\/g.n=5:=by omega
 have key:∀ q,q<5->(0<=g.hear q/\g.hear q<32)/\(g.n<=(q:Int)->g.hear q=0):=fun q hq=>by
  have h3:=h2 q hq;unfold mC at h3;split at h3
  ·split at h3
   ·omega
   ·rename_i h4;exact⟨by omega,fun _=>by omega⟩
  ·split at h3
   ·omega
   ·rename_i h4 h5;refine⟨?_,fun e=>absurd e h4⟩;rcases hn with e|e|e|e|e<;>rw[e]at h5<;>simp at h5<;>omega
 exact⟨fun q hq=>(key q hq).1,fun q hn hq=>(key q hq).2 hn,by omega,by omega⟩
theorem PM{a:Adv} (ha:advE a=0) {r:Rd} (h:r∈BQ a):OkR a.n r:=by
 obtain⟨l,hl,m,hm,rfl⟩:=(AJ a r).1 h;obtain⟨s,hs,rfl⟩:=List.getElem_of_mem hl;obtain⟨j,hj,rfl⟩:=List.getElem_of_mem hm;have h1:=(ip ha).2.1 s hs;rw[show a.states.getD s []=a.states[s] by simp[hs]]at h1;unfold stateE at h1;rw[if_neg (by omega)]at h1;have h2:=fH h1 j hj;have hf:=(DZ h2).1;unfold dW at h2;rw[show a.states[s].getD j default=a.states[s][j] by simp[hj]]at h2 hf;split at h2
 ·rename_i h3;exact absurd h2 h3
 rename_i h3;split at h2
 ·omega
 rename_i h4;have h5:roundE a.states[s][j].r=0:=by simpa using h3
 unfold roundE at h5;split at h5
 ·rename_i h6;exact absurd h5 h6
 rename_i h6;obtain⟨g1,g2,g3,g4⟩:=Sc (by simpa using h6);have hn:a.states[s][j].r.g.n=a.n:=by simpa using h4
 rw[hn]at g2 g3 g4;exact⟨hn,g1,g2,⟨g3,g4⟩,hf⟩
end Go.Proofs.YtmeaoneaephjeaaGreatDoor
namespace Go.Proofs.YtmeaoneaephjeaaGreatDoor
open Go.ChangeShapes Go.WideShapes Go.ChangeAt Go.RowKit Go Go.Deep
section
variable {H : Type} {enc : TypeId × Value → H} {w : World}
theorem PN{fuel:Nat} {cs:List Value} {x:DataW H × List MemPlace} (h:lU enc w fuel 49 cs x) (hz:sO 49 x.1) :
  ∃ (v:Value) (l:List Int),cs=[v]/\aQ w v l:=by
 obtain⟨hl,n,hf⟩:=nV Tryz.underlying49 h hz;rw[show Tryz.prog.cellsOf 49=1 by kernel_rfl]at hl;obtain⟨c0,rfl⟩:=List.length_eq_one_iff.1 hl;obtain⟨y0,r0,z0⟩:=hf 0 _ rfl;change lU enc w n 38 (([c0].drop 0).take (Tryz.prog.cellsOf 38)) y0 at r0;change sO 38 y0.1 at z0;rw[Tryz.cInts]at r0;obtain⟨v1,l1,e1,g1⟩:=z5 Tryz.underlying38 Tryz.cInt (by omega) (of_decide_eq_true (by kernel_rfl)) opn_int r0 z0;simp at e1;subst e1;exact⟨_,l1,rfl,g1⟩
end
end Go.Proofs.YtmeaoneaephjeaaGreatDoor
namespace Go.Proofs.YtmeaoneaephjeaaGreatDoor
open Go.RowKit Go Go.Shelf
theorem yU{w:World} {base:Nat} {v:Value} {l:List Vw} (h:aJ w base 190 8 v l.length (fe l)) (hx:∀ u∈l,j7 u) (hn:l.length<=17592186044416):kW w v l:=by
 have aU:=fun i (hi:i<l.length) j (u:Value) (hj:j<8) (hu:l[i].c[j]?=some u)=>h.cell (i * 8+j) u (by unfold fe;rw[pW Vw.c 8 (fun _=>rfl) l i j hi hj];exact hu)
 rcases h.2 with ⟨hz,h0⟩|⟨g,cap,cur,fz,rfl,_,hg,_,kR,jl,_⟩
 ·refine⟨none,0,by rw[hz,h0],⟨by omega,by omega,fun _=>rfl⟩,hn,fun i x hi=>?_⟩;have:=(List.getElem?_eq_some_iff.1 hi).1;omega
 ·refine⟨some ⟨g,0,none⟩,cap,rfl,⟨kR,by simp only[maxLen]at jl;omega,fun e=>by cases e⟩,hn,fun i x hi=>⟨g,0,rfl,?_⟩⟩;obtain⟨gL,rfl⟩:=List.getElem?_eq_some_iff.1 hi;obtain⟨r0,r1,r2,r3,r4,r5,r6,r7⟩:=hx _ (List.getElem_mem gL)
  have key:∀ j u,j<8->l[i].c[j]?=some u->w.cell? ⟨g,0+i * 8+j,none⟩=some u:=fun j u hj hu=>by
   obtain⟨g',c',e1,e2⟩:=aU i gL j u hj hu;have:g=g':=by simp at e1;exact e1.1
   rw[this,Nat.zero_add];exact e2
  exact⟨⟨key 0 _ (by omega) rfl,r0⟩,⟨key 1 _ (by omega) rfl,r1⟩,⟨key 2 _ (by omega) rfl,r2⟩,⟨key 3 _ (by omega) rfl,r3⟩,⟨key 4 _ (by omega) rfl,r4⟩,⟨key 5 _ (by omega) rfl,r5⟩,⟨key 6 _ (by omega) rfl,r6⟩,⟨key 7 _ (by omega) rfl,r7⟩⟩
structure ExGood (x:Ex):Prop where
 c:bR x.c
 word:x.word.length<=6/\∀ r∈x.word,pX r
 views:x.views.length<=7/\(∀ row∈x.views,row.length<=5)/\∀ row∈x.views,∀ z∈row,bR z
theorem Ll{w:World} {base:Nat} {v:Value} {l:List Ex} {xs:List Value} (h:aJ w base 89 3 v l.length xs) (hx:∀ i (hi:i<l.length),Ab w base xs i l[i]) (hg:∀ x∈l,ExGood x) (hn:l.length<=17592186044416):Aa w v l:=by
 have aU:=fun j (u:Value) (hu:xs[j]?=some u)=>h.cell j u hu
 rcases h.2 with ⟨hz,h0⟩|⟨g,cap,cur,fz,rfl,_,nJ,_,kR,jl,_⟩
 ·refine⟨none,0,by rw[hz,h0],⟨by omega,by omega,fun _=>rfl⟩,hn,fun i x hi=>?_⟩;have:=(List.getElem?_eq_some_iff.1 hi).1;omega
 ·refine⟨some ⟨g,0,none⟩,cap,rfl,⟨kR,by simp only[maxLen]at jl;omega,fun e=>by cases e⟩,hn,fun i x hi=>⟨g,0,rfl,?_⟩⟩;obtain⟨gL,rfl⟩:=List.getElem?_eq_some_iff.1 hi;obtain⟨a,b,p1,p2,p3,p4,p5⟩:=hx i gL;have lL:=hg _ (List.getElem_mem gL)
  have key:∀ j u,xs[i * 3+j]?=some u->w.cell? ⟨g,0+i * 3+j,none⟩=some u:=fun j u hu=>by
   obtain⟨g',c',e1,e2⟩:=aU _ u hu;have:g=g':=by simp at e1;exact e1.1
   rw[this,Nat.zero_add];exact e2
  refine⟨⟨key 0 _ p1,lL.c⟩,⟨a,key 1 _ p2,rO p4 (fun i hi=>lL.word.2 _ (List.getElem_mem hi)) (by have:=lL.word.1;omega)⟩,⟨b,key 2 _ p3,nZ p5 lL.views.2.2 (by have:=lL.views.1;omega) (fun x hx=>by have:=lL.views.2.1 x hx;omega)⟩⟩
theorem uM(n:Nat) (inp:List Int) (word:List Rd) (tb:List Vw):∀ k,∀ row∈(playTo n inp word tb k).2,row.length=n
 | 0=>fun row hr=>by
  have h:=(iG n inp word tb 0).2.1;have e:(playTo n inp word tb 0).2=[(uZ n inp tb).2]:=rfl;rw[e]at hr h;rw[List.mem_singleton]at hr;subst hr;exact h
 | k+1=>fun row hr=>by
  have h:=(iG n inp word tb (k+1)).2.1;have e:(playTo n inp word tb (k+1)).2=(playTo n inp word tb k).2++[(addAll (playTo n inp word tb k).1 (fP n k (word.getD k default) ((playTo n inp word tb k).2.getLastD []))).2]:=rfl;rw[e]at hr h;rw[List.getLastD_concat]at h;rcases List.mem_append.1 hr with hr|hr
  ·exact uM n inp word tb k row hr
  ·rw[List.mem_singleton]at hr;subst hr;exact h
theorem BR{p:Pb} (h:probE p=0) (hc:∀ c∈p.t.cases,∀ y∈c.inp,bR y) (hw:∀ x∈aN p,∀ r∈x,pX r) (ht:(execsS p (aN p) (fp p)).1.length<=8192):∀ i,i<=p.t.cases.length * (aN p).length->(∀ v∈(stP p i).1,j7 v)/\∀ x∈(stP p i).2,ExGood x
 | 0,_=>⟨fun v hv=>by simp[stP,execsS]at hv,fun x hx=>by simp[stP,execsS]at hx⟩
 | i+1,hi=>by
  obtain⟨h1,h2⟩:=BR h hc hw ht i (by omega);obtain⟨nH,_,_,sr,pg⟩:=gP h;obtain⟨⟨_,jf⟩,_,_,⟨_,bW⟩,eN⟩:=fy nH;have lh:(stP p i).1.length<=8192:=Nat.le_trans (xD p (aN p) (fp p) i) ht;have aC:i<p.t.cases.length * (aN p).length:=by omega
  have pA:0<(aN p).length:=by
   rcases Nat.eq_zero_or_pos (aN p).length with h|h
   ·rw[h]at aC;simp at aC
   ·exact h
  have LO:i / (aN p).length<p.t.cases.length:=by rw[Nat.div_lt_iff_lt_mul pA];exact aC
  have hj:i % (aN p).length<(aN p).length:=Nat.mod_lt _ pA;have eD:=wU p i aC;unfold jx at eD;dsimp only at eD;rw[az default LO,az [] hj]at eD
  have QY:((aN p)[i % (aN p).length]).length<=6:=by
   have:=kA p.a p.rounds.toNat 0 _ (List.getElem_mem (l:=aN p) hj);omega
  have cZ:=yR p.t.n.toNat (by omega) (p.t.cases[i / (aN p).length]).inp (hc _ (List.getElem_mem LO)) (aN p)[i % (aN p).length] (stP p i).1 h1 _ QY (by omega);have hrows:=uM p.t.n.toNat (p.t.cases[i / (aN p).length]).inp (aN p)[i % (aN p).length] (stP p i).1 ((aN p)[i % (aN p).length]).length;have cC:=(iG p.t.n.toNat (p.t.cases[i / (aN p).length]).inp (aN p)[i % (aN p).length] (stP p i).1 ((aN p)[i % (aN p).length]).length).1;rw[eD];refine⟨cZ.1,fun x hx=>?_⟩;rcases List.mem_append.1 hx with hx|hx
  ·exact h2 x hx
  ·rw[List.mem_singleton]at hx;subst hx;exact⟨vD _ (by omega),⟨QY,hw _ (List.getElem_mem hj)⟩,by simp only[gC];omega,fun row hr=>by have:=hrows row hr;omega,fun row hr z hz=>by have:=cZ.2 row hr z hz;exact⟨by omega,by omega⟩⟩
end Go.Proofs.YtmeaoneaephjeaaGreatDoor
namespace Go.Proofs.YtmeaoneaephjeaaGreatDoor
open Go.RowKit Go Go.Shelf
attribute [local go_sem] Oper.semAt_some
def YP(base:Nat) (l:List Vw):MP:=⟨fun x W=>aJ W base 190 8 x l.length (fe l),fun _ _ _ h hb=>h.up hb⟩
def YV(base:Nat) (v:Vw):MP:=⟨fun x W=>∃ b,x=.slice (some ⟨b,0,none⟩) 1 1/\base<=b/\W.heap[b]?=some (.cells v.c 190),fun _ _ _ h hb=>by obtain⟨b,e,h1,h2⟩:=h;exact⟨b,e,h1,af hb h2⟩⟩
theorem AK(tmps:Array Value) (B:Nat) (W:World) (n i:Int) (u:Value) (h4:tmps[4]?.getD undef=.pointer (some ⟨B,0,none⟩)) (h5:tmps[5]?.getD undef=.int .i64 i)
  (hB:W.heap[B]?=some (.cells #[.int .i64 n,u] 32)):(results Tryz.f160 tmps).run Tryz.prog W=.ok (.tuple #[.agg #[.int .i64 n,u],.int .i64 i]) W:=by
 have t2:=ab hB;simp[results,Tryz.results160,go_sem,h4,h5,t2]
structure PtR (w:World) (base b2 b4 b7:Nat) (n:Int) (ot u1:Value) (len m:Nat) (xs:List Value) (D:Nat->Bool) (x:Nat->Value) (W:World):Prop where
 old:Below w.heap.size w W
 r7:W.heap[b7]?=some (.cells #[.int .i64 n,u1] 32)
 r2:W.heap[b2]?=some (.cells #[.int .i64 n,ot] 32)
 r4:W.heap[b4]?=some (.cells (if D 4 then #[.int .i64 n,u1] else #[.int .i64 0,.slice none 0 0]) 32)
 own:aJ W base 190 8 u1 m xs
 v0:D 0=true->x 0=.agg #[.int .i64 n,u1]
 v1:D 1=true->x 1=.pointer (some ⟨b2,1,none⟩)
 v2:D 2=true->x 2=ot
 v3:D 3=true->x 3=.int .i64 len
 v5:D 5=true->x 5=.int .i64 len
theorem PtR.set{w:World} {base b2 b4 b7:Nat} {n:Int} {ot u1:Value} {len m:Nat} {xs:List Value} {D:Nat->Bool} {x:Nat->Value} {W:World} (h:PtR w base b2 b4 b7 n ot u1 len m xs D x W) (i:Nat) (hi:i≠4) (v:Value)
  (hv:(i=0->v=.agg #[.int .i64 n,u1])/\(i=1->v=.pointer (some ⟨b2,1,none⟩))/\(i=2->v=ot)/\(i=3\/i=5->v=.int .i64 len)):PtR w base b2 b4 b7 n ot u1 len m xs (bJ D i) (cG x i v) W:=by
 have key:∀ j,bJ D i j=true->(j=i/\cG x i v j=v)\/(j≠i/\D j=true/\cG x i v j=x j):=fun j hj=>by
  by_cases e:j=i
  ·subst e;exact .inl ⟨rfl,fF _ _ _⟩
  ·exact .inr ⟨e,by simpa[bJ,e] using hj,fW _ _ e⟩
 refine⟨h.old,h.r7,h.r2,by rw[show bJ D i 4=D 4 by simp[bJ,show ¬ (4=i) by omega]];exact h.r4,h.own,fun hd=>?_,fun hd=>?_,fun hd=>?_,fun hd=>?_,fun hd=>?_⟩
 ·rcases key 0 hd with ⟨e,h1⟩|⟨_,h1,h2⟩
  ·rw[h1];exact hv.1 e.symm
  ·rw[h2];exact h.v0 h1
 ·rcases key 1 hd with ⟨e,h1⟩|⟨_,h1,h2⟩
  ·rw[h1];exact hv.2.1 e.symm
  ·rw[h2];exact h.v1 h1
 ·rcases key 2 hd with ⟨e,h1⟩|⟨_,h1,h2⟩
  ·rw[h1];exact hv.2.2.1 e.symm
  ·rw[h2];exact h.v2 h1
 ·rcases key 3 hd with ⟨e,h1⟩|⟨_,h1,h2⟩
  ·rw[h1];exact hv.2.2.2 (.inl e.symm)
  ·rw[h2];exact h.v3 h1
 ·rcases key 5 hd with ⟨e,h1⟩|⟨_,h1,h2⟩
  ·rw[h1];exact hv.2.2.2 (.inr e.symm)
  ·rw[h2];exact h.v5 h1
theorem PtR.store{w:World} {base b2 b4 b7:Nat} {n:Int} {ot u1:Value} {len m:Nat} {xs:List Value} {D:Nat->Bool} {x:Nat->Value} {W:World} (h:PtR w base b2 b4 b7 n ot u1 len m xs D x W) (hw:w.heap.size<=b4) (h2:b2≠b4) (h7:b7≠b4) (v:Value):PtR w base b2 b4 b7 n ot u1 len m xs (bJ D 4) (cG x 4 v) (W.setRow b4 #[.int .i64 n,u1]):=by
 have k:∀ j,j≠4->bJ D 4 j=D j:=fun j hj=>by simp[bJ,hj]
 have l:∀ j,j≠4->cG x 4 v j=x j:=fun j hj=>fW _ _ hj
 refine⟨below_setRow h.old hw _,by rw[setRow_other _ _ _ _ h7];exact h.r7,by rw[setRow_other _ _ _ _ h2];exact h.r2,?_,h.own.keep fun g o hg ho=>?_,?_,?_,?_,?_,?_⟩
 ·rw[show bJ D 4 4=true by simp[bJ]];exact setRow_heap _ _ _ _ _ _ h.r4
 ·rw[setRow_other _ _ _ _ (h.own.ne h.r4 (by decide) g hg)];exact ho
 all_goals rw[k _ (by omega),l _ (by omega)]
 ·exact h.v0
 ·exact h.v1
 ·exact h.v2
 ·exact h.v3
 ·exact h.v5
theorem Sd(n:Int) (tab:List Vw) (vt:Value) (v:Vw) (base:Nat) (w:World) (mI:base<=w.heap.size) (ht:aJ w base 190 8 vt tab.length (fe tab)) (cZ:∀ u∈tab,j7 u) (hl:tab.length<=1048576) :
  Calls Tryz.prog 160 #[.agg #[.int .i64 n,vt],v.v] w fun r w'=>(∃ u,r=.returned (.tuple #[.agg #[.int .i64 n,u],.int .i64 ((putV tab v).2:Nat)])/\aJ w' base 190 8 u (putV tab v).1.length (fe (putV tab v).1))/\Below w.heap.size w w':=by
 obtain⟨pt,ct,rfl⟩:=ht.slice;obtain⟨i0,cX,cD,bX,cF⟩:=info_parts Tryz.infoView;have cB:=aa (And.intro cX (And.intro cD (And.intro bX cF)));have HT:=aa ht;have qG:=aa (fun W (hb:Below w.heap.size w W)=>KO n tab _ v W (yU (ht.up hb) cZ (by omega)));have JG:=aa (MW tab v);generalize putV tab v=pv at JG ⊢;generalize viewIx tab v=ix at qG JG;have HMX0:am (0+tab.length<=maxLen):=aa (by unfold maxLen;omega);have HBY0:am ((0+tab.length) * 64<=140737488355328):=aa (by omega);have HMX1:am (tab.length+1<=maxLen):=aa (by unfold maxLen;omega);have HBY1:am ((tab.length+1) * 64<=140737488355328):=aa (by omega);clear ht cX cD bX cF cZ
 go_enter Tryz.func160,Tryz.ntmps160
 go_wp2_with fail
 refine aO (fun W=>Below w.heap.size w W/\W.heap[w.heap.size]?=some (.cells #[.int .i64 n,.slice pt tab.length ct] 32)/\W.heap[w.heap.size+1]?=some (.cells v.c 190)/\W.heap[w.heap.size+1+1]?=some (.cells #[.int .i64 0,.slice none 0 0] 32)) ⟨by go_grown,ar _ (ar _ (ap _ _)),ar _ (aZ _ _ _),dZ _ _ _ _⟩ (fun W0 aX=>?_);obtain⟨aG,h2,h3,h4⟩:=aX;refine(qG.o W0 aG).mono ?_;rintro r w1 ⟨rfl,aK⟩;have bI:=aa (ae aG aK);have fN:=aa (af aK h2);have jb:=aa (af aK h3);have jF:=aa (af aK h4);have TH:=aa (HT.o.up (ae aG aK));have fZ:=aD jF.o;have t2:=ab fN.o;have t4:=ab jF.o;have z4:=aH jF.o;clear aG h2 h3 h4 aK qG;by_cases Q4:0<=ix
 ·have HE:am (pv=(tab,ix.toNat)/\ix<tab.length):=aa (by rcases JG.o with h|h;omega;exact h.2);have hd:decide (ix ≥ 0)=true:=decide_eq_true Q4;have fw:decide (0<=ix)=true:=decide_eq_true Q4
  go_wp2_with fail
  have bU:((w1.setCell ⟨w.heap.size+1+1,0,none⟩ (.int .i64 n)).setCell ⟨w.heap.size+1+1,1,none⟩ (.slice pt tab.length ct)).heap[w.heap.size+1+1]?=some (.cells #[.int .i64 n,.slice pt tab.length ct] 32):=(aI (aI jF.o _ _) _ _).trans rfl;have e1:=HE.o.1;subst e1;refine bodyPost_ret (AK _ (w.heap.size+1+1) _ n ix _ rfl rfl bU) rfl ⟨⟨.slice pt tab.length ct,?_,?_⟩,(bI.o.setCell (by dsimp only;omega) _).setCell (by dsimp only;omega) _⟩
  ·dsimp only;rw[Int.toNat_of_nonneg Q4]
  ·have bK:∀ g,(Value.slice pt tab.length ct).ownBlock=some g->g≠w.heap.size+1+1:=fun g hg=>by have:=(HT.o.lt g hg).2;omega
   exact(TH.o.put bK _ _).put bK _ _
 ·have HE:am (pv=(tab++[v],tab.length)):=aa (by rcases JG.o with h|h;exact h.2;omega);have hd:decide (ix ≥ 0)=false:=decide_eq_false Q4;have fw:decide (0<=ix)=false:=decide_eq_false Q4
  go_wp2_with fail
  refine bC (fun W=>Below w1.heap.size w1 W/\W.heap[w1.heap.size]?=some (.cells #[.int .i64 n,.slice none 0 0] 32)) ⟨by go_grown,ap _ _⟩ (fun W1 cM=>?_);have gN:=aa cM.1;have DK:=aa cM.2;have xX:=aD cM.2;have fN:=aa (af cM.1 fN.o);have jb:=aa (af cM.1 jb.o);have jF:=aa (af cM.1 jF.o);have uA:=aa (TH.o.up cM.1);have hsW:=cM.1.size;have dz:=aa (ae bI.o cM.1);clear cM TH JG t2 t4 z4;obtain⟨b2,aT⟩:∃ b2,w.heap.size=b2:=⟨_,rfl⟩;obtain⟨b3,bG⟩:∃ b3,w.heap.size+1=b3:=⟨_,rfl⟩;obtain⟨b7,xV⟩:∃ b7,w1.heap.size=b7:=⟨_,rfl⟩;rw[bG]at jb;rw[aT]at fN;rw[xV]at DK ⊢;rw[aT,show b2+1=b3 by omega];have hS:List.Nodup [18,19,20,21,22,23,24]:=by decide
  refine gk 7 [18,19,20,21,22,23,24] [MP.eq (.pointer (some ⟨b7,1,none⟩)),MP.eq (.slice none 0 0),MP.eq (.pointer (some ⟨b2,1,none⟩)),MP.eq (.slice pt tab.length ct),YP W1.heap.size tab,MP.eq (v.v),YV W1.heap.size v] (by kernel_rfl) (by simp) hS rfl (by kernel_rfl) (by kernel_rfl) (by kernel_rfl) ?step ?tail
  case step=>
   intro xq Wq iq oq sq F hi ho hs hB aq hF;rcases (show iq=0\/iq=1\/iq=2\/iq=3\/iq=4\/iq=5\/iq=6 by omega) with rfl|rfl|rfl|rfl|rfl|rfl|rfl
   all_goals (obtain rfl:=dy ho.symm;obtain rfl:=dy hs.symm;clear hi ho hs)
   ·obtain⟨g7,h7⟩:=cJ hF 7 (.pointer (some ⟨b7,0,none⟩)) (by decide) rfl;clear hF aq
    go_wp2_with fail
    exact bh.mk _ (Below.refl _ _) rfl rfl
   ·obtain⟨e0,f0⟩:=aS hF 0 18 _ hS rfl (by kernel_rfl) (aq ⟨0,.data⟩ (by simp) rfl);have tb:=ab (af hB DK.o) 1;simp at tb;clear hF aq
    go_wp2_with fail
    exact bh.mk _ (Below.refl _ _) rfl rfl
   ·obtain⟨g2,h2⟩:=cJ hF 2 (.pointer (some ⟨b2,0,none⟩)) (by decide) rfl;clear hF aq
    go_wp2_with fail
    exact bh.mk _ (Below.refl _ _) rfl rfl
   ·obtain⟨e2,f2⟩:=aS hF 2 20 _ hS rfl (by kernel_rfl) (aq ⟨2,.data⟩ (by simp) rfl);have tb:=ab (af hB fN.o) 1;simp at tb;clear hF aq
    go_wp2_with fail
    exact bh.mk _ (Below.refl _ _) rfl rfl
   ·obtain⟨e1,f1⟩:=aS hF 1 19 _ hS rfl (by kernel_rfl) (aq ⟨1,.data⟩ (by simp) rfl);obtain⟨e3,f3⟩:=aS hF 3 21 _ hS rfl (by kernel_rfl) (aq ⟨3,.data⟩ (by simp) rfl);have HRK:=aa ((uA.o.up hB).rawK (FD tab));have HBSz:=aa (hB.size);clear hF aq;refine ld _ rfl (.tmp 19) (.tmp 21) 30 rfl W1.heap.size 190 i0 _ 8 64 Tryz.underlying30 cB.o.1 cB.o.2.1 cB.o.2.2.1 cB.o.2.2.2 rfl (by decide) _ 0 [] (by first|exact e1|exact f1) (aJ.nil _ _ _ _) _ tab.length (fe tab) (by first|exact e3|exact f3) HRK.o HMX0.o HBY0.o HBSz.o ?_;intro v9 w9 jJ Bl Ke;have ny:=aa jJ;have Q5:=aa (Below.grown (Below.refl Wq.heap.size Wq) Bl (Nat.le_refl _) (fun g hg=>by cases hg));clear jJ Bl Ke;exact bh.mk _ Q5.o (by have h:=ny.o;rw[Nat.zero_add,List.nil_append]at h;exact h) rfl
   ·obtain⟨g3,h3⟩:=cJ hF 3 (.pointer (some ⟨b3,0,none⟩)) (by decide) rfl;have tb:=ab (af hB jb.o);clear hF aq
    go_wp2_with fail
    exact bh.mk _ (Below.refl _ _) rfl rfl
   ·obtain⟨e5,f5⟩:=aS hF 5 23 _ hS rfl (by kernel_rfl) (aq ⟨5,.data⟩ (by simp) rfl);clear hF aq
    go_wp2_with fail
    exact bh.mk _ (by go_grown) ⟨_,rfl,hB.size,ap _ _⟩ rfl
  case tail=>
   clear hS;intro xq Wq F hB aU hF;have d4:aJ Wq W1.heap.size 190 8 (xq 4) tab.length (fe tab):=aU 4 (by omega);obtain⟨bn,e6,hbn1,hbn2⟩:∃ b,xq 6=.slice (some ⟨b,0,none⟩) 1 1/\W1.heap.size<=b/\Wq.heap[b]?=some (.cells v.c 190):=aU 6 (by omega);clear aU;obtain⟨a4,c4,e4⟩:=d4.slice;rw[e4]at d4;simp only[bA,cW,List.setIfInBounds_toArray,List.set_cons_succ,List.set_cons_zero,Nat.reduceAdd]at hF;rw[e4,e6]at hF;generalize xq 0=s0,xq 1=s1,xq 2=s2,xq 3=s3,xq 5=s5 at hF;subst hF;have zS:=aa d4;have HBq:=aa hB
   have bF:am (∀ j u,v.c.toList[j]?=some u->Wq.cell? (Addr.add ⟨bn,0,none⟩ j)=some u):=aa (fun j u hj=>by
    have:(Addr.add ⟨bn,0,none⟩ j)=⟨bn,j,none⟩:=by unfold Addr.add;split<;>simp_all
    rw[this,ab hbn2]
    simpa using hj)
   have HBSq:am (W1.heap.size<=Wq.heap.size):=aa hB.size;have hX7:=af hB DK.o;have Tj:=aa hX7;have HX2q:=aa (af hB fN.o);have HX4q:=aa (af hB jF.o);have hsq:=hB.size;clear d4 e4 e6 hB hbn2 hX7;simp only[List.drop_succ_cons,List.drop_zero]
   go_wp2_with (at_builtin;(refine bg _ rfl (.tmp 22) (.tmp 24) 30 rfl W1.heap.size 190 i0 _ 8 64 Tryz.underlying30 cB.o.1 cB.o.2.1 cB.o.2.2.1 cB.o.2.2.2 rfl (by decide) _ tab.length _ rfl zS.o ⟨bn,0,none⟩ 1 1 v.c.toList rfl rfl bF.o (by simp[Value.oneCell']) HMX1.o HBY1.o HBSq.o ?_;intro v9 w9 gt eC Ke;obtain⟨av9,cv9,rfl⟩:=gt.slice;have By:=(eC.block b7 (aD Tj.o) (fun e=>zS.o.ne Tj.o (by decide) b7 e.symm rfl)).trans Tj.o;have c7:=ab By;have f7:=aH By))
   obtain⟨W3,mz⟩:∃ W3,W3=w9.setCell ⟨b7,1,none⟩ (.slice av9 (tab.length+1) cv9):=⟨_,rfl⟩;rw[<-mz];have h37:W3.heap[b7]?=some (.cells #[.int .i64 n,.slice av9 (tab.length+1) cv9] 32):=by rw[mz];exact(aI By _ _).trans rfl
   have iw:∀ k,k≠b7->k<Wq.heap.size->∀ c,Wq.heap[k]?=some (.cells c 32)->W3.heap[k]?=some (.cells c 32):=fun k h1 h2 c h3=>by
    rw[mz];exact aM ((eC.block k h2 (fun e=>zS.o.ne h3 (by decide) k e.symm rfl)).trans h3) h1 _ _
   have BA:=iw b2 (by omega) (aD HX2q.o) _ HX2q.o;have h34:=iw (w.heap.size+1+1) (by omega) (aD HX4q.o) _ HX4q.o
   have h3o:aJ W3 base 190 8 (.slice av9 (tab.length+1) cv9) (tab.length+1) (fe (tab++[v])):=by
    rw[mz,FC];have h:=(gt.base (show base<=W1.heap.size by omega)).put (gt.ne By (by decide)) 1 (.slice av9 (tab.length+1) cv9);exact h
   have Xb:Below w.heap.size w W3:=by
    rw[mz];exact(Below.grown (ae dz.o HBq.o) eC (by omega) (fun g hg=>by have:=(zS.o.lt g hg).1;omega)).setCell (p:=⟨b7,1,none⟩) (by dsimp only;omega) _
   clear mz gt eC Ke By c7 f7 iw;subst bG;subst aT;have nB:am (∀ x,PtR w base w.heap.size (w.heap.size+1+1) b7 n (.slice pt tab.length ct) (.slice av9 (tab.length+1) cv9) tab.length (tab.length+1) (fe (tab++[v])) (fun _=>false) x W3.drew):=aa (fun x=>⟨Xb.drew,h37,BA,h34,h3o.keep fun g o _ ho=>ho,by simp,by simp,by simp,by simp,by simp⟩);clear h37 BA h34 h3o Xb;have hS:List.Nodup [27,28,29,30,999,5]:=by decide
   refine pM 6 [27,28,29,30,999,5] (PtR w base w.heap.size (w.heap.size+1+1) b7 n (.slice pt tab.length ct) (.slice av9 (tab.length+1) cv9) tab.length (tab.length+1) (fe (tab++[v]))) (by kernel_rfl) rfl hS (by kernel_rfl) nB.o ?step6 ?free6 ?last6
   case free6=>
    intro x W D i o F ho h6 h8;simp at h6;omega
   case step6=>
    intro x W D i o s' F ho vM hD aq hc hF;have hi:i<6:=(List.getElem?_eq_some_iff.1 vM).1;have CC2:=ab hc.r2;have CC7:=ab hc.r7;simp only[bA,cW,List.setIfInBounds_toArray,List.set_cons_succ,List.set_cons_zero,List.set_nil,Nat.reduceAdd]at hF;rcases (show i=0\/i=1\/i=2\/i=3\/i=4\/i=5 by omega) with rfl|rfl|rfl|rfl|rfl|rfl
    all_goals (obtain rfl:=dy ho.symm;obtain rfl:=dy vM.symm;clear hi ho vM)
    ·subst hF;clear aq
     go_wp2_with fail
     exact dC.mk (.agg #[.int .i64 n,.slice av9 (tab.length+1) cv9]) (hc.set 0 (by omega) _ ⟨fun _=>rfl,by omega,by omega,by omega⟩) rfl
    ·subst hF;clear aq
     go_wp2_with fail
     exact dC.mk (.pointer (some ⟨w.heap.size,1,none⟩)) (hc.set 1 (by omega) _ ⟨by omega,fun _=>rfl,by omega,by omega⟩) rfl
    ·have e1:=hc.v1 (aq ⟨1,.data⟩ (by simp) rfl);rw[e1]at hF;subst hF;clear aq
     go_wp2_with fail
     exact dC.mk (.slice pt tab.length ct) (hc.set 2 (by omega) _ ⟨by omega,by omega,fun _=>rfl,by omega⟩) rfl
    ·have e1:=hc.v2 (aq ⟨2,.data⟩ (by simp) rfl);rw[e1]at hF;subst hF;clear aq
     go_wp2_with fail
     exact dC.mk (.int .i64 tab.length) (hc.set 3 (by omega) _ ⟨by omega,by omega,by omega,fun _=>rfl⟩) rfl
    ·have e0:=hc.v0 (aq ⟨0,.data⟩ (by simp) rfl);rw[e0]at hF;subst hF;have g3:=hc.r4;rw[hD]at g3;refine wpList_store_row rfl 32 (.tmp 4) (.tmp 27) rfl (w.heap.size+1+1) #[.int .i64 n,.slice av9 (tab.length+1) cv9] rfl rfl 32 _ g3 (by kernel_rfl) rfl (by simp[Value.oneCell']) ?_;exact dC.mk undef (hc.store (by omega) (by omega) (by omega) undef) rfl
    ·have e1:=hc.v3 (aq ⟨3,.data⟩ (by simp) rfl);rw[e1]at hF;subst hF;clear aq
     go_wp2_with fail
     exact dC.mk (.int .i64 tab.length) (hc.set 5 (by omega) _ ⟨by omega,by omega,by omega,fun _=>rfl⟩) rfl
   case last6=>
    intro x W3' D F aU hc hF;have e5:=hc.v5 (aU 5 (by omega));have h4:=hc.r4;rw[aU 4 (by omega)]at h4;have h4:W3'.heap[w.heap.size+1+1]?=some (.cells #[.int .i64 n,.slice av9 (tab.length+1) cv9] 32):=h4;simp only[bA,cW,List.setIfInBounds_toArray,List.set_cons_succ,List.set_cons_zero,List.set_nil,Nat.reduceAdd]at hF;rw[e5]at hF;generalize x 0=y0,x 1=y1,x 2=y2,x 3=y3 at hF;subst hF;have HH4:=aa h4;have TY:=aa hc.old;have sh:=aa hc.own;clear aU hc h4 hS nB
    go_wp2_with fail
    have e1:=HE.o;subst e1;refine bodyPost_ret (AK _ (w.heap.size+1+1) _ n tab.length _ rfl rfl HH4.o) rfl ⟨⟨_,rfl,?_⟩,TY.o⟩;rw[show (tab++[v]).length=tab.length+1 by simp];exact sh.o
end Go.Proofs.YtmeaoneaephjeaaGreatDoor
