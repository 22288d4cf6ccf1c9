/-
  A part of the proof: lemmas and contracts that the parts behind it use. Each one's conditions are its own premises.
-/
import Derived.Shelf.SlSortCmp.QuietGrown
import Derived.Test.YtkfgpnbpcpdclaaGreatJ8
set_option maxRecDepth 100000
set_option maxHeartbeats 8000000
set_option linter.unusedVariables false
namespace Go.Proofs.YtkfgpnbpcpdclaaGreat
open Go.RowKit Go Go.Shelf
attribute [local go_sem] Oper.semAt_some
theorem KeepT.grownNew{ts:List TypeId} {ms:List Nat} {base:Nat} {w w' w'':World} {row:Option Nat} (h:KeepT ts ms base w w') (hs:base<=w.heap.size) (hr:∀ g,row=some g->w.heap.size<=g) (hg:w'.grownBy w'' row):KeepT ts ms base w w'':=by
 refine⟨Below.grown h.old hg (Nat.le_trans hs h.old.size) (fun g e=>Nat.le_trans hs (hr g e)),fun j c t f h1 h2=>?_,fun j o h1 h2 h3=>?_⟩
 ·have h3:=h.keep j c t f h1 h2
  exact(hg.block j (aB h3) (fun e'=>by have:=hr j e'.symm;have:=aB h1;omega)).trans h3
 ·have h4:=h.oth j o h1 h2 h3
  exact(hg.block j (aB h4) (fun e'=>by have:=hr j e'.symm;have:=aB h1;omega)).trans h4
theorem KeepT.setNew{ts:List TypeId} {ms:List Nat} {base:Nat} {w w':World} {B o:Nat} (h:KeepT ts ms base w w') (hs:base<=w.heap.size) (hb:w.heap.size<=B) (v:Value):KeepT ts ms base w (w'.setCell ⟨B,o,none⟩ v):=by
 refine⟨h.old.setCell (Nat.le_trans hs hb) v,fun j c' t' f' h1 h2=>aI (h.keep j c' t' f' h1 h2) ?_ o v,fun j o' h1 h2 h3=>aI (h.oth j o' h1 h2 h3) ?_ o v⟩
 ·have:=aB h1
  omega
 ·have:=aB h1
  omega
theorem BldIs.set{base b mb n:Nat} {tab:List Vw} {W:World} {B o:Nat} {c:Array Value} {t:TypeId} {f:Nat × Nat} (h:BldIs base b mb n tab W) (hB:W.heap[B]?=some (.cells c t f)) (ht:t∉bldT) (v:Value):BldIs base b mb n tab (W.setCell ⟨B,o,none⟩ v):=by
 obtain⟨vs,h1,h2,h3,es,ck,p1,p2⟩:=h.ex;refine⟨h.lo,vs,aI h1 (fun e=>?_) _ _,h2,h3.put (fun g e=>h3.ne hB (fun e=>ht (by simp[<-e])) g e) _ _,es,ck,aI p1 (fun e=>?_) _ _,p2⟩
 ·rw[<-e,h1]at hB;cases hB;exact ht (by simp)
 ·rw[<-e,p1]at hB;cases hB
theorem BldIs.grown{base b mb n:Nat} {tab:List Vw} {W W':World} {e:TypeId} {b' k m:Nat} {u:Value} {xs:List Value} (h:BldIs base b mb n tab W) (ho:aL W b' e k u m xs) (he:e∉bldT) (hg:W.grownBy W' u.ownBlock):BldIs base b mb n tab W':=by
 obtain⟨vs,h1,h2,h3,es,ck,p1,p2⟩:=h.ex;refine⟨h.lo,vs,gB hg h1 (fun e'=>ho.ne h1 (fun e=>he (by simp[e])) b e' rfl),h2,h3.keepT fun g o e1 e2=>gB hg e2 (fun e'=>?_),es,ck,gB hg p1 (fun e'=>ho.isCells p1 rfl e'.symm),p2⟩;rcases h3.2 with ⟨rfl,_⟩|⟨g',cap,cur,fz,rfl,_,q3,_⟩
 ·cases e1
 ·cases e1
  exact ho.ne q3 (fun e=>he (by simp[e])) _ e' rfl
theorem KeepT.below9{ts us:List TypeId} {ms ns:List Nat} {w0 w w1 w2:World} (h0:Below w0.heap.size w0 w) (h1:KeepT ts ms w0.heap.size w w1) (h2:KeepT us ns w0.heap.size w1 w2):Below w0.heap.size w0 w2:=
 ⟨(h2.old.os.trans h1.old.os).trans h0.os,(h2.old.tape.trans h1.old.tape).trans h0.tape,(h2.old.output.trans h1.old.output).trans h0.output,Nat.le_trans h0.size (Nat.le_trans h1.old.size h2.old.size),fun k hk=>((h2.old.block k hk).trans (h1.old.block k hk)).trans (h0.block k hk)⟩
def mn(n:Nat) (l:List Int):Array Value:=((List.range n).map fun j=>Value.int .i64 (l.getD j 0)).toArray
theorem xk(n:Nat) (l:List Int):(mn n l).size=n:=by simp[mn]
theorem uX(n:Nat) (l:List Int) (j:Nat) (h:j<n):(mn n l)[j]?=some (.int .i64 (l.getD j 0)):=by simp[mn,h]
theorem Hq(n:Nat):mn n []=fC n (fun _=>0) 0:=by
 unfold mn fC;simp
theorem Hr(n:Nat) (l:List Int) (z:Int) (h:l.length<n):(mn n l).setIfInBounds l.length (.int .i64 z)=mn n (l++[z]):=by
 apply Array.ext_getElem?;intro j;rw[Array.getElem?_setIfInBounds];by_cases hj:j<n
 ·rw[uX _ _ _ hj,uX _ _ _ hj]
  by_cases e:l.length=j
  ·subst e
   rw[if_pos rfl,if_pos (by rw[xk];exact hj)];simp
  ·rw[if_neg e]
   by_cases h2:j<l.length
   ·simp[List.getD_eq_getElem?_getD,List.getElem?_append_left h2]
   ·rw[List.getD_eq_getElem?_getD,List.getD_eq_getElem?_getD,List.getElem?_eq_none (by omega),List.getElem?_eq_none (by simp;omega)]
 ·have h1:(mn n l)[j]?=none:=by rw[Array.getElem?_eq_none];rw[xk];omega
  have h2:(mn n (l++[z]))[j]?=none:=by rw[Array.getElem?_eq_none];rw[xk];omega
  rw[h1,h2,if_neg (by omega)]
theorem Hs(l:List Int):mn l.length l=dA l:=by
 unfold mn dA;congr 1;apply List.ext_getElem (by simp);intro i h1 h2;simp at h1;simp[List.getD_eq_getElem?_getD,h1]
structure PCore (base b mb n:Nat) (tab tab':List Vw) (k:Nat) (Wr:World) (D:Nat->Bool) (x:Nat->Value) (W:World):Prop where
 lo:base<=Wr.heap.size
 keep:KeepT bldT [mb] base Wr W
 bld:BldIs base b mb n (bif D k then tab' else tab) W
section
variable {base b mb n k : Nat} {tab tab' : List Vw} {Wr : World} {D : Nat → Bool} {x : Nat → Value} {W : World}
theorem PCore.other(h:PCore base b mb n tab tab' k Wr D x W) {i:Nat} (u:Value) (hi:k≠i):PCore base b mb n tab tab' k Wr (bB D i) (cF x i u) W:=
 ⟨h.lo,h.keep,by simpa only[bB,if_neg hi] using h.bld⟩
theorem PCore.grow(h:PCore base b mb n tab tab' k Wr D x W) {W':World} (hb:Below W.heap.size W W'):PCore base b mb n tab tab' k Wr D x W':=⟨h.lo,h.keep.trans (.of_below _ hb (Nat.le_trans h.lo h.keep.old.size)),h.bld.up hb⟩
theorem PCore.put(h:PCore base b mb n tab tab' k Wr D x W) {W':World} (u:Value) (hk:KeepT bldT [mb] base W W') (hb:BldIs base b mb n tab' W'):PCore base b mb n tab tab' k Wr (bB D k) (cF x k u) W':=⟨h.lo,h.keep.trans hk,by simpa[bB] using hb⟩
end
abbrev gC(inp:List Int) (n:Nat):List Vw:=(List.range n).map (fL inp)
abbrev fX(n k:Nat) (r:Rd) (now:List Int):List Vw:=(List.range n).map (nextV n k r now)
theorem Ht{α:Type} (n:Nat) (f:Nat->α) (i:Nat) (h:i<((List.range n).map f).length):((List.range n).map f)[i]=f i:=by simp
theorem lX(n:Nat) (inp:List Int) (word:List Rd) (tb:List Vw):∀ k,(playTo n inp word tb k).2.length=k+1/\((playTo n inp word tb k).2.getLastD []).length=n/\(playTo n inp word tb k).1.length<=tb.length+n * (k+1)
 | 0=>by
  have h:=jl (gC inp n) (tb,[]);change (addAll tb (gC inp n)).2.length=_/\(addAll tb (gC inp n)).1.length<=_ at h;simp only[List.length_nil,List.length_map,List.length_range,Nat.zero_add]at h;exact⟨rfl,h.1,by have:=h.2;show (addAll tb (gC inp n)).1.length<=_;omega⟩
 | k+1=>by
  have ih:=lX n inp word tb k;have h:=jl (fX n k (word.getD k default) ((playTo n inp word tb k).2.getLastD [])) ((playTo n inp word tb k).1,[]);change (addAll (playTo n inp word tb k).1 _).2.length=_/\(addAll (playTo n inp word tb k).1 _).1.length<=_ at h;simp only[List.length_nil,List.length_map,List.length_range,Nat.zero_add]at h;have e:(playTo n inp word tb (k+1)).2=(playTo n inp word tb k).2++[(addAll (playTo n inp word tb k).1 (fX n k (word.getD k default) ((playTo n inp word tb k).2.getLastD []))).2]:=rfl;rw[e];refine⟨by rw[List.length_append,ih.1];rfl,?_,?_⟩
  ·rw[List.getLastD_concat];exact h.1
  ·have:n * (k+1+1)=n * (k+1)+n:=Nat.mul_succ n (k+1)
   show (addAll (playTo n inp word tb k).1 (fX n k (word.getD k default) ((playTo n inp word tb k).2.getLastD []))).1.length<=_
   omega
def xl(n k:Nat) (r:Rd) (now:List Int) (p q:Nat):Vw:=
 let g:=fun j=>if j<q/\cS (r.g.hear p) j=true then now.getD j 0 else -1
 ⟨p,k+1,0,g 0,g 1,g 2,g 3,g 4⟩
theorem TJ(n k:Nat) (r:Rd) (now:List Int) (p:Nat):xl n k r now p n=nextV n k r now p:=rfl
theorem QH(n k:Nat) (r:Rd) (now:List Int) (p:Nat):xl n k r now p 0=⟨p,k+1,0,-1,-1,-1,-1,-1⟩:=by simp[xl]
theorem TK(n k:Nat) (r:Rd) (now:List Int) (p q:Nat) (h:cS (r.g.hear p) q=false):xl n k r now p (q+1)=xl n k r now p q:=by
 have key:∀ j,(if j<q+1/\cS (r.g.hear p) j=true then now.getD j 0 else -1)=if j<q/\cS (r.g.hear p) j=true then now.getD j 0 else -1:=fun j=>by
  by_cases e:j=q
  ·subst e;simp[h]
  ·have:j<q+1↔j<q:=by omega
   simp only[this]
 simp only[xl,key]
theorem TL(n k:Nat) (r:Rd) (now:List Int) (p q:Nat) (hq:q<5) (h:cS (r.g.hear p) q=true):(xl n k r now p q).c.setIfInBounds (3+q) (.int .i64 (now.getD q 0))=(xl n k r now p (q+1)).c:=by
 have:q=0\/q=1\/q=2\/q=3\/q=4:=by omega
 rcases this with e|e|e|e|e<;>subst e<;>simp[xl,h]
theorem LT(r:Rd) (k:Nat) (hk:k<5) (w:World) (B:Nat) (t:TypeId) (hw:w.heap[B]?=some (.cells r.c t)):w.cell? ⟨B,1+k,none⟩=some (.int .i64 (r.g.hear k)):=by
 have:k=0\/k=1\/k=2\/k=3\/k=4:=by omega
 rcases this with h|h|h|h|h<;>subst h<;>simp[World.cell?,hw,Gr.hear]
theorem Ko{W:World} {base B n:Nat} {l:List Int} (h:W.heap[B]?=some (.cells (dA l) 3)) (hl:l.length=n) (hb:base<=B) (hn:n<=256):aL W base 3 1 (.slice (some ⟨B,0,none⟩) n n) n (l.map (Value.int .i64)):=
 ⟨by simp[hl],.inr ⟨B,n,_,(0,0),rfl,hb,h,fun i _ h=>by have:=h.2;simp at this,Nat.le_refl _,by unfold maxLen;omega,by simp[dA,hl],by simp only[dA];rw[Nat.mul_one,List.take_of_length_le (by simp;omega)]⟩⟩
theorem NY(w0:World) (b mb n:Nat) (hn:n<=5) (tab:List Vw) (vi vw:Value) (inp:List Int) (word:List Rd) (w:World) (h0:Below w0.heap.size w0 w) (hi:aU w0 vi inp) (hw:bN w0 vw word) (dI:n<=inp.length) (qO:word.length<=6) (hl:tab.length+100<=100000) (hB:BldIs w0.heap.size b mb n tab w) :
  Calls Tryz.prog 64 #[.pointer (some ⟨b,0,none⟩),vi,vw] w fun e w'=>∃ u,e=.returned u/\dZ w' w.heap.size u (i8 n inp word tab).2/\BldIs w0.heap.size b mb n (i8 n inp word tab).1 w'/\KeepT bldT [mb] w0.heap.size w w':=by
 obtain⟨pi,ci,rfl,li1,li2,ei⟩:=hi.at;obtain⟨pw,cw,rfl,lw1,lw2,ew⟩:=hw.at;have EI:=aa ei;have EW:=aa ew;have HB:=aa hB;have H0:=aa h0;have dp:=h0.size;clear hi hw ei ew hB h0;obtain⟨vs,h1,_⟩:=HB.out.ex;have t1:=ae h1 0;simp at t1;have me:=nz (fun _=>0) n (by omega);clear h1
 go_enter Tryz.func64,Tryz.ntmps64
 go_wp2_with fail
 clear t1 me;refine bw (fun W=>KeepT bldT [mb] w0.heap.size w W/\BldIs w0.heap.size b mb n tab W/\W.heap[w.heap.size]?=some (.cells (mn n []) 3)) ⟨KeepT.of_below _ (by go_grown) dp,HB.out.up (by go_grown),by rw[Hq];exact ar _ _⟩ (fun W0 bd=>?_);obtain⟨gW,aH,vY⟩:=bd
 go_loopw [24] (fun i wr=>∃ q:Nat,q<=n/\i=.int .i64 q/\KeepT bldT [mb] w0.heap.size w wr/\BldIs w0.heap.size b mb n (addAll tab ((gC inp n).take q)).1 wr/\wr.heap[w.heap.size]?=some (.cells (mn n (addAll tab ((gC inp n).take q)).2) 3)) (fun i _=>n - (intOf i).toNat)
 case atStart=>exact⟨0,by omega,rfl,gW,aH,vY⟩
 case round=>
  clear gW aH vY;obtain⟨q,hq,rfl,hk,hb,hr⟩:=hrel;by_cases aF:q<n
  ·have gO:=aa (yO tab (gC inp n) q (by simpa using aF))
   have cZ:=(jl ((gC inp n).take q) (tab,[])).1;have vC:=(jl ((gC inp n).take q) (tab,[])).2;have xT:((gC inp n).take q).length=q:=by simp;omega
   rw[Ht]at gO;change (addAll tab ((gC inp n).take q)).2.length=_ at cZ;change (addAll tab ((gC inp n).take q)).1.length<=_ at vC;simp only[List.length_nil,xT,Nat.zero_add]at cZ vC;obtain⟨b1,o1,rfl,hx⟩:=EI.out q (by omega);have HX:=aa hx.1;have Fi:=aa hk;have FT:=aa hb;have Kx:=aa hr;have O1:=hk.old.size;rw[Nat.mul_one]at HX;have UM:Hid (fL inp q=⟨q,0,inp[q],-1,-1,-1,-1,-1⟩):=aa (by unfold fL;rw[aA 0 (by omega)]);generalize inp[q]=y at HX UM;clear hx hk hb hr xT;generalize (addAll tab ((gC inp n).take q))=st at gO cZ vC FT Kx
   go_wp2_with fail
   refine m' 11 [27,28,29,30,31,32,33,34,35,36,37] [some (.slice (some ⟨w.heap.size,0,none⟩) n n),
    some (.int .i64 q),
    some (.pointer (some ⟨b,0,none⟩)),
    some (.int .i64 q),
    some (.slice (some ⟨b1,o1,none⟩) inp.length ci),
    some (.int .i64 q),
    some (.pointer (some ⟨b1,o1+q,none⟩)),
    some (.int .i64 y),
    some (silV),
    some ((fL inp q).v),
    some (.int .i64 ((lc st.1 (fL inp q)).2:Nat))] (PCore w0.heap.size b mb n st.1 (lc st.1 (fL inp q)).1 10 wr) (by kernel_rfl) rfl (by decide) rfl (by kernel_rfl) (by kernel_rfl) (by kernel_rfl) (fun _=>⟨by omega,(KeepT.refl _ _ _).drew,FT.out.up (Below.refl _ _).drew⟩) ?step ?tail
   case step=>
    intro x W D i o s F hi ho hs hD cN bW al hv az hF;have bY:i=0\/i=1\/i=2\/i=3\/i=4\/i=5\/i=6\/i=7\/i=8\/i=9\/i=10:=by omega
    rcases bY with rfl|rfl|rfl|rfl|rfl|rfl|rfl|rfl|rfl|rfl|rfl
    all_goals (have bv:=cN _ _ hs hD;obtain rfl:=cO ho.symm;obtain rfl:=cO hs.symm)
    ·clear al hi hv
     have e7:F.getD 7 undef=.slice (some ⟨w.heap.size,0,none⟩) n n:=eJ hF (by decide) rfl;clear cN bW;clear hF bv;have e7':=br e7;have HD:=aa hD;have ap:=aa az;clear hD az
     go_wp2_with fail
     refine aR.mk _ cD ?_ rfl;exact ap.out.other _ (by decide)
    ·clear al hi hv
     have e8:F.getD 8 undef=.int .i64 q:=eJ hF (by decide) rfl;clear cN bW;clear hF bv;have e8':=br e8;have HD:=aa hD;have ap:=aa az;clear hD az
     go_wp2_with fail
     refine aR.mk _ cD ?_ rfl;exact ap.out.other _ (by decide)
    ·clear al hi hv
     have e0:F.getD 0 undef=.pointer (some ⟨b,0,none⟩):=eJ hF (by decide) rfl;clear cN bW;clear hF bv;have e0':=br e0;have HD:=aa hD;have ap:=aa az;clear hD az
     go_wp2_with fail
     refine aR.mk _ cD ?_ rfl;exact ap.out.other _ (by decide)
    ·clear al hi hv
     have e8:F.getD 8 undef=.int .i64 q:=eJ hF (by decide) rfl;clear cN bW;clear hF bv;have e8':=br e8;have HD:=aa hD;have ap:=aa az;clear hD az
     go_wp2_with fail
     refine aR.mk _ cD ?_ rfl;exact ap.out.other _ (by decide)
    ·clear al hi hv
     have e1:F.getD 1 undef=.slice (some ⟨b1,o1,none⟩) inp.length ci:=eJ hF (by decide) rfl;clear cN bW;clear hF bv;have e1':=br e1;have HD:=aa hD;have ap:=aa az;clear hD az
     go_wp2_with fail
     refine aR.mk _ cD ?_ rfl;exact ap.out.other _ (by decide)
    ·clear al hi hv
     have e8:F.getD 8 undef=.int .i64 q:=eJ hF (by decide) rfl;clear cN bW;clear hF bv;have e8':=br e8;have HD:=aa hD;have ap:=aa az;clear hD az
     go_wp2_with fail
     refine aR.mk _ cD ?_ rfl;exact ap.out.other _ (by decide)
    ·have g4:=al ⟨4,.data⟩ (by simp) rfl
     have d4:=hv 4 _ (by omega) g4 rfl;have g5:=al ⟨5,.data⟩ (by simp) rfl;have d5:=hv 5 _ (by omega) g5 rfl;clear al hi hv;have e31:=bT hF 4 31 (by decide) rfl (by kernel_rfl) d4;have e32:=bT hF 5 32 (by decide) rfl (by kernel_rfl) d5;clear cN bW;clear hF bv d4 d5;have e31':=br e31;have e32':=br e32;have HD:=aa hD;have ap:=aa az;clear hD az;clear g4;clear g5
     go_wp2_with fail
     refine aR.mk _ cD ?_ rfl;exact ap.out.other _ (by decide)
    ·have g6:=al ⟨6,.data⟩ (by simp) rfl
     have d6:=hv 6 _ (by omega) g6 rfl;clear al hi hv;have e33:=bT hF 6 33 (by decide) rfl (by kernel_rfl) d6;clear cN bW;clear hF bv d6;have t1:=ay (KeepT.below9 H0.out Fi.out az.keep) HX.out;have e33':=br e33;have HD:=aa hD;have ap:=aa az;clear hD az;clear g6
     go_wp2_with fail
     refine aR.mk _ cD ?_ rfl;exact ap.out.other _ (by decide)
    ·clear al hi hv
     clear cN bW;clear hF bv;have HD:=aa hD;have ap:=aa az;clear hD az
     go_wp2_with fail
     refine(zm W).mono ?_;rintro e w9 ⟨rfl,eA⟩
     go_wp2_with fail
     refine aR.mk _ cD ?_ rfl;exact(ap.out.grow eA).other _ (by decide)
    ·have g3:=al ⟨3,.data⟩ (by simp) rfl
     have d3:=hv 3 _ (by omega) g3 rfl;have g7:=al ⟨7,.data⟩ (by simp) rfl;have d7:=hv 7 _ (by omega) g7 rfl;have g8:=al ⟨8,.data⟩ (by simp) rfl;have d8:=hv 8 _ (by omega) g8 rfl;clear al hi hv;have e30:=bT hF 3 30 (by decide) rfl (by kernel_rfl) d3;have e34:=bT hF 7 34 (by decide) rfl (by kernel_rfl) d7;have e35:=bT hF 8 35 (by decide) rfl (by kernel_rfl) d8;clear cN bW;clear hF bv d3 d7 d8;have HFV9:=UM;have e30':=br e30;have e34':=br e34;have e35':=br e35;have HD:=aa hD;have ap:=aa az;clear hD az;clear g3;clear g7;clear g8
     go_wp2_with fail
     refine aR.mk _ (fun c hc=>by rw[<-cO hc,UM.out]) ?_ rfl;exact ap.out.other _ (by decide)
    ·have g2:=al ⟨2,.data⟩ (by simp) rfl
     have d2:=hv 2 _ (by omega) g2 rfl;have g9:=al ⟨9,.data⟩ (by simp) rfl;have d9:=hv 9 _ (by omega) g9 rfl;clear al hi hv;have e29:=bT hF 2 29 (by decide) rfl (by kernel_rfl) d2;have e36:=bT hF 9 36 (by decide) rfl (by kernel_rfl) d9;clear cN bW;clear hF bv d2 d9;have fh:=az.bld;rw[hD]at fh;have kh:=aa (show BldIs w0.heap.size b mb n st.1 W from fh);clear fh;have e29':=br e29;have e36':=br e36;have HD:=aa hD;have ap:=aa az;clear hD az;clear g2;clear g9
     go_wp2_with fail
     refine(Km w0.heap.size b mb n st.1 (fL inp q) W kh.out (by omega)).mono ?_;rintro e w9 ⟨rfl,eA,Pa⟩;have gP:=aa eA;have mI:=aa Pa;clear eA Pa
     go_wp2_with fail
     refine aR.mk _ cD ?_ rfl;exact ap.out.put _ mI.out gP.out
   case tail=>
    intro x W' D F aM hv az hF;have x0:=hv 0 _ (by omega) rfl;have x1:=hv 1 _ (by omega) rfl;have x2:=hv 2 _ (by omega) rfl;have x3:=hv 3 _ (by omega) rfl;have x4:=hv 4 _ (by omega) rfl;have x5:=hv 5 _ (by omega) rfl;have x6:=hv 6 _ (by omega) rfl;have x7:=hv 7 _ (by omega) rfl;have x8:=hv 8 _ (by omega) rfl;have x9:=hv 9 _ (by omega) rfl;have x10:=hv 10 _ (by omega) rfl;have fh:=az.bld;rw[aM 10 (by omega)]at fh;have kh:=aa (show BldIs w0.heap.size b mb n (lc st.1 (fL inp q)).1 W' from fh);have mI:=aa az.keep;have bL:=mI.out.keep _ _ _ _ Kx.out (by decide);have lP:=aa bL;have z1:=aD bL q;have c1:=ae bL q;rw[uX _ _ _ aF]at c1;have hltI:(q:Int)<(n:Int):=by omega
    simp only[bg,bQ,List.setIfInBounds_toArray,List.set_cons_succ,List.set_cons_zero,Nat.reduceAdd,x0,x1,x2,x3,x4,x5,x6,x7,x8,x9,x10]at hF;subst hF;clear hv aM az fh bL x0 x1 x2 x3 x4 x5 x6 x7 x8 x9 x10;simp only[List.drop_succ_cons,List.drop_zero]
    go_wp2_with fail
    go_roundw
    case rel=>
     refine⟨q+1,by omega,by go_num,(Fi.out.trans mI.out).setNew dp (Nat.le_refl _) _,?_,?_⟩
     ·rw[gO.out]
      exact kh.out.set lP.out (by decide) _
     ·rw[gO.out,aE lP.out]
      have:=Hr n st.2 ((lc st.1 (fL inp q)).2:Nat) (by omega);rw[cZ]at this;rw[this];rfl
    case measure=>simp[intOf];omega
  ·obtain rfl:q=n:=by omega
   have aM:=jl (gC inp q) (tab,[]);change (addAll tab (gC inp q)).2.length=_/\(addAll tab (gC inp q)).1.length<=_ at aM;simp only[List.length_nil,List.length_map,List.length_range,Nat.zero_add]at aM;rw[List.take_of_length_le (by simp)]at hb hr
   have Ws:wr.heap[w.heap.size]?=some (.cells (dA (addAll tab (gC inp q)).2) 3):=by
    rw[hr,<-Hs,aM.1]
   have Fi:=aa hk;have FT:=aa hb;have Kx:=aa Ws;have lO:=aa aM;have O1:=hk.old.size;clear hk hb hr Ws aM
   go_wp2_with fail
   refine bw (fun W=>KeepT bldT [mb] w0.heap.size w W/\BldIs w0.heap.size b mb q (playTo q inp word tab 0).1 W/\dZ W w.heap.size (.slice (some ⟨wr.heap.size,0,none⟩) 1 1) (playTo q inp word tab 0).2/\W.heap[w.heap.size]?=some (.cells (dA ((playTo q inp word tab 0).2.getLastD [])) 3))
    ⟨Fi.out.trans (.of_below _ (by go_grown) (by omega)),FT.out.up (by go_grown),⟨[.slice (some ⟨w.heap.size,0,none⟩) q q],⟨by simp[playTo],.inr ⟨wr.heap.size,1,_,(0,0),rfl,by omega,ar _ _,fun i _ h=>by have:=h.2;simp at this,by simp[playTo],by unfold maxLen;omega,by simp,by simp[playTo]⟩⟩,fun i hi=>by
     have fZ:i=0:=by simp[playTo]at hi;omega
     subst fZ;refine⟨_,rfl,?_⟩;have:=(Ko Kx.out lO.out.1 (Nat.le_refl w.heap.size) (by omega)).up (w':=wr.alloc (.cells #[.slice (some ⟨w.heap.size,0,none⟩) q q] 36)) (by go_grown)
     simpa[playTo,wR,lO.out.1] using this⟩,by simpa[playTo,wR] using aq _ Kx.out⟩ (fun W1 fR=>?_)
   obtain⟨ye,aG,xA,rO⟩:=fR;clear Fi FT Kx lO
   go_loopw [7,9,44] (fun nv ov i wr=>∃ k:Nat,k<=word.length/\i=.int .i64 k/\KeepT bldT [mb] w0.heap.size w wr/\BldIs w0.heap.size b mb q (playTo q inp word tab k).1 wr/\dZ wr w.heap.size ov (playTo q inp word tab k).2/\∃ Bn,nv=.slice (some ⟨Bn,0,none⟩) q q/\wr.heap[Bn]?=some (.cells (dA ((playTo q inp word tab k).2.getLastD [])) 3)) (fun _ _ i _=>word.length - (intOf i).toNat)
   case atStart=>exact⟨0,by omega,rfl,ye,aG,xA,_,rfl,rO⟩
   case round=>
    clear ye aG xA rO;obtain⟨k,wi,rfl,hk,hb,hf,Bn,rfl,P7⟩:=hrel;have Iv:=aa hk;have jy:=aa hb;have KR:=aa hf;have C3:=aa P7;by_cases aF:k<word.length
    ·obtain⟨wrA,R9⟩:∃ x,x=wr:=⟨_,rfl⟩
     subst R9;have eN:=lX q inp word tab k;have gO:Hid (playTo q inp word tab (k+1)=Lm q k (word.getD k default) (playTo q inp word tab k)):=aa rfl;obtain⟨b3,o3,rfl,⟨d0,_⟩,⟨d1,_⟩,⟨d2,_⟩,⟨d3,_⟩,⟨d4,_⟩,⟨d5,_⟩,⟨d6,_⟩⟩:=EW.out k aF;rw[aA default aF]at gO;generalize word[k]=r at d0 d1 d2 d3 d4 d5 d6 gO;have Fk:=KeepT.below9 H0.out hk (KeepT.refl (ms:=[mb]) bldT _ wrA)
     replace d0:=ay Fk d0
     replace d1:=ay Fk d1
     replace d2:=ay Fk d2
     replace d3:=ay Fk d3
     replace d4:=ay Fk d4
     replace d5:=ay Fk d5
     replace d6:=ay Fk d6
     obtain⟨vs',cJ,_⟩:=hb.ex;have t1:=ae cJ 0;have hbsz:=aB cJ;simp at t1;have me:=nz (fun _=>0) q (by omega)
     have Ti:(playTo q inp word tab k).1.length<=tab.length+40:=by
      have h9:q * (k+1)<=5 * (k+1):=Nat.mul_le_mul_right _ hn;omega
     have hzw:=hk.old.size;clear hk hb hf P7 Fk cJ;generalize playTo q inp word tab k=st at jy KR C3 gO eN Ti;generalize xz:st.2.getLastD []=now at C3 eN;have HNOW:=aa xz;clear xz;obtain⟨jg,iu,ks⟩:=eN
     go_wp2_with fail
     clear d0 d1 d2 d3 d4 d5 d6 t1 me;refine bw (fun W=>KeepT bldT [mb] w0.heap.size wrA W/\BldIs w0.heap.size b mb q st.1 W/\W.heap[wrA.heap.size]?=some (.cells r.c 52)/\W.heap[wrA.heap.size+1]?=some (.cells (mn q []) 3)) ⟨.of_below _ (by go_grown) (by omega),jy.out.up (by go_grown),aq _ (ar _ _),by rw[Hq];exact aX _ _ _⟩ (fun W1 fR=>?_);obtain⟨ye,aG,rO,dV⟩:=fR
     go_loopw [56] (fun i wrB=>∃ p:Nat,p<=q/\i=.int .i64 p/\KeepT bldT [mb] w0.heap.size wrA wrB/\BldIs w0.heap.size b mb q (addAll st.1 ((fX q k r now).take p)).1 wrB/\wrB.heap[wrA.heap.size]?=some (.cells r.c 52)/\wrB.heap[wrA.heap.size+1]?=some (.cells (mn q (addAll st.1 ((fX q k r now).take p)).2) 3)) (fun i _=>q - (intOf i).toNat)
     case atStart=>exact⟨0,by omega,rfl,ye,aG,rO,dV⟩
     case round=>
      clear ye aG rO dV;obtain⟨p,hp,rfl,ke,bA,Kv,Fq⟩:=hrel;obtain⟨wrB,hwrB⟩:∃ x,x=wr:=⟨_,rfl⟩;subst hwrB;by_cases hlp:p<q
      ·have IY:=aa (yO st.1 (fX q k r now) p (by simpa using hlp))
       have cZ:=(jl ((fX q k r now).take p) (st.1,[])).1;have vC:=(jl ((fX q k r now).take p) (st.1,[])).2;have xT:((fX q k r now).take p).length=p:=by simp;omega
       rw[Ht]at IY;change (addAll st.1 ((fX q k r now).take p)).2.length=_ at cZ;change (addAll st.1 ((fX q k r now).take p)).1.length<=_ at vC;simp only[List.length_nil,xT,Nat.zero_add]at cZ vC;have rH:=aa ke;have io:=aa bA;have PH:=aa Kv;have qh:=aa Fq;clear xT;clear ke bA Kv Fq;generalize (addAll st.1 ((fX q k r now).take p))=st2 at IY cZ vC io qh
       go_wp2_with fail
       refine(zm _).mono ?_;rintro e w9 ⟨rfl,eA⟩
       go_wp2_with fail
       refine bw (fun W=>Below w9.heap.size w9 W/\W.heap[w9.heap.size]?=some (.cells (xl q k r now p 0).c 200)) ⟨by go_grown,by rw[QH];exact ar _ _⟩ (fun W4 hW4=>?_);obtain⟨bM,Cw⟩:=hW4;have gP:=aa eA;clear eA
       go_loopw [66] (fun i wr=>∃ j:Nat,j<=q/\i=.int .i64 j/\Below w9.heap.size w9 wr/\wr.heap[w9.heap.size]?=some (.cells (xl q k r now p j).c 200)) (fun i _=>q - (intOf i).toNat)
       case atStart=>exact⟨0,by omega,rfl,bM,Cw⟩
       case round=>
        clear bM Cw;obtain⟨j,hj,rfl,dy,vS⟩:=hrel;have Ag:=aa vS;by_cases Vi:j<q
        ·have VO:=ak (aj gP.out dy) PH.out
         have tr:=LT r p (by omega) wr _ _ VO;have lK:=ak (aj gP.out dy) (rH.out.keep _ _ _ _ C3.out (by decide));have tn:=ae lK j;rw[Ev _ _ (by omega)]at tn
         obtain⟨x0,tv⟩:∃ x0,wr.cell? ⟨w9.heap.size,3+j,none⟩=some (.int .i64 x0):=by
          have h9:j=0\/j=1\/j=2\/j=3\/j=4:=by omega
          rcases h9 with h|h|h|h|h<;>subst h<;>exact⟨_,ae vS _⟩
         have zv:=aD vS (3+j);have hj5:(j:Int)<5:=by omega
         have SP:(p:Int)<5:=by omega
         have fJ:=nL (r.g.hear p) j;have rI:=dy.size;cases fQ:cS (r.g.hear p) j with
         | false=>
          rw[fQ]at fJ;have VK:=aa (TK q k r now p j fQ);clear vS VO lK fQ
          go_wp2_with fail
          go_roundw
          case rel=>exact⟨j+1,by omega,by go_num,dy,by rw[VK.out];exact Ag.out⟩
          case measure=>simp[intOf];omega
         | true=>
          rw[fQ]at fJ;have V7:=TL q k r now p j (by omega) fQ;rw[aA 0 (by omega)]at V7;have VK:=aa V7;clear V7;clear vS VO lK fQ
          go_wp2_with fail
          go_roundw
          case rel=>exact⟨j+1,by omega,by go_num,dy.setCell (Nat.le_refl _) _,by rw[aE Ag.out,VK.out]⟩
          case measure=>simp[intOf];omega
        ·obtain rfl:j=q:=by omega
         rw[TJ]at Ag;generalize nextV j k r now p=vv at Ag IY;have tv:=ae Ag.out;have kh:=aa (io.out.up (aj gP.out dy));have P0:=aa (ak (aj gP.out dy) qh.out);have qR:=aa (ak (aj gP.out dy) PH.out);have hlpI:(p:Int)<(j:Int):=by omega
         have O0:=rH.out.old.size;have hz9:=gP.out.size;clear vS
         go_wp2_with fail
         refine(Km w0.heap.size b mb j st2.1 vv wr kh.out (by omega)).mono ?_;rintro e w10 ⟨rfl,vk,MM⟩;have MF:=aa (MM.keep _ _ _ _ P0.out (by decide));have HR10:=aa (MM.keep _ _ _ _ qR.out (by decide));have HB10:=aa vk;have HK10:=aa MM;have z1:=aD MF.out p;have c1:=ae MF.out p;rw[uX _ _ _ hlp]at c1;clear vk MM tv
         go_wp2_with fail
         go_roundw
         case rel=>
          refine⟨p+1,by omega,by go_num,((rH.out.trans (.of_below _ (aj gP.out dy) (by omega))).trans HK10.out).setNew (by omega) (by omega) _,?_,aI HR10.out (by omega) _ _,?_⟩
          ·rw[IY.out]
           exact HB10.out.set MF.out (by decide) _
          ·rw[IY.out,aE MF.out]
           have:=Hr j st2.2 ((lc st2.1 vv).2:Nat) (by omega);rw[cZ]at this;rw[this];rfl
         case measure=>simp[intOf];omega
      ·obtain rfl:p=q:=by omega
       have aM:=jl (fX p k r now) (st.1,[]);change (addAll st.1 (fX p k r now)).2.length=_/\(addAll st.1 (fX p k r now)).1.length<=_ at aM;simp only[List.length_nil,List.length_map,List.length_range,Nat.zero_add]at aM;rw[List.take_of_length_le (by simp)]at bA Fq
       have Rq:wrB.heap[wrA.heap.size+1]?=some (.cells (dA (addAll st.1 (fX p k r now)).2) 3):=by
        rw[Fq,<-Hs,aM.1]
       have gj:Hid (playTo p inp word tab (k+1)=((addAll st.1 (fX p k r now)).1,st.2++[(addAll st.1 (fX p k r now)).2])):=aa (by rw[gO.out];unfold Lm;rw[HNOW.out]);have hfB:=ke.fresh KR.out (by decide) (by decide);obtain⟨xs,Ku,cK⟩:=hfB;obtain⟨a9,c9,rfl⟩:=Ku.slice;generalize addAll st.1 (fX p k r now)=st3 at gj aM bA Rq;have hA:Below wrB.heap.size wrB (wrB.alloc (.cells #[(Value.slice (some ⟨wrA.heap.size+1,0,none⟩) p p)] 36)):=by go_grown
       have fK:=aa (Ku.up hA)
       have bj:∀ j u',[(Value.slice (some ⟨wrA.heap.size+1,0,none⟩) p p)][j]?=some u'->(wrB.alloc (.cells #[(Value.slice (some ⟨wrA.heap.size+1,0,none⟩) p p)] 36)).cell? (Addr.add ⟨wrB.heap.size,0,none⟩ j)=some u':=fun j u' hj=>by
        cases j with
        | zero=>simp at hj;subst hj;simp[Addr.add,ae (ar wrB _)]
        | succ j=>simp at hj
       have bZ:=aa bj;have kS:=aa cK;have rH:=aa ke;have io:=aa bA;have qh:=aa Rq;obtain⟨i0,fZ,ww,xX,rM⟩:=info_parts Tryz.infoInts;have hzB:=ke.old.size;clear bj cK ke bA Fq Rq Kv Ku
       go_wp2_with (at_builtin;(refine bO _ rfl (.tmp 92) (.tmp 94) 30 rfl w.heap.size 36 i0 _ 1 24 Tryz.underlying30 fZ ww xX rM rfl (by decide) _ st.2.length xs rfl fK.out ⟨wrB.heap.size,0,none⟩ 1 1 [(Value.slice (some ⟨wrA.heap.size+1,0,none⟩) p p)] rfl rfl bZ.out (by simp[Value.oneCell']) (by unfold maxLen;omega) (by omega) (by simp;omega) ?_;intro v' w2 lh iX _))
       go_roundw
       case rel=>
        have bL:=ak hA qh.out;refine⟨k+1,by omega,by go_num,((Iv.out.trans rH.out).trans (.of_below _ hA (by omega))).grownNew dp (fun g e=>(fK.out.lt g e).1) iX,?_,?_,_,rfl,?_⟩
        ·rw[gj.out]
         exact(io.out.up hA).grown fK.out (by decide) iX
        ·rw[gj.out]
         exact dg.snoc fK.out (fun i hi=>by obtain⟨y,q1,q2⟩:=kS.out i hi;exact⟨y,q1,q2.up hA⟩) (by decide) (by rw[aM.1];exact Ko bL aM.1 (by omega) (by omega)) iX lh
        ·rw[gj.out,List.getLastD_concat]
         exact gB iX bL (fun e=>fK.out.ne bL (by decide) _ e rfl)
       case measure=>simp[intOf];omega
    ·obtain rfl:k=word.length:=by omega
     obtain⟨xs,Ku,_⟩:=hf;obtain⟨a9,c9,rfl⟩:=Ku.slice;clear hk hb P7 Ku
     go_wp2_with fail
     go_ret
     exact⟨_,rfl,KR.out,jy.out,Iv.out⟩
def uY(w:World) (k:Nat) (v:Value) (n:Nat) (xs:List Value):Prop:=
 ∃ a cap,v=.slice a n cap/\(a=none->n=0/\cap=0)/\xs.length=n * k/\(∀ j u,xs[j]?=some u->∃ b o,a=some ⟨b,o,none⟩/\w.cell? ⟨b,o+j,none⟩=some u)/\∀ u∈xs,u.oneCell'=true
theorem BT{α:Type} {k:Nat} {R:World->Nat->Nat->α->Prop} {w:World} {v:Value} {l:List α} (h:eO k R w v l) (hk:0<k) (hR:∀ b o x j,R w b o x->j<k->∃ u,w.cell? ⟨b,o+j,none⟩=some u/\u.oneCell'=true):∃ xs,uY w k v l.length xs:=by
 obtain⟨a,cap,rfl,h1,h2,h3⟩:=h
 have key:∀ i:Fin (l.length * k),∃ u:Value,∃ b o,a=some ⟨b,o,none⟩/\w.cell? ⟨b,o+i.1,none⟩=some u/\u.oneCell'=true:=fun i=>by
  have hi:i.1 / k<l.length:=by rw[Nat.div_lt_iff_lt_mul hk];exact i.2
  obtain⟨b,o,ha,hr⟩:=h3 (i.1 / k) _ (List.getElem?_eq_getElem hi);obtain⟨u,hu,h1⟩:=hR b _ _ (i.1 % k) hr (Nat.mod_lt _ hk);refine⟨u,b,o,ha,?_,h1⟩;rw[<-hu];congr 2;have:=Nat.div_add_mod i.1 k;rw[Nat.mul_comm]at this;omega
 refine⟨List.ofFn fun i=>Classical.choose (key i),a,cap,rfl,fun e=>?_,by simp,fun j u hj=>?_,fun u hu=>?_⟩
 ·have:=h1.2.2 e;have:=h1.1;omega
 ·have hi:j<l.length * k:=by have:=(List.getElem?_eq_some_iff.1 hj).1;simpa using this
  have e:u=Classical.choose (key ⟨j,hi⟩):=by
   rw[List.getElem?_ofFn]at hj;simp[hi]at hj;exact hj.symm
  obtain⟨b,o,ha,hc,_⟩:=Classical.choose_spec (key ⟨j,hi⟩);exact⟨b,o,ha,by rw[e];exact hc⟩
 ·obtain⟨i,rfl⟩:=(List.mem_ofFn).1 hu
  obtain⟨_,_,_,_,hs⟩:=Classical.choose_spec (key i);exact hs
theorem BU{α:Type} {k:Nat} {R:World->Nat->Nat->α->Prop} {w:World} {b o:Nat} {l:List α} (h:lj k R w b o l):∃ u,w.cell? ⟨b,o,none⟩=some u/\u.oneCell'=true:=by
 obtain⟨v,hc,hs⟩:=h;exact⟨v,hc,F3 hs⟩
theorem NZ{w:World} {v:Value} {l:List Cs} (h:bJ w v l):∃ xs,uY w 3 v l.length xs:=BT h (by decide) fun b o x j hr hj=>by
 obtain⟨h0,h1,h2⟩:=hr;have:j=0\/j=1\/j=2:=by omega
 rcases this with rfl|rfl|rfl
 ·exact BU h0
 ·exact BU h1
 ·exact BU h2
theorem LU{w:World} {v:Value} {l:List (List Mv)} (h:bn w v l):∃ xs,uY w 1 v l.length xs:=BT h (by decide) fun b o x j hr hj=>by
 obtain rfl:j=0:=by omega
 exact BU hr
abbrev Mv.c(m:Mv):Array Value:=#[.int .i64 m.r.g.n,.int .i64 m.r.g.h0,.int .i64 m.r.g.h1,.int .i64 m.r.g.h2,.int .i64 m.r.g.h3,.int .i64 m.r.g.h4,.int .i64 m.r.f,.int .i64 m.to]
def ii(xs:List Mv):List Value:=xs.flatMap fun m=>m.c.toList
theorem BV(xs:List Mv):(ii xs).length=xs.length * 8:=by
 unfold ii;induction xs with
 | nil=>rfl
 | cons x r ih=>rw[List.flatMap_cons,List.length_append,ih];simp;omega
theorem N0{w:World} {v:Value} {l:List Mv} (h:rg w v l):uY w 8 v l.length (ii l):=by
 obtain⟨a,cap,rfl,h1,h2,h3⟩:=h;refine⟨a,cap,rfl,fun e=>?_,BV l,fun j u hu=>?_,fun u hu=>?_⟩
 ·have:=h1.2.2 e;have:=h1.1;omega
 ·have hj:=(List.getElem?_eq_some_iff.1 hu).1
  rw[BV]at hj;obtain⟨i,s,hs,rfl⟩:∃ i s,s<8/\j=i * 8+s:=⟨j / 8,j % 8,by omega,by omega⟩;have hi:i<l.length:=by omega
  unfold ii at hu;rw[k7 Mv.c 8 (fun _=>rfl) l i s hi hs]at hu;obtain⟨b,o,ha,⟨⟨c0,_⟩,⟨c1,_⟩,⟨c2,_⟩,⟨c3,_⟩,⟨c4,_⟩,⟨c5,_⟩,⟨c6,_⟩⟩,⟨c7,_⟩⟩:=h3 i _ (List.getElem?_eq_getElem hi);refine⟨b,o,ha,?_⟩;rw[<-Nat.add_assoc];rcases (show s=0\/s=1\/s=2\/s=3\/s=4\/s=5\/s=6\/s=7 by omega) with rfl|rfl|rfl|rfl|rfl|rfl|rfl|rfl<;>(simp at hu;subst hu;first|exact c0|exact c1|exact c2|exact c3|exact c4|exact c5|exact c6|exact c7)
 ·obtain⟨m,_,hm⟩:=List.mem_flatMap.1 hu
  simp at hm;rcases hm with h|h|h|h|h|h|h|h<;>subst h<;>rfl
theorem Ez{w:World} {base:Nat} {v:Value} {l:List Mv} (h:aL w base 98 8 v l.length (ii l)) (hx:∀ m∈l,nl m.r/\bK m.to) (hn:l.length<=17592186044416):rg w v l:=by
 have aM:=fun i (hi:i<l.length) j (u:Value) (hj:j<8) (hu:l[i].c[j]?=some u)=>h.cell (i * 8+j) u (by unfold ii;rw[k7 Mv.c 8 (fun _=>rfl) l i j hi hj];exact hu)
 rcases h.2 with ⟨hz,h0⟩|⟨g,cap,cur,fz,rfl,_,hg,_,kj,fg,_⟩
 ·refine⟨none,0,by rw[hz,h0],⟨by omega,by omega,fun _=>rfl⟩,hn,fun i x hi=>?_⟩
  have:=(List.getElem?_eq_some_iff.1 hi).1;omega
 ·refine⟨some ⟨g,0,none⟩,cap,rfl,⟨kj,by simp only[maxLen]at fg;omega,fun e=>by cases e⟩,hn,fun i x hi=>⟨g,0,rfl,?_⟩⟩
  obtain⟨dI,rfl⟩:=List.getElem?_eq_some_iff.1 hi;obtain⟨⟨r0,r1,r2,r3,r4,r5,r6⟩,r7⟩:=hx _ (List.getElem_mem dI)
  have key:∀ j u,j<8->l[i].c[j]?=some u->w.cell? ⟨g,0+i * 8+j,none⟩=some u:=fun j u hj hu=>by
   obtain⟨g',c',e1,e2⟩:=aM i dI j u hj hu;have:g=g':=by simp at e1;exact e1.1
   rw[this,Nat.zero_add];exact e2
  exact⟨⟨⟨key 0 _ (by omega) rfl,r0⟩,⟨key 1 _ (by omega) rfl,r1⟩,⟨key 2 _ (by omega) rfl,r2⟩,⟨key 3 _ (by omega) rfl,r3⟩,⟨key 4 _ (by omega) rfl,r4⟩,⟨key 5 _ (by omega) rfl,r5⟩,⟨key 6 _ (by omega) rfl,r6⟩⟩,⟨key 7 _ (by omega) rfl,r7⟩⟩
theorem QI{w:World} {v:Value} {l:List Mv} (h:rg w v l):∀ m∈l,nl m.r/\bK m.to:=fun m hm=>by
 obtain⟨i,hi,rfl⟩:=List.getElem_of_mem hm;obtain⟨a,cap,rfl,_,_,e⟩:=h;obtain⟨b,o,ha,⟨⟨_,c0⟩,⟨_,c1⟩,⟨_,c2⟩,⟨_,c3⟩,⟨_,c4⟩,⟨_,c5⟩,⟨_,c6⟩⟩,⟨_,c7⟩⟩:=e i _ (List.getElem?_eq_getElem hi);exact⟨⟨c0,c1,c2,c3,c4,c5,c6⟩,c7⟩
theorem Tryz.infoCase:(Tryz.prog.info? 88).map (fun i=>(i.zero,i.size,i.bytes))=some (some (.agg #[.slice none 0 0,.slice none 0 0,.slice none 0 0]),3,72):=by kernel_rfl
theorem Tryz.infoMoves:(Tryz.prog.info? 94).map (fun i=>(i.zero,i.size,i.bytes))=some (some (.slice none 0 0),1,24):=by kernel_rfl
theorem Tryz.infoMove:(Tryz.prog.info? 98).map (fun i=>(i.zero,i.size,i.bytes))=some (some (.agg #[.int .i64 0,.int .i64 0,.int .i64 0,.int .i64 0,.int .i64 0,.int .i64 0,.int .i64 0,.int .i64 0]),8,64):=by kernel_rfl
theorem DG(v:Value) (n:Nat) (xs:List Value) (w:World) (hv:uY w 3 v n xs) (hn:n<=1048576) :
  Calls Tryz.prog 98 #[v] w fun e w'=>∃ u,e=.returned u/\aL w' w.heap.size 88 3 u n xs/\Below w.heap.size w w':=by
 obtain⟨i0,hi,dp,du,eB⟩:=info_parts Tryz.infoCase;obtain⟨a,cap,rfl,lJ,nH,hc,h1⟩:=hv;have mK:=fun w=>Lib.run_eql_slice_nil (P:=Tryz.prog) w 22
 cases a with
 | none=>
  obtain⟨rfl,rfl⟩:=lJ rfl;have gi:xs=[]:=List.eq_nil_of_length_eq_zero (by omega);subst gi
  go_enter Tryz.func98,Tryz.ntmps98
  go_wp2_with fail
  go_ret
  exact⟨_,rfl,aL.nil _ _ _ _,Below.refl _ _⟩
 | some ad=>
  have bj:∀ j u,xs[j]?=some u->(w.alloc (.cells #[] 88)).cell? (ad.add j)=some u:=fun j u hj=>by
   obtain⟨b,o,e,gM⟩:=hc j u hj;cases e;have:(Addr.add ⟨b,o,none⟩ j)=⟨b,o+j,none⟩:=by unfold Addr.add;split<;>simp_all
   rw[this];exact ay (by go_grown) gM
  have aW:aL (w.alloc (.cells #[] 88)) w.heap.size 88 3 (.slice (some ⟨w.heap.size,0,none⟩) 0 0) 0 []:=⟨by simp,.inr ⟨w.heap.size,0,#[],(0,0),rfl,Nat.le_refl _,ar _ _,fun i hi=>by simp at hi,by omega,by simp[maxLen],by simp,by simp⟩⟩;have bZ:=aa bj;have da:=aa aW;have H1:=aa h1;have zC:=aa nH;clear bj aW lJ hc h1 nH
  go_enter Tryz.func98,Tryz.ntmps98
  go_wp2_with (at_builtin;(refine bO _ rfl (.tmp 5) (.tmp 6) 22 rfl w.heap.size 88 i0 _ 3 72 Tryz.underlying22 hi dp du eB rfl (by decide) _ 0 [] rfl da.out ad n cap xs rfl zC.out bZ.out H1.out (by unfold maxLen;omega) (by omega) (by simp) ?_;intro v' w1 iE lM _;obtain⟨av',cv',rfl⟩:=iE.slice))
  go_ret
  rw[Nat.zero_add,List.nil_append]at iE;refine⟨_,rfl,by simpa using iE,Below.grown (w:=w.alloc (.cells #[] 88)) (by go_grown) lM (by simp) (fun k hk=>?_)⟩;cases hk;exact Nat.le_refl _
theorem BW(v:Value) (n:Nat) (xs:List Value) (w:World) (hv:uY w 1 v n xs) (hn:n<=1048576) :
  Calls Tryz.prog 100 #[v] w fun e w'=>∃ u,e=.returned u/\aL w' w.heap.size 94 1 u n xs/\Below w.heap.size w w':=by
 obtain⟨i0,hi,dp,du,eB⟩:=info_parts Tryz.infoMoves;obtain⟨a,cap,rfl,lJ,nH,hc,h1⟩:=hv;have mK:=fun w=>Lib.run_eql_slice_nil (P:=Tryz.prog) w 25
 cases a with
 | none=>
  obtain⟨rfl,rfl⟩:=lJ rfl;have gi:xs=[]:=List.eq_nil_of_length_eq_zero (by omega);subst gi
  go_enter Tryz.func100,Tryz.ntmps100
  go_wp2_with fail
  go_ret
  exact⟨_,rfl,aL.nil _ _ _ _,Below.refl _ _⟩
 | some ad=>
  have bj:∀ j u,xs[j]?=some u->(w.alloc (.cells #[] 94)).cell? (ad.add j)=some u:=fun j u hj=>by
   obtain⟨b,o,e,gM⟩:=hc j u hj;cases e;have:(Addr.add ⟨b,o,none⟩ j)=⟨b,o+j,none⟩:=by unfold Addr.add;split<;>simp_all
   rw[this];exact ay (by go_grown) gM
  have aW:aL (w.alloc (.cells #[] 94)) w.heap.size 94 1 (.slice (some ⟨w.heap.size,0,none⟩) 0 0) 0 []:=⟨by simp,.inr ⟨w.heap.size,0,#[],(0,0),rfl,Nat.le_refl _,ar _ _,fun i hi=>by simp at hi,by omega,by simp[maxLen],by simp,by simp⟩⟩;have bZ:=aa bj;have da:=aa aW;have H1:=aa h1;have zC:=aa nH;clear bj aW lJ hc h1 nH
  go_enter Tryz.func100,Tryz.ntmps100
  go_wp2_with (at_builtin;(refine bO _ rfl (.tmp 5) (.tmp 6) 25 rfl w.heap.size 94 i0 _ 1 24 Tryz.underlying25 hi dp du eB rfl (by decide) _ 0 [] rfl da.out ad n cap xs rfl zC.out bZ.out H1.out (by unfold maxLen;omega) (by omega) (by simp) ?_;intro v' w1 iE lM _;obtain⟨av',cv',rfl⟩:=iE.slice))
  go_ret
  rw[Nat.zero_add,List.nil_append]at iE;refine⟨_,rfl,by simpa using iE,Below.grown (w:=w.alloc (.cells #[] 94)) (by go_grown) lM (by simp) (fun k hk=>?_)⟩;cases hk;exact Nat.le_refl _
theorem DH(v:Value) (n:Nat) (xs:List Value) (w:World) (hv:uY w 8 v n xs) (hn:n<=1048576) :
  Calls Tryz.prog 101 #[v] w fun e w'=>∃ u,e=.returned u/\aL w' w.heap.size 98 8 u n xs/\Below w.heap.size w w':=by
 obtain⟨i0,hi,dp,du,eB⟩:=info_parts Tryz.infoMove;obtain⟨a,cap,rfl,lJ,nH,hc,h1⟩:=hv;have mK:=fun w=>Lib.run_eql_slice_nil (P:=Tryz.prog) w 94
 cases a with
 | none=>
  obtain⟨rfl,rfl⟩:=lJ rfl;have gi:xs=[]:=List.eq_nil_of_length_eq_zero (by omega);subst gi
  go_enter Tryz.func101,Tryz.ntmps101
  go_wp2_with fail
  go_ret
  exact⟨_,rfl,aL.nil _ _ _ _,Below.refl _ _⟩
 | some ad=>
  have bj:∀ j u,xs[j]?=some u->(w.alloc (.cells #[] 98)).cell? (ad.add j)=some u:=fun j u hj=>by
   obtain⟨b,o,e,gM⟩:=hc j u hj;cases e;have:(Addr.add ⟨b,o,none⟩ j)=⟨b,o+j,none⟩:=by unfold Addr.add;split<;>simp_all
   rw[this];exact ay (by go_grown) gM
  have aW:aL (w.alloc (.cells #[] 98)) w.heap.size 98 8 (.slice (some ⟨w.heap.size,0,none⟩) 0 0) 0 []:=⟨by simp,.inr ⟨w.heap.size,0,#[],(0,0),rfl,Nat.le_refl _,ar _ _,fun i hi=>by simp at hi,by omega,by simp[maxLen],by simp,by simp⟩⟩;have bZ:=aa bj;have da:=aa aW;have H1:=aa h1;have zC:=aa nH;clear bj aW lJ hc h1 nH
  go_enter Tryz.func101,Tryz.ntmps101
  go_wp2_with (at_builtin;(refine bO _ rfl (.tmp 5) (.tmp 6) 94 rfl w.heap.size 98 i0 _ 8 64 Tryz.underlying94 hi dp du eB rfl (by decide) _ 0 [] rfl da.out ad n cap xs rfl zC.out bZ.out H1.out (by unfold maxLen;omega) (by omega) (by simp) ?_;intro v' w1 iE lM _;obtain⟨av',cv',rfl⟩:=iE.slice))
  go_ret
  rw[Nat.zero_add,List.nil_append]at iE;refine⟨_,rfl,by simpa using iE,Below.grown (w:=w.alloc (.cells #[] 98)) (by go_grown) lM (by simp) (fun k hk=>?_)⟩;cases hk;exact Nat.le_refl _
theorem se(v:Value) (l:List (List Int)) (w:World) (hv:bF w v l) (hn:l.length<=1048576) (n9:∀ x∈l,x.length<=1099511627776) :
  Calls Tryz.prog 99 #[v] w fun e w'=>∃ u,e=.returned u/\dZ w' w.heap.size u l/\Below w.heap.size w w':=by
 obtain⟨i0,hi,dp,du,eB⟩:=info_parts Tryz.infoInts;obtain⟨p,cap,rfl,la1,la2,ea⟩:=hv.at;have EA:=aa ea;have C3:=aa n9;clear ea hv n9
 go_enter Tryz.func99,Tryz.ntmps99
 go_wp2_with fail
 go_loopw [3,8] (fun o i wr=>Below w.heap.size w wr/\∃ k:Nat,k<=l.length/\i=.int .i64 k/\dZ wr w.heap.size o (l.take k)) (fun _ i _=>l.length - (intOf i).toNat)
 case atStart=>exact⟨Below.refl _ _,0,by omega,rfl,dg.nil _ _⟩
 case round=>
  obtain⟨aJ,k,hk,rfl,uh⟩:=hrel;have KQ:=aa uh;by_cases aF:k<l.length
  ·obtain⟨b1,o1,rfl,x,cx,hx⟩:=EA.out k aF
   rw[Nat.mul_one]at cx;have d1:=ay aJ cx;have HLK:=aa (C3.out _ (List.getElem_mem aF));have sI:Hid (l.take (k+1)=l.take k++[l[k]]):=aa (List.take_succ_eq_append_getElem aF);generalize l[k]=y at hx HLK sI;have HX:=aa (hx.up up_int aJ);obtain⟨px,qx,rfl,_⟩:=hx;clear cx;obtain⟨xs,aW,PS⟩:=uh;have wi:(l.take k).length=k:=by simp;omega
   rw[wi]at aW;have da:=aa aW;have Us:=aa PS;have ST:=aa wi;obtain⟨ao,co,rfl⟩:=aW.slice;clear aW PS wi
   go_wp2_with fail
   refine(iL _ y wr HX.out HLK.out).mono ?_;rintro e w1 ⟨u,rfl,hu,aG⟩;obtain⟨au,cu,rfl⟩:=hu.slice;have fQ:=aj aJ aG;have hA:Below w1.heap.size w1 (w1.alloc (.cells #[(Value.slice au y.length cu)] 36)):=by go_grown
   have fK:=aa ((da.out.up aG).up hA)
   have bj:∀ j u',[(Value.slice au y.length cu)][j]?=some u'->(w1.alloc (.cells #[(Value.slice au y.length cu)] 36)).cell? (Addr.add ⟨w1.heap.size,0,none⟩ j)=some u':=fun j u' hj=>by
    cases j with
    | zero=>simp at hj;subst hj;simp[Addr.add,ae (ar w1 _)]
    | succ j=>simp at hj
   have bZ:=aa bj;have HU:=aa hu;clear bj hu d1;have dJ:=fQ.size
   go_wp2_with (at_builtin;(refine bO _ rfl (.tmp 12) (.tmp 15) 30 rfl w.heap.size 36 i0 _ 1 24 Tryz.underlying30 hi dp du eB rfl (by decide) _ k xs rfl fK.out ⟨w1.heap.size,0,none⟩ 1 1 [(Value.slice au y.length cu)] rfl rfl bZ.out (by simp[Value.oneCell']) (by unfold maxLen;omega) (by omega) (by simp;omega) ?_;intro v' w2 lh iX _))
   go_roundw
   case rel=>
    refine⟨Below.grown (w:=w1.alloc (.cells #[(Value.slice au y.length cu)] 36)) (fQ.alloc dJ _) iX (by simp;omega) (fun g hg=>(fK.out.lt g hg).1),k+1,by omega,by go_num,?_⟩;rw[sI.out];exact dg.snoc (l:=l.take k) (by rw[ST.out];exact fK.out) (fun i hi=>by obtain⟨z,q1,q2⟩:=Us.out i hi;exact⟨z,q1,(q2.up aG).up hA⟩) (by decide) ((HU.out.base aJ.size).up hA) iX (by rw[ST.out];exact lh)
   case measure=>simp[intOf];omega
  ·obtain rfl:k=l.length:=by omega
   rw[List.take_length]at KQ uh;obtain⟨xs,aW,_⟩:=uh;obtain⟨ao,co,rfl⟩:=aW.slice;clear aW
   go_wp2_with fail
   go_ret
   exact⟨_,rfl,KQ.out,aJ⟩
def dS(p:Pb):Int × Int:=
 if probE p≠0 then(0,probE p) else if (countedR 1048576 p.a p.rounds).2≠0 then(0,(countedR 1048576 p.a p.rounds).2)
 else if 1048576<(countedR 1048576 p.a p.rounds).1 * p.t.cases.length then(0,17) else((countedR 1048576 p.a p.rounds).1 * p.t.cases.length,0)
theorem Gc(L:Int) (hL:0<=L) (a:Adv) (r:Int):0<=(countedR L a r).1/\(countedR L a r).1<=L:=by
 unfold countedR;have h:=(tU hL (Ar hL a r.toNat) 0);change 0<=numberL L a r.toNat/\_ at h;split
 ·simp;omega
 ·split
  ·simp;omega
  ·split
   ·simp;omega
   ·simp;omega
theorem Gd(p:Pb) (vc vs:Value) (w:World) (hc:bJ w vc p.t.cases) (hs:bn w vs p.a.states) (hN:movesN p.a.states<1099511627776) (bW:probE p=0->p.t.cases.length<=1048576) :
  Calls Tryz.prog 60 #[jI p vc vs] w fun e w'=>e=.returned (.tuple #[.int .i64 (dS p).1,.int .i64 (dS p).2])/\Below w.heap.size w w':=by
 have GC:=aa hc;have GS:=aa hs;obtain⟨pc,cc,rfl,_⟩:=hc.at;obtain⟨ps,cs,rfl,_⟩:=hs.at;clear hc hs;have HV:Hid (dS p=if probE p≠0 then(0,probE p) else if (countedR 1048576 p.a p.rounds).2≠0 then(0,(countedR 1048576 p.a p.rounds).2) else if 1048576<(countedR 1048576 p.a p.rounds).1 * p.t.cases.length then(0,17) else((countedR 1048576 p.a p.rounds).1 * p.t.cases.length,0)):=by exact rfl
 go_enter Tryz.func60,Tryz.ntmps60
 go_wp2_with fail
 refine aT (fun W=>Below w.heap.size w W/\W.heap[w.heap.size]?=some (.cells #[.int .i64 p.t.n,.int .i64 p.t.ins,.int .i64 p.t.outs,.slice pc p.t.cases.length cc,.int .i64 p.a.n,.slice ps p.a.states.length cs,.int .i64 p.rounds] 29)) ⟨by go_grown,ar _ _⟩ (fun W0 bd=>?_);obtain⟨aH,bD⟩:=bd;refine(mO p _ _ W0 (GC.out.up up_case aH) (GS.out.up up_moves aH) hN).mono ?_;rintro e w1 ⟨rfl,aG⟩;have bU:=aj aH aG;have fk:=ak aG bD;have t1:=ae fk;have HCL:=aa bW;have fd:=aa fk;clear fk bD bW;generalize probE p=et at HV HCL;by_cases iH:et=0
 case neg=>
  have D7:(et != 0)=true:=by simpa using iH
  have cU:Hid (dS p=(0,et)):=aa (by rw[HV.out,if_pos iH]);clear HV
  go_wp2_with fail
  go_ret2
  refine⟨cI ?_ ?_,bU⟩<;>rw[cU.out]
 subst iH;have bW:=HCL.out rfl
 go_wp2_with fail
 refine(Hm p.a _ p.rounds w1 (GS.out.up up_moves bU) hN).mono ?_;rintro e w2 ⟨rfl,aS⟩;have fy:=aj bU aS;have t2:=ae (ak aS fd.out);have qF:=Gc 1048576 (by omega) p.a p.rounds;clear t1;generalize countedR 1048576 p.a p.rounds=cr at HV qF;obtain⟨c1,c2⟩:=cr;dsimp only at HV qF ⊢;by_cases fg:c2=0
 case neg=>
  have hc2':(c2 != 0)=true:=by simpa using fg
  have cU:Hid (dS p=(0,c2)):=aa (by rw[HV.out,if_neg (by simp),if_pos fg]);clear HV
  go_wp2_with fail
  go_ret2
  refine⟨cI ?_ ?_,fy⟩<;>rw[cU.out]
 subst fg;have hprod:0<=c1 * (p.t.cases.length:Int)/\c1 * (p.t.cases.length:Int)<=1048576 * 1048576:=⟨Int.mul_nonneg qF.1 (by omega),Int.mul_le_mul qF.2 (by omega) (by omega) (by omega)⟩;have oq:IntKind.i64.wrap (c1 * (p.t.cases.length:Int))=c1 * (p.t.cases.length:Int):=IntWalk.i64_in _ (by omega);by_cases hx:1048576<c1 * (p.t.cases.length:Int)
 ·have cU:Hid (dS p=(0,17)):=aa (by rw[HV.out,if_neg (by simp),if_neg (by simp),if_pos hx])
  clear HV
  go_wp2_with fail
  go_ret2
  refine⟨cI ?_ ?_,fy⟩<;>rw[cU.out]
 ·have cU:Hid (dS p=(c1 * (p.t.cases.length:Int),0)):=aa (by rw[HV.out,if_neg (by simp),if_neg (by simp),if_neg hx])
  clear HV
  go_wp2_with fail
  go_ret2
  refine⟨cI ?_ ?_,fy⟩<;>rw[cU.out]
end Go.Proofs.YtkfgpnbpcpdclaaGreat
namespace Go.Proofs.YtkfgpnbpcpdclaaGreat
open Go.RowKit Go Go.Shelf
def qY(F:Array Value) (d:List Deferred) (Core:(Nat->Bool)->(Nat->Value)->World->Prop) (D:Nat->Bool) (i s:Nat) (x:Nat->Value) (a':Act) (W':World):Prop:=
 ∃ v,a'={ tmps:=F.setIfInBounds s v,defers:=d }/\Core (bB D i) (cF x i v) W'
def WK(F:Array Value) (d:List Deferred) (Core:(Nat->Bool)->(Nat->Value)->World->Prop) (D:Nat->Bool) (i:Nat) (x:Nat->Value) (a':Act) (W':World):Prop:=
 a'={ tmps:=F,defers:=d }/\Core (bB D i) x W'
theorem qY.mk{F:Array Value} {d:List Deferred} {Core:(Nat->Bool)->(Nat->Value)->World->Prop} {D:Nat->Bool} {i s:Nat} {x:Nat->Value} {a':Act} {W':World} (v:Value) (hc:Core (bB D i) (cF x i v) W') (ha:a'={ tmps:=F.setIfInBounds s v,defers:=d }):qY F d Core D i s x a' W':=⟨v,ha,hc⟩
theorem DJ{P:Program} {id:Nat} {l:List Oper} {Q:Exit->Act->World->Prop} {T:Array Value} {d:List Deferred} {w:World} (n:Nat) (S:List Nat) (Core:(Nat->Bool)->(Nat->Value)->World->Prop) (hm:P.follows .mixedOrders=true) (hn:l.toArray.size=n) (hS:S.Nodup)
  (hB:jk l.toArray n=true) (h0:∀ x,Core (fun _=>false) x w.drew)
  (dG:∀ x W D i o s F,l.toArray[i]?=some o->S[i]?=some s->D i=false->(∀ e∈o.after,Region.binds .any e=true->D e.on=true)->Core D x W->F=bg T S x →
   wpList P l.toArray (Exit.then (qY F d Core D i s x) Q) [o] { tmps:=F,defers:=d } W)
  (hfree:∀ x W D i o F,l.toArray[i]?=some o->S.length<=i->i<n->D i=false->(∀ e∈o.after,Region.binds .any e=true->D e.on=true)->Core D x W->F=bg T S x →
   wpList P l.toArray (Exit.then (WK F d Core D i x) Q) [o] { tmps:=F,defers:=d } W)
  (fO:∀ x W D F,(∀ j,j<n->D j=true)->Core D x W->F=bg T S x->Q .normal { tmps:=F,defers:=d } W) :
  (Code.region id l.toArray true).wp P Q { tmps:=T,defers:=d } w:=by
 refine wp_region_any hm ?_;refine nO hn hB (fun D a W=>∃ x,a={ tmps:=bg T S x,defers:=d }/\Core D x W) ?_ ?_ _ _ _ _ (by rw[Array.size_replicate,hn]) ?_ ?_
 ·rintro D a W i o hi ho hD al ⟨x,rfl,hc⟩
  by_cases his:i<S.length
  ·obtain⟨s,hs⟩:∃ s,S[i]?=some s:=⟨S[i],List.getElem?_eq_getElem his⟩
   refine dQ ?_ (iQ ho (dG x W D i o s _ ho hs hD al hc rfl));rintro a' W' ⟨v,rfl,oJ⟩;exact⟨cF x i v,by rw[gZ T S hS x i s v hs],oJ⟩
  ·refine dQ ?_ (iQ ho (hfree x W D i o _ ho (by omega) hi hD al hc rfl))
   rintro a' W' ⟨rfl,oJ⟩;exact⟨x,rfl,oJ⟩
 ·rintro D a W aM ⟨x,rfl,hc⟩
  exact fO x W D _ aM hc rfl
 ·rw[hn];exact Nat.le_trans List.countP_le_length (by simp)
 ·have hf:(fun j=>(Array.replicate l.toArray.size false).getD j false)=fun _=>false:=by
   funext j
   simp only[Array.getD];split<;>simp
  rw[hf];refine⟨fun i=>T[S.getD i 0]!,?_,h0 _⟩;rw[hU T S hS];intro i s hi hs;rw[List.getD_eq_getElem?_getD,hi];rfl
def cA(a b:Int):Rd:=⟨⟨2,a,b,0,0,0⟩,0⟩
def exCs:List Cs:=[⟨[0,0],[[0,0]],[]⟩,⟨[0,1],[[0,0],[1,1]],[]⟩,⟨[1,0],[[0,0],[1,1]],[]⟩,⟨[1,1],[[1,1]],[]⟩]
def exMv:List Mv:=[⟨cA 1 3,0⟩,⟨cA 3 2,0⟩,⟨cA 3 3,0⟩]
def exP8:Pb:=⟨⟨2,2,2,exCs⟩,⟨2,[exMv]⟩,1⟩
def Hu(p a b:Int):St:=⟨0,p,a,b,-1,-1,-1,if min a b<0 then max a b else min a b⟩
def Kp(p a b:Nat):List St:=if (if p=0 then(a:Int) - 1 else(b:Int) - 1)<0 then [] else [Hu p ((a:Int) - 1) ((b:Int) - 1)]
def oH(p a b:Nat):List St:=(List.range b).flatMap fun b=>Kp p a b
def nV(p a:Nat):List St:=(List.range a).flatMap fun a=>oH p a 3
def xsN(p:Nat):List St:=(List.range p).flatMap fun p=>nV p 3
theorem Hv(p a b:Nat):oH p a (b+1)=oH p a b++Kp p a b:=by simp[oH,List.range_succ]
theorem Hw(p a:Nat):nV p (a+1)=nV p a++oH p a 3:=by simp[nV,List.range_succ]
theorem Hx(p:Nat):xsN (p+1)=xsN p++nV p 3:=by simp[xsN,List.range_succ]
def exM8:Mac:=⟨2,1,2,2,[[0,1],[0,1]],[[[[],[0,1]],[[0,1],[]]]],xsN 2,[[[-1,-1],[-1,-1]],[[0,1],[0,1]]]⟩
def BY(l:List Int):MP:=⟨fun x W=>∃ i,x=sV i 2/\W.heap[i]?=some (iC l),fun _ _ _ h hb=>by obtain⟨i,e,h⟩:=h;exact⟨i,e,ak hb h⟩⟩
def So(l:List Int) (o:Value):MP:=⟨fun x W=>∃ i,x=.agg #[sV i 2,o,.slice none 0 0]/\W.heap[i]?=some (iC l),fun _ _ _ h hb=>by obtain⟨i,e,h⟩:=h;exact⟨i,e,ak hb h⟩⟩
def sf(W:World) (B c i0 i1 i2 i3:Nat):Prop:=W.heap[c]?=some (.cells #[sV i0 2,.slice (some ⟨B,0,none⟩) 1 2,.slice none 0 0,sV i1 2,sV B 2,.slice none 0 0,sV i2 2,sV B 2,.slice none 0 0,sV i3 2,.slice (some ⟨B,1,none⟩) 1 1,.slice none 0 0] 88)/\W.heap[i0]?=some (iC [0,0])/\W.heap[i1]?=some (iC [0,1])/\W.heap[i2]?=some (iC [1,0])/\W.heap[i3]?=some (iC [1,1])
theorem sf.keep{W W':World} {B c i0 i1 i2 i3:Nat} (h:sf W B c i0 i1 i2 i3) (k:∀ (k:Nat) (o:Array Value) (t:TypeId),t=3\/t=88->W.heap[k]?=some (.cells o t)->W'.heap[k]?=some (.cells o t)):sf W' B c i0 i1 i2 i3:=⟨k _ _ _ (.inr rfl) h.1,k _ _ _ (.inl rfl) h.2.1,k _ _ _ (.inl rfl) h.2.2.1,k _ _ _ (.inl rfl) h.2.2.2.1,k _ _ _ (.inl rfl) h.2.2.2.2⟩
theorem sf.up{W W':World} {B c i0 i1 i2 i3:Nat} (h:sf W B c i0 i1 i2 i3) (hb:Below W.heap.size W W'):sf W' B c i0 i1 i2 i3:=h.keep fun _ _ _ _ h=>ak hb h
def QJ(B:Nat):MP:=⟨fun x W=>∃ c i0 i1 i2 i3,x=sV c 4/\sf W B c i0 i1 i2 i3,fun _ _ _ h hb=>by obtain⟨c,i0,i1,i2,i3,e,h⟩:=h;exact⟨c,i0,i1,i2,i3,e,h.up hb⟩⟩
def WT(B:Nat):MP:=⟨fun x W=>∃ v,x=.agg #[.int .i64 2,.int .i64 2,.int .i64 2,v]/\(QJ B).p v W,fun _ _ _ h hb=>by obtain⟨v,e,h⟩:=h;exact⟨v,e,(QJ B).up _ _ _ h hb⟩⟩
def WL(base:Nat):MP:=⟨fun x W=>∃ b,x=.pointer (some ⟨b,0,none⟩)/\base<=b/\W.heap[b]?=some (.cells #[.int .i64 0,.int .i64 0,.int .i64 0,.slice none 0 0] 24),fun _ _ _ h hb=>by obtain⟨b,e,h0,h⟩:=h;exact⟨b,e,h0,ak hb h⟩⟩
structure BothB (W:World) (B a b:Nat):Prop where
 row:W.heap[B]?=some (.cells #[sV a 2,sV b 2] 36)
 h0:W.heap[a]?=some (iC [0,0])
 h1:W.heap[b]?=some (iC [1,1])
theorem BothB.up{W W':World} {B a b:Nat} (h:BothB W B a b) (hb:Below W.heap.size W W'):BothB W' B a b:=⟨ak hb h.row,ak hb h.h0,ak hb h.h1⟩
theorem BothB.vecs{W:World} {B a b:Nat} (h:BothB W B a b):bF W (sV B 2) [[0,0],[1,1]]/\bF W (.slice (some ⟨B,0,none⟩) 1 2) [[0,0]]/\bF W (.slice (some ⟨B,1,none⟩) 1 1) [[1,1]]:=by
 have i0:aU W (sV a 2) [0,0]:=ib [0,0] h.h0 (by decide) (by decide);have i1:aU W (sV b 2) [1,1]:=ib [1,1] h.h1 (by decide) (by decide);have t:=ae h.row;refine⟨kq h.row i0 i1,⟨some ⟨B,0,none⟩,2,rfl,⟨by simp,by omega,fun e=>by cases e⟩,by simp,fun i x hx=>⟨B,0,rfl,?_⟩⟩,⟨some ⟨B,1,none⟩,1,rfl,⟨by simp,by omega,fun e=>by cases e⟩,by simp,fun i x hx=>⟨B,1,rfl,?_⟩⟩⟩
 all_goals
  obtain⟨hi,rfl⟩:=List.getElem?_eq_some_iff.1 hx;obtain rfl:i=0:=by simp at hi;omega
 ·exact⟨_,t 0,i0⟩
 ·exact⟨_,t 1,i1⟩
theorem uZ(w:World):bF w (.slice none 0 0) []:=⟨none,0,rfl,⟨by simp,by omega,fun _=>rfl⟩,by simp,fun i x hx=>by simp at hx⟩
theorem sf.cases{W:World} {B a b c i0 i1 i2 i3:Nat} (h:sf W B c i0 i1 i2 i3) (k:BothB W B a b):bJ W (sV c 4) exCs:=by
 obtain⟨hr,h0,h1,h2,h3⟩:=h;obtain⟨k1,k2,k3⟩:=k.vecs;have t:=ae hr;refine⟨some ⟨c,0,none⟩,4,rfl,⟨by simp[exCs],by omega,fun e=>by cases e⟩,by simp[exCs],fun i x hx=>⟨c,0,rfl,?_⟩⟩;obtain⟨hi,rfl⟩:=List.getElem?_eq_some_iff.1 hx;rcases (show i=0\/i=1\/i=2\/i=3 by simp[exCs]at hi;omega) with rfl|rfl|rfl|rfl
 ·exact⟨⟨_,t 0,ib [0,0] h0 (by decide) (by decide)⟩,⟨_,t 1,k2⟩,⟨_,t 2,uZ _⟩⟩
 ·exact⟨⟨_,t 3,ib [0,1] h1 (by decide) (by decide)⟩,⟨_,t 4,k1⟩,⟨_,t 5,uZ _⟩⟩
 ·exact⟨⟨_,t 6,ib [1,0] h2 (by decide) (by decide)⟩,⟨_,t 7,k1⟩,⟨_,t 8,uZ _⟩⟩
 ·exact⟨⟨_,t 9,ib [1,1] h3 (by decide) (by decide)⟩,⟨_,t 10,k3⟩,⟨_,t 11,uZ _⟩⟩
def lC(xs:List St):List Value:=xs.flatMap fun s=>s.c.toList
theorem N1{w:World} {base:Nat} {v:Value} {l:List St} (h:aL w base 100 8 v l.length (lC l)) (hx:∀ s∈l,s.In) (hn:l.length<=17592186044416):dh w v l:=by
 have aM:=fun i (hi:i<l.length) j (u:Value) (hj:j<8) (hu:l[i].c[j]?=some u)=>h.cell (i * 8+j) u (by unfold lC;rw[k7 St.c 8 (fun _=>rfl) l i j hi hj];exact hu)
 rcases h.2 with ⟨hz,h0⟩|⟨g,cap,cur,fz,rfl,_,hg,_,kj,fg,_⟩
 ·refine⟨none,0,by rw[hz,h0],⟨by omega,by omega,fun _=>rfl⟩,hn,fun i x hi=>?_⟩
  have:=(List.getElem?_eq_some_iff.1 hi).1;omega
 ·refine⟨some ⟨g,0,none⟩,cap,rfl,⟨kj,by simp only[maxLen]at fg;omega,fun e=>by cases e⟩,hn,fun i x hi=>⟨g,0,rfl,?_⟩⟩
  obtain⟨dI,rfl⟩:=List.getElem?_eq_some_iff.1 hi;obtain⟨r0,r1,r2,r3,r4,r5,r6,r7⟩:=hx _ (List.getElem_mem dI)
  have key:∀ j u,j<8->l[i].c[j]?=some u->w.cell? ⟨g,0+i * 8+j,none⟩=some u:=fun j u hj hu=>by
   obtain⟨g',c',e1,e2⟩:=aM i dI j u hj hu;have:g=g':=by simp at e1;exact e1.1
   rw[this,Nat.zero_add];exact e2
  exact⟨⟨key 0 _ (by omega) rfl,r0⟩,⟨key 1 _ (by omega) rfl,r1⟩,⟨key 2 _ (by omega) rfl,r2⟩,⟨key 3 _ (by omega) rfl,r3⟩,⟨key 4 _ (by omega) rfl,r4⟩,⟨key 5 _ (by omega) rfl,r5⟩,⟨key 6 _ (by omega) rfl,r6⟩,key 7 _ (by omega) rfl,r7⟩
theorem Tryz.infoStep:(Tryz.prog.info? 100).map (fun i=>(i.zero,i.size,i.bytes))=some (some (.agg #[.int .i64 0,.int .i64 0,.int .i64 0,.int .i64 0,.int .i64 0,.int .i64 0,.int .i64 0,.int .i64 0]),8,64):=by kernel_rfl
theorem Ue{w W:World} {B b c i0 i1 i2 i3:Nat} {v:Value} (hb:Below w.heap.size w W) (fh:w.heap.size<=b) (fQ:W.heap[b]?=some (.cells #[.int .i64 0,.int .i64 0,.int .i64 0,.slice none 0 0] 24)) (hc:sf W B c i0 i1 i2 i3) :
  Below w.heap.size w (W.setRow b #[.int .i64 2,.int .i64 2,.int .i64 2,v])/\(W.setRow b #[.int .i64 2,.int .i64 2,.int .i64 2,v]).heap[b]?=some (.cells #[.int .i64 2,.int .i64 2,.int .i64 2,v] 24)/\sf (W.setRow b #[.int .i64 2,.int .i64 2,.int .i64 2,v]) B c i0 i1 i2 i3:=
 ⟨below_setRow hb fh _,setRow_heap _ _ _ _ _ _ fQ,hc.keep fun k o t ht hk=>by
  rw[setRow_other _ _ _ _ (fun e=>by
   subst e;rw[fQ]at hk;simp only[Option.some.injEq,Obj.cells.injEq]at hk
   rcases ht with h|h<;>(rw[h]at hk;exact absurd hk.2.1 (by decide)))]
  exact hk⟩
def mZ:Array Value:=#[.int .i64 0,.int .i64 0,.int .i64 0,.int .i64 0,.slice none 0 0,.slice none 0 0,.slice none 0 0,.slice none 0 0]
def mC(vf vy v vo:Value):Array Value:=#[.int .i64 2,.int .i64 1,.int .i64 2,.int .i64 2,vf,vy,v,vo]
theorem xsN_two:xsN 2=[⟨0,0,0,-1,-1,-1,-1,0⟩,⟨0,0,0,0,-1,-1,-1,0⟩,⟨0,0,0,1,-1,-1,-1,0⟩,⟨0,0,1,-1,-1,-1,-1,1⟩,⟨0,0,1,0,-1,-1,-1,0⟩,⟨0,0,1,1,-1,-1,-1,1⟩,⟨0,1,-1,0,-1,-1,-1,0⟩,⟨0,1,-1,1,-1,-1,-1,1⟩,⟨0,1,0,0,-1,-1,-1,0⟩,⟨0,1,0,1,-1,-1,-1,0⟩,⟨0,1,1,0,-1,-1,-1,0⟩,⟨0,1,1,1,-1,-1,-1,1⟩]:=rfl
theorem xsN_in:∀ s∈xsN 2,s.In:=by rw[xsN_two];simp[St.In,bK]
structure EI (w:World) (vf vy vo:Value) (l:List St) (W:World):Prop where
 below:Below w.heap.size w W
 box:∃ v,W.heap[w.heap.size]?=some (.cells (mC vf vy v vo) 35)/\aL W w.heap.size 100 8 v l.length (lC l)
theorem EI.start(w:World) (vf vy vo:Value):EI w vf vy vo [] ((w.alloc (.cells mZ 35)).setRow w.heap.size (mC vf vy (.slice none 0 0) vo)):=
 ⟨below_setRow (by go_grown) (Nat.le_refl _) _,_,setRow_heap _ _ _ _ _ _ (ar _ _),aL.nil _ _ _ _⟩
theorem EI.bx{w W:World} {vf vy vo:Value} {l:List St} (h:EI w vf vy vo l W):w.heap.size<W.heap.size:=by
 obtain⟨_,h1,_⟩:=h.box;exact aB h1
theorem EI.grow{w W W':World} {vf vy vo:Value} {l:List St} (h:EI w vf vy vo l W) (hb:Below W.heap.size W W'):EI w vf vy vo l W':=by
 obtain⟨v,h1,h2⟩:=h.box;exact⟨h.below.trans (hb.mono h.below.size),v,ak hb h1,h2.up hb⟩
theorem Uf(p a b:Nat):(Kp p a b).length<=1:=by
 have key:∀ (c:Prop) [Decidable c] (x:St),(if c then [] else [x]).length<=1:=fun c _ x=>by split<;>simp
 exact key _ _
theorem Hy(p a:Nat):∀ b,(oH p a b).length<=b
 | 0=>by simp[oH]
 | b+1=>by rw[Hv,List.length_append];have:=Hy p a b;have:=Uf p a b;omega
theorem Hz(p:Nat):∀ a,(nV p a).length<=3 * a
 | 0=>by simp[nV]
 | a+1=>by rw[Hw,List.length_append];have:=Hz p a;have:=Hy p a 3;omega
theorem TM(p:Nat):(xsN p).length<=9 * p:=by
 induction p with
 | zero=>simp[xsN]
 | succ p ih=>rw[Hx,List.length_append];have:=Hz p 3;omega
theorem N2(p a b:Nat):(xsN p++nV p a++oH p a b).length<=9 * p+3 * a+b:=by
 rw[List.length_append,List.length_append];have:=TM p;have:=Hz p a;have:=Hy p a b;omega
theorem cQ.of_below{b:Nat} {w w' W:World} (hb:Below w.heap.size w w') (h:cQ b w' W):cQ b w W:=fun k o hk ho hc=>h k o hk (ak hb ho) hc
theorem QK(W X:World) (hk:cQ W.heap.size (([iC [0,1],iC [0,1],.cells #[sV W.heap.size 2,sV (W.heap.size+1) 2] 36]:List Obj).foldl World.alloc W) X):bF X (sV (W.heap.size+2) 2) exM8.first:=by
 have g:=fun i o (h:([iC [0,1],iC [0,1],.cells #[sV W.heap.size 2,sV (W.heap.size+1) 2] 36]:List Obj)[i]?=some o)=>hk _ _ (Nat.le_add_right _ i) (fW _ W i h)
 exact kq (g 2 _ rfl rfl) (ib [0,1] (g 0 _ rfl rfl) (by decide) (by decide)) (ib [0,1] (g 1 _ rfl rfl) (by decide) (by decide))
theorem Ug(W X:World) (hk:cQ W.heap.size (([iC [-1,-1],iC [-1,-1],.cells #[sV W.heap.size 2,sV (W.heap.size+1) 2] 36,iC [0,1],iC [0,1],.cells #[sV (W.heap.size+3) 2,sV (W.heap.size+4) 2] 36,.cells #[sV (W.heap.size+2) 2,sV (W.heap.size+5) 2] 30]:List Obj).foldl World.alloc W) X):fj X (sV (W.heap.size+6) 2) exM8.out:=by
 have g:=fun i o h=>hk _ _ (Nat.le_add_right _ i) (fW ([iC [-1,-1],iC [-1,-1],.cells #[sV W.heap.size 2,sV (W.heap.size+1) 2] 36,iC [0,1],iC [0,1],.cells #[sV (W.heap.size+3) 2,sV (W.heap.size+4) 2] 36,.cells #[sV (W.heap.size+2) 2,sV (W.heap.size+5) 2] 30]:List Obj) W i (o:=o) h)
 exact kq (g 6 _ rfl rfl) (kq (g 2 _ rfl rfl) (ib [-1,-1] (g 0 _ rfl rfl) (by decide) (by decide)) (ib [-1,-1] (g 1 _ rfl rfl) (by decide) (by decide))) (kq (g 5 _ rfl rfl) (ib [0,1] (g 3 _ rfl rfl) (by decide) (by decide)) (ib [0,1] (g 4 _ rfl rfl) (by decide) (by decide)))
theorem TN(W X:World) (hk:cQ W.heap.size (([iC [0,1],.cells #[.slice none 0 0,sV W.heap.size 2] 36,iC [0,1],.cells #[sV (W.heap.size+2) 2,.slice none 0 0] 36,.cells #[sV (W.heap.size+1) 2,sV (W.heap.size+3) 2] 30,.cells #[sV (W.heap.size+4) 2] 33]:List Obj).foldl World.alloc W) X):eZ X (sV (W.heap.size+5) 1) exM8.syms:=by
 have g:=fun i o h=>hk _ _ (Nat.le_add_right _ i) (fW ([iC [0,1],.cells #[.slice none 0 0,sV W.heap.size 2] 36,iC [0,1],.cells #[sV (W.heap.size+2) 2,.slice none 0 0] 36,.cells #[sV (W.heap.size+1) 2,sV (W.heap.size+3) 2] 30,.cells #[sV (W.heap.size+4) 2] 33]:List Obj) W i (o:=o) h)
 have n3:=QB X;exact Et (g 5 _ rfl rfl) (kq (g 4 _ rfl rfl) (kq (g 1 _ rfl rfl) n3 (ib [0,1] (g 0 _ rfl rfl) (by decide) (by decide))) (kq (g 3 _ rfl rfl) (ib [0,1] (g 2 _ rfl rfl) (by decide) (by decide)) n3))
theorem Ge(a b:List Mv):ii (a++b)=ii a++ii b:=by simp[ii]
theorem LV(a b:List St):lC (a++b)=lC a++lC b:=by simp[lC]
theorem EI.app{w W Wa W3:World} {vf vy vo:Value} {l:List St} {s:St} {v v':Value} (h:EI w vf vy vo l W) (hb:Below W.heap.size W Wa) (hv:W.heap[w.heap.size]?=some (.cells (mC vf vy v vo) 35)) (ho:aL W w.heap.size 100 8 v l.length (lC l))
  (hg:Wa.grownBy W3 v.ownBlock) (oA:aL W3 w.heap.size 100 8 v' (l.length+1) (lC l++s.c.toList)):EI w vf vy vo (l++[s]) (W3.setCell ⟨w.heap.size,6,none⟩ v'):=by
 have zJ:=ho.up hb;have hz:=h.below.size;have gQ:=(hg.block _ (aB (ak hb hv)) fun e=>zJ.ne (ak hb hv) (by decide) _ e.symm rfl).trans (ak hb hv);refine⟨?_,v',?_,?_⟩
 ·exact(Below.grown (h.below.trans (hb.mono hz)) hg (Nat.le_trans hz hb.size) (fun g hg=>(zJ.lt g hg).1)).setCell (p:=⟨w.heap.size,6,none⟩) (Nat.le_refl _) _
 ·rw[aE gQ];rfl
 ·rw[List.length_append,LV]
  have:=oA.keep (w':=W3.setCell ⟨w.heap.size,6,none⟩ v') fun g o hgu Pn=>by
   rw[Below.heap_setCell _ ⟨w.heap.size,6,none⟩ _ _ (oA.ne gQ (by decide) g hgu)];exact Pn
  simpa[lC] using this
abbrev WO(c:Nat):Value:=.agg #[.int .i64 2,.int .i64 2,.int .i64 2,sV c 4]
abbrev N3(c g:Nat):Array Value:=#[.int .i64 2,.int .i64 2,.int .i64 2,sV c 4,.int .i64 2,sV g 1,.int .i64 1]
def V8(mv:Value) (M:Array Value) (c base:Nat) (j:Nat) (v:Value) (W:World):Prop:=
 match j with
 | 0=>v=WO c
 | 1=>v=mv
 | 2=>∃ g,v=sV g 1/\base<=g/\W.heap[g]?=some (.cells #[mv] 94)
 | 3=>∃ g,v=.agg #[.int .i64 2,sV g 1]/\base<=g/\W.heap[g]?=some (.cells #[mv] 94)
 | 4=>∃ g,v=.agg (N3 c g)/\base<=g/\W.heap[g]?=some (.cells #[mv] 94)
 | 5=>v=.agg M
 | _=>True
theorem V8.keep{mv:Value} {M:Array Value} {c base j:Nat} {v:Value} {W W':World} (h:V8 mv M c base j v W) (hk:∀ k o,base<=k->W.heap[k]?=some o->W'.heap[k]?=some o):V8 mv M c base j v W':=by
 match j,h with
 | 0,h=>exact h
 | 1,h=>exact h
 | 2,⟨g,e,hg,h⟩=>exact⟨g,e,hg,hk _ _ hg h⟩
 | 3,⟨g,e,hg,h⟩=>exact⟨g,e,hg,hk _ _ hg h⟩
 | 4,⟨g,e,hg,h⟩=>exact⟨g,e,hg,hk _ _ hg h⟩
 | 5,h=>exact h
 | _+6,_=>exact trivial
structure E8 (w wr:World) (mv:Value) (M:Array Value) (c:Nat) (D:Nat->Bool) (x:Nat->Value) (W:World):Prop where
 old:Below w.heap.size w W
 size:wr.heap.size<=W.heap.size
 key:∀ k o,k≠w.heap.size->k≠w.heap.size+1->wr.heap[k]?=some o->W.heap[k]?=some o
 v:∀ j,j<6->D j=true->V8 mv M c (w.heap.size+2) j (x j) W
 p:∃ cs,W.heap[w.heap.size]?=some (.cells cs 29)/\cs.size=7/\(D 6=true->D 4=true/\x 4=.agg cs)
 m:∃ cs,W.heap[w.heap.size+1]?=some (.cells cs 35)/\cs.size=8/\(D 7=true->cs=M)
theorem E8.start{w wr:World} {mv:Value} {M:Array Value} {c:Nat} {x:Nat->Value} (hP:wr.heap[w.heap.size]?=some (.cells #[.int .i64 0,.int .i64 0,.int .i64 0,.slice none 0 0,.int .i64 0,.slice none 0 0,.int .i64 0] 29)) (hM:wr.heap[w.heap.size+1]?=some (.cells mZ 35)) (hb:Below w.heap.size w wr):E8 w wr mv M c (fun _=>false) x wr:=
 ⟨hb,Nat.le_refl _,fun _ _ _ _ h=>h,nofun,⟨_,hP,rfl,nofun⟩,⟨_,hM,rfl,nofun⟩⟩
theorem E8.grow{w wr W W':World} {mv:Value} {M:Array Value} {c:Nat} {D:Nat->Bool} {x:Nat->Value} (h:E8 w wr mv M c D x W) (hb:Below W.heap.size W W'):E8 w wr mv M c D x W':=by
 obtain⟨ps,p1,p2,p3⟩:=h.p;obtain⟨ms,m1,m2,m3⟩:=h.m;exact⟨aj h.old hb,Nat.le_trans h.size hb.size,fun k o h1 h2 h3=>ak hb (h.key k o h1 h2 h3),fun j hj hd=>(h.v j hj hd).keep fun k o _ ho=>ak hb ho,⟨ps,ak hb p1,p2,p3⟩,⟨ms,ak hb m1,m2,m3⟩⟩
theorem E8.set{w wr W:World} {mv:Value} {M:Array Value} {c:Nat} {D:Nat->Bool} {x:Nat->Value} (h:E8 w wr mv M c D x W) (i:Nat) (hi:i<6) {v:Value} (hD:D i=false) (hv:V8 mv M c (w.heap.size+2) i v W):E8 w wr mv M c (bB D i) (cF x i v) W:=by
 obtain⟨ps,p1,p2,p3⟩:=h.p;obtain⟨ms,m1,m2,m3⟩:=h.m;refine⟨h.old,h.size,h.key,fun j hj hd=>?_,⟨ps,p1,p2,fun hd=>?_⟩,⟨ms,m1,m2,fun hd=>m3 (by simpa[bB,show 7≠i by omega] using hd)⟩⟩
 ·by_cases e:j=i
  ·subst e;rw[iG];exact hv
  ·rw[gS _ _ e];exact h.v j hj (by simpa[bB,e] using hd)
 ·have h6:=p3 (by simpa[bB,show 6≠i by omega] using hd)
  have h4:(4:Nat)≠i:=fun e=>by subst e;rw[hD]at h6;cases h6.1
  rw[gS _ _ h4];exact⟨by simpa[bB,h4] using h6.1,h6.2⟩
theorem E8.storeP{w wr W:World} {mv:Value} {M:Array Value} {c:Nat} {D:Nat->Bool} {x:Nat->Value} (h:E8 w wr mv M c D x W) (h4:D 4=true) {cs:Array Value} (hx:x 4=.agg cs) (hs:cs.size=7):E8 w wr mv M c (bB D 6) x (W.setRow w.heap.size cs):=by
 obtain⟨ps,p1,p2,p3⟩:=h.p;obtain⟨ms,m1,m2,m3⟩:=h.m;refine⟨below_setRow h.old (Nat.le_refl _) _,by simpa using h.size,fun k o h1 h2 h3=>?_,fun j hj hd=>(h.v j hj (by simpa[bB,show j≠6 by omega] using hd)).keep fun k o hk ho=>?_,⟨cs,setRow_heap _ _ _ _ _ _ p1,hs,fun _=>⟨by simpa[bB] using h4,hx⟩⟩,⟨ms,?_,m2,fun hd=>m3 (by simpa[bB] using hd)⟩⟩
 ·rw[setRow_other _ _ _ _ h1];exact h.key k o h1 h2 h3
 ·rw[setRow_other _ _ _ _ (by omega)];exact ho
 ·rw[setRow_other _ _ _ _ (by omega)];exact m1
theorem E8.storeM{w wr W:World} {mv:Value} {M:Array Value} {c:Nat} {D:Nat->Bool} {x:Nat->Value} (h:E8 w wr mv M c D x W) (hs:M.size=8):E8 w wr mv M c (bB D 7) x (W.setRow (w.heap.size+1) M):=by
 obtain⟨ps,p1,p2,p3⟩:=h.p;obtain⟨ms,m1,m2,m3⟩:=h.m;refine⟨below_setRow h.old (by omega) _,by simpa using h.size,fun k o h1 h2 h3=>?_,fun j hj hd=>(h.v j hj (by simpa[bB,show j≠7 by omega] using hd)).keep fun k o hk ho=>?_,⟨ps,?_,p2,fun hd=>?_⟩,⟨M,setRow_heap _ _ _ _ _ _ m1,hs,fun _=>rfl⟩⟩
 ·rw[setRow_other _ _ _ _ h2];exact h.key k o h1 h2 h3
 ·rw[setRow_other _ _ _ _ (by omega)];exact ho
 ·rw[setRow_other _ _ _ _ (by omega)];exact p1
 ·have:=p3 (by simpa[bB] using hd)
  exact⟨by simpa[bB] using this.1,this.2⟩
theorem TO{w W' X:World} {B c i0 i1 i2 i3 base base2:Nat} {mv vf vy vt vo:Value} {M:Array Value} {D:Nat->Bool} {x:Nat->Value} (hP:W'.heap[w.heap.size]?=some (.cells #[.int .i64 0,.int .i64 0,.int .i64 0,.slice none 0 0,.int .i64 0,.slice none 0 0,.int .i64 0] 29)) (hM:W'.heap[w.heap.size+1]?=some (.cells mZ 35))
  (hV:BothB W' B (w.heap.size+2) (w.heap.size+3)) (hB:w.heap.size+2<=B) (hC:sf W' B c i0 i1 i2 i3) (KS:aL W' base 98 8 mv 3 (ii exMv)) (rf:w.heap.size+2<=base)
  (S9:∀ X,cQ (w.heap.size+2) W' X->bF X vf exM8.first) (C9:∀ X,cQ (w.heap.size+2) W' X->eZ X vy exM8.syms) (zz:∀ X,cQ (w.heap.size+2) W' X->fj X vo exM8.out) (hvt:aL W' base2 100 8 vt (xsN 2).length (lC (xsN 2))) (aS:w.heap.size+2<=base2) (hE:E8 w W' mv M c D x X) (aM:∀ j,j<8->D j=true) :
  ∃ g,X.heap[w.heap.size]?=some (.cells (N3 c g) 29)/\X.heap[w.heap.size+1]?=some (.cells M 35) ∧
  bJ X (sV c 4) exCs/\bn X (sV g 1) [exMv]/\bF X vf exM8.first/\eZ X vy exM8.syms/\dh X vt exM8.steps/\fj X vo exM8.out/\Below w.heap.size w X:=by
 obtain⟨ps,p1,_,p3⟩:=hE.p;obtain⟨ms,m1,_,m3⟩:=hE.m;obtain⟨g,e4,hg2,hg⟩:=hE.v 4 (by omega) (aM 4 (by omega));have e6:=(p3 (aM 6 (by omega))).2;rw[e4]at e6;cases e6;rw[m3 (aM 7 (by omega))]at m1;have key:=hE.key;have hK:cQ (w.heap.size+2) W' X:=fun k o hk ho _=>key k o (by omega) (by omega) ho
 have hVX:BothB X B (w.heap.size+2) (w.heap.size+3):=⟨key _ _ (by omega) (by omega) hV.row,key _ _ (by omega) (by omega) hV.h0,key _ _ (by omega) (by omega) hV.h1⟩;have hCX:sf X B c i0 i1 i2 i3:=hC.keep fun k o t ht hk=>key k _ (fun e=>by subst e;rw[hP]at hk;simp only[Option.some.injEq,Obj.cells.injEq]at hk;rcases ht with h|h<;>(rw[h]at hk;exact absurd hk.2.1 (by decide))) (fun e=>by subst e;rw[hM]at hk;simp only[Option.some.injEq,Obj.cells.injEq]at hk;rcases ht with h|h<;>(rw[h]at hk;exact absurd hk.2.1 (by decide))) hk
 refine⟨g,p1,m1,hCX.cases hVX,?_,S9 X hK,C9 X hK,?_,zz X hK,hE.old⟩
 ·exact Et hg (Ez (KS.keeps hK rf) (by simp[exMv,cA,nl,bK]) (by decide))
 ·exact N1 (hvt.keeps hK aS) xsN_in (by show (xsN 2).length<=_;rw[xsN_two];decide)
theorem JX(tmps:Array Value) (A B:Nat) (W:World) (P M:Array Value) (ty ty':TypeId) (h1:tmps[0]?.getD undef=.pointer (some ⟨A,0,none⟩)) (h2:tmps[1]?.getD undef=.pointer (some ⟨B,0,none⟩))
  (hb:∃ a b c d e f g,P=#[a,b,c,d,e,f,g]/\W.heap[A]?=some (.cells #[a,b,c,d,e,f,g] ty)) (hc:∃ a b c d e f g h,M=#[a,b,c,d,e,f,g,h]/\W.heap[B]?=some (.cells #[a,b,c,d,e,f,g,h] ty')) :
  (results Tryz.f13 tmps).run Tryz.prog W=.ok (.tuple #[.agg P,.agg M]) W:=by
 obtain⟨_,_,_,_,_,_,_,rfl,hb⟩:=hb;obtain⟨_,_,_,_,_,_,_,_,rfl,hc⟩:=hc;have c1:=ae hb;have c2:=ae hc;simp[results,Tryz.results13,go_sem,h1,h2,c1,c2]
end Go.Proofs.YtkfgpnbpcpdclaaGreat
namespace Go.Proofs.YtkfgpnbpcpdclaaGreat
theorem EE(a:List Int):∀ b,ordV a b<0↔0<ordV b a:=by
 induction a with
 | nil=>intro b;cases b<;>simp[ordV]
 | cons x r ih=>
  intro b;cases b with
  | nil=>simp[ordV]
  | cons y s=>
   rw[ordV,ordV];have:=ih s
   grind
theorem u5(a:List Int):∀ b,ordV a b=0↔a=b:=by
 induction a with
 | nil=>intro b;cases b<;>simp[ordV]
 | cons x r ih=>
  intro b;cases b with
  | nil=>simp[ordV]
  | cons y s=>
   rw[ordV];have:=ih s;rw[List.cons.injEq]
   grind
theorem QL{a b:Rd} (h:a.list=b.list):a=b:=by
 obtain⟨⟨_,_,_,_,_,_⟩,_⟩:=a;obtain⟨⟨_,_,_,_,_,_⟩,_⟩:=b;simp[Rd.list]at h;simp[h]
theorem nW(a b:Rd):roundC a b=0↔a=b:=by
 rw[mx,u5];exact⟨QL,fun h=>by rw[h]⟩
theorem pF(a b:Rd):roundC a b<0↔0<roundC b a:=by rw[mx,mx];exact EE _ _
theorem j7{a b c:Rd} (h1:roundC a b<0) (h2:roundC b c<0):roundC a c<0:=by
 rw[mx]at *;exact kE h1 h2
theorem nX(a:Rd):¬ roundC a a<0:=by
 have:=(nW a a).2 rfl;omega
def j8(l:List Rd):Prop:=l.Pairwise fun a b=>roundC a b<0
theorem H6(r x:Rd) (l:List Rd):x∈uU r l↔x=r\/x∈l:=by
 induction l with
 | nil=>simp[uU]
 | cons y l ih=>
  unfold uU;by_cases h1:roundC r y<0
  ·simp[h1]
  ·by_cases h2:roundC r y=0
   ·have:=(nW r y).1 h2
    subst this;simp[h2]
   ·simp only[if_neg h1,if_neg h2,List.mem_cons,ih]
    grind
theorem JY(r:Rd) (l:List Rd) (h:j8 l):j8 (uU r l):=by
 induction l with
 | nil=>simp[uU,j8]
 | cons y l ih=>
  unfold uU;have h':=List.pairwise_cons.1 h;by_cases h1:roundC r y<0
  ·rw[if_pos h1]
   refine List.pairwise_cons.2 ⟨fun x hx=>?_,h⟩;rcases List.mem_cons.1 hx with rfl|hx
   ·exact h1
   ·exact j7 h1 (h'.1 x hx)
  ·by_cases h2:roundC r y=0
   ·rw[if_neg h1,if_pos h2];exact h
   ·rw[if_neg h1,if_neg h2]
    refine List.pairwise_cons.2 ⟨fun x hx=>?_,ih h'.2⟩;rcases (H6 r x l).1 hx with rfl|hx
    ·have:=pF y x
     omega
    ·exact h'.1 x hx
theorem sorted_unique:∀ (a b:List Rd),j8 a->j8 b->(∀ x,x∈a↔x∈b)->a=b:=by
 intro a;induction a with
 | nil=>
  intro b _ _ h;cases b with
  | nil=>rfl
  | cons y s=>have:=(h y).2 (by simp);simp at this
 | cons x r ih=>
  intro b ha hb h;cases b with
  | nil=>have:=(h x).1 (by simp);simp at this
  | cons y s=>
   have Cp:=List.pairwise_cons.1 ha;have eS:=List.pairwise_cons.1 hb
   have iW:x=y:=by
    rcases List.mem_cons.1 ((h x).1 (by simp)) with e|e
    ·exact e
    ·rcases List.mem_cons.1 ((h y).2 (by simp)) with e2|e2
     ·exact e2.symm
     ·exact absurd (j7 (Cp.1 y e2) (eS.1 x e)) (nX x)
   subst iW;congr 1;refine ih s Cp.2 eS.2 fun z=>⟨fun hz=>?_,fun hz=>?_⟩
   ·rcases List.mem_cons.1 ((h z).1 (by simp[hz])) with e|e
    ·subst e;exact absurd (Cp.1 z hz) (nX z)
    ·exact e
   ·rcases List.mem_cons.1 ((h z).2 (by simp[hz])) with e|e
    ·subst e;exact absurd (eS.1 z hz) (nX z)
    ·exact e
theorem DK(a:Adv):j8 (cW a):=by
 unfold cW;generalize (a.states.flatMap fun l=>l.map (·.r))=l;induction l with
 | nil=>simp[j8]
 | cons x l ih=>exact JY x _ ih
theorem pG(a:Adv) (x:Rd):x∈cW a↔∃ l∈a.states,∃ m∈l,m.r=x:=by
 unfold cW
 have key:∀ l:List Rd,x∈l.foldr uU []↔x∈l:=by
  intro l;induction l with
  | nil=>simp
  | cons y l ih=>rw[List.foldr_cons,H6,ih,List.mem_cons]
 rw[key];simp
theorem QM(p:Pb) (words:List (List Rd)) (l:List (Nat × Nat)):∀ st:List Vw × List Ex,(l.foldl (nQ p words) st).2.map (fun e=>(e.c,e.word))=st.2.map (fun e=>(e.c,e.word))++l.map fun x=>((x.1:Int),words.getD x.2 []):=by
 induction l with
 | nil=>intro st;simp
 | cons a r ih=>
  intro st;rw[List.foldl_cons,ih];simp[nQ]
theorem zo(p:Pb):(dR p).ex.map (fun e=>(e.c,e.word))=(lq p.t.cases.length (aZ p).length).map fun x=>((x.1:Int),(aZ p).getD x.2 []):=by
 have h:=QM p (aZ p) (lq p.t.cases.length (aZ p).length) ([],[]);simpa[dR,execsS] using h
theorem QN{c n:Nat} {x:Nat × Nat} (h:x∈lq c n):x.1<c/\x.2<n:=by
 unfold lq at h;obtain⟨i,hi,hx⟩:=List.mem_flatMap.1 h;obtain⟨j,hj,rfl⟩:=List.mem_map.1 hx;exact⟨List.mem_range.1 hi,List.mem_range.1 hj⟩
theorem pV(p:Pb):(dR p).ex.length=(aN p).length:=by
 have h:=congrArg List.length (zo p);simpa[aN] using h
theorem AG(p:Pb) (i:Nat) (hi:i<(dR p).ex.length):∃ c:Nat,c<p.t.cases.length/\(dR p).ex[i].c=c/\(aN p).getD i default=⟨(p.t.cases.getD c default).inp,(dR p).ex[i].word⟩:=by
 have hl:i<(aN p).length:=by rw[<-pV];exact hi
 have l8:i<(lq p.t.cases.length (aZ p).length).length:=by simpa[aN] using hl
 have h:=congrArg (fun l=>l[i]?) (zo p);simp only[List.getElem?_map,List.getElem?_eq_getElem hi,List.getElem?_eq_getElem l8,Option.map_some,Option.some.injEq,Prod.mk.injEq]at h;have hm:=QN (List.getElem_mem l8);refine⟨_,hm.1,h.1,?_⟩;rw[List.getD_eq_getElem?_getD];unfold aN;rw[List.getElem?_map,List.getElem?_eq_getElem l8,h.2];rfl
structure OkR (n:Int) (r:Rd):Prop where
 gn:r.g.n=n
 h:∀ q,q<5->0<=r.g.hear q/\r.g.hear q<32
 z:∀ q:Nat,n<=q->q<5->r.g.hear q=0
 n1:1<=n/\n<=5
 f:0<=r.f/\r.f<32
theorem QO{g:Gr} (h:ic g=0):(∀ q,q<5->0<=g.hear q/\g.hear q<32)/\(∀ q:Nat,g.n<=q->q<5->g.hear q=0)/\1<=g.n/\g.n<=5:=by
 unfold ic at h;split at h
 ·omega
 rename_i h1;have h2:=gX h;have hn:g.n=1\/g.n=2\/g.n=3\/g.n=4\/g.n=5:=by omega
 have key:∀ q,q<5->(0<=g.hear q/\g.hear q<32)/\(g.n<=(q:Int)->g.hear q=0):=fun q hq=>by
  have h3:=h2 q hq;unfold mL at h3;split at h3
  ·split at h3
   ·omega
   ·rename_i h4
    exact⟨by omega,fun _=>by omega⟩
  ·split at h3
   ·omega
   ·rename_i h4 h5
    refine⟨?_,fun e=>absurd e h4⟩;rcases hn with e|e|e|e|e<;>rw[e]at h5<;>simp at h5<;>omega
 exact⟨fun q hq=>(key q hq).1,fun q hn hq=>(key q hq).2 hn,by omega,by omega⟩
theorem lD{a:Adv} (ha:advE a=0) {r:Rd} (h:r∈cW a):OkR a.n r:=by
 obtain⟨l,hl,m,hm,rfl⟩:=(pG a r).1 h;obtain⟨s,hs,rfl⟩:=List.getElem_of_mem hl;obtain⟨j,hj,rfl⟩:=List.getElem_of_mem hm;have h1:=(iP ha).2.1 s hs;rw[show a.states.getD s []=a.states[s] by simp[hs]]at h1;unfold stateE at h1;rw[if_neg (by omega)]at h1;have h2:=gX h1 j hj;have hf:=(Dn h2).1;unfold dF at h2;rw[show a.states[s].getD j default=a.states[s][j] by simp[hj]]at h2 hf;split at h2
 ·rename_i h3;exact absurd h2 h3
 rename_i h3;split at h2
 ·omega
 rename_i h4;have h5:roundE a.states[s][j].r=0:=by simpa using h3
 unfold roundE at h5;split at h5
 ·rename_i h6;exact absurd h5 h6
 rename_i h6;obtain⟨g1,g2,g3,g4⟩:=QO (by simpa using h6);have hn:a.states[s][j].r.g.n=a.n:=by simpa using h4
 rw[hn]at g2 g3 g4;exact⟨hn,g1,g2,⟨g3,g4⟩,hf⟩
theorem LW{a:Adv} {s:Int} {r:Rd} (h:¬ qD a s r<0):r∈cW a:=by
 unfold qD at h;cases hf:(a.states.getD s.toNat []).find? fun m=>decide (r=m.r) with
 | none=>rw[hf]at h;simp at h
 | some m=>
  have h1:=List.mem_of_find?_eq_some hf;have h2:=List.find?_some hf;refine(pG a r).2 ⟨a.states.getD s.toNat [],?_,m,h1,by simpa using (of_decide_eq_true h2).symm⟩;by_cases hs:s.toNat<a.states.length
  ·rw[show a.states.getD s.toNat []=a.states[s.toNat] by simp[hs]]
   exact List.getElem_mem hs
  ·rw[show a.states.getD s.toNat []=[] by simp[List.getD_eq_getElem?_getD,List.getElem?_eq_none (by omega:a.states.length<=s.toNat)]]at h1
   cases h1
theorem lE{a:Adv}:∀ (word:List Rd) (s:Int),0<=afterS a s word->∀ r∈word,r∈cW a
 | [],_,_,r,h=>by cases h
 | x :: rest,s,h0,r,h=>by
  unfold afterS at h0;split at h0
  ·omega
  rename_i h1;rcases List.mem_cons.1 h with rfl|h2
  ·exact LW h1
  ·exact lE rest _ h0 r h2
theorem JZ{x y:Int} (hx:0<=x/\x<32) (hy:0<=y/\y<32) (h:cL x y=true):x<=y:=by
 obtain⟨a,rfl⟩:∃ a:Fin 32,x=a.1:=⟨⟨x.toNat,by omega⟩,by simp;omega⟩;obtain⟨b,rfl⟩:∃ b:Fin 32,y=b.1:=⟨⟨y.toNat,by omega⟩,by simp;omega⟩;have key:∀ a b:Fin 32,cL (a.1:Int) (b.1:Int)=true->a.1<=b.1:=by decide +kernel
 exact Int.ofNat_le.2 (key a b h)
def qZ(r:Rd):Nat:=(31 - r.g.h0).toNat+(31 - r.g.h1).toNat+(31 - r.g.h2).toNat+(31 - r.g.h3).toNat+(31 - r.g.h4).toNat
def iB(x:Py):Nat:=(x.word.map qZ).sum+(x.inp.map Int.toNat).sum
theorem N4{n:Int} {a b:Rd} (ha:OkR n a) (hb:OkR n b) (h:mR a b=true):qZ a<qZ b:=by
 unfold mR at h;simp only[Bool.and_eq_true,Bool.not_eq_true',decide_eq_true_eq]at h;obtain⟨⟨h1,h2⟩,_⟩:=h
 have kl:∀ q,q<5->b.g.hear q<=a.g.hear q:=fun q hq=>by
  by_cases xR:(q:Int)<n
  ·have h3:=(cB _ _).1 h1 q (by rw[hb.gn];omega)
   exact JZ (hb.h q hq) (ha.h q hq) (by simpa using h3)
  ·rw[hb.z q (by omega) hq,ha.z q (by omega) hq]
   exact Int.le_refl _
 have l0:=kl 0 (by omega);have l1:=kl 1 (by omega);have l2:=kl 2 (by omega);have l3:=kl 3 (by omega);have l4:=kl 4 (by omega);have u0:=ha.h 0 (by omega);have u1:=ha.h 1 (by omega);have u2:=ha.h 2 (by omega);have u3:=ha.h 3 (by omega);have u4:=ha.h 4 (by omega);simp only[Gr.hear]at l0 l1 l2 l3 l4 u0 u1 u2 u3 u4
 have bH:¬ (a.g.h0=b.g.h0/\a.g.h1=b.g.h1/\a.g.h2=b.g.h2/\a.g.h3=b.g.h3/\a.g.h4=b.g.h4):=fun ⟨e0,e1,e2,e3,e4⟩=>h2 (by
  have e:=ha.gn.trans hb.gn.symm;cases Ja:a.g;cases iK:b.g;rw[Ja,iK]at e0 e1 e2 e3 e4 e;simp only at e0 e1 e2 e3 e4 e;subst e0 e1 e2 e3 e4 e
  rfl)
 unfold qZ;omega
theorem Kq(f:Rd->Nat):∀ (l:List Rd) (k:Nat) (hk:k<l.length) (r:Rd),((l.set k r).map f).sum+f l[k]=(l.map f).sum+f r
 | [],k,hk,_=>by simp at hk
 | x :: l,0,_,r=>by simp;omega
 | x :: l,k+1,hk,r=>by
  have:=Kq f l k (by simpa using hk) r;simp only[List.set_cons_succ,List.map_cons,List.sum_cons,List.getElem_cons_succ];omega
theorem sum_setI:∀ (l:List Int) (k:Nat) (hk:k<l.length) (r:Int),((l.set k r).map Int.toNat).sum+l[k].toNat=(l.map Int.toNat).sum+r.toNat
 | [],k,hk,_=>by simp at hk
 | x :: l,0,_,r=>by simp;omega
 | x :: l,k+1,hk,r=>by
  have:=sum_setI l k (by simpa using hk) r;simp only[List.set_cons_succ,List.map_cons,List.sum_cons,List.getElem_cons_succ];omega
theorem gu{p:Pb} {x:Py}:cG p x=0↔0<=findE p.t x.inp/\permB p x.word=true:=by
 unfold cG;split
 ·constructor
  ·intro h;omega
  ·intro h;omega
 ·split
  ·rename_i h1 h2;exact⟨fun _=>⟨by omega,h2⟩,fun _=>rfl⟩
  ·rename_i h1 h2;exact⟨fun h=>by omega,fun h=>absurd h.2 h2⟩
theorem kL{p:Pb} {w:List Rd} (h:permB p w=true):(w.length:Int)=p.rounds/\0<=afterS p.a 0 w:=by
 unfold permB at h;simpa using h
theorem iD{p:Pb} {x y:Py} (hp:probE p=0) (hx:cG p x=0) (h:y∈nearS p x):cG p y=0/\iB y<iB x:=by
 obtain⟨dV,fF⟩:=gu.1 hx;have ha:=(cX hp).2.1;unfold nearS at h;rcases List.mem_append.1 h with h|h
 ·obtain⟨k,hk,h⟩:=List.mem_flatMap.1 h
  have hk:=List.mem_range.1 hk;unfold uV at h;obtain⟨r,hr,rfl⟩:=List.mem_map.1 h;obtain⟨rO,zP⟩:=List.mem_filter.1 hr;simp only[Bool.and_eq_true]at zP;refine⟨gu.2 ⟨dV,zP.2⟩,?_⟩;have h1:=zP.1;rw[show x.word.getD k default=x.word[k] by simp[hk]]at h1;have h2:=N4 (lD ha rO) (lD ha (lE _ _ (kL fF).2 _ (List.getElem_mem hk))) h1;have h3:=Kq qZ x.word k hk r
  show ((x.word.set k r).map qZ).sum+(x.inp.map Int.toNat).sum<(x.word.map qZ).sum+(x.inp.map Int.toNat).sum
  omega
 ·obtain⟨q,hq,h⟩:=List.mem_flatMap.1 h
  have hq:=List.mem_range.1 hq;unfold BM at h;obtain⟨v,hv,rfl⟩:=List.mem_map.1 h;obtain⟨gV,li⟩:=List.mem_filter.1 hv;have gV:=List.mem_range.1 gV;refine⟨gu.2 ⟨by simpa using li,fF⟩,?_⟩;rw[show x.inp.getD q 0=x.inp[q] by simp[hq]]at gV;have h3:=sum_setI x.inp q hq (v:Int)
  show (x.word.map qZ).sum+((x.inp.set q (v:Int)).map Int.toNat).sum<(x.word.map qZ).sum+(x.inp.map Int.toNat).sum
  simp only[Int.toNat_natCast]at h3;omega
def nm(p:Pb) (m:Mac):Nat->Py->Py
 | 0,x=>x
 | k+1,x=>match gH p m x with|none=>x|some y=>nm p m k y
def dO(p:Pb) (m:Mac) (x:Py):Py:=nm p m (iB x) x
theorem o7{p:Pb} {m:Mac} {x y:Py} (h:gH p m x=some y):y∈nearS p x/\badB p m y=true:=⟨List.mem_of_find?_eq_some h,List.find?_some h⟩
theorem zp{p:Pb} (m:Mac) (hp:probE p=0):∀ (n:Nat) (x:Py) (k:Nat),iB x=n->cG p x=0->iB x<=k->nm p m k x=dO p m x:=by
 intro n;induction n using Nat.strongRecOn with
 | ind n ih=>
  intro x k hn hx hk;cases hb:gH p m x with
  | none=>
   have e:∀ k,nm p m k x=x:=fun k=>by cases k with|zero=>rfl|succ k=>(unfold nm;rw[hb])
   unfold dO;rw[e,e]
  | some y=>
   obtain⟨h1,h2⟩:=iD hp hx (o7 hb).1;obtain⟨n',wz⟩:∃ n',iB x=n'+1:=⟨iB x - 1,by omega⟩;obtain⟨k',rfl⟩:∃ k',k=k'+1:=⟨k - 1,by omega⟩;unfold dO;rw[wz];unfold nm;rw[hb];dsimp only;rw[ih (iB y) (by omega) y k' rfl h1 (by omega),ih (iB y) (by omega) y n' rfl h1 (by omega)]
theorem mB{p:Pb} (m:Mac) (hp:probE p=0) {x:Py} (hx:cG p x=0):dO p m x=match gH p m x with|none=>x|some y=>dO p m y:=by
 have h:=zp m hp _ x (iB x+1) rfl hx (by omega);rw[<-h];unfold nm;cases hb:gH p m x with
 | none=>rfl
 | some y=>
  obtain⟨h1,h2⟩:=iD hp hx (o7 hb).1;exact zp m hp _ y _ rfl h1 (by omega)
theorem LX{p:Pb} (m:Mac) (hp:probE p=0):∀ (n:Nat) (x:Py),iB x=n->cG p x=0->gH p m (dO p m x)=none/\cG p (dO p m x)=0/\iB (dO p m x)<=iB x:=by
 intro n;induction n using Nat.strongRecOn with
 | ind n ih=>
  intro x hn hx;rw[mB m hp hx];cases hb:gH p m x with
  | none=>exact⟨hb,hx,Nat.le_refl _⟩
  | some y=>
   obtain⟨h1,h2⟩:=iD hp hx (o7 hb).1;have:=ih (iB y) (by omega) y rfl h1;dsimp only;exact⟨this.1,this.2.1,by omega⟩
def dj(p:Pb) (m:Mac) (x:Py):Py × Int:=if beginE p m x≠0 then(⟨[],[]⟩,beginE p m x) else(dO p m x,0)
def jH(p:Pb) (m:Mac) (x:Py):Bool × Int:=if beginE p m x≠0 then(false,beginE p m x) else((gH p m x).isNone,0)
end Go.Proofs.YtkfgpnbpcpdclaaGreat
namespace Go.Proofs.YtkfgpnbpcpdclaaGreat
open Go.RowKit Go Go.Shelf
def gK(w w':World):Prop:=∃ q os,w'=Sort.grow (w.drewN q) os
theorem gK.refl(w:World):gK w w:=⟨0,#[],by rw[Sort.grow_empty];rfl⟩
theorem gK.trans{a b c:World} (h:gK a b) (k:gK b c):gK a c:=by
 obtain⟨q,os,rfl⟩:=h;obtain⟨q',os',rfl⟩:=k;exact⟨q+q',os++os',by show Sort.grow (Sort.grow ((a.drewN q).drewN q') os) os'=_;rw[Sort.grow_grow,World.drewN_drewN]⟩
theorem gK.alloc{a b:World} (h:gK a b) (o:Obj):gK a (b.alloc o):=h.trans ⟨0,#[o],by rw[Sort.alloc_eq_grow];rfl⟩
theorem gK.drew{a b:World} (h:gK a b):gK a b.drew:=h.trans ⟨1,#[],by rw[Sort.grow_empty];rfl⟩
theorem gK.below{a b:World} (h:gK a b):Below a.heap.size a b:=by
 obtain⟨q,os,rfl⟩:=h;exact⟨rfl,rfl,rfl,by simp[Sort.grow],fun k hk=>Sort.heap_grow_old (a.drewN q) os hk⟩
theorem yI(a b:Gr) (w:World) :
  Calls Tryz.prog 120 #[a.v,b.v] w fun e w'=>e=.returned (.int .i64 (dK a b))/\gK w w':=by
 by_cases og:a=b
 ·subst og
  have mK:∀ w,(binOp .eql 50 a.v a.v).run Tryz.prog w=.ok (.bool true) w:=fun w=>by rw[A2];simp
  have H:=aa (mu a);obtain⟨n,h0,h1,h2,h3,h4⟩:=a
  go_enter Tryz.func120,Tryz.ntmps120
  go_wp2
  go_ret;exact⟨aC H.out.symm,by repeat (first|exact gK.refl _|apply gK.drew|apply gK.alloc)⟩
 have mK:∀ w,(binOp .eql 50 a.v b.v).run Tryz.prog w=.ok (.bool false) w:=fun w=>by rw[A2];simp[og]
 clear og;by_cases hn:a.n=b.n
 ·have lK:(a.n != b.n)=false:=by simp[hn]
  have HC:Hid (dK a b=aP 5 fun p=>cmpI (a.hear p) (b.hear p)):=by(have h:dK a b=aP 5 fun p=>cmpI (a.hear p) (b.hear p):=by(unfold dK;rw[hn,nr];simp));exact h
  clear hn
  go_enter Tryz.func120,Tryz.ntmps120
  go_wp2
  refine bw (fun W=>gK w W/\w.heap.size+1<W.heap.size/\W.heap[w.heap.size]?=some (.cells #[.int .i64 a.n,.int .i64 a.h0,.int .i64 a.h1,.int .i64 a.h2,.int .i64 a.h3,.int .i64 a.h4] 50)/\W.heap[w.heap.size+1]?=some (.cells #[.int .i64 b.n,.int .i64 b.h0,.int .i64 b.h1,.int .i64 b.h2,.int .i64 b.h3,.int .i64 b.h4] 50))
   ⟨by repeat (first|exact gK.refl _|apply gK.drew|apply gK.alloc),by simp,aq _ (ar _ _),by have:=ar (w.alloc (.cells #[.int .i64 a.n,.int .i64 a.h0,.int .i64 a.h1,.int .i64 a.h2,.int .i64 a.h3,.int .i64 a.h4] 50));rw[World.size_alloc]at this;exact this _⟩ (fun W0 bd=>?_)
  obtain⟨aH,dp,hA,hB⟩:=bd;have HA:=aa hA;clear hA;have HB:=aa hB;clear hB;have jC:=aa aH;clear aH;have KB:=aa dp;clear dp
  go_loopw [20] (fun i wr=>Hid (gK W0 wr)/\∃ k:Nat,k<=5/\i=.int .i64 k/\∀ j,j<k->cmpI (a.hear j) (b.hear j)=0) (fun i _=>5 - (intOf i).toNat)
  case atStart=>exact⟨aa (gK.refl _),0,by omega,rfl,by simp⟩
  case round=>
   obtain⟨aJ,k,hk,rfl,aO⟩:=hrel;have H:=aa aO;clear aO;by_cases aF:k<5
   ·have hz:=aJ.out.below.size
    have dp:=KB.out;have c1:=cell_grown (w:=wr) (by show w.heap.size<wr.heap.size;omega) (lk a k aF wr _ (ak aJ.out.below HA.out));have c2:=cell_grown (w:=wr) (by show w.heap.size+1<wr.heap.size;omega) (lk b k aF wr _ (ak aJ.out.below HB.out));clear hz dp;have hmix:(Tryz.prog).follows .mixedOrders=true:=by kernel_rfl
    go_wp2
    go_quiet_grown ((go_at_call 51;exact Calls.grown_of ((lS _ _ _).mono fun _ _ ⟨h1,h2⟩=>⟨h1,0,#[],by rw[Sort.grow_empty];exact h2.symm⟩)))
    go_wp2
    ·have ht:(cmpI (a.hear k) (b.hear k) != 0)=true:=by assumption
     go_ret
     exact⟨aC (by rw[HC.out];exact bh k _ aF H.out rfl (by simpa using ht)),jC.out.trans (aJ.out.trans ⟨nq,osq,rfl⟩)⟩
    ·have ht:(cmpI (a.hear k) (b.hear k) != 0)=false:=by assumption
     go_roundw
     case rel=>exact⟨aa (aJ.out.trans ⟨nq,osq,rfl⟩),k+1,by omega,by go_num,aQ H.out (by simpa using ht)⟩
     case measure=>simp[intOf];omega
   ·go_wp2
    go_ret;exact⟨aC (by rw[HC.out,cp];intro j hj;exact H.out j (by omega)),jC.out.trans aJ.out⟩
 ·have lK:(a.n != b.n)=true:=by simp[hn]
  have HC:Hid (dK a b=cmpI a.n b.n):=by unfold dK;rw[if_pos];exact rfl;intro h;exact hn (kn h)
  clear hn
  go_enter Tryz.func120,Tryz.ntmps120
  go_wp2_with (go_at_call 51;refine(lS _ _ _).mono ?_;rintro e w' ⟨rfl,rfl⟩)
  go_ret;exact⟨aC HC.out.symm,by repeat (first|exact gK.refl _|apply gK.drew|apply gK.alloc)⟩
theorem yJ(a b:Rd) (w:World) :
  Calls Tryz.prog 72 #[a.v,b.v] w fun e w'=>e=.returned (.int .i64 (roundC a b))/\gK w w':=by
 by_cases og:a=b
 ·subst og
  have mK:∀ w,(binOp .eql 52 a.v a.v).run Tryz.prog w=.ok (.bool true) w:=fun w=>by rw[wI];simp
  have H:=aa (yM a)
  go_enter Tryz.func72,Tryz.ntmps72
  go_wp2
  go_ret;exact⟨aC H.out.symm,by repeat (first|exact gK.refl _|apply gK.drew|apply gK.alloc)⟩
 have mK:∀ w,(binOp .eql 52 a.v b.v).run Tryz.prog w=.ok (.bool false) w:=fun w=>by rw[wI];simp[og]
 by_cases hg:a.g=b.g
 ·have bH:∀ w,(binOp .neq 50 a.g.v b.g.v).run Tryz.prog w=.ok (.bool false) w:=fun w=>by rw[wH];simp[hg]
  have HC:Hid (roundC a b=cmpI a.f b.f):=by(have h:roundC a b=cmpI a.f b.f:=by(unfold roundC;rw[hg,mu];simp));exact h
  clear hg og
  go_enter Tryz.func72,Tryz.ntmps72
  go_wp2_with (go_at_call 51;refine(lS _ _ _).mono ?_;rintro e w' ⟨rfl,rfl⟩)
  go_ret;exact⟨aC HC.out.symm,by repeat (first|exact gK.refl _|apply gK.drew|apply gK.alloc)⟩
 ·have bH:∀ w,(binOp .neq 50 a.g.v b.g.v).run Tryz.prog w=.ok (.bool true) w:=fun w=>by rw[wH];simp[hg]
  have HC:Hid (roundC a b=dK a.g b.g):=by(have h:roundC a b=dK a.g b.g:=by(unfold roundC;rw[if_pos (fun h=>hg (yN h))]));exact h
  clear hg og
  go_enter Tryz.func72,Tryz.ntmps72
  go_wp2_with (go_at_call 120;refine(yI a.g b.g _).mono ?_;rintro e w1 ⟨rfl,hb⟩)
  go_ret;exact⟨aC HC.out.symm,gK.trans (by repeat (first|exact gK.refl _|apply gK.drew|apply gK.alloc)) hb⟩
theorem QP(n:Int) (a b:Rd) (ha:OkR n a) (hb:OkR n b) (w:World) :
  Calls Tryz.prog 45 #[a.v,b.v] w fun e w'=>e=.returned (.bool (mR a b))/\Below w.heap.size w w':=by
 have HA:=aa ha;have HB:=aa hb;have HV:Hid (mR a b=(!anyLt b.g.n.toNat (fun q=>!cL (b.g.hear q) (a.g.hear q))&&decide (a.g≠b.g)&&cL a.f b.f)):=aa rfl;have sP:1<=b.g.n/\b.g.n<=5:=by rw[hb.gn];exact hb.n1
 have bH:∀ w,(binOp .neq 50 a.g.v b.g.v).run Tryz.prog w=.ok (.bool (!decide (a.g=b.g))) w:=fun w=>wH a.g b.g w
 have fJ:=jh a.f b.f ha.f.1 ha.f.2 hb.f.1 hb.f.2;generalize cK:cL a.f b.f=ib at fJ HV
 have hbit2:(bits .andNot .i64 a.f b.f == 0)=ib:=by
  unfold bne at fJ;cases hx:(bits .andNot .i64 a.f b.f == 0)<;>rw[hx]at fJ<;>cases ib<;>first|rfl|cases fJ
 have KX:decide (a.g≠b.g)=!decide (a.g=b.g):=by simp
 rw[KX]at HV;generalize hgq:decide (a.g=b.g)=gq at bH HV;clear ha hb cK hgq KX
 go_enter Tryz.func45,Tryz.ntmps45
 go_wp2_with fail
 refine bw (fun W=>Below w.heap.size w W/\W.heap[w.heap.size]?=some (.cells #[.int .i64 a.g.n,.int .i64 a.g.h0,.int .i64 a.g.h1,.int .i64 a.g.h2,.int .i64 a.g.h3,.int .i64 a.g.h4,.int .i64 a.f] 52)/\W.heap[w.heap.size+1]?=some (.cells #[.int .i64 b.g.n,.int .i64 b.g.h0,.int .i64 b.g.h1,.int .i64 b.g.h2,.int .i64 b.g.h3,.int .i64 b.g.h4,.int .i64 b.f] 52))
  ⟨by go_grown,aq _ (ar _ _),aX _ _ _⟩ (fun W0 bd=>?_)
 obtain⟨aH,hA,hB⟩:=bd;have GA:=aa hA;have GB:=aa hB;clear hA hB
 go_loopw [9] (fun i wr=>Below W0.heap.size W0 wr/\∃ k:Nat,k<=b.g.n.toNat/\i=.int .i64 k/\∀ j,j<k->cL (b.g.hear j) (a.g.hear j)=true) (fun i _=>5 - (intOf i).toNat)
 case atStart=>exact⟨Below.refl _ _,0,by omega,rfl,by simp⟩
 case round=>
  obtain⟨aJ,k,hk,rfl,aO⟩:=hrel;have H:=aa aO;clear aO;by_cases aF:k<b.g.n.toNat
  ·have c1:∀ x:ExtW wr,x.val.cell? ⟨w.heap.size,1+k,none⟩=some (.int .i64 (a.g.hear k)):=fun x=>x.cell (nT a k (by omega) wr _ _ (ak aJ GA.out))
   have c2:∀ x:ExtW wr,x.val.cell? ⟨w.heap.size+1,1+k,none⟩=some (.int .i64 (b.g.hear k)):=fun x=>x.cell (nT b k (by omega) wr _ _ (ak aJ GB.out))
   have e1:=HA.out.h k (by omega);have e2:=HB.out.h k (by omega);have hbk:=jh (b.g.hear k) (a.g.hear k) e2.1 e2.2 e1.1 e1.2;have OW:(k:Int)<b.g.n:=by omega
   have hk5:(k:Int)<5:=by omega
   clear e1 e2;generalize oO:cL (b.g.hear k) (a.g.hear k)=ik at hbk;have HIK:=aa oO;clear oO
   go_wp2_with fail
   refine aK (by kernel_rfl) (by kernel_rfl) ?_
   repeat (quiet_step (fail))
   refine wpQuiet_nil ?_;intro _ bV;obtain⟨xq,bC⟩:=bV;subst bC;cases ik with
   | true=>
    go_wp2_with fail
    go_roundw
    case rel=>exact⟨aj aJ xq.ext,k+1,by omega,by go_num,aQ H.out HIK.out⟩
    case measure=>simp[intOf];omega
   | false=>
    go_wp2_with fail
    go_ret
    refine⟨?_,aj aH (aj aJ xq.ext)⟩;rw[HV.out,dP _ k _ aF (by rw[HIK.out];rfl)];rfl
  ·have tA:=ae (ak aJ GA.out)
   have tB:=ae (ak aJ GB.out);have OW:¬ (k:Int)<b.g.n:=by omega
   have aM:anyLt b.g.n.toNat (fun q=>!cL (b.g.hear q) (a.g.hear q))=false:=eG _ _ fun j hj=>by rw[H.out j (by omega)];rfl
   rw[aM]at HV;clear aM;cases gq<;>cases ib <;>
   ·go_wp2_with fail
    go_ret
    exact⟨by rw[HV.out];rfl,aj aH aJ⟩
end Go.Proofs.YtkfgpnbpcpdclaaGreat
