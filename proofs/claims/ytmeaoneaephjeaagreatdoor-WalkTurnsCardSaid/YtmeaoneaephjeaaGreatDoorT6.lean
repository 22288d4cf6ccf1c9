/-
  A part of the proof: lemmas and contracts that the parts behind it use. Each one's conditions are its own premises.
-/
import Derived.Test.YtmeaoneaephjeaaGreatDoorT5
set_option maxRecDepth 100000
set_option maxHeartbeats 8000000
set_option linter.unusedVariables false
set_option linter.unusedSimpArgs false
namespace Go.Proofs.YtmeaoneaephjeaaGreatDoor
open Go.RowKit Go Go.Shelf
attribute [local go_sem] Oper.semAt_some
theorem KeepT.grownNew{ts:List TypeId} {ms:List Nat} {base:Nat} {w w' w'':World} {row:Option Nat} (h:KeepT ts ms base w w') (hs:base<=w.heap.size) (hr:∀ g,row=some g->w.heap.size<=g) (hg:w'.grownBy w'' row):KeepT ts ms base w w'':=by
 refine⟨Below.grown h.old hg (Nat.le_trans hs h.old.size) (fun g e=>Nat.le_trans hs (hr g e)),fun j c t f h1 h2=>?_,fun j o h1 h2 h3=>?_⟩
 ·have h3:=h.keep j c t f h1 h2;exact(hg.block j (aC h3) (fun e'=>by have:=hr j e'.symm;have:=aC h1;omega)).trans h3
 ·have h4:=h.oth j o h1 h2 h3;exact(hg.block j (aC h4) (fun e'=>by have:=hr j e'.symm;have:=aC h1;omega)).trans h4
theorem KeepT.setNew{ts:List TypeId} {ms:List Nat} {base:Nat} {w w':World} {B o:Nat} (h:KeepT ts ms base w w') (hs:base<=w.heap.size) (hb:w.heap.size<=B) (v:Value):KeepT ts ms base w (w'.setCell ⟨B,o,none⟩ v):=by
 refine⟨h.old.setCell (Nat.le_trans hs hb) v,fun j c' t' f' h1 h2=>aN (h.keep j c' t' f' h1 h2) ?_ o v,fun j o' h1 h2 h3=>aN (h.oth j o' h1 h2 h3) ?_ o v⟩
 ·have:=aC h1;omega
 ·have:=aC h1;omega
theorem BldIs.set{base b mb n:Nat} {tab:List Vw} {W:World} {B o:Nat} {c:Array Value} {t:TypeId} {f:Nat × Nat} (h:BldIs base b mb n tab W) (hB:W.heap[B]?=some (.cells c t f)) (ht:t∉bldT) (v:Value):BldIs base b mb n tab (W.setCell ⟨B,o,none⟩ v):=by
 obtain⟨vs,h1,h2,h3,es,ck,p1,p2⟩:=h.ex;refine⟨h.lo,vs,aN h1 (fun e=>?_) _ _,h2,h3.put (fun g e=>h3.ne hB (fun e=>ht (by simp[<-e])) g e) _ _,es,ck,aN p1 (fun e=>?_) _ _,p2⟩
 ·rw[<-e,h1]at hB;cases hB;exact ht (by simp)
 ·rw[<-e,p1]at hB;cases hB
theorem BldIs.grown{base b mb n:Nat} {tab:List Vw} {W W':World} {e:TypeId} {b' k m:Nat} {u:Value} {xs:List Value} (h:BldIs base b mb n tab W) (ho:aI W b' e k u m xs) (he:e∉bldT) (hg:W.grownBy W' u.ownBlock):BldIs base b mb n tab W':=by
 obtain⟨vs,h1,h2,h3,es,ck,p1,p2⟩:=h.ex;refine⟨h.lo,vs,gh hg h1 (fun e'=>ho.ne h1 (fun e=>he (by simp[e])) b e' rfl),h2,h3.keepT fun g o e1 e2=>gh hg e2 (fun e'=>?_),es,ck,gh hg p1 (fun e'=>ho.isCells p1 rfl e'.symm),p2⟩;rcases h3.2 with ⟨rfl,_⟩|⟨g',cap,cur,fz,rfl,_,q3,_⟩
 ·cases e1
 ·cases e1
  exact ho.ne q3 (fun e=>he (by simp[e])) _ e' rfl
theorem KeepT.below9{ts us:List TypeId} {ms ns:List Nat} {w0 w w1 w2:World} (h0:Below w0.heap.size w0 w) (h1:KeepT ts ms w0.heap.size w w1) (h2:KeepT us ns w0.heap.size w1 w2):Below w0.heap.size w0 w2:=
 ⟨(h2.old.os.trans h1.old.os).trans h0.os,(h2.old.tape.trans h1.old.tape).trans h0.tape,(h2.old.output.trans h1.old.output).trans h0.output,Nat.le_trans h0.size (Nat.le_trans h1.old.size h2.old.size),fun k hk=>((h2.old.block k hk).trans (h1.old.block k hk)).trans (h0.block k hk)⟩
def lX(n:Nat) (l:List Int):Array Value:=((List.range n).map fun j=>Value.int .i64 (l.getD j 0)).toArray
theorem x'(n:Nat) (l:List Int):(lX n l).size=n:=by simp[lX]
theorem wo(n:Nat) (l:List Int) (j:Nat) (h:j<n):(lX n l)[j]?=some (.int .i64 (l.getD j 0)):=by simp[lX,h]
theorem Ib(n:Nat):lX n []=fC n (fun _=>0) 0:=by
 unfold lX fC;simp
theorem Ic(n:Nat) (l:List Int) (z:Int) (h:l.length<n):(lX n l).setIfInBounds l.length (.int .i64 z)=lX n (l++[z]):=by
 apply Array.ext_getElem?;intro j;rw[Array.getElem?_setIfInBounds];by_cases hj:j<n
 ·rw[wo _ _ _ hj,wo _ _ _ hj];by_cases e:l.length=j
  ·subst e;rw[if_pos rfl,if_pos (by rw[x'];exact hj)];simp
  ·rw[if_neg e];by_cases h2:j<l.length
   ·simp[List.getD_eq_getElem?_getD,List.getElem?_append_left h2]
   ·rw[List.getD_eq_getElem?_getD,List.getD_eq_getElem?_getD,List.getElem?_eq_none (by omega),List.getElem?_eq_none (by simp;omega)]
 ·have h1:(lX n l)[j]?=none:=by rw[Array.getElem?_eq_none];rw[x'];omega
  have h2:(lX n (l++[z]))[j]?=none:=by rw[Array.getElem?_eq_none];rw[x'];omega
  rw[h1,h2,if_neg (by omega)]
theorem Id(l:List Int):lX l.length l=bG l:=by
 unfold lX bG;congr 1;apply List.ext_getElem (by simp);intro i h1 h2;simp at h1;simp[List.getD_eq_getElem?_getD,h1]
structure PCore (base b mb n:Nat) (tab tab':List Vw) (k:Nat) (Wr:World) (D:Nat->Bool) (x:Nat->Value) (W:World):Prop where
 lo:base<=Wr.heap.size
 keep:KeepT bldT [mb] base Wr W
 bld:BldIs base b mb n (bif D k then tab' else tab) W
section
variable {base b mb n k : Nat} {tab tab' : List Vw} {Wr : World} {D : Nat → Bool} {x : Nat → Value} {W : World}
theorem PCore.other(h:PCore base b mb n tab tab' k Wr D x W) {i:Nat} (u:Value) (hi:k≠i):PCore base b mb n tab tab' k Wr (br D i) (bQ x i u) W:=
 ⟨h.lo,h.keep,by simpa only[br,if_neg hi] using h.bld⟩
theorem PCore.grow(h:PCore base b mb n tab tab' k Wr D x W) {W':World} (hb:Below W.heap.size W W'):PCore base b mb n tab tab' k Wr D x W':=⟨h.lo,h.keep.trans (.of_below _ hb (Nat.le_trans h.lo h.keep.old.size)),h.bld.up hb⟩
theorem PCore.put(h:PCore base b mb n tab tab' k Wr D x W) {W':World} (u:Value) (hk:KeepT bldT [mb] base W W') (hb:BldIs base b mb n tab' W'):PCore base b mb n tab tab' k Wr (br D k) (bQ x k u) W':=⟨h.lo,h.keep.trans hk,by simpa[br] using hb⟩
end
abbrev gj(inp:List Int) (n:Nat):List Vw:=(List.range n).map (eh inp)
abbrev fN(n k:Nat) (r:Rd) (now:List Int):List Vw:=(List.range n).map (nextV n k r now)
theorem Ie{α:Type} (n:Nat) (f:Nat->α) (i:Nat) (h:i<((List.range n).map f).length):((List.range n).map f)[i]=f i:=by simp
theorem it(n:Nat) (inp:List Int) (word:List Rd) (tb:List Vw):∀ k,(playTo n inp word tb k).2.length=k+1/\((playTo n inp word tb k).2.getLastD []).length=n/\(playTo n inp word tb k).1.length<=tb.length+n * (k+1)
 | 0=>by
  have h:=fM (gj inp n) (tb,[]);change (addAll tb (gj inp n)).2.length=_/\(addAll tb (gj inp n)).1.length<=_ at h;simp only[List.length_nil,List.length_map,List.length_range,Nat.zero_add]at h;exact⟨rfl,h.1,by have:=h.2;show (addAll tb (gj inp n)).1.length<=_;omega⟩
 | k+1=>by
  have ih:=it n inp word tb k;have h:=fM (fN n k (word.getD k default) ((playTo n inp word tb k).2.getLastD [])) ((playTo n inp word tb k).1,[]);change (addAll (playTo n inp word tb k).1 _).2.length=_/\(addAll (playTo n inp word tb k).1 _).1.length<=_ at h;simp only[List.length_nil,List.length_map,List.length_range,Nat.zero_add]at h;have e:(playTo n inp word tb (k+1)).2=(playTo n inp word tb k).2++[(addAll (playTo n inp word tb k).1 (fN n k (word.getD k default) ((playTo n inp word tb k).2.getLastD []))).2]:=rfl;rw[e];refine⟨by rw[List.length_append,ih.1];rfl,?_,?_⟩
  ·rw[List.getLastD_concat];exact h.1
  ·have:n * (k+1+1)=n * (k+1)+n:=Nat.mul_succ n (k+1)
   show (addAll (playTo n inp word tb k).1 (fN n k (word.getD k default) ((playTo n inp word tb k).2.getLastD []))).1.length<=_
   omega
def yg(n k:Nat) (r:Rd) (now:List Int) (p q:Nat):Vw:=
 let g:=fun j=>if j<q/\hasB (r.g.hear p) j=true then now.getD j 0 else -1
 ⟨p,k+1,0,g 0,g 1,g 2,g 3,g 4⟩
theorem U5(n k:Nat) (r:Rd) (now:List Int) (p:Nat):yg n k r now p n=nextV n k r now p:=rfl
theorem RJ(n k:Nat) (r:Rd) (now:List Int) (p:Nat):yg n k r now p 0=⟨p,k+1,0,-1,-1,-1,-1,-1⟩:=by simp[yg]
theorem U6(n k:Nat) (r:Rd) (now:List Int) (p q:Nat) (h:hasB (r.g.hear p) q=false):yg n k r now p (q+1)=yg n k r now p q:=by
 have key:∀ j,(if j<q+1/\hasB (r.g.hear p) j=true then now.getD j 0 else -1)=if j<q/\hasB (r.g.hear p) j=true then now.getD j 0 else -1:=fun j=>by
  by_cases e:j=q
  ·subst e;simp[h]
  ·have:j<q+1↔j<q:=by omega
   simp only[this]
 simp only[yg,key]
theorem U7(n k:Nat) (r:Rd) (now:List Int) (p q:Nat) (hq:q<5) (h:hasB (r.g.hear p) q=true):(yg n k r now p q).c.setIfInBounds (3+q) (.int .i64 (now.getD q 0))=(yg n k r now p (q+1)).c:=by
 have:q=0\/q=1\/q=2\/q=3\/q=4:=by omega
 rcases this with e|e|e|e|e<;>subst e<;>simp[yg,h]
theorem MA(r:Rd) (k:Nat) (hk:k<5) (w:World) (B:Nat) (t:TypeId) (hw:w.heap[B]?=some (.cells r.c t)):w.cell? ⟨B,1+k,none⟩=some (.int .i64 (r.g.hear k)):=by
 have:k=0\/k=1\/k=2\/k=3\/k=4:=by omega
 rcases this with h|h|h|h|h<;>subst h<;>simp[World.cell?,hw,Gr.hear]
theorem KV{W:World} {base B n:Nat} {l:List Int} (h:W.heap[B]?=some (.cells (bG l) 3)) (hl:l.length=n) (hb:base<=B) (hn:n<=256):aI W base 3 1 (.slice (some ⟨B,0,none⟩) n n) n (l.map (Value.int .i64)):=
 ⟨by simp[hl],.inr ⟨B,n,_,(0,0),rfl,hb,h,fun i _ h=>by have:=h.2;simp at this,Nat.le_refl _,by unfold maxLen;omega,by simp[bG,hl],by simp only[bG];rw[Nat.mul_one,List.take_of_length_le (by simp;omega)]⟩⟩
theorem O9(w0:World) (b mb n:Nat) (hn:n<=5) (tab:List Vw) (vi vw:Value) (inp:List Int) (word:List Rd) (w:World) (h0:Below w0.heap.size w0 w) (hi:aX w0 vi inp) (hw:ky w0 vw word) (gQ:n<=inp.length) (JC:word.length<=6) (hl:tab.length+100<=100000) (hB:BldIs w0.heap.size b mb n tab w) :
  Calls Tryz.prog 166 #[.pointer (some ⟨b,0,none⟩),vi,vw] w fun e w'=>∃ u,e=.returned u/\cS w' w.heap.size u (gt n inp word tab).2/\BldIs w0.heap.size b mb n (gt n inp word tab).1 w'/\KeepT bldT [mb] w0.heap.size w w':=by
 obtain⟨pi,ci,rfl,li1,li2,ei⟩:=hi.at;obtain⟨pw,cw,rfl,lw1,lw2,ew⟩:=hw.at;have EI:=aa ei;have EW:=aa ew;have HB:=aa hB;have H0:=aa h0;have cC:=h0.size;clear hi hw ei ew hB h0;obtain⟨vs,h1,_⟩:=HB.o.ex;have t1:=ab h1 0;simp at t1;have gc:=jp (fun _=>0) n (by omega);clear h1
 go_enter Tryz.func166,Tryz.ntmps166
 go_wp2_with fail
 clear t1 gc;refine bF (fun W=>KeepT bldT [mb] w0.heap.size w W/\BldIs w0.heap.size b mb n tab W/\W.heap[w.heap.size]?=some (.cells (lX n []) 3)) ⟨KeepT.of_below _ (by go_grown) cC,HB.o.up (by go_grown),by rw[Ib];exact aq _ _⟩ (fun W0 bh=>?_);obtain⟨eZ,aJ,rU⟩:=bh
 go_loopw [24] (fun i wr=>∃ q:Nat,q<=n/\i=.int .i64 q/\KeepT bldT [mb] w0.heap.size w wr/\BldIs w0.heap.size b mb n (addAll tab ((gj inp n).take q)).1 wr/\wr.heap[w.heap.size]?=some (.cells (lX n (addAll tab ((gj inp n).take q)).2) 3)) (fun i _=>n - (intOf i).toNat)
 ·exact⟨0,by omega,rfl,eZ,aJ,rU⟩
 ·
  clear eZ aJ rU;obtain⟨q,hq,rfl,hk,hb,hr⟩:=hrel;by_cases aD:q<n
  ·have jF:=aa (ul tab (gj inp n) q (by simpa using aD));have cN:=(fM ((gj inp n).take q) (tab,[])).1;have og:=(fM ((gj inp n).take q) (tab,[])).2;have Qq:((gj inp n).take q).length=q:=by simp;omega
   rw[Ie]at jF;change (addAll tab ((gj inp n).take q)).2.length=_ at cN;change (addAll tab ((gj inp n).take q)).1.length<=_ at og;simp only[List.length_nil,Qq,Nat.zero_add]at cN og;obtain⟨b1,o1,rfl,hx⟩:=EI.o q (by omega);have HX:=aa hx.1;have PX:=aa hk;have fg:=aa hb;have AI:=aa hr;have Xy:=hk.old.size;rw[Nat.mul_one]at HX;have JU:am (eh inp q=⟨q,0,inp[q],-1,-1,-1,-1,-1⟩):=aa (by unfold eh;rw[aA 0 (by omega)]);generalize inp[q]=y at HX JU;clear hx hk hb hr Qq;generalize (addAll tab ((gj inp n).take q))=st at jF cN og fg AI
   go_wp2_with fail
   refine mK 11 [27,28,29,30,31,32,33,34,35,36,37] [some (.slice (some ⟨w.heap.size,0,none⟩) n n),
    some (.int .i64 q),
    some (.pointer (some ⟨b,0,none⟩)),
    some (.int .i64 q),
    some (.slice (some ⟨b1,o1,none⟩) inp.length ci),
    some (.int .i64 q),
    some (.pointer (some ⟨b1,o1+q,none⟩)),
    some (.int .i64 y),
    some (silV),
    some ((eh inp q).v),
    some (.int .i64 ((putV st.1 (eh inp q)).2:Nat))] (PCore w0.heap.size b mb n st.1 (putV st.1 (eh inp q)).1 10 wr) (by kernel_rfl) rfl (by decide) rfl (by kernel_rfl) (by kernel_rfl) (by kernel_rfl) (fun _=>⟨by omega,(KeepT.refl _ _ _).drew,fg.o.up (Below.refl _ _).drew⟩) ?step ?tail
   case step=>
    intro x W D i o s F hi ho hs hD cP bX ar hv aP hF;have fO:i=0\/i=1\/i=2\/i=3\/i=4\/i=5\/i=6\/i=7\/i=8\/i=9\/i=10:=by omega
    rcases fO with rfl|rfl|rfl|rfl|rfl|rfl|rfl|rfl|rfl|rfl|rfl
    all_goals (have dM:=cP _ _ hs hD;obtain rfl:=dp ho.symm;obtain rfl:=dp hs.symm)
    ·clear ar hi hv;have e7:F.getD 7 undef=.slice (some ⟨w.heap.size,0,none⟩) n n:=lP hF (by decide) rfl;clear cP bX;clear hF dM;have e7':=dE e7;have HD:=aa hD;have bC:=aa aP;clear hD aP
     go_wp2_with fail
     refine cf.mk _ fS ?_ rfl;exact bC.o.other _ (by decide)
    ·clear ar hi hv;have e8:F.getD 8 undef=.int .i64 q:=lP hF (by decide) rfl;clear cP bX;clear hF dM;have e8':=dE e8;have HD:=aa hD;have bC:=aa aP;clear hD aP
     go_wp2_with fail
     refine cf.mk _ fS ?_ rfl;exact bC.o.other _ (by decide)
    ·clear ar hi hv;have e0:F.getD 0 undef=.pointer (some ⟨b,0,none⟩):=lP hF (by decide) rfl;clear cP bX;clear hF dM;have e0':=dE e0;have HD:=aa hD;have bC:=aa aP;clear hD aP
     go_wp2_with fail
     refine cf.mk _ fS ?_ rfl;exact bC.o.other _ (by decide)
    ·clear ar hi hv;have e8:F.getD 8 undef=.int .i64 q:=lP hF (by decide) rfl;clear cP bX;clear hF dM;have e8':=dE e8;have HD:=aa hD;have bC:=aa aP;clear hD aP
     go_wp2_with fail
     refine cf.mk _ fS ?_ rfl;exact bC.o.other _ (by decide)
    ·clear ar hi hv;have e1:F.getD 1 undef=.slice (some ⟨b1,o1,none⟩) inp.length ci:=lP hF (by decide) rfl;clear cP bX;clear hF dM;have e1':=dE e1;have HD:=aa hD;have bC:=aa aP;clear hD aP
     go_wp2_with fail
     refine cf.mk _ fS ?_ rfl;exact bC.o.other _ (by decide)
    ·clear ar hi hv;have e8:F.getD 8 undef=.int .i64 q:=lP hF (by decide) rfl;clear cP bX;clear hF dM;have e8':=dE e8;have HD:=aa hD;have bC:=aa aP;clear hD aP
     go_wp2_with fail
     refine cf.mk _ fS ?_ rfl;exact bC.o.other _ (by decide)
    ·have g4:=ar ⟨4,.data⟩ (by simp) rfl;have d4:=hv 4 _ (by omega) g4 rfl;have g5:=ar ⟨5,.data⟩ (by simp) rfl;have d5:=hv 5 _ (by omega) g5 rfl;clear ar hi hv;have e31:=fB hF 4 31 (by decide) rfl (by kernel_rfl) d4;have e32:=fB hF 5 32 (by decide) rfl (by kernel_rfl) d5;clear cP bX;clear hF dM d4 d5;have e31':=dE e31;have e32':=dE e32;have HD:=aa hD;have bC:=aa aP;clear hD aP;clear g4;clear g5
     go_wp2_with fail
     refine cf.mk _ fS ?_ rfl;exact bC.o.other _ (by decide)
    ·have g6:=ar ⟨6,.data⟩ (by simp) rfl;have d6:=hv 6 _ (by omega) g6 rfl;clear ar hi hv;have e33:=fB hF 6 33 (by decide) rfl (by kernel_rfl) d6;clear cP bX;clear hF dM d6;have t1:=ak (KeepT.below9 H0.o PX.o aP.keep) HX.o;have e33':=dE e33;have HD:=aa hD;have bC:=aa aP;clear hD aP;clear g6
     go_wp2_with fail
     refine cf.mk _ fS ?_ rfl;exact bC.o.other _ (by decide)
    ·clear ar hi hv;clear cP bX;clear hF dM;have HD:=aa hD;have bC:=aa aP;clear hD aP
     go_wp2_with fail
     refine(Ae W).mono ?_;rintro e w9 ⟨rfl,eC⟩
     go_wp2_with fail
     refine cf.mk _ fS ?_ rfl;exact(bC.o.grow eC).other _ (by decide)
    ·have g3:=ar ⟨3,.data⟩ (by simp) rfl;have d3:=hv 3 _ (by omega) g3 rfl;have g7:=ar ⟨7,.data⟩ (by simp) rfl;have d7:=hv 7 _ (by omega) g7 rfl;have g8:=ar ⟨8,.data⟩ (by simp) rfl;have d8:=hv 8 _ (by omega) g8 rfl;clear ar hi hv;have e30:=fB hF 3 30 (by decide) rfl (by kernel_rfl) d3;have e34:=fB hF 7 34 (by decide) rfl (by kernel_rfl) d7;have e35:=fB hF 8 35 (by decide) rfl (by kernel_rfl) d8;clear cP bX;clear hF dM d3 d7 d8;have HFV9:=JU;have e30':=dE e30;have e34':=dE e34;have e35':=dE e35;have HD:=aa hD;have bC:=aa aP;clear hD aP;clear g3;clear g7;clear g8
     go_wp2_with fail
     refine cf.mk _ (fun c hc=>by rw[<-dp hc,JU.o]) ?_ rfl;exact bC.o.other _ (by decide)
    ·have g2:=ar ⟨2,.data⟩ (by simp) rfl;have d2:=hv 2 _ (by omega) g2 rfl;have g9:=ar ⟨9,.data⟩ (by simp) rfl;have d9:=hv 9 _ (by omega) g9 rfl;clear ar hi hv;have e29:=fB hF 2 29 (by decide) rfl (by kernel_rfl) d2;have e36:=fB hF 9 36 (by decide) rfl (by kernel_rfl) d9;clear cP bX;clear hF dM d2 d9;have lQ:=aP.bld;rw[hD]at lQ;have CC:=aa (show BldIs w0.heap.size b mb n st.1 W from lQ);clear lQ;have e29':=dE e29;have e36':=dE e36;have HD:=aa hD;have bC:=aa aP;clear hD aP;clear g2;clear g9
     go_wp2_with fail
     refine(KU w0.heap.size b mb n st.1 (eh inp q) W CC.o (by omega)).mono ?_;rintro e w9 ⟨rfl,eC,vp⟩;have ff:=aa eC;have qA:=aa vp;clear eC vp
     go_wp2_with fail
     refine cf.mk _ fS ?_ rfl;exact bC.o.put _ qA.o ff.o
   case tail=>
    intro x W' D F aS hv aP hF;have x0:=hv 0 _ (by omega) rfl;have x1:=hv 1 _ (by omega) rfl;have x2:=hv 2 _ (by omega) rfl;have x3:=hv 3 _ (by omega) rfl;have x4:=hv 4 _ (by omega) rfl;have x5:=hv 5 _ (by omega) rfl;have x6:=hv 6 _ (by omega) rfl;have x7:=hv 7 _ (by omega) rfl;have x8:=hv 8 _ (by omega) rfl;have x9:=hv 9 _ (by omega) rfl;have x10:=hv 10 _ (by omega) rfl;have lQ:=aP.bld;rw[aS 10 (by omega)]at lQ;have CC:=aa (show BldIs w0.heap.size b mb n (putV st.1 (eh inp q)).1 W' from lQ);have qA:=aa aP.keep;have cA:=qA.o.keep _ _ _ _ AI.o (by decide);have kx:=aa cA;have z1:=aG cA q;have c1:=ab cA q;rw[wo _ _ _ aD]at c1;have hltI:(q:Int)<(n:Int):=by omega
    simp only[bD,cX,List.setIfInBounds_toArray,List.set_cons_succ,List.set_cons_zero,Nat.reduceAdd,x0,x1,x2,x3,x4,x5,x6,x7,x8,x9,x10]at hF;subst hF;clear hv aS aP lQ cA x0 x1 x2 x3 x4 x5 x6 x7 x8 x9 x10;simp only[List.drop_succ_cons,List.drop_zero]
    go_wp2_with fail
    go_roundw
    ·
     refine⟨q+1,by omega,by go_num,(PX.o.trans qA.o).setNew cC (Nat.le_refl _) _,?_,?_⟩
     ·rw[jF.o];exact CC.o.set kx.o (by decide) _
     ·rw[jF.o,aH kx.o];have:=Ic n st.2 ((putV st.1 (eh inp q)).2:Nat) (by omega);rw[cN]at this;rw[this];rfl
    ·simp[intOf];omega
  ·obtain rfl:q=n:=by omega
   have aS:=fM (gj inp q) (tab,[]);change (addAll tab (gj inp q)).2.length=_/\(addAll tab (gj inp q)).1.length<=_ at aS;simp only[List.length_nil,List.length_map,List.length_range,Nat.zero_add]at aS;rw[List.take_of_length_le (by simp)]at hb hr
   have FC:wr.heap[w.heap.size]?=some (.cells (bG (addAll tab (gj inp q)).2) 3):=by
    rw[hr,<-Id,aS.1]
   have PX:=aa hk;have fg:=aa hb;have AI:=aa FC;have mT:=aa aS;have Xy:=hk.old.size;clear hk hb hr FC aS
   go_wp2_with fail
   refine bF (fun W=>KeepT bldT [mb] w0.heap.size w W/\BldIs w0.heap.size b mb q (playTo q inp word tab 0).1 W/\cS W w.heap.size (.slice (some ⟨wr.heap.size,0,none⟩) 1 1) (playTo q inp word tab 0).2/\W.heap[w.heap.size]?=some (.cells (bG ((playTo q inp word tab 0).2.getLastD [])) 3))
    ⟨PX.o.trans (.of_below _ (by go_grown) (by omega)),fg.o.up (by go_grown),⟨[.slice (some ⟨w.heap.size,0,none⟩) q q],⟨by simp[playTo],.inr ⟨wr.heap.size,1,_,(0,0),rfl,by omega,aq _ _,fun i _ h=>by have:=h.2;simp at this,by simp[playTo],by unfold maxLen;omega,by simp,by simp[playTo]⟩⟩,fun i hi=>by
     have cY:i=0:=by simp[playTo]at hi;omega
     subst cY;refine⟨_,rfl,?_⟩;have:=(KV AI.o mT.o.1 (Nat.le_refl w.heap.size) (by omega)).up (w':=wr.alloc (.cells #[.slice (some ⟨w.heap.size,0,none⟩) q q] 38)) (by go_grown)
     simpa[playTo,uM,mT.o.1] using this⟩,by simpa[playTo,uM] using az _ AI.o⟩ (fun W1 cO=>?_)
   obtain⟨kZ,aM,fQ,LX⟩:=cO;clear PX fg AI mT
   go_loopw [7,9,44] (fun nv ov i wr=>∃ k:Nat,k<=word.length/\i=.int .i64 k/\KeepT bldT [mb] w0.heap.size w wr/\BldIs w0.heap.size b mb q (playTo q inp word tab k).1 wr/\cS wr w.heap.size ov (playTo q inp word tab k).2/\∃ Bn,nv=.slice (some ⟨Bn,0,none⟩) q q/\wr.heap[Bn]?=some (.cells (bG ((playTo q inp word tab k).2.getLastD [])) 3)) (fun _ _ i _=>word.length - (intOf i).toNat)
   ·exact⟨0,by omega,rfl,kZ,aM,fQ,_,rfl,LX⟩
   ·
    clear kZ aM fQ LX;obtain⟨k,mu,rfl,hk,hb,hf,Bn,rfl,F3⟩:=hrel;have De:=aa hk;have cV:=aa hb;have xb:=aa hf;have rS:=aa F3;by_cases aD:k<word.length
    ·obtain⟨wrA,Bv⟩:∃ x,x=wr:=⟨_,rfl⟩;subst Bv;have dO:=it q inp word tab k;have jF:am (playTo q inp word tab (k+1)=L7 q k (word.getD k default) (playTo q inp word tab k)):=aa rfl;obtain⟨b3,o3,rfl,⟨d0,_⟩,⟨d1,_⟩,⟨d2,_⟩,⟨d3,_⟩,⟨d4,_⟩,⟨d5,_⟩,⟨d6,_⟩⟩:=EW.o k aD;rw[aA default aD]at jF;generalize word[k]=r at d0 d1 d2 d3 d4 d5 d6 jF;have FZ:=KeepT.below9 H0.o hk (KeepT.refl (ms:=[mb]) bldT _ wrA)
     replace d0:=ak FZ d0
     replace d1:=ak FZ d1
     replace d2:=ak FZ d2
     replace d3:=ak FZ d3
     replace d4:=ak FZ d4
     replace d5:=ak FZ d5
     replace d6:=ak FZ d6
     obtain⟨vs',jH,_⟩:=hb.ex;have t1:=ab jH 0;have hbsz:=aC jH;simp at t1;have gc:=jp (fun _=>0) q (by omega)
     have hkq:(playTo q inp word tab k).1.length<=tab.length+40:=by
      have h9:q * (k+1)<=5 * (k+1):=Nat.mul_le_mul_right _ hn;omega
     have hzw:=hk.old.size;clear hk hb hf F3 FZ jH;generalize playTo q inp word tab k=st at cV xb rS jF dO hkq;generalize pQ:st.2.getLastD []=now at rS dO;have HNOW:=aa pQ;clear pQ;obtain⟨fV,iT,nj⟩:=dO
     go_wp2_with fail
     clear d0 d1 d2 d3 d4 d5 d6 t1 gc;refine bF (fun W=>KeepT bldT [mb] w0.heap.size wrA W/\BldIs w0.heap.size b mb q st.1 W/\W.heap[wrA.heap.size]?=some (.cells r.c 141)/\W.heap[wrA.heap.size+1]?=some (.cells (lX q []) 3)) ⟨.of_below _ (by go_grown) (by omega),cV.o.up (by go_grown),az _ (aq _ _),by rw[Ib];exact bz _ _ _⟩ (fun W1 cO=>?_);obtain⟨kZ,aM,LX,dA⟩:=cO
     go_loopw [56] (fun i wrB=>∃ p:Nat,p<=q/\i=.int .i64 p/\KeepT bldT [mb] w0.heap.size wrA wrB/\BldIs w0.heap.size b mb q (addAll st.1 ((fN q k r now).take p)).1 wrB/\wrB.heap[wrA.heap.size]?=some (.cells r.c 141)/\wrB.heap[wrA.heap.size+1]?=some (.cells (lX q (addAll st.1 ((fN q k r now).take p)).2) 3)) (fun i _=>q - (intOf i).toNat)
     ·exact⟨0,by omega,rfl,kZ,aM,LX,dA⟩
     ·
      clear kZ aM LX dA;obtain⟨p,hp,rfl,ii,bH,LV,xl⟩:=hrel;obtain⟨wrB,hwrB⟩:∃ x,x=wr:=⟨_,rfl⟩;subst hwrB;by_cases jz:p<q
      ·have JQ:=aa (ul st.1 (fN q k r now) p (by simpa using jz));have cN:=(fM ((fN q k r now).take p) (st.1,[])).1;have og:=(fM ((fN q k r now).take p) (st.1,[])).2;have Qq:((fN q k r now).take p).length=p:=by simp;omega
       rw[Ie]at JQ;change (addAll st.1 ((fN q k r now).take p)).2.length=_ at cN;change (addAll st.1 ((fN q k r now).take p)).1.length<=_ at og;simp only[List.length_nil,Qq,Nat.zero_add]at cN og;have oH:=aa ii;have dX:=aa bH;have gk:=aa LV;have iS:=aa xl;clear Qq;clear ii bH LV xl;generalize (addAll st.1 ((fN q k r now).take p))=st2 at JQ cN og dX iS
       go_wp2_with fail
       refine(Ae _).mono ?_;rintro e w9 ⟨rfl,eC⟩
       go_wp2_with fail
       refine bF (fun W=>Below w9.heap.size w9 W/\W.heap[w9.heap.size]?=some (.cells (yg q k r now p 0).c 190)) ⟨by go_grown,by rw[RJ];exact aq _ _⟩ (fun W4 hW4=>?_);obtain⟨bR,hv4⟩:=hW4;have ff:=aa eC;clear eC
       go_loopw [66] (fun i wr=>∃ j:Nat,j<=q/\i=.int .i64 j/\Below w9.heap.size w9 wr/\wr.heap[w9.heap.size]?=some (.cells (yg q k r now p j).c 190)) (fun i _=>q - (intOf i).toNat)
       ·exact⟨0,by omega,rfl,bR,hv4⟩
       ·
        clear bR hv4;obtain⟨j,hj,rfl,dG,LD⟩:=hrel;have FA:=aa LD;by_cases XM:j<q
        ·have Dm:=af (ae ff.o dG) gk.o;have tr:=MA r p (by omega) wr _ _ Dm;have iK:=af (ae ff.o dG) (oH.o.keep _ _ _ _ rS.o (by decide));have tn:=ab iK j;rw[EZ _ _ (by omega)]at tn
         obtain⟨x0,tv⟩:∃ x0,wr.cell? ⟨w9.heap.size,3+j,none⟩=some (.int .i64 x0):=by
          have h9:j=0\/j=1\/j=2\/j=3\/j=4:=by omega
          rcases h9 with h|h|h|h|h<;>subst h<;>exact⟨_,ab LD _⟩
         have zv:=aG LD (3+j);have hj5:(j:Int)<5:=by omega
         have IU:(p:Int)<5:=by omega
         have fK:=rj (r.g.hear p) j;have se:=dG.size;cases oV:hasB (r.g.hear p) j with
         | false=>
          rw[oV]at fK;have Xc:=aa (U6 q k r now p j oV);clear LD Dm iK oV
          go_wp2_with fail
          go_roundw
          ·exact⟨j+1,by omega,by go_num,dG,by rw[Xc.o];exact FA.o⟩
          ·simp[intOf];omega
         | true=>
          rw[oV]at fK;have WT:=U7 q k r now p j (by omega) oV;rw[aA 0 (by omega)]at WT;have Xc:=aa WT;clear WT;clear LD Dm iK oV
          go_wp2_with fail
          go_roundw
          ·exact⟨j+1,by omega,by go_num,dG.setCell (Nat.le_refl _) _,by rw[aH FA.o,Xc.o]⟩
          ·simp[intOf];omega
        ·obtain rfl:j=q:=by omega
         rw[U5]at FA;generalize nextV j k r now p=vv at FA JQ;have tv:=ab FA.o;have CC:=aa (dX.o.up (ae ff.o dG));have Fy:=aa (af (ae ff.o dG) iS.o);have xA:=aa (af (ae ff.o dG) gk.o);have hlpI:(p:Int)<(j:Int):=by omega
         have Uc:=oH.o.old.size;have QP:=ff.o.size;clear LD
         go_wp2_with fail
         refine(KU w0.heap.size b mb j st2.1 vv wr CC.o (by omega)).mono ?_;rintro e w10 ⟨rfl,BD,NB⟩;have BE:=aa (NB.keep _ _ _ _ Fy.o (by decide));have HR10:=aa (NB.keep _ _ _ _ xA.o (by decide));have Sq:=aa BD;have HK10:=aa NB;have z1:=aG BE.o p;have c1:=ab BE.o p;rw[wo _ _ _ jz]at c1;clear BD NB tv
         go_wp2_with fail
         go_roundw
         ·
          refine⟨p+1,by omega,by go_num,((oH.o.trans (.of_below _ (ae ff.o dG) (by omega))).trans HK10.o).setNew (by omega) (by omega) _,?_,aN HR10.o (by omega) _ _,?_⟩
          ·rw[JQ.o];exact Sq.o.set BE.o (by decide) _
          ·rw[JQ.o,aH BE.o];have:=Ic j st2.2 ((putV st2.1 vv).2:Nat) (by omega);rw[cN]at this;rw[this];rfl
         ·simp[intOf];omega
      ·obtain rfl:p=q:=by omega
       have aS:=fM (fN p k r now) (st.1,[]);change (addAll st.1 (fN p k r now)).2.length=_/\(addAll st.1 (fN p k r now)).1.length<=_ at aS;simp only[List.length_nil,List.length_map,List.length_range,Nat.zero_add]at aS;rw[List.take_of_length_le (by simp)]at bH xl
       have S2:wrB.heap[wrA.heap.size+1]?=some (.cells (bG (addAll st.1 (fN p k r now)).2) 3):=by
        rw[xl,<-Id,aS.1]
       have qG:am (playTo p inp word tab (k+1)=((addAll st.1 (fN p k r now)).1,st.2++[(addAll st.1 (fN p k r now)).2])):=aa (by rw[jF.o];unfold L7;rw[HNOW.o]);have hfB:=ii.fresh xb.o (by decide) (by decide);obtain⟨xs,qB,cZ⟩:=hfB;obtain⟨a9,c9,rfl⟩:=qB.slice;generalize addAll st.1 (fN p k r now)=st3 at qG aS bH S2;have hA:Below wrB.heap.size wrB (wrB.alloc (.cells #[(Value.slice (some ⟨wrA.heap.size+1,0,none⟩) p p)] 38)):=by go_grown
       have du:=aa (qB.up hA)
       have bS:∀ j u',[(Value.slice (some ⟨wrA.heap.size+1,0,none⟩) p p)][j]?=some u'->(wrB.alloc (.cells #[(Value.slice (some ⟨wrA.heap.size+1,0,none⟩) p p)] 38)).cell? (Addr.add ⟨wrB.heap.size,0,none⟩ j)=some u':=fun j u' hj=>by
        cases j with
        | zero=>simp at hj;subst hj;simp[Addr.add,ab (aq wrB _)]
        | succ j=>simp at hj
       have bE:=aa bS;have jd:=aa cZ;have oH:=aa ii;have dX:=aa bH;have iS:=aa S2;obtain⟨i0,cY,jb,jt,iJ⟩:=info_parts Tryz.infoInts;have hzB:=ii.old.size;clear bS cZ ii bH xl S2 LV qB
       go_wp2_with (at_builtin;(refine aZ _ rfl (.tmp 92) (.tmp 94) 56 rfl w.heap.size 38 i0 _ 1 24 Tryz.underlying56 cY jb jt iJ rfl (by decide) _ st.2.length xs rfl du.o ⟨wrB.heap.size,0,none⟩ 1 1 [(Value.slice (some ⟨wrA.heap.size+1,0,none⟩) p p)] rfl rfl bE.o (by simp[Value.oneCell']) (by unfold maxLen;omega) (by omega) (by simp;omega) ?_;intro v' w2 fP dz _))
       go_roundw
       ·
        have cA:=af hA iS.o;refine⟨k+1,by omega,by go_num,((De.o.trans oH.o).trans (.of_below _ hA (by omega))).grownNew cC (fun g e=>(du.o.lt g e).1) dz,?_,?_,_,rfl,?_⟩
        ·rw[qG.o];exact(dX.o.up hA).grown du.o (by decide) dz
        ·rw[qG.o];exact cB.snoc du.o (fun i hi=>by obtain⟨y,q1,q2⟩:=jd.o i hi;exact⟨y,q1,q2.up hA⟩) (by decide) (by rw[aS.1];exact KV cA aS.1 (by omega) (by omega)) dz fP
        ·rw[qG.o,List.getLastD_concat];exact gh dz cA (fun e=>du.o.ne cA (by decide) _ e rfl)
       ·simp[intOf];omega
    ·obtain rfl:k=word.length:=by omega
     obtain⟨xs,qB,_⟩:=hf;obtain⟨a9,c9,rfl⟩:=qB.slice;clear hk hb F3 qB
     go_wp2_with fail
     go_ret
     exact⟨_,rfl,xb.o,cV.o,De.o⟩
def mQ(w:World) (k:Nat) (v:Value) (n:Nat) (xs:List Value):Prop:=
 ∃ a cap,v=.slice a n cap/\(a=none->n=0/\cap=0)/\xs.length=n * k/\(∀ j u,xs[j]?=some u->∃ b o,a=some ⟨b,o,none⟩/\w.cell? ⟨b,o+j,none⟩=some u)/\∀ u∈xs,u.oneCell'=true
theorem B6{α:Type} {k:Nat} {R:World->Nat->Nat->α->Prop} {w:World} {v:Value} {l:List α} (h:fe k R w v l) (hk:0<k) (hR:∀ b o x j,R w b o x->j<k->∃ u,w.cell? ⟨b,o+j,none⟩=some u/\u.oneCell'=true):∃ xs,mQ w k v l.length xs:=by
 obtain⟨a,cap,rfl,h1,h2,h3⟩:=h
 have key:∀ i:Fin (l.length * k),∃ u:Value,∃ b o,a=some ⟨b,o,none⟩/\w.cell? ⟨b,o+i.1,none⟩=some u/\u.oneCell'=true:=fun i=>by
  have hi:i.1 / k<l.length:=by rw[Nat.div_lt_iff_lt_mul hk];exact i.2
  obtain⟨b,o,ha,hr⟩:=h3 (i.1 / k) _ (List.getElem?_eq_getElem hi);obtain⟨u,hu,h1⟩:=hR b _ _ (i.1 % k) hr (Nat.mod_lt _ hk);refine⟨u,b,o,ha,?_,h1⟩;rw[<-hu];congr 2;have:=Nat.div_add_mod i.1 k;rw[Nat.mul_comm]at this;omega
 refine⟨List.ofFn fun i=>Classical.choose (key i),a,cap,rfl,fun e=>?_,by simp,fun j u hj=>?_,fun u hu=>?_⟩
 ·have:=h1.2.2 e;have:=h1.1;omega
 ·have hi:j<l.length * k:=by have:=(List.getElem?_eq_some_iff.1 hj).1;simpa using this
  have e:u=Classical.choose (key ⟨j,hi⟩):=by
   rw[List.getElem?_ofFn]at hj;simp[hi]at hj;exact hj.symm
  obtain⟨b,o,ha,hc,_⟩:=Classical.choose_spec (key ⟨j,hi⟩);exact⟨b,o,ha,by rw[e];exact hc⟩
 ·obtain⟨i,rfl⟩:=(List.mem_ofFn).1 hu;obtain⟨_,_,_,_,hs⟩:=Classical.choose_spec (key i);exact hs
theorem B7{α:Type} {k:Nat} {R:World->Nat->Nat->α->Prop} {w:World} {b o:Nat} {l:List α} (h:mH k R w b o l):∃ u,w.cell? ⟨b,o,none⟩=some u/\u.oneCell'=true:=by
 obtain⟨v,hc,hs⟩:=h;exact⟨v,hc,Gn hs⟩
theorem O'{w:World} {v:Value} {l:List Cs} (h:bN w v l):∃ xs,mQ w 3 v l.length xs:=B6 h (by decide) fun b o x j hr hj=>by
 obtain⟨h0,h1,h2⟩:=hr;have:j=0\/j=1\/j=2:=by omega
 rcases this with rfl|rfl|rfl
 ·exact B7 h0
 ·exact B7 h1
 ·exact B7 h2
theorem MB{w:World} {v:Value} {l:List (List Mv)} (h:bA w v l):∃ xs,mQ w 1 v l.length xs:=B6 h (by decide) fun b o x j hr hj=>by
 obtain rfl:j=0:=by omega
 exact B7 hr
abbrev Mv.c(m:Mv):Array Value:=#[.int .i64 m.r.g.n,.int .i64 m.r.g.h0,.int .i64 m.r.g.h1,.int .i64 m.r.g.h2,.int .i64 m.r.g.h3,.int .i64 m.r.g.h4,.int .i64 m.r.f,.int .i64 m.to]
def fI(xs:List Mv):List Value:=xs.flatMap fun m=>m.c.toList
theorem B8(xs:List Mv):(fI xs).length=xs.length * 8:=by
 unfold fI;induction xs with
 | nil=>rfl
 | cons x r ih=>rw[List.flatMap_cons,List.length_append,ih];simp;omega
theorem Pa{w:World} {v:Value} {l:List Mv} (h:pz w v l):mQ w 8 v l.length (fI l):=by
 obtain⟨a,cap,rfl,h1,h2,h3⟩:=h;refine⟨a,cap,rfl,fun e=>?_,B8 l,fun j u hu=>?_,fun u hu=>?_⟩
 ·have:=h1.2.2 e;have:=h1.1;omega
 ·have hj:=(List.getElem?_eq_some_iff.1 hu).1;rw[B8]at hj;obtain⟨i,s,hs,rfl⟩:∃ i s,s<8/\j=i * 8+s:=⟨j / 8,j % 8,by omega,by omega⟩;have hi:i<l.length:=by omega
  unfold fI at hu;rw[pK Mv.c 8 (fun _=>rfl) l i s hi hs]at hu;obtain⟨b,o,ha,⟨⟨c0,_⟩,⟨c1,_⟩,⟨c2,_⟩,⟨c3,_⟩,⟨c4,_⟩,⟨c5,_⟩,⟨c6,_⟩⟩,⟨c7,_⟩⟩:=h3 i _ (List.getElem?_eq_getElem hi);refine⟨b,o,ha,?_⟩;rw[<-Nat.add_assoc];rcases (show s=0\/s=1\/s=2\/s=3\/s=4\/s=5\/s=6\/s=7 by omega) with rfl|rfl|rfl|rfl|rfl|rfl|rfl|rfl<;>(simp at hu;subst hu;first|exact c0|exact c1|exact c2|exact c3|exact c4|exact c5|exact c6|exact c7)
 ·obtain⟨m,_,hm⟩:=List.mem_flatMap.1 hu;simp at hm;rcases hm with h|h|h|h|h|h|h|h<;>subst h<;>rfl
theorem Fb{w:World} {base:Nat} {v:Value} {l:List Mv} (h:aI w base 143 8 v l.length (fI l)) (hx:∀ m∈l,pL m.r/\bT m.to) (hn:l.length<=17592186044416):pz w v l:=by
 have aS:=fun i (hi:i<l.length) j (u:Value) (hj:j<8) (hu:l[i].c[j]?=some u)=>h.cell (i * 8+j) u (by unfold fI;rw[pK Mv.c 8 (fun _=>rfl) l i j hi hj];exact hu)
 rcases h.2 with ⟨hz,h0⟩|⟨g,cap,cur,fz,rfl,_,hg,_,jI,ja,_⟩
 ·refine⟨none,0,by rw[hz,h0],⟨by omega,by omega,fun _=>rfl⟩,hn,fun i x hi=>?_⟩;have:=(List.getElem?_eq_some_iff.1 hi).1;omega
 ·refine⟨some ⟨g,0,none⟩,cap,rfl,⟨jI,by simp only[maxLen]at ja;omega,fun e=>by cases e⟩,hn,fun i x hi=>⟨g,0,rfl,?_⟩⟩;obtain⟨gQ,rfl⟩:=List.getElem?_eq_some_iff.1 hi;obtain⟨⟨r0,r1,r2,r3,r4,r5,r6⟩,r7⟩:=hx _ (List.getElem_mem gQ)
  have key:∀ j u,j<8->l[i].c[j]?=some u->w.cell? ⟨g,0+i * 8+j,none⟩=some u:=fun j u hj hu=>by
   obtain⟨g',c',e1,e2⟩:=aS i gQ j u hj hu;have:g=g':=by simp at e1;exact e1.1
   rw[this,Nat.zero_add];exact e2
  exact⟨⟨⟨key 0 _ (by omega) rfl,r0⟩,⟨key 1 _ (by omega) rfl,r1⟩,⟨key 2 _ (by omega) rfl,r2⟩,⟨key 3 _ (by omega) rfl,r3⟩,⟨key 4 _ (by omega) rfl,r4⟩,⟨key 5 _ (by omega) rfl,r5⟩,⟨key 6 _ (by omega) rfl,r6⟩⟩,⟨key 7 _ (by omega) rfl,r7⟩⟩
theorem RK{w:World} {v:Value} {l:List Mv} (h:pz w v l):∀ m∈l,pL m.r/\bT m.to:=fun m hm=>by
 obtain⟨i,hi,rfl⟩:=List.getElem_of_mem hm;obtain⟨a,cap,rfl,_,_,e⟩:=h;obtain⟨b,o,ha,⟨⟨_,c0⟩,⟨_,c1⟩,⟨_,c2⟩,⟨_,c3⟩,⟨_,c4⟩,⟨_,c5⟩,⟨_,c6⟩⟩,⟨_,c7⟩⟩:=e i _ (List.getElem?_eq_getElem hi);exact⟨⟨c0,c1,c2,c3,c4,c5,c6⟩,c7⟩
theorem Tryz.infoCase:(Tryz.prog.info? 135).map (fun i=>(i.zero,i.size,i.bytes))=some (some (.agg #[.slice none 0 0,.slice none 0 0,.slice none 0 0]),3,72):=by kernel_rfl
theorem Tryz.infoMoves:(Tryz.prog.info? 136).map (fun i=>(i.zero,i.size,i.bytes))=some (some (.slice none 0 0),1,24):=by kernel_rfl
theorem Tryz.infoMove:(Tryz.prog.info? 143).map (fun i=>(i.zero,i.size,i.bytes))=some (some (.agg #[.int .i64 0,.int .i64 0,.int .i64 0,.int .i64 0,.int .i64 0,.int .i64 0,.int .i64 0,.int .i64 0]),8,64):=by kernel_rfl
theorem DS(v:Value) (n:Nat) (xs:List Value) (w:World) (hv:mQ w 3 v n xs) (hn:n<=1048576) :
  Calls Tryz.prog 194 #[v] w fun e w'=>∃ u,e=.returned u/\aI w' w.heap.size 135 3 u n xs/\Below w.heap.size w w':=by
 obtain⟨i0,hi,cC,bY,cD⟩:=info_parts Tryz.infoCase;obtain⟨a,cap,rfl,jZ,iF,hc,h1⟩:=hv;have jX:=fun w=>Lib.run_eql_slice_nil (P:=Tryz.prog) w 22
 cases a with
 | none=>
  obtain⟨rfl,rfl⟩:=jZ rfl;have dq:xs=[]:=List.eq_nil_of_length_eq_zero (by omega);subst dq
  go_enter Tryz.func194,Tryz.ntmps194
  go_wp2_with fail
  go_ret
  exact⟨_,rfl,aI.nil _ _ _ _,Below.refl _ _⟩
 | some ad=>
  have bS:∀ j u,xs[j]?=some u->(w.alloc (.cells #[] 135)).cell? (ad.add j)=some u:=fun j u hj=>by
   obtain⟨b,o,e,eK⟩:=hc j u hj;cases e;have:(Addr.add ⟨b,o,none⟩ j)=⟨b,o+j,none⟩:=by unfold Addr.add;split<;>simp_all
   rw[this];exact ak (by go_grown) eK
  have bg:aI (w.alloc (.cells #[] 135)) w.heap.size 135 3 (.slice (some ⟨w.heap.size,0,none⟩) 0 0) 0 []:=⟨by simp,.inr ⟨w.heap.size,0,#[],(0,0),rfl,Nat.le_refl _,aq _ _,fun i hi=>by simp at hi,by omega,by simp[maxLen],by simp,by simp⟩⟩;have bE:=aa bS;have bO:=aa bg;have H1:=aa h1;have yU:=aa iF;clear bS bg jZ hc h1 iF
  go_enter Tryz.func194,Tryz.ntmps194
  go_wp2_with (at_builtin;(refine aZ _ rfl (.tmp 5) (.tmp 6) 22 rfl w.heap.size 135 i0 _ 3 72 Tryz.underlying22 hi cC bY cD rfl (by decide) _ 0 [] rfl bO.o ad n cap xs rfl yU.o bE.o H1.o (by unfold maxLen;omega) (by omega) (by simp) ?_;intro v' w1 gM lA _;obtain⟨av',cv',rfl⟩:=gM.slice))
  go_ret
  rw[Nat.zero_add,List.nil_append]at gM;refine⟨_,rfl,by simpa using gM,Below.grown (w:=w.alloc (.cells #[] 135)) (by go_grown) lA (by simp) (fun k hk=>?_)⟩;cases hk;exact Nat.le_refl _
theorem B'(v:Value) (n:Nat) (xs:List Value) (w:World) (hv:mQ w 1 v n xs) (hn:n<=1048576) :
  Calls Tryz.prog 197 #[v] w fun e w'=>∃ u,e=.returned u/\aI w' w.heap.size 136 1 u n xs/\Below w.heap.size w w':=by
 obtain⟨i0,hi,cC,bY,cD⟩:=info_parts Tryz.infoMoves;obtain⟨a,cap,rfl,jZ,iF,hc,h1⟩:=hv;have jX:=fun w=>Lib.run_eql_slice_nil (P:=Tryz.prog) w 25
 cases a with
 | none=>
  obtain⟨rfl,rfl⟩:=jZ rfl;have dq:xs=[]:=List.eq_nil_of_length_eq_zero (by omega);subst dq
  go_enter Tryz.func197,Tryz.ntmps197
  go_wp2_with fail
  go_ret
  exact⟨_,rfl,aI.nil _ _ _ _,Below.refl _ _⟩
 | some ad=>
  have bS:∀ j u,xs[j]?=some u->(w.alloc (.cells #[] 136)).cell? (ad.add j)=some u:=fun j u hj=>by
   obtain⟨b,o,e,eK⟩:=hc j u hj;cases e;have:(Addr.add ⟨b,o,none⟩ j)=⟨b,o+j,none⟩:=by unfold Addr.add;split<;>simp_all
   rw[this];exact ak (by go_grown) eK
  have bg:aI (w.alloc (.cells #[] 136)) w.heap.size 136 1 (.slice (some ⟨w.heap.size,0,none⟩) 0 0) 0 []:=⟨by simp,.inr ⟨w.heap.size,0,#[],(0,0),rfl,Nat.le_refl _,aq _ _,fun i hi=>by simp at hi,by omega,by simp[maxLen],by simp,by simp⟩⟩;have bE:=aa bS;have bO:=aa bg;have H1:=aa h1;have yU:=aa iF;clear bS bg jZ hc h1 iF
  go_enter Tryz.func197,Tryz.ntmps197
  go_wp2_with (at_builtin;(refine aZ _ rfl (.tmp 5) (.tmp 6) 25 rfl w.heap.size 136 i0 _ 1 24 Tryz.underlying25 hi cC bY cD rfl (by decide) _ 0 [] rfl bO.o ad n cap xs rfl yU.o bE.o H1.o (by unfold maxLen;omega) (by omega) (by simp) ?_;intro v' w1 gM lA _;obtain⟨av',cv',rfl⟩:=gM.slice))
  go_ret
  rw[Nat.zero_add,List.nil_append]at gM;refine⟨_,rfl,by simpa using gM,Below.grown (w:=w.alloc (.cells #[] 136)) (by go_grown) lA (by simp) (fun k hk=>?_)⟩;cases hk;exact Nat.le_refl _
theorem DT(v:Value) (n:Nat) (xs:List Value) (w:World) (hv:mQ w 8 v n xs) (hn:n<=1048576) :
  Calls Tryz.prog 198 #[v] w fun e w'=>∃ u,e=.returned u/\aI w' w.heap.size 143 8 u n xs/\Below w.heap.size w w':=by
 obtain⟨i0,hi,cC,bY,cD⟩:=info_parts Tryz.infoMove;obtain⟨a,cap,rfl,jZ,iF,hc,h1⟩:=hv;have jX:=fun w=>Lib.run_eql_slice_nil (P:=Tryz.prog) w 136
 cases a with
 | none=>
  obtain⟨rfl,rfl⟩:=jZ rfl;have dq:xs=[]:=List.eq_nil_of_length_eq_zero (by omega);subst dq
  go_enter Tryz.func198,Tryz.ntmps198
  go_wp2_with fail
  go_ret
  exact⟨_,rfl,aI.nil _ _ _ _,Below.refl _ _⟩
 | some ad=>
  have bS:∀ j u,xs[j]?=some u->(w.alloc (.cells #[] 143)).cell? (ad.add j)=some u:=fun j u hj=>by
   obtain⟨b,o,e,eK⟩:=hc j u hj;cases e;have:(Addr.add ⟨b,o,none⟩ j)=⟨b,o+j,none⟩:=by unfold Addr.add;split<;>simp_all
   rw[this];exact ak (by go_grown) eK
  have bg:aI (w.alloc (.cells #[] 143)) w.heap.size 143 8 (.slice (some ⟨w.heap.size,0,none⟩) 0 0) 0 []:=⟨by simp,.inr ⟨w.heap.size,0,#[],(0,0),rfl,Nat.le_refl _,aq _ _,fun i hi=>by simp at hi,by omega,by simp[maxLen],by simp,by simp⟩⟩;have bE:=aa bS;have bO:=aa bg;have H1:=aa h1;have yU:=aa iF;clear bS bg jZ hc h1 iF
  go_enter Tryz.func198,Tryz.ntmps198
  go_wp2_with (at_builtin;(refine aZ _ rfl (.tmp 5) (.tmp 6) 136 rfl w.heap.size 143 i0 _ 8 64 Tryz.underlying136 hi cC bY cD rfl (by decide) _ 0 [] rfl bO.o ad n cap xs rfl yU.o bE.o H1.o (by unfold maxLen;omega) (by omega) (by simp) ?_;intro v' w1 gM lA _;obtain⟨av',cv',rfl⟩:=gM.slice))
  go_ret
  rw[Nat.zero_add,List.nil_append]at gM;refine⟨_,rfl,by simpa using gM,Below.grown (w:=w.alloc (.cells #[] 143)) (by go_grown) lA (by simp) (fun k hk=>?_)⟩;cases hk;exact Nat.le_refl _
theorem sM(v:Value) (l:List (List Int)) (w:World) (hv:ef w v l) (hn:l.length<=1048576) (oz:∀ x∈l,x.length<=1099511627776) :
  Calls Tryz.prog 196 #[v] w fun e w'=>∃ u,e=.returned u/\cS w' w.heap.size u l/\Below w.heap.size w w':=by
 obtain⟨i0,hi,cC,bY,cD⟩:=info_parts Tryz.infoInts;obtain⟨p,cap,rfl,la1,la2,ea⟩:=hv.at;have EA:=aa ea;have rS:=aa oz;clear ea hv oz
 go_enter Tryz.func196,Tryz.ntmps196
 go_wp2_with fail
 go_loopw [3,8] (fun o i wr=>Below w.heap.size w wr/\∃ k:Nat,k<=l.length/\i=.int .i64 k/\cS wr w.heap.size o (l.take k)) (fun _ i _=>l.length - (intOf i).toNat)
 ·exact⟨Below.refl _ _,0,by omega,rfl,cB.nil _ _⟩
 ·
  obtain⟨aB,k,hk,rfl,qZ⟩:=hrel;have vF:=aa qZ;by_cases aD:k<l.length
  ·obtain⟨b1,o1,rfl,x,cx,hx⟩:=EA.o k aD;rw[Nat.mul_one]at cx;have d1:=ak aB cx;have ig:=aa (rS.o _ (List.getElem_mem aD));have jy:am (l.take (k+1)=l.take k++[l[k]]):=aa (List.take_succ_eq_append_getElem aD);generalize l[k]=y at hx ig jy;have HX:=aa (hx.up up_int aB);obtain⟨px,qx,rfl,_⟩:=hx;clear cx;obtain⟨xs,bg,jY⟩:=qZ;have mu:(l.take k).length=k:=by simp;omega
   rw[mu]at bg;have bO:=aa bg;have CN:=aa jY;have Ux:=aa mu;obtain⟨ao,co,rfl⟩:=bg.slice;clear bg jY mu
   go_wp2_with fail
   refine(uP _ y wr HX.o ig.o).mono ?_;rintro e w1 ⟨u,rfl,hu,aM⟩;obtain⟨au,cu,rfl⟩:=hu.slice;have oV:=ae aB aM;have hA:Below w1.heap.size w1 (w1.alloc (.cells #[(Value.slice au y.length cu)] 38)):=by go_grown
   have du:=aa ((bO.o.up aM).up hA)
   have bS:∀ j u',[(Value.slice au y.length cu)][j]?=some u'->(w1.alloc (.cells #[(Value.slice au y.length cu)] 38)).cell? (Addr.add ⟨w1.heap.size,0,none⟩ j)=some u':=fun j u' hj=>by
    cases j with
    | zero=>simp at hj;subst hj;simp[Addr.add,ab (aq w1 _)]
    | succ j=>simp at hj
   have bE:=aa bS;have HU:=aa hu;clear bS hu d1;have ie:=oV.size
   go_wp2_with (at_builtin;(refine aZ _ rfl (.tmp 12) (.tmp 15) 56 rfl w.heap.size 38 i0 _ 1 24 Tryz.underlying56 hi cC bY cD rfl (by decide) _ k xs rfl du.o ⟨w1.heap.size,0,none⟩ 1 1 [(Value.slice au y.length cu)] rfl rfl bE.o (by simp[Value.oneCell']) (by unfold maxLen;omega) (by omega) (by simp;omega) ?_;intro v' w2 fP dz _))
   go_roundw
   ·
    refine⟨Below.grown (w:=w1.alloc (.cells #[(Value.slice au y.length cu)] 38)) (oV.alloc ie _) dz (by simp;omega) (fun g hg=>(du.o.lt g hg).1),k+1,by omega,by go_num,?_⟩;rw[jy.o];exact cB.snoc (l:=l.take k) (by rw[Ux.o];exact du.o) (fun i hi=>by obtain⟨z,q1,q2⟩:=CN.o i hi;exact⟨z,q1,(q2.up aM).up hA⟩) (by decide) ((HU.o.base aB.size).up hA) dz (by rw[Ux.o];exact fP)
   ·simp[intOf];omega
  ·obtain rfl:k=l.length:=by omega
   rw[List.take_length]at vF qZ;obtain⟨xs,bg,_⟩:=qZ;obtain⟨ao,co,rfl⟩:=bg.slice;clear bg
   go_wp2_with fail
   go_ret
   exact⟨_,rfl,vF.o,aB⟩
def dU(p:Pb):Int × Int:=
 if probE p≠0 then(0,probE p) else if (countedR 1048576 p.a p.rounds).2≠0 then(0,(countedR 1048576 p.a p.rounds).2)
 else if 1048576<(countedR 1048576 p.a p.rounds).1 * p.t.cases.length then(0,17) else((countedR 1048576 p.a p.rounds).1 * p.t.cases.length,0)
theorem Gw(L:Int) (hL:0<=L) (a:Adv) (r:Int):0<=(countedR L a r).1/\(countedR L a r).1<=L:=by
 unfold countedR;have h:=(uL hL (AZ hL a r.toNat) 0);change 0<=numberL L a r.toNat/\_ at h;split
 ·simp;omega
 ·split
  ·simp;omega
  ·split
   ·simp;omega
   ·simp;omega
theorem Gx(p:Pb) (vc vs:Value) (w:World) (hc:bN w vc p.t.cases) (hs:bA w vs p.a.states) (hN:movesN p.a.states<1099511627776) (bX:probE p=0->p.t.cases.length<=1048576) :
  Calls Tryz.prog 161 #[nN p vc vs] w fun e w'=>e=.returned (.tuple #[.int .i64 (dU p).1,.int .i64 (dU p).2])/\Below w.heap.size w w':=by
 have GC:=aa hc;have GS:=aa hs;obtain⟨pc,cc,rfl,_⟩:=hc.at;obtain⟨ps,cs,rfl,_⟩:=hs.at;clear hc hs;have HV:am (dU p=if probE p≠0 then(0,probE p) else if (countedR 1048576 p.a p.rounds).2≠0 then(0,(countedR 1048576 p.a p.rounds).2) else if 1048576<(countedR 1048576 p.a p.rounds).1 * p.t.cases.length then(0,17) else((countedR 1048576 p.a p.rounds).1 * p.t.cases.length,0)):=by exact rfl
 go_enter Tryz.func161,Tryz.ntmps161
 go_wp2_with fail
 refine aQ (fun W=>Below w.heap.size w W/\W.heap[w.heap.size]?=some (.cells #[.int .i64 p.t.n,.int .i64 p.t.ins,.int .i64 p.t.outs,.slice pc p.t.cases.length cc,.int .i64 p.a.n,.slice ps p.a.states.length cs,.int .i64 p.rounds] 29)) ⟨by go_grown,aq _ _⟩ (fun W0 bh=>?_);obtain⟨aJ,bK⟩:=bh;refine(Gu p _ _ W0 (GC.o.up up_case aJ) (GS.o.up up_moves aJ) hN).mono ?_;rintro e w1 ⟨rfl,aM⟩;have gl:=ae aJ aM;have eN:=af aM bK;have t1:=ab eN;have iU:=aa bX;have dN:=aa eN;clear eN bK bX;generalize probE p=et at HV iU;by_cases oF:et=0
 case neg=>
  have NU:(et != 0)=true:=by simpa using oF
  have df:am (dU p=(0,et)):=aa (by rw[HV.o,if_pos oF]);clear HV
  go_wp2_with fail
  go_ret2
  refine⟨km ?_ ?_,gl⟩<;>rw[df.o]
 subst oF;have bX:=iU.o rfl
 go_wp2_with fail
 refine(Hv p.a _ p.rounds w1 (GS.o.up up_moves gl) hN).mono ?_;rintro e w2 ⟨rfl,aY⟩;have ku:=ae gl aY;have t2:=ab (af aY dN.o);have q8:=Gw 1048576 (by omega) p.a p.rounds;clear t1;generalize countedR 1048576 p.a p.rounds=cr at HV q8;obtain⟨c1,c2⟩:=cr;dsimp only at HV q8 ⊢;by_cases ja:c2=0
 case neg=>
  have hc2':(c2 != 0)=true:=by simpa using ja
  have df:am (dU p=(0,c2)):=aa (by rw[HV.o,if_neg (by simp),if_pos ja]);clear HV
  go_wp2_with fail
  go_ret2
  refine⟨km ?_ ?_,ku⟩<;>rw[df.o]
 subst ja;have hprod:0<=c1 * (p.t.cases.length:Int)/\c1 * (p.t.cases.length:Int)<=1048576 * 1048576:=⟨Int.mul_nonneg q8.1 (by omega),Int.mul_le_mul q8.2 (by omega) (by omega) (by omega)⟩;have kG:IntKind.i64.wrap (c1 * (p.t.cases.length:Int))=c1 * (p.t.cases.length:Int):=IntWalk.i64_in _ (by omega);by_cases hx:1048576<c1 * (p.t.cases.length:Int)
 ·have df:am (dU p=(0,17)):=aa (by rw[HV.o,if_neg (by simp),if_neg (by simp),if_pos hx]);clear HV
  go_wp2_with fail
  go_ret2
  refine⟨km ?_ ?_,ku⟩<;>rw[df.o]
 ·have df:am (dU p=(c1 * (p.t.cases.length:Int),0)):=aa (by rw[HV.o,if_neg (by simp),if_neg (by simp),if_neg hx]);clear HV
  go_wp2_with fail
  go_ret2
  refine⟨km ?_ ?_,ku⟩<;>rw[df.o]
def Tu(B:Nat):List Obj:=[iC [0,0],iC [0,0],.cells #[sV (B+1) 2] 38,iC [0,1],iC [0,0],iC [1,1],.cells #[sV (B+4) 2,sV (B+5) 2] 38,iC [1,1],iC [1,1],.cells #[sV (B+8) 2] 38,
 .cells #[sV B 2,sV (B+2) 1,.slice none 0 0,sV (B+3) 2,sV (B+6) 2,.slice none 0 0,sV (B+7) 2,sV (B+9) 1,.slice none 0 0] 135,.cells #[.int .i64 2,.int .i64 2,.int .i64 2,sV (B+10) 3] 24]
theorem If(w:World):ef w (.slice none 0 0) []:=⟨none,0,rfl,⟨by simp,by omega,fun _=>rfl⟩,by simp,fun i x hx=>by simp at hx⟩
theorem RL{B:Nat} {X:World} (g:∀ i o,(Tu B)[i]?=some o->X.heap[B+i]?=some o):bN X (sV (B+10) 3) ckCs:=by
 have t:=ab (g 10 _ rfl);refine⟨some ⟨B+10,0,none⟩,3,rfl,⟨by simp[ckCs],by omega,fun e=>by cases e⟩,by simp[ckCs],fun i x hx=>⟨B+10,0,rfl,?_⟩⟩;obtain⟨hi,rfl⟩:=List.getElem?_eq_some_iff.1 hx;rcases (show i=0\/i=1\/i=2 by simp[ckCs]at hi;omega) with rfl|rfl|rfl
 ·exact⟨⟨_,t 0,ib [0,0] (g 0 _ rfl) (by decide) (by decide)⟩,⟨_,t 1,xT (g 2 _ rfl) (ib [0,0] (g 1 _ rfl) (by decide) (by decide))⟩,⟨_,t 2,If _⟩⟩
 ·exact⟨⟨_,t 3,ib [0,1] (g 3 _ rfl) (by decide) (by decide)⟩,⟨_,t 4,OK (g 6 _ rfl) (ib [0,0] (g 4 _ rfl) (by decide) (by decide)) (ib [1,1] (g 5 _ rfl) (by decide) (by decide))⟩,⟨_,t 5,If _⟩⟩
 ·exact⟨⟨_,t 6,ib [1,1] (g 7 _ rfl) (by decide) (by decide)⟩,⟨_,t 7,xT (g 9 _ rfl) (ib [1,1] (g 8 _ rfl) (by decide) (by decide))⟩,⟨_,t 8,If _⟩⟩
def mR(h:Int × Int):Mv:=⟨Tt h,0⟩
theorem Ig(tmps:Array Value) (B:Nat) (W:World) (c0 c1 c2 c3 c4 c5 c6:Value) (h2:tmps[4]?.getD undef=.pointer (some ⟨B,0,none⟩))
  (hB:W.heap[B]?=some (.cells #[c0,c1,c2,c3,c4,c5,c6] 29)):(results Tryz.f36 tmps).run Tryz.prog W=.ok (.agg #[c0,c1,c2,c3,c4,c5,c6]) W:=by
 have t2:=ab hB;simp[results,Tryz.results36,go_sem,h2,t2]
theorem Pc(rounds:Int) (gs:List (Int × Int)) (n:Nat) (hl:gs.length=n) (hn:n<=100) (cZ:∀ h∈gs,bT h.1/\bT h.2) (b:Nat) (w:World) (hb:∀ i (hi:i<gs.length),w.cell? ⟨b,i * 2,none⟩=some (.int .i64 gs[i].1)/\w.cell? ⟨b,i * 2+1,none⟩=some (.int .i64 gs[i].2)) :
  Calls Tryz.prog 36 #[.int .i64 rounds,.slice (some ⟨b,0,none⟩) n n] w fun r w'=>∃ vc vs,r=.returned (nN (qT rounds gs) vc vs)/\(∀ Wf:World,(∀ k,w.heap.size<=k->k<w'.heap.size->Wf.heap[k]?=w'.heap[k]?)->bN Wf vc (qT rounds gs).t.cases/\bA Wf vs (qT rounds gs).a.states)/\Below w.heap.size w w':=by
 obtain⟨i0,cY,cC,bY,cD⟩:=info_parts Tryz.infoMove;have bZ:=aa (And.intro cY (And.intro cC (And.intro bY cD)));have HG:=aa hb;have HL:=aa hl
 have HFS:am (∀ k (hk:k<gs.length),fI ((gs.take (k+1)).map mR)=fI ((gs.take k).map mR)++(mR gs[k]).c.toList):=aa fun k hk=>by
  rw[List.take_succ_eq_append_getElem hk,List.map_append];simp[fI]
 have Wv:am (fI ((gs.take gs.length).map mR)=fI (gs.map mR)):=aa (by rw[List.take_length])
 have jd:am (∀ m∈gs.map mR,pL m.r/\bT m.to):=aa (fun m hm=>by
  obtain⟨h,hh,rfl⟩:=List.mem_map.1 hm;have z0:bT 0:=⟨by omega,by omega⟩
  exact⟨⟨⟨by simp[mR,Tt],by simp[mR,Tt]⟩,(cZ h hh).1,(cZ h hh).2,z0,z0,z0,z0⟩,z0⟩)
 clear cY cC bY cD hb hl cZ
 go_enter Tryz.func36,Tryz.ntmps36
 go_wp2_with fail
 refine bF (fun W=>Below w.heap.size w W/\W.heap[w.heap.size]?=some (.cells #[.int .i64 0,.int .i64 0,.int .i64 0,.slice none 0 0,.int .i64 0,.slice none 0 0,.int .i64 0] 29)/\∀ i o,(Tu (w.heap.size+1))[i]?=some o->W.heap[w.heap.size+1+i]?=some o) ⟨by go_grown,BY (Tu (w.heap.size+1)) (w.alloc _) (aq _ _),fun i o h=>by
  have:=Mi (Tu (w.heap.size+1)) (w.alloc (.cells #[.int .i64 0,.int .i64 0,.int .i64 0,.slice none 0 0,.int .i64 0,.slice none 0 0,.int .i64 0] 29)) i h;rw[World.size_alloc]at this
  exact this⟩ (fun W1 cO=>?_)
 have bL:=aa cO.1;have dd:=aa cO.2.1;have oE:=aa cO.2.2;have fV:=aC cO.2.1;have J3:=aa (cO.2.2 11 _ rfl);have iT:=aC J3.o;clear cO
 go_loopw [6,26] (fun o i wr=>∃ k:Nat,k<=n/\i=.int .i64 k/\Below W1.heap.size W1 wr/\aI wr W1.heap.size 143 8 o k (fI ((gs.take k).map mR))) (fun _ i _=>n - (intOf i).toNat)
 ·exact⟨0,by omega,rfl,Below.refl _ _,aI.nil _ _ _ _⟩
 ·
  obtain⟨k,hk,rfl,aB,bg⟩:=hrel;obtain⟨al,cl,rfl⟩:=bg.slice;have bO:=aa bg;have aU:=aa aB;clear bg aB;by_cases aD:k<n
  ·obtain⟨g1,g2⟩:=HG.o k (by rw[HL.o];exact aD);have dx:=ae bL.o aU.o;have t1:=ak dx g1;have t2:=ak dx g2;have Wl:=HFS.o k (by rw[HL.o];exact aD);generalize gs[k]'(by rw[HL.o];exact aD)=h at t1 t2 Wl;obtain⟨h1,h2⟩:=h;dsimp only at t1 t2;have Dt:am (fI ((gs.take (k+1)).map mR)=fI ((gs.take k).map mR)++[.int .i64 2,.int .i64 h1,.int .i64 h2,.int .i64 0,.int .i64 0,.int .i64 0,.int .i64 0,.int .i64 0]):=aa Wl;have FM:Below wr.heap.size wr ((wr.alloc (.cells #[.int .i64 h1,.int .i64 h2] 92)).alloc (.cells #[.int .i64 2,.int .i64 h1,.int .i64 h2,.int .i64 0,.int .i64 0,.int .i64 0,.int .i64 0,.int .i64 0] 143)):=by go_grown
   have tb:=ab (aq wr (.cells #[.int .i64 h1,.int .i64 h2] 92));have rX:=aa FM;have oO:=aa (bO.o.up FM);have bS:=dR (wr.alloc (.cells #[.int .i64 h1,.int .i64 h2] 92)) [.int .i64 2,.int .i64 h1,.int .i64 h2,.int .i64 0,.int .i64 0,.int .i64 0,.int .i64 0,.int .i64 0] 143;rw[World.size_alloc]at bS;have bE:=aa bS;have jJ:am (k+1<=maxLen):=aa (by unfold maxLen;omega);have eV:am ((k+1) * 64<=140737488355328):=aa (by omega);have gm:am (W1.heap.size<=((wr.alloc (.cells #[.int .i64 h1,.int .i64 h2] 92)).alloc (.cells #[.int .i64 2,.int .i64 h1,.int .i64 h2,.int .i64 0,.int .i64 0,.int .i64 0,.int .i64 0,.int .i64 0] 143)).heap.size):=aa (by have:=aU.o.size;simp;omega);clear Wl FM bS g1 g2 dx
   go_wp2_with (at_builtin;(refine aZ _ rfl (.tmp 30) (.tmp 39) 136 rfl W1.heap.size 143 i0 _ 8 64 Tryz.underlying136 bZ.o.1 bZ.o.2.1 bZ.o.2.2.1 bZ.o.2.2.2 rfl (by decide) _ k _ rfl oO.o ⟨wr.heap.size+1,0,none⟩ 1 1 [.int .i64 2,.int .i64 h1,.int .i64 h2,.int .i64 0,.int .i64 0,.int .i64 0,.int .i64 0,.int .i64 0] rfl rfl bE.o (by simp[Value.oneCell']) jJ.o eV.o gm.o ?_;intro v9 w9 eP dk _))
   go_roundw
   ·
    refine⟨k+1,by omega,by go_num,Below.grown (ae aU.o rX.o) dk gm.o (fun g hg=>(oO.o.lt g hg).1),?_⟩;rw[Dt.o];exact eP
   ·simp[intOf];omega
  ·obtain rfl:k=n:=by omega
   have aB:=aU.o;have eH:=aa (az (.cells #[.slice al k cl] 136) (af aB dd.o));have tT:=ab (az (.cells #[.slice al k cl] 136) (af aB J3.o));have tT2:=ab (af aB J3.o);clear aB
   go_wp2_with (refine wpList_store_row rfl 29 (.tmp 4) (.tmp 47) rfl w.heap.size #[.int .i64 2,.int .i64 2,.int .i64 2,sV (w.heap.size+1+10) 3,.int .i64 2,.slice (some ⟨wr.heap.size,0,none⟩) 1 1,.int .i64 rounds] rfl rfl 29 _ eH.o (by kernel_rfl) rfl (by simp[Value.oneCell']) ?_)
   have oI:Below W1.heap.size W1 (wr.alloc (.cells #[.slice al k cl] 136)):=aU.o.alloc aU.o.size _;have wN:=below_setRow (ae bL.o oI) (Nat.le_refl _) #[.int .i64 2,.int .i64 2,.int .i64 2,sV (w.heap.size+1+10) 3,.int .i64 2,.slice (some ⟨wr.heap.size,0,none⟩) 1 1,.int .i64 rounds];have hRt:∀ q,q≠w.heap.size->((wr.alloc (.cells #[.slice al k cl] 136)).setRow w.heap.size #[.int .i64 2,.int .i64 2,.int .i64 2,sV (w.heap.size+1+10) 3,.int .i64 2,.slice (some ⟨wr.heap.size,0,none⟩) 1 1,.int .i64 rounds]).heap[q]?=(wr.alloc (.cells #[.slice al k cl] 136)).heap[q]?:=fun _ hk=>setRow_other _ _ _ _ hk
   refine bodyPost_ret (Ig _ w.heap.size _ _ _ _ _ _ _ _ rfl (setRow_heap _ _ _ _ _ _ eH.o)) rfl ⟨sV (w.heap.size+1+10) 3,.slice (some ⟨wr.heap.size,0,none⟩) 1 1,rfl,fun Wf Jb=>?_,wN⟩;have eM:(wr.alloc (.cells #[.slice al k cl] 136)).heap.size<=((wr.alloc (.cells #[.slice al k cl] 136)).setRow w.heap.size #[.int .i64 2,.int .i64 2,.int .i64 2,sV (w.heap.size+1+10) 3,.int .i64 2,.slice (some ⟨wr.heap.size,0,none⟩) 1 1,.int .i64 rounds]).heap.size:=(below_setRow (Below.refl w.heap.size _) (Nat.le_refl _) _).size;have Dw:∀ g o,w.heap.size<g->(wr.alloc (.cells #[.slice al k cl] 136)).heap[g]?=some o->Wf.heap[g]?=some o:=fun g o hg ho=>(Jb g (by omega) (Nat.lt_of_lt_of_le (aC ho) eM)).trans ((setRow_other _ _ _ _ (by omega)).trans ho)
   have sh:=aU.o.size;refine⟨RL fun i o h=>Dw _ _ (by omega) (af oI (oE.o i o h)),?_⟩
   have hm:pz Wf (.slice al k cl) (gs.map mR):=by
    have h1:=bO.o;have e1:fI ((gs.take k).map mR)=fI (gs.map mR):=by rw[<-Wv.o,HL.o]
    rw[e1]at h1;have h2:=h1.keep (w':=Wf) (fun g o hg ho=>Dw g o (by have:=(h1.lt g hg).1;omega) (az _ ho));refine Fb (l:=gs.map mR) (base:=W1.heap.size) (by rw[List.length_map,HL.o];exact h2) jd.o (by rw[List.length_map,HL.o];omega)
   exact xT (Dw _ _ (by omega) (aq _ _)) hm
theorem RM{w:World} {v:Value} {l:List Cs} {xs:List Value} (h:bN w v l) (hr:mQ w 3 v l.length xs) (i:Nat) (hi:i<l.length) :
  ∃ a b c,xs[i * 3]?=some a/\xs[i * 3+1]?=some b/\xs[i * 3+2]?=some c/\aX w a l[i].inp/\ef w b l[i].out/\ef w c l[i].calm:=by
 obtain⟨p,cap,rfl,_,iF,hc,_⟩:=hr;obtain⟨p',cap',e,_,_,h3⟩:=h;cases e;obtain⟨b,o,rfl,⟨a0,q0,r0⟩,⟨a1,q1,r1⟩,⟨a2,q2,r2⟩⟩:=h3 i _ (List.getElem?_eq_getElem hi)
 have key:∀ s u,s<3->w.cell? ⟨b,o+i * 3+s,none⟩=some u->xs[i * 3+s]?=some u:=fun s u hs hu=>by
  have aD:i * 3+s<xs.length:=by omega
  obtain⟨b',o',e,hq⟩:=hc (i * 3+s) xs[i * 3+s] (List.getElem?_eq_getElem aD);cases e;rw[<-Nat.add_assoc,hu]at hq;rw[List.getElem?_eq_getElem aD,<-dp hq]
 exact⟨a0,a1,a2,key 0 _ (by omega) q0,key 1 _ (by omega) q1,key 2 _ (by omega) q2,r0,r1,r2⟩
theorem Pd{w:World} {v:Value} {l:List (List Mv)} {xs:List Value} (h:bA w v l) (hr:mQ w 1 v l.length xs) (i:Nat) (hi:i<l.length):∃ a,xs[i]?=some a/\pz w a l[i]:=by
 obtain⟨p,cap,rfl,_,iF,hc,_⟩:=hr;obtain⟨p',cap',e,_,_,h3⟩:=h;cases e;obtain⟨b,o,rfl,a0,q0,r0⟩:=h3 i _ (List.getElem?_eq_getElem hi);refine⟨a0,?_,r0⟩;have aD:i<xs.length:=by omega
 obtain⟨b',o',e,hq⟩:=hc i xs[i] (List.getElem?_eq_getElem aD);cases e;rw[Nat.mul_one]at q0;rw[q0]at hq;rw[List.getElem?_eq_getElem aD,<-dp hq]
def U8(W:World) (base:Nat) (cur:Array Value) (i:Nat) (c:Cs):Prop:=
 ∃ a b d,cur[i * 3]?=some a/\cur[i * 3+1]?=some b/\cur[i * 3+2]?=some d/\aI W base 3 1 a c.inp.length (c.inp.map (Value.int .i64))/\cS W base b c.out/\cS W base d c.calm
structure CaseRow (base g cap:Nat) (raw:List Value) (cs:List Cs) (k:Nat) (W:World):Prop where
 lo:base<=g
 fit:cs.length<=cap/\cap<=maxLen
 row:∃ cur fz,W.heap[g]?=some (.cells cur 135 fz)/\(∀ i,i<cur.size->¬ (fz.1<=i/\i<fz.2))/\cur.size=cap * 3/\(∀ i (hi:i<cs.length),i<k->U8 W base cur i cs[i])/\∀ j,k * 3<=j->j<cs.length * 3->cur[j]?=raw[j]?
theorem cB.setT{α:Type} {to ti:TypeId} {k:Nat} {flat:List α->List Value} {w:World} {base:Nat} {v:Value} {l:List (List α)} {B:Nat} {cs:Array Value} {t:TypeId} {f:Nat × Nat} (h:cB to ti k flat w base v l) (hB:w.heap[B]?=some (.cells cs t f)) (h1:to≠t) (h2:ti≠t) (o:Nat) (x:Value):cB to ti k flat (w.setCell ⟨B,o,none⟩ x) base v l:=by
 obtain⟨xs,q1,q2⟩:=h;exact⟨xs,q1.put (fun g e=>q1.ne hB h1 g e) _ _,fun i hi=>by obtain⟨y,p1,p2⟩:=q2 i hi;exact⟨y,p1,p2.put (fun g e=>p2.ne hB h2 g e) _ _⟩⟩
theorem CaseRow.up{base g cap:Nat} {raw:List Value} {cs:List Cs} {k:Nat} {W W':World} (h:CaseRow base g cap raw cs k W) (hb:Below W.heap.size W W'):CaseRow base g cap raw cs k W':=by
 obtain⟨cur,fz,q1,q2,q3,q4,q5⟩:=h.row;exact⟨h.lo,h.fit,cur,fz,af hb q1,q2,q3,fun i hi hk=>by obtain⟨a,b,d,p1,p2,p3,p4,p5,p6⟩:=q4 i hi hk;exact⟨a,b,d,p1,p2,p3,p4.up hb,p5.up hb,p6.up hb⟩,q5⟩
theorem CaseRow.put{base g cap:Nat} {raw:List Value} {cs:List Cs} {k:Nat} {W:World} (h:CaseRow base g cap raw cs k W) (hk:k<cs.length) {a b d:Value} (h1:aI W base 3 1 a cs[k].inp.length (cs[k].inp.map (Value.int .i64))) (h2:cS W base b cs[k].out) (h3:cS W base d cs[k].calm) :
  CaseRow base g cap raw cs (k+1) (((W.setCell ⟨g,k * 3,none⟩ a).setCell ⟨g,k * 3+1,none⟩ b).setCell ⟨g,k * 3+2,none⟩ d):=by
 obtain⟨cur,fz,q1,q2,q3,q4,q5⟩:=h.row;have e1:=aH q1 (k * 3) a;have e2:=aH e1 (k * 3+1) b;have e3:=aH e2 (k * 3+2) d
 have ko:∀ {x:Value} {n:Nat} {xs:List Value},aI W base 3 1 x n xs->aI (((W.setCell ⟨g,k * 3,none⟩ a).setCell ⟨g,k * 3+1,none⟩ b).setCell ⟨g,k * 3+2,none⟩ d) base 3 1 x n xs:=fun hq=>
  have w1:=hq.put (fun g' e=>hq.ne q1 (by decide) g' e) (k * 3) a;have w2:=w1.put (fun g' e=>w1.ne e1 (by decide) g' e) (k * 3+1) b
  w2.put (fun g' e=>w2.ne e2 (by decide) g' e) (k * 3+2) d
 have kf:∀ {x:Value} {l:List (List Int)},cS W base x l->cS (((W.setCell ⟨g,k * 3,none⟩ a).setCell ⟨g,k * 3+1,none⟩ b).setCell ⟨g,k * 3+2,none⟩ d) base x l:=fun hq=>
  ((hq.setT q1 (by decide) (by decide) _ _).setT e1 (by decide) (by decide) _ _).setT e2 (by decide) (by decide) _ _
 have eM:k * 3+2<cur.size:=by have:=h.fit.1;omega
 refine⟨h.lo,h.fit,_,fz,e3,fun i hi=>q2 i (by simpa using hi),by simpa using q3,fun i hi kK=>?_,fun j hj FR=>?_⟩
 ·by_cases aD:i<k
  ·obtain⟨x,y,z,p1,p2,p3,p4,p5,p6⟩:=q4 i hi aD;refine⟨x,y,z,?_,?_,?_,ko p4,kf p5,kf p6⟩
   ·rw[Array.getElem?_setIfInBounds_ne (by omega),Array.getElem?_setIfInBounds_ne (by omega),Array.getElem?_setIfInBounds_ne (by omega)];exact p1
   ·rw[Array.getElem?_setIfInBounds_ne (by omega),Array.getElem?_setIfInBounds_ne (by omega),Array.getElem?_setIfInBounds_ne (by omega)];exact p2
   ·rw[Array.getElem?_setIfInBounds_ne (by omega),Array.getElem?_setIfInBounds_ne (by omega),Array.getElem?_setIfInBounds_ne (by omega)];exact p3
  ·obtain rfl:i=k:=by omega
   refine⟨a,b,d,?_,?_,?_,ko h1,kf h2,kf h3⟩
   ·rw[Array.getElem?_setIfInBounds_ne (by omega),Array.getElem?_setIfInBounds_ne (by omega),Array.getElem?_setIfInBounds_self_of_lt (by omega)]
   ·rw[Array.getElem?_setIfInBounds_ne (by omega),Array.getElem?_setIfInBounds_self_of_lt (by simp;omega)]
   ·rw[Array.getElem?_setIfInBounds_self_of_lt (by simp;omega)]
 ·rw[Array.getElem?_setIfInBounds_ne (by omega),Array.getElem?_setIfInBounds_ne (by omega),Array.getElem?_setIfInBounds_ne (by omega)];exact q5 j (by omega) FR
theorem nT{W:World} {base:Nat} {v:Value} {l:List (List Int)} (h:cS W base v l) (hr:∀ x∈l,∀ y∈x,bT y) (hn:l.length<=1048576) (oz:∀ x∈l,x.length<=1048576):ef W v l:=
 cB.sl h (fun x a ha ho=>gE ho (hr a ha) (by have:=oz a ha;omega)) (by omega)
theorem wu{w:World} {v:Value} {l:List Cs} (h:bN w v l):∀ c∈l,(∀ y∈c.inp,bT y)/\(∀ x∈c.out,∀ y∈x,bT y)/\∀ x∈c.calm,∀ y∈x,bT y:=fun c hc=>by
 have hv:∀ {b o:Nat} {q:List (List Int)},uH w b o q->∀ x∈q,∀ y∈x,bT y:=fun {b o q} hq x hx=>by
  obtain⟨u,_,p,cap,rfl,_,_,e⟩:=hq;obtain⟨i,hi,rfl⟩:=List.getElem_of_mem hx;obtain⟨_,_,_,u2,_,h2⟩:=e i _ (List.getElem?_eq_getElem hi);exact Hi h2
 obtain⟨i,hi,rfl⟩:=List.getElem_of_mem hc;obtain⟨p,cap,rfl,_,_,e⟩:=h;obtain⟨_,_,_,⟨_,_,h0⟩,h1,h2⟩:=e i _ (List.getElem?_eq_getElem hi);exact⟨Hi h0,hv h1,hv h2⟩
theorem CaseRow.done{base g cap:Nat} {raw:List Value} {t:Tk} {k:Nat} {W:World} (h:CaseRow base g cap raw t.cases k W) (hk:t.cases.length<=k) (ht:taskE t=0) (cZ:∀ c∈t.cases,(∀ y∈c.inp,bT y)/\(∀ x∈c.out,∀ y∈x,bT y)/\∀ x∈c.calm,∀ y∈x,bT y):bN W (.slice (some ⟨g,0,none⟩) t.cases.length cap) t.cases:=by
 obtain⟨cur,fz,q1,q2,q3,q4,q5⟩:=h.row;obtain⟨⟨_,ju⟩,_,_,⟨_,hl⟩,fL⟩:=fp ht;have hf:=h.fit;refine⟨some ⟨g,0,none⟩,cap,rfl,⟨hf.1,by have:=hf.2;unfold maxLen at this;omega,fun e=>by cases e⟩,by omega,fun i x hx=>⟨g,0,rfl,?_⟩⟩;obtain⟨hi,rfl⟩:=List.getElem?_eq_some_iff.1 hx;obtain⟨a,b,d,p1,p2,p3,p4,p5,p6⟩:=q4 i hi (by omega);obtain⟨r1,r2,r3⟩:=cZ _ (List.getElem_mem hi);have ho:=fL _ (List.getElem_mem hi);rw[Nat.zero_add];have c1:=ho.inp;have c2:=ho.out2;have c3:=ho.calm;refine⟨⟨a,(ab q1 _).trans p1,gE p4 r1 (by omega)⟩,⟨b,(ab q1 _).trans p2,nT p5 r2 (by omega) (fun x hx=>by have:=ho.outs x hx;omega)⟩,⟨d,(ab q1 _).trans p3,nT p6 r3 (by omega) (fun x hx=>by have:=ho.outs x (ho.calms x hx);omega)⟩⟩
structure StateRow (base g cap:Nat) (raw:List Value) (l:List (List Mv)) (k:Nat) (W:World):Prop where
 lo:base<=g
 fit:l.length<=cap/\cap<=maxLen
 row:∃ cur fz,W.heap[g]?=some (.cells cur 136 fz)/\(∀ i,i<cur.size->¬ (fz.1<=i/\i<fz.2))/\cur.size=cap/\(∀ i (hi:i<l.length),i<k->∃ a,cur[i]?=some a/\aI W base 143 8 a l[i].length (fI l[i]))/\∀ j,k<=j->j<l.length->cur[j]?=raw[j]?
theorem StateRow.up{base g cap:Nat} {raw:List Value} {l:List (List Mv)} {k:Nat} {W W':World} (h:StateRow base g cap raw l k W) (hb:Below W.heap.size W W'):StateRow base g cap raw l k W':=by
 obtain⟨cur,fz,q1,q2,q3,q4,q5⟩:=h.row;exact⟨h.lo,h.fit,cur,fz,af hb q1,q2,q3,fun i hi hk=>by obtain⟨a,p1,p2⟩:=q4 i hi hk;exact⟨a,p1,p2.up hb⟩,q5⟩
theorem StateRow.put{base g cap:Nat} {raw:List Value} {l:List (List Mv)} {k:Nat} {W:World} (h:StateRow base g cap raw l k W) (hk:k<l.length) {a:Value} (h1:aI W base 143 8 a l[k].length (fI l[k])):StateRow base g cap raw l (k+1) (W.setCell ⟨g,k,none⟩ a):=by
 obtain⟨cur,fz,q1,q2,q3,q4,q5⟩:=h.row;have eM:k<cur.size:=by have:=h.fit.1;omega
 refine⟨h.lo,h.fit,_,fz,aH q1 k a,fun i hi=>q2 i (by simpa using hi),by simpa using q3,fun i hi kK=>?_,fun j hj FR=>?_⟩
 ·by_cases aD:i<k
  ·obtain⟨x,p1,p2⟩:=q4 i hi aD;exact⟨x,by rw[Array.getElem?_setIfInBounds_ne (by omega)];exact p1,p2.put (fun g' e=>p2.ne q1 (by decide) g' e) _ _⟩
  ·obtain rfl:i=k:=by omega
   exact⟨a,by rw[Array.getElem?_setIfInBounds_self_of_lt (by omega)],h1.put (fun g' e=>h1.ne q1 (by decide) g' e) _ _⟩
 ·rw[Array.getElem?_setIfInBounds_ne (by omega)];exact q5 j (by omega) FR
theorem StateRow.done{base g cap:Nat} {raw:List Value} {l:List (List Mv)} {k:Nat} {W:World} (h:StateRow base g cap raw l k W) (hk:l.length<=k) (hl:l.length<=256) (nm:∀ x∈l,x.length<=1048576) (cZ:∀ x∈l,∀ m∈x,pL m.r/\bT m.to):bA W (.slice (some ⟨g,0,none⟩) l.length cap) l:=by
 obtain⟨cur,fz,q1,q2,q3,q4,q5⟩:=h.row;have hf:=h.fit;refine⟨some ⟨g,0,none⟩,cap,rfl,⟨hf.1,by have:=hf.2;unfold maxLen at this;omega,fun e=>by cases e⟩,by omega,fun i x hx=>⟨g,0,rfl,?_⟩⟩;obtain⟨hi,rfl⟩:=List.getElem?_eq_some_iff.1 hx;obtain⟨a,p1,p2⟩:=q4 i hi (by omega);rw[Nat.zero_add,Nat.mul_one];exact⟨a,(ab q1 _).trans p1,Fb p2 (cZ _ (List.getElem_mem hi)) (by have:=nm _ (List.getElem_mem hi);omega)⟩
theorem MC{w:World} {v:Value} {l:List (List Mv)} (h:bA w v l):∀ x∈l,∀ m∈x,pL m.r/\bT m.to:=fun x hx=>by
 obtain⟨i,hi,rfl⟩:=List.getElem_of_mem hx;obtain⟨p,cap,rfl,_,_,e⟩:=h;obtain⟨_,_,_,u,_,hu⟩:=e i _ (List.getElem?_eq_getElem hi);exact RK hu
theorem Below.trans3{w a b c:World} (h1:Below w.heap.size w a) (h2:Below a.heap.size a b) (h3:Below b.heap.size b c):Below w.heap.size w c:=ae h1 (ae h2 h3)
theorem cB.lower9{α:Type} {to ti:TypeId} {k:Nat} {flat:List α->List Value} {w:World} {base b:Nat} {v:Value} {l:List (List α)} (h:cB to ti k flat w base v l) (hb:b<=base):cB to ti k flat w b v l:=by
 obtain⟨xs,q1,q2⟩:=h;exact⟨xs,q1.base hb,fun i hi=>by obtain⟨x,p1,p2⟩:=q2 i hi;exact⟨x,p1,p2.base hb⟩⟩
abbrev zPb:Array Value:=#[.int .i64 0,.int .i64 0,.int .i64 0,.slice none 0 0,.int .i64 0,.slice none 0 0,.int .i64 0]
theorem aI.from{w w':World} {base sz:Nat} {e:TypeId} {v:Value} {n:Nat} {xs:List Value} (h:aI w base e sz v n xs) (hk:∀ k o,base<=k->w.heap[k]?=some o->w'.heap[k]?=some o):aI w' base e sz v n xs:=
 h.keepT fun g o e1 e2=>hk g o (h.lt g e1).1 e2
theorem cB.from{α:Type} {to ti:TypeId} {k:Nat} {flat:List α->List Value} {w w':World} {base:Nat} {v:Value} {l:List (List α)} (h:cB to ti k flat w base v l) (hk:∀ k o,base<=k->w.heap[k]?=some o->w'.heap[k]?=some o):cB to ti k flat w' base v l:=by
 obtain⟨xs,q1,q2⟩:=h;exact⟨xs,q1.from hk,fun i hi=>by obtain⟨x,p1,p2⟩:=q2 i hi;exact⟨x,p1,p2.from hk⟩⟩
theorem CaseRow.from{base g cap:Nat} {raw:List Value} {cs:List Cs} {k:Nat} {W W':World} (h:CaseRow base g cap raw cs k W) (hk:∀ k o,base<=k->W.heap[k]?=some o->W'.heap[k]?=some o):CaseRow base g cap raw cs k W':=by
 obtain⟨cur,fz,q1,q2,q3,q4,q5⟩:=h.row;exact⟨h.lo,h.fit,cur,fz,hk _ _ h.lo q1,q2,q3,fun i hi kK=>by obtain⟨a,b,d,p1,p2,p3,p4,p5,p6⟩:=q4 i hi kK;exact⟨a,b,d,p1,p2,p3,p4.from hk,p5.from hk,p6.from hk⟩,q5⟩
theorem StateRow.from{base g cap:Nat} {raw:List Value} {l:List (List Mv)} {k:Nat} {W W':World} (h:StateRow base g cap raw l k W) (hk:∀ k o,base<=k->W.heap[k]?=some o->W'.heap[k]?=some o):StateRow base g cap raw l k W':=by
 obtain⟨cur,fz,q1,q2,q3,q4,q5⟩:=h.row;exact⟨h.lo,h.fit,cur,fz,hk _ _ h.lo q1,q2,q3,fun i hi kK=>by obtain⟨a,p1,p2⟩:=q4 i hi kK;exact⟨a,p1,p2.from hk⟩,q5⟩
theorem CaseRow.keep{base g cap:Nat} {raw:List Value} {cs:List Cs} {k:Nat} {W W':World} {ts:List TypeId} {ms:List Nat} {b:Nat} (h:CaseRow base g cap raw cs k W) (hk:KeepT ts ms b W W') (h1:135∉ts) (h2:3∉ts) (h3:38∉ts):CaseRow base g cap raw cs k W':=by
 obtain⟨cur,fz,q1,q2,q3,q4,q5⟩:=h.row;exact⟨h.lo,h.fit,cur,fz,hk.keep _ _ _ _ q1 h1,q2,q3,fun i hi kK=>by obtain⟨a,b,d,p1,p2,p3,p4,p5,p6⟩:=q4 i hi kK;exact⟨a,b,d,p1,p2,p3,hk.own p4 h2,hk.fresh p5 h3 h2,hk.fresh p6 h3 h2⟩,q5⟩
theorem StateRow.keep{base g cap:Nat} {raw:List Value} {l:List (List Mv)} {k:Nat} {W W':World} {ts:List TypeId} {ms:List Nat} {b:Nat} (h:StateRow base g cap raw l k W) (hk:KeepT ts ms b W W') (h1:136∉ts) (h2:143∉ts):StateRow base g cap raw l k W':=by
 obtain⟨cur,fz,q1,q2,q3,q4,q5⟩:=h.row;exact⟨h.lo,h.fit,cur,fz,hk.keep _ _ _ _ q1 h1,q2,q3,fun i hi kK=>by obtain⟨a,p1,p2⟩:=q4 i hi kK;exact⟨a,p1,hk.own p2 h2⟩,q5⟩
def U9(base:Nat) (l:List Mv):MP:=⟨fun x W=>aI W base 143 8 x l.length (fI l),fun _ _ _ h hb=>h.up hb⟩
theorem List.single_le_sum9(l:List Nat) (x:Nat) (h:x∈l):x<=l.sum:=by
 induction l with
 | nil=>simp at h
 | cons a r ih=>
  rw[List.sum_cons];rcases List.mem_cons.1 h with rfl|h
  ·omega
  ·have:=ih h;omega
theorem Ih(l:List (List Mv)) (k:Nat) (h:k<l.length):l[k].length<=movesN l:=by
 unfold movesN;exact List.single_le_sum9 (l.map List.length) _ (List.mem_map.2 ⟨_,List.getElem_mem h,rfl⟩)
theorem rp{W:World} {g:Nat} {cur:Array Value} {t:TypeId} {fz:Nat × Nat} (h:W.heap[g]?=some (.cells cur t fz)) (hf:∀ i,i<cur.size->¬ (fz.1<=i/\i<fz.2)) (o:Nat) (ho:o<cur.size):W.frozen? ⟨g,o,none⟩=false:=by
 simp only[World.frozen?,h];have:=hf o ho;simpa using this
def VW(base:Nat) (l:List Int):MP:=⟨fun x W=>aI W base 3 1 x l.length (l.map (Value.int .i64)),fun _ _ _ h hb=>h.up hb⟩
def Pe(base:Nat) (l:List (List Int)):MP:=⟨fun x W=>cS W base x l,fun _ _ _ h hb=>h.up hb⟩
def Pf(base:Nat) (c:Cs):MP:=⟨fun x W=>∃ a b d,x=.agg #[a,b,d]/\aI W base 3 1 a c.inp.length (c.inp.map (Value.int .i64))/\cS W base b c.out/\cS W base d c.calm,fun _ _ _ h hb=>by obtain⟨a,b,d,h1,h2,h3,h4⟩:=h;exact⟨a,b,d,h1,h2.up hb,h3.up hb,h4.up hb⟩⟩
theorem Pg{base:Nat} {c:Cs} {W:World} {a b d:Value} (h2:aI W base 3 1 a c.inp.length (c.inp.map (Value.int .i64))) (h3:cS W base b c.out) (h4:cS W base d c.calm):(Pf base c).p (.agg #[a,b,d]) W:=⟨a,b,d,rfl,h2,h3,h4⟩
theorem cB.slice{α:Type} {to ti:TypeId} {k:Nat} {flat:List α->List Value} {w:World} {base:Nat} {v:Value} {l:List (List α)} (h:cB to ti k flat w base v l):∃ a c,v=.slice a l.length c:=by
 obtain⟨xs,q,_⟩:=h;exact q.slice
theorem DU(p:Pb) (vc vs:Value) (w:World) (hc:bN w vc p.t.cases) (hs:bA w vs p.a.states) (ht:taskE p.t=0) (ha:advE p.a=0) (hN:movesN p.a.states<=4096) :
  Calls Tryz.prog 163 #[nN p vc vs] w fun e w'=>∃ uc us,e=.returned (nN p uc us)/\(∀ W:World,(∀ k o,w.heap.size<=k->w'.heap[k]?=some o->W.heap[k]?=some o)->bN W uc p.t.cases/\bA W us p.a.states)/\Below w.heap.size w w':=by
 obtain⟨raw,hraw⟩:=O' hc;obtain⟨raw2,hraw2⟩:=MB hs;have HC:=aa hc;have HS:=aa hs;have HR:=aa hraw;have eH:=aa hraw2;obtain⟨⟨_,ju⟩,_,_,⟨wJ,bX⟩,fL⟩:=fp ht;obtain⟨⟨fV,iT⟩,_⟩:=hZ ha;have dI:=aa fL;obtain⟨pc,cc,rfl,_⟩:=hc.at;obtain⟨ps,cs,rfl,_⟩:=hs.at;clear hc hs hraw hraw2 fL
 go_enter Tryz.func163,Tryz.ntmps163
 go_wp2_with fail
 refine aQ (fun W=>Below w.heap.size w W/\W.heap[w.heap.size]?=some (.cells #[.int .i64 p.t.n,.int .i64 p.t.ins,.int .i64 p.t.outs,.slice pc p.t.cases.length cc,.int .i64 p.a.n,.slice ps p.a.states.length cs,.int .i64 p.rounds] 29)/\W.heap[w.heap.size+1]?=some (.cells zPb 29)) ⟨by go_grown,az _ (aq _ _),bz _ _ _⟩ (fun W0 bh=>?_);obtain⟨aJ,bK,gU⟩:=bh;have cC:=aJ.size;refine(DS _ p.t.cases.length raw W0 ?_ (by omega)).mono ?_
 ·obtain⟨q,cap,e,h1,h2,h3,h4⟩:=HR.o;exact⟨q,cap,e,h1,h2,fun j u hj=>by obtain⟨b,o,e1,e2⟩:=h3 j u hj;exact⟨b,o,e1,ak aJ e2⟩,h4⟩
 rintro e w1 ⟨u,rfl,hu,aM⟩
 have cA:∃ g cap,u=.slice (some ⟨g,0,none⟩) p.t.cases.length cap/\CaseRow w.heap.size g cap raw p.t.cases 0 w1:=by
  rcases hu.2 with ⟨_,h0⟩|⟨g,cap,cur,fz,rfl,h1,h2,h3,h4,h5,h6,h7⟩
  ·omega
  ·refine⟨g,cap,rfl,by omega,⟨h4,h5⟩,cur,fz,h2,h3,h6,fun i hi hk=>by omega,fun j _ hj=>?_⟩;rw[<-h7,List.getElem?_take_of_lt hj];simp
 obtain⟨g,cap,rfl,cA⟩:=cA;have jj:=ae aJ aM;have eN:=af aM bK;have Li:=af aM gU;have t1:=ab eN;have z1:=fun o=>aG eN o
 have kx:=aa cA;have dN:=aa eN;have gy:=aa Li;have bY:=aM.size;have Xo:=aC Li;clear hu cA bK gU eN Li
 go_wp2_with fail
 clear t1 z1;refine bF (fun W=>Below w.heap.size w W/\W.heap[w.heap.size]?=some (.cells #[.int .i64 p.t.n,.int .i64 p.t.ins,.int .i64 p.t.outs,.slice (some ⟨g,0,none⟩) p.t.cases.length cap,.int .i64 p.a.n,.slice ps p.a.states.length cs,.int .i64 p.rounds] 29)/\W.heap[w.heap.size+1]?=some (.cells zPb 29)/\CaseRow w.heap.size g cap raw p.t.cases 0 W) ?_ (fun W2 fh=>?_)
 ·refine⟨jj.setCell (Nat.le_refl _) _,by rw[aH dN.o];rfl,aN gy.o (by omega) _ _,?_⟩;obtain⟨cur,fz,q1,q2,q3,q4,q5⟩:=kx.o.row;exact⟨kx.o.lo,kx.o.fit,cur,fz,aN q1 (fun e=>by have:=dN.o;rw[<-e,q1]at this;cases this) _ _,q2,q3,fun i hi hk=>by omega,q5⟩
 obtain⟨aY,hA2,q7,sW⟩:=fh
 go_loopw [17] (fun i wr=>∃ k:Nat,k<=p.t.cases.length/\i=.int .i64 k/\Below w.heap.size w wr/\wr.heap[w.heap.size]?=some (.cells #[.int .i64 p.t.n,.int .i64 p.t.ins,.int .i64 p.t.outs,.slice (some ⟨g,0,none⟩) p.t.cases.length cap,.int .i64 p.a.n,.slice ps p.a.states.length cs,.int .i64 p.rounds] 29)/\wr.heap[w.heap.size+1]?=some (.cells zPb 29)/\CaseRow w.heap.size g cap raw p.t.cases k wr) (fun i _=>p.t.cases.length - (intOf i).toNat)
 ·exact⟨0,by omega,rfl,aY,hA2,q7,sW⟩
 ·
  clear aY hA2 q7 sW;obtain⟨k,hk,rfl,aB,hA,hO,cA⟩:=hrel;have HA:=aa hA;have HO:=aa hO;have zH:=aa cA;by_cases aD:k<p.t.cases.length
  ·obtain⟨va,vb,vd,q1,q2,q3,i1,i2,i3⟩:=RM HC.o HR.o k aD;obtain⟨cur,fz,p1,p2,p3,_,p5⟩:=cA.row;have J1:=cA.fit.1;have d0:wr.cell? ⟨g,k * 3,none⟩=some va:=by rw[ab p1,p5 _ (by omega) (by omega),q1]
   have d1:wr.cell? ⟨g,k * 3+1,none⟩=some vb:=by rw[ab p1,p5 _ (by omega) (by omega),q2]
   have d2:wr.cell? ⟨g,k * 3+2,none⟩=some vd:=by rw[ab p1,p5 _ (by omega) (by omega),q3]
   have I1:=aa i1;have I2:=aa i2;have I3:=aa i3;obtain⟨pa,ca,rfl,_⟩:=i1.at;obtain⟨pb,cb,rfl,_⟩:=i2.at;obtain⟨pd,cd,rfl,_⟩:=i3.at;have oE:=aa (dI.o _ (List.getElem_mem aD));have IN:=aa (fun (W:World) (h:CaseRow w.heap.size g cap raw p.t.cases k W) (a b d:Value)=>h.put aD (a:=a) (b:=b) (d:=d));have Xy:=aC p1;clear q1 q2 q3 i1 i2 i3 p1 p2 p3 p5 hA hO cA;generalize p.t.cases[k]=c at I1 I2 I3 oE IN d0 d1 d2
   go_wp2_with fail
   clear d0 d1 d2;refine bF (fun W=>Below wr.heap.size wr W/\W.heap[wr.heap.size]?=some (.cells #[.slice pa c.inp.length ca,.slice pb c.out.length cb,.slice pd c.calm.length cd] 135)) ⟨by go_grown,aq _ _⟩ (fun W4 hW4=>?_);obtain⟨bR,hx4⟩:=hW4;have kH:=aa hx4;have TY:=aa (af bR HA.o);have AF:=aB.size;have Uc:=aC HA.o;have Xo:=aC HO.o;clear hx4
   refine fD 14 [22,23,24,25,26,27,28,29,30,31,32,33,34,35] [MP.eq (.pointer (some ⟨w.heap.size,0,none⟩)),
    MP.eq (.pointer (some ⟨w.heap.size,3,none⟩)),
    MP.eq (.slice (some ⟨g,0,none⟩) p.t.cases.length cap),
    MP.eq (.int .i64 k),
    MP.eq (.pointer (some ⟨wr.heap.size,0,none⟩)),
    MP.eq (.slice pa c.inp.length ca),
    VW w.heap.size c.inp,
    MP.eq (.pointer (some ⟨wr.heap.size,1,none⟩)),
    MP.eq (.slice pb c.out.length cb),
    Pe w.heap.size c.out,
    MP.eq (.pointer (some ⟨wr.heap.size,2,none⟩)),
    MP.eq (.slice pd c.calm.length cd),
    Pe w.heap.size c.calm,
    Pf w.heap.size c] (by kernel_rfl) (by simp) (by decide) rfl (by kernel_rfl) (by kernel_rfl) (by kernel_rfl) ?step ?tail
   case step=>
    intro x W i o s F hi ho hs hB ar hF;have fO:i=0\/i=1\/i=2\/i=3\/i=4\/i=5\/i=6\/i=7\/i=8\/i=9\/i=10\/i=11\/i=12\/i=13:=by omega
    rcases fO with rfl|rfl|rfl|rfl|rfl|rfl|rfl|rfl|rfl|rfl|rfl|rfl|rfl|rfl
    all_goals (obtain rfl:=dp ho.symm;obtain rfl:=dp hs.symm;simp only[bD,cX,List.setIfInBounds_toArray,List.set_cons_succ,List.set_cons_zero,Nat.reduceAdd]at hF)
    ·clear ar hi ho hs;subst hF
     go_wp2_with fail
     exact kP _ (Below.refl _ _) rfl
    ·have d0:=pB (ar ⟨0,.data⟩ (by simp) rfl);clear ar hi ho hs;simp only[d0]at hF;subst hF
     go_wp2_with fail
     exact kP _ (Below.refl _ _) rfl
    ·have d1:=pB (ar ⟨1,.data⟩ (by simp) rfl);clear ar hi ho hs;have t1:=ab (af hB TY.o) 3;simp at t1;simp only[d1]at hF;subst hF
     go_wp2_with fail
     exact kP _ (Below.refl _ _) rfl
    ·clear ar hi ho hs;subst hF
     go_wp2_with fail
     exact kP _ (Below.refl _ _) rfl
    ·clear ar hi ho hs;subst hF
     go_wp2_with fail
     exact kP _ (Below.refl _ _) rfl
    ·have d4:=pB (ar ⟨4,.data⟩ (by simp) rfl);clear ar hi ho hs;have t1:=ab (af hB kH.o) 0;simp at t1;simp only[d4]at hF;subst hF
     go_wp2_with fail
     exact kP _ (Below.refl _ _) rfl
    ·have d5:=pB (ar ⟨5,.data⟩ (by simp) rfl);clear ar hi ho hs;simp only[d5]at hF;subst hF
     go_wp2_with fail
     refine(uP _ c.inp W (I1.o.up up_int (Below.trans3 aB bR hB)) (by have:=oE.o.inp;omega)).mono ?_;rintro e w9 ⟨u9,rfl,jB,eC⟩;have nC:=aa (jB.base (show w.heap.size<=W.heap.size by have:=hB.size;have:=bR.size;omega));clear jB
     go_wp2_with fail
     exact kP _ eC nC.o
    ·clear ar hi ho hs;subst hF
     go_wp2_with fail
     exact kP _ (Below.refl _ _) rfl
    ·have d7:=pB (ar ⟨7,.data⟩ (by simp) rfl);clear ar hi ho hs;have t1:=ab (af hB kH.o) 1;simp at t1;simp only[d7]at hF;subst hF
     go_wp2_with fail
     exact kP _ (Below.refl _ _) rfl
    ·have d8:=pB (ar ⟨8,.data⟩ (by simp) rfl);clear ar hi ho hs;simp only[d8]at hF;subst hF
     go_wp2_with fail
     refine(sM _ c.out W (I2.o.up up_ints (Below.trans3 aB bR hB)) (by have:=oE.o.out2;have:=oE.o.calm;omega) (fun x hx=>by have:=oE.o.outs x hx;omega)).mono ?_;rintro e w9 ⟨u9,rfl,jB,eC⟩;have nC:=aa (cB.lower9 jB (show w.heap.size<=W.heap.size by have:=hB.size;have:=bR.size;omega));clear jB
     go_wp2_with fail
     exact kP _ eC nC.o
    ·clear ar hi ho hs;subst hF
     go_wp2_with fail
     exact kP _ (Below.refl _ _) rfl
    ·have d10:=pB (ar ⟨10,.data⟩ (by simp) rfl);clear ar hi ho hs;have t1:=ab (af hB kH.o) 2;simp at t1;simp only[d10]at hF;subst hF
     go_wp2_with fail
     exact kP _ (Below.refl _ _) rfl
    ·have d11:=pB (ar ⟨11,.data⟩ (by simp) rfl);clear ar hi ho hs;simp only[d11]at hF;subst hF
     go_wp2_with fail
     refine(sM _ c.calm W (I3.o.up up_ints (Below.trans3 aB bR hB)) (by have:=oE.o.out2;have:=oE.o.calm;omega) (fun x hx=>by have:=oE.o.outs x (oE.o.calms x hx);omega)).mono ?_;rintro e w9 ⟨u9,rfl,jB,eC⟩;have nC:=aa (cB.lower9 jB (show w.heap.size<=W.heap.size by have:=hB.size;have:=bR.size;omega));clear jB
     go_wp2_with fail
     exact kP _ eC nC.o
    ·have d6:=ar ⟨6,.data⟩ (by simp) rfl;have d9:=ar ⟨9,.data⟩ (by simp) rfl;have d12:=ar ⟨12,.data⟩ (by simp) rfl;clear ar hi ho hs;obtain⟨a6,c6,e6⟩:=aI.slice d6;obtain⟨a9,c9,e9⟩:=cB.slice d9;obtain⟨a12,c12,e12⟩:=cB.slice d12;rw[e6]at d6;rw[e9]at d9;rw[e12]at d12;have HD6:=aa (show aI W w.heap.size 3 1 (.slice a6 c.inp.length c6) c.inp.length (c.inp.map (Value.int .i64)) from d6);have QJ:=aa (show cS W w.heap.size (.slice a9 c.out.length c9) c.out from d9);have HD12:=aa (show cS W w.heap.size (.slice a12 c.calm.length c12) c.calm from d12);clear d6 d9 d12;simp only[e6,e9,e12]at hF;subst hF
     go_wp2_with fail
     refine bB.mk (.agg #[.slice a6 c.inp.length c6,.slice a9 c.out.length c9,.slice a12 c.calm.length c12]) ?_ ?_ ?_
     ·exact(Below.refl _ _)
     ·exact Pg HD6.o QJ.o HD12.o
     ·first
      | rfl
      | simp only[List.setIfInBounds_toArray,List.set_cons_succ,List.set_cons_zero]
   case tail=>
    intro x W3 F hB aS hF;have d2:x 2=.slice (some ⟨g,0,none⟩) p.t.cases.length cap:=aS 2 (by omega);have d3:x 3=.int .i64 k:=aS 3 (by omega);have d13:=aS 13 (by omega);obtain⟨ya,yb,yd,e13,h2,h3,h4⟩:∃ a b d,x 13=.agg #[a,b,d]/\aI W3 w.heap.size 3 1 a c.inp.length (c.inp.map (Value.int .i64))/\cS W3 w.heap.size b c.out/\cS W3 w.heap.size d c.calm:=d13;clear aS;simp only[bD,cX,List.setIfInBounds_toArray,List.set_cons_succ,List.set_cons_zero,Nat.reduceAdd]at hF;obtain⟨y1,z1,rfl⟩:=h2.slice;obtain⟨y2,z2,rfl⟩:=h3.slice;obtain⟨y3,z3,rfl⟩:=h4.slice;rw[d2,d3,e13]at hF;generalize x 0=s0,x 1=s1,x 4=s4,x 5=s5,x 6=s6,x 7=s7,x 8=s8,x 9=s9,x 10=s10,x 11=s11,x 12=s12 at hF;subst hF;have zF:=zH.o.up (ae bR hB);have zD:=aa zF;have H2:=aa h2;have H3:=aa h3;have H4:=aa h4;obtain⟨cur3,fz3,q1,q2,q3,_,q5⟩:=zF.row;have c0:∃ u,W3.cell? ⟨g,k * 3,none⟩=some u:=⟨cur3[k * 3]'(by omega),by rw[ab q1];exact Array.getElem?_eq_getElem _⟩;have c1:∃ u,W3.cell? ⟨g,k * 3+1,none⟩=some u:=⟨cur3[k * 3+1]'(by omega),by rw[ab q1];exact Array.getElem?_eq_getElem _⟩;have c2:∃ u,W3.cell? ⟨g,k * 3+2,none⟩=some u:=⟨cur3[k * 3+2]'(by omega),by rw[ab q1];exact Array.getElem?_eq_getElem _⟩;obtain⟨o0,c0⟩:=c0;obtain⟨o1,c1⟩:=c1;obtain⟨o2,c2⟩:=c2;have f0:=rp q1 q2 (k * 3) (by omega);have f1:=rp q1 q2 (k * 3+1) (by omega);have f2:=rp q1 q2 (k * 3+2) (by omega);have AJ:=af (ae bR hB) HA.o;have AH:=af (ae bR hB) HO.o;have AB:w.heap.size≠g:=mO AJ q1 (by decide);have oT:w.heap.size+1≠g:=mO AH q1 (by decide);have WQ:=aa AJ;have Xr:=aa AH;have lC:=aa (Below.trans3 aB bR hB);have xB:=zD.o.lo;clear d2 d3 e13 h2 h3 h4 zF q1 q2 q3 q5 AJ AH hB
    simp only[List.drop_succ_cons,List.drop_zero]
    go_wp2_with fail
    go_roundw
    ·exact⟨k+1,by omega,by go_num,((lC.o.setCell xB _).setCell xB _).setCell xB _,aN (aN (aN WQ.o AB _ _) AB _ _) AB _ _,aN (aN (aN Xr.o oT _ _) oT _ _) oT _ _,IN.o _ zD.o _ _ _ H2.o H3.o H4.o⟩
    ·simp[intOf];omega
  ·obtain rfl:k=p.t.cases.length:=by omega
   obtain⟨wrA,Bv⟩:∃ x,x=wr:=⟨_,rfl⟩;subst Bv;have t1:=ab hA;have z1:=fun o=>aG hA o
   have AF:=aB.size;have Uc:=aC hA;have Xo:=aC hO;clear hA hO cA
   go_wp2_with fail
   refine(B' _ p.a.states.length raw2 wrA ?_ (by omega)).mono ?_
   ·obtain⟨q,cap,e,h1,h2,h3,h4⟩:=eH.o;exact⟨q,cap,e,h1,h2,fun j u hj=>by obtain⟨b,o,e1,e2⟩:=h3 j u hj;exact⟨b,o,e1,ak aB e2⟩,h4⟩
   rintro e w3 ⟨u,rfl,hu,bH⟩
   have cA:∃ g2 cap2,u=.slice (some ⟨g2,0,none⟩) p.a.states.length cap2/\StateRow w.heap.size g2 cap2 raw2 p.a.states 0 w3:=by
    rcases hu.2 with ⟨_,h0⟩|⟨g2,cap2,cur,fz,rfl,h1,h2,h3,h4,h5,h6,h7⟩
    ·omega
    ·refine⟨g2,cap2,rfl,by omega,⟨h4,h5⟩,cur,fz,h2,h3,by omega,fun i hi hk=>by omega,fun j _ hj=>?_⟩;rw[<-h7,List.getElem?_take_of_lt (by omega)];simp
   obtain⟨g2,cap2,rfl,cA⟩:=cA;clear t1 z1;have UJ:=af bH HA.o;have t1:=ab UJ;have z1:=fun o=>aG UJ o
   have uG:=ae aB bH;have Dc:=aa cA;have F0:=aa UJ;have lT:=aa (af bH HO.o);have zD:=aa (zH.o.up bH);clear hu cA UJ
   go_wp2_with fail
   clear t1 z1;refine bF (fun W=>Below w.heap.size w W/\W.heap[w.heap.size]?=some (.cells #[.int .i64 p.t.n,.int .i64 p.t.ins,.int .i64 p.t.outs,.slice (some ⟨g,0,none⟩) p.t.cases.length cap,.int .i64 p.a.n,.slice (some ⟨g2,0,none⟩) p.a.states.length cap2,.int .i64 p.rounds] 29)/\W.heap[w.heap.size+1]?=some (.cells zPb 29)/\CaseRow w.heap.size g cap raw p.t.cases p.t.cases.length W/\StateRow w.heap.size g2 cap2 raw2 p.a.states 0 W) ?_ (fun W5 hW5=>?_)
   ·have yT:=KeepT.set (o:=5) (KeepT.refl (ms:=[]) [29] w.heap.size w3) F0.o (by simp) (Nat.le_refl _) (.slice (some ⟨g2,0,none⟩) p.a.states.length cap2);exact⟨uG.setCell (Nat.le_refl _) _,by rw[aH F0.o];rfl,aN lT.o (by omega) _ _,zD.o.keep yT (by decide) (by decide) (by decide),Dc.o.keep yT (by decide) (by decide)⟩
   obtain⟨dG,AJ,AH,hrow5,hst5⟩:=hW5
   go_loopw [48] (fun i wr=>∃ k:Nat,k<=p.a.states.length/\i=.int .i64 k/\Below w.heap.size w wr/\wr.heap[w.heap.size]?=some (.cells #[.int .i64 p.t.n,.int .i64 p.t.ins,.int .i64 p.t.outs,.slice (some ⟨g,0,none⟩) p.t.cases.length cap,.int .i64 p.a.n,.slice (some ⟨g2,0,none⟩) p.a.states.length cap2,.int .i64 p.rounds] 29)/\wr.heap[w.heap.size+1]?=some (.cells zPb 29)/\CaseRow w.heap.size g cap raw p.t.cases p.t.cases.length wr/\StateRow w.heap.size g2 cap2 raw2 p.a.states k wr) (fun i _=>p.a.states.length - (intOf i).toNat)
   ·exact⟨0,by omega,rfl,dG,AJ,AH,hrow5,hst5⟩
   ·
    clear dG AJ AH hrow5 hst5;obtain⟨k,hk,rfl,aB,hA,hO,cA,dO⟩:=hrel;have HA:=aa hA;have HO:=aa hO;have HROW6:=aa cA;have HST6:=aa dO;by_cases aD:k<p.a.states.length
    ·obtain⟨va,q1,i1⟩:=Pd HS.o eH.o k aD;obtain⟨cur,fz,p1,p2,p3,_,p5⟩:=dO.row;have J1:=dO.fit.1;have d0:wr.cell? ⟨g2,k,none⟩=some va:=by rw[ab p1,p5 _ (by omega) (by omega),q1]
     have I1:=aa i1;obtain⟨pa,ca,rfl,_⟩:=i1.at;have IN:=aa (fun (W:World) (h:StateRow w.heap.size g2 cap2 raw2 p.a.states k W) (a:Value)=>h.put aD (a:=a));have qJ:am (p.a.states[k].length<=1048576):=aa (by have:=Ih p.a.states k aD;omega);have Xy:=aC p1;clear q1 i1 p1 p2 p3 p5 hA hO cA dO;generalize p.a.states[k]=c at I1 IN qJ d0;have AF:=aB.size;have Uc:=aC HA.o
     go_wp2_with fail
     clear d0
     refine fD 6 [53,54,55,56,57,58] [MP.eq (.pointer (some ⟨w.heap.size,4,none⟩)),
      MP.eq (.pointer (some ⟨w.heap.size,5,none⟩)),
      MP.eq (.slice (some ⟨g2,0,none⟩) p.a.states.length cap2),
      MP.eq (.int .i64 k),
      MP.eq (.slice pa c.length ca),
      U9 w.heap.size c] (by kernel_rfl) (by simp) (by decide) rfl (by kernel_rfl) (by kernel_rfl) (by kernel_rfl) ?step ?tail
     case step=>
      intro x W i o s F hi ho hs hB ar hF;have fO:i=0\/i=1\/i=2\/i=3\/i=4\/i=5:=by omega
      rcases fO with rfl|rfl|rfl|rfl|rfl|rfl
      all_goals (obtain rfl:=dp ho.symm;obtain rfl:=dp hs.symm;simp only[bD,cX,List.setIfInBounds_toArray,List.set_cons_succ,List.set_cons_zero,Nat.reduceAdd]at hF)
      ·clear ar hi ho hs;subst hF
       go_wp2_with fail
       exact kP _ (Below.refl _ _) rfl
      ·have d0:=pB (ar ⟨0,.data⟩ (by simp) rfl);clear ar hi ho hs;simp only[d0]at hF;subst hF
       go_wp2_with fail
       exact kP _ (Below.refl _ _) rfl
      ·have d1:=pB (ar ⟨1,.data⟩ (by simp) rfl);clear ar hi ho hs;have t1:=ab (af hB HA.o) 5;simp at t1;simp only[d1]at hF;subst hF
       go_wp2_with fail
       exact kP _ (Below.refl _ _) rfl
      ·clear ar hi ho hs;subst hF
       go_wp2_with fail
       exact kP _ (Below.refl _ _) rfl
      ·clear ar hi ho hs;subst hF
       go_wp2_with fail
       exact kP _ (Below.refl _ _) rfl
      ·have d4:=pB (ar ⟨4,.data⟩ (by simp) rfl);clear ar hi ho hs;simp only[d4]at hF;subst hF
       go_wp2_with fail
       refine(DT _ c.length (fI c) W (Pa (I1.o.up up_move (ae aB hB))) qJ.o).mono ?_;rintro e w9 ⟨u9,rfl,jB,eC⟩;have nC:=aa (jB.base (show w.heap.size<=W.heap.size by have:=hB.size;omega));clear jB
       go_wp2_with fail
       exact kP _ eC nC.o
     case tail=>
      intro x W3 F hB aS hF;have d2:x 2=.slice (some ⟨g2,0,none⟩) p.a.states.length cap2:=aS 2 (by omega);have d3:x 3=.int .i64 k:=aS 3 (by omega);have h2:aI W3 w.heap.size 143 8 (x 5) c.length (fI c):=aS 5 (by omega);clear aS;simp only[bD,cX,List.setIfInBounds_toArray,List.set_cons_succ,List.set_cons_zero,Nat.reduceAdd]at hF;obtain⟨y1,z1,e5⟩:=h2.slice;rw[d2,d3,e5]at hF;rw[e5]at h2;generalize x 0=s0,x 1=s1,x 4=s4 at hF;subst hF;have S5:=HST6.o.up hB;have HST3:=aa S5;have zD:=aa (HROW6.o.up hB);have H2:=aa h2;obtain⟨cur3,fz3,q1,q2,q3,_,q5⟩:=S5.row;have c0:∃ u,W3.cell? ⟨g2,k,none⟩=some u:=⟨cur3[k]'(by omega),by rw[ab q1];exact Array.getElem?_eq_getElem _⟩;obtain⟨o0,c0⟩:=c0;have f0:=rp q1 q2 k (by omega);have AJ:=af hB HA.o;have AH:=af hB HO.o;have AB:w.heap.size≠g2:=mO AJ q1 (by decide);have oT:w.heap.size+1≠g2:=mO AH q1 (by decide);have WQ:=aa AJ;have Xr:=aa AH;have lC:=aa (ae aB hB);have xB:=HST3.o.lo;have Cz:=aa q1;clear d2 d3 e5 h2 S5 q1 q2 q3 q5 AJ AH hB;simp only[List.drop_succ_cons,List.drop_zero]
      go_wp2_with fail
      go_roundw
      ·exact⟨k+1,by omega,by go_num,lC.o.setCell xB _,aN WQ.o AB _ _,aN Xr.o oT _ _,zD.o.keep (KeepT.set (KeepT.refl (ms:=[]) [136] w.heap.size W3) Cz.o (by simp) xB _) (by decide) (by decide) (by decide),IN.o _ HST3.o _ H2.o⟩
      ·simp[intOf];omega
    ·obtain rfl:k=p.a.states.length:=by omega
     have tA:=ab hA;have tO:=ab hO;have zO:=fun o=>aG hO o
     have AF:=aB.size;have Uc:=aC HA.o;clear hA hO cA dO
     go_wp2_with fail
     have e0:=aH HO.o 0 (.int .i64 p.t.n);have e1:=aH e0 1 (.int .i64 p.t.ins);have e2:=aH e1 2 (.int .i64 p.t.outs);have e3:=aH e2 3 (.slice (some ⟨g,0,none⟩) p.t.cases.length cap);have e4:=aH e3 4 (.int .i64 p.a.n);have e5:=aH e4 5 (.slice (some ⟨g2,0,none⟩) p.a.states.length cap2);have e6:=aH e5 6 (.int .i64 p.rounds);have tI:w.heap.size<=w.heap.size+1:=by omega
     have yT:=((((((((KeepT.refl (ms:=[]) [29] w.heap.size wr).set (o:=0) HO.o (by simp) tI (.int .i64 p.t.n)).set (o:=1) e0 (by simp) tI (.int .i64 p.t.ins)).set (o:=2) e1 (by simp) tI (.int .i64 p.t.outs)).set (o:=3) e2 (by simp) tI (.slice (some ⟨g,0,none⟩) p.t.cases.length cap)).set (o:=4) e3 (by simp) tI (.int .i64 p.a.n)).set (o:=5) e4 (by simp) tI (.slice (some ⟨g2,0,none⟩) p.a.states.length cap2)).set (o:=6) e5 (by simp) tI (.int .i64 p.rounds));have CI:=((((((aB.setCell tI (p:=⟨w.heap.size+1,0,none⟩) (.int .i64 p.t.n)).setCell tI (p:=⟨w.heap.size+1,1,none⟩) (.int .i64 p.t.ins)).setCell tI (p:=⟨w.heap.size+1,2,none⟩) (.int .i64 p.t.outs)).setCell tI (p:=⟨w.heap.size+1,3,none⟩) (.slice (some ⟨g,0,none⟩) p.t.cases.length cap)).setCell tI (p:=⟨w.heap.size+1,4,none⟩) (.int .i64 p.a.n)).setCell tI (p:=⟨w.heap.size+1,5,none⟩) (.slice (some ⟨g2,0,none⟩) p.a.states.length cap2)).setCell tI (p:=⟨w.heap.size+1,6,none⟩) (.int .i64 p.rounds);have t7:=ab e6;refine bodyPost_ret (v:=nN p (.slice (some ⟨g,0,none⟩) p.t.cases.length cap) (.slice (some ⟨g2,0,none⟩) p.a.states.length cap2)) (by simp[results,Tryz.results163,go_sem,t7]) rfl ⟨_,_,rfl,fun W' Tz=>⟨?_,?_⟩,CI⟩
     ·exact((HROW6.o.keep yT (by decide) (by decide) (by decide)).from Tz).done (Nat.le_refl _) ht (wu HC.o)
     ·exact((HST6.o.keep yT (by decide) (by decide)).from Tz).done (Nat.le_refl _) iT (fun x hx=>by obtain⟨i,hi,rfl⟩:=List.getElem_of_mem hx;have:=Ih p.a.states i hi;omega) (MC HS.o)
theorem uy(n:Nat):∀ c,jl c n=(List.range (c * n)).map fun i=>(i / n,i % n)
 | 0=>by simp[jl]
 | c+1=>by
  have ih:=uy n c;unfold jl at ih ⊢;rw[List.range_succ,List.flatMap_append,ih,Nat.succ_mul,List.range_add,List.map_append,List.map_map];congr 1;simp only[List.flatMap_cons,List.flatMap_nil,List.append_nil];refine List.map_congr_left fun j hj=>?_
  have hj:=List.mem_range.1 hj;simp only[Function.comp];rw[show c * n+j=n * c+j by rw[Nat.mul_comm],Nat.mul_add_div (by omega),Nat.div_eq_of_lt hj,Nat.mul_add_mod,Nat.mod_eq_of_lt hj,Nat.add_zero]
theorem U'{α:Type} {k:Nat} {R:World->Nat->Nat->α->Prop} {w:World} {v:Value} {l:List (List α)} (h:fe 1 (mH k R) w v l):∃ ws:List Value,ws.length=l.length/\∃ a cap,v=.slice a l.length cap/\∀ i (hi:i<l.length),∃ b o,a=some ⟨b,o,none⟩/\w.cell? ⟨b,o+i,none⟩=some (ws.getD i undef)/\fe k R w (ws.getD i undef) l[i]:=by
 obtain⟨a,cap,rfl,h1,h2,h3⟩:=h
 have key:∀ i:Fin l.length,∃ x:Value,∃ b off,a=some ⟨b,off,none⟩/\w.cell? ⟨b,off+i.1,none⟩=some x/\fe k R w x l[i.1]:=fun i=>by
  obtain⟨b,off,ha,x,hx,hs⟩:=h3 i.1 _ (List.getElem?_eq_getElem i.2);exact⟨x,b,off,ha,by rwa [Nat.mul_one]at hx,hs⟩
 refine⟨List.ofFn fun i=>Classical.choose (key i),by simp,a,cap,rfl,fun i hi=>?_⟩
 have e:(List.ofFn fun i=>Classical.choose (key i)).getD i undef=Classical.choose (key ⟨i,hi⟩):=by
  rw[List.getD_eq_getElem?_getD,List.getElem?_ofFn];simp[hi]
 rw[e];exact Classical.choose_spec (key ⟨i,hi⟩)
theorem DV(p:Pb) (pc:Option Addr) (nc cc:Nat) (ps:Option Addr) (ns cs:Nat) (pw:Option Addr) (nw cw:Nat) (w:World) :
  Calls Tryz.prog 164 #[nN p (.slice pc nc cc) (.slice ps ns cs),.slice pw nw cw] w fun e w'=>e=.returned (.func (.func 199) #[] #[.pointer (some ⟨w.heap.size,0,none⟩),.pointer (some ⟨w.heap.size+1,0,none⟩)]) ∧
   w'=(w.alloc (.cells #[.int .i64 p.t.n,.int .i64 p.t.ins,.int .i64 p.t.outs,.slice pc nc cc,.int .i64 p.a.n,.slice ps ns cs,.int .i64 p.rounds] 29)).alloc (.cells #[.slice pw nw cw] 221):=by
 go_enter Tryz.func164,Tryz.ntmps164
 go_wp2
 go_ret
 exact⟨rfl,rfl⟩
def RN(n:Nat) (ws:List Value) (i:Nat):Array Value:=#[.int .i64 ((i / n:Nat):Int),ws.getD (i % n) undef]
theorem Ca(wd:World) (C n:Nat) (pw:Option Addr) (cw:Nat) (ws:List Value) (hn:n<=1048576) (hC:C<=1048576) (hws:∀ j,j<n->∃ b o,pw=some ⟨b,o,none⟩/\b<wd.heap.size/\wd.cell? ⟨b,o+j,none⟩=some (ws.getD j undef)/\∃ a m c,ws.getD j undef=.slice a m c) (hcw:n<=cw/\cw<=9223372036854775807)
  (w:World) (hb:Below wd.heap.size wd w) (Bp Bw:Nat) (x0 x1 x2 x4 x5 x6:Value) (pc:Option Addr) (cc:Nat) (hp:w.heap[Bp]?=some (.cells #[x0,x1,x2,.slice pc C cc,x4,x5,x6] 29)) (hw:w.heap[Bw]?=some (.cells #[.slice pw n cw] 221)) :
  so Tryz.prog 199 #[.pointer (some ⟨Bp,0,none⟩),.pointer (some ⟨Bw,0,none⟩)] (RN n ws) (C * n) (fun k=>k=Bw\/∃ ad,pw=some ad/\k=ad.block) w:=by
 intro yl J Jx W hW hJ oC hY h0;have uf:=ab (af hW hp) 3;simp at uf;have jx:=af hW hw;have eZ:∀ ad,pw=some ad->ad.block<wd.heap.size->W.heap[ad.block]?=wd.heap[ad.block]?:=fun ad _ hk=>(hW.block _ (Nat.lt_of_lt_of_le hk hb.size)).trans (hb.block _ hk)
 clear hW hb hp hw;have LW:=aa hws;clear hws;have HJ:=aa hJ;clear hJ;have Jc:=aa oC;clear oC;have HY:=aa hY;clear hY;refine(callsIn_wide (n:=0)).1 ?_;refine callsIn_of_wp Tryz.func199 rfl trivial ?_ rfl;simp only[Tryz.ntmps199,List.size_toArray,List.length_cons,List.length_nil,Nat.reduceAdd,Nat.reduceSub,Array.replicate_succ,Array.replicate_zero,List.push_toArray,List.append_toArray,List.nil_append,List.cons_append]
 gi_wp2
 clear uf
 gi_loopw [11] (fun i wr=>∃ s:Nat,s<=C/\i=.int .i64 s/\(∀ ad,pw=some ad->ad.block<wd.heap.size->wr.heap[ad.block]?=wd.heap[ad.block]?)/\wr.heap[Bw]?=some (.cells #[.slice pw n cw] 221)/\J (s * n) wr) (fun i _=>C - (intOf i).toNat)
 ·exact⟨0,by omega,rfl,eZ,jx,by rw[Nat.zero_mul];exact h0⟩
 ·
  obtain⟨s,hs,rfl,fU,kG,hj⟩:=hrel;have j9:=aa fU;clear fU;have je:=aa hj;clear hj;have Dq:=aa kG;by_cases aD:s<C
  ·have tw:=ab kG 0;simp at tw;clear kG
   gi_wp2
   clear tw;obtain⟨W0,bh⟩:∃ W0:World,W0=wr:=⟨_,rfl⟩;rw[<-bh]at j9 je Dq ⊢;clear bh wr
   gi_loopw [16] (fun i wr=>∃ j:Nat,j<=n/\i=.int .i64 j/\(∀ ad,pw=some ad->ad.block<wd.heap.size->wr.heap[ad.block]?=wd.heap[ad.block]?)/\wr.heap[Bw]?=some (.cells #[.slice pw n cw] 221)/\J (s * n+j) wr) (fun i _=>n - (intOf i).toNat)
   ·exact⟨0,by omega,rfl,j9.o,Dq.o,je.o⟩
   ·
    obtain⟨j,hj,rfl,fU,kG,y8⟩:=hrel;have oN:=aa fU;clear fU;have Jh:=aa y8;clear y8;have HWR2:=aa kG;clear kG;by_cases LM:j<n
    ·obtain⟨b2,o2,rfl,WE,c0,a9,m9,c9,e9⟩:=LW.o j LM
     have d0:wr.cell? ⟨b2,o2+j,none⟩=some (ws.getD j undef):=by
      rw[<-c0];simp only[World.cell?,oN.o _ rfl WE]
     have kW:s * n+j<C * n:=by
      have h1:(s+1) * n<=C * n:=Nat.mul_le_mul_right _ aD;rw[Nat.succ_mul]at h1;omega
     have hdiv:(s * n+j) / n=s:=by rw[Nat.mul_comm,Nat.mul_add_div (by omega),Nat.div_eq_of_lt LM,Nat.add_zero]
     have hmod:(s * n+j) % n=j:=by rw[Nat.mul_comm,Nat.mul_add_mod,Nat.mod_eq_of_lt LM]
     obtain⟨fn,tmps,assign,body,hy,hR⟩:=HY.o (s * n+j) wr kW Jh.o;unfold RN at hy;rw[hdiv,hmod,e9]at hy;rw[e9]at d0;have HR:=aa hR;clear hR hdiv hmod c0 e9;have Ao:=aa kW;clear kW
     gi_wp2
     refine⟨rfl,HR.o.mono ?_⟩;rintro e W3 (⟨rfl,Cy,Dp,ii⟩|⟨rfl,rO⟩)
     ·gi_wp2
      go_roundw
      ·exact⟨j+1,by omega,by go_num,fun ad e1 e2=>(ii _ (.inr ⟨ad,e1,rfl⟩)).trans (oN.o ad e1 e2),(ii Bw (.inl rfl)).trans HWR2.o,Cy⟩
      ·simp[intOf];omega
     ·gi_wp2
      refine bodyPost_ret (results_none rfl _ _ _) rfl ?_;exact⟨⟨_,rfl⟩,.inr ⟨_,Ao.o,rO⟩⟩
    ·gi_wp2
     go_roundw
     ·
      refine⟨s+1,by omega,by go_num,oN.o,HWR2.o,?_⟩;have e:n=j:=by omega
      rw[Nat.succ_mul];have h9:=Jh.o;rw[<-e]at h9;exact h9
     ·simp[intOf];omega
  ·obtain rfl:s=C:=by omega
   gi_wp2
   go_end0
   exact⟨⟨_,rfl⟩,.inl je.o⟩
theorem Gy(y x:Int) (b:Nat) (a:Addr) (n c:Nat) (hn:0<n) (W:World) (h1:W.cell? ⟨b,0,none⟩=some (.slice (some a) n c)) (h2:W.cell? a=some (.int .i64 x)) :
  Calls Tryz.prog 172 #[.int .i64 y,.pointer (some ⟨b,0,none⟩)] W fun e W'=>e=.returned (.bool (y != x))/\Below W.heap.size W W':=by
 go_enter Tryz.func172,Tryz.ntmps172
 go_wp2_with fail
 go_ret
 exact⟨rfl,by go_grown⟩
theorem Ii(v:Value) (l:List Int) (w:World) (hv:aX w v l) :
  Calls Tryz.prog 125 #[v] w fun e w'=>e=.returned (.bool (constB l))/\Below w.heap.size w w':=by
 obtain⟨pa,ca,rfl,lt1,lt2,ea⟩:=hv.at
 have HC:=aa (fun (W:World) (hb:Below w.heap.size w W) (hB:W.heap[w.heap.size]?=some (.cells #[.slice pa l.length ca] 38))=>kl 172 #[.pointer (some ⟨w.heap.size,0,none⟩)] (enters_of Tryz.func172 (by kernel_rfl) rfl) (.slice pa l.length ca) l (fun i=>decide (l.getD i 0≠l.getD 0 0)) W (hv.up up_int hb) (fun i hi W2 aY=>by
  obtain⟨b0,o0,e0,h0,_⟩:=ea 0 (by omega);rw[Nat.zero_mul,Nat.add_zero]at h0;have:=Gy l[i] (l.getD 0 0) w.heap.size ⟨b0,o0,none⟩ l.length ca (by omega) W2 (by rw[ab (af aY hB),e0];rfl) (by rw[aA 0 (show 0<l.length by omega)];exact ak (ae hb aY) h0);refine this.mono fun e W' ⟨h1,h2⟩=>⟨?_,h2⟩
  rw[h1,aA 0 hi];have hx:(l[i] != l.getD 0 0)=decide (l[i]≠l.getD 0 0):=by rw[Bool.eq_iff_iff];simp
  rw[hx]))
 have Lh:am (constB l=!(anyLt l.length fun i=>decide (l.getD i 0≠l.getD 0 0))):=aa rfl;clear hv ea
 go_enter Tryz.func125,Tryz.ntmps125
 go_wp2_with fail
 refine aQ (fun W=>Below w.heap.size w W/\W.heap[w.heap.size]?=some (.cells #[.slice pa l.length ca] 38)) ⟨by go_grown,aq _ _⟩ (fun W0 bh=>?_);obtain⟨aJ,bK⟩:=bh;refine(HC.o W0 aJ bK).mono ?_;rintro e w1 ⟨rfl,aM⟩;clear bK HC;generalize (anyLt l.length fun i=>decide (l.getD i 0≠l.getD 0 0))=b at Lh
 go_wp2_with fail
 go_ret
 exact⟨aR (by rw[Lh.o]),ae aJ aM⟩
def uW(e:Int) (a:Bool):Value:=.tuple #[.bool (decide (e=0)&&a),.int .i64 e]
theorem Gz(t:Tk) (vc:Value) (w:World) (hv:bN w vc t.cases) :
  Calls Tryz.prog 76 #[.agg #[.int .i64 t.n,.int .i64 t.ins,.int .i64 t.outs,vc]] w fun e w'=>e=.returned (uW (taskE t) (agreeB t))/\Below w.heap.size w w':=by
 have HT:=aa (fun W (hb:Below w.heap.size w W)=>qK t vc W (hv.up up_case hb));obtain⟨te,hte⟩:∃ te,taskE t=te:=⟨_,rfl⟩;rw[hte]at HT ⊢;clear hte;obtain⟨pc,cc,rfl,l1,m1,e1⟩:=hv.at;clear hv;have E:=aa e1;clear e1
 have fZ:am (∀ k j,k<t.cases.length->j<(t.cases.getD k default).out.length->constB ((t.cases.getD k default).out.getD j [])=false->agreeB t=false):=aa fun k j hk hj h=>by
  cases ha:agreeB t with
  | false=>rfl
  | true=>rw[(qh t).1 ha k hk j hj]at h;cases h
 have jT:am ((∀ k,k<t.cases.length->∀ j,j<(t.cases.getD k default).out.length->constB ((t.cases.getD k default).out.getD j [])=true)->agreeB t=true):=aa fun h=>(qh t).2 h
 generalize agreeB t=ag at fZ jT
 go_enter Tryz.func76,Tryz.ntmps76
 go_wp2_with fail
 refine aQ (fun W=>Below w.heap.size w W/\W.heap[w.heap.size]?=some (.cells #[.int .i64 t.n,.int .i64 t.ins,.int .i64 t.outs,.slice pc t.cases.length cc] 24)) ⟨by go_grown,aq _ _⟩ (fun W0 bh=>?_);obtain⟨aJ,bK⟩:=bh;refine(HT.o W0 aJ).mono ?_;rintro e w1 ⟨rfl,aM⟩;have gl:=ae aJ aM;have t1:=ab (af aM bK);clear bK HT;by_cases hz:te=0
 case neg=>
  have LZ:(te != 0)=true:=by simpa using hz
  have hd:decide (te=0)=false:=decide_eq_false hz
  go_wp2_with fail
  go_ret2
  exact⟨by unfold uW;rw[hd];simp,gl⟩
 subst hz;have bL:=aa gl
 go_wp2_with fail
 clear t1
 go_loopw [17] (fun i wr=>Below w1.heap.size w1 wr/\∃ k:Nat,k<=t.cases.length/\i=.int .i64 k/\∀ q,q<k->∀ j,j<(t.cases.getD q default).out.length->constB ((t.cases.getD q default).out.getD j [])=true) (fun i _=>t.cases.length - (intOf i).toNat)
 ·exact⟨Below.refl _ _,0,by omega,rfl,fun q hq=>by omega⟩
 ·
  obtain⟨aB,k,hk,rfl,aV⟩:=hrel;have H:=aa aV;clear aV;have dD:=ae bL.o aB;have eY:=aa dD;by_cases aD:k<t.cases.length
  ·obtain⟨b1,o1,rfl,⟨x0,cx0,dq⟩,⟨x1,cx1,dA⟩,⟨x2,cx2,dW⟩⟩:=E.o k aD;have d0:=ak dD cx0;have d1:=ak dD cx1;have d2:=ak dD cx2;have HG:=aa (aA default aD);have kJ:=aa (dA.up up_ints dD);obtain⟨p0,q0,rfl,_⟩:=dq;obtain⟨p1,q1,rfl,wJ,Te,ex⟩:=dA.at;obtain⟨p2,q2,rfl,_⟩:=dW;have EX:=aa ex;have qo:=aa (fun j=>fZ.o k j aD);rw[HG.o]at qo;clear cx0 cx1 cx2 dA ex;generalize t.cases[k]=c at d0 d1 d2 kJ EX HG qo wJ Te;have tp:=aa aB;clear aB dD
   go_wp2_with fail
   clear d0 d1 d2;obtain⟨wrA,lV⟩:∃ x,x=wr:=⟨_,rfl⟩;subst lV;refine bF (fun W=>Below wrA.heap.size wrA W) (by go_grown) (fun W1 aY=>?_);have cV:=aa aY;clear aY
   go_loopw [24] (fun i wr=>Below wrA.heap.size wrA wr/\∃ j:Nat,j<=c.out.length/\i=.int .i64 j/\∀ q,q<j->constB (c.out.getD q [])=true) (fun i _=>c.out.length - (intOf i).toNat)
   ·exact⟨cV.o,0,by omega,rfl,fun q hq=>by omega⟩
   ·
    obtain⟨aB,j,hj,rfl,aV⟩:=hrel;have H2:=aa aV;clear aV;have aU:=aa aB;have bV:=aa (ae eY.o aB);by_cases fJ:j<c.out.length
    ·obtain⟨b3,o3,rfl,vx,cvx,Ga⟩:=EX.o j fJ;have dv:=ak bV.o cvx;have Dk:=aa (Ga.up up_int bV.o);have Am:=aa (aA [] fJ);rw[Nat.mul_one]at dv;clear cvx Ga aB
     go_wp2_with fail
     refine(Ii vx _ wr Dk.o).mono ?_;rintro e w4 ⟨rfl,bR⟩;have eU:=aa bR;clear dv bR;cases hc:constB c.out[j] with
     | true=>
      have HC:am (constB (c.out.getD j [])=true):=aa (by rw[Am.o];exact hc);clear hc
      go_wp2_with fail
      go_roundw
      ·exact⟨ae aU.o eU.o,j+1,by omega,by go_num,aW H2.o HC.o⟩
      ·simp[intOf];omega
     | false=>
      have HC:am (ag=false):=aa (qo.o j fJ (by rw[Am.o];exact hc));clear hc
      go_wp2_with fail
      go_ret2
      exact⟨by rw[HC.o];unfold uW;simp,ae bV.o eU.o⟩
    ·have mT:am (∀ q,q<c.out.length->constB (c.out.getD q [])=true):=aa fun q hq=>H2.o q (by omega)
     clear aB
     go_wp2_with fail
     go_roundw
     ·exact⟨ae tp.o aU.o,k+1,by omega,by go_num,aW H.o (by rw[HG.o];exact mT.o)⟩
     ·simp[intOf];omega
  ·have HR:am (ag=true):=aa (jT.o fun q hq=>H.o q (by omega));clear aB dD
   go_wp2_with fail
   go_ret2
   exact⟨by rw[HR.o];unfold uW;simp,eY.o⟩
end Go.Proofs.YtmeaoneaephjeaaGreatDoor
namespace Go.Proofs.YtmeaoneaephjeaaGreatDoor
open Go.RowKit Go Go.Shelf
def Ph(w:World) (b o:Nat) (x:Lk):Prop:=ge w b o x.x/\ge w b (o+1) x.p
theorem up_link:Up Ph:=fun _ _ _ _ _ hb h=>⟨up_int _ _ _ _ _ hb h.1,up_int _ _ _ _ _ hb h.2⟩
abbrev bJ:=fe 2 Ph
abbrev Lk.c(y:Lk):Array Value:=#[.int .i64 y.x,.int .i64 y.p]
abbrev Lk.v(y:Lk):Value:=.agg y.c
def cH(l:List Lk):List Value:=l.flatMap fun y=>y.c.toList
theorem lM(xs:List Lk):(cH xs).length=xs.length * 2:=by
 induction xs with
 | nil=>rfl
 | cons a r ih=>
  have:cH (a :: r)=a.c.toList++cH r:=rfl;rw[this,List.length_append,ih];simp;omega
theorem kq(a b:List Lk):cH (a++b)=cH a++cH b:=by simp[cH]
theorem Cb(xs:List Lk):∀ u∈cH xs,u.oneCell'=true:=by
 intro u hu;obtain⟨x,_,hx⟩:=List.mem_flatMap.1 hu;simp at hx;rcases hx with h|h<;>subst h<;>rfl
def fy(s:Sys) (e:Nat):List Int:=(List.range (nS s)).map fun p=>if hasB (fltS s e) p then -1 else finS s e p
def rH(s:Sys):List (List Int):=(List.range (eS s)).map (fy s)
def DW(s:Sys):List Int:=(List.range (eS s)).map fun e=>((gY s e:Nat):Int)
structure FinAt (w:World) (B:Nat) (s:Sys):Prop where
 ex:∃ vl,w.heap[B]?=some (.cells #[.int .i64 (nS s),vl] 201)/\ef w vl (rH s)
theorem FinAt.up{w w':World} {B:Nat} {s:Sys} (h:FinAt w B s) (hb:Below w.heap.size w w'):FinAt w' B s:=by
 obtain⟨vl,h1,h2⟩:=h.ex;exact⟨vl,af hb h1,h2.up up_ints hb⟩
structure ScAt (w:World) (B:Nat) (s:Sys):Prop where
 ex:∃ vc vs vt ve vv vl,w.heap[B]?=some (.cells (cj s.prob vc vs s.n vt ve++#[vv,vl]) 98)/\IsSys w s vc vs vt ve/\aX w vv (DW s)/\aX w vl (partsS s)
theorem ScAt.up{w w':World} {B:Nat} {s:Sys} (h:ScAt w B s) (hb:Below w.heap.size w w'):ScAt w' B s:=by
 obtain⟨vc,vs,vt,ve,vv,vl,h1,h2,h3,h4⟩:=h.ex;exact⟨vc,vs,vt,ve,vv,vl,af hb h1,h2.up hb,h3.up up_int hb,h4.up up_int hb⟩
def jS(v:Vw):Prop:=bT v.p/\bT v.k/\bT v.i/\bT v.h0/\bT v.h1/\bT v.h2/\bT v.h3/\bT v.h4
theorem RO(B:Nat) (st:List Vw × List Int) (v:Vw) (hv:jS v) (h1:∀ u∈st.1,jS u) (h2:∀ z∈st.2,0<=z/\z<=B) (hl:st.1.length<=B):(∀ u∈(gS st v).1,jS u)/\∀ z∈(gS st v).2,0<=z/\z<=(B:Int):=by
 unfold gS;refine⟨fun u hu=>?_,fun z hz=>?_⟩
 ·unfold putV at hu;dsimp only at hu;split at hu
  ·exact h1 u hu
  ·rcases List.mem_append.1 hu with h|h
   ·exact h1 u h
   ·rw[List.mem_singleton]at h;subst h;exact hv
 ·rcases List.mem_append.1 hz with h|h
  ·exact h2 z h
  ·rw[List.mem_singleton]at h;subst h;have:=U4 st.1 v;omega
theorem yh(B:Nat) (vs:List Vw):∀ st:List Vw × List Int,(∀ v∈vs,jS v)->(∀ u∈st.1,jS u)->(∀ z∈st.2,0<=z/\z<=(B:Int))->st.1.length+vs.length<=B->(∀ u∈(vs.foldl gS st).1,jS u)/\∀ z∈(vs.foldl gS st).2,0<=z/\z<=(B:Int):=by
 induction vs with
 | nil=>intro st _ h1 h2 _;exact⟨h1,h2⟩
 | cons v r ih=>
  intro st hv h1 h2 hl;simp only[List.length_cons]at hl;have h3:=RO B st v (hv v (by simp)) h1 h2 (by omega);have h4:=(EG st v).2;exact ih _ (fun u hu=>hv u (by simp[hu])) h3.1 h3.2 (by omega)
theorem Pi(st:List Vw × List Int) (v:Vw):st.1.length<=(gS st v).1.length:=by
 unfold gS putV;dsimp only;split<;>simp
theorem Cc(vs:List Vw):∀ st:List Vw × List Int,st.1.length<=(vs.foldl gS st).1.length:=by
 induction vs with
 | nil=>intro st;exact Nat.le_refl _
 | cons v r ih=>intro st;exact Nat.le_trans (Pi st v) (ih _)
theorem Cd(n:Nat) (inp:List Int) (word:List Rd) (tb:List Vw):∀ k,tb.length<=(playTo n inp word tb k).1.length
 | 0=>Cc _ (tb,[])
 | k+1=>Nat.le_trans (Cd n inp word tb k) (Cc (fN n k (word.getD k default) ((playTo n inp word tb k).2.getLastD [])) ((playTo n inp word tb k).1,[]))
theorem uX(k:Nat) (h:k<=1000000):bT (k:Int):=⟨by omega,by omega⟩
theorem yk(n:Nat) (hn:n<=5) (inp:List Int) (hi:∀ x∈inp,bT x) (word:List Rd) (tb:List Vw) (ht:∀ v∈tb,jS v):∀ k,k<=6->tb.length+40<=100000->(∀ v∈(playTo n inp word tb k).1,jS v)/\∀ row∈(playTo n inp word tb k).2,∀ z∈row,0<=z/\z<=(100000:Int)
 | 0,_,hl=>by
  have h:=yh 100000 (gj inp n) (tb,[]) (fun v hv=>by
   obtain⟨p,hp,rfl⟩:=List.mem_map.1 hv;have hp:=List.mem_range.1 hp
   have hx:bT (inp.getD p 0):=by
    by_cases h:p<inp.length
    ·rw[aA 0 h];exact hi _ (List.getElem_mem h)
    ·rw[List.getD_eq_getElem?_getD,List.getElem?_eq_none (by omega)];exact⟨by simp,by simp⟩
   exact⟨uX p (by omega),⟨by simp[eh],by simp[eh]⟩,hx,⟨by simp[eh],by simp[eh]⟩,⟨by simp[eh],by simp[eh]⟩,⟨by simp[eh],by simp[eh]⟩,⟨by simp[eh],by simp[eh]⟩,⟨by simp[eh],by simp[eh]⟩⟩) ht (fun z hz=>by simp at hz) (by simp;omega)
  exact⟨h.1,fun row hr z hz=>by
   have:row=(addAll tb (gj inp n)).2:=by simpa[playTo,uM] using hr
   subst this
   exact h.2 z hz⟩
 | k+1,hk,hl=>by
  obtain⟨h1,h2⟩:=yk n hn inp hi word tb ht k (by omega) hl;have cN:=it n inp word tb k;have h9:n * (k+1)<=5 * 7:=Nat.mul_le_mul hn (by omega);have e:(playTo n inp word tb (k+1)).2=(playTo n inp word tb k).2++[(addAll (playTo n inp word tb k).1 (fN n k (word.getD k default) ((playTo n inp word tb k).2.getLastD []))).2]:=rfl
  have pQ:∀ q,0<=((playTo n inp word tb k).2.getLastD []).getD q 0/\((playTo n inp word tb k).2.getLastD []).getD q 0<=(100000:Int):=fun q=>by
   have hm:(playTo n inp word tb k).2.getLastD []∈(playTo n inp word tb k).2:=by
    rcases List.eq_nil_or_concat (playTo n inp word tb k).2 with h|⟨l',a,h⟩
    ·rw[h]at cN;simp at cN
    ·rw[h,List.concat_eq_append,List.getLastD_concat];simp
   by_cases h:q<((playTo n inp word tb k).2.getLastD []).length
   ·rw[aA 0 h];exact h2 _ hm _ (List.getElem_mem h)
   ·rw[List.getD_eq_getElem?_getD,List.getElem?_eq_none (by omega)];simp
  have e1:(playTo n inp word tb (k+1)).1=(addAll (playTo n inp word tb k).1 (fN n k (word.getD k default) ((playTo n inp word tb k).2.getLastD []))).1:=rfl;rw[e,e1];generalize (playTo n inp word tb k).2.getLastD []=now at pQ ⊢
  have hv:∀ v∈fN n k (word.getD k default) now,jS v:=fun v hv=>by
   obtain⟨p,hp,rfl⟩:=List.mem_map.1 hv;have hp:=List.mem_range.1 hp
   have hh:∀ q,bT (l6 n (word.getD k default) now p q):=fun q=>by
    unfold l6;have:=pQ q;split
    ·exact⟨by omega,by omega⟩
    ·exact⟨by simp,by simp⟩
   exact⟨uX p (by omega),⟨by simp only[nextV];omega,by simp only[nextV];omega⟩,⟨by simp[nextV],by simp[nextV]⟩,hh 0,hh 1,hh 2,hh 3,hh 4⟩
  have h:=yh 100000 (fN n k (word.getD k default) now) ((playTo n inp word tb k).1,[]) hv h1 (fun z hz=>by simp at hz) (by simp;omega);refine⟨h.1,fun row hr=>?_⟩
  ·rcases List.mem_append.1 hr with hr|hr
   ·exact h2 row hr
   ·rw[List.mem_singleton]at hr;subst hr;exact h.2
section
variable {P : Program} (w : World)
theorem Ij(base:Nat) (t ty e:TypeId) (i:TypeInfo) (z:Value) (size bytes:Nat) (ht:P.underlying t=some (.slice e)) (hi:P.info? e=some i) (hz:i.zero=some z)
  (fd:i.size=size) (gH:i.bytes=bytes) (rY:z.cells.size=size) (eM:0<size)
  (v:Value) (n:Nat) (xs:List Value) (bg:aI w base e size v n xs)
  (u:Value) (m:Nat) (news:List Value) (hu:mQ w size u m news)
  (oW:n+m<=maxLen) (gC:(n+m) * bytes<=140737488355328) (mE:base<=w.heap.size) :
  ∃ v' w',(Builtin.append_ #[t,t] ty #[v,u]).run P w=.ok v' w'/\aI w' base e size v' (n+m) (xs++news)/\w.grownBy w' v.ownBlock/\(v'.ownBlock=v.ownBlock\/v'.ownBlock=some w.heap.size):=by
 obtain⟨a,cap,rfl,jZ,cN,hc,h1⟩:=hu;cases a with
 | some ad=>
  refine rE w base t ty e i z size bytes ht hi hz fd gH rY eM v n xs bg ad m cap news cN (fun j u hj=>?_) h1 oW gC mE;obtain⟨b,o,e1,eK⟩:=hc j u hj;cases e1;have:(Addr.add ⟨b,o,none⟩ j)=⟨b,o+j,none⟩:=by unfold Addr.add;split<;>simp_all
  rw[this];exact eK
 | none=>
  obtain⟨rfl,rfl⟩:=jZ rfl;have hn:news=[]:=List.eq_nil_of_length_eq_zero (by simpa using cN);subst hn;refine⟨v,w,?_,by simpa using bg,⟨rfl,rfl,rfl,Nat.le_refl _,fun _ _ _=>rfl⟩,.inl rfl⟩;rcases bg.2 with ⟨rfl,rfl⟩|⟨g,cp,cur,fz,rfl,_,_,_,iI,_⟩
  ·simp[Builtin.append_,run_underlying ht,sizeOf,typeInfo,hi,Builtin.lenOf,Builtin.firstCells]
  ·simp[Builtin.append_,run_underlying ht,sizeOf,typeInfo,hi,Builtin.lenOf,Builtin.firstCells,iI,storeCells]
theorem kS{ops:Array Oper} {rest:List Oper} {o:Oper} {a:Act} {Q:Exit->Act->World->Prop} (lD:o.guard=none) (s x:Operand) (t:TypeId)
  (ho:o.op=.call { callee:=.builtin .append,args:=#[s,x],argTypes:=#[t,t] })
  (base:Nat) (e:TypeId) (i:TypeInfo) (z:Value) (size bytes:Nat) (ht:P.underlying t=some (.slice e)) (hi:P.info? e=some i) (hz:i.zero=some z)
  (fd:i.size=size) (gH:i.bytes=bytes) (rY:z.cells.size=size) (eM:0<size)
  (v:Value) (n:Nat) (xs:List Value) (hs:a.eval s=v) (bg:aI w base e size v n xs)
  (u:Value) (m:Nat) (news:List Value) (hx:a.eval x=u) (hu:mQ w size u m news)
  (oW:n+m<=maxLen) (gC:(n+m) * bytes<=140737488355328) (mE:base<=w.heap.size)
  (h:∀ v' w',aI w' base e size v' (n+m) (xs++news)->w.grownBy w' v.ownBlock->(v'.ownBlock=v.ownBlock\/v'.ownBlock=some w.heap.size)->wpList P ops Q rest (a.put o.dst v') w'):wpList P ops Q (o :: rest) a w:=by
 refine wpList_plain lD fun _ hK=>?_
 obtain⟨v',w',hr,h2,h3,h4⟩:=Ij (P:=P) w base t o.type e i z size bytes ht hi hz fd gH rY eM v n xs bg u m news hu oW gC mE;unfold Oper.wp execOp;simp only[ho,resolve,invoke,builtin,Sem.run_bind,Sem.run_pure,Result.andThen_ok,List.map_toArray,List.map_cons,List.map_nil,hs,hx,hr];exact hK _ _ (h v' w' h2 h3 h4)
end
end Go.Proofs.YtmeaoneaephjeaaGreatDoor
