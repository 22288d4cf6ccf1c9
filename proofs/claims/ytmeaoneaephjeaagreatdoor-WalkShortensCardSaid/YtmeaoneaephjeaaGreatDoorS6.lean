/-
  A part of the proof: lemmas and contracts that the parts behind it use. Each one's conditions are its own premises.
-/
import Derived.Test.YtmeaoneaephjeaaGreatDoorS5
set_option maxRecDepth 100000
set_option maxHeartbeats 8000000
set_option linter.unusedVariables false
set_option linter.unusedSimpArgs false
namespace Go.Proofs.YtmeaoneaephjeaaGreatDoor
open Go.RowKit Go Go.Shelf
attribute [local go_sem] Oper.semAt_some
theorem KeepT.grownNew{ts:List TypeId} {ms:List Nat} {base:Nat} {w w' w'':World} {row:Option Nat} (h:KeepT ts ms base w w') (hs:base<=w.heap.size) (hr:∀ g,row=some g->w.heap.size<=g) (hg:w'.grownBy w'' row):KeepT ts ms base w w'':=by
 refine⟨Below.grown h.old hg (Nat.le_trans hs h.old.size) (fun g e=>Nat.le_trans hs (hr g e)),fun j c t f h1 h2=>?_,fun j o h1 h2 h3=>?_⟩
 ·have h3:=h.keep j c t f h1 h2;exact(hg.block j (aC h3) (fun e'=>by have:=hr j e'.symm;have:=aC h1;omega)).trans h3
 ·have h4:=h.oth j o h1 h2 h3;exact(hg.block j (aC h4) (fun e'=>by have:=hr j e'.symm;have:=aC h1;omega)).trans h4
theorem KeepT.setNew{ts:List TypeId} {ms:List Nat} {base:Nat} {w w':World} {B o:Nat} (h:KeepT ts ms base w w') (hs:base<=w.heap.size) (hb:w.heap.size<=B) (v:Value):KeepT ts ms base w (w'.setCell ⟨B,o,none⟩ v):=by
 refine⟨h.old.setCell (Nat.le_trans hs hb) v,fun j c' t' f' h1 h2=>aO (h.keep j c' t' f' h1 h2) ?_ o v,fun j o' h1 h2 h3=>aO (h.oth j o' h1 h2 h3) ?_ o v⟩
 ·have:=aC h1;omega
 ·have:=aC h1;omega
theorem BldIs.set{base b mb n:Nat} {tab:List Vw} {W:World} {B o:Nat} {c:Array Value} {t:TypeId} {f:Nat × Nat} (h:BldIs base b mb n tab W) (hB:W.heap[B]?=some (.cells c t f)) (ht:t∉bldT) (v:Value):BldIs base b mb n tab (W.setCell ⟨B,o,none⟩ v):=by
 obtain⟨vs,h1,h2,h3,es,ck,p1,p2⟩:=h.ex;refine⟨h.lo,vs,aO h1 (fun e=>?_) _ _,h2,h3.put (fun g e=>h3.ne hB (fun e=>ht (by simp[<-e])) g e) _ _,es,ck,aO p1 (fun e=>?_) _ _,p2⟩
 ·rw[<-e,h1]at hB;cases hB;exact ht (by simp)
 ·rw[<-e,p1]at hB;cases hB
theorem BldIs.grown{base b mb n:Nat} {tab:List Vw} {W W':World} {e:TypeId} {b' k m:Nat} {u:Value} {xs:List Value} (h:BldIs base b mb n tab W) (ho:aJ W b' e k u m xs) (he:e∉bldT) (hg:W.grownBy W' u.ownBlock):BldIs base b mb n tab W':=by
 obtain⟨vs,h1,h2,h3,es,ck,p1,p2⟩:=h.ex;refine⟨h.lo,vs,gh hg h1 (fun e'=>ho.ne h1 (fun e=>he (by simp[e])) b e' rfl),h2,h3.keepT fun g o e1 e2=>gh hg e2 (fun e'=>?_),es,ck,gh hg p1 (fun e'=>ho.isCells p1 rfl e'.symm),p2⟩;rcases h3.2 with ⟨rfl,_⟩|⟨g',cap,cur,fz,rfl,_,q3,_⟩
 ·cases e1
 ·cases e1
  exact ho.ne q3 (fun e=>he (by simp[e])) _ e' rfl
theorem KeepT.below9{ts us:List TypeId} {ms ns:List Nat} {w0 w w1 w2:World} (h0:Below w0.heap.size w0 w) (h1:KeepT ts ms w0.heap.size w w1) (h2:KeepT us ns w0.heap.size w1 w2):Below w0.heap.size w0 w2:=
 ⟨(h2.old.os.trans h1.old.os).trans h0.os,(h2.old.tape.trans h1.old.tape).trans h0.tape,(h2.old.output.trans h1.old.output).trans h0.output,Nat.le_trans h0.size (Nat.le_trans h1.old.size h2.old.size),fun k hk=>((h2.old.block k hk).trans (h1.old.block k hk)).trans (h0.block k hk)⟩
def lR(n:Nat) (l:List Int):Array Value:=((List.range n).map fun j=>Value.int .i64 (l.getD j 0)).toArray
theorem xV(n:Nat) (l:List Int):(lR n l).size=n:=by simp[lR]
theorem wh(n:Nat) (l:List Int) (j:Nat) (h:j<n):(lR n l)[j]?=some (.int .i64 (l.getD j 0)):=by simp[lR,h]
theorem H'(n:Nat):lR n []=fC n (fun _=>0) 0:=by
 unfold lR fC;simp
theorem Ia(n:Nat) (l:List Int) (z:Int) (h:l.length<n):(lR n l).setIfInBounds l.length (.int .i64 z)=lR n (l++[z]):=by
 apply Array.ext_getElem?;intro j;rw[Array.getElem?_setIfInBounds];by_cases hj:j<n
 ·rw[wh _ _ _ hj,wh _ _ _ hj];by_cases e:l.length=j
  ·subst e;rw[if_pos rfl,if_pos (by rw[xV];exact hj)];simp
  ·rw[if_neg e];by_cases h2:j<l.length
   ·simp[List.getD_eq_getElem?_getD,List.getElem?_append_left h2]
   ·rw[List.getD_eq_getElem?_getD,List.getD_eq_getElem?_getD,List.getElem?_eq_none (by omega),List.getElem?_eq_none (by simp;omega)]
 ·have h1:(lR n l)[j]?=none:=by rw[Array.getElem?_eq_none];rw[xV];omega
  have h2:(lR n (l++[z]))[j]?=none:=by rw[Array.getElem?_eq_none];rw[xV];omega
  rw[h1,h2,if_neg (by omega)]
theorem Ib(l:List Int):lR l.length l=bD l:=by
 unfold lR bD;congr 1;apply List.ext_getElem (by simp);intro i h1 h2;simp at h1;simp[List.getD_eq_getElem?_getD,h1]
structure PCore (base b mb n:Nat) (tab tab':List Vw) (k:Nat) (Wr:World) (D:Nat->Bool) (x:Nat->Value) (W:World):Prop where
 lo:base<=Wr.heap.size
 keep:KeepT bldT [mb] base Wr W
 bld:BldIs base b mb n (bif D k then tab' else tab) W
section
variable {base b mb n k : Nat} {tab tab' : List Vw} {Wr : World} {D : Nat → Bool} {x : Nat → Value} {W : World}
theorem PCore.other(h:PCore base b mb n tab tab' k Wr D x W) {i:Nat} (u:Value) (hi:k≠i):PCore base b mb n tab tab' k Wr (bI D i) (cF x i u) W:=
 ⟨h.lo,h.keep,by simpa only[bI,if_neg hi] using h.bld⟩
theorem PCore.grow(h:PCore base b mb n tab tab' k Wr D x W) {W':World} (hb:Below W.heap.size W W'):PCore base b mb n tab tab' k Wr D x W':=⟨h.lo,h.keep.trans (.of_below _ hb (Nat.le_trans h.lo h.keep.old.size)),h.bld.up hb⟩
theorem PCore.put(h:PCore base b mb n tab tab' k Wr D x W) {W':World} (u:Value) (hk:KeepT bldT [mb] base W W') (hb:BldIs base b mb n tab' W'):PCore base b mb n tab tab' k Wr (bI D k) (cF x k u) W':=⟨h.lo,h.keep.trans hk,by simpa[bI] using hb⟩
end
abbrev gj(inp:List Int) (n:Nat):List Vw:=(List.range n).map (eA inp)
abbrev fJ(n k:Nat) (r:Rd) (now:List Int):List Vw:=(List.range n).map (nextV n k r now)
theorem Ic{α:Type} (n:Nat) (f:Nat->α) (i:Nat) (h:i<((List.range n).map f).length):((List.range n).map f)[i]=f i:=by simp
theorem iB(n:Nat) (inp:List Int) (word:List Rd) (tb:List Vw):∀ k,(playTo n inp word tb k).2.length=k+1/\((playTo n inp word tb k).2.getLastD []).length=n/\(playTo n inp word tb k).1.length<=tb.length+n * (k+1)
 | 0=>by
  have h:=fI (gj inp n) (tb,[]);change (addAll tb (gj inp n)).2.length=_/\(addAll tb (gj inp n)).1.length<=_ at h;simp only[List.length_nil,List.length_map,List.length_range,Nat.zero_add]at h;exact⟨rfl,h.1,by have:=h.2;show (addAll tb (gj inp n)).1.length<=_;omega⟩
 | k+1=>by
  have ih:=iB n inp word tb k;have h:=fI (fJ n k (word.getD k default) ((playTo n inp word tb k).2.getLastD [])) ((playTo n inp word tb k).1,[]);change (addAll (playTo n inp word tb k).1 _).2.length=_/\(addAll (playTo n inp word tb k).1 _).1.length<=_ at h;simp only[List.length_nil,List.length_map,List.length_range,Nat.zero_add]at h;have e:(playTo n inp word tb (k+1)).2=(playTo n inp word tb k).2++[(addAll (playTo n inp word tb k).1 (fJ n k (word.getD k default) ((playTo n inp word tb k).2.getLastD []))).2]:=rfl;rw[e];refine⟨by rw[List.length_append,ih.1];rfl,?_,?_⟩
  ·rw[List.getLastD_concat];exact h.1
  ·have:n * (k+1+1)=n * (k+1)+n:=Nat.mul_succ n (k+1)
   show (addAll (playTo n inp word tb k).1 (fJ n k (word.getD k default) ((playTo n inp word tb k).2.getLastD []))).1.length<=_
   omega
def xW(n k:Nat) (r:Rd) (now:List Int) (p q:Nat):Vw:=
 let g:=fun j=>if j<q/\hasB (r.g.hear p) j=true then now.getD j 0 else -1
 ⟨p,k+1,0,g 0,g 1,g 2,g 3,g 4⟩
theorem UY(n k:Nat) (r:Rd) (now:List Int) (p:Nat):xW n k r now p n=nextV n k r now p:=rfl
theorem Rx(n k:Nat) (r:Rd) (now:List Int) (p:Nat):xW n k r now p 0=⟨p,k+1,0,-1,-1,-1,-1,-1⟩:=by simp[xW]
theorem UZ(n k:Nat) (r:Rd) (now:List Int) (p q:Nat) (h:hasB (r.g.hear p) q=false):xW n k r now p (q+1)=xW n k r now p q:=by
 have key:∀ j,(if j<q+1/\hasB (r.g.hear p) j=true then now.getD j 0 else -1)=if j<q/\hasB (r.g.hear p) j=true then now.getD j 0 else -1:=fun j=>by
  by_cases e:j=q
  ·subst e;simp[h]
  ·have:j<q+1↔j<q:=by omega
   simp only[this]
 simp only[xW,key]
theorem U0(n k:Nat) (r:Rd) (now:List Int) (p q:Nat) (hq:q<5) (h:hasB (r.g.hear p) q=true):(xW n k r now p q).c.setIfInBounds (3+q) (.int .i64 (now.getD q 0))=(xW n k r now p (q+1)).c:=by
 have:q=0\/q=1\/q=2\/q=3\/q=4:=by omega
 rcases this with e|e|e|e|e<;>subst e<;>simp[xW,h]
theorem Mo(r:Rd) (k:Nat) (hk:k<5) (w:World) (B:Nat) (t:TypeId) (hw:w.heap[B]?=some (.cells r.c t)):w.cell? ⟨B,1+k,none⟩=some (.int .i64 (r.g.hear k)):=by
 have:k=0\/k=1\/k=2\/k=3\/k=4:=by omega
 rcases this with h|h|h|h|h<;>subst h<;>simp[World.cell?,hw,Gr.hear]
theorem KJ{W:World} {base B n:Nat} {l:List Int} (h:W.heap[B]?=some (.cells (bD l) 3)) (hl:l.length=n) (hb:base<=B) (hn:n<=256):aJ W base 3 1 (.slice (some ⟨B,0,none⟩) n n) n (l.map (Value.int .i64)):=
 ⟨by simp[hl],.inr ⟨B,n,_,(0,0),rfl,hb,h,fun i _ h=>by have:=h.2;simp at this,Nat.le_refl _,by unfold maxLen;omega,by simp[bD,hl],by simp only[bD];rw[Nat.mul_one,List.take_of_length_le (by simp;omega)]⟩⟩
theorem O2(w0:World) (b mb n:Nat) (hn:n<=5) (tab:List Vw) (vi vw:Value) (inp:List Int) (word:List Rd) (w:World) (h0:Below w0.heap.size w0 w) (hi:aX w0 vi inp) (hw:kx w0 vw word) (gX:n<=inp.length) (Jq:word.length<=6) (hl:tab.length+100<=100000) (hB:BldIs w0.heap.size b mb n tab w) :
  Calls Tryz.prog 166 #[.pointer (some ⟨b,0,none⟩),vi,vw] w fun e w'=>∃ u,e=.returned u/\cT w' w.heap.size u (gu n inp word tab).2/\BldIs w0.heap.size b mb n (gu n inp word tab).1 w'/\KeepT bldT [mb] w0.heap.size w w':=by
 obtain⟨pi,ci,rfl,li1,li2,ei⟩:=hi.at;obtain⟨pw,cw,rfl,lw1,lw2,ew⟩:=hw.at;have EI:=aa ei;have EW:=aa ew;have HB:=aa hB;have H0:=aa h0;have cH:=h0.size;clear hi hw ei ew hB h0;obtain⟨vs,h1,_⟩:=HB.o.ex;have t1:=ab h1 0;simp at t1;have fX:=js (fun _=>0) n (by omega);clear h1
 go_enter Tryz.func166,Tryz.ntmps166
 go_wp2_with fail
 clear t1 fX;refine bF (fun W=>KeepT bldT [mb] w0.heap.size w W/\BldIs w0.heap.size b mb n tab W/\W.heap[w.heap.size]?=some (.cells (lR n []) 3)) ⟨KeepT.of_below _ (by go_grown) cH,HB.o.up (by go_grown),by rw[H'];exact ap _ _⟩ (fun W0 bd=>?_);obtain⟨eX,aK,rO⟩:=bd
 go_loopw [24] (fun i wr=>∃ q:Nat,q<=n/\i=.int .i64 q/\KeepT bldT [mb] w0.heap.size w wr/\BldIs w0.heap.size b mb n (addAll tab ((gj inp n).take q)).1 wr/\wr.heap[w.heap.size]?=some (.cells (lR n (addAll tab ((gj inp n).take q)).2) 3)) (fun i _=>n - (intOf i).toNat)
 ·exact⟨0,by omega,rfl,eX,aK,rO⟩
 ·
  clear eX aK rO;obtain⟨q,hq,rfl,hk,hb,hr⟩:=hrel;by_cases aB:q<n
  ·have jF:=aa (tW tab (gj inp n) q (by simpa using aB));have cP:=(fI ((gj inp n).take q) (tab,[])).1;have oK:=(fI ((gj inp n).take q) (tab,[])).2;have PU:((gj inp n).take q).length=q:=by simp;omega
   rw[Ic]at jF;change (addAll tab ((gj inp n).take q)).2.length=_ at cP;change (addAll tab ((gj inp n).take q)).1.length<=_ at oK;simp only[List.length_nil,PU,Nat.zero_add]at cP oK;obtain⟨b1,o1,rfl,hx⟩:=EI.o q (by omega);have HX:=aa hx.1;have Ql:=aa hk;have ff:=aa hb;have AT:=aa hr;have XI:=hk.old.size;rw[Nat.mul_one]at HX;have JM:am (eA inp q=⟨q,0,inp[q],-1,-1,-1,-1,-1⟩):=aa (by unfold eA;rw[az 0 (by omega)]);generalize inp[q]=y at HX JM;clear hx hk hb hr PU;generalize (addAll tab ((gj inp n).take q))=st at jF cP oK ff AT
   go_wp2_with fail
   refine mF 11 [27,28,29,30,31,32,33,34,35,36,37] [some (.slice (some ⟨w.heap.size,0,none⟩) n n),
    some (.int .i64 q),
    some (.pointer (some ⟨b,0,none⟩)),
    some (.int .i64 q),
    some (.slice (some ⟨b1,o1,none⟩) inp.length ci),
    some (.int .i64 q),
    some (.pointer (some ⟨b1,o1+q,none⟩)),
    some (.int .i64 y),
    some (silV),
    some ((eA inp q).v),
    some (.int .i64 ((putV st.1 (eA inp q)).2:Nat))] (PCore w0.heap.size b mb n st.1 (putV st.1 (eA inp q)).1 10 wr) (by kernel_rfl) rfl (by decide) rfl (by kernel_rfl) (by kernel_rfl) (by kernel_rfl) (fun _=>⟨by omega,(KeepT.refl _ _ _).drew,ff.o.up (Below.refl _ _).drew⟩) ?step ?tail
   case step=>
    intro x W D i o s F hi ho hs hD cQ bU ar hv aR hF;have fK:i=0\/i=1\/i=2\/i=3\/i=4\/i=5\/i=6\/i=7\/i=8\/i=9\/i=10:=by omega
    rcases fK with rfl|rfl|rfl|rfl|rfl|rfl|rfl|rfl|rfl|rfl|rfl
    all_goals (have dQ:=cQ _ _ hs hD;obtain rfl:=dE ho.symm;obtain rfl:=dE hs.symm)
    ·clear ar hi hv;have e7:F.getD 7 undef=.slice (some ⟨w.heap.size,0,none⟩) n n:=lL hF (by decide) rfl;clear cQ bU;clear hF dQ;have e7':=dH e7;have HD:=aa hD;have bB:=aa aR;clear hD aR
     go_wp2_with fail
     refine bX.mk _ fP ?_ rfl;exact bB.o.other _ (by decide)
    ·clear ar hi hv;have e8:F.getD 8 undef=.int .i64 q:=lL hF (by decide) rfl;clear cQ bU;clear hF dQ;have e8':=dH e8;have HD:=aa hD;have bB:=aa aR;clear hD aR
     go_wp2_with fail
     refine bX.mk _ fP ?_ rfl;exact bB.o.other _ (by decide)
    ·clear ar hi hv;have e0:F.getD 0 undef=.pointer (some ⟨b,0,none⟩):=lL hF (by decide) rfl;clear cQ bU;clear hF dQ;have e0':=dH e0;have HD:=aa hD;have bB:=aa aR;clear hD aR
     go_wp2_with fail
     refine bX.mk _ fP ?_ rfl;exact bB.o.other _ (by decide)
    ·clear ar hi hv;have e8:F.getD 8 undef=.int .i64 q:=lL hF (by decide) rfl;clear cQ bU;clear hF dQ;have e8':=dH e8;have HD:=aa hD;have bB:=aa aR;clear hD aR
     go_wp2_with fail
     refine bX.mk _ fP ?_ rfl;exact bB.o.other _ (by decide)
    ·clear ar hi hv;have e1:F.getD 1 undef=.slice (some ⟨b1,o1,none⟩) inp.length ci:=lL hF (by decide) rfl;clear cQ bU;clear hF dQ;have e1':=dH e1;have HD:=aa hD;have bB:=aa aR;clear hD aR
     go_wp2_with fail
     refine bX.mk _ fP ?_ rfl;exact bB.o.other _ (by decide)
    ·clear ar hi hv;have e8:F.getD 8 undef=.int .i64 q:=lL hF (by decide) rfl;clear cQ bU;clear hF dQ;have e8':=dH e8;have HD:=aa hD;have bB:=aa aR;clear hD aR
     go_wp2_with fail
     refine bX.mk _ fP ?_ rfl;exact bB.o.other _ (by decide)
    ·have g4:=ar ⟨4,.data⟩ (by simp) rfl;have d4:=hv 4 _ (by omega) g4 rfl;have g5:=ar ⟨5,.data⟩ (by simp) rfl;have d5:=hv 5 _ (by omega) g5 rfl;clear ar hi hv;have e31:=fy hF 4 31 (by decide) rfl (by kernel_rfl) d4;have e32:=fy hF 5 32 (by decide) rfl (by kernel_rfl) d5;clear cQ bU;clear hF dQ d4 d5;have e31':=dH e31;have e32':=dH e32;have HD:=aa hD;have bB:=aa aR;clear hD aR;clear g4;clear g5
     go_wp2_with fail
     refine bX.mk _ fP ?_ rfl;exact bB.o.other _ (by decide)
    ·have g6:=ar ⟨6,.data⟩ (by simp) rfl;have d6:=hv 6 _ (by omega) g6 rfl;clear ar hi hv;have e33:=fy hF 6 33 (by decide) rfl (by kernel_rfl) d6;clear cQ bU;clear hF dQ d6;have t1:=ak (KeepT.below9 H0.o Ql.o aR.keep) HX.o;have e33':=dH e33;have HD:=aa hD;have bB:=aa aR;clear hD aR;clear g6
     go_wp2_with fail
     refine bX.mk _ fP ?_ rfl;exact bB.o.other _ (by decide)
    ·clear ar hi hv;clear cQ bU;clear hF dQ;have HD:=aa hD;have bB:=aa aR;clear hD aR
     go_wp2_with fail
     refine(Af W).mono ?_;rintro e w9 ⟨rfl,fi⟩
     go_wp2_with fail
     refine bX.mk _ fP ?_ rfl;exact(bB.o.grow fi).other _ (by decide)
    ·have g3:=ar ⟨3,.data⟩ (by simp) rfl;have d3:=hv 3 _ (by omega) g3 rfl;have g7:=ar ⟨7,.data⟩ (by simp) rfl;have d7:=hv 7 _ (by omega) g7 rfl;have g8:=ar ⟨8,.data⟩ (by simp) rfl;have d8:=hv 8 _ (by omega) g8 rfl;clear ar hi hv;have e30:=fy hF 3 30 (by decide) rfl (by kernel_rfl) d3;have e34:=fy hF 7 34 (by decide) rfl (by kernel_rfl) d7;have e35:=fy hF 8 35 (by decide) rfl (by kernel_rfl) d8;clear cQ bU;clear hF dQ d3 d7 d8;have HFV9:=JM;have e30':=dH e30;have e34':=dH e34;have e35':=dH e35;have HD:=aa hD;have bB:=aa aR;clear hD aR;clear g3;clear g7;clear g8
     go_wp2_with fail
     refine bX.mk _ (fun c hc=>by rw[<-dE hc,JM.o]) ?_ rfl;exact bB.o.other _ (by decide)
    ·have g2:=ar ⟨2,.data⟩ (by simp) rfl;have d2:=hv 2 _ (by omega) g2 rfl;have g9:=ar ⟨9,.data⟩ (by simp) rfl;have d9:=hv 9 _ (by omega) g9 rfl;clear ar hi hv;have e29:=fy hF 2 29 (by decide) rfl (by kernel_rfl) d2;have e36:=fy hF 9 36 (by decide) rfl (by kernel_rfl) d9;clear cQ bU;clear hF dQ d2 d9;have oh:=aR.bld;rw[hD]at oh;have Dc:=aa (show BldIs w0.heap.size b mb n st.1 W from oh);clear oh;have e29':=dH e29;have e36':=dH e36;have HD:=aa hD;have bB:=aa aR;clear hD aR;clear g2;clear g9
     go_wp2_with fail
     refine(KI w0.heap.size b mb n st.1 (eA inp q) W Dc.o (by omega)).mono ?_;rintro e w9 ⟨rfl,fi,zd⟩;have fG:=aa fi;have qD:=aa zd;clear fi zd
     go_wp2_with fail
     refine bX.mk _ fP ?_ rfl;exact bB.o.put _ qD.o fG.o
   case tail=>
    intro x W' D F aT hv aR hF;have x0:=hv 0 _ (by omega) rfl;have x1:=hv 1 _ (by omega) rfl;have x2:=hv 2 _ (by omega) rfl;have x3:=hv 3 _ (by omega) rfl;have x4:=hv 4 _ (by omega) rfl;have x5:=hv 5 _ (by omega) rfl;have x6:=hv 6 _ (by omega) rfl;have x7:=hv 7 _ (by omega) rfl;have x8:=hv 8 _ (by omega) rfl;have x9:=hv 9 _ (by omega) rfl;have x10:=hv 10 _ (by omega) rfl;have oh:=aR.bld;rw[aT 10 (by omega)]at oh;have Dc:=aa (show BldIs w0.heap.size b mb n (putV st.1 (eA inp q)).1 W' from oh);have qD:=aa aR.keep;have cA:=qD.o.keep _ _ _ _ AT.o (by decide);have ku:=aa cA;have z1:=aH cA q;have c1:=ab cA q;rw[wh _ _ _ aB]at c1;have hltI:(q:Int)<(n:Int):=by omega
    simp only[bC,da,List.setIfInBounds_toArray,List.set_cons_succ,List.set_cons_zero,Nat.reduceAdd,x0,x1,x2,x3,x4,x5,x6,x7,x8,x9,x10]at hF;subst hF;clear hv aT aR oh cA x0 x1 x2 x3 x4 x5 x6 x7 x8 x9 x10;simp only[List.drop_succ_cons,List.drop_zero]
    go_wp2_with fail
    go_roundw
    ·
     refine⟨q+1,by omega,by go_num,(Ql.o.trans qD.o).setNew cH (Nat.le_refl _) _,?_,?_⟩
     ·rw[jF.o];exact Dc.o.set ku.o (by decide) _
     ·rw[jF.o,aI ku.o];have:=Ia n st.2 ((putV st.1 (eA inp q)).2:Nat) (by omega);rw[cP]at this;rw[this];rfl
    ·simp[intOf];omega
  ·obtain rfl:q=n:=by omega
   have aT:=fI (gj inp q) (tab,[]);change (addAll tab (gj inp q)).2.length=_/\(addAll tab (gj inp q)).1.length<=_ at aT;simp only[List.length_nil,List.length_map,List.length_range,Nat.zero_add]at aT;rw[List.take_of_length_le (by simp)]at hb hr
   have F4:wr.heap[w.heap.size]?=some (.cells (bD (addAll tab (gj inp q)).2) 3):=by
    rw[hr,<-Ib,aT.1]
   have Ql:=aa hk;have ff:=aa hb;have AT:=aa F4;have mP:=aa aT;have XI:=hk.old.size;clear hk hb hr F4 aT
   go_wp2_with fail
   refine bF (fun W=>KeepT bldT [mb] w0.heap.size w W/\BldIs w0.heap.size b mb q (playTo q inp word tab 0).1 W/\cT W w.heap.size (.slice (some ⟨wr.heap.size,0,none⟩) 1 1) (playTo q inp word tab 0).2/\W.heap[w.heap.size]?=some (.cells (bD ((playTo q inp word tab 0).2.getLastD [])) 3))
    ⟨Ql.o.trans (.of_below _ (by go_grown) (by omega)),ff.o.up (by go_grown),⟨[.slice (some ⟨w.heap.size,0,none⟩) q q],⟨by simp[playTo],.inr ⟨wr.heap.size,1,_,(0,0),rfl,by omega,ap _ _,fun i _ h=>by have:=h.2;simp at this,by simp[playTo],by unfold maxLen;omega,by simp,by simp[playTo]⟩⟩,fun i hi=>by
     have df:i=0:=by simp[playTo]at hi;omega
     subst df;refine⟨_,rfl,?_⟩;have:=(KJ AT.o mP.o.1 (Nat.le_refl w.heap.size) (by omega)).up (w':=wr.alloc (.cells #[.slice (some ⟨w.heap.size,0,none⟩) q q] 38)) (by go_grown)
     simpa[playTo,uC,mP.o.1] using this⟩,by simpa[playTo,uC] using aq _ AT.o⟩ (fun W1 cO=>?_)
   obtain⟨ka,aM,fN,Ln⟩:=cO;clear Ql ff AT mP
   go_loopw [7,9,44] (fun nv ov i wr=>∃ k:Nat,k<=word.length/\i=.int .i64 k/\KeepT bldT [mb] w0.heap.size w wr/\BldIs w0.heap.size b mb q (playTo q inp word tab k).1 wr/\cT wr w.heap.size ov (playTo q inp word tab k).2/\∃ Bn,nv=.slice (some ⟨Bn,0,none⟩) q q/\wr.heap[Bn]?=some (.cells (bD ((playTo q inp word tab k).2.getLastD [])) 3)) (fun _ _ i _=>word.length - (intOf i).toNat)
   ·exact⟨0,by omega,rfl,ka,aM,fN,_,rfl,Ln⟩
   ·
    clear ka aM fN Ln;obtain⟨k,mf,rfl,hk,hb,hf,Bn,rfl,F9⟩:=hrel;have CU:=aa hk;have cX:=aa hb;have xr:=aa hf;have rJ:=aa F9;by_cases aB:k<word.length
    ·obtain⟨wrA,BB⟩:∃ x,x=wr:=⟨_,rfl⟩;subst BB;have dS:=iB q inp word tab k;have jF:am (playTo q inp word tab (k+1)=LY q k (word.getD k default) (playTo q inp word tab k)):=aa rfl;obtain⟨b3,o3,rfl,⟨d0,_⟩,⟨d1,_⟩,⟨d2,_⟩,⟨d3,_⟩,⟨d4,_⟩,⟨d5,_⟩,⟨d6,_⟩⟩:=EW.o k aB;rw[az default aB]at jF;generalize word[k]=r at d0 d1 d2 d3 d4 d5 d6 jF;have Gd:=KeepT.below9 H0.o hk (KeepT.refl (ms:=[mb]) bldT _ wrA)
     replace d0:=ak Gd d0
     replace d1:=ak Gd d1
     replace d2:=ak Gd d2
     replace d3:=ak Gd d3
     replace d4:=ak Gd d4
     replace d5:=ak Gd d5
     replace d6:=ak Gd d6
     obtain⟨vs',kV,_⟩:=hb.ex;have t1:=ab kV 0;have hbsz:=aC kV;simp at t1;have fX:=js (fun _=>0) q (by omega)
     have hkq:(playTo q inp word tab k).1.length<=tab.length+40:=by
      have h9:q * (k+1)<=5 * (k+1):=Nat.mul_le_mul_right _ hn;omega
     have hzw:=hk.old.size;clear hk hb hf F9 Gd kV;generalize playTo q inp word tab k=st at cX xr rJ jF dS hkq;generalize pL:st.2.getLastD []=now at rJ dS;have HNOW:=aa pL;clear pL;obtain⟨fT,gV,mZ⟩:=dS
     go_wp2_with fail
     clear d0 d1 d2 d3 d4 d5 d6 t1 fX;refine bF (fun W=>KeepT bldT [mb] w0.heap.size wrA W/\BldIs w0.heap.size b mb q st.1 W/\W.heap[wrA.heap.size]?=some (.cells r.c 141)/\W.heap[wrA.heap.size+1]?=some (.cells (lR q []) 3)) ⟨.of_below _ (by go_grown) (by omega),cX.o.up (by go_grown),aq _ (ap _ _),by rw[H'];exact bu _ _ _⟩ (fun W1 cO=>?_);obtain⟨ka,aM,Ln,dJ⟩:=cO
     go_loopw [56] (fun i wrB=>∃ p:Nat,p<=q/\i=.int .i64 p/\KeepT bldT [mb] w0.heap.size wrA wrB/\BldIs w0.heap.size b mb q (addAll st.1 ((fJ q k r now).take p)).1 wrB/\wrB.heap[wrA.heap.size]?=some (.cells r.c 141)/\wrB.heap[wrA.heap.size+1]?=some (.cells (lR q (addAll st.1 ((fJ q k r now).take p)).2) 3)) (fun i _=>q - (intOf i).toNat)
     ·exact⟨0,by omega,rfl,ka,aM,Ln,dJ⟩
     ·
      clear ka aM Ln dJ;obtain⟨p,hp,rfl,im,bG,Lh,wX⟩:=hrel;obtain⟨wrB,hwrB⟩:∃ x,x=wr:=⟨_,rfl⟩;subst hwrB;by_cases jv:p<q
      ·have IS:=aa (tW st.1 (fJ q k r now) p (by simpa using jv));have cP:=(fI ((fJ q k r now).take p) (st.1,[])).1;have oK:=(fI ((fJ q k r now).take p) (st.1,[])).2;have PU:((fJ q k r now).take p).length=p:=by simp;omega
       rw[Ic]at IS;change (addAll st.1 ((fJ q k r now).take p)).2.length=_ at cP;change (addAll st.1 ((fJ q k r now).take p)).1.length<=_ at oK;simp only[List.length_nil,PU,Nat.zero_add]at cP oK;have oG:=aa im;have dT:=aa bG;have gp:=aa Lh;have iX:=aa wX;clear PU;clear im bG Lh wX;generalize (addAll st.1 ((fJ q k r now).take p))=st2 at IS cP oK dT iX
       go_wp2_with fail
       refine(Af _).mono ?_;rintro e w9 ⟨rfl,fi⟩
       go_wp2_with fail
       refine bF (fun W=>Below w9.heap.size w9 W/\W.heap[w9.heap.size]?=some (.cells (xW q k r now p 0).c 190)) ⟨by go_grown,by rw[Rx];exact ap _ _⟩ (fun W4 hW4=>?_);obtain⟨bO,hv4⟩:=hW4;have fG:=aa fi;clear fi
       go_loopw [66] (fun i wr=>∃ j:Nat,j<=q/\i=.int .i64 j/\Below w9.heap.size w9 wr/\wr.heap[w9.heap.size]?=some (.cells (xW q k r now p j).c 190)) (fun i _=>q - (intOf i).toNat)
       ·exact⟨0,by omega,rfl,bO,hv4⟩
       ·
        clear bO hv4;obtain⟨j,hj,rfl,dB,Lz⟩:=hrel;have F1:=aa Lz;by_cases Wm:j<q
        ·have C':=af (ae fG.o dB) gp.o;have tr:=Mo r p (by omega) wr _ _ C';have iM:=af (ae fG.o dB) (oG.o.keep _ _ _ _ rJ.o (by decide));have tn:=ab iM j;rw[E8 _ _ (by omega)]at tn
         obtain⟨x0,tv⟩:∃ x0,wr.cell? ⟨w9.heap.size,3+j,none⟩=some (.int .i64 x0):=by
          have h9:j=0\/j=1\/j=2\/j=3\/j=4:=by omega
          rcases h9 with h|h|h|h|h<;>subst h<;>exact⟨_,ab Lz _⟩
         have zv:=aH Lz (3+j);have hj5:(j:Int)<5:=by omega
         have IZ:(p:Int)<5:=by omega
         have gJ:=ra (r.g.hear p) j;have rY:=dB.size;cases xn:hasB (r.g.hear p) j with
         | false=>
          rw[xn]at gJ;have XU:=aa (UZ q k r now p j xn);clear Lz C' iM xn
          go_wp2_with fail
          go_roundw
          ·exact⟨j+1,by omega,by go_num,dB,by rw[XU.o];exact F1.o⟩
          ·simp[intOf];omega
         | true=>
          rw[xn]at gJ;have X4:=U0 q k r now p j (by omega) xn;rw[az 0 (by omega)]at X4;have XU:=aa X4;clear X4;clear Lz C' iM xn
          go_wp2_with fail
          go_roundw
          ·exact⟨j+1,by omega,by go_num,dB.setCell (Nat.le_refl _) _,by rw[aI F1.o,XU.o]⟩
          ·simp[intOf];omega
        ·obtain rfl:j=q:=by omega
         rw[UY]at F1;generalize nextV j k r now p=vv at F1 IS;have tv:=ab F1.o;have Dc:=aa (dT.o.up (ae fG.o dB));have Do:=aa (af (ae fG.o dB) iX.o);have xl:=aa (af (ae fG.o dB) gp.o);have hlpI:(p:Int)<(j:Int):=by omega
         have Uq:=oG.o.old.size;have QM:=fG.o.size;clear Lz
         go_wp2_with fail
         refine(KI w0.heap.size b mb j st2.1 vv wr Dc.o (by omega)).mono ?_;rintro e w10 ⟨rfl,BD,Nb⟩;have BC:=aa (Nb.keep _ _ _ _ Do.o (by decide));have HR10:=aa (Nb.keep _ _ _ _ xl.o (by decide));have Sy:=aa BD;have HK10:=aa Nb;have z1:=aH BC.o p;have c1:=ab BC.o p;rw[wh _ _ _ jv]at c1;clear BD Nb tv
         go_wp2_with fail
         go_roundw
         ·
          refine⟨p+1,by omega,by go_num,((oG.o.trans (.of_below _ (ae fG.o dB) (by omega))).trans HK10.o).setNew (by omega) (by omega) _,?_,aO HR10.o (by omega) _ _,?_⟩
          ·rw[IS.o];exact Sy.o.set BC.o (by decide) _
          ·rw[IS.o,aI BC.o];have:=Ia j st2.2 ((putV st2.1 vv).2:Nat) (by omega);rw[cP]at this;rw[this];rfl
         ·simp[intOf];omega
      ·obtain rfl:p=q:=by omega
       have aT:=fI (fJ p k r now) (st.1,[]);change (addAll st.1 (fJ p k r now)).2.length=_/\(addAll st.1 (fJ p k r now)).1.length<=_ at aT;simp only[List.length_nil,List.length_map,List.length_range,Nat.zero_add]at aT;rw[List.take_of_length_le (by simp)]at bG wX
       have S1:wrB.heap[wrA.heap.size+1]?=some (.cells (bD (addAll st.1 (fJ p k r now)).2) 3):=by
        rw[wX,<-Ib,aT.1]
       have oz:am (playTo p inp word tab (k+1)=((addAll st.1 (fJ p k r now)).1,st.2++[(addAll st.1 (fJ p k r now)).2])):=aa (by rw[jF.o];unfold LY;rw[HNOW.o]);have hfB:=im.fresh xr.o (by decide) (by decide);obtain⟨xs,qB,cY⟩:=hfB;obtain⟨a9,c9,rfl⟩:=qB.slice;generalize addAll st.1 (fJ p k r now)=st3 at oz aT bG S1;have hA:Below wrB.heap.size wrB (wrB.alloc (.cells #[(Value.slice (some ⟨wrA.heap.size+1,0,none⟩) p p)] 38)):=by go_grown
       have dx:=aa (qB.up hA)
       have bT:∀ j u',[(Value.slice (some ⟨wrA.heap.size+1,0,none⟩) p p)][j]?=some u'->(wrB.alloc (.cells #[(Value.slice (some ⟨wrA.heap.size+1,0,none⟩) p p)] 38)).cell? (Addr.add ⟨wrB.heap.size,0,none⟩ j)=some u':=fun j u' hj=>by
        cases j with
        | zero=>simp at hj;subst hj;simp[Addr.add,ab (ap wrB _)]
        | succ j=>simp at hj
       have bE:=aa bT;have jf:=aa cY;have oG:=aa im;have dT:=aa bG;have iX:=aa S1;obtain⟨i0,df,je,jx,iK⟩:=info_parts Tryz.infoInts;have hzB:=im.old.size;clear bT cY im bG wX S1 Lh qB
       go_wp2_with (at_builtin;(refine bh _ rfl (.tmp 92) (.tmp 94) 56 rfl w.heap.size 38 i0 _ 1 24 Tryz.underlying56 df je jx iK rfl (by decide) _ st.2.length xs rfl dx.o ⟨wrB.heap.size,0,none⟩ 1 1 [(Value.slice (some ⟨wrA.heap.size+1,0,none⟩) p p)] rfl rfl bE.o (by simp[Value.oneCell']) (by unfold maxLen;omega) (by omega) (by simp;omega) ?_;intro v' w2 fL dD _))
       go_roundw
       ·
        have cA:=af hA iX.o;refine⟨k+1,by omega,by go_num,((CU.o.trans oG.o).trans (.of_below _ hA (by omega))).grownNew cH (fun g e=>(dx.o.lt g e).1) dD,?_,?_,_,rfl,?_⟩
        ·rw[oz.o];exact(dT.o.up hA).grown dx.o (by decide) dD
        ·rw[oz.o];exact cB.snoc dx.o (fun i hi=>by obtain⟨y,q1,q2⟩:=jf.o i hi;exact⟨y,q1,q2.up hA⟩) (by decide) (by rw[aT.1];exact KJ cA aT.1 (by omega) (by omega)) dD fL
        ·rw[oz.o,List.getLastD_concat];exact gh dD cA (fun e=>dx.o.ne cA (by decide) _ e rfl)
       ·simp[intOf];omega
    ·obtain rfl:k=word.length:=by omega
     obtain⟨xs,qB,_⟩:=hf;obtain⟨a9,c9,rfl⟩:=qB.slice;clear hk hb F9 qB
     go_wp2_with fail
     go_ret
     exact⟨_,rfl,xr.o,cX.o,CU.o⟩
def mJ(w:World) (k:Nat) (v:Value) (n:Nat) (xs:List Value):Prop:=
 ∃ a cap,v=.slice a n cap/\(a=none->n=0/\cap=0)/\xs.length=n * k/\(∀ j u,xs[j]?=some u->∃ b o,a=some ⟨b,o,none⟩/\w.cell? ⟨b,o+j,none⟩=some u)/\∀ u∈xs,u.oneCell'=true
theorem B8{α:Type} {k:Nat} {R:World->Nat->Nat->α->Prop} {w:World} {v:Value} {l:List α} (h:fe k R w v l) (hk:0<k) (hR:∀ b o x j,R w b o x->j<k->∃ u,w.cell? ⟨b,o+j,none⟩=some u/\u.oneCell'=true):∃ xs,mJ w k v l.length xs:=by
 obtain⟨a,cap,rfl,h1,h2,h3⟩:=h
 have key:∀ i:Fin (l.length * k),∃ u:Value,∃ b o,a=some ⟨b,o,none⟩/\w.cell? ⟨b,o+i.1,none⟩=some u/\u.oneCell'=true:=fun i=>by
  have hi:i.1 / k<l.length:=by rw[Nat.div_lt_iff_lt_mul hk];exact i.2
  obtain⟨b,o,ha,hr⟩:=h3 (i.1 / k) _ (List.getElem?_eq_getElem hi);obtain⟨u,hu,h1⟩:=hR b _ _ (i.1 % k) hr (Nat.mod_lt _ hk);refine⟨u,b,o,ha,?_,h1⟩;rw[<-hu];congr 2;have:=Nat.div_add_mod i.1 k;rw[Nat.mul_comm]at this;omega
 refine⟨List.ofFn fun i=>Classical.choose (key i),a,cap,rfl,fun e=>?_,by simp,fun j u hj=>?_,fun u hu=>?_⟩
 ·have:=h1.2.2 e;have:=h1.1;omega
 ·have hi:j<l.length * k:=by have:=(List.getElem?_eq_some_iff.1 hj).1;simpa using this
  have e:u=Classical.choose (key ⟨j,hi⟩):=by
   rw[List.getElem?_ofFn]at hj;simp[hi]at hj;exact hj.symm
  obtain⟨b,o,ha,hc,_⟩:=Classical.choose_spec (key ⟨j,hi⟩);exact⟨b,o,ha,by rw[e];exact hc⟩
 ·obtain⟨i,rfl⟩:=(List.mem_ofFn).1 hu;obtain⟨_,_,_,_,hs⟩:=Classical.choose_spec (key i);exact hs
theorem B'{α:Type} {k:Nat} {R:World->Nat->Nat->α->Prop} {w:World} {b o:Nat} {l:List α} (h:mC k R w b o l):∃ u,w.cell? ⟨b,o,none⟩=some u/\u.oneCell'=true:=by
 obtain⟨v,hc,hs⟩:=h;exact⟨v,hc,Gk hs⟩
theorem O3{w:World} {v:Value} {l:List Cs} (h:bN w v l):∃ xs,mJ w 3 v l.length xs:=B8 h (by decide) fun b o x j hr hj=>by
 obtain⟨h0,h1,h2⟩:=hr;have:j=0\/j=1\/j=2:=by omega
 rcases this with rfl|rfl|rfl
 ·exact B' h0
 ·exact B' h1
 ·exact B' h2
theorem Mp{w:World} {v:Value} {l:List (List Mv)} (h:bz w v l):∃ xs,mJ w 1 v l.length xs:=B8 h (by decide) fun b o x j hr hj=>by
 obtain rfl:j=0:=by omega
 exact B' hr
abbrev Mv.c(m:Mv):Array Value:=#[.int .i64 m.r.g.n,.int .i64 m.r.g.h0,.int .i64 m.r.g.h1,.int .i64 m.r.g.h2,.int .i64 m.r.g.h3,.int .i64 m.r.g.h4,.int .i64 m.r.f,.int .i64 m.to]
def fF(xs:List Mv):List Value:=xs.flatMap fun m=>m.c.toList
theorem Ca(xs:List Mv):(fF xs).length=xs.length * 8:=by
 unfold fF;induction xs with
 | nil=>rfl
 | cons x r ih=>rw[List.flatMap_cons,List.length_append,ih];simp;omega
theorem O4{w:World} {v:Value} {l:List Mv} (h:pf w v l):mJ w 8 v l.length (fF l):=by
 obtain⟨a,cap,rfl,h1,h2,h3⟩:=h;refine⟨a,cap,rfl,fun e=>?_,Ca l,fun j u hu=>?_,fun u hu=>?_⟩
 ·have:=h1.2.2 e;have:=h1.1;omega
 ·have hj:=(List.getElem?_eq_some_iff.1 hu).1;rw[Ca]at hj;obtain⟨i,s,hs,rfl⟩:∃ i s,s<8/\j=i * 8+s:=⟨j / 8,j % 8,by omega,by omega⟩;have hi:i<l.length:=by omega
  unfold fF at hu;rw[pH Mv.c 8 (fun _=>rfl) l i s hi hs]at hu;obtain⟨b,o,ha,⟨⟨c0,_⟩,⟨c1,_⟩,⟨c2,_⟩,⟨c3,_⟩,⟨c4,_⟩,⟨c5,_⟩,⟨c6,_⟩⟩,⟨c7,_⟩⟩:=h3 i _ (List.getElem?_eq_getElem hi);refine⟨b,o,ha,?_⟩;rw[<-Nat.add_assoc];rcases (show s=0\/s=1\/s=2\/s=3\/s=4\/s=5\/s=6\/s=7 by omega) with rfl|rfl|rfl|rfl|rfl|rfl|rfl|rfl<;>(simp at hu;subst hu;first|exact c0|exact c1|exact c2|exact c3|exact c4|exact c5|exact c6|exact c7)
 ·obtain⟨m,_,hm⟩:=List.mem_flatMap.1 hu;simp at hm;rcases hm with h|h|h|h|h|h|h|h<;>subst h<;>rfl
theorem Fc{w:World} {base:Nat} {v:Value} {l:List Mv} (h:aJ w base 143 8 v l.length (fF l)) (hx:∀ m∈l,pI m.r/\bS m.to) (hn:l.length<=17592186044416):pf w v l:=by
 have aT:=fun i (hi:i<l.length) j (u:Value) (hj:j<8) (hu:l[i].c[j]?=some u)=>h.cell (i * 8+j) u (by unfold fF;rw[pH Mv.c 8 (fun _=>rfl) l i j hi hj];exact hu)
 rcases h.2 with ⟨hz,h0⟩|⟨g,cap,cur,fz,rfl,_,hg,_,kE,jc,_⟩
 ·refine⟨none,0,by rw[hz,h0],⟨by omega,by omega,fun _=>rfl⟩,hn,fun i x hi=>?_⟩;have:=(List.getElem?_eq_some_iff.1 hi).1;omega
 ·refine⟨some ⟨g,0,none⟩,cap,rfl,⟨kE,by simp only[maxLen]at jc;omega,fun e=>by cases e⟩,hn,fun i x hi=>⟨g,0,rfl,?_⟩⟩;obtain⟨gX,rfl⟩:=List.getElem?_eq_some_iff.1 hi;obtain⟨⟨r0,r1,r2,r3,r4,r5,r6⟩,r7⟩:=hx _ (List.getElem_mem gX)
  have key:∀ j u,j<8->l[i].c[j]?=some u->w.cell? ⟨g,0+i * 8+j,none⟩=some u:=fun j u hj hu=>by
   obtain⟨g',c',e1,e2⟩:=aT i gX j u hj hu;have:g=g':=by simp at e1;exact e1.1
   rw[this,Nat.zero_add];exact e2
  exact⟨⟨⟨key 0 _ (by omega) rfl,r0⟩,⟨key 1 _ (by omega) rfl,r1⟩,⟨key 2 _ (by omega) rfl,r2⟩,⟨key 3 _ (by omega) rfl,r3⟩,⟨key 4 _ (by omega) rfl,r4⟩,⟨key 5 _ (by omega) rfl,r5⟩,⟨key 6 _ (by omega) rfl,r6⟩⟩,⟨key 7 _ (by omega) rfl,r7⟩⟩
theorem Ry{w:World} {v:Value} {l:List Mv} (h:pf w v l):∀ m∈l,pI m.r/\bS m.to:=fun m hm=>by
 obtain⟨i,hi,rfl⟩:=List.getElem_of_mem hm;obtain⟨a,cap,rfl,_,_,e⟩:=h;obtain⟨b,o,ha,⟨⟨_,c0⟩,⟨_,c1⟩,⟨_,c2⟩,⟨_,c3⟩,⟨_,c4⟩,⟨_,c5⟩,⟨_,c6⟩⟩,⟨_,c7⟩⟩:=e i _ (List.getElem?_eq_getElem hi);exact⟨⟨c0,c1,c2,c3,c4,c5,c6⟩,c7⟩
theorem Tryz.infoCase:(Tryz.prog.info? 135).map (fun i=>(i.zero,i.size,i.bytes))=some (some (.agg #[.slice none 0 0,.slice none 0 0,.slice none 0 0]),3,72):=by kernel_rfl
theorem Tryz.infoMoves:(Tryz.prog.info? 136).map (fun i=>(i.zero,i.size,i.bytes))=some (some (.slice none 0 0),1,24):=by kernel_rfl
theorem Tryz.infoMove:(Tryz.prog.info? 143).map (fun i=>(i.zero,i.size,i.bytes))=some (some (.agg #[.int .i64 0,.int .i64 0,.int .i64 0,.int .i64 0,.int .i64 0,.int .i64 0,.int .i64 0,.int .i64 0]),8,64):=by kernel_rfl
theorem DU(v:Value) (n:Nat) (xs:List Value) (w:World) (hv:mJ w 3 v n xs) (hn:n<=1048576) :
  Calls Tryz.prog 194 #[v] w fun e w'=>∃ u,e=.returned u/\aJ w' w.heap.size 135 3 u n xs/\Below w.heap.size w w':=by
 obtain⟨i0,hi,cH,cj,cI⟩:=info_parts Tryz.infoCase;obtain⟨a,cap,rfl,jP,iN,hc,h1⟩:=hv;have jQ:=fun w=>Lib.run_eql_slice_nil (P:=Tryz.prog) w 22
 cases a with
 | none=>
  obtain⟨rfl,rfl⟩:=jP rfl;have dp:xs=[]:=List.eq_nil_of_length_eq_zero (by omega);subst dp
  go_enter Tryz.func194,Tryz.ntmps194
  go_wp2_with fail
  go_ret
  exact⟨_,rfl,aJ.nil _ _ _ _,Below.refl _ _⟩
 | some ad=>
  have bT:∀ j u,xs[j]?=some u->(w.alloc (.cells #[] 135)).cell? (ad.add j)=some u:=fun j u hj=>by
   obtain⟨b,o,e,eM⟩:=hc j u hj;cases e;have:(Addr.add ⟨b,o,none⟩ j)=⟨b,o+j,none⟩:=by unfold Addr.add;split<;>simp_all
   rw[this];exact ak (by go_grown) eM
  have bg:aJ (w.alloc (.cells #[] 135)) w.heap.size 135 3 (.slice (some ⟨w.heap.size,0,none⟩) 0 0) 0 []:=⟨by simp,.inr ⟨w.heap.size,0,#[],(0,0),rfl,Nat.le_refl _,ap _ _,fun i hi=>by simp at hi,by omega,by simp[maxLen],by simp,by simp⟩⟩;have bE:=aa bT;have bP:=aa bg;have H1:=aa h1;have vm:=aa iN;clear bT bg jP hc h1 iN
  go_enter Tryz.func194,Tryz.ntmps194
  go_wp2_with (at_builtin;(refine bh _ rfl (.tmp 5) (.tmp 6) 22 rfl w.heap.size 135 i0 _ 3 72 Tryz.underlying22 hi cH cj cI rfl (by decide) _ 0 [] rfl bP.o ad n cap xs rfl vm.o bE.o H1.o (by unfold maxLen;omega) (by omega) (by simp) ?_;intro v' w1 gR lw _;obtain⟨av',cv',rfl⟩:=gR.slice))
  go_ret
  rw[Nat.zero_add,List.nil_append]at gR;refine⟨_,rfl,by simpa using gR,Below.grown (w:=w.alloc (.cells #[] 135)) (by go_grown) lw (by simp) (fun k hk=>?_)⟩;cases hk;exact Nat.le_refl _
theorem Cb(v:Value) (n:Nat) (xs:List Value) (w:World) (hv:mJ w 1 v n xs) (hn:n<=1048576) :
  Calls Tryz.prog 197 #[v] w fun e w'=>∃ u,e=.returned u/\aJ w' w.heap.size 136 1 u n xs/\Below w.heap.size w w':=by
 obtain⟨i0,hi,cH,cj,cI⟩:=info_parts Tryz.infoMoves;obtain⟨a,cap,rfl,jP,iN,hc,h1⟩:=hv;have jQ:=fun w=>Lib.run_eql_slice_nil (P:=Tryz.prog) w 25
 cases a with
 | none=>
  obtain⟨rfl,rfl⟩:=jP rfl;have dp:xs=[]:=List.eq_nil_of_length_eq_zero (by omega);subst dp
  go_enter Tryz.func197,Tryz.ntmps197
  go_wp2_with fail
  go_ret
  exact⟨_,rfl,aJ.nil _ _ _ _,Below.refl _ _⟩
 | some ad=>
  have bT:∀ j u,xs[j]?=some u->(w.alloc (.cells #[] 136)).cell? (ad.add j)=some u:=fun j u hj=>by
   obtain⟨b,o,e,eM⟩:=hc j u hj;cases e;have:(Addr.add ⟨b,o,none⟩ j)=⟨b,o+j,none⟩:=by unfold Addr.add;split<;>simp_all
   rw[this];exact ak (by go_grown) eM
  have bg:aJ (w.alloc (.cells #[] 136)) w.heap.size 136 1 (.slice (some ⟨w.heap.size,0,none⟩) 0 0) 0 []:=⟨by simp,.inr ⟨w.heap.size,0,#[],(0,0),rfl,Nat.le_refl _,ap _ _,fun i hi=>by simp at hi,by omega,by simp[maxLen],by simp,by simp⟩⟩;have bE:=aa bT;have bP:=aa bg;have H1:=aa h1;have vm:=aa iN;clear bT bg jP hc h1 iN
  go_enter Tryz.func197,Tryz.ntmps197
  go_wp2_with (at_builtin;(refine bh _ rfl (.tmp 5) (.tmp 6) 25 rfl w.heap.size 136 i0 _ 1 24 Tryz.underlying25 hi cH cj cI rfl (by decide) _ 0 [] rfl bP.o ad n cap xs rfl vm.o bE.o H1.o (by unfold maxLen;omega) (by omega) (by simp) ?_;intro v' w1 gR lw _;obtain⟨av',cv',rfl⟩:=gR.slice))
  go_ret
  rw[Nat.zero_add,List.nil_append]at gR;refine⟨_,rfl,by simpa using gR,Below.grown (w:=w.alloc (.cells #[] 136)) (by go_grown) lw (by simp) (fun k hk=>?_)⟩;cases hk;exact Nat.le_refl _
theorem DV(v:Value) (n:Nat) (xs:List Value) (w:World) (hv:mJ w 8 v n xs) (hn:n<=1048576) :
  Calls Tryz.prog 198 #[v] w fun e w'=>∃ u,e=.returned u/\aJ w' w.heap.size 143 8 u n xs/\Below w.heap.size w w':=by
 obtain⟨i0,hi,cH,cj,cI⟩:=info_parts Tryz.infoMove;obtain⟨a,cap,rfl,jP,iN,hc,h1⟩:=hv;have jQ:=fun w=>Lib.run_eql_slice_nil (P:=Tryz.prog) w 136
 cases a with
 | none=>
  obtain⟨rfl,rfl⟩:=jP rfl;have dp:xs=[]:=List.eq_nil_of_length_eq_zero (by omega);subst dp
  go_enter Tryz.func198,Tryz.ntmps198
  go_wp2_with fail
  go_ret
  exact⟨_,rfl,aJ.nil _ _ _ _,Below.refl _ _⟩
 | some ad=>
  have bT:∀ j u,xs[j]?=some u->(w.alloc (.cells #[] 143)).cell? (ad.add j)=some u:=fun j u hj=>by
   obtain⟨b,o,e,eM⟩:=hc j u hj;cases e;have:(Addr.add ⟨b,o,none⟩ j)=⟨b,o+j,none⟩:=by unfold Addr.add;split<;>simp_all
   rw[this];exact ak (by go_grown) eM
  have bg:aJ (w.alloc (.cells #[] 143)) w.heap.size 143 8 (.slice (some ⟨w.heap.size,0,none⟩) 0 0) 0 []:=⟨by simp,.inr ⟨w.heap.size,0,#[],(0,0),rfl,Nat.le_refl _,ap _ _,fun i hi=>by simp at hi,by omega,by simp[maxLen],by simp,by simp⟩⟩;have bE:=aa bT;have bP:=aa bg;have H1:=aa h1;have vm:=aa iN;clear bT bg jP hc h1 iN
  go_enter Tryz.func198,Tryz.ntmps198
  go_wp2_with (at_builtin;(refine bh _ rfl (.tmp 5) (.tmp 6) 136 rfl w.heap.size 143 i0 _ 8 64 Tryz.underlying136 hi cH cj cI rfl (by decide) _ 0 [] rfl bP.o ad n cap xs rfl vm.o bE.o H1.o (by unfold maxLen;omega) (by omega) (by simp) ?_;intro v' w1 gR lw _;obtain⟨av',cv',rfl⟩:=gR.slice))
  go_ret
  rw[Nat.zero_add,List.nil_append]at gR;refine⟨_,rfl,by simpa using gR,Below.grown (w:=w.alloc (.cells #[] 143)) (by go_grown) lw (by simp) (fun k hk=>?_)⟩;cases hk;exact Nat.le_refl _
theorem sH(v:Value) (l:List (List Int)) (w:World) (hv:ez w v l) (hn:l.length<=1048576) (n':∀ x∈l,x.length<=1099511627776) :
  Calls Tryz.prog 196 #[v] w fun e w'=>∃ u,e=.returned u/\cT w' w.heap.size u l/\Below w.heap.size w w':=by
 obtain⟨i0,hi,cH,cj,cI⟩:=info_parts Tryz.infoInts;obtain⟨p,cap,rfl,la1,la2,ea⟩:=hv.at;have EA:=aa ea;have rJ:=aa n';clear ea hv n'
 go_enter Tryz.func196,Tryz.ntmps196
 go_wp2_with fail
 go_loopw [3,8] (fun o i wr=>Below w.heap.size w wr/\∃ k:Nat,k<=l.length/\i=.int .i64 k/\cT wr w.heap.size o (l.take k)) (fun _ i _=>l.length - (intOf i).toNat)
 ·exact⟨Below.refl _ _,0,by omega,rfl,cB.nil _ _⟩
 ·
  obtain⟨aA,k,hk,rfl,qR⟩:=hrel;have vL:=aa qR;by_cases aB:k<l.length
  ·obtain⟨b1,o1,rfl,x,cx,hx⟩:=EA.o k aB;rw[Nat.mul_one]at cx;have d1:=ak aA cx;have it:=aa (rJ.o _ (List.getElem_mem aB));have jR:am (l.take (k+1)=l.take k++[l[k]]):=aa (List.take_succ_eq_append_getElem aB);generalize l[k]=y at hx it jR;have HX:=aa (hx.up up_int aA);obtain⟨px,qx,rfl,_⟩:=hx;clear cx;obtain⟨xs,bg,jU⟩:=qR;have mf:(l.take k).length=k:=by simp;omega
   rw[mf]at bg;have bP:=aa bg;have C8:=aa jU;have UF:=aa mf;obtain⟨ao,co,rfl⟩:=bg.slice;clear bg jU mf
   go_wp2_with fail
   refine(uH _ y wr HX.o it.o).mono ?_;rintro e w1 ⟨u,rfl,hu,aM⟩;obtain⟨au,cu,rfl⟩:=hu.slice;have xn:=ae aA aM;have hA:Below w1.heap.size w1 (w1.alloc (.cells #[(Value.slice au y.length cu)] 38)):=by go_grown
   have dx:=aa ((bP.o.up aM).up hA)
   have bT:∀ j u',[(Value.slice au y.length cu)][j]?=some u'->(w1.alloc (.cells #[(Value.slice au y.length cu)] 38)).cell? (Addr.add ⟨w1.heap.size,0,none⟩ j)=some u':=fun j u' hj=>by
    cases j with
    | zero=>simp at hj;subst hj;simp[Addr.add,ab (ap w1 _)]
    | succ j=>simp at hj
   have bE:=aa bT;have HU:=aa hu;clear bT hu d1;have io:=xn.size
   go_wp2_with (at_builtin;(refine bh _ rfl (.tmp 12) (.tmp 15) 56 rfl w.heap.size 38 i0 _ 1 24 Tryz.underlying56 hi cH cj cI rfl (by decide) _ k xs rfl dx.o ⟨w1.heap.size,0,none⟩ 1 1 [(Value.slice au y.length cu)] rfl rfl bE.o (by simp[Value.oneCell']) (by unfold maxLen;omega) (by omega) (by simp;omega) ?_;intro v' w2 fL dD _))
   go_roundw
   ·
    refine⟨Below.grown (w:=w1.alloc (.cells #[(Value.slice au y.length cu)] 38)) (xn.alloc io _) dD (by simp;omega) (fun g hg=>(dx.o.lt g hg).1),k+1,by omega,by go_num,?_⟩;rw[jR.o];exact cB.snoc (l:=l.take k) (by rw[UF.o];exact dx.o) (fun i hi=>by obtain⟨z,q1,q2⟩:=C8.o i hi;exact⟨z,q1,(q2.up aM).up hA⟩) (by decide) ((HU.o.base aA.size).up hA) dD (by rw[UF.o];exact fL)
   ·simp[intOf];omega
  ·obtain rfl:k=l.length:=by omega
   rw[List.take_length]at vL qR;obtain⟨xs,bg,_⟩:=qR;obtain⟨ao,co,rfl⟩:=bg.slice;clear bg
   go_wp2_with fail
   go_ret
   exact⟨_,rfl,vL.o,aA⟩
def dY(p:Pb):Int × Int:=
 if probE p≠0 then(0,probE p) else if (countedR 1048576 p.a p.rounds).2≠0 then(0,(countedR 1048576 p.a p.rounds).2)
 else if 1048576<(countedR 1048576 p.a p.rounds).1 * p.t.cases.length then(0,17) else((countedR 1048576 p.a p.rounds).1 * p.t.cases.length,0)
theorem Gv(L:Int) (hL:0<=L) (a:Adv) (r:Int):0<=(countedR L a r).1/\(countedR L a r).1<=L:=by
 unfold countedR;have h:=(uB hL (A1 hL a r.toNat) 0);change 0<=numberL L a r.toNat/\_ at h;split
 ·simp;omega
 ·split
  ·simp;omega
  ·split
   ·simp;omega
   ·simp;omega
theorem Gw(p:Pb) (vc vs:Value) (w:World) (hc:bN w vc p.t.cases) (hs:bz w vs p.a.states) (hN:movesN p.a.states<1099511627776) (bU:probE p=0->p.t.cases.length<=1048576) :
  Calls Tryz.prog 161 #[nJ p vc vs] w fun e w'=>e=.returned (.tuple #[.int .i64 (dY p).1,.int .i64 (dY p).2])/\Below w.heap.size w w':=by
 have GC:=aa hc;have GS:=aa hs;obtain⟨pc,cc,rfl,_⟩:=hc.at;obtain⟨ps,cs,rfl,_⟩:=hs.at;clear hc hs;have HV:am (dY p=if probE p≠0 then(0,probE p) else if (countedR 1048576 p.a p.rounds).2≠0 then(0,(countedR 1048576 p.a p.rounds).2) else if 1048576<(countedR 1048576 p.a p.rounds).1 * p.t.cases.length then(0,17) else((countedR 1048576 p.a p.rounds).1 * p.t.cases.length,0)):=by exact rfl
 go_enter Tryz.func161,Tryz.ntmps161
 go_wp2_with fail
 refine aQ (fun W=>Below w.heap.size w W/\W.heap[w.heap.size]?=some (.cells #[.int .i64 p.t.n,.int .i64 p.t.ins,.int .i64 p.t.outs,.slice pc p.t.cases.length cc,.int .i64 p.a.n,.slice ps p.a.states.length cs,.int .i64 p.rounds] 29)) ⟨by go_grown,ap _ _⟩ (fun W0 bd=>?_);obtain⟨aK,bK⟩:=bd;refine(Gt p _ _ W0 (GC.o.up up_case aK) (GS.o.up up_moves aK) hN).mono ?_;rintro e w1 ⟨rfl,aM⟩;have gl:=ae aK aM;have eO:=af aM bK;have t1:=ab eO;have ju:=aa bU;have dP:=aa eO;clear eO bK bU;generalize probE p=et at HV ju;by_cases oD:et=0
 case neg=>
  have NR:(et != 0)=true:=by simpa using oD
  have dg:am (dY p=(0,et)):=aa (by rw[HV.o,if_pos oD]);clear HV
  go_wp2_with fail
  go_ret2
  refine⟨km ?_ ?_,gl⟩<;>rw[dg.o]
 subst oD;have bU:=ju.o rfl
 go_wp2_with fail
 refine(Hz p.a _ p.rounds w1 (GS.o.up up_moves gl) hN).mono ?_;rintro e w2 ⟨rfl,aZ⟩;have kr:=ae gl aZ;have t2:=ab (af aZ dP.o);have qQ:=Gv 1048576 (by omega) p.a p.rounds;clear t1;generalize countedR 1048576 p.a p.rounds=cr at HV qQ;obtain⟨c1,c2⟩:=cr;dsimp only at HV qQ ⊢;by_cases jc:c2=0
 case neg=>
  have hc2':(c2 != 0)=true:=by simpa using jc
  have dg:am (dY p=(0,c2)):=aa (by rw[HV.o,if_neg (by simp),if_pos jc]);clear HV
  go_wp2_with fail
  go_ret2
  refine⟨km ?_ ?_,kr⟩<;>rw[dg.o]
 subst jc;have hprod:0<=c1 * (p.t.cases.length:Int)/\c1 * (p.t.cases.length:Int)<=1048576 * 1048576:=⟨Int.mul_nonneg qQ.1 (by omega),Int.mul_le_mul qQ.2 (by omega) (by omega) (by omega)⟩;have kJ:IntKind.i64.wrap (c1 * (p.t.cases.length:Int))=c1 * (p.t.cases.length:Int):=IntWalk.i64_in _ (by omega);by_cases hx:1048576<c1 * (p.t.cases.length:Int)
 ·have dg:am (dY p=(0,17)):=aa (by rw[HV.o,if_neg (by simp),if_neg (by simp),if_pos hx]);clear HV
  go_wp2_with fail
  go_ret2
  refine⟨km ?_ ?_,kr⟩<;>rw[dg.o]
 ·have dg:am (dY p=(c1 * (p.t.cases.length:Int),0)):=aa (by rw[HV.o,if_neg (by simp),if_neg (by simp),if_neg hx]);clear HV
  go_wp2_with fail
  go_ret2
  refine⟨km ?_ ?_,kr⟩<;>rw[dg.o]
def Ti(B:Nat):List Obj:=[iC [0,0],iC [0,0],.cells #[sV (B+1) 2] 38,iC [0,1],iC [0,0],iC [1,1],.cells #[sV (B+4) 2,sV (B+5) 2] 38,iC [1,1],iC [1,1],.cells #[sV (B+8) 2] 38,
 .cells #[sV B 2,sV (B+2) 1,.slice none 0 0,sV (B+3) 2,sV (B+6) 2,.slice none 0 0,sV (B+7) 2,sV (B+9) 1,.slice none 0 0] 135,.cells #[.int .i64 2,.int .i64 2,.int .i64 2,sV (B+10) 3] 24]
theorem Id(w:World):ez w (.slice none 0 0) []:=⟨none,0,rfl,⟨by simp,by omega,fun _=>rfl⟩,by simp,fun i x hx=>by simp at hx⟩
theorem Rz{B:Nat} {X:World} (g:∀ i o,(Ti B)[i]?=some o->X.heap[B+i]?=some o):bN X (sV (B+10) 3) ckCs:=by
 have t:=ab (g 10 _ rfl);refine⟨some ⟨B+10,0,none⟩,3,rfl,⟨by simp[ckCs],by omega,fun e=>by cases e⟩,by simp[ckCs],fun i x hx=>⟨B+10,0,rfl,?_⟩⟩;obtain⟨hi,rfl⟩:=List.getElem?_eq_some_iff.1 hx;rcases (show i=0\/i=1\/i=2 by simp[ckCs]at hi;omega) with rfl|rfl|rfl
 ·exact⟨⟨_,t 0,ib [0,0] (g 0 _ rfl) (by decide) (by decide)⟩,⟨_,t 1,xS (g 2 _ rfl) (ib [0,0] (g 1 _ rfl) (by decide) (by decide))⟩,⟨_,t 2,Id _⟩⟩
 ·exact⟨⟨_,t 3,ib [0,1] (g 3 _ rfl) (by decide) (by decide)⟩,⟨_,t 4,OS (g 6 _ rfl) (ib [0,0] (g 4 _ rfl) (by decide) (by decide)) (ib [1,1] (g 5 _ rfl) (by decide) (by decide))⟩,⟨_,t 5,Id _⟩⟩
 ·exact⟨⟨_,t 6,ib [1,1] (g 7 _ rfl) (by decide) (by decide)⟩,⟨_,t 7,xS (g 9 _ rfl) (ib [1,1] (g 8 _ rfl) (by decide) (by decide))⟩,⟨_,t 8,Id _⟩⟩
def mK(h:Int × Int):Mv:=⟨Tg h,0⟩
theorem Ie(tmps:Array Value) (B:Nat) (W:World) (c0 c1 c2 c3 c4 c5 c6:Value) (h2:tmps[4]?.getD undef=.pointer (some ⟨B,0,none⟩))
  (hB:W.heap[B]?=some (.cells #[c0,c1,c2,c3,c4,c5,c6] 29)):(results Tryz.f36 tmps).run Tryz.prog W=.ok (.agg #[c0,c1,c2,c3,c4,c5,c6]) W:=by
 have t2:=ab hB;simp[results,Tryz.results36,go_sem,h2,t2]
theorem O5(rounds:Int) (gs:List (Int × Int)) (n:Nat) (hl:gs.length=n) (hn:n<=100) (cY:∀ h∈gs,bS h.1/\bS h.2) (b:Nat) (w:World) (hb:∀ i (hi:i<gs.length),w.cell? ⟨b,i * 2,none⟩=some (.int .i64 gs[i].1)/\w.cell? ⟨b,i * 2+1,none⟩=some (.int .i64 gs[i].2)) :
  Calls Tryz.prog 36 #[.int .i64 rounds,.slice (some ⟨b,0,none⟩) n n] w fun r w'=>∃ vc vs,r=.returned (nJ (qL rounds gs) vc vs)/\(∀ Wf:World,(∀ k,w.heap.size<=k->k<w'.heap.size->Wf.heap[k]?=w'.heap[k]?)->bN Wf vc (qL rounds gs).t.cases/\bz Wf vs (qL rounds gs).a.states)/\Below w.heap.size w w':=by
 obtain⟨i0,df,cH,cj,cI⟩:=info_parts Tryz.infoMove;have cG:=aa (And.intro df (And.intro cH (And.intro cj cI)));have HG:=aa hb;have HL:=aa hl
 have HFS:am (∀ k (hk:k<gs.length),fF ((gs.take (k+1)).map mK)=fF ((gs.take k).map mK)++(mK gs[k]).c.toList):=aa fun k hk=>by
  rw[List.take_succ_eq_append_getElem hk,List.map_append];simp[fF]
 have X3:am (fF ((gs.take gs.length).map mK)=fF (gs.map mK)):=aa (by rw[List.take_length])
 have jf:am (∀ m∈gs.map mK,pI m.r/\bS m.to):=aa (fun m hm=>by
  obtain⟨h,hh,rfl⟩:=List.mem_map.1 hm;have z0:bS 0:=⟨by omega,by omega⟩
  exact⟨⟨⟨by simp[mK,Tg],by simp[mK,Tg]⟩,(cY h hh).1,(cY h hh).2,z0,z0,z0,z0⟩,z0⟩)
 clear df cH cj cI hb hl cY
 go_enter Tryz.func36,Tryz.ntmps36
 go_wp2_with fail
 refine bF (fun W=>Below w.heap.size w W/\W.heap[w.heap.size]?=some (.cells #[.int .i64 0,.int .i64 0,.int .i64 0,.slice none 0 0,.int .i64 0,.slice none 0 0,.int .i64 0] 29)/\∀ i o,(Ti (w.heap.size+1))[i]?=some o->W.heap[w.heap.size+1+i]?=some o) ⟨by go_grown,B4 (Ti (w.heap.size+1)) (w.alloc _) (ap _ _),fun i o h=>by
  have:=Mh (Ti (w.heap.size+1)) (w.alloc (.cells #[.int .i64 0,.int .i64 0,.int .i64 0,.slice none 0 0,.int .i64 0,.slice none 0 0,.int .i64 0] 29)) i h;rw[World.size_alloc]at this
  exact this⟩ (fun W1 cO=>?_)
 have bL:=aa cO.1;have dd:=aa cO.2.1;have nX:=aa cO.2.2;have fT:=aC cO.2.1;have I4:=aa (cO.2.2 11 _ rfl);have gV:=aC I4.o;clear cO
 go_loopw [6,26] (fun o i wr=>∃ k:Nat,k<=n/\i=.int .i64 k/\Below W1.heap.size W1 wr/\aJ wr W1.heap.size 143 8 o k (fF ((gs.take k).map mK))) (fun _ i _=>n - (intOf i).toNat)
 ·exact⟨0,by omega,rfl,Below.refl _ _,aJ.nil _ _ _ _⟩
 ·
  obtain⟨k,hk,rfl,aA,bg⟩:=hrel;obtain⟨al,cl,rfl⟩:=bg.slice;have bP:=aa bg;have aY:=aa aA;clear bg aA;by_cases aB:k<n
  ·obtain⟨g1,g2⟩:=HG.o k (by rw[HL.o];exact aB);have dy:=ae bL.o aY.o;have t1:=ak dy g1;have t2:=ak dy g2;have Xf:=HFS.o k (by rw[HL.o];exact aB);generalize gs[k]'(by rw[HL.o];exact aB)=h at t1 t2 Xf;obtain⟨h1,h2⟩:=h;dsimp only at t1 t2;have CQ:am (fF ((gs.take (k+1)).map mK)=fF ((gs.take k).map mK)++[.int .i64 2,.int .i64 h1,.int .i64 h2,.int .i64 0,.int .i64 0,.int .i64 0,.int .i64 0,.int .i64 0]):=aa Xf;have AX:Below wr.heap.size wr ((wr.alloc (.cells #[.int .i64 h1,.int .i64 h2] 92)).alloc (.cells #[.int .i64 2,.int .i64 h1,.int .i64 h2,.int .i64 0,.int .i64 0,.int .i64 0,.int .i64 0,.int .i64 0] 143)):=by go_grown
   have tb:=ab (ap wr (.cells #[.int .i64 h1,.int .i64 h2] 92));have rX:=aa AX;have rU:=aa (bP.o.up AX);have bT:=dU (wr.alloc (.cells #[.int .i64 h1,.int .i64 h2] 92)) [.int .i64 2,.int .i64 h1,.int .i64 h2,.int .i64 0,.int .i64 0,.int .i64 0,.int .i64 0,.int .i64 0] 143;rw[World.size_alloc]at bT;have bE:=aa bT;have j9:am (k+1<=maxLen):=aa (by unfold maxLen;omega);have eW:am ((k+1) * 64<=140737488355328):=aa (by omega);have gC:am (W1.heap.size<=((wr.alloc (.cells #[.int .i64 h1,.int .i64 h2] 92)).alloc (.cells #[.int .i64 2,.int .i64 h1,.int .i64 h2,.int .i64 0,.int .i64 0,.int .i64 0,.int .i64 0,.int .i64 0] 143)).heap.size):=aa (by have:=aY.o.size;simp;omega);clear Xf AX bT g1 g2 dy
   go_wp2_with (at_builtin;(refine bh _ rfl (.tmp 30) (.tmp 39) 136 rfl W1.heap.size 143 i0 _ 8 64 Tryz.underlying136 cG.o.1 cG.o.2.1 cG.o.2.2.1 cG.o.2.2.2 rfl (by decide) _ k _ rfl rU.o ⟨wr.heap.size+1,0,none⟩ 1 1 [.int .i64 2,.int .i64 h1,.int .i64 h2,.int .i64 0,.int .i64 0,.int .i64 0,.int .i64 0,.int .i64 0] rfl rfl bE.o (by simp[Value.oneCell']) j9.o eW.o gC.o ?_;intro v9 w9 go eB _))
   go_roundw
   ·
    refine⟨k+1,by omega,by go_num,Below.grown (ae aY.o rX.o) eB gC.o (fun g hg=>(rU.o.lt g hg).1),?_⟩;rw[CQ.o];exact go
   ·simp[intOf];omega
  ·obtain rfl:k=n:=by omega
   have aA:=aY.o;have eJ:=aa (aq (.cells #[.slice al k cl] 136) (af aA dd.o));have tT:=ab (aq (.cells #[.slice al k cl] 136) (af aA I4.o));have tT2:=ab (af aA I4.o);clear aA
   go_wp2_with (refine wpList_store_row rfl 29 (.tmp 4) (.tmp 47) rfl w.heap.size #[.int .i64 2,.int .i64 2,.int .i64 2,sV (w.heap.size+1+10) 3,.int .i64 2,.slice (some ⟨wr.heap.size,0,none⟩) 1 1,.int .i64 rounds] rfl rfl 29 _ eJ.o (by kernel_rfl) rfl (by simp[Value.oneCell']) ?_)
   have nR:Below W1.heap.size W1 (wr.alloc (.cells #[.slice al k cl] 136)):=aY.o.alloc aY.o.size _;have wG:=below_setRow (ae bL.o nR) (Nat.le_refl _) #[.int .i64 2,.int .i64 2,.int .i64 2,sV (w.heap.size+1+10) 3,.int .i64 2,.slice (some ⟨wr.heap.size,0,none⟩) 1 1,.int .i64 rounds];have hRt:∀ q,q≠w.heap.size->((wr.alloc (.cells #[.slice al k cl] 136)).setRow w.heap.size #[.int .i64 2,.int .i64 2,.int .i64 2,sV (w.heap.size+1+10) 3,.int .i64 2,.slice (some ⟨wr.heap.size,0,none⟩) 1 1,.int .i64 rounds]).heap[q]?=(wr.alloc (.cells #[.slice al k cl] 136)).heap[q]?:=fun _ hk=>setRow_other _ _ _ _ hk
   refine bodyPost_ret (Ie _ w.heap.size _ _ _ _ _ _ _ _ rfl (setRow_heap _ _ _ _ _ _ eJ.o)) rfl ⟨sV (w.heap.size+1+10) 3,.slice (some ⟨wr.heap.size,0,none⟩) 1 1,rfl,fun Wf JR=>?_,wG⟩;have eQ:(wr.alloc (.cells #[.slice al k cl] 136)).heap.size<=((wr.alloc (.cells #[.slice al k cl] 136)).setRow w.heap.size #[.int .i64 2,.int .i64 2,.int .i64 2,sV (w.heap.size+1+10) 3,.int .i64 2,.slice (some ⟨wr.heap.size,0,none⟩) 1 1,.int .i64 rounds]).heap.size:=(below_setRow (Below.refl w.heap.size _) (Nat.le_refl _) _).size;have C5:∀ g o,w.heap.size<g->(wr.alloc (.cells #[.slice al k cl] 136)).heap[g]?=some o->Wf.heap[g]?=some o:=fun g o hg ho=>(JR g (by omega) (Nat.lt_of_lt_of_le (aC ho) eQ)).trans ((setRow_other _ _ _ _ (by omega)).trans ho)
   have rT:=aY.o.size;refine⟨Rz fun i o h=>C5 _ _ (by omega) (af nR (nX.o i o h)),?_⟩
   have hm:pf Wf (.slice al k cl) (gs.map mK):=by
    have h1:=bP.o;have e1:fF ((gs.take k).map mK)=fF (gs.map mK):=by rw[<-X3.o,HL.o]
    rw[e1]at h1;have h2:=h1.keep (w':=Wf) (fun g o hg ho=>C5 g o (by have:=(h1.lt g hg).1;omega) (aq _ ho));refine Fc (l:=gs.map mK) (base:=W1.heap.size) (by rw[List.length_map,HL.o];exact h2) jf.o (by rw[List.length_map,HL.o];omega)
   exact xS (C5 _ _ (by omega) (ap _ _)) hm
theorem RA{w:World} {v:Value} {l:List Cs} {xs:List Value} (h:bN w v l) (hr:mJ w 3 v l.length xs) (i:Nat) (hi:i<l.length) :
  ∃ a b c,xs[i * 3]?=some a/\xs[i * 3+1]?=some b/\xs[i * 3+2]?=some c/\aX w a l[i].inp/\ez w b l[i].out/\ez w c l[i].calm:=by
 obtain⟨p,cap,rfl,_,iN,hc,_⟩:=hr;obtain⟨p',cap',e,_,_,h3⟩:=h;cases e;obtain⟨b,o,rfl,⟨a0,q0,r0⟩,⟨a1,q1,r1⟩,⟨a2,q2,r2⟩⟩:=h3 i _ (List.getElem?_eq_getElem hi)
 have key:∀ s u,s<3->w.cell? ⟨b,o+i * 3+s,none⟩=some u->xs[i * 3+s]?=some u:=fun s u hs hu=>by
  have aB:i * 3+s<xs.length:=by omega
  obtain⟨b',o',e,hq⟩:=hc (i * 3+s) xs[i * 3+s] (List.getElem?_eq_getElem aB);cases e;rw[<-Nat.add_assoc,hu]at hq;rw[List.getElem?_eq_getElem aB,<-dE hq]
 exact⟨a0,a1,a2,key 0 _ (by omega) q0,key 1 _ (by omega) q1,key 2 _ (by omega) q2,r0,r1,r2⟩
theorem O6{w:World} {v:Value} {l:List (List Mv)} {xs:List Value} (h:bz w v l) (hr:mJ w 1 v l.length xs) (i:Nat) (hi:i<l.length):∃ a,xs[i]?=some a/\pf w a l[i]:=by
 obtain⟨p,cap,rfl,_,iN,hc,_⟩:=hr;obtain⟨p',cap',e,_,_,h3⟩:=h;cases e;obtain⟨b,o,rfl,a0,q0,r0⟩:=h3 i _ (List.getElem?_eq_getElem hi);refine⟨a0,?_,r0⟩;have aB:i<xs.length:=by omega
 obtain⟨b',o',e,hq⟩:=hc i xs[i] (List.getElem?_eq_getElem aB);cases e;rw[Nat.mul_one]at q0;rw[q0]at hq;rw[List.getElem?_eq_getElem aB,<-dE hq]
def U1(W:World) (base:Nat) (cur:Array Value) (i:Nat) (c:Cs):Prop:=
 ∃ a b d,cur[i * 3]?=some a/\cur[i * 3+1]?=some b/\cur[i * 3+2]?=some d/\aJ W base 3 1 a c.inp.length (c.inp.map (Value.int .i64))/\cT W base b c.out/\cT W base d c.calm
structure CaseRow (base g cap:Nat) (raw:List Value) (cs:List Cs) (k:Nat) (W:World):Prop where
 lo:base<=g
 fit:cs.length<=cap/\cap<=maxLen
 row:∃ cur fz,W.heap[g]?=some (.cells cur 135 fz)/\(∀ i,i<cur.size->¬ (fz.1<=i/\i<fz.2))/\cur.size=cap * 3/\(∀ i (hi:i<cs.length),i<k->U1 W base cur i cs[i])/\∀ j,k * 3<=j->j<cs.length * 3->cur[j]?=raw[j]?
theorem cB.setT{α:Type} {to ti:TypeId} {k:Nat} {flat:List α->List Value} {w:World} {base:Nat} {v:Value} {l:List (List α)} {B:Nat} {cs:Array Value} {t:TypeId} {f:Nat × Nat} (h:cB to ti k flat w base v l) (hB:w.heap[B]?=some (.cells cs t f)) (h1:to≠t) (h2:ti≠t) (o:Nat) (x:Value):cB to ti k flat (w.setCell ⟨B,o,none⟩ x) base v l:=by
 obtain⟨xs,q1,q2⟩:=h;exact⟨xs,q1.put (fun g e=>q1.ne hB h1 g e) _ _,fun i hi=>by obtain⟨y,p1,p2⟩:=q2 i hi;exact⟨y,p1,p2.put (fun g e=>p2.ne hB h2 g e) _ _⟩⟩
theorem CaseRow.up{base g cap:Nat} {raw:List Value} {cs:List Cs} {k:Nat} {W W':World} (h:CaseRow base g cap raw cs k W) (hb:Below W.heap.size W W'):CaseRow base g cap raw cs k W':=by
 obtain⟨cur,fz,q1,q2,q3,q4,q5⟩:=h.row;exact⟨h.lo,h.fit,cur,fz,af hb q1,q2,q3,fun i hi hk=>by obtain⟨a,b,d,p1,p2,p3,p4,p5,p6⟩:=q4 i hi hk;exact⟨a,b,d,p1,p2,p3,p4.up hb,p5.up hb,p6.up hb⟩,q5⟩
theorem CaseRow.put{base g cap:Nat} {raw:List Value} {cs:List Cs} {k:Nat} {W:World} (h:CaseRow base g cap raw cs k W) (hk:k<cs.length) {a b d:Value} (h1:aJ W base 3 1 a cs[k].inp.length (cs[k].inp.map (Value.int .i64))) (h2:cT W base b cs[k].out) (h3:cT W base d cs[k].calm) :
  CaseRow base g cap raw cs (k+1) (((W.setCell ⟨g,k * 3,none⟩ a).setCell ⟨g,k * 3+1,none⟩ b).setCell ⟨g,k * 3+2,none⟩ d):=by
 obtain⟨cur,fz,q1,q2,q3,q4,q5⟩:=h.row;have e1:=aI q1 (k * 3) a;have e2:=aI e1 (k * 3+1) b;have e3:=aI e2 (k * 3+2) d
 have ko:∀ {x:Value} {n:Nat} {xs:List Value},aJ W base 3 1 x n xs->aJ (((W.setCell ⟨g,k * 3,none⟩ a).setCell ⟨g,k * 3+1,none⟩ b).setCell ⟨g,k * 3+2,none⟩ d) base 3 1 x n xs:=fun hq=>
  have w1:=hq.put (fun g' e=>hq.ne q1 (by decide) g' e) (k * 3) a;have w2:=w1.put (fun g' e=>w1.ne e1 (by decide) g' e) (k * 3+1) b
  w2.put (fun g' e=>w2.ne e2 (by decide) g' e) (k * 3+2) d
 have kf:∀ {x:Value} {l:List (List Int)},cT W base x l->cT (((W.setCell ⟨g,k * 3,none⟩ a).setCell ⟨g,k * 3+1,none⟩ b).setCell ⟨g,k * 3+2,none⟩ d) base x l:=fun hq=>
  ((hq.setT q1 (by decide) (by decide) _ _).setT e1 (by decide) (by decide) _ _).setT e2 (by decide) (by decide) _ _
 have eQ:k * 3+2<cur.size:=by have:=h.fit.1;omega
 refine⟨h.lo,h.fit,_,fz,e3,fun i hi=>q2 i (by simpa using hi),by simpa using q3,fun i hi kI=>?_,fun j hj FQ=>?_⟩
 ·by_cases aB:i<k
  ·obtain⟨x,y,z,p1,p2,p3,p4,p5,p6⟩:=q4 i hi aB;refine⟨x,y,z,?_,?_,?_,ko p4,kf p5,kf p6⟩
   ·rw[Array.getElem?_setIfInBounds_ne (by omega),Array.getElem?_setIfInBounds_ne (by omega),Array.getElem?_setIfInBounds_ne (by omega)];exact p1
   ·rw[Array.getElem?_setIfInBounds_ne (by omega),Array.getElem?_setIfInBounds_ne (by omega),Array.getElem?_setIfInBounds_ne (by omega)];exact p2
   ·rw[Array.getElem?_setIfInBounds_ne (by omega),Array.getElem?_setIfInBounds_ne (by omega),Array.getElem?_setIfInBounds_ne (by omega)];exact p3
  ·obtain rfl:i=k:=by omega
   refine⟨a,b,d,?_,?_,?_,ko h1,kf h2,kf h3⟩
   ·rw[Array.getElem?_setIfInBounds_ne (by omega),Array.getElem?_setIfInBounds_ne (by omega),Array.getElem?_setIfInBounds_self_of_lt (by omega)]
   ·rw[Array.getElem?_setIfInBounds_ne (by omega),Array.getElem?_setIfInBounds_self_of_lt (by simp;omega)]
   ·rw[Array.getElem?_setIfInBounds_self_of_lt (by simp;omega)]
 ·rw[Array.getElem?_setIfInBounds_ne (by omega),Array.getElem?_setIfInBounds_ne (by omega),Array.getElem?_setIfInBounds_ne (by omega)];exact q5 j (by omega) FQ
theorem nL{W:World} {base:Nat} {v:Value} {l:List (List Int)} (h:cT W base v l) (hr:∀ x∈l,∀ y∈x,bS y) (hn:l.length<=1048576) (n':∀ x∈l,x.length<=1048576):ez W v l:=
 cB.sl h (fun x a ha ho=>gI ho (hr a ha) (by have:=n' a ha;omega)) (by omega)
theorem wj{w:World} {v:Value} {l:List Cs} (h:bN w v l):∀ c∈l,(∀ y∈c.inp,bS y)/\(∀ x∈c.out,∀ y∈x,bS y)/\∀ x∈c.calm,∀ y∈x,bS y:=fun c hc=>by
 have hv:∀ {b o:Nat} {q:List (List Int)},ux w b o q->∀ x∈q,∀ y∈x,bS y:=fun {b o q} hq x hx=>by
  obtain⟨u,_,p,cap,rfl,_,_,e⟩:=hq;obtain⟨i,hi,rfl⟩:=List.getElem_of_mem hx;obtain⟨_,_,_,u2,_,h2⟩:=e i _ (List.getElem?_eq_getElem hi);exact Hl h2
 obtain⟨i,hi,rfl⟩:=List.getElem_of_mem hc;obtain⟨p,cap,rfl,_,_,e⟩:=h;obtain⟨_,_,_,⟨_,_,h0⟩,h1,h2⟩:=e i _ (List.getElem?_eq_getElem hi);exact⟨Hl h0,hv h1,hv h2⟩
theorem CaseRow.done{base g cap:Nat} {raw:List Value} {t:Tk} {k:Nat} {W:World} (h:CaseRow base g cap raw t.cases k W) (hk:t.cases.length<=k) (ht:taskE t=0) (cY:∀ c∈t.cases,(∀ y∈c.inp,bS y)/\(∀ x∈c.out,∀ y∈x,bS y)/\∀ x∈c.calm,∀ y∈x,bS y):bN W (.slice (some ⟨g,0,none⟩) t.cases.length cap) t.cases:=by
 obtain⟨cur,fz,q1,q2,q3,q4,q5⟩:=h.row;obtain⟨⟨_,jz⟩,_,_,⟨_,hl⟩,fV⟩:=fm ht;have hf:=h.fit;refine⟨some ⟨g,0,none⟩,cap,rfl,⟨hf.1,by have:=hf.2;unfold maxLen at this;omega,fun e=>by cases e⟩,by omega,fun i x hx=>⟨g,0,rfl,?_⟩⟩;obtain⟨hi,rfl⟩:=List.getElem?_eq_some_iff.1 hx;obtain⟨a,b,d,p1,p2,p3,p4,p5,p6⟩:=q4 i hi (by omega);obtain⟨r1,r2,r3⟩:=cY _ (List.getElem_mem hi);have ho:=fV _ (List.getElem_mem hi);rw[Nat.zero_add];have c1:=ho.inp;have c2:=ho.out2;have c3:=ho.calm;refine⟨⟨a,(ab q1 _).trans p1,gI p4 r1 (by omega)⟩,⟨b,(ab q1 _).trans p2,nL p5 r2 (by omega) (fun x hx=>by have:=ho.outs x hx;omega)⟩,⟨d,(ab q1 _).trans p3,nL p6 r3 (by omega) (fun x hx=>by have:=ho.outs x (ho.calms x hx);omega)⟩⟩
structure StateRow (base g cap:Nat) (raw:List Value) (l:List (List Mv)) (k:Nat) (W:World):Prop where
 lo:base<=g
 fit:l.length<=cap/\cap<=maxLen
 row:∃ cur fz,W.heap[g]?=some (.cells cur 136 fz)/\(∀ i,i<cur.size->¬ (fz.1<=i/\i<fz.2))/\cur.size=cap/\(∀ i (hi:i<l.length),i<k->∃ a,cur[i]?=some a/\aJ W base 143 8 a l[i].length (fF l[i]))/\∀ j,k<=j->j<l.length->cur[j]?=raw[j]?
theorem StateRow.up{base g cap:Nat} {raw:List Value} {l:List (List Mv)} {k:Nat} {W W':World} (h:StateRow base g cap raw l k W) (hb:Below W.heap.size W W'):StateRow base g cap raw l k W':=by
 obtain⟨cur,fz,q1,q2,q3,q4,q5⟩:=h.row;exact⟨h.lo,h.fit,cur,fz,af hb q1,q2,q3,fun i hi hk=>by obtain⟨a,p1,p2⟩:=q4 i hi hk;exact⟨a,p1,p2.up hb⟩,q5⟩
theorem StateRow.put{base g cap:Nat} {raw:List Value} {l:List (List Mv)} {k:Nat} {W:World} (h:StateRow base g cap raw l k W) (hk:k<l.length) {a:Value} (h1:aJ W base 143 8 a l[k].length (fF l[k])):StateRow base g cap raw l (k+1) (W.setCell ⟨g,k,none⟩ a):=by
 obtain⟨cur,fz,q1,q2,q3,q4,q5⟩:=h.row;have eQ:k<cur.size:=by have:=h.fit.1;omega
 refine⟨h.lo,h.fit,_,fz,aI q1 k a,fun i hi=>q2 i (by simpa using hi),by simpa using q3,fun i hi kI=>?_,fun j hj FQ=>?_⟩
 ·by_cases aB:i<k
  ·obtain⟨x,p1,p2⟩:=q4 i hi aB;exact⟨x,by rw[Array.getElem?_setIfInBounds_ne (by omega)];exact p1,p2.put (fun g' e=>p2.ne q1 (by decide) g' e) _ _⟩
  ·obtain rfl:i=k:=by omega
   exact⟨a,by rw[Array.getElem?_setIfInBounds_self_of_lt (by omega)],h1.put (fun g' e=>h1.ne q1 (by decide) g' e) _ _⟩
 ·rw[Array.getElem?_setIfInBounds_ne (by omega)];exact q5 j (by omega) FQ
theorem StateRow.done{base g cap:Nat} {raw:List Value} {l:List (List Mv)} {k:Nat} {W:World} (h:StateRow base g cap raw l k W) (hk:l.length<=k) (hl:l.length<=256) (m5:∀ x∈l,x.length<=1048576) (cY:∀ x∈l,∀ m∈x,pI m.r/\bS m.to):bz W (.slice (some ⟨g,0,none⟩) l.length cap) l:=by
 obtain⟨cur,fz,q1,q2,q3,q4,q5⟩:=h.row;have hf:=h.fit;refine⟨some ⟨g,0,none⟩,cap,rfl,⟨hf.1,by have:=hf.2;unfold maxLen at this;omega,fun e=>by cases e⟩,by omega,fun i x hx=>⟨g,0,rfl,?_⟩⟩;obtain⟨hi,rfl⟩:=List.getElem?_eq_some_iff.1 hx;obtain⟨a,p1,p2⟩:=q4 i hi (by omega);rw[Nat.zero_add,Nat.mul_one];exact⟨a,(ab q1 _).trans p1,Fc p2 (cY _ (List.getElem_mem hi)) (by have:=m5 _ (List.getElem_mem hi);omega)⟩
theorem Mq{w:World} {v:Value} {l:List (List Mv)} (h:bz w v l):∀ x∈l,∀ m∈x,pI m.r/\bS m.to:=fun x hx=>by
 obtain⟨i,hi,rfl⟩:=List.getElem_of_mem hx;obtain⟨p,cap,rfl,_,_,e⟩:=h;obtain⟨_,_,_,u,_,hu⟩:=e i _ (List.getElem?_eq_getElem hi);exact Ry hu
theorem Below.trans3{w a b c:World} (h1:Below w.heap.size w a) (h2:Below a.heap.size a b) (h3:Below b.heap.size b c):Below w.heap.size w c:=ae h1 (ae h2 h3)
theorem cB.lower9{α:Type} {to ti:TypeId} {k:Nat} {flat:List α->List Value} {w:World} {base b:Nat} {v:Value} {l:List (List α)} (h:cB to ti k flat w base v l) (hb:b<=base):cB to ti k flat w b v l:=by
 obtain⟨xs,q1,q2⟩:=h;exact⟨xs,q1.base hb,fun i hi=>by obtain⟨x,p1,p2⟩:=q2 i hi;exact⟨x,p1,p2.base hb⟩⟩
abbrev zPb:Array Value:=#[.int .i64 0,.int .i64 0,.int .i64 0,.slice none 0 0,.int .i64 0,.slice none 0 0,.int .i64 0]
theorem aJ.from{w w':World} {base sz:Nat} {e:TypeId} {v:Value} {n:Nat} {xs:List Value} (h:aJ w base e sz v n xs) (hk:∀ k o,base<=k->w.heap[k]?=some o->w'.heap[k]?=some o):aJ w' base e sz v n xs:=
 h.keepT fun g o e1 e2=>hk g o (h.lt g e1).1 e2
theorem cB.from{α:Type} {to ti:TypeId} {k:Nat} {flat:List α->List Value} {w w':World} {base:Nat} {v:Value} {l:List (List α)} (h:cB to ti k flat w base v l) (hk:∀ k o,base<=k->w.heap[k]?=some o->w'.heap[k]?=some o):cB to ti k flat w' base v l:=by
 obtain⟨xs,q1,q2⟩:=h;exact⟨xs,q1.from hk,fun i hi=>by obtain⟨x,p1,p2⟩:=q2 i hi;exact⟨x,p1,p2.from hk⟩⟩
theorem CaseRow.from{base g cap:Nat} {raw:List Value} {cs:List Cs} {k:Nat} {W W':World} (h:CaseRow base g cap raw cs k W) (hk:∀ k o,base<=k->W.heap[k]?=some o->W'.heap[k]?=some o):CaseRow base g cap raw cs k W':=by
 obtain⟨cur,fz,q1,q2,q3,q4,q5⟩:=h.row;exact⟨h.lo,h.fit,cur,fz,hk _ _ h.lo q1,q2,q3,fun i hi kI=>by obtain⟨a,b,d,p1,p2,p3,p4,p5,p6⟩:=q4 i hi kI;exact⟨a,b,d,p1,p2,p3,p4.from hk,p5.from hk,p6.from hk⟩,q5⟩
theorem StateRow.from{base g cap:Nat} {raw:List Value} {l:List (List Mv)} {k:Nat} {W W':World} (h:StateRow base g cap raw l k W) (hk:∀ k o,base<=k->W.heap[k]?=some o->W'.heap[k]?=some o):StateRow base g cap raw l k W':=by
 obtain⟨cur,fz,q1,q2,q3,q4,q5⟩:=h.row;exact⟨h.lo,h.fit,cur,fz,hk _ _ h.lo q1,q2,q3,fun i hi kI=>by obtain⟨a,p1,p2⟩:=q4 i hi kI;exact⟨a,p1,p2.from hk⟩,q5⟩
theorem CaseRow.keep{base g cap:Nat} {raw:List Value} {cs:List Cs} {k:Nat} {W W':World} {ts:List TypeId} {ms:List Nat} {b:Nat} (h:CaseRow base g cap raw cs k W) (hk:KeepT ts ms b W W') (h1:135∉ts) (h2:3∉ts) (h3:38∉ts):CaseRow base g cap raw cs k W':=by
 obtain⟨cur,fz,q1,q2,q3,q4,q5⟩:=h.row;exact⟨h.lo,h.fit,cur,fz,hk.keep _ _ _ _ q1 h1,q2,q3,fun i hi kI=>by obtain⟨a,b,d,p1,p2,p3,p4,p5,p6⟩:=q4 i hi kI;exact⟨a,b,d,p1,p2,p3,hk.own p4 h2,hk.fresh p5 h3 h2,hk.fresh p6 h3 h2⟩,q5⟩
theorem StateRow.keep{base g cap:Nat} {raw:List Value} {l:List (List Mv)} {k:Nat} {W W':World} {ts:List TypeId} {ms:List Nat} {b:Nat} (h:StateRow base g cap raw l k W) (hk:KeepT ts ms b W W') (h1:136∉ts) (h2:143∉ts):StateRow base g cap raw l k W':=by
 obtain⟨cur,fz,q1,q2,q3,q4,q5⟩:=h.row;exact⟨h.lo,h.fit,cur,fz,hk.keep _ _ _ _ q1 h1,q2,q3,fun i hi kI=>by obtain⟨a,p1,p2⟩:=q4 i hi kI;exact⟨a,p1,hk.own p2 h2⟩,q5⟩
def U2(base:Nat) (l:List Mv):MP:=⟨fun x W=>aJ W base 143 8 x l.length (fF l),fun _ _ _ h hb=>h.up hb⟩
theorem List.single_le_sum9(l:List Nat) (x:Nat) (h:x∈l):x<=l.sum:=by
 induction l with
 | nil=>simp at h
 | cons a r ih=>
  rw[List.sum_cons];rcases List.mem_cons.1 h with rfl|h
  ·omega
  ·have:=ih h;omega
theorem If(l:List (List Mv)) (k:Nat) (h:k<l.length):l[k].length<=movesN l:=by
 unfold movesN;exact List.single_le_sum9 (l.map List.length) _ (List.mem_map.2 ⟨_,List.getElem_mem h,rfl⟩)
theorem rj{W:World} {g:Nat} {cur:Array Value} {t:TypeId} {fz:Nat × Nat} (h:W.heap[g]?=some (.cells cur t fz)) (hf:∀ i,i<cur.size->¬ (fz.1<=i/\i<fz.2)) (o:Nat) (ho:o<cur.size):W.frozen? ⟨g,o,none⟩=false:=by
 simp only[World.frozen?,h];have:=hf o ho;simpa using this
def VP(base:Nat) (l:List Int):MP:=⟨fun x W=>aJ W base 3 1 x l.length (l.map (Value.int .i64)),fun _ _ _ h hb=>h.up hb⟩
def O7(base:Nat) (l:List (List Int)):MP:=⟨fun x W=>cT W base x l,fun _ _ _ h hb=>h.up hb⟩
def O8(base:Nat) (c:Cs):MP:=⟨fun x W=>∃ a b d,x=.agg #[a,b,d]/\aJ W base 3 1 a c.inp.length (c.inp.map (Value.int .i64))/\cT W base b c.out/\cT W base d c.calm,fun _ _ _ h hb=>by obtain⟨a,b,d,h1,h2,h3,h4⟩:=h;exact⟨a,b,d,h1,h2.up hb,h3.up hb,h4.up hb⟩⟩
theorem O9{base:Nat} {c:Cs} {W:World} {a b d:Value} (h2:aJ W base 3 1 a c.inp.length (c.inp.map (Value.int .i64))) (h3:cT W base b c.out) (h4:cT W base d c.calm):(O8 base c).p (.agg #[a,b,d]) W:=⟨a,b,d,rfl,h2,h3,h4⟩
theorem cB.slice{α:Type} {to ti:TypeId} {k:Nat} {flat:List α->List Value} {w:World} {base:Nat} {v:Value} {l:List (List α)} (h:cB to ti k flat w base v l):∃ a c,v=.slice a l.length c:=by
 obtain⟨xs,q,_⟩:=h;exact q.slice
theorem DW(p:Pb) (vc vs:Value) (w:World) (hc:bN w vc p.t.cases) (hs:bz w vs p.a.states) (ht:taskE p.t=0) (ha:advE p.a=0) (hN:movesN p.a.states<=4096) :
  Calls Tryz.prog 163 #[nJ p vc vs] w fun e w'=>∃ uc us,e=.returned (nJ p uc us)/\(∀ W:World,(∀ k o,w.heap.size<=k->w'.heap[k]?=some o->W.heap[k]?=some o)->bN W uc p.t.cases/\bz W us p.a.states)/\Below w.heap.size w w':=by
 obtain⟨raw,hraw⟩:=O3 hc;obtain⟨raw2,hraw2⟩:=Mp hs;have HC:=aa hc;have HS:=aa hs;have HR:=aa hraw;have eJ:=aa hraw2;obtain⟨⟨_,jz⟩,_,_,⟨wI,bU⟩,fV⟩:=fm ht;obtain⟨⟨fT,gV⟩,_⟩:=ik ha;have dL:=aa fV;obtain⟨pc,cc,rfl,_⟩:=hc.at;obtain⟨ps,cs,rfl,_⟩:=hs.at;clear hc hs hraw hraw2 fV
 go_enter Tryz.func163,Tryz.ntmps163
 go_wp2_with fail
 refine aQ (fun W=>Below w.heap.size w W/\W.heap[w.heap.size]?=some (.cells #[.int .i64 p.t.n,.int .i64 p.t.ins,.int .i64 p.t.outs,.slice pc p.t.cases.length cc,.int .i64 p.a.n,.slice ps p.a.states.length cs,.int .i64 p.rounds] 29)/\W.heap[w.heap.size+1]?=some (.cells zPb 29)) ⟨by go_grown,aq _ (ap _ _),bu _ _ _⟩ (fun W0 bd=>?_);obtain⟨aK,bK,hH⟩:=bd;have cH:=aK.size;refine(DU _ p.t.cases.length raw W0 ?_ (by omega)).mono ?_
 ·obtain⟨q,cap,e,h1,h2,h3,h4⟩:=HR.o;exact⟨q,cap,e,h1,h2,fun j u hj=>by obtain⟨b,o,e1,e2⟩:=h3 j u hj;exact⟨b,o,e1,ak aK e2⟩,h4⟩
 rintro e w1 ⟨u,rfl,hu,aM⟩
 have cA:∃ g cap,u=.slice (some ⟨g,0,none⟩) p.t.cases.length cap/\CaseRow w.heap.size g cap raw p.t.cases 0 w1:=by
  rcases hu.2 with ⟨_,h0⟩|⟨g,cap,cur,fz,rfl,h1,h2,h3,h4,h5,h6,h7⟩
  ·omega
  ·refine⟨g,cap,rfl,by omega,⟨h4,h5⟩,cur,fz,h2,h3,h6,fun i hi hk=>by omega,fun j _ hj=>?_⟩;rw[<-h7,List.getElem?_take_of_lt hj];simp
 obtain⟨g,cap,rfl,cA⟩:=cA;have jl:=ae aK aM;have eO:=af aM bK;have LH:=af aM hH;have t1:=ab eO;have z1:=fun o=>aH eO o
 have ku:=aa cA;have dP:=aa eO;have gE:=aa LH;have cj:=aM.size;have Xi:=aC LH;clear hu cA bK hH eO LH
 go_wp2_with fail
 clear t1 z1;refine bF (fun W=>Below w.heap.size w W/\W.heap[w.heap.size]?=some (.cells #[.int .i64 p.t.n,.int .i64 p.t.ins,.int .i64 p.t.outs,.slice (some ⟨g,0,none⟩) p.t.cases.length cap,.int .i64 p.a.n,.slice ps p.a.states.length cs,.int .i64 p.rounds] 29)/\W.heap[w.heap.size+1]?=some (.cells zPb 29)/\CaseRow w.heap.size g cap raw p.t.cases 0 W) ?_ (fun W2 fg=>?_)
 ·refine⟨jl.setCell (Nat.le_refl _) _,by rw[aI dP.o];rfl,aO gE.o (by omega) _ _,?_⟩;obtain⟨cur,fz,q1,q2,q3,q4,q5⟩:=ku.o.row;exact⟨ku.o.lo,ku.o.fit,cur,fz,aO q1 (fun e=>by have:=dP.o;rw[<-e,q1]at this;cases this) _ _,q2,q3,fun i hi hk=>by omega,q5⟩
 obtain⟨aZ,hA2,qW,td⟩:=fg
 go_loopw [17] (fun i wr=>∃ k:Nat,k<=p.t.cases.length/\i=.int .i64 k/\Below w.heap.size w wr/\wr.heap[w.heap.size]?=some (.cells #[.int .i64 p.t.n,.int .i64 p.t.ins,.int .i64 p.t.outs,.slice (some ⟨g,0,none⟩) p.t.cases.length cap,.int .i64 p.a.n,.slice ps p.a.states.length cs,.int .i64 p.rounds] 29)/\wr.heap[w.heap.size+1]?=some (.cells zPb 29)/\CaseRow w.heap.size g cap raw p.t.cases k wr) (fun i _=>p.t.cases.length - (intOf i).toNat)
 ·exact⟨0,by omega,rfl,aZ,hA2,qW,td⟩
 ·
  clear aZ hA2 qW td;obtain⟨k,hk,rfl,aA,hA,hO,cA⟩:=hrel;have HA:=aa hA;have HO:=aa hO;have zD:=aa cA;by_cases aB:k<p.t.cases.length
  ·obtain⟨va,vb,vd,q1,q2,q3,i1,i2,i3⟩:=RA HC.o HR.o k aB;obtain⟨cur,fz,p1,p2,p3,_,p5⟩:=cA.row;have IL:=cA.fit.1;have d0:wr.cell? ⟨g,k * 3,none⟩=some va:=by rw[ab p1,p5 _ (by omega) (by omega),q1]
   have d1:wr.cell? ⟨g,k * 3+1,none⟩=some vb:=by rw[ab p1,p5 _ (by omega) (by omega),q2]
   have d2:wr.cell? ⟨g,k * 3+2,none⟩=some vd:=by rw[ab p1,p5 _ (by omega) (by omega),q3]
   have I1:=aa i1;have I2:=aa i2;have I3:=aa i3;obtain⟨pa,ca,rfl,_⟩:=i1.at;obtain⟨pb,cb,rfl,_⟩:=i2.at;obtain⟨pd,cd,rfl,_⟩:=i3.at;have nX:=aa (dL.o _ (List.getElem_mem aB));have II:=aa (fun (W:World) (h:CaseRow w.heap.size g cap raw p.t.cases k W) (a b d:Value)=>h.put aB (a:=a) (b:=b) (d:=d));have XI:=aC p1;clear q1 q2 q3 i1 i2 i3 p1 p2 p3 p5 hA hO cA;generalize p.t.cases[k]=c at I1 I2 I3 nX II d0 d1 d2
   go_wp2_with fail
   clear d0 d1 d2;refine bF (fun W=>Below wr.heap.size wr W/\W.heap[wr.heap.size]?=some (.cells #[.slice pa c.inp.length ca,.slice pb c.out.length cb,.slice pd c.calm.length cd] 135)) ⟨by go_grown,ap _ _⟩ (fun W4 hW4=>?_);obtain⟨bO,hx4⟩:=hW4;have kK:=aa hx4;have TG:=aa (af bO HA.o);have vj:=aA.size;have Uq:=aC HA.o;have Xi:=aC HO.o;clear hx4
   refine ge 14 [22,23,24,25,26,27,28,29,30,31,32,33,34,35] [MP.eq (.pointer (some ⟨w.heap.size,0,none⟩)),
    MP.eq (.pointer (some ⟨w.heap.size,3,none⟩)),
    MP.eq (.slice (some ⟨g,0,none⟩) p.t.cases.length cap),
    MP.eq (.int .i64 k),
    MP.eq (.pointer (some ⟨wr.heap.size,0,none⟩)),
    MP.eq (.slice pa c.inp.length ca),
    VP w.heap.size c.inp,
    MP.eq (.pointer (some ⟨wr.heap.size,1,none⟩)),
    MP.eq (.slice pb c.out.length cb),
    O7 w.heap.size c.out,
    MP.eq (.pointer (some ⟨wr.heap.size,2,none⟩)),
    MP.eq (.slice pd c.calm.length cd),
    O7 w.heap.size c.calm,
    O8 w.heap.size c] (by kernel_rfl) (by simp) (by decide) rfl (by kernel_rfl) (by kernel_rfl) (by kernel_rfl) ?step ?tail
   case step=>
    intro x W i o s F hi ho hs hB ar hF;have fK:i=0\/i=1\/i=2\/i=3\/i=4\/i=5\/i=6\/i=7\/i=8\/i=9\/i=10\/i=11\/i=12\/i=13:=by omega
    rcases fK with rfl|rfl|rfl|rfl|rfl|rfl|rfl|rfl|rfl|rfl|rfl|rfl|rfl|rfl
    all_goals (obtain rfl:=dE ho.symm;obtain rfl:=dE hs.symm;simp only[bC,da,List.setIfInBounds_toArray,List.set_cons_succ,List.set_cons_zero,Nat.reduceAdd]at hF)
    ·clear ar hi ho hs;subst hF
     go_wp2_with fail
     exact kP _ (Below.refl _ _) rfl
    ·have d0:=ph (ar ⟨0,.data⟩ (by simp) rfl);clear ar hi ho hs;simp only[d0]at hF;subst hF
     go_wp2_with fail
     exact kP _ (Below.refl _ _) rfl
    ·have d1:=ph (ar ⟨1,.data⟩ (by simp) rfl);clear ar hi ho hs;have t1:=ab (af hB TG.o) 3;simp at t1;simp only[d1]at hF;subst hF
     go_wp2_with fail
     exact kP _ (Below.refl _ _) rfl
    ·clear ar hi ho hs;subst hF
     go_wp2_with fail
     exact kP _ (Below.refl _ _) rfl
    ·clear ar hi ho hs;subst hF
     go_wp2_with fail
     exact kP _ (Below.refl _ _) rfl
    ·have d4:=ph (ar ⟨4,.data⟩ (by simp) rfl);clear ar hi ho hs;have t1:=ab (af hB kK.o) 0;simp at t1;simp only[d4]at hF;subst hF
     go_wp2_with fail
     exact kP _ (Below.refl _ _) rfl
    ·have d5:=ph (ar ⟨5,.data⟩ (by simp) rfl);clear ar hi ho hs;simp only[d5]at hF;subst hF
     go_wp2_with fail
     refine(uH _ c.inp W (I1.o.up up_int (Below.trans3 aA bO hB)) (by have:=nX.o.inp;omega)).mono ?_;rintro e w9 ⟨u9,rfl,jy,fi⟩;have nr:=aa (jy.base (show w.heap.size<=W.heap.size by have:=hB.size;have:=bO.size;omega));clear jy
     go_wp2_with fail
     exact kP _ fi nr.o
    ·clear ar hi ho hs;subst hF
     go_wp2_with fail
     exact kP _ (Below.refl _ _) rfl
    ·have d7:=ph (ar ⟨7,.data⟩ (by simp) rfl);clear ar hi ho hs;have t1:=ab (af hB kK.o) 1;simp at t1;simp only[d7]at hF;subst hF
     go_wp2_with fail
     exact kP _ (Below.refl _ _) rfl
    ·have d8:=ph (ar ⟨8,.data⟩ (by simp) rfl);clear ar hi ho hs;simp only[d8]at hF;subst hF
     go_wp2_with fail
     refine(sH _ c.out W (I2.o.up up_ints (Below.trans3 aA bO hB)) (by have:=nX.o.out2;have:=nX.o.calm;omega) (fun x hx=>by have:=nX.o.outs x hx;omega)).mono ?_;rintro e w9 ⟨u9,rfl,jy,fi⟩;have nr:=aa (cB.lower9 jy (show w.heap.size<=W.heap.size by have:=hB.size;have:=bO.size;omega));clear jy
     go_wp2_with fail
     exact kP _ fi nr.o
    ·clear ar hi ho hs;subst hF
     go_wp2_with fail
     exact kP _ (Below.refl _ _) rfl
    ·have d10:=ph (ar ⟨10,.data⟩ (by simp) rfl);clear ar hi ho hs;have t1:=ab (af hB kK.o) 2;simp at t1;simp only[d10]at hF;subst hF
     go_wp2_with fail
     exact kP _ (Below.refl _ _) rfl
    ·have d11:=ph (ar ⟨11,.data⟩ (by simp) rfl);clear ar hi ho hs;simp only[d11]at hF;subst hF
     go_wp2_with fail
     refine(sH _ c.calm W (I3.o.up up_ints (Below.trans3 aA bO hB)) (by have:=nX.o.out2;have:=nX.o.calm;omega) (fun x hx=>by have:=nX.o.outs x (nX.o.calms x hx);omega)).mono ?_;rintro e w9 ⟨u9,rfl,jy,fi⟩;have nr:=aa (cB.lower9 jy (show w.heap.size<=W.heap.size by have:=hB.size;have:=bO.size;omega));clear jy
     go_wp2_with fail
     exact kP _ fi nr.o
    ·have d6:=ar ⟨6,.data⟩ (by simp) rfl;have d9:=ar ⟨9,.data⟩ (by simp) rfl;have d12:=ar ⟨12,.data⟩ (by simp) rfl;clear ar hi ho hs;obtain⟨a6,c6,e6⟩:=aJ.slice d6;obtain⟨a9,c9,e9⟩:=cB.slice d9;obtain⟨a12,c12,e12⟩:=cB.slice d12;rw[e6]at d6;rw[e9]at d9;rw[e12]at d12;have HD6:=aa (show aJ W w.heap.size 3 1 (.slice a6 c.inp.length c6) c.inp.length (c.inp.map (Value.int .i64)) from d6);have P0:=aa (show cT W w.heap.size (.slice a9 c.out.length c9) c.out from d9);have HD12:=aa (show cT W w.heap.size (.slice a12 c.calm.length c12) c.calm from d12);clear d6 d9 d12;simp only[e6,e9,e12]at hF;subst hF
     go_wp2_with fail
     refine bA.mk (.agg #[.slice a6 c.inp.length c6,.slice a9 c.out.length c9,.slice a12 c.calm.length c12]) ?_ ?_ ?_
     ·exact(Below.refl _ _)
     ·exact O9 HD6.o P0.o HD12.o
     ·first
      | rfl
      | simp only[List.setIfInBounds_toArray,List.set_cons_succ,List.set_cons_zero]
   case tail=>
    intro x W3 F hB aT hF;have d2:x 2=.slice (some ⟨g,0,none⟩) p.t.cases.length cap:=aT 2 (by omega);have d3:x 3=.int .i64 k:=aT 3 (by omega);have d13:=aT 13 (by omega);obtain⟨ya,yb,yd,e13,h2,h3,h4⟩:∃ a b d,x 13=.agg #[a,b,d]/\aJ W3 w.heap.size 3 1 a c.inp.length (c.inp.map (Value.int .i64))/\cT W3 w.heap.size b c.out/\cT W3 w.heap.size d c.calm:=d13;clear aT;simp only[bC,da,List.setIfInBounds_toArray,List.set_cons_succ,List.set_cons_zero,Nat.reduceAdd]at hF;obtain⟨y1,z1,rfl⟩:=h2.slice;obtain⟨y2,z2,rfl⟩:=h3.slice;obtain⟨y3,z3,rfl⟩:=h4.slice;rw[d2,d3,e13]at hF;generalize x 0=s0,x 1=s1,x 4=s4,x 5=s5,x 6=s6,x 7=s7,x 8=s8,x 9=s9,x 10=s10,x 11=s11,x 12=s12 at hF;subst hF;have zF:=zD.o.up (ae bO hB);have zH:=aa zF;have H2:=aa h2;have H3:=aa h3;have H4:=aa h4;obtain⟨cur3,fz3,q1,q2,q3,_,q5⟩:=zF.row;have c0:∃ u,W3.cell? ⟨g,k * 3,none⟩=some u:=⟨cur3[k * 3]'(by omega),by rw[ab q1];exact Array.getElem?_eq_getElem _⟩;have c1:∃ u,W3.cell? ⟨g,k * 3+1,none⟩=some u:=⟨cur3[k * 3+1]'(by omega),by rw[ab q1];exact Array.getElem?_eq_getElem _⟩;have c2:∃ u,W3.cell? ⟨g,k * 3+2,none⟩=some u:=⟨cur3[k * 3+2]'(by omega),by rw[ab q1];exact Array.getElem?_eq_getElem _⟩;obtain⟨o0,c0⟩:=c0;obtain⟨o1,c1⟩:=c1;obtain⟨o2,c2⟩:=c2;have f0:=rj q1 q2 (k * 3) (by omega);have f1:=rj q1 q2 (k * 3+1) (by omega);have f2:=rj q1 q2 (k * 3+2) (by omega);have AL:=af (ae bO hB) HA.o;have AW:=af (ae bO hB) HO.o;have AC:w.heap.size≠g:=mI AL q1 (by decide);have oL:w.heap.size+1≠g:=mI AW q1 (by decide);have Wt:=aa AL;have XF:=aa AW;have kL:=aa (Below.trans3 aA bO hB);have xh:=zH.o.lo;clear d2 d3 e13 h2 h3 h4 zF q1 q2 q3 q5 AL AW hB
    simp only[List.drop_succ_cons,List.drop_zero]
    go_wp2_with fail
    go_roundw
    ·exact⟨k+1,by omega,by go_num,((kL.o.setCell xh _).setCell xh _).setCell xh _,aO (aO (aO Wt.o AC _ _) AC _ _) AC _ _,aO (aO (aO XF.o oL _ _) oL _ _) oL _ _,II.o _ zH.o _ _ _ H2.o H3.o H4.o⟩
    ·simp[intOf];omega
  ·obtain rfl:k=p.t.cases.length:=by omega
   obtain⟨wrA,BB⟩:∃ x,x=wr:=⟨_,rfl⟩;subst BB;have t1:=ab hA;have z1:=fun o=>aH hA o
   have vj:=aA.size;have Uq:=aC hA;have Xi:=aC hO;clear hA hO cA
   go_wp2_with fail
   refine(Cb _ p.a.states.length raw2 wrA ?_ (by omega)).mono ?_
   ·obtain⟨q,cap,e,h1,h2,h3,h4⟩:=eJ.o;exact⟨q,cap,e,h1,h2,fun j u hj=>by obtain⟨b,o,e1,e2⟩:=h3 j u hj;exact⟨b,o,e1,ak aA e2⟩,h4⟩
   rintro e w3 ⟨u,rfl,hu,bG⟩
   have cA:∃ g2 cap2,u=.slice (some ⟨g2,0,none⟩) p.a.states.length cap2/\StateRow w.heap.size g2 cap2 raw2 p.a.states 0 w3:=by
    rcases hu.2 with ⟨_,h0⟩|⟨g2,cap2,cur,fz,rfl,h1,h2,h3,h4,h5,h6,h7⟩
    ·omega
    ·refine⟨g2,cap2,rfl,by omega,⟨h4,h5⟩,cur,fz,h2,h3,by omega,fun i hi hk=>by omega,fun j _ hj=>?_⟩;rw[<-h7,List.getElem?_take_of_lt (by omega)];simp
   obtain⟨g2,cap2,rfl,cA⟩:=cA;clear t1 z1;have Tq:=af bG HA.o;have t1:=ab Tq;have z1:=fun o=>aH Tq o
   have uq:=ae aA bG;have C7:=aa cA;have FU:=aa Tq;have lM:=aa (af bG HO.o);have zH:=aa (zD.o.up bG);clear hu cA Tq
   go_wp2_with fail
   clear t1 z1;refine bF (fun W=>Below w.heap.size w W/\W.heap[w.heap.size]?=some (.cells #[.int .i64 p.t.n,.int .i64 p.t.ins,.int .i64 p.t.outs,.slice (some ⟨g,0,none⟩) p.t.cases.length cap,.int .i64 p.a.n,.slice (some ⟨g2,0,none⟩) p.a.states.length cap2,.int .i64 p.rounds] 29)/\W.heap[w.heap.size+1]?=some (.cells zPb 29)/\CaseRow w.heap.size g cap raw p.t.cases p.t.cases.length W/\StateRow w.heap.size g2 cap2 raw2 p.a.states 0 W) ?_ (fun W5 hW5=>?_)
   ·have zb:=KeepT.set (o:=5) (KeepT.refl (ms:=[]) [29] w.heap.size w3) FU.o (by simp) (Nat.le_refl _) (.slice (some ⟨g2,0,none⟩) p.a.states.length cap2);exact⟨uq.setCell (Nat.le_refl _) _,by rw[aI FU.o];rfl,aO lM.o (by omega) _ _,zH.o.keep zb (by decide) (by decide) (by decide),C7.o.keep zb (by decide) (by decide)⟩
   obtain⟨dB,AL,AW,hrow5,hst5⟩:=hW5
   go_loopw [48] (fun i wr=>∃ k:Nat,k<=p.a.states.length/\i=.int .i64 k/\Below w.heap.size w wr/\wr.heap[w.heap.size]?=some (.cells #[.int .i64 p.t.n,.int .i64 p.t.ins,.int .i64 p.t.outs,.slice (some ⟨g,0,none⟩) p.t.cases.length cap,.int .i64 p.a.n,.slice (some ⟨g2,0,none⟩) p.a.states.length cap2,.int .i64 p.rounds] 29)/\wr.heap[w.heap.size+1]?=some (.cells zPb 29)/\CaseRow w.heap.size g cap raw p.t.cases p.t.cases.length wr/\StateRow w.heap.size g2 cap2 raw2 p.a.states k wr) (fun i _=>p.a.states.length - (intOf i).toNat)
   ·exact⟨0,by omega,rfl,dB,AL,AW,hrow5,hst5⟩
   ·
    clear dB AL AW hrow5 hst5;obtain⟨k,hk,rfl,aA,hA,hO,cA,dS⟩:=hrel;have HA:=aa hA;have HO:=aa hO;have HROW6:=aa cA;have HST6:=aa dS;by_cases aB:k<p.a.states.length
    ·obtain⟨va,q1,i1⟩:=O6 HS.o eJ.o k aB;obtain⟨cur,fz,p1,p2,p3,_,p5⟩:=dS.row;have IL:=dS.fit.1;have d0:wr.cell? ⟨g2,k,none⟩=some va:=by rw[ab p1,p5 _ (by omega) (by omega),q1]
     have I1:=aa i1;obtain⟨pa,ca,rfl,_⟩:=i1.at;have II:=aa (fun (W:World) (h:StateRow w.heap.size g2 cap2 raw2 p.a.states k W) (a:Value)=>h.put aB (a:=a));have qq:am (p.a.states[k].length<=1048576):=aa (by have:=If p.a.states k aB;omega);have XI:=aC p1;clear q1 i1 p1 p2 p3 p5 hA hO cA dS;generalize p.a.states[k]=c at I1 II qq d0;have vj:=aA.size;have Uq:=aC HA.o
     go_wp2_with fail
     clear d0
     refine ge 6 [53,54,55,56,57,58] [MP.eq (.pointer (some ⟨w.heap.size,4,none⟩)),
      MP.eq (.pointer (some ⟨w.heap.size,5,none⟩)),
      MP.eq (.slice (some ⟨g2,0,none⟩) p.a.states.length cap2),
      MP.eq (.int .i64 k),
      MP.eq (.slice pa c.length ca),
      U2 w.heap.size c] (by kernel_rfl) (by simp) (by decide) rfl (by kernel_rfl) (by kernel_rfl) (by kernel_rfl) ?step ?tail
     case step=>
      intro x W i o s F hi ho hs hB ar hF;have fK:i=0\/i=1\/i=2\/i=3\/i=4\/i=5:=by omega
      rcases fK with rfl|rfl|rfl|rfl|rfl|rfl
      all_goals (obtain rfl:=dE ho.symm;obtain rfl:=dE hs.symm;simp only[bC,da,List.setIfInBounds_toArray,List.set_cons_succ,List.set_cons_zero,Nat.reduceAdd]at hF)
      ·clear ar hi ho hs;subst hF
       go_wp2_with fail
       exact kP _ (Below.refl _ _) rfl
      ·have d0:=ph (ar ⟨0,.data⟩ (by simp) rfl);clear ar hi ho hs;simp only[d0]at hF;subst hF
       go_wp2_with fail
       exact kP _ (Below.refl _ _) rfl
      ·have d1:=ph (ar ⟨1,.data⟩ (by simp) rfl);clear ar hi ho hs;have t1:=ab (af hB HA.o) 5;simp at t1;simp only[d1]at hF;subst hF
       go_wp2_with fail
       exact kP _ (Below.refl _ _) rfl
      ·clear ar hi ho hs;subst hF
       go_wp2_with fail
       exact kP _ (Below.refl _ _) rfl
      ·clear ar hi ho hs;subst hF
       go_wp2_with fail
       exact kP _ (Below.refl _ _) rfl
      ·have d4:=ph (ar ⟨4,.data⟩ (by simp) rfl);clear ar hi ho hs;simp only[d4]at hF;subst hF
       go_wp2_with fail
       refine(DV _ c.length (fF c) W (O4 (I1.o.up up_move (ae aA hB))) qq.o).mono ?_;rintro e w9 ⟨u9,rfl,jy,fi⟩;have nr:=aa (jy.base (show w.heap.size<=W.heap.size by have:=hB.size;omega));clear jy
       go_wp2_with fail
       exact kP _ fi nr.o
     case tail=>
      intro x W3 F hB aT hF;have d2:x 2=.slice (some ⟨g2,0,none⟩) p.a.states.length cap2:=aT 2 (by omega);have d3:x 3=.int .i64 k:=aT 3 (by omega);have h2:aJ W3 w.heap.size 143 8 (x 5) c.length (fF c):=aT 5 (by omega);clear aT;simp only[bC,da,List.setIfInBounds_toArray,List.set_cons_succ,List.set_cons_zero,Nat.reduceAdd]at hF;obtain⟨y1,z1,e5⟩:=h2.slice;rw[d2,d3,e5]at hF;rw[e5]at h2;generalize x 0=s0,x 1=s1,x 4=s4 at hF;subst hF;have So:=HST6.o.up hB;have HST3:=aa So;have zH:=aa (HROW6.o.up hB);have H2:=aa h2;obtain⟨cur3,fz3,q1,q2,q3,_,q5⟩:=So.row;have c0:∃ u,W3.cell? ⟨g2,k,none⟩=some u:=⟨cur3[k]'(by omega),by rw[ab q1];exact Array.getElem?_eq_getElem _⟩;obtain⟨o0,c0⟩:=c0;have f0:=rj q1 q2 k (by omega);have AL:=af hB HA.o;have AW:=af hB HO.o;have AC:w.heap.size≠g2:=mI AL q1 (by decide);have oL:w.heap.size+1≠g2:=mI AW q1 (by decide);have Wt:=aa AL;have XF:=aa AW;have kL:=aa (ae aA hB);have xh:=HST3.o.lo;have Dg:=aa q1;clear d2 d3 e5 h2 So q1 q2 q3 q5 AL AW hB;simp only[List.drop_succ_cons,List.drop_zero]
      go_wp2_with fail
      go_roundw
      ·exact⟨k+1,by omega,by go_num,kL.o.setCell xh _,aO Wt.o AC _ _,aO XF.o oL _ _,zH.o.keep (KeepT.set (KeepT.refl (ms:=[]) [136] w.heap.size W3) Dg.o (by simp) xh _) (by decide) (by decide) (by decide),II.o _ HST3.o _ H2.o⟩
      ·simp[intOf];omega
    ·obtain rfl:k=p.a.states.length:=by omega
     have tA:=ab hA;have tO:=ab hO;have zO:=fun o=>aH hO o
     have vj:=aA.size;have Uq:=aC HA.o;clear hA hO cA dS
     go_wp2_with fail
     have e0:=aI HO.o 0 (.int .i64 p.t.n);have e1:=aI e0 1 (.int .i64 p.t.ins);have e2:=aI e1 2 (.int .i64 p.t.outs);have e3:=aI e2 3 (.slice (some ⟨g,0,none⟩) p.t.cases.length cap);have e4:=aI e3 4 (.int .i64 p.a.n);have e5:=aI e4 5 (.slice (some ⟨g2,0,none⟩) p.a.states.length cap2);have e6:=aI e5 6 (.int .i64 p.rounds);have tP:w.heap.size<=w.heap.size+1:=by omega
     have zb:=((((((((KeepT.refl (ms:=[]) [29] w.heap.size wr).set (o:=0) HO.o (by simp) tP (.int .i64 p.t.n)).set (o:=1) e0 (by simp) tP (.int .i64 p.t.ins)).set (o:=2) e1 (by simp) tP (.int .i64 p.t.outs)).set (o:=3) e2 (by simp) tP (.slice (some ⟨g,0,none⟩) p.t.cases.length cap)).set (o:=4) e3 (by simp) tP (.int .i64 p.a.n)).set (o:=5) e4 (by simp) tP (.slice (some ⟨g2,0,none⟩) p.a.states.length cap2)).set (o:=6) e5 (by simp) tP (.int .i64 p.rounds));have Dd:=((((((aA.setCell tP (p:=⟨w.heap.size+1,0,none⟩) (.int .i64 p.t.n)).setCell tP (p:=⟨w.heap.size+1,1,none⟩) (.int .i64 p.t.ins)).setCell tP (p:=⟨w.heap.size+1,2,none⟩) (.int .i64 p.t.outs)).setCell tP (p:=⟨w.heap.size+1,3,none⟩) (.slice (some ⟨g,0,none⟩) p.t.cases.length cap)).setCell tP (p:=⟨w.heap.size+1,4,none⟩) (.int .i64 p.a.n)).setCell tP (p:=⟨w.heap.size+1,5,none⟩) (.slice (some ⟨g2,0,none⟩) p.a.states.length cap2)).setCell tP (p:=⟨w.heap.size+1,6,none⟩) (.int .i64 p.rounds);have t7:=ab e6;refine bodyPost_ret (v:=nJ p (.slice (some ⟨g,0,none⟩) p.t.cases.length cap) (.slice (some ⟨g2,0,none⟩) p.a.states.length cap2)) (by simp[results,Tryz.results163,go_sem,t7]) rfl ⟨_,_,rfl,fun W' TI=>⟨?_,?_⟩,Dd⟩
     ·exact((HROW6.o.keep zb (by decide) (by decide) (by decide)).from TI).done (Nat.le_refl _) ht (wj HC.o)
     ·exact((HST6.o.keep zb (by decide) (by decide)).from TI).done (Nat.le_refl _) gV (fun x hx=>by obtain⟨i,hi,rfl⟩:=List.getElem_of_mem hx;have:=If p.a.states i hi;omega) (Mq HS.o)
theorem uh(n:Nat):∀ c,jn c n=(List.range (c * n)).map fun i=>(i / n,i % n)
 | 0=>by simp[jn]
 | c+1=>by
  have ih:=uh n c;unfold jn at ih ⊢;rw[List.range_succ,List.flatMap_append,ih,Nat.succ_mul,List.range_add,List.map_append,List.map_map];congr 1;simp only[List.flatMap_cons,List.flatMap_nil,List.append_nil];refine List.map_congr_left fun j hj=>?_
  have hj:=List.mem_range.1 hj;simp only[Function.comp];rw[show c * n+j=n * c+j by rw[Nat.mul_comm],Nat.mul_add_div (by omega),Nat.div_eq_of_lt hj,Nat.mul_add_mod,Nat.mod_eq_of_lt hj,Nat.add_zero]
theorem U3{α:Type} {k:Nat} {R:World->Nat->Nat->α->Prop} {w:World} {v:Value} {l:List (List α)} (h:fe 1 (mC k R) w v l):∃ ws:List Value,ws.length=l.length/\∃ a cap,v=.slice a l.length cap/\∀ i (hi:i<l.length),∃ b o,a=some ⟨b,o,none⟩/\w.cell? ⟨b,o+i,none⟩=some (ws.getD i undef)/\fe k R w (ws.getD i undef) l[i]:=by
 obtain⟨a,cap,rfl,h1,h2,h3⟩:=h
 have key:∀ i:Fin l.length,∃ x:Value,∃ b off,a=some ⟨b,off,none⟩/\w.cell? ⟨b,off+i.1,none⟩=some x/\fe k R w x l[i.1]:=fun i=>by
  obtain⟨b,off,ha,x,hx,hs⟩:=h3 i.1 _ (List.getElem?_eq_getElem i.2);exact⟨x,b,off,ha,by rwa [Nat.mul_one]at hx,hs⟩
 refine⟨List.ofFn fun i=>Classical.choose (key i),by simp,a,cap,rfl,fun i hi=>?_⟩
 have e:(List.ofFn fun i=>Classical.choose (key i)).getD i undef=Classical.choose (key ⟨i,hi⟩):=by
  rw[List.getD_eq_getElem?_getD,List.getElem?_ofFn];simp[hi]
 rw[e];exact Classical.choose_spec (key ⟨i,hi⟩)
theorem DX(p:Pb) (pc:Option Addr) (nc cc:Nat) (ps:Option Addr) (ns cs:Nat) (pw:Option Addr) (nw cw:Nat) (w:World) :
  Calls Tryz.prog 164 #[nJ p (.slice pc nc cc) (.slice ps ns cs),.slice pw nw cw] w fun e w'=>e=.returned (.func (.func 199) #[] #[.pointer (some ⟨w.heap.size,0,none⟩),.pointer (some ⟨w.heap.size+1,0,none⟩)]) ∧
   w'=(w.alloc (.cells #[.int .i64 p.t.n,.int .i64 p.t.ins,.int .i64 p.t.outs,.slice pc nc cc,.int .i64 p.a.n,.slice ps ns cs,.int .i64 p.rounds] 29)).alloc (.cells #[.slice pw nw cw] 221):=by
 go_enter Tryz.func164,Tryz.ntmps164
 go_wp2
 go_ret
 exact⟨rfl,rfl⟩
def RB(n:Nat) (ws:List Value) (i:Nat):Array Value:=#[.int .i64 ((i / n:Nat):Int),ws.getD (i % n) undef]
theorem Cc(wd:World) (C n:Nat) (pw:Option Addr) (cw:Nat) (ws:List Value) (hn:n<=1048576) (hC:C<=1048576) (hws:∀ j,j<n->∃ b o,pw=some ⟨b,o,none⟩/\b<wd.heap.size/\wd.cell? ⟨b,o+j,none⟩=some (ws.getD j undef)/\∃ a m c,ws.getD j undef=.slice a m c) (hcw:n<=cw/\cw<=9223372036854775807)
  (w:World) (hb:Below wd.heap.size wd w) (Bp Bw:Nat) (x0 x1 x2 x4 x5 x6:Value) (pc:Option Addr) (cc:Nat) (hp:w.heap[Bp]?=some (.cells #[x0,x1,x2,.slice pc C cc,x4,x5,x6] 29)) (hw:w.heap[Bw]?=some (.cells #[.slice pw n cw] 221)) :
  sg Tryz.prog 199 #[.pointer (some ⟨Bp,0,none⟩),.pointer (some ⟨Bw,0,none⟩)] (RB n ws) (C * n) (fun k=>k=Bw\/∃ ad,pw=some ad/\k=ad.block) w:=by
 intro yl J Jx W hW hJ oB hY h0;have sR:=ab (af hW hp) 3;simp at sR;have jB:=af hW hw;have eX:∀ ad,pw=some ad->ad.block<wd.heap.size->W.heap[ad.block]?=wd.heap[ad.block]?:=fun ad _ hk=>(hW.block _ (Nat.lt_of_lt_of_le hk hb.size)).trans (hb.block _ hk)
 clear hW hb hp hw;have Lt:=aa hws;clear hws;have HJ:=aa hJ;clear hJ;have Jw:=aa oB;clear oB;have HY:=aa hY;clear hY;refine(callsIn_wide (n:=0)).1 ?_;refine callsIn_of_wp Tryz.func199 rfl trivial ?_ rfl;simp only[Tryz.ntmps199,List.size_toArray,List.length_cons,List.length_nil,Nat.reduceAdd,Nat.reduceSub,Array.replicate_succ,Array.replicate_zero,List.push_toArray,List.append_toArray,List.nil_append,List.cons_append]
 gi_wp2
 clear sR
 gi_loopw [11] (fun i wr=>∃ s:Nat,s<=C/\i=.int .i64 s/\(∀ ad,pw=some ad->ad.block<wd.heap.size->wr.heap[ad.block]?=wd.heap[ad.block]?)/\wr.heap[Bw]?=some (.cells #[.slice pw n cw] 221)/\J (s * n) wr) (fun i _=>C - (intOf i).toNat)
 ·exact⟨0,by omega,rfl,eX,jB,by rw[Nat.zero_mul];exact h0⟩
 ·
  obtain⟨s,hs,rfl,fS,kJ,hj⟩:=hrel;have j8:=aa fS;clear fS;have jg:=aa hj;clear hj;have Cz:=aa kJ;by_cases aB:s<C
  ·have tw:=ab kJ 0;simp at tw;clear kJ
   gi_wp2
   clear tw;obtain⟨W0,bd⟩:∃ W0:World,W0=wr:=⟨_,rfl⟩;rw[<-bd]at j8 jg Cz ⊢;clear bd wr
   gi_loopw [16] (fun i wr=>∃ j:Nat,j<=n/\i=.int .i64 j/\(∀ ad,pw=some ad->ad.block<wd.heap.size->wr.heap[ad.block]?=wd.heap[ad.block]?)/\wr.heap[Bw]?=some (.cells #[.slice pw n cw] 221)/\J (s * n+j) wr) (fun i _=>n - (intOf i).toNat)
   ·exact⟨0,by omega,rfl,j8.o,Cz.o,jg.o⟩
   ·
    obtain⟨j,hj,rfl,fS,kJ,yO⟩:=hrel;have oC:=aa fS;clear fS;have Jt:=aa yO;clear yO;have HWR2:=aa kJ;clear kJ;by_cases Ll:j<n
    ·obtain⟨b2,o2,rfl,Wv,c0,a9,m9,c9,e9⟩:=Lt.o j Ll
     have d0:wr.cell? ⟨b2,o2+j,none⟩=some (ws.getD j undef):=by
      rw[<-c0];simp only[World.cell?,oC.o _ rfl Wv]
     have k8:s * n+j<C * n:=by
      have h1:(s+1) * n<=C * n:=Nat.mul_le_mul_right _ aB;rw[Nat.succ_mul]at h1;omega
     have hdiv:(s * n+j) / n=s:=by rw[Nat.mul_comm,Nat.mul_add_div (by omega),Nat.div_eq_of_lt Ll,Nat.add_zero]
     have hmod:(s * n+j) % n=j:=by rw[Nat.mul_comm,Nat.mul_add_mod,Nat.mod_eq_of_lt Ll]
     obtain⟨fn,tmps,assign,body,hy,hR⟩:=HY.o (s * n+j) wr k8 Jt.o;unfold RB at hy;rw[hdiv,hmod,e9]at hy;rw[e9]at d0;have HR:=aa hR;clear hR hdiv hmod c0 e9;have Ay:=aa k8;clear k8
     gi_wp2
     refine⟨rfl,HR.o.mono ?_⟩;rintro e W3 (⟨rfl,Dl,CM,im⟩|⟨rfl,rS⟩)
     ·gi_wp2
      go_roundw
      ·exact⟨j+1,by omega,by go_num,fun ad e1 e2=>(im _ (.inr ⟨ad,e1,rfl⟩)).trans (oC.o ad e1 e2),(im Bw (.inl rfl)).trans HWR2.o,Dl⟩
      ·simp[intOf];omega
     ·gi_wp2
      refine bodyPost_ret (results_none rfl _ _ _) rfl ?_;exact⟨⟨_,rfl⟩,.inr ⟨_,Ay.o,rS⟩⟩
    ·gi_wp2
     go_roundw
     ·
      refine⟨s+1,by omega,by go_num,oC.o,HWR2.o,?_⟩;have e:n=j:=by omega
      rw[Nat.succ_mul];have h9:=Jt.o;rw[<-e]at h9;exact h9
     ·simp[intOf];omega
  ·obtain rfl:s=C:=by omega
   gi_wp2
   go_end0
   exact⟨⟨_,rfl⟩,.inl jg.o⟩
theorem rk{k:IntKind} {a b:Int} (h:a=b):Value.int k a=Value.int k b:=by rw[h]
theorem Ig{k:Nat} (hk:k<=30):wrap64 ((2:Int) ^ k)=((2 ^ k:Nat):Int):=by
 have h1:(2:Int) ^ k=((2 ^ k:Nat):Int):=by simp
 have h2:(2:Nat) ^ k<=2 ^ 30:=Nat.pow_le_pow_right (by omega) hk;rw[h1];generalize (2:Nat) ^ k=x at h2;unfold wrap64;omega
theorem Kd{q:Nat->Bool} {k:Nat} (hk:k<=30) (h:q k=true):bits .or .i64 ((maskN q k:Nat):Int) (wrap64 ((2:Int) ^ k))=(maskN q (k+1):Nat):=by
 have h2:(2:Nat) ^ k<=2 ^ 30:=Nat.pow_le_pow_right (by omega) hk;have h3:=ic q k;rw[Ig hk,vP _ _ (by omega) (by omega),xI h]
theorem Bd(s:Sys):(rD s).length=eS s:=by simp[rD]
theorem lJ(s:Sys) (e:Nat):(fr s e).length=nS s:=by simp[fr]
theorem U4(s:Sys) (e:Nat) (h:e<(rD s).length):(rD s)[e]=fr s e:=by simp[rD]
theorem O'(s:Sys) (e p:Nat) (h:p<(fr s e).length):(fr s e)[p]=if hasB (fltS s e) p then -1 else finS s e p:=by simp[fr]
theorem lK{s:Sys} (h:SysOk s) {e p:Nat} (he:e<eS s) (hp:p<nS s):0<=finS s e p/\finS s e p<s.tab.length:=by
 obtain⟨h1,h2⟩:=h.views e he;have hr:s.prob.rounds.toNat<(cM s e).views.length:=by omega
 have h3:=h2 ((cM s e).views[s.prob.rounds.toNat]) (List.getElem_mem hr);have e1:(cM s e).views.getD s.prob.rounds.toNat []=(cM s e).views[s.prob.rounds.toNat]:=by simp[hr]
 have QF:p<((cM s e).views[s.prob.rounds.toNat]).length:=by omega
 unfold finS;rw[e1,show ((cM s e).views[s.prob.rounds.toNat]).getD p 0=((cM s e).views[s.prob.rounds.toNat])[p] by simp[QF]];exact h3.2 _ (List.getElem_mem QF)
theorem Be{s:Sys} (h:SysOk s) {e f p:Nat} (he:e<eS s) (hf:f<eS s) (hp:p<nS s) (x y:Int) (hx:x=if hasB (fltS s e) p then -1 else finS s e p) (hy:y=if hasB (fltS s f) p then -1 else finS s f p):linkB s p e f=(decide (0<=x)&&decide (x=y)):=by
 have h1:=(lK h he hp).1;have h2:=(lK h hf hp).1;unfold linkB;subst hx hy;cases hasB (fltS s e) p<;>cases hasB (fltS s f) p<;>simp<;>omega
theorem FinAt.open{w:World} {B:Nat} {s:Sys} (h:FinAt w B s):∃ pl cl,w.heap[B]?=some (.cells #[.int .i64 (nS s),.slice pl (eS s) cl] 201)/\∀ e,e<eS s->∃ b o,pl=some ⟨b,o,none⟩/\∃ pr cr,w.cell? ⟨b,o+e,none⟩=some (.slice pr (nS s) cr)/\aX w (.slice pr (nS s) cr) (fr s e):=by
 obtain⟨vl,h1,h2⟩:=h.ex;obtain⟨pl,cl,rfl,_,_,ep⟩:=h2.at;rw[Bd]at h1;refine⟨pl,cl,h1,fun e he=>?_⟩;obtain⟨b,o,e1,v,hc,hv⟩:=ep e (by rw[Bd];exact he);rw[Nat.mul_one]at hc;rw[U4]at hv;obtain⟨pr,cr,rfl,_⟩:=hv.at;rw[lJ]at hc hv;exact⟨b,o,e1,pr,cr,hc,hv⟩
theorem VQ{w:World} {s:Sys} {e p:Nat} {pr:Option Addr} {cr:Nat} (h:aX w (.slice pr (nS s) cr) (fr s e)) (hp:p<nS s):∃ b o,pr=some ⟨b,o,none⟩/\w.cell? ⟨b,o+p,none⟩=some (.int .i64 (if hasB (fltS s e) p then -1 else finS s e p)):=by
 obtain⟨a,c,e1,_,_,ep⟩:=h.at;obtain⟨b,o,e2,h1⟩:=ep p (by rw[lJ];exact hp);injection e1 with e3
 rw[Nat.mul_one,O']at h1;exact⟨b,o,e3.trans e2,h1.1⟩
theorem DY{w:World} {s:Sys} {n e p:Nat} {pr:Option Addr} {cr:Nat} (h:aX w (.slice pr n cr) (fr s e)) (hp:p<n):∃ b o,pr=some ⟨b,o,none⟩/\w.cell? ⟨b,o+p,none⟩=some (.int .i64 (if hasB (fltS s e) p then -1 else finS s e p)):=by
 obtain⟨a,c,e1,_⟩:=h.at;injection e1 with _ e4 _
 rw[lJ]at e4;subst e4;exact VQ h hp
theorem Cd(s:Sys) (B:Nat) (e:Int) (w:World) (h:FinAt w B s) :
  Calls Tryz.prog 145 #[.pointer (some ⟨B,0,none⟩),.int .i64 e] w fun r w'=>r=.returned (.bool (decide (0<=e)&&decide (e<(eS s:Int))))/\Below w.heap.size w w':=by
 obtain⟨pl,cl,h1,_⟩:=h.open;have t1:=ab h1;clear h1 h;by_cases he:0<=e
 ·have hd:decide ((0:Int)<=e)=true:=by simpa using he
  go_enter Tryz.func145,Tryz.ntmps145
  go_wp2_with fail
  go_ret
  exact⟨aS (by simp[he]),Below.refl _ _⟩
 ·have hd:decide ((0:Int)<=e)=false:=by simpa using he
  go_enter Tryz.func145,Tryz.ntmps145
  go_wp2_with fail
  go_ret
  exact⟨aS (by first|rfl|simp[he]),Below.refl _ _⟩
theorem Ag(s:Sys) (hs:SysOk s) (B:Nat) (e f:Nat) (he:e<eS s) (hf:f<eS s) (w:World) (h:FinAt w B s) :
  Calls Tryz.prog 146 #[.pointer (some ⟨B,0,none⟩),.int .i64 e,.int .i64 f] w fun r w'=>r=.returned (.int .i64 (maskN (fun p=>linkB s p e f) (nS s):Nat))/\w=w':=by
 obtain⟨pl,cl,h1,cA⟩:=h.open;have jz:=hs.n.2.1;obtain⟨b,o,rfl,pr,cr,c1,r1⟩:=cA e he;obtain⟨b',o',e2,ps,cs,c2,r2⟩:=cA f hf;cases e2;have R1:=aa r1;have R2:=aa r2;have HL:am (∀ p,p<nS s->linkB s p e f=(decide (0<=if hasB (fltS s e) p then -1 else finS s e p)&&decide ((if hasB (fltS s e) p then -1 else finS s e p)=if hasB (fltS s f) p then -1 else finS s f p))):=aa fun p hp=>Be hs he hf hp _ _ rfl rfl
 have t1:=ab h1;clear h1 h cA r1 r2;obtain⟨q,hq⟩:∃ q:Nat->Bool,q=fun p=>linkB s p e f:=⟨_,rfl⟩
 have HQ:am (∀ p,linkB s p e f=q p):=aa fun p=>by rw[hq]
 rw[<-hq];clear hq;generalize nS s=n at *;generalize eS s=m at *
 go_enter Tryz.func146,Tryz.ntmps146
 go_wp2_with fail
 go_loop [7,14] (fun x i=>∃ k:Nat,k<=n/\i=.int .i64 k/\x=.int .i64 (maskN q k:Nat)) (fun _ i=>n - (intOf i).toNat)
 ·exact⟨0,by omega,rfl,rfl⟩
 ·
  obtain⟨k,hk,rfl,rfl⟩:=hrel;by_cases aB:k<n
  ·obtain⟨b1,o1,rfl,d1⟩:=DY R1.o aB;obtain⟨b2,o2,rfl,d2⟩:=DY R2.o aB;have hl:=HL.o k aB;rw[HQ.o]at hl;generalize (if hasB (fltS s e) k then -1 else finS s e k)=x at d1 hl;generalize (if hasB (fltS s f) k then -1 else finS s f k)=y at d2 hl;have HM:=aa (ic q k);by_cases hx:0<=x
   ·have Uj:decide ((0:Int)<=x)=true:=decide_eq_true hx;by_cases cC:x=y
    ·subst cC;have HB:am (q k=true):=aa (by rw[hl];simp[hx]);clear hl
     go_wp2_with fail
     go_round
     ·exact⟨k+1,by omega,by go_num,rk (Kd (by omega) HB.o)⟩
     ·simp[intOf];omega
    ·have hxy':decide (x=y)=false:=decide_eq_false cC;have HB:am (q k=false):=aa (by rw[hl,hxy'];simp);clear hl
     go_wp2_with fail
     go_round
     ·exact⟨k+1,by omega,by go_num,by rw[<-vQ HB.o]⟩
     ·simp[intOf];omega
   ·have Uj:decide ((0:Int)<=x)=false:=decide_eq_false hx;have HB:am (q k=false):=aa (by rw[hl,Uj];simp);clear hl
    go_wp2_with fail
    go_round
    ·exact⟨k+1,by omega,by go_num,by rw[<-vQ HB.o]⟩
    ·simp[intOf];omega
  ·obtain rfl:k=n:=by omega
   go_wp2_with fail
   go_ret
   exact⟨rfl,rfl⟩
def iW(s:Sys) (p e:Nat):Int:=if hasB (fltS s e) p then -1 else finS s e p
theorem U5{s:Sys} (h:SysOk s) {p e:Nat} (hp:p<nS s) (he:e<eS s):-1<=iW s p e/\iW s p e<=8192:=by
 have h1:=lK h he hp;have h2:=h.tab;unfold iW;split<;>omega
theorem Pa{s:Sys} (h:SysOk s) {p:Nat} (hp:p<nS s) {k:Nat} (hk:k<eS s):(iW s p k<0->firstIx k (fun j=>linkB s p j k)=-1)/\(0<=iW s p k->firstIx k (fun j=>linkB s p j k)=firstIx k fun j=>decide (iW s p j=iW s p k)):=by
 refine⟨fun h1=>dA _ _ fun j hj=>?_,fun h1=>mq _ _ _ fun j hj=>?_⟩
 ·rw[Be h (show j<eS s by omega) hk hp (iW s p j) (iW s p k) rfl rfl];by_cases e:0<=iW s p j
  ·rw[decide_eq_false (show ¬ iW s p j=iW s p k by omega)];simp
  ·rw[decide_eq_false e];rfl
 ·rw[Be h (show j<eS s by omega) hk hp (iW s p j) (iW s p k) rfl rfl];by_cases e:iW s p j=iW s p k
  ·rw[decide_eq_true e,decide_eq_true (by omega)];rfl
  ·rw[decide_eq_false e];simp
theorem xX(s:Sys) (hs:SysOk s) (hE:eS s<=256) (B p:Nat) (hp:p<nS s) (w:World) (h:FinAt w B s) :
  Calls Tryz.prog 129 #[.pointer (some ⟨B,0,none⟩),.int .i64 p] w fun r w'=>∃ u,r=.returned u/\aX w' u (classL s p)/\Below w.heap.size w w':=by
 obtain⟨pl,cl,h1,cA⟩:=h.open;have H1:=aa h1;have ku:=aa cA;clear h1 cA h;obtain⟨i0,df,cH,cj,cI⟩:=info_parts Tryz.infoInt;obtain⟨f,hf⟩:∃ f,f=fun i=>(classL s p).getD i 0:=⟨_,rfl⟩
 obtain⟨q,hq⟩:∃ q:Nat->Nat->Bool,q=fun k i=>linkB s p k i:=⟨_,rfl⟩
 obtain⟨lc,hlc⟩:∃ lc:Nat->List Value,lc=fun k=>(List.range k).map fun i=>Value.int .i64 (f i):=⟨_,rfl⟩
 have qP:am (lc 0=[]/\(∀ k,lc (k+1)=lc k++[.int .i64 (f k)])/\lc (eS s)=v8 (classL s p)):=aa (by
  subst hlc;refine⟨rfl,fun k=>by simp[List.range_succ],?_⟩;subst hf;unfold v8;refine List.ext_getElem (by simp[jq]) fun i h1 h2=>?_
  have h3:i<(classL s p).length:=by simpa using h2
  simp[h3])
 have qP:am (lc 0=[]/\∀ k,lc (k+1)=lc k++[.int .i64 (f k)])/\am (lc (eS s)=v8 (classL s p)):=⟨aa ⟨qP.o.1,qP.o.2.1⟩,aa qP.o.2.2⟩;obtain⟨qP,jk⟩:=qP;have Bv:am (∀ k,k<eS s->firstIx k (fun j=>q j k)<0->f k=(br q k).2/\(br q (k+1)).2=(br q k).2+1):=aa (fun k hk h=>by subst hf hq;exact Ha hk h);have yZ:am (∀ k j,k<eS s->firstIx k (fun j=>q j k)=(j:Nat)->f k=f j/\(br q (k+1)).2=(br q k).2):=aa (fun k j hk h=>by subst hf hq;exact Hb hk h);have El:am (∀ k,k<eS s->(iW s p k<0->firstIx k (fun j=>q j k)=-1)/\(0<=iW s p k->firstIx k (fun j=>q j k)=firstIx k fun j=>decide (iW s p j=iW s p k))):=aa (fun k hk=>by subst hq;exact Pa hs hp hk);have jf:am (∀ k,k<eS s->-1<=iW s p k/\iW s p k<=8192):=aa fun k hk=>U5 hs hp hk
 have HC:=aa (jN q)
 have jD:am (∀ w' u,aJ w' w.heap.size 3 1 u (eS s) (v8 (classL s p))->aX w' u (classL s p)):=aa (fun w' u h=>by
  have hl:=jq s p;refine aJ.ints (base:=w.heap.size) (by rw[hl];exact h) (by omega) fun x hx=>?_
  obtain⟨i,hi,rfl⟩:=List.getElem_of_mem hx;have:=l3 (pD (fun k i=>linkB s p k i) (eS s)) i hi;have e:(iw (fun k i=>linkB s p k i) (eS s)).getD i 0=(classL s p)[i]:=az 0 hi;rw[e]at this
  exact⟨by omega,by omega⟩)
 clear hf hq hlc;have Dm:=@GE Tryz.prog;have t1:=ab (aq (.map #[] 0) H1.o);obtain⟨n,hn⟩:∃ n,nS s=n:=⟨_,rfl⟩;obtain⟨m,hm⟩:∃ m,eS s=m:=⟨_,rfl⟩;rw[hn]at hp ku t1;rw[hm]at hE ku t1 jk Bv yZ El jf jD;obtain⟨key,mO⟩:∃ key:Nat->Int,key=iW s p:=⟨_,rfl⟩;rw[<-mO]at El jf
 have Gb:am (∀ e,e<m->∃ b o,pl=some ⟨b,o,none⟩/\∃ b' o' cr,w.cell? ⟨b,o+e,none⟩=some (.slice (some ⟨b',o',none⟩) n cr)/\w.cell? ⟨b',o'+p,none⟩=some (.int .i64 (key e))):=aa (fun e he=>by
  obtain⟨b,o,e1,pr,cr,h1,h2⟩:=ku.o e he;obtain⟨b',o',e2,h3⟩:=DY h2 hp;subst e2
  exact⟨b,o,e1,b',o',cr,h1,by rw[mO];exact h3⟩)
 clear ku H1 mO hn hm hs
 go_enter Tryz.func129,Tryz.ntmps129
 go_wp2_with fail
 clear Dm t1;refine bF (fun W=>Below w.heap.size w W/\du W w.heap.size (fun _=>none) 0) ⟨by go_grown,du.new w⟩ (fun W0 bd=>?_);have Un:w.heap.size<=w.heap.size:=Nat.le_refl _;have iO:=aa bd;clear bd;obtain⟨M,hM⟩:∃ M,M=w.heap.size:=⟨_,rfl⟩;have HMM:=aa hM;have Un:w.heap.size<=M:=by omega
 rw[<-hM]at iO ⊢;clear hM
 go_loopw [6,7,19] (fun ov nv i wr=>∃ k:Nat,k<=m/\i=.int .i64 k/\Below w.heap.size w wr/\aJ wr w.heap.size 3 1 ov k (lc k)/\nv=.int .i64 (br q k).2/\∃ g c,du wr M g c/\∀ y,0<=y->g y=dI key f k y) (fun _ _ i _=>m - (intOf i).toNat)
 ·exact⟨0,by omega,rfl,by have h:=iO.o.1;rw[HMM.o]at h;exact h,by rw[qP.o.1];exact aJ.nil _ _ _ _,rfl,_,_,iO.o.2,fun y _=>rfl⟩
 ·
  clear iO;obtain⟨k,hk,rfl,aA,bg,rfl,g,c,hM,hg⟩:=hrel;have Es:=aA.size;have hML:=hM.lt;obtain⟨av,cv,rfl⟩:=bg.slice;have bP:=aa bg;have aY:=aa aA;have HG:=aa hg;have HM:=aa hM;clear bg hg;by_cases aB:k<m
  ·obtain⟨b,o,rfl,b',o',cr,c1,c2⟩:=Gb.o k aB;have d1:=ak aA c1;have d2:=ak aA c2;have sZ:=El.o k aB;have cY:=jf.o k aB;have hc:=HC.o k;clear c1 c2 aA;obtain⟨x,dp⟩:∃ x,key k=x:=⟨_,rfl⟩;rw[dp]at d2 sZ cY;obtain⟨nx,mi⟩:∃ nx,(br q k).2=nx:=⟨_,rfl⟩;rw[mi]at hc ⊢;obtain⟨uW,kE,_⟩:=hc;have y':=DO (mt:=245) (kt:=3) (vt:=3) Tryz.underlying245 Tryz.underlying3 (fun w=>by kernel_rfl) hM x;by_cases hx:x<0
   ·have Uj:decide (x<0)=true:=decide_eq_true hx;obtain⟨e1,e2⟩:=Bv.o k aB (by rw[sZ.1 hx];omega);have CQ:am (f k=nx):=aa (e1.trans mi);have gt:am ((br q (k+1)).2=nx+1):=aa (by rw[e2,mi])
    have jF:am (∀ y,0<=y->(if y=x then some nx else g y)=dI key f (k+1) y):=aa (fun y hy=>by
     rw[if_neg (by omega),HG.o y hy];unfold dI
     rw[show firstIx (k+1) (fun j=>decide (key j=y))=firstIx k (fun j=>decide (key j=y)) by
      rcases bH k (fun j=>decide (key j=y)) with ⟨e,h⟩|⟨j,hj,e,h,h'⟩
      ·rw[e,dA];intro j hj;by_cases ej:j=k
       ·subst ej;exact decide_eq_false (by omega)
       ·exact h j (by omega)
      ·rw[e];exact dq (k+1) j _ (by omega) h' h])
    clear e1 e2 sZ mi dp;cases AE:g x with
    | none=>
     rw[AE]at y';clear AE;obtain⟨o,LI,rN⟩:=uG (mt:=245) (kt:=3) (vt:=3) Tryz.underlying245 Tryz.underlying3 HM.o x nx;have wV:=aa rN;clear rN hM;have lD:=HM.o.other;obtain⟨om,lD,sW⟩:=lD;have FP:=aa (And.intro lD sW);clear lD sW;have dx:=aa ((bP.o.ck (fun b o' gk kU=>(World.putObj_heap_other (fun e=>by subst e;rw[FP.o.1]at gk;cases gk;rw[FP.o.2]at kU;cases kU)).trans gk):aJ (wr.putObj M o) w.heap.size 3 1 (.slice av k cv) k (lc k)).up (Below.refl _ _ |>.alloc (Nat.le_refl _) (.cells #[.int .i64 nx] 3)));have bE:=aa (by have h:=dU (wr.putObj M o) [.int .i64 nx] 3;rw[show (wr.putObj M o).heap.size=wr.heap.size by simp]at h;exact h);have CC:=aa (eT (D:=M) (o:=o) Un aY.o)
     go_wp2_with (at_builtin;(refine bh _ rfl (.tmp 45) (.tmp 47) 38 rfl w.heap.size 3 i0 _ 1 8 Tryz.underlying38 df cH cj cI rfl (by decide) _ k _ rfl dx.o ⟨wr.heap.size,0,none⟩ 1 1 [.int .i64 nx] rfl rfl bE.o (by simp[Value.oneCell']) (by unfold maxLen;omega) (by omega) (by simp;omega) ?_;intro v' w2 fL dD _))
     go_roundw
     ·
      refine⟨k+1,by omega,by go_num,eK CC.o (Nat.le_refl _) dx.o dD,?_,?_,?_⟩
      ·rw[qP.o.2 k,CQ.o];exact fL
      ·rw[gt.o]
      ·refine⟨_,_,wV.o.kept ?_,fun y hy=>?_⟩
       ·obtain⟨o3,h3,IC⟩:=wV.o.other;rw[mW dx.o dD h3 IC,h3]
       ·rw[jF.o y hy]
        try rw[HG.o y hy]
     ·simp[intOf];omega
    | some z=>
     rw[AE]at y';clear AE;obtain⟨o,LI,rN⟩:=uG (mt:=245) (kt:=3) (vt:=3) Tryz.underlying245 Tryz.underlying3 HM.o x nx;have wV:=aa rN;clear rN hM;have lD:=HM.o.other;obtain⟨om,lD,sW⟩:=lD;have FP:=aa (And.intro lD sW);clear lD sW;have dx:=aa ((bP.o.ck (fun b o' gk kU=>(World.putObj_heap_other (fun e=>by subst e;rw[FP.o.1]at gk;cases gk;rw[FP.o.2]at kU;cases kU)).trans gk):aJ (wr.putObj M o) w.heap.size 3 1 (.slice av k cv) k (lc k)).up (Below.refl _ _ |>.alloc (Nat.le_refl _) (.cells #[.int .i64 nx] 3)));have bE:=aa (by have h:=dU (wr.putObj M o) [.int .i64 nx] 3;rw[show (wr.putObj M o).heap.size=wr.heap.size by simp]at h;exact h);have CC:=aa (eT (D:=M) (o:=o) Un aY.o)
     go_wp2_with (at_builtin;(refine bh _ rfl (.tmp 45) (.tmp 47) 38 rfl w.heap.size 3 i0 _ 1 8 Tryz.underlying38 df cH cj cI rfl (by decide) _ k _ rfl dx.o ⟨wr.heap.size,0,none⟩ 1 1 [.int .i64 nx] rfl rfl bE.o (by simp[Value.oneCell']) (by unfold maxLen;omega) (by omega) (by simp;omega) ?_;intro v' w2 fL dD _))
     go_roundw
     ·
      refine⟨k+1,by omega,by go_num,eK CC.o (Nat.le_refl _) dx.o dD,?_,?_,?_⟩
      ·rw[qP.o.2 k,CQ.o];exact fL
      ·rw[gt.o]
      ·refine⟨_,_,wV.o.kept ?_,fun y hy=>?_⟩
       ·obtain⟨o3,h3,IC⟩:=wV.o.other;rw[mW dx.o dD h3 IC,h3]
       ·rw[jF.o y hy]
        try rw[HG.o y hy]
     ·simp[intOf];omega
   ·have Uj:decide (x<0)=false:=decide_eq_false hx;have AE:=HG.o x (by omega);cases AD:dI key f k x with
    | none=>
     rw[AE,AD]at y'
     obtain⟨e1,e2⟩:=Bv.o k aB (by
      rw[sZ.2 (by omega)];rw[<-dp];unfold dI at AD;rw[dp];split at AD
      ·assumption
      ·cases AD)
     have CQ:am (f k=nx):=aa (e1.trans mi);have gt:am ((br q (k+1)).2=nx+1):=aa (by rw[e2,mi])
     have jF:am (∀ y,0<=y->(if y=x then some nx else g y)=dI key f (k+1) y):=aa (fun y hy=>by
      have h:=xG (key:=key) (f:=f) (k:=k) (by rw[dp];exact AD) y;rw[dp,CQ.o]at h
      rw[h,HG.o y hy])
     clear e1 e2 sZ mi dp AD AE;obtain⟨o,LI,rN⟩:=uG (mt:=245) (kt:=3) (vt:=3) Tryz.underlying245 Tryz.underlying3 HM.o x nx;have wV:=aa rN;clear rN hM;have lD:=HM.o.other;obtain⟨om,lD,sW⟩:=lD;have FP:=aa (And.intro lD sW);clear lD sW;have dx:=aa ((bP.o.ck (fun b o' gk kU=>(World.putObj_heap_other (fun e=>by subst e;rw[FP.o.1]at gk;cases gk;rw[FP.o.2]at kU;cases kU)).trans gk):aJ (wr.putObj M o) w.heap.size 3 1 (.slice av k cv) k (lc k)).up (Below.refl _ _ |>.alloc (Nat.le_refl _) (.cells #[.int .i64 nx] 3)));have bE:=aa (by have h:=dU (wr.putObj M o) [.int .i64 nx] 3;rw[show (wr.putObj M o).heap.size=wr.heap.size by simp]at h;exact h);have CC:=aa (eT (D:=M) (o:=o) Un aY.o)
     go_wp2_with (at_builtin;(refine bh _ rfl (.tmp 45) (.tmp 47) 38 rfl w.heap.size 3 i0 _ 1 8 Tryz.underlying38 df cH cj cI rfl (by decide) _ k _ rfl dx.o ⟨wr.heap.size,0,none⟩ 1 1 [.int .i64 nx] rfl rfl bE.o (by simp[Value.oneCell']) (by unfold maxLen;omega) (by omega) (by simp;omega) ?_;intro v' w2 fL dD _))
     go_roundw
     ·
      refine⟨k+1,by omega,by go_num,eK CC.o (Nat.le_refl _) dx.o dD,?_,?_,?_⟩
      ·rw[qP.o.2 k,CQ.o];exact fL
      ·rw[gt.o]
      ·refine⟨_,_,wV.o.kept ?_,fun y hy=>?_⟩
       ·obtain⟨o3,h3,IC⟩:=wV.o.other;rw[mW dx.o dD h3 IC,h3]
       ·rw[jF.o y hy]
        try rw[HG.o y hy]
     ·simp[intOf];omega
    | some z=>
     rw[AE,AD]at y';obtain⟨j,hj,e3,e4,e5⟩:=q8 AD;obtain⟨e1,e2⟩:=yZ.o k j aB (by rw[sZ.2 (by omega)];exact e3);have CQ:am (f k=z):=aa (by rw[e1,e5]);have gt:am ((br q (k+1)).2=nx):=aa (by rw[e2,mi]);have jF:am (∀ y,dI key f (k+1) y=dI key f k y):=aa (xH (z:=z) (by rw[dp];exact AD));clear e1 e2 e3 e4 e5 sZ mi dp AD AE;clear hM;have dx:=aa (bP.o.up (Below.refl _ _ |>.alloc (Nat.le_refl _) (.cells #[.int .i64 z] 3)));have bE:=aa (dU wr [.int .i64 z] 3)
     go_wp2_with (at_builtin;(refine bh _ rfl (.tmp 45) (.tmp 47) 38 rfl w.heap.size 3 i0 _ 1 8 Tryz.underlying38 df cH cj cI rfl (by decide) _ k _ rfl dx.o ⟨wr.heap.size,0,none⟩ 1 1 [.int .i64 z] rfl rfl bE.o (by simp[Value.oneCell']) (by unfold maxLen;omega) (by omega) (by simp;omega) ?_;intro v' w2 fL dD _))
     go_roundw
     ·
      refine⟨k+1,by omega,by go_num,eK aY.o (Nat.le_refl _) dx.o dD,?_,?_,?_⟩
      ·rw[qP.o.2 k,CQ.o];exact fL
      ·rw[gt.o]
      ·refine⟨_,_,HM.o.kept ?_,fun y hy=>?_⟩
       ·obtain⟨o3,h3,IC⟩:=HM.o.other;rw[mW dx.o dD h3 IC,h3]
       ·rw[HG.o y hy,jF.o y]
     ·simp[intOf];omega
  ·obtain rfl:k=m:=by omega
   rw[jk.out]at bP;clear hM
   go_wp2_with fail
   go_ret
   exact⟨_,rfl,jD.o _ _ bP.o,aY.o⟩
theorem Ih{w:World} {base:Nat} {v:Value} {l:List (List Int)} (h:p8 w base v l) (hr:∀ x∈l,∀ y∈x,bS y) (hn:l.length<=1048576) (n':∀ x∈l,x.length<=1048576):ez w v l:=by
 obtain⟨xs,h1,h2⟩:=h;have h3:=aJ.of_owns h1;have hl:xs.length=l.length:=by have:=h3.1;omega
 exact nL ⟨xs,h3,fun i hi=>⟨xs[i]'(by omega),by rw[List.getElem?_eq_getElem],aJ.of_owns (h2 i hi (by omega))⟩⟩ hr hn n'
theorem Ce{s:Sys} (h:SysOk s) {e:Nat} (he:e<eS s):iU s.prob.t (cM s e).c (fltS s e)=0:=by
 have h1:=h.cas e he;have h2:=h.flt e he;have h3:=(ro h.prob).1;unfold iU;rw[if_neg (by omega),if_neg (by omega),if_neg];have h4:s.prob.t.n.toNat=nS s:=by have:=h.n;omega
 rw[h4];omega
theorem Ke{s:Sys} (h:SysOk s) {e:Nat} (he:e<eS s):iV s.prob.t (cM s e).c (fltS s e)=vecE s e:=by
 unfold iV;rw[if_neg (by rw[Ce h he];simp)];rfl
def vq(s:Sys) (e j x:Nat):Bool:=anyLt j fun i=>decide (((vecE s e).getD i []).getD 0 0=(x:Int))
theorem U6(s:Sys) (e j v:Nat) (hv:v<8) (h:((vecE s e).getD j []).getD 0 0=(v:Int)):maskN (vq s e j) 8 ||| 2 ^ v=maskN (vq s e (j+1)) 8:=by
 rw[<-Oc hv,Q4];refine zW fun x _=>?_
 show (vq s e j x || decide (x=v))=(vq s e j x || decide (((vecE s e).getD j []).getD 0 0=(x:Int)))
 congr 1;rw[h,decide_eq_decide];omega
theorem U7(s:Sys) (e:Nat):maskN (vq s e 0) 8=0:=(nE _ _).2 ((fO _ _).2 fun _ _=>rfl)
theorem Fd{s:Sys} (h:SysOk s) (ha:agreeB s.prob.t=true) {e:Nat} (he:e<eS s) {v:List Int} (hv:v∈vecE s e):constB v=true/\v=List.replicate (nS s) (v.getD 0 0)/\0<=v.getD 0 0/\v.getD 0 0<oS s/\v.length=nS s:=by
 obtain⟨_,h2⟩:=BQ h he;obtain⟨h3,h4,i,j,hi,hj,h5⟩:=h2 v hv;have hc:=(pY _).1 ha i hi j hj;rw[<-h5]at hc;have hn:=h.n;have h6:=Of hc;have h7:=h4 (v.getD 0 0) (by rw[show v.getD 0 0=v[0]'(by omega) by simp[show 0<v.length by omega]];exact List.getElem_mem _);exact⟨hc,by rw[<-h3];exact h6,h7.1,h7.2,h3⟩
theorem VR{s:Sys} (h:SysOk s) (ha:agreeB s.prob.t=true) {e:Nat} (he:e<eS s):maskN (vq s e (vecE s e).length) 8=ie s e:=by
 refine zW fun x _=>?_
 rw[Bool.eq_iff_iff,Kz];unfold vq;rw[la];constructor
 ·rintro⟨k,hk,h1⟩;have h2:(vecE s e)[k]∈vecE s e:=List.getElem_mem hk;have h3:=(Fd h ha he h2).2.1;rw[az [] hk]at h1;rw[of_decide_eq_true h1]at h3;rw[<-h3];exact h2
 ·intro h1;obtain⟨k,hk,e1⟩:=List.getElem_of_mem h1;refine⟨k,hk,?_⟩;rw[az [] hk,e1];have hn:=h.n.1;simp[show 0<nS s by omega]
theorem ui{m k:Nat} (hm:m<1024) (hk:k<=30):bits .or .i64 ((m:Nat):Int) (wrap64 ((2:Int) ^ k))=((m ||| 2 ^ k:Nat):Int):=by
 have h2:(2:Nat) ^ k<=2 ^ 30:=Nat.pow_le_pow_right (by omega) hk;rw[Ig hk,vP _ _ (by omega) (by omega)]
theorem Pc(y x:Int) (b:Nat) (a:Addr) (n c:Nat) (hn:0<n) (W:World) (h1:W.cell? ⟨b,0,none⟩=some (.slice (some a) n c)) (h2:W.cell? a=some (.int .i64 x)) :
  Calls Tryz.prog 127 #[.int .i64 y,.pointer (some ⟨b,0,none⟩)] W fun e W'=>e=.returned (.bool (y != x))/\Below W.heap.size W W':=by
 go_enter Tryz.func127,Tryz.ntmps127
 go_wp2_with fail
 go_ret
 exact⟨rfl,by go_grown⟩
theorem Pd(l:List Int) (hc:constB l=true) (a:Option Addr) (c b:Nat) (W:World) (hv:aX W (.slice a l.length c) l) (hB:W.heap[b]?=some (.cells #[.slice a l.length c] 38)) :
  Calls Tryz.prog 106 #[.slice a l.length c,.func (.func 127) #[] #[.pointer (some ⟨b,0,none⟩)]] W fun e W'=>e=.returned (.bool false)/\Below W.heap.size W W':=by
 refine(kl 127 #[.pointer (some ⟨b,0,none⟩)] (enters_of Tryz.func127 (by kernel_rfl) rfl) _ l (fun i=>decide (l.getD i 0≠l.getD 0 0)) W hv (fun i hi W2 aZ=>?_)).mono fun e W' ⟨h1,h2⟩=>⟨?_,h2⟩
 ·obtain⟨pa,ca,e1,_,_,ea⟩:=hv.at;injection e1 with e1 _ _
  subst e1;obtain⟨b0,o0,e0,h0,_⟩:=ea 0 (by omega);rw[Nat.zero_mul,Nat.add_zero]at h0;have:=Pc l[i] (l.getD 0 0) b ⟨b0,o0,none⟩ l.length c (by omega) W2 (by rw[ab (af aZ hB),e0];rfl) (by rw[az 0 (show 0<l.length by omega)];exact ak aZ h0);refine this.mono fun e W' ⟨h1,h2⟩=>⟨?_,h2⟩
  rw[h1,az 0 hi];have hx:(l[i] != l.getD 0 0)=decide (l[i]≠l.getD 0 0):=by rw[Bool.eq_iff_iff];simp
  rw[hx]
 ·rw[h1];unfold constB at hc;rw[Bool.not_eq_true']at hc;rw[hc]
theorem RC(s:Sys) (hs:SysOk s) (ha:agreeB s.prob.t=true) (e:Nat) (he:e<eS s) (vc:Value) (pw:Option Addr) (nw cw:Nat) (vv:Value) (w:World) (hv:bN w vc s.prob.t.cases) (mn:nw<=6)
  (fN:0<nw->∃ b1 o1,pw=some ⟨b1,o1,none⟩/\w.cell? ⟨b1,o1+(nw - 1) * 7+6,none⟩=some (.int .i64 (fltS s e))) (gW:nw=0->fltS s e=0) :
  Calls Tryz.prog 77 #[.agg #[.int .i64 s.prob.t.n,.int .i64 s.prob.t.ins,.int .i64 s.prob.t.outs,vc],.agg #[.int .i64 (cM s e).c,.slice pw nw cw,vv]] w fun r w'=>r=.returned (.tuple #[.int .i64 (ie s e:Nat),.int .i64 0])/\Below w.heap.size w w':=by
 have HA:=aa (fun W (hb:Below w.heap.size w W)=>J6 s.prob.t vc (cM s e).c (fltS s e) W (hv.up up_case hb));rw[Ce hs he,Ke hs he]at HA
 have vL:=aa (fun (W:World) (base:Nat) (u:Value) (h:p8 W base u (vecE s e))=>Ih h (fun x hx y hy=>by
  have h1:=(BQ hs he).2 x hx;have h2:=h1.2.1 y hy;have h3:=hs.outs;exact⟨by omega,by omega⟩) (by
  have h1:=hs.cas e he;have h2:=(fm (ro hs.prob).1).2.2.2.2 (s.prob.t.cases.getD (cM s e).c.toNat default) (by rw[az default h1.2];exact List.getElem_mem _);have h3:=Kx h2 (fltS s e);have h4:vecE s e=gg (s.prob.t.cases.getD (cM s e).c.toNat default) (fltS s e):=rfl;rw[h4]
  omega) (fun x hx=>by have:=((BQ hs he).2 x hx).1;have:=hs.n;omega))
 have HCON:=aa (fun (v:List Int) (hv:v∈vecE s e)=>Fd hs ha he hv);have eF:=aa (fun j v=>U6 s e j v);have mP:=aa (VR hs ha he);have HZ:=aa (U7 s e);have hos:=hs.outs.2.1;obtain⟨pc,cc,rfl,l1,m1,e1⟩:=hv.at;clear hv e1 ha;generalize vecE s e=vl at HA vL HCON eF mP;by_cases hw:nw=0
 case' pos=>
  have hz:=gW hw;subst hw;rw[hz]at HA
  go_enter Tryz.func77,Tryz.ntmps77
  go_wp2_with fail
 case' neg=>
  obtain⟨q,rfl⟩:∃ q,nw=q+1:=⟨nw - 1,by omega⟩;obtain⟨b1,o1,rfl,c5⟩:=fN (by omega);rw[Nat.add_sub_cancel]at c5;have d5:∀ o1' o2',((w.alloc o1').alloc o2').cell? ⟨b1,o1+q * 7+6,none⟩=some (.int .i64 (fltS s e)):=fun o1' o2'=>ak (by go_grown) c5
  clear c5 fN gW
  go_enter Tryz.func77,Tryz.ntmps77
  go_wp2_with fail
  clear d5
 all_goals
  refine aQ (fun W=>Below w.heap.size w W) (by go_grown) (fun W0 aK=>?_);refine(HA.o W0 aK).mono ?_;rintro r w1 ⟨u,rfl,hu,aM⟩;have HU:=aa (vL.o _ _ _ hu);obtain⟨pu,cu,rfl,lu1,lu2,eu⟩:=HU.o.at;have EU:=aa eu;have bL:=aa (ae aK aM);clear hu aK aM eu
  go_wp2_with fail
  go_loopw [10,35] (fun o i wr=>∃ j:Nat,j<=vl.length/\i=.int .i64 j/\o=.int .i64 (maskN (vq s e j) 8:Nat)/\Below w1.heap.size w1 wr) (fun _ i _=>vl.length - (intOf i).toNat)
  ·exact⟨0,by omega,rfl,by rw[HZ.o];rfl,Below.refl _ _⟩
  ·
   obtain⟨j,hj,rfl,rfl,aA⟩:=hrel;have aY:=aa aA;by_cases aB:j<vl.length
   ·obtain⟨b3,o3,rfl,vx,cvx,FE⟩:=EU.o j aB;have dv:=ak aA cvx;have CW:=aa (FE.up up_int aA);obtain⟨pv,cv,rfl,lv1,lv2,ev⟩:=CW.o.at;obtain⟨g1,g2,g3,g4,g5⟩:=HCON.o vl[j] (List.getElem_mem aB);have K7:vl.getD j []=vl[j]:=az [] aB;have oz:=aa (eF.o j);rw[K7]at oz;rw[Nat.mul_one]at dv;generalize vl[j]=v at dv CW lv1 lv2 ev g1 g2 g3 g4 g5 oz;have fw:=hs.n.1;obtain⟨b4,o4,rfl,c4,-⟩:=ev 0 (by omega);have T8:v[0]'(by omega)=v.getD 0 0:=(az 0 (by omega)).symm;rw[T8,Nat.zero_mul,Nat.add_zero]at c4;obtain⟨v0,jW⟩:∃ v0:Nat,v.getD 0 0=v0:=⟨(v.getD 0 0).toNat,by omega⟩;rw[jW]at c4 g4 oz;have hv8:v0<8:=by omega
    have yI:=aa (oz.o v0 hv8 rfl);have nT:=aa g1;have cP:0<v.length:=by omega
    have XG:=aa c4;have hmlt:maskN (vq s e j) 8<256:=ic _ 8;have CG:=aa hmlt;clear cvx FE aA ev g1 g2 g3 g4 g5 K7 T8 jW c4 hmlt oz fw
    go_wp2_with fail
    clear dv;refine aQ (fun W=>Below wr.heap.size wr W/\W.heap[wr.heap.size]?=some (.cells #[.slice (some ⟨b4,o4,none⟩) v.length cv] 38)) ⟨by go_grown,ap _ _⟩ (fun W3 mh=>?_);obtain⟨bG,WK⟩:=mh;refine(Pd v nT.o _ cv wr.heap.size W3 (CW.o.up up_int bG) WK).mono ?_;rintro r w4 ⟨rfl,bO⟩;have tb:=ab (af bO WK) 0;simp at tb;have t0:=ak (ae bG bO) XG.o;have eV:=aa (ae bG bO);clear bG bO WK
    go_wp2_with fail
    go_roundw
    ·exact⟨j+1,by omega,by go_num,rk (by rw[<-yI.o];exact ui (by have:=CG.o;omega) (by omega)),ae aY.o eV.o⟩
    ·simp[intOf];omega
   ·have HR:am (maskN (vq s e j) 8=ie s e):=aa (by rw[<-mP.o,show j=vl.length by omega])
    go_wp2_with fail
    go_ret2
    exact⟨by rw[HR.o];simp,ae bL.o aY.o⟩
end Go.Proofs.YtmeaoneaephjeaaGreatDoor
