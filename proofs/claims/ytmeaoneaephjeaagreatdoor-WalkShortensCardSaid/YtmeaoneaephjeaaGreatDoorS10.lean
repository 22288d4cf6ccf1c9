/-
  A part of the proof: lemmas and contracts that the parts behind it use. Each one's conditions are its own premises.
-/
import Derived.Test.YtmeaoneaephjeaaGreatDoorS9
set_option maxRecDepth 100000
set_option maxHeartbeats 8000000
set_option linter.unusedVariables false
set_option linter.unusedSimpArgs false
namespace Go.Proofs.YtmeaoneaephjeaaGreatDoor
open Go.RowKit Go Go.Shelf
attribute [local go_sem] Oper.semAt_some
theorem OwnQ.ck{w w':World} {g:Nat} {e:TypeId} {v:Value} {n:Nat} {xs:List Value} (h:OwnQ w g e v n xs) (hb:CK w w'):OwnQ w' g e v n xs:=by
 obtain⟨off,cap,h1,h2,h3,h4⟩:=h.ex;refine⟨h.len,off,cap,h1,h2,h3,?_⟩;rcases h4 with h4|⟨cur,fz,h5,h6⟩
 ·exact .inl h4
 ·exact .inr ⟨cur,fz,hb _ _ h5 rfl,h6⟩
def ww(l:List Nat):List Value:=l.map fun x:Nat=>Value.int .i64 (x:Int)
def MH(s:Sys) (D:List Int):Nat:=((List.range (eS s)).filter fun e=>decide (D.getD e 0<0)).length
structure DFI (s:Sys) (w:World) (bq bx be:Nat) (Ds:List Nat) (D:List Int) (Q:List Nat) (V:World):Prop where
 old:Below w.heap.size w V
 box:V.heap[w.heap.size+1]?=some (.cells #[.slice (some ⟨w.heap.size,0,none⟩) (eS s) (eS s)] 38)
 row:V.heap[w.heap.size]?=some (.cells (bD D) 3)
 que:∃ g qv,V.heap[bq]?=some (.cells #[qv] 38)/\OwnQ V g 3 qv Q.length (ww Q)/\w.heap.size+1<g/\g<V.heap.size/\g≠bx/\g≠be/\g≠bq
 marks:cV w.heap.size Ds V
theorem DFI.sta{s:Sys} {w:World} {bq bx be B:Nat} {Ds:List Nat} {D:List Int} {Q:List Nat} (hB:w.heap.size<=B) (hD:∀ E∈Ds,E<B):cN B (DFI s w bq bx be Ds D Q):=fun A A' c h=>by
 obtain⟨g,qv,h1,h2,h3,h4,h5⟩:=h.que;exact⟨c.below hB h.old.size h.old,c.same _ _ h.box (.inr rfl),c.same _ _ h.row (.inr rfl),⟨g,qv,c.same _ _ h1 (.inr rfl),h2.ck c.ck,h3,Nat.lt_of_lt_of_le h4 c.size,h5⟩,cN.marks hD A A' c h.marks⟩
def V4(s:Sys) (B f:Nat) (w:World) (n:Nat) (act:Act) (W:World):Prop:=∃ (D:List Int) (Q:List Nat) (bq:Nat) (Ds:List Nat) (u2 u3 u4 u6 u8 u9 u10 u11 u12 u13 u14 u15 u16 u17 u18 u19 u20 u21 u22 u23 u24 u25 u26 u27 u28 u29 u30 u31 u32 u33 u34 u35 u36 u37 u38 u39 u40 u41 u42 u43 u44 u45 u46 u47 u48 u49 u50 u51 u52 u53 u54 u55 u56 u57 u58 u59 u60 u61:Value),
   act={ tmps:=#[Value.pointer (some ⟨B,0,none⟩),Value.int .i64 f,u2,u3,u4,Value.pointer (some ⟨w.heap.size+1,0,none⟩),u6,Value.pointer (some ⟨bq,0,none⟩),u8,u9,u10,u11,u12,u13,u14,u15,u16,u17,u18,u19,u20,u21,u22,u23,u24,u25,u26,u27,u28,u29,u30,u31,u32,u33,u34,u35,u36,u37,u38,u39,u40,u41,u42,u43,u44,u45,u46,u47,u48,u49,u50,u51,u52,u53,u54,u55,u56,u57,u58,u59,u60,u61],defers:=mQ Ds }/\n=Q.length+MH s D/\n<=257/\D.length=eS s/\Bfs (eS s) (eU s) f (fun e=>D.getD e 0) Q/\w.heap.size+1<bq/\bq<W.heap.size/\DFI s w bq W.heap.size W.heap.size Ds D Q W
theorem MI{n:Nat} {L:Nat->Nat->Bool} {f:Nat} {D:Nat->Int} {Q:List Nat} (b:Bfs n L f D Q) (d:Nat):∀ e,e<n->D e=(d:Int)->d+1<=((List.range n).filter fun x=>decide (0<=D x/\D x<=(d:Int))).length:=by
 induction d with
 | zero=>
  intro e he h;have:e∈(List.range n).filter fun x=>decide (0<=D x/\D x<=((0:Nat):Int)):=by simp[he,h]
  have:=List.length_pos_of_mem this;omega
 | succ d ih=>
  intro e he h;obtain⟨g,hg,h1,_⟩:=b.pred e he d (by rw[h];rfl);have h4:=ih g hg h1
  have h5:((List.range n).filter fun x=>decide (0<=D x/\D x<=(d:Int))).length<((List.range n).filter fun x=>decide (0<=D x/\D x<=((d+1:Nat):Int))).length:=by
   refine EO _ _ _ (fun x _ hx=>?_) e (by simpa using he) (by rw[h];simp;omega) (by rw[h];simp;omega);simp only[decide_eq_true_eq]at hx ⊢;omega
  omega
theorem MJ{s:Sys} {f h:Nat} {D:List Int} {Q:List Nat} (b:Bfs (eS s) (eU s) f (fun e=>D.getD e 0) Q) (hh:h<eS s) (hE:eS s<=256):D.getD h 0<1000000:=by
 by_cases h0:0<=D.getD h 0
 ·have h1:=MI b (D.getD h 0).toNat h hh (by omega);have h2:((List.range (eS s)).filter fun x=>decide (0<=D.getD x 0/\D.getD x 0<=((D.getD h 0).toNat:Int))).length<=eS s:=Nat.le_trans (List.length_filter_le _ _) (by simp);omega
 ·omega
theorem Vp(s:Sys) (D:List Int):MH s D<=eS s:=Nat.le_trans (List.length_filter_le _ _) (by simp)
theorem MK(s:Sys) (h:Nat) (D:List Int) (l:List Nat):(eI s h D l).2.length<=l.length:=by
 unfold eI;generalize D.getD h 0+1=dh
 have key:∀ (l:List Nat) (st:List Int × List Nat),(l.foldl (jJ dh) st).2.length<=st.2.length+l.length:=by
  intro l;induction l with
  | nil=>intro st;simp
  | cons a r ih=>
   intro st;rw[List.foldl_cons];refine Nat.le_trans (ih _) ?_;have:(jJ dh st a).2.length<=st.2.length+1:=by unfold jJ;split<;>simp
   simp only[List.length_cons];omega
 exact Nat.le_trans (key l _) (by simp)
theorem V5(s:Sys) (e:Nat):(dZ s e).length<=eS s:=Nat.le_trans (List.length_filter_le _ _) (by simp)
theorem ML{s:Sys} {h:Nat} {D:List Int} (h0:0<=D.getD h 0) (l:List Nat):(eI s h D l).1.getD h 0=D.getD h 0:=by
 unfold eI
 have key:∀ (l:List Nat) (st:List Int × List Nat),st.1.getD h 0=D.getD h 0->(l.foldl (jJ (D.getD h 0+1)) st).1.getD h 0=D.getD h 0:=by
  intro l;induction l with
  | nil=>intro st h1;exact h1
  | cons a r ih=>
   intro st h1;rw[List.foldl_cons];refine ih _ ?_;unfold jJ;split
   ·rename_i h2;by_cases ha:a<st.1.length
    ·dsimp only;rw[fD _ _ _ _ _ ha,if_neg (fun e=>by subst e;omega)];exact h1
    ·dsimp only;rw[List.set_eq_of_length_le (by omega)];exact h1
   ·exact h1
 exact key l _ rfl
theorem Py(s:Sys) (hs:SysOk s) (hE:eS s<=256) (B f:Nat) (hf:f<eS s) (base:Nat) (w:World) (h:gU w base B s) :
  Calls Tryz.prog 137 #[.pointer (some ⟨B,0,none⟩),.int .i64 f] w fun r w'=>r=.returned (.slice (some ⟨w.heap.size,0,none⟩) (eS s) (eS s))/\w'.heap[w.heap.size]?=some (.cells (bD (db s f)) 3)/\Below w.heap.size w w':=by
 obtain⟨pl,cl,h1,_⟩:=(h.at hs).open;have HF:=aa h;have tF:w.cell? ⟨B,1,none⟩=some (.slice pl (eS s) cl):=(ab h1 1).trans rfl;have hBw:=aC h1;obtain⟨i0,df,cH,cj,cI⟩:=info_parts Tryz.infoInt
 have eF:am (Bfs (eS s) (eU s) f (fun e=>((List.replicate (eS s) (-1:Int)).set f 0).getD e 0) [f]):=aa (Fl hf (Bfs.start hf) fun e he=>by
  rw[fD _ _ _ _ _ (by simp;exact hf)];unfold dR;split
  ·rfl
  ·simp[he])
 obtain⟨m,hm⟩:∃ m,eS s=m:=⟨_,rfl⟩;have fX:=js (fun _=>-1) m (by omega);have BF:am ((List.range m).map (fun _=>(-1:Int))=List.replicate (eS s) (-1)):=aa (by rw[hm];simp[List.map_const']);rw[hm]at hE hf tF;have HM:=aa hm;have Qi:=aa hs;clear hm h1 h hs;refine gc Tryz.func137 rfl ?_;simp only[Tryz.ntmps137,List.size_toArray,List.length_cons,List.length_nil,Nat.reduceAdd,Nat.reduceSub,Array.replicate_succ,Array.replicate_zero,List.push_toArray,List.append_toArray,List.nil_append,List.cons_append]
 go_wp2_with fail
 clear fX tF;refine bF (fun W=>Below w.heap.size w W/\W.heap[w.heap.size]?=some (.cells (fC m (fun _=>-1) 0) 3)/\W.heap[w.heap.size+1]?=some (.cells #[.slice (some ⟨w.heap.size,0,none⟩) m m] 38)) ⟨by go_grown,aq _ (ap _ _),bu _ _ _⟩ (fun W0 bd=>?_);have iO:=aa bd;have tx0:=ab bd.2.2 0;simp at tx0;clear bd
 go_wp2_with fail
 clear tx0
 go_loopw [17] (fun i wr=>∃ k:Nat,k<=m/\i=.int .i64 k/\Below w.heap.size w wr/\wr.heap[w.heap.size]?=some (.cells (fC m (fun _=>-1) k) 3)/\wr.heap[w.heap.size+1]?=some (.cells #[.slice (some ⟨w.heap.size,0,none⟩) m m] 38)) (fun i _=>m - (intOf i).toNat)
 case atStart=>exact⟨0,by omega,rfl,iO.o.1,iO.o.2.1,iO.o.2.2⟩
 case round=>
  clear iO;obtain⟨k,hk,rfl,aA,hO,hX⟩:=hrel;have tx:=ab hX 0;simp at tx;have eQ:=aC hX;have HO:=aa hO;have HX:=aa hX;have aY:=aa aA;by_cases aB:k<m
  ·have tq:=ab hO k;rw[l5 _ _ _ _ aB]at tq;have zq:=aH hO k;clear hO hX aA
   go_wp2_with fail
   go_roundw
   ·exact⟨k+1,by omega,by go_num,aY.o.setCell (by dsimp only;omega) _,by rw[aI HO.o,uE m (fun _=>-1) k aB],aO HX.o (by omega) _ _⟩
   ·simp[intOf];omega
  obtain rfl:k=m:=by omega
  have tq:=ab hO f;rw[l5 _ _ _ _ hf]at tq;have zq:=aH hO f;have qW:=hO;rw[p9,BF.o]at qW;have eP:=aa qW;have CT:=aA.size;clear hO qW hX aA
  go_wp2_with fail
  clear tx tq zq
  refine bF (fun W=>Below w.heap.size w W/\W.heap[w.heap.size+1]?=some (.cells #[.slice (some ⟨w.heap.size,0,none⟩) k k] 38)/\W.heap[w.heap.size]?=some (.cells (bD ((List.replicate (eS s) (-1)).set f 0)) 3)/\W.heap[wr.heap.size]?=some (.cells #[.int .i64 f] 3)/\W.heap[wr.heap.size+1]?=some (.cells #[.slice (some ⟨wr.heap.size,0,none⟩) 1 1] 38))
   ⟨((aY.o.setCell (p:=⟨w.heap.size,f,none⟩) (Nat.le_refl _) _).alloc (by simpa using CT) _).alloc (by simp;omega) _,aq _ (aq _ (aO HX.o (by omega) _ _)),aq _ (aq _ (by rw[aI eP.o,l6])),aq _ (by have:=ap (wr.setCell ⟨w.heap.size,f,none⟩ (.int .i64 0)) (.cells #[.int .i64 f] 3);rwa [World.size_setCell]at this),by have:=bu (wr.setCell ⟨w.heap.size,f,none⟩ (.int .i64 0)) (.cells #[.int .i64 f] 3) (.cells #[.slice (some ⟨wr.heap.size,0,none⟩) 1 1] 38);rwa [World.size_setCell]at this⟩ (fun W1 cO=>?_)
  have tt:w.heap.size+1<wr.heap.size:=eQ;generalize wr.heap.size=g0 at cO tt;have gD:=aa cO;have oJ:=aC cO.2.2.2.2;clear cO HO eP HX aY wr eQ CT W0;refine AY (fun n act W=>V4 s B f w n act W) (1+MH s ((List.replicate (eS s) (-1)).set f 0)) ?start ?round
  case start=>
   refine⟨_,[f],g0+1,[],_,_,_,_,_,_,_,_,_,_,_,_,_,_,_,_,_,_,_,_,_,_,_,_,_,_,_,_,_,_,_,_,_,_,_,_,_,_,_,_,_,_,_,_,_,_,_,_,_,_,_,_,_,_,_,_,_,_,rfl,rfl,by have:=Vp s ((List.replicate (eS s) (-1)).set f 0);have:=HM.o;omega,by simp,eF.o,by omega,oJ,gD.o.1,by rw[HM.o];exact gD.o.2.1,gD.o.2.2.1,⟨g0,_,gD.o.2.2.2.2,⟨rfl,0,1,rfl,Nat.le_refl _,by unfold maxLen;omega,.inr ⟨_,(0,0),gD.o.2.2.2.1,fun i _ h=>by have:=h.2;simp at this,rfl,rfl⟩⟩,by omega,by omega,by omega,by omega,by omega⟩,cV.nil _ _⟩
  case round=>
   clear gD eF BF;rintro n act W ⟨D,Q,bq,Ds,u2,u3,u4,u6,u8,u9,u10,u11,u12,u13,u14,u15,u16,u17,u18,u19,u20,u21,u22,u23,u24,u25,u26,u27,u28,u29,u30,u31,u32,u33,u34,u35,u36,u37,u38,u39,u40,u41,u42,u43,u44,u45,u46,u47,u48,u49,u50,u51,u52,u53,u54,u55,u56,u57,u58,u59,u60,u61,rfl,hn,hn7,lO,Dd,ng,hbq2,hI⟩;obtain⟨g,qv,JP,Ga,hg,hgw,AE,qr,UG⟩:=hI.que;obtain⟨off,cap,rfl,iL,qz,Er⟩:=Ga.ex;have tq:=ab JP 0;simp at tq;have HI:=aa hI;have Dg:=aa JP;have LE:=aa Ga;have FT:=aa Dd;have HN:=aa hn;have IT:=aa lO;clear hI JP Ga Dd hn lO;cases Q with
   | nil=>
    have tb:=ab HI.o.box 0;simp at tb;have jk:=aa (Vn (by rw[HM.o];exact hf) IT.o FT.o);have cA:=HI.o.row;rw[jk.o]at cA;have ku:=aa cA;clear cA
    go_wp2_with fail
    refine qZ HI.o.marks (v:=.slice (some ⟨w.heap.size,0,none⟩) (eS s) (eS s)) ?_ ⟨rfl,qY HI.o.marks _ _ ku.o rfl,mu (fun D hD=>(HI.o.marks.2 D hD).1) (Nat.le_refl _) HI.o.old⟩;simp[results,Tryz.results137,go_sem]
   | cons h r=>
    have hh:=(FT.o.ok h (by simp)).1;rw[HM.o]at hh
    obtain⟨cur,fz,kE,jc,hc3,hc4⟩:∃ cur fz,W.heap[g]?=some (.cells cur 3 fz)/\(∀ i,i<cur.size->¬ (fz.1<=i/\i<fz.2))/\cur.size=off+cap/\(cur.toList.drop off).take (h :: r).length=ww (h :: r):=by
     rcases Er with h0|h0
     ·simp at iL;omega
     ·exact h0
    have th:W.cell? ⟨g,off,none⟩=some (.int .i64 h):=by
     rw[ab kE];have h5:=congrArg (fun l=>l[0]?) hc4;simp[ww]at h5;simpa using h5
    clear Er kE jc hc3 hc4
    go_wp2_with fail
    refine(uO B h W).mono ?_;rintro e w2 ⟨rfl,rfl⟩;clear th tq
    go_wp2_with fail
    have lO:∀ E∈Ds,E<W.heap.size:=HI.o.marks.lt
    refine bF (fun W1=>DFI s w bq W.heap.size (W.heap.size+1) Ds D (h :: r) W1/\W1.heap[W.heap.size]?=some (.cells #[.pointer (some ⟨B,0,none⟩)] 196)/\W1.heap[W.heap.size+1]?=some (.cells #[.int .i64 h] 3)/\W.heap.size+1<W1.heap.size)
     ⟨⟨(HI.o.old.alloc HI.o.old.size _).alloc (by have:=HI.o.old.size;simp;omega) _,aq _ (aq _ HI.o.box),aq _ (aq _ HI.o.row),⟨g,_,aq _ (aq _ Dg.o),(LE.o.ck (.of_below (by go_grown))),hg,by simp;omega,by omega,by omega,UG⟩,HI.o.marks.up (by go_grown)⟩,aq _ (ap _ _),bu _ _ _,by simp⟩ (fun W1 cO=>?_)
    obtain⟨xo,At,Jr,Xc⟩:=cO;have dk:=sL s Qi.o B h W.heap.size (W.heap.size+1) (by rw[HM.o];exact hh) base w HF.o W1 (fun k _ hk=>xo.old.block k hk) xo.old.size (by simp[ab At]) (by simp[ab Jr]);have Wk:=HI.o.old.size;have tJ:=aa xo;have hbq1:bq<W.heap.size:=hbq2;clear At Jr
    refine mD (gf:=179) (lb:=#[.pointer (some ⟨W.heap.size,0,none⟩),.pointer (some ⟨W.heap.size+1,0,none⟩)]) rfl (enters_of Tryz.func179 (by kernel_rfl) rfl) dk (Below.refl _ _) (fun k hk=>by rcases hk with hk|rfl|rfl<;>omega) (fun i=>rfl)
     (fun i V=>DFI s w bq W.heap.size (W.heap.size+1) Ds (eI s h D ((dZ s h).take i)).1 (h :: (r++(eI s h D ((dZ s h).take i)).2)) V)
     (fun _ _ _=>False)
     (fun i=>DFI.sta (by omega) (fun E hE=>by have:=lO E hE;omega)) (fun c i=>cN.pure) (by simpa[eI] using xo) ?rnd ?done ?stop
    case stop=>rintro D' c i V hD hi h;exact h.elim
    case rnd=>
     intro yl i V hi hl iQ;unfold In;obtain⟨fv,QC⟩:∃ fv,(dZ s h).getD i 0=fv:=⟨_,rfl⟩
     have kO:fv<k:=by
      have h2:(dZ s h)[i]∈dZ s h:=List.getElem_mem hi;rw[show (dZ s h)[i]=fv by rw[<-QC];simp[hi]]at h2;have:=(rp.1 h2).1;rw[HM.o]at this;exact this
     have bR:fv≠h:=by
      have h2:(dZ s h)[i]∈dZ s h:=List.getElem_mem hi;rw[show (dZ s h)[i]=fv by rw[<-QC];simp[hi]]at h2;exact(rp.1 h2).2.2
     have jR:am (eI s h D ((dZ s h).take (i+1))=jJ (D.getD h 0+1) (eI s h D ((dZ s h).take i)) fv):=aa (by
      rw[List.take_succ_eq_append_getElem hi,Co,<-QC]
      simp[hi])
     rw[QC];have cP:(eI s h D ((dZ s h).take i)).1.length=k:=by rw[yk,IT.o,HM.o]
     have hh0:=(FT.o.ok h (by simp)).2
     have hqb:(eI s h D ((dZ s h).take i)).2.length<=256:=by
      have h1:=MK s h D ((dZ s h).take i);have h2:=V5 s h;have h3:=HM.o;rw[List.length_take]at h1;omega
     have C':r.length<=257:=by
      have h1:=HN.o;simp only[List.length_cons]at h1;omega
     have Um:(eI s h D ((dZ s h).take i)).1.getD h 0=D.getD h 0:=ML hh0 _;generalize byP s h fv=pv;obtain⟨st,dS⟩:∃ st,eI s h D ((dZ s h).take i)=st:=⟨_,rfl⟩;rw[dS]at cP Um jR iQ hqb;obtain⟨ql,og⟩:∃ ql,(h :: (r++st.2)).length=ql+1:=⟨(r++st.2).length,rfl⟩;have hql2:ql<=1000:=by simp only[List.length_cons,List.length_append]at og;omega
     have od:=aa iQ;have eF:=aa dS;have vI:=aa og;clear dS iQ QC dk og C' hqb
     gi_wp2
     refine⟨Bod.refl _ _ _,fun V=>DFI s w bq W.heap.size (W.heap.size+1) Ds st.1 (h :: (r++st.2)) V,DFI.sta (by omega) (fun E hE=>by have:=lO E hE;omega),od.o,fun V2 h2 jv=>?_⟩;obtain⟨rlp,jv⟩:=jv;have I0:=aC jv;clear jv rlp;obtain⟨g2,qv2,k1,k2,k3,k4,k5,k6,k7⟩:=h2.que;rw[vI.o]at k2;have dg:=aa h2;have UD:=aa k1;have CU:=aa k2;have qI:=aa cP;have tb:=ab h2.box 0;have tr:=ab h2.row fv;have tq:=ab k1 0;simp at tb tq;rw[gi _ _ (by omega)]at tr;obtain⟨dv,WD⟩:∃ dv,st.1.getD fv 0=dv:=⟨_,rfl⟩;rw[WD]at tr;have HDV:=aa WD;clear h2 k1 k2 WD cP;have hmem2:fv<eS s:=by rw[HM.o];exact kO
     have hh2:h<eS s:=by rw[HM.o];exact hh
     by_cases Ev:dv<0
     ·have hneg':decide (dv<0)=true:=decide_eq_true Ev;obtain⟨off2,cap2,hqv,hnc2,hcm2,Nd⟩:=CU.o.ex;subst hqv;have Qq:0<ql+1:=by omega
      have th2:V2.cell? ⟨g2,off2,none⟩=some (.int .i64 h):=by
       rcases Nd with h0|⟨cur,fz,c1,c2,c3,c4⟩
       ·omega
       ·rw[ab c1];have h5:=congrArg (fun l=>l[0]?) c4;simp[ww]at h5;simpa using h5
      have trh:=ab dg.o.row h;rw[gi _ _ (by have:=qI.o;omega),Um]at trh;have zr:=aH dg.o.row fv;have HSTEP:am (jJ (D.getD h 0+1) st fv=(st.1.set fv (D.getD h 0+1),st.2++[fv])):=aa (by unfold jJ;rw[HDV.o,if_pos Ev]);have hdh:=MJ FT.o hh2 (by rw[HM.o];exact hE);generalize D.getD h 0=dh at trh Um HSTEP jR hh0 hdh
      have j7:am (∃ cs ty fz,V2.heap[g2]?=some (.cells cs ty fz)):=aa (by
       rcases Nd with h0|⟨cur,fz,c1,_⟩
       ·omega
       ·exact⟨_,_,_,c1⟩)
      clear Ev Nd Um
      gi_wp2
      refine ld 10 (fun ⟨_,_,h⟩=>h) (by kernel_rfl) (by kernel_rfl) (by kernel_rfl) (fun ops Lq hops hLq=>?_);simp only[List.take_succ_cons,List.take_zero,List.drop_succ_cons,List.drop_zero]at hLq ⊢;have CN:=aa hLq;clear hLq;have SL:=aa hops;clear hops
      repeat still_step
      refine wpStill_nil ?_;refine CN.o _ ?_
      go_wp2_with fail
      obtain⟨V3,LA⟩:∃ V3,V3=(V2.setCell ⟨w.heap.size,fv,none⟩ (.int .i64 (dh+1))).drew:=⟨_,rfl⟩;rw[<-LA];have I6:V3.heap.size=V2.heap.size:=by rw[LA];simp
      have im:∀ k,k≠w.heap.size->V3.heap[k]?=V2.heap[k]?:=fun k hk=>by rw[LA];exact Below.heap_setCell _ _ _ _ hk
      have zF:V3.heap[w.heap.size]?=some (.cells (bD (st.1.set fv (dh+1))) 3):=by rw[LA];exact(aI dg.o.row _ _).trans (by rw[l6])
      have hold3:Below w.heap.size w V3:=by rw[LA];exact(dg.o.old.setCell (by dsimp only;omega) _).drew
      clear LA;have NL:=(im bq (by omega)).trans UD.o;have tb3:=ab NL 0;simp at tb3;have HBOX:=aa NL;have ku:=aa zF;have yZ:=aa hold3;have oG:=aa im;have bP:=aa ((CU.o.up (w':=V3) (.inl (im g2 (by omega)))).ck (.of_below ((Below.refl _ V3).alloc (Nat.le_refl _) (.cells #[.int .i64 fv] 3))));have bE:=aa (dU V3 [.int .i64 (fv:Int)] 3);have HNEW2:am (∀ (j:Nat) (x:Value),[Value.int .i64 (fv:Int)][j]?=some x->(V3.alloc (.cells #[.int .i64 fv] 3)).cell? ((⟨V3.heap.size,0,none⟩:Addr).add j)=some x):=bE;have HSZ3:=aa I6;have FG:am (bq≠g2):=aa (Ne.symm k7);clear k7;have j9:am (ql+1+1<=maxLen):=aa (by unfold maxLen;omega);have eW:am ((ql+1+1) * 8<=140737488355328):=aa (by omega);clear NL zF hold3 im th2 trh zr tb tr tq I6
      gi_wp2_with (gi_at_builtin;go_loud (refine zQ _ rfl (.tmp 56) (.tmp 58) 38 rfl 3 i0 _ 8 Tryz.underlying38 df cH cj cI rfl g2 _ (ql+1) _ rfl bP.o ⟨V3.heap.size,0,none⟩ 1 (.int .i64 fv) rfl HNEW2.o rfl j9.o eW.o ?_;intro v4 w4 g4 mB fd hg4;obtain⟨off4,cap4,rfl,-⟩:=mB.ex;have vG:=fd.keep (aq _ HBOX.o) FG.o;have c4:=ab vG 0;have f4:=aH vG 0;simp at c4))
      have y9:=fd.size;have I6:=HSZ3.o;simp only[World.size_alloc]at y9 hg4;have hg2l:=k4;have P8:∀ k,k<V2.heap.size->k≠g2->k≠w.heap.size->w4.heap[k]?=V2.heap[k]?:=fun k h1 h2 h3=>(fd.same k (by simp;omega) h2).trans ((Below.heap_alloc V3 _ k (by omega)).trans (oG.o k h3))
      obtain⟨cs2,ty2,fz2,M6⟩:=j7.o
      have sU:∀ (k:Nat) (o:Obj),V2.heap[k]?=some o->o.isCells=false->(w4.setCell ⟨bq,0,none⟩ (.slice (some ⟨g4,off4,none⟩) (ql+1+1) cap4)).heap[k]?=some o:=fun k o ho hc=>by
       have n1:k≠g2:=fun e=>by subst e;rw[M6]at ho;cases ho;cases hc
       have n2:k≠w.heap.size:=fun e=>by subst e;rw[dg.o.row]at ho;cases ho;cases hc
       have n3:k≠bq:=fun e=>by subst e;rw[UD.o]at ho;cases ho;cases hc
       rw[Below.heap_setCell _ _ _ _ n3];exact(P8 k (aC ho) n1 n2).trans ho
      have hg4l:g4<w4.heap.size:=by
       obtain⟨off5,cap5,_,jz,_,h5⟩:=mB.ex;rcases h5 with h5|⟨cur,fz,c1,_⟩
       ·omega
       ·exact aC c1
      have hg4b:g4≠bq:=by
       rcases hg4 with ⟨e,_⟩|e
       ·rw[e];exact fun h=>FG.o h.symm
       ·omega
      refine⟨⟨by simp;omega,fun k hk=>?_,fun k o _ ho hc=>sU k o ho hc⟩,?_⟩
      ·have ka:k<V2.heap.size/\k≠g2/\k≠w.heap.size/\k≠bq:=by rcases hk with hk|rfl|rfl<;>omega
       rw[Below.heap_setCell _ _ _ _ ka.2.2.2];exact P8 k ka.1 ka.2.1 ka.2.2.1
      ·show DFI s w bq W.heap.size (W.heap.size+1) Ds (eI s h D ((dZ s h).take (i+1))).1 (h :: (r++(eI s h D ((dZ s h).take (i+1))).2)) _
       rw[jR.o,HSTEP.o];refine⟨(fd.below (yZ.o.alloc (by omega) _) (by simp;omega) (by omega)).setCell (by dsimp only;omega) _,?_,?_,⟨g4,_,aI vG _ _,?_,by omega,by simp;omega,by omega,by omega,hg4b⟩,dg.o.marks.keep fun k o ho hc=>sU k o ho hc⟩
       ·exact aO (fd.keep (aq _ ((oG.o _ (by omega)).trans dg.o.box)) (by omega)) (by omega) _ _
       ·exact aO (fd.keep (aq _ ku.o) (by omega)) (by omega) _ _
       ·have e1:(h :: (r++(st.2++[fv]))).length=ql+1+1:=by have:=vI.o;simp only[List.length_cons,List.length_append,List.length_nil]at this ⊢;omega
        have e2:ww (h :: (r++(st.2++[fv])))=ww (h :: (r++st.2))++[Value.int .i64 fv]:=by simp[ww]
        dsimp only;rw[e1,e2];exact mB.up (.inl (Below.heap_setCell _ _ _ _ hg4b))
     ·have hneg':decide (dv<0)=false:=decide_eq_false Ev;have HSAME:am (jJ (D.getD h 0+1) st fv=st):=aa (by unfold jJ;rw[HDV.o,if_neg Ev]);clear Ev
      gi_wp2
      refine⟨Bod.refl _ _ _,?_⟩
      show DFI s w bq W.heap.size (W.heap.size+1) Ds (eI s h D ((dZ s h).take (i+1))).1 (h :: (r++(eI s h D ((dZ s h).take (i+1))).2)) V2
      rw[jR.o,HSAME.o];exact dg.o
    case done=>
     intro D' V hD iQ hK;rw[List.take_of_length_le (Nat.le_refl _)]at iQ;obtain⟨SG,Xm⟩:=Px (by rw[HM.o];exact hf) IT.o FT.o;have oK:(eI s h D (dZ s h)).1.length=eS s:=by rw[yk];exact IT.o
     obtain⟨st,dS⟩:∃ st,eI s h D (dZ s h)=st:=⟨_,rfl⟩;rw[dS]at iQ SG Xm oK;obtain⟨g2,qv2,k1,k2,k3,k4,k5,k6,k7⟩:=iQ.que;obtain⟨ql,og⟩:∃ ql,(h :: (r++st.2)).length=ql+1:=⟨(r++st.2).length,rfl⟩;rw[og]at k2;obtain⟨off2,cap2,rfl,hnc2,hcm2,-⟩:=k2.ex;have tb:=ab k1 0;simp at tb;have od:=aa iQ;have CU:=aa k2;have vI:=aa og;have HBF2:=aa SG;have HMS:=aa Xm;have CO:=aa oK;have hDl2:∀ E∈Ds,E<D':=fun E hE=>by have:=lO E hE;omega
     have HK:=aa hK;clear dS iQ SG Xm oK k1 k2 og dk hK;have xb:am (ql=(r++st.2).length):=aa (by have:=vI.o;simp only[List.length_cons]at this;omega)
     have jD:am (∀ (u:Value) (act:Act),OwnQ V g2 3 u ql (ww (r++st.2))->(∃ (u2 u3 u4 u6 u8 u9 u10 u11 u12 u13 u14 u15 u16 u17 u18 u19 u20 u21 u22 u23 u24 u25 u26 u27 u28 u29 u30 u31 u32 u33 u34 u35 u36 u37 u38 u39 u40 u41 u42 u43 u44 u45 u46 u47 u48 u49 u50 u51 u52 u53 u54 u55 u56 u57 u58 u59 u60 u61:Value),act={ tmps:=#[Value.pointer (some ⟨B,0,none⟩),Value.int .i64 f,u2,u3,u4,Value.pointer (some ⟨w.heap.size+1,0,none⟩),u6,Value.pointer (some ⟨V.heap.size,0,none⟩),u8,u9,u10,u11,u12,u13,u14,u15,u16,u17,u18,u19,u20,u21,u22,u23,u24,u25,u26,u27,u28,u29,u30,u31,u32,u33,u34,u35,u36,u37,u38,u39,u40,u41,u42,u43,u44,u45,u46,u47,u48,u49,u50,u51,u52,u53,u54,u55,u56,u57,u58,u59,u60,u61],defers:=mQ (D' :: Ds) })->∃ m,m<n/\V4 s B f w m act (V.alloc (Obj.cells #[u] 38))):=aa (fun u act hu ⟨u2,u3,u4,u6,u8,u9,u10,u11,u12,u13,u14,u15,u16,u17,u18,u19,u20,u21,u22,u23,u24,u25,u26,u27,u28,u29,u30,u31,u32,u33,u34,u35,u36,u37,u38,u39,u40,u41,u42,u43,u44,u45,u46,u47,u48,u49,u50,u51,u52,u53,u54,u55,u56,u57,u58,u59,u60,u61,ha⟩=>by
      have aB:(r++st.2).length+MH s st.1<n:=by rw[HN.o];exact HMS.o
      have hV1:=od.o.old.size;refine⟨_,aB,st.1,r++st.2,V.heap.size,D' :: Ds,_,_,_,_,_,_,_,_,_,_,_,_,_,_,_,_,_,_,_,_,_,_,_,_,_,_,_,_,_,_,_,_,_,_,_,_,_,_,_,_,_,_,_,_,_,_,_,_,_,_,_,_,_,_,_,_,_,_,ha,rfl,by omega,CO.o,HBF2.o,by omega,by simp,?_⟩;have hz:(V.alloc (Obj.cells #[u] 38)).heap.size=V.heap.size+1:=by simp
      refine⟨od.o.old.alloc hV1 _,aq _ od.o.box,aq _ od.o.row,⟨g2,u,ap _ _,by rw[<-xb.o];exact hu.ck (.of_below (by go_grown)),k3,by omega,by omega,by omega,by omega⟩,?_⟩
      exact cV.cons (od.o.marks.up (by go_grown)) (by omega) (aq _ HK.o) hDl2)
     have tk:=aa (OwnQ.tail (x:=.int .i64 h) (xs:=ww (r++st.2)) CU.o);by_cases hc:cap2=1
     ·subst hc;obtain rfl:ql=0:=by omega
      have Di:=tk.o;rw[if_pos rfl]at Di;have HG:am (∀ act,_->_):=aa (fun act=>jD.o _ act Di);clear Di
      go_wp2_with fail
      exact HG.o _ ⟨_,_,_,_,_,_,_,_,_,_,_,_,_,_,_,_,_,_,_,_,_,_,_,_,_,_,_,_,_,_,_,_,_,_,_,_,_,_,_,_,_,_,_,_,_,_,_,_,_,_,_,_,_,_,_,_,_,_,rfl⟩
     ·have Di:=tk.o;rw[if_neg hc]at Di;have HG:am (∀ act,_->_):=aa (fun act=>jD.o _ act Di);clear Di
      go_wp2_with fail
      exact HG.o _ ⟨_,_,_,_,_,_,_,_,_,_,_,_,_,_,_,_,_,_,_,_,_,_,_,_,_,_,_,_,_,_,_,_,_,_,_,_,_,_,_,_,_,_,_,_,_,_,_,_,_,_,_,_,_,_,_,_,_,_,rfl⟩
theorem Tryz.infoLink:(Tryz.prog.info? 75).map (fun i=>(i.zero,i.size,i.bytes))=some (some (.agg #[.int .i64 0,.int .i64 0]),2,16):=by kernel_rfl
theorem Vq(s:Sys) (e:Nat):(dZ s e).Pairwise (·<·):=List.Pairwise.filter _ List.pairwise_lt_range
theorem Vr{s:Sys} {e i:Nat} {D:List Int} {d:Nat} (hi:i<(dZ s e).length) (hd:D.getD ((dZ s e).getD i 0) 0=d) (hb:∀ j,j<i->D.getD ((dZ s e).getD j 0) 0≠d) (he:D.getD e 0≠d):gP s D d e=(dZ s e).getD i 0:=by
 have e1:(dZ s e).getD i 0=(dZ s e)[i]:=az 0 hi;rw[e1]at hd ⊢;obtain⟨h1,h2,h3⟩:=rp.1 (List.getElem_mem hi);unfold gP;rw[dq (eS s) (dZ s e)[i] _ h1 (fun j hj=>?_) (by rw[hd,h2];simp),Int.toNat_natCast];cases FC:eU s e j with
 | false=>simp
 | true=>
  rw[Bool.and_true];refine decide_eq_false fun hdj=>?_
  have UE:j∈dZ s e:=rp.2 ⟨by omega,FC,fun e2=>he (by rw[<-e2];exact hdj)⟩;obtain⟨i',oU,e'⟩:=List.getElem_of_mem UE;rcases Nat.lt_trichotomy i' i with aB|aB|aB
  ·exact hb i' aB (by rw[az 0 oU,e'];exact hdj)
  ·subst aB;omega
  ·have:=List.pairwise_iff_getElem.1 (Vq s e) i i' hi oU aB;omega
theorem Vs{s:Sys} {f:Nat} (hf:f<eS s) {e d:Nat} (he:e<eS s) (h:(db s f).getD e 0=d+1) (hb:∀ j,j<(dZ s e).length->(db s f).getD ((dZ s e).getD j 0) 0≠d):False:=by
 obtain⟨h1,h2,h3,_⟩:=A3 hf he h;have hm:gP s (db s f) d e∈dZ s e:=rp.2 ⟨h1,h3,fun e2=>by rw[e2]at h2;omega⟩;obtain⟨i,hi,e'⟩:=List.getElem_of_mem hm;exact hb i hi (by rw[az 0 hi,e'];exact h2)
theorem sN{w:World} {base:Nat} {v:Value} {l:List Lk} (h:aJ w base 75 2 v l.length (cK l)) (hx:∀ u∈l,bS u.x/\bS u.p) (hn:l.length<=17592186044416):bJ w v l:=by
 have aT:=fun i (hi:i<l.length) j (u:Value) (hj:j<2) (hu:l[i].c[j]?=some u)=>h.cell (i * 2+j) u (by unfold cK;rw[pH Lk.c 2 (fun _=>rfl) l i j hi hj];exact hu)
 rcases h.2 with ⟨hz,h0⟩|⟨g,cap,cur,fz,rfl,_,hg,_,kE,jc,_⟩
 ·refine⟨none,0,by rw[hz,h0],⟨by omega,by omega,fun _=>rfl⟩,hn,fun i x hi=>?_⟩;have:=(List.getElem?_eq_some_iff.1 hi).1;omega
 ·refine⟨some ⟨g,0,none⟩,cap,rfl,⟨kE,by simp only[maxLen]at jc;omega,fun e=>by cases e⟩,hn,fun i x hi=>⟨g,0,rfl,?_⟩⟩;obtain⟨gX,rfl⟩:=List.getElem?_eq_some_iff.1 hi;obtain⟨r0,r1⟩:=hx _ (List.getElem_mem gX)
  have key:∀ j u,j<2->l[i].c[j]?=some u->w.cell? ⟨g,0+i * 2+j,none⟩=some u:=fun j u hj hu=>by
   obtain⟨g',c',e1,e2⟩:=aT i gX j u hj hu;have:g=g':=by simp at e1;exact e1.1
   rw[this,Nat.zero_add];exact e2
  exact⟨⟨key 0 _ (by omega) rfl,r0⟩,⟨key 1 _ (by omega) rfl,r1⟩⟩
theorem Bm(n:Nat) (q:Nat->Bool):-1<=firstIx n q/\firstIx n q<n\/firstIx n q=-1:=by
 rcases bH n q with ⟨e,_⟩|⟨k,hk,e,_⟩
 ·exact .inr e
 ·exact .inl ⟨by omega,by omega⟩
theorem KU{s:Sys} (hn:nS s<=5) (hE:eS s<=4096) (D:List Int):∀ d e,∀ y∈ky s D d e,bS y.x/\bS y.p
 | 0,_,y,hy=>by simp[ky]at hy
 | d+1,e,y,hy=>by
  rw[ky]at hy;rcases List.mem_cons.1 hy with rfl|hy
  ·have h1:=Bm (eS s) fun g=>decide (D.getD g 0=d)&&eU s e g
   have h2:=Bm (nS s) fun p=>linkB s p e (gP s D d e)
   refine⟨?_,?_⟩
   ·show bS ((gP s D d e:Nat):Int)
    unfold gP;generalize firstIx (eS s) _=z at h1;exact⟨by omega,by omega⟩
   ·show bS (byP s e (gP s D d e))
    unfold byP;generalize firstIx (nS s) _=z at h2;exact⟨by omega,by omega⟩
  ·exact KU hn hE D d _ y hy
structure WkI (s:Sys) (w w1:World) (b11 f cur:Nat) (l:List Lk) (Ds:List Nat) (V:World):Prop where
 old:Below w.heap.size w V
 fin:∀ k,w.heap.size+2<=k->k<w1.heap.size->V.heap[k]?=w1.heap[k]?
 far:V.heap[w1.heap.size]?=some (.cells (bD (db s f)) 3)
 fbox:V.heap[b11]?=some (.cells #[.slice (some ⟨w1.heap.size,0,none⟩) (eS s) (eS s)] 38)
 ebox:V.heap[w.heap.size+1]?=some (.cells #[.int .i64 cur] 3)
 walk:∃ v,V.heap[b11+2]?=some (.cells #[v] 54)/\aJ V (b11+1) 75 2 v l.length (cK l)
 marks:cV w.heap.size Ds V
theorem WkI.sta{s:Sys} {w w1:World} {b11 f cur B:Nat} {l:List Lk} {Ds:List Nat} (hB:w.heap.size<=B) (hB1:w1.heap.size<=B) (hD:∀ E∈Ds,E<B) (NK:∀ k,w.heap.size+2<=k->k<w1.heap.size->∃ o,w1.heap[k]?=some o):cN B (WkI s w w1 b11 f cur l Ds):=fun A A' c h=>by
 obtain⟨v,h1,h2⟩:=h.walk;refine⟨c.below hB h.old.size h.old,fun k k1 k2=>?_,c.same _ _ h.far (.inr rfl),c.same _ _ h.fbox (.inr rfl),c.same _ _ h.ebox (.inr rfl),⟨v,c.same _ _ h1 (.inr rfl),h2.ck c.ck⟩,cN.marks hD A A' c h.marks⟩;obtain⟨o,ho⟩:=NK k k1 k2;rw[ho];exact c.same _ _ ((h.fin k k1 k2).trans ho) (.inl (by omega))
def V6(s:Sys) (B f:Nat) (full:List Lk) (w w1:World) (b11:Nat) (n:Nat) (act:Act) (W:World):Prop:=∃ (cur:Nat) (l:List Lk) (Ds:List Nat) (u0 u1 u5 u6 u7 u8 u10 u13 u14 u15 u16 u17 u18 u19 u20 u21 u22 u23 u24 u25 u26 u27 u28 u29 u30 u31 u32 u33 u34 u35 u36 u37 u38 u39 u40 u41 u42 u43 u44 u45 u46 u47 u48 u49 u50 u51 u52 u53 u54 u55 u56 u57 u58 u59 u60 u61 u62:Value),
 act={ tmps:=#[u0,u1,Value.int .i64 f,Value.pointer (some ⟨w.heap.size,0,none⟩),Value.pointer (some ⟨w.heap.size+1,0,none⟩),u5,u6,u7,u8,Value.pointer (some ⟨B,0,none⟩),u10,Value.pointer (some ⟨b11,0,none⟩),Value.pointer (some ⟨b11+2,0,none⟩),u13,u14,u15,u16,u17,u18,u19,u20,u21,u22,u23,u24,u25,u26,u27,u28,u29,u30,u31,u32,u33,u34,u35,u36,u37,u38,u39,u40,u41,u42,u43,u44,u45,u46,u47,u48,u49,u50,u51,u52,u53,u54,u55,u56,u57,u58,u59,u60,u61,u62],defers:=mQ Ds }/\cur<eS s/\(db s f).getD cur 0=n/\l++ky s (db s f) n cur=full/\b11+2<W.heap.size/\WkI s w w1 b11 f cur l Ds W
theorem Pz(s:Sys) (hv:verifyE s=0) (hE:eS s<=256) (vc vs vt ve:Value) (e f:Nat) (he:e<eS s) (hf:f<eS s) (hD:0<=(db s f).getD e 0) (w:World) (hs:IsSys w s vc vs vt ve) (hN:movesN s.prob.a.states<1099511627776) :
  Calls Tryz.prog 90 #[.agg (bZ s.prob vc vs s.n vt ve),.int .i64 e,.int .i64 f] w fun r w'=>∃ u,r=.returned (.tuple #[u,.bool true,.int .i64 0])/\(bJ w' u (⟨e,-1⟩ :: kj s e f)/\∀ k,u.ownBlock=some k->w.heap.size<=k)/\Below w.heap.size w w':=by
 have HS:=aa hs;obtain⟨⟨pc,cc,rfl⟩,⟨ps,cs,rfl⟩,⟨pt,ct,rfl⟩,⟨pe,ce,rfl⟩⟩:=bM hs;clear hs
 have HC:am (∀ W,Below w.heap.size w W->∀ vl,aX W vl [(e:Int),f]->_):=aa (fun W (hb:Below w.heap.size w W) vl (hl:aX W vl [(e:Int),f])=>Mz s hv _ _ _ _ vl [(e:Int),f] W (HS.o.up hb) hN hl (fun k hk=>by
  rcases k with _|_|k
  ·exact⟨by simp,by simpa using he⟩
  ·exact⟨by simp,by simpa using hf⟩
  ·simp at hk;omega))
 have dL:=aa (ja hv);have HE:=aa he;have Dh:=aa hf;have HDD:=aa hD;obtain⟨i0,df,cH,cj,cI⟩:=info_parts Tryz.infoLink;obtain⟨full,pV⟩:∃ full,(⟨e,-1⟩ :: kj s e f:List Lk)=full:=⟨_,rfl⟩;rw[pV];have IU:=aa pV;clear hv hD pV;refine gc Tryz.func90 rfl ?_;simp only[Tryz.ntmps90,List.size_toArray,List.length_cons,List.length_nil,Nat.reduceAdd,Nat.reduceSub,Array.replicate_succ,Array.replicate_zero,List.push_toArray,List.append_toArray,List.nil_append,List.cons_append]
 go_wp2_with fail
 refine aQ (fun W=>Below w.heap.size w W/\W.heap[w.heap.size+1]?=some (.cells #[.int .i64 e] 3)/\W.heap[w.heap.size+1+1]?=some (.cells (bD [(e:Int),f]) 3)) ⟨by go_grown,aq _ (bu _ _ _),eD _ _ _ _⟩ (fun W0 bd=>?_);obtain⟨aK,vy,XT⟩:=bd;have mM:=aC XT;refine(HC.o W0 aK _ (rA (by rfl) (by decide) XT fun i hi=>?_)).mono ?_
 ·have:i=0\/i=1:=by simp at hi;omega
  have h1:=HE.o;have h2:=Dh.o;rcases this with rfl|rfl
  ·exact⟨by simp<;>omega,by simp<;>omega⟩
  ·exact⟨by simp<;>omega,by simp<;>omega⟩
 rintro r w1 ⟨B,rfl,aM,hF1,LH⟩;have At:=af aM vy;have bL:=aa (ae aK aM);have kG:=aa At;have gE:=aa (LH.mono (show w.heap.size+2<=W0.heap.size by omega));have fT:w.heap.size+1<w1.heap.size:=by have:=aM.size;omega
 clear aK vy XT aM hF1 LH At mM HC W0
 go_wp2_with fail
 refine(Py s dL.o hE B f Dh.o _ w1 gE.o).mono ?_;rintro r w2 ⟨rfl,M3,aZ⟩;have ed:=af aZ kG.o;have tx2:∀ o,(w2.alloc o).cell? ⟨w.heap.size+1,0,none⟩=some (.int .i64 e):=fun o=>(ab (aq o ed) 0).trans rfl
 have tfe:∀ o,(w2.alloc o).cell? ⟨w1.heap.size,e,none⟩=some (.int .i64 ((db s f).getD e 0)):=fun o=>(ab (aq o M3) e).trans (gi _ _ (by rw[vU];exact he))
 obtain⟨n0,oN⟩:∃ n0:Nat,(db s f).getD e 0=n0:=⟨((db s f).getD e 0).toNat,by have:=HDD.o;omega⟩;rw[oN]at tfe;have QR:=aa oN;obtain⟨m,hm⟩:∃ m,eS s=m:=⟨_,rfl⟩;have HM:=aa hm;have cX:=aa aZ;have HFAR:=aa M3;have fZ:=aa ed;have gV:w1.heap.size<w2.heap.size:=aC M3;rw[hm]at hE he hf ⊢;clear aZ M3 ed oN hm;have pV:=IU.o
 have M5:am (full.length<=257/\∀ y∈full,bS y.x/\bS y.p):=aa (by
  have h1:=(xL (s:=s) Dh.o n0 e HE.o QR.o).2.2;have h2:=DF (s:=s) Dh.o e HE.o;have h3:=QR.o;have h4:=HM.o;rw[<-pV];unfold kj;rw[h3,Int.toNat_natCast];refine⟨by simp only[List.length_cons,h1];omega,fun y hy=>?_⟩;rcases List.mem_cons.1 hy with rfl|hy
  ·exact⟨⟨by dsimp only;omega,by dsimp only;omega⟩,⟨by dsimp only;omega,by dsimp only;omega⟩⟩
  ·exact KU dL.o.n.2.1 (by omega) _ _ _ y hy)
 have HFULL:am ([(⟨e,-1⟩:Lk)]++ky s (db s f) n0 e=full):=aa (by rw[<-pV];unfold kj;rw[QR.o,Int.toNat_natCast];rfl);clear pV
 go_wp2_with fail
 have BE:am (∀ (cur:Nat) (l:List Lk) (Ds:List Nat) (B0:Nat),w1.heap.size<=B0->(∀ E∈Ds,E<B0)->cN B0 (WkI s w w1 w2.heap.size f cur l Ds)):=aa (fun cur l Ds B0 h1 h2=>WkI.sta (by omega) h1 h2 fun k _ hk=>⟨w1.heap[k],by rw[Array.getElem?_eq_getElem hk]⟩)
 have iO:am (WkI s w w1 w2.heap.size f e [⟨e,-1⟩] [] (((w2.alloc (Obj.cells #[Value.slice (some { block:=w1.heap.size,off:=0 }) m m] 38)).alloc (Obj.cells #[Value.int .i64 e,Value.int .i64 (-1)] 75)).alloc (Obj.cells #[Value.slice (some { block:=w2.heap.size+1,off:=0 }) 1 1] 54))):=aa (by
  have hg:Below w2.heap.size w2 (((w2.alloc (Obj.cells #[Value.slice (some { block:=w1.heap.size,off:=0 }) m m] 38)).alloc (Obj.cells #[Value.int .i64 e,Value.int .i64 (-1)] 75)).alloc (Obj.cells #[Value.slice (some { block:=w2.heap.size+1,off:=0 }) 1 1] 54)):=by go_grown
  refine⟨ae bL.o (ae cX.o hg),fun k _ hk=>?_,af hg HFAR.o,?_,af hg fZ.o,⟨_,eD _ _ _ _,?_⟩,cV.nil _ _⟩
  ·rw[hg.block k (by omega),cX.o.block k hk]
  ·rw[HM.o];exact aq _ (aq _ (ap _ _))
  ·exact⟨rfl,.inr ⟨w2.heap.size+1,1,_,(0,0),rfl,Nat.le_refl _,aq _ (bu _ _ _),fun i _ h=>by have:=h.2;simp at this,Nat.le_refl _,by unfold maxLen;omega,rfl,rfl⟩⟩)
 refine AY (fun n act W=>V6 s B f full w w1 w2.heap.size n act W) n0 ?start ?round
 case start=>exact⟨e,[⟨e,-1⟩],[],_,_,_,_,_,_,_,_,_,_,_,_,_,_,_,_,_,_,_,_,_,_,_,_,_,_,_,_,_,_,_,_,_,_,_,_,_,_,_,_,_,_,_,_,_,_,_,_,_,_,_,_,_,_,_,_,_,rfl,HE.o,QR.o,HFULL.o,by simp,iO.o⟩
 case round=>
  clear iO QR HFULL tx2 tfe fZ HFAR kG;generalize w2.heap.size=b11 at gV BE cX;rintro n act W ⟨cur,l,Ds,u0,u1,u5,u6,u7,u8,u10,u13,u14,u15,u16,u17,u18,u19,u20,u21,u22,u23,u24,u25,u26,u27,u28,u29,u30,u31,u32,u33,u34,u35,u36,u37,u38,u39,u40,u41,u42,u43,u44,u45,u46,u47,u48,u49,u50,u51,u52,u53,u54,u55,u56,u57,u58,u59,u60,u61,u62,rfl,bU,QK,pV,dy,hI⟩;obtain⟨v,jW,bg⟩:=hI.walk;obtain⟨av,cv,rfl⟩:=bg.slice;have te:=ab hI.ebox 0;have tw:=ab jW 0;simp at te tw;have HI:=aa hI;have oA:=aa jW;have bP:=aa bg;have IQ:=aa QK;have AU:=aa pV;have ju:=aa bU;clear hI jW bg QK pV;by_cases F8:cur=f
  ·have bR:((cur:Int) != (f:Int))=false:=by simp[F8]
   have HL:am (l=full):=aa (by
    have h0:=(lh (s:=s) (f:=f) Dh.o).zero;have h1:=IQ.o;rw[F8]at h1;have h2:n=0:=by omega
    have h3:=AU.o;rw[h2]at h3
    simpa[ky] using h3)
   clear F8
   go_wp2_with fail
   refine qZ HI.o.marks (v:=.tuple #[.slice av l.length cv,.bool true,.int .i64 0]) ?_ ⟨_,rfl,?_,mu (fun D hD=>(HI.o.marks.2 D hD).1) (Nat.le_refl _) HI.o.old⟩
   ·simp[results,Tryz.results90,go_sem]
   ·rw[HL.o]at bP ⊢;exact⟨sN (bP.o.ck (qY HI.o.marks)) M5.o.2 (by have:=M5.o.1;omega),fun k hk=>by have:=(bP.o.lt k hk).1;omega⟩
  ·have bR:((cur:Int) != (f:Int))=true:=by simp;omega
   obtain⟨d,hd⟩:∃ d,n=d+1:=by
    refine⟨n - 1,?_⟩;rcases Nat.eq_zero_or_pos n with h0|h0
    ·exact absurd ((lh (s:=s) (f:=f) Dh.o).only cur bU (by rw[IQ.o,h0];rfl)) F8
    ·omega
   have Fz:=aa hd;clear F8 hd
   go_wp2_with fail
   refine(uO B cur W).mono ?_;rintro r w3 ⟨rfl,rfl⟩;clear te tw
   go_wp2_with fail
   have lO:∀ E∈Ds,E<W.heap.size:=HI.o.marks.lt;refine bF (fun V=>WkI s w w1 b11 f cur l Ds V/\V.heap[W.heap.size]?=some (.cells #[.pointer (some ⟨B,0,none⟩)] 196)/\V.heap[W.heap.size+1]?=some (.cells #[.int .i64 cur] 3)/\W.heap.size+1<V.heap.size) ⟨BE.o cur l Ds W.heap.size (by omega) lO _ _ (Chg.of_below (by go_grown)) HI.o,aq _ (ap _ _),bu _ _ _,by simp⟩ (fun W1 cO=>?_);obtain⟨xo,At,Jr,Xc⟩:=cO;have dk:=sL s dL.o B cur W.heap.size (W.heap.size+1) ju.o (w.heap.size+2) w1 gE.o W1 (fun k h1 h2=>xo.fin k h1 h2) (by omega) (by simp[ab At]) (by simp[ab Jr]);have gt:am (∀ i,i<(dZ s cur).length->(db s f).getD ((dZ s cur).getD i 0) 0=d->(∀ j,j<i->(db s f).getD ((dZ s cur).getD j 0) 0≠d)->gP s (db s f) d cur=(dZ s cur).getD i 0):=aa (fun i h1 h2 h3=>Vr h1 h2 h3 (by have:=IQ.o;have:=Fz.o;omega))
   refine mD (gf:=179) (lb:=#[.pointer (some ⟨W.heap.size,0,none⟩),.pointer (some ⟨W.heap.size+1,0,none⟩)]) rfl (enters_of Tryz.func179 (by kernel_rfl) rfl) dk (Below.refl _ _) (fun k hk=>by rcases hk with hk|rfl|rfl<;>omega) (fun i=>rfl)
    (fun i V=>(WkI s w w1 b11 f cur l Ds V/\V.heap[W.heap.size]?=some (.cells #[.pointer (some ⟨B,0,none⟩)] 196)/\V.heap[W.heap.size+1]?=some (.cells #[.int .i64 cur] 3))/\∀ j,j<i->(db s f).getD ((dZ s cur).getD j 0) 0≠d)
    (fun c i V=>c=.exit 2/\WkI s w w1 b11 f (gP s (db s f) d cur) (l++[⟨gP s (db s f) d cur,byP s cur (gP s (db s f) d cur)⟩]) Ds V)
    (fun i=>((BE.o cur l Ds _ (by omega) (fun E hE=>by have:=lO E hE;omega)).and (cN.cells.and cN.cells)).and cN.pure) (fun c i=>cN.pure.and (BE.o _ _ Ds _ (by omega) (fun E hE=>by have:=lO E hE;omega))) ⟨⟨xo,At,Jr⟩,fun j hj=>by omega⟩ ?rnd ?done ?stop
   case done=>
    intro D' V hD iQ hK;exact(Vs Dh.o ju.o (by rw[IQ.o,Fz.o];rfl) iQ.2).elim
   case stop=>
    rintro D' c i V hD hi ⟨rfl,iQ⟩ hK
    have HG:am (∀ act:Act,(∃ (u0 u1 u5 u6 u7 u8 u10 u13 u14 u15 u16 u17 u18 u19 u20 u21 u22 u23 u24 u25 u26 u27 u28 u29 u30 u31 u32 u33 u34 u35 u36 u37 u38 u39 u40 u41 u42 u43 u44 u45 u46 u47 u48 u49 u50 u51 u52 u53 u54 u55 u56 u57 u58 u59 u60 u61 u62:Value),act={ tmps:=#[u0,u1,Value.int .i64 f,Value.pointer (some ⟨w.heap.size,0,none⟩),Value.pointer (some ⟨w.heap.size+1,0,none⟩),u5,u6,u7,u8,Value.pointer (some ⟨B,0,none⟩),u10,Value.pointer (some ⟨b11,0,none⟩),Value.pointer (some ⟨b11+2,0,none⟩),u13,u14,u15,u16,u17,u18,u19,u20,u21,u22,u23,u24,u25,u26,u27,u28,u29,u30,u31,u32,u33,u34,u35,u36,u37,u38,u39,u40,u41,u42,u43,u44,u45,u46,u47,u48,u49,u50,u51,u52,u53,u54,u55,u56,u57,u58,u59,u60,u61,u62],defers:=mQ (D' :: Ds) })->∃ m,m<n/\V6 s B f full w w1 b11 m act V):=aa (by
     rintro act ⟨u0,u1,u5,u6,u7,u8,u10,u13,u14,u15,u16,u17,u18,u19,u20,u21,u22,u23,u24,u25,u26,u27,u28,u29,u30,u31,u32,u33,u34,u35,u36,u37,u38,u39,u40,u41,u42,u43,u44,u45,u46,u47,u48,u49,u50,u51,u52,u53,u54,u55,u56,u57,u58,u59,u60,u61,u62,ha⟩;have h1:=Fz.o;have h2:=A3 (s:=s) Dh.o ju.o (d:=d) (by rw[IQ.o,h1];rfl);obtain⟨v5,k1,_⟩:=iQ.walk;refine⟨d,by omega,_,_,D' :: Ds,_,_,_,_,_,_,_,_,_,_,_,_,_,_,_,_,_,_,_,_,_,_,_,_,_,_,_,_,_,_,_,_,_,_,_,_,_,_,_,_,_,_,_,_,_,_,_,_,_,_,_,_,_,_,_,_,_,ha,h2.1,h2.2.1,?_,aC k1,{ iQ with marks:=cV.cons iQ.marks (by omega) hK fun E hE=>by have:=lO E hE;omega }⟩;have h3:=AU.o;rw[h1]at h3;rw[<-h3,List.append_assoc]
     rfl)
    clear iQ hK dk xo At Jr
    go_wp2_with fail
    exact HG.o _ ⟨_,_,_,_,_,_,_,_,_,_,_,_,_,_,_,_,_,_,_,_,_,_,_,_,_,_,_,_,_,_,_,_,_,_,_,_,_,_,_,_,_,_,_,_,_,_,_,_,_,_,_,_,_,_,_,_,_,rfl⟩
   case rnd=>
    intro yl i V hi hl iQ;obtain⟨iQ,jw⟩:=iQ;unfold In;obtain⟨nb,iM⟩:∃ nb,(dZ s cur).getD i 0=nb:=⟨_,rfl⟩
    have kO:nb<eS s:=by
     rw[<-iM,az 0 hi];exact(rp.1 (List.getElem_mem hi)).1
    have HNXT:=aa (fun h=>gt.o i hi h jw);have fY:am ((db s f).getD nb 0≠d->∀ j,j<i+1->(db s f).getD ((dZ s cur).getD j 0) 0≠d):=aa (fun h=>aV jw (by rw[iM];exact h));rw[iM]at HNXT ⊢;have od:=aa iQ;obtain⟨pv,XJ⟩:∃ pv,byP s cur nb=pv:=⟨_,rfl⟩;rw[XJ];have Jb:=aa XJ;clear iQ dk iM jw XJ xo At Jr
    gi_wp2
    refine⟨Bod.refl _ _ _,fun V=>WkI s w w1 b11 f cur l Ds V/\V.heap[W.heap.size]?=some (.cells #[.pointer (some ⟨B,0,none⟩)] 196)/\V.heap[W.heap.size+1]?=some (.cells #[.int .i64 cur] 3),(BE.o cur l Ds _ (by omega) (fun E hE=>by have:=lO E hE;omega)).and (cN.cells.and cN.cells),od.o,fun V2 h2 jv=>?_⟩;obtain⟨rlp,jv⟩:=jv;have I0:=aC jv;clear jv rlp;obtain⟨h2,ed,iK⟩:=h2;obtain⟨v2,k1,k2⟩:=h2.walk;obtain⟨av2,cv2,rfl⟩:=k2.slice;have dg:=aa h2;have UD:=aa k1;have CU:=aa k2;have fZ:=aa ed;have vz:=aa iK;have tf:=ab h2.fbox 0;have te:=ab h2.ebox 0;have tn:=ab h2.far nb;have tc:=ab h2.far cur;rw[gi _ _ (by rw[vU];exact kO)]at tn;rw[gi _ _ (by rw[vU];exact bU),IQ.o]at tc;simp at tf te;rw[HM.o]at tf;have yf:∀ z:ExtW V2,z.val.cell? ⟨b11,0,none⟩=_:=fun z=>z.cell tf
    have ye:∀ z:ExtW V2,z.val.cell? ⟨w.heap.size+1,0,none⟩=_:=fun z=>z.cell te
    have jB:IntKind.i64.wrap ((n:Int) - 1)=(d:Int):=by have:=Fz.o;have:=M5.o.1;have h5:=congrArg List.length AU.o;rw[IntWalk.i64_in _ (by have h6:=DF (s:=s) Dh.o cur bU;have:=IQ.o;have:=HM.o;omega)];omega
    have hnm:nb<m:=by have:=HM.o;omega
    have qz:cur<m:=by have:=HM.o;omega
    clear h2 k1 k2 ed iK;by_cases LB:(db s f).getD nb 0=d
    ·have iP:=aa (HNXT.o LB);rw[LB]at tn;have yn:∀ z:ExtW V2,z.val.cell? ⟨w1.heap.size,nb,none⟩=_:=fun z=>z.cell tn
     have yc:∀ z:ExtW V2,z.val.cell? ⟨w1.heap.size,cur,none⟩=_:=fun z=>z.cell tc
     clear LB tn tc tf te
     gi_wp2
     refine pW (fun ⟨_,_,h⟩=>h) (by kernel_rfl) (by kernel_rfl) (by kernel_rfl) ?_
     repeat (go_big_quiet_step (fail))
     refine wpQuiet_nil ?_;rintro _ ⟨xq,rfl⟩;have oI:=xq.ext;generalize xq.val=V3 at oI ⊢;clear yf ye yn yc;have Jk:=aa oI;have h3:=BE.o cur l Ds W1.heap.size (by omega) (fun E hE=>by have:=lO E hE;omega) _ _ (Chg.of_below oI) dg.o;have k1:=af oI UD.o;have k2:=CU.o.ck (.of_below oI);have I6:=oI.size;have tw:=ab k1 0;simp at tw;have rL:=aa h3;have oG:=aa k1;have dm:=aa (k2.up ((Below.refl _ V3).alloc (Nat.le_refl _) (.cells #[.int .i64 nb,.int .i64 pv] 75)));have bE:=aa (dU V3 [.int .i64 nb,.int .i64 pv] 75);have kW:am (l.length+1<=300):=aa (by have h5:=congrArg List.length AU.o;have:=M5.o.1;simp only[List.length_append]at h5;omega);have j9:am (l.length+1<=maxLen):=aa (by have:=kW.o;unfold maxLen;omega);have eW:am ((l.length+1) * 16<=140737488355328):=aa (by have:=kW.o;omega);have gC:am (b11+1<=(V3.alloc (.cells #[.int .i64 nb,.int .i64 pv] 75)).heap.size):=aa (by simp;omega);have hne1:¬ (b11+2=w.heap.size+1):=by omega
     clear oI h3 k1 k2
     go_wp2_with fail
     gi_wp2_with (gi_at_builtin;(refine qN _ rfl (.tmp 55) (.tmp 59) 54 rfl (b11+1) 75 i0 _ 2 16 Tryz.underlying54 df cH cj cI rfl (by decide) _ l.length _ rfl dm.o ⟨V3.heap.size,0,none⟩ 1 1 [.int .i64 nb,.int .i64 pv] rfl rfl bE.o (by simp[Value.oneCell']) j9.o eW.o gC.o ?_;intro v4 w4 mB fd _;obtain⟨av4,cv4,rfl⟩:=mB.slice;have vG:=ig dm.o fd oG.o (by decide);have T0:=ig dm.o fd rL.o.ebox (by decide);have c4:=ab vG 0;have f4:=aH vG 0;have c5:=ab T0 0;have f5:=aH T0 0;simp at c4 c5))
     have y9:=fd.size;simp only[World.size_alloc]at y9;have P8:∀ k,k<V3.heap.size->(∀ g,(Value.slice av2 l.length cv2).ownBlock=some g->k≠g)->w4.heap[k]?=V3.heap[k]?:=fun k h1 h2=>(fd.block k (by simp;omega) (fun e=>h2 k e.symm rfl)).trans (Below.heap_alloc V3 _ k h1)
     have sU:∀ (k:Nat) (o:Obj),V3.heap[k]?=some o->o.isCells=false->((w4.setCell ⟨b11+2,0,none⟩ (.slice av4 (l.length+1) cv4)).setCell ⟨w.heap.size+1,0,none⟩ (.int .i64 nb)).heap[k]?=some o:=fun k o ho hc=>by
      have n1:k≠w.heap.size+1:=fun e=>by subst e;rw[rL.o.ebox]at ho;cases ho;cases hc
      have n2:k≠b11+2:=fun e=>by subst e;rw[oG.o]at ho;cases ho;cases hc
      rw[Below.heap_setCell _ _ _ _ n1,Below.heap_setCell _ _ _ _ n2];exact mW dm.o fd ho hc
     have T1:∀ (k:Nat) (c:Array Value) (ty:TypeId) (fz:Nat × Nat),V3.heap[k]?=some (.cells c ty fz)->75≠ty->k≠w.heap.size+1->k≠b11+2->((w4.setCell ⟨b11+2,0,none⟩ (.slice av4 (l.length+1) cv4)).setCell ⟨w.heap.size+1,0,none⟩ (.int .i64 nb)).heap[k]?=some (.cells c ty fz):=fun k c ty fz h1 h2 h3 h4=>by
      rw[Below.heap_setCell _ _ _ _ h3,Below.heap_setCell _ _ _ _ h4];exact ig dm.o fd h1 h2
     have wX:=af Jk.o fZ.o;have hy3:=af Jk.o vz.o;refine⟨⟨by simp;have:=Jk.o.size;omega,fun k hk=>?_,fun k o _ ho hc=>sU k o (af Jk.o ho) hc⟩,rfl,?_⟩
     ·rcases hk with hk|rfl|rfl
      ·have h1:=w1.heap[k];have h2:V2.heap[k]?=some w1.heap[k]:=(dg.o.fin k hk.1 hk.2).trans (by rw[Array.getElem?_eq_getElem hk.2]);rw[h2,Below.heap_setCell _ _ _ _ (by dsimp only;omega),Below.heap_setCell _ _ _ _ (by dsimp only;omega)];exact sD dm.o fd (af Jk.o h2) (by omega)
      ·rw[fZ.o];exact T1 _ _ _ _ wX (by decide) (by omega) (by omega)
      ·rw[vz.o];exact T1 _ _ _ _ hy3 (by decide) (by omega) (by omega)
     ·rw[iP.o,Jb.o];refine⟨((eK rL.o.old (by omega) dm.o fd).setCell (by dsimp only;omega) _).setCell (by dsimp only;omega) _,fun k h1 h2=>?_,?_,?_,?_,⟨_,aO (aI vG _ _) (by omega) _ _,?_⟩,rL.o.marks.keep sU⟩
      ·have h3:V3.heap[k]?=some w1.heap[k]:=(rL.o.fin k h1 h2).trans (by rw[Array.getElem?_eq_getElem h2]);rw[Array.getElem?_eq_getElem h2,Below.heap_setCell _ _ _ _ (by dsimp only;omega),Below.heap_setCell _ _ _ _ (by dsimp only;omega)];exact sD dm.o fd h3 (by omega)
      ·exact T1 _ _ _ _ rL.o.far (by decide) (by omega) (by omega)
      ·exact T1 _ _ _ _ rL.o.fbox (by decide) (by omega) (by omega)
      ·exact aI (aO T0 (by omega) _ _) _ _
      ·have e1:(l++[(⟨nb,pv⟩:Lk)]).length=l.length+1:=by simp
       have e2:cK (l++[(⟨nb,pv⟩:Lk)])=cK l++[Value.int .i64 nb,Value.int .i64 pv]:=by rw[nK];rfl
       rw[e1,e2];have o5:=mB.put (mB.ne vG (by decide)) 0 (Value.slice av4 (l.length+1) cv4);exact o5.put (o5.ne (aO T0 (by omega) 0 (Value.slice av4 (l.length+1) cv4)) (by decide)) _ _
    ·have SH:=aa (fY.o LB);have hdne:((db s f).getD nb 0 == (d:Int))=false:=beq_eq_false_iff_ne.2 LB;generalize (db s f).getD nb 0=dn at tn hdne;have yn:∀ z:ExtW V2,z.val.cell? ⟨w1.heap.size,nb,none⟩=_:=fun z=>z.cell tn
     have yc:∀ z:ExtW V2,z.val.cell? ⟨w1.heap.size,cur,none⟩=_:=fun z=>z.cell tc
     clear LB tn tc tf te
     gi_wp2
     refine pW (fun ⟨_,_,h⟩=>h) (by kernel_rfl) (by kernel_rfl) (by kernel_rfl) ?_
     repeat (go_big_quiet_step (fail))
     refine wpQuiet_nil ?_;rintro _ ⟨xq,rfl⟩;have oI:=xq.ext;generalize xq.val=V3 at oI ⊢;clear yf ye yn yc hdne
     gi_wp2
     exact⟨Bod.of_below (fun k hk=>by rcases hk with hk|rfl|rfl<;>omega) oI,⟨BE.o cur l Ds W1.heap.size (by omega) (fun E hE=>by have:=lO E hE;omega) _ _ (Chg.of_below oI) dg.o,af oI fZ.o,af oI vz.o⟩,SH.o⟩
theorem Vt(d:Nat) (a b:Lk) (w:World):(Op.equalIn (d+2) 75 a.v b.v).run Tryz.prog w=.ok (decide (a=b)) w:=by
 have hS:Tryz.prog.underlying 75=some (.struct (Tryz.prog.fieldsOf 75)):=by kernel_rfl
 have hp:Tryz.prog.stoodInHeld 75=false:=by kernel_rfl
 rw[run_equalIn_struct w (d+1) 75 _ _ hS hp];have ag:=Tryz.isAgg3;have u3:=Tryz.underlying3;simp only[Program.fieldsOf,Tryz.underlying75];simp[Op.eqFields,part,ag,run_equalIn_int w d 3 _ .i64 _ _ u3];obtain⟨n,k⟩:=a;obtain⟨m,l⟩:=b;by_cases hn:n=m
 case neg=>simp[hn]
 by_cases hk:k=l<;>simp[hn,hk]
theorem V7(a b:Lk) (w:World):(binOp .neq 75 a.v b.v).run Tryz.prog w=.ok (.bool (!decide (a=b))) w:=by
 rw[run_neq_struct,Vt 9998];rfl
theorem MM(va vb:Value) (a b:List Lk) (w:World) (ha:bJ w va a) (hb:bJ w vb b) :
  Calls Tryz.prog 53 #[va,vb] w fun e w'=>e=.returned (.bool (decide (a=b)))/\Below w.heap.size w w':=by
 obtain⟨pa,ca,rfl,la1,la2,ea⟩:=ha.at;obtain⟨pb,cb,rfl,lb1,lb2,eb⟩:=hb.at;have EA:=aa ea;have EB:=aa eb;have hZ:am (a.length=b.length->(∀ j,j<a.length->a.getD j default=b.getD j default)->decide (a=b)=true):=aa fun h1 h2=>decide_eq_true (fj default h1 h2)
 have iP:am (a.length≠b.length->decide (a=b)=false):=aa fun h=>decide_eq_false fun e=>h (by rw[e])
 have oT:am (∀ j,j<a.length->a.getD j default≠b.getD j default->decide (a=b)=false):=aa fun j _ h=>decide_eq_false fun e=>h (by rw[e])
 generalize decide (a=b)=r at hZ iP oT ⊢;clear ha hb ea eb
 go_enter Tryz.func53,Tryz.ntmps53
 by_cases hl:a.length=b.length
 case neg=>
  have hd:(((a.length:Nat):Int) != ((b.length:Nat):Int))=true:=by simp;omega
  have HR:=aa (iP.o hl);clear hl
  go_wp2_with fail
  go_ret
  exact⟨aS (by rw[HR.o]),Below.refl _ _⟩
 have HL:=aa hl;obtain⟨n,hn⟩:∃ n,a.length=n:=⟨_,rfl⟩;have iM:b.length=n:=by omega
 have HN:=aa hn;have Aq:=aa iM;rw[hn]at la1 la2 ⊢;rw[iM]at lb1 lb2 ⊢;clear hl hn iM;have hd:((n:Int) != (n:Int))=false:=by simp
 go_wp2_with fail
 go_loopw [5] (fun i wr=>∃ k:Nat,k<=n/\i=.int .i64 k/\Below w.heap.size w wr/\∀ j,j<k->a.getD j default=b.getD j default) (fun i _=>n - (intOf i).toNat)
 ·exact⟨0,by omega,rfl,Below.refl _ _,fun j hj=>by omega⟩
 ·
  obtain⟨k,hk,rfl,aA,aU⟩:=hrel;have H:=aa aU;have aY:=aa aA;clear aU;by_cases aB:k<n
  ·obtain⟨b1,o1,rfl,h1⟩:=EA.o k (by rw[HN.o];exact aB);obtain⟨b2,o2,rfl,h2⟩:=EB.o k (by rw[Aq.o];exact aB);have qm:=aa (az (default:Lk) (show k<a.length by rw[HN.o];exact aB));have rK:=aa (az (default:Lk) (show k<b.length by rw[Aq.o];exact aB));generalize a[k]'(by rw[HN.o];exact aB)=x at h1 qm;generalize b[k]'(by rw[Aq.o];exact aB)=y at h2 rK;have c0:∀ z:ExtW wr,z.val.cell? ⟨b1,o1+k * 2,none⟩=_:=fun z=>z.cell (ak aA h1.1.1)
   have c1:∀ z:ExtW wr,z.val.cell? ⟨b1,o1+k * 2+1,none⟩=_:=fun z=>z.cell (ak aA h1.2.1)
   have d0:∀ z:ExtW wr,z.val.cell? ⟨b2,o2+k * 2,none⟩=_:=fun z=>z.cell (ak aA h2.1.1)
   have d1:∀ z:ExtW wr,z.val.cell? ⟨b2,o2+k * 2+1,none⟩=_:=fun z=>z.cell (ak aA h2.2.1)
   have jQ:=fun w=>V7 x y w
   clear h1 h2 aA;cases cC:decide (x=y) with
   | true=>
    have ou:=aa (of_decide_eq_true cC);rw[cC]at jQ;clear cC
    go_wp2_with fail
    refine aF (by kernel_rfl) (by kernel_rfl) ?_
    repeat (go_big_quiet_step (fail))
    refine wpQuiet_nil ?_;rintro _ ⟨xq,rfl⟩;clear c0 c1 d0 d1 jQ
    go_wp2_with fail
    go_roundw
    ·exact⟨k+1,by omega,by go_num,ae aY.o xq.ext,aV (p:=fun j=>a.getD j default=b.getD j default) H.o (by rw[qm.o,rK.o];exact ou.o)⟩
    ·simp[intOf];omega
   | false=>
    have HR:=aa (oT.o k (by rw[HN.o];exact aB) (by rw[qm.o,rK.o];exact of_decide_eq_false cC));rw[cC]at jQ;clear cC
    go_wp2_with fail
    refine aF (by kernel_rfl) (by kernel_rfl) ?_
    repeat (go_big_quiet_step (fail))
    refine wpQuiet_nil ?_;rintro _ ⟨xq,rfl⟩;clear c0 c1 d0 d1 jQ
    go_wp2_with fail
    go_ret
    exact⟨aS (by rw[HR.o]),ae aY.o xq.ext⟩
  ·obtain rfl:k=n:=by omega
   have HR:=aa (hZ.o HL.o fun j hj=>H.o j (by have:=HN.o;omega))
   go_wp2_with fail
   go_ret
   exact⟨aS (by rw[HR.o]),aY.o⟩
theorem MN(v:Value) (l:List Int) (w:World) (hv:aX w v l) :
  Calls Tryz.prog 131 #[v] w fun e w'=>e=.returned (.bool (constB l))/\Below w.heap.size w w':=by
 obtain⟨pl,cl,rfl,el⟩:=ef hv;obtain⟨_,_,_,_,cP,_⟩:=hv.at;have EL:=aa el;have KZ:am (constB l=!(anyLt l.length fun i=>decide (l.getD i 0≠l.getD 0 0))):=aa rfl;have fY:am (∀ k,k<l.length->l.getD k 0≠l.getD 0 0->constB l=false):=aa fun k hk h=>by rw[KZ.o,Rk hk (decide_eq_true h)];rfl
 have jS:am ((∀ k,k<l.length->l.getD k 0=l.getD 0 0)->constB l=true):=aa fun h=>by rw[KZ.o,eR _ _ fun k hk=>decide_eq_false (fun h'=>h' (h k hk))];rfl
 generalize constB l=r at fY jS ⊢;obtain⟨x0,dp⟩:∃ x0,l.getD 0 0=x0:=⟨_,rfl⟩;have ze:=aa dp;rw[dp]at fY jS;clear dp;obtain⟨n,hn⟩:∃ n,l.length=n:=⟨_,rfl⟩;rw[hn]at EL fY jS cP ⊢;clear hv el KZ hn
 go_enter Tryz.func131,Tryz.ntmps131
 go_wp2_with fail
 go_loopw [3] (fun i wr=>∃ k:Nat,k<=n/\i=.int .i64 k/\Below w.heap.size w wr/\∀ j,j<k->l.getD j 0=x0) (fun i _=>n - (intOf i).toNat)
 ·exact⟨0,by omega,rfl,Below.refl _ _,fun j hj=>by omega⟩
 ·
  obtain⟨k,hk,rfl,aA,aU⟩:=hrel;have H:=aa aU;have aY:=aa aA;clear aU;by_cases aB:k<n
  ·obtain⟨b1,o1,rfl,c1⟩:=EL.o k aB;obtain⟨b2,o2,e2,c2⟩:=EL.o 0 (by omega);injection e2 with e2
   injection e2 with e2 e3
   subst e2 e3;rw[ze.o]at c2;have qo:=aa (fY.o k aB);have HB:=aa (fun h:l.getD k 0=x0=>aV (p:=fun j=>l.getD j 0=x0) H.o h);have y1:∀ z:ExtW wr,z.val.cell? ⟨b1,o1+k,none⟩=_:=fun z=>z.cell (ak aA c1)
   have y2:∀ z:ExtW wr,z.val.cell? ⟨b1,o1,none⟩=_:=fun z=>z.cell (ak aA c2)
   by_cases cC:l.getD k 0=x0
   ·have Dw:=aa (HB.o cC);have hd:(l.getD k 0 != x0)=false:=by rw[cC];simp
    clear HB qo cC aA c1 c2;generalize l.getD k 0=xk at y1 hd
    go_wp2_with fail
    refine aF (by kernel_rfl) (by kernel_rfl) ?_
    repeat (go_big_quiet_step (fail))
    refine wpQuiet_nil ?_;rintro _ ⟨xq,rfl⟩;clear y1 y2
    go_wp2_with fail
    go_roundw
    ·exact⟨k+1,by omega,by go_num,ae aY.o xq.ext,Dw.o⟩
    ·simp[intOf];omega
   ·have HR:=aa (qo.o cC);have hd:(l.getD k 0 != x0)=true:=by simpa using cC
    clear HB qo cC aA c1 c2;generalize l.getD k 0=xk at y1 hd
    go_wp2_with fail
    refine aF (by kernel_rfl) (by kernel_rfl) ?_
    repeat (go_big_quiet_step (fail))
    refine wpQuiet_nil ?_;rintro _ ⟨xq,rfl⟩;clear y1 y2
    go_wp2_with fail
    go_ret
    exact⟨aS (by rw[HR.o]),ae aY.o xq.ext⟩
  ·obtain rfl:k=n:=by omega
   have HR:=aa (jS.o fun j hj=>H.o j hj)
   go_wp2_with fail
   go_ret
   exact⟨aS (by rw[HR.o]),aY.o⟩
theorem MO(na nb:Int) (va vb:Value) (a b:List Vw) (w:World) (ha:mX w va a) (hb:mX w vb b) :
  Calls Tryz.prog 149 #[.agg #[.int .i64 na,va],.agg #[.int .i64 nb,vb]] w fun e w'=>e=.returned (.bool (decide (na=nb/\a=b)))/\Below w.heap.size w w':=by
 obtain⟨pa,ca,rfl,la1,la2,ea⟩:=ha.at;obtain⟨pb,cb,rfl,lb1,lb2,eb⟩:=hb.at;have EA:=aa ea;have EB:=aa eb;have nq:am (na≠nb->decide (na=nb/\a=b)=false):=aa fun h=>decide_eq_false fun e=>h e.1
 have hZ:am (na=nb->a.length=b.length->(∀ j,j<a.length->a.getD j default=b.getD j default)->decide (na=nb/\a=b)=true):=aa fun h0 h1 h2=>decide_eq_true ⟨h0,fj default h1 h2⟩
 have iP:am (a.length≠b.length->decide (na=nb/\a=b)=false):=aa fun h=>decide_eq_false fun e=>h (by rw[e.2])
 have oT:am (∀ j,j<a.length->a.getD j default≠b.getD j default->decide (na=nb/\a=b)=false):=aa fun j _ h=>decide_eq_false fun e=>h (by rw[e.2])
 generalize decide (na=nb/\a=b)=r at nq hZ iP oT ⊢;clear ha hb ea eb
 go_enter Tryz.func149,Tryz.ntmps149
 by_cases fw:na=nb
 case neg=>
  have hd:(na != nb)=true:=by simpa using fw
  have HR:=aa (nq.o fw);clear fw
  go_wp2_with fail
  go_ret
  exact⟨aS (by rw[HR.o]),by go_grown⟩
 have hZ:=aa (hZ.o fw);subst fw;by_cases hl:a.length=b.length
 case neg=>
  have hd:(((a.length:Nat):Int) != ((b.length:Nat):Int))=true:=by simp;omega
  have HR:=aa (iP.o hl);clear hl
  go_wp2_with fail
  go_ret
  exact⟨aS (by rw[HR.o]),by go_grown⟩
 have HL:=aa hl;obtain⟨n,hn⟩:∃ n,a.length=n:=⟨_,rfl⟩;have iM:b.length=n:=by omega
 have HN:=aa hn;have Aq:=aa iM;rw[hn]at la1 la2 ⊢;rw[iM]at lb1 lb2 ⊢;clear hl hn iM;have hd:((n:Int) != (n:Int))=false:=by simp
 go_wp2_with fail
 refine bF (fun W=>Below w.heap.size w W/\W.heap[w.heap.size]?=some (.cells #[.int .i64 na,.slice pa n ca] 32)/\W.heap[w.heap.size+1]?=some (.cells #[.int .i64 na,.slice pb n cb] 32)) ⟨by go_grown,aq _ (ap _ _),by have h:=ap (w.alloc (.cells #[.int .i64 na,.slice pa n ca] 32)) (.cells #[.int .i64 na,.slice pb n cb] 32);simpa using h⟩ (fun W0 bd=>?_);obtain⟨aK,bK,ni⟩:=bd;have fA:=aa aK;have lC:=aa bK;have nh:=aa ni;clear aK bK ni
 go_loopw [5] (fun i wr=>∃ k:Nat,k<=n/\i=.int .i64 k/\Below W0.heap.size W0 wr/\∀ j,j<k->a.getD j default=b.getD j default) (fun i _=>n - (intOf i).toNat)
 ·exact⟨0,by omega,rfl,Below.refl _ _,fun j hj=>by omega⟩
 ·
  obtain⟨k,hk,rfl,aA,aU⟩:=hrel;have H:=aa aU;have aY:=aa aA;have bW:=aa (ae fA.o aA);clear aU aA;have tA:=ab (af aY.o lC.o);by_cases aB:k<n
  ·obtain⟨b1,o1,rfl,h1⟩:=EA.o k (by rw[HN.o];exact aB);obtain⟨b2,o2,rfl,h2⟩:=EB.o k (by rw[Aq.o];exact aB);have qm:=aa (az (default:Vw) (show k<a.length by rw[HN.o];exact aB));have rK:=aa (az (default:Vw) (show k<b.length by rw[Aq.o];exact aB));generalize a[k]'(by rw[HN.o];exact aB)=x at h1 qm;generalize b[k]'(by rw[Aq.o];exact aB)=y at h2 rK;have c0:∀ z:ExtW wr,z.val.cell? ⟨b1,o1+k * 8,none⟩=_:=fun z=>z.cell (ak bW.o h1.1.1)
   have c1:∀ z:ExtW wr,z.val.cell? ⟨b1,o1+k * 8+1,none⟩=_:=fun z=>z.cell (ak bW.o h1.2.1.1)
   have c2:∀ z:ExtW wr,z.val.cell? ⟨b1,o1+k * 8+2,none⟩=_:=fun z=>z.cell (ak bW.o h1.2.2.1.1)
   have c3:∀ z:ExtW wr,z.val.cell? ⟨b1,o1+k * 8+3,none⟩=_:=fun z=>z.cell (ak bW.o h1.2.2.2.1.1)
   have c4:∀ z:ExtW wr,z.val.cell? ⟨b1,o1+k * 8+4,none⟩=_:=fun z=>z.cell (ak bW.o h1.2.2.2.2.1.1)
   have c5:∀ z:ExtW wr,z.val.cell? ⟨b1,o1+k * 8+5,none⟩=_:=fun z=>z.cell (ak bW.o h1.2.2.2.2.2.1.1)
   have c6:∀ z:ExtW wr,z.val.cell? ⟨b1,o1+k * 8+6,none⟩=_:=fun z=>z.cell (ak bW.o h1.2.2.2.2.2.2.1.1)
   have c7:∀ z:ExtW wr,z.val.cell? ⟨b1,o1+k * 8+7,none⟩=_:=fun z=>z.cell (ak bW.o h1.2.2.2.2.2.2.2.1)
   have d0:∀ z:ExtW wr,z.val.cell? ⟨b2,o2+k * 8,none⟩=_:=fun z=>z.cell (ak bW.o h2.1.1)
   have d1:∀ z:ExtW wr,z.val.cell? ⟨b2,o2+k * 8+1,none⟩=_:=fun z=>z.cell (ak bW.o h2.2.1.1)
   have d2:∀ z:ExtW wr,z.val.cell? ⟨b2,o2+k * 8+2,none⟩=_:=fun z=>z.cell (ak bW.o h2.2.2.1.1)
   have d3:∀ z:ExtW wr,z.val.cell? ⟨b2,o2+k * 8+3,none⟩=_:=fun z=>z.cell (ak bW.o h2.2.2.2.1.1)
   have d4:∀ z:ExtW wr,z.val.cell? ⟨b2,o2+k * 8+4,none⟩=_:=fun z=>z.cell (ak bW.o h2.2.2.2.2.1.1)
   have d5:∀ z:ExtW wr,z.val.cell? ⟨b2,o2+k * 8+5,none⟩=_:=fun z=>z.cell (ak bW.o h2.2.2.2.2.2.1.1)
   have d6:∀ z:ExtW wr,z.val.cell? ⟨b2,o2+k * 8+6,none⟩=_:=fun z=>z.cell (ak bW.o h2.2.2.2.2.2.2.1.1)
   have d7:∀ z:ExtW wr,z.val.cell? ⟨b2,o2+k * 8+7,none⟩=_:=fun z=>z.cell (ak bW.o h2.2.2.2.2.2.2.2.1)
   have tA2:∀ z:ExtW wr,z.val.cell? ⟨w.heap.size,1,none⟩=some (.slice (some ⟨b1,o1,none⟩) n ca):=fun z=>z.cell (by rw[ab (af aY.o lC.o)];rfl)
   have tC2:∀ z:ExtW wr,z.val.cell? ⟨w.heap.size+1,1,none⟩=some (.slice (some ⟨b2,o2,none⟩) n cb):=fun z=>z.cell (by rw[ab (af aY.o nh.o)];rfl)
   have jQ:=fun w=>Pm x y w
   clear h1 h2;cases cC:decide (x=y) with
   | true=>
    have ou:=aa (of_decide_eq_true cC);rw[cC]at jQ;clear cC
    go_wp2_with fail
    refine aF (by kernel_rfl) (by kernel_rfl) ?_
    repeat (go_big_quiet_step (fail))
    refine wpQuiet_nil ?_;rintro _ ⟨xq,rfl⟩;clear c0 c1 c2 c3 c4 c5 c6 c7 d0 d1 d2 d3 d4 d5 d6 d7 tA2 tC2 jQ tA
    go_wp2_with fail
    go_roundw
    ·exact⟨k+1,by omega,by go_num,ae aY.o xq.ext,aV (p:=fun j=>a.getD j default=b.getD j default) H.o (by rw[qm.o,rK.o];exact ou.o)⟩
    ·simp[intOf];omega
   | false=>
    have HR:=aa (oT.o k (by rw[HN.o];exact aB) (by rw[qm.o,rK.o];exact of_decide_eq_false cC));rw[cC]at jQ;clear cC
    go_wp2_with fail
    refine aF (by kernel_rfl) (by kernel_rfl) ?_
    repeat (go_big_quiet_step (fail))
    refine wpQuiet_nil ?_;rintro _ ⟨xq,rfl⟩;clear c0 c1 c2 c3 c4 c5 c6 c7 d0 d1 d2 d3 d4 d5 d6 d7 tA2 tC2 jQ tA
    go_wp2_with fail
    go_ret
    exact⟨aS (by rw[HR.o]),ae bW.o xq.ext⟩
  ·obtain rfl:k=n:=by omega
   have HF:∀ j,j<a.length->a.getD j default=b.getD j default:=fun j hj=>H.o j (by have:=HN.o;omega)
   have HR:am (r=true):=aa (by first|exact hZ.o HL.o HF|exact hZ.o trivial HL.o HF|exact hZ.o rfl HL.o HF);clear HF
   go_wp2_with fail
   go_ret
   exact⟨aS (by rw[HR.o]),bW.o⟩
theorem MQ(va vb:Value) (a b:List Int) (w:World) (ha:aX w va a) (hb:aX w vb b) :
  Calls Tryz.prog 184 #[va,vb] w fun e w'=>e=.returned (.bool (decide (a=b)))/\Below w.heap.size w w':=by
 obtain⟨pa,ca,rfl,ea⟩:=ef ha;obtain⟨pb,cb,rfl,eb⟩:=ef hb;obtain⟨_,_,_,_,la2,_⟩:=ha.at;obtain⟨_,_,_,_,lb2,_⟩:=hb.at;have EA:=aa ea;have EB:=aa eb;have hZ:am (a.length=b.length->(∀ j,j<a.length->a.getD j 0=b.getD j 0)->decide (a=b)=true):=aa fun h1 h2=>decide_eq_true (fj 0 h1 h2)
 have iP:am (a.length≠b.length->decide (a=b)=false):=aa fun h=>decide_eq_false fun e=>h (by rw[e])
 have oT:am (∀ j,j<a.length->a.getD j 0≠b.getD j 0->decide (a=b)=false):=aa fun j _ h=>decide_eq_false fun e=>h (by rw[e])
 generalize decide (a=b)=r at hZ iP oT ⊢;clear ha hb ea eb
 go_enter Tryz.func184,Tryz.ntmps184
 by_cases hl:a.length=b.length
 case neg=>
  have hd:(((a.length:Nat):Int) != ((b.length:Nat):Int))=true:=by simp;omega
  have HR:=aa (iP.o hl);clear hl
  go_wp2_with fail
  go_ret
  exact⟨aS (by rw[HR.o]),Below.refl _ _⟩
 have HL:=aa hl;obtain⟨n,hn⟩:∃ n,a.length=n:=⟨_,rfl⟩;have iM:b.length=n:=by omega
 have HN:=aa hn;have Aq:=aa iM;rw[hn]at la2 EA ⊢;rw[iM]at lb2 EB ⊢;clear hl hn iM;have hd:((n:Int) != (n:Int))=false:=by simp
 go_wp2_with fail
 go_loopw [5] (fun i wr=>∃ k:Nat,k<=n/\i=.int .i64 k/\Below w.heap.size w wr/\∀ j,j<k->a.getD j 0=b.getD j 0) (fun i _=>n - (intOf i).toNat)
 ·exact⟨0,by omega,rfl,Below.refl _ _,fun j hj=>by omega⟩
 ·
  obtain⟨k,hk,rfl,aA,aU⟩:=hrel;have H:=aa aU;have aY:=aa aA;clear aU;by_cases aB:k<n
  ·obtain⟨b1,o1,rfl,h1⟩:=EA.o k aB;obtain⟨b2,o2,rfl,h2⟩:=EB.o k aB;have qm:am (∀ x,a.getD k 0=x->a.getD k 0=x):=aa fun _ h=>h
   obtain⟨x,hx⟩:∃ x,a.getD k 0=x:=⟨_,rfl⟩;obtain⟨y,hy⟩:∃ y,b.getD k 0=y:=⟨_,rfl⟩;rw[hx]at h1;rw[hy]at h2;have HX:=aa hx;have HY:=aa hy;have c0:∀ z:ExtW wr,z.val.cell? ⟨b1,o1+k,none⟩=_:=fun z=>z.cell (ak aA h1)
   have d0:∀ z:ExtW wr,z.val.cell? ⟨b2,o2+k,none⟩=_:=fun z=>z.cell (ak aA h2)
   clear h1 h2 aA hx hy qm;by_cases cC:x=y
   ·have ou:=aa cC;have gm:(x != y)=false:=by simp[cC]
    clear cC
    go_wp2_with fail
    refine aF (by kernel_rfl) (by kernel_rfl) ?_
    repeat (go_big_quiet_step (fail))
    refine wpQuiet_nil ?_;rintro _ ⟨xq,rfl⟩;clear c0 d0
    go_wp2_with fail
    go_roundw
    ·exact⟨k+1,by omega,by go_num,ae aY.o xq.ext,aV (p:=fun j=>a.getD j 0=b.getD j 0) H.o (by rw[HX.o,HY.o];exact ou.o)⟩
    ·simp[intOf];omega
   ·have HR:=aa (oT.o k (by rw[HN.o];exact aB) (by rw[HX.o,HY.o];exact cC));have gm:(x != y)=true:=by simpa using cC
    clear cC
    go_wp2_with fail
    refine aF (by kernel_rfl) (by kernel_rfl) ?_
    repeat (go_big_quiet_step (fail))
    refine wpQuiet_nil ?_;rintro _ ⟨xq,rfl⟩;clear c0 d0
    go_wp2_with fail
    go_ret
    exact⟨aS (by rw[HR.o]),ae aY.o xq.ext⟩
  ·obtain rfl:k=n:=by omega
   have HR:=aa (hZ.o HL.o fun j hj=>H.o j (by have:=HN.o;omega))
   go_wp2_with fail
   go_ret
   exact⟨aS (by rw[HR.o]),aY.o⟩
theorem MR(va vb:Value) (a b:List Rd) (w:World) (ha:kx w va a) (hb:kx w vb b) :
  Calls Tryz.prog 183 #[va,vb] w fun e w'=>e=.returned (.bool (decide (a=b)))/\Below w.heap.size w w':=by
 obtain⟨pa,ca,rfl,la1,la2,ea⟩:=ha.at;obtain⟨pb,cb,rfl,lb1,lb2,eb⟩:=hb.at;clear ha hb;have EA:=aa ea;clear ea;have EB:=aa eb;clear eb;generalize oe:decide (a=b)=res;have jE:=aa oe;clear oe;by_cases hl:a.length=b.length
 case neg=>
  have ir:((a.length:Int) != (b.length:Int))=true:=by simp;omega
  have HR:am (res=false):=by(have h:res=false:=by(rw[<-jE.o];simp;intro h;exact hl (by rw[h])));exact h
  clear hl
  go_enter Tryz.func183,Tryz.ntmps183
  go_wp2
  go_ret
  exact⟨aS HR.o.symm,Below.refl _ _⟩
 have ir:((a.length:Int) != (b.length:Int))=false:=by simp[hl]
 have HL:=aa hl;clear hl
 go_enter Tryz.func183,Tryz.ntmps183
 go_wp2
 clear ir
 go_loopw [5] (fun i wr=>Below w.heap.size w wr/\∃ k:Nat,k<=a.length/\i=.int .i64 k/\∀ j,j<k->a.getD j default=b.getD j default) (fun i _=>a.length - (intOf i).toNat)
 ·exact⟨Below.refl _ _,0,by omega,rfl,by simp⟩
 ·
  obtain⟨aA,k,hk,rfl,aU⟩:=hrel;have H:=aa aU;clear aU;by_cases aB:k<a.length
  ·have iF:k<b.length:=by have:=HL.o;omega
   obtain⟨b1,o1,rfl,⟨c0,r0⟩,⟨c1,r1⟩,⟨c2,r2⟩,⟨c3,r3⟩,⟨c4,r4⟩,⟨c5,r5⟩,⟨c6,r6⟩⟩:=EA.o k aB;obtain⟨b2,o2,rfl,⟨e0,s0⟩,⟨e1,s1⟩,⟨e2,s2⟩,⟨e3,s3⟩,⟨e4,s4⟩,⟨e5,s5⟩,⟨e6,s6⟩⟩:=EB.o k iF;have c0':∀ y:ExtW wr,y.val.cell? ⟨b1,o1+k * 7,none⟩=_:=fun y=>y.cell (ak aA c0)
   have c1':∀ y:ExtW wr,y.val.cell? ⟨b1,o1+k * 7+1,none⟩=_:=fun y=>y.cell (ak aA c1)
   have c2':∀ y:ExtW wr,y.val.cell? ⟨b1,o1+k * 7+2,none⟩=_:=fun y=>y.cell (ak aA c2)
   have c3':∀ y:ExtW wr,y.val.cell? ⟨b1,o1+k * 7+3,none⟩=_:=fun y=>y.cell (ak aA c3)
   have c4':∀ y:ExtW wr,y.val.cell? ⟨b1,o1+k * 7+4,none⟩=_:=fun y=>y.cell (ak aA c4)
   have c5':∀ y:ExtW wr,y.val.cell? ⟨b1,o1+k * 7+5,none⟩=_:=fun y=>y.cell (ak aA c5)
   have c6':∀ y:ExtW wr,y.val.cell? ⟨b1,o1+k * 7+6,none⟩=_:=fun y=>y.cell (ak aA c6)
   have e0':∀ y:ExtW wr,y.val.cell? ⟨b2,o2+k * 7,none⟩=_:=fun y=>y.cell (ak aA e0)
   have e1':∀ y:ExtW wr,y.val.cell? ⟨b2,o2+k * 7+1,none⟩=_:=fun y=>y.cell (ak aA e1)
   have e2':∀ y:ExtW wr,y.val.cell? ⟨b2,o2+k * 7+2,none⟩=_:=fun y=>y.cell (ak aA e2)
   have e3':∀ y:ExtW wr,y.val.cell? ⟨b2,o2+k * 7+3,none⟩=_:=fun y=>y.cell (ak aA e3)
   have e4':∀ y:ExtW wr,y.val.cell? ⟨b2,o2+k * 7+4,none⟩=_:=fun y=>y.cell (ak aA e4)
   have e5':∀ y:ExtW wr,y.val.cell? ⟨b2,o2+k * 7+5,none⟩=_:=fun y=>y.cell (ak aA e5)
   have e6':∀ y:ExtW wr,y.val.cell? ⟨b2,o2+k * 7+6,none⟩=_:=fun y=>y.cell (ak aA e6)
   have HX:=aa (az default aB);have HY:=aa (az default iF);clear c0 r0 e0 s0 c1 r1 e1 s1 c2 r2 e2 s2 c3 r3 e3 s3 c4 r4 e4 s4 c5 r5 e5 s5 c6 r6 e6 s6;generalize a[k]=x at c0' c1' c2' c3' c4' c5' c6' HX;generalize b[k]=y at e0' e1' e2' e3' e4' e5' e6' HY;have bR:=fun w=>OQ x y w
   go_wp2
   by_cases cC:x=y
   ·have hd:decide (x=y)=true:=by simpa using cC
    have ou:am (a.getD k default=b.getD k default):=by(have h:a.getD k default=b.getD k default:=by(rw[HX.o,HY.o,cC]));exact h
    rw[hd]at bR;clear cC hd;refine aF (by kernel_rfl) (by kernel_rfl) ?_
    repeat (go_big_quiet_step (fail))
    refine wpQuiet_nil ?_;intro _ eE;obtain⟨xq,dj⟩:=eE;subst dj;clear c0' c1' c2' c3' c4' c5' c6' e0' e1' e2' e3' e4' e5' e6' bR
    go_wp2
    go_roundw
    ·exact⟨ae aA xq.ext,k+1,by omega,by go_num,aV H.o ou.o⟩
    ·simp[intOf];omega
   ·have hd:decide (x=y)=false:=by simpa using cC
    have HR:am (res=false):=by(have h:res=false:=by(rw[<-jE.o];simp;intro h;subst h;rw[HX.o]at HY;exact cC HY.o));exact h
    rw[hd]at bR;clear cC hd;refine aF (by kernel_rfl) (by kernel_rfl) ?_
    repeat (go_big_quiet_step (fail))
    refine wpQuiet_nil ?_;intro _ eE;obtain⟨xq,dj⟩:=eE;subst dj;clear c0' c1' c2' c3' c4' c5' c6' e0' e1' e2' e3' e4' e5' e6' bR
    go_wp2
    go_ret
    exact⟨aS HR.o.symm,ae aA xq.ext⟩
  ·have HR:am (res=true):=by(have h:res=true:=by(rw[<-jE.o];simp;exact fj default HL.o fun j hj=>H.o j (by omega)));exact h
   go_wp2
   go_ret
   exact⟨aS HR.o.symm,aA⟩
theorem MS(x y:Ex) (wa wb va vb:Value) (w:World) (TM:kx w wa x.word) (Av:kx w wb y.word) (ha:ez w va x.views) (hb:ez w vb y.views) :
  Calls Tryz.prog 150 #[.agg #[.int .i64 x.c,wa,va],.agg #[.int .i64 y.c,wb,vb]] w fun e w'=>e=.returned (.bool (decide (x=y)))/\Below w.heap.size w w':=by
 obtain⟨cx,wx,ax⟩:=x;obtain⟨cy,wy,ay⟩:=y;dsimp only at TM Av ha hb ⊢;have Lt:=aa (fun W (h:Below w.heap.size w W)=>MR wa wb wx wy W (TM.up up_round h) (Av.up up_round h));obtain⟨pw,cw,rfl,_,_,_⟩:=TM.at;obtain⟨qw,dw,rfl,_,_,_⟩:=Av.at;obtain⟨pa,ca,rfl,la1,la2,ea⟩:=ha.at;obtain⟨pb,cb,rfl,lb1,lb2,eb⟩:=hb.at;have EA:=aa ea;have EB:=aa eb;have Dj:am (cx≠cy->decide ((⟨cx,wx,ax⟩:Ex)=⟨cy,wy,ay⟩)=false):=aa fun h=>decide_eq_false fun e=>h (congrArg Ex.c e)
 have FW:am (decide (wx=wy)=false->decide ((⟨cx,wx,ax⟩:Ex)=⟨cy,wy,ay⟩)=false):=aa fun h=>decide_eq_false fun e=>(of_decide_eq_false h) (congrArg Ex.word e)
 have iP:am (ax.length≠ay.length->decide ((⟨cx,wx,ax⟩:Ex)=⟨cy,wy,ay⟩)=false):=aa fun h=>decide_eq_false fun e=>h (congrArg (fun z=>(Ex.views z).length) e)
 have oT:am (∀ j,j<ax.length->ax.getD j []≠ay.getD j []->decide ((⟨cx,wx,ax⟩:Ex)=⟨cy,wy,ay⟩)=false):=aa fun j _ h=>decide_eq_false fun e=>h (congrArg (fun z=>(Ex.views z).getD j []) e)
 have hZ:am (cx=cy/\decide (wx=wy)=true/\ax.length=ay.length/\(∀ j,j<ax.length->ax.getD j []=ay.getD j [])->decide ((⟨cx,wx,ax⟩:Ex)=⟨cy,wy,ay⟩)=true):=aa fun ⟨h0,h1,h2,h3⟩=>decide_eq_true (by rw[h0,of_decide_eq_true h1,fj [] h2 h3])
 generalize decide ((⟨cx,wx,ax⟩:Ex)=⟨cy,wy,ay⟩)=r at Dj FW iP oT hZ ⊢;generalize decide (wx=wy)=bw at Lt FW hZ;generalize wx.length=nw1,wy.length=nw2 at Lt ⊢;clear TM Av ha hb ea eb
 go_enter Tryz.func150,Tryz.ntmps150
 by_cases fw:cx=cy
 case neg=>
  have hd:(cx != cy)=true:=by simpa using fw
  have HR:=aa (Dj.o fw);clear fw
  go_wp2_with fail
  go_ret
  exact⟨aS (by rw[HR.o]),by go_grown⟩
 have tI:=aa fw;have TN:(cx != cy)=false:=by simp[fw]
 clear fw;obtain⟨n,hn⟩:∃ n,ax.length=n:=⟨_,rfl⟩;obtain⟨m,hm⟩:∃ m,ay.length=m:=⟨_,rfl⟩;have HN:=aa hn;have HM:=aa hm;rw[hn]at la1 la2 ⊢;rw[hm]at lb1 lb2 ⊢;clear hn hm
 go_wp2_with fail
 refine aQ (fun W=>Below w.heap.size w W/\W.heap[w.heap.size]?=some (.cells #[.int .i64 cx,.slice pw nw1 cw,.slice pa n ca] 89)/\W.heap[w.heap.size+1]?=some (.cells #[.int .i64 cy,.slice qw nw2 dw,.slice pb m cb] 89)) ⟨by go_grown,aq _ (ap _ _),by have h:=ap (w.alloc (.cells #[.int .i64 cx,.slice pw nw1 cw,.slice pa n ca] 89)) (.cells #[.int .i64 cy,.slice qw nw2 dw,.slice pb m cb] 89);simpa using h⟩ (fun W00 bd=>?_);obtain⟨aK,bK,ni⟩:=bd;refine(Lt.o W00 aK).mono ?_;rintro e W0 ⟨rfl,aM⟩;have fA:=aa (ae aK aM);have lC:=aa (af aM bK);have nh:=aa (af aM ni);have tA:=ab lC.o;have tC:=ab nh.o;clear aK bK ni aM Lt;cases bw with
 | false=>
  have HR:am (r=false):=aa (by first|exact FW.o rfl|exact FW.o trivial)
  go_wp2_with fail
  go_ret
  exact⟨aS (by rw[HR.o]),fA.o⟩
 | true=>
  by_cases hl:n=m
  case neg=>
   have hd:(((n:Nat):Int) != ((m:Nat):Int))=true:=by simp;omega
   have HR:=aa (iP.o (by rw[HN.o,HM.o];exact hl));clear hl
   go_wp2_with fail
   go_ret
   exact⟨aS (by rw[HR.o]),fA.o⟩
  subst hl;have hd:((n:Int) != (n:Int))=false:=by simp
  go_wp2_with fail
  clear tA tC
  go_loopw [5] (fun i wr=>∃ k:Nat,k<=n/\i=.int .i64 k/\Below W0.heap.size W0 wr/\∀ j,j<k->ax.getD j []=ay.getD j []) (fun i _=>n - (intOf i).toNat)
  ·exact⟨0,by omega,rfl,Below.refl _ _,fun j hj=>by omega⟩
  ·
   obtain⟨k,hk,rfl,aA,aU⟩:=hrel;have H:=aa aU;have aY:=aa aA;have bW:=aa (ae fA.o aA);clear aU aA;have tA:=ab (af aY.o lC.o);have tC:=ab (af aY.o nh.o);by_cases aB:k<n
   ·obtain⟨b1,o1,rfl,v1,g1,h1⟩:=EA.o k (by rw[HN.o];exact aB);obtain⟨b2,o2,rfl,v2,g2,h2⟩:=EB.o k (by rw[HM.o];exact aB);have qm:=aa (az ([]:List Int) (show k<ax.length by rw[HN.o];exact aB));have rK:=aa (az ([]:List Int) (show k<ay.length by rw[HM.o];exact aB));generalize ax[k]'(by rw[HN.o];exact aB)=x at h1 qm;generalize ay[k]'(by rw[HM.o];exact aB)=y at h2 rK;have d1:=ak bW.o g1;have d2:=ak bW.o g2;rw[Nat.mul_one]at d1 d2;have yF:=aa (fun W (h:Below w.heap.size w W)=>MQ v1 v2 x y W (h1.up up_int h) (h2.up up_int h));clear h1 h2 g1 g2
    go_wp2_with fail
    go_still_tail 10,(by kernel_rfl)
    go_wp2_with fail
    refine aQ (fun W=>Below wr.heap.size wr W) (Below.drew (Below.refl _ _)) (fun W5 hW5=>?_);refine(yF.o W5 (ae bW.o hW5)).mono ?_;rintro e w6 ⟨rfl,ip⟩;have vh:=aa (ae aY.o (ae hW5 ip));clear hW5 ip d1 d2 tA tC yF;cases cC:decide (x=y) with
    | true=>
     have ou:=aa (of_decide_eq_true cC);clear cC
     go_wp2_with fail
     go_roundw
     ·exact⟨k+1,by omega,by go_num,vh.o,aV (p:=fun j=>ax.getD j []=ay.getD j []) H.o (by rw[qm.o,rK.o];exact ou.o)⟩
     ·simp[intOf];omega
    | false=>
     have HR:=aa (oT.o k (by rw[HN.o];exact aB) (by rw[qm.o,rK.o];exact of_decide_eq_false cC));clear cC
     go_wp2_with fail
     go_ret
     exact⟨aS (by rw[HR.o]),ae fA.o vh.o⟩
   ·obtain rfl:k=n:=by omega
    have HF:∀ j,j<ax.length->ax.getD j []=ay.getD j []:=fun j hj=>H.o j (by have:=HN.o;omega)
    have HR:am (r=true):=aa (hZ.o ⟨tI.o,by first|rfl|trivial,by rw[HN.o,HM.o],HF⟩);clear HF
    go_wp2_with fail
    go_ret
    exact⟨aS (by rw[HR.o]),bW.o⟩
theorem RZ(d:Nat) (a:Mv) (w:World):(Op.equalIn (d+5) 143 a.v a.v).run Tryz.prog w=.ok true w:=by
 have hS:Tryz.prog.underlying 143=some (.struct (Tryz.prog.fieldsOf 143)):=by kernel_rfl
 have hp:Tryz.prog.stoodInHeld 143=false:=by kernel_rfl
 rw[run_equalIn_struct w (d+4) 143 _ _ hS hp];have ag:=Tryz.isAgg3;have ah:=Tryz.isAgg141;have zh:=Tryz.sizeOf141;have u3:=Tryz.underlying3;have hg:=DI d a.r a.r w;simp only[Program.fieldsOf,Tryz.underlying143];simp[Op.eqFields,part,ag,ah,zh,run_equalIn_int w (d+3) 3 _ .i64 _ _ u3,hg]
theorem Vu(a:Mv) (w:World):(binOp .neq 143 a.v a.v).run Tryz.prog w=.ok (.bool false) w:=by
 rw[run_neq_struct,RZ 9995];rfl
theorem R0(n:Int) (l:List (List Mv)) (va vb:Value) (w:World) (ha:bz w va l) (hb:bz w vb l) :
  Calls Tryz.prog 182 #[.agg #[.int .i64 n,va],.agg #[.int .i64 n,vb]] w fun e w'=>e=.returned (.bool true)/\Below w.heap.size w w':=by
 obtain⟨pa,ca,rfl,la1,la2,ea⟩:=ha.at;obtain⟨pb,cb,rfl,lb1,lb2,eb⟩:=hb.at;have EA:=aa ea;have EB:=aa eb;clear ha hb ea eb;obtain⟨m,hm⟩:∃ m,l.length=m:=⟨_,rfl⟩;have HM:=aa hm;rw[hm]at la1 la2 lb1 lb2 ⊢;clear hm;have TN:(n != n)=false:=by simp
 have hd:((m:Int) != (m:Int))=false:=by simp
 go_enter Tryz.func182,Tryz.ntmps182
 go_wp2_with fail
 refine bF (fun W=>Below w.heap.size w W/\W.heap[w.heap.size]?=some (.cells #[.int .i64 n,.slice pa m ca] 27)/\W.heap[w.heap.size+1]?=some (.cells #[.int .i64 n,.slice pb m cb] 27)) ⟨by go_grown,aq _ (ap _ _),by have h:=ap (w.alloc (.cells #[.int .i64 n,.slice pa m ca] 27)) (.cells #[.int .i64 n,.slice pb m cb] 27);simpa using h⟩ (fun W0 bd=>?_);obtain⟨aK,bK,ni⟩:=bd;have fA:=aa aK;have lC:=aa bK;have nh:=aa ni;clear aK bK ni
 go_loopw [5] (fun i wr=>∃ k:Nat,k<=m/\i=.int .i64 k/\Below W0.heap.size W0 wr) (fun i _=>m - (intOf i).toNat)
 ·exact⟨0,by omega,rfl,Below.refl _ _⟩
 ·
  obtain⟨k,hk,rfl,aA⟩:=hrel;have aY:=aa aA;have bW:=aa (ae fA.o aA);clear aA;have tA:=ab (af aY.o lC.o);by_cases aB:k<m
  ·obtain⟨b1,o1,rfl,v1,g1,h1⟩:=EA.o k (by rw[HM.o];exact aB);obtain⟨b2,o2,rfl,v2,g2,h2⟩:=EB.o k (by rw[HM.o];exact aB);generalize l[k]'(by rw[HM.o];exact aB)=row at h1 h2;obtain⟨p1,q1,rfl,x1,y1,e1⟩:=h1.at;obtain⟨p2,q2,rfl,x2,y2,e2⟩:=h2.at;have E1:=aa e1;have E2:=aa e2;obtain⟨r,hr⟩:∃ r,row.length=r:=⟨_,rfl⟩;have HR:=aa hr;rw[Nat.mul_one]at g1 g2;rw[hr]at x1 y1 x2 y2 g1 g2;clear h1 h2 e1 e2 hr;have G1:=aa g1;have G2:=aa g2;have hdr:((r:Int) != (r:Int))=false:=by simp
   have f1:∀ z:ExtW wr,z.val.cell? ⟨b1,o1+k,none⟩=_:=fun z=>z.cell (ak bW.o g1)
   have f2:∀ z:ExtW wr,z.val.cell? ⟨b2,o2+k,none⟩=_:=fun z=>z.cell (ak bW.o g2)
   have tA2:∀ z:ExtW wr,z.val.cell? ⟨w.heap.size,1,none⟩=some (.slice (some ⟨b1,o1,none⟩) m ca):=fun z=>z.cell (by rw[ab (af aY.o lC.o)];rfl)
   have tC2:∀ z:ExtW wr,z.val.cell? ⟨w.heap.size+1,1,none⟩=some (.slice (some ⟨b2,o2,none⟩) m cb):=fun z=>z.cell (by rw[ab (af aY.o nh.o)];rfl)
   clear g1 g2
   go_wp2_with fail
   refine aF (by kernel_rfl) (by kernel_rfl) ?_
   repeat (go_big_quiet_step (fail))
   refine wpQuiet_nil ?_;rintro _ ⟨xq,rfl⟩;have ff:=aa (ae aY.o xq.ext);generalize xq.val=wq at ff ⊢;clear f1 f2 tA2 tC2 tA
   go_wp2_with fail
   obtain⟨wrA,lN⟩:∃ x,x=wr:=⟨_,rfl⟩;subst lN
   go_loopw [6] (fun i wr=>∃ j:Nat,j<=r/\i=.int .i64 j/\Below W0.heap.size W0 wr) (fun i _=>r - (intOf i).toNat)
   ·exact⟨0,by omega,rfl,ff.o⟩
   ·
    obtain⟨i,hi,rfl,kF⟩:=hrel;have CI:=aa kF;have eW:=aa (ae fA.o kF);clear kF;have tA:=ab (af CI.o lC.o);have t1:=ak eW.o G1.o;by_cases Qx:i<r
    ·obtain⟨b3,o3,rfl,m1⟩:=E1.o i (by rw[HR.o];exact Qx);obtain⟨b4,o4,rfl,m2⟩:=E2.o i (by rw[HR.o];exact Qx);generalize row[i]'(by rw[HR.o];exact Qx)=x at m1 m2;have c0:∀ z:ExtW wr,z.val.cell? ⟨b3,o3+i * 8,none⟩=_:=fun z=>z.cell (ak eW.o m1.1.1.1)
     have c1:∀ z:ExtW wr,z.val.cell? ⟨b3,o3+i * 8+1,none⟩=_:=fun z=>z.cell (ak eW.o m1.1.2.1.1)
     have c2:∀ z:ExtW wr,z.val.cell? ⟨b3,o3+i * 8+2,none⟩=_:=fun z=>z.cell (ak eW.o m1.1.2.2.1.1)
     have c3:∀ z:ExtW wr,z.val.cell? ⟨b3,o3+i * 8+3,none⟩=_:=fun z=>z.cell (ak eW.o m1.1.2.2.2.1.1)
     have c4:∀ z:ExtW wr,z.val.cell? ⟨b3,o3+i * 8+4,none⟩=_:=fun z=>z.cell (ak eW.o m1.1.2.2.2.2.1.1)
     have c5:∀ z:ExtW wr,z.val.cell? ⟨b3,o3+i * 8+5,none⟩=_:=fun z=>z.cell (ak eW.o m1.1.2.2.2.2.2.1.1)
     have c6:∀ z:ExtW wr,z.val.cell? ⟨b3,o3+i * 8+6,none⟩=_:=fun z=>z.cell (ak eW.o m1.1.2.2.2.2.2.2.1)
     have c7:∀ z:ExtW wr,z.val.cell? ⟨b3,o3+i * 8+7,none⟩=_:=fun z=>z.cell (ak eW.o m1.2.1)
     have d0:∀ z:ExtW wr,z.val.cell? ⟨b4,o4+i * 8,none⟩=_:=fun z=>z.cell (ak eW.o m2.1.1.1)
     have d1:∀ z:ExtW wr,z.val.cell? ⟨b4,o4+i * 8+1,none⟩=_:=fun z=>z.cell (ak eW.o m2.1.2.1.1)
     have d2:∀ z:ExtW wr,z.val.cell? ⟨b4,o4+i * 8+2,none⟩=_:=fun z=>z.cell (ak eW.o m2.1.2.2.1.1)
     have d3:∀ z:ExtW wr,z.val.cell? ⟨b4,o4+i * 8+3,none⟩=_:=fun z=>z.cell (ak eW.o m2.1.2.2.2.1.1)
     have d4:∀ z:ExtW wr,z.val.cell? ⟨b4,o4+i * 8+4,none⟩=_:=fun z=>z.cell (ak eW.o m2.1.2.2.2.2.1.1)
     have d5:∀ z:ExtW wr,z.val.cell? ⟨b4,o4+i * 8+5,none⟩=_:=fun z=>z.cell (ak eW.o m2.1.2.2.2.2.2.1.1)
     have d6:∀ z:ExtW wr,z.val.cell? ⟨b4,o4+i * 8+6,none⟩=_:=fun z=>z.cell (ak eW.o m2.1.2.2.2.2.2.2.1)
     have d7:∀ z:ExtW wr,z.val.cell? ⟨b4,o4+i * 8+7,none⟩=_:=fun z=>z.cell (ak eW.o m2.2.1)
     have f1:∀ z:ExtW wr,z.val.cell? ⟨b1,o1+k,none⟩=_:=fun z=>z.cell (ak eW.o G1.o)
     have f2:∀ z:ExtW wr,z.val.cell? ⟨b2,o2+k,none⟩=_:=fun z=>z.cell (ak eW.o G2.o)
     have tA2:∀ z:ExtW wr,z.val.cell? ⟨w.heap.size,1,none⟩=some (.slice (some ⟨b1,o1,none⟩) m ca):=fun z=>z.cell (by rw[ab (af CI.o lC.o)];rfl)
     have tC2:∀ z:ExtW wr,z.val.cell? ⟨w.heap.size+1,1,none⟩=some (.slice (some ⟨b2,o2,none⟩) m cb):=fun z=>z.cell (by rw[ab (af CI.o nh.o)];rfl)
     have jQ:=fun w=>Vu x w
     clear m1 m2
     go_wp2_with fail
     refine aF (by kernel_rfl) (by kernel_rfl) ?_
     repeat (go_big_quiet_step (fail))
     refine wpQuiet_nil ?_;rintro _ ⟨xq,rfl⟩;clear c0 c1 c2 c3 c4 c5 c6 c7 d0 d1 d2 d3 d4 d5 d6 d7 f1 f2 tA2 tC2 jQ tA t1
     go_wp2_with fail
     go_roundw
     ·exact⟨i+1,by omega,by go_num,ae CI.o xq.ext⟩
     ·simp[intOf];omega
    ·obtain rfl:i=r:=by omega
     go_wp2_with fail
     go_roundw
     ·exact⟨k+1,by omega,by go_num,CI.o⟩
     ·simp[intOf];omega
  ·obtain rfl:k=m:=by omega
   go_wp2_with fail
   go_ret
   exact⟨rfl,bW.o⟩
theorem Fo(va vb:Value) (l:List (List Int)) (w:World) (ha:ez w va l) (hb:ez w vb l) :
  Calls Tryz.prog 207 #[va,vb] w fun e w'=>e=.returned (.bool true)/\Below w.heap.size w w':=by
 obtain⟨pa,ca,rfl,la1,la2,ea⟩:=ha.at;obtain⟨pb,cb,rfl,lb1,lb2,eb⟩:=hb.at;have EA:=aa ea;have EB:=aa eb;clear ha hb ea eb;obtain⟨n,hn⟩:∃ n,l.length=n:=⟨_,rfl⟩;have HN:=aa hn;rw[hn]at la1 la2 lb1 lb2 ⊢;clear hn;have hd:((n:Int) != (n:Int))=false:=by simp
 go_enter Tryz.func207,Tryz.ntmps207
 go_wp2_with fail
 go_loopw [5] (fun i wr=>∃ k:Nat,k<=n/\i=.int .i64 k/\Below w.heap.size w wr) (fun i _=>n - (intOf i).toNat)
 ·exact⟨0,by omega,rfl,Below.refl _ _⟩
 ·
  obtain⟨k,hk,rfl,aA⟩:=hrel;have aY:=aa aA;clear aA;by_cases aB:k<n
  ·obtain⟨b1,o1,rfl,v1,g1,h1⟩:=EA.o k (by rw[HN.o];exact aB);obtain⟨b2,o2,rfl,v2,g2,h2⟩:=EB.o k (by rw[HN.o];exact aB);generalize l[k]'(by rw[HN.o];exact aB)=x at h1 h2;have d1:=ak aY.o g1;have d2:=ak aY.o g2;rw[Nat.mul_one]at d1 d2;have yF:=aa (fun W (h:Below w.heap.size w W)=>lG v1 v2 x x W (h1.up up_int h) (h2.up up_int h));rw[sf]at yF;clear h1 h2 g1 g2
   go_wp2_with fail
   go_still_tail 8,(by kernel_rfl)
   go_wp2_with fail
   refine aQ (fun W=>Below wr.heap.size wr W) (Below.drew (Below.refl _ _)) (fun W5 hW5=>?_);refine(yF.o W5 (ae aY.o hW5)).mono ?_;rintro e w6 ⟨rfl,ip⟩;have vh:=aa (ae aY.o (ae hW5 ip));clear hW5 ip d1 d2 yF
   go_wp2_with fail
   go_roundw
   ·exact⟨k+1,by omega,by go_num,vh.o⟩
   ·simp[intOf];omega
  ·obtain rfl:k=n:=by omega
   go_wp2_with fail
   go_ret
   exact⟨rfl,aY.o⟩
theorem PC(t:Tk) (va vb:Value) (w:World) (ha:bN w va t.cases) (hb:bN w vb t.cases) :
  Calls Tryz.prog 181 #[.agg #[.int .i64 t.n,.int .i64 t.ins,.int .i64 t.outs,va],.agg #[.int .i64 t.n,.int .i64 t.ins,.int .i64 t.outs,vb]] w fun e w'=>e=.returned (.bool true)/\Below w.heap.size w w':=by
 obtain⟨pa,ca,rfl,la1,la2,ea⟩:=ha.at;obtain⟨pb,cb,rfl,lb1,lb2,eb⟩:=hb.at;have EA:=aa ea;have EB:=aa eb;clear ha hb ea eb;obtain⟨tn,ti,to,l⟩:=t;dsimp only at EA EB la1 la2 lb1 lb2 ⊢;obtain⟨m,hm⟩:∃ m,l.length=m:=⟨_,rfl⟩;have HM:=aa hm;rw[hm]at la1 la2 lb1 lb2 ⊢;clear hm;have AN:(tn != tn)=false:=by simp
 have gm:(ti != ti)=false:=by simp
 have oI:(to != to)=false:=by simp
 have hd:((m:Int) != (m:Int))=false:=by simp
 go_enter Tryz.func181,Tryz.ntmps181
 go_wp2_with fail
 refine bF (fun W=>Below w.heap.size w W/\W.heap[w.heap.size]?=some (.cells #[.int .i64 tn,.int .i64 ti,.int .i64 to,.slice pa m ca] 24)/\W.heap[w.heap.size+1]?=some (.cells #[.int .i64 tn,.int .i64 ti,.int .i64 to,.slice pb m cb] 24)) ⟨by go_grown,aq _ (ap _ _),by have h:=ap (w.alloc (.cells #[.int .i64 tn,.int .i64 ti,.int .i64 to,.slice pa m ca] 24)) (.cells #[.int .i64 tn,.int .i64 ti,.int .i64 to,.slice pb m cb] 24);simpa using h⟩ (fun W0 bd=>?_);obtain⟨aK,bK,ni⟩:=bd;have fA:=aa aK;have lC:=aa bK;have nh:=aa ni;clear aK bK ni
 go_loopw [5] (fun i wr=>∃ k:Nat,k<=m/\i=.int .i64 k/\Below W0.heap.size W0 wr) (fun i _=>m - (intOf i).toNat)
 ·exact⟨0,by omega,rfl,Below.refl _ _⟩
 ·
  obtain⟨k,hk,rfl,aA⟩:=hrel;have aY:=aa aA;have bW:=aa (ae fA.o aA);clear aA;have HAA:=aa (af aY.o lC.o);have tI:=aa (af aY.o nh.o);have tA:=ab HAA.o;by_cases aB:k<m
  ·obtain⟨b1,o1,rfl,⟨x0,cx0,dp⟩,⟨x1,cx1,dJ⟩,⟨x2,cx2,ed⟩⟩:=EA.o k (by rw[HM.o];exact aB);obtain⟨b2,o2,rfl,⟨y0,cy0,je⟩,⟨y1,cy1,jx⟩,⟨y2,cy2,iK⟩⟩:=EB.o k (by rw[HM.o];exact aB);generalize l[k]'(by rw[HM.o];exact aB)=c at dp dJ ed je jx iK;have Qa:=aa (fun W (h:Below wr.heap.size wr W)=>lG x0 y0 c.inp c.inp W (dp.up up_int (ae bW.o h)) (je.up up_int (ae bW.o h)));rw[sf]at Qa;have eP:=aa (fun W (h:Below wr.heap.size wr W)=>Fo x1 y1 c.out W (dJ.up up_ints (ae bW.o h)) (jx.up up_ints (ae bW.o h)));have lM:=aa (fun W (h:Below wr.heap.size wr W)=>Fo x2 y2 c.calm W (ed.up up_ints (ae bW.o h)) (iK.up up_ints (ae bW.o h)));obtain⟨p0,c0,rfl,_,_,_⟩:=dp.at;obtain⟨p1,c1,rfl,_,_,_⟩:=dJ.at;obtain⟨p2,c2,rfl,_,_,_⟩:=ed.at;obtain⟨q0,d0,rfl,_,_,_⟩:=je.at;obtain⟨q1,d1,rfl,_,_,_⟩:=jx.at;obtain⟨q2,d2,rfl,_,_,_⟩:=iK.at;clear dp dJ ed je jx iK;generalize c.inp.length=n0,c.out.length=n1,c.calm.length=n2 at cx0 cx1 cx2 cy0 cy1 cy2 Qa eP lM;have C0:=aa (ak bW.o cx0);have C1:=aa (ak bW.o cx1);have C2:=aa (ak bW.o cx2);have D0:=aa (ak bW.o cy0);have D1:=aa (ak bW.o cy1);have D2:=aa (ak bW.o cy2);clear cx0 cx1 cx2 cy0 cy1 cy2
   go_wp2_with fail
   clear tA;obtain⟨VS,CR⟩:∃ VS:List Value,VS=[.pointer (some ⟨w.heap.size,3,none⟩),.slice (some ⟨b1,o1,none⟩) m ca,.int .i64 (k:Nat),.pointer (some ⟨b1,o1+k * 3,none⟩),.agg #[.slice p0 n0 c0,.slice p1 n1 c1,.slice p2 n2 c2],.pointer (some ⟨w.heap.size+1,3,none⟩),.slice (some ⟨b2,o2,none⟩) m cb,.int .i64 (k:Nat),.pointer (some ⟨b2,o2+k * 3,none⟩),.agg #[.slice q0 n0 d0,.slice q1 n1 d1,.slice q2 n2 d2]]:=⟨_,rfl⟩;have hS:List.Nodup [43,44,45,46,47,48,49,50,51,52,6,7]:=by decide
   refine pz 14 [43,44,45,46,47,48,49,50,51,52,6,7] (TwoBox wr 10 VS #[.slice p0 n0 c0,.slice p1 n1 c1,.slice p2 n2 c2] #[.slice none 0 0,.slice none 0 0,.slice none 0 0] #[.slice q0 n0 d0,.slice q1 n1 d1,.slice q2 n2 d2] 135) (by kernel_rfl) rfl hS (by kernel_rfl) (fun x=>TwoBox.start (by go_grown)) ?step ?free ?last
   case step=>
    intro x W D i o' s' F ho vF hD ar hc hF;have hi:i<12:=(List.getElem?_eq_some_iff.1 vF).1;rcases (show i=0\/i=1\/i=2\/i=3\/i=4\/i=5\/i=6\/i=7\/i=8\/i=9\/i=10\/i=11 by omega) with rfl|rfl|rfl|rfl|rfl|rfl|rfl|rfl|rfl|rfl|rfl|rfl
    all_goals (obtain rfl:=dE ho.symm;obtain rfl:=dE vF.symm;clear hi ho vF;subst CR)
    ·obtain⟨e0,f0⟩:=dr hF 2 (.pointer (some ⟨w.heap.size,0,none⟩)) (by decide) rfl;clear hF ar
     go_wp2_with fail
     exact dF.mk (.pointer (some ⟨w.heap.size,3,none⟩)) (hc.set 0 (by omega) hD rfl) rfl
    ·obtain⟨e0,f0⟩:=aW hF 0 43 (.pointer (some ⟨w.heap.size,3,none⟩)) hS rfl (by kernel_rfl) (hc.val 0 (by omega) (ar ⟨0,.data⟩ (by simp) rfl));have t9:=ab (af hc.below HAA.o);clear hF ar
     go_wp2_with fail
     exact dF.mk (.slice (some ⟨b1,o1,none⟩) m ca) (hc.set 1 (by omega) hD rfl) rfl
    ·obtain⟨e0,f0⟩:=dr hF 5 (.int .i64 (k:Nat)) (by decide) rfl;clear hF ar
     go_wp2_with fail
     exact dF.mk (.int .i64 (k:Nat)) (hc.set 2 (by omega) hD rfl) rfl
    ·obtain⟨e1,f1⟩:=aW hF 1 44 (.slice (some ⟨b1,o1,none⟩) m ca) hS rfl (by kernel_rfl) (hc.val 1 (by omega) (ar ⟨1,.data⟩ (by simp) rfl));obtain⟨e2,f2⟩:=aW hF 2 45 (.int .i64 (k:Nat)) hS rfl (by kernel_rfl) (hc.val 2 (by omega) (ar ⟨2,.data⟩ (by simp) rfl));clear hF ar
     go_wp2_with fail
     exact dF.mk (.pointer (some ⟨b1,o1+k * 3,none⟩)) (hc.set 3 (by omega) hD rfl) rfl
    ·obtain⟨e3,f3⟩:=aW hF 3 46 (.pointer (some ⟨b1,o1+k * 3,none⟩)) hS rfl (by kernel_rfl) (hc.val 3 (by omega) (ar ⟨3,.data⟩ (by simp) rfl));have u1:=ak hc.below C0.o;have u2:=ak hc.below C1.o;have u3:=ak hc.below C2.o;clear hF ar
     go_wp2_with fail
     exact dF.mk (.agg #[.slice p0 n0 c0,.slice p1 n1 c1,.slice p2 n2 c2]) (hc.set 4 (by omega) hD rfl) rfl
    ·obtain⟨e0,f0⟩:=dr hF 3 (.pointer (some ⟨w.heap.size+1,0,none⟩)) (by decide) rfl;clear hF ar
     go_wp2_with fail
     exact dF.mk (.pointer (some ⟨w.heap.size+1,3,none⟩)) (hc.set 5 (by omega) hD rfl) rfl
    ·obtain⟨e5,f5⟩:=aW hF 5 48 (.pointer (some ⟨w.heap.size+1,3,none⟩)) hS rfl (by kernel_rfl) (hc.val 5 (by omega) (ar ⟨5,.data⟩ (by simp) rfl));have t9:=ab (af hc.below tI.o);clear hF ar
     go_wp2_with fail
     exact dF.mk (.slice (some ⟨b2,o2,none⟩) m cb) (hc.set 6 (by omega) hD rfl) rfl
    ·obtain⟨e0,f0⟩:=dr hF 5 (.int .i64 (k:Nat)) (by decide) rfl;clear hF ar
     go_wp2_with fail
     exact dF.mk (.int .i64 (k:Nat)) (hc.set 7 (by omega) hD rfl) rfl
    ·obtain⟨e6,f6⟩:=aW hF 6 49 (.slice (some ⟨b2,o2,none⟩) m cb) hS rfl (by kernel_rfl) (hc.val 6 (by omega) (ar ⟨6,.data⟩ (by simp) rfl));obtain⟨e7,f7⟩:=aW hF 7 50 (.int .i64 (k:Nat)) hS rfl (by kernel_rfl) (hc.val 7 (by omega) (ar ⟨7,.data⟩ (by simp) rfl));clear hF ar
     go_wp2_with fail
     exact dF.mk (.pointer (some ⟨b2,o2+k * 3,none⟩)) (hc.set 8 (by omega) hD rfl) rfl
    ·obtain⟨e8,f8⟩:=aW hF 8 51 (.pointer (some ⟨b2,o2+k * 3,none⟩)) hS rfl (by kernel_rfl) (hc.val 8 (by omega) (ar ⟨8,.data⟩ (by simp) rfl));have u1:=ak hc.below D0.o;have u2:=ak hc.below D1.o;have u3:=ak hc.below D2.o;clear hF ar
     go_wp2_with fail
     exact dF.mk (.agg #[.slice q0 n0 d0,.slice q1 n1 d1,.slice q2 n2 d2]) (hc.set 9 (by omega) hD rfl) rfl
    ·clear hF ar
     go_wp2_with fail
     exact dF.mk (.pointer (some ⟨W.heap.size,0,none⟩)) (hc.alloc_a hD) rfl
    ·clear hF ar
     go_wp2_with fail
     exact dF.mk (.pointer (some ⟨W.heap.size,0,none⟩)) (hc.alloc_b hD) rfl
   case free=>
    intro x W D i o' F ho h6 h8 hD ar hc hF;rcases (show i=12\/i=13 by simp at h6;omega) with rfl|rfl
    ·obtain rfl:=dE ho.symm;have g7:=hc.val 4 (by omega) (ar ⟨4,.data⟩ (by simp) rfl);have gA:=ar ⟨10,.data⟩ (by simp) rfl;obtain⟨g,g1,g2,g3⟩:=hc.a gA;rw[hD]at g3;obtain⟨e7,_⟩:=aW hF 4 47 (.agg #[.slice p0 n0 c0,.slice p1 n1 c1,.slice p2 n2 c2]) hS rfl (by kernel_rfl) (by rw[g7,CR];rfl);obtain⟨e8,_⟩:=aW hF 10 6 (.pointer (some ⟨g,0,none⟩)) hS rfl (by kernel_rfl) g1;refine wpList_store_row rfl 135 (.tmp 6) (.tmp 47) rfl g #[.slice p0 n0 c0,.slice p1 n1 c1,.slice p2 n2 c2] e8 e7 135 _ g3 (by kernel_rfl) (by kernel_rfl) (by simp[Value.oneCell']) ?_;exact⟨rfl,hc.store_a gA hD g1⟩
    ·obtain rfl:=dE ho.symm;have g7:=hc.val 9 (by omega) (ar ⟨9,.data⟩ (by simp) rfl);have gA:=ar ⟨11,.data⟩ (by simp) rfl;obtain⟨g,g1,g2,g3⟩:=hc.b gA;rw[hD]at g3;obtain⟨e7,_⟩:=aW hF 9 52 (.agg #[.slice q0 n0 d0,.slice q1 n1 d1,.slice q2 n2 d2]) hS rfl (by kernel_rfl) (by rw[g7,CR];rfl);obtain⟨e8,_⟩:=aW hF 11 7 (.pointer (some ⟨g,0,none⟩)) hS rfl (by kernel_rfl) g1;refine wpList_store_row rfl 135 (.tmp 7) (.tmp 52) rfl g #[.slice q0 n0 d0,.slice q1 n1 d1,.slice q2 n2 d2] e8 e7 135 _ g3 (by kernel_rfl) (by kernel_rfl) (by simp[Value.oneCell']) ?_;exact⟨rfl,hc.store_b gA hD g1⟩
   case last=>
    intro x W1 D F aT hc hF;obtain⟨g1,a1,a2,a3⟩:=hc.a (aT 10 (by omega));obtain⟨g2,z1,z2,z3⟩:=hc.b (aT 11 (by omega));rw[aT 12 (by omega)]at a3;rw[aT 13 (by omega)]at z3;have bL:=aa hc.below;have nT:=aa a3;have rX:=aa z3;clear hc aT CR hS a2 a3 z2 z3;simp only[bC,da,List.setIfInBounds_toArray,List.set_cons_succ,List.set_cons_zero,Nat.reduceAdd]at hF;simp only[a1,z1]at hF;generalize x 0=s0,x 1=s1,x 2=s2,x 3=s3,x 4=s4,x 5=s5,x 6=s6,x 7=s7,x 8=s8,x 9=s9 at hF;subst hF;clear a1 z1;have tA:=ab nT.o;have tC:=ab rX.o
    go_wp2_with fail
    refine(Qa.o W1 bL.o).mono ?_;rintro r W2 ⟨rfl,aZ⟩;have cX:=aa (ae bL.o aZ);clear tA tC;have tA:=ab (af aZ nT.o);have tC:=ab (af aZ rX.o);have H12:=aa aZ;clear aZ
    go_wp2_with fail
    refine(eP.o W2 cX.o).mono ?_;rintro r W3 ⟨rfl,bG⟩;have dT:=aa (ae cX.o bG);clear tA tC;have tA:=ab (af (ae H12.o bG) nT.o);have tC:=ab (af (ae H12.o bG) rX.o);clear bG
    go_wp2_with fail
    refine(lM.o W3 dT.o).mono ?_;rintro r W4 ⟨rfl,bO⟩;have eV:=aa (ae dT.o bO);clear tA tC bO
    go_wp2_with fail
    go_roundw
    ·exact⟨k+1,by omega,by go_num,ae aY.o eV.o⟩
    ·simp[intOf];omega
  ·obtain rfl:k=m:=by omega
   go_wp2_with fail
   go_ret
   exact⟨rfl,bW.o⟩
theorem PD(p:Pb) (vc vs uc us:Value) (w:World) (hc:bN w vc p.t.cases) (hs:bz w vs p.a.states) (kc:bN w uc p.t.cases) (ks:bz w us p.a.states) :
  Calls Tryz.prog 148 #[.agg (Ae p vc vs),.agg (Ae p uc us)] w fun e w'=>e=.returned (.bool true)/\Below w.heap.size w w':=by
 have HT:=aa (fun W (h:Below w.heap.size w W)=>PC p.t vc uc W (hc.up up_case h) (kc.up up_case h));have HA:=aa (fun W (h:Below w.heap.size w W)=>R0 p.a.n p.a.states vs us W (hs.up up_moves h) (ks.up up_moves h));obtain⟨p1,c1,rfl,_,_,_⟩:=hc.at;obtain⟨p2,c2,rfl,_,_,_⟩:=hs.at;obtain⟨p3,c3,rfl,_,_,_⟩:=kc.at;obtain⟨p4,c4,rfl,_,_,_⟩:=ks.at;generalize p.t.cases.length=n1,p.a.states.length=n2 at HT HA ⊢;clear hc hs kc ks
 go_enter Tryz.func148,Tryz.ntmps148
 go_wp2_with fail
 refine aQ (fun W=>Below w.heap.size w W/\(∃ c,W.heap[w.heap.size]?=some (.cells c 29)/\c=Ae p (.slice p1 n1 c1) (.slice p2 n2 c2))/\(∃ c,W.heap[w.heap.size+1]?=some (.cells c 29)/\c=Ae p (.slice p3 n1 c3) (.slice p4 n2 c4))) ⟨by go_grown,⟨_,aq _ (ap _ _),rfl⟩,⟨_,by have h:=ap (w.alloc (.cells (Ae p (.slice p1 n1 c1) (.slice p2 n2 c2)) 29)) (.cells (Ae p (.slice p3 n1 c3) (.slice p4 n2 c4)) 29);simpa using h,rfl⟩⟩ (fun W0 bd=>?_);obtain⟨aK,⟨_,bK,rfl⟩,⟨_,ni,rfl⟩⟩:=bd;refine(HT.o W0 aK).mono ?_;rintro r W1 ⟨rfl,aM⟩;have bL:=aa (ae aK aM);have tA:=ab (af aM bK);have tC:=ab (af aM ni);clear aK bK ni aM
 go_wp2_with fail
 refine(HA.o W1 bL.o).mono ?_;rintro r W2 ⟨rfl,aZ⟩;have cX:=aa (ae bL.o aZ);clear tA tC aZ
 go_wp2_with fail
 go_ret
 exact⟨rfl,cX.o⟩
theorem MT(s z:Sys) (hp:z.prob=s.prob) (vc vs vt ve uc us ut ue:Value) (w:World) (hs:IsSys w s vc vs vt ve) (hz:IsSys w z uc us ut ue) :
  Calls Tryz.prog 102 #[.agg (bZ s.prob vc vs s.n vt ve),.agg (bZ s.prob uc us z.n ut ue)] w fun e w'=>e=.returned (.bool (decide ((s.n=z.n/\s.tab=z.tab)/\s.ex=z.ex)))/\Below w.heap.size w w':=by
 have TE:=aa (fun W (h:Below w.heap.size w W)=>PD s.prob vc vs uc us W (hs.cases.up up_case h) (hs.states.up up_moves h) (by have:=hz.cases.up up_case h;rwa [hp]at this) (by have:=hz.states.up up_moves h;rwa [hp]at this));have Lw:=aa (fun W (h:Below w.heap.size w W)=>MO s.n z.n vt ut s.tab z.tab W (hs.tab.up up_view h) (hz.tab.up up_view h));obtain⟨p1,c1,rfl,_,_,_⟩:=hs.cases.at;obtain⟨p2,c2,rfl,_,_,_⟩:=hs.states.at;obtain⟨p3,c3,rfl,_,_,_⟩:=hs.tab.at;obtain⟨q1,d1,rfl,_,_,_⟩:=hz.cases.at;obtain⟨q2,d2,rfl,_,_,_⟩:=hz.states.at;obtain⟨q3,d3,rfl,_,_,_⟩:=hz.tab.at;obtain⟨pa,ca,rfl,la1,la2,ea⟩:=hs.ex.at;obtain⟨pb,cb,rfl,lb1,lb2,eb⟩:=hz.ex.at;have EA:=aa ea;have EB:=aa eb;obtain⟨bt,sQ⟩:∃ bt,decide (s.n=z.n/\s.tab=z.tab)=bt:=⟨_,rfl⟩;have Jy:am (bt=false->decide ((s.n=z.n/\s.tab=z.tab)/\s.ex=z.ex)=false):=aa fun h=>decide_eq_false fun e=>(of_decide_eq_false (sQ.trans h)) e.1
 have iP:am (s.ex.length≠z.ex.length->decide ((s.n=z.n/\s.tab=z.tab)/\s.ex=z.ex)=false):=aa fun h=>decide_eq_false fun e=>h (by rw[e.2])
 have oT:am (∀ j,j<s.ex.length->s.ex.getD j default≠z.ex.getD j default->decide ((s.n=z.n/\s.tab=z.tab)/\s.ex=z.ex)=false):=aa fun j _ h=>decide_eq_false fun e=>h (by rw[e.2])
 have hZ:am (bt=true/\s.ex.length=z.ex.length/\(∀ j,j<s.ex.length->s.ex.getD j default=z.ex.getD j default)->decide ((s.n=z.n/\s.tab=z.tab)/\s.ex=z.ex)=true):=aa fun ⟨h1,h2,h3⟩=>decide_eq_true ⟨of_decide_eq_true (sQ.trans h1),fj default h2 h3⟩
 rw[sQ]at Lw;generalize decide ((s.n=z.n/\s.tab=z.tab)/\s.ex=z.ex)=r at Jy iP oT hZ ⊢;generalize s.ex=ax at EA iP oT hZ la1 la2 ⊢;generalize z.ex=ay at EB iP oT hZ lb1 lb2 ⊢;rw[hp]at TE ⊢;clear hs hz ea eb sQ hp;generalize s.prob.t.cases.length=n1,s.prob.a.states.length=n2,s.tab.length=n3,z.tab.length=n4 at TE Lw ⊢;obtain⟨n,hn⟩:∃ n,ax.length=n:=⟨_,rfl⟩;obtain⟨m,hm⟩:∃ m,ay.length=m:=⟨_,rfl⟩;have HN:=aa hn;have HM:=aa hm;rw[hn]at la1 la2 ⊢;rw[hm]at lb1 lb2 ⊢;clear hn hm
 go_enter Tryz.func102,Tryz.ntmps102
 go_wp2_with fail
 refine aQ (fun W=>Below w.heap.size w W/\(∃ c,W.heap[w.heap.size]?=some (.cells c 35)/\c=bZ s.prob (.slice p1 n1 c1) (.slice p2 n2 c2) s.n (.slice p3 n3 c3) (.slice pa n ca))/\(∃ c,W.heap[w.heap.size+1]?=some (.cells c 35)/\c=bZ s.prob (.slice q1 n1 d1) (.slice q2 n2 d2) z.n (.slice q3 n4 d3) (.slice pb m cb))) ⟨by go_grown,⟨_,aq _ (ap _ _),rfl⟩,⟨_,by have h:=ap (w.alloc (.cells (bZ s.prob (.slice p1 n1 c1) (.slice p2 n2 c2) s.n (.slice p3 n3 c3) (.slice pa n ca)) 35)) (.cells (bZ s.prob (.slice q1 n1 d1) (.slice q2 n2 d2) z.n (.slice q3 n4 d3) (.slice pb m cb)) 35);simpa using h,rfl⟩⟩ (fun W00 bd=>?_);obtain⟨aK,⟨_,bK,rfl⟩,⟨_,ni,rfl⟩⟩:=bd;refine(TE.o W00 aK).mono ?_;rintro e W01 ⟨rfl,aM⟩;have HB01:=aa (ae aK aM);have HA01:=aa (af aM bK);have HC01:=aa (af aM ni);have tA:=ab HA01.o;have tC:=ab HC01.o;clear aK bK ni aM TE
 go_wp2_with fail
 refine(Lw.o W01 HB01.o).mono ?_;rintro e W0 ⟨rfl,aM⟩;have fA:=aa (ae HB01.o aM);have lC:=aa (af aM HA01.o);have nh:=aa (af aM HC01.o);clear tA tC;have tA:=ab lC.o;have tC:=ab nh.o;clear aM Lw;cases bt with
 | false=>
  have HR:am (r=false):=aa (by first|exact Jy.o rfl|exact Jy.o trivial)
  go_wp2_with fail
  go_ret
  exact⟨aS (by rw[HR.o]),fA.o⟩
 | true=>
  by_cases hl:n=m
  case neg=>
   have hd:(((n:Nat):Int) != ((m:Nat):Int))=true:=by simp;omega
   have HR:=aa (iP.o (by rw[HN.o,HM.o];exact hl));clear hl
   go_wp2_with fail
   go_ret
   exact⟨aS (by rw[HR.o]),fA.o⟩
  subst hl;have hd:((n:Int) != (n:Int))=false:=by simp
  go_wp2_with fail
  clear tA tC
  go_loopw [5] (fun i wr=>∃ k:Nat,k<=n/\i=.int .i64 k/\Below W0.heap.size W0 wr/\∀ j,j<k->ax.getD j default=ay.getD j default) (fun i _=>n - (intOf i).toNat)
  ·exact⟨0,by omega,rfl,Below.refl _ _,fun j hj=>by omega⟩
  ·
   obtain⟨k,hk,rfl,aA,aU⟩:=hrel;have H:=aa aU;have aY:=aa aA;have bW:=aa (ae fA.o aA);clear aU aA;have tA:=ab (af aY.o lC.o);have tC:=ab (af aY.o nh.o);by_cases aB:k<n
   ·obtain⟨b1,o1,rfl,⟨g0,_⟩,⟨v1,g1,h1⟩,⟨v2,g2,h2⟩⟩:=EA.o k (by rw[HN.o];exact aB);obtain⟨b2,o2,rfl,⟨e0,_⟩,⟨u1,e1,i1⟩,⟨u2,e2,i2⟩⟩:=EB.o k (by rw[HM.o];exact aB);have qm:=aa (az (default:Ex) (show k<ax.length by rw[HN.o];exact aB));have rK:=aa (az (default:Ex) (show k<ay.length by rw[HM.o];exact aB));generalize ax[k]'(by rw[HN.o];exact aB)=x at g0 h1 h2 qm;generalize ay[k]'(by rw[HM.o];exact aB)=y at e0 i1 i2 rK;have t0:=ak bW.o g0;have t1:=ak bW.o g1;have t2:=ak bW.o g2;have r0:=ak bW.o e0;have r1:=ak bW.o e1;have r2:=ak bW.o e2;have yF:=aa (fun W (h:Below w.heap.size w W)=>MS x y v1 u1 v2 u2 W (h1.up up_round h) (i1.up up_round h) (h2.up up_ints h) (i2.up up_ints h));clear h1 h2 i1 i2 g0 g1 g2 e0 e1 e2
    go_wp2_with fail
    go_still_tail 10,(by kernel_rfl)
    go_wp2_with fail
    refine aQ (fun W=>Below wr.heap.size wr W) (Below.drew (Below.refl _ _)) (fun W5 hW5=>?_);refine(yF.o W5 (ae bW.o hW5)).mono ?_;rintro e w6 ⟨rfl,ip⟩;have vh:=aa (ae aY.o (ae hW5 ip));clear hW5 ip t0 t1 t2 r0 r1 r2 tA tC yF;cases cC:decide (x=y) with
    | true=>
     have ou:=aa (of_decide_eq_true cC);clear cC
     go_wp2_with fail
     go_roundw
     ·exact⟨k+1,by omega,by go_num,vh.o,aV (p:=fun j=>ax.getD j default=ay.getD j default) H.o (by rw[qm.o,rK.o];exact ou.o)⟩
     ·simp[intOf];omega
    | false=>
     have HR:=aa (oT.o k (by rw[HN.o];exact aB) (by rw[qm.o,rK.o];exact of_decide_eq_false cC));clear cC
     go_wp2_with fail
     go_ret
     exact⟨aS (by rw[HR.o]),ae fA.o vh.o⟩
   ·obtain rfl:k=n:=by omega
    have HF:∀ j,j<ax.length->ax.getD j default=ay.getD j default:=fun j hj=>H.o j (by have:=HN.o;omega)
    have HR:am (r=true):=aa (hZ.o ⟨by first|rfl|trivial,by rw[HN.o,HM.o],HF⟩);clear HF
    go_wp2_with fail
    go_ret
    exact⟨aS (by rw[HR.o]),bW.o⟩
theorem Fp{w:World} {v:Value} {l:List Lk} (h:bJ w v l) (j:Nat) (u:Value) (hu:(cK l)[j]?=some u):∃ b o c,v=.slice (some ⟨b,o,none⟩) l.length c/\w.cell? ⟨b,o+j,none⟩=some u:=by
 have hj:=(List.getElem?_eq_some_iff.1 hu).1;rw[kn]at hj;obtain⟨i,s,hs,rfl⟩:∃ i s,s<2/\j=i * 2+s:=⟨j / 2,j % 2,by omega,by omega⟩;have hi:i<l.length:=by omega
 unfold cK at hu;rw[pH Lk.c 2 (fun _=>rfl) l i s hi hs]at hu;obtain⟨a,cap,rfl,_,_,e⟩:=h.at;obtain⟨b,o,rfl,⟨c0,_⟩,⟨c1,_⟩⟩:=e i hi;refine⟨b,o,cap,rfl,?_⟩;rw[<-Nat.add_assoc];rcases (show s=0\/s=1 by omega) with rfl|rfl<;>(simp at hu;subst hu;first|exact c0|exact c1)
theorem Bq{w:World} {v:Value} {l:List Lk} (h:bJ w v l):∀ y∈l,bS y.x/\bS y.p:=fun y hy=>by
 obtain⟨i,hi,rfl⟩:=List.getElem_of_mem hy;obtain⟨a,cap,rfl,_,_,e⟩:=h.at;obtain⟨b,o,_,h1⟩:=e i hi;exact⟨h1.1.2,h1.2.2⟩
theorem rl{w:World} {a:Option Addr} {n c:Nat} {l:List Lk} (h:bJ w (.slice a n c) l) (k:Nat) (hk:k<=l.length):bJ w (.slice a k c) (l.take k):=by
 obtain⟨a',c',e,⟨h1,h2,h3⟩,h4,h5⟩:=h;injection e with e1 e2 e3
 subst e1 e3;refine⟨a,c,by rw[List.length_take,Nat.min_eq_left hk],⟨by rw[List.length_take];omega,h2,h3⟩,by rw[List.length_take];omega,fun i x hx=>h5 i x ?_⟩;rw[List.getElem?_take]at hx;split at hx
 ·exact hx
 ·cases hx
theorem Cp{w:World} {b o n c:Nat} {l:List Lk} (h:bJ w (.slice (some ⟨b,o,none⟩) n c) l) (k:Nat) (hk:k<=l.length):bJ w (.slice (some (if c=k then⟨b,o,none⟩ else⟨b,o+k * 2,none⟩)) (n - k) (c - k)) (l.drop k):=by
 obtain⟨a',c',e,⟨h1,h2,h3⟩,h4,h5⟩:=h;injection e with e1 e2 e3
 subst e1 e2 e3;refine⟨_,c - k,by rw[List.length_drop],⟨by rw[List.length_drop];omega,by omega,fun h=>by cases h⟩,by rw[List.length_drop];omega,fun i x hx=>?_⟩;rw[List.getElem?_drop]at hx;have hi:=(List.getElem?_eq_some_iff.1 hx).1;obtain⟨b',o',e,hr⟩:=h5 (k+i) x hx;injection e with e;injection e with e1 e2 e3
 subst e1 e2;refine⟨b,o+k * 2,by rw[if_neg (by omega)],?_⟩;rw[Nat.add_mul,<-Nat.add_assoc]at hr;exact hr
theorem pT(v:Value) (l:List Lk) (w:World) (hv:bJ w v l) (hn:l.length<=1048576) :
  Calls Tryz.prog 27 #[v] w fun e w'=>∃ u,e=.returned u/\aJ w' w.heap.size 75 2 u l.length (cK l)/\Below w.heap.size w w':=by
 obtain⟨i0,hi,cH,cj,cI⟩:=info_parts Tryz.infoLink;have HW:=aa (Fp hv);have jQ:=fun w=>Lib.run_eql_slice_nil (P:=Tryz.prog) w 54
 obtain⟨a,cap,rfl,⟨_,_,jP⟩,_,_⟩:=hv;cases a with
 | none=>
  have hl:l.length=0:=by have:=jP rfl;omega
  obtain rfl:l=[]:=List.eq_nil_of_length_eq_zero hl;obtain rfl:=jP rfl
  go_enter Tryz.func27,Tryz.ntmps27
  go_wp2_with fail
  go_ret
  exact⟨_,rfl,aJ.nil _ _ _ _,Below.refl _ _⟩
 | some ad=>
  have bT:∀ j u,(cK l)[j]?=some u->(w.alloc (.cells #[] 75)).cell? (ad.add j)=some u:=fun j u hj=>by
   obtain⟨b,o,c,e,eM⟩:=HW.o j u hj;have:ad=⟨b,o,none⟩:=by simp at e;exact e.1
   subst this;have:(Addr.add ⟨b,o,none⟩ j)=⟨b,o+j,none⟩:=by unfold Addr.add;split<;>simp_all
   rw[this];exact ak (by go_grown) eM
  have bg:aJ (w.alloc (.cells #[] 75)) w.heap.size 75 2 (.slice (some ⟨w.heap.size,0,none⟩) 0 0) 0 []:=⟨by simp,.inr ⟨w.heap.size,0,#[],(0,0),rfl,Nat.le_refl _,ap _ _,fun i hi=>by simp at hi,by omega,by simp[maxLen],by simp,by simp⟩⟩;have bE:=aa bT;have bP:=aa bg;clear bT bg jP
  go_enter Tryz.func27,Tryz.ntmps27
  go_wp2_with (at_builtin;(refine bh _ rfl (.tmp 5) (.tmp 6) 54 rfl w.heap.size 75 i0 _ 2 16 Tryz.underlying54 hi cH cj cI rfl (by decide) _ 0 [] rfl bP.o ad l.length cap (cK l) rfl (kn l) bE.o (B7 l) (by unfold maxLen;omega) (by omega) (by simp) ?_;intro v' w1 gR lw _;obtain⟨av',cv',rfl⟩:=gR.slice))
  go_ret
  rw[Nat.zero_add,List.nil_append]at gR;refine⟨_,rfl,by simpa using gR,Below.grown (w:=w.alloc (.cells #[] 75)) (by go_grown) lw (by simp) (fun k hk=>?_)⟩;cases hk;exact Nat.le_refl _
theorem aJ.links{w:World} {base:Nat} {v:Value} {l:List Lk} (h:aJ w base 75 2 v l.length (cK l)) (hx:∀ u∈l,bS u.x/\bS u.p) (hn:l.length<=1048576):bJ w v l:=sN h hx (by omega)
theorem Ec{w:World} {base g n c:Nat} {l:List Lk} (h:aJ w base 75 2 (.slice (some ⟨g,0,none⟩) n c) n (cK l)) (j:Nat) (x:Value) (hj:j<(cK l).length) {m:List Lk} (hm:cK m=(cK l).set j x):aJ (w.setCell ⟨g,j,none⟩ x) base 75 2 (.slice (some ⟨g,0,none⟩) n c) n (cK m):=by
 obtain⟨hl,h⟩:=h;refine⟨by rw[hm,List.length_set];exact hl,?_⟩;rcases h with ⟨h,_⟩|⟨g',cap,cur,fz,h1,h2,h3,h4,h5,h6,h7,h8⟩
 ·cases h
 injection h1 with e1 e2 e3
 injection e1 with e1
 injection e1 with e1
 subst e1 e3;refine .inr ⟨g,c,cur.setIfInBounds j x,fz,rfl,h2,aI h3 _ _,by simpa using h4,h5,h6,by simpa using h7,?_⟩;rw[hm,Array.toList_setIfInBounds,List.take_set,h8]
end Go.Proofs.YtmeaoneaephjeaaGreatDoor
