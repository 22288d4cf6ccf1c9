/-
  A part of the proof: lemmas and contracts that the parts behind it use. Each one's conditions are its own premises.
-/
import Derived.Test.YtmeaoneaephjeaaGreatDoorJ8
set_option maxRecDepth 100000
set_option maxHeartbeats 8000000
set_option linter.unusedVariables false
set_option linter.unusedSimpArgs false
namespace Go.Proofs.YtmeaoneaephjeaaGreatDoor
open Go.RowKit Go Go.Shelf
attribute [local go_sem] Oper.semAt_some
def sy(s:Sys) (e f:Nat):Bool:=eI s e f&&decide (f≠e)
def fN(s:Sys) (e k:Nat):List Nat:=(List.range k).filter (sy s e)
def dL(s:Sys) (e:Nat):List Nat:=fN s e (eS s)
theorem vU{s:Sys} {e k:Nat} (h:sy s e k=true):fN s e (k+1)=fN s e k++[k]:=by
 unfold fN;rw[List.range_succ,List.filter_append];simp[h]
theorem zb{s:Sys} {e k:Nat} (h:sy s e k=false):fN s e (k+1)=fN s e k:=by
 unfold fN;rw[List.range_succ,List.filter_append];simp[h]
theorem Rb{s:Sys} {e:Nat}:∀ {k m:Nat},k<=m->fN s e k <+: fN s e m:=fun {k m} h=>by
 induction m with
 | zero=>obtain rfl:k=0:=by omega
         exact List.prefix_refl _
 | succ m ih=>
  by_cases e1:k=m+1
  ·subst e1;exact List.prefix_refl _
  ·refine(ih (by omega)).trans ?_
   cases hb:sy s e m with
   | true=>rw[vU hb];exact List.prefix_append _ _
   | false=>rw[zb hb];exact List.prefix_refl _
theorem Vf{s:Sys} {e k:Nat} (hk:k<eS s) (h:sy s e k=true):(fN s e k).length<(dL s e).length/\(dL s e).getD (fN s e k).length 0=k:=by
 have h1:fN s e (k+1) <+: dL s e:=Rb (by omega);rw[vU h]at h1;obtain⟨t,ht⟩:=h1;rw[<-ht];refine⟨by simp,?_⟩;rw[List.append_assoc,List.getD_eq_getElem?_getD,List.getElem?_append_right (Nat.le_refl _)];simp
theorem qW{s:Sys} {e f:Nat}:f∈dL s e↔f<eS s/\eI s e f=true/\f≠e:=by
 simp[dL,fN,sy]
def Hj(s:Sys) (e:Nat) (i:Nat):Array Value:=#[.int .i64 ((dL s e).getD i 0:Nat),.int .i64 (byP s e ((dL s e).getD i 0))]
theorem uF(B e:Nat) (w:World) :
  Calls Tryz.prog 138 #[.pointer (some ⟨B,0,none⟩),.int .i64 e] w fun r w'=>r=.returned (.func (.func 179) #[] #[.pointer (some ⟨w.heap.size,0,none⟩),.pointer (some ⟨w.heap.size+1,0,none⟩)])/\w'=(w.alloc (.cells #[.pointer (some ⟨B,0,none⟩)] 196)).alloc (.cells #[.int .i64 e] 3):=by
 go_enter Tryz.func138,Tryz.ntmps138
 go_wp2
 go_ret
 exact⟨rfl,rfl⟩
def gk(S:Nat->Prop) (w w':World):Prop:=∀ k,S k->w'.heap[k]?=w.heap[k]?
theorem gk.trans{S:Nat->Prop} {a b c:World} (h:gk S a b) (k:gk S b c):gk S a c:=fun i hi=>(k i hi).trans (h i hi)
theorem gk.cell{S:Nat->Prop} {w w':World} (h:gk S w w') {b:Nat} (hb:S b) {o:Nat}:w'.cell? ⟨b,o,none⟩=w.cell? ⟨b,o,none⟩:=by
 have:=h b hb;unfold World.cell?;rw[this]
theorem sA(s:Sys) (hs:SysOk s) (B e bx be:Nat) (he:e<eS s) (base:Nat) (w0:World) (h:gH w0 base B s) (w:World) (aH:∀ k,base<=k->k<w0.heap.size->w.heap[k]?=w0.heap[k]?) (mA:w0.heap.size<=w.heap.size) (hx:w.cell? ⟨bx,0,none⟩=some (.pointer (some ⟨B,0,none⟩))) (hy:w.cell? ⟨be,0,none⟩=some (.int .i64 e)) :
  rR Tryz.prog 179 #[.pointer (some ⟨bx,0,none⟩),.pointer (some ⟨be,0,none⟩)] (Hj s e) (dL s e).length (fun k=>(base<=k/\k<w0.heap.size)\/k=bx\/k=be) w:=by
 intro yl J Jx W hW hJ nM hY h0;have kE:=eX hx;have lR:=eX hy;have eP:gk (fun k=>(base<=k/\k<w0.heap.size)\/k=bx\/k=be) w W:=fun k hk=>hW.block k (by rcases hk with hk|rfl|rfl<;>first|omega|assumption)
 obtain⟨pl,cl,h1,-⟩:=(h.at hs).open;have Py:=h.1;have H1:=aa h1;have HX:=aa hx;have Ta:=aa hy;have jq:=aa h;have HJ:=aa hJ;have Jb:=aa nM;have HY:=aa hY;have H0:=aa h0;have hH:Hid (∀ (W:World) (f:Nat),f<eS s->FinAt W B s->_):=aa fun W f (hf:f<eS s) (h:FinAt W B s)=>zS s hs B e f he hf W h
 have HKF:Hid (∀ W:World,gk (fun k=>(base<=k/\k<w0.heap.size)\/k=bx\/k=be) w W->FinAt W B s):=aa (fun W yT=>by exact(h.keep fun k h1 h2=>(yT k (.inl ⟨h1,h2⟩)).trans (aH k h1 h2)).at hs);have tx:=(eP.cell (.inr (.inl rfl))).trans hx;have tF:W.cell? ⟨B,1,none⟩=some (.slice pl (eS s) cl):=(ab ((eP B (.inl ⟨Py,aB h1⟩)).trans ((aH B Py (aB h1)).trans h1)) 1).trans rfl;have sS:=aa eP;have HN:Hid (∀ k,k<eS s->sy s e k=true->(fN s e k).length<(dL s e).length/\(dL s e).getD (fN s e k).length 0=k):=aa fun k hk h=>Vf hk h
 have iY:Hid ((fN s e (eS s)).length=(dL s e).length):=aa rfl;have ji:=hs.n.2.1
 have eJ:Hid (∀ f,eI s e f=true->0<=byP s e f/\byP s e f<nS s/\(∀ j,j<(byP s e f).toNat->linkB s j e f=false)/\linkB s (byP s e f).toNat e f=true):=aa (fun f hf=>by
  obtain⟨g1,g2,g3⟩:=Dj hf;refine⟨g1,g2,fun j hj=>?_,g3⟩;unfold byP at hj;rcases bG (nS s) (fun p=>linkB s p e f) with ⟨e1,_⟩|⟨k,hk,e1,_,h2⟩
  ·rw[e1]at hj;simp at hj
  ·rw[e1,Int.toNat_natCast]at hj;exact h2 j hj)
 have IK:=hs;clear h1 hx hy h aH kE lR mA Py hJ nM hY h0 eP hs;obtain⟨m,hm⟩:∃ m,eS s=m:=⟨_,rfl⟩;have hcount:=IK.count;rw[hm]at HN iY he tF hH hcount;clear hm IK;refine(callsIn_wide (n:=0)).1 ?_;refine callsIn_of_wp Tryz.func179 rfl trivial ?_ rfl;simp only[Tryz.ntmps179,List.size_toArray,List.length_cons,List.length_nil,Nat.reduceAdd,Nat.reduceSub,Array.replicate_succ,Array.replicate_zero,List.push_toArray,List.append_toArray,List.nil_append,List.cons_append]
 gi_wp2
 clear tx tF
 gi_loopw [12] (fun i wr=>∃ k:Nat,k<=m/\i=.int .i64 k/\gk (fun k=>(base<=k/\k<w0.heap.size)\/k=bx\/k=be) w wr/\J (fN s e k).length wr) (fun i _=>m - (intOf i).toNat)
 case atStart=>exact⟨0,by omega,rfl,sS.out,H0.out⟩
 case round=>
  obtain⟨k,hk,rfl,fL,hj⟩:=hrel;have jM:=aa fL;have iT:=aa hj;clear hj;by_cases aA:k<m
  ·have tx:=(fL.cell (.inr (.inl rfl))).trans HX.out
   have ty:=(fL.cell (.inr (.inr rfl))).trans Ta.out;have HL:=aa (hH.out wr k aA (HKF.out wr fL));obtain⟨set,k8⟩:∃ set,maskN (fun p=>linkB s p e k) (nS s)=set:=⟨_,rfl⟩;rw[k8]at HL;have eV:=aa k8;have hz:set=0↔eI s e k=false:=by rw[<-k8,nh];rfl
   clear fL k8
   gi_wp2
   refine⟨trivial,rfl,callsIn_wide.2 (HL.out.mono ?_)⟩;rintro r w1 ⟨rfl,rfl⟩;by_cases hb:eI s e k=true
   ·have Nf:¬ ((set:Int)=0):=fun h=>by have:=hz.1 (by omega);rw[hb]at this;cases this
    have IK:((set:Int) == 0)=false:=by simpa using Nf
    by_cases sQ:e=k
    ·have fy:Hid ((fN s e (k+1)).length=(fN s e k).length):=aa (by rw[zb (by unfold sy;rw[decide_eq_false (show ¬ (k≠e) from fun h=>h sQ.symm),Bool.and_false])])
     have RC:((e:Int) == (k:Int))=true:=by rw[sQ];simp
     clear hz Nf sQ hb
     gi_wp2
     go_roundw
     case rel=>exact⟨k+1,by omega,by go_num,jM.out,by rw[fy.out];exact iT.out⟩
     case measure=>simp[intOf];omega
    ·have iy:sy s e k=true:=by unfold sy;rw[hb,decide_eq_true (show k≠e from fun h=>sQ h.symm)];rfl
     have jp:Hid ((fN s e (k+1)).length=(fN s e k).length+1):=aa (by rw[vU iy];simp);obtain⟨jP,nW⟩:=HN.out k aA iy;have RC:((e:Int) == (k:Int))=false:=by simp;omega
     obtain⟨g1,g2,g3,g4⟩:=eJ.out k hb;obtain⟨p0,uY⟩:∃ p0:Nat,byP s e k=p0:=⟨(byP s e k).toNat,by omega⟩;rw[uY,Int.toNat_natCast]at g3 g4;have fj:Hid (∀ p,p<p0->hasB (set:Nat) p=false):=aa (fun p hp=>by rw[<-eV.out,mF,g3 p hp,Bool.and_false]);have bF:Hid (hasB (set:Nat) p0=true):=aa (by rw[<-eV.out,mF,g4,decide_eq_true (by omega)];rfl);have Bc:Hid (Hj s e (fN s e k).length=#[.int .i64 k,.int .i64 p0]):=aa (by unfold Hj;rw[nW,uY]);have Jf:p0<5:=by omega
     obtain⟨c,hc⟩:∃ c,(fN s e k).length=c:=⟨_,rfl⟩;rw[hc]at jP Bc jp iT;clear hz Nf sQ hb iy nW g1 g2 g3 g4 uY hc
     gi_wp2
     gi_loop [6] (fun x=>∃ p:Nat,p<=p0/\x=.int .i64 p) (fun x=>p0 - (intOf x).toNat)
     case atStart=>exact⟨0,by omega,rfl⟩
     case round=>
      obtain⟨p,hp,rfl⟩:=hrel;have gw:=rS (set:Nat) p;by_cases hpp:p=p0
      ·subst hpp
       rw[bF.out]at gw;obtain⟨fn,tmps,assign,body,oy,hR⟩:=HY.out c wr jP iT.out;rw[Bc.out]at oy;have HR:=aa hR;clear hR
       gi_wp2
       refine⟨rfl,HR.out.mono ?_⟩;rintro e W3 (⟨rfl,C6,CE,hZ⟩|⟨rfl,rA⟩)
       ·gi_wp2
        go_roundw
        case rel=>exact⟨k+1,by omega,by go_num,gk.trans jM.out hZ,by rw[jp.out];exact C6⟩
        case measure=>simp[intOf];omega
       ·gi_wp2
        refine bodyPost_ret (results_none rfl _ _ _) rfl ?_;exact⟨⟨_,rfl⟩,.inr ⟨_,by omega,rA⟩⟩
      ·rw[fj.out p (by omega)]at gw
       gi_wp2
       go_round
       case rel=>exact⟨p+1,by omega,by go_num⟩
       case measure=>simp[intOf];omega
   ·have gN:eI s e k=false:=by simpa using hb
    obtain rfl:=hz.2 gN;have fy:Hid ((fN s e (k+1)).length=(fN s e k).length):=aa (by rw[zb (by unfold sy;rw[gN];rfl)]);clear hz hb gN
    gi_wp2
    go_roundw
    case rel=>exact⟨k+1,by omega,by go_num,jM.out,by rw[fy.out];exact iT.out⟩
    case measure=>simp[intOf];omega
  ·obtain rfl:k=m:=by omega
   gi_wp2
   go_end0
   exact⟨⟨_,rfl⟩,.inl (by rw[<-iY.out];exact iT.out)⟩
def gl(parts:List Int) (label:Int) (k:Nat):List Nat:=(List.range k).filter fun e=>decide (parts.getD e 0=label)
theorem sB{p:List Int} {x:Int} {k:Nat} (h:p.getD k 0=x):gl p x (k+1)=gl p x k++[k]:=by
 unfold gl;rw[List.range_succ,List.filter_append];simpa using h
theorem AX{p:List Int} {x:Int} {k:Nat} (h:p.getD k 0≠x):gl p x (k+1)=gl p x k:=by
 unfold gl;rw[List.range_succ,List.filter_append];simpa using h
theorem OI{p:List Int} {x:Int}:∀ {k m:Nat},k<=m->gl p x k <+: gl p x m:=fun {k m} h=>by
 induction m with
 | zero=>obtain rfl:k=0:=by omega
         exact List.prefix_refl _
 | succ m ih=>
  by_cases e1:k=m+1
  ·subst e1;exact List.prefix_refl _
  ·refine(ih (by omega)).trans ?_
   by_cases hb:p.getD m 0=x
   ·rw[sB hb];exact List.prefix_append _ _
   ·rw[AX hb];exact List.prefix_refl _
theorem UA{p:List Int} {x:Int} {k:Nat} (hk:k<p.length) (h:p.getD k 0=x):(gl p x k).length<(memL p x).length/\(memL p x).getD (gl p x k).length 0=k:=by
 have h1:gl p x (k+1) <+: memL p x:=OI (by omega);rw[sB h]at h1;obtain⟨t,ht⟩:=h1;rw[<-ht];refine⟨by simp,?_⟩;rw[List.append_assoc,List.getD_eq_getElem?_getD,List.getElem?_append_right (Nat.le_refl _)];simp
def vV(l:List Nat) (i:Nat):Array Value:=#[.int .i64 (l.getD i 0:Nat)]
theorem wB(B:Nat) (x:Int) (w:World) :
  Calls Tryz.prog 85 #[.pointer (some ⟨B,0,none⟩),.int .i64 x] w fun r w'=>r=.returned (.func (.func 135) #[] #[.pointer (some ⟨w.heap.size,0,none⟩),.pointer (some ⟨w.heap.size+1,0,none⟩)])/\w'=(w.alloc (.cells #[.pointer (some ⟨B,0,none⟩)] 94)).alloc (.cells #[.int .i64 x] 3):=by
 go_enter Tryz.func85,Tryz.ntmps85
 go_wp2
 go_ret
 exact⟨rfl,rfl⟩
theorem uG(s:Sys) (B bx be:Nat) (x:Int) (w0:World) (h:ScAt w0 B s) (w:World) (aH:Below w0.heap.size w0 w) (hx:w.cell? ⟨bx,0,none⟩=some (.pointer (some ⟨B,0,none⟩))) (hy:w.cell? ⟨be,0,none⟩=some (.int .i64 x)) :
  rR Tryz.prog 135 #[.pointer (some ⟨bx,0,none⟩),.pointer (some ⟨be,0,none⟩)] (vV (memL (partsS s) x)) (memL (partsS s) x).length (fun k=>k<w0.heap.size\/k=bx\/k=be) w:=by
 intro yl J Jx W hW hJ nM hY h0;have kE:=eX hx;have lR:=eX hy;have mA:=aH.size;have eP:gk (fun k=>k<w0.heap.size\/k=bx\/k=be) w W:=fun k hk=>hW.block k (by rcases hk with hk|rfl|rfl<;>first|omega|assumption)
 obtain⟨vc,vs,vt,ve,vv,vl,h1,_,_,h2⟩:=h.ex;obtain⟨pl,cl,rfl,lt1,lt2,el⟩:=h2.at;have H1:=aa h1;have HX:=aa hx;have Ta:=aa hy;have HJ:=aa hJ;have Jb:=aa nM;have HY:=aa hY;have H0:=aa h0;have tx:=(eP.cell (.inr (.inl rfl))).trans hx;have yI:∀ k,k<w0.heap.size->w.heap[k]?=w0.heap[k]?:=fun k hk=>aH.block k hk
 have KB:=aa yI;have tF:W.cell? ⟨B,11,none⟩=some (.slice pl (partsS s).length cl):=(ab ((eP B (.inl (aB h1))).trans ((aH.block B (aB h1)).trans h1)) 11).trans rfl;have sS:=aa eP;have Ck:Hid (∀ k,k<(partsS s).length->(partsS s).getD k 0=x->(gl (partsS s) x k).length<(memL (partsS s) x).length/\(memL (partsS s) x).getD (gl (partsS s) x k).length 0=k):=aa fun k hk h=>UA hk h
 have jp:Hid (∀ k,(partsS s).getD k 0=x->(gl (partsS s) x (k+1)).length=(gl (partsS s) x k).length+1):=aa fun k h=>by rw[sB h];simp
 have fy:Hid (∀ k,(partsS s).getD k 0≠x->(gl (partsS s) x (k+1)).length=(gl (partsS s) x k).length):=aa fun k h=>by rw[AX h]
 have iY:Hid ((gl (partsS s) x (partsS s).length).length=(memL (partsS s) x).length):=aa rfl
 have EL:Hid (∀ (V:World),gk (fun k=>k<w0.heap.size\/k=bx\/k=be) w V->∀ i,i<(partsS s).length->∃ b o,pl=some ⟨b,o,none⟩/\V.cell? ⟨b,o+i,none⟩=some (.int .i64 ((partsS s).getD i 0))):=aa (fun V hV i hi=>by
  obtain⟨b,o,e1,c1,_⟩:=el i hi;rw[Nat.mul_one,<-az 0 hi]at c1;have aA:=eX c1;refine⟨b,o,e1,?_⟩;rw[hV.cell (.inl aA),<-c1];unfold World.cell?
  rw[yI b aA])
 clear h1 hx hy h aH kE lR mA hJ nM hY h0 eP h2 el yI;obtain⟨n,hn⟩:∃ n,(partsS s).length=n:=⟨_,rfl⟩;rw[hn]at Ck iY EL lt1 lt2 tF;clear hn;refine(callsIn_wide (n:=0)).1 ?_;refine callsIn_of_wp Tryz.func135 rfl trivial ?_ rfl;simp only[Tryz.ntmps135,List.size_toArray,List.length_cons,List.length_nil,Nat.reduceAdd,Nat.reduceSub,Array.replicate_succ,Array.replicate_zero,List.push_toArray,List.append_toArray,List.nil_append,List.cons_append]
 gi_wp2
 clear tx tF
 gi_loopw [11] (fun i wr=>∃ k:Nat,k<=n/\i=.int .i64 k/\gk (fun k=>k<w0.heap.size\/k=bx\/k=be) w wr/\J (gl (partsS s) x k).length wr) (fun i _=>n - (intOf i).toNat)
 case atStart=>exact⟨0,by omega,rfl,sS.out,H0.out⟩
 case round=>
  obtain⟨k,hk,rfl,fL,hj⟩:=hrel;have jM:=aa fL;have iT:=aa hj;clear hj;by_cases aA:k<n
  ·obtain⟨b1,o1,rfl,c1⟩:=EL.out wr fL k aA
   have ty:=(fL.cell (.inr (.inr rfl))).trans Ta.out;clear fL;by_cases hx:(partsS s).getD k 0=x
   ·have PC:=aa (jp.out k hx)
    obtain⟨jP,nW⟩:=Ck.out k aA hx;have Bc:Hid (vV (memL (partsS s) x) (gl (partsS s) x k).length=#[.int .i64 k]):=aa (by unfold vV;rw[nW]);rw[hx]at c1;obtain⟨c,hc⟩:∃ c,(gl (partsS s) x k).length=c:=⟨_,rfl⟩;rw[hc]at jP Bc PC iT;clear nW hx hc;have kY:(x == x)=true:=by simp
    obtain⟨fn,tmps,assign,body,oy,hR⟩:=HY.out c wr jP iT.out;rw[Bc.out]at oy;have HR:=aa hR;clear hR
    gi_wp2
    refine⟨rfl,HR.out.mono ?_⟩;rintro e W3 (⟨rfl,C6,CE,hZ⟩|⟨rfl,rA⟩)
    ·gi_wp2
     go_roundw
     case rel=>exact⟨k+1,by omega,by go_num,gk.trans jM.out hZ,by rw[PC.out];exact C6⟩
     case measure=>simp[intOf];omega
    ·gi_wp2
     refine bodyPost_ret (results_none rfl _ _ _) rfl ?_;exact⟨⟨_,rfl⟩,.inr ⟨_,by omega,rA⟩⟩
   ·have pY:=aa (fy.out k hx)
    have kY:((partsS s).getD k 0 == x)=false:=beq_eq_false_iff_ne.2 hx;generalize (partsS s).getD k 0=y at c1 kY;clear hx
    gi_wp2
    refine⟨fun f hf=>(by cases hf),?_⟩
    gi_wp2
    go_roundw
    case rel=>exact⟨k+1,by omega,by go_num,jM.out,by rw[pY.out];exact iT.out⟩
    case measure=>simp[intOf];omega
  ·obtain rfl:k=n:=by omega
   clear fL
   gi_wp2
   go_end0
   exact⟨⟨_,rfl⟩,.inl (by rw[<-iY.out];exact iT.out)⟩
end Go.Proofs.YtmeaoneaephjeaaGreatDoor
namespace Go.Proofs.YtmeaoneaephjeaaGreatDoor
open Go.RowKit Go Go.Shelf
attribute [local go_sem] Oper.semAt_some
attribute [local go_sem] xD
theorem Kj(s:Sys) (e:Nat):gT s e<256:=gS _ 8
theorem Kk(s:Sys) (l:List Nat):comM s l<256:=gS _ 8
theorem ScAt.val{w:World} {B:Nat} {s:Sys} (h:ScAt w B s):∃ pv cv,w.cell? ⟨B,10,none⟩=some (.slice pv (eS s) cv)/\∀ e,e<eS s->∃ b o,pv=some ⟨b,o,none⟩/\w.cell? ⟨b,o+e,none⟩=some (.int .i64 (gT s e:Nat)):=by
 obtain⟨vc,vs,vt,ve,vv,vl,h1,_,h2,_⟩:=h.ex;obtain⟨pv,cv,rfl,_,_,ev⟩:=h2.at;have hl:(Dl s).length=eS s:=by simp[Dl]
 rw[hl]at h1;refine⟨pv,cv,(ab h1 10).trans rfl,fun e he=>?_⟩;obtain⟨b,o,e1,c1,_⟩:=ev e (by rw[hl];exact he);refine⟨b,o,e1,?_⟩;rw[Nat.mul_one]at c1;rw[c1];simp[Dl]
theorem JT(bo bs B n cv e m v b o:Nat) (hm:m<256) (hv:v<256) (he:e<n) (W:World) (h1:W.heap[bo]?=some (.cells #[.int .i64 m] 3)) (h2:W.cell? ⟨bs,0,none⟩=some (.pointer (some ⟨B,0,none⟩))) (h3:W.cell? ⟨B,10,none⟩=some (.slice (some ⟨b,o,none⟩) n cv)) (h4:W.cell? ⟨b,o+e,none⟩=some (.int .i64 v)) :
  Calls Tryz.prog 134 #[.int .i64 e,.pointer (some ⟨bo,0,none⟩),.pointer (some ⟨bs,0,none⟩)] W fun r W'=>(∃ x,r=.returned x)/\W'=W.drew.setCell ⟨bo,0,none⟩ (.int .i64 (m &&& v:Nat)):=by
 have t1:=ab h1 0;simp at t1;have VW:=aa h1;have lF:bits .and .i64 ((m:Nat):Int) ((v:Nat):Int)=((m &&& v:Nat):Int):=zx m v (by omega) (by omega);clear h1
 go_enter Tryz.func134,Tryz.ntmps134
 go_still_tail 9,(by kernel_rfl)
 change wpList _ _ _ _ _ W.drew;have t2:W.drew.cell? ⟨bo,0,none⟩=some (.int .i64 m):=t1;have z2:W.drew.frozen? ⟨bo,0,none⟩=false:=aE VW.out 0;clear t1 h2 h3 h4;obtain⟨V,hV⟩:∃ V,V=W.drew:=⟨_,rfl⟩;rw[<-hV]at t2 z2 ⊢;clear hV
 go_wp2_with fail
 go_end0
 exact⟨⟨_,rfl⟩,rfl⟩
structure CmI (s:Sys) (w:World) (B:Nat) (l:List Nat) (V:World):Prop where
 old:Below w.heap.size w V
 sc:V.heap[w.heap.size]?=some (.cells #[.pointer (some ⟨B,0,none⟩)] 94)
 out:V.heap[w.heap.size+1]?=some (.cells #[.int .i64 (comM s l:Nat)] 3)
 fn:V.heap[w.heap.size+1+1]?=some (.cells #[.func (.func 134) #[] #[.pointer (some ⟨w.heap.size+1,0,none⟩),.pointer (some ⟨w.heap.size,0,none⟩)]] 205)
theorem CmI.sta{s:Sys} {w:World} {B B0:Nat} {l:List Nat} (h:w.heap.size<=B0):cB B0 (CmI s w B l):=fun _ _ c x=>⟨c.below h x.old.size x.old,c.same _ _ x.sc (.inr rfl),c.same _ _ x.out (.inr rfl),c.same _ _ x.fn (.inr rfl)⟩
theorem B4(s:Sys) (B:Nat) (gf:Nat) (lb:Array Value) (eg:∀ args w,(callFunc gf args).run Tryz.prog w=.ok (.enter gf args) w) (l:List Nat) (hl:∀ e∈l,e<eS s) (S:Nat->Prop) (w:World) (fK:ScAt w B s) (hS:∀ k,S k->k<w.heap.size)
  (cY:∀ W,Below w.heap.size w W->rR Tryz.prog gf lb (vV l) l.length S W) :
  Calls Tryz.prog 84 #[.pointer (some ⟨B,0,none⟩),.func (.func gf) #[] lb] w fun r w'=>r=.returned (.int .i64 (comM s l:Nat))/\Below w.heap.size w w':=by
 have kh:=aa fK;have HL:=aa hl;have HNIL:Hid (comM s (l.take 0)=255):=aa (by rw[List.take_zero];exact AN s);have HSQ:=aa cY;have ec:=enters_of Tryz.func134 (by kernel_rfl) rfl;clear fK hl cY;refine fQ Tryz.func84 rfl ?_;simp only[Tryz.ntmps84,List.size_toArray,List.length_cons,List.length_nil,Nat.reduceAdd,Nat.reduceSub,Array.replicate_succ,Array.replicate_zero,List.push_toArray,List.append_toArray,List.nil_append,List.cons_append]
 go_wp2_with fail
 refine bm (fun W=>CmI s w B [] W) ⟨by go_grown,ap _ (ap _ (am _ _)),by rw[AN];exact ap _ (bd _ _ _),dW _ _ _ _⟩ (fun W1 cD=>?_);have gr:=aa cD;have IK:=cD.old.size;have cY:=HSQ.out W1 cD.old;have hsf:=aB cD.fn;clear cD
 refine mj (gf:=gf) (lb:=lb) rfl eg cY (Below.refl _ _) (fun k hk=>by have:=hS k hk;omega) (fun i=>rfl)
  (fun i V=>CmI s w B (l.take i) V) (fun _ _ _=>False) (fun i=>CmI.sta (by omega)) (fun c i=>cB.pure) (by rw[List.take_zero];exact gr.out) ?rnd ?done ?stop
 case stop=>rintro D' c i V hD hi h;exact h.elim
 case rnd=>
  intro yl i V hi hl iw;unfold vV;obtain⟨e,jF⟩:∃ e,l.getD i 0=e:=⟨_,rfl⟩;have wO:l[i]=e:=by rw[<-jF,az 0 hi]
  have iJ:=HL.out l[i] (List.getElem_mem hi);rw[wO]at iJ;have km:Hid (comM s (l.take (i+1))=comM s (l.take i) &&& gT s e):=aa (by rw[List.take_succ_eq_append_getElem hi,Eh,wO]);rw[jF];have nY:=aa iw;clear iw jF wO cY
  gi_wp2
  refine⟨Bod.refl _ _ _,fun V=>CmI s w B (l.take i) V,CmI.sta (by omega),nY.out,fun V2 h2 jm=>?_⟩;have cV:=aa h2;have tf:=ab h2.fn 0;simp at tf;obtain⟨pv,cv,t10,ev⟩:=(kh.out.up h2.old).val;obtain⟨b,o,rfl,te⟩:=ev e iJ;have HC:=aa (JT (w.heap.size+1) w.heap.size B (eS s) cv e (comM s (l.take i)) (gT s e) b o (Kk _ _) (Kj _ _) iJ V2 h2.out (by rw[ab h2.sc];rfl) t10 te);have Iu:=h2.old.size;clear h2 t10 ev te jm
  gi_wp2
  refine⟨trivial,rfl,wo (HC.out.mono ?_)⟩;rintro r w3 ⟨⟨x,rfl⟩,rfl⟩
  gi_wp2
  obtain⟨q1,q2,q3,q4⟩:=cV.out;refine⟨⟨by simp,fun k hk=>?_,fun k o _ hk ho=>?_⟩,⟨(q1.drew.setCell (by dsimp only;omega) _),aJ (by exact q2) (by omega) _ _,?_,aJ (by exact q4) (by omega) _ _⟩⟩
  ·have:=hS k hk
   exact Below.heap_setCell V2.drew _ _ _ (by dsimp only;omega)
  ·exact(KeepsOthers.setCell V2.drew _ _).same k o hk ho
  ·rw[km.out]
   exact(aF (W:=V2.drew) q3 0 _).trans rfl
 case done=>
  intro D' V hD iw hK;rw[List.take_of_length_le (Nat.le_refl _)]at iw;have t1:=ab iw.out 0;simp at t1;have nY:=aa iw;clear iw cY
  go_wp2_with fail
  refine ip hK (results_tmp rfl _ _ _) ?_;exact⟨rfl,eH (by omega) nY.out.old⟩
end Go.Proofs.YtmeaoneaephjeaaGreatDoor
namespace Go.Proofs.YtmeaoneaephjeaaGreatDoor
open Go.RowKit Go Go.Shelf
attribute [local go_sem] Oper.semAt_some
theorem zc{s:Sys} (hv:verifyE s=0):0<eS s:=by
 obtain⟨hb,hs⟩:=Ef hv;have hp:=(jc hv).prob;obtain⟨ht,ha,_⟩:=qV hp;have h1:=(eY ht).2.2.2.1.1;have h2:=gY ha;have h3:=Es h2.2.1 (by have:=h2.1;omega) s.prob.rounds.toNat 0 (by have:=h2.1;omega);rw[hs]
 show 0<(execsS s.prob (aK s.prob) (ja s.prob.t.cases.length (aK s.prob).length)).2.length
 unfold execsS;rw[xm,xn];have:0<(aK s.prob).length:=h3;have:=Nat.mul_pos (show 0<s.prob.t.cases.length by omega) this;simp;omega
def nu(s:Sys):Nat:=(maxTo (partsS s) ((partsS s).length - 1)).toNat
def kw(s:Sys) (k:Nat):List Int:=(List.range k).map fun x:Nat=>comB s (memL (partsS s) x)
def iO(s:Sys):List Int:=kw s (nu s+1)
theorem ku(s:Sys) (e:Nat) (he:e<eS s):0<=(partsS s).getD e 0/\(partsS s).getD e 0<=e:=lJ (vT s _) e (by rw[gB];exact he)
theorem B5{s:Sys} (h0:0<eS s):maxTo (partsS s) ((partsS s).length - 1)=(nu s:Int)/\nu s<eS s:=by
 obtain⟨i,hi,e⟩:=AW (partsS s) ((partsS s).length - 1);rw[dJ]at hi;have h1:=ku s i (by omega);unfold nu;rw[e];exact⟨by omega,by omega⟩
theorem pN{s:Sys} (h0:0<eS s) (e:Nat) (he:e<eS s):((partsS s).getD e 0).toNat<=nu s:=by
 have h1:=Hi (partsS s) ((partsS s).length - 1) e (by rw[dJ];omega);have h2:=(B5 h0).1;omega
theorem ny{f:Nat->Int} {n k:Nat} (h:k<n):((List.range n).map f).getD k 0=f k:=by simp[h]
theorem OJ{s:Sys} (h0:0<eS s) (e:Nat) (he:e<eS s):(iO s).getD ((partsS s).getD e 0).toNat 0=(choiceS s).getD e 0:=by
 have h1:=pN h0 e he;have h2:=ku s e he;unfold iO kw choiceS;rw[ny (by omega),ny he,show ((((partsS s).getD e 0).toNat:Nat):Int)=(partsS s).getD e 0 by omega]
theorem qX{s:Sys} {x:Int}:∀ e∈memL (partsS s) x,e<eS s:=fun e he=>by
 have:=(mn.1 he).1;rw[dJ]at this;exact this
theorem uH(s:Sys) (l:List Nat) (ho:oS s<=8):bM (comB s l):=by
 have:=Lr s l;unfold comB at *;rcases bG (oS s) (fun v=>l.all fun e=>valB s e v) with ⟨e,_⟩|⟨k,hk,e,_⟩
 ·rw[e];exact⟨by omega,by omega⟩
 ·rw[e];exact⟨by omega,by omega⟩
theorem tU(s:Sys) (hs:SysOk s) (h0:0<eS s) (hE:eS s<=256) (B:Nat) (w:World) (fK:ScAt w B s) (hT:ij w) :
  Calls Tryz.prog 41 #[.pointer (some ⟨B,0,none⟩)] w fun r w'=>∃ u,r=.returned u/\aT w' u (iO s)/\Below w.heap.size w w':=by
 obtain⟨vc,vs,vt,ve,vv,vl,h1,_,_,h2⟩:=fK.ex;obtain⟨pl,cl,rfl,lt1,lt2,el⟩:=h2.at;have tl:w.cell? ⟨B,11,none⟩=some (.slice pl (partsS s).length cl):=(ab h1 11).trans rfl;obtain⟨i0,cU,cg,bV,cj⟩:=info_parts Tryz.infoInt;have cf:=aa (And.intro cU (And.intro cg (And.intro bV cj)));have jN:=aa (F1 _ _ w h2 (by rw[dJ];exact h0));have htop:=(B5 h0).2;rw[(B5 h0).1]at jN;have kh:=aa fK;have HT:=aa hT;have Vz:=aa (fun (k:Nat) (W:World) (hb:Below w.heap.size w W) (q:Nat) (hq:comB s (memL (partsS s) k)=firstIx 8 (vD s (memL (partsS s) k)))=>B3 (vD s (memL (partsS s) k)) W (hT.up hb));have gQ:Hid (∀ k:Nat,comB s (memL (partsS s) k)=firstIx 8 (vD s (memL (partsS s) k))):=aa fun k=>J8 hs qX
 have ox:Hid (kw s 0=[]/\(∀ k,kw s (k+1)=kw s k++[comB s (memL (partsS s) k)])/\(∀ k,(kw s k).length=k)/\∀ k,∀ x∈kw s k,bM x):=aa ⟨rfl,fun k=>by simp[kw,List.range_succ],fun k=>by simp[kw],fun k x hx=>by
  obtain⟨j,_,rfl⟩:=List.mem_map.1 hx
  exact uH s _ hs.outs.2.1⟩
 have jq:Hid (kw s (nu s+1)=iO s):=aa rfl;obtain⟨M,hM⟩:∃ M,nu s=M:=⟨_,rfl⟩;rw[hM]at htop jN jq;clear h1 h2 fK hT cU cg bV cj el hM
 go_enter Tryz.func41,Tryz.ntmps41
 go_wp2_with fail
 refine jN.out.mono ?_;rintro e w1 ⟨rfl,rfl⟩;clear tl
 go_wp2_with fail
 go_loopw [3,11] (fun o i wr=>∃ k:Nat,k<=M+1/\i=.int .i64 k/\Below w.heap.size w wr/\aG wr w.heap.size 3 1 o k ((kw s k).map (Value.int .i64))) (fun _ i _=>M+1 - (intOf i).toNat)
 case atStart=>exact⟨0,by omega,rfl,Below.refl _ _,by rw[ox.out.1];exact aG.nil _ _ _ _⟩
 case round=>
  obtain⟨k,hk,rfl,ar,aX⟩:=hrel;obtain⟨al,cl2,rfl⟩:=aX.slice;have bI:=aa aX;have aP:=aa ar;have AE:=ar.size;clear aX ar;by_cases aA:k<M+1
  ·have nR:(k:Int)<(M:Int)+1:=by omega
   go_wp2_with fail
   refine(wB B k wr).mono ?_;rintro e w2 ⟨rfl,rfl⟩
   go_wp2_with fail
   refine aN (fun W=>Below wr.heap.size wr W/\W.heap[wr.heap.size]?=some (.cells #[.pointer (some ⟨B,0,none⟩)] 94)/\W.heap[wr.heap.size+1]?=some (.cells #[.int .i64 k] 3)) ⟨by go_grown,ap _ (am _ _),bd _ _ _⟩ (fun W2 eK=>?_);obtain⟨aU,dM,iv⟩:=eK;have rt:=ae aP.out aU;have Ic:=aB iv;refine(B4 s B 135 _ (enters_of Tryz.func135 (by kernel_rfl) rfl) (memL (partsS s) k) qX (fun q=>q<wr.heap.size\/q=wr.heap.size\/q=wr.heap.size+1) W2 (kh.out.up rt) (fun q hq=>by rcases hq with hq|rfl|rfl<;>omega) (fun W hb=>uG s B wr.heap.size (wr.heap.size+1) k wr (kh.out.up aP.out) W (ae aU hb) (by rw[ab (af hb dM)];rfl) (by rw[ab (af hb iv)];rfl))).mono ?_;rintro e w3 ⟨rfl,bC⟩;have ud:=ae rt bC;have nO:=aa (ae aU bC);clear dM iv aU rt bC
   go_wp2_with fail
   refine(Vz.out k w3 ud 0 (gQ.out k)).mono ?_;rintro e w4 ⟨rfl,rfl⟩;rw[<-gQ.out k];obtain⟨x,hx⟩:∃ x,comB s (memL (partsS s) k)=x:=⟨_,rfl⟩;rw[hx];have ju:Hid (kw s (k+1)=kw s k++[x]):=aa (by rw[<-hx];exact ox.out.2.1 k);have da:=aa ((bI.out.up nO.out).up ((Below.refl _ w3).alloc (Nat.le_refl _) (.cells #[.int .i64 x] 3)));have bz:=aa (dF w3 [.int .i64 x] 3);have eo:=aa ud;have kW:Hid (k+1<=maxLen):=aa (by unfold maxLen;omega);have eJ:Hid ((k+1) * 8<=140737488355328):=aa (by omega);have gq:Hid (w.heap.size<=(w3.alloc (.cells #[.int .i64 x] 3)).heap.size):=aa (by have:=eo.out.size;simp;omega);clear ud hx
   go_wp2_with (at_builtin;(refine aY _ rfl (.tmp 14) (.tmp 21) 38 rfl w.heap.size 3 i0 _ 1 8 Tryz.underlying38 cf.out.1 cf.out.2.1 cf.out.2.2.1 cf.out.2.2.2 rfl (by decide) _ k _ rfl da.out ⟨w3.heap.size,0,none⟩ 1 1 [.int .i64 x] rfl rfl bz.out (by simp[Value.oneCell']) kW.out eJ.out gq.out ?_;intro v6 w6 fc eA _))
   go_roundw
   case rel=>
    refine⟨k+1,by omega,by go_num,ez eo.out (Nat.le_refl _) da.out eA,?_⟩;rw[ju.out,List.map_append];exact fc
   case measure=>simp[intOf];omega
  ·obtain rfl:k=M+1:=by omega
   have nR:¬ ((M:Int)+1<(M:Int)+1):=by omega
   go_wp2_with fail
   go_ret
   refine⟨_,rfl,?_,aP.out⟩;rw[<-jq.out];have h3:=ox.out.2.2.1 (M+1);exact gu (base:=w.heap.size) (by rw[h3];exact bI.out) (ox.out.2.2.2 _) (by omega)
def im(s:Sys) (e k:Nat):List Int:=((List.range k).filter (valB s e)).map fun v:Nat=>(v:Int)
theorem Rc{s:Sys} (h:SysOk s) {e:Nat} (he:e<eS s):im s e 8=valuesS s e:=by
 unfold im valuesS;have ho:=h.outs.2.1;obtain⟨d,hd⟩:∃ d,8=oS s+d:=⟨8 - oS s,by omega⟩
 have jD:((List.range d).map (oS s+·)).filter (valB s e)=[]:=List.filter_eq_nil_iff.2 fun v hv h2=>by
  obtain⟨j,_,rfl⟩:=List.mem_map.1 hv;have:=NG h he h2;omega
 rw[hd,List.range_add,List.filter_append,jD,List.append_nil]
theorem Hk{s:Sys} {e k:Nat} (h:valB s e k=true):im s e (k+1)=im s e k++[(k:Int)]:=by
 unfold im;rw[List.range_succ,List.filter_append,List.map_append];simp[h]
theorem Kl{s:Sys} {e k:Nat} (h:valB s e k=false):im s e (k+1)=im s e k:=by
 unfold im;rw[List.range_succ,List.filter_append,List.map_append];simp[h]
theorem AY(s:Sys) (e k:Nat):(im s e k).length<=k:=by
 unfold im;rw[List.length_map];exact Nat.le_trans (List.length_filter_le _ _) (by simp)
theorem jo(w:World):aT w (.slice none 0 0) []:=gu (aG.nil w 0 _ _) (by simp) (by simp)
theorem B6(s:Sys) (x:Int) (hE:eS s<=256) (vc vs vt ve:Value) (w:World) (hs:IsSys w s vc vs vt ve) (hN:movesN s.prob.a.states<1099511627776) :
  Calls Tryz.prog 11 #[.agg (bT s.prob vc vs s.n vt ve),.int .i64 x] w fun r w'=>∃ u,r=.returned (.tuple #[u,.int .i64 (valuesR s x).2])/\aT w' u (valuesR s x).1/\Below w.heap.size w w':=by
 have HS:=aa hs;obtain⟨⟨pc,cc,rfl⟩,⟨ps,cs,rfl⟩,⟨pt,ct,rfl⟩,⟨pe,ce,rfl⟩⟩:=bE hs;clear hs;have HC:=aa (fun W (hb:Below w.heap.size w W)=>nr s hE _ _ _ _ W (HS.out.up hb) hN);obtain⟨i0,cU,cg,bV,cj⟩:=info_parts Tryz.infoInt;have cf:=aa (And.intro cU (And.intro cg (And.intro bV cj)))
 have dB:Hid (readyE s=0->SysOk s):=aa fun h=>by
  refine jc ?_;unfold readyE at h;split at h
  ·rename_i h1;exact absurd h h1
  ·omega
 have cZ:Hid (readyE s≠0->valuesR s x=([],readyE s)):=aa fun h=>by unfold valuesR;rw[if_pos h]
 have dN:Hid (readyE s=0->(x<0\/(eS s:Int)<=x)->valuesR s x=([],6)):=aa fun h h2=>by unfold valuesR;rw[if_neg (by omega),if_pos h2]
 have fm:Hid (readyE s=0->¬ (x<0\/(eS s:Int)<=x)->valuesR s x=(valuesS s x.toNat,0)):=aa fun h h2=>by unfold valuesR;rw[if_neg (by omega),if_neg h2]
 generalize valuesR s x=vr at cZ dN fm ⊢;obtain⟨re,pS⟩:∃ re,readyE s=re:=⟨_,rfl⟩;rw[pS]at cZ dN fm HC dB;clear pS cU cg bV cj
 go_enter Tryz.func11,Tryz.ntmps11
 go_wp2_with fail
 refine aN (fun W=>Below w.heap.size w W) (by go_grown) (fun W0 aH=>?_);refine(HC.out W0 aH).mono ?_;rintro e w1 ⟨v,rfl,aI,h2,h3⟩;have bF:=aa (ae aH aI);by_cases hr:re=0
 case neg=>
  have HV:=aa (cZ.out hr);obtain rfl:=h2 hr;have E7:(re != 0)=true:=by simpa using hr
  clear aH aI h2 h3 hr HC
  go_wp2_with fail
  go_ret2
  exact⟨_,by rw[HV.out];rfl,by rw[HV.out];exact jo _,bF.out⟩
 obtain⟨B,rfl,hB,fK⟩:=h3 hr;have kh:=aa fK;obtain⟨pv,cv,tv,ev⟩:=fK.val;have EV:=aa ev;have II:=aa (dB.out hr);subst hr;have fP:=bF.out.size;clear aH aI h2 h3 HC fK ev;by_cases cN:x<0
 ·have HV:=aa (dN.out rfl (.inl cN))
  have hd:decide (x<0)=true:=decide_eq_true cN;clear cN
  go_wp2_with fail
  go_ret2
  exact⟨_,by rw[HV.out];rfl,by rw[HV.out];exact jo _,bF.out⟩
 have hd:decide (x<0)=false:=decide_eq_false cN;obtain⟨e,rfl⟩:∃ e:Nat,x=e:=⟨x.toNat,by omega⟩;by_cases df:eS s<=e
 ·have HV:=aa (dN.out rfl (.inr (by omega)))
  have fY:decide ((eS s:Int)<=(e:Int))=true:=decide_eq_true (by omega);have nL:decide (eS s<=e)=true:=decide_eq_true df;clear cN df
  go_wp2_with fail
  go_ret2
  exact⟨_,by rw[HV.out];rfl,by rw[HV.out];exact jo _,bF.out⟩
 have fY:decide ((eS s:Int)<=(e:Int))=false:=decide_eq_false (by omega);have nL:decide (eS s<=e)=false:=decide_eq_false df;have HV:=aa (fm.out rfl (by omega));have he:e<eS s:=by omega
 obtain⟨b,o,rfl,te⟩:=EV.out e he;have Ao:Hid (im s e 8=valuesS s e):=aa (Rc II.out he);clear cN df
 go_wp2_with fail
 go_loopw [8,29] (fun q i wr=>∃ k:Nat,k<=8/\i=.int .i64 k/\Below w1.heap.size w1 wr/\aG wr w1.heap.size 3 1 q (im s e k).length ((im s e k).map (Value.int .i64))) (fun _ i _=>8 - (intOf i).toNat)
 case atStart=>exact⟨0,by omega,rfl,Below.refl _ _,aG.nil _ _ _ _⟩
 case round=>
  obtain⟨k,hk,rfl,ar,aX⟩:=hrel;obtain⟨al,cl2,rfl⟩:=aX.slice;have bI:=aa aX;have aP:=aa ar;have AE:=ar.size;have tvr:=ak aP.out tv;have ter:=ak aP.out te;clear aX ar;by_cases aA:k<8
  ·have nR:(k:Int)<8:=by omega
   have gw:=qJ ((gT s e:Nat):Int) k;have VO:hasB ((gT s e:Nat):Int) k=valB s e k:=by unfold gT;rw[mF,decide_eq_true aA,Bool.true_and]
   rw[VO]at gw;have wR:=AY s e k;cases hb:valB s e k with
   | true=>
    have HY:=aa (Hk hb);rw[hb]at gw;obtain⟨n,hn⟩:∃ n,(im s e k).length=n:=⟨_,rfl⟩;rw[hn]at wR bI ⊢;have rO:Hid ((im s e (k+1)).length=n+1):=aa (by rw[HY.out,List.length_append,hn];rfl);have da:=aa (bI.out.up ((Below.refl _ wr).alloc (Nat.le_refl _) (.cells #[.int .i64 k] 3)));have bz:=aa (dF wr [.int .i64 (k:Int)] 3);have kW:Hid (n+1<=maxLen):=aa (by unfold maxLen;omega);have eJ:Hid ((n+1) * 8<=140737488355328):=aa (by omega);have gq:Hid (w1.heap.size<=(wr.alloc (.cells #[.int .i64 k] 3)).heap.size):=aa (by simp;omega);clear hb VO hn
    go_wp2_with (at_builtin;(refine aY _ rfl (.tmp 43) (.tmp 45) 38 rfl w1.heap.size 3 i0 _ 1 8 Tryz.underlying38 cf.out.1 cf.out.2.1 cf.out.2.2.1 cf.out.2.2.2 rfl (by decide) _ n _ rfl da.out ⟨wr.heap.size,0,none⟩ 1 1 [.int .i64 (k:Int)] rfl rfl bz.out (by simp[Value.oneCell']) kW.out eJ.out gq.out ?_;intro v6 w6 fc eA _))
    go_roundw
    case rel=>
     refine⟨k+1,by omega,by go_num,ez aP.out (Nat.le_refl _) da.out eA,?_⟩;rw[rO.out,HY.out,List.map_append];exact fc
    case measure=>simp[intOf];omega
   | false=>
    have HY:=aa (Kl hb);rw[hb]at gw;clear hb VO
    go_wp2_with fail
    go_roundw
    case rel=>
     refine⟨k+1,by omega,by go_num,aP.out,?_⟩;rw[HY.out];exact bI.out
    case measure=>simp[intOf];omega
  ·obtain rfl:k=8:=by omega
   clear tvr ter
   go_wp2_with fail
   go_ret2
   refine⟨_,by rw[HV.out];rfl,?_,ae bF.out aP.out⟩;rw[HV.out,Int.toNat_natCast,<-Ao.out];refine gu (l:=im s e 8) bI.out (fun y hy=>?_) (by have:=AY s e 8;omega);obtain⟨j,hj,rfl⟩:=List.mem_map.1 hy;have:=List.mem_range.1 (List.mem_filter.1 hj).1;exact⟨by omega,by omega⟩
theorem B7(s:Sys) (hE:eS s<=256) (vc vs vt ve:Value) (w:World) (hT:ij w) (hs:IsSys w s vc vs vt ve) (hN:movesN s.prob.a.states<1099511627776) :
  Calls Tryz.prog 13 #[.agg (bT s.prob vc vs s.n vt ve)] w fun r w'=>∃ u,r=.returned (.tuple #[u,.int .i64 (choiceR s).2])/\aT w' u (choiceR s).1/\Below w.heap.size w w':=by
 have HS:=aa hs;have HT:=aa hT;obtain⟨⟨pc,cc,rfl⟩,⟨ps,cs,rfl⟩,⟨pt,ct,rfl⟩,⟨pe,ce,rfl⟩⟩:=bE hs;clear hs hT;have HC:=aa (fun W (hb:Below w.heap.size w W)=>nr s hE _ _ _ _ W (HS.out.up hb) hN);obtain⟨i0,cU,cg,bV,cj⟩:=info_parts Tryz.infoInt;have cf:=aa (And.intro cU (And.intro cg (And.intro bV cj)))
 have oE:Hid (readyE s=0->verifyE s=0):=aa fun h=>by
  unfold readyE at h;split at h
  ·rename_i h1;exact absurd h h1
  ·omega
 have cZ:Hid (readyE s≠0->choiceR s=([],readyE s)):=aa fun h=>by unfold choiceR;rw[if_pos h]
 have fm:Hid (readyE s=0->choiceR s=(choiceS s,0)):=aa fun h=>by unfold choiceR;rw[if_neg (by omega)]
 generalize choiceR s=vr at cZ fm ⊢;obtain⟨re,pS⟩:∃ re,readyE s=re:=⟨_,rfl⟩;rw[pS]at cZ fm HC oE;clear pS cU cg bV cj
 go_enter Tryz.func13,Tryz.ntmps13
 go_wp2_with fail
 refine aN (fun W=>Below w.heap.size w W) (by go_grown) (fun W0 aH=>?_);refine(HC.out W0 aH).mono ?_;rintro e w1 ⟨v,rfl,aI,h2,h3⟩;have bF:=aa (ae aH aI);by_cases hr:re=0
 case neg=>
  have HV:=aa (cZ.out hr);obtain rfl:=h2 hr;have E7:(re != 0)=true:=by simpa using hr
  clear aH aI h2 h3 hr HC
  go_wp2_with fail
  go_ret2
  exact⟨_,by rw[HV.out];rfl,by rw[HV.out];exact jo _,bF.out⟩
 obtain⟨B,rfl,hB,fK⟩:=h3 hr;have kh:=aa fK;have HV:=aa (fm.out hr);have sU:=aa (oE.out hr);have dB:=aa (jc sU.out);have HP:=aa (zc sU.out);subst hr;have fP:=bF.out.size;clear aH aI h2 h3 HC fK
 go_wp2_with fail
 refine(tU s dB.out HP.out hE B w1 kh.out (HT.out.up bF.out)).mono ?_;rintro e w2 ⟨u,rfl,hu,aU⟩;have HU:=aa hu;obtain⟨pu,cu,rfl,eu⟩:=dO hu;have EU:=aa eu;have cL:=aa (ae bF.out aU);obtain⟨vc,vs,vt,ve,vv,vl,q1,_,_,q2⟩:=(kh.out.up aU).ex;obtain⟨pl,cl,rfl,el⟩:=dO q2;have EL:=aa el;have tl:w2.cell? ⟨B,11,none⟩=some (.slice pl (partsS s).length cl):=(ab q1 11).trans rfl;have ki:Hid ((iO s).length=nu s+1):=aa (by simp[iO,kw]);have HL:Hid ((partsS s).length=eS s):=aa (dJ s);obtain⟨L,hL⟩:∃ L:Nat->List Int,L=fun k=>(List.range k).map fun e=>(choiceS s).getD e 0:=⟨_,rfl⟩
 have kJ:Hid (L 0=[]/\(∀ k,L (k+1)=L k++[(choiceS s).getD k 0])/\(∀ k,(L k).length=k)/\L (eS s)=choiceS s/\∀ k,k<=eS s->∀ x∈L k,bM x):=aa (by
  subst hL;refine⟨rfl,fun k=>by simp[List.range_succ],fun k=>by simp,?_,fun k hk x hx=>?_⟩
  ·unfold choiceS
   exact List.map_congr_left fun e he=>ny (List.mem_range.1 he)
  ·obtain⟨j,hj,rfl⟩:=List.mem_map.1 hx
   have:=List.mem_range.1 hj;unfold choiceS;rw[ny (by omega)]
   exact uH s _ dB.out.outs.2.1)
 have kT:Hid (∀ k,k<eS s->0<=(partsS s).getD k 0/\((partsS s).getD k 0).toNat<(iO s).length/\(iO s).getD ((partsS s).getD k 0).toNat 0=(choiceS s).getD k 0):=aa fun k hk=>⟨(ku s k hk).1,by have:=pN HP.out k hk;have:=ki.out;omega,OJ HP.out k hk⟩
 rw[HL.out]at tl EL;obtain⟨m,hm⟩:∃ m,eS s=m:=⟨_,rfl⟩;rw[hm]at hE kJ kT tl EL;clear hu eu aU q1 q2 el hL hm;obtain⟨cn,CU⟩:∃ cn,(iO s).length=cn:=⟨_,rfl⟩;rw[CU]at EU kT ⊢;clear CU ki HL
 go_wp2_with fail
 clear tl
 go_loopw [7,25] (fun q i wr=>∃ k:Nat,k<=m/\i=.int .i64 k/\Below w2.heap.size w2 wr/\aG wr w2.heap.size 3 1 q k ((L k).map (Value.int .i64))) (fun _ i _=>m - (intOf i).toNat)
 case atStart=>exact⟨0,by omega,rfl,Below.refl _ _,by rw[kJ.out.1];exact aG.nil _ _ _ _⟩
 case round=>
  obtain⟨k,hk,rfl,ar,aX⟩:=hrel;obtain⟨al,cl2,rfl⟩:=aX.slice;have bI:=aa aX;have aP:=aa ar;have AE:=ar.size;clear aX;by_cases aA:k<m
  ·obtain⟨b,o,rfl,c1⟩:=EL.out k aA
   obtain⟨g1,g2,g3⟩:=kT.out k aA;obtain⟨n,hn⟩:∃ n:Nat,(partsS s).getD k 0=n:=⟨((partsS s).getD k 0).toNat,by omega⟩;rw[hn,Int.toNat_natCast]at g2 g3;obtain⟨b2,o2,rfl,c2⟩:=EU.out n g2;rw[g3]at c2;rw[hn]at c1;have d1:=ak ar c1;have d2:=ak ar c2;have ju:=aa (kJ.out.2.1 k);generalize (choiceS s).getD k 0=x at d2 ju;have da:=aa (bI.out.up ((Below.refl _ wr).alloc (Nat.le_refl _) (.cells #[.int .i64 x] 3)));have bz:=aa (dF wr [.int .i64 x] 3);have kW:Hid (k+1<=maxLen):=aa (by unfold maxLen;omega);have eJ:Hid ((k+1) * 8<=140737488355328):=aa (by omega);have gq:Hid (w2.heap.size<=(wr.alloc (.cells #[.int .i64 x] 3)).heap.size):=aa (by simp;omega);clear g1 g3 hn c1 c2 ar
   go_wp2_with (at_builtin;(refine aY _ rfl (.tmp 29) (.tmp 34) 38 rfl w2.heap.size 3 i0 _ 1 8 Tryz.underlying38 cf.out.1 cf.out.2.1 cf.out.2.2.1 cf.out.2.2.2 rfl (by decide) _ k _ rfl da.out ⟨wr.heap.size,0,none⟩ 1 1 [.int .i64 x] rfl rfl bz.out (by simp[Value.oneCell']) kW.out eJ.out gq.out ?_;intro v6 w6 fc eA _))
   go_roundw
   case rel=>
    refine⟨k+1,by omega,by go_num,ez aP.out (Nat.le_refl _) da.out eA,?_⟩;rw[ju.out,List.map_append];exact fc
   case measure=>simp[intOf];omega
  ·obtain rfl:k=m:=by omega
   clear ar
   go_wp2_with fail
   go_ret2
   refine⟨_,by rw[HV.out];rfl,?_,ae cL.out aP.out⟩;rw[HV.out,<-kJ.out.2.2.2.1];exact gu (l:=L k) (by rw[kJ.out.2.2.1 k];exact bI.out) (kJ.out.2.2.2.2 k (Nat.le_refl _)) (by have:=kJ.out.2.2.1 k;omega)
theorem UB{s:Sys} {p:Nat} (hp:p<nS s) (e:Nat):hasB ((oblM s e:Nat):Int) p=!hasB (fltS s e) p:=by unfold oblM;rw[mF,decide_eq_true hp,Bool.true_and]
theorem OK{s:Sys} (h:nS s<=5) (e:Nat):oblM s e<32:=by
 have h1:=gS (fun p=>!hasB (fltS s e) p) (nS s);have h4:(2:Nat) ^ nS s<=2 ^ 5:=Nat.pow_le_pow_right (by omega) h;unfold oblM;omega
theorem L2(s:Sys) (hs:SysOk s) (p e f:Nat) (hp:p<nS s) (he:e<eS s) (hf:f<eS s) (vc vs vt ve:Value) (w:World) (cT:IsSys w s vc vs vt ve) :
  Calls Tryz.prog 139 #[.agg (bT s.prob vc vs s.n vt ve),.int .i64 p,.int .i64 e,.int .i64 f] w fun r w'=>r=.returned (.bool (linkB s p e f))/\Below w.heap.size w w':=by
 have HS:=aa cT;obtain⟨⟨pc,cc,rfl⟩,⟨ps,cs,rfl⟩,⟨pt,ct,rfl⟩,⟨pe,ce,rfl⟩⟩:=bE cT;clear cT;have Ld:=aa (fun W (hb:Below w.heap.size w W)=>ED s hs e he _ _ _ _ W (HS.out.up hb));have HMF:=aa (fun W (hb:Below w.heap.size w W)=>ED s hs f hf _ _ _ _ W (HS.out.up hb));have ji:=hs.n.2.1;have kH:=OK ji e;have hlf:=OK ji f;have V7:=aa (fun w=>mq ((oblM s e:Nat):Int) p (by omega) (by omega) (by omega) w);have VR:=aa (fun w=>mq ((oblM s f:Nat):Int) p (by omega) (by omega) (by omega) w);rw[UB hp]at V7 VR;have hH:Hid (linkB s p e f=(!hasB (fltS s e) p&&!hasB (fltS s f) p&&decide (finS s e p=finS s f p))):=aa rfl;obtain⟨b,o,_,ce1,e0,rfl,_,_,_,_,cv1,-,-,c3,-,-,-,b2,o2,pr,cr,rfl,c4,bW⟩:=it hs HS.out.ex he;injection e0 with e01 e02 e03
 subst e01;clear e02 e03;obtain⟨b',o',_,ce2,e0,e4,_,_,_,_,cv2,-,-,d3,-,-,-,b3,o3,pr',cr',rfl,d4,mf⟩:=it hs HS.out.ex hf;injection e0 with e01 e02 e03
 injection e01 with e01
 injection e01 with e011 e012
 subst e011 e012;clear e02 e03 e4;have pR:=hs.rounds;obtain⟨rr,Cx⟩:∃ rr:Nat,s.prob.rounds=rr:=⟨s.prob.rounds.toNat,by omega⟩;have E5:s.prob.rounds.toNat=rr:=by omega
 rw[E5]at c3 c4 d3 d4;obtain⟨pa,ca,ea,r1⟩:=dO bW;injection ea with ea1 ea2 ea3
 subst ea1 ea3;clear ea2;obtain⟨pa',ca',ea,r2⟩:=dO mf;injection ea with ea1 ea2 ea3
 subst ea1 ea3;clear ea2;obtain⟨b6,o6,rfl,f1⟩:=r1 p (by simpa using hp);obtain⟨b7,o7,rfl,f2⟩:=r2 p (by simpa using hp);rw[ny hp]at f1 f2;have Ay:s.ex.length=eS s:=rfl;have KN:=aa (fun W (hb:Below w.heap.size w W)=>BZ s e rr Cx (.slice pc s.prob.t.cases.length cc) (.slice ps s.prob.a.states.length cs) (.slice pt s.tab.length ct) b o s.ex.length ce he b2 o2 (rr+1) cv1 (by omega) (.slice (some ⟨b6,o6,none⟩) (nS s) cr) ⟨_,_,_,rfl⟩ W (ak hb c3) (ak hb c4));have wP:=aa (fun W (hb:Below w.heap.size w W)=>BZ s f rr Cx (.slice pc s.prob.t.cases.length cc) (.slice ps s.prob.a.states.length cs) (.slice pt s.tab.length ct) b o s.ex.length ce hf b3 o3 (rr+1) cv2 (by omega) (.slice (some ⟨b7,o7,none⟩) (nS s) cr') ⟨_,_,_,rfl⟩ W (ak hb d3) (ak hb d4));have nQ:=aa f1;have ru:=aa f2;generalize hasB (fltS s e) p=be at V7 hH;generalize hasB (fltS s f) p=bf at VR hH;generalize finS s e p=xe at nQ hH;generalize finS s f p=xf at ru hH;generalize linkB s p e f=lk at hH ⊢;clear c3 c4 d3 d4 bW mf r1 r2 f1 f2 Cx E5 Ay pR kH hlf
 go_enter Tryz.func139,Tryz.ntmps139
 go_wp2_with fail
 refine aN (fun W=>Below w.heap.size w W/\∃ c,W.heap[w.heap.size]?=some (.cells c 35)/\c=bT s.prob (.slice pc s.prob.t.cases.length cc) (.slice ps s.prob.a.states.length cs) s.n (.slice pt s.tab.length ct) (.slice (some ⟨b,o,none⟩) s.ex.length ce)) ⟨by go_grown,_,am _ _,rfl⟩ (fun W0 aV=>?_);obtain⟨aH,_,hA,rfl⟩:=aV;refine(Ld.out W0 aH).mono ?_;rintro r w1 ⟨rfl,aI⟩;have bF:=aa (ae aH aI);have du:=aa (af aI hA);clear aH aI hA Ld
 go_wp2_with fail
 refine(V7.out w1).mono ?_;rintro r w' ⟨rfl,rfl⟩;cases be with
 | true=>
  go_wp2_with fail
  go_ret
  exact⟨aO (by rw[hH.out];rfl),bF.out⟩
 | false=>
  have tS:=ab du.out
  go_wp2_with fail
  clear tS;refine(HMF.out w1 bF.out).mono ?_;rintro r w2 ⟨rfl,aU⟩;have cL:=aa (ae bF.out aU);have pQ:=aa (af aU du.out);clear aU
  go_wp2_with fail
  refine(VR.out w2).mono ?_;rintro r w' ⟨rfl,rfl⟩;cases bf with
  | true=>
   go_wp2_with fail
   go_ret
   exact⟨aO (by rw[hH.out];rfl),cL.out⟩
  | false=>
   have HLK2:Hid (lk=decide (xe=xf)):=aa (by rw[hH.out];rfl)
   go_wp2_with fail
   have yS:∀ z:ExtW w2,∀ j,z.val.cell? ⟨w.heap.size,j,none⟩=_:=fun z=>ab (af z.ext pQ.out)
   have y1:∀ z:ExtW w2,z.val.cell? ⟨b6,o6+p,none⟩=_:=fun z=>ak (ae cL.out z.ext) nQ.out
   have y2:∀ z:ExtW w2,z.val.cell? ⟨b7,o7+p,none⟩=_:=fun z=>ak (ae cL.out z.ext) ru.out
   have K1:Hid (∀ y:ExtW w2,Calls Tryz.prog 46 #[.agg #[.int .i64 s.prob.t.n,.int .i64 s.prob.t.ins,.int .i64 s.prob.t.outs,.slice pc s.prob.t.cases.length cc,.int .i64 s.prob.a.n,.slice ps s.prob.a.states.length cs,.int .i64 s.prob.rounds,.int .i64 s.n,.slice pt s.tab.length ct,.slice (some ⟨b,o,none⟩) s.ex.length ce],.int .i64 e] y.val fun r w''=>r=.returned (.slice (some ⟨b6,o6,none⟩) (nS s) cr)/\∃ z:ExtW w2,w''=z.val):=aa (fun y=>Calls.ext_of (KN.out y.val (ae cL.out y.ext)));have K2:Hid (∀ y:ExtW w2,Calls Tryz.prog 46 #[.agg #[.int .i64 s.prob.t.n,.int .i64 s.prob.t.ins,.int .i64 s.prob.t.outs,.slice pc s.prob.t.cases.length cc,.int .i64 s.prob.a.n,.slice ps s.prob.a.states.length cs,.int .i64 s.prob.rounds,.int .i64 s.n,.slice pt s.tab.length ct,.slice (some ⟨b,o,none⟩) s.ex.length ce],.int .i64 f] y.val fun r w''=>r=.returned (.slice (some ⟨b7,o7,none⟩) (nS s) cr')/\∃ z:ExtW w2,w''=z.val):=aa (fun y=>Calls.ext_of (wP.out y.val (ae cL.out y.ext)));refine aC (by kernel_rfl) (by kernel_rfl) ?_
   repeat (go_big_quiet_step (first|(go_at_call 46;with_reducible exact K1.out _)|(go_at_call 46;with_reducible exact K2.out _)))
   refine wpQuiet_nil ?_;rintro _ ⟨xq,rfl⟩;clear yS y1 y2
   go_wp2_with fail
   go_ret
   exact⟨aO (by rw[HLK2.out,Bool.eq_iff_iff];simp),ae cL.out xq.ext⟩
end Go.Proofs.YtmeaoneaephjeaaGreatDoor
namespace Go.Proofs.YtmeaoneaephjeaaGreatDoor
def jx(dh:Int) (st:List Int × List Nat) (f:Nat):List Int × List Nat:=if st.1.getD f 0<0 then(st.1.set f dh,st.2++[f]) else st
def eh(s:Sys) (h:Nat) (D:List Int) (l:List Nat):List Int × List Nat:=l.foldl (jx (D.getD h 0+1)) (D,[])
theorem B8(s:Sys) (h:Nat) (D:List Int) (l:List Nat) (f:Nat):eh s h D (l++[f])=jx (D.getD h 0+1) (eh s h D l) f:=by simp[eh]
theorem OL(dh:Int) (st:List Int × List Nat) (f:Nat):(jx dh st f).1.length=st.1.length:=by unfold jx;split<;>simp
theorem xM(s:Sys) (h:Nat) (D:List Int) (l:List Nat):(eh s h D l).1.length=D.length:=by
 unfold eh;generalize D.getD h 0+1=dh
 have key:∀ (l:List Nat) (st:List Int × List Nat),(l.foldl (jx dh) st).1.length=st.1.length:=by
  intro l;induction l with
  | nil=>intro st;rfl
  | cons a r ih=>intro st;rw[List.foldl_cons,ih,OL]
 exact key l _
theorem Re{s:Sys} {h:Nat} {D:List Int} (hl:D.length=eS s) (h0:0<=D.getD h 0):∀ k,k<=eS s->(∀ e,e<eS s->(eh s h D (fN s h k)).1.getD e 0=iW (eI s) (fun e=>D.getD e 0) h k e)/\(eh s h D (fN s h k)).2=tt (eI s) (fun e=>D.getD e 0) h k:=by
 intro k;induction k with
 | zero=>intro _;exact⟨fun e _=>by unfold iW;rw[if_neg (by omega)];rfl,rfl⟩
 | succ k ih=>
  intro hk;obtain⟨i1,i2⟩:=ih (by omega);have cG:=xM s h D (fN s h k)
  have hq:tt (eI s) (fun e=>D.getD e 0) h (k+1)=tt (eI s) (fun e=>D.getD e 0) h k++if decide (D.getD k 0<0)&&eI s h k then [k] else []:=by
   unfold tt;rw[List.range_succ,List.filter_append];cases hb:decide (D.getD k 0<0)&&eI s h k<;>simp[hb]<;>simpa using hb
  have D5:(eh s h D (fN s h k)).1.getD k 0=D.getD k 0:=by rw[i1 k (by omega)];unfold iW;rw[if_neg (by omega)]
  cases hn:sy s h k with
  | true=>
   have gy:eI s h k=true:=by unfold sy at hn;simp only[Bool.and_eq_true]at hn;exact hn.1
   rw[vU hn,B8];unfold jx;rw[D5];by_cases hd:D.getD k 0<0
   ·rw[if_pos hd]
    refine⟨fun e he=>?_,?_⟩
    ·dsimp only
     rw[fp _ _ _ _ _ (by omega)];by_cases ee:e=k
     ·subst ee
      rw[if_pos rfl];unfold iW;rw[if_pos ⟨by omega,hd,gy⟩]
     ·rw[if_neg ee,i1 e he]
      unfold iW;by_cases hc:e<k/\D.getD e 0<0/\eI s h e=true
      ·rw[if_pos hc,if_pos ⟨by omega,hc.2⟩]
      ·rw[if_neg hc,if_neg (fun h=>hc ⟨by omega,h.2⟩)]
    ·dsimp only
     rw[i2,hq,decide_eq_true hd,gy];rfl
   ·rw[if_neg hd]
    refine⟨fun e he=>?_,?_⟩
    ·rw[i1 e he]
     unfold iW;by_cases ee:e=k
     ·subst ee;rw[if_neg (fun h=>hd h.2.1),if_neg (fun h=>hd h.2.1)]
     ·by_cases hc:e<k/\D.getD e 0<0/\eI s h e=true
      ·rw[if_pos hc,if_pos ⟨by omega,hc.2⟩]
      ·rw[if_neg hc,if_neg (fun h=>hc ⟨by omega,h.2⟩)]
    ·rw[i2,hq,decide_eq_false hd,Bool.false_and]
     simp
  | false=>
   rw[zb hn]
   have jl:¬ (D.getD k 0<0/\eI s h k=true):=fun ⟨g1,g2⟩=>by
    unfold sy at hn;rw[g2,Bool.true_and]at hn;have:k=h:=by simpa using hn
    subst this;omega
   refine⟨fun e he=>?_,?_⟩
   ·rw[i1 e he]
    unfold iW;by_cases ee:e=k
    ·subst ee;rw[if_neg (fun h=>jl h.2),if_neg (fun h=>jl h.2)]
    ·by_cases hc:e<k/\D.getD e 0<0/\eI s h e=true
     ·rw[if_pos hc,if_pos ⟨by omega,hc.2⟩]
     ·rw[if_neg hc,if_neg (fun h=>hc ⟨by omega,h.2⟩)]
   ·rw[i2,hq]
    cases hd:decide (D.getD k 0<0)&&eI s h k with
    | false=>simp
    | true=>simp only[Bool.and_eq_true,decide_eq_true_eq]at hd;exact absurd hd jl
theorem EG{n:Nat} {L:Nat->Nat->Bool} {f:Nat} {D E:Nat->Int} {Q:List Nat} (hf:f<n) (h:Bfs n L f D Q) (he:∀ e,e<n->D e=E e):Bfs n L f E Q:=by
 refine⟨by rw[<-he f hf];exact h.zero,fun e h1 h2=>h.only e h1 (by rw[he e h1];exact h2),fun e h1=>by rw[<-he e h1];exact h.low e h1,fun e h1 d h2=>?_,fun q hq=>?_,fun e g h1 h2 h3 h4 h5=>?_,?_,fun a r h1 e h2=>?_⟩
 ·obtain⟨g,hg,e1,e2⟩:=h.pred e h1 d (by rw[he e h1];exact h2)
  exact⟨g,hg,by rw[<-he g hg];exact e1,e2⟩
 ·have:=h.ok q hq
  exact⟨this.1,by rw[<-he q this.1];exact this.2⟩
 ·rw[<-he e h1,<-he g h2]
  exact h.done e g h1 h2 (by rw[he g h2];exact h3) h4 h5
 ·refine h.asc.imp_of_mem fun {a b} ha hb Ae=>?_
  rw[<-he a (h.ok a ha).1,<-he b (h.ok b hb).1];exact Ae
 ·have ha:=(h.ok a (by rw[h1];simp)).1
  rw[<-he e h2,<-he a ha];exact h.near a r h1 e h2
theorem OM{s:Sys} {f h:Nat} (hf:f<eS s) {D:List Int} {r:List Nat} (hl:D.length=eS s) (b:Bfs (eS s) (eI s) f (fun e=>D.getD e 0) (h :: r)) :
  Bfs (eS s) (eI s) f (fun e=>(eh s h D (dL s h)).1.getD e 0) (r++(eh s h D (dL s h)).2)/\(r++(eh s h D (dL s h)).2).length+((List.range (eS s)).filter fun e=>decide ((eh s h D (dL s h)).1.getD e 0<0)).length<(h :: r).length+((List.range (eS s)).filter fun e=>decide (D.getD e 0<0)).length:=by
 have h0:=(b.ok h (by simp)).2;obtain⟨i1,i2⟩:=Re hl h0 (eS s) (Nat.le_refl _);unfold dL;refine⟨?_,?_⟩
 ·rw[i2]
  exact EG hf (b.step (fun e g=>GA s e g)) fun e he=>(i1 e he).symm
 ·have h3:=JA (n:=eS s) (eI s) (fun e=>D.getD e 0) h h0 r
  rw[i2]
  have h4:((List.range (eS s)).filter fun e=>decide ((eh s h D (fN s h (eS s))).1.getD e 0<0))=(List.range (eS s)).filter fun e=>decide (iW (eI s) (fun e=>D.getD e 0) h (eS s) e<0):=
   List.filter_congr fun e he=>by rw[i1 e (List.mem_range.1 he)]
  rw[h4];exact h3
theorem UC{s:Sys} {f:Nat} (hf:f<eS s) {D:List Int} (hl:D.length=eS s) (b:Bfs (eS s) (eI s) f (fun e=>D.getD e 0) []):D=cS s f:=by
 have h1:=Jz b.dist (kP hf);refine List.ext_getElem (by rw[hl,vG]) fun i h2 h3=>?_
 have h4:=h1 i (by omega);rw[show D.getD i 0=D[i] by simp[h2],show (cS s f).getD i 0=(cS s f)[i] by simp[h3]]at h4;exact h4
end Go.Proofs.YtmeaoneaephjeaaGreatDoor
namespace Go.Proofs.YtmeaoneaephjeaaGreatDoor
open Go.RowKit Go Go.Shelf
theorem B'{p:Nat->Prop} (h:∃ n,p n):∃ n,p n/\∀ m,p m->n<=m:=by
 obtain⟨n,hn⟩:=h;induction n using Nat.strongRecOn with
 | _ n ih=>
  by_cases h:∃ m,m<n/\p m
  ·obtain⟨m,h1,h2⟩:=h
   exact ih m h1 h2
  ·exact⟨n,hn,fun m hm=>Nat.le_of_not_lt fun h'=>h ⟨m,h',hm⟩⟩
open Classical in
noncomputable def zd(I:Nat->Act->World->Prop) (a:Act) (w:World):Nat:=if h:∃ n,I n a w then Classical.choose (B' h) else 0
theorem xN{I:Nat->Act->World->Prop} {a:Act} {w:World} (h:∃ n,I n a w):I (zd I a w) a w/\∀ m,I m a w->zd I a w<=m:=by
 unfold zd;rw[dif_pos h];exact Classical.choose_spec (B' h)
theorem AZ{P:Program} {c:Code} {a:Act} {w:World} {Q:Exit->Act->World->Prop} (I:Nat->Act->World->Prop) (n0:Nat) (h0:I n0 a w)
  (round:∀ n a w,I n a w->c.wp P (Exit.then (fun a' w'=>∃ m,m<n/\I m a' w') Q) a w):(Code.loop c).wp P Q a w:=by
 refine wp_loop (fun a w=>∃ n,I n a w) (zd I) ⟨n0,h0⟩ fun a w h=>?_
 obtain⟨h1,h2⟩:=xN h;refine wp_mono (round _ a w h1) ?_;rintro e a' w' he;cases e<;>first|exact he|skip
 obtain⟨m,hm,hi⟩:=he;exact⟨⟨m,hi⟩,Nat.lt_of_le_of_lt ((xN ⟨m,hi⟩).2 m hi) hm⟩
structure OwnQ (w:World) (g:Nat) (e:TypeId) (v:Value) (n:Nat) (xs:List Value):Prop where
 len:xs.length=n
 ex:∃ off cap,v=.slice (some ⟨g,off,none⟩) n cap/\n<=cap/\cap<=maxLen/\(cap=0\/∃ cur fz,w.heap[g]?=some (.cells cur e fz)/\(∀ i,i<cur.size->¬ (fz.1<=i/\i<fz.2))/\cur.size=off+cap/\(cur.toList.drop off).take n=xs)
theorem OwnQ.up{w w':World} {g:Nat} {e:TypeId} {v:Value} {n:Nat} {xs:List Value} (h:OwnQ w g e v n xs) (hb:w'.heap[g]?=w.heap[g]?\/g ≥ w.heap.size):OwnQ w' g e v n xs:=by
 obtain⟨off,cap,h1,h2,h3,h4⟩:=h.ex;refine⟨h.len,off,cap,h1,h2,h3,?_⟩;rcases h4 with h4|⟨cur,fz,h5,h6⟩
 ·exact .inl h4
 ·rcases hb with hb|hb
  ·exact .inr ⟨cur,fz,hb.trans h5,h6⟩
  ·have:=aB h5;omega
structure GrowQ (g:Nat) (w w':World):Prop where
 os:w'.os=w.os
 tape:w'.tape=w.tape
 output:w'.output=w.output
 size:w.heap.size<=w'.heap.size
 same:∀ k,k<w.heap.size->k≠g->w'.heap[k]?=w.heap[k]?
theorem GrowQ.below{g n:Nat} {w0 w w':World} (h:GrowQ g w w') (hb:Below n w0 w) (hn:n<=w.heap.size) (hg:n<=g):Below n w0 w':=
 ⟨h.os.trans hb.os,h.tape.trans hb.tape,h.output.trans hb.output,Nat.le_trans hb.size h.size,fun k hk=>(h.same k (by omega) (by omega)).trans (hb.block k hk)⟩
theorem GrowQ.keep{g:Nat} {w w':World} (h:GrowQ g w w') {k:Nat} {o:Obj} (hk:w.heap[k]?=some o) (hg:k≠g):w'.heap[k]?=some o:=(h.same k (aB hk) hg).trans hk
section
variable {P : Program} (w : World)
theorem Hl(t ty e:TypeId) (i:TypeInfo) (z:Value) (bytes:Nat) (ht:P.underlying t=some (.slice e)) (hi:P.info? e=some i) (hz:i.zero=some z)
  (eO:i.size=1) (gy:i.bytes=bytes) (rK:z.cells.size=1)
  (g:Nat) (v:Value) (n:Nat) (xs:List Value) (aX:OwnQ w g e v n xs)
  (a:Addr) (c:Nat) (u:Value) (bL:∀ j x,[u][j]?=some x->w.cell? (a.add j)=some x) (h1:u.oneCell'=true)
  (oh:n+1<=maxLen) (go:(n+1) * bytes<=140737488355328) :
  ∃ v' w' g',(Builtin.append_ #[t,t] ty #[v,.slice (some a) 1 c]).run P w=.ok v' w'/\OwnQ w' g' e v' (n+1) (xs++[u])/\GrowQ g w w'/\(g'=g/\g<w.heap.size\/g'=w.heap.size):=by
 obtain⟨off,cap,rfl,jO,p7,h⟩:=aX.ex;have iu:=aX.len;by_cases mg:n+1<=cap
 ·rcases h with h|⟨cur,fz,hg,mU,jt,mO⟩
  ·omega
  have hr:=run_append_room_cells (P:=P) w t ty e i ht hi g off n cap a 1 c [u] (by simp[eO]) bL (by simpa using h1) mg (fun j hj=>by
    rw[eO,Nat.mul_one,ab hg];simp at hj;simp
    omega)
   (fun j hj=>by
    simp at hj;simp only[World.frozen?,hg];have:=mU (off+n * i.size+j) (by rw[eO];omega)
    simpa using this)
  rw[eO,Nat.mul_one]at hr;have fK:w.setCells g (off+n) [u]=w.setCell ⟨g,off+n,none⟩ u:=rfl;rw[fK]at hr;refine⟨_,_,g,hr,⟨by simp[iu],off,cap,rfl,mg,p7,.inr ⟨_,fz,aF hg _ _,fun i hi=>mU i (by simpa using hi),by simpa using jt,?_⟩⟩,⟨rfl,rfl,rfl,by simp,fun k _ hk=>Below.heap_setCell _ _ _ _ hk⟩,.inl ⟨rfl,aB hg⟩⟩;rw[Array.toList_setIfInBounds,List.drop_set,if_neg (by omega),Nat.add_sub_cancel_left,List.take_succ_eq_append_getElem (by simp;omega),List.take_set_of_le (Nat.le_refl _),mO,List.getElem_set_self]
 ·have C':∀ j x,xs[j]?=some x->w.cell? ((⟨g,off,none⟩:Addr).add j)=some x:=fun j x hx=>by
   have hj:=(List.getElem?_eq_some_iff.1 hx).1;rcases h with h|⟨cur,fz,hg,mU,jt,mO⟩
   ·omega
   have e1:((⟨g,off,none⟩:Addr).add j)=⟨g,off+j,none⟩:=by unfold Addr.add;split<;>simp_all
   rw[e1,ab hg];rw[<-mO,List.getElem?_take,if_pos (by omega),List.getElem?_drop]at hx;simpa using hx
  have hr:=run_append_grow (P:=P) w t ty e i z ht hi hz ⟨g,off,none⟩ n cap xs (by rw[eO,iu,Nat.mul_one]) C' a 1 c [u] (by simp[eO]) bL (by omega) (by simp only[maxLen]at oh;omega) (growslice_fits (by omega) (by rw[gy];exact go));obtain⟨v',w',q1,q2,q3⟩:=run_append_arg_grows (P:=P) w t ty e i z i.size i.bytes ht hi hz rfl rfl (by rw[eO,rK]) (by omega) ⟨g,off,none⟩ n cap xs (by rw[eO,iu,Nat.mul_one]) C' a 1 c [u] (by simp[eO]) bL (by omega) oh (by rw[gy];exact go);have e1:=hr.symm.trans q1;injection e1 with e1 e2
  subst e1 e2;have q4:=aG.of_owns q2;rw[eO]at q4;refine⟨_,_,w.heap.size,hr,⟨by simp[iu],?_⟩,⟨q3.os,q3.tape,q3.output,q3.size,fun k hk _=>q3.block k hk (by simp)⟩,.inr rfl⟩;rcases q4.2 with ⟨hn,_⟩|⟨g',cap',cur,fz,hv,_,hg,mU,hnc',hcm',jt,mO⟩
  ·cases hn
  ·injection hv with jI _ Pu
   injection jI with jI
   injection jI with jI
   subst jI Pu;exact⟨0,_,rfl,hnc',hcm',.inr ⟨cur,fz,hg,mU,by omega,by rw[List.drop_zero,<-mO,Nat.mul_one]⟩⟩
theorem zu{F:Fence} {d:Nat} {ops:Array Oper} {rest:List Oper} {o:Oper} {a:Act} {Q:Exit->Act->World->Prop} (kX:o.guard=none) (s x:Operand) (t:TypeId)
  (ho:o.op=.call { callee:=.builtin .append,args:=#[s,x],argTypes:=#[t,t] })
  (e:TypeId) (i:TypeInfo) (z:Value) (bytes:Nat) (ht:P.underlying t=some (.slice e)) (hi:P.info? e=some i) (hz:i.zero=some z)
  (eO:i.size=1) (gy:i.bytes=bytes) (rK:z.cells.size=1)
  (g:Nat) (v:Value) (n:Nat) (xs:List Value) (hs:a.eval s=v) (aX:OwnQ w g e v n xs)
  (ad:Addr) (c:Nat) (u:Value) (hx:a.eval x=.slice (some ad) 1 c) (bL:∀ j x,[u][j]?=some x->w.cell? (ad.add j)=some x) (h1:u.oneCell'=true)
  (oh:n+1<=maxLen) (go:(n+1) * bytes<=140737488355328)
  (h:∀ v' w' g',OwnQ w' g' e v' (n+1) (xs++[u])->GrowQ g w w'->(g'=g/\g<w.heap.size\/g'=w.heap.size)->wpListIn F d P ops Q rest (a.put o.dst v') w'):wpListIn F d P ops Q (o :: rest) a w:=by
 refine wpListIn_plain kX fun K hK'=>?_
 obtain⟨v',w',g',RY,r1,r2,r3⟩:=Hl (P:=P) w t o.type e i z bytes ht hi hz eO gy rK g v n xs aX ad c u bL h1 oh go;unfold Oper.wpIn;refine⟨?_,?_⟩
 ·simp[Oper.about,ho,resolve,Target.leads,Sem.run_pure]
 ·rw[Oper.semAt_plain F _ _ (by rw[ho];intro c kF;cases kF)]
  simp[execOp,ho,resolve,invoke,builtin,hs,hx,RY,Result.andThen];exact hK' _ _ (h v' w' g' r1 r2 r3)
end
theorem OwnQ.tail{w:World} {g:Nat} {e:TypeId} {off n cap:Nat} {x:Value} {xs:List Value} (h:OwnQ w g e (.slice (some ⟨g,off,none⟩) (n+1) cap) (n+1) (x :: xs)):OwnQ w g e (.slice (if cap=1 then some ⟨g,off,none⟩ else some ⟨g,off+1,none⟩) n (cap - 1)) n xs:=by
 have hl:=h.len;obtain⟨off',cap',hv,h2,h3,h4⟩:=h.ex;injection hv with e1 _ e3
 injection e1 with e1
 injection e1 with _ e1
 subst e1 e3;simp at hl;rcases h4 with h4|⟨cur,fz,h5,h6,h7,h8⟩
 ·omega
 by_cases hc:cap=1
 ·subst hc
  obtain rfl:n=0:=by omega
  have:xs=[]:=List.eq_nil_of_length_eq_zero hl;subst this;exact⟨rfl,off,0,by simp,by omega,by omega,.inl rfl⟩
 ·refine⟨hl,off+1,cap - 1,by rw[if_neg hc],by omega,by omega,.inr ⟨cur,fz,h5,h6,by omega,?_⟩⟩
  rw[show off+1=1+off by omega,<-List.drop_drop];have h9:=congrArg (List.drop 1) h8;rw[List.drop_take,Nat.add_sub_cancel]at h9;simpa using h9
end Go.Proofs.YtmeaoneaephjeaaGreatDoor
namespace Go.Proofs.YtmeaoneaephjeaaGreatDoor
open Go.RowKit Go Go.Shelf
attribute [local go_sem] Oper.semAt_some
theorem OwnQ.ck{w w':World} {g:Nat} {e:TypeId} {v:Value} {n:Nat} {xs:List Value} (h:OwnQ w g e v n xs) (hb:CK w w'):OwnQ w' g e v n xs:=by
 obtain⟨off,cap,h1,h2,h3,h4⟩:=h.ex;refine⟨h.len,off,cap,h1,h2,h3,?_⟩;rcases h4 with h4|⟨cur,fz,h5,h6⟩
 ·exact .inl h4
 ·exact .inr ⟨cur,fz,hb _ _ h5 rfl,h6⟩
def vW(l:List Nat):List Value:=l.map fun x:Nat=>Value.int .i64 (x:Int)
def L3(s:Sys) (D:List Int):Nat:=((List.range (eS s)).filter fun e=>decide (D.getD e 0<0)).length
structure DFI (s:Sys) (w:World) (bq bx be:Nat) (Ds:List Nat) (D:List Int) (Q:List Nat) (V:World):Prop where
 old:Below w.heap.size w V
 box:V.heap[w.heap.size+1]?=some (.cells #[.slice (some ⟨w.heap.size,0,none⟩) (eS s) (eS s)] 38)
 row:V.heap[w.heap.size]?=some (.cells (bu D) 3)
 que:∃ g qv,V.heap[bq]?=some (.cells #[qv] 38)/\OwnQ V g 3 qv Q.length (vW Q)/\w.heap.size+1<g/\g<V.heap.size/\g≠bx/\g≠be/\g≠bq
 marks:cM w.heap.size Ds V
theorem DFI.sta{s:Sys} {w:World} {bq bx be B:Nat} {Ds:List Nat} {D:List Int} {Q:List Nat} (hB:w.heap.size<=B) (hD:∀ E∈Ds,E<B):cB B (DFI s w bq bx be Ds D Q):=fun A A' c h=>by
 obtain⟨g,qv,h1,h2,h3,h4,h5⟩:=h.que;exact⟨c.below hB h.old.size h.old,c.same _ _ h.box (.inr rfl),c.same _ _ h.row (.inr rfl),⟨g,qv,c.same _ _ h1 (.inr rfl),h2.ck c.ck,h3,Nat.lt_of_lt_of_le h4 c.size,h5⟩,cB.marks hD A A' c h.marks⟩
def Vg(s:Sys) (B f:Nat) (w:World) (n:Nat) (act:Act) (W:World):Prop:=∃ (D:List Int) (Q:List Nat) (bq:Nat) (Ds:List Nat) (u2 u3 u4 u6 u8 u9 u10 u11 u12 u13 u14 u15 u16 u17 u18 u19 u20 u21 u22 u23 u24 u25 u26 u27 u28 u29 u30 u31 u32 u33 u34 u35 u36 u37 u38 u39 u40 u41 u42 u43 u44 u45 u46 u47 u48 u49 u50 u51 u52 u53 u54 u55 u56 u57 u58 u59 u60 u61:Value),
   act={ tmps:=#[Value.pointer (some ⟨B,0,none⟩),Value.int .i64 f,u2,u3,u4,Value.pointer (some ⟨w.heap.size+1,0,none⟩),u6,Value.pointer (some ⟨bq,0,none⟩),u8,u9,u10,u11,u12,u13,u14,u15,u16,u17,u18,u19,u20,u21,u22,u23,u24,u25,u26,u27,u28,u29,u30,u31,u32,u33,u34,u35,u36,u37,u38,u39,u40,u41,u42,u43,u44,u45,u46,u47,u48,u49,u50,u51,u52,u53,u54,u55,u56,u57,u58,u59,u60,u61],defers:=mH Ds }/\n=Q.length+L3 s D/\n<=257/\D.length=eS s/\Bfs (eS s) (eI s) f (fun e=>D.getD e 0) Q/\w.heap.size+1<bq/\bq<W.heap.size/\DFI s w bq W.heap.size W.heap.size Ds D Q W
theorem L4{n:Nat} {L:Nat->Nat->Bool} {f:Nat} {D:Nat->Int} {Q:List Nat} (b:Bfs n L f D Q) (d:Nat):∀ e,e<n->D e=(d:Int)->d+1<=((List.range n).filter fun x=>decide (0<=D x/\D x<=(d:Int))).length:=by
 induction d with
 | zero=>
  intro e he h;have:e∈(List.range n).filter fun x=>decide (0<=D x/\D x<=((0:Nat):Int)):=by simp[he,h]
  have:=List.length_pos_of_mem this;omega
 | succ d ih=>
  intro e he h;obtain⟨g,hg,h1,_⟩:=b.pred e he d (by rw[h];rfl);have h4:=ih g hg h1
  have h5:((List.range n).filter fun x=>decide (0<=D x/\D x<=(d:Int))).length<((List.range n).filter fun x=>decide (0<=D x/\D x<=((d+1:Nat):Int))).length:=by
   refine Ee _ _ _ (fun x _ hx=>?_) e (by simpa using he) (by rw[h];simp;omega) (by rw[h];simp;omega);simp only[decide_eq_true_eq]at hx ⊢;omega
  omega
theorem L5{s:Sys} {f h:Nat} {D:List Int} {Q:List Nat} (b:Bfs (eS s) (eI s) f (fun e=>D.getD e 0) Q) (hh:h<eS s) (hE:eS s<=256):D.getD h 0<1000000:=by
 by_cases h0:0<=D.getD h 0
 ·have h1:=L4 b (D.getD h 0).toNat h hh (by omega)
  have h2:((List.range (eS s)).filter fun x=>decide (0<=D.getD x 0/\D.getD x 0<=((D.getD h 0).toNat:Int))).length<=eS s:=Nat.le_trans (List.length_filter_le _ _) (by simp);omega
 ·omega
theorem UD(s:Sys) (D:List Int):L3 s D<=eS s:=Nat.le_trans (List.length_filter_le _ _) (by simp)
theorem L6(s:Sys) (h:Nat) (D:List Int) (l:List Nat):(eh s h D l).2.length<=l.length:=by
 unfold eh;generalize D.getD h 0+1=dh
 have key:∀ (l:List Nat) (st:List Int × List Nat),(l.foldl (jx dh) st).2.length<=st.2.length+l.length:=by
  intro l;induction l with
  | nil=>intro st;simp
  | cons a r ih=>
   intro st;rw[List.foldl_cons];refine Nat.le_trans (ih _) ?_;have:(jx dh st a).2.length<=st.2.length+1:=by unfold jx;split<;>simp
   simp only[List.length_cons];omega
 exact Nat.le_trans (key l _) (by simp)
theorem Vh(s:Sys) (e:Nat):(dL s e).length<=eS s:=Nat.le_trans (List.length_filter_le _ _) (by simp)
theorem L7{s:Sys} {h:Nat} {D:List Int} (h0:0<=D.getD h 0) (l:List Nat):(eh s h D l).1.getD h 0=D.getD h 0:=by
 unfold eh
 have key:∀ (l:List Nat) (st:List Int × List Nat),st.1.getD h 0=D.getD h 0->(l.foldl (jx (D.getD h 0+1)) st).1.getD h 0=D.getD h 0:=by
  intro l;induction l with
  | nil=>intro st h1;exact h1
  | cons a r ih=>
   intro st h1;rw[List.foldl_cons];refine ih _ ?_;unfold jx;split
   ·rename_i h2
    by_cases ha:a<st.1.length
    ·dsimp only
     rw[fp _ _ _ _ _ ha,if_neg (fun e=>by subst e;omega)];exact h1
    ·dsimp only
     rw[List.set_eq_of_length_le (by omega)];exact h1
   ·exact h1
 exact key l _ rfl
theorem ON(s:Sys) (hs:SysOk s) (hE:eS s<=256) (B f:Nat) (hf:f<eS s) (base:Nat) (w:World) (h:gH w base B s) :
  Calls Tryz.prog 137 #[.pointer (some ⟨B,0,none⟩),.int .i64 f] w fun r w'=>r=.returned (.slice (some ⟨w.heap.size,0,none⟩) (eS s) (eS s))/\w'.heap[w.heap.size]?=some (.cells (bu (cS s f)) 3)/\Below w.heap.size w w':=by
 obtain⟨pl,cl,h1,_⟩:=(h.at hs).open;have HF:=aa h;have tF:w.cell? ⟨B,1,none⟩=some (.slice pl (eS s) cl):=(ab h1 1).trans rfl;have hBw:=aB h1;obtain⟨i0,cU,cg,bV,cj⟩:=info_parts Tryz.infoInt
 have eV:Hid (Bfs (eS s) (eI s) f (fun e=>((List.replicate (eS s) (-1:Int)).set f 0).getD e 0) [f]):=aa (EG hf (Bfs.start hf) fun e he=>by
  rw[fp _ _ _ _ _ (by simp;exact hf)];unfold dE;split
  ·rfl
  ·simp[he])
 obtain⟨m,hm⟩:∃ m,eS s=m:=⟨_,rfl⟩;have fO:=je (fun _=>-1) m (by omega);have A8:Hid ((List.range m).map (fun _=>(-1:Int))=List.replicate (eS s) (-1)):=aa (by rw[hm];simp[List.map_const']);rw[hm]at hE hf tF;have HM:=aa hm;have Pt:=aa hs;clear hm h1 h hs;refine fQ Tryz.func137 rfl ?_;simp only[Tryz.ntmps137,List.size_toArray,List.length_cons,List.length_nil,Nat.reduceAdd,Nat.reduceSub,Array.replicate_succ,Array.replicate_zero,List.push_toArray,List.append_toArray,List.nil_append,List.cons_append]
 go_wp2_with fail
 clear fO tF;refine bm (fun W=>Below w.heap.size w W/\W.heap[w.heap.size]?=some (.cells (fC m (fun _=>-1) 0) 3)/\W.heap[w.heap.size+1]?=some (.cells #[.slice (some ⟨w.heap.size,0,none⟩) m m] 38)) ⟨by go_grown,ap _ (am _ _),bd _ _ _⟩ (fun W0 aV=>?_);have iz:=aa aV;have tx0:=ab aV.2.2 0;simp at tx0;clear aV
 go_wp2_with fail
 clear tx0
 go_loopw [17] (fun i wr=>∃ k:Nat,k<=m/\i=.int .i64 k/\Below w.heap.size w wr/\wr.heap[w.heap.size]?=some (.cells (fC m (fun _=>-1) k) 3)/\wr.heap[w.heap.size+1]?=some (.cells #[.slice (some ⟨w.heap.size,0,none⟩) m m] 38)) (fun i _=>m - (intOf i).toNat)
 case atStart=>exact⟨0,by omega,rfl,iz.out.1,iz.out.2.1,iz.out.2.2⟩
 case round=>
  clear iz;obtain⟨k,hk,rfl,ar,hO,hX⟩:=hrel;have tx:=ab hX 0;simp at tx;have eT:=aB hX;have HO:=aa hO;have HX:=aa hX;have aP:=aa ar;by_cases aA:k<m
  ·have tq:=ab hO k
   rw[lN _ _ _ _ aA]at tq;have zq:=aE hO k;clear hO hX ar
   go_wp2_with fail
   go_roundw
   case rel=>exact⟨k+1,by omega,by go_num,aP.out.setCell (by dsimp only;omega) _,by rw[aF HO.out,uu m (fun _=>-1) k aA],aJ HX.out (by omega) _ _⟩
   case measure=>simp[intOf];omega
  obtain rfl:k=m:=by omega
  have tq:=ab hO f;rw[lN _ _ _ _ hf]at tq;have zq:=aE hO f;have qF:=hO;rw[pK,A8.out]at qF;have eE:=aa qF;have IK:=ar.size;clear hO qF hX ar
  go_wp2_with fail
  clear tx tq zq
  refine bm (fun W=>Below w.heap.size w W/\W.heap[w.heap.size+1]?=some (.cells #[.slice (some ⟨w.heap.size,0,none⟩) k k] 38)/\W.heap[w.heap.size]?=some (.cells (bu ((List.replicate (eS s) (-1)).set f 0)) 3)/\W.heap[wr.heap.size]?=some (.cells #[.int .i64 f] 3)/\W.heap[wr.heap.size+1]?=some (.cells #[.slice (some ⟨wr.heap.size,0,none⟩) 1 1] 38))
   ⟨((aP.out.setCell (p:=⟨w.heap.size,f,none⟩) (Nat.le_refl _) _).alloc (by simpa using IK) _).alloc (by simp;omega) _,ap _ (ap _ (aJ HX.out (by omega) _ _)),ap _ (ap _ (by rw[aF eE.out,lO])),ap _ (by have:=am (wr.setCell ⟨w.heap.size,f,none⟩ (.int .i64 0)) (.cells #[.int .i64 f] 3);rwa [World.size_setCell]at this),by have:=bd (wr.setCell ⟨w.heap.size,f,none⟩ (.int .i64 0)) (.cells #[.int .i64 f] 3) (.cells #[.slice (some ⟨wr.heap.size,0,none⟩) 1 1] 38);rwa [World.size_setCell]at this⟩ (fun W1 cD=>?_)
  have sP:w.heap.size+1<wr.heap.size:=eT;generalize wr.heap.size=g0 at cD sP;have gr:=aa cD;have qA:=aB cD.2.2.2.2;clear cD HO eE HX aP wr eT IK W0;refine AZ (fun n act W=>Vg s B f w n act W) (1+L3 s ((List.replicate (eS s) (-1)).set f 0)) ?start ?round
  case start=>
   refine⟨_,[f],g0+1,[],_,_,_,_,_,_,_,_,_,_,_,_,_,_,_,_,_,_,_,_,_,_,_,_,_,_,_,_,_,_,_,_,_,_,_,_,_,_,_,_,_,_,_,_,_,_,_,_,_,_,_,_,_,_,_,_,_,_,rfl,rfl,by have:=UD s ((List.replicate (eS s) (-1)).set f 0);have:=HM.out;omega,by simp,eV.out,by omega,qA,gr.out.1,by rw[HM.out];exact gr.out.2.1,gr.out.2.2.1,⟨g0,_,gr.out.2.2.2.2,⟨rfl,0,1,rfl,Nat.le_refl _,by unfold maxLen;omega,.inr ⟨_,(0,0),gr.out.2.2.2.1,fun i _ h=>by have:=h.2;simp at this,rfl,rfl⟩⟩,by omega,by omega,by omega,by omega,by omega⟩,cM.nil _ _⟩
  case round=>
   clear gr eV A8;rintro n act W ⟨D,Q,bq,Ds,u2,u3,u4,u6,u8,u9,u10,u11,u12,u13,u14,u15,u16,u17,u18,u19,u20,u21,u22,u23,u24,u25,u26,u27,u28,u29,u30,u31,u32,u33,u34,u35,u36,u37,u38,u39,u40,u41,u42,u43,u44,u45,u46,u47,u48,u49,u50,u51,u52,u53,u54,u55,u56,u57,u58,u59,u60,u61,rfl,hn,hn7,lB,CI,kn,hbq2,hI⟩;obtain⟨g,qv,Iy,E4,hg,hgw,Ah,pZ,TC⟩:=hI.que;obtain⟨off,cap,rfl,jO,p7,D5⟩:=E4.ex;have tq:=ab Iy 0;simp at tq;have HI:=aa hI;have CP:=aa Iy;have KL:=aa E4;have Fc:=aa CI;have HN:=aa hn;have IJ:=aa lB;clear hI Iy E4 CI hn lB;cases Q with
   | nil=>
    have tb:=ab HI.out.box 0;simp at tb;have iY:=aa (UC (by rw[HM.out];exact hf) IJ.out Fc.out);have bW:=HI.out.row;rw[iY.out]at bW;have jZ:=aa bW;clear bW
    go_wp2_with fail
    refine qS HI.out.marks (v:=.slice (some ⟨w.heap.size,0,none⟩) (eS s) (eS s)) ?_ ⟨rfl,qR HI.out.marks _ _ jZ.out rfl,l7 (fun D hD=>(HI.out.marks.2 D hD).1) (Nat.le_refl _) HI.out.old⟩;simp[results,Tryz.results137,go_sem]
   | cons h r=>
    have hh:=(Fc.out.ok h (by simp)).1;rw[HM.out]at hh
    obtain⟨cur,fz,kg,iP,hc3,hc4⟩:∃ cur fz,W.heap[g]?=some (.cells cur 3 fz)/\(∀ i,i<cur.size->¬ (fz.1<=i/\i<fz.2))/\cur.size=off+cap/\(cur.toList.drop off).take (h :: r).length=vW (h :: r):=by
     rcases D5 with h0|h0
     ·simp at jO;omega
     ·exact h0
    have th:W.cell? ⟨g,off,none⟩=some (.int .i64 h):=by
     rw[ab kg];have h5:=congrArg (fun l=>l[0]?) hc4;simp[vW]at h5;simpa using h5
    clear D5 kg iP hc3 hc4
    go_wp2_with fail
    refine(uF B h W).mono ?_;rintro e w2 ⟨rfl,rfl⟩;clear th tq
    go_wp2_with fail
    have lB:∀ E∈Ds,E<W.heap.size:=HI.out.marks.lt
    refine bm (fun W1=>DFI s w bq W.heap.size (W.heap.size+1) Ds D (h :: r) W1/\W1.heap[W.heap.size]?=some (.cells #[.pointer (some ⟨B,0,none⟩)] 196)/\W1.heap[W.heap.size+1]?=some (.cells #[.int .i64 h] 3)/\W.heap.size+1<W1.heap.size)
     ⟨⟨(HI.out.old.alloc HI.out.old.size _).alloc (by have:=HI.out.old.size;simp;omega) _,ap _ (ap _ HI.out.box),ap _ (ap _ HI.out.row),⟨g,_,ap _ (ap _ CP.out),(KL.out.ck (.of_below (by go_grown))),hg,by simp;omega,by omega,by omega,TC⟩,HI.out.marks.up (by go_grown)⟩,ap _ (am _ _),bd _ _ _,by simp⟩ (fun W1 cD=>?_)
    obtain⟨wT,Ad,Ik,VE⟩:=cD;have cY:=sA s Pt.out B h W.heap.size (W.heap.size+1) (by rw[HM.out];exact hh) base w HF.out W1 (fun k _ hk=>wT.old.block k hk) wT.old.size (by simp[ab Ad]) (by simp[ab Ik]);have WJ:=HI.out.old.size;have sH:=aa wT;have hbq1:bq<W.heap.size:=hbq2;clear Ad Ik
    refine mj (gf:=179) (lb:=#[.pointer (some ⟨W.heap.size,0,none⟩),.pointer (some ⟨W.heap.size+1,0,none⟩)]) rfl (enters_of Tryz.func179 (by kernel_rfl) rfl) cY (Below.refl _ _) (fun k hk=>by rcases hk with hk|rfl|rfl<;>omega) (fun i=>rfl)
     (fun i V=>DFI s w bq W.heap.size (W.heap.size+1) Ds (eh s h D ((dL s h).take i)).1 (h :: (r++(eh s h D ((dL s h).take i)).2)) V)
     (fun _ _ _=>False)
     (fun i=>DFI.sta (by omega) (fun E hE=>by have:=lB E hE;omega)) (fun c i=>cB.pure) (by simpa[eh] using wT) ?rnd ?done ?stop
    case stop=>rintro D' c i V hD hi h;exact h.elim
    case rnd=>
     intro yl i V hi hl iw;unfold Hj;obtain⟨fv,PO⟩:∃ fv,(dL s h).getD i 0=fv:=⟨_,rfl⟩
     have mx:fv<k:=by
      have h2:(dL s h)[i]∈dL s h:=List.getElem_mem hi;rw[show (dL s h)[i]=fv by rw[<-PO];simp[hi]]at h2;have:=(qW.1 h2).1;rw[HM.out]at this;exact this
     have bJ:fv≠h:=by
      have h2:(dL s h)[i]∈dL s h:=List.getElem_mem hi;rw[show (dL s h)[i]=fv by rw[<-PO];simp[hi]]at h2;exact(qW.1 h2).2.2
     have km:Hid (eh s h D ((dL s h).take (i+1))=jx (D.getD h 0+1) (eh s h D ((dL s h).take i)) fv):=aa (by
      rw[List.take_succ_eq_append_getElem hi,B8,<-PO]
      simp[hi])
     rw[PO];have cG:(eh s h D ((dL s h).take i)).1.length=k:=by rw[xM,IJ.out,HM.out]
     have hh0:=(Fc.out.ok h (by simp)).2
     have hqb:(eh s h D ((dL s h).take i)).2.length<=256:=by
      have h1:=L6 s h D ((dL s h).take i);have h2:=Vh s h;have h3:=HM.out;rw[List.length_take]at h1;omega
     have O7:r.length<=257:=by
      have h1:=HN.out;simp only[List.length_cons]at h1;omega
     have Tt:(eh s h D ((dL s h).take i)).1.getD h 0=D.getD h 0:=L7 hh0 _;generalize byP s h fv=pv;obtain⟨st,dU⟩:∃ st,eh s h D ((dL s h).take i)=st:=⟨_,rfl⟩;rw[dU]at cG Tt km iw hqb;obtain⟨ql,nE⟩:∃ ql,(h :: (r++st.2)).length=ql+1:=⟨(r++st.2).length,rfl⟩;have hql2:ql<=1000:=by simp only[List.length_cons,List.length_append]at nE;omega
     have nY:=aa iw;have eV:=aa dU;have uV:=aa nE;clear dU iw PO cY nE O7 hqb
     gi_wp2
     refine⟨Bod.refl _ _ _,fun V=>DFI s w bq W.heap.size (W.heap.size+1) Ds st.1 (h :: (r++st.2)) V,DFI.sta (by omega) (fun E hE=>by have:=lB E hE;omega),nY.out,fun V2 h2 jm=>?_⟩;obtain⟨rlp,jm⟩:=jm;have Iu:=aB jm;clear jm rlp;obtain⟨g2,qv2,k1,k2,k3,k4,k5,k6,k7⟩:=h2.que;rw[uV.out]at k2;have cV:=aa h2;have S':=aa k1;have Cz:=aa k2;have qj:=aa cG;have tb:=ab h2.box 0;have tr:=ab h2.row fv;have tq:=ab k1 0;simp at tb tq;rw[fX _ _ (by omega)]at tr;obtain⟨dv,Pv⟩:∃ dv,st.1.getD fv 0=dv:=⟨_,rfl⟩;rw[Pv]at tr;have HDV:=aa Pv;clear h2 k1 k2 Pv cG;have hmem2:fv<eS s:=by rw[HM.out];exact mx
     have hh2:h<eS s:=by rw[HM.out];exact hh
     by_cases DN:dv<0
     ·have hneg':decide (dv<0)=true:=decide_eq_true DN
      obtain⟨off2,cap2,hqv,hnc2,hcm2,MJ⟩:=Cz.out.ex;subst hqv;have Pp:0<ql+1:=by omega
      have th2:V2.cell? ⟨g2,off2,none⟩=some (.int .i64 h):=by
       rcases MJ with h0|⟨cur,fz,c1,c2,c3,c4⟩
       ·omega
       ·rw[ab c1]
        have h5:=congrArg (fun l=>l[0]?) c4;simp[vW]at h5;simpa using h5
      have trh:=ab cV.out.row h;rw[fX _ _ (by have:=qj.out;omega),Tt]at trh;have zr:=aE cV.out.row fv;have HSTEP:Hid (jx (D.getD h 0+1) st fv=(st.1.set fv (D.getD h 0+1),st.2++[fv])):=aa (by unfold jx;rw[HDV.out,if_pos DN]);have hdh:=L5 Fc.out hh2 (by rw[HM.out];exact hE);generalize D.getD h 0=dh at trh Tt HSTEP km hh0 hdh
      have lA:Hid (∃ cs ty fz,V2.heap[g2]?=some (.cells cs ty fz)):=aa (by
       rcases MJ with h0|⟨cur,fz,c1,_⟩
       ·omega
       ·exact⟨_,_,_,c1⟩)
      clear DN MJ Tt
      gi_wp2
      refine kN 10 (fun ⟨_,_,h⟩=>h) (by kernel_rfl) (by kernel_rfl) (by kernel_rfl) (fun ops Lq hops hLq=>?_);simp only[List.take_succ_cons,List.take_zero,List.drop_succ_cons,List.drop_zero]at hLq ⊢;have CS:=aa hLq;clear hLq;have Sk:=aa hops;clear hops
      repeat still_step
      refine wpStill_nil ?_;refine CS.out _ ?_
      go_wp2_with fail
      obtain⟨V3,KY⟩:∃ V3,V3=(V2.setCell ⟨w.heap.size,fv,none⟩ (.int .i64 (dh+1))).drew:=⟨_,rfl⟩;rw[<-KY];have H6:V3.heap.size=V2.heap.size:=by rw[KY];simp
      have hZ:∀ k,k≠w.heap.size->V3.heap[k]?=V2.heap[k]?:=fun k hk=>by rw[KY];exact Below.heap_setCell _ _ _ _ hk
      have zi:V3.heap[w.heap.size]?=some (.cells (bu (st.1.set fv (dh+1))) 3):=by rw[KY];exact(aF cV.out.row _ _).trans (by rw[lO])
      have hold3:Below w.heap.size w V3:=by rw[KY];exact(cV.out.old.setCell (by dsimp only;omega) _).drew
      clear KY;have MF:=(hZ bq (by omega)).trans S'.out;have tb3:=ab MF 0;simp at tb3;have HBOX:=aa MF;have jZ:=aa zi;have yq:=aa hold3;have nX:=aa hZ;have bI:=aa ((Cz.out.up (w':=V3) (.inl (hZ g2 (by omega)))).ck (.of_below ((Below.refl _ V3).alloc (Nat.le_refl _) (.cells #[.int .i64 fv] 3))));have bz:=aa (dF V3 [.int .i64 (fv:Int)] 3);have HNEW2:Hid (∀ (j:Nat) (x:Value),[Value.int .i64 (fv:Int)][j]?=some x->(V3.alloc (.cells #[.int .i64 fv] 3)).cell? ((⟨V3.heap.size,0,none⟩:Addr).add j)=some x):=bz;have HSZ3:=aa H6;have FG:Hid (bq≠g2):=aa (Ne.symm k7);clear k7;have jN:Hid (ql+1+1<=maxLen):=aa (by unfold maxLen;omega);have eJ:Hid ((ql+1+1) * 8<=140737488355328):=aa (by omega);clear MF zi hold3 hZ th2 trh zr tb tr tq H6
      gi_wp2_with (gi_at_builtin;go_loud (refine zu _ rfl (.tmp 56) (.tmp 58) 38 rfl 3 i0 _ 8 Tryz.underlying38 cU cg bV cj rfl g2 _ (ql+1) _ rfl bI.out ⟨V3.heap.size,0,none⟩ 1 (.int .i64 fv) rfl HNEW2.out rfl jN.out eJ.out ?_;intro v4 w4 g4 mh eN hg4;obtain⟨off4,cap4,rfl,-⟩:=mh.ex;have uZ:=eN.keep (ap _ HBOX.out) FG.out;have c4:=ab uZ 0;have f4:=aE uZ 0;simp at c4))
      have Aa:=eN.size;have H6:=HSZ3.out;simp only[World.size_alloc]at Aa hg4;have hg2l:=k4;have Pi:∀ k,k<V2.heap.size->k≠g2->k≠w.heap.size->w4.heap[k]?=V2.heap[k]?:=fun k h1 h2 h3=>(eN.same k (by simp;omega) h2).trans ((Below.heap_alloc V3 _ k (by omega)).trans (nX.out k h3))
      obtain⟨cs2,ty2,fz2,Mw⟩:=lA.out
      have sG:∀ (k:Nat) (o:Obj),V2.heap[k]?=some o->o.isCells=false->(w4.setCell ⟨bq,0,none⟩ (.slice (some ⟨g4,off4,none⟩) (ql+1+1) cap4)).heap[k]?=some o:=fun k o ho hc=>by
       have n1:k≠g2:=fun e=>by subst e;rw[Mw]at ho;cases ho;cases hc
       have n2:k≠w.heap.size:=fun e=>by subst e;rw[cV.out.row]at ho;cases ho;cases hc
       have n3:k≠bq:=fun e=>by subst e;rw[S'.out]at ho;cases ho;cases hc
       rw[Below.heap_setCell _ _ _ _ n3];exact(Pi k (aB ho) n1 n2).trans ho
      have hg4l:g4<w4.heap.size:=by
       obtain⟨off5,cap5,_,ji,_,h5⟩:=mh.ex;rcases h5 with h5|⟨cur,fz,c1,_⟩
       ·omega
       ·exact aB c1
      have hg4b:g4≠bq:=by
       rcases hg4 with ⟨e,_⟩|e
       ·rw[e];exact fun h=>FG.out h.symm
       ·omega
      refine⟨⟨by simp;omega,fun k hk=>?_,fun k o _ ho hc=>sG k o ho hc⟩,?_⟩
      ·have lV:k<V2.heap.size/\k≠g2/\k≠w.heap.size/\k≠bq:=by rcases hk with hk|rfl|rfl<;>omega
       rw[Below.heap_setCell _ _ _ _ lV.2.2.2];exact Pi k lV.1 lV.2.1 lV.2.2.1
      ·show DFI s w bq W.heap.size (W.heap.size+1) Ds (eh s h D ((dL s h).take (i+1))).1 (h :: (r++(eh s h D ((dL s h).take (i+1))).2)) _
       rw[km.out,HSTEP.out];refine⟨(eN.below (yq.out.alloc (by omega) _) (by simp;omega) (by omega)).setCell (by dsimp only;omega) _,?_,?_,⟨g4,_,aF uZ _ _,?_,by omega,by simp;omega,by omega,by omega,hg4b⟩,cV.out.marks.keep fun k o ho hc=>sG k o ho hc⟩
       ·exact aJ (eN.keep (ap _ ((nX.out _ (by omega)).trans cV.out.box)) (by omega)) (by omega) _ _
       ·exact aJ (eN.keep (ap _ jZ.out) (by omega)) (by omega) _ _
       ·have e1:(h :: (r++(st.2++[fv]))).length=ql+1+1:=by have:=uV.out;simp only[List.length_cons,List.length_append,List.length_nil]at this ⊢;omega
        have e2:vW (h :: (r++(st.2++[fv])))=vW (h :: (r++st.2))++[Value.int .i64 fv]:=by simp[vW]
        dsimp only;rw[e1,e2];exact mh.up (.inl (Below.heap_setCell _ _ _ _ hg4b))
     ·have hneg':decide (dv<0)=false:=decide_eq_false DN
      have HSAME:Hid (jx (D.getD h 0+1) st fv=st):=aa (by unfold jx;rw[HDV.out,if_neg DN]);clear DN
      gi_wp2
      refine⟨Bod.refl _ _ _,?_⟩
      show DFI s w bq W.heap.size (W.heap.size+1) Ds (eh s h D ((dL s h).take (i+1))).1 (h :: (r++(eh s h D ((dL s h).take (i+1))).2)) V2
      rw[km.out,HSAME.out];exact cV.out
    case done=>
     intro D' V hD iw hK;rw[List.take_of_length_le (Nat.le_refl _)]at iw;obtain⟨RK,Vu⟩:=OM (by rw[HM.out];exact hf) IJ.out Fc.out;have nK:(eh s h D (dL s h)).1.length=eS s:=by rw[xM];exact IJ.out
     obtain⟨st,dU⟩:∃ st,eh s h D (dL s h)=st:=⟨_,rfl⟩;rw[dU]at iw RK Vu nK;obtain⟨g2,qv2,k1,k2,k3,k4,k5,k6,k7⟩:=iw.que;obtain⟨ql,nE⟩:∃ ql,(h :: (r++st.2)).length=ql+1:=⟨(r++st.2).length,rfl⟩;rw[nE]at k2;obtain⟨off2,cap2,rfl,hnc2,hcm2,-⟩:=k2.ex;have tb:=ab k1 0;simp at tb;have nY:=aa iw;have Cz:=aa k2;have uV:=aa nE;have HBF2:=aa RK;have HMS:=aa Vu;have Cl:=aa nK;have hDl2:∀ E∈Ds,E<D':=fun E hE=>by have:=lB E hE;omega
     have HK:=aa hK;clear dU iw RK Vu nK k1 k2 nE cY hK;have wN:Hid (ql=(r++st.2).length):=aa (by have:=uV.out;simp only[List.length_cons]at this;omega)
     have jq:Hid (∀ (u:Value) (act:Act),OwnQ V g2 3 u ql (vW (r++st.2))->(∃ (u2 u3 u4 u6 u8 u9 u10 u11 u12 u13 u14 u15 u16 u17 u18 u19 u20 u21 u22 u23 u24 u25 u26 u27 u28 u29 u30 u31 u32 u33 u34 u35 u36 u37 u38 u39 u40 u41 u42 u43 u44 u45 u46 u47 u48 u49 u50 u51 u52 u53 u54 u55 u56 u57 u58 u59 u60 u61:Value),act={ tmps:=#[Value.pointer (some ⟨B,0,none⟩),Value.int .i64 f,u2,u3,u4,Value.pointer (some ⟨w.heap.size+1,0,none⟩),u6,Value.pointer (some ⟨V.heap.size,0,none⟩),u8,u9,u10,u11,u12,u13,u14,u15,u16,u17,u18,u19,u20,u21,u22,u23,u24,u25,u26,u27,u28,u29,u30,u31,u32,u33,u34,u35,u36,u37,u38,u39,u40,u41,u42,u43,u44,u45,u46,u47,u48,u49,u50,u51,u52,u53,u54,u55,u56,u57,u58,u59,u60,u61],defers:=mH (D' :: Ds) })->∃ m,m<n/\Vg s B f w m act (V.alloc (Obj.cells #[u] 38))):=aa (fun u act hu ⟨u2,u3,u4,u6,u8,u9,u10,u11,u12,u13,u14,u15,u16,u17,u18,u19,u20,u21,u22,u23,u24,u25,u26,u27,u28,u29,u30,u31,u32,u33,u34,u35,u36,u37,u38,u39,u40,u41,u42,u43,u44,u45,u46,u47,u48,u49,u50,u51,u52,u53,u54,u55,u56,u57,u58,u59,u60,u61,ha⟩=>by
      have aA:(r++st.2).length+L3 s st.1<n:=by rw[HN.out];exact HMS.out
      have hV1:=nY.out.old.size;refine⟨_,aA,st.1,r++st.2,V.heap.size,D' :: Ds,_,_,_,_,_,_,_,_,_,_,_,_,_,_,_,_,_,_,_,_,_,_,_,_,_,_,_,_,_,_,_,_,_,_,_,_,_,_,_,_,_,_,_,_,_,_,_,_,_,_,_,_,_,_,_,_,_,_,ha,rfl,by omega,Cl.out,HBF2.out,by omega,by simp,?_⟩;have hz:(V.alloc (Obj.cells #[u] 38)).heap.size=V.heap.size+1:=by simp
      refine⟨nY.out.old.alloc hV1 _,ap _ nY.out.box,ap _ nY.out.row,⟨g2,u,am _ _,by rw[<-wN.out];exact hu.ck (.of_below (by go_grown)),k3,by omega,by omega,by omega,by omega⟩,?_⟩
      exact cM.cons (nY.out.marks.up (by go_grown)) (by omega) (ap _ HK.out) hDl2)
     have sN:=aa (OwnQ.tail (x:=.int .i64 h) (xs:=vW (r++st.2)) Cz.out);by_cases hc:cap2=1
     ·subst hc
      obtain rfl:ql=0:=by omega
      have CF:=sN.out;rw[if_pos rfl]at CF;have HG:Hid (∀ act,_->_):=aa (fun act=>jq.out _ act CF);clear CF
      go_wp2_with fail
      exact HG.out _ ⟨_,_,_,_,_,_,_,_,_,_,_,_,_,_,_,_,_,_,_,_,_,_,_,_,_,_,_,_,_,_,_,_,_,_,_,_,_,_,_,_,_,_,_,_,_,_,_,_,_,_,_,_,_,_,_,_,_,_,rfl⟩
     ·have CF:=sN.out
      rw[if_neg hc]at CF;have HG:Hid (∀ act,_->_):=aa (fun act=>jq.out _ act CF);clear CF
      go_wp2_with fail
      exact HG.out _ ⟨_,_,_,_,_,_,_,_,_,_,_,_,_,_,_,_,_,_,_,_,_,_,_,_,_,_,_,_,_,_,_,_,_,_,_,_,_,_,_,_,_,_,_,_,_,_,_,_,_,_,_,_,_,_,_,_,_,_,rfl⟩
theorem Tryz.infoLink:(Tryz.prog.info? 75).map (fun i=>(i.zero,i.size,i.bytes))=some (some (.agg #[.int .i64 0,.int .i64 0]),2,16):=by kernel_rfl
theorem UE(s:Sys) (e:Nat):(dL s e).Pairwise (·<·):=List.Pairwise.filter _ List.pairwise_lt_range
theorem UF{s:Sys} {e i:Nat} {D:List Int} {d:Nat} (hi:i<(dL s e).length) (hd:D.getD ((dL s e).getD i 0) 0=d) (hb:∀ j,j<i->D.getD ((dL s e).getD j 0) 0≠d) (he:D.getD e 0≠d):gC s D d e=(dL s e).getD i 0:=by
 have e1:(dL s e).getD i 0=(dL s e)[i]:=az 0 hi;rw[e1]at hd ⊢;obtain⟨h1,h2,h3⟩:=qW.1 (List.getElem_mem hi);unfold gC;rw[dj (eS s) (dL s e)[i] _ h1 (fun j hj=>?_) (by rw[hd,h2];simp),Int.toNat_natCast];cases Fw:eI s e j with
 | false=>simp
 | true=>
  rw[Bool.and_true];refine decide_eq_false fun hdj=>?_
  have Te:j∈dL s e:=qW.2 ⟨by omega,Fw,fun e2=>he (by rw[<-e2];exact hdj)⟩;obtain⟨i',ou,e'⟩:=List.getElem_of_mem Te;rcases Nat.lt_trichotomy i' i with aA|aA|aA
  ·exact hb i' aA (by rw[az 0 ou,e'];exact hdj)
  ·subst aA;omega
  ·have:=List.pairwise_iff_getElem.1 (UE s e) i i' hi ou aA
   omega
theorem UG{s:Sys} {f:Nat} (hf:f<eS s) {e d:Nat} (he:e<eS s) (h:(cS s f).getD e 0=d+1) (hb:∀ j,j<(dL s e).length->(cS s f).getD ((dL s e).getD j 0) 0≠d):False:=by
 obtain⟨h1,h2,h3,_⟩:=AO hf he h;have hm:gC s (cS s f) d e∈dL s e:=qW.2 ⟨h1,h3,fun e2=>by rw[e2]at h2;omega⟩;obtain⟨i,hi,e'⟩:=List.getElem_of_mem hm;exact hb i hi (by rw[az 0 hi,e'];exact h2)
theorem sC{w:World} {base:Nat} {v:Value} {l:List Lk} (h:aG w base 75 2 v l.length (cK l)) (hx:∀ u∈l,bM u.x/\bM u.p) (hn:l.length<=17592186044416):bH w v l:=by
 have aQ:=fun i (hi:i<l.length) j (u:Value) (hj:j<2) (hu:l[i].c[j]?=some u)=>h.cell (i * 2+j) u (by unfold cK;rw[oK Lk.c 2 (fun _=>rfl) l i j hi hj];exact hu)
 rcases h.2 with ⟨hz,h0⟩|⟨g,cap,cur,fz,rfl,_,hg,_,kg,iP,_⟩
 ·refine⟨none,0,by rw[hz,h0],⟨by omega,by omega,fun _=>rfl⟩,hn,fun i x hi=>?_⟩
  have:=(List.getElem?_eq_some_iff.1 hi).1;omega
 ·refine⟨some ⟨g,0,none⟩,cap,rfl,⟨kg,by simp only[maxLen]at iP;omega,fun e=>by cases e⟩,hn,fun i x hi=>⟨g,0,rfl,?_⟩⟩
  obtain⟨gM,rfl⟩:=List.getElem?_eq_some_iff.1 hi;obtain⟨r0,r1⟩:=hx _ (List.getElem_mem gM)
  have key:∀ j u,j<2->l[i].c[j]?=some u->w.cell? ⟨g,0+i * 2+j,none⟩=some u:=fun j u hj hu=>by
   obtain⟨g',c',e1,e2⟩:=aQ i gM j u hj hu;have:g=g':=by simp at e1;exact e1.1
   rw[this,Nat.zero_add];exact e2
  exact⟨⟨key 0 _ (by omega) rfl,r0⟩,⟨key 1 _ (by omega) rfl,r1⟩⟩
theorem A0(n:Nat) (q:Nat->Bool):-1<=firstIx n q/\firstIx n q<n\/firstIx n q=-1:=by
 rcases bG n q with ⟨e,_⟩|⟨k,hk,e,_⟩
 ·exact .inr e
 ·exact .inl ⟨by omega,by omega⟩
theorem Km{s:Sys} (hn:nS s<=5) (hE:eS s<=4096) (D:List Int):∀ d e,∀ y∈j9 s D d e,bM y.x/\bM y.p
 | 0,_,y,hy=>by simp[j9]at hy
 | d+1,e,y,hy=>by
  rw[j9]at hy;rcases List.mem_cons.1 hy with rfl|hy
  ·have h1:=A0 (eS s) fun g=>decide (D.getD g 0=d)&&eI s e g
   have h2:=A0 (nS s) fun p=>linkB s p e (gC s D d e)
   refine⟨?_,?_⟩
   ·show bM ((gC s D d e:Nat):Int)
    unfold gC;generalize firstIx (eS s) _=z at h1;exact⟨by omega,by omega⟩
   ·show bM (byP s e (gC s D d e))
    unfold byP;generalize firstIx (nS s) _=z at h2;exact⟨by omega,by omega⟩
  ·exact Km hn hE D d _ y hy
structure WkI (s:Sys) (w w1:World) (b11 f cur:Nat) (l:List Lk) (Ds:List Nat) (V:World):Prop where
 old:Below w.heap.size w V
 fin:∀ k,w.heap.size+2<=k->k<w1.heap.size->V.heap[k]?=w1.heap[k]?
 far:V.heap[w1.heap.size]?=some (.cells (bu (cS s f)) 3)
 fbox:V.heap[b11]?=some (.cells #[.slice (some ⟨w1.heap.size,0,none⟩) (eS s) (eS s)] 38)
 ebox:V.heap[w.heap.size+1]?=some (.cells #[.int .i64 cur] 3)
 walk:∃ v,V.heap[b11+2]?=some (.cells #[v] 54)/\aG V (b11+1) 75 2 v l.length (cK l)
 marks:cM w.heap.size Ds V
theorem WkI.sta{s:Sys} {w w1:World} {b11 f cur B:Nat} {l:List Lk} {Ds:List Nat} (hB:w.heap.size<=B) (hB1:w1.heap.size<=B) (hD:∀ E∈Ds,E<B) (Mx:∀ k,w.heap.size+2<=k->k<w1.heap.size->∃ o,w1.heap[k]?=some o):cB B (WkI s w w1 b11 f cur l Ds):=fun A A' c h=>by
 obtain⟨v,h1,h2⟩:=h.walk;refine⟨c.below hB h.old.size h.old,fun k k1 k2=>?_,c.same _ _ h.far (.inr rfl),c.same _ _ h.fbox (.inr rfl),c.same _ _ h.ebox (.inr rfl),⟨v,c.same _ _ h1 (.inr rfl),h2.ck c.ck⟩,cB.marks hD A A' c h.marks⟩;obtain⟨o,ho⟩:=Mx k k1 k2;rw[ho];exact c.same _ _ ((h.fin k k1 k2).trans ho) (.inl (by omega))
def Vi(s:Sys) (B f:Nat) (full:List Lk) (w w1:World) (b11:Nat) (n:Nat) (act:Act) (W:World):Prop:=∃ (cur:Nat) (l:List Lk) (Ds:List Nat) (u0 u1 u5 u6 u7 u8 u10 u13 u14 u15 u16 u17 u18 u19 u20 u21 u22 u23 u24 u25 u26 u27 u28 u29 u30 u31 u32 u33 u34 u35 u36 u37 u38 u39 u40 u41 u42 u43 u44 u45 u46 u47 u48 u49 u50 u51 u52 u53 u54 u55 u56 u57 u58 u59 u60 u61 u62:Value),
 act={ tmps:=#[u0,u1,Value.int .i64 f,Value.pointer (some ⟨w.heap.size,0,none⟩),Value.pointer (some ⟨w.heap.size+1,0,none⟩),u5,u6,u7,u8,Value.pointer (some ⟨B,0,none⟩),u10,Value.pointer (some ⟨b11,0,none⟩),Value.pointer (some ⟨b11+2,0,none⟩),u13,u14,u15,u16,u17,u18,u19,u20,u21,u22,u23,u24,u25,u26,u27,u28,u29,u30,u31,u32,u33,u34,u35,u36,u37,u38,u39,u40,u41,u42,u43,u44,u45,u46,u47,u48,u49,u50,u51,u52,u53,u54,u55,u56,u57,u58,u59,u60,u61,u62],defers:=mH Ds }/\cur<eS s/\(cS s f).getD cur 0=n/\l++j9 s (cS s f) n cur=full/\b11+2<W.heap.size/\WkI s w w1 b11 f cur l Ds W
theorem OO(s:Sys) (hv:verifyE s=0) (hE:eS s<=256) (vc vs vt ve:Value) (e f:Nat) (he:e<eS s) (hf:f<eS s) (hD:0<=(cS s f).getD e 0) (w:World) (hs:IsSys w s vc vs vt ve) (hN:movesN s.prob.a.states<1099511627776) :
  Calls Tryz.prog 90 #[.agg (bT s.prob vc vs s.n vt ve),.int .i64 e,.int .i64 f] w fun r w'=>∃ u,r=.returned (.tuple #[u,.bool true,.int .i64 0])/\(bH w' u (⟨e,-1⟩ :: jV s e f)/\∀ k,u.ownBlock=some k->w.heap.size<=k)/\Below w.heap.size w w':=by
 have HS:=aa hs;obtain⟨⟨pc,cc,rfl⟩,⟨ps,cs,rfl⟩,⟨pt,ct,rfl⟩,⟨pe,ce,rfl⟩⟩:=bE hs;clear hs
 have HC:Hid (∀ W,Below w.heap.size w W->∀ vl,aT W vl [(e:Int),f]->_):=aa (fun W (hb:Below w.heap.size w W) vl (hl:aT W vl [(e:Int),f])=>L1 s hv _ _ _ _ vl [(e:Int),f] W (HS.out.up hb) hN hl (fun k hk=>by
  rcases k with _|_|k
  ·exact⟨by simp,by simpa using he⟩
  ·exact⟨by simp,by simpa using hf⟩
  ·simp at hk;omega))
 have dB:=aa (jc hv);have HE:=aa he;have CG:=aa hf;have HDD:=aa hD;obtain⟨i0,cU,cg,bV,cj⟩:=info_parts Tryz.infoLink;obtain⟨full,pC⟩:∃ full,(⟨e,-1⟩ :: jV s e f:List Lk)=full:=⟨_,rfl⟩;rw[pC];have Il:=aa pC;clear hv hD pC;refine fQ Tryz.func90 rfl ?_;simp only[Tryz.ntmps90,List.size_toArray,List.length_cons,List.length_nil,Nat.reduceAdd,Nat.reduceSub,Array.replicate_succ,Array.replicate_zero,List.push_toArray,List.append_toArray,List.nil_append,List.cons_append]
 go_wp2_with fail
 refine aN (fun W=>Below w.heap.size w W/\W.heap[w.heap.size+1]?=some (.cells #[.int .i64 e] 3)/\W.heap[w.heap.size+1+1]?=some (.cells (bu [(e:Int),f]) 3)) ⟨by go_grown,ap _ (bd _ _ _),dW _ _ _ _⟩ (fun W0 aV=>?_);obtain⟨aH,uJ,V8⟩:=aV;have mA:=aB V8;refine(HC.out W0 aH _ (rf (by rfl) (by decide) V8 fun i hi=>?_)).mono ?_
 ·have:i=0\/i=1:=by simp at hi;omega
  have h1:=HE.out;have h2:=CG.out;rcases this with rfl|rfl
  ·exact⟨by simp<;>omega,by simp<;>omega⟩
  ·exact⟨by simp<;>omega,by simp<;>omega⟩
 rintro r w1 ⟨B,rfl,aI,hF1,K9⟩;have Ad:=af aI uJ;have bF:=aa (ae aH aI);have kj:=aa Ad;have gp:=aa (K9.mono (show w.heap.size+2<=W0.heap.size by omega));have fP:w.heap.size+1<w1.heap.size:=by have:=aI.size;omega
 clear aH uJ V8 aI hF1 K9 Ad mA HC W0
 go_wp2_with fail
 refine(ON s dB.out hE B f CG.out _ w1 gp.out).mono ?_;rintro r w2 ⟨rfl,MX,aU⟩;have dM:=af aU kj.out;have tx2:∀ o,(w2.alloc o).cell? ⟨w.heap.size+1,0,none⟩=some (.int .i64 e):=fun o=>(ab (ap o dM) 0).trans rfl
 have tfe:∀ o,(w2.alloc o).cell? ⟨w1.heap.size,e,none⟩=some (.int .i64 ((cS s f).getD e 0)):=fun o=>(ab (ap o MX) e).trans (fX _ _ (by rw[vG];exact he))
 obtain⟨n0,oA⟩:∃ n0:Nat,(cS s f).getD e 0=n0:=⟨((cS s f).getD e 0).toNat,by have:=HDD.out;omega⟩;rw[oA]at tfe;have PW:=aa oA;obtain⟨m,hm⟩:∃ m,eS s=m:=⟨_,rfl⟩;have HM:=aa hm;have cL:=aa aU;have HFAR:=aa MX;have fF:=aa dM;have iI:w1.heap.size<w2.heap.size:=aB MX;rw[hm]at hE he hf ⊢;clear aU MX dM oA hm;have pC:=Il.out
 have Nd:Hid (full.length<=257/\∀ y∈full,bM y.x/\bM y.p):=aa (by
  have h1:=(xx (s:=s) CG.out n0 e HE.out PW.out).2.2;have h2:=Dk (s:=s) CG.out e HE.out;have h3:=PW.out;have h4:=HM.out;rw[<-pC];unfold jV;rw[h3,Int.toNat_natCast];refine⟨by simp only[List.length_cons,h1];omega,fun y hy=>?_⟩;rcases List.mem_cons.1 hy with rfl|hy
  ·exact⟨⟨by dsimp only;omega,by dsimp only;omega⟩,⟨by dsimp only;omega,by dsimp only;omega⟩⟩
  ·exact Km dB.out.n.2.1 (by omega) _ _ _ y hy)
 have HFULL:Hid ([(⟨e,-1⟩:Lk)]++j9 s (cS s f) n0 e=full):=aa (by rw[<-pC];unfold jV;rw[PW.out,Int.toNat_natCast];rfl);clear pC
 go_wp2_with fail
 have A5:Hid (∀ (cur:Nat) (l:List Lk) (Ds:List Nat) (B0:Nat),w1.heap.size<=B0->(∀ E∈Ds,E<B0)->cB B0 (WkI s w w1 w2.heap.size f cur l Ds)):=aa (fun cur l Ds B0 h1 h2=>WkI.sta (by omega) h1 h2 fun k _ hk=>⟨w1.heap[k],by rw[Array.getElem?_eq_getElem hk]⟩)
 have iz:Hid (WkI s w w1 w2.heap.size f e [⟨e,-1⟩] [] (((w2.alloc (Obj.cells #[Value.slice (some { block:=w1.heap.size,off:=0 }) m m] 38)).alloc (Obj.cells #[Value.int .i64 e,Value.int .i64 (-1)] 75)).alloc (Obj.cells #[Value.slice (some { block:=w2.heap.size+1,off:=0 }) 1 1] 54))):=aa (by
  have hg:Below w2.heap.size w2 (((w2.alloc (Obj.cells #[Value.slice (some { block:=w1.heap.size,off:=0 }) m m] 38)).alloc (Obj.cells #[Value.int .i64 e,Value.int .i64 (-1)] 75)).alloc (Obj.cells #[Value.slice (some { block:=w2.heap.size+1,off:=0 }) 1 1] 54)):=by go_grown
  refine⟨ae bF.out (ae cL.out hg),fun k _ hk=>?_,af hg HFAR.out,?_,af hg fF.out,⟨_,dW _ _ _ _,?_⟩,cM.nil _ _⟩
  ·rw[hg.block k (by omega),cL.out.block k hk]
  ·rw[HM.out];exact ap _ (ap _ (am _ _))
  ·exact⟨rfl,.inr ⟨w2.heap.size+1,1,_,(0,0),rfl,Nat.le_refl _,ap _ (bd _ _ _),fun i _ h=>by have:=h.2;simp at this,Nat.le_refl _,by unfold maxLen;omega,rfl,rfl⟩⟩)
 refine AZ (fun n act W=>Vi s B f full w w1 w2.heap.size n act W) n0 ?start ?round
 case start=>exact⟨e,[⟨e,-1⟩],[],_,_,_,_,_,_,_,_,_,_,_,_,_,_,_,_,_,_,_,_,_,_,_,_,_,_,_,_,_,_,_,_,_,_,_,_,_,_,_,_,_,_,_,_,_,_,_,_,_,_,_,_,_,_,_,_,_,rfl,HE.out,PW.out,HFULL.out,by simp,iz.out⟩
 case round=>
  clear iz PW HFULL tx2 tfe fF HFAR kj;generalize w2.heap.size=b11 at iI A5 cL;rintro n act W ⟨cur,l,Ds,u0,u1,u5,u6,u7,u8,u10,u13,u14,u15,u16,u17,u18,u19,u20,u21,u22,u23,u24,u25,u26,u27,u28,u29,u30,u31,u32,u33,u34,u35,u36,u37,u38,u39,u40,u41,u42,u43,u44,u45,u46,u47,u48,u49,u50,u51,u52,u53,u54,u55,u56,u57,u58,u59,u60,u61,u62,rfl,bP,hcd,pC,cQ,hI⟩;obtain⟨v,jI,aX⟩:=hI.walk;obtain⟨av,cv,rfl⟩:=aX.slice;have te:=ab hI.ebox 0;have tw:=ab jI 0;simp at te tw;have HI:=aa hI;have nV:=aa jI;have bI:=aa aX;have IC:=aa hcd;have Ap:=aa pC;have ki:=aa bP;clear hI jI aX hcd pC;by_cases Qa:cur=f
  ·have bJ:((cur:Int) != (f:Int))=false:=by simp[Qa]
   have HL:Hid (l=full):=aa (by
    have h0:=(kP (s:=s) (f:=f) CG.out).zero;have h1:=IC.out;rw[Qa]at h1;have h2:n=0:=by omega
    have h3:=Ap.out;rw[h2]at h3
    simpa[j9] using h3)
   clear Qa
   go_wp2_with fail
   refine qS HI.out.marks (v:=.tuple #[.slice av l.length cv,.bool true,.int .i64 0]) ?_ ⟨_,rfl,?_,l7 (fun D hD=>(HI.out.marks.2 D hD).1) (Nat.le_refl _) HI.out.old⟩
   ·simp[results,Tryz.results90,go_sem]
   ·rw[HL.out]at bI ⊢
    exact⟨sC (bI.out.ck (qR HI.out.marks)) Nd.out.2 (by have:=Nd.out.1;omega),fun k hk=>by have:=(bI.out.lt k hk).1;omega⟩
  ·have bJ:((cur:Int) != (f:Int))=true:=by simp;omega
   obtain⟨d,hd⟩:∃ d,n=d+1:=by
    refine⟨n - 1,?_⟩;rcases Nat.eq_zero_or_pos n with h0|h0
    ·exact absurd ((kP (s:=s) (f:=f) CG.out).only cur bP (by rw[IC.out,h0];rfl)) Qa
    ·omega
   have Fa:=aa hd;clear Qa hd
   go_wp2_with fail
   refine(uF B cur W).mono ?_;rintro r w3 ⟨rfl,rfl⟩;clear te tw
   go_wp2_with fail
   have lB:∀ E∈Ds,E<W.heap.size:=HI.out.marks.lt;refine bm (fun V=>WkI s w w1 b11 f cur l Ds V/\V.heap[W.heap.size]?=some (.cells #[.pointer (some ⟨B,0,none⟩)] 196)/\V.heap[W.heap.size+1]?=some (.cells #[.int .i64 cur] 3)/\W.heap.size+1<V.heap.size) ⟨A5.out cur l Ds W.heap.size (by omega) lB _ _ (Chg.of_below (by go_grown)) HI.out,ap _ (am _ _),bd _ _ _,by simp⟩ (fun W1 cD=>?_);obtain⟨wT,Ad,Ik,VE⟩:=cD;have cY:=sA s dB.out B cur W.heap.size (W.heap.size+1) ki.out (w.heap.size+2) w1 gp.out W1 (fun k h1 h2=>wT.fin k h1 h2) (by omega) (by simp[ab Ad]) (by simp[ab Ik]);have ge:Hid (∀ i,i<(dL s cur).length->(cS s f).getD ((dL s cur).getD i 0) 0=d->(∀ j,j<i->(cS s f).getD ((dL s cur).getD j 0) 0≠d)->gC s (cS s f) d cur=(dL s cur).getD i 0):=aa (fun i h1 h2 h3=>UF h1 h2 h3 (by have:=IC.out;have:=Fa.out;omega))
   refine mj (gf:=179) (lb:=#[.pointer (some ⟨W.heap.size,0,none⟩),.pointer (some ⟨W.heap.size+1,0,none⟩)]) rfl (enters_of Tryz.func179 (by kernel_rfl) rfl) cY (Below.refl _ _) (fun k hk=>by rcases hk with hk|rfl|rfl<;>omega) (fun i=>rfl)
    (fun i V=>(WkI s w w1 b11 f cur l Ds V/\V.heap[W.heap.size]?=some (.cells #[.pointer (some ⟨B,0,none⟩)] 196)/\V.heap[W.heap.size+1]?=some (.cells #[.int .i64 cur] 3))/\∀ j,j<i->(cS s f).getD ((dL s cur).getD j 0) 0≠d)
    (fun c i V=>c=.exit 2/\WkI s w w1 b11 f (gC s (cS s f) d cur) (l++[⟨gC s (cS s f) d cur,byP s cur (gC s (cS s f) d cur)⟩]) Ds V)
    (fun i=>((A5.out cur l Ds _ (by omega) (fun E hE=>by have:=lB E hE;omega)).and (cB.cells.and cB.cells)).and cB.pure) (fun c i=>cB.pure.and (A5.out _ _ Ds _ (by omega) (fun E hE=>by have:=lB E hE;omega))) ⟨⟨wT,Ad,Ik⟩,fun j hj=>by omega⟩ ?rnd ?done ?stop
   case done=>
    intro D' V hD iw hK;exact(UG CG.out ki.out (by rw[IC.out,Fa.out];rfl) iw.2).elim
   case stop=>
    rintro D' c i V hD hi ⟨rfl,iw⟩ hK
    have HG:Hid (∀ act:Act,(∃ (u0 u1 u5 u6 u7 u8 u10 u13 u14 u15 u16 u17 u18 u19 u20 u21 u22 u23 u24 u25 u26 u27 u28 u29 u30 u31 u32 u33 u34 u35 u36 u37 u38 u39 u40 u41 u42 u43 u44 u45 u46 u47 u48 u49 u50 u51 u52 u53 u54 u55 u56 u57 u58 u59 u60 u61 u62:Value),act={ tmps:=#[u0,u1,Value.int .i64 f,Value.pointer (some ⟨w.heap.size,0,none⟩),Value.pointer (some ⟨w.heap.size+1,0,none⟩),u5,u6,u7,u8,Value.pointer (some ⟨B,0,none⟩),u10,Value.pointer (some ⟨b11,0,none⟩),Value.pointer (some ⟨b11+2,0,none⟩),u13,u14,u15,u16,u17,u18,u19,u20,u21,u22,u23,u24,u25,u26,u27,u28,u29,u30,u31,u32,u33,u34,u35,u36,u37,u38,u39,u40,u41,u42,u43,u44,u45,u46,u47,u48,u49,u50,u51,u52,u53,u54,u55,u56,u57,u58,u59,u60,u61,u62],defers:=mH (D' :: Ds) })->∃ m,m<n/\Vi s B f full w w1 b11 m act V):=aa (by
     rintro act ⟨u0,u1,u5,u6,u7,u8,u10,u13,u14,u15,u16,u17,u18,u19,u20,u21,u22,u23,u24,u25,u26,u27,u28,u29,u30,u31,u32,u33,u34,u35,u36,u37,u38,u39,u40,u41,u42,u43,u44,u45,u46,u47,u48,u49,u50,u51,u52,u53,u54,u55,u56,u57,u58,u59,u60,u61,u62,ha⟩;have h1:=Fa.out;have h2:=AO (s:=s) CG.out ki.out (d:=d) (by rw[IC.out,h1];rfl);obtain⟨v5,k1,_⟩:=iw.walk;refine⟨d,by omega,_,_,D' :: Ds,_,_,_,_,_,_,_,_,_,_,_,_,_,_,_,_,_,_,_,_,_,_,_,_,_,_,_,_,_,_,_,_,_,_,_,_,_,_,_,_,_,_,_,_,_,_,_,_,_,_,_,_,_,_,_,_,_,ha,h2.1,h2.2.1,?_,aB k1,{ iw with marks:=cM.cons iw.marks (by omega) hK fun E hE=>by have:=lB E hE;omega }⟩;have h3:=Ap.out;rw[h1]at h3;rw[<-h3,List.append_assoc]
     rfl)
    clear iw hK cY wT Ad Ik
    go_wp2_with fail
    exact HG.out _ ⟨_,_,_,_,_,_,_,_,_,_,_,_,_,_,_,_,_,_,_,_,_,_,_,_,_,_,_,_,_,_,_,_,_,_,_,_,_,_,_,_,_,_,_,_,_,_,_,_,_,_,_,_,_,_,_,_,_,rfl⟩
   case rnd=>
    intro yl i V hi hl iw;obtain⟨iw,jl⟩:=iw;unfold Hj;obtain⟨nb,iy⟩:∃ nb,(dL s cur).getD i 0=nb:=⟨_,rfl⟩
    have mx:nb<eS s:=by
     rw[<-iy,az 0 hi];exact(qW.1 (List.getElem_mem hi)).1
    have HNXT:=aa (fun h=>ge.out i hi h jl);have fy:Hid ((cS s f).getD nb 0≠d->∀ j,j<i+1->(cS s f).getD ((dL s cur).getD j 0) 0≠d):=aa (fun h=>aS jl (by rw[iy];exact h));rw[iy]at HNXT ⊢;have nY:=aa iw;obtain⟨pv,WM⟩:∃ pv,byP s cur nb=pv:=⟨_,rfl⟩;rw[WM];have IW:=aa WM;clear iw cY iy jl WM wT Ad Ik
    gi_wp2
    refine⟨Bod.refl _ _ _,fun V=>WkI s w w1 b11 f cur l Ds V/\V.heap[W.heap.size]?=some (.cells #[.pointer (some ⟨B,0,none⟩)] 196)/\V.heap[W.heap.size+1]?=some (.cells #[.int .i64 cur] 3),(A5.out cur l Ds _ (by omega) (fun E hE=>by have:=lB E hE;omega)).and (cB.cells.and cB.cells),nY.out,fun V2 h2 jm=>?_⟩;obtain⟨rlp,jm⟩:=jm;have Iu:=aB jm;clear jm rlp;obtain⟨h2,dM,iv⟩:=h2;obtain⟨v2,k1,k2⟩:=h2.walk;obtain⟨av2,cv2,rfl⟩:=k2.slice;have cV:=aa h2;have S':=aa k1;have Cz:=aa k2;have fF:=aa dM;have uX:=aa iv;have tf:=ab h2.fbox 0;have te:=ab h2.ebox 0;have tn:=ab h2.far nb;have tc:=ab h2.far cur;rw[fX _ _ (by rw[vG];exact mx)]at tn;rw[fX _ _ (by rw[vG];exact bP),IC.out]at tc;simp at tf te;rw[HM.out]at tf;have yf:∀ z:ExtW V2,z.val.cell? ⟨b11,0,none⟩=_:=fun z=>z.cell tf
    have ye:∀ z:ExtW V2,z.val.cell? ⟨w.heap.size+1,0,none⟩=_:=fun z=>z.cell te
    have js:IntKind.i64.wrap ((n:Int) - 1)=(d:Int):=by have:=Fa.out;have:=Nd.out.1;have h5:=congrArg List.length Ap.out;rw[IntWalk.i64_in _ (by have h6:=Dk (s:=s) CG.out cur bP;have:=IC.out;have:=HM.out;omega)];omega
    have hnm:nb<m:=by have:=HM.out;omega
    have p7:cur<m:=by have:=HM.out;omega
    clear h2 k1 k2 dM iv;by_cases KM:(cS s f).getD nb 0=d
    ·have gJ:=aa (HNXT.out KM)
     rw[KM]at tn;have yn:∀ z:ExtW V2,z.val.cell? ⟨w1.heap.size,nb,none⟩=_:=fun z=>z.cell tn
     have yc:∀ z:ExtW V2,z.val.cell? ⟨w1.heap.size,cur,none⟩=_:=fun z=>z.cell tc
     clear KM tn tc tf te
     gi_wp2
     refine pH (fun ⟨_,_,h⟩=>h) (by kernel_rfl) (by kernel_rfl) (by kernel_rfl) ?_
     repeat (go_big_quiet_step (fail))
     refine wpQuiet_nil ?_;rintro _ ⟨xq,rfl⟩;have nL:=xq.ext;generalize xq.val=V3 at nL ⊢;clear yf ye yn yc;have IM:=aa nL;have h3:=A5.out cur l Ds W1.heap.size (by omega) (fun E hE=>by have:=lB E hE;omega) _ _ (Chg.of_below nL) cV.out;have k1:=af nL S'.out;have k2:=Cz.out.ck (.of_below nL);have H6:=nL.size;have tw:=ab k1 0;simp at tw;have rz:=aa h3;have nX:=aa k1;have da:=aa (k2.up ((Below.refl _ V3).alloc (Nat.le_refl _) (.cells #[.int .i64 nb,.int .i64 pv] 75)));have bz:=aa (dF V3 [.int .i64 nb,.int .i64 pv] 75);have kJ:Hid (l.length+1<=300):=aa (by have h5:=congrArg List.length Ap.out;have:=Nd.out.1;simp only[List.length_append]at h5;omega);have jN:Hid (l.length+1<=maxLen):=aa (by have:=kJ.out;unfold maxLen;omega);have eJ:Hid ((l.length+1) * 16<=140737488355328):=aa (by have:=kJ.out;omega);have gq:Hid (b11+1<=(V3.alloc (.cells #[.int .i64 nb,.int .i64 pv] 75)).heap.size):=aa (by simp;omega);have hne1:¬ (b11+2=w.heap.size+1):=by omega
     clear nL h3 k1 k2
     go_wp2_with fail
     gi_wp2_with (gi_at_builtin;(refine qn _ rfl (.tmp 55) (.tmp 59) 54 rfl (b11+1) 75 i0 _ 2 16 Tryz.underlying54 cU cg bV cj rfl (by decide) _ l.length _ rfl da.out ⟨V3.heap.size,0,none⟩ 1 1 [.int .i64 nb,.int .i64 pv] rfl rfl bz.out (by simp[Value.oneCell']) jN.out eJ.out gq.out ?_;intro v4 w4 mh eN _;obtain⟨av4,cv4,rfl⟩:=mh.slice;have uZ:=gU da.out eN nX.out (by decide);have TI:=gU da.out eN rz.out.ebox (by decide);have c4:=ab uZ 0;have f4:=aE uZ 0;have c5:=ab TI 0;have f5:=aE TI 0;simp at c4 c5))
     have Aa:=eN.size;simp only[World.size_alloc]at Aa;have Pi:∀ k,k<V3.heap.size->(∀ g,(Value.slice av2 l.length cv2).ownBlock=some g->k≠g)->w4.heap[k]?=V3.heap[k]?:=fun k h1 h2=>(eN.block k (by simp;omega) (fun e=>h2 k e.symm rfl)).trans (Below.heap_alloc V3 _ k h1)
     have sG:∀ (k:Nat) (o:Obj),V3.heap[k]?=some o->o.isCells=false->((w4.setCell ⟨b11+2,0,none⟩ (.slice av4 (l.length+1) cv4)).setCell ⟨w.heap.size+1,0,none⟩ (.int .i64 nb)).heap[k]?=some o:=fun k o ho hc=>by
      have n1:k≠w.heap.size+1:=fun e=>by subst e;rw[rz.out.ebox]at ho;cases ho;cases hc
      have n2:k≠b11+2:=fun e=>by subst e;rw[nX.out]at ho;cases ho;cases hc
      rw[Below.heap_setCell _ _ _ _ n1,Below.heap_setCell _ _ _ _ n2];exact mI da.out eN ho hc
     have TS:∀ (k:Nat) (c:Array Value) (ty:TypeId) (fz:Nat × Nat),V3.heap[k]?=some (.cells c ty fz)->75≠ty->k≠w.heap.size+1->k≠b11+2->((w4.setCell ⟨b11+2,0,none⟩ (.slice av4 (l.length+1) cv4)).setCell ⟨w.heap.size+1,0,none⟩ (.int .i64 nb)).heap[k]?=some (.cells c ty fz):=fun k c ty fz h1 h2 h3 h4=>by
      rw[Below.heap_setCell _ _ _ _ h3,Below.heap_setCell _ _ _ _ h4];exact gU da.out eN h1 h2
     have wH:=af IM.out fF.out;have hy3:=af IM.out uX.out;refine⟨⟨by simp;have:=IM.out.size;omega,fun k hk=>?_,fun k o _ ho hc=>sG k o (af IM.out ho) hc⟩,rfl,?_⟩
     ·rcases hk with hk|rfl|rfl
      ·have h1:=w1.heap[k]
       have h2:V2.heap[k]?=some w1.heap[k]:=(cV.out.fin k hk.1 hk.2).trans (by rw[Array.getElem?_eq_getElem hk.2]);rw[h2,Below.heap_setCell _ _ _ _ (by dsimp only;omega),Below.heap_setCell _ _ _ _ (by dsimp only;omega)];exact sh da.out eN (af IM.out h2) (by omega)
      ·rw[fF.out];exact TS _ _ _ _ wH (by decide) (by omega) (by omega)
      ·rw[uX.out];exact TS _ _ _ _ hy3 (by decide) (by omega) (by omega)
     ·rw[gJ.out,IW.out]
      refine⟨((ez rz.out.old (by omega) da.out eN).setCell (by dsimp only;omega) _).setCell (by dsimp only;omega) _,fun k h1 h2=>?_,?_,?_,?_,⟨_,aJ (aF uZ _ _) (by omega) _ _,?_⟩,rz.out.marks.keep sG⟩
      ·have h3:V3.heap[k]?=some w1.heap[k]:=(rz.out.fin k h1 h2).trans (by rw[Array.getElem?_eq_getElem h2])
       rw[Array.getElem?_eq_getElem h2,Below.heap_setCell _ _ _ _ (by dsimp only;omega),Below.heap_setCell _ _ _ _ (by dsimp only;omega)];exact sh da.out eN h3 (by omega)
      ·exact TS _ _ _ _ rz.out.far (by decide) (by omega) (by omega)
      ·exact TS _ _ _ _ rz.out.fbox (by decide) (by omega) (by omega)
      ·exact aF (aJ TI (by omega) _ _) _ _
      ·have e1:(l++[(⟨nb,pv⟩:Lk)]).length=l.length+1:=by simp
       have e2:cK (l++[(⟨nb,pv⟩:Lk)])=cK l++[Value.int .i64 nb,Value.int .i64 pv]:=by rw[ni];rfl
       rw[e1,e2];have o5:=mh.put (mh.ne uZ (by decide)) 0 (Value.slice av4 (l.length+1) cv4);exact o5.put (o5.ne (aJ TI (by omega) 0 (Value.slice av4 (l.length+1) cv4)) (by decide)) _ _
    ·have Sv:=aa (fy.out KM)
     have hdne:((cS s f).getD nb 0 == (d:Int))=false:=beq_eq_false_iff_ne.2 KM;generalize (cS s f).getD nb 0=dn at tn hdne;have yn:∀ z:ExtW V2,z.val.cell? ⟨w1.heap.size,nb,none⟩=_:=fun z=>z.cell tn
     have yc:∀ z:ExtW V2,z.val.cell? ⟨w1.heap.size,cur,none⟩=_:=fun z=>z.cell tc
     clear KM tn tc tf te
     gi_wp2
     refine pH (fun ⟨_,_,h⟩=>h) (by kernel_rfl) (by kernel_rfl) (by kernel_rfl) ?_
     repeat (go_big_quiet_step (fail))
     refine wpQuiet_nil ?_;rintro _ ⟨xq,rfl⟩;have nL:=xq.ext;generalize xq.val=V3 at nL ⊢;clear yf ye yn yc hdne
     gi_wp2
     exact⟨Bod.of_below (fun k hk=>by rcases hk with hk|rfl|rfl<;>omega) nL,⟨A5.out cur l Ds W1.heap.size (by omega) (fun E hE=>by have:=lB E hE;omega) _ _ (Chg.of_below nL) cV.out,af nL fF.out,af nL uX.out⟩,Sv.out⟩
theorem UH(d:Nat) (a b:Lk) (w:World):(Op.equalIn (d+2) 75 a.v b.v).run Tryz.prog w=.ok (decide (a=b)) w:=by
 have hS:Tryz.prog.underlying 75=some (.struct (Tryz.prog.fieldsOf 75)):=by kernel_rfl
 have hp:Tryz.prog.stoodInHeld 75=false:=by kernel_rfl
 rw[run_equalIn_struct w (d+1) 75 _ _ hS hp];have ag:=Tryz.isAgg3;have u3:=Tryz.underlying3;simp only[Program.fieldsOf,Tryz.underlying75];simp[Op.eqFields,part,ag,run_equalIn_int w d 3 _ .i64 _ _ u3];obtain⟨n,k⟩:=a;obtain⟨m,l⟩:=b;by_cases hn:n=m
 case neg=>simp[hn]
 by_cases hk:k=l<;>simp[hn,hk]
theorem Vj(a b:Lk) (w:World):(binOp .neq 75 a.v b.v).run Tryz.prog w=.ok (.bool (!decide (a=b))) w:=by
 rw[run_neq_struct,UH 9998];rfl
theorem L8(va vb:Value) (a b:List Lk) (w:World) (ha:bH w va a) (hb:bH w vb b) :
  Calls Tryz.prog 53 #[va,vb] w fun e w'=>e=.returned (.bool (decide (a=b)))/\Below w.heap.size w w':=by
 obtain⟨pa,ca,rfl,la1,la2,ea⟩:=ha.at;obtain⟨pb,cb,rfl,lb1,lb2,eb⟩:=hb.at;have EA:=aa ea;have EB:=aa eb;have gQ:Hid (a.length=b.length->(∀ j,j<a.length->a.getD j default=b.getD j default)->decide (a=b)=true):=aa fun h1 h2=>decide_eq_true (eW default h1 h2)
 have gJ:Hid (a.length≠b.length->decide (a=b)=false):=aa fun h=>decide_eq_false fun e=>h (by rw[e])
 have og:Hid (∀ j,j<a.length->a.getD j default≠b.getD j default->decide (a=b)=false):=aa fun j _ h=>decide_eq_false fun e=>h (by rw[e])
 generalize decide (a=b)=r at gQ gJ og ⊢;clear ha hb ea eb
 go_enter Tryz.func53,Tryz.ntmps53
 by_cases hl:a.length=b.length
 case neg=>
  have hd:(((a.length:Nat):Int) != ((b.length:Nat):Int))=true:=by simp;omega
  have HR:=aa (gJ.out hl);clear hl
  go_wp2_with fail
  go_ret
  exact⟨aO (by rw[HR.out]),Below.refl _ _⟩
 have HL:=aa hl;obtain⟨n,hn⟩:∃ n,a.length=n:=⟨_,rfl⟩;have iy:b.length=n:=by omega
 have HN:=aa hn;have An:=aa iy;rw[hn]at la1 la2 ⊢;rw[iy]at lb1 lb2 ⊢;clear hl hn iy;have hd:((n:Int) != (n:Int))=false:=by simp
 go_wp2_with fail
 go_loopw [5] (fun i wr=>∃ k:Nat,k<=n/\i=.int .i64 k/\Below w.heap.size w wr/\∀ j,j<k->a.getD j default=b.getD j default) (fun i _=>n - (intOf i).toNat)
 case atStart=>exact⟨0,by omega,rfl,Below.refl _ _,fun j hj=>by omega⟩
 case round=>
  obtain⟨k,hk,rfl,ar,aR⟩:=hrel;have H:=aa aR;have aP:=aa ar;clear aR;by_cases aA:k<n
  ·obtain⟨b1,o1,rfl,h1⟩:=EA.out k (by rw[HN.out];exact aA)
   obtain⟨b2,o2,rfl,h2⟩:=EB.out k (by rw[An.out];exact aA);have p9:=aa (az (default:Lk) (show k<a.length by rw[HN.out];exact aA));have rp:=aa (az (default:Lk) (show k<b.length by rw[An.out];exact aA));generalize a[k]'(by rw[HN.out];exact aA)=x at h1 p9;generalize b[k]'(by rw[An.out];exact aA)=y at h2 rp;have c0:∀ z:ExtW wr,z.val.cell? ⟨b1,o1+k * 2,none⟩=_:=fun z=>z.cell (ak ar h1.1.1)
   have c1:∀ z:ExtW wr,z.val.cell? ⟨b1,o1+k * 2+1,none⟩=_:=fun z=>z.cell (ak ar h1.2.1)
   have d0:∀ z:ExtW wr,z.val.cell? ⟨b2,o2+k * 2,none⟩=_:=fun z=>z.cell (ak ar h2.1.1)
   have d1:∀ z:ExtW wr,z.val.cell? ⟨b2,o2+k * 2+1,none⟩=_:=fun z=>z.cell (ak ar h2.2.1)
   have jK:=fun w=>Vj x y w
   clear h1 h2 ar;cases bY:decide (x=y) with
   | true=>
    have nT:=aa (of_decide_eq_true bY);rw[bY]at jK;clear bY
    go_wp2_with fail
    refine aC (by kernel_rfl) (by kernel_rfl) ?_
    repeat (go_big_quiet_step (fail))
    refine wpQuiet_nil ?_;rintro _ ⟨xq,rfl⟩;clear c0 c1 d0 d1 jK
    go_wp2_with fail
    go_roundw
    case rel=>exact⟨k+1,by omega,by go_num,ae aP.out xq.ext,aS (p:=fun j=>a.getD j default=b.getD j default) H.out (by rw[p9.out,rp.out];exact nT.out)⟩
    case measure=>simp[intOf];omega
   | false=>
    have HR:=aa (og.out k (by rw[HN.out];exact aA) (by rw[p9.out,rp.out];exact of_decide_eq_false bY));rw[bY]at jK;clear bY
    go_wp2_with fail
    refine aC (by kernel_rfl) (by kernel_rfl) ?_
    repeat (go_big_quiet_step (fail))
    refine wpQuiet_nil ?_;rintro _ ⟨xq,rfl⟩;clear c0 c1 d0 d1 jK
    go_wp2_with fail
    go_ret
    exact⟨aO (by rw[HR.out]),ae aP.out xq.ext⟩
  ·obtain rfl:k=n:=by omega
   have HR:=aa (gQ.out HL.out fun j hj=>H.out j (by have:=HN.out;omega))
   go_wp2_with fail
   go_ret
   exact⟨aO (by rw[HR.out]),aP.out⟩
theorem L9(v:Value) (l:List Int) (w:World) (hv:aT w v l) :
  Calls Tryz.prog 131 #[v] w fun e w'=>e=.returned (.bool (constB l))/\Below w.heap.size w w':=by
 obtain⟨pl,cl,rfl,el⟩:=dO hv;obtain⟨_,_,_,_,cG,_⟩:=hv.at;have EL:=aa el;have uN:Hid (constB l=!(anyLt l.length fun i=>decide (l.getD i 0≠l.getD 0 0))):=aa rfl;have fy:Hid (∀ k,k<l.length->l.getD k 0≠l.getD 0 0->constB l=false):=aa fun k hk h=>by rw[uN.out,Qu hk (decide_eq_true h)];rfl
 have jp:Hid ((∀ k,k<l.length->l.getD k 0=l.getD 0 0)->constB l=true):=aa fun h=>by rw[uN.out,eG _ _ fun k hk=>decide_eq_false (fun h'=>h' (h k hk))];rfl
 generalize constB l=r at fy jp ⊢;obtain⟨x0,cN⟩:∃ x0,l.getD 0 0=x0:=⟨_,rfl⟩;have xX:=aa cN;rw[cN]at fy jp;clear cN;obtain⟨n,hn⟩:∃ n,l.length=n:=⟨_,rfl⟩;rw[hn]at EL fy jp cG ⊢;clear hv el uN hn
 go_enter Tryz.func131,Tryz.ntmps131
 go_wp2_with fail
 go_loopw [3] (fun i wr=>∃ k:Nat,k<=n/\i=.int .i64 k/\Below w.heap.size w wr/\∀ j,j<k->l.getD j 0=x0) (fun i _=>n - (intOf i).toNat)
 case atStart=>exact⟨0,by omega,rfl,Below.refl _ _,fun j hj=>by omega⟩
 case round=>
  obtain⟨k,hk,rfl,ar,aR⟩:=hrel;have H:=aa aR;have aP:=aa ar;clear aR;by_cases aA:k<n
  ·obtain⟨b1,o1,rfl,c1⟩:=EL.out k aA
   obtain⟨b2,o2,e2,c2⟩:=EL.out 0 (by omega);injection e2 with e2
   injection e2 with e2 e3
   subst e2 e3;rw[xX.out]at c2;have pY:=aa (fy.out k aA);have HB:=aa (fun h:l.getD k 0=x0=>aS (p:=fun j=>l.getD j 0=x0) H.out h);have y1:∀ z:ExtW wr,z.val.cell? ⟨b1,o1+k,none⟩=_:=fun z=>z.cell (ak ar c1)
   have y2:∀ z:ExtW wr,z.val.cell? ⟨b1,o1,none⟩=_:=fun z=>z.cell (ak ar c2)
   by_cases bY:l.getD k 0=x0
   ·have CL:=aa (HB.out bY)
    have hd:(l.getD k 0 != x0)=false:=by rw[bY];simp
    clear HB pY bY ar c1 c2;generalize l.getD k 0=xk at y1 hd
    go_wp2_with fail
    refine aC (by kernel_rfl) (by kernel_rfl) ?_
    repeat (go_big_quiet_step (fail))
    refine wpQuiet_nil ?_;rintro _ ⟨xq,rfl⟩;clear y1 y2
    go_wp2_with fail
    go_roundw
    case rel=>exact⟨k+1,by omega,by go_num,ae aP.out xq.ext,CL.out⟩
    case measure=>simp[intOf];omega
   ·have HR:=aa (pY.out bY)
    have hd:(l.getD k 0 != x0)=true:=by simpa using bY
    clear HB pY bY ar c1 c2;generalize l.getD k 0=xk at y1 hd
    go_wp2_with fail
    refine aC (by kernel_rfl) (by kernel_rfl) ?_
    repeat (go_big_quiet_step (fail))
    refine wpQuiet_nil ?_;rintro _ ⟨xq,rfl⟩;clear y1 y2
    go_wp2_with fail
    go_ret
    exact⟨aO (by rw[HR.out]),ae aP.out xq.ext⟩
  ·obtain rfl:k=n:=by omega
   have HR:=aa (jp.out fun j hj=>H.out j hj)
   go_wp2_with fail
   go_ret
   exact⟨aO (by rw[HR.out]),aP.out⟩
theorem L'(na nb:Int) (va vb:Value) (a b:List Vw) (w:World) (ha:mD w va a) (hb:mD w vb b) :
  Calls Tryz.prog 149 #[.agg #[.int .i64 na,va],.agg #[.int .i64 nb,vb]] w fun e w'=>e=.returned (.bool (decide (na=nb/\a=b)))/\Below w.heap.size w w':=by
 obtain⟨pa,ca,rfl,la1,la2,ea⟩:=ha.at;obtain⟨pb,cb,rfl,lb1,lb2,eb⟩:=hb.at;have EA:=aa ea;have EB:=aa eb;have mV:Hid (na≠nb->decide (na=nb/\a=b)=false):=aa fun h=>decide_eq_false fun e=>h e.1
 have gQ:Hid (na=nb->a.length=b.length->(∀ j,j<a.length->a.getD j default=b.getD j default)->decide (na=nb/\a=b)=true):=aa fun h0 h1 h2=>decide_eq_true ⟨h0,eW default h1 h2⟩
 have gJ:Hid (a.length≠b.length->decide (na=nb/\a=b)=false):=aa fun h=>decide_eq_false fun e=>h (by rw[e.2])
 have og:Hid (∀ j,j<a.length->a.getD j default≠b.getD j default->decide (na=nb/\a=b)=false):=aa fun j _ h=>decide_eq_false fun e=>h (by rw[e.2])
 generalize decide (na=nb/\a=b)=r at mV gQ gJ og ⊢;clear ha hb ea eb
 go_enter Tryz.func149,Tryz.ntmps149
 by_cases fg:na=nb
 case neg=>
  have hd:(na != nb)=true:=by simpa using fg
  have HR:=aa (mV.out fg);clear fg
  go_wp2_with fail
  go_ret
  exact⟨aO (by rw[HR.out]),by go_grown⟩
 have gQ:=aa (gQ.out fg);subst fg;by_cases hl:a.length=b.length
 case neg=>
  have hd:(((a.length:Nat):Int) != ((b.length:Nat):Int))=true:=by simp;omega
  have HR:=aa (gJ.out hl);clear hl
  go_wp2_with fail
  go_ret
  exact⟨aO (by rw[HR.out]),by go_grown⟩
 have HL:=aa hl;obtain⟨n,hn⟩:∃ n,a.length=n:=⟨_,rfl⟩;have iy:b.length=n:=by omega
 have HN:=aa hn;have An:=aa iy;rw[hn]at la1 la2 ⊢;rw[iy]at lb1 lb2 ⊢;clear hl hn iy;have hd:((n:Int) != (n:Int))=false:=by simp
 go_wp2_with fail
 refine bm (fun W=>Below w.heap.size w W/\W.heap[w.heap.size]?=some (.cells #[.int .i64 na,.slice pa n ca] 32)/\W.heap[w.heap.size+1]?=some (.cells #[.int .i64 na,.slice pb n cb] 32)) ⟨by go_grown,ap _ (am _ _),by have h:=am (w.alloc (.cells #[.int .i64 na,.slice pa n ca] 32)) (.cells #[.int .i64 na,.slice pb n cb] 32);simpa using h⟩ (fun W0 aV=>?_);obtain⟨aH,bB,mL⟩:=aV;have fj:=aa aH;have kV:=aa bB;have mX:=aa mL;clear aH bB mL
 go_loopw [5] (fun i wr=>∃ k:Nat,k<=n/\i=.int .i64 k/\Below W0.heap.size W0 wr/\∀ j,j<k->a.getD j default=b.getD j default) (fun i _=>n - (intOf i).toNat)
 case atStart=>exact⟨0,by omega,rfl,Below.refl _ _,fun j hj=>by omega⟩
 case round=>
  obtain⟨k,hk,rfl,ar,aR⟩:=hrel;have H:=aa aR;have aP:=aa ar;have bR:=aa (ae fj.out ar);clear aR ar;have tA:=ab (af aP.out kV.out);by_cases aA:k<n
  ·obtain⟨b1,o1,rfl,h1⟩:=EA.out k (by rw[HN.out];exact aA)
   obtain⟨b2,o2,rfl,h2⟩:=EB.out k (by rw[An.out];exact aA);have p9:=aa (az (default:Vw) (show k<a.length by rw[HN.out];exact aA));have rp:=aa (az (default:Vw) (show k<b.length by rw[An.out];exact aA));generalize a[k]'(by rw[HN.out];exact aA)=x at h1 p9;generalize b[k]'(by rw[An.out];exact aA)=y at h2 rp;have c0:∀ z:ExtW wr,z.val.cell? ⟨b1,o1+k * 8,none⟩=_:=fun z=>z.cell (ak bR.out h1.1.1)
   have c1:∀ z:ExtW wr,z.val.cell? ⟨b1,o1+k * 8+1,none⟩=_:=fun z=>z.cell (ak bR.out h1.2.1.1)
   have c2:∀ z:ExtW wr,z.val.cell? ⟨b1,o1+k * 8+2,none⟩=_:=fun z=>z.cell (ak bR.out h1.2.2.1.1)
   have c3:∀ z:ExtW wr,z.val.cell? ⟨b1,o1+k * 8+3,none⟩=_:=fun z=>z.cell (ak bR.out h1.2.2.2.1.1)
   have c4:∀ z:ExtW wr,z.val.cell? ⟨b1,o1+k * 8+4,none⟩=_:=fun z=>z.cell (ak bR.out h1.2.2.2.2.1.1)
   have c5:∀ z:ExtW wr,z.val.cell? ⟨b1,o1+k * 8+5,none⟩=_:=fun z=>z.cell (ak bR.out h1.2.2.2.2.2.1.1)
   have c6:∀ z:ExtW wr,z.val.cell? ⟨b1,o1+k * 8+6,none⟩=_:=fun z=>z.cell (ak bR.out h1.2.2.2.2.2.2.1.1)
   have c7:∀ z:ExtW wr,z.val.cell? ⟨b1,o1+k * 8+7,none⟩=_:=fun z=>z.cell (ak bR.out h1.2.2.2.2.2.2.2.1)
   have d0:∀ z:ExtW wr,z.val.cell? ⟨b2,o2+k * 8,none⟩=_:=fun z=>z.cell (ak bR.out h2.1.1)
   have d1:∀ z:ExtW wr,z.val.cell? ⟨b2,o2+k * 8+1,none⟩=_:=fun z=>z.cell (ak bR.out h2.2.1.1)
   have d2:∀ z:ExtW wr,z.val.cell? ⟨b2,o2+k * 8+2,none⟩=_:=fun z=>z.cell (ak bR.out h2.2.2.1.1)
   have d3:∀ z:ExtW wr,z.val.cell? ⟨b2,o2+k * 8+3,none⟩=_:=fun z=>z.cell (ak bR.out h2.2.2.2.1.1)
   have d4:∀ z:ExtW wr,z.val.cell? ⟨b2,o2+k * 8+4,none⟩=_:=fun z=>z.cell (ak bR.out h2.2.2.2.2.1.1)
   have d5:∀ z:ExtW wr,z.val.cell? ⟨b2,o2+k * 8+5,none⟩=_:=fun z=>z.cell (ak bR.out h2.2.2.2.2.2.1.1)
   have d6:∀ z:ExtW wr,z.val.cell? ⟨b2,o2+k * 8+6,none⟩=_:=fun z=>z.cell (ak bR.out h2.2.2.2.2.2.2.1.1)
   have d7:∀ z:ExtW wr,z.val.cell? ⟨b2,o2+k * 8+7,none⟩=_:=fun z=>z.cell (ak bR.out h2.2.2.2.2.2.2.2.1)
   have tA2:∀ z:ExtW wr,z.val.cell? ⟨w.heap.size,1,none⟩=some (.slice (some ⟨b1,o1,none⟩) n ca):=fun z=>z.cell (by rw[ab (af aP.out kV.out)];rfl)
   have tC2:∀ z:ExtW wr,z.val.cell? ⟨w.heap.size+1,1,none⟩=some (.slice (some ⟨b2,o2,none⟩) n cb):=fun z=>z.cell (by rw[ab (af aP.out mX.out)];rfl)
   have jK:=fun w=>Oz x y w
   clear h1 h2;cases bY:decide (x=y) with
   | true=>
    have nT:=aa (of_decide_eq_true bY);rw[bY]at jK;clear bY
    go_wp2_with fail
    refine aC (by kernel_rfl) (by kernel_rfl) ?_
    repeat (go_big_quiet_step (fail))
    refine wpQuiet_nil ?_;rintro _ ⟨xq,rfl⟩;clear c0 c1 c2 c3 c4 c5 c6 c7 d0 d1 d2 d3 d4 d5 d6 d7 tA2 tC2 jK tA
    go_wp2_with fail
    go_roundw
    case rel=>exact⟨k+1,by omega,by go_num,ae aP.out xq.ext,aS (p:=fun j=>a.getD j default=b.getD j default) H.out (by rw[p9.out,rp.out];exact nT.out)⟩
    case measure=>simp[intOf];omega
   | false=>
    have HR:=aa (og.out k (by rw[HN.out];exact aA) (by rw[p9.out,rp.out];exact of_decide_eq_false bY));rw[bY]at jK;clear bY
    go_wp2_with fail
    refine aC (by kernel_rfl) (by kernel_rfl) ?_
    repeat (go_big_quiet_step (fail))
    refine wpQuiet_nil ?_;rintro _ ⟨xq,rfl⟩;clear c0 c1 c2 c3 c4 c5 c6 c7 d0 d1 d2 d3 d4 d5 d6 d7 tA2 tC2 jK tA
    go_wp2_with fail
    go_ret
    exact⟨aO (by rw[HR.out]),ae bR.out xq.ext⟩
  ·obtain rfl:k=n:=by omega
   have HF:∀ j,j<a.length->a.getD j default=b.getD j default:=fun j hj=>H.out j (by have:=HN.out;omega)
   have HR:Hid (r=true):=aa (by first|exact gQ.out HL.out HF|exact gQ.out trivial HL.out HF|exact gQ.out rfl HL.out HF);clear HF
   go_wp2_with fail
   go_ret
   exact⟨aO (by rw[HR.out]),bR.out⟩
end Go.Proofs.YtmeaoneaephjeaaGreatDoor
