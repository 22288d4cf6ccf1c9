/-
  A part of the proof: lemmas and contracts that the parts behind it use. Each one's conditions are its own premises.
-/
import Derived.Test.YtkfgpnbpcpdclaaGreatJ11
set_option maxRecDepth 100000
set_option maxHeartbeats 8000000
set_option linter.unusedVariables false
namespace Go.Proofs.YtkfgpnbpcpdclaaGreat
open Go.RowKit Go Go.Shelf
theorem ry(r:Int) (t:Tr) (n:Nat) (hr:0<=r/\r<=6) (ht:∀ q,q<n->bK (t.times.getD q 0)):∀ q,q<=n->0<=timeTo r t q/\timeTo r t q<=9223372036854775807
 | 0,_=>⟨Int.le_refl _,by simp[timeTo]⟩
 | q+1,h=>by
  have ih:=ry r t n hr ht q (by omega);have h1:=ht q (by omega);unfold bK at h1;simp only[timeTo,BL];split
  ·omega
  ·split<;>omega
theorem L8(n:Nat) (hn:n<=5) (r:Int) (hr:0<=r/\r<=6) (t:Tr) (ui uw us um ud ut:Value) (hl:n<=t.times.length) (w:World) (hT:IsTr w t ui uw us um ud ut) :
  Calls Tryz.prog 39 #[.int .i64 n,.int .i64 r,.agg (ee ui uw us um ud ut)] w fun e w'=>e=.returned (.int .i64 (timeS n r t))/\Below w.heap.size w w':=by
 obtain⟨pi,ci,rfl,_⟩:=hT.inp.at;obtain⟨pw,cw,rfl,lw1,lw2,ew⟩:=hT.word.at;obtain⟨ps,cs,rfl,_⟩:=hT.states.at;obtain⟨pm,cm,rfl,_⟩:=hT.msgs.at;obtain⟨pd,cd,rfl,_⟩:=hT.dec.at;obtain⟨pt,ct,rfl,lt1,lt2,et⟩:=hT.times.at;have ET:=aa et
 have S8:Hid (∀ q,q<n->bK (t.times.getD q 0)):=aa (fun q hq=>by
  rw[aA 0 (by omega)]
  exact na hT.times _ (List.getElem_mem _))
 have hf:∃ f,f=faultyS t.word:=⟨_,rfl⟩;obtain⟨f,hf⟩:=hf;have FD:=aa hf;have EW:=aa ew;clear et ew hT hf
 go_enter Tryz.func39,Tryz.ntmps39
 by_cases h0:t.word.length=0
 ·have P3:f=0:=by rw[FD.out];unfold faultyS;rw[if_pos h0]
  rw[h0]
  go_wp2_with fail
  refine bw (fun W=>Below w.heap.size w W/\W.heap[w.heap.size]?=some (.cells (ee (.slice pi t.inp.length ci) (.slice pw 0 cw) (.slice ps t.states.length cs) (.slice pm t.msgs.length cm) (.slice pd t.dec.length cd) (.slice pt t.times.length ct)) 65)) ⟨by go_grown,ar _ _⟩ (fun W0 bd=>?_);obtain⟨aH,it⟩:=bd;have pX:=aa it;clear it
  go_loopw [8,24] (fun o i wr=>∃ q:Nat,q<=n/\i=.int .i64 q/\o=.int .i64 (timeTo r t q)/\Below W0.heap.size W0 wr) (fun _ i _=>n - (intOf i).toNat)
  case atStart=>exact⟨0,by omega,rfl,rfl,Below.refl _ _⟩
  case round=>
   obtain⟨q,hq,rfl,rfl,aJ⟩:=hrel;by_cases aF:q<n
   ·obtain⟨b1,o1,rfl,c1,_⟩:=ET.out q (by omega)
    rw[Nat.mul_one]at c1;have d1:=ay (aj aH aJ) c1;have tx:=ae (ak aJ pX.out);have Jm:=ry r t n hr S8.out q (by omega);have Jw:=S8.out q aF;have gO:Hid (timeTo r t (q+1)=max (timeTo r t q) (if cS f q then 0 else if t.times.getD q 0<0 then r+1 else t.times.getD q 0)):=aa (by simp only[timeTo,BL];rw[<-FD.out]);rw[aA 0 (by omega)]at gO Jw;have fJ:(bits .and .i64 (0 / 2 ^ q) 1 == 1)=false:=by rw[nL 0 q];simp[cS]
    have hbit2:(bits .and .i64 0 1 == 1)=false:=by decide
    have hb:cS f q=false:=by rw[P3];simp[cS]
    generalize t.times[q]=z at d1 gO Jw;generalize timeTo r t q=y at Jm gO;unfold bK at Jw;clear c1;rw[hb]at gO;clear hb;by_cases hz:z<0
    ·have iJ:Hid (timeTo r t (q+1)=max y (r+1)):=aa (by rw[gO.out];simp[hz])
     clear gO
     go_wp2_with fail
     all_goals
      go_roundw
      case rel=>exact⟨q+1,by omega,by go_num,by rw[iJ.out]<;>(congr 1;omega),aJ⟩
      case measure=>simp[intOf];omega
    ·have iJ:Hid (timeTo r t (q+1)=max y z):=aa (by rw[gO.out];simp[hz])
     clear gO
     go_wp2_with fail
     all_goals
      go_roundw
      case rel=>exact⟨q+1,by omega,by go_num,by rw[iJ.out]<;>(congr 1;omega),aJ⟩
      case measure=>simp[intOf];omega
   ·obtain rfl:q=n:=by omega
    go_wp2_with fail
    go_ret
    exact⟨rfl,aj aH aJ⟩
 ·obtain⟨b3,o3,rfl,⟨_,_⟩,⟨_,_⟩,⟨_,_⟩,⟨_,_⟩,⟨_,_⟩,⟨_,_⟩,⟨d6,_⟩⟩:=EW.out (t.word.length - 1) (by omega)
  have xA:f=(t.word[t.word.length - 1]'(by omega)).f:=by rw[FD.out];unfold faultyS;rw[if_neg h0,aA default (by omega)]
  rw[<-xA]at d6;have h0p:0<t.word.length:=by omega
  have bA:=gc d6;have oq:IntKind.i64.wrap ((t.word.length:Int) - 1)=((t.word.length - 1:Nat):Int):=by rw[IntWalk.i64_in _ (by omega)];omega
  clear xA
  go_wp2_with fail
  refine bw (fun W=>Below w.heap.size w W/\W.heap[w.heap.size]?=some (.cells (ee (.slice pi t.inp.length ci) (.slice (some ⟨b3,o3,none⟩) t.word.length cw) (.slice ps t.states.length cs) (.slice pm t.msgs.length cm) (.slice pd t.dec.length cd) (.slice pt t.times.length ct)) 65)) ⟨by go_grown,ar _ _⟩ (fun W0 bd=>?_);obtain⟨aH,it⟩:=bd;have pX:=aa it;clear it
  go_loopw [8,24] (fun o i wr=>∃ q:Nat,q<=n/\i=.int .i64 q/\o=.int .i64 (timeTo r t q)/\Below W0.heap.size W0 wr) (fun _ i _=>n - (intOf i).toNat)
  case atStart=>exact⟨0,by omega,rfl,rfl,Below.refl _ _⟩
  case round=>
   obtain⟨q,hq,rfl,rfl,aJ⟩:=hrel;by_cases aF:q<n
   ·obtain⟨b1,o1,rfl,c1,_⟩:=ET.out q (by omega)
    rw[Nat.mul_one]at c1;have d1:=ay (aj aH aJ) c1;have tx:=ae (ak aJ pX.out);have Jm:=ry r t n hr S8.out q (by omega);have Jw:=S8.out q aF;have gO:Hid (timeTo r t (q+1)=max (timeTo r t q) (if cS f q then 0 else if t.times.getD q 0<0 then r+1 else t.times.getD q 0)):=aa (by simp only[timeTo,BL];rw[<-FD.out]);rw[aA 0 (by omega)]at gO Jw;have fJ:=nL f q;generalize t.times[q]=z at d1 gO Jw;generalize timeTo r t q=y at Jm gO;unfold bK at Jw;clear c1;cases hb:cS f q with
    | true=>
     rw[hb]at fJ gO;have mH:timeTo r t (q+1)=y:=by rw[gO.out];simp;omega
     have iJ:=aa mH;clear hb mH gO
     go_wp2_with fail
     go_roundw
     case rel=>exact⟨q+1,by omega,by go_num,by rw[iJ.out],aJ⟩
     case measure=>simp[intOf];omega
    | false=>
     rw[hb]at fJ gO;clear hb;by_cases hz:z<0
     ·have iJ:Hid (timeTo r t (q+1)=max y (r+1)):=aa (by rw[gO.out];simp[hz])
      clear gO
      go_wp2_with fail
      all_goals
       go_roundw
       case rel=>exact⟨q+1,by omega,by go_num,by rw[iJ.out]<;>(congr 1;omega),aJ⟩
       case measure=>simp[intOf];omega
     ·have iJ:Hid (timeTo r t (q+1)=max y z):=aa (by rw[gO.out];simp[hz])
      clear gO
      go_wp2_with fail
      all_goals
       go_roundw
       case rel=>exact⟨q+1,by omega,by go_num,by rw[iJ.out]<;>(congr 1;omega),aJ⟩
       case measure=>simp[intOf];omega
   ·obtain rfl:q=n:=by omega
    go_wp2_with fail
    go_ret
    exact⟨rfl,aj aH aJ⟩
theorem L9{t:Tk} (h:taskE t=0) (j:Nat) (hj:j+1<t.cases.length):ordV (t.cases.getD j default).inp (t.cases.getD (j+1) default).inp<0:=by
 unfold taskE at h;split at h
 ·omega
 ·split at h
  ·omega
  ·have h1:=gX h (j+1) hj
   unfold eU at h1;split at h1
   ·rename_i h2;exact absurd h1 h2
   ·split at h1
    ·omega
    ·rename_i h3
     rw[Nat.add_sub_cancel]at h3;omega
theorem QZ{t:Tk} (h:taskE t=0):∀ j i,i<j->j<t.cases.length->ordV (t.cases.getD i default).inp (t.cases.getD j default).inp<0:=by
 intro j;induction j with
 | zero=>intro i hi;omega
 | succ j ih=>
  intro i hi hj;have h1:=L9 h j hj;by_cases e:i=j
  ·subst e;exact h1
  ·exact kE (ih i (by omega) (by omega)) h1
theorem Ce(x0 x1 x2 v:Value) (y z:List Int) (y1 y2:List (List Int)) (w:World) (hx:aU w x0 y) (dV:bF w x1 y1) (fF:bF w x2 y2) (hv:aU w v z) :
  Calls Tryz.prog 29 #[.agg #[x0,x1,x2],v] w fun e w'=>e=.returned (.int .i64 (ordV y z))/\Below w.heap.size w w':=by
 have hb:∀ W,Below w.heap.size w W->Calls Tryz.prog 30 #[x0,v] W fun e w'=>e=.returned (.int .i64 (ordV y z))/\Below W.heap.size W w':=fun W hW=>jR _ _ _ _ W (hx.up up_int hW) (hv.up up_int hW)
 have HB:=aa hb;obtain⟨_,_,rfl,_⟩:=hx.at;obtain⟨_,_,rfl,_⟩:=dV.at;obtain⟨_,_,rfl,_⟩:=fF.at;obtain⟨_,_,rfl,_⟩:=hv.at;clear hb hx dV fF hv
 go_enter Tryz.func29,Tryz.ntmps29
 go_wp2_with fail
 refine(HB.out _ (by go_grown)).mono ?_;rintro e w1 ⟨rfl,aG⟩
 go_wp2_with fail
 go_ret
 exact⟨rfl,aj (by go_grown) aG⟩
theorem Gh(t:Tk) (vc v:Value) (z:List Int) (bW:t.cases.length<=1024) (DZ:∀ j i,i<j->j<t.cases.length->ordV (t.cases.getD i default).inp (t.cases.getD j default).inp<0) (w:World) (hc:bJ w vc t.cases) (hv:aU w v z) :
  Calls Tryz.prog 28 #[vc,v,.func (.func 29) #[] #[]] w fun e w'=>∃ i:Nat,e=.returned (.tuple #[.int .i64 i,.bool (decide (i<t.cases.length/\ordV (t.cases.getD i default).inp z=0))])/\i<=t.cases.length/\(∀ k,k<i->ordV (t.cases.getD k default).inp z<0)/\(∀ k,i<=k->k<t.cases.length->0<=ordV (t.cases.getD k default).inp z)/\Below w.heap.size w w':=by
 have HC:=aa hc;have HV:=aa hv;have vZ:=aa DZ;obtain⟨pc,cc,rfl,lc1,lc2,ec⟩:=hc.at;obtain⟨pv,cv,rfl,_⟩:=hv.at;have EC:=aa ec;have eg:∀ args w,(callFunc 29 args).run Tryz.prog w=.ok (.enter 29 args) w:=enters_of Tryz.func29 (by kernel_rfl) rfl;clear hc hv DZ ec
 go_enter Tryz.func28,Tryz.ntmps28
 go_wp2_with fail
 go_loopw [9,10] (fun lo hi wr=>∃ i j:Nat,lo=.int .i64 i/\hi=.int .i64 j/\i<=j/\j<=t.cases.length/\(∀ k,k<i->ordV (t.cases.getD k default).inp z<0)/\(∀ k,j<=k->k<t.cases.length->0<=ordV (t.cases.getD k default).inp z)/\Below w.heap.size w wr) (fun lo hi _=>(intOf hi).toNat - (intOf lo).toNat)
 case atStart=>exact⟨0,t.cases.length,rfl,rfl,by omega,Nat.le_refl _,fun k hk=>by omega,fun k h1 h2=>by omega,Below.refl _ _⟩
 case round=>
  obtain⟨i,j,rfl,rfl,SZ,hj,h1,h2,aJ⟩:=hrel;have H1:=aa h1;have H2:=aa h2;clear h1 h2;by_cases aF:i<j
  ·obtain⟨h,hh⟩:∃ h:Nat,h=(i+j) / 2:=⟨_,rfl⟩
   have hm:h<t.cases.length:=by omega
   have hih:i<=h/\h<j:=by omega
   have kz:((i:Int)+(j:Int)) / 2=(h:Int):=by omega
   clear hh;obtain⟨b1,o1,rfl,⟨x0,c0,gi⟩,⟨x1,c1,dV⟩,⟨x2,c2,fF⟩⟩:=EC.out _ hm;have d0:=ay aJ c0;have d1:=ay aJ c1;have d2:=ay aJ c2;have pX:=aa (gi.up up_int aJ);have gk:=aa (dV.up up_ints aJ);have mJ:=aa (fF.up up_ints aJ);have Fp:=aa (aA default hm);generalize t.cases[h]=c at pX gk mJ Fp d0 d1 d2 gi dV fF;obtain⟨p0,q0,rfl,_⟩:=gi.at;obtain⟨p1,q1,rfl,_⟩:=dV.at;obtain⟨p2,q2,rfl,_⟩:=fF.at;clear gi dV fF c0 c1 c2
   go_wp2_with fail
   refine(Ce _ _ _ _ c.inp z c.out c.calm wr pX.out gk.out mJ.out (HV.out.up up_int aJ)).mono ?_;rintro e w1 ⟨rfl,aG⟩;have fQ:=aj aJ aG;rw[<-Fp.out];by_cases PG:ordV (t.cases.getD h default).inp z<0
   ·have HL:=aa PG
    generalize ordV (t.cases.getD h default).inp z=x at PG;clear d0 d1 d2 kz
    go_wp2_with fail
    go_roundw
    case rel=>
     refine⟨h+1,j,by go_num,rfl,by omega,hj,fun k hk=>?_,H2.out,fQ⟩;by_cases e:k=h
     ·subst e;exact HL.out
     ·exact kE (vZ.out h k (by omega) hm) HL.out
    case measure=>simp[intOf];omega
   ·have HL:=aa PG
    generalize ordV (t.cases.getD h default).inp z=x at PG;clear d0 d1 d2 kz
    go_wp2_with fail
    go_roundw
    case rel=>
     refine⟨i,h,rfl,rfl,by omega,by omega,H1.out,fun k hk Ad=>?_,fQ⟩;by_cases e:k=h
     ·subst e;have:=HL.out;omega
     ·by_cases qE:ordV (t.cases.getD k default).inp z<0
      ·have:=kE (vZ.out k h (by omega) Ad) qE
       have:=HL.out;omega
      ·omega
    case measure=>simp[intOf];omega
  ·obtain rfl:i=j:=by omega
   by_cases cK:i<t.cases.length
   ·obtain⟨b1,o1,rfl,⟨x0,c0,gi⟩,⟨x1,c1,dV⟩,⟨x2,c2,fF⟩⟩:=EC.out _ cK
    have d0:=ay aJ c0;have d1:=ay aJ c1;have d2:=ay aJ c2;have pX:=aa (gi.up up_int aJ);have gk:=aa (dV.up up_ints aJ);have mJ:=aa (fF.up up_ints aJ);have Fp:=aa (aA default cK);generalize t.cases[i]=c at pX gk mJ Fp d0 d1 d2 gi dV fF;obtain⟨p0,q0,rfl,_⟩:=gi.at;obtain⟨p1,q1,rfl,_⟩:=dV.at;obtain⟨p2,q2,rfl,_⟩:=fF.at;clear gi dV fF c0 c1 c2;have hinI:(i:Int)<(t.cases.length:Int):=by omega
    go_wp2_with fail
    refine(Ce _ _ _ _ c.inp z c.out c.calm wr pX.out gk.out mJ.out (HV.out.up up_int aJ)).mono ?_;rintro e w1 ⟨rfl,aG⟩;have fQ:=aj aJ aG;rw[<-Fp.out];clear d0 d1 d2
    go_wp2_with fail
    go_ret2
    refine⟨i,?_,hj,H1.out,H2.out,fQ⟩;congr 3;rw[aA default cK];generalize ordV t.cases[i].inp z=x9;simp only[cK,true_and];by_cases e:x9=0<;>simp[e]
   ·obtain rfl:i=t.cases.length:=by omega
    have hinI:¬ (t.cases.length:Int)<(t.cases.length:Int):=by omega
    go_wp2_with fail
    go_ret2
    exact⟨t.cases.length,by simp,hj,H1.out,H2.out,aJ⟩
def kR(t:Tk) (z:List Int):Int × Int:=if taskE t≠0 then(0,taskE t) else fw t z
theorem Q0{t:Tk} {z:List Int} {i:Nat} (hi:i<=t.cases.length) (h1:∀ k,k<i->ordV (t.cases.getD k default).inp z<0) (h2:∀ k,i<=k->k<t.cases.length->0<=ordV (t.cases.getD k default).inp z) (DZ:∀ j i,i<j->j<t.cases.length->ordV (t.cases.getD i default).inp (t.cases.getD j default).inp<0) :
  findE t z=if i<t.cases.length/\ordV (t.cases.getD i default).inp z=0 then(i:Int) else -1:=by
 unfold findE
 have bH:∀ k,k<t.cases.length->(eqV (t.cases.getD k default).inp z=true↔ordV (t.cases.getD k default).inp z=0):=fun k _=>by
  unfold eqV;rw[decide_eq_true_eq,u5]
 by_cases hc:i<t.cases.length/\ordV (t.cases.getD i default).inp z=0
 ·rw[if_pos hc]
  rcases dN t.cases.length (fun i=>eqV (t.cases.getD i default).inp z) with ⟨e,h⟩|⟨k,hk,e,Jt,hkf⟩
  ·have:=h i hc.1
   rw[(bH i hc.1).2 hc.2]at this;cases this
  ·rw[e]
   have qE:=(bH k hk).1 Jt;by_cases Vp:k<i
   ·have:=h1 k Vp;omega
   ·by_cases e2:k=i
    ·rw[e2]
    ·have h3:=DZ k i (by omega) hk
     have h4:=(u5 _ _).1 hc.2;rw[h4]at h3;have h5:=(EE z (t.cases.getD k default).inp).1 h3;omega
 ·rw[if_neg hc]
  rcases dN t.cases.length (fun i=>eqV (t.cases.getD i default).inp z) with ⟨e,h⟩|⟨k,hk,e,Jt,hkf⟩
  ·exact e
  ·exfalso
   have qE:=(bH k hk).1 Jt;by_cases Vp:k<i
   ·have:=h1 k Vp;omega
   ·by_cases e2:k=i
    ·subst e2;exact hc ⟨hk,qE⟩
    ·have h3:=DZ k i (by omega) hk
     have h4:=h2 i (Nat.le_refl _) (by omega);have h5:=(u5 _ _).1 qE;rw[h5]at h3;omega
theorem xp(t:Tk) (vc v:Value) (z:List Int) (w:World) (hc:bJ w vc t.cases) (hv:aU w v z) :
  Calls Tryz.prog 9 #[.agg #[.int .i64 t.n,.int .i64 t.ins,.int .i64 t.outs,vc],v] w fun e w'=>e=.returned (.tuple #[.int .i64 (kR t z).1,.int .i64 (kR t z).2])/\Below w.heap.size w w':=by
 have HC:=aa hc;have HV:=aa hv;obtain⟨pc,cc,rfl,_⟩:=hc.at;obtain⟨pv,cv,rfl,_⟩:=hv.at;clear hc hv
 go_enter Tryz.func9,Tryz.ntmps9
 go_wp2_with fail
 refine aT (fun W=>Below w.heap.size w W/\W.heap[w.heap.size]?=some (.cells #[.int .i64 t.n,.int .i64 t.ins,.int .i64 t.outs,.slice pc t.cases.length cc] 24)) ⟨by go_grown,ar _ _⟩ (fun W0 bd=>?_);obtain⟨aH,bD⟩:=bd;refine(ql t _ W0 (HC.out.up up_case aH)).mono ?_;rintro e w1 ⟨rfl,aG⟩;have bU:=aj aH aG;have t1:=ae (ak aG bD);by_cases iH:taskE t=0
 case neg=>
  have HR:Hid (kR t z=(0,taskE t)):=aa (by unfold kR;rw[if_pos iH]);generalize taskE t=et at iH HR;have D7:(et != 0)=true:=by simpa using iH
  clear bD t1
  go_wp2_with fail
  go_ret2
  refine⟨cI ?_ ?_,bU⟩<;>rw[HR.out]
 have vZ:=aa (QZ iH);have bW:=(dY iH).2.2.2.1;have HR:Hid (kR t z=fw t z):=aa (by unfold kR;rw[if_neg (by simpa using iH)]);rw[iH];clear iH bD
 go_wp2_with fail
 refine(Gh t _ _ z bW.2 vZ.out w1 (HC.out.up up_case bU) (HV.out.up up_int bU)).mono ?_;rintro e w2 ⟨i,rfl,hi,h1,h2,aS⟩;have b7:=aj bU aS;have HF:=aa (Q0 hi h1 h2 vZ.out);clear t1 h1 h2;by_cases hc:i<t.cases.length/\ordV (t.cases.getD i default).inp z=0
 ·have qg:Hid (fw t z=((i:Int),0)):=aa (by unfold fw;rw[HF.out,if_pos hc,if_neg (by omega)])
  rw[decide_eq_true hc];clear hc HF
  go_wp2_with fail
  go_ret2
  refine⟨cI ?_ ?_,b7⟩<;>rw[HR.out,qg.out]
 ·have qg:Hid (fw t z=(0,6)):=aa (by unfold fw;rw[HF.out,if_neg hc,if_pos (by omega)])
  rw[decide_eq_false hc];clear hc HF
  go_wp2_with fail
  go_ret2
  refine⟨cI ?_ ?_,b7⟩<;>rw[HR.out,qg.out]
theorem vP(p:Pb) (hp:probE p=0) (vc vs vw:Value) (word:List Rd) (w:World) (hc:bJ w vc p.t.cases) (hs:bn w vs p.a.states) (hw:bN w vw word) :
  Calls Tryz.prog 46 #[jI p vc vs,vw] w fun e w'=>e=.returned (.bool (permB p word))/\Below w.heap.size w w':=by
 have HS:=aa hs;have HW:=aa hw;have ha:=(cX hp).2.1;have hN:=Cd hp;have hA:=fun W (hb:Below w.heap.size w W)=>uS p.a vs vw word W (hs.up up_moves hb) (hw.up up_round hb) (by omega) (by omega)
 have zB:gh p.a word=(decide (0<=afterS p.a 0 word),0):=by unfold gh;rw[if_neg (by simpa using ha)]
 have HA:=aa hA;have PM:=aa zB;obtain⟨pc,cc,rfl,_⟩:=hc.at;obtain⟨ps,cs,rfl,_⟩:=hs.at;obtain⟨pw,cw,rfl,_⟩:=hw.at;clear hc hs hw ha hN hA zB hp;have S2:permB p word=(decide ((word.length:Int)=p.rounds)&&decide (0<=afterS p.a 0 word)):=rfl;have HPB:=aa S2;clear S2;by_cases hl:(word.length:Int)=p.rounds
 ·have Mk:Hid (permB p word=decide (0<=afterS p.a 0 word)):=aa (by rw[HPB.out];simp[hl])
  have kd:((word.length:Int) != p.rounds)=false:=by simpa using hl
  clear hl
  go_enter Tryz.func46,Tryz.ntmps46
  go_wp2_with fail
  refine(HA.out _ (by go_grown)).mono ?_;rintro e w1 ⟨rfl,aG⟩;rw[PM.out];dsimp only;generalize hx:decide (0<=afterS p.a 0 word)=x at Mk;clear hx;cases x <;>
  ·go_wp2_with fail
   go_ret
   exact⟨by rw[Mk.out];rfl,aj (by go_grown) aG⟩
 ·have Mk:Hid (permB p word=false):=aa (by rw[HPB.out];simp[hl])
  have kd:((word.length:Int) != p.rounds)=true:=by simpa using hl
  clear hl
  go_enter Tryz.func46,Tryz.ntmps46
  go_wp2_with fail
  go_ret
  exact⟨by rw[Mk.out];rfl,by go_grown⟩
theorem E7(p:Pb) (hp:probE p=0) (vc vs vi vw:Value) (x:Py) (w:World) (hc:bJ w vc p.t.cases) (hs:bn w vs p.a.states) (hi:aU w vi x.inp) (hw:bN w vw x.word) :
  Calls Tryz.prog 41 #[jI p vc vs,.agg #[vi,vw]] w fun e w'=>e=.returned (.int .i64 (cG p x))/\Below w.heap.size w w':=by
 have HC:=aa hc;have HS:=aa hs;have HI:=aa hi;have HW:=aa hw;have HP:=aa hp;have PO:kR p.t x.inp=fw p.t x.inp:=by unfold kR;rw[if_neg (by simpa using (cX hp).1)]
 have HTF:=aa PO;have HV:Hid (cG p x=if findE p.t x.inp<0 then 6 else if permB p x.word then 0 else 25):=aa rfl;obtain⟨pc,cc,rfl,_⟩:=hc.at;obtain⟨ps,cs,rfl,_⟩:=hs.at;obtain⟨pi,ci,rfl,_⟩:=hi.at;obtain⟨pw,cw,rfl,_⟩:=hw.at;clear hc hs hi hw hp PO
 go_enter Tryz.func41,Tryz.ntmps41
 go_wp2_with fail
 refine aT (fun W=>Below w.heap.size w W/\W.heap[w.heap.size]?=some (.cells #[.int .i64 p.t.n,.int .i64 p.t.ins,.int .i64 p.t.outs,.slice pc p.t.cases.length cc,.int .i64 p.a.n,.slice ps p.a.states.length cs,.int .i64 p.rounds] 29)/\W.heap[w.heap.size+1]?=some (.cells #[.slice pi x.inp.length ci,.slice pw x.word.length cw] 39)) ⟨by go_grown,aq _ (ar _ _),aX _ _ _⟩ (fun W0 bd=>?_);obtain⟨aH,bD,it⟩:=bd;refine(xp p.t _ _ x.inp W0 (HC.out.up up_case aH) (HI.out.up up_int aH)).mono ?_;rintro e w1 ⟨rfl,aG⟩;have b7:=aj aH aG;have t1:=ae (ak aG bD);have t2:=ae (ak aG it);rw[HTF.out];clear bD it;by_cases hf:findE p.t x.inp<0
 ·have h1:fw p.t x.inp=(0,6):=by unfold fw;rw[if_pos hf]
  have HR:Hid (cG p x=6):=aa (by rw[HV.out,if_pos hf]);rw[h1];clear h1 hf t1 t2
  go_wp2_with fail
  go_ret
  exact⟨aC (by rw[HR.out]),b7⟩
 have h1:fw p.t x.inp=(findE p.t x.inp,0):=by unfold fw;rw[if_neg hf]
 have HR:Hid (cG p x=if permB p x.word then 0 else 25):=aa (by rw[HV.out,if_neg hf]);rw[h1];generalize findE p.t x.inp=fi;clear h1
 go_wp2_with fail
 refine(vP p HP.out _ _ _ x.word w1 (HC.out.up up_case b7) (HS.out.up up_moves b7) (HW.out.up up_round b7)).mono ?_;rintro e w2 ⟨rfl,aS⟩;clear t1 t2;generalize permB p x.word=b at HR;cases b <;>
 ·go_wp2_with fail
  go_ret
  exact⟨aC (by rw[HR.out];simp),aj b7 aS⟩
theorem la{P:Program} {ops:Array Oper} {Q:Exit->Act->World->Prop} {l:List Oper} {o:Oper} {a:Act} {W:World} (d:Nat) (hd:o.dst=some d) (I:World->Prop) (h:I W) (k:∀ W0,I W0->wpList P ops Q (o :: l) a W0):wpList P ops Q (o :: l) a W:=k W h
theorem sn{a b c d e f:Value} (h:ee a b c d e f=zeroTr):a=.slice none 0 0/\b=.slice none 0 0/\c=.slice none 0 0/\d=.slice none 0 0/\e=.slice none 0 0/\f=.slice none 0 0:=by
 injection h with h
 injection h with e1 h
 injection h with e2 h
 injection h with e3 h
 injection h with e4 h
 injection h with e5 h
 injection h with e6 h
 exact⟨e1,e2,e3,e4,e5,e6⟩
def okB(p:Pb) (m:Mac) (x:Py):Bool:=decide (playE m x.inp x.word=0)&&decide ((verdR p m (eQ m x.inp x.word)).2=0)
theorem L'(tmps:Array Value) (B:Nat) (W:World) (c0 c1 c2 c3 c4 c5:Value) (k:Int) (b:Bool) (h6:tmps[6]?.getD undef=.pointer (some ⟨B,0,none⟩)) (h7:tmps[7]?.getD undef=.int .i64 k) (h8:tmps[8]?.getD undef=.bool b)
  (hB:W.heap[B]?=some (.cells #[c0,c1,c2,c3,c4,c5] 65)):(results Tryz.f37 tmps).run Tryz.prog W=.ok (.tuple #[.agg #[c0,c1,c2,c3,c4,c5],.int .i64 k,.bool b]) W:=by
 have t2:=ae hB;simp[results,Tryz.results37,go_sem,h6,h7,h8,t2]
theorem Ih{w X:World} {B:Nat} {T:Array Value} {R:Ending->World->Prop} (hb:Below w.heap.size w X) (hl:w.heap.size<=B) (hR:X.heap[B]?=some (.cells zeroTr 65)) (c0 c1 c2 c3 c4 c5:Value) (k:Int) (b:Bool)
  (h6:T[6]?.getD undef=.pointer (some ⟨B,0,none⟩)) (h7:T[7]?.getD undef=.int .i64 k) (h8:T[8]?.getD undef=.bool b) (hK:∀ Wf:World,Below w.heap.size w Wf->(∀ k,k≠B->Wf.heap[k]?=X.heap[k]?)->R (.returned (.tuple #[.agg #[c0,c1,c2,c3,c4,c5],.int .i64 k,.bool b])) Wf) :
  bodyPost Tryz.prog Tryz.f37 R .ret { tmps:=T,defers:=[] } ((((((X.setCell ⟨B,0,none⟩ c0).setCell ⟨B,1,none⟩ c1).setCell ⟨B,2,none⟩ c2).setCell ⟨B,3,none⟩ c3).setCell ⟨B,4,none⟩ c4).setCell ⟨B,5,none⟩ c5):=by
 have key:∀ l:List Value,l.length=6->(X.setCells B 0 l).heap[B]?=some (.cells l.toArray 65)/\Below w.heap.size w (X.setCells B 0 l)/\(∀ k,k≠B->(X.setCells B 0 l).heap[k]?=X.heap[k]?):=fun l cZ=>by
  obtain⟨cur',h1,h2,h3⟩:=kO B _ _ l 0 X zeroTr hR (by simp[cZ]);obtain⟨o1,o2,o3,o4,o5⟩:=eX B l 0 X
  have RZ:cur'=l.toArray:=by
   rw[Nat.zero_add,List.take_zero,List.nil_append,List.take_of_length_le (by simp at h2;simp;omega)]at h3;rw[<-h3]
  subst RZ;exact⟨h1,⟨o2.trans hb.os,o3.trans hb.tape,o4.trans hb.output,by rw[o5];exact hb.size,fun k hk=>(o1 k (by omega)).trans (hb.block k hk)⟩,fun k hk=>o1 k hk⟩
 obtain⟨q1,q2,q3⟩:=key [c0,c1,c2,c3,c4,c5] rfl;have e:X.setCells B 0 [c0,c1,c2,c3,c4,c5]=((((((X.setCell ⟨B,0,none⟩ c0).setCell ⟨B,1,none⟩ c1).setCell ⟨B,2,none⟩ c2).setCell ⟨B,3,none⟩ c3).setCell ⟨B,4,none⟩ c4).setCell ⟨B,5,none⟩ c5):=rfl;rw[e]at q1 q2 q3;generalize ((((((X.setCell ⟨B,0,none⟩ c0).setCell ⟨B,1,none⟩ c1).setCell ⟨B,2,none⟩ c2).setCell ⟨B,3,none⟩ c3).setCell ⟨B,4,none⟩ c4).setCell ⟨B,5,none⟩ c5)=Y at q1 q2 q3 ⊢;exact bodyPost_ret (L' T B Y c0 c1 c2 c3 c4 c5 k b h6 h7 h8 q1) rfl (hK Y q2 q3)
theorem Cf(p:Pb) (vc vs:Value) (m:Mac) (vf vy vt vo vi vw:Value) (x:Py) (w:World) (hc:bJ w vc p.t.cases) (hs:bn w vs p.a.states) (hN:movesN p.a.states<1099511627776) (hf:bF w vf m.first) (hy:eZ w vy m.syms) (ht:dh w vt m.steps) (ho:fj w vo m.out) (hi:aU w vi x.inp) (hw:bN w vw x.word) :
  Calls Tryz.prog 37 #[jI p vc vs,.agg (bX m vf vy vt vo),.agg #[vi,vw]] w fun e w'=>∃ ui uw us um ud ut,e=.returned (.tuple #[.agg (ee ui uw us um ud ut),.int .i64 (eV p m x),.bool (okB p m x)])/\(okB p m x=true->BI w.heap.size w' (eQ m x.inp x.word) ui uw us um ud ut)/\(okB p m x=false->ee ui uw us um ud ut=zeroTr)/\Below w.heap.size w w':=by
 have HC:=aa hc;have HS:=aa hs;have HF:=aa hf;have HY:=aa hy;have HT:=aa ht;have HO:=aa ho;have HI:=aa hi;have HW:=aa hw;have db:Hid (eV p m x=if playE m x.inp x.word≠0 then 0 else if (verdR p m (eQ m x.inp x.word)).2≠0 then 0 else(verdR p m (eQ m x.inp x.word)).1):=aa rfl;have cU:Hid (okB p m x=(decide (playE m x.inp x.word=0)&&decide ((verdR p m (eQ m x.inp x.word)).2=0))):=aa rfl;obtain⟨pc,cc,rfl,_⟩:=hc.at;obtain⟨ps,cs,rfl,_⟩:=hs.at;obtain⟨pf,cf,rfl,_⟩:=hf.at;obtain⟨py,cy,rfl,_⟩:=hy.at;obtain⟨pt,ct,rfl,_⟩:=ht.at;obtain⟨po,co,rfl,_⟩:=ho.at;obtain⟨pi,ci,rfl,_⟩:=hi.at;obtain⟨pw,cw,rfl,_⟩:=hw.at;clear hc hs hf hy ht ho hi hw
 go_enter Tryz.func37,Tryz.ntmps37
 go_wp2_with fail
 refine aT (fun W=>Below w.heap.size w W/\W.heap[w.heap.size]?=some (.cells #[.int .i64 p.t.n,.int .i64 p.t.ins,.int .i64 p.t.outs,.slice pc p.t.cases.length cc,.int .i64 p.a.n,.slice ps p.a.states.length cs,.int .i64 p.rounds] 29)/\W.heap[w.heap.size+1]?=some (.cells (bX m (.slice pf m.first.length cf) (.slice py m.syms.length cy) (.slice pt m.steps.length ct) (.slice po m.out.length co)) 35)/\W.heap[w.heap.size+1+1+1]?=some (.cells zeroTr 65)) ⟨by go_grown,aq _ (aq _ (aq _ (ar _ _))),aq _ (aq _ (aX _ _ _)),lY _ _ _ _ _⟩ (fun W0 bd=>?_);obtain⟨aH,bD,iw,iq⟩:=bd;refine(sS m _ _ _ _ _ _ x.inp x.word W0 (HF.out.up up_ints aH) (HY.out.up up_v3 aH) (HT.out.up up_step aH) (HO.out.up up_vecs aH) (HI.out.up up_int aH) (HW.out.up up_round aH)).mono ?_;rintro e w1 ⟨ui,uw,us,um,ud,ut,rfl,h1,h2,aG⟩;have b7:=aj aH aG;have fd:=aa (ak aG bD);have jz:=aa (ak aG iw);have jx:=aa (ak aG iq);have hzR:=aB jx.out;have zV:=aG.size;have dp:w.heap.size+1+1+1<W0.heap.size:=aB iq;clear bD iw iq;by_cases iT:playE m x.inp x.word=0
 case neg=>
  obtain⟨rfl,rfl,rfl,rfl,rfl,rfl⟩:=sn (h2 iT);have hk:eV p m x=0:=by rw[db.out,if_pos iT]
  have gL:okB p m x=false:=by rw[cU.out];simp[iT]
  have mI:=aa hk;have IS:=aa gL;generalize playE m x.inp x.word=pe at iT;have hpe':(pe != 0)=true:=by simpa using iT
  clear h1 h2 hk gL iT
  go_wp2_with (refine la 23 rfl (fun W=>Below w.heap.size w W/\W.heap[w.heap.size+1+1+1]?=some (.cells zeroTr 65)) ⟨b7.alloc b7.size _,aq _ jx.out⟩ (fun W2 jD=>?_);obtain⟨aS,kx⟩:=jD;have qg:=aa kx;have tR:=ae kx;have zR:=fun o=>aD kx o;clear kx)
  refine Ih (w:=w) (X:=W2) aS (by omega) qg.out (.slice none 0 0) (.slice none 0 0) (.slice none 0 0) (.slice none 0 0) (.slice none 0 0) (.slice none 0 0) 0 false (by rfl) (by rfl) (by rfl) (fun Wf oa _=>?_);rw[mI.out,IS.out];exact⟨_,_,_,_,_,_,rfl,(fun e=>by cases e),fun _=>rfl,oa⟩
 have hF:=h1 iT;have hT:=hF w1 (cQ.refl _ _);obtain⟨n,r,GF⟩:=BH iT;obtain⟨qi,di,rfl,_⟩:=hT.inp.at;obtain⟨qw,dw,rfl,_⟩:=hT.word.at;obtain⟨qs,ds,rfl,_⟩:=hT.states.at;obtain⟨qm,dm,rfl,_⟩:=hT.msgs.at;obtain⟨qd,dd,rfl,_⟩:=hT.dec.at;obtain⟨qt,dt,rfl,_⟩:=hT.times.at
 have qJ:Hid (∀ y∈(eQ m x.inp x.word).states,y≠[]):=aa (fun y hy e=>by
  subst e;have hy':([]:List Int)∈eC m x.inp x.word:=hy;obtain⟨k,hk,FM⟩:=List.getElem_of_mem hy';have h2:=(nA GF.good (word:=x.word) GF.il GF.ir k _ (List.getElem?_eq_getElem hk)).1;have h3:=GF.good.n1;rw[FM]at h2;simp at h2
  omega)
 have HTr:=aa hT;have uz:=aa hF;have vU:=aa iT;rw[iT];clear h1 h2 hT iT hF;generalize Vm:eQ m x.inp x.word=tr at HTr db cU qJ uz;have UU:=aa Vm;clear Vm;have tA:∀ o1 o,(w1.alloc o1).cell? ⟨w.heap.size,o,none⟩=_:=fun o1=>ae (aq _ fd.out)
 have tM:∀ o1 o,(w1.alloc o1).cell? ⟨w.heap.size+1,o,none⟩=_:=fun o1=>ae (aq _ jz.out)
 go_wp2_with fail
 have ma:Below w.heap.size w (w1.alloc (.cells #[.slice qi tr.inp.length di,.slice qw tr.word.length dw,.slice qs tr.states.length ds,.slice qm tr.msgs.length dm,.slice qd tr.dec.length dd,.slice qt tr.times.length dt] 65)):=b7.alloc b7.size _;have Rk:Below w1.heap.size w1 (w1.alloc (.cells #[.slice qi tr.inp.length di,.slice qw tr.word.length dw,.slice qs tr.states.length ds,.slice qm tr.msgs.length dm,.slice qd tr.dec.length dd,.slice qt tr.times.length dt] 65)):=by go_grown
 have kx:=aq (.cells #[.slice qi tr.inp.length di,.slice qw tr.word.length dw,.slice qs tr.states.length ds,.slice qm tr.msgs.length dm,.slice qd tr.dec.length dd,.slice qt tr.times.length dt] 65) jx.out;have hX9:=ar w1 (.cells #[.slice qi tr.inp.length di,.slice qw tr.word.length dw,.slice qs tr.states.length ds,.slice qm tr.msgs.length dm,.slice qd tr.dec.length dd,.slice qt tr.times.length dt] 65);refine(JS p _ _ m _ _ _ _ tr _ _ _ _ _ _ _ (HC.out.up up_case ma) (HS.out.up up_moves ma) hN (HF.out.up up_ints ma) (HY.out.up up_v3 ma) (HT.out.up up_step ma) (HO.out.up up_vecs ma) (HTr.out.up Rk)).mono ?_;rintro e w2 ⟨rfl,aS⟩;have qg:=aa (ak aS kx);have mJ:=aa (ak aS hX9);have sK:=aa (And.intro Rk aS);have jy:=aa (aj ma aS);have tR:=ae qg.out;have zR:=fun o=>aD qg.out o
 have tX:=ae mJ.out;rw[if_neg (by simpa using vU.out)]at db;have li:okB p m x=decide ((verdR p m tr).2=0):=by rw[cU.out];simp[vU.out]
 have fE:=aa li;clear tA tM kx hX9 ma Rk aS li cU;generalize verdR p m tr=vr at db fE;obtain⟨v1,v2⟩:=vr;dsimp only at db fE ⊢;by_cases hv:v2=0
 ·have mI:Hid (eV p m x=v1):=aa (by rw[db.out,if_neg (by simpa using hv)])
  have IS:Hid (okB p m x=true):=aa (by rw[fE.out];simp[hv]);subst hv;clear db fE
  go_wp2_with fail
  refine Ih (w:=w) (X:=w2) jy.out (by omega) qg.out (.slice qi tr.inp.length di) (.slice qw tr.word.length dw) (.slice qs tr.states.length ds) (.slice qm tr.msgs.length dm) (.slice qd tr.dec.length dd) (.slice qt tr.times.length dt) v1 true (by rfl) (by rfl) (by rfl) (fun Wf oa Jd=>?_);rw[mI.out,IS.out,UU.out];exact⟨_,_,_,_,_,_,rfl,fun _ W' hk=>uz.out W' (fun k o FM ho hc=>hk k o (by omega) ((Jd k (by omega)).trans (ak sK.out.2 (ak sK.out.1 ho))) hc),(fun e=>by cases e),oa⟩
 ·have mI:Hid (eV p m x=0):=aa (by rw[db.out,if_pos hv])
  have IS:Hid (okB p m x=false):=aa (by rw[fE.out];simp[hv]);have oA:(v2 != 0)=true:=by simpa using hv
  clear db fE hv
  go_wp2_with fail
  refine Ih (w:=w) (X:=w2) jy.out (by omega) qg.out (.slice none 0 0) (.slice none 0 0) (.slice none 0 0) (.slice none 0 0) (.slice none 0 0) (.slice none 0 0) 0 false (by rfl) (by rfl) (by rfl) (fun Wf oa _=>?_);rw[mI.out,IS.out];exact⟨_,_,_,_,_,_,rfl,(fun e=>by cases e),fun _=>rfl,oa⟩
end Go.Proofs.YtkfgpnbpcpdclaaGreat
namespace Go.Proofs.YtkfgpnbpcpdclaaGreat
open Go.RowKit Go Go.Shelf
attribute [local go_sem] Oper.semAt_some
theorem Gw{w X:World} {B:Nat} {k0 f0 e0:Value} (hb:Below w.heap.size w X) (hl:w.heap.size<=B) (hR:X.heap[B]?=some (.cells zeroTr 65)) (hK:X.heap[B+1]?=some (.cells #[k0] 3)) (hF:X.heap[B+1+1]?=some (.cells #[f0] 4)) (hE:X.heap[B+1+1+1]?=some (.cells #[e0] 42))
  (c0 c1 c2 c3 c4 c5 kv fv ev:Value):∀ Y,Y=((((((((X.setCell ⟨B,0,none⟩ c0).setCell ⟨B,1,none⟩ c1).setCell ⟨B,2,none⟩ c2).setCell ⟨B,3,none⟩ c3).setCell ⟨B,4,none⟩ c4).setCell ⟨B,5,none⟩ c5).setCell ⟨B+1,0,none⟩ kv).setCell ⟨B+1+1,0,none⟩ fv).setCell ⟨B+1+1+1,0,none⟩ ev →
  Y.heap[B]?=some (.cells #[c0,c1,c2,c3,c4,c5] 65)/\Y.heap[B+1]?=some (.cells #[kv] 3)/\Y.heap[B+1+1]?=some (.cells #[fv] 4)/\Y.heap[B+1+1+1]?=some (.cells #[ev] 42)/\(∀ k,(k<B\/B+1+1+1<k)->Y.heap[k]?=X.heap[k]?)/\Below w.heap.size w Y:=by
 rintro Y rfl;obtain⟨p1,p2,p3,p4⟩:=AA hR rfl c0 c1 c2 c3 c4 c5 _ rfl;have q:=p4 _ _ hl hb;have Ju:=(p2 (B+1) (by omega)).trans hK;have hF':=(p2 (B+1+1) (by omega)).trans hF;have Wc:=(p2 (B+1+1+1) (by omega)).trans hE;generalize (((((X.setCell ⟨B,0,none⟩ c0).setCell ⟨B,1,none⟩ c1).setCell ⟨B,2,none⟩ c2).setCell ⟨B,3,none⟩ c3).setCell ⟨B,4,none⟩ c4).setCell ⟨B,5,none⟩ c5=Z at *;refine⟨?_,?_,?_,?_,fun k hk=>?_,?_⟩
 ·exact aI (aI (aI p1 (by omega) _ _) (by omega) _ _) (by omega) _ _
 ·exact aI (aI (by rw[aE Ju];rfl) (by omega) _ _) (by omega) _ _
 ·exact aI (by rw[aE (aI hF' (by omega) _ _)];rfl) (by omega) _ _
 ·rw[aE (aI (aI Wc (by omega) _ _) (by omega) _ _)];rfl
 ·rw[Below.heap_setCell _ ⟨B+1+1+1,0,none⟩ _ _ (show k≠B+1+1+1 by omega),Below.heap_setCell _ ⟨B+1+1,0,none⟩ _ _ (show k≠B+1+1 by omega),Below.heap_setCell _ ⟨B+1,0,none⟩ _ _ (show k≠B+1 by omega),p2 k (by omega)]
 ·exact((q.setCell (p:=⟨B+1,0,none⟩) (show w.heap.size<=B+1 by omega) _).setCell (p:=⟨B+1+1,0,none⟩) (show w.heap.size<=B+1+1 by omega) _).setCell (p:=⟨B+1+1+1,0,none⟩) (show w.heap.size<=B+1+1+1 by omega) _
theorem so(tmps:Array Value) (B:Nat) (W:World) (c0 c1 c2 c3 c4 c5:Value) (k e:Int) (f:Bool) (h4:tmps[4]?.getD undef=.pointer (some ⟨B,0,none⟩)) (h5:tmps[5]?.getD undef=.pointer (some ⟨B+1,0,none⟩)) (h6:tmps[6]?.getD undef=.pointer (some ⟨B+1+1,0,none⟩)) (h7:tmps[7]?.getD undef=.pointer (some ⟨B+1+1+1,0,none⟩))
  (hR:W.heap[B]?=some (.cells #[c0,c1,c2,c3,c4,c5] 65)) (hK:W.heap[B+1]?=some (.cells #[.int .i64 k] 3)) (hF:W.heap[B+1+1]?=some (.cells #[.bool f] 4)) (hE:W.heap[B+1+1+1]?=some (.cells #[.int .i64 e] 42)) :
  (results Tryz.f14 tmps).run Tryz.prog W=.ok (.tuple #[.agg #[c0,c1,c2,c3,c4,c5],.int .i64 k,.bool f,.int .i64 e]) W:=by
 have t1:=ae hR;have t2:=ae hK 0;have t3:=ae hF 0;have t4:=ae hE 0;simp at t2 t3 t4;simp[results,Tryz.results14,go_sem,h4,h5,h6,h7,t1,t2,t3,t4]
structure V4 (w:World) (W:World):Prop where
 old:Below w.heap.size w W
 r:W.heap[w.heap.size+1+1]?=some (.cells zeroTr 65)
 k:W.heap[w.heap.size+1+1+1]?=some (.cells #[.int .i64 0] 3)
 f:W.heap[w.heap.size+1+1+1+1]?=some (.cells #[.bool false] 4)
 e:W.heap[w.heap.size+1+1+1+1+1]?=some (.cells #[.int .i64 0] 42)
theorem V4.up{w W W':World} (h:V4 w W) (hb:Below W.heap.size W W'):V4 w W':=⟨aj h.old hb,ak hb h.r,ak hb h.k,ak hb h.f,ak hb h.e⟩
theorem Q1{w w2:World} {pe pc:Option Addr} {C:Nat} {iv wv:List Value} {i:Nat} (hv:V4 w w2) (h:PlIn w2 pe pc C iv wv i) (bH:iv.getD i undef≠.slice none 0 0) (k:Nat) (hk:w.heap.size+1+1<=k/\k<=w.heap.size+1+1+1+1+1) :
  (∀ ad,pe=some ad->k≠ad.block)/\∀ ad,pc=some ad->k≠ad.block:=by
 obtain⟨be,oe,rfl,_,c,x2,c0,c1,_,_,_,bc,oc,rfl,_,c3⟩:=h.ex;obtain⟨a,m,n,ei⟩:=h.iv;have bY:k=w.heap.size+1+1\/k=w.heap.size+1+1+1\/k=w.heap.size+1+1+1+1\/k=w.heap.size+1+1+1+1+1:=by omega
 refine⟨fun ad e hkb=>?_,fun ad e hkb=>?_⟩
 ·cases e
  dsimp only at hkb;rw[<-hkb]at c0 c1;rcases bY with e|e|e|e<;>rw[e]at c0 c1
  ·rw[ae hv.r]at c0
   have aF:oe+i * 3<6:=(Array.getElem?_eq_some_iff.1 c0).1;rcases (show oe+i * 3=0\/oe+i * 3=1\/oe+i * 3=2\/oe+i * 3=3\/oe+i * 3=4\/oe+i * 3=5 by omega) with q|q|q|q|q|q<;>rw[q]at c0<;>simp at c0
  ·rw[ae hv.k]at c1
   have aF:oe+i * 3+1<1:=(Array.getElem?_eq_some_iff.1 c1).1;omega
  ·rw[ae hv.f]at c1
   have aF:oe+i * 3+1<1:=(Array.getElem?_eq_some_iff.1 c1).1;omega
  ·rw[ae hv.e]at c1
   have aF:oe+i * 3+1<1:=(Array.getElem?_eq_some_iff.1 c1).1;omega
 ·cases e
  dsimp only at hkb;rw[<-hkb]at c3;rcases bY with e|e|e|e<;>rw[e]at c3
  ·rw[ae hv.r]at c3
   have aF:oc+c * 3<6:=(Array.getElem?_eq_some_iff.1 c3).1;rcases (show oc+c * 3=0\/oc+c * 3=1\/oc+c * 3=2\/oc+c * 3=3\/oc+c * 3=4\/oc+c * 3=5 by omega) with q|q|q|q|q|q<;>rw[q]at c3<;>simp at c3<;>exact bH c3.symm
  ·rw[ae hv.k,ei]at c3
   have aF:oc+c * 3<1:=(Array.getElem?_eq_some_iff.1 c3).1;rw[show oc+c * 3=0 by omega]at c3;simp at c3
  ·rw[ae hv.f,ei]at c3
   have aF:oc+c * 3<1:=(Array.getElem?_eq_some_iff.1 c3).1;rw[show oc+c * 3=0 by omega]at c3;simp at c3
  ·rw[ae hv.e,ei]at c3
   have aF:oc+c * 3<1:=(Array.getElem?_eq_some_iff.1 c3).1;rw[show oc+c * 3=0 by omega]at c3;simp at c3
theorem vQ{F:Fence} {n:Nat} {P:Program} {ops:Array Oper} {Q:Exit->Act->World->Prop} {l:List Oper} {o:Oper} {a:Act} {W:World} (d:Nat) (hd:o.dst=some d) (I:World->Prop) (h:I W) (k:∀ W0,I W0->wpListIn F n P ops Q (o :: l) a W0):wpListIn F n P ops Q (o :: l) a W:=k W h
structure VStop (p:Pb) (m:Mac) (w:World) (c:Code) (W:World):Prop where
 c:c=.ret
 ex:∃ (i:Nat) (ui uw us um ud ut:Value),i<(aN p).length/\(∀ j,j<i->badB p m ((aN p).getD j default)=false)/\badB p m ((aN p).getD i default)=true/\Below w.heap.size w W ∧
  W.heap[w.heap.size+1+1]?=some (.cells (ee ui uw us um ud ut) 65)/\W.heap[w.heap.size+1+1+1]?=some (.cells #[.int .i64 (eV p m ((aN p).getD i default))] 3)/\W.heap[w.heap.size+1+1+1+1]?=some (.cells #[.bool true] 4)/\W.heap[w.heap.size+1+1+1+1+1]?=some (.cells #[.int .i64 0] 42) ∧
  IsTr W (eQ m ((aN p).getD i default).inp ((aN p).getD i default).word) ui uw us um ud ut
theorem VStop.sta{p:Pb} {m:Mac} {w:World} {c:Code} {B:Nat} (hB:w.heap.size<=B):bR B (VStop p m w c):=fun A A' ch h=>by
 obtain⟨i,ui,uw,us,um,ud,ut,h1,h2,h3,h4,h5,h6,h7,h8,h9⟩:=h.ex;exact⟨h.c,i,ui,uw,us,um,ud,ut,h1,h2,h3,ch.below hB h4.size h4,ch.same _ _ h5 (.inr rfl),ch.same _ _ h6 (.inr rfl),ch.same _ _ h7 (.inr rfl),ch.same _ _ h8 (.inr rfl),h9.ck ch.ck⟩
def sq(p:Pb) (m:Mac) (w:World) (e:Ending) (w':World):Prop:=∃ ui uw us um ud ut,e=.returned (.tuple #[.agg (ee ui uw us um ud ut),.int .i64 (gp p m).2.1,.bool (gp p m).2.2.1,.int .i64 (gp p m).2.2.2])/\((gp p m).2.2.1=true->IsTr w' (gp p m).1 ui uw us um ud ut)/\((gp p m).2.2.1=false->ee ui uw us um ud ut=zeroTr)/\Below w.heap.size w w'
theorem sq.no{p:Pb} {m:Mac} {w w':World} {e:Int} (h:gp p m=(noTr,0,false,e)) (hb:Below w.heap.size w w'):sq p m w (.returned (.tuple #[.agg #[.slice none 0 0,.slice none 0 0,.slice none 0 0,.slice none 0 0,.slice none 0 0,.slice none 0 0],.int .i64 0,.bool false,.int .i64 e])) w':=by
 unfold sq;rw[h];exact⟨_,_,_,_,_,_,rfl,(fun e=>by cases e),fun _=>rfl,hb⟩
theorem Ma{p:Pb} {m:Mac} {i:Nat} (hi:i<(aN p).length) (h:∀ j,j<i->badB p m ((aN p).getD j default)=false) (hb:badB p m ((aN p).getD i default)=true):eh p m=i:=by
 unfold eh;rcases dN (aN p).length (fun j=>badB p m ((aN p).getD j default)) with ⟨_,hn⟩|⟨k,hk,e,hp,aF⟩
 ·rw[hn i hi]at hb;cases hb
 ·rw[e]
  have:k=i:=by
   rcases Nat.lt_trichotomy k i with h1|h1|h1
   ·rw[h k h1]at hp;cases hp
   ·exact h1
   ·rw[aF i h1]at hb;cases hb
  rw[this]
theorem Ow{p:Pb} {m:Mac} (h:∀ j,j<(aN p).length->badB p m ((aN p).getD j default)=false):eh p m<0:=by
 unfold eh;rcases dN (aN p).length (fun j=>badB p m ((aN p).getD j default)) with ⟨e,_⟩|⟨k,hk,e,hp,_⟩
 ·rw[e];decide
 ·rw[h k hk]at hp;cases hp
theorem Ox{p:Pb} {m:Mac} {x:Py}:badB p m x=(okB p m x&&(eV p m x != 0)):=by
 unfold badB okB eV;by_cases h1:playE m x.inp x.word=0
 ·by_cases h2:(verdR p m (eQ m x.inp x.word)).2=0
  ·simp[h1,h2,bne]
   cases hx:((verdR p m (eQ m x.inp x.word)).1 == 0)<;>simp_all
  ·simp[h1,h2]
 ·simp[h1]
theorem Gi(p:Pb) (vc vs:Value) (m:Mac) (vf vy vt vo:Value) (w:World) (hc:bJ w vc p.t.cases) (hs:bn w vs p.a.states) (hN:movesN p.a.states<1099511627776) (hf:bF w vf m.first) (hy:eZ w vy m.syms) (ht:dh w vt m.steps) (ho:fj w vo m.out) :
  Calls Tryz.prog 14 #[jI p vc vs,.agg (bX m vf vy vt vo)] w (sq p m w):=by
 have HC:=aa hc;have HS:=aa hs;have HF:=aa hf;have HY:=aa hy;have HT:=aa ht;have HO:=aa ho;have HV:Hid (gp p m=if fx p m≠0 then(noTr,0,false,fx p m) else if buildE p≠0 then(noTr,0,false,buildE p) else if eh p m<0 then(noTr,0,false,0) else(eQ m ((aN p).getD (eh p m).toNat default).inp ((aN p).getD (eh p m).toNat default).word,eV p m ((aN p).getD (eh p m).toNat default),true,0)):=aa rfl;obtain⟨pc,cc,rfl,_⟩:=hc.at;obtain⟨ps,cs,rfl,_⟩:=hs.at;obtain⟨pf,cf,rfl,_⟩:=hf.at;obtain⟨py,cy,rfl,_⟩:=hy.at;obtain⟨pt,ct,rfl,_⟩:=ht.at;obtain⟨po,co,rfl,_⟩:=ho.at;clear hc hs hf hy ht ho;refine eI Tryz.func14 rfl ?_;simp only[Tryz.ntmps14,List.size_toArray,List.length_cons,List.length_nil,Nat.reduceAdd,Nat.reduceSub,Array.replicate_succ,Array.replicate_zero,List.push_toArray,List.append_toArray,List.nil_append,List.cons_append]
 go_wp2_with fail
 refine aT (fun W=>V4 w W/\W.heap[w.heap.size]?=some (.cells #[.int .i64 p.t.n,.int .i64 p.t.ins,.int .i64 p.t.outs,.slice pc p.t.cases.length cc,.int .i64 p.a.n,.slice ps p.a.states.length cs,.int .i64 p.rounds] 29)/\W.heap[w.heap.size+1]?=some (.cells (bX m (.slice pf m.first.length cf) (.slice py m.syms.length cy) (.slice pt m.steps.length ct) (.slice po m.out.length co)) 35))
  ⟨⟨by go_grown,aq _ (aq _ (aq _ (cV _ _ _ _))),aq _ (aq _ (lY _ _ _ _ _)),aq _ (by simpa using ar ((((w.alloc _).alloc _).alloc _).alloc _) _),by simpa using ar (((((w.alloc _).alloc _).alloc _).alloc _).alloc _) _⟩,aq _ (aq _ (aq _ (aq _ (aq _ (ar _ _))))),aq _ (aq _ (aq _ (aq _ (aX _ _ _))))⟩ (fun W0 bd=>?_)
 obtain⟨Ji,bD,iw⟩:=bd;have aH:=Ji.old;refine(sZ p _ _ m _ _ _ _ W0 (HC.out.up up_case aH) (HS.out.up up_moves aH) hN (HF.out.up up_ints aH) (HY.out.up up_v3 aH) (HT.out.up up_step aH) (HO.out.up up_vecs aH)).mono ?_;rintro e w1 ⟨rfl,aG⟩;have gV:=Ji.up aG;have fd:=aa (ak aG bD);have jz:=aa (ak aG iw);have db:=aa gV;have du:=gV.old.size;have zE:=aB gV.e;clear Ji bD iw aH aG;generalize im:fx p m=be at HV;by_cases hb:be=0
 case neg=>
  have eS:(be != 0)=true:=by simpa using hb
  have HR:Hid (gp p m=(noTr,0,false,be)):=aa (by rw[HV.out,if_pos hb]);have tR:=ae gV.r;have zR:=fun o=>aD gV.r o
  have tK:=ae gV.k;have zK:=fun o=>aD gV.k o
  have tF:=ae gV.f;have zF:=fun o=>aD gV.f o
  have tE:=ae gV.e;have zE:=fun o=>aD gV.e o
  clear hb HV gV im
  go_wp2_with fail
  obtain⟨m1,m2,m3,m4,_,m5⟩:=Gw db.out.old (by omega) db.out.r db.out.k db.out.f db.out.e (.slice none 0 0) (.slice none 0 0) (.slice none 0 0) (.slice none 0 0) (.slice none 0 0) (.slice none 0 0) (.int .i64 0) (.bool false) (.int .i64 be) _ rfl;refine fH (so _ (w.heap.size+1+1) _ _ _ _ _ _ _ _ _ _ rfl rfl rfl rfl m1 m2 m3 m4) (sq.no HR.out m5)
 have IW:=aa im;subst hb;have cU:Hid (gp p m=if buildE p≠0 then(noTr,0,false,buildE p) else if eh p m<0 then(noTr,0,false,0) else(eQ m ((aN p).getD (eh p m).toNat default).inp ((aN p).getD (eh p m).toNat default).word,eV p m ((aN p).getD (eh p m).toNat default),true,0)):=aa (by rw[HV.out,if_neg (by simp)]);clear HV im;have tA:=ae fd.out;clear gV
 go_wp2_with fail
 refine(E6 p _ _ w1 (HC.out.up up_case db.out.old) (HS.out.up up_moves db.out.old) hN).mono ?_;rintro e w2 ⟨c,rfl,h1,h2,aS⟩;clear tA;have li:=db.out.up aS;have AU:=aa li;have p9:=aa (ak aS fd.out);have jO:=aa (ak aS jz.out);have eB:=aS.size;by_cases nJ:buildE p=0
 case neg=>
  have HR:Hid (gp p m=(noTr,0,false,buildE p)):=aa (by rw[cU.out,if_pos nJ]);obtain rfl:=h2 nJ;have RY:(buildE p != 0)=true:=by simpa using nJ
  generalize buildE p=bu at HR RY;clear h1 h2 nJ cU li;have jd:Hid (∀ o:Obj,V4 w (w2.alloc o)):=aa fun o=>AU.out.up (Below.alloc (Below.refl _ w2) (Nat.le_refl _) _)
  go_wp2_with (refine la 29 rfl (fun W=>V4 w W) (jd.out _) (fun W3 kY=>?_);clear jd;have fE:=aa kY;have tR:=ae kY.r;have zR:=fun o=>aD kY.r o;have tK:=ae kY.k;have zK:=fun o=>aD kY.k o;have tF:=ae kY.f;have zF:=fun o=>aD kY.f o;have tE:=ae kY.e;have zE:=fun o=>aD kY.e o;clear kY)
  obtain⟨m1,m2,m3,m4,_,m5⟩:=Gw fE.out.old (by omega) fE.out.r fE.out.k fE.out.f fE.out.e (.slice none 0 0) (.slice none 0 0) (.slice none 0 0) (.slice none 0 0) (.slice none 0 0) (.slice none 0 0) (.int .i64 0) (.bool false) (.int .i64 bu) _ rfl;refine fH (so _ (w.heap.size+1+1) _ _ _ _ _ _ _ _ _ _ rfl rfl rfl rfl m1 m2 m3 m4) (sq.no HR.out m5)
 obtain⟨cZ,vW⟩:=ER nJ;obtain⟨uc,us,vt,ve,rfl,vz⟩:=h1 nJ;obtain⟨qc,dc,qe,de,iv,wv,rfl,rfl,UV,UO,kA⟩:=ES vz;obtain⟨qs,ds,rfl,_⟩:=vz.states.at;obtain⟨qt,dt,rfl,_⟩:=vz.tab.at;have fE:Hid (gp p m=if eh p m<0 then(noTr,0,false,0) else(eQ m ((aN p).getD (eh p m).toNat default).inp ((aN p).getD (eh p m).toNat default).word,eV p m ((aN p).getD (eh p m).toNat default),true,0)):=aa (by rw[cU.out,if_neg (by simpa using nJ)]);have wc:=aa kA;have jB:=aa vW;rw[nJ];have kX:Hid (p.a.states.length=(dR p).prob.a.states.length):=aa rfl;clear h1 h2 nJ cU li vz kA vW
 go_wp2_with fail
 have hsys3:=ar w2 (.cells #[.int .i64 p.t.n,.int .i64 p.t.ins,.int .i64 p.t.outs,.slice qc p.t.cases.length dc,.int .i64 p.a.n,.slice qs (dR p).prob.a.states.length ds,.int .i64 p.rounds,.int .i64 p.t.n,.slice qt (dR p).tab.length dt,.slice qe (aN p).length de] 107);refine aT (fun W=>V4 w W/\Below w2.heap.size w2 W/\W.heap[w2.heap.size]?=some (.cells #[.int .i64 p.t.n,.int .i64 p.t.ins,.int .i64 p.t.outs,.slice qc p.t.cases.length dc,.int .i64 p.a.n,.slice qs (dR p).prob.a.states.length ds,.int .i64 p.rounds,.int .i64 p.t.n,.slice qt (dR p).tab.length dt,.slice qe (aN p).length de] 107)) ⟨AU.out.up (by go_grown),by go_grown,hsys3⟩ (fun W3 hW3=>?_);clear hsys3;obtain⟨kY,bA,ks⟩:=hW3;refine(EQ (ru p (.slice qc p.t.cases.length dc) (.slice qs (dR p).prob.a.states.length ds) p.t.n (.slice qt (dR p).tab.length dt) (.slice qe (aN p).length de)) ⟨_,_,_,_,_,_,rfl⟩ W3).mono ?_;rintro e w4 ⟨rfl,rfl⟩
 go_wp2_with fail
 refine bw (fun W=>V4 w W/\Below w2.heap.size w2 W/\W.heap[W3.heap.size]?=some (.cells (ru p (.slice qc p.t.cases.length dc) (.slice qs (dR p).prob.a.states.length ds) p.t.n (.slice qt (dR p).tab.length dt) (.slice qe (aN p).length de)) 107)) ⟨kY.up (by go_grown),bA.alloc bA.size _,ar _ _⟩ (fun W4 hW4=>?_);clear kY ks;obtain⟨Cw,bM,Iu⟩:=hW4;have bP:=B7 w2 p _ _ _ _ _ (aN p).length p.t.cases.length de dc iv wv (by omega) (by have:=(dY (cX jB.out).1).2.2.2.1;omega) UV UO (fun i hi=>(wc.out i hi).1) W4 bM W3.heap.size Iu;have UT:=bM.size;have wn:=bA.size;have zV:=aB Iu;have HA4:=aa (ak bM p9.out);have Pi:=aa (ak bM jO.out)
 have qJ:Hid (∀ i,i<(aN p).length->iv.getD i undef≠.slice none 0 0):=aa fun i hi e=>by
  have h1:=(wc.out i hi).2.1;rw[e]at h1;obtain⟨a,c,e2,_⟩:=h1.at;injection e2 with _ e3 _
  obtain⟨c,hc,_,kA⟩:=AG p i (by rw[pV];exact hi);rw[kA]at e3;have h2:=((dY (cX jB.out).1).2.2.2.2 (p.t.cases.getD c default) (by rw[show p.t.cases.getD c default=p.t.cases[c] by simp[hc]];exact List.getElem_mem hc)).inp;have h3:=(dY (cX jB.out).1).1;dsimp only at e3;omega
 refine kG (gf:=65) (lb:=#[.pointer (some ⟨W3.heap.size,0,none⟩)]) rfl (enters_of Tryz.func65 (by kernel_rfl) rfl) bP (Below.refl _ _) (fun k hk=>by rcases hk with rfl|⟨hk,_⟩<;>omega) (fun i=>rfl)
  (fun i W=>Below W4.heap.size W4 W/\∀ j,j<i->badB p m ((aN p).getD j default)=false)
  (fun c _ W=>VStop p m w c W)
  (fun i=>(bR.below (Nat.le_refl _)).and bR.pure) (fun c i=>VStop.sta (by omega)) ⟨Below.refl _ _,by simp⟩ ?round ?done ?stop
 case round=>
  intro yl i W hi hl hI;unfold Gv;have bH:=qJ.out i hi;obtain⟨sL,cK,uy⟩:=wc.out i hi;have Vr:=aj bM hI.1;have kS:=aa (cK.up up_int Vr);have ux:=aa (uy.up up_round Vr);have iV:=aa sL;have UC:=aa bH;obtain⟨pi,ci,ei,_⟩:=cK.at;obtain⟨pw,cw,ew,_⟩:=uy.at;rw[ei]at kS;rw[ew]at ux;rw[ei,ew];have HX:Hid ((aN p).getD i default=(aN p).getD i default):=aa rfl;generalize hx:(aN p).getD i default=x at kS ux;have I0:=aa hx;clear hx bH sL cK uy ei ew;have HI:=aa hI;clear hI;have xH:=HI.out.1.size;have HSEQ:=aa bP;clear bP
  gi_wp2
  refine⟨Bod.of_below (fun k hk=>by rcases hk with rfl|⟨hk,_⟩<;>omega) (by go_grown),(fun W'=>(Below W4.heap.size W4 W'/\∀ j,j<i->badB p m ((aN p).getD j default)=false)/\W'.heap[W.heap.size]?=some (.cells #[.slice pi x.inp.length ci,.slice pw x.word.length cw] 39)/\aU W' (.slice pi x.inp.length ci) x.inp/\bN W' (.slice pw x.word.length cw) x.word),
   ((bR.below (Nat.le_refl _)).and bR.pure).and (bR.cells.and (fun A A' c h=>⟨h.1.ck up_int c.ck,h.2.ck up_round c.ck⟩)),⟨⟨HI.out.1.alloc xH _,HI.out.2⟩,ar _ _,kS.out.up up_int (by go_grown),ux.out.up up_round (by go_grown)⟩,fun W2 h2 _ kW=>?_⟩
  obtain⟨⟨MQ,aM⟩,hX,AP,xP⟩:=h2;have Th:=Cw.up MQ;have bS:=aj bM MQ;have HB42:=aa MQ;have IL:=aa kW;have HVW:=aa Th;have fB:=aa bS;have lO:=aa aM;have HINW:=aa AP;have HWDW:=aa xP;have hszX:=aB hX;have hszE:=aB Th.e;have MC:=bS.size;have tA:=ae (ak bS p9.out);have tM:=ae (ak bS jO.out);have tX:=ae hX;have b7:=Th.old;have HJ:=aa (Cf p _ _ m _ _ _ _ _ _ x W2 (HC.out.up up_case b7) (HS.out.up up_moves b7) hN (HF.out.up up_ints b7) (HY.out.up up_v3 b7) (HT.out.up up_step b7) (HO.out.up up_vecs b7) AP xP);clear Th bS aM AP xP hX kW HI kS ux HX MQ Vr
  gi_wp2
  refine⟨trivial,rfl,kQ (HJ.out.mono ?_)⟩;rintro e W5 ⟨ui,uw,us,um,ud,ut,rfl,h1,h2,dy⟩;have vS:=HVW.out.up dy;have Ag:=aa vS;have Tf:=dy.size;have xy:=aa (aj fB.out dy);have jL:=aa dy;clear tA tM tX HJ vS;have nK:Hid (badB p m x=(okB p m x&&(eV p m x != 0))):=aa Ox;have wk:Hid (eV p m ((aN p).getD i default)=eV p m x):=aa (by rw[I0.out]);generalize gL:okB p m x=ok at nK h1 h2;have eM:=aa gL;clear gL;generalize FM:eV p m x=kk at nK wk;have HKK:=aa FM;clear FM;by_cases MS:ok=true/\kk≠0
  case neg=>
   have HBN:Hid (badB p m x=false):=aa (by
    rw[nK.out];cases ok
    ·rfl
    ·have:kk=0:=by
      by_cases h:kk=0
      ·exact h
      ·exact absurd ⟨rfl,h⟩ MS
     rw[this];rfl)
   have hfin:∀ W':World,Below W5.heap.size W5 W'->Bod W4.heap.size (fun k=>k=W3.heap.size\/k<w2.heap.size/\((∃ ad,qe=some ad/\k=ad.block)\/∃ ad,qc=some ad/\k=ad.block)) W2 W'/\Below W4.heap.size W4 W'/\∀ j,j<i+1->badB p m ((aN p).getD j default)=false:=fun W' eS=>
    ⟨Bod.of_below (fun k hk=>by rcases hk with rfl|⟨hk,_⟩<;>omega) (aj jL.out eS),aj HB42.out (aj jL.out eS),aQ lO.out (by rw[I0.out];exact HBN.out)⟩
   have HFIN:=aa hfin;clear hfin HBN nK;cases ok with
   | false=>
    obtain⟨rfl,rfl,rfl,rfl,rfl,rfl⟩:=sn (h2 rfl);clear h1 h2
    gi_wp2
    exact HFIN.out _ (by go_grown)
   | true=>
    have gW:kk=0:=by
     by_cases h:kk=0
     ·exact h
     ·exact absurd ⟨rfl,h⟩ MS
    subst gW;have hT:=h1 rfl W5 (cQ.refl _ _);obtain⟨r1,d1,rfl,_⟩:=hT.inp.at;obtain⟨r2,d2,rfl,_⟩:=hT.word.at;obtain⟨r3,d3,rfl,_⟩:=hT.states.at;obtain⟨r4,d4,rfl,_⟩:=hT.msgs.at;obtain⟨r5,d5,rfl,_⟩:=hT.dec.at;obtain⟨r6,d6,rfl,_⟩:=hT.times.at;clear h1 h2 hT MS
    gi_wp2
    exact HFIN.out _ (by go_grown)
  obtain⟨rfl,gW⟩:=MS;have hk0':(kk != 0)=true:=by simpa using gW
  have CG:Hid (badB p m x=true):=aa (by rw[nK.out,hk0'];rfl);have hT:=h1 rfl W5 (cQ.refl _ _);have uz:=aa (h1 rfl);obtain⟨r1,d1,rfl,_⟩:=hT.inp.at;obtain⟨r2,d2,rfl,_⟩:=hT.word.at;obtain⟨r3,d3,rfl,_⟩:=hT.states.at;obtain⟨r4,d4,rfl,_⟩:=hT.msgs.at;obtain⟨r5,d5,rfl,_⟩:=hT.dec.at;obtain⟨r6,d6,rfl,_⟩:=hT.times.at;generalize IC:eQ m x.inp x.word=tr at uz hT;have Tl:=aa IC;clear h1 h2 hT gW nK IC;have jd:Hid (∀ o:Obj,V4 w (W5.alloc o)/\Below W5.heap.size W5 (W5.alloc o)/\(W5.alloc o).heap[W5.heap.size]?=some o):=aa fun o=>⟨Ag.out.up (by go_grown),by go_grown,ar _ _⟩
  gi_wp2_with (refine vQ 47 rfl (fun W=>V4 w W/\Below W5.heap.size W5 W/\W.heap[W5.heap.size]?=some (.cells #[.slice r1 tr.inp.length d1,.slice r2 tr.word.length d2,.slice r3 tr.states.length d3,.slice r4 tr.msgs.length d4,.slice r5 tr.dec.length d5,.slice r6 tr.times.length d6] 65)) (jd.out _) (fun W6 h6=>?_);clear jd;obtain⟨mF,fD,OV⟩:=h6;have Ah:=aa mF;have nE:=aa fD;have tX:=ae OV;have tR:=ae mF.r;have zR:=fun o=>aD mF.r o;have tK:=ae mF.k;have zK:=fun o=>aD mF.k o;have tF:=ae mF.f;have zF:=fun o=>aD mF.f o;have tE:=ae mF.e;have zE:=fun o=>aD mF.e o;clear mF fD OV)
  obtain⟨m1,m2,m3,m4,m6,m5⟩:=Gw Ah.out.old (by omega) Ah.out.r Ah.out.k Ah.out.f Ah.out.e (.slice r1 tr.inp.length d1) (.slice r2 tr.word.length d2) (.slice r3 tr.states.length d3) (.slice r4 tr.msgs.length d4) (.slice r5 tr.dec.length d5) (.slice r6 tr.times.length d6) (.int .i64 kk) (.bool true) (.int .i64 0) _ rfl;clear tX tR tK tF tE zR zK zF zE;have hz6:=nE.out.size;have Jo:=aj jL.out nE.out;refine⟨⟨?_,?_,?_⟩,rfl,i,_,_,_,_,_,_,hi,lO.out,by rw[I0.out];exact CG.out,m5,m1,by rw[wk.out];exact m2,m3,m4,?_⟩
  ·simp only[World.size_setCell]
   omega
  ·intro k hk
   have cK:¬ (w.heap.size+1+1<=k/\k<=w.heap.size+1+1+1+1+1):=fun hc=>by
    rcases hk with rfl|⟨_,hk⟩
    ·omega
    ·have ha:=Q1 AU.out iV.out UC.out k hc
     rcases hk with ⟨ad,e1,e2⟩|⟨ad,e1,e2⟩
     ·exact ha.1 ad e1 e2
     ·exact ha.2 ad e1 e2
   have aF:k<W2.heap.size:=by rcases hk with rfl|⟨hk,_⟩<;>omega
   exact(m6 k (by omega)).trans (Jo.block k aF)
  ·intro k o hk ho _
   exact(m6 k (.inr (by omega))).trans (ak Jo ho)
  ·rw[I0.out,Tl.out]
   exact uz.out _ fun k o hk ho _=>(m6 k (.inr (by omega))).trans (ak nE.out ho)
 case done=>
  intro D W hD hI hK;obtain⟨hb,aM⟩:=hI;have hv:=Cw.up hb;have PA:=aa hv;have HR:Hid (gp p m=(noTr,0,false,0)):=aa (by rw[fE.out,if_pos (Ow aM)]);have tR:=ae hv.r;have zR:=fun o=>aD hv.r o
  have tK:=ae hv.k;have zK:=fun o=>aD hv.k o
  have tF:=ae hv.f;have zF:=fun o=>aD hv.f o
  have tE:=ae hv.e;have zE:=fun o=>aD hv.e o
  clear hv hb aM bP
  go_wp2_with fail
  obtain⟨m1,m2,m3,m4,m6,m5⟩:=Gw PA.out.old (by omega) PA.out.r PA.out.k PA.out.f PA.out.e (.slice none 0 0) (.slice none 0 0) (.slice none 0 0) (.slice none 0 0) (.slice none 0 0) (.slice none 0 0) (.int .i64 0) (.bool false) (.int .i64 0) _ rfl;refine dH ((m6 D (.inr (by omega))).trans hK) (so _ (w.heap.size+1+1) _ _ _ _ _ _ _ _ _ _ rfl rfl rfl rfl ((World.putObj_heap_other (by omega)).trans m1) ((World.putObj_heap_other (by omega)).trans m2) ((World.putObj_heap_other (by omega)).trans m3) ((World.putObj_heap_other (by omega)).trans m4)) (sq.no HR.out (cT (by omega) m5))
 case stop=>
  rintro D c i W hD hi ⟨rfl,k,ui,uw,us,um,ud,ut,hk,h1,h2,h3,h4,h5,h6,h7,h8⟩ hK;have HH:=aa (And.intro h3 (And.intro h4 (And.intro h5 (And.intro h6 (And.intro h7 h8)))));have HR:Hid (gp p m=(eQ m ((aN p).getD k default).inp ((aN p).getD k default).word,eV p m ((aN p).getD k default),true,0)):=aa (by rw[fE.out,Ma hk h1 h2,if_neg (by omega),Int.toNat_natCast]);clear h1 h2 h3 h4 h5 h6 h7 h8 bP
  go_wp2_with fail
  refine dH hK (so _ (w.heap.size+1+1) _ _ _ _ _ _ _ _ _ _ rfl rfl rfl rfl ((World.putObj_heap_other (by omega)).trans HH.out.2.1) ((World.putObj_heap_other (by omega)).trans HH.out.2.2.1) ((World.putObj_heap_other (by omega)).trans HH.out.2.2.2.1) ((World.putObj_heap_other (by omega)).trans HH.out.2.2.2.2.1)) ?_;unfold sq;rw[HR.out];exact⟨_,_,_,_,_,_,rfl,fun _=>HH.out.2.2.2.2.2.ck (Tz _ hK),(fun e=>by cases e),cT (by omega) HH.out.1⟩
end Go.Proofs.YtkfgpnbpcpdclaaGreat
namespace Go.Proofs.YtkfgpnbpcpdclaaGreat
open Go.RowKit Go Go.Shelf
theorem Tryz.infoPlay:(Tryz.prog.info? 39).map (fun i=>(i.zero,i.size,i.bytes))=some (some (.agg #[.slice none 0 0,.slice none 0 0]),2,48):=by kernel_rfl
def AI(p:Pb) (x:Py) (k j:Nat):List Py:=(((cW p.a).take j).filter fun r=>mR r (x.word.getD k default)&&permB p (x.word.set k r)).map fun r=>⟨x.inp,x.word.set k r⟩
def qq(p:Pb) (x:Py) (k:Nat):List Py:=(List.range k).flatMap (uV p x)
def AK(p:Pb) (x:Py) (q v:Nat):List Py:=((List.range v).filter fun v=>decide (0<=findE p.t (x.inp.set q (v:Nat)))).map fun v=>⟨x.inp.set q (v:Nat),x.word⟩
def qr(p:Pb) (x:Py) (q:Nat):List Py:=qq p x x.word.length++(List.range q).flatMap (BM p x)
theorem Oy(p:Pb) (x:Py) (k j:Nat) (hj:j<(cW p.a).length):AI p x k (j+1)=AI p x k j++(if mR (cW p.a)[j] (x.word.getD k default)&&permB p (x.word.set k (cW p.a)[j]) then [⟨x.inp,x.word.set k (cW p.a)[j]⟩] else []):=by
 unfold AI;rw[List.take_succ_eq_append_getElem hj,List.filter_append,List.map_append];congr 1;by_cases h:(mR (cW p.a)[j] (x.word.getD k default)&&permB p (x.word.set k (cW p.a)[j]))=true
 ·rw[List.filter_cons,if_pos h,if_pos h];rfl
 ·rw[List.filter_cons,if_neg h,if_neg h];rfl
theorem Q2(p:Pb) (x:Py) (k:Nat):AI p x k (cW p.a).length=uV p x k:=by
 unfold AI uV;rw[List.take_length]
theorem Oz(p:Pb) (x:Py) (k:Nat):qq p x (k+1)=qq p x k++uV p x k:=by
 unfold qq;rw[List.range_succ,List.flatMap_append];simp
theorem OA(p:Pb) (x:Py) (q v:Nat):AK p x q (v+1)=AK p x q v++(if decide (0<=findE p.t (x.inp.set q (v:Nat))) then [⟨x.inp.set q (v:Nat),x.word⟩] else []):=by
 unfold AK;rw[List.range_succ,List.filter_append,List.map_append];congr 1;by_cases h:decide (0<=findE p.t (x.inp.set q (v:Nat)))=true
 ·rw[List.filter_cons,if_pos h,if_pos h];rfl
 ·rw[List.filter_cons,if_neg h,if_neg h];rfl
theorem OB(p:Pb) (x:Py) (q:Nat):qr p x (q+1)=qr p x q++AK p x q (x.inp.getD q 0).toNat:=by
 unfold qr;rw[List.range_succ,List.flatMap_append,<-List.append_assoc];simp[AK,BM]
theorem Q3(p:Pb) (x:Py):qr p x x.inp.length=nearS p x:=rfl
def accJ(p:Pb) (x:Py) (k j:Nat):List Py:=qq p x k++AI p x k j
theorem E9(p:Pb) (x:Py) (k:Nat):accJ p x k 0=qq p x k:=by simp[accJ,AI]
theorem OC(p:Pb) (x:Py) (k j:Nat) (hj:j<(cW p.a).length):accJ p x k (j+1)=accJ p x k j++(if mR (cW p.a)[j] (x.word.getD k default)&&permB p (x.word.set k (cW p.a)[j]) then [⟨x.inp,x.word.set k (cW p.a)[j]⟩] else []):=by
 unfold accJ;rw[Oy p x k j hj,List.append_assoc]
theorem Q4(p:Pb) (x:Py) (k:Nat):accJ p x k (cW p.a).length=qq p x (k+1):=by
 unfold accJ;rw[Q2,Oz]
def accV(p:Pb) (x:Py) (q v:Nat):List Py:=qr p x q++AK p x q v
theorem Fa(p:Pb) (x:Py) (q:Nat):accV p x q 0=qr p x q:=by simp[accV,AK]
theorem OD(p:Pb) (x:Py) (q v:Nat):accV p x q (v+1)=accV p x q v++(if decide (0<=findE p.t (x.inp.set q (v:Nat))) then [⟨x.inp.set q (v:Nat),x.word⟩] else []):=by
 unfold accV;rw[OA,List.append_assoc]
theorem Q5(p:Pb) (x:Py) (q:Nat):accV p x q (x.inp.getD q 0).toNat=qr p x (q+1):=by
 unfold accV;rw[OB]
theorem Fb(p:Pb) (x:Py):qr p x 0=qq p x x.word.length:=by simp[qr]
theorem xr{t:Tk} {z:List Int} (h:0<=findE t z):∃ c∈t.cases,c.inp=z:=by
 unfold findE at h;rcases dN t.cases.length (fun i=>eqV (t.cases.getD i default).inp z) with ⟨e,_⟩|⟨k,hk,e,hp,_⟩
 ·rw[e]at h;omega
 ·refine⟨t.cases[k],List.getElem_mem hk,?_⟩
  unfold eqV at hp;have:=of_decide_eq_true hp
  rwa [show t.cases.getD k default=t.cases[k] by simp[hk]]at this
theorem AL{t:Tk} (h:taskE t=0) {c:Cs} (hc:c∈t.cases):(c.inp.length:Int)=t.n/\∀ i,i<c.inp.length->0<=c.inp.getD i 0/\c.inp.getD i 0<t.ins:=by
 refine⟨((dY h).2.2.2.2 c hc).inp,?_⟩;unfold taskE at h;split at h
 ·omega
 split at h
 ·omega
 obtain⟨k,hk,rfl⟩:=List.getElem_of_mem hc;have h3:=lg h k hk;unfold eU at h3;rw[show t.cases.getD k default=t.cases[k] by simp[hk]]at h3;split at h3
 ·rename_i h4;exact absurd h3 h4
 rename_i h4;have h5:vectorE t.cases[k].inp t.n t.ins=0:=by simpa using h4
 unfold vectorE at h5;split at h5
 ·omega
 split at h5
 ·omega
 rename_i h6;have h7:=(cB _ _).1 (by simpa using h6);intro i hi;have h8:=h7 i hi;rw[Bool.or_eq_false_iff]at h8;have h9:=of_decide_eq_false h8.1;have rR:=of_decide_eq_false h8.2;rw[List.getD_eq_getElem?_getD];omega
theorem pW{p:Pb} {x:Py} (hp:probE p=0) (hx:cG p x=0):x.inp.length<=5/\∀ i,i<x.inp.length->0<=x.inp.getD i 0/\x.inp.getD i 0<8:=by
 obtain⟨c,hc,e⟩:=xr (gu.1 hx).1;have ht:=(cX hp).1;have h1:=AL ht hc;rw[e]at h1;have h2:=dY ht;exact⟨by omega,fun i hi=>by have:=h1.2 i hi;omega⟩
theorem nZ{p:Pb} {x:Py} (hp:probE p=0) (hx:cG p x=0):x.word.length<=6/\∀ r∈x.word,OkR p.a.n r:=by
 have h1:=kL (gu.1 hx).2;have h2:=cX hp;exact⟨by omega,fun r hr=>lD h2.2.1 (lE _ _ h1.2 r hr)⟩
theorem J7{a:Adv} (hN:movesN a.states<=4096):(cW a).length<=4096:=by
 have h1:=AH ((dL a.states a.states.length).mergeSort fun x y=>!(Go.Proofs.ltOf roundC) y x) ((dL a.states a.states.length).mergeSort fun x y=>!(Go.Proofs.ltOf roundC) y x).length;rw[BZ,List.length_mergeSort]at h1;have:=DM a.states a.states.length;omega
theorem jc.slice{w:World} {base:Nat} {v:Value} {l:List Py} (h:jc w base v l):∃ a c,v=.slice a l.length c:=by
 obtain⟨vals,_,h2,_⟩:=h;exact h2.slice
structure NB3 (w1:World) (B1:Nat) (c1:Array Value) (t1:TypeId) (B2:Nat) (c2:Array Value) (t2:TypeId) (B3:Nat) (c3:Array Value) (t3:TypeId) (W:World):Prop where
 old:Below w1.heap.size w1 W
 h1:W.heap[B1]?=some (.cells c1 t1)
 h2:W.heap[B2]?=some (.cells c2 t2)
 h3:W.heap[B3]?=some (.cells c3 t3)
theorem NB3.up{w1 W W':World} {B1 B2 B3:Nat} {c1 c2 c3:Array Value} {t1 t2 t3:TypeId} (h:NB3 w1 B1 c1 t1 B2 c2 t2 B3 c3 t3 W) (hb:Below W.heap.size W W'):NB3 w1 B1 c1 t1 B2 c2 t2 B3 c3 t3 W':=
 ⟨aj h.old hb,ak hb h.h1,ak hb h.h2,ak hb h.h3⟩
theorem td{w1 W W':World} {v:Value} {n:Nat} {xs:List Value} (hv:aL W w1.heap.size 39 2 v n xs) (hg:W.grownBy W' v.ownBlock) {B:Nat} {c:Array Value} {t:TypeId} (h:W.heap[B]?=some (.cells c t)) (ht:39≠t):W'.heap[B]?=some (.cells c t):=
 (hg.block B (aB h) fun e=>hv.ne h ht B e.symm rfl).trans h
theorem NB3.grown{w1 W W':World} {B1 B2 B3:Nat} {c1 c2 c3:Array Value} {t1 t2 t3:TypeId} {v:Value} {n:Nat} {xs:List Value} (h:NB3 w1 B1 c1 t1 B2 c2 t2 B3 c3 t3 W) (hv:aL W w1.heap.size 39 2 v n xs) (hg:W.grownBy W' v.ownBlock) (q1:39≠t1) (q2:39≠t2) (q3:39≠t3):NB3 w1 B1 c1 t1 B2 c2 t2 B3 c3 t3 W':=
 ⟨Below.grown h.old hg h.old.size (fun g hg'=>(hv.lt g hg').1),td hv hg h.h1 q1,td hv hg h.h2 q2,td hv hg h.h3 q3⟩
theorem qA(p:Pb) (hp:probE p=0) (x:Py) (hx:cG p x=0) (vc vs vi vw:Value) (w:World) (hc:bJ w vc p.t.cases) (hs:bn w vs p.a.states) (hi:aU w vi x.inp) (hw:bN w vw x.word) :
  Calls Tryz.prog 23 #[jI p vc vs,.agg #[vi,vw]] w fun e w'=>∃ u,e=.returned u/\j9 w' u (nearS p x)/\Below w.heap.size w w':=by
 obtain⟨i0,fZ,y0z,y1z,y2z⟩:=info_parts Tryz.infoPlay;have HC:=aa hc;have HS:=aa hs;have HI:=aa hi;have HW:=aa hw;have HP:=aa hp;have HRT:=aa hx;have Dg:=pW hp hx;have KM:=nZ hp hx;have gr:=aa Dg.2;have C0:=aa KM.2;have dI:=Dg.1;have qO:=KM.1;have hN:=Cd hp;have ha:=(cX hp).2.1;have IL:Hid (∀ r∈cW p.a,OkR p.a.n r):=aa fun r hr=>lD ha hr
 have Pj:=J7 hN;obtain⟨pc,cc,rfl,_⟩:=hc.at;obtain⟨ps,cs,rfl,_⟩:=hs.at;obtain⟨pi,ci,rfl,li1,li2,ei⟩:=hi.at;obtain⟨pw,cw,rfl,lw1,lw2,ew⟩:=hw.at;have EW:=aa ew;have EI:=aa ei;clear hc hs hi hw Dg KM ew ei
 go_enter Tryz.func23,Tryz.ntmps23
 go_wp2_with fail
 refine aT (fun W=>Below w.heap.size w W/\W.heap[w.heap.size]?=some (.cells #[.int .i64 p.t.n,.int .i64 p.t.ins,.int .i64 p.t.outs,.slice pc p.t.cases.length cc,.int .i64 p.a.n,.slice ps p.a.states.length cs,.int .i64 p.rounds] 29)/\W.heap[w.heap.size+1]?=some (.cells #[.slice pi x.inp.length ci,.slice pw x.word.length cw] 39)) ⟨by go_grown,aq _ (ar _ _),aX _ _ _⟩ (fun W0 bd=>?_);obtain⟨aH,bD,it⟩:=bd;refine(J3 p.a ha hN _ W0 (HS.out.up up_moves aH)).mono ?_;rintro e w1 ⟨u,rfl,hu,aG⟩;have b7:=aj aH aG;have fd:=aa (ak aG bD);have gk:=aa (ak aG it);have FS:Hid (cW p.a=cW p.a):=aa rfl;obtain⟨pl,cl,rfl,ll1,ll2,el⟩:=hu.at;have EL:=aa el;have fB:=aa b7;have du:=b7.size;have zA:=aB fd.out;have zX:=aB gk.out;have tX:=ae gk.out;clear bD it aH aG el hu b7 ha hN hp hx;have eg1:∀ args w,(callFunc 74 args).run Tryz.prog w=.ok (.enter 74 args) w:=enters_of Tryz.func74 (by kernel_rfl) rfl;have eg2:∀ args w,(callFunc 75 args).run Tryz.prog w=.ok (.enter 75 args) w:=enters_of Tryz.func75 (by kernel_rfl) rfl;generalize FN:cW p.a=LL at EL Pj ll1 ll2 IL;have rG:=aa FN;clear FN FS
 go_wp2_with fail
 clear tX
 go_loopw [5,26] (fun o i wr=>Below w1.heap.size w1 wr/\∃ k:Nat,k<=x.word.length/\i=.int .i64 k/\Hid (jc wr w1.heap.size o (qq p x k))/\(qq p x k).length<=k * 4096) (fun _ i _=>x.word.length - (intOf i).toNat)
 case atStart=>exact⟨Below.refl _ _,0,by omega,rfl,aa (jc.nil _ _),by simp[qq]⟩
 case round=>
  obtain⟨aJ,k,hk,rfl,bL,Rx⟩:=hrel;have zr:=aJ.size;have zXr:w.heap.size+1<wr.heap.size:=by omega
  have zAr:w.heap.size<wr.heap.size:=by omega
  by_cases aF:k<x.word.length
  ·obtain⟨b1,o1,rfl,⟨c0,_⟩,⟨c1,_⟩,⟨c2,_⟩,⟨c3,_⟩,⟨c4,_⟩,⟨c5,_⟩,⟨c6,_⟩⟩:=EW.out k aF
   have fY:=aj fB.out aJ;have d0:=ay fY c0;have d1:=ay fY c1;have d2:=ay fY c2;have d3:=ay fY c3;have d4:=ay fY c4;have d5:=ay fY c5;have d6:=ay fY c6;have tX:=ae (ak aJ gk.out);have DX:Hid (OkR p.a.n x.word[k]):=aa (C0.out _ (List.getElem_mem aF));have HOG:Hid (x.word.getD k default=x.word[k]):=aa (by simp[aF]);generalize x.word[k]=old at d0 d1 d2 d3 d4 d5 d6 DX HOG;clear c0 c1 c2 c3 c4 c5 c6 fY;obtain⟨ao,co,rfl⟩:=bL.out.slice
   go_wp2_with fail
   refine(N' _ _ _ _ _).mono ?_;rintro e w2 ⟨rfl,rfl⟩;clear d0 d1 d2 d3 d4 d5 d6 tX
   go_wp2_with fail
   refine bw (fun W=>Below w1.heap.size w1 W/\Below wr.heap.size wr W/\W.heap[wr.heap.size]?=some (.cells #[.int .i64 old.g.n,.int .i64 old.g.h0,.int .i64 old.g.h1,.int .i64 old.g.h2,.int .i64 old.g.h3,.int .i64 old.g.h4,.int .i64 old.f] 52)/\W.heap[wr.heap.size+1]?=some (.cells #[.slice (some ⟨b1,o1,none⟩) x.word.length cw] 37)/\W.heap[wr.heap.size+1+1]?=some (.cells #[.int .i64 k] 3)) ⟨aj aJ (by go_grown),by go_grown,aq _ (aq _ (ar _ _)),aq _ (aX _ _ _),cV _ _ _ _⟩ (fun W3 hW3=>?_);obtain⟨Mt,vD,Vs,zS,Da⟩:=hW3;have un:=aa Vs;have fE:=aa zS;have rH:=aa Da;have HB13:=aa Mt;have zO3:=aB Vs;have zV3:=aB zS;have zK3:=aB Da;have lP:=aa (bL.out.up vD);clear Vs zS Da bL;obtain⟨wrA,xM⟩:∃ x,x=wr:=⟨_,rfl⟩;subst xM
   go_loopw [5,37] (fun o i wr=>NB3 w1 wrA.heap.size #[.int .i64 old.g.n,.int .i64 old.g.h0,.int .i64 old.g.h1,.int .i64 old.g.h2,.int .i64 old.g.h3,.int .i64 old.g.h4,.int .i64 old.f] 52 (wrA.heap.size+1) #[.slice (some ⟨b1,o1,none⟩) x.word.length cw] 37 (wrA.heap.size+1+1) #[.int .i64 k] 3 wr/\∃ j:Nat,j<=LL.length/\i=.int .i64 j/\Hid (jc wr w1.heap.size o (accJ p x k j))/\(accJ p x k j).length<=k * 4096+j) (fun _ i _=>LL.length - (intOf i).toNat)
   case atStart=>exact⟨⟨Mt,un.out,fE.out,rH.out⟩,0,by omega,rfl,by rw[E9];exact lP,by rw[E9];omega⟩
   case round=>
    obtain⟨lK,j,hj,rfl,je,CD⟩:=hrel;have xJ:=aa lK;have fY:=lK.old;have zsz:=fY.size;have zOr:=aB lK.h1;have zKr:=aB lK.h3;obtain⟨ao2,co2,rfl⟩:=je.out.slice;by_cases qb:j<LL.length
    ·obtain⟨b2,o2,rfl,⟨⟨c0,_⟩,⟨c1,_⟩,⟨c2,_⟩,⟨c3,_⟩,⟨c4,_⟩,⟨c5,_⟩,⟨c6,_⟩⟩⟩:=EL.out j qb
     have d0:=ay fY c0;have d1:=ay fY c1;have d2:=ay fY c2;have d3:=ay fY c3;have d4:=ay fY c4;have d5:=ay fY c5;have d6:=ay fY c6;have Tc:Hid (OkR p.a.n LL[j]):=aa (IL.out _ (List.getElem_mem qb))
     have oD:Hid (accJ p x k (j+1)=accJ p x k j++(if mR LL[j] (x.word.getD k default)&&permB p (x.word.set k LL[j]) then [⟨x.inp,x.word.set k LL[j]⟩] else [])):=aa (by
      have h9:=OC p x k j (by rw[rG.out];exact qb);simp only[rG.out]at h9
      exact h9)
     generalize LL[j]=r at d0 d1 d2 d3 d4 d5 d6 Tc oD;generalize accJ p x k j=AJ at je CD oD;rw[HOG.out]at oD;have tO:=ae lK.h1;clear lK;clear c0 c1 c2 c3 c4 c5 c6
     go_wp2_with fail
     clear d0 d1 d2 d3 d4 d5 d6 tO;refine aT (fun W=>Below wr.heap.size wr W/\W.heap[wr.heap.size]?=some (.cells #[.int .i64 r.g.n,.int .i64 r.g.h0,.int .i64 r.g.h1,.int .i64 r.g.h2,.int .i64 r.g.h3,.int .i64 r.g.h4,.int .i64 r.f] 52)) ⟨by go_grown,ar _ _⟩ (fun W4 hW4=>?_);obtain⟨bM,hR4⟩:=hW4;refine(QP p.a.n r old Tc.out DX.out W4).mono ?_;rintro e w5 ⟨rfl,dy⟩;have rN:=aj bM dy;generalize FA:mR r old=mb at oD;clear FA;cases mb with
     | false=>
      have gj:Hid (accJ p x k (j+1)=AJ):=aa (by rw[oD.out];simp);clear oD
      go_wp2_with fail
      go_roundw
      case rel=>exact⟨xJ.out.up rN,j+1,by omega,by go_num,by rw[gj.out];exact aa (je.out.up rN),by rw[gj.out];omega⟩
      case measure=>simp[intOf];omega
     | true=>
      have tR:=ae (ak dy hR4);have hVr:=ak rN xJ.out.h2;have hKr:=ak rN xJ.out.h3;have Ry:=aj fY rN;have IO:=aa (aj fB.out Ry);have Po:=aa (J0 p.a.n r Tc.out x.word C0.out k aF (by omega) _ w5 (HW.out.up up_round IO.out) _ _ hVr hKr);have HB45:=aa rN;have Pf:=aa Ry;clear hR4 hVr hKr bM dy rN Ry
      go_wp2_with fail
      refine Po.out.mono ?_;rintro e w6 ⟨u6,rfl,CS,fD⟩;obtain⟨a6,c6,rfl⟩:=CS.slice;have Ff:(x.word.set k r).length<=17592186044416:=by rw[List.length_set];omega
      have hws2:(x.word.set k r).length<=1048576:=by rw[List.length_set];omega
      have RW:=lw CS (fun i hi=>Ia (n:=p.a.n) (by
       rcases List.mem_or_eq_of_mem_set (List.getElem_mem hi) with h|h
       ·exact C0.out _ h
       ·rw[h];exact Tc.out)) Ff
      have Jj:=aa CS;have tj:=aj Pf.out fD;have Jr:=ak tj fd.out;have tA:=ae Jr;have zA6:=aB Jr;have HWD6:=aa RW;have Vg:=aa (vP p HP.out _ _ _ (x.word.set k r) w6 (HC.out.up up_case (aj fB.out tj)) (HS.out.up up_moves (aj fB.out tj)) RW);have Rt:=aa tj;have nE:=aa (aj HB45.out fD);clear tR Po CS RW fD tj Jr;generalize x.word.set k r=wd at Jj HWD6 Vg oD Ff hws2
      go_wp2_with fail
      refine Vg.out.mono ?_;rintro e w7 ⟨rfl,jA⟩;generalize S2:permB p wd=pb at oD;clear S2 tA Vg;have rA:=aj nE.out jA;cases pb with
      | false=>
       have gj:Hid (accJ p x k (j+1)=AJ):=aa (by rw[oD.out];simp);clear oD
       go_wp2_with fail
       go_roundw
       case rel=>exact⟨xJ.out.up rA,j+1,by omega,by go_num,by rw[gj.out];exact aa (je.out.up rA),by rw[gj.out];omega⟩
       case measure=>simp[intOf];omega
      | true=>
       have gj:Hid (accJ p x k (j+1)=AJ++[⟨x.inp,wd⟩]):=aa (by rw[oD.out];simp);have AT:=aj Rt.out jA;have tX:=ae (ak AT gk.out);have OT:=Jj.out.up jA;have VT:=aa OT;have Sc:=aa rA;have IF:=aa AT;have hz67:=rA.size;have hz56:=IO.out.size;clear oD OT jA AT Jj rA
       go_wp2_with fail
       refine(iL _ x.inp w7 (HI.out.up up_int (aj fB.out IF.out)) (by omega)).mono ?_;rintro e w8 ⟨u8,rfl,CW,rF⟩;obtain⟨a8,c8,rfl⟩:=CW.slice;have AR:=aj Sc.out rF;have hA:Below w8.heap.size w8 (w8.alloc (.cells #[.slice a8 x.inp.length c8,.slice a6 wd.length c6] 39)):=by go_grown
       have oy:=aj AR hA;have CG:=aa oy;have hzt:=oy.size;have hz8:=AR.size;obtain⟨vals,Ab,zz,Pv⟩:=je.out.up oy;have yg:=aa zz;have VC:=aa Pv;have U9:=aa Ab;have VB:Hid (aL (w8.alloc (.cells #[.slice a8 x.inp.length c8,.slice a6 wd.length c6] 39)) w1.heap.size 3 1 (.slice a8 x.inp.length c8) x.inp.length (x.inp.map (Value.int .i64))):=aa ((CW.up hA).base IF.out.size);have VW:Hid (aL (w8.alloc (.cells #[.slice a8 x.inp.length c8,.slice a6 wd.length c6] 39)) w1.heap.size 52 7 (.slice a6 wd.length c6) wd.length (bi wd)):=aa (((VT.out.up rF).up hA).base Pf.out.size)
       have bj:∀ j u',[Value.slice a8 x.inp.length c8,Value.slice a6 wd.length c6][j]?=some u'->(w8.alloc (.cells #[.slice a8 x.inp.length c8,.slice a6 wd.length c6] 39)).cell? (Addr.add ⟨w8.heap.size,0,none⟩ j)=some u':=fun j u' hj=>by
        have e1:(Addr.add ⟨w8.heap.size,0,none⟩ j)=⟨w8.heap.size,j,none⟩:=by unfold Addr.add;split<;>simp_all
        rw[e1,ae (ar w8 _)];simpa using hj
       have bZ:=aa bj;clear tX bj zz Pv Ab CW rF AR hA oy;generalize IP:AJ.length=an at yg CD;have Jp:=aa IP;clear IP;have q1:(an+1) * 48<=140737488355328:=by omega
       have q2:an+1<=maxLen:=by unfold maxLen;omega
       have q3:w1.heap.size<=(w8.alloc (.cells #[.slice a8 x.inp.length c8,.slice a6 wd.length c6] 39)).heap.size:=by simp;omega
       go_wp2_with (at_builtin;(refine bO _ rfl (.tmp 51) (.tmp 57) 57 rfl w1.heap.size 39 i0 _ 2 48 Tryz.underlying57 fZ y0z y1z y2z rfl (by decide) _ an (pI vals) rfl yg.out ⟨w8.heap.size,0,none⟩ 1 1 [.slice a8 x.inp.length c8,.slice a6 wd.length c6] rfl rfl bZ.out (by simp[Value.oneCell']) q2 q1 q3 ?_;intro v' w9 mX kZ hwh9;obtain⟨av9,cv9,rfl⟩:=mX.slice))
       go_roundw
       case rel=>
        refine⟨(xJ.out.up CG.out).grown yg.out kZ (by decide) (by decide) (by decide),j+1,by omega,by go_num,aa ?_,?_⟩
        ·rw[gj.out]
         exact jc.snoc U9.out (by rw[Jp.out];exact yg.out) VC.out VB.out VW.out kZ (by rw[Jp.out];exact mX)
        ·rw[gj.out,List.length_append,Jp.out]
         simp;omega
       case measure=>simp[intOf];omega
    ·obtain rfl:j=LL.length:=by omega
     have PP:Hid (qq p x (k+1)=accJ p x k LL.length):=aa (by rw[<-Q4,rG.out])
     go_wp2_with fail
     go_roundw
     case rel=>exact⟨fY,k+1,by omega,by go_num,by rw[PP.out];exact je,by rw[PP.out];omega⟩
     case measure=>simp[intOf];omega
  ·obtain rfl:k=x.word.length:=by omega
   have tX:=ae (ak aJ gk.out);obtain⟨ao,co,rfl⟩:=bL.out.slice
   go_wp2_with fail
   clear tX;obtain⟨wrA,xM⟩:∃ x,x=wr:=⟨_,rfl⟩;subst xM
   go_loopw [5,64] (fun o i wr=>Below w1.heap.size w1 wr/\∃ q:Nat,q<=x.inp.length/\i=.int .i64 q/\Hid (jc wr w1.heap.size o (qr p x q))/\(qr p x q).length<=24576+q * 8) (fun _ i _=>x.inp.length - (intOf i).toNat)
   case atStart=>exact⟨aJ,0,by omega,rfl,by rw[Fb];exact bL,by rw[Fb];omega⟩
   case round=>
    clear aJ bL Rx zr zXr zAr aF;obtain⟨aJ,q,hq,rfl,bL,Rx⟩:=hrel;have zr:=aJ.size;have zXr:w.heap.size+1<wr.heap.size:=by omega
    have zAr:w.heap.size<wr.heap.size:=by omega
    obtain⟨ao,co,rfl⟩:=bL.out.slice;by_cases aF:q<x.inp.length
    ·obtain⟨b1,o1,rfl,c0,_⟩:=EI.out q aF
     rw[Nat.mul_one]at c0;have fY:=aj fB.out aJ;have VL:=gr.out q aF;rw[show x.inp.getD q 0=x.inp[q] by simp[aF]]at VL;obtain⟨n0,sP⟩:∃ n0:Nat,x.inp[q]=(n0:Int):=⟨x.inp[q].toNat,by omega⟩;have PY:Hid ((x.inp.getD q 0).toNat=n0):=aa (by rw[show x.inp.getD q 0=x.inp[q] by simp[aF],sP];simp);rw[sP]at c0 VL;have d0:=ay fY c0;have tX:=ae (ak aJ gk.out);have hn8:n0<8:=by omega
     clear c0 fY sP VL
     go_wp2_with fail
     refine(Oa _ _ _ _ _).mono ?_;rintro e w2 ⟨rfl,rfl⟩;clear d0 tX
     go_wp2_with fail
     refine bw (fun W=>Below w1.heap.size w1 W/\Below wr.heap.size wr W/\W.heap[wr.heap.size]?=some (.cells #[.slice (some ⟨b1,o1,none⟩) x.inp.length ci] 36)/\W.heap[wr.heap.size+1]?=some (.cells #[.int .i64 q] 3)) ⟨aj aJ (by go_grown),by go_grown,aq _ (ar _ _),aX _ _ _⟩ (fun W3 hW3=>?_);obtain⟨Mt,vD,zS,Da⟩:=hW3;have fE:=aa zS;have rH:=aa Da;have lP:=aa (bL.out.up vD);clear zS Da bL;obtain⟨wrB,hwB⟩:∃ x,x=wr:=⟨_,rfl⟩;subst hwB
     go_loopw [5,74] (fun o i wr=>NB3 w1 wrB.heap.size #[.slice (some ⟨b1,o1,none⟩) x.inp.length ci] 36 (wrB.heap.size+1) #[.int .i64 q] 3 (wrB.heap.size+1) #[.int .i64 q] 3 wr/\∃ v:Nat,v<=n0/\i=.int .i64 v/\Hid (jc wr w1.heap.size o (accV p x q v))/\(accV p x q v).length<=24576+q * 8+v) (fun _ i _=>n0 - (intOf i).toNat)
     case atStart=>exact⟨⟨Mt,fE.out,rH.out,rH.out⟩,0,by omega,rfl,by rw[Fa];exact lP,by rw[Fa];omega⟩
     case round=>
      obtain⟨lK,v,hv,rfl,je,CD⟩:=hrel;have xJ:=aa lK;have fY:=lK.old;have zsz:=fY.size;obtain⟨ao2,co2,rfl⟩:=je.out.slice;by_cases hvt:v<n0
      ·have oD:Hid (accV p x q (v+1)=accV p x q v++(if decide (0<=findE p.t (x.inp.set q (v:Nat))) then [⟨x.inp.set q (v:Nat),x.word⟩] else [])):=aa (OD p x q v)
       generalize accV p x q v=AJ at je CD oD;have IO:=aa (aj fB.out fY);have Pf:=aa fY;have Po:=aa (J1 (v:Int) (by unfold bK;omega) x.inp (fun y hy=>(na HI.out) y hy) q aF (by omega) _ wr (HI.out.up up_int IO.out) _ _ lK.h1 lK.h2);clear lK fY
       go_wp2_with fail
       refine Po.out.mono ?_;rintro e w6 ⟨u6,rfl,CS,fD⟩;obtain⟨a6,c6,rfl⟩:=CS.slice;have Ff:(x.inp.set q (v:Int)).length<=17592186044416:=by rw[List.length_set];omega
       have Si:=lA CS (fun y hy=>by
        rcases List.mem_or_eq_of_mem_set hy with h|h
        ·exact na HI.out _ h
        ·rw[h];unfold bK;omega) Ff
       have Jj:=aa CS;have tj:=aj Pf.out fD;have Jr:=ak tj fd.out;have tA:=ae Jr;have zA6:=aB Jr;have HIN6:=aa Si;have Jn:=aa (xp p.t _ _ (x.inp.set q (v:Int)) w6 (HC.out.up up_case (aj fB.out tj)) Si);have PO:kR p.t (x.inp.set q (v:Int))=fw p.t (x.inp.set q (v:Int)):=by unfold kR;rw[if_neg (by simpa using (cX HP.out).1)]
       rw[PO]at Jn;have Rt:=aa tj;have nE:=aa fD;clear Po CS Si fD tj Jr PO;generalize x.inp.set q (v:Int)=inn at Jj HIN6 Jn oD Ff
       go_wp2_with fail
       refine Jn.out.mono ?_;rintro e w7 ⟨rfl,jA⟩;clear tA Jn;have rA:=aj nE.out jA;by_cases SQ:findE p.t inn<0
       ·have h1:fw p.t inn=(0,6):=by unfold fw;rw[if_pos SQ]
        have gj:Hid (accV p x q (v+1)=AJ):=aa (by rw[oD.out,if_neg (by simp;omega)];simp);rw[h1];clear oD h1 SQ
        go_wp2_with fail
        go_roundw
        case rel=>exact⟨xJ.out.up rA,v+1,by omega,by go_num,by rw[gj.out];exact aa (je.out.up rA),by rw[gj.out];omega⟩
        case measure=>simp[intOf];omega
       ·have h1:fw p.t inn=(findE p.t inn,0):=by unfold fw;rw[if_neg SQ]
        have gj:Hid (accV p x q (v+1)=AJ++[⟨inn,x.word⟩]):=aa (by rw[oD.out,if_pos (by simp;omega)]);rw[h1];generalize findE p.t inn=fe;have AT:=aj Rt.out jA;have tX:=ae (ak AT gk.out);have OT:=Jj.out.up jA;have VT:=aa OT;have Sc:=aa rA;have IF:=aa AT;have hz67:=rA.size;have hz56:=IO.out.size;have zX7:w.heap.size+1<w7.heap.size:=by omega
        clear oD OT jA AT Jj rA h1 SQ
        go_wp2_with fail
        refine(iN _ x.word w7 (HW.out.up up_round (aj fB.out IF.out)) (by omega)).mono ?_;rintro e w8 ⟨u8,rfl,CW,rF⟩;obtain⟨a8,c8,rfl⟩:=CW.slice;have AR:=aj Sc.out rF;have hA:Below w8.heap.size w8 (w8.alloc (.cells #[.slice a6 inn.length c6,.slice a8 x.word.length c8] 39)):=by go_grown
        have oy:=aj AR hA;have CG:=aa oy;have hzt:=oy.size;have hz8:=AR.size;obtain⟨vals,Ab,zz,Pv⟩:=je.out.up oy;have yg:=aa zz;have VC:=aa Pv;have U9:=aa Ab;have VW:Hid (aL (w8.alloc (.cells #[.slice a6 inn.length c6,.slice a8 x.word.length c8] 39)) w1.heap.size 52 7 (.slice a8 x.word.length c8) x.word.length (bi x.word)):=aa ((CW.up hA).base IF.out.size);have VB:Hid (aL (w8.alloc (.cells #[.slice a6 inn.length c6,.slice a8 x.word.length c8] 39)) w1.heap.size 3 1 (.slice a6 inn.length c6) inn.length (inn.map (Value.int .i64))):=aa (((VT.out.up rF).up hA).base Pf.out.size)
        have bj:∀ j u',[Value.slice a6 inn.length c6,Value.slice a8 x.word.length c8][j]?=some u'->(w8.alloc (.cells #[.slice a6 inn.length c6,.slice a8 x.word.length c8] 39)).cell? (Addr.add ⟨w8.heap.size,0,none⟩ j)=some u':=fun j u' hj=>by
         have e1:(Addr.add ⟨w8.heap.size,0,none⟩ j)=⟨w8.heap.size,j,none⟩:=by unfold Addr.add;split<;>simp_all
         rw[e1,ae (ar w8 _)];simpa using hj
        have bZ:=aa bj;clear tX bj zz Pv Ab CW rF AR hA oy;generalize IP:AJ.length=an at yg CD;have Jp:=aa IP;clear IP;have q1:(an+1) * 48<=140737488355328:=by omega
        have q2:an+1<=maxLen:=by unfold maxLen;omega
        have q3:w1.heap.size<=(w8.alloc (.cells #[.slice a6 inn.length c6,.slice a8 x.word.length c8] 39)).heap.size:=by simp;omega
        go_wp2_with (at_builtin;(refine bO _ rfl (.tmp 89) (.tmp 95) 57 rfl w1.heap.size 39 i0 _ 2 48 Tryz.underlying57 fZ y0z y1z y2z rfl (by decide) _ an (pI vals) rfl yg.out ⟨w8.heap.size,0,none⟩ 1 1 [.slice a6 inn.length c6,.slice a8 x.word.length c8] rfl rfl bZ.out (by simp[Value.oneCell']) q2 q1 q3 ?_;intro v' w9 mX kZ hwh9;obtain⟨av9,cv9,rfl⟩:=mX.slice))
        go_roundw
        case rel=>
         refine⟨(xJ.out.up CG.out).grown yg.out kZ (by decide) (by decide) (by decide),v+1,by omega,by go_num,aa ?_,?_⟩
         ·rw[gj.out]
          exact jc.snoc U9.out (by rw[Jp.out];exact yg.out) VC.out VB.out VW.out kZ (by rw[Jp.out];exact mX)
         ·rw[gj.out,List.length_append,Jp.out]
          simp;omega
        case measure=>simp[intOf];omega
      ·obtain rfl:v=n0:=by omega
       have PP:Hid (qr p x (q+1)=accV p x q v):=aa (by rw[<-Q5,PY.out])
       go_wp2_with fail
       go_roundw
       case rel=>exact⟨fY,q+1,by omega,by go_num,by rw[PP.out];exact je,by rw[PP.out];omega⟩
       case measure=>simp[intOf];omega
    ·obtain rfl:q=x.inp.length:=by omega
     rw[Q3]at bL Rx
     go_wp2_with fail
     go_ret
     refine⟨_,rfl,bL.out.plays (fun y hy=>?_) (fun y hy=>?_) (by omega),aj fB.out aJ⟩
     ·have h:=iD HP.out HRT.out hy
      have h2:=pW HP.out h.1;refine⟨fun z hz=>?_,by omega⟩;obtain⟨i,hi,rfl⟩:=List.getElem_of_mem hz;have h3:=h2.2 i hi;rw[show y.inp.getD i 0=y.inp[i] by simp[hi]]at h3;unfold bK;omega
     ·have h:=iD HP.out HRT.out hy
      have h2:=nZ HP.out h.1;exact⟨fun i hi=>Ia (h2.2 _ (List.getElem_mem hi)),by omega⟩
def Kr(p:Pb) (m:Mac) (f:List (Ky × Value)):Prop:=∀ k v,(k,v)∈f->∃ y,cG p y=0/\eL y=k/\v=.bool (badB p m y)
structure BX (mb:Nat) (w w':World):Prop where
 os:w'.os=w.os
 tape:w'.tape=w.tape
 output:w'.output=w.output
 size:w.heap.size<=w'.heap.size
 block:∀ k,k<w.heap.size->k≠mb->w'.heap[k]?=w.heap[k]?
theorem BX.of_below{mb:Nat} {w w':World} (h:Below w.heap.size w w'):BX mb w w':=⟨h.os,h.tape,h.output,h.size,fun k hk _=>h.block k hk⟩
theorem BX.refl(mb:Nat) (w:World):BX mb w w:=⟨rfl,rfl,rfl,Nat.le_refl _,fun _ _ _=>rfl⟩
theorem BX.trans{mb:Nat} {a b c:World} (h:BX mb a b) (k:BX mb b c):BX mb a c:=⟨k.os.trans h.os,k.tape.trans h.tape,k.output.trans h.output,Nat.le_trans h.size k.size,fun i hi hn=>(k.block i (Nat.lt_of_lt_of_le hi h.size) hn).trans (h.block i hi hn)⟩
theorem BX.put{mb:Nat} {w:World} (o:Obj):BX mb w (w.putObj mb o):=⟨rfl,rfl,rfl,by simp,fun k _ hn=>World.putObj_heap_other hn⟩
theorem BX.ck{mb:Nat} {w w':World} (h:BX mb w w') {es:Array MapEntry} {c:Nat} (hm:w.heap[mb]?=some (.map es c)):CK w w':=fun k o hk ho=>
 (h.block k (aB hk) (fun e=>by subst e;rw[hm]at hk;cases hk;cases ho)).trans hk
theorem BX.below{mb:Nat} {w0 w w':World} {n:Nat} (h:BX mb w w') (hb:Below n w0 w) (hn:n<=mb) (h0:n<=w0.heap.size):Below n w0 w':=
 ⟨h.os.trans hb.os,h.tape.trans hb.tape,h.output.trans hb.output,Nat.le_trans hb.size h.size,fun k hk=>(h.block k (by have:=hb.size;omega) (by omega)).trans (hb.block k hk)⟩
theorem J8{p:Pb} {m:Mac} {f:List (Ky × Value)} (hp:probE p=0) (hf:Kr p m f) {x:Py} (hx:cG p x=0) {v:Value} (h:eE f (eL x)=some v):v=.bool (badB p m x):=by
 unfold eE at h;cases hq:f.find? (fun q=>decide (eL x=q.1)) with
 | none=>rw[hq]at h;cases h
 | some q=>
  rw[hq]at h;have h1:=List.mem_of_find?_eq_some hq
  have h2:eL x=q.1:=by
   have h3:decide (eL x=q.1)=true:=List.find?_some (p:=fun q:Ky × Value=>decide (eL x=q.1)) hq;exact of_decide_eq_true h3
  obtain⟨y,hy,hk,hv⟩:=hf q.1 q.2 h1;have oz:=gu.1 hx;have Wp:=gu.1 hy;obtain⟨c,hc,ec⟩:=xr oz.1;obtain⟨d,hd,ed⟩:=xr Wp.1;have l1:=(AL (cX hp).1 hc).1;have l2:=(AL (cX hp).1 hd).1;rw[ec]at l1;rw[ed]at l2;have w1:=kL oz.2;have w2:=kL Wp.2;have:x=y:=Ol (by omega) (pW hp hx).1 (by omega) (nZ hp hx).1 (by rw[h2,hk]);subst this;have:q.2=v:=by simpa using h
  rw[<-this,hv]
theorem zu{P:Program} {ops:Array Oper} {Q:Exit->Act->World->Prop} {l:List Oper} {a:Act} {W:World} (I:World->Prop) (h:I W) (k:∀ W0,I W0->wpList P ops Q l a W0):wpList P ops Q l a W:=k W h
theorem Q6{W:World} {sp:Option Addr} {n c:Nat} {l:List Int} (h:aU W (.slice sp n c) l):∀ (j:Nat) (v:Value),(l.map (Value.int .i64))[j]?=some v->∃ a,sp=some a/\W.cell? (a.add j)=some v:=fun j v hj=>by
 obtain⟨a,cap,e,_,_,h3⟩:=h;rw[List.getElem?_map]at hj;cases hq:l[j]? with
 | none=>rw[hq]at hj;cases hj
 | some y=>
  rw[hq]at hj;obtain⟨b,off,ea,hr⟩:=h3 j y hq;simp only[Value.slice.injEq]at e;obtain⟨rfl,_,_⟩:=e;refine⟨_,ea,?_⟩;have e1:(⟨b,off,none⟩:Addr).add j=⟨b,off+j,none⟩:=by unfold Addr.add;split<;>simp_all
  rw[e1];have:=hr.1;rw[Nat.mul_one]at this;rw[this];simpa using hj
theorem Q7{W:World} {sp:Option Addr} {n c:Nat} {l:List Rd} (h:bN W (.slice sp n c) l):∀ (j:Nat) (v:Value),(bi l)[j]?=some v->∃ a,sp=some a/\W.cell? (a.add j)=some v:=fun j v hj=>by
 obtain⟨a,cap,e,_,_,h3⟩:=h
 have aF:j<l.length * 7:=by
  have:=(List.getElem?_eq_some_iff.1 hj).1
  rwa [ge]at this
 have hi:j / 7<l.length:=by omega
 have hm:j % 7<7:=Nat.mod_lt _ (by omega);have h4:=k7 Rd.c 7 (fun _=>rfl) l (j / 7) (j % 7) hi hm;rw[show j / 7 * 7+j % 7=j by omega]at h4;have h5:(bi l)[j]?=l[j / 7].c[j % 7]?:=h4;rw[hj]at h5;obtain⟨b,off,ea,⟨⟨r0,_⟩,⟨r1,_⟩,⟨r2,_⟩,⟨r3,_⟩,⟨r4,_⟩,⟨r5,_⟩,⟨r6,_⟩⟩⟩:=h3 (j / 7) _ (List.getElem?_eq_getElem hi);simp only[Value.slice.injEq]at e;obtain⟨rfl,_,_⟩:=e;refine⟨_,ea,?_⟩
 have e1:(⟨b,off,none⟩:Addr).add j=⟨b,off+j / 7 * 7+j % 7,none⟩:=by
  have:off+j / 7 * 7+j % 7=off+j:=by omega
  rw[this];unfold Addr.add;split<;>simp_all
 rw[e1];generalize l[j / 7]=y at *;generalize off+j / 7 * 7=O at *;generalize j % 7=r at *;rcases (show r=0\/r=1\/r=2\/r=3\/r=4\/r=5\/r=6 by omega) with q|q|q|q|q|q|q<;>subst q<;>simp at h5<;>rw[h5]<;>assumption
theorem Cg(p:Pb) (hp:probE p=0) (vc vs:Value) (m:Mac) (vf vy vt vo vi vw:Value) (x:Py) (hx:cG p x=0) (w:World) (hc:bJ w vc p.t.cases) (hs:bn w vs p.a.states) (hf:bF w vf m.first) (hy:eZ w vy m.syms) (ht:dh w vt m.steps) (ho:fj w vo m.out) (hi:aU w vi x.inp) (hw:bN w vw x.word)
  (Bm Bp Bq mb:Nat) (f:List (Ky × Value)) (h1:w.heap[Bm]?=some (.cells #[.map (some mb)] 168)) (h2:w.heap[Bp]?=some (.cells (rs p vc vs) 29)) (h3:w.heap[Bq]?=some (.cells (bX m vf vy vt vo) 35)) (hG:df Ky.v w mb f) (hk:Kr p m f) :
  Calls Tryz.prog 70 #[.agg #[vi,vw],.pointer (some ⟨Bm,0,none⟩),.pointer (some ⟨Bp,0,none⟩),.pointer (some ⟨Bq,0,none⟩)] w fun e w'=>e=.returned (.bool (badB p m x))/\BX mb w w'/\∃ f',df Ky.v w' mb f'/\Kr p m f':=by
 have HC:=aa hc;have HS:=aa hs;have HF:=aa hf;have HY:=aa hy;have HT:=aa ht;have HO:=aa ho;have HI:=aa hi;have HW:=aa hw;have HG:=aa hG;have HK:=aa hk;have HP:=aa hp;have HX:=aa hx;have H1:=aa h1;have H2:=aa h2;have H3:=aa h3;have dI:=(pW hp hx).1;have qO:=(nZ hp hx).1;have hN:=Cd hp;have hB1:=aB h1;have KE:=aB h2;have gQ:=aB h3;have FA:=hG.lt;obtain⟨pc,cc,rfl,_⟩:=hc.at;obtain⟨ps,cs,rfl,_⟩:=hs.at;obtain⟨pf,cf,rfl,_⟩:=hf.at;obtain⟨py,cy,rfl,_⟩:=hy.at;obtain⟨pt,ct,rfl,_⟩:=ht.at;obtain⟨po,co,rfl,_⟩:=ho.at;obtain⟨pi,ci,rfl,_⟩:=hi.at;obtain⟨pw,cw,rfl,_⟩:=hw.at;clear hc hs hf hy ht ho hi hw hG hk hp hx h1 h2 h3
 go_enter Tryz.func70,Tryz.ntmps70
 go_wp2_with fail
 refine bw (fun W=>Below w.heap.size w W/\W.heap[w.heap.size]?=some (.cells #[.slice pi x.inp.length ci,.slice pw x.word.length cw] 39)/\W.heap[w.heap.size+1]?=some (.cells (gT []).c 171)) ⟨by go_grown,aq _ (ar _ _),aX _ _ _⟩ (fun W1 fR=>?_);obtain⟨aG,Wi,FJ⟩:=fR;have gk:=aa Wi;have SY:=aa FJ;have iy:=aa aG;have tX:=ae Wi;clear Wi FJ
 go_still_tail 4,(by kernel_rfl)
 change wpList _ _ _ _ _ W1.drew
 have qE:∀ j,j<47->((gT []).c[j]?).isSome=true:=fun j hj=>by
  rw[Array.getElem?_eq_getElem (show j<(gT []).c.size from hj)];rfl
 have fk:∀ j,j<(x.inp.map (Value.int .i64)).length->(W1.drew.cell? ⟨w.heap.size+1,0+j,none⟩).isSome=true:=fun j hj=>by
  show (W1.cell? ⟨w.heap.size+1,0+j,none⟩).isSome=true
  rw[Nat.zero_add,ae SY.out];exact qE j (by simp at hj;omega)
 have zD:∀ j,j<(x.inp.map (Value.int .i64)).length->W1.drew.frozen? ⟨w.heap.size+1,0+j,none⟩=false:=fun j _=>aD SY.out _
 refine vN rfl (.tmp 13) (.tmp 15) 36 36 rfl 3 1 Tryz.underlying36 (by kernel_rfl) (w.heap.size+1) 0 5 5 pi x.inp.length ci rfl rfl (x.inp.map (Value.int .i64)) (by have hm:Nat.min x.inp.length 5=x.inp.length:=Nat.min_eq_left dI;rw[List.length_map,Nat.mul_one,hm]) (Q6 ((HI.out.up up_int iy.out).up up_int (Below.refl _ _).drew)) fk zD (by intro v hv;obtain⟨y,_,rfl⟩:=List.mem_map.1 hv;rfl) ?_;clear tX fk zD qE;refine zu (fun W=>Below w.heap.size w W/\W.heap[w.heap.size]?=some (.cells #[.slice pi x.inp.length ci,.slice pw x.word.length cw] 39)/\W.heap[w.heap.size+1]?=some (.cells (gT x.inp).c 171)) ?_ (fun W2 jD=>?_)
 ·obtain⟨o1,o2,o3,o4,o5⟩:=eX (w.heap.size+1) (x.inp.map (Value.int .i64)) 0 W1.drew
  exact⟨⟨o2.trans iy.out.os,o3.trans iy.out.tape,o4.trans iy.out.output,by rw[o5];exact iy.out.size,fun j hj=>(o1 j (by omega)).trans (iy.out.block j hj)⟩,(o1 _ (by omega)).trans gk.out,QV (W:=W1.drew) SY.out x.inp dI⟩
 obtain⟨aS,UR,hK2⟩:=jD;have mJ:=aa UR;have Iv:=aa hK2;have jy:=aa aS;have tX:=ae UR;clear UR hK2
 go_wp2_with fail
 go_still_tail 4,(by kernel_rfl)
 change wpList _ _ _ _ _ W2.drew
 have qE:∀ j,j<47->((gT x.inp).c[j]?).isSome=true:=fun j hj=>by
  rw[Array.getElem?_eq_getElem (show j<(gT x.inp).c.size from hj)];rfl
 have fk:∀ j,j<(bi x.word).length->(W2.drew.cell? ⟨w.heap.size+1,5+j,none⟩).isSome=true:=fun j hj=>by
  show (W2.cell? ⟨w.heap.size+1,5+j,none⟩).isSome=true
  rw[ae Iv.out];exact qE _ (by rw[ge]at hj;omega)
 have zD:∀ j,j<(bi x.word).length->W2.drew.frozen? ⟨w.heap.size+1,5+j,none⟩=false:=fun j _=>aD Iv.out _
 refine vN rfl (.tmp 18) (.tmp 20) 37 37 rfl 52 7 Tryz.underlying37 (by kernel_rfl) (w.heap.size+1) 5 6 6 pw x.word.length cw rfl rfl (bi x.word) (by have hm:Nat.min x.word.length 6=x.word.length:=Nat.min_eq_left qO;rw[ge,hm]) (Q7 ((HW.out.up up_round jy.out).up up_round (Below.refl _ _).drew)) fk zD (sd x.word) ?_;clear tX fk zD qE;refine zu (fun W=>Below w.heap.size w W/\W.heap[w.heap.size]?=some (.cells #[.slice pi x.inp.length ci,.slice pw x.word.length cw] 39)/\W.heap[w.heap.size+1]?=some (.cells (eL x).c 171)) ?_ (fun W3 hW3=>?_)
 ·obtain⟨o1,o2,o3,o4,o5⟩:=eX (w.heap.size+1) (bi x.word) 5 W2.drew
  exact⟨⟨o2.trans jy.out.os,o3.trans jy.out.tape,o4.trans jy.out.output,by rw[o5];exact jy.out.size,fun j hj=>(o1 j (by omega)).trans (jy.out.block j hj)⟩,(o1 _ (by omega)).trans mJ.out,QW (W:=W2.drew) x.inp Iv.out x.word qO⟩
 clear gk SY iy mJ Iv jy aG aS;obtain⟨bA,wg,Da⟩:=hW3;have qh:=aa wg;have rH:=aa Da;have io:=aa bA;have wn:=bA.size;have Uz:Hid (∀ v,eE f (eL x)=some v->v=.bool (badB p m x)):=aa fun v hv=>J8 HP.out HK.out HX.out hv
 have sH:=uN kit_ky (mt:=168) (vt:=4) (z:=.bool false) Tryz.underlying168 (fun w=>by kernel_rfl) (HG.out.up io.out) (eL x);have qN:(eL x).c.size=47:=rfl;have qB:Hid (∀ (W:World) (v:Value),df Ky.v W mb f->eE f (eL x)=none->∃ o,(Instr.mapUpdate 168 (.map (some mb)) (.agg (eL x).c) v).run Tryz.prog W=.ok () (W.putObj mb o)/\df Ky.v (W.putObj mb o) mb (f++[(eL x,v)])):=aa fun W v hg hn=>yo kit_ky (mt:=168) (vt:=4) Tryz.underlying168 hg (eL x) v hn
 have uk:(Instr.lookup 168 (.map (some mb)) (.agg (eL x).c) true).run Tryz.prog W3=.ok (.tuple #[(eE f (eL x)).getD (.bool false),.bool (eE f (eL x)).isSome]) W3:=sH;have MO:Hid (W3.heap[w.heap.size+1]?=some (.cells (eL x).c 171)):=rH;clear sH rH Da;generalize Fr:(eL x).c=kc at uk MO qN qB;have Uv:=aa Fr;clear Fr;generalize hgg:eE f (eL x)=gg at uk Uz qB;have HGG:=aa hgg;clear hgg;have tM:=ae (ak bA H1.out) 0;simp at tM;have tP:=ae (ak bA H2.out);have tQ:=ae (ak bA H3.out);have tX:=ae qh.out;have hBm3:Bm<W3.heap.size:=by omega
 clear wg;cases gg with
 | some v=>
  obtain rfl:=Uz.out v rfl;simp only[Option.getD_some,Option.isSome_some]at uk;obtain⟨bb,fQ⟩:∃ bb,badB p m x=bb:=⟨_,rfl⟩;have jL:=aa fQ;rw[fQ]at uk;clear fQ;clear tP tQ tX qB Uz
  go_wp2_with (refine jt rfl (.tmp 6) 171 rfl rfl MO.out Tryz.isAgg171 47 qN Tryz.sizeOf171 ?_)
  refine bodyPost_ret (P:=Tryz.prog) (fn:=Tryz.f70) (results_tmp rfl _ _ _) ?_ ?_
  ·rfl
  exact⟨by rw[jL.out];rfl,BX.of_below io.out,f,HG.out.up io.out,HK.out⟩
 | none=>
  simp only[Option.getD_none,Option.isSome_none]at uk
  go_wp2_with (refine jt rfl (.tmp 6) 171 rfl rfl MO.out Tryz.isAgg171 47 qN Tryz.sizeOf171 ?_)
  refine(Cf p _ _ m _ _ _ _ _ _ x W3 (HC.out.up up_case io.out) (HS.out.up up_moves io.out) (by omega) (HF.out.up up_ints io.out) (HY.out.up up_v3 io.out) (HT.out.up up_step io.out) (HO.out.up up_vecs io.out) (HI.out.up up_int io.out) (HW.out.up up_round io.out)).mono ?_;rintro e W4 ⟨ui,uw,us,um,ud,ut,rfl,h1,h2,bM⟩;have AN:=aj io.out bM;have D8:=aa AN;have HK4:=aa (ak bM MO.out);have nK:Hid (badB p m x=(okB p m x&&(eV p m x != 0))):=aa Ox
  have bW:∃ q0 q1 q2 q3 q4 q5 n0 n1 n2 n3 n4 n5 k0 k1 k2 k3 k4 k5,ui=.slice q0 n0 k0/\uw=.slice q1 n1 k1/\us=.slice q2 n2 k2/\um=.slice q3 n3 k3/\ud=.slice q4 n4 k4/\ut=.slice q5 n5 k5:=by
   cases gL:okB p m x with
   | true=>
    have hT:=h1 gL W4 (cQ.refl _ _);obtain⟨r1,d1,e1,_⟩:=hT.inp.at;obtain⟨r2,d2,e2,_⟩:=hT.word.at;obtain⟨r3,d3,e3,_⟩:=hT.states.at;obtain⟨r4,d4,e4,_⟩:=hT.msgs.at;obtain⟨r5,d5,e5,_⟩:=hT.dec.at;obtain⟨r6,d6,e6,_⟩:=hT.times.at;exact⟨_,_,_,_,_,_,_,_,_,_,_,_,_,_,_,_,_,_,e1,e2,e3,e4,e5,e6⟩
   | false=>
    obtain⟨e1,e2,e3,e4,e5,e6⟩:=sn (h2 gL);exact⟨_,_,_,_,_,_,_,_,_,_,_,_,_,_,_,_,_,_,e1,e2,e3,e4,e5,e6⟩
  obtain⟨q0,q1,q2,q3,q4,q5,n0,n1,n2,n3,n4,n5,k0,k1,k2,k3,k4,k5,rfl,rfl,rfl,rfl,rfl,rfl⟩:=bW;have hG4:∀ o:Obj,df Ky.v (W4.alloc o) mb f:=fun o=>(HG.out.up D8.out).up (by go_grown)
  have jd:Hid (∀ o:Obj,Below w.heap.size w (W4.alloc o)/\(W4.alloc o).heap[Bm]?=some (.cells #[.map (some mb)] 168)/\(W4.alloc o).heap[w.heap.size+1]?=some (.cells kc 171)/\df Ky.v (W4.alloc o) mb f):=aa fun o=>⟨D8.out.alloc D8.out.size _,aq _ (ak D8.out H1.out),aq _ HK4.out,hG4 o⟩
  clear h1 h2 tM tP tQ tX AN bM bA hG4 uk;generalize okB p m x=ok at nK;generalize FM:eV p m x=kk at nK;clear FM;cases ok with
  | false=>
   have nF:Hid (badB p m x=false):=aa (by rw[nK.out];rfl);clear nK
   go_wp2_with (first
    | (refine la 43 rfl (fun W=>Below w.heap.size w W/\W.heap[Bm]?=some (.cells #[.map (some mb)] 168)/\W.heap[w.heap.size+1]?=some (.cells kc 171)/\df Ky.v W mb f) (jd.out _) (fun W6 h6=>?_);clear jd;obtain⟨fD,FL,FO,FY⟩:=h6;obtain⟨o6,fY,Fv⟩:=qB.out W6 (.bool false) FY trivial;have PF:=aa FO;have nE:=aa fD;have O5:=aa Fv;have tM:=ae FL 0;simp at tM;clear FL FO FY Fv fD)
    | (refine jt rfl (.tmp 6) 171 rfl rfl PF.out Tryz.isAgg171 47 qN Tryz.sizeOf171 ?_))
   refine bodyPost_ret (P:=Tryz.prog) (fn:=Tryz.f70) (results_tmp rfl _ _ _) ?_ ?_
   ·rfl
   refine⟨by rw[nF.out];rfl,(BX.of_below nE.out).trans (BX.put o6),_,O5.out,fun k v h=>?_⟩;rcases List.mem_append.1 h with h|h
   ·exact HK.out k v h
   ·simp only[List.mem_singleton,Prod.mk.injEq]at h
    obtain⟨rfl,rfl⟩:=h;exact⟨x,HX.out,rfl,by rw[nF.out]⟩
  | true=>
   by_cases qE:kk=0
   ·have nF:Hid (badB p m x=false):=aa (by rw[nK.out,qE];rfl)
    subst qE;clear nK
    go_wp2_with (first
     | (refine la 43 rfl (fun W=>Below w.heap.size w W/\W.heap[Bm]?=some (.cells #[.map (some mb)] 168)/\W.heap[w.heap.size+1]?=some (.cells kc 171)/\df Ky.v W mb f) (jd.out _) (fun W6 h6=>?_);clear jd;obtain⟨fD,FL,FO,FY⟩:=h6;obtain⟨o6,fY,Fv⟩:=qB.out W6 (.bool false) FY trivial;have PF:=aa FO;have nE:=aa fD;have O5:=aa Fv;have tM:=ae FL 0;simp at tM;clear FL FO FY Fv fD)
     | (refine jt rfl (.tmp 6) 171 rfl rfl PF.out Tryz.isAgg171 47 qN Tryz.sizeOf171 ?_))
    refine bodyPost_ret (P:=Tryz.prog) (fn:=Tryz.f70) (results_tmp rfl _ _ _) ?_ ?_
    ·rfl
    refine⟨by rw[nF.out];rfl,(BX.of_below nE.out).trans (BX.put o6),_,O5.out,fun k v h=>?_⟩;rcases List.mem_append.1 h with h|h
    ·exact HK.out k v h
    ·simp only[List.mem_singleton,Prod.mk.injEq]at h
     obtain⟨rfl,rfl⟩:=h;exact⟨x,HX.out,rfl,by rw[nF.out]⟩
   ·have hkz':(kk != 0)=true:=by simpa using qE
    have nF:Hid (badB p m x=true):=aa (by rw[nK.out,hkz'];rfl);clear nK qE
    go_wp2_with (first
     | (refine la 43 rfl (fun W=>Below w.heap.size w W/\W.heap[Bm]?=some (.cells #[.map (some mb)] 168)/\W.heap[w.heap.size+1]?=some (.cells kc 171)/\df Ky.v W mb f) (jd.out _) (fun W6 h6=>?_);clear jd;obtain⟨fD,FL,FO,FY⟩:=h6;obtain⟨o6,fY,Fv⟩:=qB.out W6 (.bool true) FY trivial;have PF:=aa FO;have nE:=aa fD;have O5:=aa Fv;have tM:=ae FL 0;simp at tM;clear FL FO FY Fv fD)
     | (refine jt rfl (.tmp 6) 171 rfl rfl PF.out Tryz.isAgg171 47 qN Tryz.sizeOf171 ?_))
    refine bodyPost_ret (P:=Tryz.prog) (fn:=Tryz.f70) (results_tmp rfl _ _ _) ?_ ?_
    ·rfl
    refine⟨by rw[nF.out];rfl,(BX.of_below nE.out).trans (BX.put o6),_,O5.out,fun k v h=>?_⟩;rcases List.mem_append.1 h with h|h
    ·exact HK.out k v h
    ·simp only[List.mem_singleton,Prod.mk.injEq]at h
     obtain⟨rfl,rfl⟩:=h;exact⟨x,HX.out,rfl,by rw[nF.out]⟩
theorem DS(c1 c2:Array Value) (h1:∃ p vc vs,c1=rs p vc vs) (h2:∃ m vf vy vt vo,c2=bX m vf vy vt vo) (w:World) :
  Calls Tryz.prog 42 #[.agg c1,.agg c2] w fun e w'=>∃ mb Bm Bp Bq,e=.returned (.func (.func 70) #[] #[.pointer (some ⟨Bm,0,none⟩),.pointer (some ⟨Bp,0,none⟩),.pointer (some ⟨Bq,0,none⟩)]) ∧
   w'.heap[Bm]?=some (.cells #[.map (some mb)] 168)/\w'.heap[Bp]?=some (.cells c1 29)/\w'.heap[Bq]?=some (.cells c2 35)/\df Ky.v w' mb []/\w.heap.size<=mb/\Below w.heap.size w w':=by
 obtain⟨p,vc,vs,rfl⟩:=h1;obtain⟨m,vf,vy,vt,vo,rfl⟩:=h2;have Cz:=fun w=>Gt Tryz.prog 168 w
 go_enter Tryz.func42,Tryz.ntmps42
 go_wp2
 go_ret
 exact⟨w.heap.size+1+1,w.heap.size+1+1+1,w.heap.size,w.heap.size+1,rfl,lY _ _ _ _ _,aq _ (aq _ (aq _ (ar _ _))),aq _ (aq _ (aX _ _ _)),⟨#[],0,aq _ (cV _ _ _ _),rfl⟩,by omega,by go_grown⟩
structure BF (p:Pb) (m:Mac) (mb Bm Bp Bq:Nat) (w:World):Prop where
 m1:w.heap[Bm]?=some (.cells #[.map (some mb)] 168)
 ex:∃ vc vs vf vy vt vo,w.heap[Bp]?=some (.cells (rs p vc vs) 29)/\w.heap[Bq]?=some (.cells (bX m vf vy vt vo) 35)/\bJ w vc p.t.cases/\bn w vs p.a.states/\bF w vf m.first/\eZ w vy m.syms/\dh w vt m.steps/\fj w vo m.out
 known:∃ f,df Ky.v w mb f/\Kr p m f
theorem BF.up{p:Pb} {m:Mac} {mb Bm Bp Bq:Nat} {w w':World} (h:BF p m mb Bm Bp Bq w) (hb:Below w.heap.size w w'):BF p m mb Bm Bp Bq w':=by
 obtain⟨vc,vs,vf,vy,vt,vo,h1,h2,h3,h4,h5,h6,h7,h8⟩:=h.ex;obtain⟨f,h9,rR⟩:=h.known;exact⟨ak hb h.m1,⟨vc,vs,vf,vy,vt,vo,ak hb h1,ak hb h2,h3.up up_case hb,h4.up up_moves hb,h5.up up_ints hb,h6.up up_v3 hb,h7.up up_step hb,h8.up up_vecs hb⟩,f,h9.up hb,rR⟩
theorem BF.map{p:Pb} {m:Mac} {mb Bm Bp Bq:Nat} {w:World} (h:BF p m mb Bm Bp Bq w):∃ es c,w.heap[mb]?=some (.map es c):=by
 obtain⟨f,⟨es,c,h1,_⟩,_⟩:=h.known;exact⟨es,c,h1⟩
theorem BF.ck{p:Pb} {m:Mac} {mb Bm Bp Bq:Nat} {w w':World} (h:BF p m mb Bm Bp Bq w) (hb:BX mb w w'):CK w w':=by
 obtain⟨es,c,h1⟩:=h.map;exact hb.ck h1
theorem BF.bx{p:Pb} {m:Mac} {mb Bm Bp Bq:Nat} {w w':World} (h:BF p m mb Bm Bp Bq w) (hb:BX mb w w') (hk:∃ f,df Ky.v w' mb f/\Kr p m f):BF p m mb Bm Bp Bq w':=by
 have c:=h.ck hb;obtain⟨vc,vs,vf,vy,vt,vo,h1,h2,h3,h4,h5,h6,h7,h8⟩:=h.ex;exact⟨c _ _ h.m1 rfl,⟨vc,vs,vf,vy,vt,vo,c _ _ h1 rfl,c _ _ h2 rfl,h3.ck up_case c,h4.ck up_moves c,h5.ck up_ints c,h6.ck up_v3 c,h7.ck up_step c,h8.ck up_vecs c⟩,hk⟩
theorem Ii{p:Pb} (hp:probE p=0) {m:Mac} {mb Bm Bp Bq:Nat} {w:World} (h:BF p m mb Bm Bp Bq w) {x:Py} (hx:cG p x=0) {vi vw:Value} (hi:aU w vi x.inp) (hw:bN w vw x.word) :
  Calls Tryz.prog 70 #[.agg #[vi,vw],.pointer (some ⟨Bm,0,none⟩),.pointer (some ⟨Bp,0,none⟩),.pointer (some ⟨Bq,0,none⟩)] w fun e w'=>e=.returned (.bool (badB p m x))/\BX mb w w'/\BF p m mb Bm Bp Bq w':=by
 obtain⟨vc,vs,vf,vy,vt,vo,h1,h2,h3,h4,h5,h6,h7,h8⟩:=h.ex;obtain⟨f,h9,rR⟩:=h.known;refine(Cg p hp vc vs m vf vy vt vo vi vw x hx w h3 h4 h5 h6 h7 h8 hi hw Bm Bp Bq mb f h.m1 h1 h2 h9 rR).mono ?_;rintro e w' ⟨rfl,hb,hk⟩;exact⟨rfl,hb,h.bx hb hk⟩
theorem Ch(p:Pb) (hp:probE p=0) (m:Mac) (mb Bm Bp Bq:Nat) (l:List Py) (hr:∀ y∈l,cG p y=0) (v:Value) (w:World) (hv:j9 w v l) (hF:BF p m mb Bm Bp Bq w) (hn:l.length<=17592186044416) :
  Calls Tryz.prog 24 #[v,.func (.func 70) #[] #[.pointer (some ⟨Bm,0,none⟩),.pointer (some ⟨Bp,0,none⟩),.pointer (some ⟨Bq,0,none⟩)]] w fun e w'=>
   e=.returned (.int .i64 (firstIx l.length fun i=>badB p m (l.getD i default)))/\BX mb w w'/\BF p m mb Bm Bp Bq w':=by
 have HF:=aa hF;have HR:=aa hr;have HP:=aa hp;have HV:=aa hv;obtain⟨pa,ca,rfl,la1,la2,ea⟩:=hv.at;have E:=aa ea;have eg:∀ args w,(callFunc 70 args).run Tryz.prog w=.ok (.enter 70 args) w:=enters_of Tryz.func70 (by kernel_rfl) rfl;clear hv ea hF hr hp
 go_enter Tryz.func24,Tryz.ntmps24
 go_wp2_with fail
 go_loopw [8] (fun i wr=>Hid (BX mb w wr)/\Hid (BF p m mb Bm Bp Bq wr)/\∃ k:Nat,k<=l.length/\i=.int .i64 k/\∀ j,j<k->badB p m (l.getD j default)=false) (fun i _=>l.length - (intOf i).toNat)
 case atStart=>exact⟨aa (BX.refl _ _),HF,0,by omega,rfl,by simp⟩
 case round=>
  obtain⟨cJ,oa,k,hk,rfl,aO⟩:=hrel;have dB:=aa aO;clear aO;by_cases aF:k<l.length
  ·obtain⟨b,o,rfl,⟨vi,c0,fZ⟩,⟨vw,c1,zN⟩⟩:=E.out k aF
   have fM:=HF.out.ck cJ.out;have d0:=fM.cell c0;have d1:=fM.cell c1;have Cr:Hid (cG p l[k]=0):=aa (HR.out _ (List.getElem_mem aF));have HG:Hid (l.getD k default=l[k]):=aa (by simp[aF]);have HB:=aa (Ii HP.out oa.out Cr.out (fZ.ck up_int fM) (zN.ck up_round fM));generalize l[k]=y at fZ zN HG HB;obtain⟨pi,ci,rfl,_⟩:=fZ.at;obtain⟨pw,cw,rfl,_⟩:=zN.at;clear c0 c1 fM fZ zN Cr
   go_wp2_with fail
   refine HB.out.mono ?_;rintro e w2 ⟨rfl,aS,wx⟩;have sK:=aa (cJ.out.trans aS);have KA:=aa wx;clear HB d0 d1 aS wx;have I6:Hid (badB p m (l.getD k default)=badB p m y):=aa (by rw[HG.out]);generalize badB p m y=bb at I6;cases bb with
   | false=>
    go_wp2_with fail
    go_roundw
    case rel=>exact⟨sK,KA,k+1,by omega,by go_num,aQ dB.out I6.out⟩
    case measure=>simp[intOf];omega
   | true=>
    go_wp2_with fail
    refine bodyPost_ret (P:=Tryz.prog) (fn:=Tryz.f24) (results_tmp rfl _ _ _) ?_ ?_
    ·rfl
    refine⟨aC ?_,sK.out,KA.out⟩;rcases dN l.length (fun i=>badB p m (l.getD i default)) with ⟨_,hn⟩|⟨q,hq,e,hp,gD⟩
    ·rw[hn k aF]at I6;cases I6.out
    ·rw[e]
     have:q=k:=by
      rcases Nat.lt_trichotomy q k with h1|h1|h1
      ·rw[dB.out q h1]at hp;cases hp
      ·exact h1
      ·have h9:=gD k h1
       rw[I6.out]at h9;cases h9
     rw[this]
  ·obtain rfl:k=l.length:=by omega
   go_wp2_with fail
   refine bodyPost_ret (P:=Tryz.prog) (fn:=Tryz.f24) (results_tmp rfl _ _ _) ?_ ?_
   ·rfl
   refine⟨aC ?_,cJ.out,oa.out⟩;rcases dN l.length (fun i=>badB p m (l.getD i default)) with ⟨e,_⟩|⟨q,hq,e,hp,gD⟩
   ·rw[e]
   ·rw[dB.out q hq]at hp;cases hp
abbrev Uk(Bm Bp Bq:Nat):Value:=.func (.func 70) #[] #[.pointer (some ⟨Bm,0,none⟩),.pointer (some ⟨Bp,0,none⟩),.pointer (some ⟨Bq,0,none⟩)]
theorem Gj(p:Pb) (hp:probE p=0) (m:Mac) (mb Bm Bp Bq:Nat) (l:List Py) (hr:∀ y∈l,cG p y=0) (v:Value) (w:World) (hv:j9 w v l) (hF:BF p m mb Bm Bp Bq w) (hn:l.length<=17592186044416) :
  Calls Tryz.prog 25 #[v,Uk Bm Bp Bq] w fun e w'=>
   e=.returned (.bool (l.find? (badB p m)).isSome)/\BX mb w w'/\BF p m mb Bm Bp Bq w':=by
 have HI:=aa (Ch p hp m mb Bm Bp Bq l hr v w hv hF hn)
 have HV:Hid (decide (0<=firstIx l.length fun i=>badB p m (l.getD i default))=(l.find? (badB p m)).isSome):=aa (by
  rw[ph];cases hq:l.find? (badB p m) with
  | none=>
   rw[List.find?_eq_none]at hq
   exact eG _ _ fun j hj=>by
    have:=hq _ (List.getElem_mem hj);rw[show l.getD j default=l[j] by simp[hj]];simpa using this
  | some y=>
   have h1:=List.mem_of_find?_eq_some hq;have h2:=List.find?_some hq;obtain⟨j,hj,rfl⟩:=List.getElem_of_mem h1
   exact dP _ j _ hj (by rw[show l.getD j default=l[j] by simp[hj]];exact h2))
 obtain⟨pa,ca,rfl,_⟩:=hv.at;clear hv hF hr hp;generalize (firstIx l.length fun i=>badB p m (l.getD i default))=ix at HI HV
 go_enter Tryz.func25,Tryz.ntmps25
 go_wp2_with fail
 refine HI.out.mono ?_;rintro e w1 ⟨rfl,hb,hf⟩;have HB:=aa hb;have HF:=aa hf;clear hb hf HI;generalize fQ:(l.find? (badB p m)).isSome=bb at HV;have jL:=aa fQ;clear fQ;by_cases oM:0<=ix
 ·have aG:bb=true:=by have:=HV.out;rw[decide_eq_true oM]at this;exact this.symm
  have iy:=aa aG;clear aG HV
  go_wp2_with fail
  refine bodyPost_ret (P:=Tryz.prog) (fn:=Tryz.f25) (results_tmp rfl _ _ _) ?_ ?_
  ·rfl
  exact⟨by rw[jL.out,iy.out];rfl,HB.out,HF.out⟩
 ·have aG:bb=false:=by have:=HV.out;rw[decide_eq_false oM]at this;exact this.symm
  have iy:=aa aG;clear aG HV
  go_wp2_with fail
  refine bodyPost_ret (P:=Tryz.prog) (fn:=Tryz.f25) (results_tmp rfl _ _ _) ?_ ?_
  ·rfl
  exact⟨by rw[jL.out,iy.out,<-decide_eq_false (show ¬ (0<=ix) by omega)];rfl,HB.out,HF.out⟩
structure BS (p:Pb) (m:Mac) (mb Bm Bp Bq:Nat) (vc vs vf vy vt vo:Value) (w:World):Prop where
 m1:w.heap[Bm]?=some (.cells #[.map (some mb)] 168)
 b2:w.heap[Bp]?=some (.cells (rs p vc vs) 29)
 b3:w.heap[Bq]?=some (.cells (bX m vf vy vt vo) 35)
 known:∃ f,df Ky.v w mb f/\Kr p m f
theorem BS.bf{p:Pb} {m:Mac} {mb Bm Bp Bq:Nat} {vc vs vf vy vt vo:Value} {w:World} (h:BS p m mb Bm Bp Bq vc vs vf vy vt vo w) (hc:bJ w vc p.t.cases) (hs:bn w vs p.a.states) (hf:bF w vf m.first) (hy:eZ w vy m.syms) (ht:dh w vt m.steps) (ho:fj w vo m.out):BF p m mb Bm Bp Bq w:=
 ⟨h.m1,⟨vc,vs,vf,vy,vt,vo,h.b2,h.b3,hc,hs,hf,hy,ht,ho⟩,h.known⟩
theorem BS.up{p:Pb} {m:Mac} {mb Bm Bp Bq:Nat} {vc vs vf vy vt vo:Value} {w w':World} (h:BS p m mb Bm Bp Bq vc vs vf vy vt vo w) (hb:Below w.heap.size w w'):BS p m mb Bm Bp Bq vc vs vf vy vt vo w':=by
 obtain⟨f,h1,h2⟩:=h.known;exact⟨ak hb h.m1,ak hb h.b2,ak hb h.b3,f,h1.up hb,h2⟩
theorem BS.next{p:Pb} {m:Mac} {mb Bm Bp Bq:Nat} {vc vs vf vy vt vo:Value} {w w':World} (h:BS p m mb Bm Bp Bq vc vs vf vy vt vo w) (hb:BX mb w w') (hf:BF p m mb Bm Bp Bq w'):BS p m mb Bm Bp Bq vc vs vf vy vt vo w':=by
 obtain⟨f,⟨es,c,hm,mg⟩,_⟩:=h.known;have ck:=hb.ck hm;exact⟨hf.m1,ck _ _ h.b2 rfl,ck _ _ h.b3 rfl,hf.known⟩
theorem mD{p:Pb} {m:Mac} {x:Py} (h:beginE p m x=0):fx p m=0/\cG p x=0/\eV p m x≠0:=by
 unfold beginE at h;split at h
 ·rename_i q;exact absurd h q
 rename_i h1;split at h
 ·rename_i q;exact absurd h q
 rename_i h2;split at h
 ·cases h
 rename_i h3;exact⟨by simpa using h1,by simpa using h2,h3⟩
theorem Fc(p:Pb) (vc vs:Value) (m:Mac) (vf vy vt vo vi vw:Value) (x:Py) (w:World) (hc:bJ w vc p.t.cases) (hs:bn w vs p.a.states) (hN:movesN p.a.states<1099511627776) (hf:bF w vf m.first) (hy:eZ w vy m.syms) (ht:dh w vt m.steps) (ho:fj w vo m.out) (hi:aU w vi x.inp) (hw:bN w vw x.word) :
  Calls Tryz.prog 20 #[jI p vc vs,.agg (bX m vf vy vt vo),.agg #[vi,vw]] w fun e w'=>∃ fv,e=.returned (.tuple #[fv,.int .i64 (beginE p m x)])/\(beginE p m x≠0->fv=.nilFunc)/\(beginE p m x=0->∃ mb Bm Bp Bq,fv=Uk Bm Bp Bq/\w.heap.size<=mb/\BS p m mb Bm Bp Bq vc vs vf vy vt vo w')/\Below w.heap.size w w':=by
 have HC:=aa hc;have HS:=aa hs;have HF:=aa hf;have HY:=aa hy;have HT:=aa ht;have HO:=aa ho;have HI:=aa hi;have HW:=aa hw;have HV:Hid (beginE p m x=if fx p m≠0 then fx p m else if cG p x≠0 then cG p x else if eV p m x=0 then 21 else 0):=aa rfl;obtain⟨pc,cc,rfl,_⟩:=hc.at;obtain⟨ps,cs,rfl,_⟩:=hs.at;obtain⟨pf,cf,rfl,_⟩:=hf.at;obtain⟨py,cy,rfl,_⟩:=hy.at;obtain⟨pt,ct,rfl,_⟩:=ht.at;obtain⟨po,co,rfl,_⟩:=ho.at;obtain⟨pi,ci,rfl,_⟩:=hi.at;obtain⟨pw,cw,rfl,_⟩:=hw.at;clear hc hs hf hy ht ho hi hw;have eg:∀ args w,(callFunc 70 args).run Tryz.prog w=.ok (.enter 70 args) w:=enters_of Tryz.func70 (by kernel_rfl) rfl
 go_enter Tryz.func20,Tryz.ntmps20
 go_wp2_with fail
 refine aT (fun W=>Below w.heap.size w W/\W.heap[w.heap.size]?=some (.cells #[.int .i64 p.t.n,.int .i64 p.t.ins,.int .i64 p.t.outs,.slice pc p.t.cases.length cc,.int .i64 p.a.n,.slice ps p.a.states.length cs,.int .i64 p.rounds] 29)/\W.heap[w.heap.size+1]?=some (.cells (bX m (.slice pf m.first.length cf) (.slice py m.syms.length cy) (.slice pt m.steps.length ct) (.slice po m.out.length co)) 35)/\W.heap[w.heap.size+1+1]?=some (.cells #[.slice pi x.inp.length ci,.slice pw x.word.length cw] 39)) ⟨by go_grown,aq _ (aq _ (ar _ _)),aq _ (aX _ _ _),cV _ _ _ _⟩ (fun W0 bd=>?_);obtain⟨aH,bD,iw,it⟩:=bd;refine(sZ p _ _ m _ _ _ _ W0 (HC.out.up up_case aH) (HS.out.up up_moves aH) hN (HF.out.up up_ints aH) (HY.out.up up_v3 aH) (HT.out.up up_step aH) (HO.out.up up_vecs aH)).mono ?_;rintro e w1 ⟨rfl,aG⟩;have b7:=aj aH aG;have fd:=aa (ak aG bD);have jz:=aa (ak aG iw);have gk:=aa (ak aG it);clear bD iw it aH aG;generalize im:fx p m=be at HV;by_cases h0:be=0
 case neg=>
  have Pt:(be != 0)=true:=by simpa using h0
  have HR:Hid (beginE p m x=be):=aa (by rw[HV.out,if_pos h0]);have PY:=aa h0;clear HV h0 im
  go_wp2_with fail
  go_ret2
  rw[HR.out];exact⟨_,rfl,fun _=>rfl,fun h=>absurd h PY.out,b7⟩
 subst h0;have IW:=aa im;clear im;have cU:Hid (beginE p m x=if cG p x≠0 then cG p x else if eV p m x=0 then 21 else 0):=aa (by rw[HV.out,if_neg (by simp)])
 have jB:Hid (probE p=0):=aa (by
  have h:=IW.out;unfold fx at h;split at h
  ·rename_i q;exact absurd h q
  ·rename_i q;simpa using q)
 have tA:=ae fd.out;have tX:=ae gk.out;clear HV
 go_wp2_with fail
 refine(E7 p jB.out _ _ _ _ x w1 (HC.out.up up_case b7) (HS.out.up up_moves b7) (HI.out.up up_int b7) (HW.out.up up_round b7)).mono ?_;rintro e w2 ⟨rfl,aS⟩;have dU:=aj b7 aS;generalize IB:cG p x=re at cU;clear tA tX;by_cases h1:re=0
 case neg=>
  have oI:(re != 0)=true:=by simpa using h1
  have HR:Hid (beginE p m x=re):=aa (by rw[cU.out,if_pos h1]);have PY:=aa h1;clear cU h1 IB
  go_wp2_with fail
  go_ret2
  rw[HR.out];exact⟨_,rfl,fun _=>rfl,fun h=>absurd h PY.out,dU⟩
 subst h1;have nC:=aa IB;clear IB;have fE:Hid (beginE p m x=if eV p m x=0 then 21 else 0):=aa (by rw[cU.out,if_neg (by simp)]);have tA:=ae (ak aS fd.out);have tM:=ae (ak aS jz.out);have mJ:=aa (ak aS gk.out);clear cU
 go_wp2_with fail
 refine(DS (rs p (.slice pc p.t.cases.length cc) (.slice ps p.a.states.length cs)) (bX m (.slice pf m.first.length cf) (.slice py m.syms.length cy) (.slice pt m.steps.length ct) (.slice po m.out.length co)) ⟨_,_,_,rfl⟩ ⟨_,_,_,_,_,rfl⟩ w2).mono ?_;rintro e w3 ⟨mb,Bm,Bp,Bq,rfl,q1,q2,q3,q4,q5,bA⟩;have eT:=aj dU bA;have KA:Hid (BF p m mb Bm Bp Bq w3):=aa ⟨q1,⟨_,_,_,_,_,_,q2,q3,HC.out.up up_case eT,HS.out.up up_moves eT,HF.out.up up_ints eT,HY.out.up up_v3 eT,HT.out.up up_step eT,HO.out.up up_vecs eT⟩,[],q4,fun k v h=>by cases h⟩;have qH:Hid (BS p m mb Bm Bp Bq (.slice pc p.t.cases.length cc) (.slice ps p.a.states.length cs) (.slice pf m.first.length cf) (.slice py m.syms.length cy) (.slice pt m.steps.length ct) (.slice po m.out.length co) w3):=aa ⟨q1,q2,q3,[],q4,fun k v h=>by cases h⟩;have tX:=ae (ak bA mJ.out);have FA:=dU.size;have vT:=aa (Ii jB.out KA.out nC.out (HI.out.up up_int eT) (HW.out.up up_round eT));have nK:Hid (badB p m x=decide (eV p m x≠0)):=aa rfl;clear tA tM q1 q2 q3 q4
 go_wp2_with fail
 refine vT.out.mono ?_;rintro e w4 ⟨rfl,bM,hf4⟩;have HF4:=aa (qH.out.next bM hf4);have sB:Hid (Below w.heap.size w w4):=aa (bM.below eT (by omega) (Nat.le_refl _));clear tX bM hf4 vT;by_cases hk:eV p m x=0
 ·have HR:Hid (beginE p m x=21):=aa (by rw[fE.out,if_pos hk])
  have jC:Hid (badB p m x=false):=aa (by rw[nK.out];simp[hk]);rw[jC.out];clear fE hk nK
  go_wp2_with fail
  go_ret2
  rw[HR.out];exact⟨_,rfl,fun _=>rfl,(fun h=>by cases h),sB.out⟩
 ·have HR:Hid (beginE p m x=0):=aa (by rw[fE.out,if_neg hk])
  have jC:Hid (badB p m x=true):=aa (by rw[nK.out];simp[hk]);rw[jC.out];clear fE hk nK
  go_wp2_with fail
  go_ret2
  rw[HR.out];exact⟨_,rfl,(fun h=>absurd rfl h),fun _=>⟨mb,Bm,Bp,Bq,rfl,by omega,HF4.out⟩,sB.out⟩
theorem zx(p:Pb) (vc vs:Value) (m:Mac) (vf vy vt vo vi vw:Value) (x:Py) (w:World) (hc:bJ w vc p.t.cases) (hs:bn w vs p.a.states) (hN:movesN p.a.states<1099511627776) (hf:bF w vf m.first) (hy:eZ w vy m.syms) (ht:dh w vt m.steps) (ho:fj w vo m.out) (hi:aU w vi x.inp) (hw:bN w vw x.word) :
  Calls Tryz.prog 7 #[jI p vc vs,.agg (bX m vf vy vt vo),.agg #[vi,vw]] w fun e w'=>e=.returned (.tuple #[.bool (jH p m x).1,.int .i64 (jH p m x).2])/\Below w.heap.size w w':=by
 have HC:=aa hc;have HS:=aa hs;have HF:=aa hf;have HY:=aa hy;have HT:=aa ht;have HO:=aa ho;have HI:=aa hi;have HW:=aa hw;have HV:Hid (jH p m x=if beginE p m x≠0 then(false,beginE p m x) else((gH p m x).isNone,0)):=aa rfl;obtain⟨pc,cc,rfl,_⟩:=hc.at;obtain⟨ps,cs,rfl,_⟩:=hs.at;obtain⟨pf,cf,rfl,_⟩:=hf.at;obtain⟨py,cy,rfl,_⟩:=hy.at;obtain⟨pt,ct,rfl,_⟩:=ht.at;obtain⟨po,co,rfl,_⟩:=ho.at;obtain⟨pi,ci,rfl,_⟩:=hi.at;obtain⟨pw,cw,rfl,_⟩:=hw.at;clear hc hs hf hy ht ho hi hw
 go_enter Tryz.func7,Tryz.ntmps7
 go_wp2_with fail
 refine aT (fun W=>Below w.heap.size w W/\W.heap[w.heap.size]?=some (.cells #[.int .i64 p.t.n,.int .i64 p.t.ins,.int .i64 p.t.outs,.slice pc p.t.cases.length cc,.int .i64 p.a.n,.slice ps p.a.states.length cs,.int .i64 p.rounds] 29)/\W.heap[w.heap.size+1+1]?=some (.cells #[.slice pi x.inp.length ci,.slice pw x.word.length cw] 39)) ⟨by go_grown,aq _ (aq _ (ar _ _)),cV _ _ _ _⟩ (fun W0 bd=>?_);obtain⟨aH,bD,it⟩:=bd;refine(Fc p _ _ m _ _ _ _ _ _ x W0 (HC.out.up up_case aH) (HS.out.up up_moves aH) hN (HF.out.up up_ints aH) (HY.out.up up_v3 aH) (HT.out.up up_step aH) (HO.out.up up_vecs aH) (HI.out.up up_int aH) (HW.out.up up_round aH)).mono ?_;rintro e w1 ⟨fv,rfl,h1,h2,aG⟩;have b7:=aj aH aG;have fd:=aa (ak aG bD);have gk:=aa (ak aG it);have dp:=aH.size;clear bD it;by_cases im:beginE p m x=0
 case neg=>
  obtain rfl:=h1 im;have HR:Hid (jH p m x=(false,beginE p m x)):=aa (by rw[HV.out,if_pos im]);have Rr:(beginE p m x != 0)=true:=by simpa using im
  generalize beginE p m x=be at HR Rr;clear h1 h2 im HV
  go_wp2_with fail
  go_ret2
  rw[HR.out];exact⟨rfl,b7⟩
 obtain⟨mb,Bm,Bp,Bq,rfl,FA,oa⟩:=h2 im;have HR:Hid (jH p m x=((gH p m x).isNone,0)):=aa (by rw[HV.out,if_neg (by simpa using im)]);obtain⟨g1,g2,g3⟩:=mD im
 have jB:Hid (probE p=0):=aa (by
  have h:=g1;unfold fx at h;split at h
  ·rename_i q;exact absurd h q
  ·rename_i q;simpa using q)
 have nC:=aa g2;have KA:=aa (oa.bf (HC.out.up up_case b7) (HS.out.up up_moves b7) (HF.out.up up_ints b7) (HY.out.up up_v3 b7) (HT.out.up up_step b7) (HO.out.up up_vecs b7));rw[im];have tA:=ae fd.out;have tX:=ae gk.out;clear h1 h2 im HV g1 g2 g3 oa
 go_wp2_with fail
 refine(qA p jB.out x nC.out _ _ _ _ w1 (HC.out.up up_case b7) (HS.out.up up_moves b7) (HI.out.up up_int b7) (HW.out.up up_round b7)).mono ?_;rintro e w2 ⟨u,rfl,hu,aS⟩;have dU:=aj b7 aS;have vu:=aa dU;have hNB:Hid (∀ y∈nearS p x,cG p y=0):=aa fun y hy=>(iD jB.out nC.out hy).1
 obtain⟨au,cu,e1,_,cZ,_⟩:=hu.at;have HCT:=aa (Gj p jB.out m mb Bm Bp Bq (nearS p x) hNB.out u w2 hu (KA.out.up aS) (by omega));subst e1;clear tA tX hu dU
 go_wp2_with fail
 refine HCT.out.mono ?_;rintro e w3 ⟨rfl,bA,_⟩;have io:Hid (Below w.heap.size w w3):=aa (bA.below vu.out (by omega) (Nat.le_refl _))
 have iJ:Hid ((gH p m x).isNone=!((nearS p x).find? (badB p m)).isSome):=aa (by
  unfold gH
  cases (nearS p x).find? (badB p m)<;>rfl)
 generalize ((nearS p x).find? (badB p m)).isSome=bb at iJ;clear bA HCT
 go_wp2_with fail
 go_ret2
 rw[HR.out,iJ.out];exact⟨rfl,io.out⟩
def Ks(W:World) (B:Nat) (y:Py):Prop:=∃ (p1:Option Addr) (c1:Nat) (p2:Option Addr) (c2:Nat),W.heap[B]?=some (.cells #[.slice p1 y.inp.length c1,.slice p2 y.word.length c2] 39)/\aU W (.slice p1 y.inp.length c1) y.inp/\bN W (.slice p2 y.word.length c2) y.word
theorem OE{W:World} {v:Value} {a b:List Int} (h:aU W v a) (k:aU W v b):a=b:=by
 obtain⟨p,c,e1,_,_,h3⟩:=h;obtain⟨q,d,e2,_,_,k3⟩:=k;rw[e1]at e2;simp only[Value.slice.injEq]at e2;obtain⟨rfl,hl,_⟩:=e2;apply List.ext_getElem hl;intro i h1 h2;obtain⟨b1,o1,q1,r1,_⟩:=h3 i _ (List.getElem?_eq_getElem h1);obtain⟨b2,o2,q2,r2,_⟩:=k3 i _ (List.getElem?_eq_getElem h2);rw[q1]at q2;cases q2;rw[r1]at r2;simpa using r2
theorem OF{W:World} {v:Value} {a b:List Rd} (h:bN W v a) (k:bN W v b):a=b:=by
 obtain⟨p,c,e1,_,_,h3⟩:=h;obtain⟨q,d,e2,_,_,k3⟩:=k;rw[e1]at e2;simp only[Value.slice.injEq]at e2;obtain⟨rfl,hl,_⟩:=e2;apply List.ext_getElem hl;intro i h1 h2;obtain⟨b1,o1,q1,⟨r0,_⟩,⟨r1,_⟩,⟨r2,_⟩,⟨r3,_⟩,⟨r4,_⟩,⟨r5,_⟩,⟨r6,_⟩⟩:=h3 i _ (List.getElem?_eq_getElem h1);obtain⟨b2,o2,q2,⟨s0,_⟩,⟨s1,_⟩,⟨s2,_⟩,⟨s3,_⟩,⟨s4,_⟩,⟨s5,_⟩,⟨s6,_⟩⟩:=k3 i _ (List.getElem?_eq_getElem h2);rw[q1]at q2;cases q2;rw[r0]at s0;rw[r1]at s1;rw[r2]at s2;rw[r3]at s3;rw[r4]at s4;rw[r5]at s5;rw[r6]at s6;generalize a[i]=x at *;generalize b[i]=y at *;obtain⟨⟨x0,x1,x2,x3,x4,x5⟩,x6⟩:=x;obtain⟨⟨y0,y1,y2,y3,y4,y5⟩,y6⟩:=y;simp at s0 s1 s2 s3 s4 s5 s6;simp[s0,s1,s2,s3,s4,s5,s6]
theorem Q8{W:World} {B:Nat} {x y:Py} (h:Ks W B x) (k:Ks W B y):x=y:=by
 obtain⟨p1,c1,p2,c2,h1,h2,h3⟩:=h;obtain⟨q1,d1,q2,d2,k1,k2,k3⟩:=k;rw[h1]at k1;simp only[Option.some.injEq,Obj.cells.injEq,Array.mk.injEq,List.cons.injEq,Value.slice.injEq,and_true]at k1;obtain⟨⟨rfl,e1,rfl⟩,rfl,e2,rfl⟩:=k1;rw[<-e1]at k2;rw[<-e2]at k3;have a1:=OE h2 k2;have a2:=OF h3 k3;cases x;cases y;simp only at a1 a2;rw[a1,a2]
open Classical in
noncomputable def Sp(B:Nat) (W:World):Nat:=if h:∃ y,Ks W B y then iB (Classical.choose h) else 0
theorem OG{B:Nat} {W:World} {y:Py} (h:Ks W B y):Sp B W=iB y:=by
 unfold Sp;rw[dif_pos ⟨y,h⟩];rw[Q8 (Classical.choose_spec (⟨y,h⟩:∃ y,Ks W B y)) h]
theorem Ci{W W':World} {B:Nat} {cs:Array Value} {t:TypeId} {v:Value} {l:List Int} (hB:W.heap[B]?=some (.cells cs t)) (hn:∀ (o:Nat) (n:Int),cs[o]?≠some (.int .i64 n)) (hk:∀ k,k≠B->W'.heap[k]?=W.heap[k]?) (h:aU W v l):aU W' v l:=by
 obtain⟨p,c,e1,h1,h2,h3⟩:=h;refine⟨p,c,e1,h1,h2,fun i x hx=>?_⟩;obtain⟨b,o,q1,r1,r2⟩:=h3 i x hx;refine⟨b,o,q1,?_,r2⟩
 have hb:b≠B:=fun e=>by
  subst e;rw[ae hB]at r1;exact hn _ _ r1
 rw[<-r1];simp only[World.cell?,hk b hb]
theorem Cj{W W':World} {B:Nat} {cs:Array Value} {t:TypeId} {v:Value} {l:List Rd} (hB:W.heap[B]?=some (.cells cs t)) (hn:∀ (o:Nat) (n:Int),cs[o]?≠some (.int .i64 n)) (hk:∀ k,k≠B->W'.heap[k]?=W.heap[k]?) (h:bN W v l):bN W' v l:=by
 obtain⟨p,c,e1,h1,h2,h3⟩:=h;refine⟨p,c,e1,h1,h2,fun i x hx=>?_⟩;obtain⟨b,o,q1,r⟩:=h3 i x hx;obtain⟨⟨r0,i0⟩,⟨r1,i1⟩,⟨r2,i2⟩,⟨r3,i3⟩,⟨r4,i4⟩,⟨r5,i5⟩,⟨r6,i6⟩⟩:=r
 have hb:b≠B:=fun e=>by
  subst e;rw[ae hB]at r0;exact hn _ _ r0
 have key:∀ {o:Nat} {u:Value},W.cell? ⟨b,o,none⟩=some u->W'.cell? ⟨b,o,none⟩=some u:=fun {o u} h=>by
  rw[<-h];simp only[World.cell?,hk b hb]
 exact⟨b,o,q1,⟨key r0,i0⟩,⟨key r1,i1⟩,⟨key r2,i2⟩,⟨key r3,i3⟩,⟨key r4,i4⟩,⟨key r5,i5⟩,⟨key r6,i6⟩⟩
theorem mT(a b:Option Addr) (n1 n2 c1 c2:Nat):∀ (o:Nat) (n:Int),(#[Value.slice a n1 c1,Value.slice b n2 c2]:Array Value)[o]?≠some (.int .i64 n):=fun o n h=>by
 match o,h with
 | 0,h=>simp at h
 | 1,h=>simp at h
 | o+2,h=>simp at h
theorem Q9{W:World} {B:Nat} {cs:Array Value} {t:TypeId} (h:W.heap[B]?=some (.cells cs t)) (hc:cs.size=2) (a b:Value):∀ W',W'=(W.setCell ⟨B,0,none⟩ a).setCell ⟨B,1,none⟩ b->W'.heap[B]?=some (.cells #[a,b] t)/\(∀ k,k≠B->W'.heap[k]?=W.heap[k]?)/\W'.heap.size=W.heap.size/\∀ n w0,n<=B->Below n w0 W->Below n w0 W':=by
 rintro W' rfl;refine⟨?_,fun k hk=>?_,by simp,fun n w0 hn hb=>(hb.setCell (p:=⟨B,0,none⟩) hn _).setCell (p:=⟨B,1,none⟩) hn _⟩
 ·obtain⟨x0,x1,rfl⟩:∃ x0 x1,cs=#[x0,x1]:=by
   obtain⟨l⟩:=cs;simp at hc
   match l,hc with
   | [x0,x1],_=>exact⟨_,_,rfl⟩
  rw[aE (aE h _ _)];rfl
 ·rw[Below.heap_setCell _ ⟨B,1,none⟩ _ _ hk,Below.heap_setCell _ ⟨B,0,none⟩ _ _ hk]
structure ShI (p:Pb) (m:Mac) (mb Bm Bp Bq:Nat) (vc vs vf vy vt vo:Value) (w:World) (y z:Py) (W:World):Prop where
 below:Below w.heap.size w W
 boxA:W.heap[w.heap.size]?=some (.cells (rs p vc vs) 29)
 boxR:W.heap[w.heap.size+1+1+1]?=some (.cells #[.slice none 0 0,.slice none 0 0] 39)
 read:Ks W (w.heap.size+1+1) z
 right:cG p z=0
 same:dO p m z=dO p m y
 bad:BS p m mb Bm Bp Bq vc vs vf vy vt vo W
theorem ShI.put{p:Pb} {m:Mac} {mb Bm Bp Bq:Nat} {vc vs vf vy vt vo:Value} {w:World} {y z:Py} {W:World} {c0 c1:Value} {p1 p2:Option Addr} {n1 n2 k1 k2:Nat} (hb:Below w.heap.size w W) (hA:W.heap[w.heap.size]?=some (.cells (rs p vc vs) 29)) (hR:W.heap[w.heap.size+1+1+1]?=some (.cells #[.slice none 0 0,.slice none 0 0] 39))
  (hX:W.heap[w.heap.size+1+1]?=some (.cells #[c0,c1] 39)) (hc:∀ (o:Nat) (n:Int),(#[c0,c1]:Array Value)[o]?≠some (.int .i64 n)) (hi:aU W (.slice p1 n1 k1) z.inp) (hw:bN W (.slice p2 n2 k2) z.word) (hr:cG p z=0) (hs:dO p m z=dO p m y) (hB:BS p m mb Bm Bp Bq vc vs vf vy vt vo W) :
  ShI p m mb Bm Bp Bq vc vs vf vy vt vo w y z ((W.setCell ⟨w.heap.size+1+1,0,none⟩ (.slice p1 n1 k1)).setCell ⟨w.heap.size+1+1,1,none⟩ (.slice p2 n2 k2)):=by
 obtain⟨q1,q2,q3,q4⟩:=Q9 hX rfl (.slice p1 n1 k1) (.slice p2 n2 k2) _ rfl;generalize ((W.setCell ⟨w.heap.size+1+1,0,none⟩ (.slice p1 n1 k1)).setCell ⟨w.heap.size+1+1,1,none⟩ (.slice p2 n2 k2))=W' at *
 have e1:n1=z.inp.length:=by
  obtain⟨_,_,e,_⟩:=hi;simp only[Value.slice.injEq]at e;exact e.2.1
 have e2:n2=z.word.length:=by
  obtain⟨_,_,e,_⟩:=hw;simp only[Value.slice.injEq]at e;exact e.2.1
 subst e1 e2;refine⟨q4 _ _ (by omega) hb,(q2 _ (by omega)).trans hA,(q2 _ (by omega)).trans hR,⟨p1,k1,p2,k2,q1,Ci hX hc q2 hi,Cj hX hc q2 hw⟩,hr,hs,?_⟩;obtain⟨f,⟨es,c,hm,mg⟩,hk⟩:=hB.known;refine⟨(q2 _ fun e=>?_).trans hB.m1,(q2 _ fun e=>?_).trans hB.b2,(q2 _ fun e=>?_).trans hB.b3,f,⟨es,c,(q2 _ fun e=>?_).trans hm,mg⟩,hk⟩
 ·have h:=hB.m1;rw[e,hX]at h;simp at h
 ·have h:=hB.b2;rw[e,hX]at h;simp at h
 ·have h:=hB.b3;rw[e,hX]at h;simp at h
 ·rw[e,hX]at hm;simp at hm
theorem ShI.out{w:World} {W:World} {a b:Value} {z:Py} (hb:Below w.heap.size w W) (hR:W.heap[w.heap.size+1+1+1]?=some (.cells #[.slice none 0 0,.slice none 0 0] 39)) (hi:aU W a z.inp) (hw:bN W b z.word) :
  ∀ W',W'=(W.setCell ⟨w.heap.size+1+1+1,0,none⟩ a).setCell ⟨w.heap.size+1+1+1,1,none⟩ b->W'.heap[w.heap.size+1+1+1]?=some (.cells #[a,b] 39)/\aU W' a z.inp/\bN W' b z.word/\Below w.heap.size w W':=fun W' FW=>by
 obtain⟨q1,q2,q3,q4⟩:=Q9 hR rfl a b W' FW;exact⟨q1,Ci hR (mT _ _ _ _ _ _) q2 hi,Cj hR (mT _ _ _ _ _ _) q2 hw,q4 _ _ (by omega) hb⟩
theorem TW(p:Pb) (m:Mac) (z:Py):(firstIx (nearS p z).length (fun i=>badB p m ((nearS p z).getD i default))=-1/\gH p m z=none)\/∃ (k:Nat) (hk:k<(nearS p z).length),firstIx (nearS p z).length (fun i=>badB p m ((nearS p z).getD i default))=k/\gH p m z=some (nearS p z)[k]:=by
 unfold gH;generalize nearS p z=l;rcases dN l.length (fun i=>badB p m (l.getD i default)) with ⟨e,hn⟩|⟨q,hq,e,hp,aF⟩
 ·refine Or.inl ⟨e,List.find?_eq_none.2 fun x hx=>?_⟩
  obtain⟨j,hj,rfl⟩:=List.getElem_of_mem hx;have:=hn j hj;simp[hj]at this;simp[this]
 ·refine Or.inr ⟨q,hq,e,List.find?_eq_some_iff_getElem.2 ⟨?_,q,hq,rfl,fun j hj=>?_⟩⟩
  ·simpa[hq] using hp
  ·have:=aF j hj
   simp[show j<l.length by omega]at this;simpa using this
end Go.Proofs.YtkfgpnbpcpdclaaGreat
