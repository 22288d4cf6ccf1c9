/-
  A part of the proof: lemmas and contracts that the parts behind it use. Each one's conditions are its own premises.
-/
import Derived.WalkSpells
import Derived.Laws.AppendOwnNone
import Derived.StillTailTactics
import Derived.OrdersIn
import Derived.Test.YtmeaoneaephjeaaGreatDoorK1
set_option maxRecDepth 100000
set_option maxHeartbeats 8000000
set_option linter.unusedVariables false
set_option linter.unusedSimpArgs false
namespace Go.Proofs.YtmeaoneaephjeaaGreatDoor
open Go.RowKit Go
theorem je(va vb:Value) (a b:List Int) (w:World) (ha:aY w va a) (hb:aY w vb b) :
  Calls Tryz.prog 15 #[va,vb] w fun e w'=>e=.returned (.bool (eqV a b))/\Below w.heap.size w w':=by
 obtain⟨pa,ca,rfl,la1,la2,ea⟩:=ha.at;obtain⟨pb,cb,rfl,lb1,lb2,eb⟩:=hb.at;clear ha hb;have EA:=aa ea;clear ea;have EB:=aa eb;clear eb;by_cases hl:a.length=b.length
 ·have gt:((a.length:Int) != (b.length:Int))=false:=by simp[hl]
  have HL:=aa hl;clear hl
  go_enter Tryz.func15,Tryz.ntmps15
  go_wp2
  go_loopw [13] (fun i wr=>Below w.heap.size w wr/\∃ k:Nat,k<=a.length/\i=.int .i64 k/\∀ j,j<k->a.getD j 0=b.getD j 0) (fun i _=>a.length - (intOf i).toNat)
  case atStart=>exact⟨Below.refl _ _,0,by omega,rfl,by simp⟩
  case round=>
   obtain⟨aq,k,hk,rfl,aS⟩:=hrel;have H:=aa aS;clear aS;by_cases az:k<a.length
   ·obtain⟨b1,o1,rfl,h1⟩:=EA.out k az
    have iO:k<b.length:=by have:=HL.out;omega
    obtain⟨b2,o2,rfl,h2⟩:=EB.out k iO;obtain⟨x,hx⟩:∃ x,x=a[k]:=⟨_,rfl⟩;obtain⟨y,hy⟩:∃ y,y=b[k]:=⟨_,rfl⟩;rw[<-hx,Nat.mul_one]at h1;rw[<-hy,Nat.mul_one]at h2;have c1:∀ n,(wr.drewN n).cell? ⟨b1,o1+k,none⟩=some (.int .i64 x):=fun n=>ai aq h1.1
    have c2:∀ n,(wr.drewN n).cell? ⟨b2,o2+k,none⟩=some (.int .i64 y):=fun n=>ai aq h2.1
    have HX:=aa hx;clear hx;have HY:=aa hy;clear hy
    go_wp2
    go_quiet (fail)
    go_wp2
    ·have ht:(x != y)=true:=by assumption
     go_ret
     refine⟨aN ?_,dZ aq _⟩
     go_light
     unfold eqV;simp at ht ⊢;intro h;subst h;exact ht (HX.out.trans HY.out.symm)
    ·have ht:(x != y)=false:=by assumption
     go_roundw
     case rel=>
      refine⟨dZ aq _,k+1,by omega,by go_num,aT H.out ?_⟩;rw[ap 0 az,ap 0 iO,<-HX.out,<-HY.out];simpa using ht
     case measure=>simp[intOf];omega
   ·go_wp2
    go_ret
    refine⟨aN ?_,aq⟩;unfold eqV;simp;refine List.ext_getElem HL.out fun i h1 h2=>?_
    have:=H.out i (by omega)
    rwa [ap 0 h1,ap 0 h2]at this
 ·have gt:((a.length:Int) != (b.length:Int))=true:=by simp;omega
  go_enter Tryz.func15,Tryz.ntmps15
  go_wp2
  go_ret
  exact⟨aN (by unfold eqV;simp;intro h;exact hl (by rw[h])),Below.refl _ _⟩
theorem Eg{a b:List Int} {k:Nat} (h1:k<a.length) (h2:k<b.length) (hO:ordV a b=ordV (a.drop k) (b.drop k)):ordV a b=if cmpI a[k] b[k]=0 then ordV (a.drop (k+1)) (b.drop (k+1)) else cmpI a[k] b[k]:=by
 rw[hO,rF h1,rF h2,ordV];unfold cmpI
 grind
theorem qh(va vb:Value) (a b:List Int) (w:World) (ha:aY w va a) (hb:aY w vb b) :
  Calls Tryz.prog 170 #[va,vb] w fun e w'=>e=.returned (.int .i64 (ordV a b))/\Below w.heap.size w w':=by
 obtain⟨pa,ca,rfl,la1,la2,ea⟩:=ha.at;obtain⟨pb,cb,rfl,lb1,lb2,eb⟩:=hb.at;clear ha hb;have EA:=aa ea;clear ea;have EB:=aa eb;clear eb
 go_enter Tryz.func170,Tryz.ntmps170
 go_wp2
 go_loop [11] (fun i=>∃ k:Nat,k<=a.length/\i=.int .i64 k/\ordV a b=ordV (a.drop k) (b.drop k)) (fun i=>a.length - (intOf i).toNat)
 case atStart=>exact⟨0,by omega,rfl,by simp⟩
 case round=>
  obtain⟨k,hk,rfl,aS⟩:=hrel;have H:=aa aS;clear aS;by_cases az:k<a.length
  ·obtain⟨b1,o1,rfl,h1⟩:=EA.out k az
   obtain⟨x,hx⟩:∃ x,x=a[k]:=⟨_,rfl⟩;rw[<-hx,Nat.mul_one]at h1;have c1:=h1.1;have HX:=aa hx;clear hx h1;by_cases iO:k<b.length
   ·obtain⟨b2,o2,rfl,h2⟩:=EB.out k iO
    obtain⟨y,hy⟩:∃ y,y=b[k]:=⟨_,rfl⟩;rw[<-hy,Nat.mul_one]at h2;have c2:=h2.1;have HY:=aa hy;clear hy h2;have HS:=Eg az iO H.out;rw[<-HX.out,<-HY.out]at HS;have KU:=aa HS;clear HS
    go_wp2_with (go_at_call 203;refine(zk _ _ _).mono ?_;rintro e w' ⟨rfl,rfl⟩)
    ·have ht:(cmpI x y != 0)=true:=by assumption
     go_ret
     exact⟨aA (by rw[KU.out,if_neg (by simpa using ht)]),Below.refl _ _⟩
    ·have ht:(cmpI x y != 0)=false:=by assumption
     go_round
     case rel=>exact⟨k+1,by omega,by go_num,by rw[KU.out,if_pos (by simpa using ht)]⟩
     case measure=>simp[intOf];omega
   ·go_wp2
    go_ret
    refine⟨aA ?_,Below.refl _ _⟩;rw[H.out,rF az,List.drop_of_length_le (l:=b) (by omega)];rfl
  ·have HR:Hid (ordV a b=if a.length<b.length then -1 else 0):=by
    have h:ordV a b=if a.length<b.length then -1 else 0:=by
     rw[H.out,List.drop_of_length_le (by omega),wo,List.length_drop]
     grind
    exact h
   go_wp2
   all_goals
    go_ret
    refine⟨aA ?_,Below.refl _ _⟩;rw[HR.out]
    go_light
    grind
theorem zC(g:Nat) (lb:Array Value) (eg:∀ args w,(callFunc g args).run Tryz.prog w=.ok (.enter g args) w) (v:Value) (l:List Int) (p:Nat->Bool) (w:World) (hv:aY w v l)
  (hp:∀ i (hi:i<l.length)  W,Below w.heap.size w W->Calls Tryz.prog g (#[.int .i64 l[i]]++lb) W fun e W'=>e=.returned (.bool (p i))/\Below W.heap.size W W') :
  Calls Tryz.prog 152 #[v,.func (.func g) #[] lb] w fun e w'=>e=.returned (.int .i64 (firstIx l.length p))/\Below w.heap.size w w':=by
 obtain⟨pa,ca,rfl,la1,la2,ea⟩:=hv.at;clear hv;have EA:=aa ea;clear ea;have HP:=aa hp;clear hp
 go_enter Tryz.func152,Tryz.ntmps152
 go_wp2
 go_loopw [8] (fun i wr=>Below w.heap.size w wr/\∃ k:Nat,k<=l.length/\i=.int .i64 k/\∀ j,j<k->p j=false) (fun i _=>l.length - (intOf i).toNat)
 case atStart=>exact⟨Below.refl _ _,0,by omega,rfl,by simp⟩
 case round=>
  obtain⟨aq,k,hk,rfl,aS⟩:=hrel;have H:=aa aS;clear aS;by_cases az:k<l.length
  ·obtain⟨b1,o1,rfl,h1⟩:=EA.out k az
   rw[Nat.mul_one]at h1;have c1:=ai aq h1.1;have eQ:=HP.out k az wr aq;clear h1;generalize l[k]=x at c1 eQ;cases sh:p k with
   | true=>
    rw[sh]at eQ;have bO:=aa eQ;clear eQ;have IO:=aa sh;clear sh
    go_wp2_with fail
    refine bO.out.mono ?_;rintro e w1 ⟨rfl,aG⟩
    go_wp2_with fail
    go_ret
    exact⟨aA (dF _ _ _ az H.out IO.out).symm,ae aq aG⟩
   | false=>
    rw[sh]at eQ;have bO:=aa eQ;clear eQ;have IO:=aa sh;clear sh
    go_wp2_with fail
    refine bO.out.mono ?_;rintro e w1 ⟨rfl,aG⟩
    go_wp2_with fail
    go_roundw
    case rel=>exact⟨ae aq aG,k+1,by omega,by go_num,aT H.out IO.out⟩
    case measure=>simp[intOf];omega
  ·go_wp2
   go_ret
   exact⟨aA (by rw[eC];intro j hj;exact H.out j (by omega)),aq⟩
theorem zD(g:Nat) (lb:Array Value) (eg:∀ args w,(callFunc g args).run Tryz.prog w=.ok (.enter g args) w) (v:Value) (l:List (List Int)) (p:Nat->Bool) (w:World) (hv:dR w v l)
  (hp:∀ i (hi:i<l.length) (x:Value) (_:aY w x l[i]) W,Below w.heap.size w W->Calls Tryz.prog g (#[x]++lb) W fun e W'=>e=.returned (.bool (p i))/\Below W.heap.size W W') :
  Calls Tryz.prog 153 #[v,.func (.func g) #[] lb] w fun e w'=>e=.returned (.int .i64 (firstIx l.length p))/\Below w.heap.size w w':=by
 obtain⟨pa,ca,rfl,la1,la2,ea⟩:=hv.at;clear hv;have EA:=aa ea;clear ea;have HP:=aa hp;clear hp
 go_enter Tryz.func153,Tryz.ntmps153
 go_wp2
 go_loopw [8] (fun i wr=>Below w.heap.size w wr/\∃ k:Nat,k<=l.length/\i=.int .i64 k/\∀ j,j<k->p j=false) (fun i _=>l.length - (intOf i).toNat)
 case atStart=>exact⟨Below.refl _ _,0,by omega,rfl,by simp⟩
 case round=>
  obtain⟨aq,k,hk,rfl,aS⟩:=hrel;have H:=aa aS;clear aS;by_cases az:k<l.length
  ·obtain⟨b1,o1,rfl,h1⟩:=EA.out k az
   rw[Nat.mul_one]at h1;obtain⟨x,kq,hx⟩:=h1;have c1:=ai aq kq;have eQ:=HP.out k az x hx wr aq;clear kq hx;cases sh:p k with
   | true=>
    rw[sh]at eQ;have bO:=aa eQ;clear eQ;have IO:=aa sh;clear sh
    go_wp2_with fail
    refine bO.out.mono ?_;rintro e w1 ⟨rfl,aG⟩
    go_wp2_with fail
    go_ret
    exact⟨aA (dF _ _ _ az H.out IO.out).symm,ae aq aG⟩
   | false=>
    rw[sh]at eQ;have bO:=aa eQ;clear eQ;have IO:=aa sh;clear sh
    go_wp2_with fail
    refine bO.out.mono ?_;rintro e w1 ⟨rfl,aG⟩
    go_wp2_with fail
    go_roundw
    case rel=>exact⟨ae aq aG,k+1,by omega,by go_num,aT H.out IO.out⟩
    case measure=>simp[intOf];omega
  ·go_wp2
   go_ret
   exact⟨aA (by rw[eC];intro j hj;exact H.out j (by omega)),aq⟩
theorem jT(g:Nat) (lb:Array Value) (eg:∀ args w,(callFunc g args).run Tryz.prog w=.ok (.enter g args) w) (v:Value) (l:List Int) (p:Nat->Bool) (w:World) (hv:aY w v l)
  (hp:∀ i (hi:i<l.length)  W,Below w.heap.size w W->Calls Tryz.prog g (#[.int .i64 l[i]]++lb) W fun e W'=>e=.returned (.bool (p i))/\Below W.heap.size W W') :
  Calls Tryz.prog 106 #[v,.func (.func g) #[] lb] w fun e w'=>e=.returned (.bool (anyLt l.length p))/\Below w.heap.size w w':=by
 have hc:=zC g lb eg v l p w hv hp;have HA:=aa (oT l.length p);generalize firstIx l.length p=r at hc HA;have HC:=aa hc;clear hc hp
 go_enter Tryz.func106,Tryz.ntmps106
 go_wp2_with fail
 refine HC.out.mono ?_;rintro e w1 ⟨rfl,aG⟩
 go_wp2_with fail
 go_ret
 exact⟨aN HA.out,aG⟩
theorem vp(g:Nat) (lb:Array Value) (eg:∀ args w,(callFunc g args).run Tryz.prog w=.ok (.enter g args) w) (v:Value) (l:List (List Int)) (p:Nat->Bool) (w:World) (hv:dR w v l)
  (hp:∀ i (hi:i<l.length) (x:Value) (_:aY w x l[i]) W,Below w.heap.size w W->Calls Tryz.prog g (#[x]++lb) W fun e W'=>e=.returned (.bool (p i))/\Below W.heap.size W W') :
  Calls Tryz.prog 108 #[v,.func (.func g) #[] lb] w fun e w'=>e=.returned (.bool (anyLt l.length p))/\Below w.heap.size w w':=by
 have hc:=zD g lb eg v l p w hv hp;have HA:=aa (oT l.length p);generalize firstIx l.length p=r at hc HA;have HC:=aa hc;clear hc hp
 go_enter Tryz.func108,Tryz.ntmps108
 go_wp2_with fail
 refine HC.out.mono ?_;rintro e w1 ⟨rfl,aG⟩
 go_wp2_with fail
 go_ret
 exact⟨aN HA.out,aG⟩
end Go.Proofs.YtmeaoneaephjeaaGreatDoor
namespace Go.Proofs.YtmeaoneaephjeaaGreatDoor
open Go.RowKit Go Go.Shelf
def SF(w:World) (v:Value) (xs:List Value):Prop:=
 ∃ a cap,v=.slice a xs.length cap/\(a=none->xs.length=0/\cap=0)/\(∀ i x,xs[i]?=some x->∃ b off,a=some ⟨b,off,none⟩/\w.cell? ⟨b,off+i,none⟩=some x)/\∀ x∈xs,x.oneCell'=true
theorem Tryz.infoInt:(Tryz.prog.info? 3).map (fun i=>(i.zero,i.size,i.bytes))=some (some (.int .i64 0),1,8):=by kernel_rfl
theorem Tryz.infoInts:(Tryz.prog.info? 38).map (fun i=>(i.zero,i.size,i.bytes))=some (some (.slice none 0 0),1,24):=by kernel_rfl
theorem xz(v:Value) (xs:List Value) (w:World) (hv:SF w v xs) (hn:xs.length<=1099511627776) :
  Calls Tryz.prog 195 #[v] w fun e w'=>∃ u,e=.returned u/\w'.ownsRow w.heap.size 3 1 u xs.length xs/\Below w.heap.size w w':=by
 obtain⟨a,cap,rfl,ha,hc,h1⟩:=hv;obtain⟨i0,hi,cf,bP,cj⟩:=info_parts Tryz.infoInt;cases a with
 | none=>
  obtain⟨hl,rfl⟩:=ha rfl;obtain rfl:xs=[]:=List.eq_nil_of_length_eq_zero hl;have jK:=fun w=>Lib.run_eql_slice_nil (P:=Tryz.prog) w 38
  go_enter Tryz.func195,Tryz.ntmps195
  go_wp2_with fail
  go_ret
  exact⟨_,rfl,World.ownsRow_nil _ _ _ _,Below.refl _ _⟩
 | some ad=>
  have jK:=fun w=>Lib.run_eql_slice_nil (P:=Tryz.prog) w 38
  have bN:∀ j u,xs[j]?=some u->(w.alloc (.cells #[] 3)).cell? (ad.add j)=some u:=fun j u hj=>by
   obtain⟨b,off,e,eB⟩:=hc j u hj;cases e;have:(Addr.add ⟨b,off,none⟩ j)=⟨b,off+j,none⟩:=by unfold Addr.add;split<;>simp_all
   rw[this];exact ai (by go_grown) eB
  have aX:(w.alloc (.cells #[] 3)).ownsRow w.heap.size 3 1 (.slice (some ⟨w.heap.size,0,none⟩) 0 0) 0 []:=⟨by simp,.inr ⟨w.heap.size,0,#[],rfl,Nat.le_refl _,ak _ _,by omega,by simp[maxLen],by simp,by simp⟩⟩;have bB:=aa bN;have bL:=aa aX;have H1:=aa h1;clear bN aX h1 hc ha
  go_enter Tryz.func195,Tryz.ntmps195
  go_wp2_with (at_builtin;refine wpList_append_own _ rfl (.tmp 5) (.tmp 6) 38 rfl w.heap.size 3 i0 (.int .i64 0) 1 8 Tryz.underlying38 hi cf bP cj rfl (by decide) _ 0 [] rfl bL.out ad xs.length cap xs rfl (by simp) bB.out H1.out (by unfold maxLen;omega) (by omega) (by simp) ?_;intro v' w1 gG kZ _)
  go_ret
  refine⟨_,rfl,by simpa using gG,Below.grown (w:=w.alloc (.cells #[] 3)) (by go_grown) kZ (by simp) (fun k hk=>?_)⟩;cases hk;exact Nat.le_refl _
theorem FQ{w:World} {v:Value} {α:Type} {k:Nat} {R:World->Nat->Nat->α->Prop} {l:List α} (h:eM k R w v l):v.oneCell'=true:=by
 obtain⟨a,cap,rfl,_⟩:=h;rfl
theorem zM{w:World} {v:Value} {l:List Int} (h:aY w v l):SF w v (l.map (Value.int .i64)):=by
 obtain⟨a,cap,rfl,h1,h2,h3⟩:=h;refine⟨a,cap,by simp,fun e=>?_,fun i x hx=>?_,fun x hx=>?_⟩
 ·have:=h1.2.2 e;exact⟨by rw[List.length_map];omega,this⟩
 ·simp only[List.getElem?_map,Option.map_eq_some_iff]at hx
  obtain⟨y,hy,rfl⟩:=hx;obtain⟨b,off,ha,hr⟩:=h3 i y hy;exact⟨b,off,ha,by have:=hr.1;rwa [Nat.mul_one]at this⟩
 ·obtain⟨y,_,rfl⟩:=List.mem_map.1 hx;rfl
theorem rJ{w:World} {base:Nat} {e:TypeId} {v:Value} {n:Nat} {xs:List Value} (h:w.ownsRow base e 1 v n xs):∃ a cap,v=.slice a n cap/\n<=cap/\cap<=9223372036854775807/\(a=none->cap=0)/\xs.length=n/\∀ i x,xs[i]?=some x->∃ b,a=some ⟨b,0,none⟩/\w.cell? ⟨b,i,none⟩=some x:=by
 obtain⟨hl,h⟩:=h;rw[Nat.mul_one]at hl;rcases h with ⟨rfl,rfl⟩|⟨g,cap,cur,rfl,hg,hb,hn,hm,hs,ht⟩
 ·exact⟨none,0,rfl,by omega,by omega,fun _=>rfl,hl,fun i x hx=>by have:=(List.getElem?_eq_some_iff.1 hx).1;omega⟩
 ·refine⟨_,cap,rfl,hn,by simpa[maxLen] using hm,(fun e=>(by cases e)),hl,fun i x hx=>⟨g,rfl,?_⟩⟩
  rw[ab hb,<-hx,<-ht,Nat.mul_one];have hi:=(List.getElem?_eq_some_iff.1 hx).1;rw[List.getElem?_take_of_lt (by omega)];simp
theorem Gu{w:World} {v:Value} {l:List Int} (h:aY w v l):∀ x∈l,bI x:=fun x hx=>by
 obtain⟨a,cap,rfl,_,_,h3⟩:=h;obtain⟨i,hi,rfl⟩:=List.getElem_of_mem hx;obtain⟨b,off,_,hr⟩:=h3 i _ (List.getElem?_eq_getElem hi);exact hr.2
theorem ox{α:Type} (c:α->Array Value) (k:Nat) (hc:∀ x,(c x).size=k) (xs:List α) (i j:Nat) (hi:i<xs.length) (hj:j<k):(xs.flatMap fun x=>(c x).toList)[i * k+j]?=(c xs[i])[j]?:=by
 induction xs generalizing i with
 | nil=>simp at hi
 | cons x r ih=>
  rw[List.flatMap_cons];have hx:(c x).toList.length=k:=by rw[Array.length_toList,hc]
  cases i with
  | zero=>
   rw[List.getElem?_append_left (by omega)];simp
  | succ i=>
   rw[List.getElem?_append_right (by rw[hx,Nat.succ_mul];omega)];have:=ih i (by simpa using hi);simp only[List.getElem_cons_succ];rw[<-this,hx];congr 1;rw[Nat.succ_mul];omega
def cV(xs:List Rd):List Value:=xs.flatMap fun r=>r.c.toList
theorem xA(xs:List Rd):(cV xs).length=xs.length * 7:=by
 unfold cV;induction xs with
 | nil=>rfl
 | cons x r ih=>rw[List.flatMap_cons,List.length_append,ih];simp;omega
theorem rK(xs:List Rd):∀ u∈cV xs,u.oneCell'=true:=by
 intro u hu;unfold cV at hu;rw[List.mem_flatMap]at hu;obtain⟨r,_,hr⟩:=hu;simp at hr;rcases hr with rfl|rfl|rfl|rfl|rfl|rfl|rfl<;>rfl
theorem Np{w:World} {v:Value} {l:List Rd} (h:ka w v l) (j:Nat) (u:Value) (hu:(cV l)[j]?=some u):∃ b o c,v=.slice (some ⟨b,o,none⟩) l.length c/\w.cell? ⟨b,o+j,none⟩=some u:=by
 have hj:=(List.getElem?_eq_some_iff.1 hu).1;rw[xA]at hj;obtain⟨i,s,hs,rfl⟩:∃ i s,s<7/\j=i * 7+s:=⟨j / 7,j % 7,by omega,by omega⟩;have hi:i<l.length:=by omega
 unfold cV at hu;rw[ox Rd.c 7 (fun _=>rfl) l i s hi hs]at hu;obtain⟨a,cap,rfl,_,_,e⟩:=h.at;obtain⟨b,o,rfl,⟨c0,_⟩,⟨c1,_⟩,⟨c2,_⟩,⟨c3,_⟩,⟨c4,_⟩,⟨c5,_⟩,⟨c6,_⟩⟩:=e i hi;refine⟨b,o,cap,rfl,?_⟩;rw[<-Nat.add_assoc];rcases (show s=0\/s=1\/s=2\/s=3\/s=4\/s=5\/s=6 by omega) with rfl|rfl|rfl|rfl|rfl|rfl|rfl<;>(simp at hu;subst hu;first|exact c0|exact c1|exact c2|exact c3|exact c4|exact c5|exact c6)
theorem qW{w:World} {base:Nat} {v:Value} {l:List Rd} (h:aD w base 141 7 v l.length (cV l)) (hx:∀ i (hi:i<l.length),bI l[i].g.n/\bI l[i].g.h0/\bI l[i].g.h1/\bI l[i].g.h2/\bI l[i].g.h3/\bI l[i].g.h4/\bI l[i].f) (hn:l.length<=17592186044416):ka w v l:=by
 have aP:=fun i (hi:i<l.length) j (u:Value) (hj:j<7) (hu:l[i].c[j]?=some u)=>h.cell (i * 7+j) u (by unfold cV;rw[ox Rd.c 7 (fun _=>rfl) l i j hi hj];exact hu)
 rcases h.2 with ⟨rfl,hz⟩|⟨g,cap,cur,fz,rfl,_,hg,_,kq,iT,_,_⟩
 ·refine⟨none,0,by rw[hz],⟨by omega,by omega,fun _=>rfl⟩,hn,fun i x hi=>?_⟩
  have:=(List.getElem?_eq_some_iff.1 hi).1;omega
 ·refine⟨some ⟨g,0,none⟩,cap,rfl,⟨kq,by simp only[maxLen]at iT;omega,fun e=>by cases e⟩,hn,fun i x hi=>⟨g,0,rfl,?_⟩⟩
  obtain⟨gN,rfl⟩:=List.getElem?_eq_some_iff.1 hi;obtain⟨r0,r1,r2,r3,r4,r5,r6⟩:=hx i gN
  have key:∀ j u,j<7->l[i].c[j]?=some u->w.cell? ⟨g,0+i * 7+j,none⟩=some u:=fun j u hj hu=>by
   obtain⟨g',c',e1,e2⟩:=aP i gN j u hj hu;have:g=g':=by simp at e1;exact e1.1
   rw[this,Nat.zero_add];exact e2
  exact⟨⟨key 0 _ (by omega) rfl,r0⟩,⟨key 1 _ (by omega) rfl,r1⟩,⟨key 2 _ (by omega) rfl,r2⟩,⟨key 3 _ (by omega) rfl,r3⟩,⟨key 4 _ (by omega) rfl,r4⟩,⟨key 5 _ (by omega) rfl,r5⟩,⟨key 6 _ (by omega) rfl,r6⟩⟩
theorem Tryz.infoRound:(Tryz.prog.info? 141).map (fun i=>(i.zero,i.size,i.bytes))=some (some (.agg #[.int .i64 0,.int .i64 0,.int .i64 0,.int .i64 0,.int .i64 0,.int .i64 0,.int .i64 0]),7,56):=by kernel_rfl
theorem JC(x most:Int) (B:Nat) (W:World) (hc:W.cell? ⟨B,0,none⟩=some (.int .i64 most)) :
  Calls Tryz.prog 202 #[.int .i64 x,.pointer (some ⟨B,0,none⟩)] W fun e W'=>e=.returned (.bool (decide (x<0) || decide (most<=x)))/\Below W.heap.size W W':=by
 by_cases hx:x<0
 ·go_enter Tryz.func202,Tryz.ntmps202
  go_wp2
  go_ret
  exact⟨aN (by simp[hx]),Below.refl _ _⟩
 ·go_enter Tryz.func202,Tryz.ntmps202
  go_wp2
  go_ret
  exact⟨aN (by simp;omega),Below.refl _ _⟩
theorem Bu(v:Value) (l:List Int) (n most:Int) (w:World) (hv:aY w v l) :
  Calls Tryz.prog 169 #[v,.int .i64 n,.int .i64 most] w fun e w'=>e=.returned (.int .i64 (vectorE l n most))/\Below w.heap.size w w':=by
 have aC:Below w.heap.size w (w.alloc (.cells #[.int .i64 most] 3)):=by go_grown
 have DV:=jT 202 #[.pointer (some ⟨w.heap.size,0,none⟩)] (enters_of Tryz.func202 (by kernel_rfl) rfl) v l (fun i=>decide (l.getD i 0<0) || decide (most<=l.getD i 0))
  (w.alloc (.cells #[.int .i64 most] 3)) (hv.up up_int aC) (fun i hi W hW=>by
   rw[ap 0 hi]
   exact JC _ _ _ _ (ai hW (by simp[ab (ak _ _)])))
 have HV:Hid (vectorE l n most=if (l.length:Int)≠n then 15 else if anyLt l.length (fun i=>decide (l.getD i 0<0) || decide (most<=l.getD i 0)) then 2 else 0):=by exact rfl
 generalize anyLt l.length (fun i=>decide (l.getD i 0<0) || decide (most<=l.getD i 0))=r at DV HV;have HC:=aa DV;clear DV;obtain⟨pa,ca,rfl,la1,la2,_⟩:=hv.at;clear hv;by_cases hl:(l.length:Int)=n
 ·have gt:((l.length:Int) != n)=false:=by simp[hl]
  have HL:=aa hl;clear hl;cases r with
  | true=>
   go_enter Tryz.func169,Tryz.ntmps169
   go_wp2_with fail
   refine HC.out.mono ?_;rintro e w1 ⟨rfl,aG⟩
   go_wp2_with fail
   go_ret
   exact⟨aA (by rw[HV.out,if_neg (by simpa using HL.out)];rfl),ae aC aG⟩
  | false=>
   go_enter Tryz.func169,Tryz.ntmps169
   go_wp2_with fail
   refine HC.out.mono ?_;rintro e w1 ⟨rfl,aG⟩
   go_wp2_with fail
   go_ret
   exact⟨aA (by rw[HV.out,if_neg (by simpa using HL.out)];rfl),ae aC aG⟩
 ·have gt:((l.length:Int) != n)=true:=by simp[hl]
  go_enter Tryz.func169,Tryz.ntmps169
  go_wp2_with fail
  go_ret
  exact⟨aA (by rw[HV.out,if_pos hl]),aC⟩
theorem wB(v:Value) (l:List (List Int)) (i:Nat) (hi:i<l.length) (w:World) (hv:dR w v l) :
  Calls Tryz.prog 204 #[v,.int .i64 i] w fun e w'=>e=.returned (.bool (unordB l i))/\Below w.heap.size w w':=by
 obtain⟨pa,ca,rfl,la1,la2,ea⟩:=hv.at;clear hv;by_cases h0:0<i
 ·obtain⟨j,rfl⟩:∃ j,i=j+1:=⟨i - 1,by omega⟩
  have hj:j<l.length:=by omega
  obtain⟨b1,o1,rfl,x1,c1,h1⟩:=ea j hj;obtain⟨b2,o2,e2,x2,c2,h2⟩:=ea (j+1) hi;obtain⟨rfl,rfl⟩:b1=b2/\o1=o2:=by simpa using e2
  clear e2 ea;rw[Nat.mul_one]at c1 c2
  have HU:Hid (unordB l (j+1)=decide (0<=ordV l[j] l[j+1])):=by
   have h:unordB l (j+1)=decide (0<=ordV l[j] l[j+1]):=by
    unfold unordB;rw[Nat.add_sub_cancel,ap [] hj,ap [] hi];simp
   exact h
  generalize l[j]=y1 at h1 HU;generalize l[j+1]=y2 at h2 HU;have d1:∀ x:ExtW w,x.val.cell? ⟨b1,o1+j,none⟩=some x1:=fun x=>x.cell c1
  have d2:∀ x:ExtW w,x.val.cell? ⟨b1,o1+(j+1),none⟩=some x2:=fun x=>x.cell c2
  have eQ:∀ x:ExtW w,Calls Tryz.prog 170 #[x1,x2] x.val fun e w''=>e=.returned (.int .i64 (ordV y1 y2))/\∃ p:ExtW w,w''=p.val:=
   fun x=>Calls.ext_of (qh _ _ _ _ _ (h1.up up_int x.ext) (h2.up up_int x.ext))
  have bO:=aa eQ;clear eQ;clear c1 c2 h1 h2;have Tj:IntKind.i64.wrap (j:Int)=(j:Int):=IntWalk.i64_in _ (by omega);have xl:(0:Int)<=(j:Int)+1:=by omega
  have Fb:(j:Int)+1<(l.length:Int):=by omega
  have Ay:((j:Int)+1).toNat=j+1:=by omega
  go_enter Tryz.func204,Tryz.ntmps204
  go_wp2_with fail
  refine aB (by kernel_rfl) (by kernel_rfl) ?_
  repeat (quiet_step ((go_at_call 170;exact bO.out _)))
  refine wpQuiet_nil ?_;intro _ dY;obtain⟨xq,cZ⟩:=dY;subst cZ
  go_wp2_with fail
  go_ret
  exact⟨aN HU.out.symm,xq.ext⟩
 ·obtain rfl:i=0:=by omega
  go_enter Tryz.func204,Tryz.ntmps204
  go_wp2_with fail
  go_quiet (fail)
  go_wp2_with fail
  go_ret
  exact⟨aN (by simp[unordB]),dZ (Below.refl _ _) _⟩
theorem Qd(x:Value) (v:Value) (y z:List Int) (B:Nat) (W:World) (hc:W.cell? ⟨B,0,none⟩=some v) (hx:aY W x y) (hv:aY W v z) :
  Calls Tryz.prog 214 #[x,.pointer (some ⟨B,0,none⟩)] W fun e W'=>e=.returned (.bool (eqV y z))/\Below W.heap.size W W':=by
 have HC:=aa (je x v y z W hx hv);obtain⟨_,_,rfl,_⟩:=hv;clear hx
 go_enter Tryz.func214,Tryz.ntmps214
 go_wp2_with fail
 refine HC.out.mono ?_;rintro e w1 ⟨rfl,aG⟩
 go_wp2_with fail
 go_ret
 exact⟨rfl,aG⟩
theorem Ue(v:Value) (l:List (List Int)) (x:Value) (y:List Int) (w:World) (hv:dR w v l) (hx:aY w x y) :
  Calls Tryz.prog 205 #[v,x] w fun e w'=>e=.returned (.bool (hasV l y))/\Below w.heap.size w w':=by
 have aC:Below w.heap.size w (w.alloc (.cells #[x] 38)):=by go_grown
 have DV:=vp 214 #[.pointer (some ⟨w.heap.size,0,none⟩)] (enters_of Tryz.func214 (by kernel_rfl) rfl) v l (fun i=>eqV (l.getD i []) y)
  (w.alloc (.cells #[x] 38)) (hv.up up_ints aC) (fun i hi z hz W hW=>by
   rw[ap [] hi]
   exact Qd _ _ _ _ _ _ (ai hW (by simp[ab (ak _ _)])) (hz.up up_int hW) ((hx.up up_int aC).up up_int hW))
 have HC:=aa DV;clear DV;obtain⟨_,_,rfl,_⟩:=hx;clear hv
 go_enter Tryz.func205,Tryz.ntmps205
 go_wp2_with fail
 refine HC.out.mono ?_;rintro e w1 ⟨rfl,aG⟩
 go_wp2_with fail
 go_ret
 exact⟨rfl,ae aC aG⟩
theorem zN(t:Tk) (pc:Option Addr) (nc cc:Nat) (c:Cs) (x0 x1 x2:Value) (w:World) (h0:aY w x0 c.inp) (h1:dR w x1 c.out) (h2:dR w x2 c.calm) :
  Calls Tryz.prog 171 #[.agg #[.int .i64 t.n,.int .i64 t.ins,.int .i64 t.outs,.slice pc nc cc],.agg #[x0,x1,x2]] w fun e w'=>e=.returned (.int .i64 (vectorsE t c))/\Below w.heap.size w w':=by
 have G1:=aa h1;have G2:=aa h2;obtain⟨p0,c0,rfl,_⟩:=h0;obtain⟨p1,c1,rfl,l1,m1,e1⟩:=h1.at;obtain⟨p2,c2,rfl,l2,m2,e2⟩:=h2.at;have E1:=aa e1;have E2:=aa e2;clear h1 h2 e1 e2;by_cases hl:c.out.length<1\/1024<c.out.length
 ·have HV:Hid (vectorsE t c=5):=by(have h:vectorsE t c=5:=by(unfold vectorsE;rw[if_pos hl]));exact h
  rcases hl with hl|hl
  ·go_enter Tryz.func171,Tryz.ntmps171
   go_wp2_with fail
   go_ret
   exact⟨aA HV.out.symm,by go_grown⟩
  ·go_enter Tryz.func171,Tryz.ntmps171
   go_wp2_with fail
   go_ret
   exact⟨aA HV.out.symm,by go_grown⟩
 have gt:1<=c.out.length:=by omega
 have mD:c.out.length<=1024:=by omega
 have HV:Hid (vectorsE t c=if a8 c.out.length (iY t c)≠0 then a8 c.out.length (iY t c) else a8 c.calm.length (iP c)):=by
  have h:vectorsE t c=if a8 c.out.length (iY t c)≠0 then a8 c.out.length (iY t c) else a8 c.calm.length (iP c):=by unfold vectorsE;rw[if_neg hl]
  exact h
 clear hl
 go_enter Tryz.func171,Tryz.ntmps171
 go_wp2_with fail
 refine bj (fun W=>Below w.heap.size w W/\W.heap[w.heap.size]?=some (.cells #[.int .i64 t.n,.int .i64 t.ins,.int .i64 t.outs,.slice pc nc cc] 24)/\W.heap[w.heap.size+1]?=some (.cells #[.slice p0 c.inp.length c0,.slice p1 c.out.length c1,.slice p2 c.calm.length c2] 135))
  ⟨by go_grown,am _ (ak _ _),by simpa using ak (w.alloc (.cells #[.int .i64 t.n,.int .i64 t.ins,.int .i64 t.outs,.slice pc nc cc] 24)) _⟩ (fun W0 aW=>?_)
 obtain⟨aC,hT,hC⟩:=aW;have HT:=aa hT;clear hT;have HC:=aa hC;clear hC
 go_loopw [23] (fun i wr=>Below W0.heap.size W0 wr/\∃ k:Nat,k<=c.out.length/\i=.int .i64 k/\∀ j,j<k->iY t c j=0) (fun i _=>c.out.length - (intOf i).toNat)
 case atStart=>exact⟨Below.refl _ _,0,by omega,rfl,by simp⟩
 case round=>
  obtain⟨aq,k,hk,rfl,aS⟩:=hrel;have H:=aa aS;clear aS;have t1:=ab (af aq HT.out);have t2:=ab (af aq HC.out);by_cases az:k<c.out.length
  ·obtain⟨b1,o1,rfl,x,cx,hx⟩:=E1.out k az
   rw[Nat.mul_one]at cx;have d1:=ai (ae aC aq) cx;have HX:=aa (hx.up up_int (ae aC aq));obtain⟨px,qx,rfl,_⟩:=hx;clear cx
   go_wp2_with fail
   refine(Bu _ _ _ _ _ HX.out).mono ?_;rintro e w1 ⟨rfl,aG⟩
   have HO:Hid (iY t c k=if vectorE c.out[k] t.n t.outs≠0 then vectorE c.out[k] t.n t.outs else if unordB c.out k then 14 else 0):=by
    have h:iY t c k=if vectorE c.out[k] t.n t.outs≠0 then vectorE c.out[k] t.n t.outs else if unordB c.out k then 14 else 0:=by unfold iY;rw[ap [] az]
    exact h
   generalize vectorE c.out[k] t.n t.outs=ev at HO;by_cases lR:ev=0
   ·subst lR
    have s1:=ab (af (ae aq aG) HT.out);have s2:=ab (af (ae aq aG) HC.out);clear t1 t2 d1
    go_wp2_with fail
    refine(wB _ _ k az _ (G1.out.up up_ints (ae (ae aC aq) aG))).mono ?_;rintro e w2 ⟨rfl,aV⟩;generalize unordB c.out k=u at HO;cases u with
    | true=>
     go_wp2_with fail
     go_ret
     exact⟨aA (by rw[HV.out,<-bH k 14 az H.out (by rw[HO.out];rfl) (by decide)];rfl),ae (ae (ae aC aq) aG) aV⟩
    | false=>
     go_wp2_with fail
     go_roundw
     case rel=>exact⟨ae (ae aq aG) aV,k+1,by omega,by go_num,aT H.out (by rw[HO.out];rfl)⟩
     case measure=>simp[intOf];omega
   ·have hev':(ev != 0)=true:=by simpa using lR
    go_wp2_with fail
    go_ret
    exact⟨aA (by rw[HV.out,<-bH k ev az H.out (by rw[HO.out,if_pos lR]) lR,if_pos lR]),ae (ae aC aq) aG⟩
  ·have cT:Hid (vectorsE t c=a8 c.calm.length (iP c)):=by
    have h:vectorsE t c=a8 c.calm.length (iP c):=by rw[HV.out,cH _ _ (fun j hj=>H.out j (by omega))];simp
    exact h
   go_wp2_with fail
   clear t1 t2;have dq:=ae aC aq;obtain⟨W1,cC⟩:∃ W1:World,W1=wr:=⟨_,rfl⟩;rw[<-cC]at aq dq ⊢;clear cC wr
   go_loopw [45] (fun i wr=>Below W1.heap.size W1 wr/\∃ k:Nat,k<=c.calm.length/\i=.int .i64 k/\∀ j,j<k->iP c j=0) (fun i _=>c.calm.length - (intOf i).toNat)
   case atStart=>exact⟨Below.refl _ _,0,by omega,rfl,by simp⟩
   case round=>
    obtain⟨jJ,q,hq,rfl,oZ⟩:=hrel;have H2:=aa oZ;clear oZ;have t2:=ab (af (ae aq jJ) HC.out);by_cases AF:q<c.calm.length
    ·obtain⟨b1,o1,rfl,x,cx,hx⟩:=E2.out q AF
     rw[Nat.mul_one]at cx;have d1:=ai (ae dq jJ) cx;have HX:=aa (hx.up up_int (ae dq jJ));obtain⟨px,qx,rfl,_⟩:=hx;clear cx
     go_wp2_with fail
     refine(Ue _ _ _ _ _ (G1.out.up up_ints (ae dq jJ)) HX.out).mono ?_;rintro e w1 ⟨rfl,aG⟩
     have HO:Hid (iP c q=if hasV c.out c.calm[q] then(if unordB c.calm q then 14 else 0) else 6):=by
      have h:iP c q=if hasV c.out c.calm[q] then(if unordB c.calm q then 14 else 0) else 6:=by unfold iP;rw[ap [] AF]
      exact h
     generalize hasV c.out c.calm[q]=ev at HO;cases ev with
     | true=>
      have s2:=ab (af (ae (ae aq jJ) aG) HC.out);clear t2 d1
      go_wp2_with fail
      refine(wB _ _ q AF _ (G2.out.up up_ints (ae (ae dq jJ) aG))).mono ?_;rintro e w2 ⟨rfl,aV⟩;generalize unordB c.calm q=u at HO;cases u with
      | true=>
       go_wp2_with fail
       go_ret
       exact⟨aA (by rw[cT.out,<-bH q 14 AF H2.out (by rw[HO.out];rfl) (by decide)]),ae (ae (ae dq jJ) aG) aV⟩
      | false=>
       go_wp2_with fail
       go_roundw
       case rel=>exact⟨ae (ae jJ aG) aV,q+1,by omega,by go_num,aT H2.out (by rw[HO.out];rfl)⟩
       case measure=>simp[intOf];omega
     | false=>
      go_wp2_with fail
      go_ret
      exact⟨aA (by rw[cT.out,<-bH q 6 AF H2.out (by rw[HO.out];rfl) (by decide)]),ae (ae dq jJ) aG⟩
    ·go_wp2_with fail
     go_ret
     exact⟨aA (by rw[cT.out,cH];intro j hj;exact H2.out j (by omega)),ae dq jJ⟩
theorem pX(t:Tk) (vc:Value) (w:World) (hv:bK w vc t.cases) :
  Calls Tryz.prog 124 #[.agg #[.int .i64 t.n,.int .i64 t.ins,.int .i64 t.outs,vc]] w fun e w'=>e=.returned (.int .i64 (taskE t))/\Below w.heap.size w w':=by
 have G:=aa hv;obtain⟨pc,cc,rfl,l1,m1,e1⟩:=hv.at;clear hv;have E:=aa e1;clear e1;by_cases hr:t.n<1\/5<t.n\/t.ins<1\/8<t.ins\/t.outs<1\/8<t.outs
 ·have HV:Hid (taskE t=2):=by(have h:taskE t=2:=by(unfold taskE;rw[if_pos hr]));exact h
  by_cases r1:t.n<1
  ·go_enter Tryz.func124,Tryz.ntmps124
   go_wp2_with fail
   go_ret;exact⟨aA HV.out.symm,by go_grown⟩
  by_cases r2:5<t.n
  ·go_enter Tryz.func124,Tryz.ntmps124
   go_wp2_with fail
   go_ret;exact⟨aA HV.out.symm,by go_grown⟩
  by_cases r3:t.ins<1
  ·go_enter Tryz.func124,Tryz.ntmps124
   go_wp2_with fail
   go_ret;exact⟨aA HV.out.symm,by go_grown⟩
  by_cases r4:8<t.ins
  ·go_enter Tryz.func124,Tryz.ntmps124
   go_wp2_with fail
   go_ret;exact⟨aA HV.out.symm,by go_grown⟩
  by_cases r5:t.outs<1
  ·go_enter Tryz.func124,Tryz.ntmps124
   go_wp2_with fail
   go_ret;exact⟨aA HV.out.symm,by go_grown⟩
  ·have r6:8<t.outs:=by omega
   clear hr
   go_enter Tryz.func124,Tryz.ntmps124
   go_wp2_with fail
   go_ret;exact⟨aA HV.out.symm,by go_grown⟩
 have r1:1<=t.n:=by omega
 have r2:t.n<=5:=by omega
 have r3:1<=t.ins:=by omega
 have r4:t.ins<=8:=by omega
 have r5:1<=t.outs:=by omega
 have r6:t.outs<=8:=by omega
 by_cases hl:t.cases.length<1\/1024<t.cases.length
 ·have HV:Hid (taskE t=5):=by(have h:taskE t=5:=by(unfold taskE;rw[if_neg hr,if_pos hl]));exact h
  clear hr;rcases hl with hl|hl
  ·go_enter Tryz.func124,Tryz.ntmps124
   go_wp2_with fail
   go_ret;exact⟨aA HV.out.symm,by go_grown⟩
  ·go_enter Tryz.func124,Tryz.ntmps124
   go_wp2_with fail
   go_ret;exact⟨aA HV.out.symm,by go_grown⟩
 have gt:1<=t.cases.length:=by omega
 have mD:t.cases.length<=1024:=by omega
 have HV:Hid (taskE t=a8 t.cases.length (eH t)):=by(have h:taskE t=a8 t.cases.length (eH t):=by(unfold taskE;rw[if_neg hr,if_neg hl]));exact h
 clear hr hl
 go_enter Tryz.func124,Tryz.ntmps124
 go_wp2_with fail
 refine bj (fun W=>Below w.heap.size w W/\W.heap[w.heap.size]?=some (.cells #[.int .i64 t.n,.int .i64 t.ins,.int .i64 t.outs,.slice pc t.cases.length cc] 24))
  ⟨by go_grown,ak _ _⟩ (fun W0 aW=>?_)
 obtain⟨aC,hT⟩:=aW;have HT:=aa hT;clear hT
 go_loopw [46] (fun i wr=>Below W0.heap.size W0 wr/\∃ k:Nat,k<=t.cases.length/\i=.int .i64 k/\∀ j,j<k->eH t j=0) (fun i _=>t.cases.length - (intOf i).toNat)
 case atStart=>exact⟨Below.refl _ _,0,by omega,rfl,by simp⟩
 case round=>
  obtain⟨aq,k,hk,rfl,aS⟩:=hrel;have H:=aa aS;clear aS;have t1:=ab (af aq HT.out);have dq:=ae aC aq;by_cases az:k<t.cases.length
  ·obtain⟨b1,o1,rfl,⟨x0,cx0,cS⟩,⟨x1,cx1,dj⟩,⟨x2,cx2,dU⟩⟩:=E.out k az
   have d0:=ai dq cx0;have d1:=ai dq cx1;have d2:=ai dq cx2;have yZ:=aa cS;have km:=aa dj;have fB:=aa dU;obtain⟨p0,q0,rfl,_⟩:=cS;obtain⟨p1,q1,rfl,_⟩:=dj;obtain⟨p2,q2,rfl,_⟩:=dU;clear cx0 cx1 cx2;have eK:=ar (af aq HT.out)
   go_wp2_with fail
   refine aL (fun W=>Below wr.heap.size wr W/\W.heap[wr.heap.size]?=some (.cells #[.slice p0 t.cases[k].inp.length q0,.slice p1 t.cases[k].out.length q1,.slice p2 t.cases[k].calm.length q2] 135)) ⟨by go_grown,ak _ _⟩ (fun V hV=>?_);obtain⟨qB,hC⟩:=hV;have HC:=aa hC;clear hC;have TJ:=ae dq qB;refine(Bu _ _ _ _ _ (yZ.out.up up_int TJ)).mono ?_;rintro e w1 ⟨rfl,aG⟩
   have HO:Hid (eH t k=if vectorE t.cases[k].inp t.n t.ins≠0 then vectorE t.cases[k].inp t.n t.ins else if 0<k/\0<=ordV (t.cases.getD (k - 1) default).inp t.cases[k].inp then 14 else vectorsE t t.cases[k]):=by
    have h:eH t k=if vectorE t.cases[k].inp t.n t.ins≠0 then vectorE t.cases[k].inp t.n t.ins else if 0<k/\0<=ordV (t.cases.getD (k - 1) default).inp t.cases[k].inp then 14 else vectorsE t t.cases[k]:=by unfold eH;rw[ap default az]
    exact h
   generalize vectorE t.cases[k].inp t.n t.ins=ev at HO;have iS:=ae TJ aG;by_cases lR:ev=0
   case neg=>
    have hev':(ev != 0)=true:=by simpa using lR
    go_wp2_with fail
    go_ret
    exact⟨aA (by rw[HV.out,<-bH k ev az H.out (by rw[HO.out,if_pos lR]) lR]),iS⟩
   subst lR;have yt:=ae qB aG;have s1:=ab (af (ae aq yt) HT.out);have s2:=ab (af aG HC.out);clear t1 d0 d1 d2 eK
   go_wp2_with fail
   by_cases eT:k=0
   ·have eU:Hid (eH t k=vectorsE t t.cases[k]):=by(have h:eH t k=vectorsE t t.cases[k]:=by(rw[HO.out,if_neg (by simp),if_neg (by omega)]));exact h
    have hd:decide ((0:Int)<(k:Int))=false:=by simp;omega
    have fS:decide (0<k)=false:=by simp;omega
    clear HO eT;refine aB (by kernel_rfl) (by kernel_rfl) ?_
    repeat (go_big_quiet_step (fail))
    refine wpQuiet_nil ?_;intro _ dY;obtain⟨xq,cZ⟩:=dY;subst cZ;have r1':=ab (af (ae (ae aq yt) xq.ext) HT.out);have r2':=ab (af (ae aG xq.ext) HC.out);clear s1 s2 hd fS;have sw:=ae iS xq.ext
    go_wp2_with fail
    refine(zN t _ _ _ t.cases[k] _ _ _ _ (yZ.out.up up_int sw) (km.out.up up_ints sw) (fB.out.up up_ints sw)).mono ?_;rintro e w2 ⟨rfl,aV⟩;generalize vectorsE t t.cases[k]=e2 at eU;by_cases wP:e2=0
    ·subst wP
     go_wp2_with fail
     go_roundw
     case rel=>exact⟨ae (ae (ae aq yt) xq.ext) aV,k+1,by omega,by go_num,aT H.out eU.out⟩
     case measure=>simp[intOf];omega
    ·have he2':(e2 != 0)=true:=by simpa using wP
     go_wp2_with fail
     go_ret
     exact⟨aA (by rw[HV.out,<-bH k e2 az H.out eU.out wP]),ae sw aV⟩
   ·obtain⟨j,hj⟩:∃ j,k=j+1:=⟨k - 1,by omega⟩
    have gR:j<t.cases.length:=by omega
    have HJ:=aa hj;obtain⟨b2,o2,e2,⟨y0,cy0,iV⟩,_⟩:=E.out j gR;obtain⟨rfl,rfl⟩:b1=b2/\o1=o2:=by simpa using e2
    clear e2;have hd:decide ((0:Int)<(k:Int))=true:=by simp;omega
    have fS:0<k:=by omega
    have gm:Hid (eH t k=if 0<=ordV t.cases[j].inp t.cases[k].inp then 14 else vectorsE t t.cases[k]):=by
     have h:eH t k=if 0<=ordV t.cases[j].inp t.cases[k].inp then 14 else vectorsE t t.cases[k]:=by
      rw[HO.out,if_neg (by simp)];have e:k - 1=j:=by omega
      rw[e,ap default gR]
      grind
     exact h
    clear HO eT hj;have jn:IntKind.i64.wrap ((k:Int) - 1)=(j:Int):=by rw[HJ.out];rw[IntWalk.i64_in _ (by omega)];omega
    have q1:∀ x:ExtW w1,∀ o,x.val.cell? ⟨w.heap.size,o,none⟩=_:=fun x=>ab (af (ae (ae aq yt) x.ext) HT.out)
    have q2:∀ x:ExtW w1,∀ o,x.val.cell? ⟨wr.heap.size,o,none⟩=_:=fun x=>ab (af (ae aG x.ext) HC.out)
    have q3:∀ x:ExtW w1,x.val.cell? ⟨b1,o1+j * 3,none⟩=some y0:=fun x=>x.cell (ai iS cy0)
    have eQ:∀ x:ExtW w1,Calls Tryz.prog 170 #[y0,.slice p0 t.cases[k].inp.length q0] x.val fun e w''=>e=.returned (.int .i64 (ordV t.cases[j].inp t.cases[k].inp))/\∃ p:ExtW w1,w''=p.val:=
     fun x=>Calls.ext_of (qh _ _ _ _ _ (iV.up up_int (ae iS x.ext)) (yZ.out.up up_int (ae iS x.ext)))
    have bO:=aa eQ;clear eQ;have S4:=aa iV;clear iV cy0;generalize ordV t.cases[j].inp t.cases[k].inp=oo at bO gm;clear s1 s2;refine aB (by kernel_rfl) (by kernel_rfl) ?_
    repeat (go_big_quiet_step ((go_at_call 170;exact bO.out _)))
    refine wpQuiet_nil ?_;intro _ dY;obtain⟨xq,cZ⟩:=dY;subst cZ;have r1':=q1 xq;have r2':=q2 xq;clear q1 q2 q3 hd fS;have sw:=ae iS xq.ext;by_cases qA:0<=oo
    ·go_wp2_with fail
     go_ret
     exact⟨aA (by rw[HV.out,<-bH k 14 az H.out (by rw[gm.out,if_pos qA]) (by decide)]),sw⟩
    ·have eU:Hid (eH t k=vectorsE t t.cases[k]):=by(have h:eH t k=vectorsE t t.cases[k]:=by(rw[gm.out,if_neg qA]));exact h
     clear gm
     go_wp2_with fail
     refine(zN t _ _ _ t.cases[k] _ _ _ _ (yZ.out.up up_int sw) (km.out.up up_ints sw) (fB.out.up up_ints sw)).mono ?_;rintro e w2 ⟨rfl,aV⟩;generalize vectorsE t t.cases[k]=e2 at eU;by_cases wP:e2=0
     ·subst wP
      go_wp2_with fail
      go_roundw
      case rel=>exact⟨ae (ae (ae aq yt) xq.ext) aV,k+1,by omega,by go_num,aT H.out eU.out⟩
      case measure=>simp[intOf];omega
     ·have he2':(e2 != 0)=true:=by simpa using wP
      go_wp2_with fail
      go_ret
      exact⟨aA (by rw[HV.out,<-bH k e2 az H.out eU.out wP]),ae sw aV⟩
  ·go_wp2_with fail
   go_ret
   exact⟨aA (by rw[HV.out,cH];intro j hj;exact H.out j (by omega)),dq⟩
end Go.Proofs.YtmeaoneaephjeaaGreatDoor
namespace Go.Proofs.YtmeaoneaephjeaaGreatDoor
def zl(word:List Rd):Int:=if word.length=0 then 0 else(word.getD (word.length - 1) default).f
def fV(c:Cs) (f:Int):List (List Int):=if f=0/\0<c.calm.length then c.calm else c.out
def iG(t:Tk) (i f:Int):Int:=
 if taskE t≠0 then taskE t else if i<0\/(t.cases.length:Int)<=i then 6 else if f<0\/2 ^ t.n.toNat<=f then 2 else 0
def iH(t:Tk) (i f:Int):List (List Int):=if iG t i f≠0 then [] else fV (t.cases.getD i.toNat default) f
theorem Qe{α:Type} [DecidableEq α] (l m:List α) (hl:l.Pairwise (·≠·)) (h:∀ x∈l,x∈m):l.length<=m.length:=by
 induction l generalizing m with
 | nil=>simp
 | cons x r ih=>
  have hx:=h x (by simp);have h1:=ih (m.erase x) (List.pairwise_cons.1 hl).2 (fun y hy=>(List.mem_erase_of_ne (fun e=>(List.pairwise_cons.1 hl).1 y hy e.symm)).2 (h y (by simp[hy])));rw[List.length_erase_of_mem hx]at h1;have:=List.length_pos_of_mem hx;simp only[List.length_cons];omega
theorem Gv(l:List (List Int)) (h:∀ i,i<l.length->unordB l i=false):∀ j i,i<j->j<l.length->ordV (l.getD i []) (l.getD j [])<0:=by
 intro j;induction j with
 | zero=>intro i hi;omega
 | succ j ih=>
  intro i hi hj;have h1:=h (j+1) hj
  have h2:ordV (l.getD j []) (l.getD (j+1) [])<0:=by
   unfold unordB at h1;rw[Nat.add_sub_cancel,decide_eq_true (by omega:0<j+1),Bool.true_and]at h1;have:=of_decide_eq_false h1;omega
  rcases Nat.lt_or_ge i j with h3|h3
  ·exact Lo (ih i h3 (by omega)) h2
  ·obtain rfl:i=j:=by omega
   exact h2
theorem Nq(l:List (List Int)) (h:∀ i,i<l.length->unordB l i=false):l.Pairwise (·≠·):=by
 rw[List.pairwise_iff_getElem];intro i j hi hj Xe e;have h1:=Gv l h j i Xe hj;rw[show l.getD i []=l[i] by simp[hi],show l.getD j []=l[j] by simp[hj],e,rG]at h1;omega
theorem mU{n:Nat} {f:Nat->Int} (h:a8 n f=0):∀ i,i<n->f i=0:=by
 intro i hi;induction n generalizing f i with
 | zero=>omega
 | succ n ih=>
  rw[jB]at h;by_cases h0:f 0=0
  ·rw[if_neg (by simpa using h0)]at h
   cases i with
   | zero=>exact h0
   | succ i=>exact ih h i (by omega)
  ·rw[if_pos h0]at h
   exact absurd h h0
theorem zP{v:List Int} {n m:Int} (h:vectorE v n m=0):(v.length:Int)=n:=by
 unfold vectorE at h;by_cases e:(v.length:Int)=n
 ·exact e
 ·rw[if_pos e]at h;omega
theorem Qf{l:List (List Int)} {v:List Int} (h:hasV l v=true):v∈l:=by
 unfold hasV at h;obtain⟨i,hi,e⟩:=(kI _ _).1 h;unfold eqV at e;have:=of_decide_eq_true e;rw[<-this,show l.getD i []=l[i] by simp[hi]];exact List.getElem_mem hi
structure CaseOk (t:Tk) (c:Cs):Prop where
 inp:(c.inp.length:Int)=t.n
 out1:1<=c.out.length
 out2:c.out.length<=1024
 calm:c.calm.length<=1024
 outs:∀ v∈c.out,(v.length:Int)=t.n
 calms:∀ v∈c.calm,v∈c.out
theorem eX{t:Tk} (h:taskE t=0):(1<=t.n/\t.n<=5)/\(1<=t.ins/\t.ins<=8)/\(1<=t.outs/\t.outs<=8)/\(1<=t.cases.length/\t.cases.length<=1024)/\∀ c∈t.cases,CaseOk t c:=by
 unfold taskE at h;split at h
 ·omega
 rename_i h1;split at h
 ·omega
 rename_i h2;refine⟨by omega,by omega,by omega,by omega,fun c hc=>?_⟩;obtain⟨k,hk,rfl⟩:=List.getElem_of_mem hc;have h3:=mU h k hk;unfold eH at h3;rw[show t.cases.getD k default=t.cases[k] by simp[hk]]at h3;split at h3
 ·omega
 rename_i h4;split at h3
 ·omega
 unfold vectorsE at h3;split at h3
 ·omega
 rename_i h5;split at h3
 ·omega
 rename_i h6;have h7:=mU (show a8 _ _=0 by simpa using h6);have h8:=mU h3
 have hcal:∀ i,i<(t.cases[k]).calm.length->hasV (t.cases[k]).out ((t.cases[k]).calm.getD i [])=true/\unordB (t.cases[k]).calm i=false:=by
  intro i hi;have:=h8 i hi;unfold iP at this;split at this
  ·rename_i h9
   refine⟨h9,?_⟩;cases hu:unordB (t.cases[k]).calm i
   ·rfl
   ·rw[hu]at this;simp at this
  ·omega
 have mm:∀ v∈(t.cases[k]).calm,v∈(t.cases[k]).out:=by
  intro v hv;obtain⟨i,hi,rfl⟩:=List.getElem_of_mem hv;have:=Qf (hcal i hi).1
  rwa [show (t.cases[k]).calm.getD i []=(t.cases[k]).calm[i] by simp[hi]]at this
 refine⟨zP (by simpa using h4),by omega,by omega,?_,?_,mm⟩
 ·exact Nat.le_trans (Qe _ _ (Nq _ fun i hi=>(hcal i hi).2) mm) (by omega)
 ·intro v hv
  obtain⟨i,hi,rfl⟩:=List.getElem_of_mem hv;have:=h7 i hi;unfold iY at this;rw[show (t.cases[k]).out.getD i []=(t.cases[k]).out[i] by simp[hi]]at this;split at this
  ·omega
  ·rename_i h9
   exact zP (by simpa using h9)
theorem J'{t:Tk} {c:Cs} (h:CaseOk t c) (f:Int):(fV c f).length<=1024/\∀ v∈fV c f,(v.length:Int)=t.n:=by
 unfold fV;split
 ·exact⟨h.calm,fun v hv=>h.outs v (h.calms v hv)⟩
 ·exact⟨h.out2,h.outs⟩
end Go.Proofs.YtmeaoneaephjeaaGreatDoor
namespace Go.Proofs.YtmeaoneaephjeaaGreatDoor
open Go.RowKit Go Go.Shelf
theorem oy{w w':World} {base:Nat} {e:TypeId} {v:Value} {n:Nat} {xs:List Value} (h:w.ownsRow base e 1 v n xs) (hb:Below w.heap.size w w'):w'.ownsRow base e 1 v n xs:=by
 obtain⟨hl,h⟩:=h;refine⟨hl,?_⟩;rcases h with h|⟨g,cap,cur,h1,h2,h3,h4⟩
 ·exact .inl h
 ·exact .inr ⟨g,cap,cur,h1,h2,af hb h3,h4⟩
theorem zQ{w w':World} {base base':Nat} {e e':TypeId} {u v:Value} {n m:Nat} {xs ys:List Value} (h:w.ownsRow base e 1 u n xs) (hv:w.ownsRow base' e' 1 v m ys) (bM:e≠e') (hg:w.grownBy w' v.ownBlock):w'.ownsRow base e 1 u n xs:=by
 obtain⟨hl,h⟩:=h;refine⟨hl,?_⟩;rcases h with h|⟨g,cap,cur,h1,h2,h3,h4⟩
 ·exact .inl h
 ·refine .inr ⟨g,cap,cur,h1,h2,(hg.block g (ar h3) (fun e1=>?_)).trans h3,h4⟩
  rcases hv.2 with ⟨rfl,_⟩|⟨g',cap',cur',rfl,_,TQ,_⟩
  ·cases e1
  ·cases e1
   rw[h3]at TQ;cases TQ;exact bM rfl
theorem Dl{w:World} {base:Nat} {e:TypeId} {v:Value} {n:Nat} {xs:List Value} (h:w.ownsRow base e 1 v n xs):∀ g,v.ownBlock=some g->base<=g/\g<w.heap.size:=by
 intro g hg;rcases h.2 with ⟨rfl,_⟩|⟨g',cap,cur,rfl,h2,h3,_⟩
 ·cases hg
 ·cases hg;exact⟨h2,ar h3⟩
theorem rL{w:World} {base base':Nat} {e:TypeId} {v:Value} {n:Nat} {xs:List Value} (h:w.ownsRow base e 1 v n xs) (hb:base'<=base):w.ownsRow base' e 1 v n xs:=by
 obtain⟨hl,h⟩:=h;refine⟨hl,?_⟩;rcases h with h|⟨g,cap,cur,h1,h2,h3⟩
 ·exact .inl h
 ·exact .inr ⟨g,cap,cur,h1,Nat.le_trans hb h2,h3⟩
def pj(w:World) (base:Nat) (v:Value) (l:List (List Int)):Prop:=
 ∃ xs:List Value,w.ownsRow base 38 1 v l.length xs/\∀ i (hi:i<l.length) (hx:i<xs.length),w.ownsRow base 3 1 xs[i] l[i].length (l[i].map (Value.int .i64))
theorem Lp(v:Value) (l:List (List Int)) (w:World) (hv:dR w v l) (hn:l.length<=1099511627776) (nU:∀ x∈l,x.length<=1099511627776) :
  Calls Tryz.prog 173 #[v] w fun e w'=>∃ u,e=.returned u/\pj w' w.heap.size u l/\Below w.heap.size w w':=by
 have HR:=aa (fun i (hi:i<l.length)=>nU l[i] (List.getElem_mem hi));clear nU;obtain⟨pa,ca,rfl,la1,la2,ea⟩:=hv.at;clear hv;have EA:=aa ea;clear ea;obtain⟨i0,cG,cf,bP,cj⟩:=info_parts Tryz.infoInts
 go_enter Tryz.func173,Tryz.ntmps173
 go_wp2_with fail
 go_loopw [3,8] (fun o i wr=>Below w.heap.size w wr/\∃ k:Nat,k<=l.length/\i=.int .i64 k/\pj wr w.heap.size o (l.take k)) (fun _ i _=>l.length - (intOf i).toNat)
 case atStart=>exact⟨Below.refl _ _,0,by omega,rfl,[],by simpa using World.ownsRow_nil _ _ _ _,fun i hi=>by simp at hi⟩
 case round=>
  obtain⟨aq,k,hk,rfl,qD⟩:=hrel;by_cases az:k<l.length
  ·obtain⟨b1,o1,rfl,x,cx,hx⟩:=EA.out k az
   rw[Nat.mul_one]at cx;have d1:=ai aq cx;have HX:=aa (hx.up up_int aq);obtain⟨px,qx,rfl,_⟩:=hx;clear cx;obtain⟨xs,aX,jr⟩:=qD;have lW:(l.take k).length=k:=by simp;omega
   rw[lW]at aX;have bL:=aa aX;have C5:=aa jr;have T3:=aa lW;clear aX jr lW
   go_wp2_with fail
   refine(xz _ _ _ (zM HX.out) (by rw[List.length_map];exact HR.out k az)).mono ?_;rintro e w1 ⟨u,rfl,hu,aG⟩;obtain⟨au,cu,rfl,_⟩:=rJ hu;rw[List.length_map]at hu;rw[List.length_map];generalize hN:l[k].length=nn at hu ⊢;have HN:=aa hN;clear hN;have wY:=ae aq aG;have hA:Below w1.heap.size w1 (w1.alloc (.cells #[(Value.slice au nn cu)] 38)):=by go_grown
   have df:=aa (oy (oy bL.out aG) hA)
   have bN:∀ j u',[(Value.slice au nn cu)][j]?=some u'->(w1.alloc (.cells #[(Value.slice au nn cu)] 38)).cell? (Addr.add ⟨w1.heap.size,0,none⟩ j)=some u':=fun j u' hj=>by
    cases j with
    | zero=>simp at hj;subst hj;simp[Addr.add,ab (ak w1 _)]
    | succ j=>simp at hj
   have bB:=aa bN;have HU:=aa hu;clear bN hu d1;have gM:=wY.size
   go_wp2_with (at_builtin;(refine wpList_append_own _ rfl (.tmp 12) (.tmp 15) 56 rfl w.heap.size 38 i0 (.slice none 0 0) 1 24 Tryz.underlying56 cG cf bP cj rfl (by decide) _ k xs rfl df.out ⟨w1.heap.size,0,none⟩ 1 1 [(Value.slice au nn cu)] rfl rfl bB.out (by simp[Value.oneCell']) (by unfold maxLen;omega) (by omega) (by simp;omega) ?_;intro v' w2 fx dk _))
   go_roundw
   case rel=>
    refine⟨Below.grown (w:=w1.alloc (.cells #[(Value.slice au nn cu)] 38)) (wY.alloc gM _) dk (by simp;omega) (fun g hg=>(Dl bL.out g hg).1),k+1,by omega,by go_num,xs++[(Value.slice au nn cu)],?_,?_⟩
    ·rw[show (l.take (k+1)).length=k+1 by simp;omega];exact fx
    ·intro i hi hx
     have iw:xs.length=k:=by have:=bL.out.1;omega
     by_cases jw:i<k
     ·have h1:=C5.out i (by rw[T3.out];exact jw) (by omega)
      have h2:=zQ (oy (oy h1 aG) hA) df.out (by decide) dk;simp only[List.getElem_take]at h2 ⊢
      rwa [List.getElem_append_left (by omega)]
     ·obtain rfl:i=k:=by simp at hi;omega
      have h2:=zQ (rL (oy HU.out hA) aq.size) df.out (by decide) dk;simp only[List.getElem_take];rw[List.getElem_append_right (by omega)];obtain rfl:=HN.out;simpa using h2
   case measure=>simp[intOf];omega
  ·go_wp2_with fail
   go_ret
   refine⟨_,rfl,?_,aq⟩
   rwa [List.take_of_length_le (by omega)]at qD
theorem Gw(x0 x1 x2:Value) (c:Cs) (f:Int) (w:World) (h1:dR w x1 c.out) (h2:dR w x2 c.calm) :
  Calls Tryz.prog 109 #[.agg #[x0,x1,x2],.int .i64 f] w fun e w'=>∃ u,e=.returned u/\dR w' u (fV c f)/\Below w.heap.size w w':=by
 have H1:=aa h1;have H2:=aa h2;obtain⟨p1,q1,rfl,_⟩:=h1.at;obtain⟨p2,q2,rfl,m1,m2,_⟩:=h2.at;clear h1 h2;by_cases hf:f=0
 ·subst hf
  by_cases hl:0<c.calm.length
  ·have HV:Hid (fV c 0=c.calm):=by(have h:fV c 0=c.calm:=by(unfold fV;rw[if_pos ⟨rfl,hl⟩]));exact h
   have hl':decide ((0:Int)<(c.calm.length:Int))=true:=by simp;omega
   go_enter Tryz.func109,Tryz.ntmps109
   go_wp2_with fail
   go_ret
   refine⟨_,rfl,?_,by go_grown⟩;rw[HV.out];exact H2.out.up up_ints (by go_grown)
  ·have HV:Hid (fV c 0=c.out):=by(have h:fV c 0=c.out:=by(unfold fV;rw[if_neg (fun h=>hl h.2)]));exact h
   have hl':decide ((0:Int)<(c.calm.length:Int))=false:=decide_eq_false (by omega)
   go_enter Tryz.func109,Tryz.ntmps109
   go_wp2_with fail
   go_ret
   refine⟨_,rfl,?_,by go_grown⟩;rw[HV.out];exact H1.out.up up_ints (by go_grown)
 ·have HV:Hid (fV c f=c.out):=by(have h:fV c f=c.out:=by(unfold fV;rw[if_neg (fun h=>hf h.1)]));exact h
  have hf':(f == 0)=false:=by simpa using hf
  go_enter Tryz.func109,Tryz.ntmps109
  go_wp2_with fail
  go_ret
  refine⟨_,rfl,?_,by go_grown⟩;rw[HV.out];exact H1.out.up up_ints (by go_grown)
theorem Nr{t:Tk} {i f:Int} (h:iG t i f=0):taskE t=0/\0<=i/\i.toNat<t.cases.length:=by
 unfold iG at h;split at h
 ·omega
 ·rename_i h1
  split at h
  ·omega
  ·exact⟨by simpa using h1,by omega,by omega⟩
theorem Ns(t:Tk) (vc:Value) (i f:Int) (w:World) (hv:bK w vc t.cases) :
  Calls Tryz.prog 105 #[.agg #[.int .i64 t.n,.int .i64 t.ins,.int .i64 t.outs,vc],.int .i64 i,.int .i64 f] w fun e w'=>e=.returned (.int .i64 (iG t i f))/\Below w.heap.size w w':=by
 have G:=aa hv;obtain⟨pc,cc,rfl,l1,m1,_⟩:=hv.at;clear hv
 go_enter Tryz.func105,Tryz.ntmps105
 go_wp2_with fail
 refine aL (fun W=>Below w.heap.size w W/\W.heap[w.heap.size]?=some (.cells #[.int .i64 t.n,.int .i64 t.ins,.int .i64 t.outs,.slice pc t.cases.length cc] 24)) ⟨by go_grown,ak _ _⟩ (fun W0 aW=>?_);obtain⟨aC,br⟩:=aW;refine(pX t _ W0 (G.out.up up_case aC)).mono ?_;rintro e w1 ⟨rfl,aG⟩;have gd:=ae aC aG;have t1:=ab (af aG br);clear br;by_cases nm:taskE t=0
 case neg=>
  have HV:Hid (iG t i f=taskE t):=by(have h:iG t i f=taskE t:=by(unfold iG;rw[if_pos nm]));exact h
  generalize taskE t=et at HV nm;have Mx:(et != 0)=true:=by simpa using nm
  go_wp2_with fail
  go_ret
  exact⟨aA (by rw[HV.out]),gd⟩
 obtain⟨⟨n1,n2⟩,_⟩:=eX nm;have HV:Hid (iG t i f=if i<0\/(t.cases.length:Int)<=i then 6 else if f<0\/2 ^ t.n.toNat<=f then 2 else 0):=by(have h:iG t i f=if i<0\/(t.cases.length:Int)<=i then 6 else if f<0\/2 ^ t.n.toNat<=f then 2 else 0:=by(unfold iG;rw[if_neg (by simpa using nm)]));exact h
 rw[nm];clear nm;generalize t.n=n at *;have:n=1\/n=2\/n=3\/n=4\/n=5:=by omega
 rcases this with rfl|rfl|rfl|rfl|rfl
 all_goals
  go_wp2_with fail
  all_goals
   go_ret
   refine⟨aA ?_,gd⟩;rw[HV.out]
   go_light
   grind
theorem JD(t:Tk) (vc:Value) (i f:Int) (w:World) (hv:bK w vc t.cases) :
  Calls Tryz.prog 126 #[.agg #[.int .i64 t.n,.int .i64 t.ins,.int .i64 t.outs,vc],.int .i64 i,.int .i64 f] w fun e w'=>∃ u,e=.returned (.tuple #[u,.int .i64 (iG t i f)])/\pj w' w.heap.size u (iH t i f)/\Below w.heap.size w w':=by
 have G:=aa hv;obtain⟨pc,cc,rfl,l1,m1,e1⟩:=hv.at;clear hv;have E:=aa e1;clear e1
 go_enter Tryz.func126,Tryz.ntmps126
 go_wp2_with fail
 refine aL (fun W=>Below w.heap.size w W/\W.heap[w.heap.size]?=some (.cells #[.int .i64 t.n,.int .i64 t.ins,.int .i64 t.outs,.slice pc t.cases.length cc] 24)) ⟨by go_grown,ak _ _⟩ (fun W0 aW=>?_);obtain⟨aC,br⟩:=aW;refine(Ns t _ i f W0 (G.out.up up_case aC)).mono ?_;rintro e w1 ⟨rfl,aG⟩;have gd:=ae aC aG;have t1:=ab (af aG br);clear br;by_cases hp:iG t i f=0
 case neg=>
  have HV:Hid (iH t i f=[]):=by(have h:iH t i f=[]:=by(unfold iH;rw[if_pos hp]));exact h
  generalize hE:iG t i f=et at hp;have HE:=aa hE;clear hE;have Mx:(et != 0)=true:=by simpa using hp
  go_wp2_with fail
  go_ret2
  refine⟨.slice none 0 0,by rw[HE.out];rfl,?_,gd⟩;rw[HV.out];exact⟨[],by simpa using World.ownsRow_nil _ _ _ _,fun i hi=>by simp at hi⟩
 obtain⟨ht,cG,n8⟩:=Nr hp;have HV:Hid (iH t i f=fV (t.cases.getD i.toNat default) f):=by(have h:iH t i f=fV (t.cases.getD i.toNat default) f:=by(unfold iH;rw[if_neg (by simpa using hp)]));exact h
 rw[hp];have HE:=aa hp;clear hp;obtain⟨k,rfl⟩:∃ k:Nat,i=k:=⟨i.toNat,by omega⟩;simp only[Int.toNat_natCast]at n8 HV;have di:=aa (J' ((eX ht).2.2.2.2 t.cases[k] (List.getElem_mem n8)) f);have HN:=aa (eX ht).1;clear ht cG;have Aj:Hid (iH t k f=fV t.cases[k] f):=by(have h:iH t k f=fV t.cases[k] f:=by(rw[HV.out,ap default n8]));exact h
 clear HV;obtain⟨b1,o1,rfl,⟨x0,cx0,cS⟩,⟨x1,cx1,dj⟩,⟨x2,cx2,dU⟩⟩:=E.out k n8;have d0:=ai gd cx0;have d1:=ai gd cx1;have d2:=ai gd cx2;have km:=aa (dj.up up_ints gd);have fB:=aa (dU.up up_ints gd);obtain⟨p0,q0,rfl,_⟩:=cS;obtain⟨p1,q1,rfl,_⟩:=dj;obtain⟨p2,q2,rfl,_⟩:=dU;clear cx0 cx1 cx2
 go_wp2_with fail
 refine(Gw _ _ _ t.cases[k] f w1 km.out fB.out).mono ?_;rintro e w2 ⟨u,rfl,hu,aV⟩;have HU:=aa hu;obtain⟨pu,qu,rfl,_⟩:=hu;clear t1 d0 d1 d2
 go_wp2_with fail
 refine(Lp _ _ w2 HU.out (Nat.le_trans di.out.1 (by omega)) (fun x hx=>by have h1:=di.out.2 x hx;have h2:=HN.out;omega)).mono ?_;rintro e w3 ⟨u3,rfl,ss,bA⟩;have j9:=ae gd aV
 go_wp2_with fail
 go_ret2
 refine⟨u3,by rw[HE.out];rfl,?_,ae j9 bA⟩;rw[Aj.out];obtain⟨xs,h1,h2⟩:=ss;exact⟨xs,rL h1 j9.size,fun i hi hx=>rL (h2 i hi hx) j9.size⟩
def oz(ops:Array Oper):Bool:=ops.all fun o=>match o.op with|.defer _=>false|_=>true
theorem Gx{ops:Array Oper} (h:oz ops=true) {i:Nat} {o:Oper} (ho:ops[i]?=some o):∀ c,o.op≠.defer c:=by
 intro c hc;have h1:=Array.all_eq_true'.1 h o (Array.mem_of_getElem? ho);rw[hc]at h1;cases h1
theorem Nt{P:Program} {yl n:Nat} {o:Oper} {a:Act} {w:World} {K K':Act->World->Prop} {Q:Exit->Act->World->Prop} (hd:∀ c,o.op≠.defer c) (_hQ:¬ LetsOut Q) (hK:∀ a w,K a w->K' a w)
  (h:o.wp P a w K Q):o.wpIn (Fence.wide.inRound yl) n P a w K' Q:=by
 refine⟨fun _ _=>trivial,?_⟩;rw[Oper.semAt_eq _ _ _ hd];unfold Oper.wp at h;generalize (execOp a.eval o).run P w=r at h;cases r with
 | ok x w'=>
  cases x with
  | value v=>exact hK _ _ h
  | skip=>exact hK _ _ h
  | defer d=>exact hK _ _ h
  | enter f args=>
   refine⟨fun h'=>(by simp[Fence.wide,Fence.inRound]at h'),CallsIn.inRound yl ((callsIn_wide (n:=n - 1)).2 ?_)⟩;refine Calls.mono h ?_;rintro e w'' he;cases e with
   | returned v=>exact hK _ _ he
   | panicked ch=>exact he
   | outgrown=>exact he
  | row r args=>
   refine⟨fun h'=>(by simp[Fence.wide,Fence.inRound]at h'),fun c cs _=>?_⟩;obtain⟨v,w'',hv,hs⟩:=h c cs;exact⟨v,w'',hK _ _ hv,stepsIn_wide.2 hs⟩
  | _=>exact h.elim
 | halt x w'=>
  cases x with
  | panic v=>exact h
  | _=>exact h.elim
theorem mh{P:Program} {yl n:Nat} {ops:Array Oper} {md:Region.Mode} {Q:Exit->Act->World->Prop} (hd:oz ops=true) (hQ:¬ LetsOut Q) :
  ∀ (fuel:Nat) (listed:Array Bool) (a:Act) (w:World),wpAny P md ops Q fuel listed a w->wpAnyIn (Fence.wide.inRound yl) n P md ops Q fuel listed a w
 | 0,_,_,_,h=>h
 | fuel+1,listed,a,w,h=>⟨h.1,fun i hi=>by
  have h2:=h.2 i hi;unfold wpOp at h2;unfold wpOpIn;cases ho:ops[i]? with
  | none=>rw[ho]at h2;exact mh hd hQ fuel _ _ _ h2
  | some o=>
   rw[ho]at h2;dsimp only at h2 ⊢;split
   ·rename_i hw
    rw[if_pos hw]at h2;rcases h2 with h2|h2
    ·exact Nt (Gx hd ho) hQ (fun a w h=>mh hd hQ fuel _ a w h) h2
    ·exact absurd h2.2 hQ
   ·rename_i hw
    rw[if_neg hw]at h2
    exact⟨fun _ _=>trivial,mh hd hQ fuel _ _ _ h2⟩⟩
theorem pn{P:Program} {yl n:Nat} {id:Nat} {Q:Exit->Act->World->Prop} {a:Act} {w:World} {l:List Oper} (hQ:¬ LetsOut Q) (hm:P.follows .mixedOrders=true) (hB:Region.lexB .any l.toArray=true) (hd:oz l.toArray=true)
  (h:wpQuiet P l.toArray (fun w'=>∃ x:ExtW w,w'=x.val) (fun a'=>∀ w',(∃ x:ExtW w,w'=x.val)->Q .normal a' w') l a):(Code.region id l.toArray true).wpIn (Fence.wide.inRound yl) n P Q a w:=by
 simp only[Region.lexB,Bool.and_eq_true]at hB;refine wpIn_region_any hm (mh hd hQ _ _ _ _ (wpAny_of_quiet (C:=fun w'=>∃ x:ExtW w,w'=x.val) (Q:=fun a'=>∀ w',(∃ x:ExtW w,w'=x.val)->Q .normal a' w') (fun _ w' dY h=>h w' dY) _ _ _ _ ⟨⟨w.drew,(Below.refl _ _).drew⟩,rfl⟩ ?_));have:=wpAnyQ_lex (C:=fun w'=>∃ x:ExtW w,w'=x.val) (md:=.any) hB.1 l 0 (Array.replicate l.toArray.size false) a (by simp) (by simpa using hB.2) h;simpa using this
theorem zF{P:Program} {yl m:Nat} {id:Nat} {Q:Exit->Act->World->Prop} {a:Act} {w:World} {l:List Oper} (n:Nat) (hQ:¬ LetsOut Q) (hm:P.follows .mixedOrders=true) (hB:Region.lexTailB .any l.toArray n=true) (hd:oz l.toArray=true)
  (h:wpStill P l.toArray w.drew (fun a'=>wpList P l.toArray Q (l.drop n) a' w.drew) (l.take n) a):(Code.region id l.toArray true).wpIn (Fence.wide.inRound yl) m P Q a w:=by
 simp only[Region.lexTailB,Bool.and_eq_true,decide_eq_true_eq]at hB;obtain⟨⟨⟨⟨hsel,hn⟩,hs⟩,hc⟩,hlex⟩:=hB;have ze:n<l.length:=by simpa using hn
 have K7:(l.take n).length=n:=by simp;omega
 have hdl:(l.drop n).length=l.toArray.size - n:=by simp
 have inv0:HeadInv .any l.toArray n (Array.replicate l.toArray.size false):=
  ⟨by simp,fun j oj _ hl=>(by rw[getD_replicate_false]at hl;cases hl),fun t _ ht=>getD_in (by simpa using ht) (getD_replicate_false _ _)⟩
 have H:=wpAnyL_lex (md:=.any) (g:=l.toArray.size - n) hsel hs hc hn (l.take n) 0 _ a (fun j hj=>by
  have qC:j<n:=by rw[K7]at hj;exact hj
  simp[qC]) (by simpa using K7) inv0 (by rw[K7];exact hlex) h
 refine wpIn_region_any hm (mh hd hQ _ _ _ _ ?_)
 have:=wpAny_of_head (Q':=Q) (g:=l.toArray.size - n) (fun listed a' hL=>by
  have:=wpAny_of_seq (md:=.any) (Q':=Q) (l.drop n) n listed a' w.drew (fun j=>by simp[List.getElem?_drop]) (by rw[hdl];exact hL.1) hL.2
  rwa [hdl]at this) _ _ _ H
 rw[K7,show n+(l.toArray.size - n)=l.toArray.size by omega]at this;exact this
theorem kL{P:Program} {yl m:Nat} {id:Nat} {Q:Exit->Act->World->Prop} {a:Act} {w:World} {l:List Oper} (n:Nat) (hQ:¬ LetsOut Q) (hm:P.follows .mixedOrders=true) (hB:Region.lexTailB .any l.toArray n=true) (hd:oz l.toArray=true)
  (h:∀ (ops:Array Oper) (Lq:Act->Prop),ops=l.toArray->(∀ a',wpList P l.toArray Q (l.drop n) a' w.drew->Lq a')->wpStill P ops w.drew Lq (l.take n) a):(Code.region id l.toArray true).wpIn (Fence.wide.inRound yl) m P Q a w:=
 zF n hQ hm hB hd (h _ _ rfl (fun _ h=>h))
theorem jU{k l:IntKind} {a b c d:Int} (h1:a=b) (h2:c=d):Ending.returned (.tuple #[.int k a,.int l c])=.returned (.tuple #[.int k b,.int l d]):=by rw[h1,h2]
abbrev qi(p:Pb) (vc vs:Value):Value:=.agg #[.int .i64 p.t.n,.int .i64 p.t.ins,.int .i64 p.t.outs,vc,.int .i64 p.a.n,vs,.int .i64 p.rounds]
theorem FR(p:Pb) (vc vs:Value) (w:World) (hc:bK w vc p.t.cases) (hs:bk w vs p.a.states) (hN:movesN p.a.states<1099511627776) :
  Calls Tryz.prog 190 #[qi p vc vs] w fun e w'=>e=.returned (.int .i64 (probE p))/\Below w.heap.size w w':=by
 have GC:=aa hc;have GS:=aa hs;obtain⟨pc,cc,rfl,_⟩:=hc.at;obtain⟨ps,cs,rfl,_⟩:=hs.at;clear hc hs;have HV:Hid (probE p=if taskE p.t≠0 then taskE p.t else if advE p.a≠0 then advE p.a else if p.t.n≠p.a.n then 22 else if p.rounds<0\/6<p.rounds then 2 else 0):=by exact rfl
 go_enter Tryz.func190,Tryz.ntmps190
 go_wp2_with fail
 refine aL (fun W=>Below w.heap.size w W/\W.heap[w.heap.size]?=some (.cells #[.int .i64 p.t.n,.int .i64 p.t.ins,.int .i64 p.t.outs,.slice pc p.t.cases.length cc,.int .i64 p.a.n,.slice ps p.a.states.length cs,.int .i64 p.rounds] 29)) ⟨by go_grown,ak _ _⟩ (fun W0 aW=>?_);obtain⟨aC,br⟩:=aW;refine(pX p.t _ W0 (GC.out.up up_case aC)).mono ?_;rintro e w1 ⟨rfl,aG⟩;have gd:=ae aC aG;have dM:=af aG br;have t1:=ab dM;generalize taskE p.t=et at HV;have dy:=aa dM;clear dM br;by_cases nm:et=0
 case neg=>
  have Mx:(et != 0)=true:=by simpa using nm
  go_wp2_with fail
  go_ret
  exact⟨aA (by rw[HV.out,if_pos nm]),gd⟩
 subst nm
 go_wp2_with fail
 refine(xy p.a _ w1 (GS.out.up up_moves gd) hN).mono ?_;rintro e w2 ⟨rfl,aV⟩;have j9:=ae gd aV;have t2:=ab (af aV dy.out);clear t1;generalize advE p.a=ea at HV;by_cases xh:ea=0
 case neg=>
  have hea':(ea != 0)=true:=by simpa using xh
  go_wp2_with fail
  go_ret
  exact⟨aA (by rw[HV.out,if_neg (by simp),if_pos xh]),j9⟩
 subst xh
 go_wp2_with fail
 all_goals
  go_ret
  refine⟨aA ?_,j9⟩;rw[HV.out]
  go_light
  grind
end Go.Proofs.YtmeaoneaephjeaaGreatDoor
namespace Go.Proofs.YtmeaoneaephjeaaGreatDoor
open Go.RowKit Go Go.Shelf
attribute [local go_sem] Oper.semAt_some
theorem uh(P:Program) (w:World) (a:Addr) (m:Mode) (g:Fn) (b c:Array Value):(store a (.func g b c) m).run P w=stored P w a (.func g b c) m:=run_store P w a _ m rfl
attribute [local go_sem] uh
end Go.Proofs.YtmeaoneaephjeaaGreatDoor
namespace Go.Proofs.YtmeaoneaephjeaaGreatDoor
open Go.RowKit Go Go.Shelf
abbrev zS(p:Pb) (vc vs:Value):Array Value:=#[.int .i64 p.t.n,.int .i64 p.t.ins,.int .i64 p.t.outs,vc,.int .i64 p.a.n,vs,.int .i64 p.rounds]
theorem go{p:Pb} (h:probE p=0):taskE p.t=0/\advE p.a=0/\p.t.n=p.a.n/\0<=p.rounds/\p.rounds<=6:=by
 unfold probE at h;split at h
 ·rename_i h1;exact absurd h h1
 rename_i h1;split at h
 ·rename_i h2;exact absurd h h2
 rename_i h2;split at h
 ·omega
 split at h
 ·omega
 exact⟨by simpa using h1,by simpa using h2,by omega,by omega,by omega⟩
theorem up_words:Up (mf 7 mo):=zg up_round
def Bv(w:World) (b o:Nat) (x:Vw):Prop:=
 fU w b o x.p/\fU w b (o+1) x.k/\fU w b (o+2) x.i/\fU w b (o+3) x.h0/\fU w b (o+4) x.h1/\fU w b (o+5) x.h2/\fU w b (o+6) x.h3/\fU w b (o+7) x.h4
theorem up_view:Up Bv:=fun _ _ _ _ _ hb ⟨h0,h1,h2,h3,h4,h5,h6,h7⟩=>
 ⟨up_int _ _ _ _ _ hb h0,up_int _ _ _ _ _ hb h1,up_int _ _ _ _ _ hb h2,up_int _ _ _ _ _ hb h3,up_int _ _ _ _ _ hb h4,up_int _ _ _ _ _ hb h5,up_int _ _ _ _ _ hb h6,up_int _ _ _ _ _ hb h7⟩
abbrev mu:=eM 8 Bv
abbrev Vw.c(v:Vw):Array Value:=#[.int .i64 v.p,.int .i64 v.k,.int .i64 v.i,.int .i64 v.h0,.int .i64 v.h1,.int .i64 v.h2,.int .i64 v.h3,.int .i64 v.h4]
abbrev Vw.v(v:Vw):Value:=.agg v.c
def eI(xs:List Vw):List Value:=xs.flatMap fun x=>x.c.toList
theorem Eh(a b:List Vw):eI (a++b)=eI a++eI b:=by simp[eI]
theorem Ei(xs:List Vw):∀ u∈eI xs,u.oneCell'=true:=by
 intro u hu;obtain⟨x,_,hx⟩:=List.mem_flatMap.1 hu;simp at hx;rcases hx with h|h|h|h|h|h|h|h<;>subst h<;>rfl
def Qg(w:World) (b o:Nat) (x:Ex):Prop:=fU w b o x.c/\mf 7 mo w b (o+1) x.word/\tW w b (o+2) x.views
theorem up_ex:Up Qg:=fun _ _ _ _ _ hb h=>⟨up_int _ _ _ _ _ hb h.1,up_words _ _ _ _ _ hb h.2.1,up_vecs _ _ _ _ _ hb h.2.2⟩
abbrev zm:=eM 3 Qg
abbrev bE(p:Pb) (vc vs:Value) (n:Int) (vt ve:Value):Array Value:=zS p vc vs++#[.int .i64 n,vt,ve]
abbrev zeroPb:Pb:=⟨⟨0,0,0,[]⟩,⟨0,[]⟩,0⟩
abbrev zeroSys:Array Value:=bE zeroPb (.slice none 0 0) (.slice none 0 0) 0 (.slice none 0 0) (.slice none 0 0)
structure IsSys (w:World) (s:Sys) (vc vs vt ve:Value):Prop where
 cases:bK w vc s.prob.t.cases
 states:bk w vs s.prob.a.states
 tab:mu w vt s.tab
 ex:zm w ve s.ex
theorem IsSys.up{w w':World} {s:Sys} {vc vs vt ve:Value} (h:IsSys w s vc vs vt ve) (hb:Below w.heap.size w w'):IsSys w' s vc vs vt ve:=⟨h.cases.up up_case hb,h.states.up up_moves hb,h.tab.up up_view hb,h.ex.up up_ex hb⟩
abbrev ui(w:World) (base:Nat) (v:Value) (l:List (List Rd)):Prop:=bW 87 141 7 cV w base v l
abbrev cN(w:World) (base:Nat) (v:Value) (l:List (List Int)):Prop:=bW 38 3 1 (fun l=>l.map (Value.int .i64)) w base v l
end Go.Proofs.YtmeaoneaephjeaaGreatDoor
namespace Go.Proofs.YtmeaoneaephjeaaGreatDoor
def bG(q:Nat->Nat->Bool):Nat->List Int × Int
 | 0=>([],0)
 | i+1=>let s:=bG q i;if firstIx i (fun k=>q k i)<0 then(s.1++[s.2],s.2+1) else(s.1++[s.1.getD (firstIx i fun k=>q k i).toNat 0],s.2)
def ig(q:Nat->Nat->Bool) (n:Nat):List Int:=(bG q n).1
theorem mw(q:Nat->Nat->Bool):∀ n,(bG q n).1.length=n
 | 0=>rfl
 | n+1=>by
  unfold bG;dsimp only;split<;>simp[mw q n]
theorem oA(q:Nat->Nat->Bool) (n:Nat):(ig q n).length=n:=mw q n
theorem zT{q r:Nat->Nat->Bool}:∀ n,(∀ i,i<n->firstIx i (fun k=>q k i)=firstIx i (fun k=>r k i))->bG q n=bG r n
 | 0,_=>rfl
 | n+1,h=>by
  unfold bG;rw[zT n (fun i hi=>h i (by omega)),h n (by omega)]
theorem qH{q r:Nat->Nat->Bool} {n:Nat} (h:∀ i,i<n->∀ k,k<i->q k i=r k i):ig q n=ig r n:=by
 unfold ig;rw[zT n (fun i hi=>lX _ _ _ (h i hi))]
theorem rM(q:Nat->Nat->Bool):∀ n i,i<n->(bG q (n+1)).1.getD i 0=(bG q n).1.getD i 0:=fun n i hi=>by
 rw[bG];have hl:=mw q n;split<;>(simp only[List.getD_eq_getElem?_getD];rw[List.getElem?_append_left (by omega)])
theorem jC(q:Nat->Nat->Bool):∀ n,0<=(bG q n).2/\(bG q n).2<=n/\∀ x∈(bG q n).1,0<=x/\x<(bG q n).2
 | 0=>⟨by simp[bG],by simp[bG],fun x hx=>by simp[bG]at hx⟩
 | n+1=>by
  obtain⟨h1,h2,h3⟩:=jC q n;have hl:=mw q n;rw[bG];split
  ·refine⟨by simp;omega,by simp;omega,fun x hx=>?_⟩
   rcases List.mem_append.1 hx with hx|hx
   ·have:=h3 x hx;simp;omega
   ·rw[List.mem_singleton]at hx;subst hx;simp;omega
  ·rename_i hf
   refine⟨by simpa using h1,by simp;omega,fun x hx=>?_⟩;rcases List.mem_append.1 hx with hx|hx
   ·exact h3 x hx
   ·rw[List.mem_singleton]at hx
    subst hx;rcases bD n (fun k=>q k n) with ⟨e,_⟩|⟨k,hk,e,_⟩
    ·omega
    ·rw[e,Int.toNat_natCast,List.getD_eq_getElem?_getD,List.getElem?_eq_getElem (by omega)]
     exact h3 _ (List.getElem_mem _)
def iQ(q:Nat->Nat->Bool):Nat->Nat->Nat->Bool
 | 0,i,k=>q i k
 | m+1,i,k=>iQ q m i k || (iQ q m i m&&iQ q m m k)
theorem vu(q:Nat->Nat->Bool):∀ m i k,q i k=true->iQ q m i k=true
 | 0,_,_,h=>h
 | m+1,i,k,h=>by rw[iQ,vu q m i k h];rfl
theorem jf(q:Nat->Nat->Bool):∀ m i j k,j<m->iQ q m i j=true->iQ q m j k=true->iQ q m i k=true
 | 0,_,_,_,hj,_,_=>by omega
 | m+1,i,j,k,hj,h1,h2=>by
  rw[iQ]at h1 h2 ⊢;simp only[Bool.or_eq_true,Bool.and_eq_true]at h1 h2 ⊢;by_cases e:j=m
  ·subst e
   have h3:iQ q j i j=true:=by rcases h1 with h|⟨h,_⟩<;>exact h
   have h4:iQ q j j k=true:=by rcases h2 with h|⟨_,h⟩<;>exact h
   exact .inr ⟨h3,h4⟩
  ·have qC:j<m:=by omega
   rcases h1 with h1|⟨h1,h3⟩<;>rcases h2 with h2|⟨h2,h4⟩
   ·exact .inl (jf q m i j k qC h1 h2)
   ·exact .inr ⟨jf q m i j m qC h1 h2,h4⟩
   ·exact .inr ⟨h1,jf q m m j k qC h3 h2⟩
   ·exact .inr ⟨h1,h4⟩
theorem oB{q:Nat->Nat->Bool} (h:∀ i k,q i k=q k i):∀ m i k,iQ q m i k=iQ q m k i
 | 0,i,k=>h i k
 | m+1,i,k=>by rw[iQ,iQ,oB h m i k,oB h m i m,oB h m m k,Bool.and_comm]
theorem rN{q:Nat->Nat->Bool} {R:Nat->Nat->Prop} (h0:∀ i k,q i k=true->R i k) (h1:∀ i j k,R i j->R j k->R i k):∀ m i k,iQ q m i k=true->R i k
 | 0,i,k,h=>h0 i k h
 | m+1,i,k,h=>by
  rw[iQ]at h;simp only[Bool.or_eq_true,Bool.and_eq_true]at h;rcases h with h|⟨h2,h3⟩
  ·exact rN h0 h1 m i k h
  ·exact h1 _ _ _ (rN h0 h1 m i m h2) (rN h0 h1 m m k h3)
def fQ(a b:List Int) (i k:Nat):Bool:=decide (a.getD i 0=a.getD k 0) || decide (b.getD i 0=b.getD k 0)
theorem vy(a b:List Int) (i k:Nat):fQ a b i k=fQ a b k i:=by
 unfold fQ;rw[decide_eq_decide.2 (eq_comm (a:=a.getD i 0)),decide_eq_decide.2 (eq_comm (a:=b.getD i 0))]
theorem By(a b:List Int) (i:Nat):fQ a b i i=true:=by simp[fQ]
def qI(a b:List Int):List Int:=ig (fun k i=>iQ (fQ a b) a.length k i) a.length
theorem Qh(a b R:List Int) (n:Nat) (hn:a.length=n) (h1:∀ i k,i<n->k<n->fQ a b i k=true->R.getD i 0=R.getD k 0) (h2:∀ i,i<n->∃ j,j<n/\R.getD i 0=(j:Int)/\iQ (fQ a b) n j i=true):ig (fun k i=>decide (R.getD k 0=R.getD i 0)) n=qI a b:=by
 unfold qI;rw[hn];refine qH fun i hi k hk=>?_
 have hs:=oB (vy a b);cases hw:iQ (fQ a b) n k i with
 | true=>
  rw[decide_eq_true_eq]
  exact rN (q:=fun i k=>fQ a b i k&&decide (i<n)&&decide (k<n)) (R:=fun i k=>R.getD i 0=R.getD k 0) (fun i k h=>by simp only[Bool.and_eq_true,decide_eq_true_eq]at h;exact h1 i k h.1.2 h.2 h.1.1) (fun i j k h h'=>h.trans h') n k i (by
   have key:∀ m x y,m<=n->x<n->y<n->iQ (fQ a b) m x y=true->iQ (fun i k=>fQ a b i k&&decide (i<n)&&decide (k<n)) m x y=true:=by
    intro m;induction m with
    | zero=>intro x y _ hx hy h;simp only[iQ,Bool.and_eq_true,decide_eq_true_eq]at h ⊢;exact⟨⟨h,hx⟩,hy⟩
    | succ m ih=>
     intro x y hm hx hy h;rw[iQ]at h ⊢;simp only[Bool.or_eq_true,Bool.and_eq_true]at h ⊢;rcases h with h|⟨h,h'⟩
     ·exact .inl (ih x y (by omega) hx hy h)
     ·exact .inr ⟨ih x m (by omega) hx (by omega) h,ih m y (by omega) (by omega) hy h'⟩
   exact key n k i (Nat.le_refl _) (by omega) hi hw)
 | false=>
  rw[decide_eq_false_iff_not];intro e;obtain⟨j,hj,e1,w1⟩:=h2 k (by omega);obtain⟨j',qC,e2,w2⟩:=h2 i hi;have:j=j':=by omega
  subst this;rw[hs n j k]at w1;have:=jf _ n k j i hj w1 w2;rw[hw]at this;cases this
structure Par (n:Nat) (P:List Int):Prop where
 len:P.length=n
 le:∀ i,i<n->0<=P.getD i 0/\P.getD i 0<=i
def rootN(P:List Int) (i:Nat):Nat:=if (P.getD i 0).toNat<i then rootN P (P.getD i 0).toNat else i
termination_by i
theorem Gy(P:List Int) (i:Nat):rootN P i<=i:=by
 induction i using Nat.strongRecOn with
 | _ i ih=>
  rw[rootN];split
  ·rename_i h;have:=ih _ h;omega
  ·omega
theorem Ej{n:Nat} {P:List Int} (h:Par n P) (i:Nat) (hi:i<n):P.getD (rootN P i) 0=rootN P i:=by
 induction i using Nat.strongRecOn with
 | _ i ih=>
  rw[rootN];split
  ·rename_i h1;exact ih _ h1 (by omega)
  ·have:=h.le i hi;omega
theorem mV{P:List Int} {i:Nat} (h:P.getD i 0=i):rootN P i=i:=by
 rw[rootN,if_neg (by omega)]
theorem mx{n:Nat} {P:List Int} (h:Par n P) (i:Nat) (hi:i<n):rootN P (P.getD i 0).toNat=rootN P i:=by
 by_cases e:(P.getD i 0).toNat<i
 ·rw[rootN.eq_1 P i,if_pos e]
 ·have h2:=h.le i hi
  have:(P.getD i 0).toNat=i:=by omega
  rw[this]
theorem ip{α:Type} (l:List α) (i j:Nat) (x d:α) (hi:i<l.length):(l.set i x).getD j d=if j=i then x else l.getD j d:=by
 rw[List.getD_eq_getElem?_getD,List.getElem?_set,List.getD_eq_getElem?_getD];split
 ·rename_i e;subst e;simp
 ·rename_i e;rw[if_neg (Ne.symm e)]
theorem Nu{n:Nat} {P:List Int} (h:Par n P) (i:Nat) (hi:i<n):Par n (P.set i (P.getD (P.getD i 0).toNat 0))/\∀ j,j<n->rootN (P.set i (P.getD (P.getD i 0).toNat 0)) j=rootN P j:=by
 have hl:=h.len;have h1:=h.le i hi;have h2:=h.le (P.getD i 0).toNat (by omega);refine⟨⟨by simpa using hl,fun j hj=>?_⟩,fun j=>?_⟩
 ·rw[ip _ _ _ _ _ (by omega)]
  split
  ·rename_i e;subst e;omega
  ·exact h.le j hj
 ·induction j using Nat.strongRecOn with
  | _ j ih=>
   intro hj;rw[rootN.eq_1 _ j,ip _ _ _ _ _ (by omega)];by_cases e:j=i
   ·subst e
    rw[if_pos rfl];split
    ·rename_i h3
     rw[ih _ h3 (by omega)];have h4:=mx h (P.getD j 0).toNat (by omega);rw[h4,mx h j hj]
    ·have h5:(P.getD j 0).toNat=j:=by
      apply Classical.byContradiction;intro h5;have:=h.le (P.getD j 0).toNat (by omega);omega
     rw[mV (by omega)]
   ·rw[if_neg e]
    split
    ·rename_i h3
     rw[ih _ h3 (by omega),mx h j hj]
    ·rw[rootN,if_neg (by assumption)]
theorem Nv{n:Nat} {P:List Int} (h:Par n P) (p q:Nat) (hp:p<n) (hq:q<n) (ep:P.getD p 0=p) (eq:P.getD q 0=q):Par n (P.set (max p q) (min p q:Nat))/\∀ j,j<n->rootN (P.set (max p q) (min p q:Nat)) j=if rootN P j=max p q then min p q else rootN P j:=by
 have hl:=h.len;refine⟨⟨by simpa using hl,fun j hj=>?_⟩,fun j=>?_⟩
 ·rw[ip _ _ _ _ _ (by omega)]
  split
  ·omega
  ·exact h.le j hj
 ·have em:P.getD (max p q) 0=(max p q:Nat):=by rcases Nat.le_total p q with h'|h'<;>simp only[Nat.max_eq_right h',Nat.max_eq_left h']<;>assumption
  have en:P.getD (min p q) 0=(min p q:Nat):=by rcases Nat.le_total p q with h'|h'<;>simp only[Nat.min_eq_right h',Nat.min_eq_left h']<;>assumption
  have lu:min p q<=max p q:=by omega
  have Pq:max p q<n:=by omega
  generalize max p q=hi at *;generalize min p q=lo at *;induction j using Nat.strongRecOn with
  | _ j ih=>
   intro hj;rw[rootN.eq_1 _ j,ip _ _ _ _ _ (by omega)];by_cases e:j=hi
   ·subst e
    rw[if_pos rfl,mV em,if_pos rfl,Int.toNat_natCast];split
    ·rename_i h3
     rw[ih lo h3 (by omega),mV en,if_neg (by omega)]
    ·omega
   ·rw[if_neg e]
    split
    ·rename_i h3
     rw[ih _ h3 (by omega),mx h j hj]
    ·rename_i h3
     have:rootN P j=j:=by rw[rootN,if_neg h3]
     rw[this,if_neg e]
def dD(n:Nat) (L:Nat->Nat->Bool) (f:Nat):Nat->Nat->Int
 | 0,e=>if e=f then 0 else -1
 | d+1,e=>if 0<=dD n L f d e then dD n L f d e else if anyLt n (fun g=>decide (dD n L f d g=d)&&L e g) then(d:Int)+1 else -1
section
variable {n : Nat} {L : Nat → Nat → Bool} {f : Nat}
theorem gz(d e:Nat):-1<=dD n L f d e/\dD n L f d e<=d:=by
 induction d with
 | zero=>unfold dD;split<;>omega
 | succ d ih=>
  rw[dD];split
  ·omega
  ·split<;>omega
theorem rO(d e:Nat) (h:0<=dD n L f d e) (d':Nat) (hd:d<=d'):dD n L f d' e=dD n L f d e:=by
 induction d' with
 | zero=>have:d=0:=by omega
         subst this;rfl
 | succ d' ih=>
  by_cases e1:d=d'+1
  ·subst e1;rfl
  ·have h2:=ih (by omega)
   rw[dD,h2,if_pos h]
theorem rP(d e d':Nat) (h:dD n L f d e=(d':Int)) (hd:d'<=d):dD n L f d' e=d':=by
 induction d with
 | zero=>have:d'=0:=by omega
         subst this;exact h
 | succ d ih=>
  by_cases e1:d'=d+1
  ·subst e1;exact h
  ·refine ih ?_ (by omega)
   rw[dD]at h;split at h
   ·exact h
   ·split at h<;>omega
def Dm(n:Nat) (D:Nat->Int):Nat:=((List.range n).filter fun e=>decide (0<=D e)).length
theorem Ek{α:Type} (l:List α) (p q:α->Bool) (h:∀ x∈l,p x=true->q x=true) (y:α) (hy:y∈l) (h1:p y=false) (h2:q y=true):(l.filter p).length<(l.filter q).length:=by
 induction l with
 | nil=>cases hy
 | cons a r ih=>
  have lu:(r.filter p).length<=(r.filter q).length:=by
   clear ih hy;have h':∀ x∈r,p x=true->q x=true:=fun x hx=>h x (by simp[hx])
   clear h;induction r with
   | nil=>simp
   | cons b s ih=>
    have:=ih (fun x hx=>h' x (by simp[hx]));have hb:=h' b (by simp);simp only[List.filter_cons];cases hp:p b with
    | true=>rw[hb hp];simp;omega
    | false=>cases q b<;>simp<;>omega
  rcases List.mem_cons.1 hy with rfl|hy
  ·simp only[List.filter_cons,h1,h2];simp;omega
  ·have:=ih (fun x hx=>h x (by simp[hx])) hy
   have ha:=h a (by simp);simp only[List.filter_cons];cases hp:p a with
   | true=>rw[ha hp];simp;omega
   | false=>cases q a<;>simp<;>omega
theorem JE(hf:f<n) (d e:Nat) (he:e<n) (h:dD n L f d e=d):d+1<=Dm n (dD n L f d):=by
 induction d generalizing e with
 | zero=>
  unfold Dm;have:f∈(List.range n).filter fun e=>decide (0<=dD n L f 0 e):=by simp[hf,dD]
  have:=List.length_pos_of_mem this;omega
 | succ d ih=>
  have h0:=h;rw[dD]at h;split at h
  ·have:=gz (n:=n) (L:=L) (f:=f) d e;omega
  ·rename_i h1
   split at h
   ·rename_i h2
    obtain⟨g,hg,h3⟩:=(kI _ _).1 h2;simp only[Bool.and_eq_true,decide_eq_true_eq]at h3;have h4:=ih g hg h3.1
    have h5:Dm n (dD n L f d)<Dm n (dD n L f (d+1)):=by
     refine Ek _ _ _ (fun x _ hx=>?_) e (by simpa using he) (by simpa using h1) (by rw[h0];simp;omega);simp only[decide_eq_true_eq]at hx ⊢;rw[rO d x hx (d+1) (by omega)];exact hx
    omega
   ·omega
theorem Gz(hf:f<n) (d e:Nat) (he:e<n) (h:dD n L f d e=d):d<n:=by
 have h1:=JE hf d e he h;have h2:Dm n (dD n L f d)<=n:=by unfold Dm;exact Nat.le_trans (List.length_filter_le _ _) (by simp)
 omega
end
structure Dist (n:Nat) (L:Nat->Nat->Bool) (f:Nat) (D:Nat->Int):Prop where
 zero:D f=0
 only:∀ e,e<n->D e=0->e=f
 low:∀ e,e<n->-1<=D e
 pred:∀ e,e<n->∀ d:Nat,D e=d+1->∃ g,g<n/\D g=d/\L e g=true
 next:∀ e g,e<n->g<n->0<=D g->L e g=true->0<=D e/\D e<=D g+1
theorem JF{n:Nat} {L:Nat->Nat->Bool} {f:Nat} {D E:Nat->Int} (h1:Dist n L f D) (h2:Dist n L f E):∀ e,e<n->D e=E e:=by
 have key:∀ d:Nat,∀ e,e<n->(D e=d↔E e=d):=by
  intro d;induction d using Nat.strongRecOn with
  | _ d ih=>
   have one:∀ {A B:Nat->Int},Dist n L f A->Dist n L f B->(∀ d',d'<d->∀ e,e<n->(A e=(d':Int)↔B e=d'))->∀ e,e<n->A e=d->B e=d:=by
    intro A B hA hB ih e he h
    match d,ih,h with
    | 0,_,h=>rw[hA.only e he h];exact hB.zero
    | k+1,ih,h=>
     obtain⟨g,hg,e1,e2⟩:=hA.pred e he k (by omega);have e3:=(ih k (by omega) g hg).1 e1;obtain⟨e4,e5⟩:=hB.next e g he hg (by omega) e2;by_cases e6:B e=((k+1:Nat):Int)
     ·exact e6
     ·have e7:=(ih (B e).toNat (by omega) e he).2 (by omega)
      omega
   exact fun e he=>⟨one h1 h2 ih e he,one h2 h1 (fun d' hd e he=>(ih d' hd e he).symm) e he⟩
 intro e he;have a:=h1.low e he;have b:=h2.low e he;by_cases h:0<=D e
 ·have:=(key (D e).toNat e he).1 (by omega);omega
 ·by_cases h':0<=E e
  ·have:=(key (E e).toNat e he).2 (by omega);omega
  ·omega
theorem Nw{n:Nat} {L:Nat->Nat->Bool} {f:Nat} (hf:f<n):Dist n L f (dD n L f n) where
 zero:=by rw[rO 0 f (by simp[dD]) n (by omega)];simp[dD]
 only:=fun e he h=>by
  have:=rP n e 0 h (by omega);unfold dD at this;split at this
  ·assumption
  ·omega
 low:=fun e _=>(gz n e).1
 pred:=fun e he d h=>by
  have hr:=gz (n:=n) (L:=L) (f:=f) n e;have h1:=rP n e (d+1) (by rw[h];rfl) (by omega);rw[dD]at h1;split at h1
  ·have:=gz (n:=n) (L:=L) (f:=f) d e;omega
  ·split at h1
   ·rename_i h2
    obtain⟨g,hg,h3⟩:=(kI _ _).1 h2;simp only[Bool.and_eq_true,decide_eq_true_eq]at h3;exact⟨g,hg,by rw[rO d g (by omega) n (by omega)];exact h3.1,h3.2⟩
   ·omega
 next:=fun e g he hg h0 hl=>by
  have hr:=gz (n:=n) (L:=L) (f:=f) n g;obtain⟨d,hd⟩:∃ d:Nat,dD n L f n g=d:=⟨(dD n L f n g).toNat,by omega⟩;have h1:=rP n g d hd (by omega);have h2:=Gz hf d g hg h1
  have h3:0<=dD n L f (d+1) e/\dD n L f (d+1) e<=d+1:=by
   refine⟨?_,(gz (d+1) e).2⟩;rw[dD];split
   ·assumption
   ·rw[if_pos ((kI _ _).2 ⟨g,hg,by simp[h1,hl]⟩)];omega
  rw[rO (d+1) e h3.1 n (by omega),hd];exact h3
def Qi(n:Nat) (L:Nat->Nat->Bool) (f:Nat):List Int:=(List.range n).map (dD n L f n)
theorem GA{α:Type} {R:α->α->Prop} {l:List α} (h:∀ a∈l,∀ b∈l,R a b):l.Pairwise R:=by
 rw[List.pairwise_iff_getElem];intro i j hi hj _;exact h _ (List.getElem_mem hi) _ (List.getElem_mem hj)
structure Bfs (n:Nat) (L:Nat->Nat->Bool) (f:Nat) (D:Nat->Int) (Q:List Nat):Prop where
 zero:D f=0
 only:∀ e,e<n->D e=0->e=f
 low:∀ e,e<n->-1<=D e
 pred:∀ e,e<n->∀ d:Nat,D e=d+1->∃ g,g<n/\D g=d/\L e g=true
 ok:∀ q∈Q,q<n/\0<=D q
 done:∀ e g,e<n->g<n->0<=D g->g∉Q->L e g=true->0<=D e/\D e<=D g+1
 asc:Q.Pairwise fun a b=>D a<=D b
 near:∀ h r,Q=h :: r->∀ e,e<n->D e<=D h+1
theorem Bfs.start{n:Nat} {L:Nat->Nat->Bool} {f:Nat} (hf:f<n):Bfs n L f (dD n L f 0) [f] where
 zero:=by simp[dD]
 only:=fun e he h=>by unfold dD at h;split at h<;>first|assumption|omega
 low:=fun e _=>(gz 0 e).1
 pred:=fun e he d h=>by have:=(gz (n:=n) (L:=L) (f:=f) 0 e).2;omega
 ok:=fun q hq=>by rw[List.mem_singleton]at hq;subst hq;exact⟨hf,by simp[dD]⟩
 done:=fun e g he hg h0 hn=>by
  unfold dD at h0;split at h0
  ·rename_i e1;subst e1;simp at hn
  ·omega
 asc:=List.pairwise_singleton _ _
 near:=fun h r e1 e he=>by
  have:=(gz (n:=n) (L:=L) (f:=f) 0 e).2;injection e1 with e1 _
  subst e1;simp[dD];unfold dD at this;split<;>omega
theorem Bfs.dist{n:Nat} {L:Nat->Nat->Bool} {f:Nat} {D:Nat->Int} (h:Bfs n L f D []):Dist n L f D:=
 ⟨h.zero,h.only,h.low,h.pred,fun e g he hg h0 hl=>h.done e g he hg h0 (by simp) hl⟩
def i8(L:Nat->Nat->Bool) (D:Nat->Int) (h k e:Nat):Int:=if e<k/\D e<0/\L h e=true then D h+1 else D e
def td(L:Nat->Nat->Bool) (D:Nat->Int) (h k:Nat):List Nat:=(List.range k).filter fun e=>decide (D e<0)&&L h e
theorem Bfs.step{n:Nat} {L:Nat->Nat->Bool} (hs:∀ e g,L e g=L g e) {f:Nat} {D:Nat->Int} {h:Nat} {r:List Nat} (b:Bfs n L f D (h :: r)):Bfs n L f (i8 L D h n) (r++td L D h n):=by
 obtain⟨hh,h0⟩:=b.ok h (by simp);have p8:∀ e,0<=D e->i8 L D h n e=D e:=fun e he=>by unfold i8;rw[if_neg (by omega)]
 have D5:∀ e,e<n->D e<0->L h e=true->i8 L D h n e=D h+1:=fun e he h1 h2=>by unfold i8;rw[if_pos ⟨he,h1,h2⟩]
 have jo:∀ e,D e<0->¬ (e<n/\L h e=true)->i8 L D h n e=D e:=fun e h1 h2=>by unfold i8;rw[if_neg (fun h=>h2 ⟨h.1,h.2.2⟩)]
 have fy:∀ e,(i8 L D h n e=D e)\/(e<n/\D e<0/\L h e=true/\i8 L D h n e=D h+1):=fun e=>by
  unfold i8;split
  ·rename_i h1;exact .inr ⟨h1.1,h1.2.1,h1.2.2,rfl⟩
  ·exact .inl rfl
 have hq:∀ e,e∈td L D h n↔e<n/\D e<0/\L h e=true:=fun e=>by simp[td]
 have Mu:=b.asc;rw[List.pairwise_cons]at Mu;refine⟨by rw[p8 f (by rw[b.zero];omega)];exact b.zero,fun e he h1=>?_,fun e he=>?_,fun e he d h1=>?_,fun q FK=>?_,fun e g he hg h1 h2 h3=>?_,?_,fun h' r' e1 e he=>?_⟩
 ·rcases fy e with h2|⟨_,_,_,h2⟩
  ·exact b.only e he (by omega)
  ·omega
 ·have:=b.low e he
  rcases fy e with h2|⟨_,_,_,h2⟩<;>omega
 ·rcases fy e with h2|⟨_,h3,h4,h2⟩
  ·obtain⟨g,hg,h5,h6⟩:=b.pred e he d (by omega)
   exact⟨g,hg,by rw[p8 g (by omega)];exact h5,h6⟩
  ·exact⟨h,hh,by rw[p8 h h0];omega,by rw[hs];exact h4⟩
 ·rcases List.mem_append.1 FK with FK|FK
  ·obtain⟨h1,h2⟩:=b.ok q (by simp[FK])
   exact⟨h1,by rw[p8 q h2];exact h2⟩
  ·obtain⟨h1,h2,h3⟩:=(hq q).1 FK
   exact⟨h1,by rw[D5 q h1 h2 h3];omega⟩
 ·rw[List.mem_append,not_or]at h2
  rcases fy g with h4|⟨h5,h6,h7,h4⟩
  ·by_cases e1:g=h
   ·subst e1
    by_cases h5:0<=D e
    ·rw[p8 e h5,h4]
     exact⟨h5,b.near g r rfl e he⟩
    ·rw[D5 e he (by omega) (by rw[hs];exact h3),h4]
     omega
   ·have h5:0<=D g:=by omega
    obtain⟨h6,h7⟩:=b.done e g he hg h5 (by simp[e1,h2.1]) h3;rw[p8 e h6,h4];exact⟨h6,h7⟩
  ·exact absurd ((hq g).2 ⟨h5,h6,h7⟩) h2.2
 ·rw[List.pairwise_append]
  refine⟨?_,?_,fun a ha c hc=>?_⟩
  ·exact Mu.2.imp_of_mem fun {a c} ha hc hac=>by rw[p8 a (b.ok a (by simp[ha])).2,p8 c (b.ok c (by simp[hc])).2];exact hac
  ·refine GA fun a ha c hc=>?_
   obtain⟨a1,a2,a3⟩:=(hq a).1 ha;obtain⟨c1,c2,c3⟩:=(hq c).1 hc;rw[D5 a a1 a2 a3,D5 c c1 c2 c3];omega
  ·obtain⟨c1,c2,c3⟩:=(hq c).1 hc
   rw[p8 a (b.ok a (by simp[ha])).2,D5 c c1 c2 c3];exact b.near h r rfl a (b.ok a (by simp[ha])).1
 ·have h2:D h<=i8 L D h n h':=by
   have hm:h'∈r++td L D h n:=by rw[e1];simp
   rcases List.mem_append.1 hm with hm|hm
   ·rw[p8 h' (b.ok h' (by simp[hm])).2];exact Mu.1 h' hm
   ·obtain⟨c1,c2,c3⟩:=(hq h').1 hm
    rw[D5 h' c1 c2 c3];omega
  have h3:=b.near h r rfl e he;rcases fy e with h4|⟨_,_,_,h4⟩<;>omega
theorem GB{α:Type} (l:List α) (p q:α->Bool):(l.filter fun x=>p x&&q x).length+(l.filter fun x=>p x&&!q x).length=(l.filter p).length:=by
 induction l with
 | nil=>rfl
 | cons a r ih=>simp only[List.filter_cons];cases p a<;>cases q a<;>simp<;>omega
theorem JG{n:Nat} (L:Nat->Nat->Bool) (D:Nat->Int) (h:Nat) (h0:0<=D h) (r:List Nat):(r++td L D h n).length+((List.range n).filter fun e=>decide (i8 L D h n e<0)).length<(h :: r).length+((List.range n).filter fun e=>decide (D e<0)).length:=by
 have h1:=GB (List.range n) (fun e=>decide (D e<0)) (fun e=>L h e)
 have h2:((List.range n).filter fun e=>decide (i8 L D h n e<0))=(List.range n).filter fun e=>decide (D e<0)&&!L h e:=by
  refine List.filter_congr fun e he=>?_
  have he:=List.mem_range.1 he;unfold i8;by_cases hd:D e<0
  ·cases hl:L h e with
   | true=>rw[if_pos ⟨he,hd,rfl⟩,decide_eq_true hd,decide_eq_false (by omega)];rfl
   | false=>rw[if_neg (by rintro⟨_,_,h⟩;cases h),decide_eq_true hd];rfl
  ·rw[if_neg (fun h=>hd h.2.1),decide_eq_false hd];rfl
 rw[h2];have h3:(td L D h n)=(List.range n).filter fun e=>decide (D e<0)&&L h e:=rfl
 rw[List.length_append,h3,List.length_cons];omega
instance:Inhabited Ex:=⟨⟨0,[],[]⟩⟩
instance:DecidableEq Ex:=fun a b=>decidable_of_iff (a.c=b.c/\a.word=b.word/\a.views=b.views) (by cases a;cases b;simp)
def verifyE(s:Sys):Int:=if buildE s.prob≠0 then buildE s.prob else if s.n=(aM s.prob).n/\s.tab=(aM s.prob).tab/\s.ex=(aM s.prob).ex then 0 else 3
theorem El{s:Sys} (h:verifyE s=0):buildE s.prob=0/\s=aM s.prob:=by
 unfold verifyE at h;split at h
 ·rename_i h1;exact absurd h h1
 rename_i h1;split at h
 ·rename_i h2
  refine⟨by omega,?_⟩;obtain⟨p,n,t,e⟩:=s;obtain⟨h3,h4,h5⟩:=h2;dsimp only at h3 h4 h5 ⊢;rw[h3,h4,h5];rfl
 ·omega
def maskN(q:Nat->Bool):Nat->Nat
 | 0=>0
 | k+1=>maskN q k+if q k then 2 ^ k else 0
theorem fF(q:Nat->Bool):∀ n,maskN q n<2 ^ n
 | 0=>by simp[maskN]
 | n+1=>by
  have:=fF q n;have h2:(2:Nat) ^ (n+1)=2 ^ n+2 ^ n:=by rw[Nat.pow_succ];omega
  unfold maskN;split<;>omega
theorem dI(q:Nat->Bool):∀ n p,(maskN q n).testBit p=(decide (p<n)&&q p)
 | 0,p=>by simp[maskN]
 | n+1,p=>by
  have az:=fF q n;rw[maskN];rcases Nat.lt_trichotomy p n with h|h|h
  ·rw[decide_eq_true (show p<n+1 by omega),Bool.true_and]
   have ih:=dI q n p;rw[decide_eq_true h,Bool.true_and]at ih;split
   ·rw[Nat.add_comm,Nat.testBit_two_pow_add_gt h];exact ih
   ·exact ih
  ·subst h
   rw[decide_eq_true (show p<p+1 by omega),Bool.true_and];split
   ·rename_i h1
    rw[Nat.add_comm,Nat.testBit_two_pow_add_eq,Nat.testBit_lt_two_pow az,h1];rfl
   ·rename_i h1
    rw[Nat.add_zero,Nat.testBit_lt_two_pow az];simpa using h1
  ·rw[decide_eq_false (by omega),Bool.false_and]
   refine Nat.testBit_lt_two_pow (Nat.lt_of_lt_of_le (fF q (n+1)) (Nat.pow_le_pow_right (by omega) (by omega)))
theorem zU{q r:Nat->Bool} {n:Nat} (h:∀ p,p<n->q p=r p):maskN q n=maskN r n:=by
 refine Nat.eq_of_testBit_eq fun p=>?_
 rw[dI,dI];by_cases hp:p<n
 ·rw[h p hp]
 ·rw[decide_eq_false hp];rfl
theorem lf(q:Nat->Bool) (n:Nat):maskN q n=0↔anyLt n q=false:=by
 rw[fH];constructor
 ·intro h k hk
  have:=dI q n k;rw[h,decide_eq_true hk]at this;simpa using this.symm
 ·intro h
  refine Nat.eq_of_testBit_eq fun p=>?_
  rw[dI,Nat.zero_testBit];by_cases hp:p<n
  ·rw[h p hp,Bool.and_false]
  ·rw[decide_eq_false hp];rfl
theorem Nx(q r:Nat->Bool) (n:Nat):maskN q n &&& maskN r n=maskN (fun p=>q p&&r p) n:=by
 refine Nat.eq_of_testBit_eq fun p=>?_
 rw[Nat.testBit_and,dI,dI,dI];cases decide (p<n)<;>simp
theorem Qj(q r:Nat->Bool) (n:Nat):maskN q n ||| maskN r n=maskN (fun p=>q p || r p) n:=by
 refine Nat.eq_of_testBit_eq fun p=>?_
 rw[Nat.testBit_or,dI,dI,dI];cases decide (p<n)<;>simp
theorem Ny{n v:Nat} (h:v<n):maskN (fun p=>decide (p=v)) n=2 ^ v:=by
 refine Nat.eq_of_testBit_eq fun p=>?_
 rw[dI,Nat.testBit_two_pow];by_cases e:p=v
 ·subst e;simp[h]
 ·rw[decide_eq_false e,decide_eq_false (show ¬ v=p by omega),Bool.and_false]
theorem Lr(n:Nat):maskN (fun _=>true) n=2 ^ n - 1:=by
 refine Nat.eq_of_testBit_eq fun p=>?_
 rw[dI,Nat.testBit_two_pow_sub_one,Bool.and_true]
theorem xB{q:Nat->Bool} {k:Nat} (h:q k=true):maskN q k ||| 2 ^ k=maskN q (k+1):=by
 refine Nat.eq_of_testBit_eq fun p=>?_
 rw[Nat.testBit_or,dI,dI,Nat.testBit_two_pow];by_cases e:p=k
 ·subst e;simp[h]
 ·rw[decide_eq_false (show ¬ k=p by omega),Bool.or_false,decide_eq_decide.2 (show p<k↔p<k+1 by omega)]
theorem qJ{q:Nat->Bool} {k:Nat} (h:q k=false):maskN q k=maskN q (k+1):=by rw[maskN,h];rfl
theorem jg(q:Nat->Bool) (n p:Nat):hasB (maskN q n:Nat) p=(decide (p<n)&&q p):=by
 rw[mT _ (by omega),Int.toNat_natCast,dI]
structure Lk where
 x:Int
 p:Int
instance:Inhabited Lk:=⟨⟨0,0⟩⟩
instance:DecidableEq Lk:=fun a b=>decidable_of_iff (a.x=b.x/\a.p=b.p) (by cases a;cases b;simp)
def cF(s:Sys) (e:Nat):Ex:=s.ex.getD e default
def fltS(s:Sys) (e:Nat):Int:=zl (cF s e).word
def nS(s:Sys):Nat:=s.n.toNat
def eS(s:Sys):Nat:=s.ex.length
def finS(s:Sys) (e p:Nat):Int:=((cF s e).views.getD s.prob.rounds.toNat []).getD p 0
def linkB(s:Sys) (p e f:Nat):Bool:=!hasB (fltS s e) p&&!hasB (fltS s f) p&&decide (finS s e p=finS s f p)
theorem vz(s:Sys) (p e f:Nat):linkB s p e f=linkB s p f e:=by
 unfold linkB;rw[Bool.and_comm (!hasB (fltS s e) p),decide_eq_decide.2 (eq_comm (a:=finS s e p))]
theorem zV{s:Sys} {p e f g:Nat} (h1:linkB s p e f=true) (h2:linkB s p f g=true):linkB s p e g=true:=by
 unfold linkB at *;simp only[Bool.and_eq_true,decide_eq_true_eq]at *;exact⟨⟨h1.1.1,h2.1.2⟩,h1.2.trans h2.2⟩
def byB(s:Sys) (e f:Nat):Bool:=anyLt (nS s) fun p=>linkB s p e f
def byP(s:Sys) (e f:Nat):Int:=firstIx (nS s) fun p=>linkB s p e f
theorem GD(s:Sys) (e f:Nat):byB s e f=byB s f e:=Jw _ _ _ fun p _=>vz s p e f
theorem uj{s:Sys} {e f:Nat} (h:byB s e f=true):0<=byP s e f/\byP s e f<nS s/\linkB s (byP s e f).toNat e f=true:=by
 unfold byB at h;unfold byP;rcases bD (nS s) (fun p=>linkB s p e f) with ⟨_,h1⟩|⟨k,hk,e1,h1,_⟩
 ·rw[eD _ _ h1]at h;cases h
 ·rw[e1,Int.toNat_natCast];exact⟨by omega,by omega,h1⟩
def iI(s:Sys) (p:Nat):List Int:=ig (fun k i=>linkB s p k i) (eS s)
def gp(s:Sys):Nat->List Int
 | 0=>iI s 0
 | k+1=>qI (gp s k) (iI s (k+1))
def aO(s:Sys):List Int:=gp s (nS s - 1)
theorem jV(s:Sys) (p:Nat):(iI s p).length=eS s:=oA _ _
theorem ir(s:Sys):∀ k,(gp s k).length=eS s
 | 0=>jV s 0
 | k+1=>by rw[gp,qI,oA,ir s k]
theorem gB(s:Sys):(aO s).length=eS s:=ir s _
def oS(s:Sys):Nat:=s.prob.t.outs.toNat
def vecE(s:Sys) (e:Nat):List (List Int):=fV (s.prob.t.cases.getD (cF s e).c.toNat default) (fltS s e)
def valB(s:Sys) (e v:Nat):Bool:=hasV (vecE s e) (List.replicate (nS s) (v:Int))
def valuesS(s:Sys) (e:Nat):List Int:=((List.range (oS s)).filter (valB s e)).map fun v:Nat=>(v:Int)
def constB(v:List Int):Bool:=!anyLt v.length fun i=>decide (v.getD i 0≠v.getD 0 0)
def agreeB(t:Tk):Bool:=!anyLt t.cases.length fun i=>anyLt (t.cases.getD i default).out.length fun j=>!constB ((t.cases.getD i default).out.getD j [])
def readyE(s:Sys):Int:=if verifyE s≠0 then verifyE s else if agreeB s.prob.t then 0 else 11
def valuesR(s:Sys) (x:Int):List Int × Int:=if readyE s≠0 then([],readyE s) else if x<0\/(eS s:Int)<=x then([],6) else(valuesS s x.toNat,0)
def eG(parts:List Int) (k:Int):List Nat:=(List.range parts.length).filter fun e=>decide (parts.getD e 0=k)
def comB(s:Sys) (l:List Nat):Int:=firstIx (oS s) fun v=>l.all fun e=>valB s e v
def dm(s:Sys):List Int:=(List.range (eS s)).map fun e=>comB s (eG (aO s) ((aO s).getD e 0))
def choiceR(s:Sys):List Int × Int:=if readyE s≠0 then([],readyE s) else(dm s,0)
def ge(s:Sys) (e:Nat) (out:List Int):Nat->List Int
 | 0=>out
 | p+1=>if hasB (fltS s e) p then ge s e out p else(ge s e out p).set (finS s e p).toNat ((dm s).getD e 0)
def fJ(s:Sys):Nat->List Int
 | 0=>List.replicate s.tab.length (-1)
 | e+1=>ge s e (fJ s e) (nS s)
def ruleR(s:Sys):List Int × Bool × Int:=if readyE s≠0 then([],false,readyE s) else if -1∈dm s then([],false,0) else(fJ s (eS s),true,0)
def cW(s:Sys) (f:Nat):List Int:=Qi (eS s) (byB s) f
def gC(s:Sys) (D:List Int) (d e:Nat):Nat:=(firstIx (eS s) fun g=>decide (D.getD g 0=d)&&byB s e g).toNat
def kb(s:Sys) (D:List Int):Nat->Nat->List Lk
 | 0,_=>[]
 | d+1,e=>⟨gC s D d e,byP s e (gC s D d e)⟩ :: kb s D d (gC s D d e)
def jW(s:Sys) (e f:Nat):List Lk:=kb s (cW s f) ((cW s f).getD e 0).toNat e
def lg(s:Sys):Nat->List Nat->List Lk
 | _,[]=>[]
 | e,m :: r=>jW s e m++lg s m r
def jD(s:Sys):List Nat->List Lk
 | []=>[]
 | a :: r=>⟨a,-1⟩ :: lg s a r
def bY(l:List Lk):List Nat:=l.map fun y=>y.x.toNat
def contraB(s:Sys) (l:List Lk):Bool:=decide (comB s (bY l)<0)
def F6(s:Sys) (l:List Lk):Nat:=if firstIx l.length (fun i=>contraB s (l.take (i+1)))<0 then l.length else(firstIx l.length fun i=>contraB s (l.take (i+1))).toNat+1
def xD(s:Sys) (l:List Lk):List Lk:=l.take (F6 s l)
def pY(s:Sys):Int:=firstIx (eS s) fun e=>decide ((dm s).getD e 0<0)
def uk(s:Sys):List Lk:=xD s (jD s (eG (aO s) ((aO s).getD (pY s).toNat 0)))
def findW(s:Sys):List Lk × Bool × Int:=
 if readyE s≠0 then([],false,readyE s) else if pY s<0 then([],false,0) else if 4096<(uk s).length then([],false,17) else(uk s,true,0)
structure Ct where
 kind:Int
 walk:List Lk
 nv:Nat
 nl:Nat
 np:Nat
def linkE(s:Sys) (w:List Lk) (i:Nat):Int:=
 if (w.getD i default).x<0\/(eS s:Int)<=(w.getD i default).x then 6
 else if i=0 then(if (w.getD i default).p≠-1 then 3 else 0)
 else if (w.getD i default).p<0\/(nS s:Int)<=(w.getD i default).p then 2
 else if linkB s (w.getD i default).p.toNat (w.getD (i - 1) default).x.toNat (w.getD i default).x.toNat then 0 else 18
def walkE(s:Sys) (w:List Lk):Int:=if w.length=0 then 16 else if 4096<w.length then 5 else a8 w.length (linkE s w)
def certR(s:Sys) (c:Ct):Int:=
 if c.kind≠1 then 1 else if 0<c.nv\/0<c.nl\/0<c.np then 3
 else if walkE s c.walk≠0 then walkE s c.walk else if contraB s c.walk then 0 else 18
def certE(s:Sys) (c:Ct):Int:=if readyE s≠0 then readyE s else certR s c
def l3(s:Sys) (w:List Lk) (i k:Nat):Option (List Lk):=
 if byB s (w.getD i default).x.toNat (w.getD k default).x.toNat then some (w.take (i+1)++⟨(w.getD k default).x,byP s (w.getD i default).x.toNat (w.getD k default).x.toNat⟩ :: w.drop (k+1)) else none
def F7(s:Sys) (w:List Lk) (i:Nat):List (List Lk):=(List.range (w.length - (i+2))).filterMap fun j=>l3 s w i (w.length - 1 - j)
def dr(s:Sys) (w:List Lk):List (List Lk):=
 w.dropLast :: ((if 1<w.length then [⟨(w.getD 1 default).x,-1⟩ :: w.drop 2] else [])++(List.range w.length).flatMap (F7 s w))
def dB(s:Sys) (w:List Lk):Bool:=decide (0<w.length)&&contraB s w
def nextW(s:Sys) (w:List Lk):Option (List Lk):=(dr s w).find? (dB s)
def lJ(s:Sys):Nat->List Lk->List Lk
 | 0,w=>w
 | k+1,w=>match nextW s w with|some c=>lJ s k c|none=>w
def fW(s:Sys) (w:List Lk):List Lk:=lJ s w.length w
def shortR(s:Sys) (c:Ct):List Lk × Int:=if certE s c≠0 then([],certE s c) else(fW s c.walk,0)
structure SysOk (s:Sys):Prop where
 prob:probE s.prob=0
 n:1<=nS s/\nS s<=5/\s.n=nS s/\s.prob.t.n=nS s
 outs:1<=oS s/\oS s<=8/\s.prob.t.outs=oS s
 rounds:0<=s.prob.rounds/\s.prob.rounds<=6
 count:eS s<=4096
 tab:s.tab.length<=8192
 cas:∀ e,e<eS s->0<=(cF s e).c/\(cF s e).c.toNat<s.prob.t.cases.length
 word:∀ e,e<eS s->(cF s e).word.length=s.prob.rounds.toNat
 flt:∀ e,e<eS s->0<=fltS s e/\fltS s e<2 ^ nS s
 views:∀ e,e<eS s->(cF s e).views.length=s.prob.rounds.toNat+1/\∀ row∈(cF s e).views,row.length=nS s/\∀ z∈row,0<=z/\z<(s.tab.length:Int)
theorem U'(tb:List Vw) (v:Vw):tb.length<=(putV tb v).1.length/\(putV tb v).2<(putV tb v).1.length:=by
 unfold putV;split
 ·rename_i h;exact⟨Nat.le_refl _,List.idxOf_lt_length_of_mem h⟩
 ·simp
theorem Em(vs:List Vw):∀ st:List Vw × List Int,(∀ z∈st.2,0<=z/\z<(st.1.length:Int))->st.1.length<=(vs.foldl gQ st).1.length/\∀ z∈(vs.foldl gQ st).2,0<=z/\z<((vs.foldl gQ st).1.length:Int):=by
 induction vs with
 | nil=>intro st h;exact⟨Nat.le_refl _,h⟩
 | cons v r ih=>
  intro st h;have hp:=U' st.1 v
  have h2:=ih (gQ st v) (by
   intro z hz
   show 0<=z/\z<((putV st.1 v).1.length:Int)
   rcases List.mem_append.1 hz with hz|hz
   ·have:=h z hz;omega
   ·rw[List.mem_singleton]at hz;subst hz;omega)
  exact⟨Nat.le_trans hp.1 h2.1,h2.2⟩
theorem Ka(n:Nat) (inp:List Int) (word:List Rd) (tb:List Vw):∀ k,tb.length<=(playTo n inp word tb k).1.length/\(playTo n inp word tb k).2.length=k+1/\∀ row∈(playTo n inp word tb k).2,row.length=n/\∀ z∈row,0<=z/\z<((playTo n inp word tb k).1.length:Int)
 | 0=>by
  have h:=Em ((List.range n).map (dS inp)) (tb,[]) (fun z hz=>by simp at hz);have hl:=(fr ((List.range n).map (dS inp)) (tb,[])).1;refine⟨h.1,rfl,fun row hr=>?_⟩;have e:row=(addAll tb ((List.range n).map (dS inp))).2:=by simpa[playTo,ug] using hr
  subst e;exact⟨by simpa[addAll] using hl,h.2⟩
 | k+1=>by
  obtain⟨h1,h2,h3⟩:=Ka n inp word tb k;have h:=Em ((List.range n).map (nextV n k (word.getD k default) ((playTo n inp word tb k).2.getLastD []))) ((playTo n inp word tb k).1,[]) (fun z hz=>by simp at hz);have hl:=(fr ((List.range n).map (nextV n k (word.getD k default) ((playTo n inp word tb k).2.getLastD []))) ((playTo n inp word tb k).1,[])).1;have e1:(playTo n inp word tb (k+1)).1=(addAll (playTo n inp word tb k).1 ((List.range n).map (nextV n k (word.getD k default) ((playTo n inp word tb k).2.getLastD [])))).1:=rfl;have e2:(playTo n inp word tb (k+1)).2=(playTo n inp word tb k).2++[(addAll (playTo n inp word tb k).1 ((List.range n).map (nextV n k (word.getD k default) ((playTo n inp word tb k).2.getLastD [])))).2]:=rfl;have h0:(playTo n inp word tb k).1.length<=(playTo n inp word tb (k+1)).1.length:=by rw[e1];exact h.1
  refine⟨by omega,by rw[e2,List.length_append,h2];rfl,fun row hr=>?_⟩;rw[e2]at hr;rcases List.mem_append.1 hr with hr|hr
  ·obtain⟨h4,h5⟩:=h3 row hr
   exact⟨h4,fun z hz=>by have:=h5 z hz;omega⟩
  ·rw[List.mem_singleton]at hr
   subst hr;rw[e1];exact⟨by simpa[addAll] using hl,h.2⟩
def F8(p:Pb) (words:List (List Rd)) (st:List Vw × List Ex):Prop:=
 ∀ x∈st.2,(∃ c:Nat,x.c=c/\c<p.t.cases.length)/\x.word∈words/\x.views.length=x.word.length+1/\∀ row∈x.views,row.length=p.t.n.toNat/\∀ z∈row,0<=z/\z<(st.1.length:Int)
theorem Ls(p:Pb) (words:List (List Rd)) (st:List Vw × List Ex) (x:Nat × Nat) (h1:x.1<p.t.cases.length) (h2:x.2<words.length) (h:F8 p words st):F8 p words (jS p words st x):=by
 obtain⟨k1,k2,k3⟩:=Ka p.t.n.toNat (p.t.cases.getD x.1 default).inp (words.getD x.2 []) st.1 (words.getD x.2 []).length;intro y hy;rcases List.mem_append.1 hy with hy|hy
 ·obtain⟨a1,a2,a3,a4⟩:=h y hy
  refine⟨a1,a2,a3,fun row hr=>⟨(a4 row hr).1,fun z hz=>?_⟩⟩;have:=(a4 row hr).2 z hz
  show 0<=z/\z<((gi p.t.n.toNat (p.t.cases.getD x.1 default).inp (words.getD x.2 []) st.1).1.length:Int)
  unfold gi;omega
 ·rw[List.mem_singleton]at hy
  subst hy;refine⟨⟨x.1,rfl,h1⟩,?_,k2,k3⟩
  show words.getD x.2 []∈words
  rw[show words.getD x.2 []=words[x.2] by simp[h2]];exact List.getElem_mem h2
theorem Nz(p:Pb) (words:List (List Rd)) (l:List (Nat × Nat)):∀ st,(∀ x∈l,x.1<p.t.cases.length/\x.2<words.length)->F8 p words st->F8 p words (l.foldl (jS p words) st):=by
 induction l with
 | nil=>intro st _ h;exact h
 | cons a r ih=>intro st hl h;exact ih _ (fun x hx=>hl x (by simp[hx])) (Ls p words st a (hl a (by simp)).1 (hl a (by simp)).2 h)
theorem xE(p:Pb) (words:List (List Rd)) (l:List (Nat × Nat)):∀ st:List Vw × List Ex,(l.foldl (jS p words) st).2.length=st.2.length+l.length:=by
 induction l with
 | nil=>intro st;rfl
 | cons a r ih=>
  intro st;rw[List.foldl_cons,ih];simp[jS];omega
theorem Qk{c n:Nat} {x:Nat × Nat} (h:x∈jd c n):x.1<c/\x.2<n:=by
 unfold jd at h;obtain⟨i,hi,hx⟩:=List.mem_flatMap.1 h;obtain⟨j,hj,rfl⟩:=List.mem_map.1 hx;exact⟨List.mem_range.1 hi,List.mem_range.1 hj⟩
theorem xF(c n:Nat):(jd c n).length=c * n:=by
 unfold jd;induction c with
 | zero=>simp
 | succ c ih=>rw[List.range_succ,List.flatMap_append,List.length_append,ih,Nat.succ_mul];simp
theorem Ql{r:Rd} (h:roundE r=0):0<=r.f/\r.f<2 ^ r.g.n.toNat:=by
 unfold roundE at h;split at h
 ·rename_i h1;exact absurd h h1
 unfold jQ at h;split at h
 ·rename_i h1;exact absurd h h1
 split at h
 ·omega
 rename_i h1;refine⟨by omega,?_⟩;have h2:r.f / 2 ^ r.g.n.toNat=0:=by omega
 have h3:(0:Int)<2 ^ r.g.n.toNat:=Int.pow_pos (by decide);have h4:=Int.emod_add_mul_ediv r.f (2 ^ r.g.n.toNat);rw[h2,Int.mul_zero,Int.add_zero]at h4;rw[<-h4];exact Int.emod_lt_of_pos _ h3
theorem Qm{a:Adv} (h:∀ s,s<a.states.length->stateE a (a.states.getD s [])=0) (k:Nat):∀ s,∀ x∈bS a k s,∀ r∈x,0<=r.f/\r.f<2 ^ a.n.toNat:=by
 induction k with
 | zero=>intro s x hx r hr;simp[bS]at hx;subst hx;simp at hr
 | succ k ih=>
  intro s x hx r hr;simp only[bS,List.mem_flatMap,List.mem_map]at hx;obtain⟨m,hm,y,hy,rfl⟩:=hx;rcases List.mem_cons.1 hr with rfl|hr
  ·by_cases hs:s<a.states.length
   ·obtain⟨j,hj,rfl⟩:=List.getElem_of_mem hm
    have h1:=h s hs;unfold stateE at h1;rw[if_neg (by omega)]at h1;have h2:=eV h1 j hj;unfold dG at h2;rw[show (a.states.getD s []).getD j default=(a.states.getD s [])[j] by rw[List.getD_eq_getElem?_getD,List.getElem?_eq_getElem hj];rfl]at h2;split at h2
    ·rename_i h3;exact absurd h2 h3
    rename_i h3;split at h2
    ·omega
    rename_i h4;have h5:=Ql (r:=(a.states.getD s [])[j].r) (by simpa using h3);rw[show (a.states.getD s [])[j].r.g.n=a.n by simpa using h4]at h5;exact h5
   ·rw[List.getD_eq_getElem?_getD,List.getElem?_eq_none (by omega)]at hm
    simp at hm
  ·exact ih _ y hy r hr
theorem qT{p:Pb} (h:probE p=0):taskE p.t=0/\advE p.a=0/\p.t.n=p.a.n/\0<=p.rounds/\p.rounds<=6:=by
 unfold probE at h;split at h
 ·rename_i h1;exact absurd h h1
 split at h
 ·rename_i h1 h2;exact absurd h h2
 split at h
 ·omega
 split at h
 ·omega
 exact⟨by omega,by omega,by omega,by omega,by omega⟩
theorem jh{s:Sys} (hv:verifyE s=0):SysOk s:=by
 obtain⟨p,hb,rfl⟩:∃ p,buildE p=0/\s=aM p:=⟨s.prob,El hv⟩;clear hv;unfold buildE at hb;split at hb
 ·rename_i h;exact absurd hb h
 rename_i hp;have hp:probE p=0:=by omega
 split at hb
 ·omega
 rename_i hm;split at hb
 ·omega
 rename_i ht;obtain⟨mP,Hy,fq,ro,pL⟩:=qT hp;obtain⟨hn,_,ho,_,_⟩:=eX mP;obtain⟨_,dT,_,_⟩:=hH Hy;have hE:=Nz p (aI p) (jd p.t.cases.length (aI p).length) ([],[]) (fun x hx=>Qk hx) (fun x hx=>by simp at hx);have hL:=xE p (aI p) (jd p.t.cases.length (aI p).length) ([],[]);rw[xF]at hL
 have CO:∀ e,e<eS (aM p)->cF (aM p) e∈(execsS p (aI p) (jd p.t.cases.length (aI p).length)).2:=fun e he=>by
  unfold cF;have Th:e<(aM p).ex.length:=he;rw[show (aM p).ex.getD e default=(aM p).ex[e] by rw[List.getD_eq_getElem?_getD,List.getElem?_eq_getElem Th];rfl];exact List.getElem_mem Th
 have I4:∀ e,e<eS (aM p)->(cF (aM p) e).word.length=p.rounds.toNat:=fun e he=>jR _ _ _ _ (hE _ (CO e he)).2.1
 have E8:nS (aM p)=p.t.n.toNat:=rfl;refine⟨hp,⟨by rw[E8];omega,by rw[E8];omega,by rw[E8];show p.t.n=_;omega,by rw[E8];show p.t.n=_;omega⟩,⟨?_,?_,?_⟩,⟨ro,pL⟩,?_,by omega,fun e he=>?_,I4,fun e he=>?_,fun e he=>?_⟩
 ·show 1<=p.t.outs.toNat;omega
 ·show p.t.outs.toNat<=8;omega
 ·show p.t.outs=(p.t.outs.toNat:Int);omega
 ·show (execsS p (aI p) (jd p.t.cases.length (aI p).length)).2.length<=4096
  unfold execsS;rw[hL];simp;omega
 ·obtain⟨⟨c,e1,e2⟩,_⟩:=hE _ (CO e he)
  rw[e1];exact⟨by omega,by rw[Int.toNat_natCast];exact e2⟩
 ·have h1:=(hE _ (CO e he)).2.1
  unfold fltS zl;rw[E8,fq];split
  ·exact⟨by omega,Int.pow_pos (by decide)⟩
  ·rename_i h2
   have h3:(cF (aM p) e).word.length - 1<(cF (aM p) e).word.length:=by omega
   rw[show (cF (aM p) e).word.getD ((cF (aM p) e).word.length - 1) default=(cF (aM p) e).word[(cF (aM p) e).word.length - 1] by rw[List.getD_eq_getElem?_getD,List.getElem?_eq_getElem h3];rfl];exact Qm dT _ _ _ h1 _ (List.getElem_mem h3)
 ·obtain⟨_,_,h3,h4⟩:=hE _ (CO e he)
  exact⟨by rw[h3,I4 e he];rfl,h4⟩
theorem Qn{t:Tk} (h:taskE t=0) {c:Cs} (hc:c∈t.cases):c.out≠[]/\(∀ v∈c.calm,v∈c.out)/\∀ v∈c.out,(v.length:Int)=t.n/\∀ x∈v,0<=x/\x<t.outs:=by
 have hk:=(eX h).2.2.2.2 c hc;refine⟨fun e=>by have:=hk.out1;rw[e]at this;simp at this,hk.calms,fun v hv=>⟨hk.outs v hv,?_⟩⟩;obtain⟨k,uP,rfl⟩:=List.getElem_of_mem hc;unfold taskE at h;split at h
 ·omega
 split at h
 ·omega
 have h3:=eV h k uP;unfold eH at h3;rw[show t.cases.getD k default=t.cases[k] by simp[uP]]at h3;split at h3
 ·omega
 split at h3
 ·omega
 unfold vectorsE at h3;split at h3
 ·omega
 split at h3
 ·omega
 rename_i h6;have h7:=eV (show a8 _ _=0 by simpa using h6);obtain⟨i,hi,rfl⟩:=List.getElem_of_mem hv;have h8:=h7 i hi;unfold iY at h8;rw[show (t.cases[k]).out.getD i []=(t.cases[k]).out[i] by simp[hi]]at h8;split at h8
 ·omega
 rename_i h9;have h9:vectorE (t.cases[k]).out[i] t.n t.outs=0:=by simpa using h9
 unfold vectorE at h9;split at h9
 ·omega
 split at h9
 ·omega
 rename_i CQ;have Ta:=(fH _ _).1 ((Bool.not_eq_true _).mp CQ);intro x hx;obtain⟨j,hj,rfl⟩:=List.getElem_of_mem hx;have Te:=Ta j hj;rw[show (t.cases[k]).out[i].getD j 0=(t.cases[k]).out[i][j] by simp[hj]]at Te;simp at Te;omega
theorem Bz{s:Sys} (h:SysOk s) {e:Nat} (he:e<eS s):vecE s e≠[]/\∀ v∈vecE s e,v.length=nS s/\(∀ x∈v,0<=x/\x<(oS s:Int))/\∃ i j,i<s.prob.t.cases.length/\j<(s.prob.t.cases.getD i default).out.length/\v=(s.prob.t.cases.getD i default).out.getD j []:=by
 obtain⟨ht,_⟩:=qT h.prob;have hc:=(h.cas e he).2
 have hm:s.prob.t.cases.getD (cF s e).c.toNat default∈s.prob.t.cases:=by
  rw[show s.prob.t.cases.getD (cF s e).c.toNat default=s.prob.t.cases[(cF s e).c.toNat] by simp[hc]];exact List.getElem_mem hc
 obtain⟨h1,h2,h3⟩:=Qn ht hm
 have h4:∀ v∈vecE s e,v∈(s.prob.t.cases.getD (cF s e).c.toNat default).out:=fun v hv=>by
  unfold vecE fV at hv;split at hv
  ·exact h2 v hv
  ·exact hv
 refine⟨?_,fun v hv=>?_⟩
 ·unfold vecE fV
  split
  ·rename_i h5;intro h6;rw[h6]at h5;simp at h5
  ·exact h1
 ·obtain⟨h5,h6⟩:=h3 v (h4 v hv)
  have hn:=h.n;have ho:=h.outs;obtain⟨j,hj,e⟩:=List.getElem_of_mem (h4 v hv);exact⟨by omega,fun x hx=>by have:=h6 x hx;omega,_,j,hc,hj,by rw[<-e];exact(List.getElem_eq_getD []).trans rfl⟩
theorem Kb(s:Sys) (e v:Nat):valB s e v=true↔List.replicate (nS s) (v:Int)∈vecE s e:=by
 unfold valB hasV;rw[kI];constructor
 ·rintro⟨k,hk,h⟩
  have:=of_decide_eq_true h;rw[show (vecE s e).getD k []=(vecE s e)[k] by simp[hk]]at this;rw[<-this];exact List.getElem_mem hk
 ·intro h
  obtain⟨k,hk,e⟩:=List.getElem_of_mem h;exact⟨k,hk,decide_eq_true (by rw[<-e];simp[hk])⟩
theorem NA{s:Sys} (h:SysOk s) {e v:Nat} (he:e<eS s) (hv:valB s e v=true):v<oS s:=by
 have h1:=((Bz h he).2 _ ((Kb s e v).1 hv)).2.1 v (by have:=h.n;rw[List.mem_replicate];exact⟨by omega,rfl⟩);omega
theorem NB{v:List Int} (h:constB v=true):v=List.replicate v.length (v.getD 0 0):=by
 unfold constB at h;have h1:=(fH _ _).1 ((Bool.not_eq_true' _).mp h);rw[List.eq_replicate_iff];refine⟨rfl,fun x hx=>?_⟩;obtain⟨j,hj,rfl⟩:=List.getElem_of_mem hx;have:=h1 j hj;rw[show v.getD j 0=v[j] by simp[hj]]at this;simpa using this
theorem pA(t:Tk):agreeB t=true↔∀ i,i<t.cases.length->∀ j,j<(t.cases.getD i default).out.length->constB ((t.cases.getD i default).out.getD j [])=true:=by
 unfold agreeB;rw[Bool.not_eq_true',fH];constructor
 ·intro h i hi j hj
  have:=(fH _ _).1 (h i hi) j hj;simpa using this
 ·intro h i hi
  rw[fH];intro j hj;rw[h i hi j hj];rfl
def gV(s:Sys) (e:Nat):Nat:=maskN (valB s e) 8
def vA(s:Sys) (l:List Nat) (v:Nat):Bool:=l.all fun e=>valB s e v
def comM(s:Sys) (l:List Nat):Nat:=maskN (vA s l) 8
theorem AX(s:Sys):comM s []=255:=by
 unfold comM;rw[show vA s []=fun _=>true from rfl,Lr]
theorem En(s:Sys) (l:List Nat) (e:Nat):comM s (l++[e])=comM s l &&& gV s e:=by
 unfold comM gV;rw[Nx];congr 1
 funext v
 simp[vA]
theorem zW{n m:Nat} (q:Nat->Bool) (h:n<=m) (hq:∀ v,n<=v->v<m->q v=false):firstIx m q=firstIx n q:=by
 rcases bD n q with ⟨e,h1⟩|⟨k,hk,e,h1,h2⟩
 ·rw[e]
  refine eC _ _ fun j hj=>?_
  by_cases uE:j<n
  ·exact h1 j uE
  ·exact hq j (by omega) hj
 ·rw[e];exact dF m k q (by omega) h2 h1
theorem Kc{s:Sys} (h:SysOk s) {l:List Nat} (hl:∀ e∈l,e<eS s):comB s l=firstIx 8 (vA s l):=by
 have ho:=h.outs;unfold comB;rcases l with _|⟨a,r⟩
 ·rw[dF (oS s) 0 _ (by omega) (fun j hj=>by omega) rfl,dF 8 0 _ (by omega) (fun j hj=>by omega) rfl]
 ·refine(zW _ ho.2.1 fun v hv _=>?_).symm
  cases hq:vA s (a :: r) v with
  | false=>exact hq
  | true=>
   unfold vA at hq;rw[List.all_eq_true]at hq;have:=NA h (hl a (by simp)) (hq a (by simp));omega
theorem NC{s:Sys} (h:SysOk s) {l:List Nat} (hl:∀ e∈l,e<eS s):comB s l<0↔comM s l=0:=by
 rw[Kc h hl];unfold comM;rw[lf,<-oT];simp
theorem Lt(s:Sys) (l:List Nat):-1<=comB s l/\comB s l<oS s\/oS s=0:=by
 unfold comB;rcases bD (oS s) (fun v=>l.all fun e=>valB s e v) with ⟨e,_⟩|⟨k,hk,e,_⟩<;>omega
def Qo(R:Nat->Nat->Bool) (e:Nat):Int:=if firstIx e (R e)<0 then e else firstIx e (R e)
theorem XF(R:Nat->Nat->Bool) (e:Nat):(Qo R e=e/\∀ f,f<e->R e f=false)\/∃ k,k<e/\Qo R e=k/\R e k=true/\∀ f,f<k->R e f=false:=by
 unfold Qo;rcases bD e (R e) with ⟨h,h1⟩|⟨k,hk,h,h1,h2⟩
 ·rw[h,if_pos (by omega)];exact .inl ⟨rfl,h1⟩
 ·rw[h,if_neg (by omega)];exact .inr ⟨k,hk,rfl,h1,h2⟩
def qX(keys:List Int):List Int:=ig (fun k i=>decide (keys.getD k 0=keys.getD i 0)) keys.length
theorem Qp(f:Nat->Int) (n:Nat):qX ((List.range n).map f)=ig (fun k i=>decide (f k=f i)) n:=by
 unfold qX;rw[List.length_map,List.length_range];refine qH fun i hi k hk=>?_
 have e:∀ j,j<n->((List.range n).map f).getD j 0=f j:=fun j hj=>by simp[hj]
 rw[e i hi,e k (by omega)]
def lK(l:List Int):Prop:=∃ N:Nat->Int,N 0=0/\∀ i,i<l.length->0<=l.getD i 0/\l.getD i 0<=N i/\N (i+1)=if l.getD i 0=N i then N i+1 else N i
theorem qY(q:Nat->Nat->Bool) (n i:Nat) (hi:i<n):(ig q n).getD i 0=(bG q (i+1)).1.getD i 0:=by
 unfold ig;obtain⟨m,rfl⟩:∃ m,n=i+1+m:=⟨n - (i+1),by omega⟩;clear hi;induction m with
 | zero=>rfl
 | succ m ih=>rw[<-ih];exact rM q (i+1+m) i (by omega)
theorem qK(q:Nat->Nat->Bool) (i:Nat):(firstIx i (fun k=>q k i)=-1/\(bG q (i+1)).1.getD i 0=(bG q i).2/\(bG q (i+1)).2=(bG q i).2+1)\/∃ k,k<i/\firstIx i (fun k=>q k i)=k/\(bG q (i+1)).1.getD i 0=(bG q i).1.getD k 0/\(bG q (i+1)).2=(bG q i).2/\(bG q i).1.getD k 0<(bG q i).2/\0<=(bG q i).1.getD k 0:=by
 have hl:=mw q i;have hn:=jC q i;rcases bD i (fun k=>q k i) with ⟨e,_⟩|⟨k,hk,e,_,_⟩
 ·refine .inl ⟨e,?_,?_⟩
  ·rw[bG]
   rw[e,if_pos (by omega),List.getD_eq_getElem?_getD,List.getElem?_append_right (by omega),hl];simp
  ·rw[bG]
   rw[e,if_pos (by omega)]
 ·refine .inr ⟨k,hk,e,?_,?_,?_⟩
  ·rw[bG]
   rw[e,if_neg (by omega),List.getD_eq_getElem?_getD,List.getElem?_append_right (by omega),hl];simp
  ·rw[bG]
   rw[e,if_neg (by omega)]
  ·have:=hn.2.2 ((bG q i).1[k]'(by omega)) (List.getElem_mem _)
   rw[show (bG q i).1.getD k 0=(bG q i).1[k]'(by omega) by simp[hl,hk]];omega
theorem oC(q:Nat->Nat->Bool) (n:Nat):lK (ig q n):=by
 refine⟨fun i=>(bG q i).2,rfl,fun i hi=>?_⟩;rw[oA]at hi;rw[qY q n i hi];have hn:=jC q i;dsimp only;rcases qK q i with ⟨_,e1,e2⟩|⟨k,_,_,e1,e2,e3,e4⟩
 ·rw[e1,e2,if_pos rfl];exact⟨hn.1,Int.le_refl _,rfl⟩
 ·rw[e1,e2,if_neg (by omega)];exact⟨e4,by omega,rfl⟩
theorem BA{l:List Int} (h:lK l) (i:Nat) (hi:i<l.length) (x:Int) (h0:0<=x) (hx:x<l.getD i 0):∃ j,j<i/\l.getD j 0=x:=by
 obtain⟨N,hN,hs⟩:=h
 have key:∀ m,m<=l.length->0<=N m/\∀ x:Int,0<=x->x<N m->∃ j,j<m/\l.getD j 0=x:=by
  intro m;induction m with
  | zero=>intro _;exact⟨by omega,fun x h0 hx=>by omega⟩
  | succ m ih=>
   intro hm;obtain⟨a1,a2⟩:=ih (by omega);obtain⟨b1,b2,b3⟩:=hs m (by omega);split at b3
   ·rename_i b4
    refine⟨by omega,fun x h0 hx=>?_⟩;by_cases e:x=N m
    ·exact⟨m,by omega,by rw[b4,e]⟩
    ·obtain⟨j,hj,ej⟩:=a2 x h0 (by omega);exact⟨j,by omega,ej⟩
   ·refine⟨by omega,fun x h0 hx=>?_⟩
    obtain⟨j,hj,ej⟩:=a2 x h0 (by omega);exact⟨j,by omega,ej⟩
 obtain⟨b1,b2,_⟩:=hs i hi;exact(key i (by omega)).2 x h0 (by omega)
theorem tg{l:List Int} (h:lK l) (i:Nat) (hi:i<l.length):0<=l.getD i 0/\l.getD i 0<=i:=by
 obtain⟨N,hN,hs⟩:=h
 have key:∀ m,m<=l.length->N m<=m:=by
  intro m;induction m with
  | zero=>intro _;omega
  | succ m ih=>
   intro hm;have a:=ih (by omega);obtain⟨b1,b2,b3⟩:=hs m (by omega);split at b3<;>omega
 obtain⟨b1,b2,_⟩:=hs i hi;have:=key i (by omega);exact⟨b1,by omega⟩
theorem Eo{q:Nat->Nat->Bool} (hr:∀ a,q a a=true) (hs:∀ a b,q a b=q b a) (n:Nat) (ht:∀ a b c,a<n->b<n->c<n->q a b=true->q b c=true->q a c=true) (i k:Nat) (hi:i<n) (hk:k<n):(ig q n).getD i 0=(ig q n).getD k 0↔q i k=true:=by
 have key:∀ m,m<=n->∀ i k,i<m->k<m->((bG q m).1.getD i 0=(bG q m).1.getD k 0↔q i k=true):=by
  intro m;induction m with
  | zero=>intro _ i k h;omega
  | succ m ih=>
   intro hm;have ih:=ih (by omega);have hl:=mw q m;have hn:=jC q m
   have one:∀ i,i<m->((bG q (m+1)).1.getD i 0=(bG q (m+1)).1.getD m 0↔q i m=true):=fun i hi=>by
    rw[rM q m i hi];rcases qK q m with ⟨e,e1,_⟩|⟨k,hk,e,e1,_⟩
    ·rw[e1]
     have az:=(hn.2.2 ((bG q m).1[i]'(by omega)) (List.getElem_mem _)).2;rw[show (bG q m).1.getD i 0=(bG q m).1[i]'(by omega) by simp[hl,hi]]
     have jo:q i m=false:=by
      rcases bD m (fun k=>q k m) with ⟨_,h⟩|⟨k,hk,e',_⟩
      ·exact h i hi
      ·omega
     rw[jo];simp;omega
    ·rw[e1]
     have Xi:q k m=true:=by
      rcases bD m (fun k=>q k m) with ⟨e',_⟩|⟨k',uP,e',h,_⟩
      ·omega
      ·rw[show k=k' by omega];exact h
     rw[ih i k hi hk];exact⟨fun h=>ht i k m (by omega) (by omega) (by omega) h Xi,fun h=>ht i m k (by omega) (by omega) (by omega) h (by rw[hs];exact Xi)⟩
   intro i k hi hk;by_cases e1:i=m
   ·by_cases e2:k=m
    ·rw[e1,e2,hr];simp
    ·rw[e1,hs,<-one k (by omega)];exact eq_comm
   ·by_cases e2:k=m
    ·rw[e2];exact one i (by omega)
    ·rw[rM q m i (by omega),rM q m k (by omega)];exact ih i k (by omega) (by omega)
 exact key n (Nat.le_refl _) i k hi hk
def du(key f:Nat->Int) (k:Nat) (x:Int):Option Int:=if firstIx k (fun j=>decide (key j=x))<0 then none else some (f (firstIx k fun j=>decide (key j=x)).toNat)
theorem BB{key f:Nat->Int} {k:Nat} {x:Int}:du key f k x=none↔∀ j,j<k->key j≠x:=by
 unfold du;rcases bD k (fun j=>decide (key j=x)) with ⟨e,h⟩|⟨j,hj,e,h,_⟩
 ·rw[e,if_pos (by omega)]
  exact⟨fun _ j hj e=>(by have:=h j hj;rw[decide_eq_true e]at this;cases this),fun _=>rfl⟩
 ·rw[e,if_neg (by omega)]
  exact⟨fun h=>(by cases h),fun h'=>absurd (of_decide_eq_true h) (h' j hj)⟩
theorem qL{key f:Nat->Int} {k:Nat} {x y:Int} (h:du key f k x=some y):∃ j,j<k/\firstIx k (fun j=>decide (key j=x))=j/\key j=x/\f j=y:=by
 unfold du at h;rcases bD k (fun j=>decide (key j=x)) with ⟨e,_⟩|⟨j,hj,e,h1,_⟩
 ·rw[e,if_pos (by omega)]at h;cases h
 ·rw[e,if_neg (by omega),Int.toNat_natCast]at h
  exact⟨j,hj,e,of_decide_eq_true h1,cU h⟩
theorem xG{key f:Nat->Int} {k:Nat} (h:du key f k (key k)=none) (y:Int):du key f (k+1) y=if y=key k then some (f k) else du key f k y:=by
 have h:=BB.1 h;by_cases e:y=key k
 ·rw[if_pos e]
  unfold du;rw[dF (k+1) k _ (by omega) (fun j hj=>by rw[decide_eq_false];rw[e];exact h j hj) (by rw[decide_eq_true e.symm]),if_neg (by omega),Int.toNat_natCast]
 ·rw[if_neg e]
  unfold du;rcases bD k (fun j=>decide (key j=y)) with ⟨e1,h1⟩|⟨j,hj,e1,h1,h2⟩
  ·rw[e1,eC (k+1) _ (fun j hj=>by by_cases ej:j=k;(subst ej;exact decide_eq_false fun e'=>e e'.symm);exact h1 j (by omega))]
  ·rw[e1,dF (k+1) j _ (by omega) h2 h1]
theorem xH{key f:Nat->Int} {k:Nat} {z:Int} (h:du key f k (key k)=some z) (y:Int):du key f (k+1) y=du key f k y:=by
 obtain⟨i,hi,ei,e2,_⟩:=qL h;unfold du;rcases bD k (fun j=>decide (key j=y)) with ⟨e1,h1⟩|⟨j,hj,e1,h1,h2⟩
 ·rw[e1,eC (k+1) _ (fun j hj=>by
   by_cases ej:j=k
   ·subst ej
    have:=h1 i hi;rw[e2]at this;exact this
   ·exact h1 j (by omega))]
 ·rw[e1,dF (k+1) j _ (by omega) h2 h1]
theorem GE{q:Nat->Nat->Bool} {n k:Nat} (hk:k<n) (h:firstIx k (fun j=>q j k)<0):(ig q n).getD k 0=(bG q k).2/\(bG q (k+1)).2=(bG q k).2+1:=by
 rw[qY q n k hk];rcases qK q k with ⟨_,e1,e2⟩|⟨j,_,e,_⟩
 ·exact⟨e1,e2⟩
 ·omega
theorem GF{q:Nat->Nat->Bool} {n k j:Nat} (hk:k<n) (h:firstIx k (fun j=>q j k)=j):(ig q n).getD k 0=(ig q n).getD j 0/\(bG q (k+1)).2=(bG q k).2:=by
 rcases qK q k with ⟨e,_⟩|⟨i,hi,e,e1,e2,_⟩
 ·omega
 ·obtain rfl:i=j:=by omega
  refine⟨?_,e2⟩;rw[qY q n k hk,e1,qY q n i (by omega)];have:=qY q k i hi;unfold ig at this;rw[this]
theorem Qq(a b:List Int) (m i:Nat):iQ (fQ a b) m i i=true:=vu _ m i i (By a b i)
structure Uni (a b:List Int) (n:Nat) (P:List Int):Prop where
 par:Par n P
 wr:∀ i,i<n->iQ (fQ a b) n (rootN P i) i=true
theorem qZ{P:List Int} {i n:Nat} (h:i<n):rootN P i<n:=Nat.lt_of_le_of_lt (Gy P i) h
theorem Uni.start(a b:List Int) (n:Nat):Uni a b n ((List.range n).map fun i:Nat=>(i:Int)):=by
 have h:∀ i,i<n->((List.range n).map fun i:Nat=>(i:Int)).getD i 0=i:=fun i hi=>by simp[hi]
 refine⟨⟨by simp,fun i hi=>by rw[h i hi];omega⟩,fun i hi=>?_⟩;rw[mV (h i hi)];exact Qq a b n i
theorem Uni.union{a b:List Int} {n:Nat} {P:List Int} (h:Uni a b n P) (i k:Nat) (hi:i<n) (hk:k<n) (hj:fQ a b i k=true):Uni a b n (P.set (max (rootN P i) (rootN P k)) (min (rootN P i) (rootN P k):Nat))/\∀ j,j<n->rootN (P.set (max (rootN P i) (rootN P k)) (min (rootN P i) (rootN P k):Nat)) j=if rootN P j=max (rootN P i) (rootN P k) then min (rootN P i) (rootN P k) else rootN P j:=by
 have hp:=qZ (P:=P) hi;have hq:=qZ (P:=P) hk;obtain⟨h1,h2⟩:=Nv h.par _ _ hp hq (Ej h.par i hi) (Ej h.par k hk);refine⟨⟨h1,fun j qC=>?_⟩,h2⟩;have hs:=oB (vy a b);have jn:=h.wr i hi;have xg:=h.wr k hk;have jw:=vu (fQ a b) n i k hj;have KM:iQ (fQ a b) n (rootN P i) (rootN P k)=true:=jf _ n _ i _ hi jn (jf _ n _ k _ hk jw (by rw[hs];exact xg));rw[h2 j qC];split
 ·rename_i e
  have hw:=h.wr j qC;rw[e]at hw;rcases Nat.le_total (rootN P i) (rootN P k) with lu|lu
  ·rw[Nat.min_eq_left lu]
   rw[Nat.max_eq_right lu]at hw;exact jf _ n _ _ _ hq KM hw
  ·rw[Nat.min_eq_right lu]
   rw[Nat.max_eq_left lu]at hw;exact jf _ n _ _ _ hp (by rw[hs];exact KM) hw
 ·exact h.wr j qC
def ji(n:Nat) (P P':List Int):Prop:=∀ i k,i<n->k<n->rootN P i=rootN P k->rootN P' i=rootN P' k
theorem ji.refl(n:Nat) (P:List Int):ji n P P:=fun _ _ _ _ h=>h
theorem ji.trans{n:Nat} {P Q R:List Int} (h:ji n P Q) (k:ji n Q R):ji n P R:=fun i j hi hj e=>k i j hi hj (h i j hi hj e)
theorem JH{n:Nat} {P Q:List Int} (h:∀ j,j<n->rootN Q j=rootN P j):ji n P Q:=fun i k hi hk e=>by rw[h i hi,h k hk];exact e
theorem JI{n:Nat} {P Q:List Int} {x y:Nat} (h:∀ j,j<n->rootN Q j=if rootN P j=x then y else rootN P j):ji n P Q:=fun i k hi hk e=>by rw[h i hi,h k hk,e]
def fk(l:List Int) (n m:Nat) (P:List Int):Prop:=∀ i k,i<n->k<n->i<m->k<m->l.getD i 0=l.getD k 0->rootN P i=rootN P k
theorem fk.keep{l:List Int} {n m:Nat} {P Q:List Int} (h:fk l n m P) (k:ji n P Q):fk l n m Q:=fun i j hi hj h1 h2 e=>k i j hi hj (h i j hi hj h1 h2 e)
theorem fk.join{l:List Int} {n m k:Nat} {P Q:List Int} (h:fk l n m P) (hm:m<n) (hk:k<m) (e:l.getD k 0=l.getD m 0) (hq:ji n P Q) (hr:rootN Q m=rootN Q k):fk l n (m+1) Q:=by
 have h':=h.keep hq;intro i j hi hj h1 h2 e1;by_cases ei:i=m
 ·by_cases ej:j=m
  ·rw[ei,ej]
  ·rw[ei,hr];exact h' k j (by omega) hj hk (by omega) (by rw[e,<-ei,e1])
 ·by_cases ej:j=m
  ·rw[ej,hr];exact h' i k hi (by omega) (by omega) hk (by rw[e,<-ej,e1])
  ·exact h' i j hi hj (by omega) (by omega) e1
theorem fk.fresh{l:List Int} {n m:Nat} {P:List Int} (h:fk l n m P) (hn:∀ k,k<m->l.getD k 0≠l.getD m 0):fk l n (m+1) P:=by
 intro i j hi hj h1 h2 e1;by_cases ei:i=m
 ·by_cases ej:j=m
  ·rw[ei,ej]
  ·exact absurd (by rw[<-e1,ei]) (hn j (by omega))
 ·by_cases ej:j=m
  ·exact absurd (by rw[e1,ej]) (hn i (by omega))
  ·exact h i j hi hj (by omega) (by omega) e1
theorem Qr{a b:List Int} {n:Nat} {P:List Int} (ha:a.length=n) (h:Uni a b n P) (h1:fk a n n P) (h2:fk b n n P):qX ((List.range n).map fun i=>(rootN P i:Int))=qI a b:=by
 rw[Qp];have he:∀ j,j<n->((List.range n).map fun i=>(rootN P i:Int)).getD j 0=rootN P j:=fun j hj=>by simp[hj]
 rw[<-Qh a b ((List.range n).map fun i=>(rootN P i:Int)) n ha]
 ·refine qH fun i hi k hk=>?_
  rw[he i hi,he k (by omega)]
 ·intro i k hi hk hq
  rw[he i hi,he k hk];unfold fQ at hq;simp only[Bool.or_eq_true,decide_eq_true_eq]at hq;rcases hq with e|e
  ·rw[h1 i k hi hk hi hk e]
  ·rw[h2 i k hi hk hi hk e]
 ·intro i hi
  exact⟨rootN P i,qZ hi,he i hi,h.wr i hi⟩
end Go.Proofs.YtmeaoneaephjeaaGreatDoor
