/-
  A part of the proof: lemmas and contracts that the parts behind it use. Each one's conditions are its own premises.
-/
import Derived.OwnWalkIn
import Derived.TacticsInMore
import Derived.LoopNIn
import Derived.LoopIn
import Derived.Laws.IdiomCopy
import Derived.Laws.CopyRow
import Derived.Test.YtmeaoneaephjeaaGreatDoorShelf
import Derived.ArgAppend
import Derived.Laws.IdiomStrings
import Derived.Test.YtmeaoneaephjeaaGreatDoorT2
set_option maxRecDepth 100000
set_option maxHeartbeats 8000000
set_option linter.unusedVariables false
set_option linter.unusedSimpArgs false
namespace Go.Proofs.YtmeaoneaephjeaaGreatDoor
open Go.RowKit Go Go.Shelf
structure KeyKit {K:Type} [DecidableEq K] (P:Program) (kt:TypeId) (enc:K->Value):Prop where
 eq:∀ a b w,(Op.equal kt (enc a) (enc b)).run P w=.ok (decide (a=b)) w
 check:∀ em a w,(Instr.checkKey em 10000 kt (enc a)).run P w=.ok () w
 und:∃ fs,P.underlying kt=some (.struct fs)
def l9{K:Type} (enc:K->Value) (w:World) (b:Nat) (f:List (K × Value)):Prop:=
 ∃ es clock,w.heap[b]?=some (.map es clock)/\es.toList.map (fun e=>(e.key,e.val))=f.map (fun p=>(enc p.1,p.2))
def lj{K:Type} [DecidableEq K] (f:List (K × Value)) (r:K):Option Value:=(f.find? fun p=>decide (r=p.1)).map (·.2)
theorem l9.up{K:Type} {enc:K->Value} {A A':World} {b:Nat} {f:List (K × Value)} (h:l9 enc A b f) (hb:Below A.heap.size A A'):l9 enc A' b f:=by
 obtain⟨es,clock,h1,hf⟩:=h;exact⟨es,clock,af hb h1,hf⟩
theorem zX{K:Type} [DecidableEq K] {P:Program} {kt:TypeId} {enc:K->Value} (kit:KeyKit P kt enc) (r:K) (w:World):∀ (f:List (K × Value)) (es:List MapEntry) (i:Nat),es.map (fun e=>(e.key,e.val))=f.map (fun p=>(enc p.1,p.2)) →
  (lj f r=none->(Instr.findAsking kt (enc r) es i).run P w=.ok none w)/\(∀ x,lj f r=some x->∃ j,(Instr.findAsking kt (enc r) es i).run P w=.ok (some (j,x)) w)
 | [],es,i,h=>by
  obtain rfl:es=[]:=by simpa using h
  exact⟨fun _=>rfl,fun x hx=>by simp[lj]at hx⟩
 | p :: f,es,i,h=>by
  cases es with
  | nil=>simp at h
  | cons e es=>
   simp only[List.map_cons,List.cons.injEq,Prod.mk.injEq]at h;obtain⟨⟨hk,hv⟩,h⟩:=h;have ih:=zX kit r w f es (i+1) h;unfold Instr.findAsking;by_cases hr:r=p.1
   ·subst hr;refine⟨fun hn=>by simp[lj]at hn,fun x hx=>?_⟩;have hx':p.2=x:=by simpa[lj] using hx
    refine⟨i,?_⟩;simp[Sem.run_bind,hk,kit.eq,hv,hx']
   ·have e1:lj (p :: f) r=lj f r:=by simp[lj,hr]
    rw[e1];refine⟨fun hn=>?_,fun x hx=>?_⟩
    ·simp[Sem.run_bind,hk,kit.eq,hr,ih.1 hn]
    ·obtain⟨j,hj⟩:=ih.2 x hx;exact⟨j,by simp[Sem.run_bind,hk,kit.eq,hr,hj]⟩
theorem Hk{K:Type} [DecidableEq K] {P:Program} {kt:TypeId} {enc:K->Value} (kit:KeyKit P kt enc) (r:K) (w:World) (f:List (K × Value)) (es:List MapEntry) (h:es.map (fun e=>(e.key,e.val))=f.map (fun p=>(enc p.1,p.2))) :
  (lj f r=none->(Instr.findKey kt (enc r) es).run P w=.ok none w)/\(∀ x,lj f r=some x->∃ j,(Instr.findKey kt (enc r) es).run P w=.ok (some (j,x)) w):=by
 have hA:=zX kit r w f es 0 h;obtain⟨fs,hu⟩:=kit.und;unfold Instr.findKey;cases es with
 | nil=>
  obtain rfl:f=[]:=by simpa using h.symm
  refine⟨fun _=>?_,fun x hx=>by simp[lj]at hx⟩;simp[run_underlying hu,Instr.findNow]
 | cons e es=>
  have hn:Instr.findNow (.struct fs) (enc r) (e :: es) 0=none:=by simp[Instr.findNow,Instr.sameNow]
  simp only[Sem.run_bind,run_underlying hu,Result.andThen_ok,hn];exact hA
theorem Hl{K:Type} [DecidableEq K] {P:Program} {kt mt vt:TypeId} {z:Value} {enc:K->Value} (kit:KeyKit P kt enc) (hm:P.underlying mt=some (.map kt vt)) (hz:∀ w,(zeroValue vt).run P w=.ok z w) {w:World} {b:Nat} {f:List (K × Value)} (h:l9 enc w b f) (r:K) :
  (Instr.lookup mt (.map (some b)) (enc r) true).run P w=.ok (.tuple #[(lj f r).getD z,.bool (lj f r).isSome]) w:=by
 obtain⟨es,clock,hb,iV⟩:=h;have hF:=Hk kit r w f es.toList iV;have hg:(getObj b).run P w=.ok (.map es clock) w:=by simp[getObj,Sem.run,hb]
 unfold Instr.lookup;cases hn:lj f r with
 | none=>simp[Sem.run_bind,run_underlying hm,hg,kit.check,hF.1 hn,hz]
 | some x=>
  obtain⟨j,hj⟩:=hF.2 x hn;simp[run_underlying hm,hg,kit.check,hj]
theorem UU{K:Type} [DecidableEq K] {P:Program} {kt mt vt:TypeId} {enc:K->Value} (kit:KeyKit P kt enc) (hm:P.underlying mt=some (.map kt vt)) {w:World} {b:Nat} {f:List (K × Value)} (h:l9 enc w b f) (r:K) (x:Value) (hn:lj f r=none) :
  ∃ o,(Instr.mapUpdate mt (.map (some b)) (enc r) x).run P w=.ok () (w.putObj b o)/\l9 enc (w.putObj b o) b (f++[(r,x)]):=by
 obtain⟨es,clock,hb,iV⟩:=h;have hF:=Hk kit r w f es.toList iV;have hg:(getObj b).run P w=.ok (.map es clock) w:=by simp[getObj,Sem.run,hb]
 have hs:∀ o,(setObj b o).run P w=.ok () (w.putObj b o):=fun o=>by simp[setObj,Sem.run,hb,World.putObj]
 refine⟨_,?_,es.push { key:=enc r,val:=x,born:=clock },clock+1,World.putObj_heap_same (aC hb),?_⟩
 ·unfold Instr.mapUpdate;simp[run_underlying hm,hg,kit.check,hF.1 hn,hs]
 ·simp[iV]
def uu(tb:List Vw):List (Vw × Value):=tb.zipIdx.map fun x=>(x.1,Value.int .i64 (x.2:Nat))
theorem Or(tb:List Vw) (v:Vw):uu (tb++[v])=uu tb++[(v,.int .i64 (tb.length:Nat))]:=by
 unfold uu;rw[List.zipIdx_append];simp
theorem Rh(v:Vw) (tb:List Vw):∀ k:Nat,(((tb.zipIdx k).map fun x=>(x.1,Value.int .i64 ((x.2:Nat):Int))).find? fun p=>decide (v=p.1))=if v∈tb then some (v,.int .i64 ((k+tb.idxOf v:Nat):Int)) else none:=by
 induction tb with
 | nil=>intro k;simp
 | cons a r ih=>
  intro k;rw[List.zipIdx_cons,List.map_cons,List.find?_cons];by_cases h:v=a
  ·subst h;simp
  ·have h2:decide (v=(a,Value.int .i64 ((k:Nat):Int)).1)=false:=by simpa using h
   rw[h2];have h3:=ih (k+1);simp only at h3 ⊢;rw[h3];have h4:(a == v)=false:=by simpa using fun e=>h e.symm
   by_cases hm:v∈r
   ·rw[if_pos hm,if_pos (by simp[hm]),List.idxOf_cons,h4];simp only[cond_false];rw[show k+1+List.idxOf v r=k+(List.idxOf v r+1) by omega]
   ·rw[if_neg hm,if_neg (by simp[hm,h])]
theorem Ri(tb:List Vw) (v:Vw):lj (uu tb) v=if v∈tb then some (.int .i64 (tb.idxOf v:Nat)) else none:=by
 unfold lj uu;have h:=Rh v tb 0;simp only[Nat.zero_add]at h;rw[h];split<;>rfl
theorem lJ(va vb:Value) (a b:List Int) (w:World) (ha:aX w va a) (hb:aX w vb b) :
  Calls Tryz.prog 132 #[va,vb] w fun e w'=>e=.returned (.int .i64 (ordV a b))/\Below w.heap.size w w':=by
 obtain⟨pa,ca,rfl,la1,la2,ea⟩:=ha.at;obtain⟨pb,cb,rfl,lb1,lb2,eb⟩:=hb.at;clear ha hb;have EA:=aa ea;clear ea;have EB:=aa eb;clear eb
 go_enter Tryz.func132,Tryz.ntmps132
 go_wp2
 go_loopw [5] (fun i wr=>Below w.heap.size w wr/\∃ k:Nat,k<=a.length/\k<=b.length/\i=.int .i64 k/\ordV a b=ordV (a.drop k) (b.drop k)) (fun i _=>a.length - (intOf i).toNat)
 ·exact⟨Below.refl _ _,0,by omega,by omega,rfl,by simp⟩
 ·
  obtain⟨aB,k,hk,mr,rfl,aV⟩:=hrel;have H:=aa aV;clear aV;by_cases aD:k<a.length
  ·by_cases iy:k<b.length
   ·obtain⟨b1,o1,rfl,h1⟩:=EA.o k aD;obtain⟨x,hx⟩:∃ x,x=a[k]:=⟨_,rfl⟩;rw[<-hx,Nat.mul_one]at h1;obtain⟨b2,o2,rfl,h2⟩:=EB.o k iy;obtain⟨y,hy⟩:∃ y,y=b[k]:=⟨_,rfl⟩;rw[<-hy,Nat.mul_one]at h2;have c1:∀ n,(wr.drewN n).cell? ⟨b1,o1+k,none⟩=some (.int .i64 x):=fun n=>ak aB h1.1
    have c2:∀ n,(wr.drewN n).cell? ⟨b2,o2+k,none⟩=some (.int .i64 y):=fun n=>ak aB h2.1
    have HS:=EP aD iy H.o;rw[<-hx,<-hy]at HS;have Ln:=aa HS;clear HS hx hy h1 h2;rcases Int.lt_trichotomy x y with hn|hn|hn
    ·go_wp2
     go_quiet (fail)
     go_wp2
     go_ret
     refine⟨aF ?_,eE aB _⟩;rw[Ln.o];unfold cmpI;grind
    ·have h1:¬ x<y:=by omega
     have h2:¬ y<x:=by omega
     have HN:=aa hn;clear hn
     go_wp2
     go_quiet (fail)
     go_wp2
     have c3:∀ m n,((wr.drewN m).drewN n).cell? ⟨b1,o1+k,none⟩=some (.int .i64 x):=fun m n=>c1 m
     have c4:∀ m n,((wr.drewN m).drewN n).cell? ⟨b2,o2+k,none⟩=some (.int .i64 y):=fun m n=>c2 m
     go_quiet (fail)
     go_wp2
     go_roundw
     ·
      refine⟨eE aB _,k+1,by omega,by omega,by go_num,?_⟩;rw[Ln.o,if_pos];rw[HN.o,cmpI];simp
     ·simp[intOf];omega
    ·have h1:¬ x<y:=by omega
     go_wp2
     go_quiet (fail)
     go_wp2
     have c3:∀ m n,((wr.drewN m).drewN n).cell? ⟨b1,o1+k,none⟩=some (.int .i64 x):=fun m n=>c1 m
     have c4:∀ m n,((wr.drewN m).drewN n).cell? ⟨b2,o2+k,none⟩=some (.int .i64 y):=fun m n=>c2 m
     go_quiet (fail)
     go_wp2
     go_ret
     refine⟨aF ?_,eE (eE aB _) _⟩;rw[Ln.o];unfold cmpI;grind
   ·have HR:am (ordV a b=1):=by
     have h:ordV a b=1:=by rw[H.o,si aD,List.drop_of_length_le (l:=b) (by omega)];rfl
     exact h
    have h3:¬ a.length<b.length:=by omega
    have h4:b.length<a.length:=by omega
    go_wp2
    go_ret
    exact⟨aF HR.o.symm,aB⟩
  ·have HR:am (ordV a b=if a.length<b.length then -1 else 0):=by
    have h:ordV a b=if a.length<b.length then -1 else 0:=by
     rw[H.o,List.drop_of_length_le (by omega),wO,List.length_drop]
     grind
    exact h
   have h3:¬ b.length<a.length:=by omega
   by_cases h4:a.length<b.length
   ·go_wp2
    go_ret
    refine⟨aF ?_,aB⟩;rw[HR.o,if_pos h4]
   ·go_wp2
    go_ret
    refine⟨aF ?_,aB⟩;rw[HR.o,if_neg (by omega)]
theorem Hm(a b:List Int):(ordV a b == 0)=eqV a b:=by
 unfold eqV;by_cases h:a=b
 ·subst h;simp[sk]
 ·simp[h];intro h1;exact h (N4 h1)
theorem ER(vl vv:Value) (l:List (List Int)) (v:List Int) (w:World) (hl:ef w vl l) (hv:aX w vv v) :
  Calls Tryz.prog 81 #[vl,vv] w fun e w'=>e=.returned (.bool (hasV l v))/\Below w.heap.size w w':=by
 obtain⟨pa,ca,rfl,la1,la2,ea⟩:=hl.at;have HV:=aa hv;obtain⟨pv,cv,rfl,_⟩:=hv;clear hl;have EA:=aa ea;clear ea;have HD:am (hasV l v=anyLt l.length fun i=>eqV (l.getD i []) v):=by exact rfl
 go_enter Tryz.func81,Tryz.ntmps81
 go_wp2
 go_loopw [5] (fun i wr=>Below w.heap.size w wr/\∃ k:Nat,k<=l.length/\i=.int .i64 k/\∀ j,j<k->eqV (l.getD j []) v=false) (fun i _=>l.length - (intOf i).toNat)
 ·exact⟨Below.refl _ _,0,by omega,rfl,by simp⟩
 ·
  obtain⟨aB,k,hk,rfl,aV⟩:=hrel;have H:=aa aV;clear aV;by_cases aD:k<l.length
  ·obtain⟨b1,o1,rfl,x,cx,hx⟩:=EA.o k aD;rw[Nat.mul_one]at cx;have c1:=ak aB cx;have HX:=aa (hx.up up_int aB);obtain⟨px,qx,rfl,_⟩:=hx;have he:=Hm l[k] v;rw[show eqV l[k] v=eqV (l.getD k []) v by rw[aA [] aD]]at he;have HC:=aa (lJ _ _ l[k] v wr HX.o (HV.o.up up_int aB));clear cx;generalize ordV l[k] v=r at he HC;cases hp:eqV (l.getD k []) v with
   | true=>
    rw[hp]at he;have HP:=aa hp;clear hp
    go_wp2_with fail
    refine HC.o.mono ?_;rintro e w1 ⟨rfl,aM⟩
    go_wp2_with fail
    go_ret
    exact⟨aR (by rw[HD.o,eo _ k _ aD HP.o]),ae aB aM⟩
   | false=>
    rw[hp]at he;have HP:=aa hp;clear hp
    go_wp2_with fail
    refine HC.o.mono ?_;rintro e w1 ⟨rfl,aM⟩
    go_wp2_with fail
    go_roundw
    ·exact⟨ae aB aM,k+1,by omega,by go_num,aW H.o HP.o⟩
    ·simp[intOf];omega
  ·go_wp2
   go_ret
   exact⟨aR (by rw[HD.o,eQ];intro j hj;exact H.o j (by omega)),aB⟩
theorem zY(v:Value) (l:List Int) (n most:Int) (w:World) (hv:aX w v l) :
  Calls Tryz.prog 185 #[v,.int .i64 n,.int .i64 most] w fun e w'=>e=.returned (.int .i64 (vectorE l n most))/\w=w':=by
 obtain⟨pa,ca,rfl,la1,la2,ea⟩:=hv.at;clear hv;have EA:=aa ea;clear ea;by_cases hl:(l.length:Int)=n
 ·have HV:am (vectorE l n most=if anyLt l.length (fun i=>decide (l.getD i 0<0) || decide (most<=l.getD i 0)) then 2 else 0):=by
   have h:vectorE l n most=if anyLt l.length (fun i=>decide (l.getD i 0<0) || decide (most<=l.getD i 0)) then 2 else 0:=by unfold vectorE;rw[if_neg (by simpa using hl)]
   exact h
  subst hl
  go_enter Tryz.func185,Tryz.ntmps185
  go_wp2
  go_loop [7] (fun i=>∃ k:Nat,k<=l.length/\i=.int .i64 k/\∀ j,j<k->(decide (l.getD j 0<0) || decide (most<=l.getD j 0))=false) (fun i=>l.length - (intOf i).toNat)
  ·exact⟨0,by omega,rfl,by simp⟩
  ·
   obtain⟨k,hk,rfl,aV⟩:=hrel;have H:=aa aV;clear aV;by_cases aD:k<l.length
   ·obtain⟨b1,o1,rfl,h1⟩:=EA.o k aD;have HX:=aa (aA 0 aD);rw[Nat.mul_one]at h1;have c1:=h1.1;generalize l[k]=x at c1 HX;clear h1
    go_wp2
    all_goals first
     | (go_ret
        refine⟨aF ?_,rfl⟩
        rw[HV.o,eo _ k _ aD (by rw[HX.o];go_light;simp;omega)]
        rfl)
     | (go_round
        ·
         refine⟨k+1,by omega,by go_num,aW H.o ?_⟩
         rw[HX.o]
         go_light
         simp;omega
        ·simp[intOf];omega)
   ·go_wp2
    go_ret
    exact⟨aF (by rw[HV.o,eQ];rfl;intro j hj;exact H.o j (by omega)),rfl⟩
 ·have HV:am (vectorE l n most=15):=by(have h:vectorE l n most=15:=by(unfold vectorE;rw[if_pos hl]));exact h
  have ij:((l.length:Int) != n)=true:=by simpa using hl
  clear hl
  go_enter Tryz.func185,Tryz.ntmps185
  go_wp2
  go_ret
  exact⟨aF HV.o.symm,rfl⟩
theorem Hn{t:Tk} {c:Cs} (h:c.out.length<1\/1024<c.out.length):vectorsE t c=5:=by unfold vectorsE;rw[if_pos h]
theorem xO{t:Tk} {c:Cs} (h:¬ (c.out.length<1\/1024<c.out.length)) (k:Nat) (e:Int) (hk:k<c.out.length) (hj:∀ j,j<k->jf t c j=0) (he:jf t c k=e) (h0:e≠0):e=vectorsE t c:=by
 unfold vectorsE;rw[if_neg h,<-bU k e hk hj he h0,if_pos h0]
theorem Gq{t:Tk} {c:Cs} (h:¬ (c.out.length<1\/1024<c.out.length)) (ho:∀ j,j<c.out.length->jf t c j=0):vectorsE t c=bm c.calm.length (iX c):=by
 unfold vectorsE;rw[if_neg h,cT _ _ ho];simp
theorem Ot{t:Tk} {c:Cs} {j:Nat} (hj:j+1<c.out.length) (h1:vectorE c.out[j+1] t.n t.outs=0):jf t c (j+1)=if 0<=ordV (c.out[j]'(by omega)) c.out[j+1] then 14 else 0:=by
 unfold jf unordB;rw[aA [] hj,h1,Nat.add_sub_cancel,aA [] (show j<c.out.length by omega)];simp
theorem Ou{t:Tk} {c:Cs} (hj:0<c.out.length) (h1:vectorE c.out[0] t.n t.outs=0):jf t c 0=0:=by
 unfold jf unordB;rw[aA [] hj,h1];simp
theorem Mc{c:Cs} {j:Nat} (hj:j+1<c.calm.length) (h1:hasV c.out c.calm[j+1]=true):iX c (j+1)=if 0<=ordV (c.calm[j]'(by omega)) c.calm[j+1] then 14 else 0:=by
 unfold iX unordB;rw[aA [] hj,h1,Nat.add_sub_cancel,aA [] (show j<c.calm.length by omega)];simp
theorem Md{c:Cs} (hj:0<c.calm.length) (h1:hasV c.out c.calm[0]=true):iX c 0=0:=by
 unfold iX unordB;rw[aA [] hj,h1];simp
theorem Rj{c:Cs} {k:Nat} (hk:k<c.calm.length) (h1:hasV c.out c.calm[k]=false):iX c k=6:=by
 unfold iX;rw[aA [] hk,h1];simp
theorem Rk(t:Tk) (vc:Value) (k:Nat) (aD:k<t.cases.length) (w:World) (hv:bN w vc t.cases) :
  Calls Tryz.prog 154 #[.agg #[.int .i64 t.n,.int .i64 t.ins,.int .i64 t.outs,vc],.int .i64 k] w fun e w'=>e=.returned (.int .i64 (eW t k))/\Below w.heap.size w w':=by
 obtain⟨pc,cc,rfl,l1,m1,e1⟩:=hv.at;clear hv;have E:=aa e1;clear e1;obtain⟨b1,o1,rfl,⟨x0,cx0,dq⟩,⟨x1,cx1,dA⟩,⟨x2,cx2,dW⟩⟩:=E.o k aD;have yV:=aa dq;have kJ:=aa dA;have fY:=aa dW;obtain⟨p1,q1,rfl,u1,v1,E1⟩:=dA.at;obtain⟨p2,q2,rfl,u2,v2,E2⟩:=dW.at;obtain⟨p0,q0,rfl,_⟩:=dq;have oe:=aa E1;have nr:=aa E2;clear dA dW E1 E2
 have HO:am (eW t k=if vectorE t.cases[k].inp t.n t.ins≠0 then vectorE t.cases[k].inp t.n t.ins else if 0<k/\0<=ordV (t.cases.getD (k - 1) default).inp t.cases[k].inp then 14 else vectorsE t t.cases[k]):=by
  have h:eW t k=if vectorE t.cases[k].inp t.n t.ins≠0 then vectorE t.cases[k].inp t.n t.ins else if 0<k/\0<=ordV (t.cases.getD (k - 1) default).inp t.cases[k].inp then 14 else vectorsE t t.cases[k]:=by unfold eW;rw[aA default aD]
  exact h
 have WE:b1<w.heap.size:=fo cx0;have hlb':b1<w.heap.size+1:=by omega
 go_enter Tryz.func154,Tryz.ntmps154
 go_wp2_with fail
 refine aQ (fun V=>Below w.heap.size w V/\V.heap[w.heap.size]?=some (.cells #[.int .i64 t.n,.int .i64 t.ins,.int .i64 t.outs,.slice (some ⟨b1,o1,none⟩) t.cases.length cc] 24)/\V.heap[w.heap.size+1]?=some (.cells #[.slice p0 t.cases[k].inp.length q0,.slice p1 t.cases[k].out.length q1,.slice p2 t.cases[k].calm.length q2] 135)) ⟨by go_grown,az _ (aq _ _),by simpa using aq (w.alloc _) _⟩ (fun V hV=>?_);obtain⟨kU,hT,hC⟩:=hV;have HT:=aa hT;have HC:=aa hC;have t1:=ab hT;have t2:=ab hC;clear hT hC cx1 cx2;refine(zY _ _ _ _ _ (yV.o.up up_int kU)).mono ?_;rintro e V' ⟨rfl,rfl⟩;generalize vectorE t.cases[k].inp t.n t.ins=ev at HO;by_cases mq:ev=0
 case neg=>
  have hev':(ev != 0)=true:=by simpa using mq
  go_wp2_with fail
  go_ret
  exact⟨aF (by rw[HO.o,if_pos mq]),kU⟩
 subst mq
 go_wp2_with fail
 clear t1 t2;by_cases eZ:k=0
 case' pos=>
  have eO:am (eW t k=vectorsE t t.cases[k]):=by(have h:eW t k=vectorsE t t.cases[k]:=by(rw[HO.o,if_neg (by simp),if_neg (by omega)]));exact h
  have hd:decide ((0:Int)<(k:Int))=false:=decide_eq_false (by omega);have gB:decide (0<k)=false:=decide_eq_false (by omega);clear HO eZ cx0;refine aE (by kernel_rfl) (by kernel_rfl) ?_
  repeat (go_big_quiet_step (fail))
  refine wpQuiet_nil ?_;intro _ eD;obtain⟨xq,dg⟩:=eD;subst dg;clear hd gB
 case' neg=>
  obtain⟨j,hj⟩:∃ j,k=j+1:=⟨k - 1,by omega⟩;have fJ:j<t.cases.length:=by omega
  have HJ:=aa hj;obtain⟨b2,o2,e2,⟨y0,cy0,jb⟩,_⟩:=E.o j fJ;obtain⟨rfl,rfl⟩:b1=b2/\o1=o2:=by simpa using e2
  clear e2;have hd:decide ((0:Int)<(k:Int))=true:=decide_eq_true (by omega);have gB:0<k:=by omega
  have gy:am (eW t k=if 0<=ordV t.cases[j].inp t.cases[k].inp then 14 else vectorsE t t.cases[k]):=by
   have h:eW t k=if 0<=ordV t.cases[j].inp t.cases[k].inp then 14 else vectorsE t t.cases[k]:=by
    rw[HO.o,if_neg (by simp)];have e:k - 1=j:=by omega
    rw[e,aA default fJ]
    grind
   exact h
  clear HO eZ hj;have jx:IntKind.i64.wrap ((k:Int) - 1)=(j:Int):=by rw[HJ.o];rw[IntWalk.i64_in _ (by omega)];omega
  have r1:∀ x:ExtW V,∀ o,x.val.cell? ⟨w.heap.size,o,none⟩=_:=fun x=>ab (af x.ext HT.o)
  have r2:∀ x:ExtW V,∀ o,x.val.cell? ⟨w.heap.size+1,o,none⟩=_:=fun x=>ab (af x.ext HC.o)
  have r3:∀ x:ExtW V,x.val.cell? ⟨b1,o1+j * 3,none⟩=some y0:=fun x=>x.cell (ak kU cy0)
  have bW:=aa (fun x:ExtW V=>Calls.ext_of (lJ _ _ _ _ x.val (jb.up up_int (ae kU x.ext)) (yV.o.up up_int (ae kU x.ext))));clear jb cy0 cx0;generalize ordV t.cases[j].inp t.cases[k].inp=oo at bW gy;refine aE (by kernel_rfl) (by kernel_rfl) ?_
  repeat (go_big_quiet_step ((go_at_call 132;exact bW.o _)))
  refine wpQuiet_nil ?_;intro _ eD;obtain⟨xq,dg⟩:=eD;subst dg;clear r1 r2 r3 hd gB jx;by_cases qW:0<=oo
  ·go_wp2_with fail
   go_ret
   exact⟨aF (by rw[gy.o,if_pos qW]),ae kU xq.ext⟩
  have eO:am (eW t k=vectorsE t t.cases[k]):=by(have h:eW t k=vectorsE t t.cases[k]:=by(rw[gy.o,if_neg qW]));exact h
  clear gy HJ bW
 all_goals
  have FT:=ae kU xq.ext;have dG:=FT;have Gi:=af xq.ext HT.o;have Ud:=af xq.ext HC.o;clear FT HT HC;generalize xq.val=W5 at dG Gi Ud ⊢;clear xq kU;have HT:=aa Gi;have HC:=aa Ud;have t1:=ab Gi;have t2:=ab Ud;clear Gi Ud;by_cases Lg:t.cases[k].out.length<1\/1024<t.cases[k].out.length
  ·have HR:=aa (Hn (t:=t) Lg);rcases Lg with Lg|Lg
   ·go_wp2_with fail
    go_ret
    exact⟨aF (by rw[eO.o,HR.o]),dG⟩
   ·have hou':¬ t.cases[k].out.length<1:=by omega
    go_wp2_with fail
    go_ret
    exact⟨aF (by rw[eO.o,HR.o]),dG⟩
  have XG:=aa Lg;have ho1:¬ t.cases[k].out.length<1:=by omega
  have rP:¬ 1024<t.cases[k].out.length:=by omega
  clear Lg
  go_wp2_with fail
  clear t1 t2 ho1 rP
  go_loopw [7] (fun i wr=>Below W5.heap.size W5 wr/\∃ m:Nat,m<=t.cases[k].out.length/\i=.int .i64 m/\∀ j,j<m->jf t t.cases[k] j=0) (fun i _=>t.cases[k].out.length - (intOf i).toNat)
  ·exact⟨Below.refl _ _,0,by omega,rfl,by simp⟩
  ·
   obtain⟨By,m,hm,rfl,aV⟩:=hrel;have HM:=aa aV;clear aV;have aB:=ae dG By;have t1:=ab (af By HT.o);have t2:=ab (af By HC.o);by_cases ml:m<t.cases[k].out.length
   ·obtain⟨b3,o3,rfl,y,cy,hy⟩:=oe.o m ml;rw[Nat.mul_one]at cy;have HY:=aa hy
    go_wp2_with fail
    clear t1 t2;have r1:∀ x:ExtW wr,∀ o,x.val.cell? ⟨w.heap.size,o,none⟩=_:=fun x=>ab (af (ae By x.ext) HT.o)
    have r2:∀ x:ExtW wr,∀ o,x.val.cell? ⟨w.heap.size+1,o,none⟩=_:=fun x=>ab (af (ae By x.ext) HC.o)
    have r3:∀ x:ExtW wr,x.val.cell? ⟨b3,o3+m,none⟩=some y:=fun x=>x.cell (ak aB cy)
    have bW:=aa (fun x:ExtW wr=>Calls.ext_of ((zY _ _ t.n t.outs x.val (HY.o.up up_int (ae aB x.ext))).mono (fun _ _ ⟨h1,h2⟩=>⟨h1,h2 ▸ Below.refl _ _⟩)));have HZ:=aa (fun (h:vectorE t.cases[k].out[m] t.n t.outs≠0)=>show jf t t.cases[k] m=vectorE t.cases[k].out[m] t.n t.outs by unfold jf;rw[aA [] ml,if_pos h]);generalize qH:vectorE t.cases[k].out[m] t.n t.outs=em at bW HZ;have vP:=aa qH;clear qH hy;have cyy:=cy;clear cy;refine aE (by kernel_rfl) (by kernel_rfl) ?_
    repeat (go_big_quiet_step ((go_at_call 185;exact bW.o _)))
    refine wpQuiet_nil ?_;intro _ eD;obtain⟨xs,dg⟩:=eD;subst dg;clear r1 r2 r3 bW;have Nf:=ae By xs.ext;have Ei:=ae aB xs.ext;by_cases vR:em=0
    case neg=>
     have hem':(em != 0)=true:=by simpa using vR
     go_wp2_with fail
     go_ret
     exact⟨aF (by rw[eO.o];exact xO XG.o m em ml HM.o (HZ.o vR) vR),Ei⟩
    subst vR
    go_wp2_with fail
    by_cases vM:m=0
    ·subst vM;have zd:=aa (Ou ml vP.o);refine aE (by kernel_rfl) (by kernel_rfl) ?_
     repeat (go_big_quiet_step (fail))
     refine wpQuiet_nil ?_;intro _ eD;obtain⟨xt,dg⟩:=eD;subst dg
     go_wp2_with fail
     go_roundw
     ·exact⟨ae Nf xt.ext,1,by omega,by go_num,aW HM.o zd.o⟩
     ·simp[intOf];omega
    ·obtain⟨j,rfl⟩:∃ j,m=j+1:=⟨m - 1,by omega⟩;have zd:=aa (Ot ml vP.o);obtain⟨b4,o4,e4,z,cz,hz⟩:=oe.o j (by omega);obtain⟨rfl,rfl⟩:b3=b4/\o3=o4:=by simpa using e4
     rw[Nat.mul_one]at cz;have r1:∀ x:ExtW xs.val,∀ o,x.val.cell? ⟨w.heap.size,o,none⟩=_:=fun x=>ab (af (ae Nf x.ext) HT.o)
     have r2:∀ x:ExtW xs.val,∀ o,x.val.cell? ⟨w.heap.size+1,o,none⟩=_:=fun x=>ab (af (ae Nf x.ext) HC.o)
     have r3:∀ x:ExtW xs.val,x.val.cell? ⟨b3,o3+(j+1),none⟩=some y:=fun x=>x.cell (ak Ei cyy)
     have r4:∀ x:ExtW xs.val,x.val.cell? ⟨b3,o3+j,none⟩=some z:=fun x=>x.cell (ak Ei cz)
     have bW:=aa (fun x:ExtW xs.val=>Calls.ext_of (lJ _ _ _ _ x.val (hz.up up_int (ae Ei x.ext)) (HY.o.up up_int (ae Ei x.ext))));have Ur:IntKind.i64.wrap (j:Int)=(j:Int):=IntWalk.i64_in _ (by omega);have kX:decide ((0:Int)<(j:Int)+1)=true:=decide_eq_true (by omega);have xp:(0:Int)<=(j:Int)+1:=by omega
     have FR:(j:Int)+1<(t.cases[k].out.length:Int):=by omega
     have AC:((j:Int)+1).toNat=j+1:=by omega
     generalize ordV t.cases[k].out[j] t.cases[k].out[j+1]=oo at bW zd;clear e4 hz cz cyy vM;refine aE (by kernel_rfl) (by kernel_rfl) ?_
     repeat (go_big_quiet_step ((go_at_call 132;exact bW.o _)))
     refine wpQuiet_nil ?_;intro _ eD;obtain⟨xt,dg⟩:=eD;subst dg;clear r1 r2 r3 r4 Ur kX xp FR AC;by_cases qW:0<=oo
     ·go_wp2_with fail
      go_ret
      exact⟨aF (by rw[eO.o];exact xO XG.o (j+1) 14 ml HM.o (by rw[zd.o,if_pos qW]) (by decide)),ae Ei xt.ext⟩
     ·go_wp2_with fail
      go_roundw
      ·exact⟨ae Nf xt.ext,j+1+1,by omega,by go_num,aW HM.o (by rw[zd.o,if_neg (by omega)])⟩
      ·simp[intOf];omega
   ·have lT:=aa (eO.o.trans (Gq XG.o (fun j hj=>HM.o j (by omega))))
    go_wp2_with fail
    clear t1 t2
    go_loopw [9] (fun i ws=>Below wr.heap.size wr ws/\∃ q:Nat,q<=t.cases[k].calm.length/\i=.int .i64 q/\∀ j,j<q->iX t.cases[k] j=0) (fun i _=>t.cases[k].calm.length - (intOf i).toNat)
    ·exact⟨Below.refl _ _,0,by omega,rfl,by simp⟩
    ·
     obtain⟨lY,q,hq,rfl,aV⟩:=hrel;have HQ:=aa aV;clear aV;have se:=ae By lY;have ie:=ae aB lY
     rename World=>ws
     have t2:=ab (af se HC.o);by_cases oD:q<t.cases[k].calm.length
     ·obtain⟨b6,o6,rfl,y,cy,hy⟩:=nr.o q oD;rw[Nat.mul_one]at cy;have HY:=aa hy
      go_wp2_with fail
      clear t2;have r2:∀ x:ExtW ws,∀ o,x.val.cell? ⟨w.heap.size+1,o,none⟩=_:=fun x=>ab (af (ae se x.ext) HC.o)
      have r3:∀ x:ExtW ws,x.val.cell? ⟨b6,o6+q,none⟩=some y:=fun x=>x.cell (ak ie cy)
      have bW:=aa (fun x:ExtW ws=>Calls.ext_of (ER _ _ t.cases[k].out _ x.val (kJ.o.up up_ints (ae ie x.ext)) (HY.o.up up_int (ae ie x.ext))));cases qH:hasV t.cases[k].out t.cases[k].calm[q] with
      | false=>
       rw[qH]at bW;have HZ:=aa (Rj oD qH);clear qH hy cy;refine aE (by kernel_rfl) (by kernel_rfl) ?_
       repeat (go_big_quiet_step ((go_at_call 81;exact bW.o _)))
       refine wpQuiet_nil ?_;intro _ eD;obtain⟨xu,dg⟩:=eD;subst dg;clear r2 r3 bW
       go_wp2_with fail
       go_ret
       exact⟨aF (by rw[lT.o];exact bU q 6 oD HQ.o HZ.o (by decide)),ae ie xu.ext⟩
      | true=>
       rw[qH]at bW;have vP:=aa qH;clear qH hy;have cyy:=cy;clear cy;refine aE (by kernel_rfl) (by kernel_rfl) ?_
       repeat (go_big_quiet_step ((go_at_call 81;exact bW.o _)))
       refine wpQuiet_nil ?_;intro _ eD;obtain⟨xs,dg⟩:=eD;subst dg;clear r2 r3 bW;have hbs6:=ae lY xs.ext;have hbs6':=ae se xs.ext;have JJ:=ae ie xs.ext
       go_wp2_with fail
       by_cases vM:q=0
       ·subst vM;have zd:=aa (Md oD vP.o);refine aE (by kernel_rfl) (by kernel_rfl) ?_
        repeat (go_big_quiet_step (fail))
        refine wpQuiet_nil ?_;intro _ eD;obtain⟨xt,dg⟩:=eD;subst dg
        go_wp2_with fail
        go_roundw
        ·exact⟨ae hbs6 xt.ext,1,by omega,by go_num,aW HQ.o zd.o⟩
        ·simp[intOf];omega
       ·obtain⟨j,rfl⟩:∃ j,q=j+1:=⟨q - 1,by omega⟩;have zd:=aa (Mc oD vP.o);obtain⟨b4,o4,e4,z,cz,hz⟩:=nr.o j (by omega);obtain⟨rfl,rfl⟩:b6=b4/\o6=o4:=by simpa using e4
        rw[Nat.mul_one]at cz;have r2:∀ x:ExtW xs.val,∀ o,x.val.cell? ⟨w.heap.size+1,o,none⟩=_:=fun x=>ab (af (ae hbs6' x.ext) HC.o)
        have r3:∀ x:ExtW xs.val,x.val.cell? ⟨b6,o6+(j+1),none⟩=some y:=fun x=>x.cell (ak JJ cyy)
        have r4:∀ x:ExtW xs.val,x.val.cell? ⟨b6,o6+j,none⟩=some z:=fun x=>x.cell (ak JJ cz)
        have bW:=aa (fun x:ExtW xs.val=>Calls.ext_of (lJ _ _ _ _ x.val (hz.up up_int (ae JJ x.ext)) (HY.o.up up_int (ae JJ x.ext))));have Ur:IntKind.i64.wrap (j:Int)=(j:Int):=IntWalk.i64_in _ (by omega);have kX:decide ((0:Int)<(j:Int)+1)=true:=decide_eq_true (by omega);have xp:(0:Int)<=(j:Int)+1:=by omega
        have FR:(j:Int)+1<(t.cases[k].calm.length:Int):=by omega
        have AC:((j:Int)+1).toNat=j+1:=by omega
        generalize ordV t.cases[k].calm[j] t.cases[k].calm[j+1]=oo at bW zd;clear e4 hz cz cyy vM;refine aE (by kernel_rfl) (by kernel_rfl) ?_
        repeat (go_big_quiet_step ((go_at_call 132;exact bW.o _)))
        refine wpQuiet_nil ?_;intro _ eD;obtain⟨xt,dg⟩:=eD;subst dg;clear r2 r3 r4 Ur kX xp FR AC;by_cases qW:0<=oo
        ·go_wp2_with fail
         go_ret
         exact⟨aF (by rw[lT.o];exact bU (j+1) 14 oD HQ.o (by rw[zd.o,if_pos qW]) (by decide)),ae JJ xt.ext⟩
        ·go_wp2_with fail
         go_roundw
         ·exact⟨ae hbs6 xt.ext,j+1+1,by omega,by go_num,aW HQ.o (by rw[zd.o,if_neg (by omega)])⟩
         ·simp[intOf];omega
     ·go_wp2_with fail
      go_ret
      exact⟨aF (by rw[lT.o,cT];intro j hj;exact HQ.o j (by omega)),ie⟩
theorem DG(t:Tk) (vc:Value) (w:World) (hv:bN w vc t.cases) :
  Calls Tryz.prog 114 #[.agg #[.int .i64 t.n,.int .i64 t.ins,.int .i64 t.outs,vc]] w fun e w'=>e=.returned (.int .i64 (taskE t))/\Below w.heap.size w w':=by
 have G:=aa hv;obtain⟨pc,cc,rfl,l1,m1,_⟩:=hv.at;clear hv;by_cases c0:t.n<1
 ·have HR:am (taskE t=2):=by(have h:taskE t=2:=by(unfold taskE;rw[if_pos (by omega)]));exact h
  go_enter Tryz.func114,Tryz.ntmps114
  go_wp2
  go_ret
  exact⟨aF HR.o.symm,by go_grown⟩
 by_cases c1:5<t.n
 ·have HR:am (taskE t=2):=by(have h:taskE t=2:=by(unfold taskE;rw[if_pos (by omega)]));exact h
  go_enter Tryz.func114,Tryz.ntmps114
  go_wp2
  go_ret
  exact⟨aF HR.o.symm,by go_grown⟩
 by_cases c2:t.ins<1
 ·have HR:am (taskE t=2):=by(have h:taskE t=2:=by(unfold taskE;rw[if_pos (by omega)]));exact h
  go_enter Tryz.func114,Tryz.ntmps114
  go_wp2
  go_ret
  exact⟨aF HR.o.symm,by go_grown⟩
 by_cases c3:8<t.ins
 ·have HR:am (taskE t=2):=by(have h:taskE t=2:=by(unfold taskE;rw[if_pos (by omega)]));exact h
  go_enter Tryz.func114,Tryz.ntmps114
  go_wp2
  go_ret
  exact⟨aF HR.o.symm,by go_grown⟩
 by_cases c4:t.outs<1
 ·have HR:am (taskE t=2):=by(have h:taskE t=2:=by(unfold taskE;rw[if_pos (by omega)]));exact h
  go_enter Tryz.func114,Tryz.ntmps114
  go_wp2
  go_ret
  exact⟨aF HR.o.symm,by go_grown⟩
 by_cases c5:8<t.outs
 ·have HR:am (taskE t=2):=by(have h:taskE t=2:=by(unfold taskE;rw[if_pos (by omega)]));exact h
  go_enter Tryz.func114,Tryz.ntmps114
  go_wp2
  go_ret
  exact⟨aF HR.o.symm,by go_grown⟩
 by_cases d0:t.cases.length<1
 ·have HR:am (taskE t=5):=by(have h:taskE t=5:=by(unfold taskE;rw[if_neg (by omega),if_pos (by omega)]));exact h
  go_enter Tryz.func114,Tryz.ntmps114
  go_wp2
  go_ret
  exact⟨aF HR.o.symm,by go_grown⟩
 by_cases d1:1024<t.cases.length
 ·have HR:am (taskE t=5):=by(have h:taskE t=5:=by(unfold taskE;rw[if_neg (by omega),if_pos (by omega)]));exact h
  go_enter Tryz.func114,Tryz.ntmps114
  go_wp2
  go_ret
  exact⟨aF HR.o.symm,by go_grown⟩
 have HV:am (taskE t=bm t.cases.length (eW t)):=by(have h:taskE t=bm t.cases.length (eW t):=by(unfold taskE;rw[if_neg (by omega),if_neg (by omega)]));exact h
 go_enter Tryz.func114,Tryz.ntmps114
 go_wp2
 refine bF (fun W=>Below w.heap.size w W/\W.heap[w.heap.size]?=some (.cells #[.int .i64 t.n,.int .i64 t.ins,.int .i64 t.outs,.slice pc t.cases.length cc] 24)) ⟨by go_grown,aq _ _⟩ (fun W0 bh=>?_);obtain⟨aJ,bK⟩:=bh;have HA:=aa bK;clear bK c0 c1 c2 c3 c4 c5 d0 d1
 go_loopw [3] (fun i wr=>Below W0.heap.size W0 wr/\∃ k:Nat,k<=t.cases.length/\i=.int .i64 k/\∀ j,j<k->eW t j=0) (fun i _=>t.cases.length - (intOf i).toNat)
 ·exact⟨Below.refl _ _,0,by omega,rfl,by simp⟩
 ·
  obtain⟨iW,k,hk,rfl,aV⟩:=hrel;have H:=aa aV;clear aV;have aB:=ae aJ iW;have t1:=ab (af iW HA.o);by_cases aD:k<t.cases.length
  ·have HC:=aa (Rk t _ k aD wr (G.o.up up_case aB));generalize qH:eW t k=ek at HC;have vP:=aa qH;clear qH;by_cases tU:ek=0
   ·subst tU
    go_wp2_with fail
    refine HC.o.mono ?_;rintro e w1 ⟨rfl,aM⟩
    go_wp2_with fail
    go_roundw
    ·exact⟨ae iW aM,k+1,by omega,by go_num,aW H.o vP.o⟩
    ·simp[intOf];omega
   ·have Tb:(ek != 0)=true:=by simpa using tU
    go_wp2_with fail
    refine HC.o.mono ?_;rintro e w1 ⟨rfl,aM⟩
    go_wp2_with fail
    go_ret
    exact⟨aF (by rw[HV.o];exact bU k ek aD H.o vP.o tU),ae aB aM⟩
  ·go_wp2
   go_ret
   exact⟨aF (by rw[HV.o,cT];intro j hj;exact H.o j (by omega)),aB⟩
def fewVB(l:List (List Int)):Bool:=!decide (30<l.length)&&!anyLt l.length fun i=>decide (10<(l.getD i []).length)
theorem sA(v:Value) (l:List (List Int)) (w:World) (hv:ef w v l) :
  Calls Tryz.prog 112 #[v,.int .i64 30] w fun e w'=>e=.returned (.bool (fewVB l))/\w=w':=by
 obtain⟨pa,ca,rfl,la1,la2,ea⟩:=hv.at;clear hv;have EA:=aa ea;clear ea;by_cases hl:30<l.length
 ·have HV:am (fewVB l=false):=by(have h:fewVB l=false:=by(unfold fewVB;simp[hl]));exact h
  go_enter Tryz.func112,Tryz.ntmps112
  go_wp2
  go_ret
  exact⟨aR HV.o.symm,rfl⟩
 ·have HV:am (fewVB l=!anyLt l.length fun i=>decide (10<(l.getD i []).length)):=by(have h:fewVB l=!anyLt l.length fun i=>decide (10<(l.getD i []).length):=by(unfold fewVB;rw[decide_eq_false hl];rfl));exact h
  go_enter Tryz.func112,Tryz.ntmps112
  go_wp2
  go_loop [5] (fun i=>∃ k:Nat,k<=l.length/\i=.int .i64 k/\∀ j,j<k->decide (10<(l.getD j []).length)=false) (fun i=>l.length - (intOf i).toNat)
  ·exact⟨0,by omega,rfl,by simp⟩
  ·
   obtain⟨k,hk,rfl,aV⟩:=hrel;have H:=aa aV;clear aV;by_cases aD:k<l.length
   ·obtain⟨b1,o1,rfl,x,cx,hx⟩:=EA.o k aD;rw[Nat.mul_one]at cx;have HX:=aa (aA [] aD);obtain⟨px,qx,rfl,_,dW,_⟩:=hx;generalize l[k]=y at cx HX dW;by_cases xh:10<y.length
    ·go_wp2
     go_ret
     exact⟨aR (by rw[HV.o,eo _ k _ aD (by rw[HX.o];exact decide_eq_true xh)];rfl),rfl⟩
    ·go_wp2
     go_round
     ·exact⟨k+1,by omega,by go_num,aW H.o (by rw[HX.o];exact decide_eq_false (by omega))⟩
     ·simp[intOf];omega
   ·go_wp2
    go_ret
    exact⟨aR (by rw[HV.o,eQ];rfl;intro j hj;exact H.o j (by omega)),rfl⟩
def Ho(c:Cs):Bool:=decide (10<c.inp.length) || !fewVB c.out || !fewVB c.calm
def fewTB(t:Tk):Bool:=!decide (30<t.cases.length)&&!anyLt t.cases.length fun i=>Ho (t.cases.getD i default)
theorem Hp(t:Tk) (vc:Value) (w:World) (hv:bN w vc t.cases) :
  Calls Tryz.prog 69 #[.agg #[.int .i64 t.n,.int .i64 t.ins,.int .i64 t.outs,vc]] w fun e w'=>e=.returned (.bool (fewTB t))/\Below w.heap.size w w':=by
 obtain⟨pc,cc,rfl,l1,m1,e1⟩:=hv.at;clear hv;have E:=aa e1;clear e1;by_cases hl:30<t.cases.length
 ·have HV:am (fewTB t=false):=by(have h:fewTB t=false:=by(unfold fewTB;simp[hl]));exact h
  go_enter Tryz.func69,Tryz.ntmps69
  go_wp2
  go_ret
  exact⟨aR HV.o.symm,by go_grown⟩
 ·have HV:am (fewTB t=!anyLt t.cases.length fun i=>Ho (t.cases.getD i default)):=by(have h:fewTB t=!anyLt t.cases.length fun i=>Ho (t.cases.getD i default):=by(unfold fewTB;rw[decide_eq_false hl];rfl));exact h
  go_enter Tryz.func69,Tryz.ntmps69
  go_wp2
  refine bF (fun W=>Below w.heap.size w W/\W.heap[w.heap.size]?=some (.cells #[.int .i64 t.n,.int .i64 t.ins,.int .i64 t.outs,.slice pc t.cases.length cc] 24)) ⟨by go_grown,aq _ _⟩ (fun W0 bh=>?_);obtain⟨aJ,bK⟩:=bh;have HA:=aa bK;clear bK hl
  go_loopw [3] (fun i wr=>Below W0.heap.size W0 wr/\∃ k:Nat,k<=t.cases.length/\i=.int .i64 k/\∀ j,j<k->Ho (t.cases.getD j default)=false) (fun i _=>t.cases.length - (intOf i).toNat)
  ·exact⟨Below.refl _ _,0,by omega,rfl,by simp⟩
  ·
   obtain⟨iW,k,hk,rfl,aV⟩:=hrel;have H:=aa aV;clear aV;have aB:=ae aJ iW;have t1:=ab (af iW HA.o);by_cases aD:k<t.cases.length
   ·obtain⟨b1,o1,rfl,⟨x0,cx0,dq⟩,⟨x1,cx1,dA⟩,⟨x2,cx2,dW⟩⟩:=E.o k aD;have d0:=ak aB cx0;have d1:=ak aB cx1;have d2:=ak aB cx2;have HX:=aa (aA default aD);have AV:=aa (fun W (hb:Below w.heap.size w W)=>sA _ _ W (dA.up up_ints hb));have kb:=aa (fun W (hb:Below w.heap.size w W)=>sA _ _ W (dW.up up_ints hb));obtain⟨p0,q0,rfl,_,h0l,_⟩:=dq;obtain⟨p1,q1,rfl,_⟩:=dA;obtain⟨p2,q2,rfl,_⟩:=dW;have eM:=aC (af iW HA.o);clear cx0 cx1 cx2;have HB:am (Ho t.cases[k]=(decide (10<t.cases[k].inp.length) || !fewVB t.cases[k].out || !fewVB t.cases[k].calm)):=by exact rfl
    generalize fewVB t.cases[k].out=f1 at AV HB;generalize fewVB t.cases[k].calm=f2 at kb HB;have oI:Below wr.heap.size wr (wr.alloc (.cells #[.slice p0 t.cases[k].inp.length q0,.slice p1 t.cases[k].out.length q1,.slice p2 t.cases[k].calm.length q2] 135)):=by go_grown
    have yP:=ae aB oI;have AS:=aa oI;clear oI;by_cases xh:10<t.cases[k].inp.length
    ·go_wp2_with fail
     go_ret
     exact⟨aR (by rw[HV.o,eo _ k _ aD (by rw[HX.o,HB.o,decide_eq_true xh];rfl)];rfl),yP⟩
    ·have SM:am (decide (10<t.cases[k].inp.length)=false):=by(have h:=decide_eq_false xh);exact h
     cases f1 with
     | false=>
      go_wp2_with fail
      refine(AV.o _ yP).mono ?_;rintro e w1 ⟨rfl,rfl⟩
      go_wp2_with fail
      go_ret
      exact⟨aR (by rw[HV.o,eo _ k _ aD (by rw[HX.o,HB.o,SM.o];rfl)];rfl),yP⟩
     | true=>
      cases f2 with
      | false=>
       go_wp2_with fail
       refine(AV.o _ yP).mono ?_;rintro e w1 ⟨rfl,rfl⟩
       go_wp2_with fail
       refine(kb.o _ yP).mono ?_;rintro e w1 ⟨rfl,rfl⟩
       go_wp2_with fail
       go_ret
       exact⟨aR (by rw[HV.o,eo _ k _ aD (by rw[HX.o,HB.o,SM.o];rfl)];rfl),yP⟩
      | true=>
       go_wp2_with fail
       refine(AV.o _ yP).mono ?_;rintro e w1 ⟨rfl,rfl⟩
       go_wp2_with fail
       refine(kb.o _ yP).mono ?_;rintro e w1 ⟨rfl,rfl⟩
       go_wp2_with fail
       go_roundw
       ·exact⟨ae iW AS.o,k+1,by omega,by go_num,aW H.o (by rw[HX.o,HB.o,SM.o];rfl)⟩
       ·simp[intOf];omega
   ·go_wp2
    go_ret
    exact⟨aR (by rw[HV.o,eQ];rfl;intro j hj;exact H.o j (by omega)),aB⟩
abbrev Gr.c(g:Gr):Array Value:=#[.int .i64 g.n,.int .i64 g.h0,.int .i64 g.h1,.int .i64 g.h2,.int .i64 g.h3,.int .i64 g.h4]
theorem BR(g:Gr) (w:World) :
  Calls Tryz.prog 208 #[g.v] w fun e w'=>e=.returned (.int .i64 (gN g))/\Below w.heap.size w w':=by
 by_cases hn:g.n<1\/5<g.n
 ·have H:am (gN g=2):=by(have h:gN g=2:=by(unfold gN;rw[if_pos hn]));exact h
  rcases hn with hn|hn
  ·go_enter Tryz.func208,Tryz.ntmps208
   go_wp2
   go_ret;exact⟨aF H.o.symm,by go_grown⟩
  ·have yR:¬ g.n<1:=by omega
   go_enter Tryz.func208,Tryz.ntmps208
   go_wp2
   go_ret;exact⟨aF H.o.symm,by go_grown⟩
 have jV:1<=g.n:=by omega
 have oz:g.n<=5:=by omega
 have HE:am (gN g=bm 5 fun p=>mz g.n (g.hear p) p):=by(have h:gN g=bm 5 fun p=>mz g.n (g.hear p) p:=by(unfold gN;rw[if_neg hn]));exact h
 clear hn;have hn3:¬ g.n<1:=by omega
 have hn4:¬ 5<g.n:=by omega
 go_enter Tryz.func208,Tryz.ntmps208
 go_wp2
 refine bF (fun W=>Below w.heap.size w W/\W.heap[w.heap.size]?=some (.cells g.c 139)) ⟨by go_grown,aq _ _⟩ (fun W0 bh=>?_);obtain⟨aJ,hA⟩:=bh;have HA:=aa hA;have t1:=ab hA 0;simp at t1;clear hA
 go_loop [3] (fun i=>∃ k:Nat,k<=5/\i=.int .i64 k/\∀ j,j<k->mz g.n (g.hear j) j=0) (fun i=>5 - (intOf i).toNat)
 ·exact⟨0,by omega,rfl,by simp⟩
 ·
  obtain⟨k,hk,rfl,aV⟩:=hrel;have H:=aa aV;clear aV;by_cases aD:k<5
  ·have hx:=mY g k aD W0 _ HA.o;obtain⟨x,lF⟩:∃ x,x=g.hear k:=⟨_,rfl⟩;rw[<-lF]at hx;have HX:=aa lF;clear lF;obtain⟨m,hm⟩:∃ m:Nat,g.n=m:=⟨g.n.toNat,by omega⟩;have hp:=zu m (by omega);have HC:=aa (fun w=>EQ m (by omega) w)
   have HV:am (mz g.n x k=if (m:Int)<=k then(if x≠0 then 3 else 0) else if x<0\/2 ^ m - 1<x then 2 else if hasB x k then 0 else 3):=by
    have h:mz g.n x k=if (m:Int)<=k then(if x≠0 then 3 else 0) else if x<0\/2 ^ m - 1<x then 2 else if hasB x k then 0 else 3:=by
     unfold mz;rw[hm,Int.toNat_natCast]
    exact h
   rw[hm]at t1;rw[hm]at jV oz;have HM:=aa hm;generalize (2:Int) ^ m=y at hp HC HV;clear hm hn3 hn4;by_cases gc:(m:Int)<=k
   ·go_wp2
    ·go_ret
     refine⟨aF ?_,aJ⟩;rw[HE.o]
     go_light
     refine bU k _ aD H.o ?_ (by decide);rw[<-HX.o,HV.o]
     grind
    ·go_round
     ·
      refine⟨k+1,by omega,by go_num,aW H.o ?_⟩
      go_light
      rw[<-HX.o,HV.o]
      grind
     ·simp[intOf];omega
   ·by_cases lF:x<0\/y - 1<x
    ·have hq:∀ z,z=2->z=gN g:=fun z hz=>by
      subst hz;rw[HE.o];refine bU k _ aD H.o ?_ (by decide);rw[<-HX.o,HV.o,if_neg gc,if_pos lF]
     have HQ:=aa hq;clear hq;rcases lF with lF|lF
     ·go_wp2
      go_ret
      exact⟨aF (HQ.o _ rfl),aJ⟩
     ·have dq:¬ x<0:=by omega
      go_wp2_with (go_at_call 60;refine(HC.o _).mono ?_;rintro e w' ⟨rfl,rfl⟩)
      go_ret
      exact⟨aF (HQ.o _ rfl),aJ⟩
    ·have dq:¬ x<0:=by omega
     have dA:¬ y - 1<x:=by omega
     have kb:=aa (fun w=>mM x k (by omega) (by omega) (by omega) w);cases hb:hasB x k with
     | true=>
      rw[hb]at kb HV;have X8:=aa lF;clear hb lF
      go_wp2_with (first|(go_at_call 60;refine(HC.o _).mono ?_;rintro e w' ⟨rfl,rfl⟩)|(go_at_call 47;refine(kb.o _).mono ?_;rintro e w' ⟨rfl,rfl⟩))
      go_round
      ·
       refine⟨k+1,by omega,by go_num,aW H.o ?_⟩;rw[<-HX.o,HV.o,if_neg (by omega),if_neg (by omega)];rfl
      ·simp[intOf];omega
     | false=>
      rw[hb]at kb HV;have X8:=aa lF;clear hb lF
      go_wp2_with (first|(go_at_call 60;refine(HC.o _).mono ?_;rintro e w' ⟨rfl,rfl⟩)|(go_at_call 47;refine(kb.o _).mono ?_;rintro e w' ⟨rfl,rfl⟩))
      go_ret
      refine⟨aF ?_,aJ⟩;rw[HE.o];refine bU k _ aD H.o ?_ (by decide);rw[<-HX.o,HV.o,if_neg (by omega),if_neg (by omega)];rfl
  ·go_wp2
   go_ret;exact⟨aF (by rw[HE.o,cT];intro j hj;exact H.o j (by omega)),aJ⟩
theorem Ov{a b:Gr} (h:a.n<b.n):fw a b=-1:=by unfold fw cmpI;grind
theorem Ow{a b:Gr} (h:b.n<a.n):fw a b=1:=by unfold fw cmpI;grind
theorem Ox{a b:Gr} (h:a.n=b.n):fw a b=bm 5 fun p=>cmpI (a.hear p) (b.hear p):=by unfold fw;rw[h,p9];simp
theorem zM(a b:Gr) (w:World) :
  Calls Tryz.prog 210 #[a.v,b.v] w fun e w'=>e=.returned (.int .i64 (fw a b))/\Below w.heap.size w w':=by
 rcases Int.lt_trichotomy a.n b.n with hn|hn|hn
 ·have H:=aa (Ov hn)
  go_enter Tryz.func210,Tryz.ntmps210
  go_wp2
  go_ret;exact⟨aF H.o.symm,by go_grown⟩
 ·have HC:=aa (Ox hn);have h1:¬ a.n<b.n:=by omega
  have h2:¬ b.n<a.n:=by omega
  clear hn
  go_enter Tryz.func210,Tryz.ntmps210
  go_wp2
  refine bF (fun W=>Below w.heap.size w W/\W.heap[w.heap.size]?=some (.cells a.c 139)/\W.heap[w.heap.size+1]?=some (.cells b.c 139))
   ⟨by go_grown,az _ (aq _ _),by have:=aq (w.alloc (.cells a.c 139));rw[World.size_alloc]at this;exact this _⟩ (fun W0 bh=>?_)
  obtain⟨aJ,hA,hB⟩:=bh;have HA:=aa hA;clear hA;have HB:=aa hB;clear hB;clear h1 h2
  go_loopw [5] (fun i wr=>Below W0.heap.size W0 wr/\∃ k:Nat,k<=5/\i=.int .i64 k/\∀ j,j<k->cmpI (a.hear j) (b.hear j)=0) (fun i _=>5 - (intOf i).toNat)
  ·exact⟨Below.refl _ _,0,by omega,rfl,by simp⟩
  ·
   obtain⟨aB,k,hk,rfl,aV⟩:=hrel;have H:=aa aV;clear aV;by_cases aD:k<5
   ·have c1:∀ n,(wr.drewN n).cell? ⟨w.heap.size,1+k,none⟩=some (.int .i64 (a.hear k)):=fun n=>mY a k aD wr _ (af aB HA.o)
    have c2:∀ n,(wr.drewN n).cell? ⟨w.heap.size+1,1+k,none⟩=some (.int .i64 (b.hear k)):=fun n=>mY b k aD wr _ (af aB HB.o)
    have HV:am (cmpI (a.hear k) (b.hear k)=if a.hear k<b.hear k then -1 else if b.hear k<a.hear k then 1 else 0):=by exact rfl
    generalize hx:a.hear k=x at c1 HV;generalize hy:b.hear k=y at c2 HV;have HX:=aa hx;clear hx;have HY:=aa hy;clear hy;rcases Int.lt_trichotomy x y with hn|hn|hn
    ·go_wp2
     go_quiet (fail)
     go_wp2
     go_ret
     refine⟨aF ?_,eE (ae aJ aB) _⟩;rw[HC.o];refine bU k _ aD H.o ?_ (by decide);rw[HX.o,HY.o,HV.o,if_pos hn]
    ·have h1:¬ x<y:=by omega
     have h2:¬ y<x:=by omega
     clear hn
     go_wp2
     go_quiet (fail)
     go_wp2
     have c3:∀ m n,((wr.drewN m).drewN n).cell? ⟨w.heap.size,1+k,none⟩=some (.int .i64 x):=fun m n=>c1 m
     have c4:∀ m n,((wr.drewN m).drewN n).cell? ⟨w.heap.size+1,1+k,none⟩=some (.int .i64 y):=fun m n=>c2 m
     go_quiet (fail)
     go_wp2
     go_roundw
     ·
      refine⟨eE aB _,k+1,by omega,by go_num,aW H.o ?_⟩;rw[HX.o,HY.o,HV.o,if_neg (by omega),if_neg (by omega)]
     ·simp[intOf];omega
    ·have h1:¬ x<y:=by omega
     go_wp2
     go_quiet (fail)
     go_wp2
     have c3:∀ m n,((wr.drewN m).drewN n).cell? ⟨w.heap.size,1+k,none⟩=some (.int .i64 x):=fun m n=>c1 m
     have c4:∀ m n,((wr.drewN m).drewN n).cell? ⟨w.heap.size+1,1+k,none⟩=some (.int .i64 y):=fun m n=>c2 m
     go_quiet (fail)
     go_wp2
     go_ret
     refine⟨aF ?_,eE (eE (ae aJ aB) _) _⟩;rw[HC.o];refine bU k _ aD H.o ?_ (by decide);rw[HX.o,HY.o,HV.o,if_neg (by omega),if_pos hn]
   ·go_wp2
    go_ret;exact⟨aF (by rw[HC.o,cT];intro j hj;exact H.o j (by omega)),ae aJ aB⟩
 ·have H:=aa (Ow hn);have h1:¬ a.n<b.n:=by omega
  go_enter Tryz.func210,Tryz.ntmps210
  go_wp2
  go_ret;exact⟨aF H.o.symm,by go_grown⟩
theorem BS(r:Rd) (w:World) :
  Calls Tryz.prog 186 #[r.v] w fun e w'=>e=.returned (.int .i64 (roundE r))/\Below w.heap.size w w':=by
 obtain⟨⟨n,h0,h1,h2,h3,h4⟩,f⟩:=r
 go_enter Tryz.func186,Tryz.ntmps186
 go_wp2_with (first
  | (go_at_call 208;refine(BR ⟨_,_,_,_,_,_⟩ _).mono ?_;rintro e w1 ⟨rfl,hb⟩;obtain⟨hc,hf⟩:=L1 hb)
  | (go_at_call 209;refine(Gp _ _ _).mono ?_;rintro e w2 ⟨rfl,rfl⟩))
 all_goals
  go_ret
  refine⟨aF ?_,?_⟩
  ·go_light
   unfold roundE
   grind
  ·exact ae (by go_grown) hb
theorem zN(a b:Rd) (w:World) :
  Calls Tryz.prog 187 #[a.v,b.v] w fun e w'=>e=.returned (.int .i64 (roundC a b))/\Below w.heap.size w w':=by
 obtain⟨⟨n,h0,h1,h2,h3,h4⟩,f⟩:=a;obtain⟨⟨m,g0,g1,g2,g3,g4⟩,g⟩:=b
 go_enter Tryz.func187,Tryz.ntmps187
 go_wp2_with (first
  | (go_at_call 210;refine(zM ⟨_,_,_,_,_,_⟩ ⟨_,_,_,_,_,_⟩ _).mono ?_;rintro e w1 ⟨rfl,hb⟩;obtain⟨hc,hf⟩:=L1 hb))
 all_goals
  go_ret
  refine⟨aF ?_,?_⟩
  ·go_light
   unfold roundC cmpI
   grind
  ·exact ae (by go_grown) hb
theorem BT(n:Int) (v:Value) (l:List (List Mv)) (w:World) (hv:bA w v l) (hN:movesN l<2305843009213693952) :
  Calls Tryz.prog 113 #[.agg #[.int .i64 n,v]] w fun e w'=>e=.returned (.int .i64 (movesN l))/\Below w.heap.size w w':=by
 obtain⟨pa,ca,rfl,la1,la2,ea⟩:=hv.at;clear hv;have EA:=aa ea;clear ea
 go_enter Tryz.func113,Tryz.ntmps113
 go_wp2
 refine bF (fun W=>Below w.heap.size w W/\W.heap[w.heap.size]?=some (.cells #[.int .i64 n,.slice pa l.length ca] 27)) ⟨by go_grown,aq _ _⟩ (fun W0 bh=>?_);obtain⟨aJ,bK⟩:=bh;have t1:=ab bK 1;simp at t1;clear bK
 go_loop [3,4] (fun o i=>∃ k:Nat,k<=l.length/\i=.int .i64 k/\o=.int .i64 (cnt l k)) (fun _ i=>l.length - (intOf i).toNat)
 ·exact⟨0,by omega,rfl,by rw[pD];rfl⟩
 ·
  obtain⟨k,hk,rfl,rfl⟩:=hrel;by_cases aD:k<l.length
  ·obtain⟨b1,o1,rfl,x,cx,hx⟩:=EA.o k aD;rw[Nat.mul_one]at cx;have c1:=ak aJ cx;have bX:=GY l k aD;have od:=aa (pE l k aD);obtain⟨px,qx,rfl,_⟩:=hx;clear cx;generalize cnt l k=c at bX od
   go_wp2
   go_round
   ·exact⟨k+1,by omega,by go_num,by rw[od.o];go_num⟩
   ·simp[intOf];omega
  ·go_wp2
   go_ret
   exact⟨aF (by rw[uK l k (by omega)]),aJ⟩
theorem Oy(a:Adv) (ps:Option Addr) (cs:Nat) (vl:Value) (l:List Mv) (k:Nat) (aD:k<l.length) (w:World) (hv:pz w vl l) :
  Calls Tryz.prog 155 #[.agg #[.int .i64 a.n,.slice ps a.states.length cs],vl,.int .i64 k] w fun e w'=>e=.returned (.int .i64 (dS a l k))/\Below w.heap.size w w':=by
 obtain⟨pc,cc,rfl,l1,m1,e1⟩:=hv.at;clear hv;have E:=aa e1;clear e1;obtain⟨b1,o1,rfl,⟨⟨c0,_⟩,⟨c1,_⟩,⟨c2,_⟩,⟨c3,_⟩,⟨c4,_⟩,⟨c5,_⟩,⟨c6,_⟩⟩,⟨c7,hc7⟩⟩:=E.o k aD;have WE:b1<w.heap.size:=fo c0;have hlb':b1<w.heap.size+1:=by omega
 have HO:am (dS a l k=if roundE l[k].r≠0 then roundE l[k].r else if l[k].r.g.n≠a.n then 22 else if 0<k/\0<=roundC (l.getD (k - 1) default).r l[k].r then 14 else if l[k].to<0\/(a.states.length:Int)<=l[k].to then 2 else 0):=by
  have h:dS a l k=if roundE l[k].r≠0 then roundE l[k].r else if l[k].r.g.n≠a.n then 22 else if 0<k/\0<=roundC (l.getD (k - 1) default).r l[k].r then 14 else if l[k].to<0\/(a.states.length:Int)<=l[k].to then 2 else 0:=by unfold dS;rw[aA default aD]
  exact h
 have X7:=c7;generalize l[k]=m at c0 c1 c2 c3 c4 c5 c6 c7 hc7 HO X7;have HC7:=aa X7;clear X7
 go_enter Tryz.func155,Tryz.ntmps155
 go_wp2_with fail
 refine aQ (fun V=>Below w.heap.size w V/\V.heap[w.heap.size]?=some (.cells #[.int .i64 a.n,.slice ps a.states.length cs] 27)/\V.heap[w.heap.size+1]?=some (.cells #[.int .i64 m.r.g.n,.int .i64 m.r.g.h0,.int .i64 m.r.g.h1,.int .i64 m.r.g.h2,.int .i64 m.r.g.h3,.int .i64 m.r.g.h4,.int .i64 m.r.f] 141)) ⟨by go_grown,az _ (aq _ _),by simpa using aq (w.alloc _) _⟩ (fun V hV=>?_);obtain⟨kU,hT,hC⟩:=hV;have HT:=aa hT;have HC:=aa hC;clear hT hC c0 c1 c2 c3 c4 c5 c6 c7;refine(BS m.r V).mono ?_;rintro e w1 ⟨rfl,aM⟩;have jc:=ae kU aM;have s1:=ab (af aM HT.o);have s2:=ab (af aM HC.o);generalize roundE m.r=er at HO;by_cases FI:er=0
 case neg=>
  have her':(er != 0)=true:=by simpa using FI
  go_wp2_with fail
  go_ret
  exact⟨aF (by rw[HO.o,if_pos FI]),jc⟩
 subst FI;by_cases vQ:m.r.g.n=a.n
 case neg=>
  have IO:(m.r.g.n != a.n)=true:=by simpa using vQ
  go_wp2_with fail
  go_ret
  exact⟨aF (by rw[HO.o,if_neg (by simp),if_pos vQ]),jc⟩
 have IO:(m.r.g.n != a.n)=false:=by simpa using vQ
 have gy:am (dS a l k=if 0<k/\0<=roundC (l.getD (k - 1) default).r m.r then 14 else if m.to<0\/(a.states.length:Int)<=m.to then 2 else 0):=by
  have h:dS a l k=if 0<k/\0<=roundC (l.getD (k - 1) default).r m.r then 14 else if m.to<0\/(a.states.length:Int)<=m.to then 2 else 0:=by rw[HO.o,if_neg (by simp),if_neg (by simpa using vQ)]
  exact h
 clear HO vQ
 go_wp2_with fail
 clear IO s1 s2;by_cases eZ:k=0
 case' pos=>
  have eO:am (dS a l k=if m.to<0\/(a.states.length:Int)<=m.to then 2 else 0):=by(have h:dS a l k=if m.to<0\/(a.states.length:Int)<=m.to then 2 else 0:=by(rw[gy.o,if_neg (by omega)]));exact h
  have hd:decide ((0:Int)<(k:Int))=false:=decide_eq_false (by omega);have gB:decide (0<k)=false:=decide_eq_false (by omega);clear gy eZ;refine aE (by kernel_rfl) (by kernel_rfl) ?_
  repeat (go_big_quiet_step (fail))
  refine wpQuiet_nil ?_;intro _ eD;obtain⟨xq,dg⟩:=eD;subst dg;clear hd gB
 case' neg=>
  obtain⟨j,hj⟩:∃ j,k=j+1:=⟨k - 1,by omega⟩;have fJ:j<l.length:=by omega
  have HJ:=aa hj;obtain⟨b2,o2,e2,⟨⟨c0,_⟩,⟨c1,_⟩,⟨c2,_⟩,⟨c3,_⟩,⟨c4,_⟩,⟨c5,_⟩,⟨c6,_⟩⟩,_⟩:=E.o j fJ;obtain⟨rfl,rfl⟩:b1=b2/\o1=o2:=by simpa using e2
  clear e2;have hd:decide ((0:Int)<(k:Int))=true:=decide_eq_true (by omega);have gB:0<k:=by omega
  have lT:am (dS a l k=if 0<=roundC l[j].r m.r then 14 else if m.to<0\/(a.states.length:Int)<=m.to then 2 else 0):=by
   have h:dS a l k=if 0<=roundC l[j].r m.r then 14 else if m.to<0\/(a.states.length:Int)<=m.to then 2 else 0:=by
    rw[gy.o];have e:k - 1=j:=by omega
    rw[e,aA default fJ]
    grind
   exact h
  clear gy eZ hj;have jx:IntKind.i64.wrap ((k:Int) - 1)=(j:Int):=by rw[HJ.o];rw[IntWalk.i64_in _ (by omega)];omega
  generalize l[j]=m2 at c0 c1 c2 c3 c4 c5 c6 lT;have r1:∀ x:ExtW w1,∀ o,x.val.cell? ⟨w.heap.size,o,none⟩=_:=fun x=>ab (af (ae aM x.ext) HT.o)
  have r2:∀ x:ExtW w1,∀ o,x.val.cell? ⟨w.heap.size+1,o,none⟩=_:=fun x=>ab (af (ae aM x.ext) HC.o)
  have k0:∀ x:ExtW w1,x.val.cell? _=_:=fun x=>x.cell (ak jc c0)
  have k1:∀ x:ExtW w1,x.val.cell? _=_:=fun x=>x.cell (ak jc c1)
  have k2:∀ x:ExtW w1,x.val.cell? _=_:=fun x=>x.cell (ak jc c2)
  have k3:∀ x:ExtW w1,x.val.cell? _=_:=fun x=>x.cell (ak jc c3)
  have k4:∀ x:ExtW w1,x.val.cell? _=_:=fun x=>x.cell (ak jc c4)
  have k5:∀ x:ExtW w1,x.val.cell? _=_:=fun x=>x.cell (ak jc c5)
  have k6:∀ x:ExtW w1,x.val.cell? _=_:=fun x=>x.cell (ak jc c6)
  clear c0 c1 c2 c3 c4 c5 c6;refine aE (by kernel_rfl) (by kernel_rfl) ?_
  repeat (go_big_quiet_step ((go_at_call 187;exact Calls.ext_of (zN m2.r m.r _))))
  refine wpQuiet_nil ?_;intro _ eD;obtain⟨xq,dg⟩:=eD;subst dg;clear r1 r2 k0 k1 k2 k3 k4 k5 k6 hd gB jx;generalize roundC m2.r m.r=oo at lT;by_cases qW:0<=oo
  ·go_wp2_with fail
   go_ret
   exact⟨aF (by rw[lT.o,if_pos qW]),ae jc xq.ext⟩
  have eO:am (dS a l k=if m.to<0\/(a.states.length:Int)<=m.to then 2 else 0):=by(have h:dS a l k=if m.to<0\/(a.states.length:Int)<=m.to then 2 else 0:=by(rw[lT.o,if_neg qW]));exact h
  clear lT HJ
 all_goals
  have dG:=ae jc xq.ext;have Gi:=af (ae aM xq.ext) HT.o;generalize xq.val=W5 at dG Gi ⊢;have r1:∀ n o,(W5.drewN n).cell? ⟨w.heap.size,o,none⟩=_:=fun n=>ab Gi
  have r7:∀ n,(W5.drewN n).cell? _=_:=fun n=>ak dG HC7.o
  clear Gi;by_cases ht:m.to<0
  ·go_wp2_with fail
   go_quiet (fail)
   go_wp2_with fail
   go_ret
   exact⟨aF (by rw[eO.o,if_pos (by omega)]),eE dG _⟩
  ·have hd:decide (m.to<0)=false:=decide_eq_false ht
   go_wp2_with fail
   go_quiet (fail)
   go_wp2_with fail
   ·go_ret
    refine⟨aF ?_,eE dG _⟩;rw[eO.o]
    go_light
    grind
   ·go_ret
    refine⟨aF ?_,eE dG _⟩;rw[eO.o]
    go_light
    grind
theorem Rl(a:Adv) (s j:Nat) (hs:s<a.states.length) (hj:j<a.states[s].length) :
  pS a (cnt a.states s+j)=anyLt (a.states.getD a.states[s][j].to.toNat []).length fun k=>!iL a.states[s][j].r.f ((a.states.getD a.states[s][j].to.toNat []).getD k default).r.f:=by
 unfold pS nG;rw[zm _ s j hs hj]
theorem Rm(a:Adv) (s j u:Nat) (hs:s<a.states.length) (hj:j<a.states[s].length) (hu:u<a.states.length) (h:a.states[s][j].to=u) :
  pS a (cnt a.states s+j)=anyLt a.states[u].length fun k=>!iL a.states[s][j].r.f (a.states[u].getD k default).r.f:=by
 rw[Rl a s j hs hj,h,Int.toNat_natCast,aA [] hu]
theorem Me(a:Adv) (v:Value) (w:World) (hv:bA w v a.states) (fL:∀ s,s<a.states.length->stateE a (a.states.getD s [])=0) :
  Calls Tryz.prog 156 #[.agg #[.int .i64 a.n,v]] w fun e w'=>e=.returned (.bool (growsB a))/\Below w.heap.size w w':=by
 obtain⟨pa,ca,rfl,la1,la2,ea⟩:=hv.at;clear hv;have EA:=aa ea;clear ea;have dI:=aa fL;clear fL;have HV:am (growsB a=!anyLt (movesN a.states) (pS a)):=by exact rfl
 go_enter Tryz.func156,Tryz.ntmps156
 go_wp2
 refine bF (fun W=>Below w.heap.size w W/\W.heap[w.heap.size]?=some (.cells #[.int .i64 a.n,.slice pa a.states.length ca] 27)) ⟨by go_grown,aq _ _⟩ (fun W0 bh=>?_);obtain⟨aJ,bK⟩:=bh;have HA:=aa bK;clear bK
 go_loopw [3] (fun i wr=>Below W0.heap.size W0 wr/\∃ s:Nat,s<=a.states.length/\i=.int .i64 s/\∀ j,j<cnt a.states s->pS a j=false) (fun i _=>a.states.length - (intOf i).toNat)
 ·exact⟨Below.refl _ _,0,by omega,rfl,by rw[pD];simp⟩
 ·
  obtain⟨iW,s,hs,rfl,aV⟩:=hrel;have H:=aa aV;clear aV;have aB:=ae aJ iW;have t1:=ab (af iW HA.o);by_cases aD:s<a.states.length
  ·obtain⟨b1,o1,rfl,x,cx,hx⟩:=EA.o s aD;rw[Nat.mul_one]at cx;obtain⟨px,qx,rfl,x1,x2,ex⟩:=hx.at;have EX:=aa ex;have CX:=aa cx;have od:=aa (pE a.states s aD);have bX:=GY a.states s aD;clear hx cx ex
   go_wp2
   clear t1
   go_loopw [4] (fun i ws=>Below wr.heap.size wr ws/\∃ m:Nat,m<=a.states[s].length/\i=.int .i64 m/\∀ j,j<cnt a.states s+m->pS a j=false) (fun i _=>a.states[s].length - (intOf i).toNat)
   ·exact⟨Below.refl _ _,0,by omega,rfl,by simpa using H.o⟩
   ·
    obtain⟨lY,m,hm,rfl,aV⟩:=hrel
    rename World=>ws
    have H2:=aa aV;clear aV;have se:=ae iW lY;have ie:=ae aB lY;have t1:=ab (af se HA.o);have c1:=ak ie CX.o;have eM:=aC (af se HA.o);have aM:b1<ws.heap.size:=fo c1;by_cases ml:m<a.states[s].length
    ·obtain⟨b3,o3,rfl,⟨⟨d0,_⟩,⟨d1,_⟩,⟨d2,_⟩,⟨d3,_⟩,⟨d4,_⟩,⟨d5,_⟩,⟨d6,_⟩⟩,⟨d7,_⟩⟩:=EX.o m ml;have hso:=lg dI.o aD ml;obtain⟨u,hu⟩:∃ u:Nat,a.states[s][m].to=u:=⟨a.states[s][m].to.toNat,by omega⟩;have Qb:u<a.states.length:=by omega
     have tp:=aa (Rm a s m u aD ml Qb hu);rw[hu]at d7;have fQ:=hso.1;obtain⟨b4,o4,e4,y,cy,hy⟩:=EA.o u Qb;obtain⟨rfl,rfl⟩:b1=b4/\o1=o4:=by simpa using e4
     rw[Nat.mul_one]at cy;obtain⟨py,qy,rfl,y1,y2,ey⟩:=hy.at;have EY:=aa ey;have CY:=aa cy;have QA:=aa (fun j (hj:j<a.states[u].length)=>(lg dI.o Qb hj).1);have g0:=ak ie d0;have g1:=ak ie d1;have g2:=ak ie d2;have g3:=ak ie d3;have g4:=ak ie d4;have g5:=ak ie d5;have g6:=ak ie d6;have g7:=ak ie d7;clear hu hso hy cy ey e4 d0 d1 d2 d3 d4 d5 d6 d7;generalize a.states[s][m]=mv at g0 g1 g2 g3 g4 g5 g6 tp fQ
     go_wp2
     refine bF (fun W=>Below ws.heap.size ws W/\W.heap[ws.heap.size]?=some (.cells #[.int .i64 mv.r.g.n,.int .i64 mv.r.g.h0,.int .i64 mv.r.g.h1,.int .i64 mv.r.g.h2,.int .i64 mv.r.g.h3,.int .i64 mv.r.g.h4,.int .i64 mv.r.f,.int .i64 u] 143)) ⟨by go_grown,aq _ _⟩ (fun W6 tj=>?_);obtain⟨jL,hM6⟩:=tj;have HM6:=aa hM6;clear hM6 g0 g1 g2 g3 g4 g5 g6 g7 t1 c1 eM aM
     go_loopw [6] (fun i wt=>Below W6.heap.size W6 wt/\∃ q:Nat,q<=a.states[u].length/\i=.int .i64 q/\∀ j,j<q->(!iL mv.r.f (a.states[u].getD j default).r.f)=false) (fun i _=>a.states[u].length - (intOf i).toNat)
     ·exact⟨Below.refl _ _,0,by omega,rfl,by simp⟩
     ·
      obtain⟨uD,q,hq,rfl,aV⟩:=hrel
      rename World=>wt
      have H3:=aa aV;clear aV;have Sl:=ae jL uD;have hbt5:=ae se Sl;have ud:=ae ie Sl;have t1:=ab (af hbt5 HA.o);have t2:=ab (af uD HM6.o);have c2:=ak ud CY.o;by_cases oD:q<a.states[u].length
      ·obtain⟨b5,o5,rfl,⟨_,_,_,_,_,_,⟨f6,_⟩⟩,_⟩:=EY.o q oD;have FB:=QA.o q oD;have gr:=aa (aA default oD);generalize a.states[u][q]=nx at f6 FB gr;have bW:=aa (fun x:ExtW wt=>Calls.ext_of ((Kh mv.r.f nx.r.f (by omega) (by omega) x.val).mono (fun _ _ ⟨h1,h2⟩=>⟨h1,h2 ▸ Below.refl _ _⟩)))
       go_wp2_with fail
       have r1:∀ x:ExtW wt,∀ o,x.val.cell? ⟨w.heap.size,o,none⟩=_:=fun x=>ab (af (ae hbt5 x.ext) HA.o)
       have r2:∀ x:ExtW wt,∀ o,x.val.cell? ⟨ws.heap.size,o,none⟩=_:=fun x=>ab (af (ae uD x.ext) HM6.o)
       have r3:∀ x:ExtW wt,x.val.cell? ⟨b1,o1+u,none⟩=_:=fun x=>x.cell c2
       have r4:∀ x:ExtW wt,x.val.cell? _=_:=fun x=>x.cell (ak ud f6)
       clear t1 t2 c2 f6;cases cZ:iL mv.r.f nx.r.f with
       | false=>
        rw[cZ]at bW;have jd:=aa cZ;clear cZ;refine aE (by kernel_rfl) (by kernel_rfl) ?_
        repeat (go_big_quiet_step ((go_at_call 188;exact bW.o _)))
        refine wpQuiet_nil ?_;intro _ eD;obtain⟨xq,dg⟩:=eD;subst dg;clear r1 r2 r3 r4 bW
        go_wp2_with fail
        go_ret
        refine⟨aR ?_,ae ud xq.ext⟩;rw[HV.o,eo _ (cnt a.states s+m) _ (by omega) (by rw[tp.o];exact eo _ q _ oD (by rw[gr.o,jd.o];rfl))];rfl
       | true=>
        rw[cZ]at bW;have jd:=aa cZ;clear cZ;refine aE (by kernel_rfl) (by kernel_rfl) ?_
        repeat (go_big_quiet_step ((go_at_call 188;exact bW.o _)))
        refine wpQuiet_nil ?_;intro _ eD;obtain⟨xq,dg⟩:=eD;subst dg;clear r1 r2 r3 r4 bW
        go_wp2_with fail
        go_roundw
        ·exact⟨ae uD xq.ext,q+1,by omega,by go_num,aW H3.o (by rw[gr.o,jd.o];rfl)⟩
        ·simp[intOf];omega
      ·go_wp2_with fail
       go_roundw
       ·
        refine⟨ae lY Sl,m+1,by omega,by go_num,?_⟩;rw[<-Nat.add_assoc];refine aW H2.o ?_;rw[tp.o];exact eQ _ _ fun j hj=>H3.o j (by omega)
       ·simp[intOf];omega
    ·go_wp2_with fail
     go_roundw
     ·
      refine⟨ae iW lY,s+1,by omega,by go_num,?_⟩;rw[od.o];exact fun j hj=>H2.o j (by omega)
     ·simp[intOf];omega
  ·go_wp2
   go_ret
   refine⟨aR ?_,aB⟩;rw[HV.o,eQ]
   ·rfl
   ·intro j hj;refine H.o j ?_;rw[uK _ _ (by omega)];exact hj
theorem Gs(a:Adv) (v:Value) (w:World) (hv:bA w v a.states) (hN:movesN a.states<2305843009213693952) :
  Calls Tryz.prog 115 #[.agg #[.int .i64 a.n,v]] w fun e w'=>e=.returned (.int .i64 (advE a))/\Below w.heap.size w w':=by
 have G:=aa hv;obtain⟨pa,ca,rfl,la1,la2,ea⟩:=hv.at;clear hv;have EA:=aa ea;clear ea;by_cases c0:a.n<1
 ·have HR:am (advE a=2):=by(have h:advE a=2:=by(unfold advE;rw[if_pos (by omega)]));exact h
  go_enter Tryz.func115,Tryz.ntmps115
  go_wp2
  go_ret
  exact⟨aF HR.o.symm,by go_grown⟩
 by_cases c1:5<a.n
 ·have HR:am (advE a=2):=by(have h:advE a=2:=by(unfold advE;rw[if_pos (by omega)]));exact h
  go_enter Tryz.func115,Tryz.ntmps115
  go_wp2
  go_ret
  exact⟨aF HR.o.symm,by go_grown⟩
 by_cases c2:a.states.length<1
 ·have HR:am (advE a=5):=by(have h:advE a=5:=by(unfold advE;rw[if_neg (by omega),if_pos (by omega)]));exact h
  go_enter Tryz.func115,Tryz.ntmps115
  go_wp2
  go_ret
  exact⟨aF HR.o.symm,by go_grown⟩
 by_cases c3:256<a.states.length
 ·have HR:am (advE a=5):=by(have h:advE a=5:=by(unfold advE;rw[if_neg (by omega),if_pos (by omega)]));exact h
  go_enter Tryz.func115,Tryz.ntmps115
  go_wp2
  go_ret
  exact⟨aF HR.o.symm,by go_grown⟩
 have HC:=aa (fun W (hb:Below w.heap.size w W)=>BT a.n _ a.states W (G.o.up up_moves hb) hN)
 have HV:am (advE a=if 4096<movesN a.states then 5 else if bm a.states.length (fun s=>stateE a (a.states.getD s []))≠0 then bm a.states.length (fun s=>stateE a (a.states.getD s [])) else if growsB a then 0 else 21):=by
  have h:advE a=if 4096<movesN a.states then 5 else if bm a.states.length (fun s=>stateE a (a.states.getD s []))≠0 then bm a.states.length (fun s=>stateE a (a.states.getD s [])) else if growsB a then 0 else 21:=by
   unfold advE;rw[if_neg (by omega)];by_cases h4:4096<movesN a.states
   ·rw[if_pos (by omega),if_pos h4]
   ·rw[if_neg (by omega),if_neg h4]
  exact h
 generalize movesN a.states=mN at HC HV hN
 go_enter Tryz.func115,Tryz.ntmps115
 go_wp2_with fail
 refine aQ (fun W=>Below w.heap.size w W/\W.heap[w.heap.size]?=some (.cells #[.int .i64 a.n,.slice pa a.states.length ca] 27)) ⟨by go_grown,aq _ _⟩ (fun W0 bh=>?_);obtain⟨aJ,bK⟩:=bh;refine(HC.o W0 aJ).mono ?_;rintro e W1 ⟨rfl,aM⟩;have dD:=ae aJ aM;have HA:=aa (af aM bK);have t1:=ab HA.o;clear bK HC;by_cases c4:4096<mN
 ·have HR:am (advE a=5):=by(have h:advE a=5:=by(rw[HV.o,if_pos c4]));exact h
  go_wp2_with fail
  go_ret
  exact⟨aF HR.o.symm,dD⟩
 have ox:am (advE a=if bm a.states.length (fun s=>stateE a (a.states.getD s []))≠0 then bm a.states.length (fun s=>stateE a (a.states.getD s [])) else if growsB a then 0 else 21):=by
  have h:advE a=if bm a.states.length (fun s=>stateE a (a.states.getD s []))≠0 then bm a.states.length (fun s=>stateE a (a.states.getD s [])) else if growsB a then 0 else 21:=by rw[HV.o,if_neg c4]
  exact h
 clear HV
 go_wp2_with fail
 clear t1 c0 c1 c2 c3 c4
 go_loopw [3] (fun i wr=>Below W1.heap.size W1 wr/\∃ s:Nat,s<=a.states.length/\i=.int .i64 s/\∀ j,j<s->stateE a (a.states.getD j [])=0) (fun i _=>a.states.length - (intOf i).toNat)
 ·exact⟨Below.refl _ _,0,by omega,rfl,by simp⟩
 ·
  obtain⟨iW,s,hs,rfl,aV⟩:=hrel;have H:=aa aV;clear aV;have aB:=ae dD iW;have t1:=ab (af iW HA.o);by_cases aD:s<a.states.length
  ·obtain⟨b1,o1,rfl,x,cx,hx⟩:=EA.o s aD;rw[Nat.mul_one]at cx;have HX:=aa hx;obtain⟨px,qx,rfl,_⟩:=hx;have CX:=aa cx;have c1:=ak aB cx
   have HS:am (stateE a (a.states.getD s [])=if a.states[s].length=0 then 19 else bm a.states[s].length (dS a a.states[s])):=by
    have h:stateE a (a.states.getD s [])=if a.states[s].length=0 then 19 else bm a.states[s].length (dS a a.states[s]):=by rw[aA [] aD];rfl
    exact h
   clear cx;by_cases h0:a.states[s].length=0
   ·have h0':((a.states[s].length:Int) == 0)=true:=by simp[h0]
    have Lj:(a.states[s].length == 0)=true:=by simp[h0]
    have HR:am (stateE a (a.states.getD s [])=19):=by(have h:stateE a (a.states.getD s [])=19:=by(rw[HS.o,if_pos h0]));exact h
    have H0:=aa h0;clear h0
    go_wp2_with fail
    go_ret
    exact⟨aF (by rw[ox.o,<-bU (f:=fun s=>stateE a (a.states.getD s [])) s 19 aD H.o HR.o (by decide)];rfl),aB⟩
   ·have h0':((a.states[s].length:Int) == 0)=false:=beq_eq_false_iff_ne.2 (by omega);have Lj:(a.states[s].length == 0)=false:=beq_eq_false_iff_ne.2 (by omega);have HR:am (stateE a (a.states.getD s [])=bm a.states[s].length (dS a a.states[s])):=by(have h:stateE a (a.states.getD s [])=bm a.states[s].length (dS a a.states[s]):=by(rw[HS.o,if_neg h0]));exact h
    clear h0
    go_wp2_with fail
    clear t1 c1 h0' Lj
    go_loopw [4] (fun i ws=>Below wr.heap.size wr ws/\∃ m:Nat,m<=a.states[s].length/\i=.int .i64 m/\∀ j,j<m->dS a a.states[s] j=0) (fun i _=>a.states[s].length - (intOf i).toNat)
    ·exact⟨Below.refl _ _,0,by omega,rfl,by simp⟩
    ·
     obtain⟨lY,m,hm,rfl,aV⟩:=hrel
     rename World=>ws
     have H2:=aa aV;clear aV;have se:=ae iW lY;have ie:=ae aB lY;have t1:=ab (af se HA.o);have c1:=ak ie CX.o;by_cases ml:m<a.states[s].length
     ·have bW:=aa (fun x:ExtW ws=>Calls.ext_of (Oy a (some ⟨b1,o1,none⟩) ca _ a.states[s] m ml x.val (HX.o.up up_move (ae ie x.ext))));generalize qH:dS a a.states[s] m=em at bW;have vP:=aa qH;clear qH
      go_wp2_with fail
      have r1:∀ x:ExtW ws,∀ o,x.val.cell? ⟨w.heap.size,o,none⟩=_:=fun x=>ab (af (ae se x.ext) HA.o)
      have r3:∀ x:ExtW ws,x.val.cell? _=_:=fun x=>x.cell c1
      clear t1 c1;refine aE (by kernel_rfl) (by kernel_rfl) ?_
      repeat (go_big_quiet_step ((go_at_call 155;exact bW.o _)))
      refine wpQuiet_nil ?_;intro _ eD;obtain⟨xq,dg⟩:=eD;subst dg;clear r1 r3 bW;by_cases vR:em=0
      ·subst vR
       go_wp2_with fail
       go_roundw
       ·exact⟨ae lY xq.ext,m+1,by omega,by go_num,aW H2.o vP.o⟩
       ·simp[intOf];omega
      ·have hem':(em != 0)=true:=by simpa using vR
       go_wp2_with fail
       go_ret
       refine⟨aF ?_,ae ie xq.ext⟩;have e1:em=stateE a (a.states.getD s []):=by rw[HR.o];exact bU m em ml H2.o vP.o vR
       rw[ox.o,<-bU (f:=fun s=>stateE a (a.states.getD s [])) s em aD H.o e1.symm vR,if_pos vR]
     ·go_wp2_with fail
      go_roundw
      ·exact⟨ae iW lY,s+1,by omega,by go_num,aW H.o (by rw[HR.o];exact cT _ _ fun j hj=>H2.o j (by omega))⟩
      ·simp[intOf];omega
  ·have aS:∀ j,j<a.states.length->stateE a (a.states.getD j [])=0:=fun j hj=>H.o j (by omega)
   have df:am (advE a=if growsB a then 0 else 21):=by
    have h:advE a=if growsB a then 0 else 21:=by rw[ox.o,cT _ _ aS];simp
    exact h
   have HG:=aa (Me a _ wr (G.o.up up_moves aB) aS);clear aS;generalize growsB a=gb at HG df;cases gb with
   | true=>
    go_wp2_with fail
    refine HG.o.mono ?_;rintro e w2 ⟨rfl,aY⟩
    go_wp2_with fail
    go_ret
    exact⟨aF (by rw[df.o];rfl),ae aB aY⟩
   | false=>
    go_wp2_with fail
    refine HG.o.mono ?_;rintro e w2 ⟨rfl,aY⟩
    go_wp2_with fail
    go_ret
    exact⟨aF (by rw[df.o];rfl),ae aB aY⟩
def sB(a:Adv):Bool:=decide (a.states.length<=8)&&decide (movesN a.states<=40)
theorem VP(l:List (List Mv)) (B:Nat) (h:∀ k (hk:k<l.length),l[k].length<=B):∀ k,k<=l.length->cnt l k<=k * B:=by
 intro k;induction k with
 | zero=>intro _;rw[pD];exact Nat.zero_le _
 | succ k ih=>
  intro hk;rw[pE l k (by omega),Nat.succ_mul];exact Nat.add_le_add (ih (by omega)) (h k (by omega))
theorem Oz{w:World} {v:Value} {l:List (List Mv)} (hv:bA w v l):movesN l<=l.length * 17592186044416:=by
 obtain⟨pa,ca,rfl,la1,la2,ea⟩:=hv.at
 have:=VP l 17592186044416 (fun k hk=>by
  obtain⟨b,o,_,x,_,hx⟩:=ea k hk;obtain⟨_,_,_,_,dW,_⟩:=hx
  exact dW) l.length (Nat.le_refl _)
 rwa [uK l _ (Nat.le_refl _)]at this
theorem Ki(a:Adv) (v:Value) (w:World) (hv:bA w v a.states) :
  Calls Tryz.prog 70 #[.agg #[.int .i64 a.n,v]] w fun e w'=>e=.returned (.bool (sB a))/\Below w.heap.size w w':=by
 have hN:=Oz hv;have HV:am (sB a=(decide (a.states.length<=8)&&decide (movesN a.states<=40))):=by exact rfl
 by_cases h8:a.states.length<=8
 ·have HC:=aa (fun W (hb:Below w.heap.size w W)=>BT a.n _ a.states W (hv.up up_moves hb) (by omega));obtain⟨pa,ca,rfl,_⟩:=hv;have H8:am (decide (a.states.length<=8)=true):=by(have h:=decide_eq_true h8);exact h
  generalize movesN a.states=mN at HC HV hN
  go_enter Tryz.func70,Tryz.ntmps70
  go_wp2_with fail
  refine(HC.o _ (by go_grown)).mono ?_;rintro e W1 ⟨rfl,aM⟩
  go_wp2_with fail
  go_ret
  refine⟨aR ?_,ae (by go_grown) aM⟩;rw[HV.o,H8.o];simp;omega
 ·have H8:am (decide (a.states.length<=8)=false):=by(have h:=decide_eq_false h8);exact h
  obtain⟨pa,ca,rfl,_⟩:=hv
  go_enter Tryz.func70,Tryz.ntmps70
  go_wp2_with fail
  go_ret
  exact⟨aR (by rw[HV.o,H8.o];rfl),by go_grown⟩
def sC(c:List Int) (n:Int) (m:Mv):Int:=min (n+c.getD m.to.toNat 0) 4097
def rowN(c:List Int) (l:List Mv):Int:=l.foldl (sC c) 0
def lK(a:Adv) (c:List Int):List Int:=a.states.map (rowN c)
def eF(a:Adv):Nat->List Int
 | 0=>List.replicate a.states.length 1
 | k+1=>lK a (eF a k)
def numberS(a:Adv) (k:Nat):Int:=(eF a k).getD 0 0
def Hq(c:List Int):Prop:=∀ x∈c,0<=x/\x<=4097
theorem DH{c:List Int} (h:Hq c) (i:Nat):0<=c.getD i 0/\c.getD i 0<=4097:=by
 by_cases hi:i<c.length
 ·rw[aA 0 hi];exact h _ (List.getElem_mem hi)
 ·rw[List.getD_eq_getElem?_getD,List.getElem?_eq_none (by omega)];simp
theorem Rn{c:List Int} (h:Hq c) {n:Int} (hn:0<=n/\n<=4097) (m:Mv):0<=sC c n m/\sC c n m<=4097:=by
 have:=DH h m.to.toNat;unfold sC;omega
theorem UV{c:List Int} (h:Hq c) (l:List Mv):∀ n:Int,(0<=n/\n<=4097)->0<=l.foldl (sC c) n/\l.foldl (sC c) n<=4097:=by
 induction l with
 | nil=>intro n hn;exact hn
 | cons m r ih=>intro n hn;exact ih _ (Rn h hn m)
theorem KI{c:List Int} (h:Hq c) (l:List Mv):0<=rowN c l/\rowN c l<=4097:=UV h l 0 (by omega)
theorem Ro{c:List Int} (h:Hq c) (a:Adv):Hq (lK a c):=fun x hx=>by
 obtain⟨l,_,rfl⟩:=List.mem_map.1 hx;exact KI h l
theorem Hr(a:Adv) (k:Nat):Hq (eF a k):=by
 induction k with
 | zero=>intro x hx;rw[(List.mem_replicate.1 hx).2];omega
 | succ k ih=>exact Ro ih a
theorem OA(a:Adv) (k:Nat):(eF a k).length=a.states.length:=by
 cases k with
 | zero=>simp[eF]
 | succ k=>simp[eF,lK]
theorem OB(c:List Int) (l:List Mv) (i:Nat) (hi:i<l.length):rowN c (l.take (i+1))=sC c (rowN c (l.take i)) l[i]:=by
 unfold rowN;rw[List.take_succ_eq_append_getElem hi,List.foldl_append];rfl
theorem ES{w:World} {v:Value} {t:TypeId} (j:Nat) (u:Value) (hj:[v][j]?=some u):(w.alloc (.cells #[v] t)).cell? (Addr.add ⟨w.heap.size,0,none⟩ j)=some u:=by
 cases j with
 | zero=>simp at hj;subst hj;simp[Addr.add,ab (aq w _)]
 | succ j=>simp at hj
theorem UW(P:Program) (ats:Array TypeId) (ty:TypeId) (x y:Int) (w:World):(Builtin.min_ ats ty #[.int .i64 x,.int .i64 y]).run P w=.ok (.int .i64 (min x y)) w:=by
 have h:(if y<x then y else x)=min x y:=by omega
 simp[Builtin.min_,Builtin.min2,h]
theorem DI(a:Adv) (v:Value) (n:Nat) (hn:n<=6) (w:World) (hv:bA w v a.states) (fL:∀ s,s<a.states.length->stateE a (a.states.getD s [])=0) (h1:1<=a.states.length/\a.states.length<=256) :
  Calls Tryz.prog 116 #[.agg #[.int .i64 a.n,v],.int .i64 n,.int .i64 4096] w fun e w'=>e=.returned (.int .i64 (numberS a n))/\Below w.heap.size w w':=by
 obtain⟨pa,ca,rfl,la1,la2,ea⟩:=hv.at;have EA:=aa ea;have dI:=aa fL;clear hv ea fL;obtain⟨i0,hi,cC,bY,cD⟩:=info_parts Tryz.infoInt
 go_enter Tryz.func116,Tryz.ntmps116
 go_wp2
 refine bF (fun W=>Below w.heap.size w W/\W.heap[w.heap.size]?=some (.cells #[.int .i64 a.n,.slice pa a.states.length ca] 27)) ⟨by go_grown,aq _ _⟩ (fun W0 bh=>?_);obtain⟨aJ,bK⟩:=bh;have HA:=aa bK;clear bK
 go_loopw [7,8] (fun o i wr=>Below W0.heap.size W0 wr/\∃ k:Nat,k<=a.states.length/\i=.int .i64 k/\wr.ownsRow W0.heap.size 3 1 o k (List.replicate k (.int .i64 1))) (fun _ i _=>a.states.length - (intOf i).toNat)
 ·exact⟨Below.refl _ _,0,by omega,rfl,World.ownsRow_nil _ _ _ _⟩
 ·
  obtain⟨iW,k,hk,rfl,bg⟩:=hrel;have bO:=aa bg;obtain⟨ao,co,rfl,_⟩:=sw bg;clear bg;have t1:=ab (af iW HA.o);by_cases aD:k<a.states.length
  ·have hA:Below wr.heap.size wr (wr.alloc (.cells #[.int .i64 1] 3)):=by go_grown
   have du:=aa (pH bO.o hA);have bE:=aa (fun j u hj=>ES (w:=wr) (v:=.int .i64 1) (t:=3) j u hj);clear hA;have ie:=iW.size
   go_wp2_with (at_builtin;(refine wpList_append_own _ rfl (.tmp 21) (.tmp 22) 38 rfl W0.heap.size 3 i0 (.int .i64 0) 1 8 Tryz.underlying38 hi cC bY cD rfl (by decide) _ k (List.replicate k (.int .i64 1)) rfl du.o ⟨wr.heap.size,0,none⟩ 1 1 [.int .i64 1] rfl rfl bE.o (by simp[Value.oneCell']) (by unfold maxLen;omega) (by omega) (by simp;omega) ?_;intro v' w2 fP dz _))
   go_roundw
   ·
    refine⟨Below.grown (w:=wr.alloc (.cells #[.int .i64 1] 3)) (iW.alloc ie _) dz (by simp;omega) (fun g hg=>(DF bO.o g hg).1),k+1,by omega,by go_num,?_⟩;rw[List.replicate_succ'];exact fP
   ·simp[intOf];omega
  ·obtain rfl:k=a.states.length:=by omega
   have cZ:(List.replicate a.states.length (Value.int .i64 1))=(eF a 0).map (Value.int .i64):=by simp[eF]
   rw[cZ]at bO;clear cZ
   go_wp2
   clear t1
   go_loopw [7,9] (fun o i ws=>Below wr.heap.size wr ws/\∃ k:Nat,k<=n/\i=.int .i64 k/\ws.ownsRow W0.heap.size 3 1 o a.states.length ((eF a k).map (Value.int .i64))) (fun _ i _=>n - (intOf i).toNat)
   ·exact⟨Below.refl _ _,0,by omega,rfl,bO.o⟩
   ·
    obtain⟨lY,k,hk,rfl,bg⟩:=hrel
    rename World=>ws
    have HOWN2:=aa bg;have ie:=ae iW lY;obtain⟨ac,cc,rfl,_,_,_,_,eK⟩:=sw bg;have GQ:=aa eK;clear bg eK;have P5:=aa (OA a k);have HIO:=aa (Hr a k);by_cases aD:k<n
    ·have t1:=ab (af ie HA.o)
     go_wp2
     clear t1
     go_loopw [10,11] (fun o i wt=>Below ws.heap.size ws wt/\∃ s:Nat,s<=a.states.length/\i=.int .i64 s/\wt.ownsRow ws.heap.size 3 1 o s (((lK a (eF a k)).take s).map (Value.int .i64))) (fun _ i _=>a.states.length - (intOf i).toNat)
     ·exact⟨Below.refl _ _,0,by omega,rfl,World.ownsRow_nil _ _ _ _⟩
     ·
      obtain⟨uD,s,hs,rfl,bg⟩:=hrel
      rename World=>wt
      have dm:=aa bg;have ud:=ae ie uD;have hbtw:=ae aJ ud;obtain⟨an,cn,rfl,_⟩:=sw bg;clear bg;have t1:=ab (af ud HA.o);by_cases Ly:s<a.states.length
      ·obtain⟨b1,o1,rfl,x,cx,hx⟩:=EA.o s Ly;rw[Nat.mul_one]at cx;obtain⟨px,qx,rfl,x1,x2,ex⟩:=hx.at;have EX:=aa ex;have c1:=ak hbtw cx
       have gr:am ((lK a (eF a k)).take (s+1)=(lK a (eF a k)).take s++[rowN (eF a k) a.states[s]]):=by
        have h:(lK a (eF a k)).take (s+1)=(lK a (eF a k)).take s++[rowN (eF a k) a.states[s]]:=by
         rw[List.take_succ_eq_append_getElem (by simp[lK];exact Ly)];simp[lK]
        exact h
       have QA:=aa (fun j (hj:j<a.states[s].length)=>(lg dI.o Ly hj).2);clear hx ex cx
       go_wp2
       go_loop [12,13] (fun o i=>∃ m:Nat,m<=a.states[s].length/\i=.int .i64 m/\o=.int .i64 (rowN (eF a k) (a.states[s].take m))) (fun _ i=>a.states[s].length - (intOf i).toNat)
       ·exact⟨0,by omega,rfl,by simp[rowN]⟩
       ·
        obtain⟨m,hm,rfl,rfl⟩:=hrel;have Xa:=KI HIO.o (a.states[s].take m);by_cases ml:m<a.states[s].length
        ·obtain⟨b3,o3,rfl,_,⟨d7,_⟩⟩:=EX.o m ml;have pg:=QA.o m ml;obtain⟨u,hu⟩:∃ u:Nat,a.states[s][m].to=u:=⟨a.states[s][m].to.toNat,by omega⟩
         have jF:am (rowN (eF a k) (a.states[s].take (m+1))=min (rowN (eF a k) (a.states[s].take m)+(eF a k).getD u 0) 4097):=by
          have h:rowN (eF a k) (a.states[s].take (m+1))=min (rowN (eF a k) (a.states[s].take m)+(eF a k).getD u 0) 4097:=by
           rw[OB _ _ m ml];unfold sC;rw[hu,Int.toNat_natCast]
          exact h
         rw[hu]at d7;have Qb:u<a.states.length:=by omega
         have oT:=DH HIO.o u;have JF:u<(eF a k).length:=by rw[P5.o];exact Qb
         obtain⟨b,e4,hc⟩:=GQ.o u (.int .i64 ((eF a k).getD u 0)) (by rw[aA 0 JF];simp);have c2:=ak hbtw d7;subst e4;have c3:=ak uD hc;have hmin:=UW Tryz.prog;generalize rowN (eF a k) (a.states[s].take m)=r0 at Xa jF;generalize (eF a k).getD u 0=g0 at oT jF c3 hc;clear d7 hc hu pg JF
         go_wp2
         go_round
         ·exact⟨m+1,by omega,by go_num,by rw[jF.o]⟩
         ·simp[intOf];omega
        ·obtain rfl:m=a.states[s].length:=by omega
         rw[List.take_length];rw[List.take_length]at Xa;generalize rowN (eF a k) a.states[s]=r0 at Xa gr;have hA:Below wt.heap.size wt (wt.alloc (.cells #[.int .i64 r0] 3)):=by go_grown
         have HOWN4:=aa (pH dm.o hA);have bE:=aa (fun j u hj=>ES (w:=wt) (v:=.int .i64 r0) (t:=3) j u hj);have hbs3:=uD.size;clear hA
         go_wp2_with (at_builtin;(refine wpList_append_own _ rfl (.tmp 63) (.tmp 65) 38 rfl ws.heap.size 3 i0 (.int .i64 0) 1 8 Tryz.underlying38 hi cC bY cD rfl (by decide) _ s (((lK a (eF a k)).take s).map (Value.int .i64)) rfl HOWN4.o ⟨wt.heap.size,0,none⟩ 1 1 [.int .i64 r0] rfl rfl bE.o (by simp[Value.oneCell']) (by unfold maxLen;omega) (by omega) (by simp;omega) ?_;intro v' w2 fP dz _))
         go_roundw
         ·
          refine⟨Below.grown (w:=wt.alloc (.cells #[.int .i64 r0] 3)) (uD.alloc hbs3 _) dz (by simp;omega) (fun g hg=>(DF dm.o g hg).1),s+1,by omega,by go_num,?_⟩;rw[gr.o,List.map_append];exact fP
         ·simp[intOf];omega
      ·obtain rfl:s=a.states.length:=by omega
       go_wp2
       go_roundw
       ·
        refine⟨ae lY uD,k+1,by omega,by go_num,?_⟩;have h:=sy (base':=W0.heap.size) dm.o (by have:=ie.size;exact this);rw[List.take_of_length_le (by simp[lK])]at h;exact h
       ·simp[intOf];omega
    ·obtain rfl:k=n:=by omega
     obtain⟨b,rfl,hc⟩:=GQ.o 0 (.int .i64 (numberS a k)) (by
      have h0:0<(eF a k).length:=by rw[P5.o];omega
      unfold numberS;rw[aA 0 h0]
      simp)
     go_wp2
     go_ret
     exact⟨rfl,ae aJ ie⟩
end Go.Proofs.YtmeaoneaephjeaaGreatDoor
namespace Go.Proofs.YtmeaoneaephjeaaGreatDoor
open Go.RowKit Go Go.Shelf
attribute [local go_sem] Oper.semAt_some
theorem aH{W:World} {B:Nat} {cs:Array Value} {t:TypeId} {f:Nat × Nat} (h:W.heap[B]?=some (.cells cs t f)) (o:Nat) (v:Value):(W.setCell ⟨B,o,none⟩ v).heap[B]?=some (.cells (cs.setIfInBounds o v) t f):=by
 simp[World.setCell,Array.getElem?_modify,h]
theorem aN{W:World} {B C:Nat} {x:Obj} (h:W.heap[C]?=some x) (bP:C≠B) (o:Nat) (v:Value):(W.setCell ⟨B,o,none⟩ v).heap[C]?=some x:=
 (Below.heap_setCell W ⟨B,o,none⟩ v C bP).trans h
def jh(n:Nat) (w w':World):Prop:=∀ k,k<n->w'.heap[k]?=w.heap[k]?
theorem jh.cell{w w':World} (h:jh w.heap.size w w') {a:Addr} {v:Value} (hc:w.cell? a=some v):w'.cell? a=some v:=by
 have:=fo hc;rw[World.cell?_of_block (w:=w) (h a.block this)];exact hc
theorem jh.ck{w w':World} (h:jh w.heap.size w w'):CK w w':=fun k _ hk _=>(h k (aC hk)).trans hk
theorem jh.of_below{w w':World} (h:Below w.heap.size w w'):jh w.heap.size w w':=h.block
theorem jh.alloc{w w':World} (h:jh w.heap.size w w') (o:Obj):jh w.heap.size w (w'.alloc o):=fun k hk=>by
 have h1:w.heap[k]?=some w.heap[k]:=Array.getElem?_eq_getElem hk;rw[h1];exact az o ((h k hk).trans h1)
theorem jh.trans{n:Nat} {a b c:World} (h:jh n a b) (k:jh n b c):jh n a c:=fun i hi=>(k i hi).trans (h i hi)
theorem xP(n:Int) (p:Option Addr) (len cap:Nat) (w:World) :
  Calls Tryz.prog 218 #[.agg #[.int .i64 n,.slice p len cap]] w fun e w'=>e=.returned (.func (.func 221) #[] #[.pointer (some ⟨w.heap.size,0,none⟩)])/\w'=w.alloc (.cells #[.int .i64 n,.slice p len cap] 27):=by
 go_enter Tryz.func218,Tryz.ntmps218
 go_wp2
 go_ret
 exact⟨rfl,rfl⟩
def Hs(l:List (List Mv)) (i:Nat):Array Value:=#[.int .i64 (mvAt l i).1,(mvAt l i).2.v]
theorem vY(wd:World) (v:Value) (l:List (List Mv)) (hv:bA wd v l) (w:World) (hb:Below wd.heap.size wd w) (Bx:Nat) (hx:w.cell? ⟨Bx,1,none⟩=some v) :
  so Tryz.prog 221 #[.pointer (some ⟨Bx,0,none⟩)] (Hs l) (movesN l) (fun k=>k<wd.heap.size) w:=by
 intro yl J Jx W hW hJ oC hY h0;have dA:=ak hW hx;have eZ:jh wd.heap.size wd W:=(jh.of_below hb).trans (fun k hk=>hW.block k (Nat.lt_of_lt_of_le hk hb.size));obtain⟨pa,ca,rfl,la1,la2,ea⟩:=hv.at;clear hv hx hW hb;have EA:=aa ea;clear ea;have HJ:=aa hJ;clear hJ;have Jc:=aa oC;clear oC;have HY:=aa hY;clear hY;refine(callsIn_wide (n:=0)).1 ?_;refine callsIn_of_wp Tryz.func221 rfl trivial ?_ rfl;simp only[Tryz.ntmps221,List.size_toArray,List.length_cons,List.length_nil,Nat.reduceAdd,Nat.reduceSub,Array.replicate_succ,Array.replicate_zero,List.push_toArray,List.append_toArray,List.nil_append,List.cons_append]
 gi_wp2
 gi_loopw [10] (fun i wr=>∃ s:Nat,s<=l.length/\i=.int .i64 s/\jh wd.heap.size wd wr/\J (cnt l s) wr) (fun i _=>l.length - (intOf i).toNat)
 ·exact⟨0,by omega,rfl,eZ,by rw[pD];exact h0⟩
 ·
  obtain⟨s,hs,rfl,fU,hj⟩:=hrel;have j9:=aa fU;clear fU;have je:=aa hj;clear hj;by_cases aD:s<l.length
  ·obtain⟨b1,o1,rfl,x,cx,hxs⟩:=EA.o s aD;rw[Nat.mul_one]at cx;have d1:=j9.o.cell cx;obtain⟨p2,c2,rfl,m1,m2,e2⟩:=hxs.at;clear hxs cx;have E2:=aa e2;clear e2
   gi_wp2
   obtain⟨W0,bh⟩:∃ W0:World,W0=wr:=⟨_,rfl⟩;rw[<-bh]at j9 je d1 ⊢;clear bh wr
   gi_loopw [17] (fun i wr=>∃ j:Nat,j<=l[s].length/\i=.int .i64 j/\jh wd.heap.size wd wr/\J (cnt l s+j) wr) (fun i _=>l[s].length - (intOf i).toNat)
   ·exact⟨0,by omega,rfl,j9.o,je.o⟩
   ·
    obtain⟨j,hj,rfl,fU,y8⟩:=hrel;have oN:=aa fU;clear fU;have Jh:=aa y8;clear y8;by_cases LM:j<l[s].length
    ·obtain⟨b2,o2,rfl,⟨⟨c0,_⟩,⟨c1,_⟩,⟨c2,_⟩,⟨c3,_⟩,⟨c4,_⟩,⟨c5,_⟩,⟨c6,_⟩⟩,c7,_⟩:=E2.o j LM;have d0:=oN.o.cell c0;have d1:=oN.o.cell c1;have d2:=oN.o.cell c2;have d3:=oN.o.cell c3;have d4:=oN.o.cell c4;have d5:=oN.o.cell c5;have d6:=oN.o.cell c6;have d7:=oN.o.cell c7;clear c0 c1 c2 c3 c4 c5 c6 c7;have Fw:=zm l s j aD LM;have kW:=GY l s aD;generalize hm:l[s][j]=m at d0 d1 d2 d3 d4 d5 d6 d7 Fw;obtain⟨fn,tmps,assign,body,hy,hR⟩:=HY.o (cnt l s+j) (wr.alloc (.cells #[.int .i64 m.r.g.n,.int .i64 m.r.g.h0,.int .i64 m.r.g.h1,.int .i64 m.r.g.h2,.int .i64 m.r.g.h3,.int .i64 m.r.g.h4,.int .i64 m.r.f,.int .i64 m.to] 143)) (by omega) (HJ.o _ _ _ Jh.o (by go_grown));unfold Hs at hy;rw[Fw]at hy;dsimp only at hy;have HR:=aa hR;clear hR Fw hm
     gi_wp2
     refine⟨rfl,HR.o.mono ?_⟩;rintro e W3 (⟨rfl,Cy,Dp,ii⟩|⟨rfl,rO⟩)
     ·gi_wp2
      go_roundw
      ·exact⟨j+1,by omega,by go_num,jh.trans (oN.o.alloc _) ii,Cy⟩
      ·simp[intOf];omega
     ·gi_wp2
      refine bodyPost_ret (results_none rfl _ _ _) rfl ?_;exact⟨⟨_,rfl⟩,.inr ⟨_,by omega,rO⟩⟩
    ·gi_wp2
     go_roundw
     ·
      refine⟨s+1,by omega,by go_num,oN.o,?_⟩;have e:l[s].length=j:=by omega
      rw[pE l s aD,e];exact Jh.o
     ·simp[intOf];omega
  ·gi_wp2
   go_end0
   exact⟨⟨_,rfl⟩,.inl (by rw[<-uK l s (by omega)];exact je.o)⟩
def sizedE(a:Adv):Int:=if a.states.length<1\/256<a.states.length\/4096<movesN a.states then 5 else 0
theorem OC(a:Adv) (v:Value) (w:World) (hv:bA w v a.states) (hN:movesN a.states<1099511627776) :
  Calls Tryz.prog 216 #[.agg #[.int .i64 a.n,v]] w fun e w'=>e=.returned (.int .i64 (sizedE a))/\Below w.heap.size w w':=by
 have G:=aa hv;obtain⟨pa,ca,rfl,la1,la2,_⟩:=hv.at;clear hv;refine gd Tryz.func216 rfl ?_;simp only[Tryz.ntmps216,List.size_toArray,List.length_cons,List.length_nil,Nat.reduceAdd,Nat.reduceSub,Array.replicate_succ,Array.replicate_zero,List.push_toArray,List.append_toArray,List.nil_append,List.cons_append]
 go_wp2_with fail
 refine(xP _ _ _ _ _).mono ?_;rintro e w1 ⟨rfl,rfl⟩
 go_wp2_with fail
 refine bF (fun W=>Below w.heap.size w W/\W.heap[w.heap.size]?=some (.cells #[.int .i64 a.n,.slice pa a.states.length ca] 27)/\W.heap[w.heap.size+1]?=some (.cells #[.int .i64 0] 3)/\W.heap[w.heap.size+1+1]?=some (.cells #[.int .i64 a.n,.slice pa a.states.length ca] 27))
  ⟨by go_grown,az _ (az _ (aq _ _)),az _ (by simpa using aq (w.alloc (.cells #[.int .i64 a.n,.slice pa a.states.length ca] 27)) (.cells #[.int .i64 0] 3)),by simpa using aq ((w.alloc (.cells #[.int .i64 a.n,.slice pa a.states.length ca] 27)).alloc (.cells #[.int .i64 0] 3)) (.cells #[.int .i64 a.n,.slice pa a.states.length ca] 27)⟩ (fun W0 bh=>?_)
 obtain⟨aJ,hA,oJ,hX⟩:=bh;have dj:=vY w _ a.states G.o W0 aJ (w.heap.size+1+1) (by simp[ab hX]);have eM:=aC hX
 refine mI (gf:=221) (lb:=#[.pointer (some ⟨w.heap.size+1+1,0,none⟩)]) rfl (enters_of Tryz.func221 (by kernel_rfl) rfl) dj (Below.refl _ _) (fun k hk=>Nat.lt_of_lt_of_le hk aJ.size) (fun i=>rfl)
  (fun i W=>Below w.heap.size w W/\W.heap[w.heap.size]?=some (.cells #[.int .i64 a.n,.slice pa a.states.length ca] 27)/\W.heap[w.heap.size+1]?=some (.cells #[.int .i64 i] 3))
  (fun _ _ _=>False) (fun i=>(cK.below (by omega)).and (cK.cells.and cK.cells)) (fun _ _=>cK.pure) ⟨aJ,hA,oJ⟩ ?round ?done ?stop
 case round=>
  intro l i W hi hl hI;unfold Hs
  gi_wp2
  refine⟨Bod.refl _ _ _,_,(cK.below (w:=w) (by omega)).and (cK.cells.and cK.cells),hI,fun W2 h2 _=>?_⟩;obtain⟨g1,g2,g3⟩:=h2;have c1:=ab g3 0;have f1:=aG g3 0;simp at c1;have HG:=aa (And.intro g1 (And.intro g2 g3));clear g1 g2 g3 hI dj
  gi_wp2
  obtain⟨g1,g2,g3⟩:=HG.o;refine⟨Bod.setCell _ _ _ (by simp),g1.setCell (by simp) _,aN g2 (by omega) _ _,?_⟩;rw[aH g3];simp
 case done=>
  intro D W hD hI hK;obtain⟨g1,g2,g3⟩:=hI;have HG:=aa (And.intro g1 (And.intro g2 g3));have t1:=ab g2;have t2:=ab g3;clear g1 g2 g3 dj
  go_wp2
  all_goals
   refine iz hK (results_tmp rfl _ _ _) ?_;refine⟨aF ?_,eR (by omega) HG.o.1⟩
   go_light
   unfold sizedE
   grind
 case stop=>
  intro D c i W _ _ h;exact h.elim
def bG(l:List Int):Array Value:=(l.map (Value.int .i64)).toArray
def fC(n:Nat) (f:Nat->Int) (q:Nat):Array Value:=((List.range n).map fun j=>Value.int .i64 (if j<q then f j else 0)).toArray
theorem pI(n:Nat) (f:Nat->Int) (q:Nat):(fC n f q).size=n:=by simp[fC]
theorem mf(n:Nat) (f:Nat->Int) (q j:Nat) (hj:j<n):(fC n f q)[j]?=some (.int .i64 (if j<q then f j else 0)):=by simp[fC,hj]
theorem uN(n:Nat) (f:Nat->Int) (q:Nat) (hq:q<n):(fC n f q).setIfInBounds q (.int .i64 (f q))=fC n f (q+1):=by
 apply Array.ext_getElem?;intro j;rw[Array.getElem?_setIfInBounds];by_cases hj:j<n
 ·rw[mf _ _ _ _ hj,mf _ _ _ _ hj];by_cases e:q=j
  ·subst e;rw[if_pos rfl,if_pos (by rw[pI];exact hj),if_pos (by omega)]
  ·rw[if_neg e];by_cases h:j<q
   ·rw[if_pos h,if_pos (by omega)]
   ·rw[if_neg h,if_neg (by omega)]
 ·have h1:(fC n f q)[j]?=none:=by rw[Array.getElem?_eq_none];rw[pI];omega
  have h2:(fC n f (q+1))[j]?=none:=by rw[Array.getElem?_eq_none];rw[pI];omega
  rw[h1,h2,if_neg (by omega)]
theorem qf(n:Nat) (f:Nat->Int):fC n f n=bG ((List.range n).map f):=by
 unfold fC bG;rw[List.map_map];congr 1;refine List.map_congr_left fun j hj=>?_
 rw[if_pos (List.mem_range.1 hj)];rfl
theorem UX(f:Nat->Int) (n:Nat):madeCells (Value.int .i64 0).cells n=fC n f 0:=by
 apply Array.ext
 ·simp[madeCells,fC]
 ·intro i h1 h2;simp[madeCells,fC,Value.cells,Nat.mod_one]
theorem BU(f:Nat->Int) (n:Nat) (hn:n<=65536) (w:World):(Instr.makeSlice 38 (.int .i64 (n:Int)) (.int .i64 (n:Int))).run Tryz.prog w=.ok (.slice (some ⟨w.heap.size,0,none⟩) n n) (w.alloc (.cells (fC n f 0) 3)):=by
 have hinfo:(Tryz.prog.info? 3).map (fun i=>(i.zero,i.size,i.bytes))=some (some (.int .i64 0),1,8):=by kernel_rfl
 obtain⟨i,hi,cC,bY,cD⟩:=info_parts hinfo;have:=run_make (P:=Tryz.prog) w 38 3 i (.int .i64 0) Tryz.underlying38 hi cC .i64 .i64 (n:Int) (n:Int) (by omega) (by omega) (by rw[cD];omega) (by omega);rw[this,bY,Nat.mul_one];simp only[Int.toNat_natCast,UX f]
theorem jp(f:Nat->Int) (n:Nat) (hn:n<=256) (w:World):(Instr.makeSlice 38 (.int .i64 (n:Int)) (.int .i64 (n:Int))).run Tryz.prog w=.ok (.slice (some ⟨w.heap.size,0,none⟩) n n) (w.alloc (.cells (fC n f 0) 3)):=BU f n (by omega) w
theorem rD{W:World} {B:Nat} {now:List Int} {n:Nat} (hl:now.length=n) (hn:n<=256) (h:W.heap[B]?=some (.cells (bG now) 3)) (hr:∀ i,i<now.length->bT (now.getD i 0)):aX W (.slice (some ⟨B,0,none⟩) n n) now:=by
 subst hl;refine⟨some ⟨B,0,none⟩,now.length,rfl,⟨Nat.le_refl _,by omega,fun e=>by cases e⟩,by omega,fun i x hx=>⟨B,0,rfl,?_⟩⟩;obtain⟨hi,rfl⟩:=List.getElem?_eq_some_iff.1 hx;refine⟨?_,?_⟩
 ·rw[ab h,Nat.zero_add,Nat.mul_one];simp[bG,hi]
 ·have:=hr i hi
  rwa [aA 0 hi]at this
def xC(n:Nat) (x:Int) (q:Nat):Array Value:=fC n (fun _=>x) q
theorem KJ(n:Nat) (x:Int) (q j:Nat) (hj:j<n):(xC n x q)[j]?=some (.int .i64 (if j<q then x else 0)):=mf n _ q j hj
theorem OD(n:Nat) (x:Int) (q m:Nat) (h:q+m<=n):((xC n x q).toList.take q++List.replicate m (Value.int .i64 x)++(xC n x q).toList.drop (q+m)).toArray=xC n x (q+m):=by
 apply Array.ext_getElem?;intro j;have hl:(xC n x q).toList.length=n:=by rw[Array.length_toList];exact pI n _ q
 have hg:∀ q j,(xC n x q).toList[j]?=if j<n then some (.int .i64 (if j<q then x else 0)) else none:=by
  intro q j;rw[Array.getElem?_toList];by_cases hj:j<n
  ·rw[if_pos hj];exact KJ n x q j hj
  ·rw[if_neg hj,Array.getElem?_eq_none];unfold xC;rw[pI];omega
 rw[<-Array.getElem?_toList (xs:=xC n x (q+m)),hg,List.getElem?_toArray,List.append_assoc];by_cases h1:j<q
 ·rw[List.getElem?_append_left (by rw[List.length_take,hl];omega),List.getElem?_take_of_lt h1,hg,if_pos (show j<n by omega),if_pos h1,if_pos (show j<n by omega),if_pos (show j<q+m by omega)]
 ·rw[List.getElem?_append_right (by rw[List.length_take,hl];omega),List.length_take,hl,Nat.min_eq_left (by omega)];by_cases h2:j<q+m
  ·rw[List.getElem?_append_left (by rw[List.length_replicate];omega),List.getElem?_replicate,if_pos (show j - q<m by omega),if_pos (show j<n by omega),if_pos h2]
  ·rw[List.getElem?_append_right (by rw[List.length_replicate];omega),List.length_replicate,List.getElem?_drop,show q+m+(j - q - m)=j by omega,hg];by_cases h3:j<n
   ·rw[if_pos h3,if_pos h3,if_neg h1,if_neg h2]
   ·rw[if_neg h3,if_neg h3]
theorem rk(w:World) (g:Nat) (cur cur':Array Value) (t:TypeId) (hg:w.heap[g]?=some (.cells cur t (0,0))):(w.setRow g cur').heap[g]?=some (.cells cur' t (0,0)):=setRow_heap w g cur cur' t _ hg
theorem xQ{P:Program} {w:World} {ops:Array Oper} {rest:List Oper} {o:Oper} {a:Act} {Q:Exit->Act->World->Prop} {d s:Operand} {t t':TypeId} {v u v':Value} {w':World} (hg:o.guard=none)
  (ho:o.op=.call { callee:=.builtin .copy,args:=#[d,s],argTypes:=#[t,t'] }) (hd:a.eval d=v) (hs:a.eval s=u)
  (hr:(Builtin.copy_ #[t,t'] o.type #[v,u]).run P w=.ok v' w') (h:wpList P ops Q rest (a.put o.dst v') w'):wpList P ops Q (o :: rest) a w:=by
 refine wpList_plain hg fun _ hK=>?_
 unfold Oper.wp;simp[execOp,ho,resolve,invoke,builtin,hd,hs,hr,Result.andThen];exact hK _ _ h
theorem Mf(rv:Int) (n:Nat) (h1:1<=n) (p B:Nat) (W:World) (hp:W.heap[p]?=some (.cells #[.int .i64 rv] 3)) (hB:W.heap[B]?=some (.cells (xC n rv 0) 3)) :
  (Builtin.copy_ #[38,38] 3 #[.slice (some ⟨B,0,none⟩) n n,.slice (some ⟨p,0,none⟩) 1 1]).run Tryz.prog W=.ok (.int .i64 1) (W.setRow B (xC n rv 1)):=by
 have h:=run_copy_row Tryz.prog W 38 38 3 3 B 0 n n ⟨p,0,none⟩ 1 1 (xC n rv 0) 3 [.int .i64 rv] Tryz.underlying38 (by kernel_rfl) hB (by simp only[List.length_cons,List.length_nil];exact(Nat.min_eq_left h1).symm)
  (fun j v hj=>by
   cases j with
   | zero=>simp at hj;subst hj;rw[Addr.add_lit,ab hp];rfl
   | succ j=>simp at hj) (by unfold xC;rw[pI];simpa using h1) (by simp[Value.oneCell'])
 rw[h];exact congrArg (fun r=>Result.ok (Value.int .i64 1) (W.setRow B r)) (OD n rv 0 1 (by omega))
theorem OE(rv:Int) (n q m:Nat) (h1:q+m<=n) (hm:m=min q (n - q)) (B:Nat) (W:World) (hB:W.heap[B]?=some (.cells (xC n rv q) 3)) :
  (Builtin.copy_ #[38,38] 3 #[.slice (some ⟨B,q,none⟩) (n - q) (n - q),.slice (some ⟨B,0,none⟩) q n]).run Tryz.prog W=.ok (.int .i64 (m:Int)) (W.setRow B (xC n rv (q+m))):=by
 have h:=run_copy_row Tryz.prog W 38 38 3 3 B q (n - q) (n - q) ⟨B,0,none⟩ q n (xC n rv q) 3 (List.replicate m (.int .i64 rv)) Tryz.underlying38 (by kernel_rfl) hB (by rw[List.length_replicate];exact hm)
  (fun j v hj=>by
   rw[List.getElem?_replicate]at hj;by_cases TZ:j<m
   ·rw[if_pos TZ]at hj;cases hj;rw[Addr.add_lit,ab hB,Nat.zero_add,KJ _ _ _ _ (by omega),if_pos (by omega)]
   ·rw[if_neg TZ]at hj;cases hj) (by unfold xC;rw[pI,List.length_replicate];exact h1) (fun v hv=>by rw[(List.mem_replicate.1 hv).2];rfl)
 rw[h];have e:=OD n rv q m h1;rw[List.length_replicate];exact congrArg (fun r=>Result.ok (Value.int .i64 (m:Int)) (W.setRow B r)) e
theorem sD{n:Nat} {w W:World} {g:Nat} {c:Array Value} (hn:n<=g) (h:Below n w W):Below n w (W.setRow g c):=
 ⟨h.os,h.tape,h.output,by simpa using h.size,fun k hk=>(setRow_other W g k c (by omega)).trans (h.block k hk)⟩
def qL(wq W2:World) (i:Nat) (D:Nat->Bool) (_x:Nat->Value) (W:World):Prop:=W=bif D i then W2 else wq
theorem qL.other{wq W2 W:World} {i j:Nat} {D:Nat->Bool} {x:Nat->Value} (h:qL wq W2 i D x W) (v:Value) (hj:i≠j):qL wq W2 i (br D j) (bQ x j v) W:=by
 unfold qL at h ⊢;simp only[br,if_neg hj];exact h
theorem qL.hit{wq W2:World} {i:Nat} {D:Nat->Bool} {x:Nat->Value} (v:Value):qL wq W2 i (br D i) (bQ x i v) W2:=by simp[qL,br]
theorem qL.yes{wq W2 W:World} {i:Nat} {D:Nat->Bool} {x:Nat->Value} (h:qL wq W2 i D x W) (hD:D i=true):W=W2:=by unfold qL at h;rw[hD]at h;exact h
theorem vZ(rv:Int) (n:Nat) (h1:1<=n) (hn:n<=8192) (p:Nat) (w:World) (hp:w.heap[p]?=some (.cells #[.int .i64 rv] 3)) :
  Calls Tryz.prog 37 #[.slice (some ⟨p,0,none⟩) 1 1,.int .i64 n] w fun e w'=>e=.returned (.slice (some ⟨w.heap.size,0,none⟩) n n)/\w'.heap[w.heap.size]?=some (.cells (xC n rv n) 3)/\Below w.heap.size w w':=by
 have Jy:=fun W=>Tryz.bits_Mul 1 n (by omega) (by omega) W
 have e1:1 * n / 18446744073709551616=0:=by omega
 have e2:1 * n % 18446744073709551616=n:=by omega
 rw[e1,e2]at Jy;have hu:Tryz.prog.underlying 38=some (.slice 3):=Tryz.underlying38;have hs:(Tryz.prog.info? 3).map (·.size)=some 1:=by kernel_rfl
 have gc:=BU (fun _=>rv) n (by omega);have HM:=aa Jy;have HK:=aa gc;clear Jy gc e1 e2;have JK:¬ (9223372036854775807:Int)<n:=by omega
 have FG:¬ (n:Int)<0:=by omega
 have jx:IntKind.u64.wrap (n:Int)=n:=by rw[IntKind.wrap_u64];omega
 have vJ:IntKind.i64.wrap (n:Int)=n:=by rw[IntKind.wrap_i64];omega
 go_enter Tryz.func37,Tryz.ntmps37
 go_wp2_with fail
 refine(HM.o _).mono ?_;rintro e w' ⟨rfl,rfl⟩;have gc:=HK.o;have Xs:(w'.alloc (.cells (fC n (fun _=>rv) 0) 3)).heap[w'.heap.size]?=some (.cells (xC n rv 0) 3):=aq _ _;have jI:=Mf rv n h1 p w'.heap.size _ (az _ hp) Xs
 go_wp2_with (at_builtin;refine xQ rfl rfl rfl rfl jI ?_)
 refine bF (fun W=>Below w'.heap.size w' W/\W.heap[w'.heap.size]?=some (.cells (xC n rv 1) 3)) ⟨sD (Nat.le_refl _) ((Below.refl _ w').alloc (Nat.le_refl _) _),rk _ _ _ _ _ Xs⟩ (fun W0 bh=>?_);clear jI Xs gc HM HK
 go_loopw [8] (fun i wr=>Below w'.heap.size w' wr/\∃ q:Nat,1<=q/\q<=n/\i=.int .i64 q/\wr.heap[w'.heap.size]?=some (.cells (xC n rv q) 3)) (fun i _=>n - (intOf i).toNat)
 ·exact⟨bh.1,1,by omega,h1,rfl,bh.2⟩
 ·
  obtain⟨aB,q,hq1',hq2',rfl,cA⟩:=hrel;clear bh W0;by_cases aD:q<n
  ·obtain⟨m,hm⟩:∃ m,m=min q (n - q):=⟨_,rfl⟩;have F6:q+m<=n:=by omega
   have Ye:1<=m:=by omega
   have kN:(q:Int)<n:=by omega
   have hle':(q:Int)<=n:=by omega
   have hne1:¬ n=q:=by omega
   have hne2:¬ q=n:=by omega
   have hw3:IntKind.i64.wrap ((q:Int)+(m:Int))=(q:Int)+(m:Int):=by rw[IntKind.wrap_i64];omega
   have ja:=OE rv n q m F6 hm w'.heap.size wr.drew cA;have mF:wr.drew.heap[w'.heap.size]?=some (.cells (xC n rv q) 3):=cA;have Em:Below w'.heap.size w' wr.drew:=aB.drew;clear hm cA aB
   go_wp2_with fail
   obtain⟨wq,Jm⟩:∃ wq,wr.drew=wq:=⟨_,rfl⟩;rw[Jm]at ja mF Em;refine BJ 10 [38,39,40,41,42,43,44,45,46,8] [some (Value.int .i64 (q:Int)),some (Value.slice (some ⟨w'.heap.size,0,none⟩) n n),some (Value.int .i64 (q:Int)),some (Value.slice (some ⟨w'.heap.size,q,none⟩) (n - q) (n - q)),some (Value.slice (some ⟨w'.heap.size,0,none⟩) n n),some (Value.int .i64 (q:Int)),some (Value.slice (some ⟨w'.heap.size,0,none⟩) q n),some (Value.int .i64 (m:Int)),some (Value.int .i64 ((q:Int)+(m:Int))),some (Value.int .i64 ((q:Int)+(m:Int)))] (qL wq (wq.setRow w'.heap.size (xC n rv (q+m))) 7) (by kernel_rfl) rfl (by decide) rfl (by kernel_rfl) (fun _=>Jm) ?step ?tail
   case step=>
    intro x W D i o s F hi ho hs hD cP bX ar hv aP hF;have fO:i=0\/i=1\/i=2\/i=3\/i=4\/i=5\/i=6\/i=7\/i=8\/i=9:=by omega
    rcases fO with rfl|rfl|rfl|rfl|rfl|rfl|rfl|rfl|rfl|rfl
    all_goals (have dM:=cP _ _ hs hD;obtain rfl:=dp ho.symm;obtain rfl:=dp hs.symm)
    ·have FS:D 9=false:=by
      cases h:D 9 with
      | false=>rfl
      | true=>exact absurd (bX 9 _ rfl h ⟨0,.phase⟩ (by simp) rfl) (by rw[hD];decide)
     have e8:F.getD 8 undef=Value.int .i64 (q:Int):=by(rw[hF];exact(l5 (by decide) (i:=9) rfl (Nat.le_of_ble_eq_true (by kernel_rfl))).trans (cP 9 8 rfl FS))
     clear FS;refine p8 (.tmp 8) rfl rfl ?_;refine cf.mk (F.getD 8 undef) (fun c hc=>e8.trans (dp hc)) ?_ rfl;exact aP.other _ (by decide)
    ·have e7:F.getD 7 undef=Value.slice (some ⟨w'.heap.size,0,none⟩) n n:=lP hF (by decide) rfl;refine p8 (.tmp 7) rfl rfl ?_;refine cf.mk (F.getD 7 undef) (fun c hc=>e7.trans (dp hc)) ?_ rfl;exact aP.other _ (by decide)
    ·have FS:D 9=false:=by
      cases h:D 9 with
      | false=>rfl
      | true=>exact absurd (bX 9 _ rfl h ⟨2,.phase⟩ (by simp) rfl) (by rw[hD];decide)
     have e8:F.getD 8 undef=Value.int .i64 (q:Int):=by(rw[hF];exact(l5 (by decide) (i:=9) rfl (Nat.le_of_ble_eq_true (by kernel_rfl))).trans (cP 9 8 rfl FS))
     clear FS;refine p8 (.tmp 8) rfl rfl ?_;refine cf.mk (F.getD 8 undef) (fun c hc=>e8.trans (dp hc)) ?_ rfl;exact aP.other _ (by decide)
    ·have g1:=ar ⟨1,.data⟩ (by simp) rfl;have d1:=hv 1 _ (by omega) g1 rfl;have e39:=fB hF 1 39 (by decide) rfl (by kernel_rfl) d1;have e39':=dE e39;have g2:=ar ⟨2,.data⟩ (by simp) rfl;have d2:=hv 2 _ (by omega) g2 rfl;have e40:=fB hF 2 40 (by decide) rfl (by kernel_rfl) d2;have e40':=dE e40;have HC:=aa aP;clear ar hi hv aP cP bX hF dM ja mF Em Jm g1 d1 g2 d2
     go_wp2_with fail
     exact cf.mk _ fS (HC.o.other _ (by decide)) rfl
    ·have e7:F.getD 7 undef=Value.slice (some ⟨w'.heap.size,0,none⟩) n n:=lP hF (by decide) rfl;refine p8 (.tmp 7) rfl rfl ?_;refine cf.mk (F.getD 7 undef) (fun c hc=>e7.trans (dp hc)) ?_ rfl;exact aP.other _ (by decide)
    ·have FS:D 9=false:=by
      cases h:D 9 with
      | false=>rfl
      | true=>exact absurd (bX 9 _ rfl h ⟨5,.phase⟩ (by simp) rfl) (by rw[hD];decide)
     have e8:F.getD 8 undef=Value.int .i64 (q:Int):=by(rw[hF];exact(l5 (by decide) (i:=9) rfl (Nat.le_of_ble_eq_true (by kernel_rfl))).trans (cP 9 8 rfl FS))
     clear FS;refine p8 (.tmp 8) rfl rfl ?_;refine cf.mk (F.getD 8 undef) (fun c hc=>e8.trans (dp hc)) ?_ rfl;exact aP.other _ (by decide)
    ·have g4:=ar ⟨4,.data⟩ (by simp) rfl;have d4:=hv 4 _ (by omega) g4 rfl;have e42:=fB hF 4 42 (by decide) rfl (by kernel_rfl) d4;have e42':=dE e42;have g5:=ar ⟨5,.data⟩ (by simp) rfl;have d5:=hv 5 _ (by omega) g5 rfl;have e43:=fB hF 5 43 (by decide) rfl (by kernel_rfl) d5;have e43':=dE e43;have HC:=aa aP;clear ar hi hv aP cP bX hF dM ja mF Em Jm g4 d4 g5 d5
     go_wp2_with fail
     exact cf.mk _ fS (HC.o.other _ (by decide)) rfl
    ·have g3:=ar ⟨3,.data⟩ (by simp) rfl;have d3:=hv 3 _ (by omega) g3 rfl;have e41:=fB hF 3 41 (by decide) rfl (by kernel_rfl) d3;have e41':=dE e41;have g6:=ar ⟨6,.data⟩ (by simp) rfl;have d6:=hv 6 _ (by omega) g6 rfl;have e44:=fB hF 6 44 (by decide) rfl (by kernel_rfl) d6;have e44':=dE e44;have hW:W=wq:=by(rw[aP,hD];rfl)
     subst hW;clear ar hi hv aP cP bX hF dM g3 d3 g6 d6;refine xQ rfl rfl e41 e44 ja ?_;exact cf.mk _ fS (qL.hit _) rfl
    ·have g0:=ar ⟨0,.data⟩ (by simp) rfl;have d0:=hv 0 _ (by omega) g0 rfl;have e38:=fB hF 0 38 (by decide) rfl (by kernel_rfl) d0;have e38':=dE e38;have g7:=ar ⟨7,.data⟩ (by simp) rfl;have d7:=hv 7 _ (by omega) g7 rfl;have e45:=fB hF 7 45 (by decide) rfl (by kernel_rfl) d7;have e45':=dE e45;have HC:=aa aP;clear ar hi hv aP cP bX hF dM ja mF Em Jm g0 d0 g7 d7
     go_wp2_with fail
     exact cf.mk _ fS (HC.o.other _ (by decide)) rfl
    ·have g8:=ar ⟨8,.data⟩ (by simp) rfl;have d8:=hv 8 _ (by omega) g8 rfl;have e46:=fB hF 8 46 (by decide) rfl (by kernel_rfl) d8;have e46':=dE e46;have g7:=ar ⟨7,.chain⟩ (by simp) rfl;have d7:=hv 7 _ (by omega) g7 rfl;have e45:=fB hF 7 45 (by decide) rfl (by kernel_rfl) d7;have e45':=dE e45;have HC:=aa aP;clear ar hi hv aP cP bX hF dM ja mF Em Jm g8 d8 g7 d7
     go_wp2_with fail
     exact cf.mk _ fS (HC.o.other _ (by decide)) rfl
   case tail=>
    intro x W' D F aS hv aP hF;have x0:=hv 0 _ (by omega) rfl;have x1:=hv 1 _ (by omega) rfl;have x2:=hv 2 _ (by omega) rfl;have x3:=hv 3 _ (by omega) rfl;have x4:=hv 4 _ (by omega) rfl;have x5:=hv 5 _ (by omega) rfl;have x6:=hv 6 _ (by omega) rfl;have x7:=hv 7 _ (by omega) rfl;have x8:=hv 8 _ (by omega) rfl;have x9:=hv 9 _ (by omega) rfl;have hWq:W'=wq.setRow w'.heap.size (xC n rv (q+m)):=aP.yes (aS 7 (by omega));clear aP;simp only[bD,cX,List.setIfInBounds_toArray,List.set_cons_succ,List.set_cons_zero,Nat.reduceAdd,x0,x1,x2,x3,x4,x5,x6,x7,x8,x9]at hF;subst hF hWq;clear hv aS ja Jm x0 x1 x2 x3 x4 x5 x6 x7 x8 x9
    go_wp2_with fail
    go_roundw
    ·exact⟨sD (Nat.le_refl _) Em,q+m,by omega,F6,by go_num,rk _ _ _ _ _ mF⟩
    ·simp[intOf];omega
  ·obtain rfl:q=n:=by omega
   go_wp2_with fail
   go_ret
   exact⟨rfl,cA,aB⟩
end Go.Proofs.YtmeaoneaephjeaaGreatDoor
namespace Go.Proofs.YtmeaoneaephjeaaGreatDoor
open Go.RowKit Go Go.Shelf
theorem lL(g:Nat):∀ (vs:List Value) (o:Nat) (w:World),(∀ k,k≠g->(w.setCells g o vs).heap[k]?=w.heap[k]?)/\(w.setCells g o vs).os=w.os/\(w.setCells g o vs).tape=w.tape/\(w.setCells g o vs).output=w.output/\(w.setCells g o vs).heap.size=w.heap.size
 | [],o,w=>⟨fun _ _=>rfl,rfl,rfl,rfl,rfl⟩
 | v :: r,o,w=>by
  obtain⟨h1,h2,h3,h4,h5⟩:=lL g r (o+1) (w.setCell ⟨g,o,none⟩ v);exact⟨fun k hk=>(h1 k hk).trans (Below.heap_setCell w ⟨g,o,none⟩ v k hk),h2,h3,h4,h5.trans (by simp)⟩
theorem mB(g:Nat) (e:TypeId) (fz:Nat × Nat):∀ (vs:List Value) (o:Nat) (w:World) (cur:Array Value),w.heap[g]?=some (.cells cur e fz)->o+vs.length<=cur.size →
  ∃ cur',(w.setCells g o vs).heap[g]?=some (.cells cur' e fz)/\cur'.size=cur.size/\cur'.toList.take (o+vs.length)=cur.toList.take o++vs
 | [],o,w,cur,hg,_=>⟨cur,hg,rfl,by simp⟩
 | v :: r,o,w,cur,hg,hl=>by
  simp only[List.length_cons]at hl;obtain⟨cur',h1,h2,h3⟩:=mB g e fz r (o+1) (w.setCell ⟨g,o,none⟩ v) (cur.setIfInBounds o v) (aH hg o v) (by simp;omega);refine⟨cur',h1,by simpa using h2,?_⟩;rw[show o+(v :: r).length=o+1+r.length by simp;omega,h3,Array.toList_setIfInBounds,List.take_succ_eq_append_getElem (by simp;omega),List.take_set_of_le (by omega),List.getElem_set_self];simp
def aI(w:World) (base:Nat) (e:TypeId) (size:Nat) (v:Value) (n:Nat) (xs:List Value):Prop:=
 xs.length=n * size/\((v=.slice none 0 0/\n=0)\/∃ g cap cur fz,v=.slice (some ⟨g,0,none⟩) n cap/\base<=g/\w.heap[g]?=some (.cells cur e fz)/\(∀ i,i<cur.size->¬ (fz.1<=i/\i<fz.2))/\n<=cap/\cap<=maxLen/\cur.size=cap * size/\cur.toList.take (n * size)=xs)
theorem aI.nil(w:World) (base:Nat) (e:TypeId) (size:Nat):aI w base e size (.slice none 0 0) 0 []:=⟨by simp,.inl ⟨rfl,rfl⟩⟩
theorem aI.of_owns{w:World} {base:Nat} {e:TypeId} {size:Nat} {v:Value} {n:Nat} {xs:List Value} (h:w.ownsRow base e size v n xs):aI w base e size v n xs:=by
 refine⟨h.1,?_⟩;rcases h.2 with hn|⟨g,cap,cur,hv,hb,hg,rest⟩
 ·exact .inl hn
 ·exact .inr ⟨g,cap,cur,(0,0),hv,hb,hg,fun i _ h=>by have:=h.2;simp at this,rest⟩
theorem aI.slice{w:World} {base size:Nat} {e:TypeId} {v:Value} {n:Nat} {xs:List Value} (h:aI w base e size v n xs):∃ a c,v=.slice a n c:=by
 rcases h.2 with ⟨rfl,rfl⟩|⟨g,cap,cur,fz,rfl,_⟩
 ·exact⟨_,_,rfl⟩
 ·exact⟨_,_,rfl⟩
theorem aI.ck{w w':World} {base size:Nat} {e:TypeId} {v:Value} {n:Nat} {xs:List Value} (h:aI w base e size v n xs) (hb:CK w w'):aI w' base e size v n xs:=by
 obtain⟨hl,h⟩:=h;refine⟨hl,?_⟩;rcases h with h|⟨g,cap,cur,fz,h1,h2,h3,h4⟩
 ·exact .inl h
 ·exact .inr ⟨g,cap,cur,fz,h1,h2,hb _ _ h3 rfl,h4⟩
theorem aI.up{w w':World} {base size:Nat} {e:TypeId} {v:Value} {n:Nat} {xs:List Value} (h:aI w base e size v n xs) (hb:Below w.heap.size w w'):aI w' base e size v n xs:=h.ck (.of_below hb)
theorem aI.lt{w:World} {base size:Nat} {e:TypeId} {v:Value} {n:Nat} {xs:List Value} (h:aI w base e size v n xs):∀ k,v.ownBlock=some k->base<=k/\k<w.heap.size:=by
 intro k hk;rcases h.2 with ⟨rfl,_⟩|⟨g,cap,cur,fz,rfl,hb,hg,_⟩
 ·simp[Value.ownBlock]at hk
 ·simp[Value.ownBlock]at hk;subst hk;exact⟨hb,aC hg⟩
theorem aI.ne{w:World} {base sz:Nat} {e e':TypeId} {v:Value} {n:Nat} {xs:List Value} {B:Nat} {cs:Array Value} {f:Nat × Nat} (h:aI w base e sz v n xs) (hB:w.heap[B]?=some (.cells cs e' f)) (bP:e≠e'):∀ g,v.ownBlock=some g->g≠B:=by
 intro g hg hgB;rcases h.2 with ⟨rfl,_⟩|⟨g',cap,cur,fz,rfl,_,h3,_⟩
 ·cases hg
 ·have:g'=g:=by simpa[Value.ownBlock] using hg
  rw[this,hgB,hB]at h3;cases h3;exact bP rfl
theorem aI.isCells{w:World} {base sz:Nat} {e:TypeId} {v:Value} {n:Nat} {xs:List Value} {B:Nat} {o:Obj} (h:aI w base e sz v n xs) (hB:w.heap[B]?=some o) (ho:o.isCells=false):some B≠v.ownBlock:=by
 intro hg;rcases h.2 with ⟨rfl,_⟩|⟨g',cap,cur,fz,rfl,_,h3,_⟩
 ·cases hg
 ·have:B=g':=by simpa[Value.ownBlock] using hg
  rw[<-this,hB]at h3;cases h3;cases ho
theorem aI.put{w:World} {base sz:Nat} {e:TypeId} {v:Value} {n:Nat} {xs:List Value} {B:Nat} (h:aI w base e sz v n xs) (bP:∀ g,v.ownBlock=some g->g≠B) (o:Nat) (x:Value):aI (w.setCell ⟨B,o,none⟩ x) base e sz v n xs:=by
 obtain⟨hl,h⟩:=h;refine⟨hl,?_⟩;rcases h with h|⟨g,cap,cur,fz,rfl,h2,h3,h4⟩
 ·exact .inl h
 ·exact .inr ⟨g,cap,cur,fz,rfl,h2,aN h3 (bP g rfl) _ _,h4⟩
theorem aI.base{w:World} {base base':Nat} {e:TypeId} {sz:Nat} {v:Value} {n:Nat} {xs:List Value} (h:aI w base e sz v n xs) (hb:base'<=base):aI w base' e sz v n xs:=by
 obtain⟨hl,h⟩:=h;refine⟨hl,?_⟩;rcases h with h|⟨g,cap,cur,fz,h1,h2,h3⟩
 ·exact .inl h
 ·exact .inr ⟨g,cap,cur,fz,h1,Nat.le_trans hb h2,h3⟩
theorem aI.cell{w:World} {base size:Nat} {e:TypeId} {v:Value} {n:Nat} {xs:List Value} (h:aI w base e size v n xs) (j:Nat) (u:Value) (hu:xs[j]?=some u):∃ g c,v=.slice (some ⟨g,0,none⟩) n c/\w.cell? ⟨g,j,none⟩=some u:=by
 rcases h.2 with ⟨rfl,hn⟩|⟨g,cap,cur,fz,rfl,_,hg,_,_,_,_,ht⟩
 ·subst hn;have:xs=[]:=List.eq_nil_of_length_eq_zero (by simpa using h.1);rw[this]at hu;simp at hu
 ·refine⟨g,cap,rfl,?_⟩;rw[ab hg];rw[<-ht,List.getElem?_take]at hu;split at hu
  ·simpa using hu
  ·cases hu
section
variable {P : Program} (w : World)
theorem rE(base:Nat) (t ty e:TypeId) (i:TypeInfo) (z:Value) (size bytes:Nat) (ht:P.underlying t=some (.slice e)) (hi:P.info? e=some i) (hz:i.zero=some z)
  (fd:i.size=size) (gH:i.bytes=bytes) (rY:z.cells.size=size) (eM:0<size)
  (v:Value) (n:Nat) (xs:List Value) (bg:aI w base e size v n xs)
  (a:Addr) (m c:Nat) (news:List Value) (hl:news.length=m * size) (bS:∀ j u,news[j]?=some u->w.cell? (a.add j)=some u) (h1:∀ u∈news,u.oneCell'=true)
  (oW:n+m<=maxLen) (gC:(n+m) * bytes<=140737488355328) (mE:base<=w.heap.size) :
  ∃ v' w',(Builtin.append_ #[t,t] ty #[v,.slice (some a) m c]).run P w=.ok v' w'/\aI w' base e size v' (n+m) (xs++news)/\w.grownBy w' v.ownBlock/\(v'.ownBlock=v.ownBlock\/v'.ownBlock=some w.heap.size):=by
 rcases bg.2 with ⟨rfl,rfl⟩|⟨g,cap,cur,fz,rfl,Db,hg,nh,iI,qn,jK,Nw⟩
 ·have hx:xs=[]:=List.eq_nil_of_length_eq_zero (by simpa using bg.1);subst hx;by_cases hm:m=0
  ·obtain⟨v',w',q1,q2,q3,q4⟩:=run_append_own (P:=P) w base t ty e i z size bytes ht hi hz fd gH rY eM (.slice none 0 0) 0 [] (World.ownsRow_nil w base e size) a m c news hl bS h1 oW gC mE;have:=q4.2 ⟨rfl,hm⟩;exact⟨v',w',q1,.of_owns q2,q3,.inl (by rw[this])⟩
  ·obtain⟨v',w',q1,q2,q3,q4⟩:=run_append_own (P:=P) w w.heap.size t ty e i z size bytes ht hi hz fd gH rY eM (.slice none 0 0) 0 [] (World.ownsRow_nil w _ e size) a m c news hl bS h1 oW gC (Nat.le_refl _);subst fd gH;have hr:=run_append_nil (P:=P) w t ty e i z ht hi hz a m c news hl bS (by omega) (by simp only[maxLen]at oW;omega) (by have hb:=gC;simp only[Nat.zero_add]at hb;omega);have e1:=hr.symm.trans q1;injection e1 with e1 e2
   subst e1 e2;exact⟨_,_,hr,(aI.of_owns q2).base mE,q3,.inr rfl⟩
 ·subst fd;have cN:(xs++news).length=(n+m) * i.size:=by rw[List.length_append,bg.1,hl,Nat.add_mul]
  by_cases mG:n+m<=cap
  ·have J1:n * i.size+news.length<=cur.size:=by rw[hl,jK,<-Nat.add_mul];exact Nat.mul_le_mul_right _ mG
   have hr:=run_append_room_cells (P:=P) w t ty e i ht hi g 0 n cap a m c news hl bS h1 mG (fun j hj=>by rw[Nat.zero_add,ab hg];simp;omega)
    (fun j hj=>by
     simp only[World.frozen?,hg,Nat.zero_add];have:=nh (n * i.size+j) (by omega)
     simpa using this)
   rw[Nat.zero_add]at hr;obtain⟨cur',g1,g2,g3⟩:=mB g e fz news (n * i.size) w cur hg J1;obtain⟨o1,o2,o3,o4,o5⟩:=lL g news (n * i.size) w;refine⟨_,_,hr,⟨cN,.inr ⟨g,cap,cur',fz,rfl,Db,g1,fun k hk=>nh k (by omega),mG,qn,by omega,?_⟩⟩,⟨o2,o3,o4,by omega,fun k _ hk=>o1 k (fun e=>hk (by rw[e];rfl))⟩,.inl rfl⟩;rw[Nat.add_mul,<-hl,g3,Nw]
  ·subst gH
   have CM:∀ j u,xs[j]?=some u->w.cell? ((⟨g,0,none⟩:Addr).add j)=some u:=fun j u hu=>by
    obtain⟨g',c',e1,hc⟩:=bg.cell j u hu;have:g'=g:=by simp at e1;exact e1.1.symm
    subst this;rw[<-hc];congr 1;unfold Addr.add;split<;>simp_all
   have hr:=run_append_grow (P:=P) w t ty e i z ht hi hz ⟨g,0,none⟩ n cap xs bg.1 CM a m c news hl bS (by omega) (by simp only[maxLen]at oW;omega) (growslice_fits (by omega) gC);obtain⟨v',w',q1,q2,q3⟩:=run_append_arg_grows (P:=P) w t ty e i z i.size i.bytes ht hi hz rfl rfl rY eM ⟨g,0,none⟩ n cap xs bg.1 CM a m c news hl bS (by omega) oW gC;have e1:=hr.symm.trans q1;injection e1 with e1 e2
   subst e1 e2;exact⟨_,_,hr,(aI.of_owns q2).base mE,⟨q3.os,q3.tape,q3.output,q3.size,fun k hk _=>q3.block k hk (by simp)⟩,.inr rfl⟩
theorem aZ{ops:Array Oper} {rest:List Oper} {o:Oper} {a:Act} {Q:Exit->Act->World->Prop} (lD:o.guard=none) (s x:Operand) (t:TypeId)
  (ho:o.op=.call { callee:=.builtin .append,args:=#[s,x],argTypes:=#[t,t] })
  (base:Nat) (e:TypeId) (i:TypeInfo) (z:Value) (size bytes:Nat) (ht:P.underlying t=some (.slice e)) (hi:P.info? e=some i) (hz:i.zero=some z)
  (fd:i.size=size) (gH:i.bytes=bytes) (rY:z.cells.size=size) (eM:0<size)
  (v:Value) (n:Nat) (xs:List Value) (hs:a.eval s=v) (bg:aI w base e size v n xs)
  (ad:Addr) (m c:Nat) (news:List Value) (hx:a.eval x=.slice (some ad) m c) (hl:news.length=m * size) (bS:∀ j u,news[j]?=some u->w.cell? (ad.add j)=some u) (h1:∀ u∈news,u.oneCell'=true)
  (oW:n+m<=maxLen) (gC:(n+m) * bytes<=140737488355328) (mE:base<=w.heap.size)
  (h:∀ v' w',aI w' base e size v' (n+m) (xs++news)->w.grownBy w' v.ownBlock->(v'.ownBlock=v.ownBlock\/v'.ownBlock=some w.heap.size)->wpList P ops Q rest (a.put o.dst v') w'):wpList P ops Q (o :: rest) a w:=by
 refine wpList_plain lD fun _ hK=>?_
 obtain⟨v',w',hr,h2,h3,h4⟩:=rE (P:=P) w base t o.type e i z size bytes ht hi hz fd gH rY eM v n xs bg ad m c news hl bS h1 oW gC mE;unfold Oper.wp execOp;simp only[ho,resolve,invoke,builtin,Sem.run_bind,Sem.run_pure,Result.andThen_ok,List.map_toArray,List.map_cons,List.map_nil,hs,hx,hr];exact hK _ _ (h v' w' h2 h3 h4)
theorem qS{F:Fence} {d:Nat} {ops:Array Oper} {rest:List Oper} {o:Oper} {a:Act} {Q:Exit->Act->World->Prop} (lD:o.guard=none) (s x:Operand) (t:TypeId)
  (ho:o.op=.call { callee:=.builtin .append,args:=#[s,x],argTypes:=#[t,t] })
  (base:Nat) (e:TypeId) (i:TypeInfo) (z:Value) (size bytes:Nat) (ht:P.underlying t=some (.slice e)) (hi:P.info? e=some i) (hz:i.zero=some z)
  (fd:i.size=size) (gH:i.bytes=bytes) (rY:z.cells.size=size) (eM:0<size)
  (v:Value) (n:Nat) (xs:List Value) (hs:a.eval s=v) (bg:aI w base e size v n xs)
  (ad:Addr) (m c:Nat) (news:List Value) (hx:a.eval x=.slice (some ad) m c) (hl:news.length=m * size) (bS:∀ j u,news[j]?=some u->w.cell? (ad.add j)=some u) (h1:∀ u∈news,u.oneCell'=true)
  (oW:n+m<=maxLen) (gC:(n+m) * bytes<=140737488355328) (mE:base<=w.heap.size)
  (h:∀ v' w',aI w' base e size v' (n+m) (xs++news)->w.grownBy w' v.ownBlock->(v'.ownBlock=v.ownBlock\/v'.ownBlock=some w.heap.size)->wpListIn F d P ops Q rest (a.put o.dst v') w'):wpListIn F d P ops Q (o :: rest) a w:=by
 refine wpListIn_plain lD fun K hK'=>?_
 obtain⟨v',w',SN,r1,r2,r3⟩:=rE (P:=P) w base t o.type e i z size bytes ht hi hz fd gH rY eM v n xs bg ad m c news hl bS h1 oW gC mE;unfold Oper.wpIn;refine⟨?_,?_⟩
 ·simp[Oper.about,ho,resolve,Target.leads,Sem.run_pure]
 ·rw[Oper.semAt_plain F _ _ (by rw[ho];intro c k8;cases k8)];simp[execOp,ho,resolve,invoke,builtin,hs,hx,SN,Result.andThen];exact hK' _ _ (h v' w' r1 r2 r3)
end
theorem aI.apart{w w':World} {base base' k k':Nat} {e e':TypeId} {u v:Value} {n m:Nat} {xs ys:List Value} (h:aI w base e k u n xs) (hv:aI w base' e' k' v m ys) (bP:e≠e') (hg:w.grownBy w' v.ownBlock):aI w' base e k u n xs:=by
 obtain⟨hl,h⟩:=h;refine⟨hl,?_⟩;rcases h with h|⟨g,cap,cur,fz,h1,h2,h3,h4⟩
 ·exact .inl h
 ·refine .inr ⟨g,cap,cur,fz,h1,h2,(hg.block g (aC h3) (fun e1=>?_)).trans h3,h4⟩;exact hv.ne h3 (Ne.symm bP) g e1.symm rfl
def cB{α:Type} (to ti:TypeId) (k:Nat) (flat:List α->List Value) (w:World) (base:Nat) (v:Value) (l:List (List α)):Prop:=
 ∃ xs:List Value,aI w base to 1 v l.length xs/\∀ i (hi:i<l.length),∃ x,xs[i]?=some x/\aI w base ti k x l[i].length (flat l[i])
section
variable {α : Type} {to ti : TypeId} {k : Nat} {flat : List α → List Value} {w w' : World} {base : Nat} {v : Value} {l : List (List α)}
theorem cB.nil(w:World) (base:Nat):cB to ti k flat w base (.slice none 0 0) []:=⟨[],aI.nil _ _ _ _,fun i hi=>by simp at hi⟩
theorem cB.ck(h:cB to ti k flat w base v l) (hb:CK w w'):cB to ti k flat w' base v l:=by
 obtain⟨xs,h1,h2⟩:=h;exact⟨xs,h1.ck hb,fun i hi=>by obtain⟨x,q1,q2⟩:=h2 i hi;exact⟨x,q1,q2.ck hb⟩⟩
theorem cB.up(h:cB to ti k flat w base v l) (hb:Below w.heap.size w w'):cB to ti k flat w' base v l:=h.ck (.of_below hb)
theorem cB.snoc{xs:List Value} (h1:aI w base to 1 v l.length xs) (h2:∀ i (hi:i<l.length),∃ x,xs[i]?=some x/\aI w base ti k x l[i].length (flat l[i])) (bP:ti≠to) {x:Value} {a:List α} (hx:aI w base ti k x a.length (flat a))
  (hg:w.grownBy w' v.ownBlock) {v':Value} (ho:aI w' base to 1 v' (l.length+1) (xs++[x])):cB to ti k flat w' base v' (l++[a]):=by
 have hl:xs.length=l.length:=by have:=h1.1;omega
 refine⟨xs++[x],by simpa using ho,fun i hi=>?_⟩;simp at hi;by_cases aD:i<l.length
 ·obtain⟨y,q1,q2⟩:=h2 i aD;refine⟨y,by rw[List.getElem?_append_left (by omega)];exact q1,?_⟩;rw[List.getElem_append_left aD];exact q2.apart h1 bP hg
 ·obtain rfl:i=l.length:=by omega
  refine⟨x,by rw[<-hl,List.getElem?_append_right (Nat.le_refl _)];simp,?_⟩;have e:(l++[a])[l.length]'(by simp)=a:=by simp
  rw[e];exact hx.apart h1 bP hg
theorem cB.sl{R:World->Nat->Nat->α->Prop} (h:cB to ti k flat w base v l) (hr:∀ (x:Value) (a:List α),a∈l->aI w base ti k x a.length (flat a)->fe k R w x a) (hn:l.length<=17592186044416):fe 1 (mH k R) w v l:=by
 obtain⟨xs,h1,h2⟩:=h;rcases h1.2 with ⟨rfl,h0⟩|⟨g,cap,cur,fz,rfl,_,hg,_,iI,qn,_,ht⟩
 ·have:l=[]:=List.eq_nil_of_length_eq_zero h0;subst this;exact⟨none,0,rfl,⟨by simp,by omega,fun _=>rfl⟩,by simp,fun i x hx=>by simp at hx⟩
 ·refine⟨some ⟨g,0,none⟩,cap,rfl,⟨iI,by unfold maxLen at qn;omega,fun e=>by cases e⟩,hn,fun i a ha=>⟨g,0,rfl,?_⟩⟩;obtain⟨hi,rfl⟩:=List.getElem?_eq_some_iff.1 ha;obtain⟨x,q1,q2⟩:=h2 i hi;refine⟨x,?_,hr x _ (List.getElem_mem hi) q2⟩;rw[Nat.zero_add,Nat.mul_one,ab hg];rw[<-ht,List.getElem?_take]at q1;split at q1
  ·simpa using q1
  ·cases q1
end
end Go.Proofs.YtmeaoneaephjeaaGreatDoor
