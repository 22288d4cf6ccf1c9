/-
  A part of the proof: lemmas and contracts that the parts behind it use. Each one's conditions are its own premises.
-/
import Derived.ChangeKeysEq
import Derived.WalkSpells
import Derived.Laws.AppendOwnNone
import Derived.Test.YtmeaoneaephjeaaGreatDoorS2
set_option maxRecDepth 100000
set_option maxHeartbeats 8000000
set_option linter.unusedVariables false
set_option linter.unusedSimpArgs false
namespace Go.Proofs.YtmeaoneaephjeaaGreatDoor
open Go.RowKit Go
theorem Hk(d:Nat) (a0 a1 a2 a3 a4 b0 b1 b2 b3 b4:Int) (w:World):(Op.equalIn (d+2) 137 (.agg #[.int .i64 a0,.int .i64 a1,.int .i64 a2,.int .i64 a3,.int .i64 a4]) (.agg #[.int .i64 b0,.int .i64 b1,.int .i64 b2,.int .i64 b3,.int .i64 b4])).run Tryz.prog w=.ok (decide (a0=b0/\a1=b1/\a2=b2/\a3=b3/\a4=b4)) w:=by
 obtain⟨i,hi⟩:∃ i,Tryz.prog.info? 3=some i:=Option.isSome_iff_exists.1 (by kernel_rfl);have hc:Tryz.prog.cellsOf 3=1:=by kernel_rfl
 rw[run_equalIn_array w (d+1) _ _ Tryz.underlying137 hi,hc];have ag:=Tryz.isAgg3;have u3:=Tryz.underlying3;have hr:List.range 5=[0,1,2,3,4]:=rfl;rw[hr];simp only[Op.eqItems,Sem.run_bind,part,ag,Result.andThen_ok];simp[run_equalIn_int w d 3 _ .i64 _ _ u3];by_cases h0:a0=b0
 case neg=>simp[h0]
 by_cases h1:a1=b1
 case neg=>simp[h0,h1]
 by_cases h2:a2=b2
 case neg=>simp[h0,h1,h2]
 by_cases h3:a3=b3
 case neg=>simp[h0,h1,h2,h3]
 by_cases h4:a4=b4<;>simp[h0,h1,h2,h3,h4]
theorem DH(d:Nat) (a b:Gr) (w:World):(Op.equalIn (d+3) 139 a.v b.v).run Tryz.prog w=.ok (decide (a=b)) w:=by
 have hS:Tryz.prog.underlying 139=some (.struct (Tryz.prog.fieldsOf 139)):=by kernel_rfl
 have hp:Tryz.prog.stoodInHeld 139=false:=by kernel_rfl
 rw[run_equalIn_struct w (d+2) 139 _ _ hS hp];have ag:=Tryz.isAgg3;have ah:=Tryz.isAgg137;have zh:=Tryz.sizeOf137;have u3:=Tryz.underlying3;simp only[Program.fieldsOf,Tryz.underlying139];simp[Op.eqFields,part,ag,ah,zh,run_equalIn_int w (d+1) 3 _ .i64 _ _ u3,Hk d];obtain⟨n,h0,h1,h2,h3,h4⟩:=a;obtain⟨m,g0,g1,g2,g3,g4⟩:=b;by_cases hn:n=m
 case neg=>simp[hn]
 by_cases hh:h0=g0/\h1=g1/\h2=g2/\h3=g3/\h4=g4<;>simp[hn,hh]
theorem DI(d:Nat) (a b:Rd) (w:World):(Op.equalIn (d+4) 141 a.v b.v).run Tryz.prog w=.ok (decide (a=b)) w:=by
 have hS:Tryz.prog.underlying 141=some (.struct (Tryz.prog.fieldsOf 141)):=by kernel_rfl
 have hp:Tryz.prog.stoodInHeld 141=false:=by kernel_rfl
 rw[run_equalIn_struct w (d+3) 141 _ _ hS hp];have ag:=Tryz.isAgg3;have ah:=Tryz.isAgg139;have zh:=Tryz.sizeOf139;have u3:=Tryz.underlying3;have hg:=DH d a.g b.g w;simp only[Program.fieldsOf,Tryz.underlying141];simp[Op.eqFields,part,ag,ah,zh,run_equalIn_int w (d+2) 3 _ .i64 _ _ u3,hg];obtain⟨ga,fa⟩:=a;obtain⟨gb,fb⟩:=b;by_cases hn:ga=gb
 case neg=>simp[hn]
 by_cases hh:fa=fb<;>simp[hn,hh]
theorem Ov(a b:Gr) (w:World):(binOp .eql 139 a.v b.v).run Tryz.prog w=.ok (.bool (decide (a=b))) w:=by
 rw[run_eql_struct,DH 9997];rfl
theorem Ow(a b:Gr) (w:World):(binOp .neq 139 a.v b.v).run Tryz.prog w=.ok (.bool (!decide (a=b))) w:=by
 rw[run_neq_struct,DH 9997];rfl
theorem Ox(a b:Rd) (w:World):(binOp .eql 141 a.v b.v).run Tryz.prog w=.ok (.bool (decide (a=b))) w:=by
 rw[run_eql_struct,DI 9996];rfl
theorem p7(a:Int):cmpI a a=0:=by unfold cmpI;grind
theorem lm{a b:Int} (h:cmpI a b=0):a=b:=by unfold cmpI at h;grind
theorem uf(a:Gr):fp a a=0:=by
 unfold fp;rw[p7];simp;exact cU _ _ (fun j _=>p7 _)
theorem mV(g:Gr) (k:Nat) (hk:k<5) (w:World) (B:Nat) (hw:w.heap[B]?=some (.cells #[.int .i64 g.n,.int .i64 g.h0,.int .i64 g.h1,.int .i64 g.h2,.int .i64 g.h3,.int .i64 g.h4] 139)) :
  w.cell? ⟨B,1+k,none⟩=some (.int .i64 (g.hear k)):=by
 have:k=0\/k=1\/k=2\/k=3\/k=4:=by omega
 rcases this with h|h|h|h|h<;>subst h<;>simp[World.cell?,hw,Gr.hear]
theorem A7(a b:Gr) (w:World) :
  Calls Tryz.prog 224 #[a.v,b.v] w fun e w'=>e=.returned (.int .i64 (fp a b))/\Below w.heap.size w w':=by
 by_cases Ao:a=b
 ·subst Ao;have jQ:∀ w,(binOp .eql 139 a.v a.v).run Tryz.prog w=.ok (.bool true) w:=fun w=>by rw[Ov];simp
  have H:=aa (uf a);obtain⟨n,h0,h1,h2,h3,h4⟩:=a
  go_enter Tryz.func224,Tryz.ntmps224
  go_wp2
  go_ret;exact⟨aG H.o.symm,by go_grown⟩
 have jQ:∀ w,(binOp .eql 139 a.v b.v).run Tryz.prog w=.ok (.bool false) w:=fun w=>by rw[Ov];simp[Ao]
 clear Ao;by_cases hn:a.n=b.n
 ·have iM:(a.n != b.n)=false:=by simp[hn]
  have HC:am (fp a b=bm 5 fun p=>cmpI (a.hear p) (b.hear p)):=by(have h:fp a b=bm 5 fun p=>cmpI (a.hear p) (b.hear p):=by(unfold fp;rw[hn,p7];simp));exact h
  clear hn
  go_enter Tryz.func224,Tryz.ntmps224
  go_wp2
  refine bF (fun W=>Below w.heap.size w W/\W.heap[w.heap.size]?=some (.cells #[.int .i64 a.n,.int .i64 a.h0,.int .i64 a.h1,.int .i64 a.h2,.int .i64 a.h3,.int .i64 a.h4] 139)/\W.heap[w.heap.size+1]?=some (.cells #[.int .i64 b.n,.int .i64 b.h0,.int .i64 b.h1,.int .i64 b.h2,.int .i64 b.h3,.int .i64 b.h4] 139))
   ⟨by go_grown,aq _ (ap _ _),by have:=ap (w.alloc (.cells #[.int .i64 a.n,.int .i64 a.h0,.int .i64 a.h1,.int .i64 a.h2,.int .i64 a.h3,.int .i64 a.h4] 139));rw[World.size_alloc]at this;exact this _⟩ (fun W0 bd=>?_)
  obtain⟨aK,hA,hB⟩:=bd;have HA:=aa hA;clear hA;have HB:=aa hB;clear hB
  go_loopw [20] (fun i wr=>Below W0.heap.size W0 wr/\∃ k:Nat,k<=5/\i=.int .i64 k/\∀ j,j<k->cmpI (a.hear j) (b.hear j)=0) (fun i _=>5 - (intOf i).toNat)
  ·exact⟨Below.refl _ _,0,by omega,rfl,by simp⟩
  ·
   obtain⟨aA,k,hk,rfl,aU⟩:=hrel;have H:=aa aU;clear aU;by_cases aB:k<5
   ·have c1:∀ x:ExtW wr,x.val.cell? ⟨w.heap.size,1+k,none⟩=some (.int .i64 (a.hear k)):=fun x=>x.cell (mV a k aB wr _ (af aA HA.o))
    have c2:∀ x:ExtW wr,x.val.cell? ⟨w.heap.size+1,1+k,none⟩=some (.int .i64 (b.hear k)):=fun x=>x.cell (mV b k aB wr _ (af aA HB.o))
    go_wp2
    refine aF (by kernel_rfl) (by kernel_rfl) ?_
    repeat (quiet_step ((go_at_call 203;exact Calls.ext_of ((zu _ _ _).mono fun _ _ ⟨h1,h2⟩=>⟨h1,h2 ▸ Below.refl _ _⟩))))
    refine wpQuiet_nil ?_;intro _ eE;obtain⟨xq,dj⟩:=eE;subst dj
    go_wp2
    ·have ht:(cmpI (a.hear k) (b.hear k) != 0)=true:=by assumption
     go_ret
     exact⟨aG (by rw[HC.o];exact bV k _ aB H.o rfl (by simpa using ht)),ae aK (ae aA xq.ext)⟩
    ·have ht:(cmpI (a.hear k) (b.hear k) != 0)=false:=by assumption
     go_roundw
     ·exact⟨ae aA xq.ext,k+1,by omega,by go_num,aV H.o (by simpa using ht)⟩
     ·simp[intOf];omega
   ·go_wp2
    go_ret;exact⟨aG (by rw[HC.o,cU];intro j hj;exact H.o j (by omega)),ae aK aA⟩
 ·have iM:(a.n != b.n)=true:=by simp[hn]
  have HC:am (fp a b=cmpI a.n b.n):=by unfold fp;rw[if_pos];exact rfl;intro h;exact hn (lm h)
  clear hn
  go_enter Tryz.func224,Tryz.ntmps224
  go_wp2_with (go_at_call 203;refine(zu _ _ _).mono ?_;rintro e w' ⟨rfl,rfl⟩)
  go_ret;exact⟨aG HC.o.symm,by go_grown⟩
theorem DJ(r:Rd) (w:World) :
  Calls Tryz.prog 219 #[r.v] w fun e w'=>e=.returned (.int .i64 (roundE r))/\Below w.heap.size w w':=by
 obtain⟨⟨n,h0,h1,h2,h3,h4⟩,f⟩:=r
 go_enter Tryz.func219,Tryz.ntmps219
 go_wp2_with (first
  | (go_at_call 222;refine(DG ⟨_,_,_,_,_,_⟩ _).mono ?_;rintro e w1 ⟨rfl,hb⟩;obtain⟨hc,hf⟩:=LS hb)
  | (go_at_call 223;refine(A6 _ _ _).mono ?_;rintro e w2 ⟨rfl,rfl⟩))
 all_goals
  go_ret
  refine⟨aG ?_,?_⟩
  ·go_light
   unfold roundE
   grind
  ·exact ae (by go_grown) hb
theorem J3(a:Rd):roundC a a=0:=by
 unfold roundC;rw[uf,p7];simp
theorem Ri{a b:Gr} (hn:a.n=b.n) (h:∀ j,j<5->cmpI (a.hear j) (b.hear j)=0):a=b:=by
 obtain⟨n,h0,h1,h2,h3,h4⟩:=a;obtain⟨m,g0,g1,g2,g3,g4⟩:=b;have e0:=lm (h 0 (by omega));have e1:=lm (h 1 (by omega));have e2:=lm (h 2 (by omega));have e3:=lm (h 3 (by omega));have e4:=lm (h 4 (by omega));simp[Gr.hear]at e0 e1 e2 e3 e4 hn;simp[e0,e1,e2,e3,e4,hn]
theorem J4{a b:Gr} (h:fp a b=0):a=b:=by
 unfold fp at h;by_cases hc:cmpI a.n b.n=0
 ·rw[if_neg (by simpa using hc)]at h;exact Ri (lm hc) (fB h)
 ·rw[if_pos hc]at h;exact absurd h hc
theorem A8(a b:Rd) (w:World) :
  Calls Tryz.prog 220 #[a.v,b.v] w fun e w'=>e=.returned (.int .i64 (roundC a b))/\Below w.heap.size w w':=by
 by_cases Ao:a=b
 ·subst Ao;have jQ:∀ w,(binOp .eql 141 a.v a.v).run Tryz.prog w=.ok (.bool true) w:=fun w=>by rw[Ox];simp
  have H:=aa (J3 a)
  go_enter Tryz.func220,Tryz.ntmps220
  go_wp2
  go_ret;exact⟨aG H.o.symm,by go_grown⟩
 have jQ:∀ w,(binOp .eql 141 a.v b.v).run Tryz.prog w=.ok (.bool false) w:=fun w=>by rw[Ox];simp[Ao]
 by_cases hg:a.g=b.g
 ·have bR:∀ w,(binOp .neq 139 a.g.v b.g.v).run Tryz.prog w=.ok (.bool false) w:=fun w=>by rw[Ow];simp[hg]
  have HC:am (roundC a b=cmpI a.f b.f):=by(have h:roundC a b=cmpI a.f b.f:=by(unfold roundC;rw[hg,uf];simp));exact h
  clear hg Ao
  go_enter Tryz.func220,Tryz.ntmps220
  go_wp2_with (go_at_call 203;refine(zu _ _ _).mono ?_;rintro e w' ⟨rfl,rfl⟩)
  go_ret;exact⟨aG HC.o.symm,by go_grown⟩
 ·have bR:∀ w,(binOp .neq 139 a.g.v b.g.v).run Tryz.prog w=.ok (.bool true) w:=fun w=>by rw[Ow];simp[hg]
  have HC:am (roundC a b=fp a.g b.g):=by(have h:roundC a b=fp a.g b.g:=by(unfold roundC;rw[if_pos (fun h=>hg (J4 h))]));exact h
  clear hg Ao
  go_enter Tryz.func220,Tryz.ntmps220
  go_wp2_with (go_at_call 224;refine(A7 a.g b.g _).mono ?_;rintro e w1 ⟨rfl,hb⟩)
  go_ret;exact⟨aG HC.o.symm,ae (by go_grown) hb⟩
theorem jr(va vb:Value) (a b:List Int) (w:World) (ha:aX w va a) (hb:aX w vb b) :
  Calls Tryz.prog 15 #[va,vb] w fun e w'=>e=.returned (.bool (eqV a b))/\Below w.heap.size w w':=by
 obtain⟨pa,ca,rfl,la1,la2,ea⟩:=ha.at;obtain⟨pb,cb,rfl,lb1,lb2,eb⟩:=hb.at;clear ha hb;have EA:=aa ea;clear ea;have EB:=aa eb;clear eb;by_cases hl:a.length=b.length
 ·have ir:((a.length:Int) != (b.length:Int))=false:=by simp[hl]
  have HL:=aa hl;clear hl
  go_enter Tryz.func15,Tryz.ntmps15
  go_wp2
  go_loopw [13] (fun i wr=>Below w.heap.size w wr/\∃ k:Nat,k<=a.length/\i=.int .i64 k/\∀ j,j<k->a.getD j 0=b.getD j 0) (fun i _=>a.length - (intOf i).toNat)
  ·exact⟨Below.refl _ _,0,by omega,rfl,by simp⟩
  ·
   obtain⟨aA,k,hk,rfl,aU⟩:=hrel;have H:=aa aU;clear aU;by_cases aB:k<a.length
   ·obtain⟨b1,o1,rfl,h1⟩:=EA.o k aB;have iF:k<b.length:=by have:=HL.o;omega
    obtain⟨b2,o2,rfl,h2⟩:=EB.o k iF;obtain⟨x,hx⟩:∃ x,x=a[k]:=⟨_,rfl⟩;obtain⟨y,hy⟩:∃ y,y=b[k]:=⟨_,rfl⟩;rw[<-hx,Nat.mul_one]at h1;rw[<-hy,Nat.mul_one]at h2;have c1:∀ n,(wr.drewN n).cell? ⟨b1,o1+k,none⟩=some (.int .i64 x):=fun n=>ak aA h1.1
    have c2:∀ n,(wr.drewN n).cell? ⟨b2,o2+k,none⟩=some (.int .i64 y):=fun n=>ak aA h2.1
    have HX:=aa hx;clear hx;have HY:=aa hy;clear hy
    go_wp2
    go_quiet (fail)
    go_wp2
    ·have ht:(x != y)=true:=by assumption
     go_ret
     refine⟨aS ?_,eG aA _⟩
     go_light
     unfold eqV;simp at ht ⊢;intro h;subst h;exact ht (HX.o.trans HY.o.symm)
    ·have ht:(x != y)=false:=by assumption
     go_roundw
     ·
      refine⟨eG aA _,k+1,by omega,by go_num,aV H.o ?_⟩;rw[az 0 aB,az 0 iF,<-HX.o,<-HY.o];simpa using ht
     ·simp[intOf];omega
   ·go_wp2
    go_ret
    refine⟨aS ?_,aA⟩;unfold eqV;simp;refine List.ext_getElem HL.o fun i h1 h2=>?_
    have:=H.o i (by omega)
    rwa [az 0 h1,az 0 h2]at this
 ·have ir:((a.length:Int) != (b.length:Int))=true:=by simp;omega
  go_enter Tryz.func15,Tryz.ntmps15
  go_wp2
  go_ret
  exact⟨aS (by unfold eqV;simp;intro h;exact hl (by rw[h])),Below.refl _ _⟩
theorem E4{a b:List Int} {k:Nat} (h1:k<a.length) (h2:k<b.length) (hO:ordV a b=ordV (a.drop k) (b.drop k)):ordV a b=if cmpI a[k] b[k]=0 then ordV (a.drop (k+1)) (b.drop (k+1)) else cmpI a[k] b[k]:=by
 rw[hO,se h1,se h2,ordV];unfold cmpI
 grind
theorem qM(va vb:Value) (a b:List Int) (w:World) (ha:aX w va a) (hb:aX w vb b) :
  Calls Tryz.prog 170 #[va,vb] w fun e w'=>e=.returned (.int .i64 (ordV a b))/\Below w.heap.size w w':=by
 obtain⟨pa,ca,rfl,la1,la2,ea⟩:=ha.at;obtain⟨pb,cb,rfl,lb1,lb2,eb⟩:=hb.at;clear ha hb;have EA:=aa ea;clear ea;have EB:=aa eb;clear eb
 go_enter Tryz.func170,Tryz.ntmps170
 go_wp2
 go_loop [11] (fun i=>∃ k:Nat,k<=a.length/\i=.int .i64 k/\ordV a b=ordV (a.drop k) (b.drop k)) (fun i=>a.length - (intOf i).toNat)
 ·exact⟨0,by omega,rfl,by simp⟩
 ·
  obtain⟨k,hk,rfl,aU⟩:=hrel;have H:=aa aU;clear aU;by_cases aB:k<a.length
  ·obtain⟨b1,o1,rfl,h1⟩:=EA.o k aB;obtain⟨x,hx⟩:∃ x,x=a[k]:=⟨_,rfl⟩;rw[<-hx,Nat.mul_one]at h1;have c1:=h1.1;have HX:=aa hx;clear hx h1;by_cases iF:k<b.length
   ·obtain⟨b2,o2,rfl,h2⟩:=EB.o k iF;obtain⟨y,hy⟩:∃ y,y=b[k]:=⟨_,rfl⟩;rw[<-hy,Nat.mul_one]at h2;have c2:=h2.1;have HY:=aa hy;clear hy h2;have HS:=E4 aB iF H.o;rw[<-HX.o,<-HY.o]at HS;have LN:=aa HS;clear HS
    go_wp2_with (go_at_call 203;refine(zu _ _ _).mono ?_;rintro e w' ⟨rfl,rfl⟩)
    ·have ht:(cmpI x y != 0)=true:=by assumption
     go_ret
     exact⟨aG (by rw[LN.o,if_neg (by simpa using ht)]),Below.refl _ _⟩
    ·have ht:(cmpI x y != 0)=false:=by assumption
     go_round
     ·exact⟨k+1,by omega,by go_num,by rw[LN.o,if_pos (by simpa using ht)]⟩
     ·simp[intOf];omega
   ·go_wp2
    go_ret
    refine⟨aG ?_,Below.refl _ _⟩;rw[H.o,se aB,List.drop_of_length_le (l:=b) (by omega)];rfl
  ·have HR:am (ordV a b=if a.length<b.length then -1 else 0):=by
    have h:ordV a b=if a.length<b.length then -1 else 0:=by
     rw[H.o,List.drop_of_length_le (by omega),wK,List.length_drop]
     grind
    exact h
   go_wp2
   all_goals
    go_ret
    refine⟨aG ?_,Below.refl _ _⟩;rw[HR.o]
    go_light
    grind
theorem zL(g:Nat) (lb:Array Value) (eg:∀ args w,(callFunc g args).run Tryz.prog w=.ok (.enter g args) w) (v:Value) (l:List Int) (p:Nat->Bool) (w:World) (hv:aX w v l)
  (hp:∀ i (hi:i<l.length)  W,Below w.heap.size w W->Calls Tryz.prog g (#[.int .i64 l[i]]++lb) W fun e W'=>e=.returned (.bool (p i))/\Below W.heap.size W W') :
  Calls Tryz.prog 152 #[v,.func (.func g) #[] lb] w fun e w'=>e=.returned (.int .i64 (firstIx l.length p))/\Below w.heap.size w w':=by
 obtain⟨pa,ca,rfl,la1,la2,ea⟩:=hv.at;clear hv;have EA:=aa ea;clear ea;have HP:=aa hp;clear hp
 go_enter Tryz.func152,Tryz.ntmps152
 go_wp2
 go_loopw [8] (fun i wr=>Below w.heap.size w wr/\∃ k:Nat,k<=l.length/\i=.int .i64 k/\∀ j,j<k->p j=false) (fun i _=>l.length - (intOf i).toNat)
 ·exact⟨Below.refl _ _,0,by omega,rfl,by simp⟩
 ·
  obtain⟨aA,k,hk,rfl,aU⟩:=hrel;have H:=aa aU;clear aU;by_cases aB:k<l.length
  ·obtain⟨b1,o1,rfl,h1⟩:=EA.o k aB;rw[Nat.mul_one]at h1;have c1:=ak aA h1.1;have dO:=HP.o k aB wr aA;clear h1;generalize l[k]=x at c1 dO;cases l7:p k with
   | true=>
    rw[l7]at dO;have bQ:=aa dO;clear dO;have y8:=aa l7;clear l7
    go_wp2_with fail
    refine bQ.o.mono ?_;rintro e w1 ⟨rfl,aM⟩
    go_wp2_with fail
    go_ret
    exact⟨aG (dq _ _ _ aB H.o y8.o).symm,ae aA aM⟩
   | false=>
    rw[l7]at dO;have bQ:=aa dO;clear dO;have y8:=aa l7;clear l7
    go_wp2_with fail
    refine bQ.o.mono ?_;rintro e w1 ⟨rfl,aM⟩
    go_wp2_with fail
    go_roundw
    ·exact⟨ae aA aM,k+1,by omega,by go_num,aV H.o y8.o⟩
    ·simp[intOf];omega
  ·go_wp2
   go_ret
   exact⟨aG (by rw[dA];intro j hj;exact H.o j (by omega)),aA⟩
theorem zM(g:Nat) (lb:Array Value) (eg:∀ args w,(callFunc g args).run Tryz.prog w=.ok (.enter g args) w) (v:Value) (l:List (List Int)) (p:Nat->Bool) (w:World) (hv:ez w v l)
  (hp:∀ i (hi:i<l.length) (x:Value) (_:aX w x l[i]) W,Below w.heap.size w W->Calls Tryz.prog g (#[x]++lb) W fun e W'=>e=.returned (.bool (p i))/\Below W.heap.size W W') :
  Calls Tryz.prog 153 #[v,.func (.func g) #[] lb] w fun e w'=>e=.returned (.int .i64 (firstIx l.length p))/\Below w.heap.size w w':=by
 obtain⟨pa,ca,rfl,la1,la2,ea⟩:=hv.at;clear hv;have EA:=aa ea;clear ea;have HP:=aa hp;clear hp
 go_enter Tryz.func153,Tryz.ntmps153
 go_wp2
 go_loopw [8] (fun i wr=>Below w.heap.size w wr/\∃ k:Nat,k<=l.length/\i=.int .i64 k/\∀ j,j<k->p j=false) (fun i _=>l.length - (intOf i).toNat)
 ·exact⟨Below.refl _ _,0,by omega,rfl,by simp⟩
 ·
  obtain⟨aA,k,hk,rfl,aU⟩:=hrel;have H:=aa aU;clear aU;by_cases aB:k<l.length
  ·obtain⟨b1,o1,rfl,h1⟩:=EA.o k aB;rw[Nat.mul_one]at h1;obtain⟨x,kE,hx⟩:=h1;have c1:=ak aA kE;have dO:=HP.o k aB x hx wr aA;clear kE hx;cases l7:p k with
   | true=>
    rw[l7]at dO;have bQ:=aa dO;clear dO;have y8:=aa l7;clear l7
    go_wp2_with fail
    refine bQ.o.mono ?_;rintro e w1 ⟨rfl,aM⟩
    go_wp2_with fail
    go_ret
    exact⟨aG (dq _ _ _ aB H.o y8.o).symm,ae aA aM⟩
   | false=>
    rw[l7]at dO;have bQ:=aa dO;clear dO;have y8:=aa l7;clear l7
    go_wp2_with fail
    refine bQ.o.mono ?_;rintro e w1 ⟨rfl,aM⟩
    go_wp2_with fail
    go_roundw
    ·exact⟨ae aA aM,k+1,by omega,by go_num,aV H.o y8.o⟩
    ·simp[intOf];omega
  ·go_wp2
   go_ret
   exact⟨aG (by rw[dA];intro j hj;exact H.o j (by omega)),aA⟩
theorem kl(g:Nat) (lb:Array Value) (eg:∀ args w,(callFunc g args).run Tryz.prog w=.ok (.enter g args) w) (v:Value) (l:List Int) (p:Nat->Bool) (w:World) (hv:aX w v l)
  (hp:∀ i (hi:i<l.length)  W,Below w.heap.size w W->Calls Tryz.prog g (#[.int .i64 l[i]]++lb) W fun e W'=>e=.returned (.bool (p i))/\Below W.heap.size W W') :
  Calls Tryz.prog 106 #[v,.func (.func g) #[] lb] w fun e w'=>e=.returned (.bool (anyLt l.length p))/\Below w.heap.size w w':=by
 have hc:=zL g lb eg v l p w hv hp;have HA:=aa (lV l.length p);generalize firstIx l.length p=r at hc HA;have HC:=aa hc;clear hc hp
 go_enter Tryz.func106,Tryz.ntmps106
 go_wp2_with fail
 refine HC.o.mono ?_;rintro e w1 ⟨rfl,aM⟩
 go_wp2_with fail
 go_ret
 exact⟨aS HA.o,aM⟩
theorem vX(g:Nat) (lb:Array Value) (eg:∀ args w,(callFunc g args).run Tryz.prog w=.ok (.enter g args) w) (v:Value) (l:List (List Int)) (p:Nat->Bool) (w:World) (hv:ez w v l)
  (hp:∀ i (hi:i<l.length) (x:Value) (_:aX w x l[i]) W,Below w.heap.size w W->Calls Tryz.prog g (#[x]++lb) W fun e W'=>e=.returned (.bool (p i))/\Below W.heap.size W W') :
  Calls Tryz.prog 108 #[v,.func (.func g) #[] lb] w fun e w'=>e=.returned (.bool (anyLt l.length p))/\Below w.heap.size w w':=by
 have hc:=zM g lb eg v l p w hv hp;have HA:=aa (lV l.length p);generalize firstIx l.length p=r at hc HA;have HC:=aa hc;clear hc hp
 go_enter Tryz.func108,Tryz.ntmps108
 go_wp2_with fail
 refine HC.o.mono ?_;rintro e w1 ⟨rfl,aM⟩
 go_wp2_with fail
 go_ret
 exact⟨aS HA.o,aM⟩
end Go.Proofs.YtmeaoneaephjeaaGreatDoor
namespace Go.Proofs.YtmeaoneaephjeaaGreatDoor
open Go.RowKit Go Go.Shelf
def Th(w:World) (v:Value) (xs:List Value):Prop:=
 ∃ a cap,v=.slice a xs.length cap/\(a=none->xs.length=0/\cap=0)/\(∀ i x,xs[i]?=some x->∃ b off,a=some ⟨b,off,none⟩/\w.cell? ⟨b,off+i,none⟩=some x)/\∀ x∈xs,x.oneCell'=true
theorem Tryz.infoInt:(Tryz.prog.info? 3).map (fun i=>(i.zero,i.size,i.bytes))=some (some (.int .i64 0),1,8):=by kernel_rfl
theorem Tryz.infoInts:(Tryz.prog.info? 38).map (fun i=>(i.zero,i.size,i.bytes))=some (some (.slice none 0 0),1,24):=by kernel_rfl
theorem xM(v:Value) (xs:List Value) (w:World) (hv:Th w v xs) (hn:xs.length<=1099511627776) :
  Calls Tryz.prog 195 #[v] w fun e w'=>∃ u,e=.returned u/\w'.ownsRow w.heap.size 3 1 u xs.length xs/\Below w.heap.size w w':=by
 obtain⟨a,cap,rfl,ha,hc,h1⟩:=hv;obtain⟨i0,hi,cH,cj,cI⟩:=info_parts Tryz.infoInt;cases a with
 | none=>
  obtain⟨hl,rfl⟩:=ha rfl;obtain rfl:xs=[]:=List.eq_nil_of_length_eq_zero hl;have jQ:=fun w=>Lib.run_eql_slice_nil (P:=Tryz.prog) w 38
  go_enter Tryz.func195,Tryz.ntmps195
  go_wp2_with fail
  go_ret
  exact⟨_,rfl,World.ownsRow_nil _ _ _ _,Below.refl _ _⟩
 | some ad=>
  have jQ:=fun w=>Lib.run_eql_slice_nil (P:=Tryz.prog) w 38
  have bT:∀ j u,xs[j]?=some u->(w.alloc (.cells #[] 3)).cell? (ad.add j)=some u:=fun j u hj=>by
   obtain⟨b,off,e,eM⟩:=hc j u hj;cases e;have:(Addr.add ⟨b,off,none⟩ j)=⟨b,off+j,none⟩:=by unfold Addr.add;split<;>simp_all
   rw[this];exact ak (by go_grown) eM
  have bg:(w.alloc (.cells #[] 3)).ownsRow w.heap.size 3 1 (.slice (some ⟨w.heap.size,0,none⟩) 0 0) 0 []:=⟨by simp,.inr ⟨w.heap.size,0,#[],rfl,Nat.le_refl _,ap _ _,by omega,by simp[maxLen],by simp,by simp⟩⟩;have bE:=aa bT;have bP:=aa bg;have H1:=aa h1;clear bT bg h1 hc ha
  go_enter Tryz.func195,Tryz.ntmps195
  go_wp2_with (at_builtin;refine wpList_append_own _ rfl (.tmp 5) (.tmp 6) 38 rfl w.heap.size 3 i0 (.int .i64 0) 1 8 Tryz.underlying38 hi cH cj cI rfl (by decide) _ 0 [] rfl bP.o ad xs.length cap xs rfl (by simp) bE.o H1.o (by unfold maxLen;omega) (by omega) (by simp) ?_;intro v' w1 gR lw _)
  go_ret
  refine⟨_,rfl,by simpa using gR,Below.grown (w:=w.alloc (.cells #[] 3)) (by go_grown) lw (by simp) (fun k hk=>?_)⟩;cases hk;exact Nat.le_refl _
theorem Gk{w:World} {v:Value} {α:Type} {k:Nat} {R:World->Nat->Nat->α->Prop} {l:List α} (h:fe k R w v l):v.oneCell'=true:=by
 obtain⟨a,cap,rfl,_⟩:=h;rfl
theorem z6{w:World} {v:Value} {l:List Int} (h:aX w v l):Th w v (l.map (Value.int .i64)):=by
 obtain⟨a,cap,rfl,h1,h2,h3⟩:=h;refine⟨a,cap,by simp,fun e=>?_,fun i x hx=>?_,fun x hx=>?_⟩
 ·have:=h1.2.2 e;exact⟨by rw[List.length_map];omega,this⟩
 ·simp only[List.getElem?_map,Option.map_eq_some_iff]at hx;obtain⟨y,hy,rfl⟩:=hx;obtain⟨b,off,ha,hr⟩:=h3 i y hy;exact⟨b,off,ha,by have:=hr.1;rwa [Nat.mul_one]at this⟩
 ·obtain⟨y,_,rfl⟩:=List.mem_map.1 hx;rfl
theorem sv{w:World} {base:Nat} {e:TypeId} {v:Value} {n:Nat} {xs:List Value} (h:w.ownsRow base e 1 v n xs):∃ a cap,v=.slice a n cap/\n<=cap/\cap<=9223372036854775807/\(a=none->cap=0)/\xs.length=n/\∀ i x,xs[i]?=some x->∃ b,a=some ⟨b,0,none⟩/\w.cell? ⟨b,i,none⟩=some x:=by
 obtain⟨hl,h⟩:=h;rw[Nat.mul_one]at hl;rcases h with ⟨rfl,rfl⟩|⟨g,cap,cur,rfl,hg,hb,hn,hm,hs,ht⟩
 ·exact⟨none,0,rfl,by omega,by omega,fun _=>rfl,hl,fun i x hx=>by have:=(List.getElem?_eq_some_iff.1 hx).1;omega⟩
 ·refine⟨_,cap,rfl,hn,by simpa[maxLen] using hm,(fun e=>(by cases e)),hl,fun i x hx=>⟨g,rfl,?_⟩⟩;rw[ab hb,<-hx,<-ht,Nat.mul_one];have hi:=(List.getElem?_eq_some_iff.1 hx).1;rw[List.getElem?_take_of_lt (by omega)];simp
theorem Hl{w:World} {v:Value} {l:List Int} (h:aX w v l):∀ x∈l,bS x:=fun x hx=>by
 obtain⟨a,cap,rfl,_,_,h3⟩:=h;obtain⟨i,hi,rfl⟩:=List.getElem_of_mem hx;obtain⟨b,off,_,hr⟩:=h3 i _ (List.getElem?_eq_getElem hi);exact hr.2
theorem J5(x most:Int) (B:Nat) (W:World) (hc:W.cell? ⟨B,0,none⟩=some (.int .i64 most)) :
  Calls Tryz.prog 202 #[.int .i64 x,.pointer (some ⟨B,0,none⟩)] W fun e W'=>e=.returned (.bool (decide (x<0) || decide (most<=x)))/\Below W.heap.size W W':=by
 by_cases hx:x<0
 ·go_enter Tryz.func202,Tryz.ntmps202
  go_wp2
  go_ret
  exact⟨aS (by simp[hx]),Below.refl _ _⟩
 ·go_enter Tryz.func202,Tryz.ntmps202
  go_wp2
  go_ret
  exact⟨aS (by simp;omega),Below.refl _ _⟩
theorem BU(v:Value) (l:List Int) (n most:Int) (w:World) (hv:aX w v l) :
  Calls Tryz.prog 169 #[v,.int .i64 n,.int .i64 most] w fun e w'=>e=.returned (.int .i64 (vectorE l n most))/\Below w.heap.size w w':=by
 have aK:Below w.heap.size w (w.alloc (.cells #[.int .i64 most] 3)):=by go_grown
 have En:=kl 202 #[.pointer (some ⟨w.heap.size,0,none⟩)] (enters_of Tryz.func202 (by kernel_rfl) rfl) v l (fun i=>decide (l.getD i 0<0) || decide (most<=l.getD i 0))
  (w.alloc (.cells #[.int .i64 most] 3)) (hv.up up_int aK) (fun i hi W hW=>by
   rw[az 0 hi]
   exact J5 _ _ _ _ (ak hW (by simp[ab (ap _ _)])))
 have HV:am (vectorE l n most=if (l.length:Int)≠n then 15 else if anyLt l.length (fun i=>decide (l.getD i 0<0) || decide (most<=l.getD i 0)) then 2 else 0):=by exact rfl
 generalize anyLt l.length (fun i=>decide (l.getD i 0<0) || decide (most<=l.getD i 0))=r at En HV;have HC:=aa En;clear En;obtain⟨pa,ca,rfl,la1,la2,_⟩:=hv.at;clear hv;by_cases hl:(l.length:Int)=n
 ·have ir:((l.length:Int) != n)=false:=by simp[hl]
  have HL:=aa hl;clear hl;cases r with
  | true=>
   go_enter Tryz.func169,Tryz.ntmps169
   go_wp2_with fail
   refine HC.o.mono ?_;rintro e w1 ⟨rfl,aM⟩
   go_wp2_with fail
   go_ret
   exact⟨aG (by rw[HV.o,if_neg (by simpa using HL.o)];rfl),ae aK aM⟩
  | false=>
   go_enter Tryz.func169,Tryz.ntmps169
   go_wp2_with fail
   refine HC.o.mono ?_;rintro e w1 ⟨rfl,aM⟩
   go_wp2_with fail
   go_ret
   exact⟨aG (by rw[HV.o,if_neg (by simpa using HL.o)];rfl),ae aK aM⟩
 ·have ir:((l.length:Int) != n)=true:=by simp[hl]
  go_enter Tryz.func169,Tryz.ntmps169
  go_wp2_with fail
  go_ret
  exact⟨aG (by rw[HV.o,if_pos hl]),aK⟩
theorem wO(v:Value) (l:List (List Int)) (i:Nat) (hi:i<l.length) (w:World) (hv:ez w v l) :
  Calls Tryz.prog 204 #[v,.int .i64 i] w fun e w'=>e=.returned (.bool (unordB l i))/\Below w.heap.size w w':=by
 obtain⟨pa,ca,rfl,la1,la2,ea⟩:=hv.at;clear hv;by_cases h0:0<i
 ·obtain⟨j,rfl⟩:∃ j,i=j+1:=⟨i - 1,by omega⟩;have hj:j<l.length:=by omega
  obtain⟨b1,o1,rfl,x1,c1,h1⟩:=ea j hj;obtain⟨b2,o2,e2,x2,c2,h2⟩:=ea (j+1) hi;obtain⟨rfl,rfl⟩:b1=b2/\o1=o2:=by simpa using e2
  clear e2 ea;rw[Nat.mul_one]at c1 c2
  have HU:am (unordB l (j+1)=decide (0<=ordV l[j] l[j+1])):=by
   have h:unordB l (j+1)=decide (0<=ordV l[j] l[j+1]):=by
    unfold unordB;rw[Nat.add_sub_cancel,az [] hj,az [] hi];simp
   exact h
  generalize l[j]=y1 at h1 HU;generalize l[j+1]=y2 at h2 HU;have d1:∀ x:ExtW w,x.val.cell? ⟨b1,o1+j,none⟩=some x1:=fun x=>x.cell c1
  have d2:∀ x:ExtW w,x.val.cell? ⟨b1,o1+(j+1),none⟩=some x2:=fun x=>x.cell c2
  have dO:∀ x:ExtW w,Calls Tryz.prog 170 #[x1,x2] x.val fun e w''=>e=.returned (.int .i64 (ordV y1 y2))/\∃ p:ExtW w,w''=p.val:=
   fun x=>Calls.ext_of (qM _ _ _ _ _ (h1.up up_int x.ext) (h2.up up_int x.ext))
  have bQ:=aa dO;clear dO;clear c1 c2 h1 h2;have Ui:IntKind.i64.wrap (j:Int)=(j:Int):=IntWalk.i64_in _ (by omega);have xm:(0:Int)<=(j:Int)+1:=by omega
  have FQ:(j:Int)+1<(l.length:Int):=by omega
  have AF:((j:Int)+1).toNat=j+1:=by omega
  go_enter Tryz.func204,Tryz.ntmps204
  go_wp2_with fail
  refine aF (by kernel_rfl) (by kernel_rfl) ?_
  repeat (quiet_step ((go_at_call 170;exact bQ.o _)))
  refine wpQuiet_nil ?_;intro _ eE;obtain⟨xq,dj⟩:=eE;subst dj
  go_wp2_with fail
  go_ret
  exact⟨aS HU.o.symm,xq.ext⟩
 ·obtain rfl:i=0:=by omega
  go_enter Tryz.func204,Tryz.ntmps204
  go_wp2_with fail
  go_quiet (fail)
  go_wp2_with fail
  go_ret
  exact⟨aS (by simp[unordB]),eG (Below.refl _ _) _⟩
theorem Rj(x:Value) (v:Value) (y z:List Int) (B:Nat) (W:World) (hc:W.cell? ⟨B,0,none⟩=some v) (hx:aX W x y) (hv:aX W v z) :
  Calls Tryz.prog 214 #[x,.pointer (some ⟨B,0,none⟩)] W fun e W'=>e=.returned (.bool (eqV y z))/\Below W.heap.size W W':=by
 have HC:=aa (jr x v y z W hx hv);obtain⟨_,_,rfl,_⟩:=hv;clear hx
 go_enter Tryz.func214,Tryz.ntmps214
 go_wp2_with fail
 refine HC.o.mono ?_;rintro e w1 ⟨rfl,aM⟩
 go_wp2_with fail
 go_ret
 exact⟨rfl,aM⟩
theorem UN(v:Value) (l:List (List Int)) (x:Value) (y:List Int) (w:World) (hv:ez w v l) (hx:aX w x y) :
  Calls Tryz.prog 205 #[v,x] w fun e w'=>e=.returned (.bool (hasV l y))/\Below w.heap.size w w':=by
 have aK:Below w.heap.size w (w.alloc (.cells #[x] 38)):=by go_grown
 have En:=vX 214 #[.pointer (some ⟨w.heap.size,0,none⟩)] (enters_of Tryz.func214 (by kernel_rfl) rfl) v l (fun i=>eqV (l.getD i []) y)
  (w.alloc (.cells #[x] 38)) (hv.up up_ints aK) (fun i hi z hz W hW=>by
   rw[az [] hi]
   exact Rj _ _ _ _ _ _ (ak hW (by simp[ab (ap _ _)])) (hz.up up_int hW) ((hx.up up_int aK).up up_int hW))
 have HC:=aa En;clear En;obtain⟨_,_,rfl,_⟩:=hx;clear hv
 go_enter Tryz.func205,Tryz.ntmps205
 go_wp2_with fail
 refine HC.o.mono ?_;rintro e w1 ⟨rfl,aM⟩
 go_wp2_with fail
 go_ret
 exact⟨rfl,ae aK aM⟩
theorem z'(t:Tk) (pc:Option Addr) (nc cc:Nat) (c:Cs) (x0 x1 x2:Value) (w:World) (h0:aX w x0 c.inp) (h1:ez w x1 c.out) (h2:ez w x2 c.calm) :
  Calls Tryz.prog 171 #[.agg #[.int .i64 t.n,.int .i64 t.ins,.int .i64 t.outs,.slice pc nc cc],.agg #[x0,x1,x2]] w fun e w'=>e=.returned (.int .i64 (vectorsE t c))/\Below w.heap.size w w':=by
 have G1:=aa h1;have G2:=aa h2;obtain⟨p0,c0,rfl,_⟩:=h0;obtain⟨p1,c1,rfl,l1,m1,e1⟩:=h1.at;obtain⟨p2,c2,rfl,l2,m2,e2⟩:=h2.at;have E1:=aa e1;have E2:=aa e2;clear h1 h2 e1 e2;by_cases hl:c.out.length<1\/1024<c.out.length
 ·have HV:am (vectorsE t c=5):=by(have h:vectorsE t c=5:=by(unfold vectorsE;rw[if_pos hl]));exact h
  rcases hl with hl|hl
  ·go_enter Tryz.func171,Tryz.ntmps171
   go_wp2_with fail
   go_ret
   exact⟨aG HV.o.symm,by go_grown⟩
  ·go_enter Tryz.func171,Tryz.ntmps171
   go_wp2_with fail
   go_ret
   exact⟨aG HV.o.symm,by go_grown⟩
 have ir:1<=c.out.length:=by omega
 have m5:c.out.length<=1024:=by omega
 have HV:am (vectorsE t c=if bm c.out.length (jh t c)≠0 then bm c.out.length (jh t c) else bm c.calm.length (i8 c)):=by
  have h:vectorsE t c=if bm c.out.length (jh t c)≠0 then bm c.out.length (jh t c) else bm c.calm.length (i8 c):=by unfold vectorsE;rw[if_neg hl]
  exact h
 clear hl
 go_enter Tryz.func171,Tryz.ntmps171
 go_wp2_with fail
 refine bF (fun W=>Below w.heap.size w W/\W.heap[w.heap.size]?=some (.cells #[.int .i64 t.n,.int .i64 t.ins,.int .i64 t.outs,.slice pc nc cc] 24)/\W.heap[w.heap.size+1]?=some (.cells #[.slice p0 c.inp.length c0,.slice p1 c.out.length c1,.slice p2 c.calm.length c2] 135))
  ⟨by go_grown,aq _ (ap _ _),by simpa using ap (w.alloc (.cells #[.int .i64 t.n,.int .i64 t.ins,.int .i64 t.outs,.slice pc nc cc] 24)) _⟩ (fun W0 bd=>?_)
 obtain⟨aK,hT,hC⟩:=bd;have HT:=aa hT;clear hT;have HC:=aa hC;clear hC
 go_loopw [23] (fun i wr=>Below W0.heap.size W0 wr/\∃ k:Nat,k<=c.out.length/\i=.int .i64 k/\∀ j,j<k->jh t c j=0) (fun i _=>c.out.length - (intOf i).toNat)
 ·exact⟨Below.refl _ _,0,by omega,rfl,by simp⟩
 ·
  obtain⟨aA,k,hk,rfl,aU⟩:=hrel;have H:=aa aU;clear aU;have t1:=ab (af aA HT.o);have t2:=ab (af aA HC.o);by_cases aB:k<c.out.length
  ·obtain⟨b1,o1,rfl,x,cx,hx⟩:=E1.o k aB;rw[Nat.mul_one]at cx;have d1:=ak (ae aK aA) cx;have HX:=aa (hx.up up_int (ae aK aA));obtain⟨px,qx,rfl,_⟩:=hx;clear cx
   go_wp2_with fail
   refine(BU _ _ _ _ _ HX.o).mono ?_;rintro e w1 ⟨rfl,aM⟩
   have HO:am (jh t c k=if vectorE c.out[k] t.n t.outs≠0 then vectorE c.out[k] t.n t.outs else if unordB c.out k then 14 else 0):=by
    have h:jh t c k=if vectorE c.out[k] t.n t.outs≠0 then vectorE c.out[k] t.n t.outs else if unordB c.out k then 14 else 0:=by unfold jh;rw[az [] aB]
    exact h
   generalize vectorE c.out[k] t.n t.outs=ev at HO;by_cases l8:ev=0
   ·subst l8;have s1:=ab (af (ae aA aM) HT.o);have s2:=ab (af (ae aA aM) HC.o);clear t1 t2 d1
    go_wp2_with fail
    refine(wO _ _ k aB _ (G1.o.up up_ints (ae (ae aK aA) aM))).mono ?_;rintro e w2 ⟨rfl,aZ⟩;generalize unordB c.out k=u at HO;cases u with
    | true=>
     go_wp2_with fail
     go_ret
     exact⟨aG (by rw[HV.o,<-bV k 14 aB H.o (by rw[HO.o];rfl) (by decide)];rfl),ae (ae (ae aK aA) aM) aZ⟩
    | false=>
     go_wp2_with fail
     go_roundw
     ·exact⟨ae (ae aA aM) aZ,k+1,by omega,by go_num,aV H.o (by rw[HO.o];rfl)⟩
     ·simp[intOf];omega
   ·have hev':(ev != 0)=true:=by simpa using l8
    go_wp2_with fail
    go_ret
    exact⟨aG (by rw[HV.o,<-bV k ev aB H.o (by rw[HO.o,if_pos l8]) l8,if_pos l8]),ae (ae aK aA) aM⟩
  ·have dg:am (vectorsE t c=bm c.calm.length (i8 c)):=by
    have h:vectorsE t c=bm c.calm.length (i8 c):=by rw[HV.o,cU _ _ (fun j hj=>H.o j (by omega))];simp
    exact h
   go_wp2_with fail
   clear t1 t2;have dG:=ae aK aA;obtain⟨W1,cO⟩:∃ W1:World,W1=wr:=⟨_,rfl⟩;rw[<-cO]at aA dG ⊢;clear cO wr
   go_loopw [45] (fun i wr=>Below W1.heap.size W1 wr/\∃ k:Nat,k<=c.calm.length/\i=.int .i64 k/\∀ j,j<k->i8 c j=0) (fun i _=>c.calm.length - (intOf i).toNat)
   ·exact⟨Below.refl _ _,0,by omega,rfl,by simp⟩
   ·
    obtain⟨jV,q,hq,rfl,pU⟩:=hrel;have H2:=aa pU;clear pU;have t2:=ab (af (ae aA jV) HC.o);by_cases AM:q<c.calm.length
    ·obtain⟨b1,o1,rfl,x,cx,hx⟩:=E2.o q AM;rw[Nat.mul_one]at cx;have d1:=ak (ae dG jV) cx;have HX:=aa (hx.up up_int (ae dG jV));obtain⟨px,qx,rfl,_⟩:=hx;clear cx
     go_wp2_with fail
     refine(UN _ _ _ _ _ (G1.o.up up_ints (ae dG jV)) HX.o).mono ?_;rintro e w1 ⟨rfl,aM⟩
     have HO:am (i8 c q=if hasV c.out c.calm[q] then(if unordB c.calm q then 14 else 0) else 6):=by
      have h:i8 c q=if hasV c.out c.calm[q] then(if unordB c.calm q then 14 else 0) else 6:=by unfold i8;rw[az [] AM]
      exact h
     generalize hasV c.out c.calm[q]=ev at HO;cases ev with
     | true=>
      have s2:=ab (af (ae (ae aA jV) aM) HC.o);clear t2 d1
      go_wp2_with fail
      refine(wO _ _ q AM _ (G2.o.up up_ints (ae (ae dG jV) aM))).mono ?_;rintro e w2 ⟨rfl,aZ⟩;generalize unordB c.calm q=u at HO;cases u with
      | true=>
       go_wp2_with fail
       go_ret
       exact⟨aG (by rw[dg.o,<-bV q 14 AM H2.o (by rw[HO.o];rfl) (by decide)]),ae (ae (ae dG jV) aM) aZ⟩
      | false=>
       go_wp2_with fail
       go_roundw
       ·exact⟨ae (ae jV aM) aZ,q+1,by omega,by go_num,aV H2.o (by rw[HO.o];rfl)⟩
       ·simp[intOf];omega
     | false=>
      go_wp2_with fail
      go_ret
      exact⟨aG (by rw[dg.o,<-bV q 6 AM H2.o (by rw[HO.o];rfl) (by decide)]),ae (ae dG jV) aM⟩
    ·go_wp2_with fail
     go_ret
     exact⟨aG (by rw[dg.o,cU];intro j hj;exact H2.o j (by omega)),ae dG jV⟩
theorem qF(t:Tk) (vc:Value) (w:World) (hv:bN w vc t.cases) :
  Calls Tryz.prog 124 #[.agg #[.int .i64 t.n,.int .i64 t.ins,.int .i64 t.outs,vc]] w fun e w'=>e=.returned (.int .i64 (taskE t))/\Below w.heap.size w w':=by
 have G:=aa hv;obtain⟨pc,cc,rfl,l1,m1,e1⟩:=hv.at;clear hv;have E:=aa e1;clear e1;by_cases hr:t.n<1\/5<t.n\/t.ins<1\/8<t.ins\/t.outs<1\/8<t.outs
 ·have HV:am (taskE t=2):=by(have h:taskE t=2:=by(unfold taskE;rw[if_pos hr]));exact h
  by_cases r1:t.n<1
  ·go_enter Tryz.func124,Tryz.ntmps124
   go_wp2_with fail
   go_ret;exact⟨aG HV.o.symm,by go_grown⟩
  by_cases r2:5<t.n
  ·go_enter Tryz.func124,Tryz.ntmps124
   go_wp2_with fail
   go_ret;exact⟨aG HV.o.symm,by go_grown⟩
  by_cases r3:t.ins<1
  ·go_enter Tryz.func124,Tryz.ntmps124
   go_wp2_with fail
   go_ret;exact⟨aG HV.o.symm,by go_grown⟩
  by_cases r4:8<t.ins
  ·go_enter Tryz.func124,Tryz.ntmps124
   go_wp2_with fail
   go_ret;exact⟨aG HV.o.symm,by go_grown⟩
  by_cases r5:t.outs<1
  ·go_enter Tryz.func124,Tryz.ntmps124
   go_wp2_with fail
   go_ret;exact⟨aG HV.o.symm,by go_grown⟩
  ·have r6:8<t.outs:=by omega
   clear hr
   go_enter Tryz.func124,Tryz.ntmps124
   go_wp2_with fail
   go_ret;exact⟨aG HV.o.symm,by go_grown⟩
 have r1:1<=t.n:=by omega
 have r2:t.n<=5:=by omega
 have r3:1<=t.ins:=by omega
 have r4:t.ins<=8:=by omega
 have r5:1<=t.outs:=by omega
 have r6:t.outs<=8:=by omega
 by_cases hl:t.cases.length<1\/1024<t.cases.length
 ·have HV:am (taskE t=5):=by(have h:taskE t=5:=by(unfold taskE;rw[if_neg hr,if_pos hl]));exact h
  clear hr;rcases hl with hl|hl
  ·go_enter Tryz.func124,Tryz.ntmps124
   go_wp2_with fail
   go_ret;exact⟨aG HV.o.symm,by go_grown⟩
  ·go_enter Tryz.func124,Tryz.ntmps124
   go_wp2_with fail
   go_ret;exact⟨aG HV.o.symm,by go_grown⟩
 have ir:1<=t.cases.length:=by omega
 have m5:t.cases.length<=1024:=by omega
 have HV:am (taskE t=bm t.cases.length (eY t)):=by(have h:taskE t=bm t.cases.length (eY t):=by(unfold taskE;rw[if_neg hr,if_neg hl]));exact h
 clear hr hl
 go_enter Tryz.func124,Tryz.ntmps124
 go_wp2_with fail
 refine bF (fun W=>Below w.heap.size w W/\W.heap[w.heap.size]?=some (.cells #[.int .i64 t.n,.int .i64 t.ins,.int .i64 t.outs,.slice pc t.cases.length cc] 24))
  ⟨by go_grown,ap _ _⟩ (fun W0 bd=>?_)
 obtain⟨aK,hT⟩:=bd;have HT:=aa hT;clear hT
 go_loopw [46] (fun i wr=>Below W0.heap.size W0 wr/\∃ k:Nat,k<=t.cases.length/\i=.int .i64 k/\∀ j,j<k->eY t j=0) (fun i _=>t.cases.length - (intOf i).toNat)
 ·exact⟨Below.refl _ _,0,by omega,rfl,by simp⟩
 ·
  obtain⟨aA,k,hk,rfl,aU⟩:=hrel;have H:=aa aU;clear aU;have t1:=ab (af aA HT.o);have dG:=ae aK aA;by_cases aB:k<t.cases.length
  ·obtain⟨b1,o1,rfl,⟨x0,cx0,dp⟩,⟨x1,cx1,dJ⟩,⟨x2,cx2,ed⟩⟩:=E.o k aB;have d0:=ak dG cx0;have d1:=ak dG cx1;have d2:=ak dG cx2;have ze:=aa dp;have kG:=aa dJ;have fZ:=aa ed;obtain⟨p0,q0,rfl,_⟩:=dp;obtain⟨p1,q1,rfl,_⟩:=dJ;obtain⟨p2,q2,rfl,_⟩:=ed;clear cx0 cx1 cx2;have eQ:=aC (af aA HT.o)
   go_wp2_with fail
   refine aQ (fun W=>Below wr.heap.size wr W/\W.heap[wr.heap.size]?=some (.cells #[.slice p0 t.cases[k].inp.length q0,.slice p1 t.cases[k].out.length q1,.slice p2 t.cases[k].calm.length q2] 135)) ⟨by go_grown,ap _ _⟩ (fun V hV=>?_);obtain⟨kY,hC⟩:=hV;have HC:=aa hC;clear hC;have TP:=ae dG kY;refine(BU _ _ _ _ _ (ze.o.up up_int TP)).mono ?_;rintro e w1 ⟨rfl,aM⟩
   have HO:am (eY t k=if vectorE t.cases[k].inp t.n t.ins≠0 then vectorE t.cases[k].inp t.n t.ins else if 0<k/\0<=ordV (t.cases.getD (k - 1) default).inp t.cases[k].inp then 14 else vectorsE t t.cases[k]):=by
    have h:eY t k=if vectorE t.cases[k].inp t.n t.ins≠0 then vectorE t.cases[k].inp t.n t.ins else if 0<k/\0<=ordV (t.cases.getD (k - 1) default).inp t.cases[k].inp then 14 else vectorsE t t.cases[k]:=by unfold eY;rw[az default aB]
    exact h
   generalize vectorE t.cases[k].inp t.n t.ins=ev at HO;have jd:=ae TP aM;by_cases l8:ev=0
   case neg=>
    have hev':(ev != 0)=true:=by simpa using l8
    go_wp2_with fail
    go_ret
    exact⟨aG (by rw[HV.o,<-bV k ev aB H.o (by rw[HO.o,if_pos l8]) l8]),jd⟩
   subst l8;have zf:=ae kY aM;have s1:=ab (af (ae aA zf) HT.o);have s2:=ab (af aM HC.o);clear t1 d0 d1 d2 eQ
   go_wp2_with fail
   by_cases eX:k=0
   ·have eP:am (eY t k=vectorsE t t.cases[k]):=by(have h:eY t k=vectorsE t t.cases[k]:=by(rw[HO.o,if_neg (by simp),if_neg (by omega)]));exact h
    have hd:decide ((0:Int)<(k:Int))=false:=by simp;omega
    have gm:decide (0<k)=false:=by simp;omega
    clear HO eX;refine aF (by kernel_rfl) (by kernel_rfl) ?_
    repeat (go_big_quiet_step (fail))
    refine wpQuiet_nil ?_;intro _ eE;obtain⟨xq,dj⟩:=eE;subst dj;have r1':=ab (af (ae (ae aA zf) xq.ext) HT.o);have r2':=ab (af (ae aM xq.ext) HC.o);clear s1 s2 hd gm;have sY:=ae jd xq.ext
    go_wp2_with fail
    refine(z' t _ _ _ t.cases[k] _ _ _ _ (ze.o.up up_int sY) (kG.o.up up_ints sY) (fZ.o.up up_ints sY)).mono ?_;rintro e w2 ⟨rfl,aZ⟩;generalize vectorsE t t.cases[k]=e2 at eP;by_cases Az:e2=0
    ·subst Az
     go_wp2_with fail
     go_roundw
     ·exact⟨ae (ae (ae aA zf) xq.ext) aZ,k+1,by omega,by go_num,aV H.o eP.o⟩
     ·simp[intOf];omega
    ·have he2':(e2 != 0)=true:=by simpa using Az
     go_wp2_with fail
     go_ret
     exact⟨aG (by rw[HV.o,<-bV k e2 aB H.o eP.o Az]),ae sY aZ⟩
   ·obtain⟨j,hj⟩:∃ j,k=j+1:=⟨k - 1,by omega⟩;have fH:j<t.cases.length:=by omega
    have HJ:=aa hj;obtain⟨b2,o2,e2,⟨y0,cy0,je⟩,_⟩:=E.o j fH;obtain⟨rfl,rfl⟩:b1=b2/\o1=o2:=by simpa using e2
    clear e2;have hd:decide ((0:Int)<(k:Int))=true:=by simp;omega
    have gm:0<k:=by omega
    have gE:am (eY t k=if 0<=ordV t.cases[j].inp t.cases[k].inp then 14 else vectorsE t t.cases[k]):=by
     have h:eY t k=if 0<=ordV t.cases[j].inp t.cases[k].inp then 14 else vectorsE t t.cases[k]:=by
      rw[HO.o,if_neg (by simp)];have e:k - 1=j:=by omega
      rw[e,az default fH]
      grind
     exact h
    clear HO eX hj;have jB:IntKind.i64.wrap ((k:Int) - 1)=(j:Int):=by rw[HJ.o];rw[IntWalk.i64_in _ (by omega)];omega
    have q1:∀ x:ExtW w1,∀ o,x.val.cell? ⟨w.heap.size,o,none⟩=_:=fun x=>ab (af (ae (ae aA zf) x.ext) HT.o)
    have q2:∀ x:ExtW w1,∀ o,x.val.cell? ⟨wr.heap.size,o,none⟩=_:=fun x=>ab (af (ae aM x.ext) HC.o)
    have q3:∀ x:ExtW w1,x.val.cell? ⟨b1,o1+j * 3,none⟩=some y0:=fun x=>x.cell (ak jd cy0)
    have dO:∀ x:ExtW w1,Calls Tryz.prog 170 #[y0,.slice p0 t.cases[k].inp.length q0] x.val fun e w''=>e=.returned (.int .i64 (ordV t.cases[j].inp t.cases[k].inp))/\∃ p:ExtW w1,w''=p.val:=
     fun x=>Calls.ext_of (qM _ _ _ _ _ (je.up up_int (ae jd x.ext)) (ze.o.up up_int (ae jd x.ext)))
    have bQ:=aa dO;clear dO;have Ud:=aa je;clear je cy0;generalize ordV t.cases[j].inp t.cases[k].inp=oo at bQ gE;clear s1 s2;refine aF (by kernel_rfl) (by kernel_rfl) ?_
    repeat (go_big_quiet_step ((go_at_call 170;exact bQ.o _)))
    refine wpQuiet_nil ?_;intro _ eE;obtain⟨xq,dj⟩:=eE;subst dj;have r1':=q1 xq;have r2':=q2 xq;clear q1 q2 q3 hd gm;have sY:=ae jd xq.ext;by_cases qV:0<=oo
    ·go_wp2_with fail
     go_ret
     exact⟨aG (by rw[HV.o,<-bV k 14 aB H.o (by rw[gE.o,if_pos qV]) (by decide)]),sY⟩
    ·have eP:am (eY t k=vectorsE t t.cases[k]):=by(have h:eY t k=vectorsE t t.cases[k]:=by(rw[gE.o,if_neg qV]));exact h
     clear gE
     go_wp2_with fail
     refine(z' t _ _ _ t.cases[k] _ _ _ _ (ze.o.up up_int sY) (kG.o.up up_ints sY) (fZ.o.up up_ints sY)).mono ?_;rintro e w2 ⟨rfl,aZ⟩;generalize vectorsE t t.cases[k]=e2 at eP;by_cases Az:e2=0
     ·subst Az
      go_wp2_with fail
      go_roundw
      ·exact⟨ae (ae (ae aA zf) xq.ext) aZ,k+1,by omega,by go_num,aV H.o eP.o⟩
      ·simp[intOf];omega
     ·have he2':(e2 != 0)=true:=by simpa using Az
      go_wp2_with fail
      go_ret
      exact⟨aG (by rw[HV.o,<-bV k e2 aB H.o eP.o Az]),ae sY aZ⟩
  ·go_wp2_with fail
   go_ret
   exact⟨aG (by rw[HV.o,cU];intro j hj;exact H.o j (by omega)),dG⟩
theorem pE{w w':World} {base:Nat} {e:TypeId} {v:Value} {n:Nat} {xs:List Value} (h:w.ownsRow base e 1 v n xs) (hb:Below w.heap.size w w'):w'.ownsRow base e 1 v n xs:=by
 obtain⟨hl,h⟩:=h;refine⟨hl,?_⟩;rcases h with h|⟨g,cap,cur,h1,h2,h3,h4⟩
 ·exact .inl h
 ·exact .inr ⟨g,cap,cur,h1,h2,af hb h3,h4⟩
theorem Aa{w w':World} {base base':Nat} {e e':TypeId} {u v:Value} {n m:Nat} {xs ys:List Value} (h:w.ownsRow base e 1 u n xs) (hv:w.ownsRow base' e' 1 v m ys) (bR:e≠e') (hg:w.grownBy w' v.ownBlock):w'.ownsRow base e 1 u n xs:=by
 obtain⟨hl,h⟩:=h;refine⟨hl,?_⟩;rcases h with h|⟨g,cap,cur,h1,h2,h3,h4⟩
 ·exact .inl h
 ·refine .inr ⟨g,cap,cur,h1,h2,(hg.block g (aC h3) (fun e1=>?_)).trans h3,h4⟩;rcases hv.2 with ⟨rfl,_⟩|⟨g',cap',cur',rfl,_,TY,_⟩
  ·cases e1
  ·cases e1
   rw[h3]at TY;cases TY;exact bR rfl
theorem DK{w:World} {base:Nat} {e:TypeId} {v:Value} {n:Nat} {xs:List Value} (h:w.ownsRow base e 1 v n xs):∀ g,v.ownBlock=some g->base<=g/\g<w.heap.size:=by
 intro g hg;rcases h.2 with ⟨rfl,_⟩|⟨g',cap,cur,rfl,h2,h3,_⟩
 ·cases hg
 ·cases hg;exact⟨h2,aC h3⟩
theorem sw{w:World} {base base':Nat} {e:TypeId} {v:Value} {n:Nat} {xs:List Value} (h:w.ownsRow base e 1 v n xs) (hb:base'<=base):w.ownsRow base' e 1 v n xs:=by
 obtain⟨hl,h⟩:=h;refine⟨hl,?_⟩;rcases h with h|⟨g,cap,cur,h1,h2,h3⟩
 ·exact .inl h
 ·exact .inr ⟨g,cap,cur,h1,Nat.le_trans hb h2,h3⟩
def p8(w:World) (base:Nat) (v:Value) (l:List (List Int)):Prop:=
 ∃ xs:List Value,w.ownsRow base 38 1 v l.length xs/\∀ i (hi:i<l.length) (hx:i<xs.length),w.ownsRow base 3 1 xs[i] l[i].length (l[i].map (Value.int .i64))
theorem Ma(v:Value) (l:List (List Int)) (w:World) (hv:ez w v l) (hn:l.length<=1099511627776) (n':∀ x∈l,x.length<=1099511627776) :
  Calls Tryz.prog 173 #[v] w fun e w'=>∃ u,e=.returned u/\p8 w' w.heap.size u l/\Below w.heap.size w w':=by
 have HR:=aa (fun i (hi:i<l.length)=>n' l[i] (List.getElem_mem hi));clear n';obtain⟨pa,ca,rfl,la1,la2,ea⟩:=hv.at;clear hv;have EA:=aa ea;clear ea;obtain⟨i0,df,cH,cj,cI⟩:=info_parts Tryz.infoInts
 go_enter Tryz.func173,Tryz.ntmps173
 go_wp2_with fail
 go_loopw [3,8] (fun o i wr=>Below w.heap.size w wr/\∃ k:Nat,k<=l.length/\i=.int .i64 k/\p8 wr w.heap.size o (l.take k)) (fun _ i _=>l.length - (intOf i).toNat)
 ·exact⟨Below.refl _ _,0,by omega,rfl,[],by simpa using World.ownsRow_nil _ _ _ _,fun i hi=>by simp at hi⟩
 ·
  obtain⟨aA,k,hk,rfl,qR⟩:=hrel;by_cases aB:k<l.length
  ·obtain⟨b1,o1,rfl,x,cx,hx⟩:=EA.o k aB;rw[Nat.mul_one]at cx;have d1:=ak aA cx;have HX:=aa (hx.up up_int aA);obtain⟨px,qx,rfl,_⟩:=hx;clear cx;obtain⟨xs,bg,jU⟩:=qR;have mf:(l.take k).length=k:=by simp;omega
   rw[mf]at bg;have bP:=aa bg;have C8:=aa jU;have UF:=aa mf;clear bg jU mf
   go_wp2_with fail
   refine(xM _ _ _ (z6 HX.o) (by rw[List.length_map];exact HR.o k aB)).mono ?_;rintro e w1 ⟨u,rfl,hu,aM⟩;obtain⟨au,cu,rfl,_⟩:=sv hu;rw[List.length_map]at hu;rw[List.length_map];generalize hN:l[k].length=nn at hu ⊢;have HN:=aa hN;clear hN;have xn:=ae aA aM;have hA:Below w1.heap.size w1 (w1.alloc (.cells #[(Value.slice au nn cu)] 38)):=by go_grown
   have dx:=aa (pE (pE bP.o aM) hA)
   have bT:∀ j u',[(Value.slice au nn cu)][j]?=some u'->(w1.alloc (.cells #[(Value.slice au nn cu)] 38)).cell? (Addr.add ⟨w1.heap.size,0,none⟩ j)=some u':=fun j u' hj=>by
    cases j with
    | zero=>simp at hj;subst hj;simp[Addr.add,ab (ap w1 _)]
    | succ j=>simp at hj
   have bE:=aa bT;have HU:=aa hu;clear bT hu d1;have io:=xn.size
   go_wp2_with (at_builtin;(refine wpList_append_own _ rfl (.tmp 12) (.tmp 15) 56 rfl w.heap.size 38 i0 (.slice none 0 0) 1 24 Tryz.underlying56 df cH cj cI rfl (by decide) _ k xs rfl dx.o ⟨w1.heap.size,0,none⟩ 1 1 [(Value.slice au nn cu)] rfl rfl bE.o (by simp[Value.oneCell']) (by unfold maxLen;omega) (by omega) (by simp;omega) ?_;intro v' w2 fL dD _))
   go_roundw
   ·
    refine⟨Below.grown (w:=w1.alloc (.cells #[(Value.slice au nn cu)] 38)) (xn.alloc io _) dD (by simp;omega) (fun g hg=>(DK bP.o g hg).1),k+1,by omega,by go_num,xs++[(Value.slice au nn cu)],?_,?_⟩
    ·rw[show (l.take (k+1)).length=k+1 by simp;omega];exact fL
    ·intro i hi hx;have iN:xs.length=k:=by have:=bP.o.1;omega
     by_cases kI:i<k
     ·have h1:=C8.o i (by rw[UF.o];exact kI) (by omega);have h2:=Aa (pE (pE h1 aM) hA) dx.o (by decide) dD;simp only[List.getElem_take]at h2 ⊢
      rwa [List.getElem_append_left (by omega)]
     ·obtain rfl:i=k:=by simp at hi;omega
      have h2:=Aa (sw (pE HU.o hA) aA.size) dx.o (by decide) dD;simp only[List.getElem_take];rw[List.getElem_append_right (by omega)];obtain rfl:=HN.o;simpa using h2
   ·simp[intOf];omega
  ·go_wp2_with fail
   go_ret
   refine⟨_,rfl,?_,aA⟩
   rwa [List.take_of_length_le (by omega)]at qR
theorem Hm(x0 x1 x2:Value) (c:Cs) (f:Int) (w:World) (h1:ez w x1 c.out) (h2:ez w x2 c.calm) :
  Calls Tryz.prog 109 #[.agg #[x0,x1,x2],.int .i64 f] w fun e w'=>∃ u,e=.returned u/\ez w' u (gg c f)/\Below w.heap.size w w':=by
 have H1:=aa h1;have H2:=aa h2;obtain⟨p1,q1,rfl,_⟩:=h1.at;obtain⟨p2,q2,rfl,m1,m2,_⟩:=h2.at;clear h1 h2;by_cases hf:f=0
 ·subst hf;by_cases hl:0<c.calm.length
  ·have HV:am (gg c 0=c.calm):=by(have h:gg c 0=c.calm:=by(unfold gg;rw[if_pos ⟨rfl,hl⟩]));exact h
   have hl':decide ((0:Int)<(c.calm.length:Int))=true:=by simp;omega
   go_enter Tryz.func109,Tryz.ntmps109
   go_wp2_with fail
   go_ret
   refine⟨_,rfl,?_,by go_grown⟩;rw[HV.o];exact H2.o.up up_ints (by go_grown)
  ·have HV:am (gg c 0=c.out):=by(have h:gg c 0=c.out:=by(unfold gg;rw[if_neg (fun h=>hl h.2)]));exact h
   have hl':decide ((0:Int)<(c.calm.length:Int))=false:=decide_eq_false (by omega)
   go_enter Tryz.func109,Tryz.ntmps109
   go_wp2_with fail
   go_ret
   refine⟨_,rfl,?_,by go_grown⟩;rw[HV.o];exact H1.o.up up_ints (by go_grown)
 ·have HV:am (gg c f=c.out):=by(have h:gg c f=c.out:=by(unfold gg;rw[if_neg (fun h=>hf h.1)]));exact h
  have hf':(f == 0)=false:=by simpa using hf
  go_enter Tryz.func109,Tryz.ntmps109
  go_wp2_with fail
  go_ret
  refine⟨_,rfl,?_,by go_grown⟩;rw[HV.o];exact H1.o.up up_ints (by go_grown)
theorem Oy{t:Tk} {i f:Int} (h:iU t i f=0):taskE t=0/\0<=i/\i.toNat<t.cases.length:=by
 unfold iU at h;split at h
 ·omega
 ·rename_i h1;split at h
  ·omega
  ·exact⟨by simpa using h1,by omega,by omega⟩
theorem Oz(t:Tk) (vc:Value) (i f:Int) (w:World) (hv:bN w vc t.cases) :
  Calls Tryz.prog 105 #[.agg #[.int .i64 t.n,.int .i64 t.ins,.int .i64 t.outs,vc],.int .i64 i,.int .i64 f] w fun e w'=>e=.returned (.int .i64 (iU t i f))/\Below w.heap.size w w':=by
 have G:=aa hv;obtain⟨pc,cc,rfl,l1,m1,_⟩:=hv.at;clear hv
 go_enter Tryz.func105,Tryz.ntmps105
 go_wp2_with fail
 refine aQ (fun W=>Below w.heap.size w W/\W.heap[w.heap.size]?=some (.cells #[.int .i64 t.n,.int .i64 t.ins,.int .i64 t.outs,.slice pc t.cases.length cc] 24)) ⟨by go_grown,ap _ _⟩ (fun W0 bd=>?_);obtain⟨aK,bK⟩:=bd;refine(qF t _ W0 (G.o.up up_case aK)).mono ?_;rintro e w1 ⟨rfl,aM⟩;have gl:=ae aK aM;have t1:=ab (af aM bK);clear bK;by_cases oD:taskE t=0
 case neg=>
  have HV:am (iU t i f=taskE t):=by(have h:iU t i f=taskE t:=by(unfold iU;rw[if_pos oD]));exact h
  generalize taskE t=et at HV oD;have NR:(et != 0)=true:=by simpa using oD
  go_wp2_with fail
  go_ret
  exact⟨aG (by rw[HV.o]),gl⟩
 obtain⟨⟨n1,n2⟩,_⟩:=fm oD;have HV:am (iU t i f=if i<0\/(t.cases.length:Int)<=i then 6 else if f<0\/2 ^ t.n.toNat<=f then 2 else 0):=by(have h:iU t i f=if i<0\/(t.cases.length:Int)<=i then 6 else if f<0\/2 ^ t.n.toNat<=f then 2 else 0:=by(unfold iU;rw[if_neg (by simpa using oD)]));exact h
 rw[oD];clear oD;generalize t.n=n at *;have:n=1\/n=2\/n=3\/n=4\/n=5:=by omega
 rcases this with rfl|rfl|rfl|rfl|rfl
 all_goals
  go_wp2_with fail
  all_goals
   go_ret
   refine⟨aG ?_,gl⟩;rw[HV.o]
   go_light
   grind
theorem J6(t:Tk) (vc:Value) (i f:Int) (w:World) (hv:bN w vc t.cases) :
  Calls Tryz.prog 126 #[.agg #[.int .i64 t.n,.int .i64 t.ins,.int .i64 t.outs,vc],.int .i64 i,.int .i64 f] w fun e w'=>∃ u,e=.returned (.tuple #[u,.int .i64 (iU t i f)])/\p8 w' w.heap.size u (iV t i f)/\Below w.heap.size w w':=by
 have G:=aa hv;obtain⟨pc,cc,rfl,l1,m1,e1⟩:=hv.at;clear hv;have E:=aa e1;clear e1
 go_enter Tryz.func126,Tryz.ntmps126
 go_wp2_with fail
 refine aQ (fun W=>Below w.heap.size w W/\W.heap[w.heap.size]?=some (.cells #[.int .i64 t.n,.int .i64 t.ins,.int .i64 t.outs,.slice pc t.cases.length cc] 24)) ⟨by go_grown,ap _ _⟩ (fun W0 bd=>?_);obtain⟨aK,bK⟩:=bd;refine(Oz t _ i f W0 (G.o.up up_case aK)).mono ?_;rintro e w1 ⟨rfl,aM⟩;have gl:=ae aK aM;have t1:=ab (af aM bK);clear bK;by_cases hp:iU t i f=0
 case neg=>
  have HV:am (iV t i f=[]):=by(have h:iV t i f=[]:=by(unfold iV;rw[if_pos hp]));exact h
  generalize hE:iU t i f=et at hp;have HE:=aa hE;clear hE;have NR:(et != 0)=true:=by simpa using hp
  go_wp2_with fail
  go_ret2
  refine⟨.slice none 0 0,by rw[HE.o];rfl,?_,gl⟩;rw[HV.o];exact⟨[],by simpa using World.ownsRow_nil _ _ _ _,fun i hi=>by simp at hi⟩
 obtain⟨ht,df,oX⟩:=Oy hp;have HV:am (iV t i f=gg (t.cases.getD i.toNat default) f):=by(have h:iV t i f=gg (t.cases.getD i.toNat default) f:=by(unfold iV;rw[if_neg (by simpa using hp)]));exact h
 rw[hp];have HE:=aa hp;clear hp;obtain⟨k,rfl⟩:∃ k:Nat,i=k:=⟨i.toNat,by omega⟩;simp only[Int.toNat_natCast]at oX HV;have dL:=aa (Kx ((fm ht).2.2.2.2 t.cases[k] (List.getElem_mem oX)) f);have HN:=aa (fm ht).1;clear ht df;have Aw:am (iV t k f=gg t.cases[k] f):=by(have h:iV t k f=gg t.cases[k] f:=by(rw[HV.o,az default oX]));exact h
 clear HV;obtain⟨b1,o1,rfl,⟨x0,cx0,dp⟩,⟨x1,cx1,dJ⟩,⟨x2,cx2,ed⟩⟩:=E.o k oX;have d0:=ak gl cx0;have d1:=ak gl cx1;have d2:=ak gl cx2;have kG:=aa (dJ.up up_ints gl);have fZ:=aa (ed.up up_ints gl);obtain⟨p0,q0,rfl,_⟩:=dp;obtain⟨p1,q1,rfl,_⟩:=dJ;obtain⟨p2,q2,rfl,_⟩:=ed;clear cx0 cx1 cx2
 go_wp2_with fail
 refine(Hm _ _ _ t.cases[k] f w1 kG.o fZ.o).mono ?_;rintro e w2 ⟨u,rfl,hu,aZ⟩;have HU:=aa hu;obtain⟨pu,qu,rfl,_⟩:=hu;clear t1 d0 d1 d2
 go_wp2_with fail
 refine(Ma _ _ w2 HU.o (Nat.le_trans dL.o.1 (by omega)) (fun x hx=>by have h1:=dL.o.2 x hx;have h2:=HN.o;omega)).mono ?_;rintro e w3 ⟨u3,rfl,sa,bG⟩;have kr:=ae gl aZ
 go_wp2_with fail
 go_ret2
 refine⟨u3,by rw[HE.o];rfl,?_,ae kr bG⟩;rw[Aw.o];obtain⟨xs,h1,h2⟩:=sa;exact⟨xs,sw h1 kr.size,fun i hi hx=>sw (h2 i hi hx) kr.size⟩
theorem Rk{n k:Nat} {p:Nat->Bool} (hk:k<n) (h:p k=true):anyLt n p=true:=dV n k p hk h
theorem zw(k:Nat) (h:k<=30):(1:Int)<=2 ^ k/\(2:Int) ^ k<=1073741824:=by
 have h1:2 ^ k<=2 ^ 30:=Nat.pow_le_pow_right (by decide) h;have h2:1<=2 ^ k:=Nat.one_le_two_pow;have e:((2 ^ k:Nat):Int)=2 ^ k:=by simp
 rw[<-e];omega
theorem vY(n:Nat) (h:n<=30) (w:World) :
  Calls Tryz.prog 88 #[.int .i64 n] w fun e w'=>e=.returned (.int .i64 (2 ^ n))/\w=w':=by
 go_enter Tryz.func88,Tryz.ntmps88
 go_wp2
 go_loop [3,4] (fun o i=>∃ k:Nat,k<=n/\i=.int .i64 k/\o=.int .i64 (2 ^ k)) (fun _ i=>n - (intOf i).toNat)
 ·exact⟨0,by omega,rfl,rfl⟩
 ·
  obtain⟨k,hk,rfl,rfl⟩:=hrel;have hp:=zw k (by omega);have HS:am ((2:Int) ^ (k+1)=2 ^ k * 2):=by(have h:(2:Int) ^ (k+1)=2 ^ k * 2:=Int.pow_succ _ _);exact h
  have HK:am ((2:Int) ^ k=2 ^ k):=by exact rfl
  generalize hx:(2:Int) ^ k=x at hp HS;have HX:=aa hx;clear hx;by_cases aB:k<n
  ·go_wp2
   go_round
   ·exact⟨k+1,by omega,by go_num,by rw[HS.o]⟩
   ·simp[intOf];omega
  ·go_wp2
   go_ret
   obtain rfl:k=n:=by omega
   exact⟨aG HX.o.symm,rfl⟩
theorem Rl(set:Int) (p:Nat) (h:0<=set):(Int.tmod (Int.tdiv set (2 ^ p)) 2 == 1)=hasB set p:=by
 unfold hasB;rw[Int.tdiv_eq_ediv_of_nonneg h,Int.tmod_eq_emod_of_nonneg (Int.ediv_nonneg h (by have:=Int.pow_pos (n:=2) (m:=p) (by decide);omega))]
theorem mH(set:Int) (p:Nat) (h:p<=30) (h0:0<=set) (h1:set<=9223372036854775807) (w:World) :
  Calls Tryz.prog 47 #[.int .i64 set,.int .i64 p] w fun e w'=>e=.returned (.bool (hasB set p))/\w=w':=by
 have hp:=zw p h;have HD:=aa (Rl set p h0);have hc:=fun w=>vY p h w
 have HC:=aa hc;clear hc;generalize (2:Int) ^ p=x at hp HD HC
 go_enter Tryz.func47,Tryz.ntmps47
 go_wp2_with (go_at_call 88;refine(HC.o _).mono ?_;rintro e w' ⟨rfl,rfl⟩)
 go_ret
 refine⟨aS ?_,rfl⟩;rw[<-HD.o,Int.tdiv_eq_ediv_of_nonneg h0,Int.tmod_eq_emod_of_nonneg (Int.ediv_nonneg h0 (by omega))]
theorem E5(n:Nat) (h:n<=30) (w:World) :
  Calls Tryz.prog 60 #[.int .i64 n] w fun e w'=>e=.returned (.int .i64 (2 ^ n - 1))/\w=w':=by
 have hp:=zw n h;have HC:=aa (fun w=>vY n h w);generalize (2:Int) ^ n=x at hp HC
 go_enter Tryz.func60,Tryz.ntmps60
 go_wp2_with (go_at_call 88;refine(HC.o _).mono ?_;rintro e w' ⟨rfl,rfl⟩)
 go_ret
 exact⟨rfl,rfl⟩
theorem BV(n:Int) (w:World) :
  Calls Tryz.prog 215 #[.int .i64 n] w fun e w'=>e=.returned (.int .i64 (iS n))/\w=w':=by
 go_enter Tryz.func215,Tryz.ntmps215
 go_wp2
 all_goals
  go_ret
  refine⟨aG ?_,rfl⟩
  go_light
  unfold iS
  grind
theorem UO(f:Int) (n:Nat) (h:0<=f):f / 2 ^ n≠0↔2 ^ n<=f:=by
 have hp:(0:Int)<2 ^ n:=Int.pow_pos (by decide);constructor
 ·intro h1;rcases Int.lt_or_le f (2 ^ n) with h2|h2
  ·exact absurd (Int.ediv_eq_zero_of_lt h h2) h1
  ·exact h2
 ·intro h1 h2;have:(1:Int)<=f / 2 ^ n:=(Int.le_ediv_iff_mul_le hp).2 (by omega);omega
theorem Gl(n set:Int) (w:World) :
  Calls Tryz.prog 209 #[.int .i64 n,.int .i64 set] w fun e w'=>e=.returned (.int .i64 (kb n set))/\w=w':=by
 by_cases hn:n<1\/5<n
 ·have hp:iS n=1:=by unfold iS;rw[if_pos hn]
  have HP:am (kb n set=1):=by(have h:kb n set=1:=by(unfold kb;rw[hp];rfl));exact h
  have HC:=aa (BV n);rw[hp]at HC;clear hp
  go_enter Tryz.func209,Tryz.ntmps209
  go_wp2_with (go_at_call 215;refine(HC.o _).mono ?_;rintro e w' ⟨rfl,rfl⟩)
  go_ret
  exact⟨aG HP.o.symm,rfl⟩
 ·have hp:iS n=0:=by unfold iS;rw[if_neg hn]
  obtain⟨m,rfl⟩:∃ m:Nat,n=m:=⟨n.toNat,by omega⟩
  have HP:am (kb m set=if set<0\/2 ^ m<=set then 2 else 0):=by
   have h:kb m set=if set<0\/2 ^ m<=set then 2 else 0:=by
    unfold kb;rw[hp,Int.toNat_natCast,if_neg (by simp)];by_cases h0:set<0
    ·simp[h0]
    ·have:=UO set m (by omega);simp only[this]
   exact h
  have HC:=aa (BV m);rw[hp]at HC;have j7:=aa (fun w=>vY m (by omega) w);generalize (2:Int) ^ m=x at HP j7;clear hp hn
  go_enter Tryz.func209,Tryz.ntmps209
  go_wp2_with (first|(go_at_call 215;refine(HC.o _).mono ?_;rintro e w' ⟨rfl,rfl⟩)|(go_at_call 88;refine(j7.o _).mono ?_;rintro e w' ⟨rfl,rfl⟩))
  all_goals
   go_ret
   refine⟨aG ?_,rfl⟩;rw[HP.o]
   go_light
   grind
theorem J7(a b:Int) (h1:0<=a/\a<=9223372036854775807) (h2:0<=b/\b<=9223372036854775807) (w:World) :
  Calls Tryz.prog 188 #[.int .i64 a,.int .i64 b] w fun e w'=>e=.returned (.bool (iR a b))/\w=w':=by
 have HV:am (iR a b=!anyLt 5 fun p=>hasB a p&&!hasB b p):=by exact rfl
 go_enter Tryz.func188,Tryz.ntmps188
 go_wp2
 go_loop [5] (fun i=>∃ k:Nat,k<=5/\i=.int .i64 k/\∀ j,j<k->(hasB a j&&!hasB b j)=false) (fun i=>5 - (intOf i).toNat)
 ·exact⟨0,by omega,rfl,by simp⟩
 ·
  obtain⟨k,hk,rfl,aU⟩:=hrel;have H:=aa aU;clear aU;by_cases aB:k<5
  ·have C1:=aa (fun w=>mH a k (by omega) h1.1 h1.2 w);have C2:=aa (fun w=>mH b k (by omega) h2.1 h2.2 w);cases hx:hasB a k with
   | false=>
    rw[hx]at C1;have HX:=aa hx;clear hx
    go_wp2_with (go_at_call 47;refine(C1.o _).mono ?_;rintro e w' ⟨rfl,rfl⟩)
    go_round
    ·exact⟨k+1,by omega,by go_num,aV H.o (by rw[HX.o];rfl)⟩
    ·simp[intOf];omega
   | true=>
    rw[hx]at C1;have HX:=aa hx;clear hx;cases hy:hasB b k with
    | false=>
     rw[hy]at C2;have HY:=aa hy;clear hy
     go_wp2_with fail
     refine(C1.o _).mono ?_;rintro e w' ⟨rfl,rfl⟩
     go_wp2_with fail
     refine(C2.o _).mono ?_;rintro e w' ⟨rfl,rfl⟩
     go_wp2_with fail
     go_ret
     exact⟨aS (by rw[HV.o,dV 5 k _ aB (by rw[HX.o,HY.o];rfl)];rfl),rfl⟩
    | true=>
     rw[hy]at C2;have HY:=aa hy;clear hy
     go_wp2_with fail
     refine(C1.o _).mono ?_;rintro e w' ⟨rfl,rfl⟩
     go_wp2_with fail
     refine(C2.o _).mono ?_;rintro e w' ⟨rfl,rfl⟩
     go_wp2_with fail
     go_round
     ·exact⟨k+1,by omega,by go_num,aV H.o (by rw[HX.o,HY.o];rfl)⟩
     ·simp[intOf];omega
  ·go_wp2
   go_ret
   exact⟨aS (by rw[HV.o,eR];rfl;intro j hj;exact H.o j (by omega)),rfl⟩
structure KeyKit {K:Type} [DecidableEq K] (P:Program) (kt:TypeId) (enc:K->Value):Prop where
 eq:∀ a b w,(Op.equal kt (enc a) (enc b)).run P w=.ok (decide (a=b)) w
 check:∀ em a w,(Instr.checkKey em 10000 kt (enc a)).run P w=.ok () w
 und:∃ fs,P.underlying kt=some (.struct fs)
def l4{K:Type} (enc:K->Value) (w:World) (b:Nat) (f:List (K × Value)):Prop:=
 ∃ es clock,w.heap[b]?=some (.map es clock)/\es.toList.map (fun e=>(e.key,e.val))=f.map (fun p=>(enc p.1,p.2))
def lp{K:Type} [DecidableEq K] (f:List (K × Value)) (r:K):Option Value:=(f.find? fun p=>decide (r=p.1)).map (·.2)
theorem l4.up{K:Type} {enc:K->Value} {A A':World} {b:Nat} {f:List (K × Value)} (h:l4 enc A b f) (hb:Below A.heap.size A A'):l4 enc A' b f:=by
 obtain⟨es,clock,h1,hf⟩:=h;exact⟨es,clock,af hb h1,hf⟩
theorem Ab{K:Type} [DecidableEq K] {P:Program} {kt:TypeId} {enc:K->Value} (kit:KeyKit P kt enc) (r:K) (w:World):∀ (f:List (K × Value)) (es:List MapEntry) (i:Nat),es.map (fun e=>(e.key,e.val))=f.map (fun p=>(enc p.1,p.2)) →
  (lp f r=none->(Instr.findAsking kt (enc r) es i).run P w=.ok none w)/\(∀ x,lp f r=some x->∃ j,(Instr.findAsking kt (enc r) es i).run P w=.ok (some (j,x)) w)
 | [],es,i,h=>by
  obtain rfl:es=[]:=by simpa using h
  exact⟨fun _=>rfl,fun x hx=>by simp[lp]at hx⟩
 | p :: f,es,i,h=>by
  cases es with
  | nil=>simp at h
  | cons e es=>
   simp only[List.map_cons,List.cons.injEq,Prod.mk.injEq]at h;obtain⟨⟨hk,hv⟩,h⟩:=h;have ih:=Ab kit r w f es (i+1) h;unfold Instr.findAsking;by_cases hr:r=p.1
   ·subst hr;refine⟨fun hn=>by simp[lp]at hn,fun x hx=>?_⟩;have hx':p.2=x:=by simpa[lp] using hx
    refine⟨i,?_⟩;simp[Sem.run_bind,hk,kit.eq,hv,hx']
   ·have e1:lp (p :: f) r=lp f r:=by simp[lp,hr]
    rw[e1];refine⟨fun hn=>?_,fun x hx=>?_⟩
    ·simp[Sem.run_bind,hk,kit.eq,hr,ih.1 hn]
    ·obtain⟨j,hj⟩:=ih.2 x hx;exact⟨j,by simp[Sem.run_bind,hk,kit.eq,hr,hj]⟩
theorem Hn{K:Type} [DecidableEq K] {P:Program} {kt:TypeId} {enc:K->Value} (kit:KeyKit P kt enc) (r:K) (w:World) (f:List (K × Value)) (es:List MapEntry) (h:es.map (fun e=>(e.key,e.val))=f.map (fun p=>(enc p.1,p.2))) :
  (lp f r=none->(Instr.findKey kt (enc r) es).run P w=.ok none w)/\(∀ x,lp f r=some x->∃ j,(Instr.findKey kt (enc r) es).run P w=.ok (some (j,x)) w):=by
 have hA:=Ab kit r w f es 0 h;obtain⟨fs,hu⟩:=kit.und;unfold Instr.findKey;cases es with
 | nil=>
  obtain rfl:f=[]:=by simpa using h.symm
  refine⟨fun _=>?_,fun x hx=>by simp[lp]at hx⟩;simp[run_underlying hu,Instr.findNow]
 | cons e es=>
  have hn:Instr.findNow (.struct fs) (enc r) (e :: es) 0=none:=by simp[Instr.findNow,Instr.sameNow]
  simp only[Sem.run_bind,run_underlying hu,Result.andThen_ok,hn];exact hA
theorem Ho{K:Type} [DecidableEq K] {P:Program} {kt mt vt:TypeId} {z:Value} {enc:K->Value} (kit:KeyKit P kt enc) (hm:P.underlying mt=some (.map kt vt)) (hz:∀ w,(zeroValue vt).run P w=.ok z w) {w:World} {b:Nat} {f:List (K × Value)} (h:l4 enc w b f) (r:K) :
  (Instr.lookup mt (.map (some b)) (enc r) true).run P w=.ok (.tuple #[(lp f r).getD z,.bool (lp f r).isSome]) w:=by
 obtain⟨es,clock,hb,iY⟩:=h;have hF:=Hn kit r w f es.toList iY;have hg:(getObj b).run P w=.ok (.map es clock) w:=by simp[getObj,Sem.run,hb]
 unfold Instr.lookup;cases hn:lp f r with
 | none=>simp[Sem.run_bind,run_underlying hm,hg,kit.check,hF.1 hn,hz]
 | some x=>
  obtain⟨j,hj⟩:=hF.2 x hn;simp[run_underlying hm,hg,kit.check,hj]
theorem UP{K:Type} [DecidableEq K] {P:Program} {kt mt vt:TypeId} {enc:K->Value} (kit:KeyKit P kt enc) (hm:P.underlying mt=some (.map kt vt)) {w:World} {b:Nat} {f:List (K × Value)} (h:l4 enc w b f) (r:K) (x:Value) (hn:lp f r=none) :
  ∃ o,(Instr.mapUpdate mt (.map (some b)) (enc r) x).run P w=.ok () (w.putObj b o)/\l4 enc (w.putObj b o) b (f++[(r,x)]):=by
 obtain⟨es,clock,hb,iY⟩:=h;have hF:=Hn kit r w f es.toList iY;have hg:(getObj b).run P w=.ok (.map es clock) w:=by simp[getObj,Sem.run,hb]
 have hs:∀ o,(setObj b o).run P w=.ok () (w.putObj b o):=fun o=>by simp[setObj,Sem.run,hb,World.putObj]
 refine⟨_,?_,es.push { key:=enc r,val:=x,born:=clock },clock+1,World.putObj_heap_same (aC hb),?_⟩
 ·unfold Instr.mapUpdate;simp[run_underlying hm,hg,kit.check,hF.1 hn,hs]
 ·simp[iY]
def ug(tb:List Vw):List (Vw × Value):=tb.zipIdx.map fun x=>(x.1,Value.int .i64 (x.2:Nat))
theorem OA(tb:List Vw) (v:Vw):ug (tb++[v])=ug tb++[(v,.int .i64 (tb.length:Nat))]:=by
 unfold ug;rw[List.zipIdx_append];simp
theorem Rm(v:Vw) (tb:List Vw):∀ k:Nat,(((tb.zipIdx k).map fun x=>(x.1,Value.int .i64 ((x.2:Nat):Int))).find? fun p=>decide (v=p.1))=if v∈tb then some (v,.int .i64 ((k+tb.idxOf v:Nat):Int)) else none:=by
 induction tb with
 | nil=>intro k;simp
 | cons a r ih=>
  intro k;rw[List.zipIdx_cons,List.map_cons,List.find?_cons];by_cases h:v=a
  ·subst h;simp
  ·have h2:decide (v=(a,Value.int .i64 ((k:Nat):Int)).1)=false:=by simpa using h
   rw[h2];have h3:=ih (k+1);simp only at h3 ⊢;rw[h3];have h4:(a == v)=false:=by simpa using fun e=>h e.symm
   by_cases hm:v∈r
   ·rw[if_pos hm,if_pos (by simp[hm]),List.idxOf_cons,h4];simp only[cond_false];rw[show k+1+List.idxOf v r=k+(List.idxOf v r+1) by omega]
   ·rw[if_neg hm,if_neg (by simp[hm,h])]
theorem Rn(tb:List Vw) (v:Vw):lp (ug tb) v=if v∈tb then some (.int .i64 (tb.idxOf v:Nat)) else none:=by
 unfold lp ug;have h:=Rm v tb 0;simp only[Nat.zero_add]at h;rw[h];split<;>rfl
theorem lG(va vb:Value) (a b:List Int) (w:World) (ha:aX w va a) (hb:aX w vb b) :
  Calls Tryz.prog 132 #[va,vb] w fun e w'=>e=.returned (.int .i64 (ordV a b))/\Below w.heap.size w w':=by
 obtain⟨pa,ca,rfl,la1,la2,ea⟩:=ha.at;obtain⟨pb,cb,rfl,lb1,lb2,eb⟩:=hb.at;clear ha hb;have EA:=aa ea;clear ea;have EB:=aa eb;clear eb
 go_enter Tryz.func132,Tryz.ntmps132
 go_wp2
 go_loopw [5] (fun i wr=>Below w.heap.size w wr/\∃ k:Nat,k<=a.length/\k<=b.length/\i=.int .i64 k/\ordV a b=ordV (a.drop k) (b.drop k)) (fun i _=>a.length - (intOf i).toNat)
 ·exact⟨Below.refl _ _,0,by omega,by omega,rfl,by simp⟩
 ·
  obtain⟨aA,k,hk,mg,rfl,aU⟩:=hrel;have H:=aa aU;clear aU;by_cases aB:k<a.length
  ·by_cases iF:k<b.length
   ·obtain⟨b1,o1,rfl,h1⟩:=EA.o k aB;obtain⟨x,hx⟩:∃ x,x=a[k]:=⟨_,rfl⟩;rw[<-hx,Nat.mul_one]at h1;obtain⟨b2,o2,rfl,h2⟩:=EB.o k iF;obtain⟨y,hy⟩:∃ y,y=b[k]:=⟨_,rfl⟩;rw[<-hy,Nat.mul_one]at h2;have c1:∀ n,(wr.drewN n).cell? ⟨b1,o1+k,none⟩=some (.int .i64 x):=fun n=>ak aA h1.1
    have c2:∀ n,(wr.drewN n).cell? ⟨b2,o2+k,none⟩=some (.int .i64 y):=fun n=>ak aA h2.1
    have HS:=E4 aB iF H.o;rw[<-hx,<-hy]at HS;have LN:=aa HS;clear HS hx hy h1 h2;rcases Int.lt_trichotomy x y with hn|hn|hn
    ·go_wp2
     go_quiet (fail)
     go_wp2
     go_ret
     refine⟨aG ?_,eG aA _⟩;rw[LN.o];unfold cmpI;grind
    ·have h1:¬ x<y:=by omega
     have h2:¬ y<x:=by omega
     have HN:=aa hn;clear hn
     go_wp2
     go_quiet (fail)
     go_wp2
     have c3:∀ m n,((wr.drewN m).drewN n).cell? ⟨b1,o1+k,none⟩=some (.int .i64 x):=fun m n=>c1 m
     have c4:∀ m n,((wr.drewN m).drewN n).cell? ⟨b2,o2+k,none⟩=some (.int .i64 y):=fun m n=>c2 m
     go_quiet (fail)
     go_wp2
     go_roundw
     ·
      refine⟨eG aA _,k+1,by omega,by omega,by go_num,?_⟩;rw[LN.o,if_pos];rw[HN.o,cmpI];simp
     ·simp[intOf];omega
    ·have h1:¬ x<y:=by omega
     go_wp2
     go_quiet (fail)
     go_wp2
     have c3:∀ m n,((wr.drewN m).drewN n).cell? ⟨b1,o1+k,none⟩=some (.int .i64 x):=fun m n=>c1 m
     have c4:∀ m n,((wr.drewN m).drewN n).cell? ⟨b2,o2+k,none⟩=some (.int .i64 y):=fun m n=>c2 m
     go_quiet (fail)
     go_wp2
     go_ret
     refine⟨aG ?_,eG (eG aA _) _⟩;rw[LN.o];unfold cmpI;grind
   ·have HR:am (ordV a b=1):=by
     have h:ordV a b=1:=by rw[H.o,se aB,List.drop_of_length_le (l:=b) (by omega)];rfl
     exact h
    have h3:¬ a.length<b.length:=by omega
    have h4:b.length<a.length:=by omega
    go_wp2
    go_ret
    exact⟨aG HR.o.symm,aA⟩
  ·have HR:am (ordV a b=if a.length<b.length then -1 else 0):=by
    have h:ordV a b=if a.length<b.length then -1 else 0:=by
     rw[H.o,List.drop_of_length_le (by omega),wK,List.length_drop]
     grind
    exact h
   have h3:¬ b.length<a.length:=by omega
   by_cases h4:a.length<b.length
   ·go_wp2
    go_ret
    refine⟨aG ?_,aA⟩;rw[HR.o,if_pos h4]
   ·go_wp2
    go_ret
    refine⟨aG ?_,aA⟩;rw[HR.o,if_neg (by omega)]
theorem Hp(a b:List Int):(ordV a b == 0)=eqV a b:=by
 unfold eqV;by_cases h:a=b
 ·subst h;simp[sf]
 ·simp[h];intro h1;exact h (NU h1)
theorem E6(vl vv:Value) (l:List (List Int)) (v:List Int) (w:World) (hl:ez w vl l) (hv:aX w vv v) :
  Calls Tryz.prog 81 #[vl,vv] w fun e w'=>e=.returned (.bool (hasV l v))/\Below w.heap.size w w':=by
 obtain⟨pa,ca,rfl,la1,la2,ea⟩:=hl.at;have HV:=aa hv;obtain⟨pv,cv,rfl,_⟩:=hv;clear hl;have EA:=aa ea;clear ea;have HD:am (hasV l v=anyLt l.length fun i=>eqV (l.getD i []) v):=by exact rfl
 go_enter Tryz.func81,Tryz.ntmps81
 go_wp2
 go_loopw [5] (fun i wr=>Below w.heap.size w wr/\∃ k:Nat,k<=l.length/\i=.int .i64 k/\∀ j,j<k->eqV (l.getD j []) v=false) (fun i _=>l.length - (intOf i).toNat)
 ·exact⟨Below.refl _ _,0,by omega,rfl,by simp⟩
 ·
  obtain⟨aA,k,hk,rfl,aU⟩:=hrel;have H:=aa aU;clear aU;by_cases aB:k<l.length
  ·obtain⟨b1,o1,rfl,x,cx,hx⟩:=EA.o k aB;rw[Nat.mul_one]at cx;have c1:=ak aA cx;have HX:=aa (hx.up up_int aA);obtain⟨px,qx,rfl,_⟩:=hx;have he:=Hp l[k] v;rw[show eqV l[k] v=eqV (l.getD k []) v by rw[az [] aB]]at he;have HC:=aa (lG _ _ l[k] v wr HX.o (HV.o.up up_int aA));clear cx;generalize ordV l[k] v=r at he HC;cases hp:eqV (l.getD k []) v with
   | true=>
    rw[hp]at he;have HP:=aa hp;clear hp
    go_wp2_with fail
    refine HC.o.mono ?_;rintro e w1 ⟨rfl,aM⟩
    go_wp2_with fail
    go_ret
    exact⟨aS (by rw[HD.o,dV _ k _ aB HP.o]),ae aA aM⟩
   | false=>
    rw[hp]at he;have HP:=aa hp;clear hp
    go_wp2_with fail
    refine HC.o.mono ?_;rintro e w1 ⟨rfl,aM⟩
    go_wp2_with fail
    go_roundw
    ·exact⟨ae aA aM,k+1,by omega,by go_num,aV H.o HP.o⟩
    ·simp[intOf];omega
  ·go_wp2
   go_ret
   exact⟨aS (by rw[HD.o,eR];intro j hj;exact H.o j (by omega)),aA⟩
theorem Ac(v:Value) (l:List Int) (n most:Int) (w:World) (hv:aX w v l) :
  Calls Tryz.prog 185 #[v,.int .i64 n,.int .i64 most] w fun e w'=>e=.returned (.int .i64 (vectorE l n most))/\w=w':=by
 obtain⟨pa,ca,rfl,la1,la2,ea⟩:=hv.at;clear hv;have EA:=aa ea;clear ea;by_cases hl:(l.length:Int)=n
 ·have HV:am (vectorE l n most=if anyLt l.length (fun i=>decide (l.getD i 0<0) || decide (most<=l.getD i 0)) then 2 else 0):=by
   have h:vectorE l n most=if anyLt l.length (fun i=>decide (l.getD i 0<0) || decide (most<=l.getD i 0)) then 2 else 0:=by unfold vectorE;rw[if_neg (by simpa using hl)]
   exact h
  subst hl
  go_enter Tryz.func185,Tryz.ntmps185
  go_wp2
  go_loop [7] (fun i=>∃ k:Nat,k<=l.length/\i=.int .i64 k/\∀ j,j<k->(decide (l.getD j 0<0) || decide (most<=l.getD j 0))=false) (fun i=>l.length - (intOf i).toNat)
  ·exact⟨0,by omega,rfl,by simp⟩
  ·
   obtain⟨k,hk,rfl,aU⟩:=hrel;have H:=aa aU;clear aU;by_cases aB:k<l.length
   ·obtain⟨b1,o1,rfl,h1⟩:=EA.o k aB;have HX:=aa (az 0 aB);rw[Nat.mul_one]at h1;have c1:=h1.1;generalize l[k]=x at c1 HX;clear h1
    go_wp2
    all_goals first
     | (go_ret
        refine⟨aG ?_,rfl⟩
        rw[HV.o,dV _ k _ aB (by rw[HX.o];go_light;simp;omega)]
        rfl)
     | (go_round
        ·
         refine⟨k+1,by omega,by go_num,aV H.o ?_⟩
         rw[HX.o]
         go_light
         simp;omega
        ·simp[intOf];omega)
   ·go_wp2
    go_ret
    exact⟨aG (by rw[HV.o,eR];rfl;intro j hj;exact H.o j (by omega)),rfl⟩
 ·have HV:am (vectorE l n most=15):=by(have h:vectorE l n most=15:=by(unfold vectorE;rw[if_pos hl]));exact h
  have ir:((l.length:Int) != n)=true:=by simpa using hl
  clear hl
  go_enter Tryz.func185,Tryz.ntmps185
  go_wp2
  go_ret
  exact⟨aG HV.o.symm,rfl⟩
theorem Hq{t:Tk} {c:Cs} (h:c.out.length<1\/1024<c.out.length):vectorsE t c=5:=by unfold vectorsE;rw[if_pos h]
theorem xN{t:Tk} {c:Cs} (h:¬ (c.out.length<1\/1024<c.out.length)) (k:Nat) (e:Int) (hk:k<c.out.length) (hj:∀ j,j<k->jh t c j=0) (he:jh t c k=e) (h0:e≠0):e=vectorsE t c:=by
 unfold vectorsE;rw[if_neg h,<-bV k e hk hj he h0,if_pos h0]
theorem Gm{t:Tk} {c:Cs} (h:¬ (c.out.length<1\/1024<c.out.length)) (ho:∀ j,j<c.out.length->jh t c j=0):vectorsE t c=bm c.calm.length (i8 c):=by
 unfold vectorsE;rw[if_neg h,cU _ _ ho];simp
theorem OB{t:Tk} {c:Cs} {j:Nat} (hj:j+1<c.out.length) (h1:vectorE c.out[j+1] t.n t.outs=0):jh t c (j+1)=if 0<=ordV (c.out[j]'(by omega)) c.out[j+1] then 14 else 0:=by
 unfold jh unordB;rw[az [] hj,h1,Nat.add_sub_cancel,az [] (show j<c.out.length by omega)];simp
theorem OC{t:Tk} {c:Cs} (hj:0<c.out.length) (h1:vectorE c.out[0] t.n t.outs=0):jh t c 0=0:=by
 unfold jh unordB;rw[az [] hj,h1];simp
theorem Mb{c:Cs} {j:Nat} (hj:j+1<c.calm.length) (h1:hasV c.out c.calm[j+1]=true):i8 c (j+1)=if 0<=ordV (c.calm[j]'(by omega)) c.calm[j+1] then 14 else 0:=by
 unfold i8 unordB;rw[az [] hj,h1,Nat.add_sub_cancel,az [] (show j<c.calm.length by omega)];simp
theorem Mc{c:Cs} (hj:0<c.calm.length) (h1:hasV c.out c.calm[0]=true):i8 c 0=0:=by
 unfold i8 unordB;rw[az [] hj,h1];simp
theorem Ro{c:Cs} {k:Nat} (hk:k<c.calm.length) (h1:hasV c.out c.calm[k]=false):i8 c k=6:=by
 unfold i8;rw[az [] hk,h1];simp
theorem Rp(t:Tk) (vc:Value) (k:Nat) (aB:k<t.cases.length) (w:World) (hv:bN w vc t.cases) :
  Calls Tryz.prog 154 #[.agg #[.int .i64 t.n,.int .i64 t.ins,.int .i64 t.outs,vc],.int .i64 k] w fun e w'=>e=.returned (.int .i64 (eY t k))/\Below w.heap.size w w':=by
 obtain⟨pc,cc,rfl,l1,m1,e1⟩:=hv.at;clear hv;have E:=aa e1;clear e1;obtain⟨b1,o1,rfl,⟨x0,cx0,dp⟩,⟨x1,cx1,dJ⟩,⟨x2,cx2,ed⟩⟩:=E.o k aB;have ze:=aa dp;have kG:=aa dJ;have fZ:=aa ed;obtain⟨p1,q1,rfl,u1,v1,E1⟩:=dJ.at;obtain⟨p2,q2,rfl,u2,v2,E2⟩:=ed.at;obtain⟨p0,q0,rfl,_⟩:=dp;have qT:=aa E1;have m3:=aa E2;clear dJ ed E1 E2
 have HO:am (eY t k=if vectorE t.cases[k].inp t.n t.ins≠0 then vectorE t.cases[k].inp t.n t.ins else if 0<k/\0<=ordV (t.cases.getD (k - 1) default).inp t.cases[k].inp then 14 else vectorsE t t.cases[k]):=by
  have h:eY t k=if vectorE t.cases[k].inp t.n t.ins≠0 then vectorE t.cases[k].inp t.n t.ins else if 0<k/\0<=ordV (t.cases.getD (k - 1) default).inp t.cases[k].inp then 14 else vectorsE t t.cases[k]:=by unfold eY;rw[az default aB]
  exact h
 have Wv:b1<w.heap.size:=fk cx0;have hlb':b1<w.heap.size+1:=by omega
 go_enter Tryz.func154,Tryz.ntmps154
 go_wp2_with fail
 refine aQ (fun V=>Below w.heap.size w V/\V.heap[w.heap.size]?=some (.cells #[.int .i64 t.n,.int .i64 t.ins,.int .i64 t.outs,.slice (some ⟨b1,o1,none⟩) t.cases.length cc] 24)/\V.heap[w.heap.size+1]?=some (.cells #[.slice p0 t.cases[k].inp.length q0,.slice p1 t.cases[k].out.length q1,.slice p2 t.cases[k].calm.length q2] 135)) ⟨by go_grown,aq _ (ap _ _),by simpa using ap (w.alloc _) _⟩ (fun V hV=>?_);obtain⟨kY,hT,hC⟩:=hV;have HT:=aa hT;have HC:=aa hC;have t1:=ab hT;have t2:=ab hC;clear hT hC cx1 cx2;refine(Ac _ _ _ _ _ (ze.o.up up_int kY)).mono ?_;rintro e V' ⟨rfl,rfl⟩;generalize vectorE t.cases[k].inp t.n t.ins=ev at HO;by_cases l8:ev=0
 case neg=>
  have hev':(ev != 0)=true:=by simpa using l8
  go_wp2_with fail
  go_ret
  exact⟨aG (by rw[HO.o,if_pos l8]),kY⟩
 subst l8
 go_wp2_with fail
 clear t1 t2;by_cases eX:k=0
 case' pos=>
  have eP:am (eY t k=vectorsE t t.cases[k]):=by(have h:eY t k=vectorsE t t.cases[k]:=by(rw[HO.o,if_neg (by simp),if_neg (by omega)]));exact h
  have hd:decide ((0:Int)<(k:Int))=false:=decide_eq_false (by omega);have gm:decide (0<k)=false:=decide_eq_false (by omega);clear HO eX cx0;refine aF (by kernel_rfl) (by kernel_rfl) ?_
  repeat (go_big_quiet_step (fail))
  refine wpQuiet_nil ?_;intro _ eE;obtain⟨xq,dj⟩:=eE;subst dj;clear hd gm
 case' neg=>
  obtain⟨j,hj⟩:∃ j,k=j+1:=⟨k - 1,by omega⟩;have fH:j<t.cases.length:=by omega
  have HJ:=aa hj;obtain⟨b2,o2,e2,⟨y0,cy0,je⟩,_⟩:=E.o j fH;obtain⟨rfl,rfl⟩:b1=b2/\o1=o2:=by simpa using e2
  clear e2;have hd:decide ((0:Int)<(k:Int))=true:=decide_eq_true (by omega);have gm:0<k:=by omega
  have gE:am (eY t k=if 0<=ordV t.cases[j].inp t.cases[k].inp then 14 else vectorsE t t.cases[k]):=by
   have h:eY t k=if 0<=ordV t.cases[j].inp t.cases[k].inp then 14 else vectorsE t t.cases[k]:=by
    rw[HO.o,if_neg (by simp)];have e:k - 1=j:=by omega
    rw[e,az default fH]
    grind
   exact h
  clear HO eX hj;have jB:IntKind.i64.wrap ((k:Int) - 1)=(j:Int):=by rw[HJ.o];rw[IntWalk.i64_in _ (by omega)];omega
  have r1:∀ x:ExtW V,∀ o,x.val.cell? ⟨w.heap.size,o,none⟩=_:=fun x=>ab (af x.ext HT.o)
  have r2:∀ x:ExtW V,∀ o,x.val.cell? ⟨w.heap.size+1,o,none⟩=_:=fun x=>ab (af x.ext HC.o)
  have r3:∀ x:ExtW V,x.val.cell? ⟨b1,o1+j * 3,none⟩=some y0:=fun x=>x.cell (ak kY cy0)
  have bQ:=aa (fun x:ExtW V=>Calls.ext_of (lG _ _ _ _ x.val (je.up up_int (ae kY x.ext)) (ze.o.up up_int (ae kY x.ext))));clear je cy0 cx0;generalize ordV t.cases[j].inp t.cases[k].inp=oo at bQ gE;refine aF (by kernel_rfl) (by kernel_rfl) ?_
  repeat (go_big_quiet_step ((go_at_call 132;exact bQ.o _)))
  refine wpQuiet_nil ?_;intro _ eE;obtain⟨xq,dj⟩:=eE;subst dj;clear r1 r2 r3 hd gm jB;by_cases qV:0<=oo
  ·go_wp2_with fail
   go_ret
   exact⟨aG (by rw[gE.o,if_pos qV]),ae kY xq.ext⟩
  have eP:am (eY t k=vectorsE t t.cases[k]):=by(have h:eY t k=vectorsE t t.cases[k]:=by(rw[gE.o,if_neg qV]));exact h
  clear gE HJ bQ
 all_goals
  have FR:=ae kY xq.ext;have dB:=FR;have F':=af xq.ext HT.o;have TO:=af xq.ext HC.o;clear FR HT HC;generalize xq.val=W5 at dB F' TO ⊢;clear xq kY;have HT:=aa F';have HC:=aa TO;have t1:=ab F';have t2:=ab TO;clear F' TO;by_cases KX:t.cases[k].out.length<1\/1024<t.cases[k].out.length
  ·have HR:=aa (Hq (t:=t) KX);rcases KX with KX|KX
   ·go_wp2_with fail
    go_ret
    exact⟨aG (by rw[eP.o,HR.o]),dB⟩
   ·have hou':¬ t.cases[k].out.length<1:=by omega
    go_wp2_with fail
    go_ret
    exact⟨aG (by rw[eP.o,HR.o]),dB⟩
  have Xp:=aa KX;have ho1:¬ t.cases[k].out.length<1:=by omega
  have rR:¬ 1024<t.cases[k].out.length:=by omega
  clear KX
  go_wp2_with fail
  clear t1 t2 ho1 rR
  go_loopw [7] (fun i wr=>Below W5.heap.size W5 wr/\∃ m:Nat,m<=t.cases[k].out.length/\i=.int .i64 m/\∀ j,j<m->jh t t.cases[k] j=0) (fun i _=>t.cases[k].out.length - (intOf i).toNat)
  ·exact⟨Below.refl _ _,0,by omega,rfl,by simp⟩
  ·
   obtain⟨By,m,hm,rfl,aU⟩:=hrel;have HM:=aa aU;clear aU;have aA:=ae dB By;have t1:=ab (af By HT.o);have t2:=ab (af By HC.o);by_cases mm:m<t.cases[k].out.length
   ·obtain⟨b3,o3,rfl,y,cy,hy⟩:=qT.o m mm;rw[Nat.mul_one]at cy;have HY:=aa hy
    go_wp2_with fail
    clear t1 t2;have r1:∀ x:ExtW wr,∀ o,x.val.cell? ⟨w.heap.size,o,none⟩=_:=fun x=>ab (af (ae By x.ext) HT.o)
    have r2:∀ x:ExtW wr,∀ o,x.val.cell? ⟨w.heap.size+1,o,none⟩=_:=fun x=>ab (af (ae By x.ext) HC.o)
    have r3:∀ x:ExtW wr,x.val.cell? ⟨b3,o3+m,none⟩=some y:=fun x=>x.cell (ak aA cy)
    have bQ:=aa (fun x:ExtW wr=>Calls.ext_of ((Ac _ _ t.n t.outs x.val (HY.o.up up_int (ae aA x.ext))).mono (fun _ _ ⟨h1,h2⟩=>⟨h1,h2 ▸ Below.refl _ _⟩)));have HZ:=aa (fun (h:vectorE t.cases[k].out[m] t.n t.outs≠0)=>show jh t t.cases[k] m=vectorE t.cases[k].out[m] t.n t.outs by unfold jh;rw[az [] mm,if_pos h]);generalize qr:vectorE t.cases[k].out[m] t.n t.outs=em at bQ HZ;have uT:=aa qr;clear qr hy;have cyy:=cy;clear cy;refine aF (by kernel_rfl) (by kernel_rfl) ?_
    repeat (go_big_quiet_step ((go_at_call 185;exact bQ.o _)))
    refine wpQuiet_nil ?_;intro _ eE;obtain⟨xs,dj⟩:=eE;subst dj;clear r1 r2 r3 bQ;have NG:=ae By xs.ext;have Et:=ae aA xs.ext;by_cases vJ:em=0
    case neg=>
     have hem':(em != 0)=true:=by simpa using vJ
     go_wp2_with fail
     go_ret
     exact⟨aG (by rw[eP.o];exact xN Xp.o m em mm HM.o (HZ.o vJ) vJ),Et⟩
    subst vJ
    go_wp2_with fail
    by_cases uY:m=0
    ·subst uY;have yz:=aa (OC mm uT.o);refine aF (by kernel_rfl) (by kernel_rfl) ?_
     repeat (go_big_quiet_step (fail))
     refine wpQuiet_nil ?_;intro _ eE;obtain⟨xt,dj⟩:=eE;subst dj
     go_wp2_with fail
     go_roundw
     ·exact⟨ae NG xt.ext,1,by omega,by go_num,aV HM.o yz.o⟩
     ·simp[intOf];omega
    ·obtain⟨j,rfl⟩:∃ j,m=j+1:=⟨m - 1,by omega⟩;have yz:=aa (OB mm uT.o);obtain⟨b4,o4,e4,z,cz,hz⟩:=qT.o j (by omega);obtain⟨rfl,rfl⟩:b3=b4/\o3=o4:=by simpa using e4
     rw[Nat.mul_one]at cz;have r1:∀ x:ExtW xs.val,∀ o,x.val.cell? ⟨w.heap.size,o,none⟩=_:=fun x=>ab (af (ae NG x.ext) HT.o)
     have r2:∀ x:ExtW xs.val,∀ o,x.val.cell? ⟨w.heap.size+1,o,none⟩=_:=fun x=>ab (af (ae NG x.ext) HC.o)
     have r3:∀ x:ExtW xs.val,x.val.cell? ⟨b3,o3+(j+1),none⟩=some y:=fun x=>x.cell (ak Et cyy)
     have r4:∀ x:ExtW xs.val,x.val.cell? ⟨b3,o3+j,none⟩=some z:=fun x=>x.cell (ak Et cz)
     have bQ:=aa (fun x:ExtW xs.val=>Calls.ext_of (lG _ _ _ _ x.val (hz.up up_int (ae Et x.ext)) (HY.o.up up_int (ae Et x.ext))));have Ui:IntKind.i64.wrap (j:Int)=(j:Int):=IntWalk.i64_in _ (by omega);have nU:decide ((0:Int)<(j:Int)+1)=true:=decide_eq_true (by omega);have xm:(0:Int)<=(j:Int)+1:=by omega
     have FQ:(j:Int)+1<(t.cases[k].out.length:Int):=by omega
     have AF:((j:Int)+1).toNat=j+1:=by omega
     generalize ordV t.cases[k].out[j] t.cases[k].out[j+1]=oo at bQ yz;clear e4 hz cz cyy uY;refine aF (by kernel_rfl) (by kernel_rfl) ?_
     repeat (go_big_quiet_step ((go_at_call 132;exact bQ.o _)))
     refine wpQuiet_nil ?_;intro _ eE;obtain⟨xt,dj⟩:=eE;subst dj;clear r1 r2 r3 r4 Ui nU xm FQ AF;by_cases qV:0<=oo
     ·go_wp2_with fail
      go_ret
      exact⟨aG (by rw[eP.o];exact xN Xp.o (j+1) 14 mm HM.o (by rw[yz.o,if_pos qV]) (by decide)),ae Et xt.ext⟩
     ·go_wp2_with fail
      go_roundw
      ·exact⟨ae NG xt.ext,j+1+1,by omega,by go_num,aV HM.o (by rw[yz.o,if_neg (by omega)])⟩
      ·simp[intOf];omega
   ·have lM:=aa (eP.o.trans (Gm Xp.o (fun j hj=>HM.o j (by omega))))
    go_wp2_with fail
    clear t1 t2
    go_loopw [9] (fun i ws=>Below wr.heap.size wr ws/\∃ q:Nat,q<=t.cases[k].calm.length/\i=.int .i64 q/\∀ j,j<q->i8 t.cases[k] j=0) (fun i _=>t.cases[k].calm.length - (intOf i).toNat)
    ·exact⟨Below.refl _ _,0,by omega,rfl,by simp⟩
    ·
     obtain⟨lS,q,hq,rfl,aU⟩:=hrel;have HQ:=aa aU;clear aU;have rY:=ae By lS;have io:=ae aA lS
     rename World=>ws
     have t2:=ab (af rY HC.o);by_cases og:q<t.cases[k].calm.length
     ·obtain⟨b6,o6,rfl,y,cy,hy⟩:=m3.o q og;rw[Nat.mul_one]at cy;have HY:=aa hy
      go_wp2_with fail
      clear t2;have r2:∀ x:ExtW ws,∀ o,x.val.cell? ⟨w.heap.size+1,o,none⟩=_:=fun x=>ab (af (ae rY x.ext) HC.o)
      have r3:∀ x:ExtW ws,x.val.cell? ⟨b6,o6+q,none⟩=some y:=fun x=>x.cell (ak io cy)
      have bQ:=aa (fun x:ExtW ws=>Calls.ext_of (E6 _ _ t.cases[k].out _ x.val (kG.o.up up_ints (ae io x.ext)) (HY.o.up up_int (ae io x.ext))));cases qr:hasV t.cases[k].out t.cases[k].calm[q] with
      | false=>
       rw[qr]at bQ;have HZ:=aa (Ro og qr);clear qr hy cy;refine aF (by kernel_rfl) (by kernel_rfl) ?_
       repeat (go_big_quiet_step ((go_at_call 81;exact bQ.o _)))
       refine wpQuiet_nil ?_;intro _ eE;obtain⟨xu,dj⟩:=eE;subst dj;clear r2 r3 bQ
       go_wp2_with fail
       go_ret
       exact⟨aG (by rw[lM.o];exact bV q 6 og HQ.o HZ.o (by decide)),ae io xu.ext⟩
      | true=>
       rw[qr]at bQ;have uT:=aa qr;clear qr hy;have cyy:=cy;clear cy;refine aF (by kernel_rfl) (by kernel_rfl) ?_
       repeat (go_big_quiet_step ((go_at_call 81;exact bQ.o _)))
       refine wpQuiet_nil ?_;intro _ eE;obtain⟨xs,dj⟩:=eE;subst dj;clear r2 r3 bQ;have hbs6:=ae lS xs.ext;have hbs6':=ae rY xs.ext;have Js:=ae io xs.ext
       go_wp2_with fail
       by_cases uY:q=0
       ·subst uY;have yz:=aa (Mc og uT.o);refine aF (by kernel_rfl) (by kernel_rfl) ?_
        repeat (go_big_quiet_step (fail))
        refine wpQuiet_nil ?_;intro _ eE;obtain⟨xt,dj⟩:=eE;subst dj
        go_wp2_with fail
        go_roundw
        ·exact⟨ae hbs6 xt.ext,1,by omega,by go_num,aV HQ.o yz.o⟩
        ·simp[intOf];omega
       ·obtain⟨j,rfl⟩:∃ j,q=j+1:=⟨q - 1,by omega⟩;have yz:=aa (Mb og uT.o);obtain⟨b4,o4,e4,z,cz,hz⟩:=m3.o j (by omega);obtain⟨rfl,rfl⟩:b6=b4/\o6=o4:=by simpa using e4
        rw[Nat.mul_one]at cz;have r2:∀ x:ExtW xs.val,∀ o,x.val.cell? ⟨w.heap.size+1,o,none⟩=_:=fun x=>ab (af (ae hbs6' x.ext) HC.o)
        have r3:∀ x:ExtW xs.val,x.val.cell? ⟨b6,o6+(j+1),none⟩=some y:=fun x=>x.cell (ak Js cyy)
        have r4:∀ x:ExtW xs.val,x.val.cell? ⟨b6,o6+j,none⟩=some z:=fun x=>x.cell (ak Js cz)
        have bQ:=aa (fun x:ExtW xs.val=>Calls.ext_of (lG _ _ _ _ x.val (hz.up up_int (ae Js x.ext)) (HY.o.up up_int (ae Js x.ext))));have Ui:IntKind.i64.wrap (j:Int)=(j:Int):=IntWalk.i64_in _ (by omega);have nU:decide ((0:Int)<(j:Int)+1)=true:=decide_eq_true (by omega);have xm:(0:Int)<=(j:Int)+1:=by omega
        have FQ:(j:Int)+1<(t.cases[k].calm.length:Int):=by omega
        have AF:((j:Int)+1).toNat=j+1:=by omega
        generalize ordV t.cases[k].calm[j] t.cases[k].calm[j+1]=oo at bQ yz;clear e4 hz cz cyy uY;refine aF (by kernel_rfl) (by kernel_rfl) ?_
        repeat (go_big_quiet_step ((go_at_call 132;exact bQ.o _)))
        refine wpQuiet_nil ?_;intro _ eE;obtain⟨xt,dj⟩:=eE;subst dj;clear r2 r3 r4 Ui nU xm FQ AF;by_cases qV:0<=oo
        ·go_wp2_with fail
         go_ret
         exact⟨aG (by rw[lM.o];exact bV (j+1) 14 og HQ.o (by rw[yz.o,if_pos qV]) (by decide)),ae Js xt.ext⟩
        ·go_wp2_with fail
         go_roundw
         ·exact⟨ae hbs6 xt.ext,j+1+1,by omega,by go_num,aV HQ.o (by rw[yz.o,if_neg (by omega)])⟩
         ·simp[intOf];omega
     ·go_wp2_with fail
      go_ret
      exact⟨aG (by rw[lM.o,cU];intro j hj;exact HQ.o j (by omega)),io⟩
theorem DL(t:Tk) (vc:Value) (w:World) (hv:bN w vc t.cases) :
  Calls Tryz.prog 114 #[.agg #[.int .i64 t.n,.int .i64 t.ins,.int .i64 t.outs,vc]] w fun e w'=>e=.returned (.int .i64 (taskE t))/\Below w.heap.size w w':=by
 have G:=aa hv;obtain⟨pc,cc,rfl,l1,m1,_⟩:=hv.at;clear hv;by_cases c0:t.n<1
 ·have HR:am (taskE t=2):=by(have h:taskE t=2:=by(unfold taskE;rw[if_pos (by omega)]));exact h
  go_enter Tryz.func114,Tryz.ntmps114
  go_wp2
  go_ret
  exact⟨aG HR.o.symm,by go_grown⟩
 by_cases c1:5<t.n
 ·have HR:am (taskE t=2):=by(have h:taskE t=2:=by(unfold taskE;rw[if_pos (by omega)]));exact h
  go_enter Tryz.func114,Tryz.ntmps114
  go_wp2
  go_ret
  exact⟨aG HR.o.symm,by go_grown⟩
 by_cases c2:t.ins<1
 ·have HR:am (taskE t=2):=by(have h:taskE t=2:=by(unfold taskE;rw[if_pos (by omega)]));exact h
  go_enter Tryz.func114,Tryz.ntmps114
  go_wp2
  go_ret
  exact⟨aG HR.o.symm,by go_grown⟩
 by_cases c3:8<t.ins
 ·have HR:am (taskE t=2):=by(have h:taskE t=2:=by(unfold taskE;rw[if_pos (by omega)]));exact h
  go_enter Tryz.func114,Tryz.ntmps114
  go_wp2
  go_ret
  exact⟨aG HR.o.symm,by go_grown⟩
 by_cases c4:t.outs<1
 ·have HR:am (taskE t=2):=by(have h:taskE t=2:=by(unfold taskE;rw[if_pos (by omega)]));exact h
  go_enter Tryz.func114,Tryz.ntmps114
  go_wp2
  go_ret
  exact⟨aG HR.o.symm,by go_grown⟩
 by_cases c5:8<t.outs
 ·have HR:am (taskE t=2):=by(have h:taskE t=2:=by(unfold taskE;rw[if_pos (by omega)]));exact h
  go_enter Tryz.func114,Tryz.ntmps114
  go_wp2
  go_ret
  exact⟨aG HR.o.symm,by go_grown⟩
 by_cases d0:t.cases.length<1
 ·have HR:am (taskE t=5):=by(have h:taskE t=5:=by(unfold taskE;rw[if_neg (by omega),if_pos (by omega)]));exact h
  go_enter Tryz.func114,Tryz.ntmps114
  go_wp2
  go_ret
  exact⟨aG HR.o.symm,by go_grown⟩
 by_cases d1:1024<t.cases.length
 ·have HR:am (taskE t=5):=by(have h:taskE t=5:=by(unfold taskE;rw[if_neg (by omega),if_pos (by omega)]));exact h
  go_enter Tryz.func114,Tryz.ntmps114
  go_wp2
  go_ret
  exact⟨aG HR.o.symm,by go_grown⟩
 have HV:am (taskE t=bm t.cases.length (eY t)):=by(have h:taskE t=bm t.cases.length (eY t):=by(unfold taskE;rw[if_neg (by omega),if_neg (by omega)]));exact h
 go_enter Tryz.func114,Tryz.ntmps114
 go_wp2
 refine bF (fun W=>Below w.heap.size w W/\W.heap[w.heap.size]?=some (.cells #[.int .i64 t.n,.int .i64 t.ins,.int .i64 t.outs,.slice pc t.cases.length cc] 24)) ⟨by go_grown,ap _ _⟩ (fun W0 bd=>?_);obtain⟨aK,bK⟩:=bd;have HA:=aa bK;clear bK c0 c1 c2 c3 c4 c5 d0 d1
 go_loopw [3] (fun i wr=>Below W0.heap.size W0 wr/\∃ k:Nat,k<=t.cases.length/\i=.int .i64 k/\∀ j,j<k->eY t j=0) (fun i _=>t.cases.length - (intOf i).toNat)
 ·exact⟨Below.refl _ _,0,by omega,rfl,by simp⟩
 ·
  obtain⟨iZ,k,hk,rfl,aU⟩:=hrel;have H:=aa aU;clear aU;have aA:=ae aK iZ;have t1:=ab (af iZ HA.o);by_cases aB:k<t.cases.length
  ·have HC:=aa (Rp t _ k aB wr (G.o.up up_case aA));generalize qr:eY t k=ek at HC;have uT:=aa qr;clear qr;by_cases tm:ek=0
   ·subst tm
    go_wp2_with fail
    refine HC.o.mono ?_;rintro e w1 ⟨rfl,aM⟩
    go_wp2_with fail
    go_roundw
    ·exact⟨ae iZ aM,k+1,by omega,by go_num,aV H.o uT.o⟩
    ·simp[intOf];omega
   ·have SC:(ek != 0)=true:=by simpa using tm
    go_wp2_with fail
    refine HC.o.mono ?_;rintro e w1 ⟨rfl,aM⟩
    go_wp2_with fail
    go_ret
    exact⟨aG (by rw[HV.o];exact bV k ek aB H.o uT.o tm),ae aA aM⟩
  ·go_wp2
   go_ret
   exact⟨aG (by rw[HV.o,cU];intro j hj;exact H.o j (by omega)),aA⟩
def fewVB(l:List (List Int)):Bool:=!decide (30<l.length)&&!anyLt l.length fun i=>decide (10<(l.getD i []).length)
theorem sy(v:Value) (l:List (List Int)) (w:World) (hv:ez w v l) :
  Calls Tryz.prog 112 #[v,.int .i64 30] w fun e w'=>e=.returned (.bool (fewVB l))/\w=w':=by
 obtain⟨pa,ca,rfl,la1,la2,ea⟩:=hv.at;clear hv;have EA:=aa ea;clear ea;by_cases hl:30<l.length
 ·have HV:am (fewVB l=false):=by(have h:fewVB l=false:=by(unfold fewVB;simp[hl]));exact h
  go_enter Tryz.func112,Tryz.ntmps112
  go_wp2
  go_ret
  exact⟨aS HV.o.symm,rfl⟩
 ·have HV:am (fewVB l=!anyLt l.length fun i=>decide (10<(l.getD i []).length)):=by(have h:fewVB l=!anyLt l.length fun i=>decide (10<(l.getD i []).length):=by(unfold fewVB;rw[decide_eq_false hl];rfl));exact h
  go_enter Tryz.func112,Tryz.ntmps112
  go_wp2
  go_loop [5] (fun i=>∃ k:Nat,k<=l.length/\i=.int .i64 k/\∀ j,j<k->decide (10<(l.getD j []).length)=false) (fun i=>l.length - (intOf i).toNat)
  ·exact⟨0,by omega,rfl,by simp⟩
  ·
   obtain⟨k,hk,rfl,aU⟩:=hrel;have H:=aa aU;clear aU;by_cases aB:k<l.length
   ·obtain⟨b1,o1,rfl,x,cx,hx⟩:=EA.o k aB;rw[Nat.mul_one]at cx;have HX:=aa (az [] aB);obtain⟨px,qx,rfl,_,ed,_⟩:=hx;generalize l[k]=y at cx HX ed;by_cases FY:10<y.length
    ·go_wp2
     go_ret
     exact⟨aS (by rw[HV.o,dV _ k _ aB (by rw[HX.o];exact decide_eq_true FY)];rfl),rfl⟩
    ·go_wp2
     go_round
     ·exact⟨k+1,by omega,by go_num,aV H.o (by rw[HX.o];exact decide_eq_false (by omega))⟩
     ·simp[intOf];omega
   ·go_wp2
    go_ret
    exact⟨aS (by rw[HV.o,eR];rfl;intro j hj;exact H.o j (by omega)),rfl⟩
def Hr(c:Cs):Bool:=decide (10<c.inp.length) || !fewVB c.out || !fewVB c.calm
def fewTB(t:Tk):Bool:=!decide (30<t.cases.length)&&!anyLt t.cases.length fun i=>Hr (t.cases.getD i default)
theorem Hs(t:Tk) (vc:Value) (w:World) (hv:bN w vc t.cases) :
  Calls Tryz.prog 69 #[.agg #[.int .i64 t.n,.int .i64 t.ins,.int .i64 t.outs,vc]] w fun e w'=>e=.returned (.bool (fewTB t))/\Below w.heap.size w w':=by
 obtain⟨pc,cc,rfl,l1,m1,e1⟩:=hv.at;clear hv;have E:=aa e1;clear e1;by_cases hl:30<t.cases.length
 ·have HV:am (fewTB t=false):=by(have h:fewTB t=false:=by(unfold fewTB;simp[hl]));exact h
  go_enter Tryz.func69,Tryz.ntmps69
  go_wp2
  go_ret
  exact⟨aS HV.o.symm,by go_grown⟩
 ·have HV:am (fewTB t=!anyLt t.cases.length fun i=>Hr (t.cases.getD i default)):=by(have h:fewTB t=!anyLt t.cases.length fun i=>Hr (t.cases.getD i default):=by(unfold fewTB;rw[decide_eq_false hl];rfl));exact h
  go_enter Tryz.func69,Tryz.ntmps69
  go_wp2
  refine bF (fun W=>Below w.heap.size w W/\W.heap[w.heap.size]?=some (.cells #[.int .i64 t.n,.int .i64 t.ins,.int .i64 t.outs,.slice pc t.cases.length cc] 24)) ⟨by go_grown,ap _ _⟩ (fun W0 bd=>?_);obtain⟨aK,bK⟩:=bd;have HA:=aa bK;clear bK hl
  go_loopw [3] (fun i wr=>Below W0.heap.size W0 wr/\∃ k:Nat,k<=t.cases.length/\i=.int .i64 k/\∀ j,j<k->Hr (t.cases.getD j default)=false) (fun i _=>t.cases.length - (intOf i).toNat)
  ·exact⟨Below.refl _ _,0,by omega,rfl,by simp⟩
  ·
   obtain⟨iZ,k,hk,rfl,aU⟩:=hrel;have H:=aa aU;clear aU;have aA:=ae aK iZ;have t1:=ab (af iZ HA.o);by_cases aB:k<t.cases.length
   ·obtain⟨b1,o1,rfl,⟨x0,cx0,dp⟩,⟨x1,cx1,dJ⟩,⟨x2,cx2,ed⟩⟩:=E.o k aB;have d0:=ak aA cx0;have d1:=ak aA cx1;have d2:=ak aA cx2;have HX:=aa (az default aB);have AP:=aa (fun W (hb:Below w.heap.size w W)=>sy _ _ W (dJ.up up_ints hb));have j7:=aa (fun W (hb:Below w.heap.size w W)=>sy _ _ W (ed.up up_ints hb));obtain⟨p0,q0,rfl,_,h0l,_⟩:=dp;obtain⟨p1,q1,rfl,_⟩:=dJ;obtain⟨p2,q2,rfl,_⟩:=ed;have eQ:=aC (af iZ HA.o);clear cx0 cx1 cx2;have HB:am (Hr t.cases[k]=(decide (10<t.cases[k].inp.length) || !fewVB t.cases[k].out || !fewVB t.cases[k].calm)):=by exact rfl
    generalize fewVB t.cases[k].out=f1 at AP HB;generalize fewVB t.cases[k].calm=f2 at j7 HB;have nR:Below wr.heap.size wr (wr.alloc (.cells #[.slice p0 t.cases[k].inp.length q0,.slice p1 t.cases[k].out.length q1,.slice p2 t.cases[k].calm.length q2] 135)):=by go_grown
    have zi:=ae aA nR;have AR:=aa nR;clear nR;by_cases FY:10<t.cases[k].inp.length
    ·go_wp2_with fail
     go_ret
     exact⟨aS (by rw[HV.o,dV _ k _ aB (by rw[HX.o,HB.o,decide_eq_true FY];rfl)];rfl),zi⟩
    ·have SR:am (decide (10<t.cases[k].inp.length)=false):=by(have h:=decide_eq_false FY);exact h
     cases f1 with
     | false=>
      go_wp2_with fail
      refine(AP.o _ zi).mono ?_;rintro e w1 ⟨rfl,rfl⟩
      go_wp2_with fail
      go_ret
      exact⟨aS (by rw[HV.o,dV _ k _ aB (by rw[HX.o,HB.o,SR.o];rfl)];rfl),zi⟩
     | true=>
      cases f2 with
      | false=>
       go_wp2_with fail
       refine(AP.o _ zi).mono ?_;rintro e w1 ⟨rfl,rfl⟩
       go_wp2_with fail
       refine(j7.o _ zi).mono ?_;rintro e w1 ⟨rfl,rfl⟩
       go_wp2_with fail
       go_ret
       exact⟨aS (by rw[HV.o,dV _ k _ aB (by rw[HX.o,HB.o,SR.o];rfl)];rfl),zi⟩
      | true=>
       go_wp2_with fail
       refine(AP.o _ zi).mono ?_;rintro e w1 ⟨rfl,rfl⟩
       go_wp2_with fail
       refine(j7.o _ zi).mono ?_;rintro e w1 ⟨rfl,rfl⟩
       go_wp2_with fail
       go_roundw
       ·exact⟨ae iZ AR.o,k+1,by omega,by go_num,aV H.o (by rw[HX.o,HB.o,SR.o];rfl)⟩
       ·simp[intOf];omega
   ·go_wp2
    go_ret
    exact⟨aS (by rw[HV.o,eR];rfl;intro j hj;exact H.o j (by omega)),aA⟩
abbrev Gr.c(g:Gr):Array Value:=#[.int .i64 g.n,.int .i64 g.h0,.int .i64 g.h1,.int .i64 g.h2,.int .i64 g.h3,.int .i64 g.h4]
theorem BW(g:Gr) (w:World) :
  Calls Tryz.prog 208 #[g.v] w fun e w'=>e=.returned (.int .i64 (gS g))/\Below w.heap.size w w':=by
 by_cases hn:g.n<1\/5<g.n
 ·have H:am (gS g=2):=by(have h:gS g=2:=by(unfold gS;rw[if_pos hn]));exact h
  rcases hn with hn|hn
  ·go_enter Tryz.func208,Tryz.ntmps208
   go_wp2
   go_ret;exact⟨aG H.o.symm,by go_grown⟩
  ·have yN:¬ g.n<1:=by omega
   go_enter Tryz.func208,Tryz.ntmps208
   go_wp2
   go_ret;exact⟨aG H.o.symm,by go_grown⟩
 have jZ:1<=g.n:=by omega
 have n':g.n<=5:=by omega
 have HE:am (gS g=bm 5 fun p=>mr g.n (g.hear p) p):=by(have h:gS g=bm 5 fun p=>mr g.n (g.hear p) p:=by(unfold gS;rw[if_neg hn]));exact h
 clear hn;have hn3:¬ g.n<1:=by omega
 have hn4:¬ 5<g.n:=by omega
 go_enter Tryz.func208,Tryz.ntmps208
 go_wp2
 refine bF (fun W=>Below w.heap.size w W/\W.heap[w.heap.size]?=some (.cells g.c 139)) ⟨by go_grown,ap _ _⟩ (fun W0 bd=>?_);obtain⟨aK,hA⟩:=bd;have HA:=aa hA;have t1:=ab hA 0;simp at t1;clear hA
 go_loop [3] (fun i=>∃ k:Nat,k<=5/\i=.int .i64 k/\∀ j,j<k->mr g.n (g.hear j) j=0) (fun i=>5 - (intOf i).toNat)
 ·exact⟨0,by omega,rfl,by simp⟩
 ·
  obtain⟨k,hk,rfl,aU⟩:=hrel;have H:=aa aU;clear aU;by_cases aB:k<5
  ·have hx:=mV g k aB W0 _ HA.o;obtain⟨x,lA⟩:∃ x,x=g.hear k:=⟨_,rfl⟩;rw[<-lA]at hx;have HX:=aa lA;clear lA;obtain⟨m,hm⟩:∃ m:Nat,g.n=m:=⟨g.n.toNat,by omega⟩;have hp:=zw m (by omega);have HC:=aa (fun w=>E5 m (by omega) w)
   have HV:am (mr g.n x k=if (m:Int)<=k then(if x≠0 then 3 else 0) else if x<0\/2 ^ m - 1<x then 2 else if hasB x k then 0 else 3):=by
    have h:mr g.n x k=if (m:Int)<=k then(if x≠0 then 3 else 0) else if x<0\/2 ^ m - 1<x then 2 else if hasB x k then 0 else 3:=by
     unfold mr;rw[hm,Int.toNat_natCast]
    exact h
   rw[hm]at t1;rw[hm]at jZ n';have HM:=aa hm;generalize (2:Int) ^ m=y at hp HC HV;clear hm hn3 hn4;by_cases fX:(m:Int)<=k
   ·go_wp2
    ·go_ret
     refine⟨aG ?_,aK⟩;rw[HE.o]
     go_light
     refine bV k _ aB H.o ?_ (by decide);rw[<-HX.o,HV.o]
     grind
    ·go_round
     ·
      refine⟨k+1,by omega,by go_num,aV H.o ?_⟩
      go_light
      rw[<-HX.o,HV.o]
      grind
     ·simp[intOf];omega
   ·by_cases lA:x<0\/y - 1<x
    ·have hq:∀ z,z=2->z=gS g:=fun z hz=>by
      subst hz;rw[HE.o];refine bV k _ aB H.o ?_ (by decide);rw[<-HX.o,HV.o,if_neg fX,if_pos lA]
     have HQ:=aa hq;clear hq;rcases lA with lA|lA
     ·go_wp2
      go_ret
      exact⟨aG (HQ.o _ rfl),aK⟩
     ·have dp:¬ x<0:=by omega
      go_wp2_with (go_at_call 60;refine(HC.o _).mono ?_;rintro e w' ⟨rfl,rfl⟩)
      go_ret
      exact⟨aG (HQ.o _ rfl),aK⟩
    ·have dp:¬ x<0:=by omega
     have dJ:¬ y - 1<x:=by omega
     have j7:=aa (fun w=>mH x k (by omega) (by omega) (by omega) w);cases hb:hasB x k with
     | true=>
      rw[hb]at j7 HV;have WF:=aa lA;clear hb lA
      go_wp2_with (first|(go_at_call 60;refine(HC.o _).mono ?_;rintro e w' ⟨rfl,rfl⟩)|(go_at_call 47;refine(j7.o _).mono ?_;rintro e w' ⟨rfl,rfl⟩))
      go_round
      ·
       refine⟨k+1,by omega,by go_num,aV H.o ?_⟩;rw[<-HX.o,HV.o,if_neg (by omega),if_neg (by omega)];rfl
      ·simp[intOf];omega
     | false=>
      rw[hb]at j7 HV;have WF:=aa lA;clear hb lA
      go_wp2_with (first|(go_at_call 60;refine(HC.o _).mono ?_;rintro e w' ⟨rfl,rfl⟩)|(go_at_call 47;refine(j7.o _).mono ?_;rintro e w' ⟨rfl,rfl⟩))
      go_ret
      refine⟨aG ?_,aK⟩;rw[HE.o];refine bV k _ aB H.o ?_ (by decide);rw[<-HX.o,HV.o,if_neg (by omega),if_neg (by omega)];rfl
  ·go_wp2
   go_ret;exact⟨aG (by rw[HE.o,cU];intro j hj;exact H.o j (by omega)),aK⟩
theorem OD{a b:Gr} (h:a.n<b.n):fp a b=-1:=by unfold fp cmpI;grind
theorem OE{a b:Gr} (h:b.n<a.n):fp a b=1:=by unfold fp cmpI;grind
theorem OF{a b:Gr} (h:a.n=b.n):fp a b=bm 5 fun p=>cmpI (a.hear p) (b.hear p):=by unfold fp;rw[h,p7];simp
theorem zN(a b:Gr) (w:World) :
  Calls Tryz.prog 210 #[a.v,b.v] w fun e w'=>e=.returned (.int .i64 (fp a b))/\Below w.heap.size w w':=by
 rcases Int.lt_trichotomy a.n b.n with hn|hn|hn
 ·have H:=aa (OD hn)
  go_enter Tryz.func210,Tryz.ntmps210
  go_wp2
  go_ret;exact⟨aG H.o.symm,by go_grown⟩
 ·have HC:=aa (OF hn);have h1:¬ a.n<b.n:=by omega
  have h2:¬ b.n<a.n:=by omega
  clear hn
  go_enter Tryz.func210,Tryz.ntmps210
  go_wp2
  refine bF (fun W=>Below w.heap.size w W/\W.heap[w.heap.size]?=some (.cells a.c 139)/\W.heap[w.heap.size+1]?=some (.cells b.c 139))
   ⟨by go_grown,aq _ (ap _ _),by have:=ap (w.alloc (.cells a.c 139));rw[World.size_alloc]at this;exact this _⟩ (fun W0 bd=>?_)
  obtain⟨aK,hA,hB⟩:=bd;have HA:=aa hA;clear hA;have HB:=aa hB;clear hB;clear h1 h2
  go_loopw [5] (fun i wr=>Below W0.heap.size W0 wr/\∃ k:Nat,k<=5/\i=.int .i64 k/\∀ j,j<k->cmpI (a.hear j) (b.hear j)=0) (fun i _=>5 - (intOf i).toNat)
  ·exact⟨Below.refl _ _,0,by omega,rfl,by simp⟩
  ·
   obtain⟨aA,k,hk,rfl,aU⟩:=hrel;have H:=aa aU;clear aU;by_cases aB:k<5
   ·have c1:∀ n,(wr.drewN n).cell? ⟨w.heap.size,1+k,none⟩=some (.int .i64 (a.hear k)):=fun n=>mV a k aB wr _ (af aA HA.o)
    have c2:∀ n,(wr.drewN n).cell? ⟨w.heap.size+1,1+k,none⟩=some (.int .i64 (b.hear k)):=fun n=>mV b k aB wr _ (af aA HB.o)
    have HV:am (cmpI (a.hear k) (b.hear k)=if a.hear k<b.hear k then -1 else if b.hear k<a.hear k then 1 else 0):=by exact rfl
    generalize hx:a.hear k=x at c1 HV;generalize hy:b.hear k=y at c2 HV;have HX:=aa hx;clear hx;have HY:=aa hy;clear hy;rcases Int.lt_trichotomy x y with hn|hn|hn
    ·go_wp2
     go_quiet (fail)
     go_wp2
     go_ret
     refine⟨aG ?_,eG (ae aK aA) _⟩;rw[HC.o];refine bV k _ aB H.o ?_ (by decide);rw[HX.o,HY.o,HV.o,if_pos hn]
    ·have h1:¬ x<y:=by omega
     have h2:¬ y<x:=by omega
     clear hn
     go_wp2
     go_quiet (fail)
     go_wp2
     have c3:∀ m n,((wr.drewN m).drewN n).cell? ⟨w.heap.size,1+k,none⟩=some (.int .i64 x):=fun m n=>c1 m
     have c4:∀ m n,((wr.drewN m).drewN n).cell? ⟨w.heap.size+1,1+k,none⟩=some (.int .i64 y):=fun m n=>c2 m
     go_quiet (fail)
     go_wp2
     go_roundw
     ·
      refine⟨eG aA _,k+1,by omega,by go_num,aV H.o ?_⟩;rw[HX.o,HY.o,HV.o,if_neg (by omega),if_neg (by omega)]
     ·simp[intOf];omega
    ·have h1:¬ x<y:=by omega
     go_wp2
     go_quiet (fail)
     go_wp2
     have c3:∀ m n,((wr.drewN m).drewN n).cell? ⟨w.heap.size,1+k,none⟩=some (.int .i64 x):=fun m n=>c1 m
     have c4:∀ m n,((wr.drewN m).drewN n).cell? ⟨w.heap.size+1,1+k,none⟩=some (.int .i64 y):=fun m n=>c2 m
     go_quiet (fail)
     go_wp2
     go_ret
     refine⟨aG ?_,eG (eG (ae aK aA) _) _⟩;rw[HC.o];refine bV k _ aB H.o ?_ (by decide);rw[HX.o,HY.o,HV.o,if_neg (by omega),if_pos hn]
   ·go_wp2
    go_ret;exact⟨aG (by rw[HC.o,cU];intro j hj;exact H.o j (by omega)),ae aK aA⟩
 ·have H:=aa (OE hn);have h1:¬ a.n<b.n:=by omega
  go_enter Tryz.func210,Tryz.ntmps210
  go_wp2
  go_ret;exact⟨aG H.o.symm,by go_grown⟩
theorem BX(r:Rd) (w:World) :
  Calls Tryz.prog 186 #[r.v] w fun e w'=>e=.returned (.int .i64 (roundE r))/\Below w.heap.size w w':=by
 obtain⟨⟨n,h0,h1,h2,h3,h4⟩,f⟩:=r
 go_enter Tryz.func186,Tryz.ntmps186
 go_wp2_with (first
  | (go_at_call 208;refine(BW ⟨_,_,_,_,_,_⟩ _).mono ?_;rintro e w1 ⟨rfl,hb⟩;obtain⟨hc,hf⟩:=LS hb)
  | (go_at_call 209;refine(Gl _ _ _).mono ?_;rintro e w2 ⟨rfl,rfl⟩))
 all_goals
  go_ret
  refine⟨aG ?_,?_⟩
  ·go_light
   unfold roundE
   grind
  ·exact ae (by go_grown) hb
theorem zP(a b:Rd) (w:World) :
  Calls Tryz.prog 187 #[a.v,b.v] w fun e w'=>e=.returned (.int .i64 (roundC a b))/\Below w.heap.size w w':=by
 obtain⟨⟨n,h0,h1,h2,h3,h4⟩,f⟩:=a;obtain⟨⟨m,g0,g1,g2,g3,g4⟩,g⟩:=b
 go_enter Tryz.func187,Tryz.ntmps187
 go_wp2_with (first
  | (go_at_call 210;refine(zN ⟨_,_,_,_,_,_⟩ ⟨_,_,_,_,_,_⟩ _).mono ?_;rintro e w1 ⟨rfl,hb⟩;obtain⟨hc,hf⟩:=LS hb))
 all_goals
  go_ret
  refine⟨aG ?_,?_⟩
  ·go_light
   unfold roundC cmpI
   grind
  ·exact ae (by go_grown) hb
theorem BY(n:Int) (v:Value) (l:List (List Mv)) (w:World) (hv:bz w v l) (hN:movesN l<2305843009213693952) :
  Calls Tryz.prog 113 #[.agg #[.int .i64 n,v]] w fun e w'=>e=.returned (.int .i64 (movesN l))/\Below w.heap.size w w':=by
 obtain⟨pa,ca,rfl,la1,la2,ea⟩:=hv.at;clear hv;have EA:=aa ea;clear ea
 go_enter Tryz.func113,Tryz.ntmps113
 go_wp2
 refine bF (fun W=>Below w.heap.size w W/\W.heap[w.heap.size]?=some (.cells #[.int .i64 n,.slice pa l.length ca] 27)) ⟨by go_grown,ap _ _⟩ (fun W0 bd=>?_);obtain⟨aK,bK⟩:=bd;have t1:=ab bK 1;simp at t1;clear bK
 go_loop [3,4] (fun o i=>∃ k:Nat,k<=l.length/\i=.int .i64 k/\o=.int .i64 (cnt l k)) (fun _ i=>l.length - (intOf i).toNat)
 ·exact⟨0,by omega,rfl,by rw[pA];rfl⟩
 ·
  obtain⟨k,hk,rfl,rfl⟩:=hrel;by_cases aB:k<l.length
  ·obtain⟨b1,o1,rfl,x,cx,hx⟩:=EA.o k aB;rw[Nat.mul_one]at cx;have c1:=ak aK cx;have bU:=GV l k aB;have oE:=aa (pB l k aB);obtain⟨px,qx,rfl,_⟩:=hx;clear cx;generalize cnt l k=c at bU oE
   go_wp2
   go_round
   ·exact⟨k+1,by omega,by go_num,by rw[oE.o];go_num⟩
   ·simp[intOf];omega
  ·go_wp2
   go_ret
   exact⟨aG (by rw[uA l k (by omega)]),aK⟩
theorem OG(a:Adv) (ps:Option Addr) (cs:Nat) (vl:Value) (l:List Mv) (k:Nat) (aB:k<l.length) (w:World) (hv:pf w vl l) :
  Calls Tryz.prog 155 #[.agg #[.int .i64 a.n,.slice ps a.states.length cs],vl,.int .i64 k] w fun e w'=>e=.returned (.int .i64 (dW a l k))/\Below w.heap.size w w':=by
 obtain⟨pc,cc,rfl,l1,m1,e1⟩:=hv.at;clear hv;have E:=aa e1;clear e1;obtain⟨b1,o1,rfl,⟨⟨c0,_⟩,⟨c1,_⟩,⟨c2,_⟩,⟨c3,_⟩,⟨c4,_⟩,⟨c5,_⟩,⟨c6,_⟩⟩,⟨c7,hc7⟩⟩:=E.o k aB;have Wv:b1<w.heap.size:=fk c0;have hlb':b1<w.heap.size+1:=by omega
 have HO:am (dW a l k=if roundE l[k].r≠0 then roundE l[k].r else if l[k].r.g.n≠a.n then 22 else if 0<k/\0<=roundC (l.getD (k - 1) default).r l[k].r then 14 else if l[k].to<0\/(a.states.length:Int)<=l[k].to then 2 else 0):=by
  have h:dW a l k=if roundE l[k].r≠0 then roundE l[k].r else if l[k].r.g.n≠a.n then 22 else if 0<k/\0<=roundC (l.getD (k - 1) default).r l[k].r then 14 else if l[k].to<0\/(a.states.length:Int)<=l[k].to then 2 else 0:=by unfold dW;rw[az default aB]
  exact h
 have WW:=c7;generalize l[k]=m at c0 c1 c2 c3 c4 c5 c6 c7 hc7 HO WW;have HC7:=aa WW;clear WW
 go_enter Tryz.func155,Tryz.ntmps155
 go_wp2_with fail
 refine aQ (fun V=>Below w.heap.size w V/\V.heap[w.heap.size]?=some (.cells #[.int .i64 a.n,.slice ps a.states.length cs] 27)/\V.heap[w.heap.size+1]?=some (.cells #[.int .i64 m.r.g.n,.int .i64 m.r.g.h0,.int .i64 m.r.g.h1,.int .i64 m.r.g.h2,.int .i64 m.r.g.h3,.int .i64 m.r.g.h4,.int .i64 m.r.f] 141)) ⟨by go_grown,aq _ (ap _ _),by simpa using ap (w.alloc _) _⟩ (fun V hV=>?_);obtain⟨kY,hT,hC⟩:=hV;have HT:=aa hT;have HC:=aa hC;clear hT hC c0 c1 c2 c3 c4 c5 c6 c7;refine(BX m.r V).mono ?_;rintro e w1 ⟨rfl,aM⟩;have jd:=ae kY aM;have s1:=ab (af aM HT.o);have s2:=ab (af aM HC.o);generalize roundE m.r=er at HO;by_cases F5:er=0
 case neg=>
  have her':(er != 0)=true:=by simpa using F5
  go_wp2_with fail
  go_ret
  exact⟨aG (by rw[HO.o,if_pos F5]),jd⟩
 subst F5;by_cases uV:m.r.g.n=a.n
 case neg=>
  have Jf:(m.r.g.n != a.n)=true:=by simpa using uV
  go_wp2_with fail
  go_ret
  exact⟨aG (by rw[HO.o,if_neg (by simp),if_pos uV]),jd⟩
 have Jf:(m.r.g.n != a.n)=false:=by simpa using uV
 have gE:am (dW a l k=if 0<k/\0<=roundC (l.getD (k - 1) default).r m.r then 14 else if m.to<0\/(a.states.length:Int)<=m.to then 2 else 0):=by
  have h:dW a l k=if 0<k/\0<=roundC (l.getD (k - 1) default).r m.r then 14 else if m.to<0\/(a.states.length:Int)<=m.to then 2 else 0:=by rw[HO.o,if_neg (by simp),if_neg (by simpa using uV)]
  exact h
 clear HO uV
 go_wp2_with fail
 clear Jf s1 s2;by_cases eX:k=0
 case' pos=>
  have eP:am (dW a l k=if m.to<0\/(a.states.length:Int)<=m.to then 2 else 0):=by(have h:dW a l k=if m.to<0\/(a.states.length:Int)<=m.to then 2 else 0:=by(rw[gE.o,if_neg (by omega)]));exact h
  have hd:decide ((0:Int)<(k:Int))=false:=decide_eq_false (by omega);have gm:decide (0<k)=false:=decide_eq_false (by omega);clear gE eX;refine aF (by kernel_rfl) (by kernel_rfl) ?_
  repeat (go_big_quiet_step (fail))
  refine wpQuiet_nil ?_;intro _ eE;obtain⟨xq,dj⟩:=eE;subst dj;clear hd gm
 case' neg=>
  obtain⟨j,hj⟩:∃ j,k=j+1:=⟨k - 1,by omega⟩;have fH:j<l.length:=by omega
  have HJ:=aa hj;obtain⟨b2,o2,e2,⟨⟨c0,_⟩,⟨c1,_⟩,⟨c2,_⟩,⟨c3,_⟩,⟨c4,_⟩,⟨c5,_⟩,⟨c6,_⟩⟩,_⟩:=E.o j fH;obtain⟨rfl,rfl⟩:b1=b2/\o1=o2:=by simpa using e2
  clear e2;have hd:decide ((0:Int)<(k:Int))=true:=decide_eq_true (by omega);have gm:0<k:=by omega
  have lM:am (dW a l k=if 0<=roundC l[j].r m.r then 14 else if m.to<0\/(a.states.length:Int)<=m.to then 2 else 0):=by
   have h:dW a l k=if 0<=roundC l[j].r m.r then 14 else if m.to<0\/(a.states.length:Int)<=m.to then 2 else 0:=by
    rw[gE.o];have e:k - 1=j:=by omega
    rw[e,az default fH]
    grind
   exact h
  clear gE eX hj;have jB:IntKind.i64.wrap ((k:Int) - 1)=(j:Int):=by rw[HJ.o];rw[IntWalk.i64_in _ (by omega)];omega
  generalize l[j]=m2 at c0 c1 c2 c3 c4 c5 c6 lM;have r1:∀ x:ExtW w1,∀ o,x.val.cell? ⟨w.heap.size,o,none⟩=_:=fun x=>ab (af (ae aM x.ext) HT.o)
  have r2:∀ x:ExtW w1,∀ o,x.val.cell? ⟨w.heap.size+1,o,none⟩=_:=fun x=>ab (af (ae aM x.ext) HC.o)
  have k0:∀ x:ExtW w1,x.val.cell? _=_:=fun x=>x.cell (ak jd c0)
  have k1:∀ x:ExtW w1,x.val.cell? _=_:=fun x=>x.cell (ak jd c1)
  have k2:∀ x:ExtW w1,x.val.cell? _=_:=fun x=>x.cell (ak jd c2)
  have k3:∀ x:ExtW w1,x.val.cell? _=_:=fun x=>x.cell (ak jd c3)
  have k4:∀ x:ExtW w1,x.val.cell? _=_:=fun x=>x.cell (ak jd c4)
  have k5:∀ x:ExtW w1,x.val.cell? _=_:=fun x=>x.cell (ak jd c5)
  have k6:∀ x:ExtW w1,x.val.cell? _=_:=fun x=>x.cell (ak jd c6)
  clear c0 c1 c2 c3 c4 c5 c6;refine aF (by kernel_rfl) (by kernel_rfl) ?_
  repeat (go_big_quiet_step ((go_at_call 187;exact Calls.ext_of (zP m2.r m.r _))))
  refine wpQuiet_nil ?_;intro _ eE;obtain⟨xq,dj⟩:=eE;subst dj;clear r1 r2 k0 k1 k2 k3 k4 k5 k6 hd gm jB;generalize roundC m2.r m.r=oo at lM;by_cases qV:0<=oo
  ·go_wp2_with fail
   go_ret
   exact⟨aG (by rw[lM.o,if_pos qV]),ae jd xq.ext⟩
  have eP:am (dW a l k=if m.to<0\/(a.states.length:Int)<=m.to then 2 else 0):=by(have h:dW a l k=if m.to<0\/(a.states.length:Int)<=m.to then 2 else 0:=by(rw[lM.o,if_neg qV]));exact h
  clear lM HJ
 all_goals
  have dB:=ae jd xq.ext;have F':=af (ae aM xq.ext) HT.o;generalize xq.val=W5 at dB F' ⊢;have r1:∀ n o,(W5.drewN n).cell? ⟨w.heap.size,o,none⟩=_:=fun n=>ab F'
  have r7:∀ n,(W5.drewN n).cell? _=_:=fun n=>ak dB HC7.o
  clear F';by_cases ht:m.to<0
  ·go_wp2_with fail
   go_quiet (fail)
   go_wp2_with fail
   go_ret
   exact⟨aG (by rw[eP.o,if_pos (by omega)]),eG dB _⟩
  ·have hd:decide (m.to<0)=false:=decide_eq_false ht
   go_wp2_with fail
   go_quiet (fail)
   go_wp2_with fail
   ·go_ret
    refine⟨aG ?_,eG dB _⟩;rw[eP.o]
    go_light
    grind
   ·go_ret
    refine⟨aG ?_,eG dB _⟩;rw[eP.o]
    go_light
    grind
theorem Rq(a:Adv) (s j:Nat) (hs:s<a.states.length) (hj:j<a.states[s].length) :
  pO a (cnt a.states s+j)=anyLt (a.states.getD a.states[s][j].to.toNat []).length fun k=>!iR a.states[s][j].r.f ((a.states.getD a.states[s][j].to.toNat []).getD k default).r.f:=by
 unfold pO ny;rw[zn _ s j hs hj]
theorem Rr(a:Adv) (s j u:Nat) (hs:s<a.states.length) (hj:j<a.states[s].length) (hu:u<a.states.length) (h:a.states[s][j].to=u) :
  pO a (cnt a.states s+j)=anyLt a.states[u].length fun k=>!iR a.states[s][j].r.f (a.states[u].getD k default).r.f:=by
 rw[Rq a s j hs hj,h,Int.toNat_natCast,az [] hu]
theorem Md(a:Adv) (v:Value) (w:World) (hv:bz w v a.states) (fV:∀ s,s<a.states.length->stateE a (a.states.getD s [])=0) :
  Calls Tryz.prog 156 #[.agg #[.int .i64 a.n,v]] w fun e w'=>e=.returned (.bool (growsB a))/\Below w.heap.size w w':=by
 obtain⟨pa,ca,rfl,la1,la2,ea⟩:=hv.at;clear hv;have EA:=aa ea;clear ea;have dL:=aa fV;clear fV;have HV:am (growsB a=!anyLt (movesN a.states) (pO a)):=by exact rfl
 go_enter Tryz.func156,Tryz.ntmps156
 go_wp2
 refine bF (fun W=>Below w.heap.size w W/\W.heap[w.heap.size]?=some (.cells #[.int .i64 a.n,.slice pa a.states.length ca] 27)) ⟨by go_grown,ap _ _⟩ (fun W0 bd=>?_);obtain⟨aK,bK⟩:=bd;have HA:=aa bK;clear bK
 go_loopw [3] (fun i wr=>Below W0.heap.size W0 wr/\∃ s:Nat,s<=a.states.length/\i=.int .i64 s/\∀ j,j<cnt a.states s->pO a j=false) (fun i _=>a.states.length - (intOf i).toNat)
 ·exact⟨Below.refl _ _,0,by omega,rfl,by rw[pA];simp⟩
 ·
  obtain⟨iZ,s,hs,rfl,aU⟩:=hrel;have H:=aa aU;clear aU;have aA:=ae aK iZ;have t1:=ab (af iZ HA.o);by_cases aB:s<a.states.length
  ·obtain⟨b1,o1,rfl,x,cx,hx⟩:=EA.o s aB;rw[Nat.mul_one]at cx;obtain⟨px,qx,rfl,x1,x2,ex⟩:=hx.at;have EX:=aa ex;have CX:=aa cx;have oE:=aa (pB a.states s aB);have bU:=GV a.states s aB;clear hx cx ex
   go_wp2
   clear t1
   go_loopw [4] (fun i ws=>Below wr.heap.size wr ws/\∃ m:Nat,m<=a.states[s].length/\i=.int .i64 m/\∀ j,j<cnt a.states s+m->pO a j=false) (fun i _=>a.states[s].length - (intOf i).toNat)
   ·exact⟨Below.refl _ _,0,by omega,rfl,by simpa using H.o⟩
   ·
    obtain⟨lS,m,hm,rfl,aU⟩:=hrel
    rename World=>ws
    have H2:=aa aU;clear aU;have rY:=ae iZ lS;have io:=ae aA lS;have t1:=ab (af rY HA.o);have c1:=ak io CX.o;have eQ:=aC (af rY HA.o);have aM:b1<ws.heap.size:=fk c1;by_cases mm:m<a.states[s].length
    ·obtain⟨b3,o3,rfl,⟨⟨d0,_⟩,⟨d1,_⟩,⟨d2,_⟩,⟨d3,_⟩,⟨d4,_⟩,⟨d5,_⟩,⟨d6,_⟩⟩,⟨d7,_⟩⟩:=EX.o m mm;have hso:=lf dL.o aB mm;obtain⟨u,hu⟩:∃ u:Nat,a.states[s][m].to=u:=⟨a.states[s][m].to.toNat,by omega⟩;have Qm:u<a.states.length:=by omega
     have Fw:=aa (Rr a s m u aB mm Qm hu);rw[hu]at d7;have fN:=hso.1;obtain⟨b4,o4,e4,y,cy,hy⟩:=EA.o u Qm;obtain⟨rfl,rfl⟩:b1=b4/\o1=o4:=by simpa using e4
     rw[Nat.mul_one]at cy;obtain⟨py,qy,rfl,y1,y2,ey⟩:=hy.at;have EY:=aa ey;have CY:=aa cy;have Qi:=aa (fun j (hj:j<a.states[u].length)=>(lf dL.o Qm hj).1);have g0:=ak io d0;have g1:=ak io d1;have g2:=ak io d2;have g3:=ak io d3;have g4:=ak io d4;have g5:=ak io d5;have g6:=ak io d6;have g7:=ak io d7;clear hu hso hy cy ey e4 d0 d1 d2 d3 d4 d5 d6 d7;generalize a.states[s][m]=mv at g0 g1 g2 g3 g4 g5 g6 Fw fN
     go_wp2
     refine bF (fun W=>Below ws.heap.size ws W/\W.heap[ws.heap.size]?=some (.cells #[.int .i64 mv.r.g.n,.int .i64 mv.r.g.h0,.int .i64 mv.r.g.h1,.int .i64 mv.r.g.h2,.int .i64 mv.r.g.h3,.int .i64 mv.r.g.h4,.int .i64 mv.r.f,.int .i64 u] 143)) ⟨by go_grown,ap _ _⟩ (fun W6 uU=>?_);obtain⟨ip,hM6⟩:=uU;have HM6:=aa hM6;clear hM6 g0 g1 g2 g3 g4 g5 g6 g7 t1 c1 eQ aM
     go_loopw [6] (fun i wt=>Below W6.heap.size W6 wt/\∃ q:Nat,q<=a.states[u].length/\i=.int .i64 q/\∀ j,j<q->(!iR mv.r.f (a.states[u].getD j default).r.f)=false) (fun i _=>a.states[u].length - (intOf i).toNat)
     ·exact⟨Below.refl _ _,0,by omega,rfl,by simp⟩
     ·
      obtain⟨um,q,hq,rfl,aU⟩:=hrel
      rename World=>wt
      have H3:=aa aU;clear aU;have Sf:=ae ip um;have hbt5:=ae rY Sf;have sQ:=ae io Sf;have t1:=ab (af hbt5 HA.o);have t2:=ab (af um HM6.o);have c2:=ak sQ CY.o;by_cases og:q<a.states[u].length
      ·obtain⟨b5,o5,rfl,⟨_,_,_,_,_,_,⟨f6,_⟩⟩,_⟩:=EY.o q og;have FB:=Qi.o q og;have gt:=aa (az default og);generalize a.states[u][q]=nx at f6 FB gt;have bQ:=aa (fun x:ExtW wt=>Calls.ext_of ((J7 mv.r.f nx.r.f (by omega) (by omega) x.val).mono (fun _ _ ⟨h1,h2⟩=>⟨h1,h2 ▸ Below.refl _ _⟩)))
       go_wp2_with fail
       have r1:∀ x:ExtW wt,∀ o,x.val.cell? ⟨w.heap.size,o,none⟩=_:=fun x=>ab (af (ae hbt5 x.ext) HA.o)
       have r2:∀ x:ExtW wt,∀ o,x.val.cell? ⟨ws.heap.size,o,none⟩=_:=fun x=>ab (af (ae um x.ext) HM6.o)
       have r3:∀ x:ExtW wt,x.val.cell? ⟨b1,o1+u,none⟩=_:=fun x=>x.cell c2
       have r4:∀ x:ExtW wt,x.val.cell? _=_:=fun x=>x.cell (ak sQ f6)
       clear t1 t2 c2 f6;cases cY:iR mv.r.f nx.r.f with
       | false=>
        rw[cY]at bQ;have jf:=aa cY;clear cY;refine aF (by kernel_rfl) (by kernel_rfl) ?_
        repeat (go_big_quiet_step ((go_at_call 188;exact bQ.o _)))
        refine wpQuiet_nil ?_;intro _ eE;obtain⟨xq,dj⟩:=eE;subst dj;clear r1 r2 r3 r4 bQ
        go_wp2_with fail
        go_ret
        refine⟨aS ?_,ae sQ xq.ext⟩;rw[HV.o,dV _ (cnt a.states s+m) _ (by omega) (by rw[Fw.o];exact dV _ q _ og (by rw[gt.o,jf.o];rfl))];rfl
       | true=>
        rw[cY]at bQ;have jf:=aa cY;clear cY;refine aF (by kernel_rfl) (by kernel_rfl) ?_
        repeat (go_big_quiet_step ((go_at_call 188;exact bQ.o _)))
        refine wpQuiet_nil ?_;intro _ eE;obtain⟨xq,dj⟩:=eE;subst dj;clear r1 r2 r3 r4 bQ
        go_wp2_with fail
        go_roundw
        ·exact⟨ae um xq.ext,q+1,by omega,by go_num,aV H3.o (by rw[gt.o,jf.o];rfl)⟩
        ·simp[intOf];omega
      ·go_wp2_with fail
       go_roundw
       ·
        refine⟨ae lS Sf,m+1,by omega,by go_num,?_⟩;rw[<-Nat.add_assoc];refine aV H2.o ?_;rw[Fw.o];exact eR _ _ fun j hj=>H3.o j (by omega)
       ·simp[intOf];omega
    ·go_wp2_with fail
     go_roundw
     ·
      refine⟨ae iZ lS,s+1,by omega,by go_num,?_⟩;rw[oE.o];exact fun j hj=>H2.o j (by omega)
     ·simp[intOf];omega
  ·go_wp2
   go_ret
   refine⟨aS ?_,aA⟩;rw[HV.o,eR]
   ·rfl
   ·intro j hj;refine H.o j ?_;rw[uA _ _ (by omega)];exact hj
end Go.Proofs.YtmeaoneaephjeaaGreatDoor
