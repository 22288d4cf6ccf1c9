/-
  A part of the proof: lemmas and contracts that the parts behind it use. Each one's conditions are its own premises.
-/
import Derived.Test.YtmeaoneaephjeaaGreatDoorProg
import Derived.ChangeKeysEq
import Derived.WalkSpells
import Derived.Laws.AppendOwnNone
import Derived.Test.YtmeaoneaephjeaaGreatDoorL2
set_option maxRecDepth 100000
set_option maxHeartbeats 8000000
set_option linter.unusedVariables false
set_option linter.unusedSimpArgs false
namespace Go.Proofs.YtmeaoneaephjeaaGreatDoor
def UH(h:Int × Int):Rd:=⟨⟨2,h.1,h.2,0,0,0⟩,0⟩
def ckCs:List Cs:=[⟨[0,0],[[0,0]],[]⟩,⟨[0,1],[[0,0],[1,1]],[]⟩,⟨[1,1],[[1,1]],[]⟩]
def rB(rounds:Int) (gs:List (Int × Int)):Pb:=⟨⟨2,2,2,ckCs⟩,⟨2,[gs.map fun h=>⟨UH h,0⟩]⟩,rounds⟩
def ck1:Sys:=aO (rB 1 [(1,3),(3,3)])
def ck2:Sys:=aO (rB 0 [(3,3)])
def ck3:Sys:=aO (rB 1 [(1,3),(3,2),(3,3)])
def ckW:List Lk:=[⟨0,-1⟩,⟨1,0⟩,⟨2,1⟩]
structure CkB (p:Pb):Prop where
 few:buildE p=0
 ready:readyE (aO p)=0
 size:eS (aO p)<=256
 moves:movesN p.a.states<1099511627776
theorem ck1_b:CkB (rB 1 [(1,3),(3,3)]):=⟨by decide +kernel,by decide +kernel,by decide +kernel,by decide +kernel⟩
theorem ck2_b:CkB (rB 0 [(3,3)]):=⟨by decide +kernel,by decide +kernel,by decide +kernel,by decide +kernel⟩
theorem ck3_b:CkB (rB 1 [(1,3),(3,2),(3,3)]):=⟨by decide +kernel,by decide +kernel,by decide +kernel,by decide +kernel⟩
theorem ck1_vals:valuesR ck1 3=([0,1],0):=by decide +kernel
theorem ck1_choice:choiceR ck1=([0,0,0,0,1,1],0):=by decide +kernel
theorem ck1_rule:(ruleR ck1).2=(true,0):=by decide +kernel
theorem ck2_find:findW ck2=(ckW,true,0):=by decide +kernel
theorem ck2_cert:certE ck2 ⟨1,ckW,0,0,0⟩=0:=by decide +kernel
theorem ck2_short:shortR ck2 ⟨1,ckW,0,0,0⟩=(ckW,0):=by decide +kernel
theorem ck2_not:certE ck2 ⟨1,ckW.take 2,0,0,0⟩=18:=by decide +kernel
theorem ck3_choice:choiceR ck3=(List.replicate 9 (-1),0):=by decide +kernel
end Go.Proofs.YtmeaoneaephjeaaGreatDoor
namespace Go.Proofs.YtmeaoneaephjeaaGreatDoor
open Go.RowKit Go
theorem Gb(n:Int) (w:World) :
  Calls Tryz.prog 226 #[.int .i64 n] w fun e w'=>e=.returned (.int .i64 (iW n))/\w=w':=by
 go_enter Tryz.func226,Tryz.ntmps226
 go_wp2
 all_goals go_ret;exact⟨aG (by unfold iW;first|rw[if_pos (by omega)]|rw[if_neg (by omega)]),rfl⟩
theorem Cr(n x:Int) (w:World) :
  Calls Tryz.prog 223 #[.int .i64 n,.int .i64 x] w fun e w'=>e=.returned (.int .i64 (ky n x))/\w=w':=by
 by_cases hn:n<1\/5<n
 ·have hp:iW n=1:=by unfold iW;rw[if_pos hn]
  have hc:=Gb n w;rw[hp]at hc;have H:=aa hp;clear hp
  go_enter Tryz.func223,Tryz.ntmps223
  go_wp2_with (go_at_call 226;refine hc.mono ?_;rintro e w' ⟨rfl,rfl⟩)
  go_ret;exact⟨aG (by unfold ky;rw[H.o];rfl),rfl⟩
 ·have hp:iW n=0:=by unfold iW;rw[if_neg hn]
  have hc:=Gb n w;rw[hp]at hc;have H:=aa hp;clear hp;have h1:1<=n:=by omega
  have h2:n<=5:=by omega
  clear hn
  go_enter Tryz.func223,Tryz.ntmps223
  go_wp2_with (go_at_call 226;refine hc.mono ?_;rintro e w' ⟨rfl,rfl⟩)
  all_goals
   go_ret
   refine⟨aG ?_,rfl⟩
   go_light
   unfold ky;rw[H.o]
   grind
theorem Nf(g:Gr) (k:Nat) (hk:k<5) (w:World):(Instr.index 137 (.agg #[.int .i64 g.h0,.int .i64 g.h1,.int .i64 g.h2,.int .i64 g.h3,.int .i64 g.h4]) (.int .i64 k)).run Tryz.prog w=.ok (.int .i64 (g.hear k)) w:=by
 have:k=0\/k=1\/k=2\/k=3\/k=4:=by omega
 rcases this with h|h|h|h|h<;>(subst h;with_reducible refine Eq.trans ?_ (Eq.refl _);kernel_rfl)
theorem Sz(n:Int) (w:World) (h1:1<=n) (h2:n<=5) :
  Calls Tryz.prog 225 #[.int .i64 n] w fun e w'=>e=.returned (.int .i64 (2 ^ n.toNat - 1))/\w=w':=by
 have:n=1\/n=2\/n=3\/n=4\/n=5:=by omega
 rcases this with rfl|rfl|rfl|rfl|rfl
 all_goals
  go_enter Tryz.func225,Tryz.ntmps225
  go_wp2
  go_ret
  exact⟨rfl,rfl⟩
theorem E'(g:Gr) (w:World) :
  Calls Tryz.prog 222 #[g.v] w fun e w'=>e=.returned (.int .i64 (gV g))/\Below w.heap.size w w':=by
 obtain⟨n,h0,h1,h2,h3,h4⟩:=g;by_cases hn:n<1\/5<n
 ·have H:am (gV ⟨n,h0,h1,h2,h3,h4⟩=2):=by unfold gV;rw[if_pos hn];rfl
  rcases hn with hn|hn
  ·go_enter Tryz.func222,Tryz.ntmps222
   go_wp2
   go_ret;exact⟨aG H.o.symm,by go_grown⟩
  ·have AD:¬ n<1:=by omega
   go_enter Tryz.func222,Tryz.ntmps222
   go_wp2
   go_ret;exact⟨aG H.o.symm,by go_grown⟩
 have jS:1<=n:=by omega
 have nV:n<=5:=by omega
 have HE:am (gV ⟨n,h0,h1,h2,h3,h4⟩=bg 5 fun p=>mU n (Gr.hear ⟨n,h0,h1,h2,h3,h4⟩ p) p):=by unfold gV;rw[if_neg hn];rfl
 clear hn
 go_enter Tryz.func222,Tryz.ntmps222
 go_wp2
 go_loop [15] (fun i=>∃ k:Nat,k<=5/\i=.int .i64 k/\∀ j,j<k->mU n (Gr.hear ⟨n,h0,h1,h2,h3,h4⟩ j) j=0) (fun i=>5 - (intOf i).toNat)
 ·exact⟨0,by omega,rfl,by simp⟩
 ·
  obtain⟨k,hk,rfl,aW⟩:=hrel;have H:=aa aW;clear aW;by_cases aB:k<5
  ·have hx:=Nf ⟨n,h0,h1,h2,h3,h4⟩ k aB;have hEx:∃ x,x=Gr.hear ⟨n,h0,h1,h2,h3,h4⟩ k:=⟨_,rfl⟩;obtain⟨x,lP⟩:=hEx;rw[<-lP]at hx;have HX:=aa lP;clear lP;have gP:=tY x k
   go_wp2_with (go_at_call 225;refine(Sz _ _ (by omega) (by omega)).mono ?_;rintro e w' ⟨rfl,rfl⟩)
   all_goals first
    | (go_ret
       refine⟨aG ?_,by go_grown⟩
       rw[HE.o]
       go_light
       refine bV k _ aB H.o ?_ (by decide)
       rw[<-HX.o]
       unfold mU
       grind)
    | (go_round
       ·
        refine⟨k+1,by omega,by go_num,aV H.o ?_⟩
        go_light
        rw[<-HX.o]
        unfold mU
        grind
       ·simp[intOf];omega)
  ·go_wp2
   go_ret;exact⟨aG (by rw[HE.o,cV];intro j hj;exact H.o j (by omega)),by go_grown⟩
theorem AT(a b:Int) (w:World) :
  Calls Tryz.prog 203 #[.int .i64 a,.int .i64 b] w fun e w'=>e=.returned (.int .i64 (cmpI a b))/\w=w':=by
 go_enter Tryz.func203,Tryz.ntmps203
 go_wp2
 all_goals
  go_ret
  refine⟨aG ?_,rfl⟩
  go_light
  unfold cmpI
  grind
theorem IW(d:Nat) (a0 a1 a2 a3 a4 b0 b1 b2 b3 b4:Int) (w:World):(Op.equalIn (d+2) 137 (.agg #[.int .i64 a0,.int .i64 a1,.int .i64 a2,.int .i64 a3,.int .i64 a4]) (.agg #[.int .i64 b0,.int .i64 b1,.int .i64 b2,.int .i64 b3,.int .i64 b4])).run Tryz.prog w=.ok (decide (a0=b0/\a1=b1/\a2=b2/\a3=b3/\a4=b4)) w:=by
 obtain⟨i,hi⟩:∃ i,Tryz.prog.info? 3=some i:=Option.isSome_iff_exists.1 (by kernel_rfl);have hc:Tryz.prog.cellsOf 3=1:=by kernel_rfl
 rw[run_equalIn_array w (d+1) _ _ Tryz.underlying137 hi,hc];have ag:=Tryz.isAgg3;have u3:=Tryz.underlying3;have hr:List.range 5=[0,1,2,3,4]:=rfl;rw[hr];simp only[Op.eqItems,Sem.run_bind,part,ag,Result.andThen_ok];simp[run_equalIn_int w d 3 _ .i64 _ _ u3];by_cases h0:a0=b0
 case neg=>simp[h0]
 by_cases h1:a1=b1
 case neg=>simp[h0,h1]
 by_cases h2:a2=b2
 case neg=>simp[h0,h1,h2]
 by_cases h3:a3=b3
 case neg=>simp[h0,h1,h2,h3]
 by_cases h4:a4=b4<;>simp[h0,h1,h2,h3,h4]
theorem Fa(d:Nat) (a b:Gr) (w:World):(Op.equalIn (d+3) 139 a.v b.v).run Tryz.prog w=.ok (decide (a=b)) w:=by
 have hS:Tryz.prog.underlying 139=some (.struct (Tryz.prog.fieldsOf 139)):=by kernel_rfl
 have hp:Tryz.prog.stoodInHeld 139=false:=by kernel_rfl
 rw[run_equalIn_struct w (d+2) 139 _ _ hS hp];have ag:=Tryz.isAgg3;have ah:=Tryz.isAgg137;have zh:=Tryz.sizeOf137;have u3:=Tryz.underlying3;simp only[Program.fieldsOf,Tryz.underlying139];simp[Op.eqFields,part,ag,ah,zh,run_equalIn_int w (d+1) 3 _ .i64 _ _ u3,IW d];obtain⟨n,h0,h1,h2,h3,h4⟩:=a;obtain⟨m,g0,g1,g2,g3,g4⟩:=b;by_cases hn:n=m
 case neg=>simp[hn]
 by_cases hh:h0=g0/\h1=g1/\h2=g2/\h3=g3/\h4=g4<;>simp[hn,hh]
theorem Fb(d:Nat) (a b:Rd) (w:World):(Op.equalIn (d+4) 141 a.v b.v).run Tryz.prog w=.ok (decide (a=b)) w:=by
 have hS:Tryz.prog.underlying 141=some (.struct (Tryz.prog.fieldsOf 141)):=by kernel_rfl
 have hp:Tryz.prog.stoodInHeld 141=false:=by kernel_rfl
 rw[run_equalIn_struct w (d+3) 141 _ _ hS hp];have ag:=Tryz.isAgg3;have ah:=Tryz.isAgg139;have zh:=Tryz.sizeOf139;have u3:=Tryz.underlying3;have hg:=Fa d a.g b.g w;simp only[Program.fieldsOf,Tryz.underlying141];simp[Op.eqFields,part,ag,ah,zh,run_equalIn_int w (d+2) 3 _ .i64 _ _ u3,hg];obtain⟨ga,fa⟩:=a;obtain⟨gb,fb⟩:=b;by_cases hn:ga=gb
 case neg=>simp[hn]
 by_cases hh:fa=fb<;>simp[hn,hh]
theorem PH(a b:Gr) (w:World):(binOp .eql 139 a.v b.v).run Tryz.prog w=.ok (.bool (decide (a=b))) w:=by
 rw[run_eql_struct,Fa 9997];rfl
theorem PI(a b:Gr) (w:World):(binOp .neq 139 a.v b.v).run Tryz.prog w=.ok (.bool (!decide (a=b))) w:=by
 rw[run_neq_struct,Fa 9997];rfl
theorem PJ(a b:Rd) (w:World):(binOp .eql 141 a.v b.v).run Tryz.prog w=.ok (.bool (decide (a=b))) w:=by
 rw[run_eql_struct,Fb 9996];rfl
theorem qR(a:Int):cmpI a a=0:=by unfold cmpI;grind
theorem lJ{a b:Int} (h:cmpI a b=0):a=b:=by unfold cmpI at h;grind
theorem vJ(a:Gr):fD a a=0:=by
 unfold fD;rw[qR];simp;exact cV _ _ (fun j _=>qR _)
theorem nL(g:Gr) (k:Nat) (hk:k<5) (w:World) (B:Nat) (hw:w.heap[B]?=some (.cells #[.int .i64 g.n,.int .i64 g.h0,.int .i64 g.h1,.int .i64 g.h2,.int .i64 g.h3,.int .i64 g.h4] 139)) :
  w.cell? ⟨B,1+k,none⟩=some (.int .i64 (g.hear k)):=by
 have:k=0\/k=1\/k=2\/k=3\/k=4:=by omega
 rcases this with h|h|h|h|h<;>subst h<;>simp[World.cell?,hw,Gr.hear]
theorem Cu(a b:Gr) (w:World) :
  Calls Tryz.prog 224 #[a.v,b.v] w fun e w'=>e=.returned (.int .i64 (fD a b))/\Below w.heap.size w w':=by
 by_cases BJ:a=b
 ·subst BJ;have kh:∀ w,(binOp .eql 139 a.v a.v).run Tryz.prog w=.ok (.bool true) w:=fun w=>by rw[PH];simp
  have H:=aa (vJ a);obtain⟨n,h0,h1,h2,h3,h4⟩:=a
  go_enter Tryz.func224,Tryz.ntmps224
  go_wp2
  go_ret;exact⟨aG H.o.symm,by go_grown⟩
 have kh:∀ w,(binOp .eql 139 a.v b.v).run Tryz.prog w=.ok (.bool false) w:=fun w=>by rw[PH];simp[BJ]
 clear BJ;by_cases hn:a.n=b.n
 ·have iz:(a.n != b.n)=false:=by simp[hn]
  have HC:am (fD a b=bg 5 fun p=>cmpI (a.hear p) (b.hear p)):=by(have h:fD a b=bg 5 fun p=>cmpI (a.hear p) (b.hear p):=by(unfold fD;rw[hn,qR];simp));exact h
  clear hn
  go_enter Tryz.func224,Tryz.ntmps224
  go_wp2
  refine bu (fun W=>Below w.heap.size w W/\W.heap[w.heap.size]?=some (.cells #[.int .i64 a.n,.int .i64 a.h0,.int .i64 a.h1,.int .i64 a.h2,.int .i64 a.h3,.int .i64 a.h4] 139)/\W.heap[w.heap.size+1]?=some (.cells #[.int .i64 b.n,.int .i64 b.h0,.int .i64 b.h1,.int .i64 b.h2,.int .i64 b.h3,.int .i64 b.h4] 139))
   ⟨by go_grown,ar _ (aq _ _),by have:=aq (w.alloc (.cells #[.int .i64 a.n,.int .i64 a.h0,.int .i64 a.h1,.int .i64 a.h2,.int .i64 a.h3,.int .i64 a.h4] 139));rw[World.size_alloc]at this;exact this _⟩ (fun W0 aZ=>?_)
  obtain⟨aI,hA,hB⟩:=aZ;have HA:=aa hA;clear hA;have HB:=aa hB;clear hB
  go_loopw [20] (fun i wr=>Below W0.heap.size W0 wr/\∃ k:Nat,k<=5/\i=.int .i64 k/\∀ j,j<k->cmpI (a.hear j) (b.hear j)=0) (fun i _=>5 - (intOf i).toNat)
  ·exact⟨Below.refl _ _,0,by omega,rfl,by simp⟩
  ·
   obtain⟨az,k,hk,rfl,aW⟩:=hrel;have H:=aa aW;clear aW;by_cases aB:k<5
   ·have c1:∀ x:ExtW wr,x.val.cell? ⟨w.heap.size,1+k,none⟩=some (.int .i64 (a.hear k)):=fun x=>x.cell (nL a k aB wr _ (af az HA.o))
    have c2:∀ x:ExtW wr,x.val.cell? ⟨w.heap.size+1,1+k,none⟩=some (.int .i64 (b.hear k)):=fun x=>x.cell (nL b k aB wr _ (af az HB.o))
    go_wp2
    refine aD (by kernel_rfl) (by kernel_rfl) ?_
    repeat (quiet_step ((go_at_call 203;exact Calls.ext_of ((AT _ _ _).mono fun _ _ ⟨h1,h2⟩=>⟨h1,h2 ▸ Below.refl _ _⟩))))
    refine wpQuiet_nil ?_;intro _ eJ;obtain⟨xq,dq⟩:=eJ;subst dq
    go_wp2
    ·have ht:(cmpI (a.hear k) (b.hear k) != 0)=true:=by assumption
     go_ret
     exact⟨aG (by rw[HC.o];exact bV k _ aB H.o rfl (by simpa using ht)),ae aI (ae az xq.ext)⟩
    ·have ht:(cmpI (a.hear k) (b.hear k) != 0)=false:=by assumption
     go_roundw
     ·exact⟨ae az xq.ext,k+1,by omega,by go_num,aV H.o (by simpa using ht)⟩
     ·simp[intOf];omega
   ·go_wp2
    go_ret;exact⟨aG (by rw[HC.o,cV];intro j hj;exact H.o j (by omega)),ae aI az⟩
 ·have iz:(a.n != b.n)=true:=by simp[hn]
  have HC:am (fD a b=cmpI a.n b.n):=by unfold fD;rw[if_pos];exact rfl;intro h;exact hn (lJ h)
  clear hn
  go_enter Tryz.func224,Tryz.ntmps224
  go_wp2_with (go_at_call 203;refine(AT _ _ _).mono ?_;rintro e w' ⟨rfl,rfl⟩)
  go_ret;exact⟨aG HC.o.symm,by go_grown⟩
theorem Fc(r:Rd) (w:World) :
  Calls Tryz.prog 219 #[r.v] w fun e w'=>e=.returned (.int .i64 (roundE r))/\Below w.heap.size w w':=by
 obtain⟨⟨n,h0,h1,h2,h3,h4⟩,f⟩:=r
 go_enter Tryz.func219,Tryz.ntmps219
 go_wp2_with (first
  | (go_at_call 222;refine(E' ⟨_,_,_,_,_,_⟩ _).mono ?_;rintro e w1 ⟨rfl,hb⟩;obtain⟨hc,hf⟩:=MW hb)
  | (go_at_call 223;refine(Cr _ _ _).mono ?_;rintro e w2 ⟨rfl,rfl⟩))
 all_goals
  go_ret
  refine⟨aG ?_,?_⟩
  ·go_light
   unfold roundE
   grind
  ·exact ae (by go_grown) hb
theorem La(a:Rd):roundC a a=0:=by
 unfold roundC;rw[vJ,qR];simp
theorem SA{a b:Gr} (hn:a.n=b.n) (h:∀ j,j<5->cmpI (a.hear j) (b.hear j)=0):a=b:=by
 obtain⟨n,h0,h1,h2,h3,h4⟩:=a;obtain⟨m,g0,g1,g2,g3,g4⟩:=b;have e0:=lJ (h 0 (by omega));have e1:=lJ (h 1 (by omega));have e2:=lJ (h 2 (by omega));have e3:=lJ (h 3 (by omega));have e4:=lJ (h 4 (by omega));simp[Gr.hear]at e0 e1 e2 e3 e4 hn;simp[e0,e1,e2,e3,e4,hn]
theorem Lb{a b:Gr} (h:fD a b=0):a=b:=by
 unfold fD at h;by_cases hc:cmpI a.n b.n=0
 ·rw[if_neg (by simpa using hc)]at h;exact SA (lJ hc) (fN h)
 ·rw[if_pos hc]at h;exact absurd h hc
theorem Cv(a b:Rd) (w:World) :
  Calls Tryz.prog 220 #[a.v,b.v] w fun e w'=>e=.returned (.int .i64 (roundC a b))/\Below w.heap.size w w':=by
 by_cases BJ:a=b
 ·subst BJ;have kh:∀ w,(binOp .eql 141 a.v a.v).run Tryz.prog w=.ok (.bool true) w:=fun w=>by rw[PJ];simp
  have H:=aa (La a)
  go_enter Tryz.func220,Tryz.ntmps220
  go_wp2
  go_ret;exact⟨aG H.o.symm,by go_grown⟩
 have kh:∀ w,(binOp .eql 141 a.v b.v).run Tryz.prog w=.ok (.bool false) w:=fun w=>by rw[PJ];simp[BJ]
 by_cases hg:a.g=b.g
 ·have bM:∀ w,(binOp .neq 139 a.g.v b.g.v).run Tryz.prog w=.ok (.bool false) w:=fun w=>by rw[PI];simp[hg]
  have HC:am (roundC a b=cmpI a.f b.f):=by(have h:roundC a b=cmpI a.f b.f:=by(unfold roundC;rw[hg,vJ];simp));exact h
  clear hg BJ
  go_enter Tryz.func220,Tryz.ntmps220
  go_wp2_with (go_at_call 203;refine(AT _ _ _).mono ?_;rintro e w' ⟨rfl,rfl⟩)
  go_ret;exact⟨aG HC.o.symm,by go_grown⟩
 ·have bM:∀ w,(binOp .neq 139 a.g.v b.g.v).run Tryz.prog w=.ok (.bool true) w:=fun w=>by rw[PI];simp[hg]
  have HC:am (roundC a b=fD a.g b.g):=by(have h:roundC a b=fD a.g b.g:=by(unfold roundC;rw[if_pos (fun h=>hg (Lb h))]));exact h
  clear hg BJ
  go_enter Tryz.func220,Tryz.ntmps220
  go_wp2_with (go_at_call 224;refine(Cu a.g b.g _).mono ?_;rintro e w1 ⟨rfl,hb⟩)
  go_ret;exact⟨aG HC.o.symm,ae (by go_grown) hb⟩
theorem ij(va vb:Value) (a b:List Int) (w:World) (ha:aT w va a) (hb:aT w vb b) :
  Calls Tryz.prog 15 #[va,vb] w fun e w'=>e=.returned (.bool (eqV a b))/\Below w.heap.size w w':=by
 obtain⟨pa,ca,rfl,la1,la2,ea⟩:=ha.at;obtain⟨pb,cb,rfl,lb1,lb2,eb⟩:=hb.at;clear ha hb;have EA:=aa ea;clear ea;have EB:=aa eb;clear eb;by_cases hl:a.length=b.length
 ·have iD:((a.length:Int) != (b.length:Int))=false:=by simp[hl]
  have HL:=aa hl;clear hl
  go_enter Tryz.func15,Tryz.ntmps15
  go_wp2
  go_loopw [13] (fun i wr=>Below w.heap.size w wr/\∃ k:Nat,k<=a.length/\i=.int .i64 k/\∀ j,j<k->a.getD j 0=b.getD j 0) (fun i _=>a.length - (intOf i).toNat)
  ·exact⟨Below.refl _ _,0,by omega,rfl,by simp⟩
  ·
   obtain⟨az,k,hk,rfl,aW⟩:=hrel;have H:=aa aW;clear aW;by_cases aB:k<a.length
   ·obtain⟨b1,o1,rfl,h1⟩:=EA.o k aB;have je:k<b.length:=by have:=HL.o;omega
    obtain⟨b2,o2,rfl,h2⟩:=EB.o k je;obtain⟨x,hx⟩:∃ x,x=a[k]:=⟨_,rfl⟩;obtain⟨y,hy⟩:∃ y,y=b[k]:=⟨_,rfl⟩;rw[<-hx,Nat.mul_one]at h1;rw[<-hy,Nat.mul_one]at h2;have c1:∀ n,(wr.drewN n).cell? ⟨b1,o1+k,none⟩=some (.int .i64 x):=fun n=>ak az h1.1
    have c2:∀ n,(wr.drewN n).cell? ⟨b2,o2+k,none⟩=some (.int .i64 y):=fun n=>ak az h2.1
    have HX:=aa hx;clear hx;have HY:=aa hy;clear hy
    go_wp2
    go_quiet (fail)
    go_wp2
    ·have ht:(x != y)=true:=by assumption
     go_ret
     refine⟨aR ?_,eL az _⟩
     go_light
     unfold eqV;simp at ht ⊢;intro h;subst h;exact ht (HX.o.trans HY.o.symm)
    ·have ht:(x != y)=false:=by assumption
     go_roundw
     ·
      refine⟨eL az _,k+1,by omega,by go_num,aV H.o ?_⟩;rw[aA 0 aB,aA 0 je,<-HX.o,<-HY.o];simpa using ht
     ·simp[intOf];omega
   ·go_wp2
    go_ret
    refine⟨aR ?_,az⟩;unfold eqV;simp;refine List.ext_getElem HL.o fun i h1 h2=>?_
    have:=H.o i (by omega)
    rwa [aA 0 h1,aA 0 h2]at this
 ·have iD:((a.length:Int) != (b.length:Int))=true:=by simp;omega
  go_enter Tryz.func15,Tryz.ntmps15
  go_wp2
  go_ret
  exact⟨aR (by unfold eqV;simp;intro h;exact hl (by rw[h])),Below.refl _ _⟩
theorem Gc{a b:List Int} {k:Nat} (h1:k<a.length) (h2:k<b.length) (hO:ordV a b=ordV (a.drop k) (b.drop k)):ordV a b=if cmpI a[k] b[k]=0 then ordV (a.drop (k+1)) (b.drop (k+1)) else cmpI a[k] b[k]:=by
 rw[hO,tI h1,tI h2,ordV];unfold cmpI
 grind
theorem rC(va vb:Value) (a b:List Int) (w:World) (ha:aT w va a) (hb:aT w vb b) :
  Calls Tryz.prog 170 #[va,vb] w fun e w'=>e=.returned (.int .i64 (ordV a b))/\Below w.heap.size w w':=by
 obtain⟨pa,ca,rfl,la1,la2,ea⟩:=ha.at;obtain⟨pb,cb,rfl,lb1,lb2,eb⟩:=hb.at;clear ha hb;have EA:=aa ea;clear ea;have EB:=aa eb;clear eb
 go_enter Tryz.func170,Tryz.ntmps170
 go_wp2
 go_loop [11] (fun i=>∃ k:Nat,k<=a.length/\i=.int .i64 k/\ordV a b=ordV (a.drop k) (b.drop k)) (fun i=>a.length - (intOf i).toNat)
 ·exact⟨0,by omega,rfl,by simp⟩
 ·
  obtain⟨k,hk,rfl,aW⟩:=hrel;have H:=aa aW;clear aW;by_cases aB:k<a.length
  ·obtain⟨b1,o1,rfl,h1⟩:=EA.o k aB;obtain⟨x,hx⟩:∃ x,x=a[k]:=⟨_,rfl⟩;rw[<-hx,Nat.mul_one]at h1;have c1:=h1.1;have HX:=aa hx;clear hx h1;by_cases je:k<b.length
   ·obtain⟨b2,o2,rfl,h2⟩:=EB.o k je;obtain⟨y,hy⟩:∃ y,y=b[k]:=⟨_,rfl⟩;rw[<-hy,Nat.mul_one]at h2;have c2:=h2.1;have HY:=aa hy;clear hy h2;have HS:=Gc aB je H.o;rw[<-HX.o,<-HY.o]at HS;have Mc:=aa HS;clear HS
    go_wp2_with (go_at_call 203;refine(AT _ _ _).mono ?_;rintro e w' ⟨rfl,rfl⟩)
    ·have ht:(cmpI x y != 0)=true:=by assumption
     go_ret
     exact⟨aG (by rw[Mc.o,if_neg (by simpa using ht)]),Below.refl _ _⟩
    ·have ht:(cmpI x y != 0)=false:=by assumption
     go_round
     ·exact⟨k+1,by omega,by go_num,by rw[Mc.o,if_pos (by simpa using ht)]⟩
     ·simp[intOf];omega
   ·go_wp2
    go_ret
    refine⟨aG ?_,Below.refl _ _⟩;rw[H.o,tI aB,List.drop_of_length_le (l:=b) (by omega)];rfl
  ·have HR:am (ordV a b=if a.length<b.length then -1 else 0):=by
    have h:ordV a b=if a.length<b.length then -1 else 0:=by
     rw[H.o,List.drop_of_length_le (by omega),yg,List.length_drop]
     grind
    exact h
   go_wp2
   all_goals
    go_ret
    refine⟨aG ?_,Below.refl _ _⟩;rw[HR.o]
    go_light
    grind
theorem A5(g:Nat) (lb:Array Value) (eg:∀ args w,(callFunc g args).run Tryz.prog w=.ok (.enter g args) w) (v:Value) (l:List Int) (p:Nat->Bool) (w:World) (hv:aT w v l)
  (hp:∀ i (hi:i<l.length)  W,Below w.heap.size w W->Calls Tryz.prog g (#[.int .i64 l[i]]++lb) W fun e W'=>e=.returned (.bool (p i))/\Below W.heap.size W W') :
  Calls Tryz.prog 152 #[v,.func (.func g) #[] lb] w fun e w'=>e=.returned (.int .i64 (firstIx l.length p))/\Below w.heap.size w w':=by
 obtain⟨pa,ca,rfl,la1,la2,ea⟩:=hv.at;clear hv;have EA:=aa ea;clear ea;have HP:=aa hp;clear hp
 go_enter Tryz.func152,Tryz.ntmps152
 go_wp2
 go_loopw [8] (fun i wr=>Below w.heap.size w wr/\∃ k:Nat,k<=l.length/\i=.int .i64 k/\∀ j,j<k->p j=false) (fun i _=>l.length - (intOf i).toNat)
 ·exact⟨Below.refl _ _,0,by omega,rfl,by simp⟩
 ·
  obtain⟨az,k,hk,rfl,aW⟩:=hrel;have H:=aa aW;clear aW;by_cases aB:k<l.length
  ·obtain⟨b1,o1,rfl,h1⟩:=EA.o k aB;rw[Nat.mul_one]at h1;have c1:=ak az h1.1;have fp:=HP.o k aB wr az;clear h1;generalize l[k]=x at c1 fp;cases pZ:p k with
   | true=>
    rw[pZ]at fp;have bW:=aa fp;clear fp;have Ei:=aa pZ;clear pZ
    go_wp2_with fail
    refine bW.o.mono ?_;rintro e w1 ⟨rfl,aJ⟩
    go_wp2_with fail
    go_ret
    exact⟨aG (dk _ _ _ aB H.o Ei.o).symm,ae az aJ⟩
   | false=>
    rw[pZ]at fp;have bW:=aa fp;clear fp;have Ei:=aa pZ;clear pZ
    go_wp2_with fail
    refine bW.o.mono ?_;rintro e w1 ⟨rfl,aJ⟩
    go_wp2_with fail
    go_roundw
    ·exact⟨ae az aJ,k+1,by omega,by go_num,aV H.o Ei.o⟩
    ·simp[intOf];omega
  ·go_wp2
   go_ret
   exact⟨aG (by rw[dM];intro j hj;exact H.o j (by omega)),az⟩
theorem A6(g:Nat) (lb:Array Value) (eg:∀ args w,(callFunc g args).run Tryz.prog w=.ok (.enter g args) w) (v:Value) (l:List (List Int)) (p:Nat->Bool) (w:World) (hv:eD w v l)
  (hp:∀ i (hi:i<l.length) (x:Value) (_:aT w x l[i]) W,Below w.heap.size w W->Calls Tryz.prog g (#[x]++lb) W fun e W'=>e=.returned (.bool (p i))/\Below W.heap.size W W') :
  Calls Tryz.prog 153 #[v,.func (.func g) #[] lb] w fun e w'=>e=.returned (.int .i64 (firstIx l.length p))/\Below w.heap.size w w':=by
 obtain⟨pa,ca,rfl,la1,la2,ea⟩:=hv.at;clear hv;have EA:=aa ea;clear ea;have HP:=aa hp;clear hp
 go_enter Tryz.func153,Tryz.ntmps153
 go_wp2
 go_loopw [8] (fun i wr=>Below w.heap.size w wr/\∃ k:Nat,k<=l.length/\i=.int .i64 k/\∀ j,j<k->p j=false) (fun i _=>l.length - (intOf i).toNat)
 ·exact⟨Below.refl _ _,0,by omega,rfl,by simp⟩
 ·
  obtain⟨az,k,hk,rfl,aW⟩:=hrel;have H:=aa aW;clear aW;by_cases aB:k<l.length
  ·obtain⟨b1,o1,rfl,h1⟩:=EA.o k aB;rw[Nat.mul_one]at h1;obtain⟨x,kZ,hx⟩:=h1;have c1:=ak az kZ;have fp:=HP.o k aB x hx wr az;clear kZ hx;cases pZ:p k with
   | true=>
    rw[pZ]at fp;have bW:=aa fp;clear fp;have Ei:=aa pZ;clear pZ
    go_wp2_with fail
    refine bW.o.mono ?_;rintro e w1 ⟨rfl,aJ⟩
    go_wp2_with fail
    go_ret
    exact⟨aG (dk _ _ _ aB H.o Ei.o).symm,ae az aJ⟩
   | false=>
    rw[pZ]at fp;have bW:=aa fp;clear fp;have Ei:=aa pZ;clear pZ
    go_wp2_with fail
    refine bW.o.mono ?_;rintro e w1 ⟨rfl,aJ⟩
    go_wp2_with fail
    go_roundw
    ·exact⟨ae az aJ,k+1,by omega,by go_num,aV H.o Ei.o⟩
    ·simp[intOf];omega
  ·go_wp2
   go_ret
   exact⟨aG (by rw[dM];intro j hj;exact H.o j (by omega)),az⟩
theorem kI(g:Nat) (lb:Array Value) (eg:∀ args w,(callFunc g args).run Tryz.prog w=.ok (.enter g args) w) (v:Value) (l:List Int) (p:Nat->Bool) (w:World) (hv:aT w v l)
  (hp:∀ i (hi:i<l.length)  W,Below w.heap.size w W->Calls Tryz.prog g (#[.int .i64 l[i]]++lb) W fun e W'=>e=.returned (.bool (p i))/\Below W.heap.size W W') :
  Calls Tryz.prog 106 #[v,.func (.func g) #[] lb] w fun e w'=>e=.returned (.bool (anyLt l.length p))/\Below w.heap.size w w':=by
 have hc:=A5 g lb eg v l p w hv hp;have HA:=aa (qG l.length p);generalize firstIx l.length p=r at hc HA;have HC:=aa hc;clear hc hp
 go_enter Tryz.func106,Tryz.ntmps106
 go_wp2_with fail
 refine HC.o.mono ?_;rintro e w1 ⟨rfl,aJ⟩
 go_wp2_with fail
 go_ret
 exact⟨aR HA.o,aJ⟩
theorem xD(g:Nat) (lb:Array Value) (eg:∀ args w,(callFunc g args).run Tryz.prog w=.ok (.enter g args) w) (v:Value) (l:List (List Int)) (p:Nat->Bool) (w:World) (hv:eD w v l)
  (hp:∀ i (hi:i<l.length) (x:Value) (_:aT w x l[i]) W,Below w.heap.size w W->Calls Tryz.prog g (#[x]++lb) W fun e W'=>e=.returned (.bool (p i))/\Below W.heap.size W W') :
  Calls Tryz.prog 108 #[v,.func (.func g) #[] lb] w fun e w'=>e=.returned (.bool (anyLt l.length p))/\Below w.heap.size w w':=by
 have hc:=A6 g lb eg v l p w hv hp;have HA:=aa (qG l.length p);generalize firstIx l.length p=r at hc HA;have HC:=aa hc;clear hc hp
 go_enter Tryz.func108,Tryz.ntmps108
 go_wp2_with fail
 refine HC.o.mono ?_;rintro e w1 ⟨rfl,aJ⟩
 go_wp2_with fail
 go_ret
 exact⟨aR HA.o,aJ⟩
end Go.Proofs.YtmeaoneaephjeaaGreatDoor
namespace Go.Proofs.YtmeaoneaephjeaaGreatDoor
open Go.RowKit Go Go.Shelf
def UI(w:World) (v:Value) (xs:List Value):Prop:=
 ∃ a cap,v=.slice a xs.length cap/\(a=none->xs.length=0/\cap=0)/\(∀ i x,xs[i]?=some x->∃ b off,a=some ⟨b,off,none⟩/\w.cell? ⟨b,off+i,none⟩=some x)/\∀ x∈xs,x.oneCell'=true
theorem Tryz.infoInt:(Tryz.prog.info? 3).map (fun i=>(i.zero,i.size,i.bytes))=some (some (.int .i64 0),1,8):=by kernel_rfl
theorem Tryz.infoInts:(Tryz.prog.info? 38).map (fun i=>(i.zero,i.size,i.bytes))=some (some (.slice none 0 0),1,24):=by kernel_rfl
theorem zy(v:Value) (xs:List Value) (w:World) (hv:UI w v xs) (hn:xs.length<=1099511627776) :
  Calls Tryz.prog 195 #[v] w fun e w'=>∃ u,e=.returned u/\w'.ownsRow w.heap.size 3 1 u xs.length xs/\Below w.heap.size w w':=by
 obtain⟨a,cap,rfl,ha,hc,h1⟩:=hv;obtain⟨i0,hi,bX,bP,bY⟩:=info_parts Tryz.infoInt;cases a with
 | none=>
  obtain⟨hl,rfl⟩:=ha rfl;obtain rfl:xs=[]:=List.eq_nil_of_length_eq_zero hl;have kh:=fun w=>Lib.run_eql_slice_nil (P:=Tryz.prog) w 38
  go_enter Tryz.func195,Tryz.ntmps195
  go_wp2_with fail
  go_ret
  exact⟨_,rfl,World.ownsRow_nil _ _ _ _,Below.refl _ _⟩
 | some ad=>
  have kh:=fun w=>Lib.run_eql_slice_nil (P:=Tryz.prog) w 38
  have bU:∀ j u,xs[j]?=some u->(w.alloc (.cells #[] 3)).cell? (ad.add j)=some u:=fun j u hj=>by
   obtain⟨b,off,e,eQ⟩:=hc j u hj;cases e;have:(Addr.add ⟨b,off,none⟩ j)=⟨b,off+j,none⟩:=by unfold Addr.add;split<;>simp_all
   rw[this];exact ak (by go_grown) eQ
  have aS:(w.alloc (.cells #[] 3)).ownsRow w.heap.size 3 1 (.slice (some ⟨w.heap.size,0,none⟩) 0 0) 0 []:=⟨by simp,.inr ⟨w.heap.size,0,#[],rfl,Nat.le_refl _,aq _ _,by omega,by simp[maxLen],by simp,by simp⟩⟩;have bA:=aa bU;have bG:=aa aS;have H1:=aa h1;clear bU aS h1 hc ha
  go_enter Tryz.func195,Tryz.ntmps195
  go_wp2_with (at_builtin;refine wpList_append_own _ rfl (.tmp 5) (.tmp 6) 38 rfl w.heap.size 3 i0 (.int .i64 0) 1 8 Tryz.underlying38 hi bX bP bY rfl (by decide) _ 0 [] rfl bG.o ad xs.length cap xs rfl (by simp) bA.o H1.o (by unfold maxLen;omega) (by omega) (by simp) ?_;intro v' w1 gU lY _)
  go_ret
  refine⟨_,rfl,by simpa using gU,Below.grown (w:=w.alloc (.cells #[] 3)) (by go_grown) lY (by simp) (fun k hk=>?_)⟩;cases hk;exact Nat.le_refl _
theorem Hx{w:World} {v:Value} {α:Type} {k:Nat} {R:World->Nat->Nat->α->Prop} {l:List α} (h:fm k R w v l):v.oneCell'=true:=by
 obtain⟨a,cap,rfl,_⟩:=h;rfl
theorem Bl{w:World} {v:Value} {l:List Int} (h:aT w v l):UI w v (l.map (Value.int .i64)):=by
 obtain⟨a,cap,rfl,h1,h2,h3⟩:=h;refine⟨a,cap,by simp,fun e=>?_,fun i x hx=>?_,fun x hx=>?_⟩
 ·have:=h1.2.2 e;exact⟨by rw[List.length_map];omega,this⟩
 ·simp only[List.getElem?_map,Option.map_eq_some_iff]at hx;obtain⟨y,hy,rfl⟩:=hx;obtain⟨b,off,ha,hr⟩:=h3 i y hy;exact⟨b,off,ha,by have:=hr.1;rwa [Nat.mul_one]at this⟩
 ·obtain⟨y,_,rfl⟩:=List.mem_map.1 hx;rfl
theorem ui{w:World} {base:Nat} {e:TypeId} {v:Value} {n:Nat} {xs:List Value} (h:w.ownsRow base e 1 v n xs):∃ a cap,v=.slice a n cap/\n<=cap/\cap<=9223372036854775807/\(a=none->cap=0)/\xs.length=n/\∀ i x,xs[i]?=some x->∃ b,a=some ⟨b,0,none⟩/\w.cell? ⟨b,i,none⟩=some x:=by
 obtain⟨hl,h⟩:=h;rw[Nat.mul_one]at hl;rcases h with ⟨rfl,rfl⟩|⟨g,cap,cur,rfl,hg,hb,hn,hm,hs,ht⟩
 ·exact⟨none,0,rfl,by omega,by omega,fun _=>rfl,hl,fun i x hx=>by have:=(List.getElem?_eq_some_iff.1 hx).1;omega⟩
 ·refine⟨_,cap,rfl,hn,by simpa[maxLen] using hm,(fun e=>(by cases e)),hl,fun i x hx=>⟨g,rfl,?_⟩⟩;rw[ab hb,<-hx,<-ht,Nat.mul_one];have hi:=(List.getElem?_eq_some_iff.1 hx).1;rw[List.getElem?_take_of_lt (by omega)];simp
theorem IX{w:World} {v:Value} {l:List Int} (h:aT w v l):∀ x∈l,bN x:=fun x hx=>by
 obtain⟨a,cap,rfl,_,_,h3⟩:=h;obtain⟨i,hi,rfl⟩:=List.getElem_of_mem hx;obtain⟨b,off,_,hr⟩:=h3 i _ (List.getElem?_eq_getElem hi);exact hr.2
theorem Lc(x most:Int) (B:Nat) (W:World) (hc:W.cell? ⟨B,0,none⟩=some (.int .i64 most)) :
  Calls Tryz.prog 202 #[.int .i64 x,.pointer (some ⟨B,0,none⟩)] W fun e W'=>e=.returned (.bool (decide (x<0) || decide (most<=x)))/\Below W.heap.size W W':=by
 by_cases hx:x<0
 ·go_enter Tryz.func202,Tryz.ntmps202
  go_wp2
  go_ret
  exact⟨aR (by simp[hx]),Below.refl _ _⟩
 ·go_enter Tryz.func202,Tryz.ntmps202
  go_wp2
  go_ret
  exact⟨aR (by simp;omega),Below.refl _ _⟩
theorem Dj(v:Value) (l:List Int) (n most:Int) (w:World) (hv:aT w v l) :
  Calls Tryz.prog 169 #[v,.int .i64 n,.int .i64 most] w fun e w'=>e=.returned (.int .i64 (vectorE l n most))/\Below w.heap.size w w':=by
 have aI:Below w.heap.size w (w.alloc (.cells #[.int .i64 most] 3)):=by go_grown
 have FV:=kI 202 #[.pointer (some ⟨w.heap.size,0,none⟩)] (enters_of Tryz.func202 (by kernel_rfl) rfl) v l (fun i=>decide (l.getD i 0<0) || decide (most<=l.getD i 0))
  (w.alloc (.cells #[.int .i64 most] 3)) (hv.up up_int aI) (fun i hi W hW=>by
   rw[aA 0 hi]
   exact Lc _ _ _ _ (ak hW (by simp[ab (aq _ _)])))
 have HV:am (vectorE l n most=if (l.length:Int)≠n then 15 else if anyLt l.length (fun i=>decide (l.getD i 0<0) || decide (most<=l.getD i 0)) then 2 else 0):=by exact rfl
 generalize anyLt l.length (fun i=>decide (l.getD i 0<0) || decide (most<=l.getD i 0))=r at FV HV;have HC:=aa FV;clear FV;obtain⟨pa,ca,rfl,la1,la2,_⟩:=hv.at;clear hv;by_cases hl:(l.length:Int)=n
 ·have iD:((l.length:Int) != n)=false:=by simp[hl]
  have HL:=aa hl;clear hl;cases r with
  | true=>
   go_enter Tryz.func169,Tryz.ntmps169
   go_wp2_with fail
   refine HC.o.mono ?_;rintro e w1 ⟨rfl,aJ⟩
   go_wp2_with fail
   go_ret
   exact⟨aG (by rw[HV.o,if_neg (by simpa using HL.o)];rfl),ae aI aJ⟩
  | false=>
   go_enter Tryz.func169,Tryz.ntmps169
   go_wp2_with fail
   refine HC.o.mono ?_;rintro e w1 ⟨rfl,aJ⟩
   go_wp2_with fail
   go_ret
   exact⟨aG (by rw[HV.o,if_neg (by simpa using HL.o)];rfl),ae aI aJ⟩
 ·have iD:((l.length:Int) != n)=true:=by simp[hl]
  go_enter Tryz.func169,Tryz.ntmps169
  go_wp2_with fail
  go_ret
  exact⟨aG (by rw[HV.o,if_pos hl]),aI⟩
theorem yt(v:Value) (l:List (List Int)) (i:Nat) (hi:i<l.length) (w:World) (hv:eD w v l) :
  Calls Tryz.prog 204 #[v,.int .i64 i] w fun e w'=>e=.returned (.bool (unordB l i))/\Below w.heap.size w w':=by
 obtain⟨pa,ca,rfl,la1,la2,ea⟩:=hv.at;clear hv;by_cases h0:0<i
 ·obtain⟨j,rfl⟩:∃ j,i=j+1:=⟨i - 1,by omega⟩;have hj:j<l.length:=by omega
  obtain⟨b1,o1,rfl,x1,c1,h1⟩:=ea j hj;obtain⟨b2,o2,e2,x2,c2,h2⟩:=ea (j+1) hi;obtain⟨rfl,rfl⟩:b1=b2/\o1=o2:=by simpa using e2
  clear e2 ea;rw[Nat.mul_one]at c1 c2
  have HU:am (unordB l (j+1)=decide (0<=ordV l[j] l[j+1])):=by
   have h:unordB l (j+1)=decide (0<=ordV l[j] l[j+1]):=by
    unfold unordB;rw[Nat.add_sub_cancel,aA [] hj,aA [] hi];simp
   exact h
  generalize l[j]=y1 at h1 HU;generalize l[j+1]=y2 at h2 HU;have d1:∀ x:ExtW w,x.val.cell? ⟨b1,o1+j,none⟩=some x1:=fun x=>x.cell c1
  have d2:∀ x:ExtW w,x.val.cell? ⟨b1,o1+(j+1),none⟩=some x2:=fun x=>x.cell c2
  have fp:∀ x:ExtW w,Calls Tryz.prog 170 #[x1,x2] x.val fun e w''=>e=.returned (.int .i64 (ordV y1 y2))/\∃ p:ExtW w,w''=p.val:=
   fun x=>Calls.ext_of (rC _ _ _ _ _ (h1.up up_int x.ext) (h2.up up_int x.ext))
  have bW:=aa fp;clear fp;clear c1 c2 h1 h2;have V1:IntKind.i64.wrap (j:Int)=(j:Int):=IntWalk.i64_in _ (by omega);have yW:(0:Int)<=(j:Int)+1:=by omega
  have Hh:(j:Int)+1<(l.length:Int):=by omega
  have Ce:((j:Int)+1).toNat=j+1:=by omega
  go_enter Tryz.func204,Tryz.ntmps204
  go_wp2_with fail
  refine aD (by kernel_rfl) (by kernel_rfl) ?_
  repeat (quiet_step ((go_at_call 170;exact bW.o _)))
  refine wpQuiet_nil ?_;intro _ eJ;obtain⟨xq,dq⟩:=eJ;subst dq
  go_wp2_with fail
  go_ret
  exact⟨aR HU.o.symm,xq.ext⟩
 ·obtain rfl:i=0:=by omega
  go_enter Tryz.func204,Tryz.ntmps204
  go_wp2_with fail
  go_quiet (fail)
  go_wp2_with fail
  go_ret
  exact⟨aR (by simp[unordB]),eL (Below.refl _ _) _⟩
theorem SB(x:Value) (v:Value) (y z:List Int) (B:Nat) (W:World) (hc:W.cell? ⟨B,0,none⟩=some v) (hx:aT W x y) (hv:aT W v z) :
  Calls Tryz.prog 214 #[x,.pointer (some ⟨B,0,none⟩)] W fun e W'=>e=.returned (.bool (eqV y z))/\Below W.heap.size W W':=by
 have HC:=aa (ij x v y z W hx hv);obtain⟨_,_,rfl,_⟩:=hv;clear hx
 go_enter Tryz.func214,Tryz.ntmps214
 go_wp2_with fail
 refine HC.o.mono ?_;rintro e w1 ⟨rfl,aJ⟩
 go_wp2_with fail
 go_ret
 exact⟨rfl,aJ⟩
theorem Wp(v:Value) (l:List (List Int)) (x:Value) (y:List Int) (w:World) (hv:eD w v l) (hx:aT w x y) :
  Calls Tryz.prog 205 #[v,x] w fun e w'=>e=.returned (.bool (hasV l y))/\Below w.heap.size w w':=by
 have aI:Below w.heap.size w (w.alloc (.cells #[x] 38)):=by go_grown
 have FV:=xD 214 #[.pointer (some ⟨w.heap.size,0,none⟩)] (enters_of Tryz.func214 (by kernel_rfl) rfl) v l (fun i=>eqV (l.getD i []) y)
  (w.alloc (.cells #[x] 38)) (hv.up up_ints aI) (fun i hi z hz W hW=>by
   rw[aA [] hi]
   exact SB _ _ _ _ _ _ (ak hW (by simp[ab (aq _ _)])) (hz.up up_int hW) ((hx.up up_int aI).up up_int hW))
 have HC:=aa FV;clear FV;obtain⟨_,_,rfl,_⟩:=hx;clear hv
 go_enter Tryz.func205,Tryz.ntmps205
 go_wp2_with fail
 refine HC.o.mono ?_;rintro e w1 ⟨rfl,aJ⟩
 go_wp2_with fail
 go_ret
 exact⟨rfl,ae aI aJ⟩
theorem Bm(t:Tk) (pc:Option Addr) (nc cc:Nat) (c:Cs) (x0 x1 x2:Value) (w:World) (h0:aT w x0 c.inp) (h1:eD w x1 c.out) (h2:eD w x2 c.calm) :
  Calls Tryz.prog 171 #[.agg #[.int .i64 t.n,.int .i64 t.ins,.int .i64 t.outs,.slice pc nc cc],.agg #[x0,x1,x2]] w fun e w'=>e=.returned (.int .i64 (vectorsE t c))/\Below w.heap.size w w':=by
 have G1:=aa h1;have G2:=aa h2;obtain⟨p0,c0,rfl,_⟩:=h0;obtain⟨p1,c1,rfl,l1,m1,e1⟩:=h1.at;obtain⟨p2,c2,rfl,l2,m2,e2⟩:=h2.at;have E1:=aa e1;have E2:=aa e2;clear h1 h2 e1 e2;by_cases hl:c.out.length<1\/1024<c.out.length
 ·have HV:am (vectorsE t c=5):=by(have h:vectorsE t c=5:=by(unfold vectorsE;rw[if_pos hl]));exact h
  rcases hl with hl|hl
  ·go_enter Tryz.func171,Tryz.ntmps171
   go_wp2_with fail
   go_ret
   exact⟨aG HV.o.symm,by go_grown⟩
  ·go_enter Tryz.func171,Tryz.ntmps171
   go_wp2_with fail
   go_ret
   exact⟨aG HV.o.symm,by go_grown⟩
 have iD:1<=c.out.length:=by omega
 have nW:c.out.length<=1024:=by omega
 have HV:am (vectorsE t c=if bg c.out.length (jq t c)≠0 then bg c.out.length (jq t c) else bg c.calm.length (jf c)):=by
  have h:vectorsE t c=if bg c.out.length (jq t c)≠0 then bg c.out.length (jq t c) else bg c.calm.length (jf c):=by unfold vectorsE;rw[if_neg hl]
  exact h
 clear hl
 go_enter Tryz.func171,Tryz.ntmps171
 go_wp2_with fail
 refine bu (fun W=>Below w.heap.size w W/\W.heap[w.heap.size]?=some (.cells #[.int .i64 t.n,.int .i64 t.ins,.int .i64 t.outs,.slice pc nc cc] 24)/\W.heap[w.heap.size+1]?=some (.cells #[.slice p0 c.inp.length c0,.slice p1 c.out.length c1,.slice p2 c.calm.length c2] 135))
  ⟨by go_grown,ar _ (aq _ _),by simpa using aq (w.alloc (.cells #[.int .i64 t.n,.int .i64 t.ins,.int .i64 t.outs,.slice pc nc cc] 24)) _⟩ (fun W0 aZ=>?_)
 obtain⟨aI,hT,hC⟩:=aZ;have HT:=aa hT;clear hT;have HC:=aa hC;clear hC
 go_loopw [23] (fun i wr=>Below W0.heap.size W0 wr/\∃ k:Nat,k<=c.out.length/\i=.int .i64 k/\∀ j,j<k->jq t c j=0) (fun i _=>c.out.length - (intOf i).toNat)
 ·exact⟨Below.refl _ _,0,by omega,rfl,by simp⟩
 ·
  obtain⟨az,k,hk,rfl,aW⟩:=hrel;have H:=aa aW;clear aW;have t1:=ab (af az HT.o);have t2:=ab (af az HC.o);by_cases aB:k<c.out.length
  ·obtain⟨b1,o1,rfl,x,cx,hx⟩:=E1.o k aB;rw[Nat.mul_one]at cx;have d1:=ak (ae aI az) cx;have HX:=aa (hx.up up_int (ae aI az));obtain⟨px,qx,rfl,_⟩:=hx;clear cx
   go_wp2_with fail
   refine(Dj _ _ _ _ _ HX.o).mono ?_;rintro e w1 ⟨rfl,aJ⟩
   have HO:am (jq t c k=if vectorE c.out[k] t.n t.outs≠0 then vectorE c.out[k] t.n t.outs else if unordB c.out k then 14 else 0):=by
    have h:jq t c k=if vectorE c.out[k] t.n t.outs≠0 then vectorE c.out[k] t.n t.outs else if unordB c.out k then 14 else 0:=by unfold jq;rw[aA [] aB]
    exact h
   generalize vectorE c.out[k] t.n t.outs=ev at HO;by_cases mQ:ev=0
   ·subst mQ;have s1:=ab (af (ae az aJ) HT.o);have s2:=ab (af (ae az aJ) HC.o);clear t1 t2 d1
    go_wp2_with fail
    refine(yt _ _ k aB _ (G1.o.up up_ints (ae (ae aI az) aJ))).mono ?_;rintro e w2 ⟨rfl,a8⟩;generalize unordB c.out k=u at HO;cases u with
    | true=>
     go_wp2_with fail
     go_ret
     exact⟨aG (by rw[HV.o,<-bV k 14 aB H.o (by rw[HO.o];rfl) (by decide)];rfl),ae (ae (ae aI az) aJ) a8⟩
    | false=>
     go_wp2_with fail
     go_roundw
     ·exact⟨ae (ae az aJ) a8,k+1,by omega,by go_num,aV H.o (by rw[HO.o];rfl)⟩
     ·simp[intOf];omega
   ·have hev':(ev != 0)=true:=by simpa using mQ
    go_wp2_with fail
    go_ret
    exact⟨aG (by rw[HV.o,<-bV k ev aB H.o (by rw[HO.o,if_pos mQ]) mQ,if_pos mQ]),ae (ae aI az) aJ⟩
  ·have da:am (vectorsE t c=bg c.calm.length (jf c)):=by
    have h:vectorsE t c=bg c.calm.length (jf c):=by rw[HV.o,cV _ _ (fun j hj=>H.o j (by omega))];simp
    exact h
   go_wp2_with fail
   clear t1 t2;have dH:=ae aI az;obtain⟨W1,cD⟩:∃ W1:World,W1=wr:=⟨_,rfl⟩;rw[<-cD]at az dH ⊢;clear cD wr
   go_loopw [45] (fun i wr=>Below W1.heap.size W1 wr/\∃ k:Nat,k<=c.calm.length/\i=.int .i64 k/\∀ j,j<k->jf c j=0) (fun i _=>c.calm.length - (intOf i).toNat)
   ·exact⟨Below.refl _ _,0,by omega,rfl,by simp⟩
   ·
    obtain⟨ki,q,hq,rfl,qM⟩:=hrel;have H2:=aa qM;clear qM;have t2:=ab (af (ae az ki) HC.o);by_cases BR:q<c.calm.length
    ·obtain⟨b1,o1,rfl,x,cx,hx⟩:=E2.o q BR;rw[Nat.mul_one]at cx;have d1:=ak (ae dH ki) cx;have HX:=aa (hx.up up_int (ae dH ki));obtain⟨px,qx,rfl,_⟩:=hx;clear cx
     go_wp2_with fail
     refine(Wp _ _ _ _ _ (G1.o.up up_ints (ae dH ki)) HX.o).mono ?_;rintro e w1 ⟨rfl,aJ⟩
     have HO:am (jf c q=if hasV c.out c.calm[q] then(if unordB c.calm q then 14 else 0) else 6):=by
      have h:jf c q=if hasV c.out c.calm[q] then(if unordB c.calm q then 14 else 0) else 6:=by unfold jf;rw[aA [] BR]
      exact h
     generalize hasV c.out c.calm[q]=ev at HO;cases ev with
     | true=>
      have s2:=ab (af (ae (ae az ki) aJ) HC.o);clear t2 d1
      go_wp2_with fail
      refine(yt _ _ q BR _ (G2.o.up up_ints (ae (ae dH ki) aJ))).mono ?_;rintro e w2 ⟨rfl,a8⟩;generalize unordB c.calm q=u at HO;cases u with
      | true=>
       go_wp2_with fail
       go_ret
       exact⟨aG (by rw[da.o,<-bV q 14 BR H2.o (by rw[HO.o];rfl) (by decide)]),ae (ae (ae dH ki) aJ) a8⟩
      | false=>
       go_wp2_with fail
       go_roundw
       ·exact⟨ae (ae ki aJ) a8,q+1,by omega,by go_num,aV H2.o (by rw[HO.o];rfl)⟩
       ·simp[intOf];omega
     | false=>
      go_wp2_with fail
      go_ret
      exact⟨aG (by rw[da.o,<-bV q 6 BR H2.o (by rw[HO.o];rfl) (by decide)]),ae (ae dH ki) aJ⟩
    ·go_wp2_with fail
     go_ret
     exact⟨aG (by rw[da.o,cV];intro j hj;exact H2.o j (by omega)),ae dH ki⟩
theorem ro(t:Tk) (vc:Value) (w:World) (hv:bS w vc t.cases) :
  Calls Tryz.prog 124 #[.agg #[.int .i64 t.n,.int .i64 t.ins,.int .i64 t.outs,vc]] w fun e w'=>e=.returned (.int .i64 (taskE t))/\Below w.heap.size w w':=by
 have G:=aa hv;obtain⟨pc,cc,rfl,l1,m1,e1⟩:=hv.at;clear hv;have E:=aa e1;clear e1;by_cases hr:t.n<1\/5<t.n\/t.ins<1\/8<t.ins\/t.outs<1\/8<t.outs
 ·have HV:am (taskE t=2):=by(have h:taskE t=2:=by(unfold taskE;rw[if_pos hr]));exact h
  by_cases r1:t.n<1
  ·go_enter Tryz.func124,Tryz.ntmps124
   go_wp2_with fail
   go_ret;exact⟨aG HV.o.symm,by go_grown⟩
  by_cases r2:5<t.n
  ·go_enter Tryz.func124,Tryz.ntmps124
   go_wp2_with fail
   go_ret;exact⟨aG HV.o.symm,by go_grown⟩
  by_cases r3:t.ins<1
  ·go_enter Tryz.func124,Tryz.ntmps124
   go_wp2_with fail
   go_ret;exact⟨aG HV.o.symm,by go_grown⟩
  by_cases r4:8<t.ins
  ·go_enter Tryz.func124,Tryz.ntmps124
   go_wp2_with fail
   go_ret;exact⟨aG HV.o.symm,by go_grown⟩
  by_cases r5:t.outs<1
  ·go_enter Tryz.func124,Tryz.ntmps124
   go_wp2_with fail
   go_ret;exact⟨aG HV.o.symm,by go_grown⟩
  ·have r6:8<t.outs:=by omega
   clear hr
   go_enter Tryz.func124,Tryz.ntmps124
   go_wp2_with fail
   go_ret;exact⟨aG HV.o.symm,by go_grown⟩
 have r1:1<=t.n:=by omega
 have r2:t.n<=5:=by omega
 have r3:1<=t.ins:=by omega
 have r4:t.ins<=8:=by omega
 have r5:1<=t.outs:=by omega
 have r6:t.outs<=8:=by omega
 by_cases hl:t.cases.length<1\/1024<t.cases.length
 ·have HV:am (taskE t=5):=by(have h:taskE t=5:=by(unfold taskE;rw[if_neg hr,if_pos hl]));exact h
  clear hr;rcases hl with hl|hl
  ·go_enter Tryz.func124,Tryz.ntmps124
   go_wp2_with fail
   go_ret;exact⟨aG HV.o.symm,by go_grown⟩
  ·go_enter Tryz.func124,Tryz.ntmps124
   go_wp2_with fail
   go_ret;exact⟨aG HV.o.symm,by go_grown⟩
 have iD:1<=t.cases.length:=by omega
 have nW:t.cases.length<=1024:=by omega
 have HV:am (taskE t=bg t.cases.length (eZ t)):=by(have h:taskE t=bg t.cases.length (eZ t):=by(unfold taskE;rw[if_neg hr,if_neg hl]));exact h
 clear hr hl
 go_enter Tryz.func124,Tryz.ntmps124
 go_wp2_with fail
 refine bu (fun W=>Below w.heap.size w W/\W.heap[w.heap.size]?=some (.cells #[.int .i64 t.n,.int .i64 t.ins,.int .i64 t.outs,.slice pc t.cases.length cc] 24))
  ⟨by go_grown,aq _ _⟩ (fun W0 aZ=>?_)
 obtain⟨aI,hT⟩:=aZ;have HT:=aa hT;clear hT
 go_loopw [46] (fun i wr=>Below W0.heap.size W0 wr/\∃ k:Nat,k<=t.cases.length/\i=.int .i64 k/\∀ j,j<k->eZ t j=0) (fun i _=>t.cases.length - (intOf i).toNat)
 ·exact⟨Below.refl _ _,0,by omega,rfl,by simp⟩
 ·
  obtain⟨az,k,hk,rfl,aW⟩:=hrel;have H:=aa aW;clear aW;have t1:=ab (af az HT.o);have dH:=ae aI az;by_cases aB:k<t.cases.length
  ·obtain⟨b1,o1,rfl,⟨x0,cx0,dj⟩,⟨x1,cx1,dL⟩,⟨x2,cx2,eA⟩⟩:=E.o k aB;have d0:=ak dH cx0;have d1:=ak dH cx1;have d2:=ak dH cx2;have Az:=aa dj;have kW:=aa dL;have fG:=aa eA;obtain⟨p0,q0,rfl,_⟩:=dj;obtain⟨p1,q1,rfl,_⟩:=dL;obtain⟨p2,q2,rfl,_⟩:=eA;clear cx0 cx1 cx2;have fk:=aC (af az HT.o)
   go_wp2_with fail
   refine aN (fun W=>Below wr.heap.size wr W/\W.heap[wr.heap.size]?=some (.cells #[.slice p0 t.cases[k].inp.length q0,.slice p1 t.cases[k].out.length q1,.slice p2 t.cases[k].calm.length q2] 135)) ⟨by go_grown,aq _ _⟩ (fun V hV=>?_);obtain⟨lB,hC⟩:=hV;have HC:=aa hC;clear hC;have U1:=ae dH lB;refine(Dj _ _ _ _ _ (Az.o.up up_int U1)).mono ?_;rintro e w1 ⟨rfl,aJ⟩
   have HO:am (eZ t k=if vectorE t.cases[k].inp t.n t.ins≠0 then vectorE t.cases[k].inp t.n t.ins else if 0<k/\0<=ordV (t.cases.getD (k - 1) default).inp t.cases[k].inp then 14 else vectorsE t t.cases[k]):=by
    have h:eZ t k=if vectorE t.cases[k].inp t.n t.ins≠0 then vectorE t.cases[k].inp t.n t.ins else if 0<k/\0<=ordV (t.cases.getD (k - 1) default).inp t.cases[k].inp then 14 else vectorsE t t.cases[k]:=by unfold eZ;rw[aA default aB]
    exact h
   generalize vectorE t.cases[k].inp t.n t.ins=ev at HO;have jo:=ae U1 aJ;by_cases mQ:ev=0
   case neg=>
    have hev':(ev != 0)=true:=by simpa using mQ
    go_wp2_with fail
    go_ret
    exact⟨aG (by rw[HV.o,<-bV k ev aB H.o (by rw[HO.o,if_pos mQ]) mQ]),jo⟩
   subst mQ;have AA:=ae lB aJ;have s1:=ab (af (ae az AA) HT.o);have s2:=ab (af aJ HC.o);clear t1 d0 d1 d2 fk
   go_wp2_with fail
   by_cases fg:k=0
   ·have dR:am (eZ t k=vectorsE t t.cases[k]):=by(have h:eZ t k=vectorsE t t.cases[k]:=by(rw[HO.o,if_neg (by simp),if_neg (by omega)]));exact h
    have hd:decide ((0:Int)<(k:Int))=false:=by simp;omega
    have gM:decide (0<k)=false:=by simp;omega
    clear HO fg;refine aD (by kernel_rfl) (by kernel_rfl) ?_
    repeat (go_big_quiet_step (fail))
    refine wpQuiet_nil ?_;intro _ eJ;obtain⟨xq,dq⟩:=eJ;subst dq;have r1':=ab (af (ae (ae az AA) xq.ext) HT.o);have r2':=ab (af (ae aJ xq.ext) HC.o);clear s1 s2 hd gM;have uU:=ae jo xq.ext
    go_wp2_with fail
    refine(Bm t _ _ _ t.cases[k] _ _ _ _ (Az.o.up up_int uU) (kW.o.up up_ints uU) (fG.o.up up_ints uU)).mono ?_;rintro e w2 ⟨rfl,a8⟩;generalize vectorsE t t.cases[k]=e2 at dR;by_cases BS:e2=0
    ·subst BS
     go_wp2_with fail
     go_roundw
     ·exact⟨ae (ae (ae az AA) xq.ext) a8,k+1,by omega,by go_num,aV H.o dR.o⟩
     ·simp[intOf];omega
    ·have he2':(e2 != 0)=true:=by simpa using BS
     go_wp2_with fail
     go_ret
     exact⟨aG (by rw[HV.o,<-bV k e2 aB H.o dR.o BS]),ae uU a8⟩
   ·obtain⟨j,hj⟩:∃ j,k=j+1:=⟨k - 1,by omega⟩;have fS:j<t.cases.length:=by omega
    have HJ:=aa hj;obtain⟨b2,o2,e2,⟨y0,cy0,jl⟩,_⟩:=E.o j fS;obtain⟨rfl,rfl⟩:b1=b2/\o1=o2:=by simpa using e2
    clear e2;have hd:decide ((0:Int)<(k:Int))=true:=by simp;omega
    have gM:0<k:=by omega
    have fM:am (eZ t k=if 0<=ordV t.cases[j].inp t.cases[k].inp then 14 else vectorsE t t.cases[k]):=by
     have h:eZ t k=if 0<=ordV t.cases[j].inp t.cases[k].inp then 14 else vectorsE t t.cases[k]:=by
      rw[HO.o,if_neg (by simp)];have e:k - 1=j:=by omega
      rw[e,aA default fS]
      grind
     exact h
    clear HO fg hj;have jc:IntKind.i64.wrap ((k:Int) - 1)=(j:Int):=by rw[HJ.o];rw[IntWalk.i64_in _ (by omega)];omega
    have q1:∀ x:ExtW w1,∀ o,x.val.cell? ⟨w.heap.size,o,none⟩=_:=fun x=>ab (af (ae (ae az AA) x.ext) HT.o)
    have q2:∀ x:ExtW w1,∀ o,x.val.cell? ⟨wr.heap.size,o,none⟩=_:=fun x=>ab (af (ae aJ x.ext) HC.o)
    have q3:∀ x:ExtW w1,x.val.cell? ⟨b1,o1+j * 3,none⟩=some y0:=fun x=>x.cell (ak jo cy0)
    have fp:∀ x:ExtW w1,Calls Tryz.prog 170 #[y0,.slice p0 t.cases[k].inp.length q0] x.val fun e w''=>e=.returned (.int .i64 (ordV t.cases[j].inp t.cases[k].inp))/\∃ p:ExtW w1,w''=p.val:=
     fun x=>Calls.ext_of (rC _ _ _ _ _ (jl.up up_int (ae jo x.ext)) (Az.o.up up_int (ae jo x.ext)))
    have bW:=aa fp;clear fp;have Vn:=aa jl;clear jl cy0;generalize ordV t.cases[j].inp t.cases[k].inp=oo at bW fM;clear s1 s2;refine aD (by kernel_rfl) (by kernel_rfl) ?_
    repeat (go_big_quiet_step ((go_at_call 170;exact bW.o _)))
    refine wpQuiet_nil ?_;intro _ eJ;obtain⟨xq,dq⟩:=eJ;subst dq;have r1':=q1 xq;have r2':=q2 xq;clear q1 q2 q3 hd gM;have uU:=ae jo xq.ext;by_cases rK:0<=oo
    ·go_wp2_with fail
     go_ret
     exact⟨aG (by rw[HV.o,<-bV k 14 aB H.o (by rw[fM.o,if_pos rK]) (by decide)]),uU⟩
    ·have dR:am (eZ t k=vectorsE t t.cases[k]):=by(have h:eZ t k=vectorsE t t.cases[k]:=by(rw[fM.o,if_neg rK]));exact h
     clear fM
     go_wp2_with fail
     refine(Bm t _ _ _ t.cases[k] _ _ _ _ (Az.o.up up_int uU) (kW.o.up up_ints uU) (fG.o.up up_ints uU)).mono ?_;rintro e w2 ⟨rfl,a8⟩;generalize vectorsE t t.cases[k]=e2 at dR;by_cases BS:e2=0
     ·subst BS
      go_wp2_with fail
      go_roundw
      ·exact⟨ae (ae (ae az AA) xq.ext) a8,k+1,by omega,by go_num,aV H.o dR.o⟩
      ·simp[intOf];omega
     ·have he2':(e2 != 0)=true:=by simpa using BS
      go_wp2_with fail
      go_ret
      exact⟨aG (by rw[HV.o,<-bV k e2 aB H.o dR.o BS]),ae uU a8⟩
  ·go_wp2_with fail
   go_ret
   exact⟨aG (by rw[HV.o,cV];intro j hj;exact H.o j (by omega)),dH⟩
theorem qo{w w':World} {base:Nat} {e:TypeId} {v:Value} {n:Nat} {xs:List Value} (h:w.ownsRow base e 1 v n xs) (hb:Below w.heap.size w w'):w'.ownsRow base e 1 v n xs:=by
 obtain⟨hl,h⟩:=h;refine⟨hl,?_⟩;rcases h with h|⟨g,cap,cur,h1,h2,h3,h4⟩
 ·exact .inl h
 ·exact .inr ⟨g,cap,cur,h1,h2,af hb h3,h4⟩
theorem Bq{w w':World} {base base':Nat} {e e':TypeId} {u v:Value} {n m:Nat} {xs ys:List Value} (h:w.ownsRow base e 1 u n xs) (hv:w.ownsRow base' e' 1 v m ys) (bM:e≠e') (hg:w.grownBy w' v.ownBlock):w'.ownsRow base e 1 u n xs:=by
 obtain⟨hl,h⟩:=h;refine⟨hl,?_⟩;rcases h with h|⟨g,cap,cur,h1,h2,h3,h4⟩
 ·exact .inl h
 ·refine .inr ⟨g,cap,cur,h1,h2,(hg.block g (aC h3) (fun e1=>?_)).trans h3,h4⟩;rcases hv.2 with ⟨rfl,_⟩|⟨g',cap',cur',rfl,_,UW,_⟩
  ·cases e1
  ·cases e1
   rw[h3]at UW;cases UW;exact bM rfl
theorem Fd{w:World} {base:Nat} {e:TypeId} {v:Value} {n:Nat} {xs:List Value} (h:w.ownsRow base e 1 v n xs):∀ g,v.ownBlock=some g->base<=g/\g<w.heap.size:=by
 intro g hg;rcases h.2 with ⟨rfl,_⟩|⟨g',cap,cur,rfl,h2,h3,_⟩
 ·cases hg
 ·cases hg;exact⟨h2,aC h3⟩
theorem uj{w:World} {base base':Nat} {e:TypeId} {v:Value} {n:Nat} {xs:List Value} (h:w.ownsRow base e 1 v n xs) (hb:base'<=base):w.ownsRow base' e 1 v n xs:=by
 obtain⟨hl,h⟩:=h;refine⟨hl,?_⟩;rcases h with h|⟨g,cap,cur,h1,h2,h3⟩
 ·exact .inl h
 ·exact .inr ⟨g,cap,cur,h1,Nat.le_trans hb h2,h3⟩
def qS(w:World) (base:Nat) (v:Value) (l:List (List Int)):Prop:=
 ∃ xs:List Value,w.ownsRow base 38 1 v l.length xs/\∀ i (hi:i<l.length) (hx:i<xs.length),w.ownsRow base 3 1 xs[i] l[i].length (l[i].map (Value.int .i64))
theorem Ng(v:Value) (l:List (List Int)) (w:World) (hv:eD w v l) (hn:l.length<=1099511627776) (nV:∀ x∈l,x.length<=1099511627776) :
  Calls Tryz.prog 173 #[v] w fun e w'=>∃ u,e=.returned u/\qS w' w.heap.size u l/\Below w.heap.size w w':=by
 have HR:=aa (fun i (hi:i<l.length)=>nV l[i] (List.getElem_mem hi));clear nV;obtain⟨pa,ca,rfl,la1,la2,ea⟩:=hv.at;clear hv;have EA:=aa ea;clear ea;obtain⟨i0,cM,bX,bP,bY⟩:=info_parts Tryz.infoInts
 go_enter Tryz.func173,Tryz.ntmps173
 go_wp2_with fail
 go_loopw [3,8] (fun o i wr=>Below w.heap.size w wr/\∃ k:Nat,k<=l.length/\i=.int .i64 k/\qS wr w.heap.size o (l.take k)) (fun _ i _=>l.length - (intOf i).toNat)
 ·exact⟨Below.refl _ _,0,by omega,rfl,[],by simpa using World.ownsRow_nil _ _ _ _,fun i hi=>by simp at hi⟩
 ·
  obtain⟨az,k,hk,rfl,oW⟩:=hrel;by_cases aB:k<l.length
  ·obtain⟨b1,o1,rfl,x,cx,hx⟩:=EA.o k aB;rw[Nat.mul_one]at cx;have d1:=ak az cx;have HX:=aa (hx.up up_int az);obtain⟨px,qx,rfl,_⟩:=hx;clear cx;obtain⟨xs,aS,kj⟩:=oW;have mL:(l.take k).length=k:=by simp;omega
   rw[mL]at aS;have bG:=aa aS;have yE:=aa kj;have VJ:=aa mL;clear aS kj mL
   go_wp2_with fail
   refine(zy _ _ _ (Bl HX.o) (by rw[List.length_map];exact HR.o k aB)).mono ?_;rintro e w1 ⟨u,rfl,hu,aJ⟩;obtain⟨au,cu,rfl,_⟩:=ui hu;rw[List.length_map]at hu;rw[List.length_map];generalize hN:l[k].length=nn at hu ⊢;have HN:=aa hN;clear hN;have yL:=ae az aJ;have hA:Below w1.heap.size w1 (w1.alloc (.cells #[(Value.slice au nn cu)] 38)):=by go_grown
   have dz:=aa (qo (qo bG.o aJ) hA)
   have bU:∀ j u',[(Value.slice au nn cu)][j]?=some u'->(w1.alloc (.cells #[(Value.slice au nn cu)] 38)).cell? (Addr.add ⟨w1.heap.size,0,none⟩ j)=some u':=fun j u' hj=>by
    cases j with
    | zero=>simp at hj;subst hj;simp[Addr.add,ab (aq w1 _)]
    | succ j=>simp at hj
   have bA:=aa bU;have HU:=aa hu;clear bU hu d1;have iy:=yL.size
   go_wp2_with (at_builtin;(refine wpList_append_own _ rfl (.tmp 12) (.tmp 15) 56 rfl w.heap.size 38 i0 (.slice none 0 0) 1 24 Tryz.underlying56 cM bX bP bY rfl (by decide) _ k xs rfl dz.o ⟨w1.heap.size,0,none⟩ 1 1 [(Value.slice au nn cu)] rfl rfl bA.o (by simp[Value.oneCell']) (by unfold maxLen;omega) (by omega) (by simp;omega) ?_;intro v' w2 fX dC _))
   go_roundw
   ·
    refine⟨Below.grown (w:=w1.alloc (.cells #[(Value.slice au nn cu)] 38)) (yL.alloc iy _) dC (by simp;omega) (fun g hg=>(Fd bG.o g hg).1),k+1,by omega,by go_num,xs++[(Value.slice au nn cu)],?_,?_⟩
    ·rw[show (l.take (k+1)).length=k+1 by simp;omega];exact fX
    ·intro i hi hx;have iQ:xs.length=k:=by have:=bG.o.1;omega
     by_cases kY:i<k
     ·have h1:=yE.o i (by rw[VJ.o];exact kY) (by omega);have h2:=Bq (qo (qo h1 aJ) hA) dz.o (by decide) dC;simp only[List.getElem_take]at h2 ⊢
      rwa [List.getElem_append_left (by omega)]
     ·obtain rfl:i=k:=by simp at hi;omega
      have h2:=Bq (uj (qo HU.o hA) az.size) dz.o (by decide) dC;simp only[List.getElem_take];rw[List.getElem_append_right (by omega)];obtain rfl:=HN.o;simpa using h2
   ·simp[intOf];omega
  ·go_wp2_with fail
   go_ret
   refine⟨_,rfl,?_,az⟩
   rwa [List.take_of_length_le (by omega)]at oW
theorem IY(x0 x1 x2:Value) (c:Cs) (f:Int) (w:World) (h1:eD w x1 c.out) (h2:eD w x2 c.calm) :
  Calls Tryz.prog 109 #[.agg #[x0,x1,x2],.int .i64 f] w fun e w'=>∃ u,e=.returned u/\eD w' u (gt c f)/\Below w.heap.size w w':=by
 have H1:=aa h1;have H2:=aa h2;obtain⟨p1,q1,rfl,_⟩:=h1.at;obtain⟨p2,q2,rfl,m1,m2,_⟩:=h2.at;clear h1 h2;by_cases hf:f=0
 ·subst hf;by_cases hl:0<c.calm.length
  ·have HV:am (gt c 0=c.calm):=by(have h:gt c 0=c.calm:=by(unfold gt;rw[if_pos ⟨rfl,hl⟩]));exact h
   have hl':decide ((0:Int)<(c.calm.length:Int))=true:=by simp;omega
   go_enter Tryz.func109,Tryz.ntmps109
   go_wp2_with fail
   go_ret
   refine⟨_,rfl,?_,by go_grown⟩;rw[HV.o];exact H2.o.up up_ints (by go_grown)
  ·have HV:am (gt c 0=c.out):=by(have h:gt c 0=c.out:=by(unfold gt;rw[if_neg (fun h=>hl h.2)]));exact h
   have hl':decide ((0:Int)<(c.calm.length:Int))=false:=decide_eq_false (by omega)
   go_enter Tryz.func109,Tryz.ntmps109
   go_wp2_with fail
   go_ret
   refine⟨_,rfl,?_,by go_grown⟩;rw[HV.o];exact H1.o.up up_ints (by go_grown)
 ·have HV:am (gt c f=c.out):=by(have h:gt c f=c.out:=by(unfold gt;rw[if_neg (fun h=>hf h.1)]));exact h
  have hf':(f == 0)=false:=by simpa using hf
  go_enter Tryz.func109,Tryz.ntmps109
  go_wp2_with fail
  go_ret
  refine⟨_,rfl,?_,by go_grown⟩;rw[HV.o];exact H1.o.up up_ints (by go_grown)
theorem PK{t:Tk} {i f:Int} (h:iY t i f=0):taskE t=0/\0<=i/\i.toNat<t.cases.length:=by
 unfold iY at h;split at h
 ·omega
 ·rename_i h1;split at h
  ·omega
  ·exact⟨by simpa using h1,by omega,by omega⟩
theorem PL(t:Tk) (vc:Value) (i f:Int) (w:World) (hv:bS w vc t.cases) :
  Calls Tryz.prog 105 #[.agg #[.int .i64 t.n,.int .i64 t.ins,.int .i64 t.outs,vc],.int .i64 i,.int .i64 f] w fun e w'=>e=.returned (.int .i64 (iY t i f))/\Below w.heap.size w w':=by
 have G:=aa hv;obtain⟨pc,cc,rfl,l1,m1,_⟩:=hv.at;clear hv
 go_enter Tryz.func105,Tryz.ntmps105
 go_wp2_with fail
 refine aN (fun W=>Below w.heap.size w W/\W.heap[w.heap.size]?=some (.cells #[.int .i64 t.n,.int .i64 t.ins,.int .i64 t.outs,.slice pc t.cases.length cc] 24)) ⟨by go_grown,aq _ _⟩ (fun W0 aZ=>?_);obtain⟨aI,bI⟩:=aZ;refine(ro t _ W0 (G.o.up up_case aI)).mono ?_;rintro e w1 ⟨rfl,aJ⟩;have gB:=ae aI aJ;have t1:=ab (af aJ bI);clear bI;by_cases oZ:taskE t=0
 case neg=>
  have HV:am (iY t i f=taskE t):=by(have h:iY t i f=taskE t:=by(unfold iY;rw[if_pos oZ]));exact h
  generalize taskE t=et at HV oZ;have Oi:(et != 0)=true:=by simpa using oZ
  go_wp2_with fail
  go_ret
  exact⟨aG (by rw[HV.o]),gB⟩
 obtain⟨⟨n1,n2⟩,_⟩:=fB oZ;have HV:am (iY t i f=if i<0\/(t.cases.length:Int)<=i then 6 else if f<0\/2 ^ t.n.toNat<=f then 2 else 0):=by(have h:iY t i f=if i<0\/(t.cases.length:Int)<=i then 6 else if f<0\/2 ^ t.n.toNat<=f then 2 else 0:=by(unfold iY;rw[if_neg (by simpa using oZ)]));exact h
 rw[oZ];clear oZ;generalize t.n=n at *;have:n=1\/n=2\/n=3\/n=4\/n=5:=by omega
 rcases this with rfl|rfl|rfl|rfl|rfl
 all_goals
  go_wp2_with fail
  all_goals
   go_ret
   refine⟨aG ?_,gB⟩;rw[HV.o]
   go_light
   grind
theorem Ld(t:Tk) (vc:Value) (i f:Int) (w:World) (hv:bS w vc t.cases) :
  Calls Tryz.prog 126 #[.agg #[.int .i64 t.n,.int .i64 t.ins,.int .i64 t.outs,vc],.int .i64 i,.int .i64 f] w fun e w'=>∃ u,e=.returned (.tuple #[u,.int .i64 (iY t i f)])/\qS w' w.heap.size u (iZ t i f)/\Below w.heap.size w w':=by
 have G:=aa hv;obtain⟨pc,cc,rfl,l1,m1,e1⟩:=hv.at;clear hv;have E:=aa e1;clear e1
 go_enter Tryz.func126,Tryz.ntmps126
 go_wp2_with fail
 refine aN (fun W=>Below w.heap.size w W/\W.heap[w.heap.size]?=some (.cells #[.int .i64 t.n,.int .i64 t.ins,.int .i64 t.outs,.slice pc t.cases.length cc] 24)) ⟨by go_grown,aq _ _⟩ (fun W0 aZ=>?_);obtain⟨aI,bI⟩:=aZ;refine(PL t _ i f W0 (G.o.up up_case aI)).mono ?_;rintro e w1 ⟨rfl,aJ⟩;have gB:=ae aI aJ;have t1:=ab (af aJ bI);clear bI;by_cases hp:iY t i f=0
 case neg=>
  have HV:am (iZ t i f=[]):=by(have h:iZ t i f=[]:=by(unfold iZ;rw[if_pos hp]));exact h
  generalize hE:iY t i f=et at hp;have HE:=aa hE;clear hE;have Oi:(et != 0)=true:=by simpa using hp
  go_wp2_with fail
  go_ret2
  refine⟨.slice none 0 0,by rw[HE.o];rfl,?_,gB⟩;rw[HV.o];exact⟨[],by simpa using World.ownsRow_nil _ _ _ _,fun i hi=>by simp at hi⟩
 obtain⟨ht,cM,pN⟩:=PK hp;have HV:am (iZ t i f=gt (t.cases.getD i.toNat default) f):=by(have h:iZ t i f=gt (t.cases.getD i.toNat default) f:=by(unfold iZ;rw[if_neg (by simpa using hp)]));exact h
 rw[hp];have HE:=aa hp;clear hp;obtain⟨k,rfl⟩:∃ k:Nat,i=k:=⟨i.toNat,by omega⟩;simp only[Int.toNat_natCast]at pN HV;have dA:=aa (LG ((fB ht).2.2.2.2 t.cases[k] (List.getElem_mem pN)) f);have HN:=aa (fB ht).1;clear ht cM;have BL:am (iZ t k f=gt t.cases[k] f):=by(have h:iZ t k f=gt t.cases[k] f:=by(rw[HV.o,aA default pN]));exact h
 clear HV;obtain⟨b1,o1,rfl,⟨x0,cx0,dj⟩,⟨x1,cx1,dL⟩,⟨x2,cx2,eA⟩⟩:=E.o k pN;have d0:=ak gB cx0;have d1:=ak gB cx1;have d2:=ak gB cx2;have kW:=aa (dL.up up_ints gB);have fG:=aa (eA.up up_ints gB);obtain⟨p0,q0,rfl,_⟩:=dj;obtain⟨p1,q1,rfl,_⟩:=dL;obtain⟨p2,q2,rfl,_⟩:=eA;clear cx0 cx1 cx2
 go_wp2_with fail
 refine(IY _ _ _ t.cases[k] f w1 kW.o fG.o).mono ?_;rintro e w2 ⟨u,rfl,hu,a8⟩;have HU:=aa hu;obtain⟨pu,qu,rfl,_⟩:=hu;clear t1 d0 d1 d2
 go_wp2_with fail
 refine(Ng _ _ w2 HU.o (Nat.le_trans dA.o.1 (by omega)) (fun x hx=>by have h1:=dA.o.2 x hx;have h2:=HN.o;omega)).mono ?_;rintro e w3 ⟨u3,rfl,pH,bH⟩;have kP:=ae gB a8
 go_wp2_with fail
 go_ret2
 refine⟨u3,by rw[HE.o];rfl,?_,ae kP bH⟩;rw[BL.o];obtain⟨xs,h1,h2⟩:=pH;exact⟨xs,uj h1 kP.size,fun i hi hx=>uj (h2 i hi hx) kP.size⟩
theorem SC{n k:Nat} {p:Nat->Bool} (hk:k<n) (h:p k=true):anyLt n p=true:=dW n k p hk h
theorem AU(k:Nat) (h:k<=30):(1:Int)<=2 ^ k/\(2:Int) ^ k<=1073741824:=by
 have h1:2 ^ k<=2 ^ 30:=Nat.pow_le_pow_right (by decide) h;have h2:1<=2 ^ k:=Nat.one_le_two_pow;have e:((2 ^ k:Nat):Int)=2 ^ k:=by simp
 rw[<-e];omega
theorem sg(n:Nat) (h:n<=30) (w:World) :
  Calls Tryz.prog 88 #[.int .i64 n] w fun e w'=>e=.returned (.int .i64 (2 ^ n))/\w=w':=by
 go_enter Tryz.func88,Tryz.ntmps88
 go_wp2
 go_loop [3,4] (fun o i=>∃ k:Nat,k<=n/\i=.int .i64 k/\o=.int .i64 (2 ^ k)) (fun _ i=>n - (intOf i).toNat)
 ·exact⟨0,by omega,rfl,rfl⟩
 ·
  obtain⟨k,hk,rfl,rfl⟩:=hrel;have hp:=AU k (by omega);have HS:am ((2:Int) ^ (k+1)=2 ^ k * 2):=by(have h:(2:Int) ^ (k+1)=2 ^ k * 2:=Int.pow_succ _ _);exact h
  have HK:am ((2:Int) ^ k=2 ^ k):=by exact rfl
  generalize hx:(2:Int) ^ k=x at hp HS;have HX:=aa hx;clear hx;by_cases aB:k<n
  ·go_wp2
   go_round
   ·exact⟨k+1,by omega,by go_num,by rw[HS.o]⟩
   ·simp[intOf];omega
  ·go_wp2
   go_ret
   obtain rfl:k=n:=by omega
   exact⟨aG HX.o.symm,rfl⟩
theorem SD(set:Int) (p:Nat) (h:0<=set):(Int.tmod (Int.tdiv set (2 ^ p)) 2 == 1)=hasB set p:=by
 unfold hasB;rw[Int.tdiv_eq_ediv_of_nonneg h,Int.tmod_eq_emod_of_nonneg (Int.ediv_nonneg h (by have:=Int.pow_pos (n:=2) (m:=p) (by decide);omega))]
theorem jM(set:Int) (p:Nat) (h:p<=30) (h0:0<=set) (h1:set<=9223372036854775807) (w:World) :
  Calls Tryz.prog 47 #[.int .i64 set,.int .i64 p] w fun e w'=>e=.returned (.bool (hasB set p))/\w=w':=by
 have hp:=AU p h;have HD:=aa (SD set p h0);have hc:=fun w=>sg p h w
 have HC:=aa hc;clear hc;generalize (2:Int) ^ p=x at hp HD HC
 go_enter Tryz.func47,Tryz.ntmps47
 go_wp2_with (go_at_call 88;refine(HC.o _).mono ?_;rintro e w' ⟨rfl,rfl⟩)
 go_ret
 refine⟨aR ?_,rfl⟩;rw[<-HD.o,Int.tdiv_eq_ediv_of_nonneg h0,Int.tmod_eq_emod_of_nonneg (Int.ediv_nonneg h0 (by omega))]
theorem Gd(n:Nat) (h:n<=30) (w:World) :
  Calls Tryz.prog 60 #[.int .i64 n] w fun e w'=>e=.returned (.int .i64 (2 ^ n - 1))/\w=w':=by
 have hp:=AU n h;have HC:=aa (fun w=>sg n h w);generalize (2:Int) ^ n=x at hp HC
 go_enter Tryz.func60,Tryz.ntmps60
 go_wp2_with (go_at_call 88;refine(HC.o _).mono ?_;rintro e w' ⟨rfl,rfl⟩)
 go_ret
 exact⟨rfl,rfl⟩
theorem Dk(n:Int) (w:World) :
  Calls Tryz.prog 215 #[.int .i64 n] w fun e w'=>e=.returned (.int .i64 (iW n))/\w=w':=by
 go_enter Tryz.func215,Tryz.ntmps215
 go_wp2
 all_goals
  go_ret
  refine⟨aG ?_,rfl⟩
  go_light
  unfold iW
  grind
theorem Ws(f:Int) (n:Nat) (h:0<=f):f / 2 ^ n≠0↔2 ^ n<=f:=by
 have hp:(0:Int)<2 ^ n:=Int.pow_pos (by decide);constructor
 ·intro h1;rcases Int.lt_or_le f (2 ^ n) with h2|h2
  ·exact absurd (Int.ediv_eq_zero_of_lt h h2) h1
  ·exact h2
 ·intro h1 h2;have:(1:Int)<=f / 2 ^ n:=(Int.le_ediv_iff_mul_le hp).2 (by omega);omega
theorem Hy(n set:Int) (w:World) :
  Calls Tryz.prog 209 #[.int .i64 n,.int .i64 set] w fun e w'=>e=.returned (.int .i64 (ky n set))/\w=w':=by
 by_cases hn:n<1\/5<n
 ·have hp:iW n=1:=by unfold iW;rw[if_pos hn]
  have HP:am (ky n set=1):=by(have h:ky n set=1:=by(unfold ky;rw[hp];rfl));exact h
  have HC:=aa (Dk n);rw[hp]at HC;clear hp
  go_enter Tryz.func209,Tryz.ntmps209
  go_wp2_with (go_at_call 215;refine(HC.o _).mono ?_;rintro e w' ⟨rfl,rfl⟩)
  go_ret
  exact⟨aG HP.o.symm,rfl⟩
 ·have hp:iW n=0:=by unfold iW;rw[if_neg hn]
  obtain⟨m,rfl⟩:∃ m:Nat,n=m:=⟨n.toNat,by omega⟩
  have HP:am (ky m set=if set<0\/2 ^ m<=set then 2 else 0):=by
   have h:ky m set=if set<0\/2 ^ m<=set then 2 else 0:=by
    unfold ky;rw[hp,Int.toNat_natCast,if_neg (by simp)];by_cases h0:set<0
    ·simp[h0]
    ·have:=Ws set m (by omega);simp only[this]
   exact h
  have HC:=aa (Dk m);rw[hp]at HC;have mi:=aa (fun w=>sg m (by omega) w);generalize (2:Int) ^ m=x at HP mi;clear hp hn
  go_enter Tryz.func209,Tryz.ntmps209
  go_wp2_with (first|(go_at_call 215;refine(HC.o _).mono ?_;rintro e w' ⟨rfl,rfl⟩)|(go_at_call 88;refine(mi.o _).mono ?_;rintro e w' ⟨rfl,rfl⟩))
  all_goals
   go_ret
   refine⟨aG ?_,rfl⟩;rw[HP.o]
   go_light
   grind
theorem Le(a b:Int) (h1:0<=a/\a<=9223372036854775807) (h2:0<=b/\b<=9223372036854775807) (w:World) :
  Calls Tryz.prog 188 #[.int .i64 a,.int .i64 b] w fun e w'=>e=.returned (.bool (iV a b))/\w=w':=by
 have HV:am (iV a b=!anyLt 5 fun p=>hasB a p&&!hasB b p):=by exact rfl
 go_enter Tryz.func188,Tryz.ntmps188
 go_wp2
 go_loop [5] (fun i=>∃ k:Nat,k<=5/\i=.int .i64 k/\∀ j,j<k->(hasB a j&&!hasB b j)=false) (fun i=>5 - (intOf i).toNat)
 ·exact⟨0,by omega,rfl,by simp⟩
 ·
  obtain⟨k,hk,rfl,aW⟩:=hrel;have H:=aa aW;clear aW;by_cases aB:k<5
  ·have C1:=aa (fun w=>jM a k (by omega) h1.1 h1.2 w);have C2:=aa (fun w=>jM b k (by omega) h2.1 h2.2 w);cases hx:hasB a k with
   | false=>
    rw[hx]at C1;have HX:=aa hx;clear hx
    go_wp2_with (go_at_call 47;refine(C1.o _).mono ?_;rintro e w' ⟨rfl,rfl⟩)
    go_round
    ·exact⟨k+1,by omega,by go_num,aV H.o (by rw[HX.o];rfl)⟩
    ·simp[intOf];omega
   | true=>
    rw[hx]at C1;have HX:=aa hx;clear hx;cases hy:hasB b k with
    | false=>
     rw[hy]at C2;have HY:=aa hy;clear hy
     go_wp2_with fail
     refine(C1.o _).mono ?_;rintro e w' ⟨rfl,rfl⟩
     go_wp2_with fail
     refine(C2.o _).mono ?_;rintro e w' ⟨rfl,rfl⟩
     go_wp2_with fail
     go_ret
     exact⟨aR (by rw[HV.o,dW 5 k _ aB (by rw[HX.o,HY.o];rfl)];rfl),rfl⟩
    | true=>
     rw[hy]at C2;have HY:=aa hy;clear hy
     go_wp2_with fail
     refine(C1.o _).mono ?_;rintro e w' ⟨rfl,rfl⟩
     go_wp2_with fail
     refine(C2.o _).mono ?_;rintro e w' ⟨rfl,rfl⟩
     go_wp2_with fail
     go_round
     ·exact⟨k+1,by omega,by go_num,aV H.o (by rw[HX.o,HY.o];rfl)⟩
     ·simp[intOf];omega
  ·go_wp2
   go_ret
   exact⟨aR (by rw[HV.o,eW];rfl;intro j hj;exact H.o j (by omega)),rfl⟩
structure KeyKit {K:Type} [DecidableEq K] (P:Program) (kt:TypeId) (enc:K->Value):Prop where
 eq:∀ a b w,(Op.equal kt (enc a) (enc b)).run P w=.ok (decide (a=b)) w
 check:∀ em a w,(Instr.checkKey em 10000 kt (enc a)).run P w=.ok () w
 und:∃ fs,P.underlying kt=some (.struct fs)
def mG{K:Type} (enc:K->Value) (w:World) (b:Nat) (f:List (K × Value)):Prop:=
 ∃ es clock,w.heap[b]?=some (.map es clock)/\es.toList.map (fun e=>(e.key,e.val))=f.map (fun p=>(enc p.1,p.2))
def lK{K:Type} [DecidableEq K] (f:List (K × Value)) (r:K):Option Value:=(f.find? fun p=>decide (r=p.1)).map (·.2)
theorem mG.up{K:Type} {enc:K->Value} {A A':World} {b:Nat} {f:List (K × Value)} (h:mG enc A b f) (hb:Below A.heap.size A A'):mG enc A' b f:=by
 obtain⟨es,clock,h1,hf⟩:=h;exact⟨es,clock,af hb h1,hf⟩
theorem Bt{K:Type} [DecidableEq K] {P:Program} {kt:TypeId} {enc:K->Value} (kit:KeyKit P kt enc) (r:K) (w:World):∀ (f:List (K × Value)) (es:List MapEntry) (i:Nat),es.map (fun e=>(e.key,e.val))=f.map (fun p=>(enc p.1,p.2)) →
  (lK f r=none->(Instr.findAsking kt (enc r) es i).run P w=.ok none w)/\(∀ x,lK f r=some x->∃ j,(Instr.findAsking kt (enc r) es i).run P w=.ok (some (j,x)) w)
 | [],es,i,h=>by
  obtain rfl:es=[]:=by simpa using h
  exact⟨fun _=>rfl,fun x hx=>by simp[lK]at hx⟩
 | p :: f,es,i,h=>by
  cases es with
  | nil=>simp at h
  | cons e es=>
   simp only[List.map_cons,List.cons.injEq,Prod.mk.injEq]at h;obtain⟨⟨hk,hv⟩,h⟩:=h;have ih:=Bt kit r w f es (i+1) h;unfold Instr.findAsking;by_cases hr:r=p.1
   ·subst hr;refine⟨fun hn=>by simp[lK]at hn,fun x hx=>?_⟩;have hx':p.2=x:=by simpa[lK] using hx
    refine⟨i,?_⟩;simp[Sem.run_bind,hk,kit.eq,hv,hx']
   ·have e1:lK (p :: f) r=lK f r:=by simp[lK,hr]
    rw[e1];refine⟨fun hn=>?_,fun x hx=>?_⟩
    ·simp[Sem.run_bind,hk,kit.eq,hr,ih.1 hn]
    ·obtain⟨j,hj⟩:=ih.2 x hx;exact⟨j,by simp[Sem.run_bind,hk,kit.eq,hr,hj]⟩
theorem IZ{K:Type} [DecidableEq K] {P:Program} {kt:TypeId} {enc:K->Value} (kit:KeyKit P kt enc) (r:K) (w:World) (f:List (K × Value)) (es:List MapEntry) (h:es.map (fun e=>(e.key,e.val))=f.map (fun p=>(enc p.1,p.2))) :
  (lK f r=none->(Instr.findKey kt (enc r) es).run P w=.ok none w)/\(∀ x,lK f r=some x->∃ j,(Instr.findKey kt (enc r) es).run P w=.ok (some (j,x)) w):=by
 have hA:=Bt kit r w f es 0 h;obtain⟨fs,hu⟩:=kit.und;unfold Instr.findKey;cases es with
 | nil=>
  obtain rfl:f=[]:=by simpa using h.symm
  refine⟨fun _=>?_,fun x hx=>by simp[lK]at hx⟩;simp[run_underlying hu,Instr.findNow]
 | cons e es=>
  have hn:Instr.findNow (.struct fs) (enc r) (e :: es) 0=none:=by simp[Instr.findNow,Instr.sameNow]
  simp only[Sem.run_bind,run_underlying hu,Result.andThen_ok,hn];exact hA
theorem I0{K:Type} [DecidableEq K] {P:Program} {kt mt vt:TypeId} {z:Value} {enc:K->Value} (kit:KeyKit P kt enc) (hm:P.underlying mt=some (.map kt vt)) (hz:∀ w,(zeroValue vt).run P w=.ok z w) {w:World} {b:Nat} {f:List (K × Value)} (h:mG enc w b f) (r:K) :
  (Instr.lookup mt (.map (some b)) (enc r) true).run P w=.ok (.tuple #[(lK f r).getD z,.bool (lK f r).isSome]) w:=by
 obtain⟨es,clock,hb,jd⟩:=h;have hF:=IZ kit r w f es.toList jd;have hg:(getObj b).run P w=.ok (.map es clock) w:=by simp[getObj,Sem.run,hb]
 unfold Instr.lookup;cases hn:lK f r with
 | none=>simp[Sem.run_bind,run_underlying hm,hg,kit.check,hF.1 hn,hz]
 | some x=>
  obtain⟨j,hj⟩:=hF.2 x hn;simp[run_underlying hm,hg,kit.check,hj]
theorem Wt{K:Type} [DecidableEq K] {P:Program} {kt mt vt:TypeId} {enc:K->Value} (kit:KeyKit P kt enc) (hm:P.underlying mt=some (.map kt vt)) {w:World} {b:Nat} {f:List (K × Value)} (h:mG enc w b f) (r:K) (x:Value) (hn:lK f r=none) :
  ∃ o,(Instr.mapUpdate mt (.map (some b)) (enc r) x).run P w=.ok () (w.putObj b o)/\mG enc (w.putObj b o) b (f++[(r,x)]):=by
 obtain⟨es,clock,hb,jd⟩:=h;have hF:=IZ kit r w f es.toList jd;have hg:(getObj b).run P w=.ok (.map es clock) w:=by simp[getObj,Sem.run,hb]
 have hs:∀ o,(setObj b o).run P w=.ok () (w.putObj b o):=fun o=>by simp[setObj,Sem.run,hb,World.putObj]
 refine⟨_,?_,es.push { key:=enc r,val:=x,born:=clock },clock+1,World.putObj_heap_same (aC hb),?_⟩
 ·unfold Instr.mapUpdate;simp[run_underlying hm,hg,kit.check,hF.1 hn,hs]
 ·simp[jd]
def vK(tb:List Vw):List (Vw × Value):=tb.zipIdx.map fun x=>(x.1,Value.int .i64 (x.2:Nat))
theorem PM(tb:List Vw) (v:Vw):vK (tb++[v])=vK tb++[(v,.int .i64 (tb.length:Nat))]:=by
 unfold vK;rw[List.zipIdx_append];simp
theorem SE(v:Vw) (tb:List Vw):∀ k:Nat,(((tb.zipIdx k).map fun x=>(x.1,Value.int .i64 ((x.2:Nat):Int))).find? fun p=>decide (v=p.1))=if v∈tb then some (v,.int .i64 ((k+tb.idxOf v:Nat):Int)) else none:=by
 induction tb with
 | nil=>intro k;simp
 | cons a r ih=>
  intro k;rw[List.zipIdx_cons,List.map_cons,List.find?_cons];by_cases h:v=a
  ·subst h;simp
  ·have h2:decide (v=(a,Value.int .i64 ((k:Nat):Int)).1)=false:=by simpa using h
   rw[h2];have h3:=ih (k+1);simp only at h3 ⊢;rw[h3];have h4:(a == v)=false:=by simpa using fun e=>h e.symm
   by_cases hm:v∈r
   ·rw[if_pos hm,if_pos (by simp[hm]),List.idxOf_cons,h4];simp only[cond_false];rw[show k+1+List.idxOf v r=k+(List.idxOf v r+1) by omega]
   ·rw[if_neg hm,if_neg (by simp[hm,h])]
theorem SF(tb:List Vw) (v:Vw):lK (vK tb) v=if v∈tb then some (.int .i64 (tb.idxOf v:Nat)) else none:=by
 unfold lK vK;have h:=SE v tb 0;simp only[Nat.zero_add]at h;rw[h];split<;>rfl
theorem l7(va vb:Value) (a b:List Int) (w:World) (ha:aT w va a) (hb:aT w vb b) :
  Calls Tryz.prog 132 #[va,vb] w fun e w'=>e=.returned (.int .i64 (ordV a b))/\Below w.heap.size w w':=by
 obtain⟨pa,ca,rfl,la1,la2,ea⟩:=ha.at;obtain⟨pb,cb,rfl,lb1,lb2,eb⟩:=hb.at;clear ha hb;have EA:=aa ea;clear ea;have EB:=aa eb;clear eb
 go_enter Tryz.func132,Tryz.ntmps132
 go_wp2
 go_loopw [5] (fun i wr=>Below w.heap.size w wr/\∃ k:Nat,k<=a.length/\k<=b.length/\i=.int .i64 k/\ordV a b=ordV (a.drop k) (b.drop k)) (fun i _=>a.length - (intOf i).toNat)
 ·exact⟨Below.refl _ _,0,by omega,by omega,rfl,by simp⟩
 ·
  obtain⟨az,k,hk,og,rfl,aW⟩:=hrel;have H:=aa aW;clear aW;by_cases aB:k<a.length
  ·by_cases je:k<b.length
   ·obtain⟨b1,o1,rfl,h1⟩:=EA.o k aB;obtain⟨x,hx⟩:∃ x,x=a[k]:=⟨_,rfl⟩;rw[<-hx,Nat.mul_one]at h1;obtain⟨b2,o2,rfl,h2⟩:=EB.o k je;obtain⟨y,hy⟩:∃ y,y=b[k]:=⟨_,rfl⟩;rw[<-hy,Nat.mul_one]at h2;have c1:∀ n,(wr.drewN n).cell? ⟨b1,o1+k,none⟩=some (.int .i64 x):=fun n=>ak az h1.1
    have c2:∀ n,(wr.drewN n).cell? ⟨b2,o2+k,none⟩=some (.int .i64 y):=fun n=>ak az h2.1
    have HS:=Gc aB je H.o;rw[<-hx,<-hy]at HS;have Mc:=aa HS;clear HS hx hy h1 h2;rcases Int.lt_trichotomy x y with hn|hn|hn
    ·go_wp2
     go_quiet (fail)
     go_wp2
     go_ret
     refine⟨aG ?_,eL az _⟩;rw[Mc.o];unfold cmpI;grind
    ·have h1:¬ x<y:=by omega
     have h2:¬ y<x:=by omega
     have HN:=aa hn;clear hn
     go_wp2
     go_quiet (fail)
     go_wp2
     have c3:∀ m n,((wr.drewN m).drewN n).cell? ⟨b1,o1+k,none⟩=some (.int .i64 x):=fun m n=>c1 m
     have c4:∀ m n,((wr.drewN m).drewN n).cell? ⟨b2,o2+k,none⟩=some (.int .i64 y):=fun m n=>c2 m
     go_quiet (fail)
     go_wp2
     go_roundw
     ·
      refine⟨eL az _,k+1,by omega,by omega,by go_num,?_⟩;rw[Mc.o,if_pos];rw[HN.o,cmpI];simp
     ·simp[intOf];omega
    ·have h1:¬ x<y:=by omega
     go_wp2
     go_quiet (fail)
     go_wp2
     have c3:∀ m n,((wr.drewN m).drewN n).cell? ⟨b1,o1+k,none⟩=some (.int .i64 x):=fun m n=>c1 m
     have c4:∀ m n,((wr.drewN m).drewN n).cell? ⟨b2,o2+k,none⟩=some (.int .i64 y):=fun m n=>c2 m
     go_quiet (fail)
     go_wp2
     go_ret
     refine⟨aG ?_,eL (eL az _) _⟩;rw[Mc.o];unfold cmpI;grind
   ·have HR:am (ordV a b=1):=by
     have h:ordV a b=1:=by rw[H.o,tI aB,List.drop_of_length_le (l:=b) (by omega)];rfl
     exact h
    have h3:¬ a.length<b.length:=by omega
    have h4:b.length<a.length:=by omega
    go_wp2
    go_ret
    exact⟨aG HR.o.symm,az⟩
  ·have HR:am (ordV a b=if a.length<b.length then -1 else 0):=by
    have h:ordV a b=if a.length<b.length then -1 else 0:=by
     rw[H.o,List.drop_of_length_le (by omega),yg,List.length_drop]
     grind
    exact h
   have h3:¬ b.length<a.length:=by omega
   by_cases h4:a.length<b.length
   ·go_wp2
    go_ret
    refine⟨aG ?_,az⟩;rw[HR.o,if_pos h4]
   ·go_wp2
    go_ret
    refine⟨aG ?_,az⟩;rw[HR.o,if_neg (by omega)]
theorem I4(a b:List Int):(ordV a b == 0)=eqV a b:=by
 unfold eqV;by_cases h:a=b
 ·subst h;simp[tJ]
 ·simp[h];intro h1;exact h (O4 h1)
theorem Ge(vl vv:Value) (l:List (List Int)) (v:List Int) (w:World) (hl:eD w vl l) (hv:aT w vv v) :
  Calls Tryz.prog 81 #[vl,vv] w fun e w'=>e=.returned (.bool (hasV l v))/\Below w.heap.size w w':=by
 obtain⟨pa,ca,rfl,la1,la2,ea⟩:=hl.at;have HV:=aa hv;obtain⟨pv,cv,rfl,_⟩:=hv;clear hl;have EA:=aa ea;clear ea;have HD:am (hasV l v=anyLt l.length fun i=>eqV (l.getD i []) v):=by exact rfl
 go_enter Tryz.func81,Tryz.ntmps81
 go_wp2
 go_loopw [5] (fun i wr=>Below w.heap.size w wr/\∃ k:Nat,k<=l.length/\i=.int .i64 k/\∀ j,j<k->eqV (l.getD j []) v=false) (fun i _=>l.length - (intOf i).toNat)
 ·exact⟨Below.refl _ _,0,by omega,rfl,by simp⟩
 ·
  obtain⟨az,k,hk,rfl,aW⟩:=hrel;have H:=aa aW;clear aW;by_cases aB:k<l.length
  ·obtain⟨b1,o1,rfl,x,cx,hx⟩:=EA.o k aB;rw[Nat.mul_one]at cx;have c1:=ak az cx;have HX:=aa (hx.up up_int az);obtain⟨px,qx,rfl,_⟩:=hx;have he:=I4 l[k] v;rw[show eqV l[k] v=eqV (l.getD k []) v by rw[aA [] aB]]at he;have HC:=aa (l7 _ _ l[k] v wr HX.o (HV.o.up up_int az));clear cx;generalize ordV l[k] v=r at he HC;cases hp:eqV (l.getD k []) v with
   | true=>
    rw[hp]at he;have HP:=aa hp;clear hp
    go_wp2_with fail
    refine HC.o.mono ?_;rintro e w1 ⟨rfl,aJ⟩
    go_wp2_with fail
    go_ret
    exact⟨aR (by rw[HD.o,dW _ k _ aB HP.o]),ae az aJ⟩
   | false=>
    rw[hp]at he;have HP:=aa hp;clear hp
    go_wp2_with fail
    refine HC.o.mono ?_;rintro e w1 ⟨rfl,aJ⟩
    go_wp2_with fail
    go_roundw
    ·exact⟨ae az aJ,k+1,by omega,by go_num,aV H.o HP.o⟩
    ·simp[intOf];omega
  ·go_wp2
   go_ret
   exact⟨aR (by rw[HD.o,eW];intro j hj;exact H.o j (by omega)),az⟩
theorem Bu(v:Value) (l:List Int) (n most:Int) (w:World) (hv:aT w v l) :
  Calls Tryz.prog 185 #[v,.int .i64 n,.int .i64 most] w fun e w'=>e=.returned (.int .i64 (vectorE l n most))/\w=w':=by
 obtain⟨pa,ca,rfl,la1,la2,ea⟩:=hv.at;clear hv;have EA:=aa ea;clear ea;by_cases hl:(l.length:Int)=n
 ·have HV:am (vectorE l n most=if anyLt l.length (fun i=>decide (l.getD i 0<0) || decide (most<=l.getD i 0)) then 2 else 0):=by
   have h:vectorE l n most=if anyLt l.length (fun i=>decide (l.getD i 0<0) || decide (most<=l.getD i 0)) then 2 else 0:=by unfold vectorE;rw[if_neg (by simpa using hl)]
   exact h
  subst hl
  go_enter Tryz.func185,Tryz.ntmps185
  go_wp2
  go_loop [7] (fun i=>∃ k:Nat,k<=l.length/\i=.int .i64 k/\∀ j,j<k->(decide (l.getD j 0<0) || decide (most<=l.getD j 0))=false) (fun i=>l.length - (intOf i).toNat)
  ·exact⟨0,by omega,rfl,by simp⟩
  ·
   obtain⟨k,hk,rfl,aW⟩:=hrel;have H:=aa aW;clear aW;by_cases aB:k<l.length
   ·obtain⟨b1,o1,rfl,h1⟩:=EA.o k aB;have HX:=aa (aA 0 aB);rw[Nat.mul_one]at h1;have c1:=h1.1;generalize l[k]=x at c1 HX;clear h1
    go_wp2
    all_goals first
     | (go_ret
        refine⟨aG ?_,rfl⟩
        rw[HV.o,dW _ k _ aB (by rw[HX.o];go_light;simp;omega)]
        rfl)
     | (go_round
        ·
         refine⟨k+1,by omega,by go_num,aV H.o ?_⟩
         rw[HX.o]
         go_light
         simp;omega
        ·simp[intOf];omega)
   ·go_wp2
    go_ret
    exact⟨aG (by rw[HV.o,eW];rfl;intro j hj;exact H.o j (by omega)),rfl⟩
 ·have HV:am (vectorE l n most=15):=by(have h:vectorE l n most=15:=by(unfold vectorE;rw[if_pos hl]));exact h
  have iD:((l.length:Int) != n)=true:=by simpa using hl
  clear hl
  go_enter Tryz.func185,Tryz.ntmps185
  go_wp2
  go_ret
  exact⟨aG HV.o.symm,rfl⟩
theorem I5{t:Tk} {c:Cs} (h:c.out.length<1\/1024<c.out.length):vectorsE t c=5:=by unfold vectorsE;rw[if_pos h]
theorem zz{t:Tk} {c:Cs} (h:¬ (c.out.length<1\/1024<c.out.length)) (k:Nat) (e:Int) (hk:k<c.out.length) (hj:∀ j,j<k->jq t c j=0) (he:jq t c k=e) (h0:e≠0):e=vectorsE t c:=by
 unfold vectorsE;rw[if_neg h,<-bV k e hk hj he h0,if_pos h0]
theorem Hz{t:Tk} {c:Cs} (h:¬ (c.out.length<1\/1024<c.out.length)) (ho:∀ j,j<c.out.length->jq t c j=0):vectorsE t c=bg c.calm.length (jf c):=by
 unfold vectorsE;rw[if_neg h,cV _ _ ho];simp
theorem PN{t:Tk} {c:Cs} {j:Nat} (hj:j+1<c.out.length) (h1:vectorE c.out[j+1] t.n t.outs=0):jq t c (j+1)=if 0<=ordV (c.out[j]'(by omega)) c.out[j+1] then 14 else 0:=by
 unfold jq unordB;rw[aA [] hj,h1,Nat.add_sub_cancel,aA [] (show j<c.out.length by omega)];simp
theorem PO{t:Tk} {c:Cs} (hj:0<c.out.length) (h1:vectorE c.out[0] t.n t.outs=0):jq t c 0=0:=by
 unfold jq unordB;rw[aA [] hj,h1];simp
theorem Nh{c:Cs} {j:Nat} (hj:j+1<c.calm.length) (h1:hasV c.out c.calm[j+1]=true):jf c (j+1)=if 0<=ordV (c.calm[j]'(by omega)) c.calm[j+1] then 14 else 0:=by
 unfold jf unordB;rw[aA [] hj,h1,Nat.add_sub_cancel,aA [] (show j<c.calm.length by omega)];simp
theorem Ni{c:Cs} (hj:0<c.calm.length) (h1:hasV c.out c.calm[0]=true):jf c 0=0:=by
 unfold jf unordB;rw[aA [] hj,h1];simp
theorem SG{c:Cs} {k:Nat} (hk:k<c.calm.length) (h1:hasV c.out c.calm[k]=false):jf c k=6:=by
 unfold jf;rw[aA [] hk,h1];simp
theorem SH(t:Tk) (vc:Value) (k:Nat) (aB:k<t.cases.length) (w:World) (hv:bS w vc t.cases) :
  Calls Tryz.prog 154 #[.agg #[.int .i64 t.n,.int .i64 t.ins,.int .i64 t.outs,vc],.int .i64 k] w fun e w'=>e=.returned (.int .i64 (eZ t k))/\Below w.heap.size w w':=by
 obtain⟨pc,cc,rfl,l1,m1,e1⟩:=hv.at;clear hv;have E:=aa e1;clear e1;obtain⟨b1,o1,rfl,⟨x0,cx0,dj⟩,⟨x1,cx1,dL⟩,⟨x2,cx2,eA⟩⟩:=E.o k aB;have Az:=aa dj;have kW:=aa dL;have fG:=aa eA;obtain⟨p1,q1,rfl,u1,v1,E1⟩:=dL.at;obtain⟨p2,q2,rfl,u2,v2,E2⟩:=eA.at;obtain⟨p0,q0,rfl,_⟩:=dj;have rH:=aa E1;have nU:=aa E2;clear dL eA E1 E2
 have HO:am (eZ t k=if vectorE t.cases[k].inp t.n t.ins≠0 then vectorE t.cases[k].inp t.n t.ins else if 0<k/\0<=ordV (t.cases.getD (k - 1) default).inp t.cases[k].inp then 14 else vectorsE t t.cases[k]):=by
  have h:eZ t k=if vectorE t.cases[k].inp t.n t.ins≠0 then vectorE t.cases[k].inp t.n t.ins else if 0<k/\0<=ordV (t.cases.getD (k - 1) default).inp t.cases[k].inp then 14 else vectorsE t t.cases[k]:=by unfold eZ;rw[aA default aB]
  exact h
 have X9:b1<w.heap.size:=fo cx0;have hlb':b1<w.heap.size+1:=by omega
 go_enter Tryz.func154,Tryz.ntmps154
 go_wp2_with fail
 refine aN (fun V=>Below w.heap.size w V/\V.heap[w.heap.size]?=some (.cells #[.int .i64 t.n,.int .i64 t.ins,.int .i64 t.outs,.slice (some ⟨b1,o1,none⟩) t.cases.length cc] 24)/\V.heap[w.heap.size+1]?=some (.cells #[.slice p0 t.cases[k].inp.length q0,.slice p1 t.cases[k].out.length q1,.slice p2 t.cases[k].calm.length q2] 135)) ⟨by go_grown,ar _ (aq _ _),by simpa using aq (w.alloc _) _⟩ (fun V hV=>?_);obtain⟨lB,hT,hC⟩:=hV;have HT:=aa hT;have HC:=aa hC;have t1:=ab hT;have t2:=ab hC;clear hT hC cx1 cx2;refine(Bu _ _ _ _ _ (Az.o.up up_int lB)).mono ?_;rintro e V' ⟨rfl,rfl⟩;generalize vectorE t.cases[k].inp t.n t.ins=ev at HO;by_cases mQ:ev=0
 case neg=>
  have hev':(ev != 0)=true:=by simpa using mQ
  go_wp2_with fail
  go_ret
  exact⟨aG (by rw[HO.o,if_pos mQ]),lB⟩
 subst mQ
 go_wp2_with fail
 clear t1 t2;by_cases fg:k=0
 case' pos=>
  have dR:am (eZ t k=vectorsE t t.cases[k]):=by(have h:eZ t k=vectorsE t t.cases[k]:=by(rw[HO.o,if_neg (by simp),if_neg (by omega)]));exact h
  have hd:decide ((0:Int)<(k:Int))=false:=decide_eq_false (by omega);have gM:decide (0<k)=false:=decide_eq_false (by omega);clear HO fg cx0;refine aD (by kernel_rfl) (by kernel_rfl) ?_
  repeat (go_big_quiet_step (fail))
  refine wpQuiet_nil ?_;intro _ eJ;obtain⟨xq,dq⟩:=eJ;subst dq;clear hd gM
 case' neg=>
  obtain⟨j,hj⟩:∃ j,k=j+1:=⟨k - 1,by omega⟩;have fS:j<t.cases.length:=by omega
  have HJ:=aa hj;obtain⟨b2,o2,e2,⟨y0,cy0,jl⟩,_⟩:=E.o j fS;obtain⟨rfl,rfl⟩:b1=b2/\o1=o2:=by simpa using e2
  clear e2;have hd:decide ((0:Int)<(k:Int))=true:=decide_eq_true (by omega);have gM:0<k:=by omega
  have fM:am (eZ t k=if 0<=ordV t.cases[j].inp t.cases[k].inp then 14 else vectorsE t t.cases[k]):=by
   have h:eZ t k=if 0<=ordV t.cases[j].inp t.cases[k].inp then 14 else vectorsE t t.cases[k]:=by
    rw[HO.o,if_neg (by simp)];have e:k - 1=j:=by omega
    rw[e,aA default fS]
    grind
   exact h
  clear HO fg hj;have jc:IntKind.i64.wrap ((k:Int) - 1)=(j:Int):=by rw[HJ.o];rw[IntWalk.i64_in _ (by omega)];omega
  have r1:∀ x:ExtW V,∀ o,x.val.cell? ⟨w.heap.size,o,none⟩=_:=fun x=>ab (af x.ext HT.o)
  have r2:∀ x:ExtW V,∀ o,x.val.cell? ⟨w.heap.size+1,o,none⟩=_:=fun x=>ab (af x.ext HC.o)
  have r3:∀ x:ExtW V,x.val.cell? ⟨b1,o1+j * 3,none⟩=some y0:=fun x=>x.cell (ak lB cy0)
  have bW:=aa (fun x:ExtW V=>Calls.ext_of (l7 _ _ _ _ x.val (jl.up up_int (ae lB x.ext)) (Az.o.up up_int (ae lB x.ext))));clear jl cy0 cx0;generalize ordV t.cases[j].inp t.cases[k].inp=oo at bW fM;refine aD (by kernel_rfl) (by kernel_rfl) ?_
  repeat (go_big_quiet_step ((go_at_call 132;exact bW.o _)))
  refine wpQuiet_nil ?_;intro _ eJ;obtain⟨xq,dq⟩:=eJ;subst dq;clear r1 r2 r3 hd gM jc;by_cases rK:0<=oo
  ·go_wp2_with fail
   go_ret
   exact⟨aG (by rw[fM.o,if_pos rK]),ae lB xq.ext⟩
  have dR:am (eZ t k=vectorsE t t.cases[k]):=by(have h:eZ t k=vectorsE t t.cases[k]:=by(rw[fM.o,if_neg rK]));exact h
  clear fM HJ bW
 all_goals
  have Hf:=ae lB xq.ext;have dE:=Hf;have He:=af xq.ext HT.o;have V4:=af xq.ext HC.o;clear Hf HT HC;generalize xq.val=W5 at dE He V4 ⊢;clear xq lB;have HT:=aa He;have HC:=aa V4;have t1:=ab He;have t2:=ab V4;clear He V4;by_cases Ml:t.cases[k].out.length<1\/1024<t.cases[k].out.length
  ·have HR:=aa (I5 (t:=t) Ml);rcases Ml with Ml|Ml
   ·go_wp2_with fail
    go_ret
    exact⟨aG (by rw[dR.o,HR.o]),dE⟩
   ·have hou':¬ t.cases[k].out.length<1:=by omega
    go_wp2_with fail
    go_ret
    exact⟨aG (by rw[dR.o,HR.o]),dE⟩
  have Zt:=aa Ml;have ho1:¬ t.cases[k].out.length<1:=by omega
  have sQ:¬ 1024<t.cases[k].out.length:=by omega
  clear Ml
  go_wp2_with fail
  clear t1 t2 ho1 sQ
  go_loopw [7] (fun i wr=>Below W5.heap.size W5 wr/\∃ m:Nat,m<=t.cases[k].out.length/\i=.int .i64 m/\∀ j,j<m->jq t t.cases[k] j=0) (fun i _=>t.cases[k].out.length - (intOf i).toNat)
  ·exact⟨Below.refl _ _,0,by omega,rfl,by simp⟩
  ·
   obtain⟨C8,m,hm,rfl,aW⟩:=hrel;have HM:=aa aW;clear aW;have az:=ae dE C8;have t1:=ab (af C8 HT.o);have t2:=ab (af C8 HC.o);by_cases lS:m<t.cases[k].out.length
   ·obtain⟨b3,o3,rfl,y,cy,hy⟩:=rH.o m lS;rw[Nat.mul_one]at cy;have HY:=aa hy
    go_wp2_with fail
    clear t1 t2;have r1:∀ x:ExtW wr,∀ o,x.val.cell? ⟨w.heap.size,o,none⟩=_:=fun x=>ab (af (ae C8 x.ext) HT.o)
    have r2:∀ x:ExtW wr,∀ o,x.val.cell? ⟨w.heap.size+1,o,none⟩=_:=fun x=>ab (af (ae C8 x.ext) HC.o)
    have r3:∀ x:ExtW wr,x.val.cell? ⟨b3,o3+m,none⟩=some y:=fun x=>x.cell (ak az cy)
    have bW:=aa (fun x:ExtW wr=>Calls.ext_of ((Bu _ _ t.n t.outs x.val (HY.o.up up_int (ae az x.ext))).mono (fun _ _ ⟨h1,h2⟩=>⟨h1,h2 ▸ Below.refl _ _⟩)));have HZ:=aa (fun (h:vectorE t.cases[k].out[m] t.n t.outs≠0)=>show jq t t.cases[k] m=vectorE t.cases[k].out[m] t.n t.outs by unfold jq;rw[aA [] lS,if_pos h]);generalize pT:vectorE t.cases[k].out[m] t.n t.outs=em at bW HZ;have wK:=aa pT;clear pT hy;have cyy:=cy;clear cy;refine aD (by kernel_rfl) (by kernel_rfl) ?_
    repeat (go_big_quiet_step ((go_at_call 185;exact bW.o _)))
    refine wpQuiet_nil ?_;intro _ eJ;obtain⟨xs,dq⟩:=eJ;subst dq;clear r1 r2 r3 bW;have Ot:=ae C8 xs.ext;have FX:=ae az xs.ext;by_cases pW:em=0
    case neg=>
     have hem':(em != 0)=true:=by simpa using pW
     go_wp2_with fail
     go_ret
     exact⟨aG (by rw[dR.o];exact zz Zt.o m em lS HM.o (HZ.o pW) pW),FX⟩
    subst pW
    go_wp2_with fail
    by_cases wS:m=0
    ·subst wS;have Av:=aa (PO lS wK.o);refine aD (by kernel_rfl) (by kernel_rfl) ?_
     repeat (go_big_quiet_step (fail))
     refine wpQuiet_nil ?_;intro _ eJ;obtain⟨xt,dq⟩:=eJ;subst dq
     go_wp2_with fail
     go_roundw
     ·exact⟨ae Ot xt.ext,1,by omega,by go_num,aV HM.o Av.o⟩
     ·simp[intOf];omega
    ·obtain⟨j,rfl⟩:∃ j,m=j+1:=⟨m - 1,by omega⟩;have Av:=aa (PN lS wK.o);obtain⟨b4,o4,e4,z,cz,hz⟩:=rH.o j (by omega);obtain⟨rfl,rfl⟩:b3=b4/\o3=o4:=by simpa using e4
     rw[Nat.mul_one]at cz;have r1:∀ x:ExtW xs.val,∀ o,x.val.cell? ⟨w.heap.size,o,none⟩=_:=fun x=>ab (af (ae Ot x.ext) HT.o)
     have r2:∀ x:ExtW xs.val,∀ o,x.val.cell? ⟨w.heap.size+1,o,none⟩=_:=fun x=>ab (af (ae Ot x.ext) HC.o)
     have r3:∀ x:ExtW xs.val,x.val.cell? ⟨b3,o3+(j+1),none⟩=some y:=fun x=>x.cell (ak FX cyy)
     have r4:∀ x:ExtW xs.val,x.val.cell? ⟨b3,o3+j,none⟩=some z:=fun x=>x.cell (ak FX cz)
     have bW:=aa (fun x:ExtW xs.val=>Calls.ext_of (l7 _ _ _ _ x.val (hz.up up_int (ae FX x.ext)) (HY.o.up up_int (ae FX x.ext))));have V1:IntKind.i64.wrap (j:Int)=(j:Int):=IntWalk.i64_in _ (by omega);have oO:decide ((0:Int)<(j:Int)+1)=true:=decide_eq_true (by omega);have yW:(0:Int)<=(j:Int)+1:=by omega
     have Hh:(j:Int)+1<(t.cases[k].out.length:Int):=by omega
     have Ce:((j:Int)+1).toNat=j+1:=by omega
     generalize ordV t.cases[k].out[j] t.cases[k].out[j+1]=oo at bW Av;clear e4 hz cz cyy wS;refine aD (by kernel_rfl) (by kernel_rfl) ?_
     repeat (go_big_quiet_step ((go_at_call 132;exact bW.o _)))
     refine wpQuiet_nil ?_;intro _ eJ;obtain⟨xt,dq⟩:=eJ;subst dq;clear r1 r2 r3 r4 V1 oO yW Hh Ce;by_cases rK:0<=oo
     ·go_wp2_with fail
      go_ret
      exact⟨aG (by rw[dR.o];exact zz Zt.o (j+1) 14 lS HM.o (by rw[Av.o,if_pos rK]) (by decide)),ae FX xt.ext⟩
     ·go_wp2_with fail
      go_roundw
      ·exact⟨ae Ot xt.ext,j+1+1,by omega,by go_num,aV HM.o (by rw[Av.o,if_neg (by omega)])⟩
      ·simp[intOf];omega
   ·have lh:=aa (dR.o.trans (Hz Zt.o (fun j hj=>HM.o j (by omega))))
    go_wp2_with fail
    clear t1 t2
    go_loopw [9] (fun i ws=>Below wr.heap.size wr ws/\∃ q:Nat,q<=t.cases[k].calm.length/\i=.int .i64 q/\∀ j,j<q->jf t.cases[k] j=0) (fun i _=>t.cases[k].calm.length - (intOf i).toNat)
    ·exact⟨Below.refl _ _,0,by omega,rfl,by simp⟩
    ·
     obtain⟨mw,q,hq,rfl,aW⟩:=hrel;have HQ:=aa aW;clear aW;have td:=ae C8 mw;have iy:=ae az mw
     rename World=>ws
     have t2:=ab (af td HC.o);by_cases oQ:q<t.cases[k].calm.length
     ·obtain⟨b6,o6,rfl,y,cy,hy⟩:=nU.o q oQ;rw[Nat.mul_one]at cy;have HY:=aa hy
      go_wp2_with fail
      clear t2;have r2:∀ x:ExtW ws,∀ o,x.val.cell? ⟨w.heap.size+1,o,none⟩=_:=fun x=>ab (af (ae td x.ext) HC.o)
      have r3:∀ x:ExtW ws,x.val.cell? ⟨b6,o6+q,none⟩=some y:=fun x=>x.cell (ak iy cy)
      have bW:=aa (fun x:ExtW ws=>Calls.ext_of (Ge _ _ t.cases[k].out _ x.val (kW.o.up up_ints (ae iy x.ext)) (HY.o.up up_int (ae iy x.ext))));cases pT:hasV t.cases[k].out t.cases[k].calm[q] with
      | false=>
       rw[pT]at bW;have HZ:=aa (SG oQ pT);clear pT hy cy;refine aD (by kernel_rfl) (by kernel_rfl) ?_
       repeat (go_big_quiet_step ((go_at_call 81;exact bW.o _)))
       refine wpQuiet_nil ?_;intro _ eJ;obtain⟨xu,dq⟩:=eJ;subst dq;clear r2 r3 bW
       go_wp2_with fail
       go_ret
       exact⟨aG (by rw[lh.o];exact bV q 6 oQ HQ.o HZ.o (by decide)),ae iy xu.ext⟩
      | true=>
       rw[pT]at bW;have wK:=aa pT;clear pT hy;have cyy:=cy;clear cy;refine aD (by kernel_rfl) (by kernel_rfl) ?_
       repeat (go_big_quiet_step ((go_at_call 81;exact bW.o _)))
       refine wpQuiet_nil ?_;intro _ eJ;obtain⟨xs,dq⟩:=eJ;subst dq;clear r2 r3 bW;have hbs6:=ae mw xs.ext;have hbs6':=ae td xs.ext;have Kd:=ae iy xs.ext
       go_wp2_with fail
       by_cases wS:q=0
       ·subst wS;have Av:=aa (Ni oQ wK.o);refine aD (by kernel_rfl) (by kernel_rfl) ?_
        repeat (go_big_quiet_step (fail))
        refine wpQuiet_nil ?_;intro _ eJ;obtain⟨xt,dq⟩:=eJ;subst dq
        go_wp2_with fail
        go_roundw
        ·exact⟨ae hbs6 xt.ext,1,by omega,by go_num,aV HQ.o Av.o⟩
        ·simp[intOf];omega
       ·obtain⟨j,rfl⟩:∃ j,q=j+1:=⟨q - 1,by omega⟩;have Av:=aa (Nh oQ wK.o);obtain⟨b4,o4,e4,z,cz,hz⟩:=nU.o j (by omega);obtain⟨rfl,rfl⟩:b6=b4/\o6=o4:=by simpa using e4
        rw[Nat.mul_one]at cz;have r2:∀ x:ExtW xs.val,∀ o,x.val.cell? ⟨w.heap.size+1,o,none⟩=_:=fun x=>ab (af (ae hbs6' x.ext) HC.o)
        have r3:∀ x:ExtW xs.val,x.val.cell? ⟨b6,o6+(j+1),none⟩=some y:=fun x=>x.cell (ak Kd cyy)
        have r4:∀ x:ExtW xs.val,x.val.cell? ⟨b6,o6+j,none⟩=some z:=fun x=>x.cell (ak Kd cz)
        have bW:=aa (fun x:ExtW xs.val=>Calls.ext_of (l7 _ _ _ _ x.val (hz.up up_int (ae Kd x.ext)) (HY.o.up up_int (ae Kd x.ext))));have V1:IntKind.i64.wrap (j:Int)=(j:Int):=IntWalk.i64_in _ (by omega);have oO:decide ((0:Int)<(j:Int)+1)=true:=decide_eq_true (by omega);have yW:(0:Int)<=(j:Int)+1:=by omega
        have Hh:(j:Int)+1<(t.cases[k].calm.length:Int):=by omega
        have Ce:((j:Int)+1).toNat=j+1:=by omega
        generalize ordV t.cases[k].calm[j] t.cases[k].calm[j+1]=oo at bW Av;clear e4 hz cz cyy wS;refine aD (by kernel_rfl) (by kernel_rfl) ?_
        repeat (go_big_quiet_step ((go_at_call 132;exact bW.o _)))
        refine wpQuiet_nil ?_;intro _ eJ;obtain⟨xt,dq⟩:=eJ;subst dq;clear r2 r3 r4 V1 oO yW Hh Ce;by_cases rK:0<=oo
        ·go_wp2_with fail
         go_ret
         exact⟨aG (by rw[lh.o];exact bV (j+1) 14 oQ HQ.o (by rw[Av.o,if_pos rK]) (by decide)),ae Kd xt.ext⟩
        ·go_wp2_with fail
         go_roundw
         ·exact⟨ae hbs6 xt.ext,j+1+1,by omega,by go_num,aV HQ.o (by rw[Av.o,if_neg (by omega)])⟩
         ·simp[intOf];omega
     ·go_wp2_with fail
      go_ret
      exact⟨aG (by rw[lh.o,cV];intro j hj;exact HQ.o j (by omega)),iy⟩
theorem Fe(t:Tk) (vc:Value) (w:World) (hv:bS w vc t.cases) :
  Calls Tryz.prog 114 #[.agg #[.int .i64 t.n,.int .i64 t.ins,.int .i64 t.outs,vc]] w fun e w'=>e=.returned (.int .i64 (taskE t))/\Below w.heap.size w w':=by
 have G:=aa hv;obtain⟨pc,cc,rfl,l1,m1,_⟩:=hv.at;clear hv;by_cases c0:t.n<1
 ·have HR:am (taskE t=2):=by(have h:taskE t=2:=by(unfold taskE;rw[if_pos (by omega)]));exact h
  go_enter Tryz.func114,Tryz.ntmps114
  go_wp2
  go_ret
  exact⟨aG HR.o.symm,by go_grown⟩
 by_cases c1:5<t.n
 ·have HR:am (taskE t=2):=by(have h:taskE t=2:=by(unfold taskE;rw[if_pos (by omega)]));exact h
  go_enter Tryz.func114,Tryz.ntmps114
  go_wp2
  go_ret
  exact⟨aG HR.o.symm,by go_grown⟩
 by_cases c2:t.ins<1
 ·have HR:am (taskE t=2):=by(have h:taskE t=2:=by(unfold taskE;rw[if_pos (by omega)]));exact h
  go_enter Tryz.func114,Tryz.ntmps114
  go_wp2
  go_ret
  exact⟨aG HR.o.symm,by go_grown⟩
 by_cases c3:8<t.ins
 ·have HR:am (taskE t=2):=by(have h:taskE t=2:=by(unfold taskE;rw[if_pos (by omega)]));exact h
  go_enter Tryz.func114,Tryz.ntmps114
  go_wp2
  go_ret
  exact⟨aG HR.o.symm,by go_grown⟩
 by_cases c4:t.outs<1
 ·have HR:am (taskE t=2):=by(have h:taskE t=2:=by(unfold taskE;rw[if_pos (by omega)]));exact h
  go_enter Tryz.func114,Tryz.ntmps114
  go_wp2
  go_ret
  exact⟨aG HR.o.symm,by go_grown⟩
 by_cases c5:8<t.outs
 ·have HR:am (taskE t=2):=by(have h:taskE t=2:=by(unfold taskE;rw[if_pos (by omega)]));exact h
  go_enter Tryz.func114,Tryz.ntmps114
  go_wp2
  go_ret
  exact⟨aG HR.o.symm,by go_grown⟩
 by_cases d0:t.cases.length<1
 ·have HR:am (taskE t=5):=by(have h:taskE t=5:=by(unfold taskE;rw[if_neg (by omega),if_pos (by omega)]));exact h
  go_enter Tryz.func114,Tryz.ntmps114
  go_wp2
  go_ret
  exact⟨aG HR.o.symm,by go_grown⟩
 by_cases d1:1024<t.cases.length
 ·have HR:am (taskE t=5):=by(have h:taskE t=5:=by(unfold taskE;rw[if_neg (by omega),if_pos (by omega)]));exact h
  go_enter Tryz.func114,Tryz.ntmps114
  go_wp2
  go_ret
  exact⟨aG HR.o.symm,by go_grown⟩
 have HV:am (taskE t=bg t.cases.length (eZ t)):=by(have h:taskE t=bg t.cases.length (eZ t):=by(unfold taskE;rw[if_neg (by omega),if_neg (by omega)]));exact h
 go_enter Tryz.func114,Tryz.ntmps114
 go_wp2
 refine bu (fun W=>Below w.heap.size w W/\W.heap[w.heap.size]?=some (.cells #[.int .i64 t.n,.int .i64 t.ins,.int .i64 t.outs,.slice pc t.cases.length cc] 24)) ⟨by go_grown,aq _ _⟩ (fun W0 aZ=>?_);obtain⟨aI,bI⟩:=aZ;have HA:=aa bI;clear bI c0 c1 c2 c3 c4 c5 d0 d1
 go_loopw [3] (fun i wr=>Below W0.heap.size W0 wr/\∃ k:Nat,k<=t.cases.length/\i=.int .i64 k/\∀ j,j<k->eZ t j=0) (fun i _=>t.cases.length - (intOf i).toNat)
 ·exact⟨Below.refl _ _,0,by omega,rfl,by simp⟩
 ·
  obtain⟨jb,k,hk,rfl,aW⟩:=hrel;have H:=aa aW;clear aW;have az:=ae aI jb;have t1:=ab (af jb HA.o);by_cases aB:k<t.cases.length
  ·have HC:=aa (SH t _ k aB wr (G.o.up up_case az));generalize pT:eZ t k=ek at HC;have wK:=aa pT;clear pT;by_cases pC:ek=0
   ·subst pC
    go_wp2_with fail
    refine HC.o.mono ?_;rintro e w1 ⟨rfl,aJ⟩
    go_wp2_with fail
    go_roundw
    ·exact⟨ae jb aJ,k+1,by omega,by go_num,aV H.o wK.o⟩
    ·simp[intOf];omega
   ·have TV:(ek != 0)=true:=by simpa using pC
    go_wp2_with fail
    refine HC.o.mono ?_;rintro e w1 ⟨rfl,aJ⟩
    go_wp2_with fail
    go_ret
    exact⟨aG (by rw[HV.o];exact bV k ek aB H.o wK.o pC),ae az aJ⟩
  ·go_wp2
   go_ret
   exact⟨aG (by rw[HV.o,cV];intro j hj;exact H.o j (by omega)),az⟩
def fewVB(l:List (List Int)):Bool:=!decide (30<l.length)&&!anyLt l.length fun i=>decide (10<(l.getD i []).length)
theorem uk(v:Value) (l:List (List Int)) (w:World) (hv:eD w v l) :
  Calls Tryz.prog 112 #[v,.int .i64 30] w fun e w'=>e=.returned (.bool (fewVB l))/\w=w':=by
 obtain⟨pa,ca,rfl,la1,la2,ea⟩:=hv.at;clear hv;have EA:=aa ea;clear ea;by_cases hl:30<l.length
 ·have HV:am (fewVB l=false):=by(have h:fewVB l=false:=by(unfold fewVB;simp[hl]));exact h
  go_enter Tryz.func112,Tryz.ntmps112
  go_wp2
  go_ret
  exact⟨aR HV.o.symm,rfl⟩
 ·have HV:am (fewVB l=!anyLt l.length fun i=>decide (10<(l.getD i []).length)):=by(have h:fewVB l=!anyLt l.length fun i=>decide (10<(l.getD i []).length):=by(unfold fewVB;rw[decide_eq_false hl];rfl));exact h
  go_enter Tryz.func112,Tryz.ntmps112
  go_wp2
  go_loop [5] (fun i=>∃ k:Nat,k<=l.length/\i=.int .i64 k/\∀ j,j<k->decide (10<(l.getD j []).length)=false) (fun i=>l.length - (intOf i).toNat)
  ·exact⟨0,by omega,rfl,by simp⟩
  ·
   obtain⟨k,hk,rfl,aW⟩:=hrel;have H:=aa aW;clear aW;by_cases aB:k<l.length
   ·obtain⟨b1,o1,rfl,x,cx,hx⟩:=EA.o k aB;rw[Nat.mul_one]at cx;have HX:=aa (aA [] aB);obtain⟨px,qx,rfl,_,eA,_⟩:=hx;generalize l[k]=y at cx HX eA;by_cases B1:10<y.length
    ·go_wp2
     go_ret
     exact⟨aR (by rw[HV.o,dW _ k _ aB (by rw[HX.o];exact decide_eq_true B1)];rfl),rfl⟩
    ·go_wp2
     go_round
     ·exact⟨k+1,by omega,by go_num,aV H.o (by rw[HX.o];exact decide_eq_false (by omega))⟩
     ·simp[intOf];omega
   ·go_wp2
    go_ret
    exact⟨aR (by rw[HV.o,eW];rfl;intro j hj;exact H.o j (by omega)),rfl⟩
def I6(c:Cs):Bool:=decide (10<c.inp.length) || !fewVB c.out || !fewVB c.calm
def fewTB(t:Tk):Bool:=!decide (30<t.cases.length)&&!anyLt t.cases.length fun i=>I6 (t.cases.getD i default)
theorem I7(t:Tk) (vc:Value) (w:World) (hv:bS w vc t.cases) :
  Calls Tryz.prog 69 #[.agg #[.int .i64 t.n,.int .i64 t.ins,.int .i64 t.outs,vc]] w fun e w'=>e=.returned (.bool (fewTB t))/\Below w.heap.size w w':=by
 obtain⟨pc,cc,rfl,l1,m1,e1⟩:=hv.at;clear hv;have E:=aa e1;clear e1;by_cases hl:30<t.cases.length
 ·have HV:am (fewTB t=false):=by(have h:fewTB t=false:=by(unfold fewTB;simp[hl]));exact h
  go_enter Tryz.func69,Tryz.ntmps69
  go_wp2
  go_ret
  exact⟨aR HV.o.symm,by go_grown⟩
 ·have HV:am (fewTB t=!anyLt t.cases.length fun i=>I6 (t.cases.getD i default)):=by(have h:fewTB t=!anyLt t.cases.length fun i=>I6 (t.cases.getD i default):=by(unfold fewTB;rw[decide_eq_false hl];rfl));exact h
  go_enter Tryz.func69,Tryz.ntmps69
  go_wp2
  refine bu (fun W=>Below w.heap.size w W/\W.heap[w.heap.size]?=some (.cells #[.int .i64 t.n,.int .i64 t.ins,.int .i64 t.outs,.slice pc t.cases.length cc] 24)) ⟨by go_grown,aq _ _⟩ (fun W0 aZ=>?_);obtain⟨aI,bI⟩:=aZ;have HA:=aa bI;clear bI hl
  go_loopw [3] (fun i wr=>Below W0.heap.size W0 wr/\∃ k:Nat,k<=t.cases.length/\i=.int .i64 k/\∀ j,j<k->I6 (t.cases.getD j default)=false) (fun i _=>t.cases.length - (intOf i).toNat)
  ·exact⟨Below.refl _ _,0,by omega,rfl,by simp⟩
  ·
   obtain⟨jb,k,hk,rfl,aW⟩:=hrel;have H:=aa aW;clear aW;have az:=ae aI jb;have t1:=ab (af jb HA.o);by_cases aB:k<t.cases.length
   ·obtain⟨b1,o1,rfl,⟨x0,cx0,dj⟩,⟨x1,cx1,dL⟩,⟨x2,cx2,eA⟩⟩:=E.o k aB;have d0:=ak az cx0;have d1:=ak az cx1;have d2:=ak az cx2;have HX:=aa (aA default aB);have BP:=aa (fun W (hb:Below w.heap.size w W)=>uk _ _ W (dL.up up_ints hb));have mi:=aa (fun W (hb:Below w.heap.size w W)=>uk _ _ W (eA.up up_ints hb));obtain⟨p0,q0,rfl,_,h0l,_⟩:=dj;obtain⟨p1,q1,rfl,_⟩:=dL;obtain⟨p2,q2,rfl,_⟩:=eA;have fk:=aC (af jb HA.o);clear cx0 cx1 cx2;have HB:am (I6 t.cases[k]=(decide (10<t.cases[k].inp.length) || !fewVB t.cases[k].out || !fewVB t.cases[k].calm)):=by exact rfl
    generalize fewVB t.cases[k].out=f1 at BP HB;generalize fewVB t.cases[k].calm=f2 at mi HB;have oR:Below wr.heap.size wr (wr.alloc (.cells #[.slice p0 t.cases[k].inp.length q0,.slice p1 t.cases[k].out.length q1,.slice p2 t.cases[k].calm.length q2] 135)):=by go_grown
    have Af:=ae az oR;have B':=aa oR;clear oR;by_cases B1:10<t.cases[k].inp.length
    ·go_wp2_with fail
     go_ret
     exact⟨aR (by rw[HV.o,dW _ k _ aB (by rw[HX.o,HB.o,decide_eq_true B1];rfl)];rfl),Af⟩
    ·have Us:am (decide (10<t.cases[k].inp.length)=false):=by(have h:=decide_eq_false B1);exact h
     cases f1 with
     | false=>
      go_wp2_with fail
      refine(BP.o _ Af).mono ?_;rintro e w1 ⟨rfl,rfl⟩
      go_wp2_with fail
      go_ret
      exact⟨aR (by rw[HV.o,dW _ k _ aB (by rw[HX.o,HB.o,Us.o];rfl)];rfl),Af⟩
     | true=>
      cases f2 with
      | false=>
       go_wp2_with fail
       refine(BP.o _ Af).mono ?_;rintro e w1 ⟨rfl,rfl⟩
       go_wp2_with fail
       refine(mi.o _ Af).mono ?_;rintro e w1 ⟨rfl,rfl⟩
       go_wp2_with fail
       go_ret
       exact⟨aR (by rw[HV.o,dW _ k _ aB (by rw[HX.o,HB.o,Us.o];rfl)];rfl),Af⟩
      | true=>
       go_wp2_with fail
       refine(BP.o _ Af).mono ?_;rintro e w1 ⟨rfl,rfl⟩
       go_wp2_with fail
       refine(mi.o _ Af).mono ?_;rintro e w1 ⟨rfl,rfl⟩
       go_wp2_with fail
       go_roundw
       ·exact⟨ae jb B'.o,k+1,by omega,by go_num,aV H.o (by rw[HX.o,HB.o,Us.o];rfl)⟩
       ·simp[intOf];omega
   ·go_wp2
    go_ret
    exact⟨aR (by rw[HV.o,eW];rfl;intro j hj;exact H.o j (by omega)),az⟩
abbrev Gr.c(g:Gr):Array Value:=#[.int .i64 g.n,.int .i64 g.h0,.int .i64 g.h1,.int .i64 g.h2,.int .i64 g.h3,.int .i64 g.h4]
theorem Dl(g:Gr) (w:World) :
  Calls Tryz.prog 208 #[g.v] w fun e w'=>e=.returned (.int .i64 (gV g))/\Below w.heap.size w w':=by
 by_cases hn:g.n<1\/5<g.n
 ·have H:am (gV g=2):=by(have h:gV g=2:=by(unfold gV;rw[if_pos hn]));exact h
  rcases hn with hn|hn
  ·go_enter Tryz.func208,Tryz.ntmps208
   go_wp2
   go_ret;exact⟨aG H.o.symm,by go_grown⟩
  ·have AD:¬ g.n<1:=by omega
   go_enter Tryz.func208,Tryz.ntmps208
   go_wp2
   go_ret;exact⟨aG H.o.symm,by go_grown⟩
 have jS:1<=g.n:=by omega
 have nV:g.n<=5:=by omega
 have HE:am (gV g=bg 5 fun p=>mU g.n (g.hear p) p):=by(have h:gV g=bg 5 fun p=>mU g.n (g.hear p) p:=by(unfold gV;rw[if_neg hn]));exact h
 clear hn;have hn3:¬ g.n<1:=by omega
 have hn4:¬ 5<g.n:=by omega
 go_enter Tryz.func208,Tryz.ntmps208
 go_wp2
 refine bu (fun W=>Below w.heap.size w W/\W.heap[w.heap.size]?=some (.cells g.c 139)) ⟨by go_grown,aq _ _⟩ (fun W0 aZ=>?_);obtain⟨aI,hA⟩:=aZ;have HA:=aa hA;have t1:=ab hA 0;simp at t1;clear hA
 go_loop [3] (fun i=>∃ k:Nat,k<=5/\i=.int .i64 k/\∀ j,j<k->mU g.n (g.hear j) j=0) (fun i=>5 - (intOf i).toNat)
 ·exact⟨0,by omega,rfl,by simp⟩
 ·
  obtain⟨k,hk,rfl,aW⟩:=hrel;have H:=aa aW;clear aW;by_cases aB:k<5
  ·have hx:=nL g k aB W0 _ HA.o;obtain⟨x,lP⟩:∃ x,x=g.hear k:=⟨_,rfl⟩;rw[<-lP]at hx;have HX:=aa lP;clear lP;obtain⟨m,hm⟩:∃ m:Nat,g.n=m:=⟨g.n.toNat,by omega⟩;have hp:=AU m (by omega);have HC:=aa (fun w=>Gd m (by omega) w)
   have HV:am (mU g.n x k=if (m:Int)<=k then(if x≠0 then 3 else 0) else if x<0\/2 ^ m - 1<x then 2 else if hasB x k then 0 else 3):=by
    have h:mU g.n x k=if (m:Int)<=k then(if x≠0 then 3 else 0) else if x<0\/2 ^ m - 1<x then 2 else if hasB x k then 0 else 3:=by
     unfold mU;rw[hm,Int.toNat_natCast]
    exact h
   rw[hm]at t1;rw[hm]at jS nV;have HM:=aa hm;generalize (2:Int) ^ m=y at hp HC HV;clear hm hn3 hn4;by_cases fT:(m:Int)<=k
   ·go_wp2
    ·go_ret
     refine⟨aG ?_,aI⟩;rw[HE.o]
     go_light
     refine bV k _ aB H.o ?_ (by decide);rw[<-HX.o,HV.o]
     grind
    ·go_round
     ·
      refine⟨k+1,by omega,by go_num,aV H.o ?_⟩
      go_light
      rw[<-HX.o,HV.o]
      grind
     ·simp[intOf];omega
   ·by_cases lP:x<0\/y - 1<x
    ·have hq:∀ z,z=2->z=gV g:=fun z hz=>by
      subst hz;rw[HE.o];refine bV k _ aB H.o ?_ (by decide);rw[<-HX.o,HV.o,if_neg fT,if_pos lP]
     have HQ:=aa hq;clear hq;rcases lP with lP|lP
     ·go_wp2
      go_ret
      exact⟨aG (HQ.o _ rfl),aI⟩
     ·have dj:¬ x<0:=by omega
      go_wp2_with (go_at_call 60;refine(HC.o _).mono ?_;rintro e w' ⟨rfl,rfl⟩)
      go_ret
      exact⟨aG (HQ.o _ rfl),aI⟩
    ·have dj:¬ x<0:=by omega
     have dL:¬ y - 1<x:=by omega
     have mi:=aa (fun w=>jM x k (by omega) (by omega) (by omega) w);cases hb:hasB x k with
     | true=>
      rw[hb]at mi HV;have Yj:=aa lP;clear hb lP
      go_wp2_with (first|(go_at_call 60;refine(HC.o _).mono ?_;rintro e w' ⟨rfl,rfl⟩)|(go_at_call 47;refine(mi.o _).mono ?_;rintro e w' ⟨rfl,rfl⟩))
      go_round
      ·
       refine⟨k+1,by omega,by go_num,aV H.o ?_⟩;rw[<-HX.o,HV.o,if_neg (by omega),if_neg (by omega)];rfl
      ·simp[intOf];omega
     | false=>
      rw[hb]at mi HV;have Yj:=aa lP;clear hb lP
      go_wp2_with (first|(go_at_call 60;refine(HC.o _).mono ?_;rintro e w' ⟨rfl,rfl⟩)|(go_at_call 47;refine(mi.o _).mono ?_;rintro e w' ⟨rfl,rfl⟩))
      go_ret
      refine⟨aG ?_,aI⟩;rw[HE.o];refine bV k _ aB H.o ?_ (by decide);rw[<-HX.o,HV.o,if_neg (by omega),if_neg (by omega)];rfl
  ·go_wp2
   go_ret;exact⟨aG (by rw[HE.o,cV];intro j hj;exact H.o j (by omega)),aI⟩
theorem PQ{a b:Gr} (h:a.n<b.n):fD a b=-1:=by unfold fD cmpI;grind
theorem PR{a b:Gr} (h:b.n<a.n):fD a b=1:=by unfold fD cmpI;grind
theorem PS{a b:Gr} (h:a.n=b.n):fD a b=bg 5 fun p=>cmpI (a.hear p) (b.hear p):=by unfold fD;rw[h,qR];simp
theorem A7(a b:Gr) (w:World) :
  Calls Tryz.prog 210 #[a.v,b.v] w fun e w'=>e=.returned (.int .i64 (fD a b))/\Below w.heap.size w w':=by
 rcases Int.lt_trichotomy a.n b.n with hn|hn|hn
 ·have H:=aa (PQ hn)
  go_enter Tryz.func210,Tryz.ntmps210
  go_wp2
  go_ret;exact⟨aG H.o.symm,by go_grown⟩
 ·have HC:=aa (PS hn);have h1:¬ a.n<b.n:=by omega
  have h2:¬ b.n<a.n:=by omega
  clear hn
  go_enter Tryz.func210,Tryz.ntmps210
  go_wp2
  refine bu (fun W=>Below w.heap.size w W/\W.heap[w.heap.size]?=some (.cells a.c 139)/\W.heap[w.heap.size+1]?=some (.cells b.c 139))
   ⟨by go_grown,ar _ (aq _ _),by have:=aq (w.alloc (.cells a.c 139));rw[World.size_alloc]at this;exact this _⟩ (fun W0 aZ=>?_)
  obtain⟨aI,hA,hB⟩:=aZ;have HA:=aa hA;clear hA;have HB:=aa hB;clear hB;clear h1 h2
  go_loopw [5] (fun i wr=>Below W0.heap.size W0 wr/\∃ k:Nat,k<=5/\i=.int .i64 k/\∀ j,j<k->cmpI (a.hear j) (b.hear j)=0) (fun i _=>5 - (intOf i).toNat)
  ·exact⟨Below.refl _ _,0,by omega,rfl,by simp⟩
  ·
   obtain⟨az,k,hk,rfl,aW⟩:=hrel;have H:=aa aW;clear aW;by_cases aB:k<5
   ·have c1:∀ n,(wr.drewN n).cell? ⟨w.heap.size,1+k,none⟩=some (.int .i64 (a.hear k)):=fun n=>nL a k aB wr _ (af az HA.o)
    have c2:∀ n,(wr.drewN n).cell? ⟨w.heap.size+1,1+k,none⟩=some (.int .i64 (b.hear k)):=fun n=>nL b k aB wr _ (af az HB.o)
    have HV:am (cmpI (a.hear k) (b.hear k)=if a.hear k<b.hear k then -1 else if b.hear k<a.hear k then 1 else 0):=by exact rfl
    generalize hx:a.hear k=x at c1 HV;generalize hy:b.hear k=y at c2 HV;have HX:=aa hx;clear hx;have HY:=aa hy;clear hy;rcases Int.lt_trichotomy x y with hn|hn|hn
    ·go_wp2
     go_quiet (fail)
     go_wp2
     go_ret
     refine⟨aG ?_,eL (ae aI az) _⟩;rw[HC.o];refine bV k _ aB H.o ?_ (by decide);rw[HX.o,HY.o,HV.o,if_pos hn]
    ·have h1:¬ x<y:=by omega
     have h2:¬ y<x:=by omega
     clear hn
     go_wp2
     go_quiet (fail)
     go_wp2
     have c3:∀ m n,((wr.drewN m).drewN n).cell? ⟨w.heap.size,1+k,none⟩=some (.int .i64 x):=fun m n=>c1 m
     have c4:∀ m n,((wr.drewN m).drewN n).cell? ⟨w.heap.size+1,1+k,none⟩=some (.int .i64 y):=fun m n=>c2 m
     go_quiet (fail)
     go_wp2
     go_roundw
     ·
      refine⟨eL az _,k+1,by omega,by go_num,aV H.o ?_⟩;rw[HX.o,HY.o,HV.o,if_neg (by omega),if_neg (by omega)]
     ·simp[intOf];omega
    ·have h1:¬ x<y:=by omega
     go_wp2
     go_quiet (fail)
     go_wp2
     have c3:∀ m n,((wr.drewN m).drewN n).cell? ⟨w.heap.size,1+k,none⟩=some (.int .i64 x):=fun m n=>c1 m
     have c4:∀ m n,((wr.drewN m).drewN n).cell? ⟨w.heap.size+1,1+k,none⟩=some (.int .i64 y):=fun m n=>c2 m
     go_quiet (fail)
     go_wp2
     go_ret
     refine⟨aG ?_,eL (eL (ae aI az) _) _⟩;rw[HC.o];refine bV k _ aB H.o ?_ (by decide);rw[HX.o,HY.o,HV.o,if_neg (by omega),if_pos hn]
   ·go_wp2
    go_ret;exact⟨aG (by rw[HC.o,cV];intro j hj;exact H.o j (by omega)),ae aI az⟩
 ·have H:=aa (PR hn);have h1:¬ a.n<b.n:=by omega
  go_enter Tryz.func210,Tryz.ntmps210
  go_wp2
  go_ret;exact⟨aG H.o.symm,by go_grown⟩
theorem Dm(r:Rd) (w:World) :
  Calls Tryz.prog 186 #[r.v] w fun e w'=>e=.returned (.int .i64 (roundE r))/\Below w.heap.size w w':=by
 obtain⟨⟨n,h0,h1,h2,h3,h4⟩,f⟩:=r
 go_enter Tryz.func186,Tryz.ntmps186
 go_wp2_with (first
  | (go_at_call 208;refine(Dl ⟨_,_,_,_,_,_⟩ _).mono ?_;rintro e w1 ⟨rfl,hb⟩;obtain⟨hc,hf⟩:=MW hb)
  | (go_at_call 209;refine(Hy _ _ _).mono ?_;rintro e w2 ⟨rfl,rfl⟩))
 all_goals
  go_ret
  refine⟨aG ?_,?_⟩
  ·go_light
   unfold roundE
   grind
  ·exact ae (by go_grown) hb
theorem A8(a b:Rd) (w:World) :
  Calls Tryz.prog 187 #[a.v,b.v] w fun e w'=>e=.returned (.int .i64 (roundC a b))/\Below w.heap.size w w':=by
 obtain⟨⟨n,h0,h1,h2,h3,h4⟩,f⟩:=a;obtain⟨⟨m,g0,g1,g2,g3,g4⟩,g⟩:=b
 go_enter Tryz.func187,Tryz.ntmps187
 go_wp2_with (first
  | (go_at_call 210;refine(A7 ⟨_,_,_,_,_,_⟩ ⟨_,_,_,_,_,_⟩ _).mono ?_;rintro e w1 ⟨rfl,hb⟩;obtain⟨hc,hf⟩:=MW hb))
 all_goals
  go_ret
  refine⟨aG ?_,?_⟩
  ·go_light
   unfold roundC cmpI
   grind
  ·exact ae (by go_grown) hb
theorem Dn(n:Int) (v:Value) (l:List (List Mv)) (w:World) (hv:bF w v l) (hN:movesN l<2305843009213693952) :
  Calls Tryz.prog 113 #[.agg #[.int .i64 n,v]] w fun e w'=>e=.returned (.int .i64 (movesN l))/\Below w.heap.size w w':=by
 obtain⟨pa,ca,rfl,la1,la2,ea⟩:=hv.at;clear hv;have EA:=aa ea;clear ea
 go_enter Tryz.func113,Tryz.ntmps113
 go_wp2
 refine bu (fun W=>Below w.heap.size w W/\W.heap[w.heap.size]?=some (.cells #[.int .i64 n,.slice pa l.length ca] 27)) ⟨by go_grown,aq _ _⟩ (fun W0 aZ=>?_);obtain⟨aI,bI⟩:=aZ;have t1:=ab bI 1;simp at t1;clear bI
 go_loop [3,4] (fun o i=>∃ k:Nat,k<=l.length/\i=.int .i64 k/\o=.int .i64 (cnt l k)) (fun _ i=>l.length - (intOf i).toNat)
 ·exact⟨0,by omega,rfl,by rw[qh];rfl⟩
 ·
  obtain⟨k,hk,rfl,rfl⟩:=hrel;by_cases aB:k<l.length
  ·obtain⟨b1,o1,rfl,x,cx,hx⟩:=EA.o k aB;rw[Nat.mul_one]at cx;have c1:=ak aI cx;have bR:=ID l k aB;have pA:=aa (qi l k aB);obtain⟨px,qx,rfl,_⟩:=hx;clear cx;generalize cnt l k=c at bR pA
   go_wp2
   go_round
   ·exact⟨k+1,by omega,by go_num,by rw[pA.o];go_num⟩
   ·simp[intOf];omega
  ·go_wp2
   go_ret
   exact⟨aG (by rw[vY l k (by omega)]),aI⟩
theorem PT(a:Adv) (ps:Option Addr) (cs:Nat) (vl:Value) (l:List Mv) (k:Nat) (aB:k<l.length) (w:World) (hv:p7 w vl l) :
  Calls Tryz.prog 155 #[.agg #[.int .i64 a.n,.slice ps a.states.length cs],vl,.int .i64 k] w fun e w'=>e=.returned (.int .i64 (dX a l k))/\Below w.heap.size w w':=by
 obtain⟨pc,cc,rfl,l1,m1,e1⟩:=hv.at;clear hv;have E:=aa e1;clear e1;obtain⟨b1,o1,rfl,⟨⟨c0,_⟩,⟨c1,_⟩,⟨c2,_⟩,⟨c3,_⟩,⟨c4,_⟩,⟨c5,_⟩,⟨c6,_⟩⟩,⟨c7,hc7⟩⟩:=E.o k aB;have X9:b1<w.heap.size:=fo c0;have hlb':b1<w.heap.size+1:=by omega
 have HO:am (dX a l k=if roundE l[k].r≠0 then roundE l[k].r else if l[k].r.g.n≠a.n then 22 else if 0<k/\0<=roundC (l.getD (k - 1) default).r l[k].r then 14 else if l[k].to<0\/(a.states.length:Int)<=l[k].to then 2 else 0):=by
  have h:dX a l k=if roundE l[k].r≠0 then roundE l[k].r else if l[k].r.g.n≠a.n then 22 else if 0<k/\0<=roundC (l.getD (k - 1) default).r l[k].r then 14 else if l[k].to<0\/(a.states.length:Int)<=l[k].to then 2 else 0:=by unfold dX;rw[aA default aB]
  exact h
 have ZC:=c7;generalize l[k]=m at c0 c1 c2 c3 c4 c5 c6 c7 hc7 HO ZC;have HC7:=aa ZC;clear ZC
 go_enter Tryz.func155,Tryz.ntmps155
 go_wp2_with fail
 refine aN (fun V=>Below w.heap.size w V/\V.heap[w.heap.size]?=some (.cells #[.int .i64 a.n,.slice ps a.states.length cs] 27)/\V.heap[w.heap.size+1]?=some (.cells #[.int .i64 m.r.g.n,.int .i64 m.r.g.h0,.int .i64 m.r.g.h1,.int .i64 m.r.g.h2,.int .i64 m.r.g.h3,.int .i64 m.r.g.h4,.int .i64 m.r.f] 141)) ⟨by go_grown,ar _ (aq _ _),by simpa using aq (w.alloc _) _⟩ (fun V hV=>?_);obtain⟨lB,hT,hC⟩:=hV;have HT:=aa hT;have HC:=aa hC;clear hT hC c0 c1 c2 c3 c4 c5 c6 c7;refine(Dm m.r V).mono ?_;rintro e w1 ⟨rfl,aJ⟩;have jo:=ae lB aJ;have s1:=ab (af aJ HT.o);have s2:=ab (af aJ HC.o);generalize roundE m.r=er at HO;by_cases GN:er=0
 case neg=>
  have her':(er != 0)=true:=by simpa using GN
  go_wp2_with fail
  go_ret
  exact⟨aG (by rw[HO.o,if_pos GN]),jo⟩
 subst GN;by_cases rc:m.r.g.n=a.n
 case neg=>
  have KV:(m.r.g.n != a.n)=true:=by simpa using rc
  go_wp2_with fail
  go_ret
  exact⟨aG (by rw[HO.o,if_neg (by simp),if_pos rc]),jo⟩
 have KV:(m.r.g.n != a.n)=false:=by simpa using rc
 have fM:am (dX a l k=if 0<k/\0<=roundC (l.getD (k - 1) default).r m.r then 14 else if m.to<0\/(a.states.length:Int)<=m.to then 2 else 0):=by
  have h:dX a l k=if 0<k/\0<=roundC (l.getD (k - 1) default).r m.r then 14 else if m.to<0\/(a.states.length:Int)<=m.to then 2 else 0:=by rw[HO.o,if_neg (by simp),if_neg (by simpa using rc)]
  exact h
 clear HO rc
 go_wp2_with fail
 clear KV s1 s2;by_cases fg:k=0
 case' pos=>
  have dR:am (dX a l k=if m.to<0\/(a.states.length:Int)<=m.to then 2 else 0):=by(have h:dX a l k=if m.to<0\/(a.states.length:Int)<=m.to then 2 else 0:=by(rw[fM.o,if_neg (by omega)]));exact h
  have hd:decide ((0:Int)<(k:Int))=false:=decide_eq_false (by omega);have gM:decide (0<k)=false:=decide_eq_false (by omega);clear fM fg;refine aD (by kernel_rfl) (by kernel_rfl) ?_
  repeat (go_big_quiet_step (fail))
  refine wpQuiet_nil ?_;intro _ eJ;obtain⟨xq,dq⟩:=eJ;subst dq;clear hd gM
 case' neg=>
  obtain⟨j,hj⟩:∃ j,k=j+1:=⟨k - 1,by omega⟩;have fS:j<l.length:=by omega
  have HJ:=aa hj;obtain⟨b2,o2,e2,⟨⟨c0,_⟩,⟨c1,_⟩,⟨c2,_⟩,⟨c3,_⟩,⟨c4,_⟩,⟨c5,_⟩,⟨c6,_⟩⟩,_⟩:=E.o j fS;obtain⟨rfl,rfl⟩:b1=b2/\o1=o2:=by simpa using e2
  clear e2;have hd:decide ((0:Int)<(k:Int))=true:=decide_eq_true (by omega);have gM:0<k:=by omega
  have lh:am (dX a l k=if 0<=roundC l[j].r m.r then 14 else if m.to<0\/(a.states.length:Int)<=m.to then 2 else 0):=by
   have h:dX a l k=if 0<=roundC l[j].r m.r then 14 else if m.to<0\/(a.states.length:Int)<=m.to then 2 else 0:=by
    rw[fM.o];have e:k - 1=j:=by omega
    rw[e,aA default fS]
    grind
   exact h
  clear fM fg hj;have jc:IntKind.i64.wrap ((k:Int) - 1)=(j:Int):=by rw[HJ.o];rw[IntWalk.i64_in _ (by omega)];omega
  generalize l[j]=m2 at c0 c1 c2 c3 c4 c5 c6 lh;have r1:∀ x:ExtW w1,∀ o,x.val.cell? ⟨w.heap.size,o,none⟩=_:=fun x=>ab (af (ae aJ x.ext) HT.o)
  have r2:∀ x:ExtW w1,∀ o,x.val.cell? ⟨w.heap.size+1,o,none⟩=_:=fun x=>ab (af (ae aJ x.ext) HC.o)
  have k0:∀ x:ExtW w1,x.val.cell? _=_:=fun x=>x.cell (ak jo c0)
  have k1:∀ x:ExtW w1,x.val.cell? _=_:=fun x=>x.cell (ak jo c1)
  have k2:∀ x:ExtW w1,x.val.cell? _=_:=fun x=>x.cell (ak jo c2)
  have k3:∀ x:ExtW w1,x.val.cell? _=_:=fun x=>x.cell (ak jo c3)
  have k4:∀ x:ExtW w1,x.val.cell? _=_:=fun x=>x.cell (ak jo c4)
  have k5:∀ x:ExtW w1,x.val.cell? _=_:=fun x=>x.cell (ak jo c5)
  have k6:∀ x:ExtW w1,x.val.cell? _=_:=fun x=>x.cell (ak jo c6)
  clear c0 c1 c2 c3 c4 c5 c6;refine aD (by kernel_rfl) (by kernel_rfl) ?_
  repeat (go_big_quiet_step ((go_at_call 187;exact Calls.ext_of (A8 m2.r m.r _))))
  refine wpQuiet_nil ?_;intro _ eJ;obtain⟨xq,dq⟩:=eJ;subst dq;clear r1 r2 k0 k1 k2 k3 k4 k5 k6 hd gM jc;generalize roundC m2.r m.r=oo at lh;by_cases rK:0<=oo
  ·go_wp2_with fail
   go_ret
   exact⟨aG (by rw[lh.o,if_pos rK]),ae jo xq.ext⟩
  have dR:am (dX a l k=if m.to<0\/(a.states.length:Int)<=m.to then 2 else 0):=by(have h:dX a l k=if m.to<0\/(a.states.length:Int)<=m.to then 2 else 0:=by(rw[lh.o,if_neg rK]));exact h
  clear lh HJ
 all_goals
  have dE:=ae jo xq.ext;have He:=af (ae aJ xq.ext) HT.o;generalize xq.val=W5 at dE He ⊢;have r1:∀ n o,(W5.drewN n).cell? ⟨w.heap.size,o,none⟩=_:=fun n=>ab He
  have r7:∀ n,(W5.drewN n).cell? _=_:=fun n=>ak dE HC7.o
  clear He;by_cases ht:m.to<0
  ·go_wp2_with fail
   go_quiet (fail)
   go_wp2_with fail
   go_ret
   exact⟨aG (by rw[dR.o,if_pos (by omega)]),eL dE _⟩
  ·have hd:decide (m.to<0)=false:=decide_eq_false ht
   go_wp2_with fail
   go_quiet (fail)
   go_wp2_with fail
   ·go_ret
    refine⟨aG ?_,eL dE _⟩;rw[dR.o]
    go_light
    grind
   ·go_ret
    refine⟨aG ?_,eL dE _⟩;rw[dR.o]
    go_light
    grind
end Go.Proofs.YtmeaoneaephjeaaGreatDoor
