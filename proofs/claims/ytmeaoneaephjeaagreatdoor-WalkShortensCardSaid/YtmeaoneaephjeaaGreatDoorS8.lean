/-
  A part of the proof: lemmas and contracts that the parts behind it use. Each one's conditions are its own premises.
-/
import Derived.Laws.Tables
import Derived.Laws.CopyOwn
import Derived.Test.YtmeaoneaephjeaaGreatDoorS7
set_option maxRecDepth 100000
set_option maxHeartbeats 8000000
set_option linter.unusedVariables false
set_option linter.unusedSimpArgs false
namespace Go.Proofs.YtmeaoneaephjeaaGreatDoor
open Go.RowKit Go Go.Shelf
attribute [local go_sem] Oper.semAt_some
theorem Pm(a b:Vw) (w:World):(binOp .neq 190 a.v b.v).run Tryz.prog w=.ok (.bool (!decide (a=b))) w:=by
 rw[run_neq_struct,DT 9997];rfl
theorem D6(va vb:Value) (a b:List Vw) (w:World) (ha:mX w va a) (hb:mX w vb b) :
  Calls Tryz.prog 121 #[va,vb] w fun e w'=>e=.returned (.bool (decide (a=b)))/\Below w.heap.size w w':=by
 obtain⟨pa,ca,rfl,la1,la2,ea⟩:=ha.at;obtain⟨pb,cb,rfl,lb1,lb2,eb⟩:=hb.at;clear ha hb;have EA:=aa ea;clear ea;have EB:=aa eb;clear eb;generalize oe:decide (a=b)=res;have jE:=aa oe;clear oe;by_cases hl:a.length=b.length
 case neg=>
  have ir:((a.length:Int) != (b.length:Int))=true:=by simp;omega
  have HR:am (res=false):=aa (by rw[<-jE.o];simp;intro h;exact hl (by rw[h]));clear hl
  go_enter Tryz.func121,Tryz.ntmps121
  go_wp2
  go_ret
  exact⟨aS HR.o.symm,Below.refl _ _⟩
 have ir:((a.length:Int) != (b.length:Int))=false:=by simp[hl]
 have HL:=aa hl;clear hl
 go_enter Tryz.func121,Tryz.ntmps121
 go_wp2
 clear ir
 go_loopw [13] (fun i wr=>Below w.heap.size w wr/\∃ k:Nat,k<=a.length/\i=.int .i64 k/\∀ j,j<k->a.getD j default=b.getD j default) (fun i _=>a.length - (intOf i).toNat)
 ·exact⟨Below.refl _ _,0,by omega,rfl,by simp⟩
 ·
  obtain⟨aA,k,hk,rfl,aU⟩:=hrel;have H:=aa aU;clear aU;by_cases aB:k<a.length
  ·have iF:k<b.length:=by have:=HL.o;omega
   obtain⟨b1,o1,rfl,⟨⟨c0,_⟩,⟨c1,_⟩,⟨c2,_⟩,⟨c3,_⟩,⟨c4,_⟩,⟨c5,_⟩,⟨c6,_⟩,⟨c7,_⟩⟩⟩:=EA.o k aB;obtain⟨b2,o2,rfl,⟨⟨e0,_⟩,⟨e1,_⟩,⟨e2,_⟩,⟨e3,_⟩,⟨e4,_⟩,⟨e5,_⟩,⟨e6,_⟩,⟨e7,_⟩⟩⟩:=EB.o k iF;have c0':∀ y:ExtW wr,y.val.cell? ⟨b1,o1+k * 8,none⟩=_:=fun y=>y.cell (ak aA c0)
   have c1':∀ y:ExtW wr,y.val.cell? ⟨b1,o1+k * 8+1,none⟩=_:=fun y=>y.cell (ak aA c1)
   have c2':∀ y:ExtW wr,y.val.cell? ⟨b1,o1+k * 8+2,none⟩=_:=fun y=>y.cell (ak aA c2)
   have c3':∀ y:ExtW wr,y.val.cell? ⟨b1,o1+k * 8+3,none⟩=_:=fun y=>y.cell (ak aA c3)
   have c4':∀ y:ExtW wr,y.val.cell? ⟨b1,o1+k * 8+4,none⟩=_:=fun y=>y.cell (ak aA c4)
   have c5':∀ y:ExtW wr,y.val.cell? ⟨b1,o1+k * 8+5,none⟩=_:=fun y=>y.cell (ak aA c5)
   have c6':∀ y:ExtW wr,y.val.cell? ⟨b1,o1+k * 8+6,none⟩=_:=fun y=>y.cell (ak aA c6)
   have c7':∀ y:ExtW wr,y.val.cell? ⟨b1,o1+k * 8+7,none⟩=_:=fun y=>y.cell (ak aA c7)
   have e0':∀ y:ExtW wr,y.val.cell? ⟨b2,o2+k * 8,none⟩=_:=fun y=>y.cell (ak aA e0)
   have e1':∀ y:ExtW wr,y.val.cell? ⟨b2,o2+k * 8+1,none⟩=_:=fun y=>y.cell (ak aA e1)
   have e2':∀ y:ExtW wr,y.val.cell? ⟨b2,o2+k * 8+2,none⟩=_:=fun y=>y.cell (ak aA e2)
   have e3':∀ y:ExtW wr,y.val.cell? ⟨b2,o2+k * 8+3,none⟩=_:=fun y=>y.cell (ak aA e3)
   have e4':∀ y:ExtW wr,y.val.cell? ⟨b2,o2+k * 8+4,none⟩=_:=fun y=>y.cell (ak aA e4)
   have e5':∀ y:ExtW wr,y.val.cell? ⟨b2,o2+k * 8+5,none⟩=_:=fun y=>y.cell (ak aA e5)
   have e6':∀ y:ExtW wr,y.val.cell? ⟨b2,o2+k * 8+6,none⟩=_:=fun y=>y.cell (ak aA e6)
   have e7':∀ y:ExtW wr,y.val.cell? ⟨b2,o2+k * 8+7,none⟩=_:=fun y=>y.cell (ak aA e7)
   have HX:=aa (az default aB);have HY:=aa (az default iF);clear c0 c1 c2 c3 c4 c5 c6 c7 e0 e1 e2 e3 e4 e5 e6 e7;generalize a[k]=x at c0' c1' c2' c3' c4' c5' c6' c7' HX;generalize b[k]=y at e0' e1' e2' e3' e4' e5' e6' e7' HY;have bR:=fun w=>Pm x y w
   go_wp2
   by_cases cC:x=y
   ·have hd:decide (x=y)=true:=by simpa using cC
    have ou:am (a.getD k default=b.getD k default):=aa (by rw[HX.o,HY.o,cC]);rw[hd]at bR;clear cC hd;refine aF (by kernel_rfl) (by kernel_rfl) ?_
    repeat (go_big_quiet_step (fail))
    refine wpQuiet_nil ?_;rintro _ ⟨xq,rfl⟩;clear c0' c1' c2' c3' c4' c5' c6' c7' e0' e1' e2' e3' e4' e5' e6' e7' bR
    go_wp2
    go_roundw
    ·exact⟨ae aA xq.ext,k+1,by omega,by go_num,aV H.o ou.o⟩
    ·simp[intOf];omega
   ·have hd:decide (x=y)=false:=by simpa using cC
    have HR:am (res=false):=aa (by rw[<-jE.o];simp;intro h;subst h;rw[HX.o]at HY;exact cC HY.o);rw[hd]at bR;clear cC hd;refine aF (by kernel_rfl) (by kernel_rfl) ?_
    repeat (go_big_quiet_step (fail))
    refine wpQuiet_nil ?_;rintro _ ⟨xq,rfl⟩;clear c0' c1' c2' c3' c4' c5' c6' c7' e0' e1' e2' e3' e4' e5' e6' e7' bR
    go_wp2
    go_ret
    exact⟨aS HR.o.symm,ae aA xq.ext⟩
  ·have HR:am (res=true):=aa (by rw[<-jE.o];simp;exact fj default HL.o fun j hj=>H.o j (by omega))
   go_wp2
   go_ret
   exact⟨aS HR.o.symm,aA⟩
theorem D7(va vb:Value) (a b:List (List Int)) (w:World) (ha:ez w va a) (hb:ez w vb b) :
  Calls Tryz.prog 168 #[va,vb,.func (.func 15) #[] #[]] w fun e w'=>e=.returned (.bool (decide (a=b)))/\Below w.heap.size w w':=by
 obtain⟨pa,ca,rfl,la1,la2,ea⟩:=ha.at;obtain⟨pb,cb,rfl,lb1,lb2,eb⟩:=hb.at;clear ha hb;have EA:=aa ea;clear ea;have EB:=aa eb;clear eb;generalize oe:decide (a=b)=res;have jE:=aa oe;clear oe;have g1:=enters_of Tryz.func15 (P:=Tryz.prog) (by kernel_rfl) rfl;by_cases hl:a.length=b.length
 case neg=>
  have ir:((a.length:Int) != (b.length:Int))=true:=by simp;omega
  have HR:am (res=false):=aa (by rw[<-jE.o];simp;intro h;exact hl (by rw[h]));clear hl
  go_enter Tryz.func168,Tryz.ntmps168
  go_wp2
  go_ret
  exact⟨aS HR.o.symm,Below.refl _ _⟩
 have ir:((a.length:Int) != (b.length:Int))=false:=by simp[hl]
 have HL:=aa hl;clear hl
 go_enter Tryz.func168,Tryz.ntmps168
 go_wp2
 clear ir
 go_loopw [17] (fun i wr=>Below w.heap.size w wr/\∃ k:Nat,k<=a.length/\i=.int .i64 k/\∀ j,j<k->a.getD j []=b.getD j []) (fun i _=>a.length - (intOf i).toNat)
 ·exact⟨Below.refl _ _,0,by omega,rfl,by simp⟩
 ·
  obtain⟨aA,k,hk,rfl,aU⟩:=hrel;have H:=aa aU;clear aU;by_cases aB:k<a.length
  ·have iF:k<b.length:=by have:=HL.o;omega
   obtain⟨b1,o1,rfl,x,c1,hx⟩:=EA.o k aB;obtain⟨b2,o2,rfl,y,c2,hy⟩:=EB.o k iF;rw[Nat.mul_one]at c1 c2;have d1:=ak aA c1;have d2:=ak aA c2;have HC:=aa (jr x y a[k] b[k] wr (hx.up up_int aA) (hy.up up_int aA));have HX:=aa (az [] aB);have HY:=aa (az [] iF);obtain⟨px,qx,rfl,_⟩:=hx.at;obtain⟨py,qy,rfl,_⟩:=hy.at;clear hx hy c1 c2;have HE:am (eqV a[k] b[k]=decide (a[k]=b[k])):=aa rfl;generalize eqV a[k] b[k]=eb at HC HE
   go_wp2_with fail
   refine HC.o.mono ?_;rintro e w1 ⟨rfl,aM⟩;clear d1 d2;cases eb with
   | true=>
    have ou:am (a.getD k []=b.getD k []):=aa (by have h:=HE.o;simp at h;rw[HX.o,HY.o,h])
    go_wp2_with fail
    go_roundw
    ·exact⟨ae aA aM,k+1,by omega,by go_num,aV H.o ou.o⟩
    ·simp[intOf];omega
   | false=>
    have HR:am (res=false):=aa (by rw[<-jE.o];simp;intro h;subst h;have h:=HE.o;simp at h)
    go_wp2_with fail
    go_ret
    exact⟨aS HR.o.symm,ae aA aM⟩
  ·have HR:am (res=true):=aa (by rw[<-jE.o];simp;exact fj [] HL.o fun j hj=>H.o j (by omega))
   go_wp2
   go_ret
   exact⟨aS HR.o.symm,aA⟩
abbrev Ik(c:Int) (u v:Value):Array Value:=#[.int .i64 c,u,v]
theorem Yg(a b:Ex):decide (a=b)=(decide (a.c=b.c)&&decide (a.word=b.word)&&decide (a.views=b.views)):=by
 obtain⟨c,u,v⟩:=a;obtain⟨d,x,y⟩:=b;simp only[Ex.mk.injEq];by_cases h1:c=d<;>by_cases h2:u=x<;>by_cases h3:v=y<;>simp[h1,h2,h3]
theorem Il(a b:Ex) (ua va ub vb:Value) (w:World) (h1:kx w ua a.word) (h2:ez w va a.views) (h3:kx w ub b.word) (h4:ez w vb b.views) :
  Calls Tryz.prog 123 #[.agg (Ik a.c ua va),.agg (Ik b.c ub vb)] w fun e w'=>e=.returned (.bool (decide (a=b)))/\Below w.heap.size w w':=by
 have H1:=aa h1;have H2:=aa h2;have H3:=aa h3;have H4:=aa h4;obtain⟨_,_,rfl,_⟩:=h1.at;obtain⟨_,_,rfl,_⟩:=h2.at;obtain⟨_,_,rfl,_⟩:=h3.at;obtain⟨_,_,rfl,_⟩:=h4.at;clear h1 h2 h3 h4;have HV:=aa (Yg a b);generalize decide (a=b)=res at HV;generalize a.c=x1 at *;generalize b.c=x2 at *
 go_enter Tryz.func123,Tryz.ntmps123
 by_cases hc:x1=x2
 ·subst hc
  go_wp2_with fail
  refine aQ (fun W=>Below w.heap.size w W/\(∃ c,W.heap[w.heap.size]?=some (.cells c 89)/\c=Ik x1 _ _)/\∃ c,W.heap[w.heap.size+1]?=some (.cells c 89)/\c=Ik x1 _ _) ⟨by go_grown,⟨_,aq _ (ap _ _),rfl⟩,_,bu _ _ _,rfl⟩ (fun W0 bd=>?_);obtain⟨aK,⟨_,hA,rfl⟩,⟨_,hB,rfl⟩⟩:=bd;refine(B3 _ _ a.word b.word W0 (H1.o.up up_round aK) (H3.o.up up_round aK)).mono ?_;rintro e w1 ⟨rfl,aM⟩;have dy:=ae aK aM;have tA:=ab (af aM hA);have tB:=ab (af aM hB);clear hA hB;cases hw:decide (a.word=b.word) with
  | false=>
   have HR:am (res=false):=aa (by rw[HV.o,hw];simp);clear hw
   go_wp2_with fail
   go_ret
   exact⟨aS HR.o.symm,dy⟩
  | true=>
   have HR:am (res=decide (a.views=b.views)):=aa (by rw[HV.o,hw];simp);clear hw
   go_wp2_with fail
   refine(D7 _ _ a.views b.views w1 (H2.o.up up_ints dy) (H4.o.up up_ints dy)).mono ?_;rintro e w2 ⟨rfl,aZ⟩;clear tA tB
   go_wp2_with fail
   go_ret
   exact⟨aS HR.o.symm,ae dy aZ⟩
 ·have hd:decide (x1=x2)=false:=decide_eq_false hc;have HR:am (res=false):=aa (by rw[HV.o,hd];simp)
  go_wp2_with fail
  go_ret
  exact⟨aS HR.o.symm,by go_grown⟩
theorem D8(va vb:Value) (a b:List Ex) (w:World) (ha:zx w va a) (hb:zx w vb b) :
  Calls Tryz.prog 122 #[va,vb,.func (.func 123) #[] #[]] w fun e w'=>e=.returned (.bool (decide (a=b)))/\Below w.heap.size w w':=by
 obtain⟨pa,ca,rfl,la1,la2,ea⟩:=ha.at;obtain⟨pb,cb,rfl,lb1,lb2,eb⟩:=hb.at;clear ha hb;have EA:=aa ea;clear ea;have EB:=aa eb;clear eb;generalize oe:decide (a=b)=res;have jE:=aa oe;clear oe;have g1:=enters_of Tryz.func123 (P:=Tryz.prog) (by kernel_rfl) rfl;by_cases hl:a.length=b.length
 case neg=>
  have ir:((a.length:Int) != (b.length:Int))=true:=by simp;omega
  have HR:am (res=false):=aa (by rw[<-jE.o];simp;intro h;exact hl (by rw[h]));clear hl
  go_enter Tryz.func122,Tryz.ntmps122
  go_wp2
  go_ret
  exact⟨aS HR.o.symm,Below.refl _ _⟩
 have ir:((a.length:Int) != (b.length:Int))=false:=by simp[hl]
 have HL:=aa hl;clear hl
 go_enter Tryz.func122,Tryz.ntmps122
 go_wp2
 clear ir
 go_loopw [17] (fun i wr=>Below w.heap.size w wr/\∃ k:Nat,k<=a.length/\i=.int .i64 k/\∀ j,j<k->a.getD j default=b.getD j default) (fun i _=>a.length - (intOf i).toNat)
 ·exact⟨Below.refl _ _,0,by omega,rfl,by simp⟩
 ·
  obtain⟨aA,k,hk,rfl,aU⟩:=hrel;have H:=aa aU;clear aU;by_cases aB:k<a.length
  ·have iF:k<b.length:=by have:=HL.o;omega
   obtain⟨b1,o1,rfl,⟨c1,_⟩,⟨u1,c2,h2⟩,⟨v1,c3,h3⟩⟩:=EA.o k aB;obtain⟨b2,o2,rfl,⟨d1,_⟩,⟨u2,d2,k2⟩,⟨v2,d3,k3⟩⟩:=EB.o k iF;have c1':=ak aA c1;have c2':=ak aA c2;have c3':=ak aA c3;have hA:Below wr.heap.size wr (wr.alloc (.cells (Ik a[k].c u1 v1) 89)):=by go_grown
   have d1':=ak hA (ak aA d1);have d2':=ak hA (ak aA d2);have d3':=ak hA (ak aA d3);have H2:=aa (h2.up up_round aA);have H3:=aa (h3.up up_ints aA);have K2:=aa (k2.up up_round aA);have K3:=aa (k3.up up_ints aA);obtain⟨_,_,rfl,_⟩:=h2.at;obtain⟨_,_,rfl,_⟩:=h3.at;obtain⟨_,_,rfl,_⟩:=k2.at;obtain⟨_,_,rfl,_⟩:=k3.at;have HX:=aa (az default aB);have HY:=aa (az default iF);clear h2 h3 k2 k3 c1 c2 c3 d1 d2 d3 hA;generalize a[k]=x at *;generalize b[k]=y at *
   go_wp2_with fail
   refine aQ (fun W=>Below wr.heap.size wr W) (by go_grown) (fun W0 bd=>?_);refine(Il x y _ _ _ _ W0 (H2.o.up up_round bd) (H3.o.up up_ints bd) (K2.o.up up_round bd) (K3.o.up up_ints bd)).mono ?_;rintro e w1 ⟨rfl,aM⟩;have dy:=ae aA (ae bd aM);clear c1' c2' c3' d1' d2' d3';cases cC:decide (x=y) with
   | true=>
    have ou:am (a.getD k default=b.getD k default):=aa (by rw[HX.o,HY.o,of_decide_eq_true cC]);clear cC
    go_wp2_with fail
    go_roundw
    ·exact⟨dy,k+1,by omega,by go_num,aV H.o ou.o⟩
    ·simp[intOf];omega
   | false=>
    have HR:am (res=false):=aa (by rw[<-jE.o];simp;intro h;subst h;rw[HX.o]at HY;exact of_decide_eq_false cC HY.o);clear cC
    go_wp2_with fail
    go_ret
    exact⟨aS HR.o.symm,dy⟩
  ·have HR:am (res=true):=aa (by rw[<-jE.o];simp;exact fj default HL.o fun j hj=>H.o j (by omega))
   go_wp2
   go_ret
   exact⟨aS HR.o.symm,aA⟩
theorem gQ{P:Program} {ops:Array Oper} {Q:Exit->Act->World->Prop} {l:List Oper} {a:Act} {W:World} (I:World->Prop) (h:I W) (k:∀ W0,I W0->wpList P ops Q l a W0):wpList P ops Q l a W:=k W h
theorem bM{w:World} {s:Sys} {vc vs vt ve:Value} (h:IsSys w s vc vs vt ve):(∃ a c,vc=.slice a s.prob.t.cases.length c)/\(∃ a c,vs=.slice a s.prob.a.states.length c)/\(∃ a c,vt=.slice a s.tab.length c)/\∃ a c,ve=.slice a s.ex.length c:=by
 obtain⟨a1,c1,e1,_⟩:=h.cases.at;obtain⟨a2,c2,e2,_⟩:=h.states.at;obtain⟨a3,c3,e3,_⟩:=h.tab.at;obtain⟨a4,c4,e4,_⟩:=h.ex.at;exact⟨⟨a1,c1,e1⟩,⟨a2,c2,e2⟩,⟨a3,c3,e3⟩,a4,c4,e4⟩
theorem pJ(s:Sys) (vc vs vt ve:Value) (w:World) (hs:IsSys w s vc vs vt ve) (hN:movesN s.prob.a.states<1099511627776) :
  Calls Tryz.prog 75 #[.agg (bZ s.prob vc vs s.n vt ve)] w fun e w'=>e=.returned (.int .i64 (verifyE s))/\Below w.heap.size w w':=by
 have HS:=aa hs;obtain⟨⟨pc,cc,rfl⟩,⟨ps,cs,rfl⟩,⟨pt,ct,rfl⟩,⟨pe,ce,rfl⟩⟩:=bM hs;clear hs;have HV:am (verifyE s=if buildE s.prob≠0 then buildE s.prob else if s.n=(aN s.prob).n/\s.tab=(aN s.prob).tab/\s.ex=(aN s.prob).ex then 0 else 3):=aa rfl;have HT:=aa HS.o.tab;have HE:=aa HS.o.ex;have HC:=aa (fun W (hb:Below w.heap.size w W)=>Pk s.prob (.slice pc s.prob.t.cases.length cc) (.slice ps s.prob.a.states.length cs) W (HS.o.cases.up up_case hb) (HS.o.states.up up_moves hb) hN);clear HS
 go_enter Tryz.func75,Tryz.ntmps75
 go_wp2_with fail
 refine aQ (fun W=>Below w.heap.size w W/\∃ c,W.heap[w.heap.size]?=some (.cells c 35)/\c=bZ s.prob _ _ s.n _ _) ⟨by go_grown,_,ap _ _,rfl⟩ (fun W0 bd=>?_);obtain⟨aK,_,hA,rfl⟩:=bd;refine(HC.o W0 aK).mono ?_;rintro e w1 ⟨c,rfl,h0,h1,aM⟩;have dy:=ae aK aM;have eO:=af aM hA;have dP:=aa eO;have eN:=aa dy;have fT:=dy.size;have gV:=aC eO;clear hA eO aK aM HC;by_cases kZ:buildE s.prob=0
 case neg=>
  obtain rfl:=h1 kZ;clear h0 h1;have HR:am (verifyE s=buildE s.prob):=aa (by rw[HV.o,if_pos kZ]);generalize buildE s.prob=be at kZ HR;have hbe':(be != 0)=true:=by simpa using kZ
  clear HV kZ
  go_wp2_with ((refine wpList_store_row rfl 35 (.tmp 3) (.tmp 9) rfl w1.heap.size zeroSys rfl rfl 35 _ (ap w1 (.cells zeroSys 35)) (by kernel_rfl) rfl (by simp[Value.oneCell']) (gQ (fun W=>Below w.heap.size w W) (below_setRow (eN.o.alloc fT _) fT _) ?_);intro W2 fg;have cS:=aa fg;clear fg))
  go_ret
  exact⟨aG HR.o.symm,cS.o⟩
 obtain⟨uc,us,vt,ve,rfl,SZ⟩:=h0 kZ;have HR:am (verifyE s=if s.n=s.prob.t.n/\s.tab=(aN s.prob).tab/\s.ex=(aN s.prob).ex then 0 else 3):=aa (by rw[HV.o,if_neg (by omega)];rfl);have za:=aa SZ;obtain⟨⟨qc,dc,e1⟩,⟨qs,ds,e2⟩,⟨qt,dt,e3⟩,⟨qe,de,e4⟩⟩:=bM SZ;clear h1 SZ HV;rw[kZ];clear kZ;generalize sQ:(aN s.prob).tab=bt at *;generalize kV:(aN s.prob).ex=bx at *;have Di:am (mX w1 vt bt):=aa (by rw[<-sQ];exact za.o.tab);have m3:am (zx w1 ve bx):=aa (by rw[<-kV];exact za.o.ex);clear sQ kV za;subst e1 e2 e3 e4;have hone:(bZ s.prob (.slice qc (aN s.prob).prob.t.cases.length dc) (.slice qs (aN s.prob).prob.a.states.length ds) s.prob.t.n (.slice qt bt.length dt) (.slice qe bx.length de)).all (·.oneCell')=true:=by simp[Value.oneCell']
 by_cases hn:s.n=s.prob.t.n
 case neg=>
  have yN:(s.n != s.prob.t.n)=true:=by simpa using hn
  have eJ:am (verifyE s=3):=aa (by rw[HR.o,if_neg (fun h=>hn h.1)]);clear hn HR
  go_wp2_with ((refine wpList_store_row rfl 35 (.tmp 3) (.tmp 9) rfl w1.heap.size (bZ s.prob (.slice qc (aN s.prob).prob.t.cases.length dc) (.slice qs (aN s.prob).prob.a.states.length ds) s.prob.t.n (.slice qt bt.length dt) (.slice qe bx.length de)) rfl rfl 35 _ (ap w1 (.cells zeroSys 35)) (by kernel_rfl) rfl hone (gQ (fun W=>Below w.heap.size w W/\Below w1.heap.size w1 W/\∃ c,W.heap[w1.heap.size]?=some (.cells c 35)/\c=bZ s.prob _ _ s.prob.t.n _ _) ⟨below_setRow (eN.o.alloc fT _) fT _,below_setRow ((Below.refl _ w1).alloc (Nat.le_refl _) _) (Nat.le_refl _) _,_,setRow_heap _ _ _ _ _ _ (ap w1 _),rfl⟩ ?_);intro W2 fg;obtain⟨g1,g2,c2,g3,jc⟩:=fg;subst jc;have tS:=ab (af g2 dP.o);have tT:=ab g3;have G1:=aa g1;have G2:=aa g2;have G3:=aa g3;clear g1 g2 g3))
  go_ret
  exact⟨aG eJ.o.symm,G1.o⟩
 have yN:(s.n != s.prob.t.n)=false:=by simpa using hn
 have rJ:=aa hn;clear hn
 go_wp2_with ((refine wpList_store_row rfl 35 (.tmp 3) (.tmp 9) rfl w1.heap.size (bZ s.prob (.slice qc (aN s.prob).prob.t.cases.length dc) (.slice qs (aN s.prob).prob.a.states.length ds) s.prob.t.n (.slice qt bt.length dt) (.slice qe bx.length de)) rfl rfl 35 _ (ap w1 (.cells zeroSys 35)) (by kernel_rfl) rfl hone (gQ (fun W=>Below w.heap.size w W/\Below w1.heap.size w1 W/\∃ c,W.heap[w1.heap.size]?=some (.cells c 35)/\c=bZ s.prob _ _ s.prob.t.n _ _) ⟨below_setRow (eN.o.alloc fT _) fT _,below_setRow ((Below.refl _ w1).alloc (Nat.le_refl _) _) (Nat.le_refl _) _,_,setRow_heap _ _ _ _ _ _ (ap w1 _),rfl⟩ ?_);intro W2 fg;obtain⟨g1,g2,c2,g3,jc⟩:=fg;subst jc;have tS:=ab (af g2 dP.o);have tT:=ab g3;have G1:=aa g1;have G2:=aa g2;have G3:=aa g3;clear g1 g2 g3))
 refine(D6 _ _ s.tab bt W2 (HT.o.up up_view G1.o) (Di.o.up up_view G2.o)).mono ?_;rintro e w3 ⟨rfl,bG⟩;clear tS tT;have tS:=ab (af bG (af G2.o dP.o));have tT:=ab (af bG G3.o);have uq:=ae G1.o bG;have hbw4:=ae G2.o bG;cases ht:decide (s.tab=bt) with
 | false=>
  have eJ:am (verifyE s=3):=aa (by rw[HR.o,if_neg (fun h=>of_decide_eq_false ht h.2.1)]);clear ht HR
  go_wp2_with fail
  go_ret
  exact⟨aG eJ.o.symm,uq⟩
 | true=>
  have eJ:am (verifyE s=if s.ex=bx then 0 else 3):=aa (by
   rw[HR.o];by_cases h:s.ex=bx
   ·rw[if_pos ⟨rJ.o,of_decide_eq_true ht,h⟩,if_pos h]
   ·rw[if_neg (fun h'=>h h'.2.2),if_neg h])
  clear ht HR
  go_wp2_with fail
  refine(D8 _ _ s.ex bx w3 (HE.o.up up_ex uq) (m3.o.up up_ex hbw4)).mono ?_;rintro e w4 ⟨rfl,bO⟩;clear tS tT;cases ht:decide (s.ex=bx) with
  | false=>
   have gp:am (verifyE s=3):=aa (by rw[eJ.o,if_neg (of_decide_eq_false ht)]);clear ht eJ
   go_wp2_with fail
   go_ret
   exact⟨aG gp.o.symm,ae uq bO⟩
  | true=>
   have gp:am (verifyE s=0):=aa (by rw[eJ.o,if_pos (of_decide_eq_true ht)]);clear ht eJ
   go_wp2_with fail
   go_ret
   exact⟨aG gp.o.symm,ae uq bO⟩
theorem Fg{w:World} {B:Nat} {cs:Array Value} {t:TypeId} {fz:Nat × Nat} (h:w.heap[B]?=some (.cells cs t fz)) (o:Nat) (hf:¬ (fz.1<=o/\o<fz.2)):w.frozen? ⟨B,o,none⟩=false:=by
 simp[World.frozen?,h];simpa using hf
def lq(n:Nat) (f r:Nat->Int) (q:Nat):List Value:=(List.range n).map fun j=>Value.int .i64 (if j<q then f j else r j)
theorem Im(n:Nat) (f r:Nat->Int) (q:Nat):(lq n f r q).length=n:=by simp[lq]
theorem RK(n:Nat) (f r:Nat->Int) (q:Nat):(lq n f r q).set q (.int .i64 (f q))=lq n f r (q+1):=by
 refine List.ext_getElem (by simp[lq]) fun i h1 h2=>?_
 rw[List.getElem_set];simp only[lq,List.getElem_map,List.getElem_range];by_cases e:q=i
 ·subst e;rw[if_pos rfl,if_pos (by omega)]
 ·rw[if_neg e];by_cases h:i<q
  ·rw[if_pos h,if_pos (by omega)]
  ·rw[if_neg h,if_neg (by omega)]
theorem Fh(n:Nat) (f r:Nat->Int) (q:Nat) (h:f q=r q):lq n f r (q+1)=lq n f r q:=by
 unfold lq;refine List.map_congr_left fun j _=>?_
 by_cases e:j=q
 ·subst e;rw[if_pos (by omega),if_neg (by omega),h]
 ·by_cases h:j<q
  ·rw[if_pos (by omega),if_pos h]
  ·rw[if_neg (by omega),if_neg h]
theorem VW(p:Nat):hasB 0 p=false:=by simp[hasB]
theorem List.set_take'{α:Type} (l:List α) (i n:Nat) (a:α):(l.take n).set i a=(l.set i a).take n:=by rw[List.take_set]
theorem Va{s:Sys} (h:SysOk s):∀ x∈rD s,∀ y∈x,bS y:=fun x hx y hy=>by
 obtain⟨e,he,rfl⟩:=List.mem_map.1 hx;obtain⟨p,hp,rfl⟩:=List.mem_map.1 hy;have h1:=lK h (List.mem_range.1 he) (List.mem_range.1 hp);have h2:=h.tab;split
 ·exact⟨by omega,by omega⟩
 ·exact⟨by omega,by omega⟩
theorem RL{w:World} {pr:Option Addr} {n cr:Nat} {l:List Int} (h:aX w (.slice pr n cr) l) (hl:l.length=n):mJ w 1 (.slice pr n cr) n (l.map (Value.int .i64)):=by
 obtain⟨a,cap,e,⟨h1,h2,h3⟩,h4,h5⟩:=h;injection e with e1 e2 e3
 subst e1 e3;refine⟨pr,cr,rfl,fun e=>⟨by have:=h3 e;omega,h3 e⟩,by simp[hl],fun j u hj=>?_,fun u hu=>by obtain⟨x,_,rfl⟩:=List.mem_map.1 hu;rfl⟩;rw[List.getElem?_map]at hj;cases hx:l[j]? with
 | none=>rw[hx]at hj;cases hj
 | some x=>
  rw[hx]at hj;obtain⟨b,o,e,h6,_⟩:=h5 j x hx;rw[Nat.mul_one]at h6;exact⟨b,o,e,by rw[h6];exact hj⟩
theorem aJ.block{w:World} {base n:Nat} {e:TypeId} {v:Value} {xs:List Value} (h:aJ w base e 1 v n xs) (hn:0<n):∃ g cap cur fz,v=.slice (some ⟨g,0,none⟩) n cap/\base<=g/\w.heap[g]?=some (.cells cur e fz)/\(∀ i,i<cur.size->¬ (fz.1<=i/\i<fz.2))/\n<=cap/\cap<=maxLen/\cur.size=cap/\cur.toList.take n=xs/\v.ownBlock=some g:=by
 rcases h.2 with ⟨_,h0⟩|⟨g,cap,cur,fz,rfl,h1,h2,h3,h4,h5,h6,h7⟩
 ·omega
 ·exact⟨g,cap,cur,fz,rfl,h1,h2,h3,h4,h5,by omega,by rw[Nat.mul_one]at h7;exact h7,rfl⟩
theorem iJ{w:World} {s:Sys} (hs:SysOk s) {ve:Value} (h:zx w ve s.ex) {k:Nat} (hk:k<eS s):∃ b o pe ce,ve=.slice (some ⟨b,o,none⟩) (eS s) ce/\pe=some (⟨b,o,none⟩:Addr)/\∃ pw nw cw pv cv,w.cell? ⟨b,o+k * 3,none⟩=some (.int .i64 (cM s k).c)/\w.cell? ⟨b,o+k * 3+1,none⟩=some (.slice pw nw cw)/\w.cell? ⟨b,o+k * 3+2,none⟩=some (.slice pv (s.prob.rounds.toNat+1) cv)/\nw=s.prob.rounds.toNat ∧
  (0<nw->∃ b1 o1,pw=some ⟨b1,o1,none⟩/\w.cell? ⟨b1,o1+(nw - 1) * 7+6,none⟩=some (.int .i64 (fltS s k)))/\(nw=0->fltS s k=0) ∧
  ∃ b2 o2 pr cr,pv=some ⟨b2,o2,none⟩/\w.cell? ⟨b2,o2+s.prob.rounds.toNat,none⟩=some (.slice pr (nS s) cr)/\aX w (.slice pr (nS s) cr) ((List.range (nS s)).map (finS s k)):=by
 obtain⟨a,ce,e0,_,_,ep⟩:=h.at;obtain⟨b,o,rfl,⟨c1,_⟩,⟨uw,c2,h2⟩,⟨uv,c3,h3⟩⟩:=ep k hk;have hx:s.ex[k]=cM s k:=by unfold cM;exact(az default hk).symm
 rw[hx]at c1 h2 h3;have Jq:=hs.word k hk;obtain⟨wY,hvr⟩:=hs.views k hk;obtain⟨pw,cw,rfl,_,_,ew⟩:=h2.at;obtain⟨pv,cv,rfl,_,_,ev⟩:=h3.at;obtain⟨b2,o2,e2,vr,cr',hr⟩:=ev s.prob.rounds.toNat (by omega);rw[Nat.mul_one]at cr'
 have cA:(cM s k).views[s.prob.rounds.toNat]'(by omega)=(List.range (nS s)).map (finS s k):=by
  have cP:=(hvr _ (List.getElem_mem (l:=(cM s k).views) (show s.prob.rounds.toNat<(cM s k).views.length by omega))).1;refine List.ext_getElem (by simp[cP]) fun i h1 h2=>?_
  simp only[List.getElem_map,List.getElem_range];unfold finS;rw[az [] (show s.prob.rounds.toNat<(cM s k).views.length by omega),az 0 h1]
 rw[cA]at hr;obtain⟨pr,cr,rfl,_⟩:=hr.at;rw[show ((List.range (nS s)).map (finS s k)).length=nS s by simp]at cr' hr;refine⟨b,o,_,ce,e0,rfl,pw,_,cw,pv,cv,c1,c2,by rw[wY]at c3;exact c3,Jq,fun h0=>?_,fun h0=>?_,b2,o2,pr,cr,e2,cr',hr⟩
 ·obtain⟨b1,o1,e1,_,_,_,_,_,_,c6,_⟩:=ew ((cM s k).word.length - 1) (by omega);refine⟨b1,o1,e1,?_⟩;rw[c6];unfold fltS zs;rw[if_neg (by omega),az default (show (cM s k).word.length - 1<(cM s k).word.length by omega)]
 ·unfold fltS zs;rw[if_pos h0]
def gU(w:World) (base B:Nat) (s:Sys):Prop:=base<=B/\∃ vl,w.heap[B]?=some (.cells #[.int .i64 (nS s),vl] 201)/\cT w base vl (rD s)
theorem gU.at{w:World} {base B:Nat} {s:Sys} (h:gU w base B s) (hs:SysOk s):FinAt w B s:=by
 obtain⟨_,vl,h1,h2⟩:=h;exact⟨vl,h1,nL h2 (Va hs) (by rw[Bd];have:=hs.count;omega) (fun x hx=>by obtain⟨e,_,rfl⟩:=List.mem_map.1 hx;rw[lJ];have:=hs.n.2.1;omega)⟩
theorem aJ.keepB{w V:World} {base k n:Nat} {e:TypeId} {v:Value} {xs:List Value} (h:aJ w base e k v n xs) (hk:∀ g,base<=g->g<w.heap.size->V.heap[g]?=w.heap[g]?):aJ V base e k v n xs:=by
 obtain⟨hl,h⟩:=h;refine⟨hl,?_⟩;rcases h with h|⟨g,cap,cur,fz,h1,h2,h3,h4⟩
 ·exact .inl h
 ·exact .inr ⟨g,cap,cur,fz,h1,h2,(hk g h2 (aC h3)).trans h3,h4⟩
theorem aJ.baseB{w:World} {base b k n:Nat} {e:TypeId} {v:Value} {xs:List Value} (h:aJ w base e k v n xs) (hb:b<=base):aJ w b e k v n xs:=by
 obtain⟨hl,h⟩:=h;refine⟨hl,?_⟩;rcases h with h|⟨g,cap,cur,fz,h1,h2,h3,h4⟩
 ·exact .inl h
 ·exact .inr ⟨g,cap,cur,fz,h1,Nat.le_trans hb h2,h3,h4⟩
theorem gU.keep{w V:World} {base B:Nat} {s:Sys} (h:gU w base B s) (hk:∀ g,base<=g->g<w.heap.size->V.heap[g]?=w.heap[g]?):gU V base B s:=by
 obtain⟨h0,vl,h1,xs,h2,h3⟩:=h;exact⟨h0,vl,(hk B h0 (aC h1)).trans h1,xs,h2.keepB hk,fun i hi=>by obtain⟨x,q1,q2⟩:=h3 i hi;exact⟨x,q1,q2.keepB hk⟩⟩
theorem gU.mono{w:World} {base b B:Nat} {s:Sys} (h:gU w base B s) (hb:b<=base):gU w b B s:=by
 obtain⟨h0,vl,h1,xs,h2,h3⟩:=h;exact⟨Nat.le_trans hb h0,vl,h1,xs,h2.baseB hb,fun i hi=>by obtain⟨x,q1,q2⟩:=h3 i hi;exact⟨x,q1,q2.baseB hb⟩⟩
theorem gU.up{w V:World} {base B:Nat} {s:Sys} (h:gU w base B s) (hb:Below w.heap.size w V):gU V base B s:=h.keep fun g _ hg=>hb.block g hg
theorem D9(s:Sys) (vc vs vt ve:Value) (w:World) (hs:IsSys w s vc vs vt ve) (hN:movesN s.prob.a.states<1099511627776) :
  Calls Tryz.prog 128 #[.agg (bZ s.prob vc vs s.n vt ve)] w fun e w'=>∃ v,e=.returned (.tuple #[v,.int .i64 (verifyE s)])/\Below w.heap.size w w'/\(verifyE s≠0->v=.pointer none)/\(verifyE s=0->∃ B,v=.pointer (some ⟨B,0,none⟩)/\FinAt w' B s/\gU w' w.heap.size B s):=by
 have HS:=aa hs;obtain⟨⟨pc,cc,rfl⟩,⟨ps,cs,rfl⟩,⟨pt,ct,rfl⟩,⟨pe,ce,rfl⟩⟩:=bM hs;clear hs;have HC:=aa (fun W (hb:Below w.heap.size w W)=>pJ s _ _ _ _ W (HS.o.up hb) hN);obtain⟨i0,df,cH,cj,cI⟩:=info_parts Tryz.infoInt;obtain⟨j0,nU,je,jx,iK⟩:=info_parts Tryz.infoInts
 go_enter Tryz.func128,Tryz.ntmps128
 go_wp2_with fail
 refine aQ (fun W=>Below w.heap.size w W/\∃ c,W.heap[w.heap.size]?=some (.cells c 35)/\c=bZ s.prob _ _ s.n _ _) ⟨by go_grown,_,ap _ _,rfl⟩ (fun W0 bd=>?_);obtain⟨aK,_,hA,rfl⟩:=bd;refine(HC.o W0 aK).mono ?_;rintro e w1 ⟨rfl,aM⟩;have dy:=ae aK aM;have eO:=af aM hA;have tS:=ab eO;have dP:=aa eO;have eN:=aa dy;have fT:=dy.size;have gV:=aC eO;clear hA eO aK aM HC dy;by_cases hv:verifyE s=0
 case neg=>
  have HV:=aa hv;obtain⟨ev,l8⟩:∃ ev,verifyE s=ev:=⟨_,rfl⟩;rw[l8]at hv ⊢;have HE:=aa l8;have Jv:(ev != 0)=true:=by simpa using hv
  clear hv l8
  go_wp2_with fail
  go_ret2
  exact⟨_,by rw[HE.o];rfl,eN.o,fun _=>rfl,fun h=>absurd h HV.o⟩
 have CE:=aa hv;have fV:=ja hv;have dL:=aa fV;rw[hv];clear hv;have fw:=fV.n;have F2:=aa (HS.o.ex);have HK:am (∀ k,k<eS s->_):=aa (fun k (hk:k<eS s)=>iJ fV F2.o hk);have jU:s.ex.length=eS s:=rfl;rw[jU]at tS HK dP;clear jU;obtain⟨n,hn⟩:∃ n,nS s=n:=⟨_,rfl⟩;obtain⟨m,hm⟩:∃ m,eS s=m:=⟨_,rfl⟩;have FS:s.prob.t.n=(n:Int):=by omega
 have hm4:m<=4096:=by have:=fV.count;omega
 have jz:1<=n/\n<=5:=by omega
 have qi:=fV.rounds;obtain⟨r,hr⟩:∃ r,s.prob.rounds.toNat=r:=⟨_,rfl⟩;have XK:r<=6:=by omega
 have yV:=aa fV.flt;rw[hn,hm,hr]at HK;rw[hm]at tS dP yV;have t0:w1.cell? ⟨w.heap.size,0,none⟩=some (.int .i64 n):=by rw[tS 0,<-FS];rfl
 have t9:∀ o,(w1.alloc o).cell? ⟨w.heap.size,9,none⟩=some (.slice pe m ce):=fun o=>(ab (aq o dP.o) 9).trans rfl
 clear tS
 go_wp2_with fail
 clear t0 t9;refine bF (fun W=>Below w.heap.size w W/\W.heap[w1.heap.size]?=some (.cells #[.int .i64 n,.slice none 0 0] 201)) ⟨eN.o.alloc fT _,ap _ _⟩ (fun W2 fg=>?_);generalize w1.heap.size=B at fg fT gV;have cS:=aa fg;clear fg eN dP;obtain⟨L,hL⟩:∃ L:Nat->List (List Int),L=fun k=>(List.range k).map (fr s):=⟨_,rfl⟩
 have HL:am (L 0=[]/\(∀ k,L (k+1)=L k++[fr s k])/\L m=rD s/\∀ k,(L k).length=k):=aa (by
  subst hL;refine⟨rfl,fun k=>by simp[List.range_succ],?_,fun k=>by simp⟩
  unfold rD;rw[hm])
 clear hL;have nq:=aa hn;have HMM:=aa hm;clear hn hm fV fw hr qi FS
 go_loopw [26] (fun i wr=>∃ k:Nat,k<=m/\i=.int .i64 k/\Below w.heap.size w wr/\∃ lv,wr.heap[B]?=some (.cells #[.int .i64 n,lv] 201)/\cT wr w.heap.size lv (L k)) (fun i _=>m - (intOf i).toNat)
 ·exact⟨0,by omega,rfl,cS.o.1,_,cS.o.2,by rw[HL.o.1];exact cB.nil _ _⟩
 ·
  clear cS;obtain⟨k,hk,rfl,aA,lv,hB,xs,bg,jU⟩:=hrel;obtain⟨al,cl,rfl⟩:=bg.slice;have HB:=aa hB;have bP:=aa bg;have C8:=aa jU;have aY:=aa aA;have vg:=aC hB;have vj:=aA.size;clear bg jU;by_cases aB:k<m
  ·obtain⟨b,o,_,ce',e0,rfl,pw,nw,cw,pv,cv,c1,c2,c3,mn,fN,gW,b2,o2,pr,cr,e2,c4,cA⟩:=HK.o k aB;injection e0 with e0 e8 e9
   clear e8 e9;subst e0 e2 mn;have d1:=ak aA c1;have d2:=ak aA c2;have d3:=ak aA c3;have hA:Below wr.heap.size wr (wr.alloc (.cells #[.int .i64 (cM s k).c,.slice pw nw cw,.slice (some ⟨b2,o2,none⟩) (nw+1) cv] 89)):=by go_grown
   have WR:=ae aA hA;have d4:=ak WR c4;have ku:=aa (cA.up up_int WR);have yE:=yV.o k aB;obtain⟨fl,S4⟩:∃ fl,fltS s k=fl:=⟨_,rfl⟩;rw[S4]at fN gW yE;have IU:=aa S4
   have Tb:am (mJ (wr.alloc (.cells #[.int .i64 (cM s k).c,.slice pw nw cw,.slice (some ⟨b2,o2,none⟩) (nw+1) cv] 89)) 1 (.slice pr n cr) n ((List.range n).map fun j=>Value.int .i64 (finS s k j))):=aa (by
    have h:=RL ku.o (by simp);rw[List.map_map]at h
    exact h)
   have WY:wr.heap.size<(wr.alloc (.cells #[.int .i64 (cM s k).c,.slice pw nw cw,.slice (some ⟨b2,o2,none⟩) (nw+1) cv] 89)).heap.size:=by simp
   have Xr:=aa hA;have jZ:0<n:=by omega
   have tX:=ab (ap wr (.cells #[.int .i64 (cM s k).c,.slice pw nw cw,.slice (some ⟨b2,o2,none⟩) (nw+1) cv] 89));clear c1 c2 c3 c4 cA hA S4 hB aA;by_cases hw:nw=0
   ·obtain rfl:=gW hw;subst hw;simp only[Nat.zero_add,Nat.add_zero]at d3 d4 tX WY Tb Xr
    go_wp2_with (at_builtin;(refine kS _ rfl (.const (.slice none 0 0)) (.tmp 49) 38 rfl wr.heap.size 3 i0 _ 1 8 Tryz.underlying38 df cH cj cI rfl (by decide) (.slice none 0 0) 0 [] rfl (aJ.nil _ _ _ _) _ n ((List.range n).map fun j=>Value.int .i64 (finS s k j)) rfl Tb.o (by unfold maxLen;omega) (by omega) (by simp) ?_;intro v2 w2 fL dD _;rw[Nat.zero_add,List.nil_append]at fL;have cX:=aa (Below.grown Xr.o dD (Nat.le_of_lt WY) (fun g h=>by cases h));obtain⟨g,cap,cur,fz,kT,hg,m8,nf,iL,qz,jH,nj,_⟩:=fL.block jZ;subst kT;have HG:=aa (And.intro m8 (And.intro nf (And.intro jH nj)));clear fL dD m8 nf jH nj))
    clear tX;obtain⟨wrA,BB⟩:∃ x,x=wr:=⟨_,rfl⟩;subst BB;have hgw:=aC HG.o.1
    go_loopw [53] (fun i wi=>∃ (p:Nat) (cu:Array Value),p<=n/\i=.int .i64 p/\Only g w2 wi/\wi.heap[g]?=some (.cells cu 3 fz)/\cu.size=cap/\cu.toList.take n=lq n (fun p=>if hasB (fltS s k) p then -1 else finS s k p) (finS s k) p) (fun i _=>n - (intOf i).toNat)
    ·exact⟨0,cur,by omega,rfl,Only.refl _ _,HG.o.1,HG.o.2.2.1,by rw[HG.o.2.2.2];simp[lq]⟩
    ·
     obtain⟨p,cu,hp,rfl,ho,rI,Tx,C6⟩:=hrel;by_cases FS:p<n
     ·have HO:=aa ho;have T4:=aa rI;have nX:=aa C6;have tq:=ab rI p;rw[Array.getElem?_eq_getElem (show p<cu.size by omega)]at tq;have zq:=Fg rI p (HG.o.2.1 p (by have:=HG.o.2.2.1;omega));clear ho rI C6;have HS:am ((if hasB (fltS s k) p then -1 else finS s k p)=finS s k p):=aa (by rw[IU.o,VW];rfl);clear tq zq
      go_wp2_with fail
      go_roundw
      ·exact⟨p+1,cu,by omega,by go_num,HO.o,T4.o,Tx,by rw[Fh _ _ _ _ HS.o];exact nX.o⟩
      ·simp[intOf];omega
     ·obtain rfl:p=n:=by omega
      have kF:=ho.below cX.o (by omega);have Jh:=af kF HB.o;have tB:=ab Jh 1
      have td:aJ wr w.heap.size 3 1 (.slice (some ⟨g,0,none⟩) p cap) (fr s k).length ((fr s k).map (Value.int .i64)):=by
       rw[lJ,nq.o]
       have e:(fr s k).map (Value.int .i64)=lq p (fun p=>if hasB (fltS s k) p then -1 else finS s k p) (finS s k) p:=by
        unfold fr lq;rw[nq.o,List.map_map];refine List.map_congr_left fun j hj=>?_
        rw[if_pos (List.mem_range.1 hj)];rfl
       rw[e];exact⟨by rw[Im];omega,.inr ⟨g,cap,cu,fz,rfl,by omega,rI,fun i hi=>HG.o.2.1 i (by have:=HG.o.2.2.1;omega),iL,qz,by omega,by rw[Nat.mul_one];exact C6⟩⟩
      have dx:=aa ((bP.o.up kF).up ((Below.refl _ wr).alloc (Nat.le_refl _) (.cells #[.slice (some ⟨g,0,none⟩) p cap] 38)));have bE:=aa (dU wr [.slice (some ⟨g,0,none⟩) p cap] 38)
      have Sl:am (∀ i (hi:i<(L k).length),∃ x,xs[i]?=some x/\aJ (wr.alloc (.cells #[.slice (some ⟨g,0,none⟩) p cap] 38)) w.heap.size 3 1 x (L k)[i].length ((L k)[i].map (Value.int .i64))):=aa (fun i hi=>by
       obtain⟨x,q1,q2⟩:=C8.o i hi
       exact⟨x,q1,(q2.up kF).up ((Below.refl _ wr).alloc (Nat.le_refl _) _)⟩)
      have zD:=aa (td.up ((Below.refl _ wr).alloc (Nat.le_refl _) (.cells #[.slice (some ⟨g,0,none⟩) p cap] 38)));have CI:=aa Jh;have kH:=aa (ae aY.o kF);have Xn:=HL.o.2.2.2 k;have hLk2:(L k).length<=4096:=by omega
      have Ar:=kH.o.size;clear Xn ho rI C6 kF Jh td
      go_wp2_with (at_builtin;(refine bh _ rfl (.tmp 69) (.tmp 71) 56 rfl w.heap.size 38 j0 _ 1 24 Tryz.underlying56 nU je jx iK rfl (by decide) _ (L k).length xs rfl dx.o ⟨wr.heap.size,0,none⟩ 1 1 [.slice (some ⟨g,0,none⟩) p cap] rfl rfl bE.o (by simp[Value.oneCell']) (by unfold maxLen;omega) (by omega) (by simp;omega) ?_;intro v3 w3 ol jT _;obtain⟨av3,cv3,rfl⟩:=ol.slice;have vA:=ig dx.o jT CI.o (by decide);have c3:=ab vA 1;have f3:=aH vA 1;have dT:=aa vA;have Jp:am (cT w3 w.heap.size (.slice av3 ((L k).length+1) cv3) (L k++[fr s k])):=aa (cB.snoc (l:=L k) dx.o Sl.o (by decide) zD.o jT ol);have ID:=aa (eK kH.o (Nat.le_refl _) dx.o jT);clear ol jT vA))
      go_roundw
      ·
       refine⟨k+1,by omega,by go_num,ID.o.setCell (by dsimp only;omega) _,.slice av3 ((L k).length+1) cv3,?_,?_⟩
       ·rw[aI dT.o];rfl
       ·rw[HL.o.2.1 k];exact((KeepT.refl [201] w.heap.size w3 (ms:=[])).set dT.o (by simp) (by omega) _).fresh Jp.o (by decide) (by decide)
      ·simp[intOf];omega
   ·obtain⟨q,rfl⟩:∃ q,nw=q+1:=⟨nw - 1,by omega⟩;obtain⟨b1,o1,rfl,c5⟩:=fN (by omega);have d5:=ak WR c5;rw[Nat.add_sub_cancel]at d5;clear c5 fN gW
    go_wp2_with (at_builtin;(refine kS _ rfl (.const (.slice none 0 0)) (.tmp 49) 38 rfl wr.heap.size 3 i0 _ 1 8 Tryz.underlying38 df cH cj cI rfl (by decide) (.slice none 0 0) 0 [] rfl (aJ.nil _ _ _ _) _ n ((List.range n).map fun j=>Value.int .i64 (finS s k j)) rfl Tb.o (by unfold maxLen;omega) (by omega) (by simp) ?_;intro v2 w2 fL dD _;rw[Nat.zero_add,List.nil_append]at fL;have cX:=aa (Below.grown Xr.o dD (Nat.le_of_lt WY) (fun g h=>by cases h));obtain⟨g,cap,cur,fz,kT,hg,m8,nf,iL,qz,jH,nj,_⟩:=fL.block jZ;subst kT;have HG:=aa (And.intro m8 (And.intro nf (And.intro jH nj)));clear fL dD m8 nf jH nj))
    clear tX;obtain⟨wrA,BB⟩:∃ x,x=wr:=⟨_,rfl⟩;subst BB;have hgw:=aC HG.o.1
    go_loopw [53] (fun i wi=>∃ (p:Nat) (cu:Array Value),p<=n/\i=.int .i64 p/\Only g w2 wi/\wi.heap[g]?=some (.cells cu 3 fz)/\cu.size=cap/\cu.toList.take n=lq n (fun p=>if hasB (fltS s k) p then -1 else finS s k p) (finS s k) p) (fun i _=>n - (intOf i).toNat)
    ·exact⟨0,cur,by omega,rfl,Only.refl _ _,HG.o.1,HG.o.2.2.1,by rw[HG.o.2.2.2];simp[lq]⟩
    ·
     obtain⟨p,cu,hp,rfl,ho,rI,Tx,C6⟩:=hrel;by_cases FS:p<n
     ·have HO:=aa ho;have T4:=aa rI;have nX:=aa C6;have tq:=ab rI p;rw[Array.getElem?_eq_getElem (show p<cu.size by omega)]at tq;have zq:=Fg rI p (HG.o.2.1 p (by have:=HG.o.2.2.1;omega));clear ho rI C6;have gJ:=ra fl p;cases hb:hasB fl p with
      | true=>
       rw[hb]at gJ;have HS:am ((if hasB (fltS s k) p then -1 else finS s k p)=-1):=aa (by rw[IU.o,hb];rfl);clear hb
       go_wp2_with fail
       go_roundw
       ·
        refine⟨p+1,_,by omega,by go_num,HO.o.setCell p _,aI T4.o p _,by simpa using Tx,?_⟩;rw[Array.toList_setIfInBounds,<-List.set_take',nX.o,<-RK n (fun p=>if hasB (fltS s k) p then -1 else finS s k p) (finS s k) p,HS.o]
       ·simp[intOf];omega
      | false=>
       rw[hb]at gJ;have HS:am ((if hasB (fltS s k) p then -1 else finS s k p)=finS s k p):=aa (by rw[IU.o,hb];rfl);clear hb tq zq
       go_wp2_with fail
       go_roundw
       ·exact⟨p+1,cu,by omega,by go_num,HO.o,T4.o,Tx,by rw[Fh _ _ _ _ HS.o];exact nX.o⟩
       ·simp[intOf];omega
     ·obtain rfl:p=n:=by omega
      have kF:=ho.below cX.o (by omega);have Jh:=af kF HB.o;have tB:=ab Jh 1
      have td:aJ wr w.heap.size 3 1 (.slice (some ⟨g,0,none⟩) p cap) (fr s k).length ((fr s k).map (Value.int .i64)):=by
       rw[lJ,nq.o]
       have e:(fr s k).map (Value.int .i64)=lq p (fun p=>if hasB (fltS s k) p then -1 else finS s k p) (finS s k) p:=by
        unfold fr lq;rw[nq.o,List.map_map];refine List.map_congr_left fun j hj=>?_
        rw[if_pos (List.mem_range.1 hj)];rfl
       rw[e];exact⟨by rw[Im];omega,.inr ⟨g,cap,cu,fz,rfl,by omega,rI,fun i hi=>HG.o.2.1 i (by have:=HG.o.2.2.1;omega),iL,qz,by omega,by rw[Nat.mul_one];exact C6⟩⟩
      have dx:=aa ((bP.o.up kF).up ((Below.refl _ wr).alloc (Nat.le_refl _) (.cells #[.slice (some ⟨g,0,none⟩) p cap] 38)));have bE:=aa (dU wr [.slice (some ⟨g,0,none⟩) p cap] 38)
      have Sl:am (∀ i (hi:i<(L k).length),∃ x,xs[i]?=some x/\aJ (wr.alloc (.cells #[.slice (some ⟨g,0,none⟩) p cap] 38)) w.heap.size 3 1 x (L k)[i].length ((L k)[i].map (Value.int .i64))):=aa (fun i hi=>by
       obtain⟨x,q1,q2⟩:=C8.o i hi
       exact⟨x,q1,(q2.up kF).up ((Below.refl _ wr).alloc (Nat.le_refl _) _)⟩)
      have zD:=aa (td.up ((Below.refl _ wr).alloc (Nat.le_refl _) (.cells #[.slice (some ⟨g,0,none⟩) p cap] 38)));have CI:=aa Jh;have kH:=aa (ae aY.o kF);have Xn:=HL.o.2.2.2 k;have hLk2:(L k).length<=4096:=by omega
      have Ar:=kH.o.size;clear Xn ho rI C6 kF Jh td
      go_wp2_with (at_builtin;(refine bh _ rfl (.tmp 69) (.tmp 71) 56 rfl w.heap.size 38 j0 _ 1 24 Tryz.underlying56 nU je jx iK rfl (by decide) _ (L k).length xs rfl dx.o ⟨wr.heap.size,0,none⟩ 1 1 [.slice (some ⟨g,0,none⟩) p cap] rfl rfl bE.o (by simp[Value.oneCell']) (by unfold maxLen;omega) (by omega) (by simp;omega) ?_;intro v3 w3 ol jT _;obtain⟨av3,cv3,rfl⟩:=ol.slice;have vA:=ig dx.o jT CI.o (by decide);have c3:=ab vA 1;have f3:=aH vA 1;have dT:=aa vA;have Jp:am (cT w3 w.heap.size (.slice av3 ((L k).length+1) cv3) (L k++[fr s k])):=aa (cB.snoc (l:=L k) dx.o Sl.o (by decide) zD.o jT ol);have ID:=aa (eK kH.o (Nat.le_refl _) dx.o jT);clear ol jT vA))
      go_roundw
      ·
       refine⟨k+1,by omega,by go_num,ID.o.setCell (by dsimp only;omega) _,.slice av3 ((L k).length+1) cv3,?_,?_⟩
       ·rw[aI dT.o];rfl
       ·rw[HL.o.2.1 k];exact((KeepT.refl [201] w.heap.size w3 (ms:=[])).set dT.o (by simp) (by omega) _).fresh Jp.o (by decide) (by decide)
      ·simp[intOf];omega
  ·obtain rfl:k=m:=by omega
   have tB:=ab hB 1;clear hB aA
   go_wp2_with fail
   go_ret2
   refine⟨_,by rw[CE.o];rfl,aY.o,fun h=>absurd CE.o h,fun _=>⟨B,rfl,?_⟩⟩
   have qR:cT wr w.heap.size (.slice al (L k).length cl) (rD s):=by
    have h3:=HL.o.2.2.1;rw[<-h3];exact⟨xs,bP.o,C8.o⟩
   have hfo:gU wr w.heap.size B s:=⟨by omega,_,by rw[nq.o];exact HB.o,qR⟩;exact⟨hfo.at dL.o,hfo⟩
def oblM(s:Sys) (e:Nat):Nat:=maskN (fun p=>!hasB (fltS s e) p) (nS s)
theorem andNot_mask:∀ n:Fin 6,∀ f:Fin 32,bits .andNot .i64 (((2 ^ n.val - 1:Nat):Int)) (f.val:Int)=((maskN (fun p=>!hasB (f.val:Int) p) n.val:Nat):Int):=by decide +kernel
theorem shl_one:∀ n:Fin 6,wrap64 (wrap64 ((2:Int) ^ n.val) - 1)=((2 ^ n.val - 1:Nat):Int):=by decide +kernel
theorem Pn(s:Sys) (hs:SysOk s) (e:Nat) (he:e<eS s) (vc vs:Value) (pt:Option Addr) (nt ct:Nat) (pe:Option Addr) (ne ce:Nat) (pw:Option Addr) (nw cw:Nat) (vv:Value) (w:World) (mn:nw<=6)
  (fN:0<nw->∃ b1 o1,pw=some ⟨b1,o1,none⟩/\w.cell? ⟨b1,o1+(nw - 1) * 7+6,none⟩=some (.int .i64 (fltS s e))) (gW:nw=0->fltS s e=0) :
  Calls Tryz.prog 87 #[.agg (bZ s.prob vc vs s.n (.slice pt nt ct) (.slice pe ne ce)),.agg #[.int .i64 (cM s e).c,.slice pw nw cw,vv]] w fun r w'=>r=.returned (.int .i64 (oblM s e:Nat))/\Below w.heap.size w w':=by
 have hn:=hs.n;have yE:=hs.flt e he;obtain⟨f,hf⟩:∃ f:Nat,fltS s e=f:=⟨(fltS s e).toNat,by omega⟩
 have FI:f<32:=by
  have h1:((2:Nat) ^ nS s:Int)<=((2 ^ 5:Nat):Int):=by exact_mod_cast Nat.pow_le_pow_right (show 0<2 by omega) hn.2.1
  have h2:=yE.2;rw[hf]at h2;have h3:((2:Int) ^ nS s)=(((2:Nat) ^ nS s:Nat):Int):=by simp
  rw[h3]at h2;have h4:(2:Nat) ^ nS s<=2 ^ 5:=Nat.pow_le_pow_right (by omega) hn.2.1;omega
 have HAN:am (bits .andNot .i64 (((2 ^ nS s - 1:Nat):Int)) (f:Int)=(oblM s e:Nat)):=aa (by
  unfold oblM;rw[hf]
  exact andNot_mask ⟨nS s,by omega⟩ ⟨f,FI⟩)
 have JF:am (wrap64 (wrap64 ((2:Int) ^ nS s) - 1)=((2 ^ nS s - 1:Nat):Int)):=aa (shl_one ⟨nS s,by omega⟩)
 have HZ:am (f=0->((2 ^ nS s - 1:Nat):Int)=(oblM s e:Nat)):=aa fun h=>by
  subst h;have key:∀ n:Fin 6,((2 ^ n.val - 1:Nat):Int)=bits .andNot .i64 (((2 ^ n.val - 1:Nat):Int)) 0:=by decide +kernel
  exact(key ⟨nS s,by omega⟩).trans HAN.o
 rw[hf]at fN gW;have fw:s.n=(nS s:Int):=hn.2.2.1;have jz:=hn.2.1;rw[fw];generalize nS s=n at *;generalize oblM s e=ob at *;clear hn yE hf hs fw;have HW:am (∀ x:Int,wrap64 ((2:Int) ^ n)=x->wrap64 (x - 1)=((2 ^ n - 1:Nat):Int)):=aa fun x hx=>by rw[<-hx];exact JF.o
 obtain⟨pw2,hpw2⟩:∃ pw2:Int,wrap64 ((2:Int) ^ n)=pw2:=⟨_,rfl⟩;have yR:=HW.o pw2 hpw2;by_cases hw:nw=0
 ·have hz:=gW hw;subst hw;have HR:=aa (HZ.o (by omega));clear gW fN hz
  go_enter Tryz.func87,Tryz.ntmps87
  go_wp2_with fail
  go_ret
  exact⟨aG (yR.trans HR.o),by go_grown⟩
 ·obtain⟨q,rfl⟩:∃ q,nw=q+1:=⟨nw - 1,by omega⟩;obtain⟨b1,o1,rfl,c5⟩:=fN (by omega);rw[Nat.add_sub_cancel]at c5;have d5:∀ o1' o2',((w.alloc o1').alloc o2').cell? ⟨b1,o1+q * 7+6,none⟩=some (.int .i64 f):=fun o1' o2'=>ak (by go_grown) c5
  have lT:=HAN.o;clear c5 fN gW
  go_enter Tryz.func87,Tryz.ntmps87
  go_wp2_with fail
  go_ret
  exact⟨rfl,by go_grown⟩
theorem RM(s:Sys) (hv:verifyE s=0) (e:Nat) (he:e<eS s) (vc vs vt ve:Value) (w:World) (hs:IsSys w s vc vs vt ve) (hN:movesN s.prob.a.states<1099511627776) :
  Calls Tryz.prog 43 #[.agg (bZ s.prob vc vs s.n vt ve),.int .i64 e] w fun r w'=>r=.returned (.tuple #[.int .i64 (oblM s e:Nat),.int .i64 0])/\Below w.heap.size w w':=by
 have HS:=aa hs;obtain⟨⟨pc,cc,rfl⟩,⟨ps,cs,rfl⟩,⟨pt,ct,rfl⟩,⟨pe,ce,rfl⟩⟩:=bM hs;clear hs;have HC:=aa (fun W (hb:Below w.heap.size w W)=>pJ s _ _ _ _ W (HS.o.up hb) hN);have dL:=aa (ja hv);have HV:=aa hv;obtain⟨b,o,_,ce',e0,rfl,pw,nw,cw,pv,cv,c1,c2,c3,mn,fN,gW,-⟩:=iJ dL.o HS.o.ex he;injection e0 with e01 e02 e03
 subst e01;have BA:nw<=6:=by have:=dL.o.rounds;omega
 clear e02 e03 hv mn;obtain⟨m,hm⟩:∃ m,s.ex.length=m:=⟨_,rfl⟩;have vJ:e<m:=by rw[<-hm];exact he
 have gm:decide ((m:Int)<=(e:Int))=false:=decide_eq_false (by omega);have oI:decide (m<=e)=false:=decide_eq_false (by omega);have qU:=aa (fun W (hb:Below w.heap.size w W)=>Pn s dL.o e he (.slice pc s.prob.t.cases.length cc) (.slice ps s.prob.a.states.length cs) pt s.tab.length ct (some ⟨b,o,none⟩) s.ex.length ce pw nw cw (.slice pv (s.prob.rounds.toNat+1) cv) W BA (fun h=>by obtain⟨b1,o1,q1,q2⟩:=fN h;exact⟨b1,o1,q1,ak hb q2⟩) gW);rw[hm]at HC qU ⊢;have HM:=aa hm;clear fN gW hm
 go_enter Tryz.func43,Tryz.ntmps43
 go_wp2_with fail
 refine aQ (fun W=>Below w.heap.size w W/\∃ c,W.heap[w.heap.size]?=some (.cells c 35)/\c=bZ s.prob (.slice pc s.prob.t.cases.length cc) (.slice ps s.prob.a.states.length cs) s.n (.slice pt s.tab.length ct) (.slice (some ⟨b,o,none⟩) m ce)) ⟨by go_grown,_,ap _ _,rfl⟩ (fun W0 bd=>?_);obtain⟨aK,_,hA,rfl⟩:=bd;refine(HC.o W0 aK).mono ?_;rintro r w1 ⟨rfl,aM⟩;have eO:=af aM hA;have dP:=aa eO;have dy:=ae aK aM;have bL:=aa dy;rw[HV.o];have tS:=ab eO;have yS:∀ z:ExtW w1,∀ j,z.val.cell? ⟨w.heap.size,j,none⟩=_:=fun z=>ab (af z.ext dP.o)
 have y1:∀ z:ExtW w1,z.val.cell? ⟨b,o+e * 3,none⟩=_:=fun z=>ak (ae bL.o z.ext) c1
 have y2:∀ z:ExtW w1,z.val.cell? ⟨b,o+e * 3+1,none⟩=_:=fun z=>ak (ae bL.o z.ext) c2
 have y3:∀ z:ExtW w1,z.val.cell? ⟨b,o+e * 3+2,none⟩=_:=fun z=>ak (ae bL.o z.ext) c3
 have bQ:am (∀ y:ExtW w1,Calls Tryz.prog 87 #[.agg (bZ s.prob (.slice pc s.prob.t.cases.length cc) (.slice ps s.prob.a.states.length cs) s.n (.slice pt s.tab.length ct) (.slice (some ⟨b,o,none⟩) m ce)),.agg #[.int .i64 (cM s e).c,.slice pw nw cw,.slice pv (s.prob.rounds.toNat+1) cv]] y.val fun r w''=>r=.returned (.int .i64 (oblM s e:Nat))/\∃ z:ExtW w1,w''=z.val):=aa (fun y=>Calls.ext_of (qU.o y.val (ae bL.o y.ext)));clear hA eO aK aM HC qU c1 c2 c3 dy
 go_wp2_with fail
 refine aF (by kernel_rfl) (by kernel_rfl) ?_
 repeat (go_big_quiet_step ((go_at_call 87;exact bQ.o _)))
 refine wpQuiet_nil ?_;rintro _ ⟨xq,rfl⟩;clear tS yS y1 y2 y3
 go_wp2_with fail
 go_ret2
 exact⟨by simp,ae bL.o xq.ext⟩
theorem Aj(c f:Int) (pw:Option Addr) (nw cw:Nat) (vv:Value) (w:World) (mn:nw<=6) (fN:0<nw->∃ b1 o1,pw=some ⟨b1,o1,none⟩/\w.cell? ⟨b1,o1+(nw - 1) * 7+6,none⟩=some (.int .i64 f)) (gW:nw=0->f=0) :
  Calls Tryz.prog 61 #[.agg #[.int .i64 c,.slice pw nw cw,vv]] w fun r w'=>r=.returned (.int .i64 f)/\Below w.heap.size w w':=by
 by_cases hw:nw=0
 ·obtain rfl:=gW hw;subst hw;clear gW fN
  go_enter Tryz.func61,Tryz.ntmps61
  go_wp2_with fail
  go_ret
  exact⟨rfl,by go_grown⟩
 ·obtain⟨q,rfl⟩:∃ q,nw=q+1:=⟨nw - 1,by omega⟩;obtain⟨b1,o1,rfl,c5⟩:=fN (by omega);rw[Nat.add_sub_cancel]at c5;have d5:∀ o1',(w.alloc o1').cell? ⟨b1,o1+q * 7+6,none⟩=some (.int .i64 f):=fun o1'=>ak (by go_grown) c5
  clear c5 fN gW
  go_enter Tryz.func61,Tryz.ntmps61
  go_wp2_with fail
  go_ret
  exact⟨rfl,by go_grown⟩
theorem Vb{s:Sys} (hs:SysOk s) {e:Nat} (he:e<eS s):bits .andNot .i64 ((2:Int) ^ nS s - 1) (fltS s e)=(oblM s e:Nat):=by
 have hn:=hs.n;have yE:=hs.flt e he;obtain⟨f,hf⟩:∃ f:Nat,fltS s e=f:=⟨(fltS s e).toNat,by omega⟩
 have FI:f<32:=by
  have h2:=yE.2;rw[hf]at h2;have h3:((2:Int) ^ nS s)=(((2:Nat) ^ nS s:Nat):Int):=by simp
  rw[h3]at h2;have h4:(2:Nat) ^ nS s<=2 ^ 5:=Nat.pow_le_pow_right (by omega) hn.2.1;omega
 have key:∀ n:Fin 6,((2:Int) ^ n.val - 1)=((2 ^ n.val - 1:Nat):Int):=by decide +kernel
 rw[key ⟨nS s,by omega⟩];unfold oblM;rw[hf];exact andNot_mask ⟨nS s,by omega⟩ ⟨f,FI⟩
theorem Fi(s:Sys) (hs:SysOk s) (e:Nat) (he:e<eS s) (vc vs vt ve:Value) (w:World) (dC:IsSys w s vc vs vt ve) :
  Calls Tryz.prog 28 #[.agg (bZ s.prob vc vs s.n vt ve),.int .i64 e] w fun r w'=>r=.returned (.int .i64 (oblM s e:Nat))/\Below w.heap.size w w':=by
 have HS:=aa dC;obtain⟨⟨pc,cc,rfl⟩,⟨ps,cs,rfl⟩,⟨pt,ct,rfl⟩,⟨pe,ce,rfl⟩⟩:=bM dC;clear dC;obtain⟨b,o,_,ce',e0,rfl,pw,nw,cw,pv,cv,c1,c2,c3,mn,fN,gW,-⟩:=iJ hs HS.o.ex he;injection e0 with e01 e02 e03
 subst e01;have BA:nw<=6:=by have:=hs.rounds;omega
 clear e02 e03 mn;have lT:=Vb hs he;have yQ:=aa (fun W (hb:Below w.heap.size w W)=>Aj (cM s e).c (fltS s e) pw nw cw (.slice pv (s.prob.rounds.toNat+1) cv) W BA (fun h=>by obtain⟨b1,o1,q1,q2⟩:=fN h;exact⟨b1,o1,q1,ak hb q2⟩) gW);have hn:=hs.n;have AU:=aa (fun W=>E5 (nS s) (by omega) W);obtain⟨m,hm⟩:∃ m,s.ex.length=m:=⟨_,rfl⟩;have vJ:e<m:=by rw[<-hm];exact he
 obtain⟨sn,Jd⟩:∃ sn,s.n=sn:=⟨_,rfl⟩;have fw:sn=(nS s:Int):=by rw[<-Jd];exact hn.2.2.1
 rw[hm,Jd];subst fw;generalize fltS s e=f at lT yQ;generalize oblM s e=ob at lT ⊢;obtain⟨n,Gc⟩:∃ n,nS s=n:=⟨_,rfl⟩;rw[Gc]at lT AU ⊢;clear fN gW hm Jd hn Gc
 go_enter Tryz.func28,Tryz.ntmps28
 go_wp2_with fail
 refine bF (fun W=>Below w.heap.size w W/\∃ c,W.heap[w.heap.size]?=some (.cells c 35)/\c=bZ s.prob (.slice pc s.prob.t.cases.length cc) (.slice ps s.prob.a.states.length cs) (n:Int) (.slice pt s.tab.length ct) (.slice (some ⟨b,o,none⟩) m ce)) ⟨by go_grown,_,ap _ _,rfl⟩ (fun W0 bd=>?_);obtain⟨aK,_,hA,rfl⟩:=bd;have fA:=aa aK;have HA:=aa hA;have yS:∀ z:ExtW W0,∀ j,z.val.cell? ⟨w.heap.size,j,none⟩=_:=fun z=>ab (af z.ext HA.o)
 have y1:∀ z:ExtW W0,z.val.cell? ⟨b,o+e * 3,none⟩=_:=fun z=>ak (ae fA.o z.ext) c1
 have y2:∀ z:ExtW W0,z.val.cell? ⟨b,o+e * 3+1,none⟩=_:=fun z=>ak (ae fA.o z.ext) c2
 have y3:∀ z:ExtW W0,z.val.cell? ⟨b,o+e * 3+2,none⟩=_:=fun z=>ak (ae fA.o z.ext) c3
 have Lb:am (∀ y:ExtW W0,Calls Tryz.prog 60 #[.int .i64 (n:Int)] y.val fun r w''=>r=.returned (.int .i64 (2 ^ n - 1))/\∃ z:ExtW W0,w''=z.val):=aa (fun y=>Calls.ext_of ((AU.o y.val).mono fun r w' ⟨h1,h2⟩=>⟨h1,h2 ▸ Below.refl _ _⟩));have xr:am (∀ y:ExtW W0,Calls Tryz.prog 61 #[.agg #[.int .i64 (cM s e).c,.slice pw nw cw,.slice pv (s.prob.rounds.toNat+1) cv]] y.val fun r w''=>r=.returned (.int .i64 f)/\∃ z:ExtW W0,w''=z.val):=aa (fun y=>Calls.ext_of (yQ.o y.val (ae fA.o y.ext)));clear aK hA AU yQ c1 c2 c3;refine aF (by kernel_rfl) (by kernel_rfl) ?_
 repeat (go_big_quiet_step (first|(go_at_call 60;with_reducible exact Lb.o _)|(go_at_call 61;with_reducible exact xr.o _)))
 refine wpQuiet_nil ?_;rintro _ ⟨xq,rfl⟩;clear yS y1 y2 y3
 go_wp2_with fail
 go_ret
 exact⟨rfl,ae fA.o xq.ext⟩
theorem Ck(s:Sys) (e rr:Nat) (hr:s.prob.rounds=rr) (vc vs vt:Value) (b o ne ce:Nat) (he:e<ne) (b2 o2 nv cv:Nat) (hv:rr<nv) (u:Value) (hu:∃ a n c,u=.slice a n c) (w:World) (c3:w.cell? ⟨b,o+e * 3+2,none⟩=some (.slice (some ⟨b2,o2,none⟩) nv cv)) (c4:w.cell? ⟨b2,o2+rr,none⟩=some u) :
  Calls Tryz.prog 46 #[.agg (bZ s.prob vc vs s.n vt (.slice (some ⟨b,o,none⟩) ne ce)),.int .i64 e] w fun r w'=>r=.returned u/\Below w.heap.size w w':=by
 obtain⟨ua,un,uc,rfl⟩:=hu;have AO:bZ s.prob vc vs s.n vt (.slice (some ⟨b,o,none⟩) ne ce)=#[.int .i64 s.prob.t.n,.int .i64 s.prob.t.ins,.int .i64 s.prob.t.outs,vc,.int .i64 s.prob.a.n,vs,.int .i64 (rr:Int),.int .i64 s.n,vt,.slice (some ⟨b,o,none⟩) ne ce]:=by rw[<-hr];rfl
 rw[AO];clear hr AO
 go_enter Tryz.func46,Tryz.ntmps46
 go_wp2_with fail
 refine bF (fun W=>Below w.heap.size w W/\∃ c,W.heap[w.heap.size]?=some (.cells c 35)/\c=#[.int .i64 s.prob.t.n,.int .i64 s.prob.t.ins,.int .i64 s.prob.t.outs,vc,.int .i64 s.prob.a.n,vs,.int .i64 (rr:Int),.int .i64 s.n,vt,.slice (some ⟨b,o,none⟩) ne ce]) ⟨by go_grown,_,ap _ _,rfl⟩ (fun W0 bd=>?_);obtain⟨aK,_,hA,rfl⟩:=bd;have fA:=aa aK;have HA:=aa hA;have yS:∀ z:ExtW W0,∀ j,z.val.cell? ⟨w.heap.size,j,none⟩=_:=fun z=>ab (af z.ext HA.o)
 have y3:∀ z:ExtW W0,z.val.cell? ⟨b,o+e * 3+2,none⟩=_:=fun z=>ak (ae fA.o z.ext) c3
 have y4:∀ z:ExtW W0,z.val.cell? ⟨b2,o2+rr,none⟩=_:=fun z=>ak (ae fA.o z.ext) c4
 clear aK hA c3 c4;refine aF (by kernel_rfl) (by kernel_rfl) ?_
 repeat (go_big_quiet_step (fail))
 refine wpQuiet_nil ?_;rintro _ ⟨xq,rfl⟩;clear yS y3 y4
 go_wp2_with fail
 go_ret
 exact⟨rfl,ae fA.o xq.ext⟩
theorem Mz(s:Sys) (hv:verifyE s=0) (vc vs vt ve vl:Value) (l:List Int) (w:World) (hs:IsSys w s vc vs vt ve) (hN:movesN s.prob.a.states<1099511627776) (hl:aX w vl l) (hr:∀ k,k<l.length->0<=l.getD k 0/\l.getD k 0<(eS s:Int)) :
  Calls Tryz.prog 136 #[.agg (bZ s.prob vc vs s.n vt ve),vl] w fun e w'=>∃ B,e=.returned (.tuple #[.pointer (some ⟨B,0,none⟩),.int .i64 0])/\Below w.heap.size w w'/\FinAt w' B s/\gU w' w.heap.size B s:=by
 have HS:=aa hs;have HL:=aa hl;have HR:=aa hr;obtain⟨⟨pc,cc,rfl⟩,⟨ps,cs,rfl⟩,⟨pt,ct,rfl⟩,⟨pe,ce,rfl⟩⟩:=bM hs;obtain⟨pl,cl,rfl,_,_,el⟩:=hl.at;have EL:=aa el;clear hs hl hr el;have HC:=aa (fun W (hb:Below w.heap.size w W)=>D9 s _ _ _ _ W (HS.o.up hb) hN);have HV:=aa hv;clear hv
 go_enter Tryz.func136,Tryz.ntmps136
 go_wp2_with fail
 refine aQ (fun W=>Below w.heap.size w W) (by go_grown) (fun W0 aK=>?_);refine(HC.o W0 aK).mono ?_;rintro e w1 ⟨v,rfl,aM,_,h2⟩;obtain⟨B,rfl,hF,hO⟩:=h2 HV.o;have HO:=aa (hO.mono aK.size);rw[HV.o];have dy:=ae aK aM;have eN:=aa dy;have HF:=aa hF;clear aK aM h2 hF hO dy HC
 go_wp2_with fail
 go_loopw [20] (fun i wr=>∃ k:Nat,k<=l.length/\i=.int .i64 k/\Below w.heap.size w wr/\FinAt wr B s/\gU wr w.heap.size B s) (fun i _=>l.length - (intOf i).toNat)
 ·exact⟨0,by omega,rfl,eN.o,HF.o,HO.o⟩
 ·
  clear eN HF HO;obtain⟨k,hk,rfl,aA,hF,hO⟩:=hrel;have aY:=aa aA;have HF:=aa hF;have HO:=aa hO;clear hO;by_cases aB:k<l.length
  ·obtain⟨b1,o1,rfl,h1⟩:=EL.o k aB;rw[Nat.mul_one]at h1;have c1:=ak aA h1.1;have hx:=HR.o k aB;rw[az 0 aB]at hx;clear h1 aA hF;generalize l[k]=x at c1 hx;obtain⟨dp,dJ⟩:=hx;have HT:=aa (Cd s B x wr HF.o);rw[decide_eq_true dp,decide_eq_true dJ]at HT;clear dp dJ
   go_wp2_with fail
   refine HT.o.mono ?_;rintro e w2 ⟨rfl,aZ⟩;clear c1
   go_wp2_with fail
   go_roundw
   ·exact⟨k+1,by omega,by go_num,ae aY.o aZ,HF.o.up aZ,HO.o.up aZ⟩
   ·simp[intOf];omega
  ·clear aA hF
   go_wp2_with fail
   go_ret2
   exact⟨B,rfl,aY.o,HF.o,HO.o⟩
theorem wm(s:Sys):∀ k,lZ (eo s k)
 | 0=>pD _ _
 | _+1=>pD _ _
theorem Cl(s:Sys) (hv:verifyE s=0) (hE:eS s<=256) (vc vs vt ve:Value) (w:World) (hs:IsSys w s vc vs vt ve) (hN:movesN s.prob.a.states<1099511627776) :
  Calls Tryz.prog 78 #[.agg (bZ s.prob vc vs s.n vt ve)] w fun e w'=>∃ u,e=.returned (.tuple #[u,.int .i64 0])/\aX w' u (partsS s)/\Below w.heap.size w w':=by
 have HS:=aa hs;obtain⟨⟨pc,cc,rfl⟩,⟨ps,cs,rfl⟩,⟨pt,ct,rfl⟩,⟨pe,ce,rfl⟩⟩:=bM hs;clear hs;have HC:=aa (fun W (hb:Below w.heap.size w W)=>D9 s _ _ _ _ W (HS.o.up hb) hN);have fV:=ja hv;have HV:=aa hv;have dL:=aa fV;have jZ:=fV.n.1;have jz:=fV.n.2.1;clear hv fV
 go_enter Tryz.func78,Tryz.ntmps78
 go_wp2_with fail
 refine aQ (fun W=>Below w.heap.size w W) (by go_grown) (fun W0 aK=>?_);refine(HC.o W0 aK).mono ?_;rintro e w1 ⟨v,rfl,aM,_,h2⟩;obtain⟨B,rfl,hF,-⟩:=h2 HV.o;rw[HV.o];have dy:=ae aK aM;have eN:=aa dy;have HF:=aa hF;clear aK aM h2 hF dy HC
 go_wp2_with fail
 have Nx:=xX s dL.o hE B 0 (by omega) w1 HF.o;rw[show ((0:Nat):Int)=0 from rfl]at Nx;refine Nx.mono ?_;clear Nx;rintro e w2 ⟨u,rfl,hu,aZ⟩;have HU:=aa hu;obtain⟨au,cu,rfl,_⟩:=hu.at;rw[jq]at HU;have cX:=aa aZ;clear hu aZ
 go_wp2_with fail
 go_loopw [6,7] (fun o i wr=>∃ k:Nat,k<nS s/\i=.int .i64 ((k:Int)+1)/\Below w1.heap.size w1 wr/\∃ a c,o=.slice a (eS s) c/\aX wr (.slice a (eS s) c) (eo s k)) (fun _ i _=>nS s+1 - (intOf i).toNat)
 ·exact⟨0,by omega,rfl,cX.o,_,_,by rw[jq],by exact HU.o⟩
 ·
  clear HU cX;obtain⟨k,hk,rfl,aA,a,c,rfl,hu⟩:=hrel;have aY:=aa aA;have HU:=aa hu;have hF:=HF.o.up aA;obtain⟨pl,cl,h1,_⟩:=hF.open;have t1:=ab h1 0;simp at t1;have vL:=aa hF;clear aA hu hF h1;by_cases aB:k+1<nS s
  ·have nZ:(k:Int)+1<(nS s:Int):=by omega
   go_wp2_with fail
   have bU:=xX s dL.o hE B (k+1) aB wr vL.o;rw[show ((k+1:Nat):Int)=(k:Int)+1 by omega]at bU;refine bU.mono ?_;rintro e w3 ⟨u2,rfl,yM,bG⟩;have LL:=aa yM;obtain⟨a2,c2,rfl,_⟩:=yM.at;have dT:=aa bG;clear yM bG t1 bU;rw[jq]at LL ⊢
   go_wp2_with fail
   refine(OZ _ _ (eo s k) (classL s (k+1)) w3 (HU.o.up up_int dT.o) LL.o (wm s k) (pD _ _) (by rw[jq,gO]) (by rw[gO];exact hE)).mono ?_;rintro e w4 ⟨u4,rfl,mj,bO⟩;have vD:=aa mj;obtain⟨a4,c4,rfl,_⟩:=mj.at;have fH:(kQ (eo s k) (classL s (k+1))).length=eS s:=gO s (k+1);rw[fH]at vD ⊢;have eV:=aa bO;clear mj bO fH
   go_wp2_with fail
   go_roundw
   ·exact⟨k+1,aB,by go_num,ae aY.o (ae dT.o eV.o),a4,c4,rfl,vD.o⟩
   ·simp[intOf];omega
  ·have nZ:¬ (k:Int)+1<(nS s:Int):=by omega
   have HK:am (partsS s=eo s k):=aa (by unfold partsS;rw[show nS s - 1=k by omega])
   go_wp2_with fail
   go_ret2
   exact⟨_,rfl,by rw[HK.o];exact HU.o,ae eN.o aY.o⟩
abbrev VX(s:Sys) (vc vs vt ve vv vl:Value):Array Value:=bZ s.prob vc vs s.n vt ve++#[vv,vl]
theorem RN{w:World} {v:Value} {l:List Int} (h:aX w v l) {B o:Nat} {c:Array Value} {ty:TypeId} {fz:Nat × Nat} (hB:w.heap[B]?=some (.cells c ty fz)) (hy:∀ x:Int,c[o]?≠some (.int .i64 x)) (x:Value):aX (w.setCell ⟨B,o,none⟩ x) v l:=by
 obtain⟨a,cap,e,h1,h2,h3⟩:=h;refine⟨a,cap,e,h1,h2,fun i z hi=>?_⟩;obtain⟨b,o',e1,h4,h5⟩:=h3 i z hi;refine⟨b,o',e1,?_,h5⟩;have h4:w.cell? ⟨b,o'+i * 1,none⟩=some (.int .i64 z):=h4;by_cases hb:b=B
 ·subst hb;rw[ab hB]at h4;rw[ab (aI hB o x),Array.getElem?_setIfInBounds];split
  ·rename_i h6;rw[<-h6]at h4;exact absurd h4 (hy z)
  ·exact h4
 ·have:(w.setCell ⟨B,o,none⟩ x).cell? ⟨b,o'+i * 1,none⟩=w.cell? ⟨b,o'+i * 1,none⟩:=by
   unfold World.cell?;rw[Below.heap_setCell _ _ _ _ hb]
  exact this.trans h4
theorem Kk(a:Bool):uF 0 a=.tuple #[.bool a,.int .i64 0]:=by simp[uF]
theorem nN(s:Sys) (hE:eS s<=256) (vc vs vt ve:Value) (w:World) (hs:IsSys w s vc vs vt ve) (hN:movesN s.prob.a.states<1099511627776) :
  Calls Tryz.prog 38 #[.agg (bZ s.prob vc vs s.n vt ve)] w fun r w'=>∃ v,r=.returned (.tuple #[v,.int .i64 (readyE s)])/\Below w.heap.size w w'/\(readyE s≠0->v=.pointer none)/\(readyE s=0->∃ B,v=.pointer (some ⟨B,0,none⟩)/\w.heap.size<=B/\ScAt w' B s):=by
 have HS:=aa hs;obtain⟨⟨pc,cc,rfl⟩,⟨ps,cs,rfl⟩,⟨pt,ct,rfl⟩,⟨pe,ce,rfl⟩⟩:=bM hs;clear hs;have HC:=aa (fun W (hb:Below w.heap.size w W)=>pJ s _ _ _ _ W (HS.o.up hb) hN);have FV:=aa (fun W (hb:Below w.heap.size w W)=>Gq s.prob.t _ W (HS.o.up hb).cases);have WO:=aa (fun (hv:verifyE s=0) W (hb:Below w.heap.size w W)=>Cl s hv hE _ _ _ _ W (HS.o.up hb) hN);obtain⟨i0,df,cH,cj,cI⟩:=info_parts Tryz.infoInt;have cG:=aa (And.intro df (And.intro cH (And.intro cj cI)));have dd:am (verifyE s≠0->readyE s=verifyE s):=aa fun h=>by unfold readyE;rw[if_pos h]
 have eJ:am (verifyE s=0->agreeB s.prob.t=false->readyE s=11):=aa fun h h2=>by unfold readyE;rw[if_neg (by omega),h2];rfl
 have gp:am (verifyE s=0->agreeB s.prob.t=true->readyE s=0):=aa fun h h2=>by unfold readyE;rw[if_neg (by omega),h2];rfl
 have jR:am (verifyE s=0->taskE s.prob.t=0):=aa fun h=>(ro (ja h).prob).1
 obtain⟨re,jX⟩:∃ re,readyE s=re:=⟨_,rfl⟩;rw[jX]at dd eJ gp ⊢;clear jX df cH cj cI
 go_enter Tryz.func38,Tryz.ntmps38
 go_wp2_with fail
 refine aQ (fun W=>Below w.heap.size w W/\∃ c,W.heap[w.heap.size]?=some (.cells c 35)/\c=bZ s.prob _ _ s.n _ _) ⟨by go_grown,_,ap _ _,rfl⟩ (fun W0 bd=>?_);obtain⟨aK,_,hA,rfl⟩:=bd;refine(HC.o W0 aK).mono ?_;rintro e w1 ⟨rfl,aM⟩;have eO:=af aM hA;have dP:=aa eO;have bL:=aa (ae aK aM);have fT:=bL.o.size;have gV:=aC eO;clear hA eO aK aM HC;by_cases hv:verifyE s=0
 case neg=>
  have HV:=aa (dd.o hv);obtain⟨ev,l8⟩:∃ ev,verifyE s=ev:=⟨_,rfl⟩;rw[l8]at hv HV ⊢;have Jv:(ev != 0)=true:=by simpa using hv
  have iP:=aa hv;clear hv l8
  go_wp2_with fail
  go_ret2
  exact⟨_,by rw[HV.o];rfl,bL.o,fun _=>rfl,fun h=>absurd (HV.o.symm.trans h) iP.o⟩
 have HV:=aa hv;have X8:=aa (jR.o hv);have dL:=aa (ja hv);rw[hv];clear hv;have tS:=ab dP.o
 go_wp2_with fail
 clear tS;refine(FV.o w1 bL.o).mono ?_;rintro e w2 ⟨rfl,aZ⟩;rw[X8.o,Kk];have cX:=aa (ae bL.o aZ);have sX:=aa (af aZ dP.o);have mZ:=aZ.size;clear aZ dP;cases AO:agreeB s.prob.t with
 | false=>
  have dg:=aa (eJ.o HV.o AO);clear AO
  go_wp2_with fail
  go_ret2
  exact⟨_,by rw[dg.o];rfl,cX.o,fun _=>rfl,fun h=>by have:=dg.o;omega⟩
 | true=>
  have dg:=aa (gp.o HV.o AO);have Au:=aa (fun e (he:e<eS s) pw nw cw vv W (hb:Below w.heap.size w W)=>RC s dL.o AO e he _ pw nw cw vv W (HS.o.up hb).cases);have F2:=aa HS.o.ex;have HK:am (∀ k,k<eS s->_):=aa (fun k (hk:k<eS s)=>iJ dL.o F2.o hk)
  have jf:am (∀ k,k<=eS s->∀ x∈(List.range k).map (fun e=>((ie s e:Nat):Int)),bS x):=aa (fun k _ x hx=>by
   obtain⟨e,_,rfl⟩:=List.mem_map.1 hx;have:=ic (valB s e) 8;unfold ie
   exact⟨by omega,by omega⟩)
  obtain⟨L,hL⟩:∃ L:Nat->List Int,L=fun k=>(List.range k).map (fun e=>((ie s e:Nat):Int)):=⟨_,rfl⟩
  have HL:am (L 0=[]/\(∀ k,L (k+1)=L k++[((ie s k:Nat):Int)])/\L (eS s)=DS s/\(∀ k,(L k).length=k)/\∀ k,k<=eS s->∀ x∈L k,bS x):=aa (by
   subst hL
   exact⟨rfl,fun k=>by simp[List.range_succ],rfl,fun k=>by simp,jf.o⟩)
  clear hL AO;obtain⟨m,hm⟩:∃ m,eS s=m:=⟨_,rfl⟩;have HM:=aa hm;have jU:s.ex.length=m:=hm;have tS:=ab sX.o;have t9:∀ o,(w2.alloc o).cell? ⟨w.heap.size,9,none⟩=some (.slice pe m ce):=fun o=>(ab (aq o sX.o) 9).trans (by rw[<-jU];rfl)
  rw[hm]at hE HK HL;clear hm jU
  go_wp2_with fail
  clear tS t9;refine bF (fun W=>Below w2.heap.size w2 W/\∃ c,W.heap[w2.heap.size]?=some (.cells c 98)/\c=VX s (.slice pc s.prob.t.cases.length cc) (.slice ps s.prob.a.states.length cs) (.slice pt s.tab.length ct) (.slice pe s.ex.length ce) (.slice none 0 0) (.slice none 0 0)) ⟨by go_grown,_,ap _ _,rfl⟩ (fun W3 mh=>?_);obtain⟨bG,_,vA,rfl⟩:=mh;have Qr:w.heap.size<w2.heap.size:=aC sX.o;obtain⟨B,X5⟩:∃ B,w2.heap.size=B:=⟨_,rfl⟩;rw[X5]at vA Qr ⊢;have QH:=aa X5;have ID:=aa (And.intro bG vA);clear bG vA X5
  go_loopw [37] (fun i wr=>∃ k:Nat,k<=m/\i=.int .i64 k/\Below w2.heap.size w2 wr/\∃ lv,wr.heap[B]?=some (.cells (VX s (.slice pc s.prob.t.cases.length cc) (.slice ps s.prob.a.states.length cs) (.slice pt s.tab.length ct) (.slice pe s.ex.length ce) lv (.slice none 0 0)) 98)/\aJ wr w2.heap.size 3 1 lv k ((L k).map (Value.int .i64))) (fun i _=>m - (intOf i).toNat)
  ·exact⟨0,by omega,rfl,ID.o.1,_,ID.o.2,by rw[HL.o.1];exact aJ.nil _ _ _ _⟩
  ·
   clear ID;obtain⟨k,hk,rfl,aA,lv,hB,bg⟩:=hrel;obtain⟨al,cl,rfl⟩:=bg.slice;have HB:=aa hB;have bP:=aa bg;have aY:=aa aA;have tU:=af aA sX.o;have Xb:=aa tU;have dy:=ae cX.o aA;have eN:=aa dy;have vj:=aA.size;have vg:=aC hB;by_cases aB:k<m
   ·obtain⟨b,o,_,ce',e0,rfl,pw,nw,cw,pv,cv,c1,c2,c3,mn,fN,gW,-⟩:=HK.o k aB;injection e0 with e01 e02 e03
    subst e01;have BA:nw<=6:=by have:=dL.o.rounds;omega
    clear e02 e03;have d1:=ak dy c1;have d2:=ak dy c2;have d3:=ak dy c3;have tA:∀ o' j,(wr.alloc o').cell? ⟨w.heap.size,j,none⟩=(bZ s.prob (.slice pc s.prob.t.cases.length cc) (.slice ps s.prob.a.states.length cs) s.n (.slice pt s.tab.length ct) (.slice (some ⟨b,o,none⟩) s.ex.length ce))[j]?:=fun o' j=>ab (aq o' tU) j
    have nX:=aa (fun W (hb:Below w.heap.size w W)=>Au.o k (by rw[HM.o];exact aB) pw nw cw (.slice pv (s.prob.rounds.toNat+1) cv) W hb BA (fun h=>by obtain⟨b1,o1,q1,q2⟩:=fN h;exact⟨b1,o1,q1,ak hb q2⟩) gW);clear bg aA tU dy c1 c2 c3 mn fN gW hB
    go_wp2_with fail
    refine aQ (fun W=>Below wr.heap.size wr W) (by go_grown) (fun W4 bO=>?_);refine(nX.o W4 (ae eN.o bO)).mono ?_;rintro r w5 ⟨rfl,dB⟩;have ip:=ae bO dB;have kL:=aa (af ip HB.o);have tB:w5.cell? ⟨B,10,none⟩=some (.slice al k cl):=(ab kL.o 10).trans rfl;have CV:=aa ((bP.o.up ip).up ((Below.refl _ w5).alloc (Nat.le_refl _) (.cells #[.int .i64 ((ie s k:Nat):Int)] 3)));have bE:=aa (dU w5 [.int .i64 ((ie s k:Nat):Int)] 3);have vh:=aa (ae aY.o ip);have j9:am (k+1<=maxLen):=aa (by unfold maxLen;omega);have eW:am ((k+1) * 8<=140737488355328):=aa (by omega);have gC:am (w2.heap.size<=(w5.alloc (.cells #[.int .i64 ((ie s k:Nat):Int)] 3)).heap.size):=aa (by have:=vh.o.size;simp;omega);clear bO dB ip tA d1 d2 d3 nX
    go_wp2_with (at_builtin;(refine bh _ rfl (.tmp 56) (.tmp 58) 38 rfl w2.heap.size 3 i0 _ 1 8 Tryz.underlying38 cG.o.1 cG.o.2.1 cG.o.2.2.1 cG.o.2.2.2 rfl (by decide) _ k _ rfl CV.o ⟨w5.heap.size,0,none⟩ 1 1 [.int .i64 ((ie s k:Nat):Int)] rfl rfl bE.o (by simp[Value.oneCell']) j9.o eW.o gC.o ?_;intro v6 w6 fo eL _;obtain⟨av6,cv6,rfl⟩:=fo.slice;have TH:=ig CV.o eL kL.o (by decide);have c6:w6.cell? ⟨B,10,none⟩=some _:=(ab TH 10).trans rfl;have f6:=aH TH 10))
    go_roundw
    ·
     refine⟨k+1,by omega,by go_num,(B1 vh.o vh.o.size (Nat.le_refl _) CV.o eL).setCell (by dsimp only;rw[QH.o];exact Nat.le_refl _) _,.slice av6 (k+1) cv6,?_,?_⟩
     ·rw[aI TH];rfl
     ·rw[HL.o.2.1 k,List.map_append];exact fo.put (fo.ne TH (by decide)) _ _
    ·simp[intOf];omega
   ·obtain rfl:k=m:=by omega
    have tA:∀ j,wr.cell? ⟨w.heap.size,j,none⟩=_:=fun j=>ab tU j
    clear bg aA tU dy hB
    go_wp2_with fail
    refine(WO.o HV.o wr eN.o).mono ?_;rintro r w4 ⟨u,rfl,hu,bO⟩;have vG:=af bO HB.o;have c4:w4.cell? ⟨B,11,none⟩=some _:=(ab vG 11).trans rfl;have f4:=aH vG 11;obtain⟨au,cu,rfl,_⟩:=hu.at;have HU:=aa hu;have eV:=aa vG;have kH:=aa bO;clear tA hu vG bO
    go_wp2_with fail
    go_ret2
    have Dd:Below w.heap.size w (w4.setCell ⟨B,11,none⟩ (.slice au (partsS s).length cu)):=(ae eN.o kH.o).setCell (by dsimp only;omega) _;refine⟨_,by rw[dg.o];rfl,Dd,fun h=>absurd dg.o h,fun _=>⟨B,rfl,by omega,⟨.slice pc s.prob.t.cases.length cc,.slice ps s.prob.a.states.length cs,.slice pt s.tab.length ct,.slice pe s.ex.length ce,.slice al k cl,.slice au (partsS s).length cu,(aI eV.o 11 (.slice au (partsS s).length cu)).trans rfl,HS.o.up Dd,?_,?_⟩⟩⟩
    ·have h1:=(bP.o.up kH.o).put ((bP.o.up kH.o).ne eV.o (by decide)) 11 (.slice au (partsS s).length cu);have h2:=HL.o.2.2.1;have h3:=HL.o.2.2.2.1 k;rw[h2]at h1 h3;exact gI (l:=DS s) (base:=w2.heap.size) (by rw[h3];exact h1) (by rw[<-h2];exact HL.o.2.2.2.2 k (Nat.le_refl _)) (by omega)
    ·exact RN HU.o eV.o (by intro x;simp) _
def sK(s:Sys) (e f:Nat):Bool:=eU s e f&&decide (f≠e)
def fW(s:Sys) (e k:Nat):List Nat:=(List.range k).filter (sK s e)
def dZ(s:Sys) (e:Nat):List Nat:=fW s e (eS s)
theorem wn{s:Sys} {e k:Nat} (h:sK s e k=true):fW s e (k+1)=fW s e k++[k]:=by
 unfold fW;rw[List.range_succ,List.filter_append];simp[h]
theorem zz{s:Sys} {e k:Nat} (h:sK s e k=false):fW s e (k+1)=fW s e k:=by
 unfold fW;rw[List.range_succ,List.filter_append];simp[h]
theorem RO{s:Sys} {e:Nat}:∀ {k m:Nat},k<=m->fW s e k <+: fW s e m:=fun {k m} h=>by
 induction m with
 | zero=>obtain rfl:k=0:=by omega
         exact List.prefix_refl _
 | succ m ih=>
  by_cases e1:k=m+1
  ·subst e1;exact List.prefix_refl _
  ·refine(ih (by omega)).trans ?_;cases hb:sK s e m with
   | true=>rw[wn hb];exact List.prefix_append _ _
   | false=>rw[zz hb];exact List.prefix_refl _
theorem VY{s:Sys} {e k:Nat} (hk:k<eS s) (h:sK s e k=true):(fW s e k).length<(dZ s e).length/\(dZ s e).getD (fW s e k).length 0=k:=by
 have h1:fW s e (k+1) <+: dZ s e:=RO (by omega);rw[wn h]at h1;obtain⟨t,ht⟩:=h1;rw[<-ht];refine⟨by simp,?_⟩;rw[List.append_assoc,List.getD_eq_getElem?_getD,List.getElem?_append_right (Nat.le_refl _)];simp
theorem rp{s:Sys} {e f:Nat}:f∈dZ s e↔f<eS s/\eU s e f=true/\f≠e:=by
 simp[dZ,fW,sK]
def In(s:Sys) (e:Nat) (i:Nat):Array Value:=#[.int .i64 ((dZ s e).getD i 0:Nat),.int .i64 (byP s e ((dZ s e).getD i 0))]
theorem uO(B e:Nat) (w:World) :
  Calls Tryz.prog 138 #[.pointer (some ⟨B,0,none⟩),.int .i64 e] w fun r w'=>r=.returned (.func (.func 179) #[] #[.pointer (some ⟨w.heap.size,0,none⟩),.pointer (some ⟨w.heap.size+1,0,none⟩)])/\w'=(w.alloc (.cells #[.pointer (some ⟨B,0,none⟩)] 196)).alloc (.cells #[.int .i64 e] 3):=by
 go_enter Tryz.func138,Tryz.ntmps138
 go_wp2
 go_ret
 exact⟨rfl,rfl⟩
def gy(S:Nat->Prop) (w w':World):Prop:=∀ k,S k->w'.heap[k]?=w.heap[k]?
theorem gy.trans{S:Nat->Prop} {a b c:World} (h:gy S a b) (k:gy S b c):gy S a c:=fun i hi=>(k i hi).trans (h i hi)
theorem gy.cell{S:Nat->Prop} {w w':World} (h:gy S w w') {b:Nat} (hb:S b) {o:Nat}:w'.cell? ⟨b,o,none⟩=w.cell? ⟨b,o,none⟩:=by
 have:=h b hb;unfold World.cell?;rw[this]
theorem sL(s:Sys) (hs:SysOk s) (B e bx be:Nat) (he:e<eS s) (base:Nat) (w0:World) (h:gU w0 base B s) (w:World) (aK:∀ k,base<=k->k<w0.heap.size->w.heap[k]?=w0.heap[k]?) (mM:w0.heap.size<=w.heap.size) (hx:w.cell? ⟨bx,0,none⟩=some (.pointer (some ⟨B,0,none⟩))) (hy:w.cell? ⟨be,0,none⟩=some (.int .i64 e)) :
  sg Tryz.prog 179 #[.pointer (some ⟨bx,0,none⟩),.pointer (some ⟨be,0,none⟩)] (In s e) (dZ s e).length (fun k=>(base<=k/\k<w0.heap.size)\/k=bx\/k=be) w:=by
 intro yl J Jx W hW hJ oB hY h0;have kV:=fk hx;have kZ:=fk hy;have eX:gy (fun k=>(base<=k/\k<w0.heap.size)\/k=bx\/k=be) w W:=fun k hk=>hW.block k (by rcases hk with hk|rfl|rfl<;>first|omega|assumption)
 obtain⟨pl,cl,h1,-⟩:=(h.at hs).open;have Qr:=h.1;have H1:=aa h1;have HX:=aa hx;have Ud:=aa hy;have jD:=aa h;have HJ:=aa hJ;have Jw:=aa oB;have HY:=aa hY;have H0:=aa h0;have it:am (∀ (W:World) (f:Nat),f<eS s->FinAt W B s->_):=aa fun W f (hf:f<eS s) (h:FinAt W B s)=>Ag s hs B e f he hf W h
 have HKF:am (∀ W:World,gy (fun k=>(base<=k/\k<w0.heap.size)\/k=bx\/k=be) w W->FinAt W B s):=aa (fun W zb=>by exact(h.keep fun k h1 h2=>(zb k (.inl ⟨h1,h2⟩)).trans (aK k h1 h2)).at hs);have tx:=(eX.cell (.inr (.inl rfl))).trans hx;have tF:W.cell? ⟨B,1,none⟩=some (.slice pl (eS s) cl):=(ab ((eX B (.inl ⟨Qr,aC h1⟩)).trans ((aK B Qr (aC h1)).trans h1)) 1).trans rfl;have sS:=aa eX;have HN:am (∀ k,k<eS s->sK s e k=true->(fW s e k).length<(dZ s e).length/\(dZ s e).getD (fW s e k).length 0=k):=aa fun k hk h=>VY hk h
 have jk:am ((fW s e (eS s)).length=(dZ s e).length):=aa rfl;have jz:=hs.n.2.1
 have eW:am (∀ f,eU s e f=true->0<=byP s e f/\byP s e f<nS s/\(∀ j,j<(byP s e f).toNat->linkB s j e f=false)/\linkB s (byP s e f).toNat e f=true):=aa (fun f hf=>by
  obtain⟨g1,g2,g3⟩:=DE hf;refine⟨g1,g2,fun j hj=>?_,g3⟩;unfold byP at hj;rcases bH (nS s) (fun p=>linkB s p e f) with ⟨e1,_⟩|⟨k,hk,e1,_,h2⟩
  ·rw[e1]at hj;simp at hj
  ·rw[e1,Int.toNat_natCast]at hj;exact h2 j hj)
 have CT:=hs;clear h1 hx hy h aK kV kZ mM Qr hJ oB hY h0 eX hs;obtain⟨m,hm⟩:∃ m,eS s=m:=⟨_,rfl⟩;have hcount:=CT.count;rw[hm]at HN jk he tF it hcount;clear hm CT;refine(callsIn_wide (n:=0)).1 ?_;refine callsIn_of_wp Tryz.func179 rfl trivial ?_ rfl;simp only[Tryz.ntmps179,List.size_toArray,List.length_cons,List.length_nil,Nat.reduceAdd,Nat.reduceSub,Array.replicate_succ,Array.replicate_zero,List.push_toArray,List.append_toArray,List.nil_append,List.cons_append]
 gi_wp2
 clear tx tF
 gi_loopw [12] (fun i wr=>∃ k:Nat,k<=m/\i=.int .i64 k/\gy (fun k=>(base<=k/\k<w0.heap.size)\/k=bx\/k=be) w wr/\J (fW s e k).length wr) (fun i _=>m - (intOf i).toNat)
 ·exact⟨0,by omega,rfl,sS.o,H0.o⟩
 ·
  obtain⟨k,hk,rfl,fS,hj⟩:=hrel;have j8:=aa fS;have jg:=aa hj;clear hj;by_cases aB:k<m
  ·have tx:=(fS.cell (.inr (.inl rfl))).trans HX.o;have ty:=(fS.cell (.inr (.inr rfl))).trans Ud.o;have HL:=aa (it.o wr k aB (HKF.o wr fS));obtain⟨set,ii⟩:∃ set,maskN (fun p=>linkB s p e k) (nS s)=set:=⟨_,rfl⟩;rw[ii]at HL;have eF:=aa ii;have hz:set=0↔eU s e k=false:=by rw[<-ii,nE];rfl
   clear fS ii
   gi_wp2
   refine⟨trivial,rfl,callsIn_wide.2 (HL.o.mono ?_)⟩;rintro r w1 ⟨rfl,rfl⟩;by_cases hb:eU s e k=true
   ·have Nq:¬ ((set:Int)=0):=fun h=>by have:=hz.1 (by omega);rw[hb]at this;cases this
    have CT:((set:Int) == 0)=false:=by simpa using Nq
    by_cases tm:e=k
    ·have fY:am ((fW s e (k+1)).length=(fW s e k).length):=aa (by rw[zz (by unfold sK;rw[decide_eq_false (show ¬ (k≠e) from fun h=>h tm.symm),Bool.and_false])]);have SC:((e:Int) == (k:Int))=true:=by rw[tm];simp
     clear hz Nq tm hb
     gi_wp2
     go_roundw
     ·exact⟨k+1,by omega,by go_num,j8.o,by rw[fY.o];exact jg.o⟩
     ·simp[intOf];omega
    ·have iM:sK s e k=true:=by unfold sK;rw[hb,decide_eq_true (show k≠e from fun h=>tm h.symm)];rfl
     have jS:am ((fW s e (k+1)).length=(fW s e k).length+1):=aa (by rw[wn iM];simp);obtain⟨jZ,n'⟩:=HN.o k aB iM;have SC:((e:Int) == (k:Int))=false:=by simp;omega
     obtain⟨g1,g2,g3,g4⟩:=eW.o k hb;obtain⟨p0,vf⟩:∃ p0:Nat,byP s e k=p0:=⟨(byP s e k).toNat,by omega⟩;rw[vf,Int.toNat_natCast]at g3 g4;have fA:am (∀ p,p<p0->hasB (set:Nat) p=false):=aa (fun p hp=>by rw[<-eF.o,mS,g3 p hp,Bool.and_false]);have bL:am (hasB (set:Nat) p0=true):=aa (by rw[<-eF.o,mS,g4,decide_eq_true (by omega)];rfl);have BG:am (In s e (fW s e k).length=#[.int .i64 k,.int .i64 p0]):=aa (by unfold In;rw[n',vf]);have IZ:p0<5:=by omega
     obtain⟨c,hc⟩:∃ c,(fW s e k).length=c:=⟨_,rfl⟩;rw[hc]at jZ BG jS jg;clear hz Nq tm hb iM n' g1 g2 g3 g4 vf hc
     gi_wp2
     gi_loop [6] (fun x=>∃ p:Nat,p<=p0/\x=.int .i64 p) (fun x=>p0 - (intOf x).toNat)
     ·exact⟨0,by omega,rfl⟩
     ·
      obtain⟨p,hp,rfl⟩:=hrel;have gJ:=sp (set:Nat) p;by_cases hpp:p=p0
      ·subst hpp;rw[bL.o]at gJ;obtain⟨fn,tmps,assign,body,oW,hR⟩:=HY.o c wr jZ jg.o;rw[BG.o]at oW;have HR:=aa hR;clear hR
       gi_wp2
       refine⟨rfl,HR.o.mono ?_⟩;rintro e W3 (⟨rfl,Dl,CM,im⟩|⟨rfl,rS⟩)
       ·gi_wp2
        go_roundw
        ·exact⟨k+1,by omega,by go_num,gy.trans j8.o im,by rw[jS.o];exact Dl⟩
        ·simp[intOf];omega
       ·gi_wp2
        refine bodyPost_ret (results_none rfl _ _ _) rfl ?_;exact⟨⟨_,rfl⟩,.inr ⟨_,by omega,rS⟩⟩
      ·rw[fA.o p (by omega)]at gJ
       gi_wp2
       go_round
       ·exact⟨p+1,by omega,by go_num⟩
       ·simp[intOf];omega
   ·have gk:eU s e k=false:=by simpa using hb
    obtain rfl:=hz.2 gk;have fY:am ((fW s e (k+1)).length=(fW s e k).length):=aa (by rw[zz (by unfold sK;rw[gk];rfl)]);clear hz hb gk
    gi_wp2
    go_roundw
    ·exact⟨k+1,by omega,by go_num,j8.o,by rw[fY.o];exact jg.o⟩
    ·simp[intOf];omega
  ·obtain rfl:k=m:=by omega
   gi_wp2
   go_end0
   exact⟨⟨_,rfl⟩,.inl (by rw[<-jk.o];exact jg.o)⟩
def gz(parts:List Int) (label:Int) (k:Nat):List Nat:=(List.range k).filter fun e=>decide (parts.getD e 0=label)
theorem sM{p:List Int} {x:Int} {k:Nat} (h:p.getD k 0=x):gz p x (k+1)=gz p x k++[k]:=by
 unfold gz;rw[List.range_succ,List.filter_append];simpa using h
theorem Bj{p:List Int} {x:Int} {k:Nat} (h:p.getD k 0≠x):gz p x (k+1)=gz p x k:=by
 unfold gz;rw[List.range_succ,List.filter_append];simpa using h
theorem Po{p:List Int} {x:Int}:∀ {k m:Nat},k<=m->gz p x k <+: gz p x m:=fun {k m} h=>by
 induction m with
 | zero=>obtain rfl:k=0:=by omega
         exact List.prefix_refl _
 | succ m ih=>
  by_cases e1:k=m+1
  ·subst e1;exact List.prefix_refl _
  ·refine(ih (by omega)).trans ?_;by_cases hb:p.getD m 0=x
   ·rw[sM hb];exact List.prefix_append _ _
   ·rw[Bj hb];exact List.prefix_refl _
theorem Vc{p:List Int} {x:Int} {k:Nat} (hk:k<p.length) (h:p.getD k 0=x):(gz p x k).length<(memL p x).length/\(memL p x).getD (gz p x k).length 0=k:=by
 have h1:gz p x (k+1) <+: memL p x:=Po (by omega);rw[sM h]at h1;obtain⟨t,ht⟩:=h1;rw[<-ht];refine⟨by simp,?_⟩;rw[List.append_assoc,List.getD_eq_getElem?_getD,List.getElem?_append_right (Nat.le_refl _)];simp
def wo(l:List Nat) (i:Nat):Array Value:=#[.int .i64 (l.getD i 0:Nat)]
theorem wR(B:Nat) (x:Int) (w:World) :
  Calls Tryz.prog 85 #[.pointer (some ⟨B,0,none⟩),.int .i64 x] w fun r w'=>r=.returned (.func (.func 135) #[] #[.pointer (some ⟨w.heap.size,0,none⟩),.pointer (some ⟨w.heap.size+1,0,none⟩)])/\w'=(w.alloc (.cells #[.pointer (some ⟨B,0,none⟩)] 94)).alloc (.cells #[.int .i64 x] 3):=by
 go_enter Tryz.func85,Tryz.ntmps85
 go_wp2
 go_ret
 exact⟨rfl,rfl⟩
theorem uP(s:Sys) (B bx be:Nat) (x:Int) (w0:World) (h:ScAt w0 B s) (w:World) (aK:Below w0.heap.size w0 w) (hx:w.cell? ⟨bx,0,none⟩=some (.pointer (some ⟨B,0,none⟩))) (hy:w.cell? ⟨be,0,none⟩=some (.int .i64 x)) :
  sg Tryz.prog 135 #[.pointer (some ⟨bx,0,none⟩),.pointer (some ⟨be,0,none⟩)] (wo (memL (partsS s) x)) (memL (partsS s) x).length (fun k=>k<w0.heap.size\/k=bx\/k=be) w:=by
 intro yl J Jx W hW hJ oB hY h0;have kV:=fk hx;have kZ:=fk hy;have mM:=aK.size;have eX:gy (fun k=>k<w0.heap.size\/k=bx\/k=be) w W:=fun k hk=>hW.block k (by rcases hk with hk|rfl|rfl<;>first|omega|assumption)
 obtain⟨vc,vs,vt,ve,vv,vl,h1,_,_,h2⟩:=h.ex;obtain⟨pl,cl,rfl,lt1,lt2,el⟩:=h2.at;have H1:=aa h1;have HX:=aa hx;have Ud:=aa hy;have HJ:=aa hJ;have Jw:=aa oB;have HY:=aa hY;have H0:=aa h0;have tx:=(eX.cell (.inr (.inl rfl))).trans hx;have zg:∀ k,k<w0.heap.size->w.heap[k]?=w0.heap[k]?:=fun k hk=>aK.block k hk
 have K6:=aa zg;have tF:W.cell? ⟨B,11,none⟩=some (.slice pl (partsS s).length cl):=(ab ((eX B (.inl (aC h1))).trans ((aK.block B (aC h1)).trans h1)) 11).trans rfl;have sS:=aa eX;have CL:am (∀ k,k<(partsS s).length->(partsS s).getD k 0=x->(gz (partsS s) x k).length<(memL (partsS s) x).length/\(memL (partsS s) x).getD (gz (partsS s) x k).length 0=k):=aa fun k hk h=>Vc hk h
 have jS:am (∀ k,(partsS s).getD k 0=x->(gz (partsS s) x (k+1)).length=(gz (partsS s) x k).length+1):=aa fun k h=>by rw[sM h];simp
 have fY:am (∀ k,(partsS s).getD k 0≠x->(gz (partsS s) x (k+1)).length=(gz (partsS s) x k).length):=aa fun k h=>by rw[Bj h]
 have jk:am ((gz (partsS s) x (partsS s).length).length=(memL (partsS s) x).length):=aa rfl
 have EL:am (∀ (V:World),gy (fun k=>k<w0.heap.size\/k=bx\/k=be) w V->∀ i,i<(partsS s).length->∃ b o,pl=some ⟨b,o,none⟩/\V.cell? ⟨b,o+i,none⟩=some (.int .i64 ((partsS s).getD i 0))):=aa (fun V hV i hi=>by
  obtain⟨b,o,e1,c1,_⟩:=el i hi;rw[Nat.mul_one,<-az 0 hi]at c1;have aB:=fk c1;refine⟨b,o,e1,?_⟩;rw[hV.cell (.inl aB),<-c1];unfold World.cell?
  rw[zg b aB])
 clear h1 hx hy h aK kV kZ mM hJ oB hY h0 eX h2 el zg;obtain⟨n,hn⟩:∃ n,(partsS s).length=n:=⟨_,rfl⟩;rw[hn]at CL jk EL lt1 lt2 tF;clear hn;refine(callsIn_wide (n:=0)).1 ?_;refine callsIn_of_wp Tryz.func135 rfl trivial ?_ rfl;simp only[Tryz.ntmps135,List.size_toArray,List.length_cons,List.length_nil,Nat.reduceAdd,Nat.reduceSub,Array.replicate_succ,Array.replicate_zero,List.push_toArray,List.append_toArray,List.nil_append,List.cons_append]
 gi_wp2
 clear tx tF
 gi_loopw [11] (fun i wr=>∃ k:Nat,k<=n/\i=.int .i64 k/\gy (fun k=>k<w0.heap.size\/k=bx\/k=be) w wr/\J (gz (partsS s) x k).length wr) (fun i _=>n - (intOf i).toNat)
 ·exact⟨0,by omega,rfl,sS.o,H0.o⟩
 ·
  obtain⟨k,hk,rfl,fS,hj⟩:=hrel;have j8:=aa fS;have jg:=aa hj;clear hj;by_cases aB:k<n
  ·obtain⟨b1,o1,rfl,c1⟩:=EL.o wr fS k aB;have ty:=(fS.cell (.inr (.inr rfl))).trans Ud.o;clear fS;by_cases hx:(partsS s).getD k 0=x
   ·have Qh:=aa (jS.o k hx);obtain⟨jZ,n'⟩:=CL.o k aB hx;have BG:am (wo (memL (partsS s) x) (gz (partsS s) x k).length=#[.int .i64 k]):=aa (by unfold wo;rw[n']);rw[hx]at c1;obtain⟨c,hc⟩:∃ c,(gz (partsS s) x k).length=c:=⟨_,rfl⟩;rw[hc]at jZ BG Qh jg;clear n' hx hc;have lA:(x == x)=true:=by simp
    obtain⟨fn,tmps,assign,body,oW,hR⟩:=HY.o c wr jZ jg.o;rw[BG.o]at oW;have HR:=aa hR;clear hR
    gi_wp2
    refine⟨rfl,HR.o.mono ?_⟩;rintro e W3 (⟨rfl,Dl,CM,im⟩|⟨rfl,rS⟩)
    ·gi_wp2
     go_roundw
     ·exact⟨k+1,by omega,by go_num,gy.trans j8.o im,by rw[Qh.o];exact Dl⟩
     ·simp[intOf];omega
    ·gi_wp2
     refine bodyPost_ret (results_none rfl _ _ _) rfl ?_;exact⟨⟨_,rfl⟩,.inr ⟨_,by omega,rS⟩⟩
   ·have qo:=aa (fY.o k hx);have lA:((partsS s).getD k 0 == x)=false:=beq_eq_false_iff_ne.2 hx;generalize (partsS s).getD k 0=y at c1 lA;clear hx
    gi_wp2
    refine⟨fun f hf=>(by cases hf),?_⟩
    gi_wp2
    go_roundw
    ·exact⟨k+1,by omega,by go_num,j8.o,by rw[qo.o];exact jg.o⟩
    ·simp[intOf];omega
  ·obtain rfl:k=n:=by omega
   clear fS
   gi_wp2
   go_end0
   exact⟨⟨_,rfl⟩,.inl (by rw[<-jk.o];exact jg.o)⟩
theorem Kl(s:Sys) (hv:verifyE s=0) (vc vs vt ve vl:Value) (l:List Lk) (w:World) (hs:IsSys w s vc vs vt ve) (hN:movesN s.prob.a.states<1099511627776) (hl:bJ w vl l) :
  Calls Tryz.prog 95 #[.agg (bZ s.prob vc vs s.n vt ve),vl] w fun e w'=>e=.returned (.int .i64 (walkE s l))/\Below w.heap.size w w':=by
 have HS:=aa hs;have HL:=aa hl;obtain⟨⟨pc,cc,rfl⟩,⟨ps,cs,rfl⟩,⟨pt,ct,rfl⟩,⟨pe,ce,rfl⟩⟩:=bM hs;obtain⟨pl,cl,rfl,lt1,lt2,el⟩:=hl.at;have EL:=aa el;clear hs hl el;have HC:=aa (fun W (hb:Below w.heap.size w W)=>D9 s _ _ _ _ W (HS.o.up hb) hN);have dL:=aa (ja hv);have HV:=aa hv;have jz:=dL.o.n.2.1;have iO:am (l.length=0->walkE s l=16):=aa fun h=>by unfold walkE;rw[if_pos h]
 have gD:am (0<l.length->4096<l.length->walkE s l=5):=aa fun h h1=>by unfold walkE;rw[if_neg (by omega),if_pos h1]
 have cS:am (0<l.length->l.length<=4096->walkE s l=bm l.length (gw s l)):=aa fun h h1=>by unfold walkE;rw[if_neg (by omega),if_neg (by omega)]
 have Ay:am (∀ k,k<l.length->gw s l k=if (l.getD k default).x<0\/(eS s:Int)<=(l.getD k default).x then 6 else if k=0 then(if (l.getD k default).p≠-1 then 3 else 0) else if (l.getD k default).p<0\/(nS s:Int)<=(l.getD k default).p then 2 else if linkB s (l.getD k default).p.toNat (l.getD (k - 1) default).x.toNat (l.getD k default).x.toNat then 0 else 18):=aa fun k _=>rfl
 have HOKX:am (∀ k,gw s l k=0->0<=(l.getD k default).x/\(l.getD k default).x.toNat<eS s):=aa fun k h=>⟨((rh s l k).1 h).1,((rh s l k).1 h).2.1⟩
 clear hv
 go_enter Tryz.func95,Tryz.ntmps95
 go_wp2_with fail
 refine aQ (fun W=>Below w.heap.size w W) (by go_grown) (fun W0 aK=>?_);refine(HC.o W0 aK).mono ?_;rintro e w1 ⟨v,rfl,aM,_,h2⟩;obtain⟨B,rfl,hF,-⟩:=h2 HV.o;rw[HV.o];have dy:=ae aK aM;have eN:=aa dy;have HF:=aa hF;clear aK aM h2 hF dy HC;by_cases h0:l.length=0
 ·have HR:=aa (iO.o h0);have hd:(((l.length:Nat):Int) == 0)=true:=by simp[h0]
  clear h0
  go_wp2_with fail
  go_ret
  exact⟨aG (by rw[HR.o]),eN.o⟩
 have hd:(((l.length:Nat):Int) == 0)=false:=beq_eq_false_iff_ne.2 (by omega);have S0:0<l.length:=by omega
 clear h0;by_cases h1:4096<l.length
 ·have HR:=aa (gD.o S0 h1)
  go_wp2_with fail
  go_ret
  exact⟨aG (by rw[HR.o]),eN.o⟩
 have dg:=aa (cS.o S0 (by omega))
 go_wp2_with fail
 clear hd h1 S0 iO gD cS
 go_loopw [28] (fun i wr=>∃ k:Nat,k<=l.length/\i=.int .i64 k/\Below w.heap.size w wr/\FinAt wr B s/\∀ j,j<k->gw s l j=0) (fun i _=>l.length - (intOf i).toNat)
 ·exact⟨0,by omega,rfl,eN.o,HF.o,fun j hj=>by omega⟩
 ·
  clear eN HF;obtain⟨k,hk,rfl,aA,hF,hz⟩:=hrel;have aY:=aa aA;have HF:=aa hF;have HZ:=aa hz;clear hF hz;by_cases aB:k<l.length
  ·obtain⟨b1,o1,rfl,h1⟩:=EL.o k aB;have c1:=ak aA h1.1.1;have c2:=ak aA h1.2.1;have HE:=aa (Ay.o k aB);have Ji:am (∀ v:Int,gw s l k=v->v≠0->walkE s l=v):=aa fun v h1 h2=>by rw[dg.o];exact(bV k v aB HZ.o h1 h2).symm
   have hr:l.getD k default=l[k]:=az default aB;rw[hr]at HE;clear hr;generalize l[k]=y at c1 c2 HE h1;obtain⟨x,p⟩:=y;dsimp only at c1 c2 HE;clear h1 aA
   go_wp2_with fail
   clear c1 c2;refine aQ (fun W=>Below w.heap.size w W/\FinAt W B s/\W.heap[wr.heap.size]?=some (.cells #[.int .i64 x,.int .i64 p] 75)) ⟨aY.o.alloc aY.o.size _,HF.o.up (by go_grown),ap _ _⟩ (fun W2 fg=>?_);obtain⟨aZ,Wn,Qd⟩:=fg;refine(Cd s B x W2 Wn).mono ?_;rintro e w3 ⟨rfl,bG⟩;have dT:=aa (ae aZ bG);have Jp:=aa (Wn.up bG);have iX:=aa (af bG Qd);generalize wr.heap.size=g at iX;have tb:=ab iX.o;clear aZ Wn Qd bG;by_cases hx:0<=x/\x<(eS s:Int)
   ·have hd:(decide (0<=x)&&decide (x<(eS s:Int)))=true:=by simp[hx]
    rw[hd];clear hd;by_cases eX:k=0
    ·subst eX;by_cases hp:p=-1
     ·subst hp;have gt:am (gw s l 0=0):=aa (by rw[HE.o,if_neg (by omega)];simp);clear hx
      go_wp2_with fail
      go_roundw
      ·exact⟨1,by omega,by go_num,dT.o,Jp.o,aV HZ.o gt.o⟩
      ·simp[intOf];omega
     ·have QF:(p != -1)=true:=by simpa using hp
      have HR:=aa (Ji.o 3 (by rw[HE.o,if_neg (by omega),if_pos rfl,if_pos hp]) (by decide));clear hx hp
      go_wp2_with fail
      go_ret
      exact⟨aG (by rw[HR.o]),dT.o⟩
    ·obtain⟨j,hj⟩:∃ j,k=j+1:=⟨k - 1,by omega⟩;have fH:j<l.length:=by omega
     have ka:((k:Int) == 0)=false:=by simp;omega
     have hX:=HOKX.o j (HZ.o j (by omega));have m3:am (gw s l k=if p<0\/(nS s:Int)<=p then 2 else if linkB s p.toNat (l.getD j default).x.toNat x.toNat then 0 else 18):=aa (by rw[HE.o,if_neg (by omega),if_neg eX,show k - 1=j by omega]);have jB:IntKind.i64.wrap ((k:Int) - 1)=(j:Int):=by rw[hj,IntWalk.i64_in _ (by omega)];omega
     obtain⟨b2,o2,e2,h2⟩:=EL.o j fH;cases e2;have d1:=ak dT.o h2.1.1;rw[<-az default fH]at d1;obtain⟨e,he⟩:∃ e:Nat,(l.getD j default).x=e:=⟨(l.getD j default).x.toNat,by omega⟩;rw[he]at d1 m3 hX;obtain⟨f,hf⟩:∃ f:Nat,x=f:=⟨x.toNat,by omega⟩;subst hf;simp only[Int.toNat_natCast]at m3 hX;have hfe:f<eS s:=by omega
     clear he h2 eX hj HE;by_cases vf:p<0
     ·have hpd:decide (p<0)=true:=decide_eq_true vf;have HR:=aa (Ji.o 2 (by rw[m3.o,if_pos (.inl vf)]) (by decide));clear hx hX d1 jB vf;have tb1:∀ z:ExtW w3,∀ o,z.val.cell? ⟨g,o,none⟩=_:=fun z=>ab (af z.ext iX.o)
      go_wp2_with fail
      refine aF (by kernel_rfl) (by kernel_rfl) ?_
      repeat (go_big_quiet_step (fail))
      refine wpQuiet_nil ?_;rintro _ ⟨xq,rfl⟩;clear tb tb1
      go_wp2_with fail
      go_ret
      exact⟨aG (by rw[HR.o]),ae dT.o xq.ext⟩
     have hpd:decide (p<0)=false:=decide_eq_false vf;obtain⟨q,rfl⟩:∃ q:Nat,p=q:=⟨p.toNat,by omega⟩;simp only[Int.toNat_natCast]at m3;obtain⟨pl2,cl2,hB,_⟩:=Jp.o.open;have tb1:∀ z:ExtW w3,∀ o,z.val.cell? ⟨g,o,none⟩=_:=fun z=>ab (af z.ext iX.o)
     have tb2:∀ z:ExtW w3,z.val.cell? ⟨B,0,none⟩=some (.int .i64 (nS s)):=fun z=>(ab (af z.ext hB) 0).trans rfl
     clear hB;by_cases hq:nS s<=q
     ·have hqd:decide ((nS s:Int)<=(q:Int))=true:=decide_eq_true (by omega);have AQ:decide (nS s<=q)=true:=decide_eq_true hq;have HR:=aa (Ji.o 2 (by rw[m3.o,if_pos (.inr (by omega))]) (by decide));clear hx hX d1 jB vf hq
      go_wp2_with fail
      refine aF (by kernel_rfl) (by kernel_rfl) ?_
      repeat (go_big_quiet_step (fail))
      refine wpQuiet_nil ?_;rintro _ ⟨xq,rfl⟩;clear tb tb1 tb2
      go_wp2_with fail
      go_ret
      exact⟨aG (by rw[HR.o]),ae dT.o xq.ext⟩
     have hqd:decide ((nS s:Int)<=(q:Int))=false:=decide_eq_false (by omega);have AQ:decide (nS s<=q)=false:=decide_eq_false hq;have Dr:am (gw s l k=if linkB s q e f then 0 else 18):=aa (by rw[m3.o,if_neg (by omega)]);obtain⟨set,ii⟩:∃ set,maskN (fun p=>linkB s p e f) (nS s)=set:=⟨_,rfl⟩;have gJ:hasB (set:Int) q=linkB s q e f:=by rw[<-ii,mS,decide_eq_true (by omega),Bool.true_and]
     have lT:=sp (set:Int) q;rw[gJ]at lT;clear gJ;have hq30:q<=30:=by omega
     clear hx vf hq
     go_wp2_with fail
     refine aF (by kernel_rfl) (by kernel_rfl) ?_
     repeat (go_big_quiet_step (fail))
     refine wpQuiet_nil ?_;rintro _ ⟨xq,rfl⟩;have ff:=aa (ae dT.o xq.ext);have F6:=aa (Jp.o.up xq.ext);have HXQ:=aa (af xq.ext iX.o);have d2:∀ z:ExtW xq.val,z.val.cell? ⟨b1,o1+j * 2,none⟩=_:=fun z=>ak (ae xq.ext z.ext) d1
     have tq1:∀ z:ExtW xq.val,∀ o,z.val.cell? ⟨g,o,none⟩=_:=fun z=>ab (af z.ext HXQ.o)
     have bQ:=aa (show ∀ y:ExtW xq.val,Calls Tryz.prog 146 #[.pointer (some ⟨B,0,none⟩),.int .i64 (e:Int),.int .i64 (f:Int)] y.val fun r w''=>r=.returned (.int .i64 (set:Nat))/\∃ z:ExtW xq.val,w''=z.val from fun y=>Calls.ext_of ((Ag s dL.o B e f hX.2 hfe y.val (F6.o.up y.ext)).mono fun r w'' ⟨h1,h2⟩=>⟨by rw[h1,ii],h2 ▸ Below.refl _ _⟩));clear tb tb1 tb2 d1 ii;cases hb:linkB s q e f with
     | true=>
      have gt:am (gw s l k=0):=aa (by rw[Dr.o,hb];rfl);rw[hb]at lT;clear hb
      go_wp2_with fail
      refine aF (by kernel_rfl) (by kernel_rfl) ?_
      repeat (go_big_quiet_step ((go_at_call 146;with_reducible exact bQ.o _)))
      refine wpQuiet_nil ?_;rintro _ ⟨x2,rfl⟩;clear d2 tq1 lT jB
      go_wp2_with fail
      go_roundw
      ·exact⟨k+1,by omega,by go_num,ae ff.o x2.ext,F6.o.up x2.ext,aV HZ.o gt.o⟩
      ·simp[intOf];omega
     | false=>
      have HR:=aa (Ji.o 18 (by rw[Dr.o,hb];rfl) (by decide));rw[hb]at lT;clear hb
      go_wp2_with fail
      refine aF (by kernel_rfl) (by kernel_rfl) ?_
      repeat (go_big_quiet_step ((go_at_call 146;with_reducible exact bQ.o _)))
      refine wpQuiet_nil ?_;rintro _ ⟨x2,rfl⟩;clear d2 tq1 lT jB
      go_wp2_with fail
      go_ret
      exact⟨aG (by rw[HR.o]),ae ff.o x2.ext⟩
   ·have hd:(decide (0<=x)&&decide (x<(eS s:Int)))=false:=by
     rw[Bool.and_eq_false_iff];simp only[decide_eq_false_iff_not];omega
    rw[hd];have HR:=aa (Ji.o 6 (by rw[HE.o,if_pos (by omega)]) (by decide));clear hx hd
    go_wp2_with fail
    go_ret
    exact⟨aG (by rw[HR.o]),dT.o⟩
  ·have HR:am (walkE s l=0):=aa (by rw[dg.o];exact cU _ _ fun j hj=>HZ.o j (by omega))
   go_wp2_with fail
   go_ret
   exact⟨aG (by rw[HR.o]),aA⟩
end Go.Proofs.YtmeaoneaephjeaaGreatDoor
namespace Go.Proofs.YtmeaoneaephjeaaGreatDoor
open Go.RowKit Go Go.Shelf
attribute [local go_sem] Oper.semAt_some
attribute [local go_sem] xT
theorem KN(s:Sys) (e:Nat):ie s e<256:=ic _ 8
theorem KO(s:Sys) (l:List Nat):comM s l<256:=ic _ 8
theorem ScAt.val{w:World} {B:Nat} {s:Sys} (h:ScAt w B s):∃ pv cv,w.cell? ⟨B,10,none⟩=some (.slice pv (eS s) cv)/\∀ e,e<eS s->∃ b o,pv=some ⟨b,o,none⟩/\w.cell? ⟨b,o+e,none⟩=some (.int .i64 (ie s e:Nat)):=by
 obtain⟨vc,vs,vt,ve,vv,vl,h1,_,h2,_⟩:=h.ex;obtain⟨pv,cv,rfl,_,_,ev⟩:=h2.at;have hl:(DS s).length=eS s:=by simp[DS]
 rw[hl]at h1;refine⟨pv,cv,(ab h1 10).trans rfl,fun e he=>?_⟩;obtain⟨b,o,e1,c1,_⟩:=ev e (by rw[hl];exact he);refine⟨b,o,e1,?_⟩;rw[Nat.mul_one]at c1;rw[c1];simp[DS]
theorem Km(bo bs B n cv e m v b o:Nat) (hm:m<256) (hv:v<256) (he:e<n) (W:World) (h1:W.heap[bo]?=some (.cells #[.int .i64 m] 3)) (h2:W.cell? ⟨bs,0,none⟩=some (.pointer (some ⟨B,0,none⟩))) (h3:W.cell? ⟨B,10,none⟩=some (.slice (some ⟨b,o,none⟩) n cv)) (h4:W.cell? ⟨b,o+e,none⟩=some (.int .i64 v)) :
  Calls Tryz.prog 134 #[.int .i64 e,.pointer (some ⟨bo,0,none⟩),.pointer (some ⟨bs,0,none⟩)] W fun r W'=>(∃ x,r=.returned x)/\W'=W.drew.setCell ⟨bo,0,none⟩ (.int .i64 (m &&& v:Nat)):=by
 have t1:=ab h1 0;simp at t1;have Xx:=aa h1;have lT:bits .and .i64 ((m:Nat):Int) ((v:Nat):Int)=((m &&& v:Nat):Int):=zV m v (by omega) (by omega);clear h1
 go_enter Tryz.func134,Tryz.ntmps134
 go_still_tail 9,(by kernel_rfl)
 change wpList _ _ _ _ _ W.drew;have t2:W.drew.cell? ⟨bo,0,none⟩=some (.int .i64 m):=t1;have z2:W.drew.frozen? ⟨bo,0,none⟩=false:=aH Xx.o 0;clear t1 h2 h3 h4;obtain⟨V,hV⟩:∃ V,V=W.drew:=⟨_,rfl⟩;rw[<-hV]at t2 z2 ⊢;clear hV
 go_wp2_with fail
 go_end0
 exact⟨⟨_,rfl⟩,rfl⟩
structure CmI (s:Sys) (w:World) (B:Nat) (l:List Nat) (V:World):Prop where
 old:Below w.heap.size w V
 sc:V.heap[w.heap.size]?=some (.cells #[.pointer (some ⟨B,0,none⟩)] 94)
 out:V.heap[w.heap.size+1]?=some (.cells #[.int .i64 (comM s l:Nat)] 3)
 fn:V.heap[w.heap.size+1+1]?=some (.cells #[.func (.func 134) #[] #[.pointer (some ⟨w.heap.size+1,0,none⟩),.pointer (some ⟨w.heap.size,0,none⟩)]] 205)
theorem CmI.sta{s:Sys} {w:World} {B B0:Nat} {l:List Nat} (h:w.heap.size<=B0):cN B0 (CmI s w B l):=fun _ _ c x=>⟨c.below h x.old.size x.old,c.same _ _ x.sc (.inr rfl),c.same _ _ x.out (.inr rfl),c.same _ _ x.fn (.inr rfl)⟩
theorem Cm(s:Sys) (B:Nat) (gf:Nat) (lb:Array Value) (eg:∀ args w,(callFunc gf args).run Tryz.prog w=.ok (.enter gf args) w) (l:List Nat) (hl:∀ e∈l,e<eS s) (S:Nat->Prop) (w:World) (fU:ScAt w B s) (hS:∀ k,S k->k<w.heap.size)
  (dk:∀ W,Below w.heap.size w W->sg Tryz.prog gf lb (wo l) l.length S W) :
  Calls Tryz.prog 84 #[.pointer (some ⟨B,0,none⟩),.func (.func gf) #[] lb] w fun r w'=>r=.returned (.int .i64 (comM s l:Nat))/\Below w.heap.size w w':=by
 have jA:=aa fU;have HL:=aa hl;have HNIL:am (comM s (l.take 0)=255):=aa (by rw[List.take_zero];exact A2 s);have HSQ:=aa dk;have ec:=enters_of Tryz.func134 (by kernel_rfl) rfl;clear fU hl dk;refine gc Tryz.func84 rfl ?_;simp only[Tryz.ntmps84,List.size_toArray,List.length_cons,List.length_nil,Nat.reduceAdd,Nat.reduceSub,Array.replicate_succ,Array.replicate_zero,List.push_toArray,List.append_toArray,List.nil_append,List.cons_append]
 go_wp2_with fail
 refine bF (fun W=>CmI s w B [] W) ⟨by go_grown,aq _ (aq _ (ap _ _)),by rw[A2];exact aq _ (bu _ _ _),eD _ _ _ _⟩ (fun W1 cO=>?_);have gD:=aa cO;have CT:=cO.old.size;have dk:=HSQ.o W1 cO.old;have hsf:=aC cO.fn;clear cO
 refine mD (gf:=gf) (lb:=lb) rfl eg dk (Below.refl _ _) (fun k hk=>by have:=hS k hk;omega) (fun i=>rfl)
  (fun i V=>CmI s w B (l.take i) V) (fun _ _ _=>False) (fun i=>CmI.sta (by omega)) (fun c i=>cN.pure) (by rw[List.take_zero];exact gD.o) ?rnd ?done ?stop
 case stop=>rintro D' c i V hD hi h;exact h.elim
 case rnd=>
  intro yl i V hi hl iQ;unfold wo;obtain⟨e,jU⟩:∃ e,l.getD i 0=e:=⟨_,rfl⟩;have wZ:l[i]=e:=by rw[<-jU,az 0 hi]
  have iY:=HL.o l[i] (List.getElem_mem hi);rw[wZ]at iY;have jR:am (comM s (l.take (i+1))=comM s (l.take i) &&& ie s e):=aa (by rw[List.take_succ_eq_append_getElem hi,EZ,wZ]);rw[jU];have od:=aa iQ;clear iQ jU wZ dk
  gi_wp2
  refine⟨Bod.refl _ _ _,fun V=>CmI s w B (l.take i) V,CmI.sta (by omega),od.o,fun V2 h2 jv=>?_⟩;have dg:=aa h2;have tf:=ab h2.fn 0;simp at tf;obtain⟨pv,cv,t10,ev⟩:=(jA.o.up h2.old).val;obtain⟨b,o,rfl,te⟩:=ev e iY;have HC:=aa (Km (w.heap.size+1) w.heap.size B (eS s) cv e (comM s (l.take i)) (ie s e) b o (KO _ _) (KN _ _) iY V2 h2.out (by rw[ab h2.sc];rfl) t10 te);have I0:=h2.old.size;clear h2 t10 ev te jv
  gi_wp2
  refine⟨trivial,rfl,wL (HC.o.mono ?_)⟩;rintro r w3 ⟨⟨x,rfl⟩,rfl⟩
  gi_wp2
  obtain⟨q1,q2,q3,q4⟩:=dg.o;refine⟨⟨by simp,fun k hk=>?_,fun k o _ hk ho=>?_⟩,⟨(q1.drew.setCell (by dsimp only;omega) _),aO (by exact q2) (by omega) _ _,?_,aO (by exact q4) (by omega) _ _⟩⟩
  ·have:=hS k hk;exact Below.heap_setCell V2.drew _ _ _ (by dsimp only;omega)
  ·exact(KeepsOthers.setCell V2.drew _ _).same k o hk ho
  ·rw[jR.o];exact(aI (W:=V2.drew) q3 0 _).trans rfl
 case done=>
  intro D' V hD iQ hK;rw[List.take_of_length_le (Nat.le_refl _)]at iQ;have t1:=ab iQ.out 0;simp at t1;have od:=aa iQ;clear iQ dk
  go_wp2_with fail
  refine iG hK (results_tmp rfl _ _ _) ?_;exact⟨rfl,eT (by omega) od.o.old⟩
end Go.Proofs.YtmeaoneaephjeaaGreatDoor
namespace Go.Proofs.YtmeaoneaephjeaaGreatDoor
open Go.RowKit Go Go.Shelf
attribute [local go_sem] Oper.semAt_some
theorem zA{s:Sys} (hv:verifyE s=0):0<eS s:=by
 obtain⟨hb,hs⟩:=ER hv;have hp:=(ja hv).prob;obtain⟨ht,ha,_⟩:=ro hp;have h1:=(fm ht).2.2.2.1.1;have h2:=ik ha;have h3:=Fe h2.2.1 (by have:=h2.1;omega) s.prob.rounds.toNat 0 (by have:=h2.1;omega);rw[hs]
 show 0<(execsS s.prob (aP s.prob) (jn s.prob.t.cases.length (aP s.prob).length)).2.length
 unfold execsS;rw[rz,xJ];have:0<(aP s.prob).length:=h3;have:=Nat.mul_pos (show 0<s.prob.t.cases.length by omega) this;simp;omega
def nO(s:Sys):Nat:=(maxTo (partsS s) ((partsS s).length - 1)).toNat
def kN(s:Sys) (k:Nat):List Int:=(List.range k).map fun x:Nat=>comB s (memL (partsS s) x)
def jb(s:Sys):List Int:=kN s (nO s+1)
theorem kM(s:Sys) (e:Nat) (he:e<eS s):0<=(partsS s).getD e 0/\(partsS s).getD e 0<=e:=l3 (wm s _) e (by rw[gO];exact he)
theorem Cn{s:Sys} (h0:0<eS s):maxTo (partsS s) ((partsS s).length - 1)=(nO s:Int)/\nO s<eS s:=by
 obtain⟨i,hi,e⟩:=Bg (partsS s) ((partsS s).length - 1);rw[dN]at hi;have h1:=kM s i (by omega);unfold nO;rw[e];exact⟨by omega,by omega⟩
theorem qf{s:Sys} (h0:0<eS s) (e:Nat) (he:e<eS s):((partsS s).getD e 0).toNat<=nO s:=by
 have h1:=Ii (partsS s) ((partsS s).length - 1) e (by rw[dN];omega);have h2:=(Cn h0).1;omega
theorem nP{f:Nat->Int} {n k:Nat} (h:k<n):((List.range n).map f).getD k 0=f k:=by simp[h]
theorem Pp{s:Sys} (h0:0<eS s) (e:Nat) (he:e<eS s):(jb s).getD ((partsS s).getD e 0).toNat 0=(choiceS s).getD e 0:=by
 have h1:=qf h0 e he;have h2:=kM s e he;unfold jb kN choiceS;rw[nP (by omega),nP he,show ((((partsS s).getD e 0).toNat:Nat):Int)=(partsS s).getD e 0 by omega]
theorem rq{s:Sys} {x:Int}:∀ e∈memL (partsS s) x,e<eS s:=fun e he=>by
 have:=(li.1 he).1;rw[dN]at this;exact this
theorem uQ(s:Sys) (l:List Nat) (ho:oS s<=8):bS (comB s l):=by
 have:=L4 s l;unfold comB at *;rcases bH (oS s) (fun v=>l.all fun e=>valB s e v) with ⟨e,_⟩|⟨k,hk,e,_⟩
 ·rw[e];exact⟨by omega,by omega⟩
 ·rw[e];exact⟨by omega,by omega⟩
theorem uk(s:Sys) (hs:SysOk s) (h0:0<eS s) (hE:eS s<=256) (B:Nat) (w:World) (fU:ScAt w B s) (hT:iA w) :
  Calls Tryz.prog 41 #[.pointer (some ⟨B,0,none⟩)] w fun r w'=>∃ u,r=.returned u/\aX w' u (jb s)/\Below w.heap.size w w':=by
 obtain⟨vc,vs,vt,ve,vv,vl,h1,_,_,h2⟩:=fU.ex;obtain⟨pl,cl,rfl,lt1,lt2,el⟩:=h2.at;have tl:w.cell? ⟨B,11,none⟩=some (.slice pl (partsS s).length cl):=(ab h1 11).trans rfl;obtain⟨i0,df,cH,cj,cI⟩:=info_parts Tryz.infoInt;have cG:=aa (And.intro df (And.intro cH (And.intro cj cI)));have j9:=aa (Gx _ _ w h2 (by rw[dN];exact h0));have htop:=(Cn h0).2;rw[(Cn h0).1]at j9;have jA:=aa fU;have HT:=aa hT;have WO:=aa (fun (k:Nat) (W:World) (hb:Below w.heap.size w W) (q:Nat) (hq:comB s (memL (partsS s) k)=firstIx 8 (vT s (memL (partsS s) k)))=>Cf (vT s (memL (partsS s) k)) W (hT.up hb));have hZ:am (∀ k:Nat,comB s (memL (partsS s) k)=firstIx 8 (vT s (memL (partsS s) k))):=aa fun k=>KA hs rq
 have kX:am (kN s 0=[]/\(∀ k,kN s (k+1)=kN s k++[comB s (memL (partsS s) k)])/\(∀ k,(kN s k).length=k)/\∀ k,∀ x∈kN s k,bS x):=aa ⟨rfl,fun k=>by simp[kN,List.range_succ],fun k=>by simp[kN],fun k x hx=>by
  obtain⟨j,_,rfl⟩:=List.mem_map.1 hx
  exact uQ s _ hs.outs.2.1⟩
 have jD:am (kN s (nO s+1)=jb s):=aa rfl;obtain⟨M,hM⟩:∃ M,nO s=M:=⟨_,rfl⟩;rw[hM]at htop j9 jD;clear h1 h2 fU hT df cH cj cI el hM
 go_enter Tryz.func41,Tryz.ntmps41
 go_wp2_with fail
 refine j9.o.mono ?_;rintro e w1 ⟨rfl,rfl⟩;clear tl
 go_wp2_with fail
 go_loopw [3,11] (fun o i wr=>∃ k:Nat,k<=M+1/\i=.int .i64 k/\Below w.heap.size w wr/\aJ wr w.heap.size 3 1 o k ((kN s k).map (Value.int .i64))) (fun _ i _=>M+1 - (intOf i).toNat)
 ·exact⟨0,by omega,rfl,Below.refl _ _,by rw[kX.o.1];exact aJ.nil _ _ _ _⟩
 ·
  obtain⟨k,hk,rfl,aA,bg⟩:=hrel;obtain⟨al,cl2,rfl⟩:=bg.slice;have bP:=aa bg;have aY:=aa aA;have vj:=aA.size;clear bg aA;by_cases aB:k<M+1
  ·have nZ:(k:Int)<(M:Int)+1:=by omega
   go_wp2_with fail
   refine(wR B k wr).mono ?_;rintro e w2 ⟨rfl,rfl⟩
   go_wp2_with fail
   refine aQ (fun W=>Below wr.heap.size wr W/\W.heap[wr.heap.size]?=some (.cells #[.pointer (some ⟨B,0,none⟩)] 94)/\W.heap[wr.heap.size+1]?=some (.cells #[.int .i64 k] 3)) ⟨by go_grown,aq _ (ap _ _),bu _ _ _⟩ (fun W2 fg=>?_);obtain⟨aZ,ed,iK⟩:=fg;have rP:=ae aY.o aZ;have IE:=aC iK;refine(Cm s B 135 _ (enters_of Tryz.func135 (by kernel_rfl) rfl) (memL (partsS s) k) rq (fun q=>q<wr.heap.size\/q=wr.heap.size\/q=wr.heap.size+1) W2 (jA.o.up rP) (fun q hq=>by rcases hq with hq|rfl|rfl<;>omega) (fun W hb=>uP s B wr.heap.size (wr.heap.size+1) k wr (jA.o.up aY.o) W (ae aZ hb) (by rw[ab (af hb ed)];rfl) (by rw[ab (af hb iK)];rfl))).mono ?_;rintro e w3 ⟨rfl,bG⟩;have uq:=ae rP bG;have kH:=aa (ae aZ bG);clear ed iK aZ rP bG
   go_wp2_with fail
   refine(WO.o k w3 uq 0 (hZ.o k)).mono ?_;rintro e w4 ⟨rfl,rfl⟩;rw[<-hZ.o k];obtain⟨x,hx⟩:∃ x,comB s (memL (partsS s) k)=x:=⟨_,rfl⟩;rw[hx];have jF:am (kN s (k+1)=kN s k++[x]):=aa (by rw[<-hx];exact kX.o.2.1 k);have dm:=aa ((bP.o.up kH.o).up ((Below.refl _ w3).alloc (Nat.le_refl _) (.cells #[.int .i64 x] 3)));have bE:=aa (dU w3 [.int .i64 x] 3);have dT:=aa uq;have lE:am (k+1<=maxLen):=aa (by unfold maxLen;omega);have eW:am ((k+1) * 8<=140737488355328):=aa (by omega);have gC:am (w.heap.size<=(w3.alloc (.cells #[.int .i64 x] 3)).heap.size):=aa (by have:=dT.o.size;simp;omega);clear uq hx
   go_wp2_with (at_builtin;(refine bh _ rfl (.tmp 14) (.tmp 21) 38 rfl w.heap.size 3 i0 _ 1 8 Tryz.underlying38 cG.o.1 cG.o.2.1 cG.o.2.2.1 cG.o.2.2.2 rfl (by decide) _ k _ rfl dm.o ⟨w3.heap.size,0,none⟩ 1 1 [.int .i64 x] rfl rfl bE.o (by simp[Value.oneCell']) lE.o eW.o gC.o ?_;intro v6 w6 fo eL _))
   go_roundw
   ·
    refine⟨k+1,by omega,by go_num,eK dT.o (Nat.le_refl _) dm.o eL,?_⟩;rw[jF.o,List.map_append];exact fo
   ·simp[intOf];omega
  ·obtain rfl:k=M+1:=by omega
   have nZ:¬ ((M:Int)+1<(M:Int)+1):=by omega
   go_wp2_with fail
   go_ret
   refine⟨_,rfl,?_,aY.o⟩;rw[<-jD.o];have h3:=kX.o.2.2.1 (M+1);exact gI (base:=w.heap.size) (by rw[h3];exact bP.o) (kX.o.2.2.2 _) (by omega)
def iE(s:Sys) (e k:Nat):List Int:=((List.range k).filter (valB s e)).map fun v:Nat=>(v:Int)
theorem RP{s:Sys} (h:SysOk s) {e:Nat} (he:e<eS s):iE s e 8=valuesS s e:=by
 unfold iE valuesS;have ho:=h.outs.2.1;obtain⟨d,hd⟩:∃ d,8=oS s+d:=⟨8 - oS s,by omega⟩
 have jP:((List.range d).map (oS s+·)).filter (valB s e)=[]:=List.filter_eq_nil_iff.2 fun v hv h2=>by
  obtain⟨j,_,rfl⟩:=List.mem_map.1 hv;have:=Oe h he h2;omega
 rw[hd,List.range_add,List.filter_append,jP,List.append_nil]
theorem Io{s:Sys} {e k:Nat} (h:valB s e k=true):iE s e (k+1)=iE s e k++[(k:Int)]:=by
 unfold iE;rw[List.range_succ,List.filter_append,List.map_append];simp[h]
theorem KP{s:Sys} {e k:Nat} (h:valB s e k=false):iE s e (k+1)=iE s e k:=by
 unfold iE;rw[List.range_succ,List.filter_append,List.map_append];simp[h]
theorem Bk(s:Sys) (e k:Nat):(iE s e k).length<=k:=by
 unfold iE;rw[List.length_map];exact Nat.le_trans (List.length_filter_le _ _) (by simp)
theorem mL(w:World):aX w (.slice none 0 0) []:=gI (aJ.nil w 0 _ _) (by simp) (by simp)
theorem MA(s:Sys) (x:Int) (hE:eS s<=256) (vc vs vt ve:Value) (w:World) (hs:IsSys w s vc vs vt ve) (hN:movesN s.prob.a.states<1099511627776) :
  Calls Tryz.prog 11 #[.agg (bZ s.prob vc vs s.n vt ve),.int .i64 x] w fun r w'=>∃ u,r=.returned (.tuple #[u,.int .i64 (valuesR s x).2])/\aX w' u (valuesR s x).1/\Below w.heap.size w w':=by
 have HS:=aa hs;obtain⟨⟨pc,cc,rfl⟩,⟨ps,cs,rfl⟩,⟨pt,ct,rfl⟩,⟨pe,ce,rfl⟩⟩:=bM hs;clear hs;have HC:=aa (fun W (hb:Below w.heap.size w W)=>nN s hE _ _ _ _ W (HS.o.up hb) hN);obtain⟨i0,df,cH,cj,cI⟩:=info_parts Tryz.infoInt;have cG:=aa (And.intro df (And.intro cH (And.intro cj cI)))
 have dL:am (readyE s=0->SysOk s):=aa fun h=>by
  refine ja ?_;unfold readyE at h;split at h
  ·rename_i h1;exact absurd h h1
  ·omega
 have dd:am (readyE s≠0->valuesR s x=([],readyE s)):=aa fun h=>by unfold valuesR;rw[if_pos h]
 have eJ:am (readyE s=0->(x<0\/(eS s:Int)<=x)->valuesR s x=([],6)):=aa fun h h2=>by unfold valuesR;rw[if_neg (by omega),if_pos h2]
 have gp:am (readyE s=0->¬ (x<0\/(eS s:Int)<=x)->valuesR s x=(valuesS s x.toNat,0)):=aa fun h h2=>by unfold valuesR;rw[if_neg (by omega),if_neg h2]
 generalize valuesR s x=vr at dd eJ gp ⊢;obtain⟨re,jX⟩:∃ re,readyE s=re:=⟨_,rfl⟩;rw[jX]at dd eJ gp HC dL;clear jX df cH cj cI
 go_enter Tryz.func11,Tryz.ntmps11
 go_wp2_with fail
 refine aQ (fun W=>Below w.heap.size w W) (by go_grown) (fun W0 aK=>?_);refine(HC.o W0 aK).mono ?_;rintro e w1 ⟨v,rfl,aM,h2,h3⟩;have bL:=aa (ae aK aM);by_cases hr:re=0
 case neg=>
  have HV:=aa (dd.o hr);obtain rfl:=h2 hr;have F4:(re != 0)=true:=by simpa using hr
  clear aK aM h2 h3 hr HC
  go_wp2_with fail
  go_ret2
  exact⟨_,by rw[HV.o];rfl,by rw[HV.o];exact mL _,bL.o⟩
 obtain⟨B,rfl,hB,fU⟩:=h3 hr;have jA:=aa fU;obtain⟨pv,cv,tv,ev⟩:=fU.val;have EV:=aa ev;have JI:=aa (dL.o hr);subst hr;have fT:=bL.o.size;clear aK aM h2 h3 HC fU ev;by_cases dp:x<0
 ·have HV:=aa (eJ.o rfl (.inl dp));have hd:decide (x<0)=true:=decide_eq_true dp;clear dp
  go_wp2_with fail
  go_ret2
  exact⟨_,by rw[HV.o];rfl,by rw[HV.o];exact mL _,bL.o⟩
 have hd:decide (x<0)=false:=decide_eq_false dp;obtain⟨e,rfl⟩:∃ e:Nat,x=e:=⟨x.toNat,by omega⟩;by_cases dJ:eS s<=e
 ·have HV:=aa (eJ.o rfl (.inr (by omega)));have gm:decide ((eS s:Int)<=(e:Int))=true:=decide_eq_true (by omega);have oI:decide (eS s<=e)=true:=decide_eq_true dJ;clear dp dJ
  go_wp2_with fail
  go_ret2
  exact⟨_,by rw[HV.o];rfl,by rw[HV.o];exact mL _,bL.o⟩
 have gm:decide ((eS s:Int)<=(e:Int))=false:=decide_eq_false (by omega);have oI:decide (eS s<=e)=false:=decide_eq_false dJ;have HV:=aa (gp.o rfl (by omega));have he:e<eS s:=by omega
 obtain⟨b,o,rfl,te⟩:=EV.o e he;have uS:am (iE s e 8=valuesS s e):=aa (RP JI.o he);clear dp dJ
 go_wp2_with fail
 go_loopw [8,29] (fun q i wr=>∃ k:Nat,k<=8/\i=.int .i64 k/\Below w1.heap.size w1 wr/\aJ wr w1.heap.size 3 1 q (iE s e k).length ((iE s e k).map (Value.int .i64))) (fun _ i _=>8 - (intOf i).toNat)
 ·exact⟨0,by omega,rfl,Below.refl _ _,aJ.nil _ _ _ _⟩
 ·
  obtain⟨k,hk,rfl,aA,bg⟩:=hrel;obtain⟨al,cl2,rfl⟩:=bg.slice;have bP:=aa bg;have aY:=aa aA;have vj:=aA.size;have tvr:=ak aY.o tv;have ter:=ak aY.o te;clear bg aA;by_cases aB:k<8
  ·have nZ:(k:Int)<8:=by omega
   have gJ:=ra ((ie s e:Nat):Int) k;have XB:hasB ((ie s e:Nat):Int) k=valB s e k:=by unfold ie;rw[mS,decide_eq_true aB,Bool.true_and]
   rw[XB]at gJ;have wY:=Bk s e k;cases hb:valB s e k with
   | true=>
    have HY:=aa (Io hb);rw[hb]at gJ;obtain⟨n,hn⟩:∃ n,(iE s e k).length=n:=⟨_,rfl⟩;rw[hn]at wY bP ⊢;have rM:am ((iE s e (k+1)).length=n+1):=aa (by rw[HY.o,List.length_append,hn];rfl);have dm:=aa (bP.o.up ((Below.refl _ wr).alloc (Nat.le_refl _) (.cells #[.int .i64 k] 3)));have bE:=aa (dU wr [.int .i64 (k:Int)] 3);have lE:am (n+1<=maxLen):=aa (by unfold maxLen;omega);have eW:am ((n+1) * 8<=140737488355328):=aa (by omega);have gC:am (w1.heap.size<=(wr.alloc (.cells #[.int .i64 k] 3)).heap.size):=aa (by simp;omega);clear hb XB hn
    go_wp2_with (at_builtin;(refine bh _ rfl (.tmp 43) (.tmp 45) 38 rfl w1.heap.size 3 i0 _ 1 8 Tryz.underlying38 cG.o.1 cG.o.2.1 cG.o.2.2.1 cG.o.2.2.2 rfl (by decide) _ n _ rfl dm.o ⟨wr.heap.size,0,none⟩ 1 1 [.int .i64 (k:Int)] rfl rfl bE.o (by simp[Value.oneCell']) lE.o eW.o gC.o ?_;intro v6 w6 fo eL _))
    go_roundw
    ·
     refine⟨k+1,by omega,by go_num,eK aY.o (Nat.le_refl _) dm.o eL,?_⟩;rw[rM.o,HY.o,List.map_append];exact fo
    ·simp[intOf];omega
   | false=>
    have HY:=aa (KP hb);rw[hb]at gJ;clear hb XB
    go_wp2_with fail
    go_roundw
    ·
     refine⟨k+1,by omega,by go_num,aY.o,?_⟩;rw[HY.o];exact bP.o
    ·simp[intOf];omega
  ·obtain rfl:k=8:=by omega
   clear tvr ter
   go_wp2_with fail
   go_ret2
   refine⟨_,by rw[HV.o];rfl,?_,ae bL.o aY.o⟩;rw[HV.o,Int.toNat_natCast,<-uS.o];refine gI (l:=iE s e 8) bP.o (fun y hy=>?_) (by have:=Bk s e 8;omega);obtain⟨j,hj,rfl⟩:=List.mem_map.1 hy;have:=List.mem_range.1 (List.mem_filter.1 hj).1;exact⟨by omega,by omega⟩
theorem MB(s:Sys) (hE:eS s<=256) (vc vs vt ve:Value) (w:World) (hT:iA w) (hs:IsSys w s vc vs vt ve) (hN:movesN s.prob.a.states<1099511627776) :
  Calls Tryz.prog 13 #[.agg (bZ s.prob vc vs s.n vt ve)] w fun r w'=>∃ u,r=.returned (.tuple #[u,.int .i64 (choiceR s).2])/\aX w' u (choiceR s).1/\Below w.heap.size w w':=by
 have HS:=aa hs;have HT:=aa hT;obtain⟨⟨pc,cc,rfl⟩,⟨ps,cs,rfl⟩,⟨pt,ct,rfl⟩,⟨pe,ce,rfl⟩⟩:=bM hs;clear hs hT;have HC:=aa (fun W (hb:Below w.heap.size w W)=>nN s hE _ _ _ _ W (HS.o.up hb) hN);obtain⟨i0,df,cH,cj,cI⟩:=info_parts Tryz.infoInt;have cG:=aa (And.intro df (And.intro cH (And.intro cj cI)))
 have oV:am (readyE s=0->verifyE s=0):=aa fun h=>by
  unfold readyE at h;split at h
  ·rename_i h1;exact absurd h h1
  ·omega
 have dd:am (readyE s≠0->choiceR s=([],readyE s)):=aa fun h=>by unfold choiceR;rw[if_pos h]
 have gp:am (readyE s=0->choiceR s=(choiceS s,0)):=aa fun h=>by unfold choiceR;rw[if_neg (by omega)]
 generalize choiceR s=vr at dd gp ⊢;obtain⟨re,jX⟩:∃ re,readyE s=re:=⟨_,rfl⟩;rw[jX]at dd gp HC oV;clear jX df cH cj cI
 go_enter Tryz.func13,Tryz.ntmps13
 go_wp2_with fail
 refine aQ (fun W=>Below w.heap.size w W) (by go_grown) (fun W0 aK=>?_);refine(HC.o W0 aK).mono ?_;rintro e w1 ⟨v,rfl,aM,h2,h3⟩;have bL:=aa (ae aK aM);by_cases hr:re=0
 case neg=>
  have HV:=aa (dd.o hr);obtain rfl:=h2 hr;have F4:(re != 0)=true:=by simpa using hr
  clear aK aM h2 h3 hr HC
  go_wp2_with fail
  go_ret2
  exact⟨_,by rw[HV.o];rfl,by rw[HV.o];exact mL _,bL.o⟩
 obtain⟨B,rfl,hB,fU⟩:=h3 hr;have jA:=aa fU;have HV:=aa (gp.o hr);have sT:=aa (oV.o hr);have dL:=aa (ja sT.o);have HP:=aa (zA sT.o);subst hr;have fT:=bL.o.size;clear aK aM h2 h3 HC fU
 go_wp2_with fail
 refine(uk s dL.o HP.o hE B w1 jA.o (HT.o.up bL.o)).mono ?_;rintro e w2 ⟨u,rfl,hu,aZ⟩;have HU:=aa hu;obtain⟨pu,cu,rfl,eu⟩:=ef hu;have EU:=aa eu;have cX:=aa (ae bL.o aZ);obtain⟨vc,vs,vt,ve,vv,vl,q1,_,_,q2⟩:=(jA.o.up aZ).ex;obtain⟨pl,cl,rfl,el⟩:=ef q2;have EL:=aa el;have tl:w2.cell? ⟨B,11,none⟩=some (.slice pl (partsS s).length cl):=(ab q1 11).trans rfl;have ju:am ((jb s).length=nO s+1):=aa (by simp[jb,kN]);have HL:am ((partsS s).length=eS s):=aa (dN s);obtain⟨L,hL⟩:∃ L:Nat->List Int,L=fun k=>(List.range k).map fun e=>(choiceS s).getD e 0:=⟨_,rfl⟩
 have kW:am (L 0=[]/\(∀ k,L (k+1)=L k++[(choiceS s).getD k 0])/\(∀ k,(L k).length=k)/\L (eS s)=choiceS s/\∀ k,k<=eS s->∀ x∈L k,bS x):=aa (by
  subst hL;refine⟨rfl,fun k=>by simp[List.range_succ],fun k=>by simp,?_,fun k hk x hx=>?_⟩
  ·unfold choiceS;exact List.map_congr_left fun e he=>nP (List.mem_range.1 he)
  ·obtain⟨j,hj,rfl⟩:=List.mem_map.1 hx;have:=List.mem_range.1 hj;unfold choiceS;rw[nP (by omega)]
   exact uQ s _ dL.o.outs.2.1)
 have qU:am (∀ k,k<eS s->0<=(partsS s).getD k 0/\((partsS s).getD k 0).toNat<(jb s).length/\(jb s).getD ((partsS s).getD k 0).toNat 0=(choiceS s).getD k 0):=aa fun k hk=>⟨(kM s k hk).1,by have:=qf HP.o k hk;have:=ju.o;omega,Pp HP.o k hk⟩
 rw[HL.o]at tl EL;obtain⟨m,hm⟩:∃ m,eS s=m:=⟨_,rfl⟩;rw[hm]at hE kW qU tl EL;clear hu eu aZ q1 q2 el hL hm;obtain⟨cn,Dp⟩:∃ cn,(jb s).length=cn:=⟨_,rfl⟩;rw[Dp]at EU qU ⊢;clear Dp ju HL
 go_wp2_with fail
 clear tl
 go_loopw [7,25] (fun q i wr=>∃ k:Nat,k<=m/\i=.int .i64 k/\Below w2.heap.size w2 wr/\aJ wr w2.heap.size 3 1 q k ((L k).map (Value.int .i64))) (fun _ i _=>m - (intOf i).toNat)
 ·exact⟨0,by omega,rfl,Below.refl _ _,by rw[kW.o.1];exact aJ.nil _ _ _ _⟩
 ·
  obtain⟨k,hk,rfl,aA,bg⟩:=hrel;obtain⟨al,cl2,rfl⟩:=bg.slice;have bP:=aa bg;have aY:=aa aA;have vj:=aA.size;clear bg;by_cases aB:k<m
  ·obtain⟨b,o,rfl,c1⟩:=EL.o k aB;obtain⟨g1,g2,g3⟩:=qU.o k aB;obtain⟨n,hn⟩:∃ n:Nat,(partsS s).getD k 0=n:=⟨((partsS s).getD k 0).toNat,by omega⟩;rw[hn,Int.toNat_natCast]at g2 g3;obtain⟨b2,o2,rfl,c2⟩:=EU.o n g2;rw[g3]at c2;rw[hn]at c1;have d1:=ak aA c1;have d2:=ak aA c2;have jF:=aa (kW.o.2.1 k);generalize (choiceS s).getD k 0=x at d2 jF;have dm:=aa (bP.o.up ((Below.refl _ wr).alloc (Nat.le_refl _) (.cells #[.int .i64 x] 3)));have bE:=aa (dU wr [.int .i64 x] 3);have lE:am (k+1<=maxLen):=aa (by unfold maxLen;omega);have eW:am ((k+1) * 8<=140737488355328):=aa (by omega);have gC:am (w2.heap.size<=(wr.alloc (.cells #[.int .i64 x] 3)).heap.size):=aa (by simp;omega);clear g1 g3 hn c1 c2 aA
   go_wp2_with (at_builtin;(refine bh _ rfl (.tmp 29) (.tmp 34) 38 rfl w2.heap.size 3 i0 _ 1 8 Tryz.underlying38 cG.o.1 cG.o.2.1 cG.o.2.2.1 cG.o.2.2.2 rfl (by decide) _ k _ rfl dm.o ⟨wr.heap.size,0,none⟩ 1 1 [.int .i64 x] rfl rfl bE.o (by simp[Value.oneCell']) lE.o eW.o gC.o ?_;intro v6 w6 fo eL _))
   go_roundw
   ·
    refine⟨k+1,by omega,by go_num,eK aY.o (Nat.le_refl _) dm.o eL,?_⟩;rw[jF.o,List.map_append];exact fo
   ·simp[intOf];omega
  ·obtain rfl:k=m:=by omega
   clear aA
   go_wp2_with fail
   go_ret2
   refine⟨_,by rw[HV.o];rfl,?_,ae cX.o aY.o⟩;rw[HV.o,<-kW.o.2.2.2.1];exact gI (l:=L k) (by rw[kW.o.2.2.1 k];exact bP.o) (kW.o.2.2.2.2 k (Nat.le_refl _)) (by have:=kW.o.2.2.1 k;omega)
theorem Vd{s:Sys} {p:Nat} (hp:p<nS s) (e:Nat):hasB ((oblM s e:Nat):Int) p=!hasB (fltS s e) p:=by unfold oblM;rw[mS,decide_eq_true hp,Bool.true_and]
theorem Pq{s:Sys} (h:nS s<=5) (e:Nat):oblM s e<32:=by
 have h1:=ic (fun p=>!hasB (fltS s e) p) (nS s);have h4:(2:Nat) ^ nS s<=2 ^ 5:=Nat.pow_le_pow_right (by omega) h;unfold oblM;omega
theorem MC(s:Sys) (hs:SysOk s) (p e f:Nat) (hp:p<nS s) (he:e<eS s) (hf:f<eS s) (vc vs vt ve:Value) (w:World) (dC:IsSys w s vc vs vt ve) :
  Calls Tryz.prog 139 #[.agg (bZ s.prob vc vs s.n vt ve),.int .i64 p,.int .i64 e,.int .i64 f] w fun r w'=>r=.returned (.bool (linkB s p e f))/\Below w.heap.size w w':=by
 have HS:=aa dC;obtain⟨⟨pc,cc,rfl⟩,⟨ps,cs,rfl⟩,⟨pt,ct,rfl⟩,⟨pe,ce,rfl⟩⟩:=bM dC;clear dC;have K0:=aa (fun W (hb:Below w.heap.size w W)=>Fi s hs e he _ _ _ _ W (HS.o.up hb));have HMF:=aa (fun W (hb:Below w.heap.size w W)=>Fi s hs f hf _ _ _ _ W (HS.o.up hb));have jz:=hs.n.2.1;have k8:=Pq jz e;have hlf:=Pq jz f;have XE:=aa (fun w=>mH ((oblM s e:Nat):Int) p (by omega) (by omega) (by omega) w);have XW:=aa (fun w=>mH ((oblM s f:Nat):Int) p (by omega) (by omega) (by omega) w);rw[Vd hp]at XE XW;have it:am (linkB s p e f=(!hasB (fltS s e) p&&!hasB (fltS s f) p&&decide (finS s e p=finS s f p))):=aa rfl;obtain⟨b,o,_,ce1,e0,rfl,_,_,_,_,cv1,-,-,c3,-,-,-,b2,o2,pr,cr,rfl,c4,cA⟩:=iJ hs HS.o.ex he;injection e0 with e01 e02 e03
 subst e01;clear e02 e03;obtain⟨b',o',_,ce2,e0,e4,_,_,_,_,cv2,-,-,d3,-,-,-,b3,o3,pr',cr',rfl,d4,mA⟩:=iJ hs HS.o.ex hf;injection e0 with e01 e02 e03
 injection e01 with e01
 injection e01 with e011 e012
 subst e011 e012;clear e02 e03 e4;have qi:=hs.rounds;obtain⟨rr,Dq⟩:∃ rr:Nat,s.prob.rounds=rr:=⟨s.prob.rounds.toNat,by omega⟩;have FK:s.prob.rounds.toNat=rr:=by omega
 rw[FK]at c3 c4 d3 d4;obtain⟨pa,ca,ea,r1⟩:=ef cA;injection ea with ea1 ea2 ea3
 subst ea1 ea3;clear ea2;obtain⟨pa',ca',ea,r2⟩:=ef mA;injection ea with ea1 ea2 ea3
 subst ea1 ea3;clear ea2;obtain⟨b6,o6,rfl,f1⟩:=r1 p (by simpa using hp);obtain⟨b7,o7,rfl,f2⟩:=r2 p (by simpa using hp);rw[nP hp]at f1 f2;have Jc:s.ex.length=eS s:=rfl;have Lb:=aa (fun W (hb:Below w.heap.size w W)=>Ck s e rr Dq (.slice pc s.prob.t.cases.length cc) (.slice ps s.prob.a.states.length cs) (.slice pt s.tab.length ct) b o s.ex.length ce he b2 o2 (rr+1) cv1 (by omega) (.slice (some ⟨b6,o6,none⟩) (nS s) cr) ⟨_,_,_,rfl⟩ W (ak hb c3) (ak hb c4));have xr:=aa (fun W (hb:Below w.heap.size w W)=>Ck s f rr Dq (.slice pc s.prob.t.cases.length cc) (.slice ps s.prob.a.states.length cs) (.slice pt s.tab.length ct) b o s.ex.length ce hf b3 o3 (rr+1) cv2 (by omega) (.slice (some ⟨b7,o7,none⟩) (nS s) cr') ⟨_,_,_,rfl⟩ W (ak hb d3) (ak hb d4));have nT:=aa f1;have rX:=aa f2;generalize hasB (fltS s e) p=be at XE it;generalize hasB (fltS s f) p=bf at XW it;generalize finS s e p=xe at nT it;generalize finS s f p=xf at rX it;generalize linkB s p e f=lk at it ⊢;clear c3 c4 d3 d4 cA mA r1 r2 f1 f2 Dq FK Jc qi k8 hlf
 go_enter Tryz.func139,Tryz.ntmps139
 go_wp2_with fail
 refine aQ (fun W=>Below w.heap.size w W/\∃ c,W.heap[w.heap.size]?=some (.cells c 35)/\c=bZ s.prob (.slice pc s.prob.t.cases.length cc) (.slice ps s.prob.a.states.length cs) s.n (.slice pt s.tab.length ct) (.slice (some ⟨b,o,none⟩) s.ex.length ce)) ⟨by go_grown,_,ap _ _,rfl⟩ (fun W0 bd=>?_);obtain⟨aK,_,hA,rfl⟩:=bd;refine(K0.o W0 aK).mono ?_;rintro r w1 ⟨rfl,aM⟩;have bL:=aa (ae aK aM);have dP:=aa (af aM hA);clear aK aM hA K0
 go_wp2_with fail
 refine(XE.o w1).mono ?_;rintro r w' ⟨rfl,rfl⟩;cases be with
 | true=>
  go_wp2_with fail
  go_ret
  exact⟨aS (by rw[it.o];rfl),bL.o⟩
 | false=>
  have tS:=ab dP.o
  go_wp2_with fail
  clear tS;refine(HMF.o w1 bL.o).mono ?_;rintro r w2 ⟨rfl,aZ⟩;have cX:=aa (ae bL.o aZ);have sX:=aa (af aZ dP.o);clear aZ
  go_wp2_with fail
  refine(XW.o w2).mono ?_;rintro r w' ⟨rfl,rfl⟩;cases bf with
  | true=>
   go_wp2_with fail
   go_ret
   exact⟨aS (by rw[it.o];rfl),cX.o⟩
  | false=>
   have HLK2:am (lk=decide (xe=xf)):=aa (by rw[it.o];rfl)
   go_wp2_with fail
   have yS:∀ z:ExtW w2,∀ j,z.val.cell? ⟨w.heap.size,j,none⟩=_:=fun z=>ab (af z.ext sX.o)
   have y1:∀ z:ExtW w2,z.val.cell? ⟨b6,o6+p,none⟩=_:=fun z=>ak (ae cX.o z.ext) nT.o
   have y2:∀ z:ExtW w2,z.val.cell? ⟨b7,o7+p,none⟩=_:=fun z=>ak (ae cX.o z.ext) rX.o
   have K1:am (∀ y:ExtW w2,Calls Tryz.prog 46 #[.agg #[.int .i64 s.prob.t.n,.int .i64 s.prob.t.ins,.int .i64 s.prob.t.outs,.slice pc s.prob.t.cases.length cc,.int .i64 s.prob.a.n,.slice ps s.prob.a.states.length cs,.int .i64 s.prob.rounds,.int .i64 s.n,.slice pt s.tab.length ct,.slice (some ⟨b,o,none⟩) s.ex.length ce],.int .i64 e] y.val fun r w''=>r=.returned (.slice (some ⟨b6,o6,none⟩) (nS s) cr)/\∃ z:ExtW w2,w''=z.val):=aa (fun y=>Calls.ext_of (Lb.o y.val (ae cX.o y.ext)));have K2:am (∀ y:ExtW w2,Calls Tryz.prog 46 #[.agg #[.int .i64 s.prob.t.n,.int .i64 s.prob.t.ins,.int .i64 s.prob.t.outs,.slice pc s.prob.t.cases.length cc,.int .i64 s.prob.a.n,.slice ps s.prob.a.states.length cs,.int .i64 s.prob.rounds,.int .i64 s.n,.slice pt s.tab.length ct,.slice (some ⟨b,o,none⟩) s.ex.length ce],.int .i64 f] y.val fun r w''=>r=.returned (.slice (some ⟨b7,o7,none⟩) (nS s) cr')/\∃ z:ExtW w2,w''=z.val):=aa (fun y=>Calls.ext_of (xr.o y.val (ae cX.o y.ext)));refine aF (by kernel_rfl) (by kernel_rfl) ?_
   repeat (go_big_quiet_step (first|(go_at_call 46;with_reducible exact K1.o _)|(go_at_call 46;with_reducible exact K2.o _)))
   refine wpQuiet_nil ?_;rintro _ ⟨xq,rfl⟩;clear yS y1 y2
   go_wp2_with fail
   go_ret
   exact⟨aS (by rw[HLK2.o,Bool.eq_iff_iff];simp),ae cX.o xq.ext⟩
end Go.Proofs.YtmeaoneaephjeaaGreatDoor
