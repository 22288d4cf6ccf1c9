/-
  A part of the proof: lemmas and contracts that the parts behind it use. Each one's conditions are its own premises.
-/
import Derived.Test.YtmeaoneaephjeaaGreatDoorJ9
set_option maxRecDepth 100000
set_option maxHeartbeats 8000000
set_option linter.unusedVariables false
set_option linter.unusedSimpArgs false
namespace Go.Proofs.YtmeaoneaephjeaaGreatDoor
open Go.RowKit Go Go.Shelf
attribute [local go_sem] Oper.semAt_some
theorem Ma(va vb:Value) (a b:List Int) (w:World) (ha:aT w va a) (hb:aT w vb b) :
  Calls Tryz.prog 184 #[va,vb] w fun e w'=>e=.returned (.bool (decide (a=b)))/\Below w.heap.size w w':=by
 obtain⟨pa,ca,rfl,ea⟩:=dO ha;obtain⟨pb,cb,rfl,eb⟩:=dO hb;obtain⟨_,_,_,_,la2,_⟩:=ha.at;obtain⟨_,_,_,_,lb2,_⟩:=hb.at;have EA:=aa ea;have EB:=aa eb;have gQ:Hid (a.length=b.length->(∀ j,j<a.length->a.getD j 0=b.getD j 0)->decide (a=b)=true):=aa fun h1 h2=>decide_eq_true (eW 0 h1 h2)
 have gJ:Hid (a.length≠b.length->decide (a=b)=false):=aa fun h=>decide_eq_false fun e=>h (by rw[e])
 have og:Hid (∀ j,j<a.length->a.getD j 0≠b.getD j 0->decide (a=b)=false):=aa fun j _ h=>decide_eq_false fun e=>h (by rw[e])
 generalize decide (a=b)=r at gQ gJ og ⊢;clear ha hb ea eb
 go_enter Tryz.func184,Tryz.ntmps184
 by_cases hl:a.length=b.length
 case neg=>
  have hd:(((a.length:Nat):Int) != ((b.length:Nat):Int))=true:=by simp;omega
  have HR:=aa (gJ.out hl);clear hl
  go_wp2_with fail
  go_ret
  exact⟨aO (by rw[HR.out]),Below.refl _ _⟩
 have HL:=aa hl;obtain⟨n,hn⟩:∃ n,a.length=n:=⟨_,rfl⟩;have iy:b.length=n:=by omega
 have HN:=aa hn;have An:=aa iy;rw[hn]at la2 EA ⊢;rw[iy]at lb2 EB ⊢;clear hl hn iy;have hd:((n:Int) != (n:Int))=false:=by simp
 go_wp2_with fail
 go_loopw [5] (fun i wr=>∃ k:Nat,k<=n/\i=.int .i64 k/\Below w.heap.size w wr/\∀ j,j<k->a.getD j 0=b.getD j 0) (fun i _=>n - (intOf i).toNat)
 case atStart=>exact⟨0,by omega,rfl,Below.refl _ _,fun j hj=>by omega⟩
 case round=>
  obtain⟨k,hk,rfl,ar,aR⟩:=hrel;have H:=aa aR;have aP:=aa ar;clear aR;by_cases aA:k<n
  ·obtain⟨b1,o1,rfl,h1⟩:=EA.out k aA
   obtain⟨b2,o2,rfl,h2⟩:=EB.out k aA;have p9:Hid (∀ x,a.getD k 0=x->a.getD k 0=x):=aa fun _ h=>h
   obtain⟨x,hx⟩:∃ x,a.getD k 0=x:=⟨_,rfl⟩;obtain⟨y,hy⟩:∃ y,b.getD k 0=y:=⟨_,rfl⟩;rw[hx]at h1;rw[hy]at h2;have HX:=aa hx;have HY:=aa hy;have c0:∀ z:ExtW wr,z.val.cell? ⟨b1,o1+k,none⟩=_:=fun z=>z.cell (ak ar h1)
   have d0:∀ z:ExtW wr,z.val.cell? ⟨b2,o2+k,none⟩=_:=fun z=>z.cell (ak ar h2)
   clear h1 h2 ar hx hy p9;by_cases bY:x=y
   ·have nT:=aa bY
    have fY:(x != y)=false:=by simp[bY]
    clear bY
    go_wp2_with fail
    refine aC (by kernel_rfl) (by kernel_rfl) ?_
    repeat (go_big_quiet_step (fail))
    refine wpQuiet_nil ?_;rintro _ ⟨xq,rfl⟩;clear c0 d0
    go_wp2_with fail
    go_roundw
    case rel=>exact⟨k+1,by omega,by go_num,ae aP.out xq.ext,aS (p:=fun j=>a.getD j 0=b.getD j 0) H.out (by rw[HX.out,HY.out];exact nT.out)⟩
    case measure=>simp[intOf];omega
   ·have HR:=aa (og.out k (by rw[HN.out];exact aA) (by rw[HX.out,HY.out];exact bY))
    have fY:(x != y)=true:=by simpa using bY
    clear bY
    go_wp2_with fail
    refine aC (by kernel_rfl) (by kernel_rfl) ?_
    repeat (go_big_quiet_step (fail))
    refine wpQuiet_nil ?_;rintro _ ⟨xq,rfl⟩;clear c0 d0
    go_wp2_with fail
    go_ret
    exact⟨aO (by rw[HR.out]),ae aP.out xq.ext⟩
  ·obtain rfl:k=n:=by omega
   have HR:=aa (gQ.out HL.out fun j hj=>H.out j (by have:=HN.out;omega))
   go_wp2_with fail
   go_ret
   exact⟨aO (by rw[HR.out]),aP.out⟩
theorem Mb(va vb:Value) (a b:List Rd) (w:World) (ha:j8 w va a) (hb:j8 w vb b) :
  Calls Tryz.prog 183 #[va,vb] w fun e w'=>e=.returned (.bool (decide (a=b)))/\Below w.heap.size w w':=by
 obtain⟨pa,ca,rfl,la1,la2,ea⟩:=ha.at;obtain⟨pb,cb,rfl,lb1,lb2,eb⟩:=hb.at;clear ha hb;have EA:=aa ea;clear ea;have EB:=aa eb;clear eb;generalize nB:decide (a=b)=res;have jr:=aa nB;clear nB;by_cases hl:a.length=b.length
 case neg=>
  have ie:((a.length:Int) != (b.length:Int))=true:=by simp;omega
  have HR:Hid (res=false):=by(have h:res=false:=by(rw[<-jr.out];simp;intro h;exact hl (by rw[h])));exact h
  clear hl
  go_enter Tryz.func183,Tryz.ntmps183
  go_wp2
  go_ret
  exact⟨aO HR.out.symm,Below.refl _ _⟩
 have ie:((a.length:Int) != (b.length:Int))=false:=by simp[hl]
 have HL:=aa hl;clear hl
 go_enter Tryz.func183,Tryz.ntmps183
 go_wp2
 clear ie
 go_loopw [5] (fun i wr=>Below w.heap.size w wr/\∃ k:Nat,k<=a.length/\i=.int .i64 k/\∀ j,j<k->a.getD j default=b.getD j default) (fun i _=>a.length - (intOf i).toNat)
 case atStart=>exact⟨Below.refl _ _,0,by omega,rfl,by simp⟩
 case round=>
  obtain⟨ar,k,hk,rfl,aR⟩:=hrel;have H:=aa aR;clear aR;by_cases aA:k<a.length
  ·have iL:k<b.length:=by have:=HL.out;omega
   obtain⟨b1,o1,rfl,⟨c0,r0⟩,⟨c1,r1⟩,⟨c2,r2⟩,⟨c3,r3⟩,⟨c4,r4⟩,⟨c5,r5⟩,⟨c6,r6⟩⟩:=EA.out k aA;obtain⟨b2,o2,rfl,⟨e0,s0⟩,⟨e1,s1⟩,⟨e2,s2⟩,⟨e3,s3⟩,⟨e4,s4⟩,⟨e5,s5⟩,⟨e6,s6⟩⟩:=EB.out k iL;have c0':∀ y:ExtW wr,y.val.cell? ⟨b1,o1+k * 7,none⟩=_:=fun y=>y.cell (ak ar c0)
   have c1':∀ y:ExtW wr,y.val.cell? ⟨b1,o1+k * 7+1,none⟩=_:=fun y=>y.cell (ak ar c1)
   have c2':∀ y:ExtW wr,y.val.cell? ⟨b1,o1+k * 7+2,none⟩=_:=fun y=>y.cell (ak ar c2)
   have c3':∀ y:ExtW wr,y.val.cell? ⟨b1,o1+k * 7+3,none⟩=_:=fun y=>y.cell (ak ar c3)
   have c4':∀ y:ExtW wr,y.val.cell? ⟨b1,o1+k * 7+4,none⟩=_:=fun y=>y.cell (ak ar c4)
   have c5':∀ y:ExtW wr,y.val.cell? ⟨b1,o1+k * 7+5,none⟩=_:=fun y=>y.cell (ak ar c5)
   have c6':∀ y:ExtW wr,y.val.cell? ⟨b1,o1+k * 7+6,none⟩=_:=fun y=>y.cell (ak ar c6)
   have e0':∀ y:ExtW wr,y.val.cell? ⟨b2,o2+k * 7,none⟩=_:=fun y=>y.cell (ak ar e0)
   have e1':∀ y:ExtW wr,y.val.cell? ⟨b2,o2+k * 7+1,none⟩=_:=fun y=>y.cell (ak ar e1)
   have e2':∀ y:ExtW wr,y.val.cell? ⟨b2,o2+k * 7+2,none⟩=_:=fun y=>y.cell (ak ar e2)
   have e3':∀ y:ExtW wr,y.val.cell? ⟨b2,o2+k * 7+3,none⟩=_:=fun y=>y.cell (ak ar e3)
   have e4':∀ y:ExtW wr,y.val.cell? ⟨b2,o2+k * 7+4,none⟩=_:=fun y=>y.cell (ak ar e4)
   have e5':∀ y:ExtW wr,y.val.cell? ⟨b2,o2+k * 7+5,none⟩=_:=fun y=>y.cell (ak ar e5)
   have e6':∀ y:ExtW wr,y.val.cell? ⟨b2,o2+k * 7+6,none⟩=_:=fun y=>y.cell (ak ar e6)
   have HX:=aa (az default aA);have HY:=aa (az default iL);clear c0 r0 e0 s0 c1 r1 e1 s1 c2 r2 e2 s2 c3 r3 e3 s3 c4 r4 e4 s4 c5 r5 e5 s5 c6 r6 e6 s6;generalize a[k]=x at c0' c1' c2' c3' c4' c5' c6' HX;generalize b[k]=y at e0' e1' e2' e3' e4' e5' e6' HY;have bJ:=fun w=>Of x y w
   go_wp2
   by_cases bY:x=y
   ·have hd:decide (x=y)=true:=by simpa using bY
    have nT:Hid (a.getD k default=b.getD k default):=by(have h:a.getD k default=b.getD k default:=by(rw[HX.out,HY.out,bY]));exact h
    rw[hd]at bJ;clear bY hd;refine aC (by kernel_rfl) (by kernel_rfl) ?_
    repeat (go_big_quiet_step (fail))
    refine wpQuiet_nil ?_;intro _ dY;obtain⟨xq,cX⟩:=dY;subst cX;clear c0' c1' c2' c3' c4' c5' c6' e0' e1' e2' e3' e4' e5' e6' bJ
    go_wp2
    go_roundw
    case rel=>exact⟨ae ar xq.ext,k+1,by omega,by go_num,aS H.out nT.out⟩
    case measure=>simp[intOf];omega
   ·have hd:decide (x=y)=false:=by simpa using bY
    have HR:Hid (res=false):=by(have h:res=false:=by(rw[<-jr.out];simp;intro h;subst h;rw[HX.out]at HY;exact bY HY.out));exact h
    rw[hd]at bJ;clear bY hd;refine aC (by kernel_rfl) (by kernel_rfl) ?_
    repeat (go_big_quiet_step (fail))
    refine wpQuiet_nil ?_;intro _ dY;obtain⟨xq,cX⟩:=dY;subst cX;clear c0' c1' c2' c3' c4' c5' c6' e0' e1' e2' e3' e4' e5' e6' bJ
    go_wp2
    go_ret
    exact⟨aO HR.out.symm,ae ar xq.ext⟩
  ·have HR:Hid (res=true):=by(have h:res=true:=by(rw[<-jr.out];simp;exact eW default HL.out fun j hj=>H.out j (by omega)));exact h
   go_wp2
   go_ret
   exact⟨aO HR.out.symm,ar⟩
theorem Mc(x y:Ex) (wa wb va vb:Value) (w:World) (Tp:j8 w wa x.word) (AF:j8 w wb y.word) (ha:dR w va x.views) (hb:dR w vb y.views) :
  Calls Tryz.prog 150 #[.agg #[.int .i64 x.c,wa,va],.agg #[.int .i64 y.c,wb,vb]] w fun e w'=>e=.returned (.bool (decide (x=y)))/\Below w.heap.size w w':=by
 obtain⟨cx,wx,ax⟩:=x;obtain⟨cy,wy,ay⟩:=y;dsimp only at Tp AF ha hb ⊢;have KT:=aa (fun W (h:Below w.heap.size w W)=>Mb wa wb wx wy W (Tp.up up_round h) (AF.up up_round h));obtain⟨pw,cw,rfl,_,_,_⟩:=Tp.at;obtain⟨qw,dw,rfl,_,_,_⟩:=AF.at;obtain⟨pa,ca,rfl,la1,la2,ea⟩:=ha.at;obtain⟨pb,cb,rfl,lb1,lb2,eb⟩:=hb.at;have EA:=aa ea;have EB:=aa eb;have Ci:Hid (cx≠cy->decide ((⟨cx,wx,ax⟩:Ex)=⟨cy,wy,ay⟩)=false):=aa fun h=>decide_eq_false fun e=>h (congrArg Ex.c e)
 have Ff:Hid (decide (wx=wy)=false->decide ((⟨cx,wx,ax⟩:Ex)=⟨cy,wy,ay⟩)=false):=aa fun h=>decide_eq_false fun e=>(of_decide_eq_false h) (congrArg Ex.word e)
 have gJ:Hid (ax.length≠ay.length->decide ((⟨cx,wx,ax⟩:Ex)=⟨cy,wy,ay⟩)=false):=aa fun h=>decide_eq_false fun e=>h (congrArg (fun z=>(Ex.views z).length) e)
 have og:Hid (∀ j,j<ax.length->ax.getD j []≠ay.getD j []->decide ((⟨cx,wx,ax⟩:Ex)=⟨cy,wy,ay⟩)=false):=aa fun j _ h=>decide_eq_false fun e=>h (congrArg (fun z=>(Ex.views z).getD j []) e)
 have gQ:Hid (cx=cy/\decide (wx=wy)=true/\ax.length=ay.length/\(∀ j,j<ax.length->ax.getD j []=ay.getD j [])->decide ((⟨cx,wx,ax⟩:Ex)=⟨cy,wy,ay⟩)=true):=aa fun ⟨h0,h1,h2,h3⟩=>decide_eq_true (by rw[h0,of_decide_eq_true h1,eW [] h2 h3])
 generalize decide ((⟨cx,wx,ax⟩:Ex)=⟨cy,wy,ay⟩)=r at Ci Ff gJ og gQ ⊢;generalize decide (wx=wy)=bw at KT Ff gQ;generalize wx.length=nw1,wy.length=nw2 at KT ⊢;clear Tp AF ha hb ea eb
 go_enter Tryz.func150,Tryz.ntmps150
 by_cases fg:cx=cy
 case neg=>
  have hd:(cx != cy)=true:=by simpa using fg
  have HR:=aa (Ci.out fg);clear fg
  go_wp2_with fail
  go_ret
  exact⟨aO (by rw[HR.out]),by go_grown⟩
 have uU:=aa fg;have Ty:(cx != cy)=false:=by simp[fg]
 clear fg;obtain⟨n,hn⟩:∃ n,ax.length=n:=⟨_,rfl⟩;obtain⟨m,hm⟩:∃ m,ay.length=m:=⟨_,rfl⟩;have HN:=aa hn;have HM:=aa hm;rw[hn]at la1 la2 ⊢;rw[hm]at lb1 lb2 ⊢;clear hn hm
 go_wp2_with fail
 refine aN (fun W=>Below w.heap.size w W/\W.heap[w.heap.size]?=some (.cells #[.int .i64 cx,.slice pw nw1 cw,.slice pa n ca] 89)/\W.heap[w.heap.size+1]?=some (.cells #[.int .i64 cy,.slice qw nw2 dw,.slice pb m cb] 89)) ⟨by go_grown,ap _ (am _ _),by have h:=am (w.alloc (.cells #[.int .i64 cx,.slice pw nw1 cw,.slice pa n ca] 89)) (.cells #[.int .i64 cy,.slice qw nw2 dw,.slice pb m cb] 89);simpa using h⟩ (fun W00 aV=>?_);obtain⟨aH,bB,mL⟩:=aV;refine(KT.out W00 aH).mono ?_;rintro e W0 ⟨rfl,aI⟩;have fj:=aa (ae aH aI);have kV:=aa (af aI bB);have mX:=aa (af aI mL);have tA:=ab kV.out;have tC:=ab mX.out;clear aH bB mL aI KT;cases bw with
 | false=>
  have HR:Hid (r=false):=aa (by first|exact Ff.out rfl|exact Ff.out trivial)
  go_wp2_with fail
  go_ret
  exact⟨aO (by rw[HR.out]),fj.out⟩
 | true=>
  by_cases hl:n=m
  case neg=>
   have hd:(((n:Nat):Int) != ((m:Nat):Int))=true:=by simp;omega
   have HR:=aa (gJ.out (by rw[HN.out,HM.out];exact hl));clear hl
   go_wp2_with fail
   go_ret
   exact⟨aO (by rw[HR.out]),fj.out⟩
  subst hl;have hd:((n:Int) != (n:Int))=false:=by simp
  go_wp2_with fail
  clear tA tC
  go_loopw [5] (fun i wr=>∃ k:Nat,k<=n/\i=.int .i64 k/\Below W0.heap.size W0 wr/\∀ j,j<k->ax.getD j []=ay.getD j []) (fun i _=>n - (intOf i).toNat)
  case atStart=>exact⟨0,by omega,rfl,Below.refl _ _,fun j hj=>by omega⟩
  case round=>
   obtain⟨k,hk,rfl,ar,aR⟩:=hrel;have H:=aa aR;have aP:=aa ar;have bR:=aa (ae fj.out ar);clear aR ar;have tA:=ab (af aP.out kV.out);have tC:=ab (af aP.out mX.out);by_cases aA:k<n
   ·obtain⟨b1,o1,rfl,v1,g1,h1⟩:=EA.out k (by rw[HN.out];exact aA)
    obtain⟨b2,o2,rfl,v2,g2,h2⟩:=EB.out k (by rw[HM.out];exact aA);have p9:=aa (az ([]:List Int) (show k<ax.length by rw[HN.out];exact aA));have rp:=aa (az ([]:List Int) (show k<ay.length by rw[HM.out];exact aA));generalize ax[k]'(by rw[HN.out];exact aA)=x at h1 p9;generalize ay[k]'(by rw[HM.out];exact aA)=y at h2 rp;have d1:=ak bR.out g1;have d2:=ak bR.out g2;rw[Nat.mul_one]at d1 d2;have yM:=aa (fun W (h:Below w.heap.size w W)=>Ma v1 v2 x y W (h1.up up_int h) (h2.up up_int h));clear h1 h2 g1 g2
    go_wp2_with fail
    go_still_tail 10,(by kernel_rfl)
    go_wp2_with fail
    refine aN (fun W=>Below wr.heap.size wr W) (Below.drew (Below.refl _ _)) (fun W5 hW5=>?_);refine(yM.out W5 (ae bR.out hW5)).mono ?_;rintro e w6 ⟨rfl,gK⟩;have rN:=aa (ae aP.out (ae hW5 gK));clear hW5 gK d1 d2 tA tC yM;cases bY:decide (x=y) with
    | true=>
     have nT:=aa (of_decide_eq_true bY);clear bY
     go_wp2_with fail
     go_roundw
     case rel=>exact⟨k+1,by omega,by go_num,rN.out,aS (p:=fun j=>ax.getD j []=ay.getD j []) H.out (by rw[p9.out,rp.out];exact nT.out)⟩
     case measure=>simp[intOf];omega
    | false=>
     have HR:=aa (og.out k (by rw[HN.out];exact aA) (by rw[p9.out,rp.out];exact of_decide_eq_false bY));clear bY
     go_wp2_with fail
     go_ret
     exact⟨aO (by rw[HR.out]),ae fj.out rN.out⟩
   ·obtain rfl:k=n:=by omega
    have HF:∀ j,j<ax.length->ax.getD j []=ay.getD j []:=fun j hj=>H.out j (by have:=HN.out;omega)
    have HR:Hid (r=true):=aa (gQ.out ⟨uU.out,by first|rfl|trivial,by rw[HN.out,HM.out],HF⟩);clear HF
    go_wp2_with fail
    go_ret
    exact⟨aO (by rw[HR.out]),bR.out⟩
theorem Rf(d:Nat) (a:Mv) (w:World):(Op.equalIn (d+5) 143 a.v a.v).run Tryz.prog w=.ok true w:=by
 have hS:Tryz.prog.underlying 143=some (.struct (Tryz.prog.fieldsOf 143)):=by kernel_rfl
 have hp:Tryz.prog.stoodInHeld 143=false:=by kernel_rfl
 rw[run_equalIn_struct w (d+4) 143 _ _ hS hp];have ag:=Tryz.isAgg3;have ah:=Tryz.isAgg141;have zh:=Tryz.sizeOf141;have u3:=Tryz.underlying3;have hg:=Df d a.r a.r w;simp only[Program.fieldsOf,Tryz.underlying143];simp[Op.eqFields,part,ag,ah,zh,run_equalIn_int w (d+3) 3 _ .i64 _ _ u3,hg]
theorem UI(a:Mv) (w:World):(binOp .neq 143 a.v a.v).run Tryz.prog w=.ok (.bool false) w:=by
 rw[run_neq_struct,Rf 9995];rfl
theorem Rg(n:Int) (l:List (List Mv)) (va vb:Value) (w:World) (ha:bh w va l) (hb:bh w vb l) :
  Calls Tryz.prog 182 #[.agg #[.int .i64 n,va],.agg #[.int .i64 n,vb]] w fun e w'=>e=.returned (.bool true)/\Below w.heap.size w w':=by
 obtain⟨pa,ca,rfl,la1,la2,ea⟩:=ha.at;obtain⟨pb,cb,rfl,lb1,lb2,eb⟩:=hb.at;have EA:=aa ea;have EB:=aa eb;clear ha hb ea eb;obtain⟨m,hm⟩:∃ m,l.length=m:=⟨_,rfl⟩;have HM:=aa hm;rw[hm]at la1 la2 lb1 lb2 ⊢;clear hm;have Ty:(n != n)=false:=by simp
 have hd:((m:Int) != (m:Int))=false:=by simp
 go_enter Tryz.func182,Tryz.ntmps182
 go_wp2_with fail
 refine bm (fun W=>Below w.heap.size w W/\W.heap[w.heap.size]?=some (.cells #[.int .i64 n,.slice pa m ca] 27)/\W.heap[w.heap.size+1]?=some (.cells #[.int .i64 n,.slice pb m cb] 27)) ⟨by go_grown,ap _ (am _ _),by have h:=am (w.alloc (.cells #[.int .i64 n,.slice pa m ca] 27)) (.cells #[.int .i64 n,.slice pb m cb] 27);simpa using h⟩ (fun W0 aV=>?_);obtain⟨aH,bB,mL⟩:=aV;have fj:=aa aH;have kV:=aa bB;have mX:=aa mL;clear aH bB mL
 go_loopw [5] (fun i wr=>∃ k:Nat,k<=m/\i=.int .i64 k/\Below W0.heap.size W0 wr) (fun i _=>m - (intOf i).toNat)
 case atStart=>exact⟨0,by omega,rfl,Below.refl _ _⟩
 case round=>
  obtain⟨k,hk,rfl,ar⟩:=hrel;have aP:=aa ar;have bR:=aa (ae fj.out ar);clear ar;have tA:=ab (af aP.out kV.out);by_cases aA:k<m
  ·obtain⟨b1,o1,rfl,v1,g1,h1⟩:=EA.out k (by rw[HM.out];exact aA)
   obtain⟨b2,o2,rfl,v2,g2,h2⟩:=EB.out k (by rw[HM.out];exact aA);generalize l[k]'(by rw[HM.out];exact aA)=row at h1 h2;obtain⟨p1,q1,rfl,x1,y1,e1⟩:=h1.at;obtain⟨p2,q2,rfl,x2,y2,e2⟩:=h2.at;have E1:=aa e1;have E2:=aa e2;obtain⟨r,hr⟩:∃ r,row.length=r:=⟨_,rfl⟩;have HR:=aa hr;rw[Nat.mul_one]at g1 g2;rw[hr]at x1 y1 x2 y2 g1 g2;clear h1 h2 e1 e2 hr;have G1:=aa g1;have G2:=aa g2;have hdr:((r:Int) != (r:Int))=false:=by simp
   have f1:∀ z:ExtW wr,z.val.cell? ⟨b1,o1+k,none⟩=_:=fun z=>z.cell (ak bR.out g1)
   have f2:∀ z:ExtW wr,z.val.cell? ⟨b2,o2+k,none⟩=_:=fun z=>z.cell (ak bR.out g2)
   have tA2:∀ z:ExtW wr,z.val.cell? ⟨w.heap.size,1,none⟩=some (.slice (some ⟨b1,o1,none⟩) m ca):=fun z=>z.cell (by rw[ab (af aP.out kV.out)];rfl)
   have tC2:∀ z:ExtW wr,z.val.cell? ⟨w.heap.size+1,1,none⟩=some (.slice (some ⟨b2,o2,none⟩) m cb):=fun z=>z.cell (by rw[ab (af aP.out mX.out)];rfl)
   clear g1 g2
   go_wp2_with fail
   refine aC (by kernel_rfl) (by kernel_rfl) ?_
   repeat (go_big_quiet_step (fail))
   refine wpQuiet_nil ?_;rintro _ ⟨xq,rfl⟩;have eC:=aa (ae aP.out xq.ext);generalize xq.val=wq at eC ⊢;clear f1 f2 tA2 tC2 tA
   go_wp2_with fail
   obtain⟨wrA,kG⟩:∃ x,x=wr:=⟨_,rfl⟩;subst kG
   go_loopw [6] (fun i wr=>∃ j:Nat,j<=r/\i=.int .i64 j/\Below W0.heap.size W0 wr) (fun i _=>r - (intOf i).toNat)
   case atStart=>exact⟨0,by omega,rfl,eC.out⟩
   case round=>
    obtain⟨i,hi,rfl,kq⟩:=hrel;have Cu:=aa kq;have eJ:=aa (ae fj.out kq);clear kq;have tA:=ab (af Cu.out kV.out);have t1:=ak eJ.out G1.out;by_cases Pq:i<r
    ·obtain⟨b3,o3,rfl,m1⟩:=E1.out i (by rw[HR.out];exact Pq)
     obtain⟨b4,o4,rfl,m2⟩:=E2.out i (by rw[HR.out];exact Pq);generalize row[i]'(by rw[HR.out];exact Pq)=x at m1 m2;have c0:∀ z:ExtW wr,z.val.cell? ⟨b3,o3+i * 8,none⟩=_:=fun z=>z.cell (ak eJ.out m1.1.1.1)
     have c1:∀ z:ExtW wr,z.val.cell? ⟨b3,o3+i * 8+1,none⟩=_:=fun z=>z.cell (ak eJ.out m1.1.2.1.1)
     have c2:∀ z:ExtW wr,z.val.cell? ⟨b3,o3+i * 8+2,none⟩=_:=fun z=>z.cell (ak eJ.out m1.1.2.2.1.1)
     have c3:∀ z:ExtW wr,z.val.cell? ⟨b3,o3+i * 8+3,none⟩=_:=fun z=>z.cell (ak eJ.out m1.1.2.2.2.1.1)
     have c4:∀ z:ExtW wr,z.val.cell? ⟨b3,o3+i * 8+4,none⟩=_:=fun z=>z.cell (ak eJ.out m1.1.2.2.2.2.1.1)
     have c5:∀ z:ExtW wr,z.val.cell? ⟨b3,o3+i * 8+5,none⟩=_:=fun z=>z.cell (ak eJ.out m1.1.2.2.2.2.2.1.1)
     have c6:∀ z:ExtW wr,z.val.cell? ⟨b3,o3+i * 8+6,none⟩=_:=fun z=>z.cell (ak eJ.out m1.1.2.2.2.2.2.2.1)
     have c7:∀ z:ExtW wr,z.val.cell? ⟨b3,o3+i * 8+7,none⟩=_:=fun z=>z.cell (ak eJ.out m1.2.1)
     have d0:∀ z:ExtW wr,z.val.cell? ⟨b4,o4+i * 8,none⟩=_:=fun z=>z.cell (ak eJ.out m2.1.1.1)
     have d1:∀ z:ExtW wr,z.val.cell? ⟨b4,o4+i * 8+1,none⟩=_:=fun z=>z.cell (ak eJ.out m2.1.2.1.1)
     have d2:∀ z:ExtW wr,z.val.cell? ⟨b4,o4+i * 8+2,none⟩=_:=fun z=>z.cell (ak eJ.out m2.1.2.2.1.1)
     have d3:∀ z:ExtW wr,z.val.cell? ⟨b4,o4+i * 8+3,none⟩=_:=fun z=>z.cell (ak eJ.out m2.1.2.2.2.1.1)
     have d4:∀ z:ExtW wr,z.val.cell? ⟨b4,o4+i * 8+4,none⟩=_:=fun z=>z.cell (ak eJ.out m2.1.2.2.2.2.1.1)
     have d5:∀ z:ExtW wr,z.val.cell? ⟨b4,o4+i * 8+5,none⟩=_:=fun z=>z.cell (ak eJ.out m2.1.2.2.2.2.2.1.1)
     have d6:∀ z:ExtW wr,z.val.cell? ⟨b4,o4+i * 8+6,none⟩=_:=fun z=>z.cell (ak eJ.out m2.1.2.2.2.2.2.2.1)
     have d7:∀ z:ExtW wr,z.val.cell? ⟨b4,o4+i * 8+7,none⟩=_:=fun z=>z.cell (ak eJ.out m2.2.1)
     have f1:∀ z:ExtW wr,z.val.cell? ⟨b1,o1+k,none⟩=_:=fun z=>z.cell (ak eJ.out G1.out)
     have f2:∀ z:ExtW wr,z.val.cell? ⟨b2,o2+k,none⟩=_:=fun z=>z.cell (ak eJ.out G2.out)
     have tA2:∀ z:ExtW wr,z.val.cell? ⟨w.heap.size,1,none⟩=some (.slice (some ⟨b1,o1,none⟩) m ca):=fun z=>z.cell (by rw[ab (af Cu.out kV.out)];rfl)
     have tC2:∀ z:ExtW wr,z.val.cell? ⟨w.heap.size+1,1,none⟩=some (.slice (some ⟨b2,o2,none⟩) m cb):=fun z=>z.cell (by rw[ab (af Cu.out mX.out)];rfl)
     have jK:=fun w=>UI x w
     clear m1 m2
     go_wp2_with fail
     refine aC (by kernel_rfl) (by kernel_rfl) ?_
     repeat (go_big_quiet_step (fail))
     refine wpQuiet_nil ?_;rintro _ ⟨xq,rfl⟩;clear c0 c1 c2 c3 c4 c5 c6 c7 d0 d1 d2 d3 d4 d5 d6 d7 f1 f2 tA2 tC2 jK tA t1
     go_wp2_with fail
     go_roundw
     case rel=>exact⟨i+1,by omega,by go_num,ae Cu.out xq.ext⟩
     case measure=>simp[intOf];omega
    ·obtain rfl:i=r:=by omega
     go_wp2_with fail
     go_roundw
     case rel=>exact⟨k+1,by omega,by go_num,Cu.out⟩
     case measure=>simp[intOf];omega
  ·obtain rfl:k=m:=by omega
   go_wp2_with fail
   go_ret
   exact⟨rfl,bR.out⟩
theorem EH(va vb:Value) (l:List (List Int)) (w:World) (ha:dR w va l) (hb:dR w vb l) :
  Calls Tryz.prog 207 #[va,vb] w fun e w'=>e=.returned (.bool true)/\Below w.heap.size w w':=by
 obtain⟨pa,ca,rfl,la1,la2,ea⟩:=ha.at;obtain⟨pb,cb,rfl,lb1,lb2,eb⟩:=hb.at;have EA:=aa ea;have EB:=aa eb;clear ha hb ea eb;obtain⟨n,hn⟩:∃ n,l.length=n:=⟨_,rfl⟩;have HN:=aa hn;rw[hn]at la1 la2 lb1 lb2 ⊢;clear hn;have hd:((n:Int) != (n:Int))=false:=by simp
 go_enter Tryz.func207,Tryz.ntmps207
 go_wp2_with fail
 go_loopw [5] (fun i wr=>∃ k:Nat,k<=n/\i=.int .i64 k/\Below w.heap.size w wr) (fun i _=>n - (intOf i).toNat)
 case atStart=>exact⟨0,by omega,rfl,Below.refl _ _⟩
 case round=>
  obtain⟨k,hk,rfl,ar⟩:=hrel;have aP:=aa ar;clear ar;by_cases aA:k<n
  ·obtain⟨b1,o1,rfl,v1,g1,h1⟩:=EA.out k (by rw[HN.out];exact aA)
   obtain⟨b2,o2,rfl,v2,g2,h2⟩:=EB.out k (by rw[HN.out];exact aA);generalize l[k]'(by rw[HN.out];exact aA)=x at h1 h2;have d1:=ak aP.out g1;have d2:=ak aP.out g2;rw[Nat.mul_one]at d1 d2;have yM:=aa (fun W (h:Below w.heap.size w W)=>lj v1 v2 x x W (h1.up up_int h) (h2.up up_int h));rw[rQ]at yM;clear h1 h2 g1 g2
   go_wp2_with fail
   go_still_tail 8,(by kernel_rfl)
   go_wp2_with fail
   refine aN (fun W=>Below wr.heap.size wr W) (Below.drew (Below.refl _ _)) (fun W5 hW5=>?_);refine(yM.out W5 (ae aP.out hW5)).mono ?_;rintro e w6 ⟨rfl,gK⟩;have rN:=aa (ae aP.out (ae hW5 gK));clear hW5 gK d1 d2 yM
   go_wp2_with fail
   go_roundw
   case rel=>exact⟨k+1,by omega,by go_num,rN.out⟩
   case measure=>simp[intOf];omega
  ·obtain rfl:k=n:=by omega
   go_wp2_with fail
   go_ret
   exact⟨rfl,aP.out⟩
theorem JU(s:Sys) (hv:verifyE s=0) (vc vs vt ve vl:Value) (l:List Lk) (w:World) (hs:IsSys w s vc vs vt ve) (hN:movesN s.prob.a.states<1099511627776) (hl:bH w vl l) :
  Calls Tryz.prog 95 #[.agg (bT s.prob vc vs s.n vt ve),vl] w fun e w'=>e=.returned (.int .i64 (walkE s l))/\Below w.heap.size w w':=by
 have HS:=aa hs;have HL:=aa hl;obtain⟨⟨pc,cc,rfl⟩,⟨ps,cs,rfl⟩,⟨pt,ct,rfl⟩,⟨pe,ce,rfl⟩⟩:=bE hs;obtain⟨pl,cl,rfl,lt1,lt2,el⟩:=hl.at;have EL:=aa el;clear hs hl el;have HC:=aa (fun W (hb:Below w.heap.size w W)=>DG s _ _ _ _ W (HS.out.up hb) hN);have dB:=aa (jc hv);have HV:=aa hv;have ji:=dB.out.n.2.1;have iz:Hid (l.length=0->walkE s l=16):=aa fun h=>by unfold walkE;rw[if_pos h]
 have gr:Hid (0<l.length->4096<l.length->walkE s l=5):=aa fun h h1=>by unfold walkE;rw[if_neg (by omega),if_pos h1]
 have cH:Hid (0<l.length->l.length<=4096->walkE s l=aZ l.length (gi s l)):=aa fun h h1=>by unfold walkE;rw[if_neg (by omega),if_neg (by omega)]
 have AA:Hid (∀ k,k<l.length->gi s l k=if (l.getD k default).x<0\/(eS s:Int)<=(l.getD k default).x then 6 else if k=0 then(if (l.getD k default).p≠-1 then 3 else 0) else if (l.getD k default).p<0\/(nS s:Int)<=(l.getD k default).p then 2 else if linkB s (l.getD k default).p.toNat (l.getD (k - 1) default).x.toNat (l.getD k default).x.toNat then 0 else 18):=aa fun k _=>rfl
 have HOKX:Hid (∀ k,gi s l k=0->0<=(l.getD k default).x/\(l.getD k default).x.toNat<eS s):=aa fun k h=>⟨((vK s l k).1 h).1,((vK s l k).1 h).2.1⟩
 clear hv
 go_enter Tryz.func95,Tryz.ntmps95
 go_wp2_with fail
 refine aN (fun W=>Below w.heap.size w W) (by go_grown) (fun W0 aH=>?_);refine(HC.out W0 aH).mono ?_;rintro e w1 ⟨v,rfl,aI,_,h2⟩;obtain⟨B,rfl,hF,-⟩:=h2 HV.out;rw[HV.out];have cQ:=ae aH aI;have eD:=aa cQ;have HF:=aa hF;clear aH aI h2 hF cQ HC;by_cases h0:l.length=0
 ·have HR:=aa (iz.out h0)
  have hd:(((l.length:Nat):Int) == 0)=true:=by simp[h0]
  clear h0
  go_wp2_with fail
  go_ret
  exact⟨aD (by rw[HR.out]),eD.out⟩
 have hd:(((l.length:Nat):Int) == 0)=false:=beq_eq_false_iff_ne.2 (by omega);have Sd:0<l.length:=by omega
 clear h0;by_cases h1:4096<l.length
 ·have HR:=aa (gr.out Sd h1)
  go_wp2_with fail
  go_ret
  exact⟨aD (by rw[HR.out]),eD.out⟩
 have cV:=aa (cH.out Sd (by omega))
 go_wp2_with fail
 clear hd h1 Sd iz gr cH
 go_loopw [28] (fun i wr=>∃ k:Nat,k<=l.length/\i=.int .i64 k/\Below w.heap.size w wr/\FinAt wr B s/\∀ j,j<k->gi s l j=0) (fun i _=>l.length - (intOf i).toNat)
 case atStart=>exact⟨0,by omega,rfl,eD.out,HF.out,fun j hj=>by omega⟩
 case round=>
  clear eD HF;obtain⟨k,hk,rfl,ar,hF,hz⟩:=hrel;have aP:=aa ar;have HF:=aa hF;have HZ:=aa hz;clear hF hz;by_cases aA:k<l.length
  ·obtain⟨b1,o1,rfl,h1⟩:=EL.out k aA
   have c1:=ak ar h1.1.1;have c2:=ak ar h1.2.1;have HE:=aa (AA.out k aA);have I9:Hid (∀ v:Int,gi s l k=v->v≠0->walkE s l=v):=aa fun v h1 h2=>by rw[cV.out];exact(bN k v aA HZ.out h1 h2).symm
   have hr:l.getD k default=l[k]:=az default aA;rw[hr]at HE;clear hr;generalize l[k]=y at c1 c2 HE h1;obtain⟨x,p⟩:=y;dsimp only at c1 c2 HE;clear h1 ar
   go_wp2_with fail
   clear c1 c2;refine aN (fun W=>Below w.heap.size w W/\FinAt W B s/\W.heap[wr.heap.size]?=some (.cells #[.int .i64 x,.int .i64 p] 75)) ⟨aP.out.alloc aP.out.size _,HF.out.up (by go_grown),am _ _⟩ (fun W2 eK=>?_);obtain⟨aU,WR,hX2⟩:=eK;refine(BW s B x W2 WR).mono ?_;rintro e w3 ⟨rfl,bC⟩;have eo:=aa (ae aU bC);have IS:=aa (WR.up bC);have jE:=aa (af bC hX2);generalize wr.heap.size=g at jE;have tb:=ab jE.out;clear aU WR hX2 bC;by_cases hx:0<=x/\x<(eS s:Int)
   ·have hd:(decide (0<=x)&&decide (x<(eS s:Int)))=true:=by simp[hx]
    rw[hd];clear hd;by_cases eP:k=0
    ·subst eP
     by_cases hp:p=-1
     ·subst hp
      have ge:Hid (gi s l 0=0):=aa (by rw[HE.out,if_neg (by omega)];simp);clear hx
      go_wp2_with fail
      go_roundw
      case rel=>exact⟨1,by omega,by go_num,eo.out,IS.out,aS HZ.out ge.out⟩
      case measure=>simp[intOf];omega
     ·have PV:(p != -1)=true:=by simpa using hp
      have HR:=aa (I9.out 3 (by rw[HE.out,if_neg (by omega),if_pos rfl,if_pos hp]) (by decide));clear hx hp
      go_wp2_with fail
      go_ret
      exact⟨aD (by rw[HR.out]),eo.out⟩
    ·obtain⟨j,hj⟩:∃ j,k=j+1:=⟨k - 1,by omega⟩
     have fx:j<l.length:=by omega
     have lV:((k:Int) == 0)=false:=by simp;omega
     have hX:=HOKX.out j (HZ.out j (by omega));have mK:Hid (gi s l k=if p<0\/(nS s:Int)<=p then 2 else if linkB s p.toNat (l.getD j default).x.toNat x.toNat then 0 else 18):=aa (by rw[HE.out,if_neg (by omega),if_neg eP,show k - 1=j by omega]);have js:IntKind.i64.wrap ((k:Int) - 1)=(j:Int):=by rw[hj,IntWalk.i64_in _ (by omega)];omega
     obtain⟨b2,o2,e2,h2⟩:=EL.out j fx;cases e2;have d1:=ak eo.out h2.1.1;rw[<-az default fx]at d1;obtain⟨e,he⟩:∃ e:Nat,(l.getD j default).x=e:=⟨(l.getD j default).x.toNat,by omega⟩;rw[he]at d1 mK hX;obtain⟨f,hf⟩:∃ f:Nat,x=f:=⟨x.toNat,by omega⟩;subst hf;simp only[Int.toNat_natCast]at mK hX;have hfe:f<eS s:=by omega
     clear he h2 eP hj HE;by_cases uY:p<0
     ·have hpd:decide (p<0)=true:=decide_eq_true uY
      have HR:=aa (I9.out 2 (by rw[mK.out,if_pos (.inl uY)]) (by decide));clear hx hX d1 js uY;have tb1:∀ z:ExtW w3,∀ o,z.val.cell? ⟨g,o,none⟩=_:=fun z=>ab (af z.ext jE.out)
      go_wp2_with fail
      refine aC (by kernel_rfl) (by kernel_rfl) ?_
      repeat (go_big_quiet_step (fail))
      refine wpQuiet_nil ?_;rintro _ ⟨xq,rfl⟩;clear tb tb1
      go_wp2_with fail
      go_ret
      exact⟨aD (by rw[HR.out]),ae eo.out xq.ext⟩
     have hpd:decide (p<0)=false:=decide_eq_false uY;obtain⟨q,rfl⟩:∃ q:Nat,p=q:=⟨p.toNat,by omega⟩;simp only[Int.toNat_natCast]at mK;obtain⟨pl2,cl2,hB,_⟩:=IS.out.open;have tb1:∀ z:ExtW w3,∀ o,z.val.cell? ⟨g,o,none⟩=_:=fun z=>ab (af z.ext jE.out)
     have tb2:∀ z:ExtW w3,z.val.cell? ⟨B,0,none⟩=some (.int .i64 (nS s)):=fun z=>(ab (af z.ext hB) 0).trans rfl
     clear hB;by_cases hq:nS s<=q
     ·have hqd:decide ((nS s:Int)<=(q:Int))=true:=decide_eq_true (by omega)
      have uP:decide (nS s<=q)=true:=decide_eq_true hq;have HR:=aa (I9.out 2 (by rw[mK.out,if_pos (.inr (by omega))]) (by decide));clear hx hX d1 js uY hq
      go_wp2_with fail
      refine aC (by kernel_rfl) (by kernel_rfl) ?_
      repeat (go_big_quiet_step (fail))
      refine wpQuiet_nil ?_;rintro _ ⟨xq,rfl⟩;clear tb tb1 tb2
      go_wp2_with fail
      go_ret
      exact⟨aD (by rw[HR.out]),ae eo.out xq.ext⟩
     have hqd:decide ((nS s:Int)<=(q:Int))=false:=decide_eq_false (by omega);have uP:decide (nS s<=q)=false:=decide_eq_false hq;have Cn:Hid (gi s l k=if linkB s q e f then 0 else 18):=aa (by rw[mK.out,if_neg (by omega)]);obtain⟨set,k8⟩:∃ set,maskN (fun p=>linkB s p e f) (nS s)=set:=⟨_,rfl⟩;have gw:hasB (set:Int) q=linkB s q e f:=by rw[<-k8,mF,decide_eq_true (by omega),Bool.true_and]
     have lF:=rS (set:Int) q;rw[gw]at lF;clear gw;have hq30:q<=30:=by omega
     clear hx uY hq
     go_wp2_with fail
     refine aC (by kernel_rfl) (by kernel_rfl) ?_
     repeat (go_big_quiet_step (fail))
     refine wpQuiet_nil ?_;rintro _ ⟨xq,rfl⟩;have eC:=aa (ae eo.out xq.ext);have E':=aa (IS.out.up xq.ext);have HXQ:=aa (af xq.ext jE.out);have d2:∀ z:ExtW xq.val,z.val.cell? ⟨b1,o1+j * 2,none⟩=_:=fun z=>ak (ae xq.ext z.ext) d1
     have tq1:∀ z:ExtW xq.val,∀ o,z.val.cell? ⟨g,o,none⟩=_:=fun z=>ab (af z.ext HXQ.out)
     have bO:=aa (show ∀ y:ExtW xq.val,Calls Tryz.prog 146 #[.pointer (some ⟨B,0,none⟩),.int .i64 (e:Int),.int .i64 (f:Int)] y.val fun r w''=>r=.returned (.int .i64 (set:Nat))/\∃ z:ExtW xq.val,w''=z.val from fun y=>Calls.ext_of ((zS s dB.out B e f hX.2 hfe y.val (E'.out.up y.ext)).mono fun r w'' ⟨h1,h2⟩=>⟨by rw[h1,k8],h2 ▸ Below.refl _ _⟩));clear tb tb1 tb2 d1 k8;cases hb:linkB s q e f with
     | true=>
      have ge:Hid (gi s l k=0):=aa (by rw[Cn.out,hb];rfl);rw[hb]at lF;clear hb
      go_wp2_with fail
      refine aC (by kernel_rfl) (by kernel_rfl) ?_
      repeat (go_big_quiet_step ((go_at_call 146;with_reducible exact bO.out _)))
      refine wpQuiet_nil ?_;rintro _ ⟨x2,rfl⟩;clear d2 tq1 lF js
      go_wp2_with fail
      go_roundw
      case rel=>exact⟨k+1,by omega,by go_num,ae eC.out x2.ext,E'.out.up x2.ext,aS HZ.out ge.out⟩
      case measure=>simp[intOf];omega
     | false=>
      have HR:=aa (I9.out 18 (by rw[Cn.out,hb];rfl) (by decide));rw[hb]at lF;clear hb
      go_wp2_with fail
      refine aC (by kernel_rfl) (by kernel_rfl) ?_
      repeat (go_big_quiet_step ((go_at_call 146;with_reducible exact bO.out _)))
      refine wpQuiet_nil ?_;rintro _ ⟨x2,rfl⟩;clear d2 tq1 lF js
      go_wp2_with fail
      go_ret
      exact⟨aD (by rw[HR.out]),ae eC.out x2.ext⟩
   ·have hd:(decide (0<=x)&&decide (x<(eS s:Int)))=false:=by
     rw[Bool.and_eq_false_iff];simp only[decide_eq_false_iff_not];omega
    rw[hd];have HR:=aa (I9.out 6 (by rw[HE.out,if_pos (by omega)]) (by decide));clear hx hd
    go_wp2_with fail
    go_ret
    exact⟨aD (by rw[HR.out]),eo.out⟩
  ·have HR:Hid (walkE s l=0):=aa (by rw[cV.out];exact cJ _ _ fun j hj=>HZ.out j (by omega))
   go_wp2_with fail
   go_ret
   exact⟨aD (by rw[HR.out]),ar⟩
theorem JV(l:List Lk) (h0:∀ y∈l,0<=y.x) (bx:Nat) (vl:Value) (w0:World) (hl:bH w0 vl l) (w:World) (aH:Below w0.heap.size w0 w) (hx:w.cell? ⟨bx,0,none⟩=some vl) :
  rR Tryz.prog 98 #[.pointer (some ⟨bx,0,none⟩)] (vV (cC l)) l.length (fun k=>k<w0.heap.size\/k=bx) w:=by
 intro yl J Jx W hW hJ nM hY nZ;have kE:=eX hx;have mA:=aH.size;obtain⟨pl,cl,rfl,lt1,lt2,el⟩:=hl.at;have eP:gk (fun k=>k<w0.heap.size\/k=bx) w W:=fun k hk=>hW.block k (by rcases hk with hk|rfl<;>first|omega|assumption)
 have tx:=(eP.cell (.inr rfl)).trans hx;have sS:=aa eP;have HSZ:=aa hW.size
 have Bc:Hid (∀ k (hk:k<l.length),vV (cC l) k=#[.int .i64 (l[k]).x]):=aa (fun k hk=>by
  unfold vV cC;have h1:=h0 l[k] (List.getElem_mem hk);rw[az 0 (by simpa using hk),List.getElem_map];congr 2;congr 1
  omega)
 have EL:Hid (∀ (V:World),gk (fun k=>k<w0.heap.size\/k=bx) w V->∀ i (hi:i<l.length),∃ b o,pl=some ⟨b,o,none⟩/\V.cell? ⟨b,o+i * 2,none⟩=some (.int .i64 (l[i]).x)/\V.cell? ⟨b,o+i * 2+1,none⟩=some (.int .i64 (l[i]).p)):=aa (fun V hV i hi=>by
  obtain⟨b,o,e1,c1,c2⟩:=el i hi;have aA:b<w0.heap.size:=eX c1.1
  have sK:∀ o',V.cell? ⟨b,o',none⟩=w0.cell? ⟨b,o',none⟩:=fun o'=>by
   rw[hV.cell (.inl aA)];unfold World.cell?;rw[aH.block b aA]
  exact⟨b,o,e1,(sK _).trans c1.1,(sK _).trans c2.1⟩)
 have HJ:=aa hJ;have Jb:=aa nM;have HY:=aa hY;have H0:=aa nZ;clear hx aH eP hJ nM hY nZ hl el hW h0;refine(callsIn_wide (n:=0)).1 ?_;refine callsIn_of_wp Tryz.func98 rfl trivial ?_ rfl;simp only[Tryz.ntmps98,List.size_toArray,List.length_cons,List.length_nil,Nat.reduceAdd,Nat.reduceSub,Array.replicate_succ,Array.replicate_zero,List.push_toArray,List.append_toArray,List.nil_append,List.cons_append]
 gi_wp2
 clear tx
 gi_loopw [7] (fun i wr=>∃ k:Nat,k<=l.length/\i=.int .i64 k/\w.heap.size<=wr.heap.size/\gk (fun k=>k<w0.heap.size\/k=bx) w wr/\J k wr) (fun i _=>l.length - (intOf i).toNat)
 case atStart=>exact⟨0,by omega,rfl,HSZ.out,sS.out,H0.out⟩
 case round=>
  obtain⟨k,hk,rfl,eT,fL,hj⟩:=hrel;have jM:=aa fL;have iT:=aa hj;clear hj;by_cases aA:k<l.length
  ·obtain⟨b1,o1,rfl,c1,c2⟩:=EL.out wr fL k aA
   have HE:=aa (Bc.out k aA);generalize l[k]=y at c1 c2 HE;obtain⟨x,p⟩:=y;dsimp only at c1 c2 HE;have hja:=HJ.out k wr (wr.alloc (.cells #[.int .i64 x,.int .i64 p] 75)) iT.out (by go_grown);have HKA:Hid (gk (fun k=>k<w0.heap.size\/k=bx) wr (wr.alloc (.cells #[.int .i64 x,.int .i64 p] 75))):=aa fun q hq=>Below.heap_alloc wr _ q (by rcases hq with hq|rfl<;>omega)
   obtain⟨fn,tmps,assign,body,oy,hR⟩:=HY.out k _ aA hja;rw[HE.out]at oy;have HR:=aa hR;clear hR hja fL
   gi_wp2
   refine⟨rfl,HR.out.mono ?_⟩;rintro e W3 (⟨rfl,C6,CE,hZ⟩|⟨rfl,rA⟩)
   ·have Pm:w.heap.size<=W3.heap.size:=by simp at CE;omega
    gi_wp2
    go_roundw
    case rel=>exact⟨k+1,by omega,by go_num,Pm,gk.trans (gk.trans jM.out HKA.out) hZ,C6⟩
    case measure=>simp[intOf];omega
   ·gi_wp2
    refine bodyPost_ret (results_none rfl _ _ _) rfl ?_;exact⟨⟨_,rfl⟩,.inr ⟨_,by omega,rA⟩⟩
  ·obtain rfl:k=l.length:=by omega
   clear fL
   gi_wp2
   go_end0
   exact⟨⟨_,rfl⟩,.inl iT.out⟩
theorem EJ{s:Sys} (hs:SysOk s) {l:List Lk} (hx:∀ y∈l,y.x.toNat<eS s):eZ s l=decide (comM s (cC l)=0):=by
 unfold eZ;rw[decide_eq_decide];exact NI hs fun e he=>by obtain⟨y,hy,rfl⟩:=List.mem_map.1 he;exact hx y hy
theorem qr(s:Sys) (hs:SysOk s) (B:Nat) (vl:Value) (l:List Lk) (hx:∀ y∈l,0<=y.x/\y.x.toNat<eS s) (w:World) (fK:ScAt w B s) (hl:bH w vl l) :
  Calls Tryz.prog 56 #[.pointer (some ⟨B,0,none⟩),vl] w fun r w'=>r=.returned (.bool (iN s l))/\Below w.heap.size w w':=by
 have kh:=aa fK;have HL:=aa hl;obtain⟨pl,cl,rfl,lt1,lt2,el⟩:=hl.at;have Ao:Hid ((cC l).length=l.length):=aa (by simp[cC])
 have kT:=aa (fun W (hb:Below w.heap.size w W) (hX:W.heap[w.heap.size]?=some (.cells #[.slice pl l.length cl] 54))=>B4 s B 98 #[.pointer (some ⟨w.heap.size,0,none⟩)] (enters_of Tryz.func98 (by kernel_rfl) rfl) (cC l) (fun e he=>by obtain⟨y,hy,rfl⟩:=List.mem_map.1 he;exact(hx y hy).2) (fun k=>k<w.heap.size\/k=w.heap.size) W (kh.out.up hb) (fun k hk=>by have:=aB hX;rcases hk with hk|rfl<;>omega) (fun V hV=>by
  rw[Ao.out]
  exact JV l (fun y hy=>(hx y hy).1) w.heap.size _ w HL.out V (ae hb hV) (by rw[ab (af hV hX)];rfl)))
 have gQ:=aa (EJ hs (fun y hy=>(hx y hy).2));have HG:Hid (iN s l=(decide (0<l.length)&&eZ s l)):=aa rfl;rw[gQ.out]at HG;generalize comM s (cC l)=c at HG kT;clear hl el hx fK gQ;by_cases h0:0<l.length
 ·have hd:decide ((0:Int)<(l.length:Int))=true:=decide_eq_true (by omega)
  have fY:decide (0<l.length)=true:=decide_eq_true h0;rw[fY,Bool.true_and]at HG
  go_enter Tryz.func56,Tryz.ntmps56
  go_wp2_with fail
  refine aN (fun W=>Below w.heap.size w W/\W.heap[w.heap.size]?=some (.cells #[.slice pl l.length cl] 54)) ⟨by go_grown,am _ _⟩ (fun W0 aV=>?_);obtain⟨aH,uJ⟩:=aV;refine(kT.out W0 aH uJ).mono ?_;rintro e w1 ⟨rfl,aI⟩;have nO:=aa (ae aH aI);clear aH aI uJ kT
  go_wp2_with fail
  go_ret
  refine⟨aO ?_,nO.out⟩;rw[HG.out,Bool.eq_iff_iff];simp
 ·have hd:decide ((0:Int)<(l.length:Int))=false:=decide_eq_false (by omega)
  have fY:decide (0<l.length)=false:=decide_eq_false h0;rw[fY,Bool.false_and]at HG
  go_enter Tryz.func56,Tryz.ntmps56
  go_wp2_with fail
  go_ret
  exact⟨aO (by rw[HG.out]),by go_grown⟩
theorem DH{s:Sys} {l:List Lk} (h:walkE s l=0):∀ y∈l,0<=y.x/\y.x.toNat<eS s:=fun y hy=>by
 obtain⟨i,hi,rfl⟩:=List.getElem_of_mem hy;have h1:=((qN s l).1 h).2.2 i hi;have h2:=(vK s l i).1 h1;rw[az default hi]at h2;exact⟨h2.1,h2.2.1⟩
theorem rh{s:Sys} (h:readyE s=0):verifyE s=0:=by
 unfold readyE at h;split at h
 ·rename_i h1;exact absurd h h1
 ·omega
def XC(s:Sys) (e:Int) (r:Ending) (w:World):Prop:=∃ v,r=.returned (.tuple #[v,.int .i64 e])/\(e=0->∃ B,v=.pointer (some ⟨B,0,none⟩)/\ScAt w B s)/\(e≠0->v=.pointer none)
theorem xO(s:Sys) (hE:eS s<=256) (vc vs vt ve vw:Value) (c:Ct) (pv:Option Addr) (cv:Nat) (pl:Option Addr) (cl:Nat) (pp:Option Addr) (cp:Nat) (w:World) (hs:IsSys w s vc vs vt ve) (hN:movesN s.prob.a.states<1099511627776) (hw:bH w vw c.walk) :
  Calls Tryz.prog 54 #[.agg (bT s.prob vc vs s.n vt ve),.agg #[.int .i64 c.kind,vw,.slice pv c.nv cv,.slice pl c.nl cl,.slice pp c.np cp]] w fun r w'=>XC s (certE s c) r w'/\Below w.heap.size w w':=by
 have HS:=aa hs;obtain⟨⟨pc,cc,rfl⟩,⟨ps,cs,rfl⟩,⟨pt,ct,rfl⟩,⟨pe,ce,rfl⟩⟩:=bE hs;obtain⟨pw,cw,rfl,lw1,lw2,_⟩:=hw.at;have HWK:=aa hw;clear hs hw;have HC:=aa (fun W (hb:Below w.heap.size w W)=>nr s hE _ _ _ _ W (HS.out.up hb) hN);have Px:=aa (fun (hv:verifyE s=0) W (hb:Below w.heap.size w W)=>JU s hv _ _ _ _ _ c.walk W (HS.out.up hb) hN (HWK.out.up up_link hb));have cZ:Hid (readyE s≠0->certE s c=readyE s):=aa fun h=>by unfold certE;rw[if_pos h]
 have dN:Hid (readyE s=0->c.kind≠1->certE s c=1):=aa fun h h1=>by unfold certE;rw[if_neg (by omega)];unfold y9;rw[if_pos h1]
 have fm:Hid (readyE s=0->c.kind=1->(0<c.nv\/0<c.nl\/0<c.np)->certE s c=3):=aa fun h h1 h2=>by unfold certE;rw[if_neg (by omega)];unfold y9;rw[if_neg (by omega),if_pos h2]
 have sL:Hid (readyE s=0->c.kind=1->¬ (0<c.nv\/0<c.nl\/0<c.np)->walkE s c.walk≠0->certE s c=walkE s c.walk):=aa fun h h1 h2 h3=>by unfold certE;rw[if_neg (by omega)];unfold y9;rw[if_neg (by omega),if_neg h2,if_pos h3]
 have wK:Hid (readyE s=0->c.kind=1->¬ (0<c.nv\/0<c.nl\/0<c.np)->walkE s c.walk=0->certE s c=if iN s c.walk then 0 else 18):=aa fun h h1 h2 h3=>by
  have h4:=((qN s c.walk).1 h3).1;unfold certE;rw[if_neg (by omega)];unfold y9;rw[if_neg (by omega),if_neg h2,if_neg (by omega)];unfold iN;rw[decide_eq_true h4,Bool.true_and]
 have S8:=aa (fun (hs:SysOk s) (h:walkE s c.walk=0) B W (fK:ScAt W B s) (hl:bH W (.slice pw c.walk.length cw) c.walk)=>qr s hs B _ c.walk (DH h) W fK hl);have sU:Hid (readyE s=0->verifyE s=0):=aa rh;generalize certE s c=ce0 at cZ dN fm sL wK ⊢;obtain⟨re,pS⟩:∃ re,readyE s=re:=⟨_,rfl⟩;rw[pS]at cZ dN fm sL wK HC sU;obtain⟨kd,wk,nv,nl,np⟩:=c;dsimp only at *;clear pS
 go_enter Tryz.func54,Tryz.ntmps54
 go_wp2_with fail
 refine aN (fun W=>Below w.heap.size w W/\(∃ q,W.heap[w.heap.size]?=some (.cells q 35)/\q=bT s.prob (.slice pc s.prob.t.cases.length cc) (.slice ps s.prob.a.states.length cs) s.n (.slice pt s.tab.length ct) (.slice pe s.ex.length ce))/\W.heap[w.heap.size+1]?=some (.cells #[.int .i64 kd,.slice pw wk.length cw,.slice pv nv cv,.slice pl nl cl,.slice pp np cp] 58)) ⟨by go_grown,⟨_,ap _ (am _ _),rfl⟩,bd _ _ _⟩ (fun W0 aV=>?_);obtain⟨aH,⟨_,bB,rfl⟩,gR⟩:=aV;refine(HC.out W0 aH).mono ?_;rintro e w1 ⟨v,rfl,aI,h2,h3⟩;have bF:=aa (ae aH aI);have gp:=aa (af aI gR);have du:=aa (af aI bB);by_cases hr:re=0
 case neg=>
  have HV:=aa (cZ.out hr);obtain rfl:=h2 hr;have E7:(re != 0)=true:=by simpa using hr
  have WO:=aa hr;clear aH aI h2 h3 hr HC gR bB
  go_wp2_with fail
  go_ret2
  exact⟨⟨_,by rw[HV.out];rfl,fun h=>absurd (HV.out.symm.trans h) WO.out,fun _=>rfl⟩,bF.out⟩
 obtain⟨B,rfl,hB,fK⟩:=h3 hr;have kh:=aa fK;have CR:=aa (sU.out hr);have dB:=aa (jc CR.out);subst hr;have to:=ab gp.out;clear aH aI h2 h3 HC fK gR bB;by_cases hk:kd=1
 case neg=>
  have HV:=aa (dN.out rfl hk);have qz:(kd != 1)=true:=by simpa using hk
  clear hk
  go_wp2_with fail
  go_ret2
  exact⟨⟨_,by rw[HV.out];rfl,fun h=>by have:=HV.out;omega,fun _=>rfl⟩,bF.out⟩
 have qz:(kd != 1)=false:=by simp[hk]
 have K5:=aa hk;by_cases h1:0<nv
 ·have HV:=aa (fm.out rfl hk (.inl h1))
  have hd:decide ((0:Int)<(nv:Int))=true:=decide_eq_true (by omega);have fY:decide (0<nv)=true:=decide_eq_true h1;clear hk h1
  go_wp2_with fail
  go_ret2
  exact⟨⟨_,by rw[HV.out];rfl,fun h=>by have:=HV.out;omega,fun _=>rfl⟩,bF.out⟩
 have e1:decide ((0:Int)<(nv:Int))=false:=decide_eq_false (by omega);have e1':decide (0<nv)=false:=decide_eq_false h1;by_cases h2:0<nl
 ·have HV:=aa (fm.out rfl hk (.inr (.inl h2)))
  have hd:decide ((0:Int)<(nl:Int))=true:=decide_eq_true (by omega);have fY:decide (0<nl)=true:=decide_eq_true h2;clear hk h1 h2
  go_wp2_with fail
  go_ret2
  exact⟨⟨_,by rw[HV.out];rfl,fun h=>by have:=HV.out;omega,fun _=>rfl⟩,bF.out⟩
 have e2:decide ((0:Int)<(nl:Int))=false:=decide_eq_false (by omega);have e2':decide (0<nl)=false:=decide_eq_false h2;by_cases h3:0<np
 ·have HV:=aa (fm.out rfl hk (.inr (.inr h3)))
  have hd:decide ((0:Int)<(np:Int))=true:=decide_eq_true (by omega);have fY:decide (0<np)=true:=decide_eq_true h3;clear hk h1 h2 h3
  go_wp2_with fail
  go_ret2
  exact⟨⟨_,by rw[HV.out];rfl,fun h=>by have:=HV.out;omega,fun _=>rfl⟩,bF.out⟩
 have e3:decide ((0:Int)<(np:Int))=false:=decide_eq_false (by omega);have e3':decide (0<np)=false:=decide_eq_false h3;have fy:Hid (¬ (0<nv\/0<nl\/0<np)):=aa (by omega);have tA:=ab du.out;clear hk h1 h2 h3
 go_wp2_with fail
 clear tA to;refine(Px.out CR.out w1 bF.out).mono ?_;rintro e w2 ⟨rfl,aU⟩;have cL:=aa (ae bF.out aU);have Ig:=aa (kh.out.up aU);have to:=ab (af aU gp.out);clear aU;by_cases hz:walkE s wk=0
 case neg=>
  have HV:=aa (sL.out (by first|trivial|rfl) K5.out fy.out hz);generalize walkE s wk=we at hz HV;have KC:(we != 0)=true:=by simpa using hz
  have HNZ:=aa hz;clear hz
  go_wp2_with fail
  go_ret2
  exact⟨⟨_,by rw[HV.out];rfl,fun h=>absurd (HV.out.symm.trans h) HNZ.out,fun _=>rfl⟩,cL.out⟩
 have HV:=aa (wK.out (by first|trivial|rfl) K5.out fy.out hz);have uU:=aa (S8.out dB.out hz B);rw[hz];clear hz
 go_wp2_with fail
 clear to;refine(uU.out w2 Ig.out (HWK.out.up up_link cL.out)).mono ?_;rintro e w3 ⟨rfl,bC⟩;have eo:=aa (ae cL.out bC);have St:=aa (Ig.out.up bC);clear bC;cases hg:iN s wk with
 | true=>
  have cV:Hid (ce0=0):=aa (by rw[HV.out,hg];rfl);clear hg
  go_wp2_with fail
  go_ret2
  exact⟨⟨_,by rw[cV.out];rfl,fun _=>⟨B,rfl,St.out⟩,fun h=>absurd cV.out h⟩,eo.out⟩
 | false=>
  have cV:Hid (ce0=18):=aa (by rw[HV.out,hg];rfl);clear hg
  go_wp2_with fail
  go_ret2
  exact⟨⟨_,by rw[cV.out];rfl,fun h=>by have:=cV.out;omega,fun _=>rfl⟩,eo.out⟩
theorem JW(s:Sys) (hE:eS s<=256) (vc vs vt ve vw:Value) (c:Ct) (pv:Option Addr) (cv:Nat) (pl:Option Addr) (cl:Nat) (pp:Option Addr) (cp:Nat) (w:World) (hs:IsSys w s vc vs vt ve) (hN:movesN s.prob.a.states<1099511627776) (hw:bH w vw c.walk) :
  Calls Tryz.prog 24 #[.agg (bT s.prob vc vs s.n vt ve),.agg #[.int .i64 c.kind,vw,.slice pv c.nv cv,.slice pl c.nl cl,.slice pp c.np cp]] w fun r w'=>r=.returned (.int .i64 (certE s c))/\Below w.heap.size w w':=by
 have HS:=aa hs;obtain⟨⟨pc,cc,rfl⟩,⟨ps,cs,rfl⟩,⟨pt,ct,rfl⟩,⟨pe,ce,rfl⟩⟩:=bE hs;obtain⟨pw,cw,rfl,lw1,lw2,_⟩:=hw.at;have HC:=aa (fun W (hb:Below w.heap.size w W)=>xO s hE _ _ _ _ _ c pv cv pl cl pp cp W (HS.out.up hb) hN (hw.up up_link hb));clear hs hw
 go_enter Tryz.func24,Tryz.ntmps24
 go_wp2_with fail
 refine aN (fun W=>Below w.heap.size w W) (by go_grown) (fun W0 aH=>?_);refine(HC.out W0 aH).mono ?_;rintro e w1 ⟨⟨v,rfl,_,_⟩,aI⟩;have HB:=aa (ae aH aI);clear aH aI HC
 go_wp2_with fail
 go_ret
 exact⟨rfl,HB.out⟩
structure TwoBox (w:World) (n:Nat) (VS:List Value) (CA CZ CB:Array Value) (t:TypeId) (D:Nat->Bool) (x:Nat->Value) (W:World):Prop where
 below:Below w.heap.size w W
 val:∀ i,i<n->D i=true->x i=VS.getD i undef
 a:D n=true->∃ g,x n=.pointer (some ⟨g,0,none⟩)/\w.heap.size<=g/\W.heap[g]?=some (.cells (if D (n+2) then CA else CZ) t)
 b:D (n+1)=true->∃ g,x (n+1)=.pointer (some ⟨g,0,none⟩)/\w.heap.size<=g/\W.heap[g]?=some (.cells (if D (n+3) then CB else CZ) t)
 ne:D n=true->D (n+1)=true->x n≠x (n+1)
 oa:D (n+2)=true->D n=true
 ob:D (n+3)=true->D (n+1)=true
section
variable {w W : World} {n : Nat} {VS : List Value} {CA CZ CB : Array Value} {t : TypeId} {D : Nat → Bool} {x : Nat → Value}
theorem TwoBox.start(hb:Below w.heap.size w W):TwoBox w n VS CA CZ CB t (fun _=>false) x W:=by
 refine⟨hb,?_,?_,?_,?_,?_,?_⟩<;>intros<;>contradiction
theorem TwoBox.set(h:TwoBox w n VS CA CZ CB t D x W) (i:Nat) (hi:i<n) {v:Value} (_:D i=false) (hv:v=VS.getD i undef):TwoBox w n VS CA CZ CB t (bA D i) (bZ x i v) W:=by
 have k:∀ j,n<=j->bA D i j=D j:=fun j hj=>by simp[bA,show j≠i by omega]
 have l:∀ j,n<=j->bZ x i v j=x j:=fun j hj=>fJ _ _ (by omega)
 refine⟨h.below,fun j hj hd=>?_,?_,?_,?_,?_,?_⟩
 ·by_cases e:j=i
  ·subst e;rw[fh,hv]
  ·rw[fJ _ _ e];exact h.val j hj (by simpa[bA,e] using hd)
 ·rw[k n (by omega),k (n+2) (by omega),l n (by omega)];exact h.a
 ·rw[k (n+1) (by omega),k (n+3) (by omega),l (n+1) (by omega)];exact h.b
 ·rw[k n (by omega),k (n+1) (by omega),l n (by omega),l (n+1) (by omega)];exact h.ne
 ·rw[k n (by omega),k (n+2) (by omega)];exact h.oa
 ·rw[k (n+1) (by omega),k (n+3) (by omega)];exact h.ob
theorem TwoBox.alloc_a(h:TwoBox w n VS CA CZ CB t D x W) (hD:D n=false):TwoBox w n VS CA CZ CB t (bA D n) (bZ x n (.pointer (some ⟨W.heap.size,0,none⟩))) (W.alloc (.cells CZ t)):=by
 have hz:=h.below.size;have h2:D (n+2)=false:=by cases e:D (n+2) with|false=>rfl|true=>rw[h.oa e]at hD;cases hD
 have k:∀ j,j≠n->bA D n j=D j:=fun j hj=>by simp[bA,hj]
 have l:∀ j,j≠n->bZ x n (.pointer (some ⟨W.heap.size,0,none⟩)) j=x j:=fun j hj=>fJ _ _ hj
 refine⟨h.below.alloc hz _,fun j hj hd=>?_,fun _=>⟨W.heap.size,fh _ _ _,hz,?_⟩,?_,fun _ hd=>?_,?_,?_⟩
 ·rw[l j (by omega)];exact h.val j hj (by rwa [k j (by omega)]at hd)
 ·rw[k (n+2) (by omega),h2];exact am _ _
 ·rw[k (n+1) (by omega),k (n+3) (by omega),l (n+1) (by omega)]
  intro hd;obtain⟨g,g1,g2,g3⟩:=h.b hd;exact⟨g,g1,g2,ap _ g3⟩
 ·rw[k (n+1) (by omega)]at hd
  obtain⟨g,g1,g2,g3⟩:=h.b hd;rw[fh,l (n+1) (by omega),g1];have:=aB g3;intro e;injection e with e;injection e with e;injection e with e;omega
 ·rw[k (n+2) (by omega),h2];intro e;cases e
 ·rw[k (n+1) (by omega),k (n+3) (by omega)];exact h.ob
theorem TwoBox.alloc_b(h:TwoBox w n VS CA CZ CB t D x W) (hD:D (n+1)=false):TwoBox w n VS CA CZ CB t (bA D (n+1)) (bZ x (n+1) (.pointer (some ⟨W.heap.size,0,none⟩))) (W.alloc (.cells CZ t)):=by
 have hz:=h.below.size;have h2:D (n+3)=false:=by cases e:D (n+3) with|false=>rfl|true=>rw[h.ob e]at hD;cases hD
 have k:∀ j,j≠n+1->bA D (n+1) j=D j:=fun j hj=>by simp[bA,hj]
 have l:∀ j,j≠n+1->bZ x (n+1) (.pointer (some ⟨W.heap.size,0,none⟩)) j=x j:=fun j hj=>fJ _ _ hj
 refine⟨h.below.alloc hz _,fun j hj hd=>?_,?_,fun _=>⟨W.heap.size,fh _ _ _,hz,?_⟩,fun hd _=>?_,?_,?_⟩
 ·rw[l j (by omega)];exact h.val j hj (by rwa [k j (by omega)]at hd)
 ·rw[k n (by omega),k (n+2) (by omega),l n (by omega)]
  intro hd;obtain⟨g,g1,g2,g3⟩:=h.a hd;exact⟨g,g1,g2,ap _ g3⟩
 ·rw[k (n+3) (by omega),h2];exact am _ _
 ·rw[k n (by omega)]at hd
  obtain⟨g,g1,g2,g3⟩:=h.a hd;rw[fh,l n (by omega),g1];have:=aB g3;intro e;injection e with e;injection e with e;injection e with e;omega
 ·rw[k n (by omega),k (n+2) (by omega)];exact h.oa
 ·rw[k (n+3) (by omega),h2];intro e;cases e
theorem TwoBox.store_a(h:TwoBox w n VS CA CZ CB t D x W) (ha:D n=true) (_:D (n+2)=false) {g:Nat} (hg:x n=.pointer (some ⟨g,0,none⟩)):TwoBox w n VS CA CZ CB t (bA D (n+2)) x (W.setRow g CA):=by
 have k:∀ j,j≠n+2->bA D (n+2) j=D j:=fun j hj=>by simp[bA,hj]
 obtain⟨g',g1,g2,g3⟩:=h.a ha;obtain rfl:g'=g:=by rw[hg]at g1;injection g1 with e;injection e with e;injection e with e;exact e.symm
 refine⟨se g2 h.below,fun j hj hd=>h.val j hj (by rwa [k j (by omega)]at hd),fun _=>⟨g',g1,g2,?_⟩,?_,?_,?_,?_⟩
 ·rw[show bA D (n+2) (n+2)=true by simp[bA]];exact qQ _ _ _ _ _ g3
 ·rw[k (n+1) (by omega),k (n+3) (by omega)]
  intro hd;obtain⟨g4,q1,q2,q3⟩:=h.b hd;have bJ:g4≠g':=fun e=>h.ne ha hd (by rw[g1,q1,e])
  exact⟨g4,q1,q2,by rw[setRow_other _ _ _ _ bJ];exact q3⟩
 ·rw[k n (by omega),k (n+1) (by omega)];exact h.ne
 ·rw[k n (by omega)];exact fun _=>ha
 ·rw[k (n+1) (by omega),k (n+3) (by omega)];exact h.ob
theorem TwoBox.store_b(h:TwoBox w n VS CA CZ CB t D x W) (hb:D (n+1)=true) (_:D (n+3)=false) {g:Nat} (hg:x (n+1)=.pointer (some ⟨g,0,none⟩)):TwoBox w n VS CA CZ CB t (bA D (n+3)) x (W.setRow g CB):=by
 have k:∀ j,j≠n+3->bA D (n+3) j=D j:=fun j hj=>by simp[bA,hj]
 obtain⟨g',g1,g2,g3⟩:=h.b hb;obtain rfl:g'=g:=by rw[hg]at g1;injection g1 with e;injection e with e;injection e with e;exact e.symm
 refine⟨se g2 h.below,fun j hj hd=>h.val j hj (by rwa [k j (by omega)]at hd),?_,fun _=>⟨g',g1,g2,?_⟩,?_,?_,?_⟩
 ·rw[k n (by omega),k (n+2) (by omega)]
  intro hd;obtain⟨g4,q1,q2,q3⟩:=h.a hd;have bJ:g4≠g':=fun e=>h.ne hd hb (by rw[g1,q1,e])
  exact⟨g4,q1,q2,by rw[setRow_other _ _ _ _ bJ];exact q3⟩
 ·rw[show bA D (n+3) (n+3)=true by simp[bA]];exact qQ _ _ _ _ _ g3
 ·rw[k n (by omega),k (n+1) (by omega)];exact h.ne
 ·rw[k n (by omega),k (n+2) (by omega)];exact h.oa
 ·rw[k (n+1) (by omega)];exact fun _=>hb
end
theorem UJ{a b:Nat} (ha:a<1024) (hb:b<1024) (p:Nat):bits .or .i64 (a:Int) (b:Int)=((a ||| b:Nat):Int)/\hasB ((a ||| b:Nat):Int) p=(hasB (a:Int) p || hasB (b:Int) p):=by
 refine⟨vu _ _ (by omega) (by omega),?_⟩;rw[mZ _ (by omega),mZ _ (by omega),mZ _ (by omega),Int.toNat_natCast,Int.toNat_natCast,Int.toNat_natCast,Nat.testBit_or]
theorem Kn{s:Sys} (hs:SysOk s) {e:Nat} (he:e<eS s):∃ a:Nat,fltS s e=a/\a<1024:=by
 have hn:=hs.n;have xZ:=hs.flt e he;refine⟨(fltS s e).toNat,by omega,?_⟩;have h3:((2:Int) ^ nS s)=(((2:Nat) ^ nS s:Nat):Int):=by simp
 have h2:=xZ.2;rw[h3]at h2;have h4:(2:Nat) ^ nS s<=2 ^ 5:=Nat.pow_le_pow_right (by omega) hn.2.1;omega
theorem JX(s:Sys) (hs:SysOk s) (B e f:Nat) (he:e<eS s) (hf:f<eS s) (w:World) (fK:ScAt w B s) :
  Calls Tryz.prog 97 #[.pointer (some ⟨B,0,none⟩),.int .i64 (e:Nat),.int .i64 (f:Nat)] w fun r w'=>r=.returned (.int .i64 (maskN (fun p=>linkB s p e f) (nS s):Nat))/\Below w.heap.size w w':=by
 obtain⟨qc,qs,qt,qe,qv,ql,q1,q2,_,_⟩:=fK.ex;obtain⟨b,o,_,ce,rfl,rfl,pw,nw,cw,pv,cv,c1,c2,c3,lP,eF,gI,b2,o2,pr,cr,rfl,c4,bW⟩:=it hs q2.ex he;obtain⟨b',o',_,ce',e0,rfl,pw',nw',cw',pv',cv',d1,d2,d3,MD,qA,sP,b3,o3,pr',cr',rfl,d4,mf⟩:=it hs q2.ex hf;injection e0 with e1 e2 e3
 injection e1 with e1
 injection e1 with e1 e4
 subst e1 e4 e3;clear e2;have hn:=hs.n;obtain⟨rr,Cx⟩:∃ rr:Nat,s.prob.rounds=rr:=⟨s.prob.rounds.toNat,by have:=hs.rounds.1;omega⟩;have E5:s.prob.rounds.toNat=rr:=by omega
 have pR:rr<=6:=by have:=hs.rounds;omega
 rw[E5]at lP MD c3 c4 d3 d4;have lP:=lP.symm;have MD:=MD.symm;subst lP;subst MD;have T6:Hid (w.cell? ⟨B,6,none⟩=some (.int .i64 (rr:Nat))):=aa ((ab q1 6).trans (by rw[<-Cx];rfl));have T7:Hid (w.cell? ⟨B,7,none⟩=some (.int .i64 (nS s:Nat))):=aa ((ab q1 7).trans (by rw[<-hn.2.2.1];rfl));have T9:Hid (w.cell? ⟨B,9,none⟩=some (.slice (some ⟨b,o,none⟩) (eS s) ce)):=aa ((ab q1 9).trans rfl);have C1:=aa c1;have C2:=aa c2;have C3:=aa c3;have C4:=aa c4;have D1:=aa d1;have D2:=aa d2;have D3:=aa d3;have D4:=aa d4;obtain⟨fa,CM,hfa2⟩:=Kn hs he;obtain⟨fb,Xi,hfb2⟩:=Kn hs hf;have HK:Hid (∀ p,linkB s p e f=(!(hasB (fa:Int) p || hasB (fb:Int) p)&&decide (finS s e p=finS s f p))):=aa (fun p=>by unfold linkB;rw[CM,Xi,Bool.not_or]);obtain⟨pr2,cr2,e4,erow⟩:=dO bW;injection e4 with e41 e42 e43
 subst e41 e43;obtain⟨pr3,cr3,e5,erow'⟩:=dO mf;injection e5 with e51 e52 e53
 subst e51 e53;clear e42 e52
 have R1:Hid (∀ p,p<nS s->∃ b o,pr=some ⟨b,o,none⟩/\w.cell? ⟨b,o+p,none⟩=some (.int .i64 (finS s e p))):=aa (fun p hp=>by
  obtain⟨b,o,e1,h1⟩:=erow p (by simpa using hp);rw[ny hp]at h1
  exact⟨b,o,e1,h1⟩)
 have R2:Hid (∀ p,p<nS s->∃ b o,pr'=some ⟨b,o,none⟩/\w.cell? ⟨b,o+p,none⟩=some (.int .i64 (finS s f p))):=aa (fun p hp=>by
  obtain⟨b,o,e1,h1⟩:=erow' p (by simpa using hp);rw[ny hp]at h1
  exact⟨b,o,e1,h1⟩)
 rw[CM]at eF gI;rw[Xi]at qA sP;have KN:=aa eF;have HF0:=aa gI;have nQ:=aa qA;have HG0:=aa sP;have HM:=aa (gS (fun p=>linkB s p e f));have FB:=aa (fun k=>@xh (fun p=>linkB s p e f) k);have uI:=aa (fun k=>@vA (fun p=>linkB s p e f) k);have ji:nS s<=5:=hn.2.1;generalize hm:eS s=m at *;generalize fg:nS s=n at *;clear q1 q2 c1 c2 c3 c4 d1 d2 d3 d4 bW mf eF gI qA sP Cx E5 CM Xi fK hn hm fg hs erow erow'
 go_enter Tryz.func97,Tryz.ntmps97
 go_wp2_with fail
 obtain⟨VS,Cf⟩:∃ VS:List Value,VS=[.pointer (some ⟨B,0,none⟩),.pointer (some ⟨B,0,none⟩),.pointer (some ⟨B,0,none⟩),.pointer (some ⟨B,9,none⟩),.slice (some ⟨b,o,none⟩) m ce,.int .i64 (e:Nat),.pointer (some ⟨b,o+e * 3,none⟩),.agg #[.int .i64 (cA s e).c,.slice pw rr cw,.slice (some ⟨b2,o2,none⟩) (rr+1) cv],.pointer (some ⟨B,0,none⟩),.pointer (some ⟨B,0,none⟩),.pointer (some ⟨B,0,none⟩),.pointer (some ⟨B,9,none⟩),.slice (some ⟨b,o,none⟩) m ce,.int .i64 (f:Nat),.pointer (some ⟨b,o+f * 3,none⟩),.agg #[.int .i64 (cA s f).c,.slice pw' rr cw',.slice (some ⟨b3,o3,none⟩) (rr+1) cv']]:=⟨_,rfl⟩;have hS:List.Nodup [14,15,16,17,18,19,20,21,22,23,24,25,26,27,28,29,8,9]:=by decide
 refine oV 20 [14,15,16,17,18,19,20,21,22,23,24,25,26,27,28,29,8,9] (TwoBox w 16 VS #[.int .i64 (cA s e).c,.slice pw rr cw,.slice (some ⟨b2,o2,none⟩) (rr+1) cv] #[.int .i64 0,.slice none 0 0,.slice none 0 0] #[.int .i64 (cA s f).c,.slice pw' rr cw',.slice (some ⟨b3,o3,none⟩) (rr+1) cv'] 89) (by kernel_rfl) rfl hS (by kernel_rfl) (fun x=>TwoBox.start (by go_grown)) ?step ?free ?last
 case step=>
  intro x W D i o' s' F ho uW hD aq hc hF;have hi:i<18:=(List.getElem?_eq_some_iff.1 uW).1;rcases (show i=0\/i=1\/i=2\/i=3\/i=4\/i=5\/i=6\/i=7\/i=8\/i=9\/i=10\/i=11\/i=12\/i=13\/i=14\/i=15\/i=16\/i=17 by omega) with rfl|rfl|rfl|rfl|rfl|rfl|rfl|rfl|rfl|rfl|rfl|rfl|rfl|rfl|rfl|rfl|rfl|rfl
  all_goals (obtain rfl:=dp ho.symm;obtain rfl:=dp uW.symm;clear hi ho uW;subst Cf)
  ·obtain⟨e0,f0⟩:=dC hF 0 (.pointer (some ⟨B,0,none⟩)) (by decide) rfl
   clear hF aq
   go_wp2_with fail
   exact dk.mk (.pointer (some ⟨B,0,none⟩)) (hc.set 0 (by omega) hD rfl) rfl
  ·obtain⟨e0,f0⟩:=aW hF 0 14 (.pointer (some ⟨B,0,none⟩)) hS rfl (by kernel_rfl) (hc.val 0 (by omega) (aq ⟨0,.data⟩ (by simp) rfl))
   clear hF aq
   go_wp2_with fail
   exact dk.mk (.pointer (some ⟨B,0,none⟩)) (hc.set 1 (by omega) hD rfl) rfl
  ·obtain⟨e1,f1⟩:=aW hF 1 15 (.pointer (some ⟨B,0,none⟩)) hS rfl (by kernel_rfl) (hc.val 1 (by omega) (aq ⟨1,.data⟩ (by simp) rfl))
   clear hF aq
   go_wp2_with fail
   exact dk.mk (.pointer (some ⟨B,0,none⟩)) (hc.set 2 (by omega) hD rfl) rfl
  ·obtain⟨e2,f2⟩:=aW hF 2 16 (.pointer (some ⟨B,0,none⟩)) hS rfl (by kernel_rfl) (hc.val 2 (by omega) (aq ⟨2,.data⟩ (by simp) rfl))
   clear hF aq
   go_wp2_with fail
   exact dk.mk (.pointer (some ⟨B,9,none⟩)) (hc.set 3 (by omega) hD rfl) rfl
  ·obtain⟨e3,f3⟩:=aW hF 3 17 (.pointer (some ⟨B,9,none⟩)) hS rfl (by kernel_rfl) (hc.val 3 (by omega) (aq ⟨3,.data⟩ (by simp) rfl))
   have t9:=ak hc.below T9.out;clear hF aq
   go_wp2_with fail
   exact dk.mk (.slice (some ⟨b,o,none⟩) m ce) (hc.set 4 (by omega) hD rfl) rfl
  ·obtain⟨e0,f0⟩:=dC hF 1 (.int .i64 (e:Nat)) (by decide) rfl
   clear hF aq
   go_wp2_with fail
   exact dk.mk (.int .i64 (e:Nat)) (hc.set 5 (by omega) hD rfl) rfl
  ·obtain⟨e4,f4⟩:=aW hF 4 18 (.slice (some ⟨b,o,none⟩) m ce) hS rfl (by kernel_rfl) (hc.val 4 (by omega) (aq ⟨4,.data⟩ (by simp) rfl))
   obtain⟨e5,f5⟩:=aW hF 5 19 (.int .i64 (e:Nat)) hS rfl (by kernel_rfl) (hc.val 5 (by omega) (aq ⟨5,.data⟩ (by simp) rfl));clear hF aq
   go_wp2_with fail
   exact dk.mk (.pointer (some ⟨b,o+e * 3,none⟩)) (hc.set 6 (by omega) hD rfl) rfl
  ·obtain⟨e6,f6⟩:=aW hF 6 20 (.pointer (some ⟨b,o+e * 3,none⟩)) hS rfl (by kernel_rfl) (hc.val 6 (by omega) (aq ⟨6,.data⟩ (by simp) rfl))
   have u1:=ak hc.below C1.out;have u2:=ak hc.below C2.out;have u3:=ak hc.below C3.out;clear hF aq
   go_wp2_with fail
   exact dk.mk (.agg #[.int .i64 (cA s e).c,.slice pw rr cw,.slice (some ⟨b2,o2,none⟩) (rr+1) cv]) (hc.set 7 (by omega) hD rfl) rfl
  ·obtain⟨e0,f0⟩:=dC hF 0 (.pointer (some ⟨B,0,none⟩)) (by decide) rfl
   clear hF aq
   go_wp2_with fail
   exact dk.mk (.pointer (some ⟨B,0,none⟩)) (hc.set 8 (by omega) hD rfl) rfl
  ·obtain⟨e8,f8⟩:=aW hF 8 22 (.pointer (some ⟨B,0,none⟩)) hS rfl (by kernel_rfl) (hc.val 8 (by omega) (aq ⟨8,.data⟩ (by simp) rfl))
   clear hF aq
   go_wp2_with fail
   exact dk.mk (.pointer (some ⟨B,0,none⟩)) (hc.set 9 (by omega) hD rfl) rfl
  ·obtain⟨e9,f9⟩:=aW hF 9 23 (.pointer (some ⟨B,0,none⟩)) hS rfl (by kernel_rfl) (hc.val 9 (by omega) (aq ⟨9,.data⟩ (by simp) rfl))
   clear hF aq
   go_wp2_with fail
   exact dk.mk (.pointer (some ⟨B,0,none⟩)) (hc.set 10 (by omega) hD rfl) rfl
  ·obtain⟨e10,f10⟩:=aW hF 10 24 (.pointer (some ⟨B,0,none⟩)) hS rfl (by kernel_rfl) (hc.val 10 (by omega) (aq ⟨10,.data⟩ (by simp) rfl))
   clear hF aq
   go_wp2_with fail
   exact dk.mk (.pointer (some ⟨B,9,none⟩)) (hc.set 11 (by omega) hD rfl) rfl
  ·obtain⟨e11,f11⟩:=aW hF 11 25 (.pointer (some ⟨B,9,none⟩)) hS rfl (by kernel_rfl) (hc.val 11 (by omega) (aq ⟨11,.data⟩ (by simp) rfl))
   have t9:=ak hc.below T9.out;clear hF aq
   go_wp2_with fail
   exact dk.mk (.slice (some ⟨b,o,none⟩) m ce) (hc.set 12 (by omega) hD rfl) rfl
  ·obtain⟨e0,f0⟩:=dC hF 2 (.int .i64 (f:Nat)) (by decide) rfl
   clear hF aq
   go_wp2_with fail
   exact dk.mk (.int .i64 (f:Nat)) (hc.set 13 (by omega) hD rfl) rfl
  ·obtain⟨e12,f12⟩:=aW hF 12 26 (.slice (some ⟨b,o,none⟩) m ce) hS rfl (by kernel_rfl) (hc.val 12 (by omega) (aq ⟨12,.data⟩ (by simp) rfl))
   obtain⟨e13,f13⟩:=aW hF 13 27 (.int .i64 (f:Nat)) hS rfl (by kernel_rfl) (hc.val 13 (by omega) (aq ⟨13,.data⟩ (by simp) rfl));clear hF aq
   go_wp2_with fail
   exact dk.mk (.pointer (some ⟨b,o+f * 3,none⟩)) (hc.set 14 (by omega) hD rfl) rfl
  ·obtain⟨e14,f14⟩:=aW hF 14 28 (.pointer (some ⟨b,o+f * 3,none⟩)) hS rfl (by kernel_rfl) (hc.val 14 (by omega) (aq ⟨14,.data⟩ (by simp) rfl))
   have u1:=ak hc.below D1.out;have u2:=ak hc.below D2.out;have u3:=ak hc.below D3.out;clear hF aq
   go_wp2_with fail
   exact dk.mk (.agg #[.int .i64 (cA s f).c,.slice pw' rr cw',.slice (some ⟨b3,o3,none⟩) (rr+1) cv']) (hc.set 15 (by omega) hD rfl) rfl
  ·clear hF aq
   go_wp2_with fail
   exact dk.mk (.pointer (some ⟨W.heap.size,0,none⟩)) (hc.alloc_a hD) rfl
  ·clear hF aq
   go_wp2_with fail
   exact dk.mk (.pointer (some ⟨W.heap.size,0,none⟩)) (hc.alloc_b hD) rfl
 case free=>
  intro x W D i o' F ho h6 h8 hD aq hc hF;rcases (show i=18\/i=19 by simp at h6;omega) with rfl|rfl
  ·obtain rfl:=dp ho.symm
   have g7:=hc.val 7 (by omega) (aq ⟨7,.data⟩ (by simp) rfl);have gA:=aq ⟨16,.data⟩ (by simp) rfl;obtain⟨g,g1,g2,g3⟩:=hc.a gA;rw[hD]at g3;obtain⟨e7,_⟩:=aW hF 7 21 (.agg #[.int .i64 (cA s e).c,.slice pw rr cw,.slice (some ⟨b2,o2,none⟩) (rr+1) cv]) hS rfl (by kernel_rfl) (by rw[g7,Cf];rfl);obtain⟨e8,_⟩:=aW hF 16 8 (.pointer (some ⟨g,0,none⟩)) hS rfl (by kernel_rfl) g1;refine wpList_store_row rfl 89 (.tmp 8) (.tmp 21) rfl g #[.int .i64 (cA s e).c,.slice pw rr cw,.slice (some ⟨b2,o2,none⟩) (rr+1) cv] e8 e7 89 _ g3 (by kernel_rfl) (by kernel_rfl) (by simp[Value.oneCell']) ?_;exact⟨rfl,hc.store_a gA hD g1⟩
  ·obtain rfl:=dp ho.symm
   have g7:=hc.val 15 (by omega) (aq ⟨15,.data⟩ (by simp) rfl);have gA:=aq ⟨17,.data⟩ (by simp) rfl;obtain⟨g,g1,g2,g3⟩:=hc.b gA;rw[hD]at g3;obtain⟨e7,_⟩:=aW hF 15 29 (.agg #[.int .i64 (cA s f).c,.slice pw' rr cw',.slice (some ⟨b3,o3,none⟩) (rr+1) cv']) hS rfl (by kernel_rfl) (by rw[g7,Cf];rfl);obtain⟨e8,_⟩:=aW hF 17 9 (.pointer (some ⟨g,0,none⟩)) hS rfl (by kernel_rfl) g1;refine wpList_store_row rfl 89 (.tmp 9) (.tmp 29) rfl g #[.int .i64 (cA s f).c,.slice pw' rr cw',.slice (some ⟨b3,o3,none⟩) (rr+1) cv'] e8 e7 89 _ g3 (by kernel_rfl) (by kernel_rfl) (by simp[Value.oneCell']) ?_;exact⟨rfl,hc.store_b gA hD g1⟩
 case last=>
  intro x W1 D F aQ hc hF;obtain⟨g1,a1,a2,a3⟩:=hc.a (aQ 16 (by omega));obtain⟨g2,z1,z2,z3⟩:=hc.b (aQ 17 (by omega));rw[aQ 18 (by omega)]at a3;rw[aQ 19 (by omega)]at z3;have bF:=aa hc.below;have nQ:=aa a3;have ru:=aa z3;clear hc aQ Cf hS a2 a3 z2 z3;simp only[br,cW,List.setIfInBounds_toArray,List.set_cons_succ,List.set_cons_zero,Nat.reduceAdd]at hF;simp only[a1,z1]at hF;generalize x 0=s0,x 1=s1,x 2=s2,x 3=s3,x 4=s4,x 5=s5,x 6=s6,x 7=s7,x 8=s8,x 9=s9,x 10=s10,x 11=s11,x 12=s12,x 13=s13,x 14=s14,x 15=s15 at hF;subst hF;clear a1 z1;have t7:=ak bF.out T7.out
  go_wp2_with fail
  clear t7
  go_loopw [7,36] (fun v i wr=>∃ k:Nat,k<=n/\i=.int .i64 k/\v=.int .i64 (maskN (fun p=>linkB s p e f) k:Nat)/\Below w.heap.size w wr/\wr.heap[g1]?=some (.cells #[.int .i64 (cA s e).c,.slice pw rr cw,.slice (some ⟨b2,o2,none⟩) (rr+1) cv] 89)/\wr.heap[g2]?=some (.cells #[.int .i64 (cA s f).c,.slice pw' rr cw',.slice (some ⟨b3,o3,none⟩) (rr+1) cv'] 89)) (fun _ i _=>n - (intOf i).toNat)
  case atStart=>exact⟨0,by omega,rfl,rfl,bF.out,nQ.out,ru.out⟩
  case round=>
   clear bF nQ ru;obtain⟨k,hk,rfl,rfl,ar,ha,hc⟩:=hrel;have aP:=aa ar;have HA:=aa ha;have HC:=aa hc;by_cases aA:k<n
   ·have fO:maskN (fun p=>linkB s p e f) k<1024:=by
     have h1:=HM.out k;have h2:(2:Nat) ^ k<=2 ^ 5:=Nat.pow_le_pow_right (by omega) (by omega);omega
    obtain⟨b6,o6,rfl,c6⟩:=R1.out k aA;obtain⟨b7,o7,rfl,c7⟩:=R2.out k aA;have HL:=aa (HK.out k);obtain⟨xe,hxe⟩:∃ xe,finS s e k=xe:=⟨_,rfl⟩;obtain⟨xf,hxf⟩:∃ xf,finS s f k=xf:=⟨_,rfl⟩;rw[hxe]at c6 HL;rw[hxf]at c7 HL;have tA:=ab ha;have tB:=ab hc;have t6:=ak ar T6.out;have y4:∀ z:ExtW wr,z.val.cell? ⟨b2,o2+rr,none⟩=_:=fun z=>ak (ae aP.out z.ext) C4.out
    have y5:∀ z:ExtW wr,z.val.cell? ⟨b3,o3+rr,none⟩=_:=fun z=>ak (ae aP.out z.ext) D4.out
    have y6:∀ z:ExtW wr,z.val.cell? ⟨b6,o6+k,none⟩=_:=fun z=>ak (ae aP.out z.ext) c6
    have y7:∀ z:ExtW wr,z.val.cell? ⟨b7,o7+k,none⟩=_:=fun z=>ak (ae aP.out z.ext) c7
    have yA:∀ z:ExtW wr,∀ j,z.val.cell? ⟨g1,j,none⟩=_:=fun z=>ab (af z.ext HA.out)
    have yB:∀ z:ExtW wr,∀ j,z.val.cell? ⟨g2,j,none⟩=_:=fun z=>ab (af z.ext HC.out)
    clear ar ha hc c6 c7 hxe hxf;generalize PL:maskN (fun p=>linkB s p e f) k=mk at fO ⊢;by_cases h0:rr=0
    ·have e1:=HF0.out h0
     have e2:=HG0.out h0;have e1:fa=0:=by omega
     have e2:fb=0:=by omega
     subst h0 e1 e2;have HL:Hid (linkB s k e f=(!hasB (0:Int) k&&decide (xe=xf))):=aa (by rw[HL.out];simp);simp only[Nat.add_zero]at y4 y5;clear KN nQ HF0 HG0;have gw:(bits .and .i64 0 1 == 0)=true:=by decide
     have hh:hasB (0:Int) k=false:=by unfold hasB;simp
     have Cl:Hid (linkB s k e f=decide (xe=xf)):=aa (by rw[HL.out,hh];rfl);clear hh;by_cases hx:xe=xf
     ·subst hx
      have HB:Hid (linkB s k e f=true):=aa (by rw[Cl.out];simp);clear Cl
      go_wp2_with fail
      refine aC (by kernel_rfl) (by kernel_rfl) ?_
      repeat (go_big_quiet_step (fail))
      refine wpQuiet_nil ?_;rintro _ ⟨xq,rfl⟩;have bR:=aa xq.ext;clear t6 yA yB y4 y5 y6 y7
      go_wp2_with fail
      go_roundw
      case rel=>exact⟨k+1,by omega,by go_num,qU (by rw[<-FB.out k HB.out,PL];exact tP (by omega) (by omega)),ae aP.out bR.out,af bR.out HA.out,af bR.out HC.out⟩
      case measure=>simp[intOf];omega
     ·have df:(xe == xf)=false:=by simpa using hx
      have dM:decide (xe=xf)=false:=decide_eq_false hx;have HB:Hid (linkB s k e f=false):=aa (by rw[Cl.out,dM]);clear hx
      go_wp2_with fail
      refine aC (by kernel_rfl) (by kernel_rfl) ?_
      repeat (go_big_quiet_step (fail))
      refine wpQuiet_nil ?_;rintro _ ⟨xq,rfl⟩;have bR:=aa xq.ext;clear t6 yA yB y4 y5 y6 y7
      go_wp2_with fail
      go_roundw
      case rel=>exact⟨k+1,by omega,by go_num,by rw[<-uI.out k HB.out,PL],ae aP.out bR.out,af bR.out HA.out,af bR.out HC.out⟩
      case measure=>simp[intOf];omega
    ·obtain⟨q,rfl⟩:∃ q,rr=q+1:=⟨rr - 1,by omega⟩
     obtain⟨b8,o8,rfl,c8⟩:=KN.out (by omega);obtain⟨b9,o9,rfl,c9⟩:=nQ.out (by omega);rw[Nat.add_sub_cancel]at c8 c9;have t8:∀ z:ExtW wr,z.val.cell? ⟨b8,o8+q * 7+6,none⟩=_:=fun z=>ak (ae aP.out z.ext) c8
     have t9:∀ z:ExtW wr,z.val.cell? ⟨b9,o9+q * 7+6,none⟩=_:=fun z=>ak (ae aP.out z.ext) c9
     obtain⟨hor,If⟩:=UJ hfa2 hfb2 k;rw[<-If]at HL;clear c8 c9 If
     go_wp2_with fail
     refine aC (by kernel_rfl) (by kernel_rfl) ?_
     repeat (go_big_quiet_step (fail))
     refine wpQuiet_nil ?_;rintro _ ⟨x9,rfl⟩;have t6:=ak x9.ext t6;have y4:=fun z:ExtW x9.val=>y4 ⟨z.val,ae x9.ext z.ext⟩
     have y5:=fun z:ExtW x9.val=>y5 ⟨z.val,ae x9.ext z.ext⟩
     have y6:=fun z:ExtW x9.val=>y6 ⟨z.val,ae x9.ext z.ext⟩
     have y7:=fun z:ExtW x9.val=>y7 ⟨z.val,ae x9.ext z.ext⟩
     have yA:=fun (z:ExtW x9.val) j=>yA ⟨z.val,ae x9.ext z.ext⟩ j
     have yB:=fun (z:ExtW x9.val) j=>yB ⟨z.val,ae x9.ext z.ext⟩ j
     dsimp only at y4 y5 y6 y7 yA yB;clear t8 t9 tA tB;have gw:=rS (((fa ||| fb:Nat):Int)) k;cases hh:hasB (((fa ||| fb:Nat):Int)) k with
     | true=>
      have HB:Hid (linkB s k e f=false):=aa (by rw[HL.out,hh];rfl);rw[hh]at gw;clear hh
      go_wp2_with fail
      refine aC (by kernel_rfl) (by kernel_rfl) ?_
      repeat (go_big_quiet_step (fail))
      refine wpQuiet_nil ?_;rintro _ ⟨xq,rfl⟩;have bR:=aa (ae x9.ext xq.ext);clear t6 yA yB y4 y5 y6 y7
      go_wp2_with fail
      go_roundw
      case rel=>exact⟨k+1,by omega,by go_num,by rw[<-uI.out k HB.out,PL],ae aP.out bR.out,af bR.out HA.out,af bR.out HC.out⟩
      case measure=>simp[intOf];omega
     | false=>
      rw[hh]at gw;have Cl:Hid (linkB s k e f=decide (xe=xf)):=aa (by rw[HL.out,hh];rfl);clear hh;by_cases hx:xe=xf
      ·subst hx
       have HB:Hid (linkB s k e f=true):=aa (by rw[Cl.out];simp);clear Cl
       go_wp2_with fail
       refine aC (by kernel_rfl) (by kernel_rfl) ?_
       repeat (go_big_quiet_step (fail))
       refine wpQuiet_nil ?_;rintro _ ⟨xq,rfl⟩;have bR:=aa (ae x9.ext xq.ext);clear t6 yA yB y4 y5 y6 y7
       go_wp2_with fail
       go_roundw
       case rel=>exact⟨k+1,by omega,by go_num,qU (by rw[<-FB.out k HB.out,PL];exact tP (by omega) (by omega)),ae aP.out bR.out,af bR.out HA.out,af bR.out HC.out⟩
       case measure=>simp[intOf];omega
      ·have df:(xe == xf)=false:=by simpa using hx
       have dM:decide (xe=xf)=false:=decide_eq_false hx;have HB:Hid (linkB s k e f=false):=aa (by rw[Cl.out,dM]);clear hx
       go_wp2_with fail
       refine aC (by kernel_rfl) (by kernel_rfl) ?_
       repeat (go_big_quiet_step (fail))
       refine wpQuiet_nil ?_;rintro _ ⟨xq,rfl⟩;have bR:=aa (ae x9.ext xq.ext);clear t6 yA yB y4 y5 y6 y7
       go_wp2_with fail
       go_roundw
       case rel=>exact⟨k+1,by omega,by go_num,by rw[<-uI.out k HB.out,PL],ae aP.out bR.out,af bR.out HA.out,af bR.out HC.out⟩
       case measure=>simp[intOf];omega
   ·obtain rfl:k=n:=by omega
    clear ar ha hc
    go_wp2_with fail
    go_ret
    exact⟨rfl,aP.out⟩
theorem OP(t:Tk) (va vb:Value) (w:World) (ha:bK w va t.cases) (hb:bK w vb t.cases) :
  Calls Tryz.prog 181 #[.agg #[.int .i64 t.n,.int .i64 t.ins,.int .i64 t.outs,va],.agg #[.int .i64 t.n,.int .i64 t.ins,.int .i64 t.outs,vb]] w fun e w'=>e=.returned (.bool true)/\Below w.heap.size w w':=by
 obtain⟨pa,ca,rfl,la1,la2,ea⟩:=ha.at;obtain⟨pb,cb,rfl,lb1,lb2,eb⟩:=hb.at;have EA:=aa ea;have EB:=aa eb;clear ha hb ea eb;obtain⟨tn,ti,to,l⟩:=t;dsimp only at EA EB la1 la2 lb1 lb2 ⊢;obtain⟨m,hm⟩:∃ m,l.length=m:=⟨_,rfl⟩;have HM:=aa hm;rw[hm]at la1 la2 lb1 lb2 ⊢;clear hm;have Fr:(tn != tn)=false:=by simp
 have fY:(ti != ti)=false:=by simp
 have nL:(to != to)=false:=by simp
 have hd:((m:Int) != (m:Int))=false:=by simp
 go_enter Tryz.func181,Tryz.ntmps181
 go_wp2_with fail
 refine bm (fun W=>Below w.heap.size w W/\W.heap[w.heap.size]?=some (.cells #[.int .i64 tn,.int .i64 ti,.int .i64 to,.slice pa m ca] 24)/\W.heap[w.heap.size+1]?=some (.cells #[.int .i64 tn,.int .i64 ti,.int .i64 to,.slice pb m cb] 24)) ⟨by go_grown,ap _ (am _ _),by have h:=am (w.alloc (.cells #[.int .i64 tn,.int .i64 ti,.int .i64 to,.slice pa m ca] 24)) (.cells #[.int .i64 tn,.int .i64 ti,.int .i64 to,.slice pb m cb] 24);simpa using h⟩ (fun W0 aV=>?_);obtain⟨aH,bB,mL⟩:=aV;have fj:=aa aH;have kV:=aa bB;have mX:=aa mL;clear aH bB mL
 go_loopw [5] (fun i wr=>∃ k:Nat,k<=m/\i=.int .i64 k/\Below W0.heap.size W0 wr) (fun i _=>m - (intOf i).toNat)
 case atStart=>exact⟨0,by omega,rfl,Below.refl _ _⟩
 case round=>
  obtain⟨k,hk,rfl,ar⟩:=hrel;have aP:=aa ar;have bR:=aa (ae fj.out ar);clear ar;have HAA:=aa (af aP.out kV.out);have uU:=aa (af aP.out mX.out);have tA:=ab HAA.out;by_cases aA:k<m
  ·obtain⟨b1,o1,rfl,⟨x0,cx0,cN⟩,⟨x1,cx1,df⟩,⟨x2,cx2,dM⟩⟩:=EA.out k (by rw[HM.out];exact aA)
   obtain⟨b2,o2,rfl,⟨y0,cy0,iR⟩,⟨y1,cy1,jk⟩,⟨y2,cy2,iv⟩⟩:=EB.out k (by rw[HM.out];exact aA);generalize l[k]'(by rw[HM.out];exact aA)=c at cN df dM iR jk iv;have O9:=aa (fun W (h:Below wr.heap.size wr W)=>lj x0 y0 c.inp c.inp W (cN.up up_int (ae bR.out h)) (iR.up up_int (ae bR.out h)));rw[rQ]at O9;have eE:=aa (fun W (h:Below wr.heap.size wr W)=>EH x1 y1 c.out W (df.up up_ints (ae bR.out h)) (jk.up up_ints (ae bR.out h)));have lu:=aa (fun W (h:Below wr.heap.size wr W)=>EH x2 y2 c.calm W (dM.up up_ints (ae bR.out h)) (iv.up up_ints (ae bR.out h)));obtain⟨p0,c0,rfl,_,_,_⟩:=cN.at;obtain⟨p1,c1,rfl,_,_,_⟩:=df.at;obtain⟨p2,c2,rfl,_,_,_⟩:=dM.at;obtain⟨q0,d0,rfl,_,_,_⟩:=iR.at;obtain⟨q1,d1,rfl,_,_,_⟩:=jk.at;obtain⟨q2,d2,rfl,_,_,_⟩:=iv.at;clear cN df dM iR jk iv;generalize c.inp.length=n0,c.out.length=n1,c.calm.length=n2 at cx0 cx1 cx2 cy0 cy1 cy2 O9 eE lu;have C0:=aa (ak bR.out cx0);have C1:=aa (ak bR.out cx1);have C2:=aa (ak bR.out cx2);have D0:=aa (ak bR.out cy0);have D1:=aa (ak bR.out cy1);have D2:=aa (ak bR.out cy2);clear cx0 cx1 cx2 cy0 cy1 cy2
   go_wp2_with fail
   clear tA;obtain⟨VS,Cf⟩:∃ VS:List Value,VS=[.pointer (some ⟨w.heap.size,3,none⟩),.slice (some ⟨b1,o1,none⟩) m ca,.int .i64 (k:Nat),.pointer (some ⟨b1,o1+k * 3,none⟩),.agg #[.slice p0 n0 c0,.slice p1 n1 c1,.slice p2 n2 c2],.pointer (some ⟨w.heap.size+1,3,none⟩),.slice (some ⟨b2,o2,none⟩) m cb,.int .i64 (k:Nat),.pointer (some ⟨b2,o2+k * 3,none⟩),.agg #[.slice q0 n0 d0,.slice q1 n1 d1,.slice q2 n2 d2]]:=⟨_,rfl⟩;have hS:List.Nodup [43,44,45,46,47,48,49,50,51,52,6,7]:=by decide
   refine oV 14 [43,44,45,46,47,48,49,50,51,52,6,7] (TwoBox wr 10 VS #[.slice p0 n0 c0,.slice p1 n1 c1,.slice p2 n2 c2] #[.slice none 0 0,.slice none 0 0,.slice none 0 0] #[.slice q0 n0 d0,.slice q1 n1 d1,.slice q2 n2 d2] 135) (by kernel_rfl) rfl hS (by kernel_rfl) (fun x=>TwoBox.start (by go_grown)) ?step ?free ?last
   case step=>
    intro x W D i o' s' F ho uW hD aq hc hF;have hi:i<12:=(List.getElem?_eq_some_iff.1 uW).1;rcases (show i=0\/i=1\/i=2\/i=3\/i=4\/i=5\/i=6\/i=7\/i=8\/i=9\/i=10\/i=11 by omega) with rfl|rfl|rfl|rfl|rfl|rfl|rfl|rfl|rfl|rfl|rfl|rfl
    all_goals (obtain rfl:=dp ho.symm;obtain rfl:=dp uW.symm;clear hi ho uW;subst Cf)
    ·obtain⟨e0,f0⟩:=dC hF 2 (.pointer (some ⟨w.heap.size,0,none⟩)) (by decide) rfl
     clear hF aq
     go_wp2_with fail
     exact dk.mk (.pointer (some ⟨w.heap.size,3,none⟩)) (hc.set 0 (by omega) hD rfl) rfl
    ·obtain⟨e0,f0⟩:=aW hF 0 43 (.pointer (some ⟨w.heap.size,3,none⟩)) hS rfl (by kernel_rfl) (hc.val 0 (by omega) (aq ⟨0,.data⟩ (by simp) rfl))
     have t9:=ab (af hc.below HAA.out);clear hF aq
     go_wp2_with fail
     exact dk.mk (.slice (some ⟨b1,o1,none⟩) m ca) (hc.set 1 (by omega) hD rfl) rfl
    ·obtain⟨e0,f0⟩:=dC hF 5 (.int .i64 (k:Nat)) (by decide) rfl
     clear hF aq
     go_wp2_with fail
     exact dk.mk (.int .i64 (k:Nat)) (hc.set 2 (by omega) hD rfl) rfl
    ·obtain⟨e1,f1⟩:=aW hF 1 44 (.slice (some ⟨b1,o1,none⟩) m ca) hS rfl (by kernel_rfl) (hc.val 1 (by omega) (aq ⟨1,.data⟩ (by simp) rfl))
     obtain⟨e2,f2⟩:=aW hF 2 45 (.int .i64 (k:Nat)) hS rfl (by kernel_rfl) (hc.val 2 (by omega) (aq ⟨2,.data⟩ (by simp) rfl));clear hF aq
     go_wp2_with fail
     exact dk.mk (.pointer (some ⟨b1,o1+k * 3,none⟩)) (hc.set 3 (by omega) hD rfl) rfl
    ·obtain⟨e3,f3⟩:=aW hF 3 46 (.pointer (some ⟨b1,o1+k * 3,none⟩)) hS rfl (by kernel_rfl) (hc.val 3 (by omega) (aq ⟨3,.data⟩ (by simp) rfl))
     have u1:=ak hc.below C0.out;have u2:=ak hc.below C1.out;have u3:=ak hc.below C2.out;clear hF aq
     go_wp2_with fail
     exact dk.mk (.agg #[.slice p0 n0 c0,.slice p1 n1 c1,.slice p2 n2 c2]) (hc.set 4 (by omega) hD rfl) rfl
    ·obtain⟨e0,f0⟩:=dC hF 3 (.pointer (some ⟨w.heap.size+1,0,none⟩)) (by decide) rfl
     clear hF aq
     go_wp2_with fail
     exact dk.mk (.pointer (some ⟨w.heap.size+1,3,none⟩)) (hc.set 5 (by omega) hD rfl) rfl
    ·obtain⟨e5,f5⟩:=aW hF 5 48 (.pointer (some ⟨w.heap.size+1,3,none⟩)) hS rfl (by kernel_rfl) (hc.val 5 (by omega) (aq ⟨5,.data⟩ (by simp) rfl))
     have t9:=ab (af hc.below uU.out);clear hF aq
     go_wp2_with fail
     exact dk.mk (.slice (some ⟨b2,o2,none⟩) m cb) (hc.set 6 (by omega) hD rfl) rfl
    ·obtain⟨e0,f0⟩:=dC hF 5 (.int .i64 (k:Nat)) (by decide) rfl
     clear hF aq
     go_wp2_with fail
     exact dk.mk (.int .i64 (k:Nat)) (hc.set 7 (by omega) hD rfl) rfl
    ·obtain⟨e6,f6⟩:=aW hF 6 49 (.slice (some ⟨b2,o2,none⟩) m cb) hS rfl (by kernel_rfl) (hc.val 6 (by omega) (aq ⟨6,.data⟩ (by simp) rfl))
     obtain⟨e7,f7⟩:=aW hF 7 50 (.int .i64 (k:Nat)) hS rfl (by kernel_rfl) (hc.val 7 (by omega) (aq ⟨7,.data⟩ (by simp) rfl));clear hF aq
     go_wp2_with fail
     exact dk.mk (.pointer (some ⟨b2,o2+k * 3,none⟩)) (hc.set 8 (by omega) hD rfl) rfl
    ·obtain⟨e8,f8⟩:=aW hF 8 51 (.pointer (some ⟨b2,o2+k * 3,none⟩)) hS rfl (by kernel_rfl) (hc.val 8 (by omega) (aq ⟨8,.data⟩ (by simp) rfl))
     have u1:=ak hc.below D0.out;have u2:=ak hc.below D1.out;have u3:=ak hc.below D2.out;clear hF aq
     go_wp2_with fail
     exact dk.mk (.agg #[.slice q0 n0 d0,.slice q1 n1 d1,.slice q2 n2 d2]) (hc.set 9 (by omega) hD rfl) rfl
    ·clear hF aq
     go_wp2_with fail
     exact dk.mk (.pointer (some ⟨W.heap.size,0,none⟩)) (hc.alloc_a hD) rfl
    ·clear hF aq
     go_wp2_with fail
     exact dk.mk (.pointer (some ⟨W.heap.size,0,none⟩)) (hc.alloc_b hD) rfl
   case free=>
    intro x W D i o' F ho h6 h8 hD aq hc hF;rcases (show i=12\/i=13 by simp at h6;omega) with rfl|rfl
    ·obtain rfl:=dp ho.symm
     have g7:=hc.val 4 (by omega) (aq ⟨4,.data⟩ (by simp) rfl);have gA:=aq ⟨10,.data⟩ (by simp) rfl;obtain⟨g,g1,g2,g3⟩:=hc.a gA;rw[hD]at g3;obtain⟨e7,_⟩:=aW hF 4 47 (.agg #[.slice p0 n0 c0,.slice p1 n1 c1,.slice p2 n2 c2]) hS rfl (by kernel_rfl) (by rw[g7,Cf];rfl);obtain⟨e8,_⟩:=aW hF 10 6 (.pointer (some ⟨g,0,none⟩)) hS rfl (by kernel_rfl) g1;refine wpList_store_row rfl 135 (.tmp 6) (.tmp 47) rfl g #[.slice p0 n0 c0,.slice p1 n1 c1,.slice p2 n2 c2] e8 e7 135 _ g3 (by kernel_rfl) (by kernel_rfl) (by simp[Value.oneCell']) ?_;exact⟨rfl,hc.store_a gA hD g1⟩
    ·obtain rfl:=dp ho.symm
     have g7:=hc.val 9 (by omega) (aq ⟨9,.data⟩ (by simp) rfl);have gA:=aq ⟨11,.data⟩ (by simp) rfl;obtain⟨g,g1,g2,g3⟩:=hc.b gA;rw[hD]at g3;obtain⟨e7,_⟩:=aW hF 9 52 (.agg #[.slice q0 n0 d0,.slice q1 n1 d1,.slice q2 n2 d2]) hS rfl (by kernel_rfl) (by rw[g7,Cf];rfl);obtain⟨e8,_⟩:=aW hF 11 7 (.pointer (some ⟨g,0,none⟩)) hS rfl (by kernel_rfl) g1;refine wpList_store_row rfl 135 (.tmp 7) (.tmp 52) rfl g #[.slice q0 n0 d0,.slice q1 n1 d1,.slice q2 n2 d2] e8 e7 135 _ g3 (by kernel_rfl) (by kernel_rfl) (by simp[Value.oneCell']) ?_;exact⟨rfl,hc.store_b gA hD g1⟩
   case last=>
    intro x W1 D F aQ hc hF;obtain⟨g1,a1,a2,a3⟩:=hc.a (aQ 10 (by omega));obtain⟨g2,z1,z2,z3⟩:=hc.b (aQ 11 (by omega));rw[aQ 12 (by omega)]at a3;rw[aQ 13 (by omega)]at z3;have bF:=aa hc.below;have nQ:=aa a3;have ru:=aa z3;clear hc aQ Cf hS a2 a3 z2 z3;simp only[br,cW,List.setIfInBounds_toArray,List.set_cons_succ,List.set_cons_zero,Nat.reduceAdd]at hF;simp only[a1,z1]at hF;generalize x 0=s0,x 1=s1,x 2=s2,x 3=s3,x 4=s4,x 5=s5,x 6=s6,x 7=s7,x 8=s8,x 9=s9 at hF;subst hF;clear a1 z1;have tA:=ab nQ.out;have tC:=ab ru.out
    go_wp2_with fail
    refine(O9.out W1 bF.out).mono ?_;rintro r W2 ⟨rfl,aU⟩;have cL:=aa (ae bF.out aU);clear tA tC;have tA:=ab (af aU nQ.out);have tC:=ab (af aU ru.out);have H12:=aa aU;clear aU
    go_wp2_with fail
    refine(eE.out W2 cL.out).mono ?_;rintro r W3 ⟨rfl,bC⟩;have eo:=aa (ae cL.out bC);clear tA tC;have tA:=ab (af (ae H12.out bC) nQ.out);have tC:=ab (af (ae H12.out bC) ru.out);clear bC
    go_wp2_with fail
    refine(lu.out W3 eo.out).mono ?_;rintro r W4 ⟨rfl,bQ⟩;have eQ:=aa (ae eo.out bQ);clear tA tC bQ
    go_wp2_with fail
    go_roundw
    case rel=>exact⟨k+1,by omega,by go_num,ae aP.out eQ.out⟩
    case measure=>simp[intOf];omega
  ·obtain rfl:k=m:=by omega
   go_wp2_with fail
   go_ret
   exact⟨rfl,bR.out⟩
theorem OQ(p:Pb) (vc vs uc us:Value) (w:World) (hc:bK w vc p.t.cases) (hs:bh w vs p.a.states) (kc:bK w uc p.t.cases) (ks:bh w us p.a.states) :
  Calls Tryz.prog 148 #[.agg (zC p vc vs),.agg (zC p uc us)] w fun e w'=>e=.returned (.bool true)/\Below w.heap.size w w':=by
 have HT:=aa (fun W (h:Below w.heap.size w W)=>OP p.t vc uc W (hc.up up_case h) (kc.up up_case h));have HA:=aa (fun W (h:Below w.heap.size w W)=>Rg p.a.n p.a.states vs us W (hs.up up_moves h) (ks.up up_moves h));obtain⟨p1,c1,rfl,_,_,_⟩:=hc.at;obtain⟨p2,c2,rfl,_,_,_⟩:=hs.at;obtain⟨p3,c3,rfl,_,_,_⟩:=kc.at;obtain⟨p4,c4,rfl,_,_,_⟩:=ks.at;generalize p.t.cases.length=n1,p.a.states.length=n2 at HT HA ⊢;clear hc hs kc ks
 go_enter Tryz.func148,Tryz.ntmps148
 go_wp2_with fail
 refine aN (fun W=>Below w.heap.size w W/\(∃ c,W.heap[w.heap.size]?=some (.cells c 29)/\c=zC p (.slice p1 n1 c1) (.slice p2 n2 c2))/\(∃ c,W.heap[w.heap.size+1]?=some (.cells c 29)/\c=zC p (.slice p3 n1 c3) (.slice p4 n2 c4))) ⟨by go_grown,⟨_,ap _ (am _ _),rfl⟩,⟨_,by have h:=am (w.alloc (.cells (zC p (.slice p1 n1 c1) (.slice p2 n2 c2)) 29)) (.cells (zC p (.slice p3 n1 c3) (.slice p4 n2 c4)) 29);simpa using h,rfl⟩⟩ (fun W0 aV=>?_);obtain⟨aH,⟨_,bB,rfl⟩,⟨_,mL,rfl⟩⟩:=aV;refine(HT.out W0 aH).mono ?_;rintro r W1 ⟨rfl,aI⟩;have bF:=aa (ae aH aI);have tA:=ab (af aI bB);have tC:=ab (af aI mL);clear aH bB mL aI
 go_wp2_with fail
 refine(HA.out W1 bF.out).mono ?_;rintro r W2 ⟨rfl,aU⟩;have cL:=aa (ae bF.out aU);clear tA tC aU
 go_wp2_with fail
 go_ret
 exact⟨rfl,cL.out⟩
theorem Md(s z:Sys) (hp:z.prob=s.prob) (vc vs vt ve uc us ut ue:Value) (w:World) (hs:IsSys w s vc vs vt ve) (hz:IsSys w z uc us ut ue) :
  Calls Tryz.prog 102 #[.agg (bT s.prob vc vs s.n vt ve),.agg (bT s.prob uc us z.n ut ue)] w fun e w'=>e=.returned (.bool (decide ((s.n=z.n/\s.tab=z.tab)/\s.ex=z.ex)))/\Below w.heap.size w w':=by
 have Tr:=aa (fun W (h:Below w.heap.size w W)=>OQ s.prob vc vs uc us W (hs.cases.up up_case h) (hs.states.up up_moves h) (by have:=hz.cases.up up_case h;rwa [hp]at this) (by have:=hz.states.up up_moves h;rwa [hp]at this));have K4:=aa (fun W (h:Below w.heap.size w W)=>L' s.n z.n vt ut s.tab z.tab W (hs.tab.up up_view h) (hz.tab.up up_view h));obtain⟨p1,c1,rfl,_,_,_⟩:=hs.cases.at;obtain⟨p2,c2,rfl,_,_,_⟩:=hs.states.at;obtain⟨p3,c3,rfl,_,_,_⟩:=hs.tab.at;obtain⟨q1,d1,rfl,_,_,_⟩:=hz.cases.at;obtain⟨q2,d2,rfl,_,_,_⟩:=hz.states.at;obtain⟨q3,d3,rfl,_,_,_⟩:=hz.tab.at;obtain⟨pa,ca,rfl,la1,la2,ea⟩:=hs.ex.at;obtain⟨pb,cb,rfl,lb1,lb2,eb⟩:=hz.ex.at;have EA:=aa ea;have EB:=aa eb;obtain⟨bt,tj⟩:∃ bt,decide (s.n=z.n/\s.tab=z.tab)=bt:=⟨_,rfl⟩;have I0:Hid (bt=false->decide ((s.n=z.n/\s.tab=z.tab)/\s.ex=z.ex)=false):=aa fun h=>decide_eq_false fun e=>(of_decide_eq_false (tj.trans h)) e.1
 have gJ:Hid (s.ex.length≠z.ex.length->decide ((s.n=z.n/\s.tab=z.tab)/\s.ex=z.ex)=false):=aa fun h=>decide_eq_false fun e=>h (by rw[e.2])
 have og:Hid (∀ j,j<s.ex.length->s.ex.getD j default≠z.ex.getD j default->decide ((s.n=z.n/\s.tab=z.tab)/\s.ex=z.ex)=false):=aa fun j _ h=>decide_eq_false fun e=>h (by rw[e.2])
 have gQ:Hid (bt=true/\s.ex.length=z.ex.length/\(∀ j,j<s.ex.length->s.ex.getD j default=z.ex.getD j default)->decide ((s.n=z.n/\s.tab=z.tab)/\s.ex=z.ex)=true):=aa fun ⟨h1,h2,h3⟩=>decide_eq_true ⟨of_decide_eq_true (tj.trans h1),eW default h2 h3⟩
 rw[tj]at K4;generalize decide ((s.n=z.n/\s.tab=z.tab)/\s.ex=z.ex)=r at I0 gJ og gQ ⊢;generalize s.ex=ax at EA gJ og gQ la1 la2 ⊢;generalize z.ex=ay at EB gJ og gQ lb1 lb2 ⊢;rw[hp]at Tr ⊢;clear hs hz ea eb tj hp;generalize s.prob.t.cases.length=n1,s.prob.a.states.length=n2,s.tab.length=n3,z.tab.length=n4 at Tr K4 ⊢;obtain⟨n,hn⟩:∃ n,ax.length=n:=⟨_,rfl⟩;obtain⟨m,hm⟩:∃ m,ay.length=m:=⟨_,rfl⟩;have HN:=aa hn;have HM:=aa hm;rw[hn]at la1 la2 ⊢;rw[hm]at lb1 lb2 ⊢;clear hn hm
 go_enter Tryz.func102,Tryz.ntmps102
 go_wp2_with fail
 refine aN (fun W=>Below w.heap.size w W/\(∃ c,W.heap[w.heap.size]?=some (.cells c 35)/\c=bT s.prob (.slice p1 n1 c1) (.slice p2 n2 c2) s.n (.slice p3 n3 c3) (.slice pa n ca))/\(∃ c,W.heap[w.heap.size+1]?=some (.cells c 35)/\c=bT s.prob (.slice q1 n1 d1) (.slice q2 n2 d2) z.n (.slice q3 n4 d3) (.slice pb m cb))) ⟨by go_grown,⟨_,ap _ (am _ _),rfl⟩,⟨_,by have h:=am (w.alloc (.cells (bT s.prob (.slice p1 n1 c1) (.slice p2 n2 c2) s.n (.slice p3 n3 c3) (.slice pa n ca)) 35)) (.cells (bT s.prob (.slice q1 n1 d1) (.slice q2 n2 d2) z.n (.slice q3 n4 d3) (.slice pb m cb)) 35);simpa using h,rfl⟩⟩ (fun W00 aV=>?_);obtain⟨aH,⟨_,bB,rfl⟩,⟨_,mL,rfl⟩⟩:=aV;refine(Tr.out W00 aH).mono ?_;rintro e W01 ⟨rfl,aI⟩;have HB01:=aa (ae aH aI);have HA01:=aa (af aI bB);have HC01:=aa (af aI mL);have tA:=ab HA01.out;have tC:=ab HC01.out;clear aH bB mL aI Tr
 go_wp2_with fail
 refine(K4.out W01 HB01.out).mono ?_;rintro e W0 ⟨rfl,aI⟩;have fj:=aa (ae HB01.out aI);have kV:=aa (af aI HA01.out);have mX:=aa (af aI HC01.out);clear tA tC;have tA:=ab kV.out;have tC:=ab mX.out;clear aI K4;cases bt with
 | false=>
  have HR:Hid (r=false):=aa (by first|exact I0.out rfl|exact I0.out trivial)
  go_wp2_with fail
  go_ret
  exact⟨aO (by rw[HR.out]),fj.out⟩
 | true=>
  by_cases hl:n=m
  case neg=>
   have hd:(((n:Nat):Int) != ((m:Nat):Int))=true:=by simp;omega
   have HR:=aa (gJ.out (by rw[HN.out,HM.out];exact hl));clear hl
   go_wp2_with fail
   go_ret
   exact⟨aO (by rw[HR.out]),fj.out⟩
  subst hl;have hd:((n:Int) != (n:Int))=false:=by simp
  go_wp2_with fail
  clear tA tC
  go_loopw [5] (fun i wr=>∃ k:Nat,k<=n/\i=.int .i64 k/\Below W0.heap.size W0 wr/\∀ j,j<k->ax.getD j default=ay.getD j default) (fun i _=>n - (intOf i).toNat)
  case atStart=>exact⟨0,by omega,rfl,Below.refl _ _,fun j hj=>by omega⟩
  case round=>
   obtain⟨k,hk,rfl,ar,aR⟩:=hrel;have H:=aa aR;have aP:=aa ar;have bR:=aa (ae fj.out ar);clear aR ar;have tA:=ab (af aP.out kV.out);have tC:=ab (af aP.out mX.out);by_cases aA:k<n
   ·obtain⟨b1,o1,rfl,⟨g0,_⟩,⟨v1,g1,h1⟩,⟨v2,g2,h2⟩⟩:=EA.out k (by rw[HN.out];exact aA)
    obtain⟨b2,o2,rfl,⟨e0,_⟩,⟨u1,e1,i1⟩,⟨u2,e2,i2⟩⟩:=EB.out k (by rw[HM.out];exact aA);have p9:=aa (az (default:Ex) (show k<ax.length by rw[HN.out];exact aA));have rp:=aa (az (default:Ex) (show k<ay.length by rw[HM.out];exact aA));generalize ax[k]'(by rw[HN.out];exact aA)=x at g0 h1 h2 p9;generalize ay[k]'(by rw[HM.out];exact aA)=y at e0 i1 i2 rp;have t0:=ak bR.out g0;have t1:=ak bR.out g1;have t2:=ak bR.out g2;have r0:=ak bR.out e0;have r1:=ak bR.out e1;have r2:=ak bR.out e2;have yM:=aa (fun W (h:Below w.heap.size w W)=>Mc x y v1 u1 v2 u2 W (h1.up up_round h) (i1.up up_round h) (h2.up up_ints h) (i2.up up_ints h));clear h1 h2 i1 i2 g0 g1 g2 e0 e1 e2
    go_wp2_with fail
    go_still_tail 10,(by kernel_rfl)
    go_wp2_with fail
    refine aN (fun W=>Below wr.heap.size wr W) (Below.drew (Below.refl _ _)) (fun W5 hW5=>?_);refine(yM.out W5 (ae bR.out hW5)).mono ?_;rintro e w6 ⟨rfl,gK⟩;have rN:=aa (ae aP.out (ae hW5 gK));clear hW5 gK t0 t1 t2 r0 r1 r2 tA tC yM;cases bY:decide (x=y) with
    | true=>
     have nT:=aa (of_decide_eq_true bY);clear bY
     go_wp2_with fail
     go_roundw
     case rel=>exact⟨k+1,by omega,by go_num,rN.out,aS (p:=fun j=>ax.getD j default=ay.getD j default) H.out (by rw[p9.out,rp.out];exact nT.out)⟩
     case measure=>simp[intOf];omega
    | false=>
     have HR:=aa (og.out k (by rw[HN.out];exact aA) (by rw[p9.out,rp.out];exact of_decide_eq_false bY));clear bY
     go_wp2_with fail
     go_ret
     exact⟨aO (by rw[HR.out]),ae fj.out rN.out⟩
   ·obtain rfl:k=n:=by omega
    have HF:∀ j,j<ax.length->ax.getD j default=ay.getD j default:=fun j hj=>H.out j (by have:=HN.out;omega)
    have HR:Hid (r=true):=aa (gQ.out ⟨by first|rfl|trivial,by rw[HN.out,HM.out],HF⟩);clear HF
    go_wp2_with fail
    go_ret
    exact⟨aO (by rw[HR.out]),bR.out⟩
theorem Ko(a:Adv):∀ k,ef a k=dP 4096 a k
 | 0=>rfl
 | k+1=>by
  show lm a (ef a k)=yW 4096 a (dP 4096 a k)
  rw[Ko a k];rfl
theorem wC{p:Pb} (h:probE p=0):numberP p=p.t.cases.length * min ((aK p).length:Int) 4097:=by
 obtain⟨ht,ha,_,rL,pR⟩:=gt h;have hn:=qI (L:=4096) (by omega) p.a (fun s hs m hm=>(uz ha s hs m hm).2) (by have:=(gY ha).1;omega) p.rounds.toNat;unfold numberP numberS;rw[Ko]
 show _ * numberL 4096 p.a p.rounds.toNat=_
 rw[hn];rfl
def tV(p:Pb):Prop:=probE p=0->p.t.cases.length * (aK p).length<=60\/4096<p.t.cases.length * (aK p).length
theorem Ca{p:Pb} (h:probE p=0):(4096:Int)<numberP p↔4096<p.t.cases.length * (aK p).length:=by
 have hc:=(eY (gt h).1).2.2.2.1;rw[wC h];generalize p.t.cases.length=a at hc ⊢;generalize (aK p).length=b;by_cases hb:b<=4097
 ·rw[Int.min_eq_left (by omega),<-Int.natCast_mul]
  omega
 ·have h1:1 * b<=a * b:=Nat.mul_le_mul_right b hc.1
  have h2:1 * 4097<=a * 4097:=Nat.mul_le_mul_right 4097 hc.1;rw[Int.min_eq_right (by omega)];have h3:((a * 4097:Nat):Int)=(a:Int) * 4097:=by rw[Int.natCast_mul];rfl
  omega
theorem Kp{p:Pb} (h:fewPB p=true):tV p:=fun h0=>by
 unfold fewPB at h;split at h
 ·cases h
 split at h
 ·cases h
 split at h
 ·cases h
 rw[if_neg (by simpa using h0)]at h;simp only[Bool.or_eq_true,decide_eq_true_eq]at h;rcases h with h|h
 ·by_cases hb:4096<p.t.cases.length * (aK p).length
  ·exact .inr hb
  ·left
   have hc:=(eY (gt h0).1).2.2.2.1;rw[wC h0]at h;generalize p.t.cases.length=a at hc h hb ⊢;generalize (aK p).length=b at h hb ⊢;have h1:1 * b<=a * b:=Nat.mul_le_mul_right b hc.1;rw[Int.min_eq_left (by omega),<-Int.natCast_mul]at h;omega
 ·exact .inr ((Ca h0).1 h)
theorem oY(tmps:Array Value) (B:Nat) (W:World) (c0 c1 c2 c3 c4 c5 c6 c7 c8 c9:Value) (e:Int) (h2:tmps[2]?.getD undef=.pointer (some ⟨B,0,none⟩)) (h3:tmps[3]?.getD undef=.int .i64 e)
  (hB:W.heap[B]?=some (.cells #[c0,c1,c2,c3,c4,c5,c6,c7,c8,c9] 35)) :
  (results Tryz.f73 tmps).run Tryz.prog W=.ok (.tuple #[.agg #[c0,c1,c2,c3,c4,c5,c6,c7,c8,c9],.int .i64 e]) W:=by
 have t2:=ab hB;simp[results,Tryz.results73,go_sem,h2,h3,t2]
def F8(p:Pb) (vc vs vt ve:Value) (base:Nat) (w':World):Prop:=((∃ a c,vt=.slice a (aM p).tab.length c)/\∃ a c,ve=.slice a (aM p).ex.length c)/\∀ Wf:World,(∀ k,base<=k->k<w'.heap.size->Wf.heap[k]?=w'.heap[k]?)->bK Wf vc p.t.cases->bh Wf vs p.a.states->IsSys Wf (aM p) vc vs vt ve
def Hm(p:Pb) (vc vs:Value) (base:Nat) (r:Ending) (w':World):Prop:=∃ c,r=.returned (.tuple #[.agg c,.int .i64 (buildE p)])/\(buildE p=0->∃ vt ve,c=bT p vc vs p.t.n vt ve/\F8 p vc vs vt ve base w')/\(buildE p≠0->c=zeroSys)
theorem UK{p:Pb} {vc vs:Value} {base:Nat} {w':World} {e:Int} (h:buildE p=e) (h0:e≠0):Hm p vc vs base (.returned (.tuple #[.agg zeroSys,.int .i64 e])) w':=⟨zeroSys,by rw[h],fun h1=>absurd (h.symm.trans h1) h0,fun _=>rfl⟩
theorem Cb(p:Pb) (vc vs:Value) (w:World) (hc:bK w vc p.t.cases) (hs:bh w vs p.a.states) (hN:movesN p.a.states<2305843009213693952) (hf:tV p) :
  Calls Tryz.prog 73 #[qp p vc vs] w fun r w'=>Hm p vc vs w.heap.size r w'/\Below w.heap.size w w':=by
 have GC:=aa hc;have GS:=aa hs;obtain⟨pc,cc,rfl,_⟩:=hc.at;obtain⟨ps,cs,rfl,_⟩:=hs.at;have ox:=aa (fun W (hb:Below w.heap.size w W)=>uC p _ _ W (GC.out.up up_case hb) (GS.out.up up_moves hb) hN);have O5:=aa (fun (h:probE p=0) W (hb:Below w.heap.size w W)=>sw p _ _ W (GC.out.up up_case hb) (GS.out.up up_moves hb) h);have I':=aa (fun (h:probE p=0) (h2:¬ 4096<p.t.cases.length * (aK p).length) W (hb:Below w.heap.size w W)=>LY p _ _ W (GC.out.up up_case hb) (GS.out.up up_moves hb) h (by rcases hf h with h|h<;>omega));have qH:Hid (probE p≠0->buildE p=probE p):=aa fun h=>by unfold buildE;rw[if_pos h]
 have mK:Hid (probE p=0->4096<p.t.cases.length * (aK p).length->buildE p=17):=aa fun h h2=>by unfold buildE;rw[if_neg (by omega),if_pos h2]
 have Cn:Hid (probE p=0->¬ 4096<p.t.cases.length * (aK p).length->buildE p=0/\(aM p).tab.length<=8192):=aa fun h h2=>by
  have h3:=sr h (p.t.cases.length * (aK p).length) (Nat.le_refl _);have e:stP p (p.t.cases.length * (aK p).length)=((aM p).tab,(aM p).ex):=by unfold stP;rw[List.take_of_length_le (by rw[jg];exact Nat.le_refl _)];rfl
  rw[e]at h3;dsimp only at h3;have h4:(aM p).tab.length<=8192:=by rcases hf h with h|h<;>omega
  exact⟨by unfold buildE;rw[if_neg (by omega),if_neg h2,if_neg (by omega)],h4⟩
 have FG:=aa (fun h=>@Ca p h);have DY:=aa (fun e (W:World) h h0=>@UK p (.slice pc p.t.cases.length cc) (.slice ps p.a.states.length cs) w.heap.size W e h h0);have Ij:Hid (∀ vt ve W,buildE p=0->F8 p (.slice pc p.t.cases.length cc) (.slice ps p.a.states.length cs) vt ve w.heap.size W->Hm p (.slice pc p.t.cases.length cc) (.slice ps p.a.states.length cs) w.heap.size (.returned (.tuple #[.agg (bT p (.slice pc p.t.cases.length cc) (.slice ps p.a.states.length cs) p.t.n vt ve),.int .i64 0])) W):=aa fun vt ve W h0 h=>⟨_,by rw[h0],fun _=>⟨vt,ve,rfl,h⟩,fun h1=>absurd h0 h1⟩
 clear hc hs hf;have HSZ:=aa hN;clear hN;obtain⟨pe,hpe⟩:∃ pe,probE p=pe:=⟨_,rfl⟩;rw[hpe]at ox O5 I' qH mK Cn FG;obtain⟨nx,lQ⟩:∃ nx,p.t.cases.length * (aK p).length=nx:=⟨_,rfl⟩;rw[lQ]at I' mK Cn FG;clear hpe lQ;have H5:Hid ((∀ W,Below w.heap.size w W->bK W (.slice pc p.t.cases.length cc) p.t.cases)/\∀ W,Below w.heap.size w W->bh W (.slice ps p.a.states.length cs) p.a.states):=aa ⟨fun W hb=>GC.out.up up_case hb,fun W hb=>GS.out.up up_moves hb⟩;clear GC GS;generalize p.t.cases.length=nc,p.a.states.length=ns at ox O5 I' DY Ij H5 ⊢
 go_enter Tryz.func73,Tryz.ntmps73
 go_wp2_with fail
 refine aN (fun W=>Below w.heap.size w W/\W.heap[w.heap.size]?=some (.cells #[.int .i64 p.t.n,.int .i64 p.t.ins,.int .i64 p.t.outs,.slice pc nc cc,.int .i64 p.a.n,.slice ps ns cs,.int .i64 p.rounds] 29)/\W.heap[w.heap.size+1]?=some (.cells zeroSys 35)) ⟨by go_grown,ap _ (am _ _),bd _ _ _⟩ (fun W0 aV=>?_);obtain⟨aH,bB,gL⟩:=aV;refine(ox.out W0 aH).mono ?_;rintro r w1 ⟨rfl,aI⟩;have bF:=aa (ae aH aI);have du:=aa (af aI bB);have cZ:=aa (af aI gL);have fP:=aB cZ.out;have tA:=ab du.out;clear aH bB gL aI ox;by_cases hz:pe=0
 case neg=>
  have HV:=aa (DY.out pe (w1.setRow (w.heap.size+1) zeroSys) (qH.out hz) hz);have KC:(pe != 0)=true:=by simpa using hz
  clear hz qH mK Cn O5 I' FG Ij DY
  go_wp2_with (refine wpList_store_row rfl 35 (.tmp 2) (.tmp 10) rfl (w.heap.size+1) zeroSys rfl rfl 35 _ cZ.out (by kernel_rfl) rfl (by simp[Value.oneCell']) ?_)
  exact bodyPost_ret (oY _ (w.heap.size+1) _ _ _ _ _ _ _ _ _ _ _ pe rfl rfl (setRow_heap _ _ _ _ _ _ cZ.out)) rfl ⟨HV.out,below_setRow bF.out (by omega) _⟩
 have mV:=aa (O5.out hz);have Ph:=aa (FG.out hz);generalize numberP p=nn at mV Ph;clear O5 FG qH
 go_wp2_with fail
 refine(mV.out w1 bF.out).mono ?_;rintro r w2 ⟨rfl,aU⟩;have cL:=aa (ae bF.out aU);have pQ:=aa (af aU du.out);have dN:=aa (af aU cZ.out);have iI:=aB dN.out;clear aU tA du cZ;by_cases wc:4096<nx
 ·have hd:decide ((4096:Int)<nn)=true:=decide_eq_true (Ph.out.2 wc)
  have HV:=aa (DY.out 17 (w2.setRow (w.heap.size+1) zeroSys) (mK.out hz wc) (by omega));clear hz wc mK Cn I' Ij DY Ph
  go_wp2_with (refine wpList_store_row rfl 35 (.tmp 2) (.tmp 15) rfl (w.heap.size+1) zeroSys rfl rfl 35 _ dN.out (by kernel_rfl) rfl (by simp[Value.oneCell']) ?_)
  exact bodyPost_ret (oY _ (w.heap.size+1) _ _ _ _ _ _ _ _ _ _ _ 17 rfl rfl (setRow_heap _ _ _ _ _ _ dN.out)) rfl ⟨HV.out,below_setRow cL.out (by omega) _⟩
 have hd:decide ((4096:Int)<nn)=false:=decide_eq_false (fun h=>wc (Ph.out.1 h));have nO:=aa (I'.out hz wc);obtain⟨h0,Kw⟩:=Cn.out hz wc;have HZ:=aa h0;have tA:=ab pQ.out;clear hz wc mK Cn I' DY Ph h0
 go_wp2_with fail
 refine(nO.out w2 cL.out).mono ?_;rintro r w3 ⟨vt,ve,rfl,⟨⟨at3,ct3,rfl⟩,ave,cve,rfl⟩,cT,bC⟩;have yD:=aa cT;have eo:=aa (ae cL.out bC);have HB23:=aa bC;have fm:=aa (af bC dN.out);have II:=aa (fun W=>Ij.out (.slice at3 (aM p).tab.length ct3) (.slice ave (aM p).ex.length cve) W HZ.out);have P7:Hid (∀ Wf:World,_):=yD;obtain⟨nt,IG⟩:∃ nt,(aM p).tab.length=nt:=⟨_,rfl⟩;obtain⟨ne,bJ⟩:∃ ne,(aM p).ex.length=ne:=⟨_,rfl⟩;have I0:=aa IG;have gJ:=aa bJ;rw[IG]at Kw yD II P7 ⊢;rw[bJ]at yD II P7 ⊢;have hd8:decide ((8192:Int)<(nt:Int))=false:=decide_eq_false (by omega);have mR:=aB fm.out;have H6:=bC.size;clear cT bC tA IG bJ Ij hd P7;have te:=ab (am w3 (.cells #[.int .i64 p.t.n,.int .i64 p.t.ins,.int .i64 p.t.outs,.slice pc nc cc,.int .i64 p.a.n,.slice ps ns cs,.int .i64 p.rounds,.int .i64 p.t.n,.slice at3 nt ct3,.slice ave ne cve] 35));have rG:Below w3.heap.size w3 (w3.alloc (.cells #[.int .i64 p.t.n,.int .i64 p.t.ins,.int .i64 p.t.outs,.slice pc nc cc,.int .i64 p.a.n,.slice ps ns cs,.int .i64 p.rounds,.int .i64 p.t.n,.slice at3 nt ct3,.slice ave ne cve] 35)):=by go_grown
 have Ch:=aa rG;have sL:=aa (af rG fm.out);clear rG
 go_wp2_with (refine wpList_store_row rfl 35 (.tmp 2) (.tmp 24) rfl (w.heap.size+1) #[.int .i64 p.t.n,.int .i64 p.t.ins,.int .i64 p.t.outs,.slice pc nc cc,.int .i64 p.a.n,.slice ps ns cs,.int .i64 p.rounds,.int .i64 p.t.n,.slice at3 nt ct3,.slice ave ne cve] rfl rfl 35 _ sL.out (by kernel_rfl) rfl (by simp[Value.oneCell']) ?_)
 refine bodyPost_ret (oY _ (w.heap.size+1) _ _ _ _ _ _ _ _ _ _ _ 0 rfl rfl (setRow_heap _ _ _ _ _ _ sL.out)) rfl ⟨II.out _ ⟨⟨⟨at3,ct3,by rw[I0.out]⟩,ave,cve,by rw[gJ.out]⟩,fun Wf Iz h1 h2=>yD.out Wf (fun k hk n8=>?_) h1 h2⟩,below_setRow (ae eo.out Ch.out) (by omega) _⟩;refine(Iz k (by omega) ?_).trans ?_
 ·exact Nat.lt_of_lt_of_le n8 (Nat.le_trans Ch.out.size (below_setRow (Below.refl (w.heap.size+1) _) (Nat.le_refl _) _).size)
 ·rw[setRow_other _ _ _ _ (by omega)]
  exact Ch.out.block k n8
theorem Hn(s:Sys) (h:buildE s.prob=0):verifyE s=if decide ((s.n=(aM s.prob).n/\s.tab=(aM s.prob).tab)/\s.ex=(aM s.prob).ex) then 0 else 3:=by
 unfold verifyE;rw[if_neg (by omega)];simp only[and_assoc,decide_eq_true_eq]
theorem DI(s:Sys) (vc vs vt ve:Value) (w:World) (cT:IsSys w s vc vs vt ve) (hN:movesN s.prob.a.states<2305843009213693952) (hf:tV s.prob) :
  Calls Tryz.prog 63 #[.agg (bT s.prob vc vs s.n vt ve)] w fun r w'=>r=.returned (.int .i64 (verifyE s))/\Below w.heap.size w w':=by
 have HS:=aa cT;obtain⟨⟨qc,kc,rfl⟩,⟨qs,ks,rfl⟩,⟨qt,kt,rfl⟩,⟨qe,ke,rfl⟩⟩:=bE cT;have wU:=aa (fun W (hb:Below w.heap.size w W)=>Cb s.prob _ _ W (HS.out.cases.up up_case hb) (HS.out.states.up up_moves hb) hN hf);have lU:=aa (fun W (hb:Below w.heap.size w W) uc us ut ue (hz:IsSys W (aM s.prob) uc us ut ue)=>Md s (aM s.prob) rfl _ _ _ _ uc us ut ue W (HS.out.up hb) hz);have nV:Hid (buildE s.prob≠0->verifyE s=buildE s.prob):=aa fun h=>by unfold verifyE;rw[if_pos h]
 have cV:=aa (Hn s);generalize verifyE s=vr at nV cV ⊢;generalize decide ((s.n=(aM s.prob).n/\s.tab=(aM s.prob).tab)/\s.ex=(aM s.prob).ex)=sb at lU cV;have FJ:(aM s.prob).n=s.prob.t.n:=rfl;unfold Hm at wU;rw[FJ]at lU;have pO:Hid (∀ W uc us ut ue,IsSys W (aM s.prob) uc us ut ue->(∃ a c,uc=.slice a s.prob.t.cases.length c)/\(∃ a c,us=.slice a s.prob.a.states.length c)/\(∃ a c,ut=.slice a (aM s.prob).tab.length c)/\∃ a c,ue=.slice a (aM s.prob).ex.length c):=aa fun W uc us ut ue h=>bE h
 clear cT hN hf FJ;obtain⟨be,lR⟩:∃ be,buildE s.prob=be:=⟨_,rfl⟩;rw[lR]at wU nV cV;clear lR;obtain⟨nc,jO⟩:∃ nc,s.prob.t.cases.length=nc:=⟨_,rfl⟩;obtain⟨ns,uS⟩:∃ ns,s.prob.a.states.length=ns:=⟨_,rfl⟩;have H5:Hid ((∀ W,Below w.heap.size w W->bK W (.slice qc s.prob.t.cases.length kc) s.prob.t.cases)/\∀ W,Below w.heap.size w W->bh W (.slice qs s.prob.a.states.length ks) s.prob.a.states):=aa ⟨fun W hb=>HS.out.cases.up up_case hb,fun W hb=>HS.out.states.up up_moves hb⟩;rw[jO,uS]at wU lU pO H5 ⊢;clear jO uS;generalize s.tab.length=nt,s.ex.length=ne at lU ⊢
 go_enter Tryz.func63,Tryz.ntmps63
 go_wp2_with fail
 refine aN (fun W=>Below w.heap.size w W/\∃ c,W.heap[w.heap.size]?=some (.cells c 35)/\c=bT s.prob (.slice qc nc kc) (.slice qs ns ks) s.n (.slice qt nt kt) (.slice qe ne ke)) ⟨by go_grown,_,am _ _,rfl⟩ (fun W0 aV=>?_);obtain⟨aH,_,bB,rfl⟩:=aV;refine(wU.out W0 aH).mono ?_;rintro r w1 ⟨⟨c,rfl,h1,h2⟩,aI⟩;have bF:=aa (ae aH aI);have du:=aa (af aI bB);clear aH bB aI wU;by_cases hz:be=0
 case neg=>
  have HV:=aa (nV.out hz);obtain rfl:=h2 hz;have KC:(be != 0)=true:=by simpa using hz
  have hg:Below w.heap.size w (w1.alloc (.cells zeroSys 35)):=bF.out.alloc bF.out.size _;have HG:=aa hg;clear hz h1 h2 cV lU hg
  go_wp2_with fail
  go_ret
  exact⟨aD HV.out.symm,HG.out⟩
 obtain⟨ut,ue,rfl,⟨⟨a3,c3,rfl⟩,a4,c4,rfl⟩,mA⟩:=h1 hz;have eT:=mA w1 (fun _ _ _=>rfl) (H5.out.1 w1 bF.out) (H5.out.2 w1 bF.out);have HZ:=aa eT;have Ag:=aa (cV.out hz);subst hz;obtain⟨mt,hmt⟩:∃ mt,(aM s.prob).tab.length=mt:=⟨_,rfl⟩;obtain⟨me,PS⟩:∃ me,(aM s.prob).ex.length=me:=⟨_,rfl⟩;rw[hmt,PS]at HZ ⊢;clear h1 h2 eT mA nV cV pO hmt PS;have hg:Below w1.heap.size w1 (w1.alloc (.cells #[.int .i64 s.prob.t.n,.int .i64 s.prob.t.ins,.int .i64 s.prob.t.outs,.slice qc nc kc,.int .i64 s.prob.a.n,.slice qs ns ks,.int .i64 s.prob.rounds,.int .i64 s.prob.t.n,.slice a3 mt c3,.slice a4 me c4] 35)):=by go_grown
 have HG:=aa hg;have tA:=ab (af hg du.out);have tB:=ab (am w1 (.cells #[.int .i64 s.prob.t.n,.int .i64 s.prob.t.ins,.int .i64 s.prob.t.outs,.slice qc nc kc,.int .i64 s.prob.a.n,.slice qs ns ks,.int .i64 s.prob.rounds,.int .i64 s.prob.t.n,.slice a3 mt c3,.slice a4 me c4] 35));clear hg
 go_wp2_with fail
 refine(lU.out _ (ae bF.out HG.out) _ _ _ _ (HZ.out.up HG.out)).mono ?_;rintro r w2 ⟨rfl,aU⟩;have cL:=aa (ae (ae bF.out HG.out) aU);clear aU tA tB lU;cases sb with
 | true=>
  go_wp2_with fail
  go_ret
  exact⟨aD (by rw[Ag.out];rfl),cL.out⟩
 | false=>
  go_wp2_with fail
  go_ret
  exact⟨aD (by rw[Ag.out];rfl),cL.out⟩
theorem DJ(tmps:Array Value) (B:Nat) (W:World) (c0 c1 c2 c3 c4 c5 c6 c7 c8 c9:Value) (h2:tmps[2]?.getD undef=.pointer (some ⟨B,0,none⟩))
  (hB:W.heap[B]?=some (.cells #[c0,c1,c2,c3,c4,c5,c6,c7,c8,c9] 35)) :
  (results Tryz.f35 tmps).run Tryz.prog W=.ok (.agg #[c0,c1,c2,c3,c4,c5,c6,c7,c8,c9]) W:=by
 have t2:=ab hB;simp[results,Tryz.results35,go_sem,h2,t2]
theorem Me(p:Pb) (vc vs:Value) (w:World) (hc:bK w vc p.t.cases) (hs:bh w vs p.a.states) (hN:movesN p.a.states<2305843009213693952) (hf:tV p) (h0:buildE p=0) :
  Calls Tryz.prog 35 #[qp p vc vs] w fun r w'=>∃ vt ve,r=.returned (.agg (bT p vc vs p.t.n vt ve))/\F8 p vc vs vt ve w.heap.size w'/\Below w.heap.size w w':=by
 have GC:=aa hc;have GS:=aa hs;obtain⟨pc,cc,rfl,_⟩:=hc.at;obtain⟨ps,cs,rfl,_⟩:=hs.at;have wU:=aa (fun W (hb:Below w.heap.size w W)=>Cb p _ _ W (GC.out.up up_case hb) (GS.out.up up_moves hb) hN hf);have H5:Hid ((∀ W,Below w.heap.size w W->bK W (.slice pc p.t.cases.length cc) p.t.cases)/\∀ W,Below w.heap.size w W->bh W (.slice ps p.a.states.length cs) p.a.states):=aa ⟨fun W hb=>GC.out.up up_case hb,fun W hb=>GS.out.up up_moves hb⟩;unfold Hm at wU;rw[h0]at wU;clear hc hs hN hf h0 GC GS;unfold F8 at wU ⊢;obtain⟨nc,jO⟩:∃ nc,p.t.cases.length=nc:=⟨_,rfl⟩;obtain⟨ns,uS⟩:∃ ns,p.a.states.length=ns:=⟨_,rfl⟩;rw[jO,uS]at wU H5 ⊢;clear jO uS
 go_enter Tryz.func35,Tryz.ntmps35
 go_wp2_with fail
 refine aN (fun W=>Below w.heap.size w W/\W.heap[w.heap.size+1]?=some (.cells zeroSys 35)) ⟨by go_grown,bd _ _ _⟩ (fun W0 aV=>?_);obtain⟨aH,gL⟩:=aV;refine(wU.out W0 aH).mono ?_;rintro r w1 ⟨⟨c,rfl,h1,_⟩,aI⟩;obtain⟨vt,ve,rfl,⟨⟨at3,ct3,rfl⟩,ave,cve,rfl⟩,cT⟩:=h1 (by first|rfl|trivial);have yD:=aa cT;have bF:=aa (ae aH aI);have cZ:=aa (af aI gL);have eT:=aB gL;obtain⟨nt,IG⟩:∃ nt,(aM p).tab.length=nt:=⟨_,rfl⟩;obtain⟨ne,bJ⟩:∃ ne,(aM p).ex.length=ne:=⟨_,rfl⟩;have I0:=aa IG;have gJ:=aa bJ;rw[IG,bJ]at yD ⊢;have fP:=aB cZ.out;clear cT h1 aH aI gL IG bJ wU;have te:=ab (am w1 (.cells #[.int .i64 p.t.n,.int .i64 p.t.ins,.int .i64 p.t.outs,.slice pc nc cc,.int .i64 p.a.n,.slice ps ns cs,.int .i64 p.rounds,.int .i64 p.t.n,.slice at3 nt ct3,.slice ave ne cve] 35));have rG:Below w1.heap.size w1 (w1.alloc (.cells #[.int .i64 p.t.n,.int .i64 p.t.ins,.int .i64 p.t.outs,.slice pc nc cc,.int .i64 p.a.n,.slice ps ns cs,.int .i64 p.rounds,.int .i64 p.t.n,.slice at3 nt ct3,.slice ave ne cve] 35)):=by go_grown
 have Ch:=aa rG;have sL:=aa (af rG cZ.out);clear rG
 go_wp2_with (refine wpList_store_row rfl 35 (.tmp 2) (.tmp 10) rfl (w.heap.size+1) #[.int .i64 p.t.n,.int .i64 p.t.ins,.int .i64 p.t.outs,.slice pc nc cc,.int .i64 p.a.n,.slice ps ns cs,.int .i64 p.rounds,.int .i64 p.t.n,.slice at3 nt ct3,.slice ave ne cve] rfl rfl 35 _ sL.out (by kernel_rfl) rfl (by simp[Value.oneCell']) ?_)
 refine bodyPost_ret (DJ _ (w.heap.size+1) _ _ _ _ _ _ _ _ _ _ _ rfl (setRow_heap _ _ _ _ _ _ sL.out)) rfl ⟨.slice at3 nt ct3,.slice ave ne cve,rfl,⟨⟨⟨at3,ct3,by rw[I0.out]⟩,ave,cve,by rw[gJ.out]⟩,fun Wf Iz h1 h2=>yD.out Wf (fun k hk n8=>?_) h1 h2⟩,below_setRow (ae bF.out Ch.out) (by omega) _⟩;refine(Iz k (by omega) (Nat.lt_of_lt_of_le n8 (Nat.le_trans Ch.out.size (below_setRow (Below.refl (w.heap.size+1) _) (Nat.le_refl _) _).size))).trans ?_;rw[setRow_other _ _ _ _ (by omega)];exact Ch.out.block k n8
theorem EK{W:World} {B:Nat} {now:List Int} {n:Nat} (hl:now.length=n) (hn:n<=65536) (h:W.heap[B]?=some (.cells (bu now) 3)) (hr:∀ x∈now,bM x):aT W (.slice (some ⟨B,0,none⟩) n n) now:=by
 subst hl;refine⟨some ⟨B,0,none⟩,now.length,rfl,⟨Nat.le_refl _,by omega,fun e=>by cases e⟩,by omega,fun i x hx=>⟨B,0,rfl,?_⟩⟩;obtain⟨hi,rfl⟩:=List.getElem?_eq_some_iff.1 hx;refine⟨?_,hr _ (List.getElem_mem hi)⟩;rw[ab h,Nat.zero_add,Nat.mul_one];simp[bu,hi]
theorem UL{s:Sys} (hv:verifyE s=0):0<s.tab.length:=by
 have hs:=jc hv;have h1:=lq hs (zc hv) (p:=0) hs.n.1;omega
theorem pB(s:Sys) (e:Nat) (out:List Int):∀ p,(gd s e out p).length=out.length
 | 0=>rfl
 | p+1=>by
  rw[gd];split
  ·exact pB s e out p
  ·rw[List.length_set];exact pB s e out p
theorem vX(s:Sys):∀ e,(fI s e).length=s.tab.length
 | 0=>by simp[fI]
 | e+1=>by rw[fI,pB,vX s e]
theorem UM{s:Sys} (ho:oS s<=8):(∀ e,e<=eS s->∀ x∈fI s e,bM x):=by
 have hp:∀ e,e<eS s->∀ out:List Int,(∀ x∈out,bM x)->∀ p,∀ x∈gd s e out p,bM x:=by
  intro e he out uM p;induction p with
  | zero=>exact uM
  | succ p ih=>
   rw[gd];split
   ·exact ih
   ·intro x hx
    rcases List.mem_or_eq_of_mem_set hx with h|h
    ·exact ih x h
    ·rw[h]
     unfold choiceS;rw[ny he];exact uH s _ ho
 intro e;induction e with
 | zero=>intro _ x hx;rw[fI]at hx;rw[List.eq_of_mem_replicate hx];exact⟨by decide,by decide⟩
 | succ e ih=>intro he;rw[fI];exact hp e (by omega) _ (ih (by omega)) _
theorem zU{s:Sys} (h0:0<eS s) (k:Nat) (hk:k<=nu s):∃ e,e<eS s/\(partsS s).getD e 0=k:=by
 obtain⟨i,hi,e⟩:=AW (partsS s) ((partsS s).length - 1);rw[dJ]at hi;have h1:=(B5 h0).1;rw[e]at h1;by_cases h2:k=nu s
 ·exact⟨i,by omega,by rw[h1,h2]⟩
 ·obtain⟨j,hj,h3⟩:=vF (vT s (nS s - 1)) i (by rw[gB];omega) (k:Int) (by omega) (by have h4:(dQ s (nS s - 1)).getD i 0=(nu s:Int):=h1;omega)
  exact⟨j,by omega,h3⟩
theorem OR{s:Sys} (h0:0<eS s):(iO s).contains (-1)=true↔-1∈choiceS s:=by
 rw[List.contains_iff_mem];unfold iO kw choiceS;simp only[List.mem_map,List.mem_range];constructor
 ·rintro⟨k,hk,h1⟩
  obtain⟨e,he,h2⟩:=zU h0 k (by omega);exact⟨e,he,by rw[h2];exact h1⟩
 ·rintro⟨e,he,h1⟩
  have h2:=pN h0 e he;have h3:=(ku s e he).1;exact⟨((partsS s).getD e 0).toNat,by omega,by rw[show ((((partsS s).getD e 0).toNat:Nat):Int)=(partsS s).getD e 0 by omega];exact h1⟩
def Mf(u:Value) (ok:Bool) (e:Int):Value:=.tuple #[.agg #[u],.bool ok,.int .i64 e]
theorem ri(tmps:Array Value) (B:Nat) (W:World) (u:Value) (ok:Bool) (e:Int) (h2:tmps[2]?.getD undef=.pointer (some ⟨B,0,none⟩)) (h3:tmps[3]?.getD undef=.bool ok) (h4:tmps[4]?.getD undef=.int .i64 e)
  (hB:W.heap[B]?=some (.cells #[u] 49)):(results Tryz.f16 tmps).run Tryz.prog W=.ok (Mf u ok e) W:=by
 have t2:=ab hB 0;simp at t2;simp[results,Tryz.results16,go_sem,h2,h3,h4,t2,Mf]
theorem OS(s:Sys) (hE:eS s<=256) (vc vs vt ve:Value) (w:World) (hT:ij w) (hs:IsSys w s vc vs vt ve) (hN:movesN s.prob.a.states<1099511627776) :
  Calls Tryz.prog 16 #[.agg (bT s.prob vc vs s.n vt ve)] w fun r w'=>∃ u,r=.returned (Mf u (ruleR s).2.1 (ruleR s).2.2)/\aT w' u (ruleR s).1/\Below w.heap.size w w':=by
 have HS:=aa hs;have HT:=aa hT;obtain⟨⟨pc,cc,rfl⟩,⟨ps,cs,rfl⟩,⟨pt,ct,rfl⟩,⟨pe,ce,rfl⟩⟩:=bE hs;clear hs hT;have HC:=aa (fun W (hb:Below w.heap.size w W)=>nr s hE _ _ _ _ W (HS.out.up hb) hN)
 have oE:Hid (readyE s=0->verifyE s=0):=aa fun h=>by
  unfold readyE at h;split at h
  ·rename_i h1;exact absurd h h1
  ·omega
 have cZ:Hid (readyE s≠0->ruleR s=([],false,readyE s)):=aa fun h=>by unfold ruleR;rw[if_pos h]
 have dN:Hid (readyE s=0->-1∈choiceS s->ruleR s=([],false,0)):=aa fun h h2=>by unfold ruleR;rw[if_neg (by omega),if_pos h2]
 have fm:Hid (readyE s=0->¬ -1∈choiceS s->ruleR s=(fI s (eS s),true,0)):=aa fun h h2=>by unfold ruleR;rw[if_neg (by omega),if_neg h2]
 generalize ruleR s=vr at cZ dN fm ⊢;obtain⟨re,pS⟩:∃ re,readyE s=re:=⟨_,rfl⟩;rw[pS]at cZ dN fm HC oE;clear pS
 go_enter Tryz.func16,Tryz.ntmps16
 go_wp2_with fail
 refine aN (fun W=>Below w.heap.size w W/\W.heap[w.heap.size+1]?=some (.cells #[.slice none 0 0] 49)/\∃ c,W.heap[w.heap.size]?=some (.cells c 35)/\c=bT s.prob (.slice pc s.prob.t.cases.length cc) (.slice ps s.prob.a.states.length cs) s.n (.slice pt s.tab.length ct) (.slice pe s.ex.length ce)) ⟨by go_grown,bd _ _ _,_,ap _ (am _ _),rfl⟩ (fun W0 aV=>?_);obtain⟨aH,gR,_,bB,rfl⟩:=aV;refine(HC.out W0 aH).mono ?_;rintro e w1 ⟨v,rfl,aI,h2,h3⟩;have bF:=aa (ae aH aI);have gp:=aa (af aI gR);have du:=aa (af aI bB);have fP:=aB gp.out;by_cases hr:re=0
 case neg=>
  have HV:=aa (cZ.out hr);obtain rfl:=h2 hr;have E7:(re != 0)=true:=by simpa using hr
  have to:=ab gp.out 0;have zo:=aE gp.out 0;simp at to;clear aH aI h2 h3 hr HC gR bB
  go_wp2_with fail
  exact bodyPost_ret (ri _ (w.heap.size+1) _ (.slice none 0 0) false re rfl rfl rfl (aF gp.out 0 _)) rfl ⟨_,by rw[HV.out],by rw[HV.out];exact jo _,bF.out.setCell (by dsimp only;omega) _⟩
 obtain⟨B,rfl,hB,fK⟩:=h3 hr;have kh:=aa fK;have cV:=aa (dN.out hr);have rz:=aa (fm.out hr);have sU:=aa (oE.out hr);have dB:=aa (jc sU.out);have HP:=aa (zc sU.out);subst hr;clear aH aI h2 h3 HC fK gR bB
 go_wp2_with fail
 refine(tU s dB.out HP.out hE B w1 kh.out (HT.out.up bF.out)).mono ?_;rintro e w2 ⟨u,rfl,hu,aU⟩;have HU:=aa hu;have cL:=aa (ae bF.out aU);have eE:=aa (af aU gp.out);have pQ:=aa (af aU du.out);have Ig:=aa (kh.out.up aU);obtain⟨pu,cu,rfl,eu⟩:=dO hu;have EU:=aa eu;obtain⟨cn,CU⟩:∃ cn,(iO s).length=cn:=⟨_,rfl⟩;rw[CU]at EU HU ⊢;have HCN:=aa CU;clear hu aU eu CU kh gp du
 go_wp2_with fail
 refine(AP _ (iO s) (-1) w2 HU.out).mono ?_;rintro e w3 ⟨rfl,bC⟩;have eo:=aa (ae cL.out bC);have HB23:=aa bC;have lu:=aa (af bC eE.out);have xY:=aa (af bC pQ.out);have St:=aa (Ig.out.up bC);have Az:=aa (HU.out.up up_int bC);have Wp:=aa (OR HP.out);cases TQ:(iO s).contains (-1) with
 | true=>
  have HV:=aa (cV.out (Wp.out.1 TQ));have to:=ab lu.out 0;have zo:=aE lu.out 0;simp at to;clear TQ bC
  go_wp2_with fail
  exact bodyPost_ret (ri _ (w.heap.size+1) _ (.slice none 0 0) false 0 rfl rfl rfl (aF lu.out 0 _)) rfl ⟨_,by rw[HV.out],by rw[HV.out];exact jo _,eo.out.setCell (by dsimp only;omega) _⟩
 | false=>
  have HV:=aa (rz.out (fun h=>by have:=Wp.out.2 h;rw[TQ]at this;cases this));clear TQ bC Ig eE pQ cL HU;have tA:∀ o' j,(w3.alloc o').cell? ⟨w.heap.size,j,none⟩=_:=fun o' j=>ab (ap o' xY.out) j
  have htp:=UL sU.out;have PT:=dB.out.tab;have A8:Hid (∀ n:Nat,fC n (fun _=>(-1:Int)) n=bu (List.replicate n (-1))):=aa fun n=>by rw[pK];simp[List.map_const']
  go_wp2_with fail
  refine(vO (-1) s.tab.length htp PT w3.heap.size _ (am _ _)).mono ?_;rintro e w4 ⟨rfl,CJ,bQ⟩;have hb34:Below w3.heap.size w3 w4:=ae (by go_grown) bQ;have hRl:=aB CJ;rw[show (w3.alloc (.cells #[.int .i64 (-1)] 3)).heap.size=w3.heap.size+1 by simp]at CJ hRl ⊢;obtain⟨R,hR⟩:∃ R,w3.heap.size+1=R:=⟨_,rfl⟩;rw[hR]at CJ hRl ⊢;have C5:w3.heap.size<R:=by omega
  have hR4':w4.heap[R]?=some (.cells (bu (fI s 0)) 3):=by rw[CJ];unfold xC;rw[A8.out];rfl
  have sL:=aa hR4';have HB34:=aa hb34;have tA4:=ab (af hb34 xY.out);clear bQ hR CJ hR4' tA A8;have E0:=aa HS.out.ex;have HK:Hid (∀ k,k<eS s->_):=aa (fun k (hk:k<eS s)=>it dB.out E0.out hk);obtain⟨qc,qs,qt,qe,qv,ql,q1,_,_,q2⟩:=St.out.ex;obtain⟨pl,cl,rfl,el⟩:=dO q2;rw[dJ]at el q1;have EL:=aa el;have Lb:Hid (w3.cell? ⟨B,11,none⟩=some (.slice pl (eS s) cl)):=aa ((ab q1 11).trans rfl);have HBR3:=aa (aB q1);have kT:Hid (∀ k,k<eS s->0<=(partsS s).getD k 0/\((partsS s).getD k 0).toNat<(iO s).length/\(iO s).getD ((partsS s).getD k 0).toNat 0=(choiceS s).getD k 0):=aa fun k hk=>⟨(ku s k hk).1,by have:=pN HP.out k hk;rw[show (iO s).length=nu s+1 by simp[iO,kw]];omega,OJ HP.out k hk⟩
  have HFN:Hid (∀ k p,k<eS s->p<nS s->0<=finS s k p/\finS s k p<s.tab.length):=aa fun k p hk hp=>lq dB.out hk hp
  have iS:Hid (∀ x∈fI s (eS s),bM x):=aa (UM dB.out.outs.2.1 _ (Nat.le_refl _));have VK:Hid (∀ k,(fI s k).length=s.tab.length):=aa (vX s);have HRP:Hid (∀ k p,(gd s k (fI s k) p).length=s.tab.length):=aa fun k p=>by rw[pB,vX]
  have P3:=aa (fun k (hk:k<eS s) W (hb:Below w.heap.size w W)=>Q7 s sU.out k hk _ _ _ _ W (HS.out.up hb) hN);have jF:s.ex.length=eS s:=rfl;rw[jF]at tA4 xY P3 E0;obtain⟨m,hm⟩:∃ m,eS s=m:=⟨_,rfl⟩;have HM:=aa hm;have ji:=dB.out.n.2.1;have pR:=dB.out.rounds.2;obtain⟨rr,Cx⟩:∃ rr:Nat,s.prob.rounds=rr:=⟨s.prob.rounds.toNat,by have:=dB.out.rounds.1;omega⟩;have Lc:=aa Cx;have E5:s.prob.rounds.toNat=rr:=by omega
  rw[E5]at HK;clear E5;rw[hm]at hE HK EL Lb kT HFN iS P3 tA4 xY;clear jF q1 q2 el hm Cx
  go_wp2_with fail
  clear tA4
  go_loopw [38] (fun i wr=>∃ k:Nat,k<=m/\i=.int .i64 k/\Below w3.heap.size w3 wr/\wr.heap[R]?=some (.cells (bu (fI s k)) 3)) (fun i _=>m - (intOf i).toNat)
  case atStart=>exact⟨0,by omega,rfl,HB34.out,sL.out⟩
  case round=>
   clear sL HB34;obtain⟨k,hk,rfl,ar,hR⟩:=hrel;have aP:=aa ar;have Fk:=aa hR;have eD:=aa (ae eo.out ar);have Xg:=aa (af ar xY.out);have hRl2:=aB hR;by_cases aA:k<m
   ·obtain⟨b,o,_,ce',e0,rfl,pw,nw,cw,pv,cv,c1,c2,c3,-,-,-,b2,o2,pr,cr,rfl,c4,bW⟩:=HK.out k aA
    injection e0 with e01 e02 e03
    subst e01;clear e02 e03;obtain⟨pr2,cr2,e4,erow⟩:=dO bW;injection e4 with e41 e42 e43
    subst e41 e43;clear e42
    have jZ:Hid (∀ p,p<nS s->∃ b o,pr=some ⟨b,o,none⟩/\w.cell? ⟨b,o+p,none⟩=some (.int .i64 (finS s k p))):=aa (fun p hp=>by
     obtain⟨b,o,e1,h1⟩:=erow p (by simpa using hp);rw[ny hp]at h1
     exact⟨b,o,e1,h1⟩)
    have d1:=ak eD.out c1;have d2:=ak eD.out c2;have d3:=ak eD.out c3;have WP:=aa c4;have tA:∀ o' j,(wr.alloc o').cell? ⟨w.heap.size,j,none⟩=_:=fun o' j=>ab (ap o' Xg.out) j
    clear ar hR c1 c2 c3 c4 bW erow
    go_wp2_with fail
    clear tA d1 d2 d3;refine aN (fun W=>Below wr.heap.size wr W/\W.heap[wr.heap.size]?=some (.cells #[.int .i64 (cA s k).c,.slice pw nw cw,.slice (some ⟨b2,o2,none⟩) (rr+1) cv] 89)) ⟨by go_grown,am _ _⟩ (fun W5 hW5=>?_);obtain⟨dx,hX5⟩:=hW5;refine(P3.out k aA W5 (ae eD.out dx)).mono ?_;rintro r w5 ⟨rfl,gK⟩;have pf:=ae dx gK;have tX:=ab (af gK hX5);have tA5:w5.cell? ⟨w.heap.size,6,none⟩=some (.int .i64 rr):=(ab (af pf Xg.out) 6).trans (by rw[<-Lc.out];rfl);have tv:=ak (ae eD.out pf) WP.out;have lY:=aa (ae aP.out pf);have wK:=aa (af pf Fk.out);obtain⟨wrA,kG⟩:∃ x,x=wr:=⟨_,rfl⟩;subst kG;obtain⟨g,hg⟩:∃ g,wrA.heap.size=g:=⟨_,rfl⟩;rw[hg]at tX ⊢;clear dx gK hX5 pf hg
    go_wp2_with fail
    clear tX tA5 tv
    go_loopw [61] (fun i wr=>∃ p:Nat,p<=nS s/\i=.int .i64 p/\Below w3.heap.size w3 wr/\wr.heap[R]?=some (.cells (bu (gd s k (fI s k) p)) 3)) (fun i _=>nS s - (intOf i).toNat)
    case atStart=>exact⟨0,by omega,rfl,lY.out,wK.out⟩
    case round=>
     clear lY wK;obtain⟨p,hp,rfl,ar,hR⟩:=hrel;have eC:=aa ar;have AD:=aa hR;by_cases Fp:p<nS s
     ·obtain⟨b3,o3,rfl,c6⟩:=jZ.out p Fp
      obtain⟨z0,z1⟩:=HFN.out k p aA Fp;obtain⟨z,hz⟩:∃ z:Nat,finS s k p=z:=⟨(finS s k p).toNat,by omega⟩;rw[hz]at c6 z1;have HZ:=aa hz;have d6:=ak (ae eo.out ar) c6;have gw:=qJ ((oblM s k:Nat):Int) p;have If:hasB ((oblM s k:Nat):Int) p=!hasB (fltS s k) p:=by unfold oblM;rw[mF,decide_eq_true Fp,Bool.true_and]
      rw[If]at gw;have hp30:p<=30:=by omega
      have zt:z<s.tab.length:=by omega
      have HRL2:=aa (HRP.out k p);clear c6 z0 z1 hz If;cases hb:hasB (fltS s k) p with
      | true=>
       have ge:Hid (gd s k (fI s k) (p+1)=gd s k (fI s k) p):=aa (by rw[gd,if_pos hb]);rw[hb]at gw;clear hb ar hR
       go_wp2_with fail
       go_roundw
       case rel=>exact⟨p+1,by omega,by go_num,eC.out,by rw[ge.out];exact AD.out⟩
       case measure=>simp[intOf];omega
      | false=>
       have ge:Hid (gd s k (fI s k) (p+1)=(gd s k (fI s k) p).set z ((choiceS s).getD k 0)):=aa (by rw[gd,if_neg (by rw[hb];simp),HZ.out,Int.toNat_natCast]);rw[hb]at gw;obtain⟨g1,g2,g3⟩:=kT.out k aA;obtain⟨n,hn⟩:∃ n:Nat,(partsS s).getD k 0=n:=⟨((partsS s).getD k 0).toNat,by omega⟩;rw[hn,Int.toNat_natCast,HCN.out]at g2;rw[hn,Int.toNat_natCast]at g3;obtain⟨b4,o4,rfl,c7⟩:=EL.out k aA;rw[hn]at c7;have d7:=ak ar c7;obtain⟨b5,o5,rfl,c8⟩:=EU.out n g2;rw[g3]at c8;have d8:=ak (ae HB23.out ar) c8;have tl:=ak ar Lb.out;have tR:=ab hR z;rw[fX _ _ (by rw[HRL2.out];exact zt)]at tR;have zR:=aE hR z;generalize (choiceS s).getD k 0=x at d8 ge;generalize (gd s k (fI s k) p).getD z 0=y at tR;clear hb ar hR g1 g3 hn c7 c8
       go_wp2_with fail
       go_roundw
       case rel=>exact⟨p+1,by omega,by go_num,eC.out.setCell (by dsimp only;omega) _,by rw[aF AD.out,lO,ge.out]⟩
       case measure=>simp[intOf];omega
     ·obtain rfl:p=nS s:=by omega
      clear ar hR
      go_wp2_with fail
      go_roundw
      case rel=>exact⟨k+1,by omega,by go_num,eC.out,AD.out⟩
      case measure=>simp[intOf];omega
   ·obtain rfl:k=m:=by omega
    have to:=ab (af ar lu.out) 0;have zo:=aE (af ar lu.out) 0;simp at to;have O9:=aa (af ar lu.out);clear ar hR
    go_wp2_with fail
    refine bodyPost_ret (ri _ (w.heap.size+1) _ (.slice (some ⟨R,0,none⟩) s.tab.length s.tab.length) true 0 rfl rfl rfl (aF O9.out 0 _)) rfl ⟨_,by rw[HV.out],?_,eD.out.setCell (by dsimp only;omega) _⟩;rw[HV.out,HM.out];exact EK (VK.out k) (by omega) (aJ Fk.out (by have:=aB lu.out;omega) _ _) iS.out
end Go.Proofs.YtmeaoneaephjeaaGreatDoor
