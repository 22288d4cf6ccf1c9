/-
  A part of the proof: lemmas and contracts that the parts behind it use. Each one's conditions are its own premises.
-/
import Derived.Test.YtkfgpnbpcpdclaaGreatJ10
set_option maxRecDepth 100000
set_option maxHeartbeats 8000000
set_option linter.unusedVariables false
namespace Go.Proofs.YtkfgpnbpcpdclaaGreat
open Go.RowKit Go Go.Shelf
def QT(e:Ending):Prop:=∃ b,e=.returned (.bool b)
theorem xo(b:Bool):QT (.returned (.bool b)):=⟨b,rfl⟩
theorem L1(m:Mac) (vf vy vt vo:Value) (w:World) (hf:bF w vf m.first) (hy:eZ w vy m.syms) (ht:dh w vt m.steps) (ho:fj w vo m.out) :
  Calls Tryz.prog 58 #[.agg (bX m vf vy vt vo)] w fun e w'=>(∃ x,e=.returned (.int .i64 x))/\Below w.heap.size w w':=by
 obtain⟨pf,cf,rfl,_⟩:=hf.at;obtain⟨py,cy,rfl,_⟩:=hy.at;obtain⟨pt,ct,rfl,_⟩:=ht.at;obtain⟨po,co,rfl,lo1,lo2,eo⟩:=ho.at;have EO:=aa eo;clear hf hy ht ho eo
 go_enter Tryz.func58,Tryz.ntmps58
 go_wp2
 refine bw (fun W=>Below w.heap.size w W/\W.heap[w.heap.size]?=some (.cells (bX m (.slice pf m.first.length cf) (.slice py m.syms.length cy) (.slice pt m.steps.length ct) (.slice po m.out.length co)) 35)) ⟨by go_grown,ar _ _⟩ (fun W0 bd=>?_);obtain⟨aH,bD⟩:=bd;have t1:=ae bD;clear bD
 go_loop [3,4] (fun o i=>∃ k:Nat,k<=m.out.length/\i=.int .i64 k/\∃ x,o=.int .i64 x) (fun _ i=>m.out.length - (intOf i).toNat)
 case atStart=>exact⟨0,by omega,rfl,_,rfl⟩
 case round=>
  obtain⟨k,hk,rfl,x,rfl⟩:=hrel;by_cases aF:k<m.out.length
  ·obtain⟨b1,o1,rfl,u,cx,hx⟩:=EO.out k aF
   rw[Nat.mul_one]at cx;have c1:=ay aH cx;obtain⟨px,qx,rfl,lx1,lx2,ex⟩:=hx.at;have EX:=aa ex;clear cx hx ex;generalize Jd:m.out[k]=row at EX c1 lx1 lx2;clear Jd
   go_wp2
   go_loop [3,5] (fun o i=>∃ j:Nat,j<=row.length/\i=.int .i64 j/\∃ x,o=.int .i64 x) (fun _ i=>row.length - (intOf i).toNat)
   case atStart=>exact⟨0,by omega,rfl,_,rfl⟩
   case round=>
    obtain⟨j,hj,rfl,y,rfl⟩:=hrel;by_cases qb:j<row.length
    ·obtain⟨b2,o2,rfl,u2,cy2,rM⟩:=EX.out j qb
     rw[Nat.mul_one]at cy2;have c2:=ay aH cy2;obtain⟨py2,qy2,rfl,ly1,ly2,_⟩:=rM.at;clear cy2 rM;generalize Kw:row[j].length=nj at c2 ly1 ly2;clear Kw
     go_wp2
     go_round
     case rel=>exact⟨j+1,by omega,by go_num,_,rfl⟩
     case measure=>simp[intOf];omega
    ·go_wp2
     go_round
     case rel=>exact⟨k+1,by omega,by go_num,_,rfl⟩
     case measure=>simp[intOf];omega
  ·go_wp2
   go_ret
   exact⟨⟨_,rfl⟩,aH⟩
theorem J4(m:Mac) (vf vy vt vo:Value) (w:World) (hf:bF w vf m.first) (hy:eZ w vy m.syms) (ht:dh w vt m.steps) (ho:fj w vo m.out) :
  Calls Tryz.prog 33 #[.agg (bX m vf vy vt vo)] w fun e w'=>QT e/\Below w.heap.size w w':=by
 have HC:=aa (fun W (hb:Below w.heap.size w W)=>L1 m vf vy vt vo W (hf.up up_ints hb) (hy.up up_v3 hb) (ht.up up_step hb) (ho.up up_vecs hb));obtain⟨pf,cf,rfl,_⟩:=hf.at;obtain⟨py,cy,rfl,ly1,ly2,ey⟩:=hy.at;obtain⟨pt,ct,rfl,_⟩:=ht.at;obtain⟨po,co,rfl,lo1,lo2,eo⟩:=ho.at;have EY:=aa ey;clear hf hy ht ho ey eo;by_cases h1:20<m.first.length
 ·go_enter Tryz.func33,Tryz.ntmps33
  go_wp2
  go_ret
  exact⟨xo _,by go_grown⟩
 by_cases h2:20<m.out.length
 ·go_enter Tryz.func33,Tryz.ntmps33
  go_wp2
  go_ret
  exact⟨xo _,by go_grown⟩
 by_cases h3:20<m.syms.length
 ·go_enter Tryz.func33,Tryz.ntmps33
  go_wp2
  go_ret
  exact⟨xo _,by go_grown⟩
 by_cases h4:400<m.steps.length
 ·go_enter Tryz.func33,Tryz.ntmps33
  go_wp2
  go_ret
  exact⟨xo _,by go_grown⟩
 go_enter Tryz.func33,Tryz.ntmps33
 go_wp2_with fail
 refine aT (fun W=>Below w.heap.size w W/\W.heap[w.heap.size]?=some (.cells (bX m (.slice pf m.first.length cf) (.slice py m.syms.length cy) (.slice pt m.steps.length ct) (.slice po m.out.length co)) 35)) ⟨by go_grown,ar _ _⟩ (fun W0 bd=>?_);obtain⟨aH,bD⟩:=bd;refine(HC.out W0 aH).mono ?_;rintro e w1 ⟨⟨x,rfl⟩,bU⟩;have aG:=aj aH bU;by_cases hx:400<x
 ·go_wp2_with fail
  go_ret
  exact⟨xo _,aG⟩
 have t1:=ae (ak bU bD);clear bD
 go_wp2_with fail
 go_loop [3] (fun i=>∃ k:Nat,k<=m.syms.length/\i=.int .i64 k) (fun i=>m.syms.length - (intOf i).toNat)
 case atStart=>exact⟨0,by omega,rfl⟩
 case round=>
  obtain⟨k,hk,rfl⟩:=hrel;by_cases aF:k<m.syms.length
  ·obtain⟨b1,o1,rfl,u,cx,hx⟩:=EY.out k aF
   rw[Nat.mul_one]at cx;have c1:=ay aG cx;obtain⟨px,qx,rfl,lx1,lx2,ex⟩:=hx.at;have EX:=aa ex;clear cx hx ex;generalize Jd:m.syms[k]=row at EX c1 lx1 lx2;clear Jd;by_cases hr:20<row.length
   ·go_wp2
    go_ret
    exact⟨xo _,aG⟩
   go_wp2
   go_loop [4] (fun i=>∃ j:Nat,j<=row.length/\i=.int .i64 j) (fun i=>row.length - (intOf i).toNat)
   case atStart=>exact⟨0,by omega,rfl⟩
   case round=>
    obtain⟨j,hj,rfl⟩:=hrel;by_cases qb:j<row.length
    ·obtain⟨b2,o2,rfl,u2,cy2,rM⟩:=EX.out j qb
     rw[Nat.mul_one]at cy2;have c2:=ay aG cy2;obtain⟨py2,qy2,rfl,ly1,ly2,_⟩:=rM.at;clear cy2 rM;generalize Kw:row[j].length=nj at c2 ly1 ly2;clear Kw;by_cases hn:20<nj
     ·go_wp2
      go_ret
      exact⟨xo _,aG⟩
     ·go_wp2
      go_round
      case rel=>exact⟨j+1,by omega,by go_num⟩
      case measure=>simp[intOf];omega
    ·go_wp2
     go_round
     case rel=>exact⟨k+1,by omega,by go_num⟩
     case measure=>simp[intOf];omega
  ·go_wp2
   go_ret
   exact⟨xo _,aG⟩
end Go.Proofs.YtkfgpnbpcpdclaaGreat
namespace Go.Proofs.YtkfgpnbpcpdclaaGreat
open Go.RowKit Go Go.Shelf
attribute [local go_sem] Oper.semAt_some
theorem Oj{w:World} {b o:Nat} {r:Rd} (h:jV w b o r) {wr:World} (hb:Below w.heap.size w wr):∀ y:ExtW wr,y.val.cell? ⟨b,o,none⟩=some (.int .i64 r.g.n)/\y.val.cell? ⟨b,o+1,none⟩=some (.int .i64 r.g.h0)/\y.val.cell? ⟨b,o+2,none⟩=some (.int .i64 r.g.h1)/\y.val.cell? ⟨b,o+3,none⟩=some (.int .i64 r.g.h2)/\y.val.cell? ⟨b,o+4,none⟩=some (.int .i64 r.g.h3)/\y.val.cell? ⟨b,o+5,none⟩=some (.int .i64 r.g.h4)/\y.val.cell? ⟨b,o+6,none⟩=some (.int .i64 r.f):=by
 obtain⟨⟨c0,_⟩,⟨c1,_⟩,⟨c2,_⟩,⟨c3,_⟩,⟨c4,_⟩,⟨c5,_⟩,⟨c6,_⟩⟩:=h;exact fun y=>⟨y.cell (ay hb c0),y.cell (ay hb c1),y.cell (ay hb c2),y.cell (ay hb c3),y.cell (ay hb c4),y.cell (ay hb c5),y.cell (ay hb c6)⟩
theorem DP{x y:Py} (h:¬ (x.inp=y.inp/\x.word=y.word)):decide (x=y)=false:=decide_eq_false fun e=>h (by rw[e];exact⟨rfl,rfl⟩)
theorem L2(x y:Py) (va vb vc vd:Value) (w:World) (hi:aU w va x.inp) (hw:bN w vb x.word) (ki:aU w vc y.inp) (kw:bN w vd y.word) :
  Calls Tryz.prog 26 #[.agg #[va,vb],.agg #[vc,vd]] w fun e w'=>e=.returned (.bool (decide (x=y)))/\Below w.heap.size w w':=by
 have HI:=aa hi;have KI:=aa ki;obtain⟨pi,ci,rfl,_⟩:=hi.at;obtain⟨qi,di,rfl,_⟩:=ki.at;obtain⟨pa,ca,rfl,la1,la2,ea⟩:=hw.at;obtain⟨pb,cb,rfl,lb1,lb2,eb⟩:=kw.at;have EA:=aa ea;have EB:=aa eb;clear hi hw ki kw ea eb
 go_enter Tryz.func26,Tryz.ntmps26
 go_wp2_with fail
 refine aT (fun W=>Below w.heap.size w W/\W.heap[w.heap.size]?=some (.cells #[.slice pi x.inp.length ci,.slice pa x.word.length ca] 59)/\W.heap[w.heap.size+1]?=some (.cells #[.slice qi y.inp.length di,.slice pb y.word.length cb] 59)) ⟨by go_grown,aq _ (ar _ _),aX _ _ _⟩ (fun W0 bd=>?_);obtain⟨aH,bD,kg⟩:=bd;refine(nY _ _ _ _ W0 (HI.out.up up_int aH) (KI.out.up up_int aH)).mono ?_;rintro e w1 ⟨rfl,bU⟩;have iy:=aa (aj aH bU);have fd:=aa (ak bU bD);have jy:=aa (ak bU kg);have tA:=ae fd.out;have tB:=ae jy.out;clear bD kg aH bU;generalize ho:ordV x.inp y.inp=o;by_cases h0:o=0
 case neg=>
  have Pt:(o != 0)=true:=by simpa using h0
  have HR:Hid (decide (x=y)=false):=aa (DP fun h=>h0 (by rw[<-ho,h.1,pO]));clear ho h0
  go_wp2_with fail
  go_ret
  exact⟨aV HR.out.symm,iy.out⟩
 subst h0;have HO:Hid (x.inp=y.inp):=aa (Ea ho);clear ho;by_cases hl:x.word.length=y.word.length
 case neg=>
  have kd:((x.word.length:Int) != (y.word.length:Int))=true:=by simp;omega
  have HR:Hid (decide (x=y)=false):=aa (DP fun h=>hl (by rw[h.2]));clear hl
  go_wp2_with fail
  go_ret
  exact⟨aV HR.out.symm,iy.out⟩
 have kd:((x.word.length:Int) != (y.word.length:Int))=false:=by simp[hl]
 have HL:=aa hl;clear hl
 go_wp2_with fail
 clear kd tA tB
 go_loopw [5] (fun i wr=>Below w1.heap.size w1 wr/\∃ k:Nat,k<=x.word.length/\i=.int .i64 k/\∀ j,j<k->x.word.getD j default=y.word.getD j default) (fun i _=>x.word.length - (intOf i).toNat)
 case atStart=>exact⟨Below.refl _ _,0,by omega,rfl,by simp⟩
 case round=>
  obtain⟨aJ,k,hk,rfl,aO⟩:=hrel;have H:=aa aO;clear aO;have tA:=ae (ak aJ fd.out);have fu:=aa (aj iy.out aJ);by_cases aF:k<x.word.length
  ·have gD:k<y.word.length:=by have:=HL.out;omega
   obtain⟨b1,o1,rfl,c1⟩:=EA.out k aF;obtain⟨b2,o2,rfl,c2⟩:=EB.out k gD;have HX:=aa (aA default aF);have HY:=aa (aA default gD);generalize x.word[k]=r at c1 HX;generalize y.word[k]=s at c2 HY;have d1:=Oj c1 fu.out;have d2:=Oj c2 fu.out;have a1:∀ z:ExtW wr,z.val.cell? ⟨w.heap.size,1,none⟩=some _:=fun z=>z.cell (tA 1)
   have a2:∀ z:ExtW wr,z.val.cell? ⟨w.heap.size+1,1,none⟩=some _:=fun z=>z.cell (ae (ak aJ jy.out) 1)
   have bH:=fun w=>Hi r s w
   have HBRR:=aa aJ;clear c1 c2 aJ
   go_wp2_with fail
   clear tA;by_cases iW:r=s
   ·have hd:decide (r=s)=true:=by simpa using iW
    have IM:Hid (x.word.getD k default=y.word.getD k default):=aa (by rw[HX.out,HY.out,iW]);rw[hd]at bH;clear iW hd;refine aK (by kernel_rfl) (by kernel_rfl) ?_
    repeat (go_big_quiet_step (fail))
    refine wpQuiet_nil ?_;rintro _ ⟨xq,rfl⟩;clear d1 d2 a1 a2 bH
    go_wp2_with fail
    go_roundw
    case rel=>exact⟨aj HBRR.out xq.ext,k+1,by omega,by go_num,aQ H.out IM.out⟩
    case measure=>simp[intOf];omega
   ·have hd:decide (r=s)=false:=by simpa using iW
    have HR:Hid (decide (x=y)=false):=aa (DP fun h=>iW (by rw[<-HX.out,<-HY.out,h.2]));rw[hd]at bH;clear iW hd;refine aK (by kernel_rfl) (by kernel_rfl) ?_
    repeat (go_big_quiet_step (fail))
    refine wpQuiet_nil ?_;rintro _ ⟨xq,rfl⟩;clear d1 d2 a1 a2 bH
    go_wp2_with fail
    go_ret
    exact⟨aV HR.out.symm,aj fu.out xq.ext⟩
  ·have HR:Hid (decide (x=y)=true):=aa (by
    have hw:=mQ default HL.out fun j hj=>H.out j (by omega)
    have hi:=HO.out;cases x;cases y;simp only at hw hi
    rw[hw,hi];simp)
   go_wp2_with fail
   go_ret
   exact⟨aV HR.out.symm,fu.out⟩
theorem si(x y:Py) (va vb vc vd:Value) (w:World) (hi:aU w va x.inp) (hw:bN w vb x.word) (ki:aU w vc y.inp) (kw:bN w vd y.word) :
  Calls Tryz.prog 8 #[.agg #[va,vb],.agg #[vc,vd]] w fun e w'=>e=.returned (.bool (decide (x=y)))/\Below w.heap.size w w':=by
 have HI:=aa hi;have KI:=aa ki;have HW:=aa hw;have KW:=aa kw;obtain⟨pi,ci,rfl,_⟩:=hi.at;obtain⟨qi,di,rfl,_⟩:=ki.at;obtain⟨pa,ca,rfl,_⟩:=hw.at;obtain⟨pb,cb,rfl,_⟩:=kw.at;clear hi hw ki kw
 go_enter Tryz.func8,Tryz.ntmps8
 go_wp2_with fail
 refine aT (fun W=>Below w.heap.size w W) (by go_grown) (fun W0 aH=>?_);refine(L2 x y _ _ _ _ W0 (HI.out.up up_int aH) (HW.out.up up_round aH) (KI.out.up up_int aH) (KW.out.up up_round aH)).mono ?_;rintro e w1 ⟨rfl,aG⟩;have HB:=aa (aj aH aG);clear aH aG
 go_wp2_with fail
 go_ret
 exact⟨rfl,HB.out⟩
theorem k8(a b:Int) (w:World) :
  Calls Tryz.prog 18 #[.int .i64 a,.int .i64 b] w fun e w'=>e=.returned (Rd.v ⟨⟨2,a,b,0,0,0⟩,0⟩)/\Below w.heap.size w w':=by
 go_enter Tryz.func18,Tryz.ntmps18
 go_wp2_with fail
 refine bodyPost_ret (v:=Rd.v ⟨⟨2,a,b,0,0,0⟩,0⟩) (by simp[results,Tryz.results18,go_sem]) rfl ?_;exact⟨rfl,by go_grown⟩
end Go.Proofs.YtkfgpnbpcpdclaaGreat
namespace Go.Proofs.YtkfgpnbpcpdclaaGreat
open Go.RowKit Go Go.Shelf
theorem sY{P:Program} {ops:Array Oper} {Q:Exit->Act->World->Prop} {l:List Oper} {o:Oper} {a:Act} {W:World} (d:Nat) (hd:o.dst=some d) (I:World->Prop) (h:I W) (k:∀ W0,I W0->wpList P ops Q (o :: l) a W0):wpList P ops Q (o :: l) a W:=k W h
end Go.Proofs.YtkfgpnbpcpdclaaGreat
namespace Go.Proofs.YtkfgpnbpcpdclaaGreat
open Go.RowKit Go Go.Shelf
attribute [local go_sem] Oper.semAt_some
theorem Gg(w:World) :
  Calls Tryz.prog 13 #[] w fun e w'=>∃ vc vs vf vy vt vo,e=.returned (.tuple #[jI exP8 vc vs,.agg (bX exM8 vf vy vt vo)])/\bJ w' vc exCs/\bn w' vs [exMv]/\bF w' vf exM8.first/\eZ w' vy exM8.syms/\dh w' vt exM8.steps/\fj w' vo exM8.out/\Below w.heap.size w w':=by
 obtain⟨iM,fZ,dp,du,eB⟩:=info_parts Tryz.infoMove;obtain⟨iS,rU,mG,oF,sM⟩:=info_parts Tryz.infoStep
 go_enter Tryz.func13,Tryz.ntmps13
 go_wp2_with fail
 have hzS:Value.slice (some ⟨w.heap.size+1+1+1+1,0,none⟩) 2 2=sV (w.heap.size+4) 2:=rfl;refine bw (fun W=>Below w.heap.size w W/\W.heap[w.heap.size]?=some (.cells #[.int .i64 0,.int .i64 0,.int .i64 0,.slice none 0 0,.int .i64 0,.slice none 0 0,.int .i64 0] 29)/\W.heap[w.heap.size+1]?=some (.cells #[.int .i64 0,.int .i64 0,.int .i64 0,.int .i64 0,.slice none 0 0,.slice none 0 0,.slice none 0 0,.slice none 0 0] 35)/\BothB W (w.heap.size+4) (w.heap.size+2) (w.heap.size+3)) ⟨xh [_,_,_,_,_] w,fW [_,_,_,_,_] w 0 rfl,fW [_,_,_,_,_] w 1 rfl,⟨fW [_,_,_,_,_] w 4 rfl,fW [_,_,_,_,_] w 2 rfl,fW [_,_,_,_,_] w 3 rfl⟩⟩ (fun w1 mf=>?_);obtain⟨aG,Td,KT,PN⟩:=mf;have iy:=aa aG;have z8:=aa Td;have jz:=aa KT;have db:=aa PN;clear aG Td KT PN hzS;generalize hBq:w.heap.size+4=B;have cU:Hid (BothB w1 B (w.heap.size+2) (w.heap.size+3)):=aa (by rw[<-hBq];exact db.out)
 refine ip 17 [15,16,17,18,19,20,21,22,23,24,25,26,27,28,29,30,3] [BY [0,0],
  MP.eq (sV B 2),
  MP.eq (.slice (some ⟨B,0,none⟩) 1 2),
  So [0,0] (.slice (some ⟨B,0,none⟩) 1 2),
  BY [0,1],
  MP.eq (sV B 2),
  So [0,1] (sV B 2),
  BY [1,0],
  MP.eq (sV B 2),
  So [1,0] (sV B 2),
  BY [1,1],
  MP.eq (sV B 2),
  MP.eq (.slice (some ⟨B,1,none⟩) 1 1),
  So [1,1] (.slice (some ⟨B,1,none⟩) 1 1),
  QJ B,
  WT B,
  WL w1.heap.size] (by kernel_rfl) (by simp) (by decide) rfl (by kernel_rfl) (by kernel_rfl) (by kernel_rfl) ?step ?tail
 case step=>
  intro x W i o s F hi ho hs hB al hF;have bY:i=0\/i=1\/i=2\/i=3\/i=4\/i=5\/i=6\/i=7\/i=8\/i=9\/i=10\/i=11\/i=12\/i=13\/i=14\/i=15\/i=16:=by omega
  rcases bY with rfl|rfl|rfl|rfl|rfl|rfl|rfl|rfl|rfl|rfl|rfl|rfl|rfl|rfl|rfl|rfl|rfl
  all_goals (obtain rfl:=cO ho.symm;obtain rfl:=cO hs.symm;simp only[bg,bQ,List.setIfInBounds_toArray,List.set_cons_succ,List.set_cons_zero,Nat.reduceAdd]at hF)
  ·clear al hi ho hs
   subst hF
   go_wp2_with fail
   refine aY.mk (sV W.heap.size 2) ?_ ?_ ?_
   ·exact(by go_grown)
   ·exact⟨_,rfl,ar _ _⟩
   ·first
    | rfl
    | simp only[List.setIfInBounds_toArray,List.set_cons_succ,List.set_cons_zero]
  ·clear al hi ho hs
   subst hF
   go_wp2_with fail
   exact bG _ (Below.refl _ _) rfl
  ·have d1:=bz (al ⟨1,.data⟩ (by simp) rfl)
   clear al hi ho hs;simp only[d1]at hF;subst hF
   go_wp2_with fail
   exact bG _ (Below.refl _ _) rfl
  ·have d0:=al ⟨0,.data⟩ (by simp) rfl
   have d2:=bz (al ⟨2,.data⟩ (by simp) rfl);clear al hi ho hs;obtain⟨i,e,hi⟩:=d0;simp only[d2,e]at hF;subst hF
   go_wp2_with fail
   exact bG (.agg #[sV i 2,.slice (some ⟨B,0,none⟩) 1 2,.slice none 0 0]) (Below.refl _ _) ⟨_,rfl,hi⟩
  ·clear al hi ho hs
   subst hF
   go_wp2_with fail
   refine aY.mk (sV W.heap.size 2) ?_ ?_ ?_
   ·exact(by go_grown)
   ·exact⟨_,rfl,ar _ _⟩
   ·first
    | rfl
    | simp only[List.setIfInBounds_toArray,List.set_cons_succ,List.set_cons_zero]
  ·clear al hi ho hs
   subst hF
   go_wp2_with fail
   exact bG _ (Below.refl _ _) rfl
  ·have d4:=al ⟨4,.data⟩ (by simp) rfl
   have d5:=bz (al ⟨5,.data⟩ (by simp) rfl);clear al hi ho hs;obtain⟨i,e,hi⟩:=d4;simp only[d5,e]at hF;subst hF
   go_wp2_with fail
   exact bG (.agg #[sV i 2,sV B 2,.slice none 0 0]) (Below.refl _ _) ⟨_,rfl,hi⟩
  ·clear al hi ho hs
   subst hF
   go_wp2_with fail
   refine aY.mk (sV W.heap.size 2) ?_ ?_ ?_
   ·exact(by go_grown)
   ·exact⟨_,rfl,ar _ _⟩
   ·first
    | rfl
    | simp only[List.setIfInBounds_toArray,List.set_cons_succ,List.set_cons_zero]
  ·clear al hi ho hs
   subst hF
   go_wp2_with fail
   exact bG _ (Below.refl _ _) rfl
  ·have d7:=al ⟨7,.data⟩ (by simp) rfl
   have d8:=bz (al ⟨8,.data⟩ (by simp) rfl);clear al hi ho hs;obtain⟨i,e,hi⟩:=d7;simp only[d8,e]at hF;subst hF
   go_wp2_with fail
   exact bG (.agg #[sV i 2,sV B 2,.slice none 0 0]) (Below.refl _ _) ⟨_,rfl,hi⟩
  ·clear al hi ho hs
   subst hF
   go_wp2_with fail
   refine aY.mk (sV W.heap.size 2) ?_ ?_ ?_
   ·exact(by go_grown)
   ·exact⟨_,rfl,ar _ _⟩
   ·first
    | rfl
    | simp only[List.setIfInBounds_toArray,List.set_cons_succ,List.set_cons_zero]
  ·clear al hi ho hs
   subst hF
   go_wp2_with fail
   exact bG _ (Below.refl _ _) rfl
  ·have d11:=bz (al ⟨11,.data⟩ (by simp) rfl)
   clear al hi ho hs;simp only[d11]at hF;subst hF
   go_wp2_with fail
   exact bG _ (Below.refl _ _) rfl
  ·have d10:=al ⟨10,.data⟩ (by simp) rfl
   have d12:=bz (al ⟨12,.data⟩ (by simp) rfl);clear al hi ho hs;obtain⟨i,e,hi⟩:=d10;simp only[d12,e]at hF;subst hF
   go_wp2_with fail
   exact bG (.agg #[sV i 2,.slice (some ⟨B,1,none⟩) 1 1,.slice none 0 0]) (Below.refl _ _) ⟨_,rfl,hi⟩
  ·have d3:=al ⟨3,.data⟩ (by simp) rfl
   have d6:=al ⟨6,.data⟩ (by simp) rfl;have d9:=al ⟨9,.data⟩ (by simp) rfl;have d13:=al ⟨13,.data⟩ (by simp) rfl;clear al hi ho hs;obtain⟨i0,e0,h0⟩:=d3;obtain⟨i1,e1,h1⟩:=d6;obtain⟨i2,e2,h2⟩:=d9;obtain⟨i3,e3,h3⟩:=d13;simp only[e0,e1,e2,e3]at hF;subst hF
   go_wp2_with fail
   refine aY.mk (sV W.heap.size 4) ?_ ?_ ?_
   ·exact(by go_grown)
   ·exact⟨_,i0,i1,i2,i3,rfl,ar _ _,aq _ h0,aq _ h1,aq _ h2,aq _ h3⟩
   ·first
    | rfl
    | simp only[List.setIfInBounds_toArray,List.set_cons_succ,List.set_cons_zero]
  ·have d14:=al ⟨14,.data⟩ (by simp) rfl
   clear al hi ho hs;obtain⟨c,i0,i1,i2,i3,e,h⟩:=d14;simp only[e]at hF;subst hF
   go_wp2_with fail
   refine aY.mk (.agg #[.int .i64 2,.int .i64 2,.int .i64 2,sV c 4]) ?_ ?_ ?_
   ·exact(Below.refl _ _)
   ·exact⟨_,rfl,c,i0,i1,i2,i3,rfl,h⟩
   ·first
    | rfl
    | simp only[List.setIfInBounds_toArray,List.set_cons_succ,List.set_cons_zero]
  ·clear al hi ho hs
   subst hF
   go_wp2_with fail
   refine aY.mk (.pointer (some ⟨W.heap.size,0,none⟩)) ?_ ?_ ?_
   ·exact(by go_grown)
   ·exact⟨_,rfl,hB.size,ar _ _⟩
   ·first
    | rfl
    | simp only[List.setIfInBounds_toArray,List.set_cons_succ,List.set_cons_zero]
 case tail=>
  intro x W F hB aM hF;obtain⟨v,e15,hv⟩:=aM 15 (by omega);obtain⟨b,e16,hb,fQ⟩:=aM 16 (by omega);obtain⟨c,i0,i1,i2,i3,rfl,sC⟩:=hv;clear aM;simp only[bg,bQ,List.setIfInBounds_toArray,List.set_cons_succ,List.set_cons_zero,Nat.reduceAdd]at hF;simp only[e15,e16]at hF;generalize x 0=s0,x 1=s1,x 2=s2,x 3=s3,x 4=s4,x 5=s5,x 6=s6,x 7=s7,x 8=s8,x 9=s9,x 10=s10,x 11=s11,x 12=s12,x 13=s13,x 14=s14 at hF;subst hF;have jL:=aa hB;have IJ:=aa sC;have sK:=aa fQ;have kh:=aa hb;have zb:=fun o=>aD fQ o
  have tb:=ae fQ;clear e15 e16 sC fQ hb hB;simp only[List.drop_succ_cons,List.drop_zero]
  go_wp2_with (refine wpList_store_row rfl 24 (.tmp 3) (.tmp 30) rfl b #[.int .i64 2,.int .i64 2,.int .i64 2,sV c 4] rfl rfl 24 _ sK.out (by kernel_rfl) rfl (by simp[Value.oneCell']) (BO (fun W'=>Below w1.heap.size w1 W'/\W'.heap[b]?=some (.cells #[.int .i64 2,.int .i64 2,.int .i64 2,sV c 4] 24)/\sf W' B c i0 i1 i2 i3) (Ue jL.out kh.out sK.out IJ.out) ?_);intro W2 jD;have jf:=aa jD;clear jD)
  clear jL IJ sK zb tb;refine bw (fun W3=>Hid (Below W2.heap.size W2 W3)/\Hid (W3.heap[W2.heap.size]?=some (.cells #[.int .i64 1,.int .i64 3,.int .i64 3,.int .i64 2,.int .i64 3,.int .i64 3] 95))) ⟨aa (by go_grown),aa (ar _ _)⟩ (fun W3 hW3=>?_);obtain⟨io,HL3⟩:=hW3
  go_loopw [4,36] (fun o i wr=>Hid (Below W3.heap.size W3 wr)/\∃ k:Nat,k<=3/\i=.int .i64 k/\Hid (aL wr W3.heap.size 98 8 o k (ii (exMv.take k)))) (fun _ i _=>3 - (intOf i).toNat)
  case atStart=>exact⟨aa (Below.refl _ _),0,by omega,rfl,aa (aL.nil _ _ _ _)⟩
  case round=>
   obtain⟨fu,k,hk,rfl,da⟩:=hrel;by_cases aF:k<3
   ·obtain⟨a,b',HHM,d0,d1⟩:∃ a b',Hid (exMv.take (k+1)=exMv.take k++[⟨cA a b',0⟩])/\wr.cell? ⟨W2.heap.size,k * 2,none⟩=some (.int .i64 a)/\wr.cell? ⟨W2.heap.size,k * 2+1,none⟩=some (.int .i64 b'):=by
     have tL:=ae (ak fu.out HL3.out);rcases (show k=0\/k=1\/k=2 by omega) with rfl|rfl|rfl
     ·exact⟨1,3,aa rfl,tL 0,tL 1⟩
     ·exact⟨3,2,aa rfl,tL 2,tL 3⟩
     ·exact⟨3,3,aa rfl,tL 4,tL 5⟩
    obtain⟨ao,co,rfl⟩:=da.out.slice
    go_wp2_with fail
    refine aT (fun W=>Below wr.heap.size wr W) (by go_grown) (fun W4 bM=>?_);refine(k8 a b' W4).mono ?_;rintro e W5 ⟨rfl,dy⟩;have rN:=aj bM dy;have hA:Below wr.heap.size wr (W5.alloc (.cells #[.int .i64 2,.int .i64 a,.int .i64 b',.int .i64 0,.int .i64 0,.int .i64 0,.int .i64 0,.int .i64 0] 98)):=rN.alloc rN.size _;have HA:=aa hA;have fK:=aa (da.out.up hA)
    have bj:∀ j u',([.int .i64 2,.int .i64 a,.int .i64 b',.int .i64 0,.int .i64 0,.int .i64 0,.int .i64 0,.int .i64 0]:List Value)[j]?=some u'->(W5.alloc (.cells #[.int .i64 2,.int .i64 a,.int .i64 b',.int .i64 0,.int .i64 0,.int .i64 0,.int .i64 0,.int .i64 0] 98)).cell? (Addr.add ⟨W5.heap.size,0,none⟩ j)=some u':=fun j u' hj=>by
     have e1:(Addr.add ⟨W5.heap.size,0,none⟩ j)=⟨W5.heap.size,j,none⟩:=by unfold Addr.add;split<;>simp_all
     rw[e1,ae (ar W5 _)];simpa using hj
    have bZ:=aa bj;have hz35:=fu.out.size;have hz45:=hA.size;clear d0 d1 bM dy rN hA bj
    go_wp2_with (at_builtin;(refine bO _ rfl (.tmp 40) (.tmp 47) 94 rfl W3.heap.size 98 iM _ 8 64 Tryz.underlying94 fZ dp du eB rfl (by decide) _ k _ rfl fK.out ⟨W5.heap.size,0,none⟩ 1 1 [.int .i64 2,.int .i64 a,.int .i64 b',.int .i64 0,.int .i64 0,.int .i64 0,.int .i64 0,.int .i64 0] rfl rfl bZ.out (by simp[Value.oneCell']) (by unfold maxLen;omega) (by omega) (by omega) ?_;intro v' W6 sO rK hwh6;obtain⟨av6,cv6,rfl⟩:=sO.slice))
    go_roundw
    case rel=>
     refine⟨aa (Below.grown (fu.out.trans (HA.out.mono hz35)) rK (by omega) (fun g hg=>(fK.out.lt g hg).1)),k+1,by omega,by go_num,aa ?_⟩;rw[HHM.out,Ge];exact sO
    case measure=>simp[intOf];omega
   ·obtain rfl:k=3:=by omega
    obtain⟨ao,co,rfl⟩:=da.out.slice;have HBR9:=aa (aj io.out fu.out);have MY:=da;clear fu da HL3;obtain⟨w9,VD⟩:∃ x,x=wr:=⟨_,rfl⟩;subst VD
    go_wp2_with (first
     | (refine sY 53 rfl (fun W=>Hid (Below w9.heap.size w9 W)/\Hid (∀ X,cQ w9.heap.size W X->bF X (sV (w9.heap.size+2) 2) exM8.first)) ⟨aa (by go_grown),aa (QK w9)⟩ (fun WA hWA=>?_);obtain⟨Aa,SS⟩:=hWA)
     | (refine sY 60 rfl (fun W=>Hid (Below WA.heap.size WA W)/\Hid (∀ X,cQ WA.heap.size W X->fj X (sV (WA.heap.size+6) 2) exM8.out)) ⟨aa (by go_grown),aa (Ug WA)⟩ (fun WB hWB=>?_);obtain⟨jL,uj⟩:=hWB)
     | (refine sY 7 rfl (fun W=>Hid (Below WB.heap.size WB W)/\Hid (∀ X,cQ WB.heap.size W X->eZ X (sV (WB.heap.size+5) 1) exM8.syms)) ⟨aa (by go_grown),aa (TN WB)⟩ (fun WC hWC=>?_);obtain⟨vT,HYC⟩:=hWC)
     | (refine wpList_store_row rfl 35 (.tmp 7) (.tmp 66) rfl WC.heap.size (mC (sV (w9.heap.size+2) 2) (sV (WB.heap.size+5) 1) (.slice none 0 0) (sV (WA.heap.size+6) 2)) rfl rfl 35 _ (ar WC (.cells mZ 35)) (by kernel_rfl) rfl (by simp[mC,Value.oneCell']) (BO (fun W'=>Hid (EI WC (sV (w9.heap.size+2) 2) (sV (WB.heap.size+5) 1) (sV (WA.heap.size+6) 2) [] W')) (aa (EI.start WC _ _ _)) ?_);intro W10 IK))
    have fB:=aa (aj Aa.out (aj jL.out vT.out));have hz9:=HBR9.out.size;have hzW:=jf.out.1.size;have O0:=Aa.out.size;have hzB:=jL.out.size;have hzC:=vT.out.size;have wn:=io.out.size;have eB:=aB db.out.row;have Jz:=aa (fun X (hk:cQ (w.heap.size+2) WC X)=>SS.out X ((cQ.of_below (aj jL.out vT.out) hk).mono (by omega)));have qK:=aa (fun X (hk:cQ (w.heap.size+2) WC X)=>uj.out X ((cQ.of_below vT.out hk).mono (by omega)));have HYC2:=aa (fun X (hk:cQ (w.heap.size+2) WC X)=>HYC.out X (hk.mono (by omega)));clear Aa jL vT SS uj HYC;generalize S9:sV (w9.heap.size+2) 2=vf at IK Jz;generalize C9:sV (WB.heap.size+5) 1=vy at IK HYC2;generalize zz:sV (WA.heap.size+6) 2=vo at IK qK;have HVF:=aa S9;have HVY:=aa C9;have yg:=aa zz;clear S9 C9 zz
    go_loopw [67] (fun i wr=>∃ k:Nat,k<=2/\i=.int .i64 k/\Hid (EI WC vf vy vo (xsN k) wr)) (fun i _=>2 - (intOf i).toNat)
    case atStart=>exact⟨0,by omega,rfl,IK⟩
    case round=>
     clear IK;obtain⟨k,hk,rfl,HE⟩:=hrel;by_cases aF:k<2
     ·have Mu:(k:Int)<2:=by omega
      go_wp2_with fail
      obtain⟨wr1,mf⟩:∃ x,x=wr:=⟨_,rfl⟩;subst mf
      go_loopw [9] (fun i wr=>∃ (q:Nat) (a:Int),q<=3/\Hid (a=(q:Int) - 1)/\i=.int .i64 a/\Hid (EI WC vf vy vo (xsN k++nV k q) wr)) (fun i _=>(2 - intOf i).toNat)
      case atStart=>exact⟨0,-1,by omega,aa rfl,rfl,by simpa[nV] using HE⟩
      case round=>
       clear HE;obtain⟨q,a,hq,HA,rfl,HE⟩:=hrel;by_cases sA:a<2
       ·go_wp2_with fail
        obtain⟨wr2,oN⟩:∃ x,x=wr:=⟨_,rfl⟩;subst oN
        go_loopw [10] (fun i wr=>∃ (r:Nat) (b:Int),r<=3/\Hid (b=(r:Int) - 1)/\i=.int .i64 b/\Hid (EI WC vf vy vo (xsN k++nV k q++oH k q r) wr)) (fun i _=>(2 - intOf i).toNat)
        case atStart=>exact⟨0,-1,by omega,aa rfl,rfl,by simpa[oH] using HE⟩
        case round=>
         clear HE;obtain⟨r,b',hr,HB,rfl,HE⟩:=hrel;have hai:-1<=a:=by have:=HA.out;omega
         have uq:-1<=b':=by have:=HB.out;omega
         by_cases qI:b'<2
         ·have hk5:(k:Int)<5:=by omega
          obtain⟨cc,Di⟩:∃ cc:Int,cc=if k=0 then a else b':=⟨_,rfl⟩
          have tk:(wr.alloc (.cells #[.int .i64 0,.int .i64 k,.int .i64 a,.int .i64 b',.int .i64 (-1),.int .i64 (-1),.int .i64 (-1),.int .i64 0] 100)).cell? ⟨wr.heap.size,2+k,none⟩=some (.int .i64 cc):=by
           rw[ae (ar _ _),Di];rcases (show k=0\/k=1 by omega) with rfl|rfl<;>rfl
          have SJ:Hid (Kp k q r=if cc<0 then [] else [Hu k a b']):=aa (by unfold Kp;rw[Di,HA.out,HB.out]);have iJ:Hid (EI WC vf vy vo (xsN k++nV k q++oH k q (r+1))=EI WC vf vy vo (xsN k++nV k q++oH k q r++Kp k q r)):=aa (by rw[Hv];simp);have ur:=aa Di;clear Di;by_cases Pd:cc<0
          ·have KG:Hid (EI WC vf vy vo (xsN k++nV k q++oH k q (r+1))=EI WC vf vy vo (xsN k++nV k q++oH k q r)):=aa (by rw[iJ.out,SJ.out,if_pos Pd,List.append_nil])
           clear SJ iJ
           go_wp2_with fail
           go_roundw
           case rel=>exact⟨r+1,b'+1,by have:=HB.out;omega,aa (by have:=HB.out;omega),rfl,aa (by rw[KG.out];exact EI.grow HE.out (by go_grown))⟩
           case measure=>simp[intOf];omega
          ·have KG:Hid (EI WC vf vy vo (xsN k++nV k q++oH k q (r+1))=EI WC vf vy vo (xsN k++nV k q++oH k q r++[Hu k a b'])):=aa (by rw[iJ.out,SJ.out,if_neg Pd])
           clear SJ iJ;by_cases hm:min a b'<0
           ·obtain⟨vb,wm,rP⟩:=HE.out.box
            obtain⟨ab,cb,rfl⟩:=rP.slice;have HX:Hid (Hu k a b'=⟨0,k,a,b',-1,-1,-1,max a b'⟩):=aa (by unfold Hu;rw[if_pos hm]);have cZ:=N2 k q r;generalize xsN k++nV k q++oH k q r=L at HE KG cZ wm rP;have nF:=aa wm;have Pk:=aa rP;have tb:=ae (aq (.cells #[.int .i64 0,.int .i64 k,.int .i64 a,.int .i64 b',.int .i64 (-1),.int .i64 (-1),.int .i64 (-1),.int .i64 (max a b')] 100) wm) 6;simp[mC]at tb;have hA:Below wr.heap.size wr ((wr.alloc (.cells #[.int .i64 0,.int .i64 k,.int .i64 a,.int .i64 b',.int .i64 (-1),.int .i64 (-1),.int .i64 (-1),.int .i64 (max a b')] 100)).alloc (.cells #[.int .i64 0,.int .i64 k,.int .i64 a,.int .i64 b',.int .i64 (-1),.int .i64 (-1),.int .i64 (-1),.int .i64 (max a b')] 100)):=by go_grown
            have p9:=aa hA;have fK:=aa (rP.up hA)
            have bj:∀ j u',([.int .i64 0,.int .i64 k,.int .i64 a,.int .i64 b',.int .i64 (-1),.int .i64 (-1),.int .i64 (-1),.int .i64 (max a b')]:List Value)[j]?=some u'->((wr.alloc (.cells #[.int .i64 0,.int .i64 k,.int .i64 a,.int .i64 b',.int .i64 (-1),.int .i64 (-1),.int .i64 (-1),.int .i64 (max a b')] 100)).alloc (.cells #[.int .i64 0,.int .i64 k,.int .i64 a,.int .i64 b',.int .i64 (-1),.int .i64 (-1),.int .i64 (-1),.int .i64 (max a b')] 100)).cell? (Addr.add ⟨wr.heap.size+1,0,none⟩ j)=some u':=fun j u' hj=>by
             have e1:(Addr.add ⟨wr.heap.size+1,0,none⟩ j)=⟨wr.heap.size+1,j,none⟩:=by unfold Addr.add;split<;>simp_all
             rw[e1,ae (aX wr _ _)];simpa using hj
            have bZ:=aa bj;have hz45:=hA.size;have hz46:=HE.out.below.size;clear bj hA wm rP
            go_wp2_with (at_builtin;go_loud (refine bO _ rfl (.tmp 100) (.tmp 102) 32 rfl WC.heap.size 100 iS _ 8 64 Tryz.underlying32 rU mG oF sM rfl (by decide) _ L.length _ rfl fK.out ⟨wr.heap.size+1,0,none⟩ 1 1 [.int .i64 0,.int .i64 k,.int .i64 a,.int .i64 b',.int .i64 (-1),.int .i64 (-1),.int .i64 (-1),.int .i64 (max a b')] rfl rfl bZ.out (by simp[Value.oneCell']) (by unfold maxLen;omega) (by omega) (by omega) ?_);intro v' W6 sO rK hwh6;obtain⟨av6,cv6,rfl⟩:=sO.slice;have Ct:=(rK.block _ (aB (ak p9.out nF.out)) (fun e=>fK.out.ne (ak p9.out nF.out) (by decide) _ e.symm rfl)).trans (ak p9.out nF.out);have nE:=aa Ct;have tb6:=ae Ct;have zb6:=fun o=>aD Ct o;clear Ct)
            go_roundw
            case rel=>exact⟨r+1,b'+1,by have:=HB.out;omega,aa (by have:=HB.out;omega),rfl,aa (by rw[KG.out,HX.out];exact EI.app HE.out p9.out nF.out Pk.out rK sO)⟩
            case measure=>simp[intOf];omega
           ·obtain⟨vb,wm,rP⟩:=HE.out.box
            obtain⟨ab,cb,rfl⟩:=rP.slice;have HX:Hid (Hu k a b'=⟨0,k,a,b',-1,-1,-1,min a b'⟩):=aa (by unfold Hu;rw[if_neg hm]);have cZ:=N2 k q r;generalize xsN k++nV k q++oH k q r=L at HE KG cZ wm rP;have nF:=aa wm;have Pk:=aa rP;have tb:=ae (aq (.cells #[.int .i64 0,.int .i64 k,.int .i64 a,.int .i64 b',.int .i64 (-1),.int .i64 (-1),.int .i64 (-1),.int .i64 (min a b')] 100) wm) 6;simp[mC]at tb;have hA:Below wr.heap.size wr ((wr.alloc (.cells #[.int .i64 0,.int .i64 k,.int .i64 a,.int .i64 b',.int .i64 (-1),.int .i64 (-1),.int .i64 (-1),.int .i64 (min a b')] 100)).alloc (.cells #[.int .i64 0,.int .i64 k,.int .i64 a,.int .i64 b',.int .i64 (-1),.int .i64 (-1),.int .i64 (-1),.int .i64 (min a b')] 100)):=by go_grown
            have p9:=aa hA;have fK:=aa (rP.up hA)
            have bj:∀ j u',([.int .i64 0,.int .i64 k,.int .i64 a,.int .i64 b',.int .i64 (-1),.int .i64 (-1),.int .i64 (-1),.int .i64 (min a b')]:List Value)[j]?=some u'->((wr.alloc (.cells #[.int .i64 0,.int .i64 k,.int .i64 a,.int .i64 b',.int .i64 (-1),.int .i64 (-1),.int .i64 (-1),.int .i64 (min a b')] 100)).alloc (.cells #[.int .i64 0,.int .i64 k,.int .i64 a,.int .i64 b',.int .i64 (-1),.int .i64 (-1),.int .i64 (-1),.int .i64 (min a b')] 100)).cell? (Addr.add ⟨wr.heap.size+1,0,none⟩ j)=some u':=fun j u' hj=>by
             have e1:(Addr.add ⟨wr.heap.size+1,0,none⟩ j)=⟨wr.heap.size+1,j,none⟩:=by unfold Addr.add;split<;>simp_all
             rw[e1,ae (aX wr _ _)];simpa using hj
            have bZ:=aa bj;have hz45:=hA.size;have hz46:=HE.out.below.size;clear bj hA wm rP
            go_wp2_with (at_builtin;go_loud (refine bO _ rfl (.tmp 100) (.tmp 102) 32 rfl WC.heap.size 100 iS _ 8 64 Tryz.underlying32 rU mG oF sM rfl (by decide) _ L.length _ rfl fK.out ⟨wr.heap.size+1,0,none⟩ 1 1 [.int .i64 0,.int .i64 k,.int .i64 a,.int .i64 b',.int .i64 (-1),.int .i64 (-1),.int .i64 (-1),.int .i64 (min a b')] rfl rfl bZ.out (by simp[Value.oneCell']) (by unfold maxLen;omega) (by omega) (by omega) ?_);intro v' W6 sO rK hwh6;obtain⟨av6,cv6,rfl⟩:=sO.slice;have Ct:=(rK.block _ (aB (ak p9.out nF.out)) (fun e=>fK.out.ne (ak p9.out nF.out) (by decide) _ e.symm rfl)).trans (ak p9.out nF.out);have nE:=aa Ct;have tb6:=ae Ct;have zb6:=fun o=>aD Ct o;clear Ct)
            go_roundw
            case rel=>exact⟨r+1,b'+1,by have:=HB.out;omega,aa (by have:=HB.out;omega),rfl,aa (by rw[KG.out,HX.out];exact EI.app HE.out p9.out nF.out Pk.out rK sO)⟩
            case measure=>simp[intOf];omega
         ·obtain rfl:r=3:=by have:=HB.out;omega
          go_wp2_with fail
          go_roundw
          case rel=>exact⟨q+1,a+1,by have:=HA.out;omega,aa (by have:=HA.out;omega),rfl,aa (by have:=HE.out;rwa [List.append_assoc,<-Hw]at this)⟩
          case measure=>simp[intOf];omega
       ·obtain rfl:q=3:=by have:=HA.out;omega
        go_wp2_with fail
        go_roundw
        case rel=>exact⟨k+1,by omega,by go_num,aa (by have:=HE.out;rwa [<-Hx]at this)⟩
        case measure=>simp[intOf];omega
     ·obtain rfl:k=2:=by omega
      obtain⟨vst,wm,rP⟩:=HE.out.box;obtain⟨ast,cst,rfl⟩:=rP.slice;have nF:=aa wm;have Pk:=aa rP;have vu:=aa (aj HBR9.out (aj fB.out HE.out.below));have KD:=aa HE.out.below;have hzR:=vu.out.size;have cJ:=HE.out.bx;have HONE:Hid ((mC vf vy (.slice ast (xsN 2).length cst) vo).all (·.oneCell')=true):=aa (by rw[<-HVF.out,<-HVY.out,<-yg.out];simp[mC,Value.oneCell']);have It:=aj jf.out.1 vu.out;have HP9:=aa (ak It z8.out);have Sz:=aa (ak It jz.out);have gP:=aa (aj iy.out It);have CJ:=aa (cU.out.up It);have HC9:=aa (jf.out.2.2.up vu.out);have HMV9:=aa (MY.out.up (aj fB.out HE.out.below));have U2:=aa (fun X (hk:cQ (w.heap.size+2) wr X)=>Jz.out X (cQ.of_below HE.out.below hk));have HY9:=aa (fun X (hk:cQ (w.heap.size+2) wr X)=>HYC2.out X (cQ.of_below HE.out.below hk));have iU:=aa (fun X (hk:cQ (w.heap.size+2) wr X)=>qK.out X (cQ.of_below HE.out.below hk));have fh:=kh.out;clear wm rP HE It
      go_wp2_with fail
      refine DJ 8 [106,107,108,109,110,111] (E8 w wr (.slice ao 3 co) #[.int .i64 2,.int .i64 1,.int .i64 2,.int .i64 2,vf,vy,.slice ast (xsN 2).length cst,vo] c) (by kernel_rfl) (by kernel_rfl) (by decide) (by kernel_rfl) (fun _=>(E8.start HP9.out Sz.out gP.out).grow (Below.refl _ _).drew) ?step ?free ?last
      case step=>
       intro x W D i o s F ho hs hD al hc hF;have bY:i=0\/i=1\/i=2\/i=3\/i=4\/i=5:=by have:=(List.getElem?_eq_some_iff.1 hs).1;simp at this;omega
       rcases bY with rfl|rfl|rfl|rfl|rfl|rfl
       all_goals (obtain rfl:=cO ho.symm;obtain rfl:=cO hs.symm;simp only[bg,bQ,List.setIfInBounds_toArray,List.set_cons_succ,List.set_cons_zero,Nat.reduceAdd]at hF)
       ·have tb:=ae (hc.key _ _ (by omega) (by omega) (ak vu.out jf.out.2.1))
        subst hF;have ur:=aa hc;have ky:=aa hD;clear hc al ho hs hD
        go_wp2_with fail
        refine qY.mk (WO c) (E8.set ur.out 0 (by omega) ky.out rfl) ?_
        first
         | rfl
         | simp only[List.setIfInBounds_toArray,List.set_cons_succ,List.set_cons_zero]
       ·subst hF
        have ur:=aa hc;have ky:=aa hD;clear hc al ho hs hD
        go_wp2_with fail
        refine qY.mk (.slice ao 3 co) (E8.set ur.out 1 (by omega) ky.out rfl) ?_
        first
         | rfl
         | simp only[List.setIfInBounds_toArray,List.set_cons_succ,List.set_cons_zero]
       ·have d1:=hc.v 1 (by omega) (al ⟨1,.data⟩ (by simp) rfl)
        change x 1=_ at d1;simp only[d1]at hF;subst hF;have ur:=aa hc;have ky:=aa hD;clear hc al ho hs hD
        go_wp2_with fail
        refine qY.mk (sV W.heap.size 1) (E8.set (E8.grow ur.out (by go_grown)) 2 (by omega) ky.out ⟨_,rfl,by have:=ur.out.size;omega,ar _ _⟩) ?_
        first
         | rfl
         | simp only[List.setIfInBounds_toArray,List.set_cons_succ,List.set_cons_zero]
       ·have d2:=hc.v 2 (by omega) (al ⟨2,.data⟩ (by simp) rfl)
        obtain⟨g,e,hg,iK⟩:=d2;simp only[e]at hF;subst hF;have ur:=aa hc;have ky:=aa hD;clear hc al ho hs hD
        go_wp2_with fail
        refine qY.mk (.agg #[.int .i64 2,sV g 1]) (E8.set ur.out 3 (by omega) ky.out ⟨_,rfl,hg,iK⟩) ?_
        first
         | rfl
         | simp only[List.setIfInBounds_toArray,List.set_cons_succ,List.set_cons_zero]
       ·have d0:=hc.v 0 (by omega) (al ⟨0,.data⟩ (by simp) rfl)
        have d3:=hc.v 3 (by omega) (al ⟨3,.data⟩ (by simp) rfl);change x 0=_ at d0;obtain⟨g,e,hg,iK⟩:=d3;simp only[d0,e]at hF;subst hF;have ur:=aa hc;have ky:=aa hD;clear hc al ho hs hD
        go_wp2_with fail
        refine qY.mk (.agg (N3 c g)) (E8.set ur.out 4 (by omega) ky.out ⟨_,rfl,hg,iK⟩) ?_
        first
         | rfl
         | simp only[List.setIfInBounds_toArray,List.set_cons_succ,List.set_cons_zero]
       ·have tb:=ae (hc.key _ _ (by omega) (by omega) nF.out)
        simp only[mC]at tb;subst hF;have ur:=aa hc;have ky:=aa hD;clear hc al ho hs hD
        go_wp2_with fail
        refine qY.mk (.agg #[.int .i64 2,.int .i64 1,.int .i64 2,.int .i64 2,vf,vy,.slice ast (xsN 2).length cst,vo]) (E8.set ur.out 5 (by omega) ky.out rfl) ?_
        first
         | rfl
         | simp only[List.setIfInBounds_toArray,List.set_cons_succ,List.set_cons_zero]
      case free=>
       intro x W D i o F ho h6 h8 hD al hc hF;have bY:i=6\/i=7:=by simp at h6;omega
       rcases bY with rfl|rfl
       ·obtain rfl:=cO ho.symm
        have g4:=al ⟨4,.data⟩ (by simp) rfl;obtain⟨g,e4,_,_⟩:=hc.v 4 (by omega) g4;obtain⟨ps,p1,p2,_⟩:=hc.p;have IQ:F.getD 110 undef=.agg (N3 c g):=(by rw[<-e4,hF];exact jF (by decide) (i:=4) rfl (Nat.le_of_ble_eq_true (by kernel_rfl)));have gi:F.getD 0 undef=.pointer (some ⟨w.heap.size,0,none⟩):=(by rw[hF,fI (by decide)];rfl);refine wpList_store_row rfl 29 (.tmp 0) (.tmp 110) rfl w.heap.size (N3 c g) gi IQ 29 _ p1 (by kernel_rfl) p2 (by simp[Value.oneCell']) ?_;exact⟨rfl,hc.storeP g4 e4 rfl⟩
       ·obtain rfl:=cO ho.symm
        have g5:=hc.v 5 (by omega) (al ⟨5,.data⟩ (by simp) rfl);change x 5=_ at g5;obtain⟨ms,m1,m2,_⟩:=hc.m;have hx5:F.getD 111 undef=.agg #[.int .i64 2,.int .i64 1,.int .i64 2,.int .i64 2,vf,vy,.slice ast (xsN 2).length cst,vo]:=(by rw[<-g5,hF];exact jF (by decide) (i:=5) rfl (Nat.le_of_ble_eq_true (by kernel_rfl)));have dV:F.getD 1 undef=.pointer (some ⟨w.heap.size+1,0,none⟩):=(by rw[hF,fI (by decide)];rfl);refine wpList_store_row rfl 35 (.tmp 1) (.tmp 111) rfl (w.heap.size+1) #[.int .i64 2,.int .i64 1,.int .i64 2,.int .i64 2,vf,vy,.slice ast (xsN 2).length cst,vo] dV hx5 35 _ m1 (by kernel_rfl) m2 HONE.out ?_;exact⟨rfl,hc.storeM rfl⟩
      case last=>
       intro x W D F aM hc hF;obtain⟨g,q1,q2,q3⟩:=TO HP9.out Sz.out CJ.out (by omega) HC9.out HMV9.out (by omega) U2.out HY9.out iU.out Pk.out (by omega) hc aM;have gi:F[0]?.getD undef=.pointer (some ⟨w.heap.size,0,none⟩):=(show F[0]?.getD undef=F.getD 0 undef by simp only[Array.getD_eq_getD_getElem?]).trans (by rw[hF,fI (by decide)];rfl);have dV:F[1]?.getD undef=.pointer (some ⟨w.heap.size+1,0,none⟩):=(show F[1]?.getD undef=F.getD 1 undef by simp only[Array.getD_eq_getD_getElem?]).trans (by rw[hF,fI (by decide)];rfl);clear hF hc aM
       go_wp2_with fail
       refine bodyPost_ret (JX _ w.heap.size (w.heap.size+1) _ _ _ 29 35 gi dV ⟨_,_,_,_,_,_,_,rfl,q1⟩ ⟨_,_,_,_,_,_,_,_,rfl,q2⟩) rfl ?_;exact⟨_,_,_,_,_,_,rfl,q3⟩
end Go.Proofs.YtkfgpnbpcpdclaaGreat
namespace Go.Proofs.YtkfgpnbpcpdclaaGreat
open Go.RowKit Go Go.Shelf
theorem ex8_viol:(gp exP8 exM8).2.1=3/\(gp exP8 exM8).2.2.1=true/\(gp exP8 exM8).2.2.2=0/\(gp exP8 exM8).1.inp=[0,1]/\(gp exP8 exM8).1.word=[cA 3 2]:=by decide +kernel
theorem ex8_worst:(fV exP8 exM8).2.1=1/\(fV exP8 exM8).2.2=0/\(fV exP8 exM8).1.inp=[0,0]/\(fV exP8 exM8).1.word=[cA 1 3]:=by decide +kernel
theorem ex8_near:(pE exP8 ⟨[1,0],[cA 1 3]⟩)=([⟨[1,0],[cA 3 3]⟩,⟨[0,0],[cA 1 3]⟩],0):=by decide +kernel
theorem ex8_min:jH exP8 exM8 ⟨[0,1],[cA 3 2]⟩=(true,0):=by decide +kernel
theorem ex8_shrink:dj exP8 exM8 ⟨[0,1],[cA 3 2]⟩=(⟨[0,1],[cA 3 2]⟩,0):=by decide +kernel
structure Ex8 (p:Pb) (m:Mac):Prop where
 hN:movesN p.a.states<1099511627776
 vi:(gp p m).2.1=3/\(gp p m).2.2.1=true/\(gp p m).2.2.2=0/\(gp p m).1.inp=[0,1]/\(gp p m).1.word=[cA 3 2]
 wo:(fV p m).2.1=1/\(fV p m).2.2=0/\(fV p m).1.inp=[0,0]/\(fV p m).1.word=[cA 1 3]
 nb:pE p ⟨[1,0],[cA 1 3]⟩=([⟨[1,0],[cA 3 3]⟩,⟨[0,0],[cA 1 3]⟩],0)
 mi:jH p m ⟨[0,1],[cA 3 2]⟩=(true,0)
 sh:dj p m ⟨[0,1],[cA 3 2]⟩=(⟨[0,1],[cA 3 2]⟩,0)
theorem ex8_all:Ex8 exP8 exM8:=⟨by decide,ex8_viol,ex8_worst,ex8_near,ex8_min,ex8_shrink⟩
theorem Id(w:World) :
  Calls Tryz.prog 13 #[] w fun e w'=>∃ p m vc vs vf vy vt vo,e=.returned (.tuple #[jI p vc vs,.agg (bX m vf vy vt vo)])/\bJ w' vc p.t.cases/\bn w' vs p.a.states/\bF w' vf m.first/\eZ w' vy m.syms/\dh w' vt m.steps/\fj w' vo m.out/\Below w.heap.size w w'/\Ex8 p m:=
 (Gg w).mono fun _ _ ⟨vc,vs,vf,vy,vt,vo,h1,h2,h3,h4,h5,h6,h7,h8⟩=>⟨exP8,exM8,vc,vs,vf,vy,vt,vo,h1,h2,h3,h4,h5,h6,h7,h8,ex8_all⟩
theorem rx{W:World} {j:Nat} {r:Rd} (h:W.heap[j]?=some (.cells r.c 52)) (hr:nl r):bN W (sV j 1) [r]:=by
 have t:=ae h;refine⟨some ⟨j,0,none⟩,1,rfl,⟨Nat.le_refl _,by omega,fun e=>by cases e⟩,by simp,fun i x hx=>⟨j,0,rfl,?_⟩⟩;obtain⟨hi,rfl⟩:=List.getElem?_eq_some_iff.1 hx;obtain rfl:i=0:=by simp at hi;omega
 obtain⟨r0,r1,r2,r3,r4,r5,r6⟩:=hr;exact⟨⟨t 0,r0⟩,⟨t 1,r1⟩,⟨t 2,r2⟩,⟨t 3,r3⟩,⟨t 4,r4⟩,⟨t 5,r5⟩,⟨t 6,r6⟩⟩
theorem ue(a b:Int) (ha:0<=a/\a<4) (hb:0<=b/\b<4):nl (cA a b):=by simp[nl,cA,bK];omega
theorem E0{w:World} {t:Tr} {ui uw us um ud ut:Value} (h:IsTr w t ui uw us um ud ut):(∃ p n c,us=.slice p n c)/\(∃ p n c,um=.slice p n c)/\(∃ p n c,ud=.slice p n c)/\∃ p n c,ut=.slice p n c:=by
 obtain⟨p1,c1,e1,_⟩:=h.states.at;obtain⟨p2,c2,e2,_⟩:=h.msgs.at;obtain⟨p3,c3,e3,_⟩:=h.dec.at;obtain⟨p4,c4,e4,_⟩:=h.times.at;exact⟨⟨_,_,_,e1⟩,⟨_,_,_,e2⟩,⟨_,_,_,e3⟩,_,_,_,e4⟩
def Ok(r:Rd):MP:=⟨fun x W=>∃ i,x=sV i 1/\W.heap[i]?=some (.cells r.c 52),fun _ _ _ h hb=>by obtain⟨i,e,h⟩:=h;exact⟨i,e,ak hb h⟩⟩
def QU(l:List Int) (r:Rd):MP:=⟨fun x W=>∃ i j,x=.agg #[sV i 2,sV j 1]/\W.heap[i]?=some (iC l)/\W.heap[j]?=some (.cells r.c 52),fun _ _ _ h hb=>by obtain⟨i,j,e,h,h'⟩:=h;exact⟨i,j,e,ak hb h,ak hb h'⟩⟩
def Ui(l:List Py):MP:=⟨fun x W=>∃ u,x=.tuple #[u,.int .i64 0]/\j9 W u l,fun _ _ _ h hb=>by obtain⟨u,e,h⟩:=h;exact⟨u,e,h.up up_play hb⟩⟩
def Uj(l:List Py):MP:=⟨fun x W=>j9 W x l,fun _ _ _ h hb=>h.up up_play hb⟩
structure Ky where
 i0:Int
 i1:Int
 i2:Int
 i3:Int
 i4:Int
 r0:Rd
 r1:Rd
 r2:Rd
 r3:Rd
 r4:Rd
 r5:Rd
instance:DecidableEq Ky:=fun a b=>decidable_of_iff (a.i0=b.i0/\a.i1=b.i1/\a.i2=b.i2/\a.i3=b.i3/\a.i4=b.i4/\a.r0=b.r0/\a.r1=b.r1/\a.r2=b.r2/\a.r3=b.r3/\a.r4=b.r4/\a.r5=b.r5) (by cases a;cases b;simp)
abbrev Ky.c(x:Ky):Array Value:=#[.int .i64 x.i0,.int .i64 x.i1,.int .i64 x.i2,.int .i64 x.i3,.int .i64 x.i4,.int .i64 x.r0.g.n,.int .i64 x.r0.g.h0,.int .i64 x.r0.g.h1,.int .i64 x.r0.g.h2,.int .i64 x.r0.g.h3,.int .i64 x.r0.g.h4,.int .i64 x.r0.f,.int .i64 x.r1.g.n,.int .i64 x.r1.g.h0,.int .i64 x.r1.g.h1,.int .i64 x.r1.g.h2,.int .i64 x.r1.g.h3,.int .i64 x.r1.g.h4,.int .i64 x.r1.f,.int .i64 x.r2.g.n,.int .i64 x.r2.g.h0,.int .i64 x.r2.g.h1,.int .i64 x.r2.g.h2,.int .i64 x.r2.g.h3,.int .i64 x.r2.g.h4,.int .i64 x.r2.f,.int .i64 x.r3.g.n,.int .i64 x.r3.g.h0,.int .i64 x.r3.g.h1,.int .i64 x.r3.g.h2,.int .i64 x.r3.g.h3,.int .i64 x.r3.g.h4,.int .i64 x.r3.f,.int .i64 x.r4.g.n,.int .i64 x.r4.g.h0,.int .i64 x.r4.g.h1,.int .i64 x.r4.g.h2,.int .i64 x.r4.g.h3,.int .i64 x.r4.g.h4,.int .i64 x.r4.f,.int .i64 x.r5.g.n,.int .i64 x.r5.g.h0,.int .i64 x.r5.g.h1,.int .i64 x.r5.g.h2,.int .i64 x.r5.g.h3,.int .i64 x.r5.g.h4,.int .i64 x.r5.f]
abbrev Ky.v(x:Ky):Value:=.agg x.c
def rdZ:Rd:=⟨⟨0,0,0,0,0,0⟩,0⟩
def eL(x:Py):Ky:=⟨x.inp.getD 0 0,x.inp.getD 1 0,x.inp.getD 2 0,x.inp.getD 3 0,x.inp.getD 4 0,x.word.getD 0 rdZ,x.word.getD 1 rdZ,x.word.getD 2 rdZ,x.word.getD 3 rdZ,x.word.getD 4 rdZ,x.word.getD 5 rdZ⟩
theorem Ie{α:Type} {a b:List α} (d:α) (hl:a.length=b.length) (h:∀ i,i<a.length->a.getD i d=b.getD i d):a=b:=by
 apply List.ext_getElem hl;intro i h1 h2;have:=h i h1
 rwa [show a.getD i d=a[i] by simp[h1],show b.getD i d=b[i] by simp[h2]]at this
theorem Ol{x y:Py} (hi:x.inp.length=y.inp.length) (Ps:x.inp.length<=5) (hw:x.word.length=y.word.length) (VX:x.word.length<=6) (h:eL x=eL y):x=y:=by
 unfold eL at h;injection h with e0 e1 e2 e3 e4 q0 q1 q2 q3 q4 q5
 have h1:x.inp=y.inp:=Ie 0 hi fun i hi=>by
  rcases (show i=0\/i=1\/i=2\/i=3\/i=4 by omega) with e|e|e|e|e<;>subst e<;>assumption
 have h2:x.word=y.word:=Ie rdZ hw fun i hi=>by
  rcases (show i=0\/i=1\/i=2\/i=3\/i=4\/i=5 by omega) with e|e|e|e|e|e<;>subst e<;>assumption
 cases x
 cases y
 simp only at h1 h2;rw[h1,h2]
theorem Om(d:Nat) (a0 a1 a2 a3 a4 a5 b0 b1 b2 b3 b4 b5:Rd) (w:World):(Op.equalIn (d+5) 169 (.agg #[.int .i64 a0.g.n,.int .i64 a0.g.h0,.int .i64 a0.g.h1,.int .i64 a0.g.h2,.int .i64 a0.g.h3,.int .i64 a0.g.h4,.int .i64 a0.f,.int .i64 a1.g.n,.int .i64 a1.g.h0,.int .i64 a1.g.h1,.int .i64 a1.g.h2,.int .i64 a1.g.h3,.int .i64 a1.g.h4,.int .i64 a1.f,.int .i64 a2.g.n,.int .i64 a2.g.h0,.int .i64 a2.g.h1,.int .i64 a2.g.h2,.int .i64 a2.g.h3,.int .i64 a2.g.h4,.int .i64 a2.f,.int .i64 a3.g.n,.int .i64 a3.g.h0,.int .i64 a3.g.h1,.int .i64 a3.g.h2,.int .i64 a3.g.h3,.int .i64 a3.g.h4,.int .i64 a3.f,.int .i64 a4.g.n,.int .i64 a4.g.h0,.int .i64 a4.g.h1,.int .i64 a4.g.h2,.int .i64 a4.g.h3,.int .i64 a4.g.h4,.int .i64 a4.f,.int .i64 a5.g.n,.int .i64 a5.g.h0,.int .i64 a5.g.h1,.int .i64 a5.g.h2,.int .i64 a5.g.h3,.int .i64 a5.g.h4,.int .i64 a5.f]) (.agg #[.int .i64 b0.g.n,.int .i64 b0.g.h0,.int .i64 b0.g.h1,.int .i64 b0.g.h2,.int .i64 b0.g.h3,.int .i64 b0.g.h4,.int .i64 b0.f,.int .i64 b1.g.n,.int .i64 b1.g.h0,.int .i64 b1.g.h1,.int .i64 b1.g.h2,.int .i64 b1.g.h3,.int .i64 b1.g.h4,.int .i64 b1.f,.int .i64 b2.g.n,.int .i64 b2.g.h0,.int .i64 b2.g.h1,.int .i64 b2.g.h2,.int .i64 b2.g.h3,.int .i64 b2.g.h4,.int .i64 b2.f,.int .i64 b3.g.n,.int .i64 b3.g.h0,.int .i64 b3.g.h1,.int .i64 b3.g.h2,.int .i64 b3.g.h3,.int .i64 b3.g.h4,.int .i64 b3.f,.int .i64 b4.g.n,.int .i64 b4.g.h0,.int .i64 b4.g.h1,.int .i64 b4.g.h2,.int .i64 b4.g.h3,.int .i64 b4.g.h4,.int .i64 b4.f,.int .i64 b5.g.n,.int .i64 b5.g.h0,.int .i64 b5.g.h1,.int .i64 b5.g.h2,.int .i64 b5.g.h3,.int .i64 b5.g.h4,.int .i64 b5.f])).run Tryz.prog w=.ok (decide (a0=b0/\a1=b1/\a2=b2/\a3=b3/\a4=b4/\a5=b5)) w:=by
 obtain⟨i,hi⟩:∃ i,Tryz.prog.info? 52=some i:=Option.isSome_iff_exists.1 (by kernel_rfl);have hc:Tryz.prog.cellsOf 52=7:=by kernel_rfl
 rw[run_equalIn_array w (d+4) _ _ Tryz.underlying169 hi,hc];have ag:=Tryz.isAgg52;have h0:=lT d a0 b0 w;have h1:=lT d a1 b1 w;have h2:=lT d a2 b2 w;have h3:=lT d a3 b3 w;have h4:=lT d a4 b4 w;have h5:=lT d a5 b5 w;have hr:List.range 6=[0,1,2,3,4,5]:=rfl;rw[hr];simp only[Op.eqItems,Sem.run_bind,part,ag,Result.andThen_ok];simp[h0,h1,h2,h3,h4,h5];by_cases e0:a0=b0
 case neg=>simp[e0]
 by_cases e1:a1=b1
 case neg=>simp[e0,e1]
 by_cases e2:a2=b2
 case neg=>simp[e0,e1,e2]
 by_cases e3:a3=b3
 case neg=>simp[e0,e1,e2,e3]
 by_cases e4:a4=b4
 case neg=>simp[e0,e1,e2,e3,e4]
 by_cases e5:a5=b5<;>simp[e0,e1,e2,e3,e4,e5]
theorem TS(d:Nat) (a b:Ky) (w:World):(Op.equalIn (d+6) 171 a.v b.v).run Tryz.prog w=.ok (decide (a=b)) w:=by
 have hS:Tryz.prog.underlying 171=some (.struct (Tryz.prog.fieldsOf 171)):=by kernel_rfl
 have hp:Tryz.prog.stoodInHeld 171=false:=by kernel_rfl
 rw[run_equalIn_struct w (d+5) 171 _ _ hS hp];have ag:=Tryz.isAgg48;have ah:=Tryz.isAgg169;have zg:=Tryz.sizeOf48;have zh:=Tryz.sizeOf169;obtain⟨i0,i1,i2,i3,i4,r0,r1,r2,r3,r4,r5⟩:=a;obtain⟨j0,j1,j2,j3,j4,s0,s1,s2,s3,s4,s5⟩:=b;have h1:=uE (d+3) i0 i1 i2 i3 i4 j0 j1 j2 j3 j4 w;have h2:=Om d r0 r1 r2 r3 r4 r5 s0 s1 s2 s3 s4 s5 w;simp only[Program.fieldsOf,Tryz.underlying171];simp[Op.eqFields,part,ag,ah,zg,zh,h1,h2];by_cases q0:i0=j0
 case neg=>simp[q0]
 by_cases q1:i1=j1
 case neg=>simp[q0,q1]
 by_cases q2:i2=j2
 case neg=>simp[q0,q1,q2]
 by_cases q3:i3=j3
 case neg=>simp[q0,q1,q2,q3]
 by_cases q4:i4=j4
 case neg=>simp[q0,q1,q2,q3,q4]
 by_cases q5:r0=s0
 case neg=>simp[q0,q1,q2,q3,q4,q5]
 by_cases q6:r1=s1
 case neg=>simp[q0,q1,q2,q3,q4,q5,q6]
 by_cases q7:r2=s2
 case neg=>simp[q0,q1,q2,q3,q4,q5,q6,q7]
 by_cases q8:r3=s3
 case neg=>simp[q0,q1,q2,q3,q4,q5,q6,q7,q8]
 by_cases q9:r4=s4
 case neg=>simp[q0,q1,q2,q3,q4,q5,q6,q7,q8,q9]
 by_cases q10:r5=s5<;>simp[q0,q1,q2,q3,q4,q5,q6,q7,q8,q9,q10]
theorem kit_ky:KeyKit Tryz.prog 171 Ky.v:=
 ⟨fun a b w=>TS 9994 a b w,fun em a w=>by kernel_rfl,⟨_,Tryz.underlying171⟩⟩
theorem L3{P:Program} (w:World) (dT sT ty elem:TypeId) (sz b o dLen dCap:Nat) (sp:Option Addr) (sLen sCap:Nat) (cs:List Value)
  (hu:P.underlying dT=some (.slice elem)) (hs:(P.info? elem).map (·.size)=some sz) (hn:cs.length=Nat.min sLen dLen * sz)
  (MT:∀ j v,cs[j]?=some v->∃ a,sp=some a/\w.cell? (a.add j)=some v) (hc:∀ j,j<cs.length->(w.cell? ⟨b,o+j,none⟩).isSome=true) (hf:∀ j,j<cs.length->w.frozen? ⟨b,o+j,none⟩=false) (h1:∀ v∈cs,v.oneCell'=true) :
  (Builtin.copy_ #[dT,sT] ty #[.slice (some ⟨b,o,none⟩) dLen dCap,.slice sp sLen sCap]).run P w=.ok (goInt (Nat.min sLen dLen)) (w.setCells b o cs):=by
 have eN:=run_storeCells_cells (P:=P) b o cs 0 w (by simpa using hc) (by simpa using hf) h1;simp only[Nat.add_zero]at eN;cases hq:P.info? elem with
 | none=>simp[hq]at hs
 | some i=>
  have hi:i.size=sz:=by simpa[hq] using hs
  cases sp with
  | none=>
   have lJ:cs=[]:=by
    cases cs with
    | nil=>rfl
    | cons v r=>
     obtain⟨a,e,_⟩:=MT 0 v rfl;cases e
   subst lJ;simp[Builtin.copy_,run_underlying hu,Builtin.lenOf,Builtin.firstCells,sizeOf,typeInfo,hq,storeCells];rfl
  | some a=>
   have hl:=run_loadCells_list (P:=P) w a cs (fun j v hj=>by obtain⟨a',e,h⟩:=MT j v hj;cases e;exact h);simp[Builtin.copy_,run_underlying hu,Builtin.lenOf,Builtin.firstCells,sizeOf,typeInfo,hq,hi,<-hn,hl,eN]
theorem vN{P:Program} {w:World} {ops:Array Oper} {rest:List Oper} {o:Oper} {a:Act} {Q:Exit->Act->World->Prop} (oL:o.guard=none) (d s:Operand) (dT sT:TypeId)
  (ho:o.op=.call { callee:=.builtin .copy,args:=#[d,s],argTypes:=#[dT,sT] }) (elem:TypeId) (sz:Nat) (hu:P.underlying dT=some (.slice elem)) (dM:(P.info? elem).map (·.size)=some sz)
  (b off dLen dCap:Nat) (sp:Option Addr) (sLen sCap:Nat) (hd:a.eval d=.slice (some ⟨b,off,none⟩) dLen dCap) (hs:a.eval s=.slice sp sLen sCap) (cs:List Value) (hn:cs.length=Nat.min sLen dLen * sz)
  (MT:∀ j v,cs[j]?=some v->∃ a,sp=some a/\w.cell? (a.add j)=some v) (hc:∀ j,j<cs.length->(w.cell? ⟨b,off+j,none⟩).isSome=true) (hf:∀ j,j<cs.length->w.frozen? ⟨b,off+j,none⟩=false) (h1:∀ v∈cs,v.oneCell'=true)
  (h:wpList P ops Q rest (a.put o.dst (goInt (Nat.min sLen dLen))) (w.setCells b off cs)):wpList P ops Q (o :: rest) a w:=by
 refine wpList_plain oL fun K hK=>?_
 have IN:=L3 (P:=P) w dT sT o.type elem sz b off dLen dCap sp sLen sCap cs hu dM hn MT hc hf h1;unfold Oper.wp;simp[execOp,ho,resolve,invoke,builtin,hd,hs,IN,Result.andThen];exact hK _ _ h
theorem DQ{P:Program} {w:World} {t tt:TypeId} {b:Nat} {c:Array Value} {fz:Nat × Nat} (hb:w.heap[b]?=some (.cells c tt fz)) (VH:∀ w,(isAgg t).run P w=.ok true w) (dM:∀ w,(Go.sizeOf t).run P w=.ok c.size w) :
  (Instr.loadAt t (.pointer (some ⟨b,0,none⟩))).run P w=.ok (.agg c) w:=by
 have hl:=run_loadCells_list (P:=P) w ⟨b,0,none⟩ c.toList (fun j v hj=>by
  have e1:(⟨b,0,none⟩:Addr).add j=⟨b,j,none⟩:=by unfold Addr.add;split<;>simp_all
  rw[e1,ae hb]
  simpa using hj)
 simp only[Array.length_toList,Array.toArray_toList]at hl;simp[Instr.loadAt,Instr.sureAddr,loadVar,VH,dM,hl]
theorem jt{P:Program} {w:World} {ops:Array Oper} {rest:List Oper} {o:Oper} {a:Act} {Q:Exit->Act->World->Prop} (oL:o.guard=none) (x:Operand) (t:TypeId) (ho:o.op=.load t x) {tt:TypeId} {b:Nat} {c:Array Value} {fz:Nat × Nat} (hx:a.eval x=.pointer (some ⟨b,0,none⟩)) (hb:w.heap[b]?=some (.cells c tt fz)) (VH:∀ w,(isAgg t).run P w=.ok true w) (n:Nat) (hn:c.size=n) (dM:∀ w,(Go.sizeOf t).run P w=.ok n w)
  (h:wpList P ops Q rest (a.put o.dst (.agg c)) w):wpList P ops Q (o :: rest) a w:=by
 refine wpList_plain oL fun K hK=>?_
 have IN:=DQ (P:=P) hb VH (by rw[hn];exact dM);unfold Oper.wp;simp[execOp,ho,hx,IN,Result.andThen];exact hK _ _ h
def gT(l:List Int):Ky:=⟨l.getD 0 0,l.getD 1 0,l.getD 2 0,l.getD 3 0,l.getD 4 0,rdZ,rdZ,rdZ,rdZ,rdZ,rdZ⟩
theorem On(l:List Int) (hl:l.length<=5):(gT []).c.toList.take 0++l.map (Value.int .i64)++(gT []).c.toList.drop (0+(l.map (Value.int .i64)).length)=(gT l).c.toList:=by
 rcases l with _|⟨a,_|⟨b,_|⟨c,_|⟨d,_|⟨e,_|⟨f,r⟩⟩⟩⟩⟩⟩
 ·simp[gT]
 ·simp[gT]
 ·simp[gT]
 ·simp[gT]
 ·simp[gT]
 ·simp[gT]
 ·simp at hl
theorem Oo(l:List Int) (wd:List Rd) (hl:wd.length<=6):(gT l).c.toList.take 5++bi wd++(gT l).c.toList.drop (5+(bi wd).length)=(eL ⟨l,wd⟩).c.toList:=by
 rw[ge];rcases wd with _|⟨a,_|⟨b,_|⟨c,_|⟨d,_|⟨e,_|⟨f,_|⟨g,r⟩⟩⟩⟩⟩⟩⟩
 ·simp[gT,eL,bi]
 ·simp[gT,eL,bi]
 ·simp[gT,eL,bi]
 ·simp[gT,eL,bi]
 ·simp[gT,eL,bi]
 ·simp[gT,eL,bi]
 ·simp[gT,eL,bi]
 ·simp at hl
theorem QV{W:World} {B:Nat} {t:TypeId} (h:W.heap[B]?=some (.cells (gT []).c t)) (l:List Int) (hl:l.length<=5):(W.setCells B 0 (l.map (Value.int .i64))).heap[B]?=some (.cells (gT l).c t):=by
 obtain⟨cur,h1,h2⟩:=mS B t (0,0) (l.map (Value.int .i64)) 0 W _ h (by simp;omega);rw[On l hl]at h2;rw[<-Array.ext' h2];exact h1
theorem QW{W:World} {B:Nat} {t:TypeId} (l:List Int) (h:W.heap[B]?=some (.cells (gT l).c t)) (wd:List Rd) (hl:wd.length<=6):(W.setCells B 5 (bi wd)).heap[B]?=some (.cells (eL ⟨l,wd⟩).c t):=by
 obtain⟨cur,h1,h2⟩:=mS B t (0,0) (bi wd) 5 W _ h (by rw[ge];simp;omega);rw[Oo l wd hl]at h2;rw[<-Array.ext' h2];exact h1
def qp(v:Vw):Prop:=bK v.p/\bK v.k/\bK v.i/\bK v.h0/\bK v.h1/\bK v.h2/\bK v.h3/\bK v.h4
theorem QX(B:Nat) (st:List Vw × List Int) (v:Vw) (hv:qp v) (h1:∀ u∈st.1,qp u) (h2:∀ z∈st.2,0<=z/\z<=B) (hl:st.1.length<=B):(∀ u∈(jS st v).1,qp u)/\∀ z∈(jS st v).2,0<=z/\z<=(B:Int):=by
 unfold jS;refine⟨fun u hu=>?_,fun z hz=>?_⟩
 ·unfold lc at hu
  dsimp only at hu;split at hu
  ·exact h1 u hu
  ·rcases List.mem_append.1 hu with h|h
   ·exact h1 u h
   ·rw[List.mem_singleton]at h;subst h;exact hv
 ·rcases List.mem_append.1 hz with h|h
  ·exact h2 z h
  ·rw[List.mem_singleton]at h
   subst h;have:=TH st.1 v;omega
theorem E3(B:Nat) (vs:List Vw):∀ st:List Vw × List Int,(∀ v∈vs,qp v)->(∀ u∈st.1,qp u)->(∀ z∈st.2,0<=z/\z<=(B:Int))->st.1.length+vs.length<=B->(∀ u∈(vs.foldl jS st).1,qp u)/\∀ z∈(vs.foldl jS st).2,0<=z/\z<=(B:Int):=by
 induction vs with
 | nil=>intro st _ h1 h2 _;exact⟨h1,h2⟩
 | cons v r ih=>
  intro st hv h1 h2 hl;simp only[List.length_cons]at hl;have h3:=QX B st v (hv v (by simp)) h1 h2 (by omega);have h4:=(Eg st v).2;exact ih _ (fun u hu=>hv u (by simp[hu])) h3.1 h3.2 (by omega)
theorem Oq(st:List Vw × List Int) (v:Vw):st.1.length<=(jS st v).1.length:=by
 unfold jS lc;dsimp only;split<;>simp
theorem Cb(vs:List Vw):∀ st:List Vw × List Int,st.1.length<=(vs.foldl jS st).1.length:=by
 induction vs with
 | nil=>intro st;exact Nat.le_refl _
 | cons v r ih=>intro st;exact Nat.le_trans (Oq st v) (ih _)
theorem Cc(n:Nat) (inp:List Int) (word:List Rd) (tb:List Vw):∀ k,tb.length<=(playTo n inp word tb k).1.length
 | 0=>Cb _ (tb,[])
 | k+1=>Nat.le_trans (Cc n inp word tb k) (Cb (fX n k (word.getD k default) ((playTo n inp word tb k).2.getLastD [])) ((playTo n inp word tb k).1,[]))
theorem DR(k:Nat) (h:k<=1000000):bK (k:Int):=⟨by omega,by omega⟩
theorem E4(n:Nat) (hn:n<=5) (inp:List Int) (hi:∀ x∈inp,bK x) (word:List Rd) (tb:List Vw) (ht:∀ v∈tb,qp v):∀ k,k<=6->tb.length+40<=100000->(∀ v∈(playTo n inp word tb k).1,qp v)/\∀ row∈(playTo n inp word tb k).2,∀ z∈row,0<=z/\z<=(100000:Int)
 | 0,_,hl=>by
  have h:=E3 100000 (gC inp n) (tb,[]) (fun v hv=>by
   obtain⟨p,hp,rfl⟩:=List.mem_map.1 hv;have hp:=List.mem_range.1 hp
   have hx:bK (inp.getD p 0):=by
    by_cases h:p<inp.length
    ·rw[aA 0 h];exact hi _ (List.getElem_mem h)
    ·rw[List.getD_eq_getElem?_getD,List.getElem?_eq_none (by omega)];exact⟨by simp,by simp⟩
   exact⟨DR p (by omega),⟨by simp[fL],by simp[fL]⟩,hx,⟨by simp[fL],by simp[fL]⟩,⟨by simp[fL],by simp[fL]⟩,⟨by simp[fL],by simp[fL]⟩,⟨by simp[fL],by simp[fL]⟩,⟨by simp[fL],by simp[fL]⟩⟩) ht (fun z hz=>by simp at hz) (by simp;omega)
  exact⟨h.1,fun row hr z hz=>by
   have:row=(addAll tb (gC inp n)).2:=by simpa[playTo,wR] using hr
   subst this
   exact h.2 z hz⟩
 | k+1,hk,hl=>by
  obtain⟨h1,h2⟩:=E4 n hn inp hi word tb ht k (by omega) hl;have cZ:=lX n inp word tb k;have h9:n * (k+1)<=5 * 7:=Nat.mul_le_mul hn (by omega);have e:(playTo n inp word tb (k+1)).2=(playTo n inp word tb k).2++[(addAll (playTo n inp word tb k).1 (fX n k (word.getD k default) ((playTo n inp word tb k).2.getLastD []))).2]:=rfl
  have xz:∀ q,0<=((playTo n inp word tb k).2.getLastD []).getD q 0/\((playTo n inp word tb k).2.getLastD []).getD q 0<=(100000:Int):=fun q=>by
   have hm:(playTo n inp word tb k).2.getLastD []∈(playTo n inp word tb k).2:=by
    rcases List.eq_nil_or_concat (playTo n inp word tb k).2 with h|⟨l',a,h⟩
    ·rw[h]at cZ;simp at cZ
    ·rw[h,List.concat_eq_append,List.getLastD_concat];simp
   by_cases h:q<((playTo n inp word tb k).2.getLastD []).length
   ·rw[aA 0 h];exact h2 _ hm _ (List.getElem_mem h)
   ·rw[List.getD_eq_getElem?_getD,List.getElem?_eq_none (by omega)];simp
  have e1:(playTo n inp word tb (k+1)).1=(addAll (playTo n inp word tb k).1 (fX n k (word.getD k default) ((playTo n inp word tb k).2.getLastD []))).1:=rfl;rw[e,e1];generalize (playTo n inp word tb k).2.getLastD []=now at xz ⊢
  have hv:∀ v∈fX n k (word.getD k default) now,qp v:=fun v hv=>by
   obtain⟨p,hp,rfl⟩:=List.mem_map.1 hv;have hp:=List.mem_range.1 hp
   have hh:∀ q,bK (ro n (word.getD k default) now p q):=fun q=>by
    unfold ro;have:=xz q;split
    ·exact⟨by omega,by omega⟩
    ·exact⟨by simp,by simp⟩
   exact⟨DR p (by omega),⟨by simp only[nextV];omega,by simp only[nextV];omega⟩,⟨by simp[nextV],by simp[nextV]⟩,hh 0,hh 1,hh 2,hh 3,hh 4⟩
  have h:=E3 100000 (fX n k (word.getD k default) now) ((playTo n inp word tb k).1,[]) hv h1 (fun z hz=>by simp at hz) (by simp;omega);refine⟨h.1,fun row hr=>?_⟩
  ·rcases List.mem_append.1 hr with hr|hr
   ·exact h2 row hr
   ·rw[List.mem_singleton]at hr
    subst hr;exact h.2
end Go.Proofs.YtkfgpnbpcpdclaaGreat
namespace Go.Proofs.YtkfgpnbpcpdclaaGreat
open Go.RowKit Go Go.Shelf
attribute [local go_sem] Oper.semAt_some
theorem Cd{p:Pb} (h:probE p=0):movesN p.a.states<=4096:=by
 have ha:=(cX h).2.1;unfold advE at ha;by_cases h1:p.a.n<1\/5<p.a.n
 ·rw[if_pos h1]at ha;omega
 ·rw[if_neg h1]at ha
  by_cases h2:p.a.states.length<1\/256<p.a.states.length\/4096<movesN p.a.states
  ·rw[if_pos h2]at ha;omega
  ·omega
theorem J5{p:Pb} (h:probE p=0):((dS p).2≠0->(dS p).2=17/\4096<p.t.cases.length * (aZ p).length)/\((dS p).2=0->(dS p).1=((p.t.cases.length * (aZ p).length:Nat):Int)):=by
 obtain⟨ht,ha,_,vY,FU⟩:=cX h;have bW:=(dY ht).2.2.2.1;have hn:=uL (L:=1048576) (by omega) p.a (fun s hs m hm=>(BR ha s hs m hm).2) (by have:=(iP ha).1;omega) p.rounds.toNat;have hw:(aZ p).length=(dr p.a p.rounds.toNat 0).length:=rfl;rw[<-hw]at hn
 have qF:countedR 1048576 p.a p.rounds=if 1048576<numberL 1048576 p.a p.rounds.toNat then(0,17) else(numberL 1048576 p.a p.rounds.toNat,0):=by
  unfold countedR;rw[if_neg (by simpa using ha),if_neg (by omega)]
 unfold dS;rw[if_neg (by simpa using h),qF];by_cases h1:1048576<numberL 1048576 p.a p.rounds.toNat
 ·rw[if_pos h1]
  have h9:1 * 1048576<=p.t.cases.length * (aZ p).length:=Nat.mul_le_mul bW.1 (by omega);refine⟨fun _=>⟨by simp,by omega⟩,fun e=>by simp at e⟩
 ·rw[if_neg h1]
  have he:numberL 1048576 p.a p.rounds.toNat=((aZ p).length:Int):=by omega
  rw[he];dsimp only;rw[if_neg (by simp),Int.mul_comm,<-Int.natCast_mul];by_cases h2:(1048576:Int)<((p.t.cases.length * (aZ p).length:Nat):Int)
  ·rw[if_pos h2]
   refine⟨fun _=>⟨by simp,by omega⟩,fun e=>by simp at e⟩
  ·rw[if_neg h2]
   exact⟨fun e=>by simp at e,fun _=>rfl⟩
theorem J6{p:Pb} (h:probE p=0) (h2:¬ 4096<p.t.cases.length * (aZ p).length):pU p.a p.rounds=(aZ p,0):=by
 obtain⟨ht,ha,_,vY,FU⟩:=cX h;have bW:=(dY ht).2.2.2.1;have hn:=uL (L:=4096) (by omega) p.a (fun s hs m hm=>(BR ha s hs m hm).2) (by have:=(iP ha).1;omega) p.rounds.toNat;have hw:(aZ p).length=(dr p.a p.rounds.toNat 0).length:=rfl;rw[<-hw]at hn;have h9:1 * (aZ p).length<=p.t.cases.length * (aZ p).length:=Nat.mul_le_mul_right _ bW.1
 have qF:(countedR 4096 p.a p.rounds).2=0:=by
  unfold countedR;rw[if_neg (by simpa using ha),if_neg (by omega),if_neg (by omega)]
 unfold pU;rw[if_neg (by simpa using qF)];rfl
theorem Ot{a:Adv} (h:∀ s,s<a.states.length->stateE a (a.states.getD s [])=0) (h1:0<a.states.length) (k:Nat):∀ s,s<a.states.length->0<(dr a k s).length:=by
 induction k with
 | zero=>intro s _;simp[dr]
 | succ k ih=>
  intro s hs;have h2:=h s hs
  have bH:(a.states.getD s []).length≠0:=by
   intro e;unfold stateE at h2;rw[if_pos e]at h2;cases h2
  obtain⟨m,hm⟩:∃ m,m∈a.states.getD s []:=by
   cases hl:a.states.getD s [] with
   | nil=>rw[hl]at bH;simp at bH
   | cons m r=>exact⟨m,by simp⟩
  have sF:m.to.toNat<a.states.length:=WE h s hs m hm;have h3:=ih _ sF;obtain⟨y,hy⟩:=List.length_pos_iff_exists_mem.1 h3;refine List.length_pos_iff_exists_mem.2 ⟨m.r :: y,?_⟩;simp only[dr,List.mem_flatMap,List.mem_map];exact⟨m,hm,y,hy,rfl⟩
theorem E5(p:Pb) (words:List (List Rd)) (l:List (Nat × Nat)):∀ st:List Vw × List Ex,(l.foldl (nQ p words) st).2.length=st.2.length+l.length:=by
 induction l with
 | nil=>intro st;simp
 | cons x r ih=>
  intro st;rw[List.foldl_cons,ih];simp[nQ];omega
theorem L4(p:Pb) (words:List (List Rd)) (l:List (Nat × Nat)) (i:Nat) (h:i<l.length):execsS p words (l.take (i+1))=nQ p words (execsS p words (l.take i)) l[i]:=by
 unfold execsS;rw[List.take_succ_eq_append_getElem h,List.foldl_append];rfl
theorem L5(p:Pb) (words:List (List Rd)) (l:List (Nat × Nat)):∀ st:List Vw × List Ex,st.1.length<=(l.foldl (nQ p words) st).1.length:=by
 induction l with
 | nil=>intro st;exact Nat.le_refl _
 | cons x r ih=>
  intro st;refine Nat.le_trans ?_ (ih _);exact Cc _ _ _ _ _
theorem vO(p:Pb) (words:List (List Rd)) (l:List (Nat × Nat)) (i:Nat):(execsS p words (l.take i)).1.length<=(execsS p words l).1.length:=by
 have h:execsS p words l=(l.drop i).foldl (nQ p words) (execsS p words (l.take i)):=by
  unfold execsS;rw[<-List.foldl_append,List.take_append_drop]
 rw[h];exact L5 p words _ _
abbrev iz(p:Pb):List (Nat × Nat):=lq p.t.cases.length (aZ p).length
abbrev stP(p:Pb) (i:Nat):List Vw × List Ex:=execsS p (aZ p) ((iz p).take i)
theorem rb(p:Pb):(iz p).length=p.t.cases.length * (aZ p).length:=by
 unfold iz;rw[pH];simp
theorem If(p:Pb) (i:Nat) (h:i<p.t.cases.length * (aZ p).length):stP p (i+1)=nQ p (aZ p) (stP p i) (i / (aZ p).length,i % (aZ p).length):=by
 unfold stP;rw[L4 _ _ _ _ (by rw[rb];exact h)];congr 1;unfold iz;simp only[pH];simp
theorem L6{p:Pb} (h:probE p=0) (hm:¬ 4096<p.t.cases.length * (aZ p).length) (i:Nat) (hi:8192<(stP p i).1.length):buildE p=17:=by
 have h2:=vO p (aZ p) (iz p) i;have h3:(dR p).tab=(execsS p (aZ p) (iz p)).1:=rfl;unfold buildE;rw[if_neg (by simpa using h),if_neg hm,if_pos (by rw[h3];exact Nat.lt_of_lt_of_le hi h2)]
theorem lY(w:World) (a b c d:Obj):((((w.alloc a).alloc b).alloc c).alloc d).heap[w.heap.size+1+1+1]?=some d:=by
 have:=ar (((w.alloc a).alloc b).alloc c) d;simpa only[World.size_alloc] using this
def L7(W:World) (base:Nat) (xs:List Value) (i:Nat) (x:Ex):Prop:=
 ∃ a b,xs[i * 3]?=some (.int .i64 x.c)/\xs[i * 3+1]?=some a/\xs[i * 3+2]?=some b/\aL W base 52 7 a x.word.length (bi x.word)/\dZ W base b x.views
structure BInv (p:Pb) (uc us:Value) (wd:World) (Bs Bb b mb:Nat) (tab:List Vw) (ex:List Ex) (W:World):Prop where
 old:Below wd.heap.size wd W
 lo:wd.heap.size<=Bs
 bx:W.heap[Bb]?=some (.cells #[.pointer (some ⟨b,0,none⟩)] 148)
 s:∃ ve xs,W.heap[Bs]?=some (.cells (ru p uc us 0 (.slice none 0 0) ve) 107)/\aL W wd.heap.size 157 3 ve ex.length xs/\∀ i (hi:i<ex.length),L7 W wd.heap.size xs i ex[i]
 bld:BldIs wd.heap.size b mb p.t.n.toNat tab W
theorem BInv.sta{p:Pb} {uc us:Value} {wd:World} {Bs Bb b mb:Nat} {tab:List Vw} {ex:List Ex} {B:Nat} (hB:wd.heap.size<=B) (hm:mb<B):bR B (fun W=>BInv p uc us wd Bs Bb b mb tab ex W):=fun A A' c h=>by
 obtain⟨ve,xs,h1,h2,h3⟩:=h.s;obtain⟨vs,q1,q2,q3,es,ck,q4,q5⟩:=h.bld.ex
 exact⟨c.below hB h.old.size h.old,h.lo,c.same _ _ h.bx (.inr rfl),⟨ve,xs,c.same _ _ h1 (.inr rfl),h2.ck c.ck,fun i hi=>by obtain⟨a,d,p1,p2,p3,p4,p5⟩:=h3 i hi;exact⟨a,d,p1,p2,p3,p4.ck c.ck,p5.ck c.ck⟩⟩,
  h.bld.lo,vs,c.same _ _ q1 (.inr rfl),q2,q3.ck c.ck,es,ck,c.same _ _ q4 (.inl hm),q5⟩
theorem TT{w W:World} {B:Nat} {c:Array Value} (hb:Below w.heap.size w W) (hl:w.heap.size<=B) (hR:W.heap[B]?=some (.cells c 107)) (hc:c.size=10) (hE:W.heap[B+1]?=some (.cells #[.int .i64 0] 42)) (l:List Value) (cZ:l.length=10) (e:Int) :
  ((W.setCells B 0 l).setCell ⟨B+1,0,none⟩ (.int .i64 e)).heap[B]?=some (.cells l.toArray 107)/\((W.setCells B 0 l).setCell ⟨B+1,0,none⟩ (.int .i64 e)).heap[B+1]?=some (.cells #[.int .i64 e] 42)/\Below w.heap.size w ((W.setCells B 0 l).setCell ⟨B+1,0,none⟩ (.int .i64 e)) ∧
   ∀ k,k≠B->k≠B+1->((W.setCells B 0 l).setCell ⟨B+1,0,none⟩ (.int .i64 e)).heap[k]?=W.heap[k]?:=by
 obtain⟨cur',h1,h2,h3⟩:=kO B _ _ l 0 W c hR (by omega);obtain⟨o1,o2,o3,o4,o5⟩:=eX B l 0 W
 have RZ:cur'=l.toArray:=by
  rw[Nat.zero_add,List.take_zero,List.nil_append,List.take_of_length_le (by simp;omega)]at h3;rw[<-h3]
 subst RZ;have h4:=(o1 (B+1) (by omega)).trans hE;refine⟨aI h1 (by omega) _ _,by rw[aE h4];rfl,Below.setCell ⟨o2.trans hb.os,o3.trans hb.tape,o4.trans hb.output,by rw[o5];exact hb.size,fun k hk=>(o1 k (by omega)).trans (hb.block k hk)⟩ (by dsimp only;omega) _,fun k h5 h6=>(Below.heap_setCell _ _ _ _ (by dsimp only;exact h6)).trans (o1 k h5)⟩
theorem sk{w W:World} {B:Nat} {c:Array Value} (hb:Below w.heap.size w W) (hl:w.heap.size<=B) (hR:W.heap[B]?=some (.cells c 107)) (hc:c.size=10) (hE:W.heap[B+1]?=some (.cells #[.int .i64 0] 42)) (c0 c1 c2 c3 c4 c5 c6 c7 c8 c9:Value) (e:Int) :
  (((((((((((W.setCell ⟨B,0,none⟩ c0).setCell ⟨B,1,none⟩ c1).setCell ⟨B,2,none⟩ c2).setCell ⟨B,3,none⟩ c3).setCell ⟨B,4,none⟩ c4).setCell ⟨B,5,none⟩ c5).setCell ⟨B,6,none⟩ c6).setCell ⟨B,7,none⟩ c7).setCell ⟨B,8,none⟩ c8).setCell ⟨B,9,none⟩ c9).setCell ⟨B+1,0,none⟩ (.int .i64 e)).heap[B]?=some (.cells #[c0,c1,c2,c3,c4,c5,c6,c7,c8,c9] 107)/\(((((((((((W.setCell ⟨B,0,none⟩ c0).setCell ⟨B,1,none⟩ c1).setCell ⟨B,2,none⟩ c2).setCell ⟨B,3,none⟩ c3).setCell ⟨B,4,none⟩ c4).setCell ⟨B,5,none⟩ c5).setCell ⟨B,6,none⟩ c6).setCell ⟨B,7,none⟩ c7).setCell ⟨B,8,none⟩ c8).setCell ⟨B,9,none⟩ c9).setCell ⟨B+1,0,none⟩ (.int .i64 e)).heap[B+1]?=some (.cells #[.int .i64 e] 42)/\Below w.heap.size w (((((((((((W.setCell ⟨B,0,none⟩ c0).setCell ⟨B,1,none⟩ c1).setCell ⟨B,2,none⟩ c2).setCell ⟨B,3,none⟩ c3).setCell ⟨B,4,none⟩ c4).setCell ⟨B,5,none⟩ c5).setCell ⟨B,6,none⟩ c6).setCell ⟨B,7,none⟩ c7).setCell ⟨B,8,none⟩ c8).setCell ⟨B,9,none⟩ c9).setCell ⟨B+1,0,none⟩ (.int .i64 e)) ∧
   ∀ k,k≠B->k≠B+1->(((((((((((W.setCell ⟨B,0,none⟩ c0).setCell ⟨B,1,none⟩ c1).setCell ⟨B,2,none⟩ c2).setCell ⟨B,3,none⟩ c3).setCell ⟨B,4,none⟩ c4).setCell ⟨B,5,none⟩ c5).setCell ⟨B,6,none⟩ c6).setCell ⟨B,7,none⟩ c7).setCell ⟨B,8,none⟩ c8).setCell ⟨B,9,none⟩ c9).setCell ⟨B+1,0,none⟩ (.int .i64 e)).heap[k]?=W.heap[k]?:=TT hb hl hR hc hE [c0,c1,c2,c3,c4,c5,c6,c7,c8,c9] rfl e
theorem pJ(tmps:Array Value) (B:Nat) (W:World) (c0 c1 c2 c3 c4 c5 c6 c7 c8 c9:Value) (e:Int) (h2:tmps[2]?.getD undef=.pointer (some ⟨B,0,none⟩)) (h3:tmps[3]?.getD undef=.pointer (some ⟨B+1,0,none⟩))
  (hB:W.heap[B]?=some (.cells #[c0,c1,c2,c3,c4,c5,c6,c7,c8,c9] 107)) (hE:W.heap[B+1]?=some (.cells #[.int .i64 e] 42)) :
  (results Tryz.f35 tmps).run Tryz.prog W=.ok (.tuple #[.agg #[c0,c1,c2,c3,c4,c5,c6,c7,c8,c9],.int .i64 e]) W:=by
 have t2:=ae hB;have t3:=ae hE 0;simp at t3;simp[results,Tryz.results35,go_sem,h2,h3,t2,t3]
structure BCore (base b mb n:Nat) (tab tab':List Vw) (c:Nat) (word:List Rd) (views:List (List Int)) (Wr:World) (D:Nat->Bool) (x:Nat->Value) (W:World):Prop where
 lo:base<=Wr.heap.size
 keep:KeepT bldT [mb] base Wr W
 bld:BldIs base b mb n (bif D 14 then tab' else tab) W
 x4:D 4=true->aL W base 52 7 (x 4) word.length (bi word)
 x14:D 14=true->dZ W base (x 14) views
 x15:D 15=true->D 4=true/\D 14=true/\x 15=.agg #[.int .i64 c,x 4,x 14]
 x16:D 16=true->D 4=true/\D 14=true/\∃ g,x 16=.slice (some ⟨g,0,none⟩) 1 1/\W.heap[g]?=some (.cells #[.int .i64 c,x 4,x 14] 157)
section
variable {base b mb n : Nat} {tab tab' : List Vw} {c : Nat} {word : List Rd} {views : List (List Int)} {Wr : World} {D : Nat → Bool} {x : Nat → Value} {W W' : World}
theorem BCore.other(h:BCore base b mb n tab tab' c word views Wr D x W) {i:Nat} (u:Value) (h4:4≠i) (IX:14≠i) (h15:15≠i) (h16:16≠i):BCore base b mb n tab tab' c word views Wr (bB D i) (cF x i u) W:=by
 refine⟨h.lo,h.keep,?_,?_,?_,?_,?_⟩
 ·simpa only[bB,if_neg IX] using h.bld
 ·simpa only[bB,cF,if_neg h4] using h.x4
 ·simpa only[bB,cF,if_neg IX] using h.x14
 ·simpa only[bB,cF,if_neg h4,if_neg IX,if_neg h15] using h.x15
 ·simpa only[bB,cF,if_neg h4,if_neg IX,if_neg h16] using h.x16
theorem BCore.clone(h:BCore base b mb n tab tab' c word views Wr D x W) (h4:D 4=false) (hb:Below W.heap.size W W') {u:Value} (ho:aL W' base 52 7 u word.length (bi word)):BCore base b mb n tab tab' c word views Wr (bB D 4) (cF x 4 u) W':=by
 refine⟨h.lo,h.keep.trans (.of_below _ hb (Nat.le_trans h.lo h.keep.old.size)),?_,fun _=>by simpa[cF] using ho,fun e=>?_,fun e=>?_,fun e=>?_⟩
 ·simpa only[bB,if_neg (show (14:Nat)≠4 by decide)] using h.bld.up hb
 ·simp only[bB,cF,if_neg (show (14:Nat)≠4 by decide)]at e ⊢
  exact(h.x14 e).up hb
 ·simp only[bB,if_neg (show (15:Nat)≠4 by decide)]at e
  have:=(h.x15 e).1;rw[h4]at this;cases this
 ·simp only[bB,if_neg (show (16:Nat)≠4 by decide)]at e
  have:=(h.x16 e).1;rw[h4]at this;cases this
theorem BCore.play(h:BCore base b mb n tab tab' c word views Wr D x W) (IX:D 14=false) (hk:KeepT bldT [mb] base W W') (hb:BldIs base b mb n tab' W') {u:Value} (ho:dZ W' base u views):BCore base b mb n tab tab' c word views Wr (bB D 14) (cF x 14 u) W':=by
 refine⟨h.lo,h.keep.trans hk,by simpa[bB] using hb,fun e=>?_,fun _=>by simpa[cF] using ho,fun e=>?_,fun e=>?_⟩
 ·simp only[bB,cF,if_neg (show (4:Nat)≠14 by decide)]at e ⊢
  exact hk.own (h.x4 e) (by decide)
 ·simp only[bB,if_neg (show (15:Nat)≠14 by decide)]at e
  have:=(h.x15 e).2.1;rw[IX]at this;cases this
 ·simp only[bB,if_neg (show (16:Nat)≠14 by decide)]at e
  have:=(h.x16 e).2.1;rw[IX]at this;cases this
theorem BCore.made(h:BCore base b mb n tab tab' c word views Wr D x W) (g4:D 4=true) (g14:D 14=true) {u:Value} (hu:u=.agg #[.int .i64 c,x 4,x 14]):BCore base b mb n tab tab' c word views Wr (bB D 15) (cF x 15 u) W:=by
 refine⟨h.lo,h.keep,?_,?_,?_,fun _=>?_,?_⟩
 ·simpa only[bB,if_neg (show (14:Nat)≠15 by decide)] using h.bld
 ·simpa only[bB,cF,if_neg (show (4:Nat)≠15 by decide)] using h.x4
 ·simpa only[bB,cF,if_neg (show (14:Nat)≠15 by decide)] using h.x14
 ·simp only[bB,cF,if_neg (show (4:Nat)≠15 by decide),if_neg (show (14:Nat)≠15 by decide),if_true]
  exact⟨g4,g14,hu⟩
 ·simpa only[bB,cF,if_neg (show (4:Nat)≠15 by decide),if_neg (show (14:Nat)≠15 by decide),if_neg (show (16:Nat)≠15 by decide)] using h.x16
theorem BCore.row(h:BCore base b mb n tab tab' c word views Wr D x W) (g4:D 4=true) (g14:D 14=true) {u4 u14:Value} (e4:x 4=u4) (e14:x 14=u14):BCore base b mb n tab tab' c word views Wr (bB D 16) (cF x 16 (.slice (some ⟨W.heap.size,0,none⟩) 1 1)) (W.alloc (.cells #[.int .i64 c,u4,u14] 157)):=by
 subst e4 e14;have hb:Below W.heap.size W (W.alloc (.cells #[.int .i64 c,x 4,x 14] 157)):=by go_grown
 refine⟨h.lo,h.keep.trans (.of_below _ hb (Nat.le_trans h.lo h.keep.old.size)),?_,fun e=>?_,fun e=>?_,?_,fun _=>?_⟩
 ·simpa only[bB,if_neg (show (14:Nat)≠16 by decide)] using h.bld.up hb
 ·simp only[bB,cF,if_neg (show (4:Nat)≠16 by decide)]at e ⊢
  exact(h.x4 e).up hb
 ·simp only[bB,cF,if_neg (show (14:Nat)≠16 by decide)]at e ⊢
  exact(h.x14 e).up hb
 ·simpa only[bB,cF,if_neg (show (4:Nat)≠16 by decide),if_neg (show (14:Nat)≠16 by decide),if_neg (show (15:Nat)≠16 by decide)] using h.x15
 ·simp only[bB,cF,if_neg (show (4:Nat)≠16 by decide),if_neg (show (14:Nat)≠16 by decide),if_true]
  exact⟨g4,g14,W.heap.size,rfl,ar _ _⟩
end
theorem Tryz.infoExec:(Tryz.prog.info? 157).map (fun i=>(i.zero,i.size,i.bytes))=some (some (.agg #[.int .i64 0,.slice none 0 0,.slice none 0 0]),3,56):=by kernel_rfl
theorem QY{F:Fence} {n:Nat} {P:Program} {c:Code} {Q:Exit->Act->World->Prop} {a:Act} {W:World} (I:World->Prop) (h:I W) (k:∀ W0,I W0->c.wpIn F n P Q a W0):c.wpIn F n P Q a W:=k W h
theorem BInv.up{p:Pb} {uc us:Value} {wd:World} {Bs Bb b mb:Nat} {tab:List Vw} {ex:List Ex} {W W':World} (h:BInv p uc us wd Bs Bb b mb tab ex W) (hb:Below W.heap.size W W'):BInv p uc us wd Bs Bb b mb tab ex W':=by
 obtain⟨ve,xs,h1,h2,h3⟩:=h.s;exact⟨aj h.old hb,h.lo,ak hb h.bx,⟨ve,xs,ak hb h1,h2.up hb,fun i hi=>by obtain⟨a,d,p1,p2,p3,p4,p5⟩:=h3 i hi;exact⟨a,d,p1,p2,p3,p4.up hb,p5.up hb⟩⟩,h.bld.up hb⟩
end Go.Proofs.YtkfgpnbpcpdclaaGreat
namespace Go.Proofs.YtkfgpnbpcpdclaaGreat
open Go.RowKit Go Go.Shelf
theorem Ou{w:World} {base:Nat} {v:Value} {l:List Vw} (h:aL w base 200 8 v l.length (kJ l)) (hx:∀ u∈l,qp u) (hn:l.length<=17592186044416):Kl w v l:=by
 have aM:=fun i (hi:i<l.length) j (u:Value) (hj:j<8) (hu:l[i].c[j]?=some u)=>h.cell (i * 8+j) u (by unfold kJ;rw[k7 Vw.c 8 (fun _=>rfl) l i j hi hj];exact hu)
 rcases h.2 with ⟨hz,h0⟩|⟨g,cap,cur,fz,rfl,_,hg,_,kj,fg,_⟩
 ·refine⟨none,0,by rw[hz,h0],⟨by omega,by omega,fun _=>rfl⟩,hn,fun i x hi=>?_⟩
  have:=(List.getElem?_eq_some_iff.1 hi).1;omega
 ·refine⟨some ⟨g,0,none⟩,cap,rfl,⟨kj,by simp only[maxLen]at fg;omega,fun e=>by cases e⟩,hn,fun i x hi=>⟨g,0,rfl,?_⟩⟩
  obtain⟨dI,rfl⟩:=List.getElem?_eq_some_iff.1 hi;obtain⟨r0,r1,r2,r3,r4,r5,r6,r7⟩:=hx _ (List.getElem_mem dI)
  have key:∀ j u,j<8->l[i].c[j]?=some u->w.cell? ⟨g,0+i * 8+j,none⟩=some u:=fun j u hj hu=>by
   obtain⟨g',c',e1,e2⟩:=aM i dI j u hj hu;have:g=g':=by simp at e1;exact e1.1
   rw[this,Nat.zero_add];exact e2
  exact⟨⟨key 0 _ (by omega) rfl,r0⟩,⟨key 1 _ (by omega) rfl,r1⟩,⟨key 2 _ (by omega) rfl,r2⟩,⟨key 3 _ (by omega) rfl,r3⟩,⟨key 4 _ (by omega) rfl,r4⟩,⟨key 5 _ (by omega) rfl,r5⟩,⟨key 6 _ (by omega) rfl,r6⟩,⟨key 7 _ (by omega) rfl,r7⟩⟩
structure ExGood (x:Ex):Prop where
 c:bK x.c
 word:x.word.length<=6/\∀ r∈x.word,nl r
 views:x.views.length<=7/\(∀ row∈x.views,row.length<=5)/\∀ row∈x.views,∀ z∈row,bK z
theorem TU{w:World} {base:Nat} {v:Value} {l:List Ex} {xs:List Value} (h:aL w base 157 3 v l.length xs) (hx:∀ i (hi:i<l.length),L7 w base xs i l[i]) (hg:∀ x∈l,ExGood x) (hn:l.length<=17592186044416):Sn w v l:=by
 have aM:=fun j (u:Value) (hu:xs[j]?=some u)=>h.cell j u hu
 rcases h.2 with ⟨hz,h0⟩|⟨g,cap,cur,fz,rfl,_,iK,_,kj,fg,_⟩
 ·refine⟨none,0,by rw[hz,h0],⟨by omega,by omega,fun _=>rfl⟩,hn,fun i x hi=>?_⟩
  have:=(List.getElem?_eq_some_iff.1 hi).1;omega
 ·refine⟨some ⟨g,0,none⟩,cap,rfl,⟨kj,by simp only[maxLen]at fg;omega,fun e=>by cases e⟩,hn,fun i x hi=>⟨g,0,rfl,?_⟩⟩
  obtain⟨dI,rfl⟩:=List.getElem?_eq_some_iff.1 hi;obtain⟨a,b,p1,p2,p3,p4,p5⟩:=hx i dI;have oL:=hg _ (List.getElem_mem dI)
  have key:∀ j u,xs[i * 3+j]?=some u->w.cell? ⟨g,0+i * 3+j,none⟩=some u:=fun j u hu=>by
   obtain⟨g',c',e1,e2⟩:=aM _ u hu;have:g=g':=by simp at e1;exact e1.1
   rw[this,Nat.zero_add];exact e2
  refine⟨⟨key 0 _ p1,oL.c⟩,⟨a,key 1 _ p2,lw p4 (fun i hi=>oL.word.2 _ (List.getElem_mem hi)) (by have:=oL.word.1;omega)⟩,⟨b,key 2 _ p3,u7 p5 oL.views.2.2 (by have:=oL.views.1;omega) (fun x hx=>by have:=oL.views.2.1 x hx;omega)⟩⟩
theorem zt(n:Nat) (inp:List Int) (word:List Rd) (tb:List Vw):∀ k,∀ row∈(playTo n inp word tb k).2,row.length=n
 | 0=>fun row hr=>by
  have h:=(lX n inp word tb 0).2.1;have e:(playTo n inp word tb 0).2=[(wR n inp tb).2]:=rfl;rw[e]at hr h;rw[List.mem_singleton]at hr;subst hr;exact h
 | k+1=>fun row hr=>by
  have h:=(lX n inp word tb (k+1)).2.1;have e:(playTo n inp word tb (k+1)).2=(playTo n inp word tb k).2++[(addAll (playTo n inp word tb k).1 (fX n k (word.getD k default) ((playTo n inp word tb k).2.getLastD []))).2]:=rfl;rw[e]at hr h;rw[List.getLastD_concat]at h;rcases List.mem_append.1 hr with hr|hr
  ·exact zt n inp word tb k row hr
  ·rw[List.mem_singleton]at hr
   subst hr;exact h
theorem Ig{p:Pb} (h:probE p=0) (hc:∀ c∈p.t.cases,∀ y∈c.inp,bK y) (hw:∀ x∈aZ p,∀ r∈x,nl r) (ht:(execsS p (aZ p) (iz p)).1.length<=8192):∀ i,i<=p.t.cases.length * (aZ p).length->(∀ v∈(stP p i).1,qp v)/\∀ x∈(stP p i).2,ExGood x
 | 0,_=>⟨fun v hv=>by simp[stP,execsS]at hv,fun x hx=>by simp[stP,execsS]at hx⟩
 | i+1,hi=>by
  obtain⟨h1,h2⟩:=Ig h hc hw ht i (by omega);obtain⟨htk,_,_,vY,FU⟩:=cX h;obtain⟨⟨_,kr⟩,_,_,⟨_,bW⟩,gL⟩:=dY htk;have kl:(stP p i).1.length<=8192:=Nat.le_trans (vO p (aZ p) (iz p) i) ht;have aF:i<p.t.cases.length * (aZ p).length:=by omega
  have sP:0<(aZ p).length:=by
   rcases Nat.eq_zero_or_pos (aZ p).length with h|h
   ·rw[h]at aF;simp at aF
   ·exact h
  have vX:i / (aZ p).length<p.t.cases.length:=by rw[Nat.div_lt_iff_lt_mul sP];exact aF
  have hj:i % (aZ p).length<(aZ p).length:=Nat.mod_lt _ sP;have eN:=If p i aF;unfold nQ at eN;dsimp only at eN;rw[aA default vX,aA [] hj]at eN
  have VX:((aZ p)[i % (aZ p).length]).length<=6:=by
   have:=uK p.a p.rounds.toNat 0 _ (List.getElem_mem (l:=aZ p) hj);omega
  have cK:=E4 p.t.n.toNat (by omega) (p.t.cases[i / (aZ p).length]).inp (hc _ (List.getElem_mem vX)) (aZ p)[i % (aZ p).length] (stP p i).1 h1 _ VX (by omega);have hrows:=zt p.t.n.toNat (p.t.cases[i / (aZ p).length]).inp (aZ p)[i % (aZ p).length] (stP p i).1 ((aZ p)[i % (aZ p).length]).length;have cZ:=(lX p.t.n.toNat (p.t.cases[i / (aZ p).length]).inp (aZ p)[i % (aZ p).length] (stP p i).1 ((aZ p)[i % (aZ p).length]).length).1;rw[eN];refine⟨cK.1,fun x hx=>?_⟩;rcases List.mem_append.1 hx with hx|hx
  ·exact h2 x hx
  ·rw[List.mem_singleton]at hx
   subst hx;exact⟨DR _ (by omega),⟨VX,hw _ (List.getElem_mem hj)⟩,by simp only[i8];omega,fun row hr=>by have:=hrows row hr;omega,fun row hr z hz=>by have:=cK.2 row hr z hz;exact⟨by omega,by omega⟩⟩
end Go.Proofs.YtkfgpnbpcpdclaaGreat
namespace Go.Proofs.YtkfgpnbpcpdclaaGreat
open Go.RowKit Go Go.Shelf
attribute [local go_sem] Oper.semAt_some
structure BEnd (p:Pb) (w wd:World) (uc us vt ve:Value) (xs:List Value) (st:List Vw × List Ex) (D:Nat) (X:World):Prop where
 old:Below wd.heap.size wd X
 r2:X.heap[w.heap.size+1]?=some (.cells zeroSys 107)
 r3:X.heap[w.heap.size+1+1]?=some (.cells #[.int .i64 0] 42)
 s:X.heap[wd.heap.size]?=some (.cells (ru p uc us p.t.n vt ve) 107)
 tab:aL X wd.heap.size 200 8 vt st.1.length (kJ st.1)
 ex:aL X wd.heap.size 157 3 ve st.2.length xs
 els:∀ i (hi:i<st.2.length),L7 X wd.heap.size xs i st.2[i]
 d:X.heap[D]?=some (.deferred (some []))
theorem Ov{w X:World} {D:Nat} {T:Array Value} {R:Ending->World->Prop} (hb:Below w.heap.size w X) (hR:X.heap[w.heap.size+1]?=some (.cells zeroSys 107)) (hE:X.heap[w.heap.size+1+1]?=some (.cells #[.int .i64 0] 42)) (hd:X.heap[D]?=some (.deferred (some []))) (hD:w.heap.size+1+1<D)
  (c0 c1 c2 c3 c4 c5 c6 c7 c8 c9:Value) (h2:T[2]?.getD undef=.pointer (some ⟨w.heap.size+1,0,none⟩)) (h3:T[3]?.getD undef=.pointer (some ⟨w.heap.size+1+1,0,none⟩))
  (hK:∀ Wf:World,Below w.heap.size w Wf->(∀ k,k≠w.heap.size+1->k≠w.heap.size+1+1->k≠D->Wf.heap[k]?=X.heap[k]?)->R (.returned (.tuple #[.agg #[c0,c1,c2,c3,c4,c5,c6,c7,c8,c9],.int .i64 0])) Wf) :
  bodyPostM Fence.wide 0 Tryz.prog Tryz.f35 R .ret { tmps:=T,defers:=[jY D] } (((((((((((X.setCell ⟨w.heap.size+1,0,none⟩ c0).setCell ⟨w.heap.size+1,1,none⟩ c1).setCell ⟨w.heap.size+1,2,none⟩ c2).setCell ⟨w.heap.size+1,3,none⟩ c3).setCell ⟨w.heap.size+1,4,none⟩ c4).setCell ⟨w.heap.size+1,5,none⟩ c5).setCell ⟨w.heap.size+1,6,none⟩ c6).setCell ⟨w.heap.size+1,7,none⟩ c7).setCell ⟨w.heap.size+1,8,none⟩ c8).setCell ⟨w.heap.size+1,9,none⟩ c9).setCell ⟨w.heap.size+1+1,0,none⟩ (.int .i64 0)).drew:=by
 obtain⟨q1,q2,q3,q4⟩:=sk (B:=w.heap.size+1) hb (by omega) hR rfl hE c0 c1 c2 c3 c4 c5 c6 c7 c8 c9 0
 revert q1 q2 q3 q4
 generalize (((((((((((X.setCell ⟨w.heap.size+1,0,none⟩ c0).setCell ⟨w.heap.size+1,1,none⟩ c1).setCell ⟨w.heap.size+1,2,none⟩ c2).setCell ⟨w.heap.size+1,3,none⟩ c3).setCell ⟨w.heap.size+1,4,none⟩ c4).setCell ⟨w.heap.size+1,5,none⟩ c5).setCell ⟨w.heap.size+1,6,none⟩ c6).setCell ⟨w.heap.size+1,7,none⟩ c7).setCell ⟨w.heap.size+1,8,none⟩ c8).setCell ⟨w.heap.size+1,9,none⟩ c9).setCell ⟨w.heap.size+1+1,0,none⟩ (.int .i64 0))=Y;intro q1 q2 q3 q4;have q1':Y.drew.heap[w.heap.size+1]?=_:=q1;have q2':Y.drew.heap[w.heap.size+1+1]?=_:=q2;have q4':∀ k,k≠w.heap.size+1->k≠w.heap.size+1+1->Y.drew.heap[k]?=X.heap[k]?:=q4;have q3':=q3.drew;generalize Y.drew=Z at q1' q2' q3' q4' ⊢;refine dH ((q4' D (by omega) (by omega)).trans hd) (pJ T (w.heap.size+1) _ c0 c1 c2 c3 c4 c5 c6 c7 c8 c9 0 h2 h3 ((World.putObj_heap_other (by omega)).trans q1') ((World.putObj_heap_other (by omega)).trans q2')) ?_;exact hK _ (cT (by omega) q3') (fun k a b c=>(World.putObj_heap_other c).trans (q4' k a b))
theorem TV{p:Pb} {w w2 wd X Wf:World} {D:Nat} {uc us vt ve:Value} {xs:List Value} {st:List Vw × List Ex} (h:BEnd p w wd uc us vt ve xs st D X)
  (Db:∀ W':World,(∀ k o,w2.heap.size<=k->wd.heap[k]?=some o->W'.heap[k]?=some o)->bJ W' uc p.t.cases/\bn W' us p.a.states) (oN:w.heap.size+1+1<w2.heap.size) (hDd:wd.heap.size<=D)
  (hg:(∀ v∈st.1,qp v)/\∀ x∈st.2,ExGood x) (kd:st.1.length<=8192) (l8:st.2.length<=4096) (hf:∀ k,k≠w.heap.size+1->k≠w.heap.size+1+1->k≠D->Wf.heap[k]?=X.heap[k]?):IsSys Wf ⟨p,p.t.n,st.1,st.2⟩ uc us vt ve:=by
 have tr:∀ {b:Nat} {e:TypeId} {k:Nat} {v:Value} {n:Nat} {ys:List Value},aL X b e k v n ys->e≠107->e≠42->aL Wf b e k v n ys:=fun {b e k v n ys} ho h1 h2=>ho.keepT fun g o e1 e2=>
  (hf g (fun e'=>ho.ne h.r2 h1 g e1 e') (fun e'=>ho.ne h.r3 h2 g e1 e') (fun e'=>ho.isCells h.d rfl (by rw[e1,e']))).trans e2
 obtain⟨k1,k2⟩:=Db Wf (fun k o hk ho=>by
  have aF:=aB ho;rw[hf k (by omega) (by omega) (by omega)]
  exact(h.old.block k aF).trans ho)
 refine⟨k1,k2,Ou (tr h.tab (by decide) (by decide)) hg.1 (show st.1.length<=17592186044416 by omega),TU (tr h.ex (by decide) (by decide)) (fun i hi=>?_) hg.2 (show st.2.length<=17592186044416 by omega)⟩;obtain⟨a,d,p1,p2,p3,p4,ys,p5,p6⟩:=h.els i hi;exact⟨a,d,p1,p2,p3,tr p4 (by decide) (by decide),ys,tr p5 (by decide) (by decide),fun j hj=>by obtain⟨y,r1,r2⟩:=p6 j hj;exact⟨y,r1,tr r2 (by decide) (by decide)⟩⟩
theorem E6(p:Pb) (vc vs:Value) (w:World) (hc:bJ w vc p.t.cases) (hs:bn w vs p.a.states) (hN:movesN p.a.states<1099511627776) :
  Calls Tryz.prog 35 #[jI p vc vs] w fun e w'=>∃ c,e=.returned (.tuple #[.agg c,.int .i64 (buildE p)])/\(buildE p=0->∃ uc us vt ve,c=ru p uc us p.t.n vt ve/\IsSys w' (dR p) uc us vt ve)/\(buildE p≠0->c=zeroSys)/\Below w.heap.size w w':=by
 have GC:=aa hc;have GS:=aa hs;obtain⟨pc,cc,rfl,lc1,lc2,ec⟩:=hc.at;obtain⟨ps,cs,rfl,_⟩:=hs.at;have EC:=aa ec;clear hc hs ec;refine eI Tryz.func35 rfl ?_;simp only[Tryz.ntmps35,List.size_toArray,List.length_cons,List.length_nil,Nat.reduceAdd,Nat.reduceSub,Array.replicate_succ,Array.replicate_zero,List.push_toArray,List.append_toArray,List.nil_append,List.cons_append]
 go_wp2_with fail
 refine aT (fun W=>Below w.heap.size w W/\W.heap[w.heap.size]?=some (.cells #[.int .i64 p.t.n,.int .i64 p.t.ins,.int .i64 p.t.outs,.slice pc p.t.cases.length cc,.int .i64 p.a.n,.slice ps p.a.states.length cs,.int .i64 p.rounds] 29)/\W.heap[w.heap.size+1]?=some (.cells zeroSys 107)/\W.heap[w.heap.size+1+1]?=some (.cells #[.int .i64 0] 42)) ⟨by go_grown,aq _ (aq _ (ar _ _)),aq _ (aX _ _ _),cV _ _ _ _⟩ (fun W0 bd=>?_);obtain⟨aH,bD,iq,I5⟩:=bd;refine(Gd p _ _ W0 (GC.out.up up_case aH) (GS.out.up up_moves aH) hN (fun h=>by have:=(dY (cX h).1).2.2.2.1;omega)).mono ?_;rintro e w1 ⟨rfl,aG⟩;have dD:=aj aH aG;have fd:=aa (ak aG bD);have jx:=aa (ak aG iq);have jP:=aa (ak aG I5);have du:=aG.size;have hzE:=aB jP.out;clear bD iq I5
 have bY:((dS p).2=buildE p/\buildE p≠0)\/((dS p).2=0/\probE p=0/\(dS p).1=((p.t.cases.length * (aZ p).length:Nat):Int)):=by
  by_cases hp:probE p=0
  ·obtain⟨h1,h2⟩:=J5 hp
   by_cases h3:(dS p).2=0
   ·exact .inr ⟨h3,hp,h2 h3⟩
   ·obtain⟨h4,h5⟩:=h1 h3
    have:buildE p=17:=by unfold buildE;rw[if_neg (by simpa using hp),if_pos h5]
    exact .inl ⟨by rw[h4,this],by rw[this];decide⟩
  ·have:buildE p=probE p:=by unfold buildE;rw[if_pos hp]
   exact .inl ⟨by rw[this];unfold dS;rw[if_pos hp],by rw[this];exact hp⟩
 rcases bY with ⟨he,bH⟩|⟨he,hp,oE⟩
 ·obtain⟨eb,iK⟩:∃ x,x=buildE p:=⟨_,rfl⟩
  rw[he];rw[<-iK]at bH ⊢;have qJ:=aa bH;have KD:=aa iK;clear iK;have he':(eb != 0)=true:=by simpa using bH
  have cR:=ae jx.out;have zR:=fun o=>aD jx.out o
  have cE:=ae jP.out 0;have zE:=aD jP.out 0;simp at cE;clear he bH
  go_wp2_with fail
  obtain⟨q1,q2,q3,_⟩:=sk dD (by omega) jx.out rfl jP.out (.int .i64 0) (.int .i64 0) (.int .i64 0) (.slice none 0 0) (.int .i64 0) (.slice none 0 0) (.int .i64 0) (.int .i64 0) (.slice none 0 0) (.slice none 0 0) eb;refine fH (pJ _ (w.heap.size+1) _ _ _ _ _ _ _ _ _ _ _ eb rfl rfl q1 q2) ?_;rw[<-KD.out];exact⟨_,rfl,fun e=>absurd e qJ.out,fun _=>rfl,q3⟩
 rw[he,oE];obtain⟨ht,ha,z',vY,FU⟩:=cX hp;obtain⟨⟨htn1,htn5⟩,_,_,⟨hcl1,bW⟩,gL⟩:=dY ht;have HNN:=aa z';have eM:=aa gL;clear z' gL;by_cases C6:4096<p.t.cases.length * (aZ p).length
 ·have KD:Hid (buildE p=17):=aa (by unfold buildE;rw[if_neg (by simpa using hp),if_pos C6])
  have Vu:(4096:Int)<((p.t.cases.length * (aZ p).length:Nat):Int):=by omega
  have cR:=ae jx.out;have zR:=fun o=>aD jx.out o
  have cE:=ae jP.out 0;have zE:=aD jP.out 0;simp at cE;generalize ((p.t.cases.length * (aZ p).length:Nat):Int)=nI at Vu;clear he oE C6 hp ht ha vY FU
  go_wp2_with fail
  obtain⟨q1,q2,q3,_⟩:=sk dD (by omega) jx.out rfl jP.out (.int .i64 0) (.int .i64 0) (.int .i64 0) (.slice none 0 0) (.int .i64 0) (.slice none 0 0) (.int .i64 0) (.int .i64 0) (.slice none 0 0) (.slice none 0 0) 17;refine fH (pJ _ (w.heap.size+1) _ _ _ _ _ _ _ _ _ _ _ 17 rfl rfl q1 q2) ?_;rw[KD.out];exact⟨_,rfl,fun e=>absurd e (by decide),fun _=>rfl,q3⟩
 have Cy:=aa (J6 hp C6);have Vu:¬ (4096:Int)<((p.t.cases.length * (aZ p).length:Nat):Int):=by omega
 generalize hnI:((p.t.cases.length * (aZ p).length:Nat):Int)=nI at Vu;have tA:=ae fd.out;have HP:=aa hp;clear he oE
 go_wp2_with fail
 refine(NX p.a _ p.rounds w1 (GS.out.up up_moves dD) hN).mono ?_;rintro e w2 ⟨u,rfl,hu,hulo,aS⟩;rw[Cy.out]at hu ⊢;dsimp only at hu ⊢;have dU:=aj dD aS;have yf:=aa hu;have HULO:=aa hulo;clear hulo;obtain⟨pw,cw,rfl,lw1,lw2,_⟩:=hu.at;clear hu tA;have tA:=ae (ak aS fd.out)
 go_wp2_with fail
 refine(DL p _ _ w2 (GC.out.up up_case dU) (GS.out.up up_moves dU) ht ha (Cd HP.out)).mono ?_;rintro e wd ⟨uc,us,rfl,Db,bA⟩;have HCP:=aa Db;obtain⟨Wv,Uy⟩:=Db wd (fun _ _ _ h=>h);clear Db;have eB:=dU.size;have wn:=bA.size;have hzW:=aB fd.out;have Sb:=aj dU bA;have hzb2:=aS.size;have hltd:w.heap.size<wd.heap.size:=by omega
 have HUC:=aa Wv;have HUS:=aa Uy;obtain⟨pu,cu,rfl,_⟩:=Wv.at;obtain⟨pv,cv,rfl,_⟩:=Uy.at;have U4:=aa (ak (aj aS bA) fd.out);have HRd:=aa (ak (aj aS bA) jx.out);have Vj:=aa (ak (aj aS bA) jP.out);have HUd:=aa (yf.out.up up_words bA);have HCd:=aa (GC.out.up up_case Sb);have Cz:=fun w=>Gt Tryz.prog 149 w
 clear Wv Uy tA;have tA:=ae U4.out;have tA4:∀ o1 o2 o3 o4 o,((((wd.alloc o1).alloc o2).alloc o3).alloc o4).cell? ⟨w.heap.size,o,none⟩=_:=fun o1 o2 o3 o4=>ae (aq _ (aq _ (aq _ (aq _ U4.out))))
 go_wp2_with fail
 refine aT (fun W=>BInv p (.slice pu p.t.cases.length cu) (.slice pv p.a.states.length cv) wd wd.heap.size (wd.heap.size+1+1+1) (wd.heap.size+1+1) (wd.heap.size+1) [] [] W) ?_ (fun W4 hI4=>?_)
 ·refine⟨by go_grown,Nat.le_refl _,lY _ _ _ _ _,⟨_,[],aq _ (aq _ (aq _ (ar _ _))),aL.nil _ _ _ _,fun i hi=>by simp at hi⟩,⟨by omega,_,?_,by omega,aL.nil _ _ _ _,#[],0,aq _ (aq _ (aX _ _ _)),rfl⟩⟩
  rw[Int.toNat_of_nonneg (by omega)];exact aq _ (cV _ _ _ _)
 refine(DO p _ _ _ _ _ _ _ _ _ W4).mono ?_;rintro e w5 ⟨rfl,rfl⟩;have HI4:=aa hI4;have UT:=hI4.old.size;have hzb:=aB hI4.bx;clear hI4 tA tA4 Cz
 go_wp2_with fail
 refine bw (fun W=>BInv p (.slice pu p.t.cases.length cu) (.slice pv p.a.states.length cv) wd wd.heap.size (wd.heap.size+1+1+1) (wd.heap.size+1+1) (wd.heap.size+1) [] [] W/\W.heap[W4.heap.size]?=some (.cells #[.int .i64 p.t.n,.int .i64 p.t.ins,.int .i64 p.t.outs,.slice pc p.t.cases.length cc,.int .i64 p.a.n,.slice ps p.a.states.length cs,.int .i64 p.rounds] 29)/\W.heap[W4.heap.size+1]?=some (.cells #[.slice pw (aZ p).length cw] 144)/\W4.heap.size+1<W.heap.size) ⟨HI4.out.up (by go_grown),aq _ (ar _ _),aX _ _ _,by simp⟩ (fun W5 qP=>?_);obtain⟨SA,SP,CT,Tf⟩:=qP;obtain⟨ws,hwsl,aw,capw,ew,gM⟩:=TR HUd.out;cases ew
 have bP:=B6 wd p.t.cases.length (aZ p).length pw cw ws (by have:=Nat.mul_le_mul_right (aZ p).length hcl1;omega) (by omega) (fun j hj=>by
  obtain⟨b,o,h1,h2,h3⟩:=gM j hj;obtain⟨a',c',e',_⟩:=h3.at
  exact⟨b,o,h1,gc h2,h2,a',_,c',e'⟩) ⟨lw1,by obtain⟨a9,c9,e9,⟨_,h9,_⟩,_⟩:=HUd.out;cases e9;exact h9⟩ W5 SA.old W4.heap.size (W4.heap.size+1) _ _ _ _ _ _ _ _ SP CT
 have Gz:=aa gM;have Gx:=aa C6
 have IL:Hid (∀ ad,pw=some ad->w1.heap.size<=ad.block/\ad.block<wd.heap.size):=aa (fun ad e=>by
  subst e;refine⟨HULO.out ad _ _ rfl,?_⟩
  have hWl:0<(aZ p).length:=by
   have h9:=Ot (iP ha).2.1 (by have:=(iP ha).1;omega) p.rounds.toNat 0 (by have:=(iP ha).1;omega);exact h9
  obtain⟨b,o,h1,h2,_⟩:=gM 0 hWl;cases h1
  exact gc h2)
 have hzI:=SA.old.size;clear gM C6
 refine kG (gf:=102) (lb:=#[.pointer (some ⟨W4.heap.size,0,none⟩),.pointer (some ⟨W4.heap.size+1,0,none⟩)]) rfl (enters_of Tryz.func102 (by kernel_rfl) rfl) bP (Below.refl _ _) (fun k hk=>by
   rcases hk with hk|⟨ad,e1,rfl⟩
   ·omega
   ·have:=IL.out ad e1;omega) (fun i=>rfl)
  (fun i W=>BInv p (.slice pu p.t.cases.length cu) (.slice pv p.a.states.length cv) wd wd.heap.size (wd.heap.size+1+1+1) (wd.heap.size+1+1) (wd.heap.size+1) (stP p i).1 (stP p i).2 W/\W.heap[W4.heap.size+1]?=some (.cells #[.slice pw (aZ p).length cw] 144)/\(stP p i).1.length<=8192)
  (fun c _ W=>c=.ret/\buildE p=17/\Below w.heap.size w W/\W.heap[w.heap.size+1]?=some (.cells zeroSys 107)/\W.heap[w.heap.size+1+1]?=some (.cells #[.int .i64 17] 42))
  (fun i=>(BInv.sta (by omega) (by omega)).and (bR.cells.and bR.pure)) (fun c i=>bR.pure.and (bR.pure.and ((bR.below (by omega)).and (bR.cells.and bR.cells)))) ⟨SA,CT,by simp[stP,execsS]⟩ ?round ?done ?stop
 case stop=>
  rintro D c i W hD hi ⟨rfl,im,hb,q1,q2⟩ hK;have h1:(W.putObj D (.deferred none)).heap[w.heap.size+1]?=_:=(World.putObj_heap_other (by omega)).trans q1;have h2:(W.putObj D (.deferred none)).heap[w.heap.size+1+1]?=_:=(World.putObj_heap_other (by omega)).trans q2
  go_wp2_with fail
  refine dH hK (pJ _ (w.heap.size+1) _ _ _ _ _ _ _ _ _ _ _ 17 (by rfl) (by rfl) h1 h2) ?_;rw[im];exact⟨_,rfl,fun e=>absurd e (by decide),fun _=>rfl,cT (by omega) hb⟩
 case done=>
  intro D W hD hI hK;obtain⟨aO,Jc,vj⟩:=hI
  have aM:stP p (p.t.cases.length * (aZ p).length)=execsS p (aZ p) (iz p):=by
   unfold stP;rw[List.take_of_length_le (by rw[rb];exact Nat.le_refl _)]
  have GG:=Ig HP.out (fun c hc=>(H9 GC.out c hc).1) (fun x hx=>Hp p.a (Ey GS.out) _ _ x hx) (by rw[<-aM];exact vj) _ (Nat.le_refl _);have GH:=E5 p (aZ p) (iz p) ([],[]);have kA:=rb p
  have KD:Hid (buildE p=0):=aa (by
   unfold buildE;have h3:(dR p).tab=(execsS p (aZ p) (iz p)).1:=rfl
   rw[if_neg (by simpa using HP.out),if_neg Gx.out,if_neg (by rw[h3,<-aM];omega)])
  have qH:Hid (dR p=⟨p,p.t.n,(execsS p (aZ p) (iz p)).1,(execsS p (aZ p) (iz p)).2⟩):=aa rfl;change (execsS p (aZ p) (iz p)).2.length=_ at GH;rw[aM]at GG aO vj;generalize execsS p (aZ p) (iz p)=st at GG aO vj qH GH;have HGOOD:=aa GG;have Ft:st.2.length<=4096:=by have:=Gx.out;simp at GH;omega
  clear aM GG GH kA;obtain⟨ve,xs,jg,iu,ks⟩:=aO.s;obtain⟨vs9,b1',b2',b3',b4'⟩:=aO.bld.ex;obtain⟨av,cve,rfl⟩:=iu.slice;obtain⟨a7,c7,rfl⟩:=b3'.slice;have dB:=aa aO;have rQ:=aa jg;have gj:=aa iu;have UY:=aa ks;have fE:=aa b3';rw[Int.toNat_of_nonneg (by omega)]at b1';have tb:=ae b1';have tx:=ae aO.bx 0;have ts7:=ae (show W.drew.heap[wd.heap.size]?=_ from jg) 7;have ts8:=ae (show W.drew.heap[wd.heap.size]?=_ from jg) 8;have zs7:=aD (show W.drew.heap[wd.heap.size]?=_ from jg) 7;have zs8:=aD (show W.drew.heap[wd.heap.size]?=_ from jg) 8;simp at tx ts7 ts8;have hzW:=aO.old.size;clear aO jg iu ks b1' b2' b3' b4' bP SA Jc SP CT
  go_wp2_with fail
  go_still_tail 9,(by kernel_rfl)
  change wpList _ _ _ _ _ W.drew;clear tb tx;have hQ:=aE (aE (show W.drew.heap[wd.heap.size]?=_ from rQ.out) 7 (.int .i64 p.t.n)) 8 (.slice a7 st.1.length c7)
  have hI:BEnd p w wd (.slice pu p.t.cases.length cu) (.slice pv p.a.states.length cv) (.slice a7 st.1.length c7) (.slice av st.2.length cve) xs st D ((W.drew.setCell ⟨wd.heap.size,7,none⟩ (.int .i64 p.t.n)).setCell ⟨wd.heap.size,8,none⟩ (.slice a7 st.1.length c7)):=by
   have hwd1:(W.drew.setCell ⟨wd.heap.size,7,none⟩ (.int .i64 p.t.n)).heap[wd.heap.size]?=_:=aE (show W.drew.heap[wd.heap.size]?=_ from rQ.out) 7 (.int .i64 p.t.n);have kt:KeepT [107] [] wd.heap.size W ((W.drew.setCell ⟨wd.heap.size,7,none⟩ (.int .i64 p.t.n)).setCell ⟨wd.heap.size,8,none⟩ (.slice a7 st.1.length c7)):=((KeepT.refl _ _ _).drew.set (show W.drew.heap[wd.heap.size]?=_ from rQ.out) (by simp) (Nat.le_refl _) _).set hwd1 (by simp) (Nat.le_refl _) _;have bS:=KeepT.below9 dB.out.old (KeepT.refl (ms:=[]) [] _ W) kt;refine⟨bS,ak bS HRd.out,ak bS Vj.out,hQ,kt.own fE.out (by decide),kt.own gj.out (by decide),fun i hi=>?_,kt.oth _ _ hK rfl (by simp)⟩;obtain⟨a,d,p1,p2,p3,p4,p5⟩:=UY.out i hi;exact⟨a,d,p1,p2,p3,kt.own p4 (by decide),kt.fresh p5 (by decide) (by decide)⟩
  have ml:BEnd p w wd (.slice pu p.t.cases.length cu) (.slice pv p.a.states.length cv) (.slice a7 st.1.length c7) (.slice av st.2.length cve) xs st D (((W.setCell ⟨wd.heap.size,7,none⟩ (.int .i64 p.t.n)).setCell ⟨wd.heap.size,8,none⟩ (.slice a7 st.1.length c7))).drew:=hI;have HEND:=aa ml;have jg:(((W.setCell ⟨wd.heap.size,7,none⟩ (.int .i64 p.t.n)).setCell ⟨wd.heap.size,8,none⟩ (.slice a7 st.1.length c7))).heap[wd.heap.size]?=_:=ml.s;have iu:(((W.setCell ⟨wd.heap.size,7,none⟩ (.int .i64 p.t.n)).setCell ⟨wd.heap.size,8,none⟩ (.slice a7 st.1.length c7))).heap[w.heap.size+1]?=_:=ml.r2;have ks:(((W.setCell ⟨wd.heap.size,7,none⟩ (.int .i64 p.t.n)).setCell ⟨wd.heap.size,8,none⟩ (.slice a7 st.1.length c7))).heap[w.heap.size+1+1]?=_:=ml.r3;have tQ:=ae jg;have cR:=ae iu;have zR:=fun o=>aD iu o
  have cE:=ae ks;have zE:=fun o=>aD ks o
  have tQd:=ae ml.s;have cRd:=ae ml.r2;have zRd:=fun o=>aD ml.r2 o
  have cEd:=ae ml.r3;have zEd:=fun o=>aD ml.r3 o
  have FX:(W.setCell ⟨wd.heap.size,7,none⟩ (.int .i64 p.t.n)).heap[wd.heap.size]?=_:=aE rQ.out 7 _;have zs8a:=aD FX 8;have zs8b:=aD (show (W.setCell ⟨wd.heap.size,7,none⟩ (.int .i64 p.t.n)).drew.heap[wd.heap.size]?=_ from FX) 8;have KU:BEnd p w wd (.slice pu p.t.cases.length cu) (.slice pv p.a.states.length cv) (.slice a7 st.1.length c7) (.slice av st.2.length cve) xs st D ((W.setCell ⟨wd.heap.size,7,none⟩ (.int .i64 p.t.n)).setCell ⟨wd.heap.size,8,none⟩ (.slice a7 st.1.length c7)):=⟨⟨ml.old.os,ml.old.tape,ml.old.output,ml.old.size,ml.old.block⟩,ml.r2,ml.r3,ml.s,ml.tab,ml.ex,ml.els,ml.d⟩;have qh:=aa (And.intro (aj Sb KU.old) (And.intro KU.r2 (And.intro KU.r3 (And.intro KU.d KU))));clear hQ hI ml KU jg iu ks FX
  go_wp2_with fail
  refine Ov (X:=((W.setCell ⟨wd.heap.size,7,none⟩ (.int .i64 p.t.n)).setCell ⟨wd.heap.size,8,none⟩ (.slice a7 st.1.length c7))) qh.out.1 qh.out.2.1 qh.out.2.2.1 qh.out.2.2.2.1 (by omega) _ _ _ _ _ _ _ _ _ _ rfl rfl (fun Wf oa hff=>?_);rw[KD.out,qH.out];exact⟨_,rfl,fun _=>⟨_,_,_,_,rfl,TV qh.out.2.2.2.2 HCP.out (by omega) (by omega) HGOOD.out vj Ft hff⟩,fun e=>absurd rfl e,oa⟩
 case round=>
  intro yl i W hi hl hI;obtain⟨aO,Jc,vj⟩:=hI;have eN:=If p i hi;have HOVER:=aa (L6 HP.out Gx.out (i+1))
  have sP:0<(aZ p).length:=by
   rcases Nat.eq_zero_or_pos (aZ p).length with h|h
   ·rw[h]at hi;simp at hi
   ·exact h
  have hc:i / (aZ p).length<p.t.cases.length:=by rw[Nat.div_lt_iff_lt_mul sP];exact hi
  have hj:i % (aZ p).length<(aZ p).length:=Nat.mod_lt _ sP;obtain⟨_,_,hpw,_,De⟩:=Gz.out _ hj;clear hpw;unfold QS
  have hwl6:((aZ p)[i % (aZ p).length]).length<=6:=by
   have:=uK p.a p.rounds.toNat 0 _ (List.getElem_mem (l:=aZ p) hj);omega
  obtain⟨pc',cc',ec',_,_,ecc⟩:=HCd.out.at;cases ec';obtain⟨b1,o1,ec1,⟨vi,dvi,Jl⟩,_,_⟩:=ecc _ hc
  have dI:p.t.n.toNat<=(p.t.cases[i / (aZ p).length]).inp.length:=by
   have:=(eM.out _ (List.getElem_mem hc)).inp;omega
  unfold nQ at eN;dsimp only at eN;rw[aA default hc,aA [] hj]at eN;generalize p.t.cases[i / (aZ p).length]=cs0 at Jl dI eN;generalize (aZ p)[i % (aZ p).length]=word at De hwl6 eN;generalize ws.getD (i % (aZ p).length) undef=wv at De ⊢;generalize i / (aZ p).length=ci at hc dvi eN ⊢
  have pY:(stP p i).2.length<=4096:=by
   have h9:=E5 p (aZ p) ((iz p).take i) ([],[]);have h8:=rb p;have h7:=Gx.out;change (stP p i).2.length=_ at h9;simp at h9;omega
  generalize stP p i=st at aO vj eN pY;have kX:=aa eN;have Fg:=aa De;have HVI:=aa Jl;obtain⟨pwv,cwv,rfl,_⟩:=De.at;obtain⟨pvi,cvi,rfl,_⟩:=Jl.at;subst ec1;clear eN De Jl ecc;dsimp only
  gi_wp2
  refine⟨Bod.refl _ _ _,(fun X=>BInv p (.slice pu p.t.cases.length cu) (.slice pv p.a.states.length cv) wd wd.heap.size (wd.heap.size+1+1+1) (wd.heap.size+1+1) (wd.heap.size+1) st.1 st.2 X/\X.heap[W4.heap.size+1]?=some (.cells #[.slice pw (aZ p).length cw] 144)),(BInv.sta (by omega) (by omega)).and bR.cells,⟨aO,Jc⟩,fun V hV _=>?_⟩;obtain⟨pM,oN⟩:=hV;clear aO Jc;obtain⟨ve,xs,jg,iu,ks⟩:=pM.s;obtain⟨av,cve,rfl⟩:=iu.slice;have dB:=aa pM;have rQ:=aa jg;have gj:=aa iu;have UY:=aa ks;have jf:=aa oN;have hzV:=pM.old.size;clear pM jg iu ks oN;obtain⟨i0,fZ,ww,xX,rM⟩:=info_parts Tryz.infoExec
  gi_wp2
  refine wF 17 [49,50,51,52,53,54,55,56,57,58,59,60,61,62,63,64,65] [some (.pointer (some ⟨wd.heap.size,9,none⟩)),
   some (.slice av st.2.length cve),
   some (.int .i64 (ci:Int)),
   some (.slice pwv word.length cwv),
   none,
   some (.pointer (some ⟨wd.heap.size+1+1,0,none⟩)),
   some (.pointer (some ⟨w.heap.size,0,none⟩)),
   some (.pointer (some ⟨w.heap.size,3,none⟩)),
   some (.slice (some ⟨b1,o1,none⟩) p.t.cases.length cc),
   some (.int .i64 (ci:Int)),
   some (.pointer (some ⟨b1,o1+ci * 3,none⟩)),
   some (.pointer (some ⟨b1,o1+ci * 3,none⟩)),
   some (.slice pvi cs0.inp.length cvi),
   some (.slice pwv word.length cwv),
   none,
   none,
   none] (BCore wd.heap.size (wd.heap.size+1+1) (wd.heap.size+1) p.t.n.toNat st.1 (i8 p.t.n.toNat cs0.inp word st.1).1 ci word (i8 p.t.n.toNat cs0.inp word st.1).2 V) (by kernel_rfl) rfl (by decide) rfl (by kernel_rfl) (by kernel_rfl) (by kernel_rfl) (fun ⟨_,_,h⟩=>h) (by kernel_rfl) (fun _=>⟨hzV,(KeepT.refl _ _ _).drew,dB.out.bld.up (Below.refl _ _).drew,nofun,nofun,nofun,nofun⟩) ?step ?tail
  case step=>
   intro x W D i o s F hi ho hs hD cN bW al hv az hF;have bY:i=0\/i=1\/i=2\/i=3\/i=4\/i=5\/i=6\/i=7\/i=8\/i=9\/i=10\/i=11\/i=12\/i=13\/i=14\/i=15\/i=16:=by omega
   rcases bY with rfl|rfl|rfl|rfl|rfl|rfl|rfl|rfl|rfl|rfl|rfl|rfl|rfl|rfl|rfl|rfl|rfl
   all_goals (have bv:=cN _ _ hs hD;obtain rfl:=cO ho.symm;obtain rfl:=cO hs.symm)
   ·clear al hi hv
    have e7:F.getD 7 undef=.pointer (some ⟨wd.heap.size,0,none⟩):=eJ hF (by decide) rfl;clear cN bW;clear hF bv;have e7':=br e7;have HD:=aa hD;have ap:=aa az;clear hD az
    go_wp2_with fail
    refine aR.mk _ cD ?_ rfl;exact ap.out.other _ (by decide) (by decide) (by decide) (by decide)
   ·have g0:=al ⟨0,.data⟩ (by simp) rfl
    have d0:=hv 0 _ (by omega) g0 rfl;clear al hi hv;have e49:=bT hF 0 49 (by decide) rfl (by kernel_rfl) d0;clear cN bW;clear hF bv d0;have t1:=ae (az.keep.keep _ _ _ _ rQ.out (by decide)) 9;simp at t1;have e49':=br e49;have HD:=aa hD;have ap:=aa az;clear hD az;clear g0
    go_wp2_with fail
    refine aR.mk _ cD ?_ rfl;exact ap.out.other _ (by decide) (by decide) (by decide) (by decide)
   ·clear al hi hv
    have e9:F.getD 9 undef=.int .i64 (ci:Int):=eJ hF (by decide) rfl;clear cN bW;clear hF bv;have e9':=br e9;have HD:=aa hD;have ap:=aa az;clear hD az
    go_wp2_with fail
    refine aR.mk _ cD ?_ rfl;exact ap.out.other _ (by decide) (by decide) (by decide) (by decide)
   ·clear al hi hv
    have e10:F.getD 10 undef=.slice pwv word.length cwv:=eJ hF (by decide) rfl;clear cN bW;clear hF bv;have e10':=br e10;have HD:=aa hD;have ap:=aa az;clear hD az
    go_wp2_with fail
    refine aR.mk _ cD ?_ rfl;exact ap.out.other _ (by decide) (by decide) (by decide) (by decide)
   ·have g3:=al ⟨3,.data⟩ (by simp) rfl
    have d3:=hv 3 _ (by omega) g3 rfl;clear al hi hv;have e52:=bT hF 3 52 (by decide) rfl (by kernel_rfl) d3;clear cN bW;clear hF bv d3;have bS:=KeepT.below9 dB.out.old (KeepT.refl (ms:=[]) [] _ V) az.keep;have fB:=aa bS;clear bS;have e52':=br e52;have HD:=aa hD;have ap:=aa az;clear hD az;clear g3
    go_wp2_with fail
    refine(iN _ word W (Fg.out.up up_round fB.out) (by omega)).mono ?_;rintro e w9 ⟨u9,rfl,ku,eA⟩;have iU:=aa (ku.base (base':=wd.heap.size) fB.out.size);have gP:=aa eA;clear ku eA
    go_wp2_with fail
    refine aR.mk _ (fun c hc=>by cases hc) ?_ rfl;exact ap.out.clone HD.out gP.out iU.out
   ·clear al hi hv
    have e8:F.getD 8 undef=.pointer (some ⟨wd.heap.size+1+1+1,0,none⟩):=eJ hF (by decide) rfl;clear cN bW;clear hF bv;have t1:=ae (az.keep.keep _ _ _ _ dB.out.bx (by decide)) 0;simp at t1;have e8':=br e8;have HD:=aa hD;have ap:=aa az;clear hD az
    go_wp2_with fail
    refine aR.mk _ cD ?_ rfl;exact ap.out.other _ (by decide) (by decide) (by decide) (by decide)
   ·clear al hi hv
    have e1:F.getD 1 undef=.pointer (some ⟨w.heap.size,0,none⟩):=eJ hF (by decide) rfl;clear cN bW;clear hF bv;have e1':=br e1;have HD:=aa hD;have ap:=aa az;clear hD az
    go_wp2_with fail
    refine aR.mk _ cD ?_ rfl;exact ap.out.other _ (by decide) (by decide) (by decide) (by decide)
   ·have g6:=al ⟨6,.data⟩ (by simp) rfl
    have d6:=hv 6 _ (by omega) g6 rfl;clear al hi hv;have e55:=bT hF 6 55 (by decide) rfl (by kernel_rfl) d6;clear cN bW;clear hF bv d6;have e55':=br e55;have HD:=aa hD;have ap:=aa az;clear hD az;clear g6
    go_wp2_with fail
    refine aR.mk _ cD ?_ rfl;exact ap.out.other _ (by decide) (by decide) (by decide) (by decide)
   ·have g7:=al ⟨7,.data⟩ (by simp) rfl
    have d7:=hv 7 _ (by omega) g7 rfl;clear al hi hv;have e56:=bT hF 7 56 (by decide) rfl (by kernel_rfl) d7;clear cN bW;clear hF bv d7;have bS:=KeepT.below9 dB.out.old (KeepT.refl (ms:=[]) [] _ V) az.keep;have t1:=ae (ak bS U4.out) 3;simp at t1;clear bS;have e56':=br e56;have HD:=aa hD;have ap:=aa az;clear hD az;clear g7
    go_wp2_with fail
    refine aR.mk _ cD ?_ rfl;exact ap.out.other _ (by decide) (by decide) (by decide) (by decide)
   ·clear al hi hv
    have e9:F.getD 9 undef=.int .i64 (ci:Int):=eJ hF (by decide) rfl;clear cN bW;clear hF bv;have e9':=br e9;have HD:=aa hD;have ap:=aa az;clear hD az
    go_wp2_with fail
    refine aR.mk _ cD ?_ rfl;exact ap.out.other _ (by decide) (by decide) (by decide) (by decide)
   ·have g8:=al ⟨8,.data⟩ (by simp) rfl
    have d8:=hv 8 _ (by omega) g8 rfl;have g9:=al ⟨9,.data⟩ (by simp) rfl;have d9:=hv 9 _ (by omega) g9 rfl;clear al hi hv;have e57:=bT hF 8 57 (by decide) rfl (by kernel_rfl) d8;have e58:=bT hF 9 58 (by decide) rfl (by kernel_rfl) d9;clear cN bW;clear hF bv d8 d9;have e57':=br e57;have e58':=br e58;have HD:=aa hD;have ap:=aa az;clear hD az;clear g8;clear g9
    go_wp2_with fail
    refine aR.mk _ cD ?_ rfl;exact ap.out.other _ (by decide) (by decide) (by decide) (by decide)
   ·have g10:=al ⟨10,.data⟩ (by simp) rfl
    have d10:=hv 10 _ (by omega) g10 rfl;clear al hi hv;have e59:=bT hF 10 59 (by decide) rfl (by kernel_rfl) d10;clear cN bW;clear hF bv d10;have e59':=br e59;have HD:=aa hD;have ap:=aa az;clear hD az;clear g10
    go_wp2_with fail
    refine aR.mk _ cD ?_ rfl;exact ap.out.other _ (by decide) (by decide) (by decide) (by decide)
   ·have g11:=al ⟨11,.data⟩ (by simp) rfl
    have d11:=hv 11 _ (by omega) g11 rfl;clear al hi hv;have e60:=bT hF 11 60 (by decide) rfl (by kernel_rfl) d11;clear cN bW;clear hF bv d11;have bS:=KeepT.below9 dB.out.old (KeepT.refl (ms:=[]) [] _ V) az.keep;have t1:=ay bS dvi;clear bS;have e60':=br e60;have HD:=aa hD;have ap:=aa az;clear hD az;clear g11
    go_wp2_with fail
    refine aR.mk _ cD ?_ rfl;exact ap.out.other _ (by decide) (by decide) (by decide) (by decide)
   ·clear al hi hv
    have e10:F.getD 10 undef=.slice pwv word.length cwv:=eJ hF (by decide) rfl;clear cN bW;clear hF bv;have e10':=br e10;have HD:=aa hD;have ap:=aa az;clear hD az
    go_wp2_with fail
    refine aR.mk _ cD ?_ rfl;exact ap.out.other _ (by decide) (by decide) (by decide) (by decide)
   ·have g5:=al ⟨5,.data⟩ (by simp) rfl
    have d5:=hv 5 _ (by omega) g5 rfl;have g12:=al ⟨12,.data⟩ (by simp) rfl;have d12:=hv 12 _ (by omega) g12 rfl;have g13:=al ⟨13,.data⟩ (by simp) rfl;have d13:=hv 13 _ (by omega) g13 rfl;clear al hi hv;have e54:=bT hF 5 54 (by decide) rfl (by kernel_rfl) d5;have e61:=bT hF 12 61 (by decide) rfl (by kernel_rfl) d12;have e62:=bT hF 13 62 (by decide) rfl (by kernel_rfl) d13;clear cN bW;clear hF bv d5 d12 d13;have bS:=KeepT.below9 dB.out.old (KeepT.refl (ms:=[]) [] _ V) az.keep;have fB:=aa bS;clear bS;have fh:=az.bld;rw[hD]at fh;have kh:=aa (show BldIs wd.heap.size (wd.heap.size+1+1) (wd.heap.size+1) p.t.n.toNat st.1 W from fh);clear fh;have e54':=br e54;have e61':=br e61;have e62':=br e62;have HD:=aa hD;have ap:=aa az;clear hD az;clear g5;clear g12;clear g13
    go_wp2_with fail
    refine(NY wd (wd.heap.size+1+1) (wd.heap.size+1) p.t.n.toNat (by omega) st.1 _ _ cs0.inp word W fB.out HVI.out Fg.out dI hwl6 (by omega) kh.out).mono ?_;rintro e w9 ⟨u9,rfl,hf9,eA,Pa⟩;have U2:=aa (dg.lower9 hf9 fB.out.size);have gP:=aa eA;have mI:=aa Pa;clear hf9 eA Pa
    go_wp2_with fail
    refine aR.mk _ (fun c hc=>by cases hc) ?_ rfl;exact ap.out.play HD.out mI.out gP.out U2.out
   ·have g2:=al ⟨2,.data⟩ (by simp) rfl
    have d2:=hv 2 _ (by omega) g2 rfl;have g4:=al ⟨4,.data⟩ (by simp) rfl;have g14:=al ⟨14,.data⟩ (by simp) rfl;clear al hi hv;have e51:=bT hF 2 51 (by decide) rfl (by kernel_rfl) d2;have e53:=bT hF 4 53 (by decide) rfl (by kernel_rfl) rfl;have e63:=bT hF 14 63 (by decide) rfl (by kernel_rfl) rfl;clear cN bW;clear hF bv d2;obtain⟨a4,c4,q4⟩:=(az.x4 g4).slice;obtain⟨a14,c14,q14⟩:=(az.x14 g14).slice;rw[q4]at e53;rw[q14]at e63;have HG:=aa (And.intro g4 (And.intro g14 (And.intro q4 q14)));clear q4 q14;have e51':=br e51;have e53':=br e53;have e63':=br e63;have HD:=aa hD;have ap:=aa az;clear hD az;clear g2;clear g4;clear g14
    go_wp2_with fail
    refine aR.mk _ (fun c hc=>by cases hc) ?_ rfl;exact ap.out.made HG.out.1 HG.out.2.1 (by rw[HG.out.2.2.1,HG.out.2.2.2])
   ·have g15:=al ⟨15,.data⟩ (by simp) rfl
    clear al hi hv;have e64:=bT hF 15 64 (by decide) rfl (by kernel_rfl) rfl;clear cN bW;clear hF bv;obtain⟨g4,g14,q15⟩:=az.x15 g15;obtain⟨a4,c4,q4⟩:=(az.x4 g4).slice;obtain⟨a14,c14,q14⟩:=(az.x14 g14).slice;rw[q15,q4,q14]at e64;have HG:=aa (And.intro g4 (And.intro g14 (And.intro q4 q14)));clear q4 q14 q15 g4 g14;have e64':=br e64;have HD:=aa hD;have ap:=aa az;clear hD az;clear g15
    go_wp2_with fail
    refine aR.mk _ (fun c hc=>by cases hc) ?_ rfl;exact ap.out.row HG.out.1 HG.out.2.1 HG.out.2.2.1 HG.out.2.2.2
  case tail=>
   intro x W' D F aM hv az hF;have x0:=hv 0 _ (by omega) rfl;have x1:=hv 1 _ (by omega) rfl;have x2:=hv 2 _ (by omega) rfl;have x3:=hv 3 _ (by omega) rfl;have x5:=hv 5 _ (by omega) rfl;have x6:=hv 6 _ (by omega) rfl;have x7:=hv 7 _ (by omega) rfl;have x8:=hv 8 _ (by omega) rfl;have x9:=hv 9 _ (by omega) rfl;have x10:=hv 10 _ (by omega) rfl;have x11:=hv 11 _ (by omega) rfl;have x12:=hv 12 _ (by omega) rfl;have x13:=hv 13 _ (by omega) rfl;obtain⟨g4,g14,gb,q16,iK⟩:=az.x16 (aM 16 (by omega));have Ac:=az.x4 g4;have Mn:=az.x14 g14;have fh:=az.bld;rw[g14]at fh;obtain⟨a4,c4,q4⟩:=Ac.slice;obtain⟨a14,c14,q14⟩:=Mn.slice;rw[q4]at Ac;rw[q14]at Mn;rw[q4,q14]at iK;simp only[bg,bQ,List.setIfInBounds_toArray,List.set_cons_succ,List.set_cons_zero,Nat.reduceAdd,x0,x1,x2,x3,x5,x6,x7,x8,x9,x10,x11,x12,x13,q4,q14,q16]at hF;generalize x 15=y15 at hF;subst hF;have mI:=aa az.keep;have kh:=aa (show BldIs wd.heap.size (wd.heap.size+1+1) (wd.heap.size+1) p.t.n.toNat (i8 p.t.n.toNat cs0.inp word st.1).1 W' from fh);have HW4:=aa Ac;have HF14:=aa Mn;have I6:=aa iK;have HS9:=aa (mI.out.keep _ _ _ _ rQ.out (by decide));have I8:=aa (mI.out.own gj.out (by decide));clear hv aM az Ac Mn fh iK g4 g14 q4 q14 q16 x0 x1 x2 x3 x5 x6 x7 x8 x9 x10 x11 x12 x13;simp only[List.drop_succ_cons,List.drop_zero];have hzW':=mI.out.old.size
   have bj:∀ j u',[Value.int .i64 (ci:Int),Value.slice a4 word.length c4,Value.slice a14 (i8 p.t.n.toNat cs0.inp word st.1).2.length c14][j]?=some u'->W'.cell? (Addr.add ⟨gb,0,none⟩ j)=some u':=fun j u' hj=>by
    have e1:(Addr.add ⟨gb,0,none⟩ j)=⟨gb,j,none⟩:=by unfold Addr.add;split<;>simp_all
    rw[e1,ae I6.out];simpa using hj
   have bZ:=aa bj;clear bj;refine bO W' rfl (.tmp 50) (.tmp 65) 105 rfl wd.heap.size 157 i0 _ 3 56 Tryz.underlying105 fZ ww xX rM rfl (by decide) _ st.2.length xs rfl I8.out ⟨gb,0,none⟩ 1 1 [Value.int .i64 (ci:Int),Value.slice a4 word.length c4,Value.slice a14 (i8 p.t.n.toNat cs0.inp word st.1).2.length c14] rfl rfl bZ.out (by simp[Value.oneCell']) (by unfold maxLen;omega) (by omega) (by omega) ?_;intro v9 w9 mX kZ _;have JA:=gB kZ HS9.out (fun e=>I8.out.ne HS9.out (by decide) _ e rfl);have t9:=ae JA 9;have z9:=aD JA 9;simp at t9;obtain⟨a9,c9,rfl⟩:=mX.slice;have HOWN9:=aa mX;have Jg:=aa kZ;have Mp:=aa JA;clear mX kZ JA
   go_wp2_with fail
   refine QY (fun X=>BInv p (.slice pu p.t.cases.length cu) (.slice pv p.a.states.length cv) wd wd.heap.size (wd.heap.size+1+1+1) (wd.heap.size+1+1) (wd.heap.size+1) (i8 p.t.n.toNat cs0.inp word st.1).1 (st.2++[⟨ci,word,(i8 p.t.n.toNat cs0.inp word st.1).2⟩]) X/\KeepT (bldT++[157,107]) [wd.heap.size+1] wd.heap.size V X) ?_ (fun X hX=>?_)
   ·have kk:KeepT [157,107] [] wd.heap.size W' (w9.setCell ⟨wd.heap.size,9,none⟩ (.slice a9 (st.2.length+1) c9)):=((KeepT.refl _ _ _).grown I8.out (by simp) (Nat.le_refl _) (by omega) Jg.out).set Mp.out (by simp) (Nat.le_refl _) _
    have kt:KeepT (bldT++[157,107]) [wd.heap.size+1] wd.heap.size V (w9.setCell ⟨wd.heap.size,9,none⟩ (.slice a9 (st.2.length+1) c9)):=(mI.out.mono (fun t h=>List.mem_append_left _ h) (fun _ h=>h)).trans (kk.mono (fun t h=>List.mem_append_right _ h) (by simp));have nH:xs.length=st.2.length * 3:=I8.out.1;refine⟨⟨KeepT.below9 dB.out.old (KeepT.refl (ms:=[]) [] _ V) kt,Nat.le_refl _,kt.keep _ _ _ _ dB.out.bx (by decide),⟨.slice a9 (st.2.length+1) c9,xs++[Value.int .i64 (ci:Int),Value.slice a4 word.length c4,Value.slice a14 (i8 p.t.n.toNat cs0.inp word st.1).2.length c14],by rw[aE Mp.out];rfl,by rw[List.length_append,List.length_singleton];exact HOWN9.out.put (fun g e=>HOWN9.out.ne Mp.out (by decide) g e) _ _,fun i hi2=>?_⟩,(kh.out.grown I8.out (by decide) Jg.out).set Mp.out (by decide) _⟩,kt⟩;rw[List.length_append,List.length_singleton]at hi2;by_cases aF:i<st.2.length
    ·rw[List.getElem_append_left aF]
     obtain⟨a,d,p1,p2,p3,p4,p5⟩:=UY.out i aF;exact⟨a,d,by rw[List.getElem?_append_left (by omega)];exact p1,by rw[List.getElem?_append_left (by omega)];exact p2,by rw[List.getElem?_append_left (by omega)];exact p3,kk.own (mI.out.own p4 (by decide)) (by decide),kk.fresh (mI.out.fresh p5 (by decide) (by decide)) (by decide) (by decide)⟩
    ·obtain rfl:i=st.2.length:=by omega
     have e9:(st.2++[(⟨ci,word,(i8 p.t.n.toNat cs0.inp word st.1).2⟩:Ex)])[st.2.length]'(by simp)=⟨ci,word,(i8 p.t.n.toNat cs0.inp word st.1).2⟩:=by simp
     rw[e9];refine⟨.slice a4 word.length c4,.slice a14 (i8 p.t.n.toNat cs0.inp word st.1).2.length c14,?_,?_,?_,kk.own HW4.out (by decide),kk.fresh HF14.out (by decide) (by decide)⟩
     ·rw[List.getElem?_append_right (by omega),nH,Nat.sub_self];rfl
     ·rw[List.getElem?_append_right (by omega),nH,Nat.add_sub_cancel_left];rfl
     ·rw[List.getElem?_append_right (by omega),nH,Nat.add_sub_cancel_left];rfl
   obtain⟨GD,hkX⟩:=hX;have Pq:=aa GD;have wk:=aa hkX;obtain⟨vs9,b1',b2',b3',b4'⟩:=GD.bld.ex;obtain⟨a7,c7,rfl⟩:=b3'.slice;have tb:=ae b1' 1;have tx:=ae GD.bx 0;simp at tb tx;clear GD hkX b1' b2' b3' b4' t9 z9;have ma:=Pq.out.old;have Pz:=ak ma HRd.out;have PX:=ak ma Vj.out;by_cases V5:8192<(i8 p.t.n.toNat cs0.inp word st.1).1.length
   ·have hovI:(8192:Int)<((i8 p.t.n.toNat cs0.inp word st.1).1.length:Int):=by omega
    have cR:=ae Pz;have zR:=fun o=>aD Pz o
    have cE:=ae PX 0;have zE:=aD PX 0;simp at cE;have IW:Hid (buildE p=17):=aa (HOVER.out (by rw[kX.out];exact V5));have HRX:=aa Pz;have HEX:=aa PX;have sK:=aa ma;clear Pz PX ma V5
    gi_wp2
    obtain⟨q1,q2,q3,q4⟩:=sk (aj Sb sK.out) (by omega) HRX.out rfl HEX.out (.int .i64 0) (.int .i64 0) (.int .i64 0) (.slice none 0 0) (.int .i64 0) (.slice none 0 0) (.int .i64 0) (.int .i64 0) (.slice none 0 0) (.slice none 0 0) 17;refine⟨⟨?_,fun k hk=>?_,fun k o hB ho hc=>?_⟩,rfl,IW.out,q3,q1,q2⟩
    ·have:=wk.out.old.size
     simpa using this
    ·rcases hk with rfl|⟨ad,e1,rfl⟩
     ·exact(q4 _ (by omega) (by omega)).trans ((wk.out.keep _ _ _ _ jf.out (by decide)).trans jf.out.symm)
     ·have h9:=IL.out ad e1
      exact(q4 _ (by omega) (by omega)).trans (wk.out.old.block _ h9.2)
    ·exact(q4 _ (by omega) (by omega)).trans (wk.out.oth k o ho hc (by simp;omega))
   ·have hovI:¬ (8192:Int)<((i8 p.t.n.toNat cs0.inp word st.1).1.length:Int):=by omega
    clear Pz PX ma
    gi_wp2
    refine⟨⟨wk.out.old.size,fun k hk=>?_,fun k o hB ho hc=>wk.out.oth k o ho hc (by simp;omega)⟩,?_⟩
    ·rcases hk with rfl|⟨ad,e1,rfl⟩
     ·exact(wk.out.keep _ _ _ _ jf.out (by decide)).trans jf.out.symm
     ·exact wk.out.old.block _ (IL.out ad e1).2
    ·show BInv p (.slice pu p.t.cases.length cu) (.slice pv p.a.states.length cv) wd wd.heap.size (wd.heap.size+1+1+1) (wd.heap.size+1+1) (wd.heap.size+1) (stP p (i+1)).1 (stP p (i+1)).2 X/\X.heap[W4.heap.size+1]?=some (.cells #[.slice pw (aZ p).length cw] 144)/\(stP p (i+1)).1.length<=8192
     rw[kX.out];exact⟨Pq.out,wk.out.keep _ _ _ _ jf.out (by decide),Nat.le_of_not_lt V5⟩
end Go.Proofs.YtkfgpnbpcpdclaaGreat
namespace Go.Proofs.YtkfgpnbpcpdclaaGreat
open Go.RowKit Go Go.Shelf
theorem sZ(p:Pb) (vc vs:Value) (m:Mac) (vf vy vt vo:Value) (w:World) (hc:bJ w vc p.t.cases) (hs:bn w vs p.a.states) (hN:movesN p.a.states<1099511627776) (hf:bF w vf m.first) (hy:eZ w vy m.syms) (ht:dh w vt m.steps) (ho:fj w vo m.out) :
  Calls Tryz.prog 34 #[jI p vc vs,.agg (bX m vf vy vt vo)] w fun e w'=>e=.returned (.int .i64 (fx p m))/\Below w.heap.size w w':=by
 have GC:=aa hc;have GS:=aa hs;have HF:=aa hf;have HY:=aa hy;have HT:=aa ht;have HO:=aa ho;obtain⟨pc,cc,rfl,_⟩:=hc.at;obtain⟨ps,cs,rfl,_⟩:=hs.at;obtain⟨pf,cf,rfl,_⟩:=hf.at;obtain⟨py,cy,rfl,_⟩:=hy.at;obtain⟨pt,ct,rfl,_⟩:=ht.at;obtain⟨po,co,rfl,_⟩:=ho.at;clear hc hs hf hy ht ho;have HV:Hid (fx p m=if probE p≠0 then probE p else if checkE m≠0 then checkE m else if m.n≠p.t.n\/m.rounds≠p.rounds\/m.ins≠p.t.ins\/m.outs≠p.t.outs then 22 else 0):=by exact rfl
 go_enter Tryz.func34,Tryz.ntmps34
 go_wp2_with fail
 refine aT (fun W=>Below w.heap.size w W/\W.heap[w.heap.size]?=some (.cells #[.int .i64 p.t.n,.int .i64 p.t.ins,.int .i64 p.t.outs,.slice pc p.t.cases.length cc,.int .i64 p.a.n,.slice ps p.a.states.length cs,.int .i64 p.rounds] 29)/\W.heap[w.heap.size+1]?=some (.cells (bX m (.slice pf m.first.length cf) (.slice py m.syms.length cy) (.slice pt m.steps.length ct) (.slice po m.out.length co)) 35)) ⟨by go_grown,aq _ (ar _ _),aX _ _ _⟩ (fun W0 bd=>?_);obtain⟨aH,bD,iw⟩:=bd;refine(mO p _ _ W0 (GC.out.up up_case aH) (GS.out.up up_moves aH) hN).mono ?_;rintro e w1 ⟨rfl,aG⟩;have bU:=aj aH aG;have fd:=aa (ak aG bD);have KT:=ak aG iw;have jz:=aa KT;have t1:=ae KT;generalize probE p=et at HV;clear bD iw KT;by_cases iH:et=0
 case neg=>
  have D7:(et != 0)=true:=by simpa using iH
  have cU:Hid (fx p m=et):=aa (by rw[HV.out,if_pos iH]);clear t1 HV
  go_wp2_with fail
  go_ret
  exact⟨aC (by rw[cU.out]),bU⟩
 subst iH
 go_wp2_with fail
 refine(ln m _ _ _ _ w1 (HF.out.up up_ints bU) (HY.out.up up_v3 bU) (HT.out.up up_step bU) (HO.out.up up_vecs bU)).mono ?_;rintro e w2 ⟨rfl,aS⟩;have fy:=aj bU aS;clear t1;generalize checkE m=em at HV;by_cases sJ:em=0
 case neg=>
  have hem':(em != 0)=true:=by simpa using sJ
  have cU:Hid (fx p m=em):=aa (by rw[HV.out,if_neg (by simp),if_pos sJ]);clear HV
  go_wp2_with fail
  go_ret
  exact⟨aC (by rw[cU.out]),fy⟩
 subst sJ;have t2:=ae (ak aS fd.out);have t3:=ae (ak aS jz.out)
 go_wp2_with fail
 all_goals
  go_ret
  refine⟨aC ?_,fy⟩;rw[HV.out]
  go_light
  grind
end Go.Proofs.YtkfgpnbpcpdclaaGreat
