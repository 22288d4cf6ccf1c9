/-
  A part of the proof: lemmas and contracts that the parts behind it use. Each one's conditions are its own premises.
-/
import Derived.Test.YtmeaoneaephjeaaGreatDoorE9
set_option maxRecDepth 100000
set_option maxHeartbeats 8000000
set_option linter.unusedVariables false
set_option linter.unusedSimpArgs false
namespace Go.Proofs.YtmeaoneaephjeaaGreatDoor
open Go.RowKit Go Go.Shelf
attribute [local go_sem] Oper.semAt_some
theorem Sl(d:Nat) (a:Mv) (w:World):(Op.equalIn (d+5) 143 a.v a.v).run Tryz.prog w=.ok true w:=by
 have hS:Tryz.prog.underlying 143=some (.struct (Tryz.prog.fieldsOf 143)):=by kernel_rfl
 have hp:Tryz.prog.stoodInHeld 143=false:=by kernel_rfl
 rw[run_equalIn_struct w (d+4) 143 _ _ hS hp];have ag:=Tryz.isAgg3;have ah:=Tryz.isAgg141;have zh:=Tryz.sizeOf141;have u3:=Tryz.underlying3;have hg:=Ee d a.r a.r w;simp only[Program.fieldsOf,Tryz.underlying143];simp[Op.eqFields,part,ag,ah,zh,run_equalIn_int w (d+3) 3 _ .i64 _ _ u3,hg]
theorem VU(a:Mv) (w:World):(binOp .neq 143 a.v a.v).run Tryz.prog w=.ok (.bool false) w:=by
 rw[run_neq_struct,Sl 9995];rfl
theorem Sm(n:Int) (l:List (List Mv)) (va vb:Value) (w:World) (ha:bu w va l) (hb:bu w vb l) :
  Calls Tryz.prog 182 #[.agg #[.int .i64 n,va],.agg #[.int .i64 n,vb]] w fun e w'=>e=.returned (.bool true)/\Below w.heap.size w w':=by
 obtain⟨pa,ca,rfl,la1,la2,ea⟩:=ha.at;obtain⟨pb,cb,rfl,lb1,lb2,eb⟩:=hb.at;have EA:=aa ea;have EB:=aa eb;clear ha hb ea eb;obtain⟨m,hm⟩:∃ m,l.length=m:=⟨_,rfl⟩;have HM:=aa hm;rw[hm]at la1 la2 lb1 lb2 ⊢;clear hm;have UJ:(n != n)=false:=by simp
 have hd:((m:Int) != (m:Int))=false:=by simp
 go_enter Tryz.func182,Tryz.ntmps182
 go_wp2_with fail
 refine bC (fun W=>Below w.heap.size w W/\W.heap[w.heap.size]?=some (.cells #[.int .i64 n,.slice pa m ca] 27)/\W.heap[w.heap.size+1]?=some (.cells #[.int .i64 n,.slice pb m cb] 27)) ⟨by go_grown,ar _ (ap _ _),by have h:=ap (w.alloc (.cells #[.int .i64 n,.slice pa m ca] 27)) (.cells #[.int .i64 n,.slice pb m cb] 27);simpa using h⟩ (fun W0 aX=>?_);obtain⟨aG,bB,nG⟩:=aX;have eQ:=aa aG;have j8:=aa bB;have nB:=aa nG;clear aG bB nG
 go_loopw [5] (fun i wr=>∃ k:Nat,k<=m/\i=.int .i64 k/\Below W0.heap.size W0 wr) (fun i _=>m - (intOf i).toNat)
 ·exact⟨0,by omega,rfl,Below.refl _ _⟩
 ·
  obtain⟨k,hk,rfl,aA⟩:=hrel;have aV:=aa aA;have bP:=aa (ae eQ.o aA);clear aA;have tA:=ab (af aV.o j8.o);by_cases aC:k<m
  ·obtain⟨b1,o1,rfl,v1,g1,h1⟩:=EA.o k (by rw[HM.o];exact aC);obtain⟨b2,o2,rfl,v2,g2,h2⟩:=EB.o k (by rw[HM.o];exact aC);generalize l[k]'(by rw[HM.o];exact aC)=row at h1 h2;obtain⟨p1,q1,rfl,x1,y1,e1⟩:=h1.at;obtain⟨p2,q2,rfl,x2,y2,e2⟩:=h2.at;have E1:=aa e1;have E2:=aa e2;obtain⟨r,hr⟩:∃ r,row.length=r:=⟨_,rfl⟩;have HR:=aa hr;rw[Nat.mul_one]at g1 g2;rw[hr]at x1 y1 x2 y2 g1 g2;clear h1 h2 e1 e2 hr;have G1:=aa g1;have G2:=aa g2;have hdr:((r:Int) != (r:Int))=false:=by simp
   have f1:∀ z:ExtW wr,z.val.cell? ⟨b1,o1+k,none⟩=_:=fun z=>z.cell (ak bP.o g1)
   have f2:∀ z:ExtW wr,z.val.cell? ⟨b2,o2+k,none⟩=_:=fun z=>z.cell (ak bP.o g2)
   have tA2:∀ z:ExtW wr,z.val.cell? ⟨w.heap.size,1,none⟩=some (.slice (some ⟨b1,o1,none⟩) m ca):=fun z=>z.cell (by rw[ab (af aV.o j8.o)];rfl)
   have tC2:∀ z:ExtW wr,z.val.cell? ⟨w.heap.size+1,1,none⟩=some (.slice (some ⟨b2,o2,none⟩) m cb):=fun z=>z.cell (by rw[ab (af aV.o nB.o)];rfl)
   clear g1 g2
   go_wp2_with fail
   refine aB (by kernel_rfl) (by kernel_rfl) ?_
   repeat (go_big_quiet_step (fail))
   refine wpQuiet_nil ?_;rintro _ ⟨xq,rfl⟩;have eU:=aa (ae aV.o xq.ext);generalize xq.val=wq at eU ⊢;clear f1 f2 tA2 tC2 tA
   go_wp2_with fail
   obtain⟨wrA,lg⟩:∃ x,x=wr:=⟨_,rfl⟩;subst lg
   go_loopw [6] (fun i wr=>∃ j:Nat,j<=r/\i=.int .i64 j/\Below W0.heap.size W0 wr) (fun i _=>r - (intOf i).toNat)
   ·exact⟨0,by omega,rfl,eU.o⟩
   ·
    obtain⟨i,hi,rfl,kT⟩:=hrel;have Dq:=aa kT;have fc:=aa (ae eQ.o kT);clear kT;have tA:=ab (af Dq.o j8.o);have t1:=ak fc.o G1.o;by_cases Rg:i<r
    ·obtain⟨b3,o3,rfl,m1⟩:=E1.o i (by rw[HR.o];exact Rg);obtain⟨b4,o4,rfl,m2⟩:=E2.o i (by rw[HR.o];exact Rg);generalize row[i]'(by rw[HR.o];exact Rg)=x at m1 m2;have c0:∀ z:ExtW wr,z.val.cell? ⟨b3,o3+i * 8,none⟩=_:=fun z=>z.cell (ak fc.o m1.1.1.1)
     have c1:∀ z:ExtW wr,z.val.cell? ⟨b3,o3+i * 8+1,none⟩=_:=fun z=>z.cell (ak fc.o m1.1.2.1.1)
     have c2:∀ z:ExtW wr,z.val.cell? ⟨b3,o3+i * 8+2,none⟩=_:=fun z=>z.cell (ak fc.o m1.1.2.2.1.1)
     have c3:∀ z:ExtW wr,z.val.cell? ⟨b3,o3+i * 8+3,none⟩=_:=fun z=>z.cell (ak fc.o m1.1.2.2.2.1.1)
     have c4:∀ z:ExtW wr,z.val.cell? ⟨b3,o3+i * 8+4,none⟩=_:=fun z=>z.cell (ak fc.o m1.1.2.2.2.2.1.1)
     have c5:∀ z:ExtW wr,z.val.cell? ⟨b3,o3+i * 8+5,none⟩=_:=fun z=>z.cell (ak fc.o m1.1.2.2.2.2.2.1.1)
     have c6:∀ z:ExtW wr,z.val.cell? ⟨b3,o3+i * 8+6,none⟩=_:=fun z=>z.cell (ak fc.o m1.1.2.2.2.2.2.2.1)
     have c7:∀ z:ExtW wr,z.val.cell? ⟨b3,o3+i * 8+7,none⟩=_:=fun z=>z.cell (ak fc.o m1.2.1)
     have d0:∀ z:ExtW wr,z.val.cell? ⟨b4,o4+i * 8,none⟩=_:=fun z=>z.cell (ak fc.o m2.1.1.1)
     have d1:∀ z:ExtW wr,z.val.cell? ⟨b4,o4+i * 8+1,none⟩=_:=fun z=>z.cell (ak fc.o m2.1.2.1.1)
     have d2:∀ z:ExtW wr,z.val.cell? ⟨b4,o4+i * 8+2,none⟩=_:=fun z=>z.cell (ak fc.o m2.1.2.2.1.1)
     have d3:∀ z:ExtW wr,z.val.cell? ⟨b4,o4+i * 8+3,none⟩=_:=fun z=>z.cell (ak fc.o m2.1.2.2.2.1.1)
     have d4:∀ z:ExtW wr,z.val.cell? ⟨b4,o4+i * 8+4,none⟩=_:=fun z=>z.cell (ak fc.o m2.1.2.2.2.2.1.1)
     have d5:∀ z:ExtW wr,z.val.cell? ⟨b4,o4+i * 8+5,none⟩=_:=fun z=>z.cell (ak fc.o m2.1.2.2.2.2.2.1.1)
     have d6:∀ z:ExtW wr,z.val.cell? ⟨b4,o4+i * 8+6,none⟩=_:=fun z=>z.cell (ak fc.o m2.1.2.2.2.2.2.2.1)
     have d7:∀ z:ExtW wr,z.val.cell? ⟨b4,o4+i * 8+7,none⟩=_:=fun z=>z.cell (ak fc.o m2.2.1)
     have f1:∀ z:ExtW wr,z.val.cell? ⟨b1,o1+k,none⟩=_:=fun z=>z.cell (ak fc.o G1.o)
     have f2:∀ z:ExtW wr,z.val.cell? ⟨b2,o2+k,none⟩=_:=fun z=>z.cell (ak fc.o G2.o)
     have tA2:∀ z:ExtW wr,z.val.cell? ⟨w.heap.size,1,none⟩=some (.slice (some ⟨b1,o1,none⟩) m ca):=fun z=>z.cell (by rw[ab (af Dq.o j8.o)];rfl)
     have tC2:∀ z:ExtW wr,z.val.cell? ⟨w.heap.size+1,1,none⟩=some (.slice (some ⟨b2,o2,none⟩) m cb):=fun z=>z.cell (by rw[ab (af Dq.o nB.o)];rfl)
     have ka:=fun w=>VU x w
     clear m1 m2
     go_wp2_with fail
     refine aB (by kernel_rfl) (by kernel_rfl) ?_
     repeat (go_big_quiet_step (fail))
     refine wpQuiet_nil ?_;rintro _ ⟨xq,rfl⟩;clear c0 c1 c2 c3 c4 c5 c6 c7 d0 d1 d2 d3 d4 d5 d6 d7 f1 f2 tA2 tC2 ka tA t1
     go_wp2_with fail
     go_roundw
     ·exact⟨i+1,by omega,by go_num,ae Dq.o xq.ext⟩
     ·simp[intOf];omega
    ·obtain rfl:i=r:=by omega
     go_wp2_with fail
     go_roundw
     ·exact⟨k+1,by omega,by go_num,Dq.o⟩
     ·simp[intOf];omega
  ·obtain rfl:k=m:=by omega
   go_wp2_with fail
   go_ret
   exact⟨rfl,bP.o⟩
theorem FO(va vb:Value) (l:List (List Int)) (w:World) (ha:dL w va l) (hb:dL w vb l) :
  Calls Tryz.prog 207 #[va,vb] w fun e w'=>e=.returned (.bool true)/\Below w.heap.size w w':=by
 obtain⟨pa,ca,rfl,la1,la2,ea⟩:=ha.at;obtain⟨pb,cb,rfl,lb1,lb2,eb⟩:=hb.at;have EA:=aa ea;have EB:=aa eb;clear ha hb ea eb;obtain⟨n,hn⟩:∃ n,l.length=n:=⟨_,rfl⟩;have HN:=aa hn;rw[hn]at la1 la2 lb1 lb2 ⊢;clear hn;have hd:((n:Int) != (n:Int))=false:=by simp
 go_enter Tryz.func207,Tryz.ntmps207
 go_wp2_with fail
 go_loopw [5] (fun i wr=>∃ k:Nat,k<=n/\i=.int .i64 k/\Below w.heap.size w wr) (fun i _=>n - (intOf i).toNat)
 ·exact⟨0,by omega,rfl,Below.refl _ _⟩
 ·
  obtain⟨k,hk,rfl,aA⟩:=hrel;have aV:=aa aA;clear aA;by_cases aC:k<n
  ·obtain⟨b1,o1,rfl,v1,g1,h1⟩:=EA.o k (by rw[HN.o];exact aC);obtain⟨b2,o2,rfl,v2,g2,h2⟩:=EB.o k (by rw[HN.o];exact aC);generalize l[k]'(by rw[HN.o];exact aC)=x at h1 h2;have d1:=ak aV.o g1;have d2:=ak aV.o g2;rw[Nat.mul_one]at d1 d2;have zK:=aa (fun W (h:Below w.heap.size w W)=>lN v1 v2 x x W (h1.up up_int h) (h2.up up_int h));rw[sD]at zK;clear h1 h2 g1 g2
   go_wp2_with fail
   go_still_tail 8,(by kernel_rfl)
   go_wp2_with fail
   refine aO (fun W=>Below wr.heap.size wr W) (Below.drew (Below.refl _ _)) (fun W5 hW5=>?_);refine(zK.o W5 (ae aV.o hW5)).mono ?_;rintro e w6 ⟨rfl,gz⟩;have qK:=aa (ae aV.o (ae hW5 gz));clear hW5 gz d1 d2 zK
   go_wp2_with fail
   go_roundw
   ·exact⟨k+1,by omega,by go_num,qK.o⟩
   ·simp[intOf];omega
  ·obtain rfl:k=n:=by omega
   go_wp2_with fail
   go_ret
   exact⟨rfl,aV.o⟩
theorem KU(l:List Lk) (h0:∀ y∈l,0<=y.x) (bx:Nat) (vl:Value) (w0:World) (hl:bN w0 vl l) (w:World) (aG:Below w0.heap.size w0 w) (hx:w.cell? ⟨bx,0,none⟩=some vl) :
  sE Tryz.prog 98 #[.pointer (some ⟨bx,0,none⟩)] (wX (cK l)) l.length (fun k=>k<w0.heap.size\/k=bx) w:=by
 intro yl J Jx W hW hJ oU hY oG;have lm:=fx hx;have mY:=aG.size;obtain⟨pl,cl,rfl,lt1,lt2,el⟩:=hl.at;have ff:gG (fun k=>k<w0.heap.size\/k=bx) w W:=fun k hk=>hW.block k (by rcases hk with hk|rfl<;>first|omega|assumption)
 have tx:=(ff.cell (.inr rfl)).trans hx;have um:=aa ff;have LE:=aa hW.size
 have B5:am (∀ k (hk:k<l.length),wX (cK l) k=#[.int .i64 (l[k]).x]):=aa (fun k hk=>by
  unfold wX cK;have h1:=h0 l[k] (List.getElem_mem hk);rw[az 0 (by simpa using hk),List.getElem_map];congr 2;congr 1
  omega)
 have EL:am (∀ (V:World),gG (fun k=>k<w0.heap.size\/k=bx) w V->∀ i (hi:i<l.length),∃ b o,pl=some ⟨b,o,none⟩/\V.cell? ⟨b,o+i * 2,none⟩=some (.int .i64 (l[i]).x)/\V.cell? ⟨b,o+i * 2+1,none⟩=some (.int .i64 (l[i]).p)):=aa (fun V hV i hi=>by
  obtain⟨b,o,e1,c1,c2⟩:=el i hi;have aC:b<w0.heap.size:=fx c1.1
  have ui:∀ o',V.cell? ⟨b,o',none⟩=w0.cell? ⟨b,o',none⟩:=fun o'=>by
   rw[hV.cell (.inl aC)];unfold World.cell?;rw[aG.block b aC]
  exact⟨b,o,e1,(ui _).trans c1.1,(ui _).trans c2.1⟩)
 have HJ:=aa hJ;have Jr:=aa oU;have HY:=aa hY;have H0:=aa oG;clear hx aG ff hJ oU hY oG hl el hW h0;refine(callsIn_wide (n:=0)).1 ?_;refine callsIn_of_wp Tryz.func98 rfl trivial ?_ rfl;simp only[Tryz.ntmps98,List.size_toArray,List.length_cons,List.length_nil,Nat.reduceAdd,Nat.reduceSub,Array.replicate_succ,Array.replicate_zero,List.push_toArray,List.append_toArray,List.nil_append,List.cons_append]
 gi_wp2
 clear tx
 gi_loopw [7] (fun i wr=>∃ k:Nat,k<=l.length/\i=.int .i64 k/\w.heap.size<=wr.heap.size/\gG (fun k=>k<w0.heap.size\/k=bx) w wr/\J k wr) (fun i _=>l.length - (intOf i).toNat)
 ·exact⟨0,by omega,rfl,LE.o,um.o,H0.o⟩
 ·
  obtain⟨k,hk,rfl,eT,gc,hj⟩:=hrel;have kr:=aa gc;have jo:=aa hj;clear hj;by_cases aC:k<l.length
  ·obtain⟨b1,o1,rfl,c1,c2⟩:=EL.o wr gc k aC;have HE:=aa (B5.o k aC);generalize l[k]=y at c1 c2 HE;obtain⟨x,p⟩:=y;dsimp only at c1 c2 HE;have hja:=HJ.o k wr (wr.alloc (.cells #[.int .i64 x,.int .i64 p] 75)) jo.o (by go_grown);have HKA:am (gG (fun k=>k<w0.heap.size\/k=bx) wr (wr.alloc (.cells #[.int .i64 x,.int .i64 p] 75))):=aa fun q hq=>Below.heap_alloc wr _ q (by rcases hq with hq|rfl<;>omega)
   obtain⟨fn,tmps,assign,body,pz,hR⟩:=HY.o k _ aC hja;rw[HE.o]at pz;have HR:=aa hR;clear hR hja gc
   gi_wp2
   refine⟨rfl,HR.o.mono ?_⟩;rintro e W3 (⟨rfl,Do,DC,iw⟩|⟨rfl,sy⟩)
   ·have Q6:w.heap.size<=W3.heap.size:=by simp at DC;omega
    gi_wp2
    go_roundw
    ·exact⟨k+1,by omega,by go_num,Q6,gG.trans (gG.trans kr.o HKA.o) iw,Do⟩
    ·simp[intOf];omega
   ·gi_wp2
    refine bodyPost_ret (results_none rfl _ _ _) rfl ?_;exact⟨⟨_,rfl⟩,.inr ⟨_,by omega,sy⟩⟩
  ·obtain rfl:k=l.length:=by omega
   clear gc
   gi_wp2
   go_end0
   exact⟨⟨_,rfl⟩,.inl jo.o⟩
theorem FP{s:Sys} (hs:SysOk s) {l:List Lk} (hx:∀ y∈l,y.x.toNat<eS s):dV s l=decide (comM s (cK l)=0):=by
 unfold dV;rw[decide_eq_decide];exact OL hs fun e he=>by obtain⟨y,hy,rfl⟩:=List.mem_map.1 he;exact hx y hy
theorem q6(s:Sys) (hs:SysOk s) (B:Nat) (vl:Value) (l:List Lk) (hx:∀ y∈l,0<=y.x/\y.x.toNat<eS s) (w:World) (gd:ScAt w B s) (hl:bN w vl l) :
  Calls Tryz.prog 56 #[.pointer (some ⟨B,0,none⟩),vl] w fun r w'=>r=.returned (.bool (ji s l))/\Below w.heap.size w w':=by
 have jH:=aa gd;have HL:=aa hl;obtain⟨pl,cl,rfl,lt1,lt2,el⟩:=hl.at;have nz:am ((cK l).length=l.length):=aa (by simp[cK])
 have oC:=aa (fun W (hb:Below w.heap.size w W) (hX:W.heap[w.heap.size]?=some (.cells #[.slice pl l.length cl] 54))=>CT s B 98 #[.pointer (some ⟨w.heap.size,0,none⟩)] (enters_of Tryz.func98 (by kernel_rfl) rfl) (cK l) (fun e he=>by obtain⟨y,hy,rfl⟩:=List.mem_map.1 he;exact(hx y hy).2) (fun k=>k<w.heap.size\/k=w.heap.size) W (jH.o.up hb) (fun k hk=>by have:=aD hX;rcases hk with hk|rfl<;>omega) (fun V hV=>by
  rw[nz.o]
  exact KU l (fun y hy=>(hx y hy).1) w.heap.size _ w HL.o V (ae hb hV) (by rw[ab (af hV hX)];rfl)))
 have ij:=aa (FP hs (fun y hy=>(hx y hy).2));have HG:am (ji s l=(decide (0<l.length)&&dV s l)):=aa rfl;rw[ij.o]at HG;generalize comM s (cK l)=c at HG oC;clear hl el hx gd ij;by_cases h0:0<l.length
 ·have hd:decide ((0:Int)<(l.length:Int))=true:=decide_eq_true (by omega);have fw:decide (0<l.length)=true:=decide_eq_true h0;rw[fw,Bool.true_and]at HG
  go_enter Tryz.func56,Tryz.ntmps56
  go_wp2_with fail
  refine aO (fun W=>Below w.heap.size w W/\W.heap[w.heap.size]?=some (.cells #[.slice pl l.length cl] 54)) ⟨by go_grown,ap _ _⟩ (fun W0 aX=>?_);obtain⟨aG,wl⟩:=aX;refine(oC.o W0 aG wl).mono ?_;rintro e w1 ⟨rfl,aK⟩;have kP:=aa (ae aG aK);clear aG aK wl oC
  go_wp2_with fail
  go_ret
  refine⟨aR ?_,kP.o⟩;rw[HG.o,Bool.eq_iff_iff];simp
 ·have hd:decide ((0:Int)<(l.length:Int))=false:=decide_eq_false (by omega);have fw:decide (0<l.length)=false:=decide_eq_false h0;rw[fw,Bool.false_and]at HG
  go_enter Tryz.func56,Tryz.ntmps56
  go_wp2_with fail
  go_ret
  exact⟨aR (by rw[HG.o]),by go_grown⟩
theorem EG{s:Sys} {l:List Lk} (h:walkE s l=0):∀ y∈l,0<=y.x/\y.x.toNat<eS s:=fun y hy=>by
 obtain⟨i,hi,rfl⟩:=List.getElem_of_mem hy;have h1:=((rB s l).1 h).2.2 i hi;have h2:=(wK s l i).1 h1;rw[az default hi]at h2;exact⟨h2.1,h2.2.1⟩
theorem rQ{s:Sys} (h:readyE s=0):verifyE s=0:=by
 unfold readyE at h;split at h
 ·rename_i h1;exact absurd h h1
 ·omega
def YX(s:Sys) (e:Int) (r:Ending) (w:World):Prop:=∃ v,r=.returned (.tuple #[v,.int .i64 e])/\(e=0->∃ B,v=.pointer (some ⟨B,0,none⟩)/\ScAt w B s)/\(e≠0->v=.pointer none)
theorem yW(s:Sys) (hE:eS s<=256) (vc vs vt ve vw:Value) (c:Ct) (pv:Option Addr) (cv:Nat) (pl:Option Addr) (cl:Nat) (pp:Option Addr) (cp:Nat) (w:World) (hs:IsSys w s vc vs vt ve) (hN:movesN s.prob.a.states<1099511627776) (hw:bN w vw c.walk) :
  Calls Tryz.prog 54 #[.agg (bL s.prob vc vs s.n vt ve),.agg #[.int .i64 c.kind,vw,.slice pv c.nv cv,.slice pl c.nl cl,.slice pp c.np cp]] w fun r w'=>YX s (certE s c) r w'/\Below w.heap.size w w':=by
 have HS:=aa hs;obtain⟨⟨pc,cc,rfl⟩,⟨ps,cs,rfl⟩,⟨pt,ct,rfl⟩,⟨pe,ce,rfl⟩⟩:=bD hs;obtain⟨pw,cw,rfl,lw1,lw2,_⟩:=hw.at;have HWK:=aa hw;clear hs hw;have HC:=aa (fun W (hb:Below w.heap.size w W)=>od s hE _ _ _ _ W (HS.o.up hb) hN);have QB:=aa (fun (hv:verifyE s=0) W (hb:Below w.heap.size w W)=>KS s hv _ _ _ _ _ c.walk W (HS.o.up hb) hN (HWK.o.up up_link hb));have cO:am (readyE s≠0->certE s c=readyE s):=aa fun h=>by unfold certE;rw[if_pos h]
 have eh:am (readyE s=0->c.kind≠1->certE s c=1):=aa fun h h1=>by unfold certE;rw[if_neg (by omega)];unfold zZ;rw[if_pos h1]
 have fT:am (readyE s=0->c.kind=1->(0<c.nv\/0<c.nl\/0<c.np)->certE s c=3):=aa fun h h1 h2=>by unfold certE;rw[if_neg (by omega)];unfold zZ;rw[if_neg (by omega),if_pos h2]
 have pn:am (readyE s=0->c.kind=1->¬ (0<c.nv\/0<c.nl\/0<c.np)->walkE s c.walk≠0->certE s c=walkE s c.walk):=aa fun h h1 h2 h3=>by unfold certE;rw[if_neg (by omega)];unfold zZ;rw[if_neg (by omega),if_neg h2,if_pos h3]
 have xM:am (readyE s=0->c.kind=1->¬ (0<c.nv\/0<c.nl\/0<c.np)->walkE s c.walk=0->certE s c=if ji s c.walk then 0 else 18):=aa fun h h1 h2 h3=>by
  have h4:=((rB s c.walk).1 h3).1;unfold certE;rw[if_neg (by omega)];unfold zZ;rw[if_neg (by omega),if_neg h2,if_neg (by omega)];unfold ji;rw[decide_eq_true h4,Bool.true_and]
 have TW:=aa (fun (hs:SysOk s) (h:walkE s c.walk=0) B W (gd:ScAt W B s) (hl:bN W (.slice pw c.walk.length cw) c.walk)=>q6 s hs B _ c.walk (EG h) W gd hl);have tI:am (readyE s=0->verifyE s=0):=aa rQ;generalize certE s c=ce0 at cO eh fT pn xM ⊢;obtain⟨re,kg⟩:∃ re,readyE s=re:=⟨_,rfl⟩;rw[kg]at cO eh fT pn xM HC tI;obtain⟨kd,wk,nv,nl,np⟩:=c;dsimp only at *;clear kg
 go_enter Tryz.func54,Tryz.ntmps54
 go_wp2_with fail
 refine aO (fun W=>Below w.heap.size w W/\(∃ q,W.heap[w.heap.size]?=some (.cells q 35)/\q=bL s.prob (.slice pc s.prob.t.cases.length cc) (.slice ps s.prob.a.states.length cs) s.n (.slice pt s.tab.length ct) (.slice pe s.ex.length ce))/\W.heap[w.heap.size+1]?=some (.cells #[.int .i64 kd,.slice pw wk.length cw,.slice pv nv cv,.slice pl nl cl,.slice pp np cp] 58)) ⟨by go_grown,⟨_,ar _ (ap _ _),rfl⟩,aZ _ _ _⟩ (fun W0 aX=>?_);obtain⟨aG,⟨_,bB,rfl⟩,gM⟩:=aX;refine(HC.o W0 aG).mono ?_;rintro e w1 ⟨v,rfl,aK,h2,h3⟩;have bI:=aa (ae aG aK);have gh:=aa (af aK gM);have du:=aa (af aK bB);by_cases hr:re=0
 case neg=>
  have HV:=aa (cO.o hr);obtain rfl:=h2 hr;have F3:(re != 0)=true:=by simpa using hr
  have WW:=aa hr;clear aG aK h2 h3 hr HC gM bB
  go_wp2_with fail
  go_ret2
  exact⟨⟨_,by rw[HV.o];rfl,fun h=>absurd (HV.o.symm.trans h) WW.o,fun _=>rfl⟩,bI.o⟩
 obtain⟨B,rfl,hB,gd⟩:=h3 hr;have jH:=aa gd;have DR:=aa (tI.o hr);have dD:=aa (gE DR.o);subst hr;have to:=ab gh.o;clear aG aK h2 h3 HC gd gM bB;by_cases hk:kd=1
 case neg=>
  have HV:=aa (eh.o rfl hk);have rh:(kd != 1)=true:=by simpa using hk
  clear hk
  go_wp2_with fail
  go_ret2
  exact⟨⟨_,by rw[HV.o];rfl,fun h=>by have:=HV.o;omega,fun _=>rfl⟩,bI.o⟩
 have rh:(kd != 1)=false:=by simp[hk]
 have LB:=aa hk;by_cases h1:0<nv
 ·have HV:=aa (fT.o rfl hk (.inl h1));have hd:decide ((0:Int)<(nv:Int))=true:=decide_eq_true (by omega);have fw:decide (0<nv)=true:=decide_eq_true h1;clear hk h1
  go_wp2_with fail
  go_ret2
  exact⟨⟨_,by rw[HV.o];rfl,fun h=>by have:=HV.o;omega,fun _=>rfl⟩,bI.o⟩
 have e1:decide ((0:Int)<(nv:Int))=false:=decide_eq_false (by omega);have e1':decide (0<nv)=false:=decide_eq_false h1;by_cases h2:0<nl
 ·have HV:=aa (fT.o rfl hk (.inr (.inl h2)));have hd:decide ((0:Int)<(nl:Int))=true:=decide_eq_true (by omega);have fw:decide (0<nl)=true:=decide_eq_true h2;clear hk h1 h2
  go_wp2_with fail
  go_ret2
  exact⟨⟨_,by rw[HV.o];rfl,fun h=>by have:=HV.o;omega,fun _=>rfl⟩,bI.o⟩
 have e2:decide ((0:Int)<(nl:Int))=false:=decide_eq_false (by omega);have e2':decide (0<nl)=false:=decide_eq_false h2;by_cases h3:0<np
 ·have HV:=aa (fT.o rfl hk (.inr (.inr h3)));have hd:decide ((0:Int)<(np:Int))=true:=decide_eq_true (by omega);have fw:decide (0<np)=true:=decide_eq_true h3;clear hk h1 h2 h3
  go_wp2_with fail
  go_ret2
  exact⟨⟨_,by rw[HV.o];rfl,fun h=>by have:=HV.o;omega,fun _=>rfl⟩,bI.o⟩
 have e3:decide ((0:Int)<(np:Int))=false:=decide_eq_false (by omega);have e3':decide (0<np)=false:=decide_eq_false h3;have fk:am (¬ (0<nv\/0<nl\/0<np)):=aa (by omega);have tA:=ab du.o;clear hk h1 h2 h3
 go_wp2_with fail
 clear tA to;refine(QB.o DR.o w1 bI.o).mono ?_;rintro e w2 ⟨rfl,aT⟩;have cf:=aa (ae bI.o aT);have Ki:=aa (jH.o.up aT);have to:=ab (af aT gh.o);clear aT;by_cases hz:walkE s wk=0
 case neg=>
  have HV:=aa (pn.o (by first|trivial|rfl) LB.o fk.o hz);generalize walkE s wk=we at hz HV;have LH:(we != 0)=true:=by simpa using hz
  have HNZ:=aa hz;clear hz
  go_wp2_with fail
  go_ret2
  exact⟨⟨_,by rw[HV.o];rfl,fun h=>absurd (HV.o.symm.trans h) HNZ.o,fun _=>rfl⟩,cf.o⟩
 have HV:=aa (xM.o (by first|trivial|rfl) LB.o fk.o hz);have uk:=aa (TW.o dD.o hz B);rw[hz];clear hz
 go_wp2_with fail
 clear to;refine(uk.o w2 Ki.o (HWK.o.up up_link cf.o)).mono ?_;rintro e w3 ⟨rfl,bG⟩;have dE:=aa (ae cf.o bG);have S1:=aa (Ki.o.up bG);clear bG;cases hg:ji s wk with
 | true=>
  have dd:am (ce0=0):=aa (by rw[HV.o,hg];rfl);clear hg
  go_wp2_with fail
  go_ret2
  exact⟨⟨_,by rw[dd.o];rfl,fun _=>⟨B,rfl,S1.o⟩,fun h=>absurd dd.o h⟩,dE.o⟩
 | false=>
  have dd:am (ce0=18):=aa (by rw[HV.o,hg];rfl);clear hg
  go_wp2_with fail
  go_ret2
  exact⟨⟨_,by rw[dd.o];rfl,fun h=>by have:=dd.o;omega,fun _=>rfl⟩,dE.o⟩
theorem KV(s:Sys) (hE:eS s<=256) (vc vs vt ve vw:Value) (c:Ct) (pv:Option Addr) (cv:Nat) (pl:Option Addr) (cl:Nat) (pp:Option Addr) (cp:Nat) (w:World) (hs:IsSys w s vc vs vt ve) (hN:movesN s.prob.a.states<1099511627776) (hw:bN w vw c.walk) :
  Calls Tryz.prog 24 #[.agg (bL s.prob vc vs s.n vt ve),.agg #[.int .i64 c.kind,vw,.slice pv c.nv cv,.slice pl c.nl cl,.slice pp c.np cp]] w fun r w'=>r=.returned (.int .i64 (certE s c))/\Below w.heap.size w w':=by
 have HS:=aa hs;obtain⟨⟨pc,cc,rfl⟩,⟨ps,cs,rfl⟩,⟨pt,ct,rfl⟩,⟨pe,ce,rfl⟩⟩:=bD hs;obtain⟨pw,cw,rfl,lw1,lw2,_⟩:=hw.at;have HC:=aa (fun W (hb:Below w.heap.size w W)=>yW s hE _ _ _ _ _ c pv cv pl cl pp cp W (HS.o.up hb) hN (hw.up up_link hb));clear hs hw
 go_enter Tryz.func24,Tryz.ntmps24
 go_wp2_with fail
 refine aO (fun W=>Below w.heap.size w W) (by go_grown) (fun W0 aG=>?_);refine(HC.o W0 aG).mono ?_;rintro e w1 ⟨⟨v,rfl,_,_⟩,aK⟩;have HB:=aa (ae aG aK);clear aG aK HC
 go_wp2_with fail
 go_ret
 exact⟨rfl,HB.o⟩
structure TwoBox (w:World) (n:Nat) (VS:List Value) (CA CZ CB:Array Value) (t:TypeId) (D:Nat->Bool) (x:Nat->Value) (W:World):Prop where
 below:Below w.heap.size w W
 val:∀ i,i<n->D i=true->x i=VS.getD i undef
 a:D n=true->∃ g,x n=.pointer (some ⟨g,0,none⟩)/\w.heap.size<=g/\W.heap[g]?=some (.cells (if D (n+2) then CA else CZ) t)
 b:D (n+1)=true->∃ g,x (n+1)=.pointer (some ⟨g,0,none⟩)/\w.heap.size<=g/\W.heap[g]?=some (.cells (if D (n+3) then CB else CZ) t)
 ne:D n=true->D (n+1)=true->x n≠x (n+1)
 oa:D (n+2)=true->D n=true
 ob:D (n+3)=true->D (n+1)=true
section
variable {w W : World} {n : Nat} {VS : List Value} {CA CZ CB : Array Value} {t : TypeId} {D : Nat → Bool} {x : Nat → Value}
theorem TwoBox.start(hb:Below w.heap.size w W):TwoBox w n VS CA CZ CB t (fun _=>false) x W:=by
 refine⟨hb,?_,?_,?_,?_,?_,?_⟩<;>intros<;>contradiction
theorem TwoBox.set(h:TwoBox w n VS CA CZ CB t D x W) (i:Nat) (hi:i<n) {v:Value} (_:D i=false) (hv:v=VS.getD i undef):TwoBox w n VS CA CZ CB t (bJ D i) (cG x i v) W:=by
 have k:∀ j,n<=j->bJ D i j=D j:=fun j hj=>by simp[bJ,show j≠i by omega]
 have l:∀ j,n<=j->cG x i v j=x j:=fun j hj=>fW _ _ (by omega)
 refine⟨h.below,fun j hj hd=>?_,?_,?_,?_,?_,?_⟩
 ·by_cases e:j=i
  ·subst e;rw[fF,hv]
  ·rw[fW _ _ e];exact h.val j hj (by simpa[bJ,e] using hd)
 ·rw[k n (by omega),k (n+2) (by omega),l n (by omega)];exact h.a
 ·rw[k (n+1) (by omega),k (n+3) (by omega),l (n+1) (by omega)];exact h.b
 ·rw[k n (by omega),k (n+1) (by omega),l n (by omega),l (n+1) (by omega)];exact h.ne
 ·rw[k n (by omega),k (n+2) (by omega)];exact h.oa
 ·rw[k (n+1) (by omega),k (n+3) (by omega)];exact h.ob
theorem TwoBox.alloc_a(h:TwoBox w n VS CA CZ CB t D x W) (hD:D n=false):TwoBox w n VS CA CZ CB t (bJ D n) (cG x n (.pointer (some ⟨W.heap.size,0,none⟩))) (W.alloc (.cells CZ t)):=by
 have hz:=h.below.size;have h2:D (n+2)=false:=by cases e:D (n+2) with|false=>rfl|true=>rw[h.oa e]at hD;cases hD
 have k:∀ j,j≠n->bJ D n j=D j:=fun j hj=>by simp[bJ,hj]
 have l:∀ j,j≠n->cG x n (.pointer (some ⟨W.heap.size,0,none⟩)) j=x j:=fun j hj=>fW _ _ hj
 refine⟨h.below.alloc hz _,fun j hj hd=>?_,fun _=>⟨W.heap.size,fF _ _ _,hz,?_⟩,?_,fun _ hd=>?_,?_,?_⟩
 ·rw[l j (by omega)];exact h.val j hj (by rwa [k j (by omega)]at hd)
 ·rw[k (n+2) (by omega),h2];exact ap _ _
 ·rw[k (n+1) (by omega),k (n+3) (by omega),l (n+1) (by omega)];intro hd;obtain⟨g,g1,g2,g3⟩:=h.b hd;exact⟨g,g1,g2,ar _ g3⟩
 ·rw[k (n+1) (by omega)]at hd;obtain⟨g,g1,g2,g3⟩:=h.b hd;rw[fF,l (n+1) (by omega),g1];have:=aD g3;intro e;injection e with e;injection e with e;injection e with e;omega
 ·rw[k (n+2) (by omega),h2];intro e;cases e
 ·rw[k (n+1) (by omega),k (n+3) (by omega)];exact h.ob
theorem TwoBox.alloc_b(h:TwoBox w n VS CA CZ CB t D x W) (hD:D (n+1)=false):TwoBox w n VS CA CZ CB t (bJ D (n+1)) (cG x (n+1) (.pointer (some ⟨W.heap.size,0,none⟩))) (W.alloc (.cells CZ t)):=by
 have hz:=h.below.size;have h2:D (n+3)=false:=by cases e:D (n+3) with|false=>rfl|true=>rw[h.ob e]at hD;cases hD
 have k:∀ j,j≠n+1->bJ D (n+1) j=D j:=fun j hj=>by simp[bJ,hj]
 have l:∀ j,j≠n+1->cG x (n+1) (.pointer (some ⟨W.heap.size,0,none⟩)) j=x j:=fun j hj=>fW _ _ hj
 refine⟨h.below.alloc hz _,fun j hj hd=>?_,?_,fun _=>⟨W.heap.size,fF _ _ _,hz,?_⟩,fun hd _=>?_,?_,?_⟩
 ·rw[l j (by omega)];exact h.val j hj (by rwa [k j (by omega)]at hd)
 ·rw[k n (by omega),k (n+2) (by omega),l n (by omega)];intro hd;obtain⟨g,g1,g2,g3⟩:=h.a hd;exact⟨g,g1,g2,ar _ g3⟩
 ·rw[k (n+3) (by omega),h2];exact ap _ _
 ·rw[k n (by omega)]at hd;obtain⟨g,g1,g2,g3⟩:=h.a hd;rw[fF,l n (by omega),g1];have:=aD g3;intro e;injection e with e;injection e with e;injection e with e;omega
 ·rw[k n (by omega),k (n+2) (by omega)];exact h.oa
 ·rw[k (n+3) (by omega),h2];intro e;cases e
theorem TwoBox.store_a(h:TwoBox w n VS CA CZ CB t D x W) (ha:D n=true) (_:D (n+2)=false) {g:Nat} (hg:x n=.pointer (some ⟨g,0,none⟩)):TwoBox w n VS CA CZ CB t (bJ D (n+2)) x (W.setRow g CA):=by
 have k:∀ j,j≠n+2->bJ D (n+2) j=D j:=fun j hj=>by simp[bJ,hj]
 obtain⟨g',g1,g2,g3⟩:=h.a ha;obtain rfl:g'=g:=by rw[hg]at g1;injection g1 with e;injection e with e;injection e with e;exact e.symm
 refine⟨sU g2 h.below,fun j hj hd=>h.val j hj (by rwa [k j (by omega)]at hd),fun _=>⟨g',g1,g2,?_⟩,?_,?_,?_,?_⟩
 ·rw[show bJ D (n+2) (n+2)=true by simp[bJ]];exact rC _ _ _ _ _ g3
 ·rw[k (n+1) (by omega),k (n+3) (by omega)];intro hd;obtain⟨g4,q1,q2,q3⟩:=h.b hd;have bK:g4≠g':=fun e=>h.ne ha hd (by rw[g1,q1,e])
  exact⟨g4,q1,q2,by rw[setRow_other _ _ _ _ bK];exact q3⟩
 ·rw[k n (by omega),k (n+1) (by omega)];exact h.ne
 ·rw[k n (by omega)];exact fun _=>ha
 ·rw[k (n+1) (by omega),k (n+3) (by omega)];exact h.ob
theorem TwoBox.store_b(h:TwoBox w n VS CA CZ CB t D x W) (hb:D (n+1)=true) (_:D (n+3)=false) {g:Nat} (hg:x (n+1)=.pointer (some ⟨g,0,none⟩)):TwoBox w n VS CA CZ CB t (bJ D (n+3)) x (W.setRow g CB):=by
 have k:∀ j,j≠n+3->bJ D (n+3) j=D j:=fun j hj=>by simp[bJ,hj]
 obtain⟨g',g1,g2,g3⟩:=h.b hb;obtain rfl:g'=g:=by rw[hg]at g1;injection g1 with e;injection e with e;injection e with e;exact e.symm
 refine⟨sU g2 h.below,fun j hj hd=>h.val j hj (by rwa [k j (by omega)]at hd),?_,fun _=>⟨g',g1,g2,?_⟩,?_,?_,?_⟩
 ·rw[k n (by omega),k (n+2) (by omega)];intro hd;obtain⟨g4,q1,q2,q3⟩:=h.a hd;have bK:g4≠g':=fun e=>h.ne hd hb (by rw[g1,q1,e])
  exact⟨g4,q1,q2,by rw[setRow_other _ _ _ _ bK];exact q3⟩
 ·rw[show bJ D (n+3) (n+3)=true by simp[bJ]];exact rC _ _ _ _ _ g3
 ·rw[k n (by omega),k (n+1) (by omega)];exact h.ne
 ·rw[k n (by omega),k (n+2) (by omega)];exact h.oa
 ·rw[k (n+1) (by omega)];exact fun _=>hb
end
theorem VV{a b:Nat} (ha:a<1024) (hb:b<1024) (p:Nat):bits .or .i64 (a:Int) (b:Int)=((a ||| b:Nat):Int)/\hasB ((a ||| b:Nat):Int) p=(hasB (a:Int) p || hasB (b:Int) p):=by
 refine⟨wD _ _ (by omega) (by omega),?_⟩;rw[nR _ (by omega),nR _ (by omega),nR _ (by omega),Int.toNat_natCast,Int.toNat_natCast,Int.toNat_natCast,Nat.testBit_or]
theorem Ls{s:Sys} (hs:SysOk s) {e:Nat} (he:e<eS s):∃ a:Nat,fltS s e=a/\a<1024:=by
 have hn:=hs.n;have rg:=hs.flt e he;refine⟨(fltS s e).toNat,by omega,?_⟩;have h3:((2:Int) ^ nS s)=(((2:Nat) ^ nS s:Nat):Int):=by simp
 have h2:=rg.2;rw[h3]at h2;have h4:(2:Nat) ^ nS s<=2 ^ 5:=Nat.pow_le_pow_right (by omega) hn.2.1;omega
theorem KW(s:Sys) (hs:SysOk s) (B e f:Nat) (he:e<eS s) (hf:f<eS s) (w:World) (gd:ScAt w B s) :
  Calls Tryz.prog 97 #[.pointer (some ⟨B,0,none⟩),.int .i64 (e:Nat),.int .i64 (f:Nat)] w fun r w'=>r=.returned (.int .i64 (maskN (fun p=>linkB s p e f) (nS s):Nat))/\Below w.heap.size w w':=by
 obtain⟨qc,qs,qt,qe,qv,ql,q1,q2,_,_⟩:=gd.ex;obtain⟨b,o,_,ce,rfl,rfl,pw,nw,cw,pv,cv,c1,c2,c3,li,eV,fU,b2,o2,pr,cr,rfl,c4,bU⟩:=gy hs q2.ex he;obtain⟨b',o',_,ce',e0,rfl,pw',nw',cw',pv',cv',d1,d2,d3,Nz,ra,tW,b3,o3,pr',cr',rfl,d4,mH⟩:=gy hs q2.ex hf;injection e0 with e1 e2 e3
 injection e1 with e1
 injection e1 with e1 e4
 subst e1 e4 e3;clear e2;have hn:=hs.n;obtain⟨rr,vN⟩:∃ rr:Nat,s.prob.rounds=rr:=⟨s.prob.rounds.toNat,by have:=hs.rounds.1;omega⟩;have Gb:s.prob.rounds.toNat=rr:=by omega
 have pg:rr<=6:=by have:=hs.rounds;omega
 rw[Gb]at li Nz c3 c4 d3 d4;have li:=li.symm;have Nz:=Nz.symm;subst li;subst Nz;have T6:am (w.cell? ⟨B,6,none⟩=some (.int .i64 (rr:Nat))):=aa ((ab q1 6).trans (by rw[<-vN];rfl));have T7:am (w.cell? ⟨B,7,none⟩=some (.int .i64 (nS s:Nat))):=aa ((ab q1 7).trans (by rw[<-hn.2.2.1];rfl));have T9:am (w.cell? ⟨B,9,none⟩=some (.slice (some ⟨b,o,none⟩) (eS s) ce)):=aa ((ab q1 9).trans rfl);have C1:=aa c1;have C2:=aa c2;have C3:=aa c3;have C4:=aa c4;have D1:=aa d1;have D2:=aa d2;have D3:=aa d3;have D4:=aa d4;obtain⟨fa,DB,hfa2⟩:=Ls hs he;obtain⟨fb,Q7,hfb2⟩:=Ls hs hf;have HK:am (∀ p,linkB s p e f=(!(hasB (fa:Int) p || hasB (fb:Int) p)&&decide (finS s e p=finS s f p))):=aa (fun p=>by unfold linkB;rw[DB,Q7,Bool.not_or]);obtain⟨pr2,cr2,e4,erow⟩:=cV bU;injection e4 with e41 e42 e43
 subst e41 e43;obtain⟨pr3,cr3,e5,erow'⟩:=cV mH;injection e5 with e51 e52 e53
 subst e51 e53;clear e42 e52
 have R1:am (∀ p,p<nS s->∃ b o,pr=some ⟨b,o,none⟩/\w.cell? ⟨b,o+p,none⟩=some (.int .i64 (finS s e p))):=aa (fun p hp=>by
  obtain⟨b,o,e1,h1⟩:=erow p (by simpa using hp);rw[mi hp]at h1
  exact⟨b,o,e1,h1⟩)
 have R2:am (∀ p,p<nS s->∃ b o,pr'=some ⟨b,o,none⟩/\w.cell? ⟨b,o+p,none⟩=some (.int .i64 (finS s f p))):=aa (fun p hp=>by
  obtain⟨b,o,e1,h1⟩:=erow' p (by simpa using hp);rw[mi hp]at h1
  exact⟨b,o,e1,h1⟩)
 rw[DB]at eV fU;rw[Q7]at ra tW;have Gp:=aa eV;have HF0:=aa fU;have oI:=aa ra;have HG0:=aa tW;have HM:=aa (ik (fun p=>linkB s p e f));have Gg:=aa (fun k=>@yu (fun p=>linkB s p e f) k);have vQ:=aa (fun k=>@wE (fun p=>linkB s p e f) k);have jf:nS s<=5:=hn.2.1;generalize hm:eS s=m at *;generalize fE:nS s=n at *;clear q1 q2 c1 c2 c3 c4 d1 d2 d3 d4 bU mH eV fU ra tW vN Gb DB Q7 gd hn hm fE hs erow erow'
 go_enter Tryz.func97,Tryz.ntmps97
 go_wp2_with fail
 obtain⟨VS,Dc⟩:∃ VS:List Value,VS=[.pointer (some ⟨B,0,none⟩),.pointer (some ⟨B,0,none⟩),.pointer (some ⟨B,0,none⟩),.pointer (some ⟨B,9,none⟩),.slice (some ⟨b,o,none⟩) m ce,.int .i64 (e:Nat),.pointer (some ⟨b,o+e * 3,none⟩),.agg #[.int .i64 (cH s e).c,.slice pw rr cw,.slice (some ⟨b2,o2,none⟩) (rr+1) cv],.pointer (some ⟨B,0,none⟩),.pointer (some ⟨B,0,none⟩),.pointer (some ⟨B,0,none⟩),.pointer (some ⟨B,9,none⟩),.slice (some ⟨b,o,none⟩) m ce,.int .i64 (f:Nat),.pointer (some ⟨b,o+f * 3,none⟩),.agg #[.int .i64 (cH s f).c,.slice pw' rr cw',.slice (some ⟨b3,o3,none⟩) (rr+1) cv']]:=⟨_,rfl⟩;have hS:List.Nodup [14,15,16,17,18,19,20,21,22,23,24,25,26,27,28,29,8,9]:=by decide
 refine pM 20 [14,15,16,17,18,19,20,21,22,23,24,25,26,27,28,29,8,9] (TwoBox w 16 VS #[.int .i64 (cH s e).c,.slice pw rr cw,.slice (some ⟨b2,o2,none⟩) (rr+1) cv] #[.int .i64 0,.slice none 0 0,.slice none 0 0] #[.int .i64 (cH s f).c,.slice pw' rr cw',.slice (some ⟨b3,o3,none⟩) (rr+1) cv'] 89) (by kernel_rfl) rfl hS (by kernel_rfl) (fun x=>TwoBox.start (by go_grown)) ?step ?free ?last
 case step=>
  intro x W D i o' s' F ho vM hD aq hc hF;have hi:i<18:=(List.getElem?_eq_some_iff.1 vM).1;rcases (show i=0\/i=1\/i=2\/i=3\/i=4\/i=5\/i=6\/i=7\/i=8\/i=9\/i=10\/i=11\/i=12\/i=13\/i=14\/i=15\/i=16\/i=17 by omega) with rfl|rfl|rfl|rfl|rfl|rfl|rfl|rfl|rfl|rfl|rfl|rfl|rfl|rfl|rfl|rfl|rfl|rfl
  all_goals (obtain rfl:=dy ho.symm;obtain rfl:=dy vM.symm;clear hi ho vM;subst Dc)
  ·obtain⟨e0,f0⟩:=cJ hF 0 (.pointer (some ⟨B,0,none⟩)) (by decide) rfl;clear hF aq
   go_wp2_with fail
   exact dC.mk (.pointer (some ⟨B,0,none⟩)) (hc.set 0 (by omega) hD rfl) rfl
  ·obtain⟨e0,f0⟩:=aS hF 0 14 (.pointer (some ⟨B,0,none⟩)) hS rfl (by kernel_rfl) (hc.val 0 (by omega) (aq ⟨0,.data⟩ (by simp) rfl));clear hF aq
   go_wp2_with fail
   exact dC.mk (.pointer (some ⟨B,0,none⟩)) (hc.set 1 (by omega) hD rfl) rfl
  ·obtain⟨e1,f1⟩:=aS hF 1 15 (.pointer (some ⟨B,0,none⟩)) hS rfl (by kernel_rfl) (hc.val 1 (by omega) (aq ⟨1,.data⟩ (by simp) rfl));clear hF aq
   go_wp2_with fail
   exact dC.mk (.pointer (some ⟨B,0,none⟩)) (hc.set 2 (by omega) hD rfl) rfl
  ·obtain⟨e2,f2⟩:=aS hF 2 16 (.pointer (some ⟨B,0,none⟩)) hS rfl (by kernel_rfl) (hc.val 2 (by omega) (aq ⟨2,.data⟩ (by simp) rfl));clear hF aq
   go_wp2_with fail
   exact dC.mk (.pointer (some ⟨B,9,none⟩)) (hc.set 3 (by omega) hD rfl) rfl
  ·obtain⟨e3,f3⟩:=aS hF 3 17 (.pointer (some ⟨B,9,none⟩)) hS rfl (by kernel_rfl) (hc.val 3 (by omega) (aq ⟨3,.data⟩ (by simp) rfl));have t9:=ak hc.below T9.o;clear hF aq
   go_wp2_with fail
   exact dC.mk (.slice (some ⟨b,o,none⟩) m ce) (hc.set 4 (by omega) hD rfl) rfl
  ·obtain⟨e0,f0⟩:=cJ hF 1 (.int .i64 (e:Nat)) (by decide) rfl;clear hF aq
   go_wp2_with fail
   exact dC.mk (.int .i64 (e:Nat)) (hc.set 5 (by omega) hD rfl) rfl
  ·obtain⟨e4,f4⟩:=aS hF 4 18 (.slice (some ⟨b,o,none⟩) m ce) hS rfl (by kernel_rfl) (hc.val 4 (by omega) (aq ⟨4,.data⟩ (by simp) rfl));obtain⟨e5,f5⟩:=aS hF 5 19 (.int .i64 (e:Nat)) hS rfl (by kernel_rfl) (hc.val 5 (by omega) (aq ⟨5,.data⟩ (by simp) rfl));clear hF aq
   go_wp2_with fail
   exact dC.mk (.pointer (some ⟨b,o+e * 3,none⟩)) (hc.set 6 (by omega) hD rfl) rfl
  ·obtain⟨e6,f6⟩:=aS hF 6 20 (.pointer (some ⟨b,o+e * 3,none⟩)) hS rfl (by kernel_rfl) (hc.val 6 (by omega) (aq ⟨6,.data⟩ (by simp) rfl));have u1:=ak hc.below C1.o;have u2:=ak hc.below C2.o;have u3:=ak hc.below C3.o;clear hF aq
   go_wp2_with fail
   exact dC.mk (.agg #[.int .i64 (cH s e).c,.slice pw rr cw,.slice (some ⟨b2,o2,none⟩) (rr+1) cv]) (hc.set 7 (by omega) hD rfl) rfl
  ·obtain⟨e0,f0⟩:=cJ hF 0 (.pointer (some ⟨B,0,none⟩)) (by decide) rfl;clear hF aq
   go_wp2_with fail
   exact dC.mk (.pointer (some ⟨B,0,none⟩)) (hc.set 8 (by omega) hD rfl) rfl
  ·obtain⟨e8,f8⟩:=aS hF 8 22 (.pointer (some ⟨B,0,none⟩)) hS rfl (by kernel_rfl) (hc.val 8 (by omega) (aq ⟨8,.data⟩ (by simp) rfl));clear hF aq
   go_wp2_with fail
   exact dC.mk (.pointer (some ⟨B,0,none⟩)) (hc.set 9 (by omega) hD rfl) rfl
  ·obtain⟨e9,f9⟩:=aS hF 9 23 (.pointer (some ⟨B,0,none⟩)) hS rfl (by kernel_rfl) (hc.val 9 (by omega) (aq ⟨9,.data⟩ (by simp) rfl));clear hF aq
   go_wp2_with fail
   exact dC.mk (.pointer (some ⟨B,0,none⟩)) (hc.set 10 (by omega) hD rfl) rfl
  ·obtain⟨e10,f10⟩:=aS hF 10 24 (.pointer (some ⟨B,0,none⟩)) hS rfl (by kernel_rfl) (hc.val 10 (by omega) (aq ⟨10,.data⟩ (by simp) rfl));clear hF aq
   go_wp2_with fail
   exact dC.mk (.pointer (some ⟨B,9,none⟩)) (hc.set 11 (by omega) hD rfl) rfl
  ·obtain⟨e11,f11⟩:=aS hF 11 25 (.pointer (some ⟨B,9,none⟩)) hS rfl (by kernel_rfl) (hc.val 11 (by omega) (aq ⟨11,.data⟩ (by simp) rfl));have t9:=ak hc.below T9.o;clear hF aq
   go_wp2_with fail
   exact dC.mk (.slice (some ⟨b,o,none⟩) m ce) (hc.set 12 (by omega) hD rfl) rfl
  ·obtain⟨e0,f0⟩:=cJ hF 2 (.int .i64 (f:Nat)) (by decide) rfl;clear hF aq
   go_wp2_with fail
   exact dC.mk (.int .i64 (f:Nat)) (hc.set 13 (by omega) hD rfl) rfl
  ·obtain⟨e12,f12⟩:=aS hF 12 26 (.slice (some ⟨b,o,none⟩) m ce) hS rfl (by kernel_rfl) (hc.val 12 (by omega) (aq ⟨12,.data⟩ (by simp) rfl));obtain⟨e13,f13⟩:=aS hF 13 27 (.int .i64 (f:Nat)) hS rfl (by kernel_rfl) (hc.val 13 (by omega) (aq ⟨13,.data⟩ (by simp) rfl));clear hF aq
   go_wp2_with fail
   exact dC.mk (.pointer (some ⟨b,o+f * 3,none⟩)) (hc.set 14 (by omega) hD rfl) rfl
  ·obtain⟨e14,f14⟩:=aS hF 14 28 (.pointer (some ⟨b,o+f * 3,none⟩)) hS rfl (by kernel_rfl) (hc.val 14 (by omega) (aq ⟨14,.data⟩ (by simp) rfl));have u1:=ak hc.below D1.o;have u2:=ak hc.below D2.o;have u3:=ak hc.below D3.o;clear hF aq
   go_wp2_with fail
   exact dC.mk (.agg #[.int .i64 (cH s f).c,.slice pw' rr cw',.slice (some ⟨b3,o3,none⟩) (rr+1) cv']) (hc.set 15 (by omega) hD rfl) rfl
  ·clear hF aq
   go_wp2_with fail
   exact dC.mk (.pointer (some ⟨W.heap.size,0,none⟩)) (hc.alloc_a hD) rfl
  ·clear hF aq
   go_wp2_with fail
   exact dC.mk (.pointer (some ⟨W.heap.size,0,none⟩)) (hc.alloc_b hD) rfl
 case free=>
  intro x W D i o' F ho h6 h8 hD aq hc hF;rcases (show i=18\/i=19 by simp at h6;omega) with rfl|rfl
  ·obtain rfl:=dy ho.symm;have g7:=hc.val 7 (by omega) (aq ⟨7,.data⟩ (by simp) rfl);have gA:=aq ⟨16,.data⟩ (by simp) rfl;obtain⟨g,g1,g2,g3⟩:=hc.a gA;rw[hD]at g3;obtain⟨e7,_⟩:=aS hF 7 21 (.agg #[.int .i64 (cH s e).c,.slice pw rr cw,.slice (some ⟨b2,o2,none⟩) (rr+1) cv]) hS rfl (by kernel_rfl) (by rw[g7,Dc];rfl);obtain⟨e8,_⟩:=aS hF 16 8 (.pointer (some ⟨g,0,none⟩)) hS rfl (by kernel_rfl) g1;refine wpList_store_row rfl 89 (.tmp 8) (.tmp 21) rfl g #[.int .i64 (cH s e).c,.slice pw rr cw,.slice (some ⟨b2,o2,none⟩) (rr+1) cv] e8 e7 89 _ g3 (by kernel_rfl) (by kernel_rfl) (by simp[Value.oneCell']) ?_;exact⟨rfl,hc.store_a gA hD g1⟩
  ·obtain rfl:=dy ho.symm;have g7:=hc.val 15 (by omega) (aq ⟨15,.data⟩ (by simp) rfl);have gA:=aq ⟨17,.data⟩ (by simp) rfl;obtain⟨g,g1,g2,g3⟩:=hc.b gA;rw[hD]at g3;obtain⟨e7,_⟩:=aS hF 15 29 (.agg #[.int .i64 (cH s f).c,.slice pw' rr cw',.slice (some ⟨b3,o3,none⟩) (rr+1) cv']) hS rfl (by kernel_rfl) (by rw[g7,Dc];rfl);obtain⟨e8,_⟩:=aS hF 17 9 (.pointer (some ⟨g,0,none⟩)) hS rfl (by kernel_rfl) g1;refine wpList_store_row rfl 89 (.tmp 9) (.tmp 29) rfl g #[.int .i64 (cH s f).c,.slice pw' rr cw',.slice (some ⟨b3,o3,none⟩) (rr+1) cv'] e8 e7 89 _ g3 (by kernel_rfl) (by kernel_rfl) (by simp[Value.oneCell']) ?_;exact⟨rfl,hc.store_b gA hD g1⟩
 case last=>
  intro x W1 D F aU hc hF;obtain⟨g1,a1,a2,a3⟩:=hc.a (aU 16 (by omega));obtain⟨g2,z1,z2,z3⟩:=hc.b (aU 17 (by omega));rw[aU 18 (by omega)]at a3;rw[aU 19 (by omega)]at z3;have bI:=aa hc.below;have oI:=aa a3;have se:=aa z3;clear hc aU Dc hS a2 a3 z2 z3;simp only[bA,cW,List.setIfInBounds_toArray,List.set_cons_succ,List.set_cons_zero,Nat.reduceAdd]at hF;simp only[a1,z1]at hF;generalize x 0=s0,x 1=s1,x 2=s2,x 3=s3,x 4=s4,x 5=s5,x 6=s6,x 7=s7,x 8=s8,x 9=s9,x 10=s10,x 11=s11,x 12=s12,x 13=s13,x 14=s14,x 15=s15 at hF;subst hF;clear a1 z1;have t7:=ak bI.o T7.o
  go_wp2_with fail
  clear t7
  go_loopw [7,36] (fun v i wr=>∃ k:Nat,k<=n/\i=.int .i64 k/\v=.int .i64 (maskN (fun p=>linkB s p e f) k:Nat)/\Below w.heap.size w wr/\wr.heap[g1]?=some (.cells #[.int .i64 (cH s e).c,.slice pw rr cw,.slice (some ⟨b2,o2,none⟩) (rr+1) cv] 89)/\wr.heap[g2]?=some (.cells #[.int .i64 (cH s f).c,.slice pw' rr cw',.slice (some ⟨b3,o3,none⟩) (rr+1) cv'] 89)) (fun _ i _=>n - (intOf i).toNat)
  ·exact⟨0,by omega,rfl,rfl,bI.o,oI.o,se.o⟩
  ·
   clear bI oI se;obtain⟨k,hk,rfl,rfl,aA,ha,hc⟩:=hrel;have aV:=aa aA;have HA:=aa ha;have HC:=aa hc;by_cases aC:k<n
   ·have gg:maskN (fun p=>linkB s p e f) k<1024:=by
     have h1:=HM.o k;have h2:(2:Nat) ^ k<=2 ^ 5:=Nat.pow_le_pow_right (by omega) (by omega);omega
    obtain⟨b6,o6,rfl,c6⟩:=R1.o k aC;obtain⟨b7,o7,rfl,c7⟩:=R2.o k aC;have HL:=aa (HK.o k);obtain⟨xe,hxe⟩:∃ xe,finS s e k=xe:=⟨_,rfl⟩;obtain⟨xf,hxf⟩:∃ xf,finS s f k=xf:=⟨_,rfl⟩;rw[hxe]at c6 HL;rw[hxf]at c7 HL;have tA:=ab ha;have tB:=ab hc;have t6:=ak aA T6.o;have y4:∀ z:ExtW wr,z.val.cell? ⟨b2,o2+rr,none⟩=_:=fun z=>ak (ae aV.o z.ext) C4.o
    have y5:∀ z:ExtW wr,z.val.cell? ⟨b3,o3+rr,none⟩=_:=fun z=>ak (ae aV.o z.ext) D4.o
    have y6:∀ z:ExtW wr,z.val.cell? ⟨b6,o6+k,none⟩=_:=fun z=>ak (ae aV.o z.ext) c6
    have y7:∀ z:ExtW wr,z.val.cell? ⟨b7,o7+k,none⟩=_:=fun z=>ak (ae aV.o z.ext) c7
    have yA:∀ z:ExtW wr,∀ j,z.val.cell? ⟨g1,j,none⟩=_:=fun z=>ab (af z.ext HA.o)
    have yB:∀ z:ExtW wr,∀ j,z.val.cell? ⟨g2,j,none⟩=_:=fun z=>ab (af z.ext HC.o)
    clear aA ha hc c6 c7 hxe hxf;generalize QU:maskN (fun p=>linkB s p e f) k=mk at gg ⊢;by_cases h0:rr=0
    ·have e1:=HF0.o h0;have e2:=HG0.o h0;have e1:fa=0:=by omega
     have e2:fb=0:=by omega
     subst h0 e1 e2;have HL:am (linkB s k e f=(!hasB (0:Int) k&&decide (xe=xf))):=aa (by rw[HL.o];simp);simp only[Nat.add_zero]at y4 y5;clear Gp oI HF0 HG0;have gR:(bits .and .i64 0 1 == 0)=true:=by decide
     have hh:hasB (0:Int) k=false:=by unfold hasB;simp
     have C':am (linkB s k e f=decide (xe=xf)):=aa (by rw[HL.o,hh];rfl);clear hh;by_cases hx:xe=xf
     ·subst hx;have HB:am (linkB s k e f=true):=aa (by rw[C'.o];simp);clear C'
      go_wp2_with fail
      refine aB (by kernel_rfl) (by kernel_rfl) ?_
      repeat (go_big_quiet_step (fail))
      refine wpQuiet_nil ?_;rintro _ ⟨xq,rfl⟩;have bP:=aa xq.ext;clear t6 yA yB y4 y5 y6 y7
      go_wp2_with fail
      go_roundw
      ·exact⟨k+1,by omega,by go_num,rE (by rw[<-Gg.o k HB.o,QU];exact uL (by omega) (by omega)),ae aV.o bP.o,af bP.o HA.o,af bP.o HC.o⟩
      ·simp[intOf];omega
     ·have dm:(xe == xf)=false:=by simpa using hx
      have dM:decide (xe=xf)=false:=decide_eq_false hx;have HB:am (linkB s k e f=false):=aa (by rw[C'.o,dM]);clear hx
      go_wp2_with fail
      refine aB (by kernel_rfl) (by kernel_rfl) ?_
      repeat (go_big_quiet_step (fail))
      refine wpQuiet_nil ?_;rintro _ ⟨xq,rfl⟩;have bP:=aa xq.ext;clear t6 yA yB y4 y5 y6 y7
      go_wp2_with fail
      go_roundw
      ·exact⟨k+1,by omega,by go_num,by rw[<-vQ.o k HB.o,QU],ae aV.o bP.o,af bP.o HA.o,af bP.o HC.o⟩
      ·simp[intOf];omega
    ·obtain⟨q,rfl⟩:∃ q,rr=q+1:=⟨rr - 1,by omega⟩;obtain⟨b8,o8,rfl,c8⟩:=Gp.o (by omega);obtain⟨b9,o9,rfl,c9⟩:=oI.o (by omega);rw[Nat.add_sub_cancel]at c8 c9;have t8:∀ z:ExtW wr,z.val.cell? ⟨b8,o8+q * 7+6,none⟩=_:=fun z=>ak (ae aV.o z.ext) c8
     have t9:∀ z:ExtW wr,z.val.cell? ⟨b9,o9+q * 7+6,none⟩=_:=fun z=>ak (ae aV.o z.ext) c9
     obtain⟨hor,J1⟩:=VV hfa2 hfb2 k;rw[<-J1]at HL;clear c8 c9 J1
     go_wp2_with fail
     refine aB (by kernel_rfl) (by kernel_rfl) ?_
     repeat (go_big_quiet_step (fail))
     refine wpQuiet_nil ?_;rintro _ ⟨x9,rfl⟩;have t6:=ak x9.ext t6;have y4:=fun z:ExtW x9.val=>y4 ⟨z.val,ae x9.ext z.ext⟩
     have y5:=fun z:ExtW x9.val=>y5 ⟨z.val,ae x9.ext z.ext⟩
     have y6:=fun z:ExtW x9.val=>y6 ⟨z.val,ae x9.ext z.ext⟩
     have y7:=fun z:ExtW x9.val=>y7 ⟨z.val,ae x9.ext z.ext⟩
     have yA:=fun (z:ExtW x9.val) j=>yA ⟨z.val,ae x9.ext z.ext⟩ j
     have yB:=fun (z:ExtW x9.val) j=>yB ⟨z.val,ae x9.ext z.ext⟩ j
     dsimp only at y4 y5 y6 y7 yA yB;clear t8 t9 tA tB;have gR:=sJ (((fa ||| fb:Nat):Int)) k;cases hh:hasB (((fa ||| fb:Nat):Int)) k with
     | true=>
      have HB:am (linkB s k e f=false):=aa (by rw[HL.o,hh];rfl);rw[hh]at gR;clear hh
      go_wp2_with fail
      refine aB (by kernel_rfl) (by kernel_rfl) ?_
      repeat (go_big_quiet_step (fail))
      refine wpQuiet_nil ?_;rintro _ ⟨xq,rfl⟩;have bP:=aa (ae x9.ext xq.ext);clear t6 yA yB y4 y5 y6 y7
      go_wp2_with fail
      go_roundw
      ·exact⟨k+1,by omega,by go_num,by rw[<-vQ.o k HB.o,QU],ae aV.o bP.o,af bP.o HA.o,af bP.o HC.o⟩
      ·simp[intOf];omega
     | false=>
      rw[hh]at gR;have C':am (linkB s k e f=decide (xe=xf)):=aa (by rw[HL.o,hh];rfl);clear hh;by_cases hx:xe=xf
      ·subst hx;have HB:am (linkB s k e f=true):=aa (by rw[C'.o];simp);clear C'
       go_wp2_with fail
       refine aB (by kernel_rfl) (by kernel_rfl) ?_
       repeat (go_big_quiet_step (fail))
       refine wpQuiet_nil ?_;rintro _ ⟨xq,rfl⟩;have bP:=aa (ae x9.ext xq.ext);clear t6 yA yB y4 y5 y6 y7
       go_wp2_with fail
       go_roundw
       ·exact⟨k+1,by omega,by go_num,rE (by rw[<-Gg.o k HB.o,QU];exact uL (by omega) (by omega)),ae aV.o bP.o,af bP.o HA.o,af bP.o HC.o⟩
       ·simp[intOf];omega
      ·have dm:(xe == xf)=false:=by simpa using hx
       have dM:decide (xe=xf)=false:=decide_eq_false hx;have HB:am (linkB s k e f=false):=aa (by rw[C'.o,dM]);clear hx
       go_wp2_with fail
       refine aB (by kernel_rfl) (by kernel_rfl) ?_
       repeat (go_big_quiet_step (fail))
       refine wpQuiet_nil ?_;rintro _ ⟨xq,rfl⟩;have bP:=aa (ae x9.ext xq.ext);clear t6 yA yB y4 y5 y6 y7
       go_wp2_with fail
       go_roundw
       ·exact⟨k+1,by omega,by go_num,by rw[<-vQ.o k HB.o,QU],ae aV.o bP.o,af bP.o HA.o,af bP.o HC.o⟩
       ·simp[intOf];omega
   ·obtain rfl:k=n:=by omega
    clear aA ha hc
    go_wp2_with fail
    go_ret
    exact⟨rfl,aV.o⟩
theorem PZ(t:Tk) (va vb:Value) (w:World) (ha:bM w va t.cases) (hb:bM w vb t.cases) :
  Calls Tryz.prog 181 #[.agg #[.int .i64 t.n,.int .i64 t.ins,.int .i64 t.outs,va],.agg #[.int .i64 t.n,.int .i64 t.ins,.int .i64 t.outs,vb]] w fun e w'=>e=.returned (.bool true)/\Below w.heap.size w w':=by
 obtain⟨pa,ca,rfl,la1,la2,ea⟩:=ha.at;obtain⟨pb,cb,rfl,lb1,lb2,eb⟩:=hb.at;have EA:=aa ea;have EB:=aa eb;clear ha hb ea eb;obtain⟨tn,ti,to,l⟩:=t;dsimp only at EA EB la1 la2 lb1 lb2 ⊢;obtain⟨m,hm⟩:∃ m,l.length=m:=⟨_,rfl⟩;have HM:=aa hm;rw[hm]at la1 la2 lb1 lb2 ⊢;clear hm;have qJ:(tn != tn)=false:=by simp
 have fw:(ti != ti)=false:=by simp
 have qL:(to != to)=false:=by simp
 have hd:((m:Int) != (m:Int))=false:=by simp
 go_enter Tryz.func181,Tryz.ntmps181
 go_wp2_with fail
 refine bC (fun W=>Below w.heap.size w W/\W.heap[w.heap.size]?=some (.cells #[.int .i64 tn,.int .i64 ti,.int .i64 to,.slice pa m ca] 24)/\W.heap[w.heap.size+1]?=some (.cells #[.int .i64 tn,.int .i64 ti,.int .i64 to,.slice pb m cb] 24)) ⟨by go_grown,ar _ (ap _ _),by have h:=ap (w.alloc (.cells #[.int .i64 tn,.int .i64 ti,.int .i64 to,.slice pa m ca] 24)) (.cells #[.int .i64 tn,.int .i64 ti,.int .i64 to,.slice pb m cb] 24);simpa using h⟩ (fun W0 aX=>?_);obtain⟨aG,bB,nG⟩:=aX;have eQ:=aa aG;have j8:=aa bB;have nB:=aa nG;clear aG bB nG
 go_loopw [5] (fun i wr=>∃ k:Nat,k<=m/\i=.int .i64 k/\Below W0.heap.size W0 wr) (fun i _=>m - (intOf i).toNat)
 ·exact⟨0,by omega,rfl,Below.refl _ _⟩
 ·
  obtain⟨k,hk,rfl,aA⟩:=hrel;have aV:=aa aA;have bP:=aa (ae eQ.o aA);clear aA;have HAA:=aa (af aV.o j8.o);have uk:=aa (af aV.o nB.o);have tA:=ab HAA.o;by_cases aC:k<m
  ·obtain⟨b1,o1,rfl,⟨x0,cx0,dk⟩,⟨x1,cx1,dm⟩,⟨x2,cx2,dM⟩⟩:=EA.o k (by rw[HM.o];exact aC);obtain⟨b2,o2,rfl,⟨y0,cy0,fM⟩,⟨y1,cy1,jK⟩,⟨y2,cy2,iN⟩⟩:=EB.o k (by rw[HM.o];exact aC);generalize l[k]'(by rw[HM.o];exact aC)=c at dk dm dM fM jK iN;have Qk:=aa (fun W (h:Below wr.heap.size wr W)=>lN x0 y0 c.inp c.inp W (dk.up up_int (ae bP.o h)) (fM.up up_int (ae bP.o h)));rw[sD]at Qk;have eO:=aa (fun W (h:Below wr.heap.size wr W)=>FO x1 y1 c.out W (dm.up up_ints (ae bP.o h)) (jK.up up_ints (ae bP.o h)));have lV:=aa (fun W (h:Below wr.heap.size wr W)=>FO x2 y2 c.calm W (dM.up up_ints (ae bP.o h)) (iN.up up_ints (ae bP.o h)));obtain⟨p0,c0,rfl,_,_,_⟩:=dk.at;obtain⟨p1,c1,rfl,_,_,_⟩:=dm.at;obtain⟨p2,c2,rfl,_,_,_⟩:=dM.at;obtain⟨q0,d0,rfl,_,_,_⟩:=fM.at;obtain⟨q1,d1,rfl,_,_,_⟩:=jK.at;obtain⟨q2,d2,rfl,_,_,_⟩:=iN.at;clear dk dm dM fM jK iN;generalize c.inp.length=n0,c.out.length=n1,c.calm.length=n2 at cx0 cx1 cx2 cy0 cy1 cy2 Qk eO lV;have C0:=aa (ak bP.o cx0);have C1:=aa (ak bP.o cx1);have C2:=aa (ak bP.o cx2);have D0:=aa (ak bP.o cy0);have D1:=aa (ak bP.o cy1);have D2:=aa (ak bP.o cy2);clear cx0 cx1 cx2 cy0 cy1 cy2
   go_wp2_with fail
   clear tA;obtain⟨VS,Dc⟩:∃ VS:List Value,VS=[.pointer (some ⟨w.heap.size,3,none⟩),.slice (some ⟨b1,o1,none⟩) m ca,.int .i64 (k:Nat),.pointer (some ⟨b1,o1+k * 3,none⟩),.agg #[.slice p0 n0 c0,.slice p1 n1 c1,.slice p2 n2 c2],.pointer (some ⟨w.heap.size+1,3,none⟩),.slice (some ⟨b2,o2,none⟩) m cb,.int .i64 (k:Nat),.pointer (some ⟨b2,o2+k * 3,none⟩),.agg #[.slice q0 n0 d0,.slice q1 n1 d1,.slice q2 n2 d2]]:=⟨_,rfl⟩;have hS:List.Nodup [43,44,45,46,47,48,49,50,51,52,6,7]:=by decide
   refine pM 14 [43,44,45,46,47,48,49,50,51,52,6,7] (TwoBox wr 10 VS #[.slice p0 n0 c0,.slice p1 n1 c1,.slice p2 n2 c2] #[.slice none 0 0,.slice none 0 0,.slice none 0 0] #[.slice q0 n0 d0,.slice q1 n1 d1,.slice q2 n2 d2] 135) (by kernel_rfl) rfl hS (by kernel_rfl) (fun x=>TwoBox.start (by go_grown)) ?step ?free ?last
   case step=>
    intro x W D i o' s' F ho vM hD aq hc hF;have hi:i<12:=(List.getElem?_eq_some_iff.1 vM).1;rcases (show i=0\/i=1\/i=2\/i=3\/i=4\/i=5\/i=6\/i=7\/i=8\/i=9\/i=10\/i=11 by omega) with rfl|rfl|rfl|rfl|rfl|rfl|rfl|rfl|rfl|rfl|rfl|rfl
    all_goals (obtain rfl:=dy ho.symm;obtain rfl:=dy vM.symm;clear hi ho vM;subst Dc)
    ·obtain⟨e0,f0⟩:=cJ hF 2 (.pointer (some ⟨w.heap.size,0,none⟩)) (by decide) rfl;clear hF aq
     go_wp2_with fail
     exact dC.mk (.pointer (some ⟨w.heap.size,3,none⟩)) (hc.set 0 (by omega) hD rfl) rfl
    ·obtain⟨e0,f0⟩:=aS hF 0 43 (.pointer (some ⟨w.heap.size,3,none⟩)) hS rfl (by kernel_rfl) (hc.val 0 (by omega) (aq ⟨0,.data⟩ (by simp) rfl));have t9:=ab (af hc.below HAA.o);clear hF aq
     go_wp2_with fail
     exact dC.mk (.slice (some ⟨b1,o1,none⟩) m ca) (hc.set 1 (by omega) hD rfl) rfl
    ·obtain⟨e0,f0⟩:=cJ hF 5 (.int .i64 (k:Nat)) (by decide) rfl;clear hF aq
     go_wp2_with fail
     exact dC.mk (.int .i64 (k:Nat)) (hc.set 2 (by omega) hD rfl) rfl
    ·obtain⟨e1,f1⟩:=aS hF 1 44 (.slice (some ⟨b1,o1,none⟩) m ca) hS rfl (by kernel_rfl) (hc.val 1 (by omega) (aq ⟨1,.data⟩ (by simp) rfl));obtain⟨e2,f2⟩:=aS hF 2 45 (.int .i64 (k:Nat)) hS rfl (by kernel_rfl) (hc.val 2 (by omega) (aq ⟨2,.data⟩ (by simp) rfl));clear hF aq
     go_wp2_with fail
     exact dC.mk (.pointer (some ⟨b1,o1+k * 3,none⟩)) (hc.set 3 (by omega) hD rfl) rfl
    ·obtain⟨e3,f3⟩:=aS hF 3 46 (.pointer (some ⟨b1,o1+k * 3,none⟩)) hS rfl (by kernel_rfl) (hc.val 3 (by omega) (aq ⟨3,.data⟩ (by simp) rfl));have u1:=ak hc.below C0.o;have u2:=ak hc.below C1.o;have u3:=ak hc.below C2.o;clear hF aq
     go_wp2_with fail
     exact dC.mk (.agg #[.slice p0 n0 c0,.slice p1 n1 c1,.slice p2 n2 c2]) (hc.set 4 (by omega) hD rfl) rfl
    ·obtain⟨e0,f0⟩:=cJ hF 3 (.pointer (some ⟨w.heap.size+1,0,none⟩)) (by decide) rfl;clear hF aq
     go_wp2_with fail
     exact dC.mk (.pointer (some ⟨w.heap.size+1,3,none⟩)) (hc.set 5 (by omega) hD rfl) rfl
    ·obtain⟨e5,f5⟩:=aS hF 5 48 (.pointer (some ⟨w.heap.size+1,3,none⟩)) hS rfl (by kernel_rfl) (hc.val 5 (by omega) (aq ⟨5,.data⟩ (by simp) rfl));have t9:=ab (af hc.below uk.o);clear hF aq
     go_wp2_with fail
     exact dC.mk (.slice (some ⟨b2,o2,none⟩) m cb) (hc.set 6 (by omega) hD rfl) rfl
    ·obtain⟨e0,f0⟩:=cJ hF 5 (.int .i64 (k:Nat)) (by decide) rfl;clear hF aq
     go_wp2_with fail
     exact dC.mk (.int .i64 (k:Nat)) (hc.set 7 (by omega) hD rfl) rfl
    ·obtain⟨e6,f6⟩:=aS hF 6 49 (.slice (some ⟨b2,o2,none⟩) m cb) hS rfl (by kernel_rfl) (hc.val 6 (by omega) (aq ⟨6,.data⟩ (by simp) rfl));obtain⟨e7,f7⟩:=aS hF 7 50 (.int .i64 (k:Nat)) hS rfl (by kernel_rfl) (hc.val 7 (by omega) (aq ⟨7,.data⟩ (by simp) rfl));clear hF aq
     go_wp2_with fail
     exact dC.mk (.pointer (some ⟨b2,o2+k * 3,none⟩)) (hc.set 8 (by omega) hD rfl) rfl
    ·obtain⟨e8,f8⟩:=aS hF 8 51 (.pointer (some ⟨b2,o2+k * 3,none⟩)) hS rfl (by kernel_rfl) (hc.val 8 (by omega) (aq ⟨8,.data⟩ (by simp) rfl));have u1:=ak hc.below D0.o;have u2:=ak hc.below D1.o;have u3:=ak hc.below D2.o;clear hF aq
     go_wp2_with fail
     exact dC.mk (.agg #[.slice q0 n0 d0,.slice q1 n1 d1,.slice q2 n2 d2]) (hc.set 9 (by omega) hD rfl) rfl
    ·clear hF aq
     go_wp2_with fail
     exact dC.mk (.pointer (some ⟨W.heap.size,0,none⟩)) (hc.alloc_a hD) rfl
    ·clear hF aq
     go_wp2_with fail
     exact dC.mk (.pointer (some ⟨W.heap.size,0,none⟩)) (hc.alloc_b hD) rfl
   case free=>
    intro x W D i o' F ho h6 h8 hD aq hc hF;rcases (show i=12\/i=13 by simp at h6;omega) with rfl|rfl
    ·obtain rfl:=dy ho.symm;have g7:=hc.val 4 (by omega) (aq ⟨4,.data⟩ (by simp) rfl);have gA:=aq ⟨10,.data⟩ (by simp) rfl;obtain⟨g,g1,g2,g3⟩:=hc.a gA;rw[hD]at g3;obtain⟨e7,_⟩:=aS hF 4 47 (.agg #[.slice p0 n0 c0,.slice p1 n1 c1,.slice p2 n2 c2]) hS rfl (by kernel_rfl) (by rw[g7,Dc];rfl);obtain⟨e8,_⟩:=aS hF 10 6 (.pointer (some ⟨g,0,none⟩)) hS rfl (by kernel_rfl) g1;refine wpList_store_row rfl 135 (.tmp 6) (.tmp 47) rfl g #[.slice p0 n0 c0,.slice p1 n1 c1,.slice p2 n2 c2] e8 e7 135 _ g3 (by kernel_rfl) (by kernel_rfl) (by simp[Value.oneCell']) ?_;exact⟨rfl,hc.store_a gA hD g1⟩
    ·obtain rfl:=dy ho.symm;have g7:=hc.val 9 (by omega) (aq ⟨9,.data⟩ (by simp) rfl);have gA:=aq ⟨11,.data⟩ (by simp) rfl;obtain⟨g,g1,g2,g3⟩:=hc.b gA;rw[hD]at g3;obtain⟨e7,_⟩:=aS hF 9 52 (.agg #[.slice q0 n0 d0,.slice q1 n1 d1,.slice q2 n2 d2]) hS rfl (by kernel_rfl) (by rw[g7,Dc];rfl);obtain⟨e8,_⟩:=aS hF 11 7 (.pointer (some ⟨g,0,none⟩)) hS rfl (by kernel_rfl) g1;refine wpList_store_row rfl 135 (.tmp 7) (.tmp 52) rfl g #[.slice q0 n0 d0,.slice q1 n1 d1,.slice q2 n2 d2] e8 e7 135 _ g3 (by kernel_rfl) (by kernel_rfl) (by simp[Value.oneCell']) ?_;exact⟨rfl,hc.store_b gA hD g1⟩
   case last=>
    intro x W1 D F aU hc hF;obtain⟨g1,a1,a2,a3⟩:=hc.a (aU 10 (by omega));obtain⟨g2,z1,z2,z3⟩:=hc.b (aU 11 (by omega));rw[aU 12 (by omega)]at a3;rw[aU 13 (by omega)]at z3;have bI:=aa hc.below;have oI:=aa a3;have se:=aa z3;clear hc aU Dc hS a2 a3 z2 z3;simp only[bA,cW,List.setIfInBounds_toArray,List.set_cons_succ,List.set_cons_zero,Nat.reduceAdd]at hF;simp only[a1,z1]at hF;generalize x 0=s0,x 1=s1,x 2=s2,x 3=s3,x 4=s4,x 5=s5,x 6=s6,x 7=s7,x 8=s8,x 9=s9 at hF;subst hF;clear a1 z1;have tA:=ab oI.o;have tC:=ab se.o
    go_wp2_with fail
    refine(Qk.o W1 bI.o).mono ?_;rintro r W2 ⟨rfl,aT⟩;have cf:=aa (ae bI.o aT);clear tA tC;have tA:=ab (af aT oI.o);have tC:=ab (af aT se.o);have H12:=aa aT;clear aT
    go_wp2_with fail
    refine(eO.o W2 cf.o).mono ?_;rintro r W3 ⟨rfl,bG⟩;have dE:=aa (ae cf.o bG);clear tA tC;have tA:=ab (af (ae H12.o bG) oI.o);have tC:=ab (af (ae H12.o bG) se.o);clear bG
    go_wp2_with fail
    refine(lV.o W3 dE.o).mono ?_;rintro r W4 ⟨rfl,bS⟩;have eE:=aa (ae dE.o bS);clear tA tC bS
    go_wp2_with fail
    go_roundw
    ·exact⟨k+1,by omega,by go_num,ae aV.o eE.o⟩
    ·simp[intOf];omega
  ·obtain rfl:k=m:=by omega
   go_wp2_with fail
   go_ret
   exact⟨rfl,bP.o⟩
theorem P0(p:Pb) (vc vs uc us:Value) (w:World) (hc:bM w vc p.t.cases) (hs:bu w vs p.a.states) (kc:bM w uc p.t.cases) (ks:bu w us p.a.states) :
  Calls Tryz.prog 148 #[.agg (AG p vc vs),.agg (AG p uc us)] w fun e w'=>e=.returned (.bool true)/\Below w.heap.size w w':=by
 have HT:=aa (fun W (h:Below w.heap.size w W)=>PZ p.t vc uc W (hc.up up_case h) (kc.up up_case h));have HA:=aa (fun W (h:Below w.heap.size w W)=>Sm p.a.n p.a.states vs us W (hs.up up_moves h) (ks.up up_moves h));obtain⟨p1,c1,rfl,_,_,_⟩:=hc.at;obtain⟨p2,c2,rfl,_,_,_⟩:=hs.at;obtain⟨p3,c3,rfl,_,_,_⟩:=kc.at;obtain⟨p4,c4,rfl,_,_,_⟩:=ks.at;generalize p.t.cases.length=n1,p.a.states.length=n2 at HT HA ⊢;clear hc hs kc ks
 go_enter Tryz.func148,Tryz.ntmps148
 go_wp2_with fail
 refine aO (fun W=>Below w.heap.size w W/\(∃ c,W.heap[w.heap.size]?=some (.cells c 29)/\c=AG p (.slice p1 n1 c1) (.slice p2 n2 c2))/\(∃ c,W.heap[w.heap.size+1]?=some (.cells c 29)/\c=AG p (.slice p3 n1 c3) (.slice p4 n2 c4))) ⟨by go_grown,⟨_,ar _ (ap _ _),rfl⟩,⟨_,by have h:=ap (w.alloc (.cells (AG p (.slice p1 n1 c1) (.slice p2 n2 c2)) 29)) (.cells (AG p (.slice p3 n1 c3) (.slice p4 n2 c4)) 29);simpa using h,rfl⟩⟩ (fun W0 aX=>?_);obtain⟨aG,⟨_,bB,rfl⟩,⟨_,nG,rfl⟩⟩:=aX;refine(HT.o W0 aG).mono ?_;rintro r W1 ⟨rfl,aK⟩;have bI:=aa (ae aG aK);have tA:=ab (af aK bB);have tC:=ab (af aK nG);clear aG bB nG aK
 go_wp2_with fail
 refine(HA.o W1 bI.o).mono ?_;rintro r W2 ⟨rfl,aT⟩;have cf:=aa (ae bI.o aT);clear tA tC aT
 go_wp2_with fail
 go_ret
 exact⟨rfl,cf.o⟩
theorem Nc(s z:Sys) (hp:z.prob=s.prob) (vc vs vt ve uc us ut ue:Value) (w:World) (hs:IsSys w s vc vs vt ve) (hz:IsSys w z uc us ut ue) :
  Calls Tryz.prog 102 #[.agg (bL s.prob vc vs s.n vt ve),.agg (bL s.prob uc us z.n ut ue)] w fun e w'=>e=.returned (.bool (decide ((s.n=z.n/\s.tab=z.tab)/\s.ex=z.ex)))/\Below w.heap.size w w':=by
 have L6:=aa (fun W (h:Below w.heap.size w W)=>P0 s.prob vc vs uc us W (hs.cases.up up_case h) (hs.states.up up_moves h) (by have:=hz.cases.up up_case h;rwa [hp]at this) (by have:=hz.states.up up_moves h;rwa [hp]at this));have uA:=aa (fun W (h:Below w.heap.size w W)=>M9 s.n z.n vt ut s.tab z.tab W (hs.tab.up up_view h) (hz.tab.up up_view h));obtain⟨p1,c1,rfl,_,_,_⟩:=hs.cases.at;obtain⟨p2,c2,rfl,_,_,_⟩:=hs.states.at;obtain⟨p3,c3,rfl,_,_,_⟩:=hs.tab.at;obtain⟨q1,d1,rfl,_,_,_⟩:=hz.cases.at;obtain⟨q2,d2,rfl,_,_,_⟩:=hz.states.at;obtain⟨q3,d3,rfl,_,_,_⟩:=hz.tab.at;obtain⟨pa,ca,rfl,la1,la2,ea⟩:=hs.ex.at;obtain⟨pb,cb,rfl,lb1,lb2,eb⟩:=hz.ex.at;have EA:=aa ea;have EB:=aa eb;obtain⟨bt,uy⟩:∃ bt,decide (s.n=z.n/\s.tab=z.tab)=bt:=⟨_,rfl⟩;have Jy:am (bt=false->decide ((s.n=z.n/\s.tab=z.tab)/\s.ex=z.ex)=false):=aa fun h=>decide_eq_false fun e=>(of_decide_eq_false (uy.trans h)) e.1
 have iO:am (s.ex.length≠z.ex.length->decide ((s.n=z.n/\s.tab=z.tab)/\s.ex=z.ex)=false):=aa fun h=>decide_eq_false fun e=>h (by rw[e.2])
 have pB:am (∀ j,j<s.ex.length->s.ex.getD j default≠z.ex.getD j default->decide ((s.n=z.n/\s.tab=z.tab)/\s.ex=z.ex)=false):=aa fun j _ h=>decide_eq_false fun e=>h (by rw[e.2])
 have ij:am (bt=true/\s.ex.length=z.ex.length/\(∀ j,j<s.ex.length->s.ex.getD j default=z.ex.getD j default)->decide ((s.n=z.n/\s.tab=z.tab)/\s.ex=z.ex)=true):=aa fun ⟨h1,h2,h3⟩=>decide_eq_true ⟨of_decide_eq_true (uy.trans h1),fq default h2 h3⟩
 rw[uy]at uA;generalize decide ((s.n=z.n/\s.tab=z.tab)/\s.ex=z.ex)=r at Jy iO pB ij ⊢;generalize s.ex=ax at EA iO pB ij la1 la2 ⊢;generalize z.ex=ay at EB iO pB ij lb1 lb2 ⊢;rw[hp]at L6 ⊢;clear hs hz ea eb uy hp;generalize s.prob.t.cases.length=n1,s.prob.a.states.length=n2,s.tab.length=n3,z.tab.length=n4 at L6 uA ⊢;obtain⟨n,hn⟩:∃ n,ax.length=n:=⟨_,rfl⟩;obtain⟨m,hm⟩:∃ m,ay.length=m:=⟨_,rfl⟩;have HN:=aa hn;have HM:=aa hm;rw[hn]at la1 la2 ⊢;rw[hm]at lb1 lb2 ⊢;clear hn hm
 go_enter Tryz.func102,Tryz.ntmps102
 go_wp2_with fail
 refine aO (fun W=>Below w.heap.size w W/\(∃ c,W.heap[w.heap.size]?=some (.cells c 35)/\c=bL s.prob (.slice p1 n1 c1) (.slice p2 n2 c2) s.n (.slice p3 n3 c3) (.slice pa n ca))/\(∃ c,W.heap[w.heap.size+1]?=some (.cells c 35)/\c=bL s.prob (.slice q1 n1 d1) (.slice q2 n2 d2) z.n (.slice q3 n4 d3) (.slice pb m cb))) ⟨by go_grown,⟨_,ar _ (ap _ _),rfl⟩,⟨_,by have h:=ap (w.alloc (.cells (bL s.prob (.slice p1 n1 c1) (.slice p2 n2 c2) s.n (.slice p3 n3 c3) (.slice pa n ca)) 35)) (.cells (bL s.prob (.slice q1 n1 d1) (.slice q2 n2 d2) z.n (.slice q3 n4 d3) (.slice pb m cb)) 35);simpa using h,rfl⟩⟩ (fun W00 aX=>?_);obtain⟨aG,⟨_,bB,rfl⟩,⟨_,nG,rfl⟩⟩:=aX;refine(L6.o W00 aG).mono ?_;rintro e W01 ⟨rfl,aK⟩;have HB01:=aa (ae aG aK);have HA01:=aa (af aK bB);have HC01:=aa (af aK nG);have tA:=ab HA01.o;have tC:=ab HC01.o;clear aG bB nG aK L6
 go_wp2_with fail
 refine(uA.o W01 HB01.o).mono ?_;rintro e W0 ⟨rfl,aK⟩;have eQ:=aa (ae HB01.o aK);have j8:=aa (af aK HA01.o);have nB:=aa (af aK HC01.o);clear tA tC;have tA:=ab j8.o;have tC:=ab nB.o;clear aK uA;cases bt with
 | false=>
  have HR:am (r=false):=aa (by first|exact Jy.o rfl|exact Jy.o trivial)
  go_wp2_with fail
  go_ret
  exact⟨aR (by rw[HR.o]),eQ.o⟩
 | true=>
  by_cases hl:n=m
  case neg=>
   have hd:(((n:Nat):Int) != ((m:Nat):Int))=true:=by simp;omega
   have HR:=aa (iO.o (by rw[HN.o,HM.o];exact hl));clear hl
   go_wp2_with fail
   go_ret
   exact⟨aR (by rw[HR.o]),eQ.o⟩
  subst hl;have hd:((n:Int) != (n:Int))=false:=by simp
  go_wp2_with fail
  clear tA tC
  go_loopw [5] (fun i wr=>∃ k:Nat,k<=n/\i=.int .i64 k/\Below W0.heap.size W0 wr/\∀ j,j<k->ax.getD j default=ay.getD j default) (fun i _=>n - (intOf i).toNat)
  ·exact⟨0,by omega,rfl,Below.refl _ _,fun j hj=>by omega⟩
  ·
   obtain⟨k,hk,rfl,aA,aW⟩:=hrel;have H:=aa aW;have aV:=aa aA;have bP:=aa (ae eQ.o aA);clear aW aA;have tA:=ab (af aV.o j8.o);have tC:=ab (af aV.o nB.o);by_cases aC:k<n
   ·obtain⟨b1,o1,rfl,⟨g0,_⟩,⟨v1,g1,h1⟩,⟨v2,g2,h2⟩⟩:=EA.o k (by rw[HN.o];exact aC);obtain⟨b2,o2,rfl,⟨e0,_⟩,⟨u1,e1,i1⟩,⟨u2,e2,i2⟩⟩:=EB.o k (by rw[HM.o];exact aC);have qN:=aa (az (default:Ex) (show k<ax.length by rw[HN.o];exact aC));have rV:=aa (az (default:Ex) (show k<ay.length by rw[HM.o];exact aC));generalize ax[k]'(by rw[HN.o];exact aC)=x at g0 h1 h2 qN;generalize ay[k]'(by rw[HM.o];exact aC)=y at e0 i1 i2 rV;have t0:=ak bP.o g0;have t1:=ak bP.o g1;have t2:=ak bP.o g2;have r0:=ak bP.o e0;have r1:=ak bP.o e1;have r2:=ak bP.o e2;have zK:=aa (fun W (h:Below w.heap.size w W)=>Nb x y v1 u1 v2 u2 W (h1.up up_round h) (i1.up up_round h) (h2.up up_ints h) (i2.up up_ints h));clear h1 h2 i1 i2 g0 g1 g2 e0 e1 e2
    go_wp2_with fail
    go_still_tail 10,(by kernel_rfl)
    go_wp2_with fail
    refine aO (fun W=>Below wr.heap.size wr W) (Below.drew (Below.refl _ _)) (fun W5 hW5=>?_);refine(zK.o W5 (ae bP.o hW5)).mono ?_;rintro e w6 ⟨rfl,gz⟩;have qK:=aa (ae aV.o (ae hW5 gz));clear hW5 gz t0 t1 t2 r0 r1 r2 tA tC zK;cases cg:decide (x=y) with
    | true=>
     have oz:=aa (of_decide_eq_true cg);clear cg
     go_wp2_with fail
     go_roundw
     ·exact⟨k+1,by omega,by go_num,qK.o,aY (p:=fun j=>ax.getD j default=ay.getD j default) H.o (by rw[qN.o,rV.o];exact oz.o)⟩
     ·simp[intOf];omega
    | false=>
     have HR:=aa (pB.o k (by rw[HN.o];exact aC) (by rw[qN.o,rV.o];exact of_decide_eq_false cg));clear cg
     go_wp2_with fail
     go_ret
     exact⟨aR (by rw[HR.o]),ae eQ.o qK.o⟩
   ·obtain rfl:k=n:=by omega
    have HF:∀ j,j<ax.length->ax.getD j default=ay.getD j default:=fun j hj=>H.o j (by have:=HN.o;omega)
    have HR:am (r=true):=aa (ij.o ⟨by first|rfl|trivial,by rw[HN.o,HM.o],HF⟩);clear HF
    go_wp2_with fail
    go_ret
    exact⟨aR (by rw[HR.o]),bP.o⟩
theorem FQ{W:World} {B:Nat} {now:List Int} {n:Nat} (hl:now.length=n) (hn:n<=65536) (h:W.heap[B]?=some (.cells (bH now) 3)) (hr:∀ x∈now,bR x):aQ W (.slice (some ⟨B,0,none⟩) n n) now:=by
 subst hl;refine⟨some ⟨B,0,none⟩,now.length,rfl,⟨Nat.le_refl _,by omega,fun e=>by cases e⟩,by omega,fun i x hx=>⟨B,0,rfl,?_⟩⟩;obtain⟨hi,rfl⟩:=List.getElem?_eq_some_iff.1 hx;refine⟨?_,hr _ (List.getElem_mem hi)⟩;rw[ab h,Nat.zero_add,Nat.mul_one];simp[bH,hi]
theorem VW{s:Sys} (hv:verifyE s=0):0<s.tab.length:=by
 have hs:=gE hv;have h1:=iH hs (Ad hv) (p:=0) hs.n.1;omega
theorem qi(s:Sys) (e:Nat) (out:List Int):∀ p,(gx s e out p).length=out.length
 | 0=>rfl
 | p+1=>by
  rw[gx];split
  ·exact qi s e out p
  ·rw[List.length_set];exact qi s e out p
theorem xa(s:Sys):∀ e,(fX s e).length=s.tab.length
 | 0=>by simp[fX]
 | e+1=>by rw[fX,qi,xa s e]
theorem VX{s:Sys} (ho:oS s<=8):(∀ e,e<=eS s->∀ x∈fX s e,bR x):=by
 have hp:∀ e,e<eS s->∀ out:List Int,(∀ x∈out,bR x)->∀ p,∀ x∈gx s e out p,bR x:=by
  intro e he out vU p;induction p with
  | zero=>exact vU
  | succ p ih=>
   rw[gx];split
   ·exact ih
   ·intro x hx;rcases List.mem_or_eq_of_mem_set hx with h|h
    ·exact ih x h
    ·rw[h];unfold choiceS;rw[mi he];exact vG s _ ho
 intro e;induction e with
 | zero=>intro _ x hx;rw[fX]at hx;rw[List.eq_of_mem_replicate hx];exact⟨by decide,by decide⟩
 | succ e ih=>intro he;rw[fX];exact hp e (by omega) _ (ih (by omega)) _
theorem AM{s:Sys} (h0:0<eS s) (k:Nat) (hk:k<=og s):∃ e,e<eS s/\(partsS s).getD e 0=k:=by
 obtain⟨i,hi,e⟩:=BP (partsS s) ((partsS s).length - 1);rw[dp]at hi;have h1:=(CU h0).1;rw[e]at h1;by_cases h2:k=og s
 ·exact⟨i,by omega,by rw[h1,h2]⟩
 ·obtain⟨j,hj,h3⟩:=wC (wV s (nS s - 1)) i (by rw[gV];omega) (k:Int) (by omega) (by have h4:(eA s (nS s - 1)).getD i 0=(og s:Int):=h1;omega);exact⟨j,by omega,h3⟩
theorem P1{s:Sys} (h0:0<eS s):(jj s).contains (-1)=true↔-1∈choiceS s:=by
 rw[List.contains_iff_mem];unfold jj kY choiceS;simp only[List.mem_map,List.mem_range];constructor
 ·rintro⟨k,hk,h1⟩;obtain⟨e,he,h2⟩:=AM h0 k (by omega);exact⟨e,he,by rw[h2];exact h1⟩
 ·rintro⟨e,he,h1⟩;have h2:=qB h0 e he;have h3:=(kX s e he).1;exact⟨((partsS s).getD e 0).toNat,by omega,by rw[show ((((partsS s).getD e 0).toNat:Nat):Int)=(partsS s).getD e 0 by omega];exact h1⟩
def Nd(u:Value) (ok:Bool) (e:Int):Value:=.tuple #[.agg #[u],.bool ok,.int .i64 e]
theorem rR(tmps:Array Value) (B:Nat) (W:World) (u:Value) (ok:Bool) (e:Int) (h2:tmps[2]?.getD undef=.pointer (some ⟨B,0,none⟩)) (h3:tmps[3]?.getD undef=.bool ok) (h4:tmps[4]?.getD undef=.int .i64 e)
  (hB:W.heap[B]?=some (.cells #[u] 49)):(results Tryz.f16 tmps).run Tryz.prog W=.ok (Nd u ok e) W:=by
 have t2:=ab hB 0;simp at t2;simp[results,Tryz.results16,go_sem,h2,h3,h4,t2,Nd]
theorem P2(s:Sys) (hE:eS s<=256) (vc vs vt ve:Value) (w:World) (hT:iF w) (hs:IsSys w s vc vs vt ve) (hN:movesN s.prob.a.states<1099511627776) :
  Calls Tryz.prog 16 #[.agg (bL s.prob vc vs s.n vt ve)] w fun r w'=>∃ u,r=.returned (Nd u (ruleR s).2.1 (ruleR s).2.2)/\aQ w' u (ruleR s).1/\Below w.heap.size w w':=by
 have HS:=aa hs;have HT:=aa hT;obtain⟨⟨pc,cc,rfl⟩,⟨ps,cs,rfl⟩,⟨pt,ct,rfl⟩,⟨pe,ce,rfl⟩⟩:=bD hs;clear hs hT;have HC:=aa (fun W (hb:Below w.heap.size w W)=>od s hE _ _ _ _ W (HS.o.up hb) hN)
 have jS:am (readyE s=0->verifyE s=0):=aa fun h=>by
  unfold readyE at h;split at h
  ·rename_i h1;exact absurd h h1
  ·omega
 have cO:am (readyE s≠0->ruleR s=([],false,readyE s)):=aa fun h=>by unfold ruleR;rw[if_pos h]
 have eh:am (readyE s=0->-1∈choiceS s->ruleR s=([],false,0)):=aa fun h h2=>by unfold ruleR;rw[if_neg (by omega),if_pos h2]
 have fT:am (readyE s=0->¬ -1∈choiceS s->ruleR s=(fX s (eS s),true,0)):=aa fun h h2=>by unfold ruleR;rw[if_neg (by omega),if_neg h2]
 generalize ruleR s=vr at cO eh fT ⊢;obtain⟨re,kg⟩:∃ re,readyE s=re:=⟨_,rfl⟩;rw[kg]at cO eh fT HC jS;clear kg
 go_enter Tryz.func16,Tryz.ntmps16
 go_wp2_with fail
 refine aO (fun W=>Below w.heap.size w W/\W.heap[w.heap.size+1]?=some (.cells #[.slice none 0 0] 49)/\∃ c,W.heap[w.heap.size]?=some (.cells c 35)/\c=bL s.prob (.slice pc s.prob.t.cases.length cc) (.slice ps s.prob.a.states.length cs) s.n (.slice pt s.tab.length ct) (.slice pe s.ex.length ce)) ⟨by go_grown,aZ _ _ _,_,ar _ (ap _ _),rfl⟩ (fun W0 aX=>?_);obtain⟨aG,gM,_,bB,rfl⟩:=aX;refine(HC.o W0 aG).mono ?_;rintro e w1 ⟨v,rfl,aK,h2,h3⟩;have bI:=aa (ae aG aK);have gh:=aa (af aK gM);have du:=aa (af aK bB);have fZ:=aD gh.o;by_cases hr:re=0
 case neg=>
  have HV:=aa (cO.o hr);obtain rfl:=h2 hr;have F3:(re != 0)=true:=by simpa using hr
  have to:=ab gh.o 0;have zo:=aH gh.o 0;simp at to;clear aG aK h2 h3 hr HC gM bB
  go_wp2_with fail
  exact bodyPost_ret (rR _ (w.heap.size+1) _ (.slice none 0 0) false re rfl rfl rfl (aI gh.o 0 _)) rfl ⟨_,by rw[HV.o],by rw[HV.o];exact mW _,bI.o.setCell (by dsimp only;omega) _⟩
 obtain⟨B,rfl,hB,gd⟩:=h3 hr;have jH:=aa gd;have dd:=aa (eh.o hr);have sa:=aa (fT.o hr);have tI:=aa (jS.o hr);have dD:=aa (gE tI.o);have HP:=aa (Ad tI.o);subst hr;clear aG aK h2 h3 HC gd gM bB
 go_wp2_with fail
 refine(uO s dD.o HP.o hE B w1 jH.o (HT.o.up bI.o)).mono ?_;rintro e w2 ⟨u,rfl,hu,aT⟩;have HU:=aa hu;have cf:=aa (ae bI.o aT);have eO:=aa (af aT gh.o);have oT:=aa (af aT du.o);have Ki:=aa (jH.o.up aT);obtain⟨pu,cu,rfl,eu⟩:=cV hu;have EU:=aa eu;obtain⟨cn,Dk⟩:∃ cn,(jj s).length=cn:=⟨_,rfl⟩;rw[Dk]at EU HU ⊢;have UX:=aa Dk;clear hu aT eu Dk jH gh du
 go_wp2_with fail
 refine(mS _ (jj s) (-1) w2 HU.o).mono ?_;rintro e w3 ⟨rfl,bG⟩;have dE:=aa (ae cf.o bG);have HB23:=aa bG;have lV:=aa (af bG eO.o);have GL:=aa (af bG oT.o);have S1:=aa (Ki.o.up bG);have HU3:=aa (HU.o.up up_int bG);have Yw:=aa (P1 HP.o);cases Uw:(jj s).contains (-1) with
 | true=>
  have HV:=aa (dd.o (Yw.o.1 Uw));have to:=ab lV.o 0;have zo:=aH lV.o 0;simp at to;clear Uw bG
  go_wp2_with fail
  exact bodyPost_ret (rR _ (w.heap.size+1) _ (.slice none 0 0) false 0 rfl rfl rfl (aI lV.o 0 _)) rfl ⟨_,by rw[HV.o],by rw[HV.o];exact mW _,dE.o.setCell (by dsimp only;omega) _⟩
 | false=>
  have HV:=aa (sa.o (fun h=>by have:=Yw.o.2 h;rw[Uw]at this;cases this));clear Uw bG Ki eO oT cf HU;have tA:∀ o' j,(w3.alloc o').cell? ⟨w.heap.size,j,none⟩=_:=fun o' j=>ab (ar o' GL.o) j
  have htp:=VW tI.o;have Kl:=dD.o.tab;have B6:am (∀ n:Nat,fC n (fun _=>(-1:Int)) n=bH (List.replicate n (-1))):=aa fun n=>by rw[qz];simp[List.map_const']
  go_wp2_with fail
  refine(wP (-1) s.tab.length htp Kl w3.heap.size _ (ap _ _)).mono ?_;rintro e w4 ⟨rfl,Du,bS⟩;have hb34:Below w3.heap.size w3 w4:=ae (by go_grown) bS;have hRl:=aD Du;rw[show (w3.alloc (.cells #[.int .i64 (-1)] 3)).heap.size=w3.heap.size+1 by simp]at Du hRl ⊢;obtain⟨R,hR⟩:∃ R,w3.heap.size+1=R:=⟨_,rfl⟩;rw[hR]at Du hRl ⊢;have De:w3.heap.size<R:=by omega
  have hR4':w4.heap[R]?=some (.cells (bH (fX s 0)) 3):=by rw[Du];unfold xC;rw[B6.o];rfl
  have pn:=aa hR4';have HB34:=aa hb34;have tA4:=ab (af hb34 GL.o);clear bS hR Du hR4' tA B6;have wm:=aa HS.o.ex;have HK:am (∀ k,k<eS s->_):=aa (fun k (hk:k<eS s)=>gy dD.o wm.o hk);obtain⟨qc,qs,qt,qe,qv,ql,q1,_,_,q2⟩:=S1.o.ex;obtain⟨pl,cl,rfl,el⟩:=cV q2;rw[dp]at el q1;have EL:=aa el;have L4:am (w3.cell? ⟨B,11,none⟩=some (.slice pl (eS s) cl)):=aa ((ab q1 11).trans rfl);have HBR3:=aa (aD q1);have oC:am (∀ k,k<eS s->0<=(partsS s).getD k 0/\((partsS s).getD k 0).toNat<(jj s).length/\(jj s).getD ((partsS s).getD k 0).toNat 0=(choiceS s).getD k 0):=aa fun k hk=>⟨(kX s k hk).1,by have:=qB HP.o k hk;rw[show (jj s).length=og s+1 by simp[jj,kY]];omega,PX HP.o k hk⟩
  have HFN:am (∀ k p,k<eS s->p<nS s->0<=finS s k p/\finS s k p<s.tab.length):=aa fun k p hk hp=>iH dD.o hk hp
  have iv:am (∀ x∈fX s (eS s),bR x):=aa (VX dD.o.outs.2.1 _ (Nat.le_refl _));have Xv:am (∀ k,(fX s k).length=s.tab.length):=aa (xa s);have HRP:am (∀ k p,(gx s k (fX s k) p).length=s.tab.length):=aa fun k p=>by rw[qi,xa]
  have QV:=aa (fun k (hk:k<eS s) W (hb:Below w.heap.size w W)=>Sg s tI.o k hk _ _ _ _ W (HS.o.up hb) hN);have kh:s.ex.length=eS s:=rfl;rw[kh]at tA4 GL QV wm;obtain⟨m,hm⟩:∃ m,eS s=m:=⟨_,rfl⟩;have HM:=aa hm;have jf:=dD.o.n.2.1;have pg:=dD.o.rounds.2;obtain⟨rr,vN⟩:∃ rr:Nat,s.prob.rounds=rr:=⟨s.prob.rounds.toNat,by have:=dD.o.rounds.1;omega⟩;have ph:=aa vN;have Gb:s.prob.rounds.toNat=rr:=by omega
  rw[Gb]at HK;clear Gb;rw[hm]at hE HK EL L4 oC HFN iv QV tA4 GL;clear kh q1 q2 el hm vN
  go_wp2_with fail
  clear tA4
  go_loopw [38] (fun i wr=>∃ k:Nat,k<=m/\i=.int .i64 k/\Below w3.heap.size w3 wr/\wr.heap[R]?=some (.cells (bH (fX s k)) 3)) (fun i _=>m - (intOf i).toNat)
  ·exact⟨0,by omega,rfl,HB34.o,pn.o⟩
  ·
   clear pn HB34;obtain⟨k,hk,rfl,aA,hR⟩:=hrel;have aV:=aa aA;have GE:=aa hR;have dz:=aa (ae dE.o aA);have Be:=aa (af aA GL.o);have hRl2:=aD hR;by_cases aC:k<m
   ·obtain⟨b,o,_,ce',e0,rfl,pw,nw,cw,pv,cv,c1,c2,c3,-,-,-,b2,o2,pr,cr,rfl,c4,bU⟩:=HK.o k aC;injection e0 with e01 e02 e03
    subst e01;clear e02 e03;obtain⟨pr2,cr2,e4,erow⟩:=cV bU;injection e4 with e41 e42 e43
    subst e41 e43;clear e42
    have jd:am (∀ p,p<nS s->∃ b o,pr=some ⟨b,o,none⟩/\w.cell? ⟨b,o+p,none⟩=some (.int .i64 (finS s k p))):=aa (fun p hp=>by
     obtain⟨b,o,e1,h1⟩:=erow p (by simpa using hp);rw[mi hp]at h1
     exact⟨b,o,e1,h1⟩)
    have d1:=ak dz.o c1;have d2:=ak dz.o c2;have d3:=ak dz.o c3;have YI:=aa c4;have tA:∀ o' j,(wr.alloc o').cell? ⟨w.heap.size,j,none⟩=_:=fun o' j=>ab (ar o' Be.o) j
    clear aA hR c1 c2 c3 c4 bU erow
    go_wp2_with fail
    clear tA d1 d2 d3;refine aO (fun W=>Below wr.heap.size wr W/\W.heap[wr.heap.size]?=some (.cells #[.int .i64 (cH s k).c,.slice pw nw cw,.slice (some ⟨b2,o2,none⟩) (rr+1) cv] 89)) ⟨by go_grown,ap _ _⟩ (fun W5 hW5=>?_);obtain⟨dS,hX5⟩:=hW5;refine(QV.o k aC W5 (ae dz.o dS)).mono ?_;rintro r w5 ⟨rfl,gz⟩;have pZ:=ae dS gz;have tX:=ab (af gz hX5);have tA5:w5.cell? ⟨w.heap.size,6,none⟩=some (.int .i64 rr):=(ab (af pZ Be.o) 6).trans (by rw[<-ph.o];rfl);have tv:=ak (ae dz.o pZ) YI.o;have mx:=aa (ae aV.o pZ);have xM:=aa (af pZ GE.o);obtain⟨wrA,lg⟩:∃ x,x=wr:=⟨_,rfl⟩;subst lg;obtain⟨g,hg⟩:∃ g,wrA.heap.size=g:=⟨_,rfl⟩;rw[hg]at tX ⊢;clear dS gz hX5 pZ hg
    go_wp2_with fail
    clear tX tA5 tv
    go_loopw [61] (fun i wr=>∃ p:Nat,p<=nS s/\i=.int .i64 p/\Below w3.heap.size w3 wr/\wr.heap[R]?=some (.cells (bH (gx s k (fX s k) p)) 3)) (fun i _=>nS s - (intOf i).toNat)
    ·exact⟨0,by omega,rfl,mx.o,xM.o⟩
    ·
     clear mx xM;obtain⟨p,hp,rfl,aA,hR⟩:=hrel;have eU:=aa aA;have Bm:=aa hR;by_cases F0:p<nS s
     ·obtain⟨b3,o3,rfl,c6⟩:=jd.o p F0;obtain⟨z0,z1⟩:=HFN.o k p aC F0;obtain⟨z,hz⟩:∃ z:Nat,finS s k p=z:=⟨(finS s k p).toNat,by omega⟩;rw[hz]at c6 z1;have HZ:=aa hz;have d6:=ak (ae dE.o aA) c6;have gR:=rx ((oblM s k:Nat):Int) p;have J1:hasB ((oblM s k:Nat):Int) p=!hasB (fltS s k) p:=by unfold oblM;rw[nd,decide_eq_true F0,Bool.true_and]
      rw[J1]at gR;have hp30:p<=30:=by omega
      have zt:z<s.tab.length:=by omega
      have HRL2:=aa (HRP.o k p);clear c6 z0 z1 hz J1;cases hb:hasB (fltS s k) p with
      | true=>
       have gB:am (gx s k (fX s k) (p+1)=gx s k (fX s k) p):=aa (by rw[gx,if_pos hb]);rw[hb]at gR;clear hb aA hR
       go_wp2_with fail
       go_roundw
       ·exact⟨p+1,by omega,by go_num,eU.o,by rw[gB.o];exact Bm.o⟩
       ·simp[intOf];omega
      | false=>
       have gB:am (gx s k (fX s k) (p+1)=(gx s k (fX s k) p).set z ((choiceS s).getD k 0)):=aa (by rw[gx,if_neg (by rw[hb];simp),HZ.o,Int.toNat_natCast]);rw[hb]at gR;obtain⟨g1,g2,g3⟩:=oC.o k aC;obtain⟨n,hn⟩:∃ n:Nat,(partsS s).getD k 0=n:=⟨((partsS s).getD k 0).toNat,by omega⟩;rw[hn,Int.toNat_natCast,UX.o]at g2;rw[hn,Int.toNat_natCast]at g3;obtain⟨b4,o4,rfl,c7⟩:=EL.o k aC;rw[hn]at c7;have d7:=ak aA c7;obtain⟨b5,o5,rfl,c8⟩:=EU.o n g2;rw[g3]at c8;have d8:=ak (ae HB23.o aA) c8;have tl:=ak aA L4.o;have tR:=ab hR z;rw[go _ _ (by rw[HRL2.o];exact zt)]at tR;have zR:=aH hR z;generalize (choiceS s).getD k 0=x at d8 gB;generalize (gx s k (fX s k) p).getD z 0=y at tR;clear hb aA hR g1 g3 hn c7 c8
       go_wp2_with fail
       go_roundw
       ·exact⟨p+1,by omega,by go_num,eU.o.setCell (by dsimp only;omega) _,by rw[aI Bm.o,mh,gB.o]⟩
       ·simp[intOf];omega
     ·obtain rfl:p=nS s:=by omega
      clear aA hR
      go_wp2_with fail
      go_roundw
      ·exact⟨k+1,by omega,by go_num,eU.o,Bm.o⟩
      ·simp[intOf];omega
   ·obtain rfl:k=m:=by omega
    have to:=ab (af aA lV.o) 0;have zo:=aH (af aA lV.o) 0;simp at to;have Qk:=aa (af aA lV.o);clear aA hR
    go_wp2_with fail
    refine bodyPost_ret (rR _ (w.heap.size+1) _ (.slice (some ⟨R,0,none⟩) s.tab.length s.tab.length) true 0 rfl rfl rfl (aI Qk.o 0 _)) rfl ⟨_,by rw[HV.o],?_,dz.o.setCell (by dsimp only;omega) _⟩;rw[HV.o,HM.o];exact FQ (Xv.o k) (by omega) (aM GE.o (by have:=aD lV.o;omega) _ _) iv.o
theorem IsSys.kp{w w':World} {s:Sys} {vc vs vt ve:Value} (h:IsSys w s vc vs vt ve) (hb:CK w w'):IsSys w' s vc vs vt ve:=⟨h.cases.ck up_case hb,h.states.ck up_moves hb,h.tab.ck up_view hb,h.ex.ck up_ex hb⟩
theorem ScAt.kp{w w':World} {B:Nat} {s:Sys} (h:ScAt w B s) (hk:js w.heap.size w w'):ScAt w' B s:=by
 obtain⟨vc,vs,vt,ve,vv,vl,h1,h2,h3,h4⟩:=h.ex;exact⟨vc,vs,vt,ve,vv,vl,(hk B (aD h1)).trans h1,h2.kp hk.ck,h3.ck up_int hk.ck,h4.ck up_int hk.ck⟩
theorem VY{n:Nat} (hn:n<=8) (q:Nat->Bool):maskN q n=maskN (fun p=>decide (p<n)&&q p) 8:=by
 refine Nat.eq_of_testBit_eq fun p=>?_
 rw[dY,dY];by_cases h:p<n
 ·rw[decide_eq_true h,decide_eq_true (show p<8 by omega)];rfl
 ·rw[decide_eq_false h];simp
theorem Sn{n:Nat} (hn:n<=8) (q:Nat->Bool):firstIx 8 (fun p=>decide (p<n)&&q p)=firstIx n q:=by
 rw[Aw _ hn (fun v h1 h2=>by rw[decide_eq_false (by omega)];rfl)];exact mB _ _ _ fun p hp=>by rw[decide_eq_true hp];rfl
theorem aJ.some{w:World} {base size n:Nat} {e:TypeId} {v:Value} {xs:List Value} (h:aJ w base e size v n xs) (hn:0<n):∃ g c,v=.slice (some ⟨g,0,none⟩) n c/\base<=g/\g<w.heap.size/\n<=c/\∀ j,j<n * size->(∃ u,w.cell? ⟨g,j,none⟩=some u)/\w.frozen? ⟨g,j,none⟩=false:=by
 rcases h.2 with ⟨_,h0⟩|⟨g,cap,cur,fz,rfl,h2,h3,h4,h5,h6,h7,h8⟩
 ·omega
 refine⟨g,cap,rfl,h2,aD h3,h5,fun j hj=>?_⟩;have aC:j<cur.size:=by rw[h7];exact Nat.lt_of_lt_of_le hj (Nat.mul_le_mul_right _ h5)
 refine⟨⟨cur[j],by rw[ab h3,Array.getElem?_eq_getElem aC]⟩,?_⟩;simp only[World.frozen?,h3];have:=h4 j aC;simpa using this
theorem So(a:List Lk) (y:Lk) (r:List Lk) (p:Int):cT (a++⟨y.x,p⟩ :: r)=(cT (a++y :: r)).set (a.length * 2+1) (.int .i64 p):=by
 rw[nY,nY,<-lQ a,List.set_append_right _ _ (by omega),Nat.add_sub_cancel_left];rfl
def YR(base:Nat) (l:List Lk):MP:=⟨fun x W=>aJ W base 75 2 x l.length (cT l),fun _ _ _ h hb=>h.up hb⟩
def YY(s:Sys) (l:List Lk) (pb n0:Nat) (i:Nat) (args:Array Value) (_:Nat->Prop) (W:World):Prop:=∃ v,args=#[v]/\bN W v ((dP s l).getD i [])/\∀ b,v.ownBlock=some b->b=pb\/n0<=b
structure KSz (S:Nat->Prop) (w w':World):Prop where
 keep:gG S w w'
 size:w.heap.size<=w'.heap.size
theorem KSz.trans{S:Nat->Prop} {a b c:World} (h:KSz S a b) (k:KSz S b c):KSz S a c:=⟨gG.trans h.1 k.1,Nat.le_trans h.2 k.2⟩
theorem kG{w w':World} {pb po n c:Nat} {l:List Lk} (h:bN w (.slice (some ⟨pb,po,none⟩) n c) l) (hk:w'.heap[pb]?=w.heap[pb]?):bN w' (.slice (some ⟨pb,po,none⟩) n c) l:=by
 obtain⟨a',c',e,h1,h4,h5⟩:=h;refine⟨a',c',e,h1,h4,fun i x hx=>?_⟩;obtain⟨b,o,e2,hr⟩:=h5 i x hx;injection e with e3 e4 e5
 rw[<-e3]at e2;injection e2 with e2
 injection e2 with e6 e7
 have hc:∀ o',w'.cell? ⟨b,o',none⟩=w.cell? ⟨b,o',none⟩:=fun o'=>by unfold World.cell?;rw[<-e6,hk]
 refine⟨b,o,by rw[<-e3,e6,e7],⟨(hc _).trans hr.1.1,hr.1.2⟩,(hc _).trans hr.2.1,hr.2.2⟩
theorem KX(B:Nat) (v:Value) (w:World) (hv:∃ a n c,v=.slice a n c) :
  Calls Tryz.prog 55 #[.pointer (some ⟨B,0,none⟩),v] w fun r w'=>r=.returned (.func (.func 96) #[] #[.pointer (some ⟨w.heap.size+1,0,none⟩),.pointer (some ⟨w.heap.size,0,none⟩)])/\w'=(w.alloc (.cells #[.pointer (some ⟨B,0,none⟩)] 94)).alloc (.cells #[v] 54):=by
 obtain⟨a,n,c,rfl⟩:=hv
 go_enter Tryz.func55,Tryz.ntmps55
 go_wp2
 go_ret
 exact⟨rfl,rfl⟩
theorem IX(s:Sys) (hs:SysOk s) (hE:eS s<=256) (l:List Lk) (iz:0<l.length) (nA:l.length<=4096) (hx:∀ y∈l,0<=y.x/\y.x.toNat<eS s) (B bx bw:Nat) (pb po cl:Nat) (w0:World) (hT:iF w0) (gd:ScAt w0 B s) (w:World) (aG:Below w0.heap.size w0 w) (hl:bN w (.slice (some ⟨pb,po,none⟩) l.length cl) l)
  (df:w.heap[bw]?=some (.cells #[.slice (some ⟨pb,po,none⟩) l.length cl] 54)) (lm:w.heap[bx]?=some (.cells #[.pointer (some ⟨B,0,none⟩)] 94)) :
  TM Tryz.prog 96 #[.pointer (some ⟨bw,0,none⟩),.pointer (some ⟨bx,0,none⟩)] (YY s l pb w.heap.size) (dP s l).length (fun k=>k<w0.heap.size\/k=pb\/k=bw\/k=bx) w:=by
 intro yl J Jx W hW hyl hJ oU hY oG;obtain⟨i0,cX,cD,bX,cF⟩:=info_parts Tryz.infoLink;have cB:=aa (And.intro cX (And.intro cD (And.intro bX cF)));clear cX cD bX cF;obtain⟨pl,cl',ecl,lt1,lt2,el⟩:=hl.at;injection ecl with ecl1 _ ecl2
 obtain⟨pb',po',epb,hpb0⟩:=el 0 iz;rw[<-ecl1]at epb;injection epb with epb
 injection epb with epb1 epb2
 have lpb:pb<w.heap.size:=by rw[epb1];exact fx hpb0.1.1
 rw[<-ecl2]at lt1;clear epb1 epb2 ecl1 ecl2 hpb0 pb' po' pl cl' el;have lw1:=aD df;have lw2:=aD lm;have Xl:KSz (fun k=>k<w0.heap.size\/k=pb\/k=bw\/k=bx) w W:=⟨fun k hk=>hW.block k (by rcases hk with hk|rfl|rfl|rfl<;>first|(have:=aG.size;omega)|assumption),hW.size⟩;obtain⟨S,hS⟩:∃ S,S=(fun k=>k<w0.heap.size\/k=pb\/k=bw\/k=bx):=⟨_,rfl⟩
 have LC:am (∀ V,KSz S w V->js w0.heap.size w0 V/\V.heap[pb]?=w.heap[pb]?/\V.heap[bw]?=some (.cells #[.slice (some ⟨pb,po,none⟩) l.length cl] 54)/\V.heap[bx]?=some (.cells #[.pointer (some ⟨B,0,none⟩)] 94)):=aa (fun V hV=>by
  subst hS
  exact⟨fun k hk=>(hV.1 k (.inl hk)).trans (aG.block k hk),hV.1 pb (.inr (.inl rfl)),(hV.1 bw (.inr (.inr (.inl rfl)))).trans df,(hV.1 bx (.inr (.inr (.inr rfl)))).trans lm⟩)
 rw[<-hS]at oG Xl
 have Qp:am (∀ V V',KSz S w V->Below V.heap.size V V'->KSz S w V'):=aa (fun V V' h1 h2=>⟨fun k hk=>(h2.block k (by
  have h4:=h1.2;subst hS;rcases hk with hk|rfl|rfl|rfl
  ·have:=aG.size;omega
  ·omega
  ·omega
  ·omega)).trans (h1.1 k hk),Nat.le_trans h1.2 h2.size⟩)
 have Bd:am (∀ (d:List (List Lk)) (c:List Lk) (r:List (List Lk)) (W1:World) (v:Value),dP s l=d++c :: r->bN W1 v c->(∀ b,v.ownBlock=some b->b=pb\/w.heap.size<=b)->J d.length S W1->YieldAt Fence.wide 0 Tryz.prog yl #[v] W1 fun e W'=>(e=.returned (.bool true)/\KSz S W1 W'/\W1.heap.size<=W'.heap.size/\J (d++[c]).length S W')\/(e=.returned (.bool false)/\∃ i,i<=(dP s l).length/\Jx i S W')):=aa (fun d c r W1 v e hv lf hj=>by
  obtain⟨h1,h2,h3,h4⟩:=Lc (x:=[]) e;obtain⟨fn,tmps,assign,body,hy,hR⟩:=hY d.length S W1 #[v] h1 ⟨v,rfl,by rw[h2];exact hv,lf⟩ hj;refine⟨fn,tmps,assign,body,hy,hR.mono ?_⟩;rintro e W' ⟨g1,g2,g3⟩;rcases g3 with ⟨rfl,g3⟩|⟨rfl,g3⟩
  ·exact .inl ⟨rfl,⟨g2,g1⟩,g1,by rw[h4];exact g3⟩
  ·exact .inr ⟨rfl,_,h1,g3⟩)
 have XA:am (∀ i V V',J i S V->Below V.heap.size V V'->J i S V'):=aa (fun i V V' h1 h2=>hJ i S S V V' h1 h2 (gS.refl _ _ _));have nB:am (dP s l=[]++l.dropLast :: ((if 1<l.length then [⟨(l.getD 1 default).x,-1⟩ :: l.drop 2] else [])++gF s l 0)):=aa (BI s l);have U4:=aa (fun V (hV:KSz S w V)=>kG hl (LC.o V hV).2.1);have Ob:=aa (IV hl);have Yu:=aa hx;have it:am (∀ V,KSz S w V->∀ e f:Nat,e<eS s->f<eS s->Calls Tryz.prog 97 #[.pointer (some ⟨B,0,none⟩),.int .i64 (e:Nat),.int .i64 (f:Nat)] V fun r w'=>r=.returned (.int .i64 (maskN (fun p=>linkB s p e f) (nS s):Nat))/\Below V.heap.size V w'):=aa (fun V hV e f he hf=>KW s hs B e f he hf V (ScAt.kp gd (LC.o V hV).1));have XN:am (∀ V,KSz S w V->iF V):=aa (fun V hV=>iF.keep hT (LC.o V hV).1);have um:=aa Xl;have LP:=aa oG;have HE4:=aa hE;have jf:nS s<=5:=hs.n.2.1;clear hY hJ oU oG Xl hl gd hT hS hs hx hW aG df lm hyl lw1 lw2 lpb;have Ji:am (bN W (.slice (some ⟨pb,po,none⟩) (l.length - 1) cl) l.dropLast):=aa (by rw[List.dropLast_eq_take];exact wZ (U4.o W um.o) _ (by omega));have Jl:am (∀ V,KSz S w V->∀ i,i<l.length->bN V (.slice (some ⟨pb,po,none⟩) (i+1) cl) (l.take (i+1))):=aa (fun V hV i hi=>wZ (U4.o V hV) _ hi);have XQ:am (∀ V,KSz S w V->∀ k,k<l.length->bN V (.slice (some ⟨pb,po+k * 2,none⟩) (l.length - k) (cl - k)) (l.drop k)):=aa (fun V hV k hk=>by have h:=M5 (U4.o V hV) k (by omega);rwa [if_neg (by omega)]at h)
 have XC:am (∀ V,KSz S w V->∀ i,i<l.length->∃ e:Nat,(l.getD i default).x=(e:Int)/\(l.getD i default).x.toNat=e/\e<eS s/\V.cell? ⟨pb,po+i * 2,none⟩=some (.int .i64 (e:Int))):=aa (fun V hV i hi=>by
  obtain⟨a,c,e1,_,_,e2⟩:=(U4.o V hV).at;obtain⟨b',o',e3,h1,h2⟩:=e2 i hi;injection e1 with e4 e5 e6
  rw[<-e4]at e3;injection e3 with e3
  injection e3 with e7 e8
  subst e7 e8;have h3:=Yu.o l[i] (List.getElem_mem hi);have hg:l.getD i default=l[i]:=by simp[hi]
  rw[hg];refine⟨l[i].x.toNat,by omega,rfl,h3.2,?_⟩;rw[h1.1];congr 2
  omega)
 have oZ:am (∀ V,KSz S w V->V.cell? ⟨bw,0,none⟩=some (.slice (some ⟨pb,po,none⟩) l.length cl)/\V.cell? ⟨bx,0,none⟩=some (.pointer (some ⟨B,0,none⟩))):=aa (fun V hV=>⟨(ab (LC.o V hV).2.2.1 0).trans rfl,(ab (LC.o V hV).2.2.2 0).trans rfl⟩);have Qz:am (∀ i,i<l.length->gF s l i=ii s l i 0++gF s l (i+1)):=aa (Mw s l);have Bu:am (gF s l l.length=[]):=aa (OS s l);have UN:am (∀ i j,l.length<=i+2+j->ii s l i j=[]):=aa (OT s l);have HJN:am (∀ i j,i+2+j<l.length->eZ s (l.getD i default).x.toNat (l.getD (l.length - 1 - j) default).x.toNat=false->ii s l i j=ii s l i (j+1)):=aa (fun i j h hb=>My s l i j h (by unfold wF;rw[hb];rfl));have UI:am (∀ i j,i+2+j<l.length->eZ s (l.getD i default).x.toNat (l.getD (l.length - 1 - j) default).x.toNat=true->ii s l i j=(l.take (i+1)++⟨(l.getD (l.length - 1 - j) default).x,byP s (l.getD i default).x.toNat (l.getD (l.length - 1 - j) default).x.toNat⟩ :: l.drop (l.length - 1 - j+1)) :: ii s l i (j+1)):=aa (fun i j h hb=>Mx s l i j h (by unfold wF;rw[hb];rfl));have zn:am (1<l.length->dP s l=[l.dropLast]++(⟨(l.getD 1 default).x,-1⟩ :: l.drop 2) :: gF s l 0):=aa (fun h=>by rw[BI,if_pos h];rfl);have Ui:am (¬ 1<l.length->dP s l=[l.dropLast]++gF s l 0):=aa (fun h=>by rw[BI,if_neg h];rfl)
 have Yd:am (1<l.length->cT (⟨(l.getD 1 default).x,-1⟩ :: l.drop 2)=(cT (l.drop 1)).set 1 (.int .i64 (-1))):=aa (fun h=>by
  rw[List.drop_eq_getElem_cons h,show l.getD 1 default=l[1] by simp[h]]
  rfl)
 obtain⟨n,hn⟩:∃ n,l.length=n:=⟨_,rfl⟩;have HN:=aa hn;rw[hn]at iz nA Ji Jl XQ XC oZ Qz Bu UN HJN UI zn Ui Yd lt1 lt2;clear hn;have tw:=(oZ.o W um.o).1;refine(callsIn_wide (n:=0)).1 ?_;refine callsIn_of_wp Tryz.func96 rfl trivial ?_ rfl;simp only[Tryz.ntmps96,List.size_toArray,List.length_cons,List.length_nil,Nat.reduceAdd,Nat.reduceSub,Array.replicate_succ,Array.replicate_zero,List.push_toArray,List.append_toArray,List.nil_append,List.cons_append];have jn:IntKind.i64.wrap ((n:Int) - 1)=((n - 1:Nat):Int):=by rw[IntWalk.i64_in _ (by omega)];omega
 obtain⟨fn,tmps,assign,body,pz,hR⟩:=Bd.o [] _ _ W _ nB.o Ji.o (fun b hb=>.inl (dy hb).symm) LP.o;have HR:=aa hR;clear hR
 gi_wp2
 refine⟨rfl,HR.o.mono ?_⟩;rintro e W3 (⟨rfl,iw,DC,AT⟩|⟨rfl,i,hi,sy⟩)
 case inr=>
  gi_wp2
  refine bodyPost_ret (results_none rfl _ _ _) rfl ?_;exact⟨⟨_,rfl⟩,_,.inr ⟨_,hi,sy⟩⟩
 clear tw HR pz;have oN:=aa (KSz.trans um.o iw);have Vb:=aa AT;clear iw AT Ji;have tw:=(oZ.o W3 oN.o).1
 have UD:am (∃ d,dP s l=d++gF s l 0):=aa (by
  by_cases h:1<n
  ·exact⟨_,by rw[zn.o h,List.append_cons]⟩
  ·exact⟨_,Ui.o h⟩)
 by_cases kq:1<n
 case' pos=>
  have XM:decide ((1:Int)<(n:Int))=true:=decide_eq_true (by omega);have jR:=aa (uN (.slice (some ⟨pb,po+2,none⟩) (n - 1) (cl - 1)) (l.drop 1) W3 (XQ.o W3 oN.o 1 (by omega)) (by rw[List.length_drop,HN.o];omega));rw[List.length_drop,HN.o]at jR
  have zD:am (∀ y∈(⟨(l.getD 1 default).x,-1⟩ :: l.drop 2:List Lk),bR y.x/\bR y.p):=aa (fun y hy=>by
   rcases List.mem_cons.1 hy with rfl|hy
   ·have h1:=Ob.o (l.getD 1 default) (by rw[show l.getD 1 default=l[1]'(by rw[HN.o];omega) by simp[HN.o,kq]];exact List.getElem_mem _);exact⟨h1.1,⟨by dsimp only;omega,by dsimp only;omega⟩⟩
   ·exact Ob.o y (List.mem_of_mem_drop hy))
  have hn10:(0:Int)<((n - 1:Nat):Int):=by omega
  gi_wp2
  refine⟨trivial,rfl,callsIn_wide.2 (jR.o.mono ?_)⟩;rintro e w4 ⟨u,rfl,hu,bS⟩;obtain⟨g,c,rfl,ra,GG,sp,F2⟩:=hu.some (by omega);obtain⟨⟨uo,tu⟩,fu⟩:=F2 1 (by omega);have HO:=aa hu;have eE:=aa bS;clear jR hu bS tw F2;have hn100:0<n - 1:=by omega
  have lG:am (bN (w4.setCell ⟨g,1,none⟩ (.int .i64 (-1))) (.slice (some ⟨g,0,none⟩) (n - 1) c) (⟨(l.getD 1 default).x,-1⟩ :: l.drop 2)/\Below W3.heap.size W3 (w4.setCell ⟨g,1,none⟩ (.int .i64 (-1)))):=aa (by
   have h1:=Ln HO.o 1 (.int .i64 (-1)) (by rw[lQ,List.length_drop,HN.o];omega) (Yd.o kq);have e1:(⟨(l.getD 1 default).x,-1⟩ :: l.drop 2:List Lk).length=n - 1:=by rw[List.length_cons,List.length_drop,HN.o];omega
   refine⟨aJ.links (base:=W3.heap.size) (by rw[e1];exact h1) zD.o (by rw[e1];omega),eE.o.setCell (p:=⟨g,1,none⟩) ra _⟩)
  obtain⟨fn2,tmps2,assign2,body2,pz,hR⟩:=Bd.o [l.dropLast] _ _ (w4.setCell ⟨g,1,none⟩ (.int .i64 (-1))) _ (zn.o kq) lG.o.1 (fun b hb=>.inr (by have e:=dy hb;have h1:=oN.o.2;dsimp only at e;omega)) (XA.o _ _ _ Vb.o lG.o.2);have HR:=aa hR;clear hR
  gi_wp2
  refine⟨rfl,HR.o.mono ?_⟩;rintro e W6 (⟨rfl,LA,hz6,hj6⟩|⟨rfl,i,hi,hJx6⟩)
  case inr=>
   clear Bd
   gi_wp2
   refine bodyPost_ret (results_none rfl _ _ _) rfl ?_;exact⟨⟨_,rfl⟩,_,.inr ⟨_,hi,hJx6⟩⟩
  have J0:=aa (KSz.trans (Qp.o _ _ oN.o lG.o.2) LA);have Uv:am (∃ d,dP s l=d++gF s l 0/\J d.length S W6):=aa ⟨_,by rw[zn.o kq,List.append_cons],hj6⟩;clear LA hj6 hz6 lG HR pz HO eE tu fu ra GG sp hn100 hn10 zD XM
  gi_wp2
 case' neg=>
  have XM:decide ((1:Int)<(n:Int))=false:=decide_eq_false (by omega);obtain⟨W6,zp⟩:∃ W6,W6=W3:=⟨_,rfl⟩;rw[<-zp]at oN Vb ⊢;have J0:=aa oN.o;have Uv:am (∃ d,dP s l=d++gF s l 0/\J d.length S W6):=aa ⟨_,Ui.o kq,Vb.o⟩;clear zp tw
  gi_wp2
  clear XM
 all_goals
  clear UD kq oN Vb um LP nB zn Ui Yd;obtain⟨W0,aX⟩:∃ W0,W0=W6:=⟨_,rfl⟩;rw[<-aX]at J0 Uv ⊢;clear aX
  gi_loopw [32] (fun i wr=>∃ (i':Nat) (d:List (List Lk)),i'<=n/\i=.int .i64 i'/\dP s l=d++gF s l i'/\KSz S w wr/\J d.length S wr) (fun i _=>n - (intOf i).toNat)
  ·
   obtain⟨d,h1,h2⟩:=Uv.o;exact⟨0,d,by omega,rfl,h1,J0.o,h2⟩
  ·
   clear J0 Uv W0;obtain⟨i,d,hi,rfl,hd,gc,zc⟩:=hrel;have kr:=aa gc;have jo:=aa zc;have HD:=aa hd;clear gc zc hd;by_cases aC:i<n
   ·obtain⟨wrA,lg⟩:∃ x,x=wr:=⟨_,rfl⟩;rw[<-lg]at kr jo ⊢;clear lg;have HDI':am (dP s l=d++(ii s l i 0++gF s l (i+1))):=aa (by rw[<-Qz.o i aC];exact HD.o)
    gi_wp2
    gi_loopw [7] (fun v wr=>∃ (j:Nat) (d:List (List Lk)),j<=n - 1/\v=.int .i64 ((n - 1 - j:Nat):Int)/\dP s l=d++(ii s l i j++gF s l (i+1))/\KSz S w wr/\J d.length S wr) (fun v _=>(intOf v).toNat)
    ·exact⟨0,d,by omega,by rw[Nat.sub_zero],HDI'.o,kr.o,jo.o⟩
    ·
     clear kr jo HD HDI' d;obtain⟨j,d,hj,rfl,hd,gc,zc⟩:=hrel;have kr:=aa gc;have jo:=aa zc;have HD:=aa hd;obtain⟨k,hk⟩:∃ k,n - 1 - j=k:=⟨_,rfl⟩;rw[hk];have HJE1:=aa (UN.o i j);have JP:=aa (HJN.o i j);have E4:=aa (UI.o i j);rw[hk]at JP E4;have hnk1:k+1+j<=n:=by omega
     have hnk2:n<=k+1+j:=by omega
     clear zc hd hk;have hwi:IntKind.i64.wrap ((i:Int)+2)=(i:Int)+2:=by rw[IntWalk.i64_in _ (by omega)]
     by_cases qM:i+2<=k
     ·obtain⟨e,Gq,Bj,he3,he4⟩:=XC.o wr gc i aC;obtain⟨f,eV,Gi,hf3,hf4⟩:=XC.o wr gc k (by omega);rw[Bj,Gi]at JP E4;rw[eV]at E4;have hbv:=(oZ.o wr gc).1;have AP:=(oZ.o wr gc).2;have yb:∀ z:ExtW wr,z.val.cell? ⟨bw,0,none⟩=_:=fun z=>ak z.ext hbv
      have yx:∀ z:ExtW wr,z.val.cell? ⟨bx,0,none⟩=_:=fun z=>ak z.ext AP
      have ye:∀ z:ExtW wr,z.val.cell? ⟨pb,po+i * 2,none⟩=_:=fun z=>ak z.ext he4
      have yf:∀ z:ExtW wr,z.val.cell? ⟨pb,po+k * 2,none⟩=_:=fun z=>ak z.ext hf4
      have bV:am (∀ y:ExtW wr,Calls Tryz.prog 97 #[.pointer (some ⟨B,0,none⟩),.int .i64 (e:Nat),.int .i64 (f:Nat)] y.val fun r w''=>r=.returned (.int .i64 (maskN (fun p=>linkB s p e f) (nS s):Nat))/\∃ z:ExtW wr,w''=z.val):=aa (fun y=>Calls.ext_of (it.o y.val (Qp.o _ _ kr.o y.ext) e f he3 hf3));have HZ:am (maskN (fun p=>linkB s p e f) (nS s)=0↔eZ s e f=false):=aa (nT _ _);have HUP:am (maskN (fun p=>linkB s p e f) (nS s)=maskN (fun p=>decide (p<nS s)&&linkB s p e f) 8):=aa (VY (by omega) _);have A3:am (firstIx 8 (fun p=>decide (p<nS s)&&linkB s p e f)=byP s e f):=aa (Sn (by omega) _);have gL:i<n:=aC;have mq:k<n:=by omega
      have vT:am ((l.getD k default).x=f):=aa eV;have aV:am (∀ e f':Nat,bR (byP s e f')/\bR (f:Int)):=aa (fun e f'=>⟨by have:=BT (nS s) fun p=>linkB s p e f';unfold byP;generalize firstIx (nS s) _=z at this;exact⟨by omega,by omega⟩,by have:=HE4.o;exact⟨by omega,by omega⟩⟩);clear Gq Bj eV Gi he4 hf4 hbv AP gc he3 hf3;obtain⟨m,hm⟩:∃ m,maskN (fun p=>linkB s p e f) (nS s)=m:=⟨_,rfl⟩;rw[hm]at bV HZ HUP;clear hm
      gi_wp2
      refine wpIn_wide.2 ?_;refine aB (by kernel_rfl) (by kernel_rfl) ?_
      repeat (go_big_quiet_step ((go_at_call 97;with_reducible exact bV.o _)))
      refine wpQuiet_nil ?_;rintro _ ⟨xq,rfl⟩;have nF:=aa (Qp.o _ _ kr.o xq.ext);have N4:=aa (XA.o _ _ _ jo.o xq.ext);generalize xq.val=wr2 at nF N4 ⊢;clear yb yx ye yf bV kr jo xq wr;obtain⟨wr,kV⟩:∃ x,x=wr2:=⟨_,rfl⟩;rw[<-kV]at nF N4 ⊢;clear kV;have S9:0<k->IntKind.i64.wrap ((k:Int) - 1)=((n - 1 - (j+1):Nat):Int):=fun _=>by rw[IntWalk.i64_in _ (by omega)];omega
      have S9:=S9 (by omega);cases gT:eZ s e f with
      | false=>
       obtain rfl:m=0:=HZ.o.2 gT;have gB:=aa (JP.o (by omega) gT);clear gT JP E4
       gi_wp2
       go_roundw
       ·exact⟨j+1,d,by omega,rfl,by rw[<-gB.o];exact HD.o,nF.o,N4.o⟩
       ·simp[intOf];omega
      | true=>
       have vO:((m:Int) == 0)=false:=beq_eq_false_iff_ne.2 (fun h=>by have:=HZ.o.1 (by omega);rw[gT]at this;cases this);have vY:=aa (E4.o (by omega) gT);clear gT JP E4 HZ;have Kc:=aa (Jl.o wr nF.o i gL);have Ti:=aa (LC.o wr nF.o).2.2.1;have XD:=aa (XQ.o wr nF.o k mq);have ud:am ((l.take (i+1)).length=i+1):=aa (by rw[List.length_take,HN.o];omega);have Js:am ((l.drop k).length=n - k):=aa (by rw[List.length_drop,HN.o]);have hwi1:IntKind.i64.wrap ((i:Int)+1)=((i+1:Nat):Int):=by rw[IntWalk.i64_in _ (by omega)];omega
       rw[HN.o]at Ti
       gi_wp2
       refine wpIn_wide.2 ?_;have hS:List.Nodup [57,58,59,60,61,62,63,64]:=by decide
       refine gk 8 [57,58,59,60,61,62,63,64] [MP.eq (.slice (some ⟨pb,po,none⟩) n cl),MP.eq (.int .i64 i),MP.eq (.int .i64 ((i+1:Nat):Int)),MP.eq (.slice (some ⟨pb,po,none⟩) (i+1) cl),YR wr.heap.size (l.take (i+1)),MP.eq (.slice (some ⟨pb,po,none⟩) n cl),MP.eq (.int .i64 k),MP.eq (.slice (some ⟨pb,po+k * 2,none⟩) (n - k) (cl - k))] (by kernel_rfl) (by simp) hS rfl (by kernel_rfl) (by kernel_rfl) (by kernel_rfl) ?step ?tail
       case step=>
        intro x W i o s F hi ho hs hB aq hF;rcases (show i=0\/i=1\/i=2\/i=3\/i=4\/i=5\/i=6\/i=7 by omega) with rfl|rfl|rfl|rfl|rfl|rfl|rfl|rfl
        all_goals (obtain rfl:=dy ho.symm;obtain rfl:=dy hs.symm;clear hi ho hs)
        ·obtain⟨g1,h1⟩:=cJ hF 1 (.pointer (some ⟨bw,0,none⟩)) (by decide) rfl;have tw:=ab (af hB Ti.o) 0;simp at tw;clear hF aq
         go_wp2_with fail
         exact bh.mk _ (Below.refl _ _) rfl rfl
        ·obtain⟨g6,h6⟩:=cJ hF 6 (.int .i64 i) (by decide) rfl;clear hF aq
         go_wp2_with fail
         exact bh.mk _ (Below.refl _ _) rfl rfl
        ·obtain⟨e1,f1⟩:=aS hF 1 58 _ hS rfl (by kernel_rfl) (aq ⟨1,.data⟩ (by simp) rfl);clear hF aq
         go_wp2_with fail
         exact bh.mk _ (Below.refl _ _) rfl rfl
        ·obtain⟨e0,f0⟩:=aS hF 0 57 _ hS rfl (by kernel_rfl) (aq ⟨0,.data⟩ (by simp) rfl);obtain⟨e2,f2⟩:=aS hF 2 59 _ hS rfl (by kernel_rfl) (aq ⟨2,.data⟩ (by simp) rfl);clear hF aq
         go_wp2_with fail
         exact bh.mk _ (Below.refl _ _) rfl rfl
        ·obtain⟨e3,f3⟩:=aS hF 3 60 _ hS rfl (by kernel_rfl) (aq ⟨3,.data⟩ (by simp) rfl);clear hF aq
         go_wp2_with fail
         refine(uN _ _ W (Kc.o.up up_link hB) (by rw[ud.o];omega)).mono ?_;rintro e w9 ⟨u9,rfl,jJ,dU⟩;have ny:=aa (jJ.base hB.size);clear jJ
         go_wp2_with fail
         exact bh.mk _ dU ny.o rfl
        ·obtain⟨g1,h1⟩:=cJ hF 1 (.pointer (some ⟨bw,0,none⟩)) (by decide) rfl;have tw:=ab (af hB Ti.o) 0;simp at tw;clear hF aq
         go_wp2_with fail
         exact bh.mk _ (Below.refl _ _) rfl rfl
        ·obtain⟨g7,h7⟩:=cJ hF 7 (.int .i64 k) (by decide) rfl;clear hF aq
         go_wp2_with fail
         exact bh.mk _ (Below.refl _ _) rfl rfl
        ·obtain⟨e5,f5⟩:=aS hF 5 62 _ hS rfl (by kernel_rfl) (aq ⟨5,.data⟩ (by simp) rfl);obtain⟨e6,f6⟩:=aS hF 6 63 _ hS rfl (by kernel_rfl) (aq ⟨6,.data⟩ (by simp) rfl);clear hF aq
         go_wp2_with fail
         exact bh.mk _ (Below.refl _ _) rfl rfl
       case tail=>
        clear hS;intro x W3 F hB aU hF;have d4:aJ W3 wr.heap.size 75 2 (x 4) (l.take (i+1)).length (cT (l.take (i+1))):=aU 4 (by omega);have d7:x 7=.slice (some ⟨pb,po+k * 2,none⟩) (n - k) (cl - k):=aU 7 (by omega);rw[ud.o]at d4;obtain⟨a4,c4,e4⟩:=aJ.slice d4;rw[e4]at d4;simp only[bA,cW,List.setIfInBounds_toArray,List.set_cons_succ,List.set_cons_zero,Nat.reduceAdd]at hF;rw[e4,d7]at hF;generalize x 0=s0,x 1=s1,x 2=s2,x 3=s3,x 5=s5,x 6=s6 at hF;subst hF;have kP:=aa hB;have zS:=aa d4;have Kk:=aa (XD.o.up up_link hB)
        have bF:am (∀ j u,(cT (l.drop k))[j]?=some u->W3.cell? (Addr.add ⟨pb,po+k * 2,none⟩ j)=some u):=aa (fun j u hj=>by
         obtain⟨b',o',c',e1,hc⟩:=FN Kk.o j u hj;injection e1 with e1
         injection e1 with e1
         injection e1 with e1 e2
         subst e1 e2;have:(Addr.add ⟨pb,po+k * 2,none⟩ j)=⟨pb,po+k * 2+j,none⟩:=by unfold Addr.add;split<;>simp_all
         rw[this];exact hc)
        have QM:am ((cT (l.drop k)).length=(n - k) * 2):=aa (by rw[lQ,Js.o]);have kw:am (i+1+(n - k)<=maxLen):=aa (by unfold maxLen;omega);have fc:am ((i+1+(n - k)) * 16<=140737488355328):=aa (by omega);clear aU d4 d7 e4 hB;simp only[List.drop_succ_cons,List.drop_zero]
        go_wp2_with (at_builtin;(refine bg _ rfl (.tmp 61) (.tmp 64) 54 rfl wr.heap.size 75 i0 _ 2 16 Tryz.underlying54 cB.o.1 cB.o.2.1 cB.o.2.2.1 cB.o.2.2.2 rfl (by decide) _ (i+1) _ rfl zS.o ⟨pb,po+k * 2,none⟩ (n - k) (cl - k) (cT (l.drop k)) rfl QM.o bF.o (Cz _) kw.o fc.o kP.o.size ?_;intro v5 w5 Oi hgrow5 _))
        have dS:Below wr.heap.size wr w5:=Below.grown kP.o hgrow5 kP.o.size (fun g hg=>(zS.o.lt g hg).1);obtain⟨g5,c5,rfl,ra,GG,sp,F2⟩:=Oi.some (by omega);obtain⟨⟨uo,tu⟩,fu⟩:=F2 ((i+1) * 2+1) (by omega);have hi5:i+1<i+1+(n - k):=by omega
        have HK5:=aa (Qp.o _ _ nF.o dS)
        have TG:am (Calls Tryz.prog 83 #[.int .i64 m] w5 fun r w'=>r=.returned (.int .i64 (byP s e f))/\w5=w'):=aa (by
         have h:=CL (fun p=>decide (p<nS s)&&linkB s p e f) w5 (XN.o w5 HK5.o);rw[<-HUP.o,A3.o]at h
         exact h)
        have DE:am (aJ w5 wr.heap.size 75 2 (.slice (some ⟨g5,0,none⟩) (i+1+(n - k)) c5) (i+1+(n - k)) (cT (l.take (i+1)++l.drop k))):=aa (by rw[nY];exact Oi);have mx:=aa dS;clear Oi hgrow5 F2 dS;have Gu:am (bR (byP s e f)/\bR (f:Int)):=aa (aV.o e f);generalize byP s e f=bp at TG vY Gu
        gi_wp2
        refine⟨trivial,rfl,callsIn_wide.2 (TG.o.mono ?_)⟩;rintro r w6 ⟨rfl,rfl⟩;have cZ:bR bp/\bR (f:Int):=Gu.o;obtain⟨y,hy⟩:∃ y:Lk,y=⟨f,bp⟩:=⟨_,rfl⟩
        have Qj:am (bN (w5.setCell ⟨g5,(i+1) * 2+1,none⟩ (.int .i64 bp)) (.slice (some ⟨g5,0,none⟩) (i+1+(n - k)) c5) (l.take (i+1)++⟨f,bp⟩ :: l.drop (k+1))/\Below wr.heap.size wr (w5.setCell ⟨g5,(i+1) * 2+1,none⟩ (.int .i64 bp))):=aa (by
         have e0:(l.getD k default).x=f:=vT.o;have e1:l.drop k=l.getD k default :: l.drop (k+1):=by rw[List.drop_eq_getElem_cons (by rw[HN.o];exact mq),show l.getD k default=l[k]'(by rw[HN.o];exact mq) by simp[HN.o,mq]]
         have e2:cT (l.take (i+1)++⟨f,bp⟩ :: l.drop (k+1))=(cT (l.take (i+1)++l.drop k)).set ((i+1) * 2+1) (.int .i64 bp):=by rw[e1,<-e0,So,ud.o]
         have e3:(l.take (i+1)++⟨f,bp⟩ :: l.drop (k+1):List Lk).length=i+1+(n - k):=by rw[List.length_append,List.length_cons,ud.o,List.length_drop,HN.o];omega
         have h1:=Ln DE.o ((i+1) * 2+1) (.int .i64 bp) (by rw[lQ,List.length_append,ud.o,Js.o];omega) e2;refine⟨aJ.links (base:=wr.heap.size) (by rw[e3];exact h1) (fun y hy=>?_) (by rw[e3];omega),mx.o.setCell (p:=⟨g5,(i+1) * 2+1,none⟩) ra _⟩;rcases List.mem_append.1 hy with hy|hy
         ·exact Ob.o y (List.mem_of_mem_take hy)
         rcases List.mem_cons.1 hy with rfl|hy
         ·exact⟨cZ.2,cZ.1⟩
         ·exact Ob.o y (List.mem_of_mem_drop hy))
        clear hy y cZ TG;obtain⟨fn,tmps,assign,body,pz,hR⟩:=Bd.o d _ (ii s l i (j+1)++gF s l (i+1)) (w5.setCell ⟨g5,(i+1) * 2+1,none⟩ (.int .i64 bp)) _ (by rw[HD.o,vY.o];rfl) Qj.o.1 (fun b hb=>.inr (by have e:=dy hb;have h1:=nF.o.2;dsimp only at e;omega)) (XA.o _ _ _ N4.o Qj.o.2);have HR:=aa hR;clear hR;have Qv:am (dP s l=(d++[l.take (i+1)++⟨f,bp⟩ :: l.drop (k+1)])++(ii s l i (j+1)++gF s l (i+1))):=aa (by rw[HD.o,vY.o];simp)
        gi_wp2
        refine⟨rfl,HR.o.mono ?_⟩;rintro r W9 (⟨rfl,zI,QW,Qy⟩|⟨rfl,i9,Qt,hJx9⟩)
        ·have qD:=aa (KSz.trans (Qp.o _ _ nF.o Qj.o.2) zI);have HJ9:=aa Qy;clear zI Qy QW HR pz
         gi_wp2
         go_roundw
         ·exact⟨j+1,_,by omega,rfl,Qv.o,qD.o,HJ9.o⟩
         ·simp[intOf];omega
        ·clear Bd HR pz
         gi_wp2
         refine bodyPost_ret (results_none rfl _ _ _) rfl ?_;exact⟨⟨_,rfl⟩,_,.inr ⟨_,Qt,hJx9⟩⟩
     ·have HJE2:=aa (HJE1.o (by omega));clear gc
      gi_wp2
      go_roundw
      ·exact⟨i+1,d,by omega,by go_num,by rw[HD.o,HJE2.o];rfl,kr.o,jo.o⟩
      ·simp[intOf];omega
   ·obtain rfl:i=n:=by omega
    have HCE:am (d.length=(dP s l).length):=aa (by rw[HD.o,Bu.o,List.append_nil])
    gi_wp2
    go_end0
    exact⟨⟨_,rfl⟩,_,.inl (by rw[<-HCE.o];exact jo.o)⟩
end Go.Proofs.YtmeaoneaephjeaaGreatDoor
