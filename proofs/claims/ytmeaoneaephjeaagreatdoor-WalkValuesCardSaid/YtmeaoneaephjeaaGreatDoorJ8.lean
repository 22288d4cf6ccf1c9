/-
  A part of the proof: lemmas and contracts that the parts behind it use. Each one's conditions are its own premises.
-/
import Derived.Lib.MinMax
import Derived.Test.YtmeaoneaephjeaaGreatDoorJ7
set_option maxRecDepth 100000
set_option maxHeartbeats 8000000
set_option linter.unusedVariables false
set_option linter.unusedSimpArgs false
namespace Go.Proofs.YtmeaoneaephjeaaGreatDoor
open Go.RowKit Go Go.Shelf
def oX(l:List (Int × Int)) (k:Int):Option Int:=(l.find? fun p=>decide (k=p.1)).map (·.2)
def db(w:World) (b:Nat) (f:Int->Option Int) (n:Nat):Prop:=
 ∃ es clock l,w.heap[b]?=some (.map es clock)/\es.toList.map (fun e=>(e.key,e.val))=l.map (fun p:Int × Int=>(Value.int .i64 p.1,Value.int .i64 p.2))/\l.length=n/\∀ k,oX l k=f k
theorem db.kept{A A':World} {b n:Nat} {f:Int->Option Int} (h:db A b f n) (he:A'.heap[b]?=A.heap[b]?):db A' b f n:=by
 obtain⟨es,clock,l,h1,hf⟩:=h;exact⟨es,clock,l,he.trans h1,hf⟩
theorem db.lt{w:World} {b n:Nat} {f:Int->Option Int} (h:db w b f n):b<w.heap.size:=by
 obtain⟨_,_,_,he,_⟩:=h;exact aB he
theorem db.up{A A':World} {b n:Nat} {f:Int->Option Int} (h:db A b f n) (hb:Below A.heap.size A A'):db A' b f n:=h.kept (hb.block b h.lt)
theorem db.other{A:World} {b n:Nat} {f:Int->Option Int} (h:db A b f n):∃ o,A.heap[b]?=some o/\o.isCells=false:=by
 obtain⟨es,clock,l,h1,_⟩:=h;exact⟨_,h1,rfl⟩
theorem db.congr{A:World} {b n m:Nat} {f g:Int->Option Int} (h:db A b f n) (hf:∀ k,f k=g k) (hn:n=m):db A b g m:=by
 obtain⟨es,clock,l,h1,h2,h3,h4⟩:=h;exact⟨es,clock,l,h1,h2,hn ▸ h3,fun k=>(h4 k).trans (hf k)⟩
theorem db.new(w:World):db (w.alloc (.map #[] 0)) w.heap.size (fun _=>none) 0:=⟨#[],0,[],am w _,rfl,rfl,fun _=>rfl⟩
theorem LZ(k:Int) (d:TypeDesc) (hd:d=.int .i64):∀ (l:List (Int × Int)) (es:List MapEntry) (i:Nat),es.map (fun e=>(e.key,e.val))=l.map (fun p=>(Value.int .i64 p.1,Value.int .i64 p.2)) →
  (oX l k=none/\Instr.findNow d (.int .i64 k) es i=some none)\/∃ j x,oX l k=some x/\Instr.findNow d (.int .i64 k) es i=some (some (i+j,.int .i64 x))/\(l[j]?.map (·.1))=some k/\∀ y k',oX (l.modify j fun p=>(p.1,y)) k'=if k'=k then some y else oX l k'
 | [],es,i,h=>by
  obtain rfl:es=[]:=by simpa using h
  exact .inl ⟨rfl,rfl⟩
 | p :: l,es,i,h=>by
  cases es with
  | nil=>simp at h
  | cons e es=>
   simp only[List.map_cons,List.cons.injEq,Prod.mk.injEq]at h;obtain⟨⟨hk,hv⟩,h⟩:=h;subst hd;have hs:Instr.sameNow (.int .i64) (.int .i64 k) e.key=some (k == p.1):=by rw[hk];simp[Instr.sameNow]
   by_cases e1:k=p.1
   ·subst e1
    refine .inr ⟨0,p.2,by simp[oX],by unfold Instr.findNow;rw[hs];simp[hv],rfl,fun y k'=>?_⟩;simp only[List.modify_zero_cons,oX,List.find?_cons];by_cases e2:k'=p.1
    ·simp[e2]
    ·simp[e2]
   ·have iI:Instr.sameNow (.int .i64) (.int .i64 k) e.key=some false:=by rw[hs];simpa using e1
    have e3:oX (p :: l) k=oX l k:=by simp[oX,e1]
    have hf:Instr.findNow (.int .i64) (.int .i64 k) (e :: es) i=Instr.findNow (.int .i64) (.int .i64 k) es (i+1):=by
     rw[Instr.findNow,iI]
    rcases LZ k (.int .i64) rfl l es (i+1) h with ⟨h1,h2⟩|⟨j,x,h1,h2,h3,h4⟩
    ·exact .inl ⟨by rw[e3];exact h1,by rw[hf];exact h2⟩
    ·refine .inr ⟨j+1,x,by rw[e3];exact h1,by rw[hf,h2,show i+1+j=i+(j+1) by omega],by simpa using h3,fun y k'=>?_⟩
     have h5:=h4 y k';simp only[List.modify_succ_cons,oX,List.find?_cons]at h5 ⊢;by_cases e2:k'=p.1
     ·subst e2
      rw[if_neg (fun e=>e1 e.symm)];simp
     ·simp only[e2,decide_false]
      exact h5
theorem L0{P:Program} {kt:TypeId} (hk:P.underlying kt=some (.int .i64)) (k:Int) (es:List MapEntry) (w:World) (r:Option (Nat × Value)) (h:Instr.findNow (.int .i64) (.int .i64 k) es 0=some r):(Instr.findKey kt (.int .i64 k) es).run P w=.ok r w:=by
 unfold Instr.findKey;simp[Sem.run_bind,run_underlying hk,h]
theorem BX{P:Program} {kt:TypeId} (hk:P.underlying kt=some (.int .i64)) (em:Bool) (k:Int) (w:World):(Instr.checkKey em 10000 kt (.int .i64 k)).run P w=.ok () w:=by
 unfold Instr.checkKey;simp[Sem.run_bind,run_underlying hk]
section
variable {P : Program} {kt mt vt : TypeId} {w : World} {b n : Nat} {f : Int → Option Int}
theorem DF(hm:P.underlying mt=some (.map kt vt)) (hk:P.underlying kt=some (.int .i64)) (hz:∀ w,(zeroValue vt).run P w=.ok (.int .i64 0) w) (h:db w b f n) (k:Int) :
  (Instr.lookup mt (.map (some b)) (.int .i64 k) true).run P w=.ok (.tuple #[.int .i64 ((f k).getD 0),.bool (f k).isSome]) w:=by
 obtain⟨es,clock,l,hb,iJ,_,hf⟩:=h;have hg:(getObj b).run P w=.ok (.map es clock) w:=by simp[getObj,Sem.run,hb]
 rw[<-hf k];unfold Instr.lookup;rcases LZ k _ rfl l es.toList 0 iJ with ⟨h1,h2⟩|⟨j,x,h1,h2,_⟩
 ·simp[Sem.run_bind,run_underlying hm,hg,BX hk,L0 hk k _ w _ h2,hz,h1]
 ·simp[Sem.run_bind,run_underlying hm,hg,BX hk,L0 hk k _ w _ h2,h1]
theorem Xz(h:db w b f n):∃ es clock,w.heap[b]?=some (.map es clock)/\es.size=n:=by
 obtain⟨es,clock,l,hb,iJ,hl,_⟩:=h;refine⟨es,clock,hb,?_⟩;have:=congrArg List.length iJ;simpa[hl] using this
theorem Ut(hm:P.underlying mt=some (.map kt vt)) (ty:TypeId) (h:db w b f n):(Builtin.len_ #[mt] ty #[.map (some b)]).run P w=.ok (.int .i64 (n:Int)) w:=by
 obtain⟨es,clock,hb,hn⟩:=Xz h;have hg:(getObj b).run P w=.ok (.map es clock) w:=by simp[getObj,Sem.run,hb]
 subst hn;simp[Builtin.len_,run_underlying hm,hg,goInt,Result.andThen]
theorem uD(hm:P.underlying mt=some (.map kt vt)) (hk:P.underlying kt=some (.int .i64)) (h:db w b f n) (k x:Int) :
  ∃ o,(Instr.mapUpdate mt (.map (some b)) (.int .i64 k) (.int .i64 x)).run P w=.ok () (w.putObj b o)/\db (w.putObj b o) b (fun j=>if j=k then some x else f j) (if (f k).isSome then n else n+1):=by
 obtain⟨es,clock,l,hb,iJ,hl,hf⟩:=h;have hg:(getObj b).run P w=.ok (.map es clock) w:=by simp[getObj,Sem.run,hb]
 have hs:∀ o,(setObj b o).run P w=.ok () (w.putObj b o):=fun o=>by simp[setObj,Sem.run,hb,World.putObj]
 rw[<-hf k];rcases LZ k _ rfl l es.toList 0 iJ with ⟨h1,h2⟩|⟨j,y,h1,h2,h3,h4⟩
 ·refine⟨.map (es.push { key:=.int .i64 k,val:=.int .i64 x,born:=clock }) (clock+1),?_,es.push { key:=.int .i64 k,val:=.int .i64 x,born:=clock },clock+1,l++[(k,x)],World.putObj_heap_same (aB hb),by simp[iJ],by rw[h1];simp[hl],fun j=>?_⟩
  ·unfold Instr.mapUpdate
   simp[Sem.run_bind,run_underlying hm,hg,BX hk,L0 hk k _ w _ h2,hs]
  ·unfold oX at h1 ⊢
   rw[List.find?_append]
   show Option.map _ _=if j=k then some x else f j
   by_cases e:j=k
   ·subst e
    rw[Option.map_eq_none_iff]at h1;simp[h1]
   ·rw[if_neg e,<-hf j]
    unfold oX;cases l.find? fun p=>decide (j=p.1)<;>simp[e]
 ·rw[Nat.zero_add]at h2
  have cG:es.toList.length=l.length:=by simpa using congrArg List.length iJ
  have hj:j<l.length:=by
   apply Classical.byContradiction;intro hj;rw[List.getElem?_eq_none (by omega)]at h3;simp at h3
  have hje:j<es.size:=by simpa using (show j<es.toList.length by omega)
  have my:es[j].key=.int .i64 k:=by
   have h5:=congrArg (fun L=>L[j]?) iJ;simp only[List.getElem?_map,List.getElem?_eq_getElem hj,List.getElem?_eq_getElem (show j<es.toList.length by omega)]at h5 h3;simp only[Option.map_some,Option.some.injEq,Prod.mk.injEq,Array.getElem_toList]at h5 h3;rw[h5.1,h3]
  refine⟨.map (es.modify j fun e=>{ e with key:=.int .i64 k,val:=.int .i64 x }) clock,?_,es.modify j fun e=>{ e with key:=.int .i64 k,val:=.int .i64 x },clock,l.modify j fun p=>(p.1,x),World.putObj_heap_same (aB hb),?_,by rw[h1];simp[hl],fun j'=>by rw[h4 x j',hf]⟩
  ·unfold Instr.mapUpdate
   have dU:(Instr.keyThatStays (.int .i64 k) (.int .i64 k)).run P w=.ok (.int .i64 k) w:=by
    unfold Instr.keyThatStays;rw[if_pos (by simp[Instr.sameBits])];rfl
   simp[Sem.run_bind,run_underlying hm,hg,BX hk,L0 hk k _ w _ h2,hs,hje,my,dU]
  ·apply List.ext_getElem?
   intro i;have h5:=congrArg (fun L=>L[i]?) iJ;simp only[List.getElem?_map]at h5 ⊢;rw[List.getElem?_modify,Array.getElem?_toList,Array.getElem?_modify];rw[Array.getElem?_toList]at h5;by_cases e:j=i
   ·subst e
    simp only[if_pos,List.getElem?_eq_getElem hj,Array.getElem?_eq_getElem hje,Option.map_some,Option.some.injEq,Prod.mk.injEq]at h5 ⊢;rw[List.getElem?_eq_getElem hj]at h3;simp only[Option.map_some,Option.some.injEq]at h3;simp[h3]
   ·simp only[if_neg e]
    cases h6:l[i]? with
    | none=>rw[h6]at h5;exact h5
    | some q=>rw[h6]at h5;exact h5
end
end Go.Proofs.YtmeaoneaephjeaaGreatDoor
namespace Go.Proofs.YtmeaoneaephjeaaGreatDoor
open Go.RowKit Go Go.Shelf
attribute [local go_sem] Oper.semAt_some
theorem BY(v:Value) (l:List Int) (w:World) (hv:aT w v l) (hp:lI l) (hl:l.length<=65536) :
  Calls Tryz.prog 206 #[v] w fun e w'=>e=.returned (.int .i64 0)/\Below w.heap.size w w':=by
 obtain⟨pa,ca,rfl,la1,la2,ea⟩:=hv.at;have EA:=aa ea;obtain⟨N,hN,hs⟩:=hp;have HS:=aa hs;have HN:=aa hN;clear hv ea hs hN
 go_enter Tryz.func206,Tryz.ntmps206
 go_wp2
 go_loop [3,11] (fun nx i=>∃ k:Nat,k<=l.length/\i=.int .i64 k/\nx=.int .i64 (N k)/\0<=N k/\N k<=k) (fun _ i=>l.length - (intOf i).toNat)
 case atStart=>exact⟨0,by omega,rfl,by rw[HN.out],by rw[HN.out];omega,by rw[HN.out];omega⟩
 case round=>
  obtain⟨k,hk,rfl,rfl,oA,jP⟩:=hrel;by_cases aA:k<l.length
  ·obtain⟨b1,o1,rfl,h1⟩:=EA.out k aA
   rw[Nat.mul_one]at h1;have c1:=h1.1;obtain⟨cN,df,dM⟩:=HS.out k aA;rw[az 0 aA]at cN df dM;clear h1;generalize l[k]=x at c1 cN df dM;have HX:=aa dM;clear dM;generalize N k=nk at oA jP df HX;by_cases Wv:x=nk
   ·subst Wv
    have fF:Hid (N (k+1)=x+1):=aa (by rw[HX.out,if_pos rfl])
    go_wp2
    go_round
    case rel=>exact⟨k+1,by omega,by go_num,by rw[fF.out],by rw[fF.out];omega,by rw[fF.out];omega⟩
    case measure=>simp[intOf];omega
   ·have hxn':(x == nk)=false:=by simpa using Wv
    have dM:¬ nk<x:=by omega
    have wH:¬ x<0:=by omega
    have fF:Hid (N (k+1)=nk):=aa (by rw[HX.out,if_neg Wv])
    go_wp2
    go_round
    case rel=>exact⟨k+1,by omega,by go_num,by rw[fF.out],by rw[fF.out];omega,by rw[fF.out];omega⟩
    case measure=>simp[intOf];omega
  ·go_wp2
   go_ret
   exact⟨rfl,by go_grown⟩
theorem OA(va vb:Value) (a b:List Int) (w:World) (ha:aT w va a) (hb:aT w vb b) (pa:lI a) (pb:lI b) (hl:b.length=a.length) (mP:a.length<=65536) :
  Calls Tryz.prog 174 #[va,vb] w fun e w'=>e=.returned (.int .i64 0)/\Below w.heap.size w w':=by
 have HA:=aa ha;have HB:=aa hb;have HL:=aa hl;have PA:=aa pa;have PB:=aa pb;obtain⟨qa,ca,rfl,_⟩:=ha.at;obtain⟨qb,cb,rfl,_⟩:=hb.at;clear ha hb hl pa pb;have Ir:((a.length:Int) != (b.length:Int))=false:=by rw[HL.out];simp
 go_enter Tryz.func174,Tryz.ntmps174
 go_wp2_with fail
 refine bm (fun W=>Below w.heap.size w W/\W.heap[w.heap.size]?=some (.cells #[.slice qa a.length ca,.slice qb b.length cb] 38)) ⟨by go_grown,am _ _⟩ (fun W0 aV=>?_);obtain⟨aH,bB⟩:=aV;have kV:=aa bB;clear bB
 go_loopw [12] (fun i wr=>∃ k:Nat,k<=2/\i=.int .i64 k/\Below w.heap.size w wr/\Below W0.heap.size W0 wr) (fun i _=>2 - (intOf i).toNat)
 case atStart=>exact⟨0,by omega,rfl,aH,Below.refl _ _⟩
 case round=>
  clear aH;obtain⟨k,hk,rfl,cQ,ar⟩:=hrel;have tB:=ab (af ar kV.out);by_cases h0:k=0
  ·subst h0
   go_wp2_with fail
   refine(BY _ _ wr (HA.out.up up_int cQ) PA.out mP).mono ?_;rintro e w1 ⟨rfl,aI⟩;clear tB
   go_wp2_with fail
   go_roundw
   case rel=>exact⟨1,by omega,by go_num,ae cQ aI,ae ar aI⟩
   case measure=>simp[intOf]
  by_cases h1:k=1
  ·subst h1
   go_wp2_with fail
   refine(BY _ _ wr (HB.out.up up_int cQ) PB.out (by rw[HL.out];exact mP)).mono ?_;rintro e w1 ⟨rfl,aI⟩;clear tB
   go_wp2_with fail
   go_roundw
   case rel=>exact⟨2,by omega,by go_num,ae cQ aI,ae ar aI⟩
   case measure=>simp[intOf]
  obtain rfl:k=2:=by omega
  clear tB
  go_wp2_with fail
  go_ret
  exact⟨rfl,cQ⟩
theorem JQ(v:Value) (keys:List Int) (w:World) (hv:aT w v keys) (hl:keys.length<=256) :
  Calls Tryz.prog 176 #[v] w fun e w'=>∃ u,e=.returned u/\aT w' u (kO keys)/\Below w.heap.size w w':=by
 obtain⟨pa,ca,rfl,la1,la2,ea⟩:=hv.at;have EA:=aa ea;clear hv ea;obtain⟨f,hf⟩:∃ f,f=fun i=>(kO keys).getD i 0:=⟨_,rfl⟩
 obtain⟨key,my⟩:∃ key:Nat->Int,key=fun i=>keys.getD i 0:=⟨_,rfl⟩
 obtain⟨q,hq⟩:∃ q:Nat->Nat->Bool,q=fun k i=>decide (keys.getD k 0=keys.getD i 0):=⟨_,rfl⟩
 have HF:Hid ((∀ i,f i=(ii q keys.length).getD i 0)/\(List.range keys.length).map f=kO keys):=aa (by
  subst hf hq;refine⟨fun _=>rfl,?_⟩;refine List.ext_getElem (by simp[kO,oN]) fun i h1 h2=>?_
  simp[h2])
 have HQ:Hid (∀ k,firstIx k (fun j=>q j k)=firstIx k (fun j=>decide (key j=key k))):=aa (fun k=>by subst hq my;rfl);have HK:Hid (∀ k (h:k<keys.length),key k=keys[k]):=aa (fun k h=>by subst my;exact az 0 h);have HC:=aa (jz q);clear hf hq my;have fO:=je f keys.length hl;have C7:=@F7 Tryz.prog
 go_enter Tryz.func176,Tryz.ntmps176
 go_wp2_with fail
 clear fO C7;refine bm (fun W=>Below w.heap.size w W/\db W w.heap.size (dq key f 0) 0/\W.heap[w.heap.size+1]?=some (.cells (fC keys.length f 0) 3)) ⟨by go_grown,((db.new w).up (Below.refl _ _ |>.alloc (Nat.le_refl _) _)).congr (fun _=>rfl) rfl,bd _ _ _⟩ (fun W0 aV=>?_);obtain⟨aH,hM0,gR⟩:=aV
 go_loopw [15] (fun i wr=>∃ k:Nat,k<=keys.length/\i=.int .i64 k/\Below w.heap.size w wr/\db wr w.heap.size (dq key f k) (a8 q k).2.toNat/\wr.heap[w.heap.size+1]?=some (.cells (fC keys.length f k) 3)) (fun i _=>keys.length - (intOf i).toNat)
 case atStart=>exact⟨0,by omega,rfl,aH,hM0,gR⟩
 case round=>
  clear aH hM0 gR;obtain⟨k,hk,rfl,ar,hM,hO⟩:=hrel;by_cases aA:k<keys.length
  ·obtain⟨b1,o1,rfl,h1⟩:=EA.out k aA
   rw[Nat.mul_one]at h1;have c1:=ak ar h1.1;have nF:=HK.out k aA;clear h1;generalize keys[k]=x at c1 nF;have HX:=aa nF;have yk:=DF (mt:=245) (kt:=3) (vt:=3) Tryz.underlying245 Tryz.underlying3 (fun w=>by kernel_rfl) hM x;have HM:=aa hM;have HO:=aa hO;have aP:=aa ar;have eT:=hM.lt;have Ic:=aB hO;have hc:=(HC.out k).1;have iP:=(HC.out k).2.1;cases hs:dq key f k x with
   | none=>
    rw[hs]at yk;have Am:=Ut (mt:=245) (kt:=3) (vt:=3) Tryz.underlying245 3 hM;obtain⟨nn,fg⟩:∃ nn:Nat,(a8 q k).2.toNat=nn:=⟨_,rfl⟩;rw[fg]at Am
    have Bg:Hid (∀ y,dq key f (k+1) y=if y=x then some (f k) else dq key f k y):=aa (by
     have:=xo (key:=key) (f:=f) (k:=k) (by rw[nF];exact hs)
     rwa [nF]at this)
    have hfi:firstIx k (fun j=>q j k)<0:=by
     rw[HQ.out,nF];unfold dq at hs;split at hs
     ·assumption
     ·cases hs
    obtain⟨n1,n2⟩:=GD (q:=q) aA hfi;have rO:Hid (f k=nn):=aa ((HF.out.1 k).trans (by omega));have rl:Hid ((a8 q (k+1)).2.toNat=if (dq key f k x).isSome then(a8 q k).2.toNat else(a8 q k).2.toNat+1):=aa (by rw[hs,n2];simp;omega);obtain⟨o,KI,rm⟩:=uD (mt:=245) (kt:=3) (vt:=3) Tryz.underlying245 Tryz.underlying3 HM.out x (nn:Int);have wG:=aa rm;have eE:Hid ((wr.putObj w.heap.size o).heap[w.heap.size+1]?=some (.cells (fC keys.length f k) 3)):=aa ((World.putObj_heap_other (by omega)).trans HO.out);have tq:=ab eE.out k;rw[lN _ _ _ _ aA]at tq;have zq:=aE eE.out k;clear rm hM hO ar hs hfi n1 n2 fg nF
    go_wp2_with fail
    go_roundw
    case rel=>
     refine⟨k+1,by omega,by go_num,Below.setCell (eH (Nat.le_refl _) aP.out) (by dsimp only;omega) _,?_,?_⟩
     ·refine db.congr (db.kept wG.out (Below.heap_setCell _ _ _ _ (by dsimp only;omega))) (fun y=>?_) rl.out.symm
      rw[Bg.out,rO.out]
     ·rw[aF eE.out,<-uu _ _ _ aA,rO.out]
    case measure=>simp[intOf];omega
   | some z=>
    rw[hs]at yk;have yq:Hid (∀ y,dq key f (k+1) y=dq key f k y):=aa (xp (z:=z) (by rw[nF];exact hs));obtain⟨j,hj,e1,e2,e3⟩:=qM hs;obtain⟨n1,n2⟩:=GE (q:=q) (j:=j) aA (by rw[HQ.out,nF];exact e1);have rO:Hid (f k=z):=aa (by rw[HF.out.1 k,n1,<-HF.out.1 j,e3]);have rl:Hid ((a8 q (k+1)).2.toNat=(a8 q k).2.toNat):=aa (by rw[n2]);have tq:=ab HO.out k;rw[lN _ _ _ _ aA]at tq;have zq:=aE HO.out k;clear hM hO ar hs n1 n2 e1 e2 e3 nF
    go_wp2_with fail
    go_roundw
    case rel=>
     refine⟨k+1,by omega,by go_num,aP.out.setCell (by dsimp only;omega) _,?_,?_⟩
     ·exact db.congr (db.kept HM.out (Below.heap_setCell _ _ _ _ (by dsimp only;omega))) (fun y=>(yq.out y).symm) rl.out.symm
     ·rw[aF HO.out,<-uu _ _ _ aA,rO.out]
    case measure=>simp[intOf];omega
  ·obtain rfl:k=keys.length:=by omega
   have HO:=aa hO;have aP:=aa ar;clear hM hO ar
   go_wp2_with fail
   go_ret
   refine⟨_,rfl,?_,aP.out⟩;have h1:=HO.out;rw[pK,HF.out.2]at h1;refine rf (by simp[kO,oN]) hl h1 fun i hi=>?_
   have:=lJ (oO (fun k i=>decide (keys.getD k 0=keys.getD i 0)) keys.length) i hi;have ou:i<keys.length:=by simpa[kO,oN] using hi
   unfold bM kO;omega
def iH(s:Sys) (p e:Nat):Int:=if hasB (fltS s e) p then -1 else finS s e p
theorem Uu{s:Sys} (h:SysOk s) {p e:Nat} (hp:p<nS s) (he:e<eS s):-1<=iH s p e/\iH s p e<=8192:=by
 have h1:=lq h he hp;have h2:=h.tab;unfold iH;split<;>omega
theorem OB{s:Sys} (h:SysOk s) {p:Nat} (hp:p<nS s) {k:Nat} (hk:k<eS s):(iH s p k<0->firstIx k (fun j=>linkB s p j k)=-1)/\(0<=iH s p k->firstIx k (fun j=>linkB s p j k)=firstIx k fun j=>decide (iH s p j=iH s p k)):=by
 refine⟨fun h1=>dG _ _ fun j hj=>?_,fun h1=>l4 _ _ _ fun j hj=>?_⟩
 ·rw[AV h (show j<eS s by omega) hk hp (iH s p j) (iH s p k) rfl rfl]
  by_cases e:0<=iH s p j
  ·rw[decide_eq_false (show ¬ iH s p j=iH s p k by omega)];simp
  ·rw[decide_eq_false e];rfl
 ·rw[AV h (show j<eS s by omega) hk hp (iH s p j) (iH s p k) rfl rfl]
  by_cases e:iH s p j=iH s p k
  ·rw[decide_eq_true e,decide_eq_true (by omega)];rfl
  ·rw[decide_eq_false e];simp
theorem xK(s:Sys) (hs:SysOk s) (hE:eS s<=256) (B p:Nat) (hp:p<nS s) (w:World) (h:FinAt w B s) :
  Calls Tryz.prog 129 #[.pointer (some ⟨B,0,none⟩),.int .i64 p] w fun r w'=>∃ u,r=.returned u/\aT w' u (classL s p)/\Below w.heap.size w w':=by
 obtain⟨pl,cl,h1,bW⟩:=h.open;have H1:=aa h1;have jZ:=aa bW;clear h1 bW h;obtain⟨i0,cU,cg,bV,cj⟩:=info_parts Tryz.infoInt;obtain⟨f,hf⟩:∃ f,f=fun i=>(classL s p).getD i 0:=⟨_,rfl⟩
 obtain⟨q,hq⟩:∃ q:Nat->Nat->Bool,q=fun k i=>linkB s p k i:=⟨_,rfl⟩
 obtain⟨lc,hlc⟩:∃ lc:Nat->List Value,lc=fun k=>(List.range k).map fun i=>Value.int .i64 (f i):=⟨_,rfl⟩
 have qD:Hid (lc 0=[]/\(∀ k,lc (k+1)=lc k++[.int .i64 (f k)])/\lc (eS s)=vL (classL s p)):=aa (by
  subst hlc;refine⟨rfl,fun k=>by simp[List.range_succ],?_⟩;subst hf;unfold vL;refine List.ext_getElem (by simp[jb]) fun i h1 h2=>?_
  have h3:i<(classL s p).length:=by simpa using h2
  simp[h3])
 have qD:Hid (lc 0=[]/\∀ k,lc (k+1)=lc k++[.int .i64 (f k)])/\Hid (lc (eS s)=vL (classL s p)):=⟨aa ⟨qD.out.1,qD.out.2.1⟩,aa qD.out.2.2⟩;obtain⟨qD,iY⟩:=qD;have Bg:Hid (∀ k,k<eS s->firstIx k (fun j=>q j k)<0->f k=(a8 q k).2/\(a8 q (k+1)).2=(a8 q k).2+1):=aa (fun k hk h=>by subst hf hq;exact GD hk h);have yq:Hid (∀ k j,k<eS s->firstIx k (fun j=>q j k)=(j:Nat)->f k=f j/\(a8 q (k+1)).2=(a8 q k).2):=aa (fun k j hk h=>by subst hf hq;exact GE hk h);have DU:Hid (∀ k,k<eS s->(iH s p k<0->firstIx k (fun j=>q j k)=-1)/\(0<=iH s p k->firstIx k (fun j=>q j k)=firstIx k fun j=>decide (iH s p j=iH s p k))):=aa (fun k hk=>by subst hq;exact OB hs hp hk);have iS:Hid (∀ k,k<eS s->-1<=iH s p k/\iH s p k<=8192):=aa fun k hk=>Uu hs hp hk
 have HC:=aa (jz q)
 have jq:Hid (∀ w' u,aG w' w.heap.size 3 1 u (eS s) (vL (classL s p))->aT w' u (classL s p)):=aa (fun w' u h=>by
  have hl:=jb s p;refine aG.ints (base:=w.heap.size) (by rw[hl];exact h) (by omega) fun x hx=>?_
  obtain⟨i,hi,rfl⟩:=List.getElem_of_mem hx;have:=lJ (oO (fun k i=>linkB s p k i) (eS s)) i hi;have e:(ii (fun k i=>linkB s p k i) (eS s)).getD i 0=(classL s p)[i]:=az 0 hi;rw[e]at this
  exact⟨by omega,by omega⟩)
 clear hf hq hlc;have C7:=@F7 Tryz.prog;have t1:=ab (ap (.map #[] 0) H1.out);obtain⟨n,hn⟩:∃ n,nS s=n:=⟨_,rfl⟩;obtain⟨m,hm⟩:∃ m,eS s=m:=⟨_,rfl⟩;rw[hn]at hp jZ t1;rw[hm]at hE jZ t1 iY Bg yq DU iS jq;obtain⟨key,my⟩:∃ key:Nat->Int,key=iH s p:=⟨_,rfl⟩;rw[<-my]at DU iS
 have Fk:Hid (∀ e,e<m->∃ b o,pl=some ⟨b,o,none⟩/\∃ b' o' cr,w.cell? ⟨b,o+e,none⟩=some (.slice (some ⟨b',o',none⟩) n cr)/\w.cell? ⟨b',o'+p,none⟩=some (.int .i64 (key e))):=aa (fun e he=>by
  obtain⟨b,o,e1,pr,cr,h1,h2⟩:=jZ.out e he;obtain⟨b',o',e2,h3⟩:=DB h2 hp;subst e2
  exact⟨b,o,e1,b',o',cr,h1,by rw[my];exact h3⟩)
 clear jZ H1 my hn hm hs
 go_enter Tryz.func129,Tryz.ntmps129
 go_wp2_with fail
 clear C7 t1;refine bm (fun W=>Below w.heap.size w W/\db W w.heap.size (fun _=>none) 0) ⟨by go_grown,db.new w⟩ (fun W0 aV=>?_);have S3:w.heap.size<=w.heap.size:=Nat.le_refl _;have iz:=aa aV;clear aV;obtain⟨M,hM⟩:∃ M,M=w.heap.size:=⟨_,rfl⟩;have HMM:=aa hM;have S3:w.heap.size<=M:=by omega
 rw[<-hM]at iz ⊢;clear hM
 go_loopw [6,7,19] (fun ov nv i wr=>∃ k:Nat,k<=m/\i=.int .i64 k/\Below w.heap.size w wr/\aG wr w.heap.size 3 1 ov k (lc k)/\nv=.int .i64 (a8 q k).2/\∃ g c,db wr M g c/\∀ y,0<=y->g y=dq key f k y) (fun _ _ i _=>m - (intOf i).toNat)
 case atStart=>exact⟨0,by omega,rfl,by have h:=iz.out.1;rw[HMM.out]at h;exact h,by rw[qD.out.1];exact aG.nil _ _ _ _,rfl,_,_,iz.out.2,fun y _=>rfl⟩
 case round=>
  clear iz;obtain⟨k,hk,rfl,ar,aX,rfl,g,c,hM,hg⟩:=hrel;have DZ:=ar.size;have hML:=hM.lt;obtain⟨av,cv,rfl⟩:=aX.slice;have bI:=aa aX;have aP:=aa ar;have HG:=aa hg;have HM:=aa hM;clear aX hg;by_cases aA:k<m
  ·obtain⟨b,o,rfl,b',o',cr,c1,c2⟩:=Fk.out k aA
   have d1:=ak ar c1;have d2:=ak ar c2;have sK:=DU.out k aA;have cO:=iS.out k aA;have hc:=HC.out k;clear c1 c2 ar;obtain⟨x,cN⟩:∃ x,key k=x:=⟨_,rfl⟩;rw[cN]at d2 sK cO;obtain⟨nx,lQ⟩:∃ nx,(a8 q k).2=nx:=⟨_,rfl⟩;rw[lQ]at hc ⊢;obtain⟨yF,kg,_⟩:=hc;have yk:=DF (mt:=245) (kt:=3) (vt:=3) Tryz.underlying245 Tryz.underlying3 (fun w=>by kernel_rfl) hM x;by_cases hx:x<0
   ·have TL:decide (x<0)=true:=decide_eq_true hx
    obtain⟨e1,e2⟩:=Bg.out k aA (by rw[sK.1 hx];omega);have CQ:Hid (f k=nx):=aa (e1.trans lQ);have ge:Hid ((a8 q (k+1)).2=nx+1):=aa (by rw[e2,lQ])
    have ju:Hid (∀ y,0<=y->(if y=x then some nx else g y)=dq key f (k+1) y):=aa (fun y hy=>by
     rw[if_neg (by omega),HG.out y hy];unfold dq
     rw[show firstIx (k+1) (fun j=>decide (key j=y))=firstIx k (fun j=>decide (key j=y)) by
      rcases bG k (fun j=>decide (key j=y)) with ⟨e,h⟩|⟨j,hj,e,h,h'⟩
      ·rw[e,dG]
       intro j hj;by_cases ej:j=k
       ·subst ej;exact decide_eq_false (by omega)
       ·exact h j (by omega)
      ·rw[e];exact dj (k+1) j _ (by omega) h' h])
    clear e1 e2 sK lQ cN;cases Ah:g x with
    | none=>
     rw[Ah]at yk;clear Ah;obtain⟨o,KI,rm⟩:=uD (mt:=245) (kt:=3) (vt:=3) Tryz.underlying245 Tryz.underlying3 HM.out x nx;have wG:=aa rm;clear rm hM;have kU:=HM.out.other;obtain⟨om,kU,tg⟩:=kU;have FA:=aa (And.intro kU tg);clear kU tg;have dd:=aa ((bI.out.ck (fun b o' gN kF=>(World.putObj_heap_other (fun e=>by subst e;rw[FA.out.1]at gN;cases gN;rw[FA.out.2]at kF;cases kF)).trans gN):aG (wr.putObj M o) w.heap.size 3 1 (.slice av k cv) k (lc k)).up (Below.refl _ _ |>.alloc (Nat.le_refl _) (.cells #[.int .i64 nx] 3)));have bz:=aa (by have h:=dF (wr.putObj M o) [.int .i64 nx] 3;rw[show (wr.putObj M o).heap.size=wr.heap.size by simp]at h;exact h);have Cm:=aa (eH (D:=M) (o:=o) S3 aP.out)
     go_wp2_with (at_builtin;(refine aY _ rfl (.tmp 45) (.tmp 47) 38 rfl w.heap.size 3 i0 _ 1 8 Tryz.underlying38 cU cg bV cj rfl (by decide) _ k _ rfl dd.out ⟨wr.heap.size,0,none⟩ 1 1 [.int .i64 nx] rfl rfl bz.out (by simp[Value.oneCell']) (by unfold maxLen;omega) (by omega) (by simp;omega) ?_;intro v' w2 fD dg _))
     go_roundw
     case rel=>
      refine⟨k+1,by omega,by go_num,ez Cm.out (Nat.le_refl _) dd.out dg,?_,?_,?_⟩
      ·rw[qD.out.2 k,CQ.out];exact fD
      ·rw[ge.out]
      ·refine⟨_,_,wG.out.kept ?_,fun y hy=>?_⟩
       ·obtain⟨o3,h3,IB⟩:=wG.out.other
        rw[mI dd.out dg h3 IB,h3]
       ·rw[ju.out y hy]
        try rw[HG.out y hy]
     case measure=>simp[intOf];omega
    | some z=>
     rw[Ah]at yk;clear Ah;obtain⟨o,KI,rm⟩:=uD (mt:=245) (kt:=3) (vt:=3) Tryz.underlying245 Tryz.underlying3 HM.out x nx;have wG:=aa rm;clear rm hM;have kU:=HM.out.other;obtain⟨om,kU,tg⟩:=kU;have FA:=aa (And.intro kU tg);clear kU tg;have dd:=aa ((bI.out.ck (fun b o' gN kF=>(World.putObj_heap_other (fun e=>by subst e;rw[FA.out.1]at gN;cases gN;rw[FA.out.2]at kF;cases kF)).trans gN):aG (wr.putObj M o) w.heap.size 3 1 (.slice av k cv) k (lc k)).up (Below.refl _ _ |>.alloc (Nat.le_refl _) (.cells #[.int .i64 nx] 3)));have bz:=aa (by have h:=dF (wr.putObj M o) [.int .i64 nx] 3;rw[show (wr.putObj M o).heap.size=wr.heap.size by simp]at h;exact h);have Cm:=aa (eH (D:=M) (o:=o) S3 aP.out)
     go_wp2_with (at_builtin;(refine aY _ rfl (.tmp 45) (.tmp 47) 38 rfl w.heap.size 3 i0 _ 1 8 Tryz.underlying38 cU cg bV cj rfl (by decide) _ k _ rfl dd.out ⟨wr.heap.size,0,none⟩ 1 1 [.int .i64 nx] rfl rfl bz.out (by simp[Value.oneCell']) (by unfold maxLen;omega) (by omega) (by simp;omega) ?_;intro v' w2 fD dg _))
     go_roundw
     case rel=>
      refine⟨k+1,by omega,by go_num,ez Cm.out (Nat.le_refl _) dd.out dg,?_,?_,?_⟩
      ·rw[qD.out.2 k,CQ.out];exact fD
      ·rw[ge.out]
      ·refine⟨_,_,wG.out.kept ?_,fun y hy=>?_⟩
       ·obtain⟨o3,h3,IB⟩:=wG.out.other
        rw[mI dd.out dg h3 IB,h3]
       ·rw[ju.out y hy]
        try rw[HG.out y hy]
     case measure=>simp[intOf];omega
   ·have TL:decide (x<0)=false:=decide_eq_false hx
    have Ah:=HG.out x (by omega);cases zY:dq key f k x with
    | none=>
     rw[Ah,zY]at yk
     obtain⟨e1,e2⟩:=Bg.out k aA (by
      rw[sK.2 (by omega)];rw[<-cN];unfold dq at zY;rw[cN];split at zY
      ·assumption
      ·cases zY)
     have CQ:Hid (f k=nx):=aa (e1.trans lQ);have ge:Hid ((a8 q (k+1)).2=nx+1):=aa (by rw[e2,lQ])
     have ju:Hid (∀ y,0<=y->(if y=x then some nx else g y)=dq key f (k+1) y):=aa (fun y hy=>by
      have h:=xo (key:=key) (f:=f) (k:=k) (by rw[cN];exact zY) y;rw[cN,CQ.out]at h
      rw[h,HG.out y hy])
     clear e1 e2 sK lQ cN zY Ah;obtain⟨o,KI,rm⟩:=uD (mt:=245) (kt:=3) (vt:=3) Tryz.underlying245 Tryz.underlying3 HM.out x nx;have wG:=aa rm;clear rm hM;have kU:=HM.out.other;obtain⟨om,kU,tg⟩:=kU;have FA:=aa (And.intro kU tg);clear kU tg;have dd:=aa ((bI.out.ck (fun b o' gN kF=>(World.putObj_heap_other (fun e=>by subst e;rw[FA.out.1]at gN;cases gN;rw[FA.out.2]at kF;cases kF)).trans gN):aG (wr.putObj M o) w.heap.size 3 1 (.slice av k cv) k (lc k)).up (Below.refl _ _ |>.alloc (Nat.le_refl _) (.cells #[.int .i64 nx] 3)));have bz:=aa (by have h:=dF (wr.putObj M o) [.int .i64 nx] 3;rw[show (wr.putObj M o).heap.size=wr.heap.size by simp]at h;exact h);have Cm:=aa (eH (D:=M) (o:=o) S3 aP.out)
     go_wp2_with (at_builtin;(refine aY _ rfl (.tmp 45) (.tmp 47) 38 rfl w.heap.size 3 i0 _ 1 8 Tryz.underlying38 cU cg bV cj rfl (by decide) _ k _ rfl dd.out ⟨wr.heap.size,0,none⟩ 1 1 [.int .i64 nx] rfl rfl bz.out (by simp[Value.oneCell']) (by unfold maxLen;omega) (by omega) (by simp;omega) ?_;intro v' w2 fD dg _))
     go_roundw
     case rel=>
      refine⟨k+1,by omega,by go_num,ez Cm.out (Nat.le_refl _) dd.out dg,?_,?_,?_⟩
      ·rw[qD.out.2 k,CQ.out];exact fD
      ·rw[ge.out]
      ·refine⟨_,_,wG.out.kept ?_,fun y hy=>?_⟩
       ·obtain⟨o3,h3,IB⟩:=wG.out.other
        rw[mI dd.out dg h3 IB,h3]
       ·rw[ju.out y hy]
        try rw[HG.out y hy]
     case measure=>simp[intOf];omega
    | some z=>
     rw[Ah,zY]at yk;obtain⟨j,hj,e3,e4,e5⟩:=qM zY;obtain⟨e1,e2⟩:=yq.out k j aA (by rw[sK.2 (by omega)];exact e3);have CQ:Hid (f k=z):=aa (by rw[e1,e5]);have ge:Hid ((a8 q (k+1)).2=nx):=aa (by rw[e2,lQ]);have ju:Hid (∀ y,dq key f (k+1) y=dq key f k y):=aa (xp (z:=z) (by rw[cN];exact zY));clear e1 e2 e3 e4 e5 sK lQ cN zY Ah;clear hM;have dd:=aa (bI.out.up (Below.refl _ _ |>.alloc (Nat.le_refl _) (.cells #[.int .i64 z] 3)));have bz:=aa (dF wr [.int .i64 z] 3)
     go_wp2_with (at_builtin;(refine aY _ rfl (.tmp 45) (.tmp 47) 38 rfl w.heap.size 3 i0 _ 1 8 Tryz.underlying38 cU cg bV cj rfl (by decide) _ k _ rfl dd.out ⟨wr.heap.size,0,none⟩ 1 1 [.int .i64 z] rfl rfl bz.out (by simp[Value.oneCell']) (by unfold maxLen;omega) (by omega) (by simp;omega) ?_;intro v' w2 fD dg _))
     go_roundw
     case rel=>
      refine⟨k+1,by omega,by go_num,ez aP.out (Nat.le_refl _) dd.out dg,?_,?_,?_⟩
      ·rw[qD.out.2 k,CQ.out];exact fD
      ·rw[ge.out]
      ·refine⟨_,_,HM.out.kept ?_,fun y hy=>?_⟩
       ·obtain⟨o3,h3,IB⟩:=HM.out.other
        rw[mI dd.out dg h3 IB,h3]
       ·rw[HG.out y hy,ju.out y]
     case measure=>simp[intOf];omega
  ·obtain rfl:k=m:=by omega
   rw[iY.out]at bI;clear hM
   go_wp2_with fail
   go_ret
   exact⟨_,rfl,jq.out _ _ bI.out,aP.out⟩
theorem fX(l:List Int) (j:Nat) (h:j<l.length):(bu l)[j]?=some (.int .i64 (l.getD j 0)):=by simp[bu,h]
theorem lO(l:List Int) (j:Nat) (x:Int):(bu l).setIfInBounds j (.int .i64 x)=bu (l.set j x):=by
 unfold bu;rw[List.map_set,List.setIfInBounds_toArray]
structure Only (B:Nat) (w w':World):Prop where
 os:w'.os=w.os
 tape:w'.tape=w.tape
 output:w'.output=w.output
 size:w'.heap.size=w.heap.size
 same:∀ k,k≠B->w'.heap[k]?=w.heap[k]?
theorem Only.refl(B:Nat) (w:World):Only B w w:=⟨rfl,rfl,rfl,rfl,fun _ _=>rfl⟩
theorem Only.trans{B:Nat} {a b c:World} (h:Only B a b) (k:Only B b c):Only B a c:=⟨k.os.trans h.os,k.tape.trans h.tape,k.output.trans h.output,k.size.trans h.size,fun i hi=>(k.same i hi).trans (h.same i hi)⟩
theorem Only.drew{B:Nat} {a b:World} (h:Only B a b):Only B a b.drew:=⟨h.os,h.tape,h.output,h.size,h.same⟩
theorem Only.setCell{B:Nat} {a b:World} (h:Only B a b) (o:Nat) (v:Value):Only B a (b.setCell ⟨B,o,none⟩ v):=
 ⟨h.os,h.tape,h.output,by simpa using h.size,fun k hk=>(Below.heap_setCell _ _ _ _ hk).trans (h.same k hk)⟩
theorem Only.below{B n:Nat} {w a b:World} (h:Only B a b) (hb:Below n w a) (hn:n<=B):Below n w b:=
 ⟨h.os.trans hb.os,h.tape.trans hb.tape,h.output.trans hb.output,by rw[h.size];exact hb.size,fun k hk=>(h.same k (by omega)).trans (hb.block k hk)⟩
theorem xL(n bx B:Nat) (P:List Int) (hP:Par n P) (i:Nat) (hi:i<n) (w:World) (bJ:bx≠B) (h1:w.heap[bx]?=some (.cells #[.slice (some ⟨B,0,none⟩) n n] 38)) (h2:w.heap[B]?=some (.cells (bu P) 3)) :
  Calls Tryz.prog 175 #[.int .i64 i,.pointer (some ⟨bx,0,none⟩)] w fun e w'=>e=.returned (.int .i64 (rootN P i))/\Only B w w'/\∃ P',w'.heap[B]?=some (.cells (bu P') 3)/\Par n P'/\∀ j,j<n->rootN P' j=rootN P j:=by
 have H1:=aa h1;have H2:=aa h2;have HP:=aa hP;clear h1 h2 hP
 go_enter Tryz.func175,Tryz.ntmps175
 go_wp2_with fail
 go_loopw [0] (fun x wr=>∃ (j:Nat) (Q:List Int),x=.int .i64 j/\j<n/\Only B w wr/\wr.heap[B]?=some (.cells (bu Q) 3)/\Par n Q/\(∀ j,j<n->rootN Q j=rootN P j)/\rootN P j=rootN P i) (fun x _=>(intOf x).toNat)
 case atStart=>exact⟨i,P,rfl,hi,Only.refl _ _,H2.out,HP.out,fun _ _=>rfl,rfl⟩
 case round=>
  obtain⟨j,Q,rfl,hj,ho,hB,hQ,hr,oD⟩:=hrel;have kE:wr.heap[bx]?=_:=(ho.same bx bJ).trans H1.out;have tx:=ab kE 0;simp at tx;obtain⟨a0,a1⟩:=hQ.le j hj;obtain⟨A,hA⟩:∃ A:Nat,Q.getD j 0=A:=⟨(Q.getD j 0).toNat,by omega⟩;have hl:=hQ.len;have t1:=ab hB j;rw[fX _ _ (by omega),hA]at t1;have HO:=aa ho;have HB:=aa hB;have HQ:=aa hQ;have HR:=aa hr;have HJ:=aa oD;have HA:=aa hA;clear ho hQ hr oD kE;by_cases hd:A=j
  ·subst hd
   clear hB;have jq:Hid (rootN P i=A):=aa (by rw[<-HJ.out,<-HR.out A hj];exact ng HA.out)
   go_wp2_with fail
   go_ret
   exact⟨by rw[jq.out];rfl,HO.out,Q,HB.out,HQ.out,HR.out⟩
  ·have hd':((A:Int) != (j:Int))=true:=by simp;omega
   have hAn:A<n:=by omega
   obtain⟨b0,b1⟩:=HQ.out.le A hAn;obtain⟨C,hC⟩:∃ C:Nat,Q.getD A 0=C:=⟨(Q.getD A 0).toNat,by omega⟩;have hCA:C<=A:=by omega
   have hAj:A<j:=by have:=HA.out;omega
   have t2:=ab hB A;rw[fX _ _ (by omega),hC]at t2;have zq:=aE hB j;have HC:=aa hC
   have k8:(wr.drew.setCell ⟨B,j,none⟩ (.int .i64 C)).heap[B]?=some (.cells (bu (Q.set j C)) 3):=by
    rw[aF (W:=wr.drew) hB,lO]
   have t3:=ab k8 j;rw[fX _ _ (by simp;omega),fp _ _ _ _ _ (by omega),if_pos rfl]at t3;have hbx2:(wr.drew.setCell ⟨B,j,none⟩ (.int .i64 C)).heap[bx]?=_:=((HO.out.drew.setCell j (.int .i64 C)).same bx bJ).trans H1.out;have tx2:=ab hbx2 0;simp at tx2;have HS:=aa k8;clear k8 hbx2 hC hA hB
   go_wp2_with fail
   go_still_tail 10,(by kernel_rfl)
   change wpList _ _ _ _ _ wr.drew
   go_wp2_with fail
   go_roundw
   case rel=>
    have hh:=NA HQ.out j hj;rw[HA.out,Int.toNat_natCast,HC.out]at hh;refine⟨C,Q.set j C,rfl,by omega,HO.out.drew.setCell j _,HS.out,hh.1,fun x hx=>(hh.2 x hx).trans (HR.out x hx),?_⟩;have e1:=mE HQ.out j hj;have e2:=mE HQ.out A hAn;rw[HA.out,Int.toNat_natCast]at e1;rw[HC.out,Int.toNat_natCast]at e2;rw[<-HR.out C (by omega),e2,e1,HR.out j hj];exact HJ.out
   case measure=>simp[intOf];omega
theorem Uni.same{a b:List Int} {n:Nat} {P Q:List Int} (h:Uni a b n P) (hq:Par n Q) (hr:∀ j,j<n->rootN Q j=rootN P j):Uni a b n Q:=⟨hq,fun i hi=>by rw[hr i hi];exact h.wr i hi⟩
theorem Q4{a b l:List Int} {n m j p q:Nat} {P Q Q3:List Int} (hU:Uni a b n Q) (h3:Par n Q3) (hr:∀ i,i<n->rootN Q3 i=rootN Q i) (IL:jd n P Q) (hD:fq l n m Q) (hm:m<n) (hj:j<m) (e:l.getD j 0=l.getD m 0) (hjq:dy a b m j=true) (hp:rootN Q m=p) (hq:rootN Q j=q) :
  Uni a b n (Q3.set (max p q) (min p q:Nat))/\jd n P (Q3.set (max p q) (min p q:Nat))/\fq l n (m+1) (Q3.set (max p q) (min p q:Nat)):=by
 have hU3:=hU.same h3 hr;have hu:=hU3.union m j hm (by omega) hjq;have e1:rootN Q3 m=p:=(hr m hm).trans hp;have e2:rootN Q3 j=q:=(hr j (by omega)).trans hq;rw[e1,e2]at hu;have k1:jd n Q (Q3.set (max p q) (min p q:Nat)):=(JB hr).trans (JC hu.2);refine⟨hu.1,IL.trans k1,hD.join hm hj e k1 ?_⟩;rw[hu.2 m hm,hu.2 j (by omega),e1,e2];rcases Nat.le_total p q with h|h
 ·rw[Nat.max_eq_right h,Nat.min_eq_left h];split<;>simp
 ·rw[Nat.max_eq_left h,Nat.min_eq_right h];simp
theorem OC{a b:List Int} {qa qb:Option Addr} {n ca cb j:Nat} {w:World} {P:List Int} (hj:j<2) (ha:aT w (.slice qa n ca) a) (hb:aT w (.slice qb n cb) b) (yG:a.length=n) (iy:b.length=n) (h1:1<=j->fq a n n P) :
  ∃ (l:List Int) (ql:Option Addr) (cl:Nat),(#[Value.slice qa n ca,Value.slice qb n cb])[j]?=some (.slice ql n cl)/\aT w (.slice ql n cl) l/\l.length=n/\(∀ i k,l.getD i 0=l.getD k 0->dy a b i k=true)/\∀ Q,fq l n n Q->jd n P Q->(1<=j+1->fq a n n Q)/\(2<=j+1->fq b n n Q):=by
 by_cases e:j=0
 ·subst e
  exact⟨a,qa,ca,rfl,ha,yG,fun i k h=>by unfold dy;rw[decide_eq_true h];rfl,fun Q h _=>⟨fun _=>h,fun h'=>by omega⟩⟩
 ·obtain rfl:j=1:=by omega
  exact⟨b,qb,cb,rfl,hb,iy,fun i k h=>by unfold dy;rw[decide_eq_true h,Bool.or_true],fun Q h k=>⟨fun _=>(h1 (by omega)).keep k,fun _=>h⟩⟩
theorem OD(va vb:Value) (a b:List Int) (w:World) (ha:aT w va a) (hb:aT w vb b) (pa:lI a) (pb:lI b) (hl:b.length=a.length) (hn:a.length<=256) :
  Calls Tryz.prog 130 #[va,vb] w fun e w'=>∃ u,e=.returned (.tuple #[u,.int .i64 0])/\aT w' u (kx a b)/\Below w.heap.size w w':=by
 have HA:=aa ha;have HB:=aa hb;have PA:=aa pa;have PB:=aa pb;obtain⟨n,yG⟩:∃ n,a.length=n:=⟨_,rfl⟩;have iy:b.length=n:=hl.trans yG;obtain⟨qa,ca,rfl,_⟩:=ha.at;obtain⟨qb,cb,rfl,_⟩:=hb.at;have HC:=aa (OA _ _ a b w HA.out HB.out PA.out PB.out hl (by omega));have F':n<=256:=by omega
 rw[yG]at HA HC ⊢;rw[iy]at HB HC ⊢;clear ha hb hl pa pb hn;have HNA:=aa yG;have An:=aa iy;clear yG iy;obtain⟨f,hf⟩:∃ f:Nat->Int,f=fun i:Nat=>(i:Int):=⟨_,rfl⟩
 have IO:Hid (∀ i,f i=(i:Int)):=aa fun i=>by rw[hf]
 clear hf;have fO:=je f n F';have eg:=enters_of Tryz.func175 (by kernel_rfl) rfl
 go_enter Tryz.func130,Tryz.ntmps130
 go_wp2_with fail
 refine HC.out.mono ?_;rintro e w1 ⟨rfl,aI⟩
 go_wp2_with fail
 clear fO
 refine bm (fun W=>Below w.heap.size w W/\W.heap[w1.heap.size]?=some (.cells (fC n f 0) 3)/\W.heap[w1.heap.size+1]?=some (.cells #[.slice (some ⟨w1.heap.size,0,none⟩) n n] 38))
  ⟨ae aI (by go_grown),ap _ (am _ _),bd _ _ _⟩ (fun W0 aV=>?_)
 obtain⟨aH,gR,uJ⟩:=aV;have hBw:=aI.size;generalize w1.heap.size=B at gR uJ hBw;clear aI w1;have iz:=aa (And.intro aH (And.intro gR uJ));have tx0:=ab uJ 0;simp at tx0;clear aH gR uJ
 go_wp2_with fail
 clear tx0
 go_loopw [32] (fun i wr=>∃ k:Nat,k<=n/\i=.int .i64 k/\Below w.heap.size w wr/\wr.heap[B]?=some (.cells (fC n f k) 3)/\wr.heap[B+1]?=some (.cells #[.slice (some ⟨B,0,none⟩) n n] 38)) (fun i _=>n - (intOf i).toNat)
 case atStart=>exact⟨0,by omega,rfl,iz.out.1,iz.out.2.1,iz.out.2.2⟩
 case round=>
  clear iz;obtain⟨k,hk,rfl,ar,hO,hX⟩:=hrel;have tx:=ab hX 0;simp at tx;have eT:=aB hX;by_cases aA:k<n
  ·have tq:=ab hO k
   rw[lN _ _ _ _ aA]at tq;have zq:=aE hO k;have HO:=aa hO;have HX:=aa hX;have aP:=aa ar;clear hO hX ar
   go_wp2_with fail
   go_roundw
   case rel=>exact⟨k+1,by omega,by go_num,aP.out.setCell (by dsimp only;omega) _,by rw[aF HO.out,<-IO.out k,uu _ _ _ aA],aJ HX.out (by omega) _ _⟩
   case measure=>simp[intOf];omega
  obtain rfl:k=n:=by omega
  clear tx;have qF:=hO;rw[pK]at qF;have hU:=Uni.start a b k
  have HU:Hid (Uni a b k ((List.range k).map f)):=aa (by
   have e:(List.range k).map f=(List.range k).map fun i:Nat=>(i:Int):=List.map_congr_left fun i _=>IO.out i
   rw[e];exact hU)
  have HO:=aa qF;have HX:=aa hX;have aP:=aa ar;clear hO qF hX ar hU;have mA:=aP.out.size
  go_wp2_with fail
  refine bm (fun W=>Below w.heap.size w W/\W.heap[wr.heap.size]?=some (.cells #[.slice qa k ca,.slice qb k cb] 38)/\W.heap[B+1]?=some (.cells #[.slice (some ⟨B,0,none⟩) k k] 38)/\W.heap[B]?=some (.cells (bu ((List.range k).map f)) 3)) ⟨aP.out.alloc mA _,am _ _,ap _ HX.out,ap _ HO.out⟩ (fun W1 cD=>?_);have hLB:=eT;generalize wr.heap.size=L at cD mA hLB;have gr:=aa cD;clear cD HO HX aP eT wr W0
  go_loopw [45] (fun i wr=>∃ (j:Nat) (P:List Int),j<=2/\i=.int .i64 j/\Below w.heap.size w wr/\wr.heap[L]?=some (.cells #[.slice qa k ca,.slice qb k cb] 38)/\wr.heap[B+1]?=some (.cells #[.slice (some ⟨B,0,none⟩) k k] 38)/\wr.heap[B]?=some (.cells (bu P) 3)/\Uni a b k P/\(1<=j->fq a k k P)/\(2<=j->fq b k k P)) (fun i _=>2 - (intOf i).toNat)
  case atStart=>exact⟨0,_,by omega,rfl,gr.out.1,gr.out.2.1,gr.out.2.2.1,gr.out.2.2.2,HU.out,fun h=>by omega,fun h=>by omega⟩
  case round=>
   clear gr HU;obtain⟨j,P,hj,rfl,ar,hL,hX,hO,hU,Tn,E3⟩:=hrel;by_cases aA:j<2
   ·obtain⟨l,ql,cl,sF,yE,E9,hp4,Jf⟩:=OC aA HA.out HB.out HNA.out An.out Tn
    have tL:=ab hL j;rw[sF]at tL;have C7:=@F7 Tryz.prog;have HP2:=aa yE;have Wy:=aa E9;have HP4:=aa hp4;have HP5:=aa Jf;have HL:=aa hL;have HX:=aa hX;have HO:=aa hO;have HU:=aa hU;have aP:=aa ar;have M5:=aB hL;have DZ:=ar.size;clear sF yE E9 hp4 Jf hL hX hO hU ar Tn E3
    go_wp2_with fail
    clear C7 tL;obtain⟨key,my⟩:∃ key:Nat->Int,key=fun i=>l.getD i 0:=⟨_,rfl⟩
    have HK:Hid (∀ i,key i=l.getD i 0):=aa fun i=>by rw[my]
    clear my;refine bm (fun W=>Below w.heap.size w W/\W.heap[L]?=some (.cells #[.slice qa k ca,.slice qb k cb] 38)/\W.heap[B+1]?=some (.cells #[.slice (some ⟨B,0,none⟩) k k] 38)/\W.heap[B]?=some (.cells (bu P) 3)/\db W wr.heap.size (dq key f 0) 0) ⟨aP.out.alloc DZ _,ap _ HL.out,ap _ HX.out,ap _ HO.out,db.new wr⟩ (fun W2 eK=>?_);have hML:=M5;generalize wr.heap.size=M at eK hML DZ;have cH:=aa eK;clear eK HL HX HO aP M5 wr;have hd:decide ((j:Int)<2)=true:=decide_eq_true (by omega);simp only[hd];clear hd
    go_loopw [52] (fun i wr=>∃ (m:Nat) (Q:List Int),m<=k/\i=.int .i64 m/\Below w.heap.size w wr/\wr.heap[L]?=some (.cells #[.slice qa k ca,.slice qb k cb] 38)/\wr.heap[B+1]?=some (.cells #[.slice (some ⟨B,0,none⟩) k k] 38)/\wr.heap[B]?=some (.cells (bu Q) 3)/\Uni a b k Q/\jd k P Q/\fq l k m Q/\∃ c,db wr M (dq key f m) c) (fun i _=>k - (intOf i).toNat)
    case atStart=>exact⟨0,P,by omega,rfl,cH.out.1,cH.out.2.1,cH.out.2.2.1,cH.out.2.2.2.1,HU.out,jd.refl _ _,fun i _ _ _ h=>by omega,0,cH.out.2.2.2.2⟩
    case round=>
     clear cH;obtain⟨m,Q,hm,rfl,ar,hL,hX,hO,Tl,IL,Pe,c,hM⟩:=hrel;have HL:=aa hL;have HX:=aa hX;have HO:=aa hO;have Xc:=aa Tl;have aP:=aa ar;have HPQ:=aa IL;have HDQ:=aa Pe;have hszM:=hM.lt;have hszr2:=ar.size;by_cases fO:m<k
     ·have lS:m<l.length:=by have:=Wy.out;omega
      obtain⟨ql',cl',e',_,_,ep⟩:=HP2.out.at;injection e' with e1 e2 e3
      subst e1;clear e2 e3;obtain⟨b1,o1,rfl,h1⟩:=ep m lS;rw[Nat.mul_one]at h1;have c1:=ak ar h1.1;have nF:key m=l[m]:=(HK.out m).trans (az 0 lS);clear h1 ep;generalize l[m]=x at c1 nF;clear lS;have yk:=DF (mt:=245) (kt:=3) (vt:=3) Tryz.underlying245 Tryz.underlying3 (fun w=>by kernel_rfl) hM x;have mM:=aa nF;have HM:=aa hM;cases hs:dq key f m x with
      | none=>
       rw[hs]at yk;obtain⟨o,KI,rm⟩:=uD (mt:=245) (kt:=3) (vt:=3) Tryz.underlying245 Tryz.underlying3 hM x (m:Int);have wG:=aa rm
       have Bg:Hid (∀ y,dq key f (m+1) y=if y=x then some (m:Int) else dq key f m y):=aa (by
        have:=xo (key:=key) (f:=f) (k:=m) (by rw[nF];exact hs);rw[nF,IO.out m]at this
        exact this)
       have vg:Hid (∀ k,k<m->l.getD k 0≠l.getD m 0):=aa (fun k hk=>by
        have:=Bt.1 hs k hk;rw[HK.out k]at this
        rw[<-HK.out m,nF];exact this)
       clear rm hM hL hX hO Tl IL Pe hs nF ar
       go_wp2_with fail
       go_roundw
       case rel=>exact⟨m+1,Q,by omega,by go_num,eH (by omega) aP.out,(World.putObj_heap_other (by omega)).trans HL.out,(World.putObj_heap_other (by omega)).trans HX.out,(World.putObj_heap_other (by omega)).trans HO.out,Xc.out,HPQ.out,HDQ.out.fresh vg.out,_,wG.out.congr (fun y=>(Bg.out y).symm) rfl⟩
       case measure=>simp[intOf];omega
      | some z=>
       rw[hs]at yk;have yq:Hid (∀ y,dq key f (m+1) y=dq key f m y):=aa (xp (z:=z) (by rw[nF];exact hs));obtain⟨i,hi,_,e2,e3⟩:=qM hs;rw[IO.out i]at e3;subst e3;have HE:Hid (l.getD i 0=l.getD m 0):=aa (by rw[<-HK.out i,<-HK.out m,e2,nF]);have kl:i<k:=by omega
       clear hM hL hX hO Tl IL Pe hs nF ar e2
       go_wp2_with fail
       refine(xL k (B+1) B Q Xc.out.par m fO wr (by omega) HX.out HO.out).mono ?_;rintro e w2 ⟨rfl,rD,Q2,qF,CN,KX⟩;have eE:=aa rD;have lA:=aa qF;have Mt:=aa CN;have dN:=aa KX;clear rD qF CN KX;obtain⟨p,hp⟩:∃ p,rootN Q m=p:=⟨_,rfl⟩;rw[hp];have td:p<k:=by rw[<-hp];exact rb fO
       have HP:=aa hp;clear hp yk
       go_wp2_with fail
       refine(xL k (B+1) B Q2 Mt.out i kl w2 (by omega) ((eE.out.same _ (by omega)).trans HX.out) lA.out).mono ?_;rintro e w3 ⟨rfl,ho3,Q3,sM,MQ,KO⟩;obtain⟨q,hq⟩:∃ q,rootN Q2 i=q:=⟨_,rfl⟩;rw[hq];have Au:q<k:=by rw[<-hq];exact rb kl
       have ho:=eE.out.trans ho3;have dD:=fun e=>Q4 (l:=l) (m:=m) (j:=i) Xc.out MQ (fun x hx=>(KO x hx).trans (dN.out x hx)) HPQ.out HDQ.out fO hi e (HP4.out m i HE.out.symm) HP.out ((dN.out i kl).symm.trans hq)
       have eV:=aa (dD HE.out);have vf:=aa (And.intro ((ho.same _ (by omega)).trans HL.out) (And.intro ((ho.same _ (by omega)).trans HX.out) (HM.out.kept (ho.same M (by omega)))));have eo:=aa (ho.below aP.out (by omega));have x':=aa sM;have sI:=MQ.len;have tx:=ab vf.out.2.1 0;simp at tx;have Wd:=aa sI;clear ho3 sM MQ KO hq ho dD sI
       have Mx:∀ ou lo:Nat,ou=max p q->lo=min p q->∃ (m':Nat) (Q':List Int),m'<=k/\Value.int .i64 ((m:Int)+1)=.int .i64 m'/\Below w.heap.size w (w3.setCell ⟨B,ou,none⟩ (.int .i64 lo))/\(w3.setCell ⟨B,ou,none⟩ (.int .i64 lo)).heap[L]?=some (.cells #[.slice qa k ca,.slice qb k cb] 38)/\(w3.setCell ⟨B,ou,none⟩ (.int .i64 lo)).heap[B+1]?=some (.cells #[.slice (some ⟨B,0,none⟩) k k] 38)/\(w3.setCell ⟨B,ou,none⟩ (.int .i64 lo)).heap[B]?=some (.cells (bu Q') 3)/\Uni a b k Q'/\jd k P Q'/\fq l k m' Q'/\∃ c,db (w3.setCell ⟨B,ou,none⟩ (.int .i64 lo)) M (dq key f m') c:=by
        rintro ou lo rfl rfl;exact⟨m+1,_,by omega,by go_num,eo.out.setCell (by dsimp only;omega) _,aJ vf.out.1 (by omega) _ _,aJ vf.out.2.1 (by omega) _ _,by rw[aF x'.out,lO],eV.out.1,eV.out.2.1,eV.out.2.2,c,(vf.out.2.2.kept (Below.heap_setCell _ _ _ _ (by dsimp only;omega))).congr (fun y=>(yq.out y).symm) rfl⟩
       have jq:=aa Mx;clear Mx;rcases Nat.lt_trichotomy p q with KR|KR|KR
       ·have tq:=ab x'.out q
        rw[fX _ _ (by have:=Wd.out;omega)]at tq;have zq:=aE x'.out q;have hpq':¬ (q:Int)<p:=by omega
        have hmx:max (p:Int) (q:Int)=(q:Int):=Int.max_eq_right (by omega)
        have hmn:min (p:Int) (q:Int)=(p:Int):=Int.min_eq_left (by omega)
        go_wp2_with fail
        go_roundw
        case rel=>exact jq.out q p (by omega) (by omega)
        case measure=>simp[intOf];omega
       ·subst KR
        have tq:=ab x'.out p;rw[fX _ _ (by have:=Wd.out;omega)]at tq;have zq:=aE x'.out p
        go_wp2_with fail
        go_roundw
        case rel=>exact jq.out p p (by omega) (by omega)
        case measure=>simp[intOf];omega
       ·have tq:=ab x'.out p
        rw[fX _ _ (by have:=Wd.out;omega)]at tq;have zq:=aE x'.out p;have hpq':¬ (p:Int)<q:=by omega
        have hmx:max (p:Int) (q:Int)=(p:Int):=Int.max_eq_left (by omega)
        have hmn:min (p:Int) (q:Int)=(q:Int):=Int.min_eq_right (by omega)
        go_wp2_with fail
        go_roundw
        case rel=>exact jq.out p q (by omega) (by omega)
        case measure=>simp[intOf];omega
     ·obtain rfl:m=k:=by omega
      clear hM
      go_wp2_with fail
      go_roundw
      case rel=>exact⟨j+1,Q,by omega,by go_num,ar,hL,hX,hO,Tl,(HP5.out Q Pe IL).1,(HP5.out Q Pe IL).2⟩
      case measure=>simp[intOf];omega
   ·obtain rfl:j=2:=by omega
    have HX:=aa hX;have HO:=aa hO;have HU:=aa hU;have aP:=aa ar;have yt:=aa (Tn (by omega));have VA:=aa (E3 (by omega));have M5:=aB hL;have DZ:=ar.size;clear hL hX hO hU ar Tn E3;obtain⟨f2,sT⟩:∃ f2:Nat->Int,f2=fun i:Nat=>(rootN P i:Int):=⟨_,rfl⟩
    have wP:Hid (∀ i,f2 i=(rootN P i:Int)):=aa fun i=>by rw[sT]
    have HJ:Hid (kO ((List.range k).map f2)=kx a b):=aa (by rw[sT];exact Qp HNA.out HU.out yt.out VA.out);clear sT;have fO:=je f2 k F'
    go_wp2_with fail
    clear fO;refine bm (fun W=>Below w.heap.size w W/\W.heap[B+1]?=some (.cells #[.slice (some ⟨B,0,none⟩) k k] 38)/\W.heap[B]?=some (.cells (bu P) 3)/\W.heap[wr.heap.size]?=some (.cells (fC k f2 0) 3)) ⟨aP.out.alloc DZ _,ap _ HX.out,ap _ HO.out,am _ _⟩ (fun W2 eK=>?_);generalize wr.heap.size=R at eK M5 DZ;have cH:=aa eK;clear eK HX HO aP wr
    go_loopw [88] (fun i wr=>∃ (m:Nat) (Q:List Int),m<=k/\i=.int .i64 m/\Below w.heap.size w wr/\wr.heap[B+1]?=some (.cells #[.slice (some ⟨B,0,none⟩) k k] 38)/\wr.heap[B]?=some (.cells (bu Q) 3)/\Par k Q/\(∀ i,i<k->rootN Q i=rootN P i)/\wr.heap[R]?=some (.cells (fC k f2 m) 3)) (fun i _=>k - (intOf i).toNat)
    case atStart=>exact⟨0,P,by omega,rfl,cH.out.1,cH.out.2.1,cH.out.2.2.1,HU.out.par,fun _ _=>rfl,cH.out.2.2.2⟩
    case round=>
     clear cH;obtain⟨m,Q,hm,rfl,ar,hX,hO,hQ,hr,hR⟩:=hrel;by_cases fO:m<k
     ·have HR:=aa hR;have HX:=aa hX;have HO:=aa hO;have aP:=aa ar;have wN:=aa hr
      have HRT:Hid (rootN Q m=rootN P m):=aa (hr m fO);have hc:=xL k (B+1) B Q hQ m fO wr (by omega) hX hO;rw[HRT.out]at hc;have HC:=aa hc;have HV:=aa (wP.out m);clear hR hX hO ar hr hQ hc;generalize rootN P m=p at HC HV HRT
      go_wp2_with fail
      refine HC.out.mono ?_;rintro e w2 ⟨rfl,rD,Q2,qF,CN,KX⟩;have cL:=aa (rD.below aP.out (by omega));have fF:=aa ((rD.same _ (by omega)).trans HX.out);have l3:=(rD.same R (by omega)).trans HR.out;have dN:=aa l3;have tq:=ab l3 m;rw[lN _ _ _ _ fO]at tq;have zq:=aE l3 m;have eE:=aa qF;have Mt:=aa CN;have Lc:=aa KX;clear rD qF CN KX l3
      go_wp2_with fail
      go_roundw
      case rel=>(repeat apply Exists.intro);refine⟨?_,rfl⟩;exact⟨m+1,Q2,by omega,by go_num,cL.out.setCell (by dsimp only;omega) _,aJ fF.out (by omega) _ _,aJ eE.out (by omega) _ _,Mt.out,fun i hi=>(Lc.out i hi).trans (wN.out i hi),by rw[aF dN.out,<-uu _ _ _ fO,HV.out]⟩
      case measure=>simp[intOf];omega
     ·obtain rfl:m=k:=by omega
      rw[pK]at hR
      have HRI:Hid (aT wr (.slice (some ⟨R,0,none⟩) m m) ((List.range m).map f2)):=aa (rf (by simp) F' hR fun i hi=>by
       rw[show ((List.range m).map f2).getD i 0=f2 i by simp at hi;simp[hi],wP.out];have:=Gw P i;simp at hi
       exact⟨by omega,by omega⟩)
      have aP:=aa ar;clear hR hX hO hQ hr ar
      go_wp2_with fail
      refine(JQ _ _ wr HRI.out (by simpa using F')).mono ?_;rintro e w2 ⟨u,rfl,hu,aU⟩;rw[HJ.out]at hu;have qE:=aa hu;obtain⟨_,_,rfl,_⟩:=hu.at;clear hu
      go_wp2_with fail
      go_ret2
      exact⟨_,rfl,qE.out,ae aP.out aU⟩
theorem Ey{w:World} {B:Nat} {cs:Array Value} {t:TypeId} {fz:Nat × Nat} (h:w.heap[B]?=some (.cells cs t fz)) (o:Nat) (hf:¬ (fz.1<=o/\o<fz.2)):w.frozen? ⟨B,o,none⟩=false:=by
 simp[World.frozen?,h];simpa using hf
def kR(n:Nat) (f r:Nat->Int) (q:Nat):List Value:=(List.range n).map fun j=>Value.int .i64 (if j<q then f j else r j)
theorem Hf(n:Nat) (f r:Nat->Int) (q:Nat):(kR n f r q).length=n:=by simp[kR]
theorem Q5(n:Nat) (f r:Nat->Int) (q:Nat):(kR n f r q).set q (.int .i64 (f q))=kR n f r (q+1):=by
 refine List.ext_getElem (by simp[kR]) fun i h1 h2=>?_
 rw[List.getElem_set];simp only[kR,List.getElem_map,List.getElem_range];by_cases e:q=i
 ·subst e;rw[if_pos rfl,if_pos (by omega)]
 ·rw[if_neg e]
  by_cases h:i<q
  ·rw[if_pos h,if_pos (by omega)]
  ·rw[if_neg h,if_neg (by omega)]
theorem Ez(n:Nat) (f r:Nat->Int) (q:Nat) (h:f q=r q):kR n f r (q+1)=kR n f r q:=by
 unfold kR;refine List.map_congr_left fun j _=>?_
 by_cases e:j=q
 ·subst e;rw[if_pos (by omega),if_neg (by omega),h]
 ·by_cases h:j<q
  ·rw[if_pos (by omega),if_pos h]
  ·rw[if_neg (by omega),if_neg h]
theorem Vb(p:Nat):hasB 0 p=false:=by simp[hasB]
theorem List.set_take'{α:Type} (l:List α) (i n:Nat) (a:α):(l.take n).set i a=(l.set i a).take n:=by rw[List.take_set]
theorem Uv{s:Sys} (h:SysOk s):∀ x∈rc s,∀ y∈x,bM y:=fun x hx y hy=>by
 obtain⟨e,he,rfl⟩:=List.mem_map.1 hx;obtain⟨p,hp,rfl⟩:=List.mem_map.1 hy;have h1:=lq h (List.mem_range.1 he) (List.mem_range.1 hp);have h2:=h.tab;split
 ·exact⟨by omega,by omega⟩
 ·exact⟨by omega,by omega⟩
theorem Q6{w:World} {pr:Option Addr} {n cr:Nat} {l:List Int} (h:aT w (.slice pr n cr) l) (hl:l.length=n):mu w 1 (.slice pr n cr) n (l.map (Value.int .i64)):=by
 obtain⟨a,cap,e,⟨h1,h2,h3⟩,h4,h5⟩:=h;injection e with e1 e2 e3
 subst e1 e3;refine⟨pr,cr,rfl,fun e=>⟨by have:=h3 e;omega,h3 e⟩,by simp[hl],fun j u hj=>?_,fun u hu=>by obtain⟨x,_,rfl⟩:=List.mem_map.1 hu;rfl⟩;rw[List.getElem?_map]at hj;cases hx:l[j]? with
 | none=>rw[hx]at hj;cases hj
 | some x=>
  rw[hx]at hj;obtain⟨b,o,e,h6,_⟩:=h5 j x hx;rw[Nat.mul_one]at h6;exact⟨b,o,e,by rw[h6];exact hj⟩
theorem aG.block{w:World} {base n:Nat} {e:TypeId} {v:Value} {xs:List Value} (h:aG w base e 1 v n xs) (hn:0<n):∃ g cap cur fz,v=.slice (some ⟨g,0,none⟩) n cap/\base<=g/\w.heap[g]?=some (.cells cur e fz)/\(∀ i,i<cur.size->¬ (fz.1<=i/\i<fz.2))/\n<=cap/\cap<=maxLen/\cur.size=cap/\cur.toList.take n=xs/\v.ownBlock=some g:=by
 rcases h.2 with ⟨_,h0⟩|⟨g,cap,cur,fz,rfl,h1,h2,h3,h4,h5,h6,h7⟩
 ·omega
 ·exact⟨g,cap,cur,fz,rfl,h1,h2,h3,h4,h5,by omega,by rw[Nat.mul_one]at h7;exact h7,rfl⟩
theorem it{w:World} {s:Sys} (hs:SysOk s) {ve:Value} (h:y8 w ve s.ex) {k:Nat} (hk:k<eS s):∃ b o pe ce,ve=.slice (some ⟨b,o,none⟩) (eS s) ce/\pe=some (⟨b,o,none⟩:Addr)/\∃ pw nw cw pv cv,w.cell? ⟨b,o+k * 3,none⟩=some (.int .i64 (cA s k).c)/\w.cell? ⟨b,o+k * 3+1,none⟩=some (.slice pw nw cw)/\w.cell? ⟨b,o+k * 3+2,none⟩=some (.slice pv (s.prob.rounds.toNat+1) cv)/\nw=s.prob.rounds.toNat ∧
  (0<nw->∃ b1 o1,pw=some ⟨b1,o1,none⟩/\w.cell? ⟨b1,o1+(nw - 1) * 7+6,none⟩=some (.int .i64 (fltS s k)))/\(nw=0->fltS s k=0) ∧
  ∃ b2 o2 pr cr,pv=some ⟨b2,o2,none⟩/\w.cell? ⟨b2,o2+s.prob.rounds.toNat,none⟩=some (.slice pr (nS s) cr)/\aT w (.slice pr (nS s) cr) ((List.range (nS s)).map (finS s k)):=by
 obtain⟨a,ce,e0,_,_,ep⟩:=h.at;obtain⟨b,o,rfl,⟨c1,_⟩,⟨uw,c2,h2⟩,⟨uv,c3,h3⟩⟩:=ep k hk;have hx:s.ex[k]=cA s k:=by unfold cA;exact(az default hk).symm
 rw[hx]at c1 h2 h3;have IU:=hs.word k hk;obtain⟨wR,IP⟩:=hs.views k hk;obtain⟨pw,cw,rfl,_,_,ew⟩:=h2.at;obtain⟨pv,cv,rfl,_,_,ev⟩:=h3.at;obtain⟨b2,o2,e2,vr,cr',hr⟩:=ev s.prob.rounds.toNat (by omega);rw[Nat.mul_one]at cr'
 have bW:(cA s k).views[s.prob.rounds.toNat]'(by omega)=(List.range (nS s)).map (finS s k):=by
  have cG:=(IP _ (List.getElem_mem (l:=(cA s k).views) (show s.prob.rounds.toNat<(cA s k).views.length by omega))).1;refine List.ext_getElem (by simp[cG]) fun i h1 h2=>?_
  simp only[List.getElem_map,List.getElem_range];unfold finS;rw[az [] (show s.prob.rounds.toNat<(cA s k).views.length by omega),az 0 h1]
 rw[bW]at hr;obtain⟨pr,cr,rfl,_⟩:=hr.at;rw[show ((List.range (nS s)).map (finS s k)).length=nS s by simp]at cr' hr;refine⟨b,o,_,ce,e0,rfl,pw,_,cw,pv,cv,c1,c2,by rw[wR]at c3;exact c3,IU,fun h0=>?_,fun h0=>?_,b2,o2,pr,cr,e2,cr',hr⟩
 ·obtain⟨b1,o1,e1,_,_,_,_,_,_,c6,_⟩:=ew ((cA s k).word.length - 1) (by omega)
  refine⟨b1,o1,e1,?_⟩;rw[c6];unfold fltS yZ;rw[if_neg (by omega),az default (show (cA s k).word.length - 1<(cA s k).word.length by omega)]
 ·unfold fltS yZ
  rw[if_pos h0]
def gH(w:World) (base B:Nat) (s:Sys):Prop:=base<=B/\∃ vl,w.heap[B]?=some (.cells #[.int .i64 (nS s),vl] 201)/\cI w base vl (rc s)
theorem gH.at{w:World} {base B:Nat} {s:Sys} (h:gH w base B s) (hs:SysOk s):FinAt w B s:=by
 obtain⟨_,vl,h1,h2⟩:=h;exact⟨vl,h1,nm h2 (Uv hs) (by rw[AU];have:=hs.count;omega) (fun x hx=>by obtain⟨e,_,rfl⟩:=List.mem_map.1 hx;rw[lp];have:=hs.n.2.1;omega)⟩
theorem aG.keepB{w V:World} {base k n:Nat} {e:TypeId} {v:Value} {xs:List Value} (h:aG w base e k v n xs) (hk:∀ g,base<=g->g<w.heap.size->V.heap[g]?=w.heap[g]?):aG V base e k v n xs:=by
 obtain⟨hl,h⟩:=h;refine⟨hl,?_⟩;rcases h with h|⟨g,cap,cur,fz,h1,h2,h3,h4⟩
 ·exact .inl h
 ·exact .inr ⟨g,cap,cur,fz,h1,h2,(hk g h2 (aB h3)).trans h3,h4⟩
theorem aG.baseB{w:World} {base b k n:Nat} {e:TypeId} {v:Value} {xs:List Value} (h:aG w base e k v n xs) (hb:b<=base):aG w b e k v n xs:=by
 obtain⟨hl,h⟩:=h;refine⟨hl,?_⟩;rcases h with h|⟨g,cap,cur,fz,h1,h2,h3,h4⟩
 ·exact .inl h
 ·exact .inr ⟨g,cap,cur,fz,h1,Nat.le_trans hb h2,h3,h4⟩
theorem gH.keep{w V:World} {base B:Nat} {s:Sys} (h:gH w base B s) (hk:∀ g,base<=g->g<w.heap.size->V.heap[g]?=w.heap[g]?):gH V base B s:=by
 obtain⟨h0,vl,h1,xs,h2,h3⟩:=h;exact⟨h0,vl,(hk B h0 (aB h1)).trans h1,xs,h2.keepB hk,fun i hi=>by obtain⟨x,q1,q2⟩:=h3 i hi;exact⟨x,q1,q2.keepB hk⟩⟩
theorem gH.mono{w:World} {base b B:Nat} {s:Sys} (h:gH w base B s) (hb:b<=base):gH w b B s:=by
 obtain⟨h0,vl,h1,xs,h2,h3⟩:=h;exact⟨Nat.le_trans hb h0,vl,h1,xs,h2.baseB hb,fun i hi=>by obtain⟨x,q1,q2⟩:=h3 i hi;exact⟨x,q1,q2.baseB hb⟩⟩
theorem gH.up{w V:World} {base B:Nat} {s:Sys} (h:gH w base B s) (hb:Below w.heap.size w V):gH V base B s:=h.keep fun g _ hg=>hb.block g hg
theorem DG(s:Sys) (vc vs vt ve:Value) (w:World) (hs:IsSys w s vc vs vt ve) (hN:movesN s.prob.a.states<1099511627776) :
  Calls Tryz.prog 128 #[.agg (bT s.prob vc vs s.n vt ve)] w fun e w'=>∃ v,e=.returned (.tuple #[v,.int .i64 (verifyE s)])/\Below w.heap.size w w'/\(verifyE s≠0->v=.pointer none)/\(verifyE s=0->∃ B,v=.pointer (some ⟨B,0,none⟩)/\FinAt w' B s/\gH w' w.heap.size B s):=by
 have HS:=aa hs;obtain⟨⟨pc,cc,rfl⟩,⟨ps,cs,rfl⟩,⟨pt,ct,rfl⟩,⟨pe,ce,rfl⟩⟩:=bE hs;clear hs;have HC:=aa (fun W (hb:Below w.heap.size w W)=>oW s _ _ _ _ W (HS.out.up hb) hN);obtain⟨i0,cU,cg,bV,cj⟩:=info_parts Tryz.infoInt;obtain⟨j0,nZ,iR,jk,iv⟩:=info_parts Tryz.infoInts
 go_enter Tryz.func128,Tryz.ntmps128
 go_wp2_with fail
 refine aN (fun W=>Below w.heap.size w W/\∃ c,W.heap[w.heap.size]?=some (.cells c 35)/\c=bT s.prob _ _ s.n _ _) ⟨by go_grown,_,am _ _,rfl⟩ (fun W0 aV=>?_);obtain⟨aH,_,hA,rfl⟩:=aV;refine(HC.out W0 aH).mono ?_;rintro e w1 ⟨rfl,aI⟩;have cQ:=ae aH aI;have dZ:=af aI hA;have tS:=ab dZ;have du:=aa dZ;have eD:=aa cQ;have fP:=cQ.size;have iI:=aB dZ;clear hA dZ aH aI HC cQ;by_cases hv:verifyE s=0
 case neg=>
  have HV:=aa hv;obtain⟨ev,lT⟩:∃ ev,verifyE s=ev:=⟨_,rfl⟩;rw[lT]at hv ⊢;have HE:=aa lT;have IV:(ev != 0)=true:=by simpa using hv
  clear hv lT
  go_wp2_with fail
  go_ret2
  exact⟨_,by rw[HE.out];rfl,eD.out,fun _=>rfl,fun h=>absurd h HV.out⟩
 have CR:=aa hv;have gg:=jc hv;have dB:=aa gg;rw[hv];clear hv;have fg:=gg.n;have E0:=aa (HS.out.ex);have HK:Hid (∀ k,k<eS s->_):=aa (fun k (hk:k<eS s)=>it gg E0.out hk);have jF:s.ex.length=eS s:=rfl;rw[jF]at tS HK du;clear jF;obtain⟨n,hn⟩:∃ n,nS s=n:=⟨_,rfl⟩;obtain⟨m,hm⟩:∃ m,eS s=m:=⟨_,rfl⟩;have Fp:s.prob.t.n=(n:Int):=by omega
 have hm4:m<=4096:=by have:=gg.count;omega
 have ji:1<=n/\n<=5:=by omega
 have pR:=gg.rounds;obtain⟨r,hr⟩:∃ r,s.prob.rounds.toNat=r:=⟨_,rfl⟩;have Vv:r<=6:=by omega
 have Id:=aa gg.flt;rw[hn,hm,hr]at HK;rw[hm]at tS du Id;have t0:w1.cell? ⟨w.heap.size,0,none⟩=some (.int .i64 n):=by rw[tS 0,<-Fp];rfl
 have t9:∀ o,(w1.alloc o).cell? ⟨w.heap.size,9,none⟩=some (.slice pe m ce):=fun o=>(ab (ap o du.out) 9).trans rfl
 clear tS
 go_wp2_with fail
 clear t0 t9;refine bm (fun W=>Below w.heap.size w W/\W.heap[w1.heap.size]?=some (.cells #[.int .i64 n,.slice none 0 0] 201)) ⟨eD.out.alloc fP _,am _ _⟩ (fun W2 eK=>?_);generalize w1.heap.size=B at eK fP iI;have cH:=aa eK;clear eK eD du;obtain⟨L,hL⟩:∃ L:Nat->List (List Int),L=fun k=>(List.range k).map (fe s):=⟨_,rfl⟩
 have HL:Hid (L 0=[]/\(∀ k,L (k+1)=L k++[fe s k])/\L m=rc s/\∀ k,(L k).length=k):=aa (by
  subst hL;refine⟨rfl,fun k=>by simp[List.range_succ],?_,fun k=>by simp⟩
  unfold rc;rw[hm])
 clear hL;have mV:=aa hn;have HMM:=aa hm;clear hn hm gg fg hr pR Fp
 go_loopw [26] (fun i wr=>∃ k:Nat,k<=m/\i=.int .i64 k/\Below w.heap.size w wr/\∃ lv,wr.heap[B]?=some (.cells #[.int .i64 n,lv] 201)/\cI wr w.heap.size lv (L k)) (fun i _=>m - (intOf i).toNat)
 case atStart=>exact⟨0,by omega,rfl,cH.out.1,_,cH.out.2,by rw[HL.out.1];exact bX.nil _ _⟩
 case round=>
  clear cH;obtain⟨k,hk,rfl,ar,lv,hB,xs,aX,jF⟩:=hrel;obtain⟨al,cl,rfl⟩:=aX.slice;have HB:=aa hB;have bI:=aa aX;have Co:=aa jF;have aP:=aa ar;have uO:=aB hB;have AE:=ar.size;clear aX jF;by_cases aA:k<m
  ·obtain⟨b,o,_,ce',e0,rfl,pw,nw,cw,pv,cv,c1,c2,c3,lP,eF,gI,b2,o2,pr,cr,e2,c4,bW⟩:=HK.out k aA
   injection e0 with e0 e8 e9
   clear e8 e9;subst e0 e2 lP;have d1:=ak ar c1;have d2:=ak ar c2;have d3:=ak ar c3;have hA:Below wr.heap.size wr (wr.alloc (.cells #[.int .i64 (cA s k).c,.slice pw nw cw,.slice (some ⟨b2,o2,none⟩) (nw+1) cv] 89)):=by go_grown
   have Wj:=ae ar hA;have d4:=ak Wj c4;have jZ:=aa (bW.up up_int Wj);have xZ:=Id.out k aA;obtain⟨fl,RP⟩:∃ fl,fltS s k=fl:=⟨_,rfl⟩;rw[RP]at eF gI xZ;have Il:=aa RP
   have R0:Hid (mu (wr.alloc (.cells #[.int .i64 (cA s k).c,.slice pw nw cw,.slice (some ⟨b2,o2,none⟩) (nw+1) cv] 89)) 1 (.slice pr n cr) n ((List.range n).map fun j=>Value.int .i64 (finS s k j))):=aa (by
    have h:=Q6 jZ.out (by simp);rw[List.map_map]at h
    exact h)
   have V4:wr.heap.size<(wr.alloc (.cells #[.int .i64 (cA s k).c,.slice pw nw cw,.slice (some ⟨b2,o2,none⟩) (nw+1) cv] 89)).heap.size:=by simp
   have VP:=aa hA;have jP:0<n:=by omega
   have tX:=ab (am wr (.cells #[.int .i64 (cA s k).c,.slice pw nw cw,.slice (some ⟨b2,o2,none⟩) (nw+1) cv] 89));clear c1 c2 c3 c4 bW hA RP hB ar;by_cases hw:nw=0
   ·obtain rfl:=gI hw
    subst hw;simp only[Nat.zero_add,Nat.add_zero]at d3 d4 tX V4 R0 VP
    go_wp2_with (at_builtin;(refine kA _ rfl (.const (.slice none 0 0)) (.tmp 49) 38 rfl wr.heap.size 3 i0 _ 1 8 Tryz.underlying38 cU cg bV cj rfl (by decide) (.slice none 0 0) 0 [] rfl (aG.nil _ _ _ _) _ n ((List.range n).map fun j=>Value.int .i64 (finS s k j)) rfl R0.out (by unfold maxLen;omega) (by omega) (by simp) ?_;intro v2 w2 fD dg _;rw[Nat.zero_add,List.nil_append]at fD;have cL:=aa (Below.grown VP.out dg (Nat.le_of_lt V4) (fun g h=>by cases h));obtain⟨g,cap,cur,fz,kI,hg,mS,mU,jO,p7,jt,mO,_⟩:=fD.block jP;subst kI;have HG:=aa (And.intro mS (And.intro mU (And.intro jt mO)));clear fD dg mS mU jt mO))
    clear tX;obtain⟨wrA,A7⟩:∃ x,x=wr:=⟨_,rfl⟩;subst A7;have hgw:=aB HG.out.1
    go_loopw [53] (fun i wi=>∃ (p:Nat) (cu:Array Value),p<=n/\i=.int .i64 p/\Only g w2 wi/\wi.heap[g]?=some (.cells cu 3 fz)/\cu.size=cap/\cu.toList.take n=kR n (fun p=>if hasB (fltS s k) p then -1 else finS s k p) (finS s k) p) (fun i _=>n - (intOf i).toNat)
    case atStart=>exact⟨0,cur,by omega,rfl,Only.refl _ _,HG.out.1,HG.out.2.2.1,by rw[HG.out.2.2.2];simp[kR]⟩
    case round=>
     obtain⟨p,cu,hp,rfl,ho,rq,TE,CT⟩:=hrel;by_cases Fp:p<n
     ·have HO:=aa ho;have Tm:=aa rq;have nH:=aa CT
      have tq:=ab rq p;rw[Array.getElem?_eq_getElem (show p<cu.size by omega)]at tq;have zq:=Ey rq p (HG.out.2.1 p (by have:=HG.out.2.2.1;omega));clear ho rq CT;have HS:Hid ((if hasB (fltS s k) p then -1 else finS s k p)=finS s k p):=aa (by rw[Il.out,Vb];rfl);clear tq zq
      go_wp2_with fail
      go_roundw
      case rel=>exact⟨p+1,cu,by omega,by go_num,HO.out,Tm.out,TE,by rw[Ez _ _ _ _ HS.out];exact nH.out⟩
      case measure=>simp[intOf];omega
     ·obtain rfl:p=n:=by omega
      have kq:=ho.below cL.out (by omega);have H':=af kq HB.out;have tB:=ab H' 1
      have sO:aG wr w.heap.size 3 1 (.slice (some ⟨g,0,none⟩) p cap) (fe s k).length ((fe s k).map (Value.int .i64)):=by
       rw[lp,mV.out]
       have e:(fe s k).map (Value.int .i64)=kR p (fun p=>if hasB (fltS s k) p then -1 else finS s k p) (finS s k) p:=by
        unfold fe kR;rw[mV.out,List.map_map];refine List.map_congr_left fun j hj=>?_
        rw[if_pos (List.mem_range.1 hj)];rfl
       rw[e];exact⟨by rw[Hf];omega,.inr ⟨g,cap,cu,fz,rfl,by omega,rq,fun i hi=>HG.out.2.1 i (by have:=HG.out.2.2.1;omega),jO,p7,by omega,by rw[Nat.mul_one];exact CT⟩⟩
      have dd:=aa ((bI.out.up kq).up ((Below.refl _ wr).alloc (Nat.le_refl _) (.cells #[.slice (some ⟨g,0,none⟩) p cap] 38)));have bz:=aa (dF wr [.slice (some ⟨g,0,none⟩) p cap] 38)
      have Sq:Hid (∀ i (hi:i<(L k).length),∃ x,xs[i]?=some x/\aG (wr.alloc (.cells #[.slice (some ⟨g,0,none⟩) p cap] 38)) w.heap.size 3 1 x (L k)[i].length ((L k)[i].map (Value.int .i64))):=aa (fun i hi=>by
       obtain⟨x,q1,q2⟩:=Co.out i hi
       exact⟨x,q1,(q2.up kq).up ((Below.refl _ wr).alloc (Nat.le_refl _) _)⟩)
      have ze:=aa (sO.up ((Below.refl _ wr).alloc (Nat.le_refl _) (.cells #[.slice (some ⟨g,0,none⟩) p cap] 38)));have Cu:=aa H';have nO:=aa (ae aP.out kq);have Vs:=HL.out.2.2.2 k;have hLk2:(L k).length<=4096:=by omega
      have Aw:=nO.out.size;clear Vs ho rq CT kq H' sO
      go_wp2_with (at_builtin;(refine aY _ rfl (.tmp 69) (.tmp 71) 56 rfl w.heap.size 38 j0 _ 1 24 Tryz.underlying56 nZ iR jk iv rfl (by decide) _ (L k).length xs rfl dd.out ⟨wr.heap.size,0,none⟩ 1 1 [.slice (some ⟨g,0,none⟩) p cap] rfl rfl bz.out (by simp[Value.oneCell']) (by unfold maxLen;omega) (by omega) (by simp;omega) ?_;intro v3 w3 nG jH _;obtain⟨av3,cv3,rfl⟩:=nG.slice;have uQ:=gU dd.out jH Cu.out (by decide);have c3:=ab uQ 1;have f3:=aE uQ 1;have eo:=aa uQ;have IS:Hid (cI w3 w.heap.size (.slice av3 ((L k).length+1) cv3) (L k++[fe s k])):=aa (bX.snoc (l:=L k) dd.out Sq.out (by decide) ze.out jH nG);have Ji:=aa (ez nO.out (Nat.le_refl _) dd.out jH);clear nG jH uQ))
      go_roundw
      case rel=>
       refine⟨k+1,by omega,by go_num,Ji.out.setCell (by dsimp only;omega) _,.slice av3 ((L k).length+1) cv3,?_,?_⟩
       ·rw[aF eo.out];rfl
       ·rw[HL.out.2.1 k]
        exact((KeepT.refl [201] w.heap.size w3 (ms:=[])).set eo.out (by simp) (by omega) _).fresh IS.out (by decide) (by decide)
      case measure=>simp[intOf];omega
   ·obtain⟨q,rfl⟩:∃ q,nw=q+1:=⟨nw - 1,by omega⟩
    obtain⟨b1,o1,rfl,c5⟩:=eF (by omega);have d5:=ak Wj c5;rw[Nat.add_sub_cancel]at d5;clear c5 eF gI
    go_wp2_with (at_builtin;(refine kA _ rfl (.const (.slice none 0 0)) (.tmp 49) 38 rfl wr.heap.size 3 i0 _ 1 8 Tryz.underlying38 cU cg bV cj rfl (by decide) (.slice none 0 0) 0 [] rfl (aG.nil _ _ _ _) _ n ((List.range n).map fun j=>Value.int .i64 (finS s k j)) rfl R0.out (by unfold maxLen;omega) (by omega) (by simp) ?_;intro v2 w2 fD dg _;rw[Nat.zero_add,List.nil_append]at fD;have cL:=aa (Below.grown VP.out dg (Nat.le_of_lt V4) (fun g h=>by cases h));obtain⟨g,cap,cur,fz,kI,hg,mS,mU,jO,p7,jt,mO,_⟩:=fD.block jP;subst kI;have HG:=aa (And.intro mS (And.intro mU (And.intro jt mO)));clear fD dg mS mU jt mO))
    clear tX;obtain⟨wrA,A7⟩:∃ x,x=wr:=⟨_,rfl⟩;subst A7;have hgw:=aB HG.out.1
    go_loopw [53] (fun i wi=>∃ (p:Nat) (cu:Array Value),p<=n/\i=.int .i64 p/\Only g w2 wi/\wi.heap[g]?=some (.cells cu 3 fz)/\cu.size=cap/\cu.toList.take n=kR n (fun p=>if hasB (fltS s k) p then -1 else finS s k p) (finS s k) p) (fun i _=>n - (intOf i).toNat)
    case atStart=>exact⟨0,cur,by omega,rfl,Only.refl _ _,HG.out.1,HG.out.2.2.1,by rw[HG.out.2.2.2];simp[kR]⟩
    case round=>
     obtain⟨p,cu,hp,rfl,ho,rq,TE,CT⟩:=hrel;by_cases Fp:p<n
     ·have HO:=aa ho;have Tm:=aa rq;have nH:=aa CT
      have tq:=ab rq p;rw[Array.getElem?_eq_getElem (show p<cu.size by omega)]at tq;have zq:=Ey rq p (HG.out.2.1 p (by have:=HG.out.2.2.1;omega));clear ho rq CT;have gw:=qJ fl p;cases hb:hasB fl p with
      | true=>
       rw[hb]at gw;have HS:Hid ((if hasB (fltS s k) p then -1 else finS s k p)=-1):=aa (by rw[Il.out,hb];rfl);clear hb
       go_wp2_with fail
       go_roundw
       case rel=>
        refine⟨p+1,_,by omega,by go_num,HO.out.setCell p _,aF Tm.out p _,by simpa using TE,?_⟩;rw[Array.toList_setIfInBounds,<-List.set_take',nH.out,<-Q5 n (fun p=>if hasB (fltS s k) p then -1 else finS s k p) (finS s k) p,HS.out]
       case measure=>simp[intOf];omega
      | false=>
       rw[hb]at gw;have HS:Hid ((if hasB (fltS s k) p then -1 else finS s k p)=finS s k p):=aa (by rw[Il.out,hb];rfl);clear hb tq zq
       go_wp2_with fail
       go_roundw
       case rel=>exact⟨p+1,cu,by omega,by go_num,HO.out,Tm.out,TE,by rw[Ez _ _ _ _ HS.out];exact nH.out⟩
       case measure=>simp[intOf];omega
     ·obtain rfl:p=n:=by omega
      have kq:=ho.below cL.out (by omega);have H':=af kq HB.out;have tB:=ab H' 1
      have sO:aG wr w.heap.size 3 1 (.slice (some ⟨g,0,none⟩) p cap) (fe s k).length ((fe s k).map (Value.int .i64)):=by
       rw[lp,mV.out]
       have e:(fe s k).map (Value.int .i64)=kR p (fun p=>if hasB (fltS s k) p then -1 else finS s k p) (finS s k) p:=by
        unfold fe kR;rw[mV.out,List.map_map];refine List.map_congr_left fun j hj=>?_
        rw[if_pos (List.mem_range.1 hj)];rfl
       rw[e];exact⟨by rw[Hf];omega,.inr ⟨g,cap,cu,fz,rfl,by omega,rq,fun i hi=>HG.out.2.1 i (by have:=HG.out.2.2.1;omega),jO,p7,by omega,by rw[Nat.mul_one];exact CT⟩⟩
      have dd:=aa ((bI.out.up kq).up ((Below.refl _ wr).alloc (Nat.le_refl _) (.cells #[.slice (some ⟨g,0,none⟩) p cap] 38)));have bz:=aa (dF wr [.slice (some ⟨g,0,none⟩) p cap] 38)
      have Sq:Hid (∀ i (hi:i<(L k).length),∃ x,xs[i]?=some x/\aG (wr.alloc (.cells #[.slice (some ⟨g,0,none⟩) p cap] 38)) w.heap.size 3 1 x (L k)[i].length ((L k)[i].map (Value.int .i64))):=aa (fun i hi=>by
       obtain⟨x,q1,q2⟩:=Co.out i hi
       exact⟨x,q1,(q2.up kq).up ((Below.refl _ wr).alloc (Nat.le_refl _) _)⟩)
      have ze:=aa (sO.up ((Below.refl _ wr).alloc (Nat.le_refl _) (.cells #[.slice (some ⟨g,0,none⟩) p cap] 38)));have Cu:=aa H';have nO:=aa (ae aP.out kq);have Vs:=HL.out.2.2.2 k;have hLk2:(L k).length<=4096:=by omega
      have Aw:=nO.out.size;clear Vs ho rq CT kq H' sO
      go_wp2_with (at_builtin;(refine aY _ rfl (.tmp 69) (.tmp 71) 56 rfl w.heap.size 38 j0 _ 1 24 Tryz.underlying56 nZ iR jk iv rfl (by decide) _ (L k).length xs rfl dd.out ⟨wr.heap.size,0,none⟩ 1 1 [.slice (some ⟨g,0,none⟩) p cap] rfl rfl bz.out (by simp[Value.oneCell']) (by unfold maxLen;omega) (by omega) (by simp;omega) ?_;intro v3 w3 nG jH _;obtain⟨av3,cv3,rfl⟩:=nG.slice;have uQ:=gU dd.out jH Cu.out (by decide);have c3:=ab uQ 1;have f3:=aE uQ 1;have eo:=aa uQ;have IS:Hid (cI w3 w.heap.size (.slice av3 ((L k).length+1) cv3) (L k++[fe s k])):=aa (bX.snoc (l:=L k) dd.out Sq.out (by decide) ze.out jH nG);have Ji:=aa (ez nO.out (Nat.le_refl _) dd.out jH);clear nG jH uQ))
      go_roundw
      case rel=>
       refine⟨k+1,by omega,by go_num,Ji.out.setCell (by dsimp only;omega) _,.slice av3 ((L k).length+1) cv3,?_,?_⟩
       ·rw[aF eo.out];rfl
       ·rw[HL.out.2.1 k]
        exact((KeepT.refl [201] w.heap.size w3 (ms:=[])).set eo.out (by simp) (by omega) _).fresh IS.out (by decide) (by decide)
      case measure=>simp[intOf];omega
  ·obtain rfl:k=m:=by omega
   have tB:=ab hB 1;clear hB ar
   go_wp2_with fail
   go_ret2
   refine⟨_,by rw[CR.out];rfl,aP.out,fun h=>absurd CR.out h,fun _=>⟨B,rfl,?_⟩⟩
   have qC:cI wr w.heap.size (.slice al (L k).length cl) (rc s):=by
    have h3:=HL.out.2.2.1;rw[<-h3];exact⟨xs,bI.out,Co.out⟩
   have hfo:gH wr w.heap.size B s:=⟨by omega,_,by rw[mV.out];exact HB.out,qC⟩;exact⟨hfo.at dB.out,hfo⟩
def oblM(s:Sys) (e:Nat):Nat:=maskN (fun p=>!hasB (fltS s e) p) (nS s)
theorem andNot_mask:∀ n:Fin 6,∀ f:Fin 32,bits .andNot .i64 (((2 ^ n.val - 1:Nat):Int)) (f.val:Int)=((maskN (fun p=>!hasB (f.val:Int) p) n.val:Nat):Int):=by decide +kernel
theorem shl_one:∀ n:Fin 6,wrap64 (wrap64 ((2:Int) ^ n.val) - 1)=((2 ^ n.val - 1:Nat):Int):=by decide +kernel
theorem OE(s:Sys) (hs:SysOk s) (e:Nat) (he:e<eS s) (vc vs:Value) (pt:Option Addr) (nt ct:Nat) (pe:Option Addr) (ne ce:Nat) (pw:Option Addr) (nw cw:Nat) (vv:Value) (w:World) (lP:nw<=6)
  (eF:0<nw->∃ b1 o1,pw=some ⟨b1,o1,none⟩/\w.cell? ⟨b1,o1+(nw - 1) * 7+6,none⟩=some (.int .i64 (fltS s e))) (gI:nw=0->fltS s e=0) :
  Calls Tryz.prog 87 #[.agg (bT s.prob vc vs s.n (.slice pt nt ct) (.slice pe ne ce)),.agg #[.int .i64 (cA s e).c,.slice pw nw cw,vv]] w fun r w'=>r=.returned (.int .i64 (oblM s e:Nat))/\Below w.heap.size w w':=by
 have hn:=hs.n;have xZ:=hs.flt e he;obtain⟨f,hf⟩:∃ f:Nat,fltS s e=f:=⟨(fltS s e).toNat,by omega⟩
 have Fx:f<32:=by
  have h1:((2:Nat) ^ nS s:Int)<=((2 ^ 5:Nat):Int):=by exact_mod_cast Nat.pow_le_pow_right (show 0<2 by omega) hn.2.1
  have h2:=xZ.2;rw[hf]at h2;have h3:((2:Int) ^ nS s)=(((2:Nat) ^ nS s:Nat):Int):=by simp
  rw[h3]at h2;have h4:(2:Nat) ^ nS s<=2 ^ 5:=Nat.pow_le_pow_right (by omega) hn.2.1;omega
 have HAN:Hid (bits .andNot .i64 (((2 ^ nS s - 1:Nat):Int)) (f:Int)=(oblM s e:Nat)):=aa (by
  unfold oblM;rw[hf]
  exact andNot_mask ⟨nS s,by omega⟩ ⟨f,Fx⟩)
 have HSH:Hid (wrap64 (wrap64 ((2:Int) ^ nS s) - 1)=((2 ^ nS s - 1:Nat):Int)):=aa (shl_one ⟨nS s,by omega⟩)
 have HZ:Hid (f=0->((2 ^ nS s - 1:Nat):Int)=(oblM s e:Nat)):=aa fun h=>by
  subst h;have key:∀ n:Fin 6,((2 ^ n.val - 1:Nat):Int)=bits .andNot .i64 (((2 ^ n.val - 1:Nat):Int)) 0:=by decide +kernel
  exact(key ⟨nS s,by omega⟩).trans HAN.out
 rw[hf]at eF gI;have fg:s.n=(nS s:Int):=hn.2.2.1;have ji:=hn.2.1;rw[fg];generalize nS s=n at *;generalize oblM s e=ob at *;clear hn xZ hf hs fg;have HW:Hid (∀ x:Int,wrap64 ((2:Int) ^ n)=x->wrap64 (x - 1)=((2 ^ n - 1:Nat):Int)):=aa fun x hx=>by rw[<-hx];exact HSH.out
 obtain⟨pw2,hpw2⟩:∃ pw2:Int,wrap64 ((2:Int) ^ n)=pw2:=⟨_,rfl⟩;have yJ:=HW.out pw2 hpw2;by_cases hw:nw=0
 ·have hz:=gI hw
  subst hw;have HR:=aa (HZ.out (by omega));clear gI eF hz
  go_enter Tryz.func87,Tryz.ntmps87
  go_wp2_with fail
  go_ret
  exact⟨aD (yJ.trans HR.out),by go_grown⟩
 ·obtain⟨q,rfl⟩:∃ q,nw=q+1:=⟨nw - 1,by omega⟩
  obtain⟨b1,o1,rfl,c5⟩:=eF (by omega);rw[Nat.add_sub_cancel]at c5;have d5:∀ o1' o2',((w.alloc o1').alloc o2').cell? ⟨b1,o1+q * 7+6,none⟩=some (.int .i64 f):=fun o1' o2'=>ak (by go_grown) c5
  have lF:=HAN.out;clear c5 eF gI
  go_enter Tryz.func87,Tryz.ntmps87
  go_wp2_with fail
  go_ret
  exact⟨rfl,by go_grown⟩
theorem Q7(s:Sys) (hv:verifyE s=0) (e:Nat) (he:e<eS s) (vc vs vt ve:Value) (w:World) (hs:IsSys w s vc vs vt ve) (hN:movesN s.prob.a.states<1099511627776) :
  Calls Tryz.prog 43 #[.agg (bT s.prob vc vs s.n vt ve),.int .i64 e] w fun r w'=>r=.returned (.tuple #[.int .i64 (oblM s e:Nat),.int .i64 0])/\Below w.heap.size w w':=by
 have HS:=aa hs;obtain⟨⟨pc,cc,rfl⟩,⟨ps,cs,rfl⟩,⟨pt,ct,rfl⟩,⟨pe,ce,rfl⟩⟩:=bE hs;clear hs;have HC:=aa (fun W (hb:Below w.heap.size w W)=>oW s _ _ _ _ W (HS.out.up hb) hN);have dB:=aa (jc hv);have HV:=aa hv;obtain⟨b,o,_,ce',e0,rfl,pw,nw,cw,pv,cv,c1,c2,c3,lP,eF,gI,-⟩:=it dB.out HS.out.ex he;injection e0 with e01 e02 e03
 subst e01;have A6:nw<=6:=by have:=dB.out.rounds;omega
 clear e02 e03 hv lP;obtain⟨m,hm⟩:∃ m,s.ex.length=m:=⟨_,rfl⟩;have uR:e<m:=by rw[<-hm];exact he
 have fY:decide ((m:Int)<=(e:Int))=false:=decide_eq_false (by omega);have nL:decide (m<=e)=false:=decide_eq_false (by omega);have kT:=aa (fun W (hb:Below w.heap.size w W)=>OE s dB.out e he (.slice pc s.prob.t.cases.length cc) (.slice ps s.prob.a.states.length cs) pt s.tab.length ct (some ⟨b,o,none⟩) s.ex.length ce pw nw cw (.slice pv (s.prob.rounds.toNat+1) cv) W A6 (fun h=>by obtain⟨b1,o1,q1,q2⟩:=eF h;exact⟨b1,o1,q1,ak hb q2⟩) gI);rw[hm]at HC kT ⊢;have HM:=aa hm;clear eF gI hm
 go_enter Tryz.func43,Tryz.ntmps43
 go_wp2_with fail
 refine aN (fun W=>Below w.heap.size w W/\∃ c,W.heap[w.heap.size]?=some (.cells c 35)/\c=bT s.prob (.slice pc s.prob.t.cases.length cc) (.slice ps s.prob.a.states.length cs) s.n (.slice pt s.tab.length ct) (.slice (some ⟨b,o,none⟩) m ce)) ⟨by go_grown,_,am _ _,rfl⟩ (fun W0 aV=>?_);obtain⟨aH,_,hA,rfl⟩:=aV;refine(HC.out W0 aH).mono ?_;rintro r w1 ⟨rfl,aI⟩;have dZ:=af aI hA;have du:=aa dZ;have cQ:=ae aH aI;have bF:=aa cQ;rw[HV.out];have tS:=ab dZ;have yS:∀ z:ExtW w1,∀ j,z.val.cell? ⟨w.heap.size,j,none⟩=_:=fun z=>ab (af z.ext du.out)
 have y1:∀ z:ExtW w1,z.val.cell? ⟨b,o+e * 3,none⟩=_:=fun z=>ak (ae bF.out z.ext) c1
 have y2:∀ z:ExtW w1,z.val.cell? ⟨b,o+e * 3+1,none⟩=_:=fun z=>ak (ae bF.out z.ext) c2
 have y3:∀ z:ExtW w1,z.val.cell? ⟨b,o+e * 3+2,none⟩=_:=fun z=>ak (ae bF.out z.ext) c3
 have bO:Hid (∀ y:ExtW w1,Calls Tryz.prog 87 #[.agg (bT s.prob (.slice pc s.prob.t.cases.length cc) (.slice ps s.prob.a.states.length cs) s.n (.slice pt s.tab.length ct) (.slice (some ⟨b,o,none⟩) m ce)),.agg #[.int .i64 (cA s e).c,.slice pw nw cw,.slice pv (s.prob.rounds.toNat+1) cv]] y.val fun r w''=>r=.returned (.int .i64 (oblM s e:Nat))/\∃ z:ExtW w1,w''=z.val):=aa (fun y=>Calls.ext_of (kT.out y.val (ae bF.out y.ext)));clear hA dZ aH aI HC kT c1 c2 c3 cQ
 go_wp2_with fail
 refine aC (by kernel_rfl) (by kernel_rfl) ?_
 repeat (go_big_quiet_step ((go_at_call 87;exact bO.out _)))
 refine wpQuiet_nil ?_;rintro _ ⟨xq,rfl⟩;clear tS yS y1 y2 y3
 go_wp2_with fail
 go_ret2
 exact⟨by simp,ae bF.out xq.ext⟩
theorem zT(c f:Int) (pw:Option Addr) (nw cw:Nat) (vv:Value) (w:World) (lP:nw<=6) (eF:0<nw->∃ b1 o1,pw=some ⟨b1,o1,none⟩/\w.cell? ⟨b1,o1+(nw - 1) * 7+6,none⟩=some (.int .i64 f)) (gI:nw=0->f=0) :
  Calls Tryz.prog 61 #[.agg #[.int .i64 c,.slice pw nw cw,vv]] w fun r w'=>r=.returned (.int .i64 f)/\Below w.heap.size w w':=by
 by_cases hw:nw=0
 ·obtain rfl:=gI hw
  subst hw;clear gI eF
  go_enter Tryz.func61,Tryz.ntmps61
  go_wp2_with fail
  go_ret
  exact⟨rfl,by go_grown⟩
 ·obtain⟨q,rfl⟩:∃ q,nw=q+1:=⟨nw - 1,by omega⟩
  obtain⟨b1,o1,rfl,c5⟩:=eF (by omega);rw[Nat.add_sub_cancel]at c5;have d5:∀ o1',(w.alloc o1').cell? ⟨b1,o1+q * 7+6,none⟩=some (.int .i64 f):=fun o1'=>ak (by go_grown) c5
  clear c5 eF gI
  go_enter Tryz.func61,Tryz.ntmps61
  go_wp2_with fail
  go_ret
  exact⟨rfl,by go_grown⟩
theorem Uw{s:Sys} (hs:SysOk s) {e:Nat} (he:e<eS s):bits .andNot .i64 ((2:Int) ^ nS s - 1) (fltS s e)=(oblM s e:Nat):=by
 have hn:=hs.n;have xZ:=hs.flt e he;obtain⟨f,hf⟩:∃ f:Nat,fltS s e=f:=⟨(fltS s e).toNat,by omega⟩
 have Fx:f<32:=by
  have h2:=xZ.2;rw[hf]at h2;have h3:((2:Int) ^ nS s)=(((2:Nat) ^ nS s:Nat):Int):=by simp
  rw[h3]at h2;have h4:(2:Nat) ^ nS s<=2 ^ 5:=Nat.pow_le_pow_right (by omega) hn.2.1;omega
 have key:∀ n:Fin 6,((2:Int) ^ n.val - 1)=((2 ^ n.val - 1:Nat):Int):=by decide +kernel
 rw[key ⟨nS s,by omega⟩];unfold oblM;rw[hf];exact andNot_mask ⟨nS s,by omega⟩ ⟨f,Fx⟩
theorem ED(s:Sys) (hs:SysOk s) (e:Nat) (he:e<eS s) (vc vs vt ve:Value) (w:World) (cT:IsSys w s vc vs vt ve) :
  Calls Tryz.prog 28 #[.agg (bT s.prob vc vs s.n vt ve),.int .i64 e] w fun r w'=>r=.returned (.int .i64 (oblM s e:Nat))/\Below w.heap.size w w':=by
 have HS:=aa cT;obtain⟨⟨pc,cc,rfl⟩,⟨ps,cs,rfl⟩,⟨pt,ct,rfl⟩,⟨pe,ce,rfl⟩⟩:=bE cT;clear cT;obtain⟨b,o,_,ce',e0,rfl,pw,nw,cw,pv,cv,c1,c2,c3,lP,eF,gI,-⟩:=it hs HS.out.ex he;injection e0 with e01 e02 e03
 subst e01;have A6:nw<=6:=by have:=hs.rounds;omega
 clear e02 e03 lP;have lF:=Uw hs he;have ym:=aa (fun W (hb:Below w.heap.size w W)=>zT (cA s e).c (fltS s e) pw nw cw (.slice pv (s.prob.rounds.toNat+1) cv) W A6 (fun h=>by obtain⟨b1,o1,q1,q2⟩:=eF h;exact⟨b1,o1,q1,ak hb q2⟩) gI);have hn:=hs.n;have Ap:=aa (fun W=>Em (nS s) (by omega) W);obtain⟨m,hm⟩:∃ m,s.ex.length=m:=⟨_,rfl⟩;have uR:e<m:=by rw[<-hm];exact he
 obtain⟨sn,ID⟩:∃ sn,s.n=sn:=⟨_,rfl⟩;have fg:sn=(nS s:Int):=by rw[<-ID];exact hn.2.2.1
 rw[hm,ID];subst fg;generalize fltS s e=f at lF ym;generalize oblM s e=ob at lF ⊢;obtain⟨n,Fd⟩:∃ n,nS s=n:=⟨_,rfl⟩;rw[Fd]at lF Ap ⊢;clear eF gI hm ID hn Fd
 go_enter Tryz.func28,Tryz.ntmps28
 go_wp2_with fail
 refine bm (fun W=>Below w.heap.size w W/\∃ c,W.heap[w.heap.size]?=some (.cells c 35)/\c=bT s.prob (.slice pc s.prob.t.cases.length cc) (.slice ps s.prob.a.states.length cs) (n:Int) (.slice pt s.tab.length ct) (.slice (some ⟨b,o,none⟩) m ce)) ⟨by go_grown,_,am _ _,rfl⟩ (fun W0 aV=>?_);obtain⟨aH,_,hA,rfl⟩:=aV;have fj:=aa aH;have HA:=aa hA;have yS:∀ z:ExtW W0,∀ j,z.val.cell? ⟨w.heap.size,j,none⟩=_:=fun z=>ab (af z.ext HA.out)
 have y1:∀ z:ExtW W0,z.val.cell? ⟨b,o+e * 3,none⟩=_:=fun z=>ak (ae fj.out z.ext) c1
 have y2:∀ z:ExtW W0,z.val.cell? ⟨b,o+e * 3+1,none⟩=_:=fun z=>ak (ae fj.out z.ext) c2
 have y3:∀ z:ExtW W0,z.val.cell? ⟨b,o+e * 3+2,none⟩=_:=fun z=>ak (ae fj.out z.ext) c3
 have KN:Hid (∀ y:ExtW W0,Calls Tryz.prog 60 #[.int .i64 (n:Int)] y.val fun r w''=>r=.returned (.int .i64 (2 ^ n - 1))/\∃ z:ExtW W0,w''=z.val):=aa (fun y=>Calls.ext_of ((Ap.out y.val).mono fun r w' ⟨h1,h2⟩=>⟨h1,h2 ▸ Below.refl _ _⟩));have wP:Hid (∀ y:ExtW W0,Calls Tryz.prog 61 #[.agg #[.int .i64 (cA s e).c,.slice pw nw cw,.slice pv (s.prob.rounds.toNat+1) cv]] y.val fun r w''=>r=.returned (.int .i64 f)/\∃ z:ExtW W0,w''=z.val):=aa (fun y=>Calls.ext_of (ym.out y.val (ae fj.out y.ext)));clear aH hA Ap ym c1 c2 c3;refine aC (by kernel_rfl) (by kernel_rfl) ?_
 repeat (go_big_quiet_step (first|(go_at_call 60;with_reducible exact KN.out _)|(go_at_call 61;with_reducible exact wP.out _)))
 refine wpQuiet_nil ?_;rintro _ ⟨xq,rfl⟩;clear yS y1 y2 y3
 go_wp2_with fail
 go_ret
 exact⟨rfl,ae fj.out xq.ext⟩
theorem BZ(s:Sys) (e rr:Nat) (hr:s.prob.rounds=rr) (vc vs vt:Value) (b o ne ce:Nat) (he:e<ne) (b2 o2 nv cv:Nat) (hv:rr<nv) (u:Value) (hu:∃ a n c,u=.slice a n c) (w:World) (c3:w.cell? ⟨b,o+e * 3+2,none⟩=some (.slice (some ⟨b2,o2,none⟩) nv cv)) (c4:w.cell? ⟨b2,o2+rr,none⟩=some u) :
  Calls Tryz.prog 46 #[.agg (bT s.prob vc vs s.n vt (.slice (some ⟨b,o,none⟩) ne ce)),.int .i64 e] w fun r w'=>r=.returned u/\Below w.heap.size w w':=by
 obtain⟨ua,un,uc,rfl⟩:=hu;have Ab:bT s.prob vc vs s.n vt (.slice (some ⟨b,o,none⟩) ne ce)=#[.int .i64 s.prob.t.n,.int .i64 s.prob.t.ins,.int .i64 s.prob.t.outs,vc,.int .i64 s.prob.a.n,vs,.int .i64 (rr:Int),.int .i64 s.n,vt,.slice (some ⟨b,o,none⟩) ne ce]:=by rw[<-hr];rfl
 rw[Ab];clear hr Ab
 go_enter Tryz.func46,Tryz.ntmps46
 go_wp2_with fail
 refine bm (fun W=>Below w.heap.size w W/\∃ c,W.heap[w.heap.size]?=some (.cells c 35)/\c=#[.int .i64 s.prob.t.n,.int .i64 s.prob.t.ins,.int .i64 s.prob.t.outs,vc,.int .i64 s.prob.a.n,vs,.int .i64 (rr:Int),.int .i64 s.n,vt,.slice (some ⟨b,o,none⟩) ne ce]) ⟨by go_grown,_,am _ _,rfl⟩ (fun W0 aV=>?_);obtain⟨aH,_,hA,rfl⟩:=aV;have fj:=aa aH;have HA:=aa hA;have yS:∀ z:ExtW W0,∀ j,z.val.cell? ⟨w.heap.size,j,none⟩=_:=fun z=>ab (af z.ext HA.out)
 have y3:∀ z:ExtW W0,z.val.cell? ⟨b,o+e * 3+2,none⟩=_:=fun z=>ak (ae fj.out z.ext) c3
 have y4:∀ z:ExtW W0,z.val.cell? ⟨b2,o2+rr,none⟩=_:=fun z=>ak (ae fj.out z.ext) c4
 clear aH hA c3 c4;refine aC (by kernel_rfl) (by kernel_rfl) ?_
 repeat (go_big_quiet_step (fail))
 refine wpQuiet_nil ?_;rintro _ ⟨xq,rfl⟩;clear yS y3 y4
 go_wp2_with fail
 go_ret
 exact⟨rfl,ae fj.out xq.ext⟩
theorem FZ(y x:Int) (b:Nat) (a:Addr) (n c:Nat) (hn:0<n) (W:World) (h1:W.cell? ⟨b,0,none⟩=some (.slice (some a) n c)) (h2:W.cell? a=some (.int .i64 x)) :
  Calls Tryz.prog 172 #[.int .i64 y,.pointer (some ⟨b,0,none⟩)] W fun e W'=>e=.returned (.bool (y != x))/\Below W.heap.size W W':=by
 go_enter Tryz.func172,Tryz.ntmps172
 go_wp2_with fail
 go_ret
 exact⟨rfl,by go_grown⟩
theorem Hg(v:Value) (l:List Int) (w:World) (hv:aT w v l) :
  Calls Tryz.prog 125 #[v] w fun e w'=>e=.returned (.bool (constB l))/\Below w.heap.size w w':=by
 obtain⟨pa,ca,rfl,lt1,lt2,ea⟩:=hv.at
 have HC:=aa (fun (W:World) (hb:Below w.heap.size w W) (hB:W.heap[w.heap.size]?=some (.cells #[.slice pa l.length ca] 38))=>jT 172 #[.pointer (some ⟨w.heap.size,0,none⟩)] (enters_of Tryz.func172 (by kernel_rfl) rfl) (.slice pa l.length ca) l (fun i=>decide (l.getD i 0≠l.getD 0 0)) W (hv.up up_int hb) (fun i hi W2 aU=>by
  obtain⟨b0,o0,e0,h0,_⟩:=ea 0 (by omega);rw[Nat.zero_mul,Nat.add_zero]at h0;have:=FZ l[i] (l.getD 0 0) w.heap.size ⟨b0,o0,none⟩ l.length ca (by omega) W2 (by rw[ab (af aU hB),e0];rfl) (by rw[az 0 (show 0<l.length by omega)];exact ak (ae hb aU) h0);refine this.mono fun e W' ⟨h1,h2⟩=>⟨?_,h2⟩
  rw[h1,az 0 hi];have hx:(l[i] != l.getD 0 0)=decide (l[i]≠l.getD 0 0):=by rw[Bool.eq_iff_iff];simp
  rw[hx]))
 have uN:Hid (constB l=!(anyLt l.length fun i=>decide (l.getD i 0≠l.getD 0 0))):=aa rfl;clear hv ea
 go_enter Tryz.func125,Tryz.ntmps125
 go_wp2_with fail
 refine aN (fun W=>Below w.heap.size w W/\W.heap[w.heap.size]?=some (.cells #[.slice pa l.length ca] 38)) ⟨by go_grown,am _ _⟩ (fun W0 aV=>?_);obtain⟨aH,bB⟩:=aV;refine(HC.out W0 aH bB).mono ?_;rintro e w1 ⟨rfl,aI⟩;clear bB HC;generalize (anyLt l.length fun i=>decide (l.getD i 0≠l.getD 0 0))=b at uN
 go_wp2_with fail
 go_ret
 exact⟨aO (by rw[uN.out]),ae aH aI⟩
def uE(e:Int) (a:Bool):Value:=.tuple #[.bool (decide (e=0)&&a),.int .i64 e]
theorem F0(t:Tk) (vc:Value) (w:World) (hv:bK w vc t.cases) :
  Calls Tryz.prog 76 #[.agg #[.int .i64 t.n,.int .i64 t.ins,.int .i64 t.outs,vc]] w fun e w'=>e=.returned (uE (taskE t) (agreeB t))/\Below w.heap.size w w':=by
 have HT:=aa (fun W (hb:Below w.heap.size w W)=>qd t vc W (hv.up up_case hb));obtain⟨te,hte⟩:∃ te,taskE t=te:=⟨_,rfl⟩;rw[hte]at HT ⊢;clear hte;obtain⟨pc,cc,rfl,l1,m1,e1⟩:=hv.at;clear hv;have E:=aa e1;clear e1
 have fy:Hid (∀ k j,k<t.cases.length->j<(t.cases.getD k default).out.length->constB ((t.cases.getD k default).out.getD j [])=false->agreeB t=false):=aa fun k j hk hj h=>by
  cases ha:agreeB t with
  | false=>rfl
  | true=>rw[(pI t).1 ha k hk j hj]at h;cases h
 have jp:Hid ((∀ k,k<t.cases.length->∀ j,j<(t.cases.getD k default).out.length->constB ((t.cases.getD k default).out.getD j [])=true)->agreeB t=true):=aa fun h=>(pI t).2 h
 generalize agreeB t=ag at fy jp
 go_enter Tryz.func76,Tryz.ntmps76
 go_wp2_with fail
 refine aN (fun W=>Below w.heap.size w W/\W.heap[w.heap.size]?=some (.cells #[.int .i64 t.n,.int .i64 t.ins,.int .i64 t.outs,.slice pc t.cases.length cc] 24)) ⟨by go_grown,am _ _⟩ (fun W0 aV=>?_);obtain⟨aH,bB⟩:=aV;refine(HT.out W0 aH).mono ?_;rintro e w1 ⟨rfl,aI⟩;have fZ:=ae aH aI;have t1:=ab (af aI bB);clear bB HT;by_cases hz:te=0
 case neg=>
  have KC:(te != 0)=true:=by simpa using hz
  have hd:decide (te=0)=false:=decide_eq_false hz
  go_wp2_with fail
  go_ret2
  exact⟨by unfold uE;rw[hd];simp,fZ⟩
 subst hz;have bF:=aa fZ
 go_wp2_with fail
 clear t1
 go_loopw [17] (fun i wr=>Below w1.heap.size w1 wr/\∃ k:Nat,k<=t.cases.length/\i=.int .i64 k/\∀ q,q<k->∀ j,j<(t.cases.getD q default).out.length->constB ((t.cases.getD q default).out.getD j [])=true) (fun i _=>t.cases.length - (intOf i).toNat)
 case atStart=>exact⟨Below.refl _ _,0,by omega,rfl,fun q hq=>by omega⟩
 case round=>
  obtain⟨ar,k,hk,rfl,aR⟩:=hrel;have H:=aa aR;clear aR;have dm:=ae bF.out ar;have eD:=aa dm;by_cases aA:k<t.cases.length
  ·obtain⟨b1,o1,rfl,⟨x0,cx0,cN⟩,⟨x1,cx1,df⟩,⟨x2,cx2,dM⟩⟩:=E.out k aA
   have d0:=ak dm cx0;have d1:=ak dm cx1;have d2:=ak dm cx2;have HG:=aa (az default aA);have kj:=aa (df.up up_ints dm);obtain⟨p0,q0,rfl,_⟩:=cN;obtain⟨p1,q1,rfl,wh,RU,ex⟩:=df.at;obtain⟨p2,q2,rfl,_⟩:=dM;have EX:=aa ex;have pY:=aa (fun j=>fy.out k j aA);rw[HG.out]at pY;clear cx0 cx1 cx2 df ex;generalize t.cases[k]=c at d0 d1 d2 kj EX HG pY wh RU;have Fj:=aa ar;clear ar dm
   go_wp2_with fail
   clear d0 d1 d2;obtain⟨wrA,kG⟩:∃ x,x=wr:=⟨_,rfl⟩;subst kG;refine bm (fun W=>Below wrA.heap.size wrA W) (by go_grown) (fun W1 aU=>?_);have cL:=aa aU;clear aU
   go_loopw [24] (fun i wr=>Below wrA.heap.size wrA wr/\∃ j:Nat,j<=c.out.length/\i=.int .i64 j/\∀ q,q<j->constB (c.out.getD q [])=true) (fun i _=>c.out.length - (intOf i).toNat)
   case atStart=>exact⟨cL.out,0,by omega,rfl,fun q hq=>by omega⟩
   case round=>
    obtain⟨ar,j,hj,rfl,aR⟩:=hrel;have H2:=aa aR;clear aR;have aP:=aa ar;have bR:=aa (ae eD.out ar);by_cases fx:j<c.out.length
    ·obtain⟨b3,o3,rfl,vx,cvx,Fb⟩:=EX.out j fx
     have dv:=ak bR.out cvx;have CV:=aa (Fb.up up_int bR.out);have z5:=aa (az [] fx);rw[Nat.mul_one]at dv;clear cvx Fb ar
     go_wp2_with fail
     refine(Hg vx _ wr CV.out).mono ?_;rintro e w4 ⟨rfl,bQ⟩;have eQ:=aa bQ;clear dv bQ;cases hc:constB c.out[j] with
     | true=>
      have HC:Hid (constB (c.out.getD j [])=true):=aa (by rw[z5.out];exact hc);clear hc
      go_wp2_with fail
      go_roundw
      case rel=>exact⟨ae aP.out eQ.out,j+1,by omega,by go_num,aS H2.out HC.out⟩
      case measure=>simp[intOf];omega
     | false=>
      have HC:Hid (ag=false):=aa (pY.out j fx (by rw[z5.out];exact hc));clear hc
      go_wp2_with fail
      go_ret2
      exact⟨by rw[HC.out];unfold uE;simp,ae bR.out eQ.out⟩
    ·have mz:Hid (∀ q,q<c.out.length->constB (c.out.getD q [])=true):=aa fun q hq=>H2.out q (by omega)
     clear ar
     go_wp2_with fail
     go_roundw
     case rel=>exact⟨ae Fj.out aP.out,k+1,by omega,by go_num,aS H.out (by rw[HG.out];exact mz.out)⟩
     case measure=>simp[intOf];omega
  ·have HR:Hid (ag=true):=aa (jp.out fun q hq=>H.out q (by omega))
   clear ar dm
   go_wp2_with fail
   go_ret2
   exact⟨by rw[HR.out];unfold uE;simp,eD.out⟩
theorem Hh{w:World} {base:Nat} {v:Value} {l:List (List Int)} (h:pG w base v l) (hr:∀ x∈l,∀ y∈x,bM y) (hn:l.length<=1048576) (nW:∀ x∈l,x.length<=1048576):dR w v l:=by
 obtain⟨xs,h1,h2⟩:=h;have h3:=aG.of_owns h1;have hl:xs.length=l.length:=by have:=h3.1;omega
 exact nm ⟨xs,h3,fun i hi=>⟨xs[i]'(by omega),by rw[List.getElem?_eq_getElem],aG.of_owns (h2 i hi (by omega))⟩⟩ hr hn nW
theorem B1{s:Sys} (h:SysOk s) {e:Nat} (he:e<eS s):iD s.prob.t (cA s e).c (fltS s e)=0:=by
 have h1:=h.cas e he;have h2:=h.flt e he;have h3:=(qV h.prob).1;unfold iD;rw[if_neg (by omega),if_neg (by omega),if_neg];have h4:s.prob.t.n.toNat=nS s:=by have:=h.n;omega
 rw[h4];omega
theorem JR{s:Sys} (h:SysOk s) {e:Nat} (he:e<eS s):iE s.prob.t (cA s e).c (fltS s e)=vecE s e:=by
 unfold iE;rw[if_neg (by rw[B1 h he];simp)];rfl
def vq(s:Sys) (e j x:Nat):Bool:=anyLt j fun i=>decide (((vecE s e).getD i []).getD 0 0=(x:Int))
theorem Ux(s:Sys) (e j v:Nat) (hv:v<8) (h:((vecE s e).getD j []).getD 0 0=(v:Int)):maskN (vq s e j) 8 ||| 2 ^ v=maskN (vq s e (j+1)) 8:=by
 rw[<-NE hv,Qk];refine zF fun x _=>?_
 show (vq s e j x || decide (x=v))=(vq s e j x || decide (((vecE s e).getD j []).getD 0 0=(x:Int)))
 congr 1;rw[h,decide_eq_decide];omega
theorem Uy(s:Sys) (e:Nat):maskN (vq s e 0) 8=0:=(nh _ _).2 ((fG _ _).2 fun _ _=>rfl)
theorem EF{s:Sys} (h:SysOk s) (ha:agreeB s.prob.t=true) {e:Nat} (he:e<eS s) {v:List Int} (hv:v∈vecE s e):constB v=true/\v=List.replicate (nS s) (v.getD 0 0)/\0<=v.getD 0 0/\v.getD 0 0<oS s/\v.length=nS s:=by
 obtain⟨_,h2⟩:=Bq h he;obtain⟨h3,h4,i,j,hi,hj,h5⟩:=h2 v hv;have hc:=(pI _).1 ha i hi j hj;rw[<-h5]at hc;have hn:=h.n;have h6:=NH hc;have h7:=h4 (v.getD 0 0) (by rw[show v.getD 0 0=v[0]'(by omega) by simp[show 0<v.length by omega]];exact List.getElem_mem _);exact⟨hc,by rw[<-h3];exact h6,h7.1,h7.2,h3⟩
theorem Vc{s:Sys} (h:SysOk s) (ha:agreeB s.prob.t=true) {e:Nat} (he:e<eS s):maskN (vq s e (vecE s e).length) 8=gT s e:=by
 refine zF fun x _=>?_
 rw[Bool.eq_iff_iff,J7];unfold vq;rw[kK];constructor
 ·rintro⟨k,hk,h1⟩
  have h2:(vecE s e)[k]∈vecE s e:=List.getElem_mem hk;have h3:=(EF h ha he h2).2.1;rw[az [] hk]at h1;rw[of_decide_eq_true h1]at h3;rw[<-h3];exact h2
 ·intro h1
  obtain⟨k,hk,e1⟩:=List.getElem_of_mem h1;refine⟨k,hk,?_⟩;rw[az [] hk,e1];have hn:=h.n.1;simp[show 0<nS s by omega]
theorem tP{m k:Nat} (hm:m<1024) (hk:k<=30):bits .or .i64 ((m:Nat):Int) (wrap64 ((2:Int) ^ k))=((m ||| 2 ^ k:Nat):Int):=by
 have h2:(2:Nat) ^ k<=2 ^ 30:=Nat.pow_le_pow_right (by omega) hk;rw[Hc hk,vu _ _ (by omega) (by omega)]
theorem OF(y x:Int) (b:Nat) (a:Addr) (n c:Nat) (hn:0<n) (W:World) (h1:W.cell? ⟨b,0,none⟩=some (.slice (some a) n c)) (h2:W.cell? a=some (.int .i64 x)) :
  Calls Tryz.prog 127 #[.int .i64 y,.pointer (some ⟨b,0,none⟩)] W fun e W'=>e=.returned (.bool (y != x))/\Below W.heap.size W W':=by
 go_enter Tryz.func127,Tryz.ntmps127
 go_wp2_with fail
 go_ret
 exact⟨rfl,by go_grown⟩
theorem OG(l:List Int) (hc:constB l=true) (a:Option Addr) (c b:Nat) (W:World) (hv:aT W (.slice a l.length c) l) (hB:W.heap[b]?=some (.cells #[.slice a l.length c] 38)) :
  Calls Tryz.prog 106 #[.slice a l.length c,.func (.func 127) #[] #[.pointer (some ⟨b,0,none⟩)]] W fun e W'=>e=.returned (.bool false)/\Below W.heap.size W W':=by
 refine(jT 127 #[.pointer (some ⟨b,0,none⟩)] (enters_of Tryz.func127 (by kernel_rfl) rfl) _ l (fun i=>decide (l.getD i 0≠l.getD 0 0)) W hv (fun i hi W2 aU=>?_)).mono fun e W' ⟨h1,h2⟩=>⟨?_,h2⟩
 ·obtain⟨pa,ca,e1,_,_,ea⟩:=hv.at
  injection e1 with e1 _ _
  subst e1;obtain⟨b0,o0,e0,h0,_⟩:=ea 0 (by omega);rw[Nat.zero_mul,Nat.add_zero]at h0;have:=OF l[i] (l.getD 0 0) b ⟨b0,o0,none⟩ l.length c (by omega) W2 (by rw[ab (af aU hB),e0];rfl) (by rw[az 0 (show 0<l.length by omega)];exact ak aU h0);refine this.mono fun e W' ⟨h1,h2⟩=>⟨?_,h2⟩
  rw[h1,az 0 hi];have hx:(l[i] != l.getD 0 0)=decide (l[i]≠l.getD 0 0):=by rw[Bool.eq_iff_iff];simp
  rw[hx]
 ·rw[h1]
  unfold constB at hc;rw[Bool.not_eq_true']at hc;rw[hc]
theorem Q8(s:Sys) (hs:SysOk s) (ha:agreeB s.prob.t=true) (e:Nat) (he:e<eS s) (vc:Value) (pw:Option Addr) (nw cw:Nat) (vv:Value) (w:World) (hv:bK w vc s.prob.t.cases) (lP:nw<=6)
  (eF:0<nw->∃ b1 o1,pw=some ⟨b1,o1,none⟩/\w.cell? ⟨b1,o1+(nw - 1) * 7+6,none⟩=some (.int .i64 (fltS s e))) (gI:nw=0->fltS s e=0) :
  Calls Tryz.prog 77 #[.agg #[.int .i64 s.prob.t.n,.int .i64 s.prob.t.ins,.int .i64 s.prob.t.outs,vc],.agg #[.int .i64 (cA s e).c,.slice pw nw cw,vv]] w fun r w'=>r=.returned (.tuple #[.int .i64 (gT s e:Nat),.int .i64 0])/\Below w.heap.size w w':=by
 have HA:=aa (fun W (hb:Below w.heap.size w W)=>Jw s.prob.t vc (cA s e).c (fltS s e) W (hv.up up_case hb));rw[B1 hs he,JR hs he]at HA
 have vg:=aa (fun (W:World) (base:Nat) (u:Value) (h:pG W base u (vecE s e))=>Hh h (fun x hx y hy=>by
  have h1:=(Bq hs he).2 x hx;have h2:=h1.2.1 y hy;have h3:=hs.outs;exact⟨by omega,by omega⟩) (by
  have h1:=hs.cas e he;have h2:=(eY (qV hs.prob).1).2.2.2.2 (s.prob.t.cases.getD (cA s e).c.toNat default) (by rw[az default h1.2];exact List.getElem_mem _);have h3:=J5 h2 (fltS s e);have h4:vecE s e=fT (s.prob.t.cases.getD (cA s e).c.toNat default) (fltS s e):=rfl;rw[h4]
  omega) (fun x hx=>by have:=((Bq hs he).2 x hx).1;have:=hs.n;omega))
 have HCON:=aa (fun (v:List Int) (hv:v∈vecE s e)=>EF hs ha he hv);have eV:=aa (fun j v=>Ux s e j v);have mz:=aa (Vc hs ha he);have HZ:=aa (Uy s e);have hos:=hs.outs.2.1;obtain⟨pc,cc,rfl,l1,m1,e1⟩:=hv.at;clear hv e1 ha;generalize vecE s e=vl at HA vg HCON eV mz;by_cases hw:nw=0
 case' pos=>
  have hz:=gI hw;subst hw;rw[hz]at HA
  go_enter Tryz.func77,Tryz.ntmps77
  go_wp2_with fail
 case' neg=>
  obtain⟨q,rfl⟩:∃ q,nw=q+1:=⟨nw - 1,by omega⟩;obtain⟨b1,o1,rfl,c5⟩:=eF (by omega);rw[Nat.add_sub_cancel]at c5;have d5:∀ o1' o2',((w.alloc o1').alloc o2').cell? ⟨b1,o1+q * 7+6,none⟩=some (.int .i64 (fltS s e)):=fun o1' o2'=>ak (by go_grown) c5
  clear c5 eF gI
  go_enter Tryz.func77,Tryz.ntmps77
  go_wp2_with fail
  clear d5
 all_goals
  refine aN (fun W=>Below w.heap.size w W) (by go_grown) (fun W0 aH=>?_);refine(HA.out W0 aH).mono ?_;rintro r w1 ⟨u,rfl,hu,aI⟩;have HU:=aa (vg.out _ _ _ hu);obtain⟨pu,cu,rfl,lu1,lu2,eu⟩:=HU.out.at;have EU:=aa eu;have bF:=aa (ae aH aI);clear hu aH aI eu
  go_wp2_with fail
  go_loopw [10,35] (fun o i wr=>∃ j:Nat,j<=vl.length/\i=.int .i64 j/\o=.int .i64 (maskN (vq s e j) 8:Nat)/\Below w1.heap.size w1 wr) (fun _ i _=>vl.length - (intOf i).toNat)
  case atStart=>exact⟨0,by omega,rfl,by rw[HZ.out];rfl,Below.refl _ _⟩
  case round=>
   obtain⟨j,hj,rfl,rfl,ar⟩:=hrel;have aP:=aa ar;by_cases aA:j<vl.length
   ·obtain⟨b3,o3,rfl,vx,cvx,Fb⟩:=EU.out j aA
    have dv:=ak ar cvx;have CV:=aa (Fb.up up_int ar);obtain⟨pv,cv,rfl,lv1,lv2,ev⟩:=CV.out.at;obtain⟨g1,g2,g3,g4,g5⟩:=HCON.out vl[j] (List.getElem_mem aA);have KA:vl.getD j []=vl[j]:=az [] aA;have pU:=aa (eV.out j);rw[KA]at pU;rw[Nat.mul_one]at dv;generalize vl[j]=v at dv CV lv1 lv2 ev g1 g2 g3 g4 g5 pU;have fg:=hs.n.1;obtain⟨b4,o4,rfl,c4,-⟩:=ev 0 (by omega);have TA:v[0]'(by omega)=v.getD 0 0:=(az 0 (by omega)).symm;rw[TA,Nat.zero_mul,Nat.add_zero]at c4;obtain⟨v0,jI⟩:∃ v0:Nat,v.getD 0 0=v0:=⟨(v.getD 0 0).toNat,by omega⟩;rw[jI]at c4 g4 pU;have hv8:v0<8:=by omega
    have yO:=aa (pU.out v0 hv8 rfl);have nQ:=aa g1;have cG:0<v.length:=by omega
    have WP:=aa c4;have hmlt:maskN (vq s e j) 8<256:=gS _ 8;have Cj:=aa hmlt;clear cvx Fb ar ev g1 g2 g3 g4 g5 KA TA jI c4 hmlt pU fg
    go_wp2_with fail
    clear dv;refine aN (fun W=>Below wr.heap.size wr W/\W.heap[wr.heap.size]?=some (.cells #[.slice (some ⟨b4,o4,none⟩) v.length cv] 38)) ⟨by go_grown,am _ _⟩ (fun W3 rj=>?_);obtain⟨bC,WS⟩:=rj;refine(OG v nQ.out _ cv wr.heap.size W3 (CV.out.up up_int bC) WS).mono ?_;rintro r w4 ⟨rfl,bQ⟩;have tb:=ab (af bQ WS) 0;simp at tb;have t0:=ak (ae bC bQ) WP.out;have eQ:=aa (ae bC bQ);clear bC bQ WS
    go_wp2_with fail
    go_roundw
    case rel=>exact⟨j+1,by omega,by go_num,qU (by rw[<-yO.out];exact tP (by have:=Cj.out;omega) (by omega)),ae aP.out eQ.out⟩
    case measure=>simp[intOf];omega
   ·have HR:Hid (maskN (vq s e j) 8=gT s e):=aa (by rw[<-mz.out,show j=vl.length by omega])
    go_wp2_with fail
    go_ret2
    exact⟨by rw[HR.out];simp,ae bF.out aP.out⟩
theorem L1(s:Sys) (hv:verifyE s=0) (vc vs vt ve vl:Value) (l:List Int) (w:World) (hs:IsSys w s vc vs vt ve) (hN:movesN s.prob.a.states<1099511627776) (hl:aT w vl l) (hr:∀ k,k<l.length->0<=l.getD k 0/\l.getD k 0<(eS s:Int)) :
  Calls Tryz.prog 136 #[.agg (bT s.prob vc vs s.n vt ve),vl] w fun e w'=>∃ B,e=.returned (.tuple #[.pointer (some ⟨B,0,none⟩),.int .i64 0])/\Below w.heap.size w w'/\FinAt w' B s/\gH w' w.heap.size B s:=by
 have HS:=aa hs;have HL:=aa hl;have HR:=aa hr;obtain⟨⟨pc,cc,rfl⟩,⟨ps,cs,rfl⟩,⟨pt,ct,rfl⟩,⟨pe,ce,rfl⟩⟩:=bE hs;obtain⟨pl,cl,rfl,_,_,el⟩:=hl.at;have EL:=aa el;clear hs hl hr el;have HC:=aa (fun W (hb:Below w.heap.size w W)=>DG s _ _ _ _ W (HS.out.up hb) hN);have HV:=aa hv;clear hv
 go_enter Tryz.func136,Tryz.ntmps136
 go_wp2_with fail
 refine aN (fun W=>Below w.heap.size w W) (by go_grown) (fun W0 aH=>?_);refine(HC.out W0 aH).mono ?_;rintro e w1 ⟨v,rfl,aI,_,h2⟩;obtain⟨B,rfl,hF,hO⟩:=h2 HV.out;have HO:=aa (hO.mono aH.size);rw[HV.out];have cQ:=ae aH aI;have eD:=aa cQ;have HF:=aa hF;clear aH aI h2 hF hO cQ HC
 go_wp2_with fail
 go_loopw [20] (fun i wr=>∃ k:Nat,k<=l.length/\i=.int .i64 k/\Below w.heap.size w wr/\FinAt wr B s/\gH wr w.heap.size B s) (fun i _=>l.length - (intOf i).toNat)
 case atStart=>exact⟨0,by omega,rfl,eD.out,HF.out,HO.out⟩
 case round=>
  clear eD HF HO;obtain⟨k,hk,rfl,ar,hF,hO⟩:=hrel;have aP:=aa ar;have HF:=aa hF;have HO:=aa hO;clear hO;by_cases aA:k<l.length
  ·obtain⟨b1,o1,rfl,h1⟩:=EL.out k aA
   rw[Nat.mul_one]at h1;have c1:=ak ar h1.1;have hx:=HR.out k aA;rw[az 0 aA]at hx;clear h1 ar hF;generalize l[k]=x at c1 hx;obtain⟨cN,df⟩:=hx;have HT:=aa (BW s B x wr HF.out);rw[decide_eq_true cN,decide_eq_true df]at HT;clear cN df
   go_wp2_with fail
   refine HT.out.mono ?_;rintro e w2 ⟨rfl,aU⟩;clear c1
   go_wp2_with fail
   go_roundw
   case rel=>exact⟨k+1,by omega,by go_num,ae aP.out aU,HF.out.up aU,HO.out.up aU⟩
   case measure=>simp[intOf];omega
  ·clear ar hF
   go_wp2_with fail
   go_ret2
   exact⟨B,rfl,aP.out,HF.out,HO.out⟩
theorem vT(s:Sys):∀ k,lI (dQ s k)
 | 0=>oO _ _
 | _+1=>oO _ _
theorem B2(s:Sys) (hv:verifyE s=0) (hE:eS s<=256) (vc vs vt ve:Value) (w:World) (hs:IsSys w s vc vs vt ve) (hN:movesN s.prob.a.states<1099511627776) :
  Calls Tryz.prog 78 #[.agg (bT s.prob vc vs s.n vt ve)] w fun e w'=>∃ u,e=.returned (.tuple #[u,.int .i64 0])/\aT w' u (partsS s)/\Below w.heap.size w w':=by
 have HS:=aa hs;obtain⟨⟨pc,cc,rfl⟩,⟨ps,cs,rfl⟩,⟨pt,ct,rfl⟩,⟨pe,ce,rfl⟩⟩:=bE hs;clear hs;have HC:=aa (fun W (hb:Below w.heap.size w W)=>DG s _ _ _ _ W (HS.out.up hb) hN);have gg:=jc hv;have HV:=aa hv;have dB:=aa gg;have jP:=gg.n.1;have ji:=gg.n.2.1;clear hv gg
 go_enter Tryz.func78,Tryz.ntmps78
 go_wp2_with fail
 refine aN (fun W=>Below w.heap.size w W) (by go_grown) (fun W0 aH=>?_);refine(HC.out W0 aH).mono ?_;rintro e w1 ⟨v,rfl,aI,_,h2⟩;obtain⟨B,rfl,hF,-⟩:=h2 HV.out;rw[HV.out];have cQ:=ae aH aI;have eD:=aa cQ;have HF:=aa hF;clear aH aI h2 hF cQ HC
 go_wp2_with fail
 have Ss:=xK s dB.out hE B 0 (by omega) w1 HF.out;rw[show ((0:Nat):Int)=0 from rfl]at Ss;refine Ss.mono ?_;clear Ss;rintro e w2 ⟨u,rfl,hu,aU⟩;have HU:=aa hu;obtain⟨au,cu,rfl,_⟩:=hu.at;rw[jb]at HU;have cL:=aa aU;clear hu aU
 go_wp2_with fail
 go_loopw [6,7] (fun o i wr=>∃ k:Nat,k<nS s/\i=.int .i64 ((k:Int)+1)/\Below w1.heap.size w1 wr/\∃ a c,o=.slice a (eS s) c/\aT wr (.slice a (eS s) c) (dQ s k)) (fun _ i _=>nS s+1 - (intOf i).toNat)
 case atStart=>exact⟨0,by omega,rfl,cL.out,_,_,by rw[jb],by exact HU.out⟩
 case round=>
  clear HU cL;obtain⟨k,hk,rfl,ar,a,c,rfl,hu⟩:=hrel;have aP:=aa ar;have HU:=aa hu;have hF:=HF.out.up ar;obtain⟨pl,cl,h1,_⟩:=hF.open;have t1:=ab h1 0;simp at t1;have vg:=aa hF;clear ar hu hF h1;by_cases aA:k+1<nS s
  ·have nR:(k:Int)+1<(nS s:Int):=by omega
   go_wp2_with fail
   have bP:=xK s dB.out hE B (k+1) aA wr vg.out;rw[show ((k+1:Nat):Int)=(k:Int)+1 by omega]at bP;refine bP.mono ?_;rintro e w3 ⟨u2,rfl,rB,bC⟩;have qE:=aa rB;obtain⟨a2,c2,rfl,_⟩:=rB.at;have eo:=aa bC;clear rB bC t1 bP;rw[jb]at qE ⊢
   go_wp2_with fail
   refine(OD _ _ (dQ s k) (classL s (k+1)) w3 (HU.out.up up_int eo.out) qE.out (vT s k) (oO _ _) (by rw[jb,gB]) (by rw[gB];exact hE)).mono ?_;rintro e w4 ⟨u4,rfl,ly,bQ⟩;have lZ:=aa ly;obtain⟨a4,c4,rfl,_⟩:=ly.at;have fx:(kx (dQ s k) (classL s (k+1))).length=eS s:=gB s (k+1);rw[fx]at lZ ⊢;have eQ:=aa bQ;clear ly bQ fx
   go_wp2_with fail
   go_roundw
   case rel=>exact⟨k+1,aA,by go_num,ae aP.out (ae eo.out eQ.out),a4,c4,rfl,lZ.out⟩
   case measure=>simp[intOf];omega
  ·have nR:¬ (k:Int)+1<(nS s:Int):=by omega
   have HK:Hid (partsS s=dQ s k):=aa (by unfold partsS;rw[show nS s - 1=k by omega])
   go_wp2_with fail
   go_ret2
   exact⟨_,rfl,by rw[HK.out];exact HU.out,ae eD.out aP.out⟩
abbrev Vd(s:Sys) (vc vs vt ve vv vl:Value):Array Value:=bT s.prob vc vs s.n vt ve++#[vv,vl]
theorem Ra{w:World} {v:Value} {l:List Int} (h:aT w v l) {B o:Nat} {c:Array Value} {ty:TypeId} {fz:Nat × Nat} (hB:w.heap[B]?=some (.cells c ty fz)) (hy:∀ x:Int,c[o]?≠some (.int .i64 x)) (x:Value):aT (w.setCell ⟨B,o,none⟩ x) v l:=by
 obtain⟨a,cap,e,h1,h2,h3⟩:=h;refine⟨a,cap,e,h1,h2,fun i z hi=>?_⟩;obtain⟨b,o',e1,h4,h5⟩:=h3 i z hi;refine⟨b,o',e1,?_,h5⟩;have h4:w.cell? ⟨b,o'+i * 1,none⟩=some (.int .i64 z):=h4;by_cases hb:b=B
 ·subst hb
  rw[ab hB]at h4;rw[ab (aF hB o x),Array.getElem?_setIfInBounds];split
  ·rename_i h6
   rw[<-h6]at h4;exact absurd h4 (hy z)
  ·exact h4
 ·have:(w.setCell ⟨B,o,none⟩ x).cell? ⟨b,o'+i * 1,none⟩=w.cell? ⟨b,o'+i * 1,none⟩:=by
   unfold World.cell?;rw[Below.heap_setCell _ _ _ _ hb]
  exact this.trans h4
theorem JS(a:Bool):uE 0 a=.tuple #[.bool a,.int .i64 0]:=by simp[uE]
theorem nr(s:Sys) (hE:eS s<=256) (vc vs vt ve:Value) (w:World) (hs:IsSys w s vc vs vt ve) (hN:movesN s.prob.a.states<1099511627776) :
  Calls Tryz.prog 38 #[.agg (bT s.prob vc vs s.n vt ve)] w fun r w'=>∃ v,r=.returned (.tuple #[v,.int .i64 (readyE s)])/\Below w.heap.size w w'/\(readyE s≠0->v=.pointer none)/\(readyE s=0->∃ B,v=.pointer (some ⟨B,0,none⟩)/\w.heap.size<=B/\ScAt w' B s):=by
 have HS:=aa hs;obtain⟨⟨pc,cc,rfl⟩,⟨ps,cs,rfl⟩,⟨pt,ct,rfl⟩,⟨pe,ce,rfl⟩⟩:=bE hs;clear hs;have HC:=aa (fun W (hb:Below w.heap.size w W)=>oW s _ _ _ _ W (HS.out.up hb) hN);have FE:=aa (fun W (hb:Below w.heap.size w W)=>F0 s.prob.t _ W (HS.out.up hb).cases);have Vz:=aa (fun (hv:verifyE s=0) W (hb:Below w.heap.size w W)=>B2 s hv hE _ _ _ _ W (HS.out.up hb) hN);obtain⟨i0,cU,cg,bV,cj⟩:=info_parts Tryz.infoInt;have cf:=aa (And.intro cU (And.intro cg (And.intro bV cj)));have cZ:Hid (verifyE s≠0->readyE s=verifyE s):=aa fun h=>by unfold readyE;rw[if_pos h]
 have dN:Hid (verifyE s=0->agreeB s.prob.t=false->readyE s=11):=aa fun h h2=>by unfold readyE;rw[if_neg (by omega),h2];rfl
 have fm:Hid (verifyE s=0->agreeB s.prob.t=true->readyE s=0):=aa fun h h2=>by unfold readyE;rw[if_neg (by omega),h2];rfl
 have km:Hid (verifyE s=0->taskE s.prob.t=0):=aa fun h=>(qV (jc h).prob).1
 obtain⟨re,pS⟩:∃ re,readyE s=re:=⟨_,rfl⟩;rw[pS]at cZ dN fm ⊢;clear pS cU cg bV cj
 go_enter Tryz.func38,Tryz.ntmps38
 go_wp2_with fail
 refine aN (fun W=>Below w.heap.size w W/\∃ c,W.heap[w.heap.size]?=some (.cells c 35)/\c=bT s.prob _ _ s.n _ _) ⟨by go_grown,_,am _ _,rfl⟩ (fun W0 aV=>?_);obtain⟨aH,_,hA,rfl⟩:=aV;refine(HC.out W0 aH).mono ?_;rintro e w1 ⟨rfl,aI⟩;have dZ:=af aI hA;have du:=aa dZ;have bF:=aa (ae aH aI);have fP:=bF.out.size;have iI:=aB dZ;clear hA dZ aH aI HC;by_cases hv:verifyE s=0
 case neg=>
  have HV:=aa (cZ.out hv);obtain⟨ev,lT⟩:∃ ev,verifyE s=ev:=⟨_,rfl⟩;rw[lT]at hv HV ⊢;have IV:(ev != 0)=true:=by simpa using hv
  have gJ:=aa hv;clear hv lT
  go_wp2_with fail
  go_ret2
  exact⟨_,by rw[HV.out];rfl,bF.out,fun _=>rfl,fun h=>absurd (HV.out.symm.trans h) gJ.out⟩
 have HV:=aa hv;have Wg:=aa (km.out hv);have dB:=aa (jc hv);rw[hv];clear hv;have tS:=ab du.out
 go_wp2_with fail
 clear tS;refine(FE.out w1 bF.out).mono ?_;rintro e w2 ⟨rfl,aU⟩;rw[Wg.out,JS];have cL:=aa (ae bF.out aU);have pQ:=aa (af aU du.out);have mR:=aU.size;clear aU du;cases Ab:agreeB s.prob.t with
 | false=>
  have cV:=aa (dN.out HV.out Ab);clear Ab
  go_wp2_with fail
  go_ret2
  exact⟨_,by rw[cV.out];rfl,cL.out,fun _=>rfl,fun h=>by have:=cV.out;omega⟩
 | true=>
  have cV:=aa (fm.out HV.out Ab);have Aj:=aa (fun e (he:e<eS s) pw nw cw vv W (hb:Below w.heap.size w W)=>Q8 s dB.out Ab e he _ pw nw cw vv W (HS.out.up hb).cases);have E0:=aa HS.out.ex;have HK:Hid (∀ k,k<eS s->_):=aa (fun k (hk:k<eS s)=>it dB.out E0.out hk)
  have iS:Hid (∀ k,k<=eS s->∀ x∈(List.range k).map (fun e=>((gT s e:Nat):Int)),bM x):=aa (fun k _ x hx=>by
   obtain⟨e,_,rfl⟩:=List.mem_map.1 hx;have:=gS (valB s e) 8;unfold gT
   exact⟨by omega,by omega⟩)
  obtain⟨L,hL⟩:∃ L:Nat->List Int,L=fun k=>(List.range k).map (fun e=>((gT s e:Nat):Int)):=⟨_,rfl⟩
  have HL:Hid (L 0=[]/\(∀ k,L (k+1)=L k++[((gT s k:Nat):Int)])/\L (eS s)=Dl s/\(∀ k,(L k).length=k)/\∀ k,k<=eS s->∀ x∈L k,bM x):=aa (by
   subst hL
   exact⟨rfl,fun k=>by simp[List.range_succ],rfl,fun k=>by simp,iS.out⟩)
  clear hL Ab;obtain⟨m,hm⟩:∃ m,eS s=m:=⟨_,rfl⟩;have HM:=aa hm;have jF:s.ex.length=m:=hm;have tS:=ab pQ.out;have t9:∀ o,(w2.alloc o).cell? ⟨w.heap.size,9,none⟩=some (.slice pe m ce):=fun o=>(ab (ap o pQ.out) 9).trans (by rw[<-jF];rfl)
  rw[hm]at hE HK HL;clear hm jF
  go_wp2_with fail
  clear tS t9;refine bm (fun W=>Below w2.heap.size w2 W/\∃ c,W.heap[w2.heap.size]?=some (.cells c 98)/\c=Vd s (.slice pc s.prob.t.cases.length cc) (.slice ps s.prob.a.states.length cs) (.slice pt s.tab.length ct) (.slice pe s.ex.length ce) (.slice none 0 0) (.slice none 0 0)) ⟨by go_grown,_,am _ _,rfl⟩ (fun W3 rj=>?_);obtain⟨bC,_,uQ,rfl⟩:=rj;have Py:w.heap.size<w2.heap.size:=aB pQ.out;obtain⟨B,WG⟩:∃ B,w2.heap.size=B:=⟨_,rfl⟩;rw[WG]at uQ Py ⊢;have Pf:=aa WG;have Ji:=aa (And.intro bC uQ);clear bC uQ WG
  go_loopw [37] (fun i wr=>∃ k:Nat,k<=m/\i=.int .i64 k/\Below w2.heap.size w2 wr/\∃ lv,wr.heap[B]?=some (.cells (Vd s (.slice pc s.prob.t.cases.length cc) (.slice ps s.prob.a.states.length cs) (.slice pt s.tab.length ct) (.slice pe s.ex.length ce) lv (.slice none 0 0)) 98)/\aG wr w2.heap.size 3 1 lv k ((L k).map (Value.int .i64))) (fun i _=>m - (intOf i).toNat)
  case atStart=>exact⟨0,by omega,rfl,Ji.out.1,_,Ji.out.2,by rw[HL.out.1];exact aG.nil _ _ _ _⟩
  case round=>
   clear Ji;obtain⟨k,hk,rfl,ar,lv,hB,aX⟩:=hrel;obtain⟨al,cl,rfl⟩:=aX.slice;have HB:=aa hB;have bI:=aa aX;have aP:=aa ar;have sW:=af ar pQ.out;have Xg:=aa sW;have cQ:=ae cL.out ar;have eD:=aa cQ;have AE:=ar.size;have uO:=aB hB;by_cases aA:k<m
   ·obtain⟨b,o,_,ce',e0,rfl,pw,nw,cw,pv,cv,c1,c2,c3,lP,eF,gI,-⟩:=HK.out k aA
    injection e0 with e01 e02 e03
    subst e01;have A6:nw<=6:=by have:=dB.out.rounds;omega
    clear e02 e03;have d1:=ak cQ c1;have d2:=ak cQ c2;have d3:=ak cQ c3;have tA:∀ o' j,(wr.alloc o').cell? ⟨w.heap.size,j,none⟩=(bT s.prob (.slice pc s.prob.t.cases.length cc) (.slice ps s.prob.a.states.length cs) s.n (.slice pt s.tab.length ct) (.slice (some ⟨b,o,none⟩) s.ex.length ce))[j]?:=fun o' j=>ab (ap o' sW) j
    have nH:=aa (fun W (hb:Below w.heap.size w W)=>Aj.out k (by rw[HM.out];exact aA) pw nw cw (.slice pv (s.prob.rounds.toNat+1) cv) W hb A6 (fun h=>by obtain⟨b1,o1,q1,q2⟩:=eF h;exact⟨b1,o1,q1,ak hb q2⟩) gI);clear aX ar sW cQ c1 c2 c3 lP eF gI hB
    go_wp2_with fail
    refine aN (fun W=>Below wr.heap.size wr W) (by go_grown) (fun W4 bQ=>?_);refine(nH.out W4 (ae eD.out bQ)).mono ?_;rintro r w5 ⟨rfl,dx⟩;have gK:=ae bQ dx;have lY:=aa (af gK HB.out);have tB:w5.cell? ⟨B,10,none⟩=some (.slice al k cl):=(ab lY.out 10).trans rfl;have Cw:=aa ((bI.out.up gK).up ((Below.refl _ w5).alloc (Nat.le_refl _) (.cells #[.int .i64 ((gT s k:Nat):Int)] 3)));have bz:=aa (dF w5 [.int .i64 ((gT s k:Nat):Int)] 3);have rN:=aa (ae aP.out gK);have jN:Hid (k+1<=maxLen):=aa (by unfold maxLen;omega);have eJ:Hid ((k+1) * 8<=140737488355328):=aa (by omega);have gq:Hid (w2.heap.size<=(w5.alloc (.cells #[.int .i64 ((gT s k:Nat):Int)] 3)).heap.size):=aa (by have:=rN.out.size;simp;omega);clear bQ dx gK tA d1 d2 d3 nH
    go_wp2_with (at_builtin;(refine aY _ rfl (.tmp 56) (.tmp 58) 38 rfl w2.heap.size 3 i0 _ 1 8 Tryz.underlying38 cf.out.1 cf.out.2.1 cf.out.2.2.1 cf.out.2.2.2 rfl (by decide) _ k _ rfl Cw.out ⟨w5.heap.size,0,none⟩ 1 1 [.int .i64 ((gT s k:Nat):Int)] rfl rfl bz.out (by simp[Value.oneCell']) jN.out eJ.out gq.out ?_;intro v6 w6 fc eA _;obtain⟨av6,cv6,rfl⟩:=fc.slice;have Tu:=gU Cw.out eA lY.out (by decide);have c6:w6.cell? ⟨B,10,none⟩=some _:=(ab Tu 10).trans rfl;have f6:=aE Tu 10))
    go_roundw
    case rel=>
     refine⟨k+1,by omega,by go_num,(BM rN.out rN.out.size (Nat.le_refl _) Cw.out eA).setCell (by dsimp only;rw[Pf.out];exact Nat.le_refl _) _,.slice av6 (k+1) cv6,?_,?_⟩
     ·rw[aF Tu];rfl
     ·rw[HL.out.2.1 k,List.map_append]
      exact fc.put (fc.ne Tu (by decide)) _ _
    case measure=>simp[intOf];omega
   ·obtain rfl:k=m:=by omega
    have tA:∀ j,wr.cell? ⟨w.heap.size,j,none⟩=_:=fun j=>ab sW j
    clear aX ar sW cQ hB
    go_wp2_with fail
    refine(Vz.out HV.out wr eD.out).mono ?_;rintro r w4 ⟨u,rfl,hu,bQ⟩;have uZ:=af bQ HB.out;have c4:w4.cell? ⟨B,11,none⟩=some _:=(ab uZ 11).trans rfl;have f4:=aE uZ 11;obtain⟨au,cu,rfl,_⟩:=hu.at;have HU:=aa hu;have eQ:=aa uZ;have nO:=aa bQ;clear tA hu uZ bQ
    go_wp2_with fail
    go_ret2
    have CI:Below w.heap.size w (w4.setCell ⟨B,11,none⟩ (.slice au (partsS s).length cu)):=(ae eD.out nO.out).setCell (by dsimp only;omega) _;refine⟨_,by rw[cV.out];rfl,CI,fun h=>absurd cV.out h,fun _=>⟨B,rfl,by omega,⟨.slice pc s.prob.t.cases.length cc,.slice ps s.prob.a.states.length cs,.slice pt s.tab.length ct,.slice pe s.ex.length ce,.slice al k cl,.slice au (partsS s).length cu,(aF eQ.out 11 (.slice au (partsS s).length cu)).trans rfl,HS.out.up CI,?_,?_⟩⟩⟩
    ·have h1:=(bI.out.up nO.out).put ((bI.out.up nO.out).ne eQ.out (by decide)) 11 (.slice au (partsS s).length cu)
     have h2:=HL.out.2.2.1;have h3:=HL.out.2.2.2.1 k;rw[h2]at h1 h3;exact gu (l:=Dl s) (base:=w2.heap.size) (by rw[h3];exact h1) (by rw[<-h2];exact HL.out.2.2.2.2 k (Nat.le_refl _)) (by omega)
    ·exact Ra HU.out eQ.out (by intro x;simp) _
theorem OH(x:Nat) (hx:x<256) (cN:x≠0) (w:World) (hT:ij w) :
  Calls Tryz.prog 178 #[.int .u64 x] w fun e w'=>e=.returned (.int .i64 (Lib.ctz 64 x))/\w=w':=by
 obtain⟨Nb,hk⟩:=Lib.lowest_bit 64 x cN (by omega);obtain⟨hi,yo⟩:=Lib.deBruijn64_at _ hk;have eB:=hT _ hi;rw[yo]at eB;exact TZ x _ _ w (by simp;omega) (tz64_key x _ (by omega) cN Nb) hi hk eB
theorem Uz(x:Nat) (hx:x<256) (cN:x≠0) (w:World) (hT:ij w) :
  Calls Tryz.prog 133 #[.int .u64 x] w fun e w'=>e=.returned (.int .i64 (Lib.ctz 64 x))/\w=w':=by
 have HC:=aa (OH x hx cN w hT);clear hT
 go_enter Tryz.func133,Tryz.ntmps133
 go_wp2_with fail
 refine HC.out.mono ?_;rintro e w' ⟨rfl,rfl⟩
 go_wp2_with fail
 go_ret
 exact⟨rfl,rfl⟩
theorem ctz_first:∀ x,x<256->x≠0->((Lib.ctz 64 x:Nat):Int)=firstIx 8 fun i=>x.testBit i:=by decide +kernel
theorem B3(q:Nat->Bool) (w:World) (hT:ij w) :
  Calls Tryz.prog 83 #[.int .i64 (maskN q 8:Nat)] w fun e w'=>e=.returned (.int .i64 (firstIx 8 q))/\w=w':=by
 have aA:maskN q 8<256:=gS q 8;have HZ:Hid (maskN q 8=0->firstIx 8 q=-1):=aa fun h=>dG _ _ ((fG _ _).1 ((nh q 8).1 h))
 have HN:Hid (maskN q 8≠0->((Lib.ctz 64 (maskN q 8):Nat):Int)=firstIx 8 q):=aa fun h=>by
  rw[ctz_first _ aA h];refine l4 _ _ _ fun j hj=>?_
  rw[dI,decide_eq_true hj,Bool.true_and]
 have HC:=aa (fun h=>Uz (maskN q 8) aA h w hT);generalize maskN q 8=x at *;clear hT;by_cases h0:x=0
 ·have HR:=aa (HZ.out h0)
  have hd:((x:Int) == 0)=true:=by simp[h0]
  clear h0
  go_enter Tryz.func83,Tryz.ntmps83
  go_wp2_with fail
  go_ret
  exact⟨aD (by rw[HR.out]),rfl⟩
 ·have HR:=aa (HN.out h0)
  have uU:=aa (HC.out h0);have hd:((x:Int) == 0)=false:=by simp;omega
  have hw:IntKind.u64.wrap (x:Int)=x:=by simp[IntKind.wrap,IntKind.bits];omega
  clear h0
  go_enter Tryz.func83,Tryz.ntmps83
  go_wp2_with fail
  refine uU.out.mono ?_;rintro e w' ⟨rfl,rfl⟩
  go_wp2_with fail
  go_ret
  exact⟨aD (by rw[HR.out]),rfl⟩
def maxTo(l:List Int):Nat->Int
 | 0=>l.getD 0 0
 | k+1=>max (maxTo l k) (l.getD (k+1) 0)
theorem Hi(l:List Int):∀ k i,i<=k->l.getD i 0<=maxTo l k
 | 0,i,h=>by
  obtain rfl:i=0:=by omega
  exact Int.le_refl _
 | k+1,i,h=>by
  rw[maxTo];by_cases e:i=k+1
  ·subst e;omega
  ·have:=Hi l k i (by omega);omega
theorem AW(l:List Int):∀ k,∃ i,i<=k/\maxTo l k=l.getD i 0
 | 0=>⟨0,Nat.le_refl _,rfl⟩
 | k+1=>by
  obtain⟨i,hi,e⟩:=AW l k;rw[maxTo];by_cases h:maxTo l k<=l.getD (k+1) 0
  ·exact⟨k+1,Nat.le_refl _,by omega⟩
  ·exact⟨i,by omega,by omega⟩
theorem F1(v:Value) (l:List Int) (w:World) (hv:aT w v l) (h0:0<l.length) :
  Calls Tryz.prog 82 #[v] w fun e w'=>e=.returned (.int .i64 (maxTo l (l.length - 1)))/\w=w':=by
 obtain⟨pa,ca,rfl,lt1,lt2,ea⟩:=hv.at;have EA:=aa ea;obtain⟨b0,o0,rfl,c0,-⟩:=ea 0 h0;rw[Nat.zero_mul,Nat.add_zero,<-az 0 h0]at c0;clear hv ea
 go_enter Tryz.func82,Tryz.ntmps82
 go_wp2_with fail
 clear c0
 go_loop [3,4] (fun m i=>∃ k:Nat,k<l.length/\i=.int .i64 ((k:Int)+1)/\m=.int .i64 (maxTo l k)) (fun _ i=>l.length+1 - (intOf i).toNat)
 case atStart=>exact⟨0,h0,rfl,qU (by rw[maxTo,az 0 h0])⟩
 case round=>
  obtain⟨k,hk,rfl,rfl⟩:=hrel;by_cases aA:k+1<l.length
  ·obtain⟨b1,o1,e1,c1,-⟩:=EA.out (k+1) aA
   cases e1
   rw[Nat.mul_one,<-az 0 aA]at c1;have c2:w.cell? ⟨b0,o0+(k+1),none⟩=some (.int .i64 (l.getD (k+1) 0)):=c1;have HM:Hid (maxTo l (k+1)=max (maxTo l k) (l.getD (k+1) 0)):=aa rfl;generalize l.getD (k+1) 0=x at c1 c2 HM;generalize maxTo l k=m at HM;have nR:(k:Int)+1<(l.length:Int):=by omega
   go_wp2_with fail
   go_round
   case rel=>exact⟨k+1,aA,by go_num,qU (by rw[HM.out])⟩
   case measure=>simp[intOf];omega
  ·have nR:¬ (k:Int)+1<(l.length:Int):=by omega
   have HK:Hid (l.length - 1=k):=aa (by omega)
   go_wp2_with fail
   go_ret
   exact⟨aD (by rw[HK.out]),rfl⟩
end Go.Proofs.YtmeaoneaephjeaaGreatDoor
