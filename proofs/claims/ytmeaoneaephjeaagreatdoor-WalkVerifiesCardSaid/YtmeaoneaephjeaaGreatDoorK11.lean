/-
  A part of the proof: lemmas and contracts that the parts behind it use. Each one's conditions are its own premises.
-/
import Derived.OwnWalkIn
import Derived.Laws.Tables
import Derived.Test.YtmeaoneaephjeaaGreatDoorK10
set_option maxRecDepth 100000
set_option maxHeartbeats 8000000
set_option linter.unusedVariables false
set_option linter.unusedSimpArgs false
namespace Go.Proofs.YtmeaoneaephjeaaGreatDoor
open Go.RowKit Go Go.Shelf
structure ChT (n:Nat) (T:Nat->Prop) (A A':World):Prop where
 os:A'.os=A.os
 tape:A'.tape=A.tape
 output:A'.output=A.output
 size:A.heap.size<=A'.heap.size
 low:∀ k,k<n->A'.heap[k]?=A.heap[k]?
 same:∀ k o,A.heap[k]?=some o->o.isCells=true->¬ T k->A'.heap[k]?=some o
theorem ChT.of_below{n:Nat} {T:Nat->Prop} {A A':World} (hn:n<=A.heap.size) (h:Below A.heap.size A A'):ChT n T A A':=
 ⟨h.os,h.tape,h.output,h.size,fun k hk=>h.block k (by omega),fun _ _ hk _ _=>af h hk⟩
theorem ChT.of_chg{n B:Nat} {T:Nat->Prop} {A A':World} (h:Chg B A A') (hB:n<=B) (hn:n<=A.heap.size):ChT n T A A':=
 ⟨h.os,h.tape,h.output,h.size,fun k hk=>by
  have h1:A.heap[k]?=some A.heap[k]:=Array.getElem?_eq_getElem (by omega)
  rw[h.same k _ h1 (.inl (by omega)),h1],fun _ _ hk ho _=>h.same _ _ hk (.inr ho)⟩
theorem ChT.mono{n m:Nat} {T:Nat->Prop} {A A':World} (h:ChT n T A A') (hm:m<=n):ChT m T A A':=⟨h.os,h.tape,h.output,h.size,fun k hk=>h.low k (by omega),h.same⟩
theorem ChT.below{n m:Nat} {T:Nat->Prop} {w A A':World} (h:ChT n T A A') (hm:m<=n) (hb:Below m w A):Below m w A':=
 ⟨h.os.trans hb.os,h.tape.trans hb.tape,h.output.trans hb.output,Nat.le_trans hb.size h.size,fun k hk=>(h.low k (by omega)).trans (hb.block k hk)⟩
theorem ChT.set{n b:Nat} {T:Nat->Prop} {A:World} (hT:T b) (hn:n<=b) (o:Nat) (v:Value):ChT n T A (A.setCell ⟨b,o,none⟩ v):=
 ⟨rfl,rfl,rfl,by simp,fun k hk=>Below.heap_setCell _ _ _ _ (by dsimp only;omega),fun k x hk _ ht=>by
  rw[Below.heap_setCell _ _ _ _ (show k≠b from fun e=>ht (e ▸ hT))];exact hk⟩
structure Bdx (B:Nat) (W W':World):Prop where
 size:W.heap.size<=W'.heap.size
 same:∀ (k:Nat) (o:Obj),B<=k->W.heap[k]?=some o->o.isCells=false->W'.heap[k]?=some o
theorem Bod.out{B:Nat} {S:Nat->Prop} {W W':World} (h:Bod B S W W'):Bdx B W W':=⟨h.size,h.same⟩
theorem Bdx.trans{B:Nat} {X Y Z:World} (h:Bdx B X Y) (k:Bdx B Y Z):Bdx B X Z:=⟨Nat.le_trans h.size k.size,fun i o hB hi ho=>k.same i o hB (h.same i o hB hi ho) ho⟩
def Hp(B:Nat) (S:Nat->Prop) (I:Nat->World->Prop) (Ix:Code->Nat->World->Prop) (i:Nat) (W:World):Exit->Act->World->Prop
 | .normal,_,W'=>Bod B S W W'/\I i W'
 | .ret,_,W'=>Bdx B W W'/\Ix .ret i W'
 | .exit id,_,W'=>Bdx B W W'/\Ix (.exit id) i W'
 | .goto t,_,W'=>Bdx B W W'/\Ix (.goto t) i W'
 | .panic _,_,_=>False
 | .outgrown,_,_=>False
theorem EQ{P:Program} {B:Nat} {S:Nat->Prop} {ps:Array Tmp} {assign body:Code} {tmps:Array Value} {l i:Nat} {I:Nat->World->Prop} {Ix:Code->Nat->World->Prop} {W:World} {args:Array Value} {r:Loop} (R:Ending->World->Prop)
  (uJ:B<=l) (qp:¬ S l) (hr:r.params=ps/\r.assign=assign/\r.body=body/\r.tmps=tmps/\r.state=.ready/\r.pending=none) (hl:W.heap[l]?=some (.loop r)) (yv:args.size=ps.size)
  (kS:assign.wpIn (Fence.wide.inRound l) 0 P (Exit.then (fun a1 W1=>Bod B S W W1/\∃ Ax:World->Prop,cI B Ax/\Ax W1/\∀ W2,Ax W2->(∃ r,W2.heap[l]?=some (.loop r))->body.wpIn (Fence.wide.inRound l) 0 P (Hp B S I Ix (i+1) W2) a1 W2) (fun _ _ _=>False))
   { tmps:=(ps.zip args).foldl (fun t (p,v)=>t.setIfInBounds p v) tmps,defers:=[] } W)
  (rj:∀ W3 W4,W.heap.size<=W3.heap.size->Bod (l+1) S W W4->W4.heap[l]?=some (.loop r)->Chg B W3 W4->I (i+1) W3->(∀ k o,B<=k->k≠l->W.heap[k]?=some o->o.isCells=false->W4.heap[k]?=some o)->R (.returned (.bool true)) W4)
  (lV:∀ c W3 W4,W.heap.size<=W3.heap.size->W.heap.size<=W4.heap.size->W4.heap[l]?=some (.loop { r with state:=.done,pending:=some c })->Chg B W3 W4->Ix c (i+1) W3->(∀ k o,B<=k->k≠l->W.heap[k]?=some o->o.isCells=false->W4.heap[k]?=some o)->R (.returned (.bool false)) W4) :
  YieldAt Fence.wide 0 P l args W R:=by
 obtain⟨h1,h2,h3,h4,h5,h6⟩:=hr;refine⟨r.fn,_,r.assign,r.body,run_yield hl (by rw[h1];exact yv),roundIn_of_wpIn trivial ?_⟩;rw[h1,h2,h3,h4];refine wpIn_mono kS ?_;rintro e a1 W1 hp;cases e<;>first|exact hp.elim|skip
 obtain⟨Bh,Ax,VN,VL,Mr⟩:=hp;have gt:W1.heap[l]?=some (.loop r):=Bh.same l _ uJ hl rfl;have mD:(W1.putObj l (.loop { r with state:=.busy })).heap[l]?=some (.loop { r with state:=.busy }):=World.putObj_heap_same (ar gt);have aV:Bod (l+1) S W (W1.putObj l (.loop { r with state:=.busy })):=(Bh.mono (by omega)).trans (Bod.put _ _ qp)
 have ku:∀ k o,B<=k->k≠l->W.heap[k]?=some o->o.isCells=false->(W1.putObj l (.loop { r with state:=.busy })).heap[k]?=some o:=
  fun k o hk bM ho hc=>(World.putObj_heap_other bM).trans (Bh.same k o hk ho hc)
 refine⟨_,run_beginRound gt h5,wpIn_mono (Mr _ (VN _ _ (Chg.put _ gt uJ rfl) VL) ⟨_,mD⟩) ?_⟩;generalize W1.putObj l (.loop { r with state:=.busy })=W2 at mD aV ku;rintro e a3 W3 hp
 have fin:∀ (jump:Option Code),Bod B S W2 W3->(Instr.endRound l jump).run P W3=.ok (.bool jump.isNone) (W3.putObj l (.loop { r with state:=if jump.isNone then .ready else .done,pending:=jump })) ∧
   (W3.putObj l (.loop { r with state:=if jump.isNone then .ready else .done,pending:=jump })).heap[l]?=some (.loop { r with state:=if jump.isNone then .ready else .done,pending:=jump }) ∧
   Chg B W3 (W3.putObj l (.loop { r with state:=if jump.isNone then .ready else .done,pending:=jump }))/\Bod (l+1) S W (W3.putObj l (.loop { r with state:=if jump.isNone then .ready else .done,pending:=jump })) ∧
   (∀ k o,B<=k->k≠l->W.heap[k]?=some o->o.isCells=false->(W3.putObj l (.loop { r with state:=if jump.isNone then .ready else .done,pending:=jump })).heap[k]?=some o):=fun jump bA=>by
  have sN:=bA.same l _ uJ mD rfl
  exact⟨run_endRound (r:={ r with state:=.busy }) jump sN,World.putObj_heap_same (ar sN),Chg.put _ sN uJ rfl,(aV.trans (bA.mono (by omega))).trans (Bod.put _ _ qp),
   fun k o hk bM ho hc=>(World.putObj_heap_other bM).trans (bA.same k o hk (ku k o hk bM ho hc) hc)⟩
 have fin2:∀ (jump:Option Code),Bdx B W2 W3->(Instr.endRound l jump).run P W3=.ok (.bool jump.isNone) (W3.putObj l (.loop { r with state:=if jump.isNone then .ready else .done,pending:=jump })) ∧
   (W3.putObj l (.loop { r with state:=if jump.isNone then .ready else .done,pending:=jump })).heap[l]?=some (.loop { r with state:=if jump.isNone then .ready else .done,pending:=jump }) ∧
   Chg B W3 (W3.putObj l (.loop { r with state:=if jump.isNone then .ready else .done,pending:=jump }))/\W.heap.size<=(W3.putObj l (.loop { r with state:=if jump.isNone then .ready else .done,pending:=jump })).heap.size ∧
   (∀ k o,B<=k->k≠l->W.heap[k]?=some o->o.isCells=false->(W3.putObj l (.loop { r with state:=if jump.isNone then .ready else .done,pending:=jump })).heap[k]?=some o):=fun jump bA=>by
  have sN:=bA.same l _ uJ mD rfl
  exact⟨run_endRound (r:={ r with state:=.busy }) jump sN,World.putObj_heap_same (ar sN),Chg.put _ sN uJ rfl,by simpa using Nat.le_trans aV.size bA.size,
   fun k o hk bM ho hc=>(World.putObj_heap_other bM).trans (bA.same k o hk (ku k o hk bM ho hc) hc)⟩
 cases e with
 | normal=>
  obtain⟨bA,hi⟩:=hp;obtain⟨f1,f2,f3,f4,f5⟩:=fin none bA;refine⟨_,_,f1,rj W3 _ (Nat.le_trans aV.size bA.size) f4 ?_ f3 hi f5⟩;rw[f2];cases r;simp_all
 | ret=>
  obtain⟨bA,hi⟩:=hp;obtain⟨f1,f2,f3,f4,f5⟩:=fin2 (some .ret) bA;exact⟨_,_,f1,lV .ret W3 _ (Nat.le_trans aV.size bA.size) f4 f2 f3 hi f5⟩
 | exit id=>
  obtain⟨bA,hi⟩:=hp;obtain⟨f1,f2,f3,f4,f5⟩:=fin2 (some (.exit id)) bA;exact⟨_,_,f1,lV (.exit id) W3 _ (Nat.le_trans aV.size bA.size) f4 f2 f3 hi f5⟩
 | goto t=>
  obtain⟨bA,hi⟩:=hp;obtain⟨f1,f2,f3,f4,f5⟩:=fin2 (some (.goto t)) bA;exact⟨_,_,f1,lV (.goto t) W3 _ (Nat.le_trans aV.size bA.size) f4 f2 f3 hi f5⟩
 | panic ch=>exact hp.elim
 | outgrown=>exact hp.elim
theorem OM{P:Program} {g:Operand} {ps:Array Tmp} {assign body:Code} {Q:Exit->Act->World->Prop} {a:Act} {w:World}
  {gf:Nat} {lb:Array Value} (hg:a.eval g=.func (.func gf) #[] lb) (eg:∀ args w,(callFunc gf args).run P w=.ok (.enter gf args) w)
  {encs:Nat->Array Value} {N:Nat} {S:Nat->Prop} {w0:World} (da:rH P gf lb encs N S w0) (aC:Below w0.heap.size w0 w) (hS:∀ k,S k->k<w.heap.size) (yv:∀ i,(encs i).size=ps.size)
  (I:Nat->World->Prop) (Ix:Code->Nat->World->Prop) (hI:∀ i,cI w.heap.size (I i)) (sC:∀ c i,cI w.heap.size (Ix c i)) (h0:I 0 w)
  (kS:∀ l i W,i<N->w.heap.size<=l->I i W →
   assign.wpIn (Fence.wide.inRound l) 0 P (Exit.then (fun a1 W1=>Bod w.heap.size S W W1/\∃ Ax:World->Prop,cI w.heap.size Ax/\Ax W1/\∀ W2,Ax W2->(∃ r,W2.heap[l]?=some (.loop r))->body.wpIn (Fence.wide.inRound l) 0 P (Hp w.heap.size S I Ix (i+1) W2) a1 W2) (fun _ _ _=>False))
    { tmps:=(ps.zip (encs i)).foldl (fun t (p,v)=>t.setIfInBounds p v) a.tmps,defers:=[] } W)
  (wj:∀ D W,w.heap.size<=D->I N W->W.heap[D]?=some (.deferred (some []))->Q .normal { a with defers:=gZ D :: a.defers } W)
  (wh:∀ D c i W,w.heap.size<=D->i<=N->Ix c i W->W.heap[D]?=some (.deferred (some []))->c.wp P Q { a with defers:=gZ D :: a.defers } W) :
  (Code.rangeFunc g ps assign body).wp P Q a w:=by
 refine(wpIn_wide (n:=0)).1 (wpIn_rangeFunc ?_);intro fn _;obtain⟨rec,j7⟩:∃ rec:Loop,rec={ state:=.ready,pending:=none,fn,tmps:=a.tmps,params:=ps,assign,body,defers:=w.heap.size }:=⟨_,rfl⟩;obtain⟨W1,cC⟩:∃ W1,(w.alloc (.deferred (some []))).alloc (.loop rec)=W1:=⟨_,rfl⟩
 have Js:W1.heap[w.heap.size+1]?=some (.loop rec):=by
  rw[<-cC];have:=ak (w.alloc (.deferred (some []))) (.loop rec);rwa [World.size_alloc]at this
 have Ji:W1.heap[w.heap.size]?=some (.deferred (some [])):=by rw[<-cC];exact am _ (ak w _)
 have rq:Below w.heap.size w W1:=by rw[<-cC];exact((Below.refl _ w).alloc (Nat.le_refl _) _).alloc (by simp) _
 have Py:¬ S (w.heap.size+1):=fun h=>by have:=hS _ h;omega
 refine⟨w.heap.size+1,[gZ w.heap.size],W1,{ target:=.fn (.func gf) lb,args:=#[.func (.yield (w.heap.size+1)) #[] #[]] },W1,gf,
  #[.func (.yield (w.heap.size+1)) #[] #[]]++lb,W1,?_,?_,fun _ _=>trivial,?_,fun h=>(by simp[Fence.wide]at h),?_⟩
 ·rw[<-cC,j7];exact run_enterLoop_outer _ _ _ _ _
 ·simp only[resolve,hg]
  simp[go_sem]
 ·simp[invoke,go_sem,eg]
 ·refine(callsIn_wide (n:=0 - 1)).2 ?_
  refine(da (w.heap.size+1)
   (fun i W=>I i W/\W.heap[w.heap.size+1]?=some (.loop rec)/\W.heap[w.heap.size]?=some (.deferred (some [])))
   (fun i W=>∃ c,Ix c i W/\W.heap[w.heap.size+1]?=some (.loop { rec with state:=.done,pending:=some c })/\W.heap[w.heap.size]?=some (.deferred (some [])))
   W1 (ae aC rq)
   (fun i A A' h hb=>⟨hI i A A' (.of_below hb) h.1,af hb h.2.1,af hb h.2.2⟩)
   (fun i A A' h hb=>by obtain⟨c,h1,h2,h3⟩:=h;exact⟨c,sC c i A A' (.of_below hb) h1,af hb h2,af hb h3⟩)
   ?_ ⟨hI 0 _ _ (.of_below rq) h0,Js,Ji⟩).mono ?_
  ·rintro i W hi ⟨Iz,hl,hk⟩
   refine EQ (B:=w.heap.size) (S:=S) (ps:=ps) (assign:=assign) (body:=body) (tmps:=a.tmps) (i:=i) (I:=I) (Ix:=Ix) _ (by omega) Py (by rw[j7];simp) hl (yv i) (kS _ i W hi (by omega) Iz) ?_ ?_
   ·intro W3 W4 _ cg ny hc ri lF
    exact .inl ⟨rfl,⟨hI _ _ _ hc ri,ny,lF _ _ (Nat.le_refl _) (by omega) hk rfl⟩,cg.size,cg.keep⟩
   ·intro c W3 W4 _ _ ny hc ri lF
    exact .inr ⟨rfl,c,sC _ _ _ _ hc ri,ny,lF _ _ (Nat.le_refl _) (by omega) hk rfl⟩
  ·rintro e W2 ⟨⟨v,rfl⟩,(⟨hi,hl,hk⟩|⟨i,cP,c,hi,hl,hk⟩)⟩
   ·exact⟨none,_,by have:=run_endLoop (P:=P) hl (by rw[j7];simp);rw[this,j7],wj _ _ (Nat.le_refl _) (hI _ _ _ (Chg.put _ hl (by omega) rfl) hi) ((World.putObj_heap_other (by omega)).trans hk)⟩
   ·exact⟨some c,_,by have:=run_endLoop (P:=P) hl (by simp);rw[this],wpIn_wide.2 (wh _ c i _ (Nat.le_refl _) cP (sC _ _ _ _ (Chg.put _ hl (by omega) rfl) hi) ((World.putObj_heap_other (by omega)).trans hk))⟩
def SJ(P:Program) (g:Nat) (lb:Array Value) (E:Nat->Array Value->Prop) (N:Nat) (S:Nat->Prop) (w:World):Prop:=
 ∀ (l:Nat) (J Jx:Nat->(Nat->Prop)->World->Prop) (W:World),Below w.heap.size w W->l<W.heap.size →
  (∀ i T T' A A',J i T A->ChT W.heap.size T A A'->gr A A' T T'->J i T' A')->(∀ i T T' A A',Jx i T A->ChT W.heap.size T A A'->gr A A' T T'->Jx i T' A') →
  (∀ i T W1 args,i<N->E i args->J i T W1->W.heap.size<=W1.heap.size->YieldAt Fence.wide 0 P l args W1 fun e W'=>
   W1.heap.size<=W'.heap.size/\(∀ k o,W.heap.size<=k->W1.heap[k]?=some o->o.isCells=false->W'.heap[k]?=some o)/\((e=.returned (.bool true)/\(∀ k,T k\/S k->k<W1.heap.size->W'.heap[k]?=W1.heap[k]?)/\J (i+1) T W')\/(e=.returned (.bool false)/\Jx (i+1) T W'))) →
  J 0 (fun _=>False) W →
  Calls P g (#[.func (.yield l) #[] #[]]++lb) W fun e W'=>(∃ v,e=.returned v)/\∃ T,J N T W'\/∃ i,i<=N/\Jx i T W'
theorem Md{P:Program} {g:Operand} {ps:Array Tmp} {assign body:Code} {Q:Exit->Act->World->Prop} {a:Act} {w:World}
  {gf:Nat} {lb:Array Value} (hg:a.eval g=.func (.func gf) #[] lb) (eg:∀ args w,(callFunc gf args).run P w=.ok (.enter gf args) w)
  {E:Nat->Array Value->Prop} {N:Nat} {S:Nat->Prop} {w0:World} (da:SJ P gf lb E N S w0) (aC:Below w0.heap.size w0 w) (hS:∀ k,S k->k<w.heap.size) (yv:∀ i args,E i args->args.size=ps.size)
  (I:Nat->(Nat->Prop)->World->Prop) (Ix:Code->Nat->(Nat->Prop)->World->Prop)
  (hI:∀ i T T' A A',I i T A->ChT w.heap.size T A A'->gr A A' T T'->I i T' A') (sC:∀ c i T T' A A',Ix c i T A->ChT w.heap.size T A A'->gr A A' T T'->Ix c i T' A') (h0:I 0 (fun _=>False) w)
  (kS:∀ l i T W args,i<N->w.heap.size<l->l<W.heap.size->(∀ k,T k->w.heap.size+2<=k)->E i args->I i T W →
   assign.wpIn (Fence.wide.inRound l) 0 P (Exit.then (fun a1 W1=>Bod w.heap.size (fun k=>(T k\/S k)/\k<W.heap.size) W W1/\∃ Ax:World->Prop,cI w.heap.size Ax/\Ax W1/\∀ W2,Ax W2->(∃ r,W2.heap[l]?=some (.loop r))->body.wpIn (Fence.wide.inRound l) 0 P (Hp w.heap.size (fun k=>(T k\/S k)/\k<W.heap.size) (fun i=>I i T) (fun c i=>Ix c i T) (i+1) W2) a1 W2) (fun _ _ _=>False))
    { tmps:=(ps.zip args).foldl (fun t (p,v)=>t.setIfInBounds p v) a.tmps,defers:=[] } W)
  (wj:∀ D T W,w.heap.size<=D->I N T W->W.heap[D]?=some (.deferred (some []))->Q .normal { a with defers:=gZ D :: a.defers } W)
  (wh:∀ D c i T W,w.heap.size<=D->i<=N->Ix c i T W->W.heap[D]?=some (.deferred (some []))->c.wp P Q { a with defers:=gZ D :: a.defers } W) :
  (Code.rangeFunc g ps assign body).wp P Q a w:=by
 refine(wpIn_wide (n:=0)).1 (wpIn_rangeFunc ?_);intro fn _;obtain⟨rec,j7⟩:∃ rec:Loop,rec={ state:=.ready,pending:=none,fn,tmps:=a.tmps,params:=ps,assign,body,defers:=w.heap.size }:=⟨_,rfl⟩;obtain⟨W1,cC⟩:∃ W1,(w.alloc (.deferred (some []))).alloc (.loop rec)=W1:=⟨_,rfl⟩
 have Js:W1.heap[w.heap.size+1]?=some (.loop rec):=by
  rw[<-cC];have:=ak (w.alloc (.deferred (some []))) (.loop rec);rwa [World.size_alloc]at this
 have Ji:W1.heap[w.heap.size]?=some (.deferred (some [])):=by rw[<-cC];exact am _ (ak w _)
 have bP:W1.heap.size=w.heap.size+2:=by rw[<-cC];simp
 have rq:Below w.heap.size w W1:=by rw[<-cC];exact((Below.refl _ w).alloc (Nat.le_refl _) _).alloc (by simp) _
 have Mw:∀ {T:Nat->Prop} {A A':World},ChT W1.heap.size T A A'->ChT w.heap.size T A A':=fun h=>h.mono (by omega)
 have wO:∀ {i:Nat} {T:Nat->Prop} {A A':World},Chg w.heap.size A A'->w.heap.size<=A.heap.size->I i T A->I i T A':=fun hc hs h=>hI _ _ _ _ _ h (.of_chg hc (Nat.le_refl _) hs) (gr.refl _ _ _)
 have hIx1:∀ {c:Code} {i:Nat} {T:Nat->Prop} {A A':World},Chg w.heap.size A A'->w.heap.size<=A.heap.size->Ix c i T A->Ix c i T A':=fun hc hs h=>sC _ _ _ _ _ _ h (.of_chg hc (Nat.le_refl _) hs) (gr.refl _ _ _)
 have hTw:∀ {T T':Nat->Prop} {A A':World},gr A A' T T'->w.heap.size+2<=A.heap.size->(∀ k,T k->w.heap.size+2<=k)->∀ k,T' k->w.heap.size+2<=k:=fun hw hs h k hk=>by
  rcases hw.2 k hk with h1|h1
  ·exact h k h1
  ·omega
 refine⟨w.heap.size+1,[gZ w.heap.size],W1,{ target:=.fn (.func gf) lb,args:=#[.func (.yield (w.heap.size+1)) #[] #[]] },W1,gf,
  #[.func (.yield (w.heap.size+1)) #[] #[]]++lb,W1,?_,?_,fun _ _=>trivial,?_,fun h=>(by simp[Fence.wide]at h),?_⟩
 ·rw[<-cC,j7];exact run_enterLoop_outer _ _ _ _ _
 ·simp only[resolve,hg]
  simp[go_sem]
 ·simp[invoke,go_sem,eg]
 ·refine(callsIn_wide (n:=0 - 1)).2 ?_
  refine(da (w.heap.size+1)
   (fun i T W=>I i T W/\W.heap[w.heap.size+1]?=some (.loop rec)/\W.heap[w.heap.size]?=some (.deferred (some []))/\∀ k,T k->w.heap.size+2<=k)
   (fun i T W=>∃ c,Ix c i T W/\W.heap[w.heap.size+1]?=some (.loop { rec with state:=.done,pending:=some c })/\W.heap[w.heap.size]?=some (.deferred (some [])))
   W1 (ae aC rq) (by omega)
   (fun i T T' A A' h hb hw=>⟨hI i T T' A A' h.1 (Mw hb) hw,(hb.low _ (by omega)).trans h.2.1,(hb.low _ (by omega)).trans h.2.2.1,hTw hw (by have:=ar h.2.1;omega) h.2.2.2⟩)
   (fun i T T' A A' h hb hw=>by obtain⟨c,h1,h2,h3⟩:=h;exact⟨c,sC c i T T' A A' h1 (Mw hb) hw,(hb.low _ (by omega)).trans h2,(hb.low _ (by omega)).trans h3⟩)
   ?_ ⟨hI 0 _ _ _ _ h0 (.of_below (Nat.le_refl _) rq) (gr.refl _ _ _),Js,Ji,fun k h=>h.elim⟩).mono ?_
  ·rintro i T W args hi hE ⟨Iz,hl,hk,hT⟩ eK
   have az:=ar hl
   have wW:¬ ((T (w.heap.size+1)\/S (w.heap.size+1))/\w.heap.size+1<W.heap.size):=fun h=>by
    rcases h.1 with h|h
    ·have:=hT _ h;omega
    ·have:=hS _ h;omega
   refine EQ (B:=w.heap.size) (S:=fun k=>(T k\/S k)/\k<W.heap.size) (ps:=ps) (assign:=assign) (body:=body) (tmps:=a.tmps) (i:=i) (I:=fun i=>I i T) (Ix:=fun c i=>Ix c i T) _ (by omega) wW (by rw[j7];simp) hl (yv i args hE) (kS _ i T W args hi (by omega) az hT hE Iz) ?_ ?_
   ·intro W3 W4 mM cg ny hc ri lF
    exact⟨cg.size,fun k o hk ho hc=>cg.same k o (by omega) ho hc,.inl ⟨rfl,fun k hk az=>cg.keep k ⟨hk,az⟩,wO hc (by omega) ri,ny,lF _ _ (Nat.le_refl _) (by omega) hk rfl,hT⟩⟩
   ·intro c W3 W4 mM O8 ny hc ri lF
    exact⟨O8,fun k o hk ho hc=>lF k o (by omega) (by omega) ho hc,.inr ⟨rfl,c,hIx1 hc (by omega) ri,ny,lF _ _ (Nat.le_refl _) (by omega) hk rfl⟩⟩
  ·rintro e W2 ⟨⟨v,rfl⟩,T,(⟨hi,hl,hk,_⟩|⟨i,cP,c,hi,hl,hk⟩)⟩
   ·have mD:=ar hl
    exact⟨none,_,by have:=run_endLoop (P:=P) hl (by rw[j7];simp);rw[this,j7],wj _ T _ (Nat.le_refl _) (wO (Chg.put _ hl (by omega) rfl) (by omega) hi) ((World.putObj_heap_other (by omega)).trans hk)⟩
   ·have mD:=ar hl
    exact⟨some c,_,by have:=run_endLoop (P:=P) hl (by simp);rw[this],wpIn_wide.2 (wh _ c i T _ (Nat.le_refl _) cP (hIx1 (Chg.put _ hl (by omega) rfl) (by omega) hi) ((World.putObj_heap_other (by omega)).trans hk))⟩
end Go.Proofs.YtmeaoneaephjeaaGreatDoor
namespace Go.Proofs.YtmeaoneaephjeaaGreatDoor
open Go.RowKit Go Go.Shelf
attribute [local go_sem] Oper.semAt_some
def l5(s:Sys) (mem:List Nat) (i:Nat):List Lk:=if i=0 then jD s mem else lg s (mem.getD (i - 1) 0) (mem.drop i)
theorem J4(s:Sys) (mem:List Nat) (h:0<mem.length):l5 s mem 0=⟨mem.getD 0 0,-1⟩ :: l5 s mem 1:=by
 match mem,h with
 | a :: r,_=>rfl
theorem Me(s:Sys) (mem:List Nat) (i:Nat) (h0:0<i) (hi:i<mem.length):l5 s mem i=jW s (mem.getD (i - 1) 0) (mem.getD i 0)++l5 s mem (i+1):=by
 unfold l5;rw[if_neg (by omega),if_neg (by omega),List.drop_eq_getElem_cons hi,ap 0 hi,Nat.add_sub_cancel,ap 0 hi];rfl
theorem ON(s:Sys) (mem:List Nat):l5 s mem mem.length=[]:=by
 unfold l5;split
 ·rename_i h
  rw[List.eq_nil_of_length_eq_zero h];rfl
 ·rw[List.drop_length]
  rfl
structure SlS (J:Nat->(Nat->Prop)->World->Prop) (S:Nat->Prop) (w W:World) (yl c1 B:Nat) (x:Int) (d:Nat) (cur:Int) (T:Nat->Prop) (V:World):Prop where
 j:J d T V
 ks:KSz S w V
 sz:W.heap.size<=V.heap.size
 b3:V.heap[W.heap.size]?=some (.cells #[.func (.yield yl) #[] #[]] 80)
 b4:V.heap[W.heap.size+1]?=some (.cells #[.int .i64 cur] 3)
 x1:V.heap[c1]?=some (.cells #[.pointer (some ⟨B,0,none⟩)] 94)
 x2:V.heap[c1+1]?=some (.cells #[.int .i64 x] 3)
 t:T W.heap.size/\T (W.heap.size+1)/\T c1/\T (c1+1)
 tb:∀ k,T k->W.heap.size<=k/\k<V.heap.size
section
variable {J : Nat → (Nat → Prop) → World → Prop} {S : Nat → Prop} {w W : World} {yl c1 B : Nat} {x : Int} {d : Nat} {cur : Int} {T T' : Nat → Prop} {V V' : World}
theorem SlS.grow(h:SlS J S w W yl c1 B x d cur T V) (hJ:∀ i T T' A A',J i T A->ChT W.heap.size T A A'->gr A A' T T'->J i T' A') (hS:∀ k,S k->k<w.heap.size) (hb:Below V.heap.size V V') (hw:gr V V' T T'):SlS J S w W yl c1 B x d cur T' V':=
 ⟨hJ _ _ _ _ _ h.j (ChT.of_below h.sz hb) hw,⟨fun k hk=>(hb.block k (by have:=hS k hk;have:=h.ks.2;omega)).trans (h.ks.1 k hk),Nat.le_trans h.ks.2 hb.size⟩,Nat.le_trans h.sz hb.size,af hb h.b3,af hb h.b4,af hb h.x1,af hb h.x2,⟨hw.1 _ h.t.1,hw.1 _ h.t.2.1,hw.1 _ h.t.2.2.1,hw.1 _ h.t.2.2.2⟩,fun k hk=>by
  rcases hw.2 k hk with h1|h1
  ·exact⟨(h.tb k h1).1,Nat.lt_of_lt_of_le (h.tb k h1).2 hb.size⟩
  ·exact⟨by have:=h.sz;omega,h1.2⟩⟩
theorem SlS.chg{n:Nat} (h:SlS J S w W yl c1 B x d cur T V) (hJ:∀ i T T' A A',J i T A->ChT W.heap.size T A A'->gr A A' T T'->J i T' A') (hS:∀ k,S k->k<w.heap.size) (hn:W.heap.size<=n) (V6:w.heap.size<=n) (hc:Chg n V V'):SlS J S w W yl c1 B x d cur T V':=
 ⟨hJ _ _ _ _ _ h.j (ChT.of_chg hc hn h.sz) (gr.refl _ _ _),⟨fun k hk=>by
  have h1:k<V.heap.size:=by have:=hS k hk;have:=h.ks.2;omega
  have h2:V.heap[k]?=some V.heap[k]:=Array.getElem?_eq_getElem h1;rw[hc.same k _ h2 (.inl (by have:=hS k hk;omega)),<-h2]
  exact h.ks.1 k hk,Nat.le_trans h.ks.2 hc.size⟩,Nat.le_trans h.sz hc.size,hc.same _ _ h.b3 (.inr rfl),hc.same _ _ h.b4 (.inr rfl),hc.same _ _ h.x1 (.inr rfl),hc.same _ _ h.x2 (.inr rfl),h.t,fun k hk=>⟨(h.tb k hk).1,Nat.lt_of_lt_of_le (h.tb k hk).2 hc.size⟩⟩
theorem SlS.put(h:SlS J S w W yl c1 B x d cur T V) (hJ:∀ i T T' A A',J i T A->ChT W.heap.size T A A'->gr A A' T T'->J i T' A') (hS:∀ k,S k->k<W.heap.size) (hc:c1≠W.heap.size+1/\c1+1≠W.heap.size+1) (y:Int):SlS J S w W yl c1 B x d y T (V.setCell ⟨W.heap.size+1,0,none⟩ (.int .i64 y)):=
 ⟨hJ _ _ _ _ _ h.j (ChT.set h.t.2.1 (by omega) _ _) (gr.refl _ _ _),⟨fun k hk=>(Below.heap_setCell _ _ _ _ (by have:=hS k hk;dsimp only;omega)).trans (h.ks.1 k hk),by simpa using h.ks.2⟩,by simpa using h.sz,aH h.b3 (by omega) _ _,aF h.b4 _ _,aH h.x1 hc.1 _ _,aH h.x2 hc.2 _ _,h.t,fun k hk=>by simpa using h.tb k hk⟩
theorem SlS.next{d':Nat} (h:SlS J S w W yl c1 B x d cur T V) (hS:∀ k,S k->k<w.heap.size) (hz:V.heap.size<=V'.heap.size) (hk:∀ k,T k\/S k->k<V.heap.size->V'.heap[k]?=V.heap[k]?) (hj:J d' T V'):SlS J S w W yl c1 B x d' cur T V':=
 ⟨hj,⟨fun k uP=>(hk k (.inr uP) (by have:=hS k uP;have:=h.ks.2;omega)).trans (h.ks.1 k uP),Nat.le_trans h.ks.2 hz⟩,Nat.le_trans h.sz hz,(hk _ (.inl h.t.1) (ar h.b3)).trans h.b3,(hk _ (.inl h.t.2.1) (ar h.b4)).trans h.b4,(hk _ (.inl h.t.2.2.1) (ar h.x1)).trans h.x1,(hk _ (.inl h.t.2.2.2) (ar h.x2)).trans h.x2,h.t,fun k uP=>⟨(h.tb k uP).1,Nat.lt_of_lt_of_le (h.tb k uP).2 hz⟩⟩
end
theorem OO(B:Nat) (x:Int) (w:World) :
  Calls Tryz.prog 49 #[.pointer (some ⟨B,0,none⟩),.int .i64 x] w fun r w'=>r=.returned (.func (.func 89) #[] #[.pointer (some ⟨w.heap.size,0,none⟩),.pointer (some ⟨w.heap.size+1,0,none⟩)])/\w'=(w.alloc (.cells #[.pointer (some ⟨B,0,none⟩)] 94)).alloc (.cells #[.int .i64 x] 3):=by
 go_enter Tryz.func49,Tryz.ntmps49
 go_wp2
 go_ret
 exact⟨rfl,rfl⟩
def Vt(base:Nat) (l:List Lk):MP:=⟨fun x W=>aU W x l/\∀ k,x.ownBlock=some k->base<=k,fun _ _ _ h hb=>⟨h.1.up up_link hb,h.2⟩⟩
def SK(base:Nat) (l:List Lk):MP:=⟨fun x W=>∃ u,x=.tuple #[u,.bool true,.int .i64 0]/\aU W u l/\∀ k,u.ownBlock=some k->base<=k,fun _ _ _ h hb=>by obtain⟨u,e,h1,h2⟩:=h;exact⟨u,e,h1.up up_link hb,h2⟩⟩
theorem Mf(s:Sys) (hv:verifyE s=0) (hE:eS s<=256) (hN:movesN s.prob.a.states<1099511627776) (B bx bl:Nat) (x:Int) (w0:World) (fO:ScAt w0 B s) (w:World) (aC:Below w0.heap.size w0 w)
  (kF:w.heap[bx]?=some (.cells #[.pointer (some ⟨B,0,none⟩)] 94)) (kl:w.heap[bl]?=some (.cells #[.int .i64 x] 3)) :
  SJ Tryz.prog 89 #[.pointer (some ⟨bx,0,none⟩),.pointer (some ⟨bl,0,none⟩)] (fun i args=>args=#[((jD s (eG (aO s) x)).getD i default).v]) (jD s (eG (aO s) x)).length (fun k=>k<w0.heap.size\/k=bx\/k=bl) w:=by
 intro yl J Jx W hW hyl hJ nV hY nC;have lx:=ar kF;have ll:=ar kl;have mn:=aC.size;have RB:=hW.size;obtain⟨S,hS⟩:∃ S,S=(fun k=>k<w0.heap.size\/k=bx\/k=bl):=⟨_,rfl⟩;have I6:∀ k,S k->k<w.heap.size:=fun k hk=>by subst hS;rcases hk with hk|rfl|rfl<;>omega
 have Xz:∀ k,S k->k<W.heap.size:=fun k hk=>by have:=I6 k hk;omega
 have AI:Hid (∀ V,KSz S w V->iZ w0.heap.size w0 V/\V.cell? ⟨bx,0,none⟩=some (.pointer (some ⟨B,0,none⟩))/\V.cell? ⟨bl,0,none⟩=some (.int .i64 x)):=aa (fun V hV=>by
  subst hS
  exact⟨fun k hk=>(hV.1 k (.inl hk)).trans (aC.block k hk),(ab ((hV.1 bx (.inr (.inl rfl))).trans kF) 0).trans rfl,(ab ((hV.1 bl (.inr (.inr rfl))).trans kl) 0).trans rfl⟩)
 have HSL:Hid (∀ k,k<w0.heap.size->S k):=aa (fun k hk=>by subst hS;exact .inl hk);obtain⟨mem,mm⟩:∃ mem,eG (aO s) x=mem:=⟨_,rfl⟩;rw[mm]at hY ⊢;rw[<-hS]at hY
 have Ak:Hid (∀ (d:List Lk) (c:Lk) (r:List Lk) (T:Nat->Prop) (W1:World),jD s mem=d++c :: r->J d.length T W1->W.heap.size<=W1.heap.size->YieldAt Fence.wide 0 Tryz.prog yl #[c.v] W1 fun e W'=>
   (W1.heap.size<=W'.heap.size/\(∀ k o,W.heap.size<=k->W1.heap[k]?=some o->o.isCells=false->W'.heap[k]?=some o))/\((e=.returned (.bool true)/\(∀ k,T k\/S k->k<W1.heap.size->W'.heap[k]?=W1.heap[k]?)/\J (d++[c]).length T W')\/(e=.returned (.bool false)/\∃ i,i<=(jD s mem).length/\Jx i T W'))):=aa (fun d c r T W1 e hj hz=>by
  obtain⟨h1,h2,h3,h4⟩:=Ki (x:=default) e;obtain⟨fn,tmps,assign,body,hy,hR⟩:=hY d.length T W1 #[c.v] h1 (by dsimp only;rw[h2]) hj hz;refine⟨fn,tmps,assign,body,hy,hR.mono ?_⟩;rintro e W' ⟨g1,g4,g3⟩;rcases g3 with ⟨rfl,g2,g3⟩|⟨rfl,g3⟩
  ·exact⟨⟨g1,g4⟩,.inl ⟨rfl,g2,by rw[h4];exact g3⟩⟩
  ·exact⟨⟨g1,g4⟩,.inr ⟨rfl,_,h1,g3⟩⟩)
 have HJ:=aa hJ;have Jh:=aa nV;have Kx:=aa nC;have kn:=aa fO;have Lg:Hid (KSz S w W):=aa ⟨fun k hk=>hW.block k (I6 k hk),hW.size⟩;have di:=aa (jh hv)
 have KH:Hid (∀ i,i<mem.length->mem.getD i 0<eS s):=aa (fun i hi=>by
  rw[ap 0 hi];have h1:mem[i]∈eG (aO s) x:=by rw[mm];exact List.getElem_mem hi
  exact uC _ h1)
 have HNR:Hid (∀ i k,i<mem.length->k<mem.length->0<=(cW s (mem.getD k 0)).getD (mem.getD i 0) 0):=aa (fun i k hi hk=>by
  have h1:mem[i]∈eG (aO s) x:=by rw[mm];exact List.getElem_mem hi
  have h2:mem[k]∈eG (aO s) x:=by rw[mm];exact List.getElem_mem hk
  rw[ap 0 hi,ap 0 hk]
  exact BC di.out _ _ (uC _ h1) (uC _ h2) ((vE.1 h1).2.trans (vE.1 h2).2.symm))
 have HWF:=aa (J4 s mem);have VF:=aa (Me s mem);have HWE:=aa (ON s mem);have eP:=aa (ae aC hW);clear hY hJ nV nC fO kF kl hS;have tw:=(AI.out W Lg.out).2;have t1:∀ o o',((W.alloc o).alloc o').cell? ⟨bx,0,none⟩=some (.pointer (some ⟨B,0,none⟩)):=fun o o'=>ai (show Below W.heap.size W ((W.alloc o).alloc o') by go_grown) tw.1
 have t2:∀ o o',((W.alloc o).alloc o').cell? ⟨bl,0,none⟩=some (.int .i64 x):=fun o o'=>ai (show Below W.heap.size W ((W.alloc o).alloc o') by go_grown) tw.2
 refine fT Tryz.func89 rfl ?_;simp only[Tryz.ntmps89,List.size_toArray,List.length_cons,List.length_nil,Nat.reduceAdd,Nat.reduceSub,Array.replicate_succ,Array.replicate_zero,List.push_toArray,List.append_toArray,List.nil_append,List.cons_append]
 go_wp2_with fail
 refine(wF B x _).mono ?_;rintro r w2 ⟨rfl,rfl⟩;clear t1 t2 tw
 go_wp2_with fail
 refine bj (fun U=>Below W.heap.size W U/\U.heap.size=W.heap.size+1+1+1+1/\U.heap[W.heap.size]?=some (.cells #[.func (.yield yl) #[] #[]] 80)/\U.heap[W.heap.size+1]?=some (.cells #[.int .i64 (-1)] 3)/\U.heap[W.heap.size+1+1]?=some (.cells #[.pointer (some ⟨B,0,none⟩)] 94)/\U.heap[W.heap.size+1+1+1]?=some (.cells #[.int .i64 x] 3))
  ⟨by go_grown,by simp,am _ (am _ (am _ (ak _ _))),am _ (am _ (ba _ _ _)),am _ (dH _ _ _ _),by have h:=ak (((W.alloc (.cells #[.func (.yield yl) #[] #[]] 80)).alloc (.cells #[.int .i64 (-1)] 3)).alloc (.cells #[.pointer (some ⟨B,0,none⟩)] 94)) (.cells #[.int .i64 x] 3);simpa using h⟩ (fun U hU=>?_)
 obtain⟨sD,oe,ss,pO,kY,IY⟩:=hU;obtain⟨c1,kq⟩:∃ c1,W.heap.size+1+1=c1:=⟨_,rfl⟩;rw[kq]at kY IY oe ⊢;have hc1':W.heap.size+2=c1:=kq;clear kq
 have HU:Hid (SlS J S w W yl c1 B x 0 (-1) (fun k=>W.heap.size<=k/\k<U.heap.size) U):=aa
  ⟨HJ.out _ _ _ _ _ Kx.out (ChT.of_below (Nat.le_refl _) sD) ⟨fun k h=>h.elim,fun k h=>.inr h⟩,⟨fun k hk=>(sD.block k (Xz k hk)).trans (Lg.out.1 k hk),Nat.le_trans Lg.out.2 sD.size⟩,sD.size,ss,pO,kY,IY,⟨by omega,by omega,by omega,by omega⟩,fun k h=>h⟩
 have sK:=aa (AI.out U HU.out.ks).1;have da:=uB s B c1 (c1+1) x w0 kn.out U (ae eP.out sD) (by rw[ab kY];rfl) (by rw[ab IY];rfl);rw[mm]at da;have wJ:=aa (fun d cur T A A' (hc:Chg U.heap.size A A') (h:SlS J S w W yl c1 B x d cur T A)=>h.chg HJ.out I6 (by omega) (by omega) hc);have hUs:=oe;clear sD oe ss pO kY IY mm
 refine OM (gf:=135) (lb:=#[.pointer (some ⟨c1,0,none⟩),.pointer (some ⟨c1+1,0,none⟩)]) rfl (enters_of Tryz.func135 (by kernel_rfl) rfl) da (Below.refl _ _) (fun k hk=>by rcases hk with hk|rfl|rfl<;>omega) (fun i=>rfl)
  (fun i V=>∃ dl T,jD s mem=dl++l5 s mem i/\SlS J S w W yl c1 B x dl.length (if i=0 then -1 else(mem.getD (i - 1) 0:Nat)) T V)
  (fun c i V=>c=.ret/\W.heap.size<=V.heap.size/\∃ T i,i<=(jD s mem).length/\Jx i T V)
  (fun i A A' hc h=>by obtain⟨dl,T,h1,h2⟩:=h;exact⟨dl,T,h1,wJ.out _ _ _ _ _ hc h2⟩)
  (fun c i A A' hc h=>by obtain⟨h1,h0,T,i,h2,h3⟩:=h;exact⟨h1,Nat.le_trans h0 hc.size,T,i,h2,Jh.out _ _ _ _ _ h3 (ChT.of_chg hc (by omega) h0) (gr.refl _ _ _)⟩)
  ⟨[],_,rfl,HU.out⟩ ?rnd ?done ?stop
 case done=>
  rintro D V hD ⟨dl,T,h1,h2⟩ hK;rw[HWE.out,List.append_nil]at h1;have Fd:=ar hK
  go_wp2_with fail
  refine Ni hK (v:=.tuple #[]) (by simp[results,Tryz.results89,go_sem]) ⟨⟨_,rfl⟩,T,.inl ?_⟩;rw[h1];exact HJ.out _ _ _ _ _ h2.j (ChT.of_chg (Chg.put _ hK (B:=U.heap.size) hD rfl) (by omega) h2.sz) (gr.refl _ _ _)
 case stop=>
  rintro D c i V hD hi ⟨rfl,h0,T,j,h1,h2⟩ hK;have Fd:=ar hK
  go_wp2_with fail
  refine io hK (v:=.tuple #[]) (by simp[results,Tryz.results89,go_sem]) ⟨⟨_,rfl⟩,T,.inr ⟨j,h1,?_⟩⟩;exact Jh.out _ _ _ _ _ h2 (ChT.of_chg (Chg.put _ hK (B:=U.heap.size) hD rfl) (by omega) h0) (gr.refl _ _ _)
 case rnd=>
  rintro yi i V hi hl ⟨dl,T,Jl,IX⟩;unfold vX;obtain⟨e,he⟩:∃ e,mem.getD i 0=e:=⟨_,rfl⟩;have iN:=KH.out i hi;rw[he]at iN ⊢;have HSL2:=aa IX;have HWY:=aa Jl;have TZ:=aa he;clear IX Jl da he
  gi_wp2
  refine⟨Bod.refl _ _ _,fun X=>SlS J S w W yl c1 B x dl.length (if i=0 then -1 else(mem.getD (i - 1) 0:Nat)) T X,fun A A' hc h=>wJ.out _ _ _ _ _ hc h,HSL2.out,fun X hX jq=>?_⟩;obtain⟨rlp,jq⟩:=jq;have Ja:=ar jq;clear jq rlp HSL2;have HX:=aa hX;have t3:=ab hX.b3 0;have t4:=ab hX.b4 0;have f4:=aE hX.b4 0;simp only[List.getElem?_toArray,List.getElem?_cons_zero]at t3 t4;clear hX;have M0:¬ (W.heap.size+1<w0.heap.size\/W.heap.size+1=c1\/W.heap.size+1=c1+1):=by omega
  have eo:Hid (∀ (T:Nat->Prop) (V W':World),T c1/\T (c1+1)->c1+1<V.heap.size->w0.heap.size<=V.heap.size->(V.heap.size<=W'.heap.size/\(∀ k,T k\/S k->k<V.heap.size->W'.heap[k]?=V.heap[k]?)/\(∀ k o,W.heap.size<=k->V.heap[k]?=some o->o.isCells=false->W'.heap[k]?=some o))->Bod U.heap.size (fun k=>k<w0.heap.size\/k=c1\/k=c1+1) V W'):=aa (fun T V W' ht hv h0 h=>⟨h.1,fun k hk=>by
   rcases hk with hk|rfl|rfl
   ·exact h.2.1 k (.inr (HSL.out k hk)) (by omega)
   ·exact h.2.1 _ (.inl ht.1) (by omega)
   ·exact h.2.1 _ (.inl ht.2) hv,fun k o hk ho hc=>h.2.2 k o (by omega) ho hc⟩)
  have qE:=aa (ar HX.out.x2);have h0X:w0.heap.size<=X.heap.size:=by have:=HX.out.sz;omega
  by_cases cG:i=0
  ·subst cG
   rw[if_pos rfl]at t4 HX;have HP:=aa (HX.out.put HJ.out Xz ⟨by omega,by omega⟩ e);have t3':=ab HP.out.b3 0;simp only[List.getElem?_toArray,List.getElem?_cons_zero]at t3';have iA:Hid (jD s mem=dl++⟨e,-1⟩ :: l5 s mem 1):=aa (by rw[HWY.out,HWF.out (by omega),TZ.out]);obtain⟨fn,tmps,assign,body,n',hR⟩:=Ak.out dl ⟨e,-1⟩ _ T (X.setCell ⟨W.heap.size+1,0,none⟩ (.int .i64 e)) iA.out HP.out.j HP.out.sz;have HR:=aa hR;clear hR t3
   gi_wp2
   refine⟨rfl,wA (HR.out.mono ?_)⟩;rintro r W3 ⟨nY,(⟨rfl,FB,Ay⟩|⟨rfl,i9,Po,Sf⟩)⟩
   ·have AC:=And.intro nY.1 (And.intro FB nY.2)
    have dP:=aa ((Bod.setCell (B:=U.heap.size) X ⟨W.heap.size+1,0,none⟩ (.int .i64 e) M0).trans (eo.out T _ W3 HP.out.t.2.2 (by have:=qE.out;simp;omega) (by simp;omega) AC));have Xn:=aa (HP.out.next I6 AC.1 AC.2.1 Ay);clear AC nY FB Ay HR n' t3' t4 f4 M0
    gi_wp2
    refine⟨dP.out,dl++[⟨e,-1⟩],T,by rw[iA.out,List.append_cons],?_⟩;rw[if_neg (by omega),Nat.zero_add,Nat.sub_self,TZ.out];exact Xn.out
   ·have dP:=aa ((Bod.setCell (B:=U.heap.size) (S:=fun _=>False) X ⟨W.heap.size+1,0,none⟩ (.int .i64 e) (fun h=>h)).out.trans ⟨nY.1,fun k o hk ho hc=>nY.2 k o (by omega) ho hc⟩)
    have Cm:W.heap.size<=W3.heap.size:=Nat.le_trans HP.out.sz nY.1;clear nY HR n' t3' t4 f4 M0 Ak
    gi_wp2
    exact⟨dP.out,rfl,Cm,T,i9,Po,Sf⟩
  ·rw[if_neg cG]at t4 HX
   obtain⟨a,ha⟩:∃ a,mem.getD (i - 1) 0=a:=⟨_,rfl⟩;have Wx:=KH.out (i - 1) (by omega);have TG:=HNR.out (i - 1) i (by omega) hi;have dz:=aa (VF.out i (by omega) hi);rw[ha,TZ.out]at TG dz;rw[ha]at Wx t4 HX;obtain⟨path,Gg⟩:∃ path,jW s a e=path:=⟨_,rfl⟩;rw[Gg]at dz;have hlta:decide ((a:Int)<0)=false:=decide_eq_false (by omega);have hscX:=ScAt.kp kn.out (AI.out X HX.out.ks).1;obtain⟨vc,vs,vt,ve,vv,vl,q1,q2,_,_⟩:=hscX.ex;obtain⟨⟨qc,kc,rfl⟩,⟨qs,ks,rfl⟩,⟨qt,kt,rfl⟩,⟨qe,ke,rfl⟩⟩:=bg q2;have T5:=aa (fun V (hb:Below X.heap.size X V)=>OG s hv hE _ _ _ _ a e Wx iN TG V (q2.up hb) hN);rw[Gg]at T5;have hplen:path.length<256:=by rw[<-Gg];have:=(Kd Wx iN TG).2.2;omega
   generalize s.prob.t.cases.length=nc,s.prob.a.states.length=ns,s.tab.length=nt,s.ex.length=ne at q1 T5;have mO:=aa q1;have TB:=aa (AI.out X HX.out.ks).2.1;have la:=aa HX.out.b4;obtain⟨b4,cg⟩:∃ b4,W.heap.size+1=b4:=⟨_,rfl⟩;rw[cg]at t4 f4 la ⊢;clear hscX q1 q2 Gg TG ha f4 t3 M0
   gi_wp2
   have hS:List.Nodup [24,25,26,27,28,29,30,23,31,32,33,6,7,8]:=by decide
   refine zG 14 [24,25,26,27,28,29,30,23,31,32,33,6,7,8] [MP.eq (.pointer (some ⟨B,0,none⟩)),MP.eq (.pointer (some ⟨B,0,none⟩)),MP.eq (.pointer (some ⟨B,0,none⟩)),MP.eq (.agg #[.int .i64 s.prob.t.n,.int .i64 s.prob.t.ins,.int .i64 s.prob.t.outs,.slice qc nc kc,.int .i64 s.prob.a.n,.slice qs ns ks,.int .i64 s.prob.rounds,.int .i64 s.n,.slice qt nt kt,.slice qe ne ke]),MP.eq (.int .i64 a),MP.eq (.int .i64 e),SK X.heap.size (⟨a,-1⟩ :: path),SK X.heap.size (⟨a,-1⟩ :: path),Vt X.heap.size (⟨a,-1⟩ :: path),MP.eq (.bool true),MP.eq (.int .i64 0),Vt X.heap.size (⟨a,-1⟩ :: path),MP.eq (.bool true),MP.eq (.int .i64 0)] (by kernel_rfl) rfl hS rfl (by kernel_rfl) (fun ⟨_,_,h⟩=>h) (by kernel_rfl) ?step ?tail
   case step=>
    intro xq Wq iq oq sq F hi ho hs hB aj hF;rcases (show iq=0\/iq=1\/iq=2\/iq=3\/iq=4\/iq=5\/iq=6\/iq=7\/iq=8\/iq=9\/iq=10\/iq=11\/iq=12\/iq=13 by omega) with rfl|rfl|rfl|rfl|rfl|rfl|rfl|rfl|rfl|rfl|rfl|rfl|rfl|rfl
    all_goals (obtain rfl:=cU ho.symm;obtain rfl:=cU hs.symm;clear hi ho hs)
    ·obtain⟨g1,h1⟩:=bT hF 1 (.pointer (some ⟨bx,0,none⟩)) (by decide) rfl
     have tb:=ai hB TB.out;clear hF aj
     go_wp2_with fail
     exact aQ.mk (.pointer (some ⟨B,0,none⟩)) (Below.refl _ _) rfl rfl
    ·obtain⟨e0,f0⟩:=aJ hF 0 24 (.pointer (some ⟨B,0,none⟩)) hS rfl (by kernel_rfl) (aj ⟨0,.data⟩ (by simp) rfl)
     clear hF aj
     go_wp2_with fail
     exact aQ.mk (.pointer (some ⟨B,0,none⟩)) (Below.refl _ _) rfl rfl
    ·obtain⟨e1,f1⟩:=aJ hF 1 25 (.pointer (some ⟨B,0,none⟩)) hS rfl (by kernel_rfl) (aj ⟨1,.data⟩ (by simp) rfl)
     clear hF aj
     go_wp2_with fail
     exact aQ.mk (.pointer (some ⟨B,0,none⟩)) (Below.refl _ _) rfl rfl
    ·obtain⟨e2,f2⟩:=aJ hF 2 26 (.pointer (some ⟨B,0,none⟩)) hS rfl (by kernel_rfl) (aj ⟨2,.data⟩ (by simp) rfl)
     have tb:=ab (af hB mO.out);clear hF aj
     go_wp2_with fail
     exact aQ.mk (.agg #[.int .i64 s.prob.t.n,.int .i64 s.prob.t.ins,.int .i64 s.prob.t.outs,.slice qc nc kc,.int .i64 s.prob.a.n,.slice qs ns ks,.int .i64 s.prob.rounds,.int .i64 s.n,.slice qt nt kt,.slice qe ne ke]) (Below.refl _ _) rfl rfl
    ·obtain⟨g4,h4⟩:=bT hF 4 (.pointer (some ⟨b4,0,none⟩)) (by decide) rfl
     have tb:=ab (af hB la.out) 0;simp only[List.getElem?_toArray,List.getElem?_cons_zero]at tb;clear hF aj
     go_wp2_with fail
     exact aQ.mk (.int .i64 a) (Below.refl _ _) rfl rfl
    ·obtain⟨g5,h5⟩:=bT hF 5 (.int .i64 e) (by decide) rfl
     clear hF aj
     go_wp2_with fail
     exact aQ.mk (.int .i64 e) (Below.refl _ _) rfl rfl
    ·obtain⟨e3,f3⟩:=aJ hF 3 27 (.agg #[.int .i64 s.prob.t.n,.int .i64 s.prob.t.ins,.int .i64 s.prob.t.outs,.slice qc nc kc,.int .i64 s.prob.a.n,.slice qs ns ks,.int .i64 s.prob.rounds,.int .i64 s.n,.slice qt nt kt,.slice qe ne ke]) hS rfl (by kernel_rfl) (aj ⟨3,.data⟩ (by simp) rfl)
     obtain⟨e4,f4⟩:=aJ hF 4 28 (.int .i64 a) hS rfl (by kernel_rfl) (aj ⟨4,.data⟩ (by simp) rfl);obtain⟨e5,f5⟩:=aJ hF 5 29 (.int .i64 e) hS rfl (by kernel_rfl) (aj ⟨5,.data⟩ (by simp) rfl);clear hF aj
     go_wp2_with fail
     refine(T5.out Wq hB).mono ?_;rintro r w9 ⟨u9,rfl,⟨hl9,jp⟩,eN⟩;have Tw:=aa hl9;have mL:=aa (fun k hk=>Nat.le_trans hB.size (jp k hk));clear hl9 jp
     go_wp2_with fail
     exact aQ.mk _ eN ⟨_,rfl,Tw.out,mL.out⟩ rfl
    ·have d6:=aj ⟨6,.data⟩ (by simp) rfl
     obtain⟨u6,eu6,P1,PC⟩:=d6;obtain⟨e6,f6⟩:=aJ hF 6 30 _ hS rfl (by kernel_rfl) eu6;clear hF aj
     go_wp2_with fail
     exact aQ.mk _ (Below.refl _ _) ⟨_,rfl,P1,PC⟩ rfl
    ·have d7:=aj ⟨7,.data⟩ (by simp) rfl
     obtain⟨u6,eu6,P1,PC⟩:=d7;obtain⟨e7,f7⟩:=aJ hF 7 23 _ hS rfl (by kernel_rfl) eu6;clear hF aj
     go_wp2_with fail
     exact aQ.mk _ (Below.refl _ _) ⟨P1,PC⟩ rfl
    ·have d7:=aj ⟨7,.data⟩ (by simp) rfl
     obtain⟨u6,eu6,P1,PC⟩:=d7;obtain⟨e7,f7⟩:=aJ hF 7 23 _ hS rfl (by kernel_rfl) eu6;clear hF aj
     go_wp2_with fail
     exact aQ.mk (.bool true) (Below.refl _ _) rfl rfl
    ·have d7:=aj ⟨7,.data⟩ (by simp) rfl
     obtain⟨u6,eu6,P1,PC⟩:=d7;obtain⟨e7,f7⟩:=aJ hF 7 23 _ hS rfl (by kernel_rfl) eu6;clear hF aj
     go_wp2_with fail
     exact aQ.mk (.int .i64 0) (Below.refl _ _) rfl rfl
    ·have d8:=aj ⟨8,.data⟩ (by simp) rfl
     obtain⟨e8,f8⟩:=aJ hF 8 31 _ hS rfl (by kernel_rfl) rfl;clear hF aj
     go_wp2_with fail
     exact aQ.mk _ (Below.refl _ _) d8 rfl
    ·obtain⟨e9,f9⟩:=aJ hF 9 32 (.bool true) hS rfl (by kernel_rfl) (aj ⟨9,.data⟩ (by simp) rfl)
     clear hF aj
     go_wp2_with fail
     exact aQ.mk (.bool true) (Below.refl _ _) rfl rfl
    ·obtain⟨e10,f10⟩:=aJ hF 10 33 (.int .i64 0) hS rfl (by kernel_rfl) (aj ⟨10,.data⟩ (by simp) rfl)
     clear hF aj
     go_wp2_with fail
     exact aQ.mk (.int .i64 0) (Below.refl _ _) rfl rfl
   case tail=>
    clear hS;intro xq Wq F hB aP hF;have d11:aU Wq (xq 11) (⟨a,-1⟩ :: path)/\∀ k,(xq 11).ownBlock=some k->X.heap.size<=k:=aP 11 (by omega);have d12:xq 12=.bool true:=aP 12 (by omega);have d13:xq 13=.int .i64 0:=aP 13 (by omega);clear aP;obtain⟨pK,aX⟩:=d11;obtain⟨pu,cu,eu,lu1,lu2,el⟩:=pK.at;obtain⟨g,o,rfl,sO⟩:=el 0 (by simp);rw[eu]at pK aX;simp only[bd,cJ,List.setIfInBounds_toArray,List.set_cons_succ,List.set_cons_zero,Nat.reduceAdd]at hF;rw[eu,d12,d13]at hF;generalize xq 0=s0,xq 1=s1,xq 2=s2,xq 3=s3,xq 4=s4,xq 5=s5,xq 6=s6,xq 7=s7,xq 8=s8,xq 9=s9,xq 10=s10 at hF;subst hF;have hgX:=aX g rfl;have hgW:g<Wq.heap.size:=fj sO.1.1;have TP:(⟨a,-1⟩ :: path:List Lk).length=path.length+1:=by simp
    rw[TP]at pK lu1 lu2 ⊢;have gk:=aa pK
    have RU:Hid (gr X Wq T (fun k=>T k\/k=g)):=aa ⟨fun k hk=>.inl hk,fun k hk=>by
     rcases hk with hk|rfl
     ·exact .inl hk
     ·exact .inr ⟨hgX,hgW⟩⟩
    have HQ:=aa (HX.out.grow HJ.out I6 hB RU.out);have jx:Hid (Bod U.heap.size (fun k=>k<w0.heap.size\/k=c1\/k=c1+1) X Wq):=aa (Bod.of_below (fun k hk=>by have:=qE.out;rcases hk with hk|rfl|rfl<;>omega) hB);clear pK aX d12 d13 eu el sO hB TP;have hmin:min (1:Int) ((path.length:Int)+1)=1:=by omega
    subst cg;have rz:cu=1->path.length=0:=fun h=>by omega
    have HJ2:=aa HQ.out.j;generalize hgT:(fun k=>T k\/k=g)=T2 at HQ HJ2 RU;have WH:Hid (T2 g):=aa (by rw[<-hgT];exact .inr rfl);clear hgT RU HJ2 t4 TB mO la HX T5
    have HELT:Hid (∀ k (hk:k<path.length),Wq.cell? ⟨g,o+2+k * 2,none⟩=some (.int .i64 (path[k]).x)/\Wq.cell? ⟨g,o+2+k * 2+1,none⟩=some (.int .i64 (path[k]).p)):=aa (fun k hk=>by
     obtain⟨pl9,cl9,e9,_,_,el9⟩:=gk.out.at;injection e9 with e9
     obtain⟨b9,o9,e8,h8⟩:=el9 (k+1) (by simp;omega);rw[<-e9]at e8;injection e8 with e8
     injection e8 with e7 e6
     subst e7 e6;rw[show o+(k+1) * 2=o+2+k * 2 by omega]at h8
     exact⟨h8.1.1,h8.2.1⟩)
    obtain⟨m,hm⟩:∃ m,path.length=m:=⟨_,rfl⟩;have HM:=aa hm;rw[hm]at hmin rz lu1 hplen ⊢;clear hm gk
    gi_wp2
    case' inl=>have hcu0:m=0:=by omega
    case' inr=>have hcu0:True:=trivial
    all_goals
     gi_loopw [40] (fun k wr=>∃ (k':Nat) (d:List Lk),k'<=m/\k=.int .i64 k'/\jD s mem=d++(path.drop k'++l5 s mem (i+1))/\SlS J S w W yl c1 B x d.length a T2 wr/\Bod U.heap.size (fun k=>k<w0.heap.size\/k=c1\/k=c1+1) X wr/\wr.heap[g]?=Wq.heap[g]?) (fun k _=>m - (intOf k).toNat)
     case atStart=>exact⟨0,dl,by omega,rfl,by rw[HWY.out,dz.out];rfl,HQ.out,jx.out,rfl⟩
     case round=>
      obtain⟨k,d,hk,rfl,hd,hq,sG,Tp⟩:=hrel;have HD:=aa hd;have wZ:=aa hq;have aR:=aa sG;have Ig:=aa Tp;clear hd hq sG Tp;by_cases az:k<m
      ·first
        | (exfalso;omega)
        | (
      have FB:k<path.length:=by rw[HM.out];exact az
      have c0:=HELT.out k FB;have eB:∀ o',wr.cell? ⟨g,o',none⟩=Wq.cell? ⟨g,o',none⟩:=fun o'=>by unfold World.cell?;rw[Ig.out]
      rw[<-eB,<-eB]at c0;have pP:Hid (jD s mem=d++path[k] :: (path.drop (k+1)++l5 s mem (i+1))):=aa (by rw[HD.out,List.drop_eq_getElem_cons FB];rfl);generalize path[k]=y at c0 pP;obtain⟨yx,yp⟩:=y;obtain⟨cx,cp⟩:=c0;dsimp only at cx cp;have AA:Below wr.heap.size wr (wr.alloc (.cells #[.int .i64 yx,.int .i64 yp] 75)):=by go_grown
      have AD:=aa (wZ.out.grow HJ.out I6 AA (gr.refl _ _ _));have t3':∀ o',(wr.alloc o').cell? ⟨W.heap.size,0,none⟩=some (.func (.yield yl) #[] #[]):=fun o'=>(ab (am o' wZ.out.b3) 0).trans rfl
      obtain⟨fn,tmps,assign,body,n',hR⟩:=Ak.out d ⟨yx,yp⟩ _ T2 (wr.alloc (.cells #[.int .i64 yx,.int .i64 yp] 75)) pP.out AD.out.j AD.out.sz;have HR:=aa hR;have wM:Hid (Bod U.heap.size (fun k=>k<w0.heap.size\/k=c1\/k=c1+1) X (wr.alloc (.cells #[.int .i64 yx,.int .i64 yp] 75))):=aa (aR.out.trans (Bod.of_below (fun k hk=>by have:=ar wZ.out.x2;have:=wZ.out.sz;rcases hk with hk|rfl|rfl<;>omega) AA));have HGA:Hid ((wr.alloc (.cells #[.int .i64 yx,.int .i64 yp] 75)).heap[g]?=Wq.heap[g]?):=aa ((AA.block g (wZ.out.tb g WH.out).2).trans Ig.out);clear hR eB AA
      gi_wp2
      refine⟨rfl,wA (HR.out.mono ?_)⟩;rintro r W9 ⟨nY,(⟨rfl,FB,PX⟩|⟨rfl,i9,Po,Sf⟩)⟩
      ·have AC:=And.intro nY.1 (And.intro FB nY.2)
       have eO:=aa (wM.out.trans (eo.out T2 _ W9 AD.out.t.2.2 (ar AD.out.x2) (by have:=AD.out.sz;omega) AC));have HP9:=aa (AD.out.next I6 AC.1 AC.2.1 PX);have O4:=aa ((AC.2.1 g (.inl WH.out) (AD.out.tb g WH.out).2).trans HGA.out);clear AC nY FB PX HR n' t3' cx cp
       gi_wp2
       go_roundw
       case rel=>exact⟨k+1,d++[⟨yx,yp⟩],by omega,by go_num,by rw[pP.out,List.append_cons],HP9.out,eO.out,O4.out⟩
       case measure=>simp[intOf];omega
      ·have eO:=aa (wM.out.out.trans ⟨nY.1,fun k o hk ho hc=>nY.2 k o (by omega) ho hc⟩)
       have PD:W.heap.size<=W9.heap.size:=Nat.le_trans AD.out.sz nY.1;clear nY HR n' t3' cx cp Ak
       gi_wp2
       exact⟨eO.out,rfl,PD,T2,i9,Po,Sf⟩)
      ·obtain rfl:k=m:=by omega
       have HDE:Hid (jD s mem=d++l5 s mem (i+1)):=aa (by rw[HD.out,<-HM.out,List.drop_length];rfl);have Pu:=aa (wZ.out.put HJ.out Xz ⟨by omega,by omega⟩ e);have Pk:=aa (aR.out.trans (Bod.setCell (B:=U.heap.size) (S:=fun k=>k<w0.heap.size\/k=c1\/k=c1+1) wr ⟨W.heap.size+1,0,none⟩ (.int .i64 e) (by dsimp only;omega)));have t4':=ab wZ.out.b4 0;have f4':=aE wZ.out.b4 0;simp only[List.getElem?_toArray,List.getElem?_cons_zero]at t4'
       gi_wp2
       refine⟨Pk.out,d,T2,HDE.out,?_⟩;rw[if_neg (by omega),Nat.add_sub_cancel,TZ.out];exact Pu.out
end Go.Proofs.YtmeaoneaephjeaaGreatDoor
namespace Go.Proofs.YtmeaoneaephjeaaGreatDoor
def labI(s:Sys):Int:=firstIx (iR s).length fun i=>decide ((-1:Int)=(iR s).getD i 0)
theorem Kt(s:Sys):(iR s).length=ng s+1:=by simp[iR,kA]
theorem DN(s:Sys) (k:Nat) (hk:k<ng s+1):(iR s).getD k 0=comB s (eG (aO s) k):=by simp[iR,kA,hk]
theorem Rf(s:Sys) (l:List Nat) (h:comB s l<0):comB s l=-1:=by
 unfold comB at *;rcases bD (oS s) (fun v=>l.all fun e=>valB s e v) with ⟨e,_⟩|⟨k,_,e,_⟩<;>omega
theorem Rg{s:Sys} (h0:0<eS s) (h:pY s<0):labI s<0:=by
 unfold labI;rcases bD (iR s).length (fun i=>decide ((-1:Int)=(iR s).getD i 0)) with ⟨e,_⟩|⟨k,hk,_,h2,_⟩
 ·omega
 ·exfalso
  rw[Kt]at hk;obtain⟨e,he,h3⟩:=Ag h0 k (by omega);have h4:=vH s e he;have h5:=of_decide_eq_true h2;rw[DN s k hk]at h5;rw[h3]at h4;unfold pY at h;rcases bD (eS s) (fun e=>decide ((dm s).getD e 0<0)) with ⟨_,h6⟩|⟨j,_,e6,_⟩
  ·have:=h6 e he
   rw[h4,<-h5]at this;simp at this
  ·omega
theorem Rh{s:Sys} (h0:0<eS s) (h:¬ pY s<0):(pY s).toNat<eS s/\0<=labI s/\labI s=(aO s).getD (pY s).toNat 0:=by
 have hb:∃ j,j<eS s/\pY s=j/\(dm s).getD j 0<0/\∀ i,i<j->¬ (dm s).getD i 0<0:=by
  unfold pY at h ⊢;rcases bD (eS s) (fun e=>decide ((dm s).getD e 0<0)) with ⟨e,_⟩|⟨j,hj,e6,h6,h7⟩
  ·omega
  ·exact⟨j,hj,e6,of_decide_eq_true h6,fun i hi=>of_decide_eq_false (h7 i hi)⟩
 obtain⟨j,hj,e1,h1,h2⟩:=hb;rw[e1,Int.toNat_natCast];have hr:=ky s j hj;have ht:=pD h0 j hj;obtain⟨k,hk⟩:∃ k:Nat,(aO s).getD j 0=k:=⟨((aO s).getD j 0).toNat,by omega⟩;rw[hk]at ht ⊢;refine⟨hj,?_⟩;have hch:=vH s j hj;rw[hk]at hch
 have:labI s=k:=by
  unfold labI;refine dF _ k _ (by rw[Kt];omega) (fun i hi=>?_) ?_
  ·refine decide_eq_false fun e=>?_
   rw[DN s i (by omega)]at e;obtain⟨j',qC,e3⟩:=BA (N1 s) j (by rw[gB];exact hj) i (by omega) (by omega);have h4:=vH s j' (by omega);rw[e3,<-e]at h4;exact h2 j' qC (by omega)
  ·rw[DN s k (by omega),decide_eq_true_eq,Rf s _ (by rw[<-hch];exact h1)]
 omega
theorem ER{s:Sys}:∀ (l:List Lk) (e:Nat),chainB s e l->∀ y∈l,(0<=y.x/\y.x.toNat<eS s)/\0<=y.p/\y.p<nS s
 | [],_,_,y,hy=>by cases hy
 | z :: r,e,⟨h1,h2,h3,h4,_,h6⟩,y,hy=>by
  rcases List.mem_cons.1 hy with rfl|hy
  ·exact⟨⟨h1,h2⟩,h3,h4⟩
  ·exact ER r _ h6 y hy
theorem UZ{s:Sys} (hs:SysOk s) (k:Int):∀ y∈jD s (eG (aO s) k),(0<=y.x/\y.x.toNat<eS s)/\-1<=y.p/\y.p<nS s:=by
 cases hm:eG (aO s) k with
 | nil=>intro y hy;cases hy
 | cons a r=>
  obtain⟨h1,h2,_⟩:=Va hs k a r hm;intro y hy;rcases List.mem_cons.1 hy with rfl|hy
  ·exact⟨⟨by dsimp only;omega,by dsimp only;omega⟩,by dsimp only;omega,by dsimp only;omega⟩
  ·obtain⟨h3,h4,h5⟩:=ER _ _ h2 y hy
   exact⟨h3,by omega,h5⟩
theorem Vu{s:Sys} {l:List Lk} {i:Nat} (hi:i<l.length) (h0:∀ j,j<i->contraB s (l.take (j+1))=false) (h1:contraB s (l.take (i+1))=true):xD s l=l.take (i+1):=by
 unfold xD F6;rw[dF l.length i (fun i=>contraB s (l.take (i+1))) hi h0 h1,if_neg (by omega),Int.toNat_natCast]
theorem Ku{s:Sys} {l:List Lk} (h0:∀ j,j<l.length->contraB s (l.take (j+1))=false):xD s l=l:=by
 unfold xD F6;rcases bD l.length (fun i=>contraB s (l.take (i+1))) with ⟨e,_⟩|⟨k,hk,_,h2,_⟩
 ·rw[e,if_pos (by omega),List.take_length]
 ·rw[h0 k hk]at h2;cases h2
theorem Ri{s:Sys} {l:List Lk} {i:Nat} (hi:i<l.length) (h0:∀ j,j<i->contraB s (l.take (j+1))=false):i<(xD s l).length:=by
 unfold xD F6;rcases bD l.length (fun i=>contraB s (l.take (i+1))) with ⟨e,_⟩|⟨k,hk,e,h2,_⟩
 ·rw[e,if_pos (by omega),List.take_length];exact hi
 ·rw[e,if_neg (by omega),Int.toNat_natCast,List.length_take]
  by_cases h:k<i
  ·rw[h0 k h]at h2;cases h2
  ·omega
theorem Rj{s:Sys} {l:List Lk} {i:Nat} (hi:i<l.length):comM s (bY (l.take (i+1)))=comM s (bY (l.take i)) &&& gV s (l.getD i default).x.toNat:=by
 rw[List.take_succ_eq_append_getElem hi,vD,show l.getD i default=l[i] by simp[hi]];exact En s _ _
end Go.Proofs.YtmeaoneaephjeaaGreatDoor
namespace Go.Proofs.YtmeaoneaephjeaaGreatDoor
open Go.RowKit Go Go.Shelf
theorem yq{F:Fence} {d:Nat} {P:Program} {ops:Array Oper} {rest:List Oper} {o:Oper} {a:Act} {w:World} {Q:Exit->Act->World->Prop} (k9:o.guard=none) (ty:TypeId) (x y:Operand) (ho:o.op=.store ty x y)
  (g:Nat) (cells:Array Value) (hx:a.eval x=.pointer (some ⟨g,0,none⟩)) (hy:a.eval y=.agg cells)
  (t:TypeId) (old:Array Value) (hg:w.heap[g]?=some (.cells old t (0,0))) (hi:(P.info? ty).map (·.size)=some cells.size)
  (p8:old.size=cells.size) (h1:cells.all (·.oneCell')=true)
  (h:wpListIn F d P ops Q rest (a.put o.dst undef) (w.setRow g cells)):wpListIn F d P ops Q (o :: rest) a w:=by
 refine wpListIn_plain k9 fun K hK'=>?_
 unfold Oper.wpIn;refine⟨?_,?_⟩
 ·simp[Oper.about,ho]
 ·rw[Oper.semAt_plain F _ _ (by rw[ho];intro c kH;cases kH)]
  unfold execOp;simp only[ho,hx,hy,Instr.storeAt,Instr.sureAddr,Sem.run_bind,Sem.run_pure,Result.andThen_ok,run_storeVar_row w g t ty old cells hg hi p8 h1];exact hK' _ _ h
theorem F4{F:Fence} {d:Nat} {P:Program} {ops:Array Oper} {Q:Exit->Act->World->Prop} {l:List Oper} {a:Act} {W:World} (I:World->Prop) (h:I W) (k:∀ W0,I W0->wpListIn F d P ops Q l a W0):wpListIn F d P ops Q l a W:=k W h
end Go.Proofs.YtmeaoneaephjeaaGreatDoor
namespace Go.Proofs.YtmeaoneaephjeaaGreatDoor
open Go.RowKit Go Go.Shelf
attribute [local go_sem] Oper.semAt_some
def XV(vr:List Lk × Bool × Int) (r:Ending) (w':World):Prop:=∃ u,r=.returned (.tuple #[.agg (fp (if vr.2.1 then 1 else 0) u),.bool vr.2.1,.int .i64 vr.2.2])/\aU w' u vr.1
theorem kR(tmps:Array Value) (B:Nat) (W:World) (k e:Int) (ok:Bool) (u:Value) (h2:tmps[2]?.getD undef=.pointer (some ⟨B,0,none⟩)) (h3:tmps[3]?.getD undef=.pointer (some ⟨B+1,0,none⟩)) (h4:tmps[4]?.getD undef=.pointer (some ⟨B+1+1,0,none⟩))
  (hB:W.heap[B]?=some (.cells (fp k u) 58)) (hC:W.heap[B+1]?=some (.cells #[.bool ok] 4)) (hD:W.heap[B+1+1]?=some (.cells #[.int .i64 e] 39)):(results Tryz.f18 tmps).run Tryz.prog W=.ok (.tuple #[.agg (fp k u),.bool ok,.int .i64 e]) W:=by
 have t2:=ab hB;have t3:=ab hC 0;have t4:=ab hD 0;simp at t3 t4;simp[results,Tryz.results18,go_sem,h2,h3,h4,t2,t3,t4]
theorem nj{W:World} {B:Nat} {k e e':Int} {ok ok':Bool} {u:Value} (hB:W.heap[B]?=some (.cells (fp k u) 58)) (hC:W.heap[B+1]?=some (.cells #[.bool ok'] 4)) (hD:W.heap[B+1+1]?=some (.cells #[.int .i64 e'] 39)) :
  ((W.setCell ⟨B+1,0,none⟩ (.bool ok)).setCell ⟨B+1+1,0,none⟩ (.int .i64 e)).heap[B]?=some (.cells (fp k u) 58)/\((W.setCell ⟨B+1,0,none⟩ (.bool ok)).setCell ⟨B+1+1,0,none⟩ (.int .i64 e)).heap[B+1]?=some (.cells #[.bool ok] 4)/\((W.setCell ⟨B+1,0,none⟩ (.bool ok)).setCell ⟨B+1+1,0,none⟩ (.int .i64 e)).heap[B+1+1]?=some (.cells #[.int .i64 e] 39):=
 ⟨aH (aH hB (by omega) _ _) (by omega) _ _,aH (aF hC _ _) (by omega) _ _,aF (aH hD (by omega) _ _) _ _⟩
theorem sf(w:World):aU w (.slice none 0 0) []:=⟨none,0,rfl,⟨by simp,by omega,fun _=>rfl⟩,by simp,fun i x hx=>by simp at hx⟩
theorem pF{w w':World} {v:Value} {l:List Lk} (h:aU w v l) (hk:∀ b,v.ownBlock=some b->w'.heap[b]?=w.heap[b]?):aU w' v l:=by
 cases hl:l with
 | nil=>
  subst hl;obtain⟨a,c,e,h1,h2,_⟩:=h;exact⟨a,c,e,h1,h2,fun i x hx=>by simp at hx⟩
 | cons y r=>
  obtain⟨a,c,e,_,_,h3⟩:=h.at;obtain⟨b,o,rfl,_⟩:=h3 0 (by rw[hl];simp);subst e;rw[<-hl];exact jZ h (hk b rfl)
def DO(u0 b8:Nat) (l:List Lk) (T:Nat->Prop) (A:World):Prop:=∃ v,A.heap[b8]?=some (.cells (fp 1 v) 58)/\aD A u0 75 2 v l.length (bF l)/\∀ g,v.ownBlock=some g->¬ T g
theorem DO.ch{u0 b8:Nat} {l:List Lk} {T T':Nat->Prop} {A A':World} (h:DO u0 b8 l T A) (hb:b8<u0) (hc:ChT u0 T A A') (hw:gr A A' T T'):DO u0 b8 l T' A':=by
 obtain⟨v,h1,h2,h3⟩:=h;refine⟨v,(hc.low _ hb).trans h1,h2.keep fun g o hg ho=>?_,fun g hg ht=>?_⟩
 ·have eB:o.isCells=true:=by
   rcases h2.2 with ⟨e,_⟩|⟨g',_,_,_,e,_,e2,_⟩
   ·rw[e]at hg;cases hg
   ·rw[e]at hg
    injection hg with hg
    subst hg;rw[e2]at ho;injection ho with ho
    subst ho;rfl
  exact hc.same g o ho eB (h3 g hg)
 ·rcases hw.2 g ht with h5|h5
  ·exact h3 g hg h5
  ·have:=(h2.lt g hg).2;omega
structure FdI (s:Sys) (w4:World) (u0 b8:Nat) (way:List Lk) (i:Nat) (T:Nat->Prop) (A:World):Prop where
 old:Below w4.heap.size w4 A
 sz:u0<=A.heap.size
 out:DO u0 b8 (way.take i) T A
 left:A.heap[b8+1]?=some (.cells #[.int .i64 (comM s (bY (way.take i)):Nat)] 3)
 no:∀ j,j<i->contraB s (way.take (j+1))=false
 le:i<=4096
 len:(way.take i).length=i
 tb:∀ k,T k->k<A.heap.size
theorem FdI.ch{s:Sys} {w4:World} {u0 b8 i:Nat} {way:List Lk} {T T':Nat->Prop} {A A':World} (h:FdI s w4 u0 b8 way i T A) (h4:w4.heap.size<=u0) (hb:b8+1<u0) (hc:ChT u0 T A A') (hw:gr A A' T T'):FdI s w4 u0 b8 way i T' A':=
 ⟨hc.below h4 h.old,Nat.le_trans h.sz hc.size,h.out.ch (by omega) hc hw,(hc.low _ (by omega)).trans h.left,h.no,h.le,h.len,fun k hk=>by
  rcases hw.2 k hk with h1|h1
  ·exact Nat.lt_of_lt_of_le (h.tb k h1) hc.size
  ·exact h1.2⟩
structure FdX (w4:World) (u0 b8:Nat) (F:List Lk) (T:Nat->Prop) (A:World):Prop where
 old:Below w4.heap.size w4 A
 sz:u0<=A.heap.size
 out:DO u0 b8 F T A
 le:F.length<=4096
structure FdY (w:World) (F:List Lk) (A:World):Prop where
 old:Below w.heap.size w A
 r2:A.heap[w.heap.size+1]?=some (.cells (fp 0 (.slice none 0 0)) 58)
 r3:A.heap[w.heap.size+1+1]?=some (.cells #[.bool false] 4)
 r4:A.heap[w.heap.size+1+1+1]?=some (.cells #[.int .i64 17] 39)
 lt:4096<F.length
theorem OP(s:Sys) (hE:eS s<=256) (vc vs vt ve:Value) (w:World) (hT:ii w) (hs:IsSys w s vc vs vt ve) (hN:movesN s.prob.a.states<1099511627776) :
  Calls Tryz.prog 18 #[.agg (bE s.prob vc vs s.n vt ve)] w fun r w'=>XV (findW s) r w'/\Below w.heap.size w w':=by
 have HS:=aa hs;have HT:=aa hT;obtain⟨⟨pc,cc,rfl⟩,⟨ps,cs,rfl⟩,⟨pt,ct,rfl⟩,⟨pe,ce,rfl⟩⟩:=bg hs;clear hs hT;have HC:=aa (fun W (hb:Below w.heap.size w W)=>nf s hE _ _ _ _ W (HS.out.up hb) hN)
 have nZ:Hid (readyE s=0->verifyE s=0/\agreeB s.prob.t=true):=aa fun h=>by
  refine⟨ra h,?_⟩;unfold readyE at h;split at h
  ·rename_i h1;exact absurd h h1
  split at h
  ·assumption
  ·omega
 have cX:Hid (readyE s≠0->findW s=([],false,readyE s)):=aa fun h=>by unfold findW;rw[if_pos h]
 have dE:Hid (readyE s=0->pY s<0->findW s=([],false,0)):=aa fun h h2=>by unfold findW;rw[if_neg (by omega),if_pos h2]
 have fZ:Hid (readyE s=0->¬ pY s<0->findW s=if 4096<(uk s).length then([],false,17) else(uk s,true,0)):=aa fun h h2=>by unfold findW;rw[if_neg (by omega),if_neg h2]
 generalize findW s=vr at cX dE fZ ⊢;obtain⟨re,mG⟩:∃ re,readyE s=re:=⟨_,rfl⟩;rw[mG]at cX dE fZ HC nZ;clear mG;refine fT Tryz.func18 rfl ?_;simp only[Tryz.ntmps18,List.size_toArray,List.length_cons,List.length_nil,Nat.reduceAdd,Nat.reduceSub,Array.replicate_succ,Array.replicate_zero,List.push_toArray,List.append_toArray,List.nil_append,List.cons_append]
 go_wp2_with fail
 refine aL (fun W=>Below w.heap.size w W/\W.heap[w.heap.size+1]?=some (.cells (fp 0 (.slice none 0 0)) 58)/\W.heap[w.heap.size+1+1]?=some (.cells #[.bool false] 4)/\W.heap[w.heap.size+1+1+1]?=some (.cells #[.int .i64 0] 39))
  ⟨by go_grown,am _ (am _ (ba _ _ _)),am _ (dH _ _ _ _),by have h:=ak (((w.alloc (.cells (bE s.prob (.slice pc s.prob.t.cases.length cc) (.slice ps s.prob.a.states.length cs) s.n (.slice pt s.tab.length ct) (.slice pe s.ex.length ce)) 35)).alloc (.cells (fp 0 (.slice none 0 0)) 58)).alloc (.cells #[.bool false] 4)) (.cells #[.int .i64 0] 39);simpa using h⟩ (fun W0 aW=>?_)
 obtain⟨aC,lV,CN,CG⟩:=aW;refine(HC.out W0 aC).mono ?_;rintro r w1 ⟨v,rfl,aG,h2,h3⟩;have bC:=aa (ae aC aG);have fB:=aa (af aG lV);have iW:=aa (af aG CN);have la:=aa (af aG CG);have fP:=ar la.out;by_cases hr:re=0
 case neg=>
  have HV:=aa (cX.out hr);obtain rfl:=h2 hr;have Fl:(re != 0)=true:=by simpa using hr
  clear aC aG h2 h3 hr HC lV CN CG cX dE fZ nZ
  go_wp2_with (refine wpList_store_row rfl 58 (.tmp 2) (.tmp 18) rfl (w.heap.size+1) (fp 0 (.slice none 0 0)) rfl rfl 58 _ (am _ fB.out) (by kernel_rfl) rfl (by simp[Value.oneCell']) (gD (fun W=>Below w.heap.size w W/\W.heap[w.heap.size+1]?=some (.cells (fp 0 (.slice none 0 0)) 58)/\W.heap[w.heap.size+1+1]?=some (.cells #[.bool false] 4)/\W.heap[w.heap.size+1+1+1]?=some (.cells #[.int .i64 0] 39)) ⟨below_setRow (bC.out.alloc (by omega) _) (by omega) _,setRow_heap _ _ _ _ _ _ (am _ fB.out),by rw[setRow_other _ _ _ _ (by omega)];exact am _ iW.out,by rw[setRow_other _ _ _ _ (by omega)];exact am _ la.out⟩ ?_);intro W2 eF;have cD:=aa eF;clear eF;have t3:=ab cD.out.2.2.1 0;have z3:=aE cD.out.2.2.1 0;have t4:=ab cD.out.2.2.2 0;have z4:=aE cD.out.2.2.2 0;simp at t3 t4)
  obtain⟨y1,y2,y3⟩:=nj (ok:=false) (e:=re) cD.out.2.1 cD.out.2.2.1 cD.out.2.2.2;have e1:=HV.out;subst e1;exact ie (kR _ (w.heap.size+1) _ 0 re false _ rfl rfl rfl y1 y2 y3) ⟨⟨_,rfl,sf _⟩,(cD.out.1.setCell (by dsimp only;omega) _).setCell (by dsimp only;omega) _⟩
 obtain⟨B,rfl,hB,fO⟩:=h3 hr;have cT:=aa (dE.out hr);have rk:=aa (fZ.out hr);have sH:=aa (nZ.out hr).1;have Fv:=aa (nZ.out hr).2;have di:=aa (jh sH.out);have HP:=aa (zu sH.out);have kn:=aa fO;subst hr;clear aC aG h2 h3 HC fO lV CN CG cX dE fZ nZ;have tb:=fun o j=>ab (am o fB.out) j
 go_wp2_with fail
 clear tb;refine aL (fun W=>Below w1.heap.size w1 W/\W.heap[w1.heap.size]?=some (.cells #[.pointer (some ⟨B,0,none⟩)] 94)) ⟨by go_grown,ak _ _⟩ (fun W1 cC=>?_);have gc:=aa cC.1;have km:=aa cC.2;clear cC;have Ik:=aa (kn.out.up gc.out);have wm:=aa (ae bC.out gc.out);refine(tz s di.out HP.out hE B W1 Ik.out (HT.out.up wm.out)).mono ?_;rintro r w3 ⟨u,rfl,hu,bA⟩;have pR:=aa (wD u (iR s) (-1) w3 hu);obtain⟨pu,cu,rfl,_⟩:=hu.at;have dP:=aa (ae gc.out bA);have DT:=aa (af bA km.out);clear hu bA;have Al:Hid (firstIx (iR s).length (fun i=>decide ((-1:Int)=(iR s).getD i 0))=labI s):=aa rfl;rw[Al.out]at pR;have SM:=aa (fun h=>Rg (s:=s) HP.out h);have Fz:=aa (fun h=>Rh (s:=s) HP.out h);obtain⟨cn,CF⟩:∃ cn,(iR s).length=cn:=⟨_,rfl⟩;rw[CF]at pR ⊢;clear Al CF;generalize labI s=lab at pR SM Fz
 go_wp2_with fail
 refine pR.out.mono ?_;rintro r w4 ⟨rfl,cg⟩;have fe:=aa (ae dP.out cg);have Eb:=aa (af cg DT.out);have IV:=aa (ae bC.out fe.out);have Im:=aa (af fe.out fB.out);have M7:=aa (af fe.out iW.out);have MI:=aa (af fe.out la.out);clear cg pR dP DT km gc Ik wm;by_cases VI:pY s<0
 ·have az:=SM.out VI
  have hd:decide (lab<0)=true:=decide_eq_true az;have e1:=cT.out VI;subst e1;clear cT rk SM Fz az
  go_wp2_with (refine wpList_store_row rfl 58 (.tmp 2) (.tmp 25) rfl (w.heap.size+1) (fp 0 (.slice none 0 0)) rfl rfl 58 _ Im.out (by kernel_rfl) rfl (by simp[Value.oneCell']) (gD (fun W=>Below w.heap.size w W/\W.heap[w.heap.size+1]?=some (.cells (fp 0 (.slice none 0 0)) 58)/\W.heap[w.heap.size+1+1]?=some (.cells #[.bool false] 4)/\W.heap[w.heap.size+1+1+1]?=some (.cells #[.int .i64 0] 39)) ⟨below_setRow IV.out (by omega) _,setRow_heap _ _ _ _ _ _ Im.out,by rw[setRow_other _ _ _ _ (by omega)];exact M7.out,by rw[setRow_other _ _ _ _ (by omega)];exact MI.out⟩ ?_);intro W2 eF;have cD:=aa eF;clear eF;have t3:=ab cD.out.2.2.1 0;have z3:=aE cD.out.2.2.1 0;have t4:=ab cD.out.2.2.2 0;have z4:=aE cD.out.2.2.2 0;simp at t3 t4)
  obtain⟨y1,y2,y3⟩:=nj (ok:=false) (e:=0) cD.out.2.1 cD.out.2.2.1 cD.out.2.2.2;exact ie (kR _ (w.heap.size+1) _ 0 0 false _ rfl rfl rfl y1 y2 y3) ⟨⟨_,rfl,sf _⟩,(cD.out.1.setCell (by dsimp only;omega) _).setCell (by dsimp only;omega) _⟩
 obtain⟨lP,uT,hleq⟩:=Fz.out (by omega);have hd:decide (lab<0)=false:=decide_eq_false (by omega);have HV:=aa (rk.out (by omega));have Ap:Hid (uk s=xD s (jD s (eG (aO s) lab))):=aa (by rw[hleq];rfl);have TL:=aa (UZ di.out lab);clear cT rk SM Fz VI lP hleq;have O8:=IV.out.size;have tb:=ab Eb.out 0;simp at tb;have tb':∀ o o',((w4.alloc o).alloc o').cell? ⟨w1.heap.size,0,none⟩=some (.pointer (some ⟨B,0,none⟩)):=fun o o'=>ai (show Below w4.heap.size w4 ((w4.alloc o).alloc o') by go_grown) tb
 go_wp2_with fail
 refine(OO B lab _).mono ?_;rintro r w5 ⟨rfl,rfl⟩;clear tb tb'
 go_wp2_with fail
 refine bj (fun U=>Below w4.heap.size w4 U/\U.heap.size=w4.heap.size+1+1+1+1/\U.heap[w4.heap.size]?=some (.cells (fp 1 (.slice none 0 0)) 58)/\U.heap[w4.heap.size+1]?=some (.cells #[.int .i64 255] 3)/\U.heap[w4.heap.size+1+1]?=some (.cells #[.pointer (some ⟨B,0,none⟩)] 94)/\U.heap[w4.heap.size+1+1+1]?=some (.cells #[.int .i64 lab] 3))
  ⟨by go_grown,by simp,am _ (am _ (am _ (ak _ _))),am _ (am _ (ba _ _ _)),am _ (dH _ _ _ _),by have h:=ak (((w4.alloc (.cells (fp 1 (.slice none 0 0)) 58)).alloc (.cells #[.int .i64 255] 3)).alloc (.cells #[.pointer (some ⟨B,0,none⟩)] 94)) (.cells #[.int .i64 lab] 3);simpa using h⟩ (fun U hU=>?_)
 obtain⟨sD,oe,ss,pO,kY,IY⟩:=hU;have HSC4:=aa (kn.out.up fe.out);have da:=Mf s sH.out hE hN B (w4.heap.size+1+1) (w4.heap.size+1+1+1) lab w4 HSC4.out U sD kY IY;obtain⟨way,Jl⟩:∃ way,jD s (eG (aO s) lab)=way:=⟨_,rfl⟩;rw[Jl]at da Ap TL;obtain⟨F,hF⟩:∃ F,uk s=F:=⟨_,rfl⟩;rw[hF]at Ap HV;obtain⟨i0,cG,cf,bP,cj⟩:=info_parts Tryz.infoLink;have bQ:=aa (And.intro cG (And.intro cf (And.intro bP cj)))
 have Cz:Hid (∀ y∈F,bI y.x/\bI y.p):=aa (fun y hy=>by
  rw[Ap.out]at hy;obtain⟨h1,h2⟩:=TL.out y (List.mem_of_mem_take hy);have:=di.out.n.2.1
  exact⟨⟨by omega,by omega⟩,⟨by omega,by omega⟩⟩)
 have HU:Hid (FdI s w4 U.heap.size w4.heap.size way 0 (fun _=>False) U):=aa ⟨sD,Nat.le_refl _,⟨_,ss,aD.nil _ _ _ _,fun g hg=>by cases hg⟩,by rw[List.take_zero,show comM s (bY [])=255 from AX s];exact pO,fun j hj=>by omega,by omega,by simp,fun k h=>h.elim⟩;have RY:=aa (fun i T T' A A' (h:FdI s w4 U.heap.size w4.heap.size way i T A) (hc:ChT U.heap.size T A A') (hw:gr A A' T T')=>h.ch (by omega) (by omega) hc hw);have ic:=di.out.n.2.1;have TK:=di.out.outs.2.1;clear sD ss pO kY IY Jl hF cG cf bP cj
 refine Md (gf:=89) (lb:=#[.pointer (some ⟨w4.heap.size+1+1,0,none⟩),.pointer (some ⟨w4.heap.size+1+1+1,0,none⟩)]) rfl (enters_of Tryz.func89 (by kernel_rfl) rfl) da (Below.refl _ _) (fun k hk=>by rcases hk with hk|rfl|rfl<;>omega) (fun i args h=>by rw[h];rfl)
  (FdI s w4 U.heap.size w4.heap.size way)
  (fun c i T A=>(c=.exit 0/\FdX w4 U.heap.size w4.heap.size F T A)\/(c=.ret/\FdY w F A))
  (fun i T T' A A' h hc hw=>RY.out i T T' A A' h hc hw)
  (fun c i T T' A A' h hc hw=>by
   rcases h with ⟨h1,h⟩|⟨h1,h⟩
   ·exact .inl ⟨h1,hc.below (by omega) h.old,Nat.le_trans h.sz hc.size,h.out.ch (by omega) hc hw,h.le⟩
   ·exact .inr ⟨h1,hc.below (by omega) h.old,(hc.low _ (by omega)).trans h.r2,(hc.low _ (by omega)).trans h.r3,(hc.low _ (by omega)).trans h.r4,h.lt⟩)
  HU.out ?rnd ?done ?stop
 case done=>
  intro D T A hD mF hK;have pM:FdX w4 U.heap.size w4.heap.size F T A:=⟨mF.old,mF.sz,by rw[Ap.out,Ku mF.no];have h:=mF.out;rw[List.take_length]at h;exact h,by rw[Ap.out,Ku mF.no];exact mF.le⟩;have As:Hid (F.length<=4096):=aa pM.le;clear mF;obtain⟨v,jN,kE,_⟩:=pM.out;have Fd:=ar hK;have pK:=kQ kE Cz.out (by have:=pM.le;omega);obtain⟨pv,cv,rfl⟩:=kE.slice;have VO:=aa pM.old;have gk:=aa pK;have nK:=aa jN;have Y2:=aa (af pM.old Im.out);have Y3:=aa (af pM.old M7.out);have Y4:=aa (af pM.old MI.out);have t8:=ab jN;have Lf:=aa hK;have hbU:w.heap.size+1+1+1<D:=by omega
  have gK:Hid (∀ b,(Value.slice pv F.length cv).ownBlock=some b->U.heap.size<=b):=aa (fun b hb=>(kE.lt b hb).1);have E7:Hid (¬ (Value.slice pv F.length cv).ownBlock=some D):=aa (fun e=>kE.isCells hK rfl e.symm);clear jN kE pK da hK pM
  go_wp2_with (refine wpList_store_row rfl 58 (.tmp 2) (.tmp 54) rfl (w.heap.size+1) (fp 1 (.slice pv F.length cv)) rfl rfl 58 _ Y2.out (by kernel_rfl) rfl (by simp[Value.oneCell']) (gD (fun W=>(Below w.heap.size w W/\aU W (.slice pv F.length cv) F/\W.heap[D]?=some (.deferred (some [])))/\W.heap[w.heap.size+1]?=some (.cells (fp 1 (.slice pv F.length cv)) 58)/\W.heap[w.heap.size+1+1]?=some (.cells #[.bool false] 4)/\W.heap[w.heap.size+1+1+1]?=some (.cells #[.int .i64 0] 39)) ⟨⟨below_setRow (ae IV.out VO.out) (by omega) _,pF gk.out (fun b hb=>by rw[setRow_other _ _ _ _ (by have:=gK.out b hb;omega)]),by rw[setRow_other _ _ _ _ (by omega)];exact Lf.out⟩,setRow_heap _ _ _ _ _ _ Y2.out,by rw[setRow_other _ _ _ _ (by omega)];exact Y3.out,by rw[setRow_other _ _ _ _ (by omega)];exact Y4.out⟩ ?_);intro W2 eF;have cD:=aa eF;clear eF;have t3:=ab cD.out.2.2.1 0;have z3:=aE cD.out.2.2.1 0;have t4:=ab cD.out.2.2.2 0;have z4:=aE cD.out.2.2.2 0;simp at t3 t4)
  obtain⟨y1,y2,y3⟩:=nj (ok:=true) (e:=0) cD.out.2.1 cD.out.2.2.1 cD.out.2.2.2;refine io (aH (aH cD.out.1.2.2 (by omega) _ _) (by omega) _ _) (kR _ (w.heap.size+1) _ 1 0 true _ rfl rfl rfl ((World.putObj_heap_other (by omega)).trans y1) ((World.putObj_heap_other (by omega)).trans y2) ((World.putObj_heap_other (by omega)).trans y3)) ?_;have e1:=HV.out;rw[if_neg (by have:=As.out;omega)]at e1;subst e1;refine⟨⟨_,rfl,pF cD.out.1.2.1 (fun b hb=>by have h1:=gK.out b hb;have h2:b≠D:=fun e=>E7.out (e ▸ hb);rw[World.putObj_heap_other h2,Below.heap_setCell _ _ _ _ (by dsimp only;omega),Below.heap_setCell _ _ _ _ (by dsimp only;omega)])⟩,eE (by omega) ((cD.out.1.1.setCell (by dsimp only;omega) _).setCell (by dsimp only;omega) _)⟩
 case stop=>
  rintro D c i T A hD hi h hK;rcases h with ⟨rfl,pM⟩|⟨rfl,hY⟩
  case inr=>
   have Fd:=ar hK
   go_wp2_with fail
   refine io hK (kR _ (w.heap.size+1) _ 0 17 false _ rfl rfl rfl ((World.putObj_heap_other (by omega)).trans hY.r2) ((World.putObj_heap_other (by omega)).trans hY.r3) ((World.putObj_heap_other (by omega)).trans hY.r4)) ?_;have e1:=HV.out;rw[if_pos hY.lt]at e1;subst e1;exact⟨⟨_,rfl,sf _⟩,eE (by omega) hY.old⟩
  have As:Hid (F.length<=4096):=aa pM.le;obtain⟨v,jN,kE,_⟩:=pM.out;have Fd:=ar hK;have pK:=kQ kE Cz.out (by have:=pM.le;omega);obtain⟨pv,cv,rfl⟩:=kE.slice;have VO:=aa pM.old;have gk:=aa pK;have nK:=aa jN;have Y2:=aa (af pM.old Im.out);have Y3:=aa (af pM.old M7.out);have Y4:=aa (af pM.old MI.out);have t8:=ab jN;have Lf:=aa hK;have hbU:w.heap.size+1+1+1<D:=by omega
  have gK:Hid (∀ b,(Value.slice pv F.length cv).ownBlock=some b->U.heap.size<=b):=aa (fun b hb=>(kE.lt b hb).1);have E7:Hid (¬ (Value.slice pv F.length cv).ownBlock=some D):=aa (fun e=>kE.isCells hK rfl e.symm);clear jN kE pK da hK pM
  go_wp2_with (refine wpList_store_row rfl 58 (.tmp 2) (.tmp 54) rfl (w.heap.size+1) (fp 1 (.slice pv F.length cv)) rfl rfl 58 _ Y2.out (by kernel_rfl) rfl (by simp[Value.oneCell']) (gD (fun W=>(Below w.heap.size w W/\aU W (.slice pv F.length cv) F/\W.heap[D]?=some (.deferred (some [])))/\W.heap[w.heap.size+1]?=some (.cells (fp 1 (.slice pv F.length cv)) 58)/\W.heap[w.heap.size+1+1]?=some (.cells #[.bool false] 4)/\W.heap[w.heap.size+1+1+1]?=some (.cells #[.int .i64 0] 39)) ⟨⟨below_setRow (ae IV.out VO.out) (by omega) _,pF gk.out (fun b hb=>by rw[setRow_other _ _ _ _ (by have:=gK.out b hb;omega)]),by rw[setRow_other _ _ _ _ (by omega)];exact Lf.out⟩,setRow_heap _ _ _ _ _ _ Y2.out,by rw[setRow_other _ _ _ _ (by omega)];exact Y3.out,by rw[setRow_other _ _ _ _ (by omega)];exact Y4.out⟩ ?_);intro W2 eF;have cD:=aa eF;clear eF;have t3:=ab cD.out.2.2.1 0;have z3:=aE cD.out.2.2.1 0;have t4:=ab cD.out.2.2.2 0;have z4:=aE cD.out.2.2.2 0;simp at t3 t4)
  obtain⟨y1,y2,y3⟩:=nj (ok:=true) (e:=0) cD.out.2.1 cD.out.2.2.1 cD.out.2.2.2;refine io (aH (aH cD.out.1.2.2 (by omega) _ _) (by omega) _ _) (kR _ (w.heap.size+1) _ 1 0 true _ rfl rfl rfl ((World.putObj_heap_other (by omega)).trans y1) ((World.putObj_heap_other (by omega)).trans y2) ((World.putObj_heap_other (by omega)).trans y3)) ?_;have e1:=HV.out;rw[if_neg (by have:=As.out;omega)]at e1;subst e1;refine⟨⟨_,rfl,pF cD.out.1.2.1 (fun b hb=>by have h1:=gK.out b hb;have h2:b≠D:=fun e=>E7.out (e ▸ hb);rw[World.putObj_heap_other h2,Below.heap_setCell _ _ _ _ (by dsimp only;omega),Below.heap_setCell _ _ _ _ (by dsimp only;omega)])⟩,eE (by omega) ((cD.out.1.1.setCell (by dsimp only;omega) _).setCell (by dsimp only;omega) _)⟩
 case rnd=>
  rintro yl i T V args hi hl hlV hT rfl iv;obtain⟨y,hy⟩:∃ y,way.getD i default=y:=⟨_,rfl⟩;have WF:way[i]=y:=by rw[<-hy];simp[hi]
  obtain⟨⟨iV,Tz⟩,hyp⟩:=TL.out way[i] (List.getElem_mem hi);rw[WF]at iV Tz hyp;have fE:=aa (Rj (s:=s) hi);rw[hy]at fE ⊢;obtain⟨yx,yp⟩:=y;dsimp only at iV Tz hyp fE;obtain⟨e,he⟩:∃ e:Nat,yx=e:=⟨yx.toNat,by omega⟩;subst he;rw[Int.toNat_natCast]at Tz fE;have nG:=aa iv;have HYW:=aa WF;clear iv hy WF da iV
  gi_wp2
  have S9:Below V.heap.size V (V.alloc (.cells #[.int .i64 e,.int .i64 yp] 75)):=by go_grown
  refine⟨Bod.of_below (fun k hk=>hk.2) S9,fun X=>FdI s w4 U.heap.size w4.heap.size way i T X/\X.heap[V.heap.size]?=some (.cells #[.int .i64 e,.int .i64 yp] 75)/\∀ g v,X.heap[w4.heap.size]?=some (.cells (fp 1 v) 58)->v.ownBlock=some g->g<V.heap.size,?_,⟨RY.out _ _ _ _ _ nG.out (ChT.of_below nG.out.sz S9) (gr.refl _ _ _),ak _ _,fun g v h1 h2=>?_⟩,fun X hX jq=>?_⟩
  ·intro A A' c h
   refine⟨RY.out _ _ _ _ _ h.1 (ChT.of_chg c (Nat.le_refl _) h.1.sz) (gr.refl _ _ _),c.same _ _ h.2.1 (.inr rfl),fun g v h1 h2=>?_⟩;obtain⟨v0,h3,_⟩:=h.1.out;have h4:=c.same _ _ h3 (.inr rfl);rw[h1]at h4;have h5:=cU h4;injection h5 with h5
   injection h5 with h5
   simp at h5;exact h.2.2 g v0 h3 (by rw[<-h5];exact h2)
  ·obtain⟨v0,h3,h4,_⟩:=nG.out.out
   have h6:=af S9 h3;rw[h1]at h6;have h5:=cU h6;injection h5 with h5
   injection h5 with h5
   simp at h5;exact(h4.lt g (by rw[<-h5];exact h2)).2
  obtain⟨rlp,jq⟩:=jq;have Ja:=ar jq;have hzV:=nG.out.sz;clear jq rlp S9 nG;obtain⟨SS,V7⟩:∃ SS:Nat->Prop,(fun k=>(T k\/k<w4.heap.size\/k=w4.heap.size+1+1\/k=w4.heap.size+1+1+1)/\k<V.heap.size)=SS:=⟨_,rfl⟩;rw[V7];have HSS:Hid (∀ k,SS k->(T k\/k<w4.heap.size\/k=w4.heap.size+1+1\/k=w4.heap.size+1+1+1)/\k<V.heap.size):=aa (fun k hk=>by rw[<-V7]at hk;exact hk);clear V7;have HX:=aa hX.1;have bZ:=aa hX.2.1;have kF:=ar hX.2.1;obtain⟨v,jN,kE,Pr⟩:=hX.1.out;rw[hX.1.len]at kE;obtain⟨pv,cv,rfl⟩:=kE.slice;have nK:=aa jN;have cT:=aa kE;have HV3':=aa Pr;have t8:=ab jN;have z8:=aE jN;have tb:=ab hX.2.1;have Pz:=fun g h=>hX.2.2 g _ jN h
  have jo:=hX.1.no;have lu:=hX.1.le;by_cases WO:i=4096
  ·have Wp:Hid (4096<F.length):=aa (by rw[Ap.out,<-WO];exact Ri hi jo)
   have hdd:((i:Int) == 4096)=true:=by rw[WO];rfl
   have y2:=af hX.1.old Im.out;have y3:=af hX.1.old M7.out;have y4:=af hX.1.old MI.out;have Y2:=aa y2;have Y3:=aa y3;have Y4:=aa y4;clear hX jN kE Pr tb jo y2 y3 y4 Pz
   gi_wp2_with (refine yq rfl 58 (.tmp 2) (.tmp 35) rfl (w.heap.size+1) (fp 0 (.slice none 0 0)) rfl rfl 58 _ Y2.out (by kernel_rfl) rfl (by simp[Value.oneCell']) (F4 (fun W=>Bdx U.heap.size X W/\Below w.heap.size w W/\W.heap[w.heap.size+1]?=some (.cells (fp 0 (.slice none 0 0)) 58)/\W.heap[w.heap.size+1+1]?=some (.cells #[.bool false] 4)/\W.heap[w.heap.size+1+1+1]?=some (.cells #[.int .i64 0] 39)) ⟨⟨(below_setRow (Below.refl 0 X) (Nat.zero_le _) _).size,fun k o hk ho hc=>by rw[setRow_other _ _ _ _ (by omega)];exact ho⟩,below_setRow (ae IV.out HX.out.old) (by omega) _,setRow_heap _ _ _ _ _ _ Y2.out,by rw[setRow_other _ _ _ _ (by omega)];exact Y3.out,by rw[setRow_other _ _ _ _ (by omega)];exact Y4.out⟩ ?_);intro W2 eF;have cD:=aa eF;clear eF;have t3:=ab cD.out.2.2.2.1 0;have z3:=aE cD.out.2.2.2.1 0;have t4:=ab cD.out.2.2.2.2 0;have z4:=aE cD.out.2.2.2.2 0;simp at t3 t4)
   obtain⟨q1,q2,q3⟩:=nj (ok:=false) (e:=17) cD.out.2.2.1 cD.out.2.2.2.1 cD.out.2.2.2.2;exact⟨⟨by simpa using cD.out.1.size,fun k o hk ho hc=>aH (aH (cD.out.1.same k o hk ho hc) (by omega) _ _) (by omega) _ _⟩,.inr ⟨rfl,(cD.out.2.1.setCell (by dsimp only;omega) _).setCell (by dsimp only;omega) _,q1,q2,q3,Wp.out⟩⟩
  ·have hi5:i<4096:=by omega
   have hdd:((i:Int) == 4096)=false:=beq_eq_false_iff_ne.2 (by omega);have HX':=aa hX.1;have H6:∀ g,(Value.slice pv i cv).ownBlock=some g->g≠V.heap.size:=fun g hg=>by have:=Pz g hg;omega
   have bL:=aa (kE.up ((Below.refl _ X).alloc (Nat.le_refl _) (.cells #[.int .i64 e,.int .i64 yp] 75)));have bB:=aa (eA X [.int .i64 (e:Int),.int .i64 yp] 75);have gO:Hid (i+1<=maxLen):=aa (by unfold maxLen;omega);have eo:Hid ((i+1) * 16<=140737488355328):=aa (by omega);have fL:Hid (U.heap.size<=(X.alloc (.cells #[.int .i64 e,.int .i64 yp] 75)).heap.size):=aa (by have:=HX.out.sz;simp;omega);have hsX:=HX.out.sz;have tbA:∀ o j,(X.alloc o).cell? ⟨V.heap.size,j,none⟩=_:=fun o=>ab (am o hX.2.1)
   clear hX jN kE Pr jo WO
   gi_wp2_with (gi_at_builtin;(refine qg _ rfl (.tmp 37) (.tmp 39) 54 rfl U.heap.size 75 i0 _ 2 16 Tryz.underlying54 bQ.out.1 bQ.out.2.1 bQ.out.2.2.1 bQ.out.2.2.2 rfl (by decide) _ i _ rfl bL.out ⟨X.heap.size,0,none⟩ 1 1 [.int .i64 (e:Int),.int .i64 yp] rfl rfl bB.out (by simp[Value.oneCell']) gO.out eo.out fL.out ?_;intro v4 w6 l8 eL hob4;obtain⟨av4,cv4,rfl⟩:=l8.slice;have Tt:=rU bL.out eL nK.out (by omega);have c8:=ab Tt;have f8:=aE Tt))
   have Tu:=eL.size;simp only[World.size_alloc]at Tu;obtain⟨W7,sL⟩:∃ W7,W7=w6.setCell ⟨w4.heap.size,1,none⟩ (.slice av4 (i+1) cv4):=⟨_,rfl⟩;rw[<-sL]
   have hkU:∀ k,k<U.heap.size->k≠w4.heap.size->∀ o,X.heap[k]?=some o->W7.heap[k]?=some o:=fun k hk hn o ho=>by
    rw[sL];exact aH (rU bL.out eL ho hk) hn _ _
   have h78:W7.heap[w4.heap.size]?=some (.cells (fp 1 (.slice av4 (i+1) cv4)) 58):=by rw[sL];exact(aF Tt _ _).trans rfl
   have h7r:aD W7 U.heap.size 75 2 (.slice av4 (i+1) cv4) (i+1) (bF (way.take (i+1))):=by
    rw[sL,List.take_succ_eq_append_getElem hi,HYW.out,jj];exact l8.put (fun g hg e=>by subst e;have:=(l8.lt _ hg).1;omega) _ _
   have SU:Below w4.heap.size w4 W7:=by rw[sL];exact(BS HX.out.old (by omega) (by omega) bL.out eL).setCell (by dsimp only;omega) _
   have h7s:W7.heap.size=w6.heap.size:=by rw[sL];simp
   have h7nc:∀ (k:Nat) (o:Obj),X.heap[k]?=some o->o.isCells=false->W7.heap[k]?=some o:=fun k o ho hc=>by
    rw[sL];exact aH (mB bL.out eL ho hc) (fun e=>by subst e;rw[nK.out]at ho;cases ho;cases hc) _ _
   have Xq:∀ k,k<X.heap.size->k≠w4.heap.size->(∀ g,(Value.slice pv i cv).ownBlock=some g->k≠g)->W7.heap[k]?=X.heap[k]?:=fun k h1 h2 h3=>by
    rw[sL,Below.heap_setCell _ _ _ _ h2,eL.block k (by simp;omega) (fun e=>h3 k e.symm rfl)];exact Below.heap_alloc X _ k h1
   have h7b:W7.heap[V.heap.size]?=some (.cells #[.int .i64 e,.int .i64 yp] 75):=(Xq _ kF (by omega) (fun g hg e=>H6 g hg e.symm)).trans bZ.out;have AB:=hkU _ (by omega) (by omega) _ HX.out.left;have h7sc:=HSC4.out.up SU;have H78:=aa h78;have H7R:=aa h7r;have H7O:=aa SU;have H7N:=aa h7nc;have H7K:=aa Xq;have H79:=aa AB;obtain⟨qv,kv,t10,ev⟩:=h7sc.val;obtain⟨bv,ov,rfl,tev⟩:=ev e Tz;have t5:=ab (af SU Eb.out) 0;have t9:=ab AB 0;have z9:=aE AB 0;have tl:=ab h7b;simp only[List.getElem?_toArray,List.getElem?_cons_zero]at t5 t9;have lE:bits .and .i64 ((comM s (bY (way.take i)):Nat):Int) ((gV s e:Nat):Int)=((comM s (bY (way.take i)) &&& gV s e:Nat):Int):=zL _ _ (by have:=Ko s (bY (way.take i));omega) (by have:=Kn s e;omega);rw[<-fE.out]at lE;have HOB4:=aa hob4;generalize comM s (bY (way.take i))=ma,gV s e=mb at t9 tev lE;obtain⟨mc,sQ⟩:∃ mc,comM s (bY (way.take (i+1)))=mc:=⟨_,rfl⟩;rw[sQ]at lE;have HMC:=aa sQ;clear sL hkU h78 h7r SU h7nc Xq h7b AB h7sc ev sQ tb tbA t8 z8 l8 eL Tt c8 f8 hob4 fE;refine kL 10 (fun ⟨_,_,h⟩=>h) (by kernel_rfl) (by kernel_rfl) (by kernel_rfl) (fun ops Lq hops hLq=>?_);simp only[List.take_succ_cons,List.take_zero,List.drop_succ_cons,List.drop_zero]at hLq ⊢;have CJ:=aa hLq;clear hLq;have Sp:=aa hops;clear hops
   repeat still_step
   refine wpStill_nil ?_;refine CJ.out _ ?_;clear t10 tev t5
   go_wp2_with fail
   obtain⟨W8,nW⟩:∃ W8,W8=(W7.setCell ⟨w4.heap.size+1,0,none⟩ (.int .i64 mc)).drew:=⟨_,rfl⟩;rw[<-nW];have h8s:W8.heap.size=W7.heap.size:=by rw[nW];simp
   have Pj:∀ k,k≠w4.heap.size+1->W8.heap[k]?=W7.heap[k]?:=fun k hk=>by rw[nW];exact Below.heap_setCell W7 _ _ _ hk
   have WS:W8.heap[w4.heap.size+1]?=some (.cells #[.int .i64 mc] 3):=by rw[nW];exact(aF (W:=W7) H79.out 0 _).trans rfl
   have h8o:Below w4.heap.size w4 W8:=by rw[nW];exact(H7O.out.setCell (by dsimp only;omega) _).drew
   have h88:=(Pj _ (by omega)).trans H78.out;have h8r:aD W8 U.heap.size 75 2 (.slice av4 (i+1) cv4) (i+1) (bF (way.take (i+1))):=H7R.out.keep fun g o hg ho=>(Pj g (by have:=(H7R.out.lt g hg).1;omega)).trans ho
   have h8n:∀ (k:Nat) (o:Obj),X.heap[k]?=some o->o.isCells=false->W8.heap[k]?=some o:=fun k o ho hc=>by
    rw[Pj k (fun e=>by subst e;rw[HX.out.left]at ho;cases ho;cases hc)];exact H7N.out k o ho hc
   have M3:(way.take (i+1)).length=i+1:=by rw[List.length_take];omega
   have hnT:∀ g,(Value.slice av4 (i+1) cv4).ownBlock=some g->¬ T g:=fun g hg ht=>by
    rcases HOB4.out with h|h
    ·rw[h]at hg;exact HV3'.out g hg ht
    ·rw[h]at hg
     injection hg with hg
     have:=HX.out.tb g ht;simp at hg;omega
   have HOUT:Hid (DO U.heap.size w4.heap.size (way.take (i+1)) T W8):=aa ⟨_,h88,by rw[M3];exact h8r,hnT⟩
   have gU:Hid (contraB s (way.take (i+1))=decide (mc=0)):=aa (by
    rw[<-HMC.out]
    exact EP di.out fun y hy=>(TL.out y (List.mem_of_mem_take hy)).1.2)
   have Xs:X.heap.size<=W8.heap.size:=by omega
   have H89:=aa WS;have H8O:=aa h8o;have H8N:=aa h8n;have H8K:=aa Pj;have AG:=aa M3;have t9':=ab WS 0;simp only[List.getElem?_toArray,List.getElem?_cons_zero]at t9';clear nW Pj WS h8o h88 h8r h8n hnT t9 z9 lE tl M3 CJ Sp;by_cases uW:mc=0
   ·have HF8:Hid (F=way.take (i+1)):=aa (by rw[Ap.out];exact Vu hi HX'.out.no (by rw[gU.out,uW];rfl))
    have hmz:((mc:Int) == 0)=true:=by rw[uW];rfl
    clear uW
    gi_wp2
    exact⟨⟨Xs,fun k o _ ho hc=>H8N.out k o ho hc⟩,.inl ⟨rfl,H8O.out,by omega,by rw[HF8.out];exact HOUT.out,by rw[HF8.out,AG.out];omega⟩⟩
   ·have hmz:((mc:Int) == 0)=false:=beq_eq_false_iff_ne.2 (by omega)
    have fD:Hid (contraB s (way.take (i+1))=false):=aa (by rw[gU.out];exact decide_eq_false uW);clear uW
    gi_wp2
    refine⟨⟨Xs,fun k hk=>?_,fun k o _ ho hc=>H8N.out k o ho hc⟩,H8O.out,by omega,HOUT.out,by rw[HMC.out];exact H89.out,aT (p:=fun j=>contraB s (way.take (j+1))=false) HX'.out.no fD.out,by omega,AG.out,fun k hk=>Nat.lt_of_lt_of_le (HX.out.tb k hk) Xs⟩;obtain⟨jI,ku⟩:=HSS.out k hk
    have bM:k≠w4.heap.size/\k≠w4.heap.size+1:=by
     rcases jI with h|h|h|h
     ·have:=hT k h;omega
     ·omega
     ·omega
     ·omega
    rw[H8K.out k bM.2];refine H7K.out k (by omega) bM.1 fun g hg e=>?_
    subst e;have hgU:=(cT.out.lt k hg).1;rcases jI with h|h|h|h
    ·exact HV3'.out k hg h
    ·omega
    ·omega
    ·omega
theorem v7(k:Int) (a:List Lk) (va vb:Value) (p1 p2 p3 q1 q2 q3:Option Addr) (c1 c2 c3 d1 d2 d3:Nat) (w:World) (ha:aU w va a) (hb:aU w vb a) :
  Calls Tryz.prog 20 #[.agg #[.int .i64 k,va,.slice p1 0 c1,.slice p2 0 c2,.slice p3 0 c3],.agg #[.int .i64 k,vb,.slice q1 0 d1,.slice q2 0 d2,.slice q3 0 d3]] w fun r w'=>r=.returned (.bool true)/\Below w.heap.size w w':=by
 have kV:=aa (fun W (h:Below w.heap.size w W)=>L5 va vb a a W (ha.up up_link h) (hb.up up_link h));obtain⟨pa,ca,rfl,_,_,_⟩:=ha.at;obtain⟨pb,cb,rfl,_,_,_⟩:=hb.at;rw[decide_eq_true (rfl:a=a)]at kV;generalize a.length=n at kV ⊢;clear ha hb
 go_enter Tryz.func20,Tryz.ntmps20
 go_wp2_with fail
 refine aL (fun W=>Below w.heap.size w W/\W.heap[w.heap.size]?=some (.cells #[.int .i64 k,.slice pa n ca,.slice p1 0 c1,.slice p2 0 c2,.slice p3 0 c3] 58)/\W.heap[w.heap.size+1]?=some (.cells #[.int .i64 k,.slice pb n cb,.slice q1 0 d1,.slice q2 0 d2,.slice q3 0 d3] 58)) ⟨by go_grown,am _ (ak _ _),by have h:=ak (w.alloc (.cells #[.int .i64 k,.slice pa n ca,.slice p1 0 c1,.slice p2 0 c2,.slice p3 0 c3] 58)) (.cells #[.int .i64 k,.slice pb n cb,.slice q1 0 d1,.slice q2 0 d2,.slice q3 0 d3] 58);simpa using h⟩ (fun W0 aW=>?_);obtain⟨aC,br,iB⟩:=aW;refine(kV.out W0 aC).mono ?_;rintro r w1 ⟨rfl,aG⟩;have bC:=aa (ae aC aG);have tA:=ab (af aG br);have tC:=ab (af aG iB);clear aC br iB aG kV
 go_wp2_with fail
 go_ret
 exact⟨rfl,bC.out⟩
theorem OQ(s:Sys) (hs:SysOk s) (l:List Lk) (i:Nat) (hi:i<l.length) (Fa:0<i->0<=(l.getD (i - 1) default).x/\(l.getD (i - 1) default).x.toNat<eS s) (vc vs vt ve vl:Value) (w:World) (bX:IsSys w s vc vs vt ve) (hl:aU w vl l) :
  Calls Tryz.prog 147 #[.agg (bE s.prob vc vs s.n vt ve),vl,.int .i64 i] w fun r w'=>r=.returned (.int .i64 (linkE s l i))/\Below w.heap.size w w':=by
 have HS:=aa bX;obtain⟨⟨pc,cc,rfl⟩,⟨ps,cs,rfl⟩,⟨pt,ct,rfl⟩,⟨pe,ce,rfl⟩⟩:=bg bX;obtain⟨pl,cl,rfl,lt1,lt2,el⟩:=hl.at;clear bX hl;have gk:=aa (fun p e f (hp:p<nS s) (he:e<eS s) (hf:f<eS s) W (hb:Below w.heap.size w W)=>Cc s hs p e f hp he hf _ _ _ _ W (HS.out.up hb));have fq:=hs.n.2.2.1;obtain⟨b1,o1,rfl,h1⟩:=el i hi;have c1:=h1.1.1;have c2:=h1.2.1;have hr:l.getD i default=l[i]:=ap default hi;have HE:Hid (linkE s l i=if (l.getD i default).x<0\/(eS s:Int)<=(l.getD i default).x then 6 else if i=0 then(if (l.getD i default).p≠-1 then 3 else 0) else if (l.getD i default).p<0\/(nS s:Int)<=(l.getD i default).p then 2 else if linkB s (l.getD i default).p.toNat (l.getD (i - 1) default).x.toNat (l.getD i default).x.toNat then 0 else 18):=aa rfl;rw[hr]at HE;generalize linkE s l i=lk at HE ⊢
 have zd:Hid (∀ j,i=j+1->∃ e:Nat,(l.getD (i - 1) default).x=e/\e<eS s/\w.cell? ⟨b1,o1+j * 2,none⟩=some (.int .i64 e)):=aa (fun j hj=>by
  have h2:=Fa (by omega);have Xe:i - 1=j:=by omega
  rw[Xe]at h2 ⊢;obtain⟨b2,o2,e2,h3⟩:=el j (by omega);cases e2;have h4:=h3.1.1;rw[<-ap default (show j<l.length by omega)]at h4;refine⟨(l.getD j default).x.toNat,by omega,h2.2,?_⟩;rw[h4];congr 2
  omega)
 obtain⟨m,hm⟩:∃ m,eS s=m:=⟨_,rfl⟩;obtain⟨n,hn⟩:∃ n,nS s=n:=⟨_,rfl⟩;have Tn:s.ex.length=m:=hm;rw[hm]at gk HE zd;rw[hn]at gk HE fq;rw[Tn,fq]at gk ⊢;generalize l[i]=y at c1 c2 HE h1;obtain⟨x,p⟩:=y;dsimp only at c1 c2 HE;clear hr h1 el Fa hm hn Tn fq;have d1:∀ o',(w.alloc o').cell? ⟨b1,o1+i * 2,none⟩=some (.int .i64 x):=fun o'=>ai (by go_grown) c1
 have d2:∀ o',(w.alloc o').cell? ⟨b1,o1+i * 2+1,none⟩=some (.int .i64 p):=fun o'=>ai (by go_grown) c2
 clear c1 c2;by_cases cS:x<0
 ·have K4:decide (x<0)=true:=decide_eq_true cS
  have HR:Hid (lk=6):=aa (by rw[HE.out,if_pos (.inl cS)]);clear cS
  go_enter Tryz.func147,Tryz.ntmps147
  go_wp2_with fail
  go_ret
  exact⟨aA (by rw[HR.out]),by go_grown⟩
 have K4:decide (x<0)=false:=decide_eq_false cS;obtain⟨f,rfl⟩:∃ f:Nat,x=f:=⟨x.toNat,by omega⟩;by_cases dj:m<=f
 ·have Io:decide ((m:Int)<=(f:Int))=true:=decide_eq_true (by omega)
  have hd1':decide (m<=f)=true:=decide_eq_true dj;have HR:Hid (lk=6):=aa (by rw[HE.out,if_pos (.inr (by omega))]);clear cS dj
  go_enter Tryz.func147,Tryz.ntmps147
  go_wp2_with fail
  go_ret
  exact⟨aA (by rw[HR.out]),by go_grown⟩
 have Io:decide ((m:Int)<=(f:Int))=false:=decide_eq_false (by omega);have hd1':decide (m<=f)=false:=decide_eq_false dj;have lQ:Hid (lk=if i=0 then(if p≠-1 then 3 else 0) else if p<0\/(n:Int)<=p then 2 else if linkB s p.toNat (l.getD (i - 1) default).x.toNat f then 0 else 18):=aa (by rw[HE.out,if_neg (by omega),Int.toNat_natCast]);have hfm:f<m:=by omega
 clear cS dj HE;by_cases cG:i=0
 ·have hid0:((i:Int) == 0)=true:=by simp[cG]
  by_cases hp:p=-1
  ·have PO:(p != -1)=false:=by simp[hp]
   have HR:Hid (lk=0):=aa (by rw[lQ.out,if_pos cG,if_neg (by omega)]);clear hp cG
   go_enter Tryz.func147,Tryz.ntmps147
   go_wp2_with fail
   go_ret
   exact⟨aA (by rw[HR.out]),by go_grown⟩
  ·have PO:(p != -1)=true:=by simpa using hp
   have HR:Hid (lk=3):=aa (by rw[lQ.out,if_pos cG,if_pos hp]);clear hp cG
   go_enter Tryz.func147,Tryz.ntmps147
   go_wp2_with fail
   go_ret
   exact⟨aA (by rw[HR.out]),by go_grown⟩
 have hid:((i:Int) == 0)=false:=by simp;omega
 obtain⟨j,hj⟩:∃ j,i=j+1:=⟨i - 1,by omega⟩;obtain⟨e,zf,wP,c4⟩:=zd.out j hj;have kx:Hid (lk=if p<0\/(n:Int)<=p then 2 else if linkB s p.toNat e f then 0 else 18):=aa (by rw[lQ.out,if_neg cG,zf,Int.toNat_natCast]);have jn:IntKind.i64.wrap ((i:Int) - 1)=(j:Int):=by rw[hj,IntWalk.i64_in _ (by omega)];omega
 have gR:j<l.length:=by omega
 clear cG hj zf zd lQ;by_cases mJ:p<0
 ·have PO:decide (p<0)=true:=decide_eq_true mJ
  have HR:Hid (lk=2):=aa (by rw[kx.out,if_pos (.inl mJ)]);clear mJ jn
  go_enter Tryz.func147,Tryz.ntmps147
  go_wp2_with fail
  go_ret
  exact⟨aA (by rw[HR.out]),by go_grown⟩
 have PO:decide (p<0)=false:=decide_eq_false mJ;obtain⟨q,rfl⟩:∃ q:Nat,p=q:=⟨p.toNat,by omega⟩;by_cases hq:n<=q
 ·have Wn:decide ((n:Int)<=(q:Int))=true:=decide_eq_true (by omega)
  have hqd':decide (n<=q)=true:=decide_eq_true hq;have HR:Hid (lk=2):=aa (by rw[kx.out,if_pos (.inr (by omega))]);clear mJ hq jn
  go_enter Tryz.func147,Tryz.ntmps147
  go_wp2_with fail
  go_ret
  exact⟨aA (by rw[HR.out]),by go_grown⟩
 have Wn:decide ((n:Int)<=(q:Int))=false:=decide_eq_false (by omega);have hqd':decide (n<=q)=false:=decide_eq_false hq;have uZ:Hid (lk=if linkB s q e f then 0 else 18):=aa (by rw[kx.out,if_neg (by omega),Int.toNat_natCast]);have rl:q<n:=by omega
 clear mJ hq kx
 go_enter Tryz.func147,Tryz.ntmps147
 go_wp2_with fail
 refine bj (fun W=>Below w.heap.size w W/\(∃ c,W.heap[w.heap.size]?=some (.cells c 35)/\c=bE s.prob (.slice pc s.prob.t.cases.length cc) (.slice ps s.prob.a.states.length cs) (n:Int) (.slice pt s.tab.length ct) (.slice pe m ce))/\W.heap[w.heap.size+1]?=some (.cells #[.int .i64 f,.int .i64 q] 75)) ⟨by go_grown,⟨_,am _ (ak _ _),rfl⟩,ba _ _ _⟩ (fun W0 aW=>?_);obtain⟨aC,⟨_,hA,rfl⟩,hX⟩:=aW;have cM:=aa aC;have HA:=aa hA;have HX:=aa hX;have yS:∀ z:ExtW W0,∀ j,z.val.cell? ⟨w.heap.size,j,none⟩=_:=fun z=>ab (af z.ext HA.out)
 have yX:∀ z:ExtW W0,∀ j,z.val.cell? ⟨w.heap.size+1,j,none⟩=_:=fun z=>ab (af z.ext HX.out)
 have y4:∀ z:ExtW W0,z.val.cell? ⟨b1,o1+j * 2,none⟩=_:=fun z=>ai (ae cM.out z.ext) c4
 have HK:Hid (∀ y:ExtW W0,Calls Tryz.prog 139 #[.agg #[.int .i64 s.prob.t.n,.int .i64 s.prob.t.ins,.int .i64 s.prob.t.outs,.slice pc s.prob.t.cases.length cc,.int .i64 s.prob.a.n,.slice ps s.prob.a.states.length cs,.int .i64 s.prob.rounds,.int .i64 (n:Int),.slice pt s.tab.length ct,.slice pe m ce],.int .i64 (q:Int),.int .i64 (e:Int),.int .i64 (f:Int)] y.val fun r w''=>r=.returned (.bool (linkB s q e f))/\∃ z:ExtW W0,w''=z.val):=aa (fun y=>Calls.ext_of (gk.out q e f rl wP hfm y.val (ae cM.out y.ext)));clear aC hA hX d1 d2 c4;generalize linkB s q e f=lb at HK uZ;cases lb with
 | true=>
  refine aB (by kernel_rfl) (by kernel_rfl) ?_
  repeat (go_big_quiet_step ((go_at_call 139;with_reducible exact HK.out _)))
  refine wpQuiet_nil ?_;rintro _ ⟨xq,rfl⟩;clear yS yX y4
  go_wp2_with fail
  go_ret
  exact⟨aA (by rw[uZ.out];rfl),ae cM.out xq.ext⟩
 | false=>
  refine aB (by kernel_rfl) (by kernel_rfl) ?_
  repeat (go_big_quiet_step ((go_at_call 139;with_reducible exact HK.out _)))
  refine wpQuiet_nil ?_;rintro _ ⟨xq,rfl⟩;clear yS yX y4
  go_wp2_with fail
  go_ret
  exact⟨aA (by rw[uZ.out];rfl),ae cM.out xq.ext⟩
theorem Cf(s:Sys) (hs:SysOk s) (l:List Lk) (vc vs vt ve vl:Value) (w:World) (bX:IsSys w s vc vs vt ve) (hl:aU w vl l) :
  Calls Tryz.prog 101 #[.agg (bE s.prob vc vs s.n vt ve),vl] w fun r w'=>r=.returned (.int .i64 (walkE s l))/\Below w.heap.size w w':=by
 have HS:=aa bX;have Al:=aa hl;obtain⟨⟨pc,cc,rfl⟩,⟨ps,cs,rfl⟩,⟨pt,ct,rfl⟩,⟨pe,ce,rfl⟩⟩:=bg bX;obtain⟨pl,cl,rfl,lt1,lt2,_⟩:=hl.at;clear bX hl;have gk:=aa (fun i (hi:i<l.length) (Fa:0<i->0<=(l.getD (i - 1) default).x/\(l.getD (i - 1) default).x.toNat<eS s) W (hb:Below w.heap.size w W)=>OQ s hs l i hi Fa _ _ _ _ _ W (HS.out.up hb) (Al.out.up up_link hb));have iA:Hid (l.length=0->walkE s l=16):=aa fun h=>by unfold walkE;rw[if_pos h]
 have gc:Hid (0<l.length->4096<l.length->walkE s l=5):=aa fun h h1=>by unfold walkE;rw[if_neg (by omega),if_pos h1]
 have cD:Hid (0<l.length->l.length<=4096->walkE s l=a8 l.length (linkE s l)):=aa fun h h1=>by unfold walkE;rw[if_neg (by omega),if_neg (by omega)]
 have RM:Hid (∀ k,linkE s l k=0->0<=(l.getD k default).x/\(l.getD k default).x.toNat<eS s):=aa fun k h=>⟨((mW s l k).1 h).1,((mW s l k).1 h).2.1⟩
 generalize walkE s l=we at iA gc cD ⊢;by_cases h0:l.length=0
 ·have HR:=aa (iA.out h0)
  have hd:(((l.length:Nat):Int) == 0)=true:=by simp[h0]
  clear h0
  go_enter Tryz.func101,Tryz.ntmps101
  go_wp2_with fail
  go_ret
  exact⟨aA (by rw[HR.out]),by go_grown⟩
 have hd:(((l.length:Nat):Int) == 0)=false:=beq_eq_false_iff_ne.2 (by omega);by_cases h1:4096<l.length
 ·have HR:=aa (gc.out (by omega) h1)
  clear h0
  go_enter Tryz.func101,Tryz.ntmps101
  go_wp2_with fail
  go_ret
  exact⟨aA (by rw[HR.out]),by go_grown⟩
 have cT:=aa (cD.out (by omega) (by omega));clear h0 iA gc cD
 go_enter Tryz.func101,Tryz.ntmps101
 go_wp2_with fail
 refine bj (fun W=>Below w.heap.size w W/\∃ c,W.heap[w.heap.size]?=some (.cells c 35)/\c=bE s.prob (.slice pc s.prob.t.cases.length cc) (.slice ps s.prob.a.states.length cs) s.n (.slice pt s.tab.length ct) (.slice pe s.ex.length ce)) ⟨by go_grown,_,ak _ _,rfl⟩ (fun W0 aW=>?_);obtain⟨aC,_,hA,rfl⟩:=aW;have cM:=aa aC;have HA:=aa hA;clear aC hA hd h1
 go_loopw [5] (fun i wr=>∃ k:Nat,k<=l.length/\i=.int .i64 k/\Below W0.heap.size W0 wr/\∀ j,j<k->linkE s l j=0) (fun i _=>l.length - (intOf i).toNat)
 case atStart=>exact⟨0,by omega,rfl,Below.refl _ _,fun j hj=>by omega⟩
 case round=>
  obtain⟨k,hk,rfl,aq,hz⟩:=hrel;have aR:=aa aq;have HZ:=aa hz;have tS:=ab (af aq HA.out);clear aq hz;by_cases az:k<l.length
  ·have HC:=aa (gk.out k az (fun h=>RM.out (k - 1) (HZ.out (k - 1) (by omega))) wr (ae cM.out aR.out))
   have yR:Hid (linkE s l k≠0->we=linkE s l k):=aa fun h=>by rw[cT.out];exact(bH k _ az HZ.out rfl h).symm
   have dz:Hid (linkE s l k=0->∀ j,j<k+1->linkE s l j=0):=aa fun h=>aT HZ.out h
   generalize linkE s l k=lk at HC yR dz
   go_wp2_with fail
   clear tS;refine HC.out.mono ?_;rintro r w2 ⟨rfl,aV⟩;have cB:=aa aV;clear aV;by_cases hz:lk=0
   ·have HN:=aa (dz.out hz)
    subst hz
    go_wp2_with fail
    go_roundw
    case rel=>exact⟨k+1,by omega,by go_num,ae aR.out cB.out,HN.out⟩
    case measure=>simp[intOf];omega
   ·have HR:=aa (yR.out hz)
    have Fr:(lk != 0)=true:=by simpa using hz
    clear hz
    go_wp2_with fail
    go_ret
    exact⟨aA (by rw[HR.out]),ae cM.out (ae aR.out cB.out)⟩
  ·have HR:Hid (we=0):=aa (by rw[cT.out];exact cH _ _ fun j hj=>HZ.out j (by omega))
   clear tS
   go_wp2_with fail
   go_ret
   exact⟨aA (by rw[HR.out]),ae cM.out aR.out⟩
theorem Mg(n:Nat) (hn:n<=4096) (x:Int) (w:World) :
  Calls Tryz.prog 45 #[.int .i64 n,.int .i64 x] w fun r w'=>∃ u,r=.returned u/\aD w' w.heap.size 3 1 u n ((List.replicate n x).map (Value.int .i64))/\Below w.heap.size w w':=by
 obtain⟨i0,cG,cf,bP,cj⟩:=info_parts Tryz.infoInt;have bQ:=aa (And.intro cG (And.intro cf (And.intro bP cj)));clear cG cf bP cj;have fE:Hid (∀ k,List.replicate (k+1) x=List.replicate k x++[x]):=aa fun k=>List.replicate_succ'
 go_enter Tryz.func45,Tryz.ntmps45
 go_wp2_with fail
 go_loopw [5,6] (fun o i wr=>∃ k:Nat,k<=n/\i=.int .i64 k/\Below w.heap.size w wr/\aD wr w.heap.size 3 1 o k ((List.replicate k x).map (Value.int .i64))) (fun _ i _=>n - (intOf i).toNat)
 case atStart=>exact⟨0,by omega,rfl,Below.refl _ _,aD.nil _ _ _ _⟩
 case round=>
  obtain⟨k,hk,rfl,aq,aX⟩:=hrel;obtain⟨al,cl2,rfl⟩:=aX.slice;have bL:=aa aX;have aR:=aa aq;clear aX aq;by_cases az:k<n
  ·have dX:=aa (bL.out.up ((Below.refl _ wr).alloc (Nat.le_refl _) (.cells #[.int .i64 x] 3)))
   have bB:=aa (eA wr [.int .i64 x] 3);have oP:Hid (k+1<=maxLen):=aa (by unfold maxLen;omega);have rp:Hid ((k+1) * 8<=140737488355328):=aa (by omega);have fL:Hid (w.heap.size<=(wr.alloc (.cells #[.int .i64 x] 3)).heap.size):=aa (by have:=aR.out.size;simp;omega)
   go_wp2_with (at_builtin;(refine aZ _ rfl (.tmp 12) (.tmp 14) 38 rfl w.heap.size 3 i0 _ 1 8 Tryz.underlying38 bQ.out.1 bQ.out.2.1 bQ.out.2.2.1 bQ.out.2.2.2 rfl (by decide) _ k _ rfl dX.out ⟨wr.heap.size,0,none⟩ 1 1 [.int .i64 x] rfl rfl bB.out (by simp[Value.oneCell']) oP.out rp.out fL.out ?_;intro v6 w6 gF fN _))
   go_roundw
   case rel=>
    refine⟨k+1,by omega,by go_num,eR aR.out (Nat.le_refl _) dX.out fN,?_⟩;rw[fE.out,List.map_append];exact gF
   case measure=>simp[intOf];omega
  ·obtain rfl:k=n:=by omega
   go_wp2_with fail
   go_ret
   exact⟨_,rfl,bL.out,aR.out⟩
theorem OR(n:Nat) (hn:n<=4096) (x:Int) (hx:bI x) (w:World) :
  Calls Tryz.prog 45 #[.int .i64 n,.int .i64 x] w fun r w'=>∃ u,r=.returned u/\aY w' u (List.replicate n x)/\Below w.heap.size w w':=by
 refine(Mg n hn x w).mono ?_;rintro r w' ⟨u,rfl,ho,hb⟩;exact⟨_,rfl,gX (l:=List.replicate n x) (base:=w.heap.size) (by rw[List.length_replicate];exact ho) (fun y hy=>by rw[List.eq_of_mem_replicate hy];exact hx) (by simp;omega),hb⟩
theorem Rk(v:Value) (l:List Int) (x:Int) (w:World) (hv:aY w v l) :
  Calls Tryz.prog 44 #[v,.int .i64 x] w fun r w'=>r=.returned (.bool (l.contains x))/\w=w':=by
 obtain⟨pl,cl,rfl,el⟩:=fG hv;obtain⟨_,_,_,_,cK,_⟩:=hv.at;have EL:=aa el;have HY:Hid (∀ k,k<l.length->l.getD k 0=x->l.contains x=true):=aa fun k hk h=>by rw[List.contains_iff_mem,<-h,ap 0 hk];exact List.getElem_mem hk
 have fD:Hid ((∀ k,k<l.length->l.getD k 0≠x)->l.contains x=false):=aa fun h=>by
  cases hc:l.contains x with
  | false=>rfl
  | true=>
   obtain⟨k,hk,e⟩:=List.getElem_of_mem (List.contains_iff_mem.1 hc);exact absurd (by rw[ap 0 hk];exact e) (h k hk)
 generalize l.contains x=b at HY fD ⊢;clear hv el
 go_enter Tryz.func44,Tryz.ntmps44
 go_wp2_with fail
 go_loop [5] (fun i=>∃ k:Nat,k<=l.length/\i=.int .i64 k/\∀ j,j<k->l.getD j 0≠x) (fun i=>l.length - (intOf i).toNat)
 case atStart=>exact⟨0,by omega,rfl,fun j hj=>by omega⟩
 case round=>
  obtain⟨k,hk,rfl,hz⟩:=hrel;have HZ:=aa hz;clear hz;by_cases az:k<l.length
  ·obtain⟨b1,o1,rfl,c1⟩:=EL.out k az
   have Pf:=aa (HY.out k az);have dz:Hid (l.getD k 0≠x->∀ j,j<k+1->l.getD j 0≠x):=aa fun h=>aT HZ.out h
   generalize l.getD k 0=y at c1 Pf dz;by_cases cO:y=x
   ·have HR:=aa (Pf.out cO)
    have hd:(y == x)=true:=by simp[cO]
    clear cO
    go_wp2_with fail
    go_ret
    exact⟨aN (by rw[HR.out]),rfl⟩
   ·have HN:=aa (dz.out cO)
    have hd:(y == x)=false:=beq_eq_false_iff_ne.2 cO;clear cO
    go_wp2_with fail
    go_round
    case rel=>exact⟨k+1,by omega,by go_num,HN.out⟩
    case measure=>simp[intOf];omega
  ·have HR:=aa (fD.out fun j hj=>HZ.out j (by omega))
   go_wp2_with fail
   go_ret
   exact⟨aN (by rw[HR.out]),rfl⟩
theorem Hq(vl:Value) (l:List Lk) (hn:l.length<=1048576) (w:World) (hl:aU w vl l) :
  Calls Tryz.prog 144 #[vl] w fun r w'=>∃ u,r=.returned u/\aY w' u (l.map fun y=>y.x)/\Below w.heap.size w w':=by
 obtain⟨i0,cG,cf,bP,cj⟩:=info_parts Tryz.infoInt;have bQ:=aa (And.intro cG (And.intro cf (And.intro bP cj)));clear cG cf bP cj;obtain⟨pl,cl,rfl,lt1,lt2,el⟩:=hl.at;have EL:=aa el
 have gu:Hid (∀ y∈l.map fun y=>y.x,bI y):=aa (fun y hy=>by
  obtain⟨z,hz,rfl⟩:=List.mem_map.1 hy;obtain⟨i,hi,rfl⟩:=List.getElem_of_mem hz;obtain⟨b,o,_,h1⟩:=el i hi
  exact h1.1.2)
 obtain⟨L,hL⟩:∃ L:Nat->List Int,L=fun k=>(l.take k).map fun y=>y.x:=⟨_,rfl⟩
 have kU:Hid (L 0=[]/\(∀ k (hk:k<l.length),L (k+1)=L k++[(l[k]).x])/\L l.length=l.map fun y=>y.x):=aa (by
  subst hL
  exact⟨rfl,fun k hk=>by dsimp only;rw[List.take_succ_eq_append_getElem hk,List.map_append];rfl,by simp⟩)
 generalize (l.map fun y=>y.x)=F at gu kU ⊢;have Ai:Hid (L l.length=F):=aa kU.out.2.2;clear hl el hL
 go_enter Tryz.func144,Tryz.ntmps144
 go_wp2_with fail
 go_loopw [3,4] (fun o i wr=>∃ k:Nat,k<=l.length/\i=.int .i64 k/\Below w.heap.size w wr/\aD wr w.heap.size 3 1 o k ((L k).map (Value.int .i64))) (fun _ i _=>l.length - (intOf i).toNat)
 case atStart=>exact⟨0,by omega,rfl,Below.refl _ _,by rw[kU.out.1];exact aD.nil _ _ _ _⟩
 case round=>
  obtain⟨k,hk,rfl,aq,aX⟩:=hrel;obtain⟨al,cl2,rfl⟩:=aX.slice;have bL:=aa aX;have aR:=aa aq;by_cases az:k<l.length
  ·obtain⟨b1,o1,rfl,h1⟩:=EL.out k az
   have c1:=ai aq h1.1.1;have fE:=aa (kU.out.2.1 k az);generalize (l[k]).x=x at c1 fE;clear aX aq h1;have dX:=aa (bL.out.up ((Below.refl _ wr).alloc (Nat.le_refl _) (.cells #[.int .i64 x] 3)));have bB:=aa (eA wr [.int .i64 x] 3);have oP:Hid (k+1<=maxLen):=aa (by unfold maxLen;omega);have rp:Hid ((k+1) * 8<=140737488355328):=aa (by omega);have fL:Hid (w.heap.size<=(wr.alloc (.cells #[.int .i64 x] 3)).heap.size):=aa (by have:=aR.out.size;simp;omega)
   go_wp2_with (at_builtin;(refine aZ _ rfl (.tmp 11) (.tmp 17) 38 rfl w.heap.size 3 i0 _ 1 8 Tryz.underlying38 bQ.out.1 bQ.out.2.1 bQ.out.2.2.1 bQ.out.2.2.2 rfl (by decide) _ k _ rfl dX.out ⟨wr.heap.size,0,none⟩ 1 1 [.int .i64 x] rfl rfl bB.out (by simp[Value.oneCell']) oP.out rp.out fL.out ?_;intro v6 w6 gF fN _))
   go_roundw
   case rel=>
    refine⟨k+1,by omega,by go_num,eR aR.out (Nat.le_refl _) dX.out fN,?_⟩;rw[fE.out,List.map_append];exact gF
   case measure=>simp[intOf];omega
  ·obtain rfl:k=l.length:=by omega
   have sy:F.length=l.length:=by have h1:=aX.1;rw[Ai.out,List.length_map]at h1;omega
   have HQ:Hid (aY wr (.slice al l.length cl2) F):=aa (gX (base:=w.heap.size) (by rw[sy,<-Ai.out];exact aX) gu.out (by omega));clear aX aq sy
   go_wp2_with fail
   go_ret
   exact⟨_,rfl,HQ.out,aR.out⟩
theorem Hr(x0:Value) (p1:Option Addr) (n1 c1:Nat) (p2:Option Addr) (n2 c2:Nat) (f:Int) (w:World) (h0:∃ a n c,x0=.slice a n c) :
  Calls Tryz.prog 80 #[.agg #[x0,.slice p1 n1 c1,.slice p2 n2 c2],.int .i64 f] w fun e w'=>e=.returned (if f=0/\0<n2 then .slice p2 n2 c2 else .slice p1 n1 c1)/\Below w.heap.size w w':=by
 obtain⟨a0,m0,k0,rfl⟩:=h0;by_cases hf:f=0
 ·have hd:(f == 0)=true:=by simp[hf]
  by_cases hl:0<n2
  ·have e1:decide ((0:Int)<(n2:Int))=true:=decide_eq_true (by omega)
   have e2:decide (0<n2)=true:=decide_eq_true hl;rw[if_pos ⟨hf,hl⟩];clear hf hl
   go_enter Tryz.func80,Tryz.ntmps80
   go_wp2_with fail
   go_ret
   exact⟨rfl,by go_grown⟩
  ·have e1:decide ((0:Int)<(n2:Int))=false:=decide_eq_false (by omega)
   have e2:decide (0<n2)=false:=decide_eq_false hl;rw[if_neg (fun h=>hl h.2)];clear hf hl
   go_enter Tryz.func80,Tryz.ntmps80
   go_wp2_with fail
   go_ret
   exact⟨rfl,by go_grown⟩
 ·have hd:(f == 0)=false:=beq_eq_false_iff_ne.2 hf
  rw[if_neg (fun h=>hf h.1)];clear hf
  go_enter Tryz.func80,Tryz.ntmps80
  go_wp2_with fail
  go_ret
  exact⟨rfl,by go_grown⟩
theorem U0(s:Sys) (hs:SysOk s) (e:Nat) (he:e<eS s) (vc vs vt ve:Value) (w:World) (bX:IsSys w s vc vs vt ve) :
  Calls Tryz.prog 40 #[.agg (bE s.prob vc vs s.n vt ve),.int .i64 e] w fun r w'=>∃ u,r=.returned u/\aY w' u (valuesS s e)/\Below w.heap.size w w':=by
 obtain⟨i0,cG,cf,bP,cj⟩:=info_parts Tryz.infoInt;have bQ:=aa (And.intro cG (And.intro cf (And.intro bP cj)));clear cG cf bP cj;have HS:=aa bX;obtain⟨⟨pc,cc,rfl⟩,⟨ps,cs,rfl⟩,⟨pt,ct,rfl⟩,⟨pe,ce,rfl⟩⟩:=bg bX;clear bX;obtain⟨b,o,_,ce',e0,rfl,pw,nw,cw,pv,cv,c1,c2,c3,lT,ez,gP,-⟩:=iu hs HS.out.ex he;injection e0 with e01 e02 e03
 subst e01;have Bj:nw<=6:=by have:=hs.rounds;omega
 clear e02 e03 lT;have yE:=aa (fun W (hb:Below w.heap.size w W)=>Ae (cF s e).c (fltS s e) pw nw cw (.slice pv (s.prob.rounds.toNat+1) cv) W Bj (fun h=>by obtain⟨b1,o1,q1,q2⟩:=ez h;exact⟨b1,o1,q1,ai hb q2⟩) gP);obtain⟨eT,jI⟩:=hs.cas e he;obtain⟨k,hk⟩:∃ k:Nat,(cF s e).c=k:=⟨(cF s e).c.toNat,by omega⟩;rw[hk,Int.toNat_natCast]at jI;obtain⟨pc',cc',e1,_,_,ec⟩:=HS.out.cases.at;injection e1 with e11 e12 e13
 subst e11;clear e12 e13;obtain⟨bc,oc,rfl,⟨x0,cx0,cS⟩,⟨x1,cx1,dj⟩,⟨x2,cx2,dU⟩⟩:=ec k jI;have FJ:s.prob.t.cases[k]=s.prob.t.cases.getD (cF s e).c.toNat default:=by rw[hk,Int.toNat_natCast];exact(ap default jI).symm
 rw[FJ]at cS dj dU;obtain⟨p0,q0,rfl,_⟩:=cS;have km:=aa dj;have fB:=aa dU;obtain⟨p1,q1,rfl,_⟩:=dj;obtain⟨p2,q2,rfl,_⟩:=dU
 have nZ:Hid (dR w (if fltS s e=0/\0<(s.prob.t.cases.getD (cF s e).c.toNat default).calm.length then .slice p2 (s.prob.t.cases.getD (cF s e).c.toNat default).calm.length q2 else .slice p1 (s.prob.t.cases.getD (cF s e).c.toNat default).out.length q1) (vecE s e)):=aa (by
  unfold vecE fV;split
  ·exact fB.out
  ·exact km.out)
 have Wy:Hid (∃ a n c,(if fltS s e=0/\0<(s.prob.t.cases.getD (cF s e).c.toNat default).calm.length then Value.slice p2 (s.prob.t.cases.getD (cF s e).c.toNat default).calm.length q2 else .slice p1 (s.prob.t.cases.getD (cF s e).c.toNat default).out.length q1)=.slice a n c):=aa (by
  split
  ·exact⟨_,_,_,rfl⟩
  ·exact⟨_,_,_,rfl⟩)
 have Av:=aa (fun W=>Hr (.slice p0 (s.prob.t.cases.getD (cF s e).c.toNat default).inp.length q0) p1 (s.prob.t.cases.getD (cF s e).c.toNat default).out.length q1 p2 (s.prob.t.cases.getD (cF s e).c.toNat default).calm.length q2 (fltS s e) W ⟨_,_,_,rfl⟩);have uM:Hid (∀ v:Nat,valB s e v=hasV (vecE s e) (List.replicate (nS s) (v:Int))):=aa fun v=>rfl
 have fq:=hs.n.2.2.1;have ic:=hs.n.2.1;have qA:=hs.outs.2.2;have TK:=hs.outs.2.1;have V9:Hid (il s e (oS s)=valuesS s e):=aa rfl;have AL:=aa (A6 s e);have HVY:=aa (fun k (h:valB s e k=true)=>Hm h);have HVN:=aa (fun k (h:valB s e k=false)=>Kp h);have lS:il s e 0=[]:=rfl;have CS:=aa lS;generalize (if fltS s e=0/\0<(s.prob.t.cases.getD (cF s e).c.toNat default).calm.length then Value.slice p2 (s.prob.t.cases.getD (cF s e).c.toNat default).calm.length q2 else .slice p1 (s.prob.t.cases.getD (cF s e).c.toNat default).out.length q1)=V at nZ Wy Av;obtain⟨va,vn,vk,rfl⟩:=Wy.out;rw[hk]at yE c1;obtain⟨n,hn⟩:∃ n,nS s=n:=⟨_,rfl⟩;obtain⟨oo,hoq⟩:∃ oo,oS s=oo:=⟨_,rfl⟩;obtain⟨m,hm⟩:∃ m,s.ex.length=m:=⟨_,rfl⟩;have uV:e<m:=by rw[<-hm];exact he
 rw[hn]at fq ic uM;rw[hoq]at qA TK V9;rw[hm];obtain⟨vl,sp⟩:∃ vl,vecE s e=vl:=⟨_,rfl⟩;rw[sp]at nZ uM;have n9:=aa fq;have HOO:=aa qA;generalize valuesS s e=vs0 at V9 ⊢;generalize (s.prob.t.cases.getD (cF s e).c.toNat default).inp.length=l0 at cx0 Av;generalize (s.prob.t.cases.getD (cF s e).c.toNat default).out.length=l1 at cx1 Av;generalize (s.prob.t.cases.getD (cF s e).c.toNat default).calm.length=l2 at cx2 Av;generalize fltS s e=fl at yE Av;obtain⟨rn,hrn⟩:∃ rn,s.prob.rounds.toNat+1=rn:=⟨_,rfl⟩;rw[hrn]at yE c3;clear Wy ez gP hn hoq hm sp hk eT FJ fq qA km fB ec lS hrn
 go_enter Tryz.func40,Tryz.ntmps40
 have d1:∀ o',(w.alloc o').cell? ⟨b,o+e * 3,none⟩=_:=fun o'=>ai (by go_grown) c1
 have d2:∀ o',(w.alloc o').cell? ⟨b,o+e * 3+1,none⟩=_:=fun o'=>ai (by go_grown) c2
 have d3:∀ o',(w.alloc o').cell? ⟨b,o+e * 3+2,none⟩=_:=fun o'=>ai (by go_grown) c3
 go_wp2_with fail
 clear d1 d2 d3 c1 c2 c3;refine bj (fun W=>Below w.heap.size w W/\(∃ c,W.heap[w.heap.size]?=some (.cells c 35)/\c=bE s.prob (.slice (some ⟨bc,oc,none⟩) s.prob.t.cases.length cc) (.slice ps s.prob.a.states.length cs) s.n (.slice pt s.tab.length ct) (.slice (some ⟨b,o,none⟩) m ce))/\W.heap[w.heap.size+1]?=some (.cells #[.int .i64 k,.slice pw nw cw,.slice pv rn cv] 89)) ⟨by go_grown,⟨_,am _ (ak _ _),rfl⟩,ba _ _ _⟩ (fun W0 aW=>?_);obtain⟨aC,⟨_,hA,rfl⟩,hX⟩:=aW;have cM:=aa aC;have HA:=aa hA;have HX:=aa hX;have yC:∀ z:ExtW W0,z.val.cell? ⟨w.heap.size,3,none⟩=some (.slice (some ⟨bc,oc,none⟩) s.prob.t.cases.length cc):=fun z=>(ab (af z.ext HA.out) 3).trans rfl
 have yX:∀ z:ExtW W0,∀ j,z.val.cell? ⟨w.heap.size+1,j,none⟩=_:=fun z=>ab (af z.ext HX.out)
 have y0:∀ z:ExtW W0,z.val.cell? ⟨bc,oc+k * 3,none⟩=_:=fun z=>ai (ae cM.out z.ext) cx0
 have y1:∀ z:ExtW W0,z.val.cell? ⟨bc,oc+k * 3+1,none⟩=_:=fun z=>ai (ae cM.out z.ext) cx1
 have y2:∀ z:ExtW W0,z.val.cell? ⟨bc,oc+k * 3+2,none⟩=_:=fun z=>ai (ae cM.out z.ext) cx2
 have K1:Hid (∀ y:ExtW W0,Calls Tryz.prog 61 #[.agg #[.int .i64 (k:Int),.slice pw nw cw,.slice pv rn cv]] y.val fun r w''=>r=.returned (.int .i64 fl)/\∃ z:ExtW W0,w''=z.val):=aa (fun y=>Calls.ext_of (yE.out y.val (ae cM.out y.ext)));have K2:Hid (∀ y:ExtW W0,Calls Tryz.prog 80 #[.agg #[.slice p0 l0 q0,.slice p1 l1 q1,.slice p2 l2 q2],.int .i64 fl] y.val fun r w''=>r=.returned (.slice va vn vk)/\∃ z:ExtW W0,w''=z.val):=aa (fun y=>Calls.ext_of (Av.out y.val));clear aC hA hX cx0 cx1 cx2 yE Av;refine aB (by kernel_rfl) (by kernel_rfl) ?_
 repeat (go_big_quiet_step (first|(go_at_call 61;with_reducible exact K1.out _)|(go_at_call 80;with_reducible exact K2.out _)))
 refine wpQuiet_nil ?_;rintro _ ⟨xq,rfl⟩;have bZ:=aa (ae cM.out xq.ext);have HAX:=aa (af xq.ext HA.out);clear yC yX y0 y1 y2;generalize xq.val=W1 at bZ HAX ⊢;have hsw1:=bZ.out.size
 go_wp2_with fail
 go_loopw [7,8] (fun q i wr=>∃ k:Nat,k<=oo/\i=.int .i64 k/\Below W1.heap.size W1 wr/\aD wr W1.heap.size 3 1 q (il s e k).length ((il s e k).map (Value.int .i64))) (fun _ i _=>oo - (intOf i).toNat)
 case atStart=>exact⟨0,by omega,rfl,Below.refl _ _,by rw[CS.out];exact aD.nil _ _ _ _⟩
 case round=>
  obtain⟨v,hv,rfl,aq,aX⟩:=hrel;obtain⟨al,cl2,rfl⟩:=aX.slice;have bL:=aa aX;have aR:=aa aq;have sv:=af aq HAX.out;have tO:wr.cell? ⟨w.heap.size,2,none⟩=some (.int .i64 (oo:Int)):=(ab sv 2).trans (by rw[<-HOO.out];rfl);have tN:wr.cell? ⟨w.heap.size,7,none⟩=some (.int .i64 (n:Int)):=(ab sv 7).trans (by rw[<-n9.out];rfl);have hll:=AL.out v;clear aX aq sv;by_cases az:v<oo
  ·have nE:(v:Int)<(oo:Int):=by omega
   have kV:=aa (OR n (by omega) (v:Int) ⟨by omega,by omega⟩ wr)
   go_wp2_with fail
   clear tO tN;refine kV.out.mono ?_;rintro r w2 ⟨u,rfl,hu,aV⟩;have HU:=aa hu;have cB:=aa (ae aR.out aV);have MH:=aa aV;obtain⟨au,cu,rfl,_⟩:=hu.at;have WB:=aa (Ez _ _ vl _ w2 (nZ.out.up up_ints (ae bZ.out cB.out)) HU.out);rw[<-uM.out]at WB;rw[List.length_replicate]at WB ⊢;clear hu aV kV
   go_wp2_with fail
   refine WB.out.mono ?_;rintro r w3 ⟨rfl,bA⟩;have dP:=aa (ae cB.out bA);have HOWN2:=aa (bL.out.up (ae MH.out bA));clear bA bL;have bL:=HOWN2;obtain⟨wr4,kr⟩:∃ x,x=wr:=⟨_,rfl⟩;subst kr;obtain⟨wr,kr⟩:∃ x,x=w3:=⟨_,rfl⟩;subst kr;clear aR;have aR:=dP;obtain⟨q,hq⟩:∃ q,(il s e v).length=q:=⟨_,rfl⟩;rw[hq]at bL hll ⊢;have HQ:=aa hq;clear hq;cases hb:valB s e v with
   | true=>
    have fE:=aa (HVY.out v hb);have AG:Hid ((il s e (v+1)).length=q+1):=aa (by rw[fE.out,List.length_append,HQ.out];rfl);clear hb;have dX:=aa (bL.out.up ((Below.refl _ wr).alloc (Nat.le_refl _) (.cells #[.int .i64 (v:Int)] 3)));have bB:=aa (eA wr [.int .i64 (v:Int)] 3);have oP:Hid (q+1<=maxLen):=aa (by unfold maxLen;omega);have rp:Hid ((q+1) * 8<=140737488355328):=aa (by omega);have fL:Hid (W1.heap.size<=(wr.alloc (.cells #[.int .i64 (v:Int)] 3)).heap.size):=aa (by have:=aR.out.size;simp;omega)
    go_wp2_with (at_builtin;(refine aZ _ rfl (.tmp 40) (.tmp 42) 38 rfl W1.heap.size 3 i0 _ 1 8 Tryz.underlying38 bQ.out.1 bQ.out.2.1 bQ.out.2.2.1 bQ.out.2.2.2 rfl (by decide) _ q _ rfl dX.out ⟨wr.heap.size,0,none⟩ 1 1 [.int .i64 (v:Int)] rfl rfl bB.out (by simp[Value.oneCell']) oP.out rp.out fL.out ?_;intro v6 w6 gF fN _))
    go_roundw
    case rel=>
     refine⟨v+1,by omega,by go_num,eR aR.out (Nat.le_refl _) dX.out fN,?_⟩;rw[AG.out,fE.out,List.map_append];exact gF
    case measure=>simp[intOf];omega
   | false=>
    have fE:=aa (HVN.out v hb);clear hb
    go_wp2_with fail
    go_roundw
    case rel=>
     refine⟨v+1,by omega,by go_num,aR.out,?_⟩;rw[fE.out,HQ.out];exact bL.out
    case measure=>simp[intOf];omega
  ·obtain rfl:v=oo:=by omega
   clear tN
   have HI:Hid (aY wr (.slice al (il s e v).length cl2) vs0):=aa (by
    rw[<-V9.out];refine gX (l:=il s e v) bL.out (fun y hy=>?_) (by omega);obtain⟨j,hj,rfl⟩:=List.mem_map.1 hy;have:=List.mem_range.1 (List.mem_filter.1 hj).1
    exact⟨by omega,by omega⟩)
   go_wp2_with fail
   go_ret
   exact⟨_,rfl,HI.out,ae bZ.out aR.out⟩
end Go.Proofs.YtmeaoneaephjeaaGreatDoor
