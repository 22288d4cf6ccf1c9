/-
  A part of the proof: lemmas and contracts that the parts behind it use. Each one's conditions are its own premises.
-/
import Derived.StillTailTactics
import Derived.OrdersIn
import Derived.StillTail
import Derived.OwnWalkIn
import Derived.TacticsInMore
import Derived.LoopNIn
import Derived.LoopIn
import Derived.Test.YtkfgpnbpcpdclaaGreatJ1
set_option maxRecDepth 100000
set_option maxHeartbeats 8000000
set_option linter.unusedVariables false
namespace Go.Proofs.YtkfgpnbpcpdclaaGreat
open Go.RowKit Go Go.Shelf
structure Chg (B:Nat) (A A':World):Prop where
 os:A'.os=A.os
 tape:A'.tape=A.tape
 output:A'.output=A.output
 size:A.heap.size<=A'.heap.size
 same:∀ (k:Nat) (o:Obj),A.heap[k]?=some o->(k<B\/o.isCells=true)->A'.heap[k]?=some o
theorem Chg.of_below{B:Nat} {A A':World} (h:Below A.heap.size A A'):Chg B A A':=⟨h.os,h.tape,h.output,h.size,fun _ _ hk _=>ak h hk⟩
theorem Chg.ck{B:Nat} {A A':World} (h:Chg B A A'):CK A A':=fun k o hk ho=>h.same k o hk (.inr ho)
theorem Chg.put{B:Nat} {A:World} {l:Nat} {o:Obj} (o':Obj) (hl:A.heap[l]?=some o) (hB:B<=l) (ho:o.isCells=false):Chg B A (A.putObj l o'):=
 ⟨rfl,rfl,rfl,by simp,fun k x hk hx=>by
  by_cases e:k=l
  ·subst e;rw[hl]at hk;cases hk
   rcases hx with hx|hx
   ·omega
   ·rw[ho]at hx;cases hx
  ·exact(World.putObj_heap_other e).trans hk⟩
theorem Chg.below{B n:Nat} {w A A':World} (h:Chg B A A') (hn:n<=B) (hs:n<=A.heap.size) (hb:Below n w A):Below n w A':=
 ⟨h.os.trans hb.os,h.tape.trans hb.tape,h.output.trans hb.output,Nat.le_trans hb.size h.size,fun k hk=>by
  have aF:k<A.heap.size:=by omega
  have h1:A.heap[k]?=some A.heap[k]:=Array.getElem?_eq_getElem aF
  rw[h.same k _ h1 (.inl (by omega)),<-h1];exact hb.block k hk⟩
def bR(B:Nat) (I:World->Prop):Prop:=∀ A A',Chg B A A'->I A->I A'
theorem bR.and{B:Nat} {I J:World->Prop} (h:bR B I) (k:bR B J):bR B (fun W=>I W/\J W):=fun A A' c x=>⟨h A A' c x.1,k A A' c x.2⟩
theorem bR.below{B:Nat} {w:World} (h:w.heap.size<=B):bR B (fun W=>Below w.heap.size w W):=fun _ _ c x=>c.below h x.size x
theorem bR.cells{B b:Nat} {c:Array Value} {t:TypeId} {f:Nat × Nat}:bR B (fun W=>W.heap[b]?=some (.cells c t f)):=fun _ _ c x=>c.same _ _ x (.inr rfl)
theorem bR.pure{B:Nat} {p:Prop}:bR B (fun _=>p):=fun _ _ _ x=>x
structure Bod (B:Nat) (S:Nat->Prop) (W W':World):Prop where
 size:W.heap.size<=W'.heap.size
 keep:∀ k,S k->W'.heap[k]?=W.heap[k]?
 same:∀ (k:Nat) (o:Obj),B<=k->W.heap[k]?=some o->o.isCells=false->W'.heap[k]?=some o
theorem Bod.refl(B:Nat) (S:Nat->Prop) (W:World):Bod B S W W:=⟨Nat.le_refl _,fun _ _=>rfl,fun _ _ _ h _=>h⟩
theorem Bod.trans{B:Nat} {S:Nat->Prop} {X Y Z:World} (h:Bod B S X Y) (k:Bod B S Y Z):Bod B S X Z:=
 ⟨Nat.le_trans h.size k.size,fun i hi=>(k.keep i hi).trans (h.keep i hi),fun i o hB hi ho=>k.same i o hB (h.same i o hB hi ho) ho⟩
theorem Bod.of_below{B:Nat} {S:Nat->Prop} {W W':World} (hS:∀ k,S k->k<W.heap.size) (h:Below W.heap.size W W'):Bod B S W W':=
 ⟨h.size,fun k hk=>h.block k (hS k hk),fun _ _ _ hk _=>ak h hk⟩
theorem Bod.setCell{B:Nat} {S:Nat->Prop} (W:World) (p:Addr) (v:Value) (hp:¬ S p.block):Bod B S W (W.setCell p v):=
 ⟨by simp,fun k hk=>Below.heap_setCell _ _ _ _ (fun e=>hp (e ▸ hk)),fun k o _ hk ho=>(KeepsOthers.setCell W p v).same k o hk ho⟩
theorem Bod.put{S:Nat->Prop} (W:World) {l:Nat} (o':Obj) (hS:¬ S l):Bod (l+1) S W (W.putObj l o'):=
 ⟨by simp,fun k hk=>World.putObj_heap_other (fun e=>hS (e ▸ hk)),fun k x hk hx _=>(World.putObj_heap_other (by omega)).trans hx⟩
theorem Bod.mono{B C:Nat} {S:Nat->Prop} {W W':World} (h:Bod B S W W') (hB:B<=C):Bod C S W W':=⟨h.size,h.keep,fun k o hk hx ho=>h.same k o (Nat.le_trans hB hk) hx ho⟩
def A8(P:Program) (g:Nat) (lb:Array Value) (encs:Nat->Array Value) (N:Nat) (S:Nat->Prop) (w:World):Prop:=
 ∀ (l:Nat) (J Jx:Nat->World->Prop) (W:World),Below w.heap.size w W →
  (∀ i A A',J i A->Below A.heap.size A A'->J i A')->(∀ i A A',Jx i A->Below A.heap.size A A'->Jx i A') →
  (∀ i W1,i<N->J i W1->YieldAt Fence.wide 0 P l (encs i) W1 fun e W'=>
   (e=.returned (.bool true)/\J (i+1) W'/\W1.heap.size<=W'.heap.size/\∀ k,S k->W'.heap[k]?=W1.heap[k]?)\/(e=.returned (.bool false)/\Jx (i+1) W')) →
  J 0 W →
  Calls P g (#[.func (.yield l) #[] #[]]++lb) W fun e W'=>(∃ v,e=.returned v)/\(J N W'\/∃ i,i<=N/\Jx i W')
def Gs(B:Nat) (S:Nat->Prop) (I:Nat->World->Prop) (Ix:Code->Nat->World->Prop) (i:Nat) (W:World):Exit->Act->World->Prop
 | .normal,_,W'=>Bod B S W W'/\I i W'
 | .ret,_,W'=>Bod B S W W'/\Ix .ret i W'
 | .exit id,_,W'=>Bod B S W W'/\Ix (.exit id) i W'
 | .goto t,_,W'=>Bod B S W W'/\Ix (.goto t) i W'
 | .panic _,_,_=>False
 | .outgrown,_,_=>False
abbrev jY(D:Nat):Deferred:={ target:=.collected D,args:=#[] }
theorem An{P:Program} {B:Nat} {S:Nat->Prop} {ps:Array Tmp} {assign body:Code} {tmps:Array Value} {l i:Nat} {I:Nat->World->Prop} {Ix:Code->Nat->World->Prop} {W:World} {args:Array Value} {r:Loop} (R:Ending->World->Prop)
  (PW:B<=l) (nD:¬ S l) (hr:r.params=ps/\r.assign=assign/\r.body=body/\r.tmps=tmps/\r.state=.ready/\r.pending=none) (hl:W.heap[l]?=some (.loop r)) (vV:args.size=ps.size)
  (rD:assign.wpIn (Fence.wide.inRound l) 0 P (Exit.then (fun a1 W1=>Bod B S W W1/\∃ Ax:World->Prop,bR B Ax/\Ax W1/\∀ W2,Ax W2->(∃ r,W2.heap[l]?=some (.loop r))->body.wpIn (Fence.wide.inRound l) 0 P (Gs B S I Ix (i+1) W2) a1 W2) (fun _ _ _=>False))
   { tmps:=(ps.zip args).foldl (fun t (p,v)=>t.setIfInBounds p v) tmps,defers:=[] } W)
  (lL:∀ W3 W4,W.heap.size<=W3.heap.size->Bod (l+1) S W W4->W4.heap[l]?=some (.loop r)->Chg B W3 W4->I (i+1) W3->(∀ k o,B<=k->k≠l->W.heap[k]?=some o->o.isCells=false->W4.heap[k]?=some o)->R (.returned (.bool true)) W4)
  (kx:∀ c W3 W4,W.heap.size<=W3.heap.size->Bod (l+1) S W W4->W4.heap[l]?=some (.loop { r with state:=.done,pending:=some c })->Chg B W3 W4->Ix c (i+1) W3->(∀ k o,B<=k->k≠l->W.heap[k]?=some o->o.isCells=false->W4.heap[k]?=some o)->R (.returned (.bool false)) W4) :
  YieldAt Fence.wide 0 P l args W R:=by
 obtain⟨h1,h2,h3,h4,h5,h6⟩:=hr;refine⟨r.fn,_,r.assign,r.body,run_yield hl (by rw[h1];exact vV),roundIn_of_wpIn trivial ?_⟩;rw[h1,h2,h3,h4];refine wpIn_mono rD ?_;rintro e a1 W1 hp;cases e<;>first|exact hp.elim|skip
 obtain⟨AO,Ax,hAx,hax,hbody⟩:=hp;have kd:W1.heap[l]?=some (.loop r):=AO.same l _ PW hl rfl;have l8:(W1.putObj l (.loop { r with state:=.busy })).heap[l]?=some (.loop { r with state:=.busy }):=World.putObj_heap_same (aB kd);have aS:Bod (l+1) S W (W1.putObj l (.loop { r with state:=.busy })):=(AO.mono (by omega)).trans (Bod.put _ _ nD)
 have Ad:∀ k o,B<=k->k≠l->W.heap[k]?=some o->o.isCells=false->(W1.putObj l (.loop { r with state:=.busy })).heap[k]?=some o:=
  fun k o hk bH ho hc=>(World.putObj_heap_other bH).trans (AO.same k o hk ho hc)
 refine⟨_,run_beginRound kd h5,wpIn_mono (hbody _ (hAx _ _ (Chg.put _ kd PW rfl) hax) ⟨_,l8⟩) ?_⟩;generalize W1.putObj l (.loop { r with state:=.busy })=W2 at l8 aS Ad;rintro e a3 W3 hp
 have fin:∀ (jump:Option Code),Bod B S W2 W3->(Instr.endRound l jump).run P W3=.ok (.bool jump.isNone) (W3.putObj l (.loop { r with state:=if jump.isNone then .ready else .done,pending:=jump })) ∧
   (W3.putObj l (.loop { r with state:=if jump.isNone then .ready else .done,pending:=jump })).heap[l]?=some (.loop { r with state:=if jump.isNone then .ready else .done,pending:=jump }) ∧
   Chg B W3 (W3.putObj l (.loop { r with state:=if jump.isNone then .ready else .done,pending:=jump }))/\Bod (l+1) S W (W3.putObj l (.loop { r with state:=if jump.isNone then .ready else .done,pending:=jump })) ∧
   (∀ k o,B<=k->k≠l->W.heap[k]?=some o->o.isCells=false->(W3.putObj l (.loop { r with state:=if jump.isNone then .ready else .done,pending:=jump })).heap[k]?=some o):=fun jump bA=>by
  have P4:=bA.same l _ PW l8 rfl
  exact⟨run_endRound (r:={ r with state:=.busy }) jump P4,World.putObj_heap_same (aB P4),Chg.put _ P4 PW rfl,(aS.trans (bA.mono (by omega))).trans (Bod.put _ _ nD),
   fun k o hk bH ho hc=>(World.putObj_heap_other bH).trans (bA.same k o hk (Ad k o hk bH ho hc) hc)⟩
 cases e with
 | normal=>
  obtain⟨bA,hi⟩:=hp;obtain⟨f1,f2,f3,f4,f5⟩:=fin none bA;refine⟨_,_,f1,lL W3 _ (Nat.le_trans aS.size bA.size) f4 ?_ f3 hi f5⟩;rw[f2];cases r;simp_all
 | ret=>
  obtain⟨bA,hi⟩:=hp;obtain⟨f1,f2,f3,f4,f5⟩:=fin (some .ret) bA;exact⟨_,_,f1,kx .ret W3 _ (Nat.le_trans aS.size bA.size) f4 f2 f3 hi f5⟩
 | exit id=>
  obtain⟨bA,hi⟩:=hp;obtain⟨f1,f2,f3,f4,f5⟩:=fin (some (.exit id)) bA;exact⟨_,_,f1,kx (.exit id) W3 _ (Nat.le_trans aS.size bA.size) f4 f2 f3 hi f5⟩
 | goto t=>
  obtain⟨bA,hi⟩:=hp;obtain⟨f1,f2,f3,f4,f5⟩:=fin (some (.goto t)) bA;exact⟨_,_,f1,kx (.goto t) W3 _ (Nat.le_trans aS.size bA.size) f4 f2 f3 hi f5⟩
 | panic ch=>exact hp.elim
 | outgrown=>exact hp.elim
theorem kG{P:Program} {g:Operand} {ps:Array Tmp} {assign body:Code} {Q:Exit->Act->World->Prop} {a:Act} {w:World}
  {gf:Nat} {lb:Array Value} (hg:a.eval g=.func (.func gf) #[] lb) (eg:∀ args w,(callFunc gf args).run P w=.ok (.enter gf args) w)
  {encs:Nat->Array Value} {N:Nat} {S:Nat->Prop} {w0:World} (bP:A8 P gf lb encs N S w0) (aH:Below w0.heap.size w0 w) (hS:∀ k,S k->k<w.heap.size) (vV:∀ i,(encs i).size=ps.size)
  (I:Nat->World->Prop) (Ix:Code->Nat->World->Prop) (hI:∀ i,bR w.heap.size (I i)) (zU:∀ c i,bR w.heap.size (Ix c i)) (h0:I 0 w)
  (rD:∀ l i W,i<N->w.heap.size<=l->I i W →
   assign.wpIn (Fence.wide.inRound l) 0 P (Exit.then (fun a1 W1=>Bod w.heap.size S W W1/\∃ Ax:World->Prop,bR w.heap.size Ax/\Ax W1/\∀ W2,Ax W2->(∃ r,W2.heap[l]?=some (.loop r))->body.wpIn (Fence.wide.inRound l) 0 P (Gs w.heap.size S I Ix (i+1) W2) a1 W2) (fun _ _ _=>False))
    { tmps:=(ps.zip (encs i)).foldl (fun t (p,v)=>t.setIfInBounds p v) a.tmps,defers:=[] } W)
  (CN:∀ D W,w.heap.size<=D->I N W->W.heap[D]?=some (.deferred (some []))->Q .normal { a with defers:=jY D :: a.defers } W)
  (Cx:∀ D c i W,w.heap.size<=D->i<=N->Ix c i W->W.heap[D]?=some (.deferred (some []))->c.wp P Q { a with defers:=jY D :: a.defers } W) :
  (Code.rangeFunc g ps assign body).wp P Q a w:=by
 refine(wpIn_wide (n:=0)).1 (wpIn_rangeFunc ?_);intro fn _;obtain⟨rec,oG⟩:∃ rec:Loop,rec={ state:=.ready,pending:=none,fn,tmps:=a.tmps,params:=ps,assign,body,defers:=w.heap.size }:=⟨_,rfl⟩;obtain⟨W1,fR⟩:∃ W1,(w.alloc (.deferred (some []))).alloc (.loop rec)=W1:=⟨_,rfl⟩
 have PB:W1.heap[w.heap.size+1]?=some (.loop rec):=by
  rw[<-fR];have:=ar (w.alloc (.deferred (some []))) (.loop rec);rwa [World.size_alloc]at this
 have FJ:W1.heap[w.heap.size]?=some (.deferred (some [])):=by rw[<-fR];exact aq _ (ar w _)
 have xK:Below w.heap.size w W1:=by rw[<-fR];exact((Below.refl _ w).alloc (Nat.le_refl _) _).alloc (by simp) _
 have PJ:¬ S (w.heap.size+1):=fun h=>by have:=hS _ h;omega
 refine⟨w.heap.size+1,[jY w.heap.size],W1,{ target:=.fn (.func gf) lb,args:=#[.func (.yield (w.heap.size+1)) #[] #[]] },W1,gf,
  #[.func (.yield (w.heap.size+1)) #[] #[]]++lb,W1,?_,?_,fun _ _=>trivial,?_,fun h=>(by simp[Fence.wide]at h),?_⟩
 ·rw[<-fR,oG];exact run_enterLoop_outer _ _ _ _ _
 ·simp only[resolve,hg]
  simp[go_sem]
 ·simp[invoke,go_sem,eg]
 ·refine(callsIn_wide (n:=0 - 1)).2 ?_
  refine(bP (w.heap.size+1)
   (fun i W=>I i W/\W.heap[w.heap.size+1]?=some (.loop rec)/\W.heap[w.heap.size]?=some (.deferred (some [])))
   (fun i W=>∃ c,Ix c i W/\W.heap[w.heap.size+1]?=some (.loop { rec with state:=.done,pending:=some c })/\W.heap[w.heap.size]?=some (.deferred (some [])))
   W1 (aj aH xK)
   (fun i A A' h hb=>⟨hI i A A' (.of_below hb) h.1,ak hb h.2.1,ak hb h.2.2⟩)
   (fun i A A' h hb=>by obtain⟨c,h1,h2,h3⟩:=h;exact⟨c,zU c i A A' (.of_below hb) h1,ak hb h2,ak hb h3⟩)
   ?_ ⟨hI 0 _ _ (.of_below xK) h0,PB,FJ⟩).mono ?_
  ·rintro i W hi ⟨OX,hl,hk⟩
   refine An (B:=w.heap.size) (S:=S) (ps:=ps) (assign:=assign) (body:=body) (tmps:=a.tmps) (i:=i) (I:=I) (Ix:=Ix) _ (by omega) PJ (by rw[oG];simp) hl (vV i) (rD _ i W hi (by omega) OX) ?_ ?_
   ·intro W3 W4 _ bM xN hc xE rT
    exact .inl ⟨rfl,⟨hI _ _ _ hc xE,xN,rT _ _ (Nat.le_refl _) (by omega) hk rfl⟩,bM.size,bM.keep⟩
   ·intro c W3 W4 _ _ xN hc xE rT
    exact .inr ⟨rfl,c,zU _ _ _ _ hc xE,xN,rT _ _ (Nat.le_refl _) (by omega) hk rfl⟩
  ·rintro e W2 ⟨⟨v,rfl⟩,(⟨hi,hl,hk⟩|⟨i,cK,c,hi,hl,hk⟩)⟩
   ·exact⟨none,_,by have:=run_endLoop (P:=P) hl (by rw[oG];simp);rw[this,oG],CN _ _ (Nat.le_refl _) (hI _ _ _ (Chg.put _ hl (by omega) rfl) hi) ((World.putObj_heap_other (by omega)).trans hk)⟩
   ·exact⟨some c,_,by have:=run_endLoop (P:=P) hl (by simp);rw[this],wpIn_wide.2 (Cx _ c i _ (Nat.le_refl _) cK (zU _ _ _ _ (Chg.put _ hl (by omega) rfl) hi) ((World.putObj_heap_other (by omega)).trans hk))⟩
theorem eI{P:Program} {f:FuncId} {fn:Func} {c:Code} {args:Array Value} {w:World} {R:Ending->World->Prop}
  (hf:P.funcs[f]?=some fn) (hb:fn.body=some c)
  (h:c.wp P (bodyPostM Fence.wide 0 P fn R) { tmps:=args++Array.replicate (fn.ntmps - args.size) undef,defers:=[] } w):Calls P f args w R:=
 callsIn_wide.1 (callsIn_of_wp_marks hf hb trivial (wpIn_wide.2 h))
theorem dH{P:Program} {fn:Func} {R:Ending->World->Prop} {tmps:Array Value} {D:Nat} {W:World} {v:Value} (hK:W.heap[D]?=some (.deferred (some [])))
  (hv:(results fn tmps).run P (W.putObj D (.deferred none))=.ok v (W.putObj D (.deferred none))) (h:R (.returned v) (W.putObj D (.deferred none))) :
  bodyPostM Fence.wide 0 P fn R .ret { tmps:=tmps,defers:=[jY D] } W:=
 ⟨by simp,.inl ⟨_,_,rfl,run_takeDeferred hK,⟨v,hv,h⟩⟩⟩
theorem M9{P:Program} {fn:Func} {R:Ending->World->Prop} {tmps:Array Value} {D:Nat} {W:World} {v:Value} (hK:W.heap[D]?=some (.deferred (some [])))
  (hv:(results fn tmps).run P (W.putObj D (.deferred none))=.ok v (W.putObj D (.deferred none))) (h:R (.returned v) (W.putObj D (.deferred none))) :
  bodyPostM Fence.wide 0 P fn R .normal { tmps:=tmps,defers:=[jY D] } W:=
 ⟨by simp,.inl ⟨_,_,rfl,run_takeDeferred hK,⟨v,hv,h⟩⟩⟩
theorem fH{P:Program} {fn:Func} {R:Ending->World->Prop} {tmps:Array Value} {W:World} {v:Value}
  (hv:(results fn tmps).run P W=.ok v W) (h:R (.returned v) W):bodyPostM Fence.wide 0 P fn R .ret { tmps:=tmps,defers:=[] } W:=⟨v,hv,h⟩
theorem cT{n:Nat} {w W:World} {D:Nat} {o:Obj} (hn:n<=D) (h:Below n w W):Below n w (W.putObj D o):=
 ⟨h.os,h.tape,h.output,by simpa using h.size,fun k hk=>(World.putObj_heap_other (by omega)).trans (h.block k hk)⟩
def ri(ops:Array Oper):Bool:=ops.all fun o=>match o.op with|.defer _=>false|_=>true
theorem GM{ops:Array Oper} (h:ri ops=true) {i:Nat} {o:Oper} (ho:ops[i]?=some o):∀ c,o.op≠.defer c:=by
 intro c hc;have h1:=Array.all_eq_true'.1 h o (Array.mem_of_getElem? ho);rw[hc]at h1;cases h1
theorem M'{P:Program} {yl n:Nat} {o:Oper} {a:Act} {w:World} {K K':Act->World->Prop} {Q:Exit->Act->World->Prop} (hd:∀ c,o.op≠.defer c) (_hQ:¬ LetsOut Q) (hK:∀ a w,K a w->K' a w)
  (h:o.wp P a w K Q):o.wpIn (Fence.wide.inRound yl) n P a w K' Q:=by
 refine⟨fun _ _=>trivial,?_⟩;rw[Oper.semAt_eq _ _ _ hd];unfold Oper.wp at h;generalize (execOp a.eval o).run P w=r at h;cases r with
 | ok x w'=>
  cases x with
  | value v=>exact hK _ _ h
  | skip=>exact hK _ _ h
  | defer d=>exact hK _ _ h
  | enter f args=>
   refine⟨fun h'=>(by simp[Fence.wide,Fence.inRound]at h'),CallsIn.inRound yl ((callsIn_wide (n:=n - 1)).2 ?_)⟩;refine Calls.mono h ?_;rintro e w'' he;cases e with
   | returned v=>exact hK _ _ he
   | panicked ch=>exact he
   | outgrown=>exact he
  | row r args=>
   refine⟨fun h'=>(by simp[Fence.wide,Fence.inRound]at h'),fun c cs _=>?_⟩;obtain⟨v,w'',hv,hs⟩:=h c cs;exact⟨v,w'',hK _ _ hv,stepsIn_wide.2 hs⟩
  | _=>exact h.elim
 | halt x w'=>
  cases x with
  | panic v=>exact h
  | _=>exact h.elim
theorem oT{P:Program} {yl n:Nat} {ops:Array Oper} {md:Region.Mode} {Q:Exit->Act->World->Prop} (hd:ri ops=true) (hQ:¬ LetsOut Q) :
  ∀ (fuel:Nat) (listed:Array Bool) (a:Act) (w:World),wpAny P md ops Q fuel listed a w->wpAnyIn (Fence.wide.inRound yl) n P md ops Q fuel listed a w
 | 0,_,_,_,h=>h
 | fuel+1,listed,a,w,h=>⟨h.1,fun i hi=>by
  have h2:=h.2 i hi;unfold wpOp at h2;unfold wpOpIn;cases ho:ops[i]? with
  | none=>rw[ho]at h2;exact oT hd hQ fuel _ _ _ h2
  | some o=>
   rw[ho]at h2;dsimp only at h2 ⊢;split
   ·rename_i hw
    rw[if_pos hw]at h2;rcases h2 with h2|h2
    ·exact M' (GM hd ho) hQ (fun a w h=>oT hd hQ fuel _ a w h) h2
    ·exact absurd h2.2 hQ
   ·rename_i hw
    rw[if_neg hw]at h2
    exact⟨fun _ _=>trivial,oT hd hQ fuel _ _ _ h2⟩⟩
theorem yF{P:Program} {yl m:Nat} {id:Nat} {Q:Exit->Act->World->Prop} {a:Act} {w:World} {l:List Oper} (n:Nat) (hQ:¬ LetsOut Q) (hm:P.follows .mixedOrders=true) (hB:Region.lexTailB .any l.toArray n=true) (hd:ri l.toArray=true)
  (h:wpStill P l.toArray w.drew (fun a'=>wpList P l.toArray Q (l.drop n) a' w.drew) (l.take n) a):(Code.region id l.toArray true).wpIn (Fence.wide.inRound yl) m P Q a w:=by
 simp only[Region.lexTailB,Bool.and_eq_true,decide_eq_true_eq]at hB;obtain⟨⟨⟨⟨R',hn⟩,hs⟩,hc⟩,Sf⟩:=hB;have wz:n<l.length:=by simpa using hn
 have pZ:(l.take n).length=n:=by simp;omega
 have lH:(l.drop n).length=l.toArray.size - n:=by simp
 have inv0:HeadInv .any l.toArray n (Array.replicate l.toArray.size false):=
  ⟨by simp,fun j oj _ hl=>(by rw[getD_replicate_false]at hl;cases hl),fun t _ ht=>getD_in (by simpa using ht) (getD_replicate_false _ _)⟩
 have H:=wpAnyL_lex (md:=.any) (g:=l.toArray.size - n) R' hs hc hn (l.take n) 0 _ a (fun j hj=>by
  have xL:j<n:=by rw[pZ]at hj;exact hj
  simp[xL]) (by simpa using pZ) inv0 (by rw[pZ];exact Sf) h
 refine wpIn_region_any hm (oT hd hQ _ _ _ _ ?_)
 have:=wpAny_of_head (Q':=Q) (g:=l.toArray.size - n) (fun listed a' hL=>by
  have:=wpAny_of_seq (md:=.any) (Q':=Q) (l.drop n) n listed a' w.drew (fun j=>by simp[List.getElem?_drop]) (by rw[lH];exact hL.1) hL.2
  rwa [lH]at this) _ _ _ H
 rw[pZ,show n+(l.toArray.size - n)=l.toArray.size by omega]at this;exact this
theorem pS{P:Program} {yl m:Nat} {id:Nat} {Q:Exit->Act->World->Prop} {a:Act} {w:World} {l:List Oper} (n:Nat) (hQ:¬ LetsOut Q) (hm:P.follows .mixedOrders=true) (hB:Region.lexTailB .any l.toArray n=true) (hd:ri l.toArray=true)
  (h:∀ (ops:Array Oper) (Lq:Act->Prop),ops=l.toArray->(∀ a',wpList P l.toArray Q (l.drop n) a' w.drew->Lq a')->wpStill P ops w.drew Lq (l.take n) a):(Code.region id l.toArray true).wpIn (Fence.wide.inRound yl) m P Q a w:=
 yF n hQ hm hB hd (h _ _ rfl (fun _ h=>h))
def jk(ops:Array Oper) (n:Nat):Bool:=
 (List.range n).all (fun i=>match ops[i]? with|some o=>o.after.all fun e=>!Region.binds .any e || decide (e.on<i)|none=>false)
theorem sQ{ops:Array Oper} {n:Nat} (h:jk ops n=true) {i:Nat} {o:Oper} (hi:i<n) (ho:ops[i]?=some o):∀ e∈o.after,Region.binds .any e=true->e.on<i:=by
 simp only[jk,List.all_eq_true]at h;have:=h i (List.mem_range.2 hi);rw[ho]at this;intro e he hb;have:=Array.all_eq_true'.1 this e he;rw[hb]at this;simpa using this
theorem nO{P:Program} {ops:Array Oper} {Q:Exit->Act->World->Prop} {n:Nat} (hn:ops.size=n) (hB:jk ops n=true) (Inv:(Nat->Bool)->Act->World->Prop)
  (dG:∀ D a w i o,i<n->ops[i]?=some o->D i=false->(∀ e∈o.after,Region.binds .any e=true->D e.on=true)->Inv D a w->wpOp P ops Q i (fun a' w'=>Inv (bB D i) a' w') a w)
  (fO:∀ D a w,(∀ j,j<n->D j=true)->Inv D a w->Q .normal a w) :
  ∀ (fuel:Nat) (L:Array Bool) (a:Act) (w:World),L.size=n->(List.range n).countP (fun j=>!L.getD j false)<=fuel->Inv (fun j=>L.getD j false) a w->wpAny P .any ops Q fuel L a w:=by
 have jw:∀ L:Array Bool,L.size=n->(∀ j,j<n->L.getD j false=true)->Region.ready .any ops L=[]:=by
  intro L hL h1;refine List.eq_nil_iff_forall_not_mem.2 fun j hj=>?_
  obtain⟨mG,o,ho,_⟩:=mem_ready.1 hj;have xF:j<n:=by have:=(Array.getElem?_eq_some_iff.1 ho).1;omega
  have:=h1 j xF;rw[show L.getD j false=L.getD j true by simp[Array.getD,hL,xF]]at this;rw[mG]at this;cases this
 intro fuel;induction fuel with
 | zero=>
  intro L a w hL hc h1;have h3:(List.range n).countP (fun j=>!L.getD j false)=0:=by omega
  rw[List.countP_eq_zero]at h3;have aM:∀ j,j<n->L.getD j false=true:=fun j hj=>by simpa using h3 j (List.mem_range.2 hj)
  exact⟨jw L hL aM,fO _ a w aM h1⟩
 | succ fuel ih=>
  intro L a w hL hc h2;refine⟨fun hr=>?_,fun i hi=>?_⟩
  ·refine fO _ a w ?_ h2
   intro j;induction j using Nat.strongRecOn with
   | ind j ihj=>
    intro hj;cases hv:L.getD j false with
    | true=>rfl
    | false=>
     exfalso;obtain⟨o,ho⟩:∃ o,ops[j]?=some o:=⟨ops[j]'(by omega),Array.getElem?_eq_getElem _⟩
     have:j∈Region.ready .any ops L:=mem_ready.2 ⟨by rw[show L.getD j true=L.getD j false by simp[Array.getD,hL,hj]];exact hv,o,ho,fun e he im=>by
      have:=sQ hB hj ho e he im
      exact ihj e.on this (by omega)⟩
     rw[hr]at this;cases this
  ·obtain⟨uA,o,ho,al⟩:=mem_ready.1 hi
   have cK:i<n:=by have:=(Array.getElem?_eq_some_iff.1 ho).1;omega
   have FR:L.getD i false=false:=by rw[show L.getD i false=L.getD i true by simp[Array.getD,hL,cK]];exact uA
   have tg:(fun j=>(L.setIfInBounds i true).getD j false)=bB (fun j=>L.getD j false) i:=by
    funext j
    unfold bB;by_cases mE:j=i
    ·subst mE;simp[Array.getD,hL,cK]
    ·rw[if_neg mE]
     simp only[Array.getD,Array.size_setIfInBounds];split
     ·exact Array.getElem_setIfInBounds_ne _ (Ne.symm mE)
     ·rfl
   have oE:(List.range n).countP (fun j=>!(L.setIfInBounds i true).getD j false)<=fuel:=by
    have h3:=wN (fun j=>L.getD j false) i FR (List.range n);rw[if_pos (List.mem_range.2 cK)]at h3
    have h4:(fun j=>!(L.setIfInBounds i true).getD j false)=fun j=>!bB (fun j=>L.getD j false) i j:=by
     funext j;rw[<-tg]
    rw[h4];omega
   exact dQ (fun a' w' h=>ih (L.setIfInBounds i true) a' w' (by simpa using hL) oE (by rw[tg];exact h)) (dG (fun j=>L.getD j false) a w i o cK ho FR al h2)
def aR(F:Array Value) (d:List Deferred) (V:List (Option Value)) (Core:(Nat->Bool)->(Nat->Value)->World->Prop) (D:Nat->Bool) (i s:Nat) (x:Nat->Value) (a':Act) (W':World):Prop:=
 ∃ v,a'={ tmps:=F.setIfInBounds s v,defers:=d }/\(∀ c,V.getD i none=some c->v=c)/\Core (bB D i) (cF x i v) W'
theorem aR.mk{F:Array Value} {d:List Deferred} {V:List (Option Value)} {Core:(Nat->Bool)->(Nat->Value)->World->Prop} {D:Nat->Bool} {i s:Nat} {x:Nat->Value} {a':Act} {W':World} (v:Value) (hv:∀ c,V.getD i none=some c->v=c) (hc:Core (bB D i) (cF x i v) W') (ha:a'={ tmps:=F.setIfInBounds s v,defers:=d }):aR F d V Core D i s x a' W':=⟨v,ha,hv,hc⟩
theorem fI{T:Array Value} {S:List Nat} {x:Nat->Value} {k:Nat} (hk:k∉S):(bg T S x).getD k undef=T.getD k undef:=by
 have:=my x S 0 T k hk;simp only[Array.getD_eq_getD_getElem?];exact congrArg (fun o=>Option.getD o undef) this
theorem eD{T:Array Value} {S:List Nat} {x:Nat->Value} {i s:Nat} (hS:S.Nodup) (hi:S[i]?=some s):bg T S x=(bg T S x).setIfInBounds s (x i):=by
 have h:=gZ T S hS x i s (x i) hi
 have e:cF x i (x i)=x:=by
  funext j
  by_cases e:j=i
  ·subst e;exact iG _ _ _
  ·exact gS _ _ e
 rw[e]at h;exact h
theorem jF{T:Array Value} {S:List Nat} {x:Nat->Value} {i k:Nat} (hS:S.Nodup) (hi:S[i]?=some k) (hT:k<T.size):(bg T S x).getD k undef=x i:=by
 rw[eD (x:=x) hS hi];have:k<(bg T S x).size:=by unfold bg;rw[iR];exact hT
 simp[Array.getD,this]
theorem gI{P:Program} {ops:Array Oper} {o:Oper} {a:Act} {w:World} {Q:Exit->Act->World->Prop} (y:Operand) (hg:o.guard=none) (ho:o.op=.move y) (h:Q .normal (a.put o.dst (a.eval y)) w):wpList P ops Q [o] a w:=by
 refine wpList_plain hg fun _ hK=>?_
 unfold Oper.wp execOp;simp only[ho,Sem.run_pure];exact hK _ _ h
theorem A9{P:Program} {l:List Oper} {Q:Exit->Act->World->Prop} {T:Array Value} {d:List Deferred} {w:World} (n:Nat) (S:List Nat) (V:List (Option Value)) (Core:(Nat->Bool)->(Nat->Value)->World->Prop) (hn:l.toArray.size=n) (hS:S.Nodup) (nD:S.length=n) (hB:jk l.toArray n=true)
  (h0:∀ x,Core (fun _=>false) x w.drew)
  (dG:∀ x W D i o s F,i<n->l.toArray[i]?=some o->S[i]?=some s->D i=false->x i=T[s]!->(∀ e∈o.after,Region.binds .any e=true->D e.on=true)->(∀ j c,j<n->D j=true->V.getD j none=some c->x j=c)->Core D x W->F=bg T S x →
   wpList P l.toArray (Exit.then (aR F d V Core D i s x) Q) [o] { tmps:=F,defers:=d } W)
  (fO:∀ x W D F,(∀ j,j<n->D j=true)->(∀ j c,j<n->V.getD j none=some c->x j=c)->Core D x W->F=bg T S x->Q .normal { tmps:=F,defers:=d } W) :
  wpAny P .any l.toArray Q l.toArray.size (Array.replicate l.toArray.size false) { tmps:=T,defers:=d } w.drew:=by
 refine nO hn hB (fun D a W=>∃ x,a={ tmps:=bg T S x,defers:=d }/\(∀ j s,S[j]?=some s->D j=false->x j=T[s]!)/\(∀ j c,j<n->D j=true->V.getD j none=some c->x j=c)/\Core D x W) ?_ ?_ _ _ _ _ (by rw[Array.size_replicate,hn]) ?_ ?_
 ·rintro D a W i o hi ho hD al ⟨x,rfl,bv,hv,hc⟩
  obtain⟨s,hs⟩:∃ s,S[i]?=some s:=⟨S[i],List.getElem?_eq_getElem (by omega)⟩;refine dQ ?_ (iQ ho (dG x W D i o s _ hi ho hs hD (bv i s hs hD) al hv hc rfl));rintro a' W' ⟨v,rfl,oA,oJ⟩;refine⟨cF x i v,by rw[gZ T S hS x i s v hs],fun j sj qM hDj=>?_,fun j c hj hDj hV=>?_,oJ⟩
  ·by_cases e:j=i
   ·subst e;simp[bB]at hDj
   ·rw[gS _ _ e]
    exact bv j sj qM (by simpa[bB,e] using hDj)
  by_cases e:j=i
  ·subst e;rw[iG];exact oA c hV
  ·rw[gS _ _ e]
   exact hv j c hj (by simpa[bB,e] using hDj) hV
 ·rintro D a W aM ⟨x,rfl,_,hv,hc⟩
  exact fO x W D _ aM (fun j c hj hV=>hv j c hj (aM j hj) hV) hc rfl
 ·rw[hn];exact Nat.le_trans List.countP_le_length (by simp)
 ·refine⟨fun i=>T[S.getD i 0]!,?_,fun j s hs _=>by(show T[S.getD j 0]! = _;rw[List.getD_eq_getElem?_getD,hs];rfl),fun j c hj h=>?_,?_⟩
  ·rw[hU T S hS]
   intro i s hi hs;rw[List.getD_eq_getElem?_getD,hi];rfl
  ·exfalso
   simp only[Array.getD]at h;split at h<;>simp at h
  ·have:(fun j=>(Array.replicate l.toArray.size false).getD j false)=fun _=>false:=by
    funext j
    simp only[Array.getD];split<;>simp
   rw[this];exact h0 _
theorem jZ{P:Program} {id:Nat} {l:List Oper} {Q:Exit->Act->World->Prop} {T:Array Value} {d:List Deferred} {w:World} (n:Nat) (S:List Nat) (V:List (Option Value)) (Core:(Nat->Bool)->(Nat->Value)->World->Prop) (hm:P.follows .mixedOrders=true) (hn:l.toArray.size=n) (hS:S.Nodup) (nD:S.length=n) (hB:jk l.toArray n=true)
  (h0:∀ x,Core (fun _=>false) x w.drew)
  (dG:∀ x W D i o s F,i<n->l.toArray[i]?=some o->S[i]?=some s->D i=false->x i=T[s]!->(∀ e∈o.after,Region.binds .any e=true->D e.on=true)->(∀ j c,j<n->D j=true->V.getD j none=some c->x j=c)->Core D x W->F=bg T S x →
   wpList P l.toArray (Exit.then (aR F d V Core D i s x) Q) [o] { tmps:=F,defers:=d } W)
  (fO:∀ x W D F,(∀ j,j<n->D j=true)->(∀ j c,j<n->V.getD j none=some c->x j=c)->Core D x W->F=bg T S x->Q .normal { tmps:=F,defers:=d } W) :
  (Code.region id l.toArray true).wp P Q { tmps:=T,defers:=d } w:=
 wp_region_any hm (A9 n S V Core hn hS nD hB h0 dG fO)
theorem yG{P:Program} {yl m:Nat} {id:Nat} {l:List Oper} {Q:Exit->Act->World->Prop} {T:Array Value} {d:List Deferred} {w:World} (n:Nat) (S:List Nat) (V:List (Option Value)) (Core:(Nat->Bool)->(Nat->Value)->World->Prop) (hm:P.follows .mixedOrders=true) (hn:l.toArray.size=n) (hS:S.Nodup) (nD:S.length=n) (hB:jk l.toArray n=true) (hQ:¬ LetsOut Q) (hd:ri l.toArray=true)
  (h0:∀ x,Core (fun _=>false) x w.drew)
  (dG:∀ x W D i o s F,i<n->l.toArray[i]?=some o->S[i]?=some s->D i=false->x i=T[s]!->(∀ e∈o.after,Region.binds .any e=true->D e.on=true)->(∀ j c,j<n->D j=true->V.getD j none=some c->x j=c)->Core D x W->F=bg T S x →
   wpList P l.toArray (Exit.then (aR F d V Core D i s x) Q) [o] { tmps:=F,defers:=d } W)
  (fO:∀ x W D F,(∀ j,j<n->D j=true)->(∀ j c,j<n->V.getD j none=some c->x j=c)->Core D x W->F=bg T S x->Q .normal { tmps:=F,defers:=d } W) :
  (Code.region id l.toArray true).wpIn (Fence.wide.inRound yl) m P Q { tmps:=T,defers:=d } w:=
 wpIn_region_any hm (oT hd hQ _ _ _ _ (A9 n S V Core hn hS nD hB h0 dG fO))
end Go.Proofs.YtkfgpnbpcpdclaaGreat
namespace Go.Proofs.YtkfgpnbpcpdclaaGreat
open Go.RowKit Go Go.Shelf
theorem bT{F T:Array Value} {S:List Nat} {x:Nat->Value} (hF:F=bg T S x) (i k:Nat) {v:Value} (hS:S.Nodup) (hi:S[i]?=some k) (hT:Nat.ble (k+1) T.size=true) (hv:x i=v):F.getD k undef=v:=by
  rw[<-hv,hF];exact jF hS hi (Nat.le_of_ble_eq_true hT)
theorem eJ{F T:Array Value} {S:List Nat} {x:Nat->Value} {k:Nat} {v:Value} (hF:F=bg T S x) (hk:k∉S) (hv:T.getD k undef=v):F.getD k undef=v:=by
  rw[hF,fI hk];exact hv
theorem br{F:Array Value} {k:Nat} {v:Value} (h:F.getD k undef=v):F[k]?.getD undef=v:=by rw[<-h,Array.getD_eq_getD_getElem?]
theorem JE{P:Program} {l:List Oper} {Q:Exit->Act->World->Prop} {T:Array Value} {d:List Deferred} {w:World} (n:Nat) (S:List Nat) (V:List (Option Value)) (Core:(Nat->Bool)->(Nat->Value)->World->Prop) (hn:l.toArray.size=n) (hS:S.Nodup) (nD:S.length=n) (hB:jk l.toArray n=true)
  (h0:∀ x,Core (fun _=>false) x w.drew)
  (dG:∀ x W D i o s F,i<n->l.toArray[i]?=some o->S[i]?=some s->D i=false->(∀ j s',S[j]?=some s'->D j=false->x j=T[s']!)->(∀ j o',l.toArray[j]?=some o'->D j=true->∀ e∈o'.after,Region.binds .any e=true->D e.on=true)->(∀ e∈o.after,Region.binds .any e=true->D e.on=true)->(∀ j c,j<n->D j=true->V.getD j none=some c->x j=c)->Core D x W->F=bg T S x →
   wpList P l.toArray (Exit.then (aR F d V Core D i s x) Q) [o] { tmps:=F,defers:=d } W)
  (fO:∀ x W D F,(∀ j,j<n->D j=true)->(∀ j c,j<n->V.getD j none=some c->x j=c)->Core D x W->F=bg T S x->Q .normal { tmps:=F,defers:=d } W) :
  wpAny P .any l.toArray Q l.toArray.size (Array.replicate l.toArray.size false) { tmps:=T,defers:=d } w.drew:=by
 refine nO hn hB (fun D a W=>∃ x,a={ tmps:=bg T S x,defers:=d }/\(∀ j s,S[j]?=some s->D j=false->x j=T[s]!)/\(∀ j o',l.toArray[j]?=some o'->D j=true->∀ e∈o'.after,Region.binds .any e=true->D e.on=true)/\(∀ j c,j<n->D j=true->V.getD j none=some c->x j=c)/\Core D x W) ?_ ?_ _ _ _ _ (by rw[Array.size_replicate,hn]) ?_ ?_
 ·rintro D a W i o hi ho hD al ⟨x,rfl,bv,bW,hv,hc⟩
  obtain⟨s,hs⟩:∃ s,S[i]?=some s:=⟨S[i],List.getElem?_eq_getElem (by omega)⟩;refine dQ ?_ (iQ ho (dG x W D i o s _ hi ho hs hD bv bW al hv hc rfl));rintro a' W' ⟨v,rfl,oA,oJ⟩;refine⟨cF x i v,by rw[gZ T S hS x i s v hs],fun j sj qM hDj=>?_,fun j oj Wl hDj e he hb=>?_,fun j c hj hDj hV=>?_,oJ⟩
  ·by_cases e:j=i
   ·subst e;simp[bB]at hDj
   ·rw[gS _ _ e]
    exact bv j sj qM (by simpa[bB,e] using hDj)
  ·have CQ:D e.on=true:=by
    by_cases ej:j=i
    ·subst ej
     rw[ho]at Wl;cases Wl;exact al e he hb
    ·exact bW j oj Wl (by simpa[bB,ej] using hDj) e he hb
   unfold bB;split
   ·rfl
   ·exact CQ
  by_cases e:j=i
  ·subst e;rw[iG];exact oA c hV
  ·rw[gS _ _ e]
   exact hv j c hj (by simpa[bB,e] using hDj) hV
 ·rintro D a W aM ⟨x,rfl,_,_,hv,hc⟩
  exact fO x W D _ aM (fun j c hj hV=>hv j c hj (aM j hj) hV) hc rfl
 ·rw[hn];exact Nat.le_trans List.countP_le_length (by simp)
 ·refine⟨fun i=>T[S.getD i 0]!,?_,fun j s hs _=>by(show T[S.getD j 0]! = _;rw[List.getD_eq_getElem?_getD,hs];rfl),fun j o' _ h=>?_,fun j c hj h=>?_,?_⟩
  ·rw[hU T S hS]
   intro i s hi hs;rw[List.getD_eq_getElem?_getD,hi];rfl
  ·exfalso
   simp only[Array.getD]at h;split at h<;>simp at h
  ·exfalso
   simp only[Array.getD]at h;split at h<;>simp at h
  ·have:(fun j=>(Array.replicate l.toArray.size false).getD j false)=fun _=>false:=by
    funext j
    simp only[Array.getD];split<;>simp
   rw[this];exact h0 _
theorem Bc{P:Program} {id:Nat} {l:List Oper} {Q:Exit->Act->World->Prop} {T:Array Value} {d:List Deferred} {w:World} (n:Nat) (S:List Nat) (V:List (Option Value)) (Core:(Nat->Bool)->(Nat->Value)->World->Prop) (hm:P.follows .mixedOrders=true) (hn:l.toArray.size=n) (hS:S.Nodup) (nD:S.length=n) (hB:jk l.toArray n=true)
  (h0:∀ x,Core (fun _=>false) x w.drew)
  (dG:∀ x W D i o s F,i<n->l.toArray[i]?=some o->S[i]?=some s->D i=false->(∀ j s',S[j]?=some s'->D j=false->x j=T[s']!)->(∀ j o',l.toArray[j]?=some o'->D j=true->∀ e∈o'.after,Region.binds .any e=true->D e.on=true)->(∀ e∈o.after,Region.binds .any e=true->D e.on=true)->(∀ j c,j<n->D j=true->V.getD j none=some c->x j=c)->Core D x W->F=bg T S x →
   wpList P l.toArray (Exit.then (aR F d V Core D i s x) Q) [o] { tmps:=F,defers:=d } W)
  (fO:∀ x W D F,(∀ j,j<n->D j=true)->(∀ j c,j<n->V.getD j none=some c->x j=c)->Core D x W->F=bg T S x->Q .normal { tmps:=F,defers:=d } W) :
  (Code.region id l.toArray true).wp P Q { tmps:=T,defers:=d } w:=
 wp_region_any hm (JE n S V Core hn hS nD hB h0 dG fO)
theorem Ee{ops:Array Oper} {t j:Nat} (h:Region.waitsFor .any ops t j=true) {o:Oper} (ho:ops[t]?=some o):∃ e∈o.after,Region.binds .any e=true/\e.on=j:=by
 unfold Region.waitsFor at h;rw[ho]at h;obtain⟨e,he,h2⟩:=Array.any_eq_true'.1 h;simp at h2;exact⟨e,he,by grind⟩
theorem wO{P:Program} {l:List Oper} {Q:Exit->Act->World->Prop} {i:Nat} {a:Act} {w:World} (hi:i<l.length) (h:wpList P l.toArray Q (l.drop i) a w):wpOp P l.toArray Q i (fun a' w'=>wpList P l.toArray Q (l.drop (i+1)) a' w') a w:=by
 rw[List.drop_eq_getElem_cons hi]at h;unfold wpList at h;unfold wpOp;rw[show l.toArray[i]?=some l[i] by simp[hi]];exact h
theorem oU{P:Program} {l:List Oper} {Q:Exit->Act->World->Prop} (n:Nat) (hn:n<l.length) (hB:jk l.toArray l.length=true) (hs:Region.sinkB .any l.toArray n=true) (hc:Region.chainB .any l.toArray n=true) (Inv:(Nat->Bool)->Act->World->Prop)
  (dG:∀ D a w i o,i<n->l.toArray[i]?=some o->D i=false->(∀ j o',l.toArray[j]?=some o'->D j=true->∀ e∈o'.after,Region.binds .any e=true->D e.on=true)->(∀ e∈o.after,Region.binds .any e=true->D e.on=true)->Inv D a w->wpOp P l.toArray Q i (fun a' w'=>Inv (bB D i) a' w') a w)
  (htail:∀ D a w,(∀ j,j<n->D j=true)->Inv D a w->wpList P l.toArray Q (l.drop n) a w) {a:Act} {w:World} (h0:Inv (fun _=>false) a w) :
  wpAny P .any l.toArray Q l.toArray.size (Array.replicate l.toArray.size false) a w:=by
 have dM:l.toArray.size=l.length:=by simp
 refine nO (n:=l.length) dM hB (fun D a W=>(∀ j o',l.toArray[j]?=some o'->D j=true->∀ e∈o'.after,Region.binds .any e=true->D e.on=true) ∧
  (((∀ t,n<=t->D t=false)/\Inv D a W)\/∃ k,n<k/\(∀ j,j<k->D j=true)/\(∀ t,k<=t->D t=false)/\wpList P l.toArray Q (l.drop k) a W)) ?_ ?_ _ _ _ _ (by simp) (by simp only[Array.size_replicate,dM];exact Nat.le_trans List.countP_le_length (by simp)) ?_
 ·rintro D a W i o hi ho hD al ⟨bW,Wu⟩
  have R2:∀ j o',l.toArray[j]?=some o'->bB D i j=true->∀ e∈o'.after,Region.binds .any e=true->bB D i e.on=true:=by
   intro j o' xO hj e he hb;unfold bB at hj ⊢;by_cases h1:e.on=i
   ·simp[h1]
   ·rw[if_neg h1]
    by_cases h2:j=i
    ·subst h2
     rw[ho]at xO;cases xO;exact al e he hb
    ·rw[if_neg h2]at hj
     exact bW j o' xO hj e he hb
  have hchain:∀ t o',n<t->l.toArray[t]?=some o'->∃ e∈o'.after,Region.binds .any e=true/\e.on=t - 1:=by
   intro t o' ht xO;have Tb:t<l.toArray.size:=(Array.getElem?_eq_some_iff.1 xO).1;unfold Region.chainB at hc;have:=List.all_eq_true.1 hc t (List.mem_range.2 Tb);simp only[Bool.or_eq_true,decide_eq_true_eq]at this;rcases this with h|h
   ·omega
   ·exact Ee h xO
  rcases Wu with ⟨ht,aO⟩|⟨k,hk,aM,Jh,hl⟩
  ·by_cases cK:i<n
   ·refine dQ (fun a' w' h=>⟨R2,.inl ⟨fun t htn=>?_,h⟩⟩) (dG D a W i o cK ho hD bW al aO)
    unfold bB;rw[if_neg (by omega)];exact ht t htn
   ·have hin':i=n:=by
     by_cases e:i=n
     ·exact e
     ·exfalso
      obtain⟨e1,IH,aG,h1⟩:=hchain i o (by omega) ho;have h2:=al e1 IH aG;rw[h1,ht _ (by omega)]at h2;cases h2
    subst hin'
    have hallj:∀ d j,j<i->i - j<=d->D j=true:=by
     intro d;induction d with
     | zero=>intro j hj hd;omega
     | succ d ih=>
      intro j hj hd;unfold Region.sinkB at hs;have:=List.all_eq_true.1 hs j (List.mem_range.2 hj);obtain⟨j',xL,h3⟩:=List.any_eq_true.1 this;simp only[Bool.and_eq_true,decide_eq_true_eq]at h3;have hj'':=List.mem_range.1 xL;obtain⟨o',xO⟩:∃ o',l.toArray[j']?=some o':=⟨l.toArray[j']'(by omega),Array.getElem?_eq_getElem _⟩;obtain⟨e1,IH,aG,h1⟩:=Ee h3.2 xO;by_cases e:j'=i
      ·subst e
       rw[ho]at xO;cases xO;have:=al e1 IH aG
       rwa [h1]at this
      ·have:=bW j' o' xO (ih j' (by omega) (by omega)) e1 IH aG
       rwa [h1]at this
    have hallj':∀ j,j<i->D j=true:=fun j hj=>hallj (i - j) j hj (Nat.le_refl _)
    refine dQ (fun a' w' h=>⟨R2,.inr ⟨i+1,by omega,fun j hj=>?_,fun t htn=>?_,h⟩⟩) (wO hn (htail D a W hallj' aO))
    ·unfold bB
     split
     ·rfl
     ·exact hallj' j (by omega)
    ·unfold bB
     rw[if_neg (by omega)];exact ht t (by omega)
  ·have oO:i=k:=by
    by_cases e:i=k
    ·exact e
    ·exfalso
     have:k<=i:=by
      by_cases h:i<k
      ·rw[aM i h]at hD;cases hD
      ·omega
     obtain⟨e1,IH,aG,h1⟩:=hchain i o (by omega) ho;have h2:=al e1 IH aG;rw[h1,Jh _ (by omega)]at h2;cases h2
   subst oO;refine dQ (fun a' w' h=>⟨R2,.inr ⟨i+1,by omega,fun j hj=>?_,fun t htn=>?_,h⟩⟩) (wO hi hl)
   ·unfold bB
    split
    ·rfl
    ·exact aM j (by omega)
   ·unfold bB
    rw[if_neg (by omega)];exact Jh t (by omega)
 ·rintro D a W aM ⟨bW,Wu⟩
  rcases Wu with ⟨ht,_⟩|⟨k,hk,_,Jh,hl⟩
  ·have:=aM n hn
   rw[ht n (Nat.le_refl _)]at this;cases this
  ·have wi:l.length<=k:=by
    by_cases h:k<l.length
    ·have:=aM k h
     rw[Jh k (Nat.le_refl _)]at this;cases this
    ·omega
   rw[List.drop_of_length_le wi]at hl;exact hl
 ·have hf:(fun j=>(Array.replicate l.toArray.size false).getD j false)=fun _=>false:=by
   funext j
   simp only[Array.getD];split<;>simp
  rw[hf];exact⟨fun j o' _ h=>(by cases h),.inl ⟨fun _ _=>rfl,h0⟩⟩
theorem ip{P:Program} {id:Nat} {l:List Oper} {Q:Exit->Act->World->Prop} {T:Array Value} {d:List Deferred} {w:World} (n:Nat) (S:List Nat) (Rs:List MP) (hm:P.follows .mixedOrders=true) (hn:n<l.length) (hS:S.Nodup) (nD:S.length=n)
  (hB:jk l.toArray l.length=true) (hs:Region.sinkB .any l.toArray n=true) (hc:Region.chainB .any l.toArray n=true)
  (dG:∀ x W i o s F,i<n->l.toArray[i]?=some o->S[i]?=some s->Below w.heap.size w W->(∀ e∈o.after,Region.binds .any e=true->(Rs.getD e.on MP.any).p (x e.on) W)->F=bg T S x →
   wpList P l.toArray (Exit.then (aY F d (Rs.getD i MP.any) s W) Q) [o] { tmps:=F,defers:=d } W)
  (Mr:∀ x W F,Below w.heap.size w W->(∀ j,j<n->(Rs.getD j MP.any).p (x j) W)->F=bg T S x->wpList P l.toArray Q (l.drop n) { tmps:=F,defers:=d } W) :
  (Code.region id l.toArray true).wp P Q { tmps:=T,defers:=d } w:=by
 refine wp_region_any hm (oU n hn hB hs hc (fun D a W=>∃ x,a={ tmps:=bg T S x,defers:=d }/\Below w.heap.size w W/\∀ j,j<n->D j=true->(Rs.getD j MP.any).p (x j) W) ?_ ?_ ?_)
 ·rintro D a W i o hi ho hD bW al ⟨x,rfl,hb,hx⟩
  obtain⟨s,wj⟩:∃ s,S[i]?=some s:=⟨S[i],List.getElem?_eq_getElem (by omega)⟩;refine dQ ?_ (iQ ho (dG x W i o s _ hi ho wj hb (fun e he uq=>hx e.on (by have:=sQ hB (by omega) ho e he uq;omega) (al e he uq)) rfl));rintro a' W' ⟨v,rfl,eS,hr⟩;refine⟨cF x i v,by rw[gZ T S hS x i s v wj],aj hb eS,fun j hj hDj=>?_⟩;by_cases e:j=i
  ·subst e;rw[iG];exact hr
  ·rw[gS _ _ e]
   refine(Rs.getD j MP.any).up _ _ _ (hx j hj ?_) eS;simpa[bB,e] using hDj
 ·rintro D a W aM ⟨x,rfl,hb,hx⟩
  exact Mr x W _ hb (fun j hj=>hx j hj (aM j hj)) rfl
 ·refine⟨fun i=>T[S.getD i 0]!,?_,(Below.refl _ _).drew,fun j _ h=>by cases h⟩
  rw[hU T S hS];intro i s hi hs;rw[List.getD_eq_getElem?_getD,hi];rfl
theorem m'{P:Program} {id:Nat} {l:List Oper} {Q:Exit->Act->World->Prop} {T:Array Value} {d:List Deferred} {w:World} (n:Nat) (S:List Nat) (V:List (Option Value)) (Core:(Nat->Bool)->(Nat->Value)->World->Prop) (hm:P.follows .mixedOrders=true) (hn:decide (n<l.length)=true) (hS:S.Nodup) (nD:S.length=n)
  (hB:jk l.toArray l.length=true) (hs:Region.sinkB .any l.toArray n=true) (hc:Region.chainB .any l.toArray n=true)
  (h0:∀ x,Core (fun _=>false) x w.drew)
  (dG:∀ x W D i o s F,i<n->l.toArray[i]?=some o->S[i]?=some s->D i=false->(∀ j s',S[j]?=some s'->D j=false->x j=T[s']!)->(∀ j o',l.toArray[j]?=some o'->D j=true->∀ e∈o'.after,Region.binds .any e=true->D e.on=true)->(∀ e∈o.after,Region.binds .any e=true->D e.on=true)->(∀ j c,j<n->D j=true->V.getD j none=some c->x j=c)->Core D x W->F=bg T S x →
   wpList P l.toArray (Exit.then (aR F d V Core D i s x) Q) [o] { tmps:=F,defers:=d } W)
  (fO:∀ x W D F,(∀ j,j<n->D j=true)->(∀ j c,j<n->V.getD j none=some c->x j=c)->Core D x W->F=bg T S x->wpList P l.toArray Q (l.drop n) { tmps:=F,defers:=d } W) :
  (Code.region id l.toArray true).wp P Q { tmps:=T,defers:=d } w:=by
 have wz:n<l.length:=by simpa using hn
 refine wp_region_any hm (oU n wz hB hs hc (fun D a W=>∃ x,a={ tmps:=bg T S x,defers:=d }/\(∀ j s,S[j]?=some s->D j=false->x j=T[s]!)/\(∀ j c,j<n->D j=true->V.getD j none=some c->x j=c)/\Core D x W) ?_ ?_ ?_)
 ·rintro D a W i o hi ho hD bW al ⟨x,rfl,bv,hv,qF⟩
  obtain⟨s,wj⟩:∃ s,S[i]?=some s:=⟨S[i],List.getElem?_eq_getElem (by omega)⟩;refine dQ ?_ (iQ ho (dG x W D i o s _ hi ho wj hD bv bW al hv qF rfl));rintro a' W' ⟨v,rfl,oA,oJ⟩;refine⟨cF x i v,by rw[gZ T S hS x i s v wj],fun j sj qM hDj=>?_,fun j c hj hDj hV=>?_,oJ⟩
  ·by_cases e:j=i
   ·subst e;simp[bB]at hDj
   ·rw[gS _ _ e]
    exact bv j sj qM (by simpa[bB,e] using hDj)
  ·by_cases e:j=i
   ·subst e;rw[iG];exact oA c hV
   ·rw[gS _ _ e]
    exact hv j c hj (by simpa[bB,e] using hDj) hV
 ·rintro D a W aM ⟨x,rfl,_,hv,qF⟩
  exact fO x W D _ aM (fun j c hj hV=>hv j c hj (aM j hj) hV) qF rfl
 ·refine⟨fun i=>T[S.getD i 0]!,?_,fun j s qM _=>by(show T[S.getD j 0]! = _;rw[List.getD_eq_getElem?_getD,qM];rfl),fun j c _ h=>(by cases h),h0 _⟩
  rw[hU T S hS];intro i s hi dM;rw[List.getD_eq_getElem?_getD,hi];rfl
theorem wF{P:Program} {yl nn:Nat} {id:Nat} {l:List Oper} {Q:Exit->Act->World->Prop} {T:Array Value} {d:List Deferred} {w:World} (n:Nat) (S:List Nat) (V:List (Option Value)) (Core:(Nat->Bool)->(Nat->Value)->World->Prop) (hm:P.follows .mixedOrders=true) (hn:decide (n<l.length)=true) (hS:S.Nodup) (nD:S.length=n)
  (hB:jk l.toArray l.length=true) (hs:Region.sinkB .any l.toArray n=true) (hc:Region.chainB .any l.toArray n=true) (hQ:¬ LetsOut Q) (hd:ri l.toArray=true)
  (h0:∀ x,Core (fun _=>false) x w.drew)
  (dG:∀ x W D i o s F,i<n->l.toArray[i]?=some o->S[i]?=some s->D i=false->(∀ j s',S[j]?=some s'->D j=false->x j=T[s']!)->(∀ j o',l.toArray[j]?=some o'->D j=true->∀ e∈o'.after,Region.binds .any e=true->D e.on=true)->(∀ e∈o.after,Region.binds .any e=true->D e.on=true)->(∀ j c,j<n->D j=true->V.getD j none=some c->x j=c)->Core D x W->F=bg T S x →
   wpList P l.toArray (Exit.then (aR F d V Core D i s x) Q) [o] { tmps:=F,defers:=d } W)
  (fO:∀ x W D F,(∀ j,j<n->D j=true)->(∀ j c,j<n->V.getD j none=some c->x j=c)->Core D x W->F=bg T S x->wpList P l.toArray Q (l.drop n) { tmps:=F,defers:=d } W) :
  (Code.region id l.toArray true).wpIn (Fence.wide.inRound yl) nn P Q { tmps:=T,defers:=d } w:=by
 have wz:n<l.length:=by simpa using hn
 refine wpIn_region_any hm (oT hd hQ _ _ _ _ (oU n wz hB hs hc (fun D a W=>∃ x,a={ tmps:=bg T S x,defers:=d }/\(∀ j s,S[j]?=some s->D j=false->x j=T[s]!)/\(∀ j c,j<n->D j=true->V.getD j none=some c->x j=c)/\Core D x W) ?_ ?_ ?_))
 ·rintro D a W i o hi ho hD bW al ⟨x,rfl,bv,hv,qF⟩
  obtain⟨s,wj⟩:∃ s,S[i]?=some s:=⟨S[i],List.getElem?_eq_getElem (by omega)⟩;refine dQ ?_ (iQ ho (dG x W D i o s _ hi ho wj hD bv bW al hv qF rfl));rintro a' W' ⟨v,rfl,oA,oJ⟩;refine⟨cF x i v,by rw[gZ T S hS x i s v wj],fun j sj qM hDj=>?_,fun j c hj hDj hV=>?_,oJ⟩
  ·by_cases e:j=i
   ·subst e;simp[bB]at hDj
   ·rw[gS _ _ e]
    exact bv j sj qM (by simpa[bB,e] using hDj)
  ·by_cases e:j=i
   ·subst e;rw[iG];exact oA c hV
   ·rw[gS _ _ e]
    exact hv j c hj (by simpa[bB,e] using hDj) hV
 ·rintro D a W aM ⟨x,rfl,_,hv,qF⟩
  exact fO x W D _ aM (fun j c hj hV=>hv j c hj (aM j hj) hV) qF rfl
 ·refine⟨fun i=>T[S.getD i 0]!,?_,fun j s qM _=>by(show T[S.getD j 0]! = _;rw[List.getD_eq_getElem?_getD,qM];rfl),fun j c _ h=>(by cases h),h0 _⟩
  rw[hU T S hS];intro i s hi dM;rw[List.getD_eq_getElem?_getD,hi];rfl
theorem ba{F T:Array Value} {S:List Nat} {x:Nat->Value} (hF:F=bg T S x) (i k:Nat) (v:Value) (hS:S.Nodup) (hi:S[i]?=some k) (hT:decide (k<T.size)=true) (hv:x i=v):F.getD k undef=v/\F[k]?.getD undef=v:=by
 have h:F.getD k undef=v:=by rw[hF,jF hS hi (of_decide_eq_true hT)];exact hv
 exact⟨h,by rw[<-h,Array.getD_eq_getD_getElem?]⟩
theorem gN{F T:Array Value} {S:List Nat} {x:Nat->Value} (hF:F=bg T S x) (k:Nat) (v:Value) (hk:k∉S) (hv:T.getD k undef=v):F.getD k undef=v/\F[k]?.getD undef=v:=by
 have h:F.getD k undef=v:=by rw[hF,fI hk];exact hv
 exact⟨h,by rw[<-h,Array.getD_eq_getD_getElem?]⟩
theorem cY{F T:Array Value} {S:List Nat} {x:Nat->Value} (hF:F=bg T S x) (i k:Nat) (v:Value) (hS:S.Nodup) (hi:S[i]?=some k) (hT:decide (k<T.size)=true) (hv:x i=v):F[k]?=some v:=by
 rw[<-hv,hF,bg,nN _ _ hS _ _ _ _ hi (of_decide_eq_true hT),Nat.zero_add]
theorem lV{P:Program} {id:Nat} {l:List Oper} {Q:Exit->Act->World->Prop} {T:Array Value} {d:List Deferred} {w:World} (n:Nat) (S:List Nat) (Rs:List MP) (hm:P.follows .mixedOrders=true) (hn:l.toArray.size=n) (hS:S.Nodup) (nD:S.length=n) (hB:jk l.toArray n=true)
  (dG:∀ x W i o s F,i<n->l.toArray[i]?=some o->S[i]?=some s->Below w.heap.size w W->(∀ e∈o.after,Region.binds .any e=true->(Rs.getD e.on MP.any).p (x e.on) W)->F=bg T S x →
   wpList P l.toArray (Exit.then (aY F d (Rs.getD i MP.any) s W) Q) [o] { tmps:=F,defers:=d } W)
  (fO:∀ x W F,Below w.heap.size w W->(∀ j,j<n->(Rs.getD j MP.any).p (x j) W)->F=bg T S x->Q .normal { tmps:=F,defers:=d } W) :
  (Code.region id l.toArray true).wp P Q { tmps:=T,defers:=d } w:=by
 refine wp_region_any hm ?_;refine nO hn hB (fun D a W=>∃ x,a={ tmps:=bg T S x,defers:=d }/\Below w.heap.size w W/\∀ j,j<n->D j=true->(Rs.getD j MP.any).p (x j) W) ?_ ?_ _ _ _ _ (by rw[Array.size_replicate,hn]) ?_ ?_
 ·rintro D a W i o hi ho hD al ⟨x,rfl,hb,hx⟩
  obtain⟨s,hs⟩:∃ s,S[i]?=some s:=⟨S[i],List.getElem?_eq_getElem (by omega)⟩;refine dQ ?_ (iQ ho (dG x W i o s _ hi ho hs hb (fun e he uq=>hx e.on (by have:=sQ hB hi ho e he uq;omega) (al e he uq)) rfl));rintro a' W' ⟨v,rfl,eS,hr⟩;refine⟨cF x i v,by rw[gZ T S hS x i s v hs],aj hb eS,fun j hj hDj=>?_⟩;by_cases e:j=i
  ·subst e;rw[iG];exact hr
  ·rw[gS _ _ e]
   refine(Rs.getD j MP.any).up _ _ _ (hx j hj ?_) eS;simpa[bB,e] using hDj
 ·rintro D a W aM ⟨x,rfl,hb,hx⟩
  exact fO x W _ hb (fun j hj=>hx j hj (aM j hj)) rfl
 ·rw[hn];exact Nat.le_trans List.countP_le_length (by simp)
 ·refine⟨fun i=>T[S.getD i 0]!,?_,(Below.refl _ _).drew,fun j hj h=>?_⟩
  ·rw[hU T S hS]
   intro i s hi hs;rw[List.getD_eq_getElem?_getD,hi];rfl
  ·exfalso
   simp only[Array.getD]at h;split at h<;>simp at h
abbrev St.v(s:St):Value:=.agg #[.int .i64 s.rd,.int .i64 s.pr,.int .i64 s.h0,.int .i64 s.h1,.int .i64 s.h2,.int .i64 s.h3,.int .i64 s.h4,.int .i64 s.to]
abbrev St.c(s:St):Array Value:=#[.int .i64 s.rd,.int .i64 s.pr,.int .i64 s.h0,.int .i64 s.h1,.int .i64 s.h2,.int .i64 s.h3,.int .i64 s.h4,.int .i64 s.to]
def St.In(s:St):Prop:=bK s.rd/\bK s.pr/\bK s.h0/\bK s.h1/\bK s.h2/\bK s.h3/\bK s.h4/\bK s.to
theorem T5(v:Value) (l:List Int) (w:World) (hv:aU w v l) :
  Calls Tryz.prog 131 #[v] w fun e w'=>e=.returned (.int .i64 (M6 l))/\Below w.heap.size w w':=by
 obtain⟨pa,ca,rfl,la1,la2,ea⟩:=hv.at;clear hv;have EA:=aa ea;clear ea;have HD:Hid (M6 l=aP l.length fun i=>l.getD i 0):=by exact rfl
 go_enter Tryz.func131,Tryz.ntmps131
 go_wp2
 go_loop [8] (fun i=>∃ k:Nat,k<=l.length/\i=.int .i64 k/\∀ j,j<k->l.getD j 0=0) (fun i=>l.length - (intOf i).toNat)
 case atStart=>exact⟨0,by omega,rfl,by simp⟩
 case round=>
  obtain⟨k,hk,rfl,aO⟩:=hrel;have H:=aa aO;clear aO;by_cases aF:k<l.length
  ·obtain⟨b1,o1,rfl,h1⟩:=EA.out k aF
   rw[Nat.mul_one]at h1;have c1:=h1.1;have HG:=aa (aA 0 aF);clear h1;generalize l[k]=x at c1 HG;by_cases hx:x=0
   ·have dx:(x != 0)=false:=by simpa using hx
    have HX:=aa hx;clear hx
    go_wp2
    go_round
    case rel=>exact⟨k+1,by omega,by go_num,aQ H.out (by rw[HG.out];exact HX.out)⟩
    case measure=>simp[intOf];omega
   ·have dx:(x != 0)=true:=by simpa using hx
    have HX:=aa hx;clear hx
    go_wp2
    go_ret
    exact⟨aC (by rw[HD.out];exact bh k _ aF H.out HG.out HX.out),Below.refl _ _⟩
  ·go_wp2
   go_ret
   exact⟨aC (by rw[HD.out,cp];intro j hj;exact H.out j (by omega)),Below.refl _ _⟩
theorem Kc(a b:Int):bK (cmpI a b):=by unfold cmpI bK;grind
theorem To(a b:List Int):bK (ordV a b):=by
 have h:ordV a b=-1\/ordV a b=0\/ordV a b=1:=by
  induction a generalizing b with
  | nil=>cases b<;>simp[ordV]
  | cons x t ih=>
   cases b with
   | nil=>simp[ordV]
   | cons y u=>
    have:=ih u;unfold ordV
    grind
 unfold bK;omega
theorem WD{w:World} {b:Nat} {x y z:Int} {t:TypeId} (h:w.heap[b]?=some (.cells #[.int .i64 x,.int .i64 y,.int .i64 z] t)) (hx:bK x) (hy:bK y) (hz:bK z):aU w (.slice (some ⟨b,0,none⟩) 3 3) [x,y,z]:=
 ⟨_,3,rfl,⟨by simp,by omega,fun e=>by cases e⟩,by simp,fun i v hv=>⟨b,0,rfl,by
  match i,hv with
  | 0,hv=>cases hv;exact⟨by rw[ae h];rfl,hx⟩
  | 1,hv=>cases hv;exact⟨by rw[ae h];rfl,hy⟩
  | 2,hv=>cases hv;exact⟨by rw[ae h];rfl,hz⟩⟩⟩
theorem uG{w:World} {b:Nat} {s:St} {t:TypeId} (h:w.heap[b]?=some (.cells s.c t)) (hi:s.In):aU w (.slice (some ⟨b,2,none⟩) 5 5) s.heard:=
 ⟨_,5,rfl,⟨by simp[St.heard],by omega,fun e=>by cases e⟩,by simp[St.heard],fun i v hv=>⟨b,2,rfl,by
  obtain⟨_,_,i0,i1,i2,i3,i4,_⟩:=hi
  match i,hv with
  | 0,hv=>cases hv;exact⟨by rw[ae h];rfl,i0⟩
  | 1,hv=>cases hv;exact⟨by rw[ae h];rfl,i1⟩
  | 2,hv=>cases hv;exact⟨by rw[ae h];rfl,i2⟩
  | 3,hv=>cases hv;exact⟨by rw[ae h];rfl,i3⟩
  | 4,hv=>cases hv;exact⟨by rw[ae h];rfl,i4⟩⟩⟩
theorem Na(ya yb:St) (ha:ya.In) (hb:yb.In) (w:World) :
  Calls Tryz.prog 94 #[ya.v,yb.v] w fun e w'=>e=.returned (.int .i64 (orderI ya yb))/\Below w.heap.size w w':=by
 have UI:=aa ha;have UZ:=aa hb;clear ha hb
 go_enter Tryz.func94,Tryz.ntmps94
 go_wp2_with fail
 refine bw (fun W1=>Below w.heap.size w W1/\W1.heap[w.heap.size]?=some (.cells ya.c 100)/\W1.heap[w.heap.size+1]?=some (.cells yb.c 100))
  ⟨by go_grown,aq _ (ar _ _),by simpa using ar (w.alloc _) _⟩ (fun W1 fR=>?_)
 obtain⟨aG,hA,kg⟩:=fR;have HA:=aa hA;have HB:=aa kg;clear hA kg;have hS:List.Nodup [5,6,7,8,9,10,11,12,13,14,15,16,17,18,19,20,21,4]:=by decide
 refine lV 18 [5,6,7,8,9,10,11,12,13,14,15,16,17,18,19,20,21,4] [MP.eq (.pointer (some ⟨w.heap.size,0,none⟩)),MP.eq (.int .i64 ya.rd),MP.eq (.pointer (some ⟨w.heap.size+1,0,none⟩)),MP.eq (.int .i64 yb.rd),MP.eq (.int .i64 (cmpI ya.rd yb.rd)),MP.eq (.pointer (some ⟨w.heap.size,1,none⟩)),MP.eq (.int .i64 ya.pr),MP.eq (.pointer (some ⟨w.heap.size+1,1,none⟩)),MP.eq (.int .i64 yb.pr),MP.eq (.int .i64 (cmpI ya.pr yb.pr)),MP.eq (.pointer (some ⟨w.heap.size,2,none⟩)),MP.eq (.slice (some ⟨w.heap.size,2,none⟩) 5 5),MP.eq (.pointer (some ⟨w.heap.size+1,2,none⟩)),MP.eq (.slice (some ⟨w.heap.size+1,2,none⟩) 5 5),MP.eq (.int .i64 (ordV ya.heard yb.heard)),MP.sl W1.heap.size 3 #[.int .i64 (cmpI ya.rd yb.rd),.int .i64 (cmpI ya.pr yb.pr),.int .i64 (ordV ya.heard yb.heard)] 3,MP.eq (.int .i64 (orderI ya yb)),MP.eq (.int .i64 (orderI ya yb))] (by kernel_rfl) rfl hS rfl (by kernel_rfl) ?step ?tail
 case step=>
  intro x W i o s F hi ho hs hB al hF;rcases (show i=0\/i=1\/i=2\/i=3\/i=4\/i=5\/i=6\/i=7\/i=8\/i=9\/i=10\/i=11\/i=12\/i=13\/i=14\/i=15\/i=16\/i=17 by omega) with rfl|rfl|rfl|rfl|rfl|rfl|rfl|rfl|rfl|rfl|rfl|rfl|rfl|rfl|rfl|rfl|rfl|rfl
  all_goals (obtain rfl:=cO ho.symm;obtain rfl:=cO hs.symm;clear hi ho hs)
  ·obtain⟨g2,h2⟩:=gN hF 2 (.pointer (some ⟨w.heap.size,0,none⟩)) (by decide) rfl
   clear hF al
   go_wp2_with fail
   exact aY.mk (.pointer (some ⟨w.heap.size,0,none⟩)) (Below.refl _ _) rfl rfl
  ·obtain⟨e0,f0⟩:=ba hF 0 5 (.pointer (some ⟨w.heap.size,0,none⟩)) hS rfl (by kernel_rfl) (al ⟨0,.data⟩ (by simp) rfl)
   have t2:=ae (ak hB HA.out);clear hF al
   go_wp2_with fail
   exact aY.mk (.int .i64 ya.rd) (Below.refl _ _) rfl rfl
  ·obtain⟨g3,h3⟩:=gN hF 3 (.pointer (some ⟨w.heap.size+1,0,none⟩)) (by decide) rfl
   clear hF al
   go_wp2_with fail
   exact aY.mk (.pointer (some ⟨w.heap.size+1,0,none⟩)) (Below.refl _ _) rfl rfl
  ·obtain⟨e2,f2⟩:=ba hF 2 7 (.pointer (some ⟨w.heap.size+1,0,none⟩)) hS rfl (by kernel_rfl) (al ⟨2,.data⟩ (by simp) rfl)
   have t2:=ae (ak hB HB.out);clear hF al
   go_wp2_with fail
   exact aY.mk (.int .i64 yb.rd) (Below.refl _ _) rfl rfl
  ·obtain⟨e1,f1⟩:=ba hF 1 6 (.int .i64 ya.rd) hS rfl (by kernel_rfl) (al ⟨1,.data⟩ (by simp) rfl)
   obtain⟨e3,f3⟩:=ba hF 3 8 (.int .i64 yb.rd) hS rfl (by kernel_rfl) (al ⟨3,.data⟩ (by simp) rfl);clear hF al
   go_wp2_with fail
   refine(lS _ _ _).mono ?_;rintro e w9 ⟨rfl,rfl⟩
   go_wp2_with fail
   exact aY.mk (.int .i64 (cmpI ya.rd yb.rd)) (Below.refl _ _) rfl rfl
  ·obtain⟨g2,h2⟩:=gN hF 2 (.pointer (some ⟨w.heap.size,0,none⟩)) (by decide) rfl
   clear hF al
   go_wp2_with fail
   exact aY.mk (.pointer (some ⟨w.heap.size,1,none⟩)) (Below.refl _ _) rfl rfl
  ·obtain⟨e5,f5⟩:=ba hF 5 10 (.pointer (some ⟨w.heap.size,1,none⟩)) hS rfl (by kernel_rfl) (al ⟨5,.data⟩ (by simp) rfl)
   have t2:=ae (ak hB HA.out);clear hF al
   go_wp2_with fail
   exact aY.mk (.int .i64 ya.pr) (Below.refl _ _) rfl rfl
  ·obtain⟨g3,h3⟩:=gN hF 3 (.pointer (some ⟨w.heap.size+1,0,none⟩)) (by decide) rfl
   clear hF al
   go_wp2_with fail
   exact aY.mk (.pointer (some ⟨w.heap.size+1,1,none⟩)) (Below.refl _ _) rfl rfl
  ·obtain⟨e7,f7⟩:=ba hF 7 12 (.pointer (some ⟨w.heap.size+1,1,none⟩)) hS rfl (by kernel_rfl) (al ⟨7,.data⟩ (by simp) rfl)
   have t2:=ae (ak hB HB.out);clear hF al
   go_wp2_with fail
   exact aY.mk (.int .i64 yb.pr) (Below.refl _ _) rfl rfl
  ·obtain⟨e6,f6⟩:=ba hF 6 11 (.int .i64 ya.pr) hS rfl (by kernel_rfl) (al ⟨6,.data⟩ (by simp) rfl)
   obtain⟨e8,f8⟩:=ba hF 8 13 (.int .i64 yb.pr) hS rfl (by kernel_rfl) (al ⟨8,.data⟩ (by simp) rfl);clear hF al
   go_wp2_with fail
   refine(lS _ _ _).mono ?_;rintro e w9 ⟨rfl,rfl⟩
   go_wp2_with fail
   exact aY.mk (.int .i64 (cmpI ya.pr yb.pr)) (Below.refl _ _) rfl rfl
  ·obtain⟨g2,h2⟩:=gN hF 2 (.pointer (some ⟨w.heap.size,0,none⟩)) (by decide) rfl
   clear hF al
   go_wp2_with fail
   exact aY.mk (.pointer (some ⟨w.heap.size,2,none⟩)) (Below.refl _ _) rfl rfl
  ·obtain⟨e10,f10⟩:=ba hF 10 15 (.pointer (some ⟨w.heap.size,2,none⟩)) hS rfl (by kernel_rfl) (al ⟨10,.data⟩ (by simp) rfl)
   clear hF al
   go_wp2_with fail
   exact aY.mk (.slice (some ⟨w.heap.size,2,none⟩) 5 5) (Below.refl _ _) rfl rfl
  ·obtain⟨g3,h3⟩:=gN hF 3 (.pointer (some ⟨w.heap.size+1,0,none⟩)) (by decide) rfl
   clear hF al
   go_wp2_with fail
   exact aY.mk (.pointer (some ⟨w.heap.size+1,2,none⟩)) (Below.refl _ _) rfl rfl
  ·obtain⟨e12,f12⟩:=ba hF 12 17 (.pointer (some ⟨w.heap.size+1,2,none⟩)) hS rfl (by kernel_rfl) (al ⟨12,.data⟩ (by simp) rfl)
   clear hF al
   go_wp2_with fail
   exact aY.mk (.slice (some ⟨w.heap.size+1,2,none⟩) 5 5) (Below.refl _ _) rfl rfl
  ·obtain⟨e11,f11⟩:=ba hF 11 16 (.slice (some ⟨w.heap.size,2,none⟩) 5 5) hS rfl (by kernel_rfl) (al ⟨11,.data⟩ (by simp) rfl)
   obtain⟨e13,f13⟩:=ba hF 13 18 (.slice (some ⟨w.heap.size+1,2,none⟩) 5 5) hS rfl (by kernel_rfl) (al ⟨13,.data⟩ (by simp) rfl);clear hF al
   go_wp2_with fail
   refine(jR _ _ _ _ W (uG (ak hB HA.out) UI.out) (uG (ak hB HB.out) UZ.out)).mono ?_;rintro e w9 ⟨rfl,eA⟩
   go_wp2_with fail
   exact aY.mk (.int .i64 (ordV ya.heard yb.heard)) eA rfl rfl
  ·obtain⟨e4,f4⟩:=ba hF 4 9 (.int .i64 (cmpI ya.rd yb.rd)) hS rfl (by kernel_rfl) (al ⟨4,.data⟩ (by simp) rfl)
   obtain⟨e9,f9⟩:=ba hF 9 14 (.int .i64 (cmpI ya.pr yb.pr)) hS rfl (by kernel_rfl) (al ⟨9,.data⟩ (by simp) rfl);obtain⟨e14,f14⟩:=ba hF 14 19 (.int .i64 (ordV ya.heard yb.heard)) hS rfl (by kernel_rfl) (al ⟨14,.data⟩ (by simp) rfl);clear hF al
   go_wp2_with fail
   exact aY.mk _ (by go_grown) ⟨_,rfl,hB.size,ar _ _⟩ rfl
  ·have d15:=al ⟨15,.data⟩ (by simp) rfl
   obtain⟨c0,q15,h0,h1⟩:=d15;obtain⟨e15,f15⟩:=ba hF 15 20 _ hS rfl (by kernel_rfl) q15;clear hF al
   go_wp2_with fail
   refine(T5 _ _ W (WD h1 (Kc _ _) (Kc _ _) (To _ _))).mono ?_;rintro e w9 ⟨rfl,eA⟩
   go_wp2_with fail
   exact aY.mk (.int .i64 (orderI ya yb)) eA rfl rfl
  ·obtain⟨e16,f16⟩:=ba hF 16 21 (.int .i64 (orderI ya yb)) hS rfl (by kernel_rfl) (al ⟨16,.data⟩ (by simp) rfl)
   clear hF al
   go_wp2_with fail
   exact aY.mk (.int .i64 (orderI ya yb)) (Below.refl _ _) rfl rfl
 case tail=>
  clear hS;intro x W F hB aM hF;have e17:=aM 17 (by omega);change x 17=_ at e17;clear aM;simp only[bg,bQ,List.setIfInBounds_toArray,List.set_cons_succ,List.set_cons_zero,Nat.reduceAdd]at hF;simp only[e17]at hF;generalize x 0=r0,x 1=r1,x 2=r2,x 3=r3,x 4=r4,x 5=r5,x 6=r6,x 7=r7,x 8=r8,x 9=r9,x 10=r10,x 11=r11,x 12=r12,x 13=r13,x 14=r14,x 15=r15,x 16=r16 at hF;subst hF
  go_wp2_with fail
  go_ret
  exact⟨rfl,aG.trans (hB.mono aG.size)⟩
theorem tJ(W0:World) (n lo hi:Int) (r:Bool) (h:inB n lo hi=r) (x:ExtW W0) :
  Calls Tryz.prog 89 #[.int .i64 n,.int .i64 lo,.int .i64 hi] x.val fun e w''=>e=.returned (.bool r)/\∃ p:ExtW W0,w''=p.val:=
 (pR n lo hi x.val).mono fun e w' ⟨he,hw⟩=>⟨by rw[he,h],x,hw.symm⟩
theorem oV{n lo hi:Int} (h:inB n lo hi=true):lo<=n/\n<=hi:=by
 unfold inB at h;simpa using h
theorem Bd{w:World} {b:Nat} {s:St} {t:TypeId} (h:w.heap[b]?=some (.cells s.c t)) (hi:s.In) (n:Nat) (hn:n<=5):aU w (.slice (some ⟨b,2+n,none⟩) (5 - n:Nat) (5 - n:Nat)) (s.heard.drop n):=by
 have hh:=uG h hi;obtain⟨a,cap,e,h1,h2,h3⟩:=hh;have hl:(s.heard.drop n).length=5 - n:=by simp[St.heard]
 refine⟨some ⟨b,2+n,none⟩,5 - n,by rw[hl],⟨by rw[hl];omega,by omega,fun e=>by cases e⟩,by rw[hl];omega,fun i x hx=>?_⟩;rw[List.getElem?_drop]at hx;obtain⟨b',off,ha,hr⟩:=h3 _ _ hx;simp at e;obtain⟨e1,_⟩:=e;rw[ha]at e1;simp at e1;obtain⟨rfl,rfl⟩:=e1;exact⟨b,2+n,rfl,by rw[show 2+n+i * 1=2+(n+i) * 1 by omega];exact hr⟩
theorem Lk(s:St) (q:Nat) (hq:q<5) (w:World) (B:Nat) (t:TypeId) (hw:w.heap[B]?=some (.cells s.c t)):w.cell? ⟨B,2+q,none⟩=some (.int .i64 (s.hear q)):=by
 have:q=0\/q=1\/q=2\/q=3\/q=4:=by omega
 rcases this with h|h|h|h|h<;>subst h<;>simp[World.cell?,hw,St.hear]
theorem Ll(s:St) (hs:s.In) (n:Nat) (hn:n<=5) (b:Nat):∃ pa:Addr,(∀ w,(Instr.sliceAt 48 (.pointer (some ⟨b,2,none⟩)) (some (.int .i64 n)) none none).run Tryz.prog w=.ok (.slice (some pa) (5 - n:Nat) (5 - n:Nat)) w) ∧
  ∀ (w:World) (t:TypeId),w.heap[b]?=some (.cells s.c t)->aU w (.slice (some pa) (5 - n:Nat) (5 - n:Nat)) (s.heard.drop n):=by
 by_cases h5:n=5
 ·subst h5
  refine⟨⟨b,2,none⟩,fun w=>?_,fun w t h=>?_⟩
  ·simp[go_sem]
  ·refine⟨some ⟨b,2,none⟩,0,by simp[St.heard],⟨by simp[St.heard],by omega,fun e=>by cases e⟩,by simp[St.heard],fun i x hx=>by simp[St.heard]at hx⟩
 ·refine⟨⟨b,2+n,none⟩,fun w=>?_,fun w t h=>Bd h hs n hn⟩
  have h6:¬ 5=n:=fun e=>h5 e.symm
  have h7:(n:Int)<=5:=by omega
  simp[go_sem,h6,h7,Addr.add]
theorem Qd(n:Nat) (hn:n<=5) (b:Nat) (w:World):(Instr.sliceAt 48 (.pointer (some ⟨b,2,none⟩)) none (some (.int .i64 n)) none).run Tryz.prog w=.ok (.slice (some ⟨b,2,none⟩) n 5) w:=by
 have h7:(n:Int)<=5:=by omega
 simp[go_sem,h7,Addr.add]
theorem Nb(s:St) (hs:s.In) (n:Nat) (hn:n<=5) (b:Nat) (t:TypeId) (w:World) (h:w.heap[b]?=some (.cells s.c t)) :
  Calls Tryz.prog 110 #[.slice (some ⟨b,2+n,none⟩) (5 - n:Nat) (5 - n:Nat),.int .i64 (-1),.int .i64 (-1)] w fun e w'=>e=.returned (.bool (allB (s.heard.drop n) (-1) (-1)))/\Below w.heap.size w w':=
 rh _ _ _ _ _ (Bd h hs n hn)
theorem Qe(m:Mac) (vf vy vt vo:Value) (s:St) (hs:s.In) (w:World) (hn:1<=m.n/\m.n<=5) (hr:0<=m.rounds/\m.rounds<=6) (h1:(m.out.length:Int)=m.rounds+1) (h2:∀ k (hk:k<m.out.length),(m.out[k].length:Int)=m.n) (ho:fj w vo m.out) :
  Calls Tryz.prog 93 #[.agg (bX m vf vy vt vo),s.v] w fun e w'=>e=.returned (.int .i64 (stepE m s))/\Below w.heap.size w w':=by
 obtain⟨po,co,rfl,lo1,lo2,eo⟩:=ho.at;clear ho;have EO:=aa eo;clear eo;have H2:=aa h2;clear h2;have IG:=aa hs;clear hs;obtain⟨IE,n9⟩:=hn;obtain⟨rO,zP⟩:=hr;have HD:Hid (stepE m s=if gF m s then 2 else if !allB (s.heard.drop m.n.toNat) (-1) (-1) then 3 else if anyLt m.n.toNat (jX m s) then 2 else 0):=by exact rfl
 have hb:Below w.heap.size w ((w.alloc (.cells (bX m vf vy vt (.slice po m.out.length co)) 35)).alloc (.cells s.c 100)):=by go_grown
 cases hA:inB s.rd 0 (m.rounds - 1) with
 | false=>
  have HB:Hid (gF m s=true):=by(have h:gF m s=true:=by(unfold gF;rw[hA];rfl));exact h
  go_enter Tryz.func93,Tryz.ntmps93
  go_wp2_with fail
  refine bw (fun W=>Below w.heap.size w W/\W.heap[w.heap.size]?=some (.cells (bX m vf vy vt (.slice po m.out.length co)) 35)/\W.heap[w.heap.size+1]?=some (.cells s.c 100)) ⟨hb,aq _ (ar _ _),by simpa using ar (w.alloc _) _⟩ (fun W0 bd=>?_);obtain⟨aH,hM,hS⟩:=bd;have zT:=aa (tJ W0 _ _ _ _ hA);have t1:∀ (x:ExtW W0) o,x.val.cell? ⟨w.heap.size,o,none⟩=_:=fun x o=>ae (ak x.ext hM) o
  have t2:∀ (x:ExtW W0) o,x.val.cell? ⟨w.heap.size+1,o,none⟩=_:=fun x o=>ae (ak x.ext hS) o
  clear hA hM hS;refine aK (by kernel_rfl) (by kernel_rfl) ?_
  repeat (go_big_quiet_step ((go_at_call 89;exact zT.out _)))
  refine wpQuiet_nil ?_;intro _ bV;obtain⟨xq,bC⟩:=bV;subst bC
  go_wp2_with fail
  go_ret
  exact⟨aC (by rw[HD.out,HB.out];rfl),aj aH xq.ext⟩
 | true=>
  cases hP:inB s.pr 0 (m.n - 1) with
  | false=>
   have HB:Hid (gF m s=true):=by(have h:gF m s=true:=by(unfold gF;rw[hA,hP];rfl));exact h
   go_enter Tryz.func93,Tryz.ntmps93
   go_wp2_with fail
   refine bw (fun W=>Below w.heap.size w W/\W.heap[w.heap.size]?=some (.cells (bX m vf vy vt (.slice po m.out.length co)) 35)/\W.heap[w.heap.size+1]?=some (.cells s.c 100)) ⟨hb,aq _ (ar _ _),by simpa using ar (w.alloc _) _⟩ (fun W0 bd=>?_);obtain⟨aH,hM,hS⟩:=bd;have zT:=aa (tJ W0 _ _ _ _ hA);have fA:=aa (tJ W0 _ _ _ _ hP);have t1:∀ (x:ExtW W0) o,x.val.cell? ⟨w.heap.size,o,none⟩=_:=fun x o=>ae (ak x.ext hM) o
   have t2:∀ (x:ExtW W0) o,x.val.cell? ⟨w.heap.size+1,o,none⟩=_:=fun x o=>ae (ak x.ext hS) o
   clear hA hP hM hS;refine aK (by kernel_rfl) (by kernel_rfl) ?_
   repeat (go_big_quiet_step ((go_at_call 89;first|with_reducible exact zT.out _|with_reducible exact fA.out _)))
   refine wpQuiet_nil ?_;intro _ bV;obtain⟨xq,bC⟩:=bV;subst bC
   go_wp2_with fail
   go_ret
   exact⟨aC (by rw[HD.out,HB.out];rfl),aj aH xq.ext⟩
  | true=>
   obtain⟨fk,zD⟩:=oV hA;obtain⟨Td,hP2⟩:=oV hP;obtain⟨srd,spr,sh0,sh1,sh2,sh3,sh4,sto⟩:=s;dsimp only at hA hP fk zD Td hP2;obtain⟨r,rfl⟩:∃ r:Nat,srd=r:=⟨srd.toNat,by omega⟩;obtain⟨p,rfl⟩:∃ p:Nat,spr=p:=⟨spr.toNat,by omega⟩;obtain⟨q,HQ⟩:∃ q:Nat,Hid (q=r+1):=⟨r+1,aa rfl⟩;have hq:q<m.out.length:=by have:=HQ.out;omega
   have PT:r<m.out.length:=by omega
   obtain⟨b1,o1,rfl,x,cx,hx⟩:=EO.out q hq;obtain⟨b1',o1',e1,z,cz,hz⟩:=EO.out r PT;obtain⟨rfl,rfl⟩:b1=b1'/\o1=o1':=by simpa using e1
   rw[Nat.mul_one]at cx cz;have xT:(m.out[q].length:Int)=m.n:=H2.out q hq;have UQ:(m.out[r].length:Int)=m.n:=H2.out r PT;obtain⟨px,qx,rfl,lx1,lx2,ex⟩:=hx.at;obtain⟨pz,qz,rfl,lz1,lz2,ez⟩:=hz.at;clear hx hz e1;have jQ:p<m.out[q].length:=by omega
   have vW:p<m.out[r].length:=by omega
   obtain⟨b2,o2,rfl,y,cy,hy⟩:=ex p jQ;obtain⟨b3,o3,rfl,u,cu,hu⟩:=ez p vW;rw[Nat.mul_one]at cy cu;obtain⟨py,qy,rfl,ly1,ly2,ey⟩:=hy.at;obtain⟨pu,qu,rfl,lu1,lu2,eu⟩:=hu.at;clear hy hu ex ez ey eu
   have ju:Hid (rk m ((r:Int)+1) p=(m.out[q][p].length:Int)):=by
    have h:rk m ((r:Int)+1) p=(m.out[q][p].length:Int):=by
     have hQ:=HQ.out;subst hQ;unfold rk;rw[show ((r:Int)+1).toNat=r+1 by omega,show ((p:Nat):Int).toNat=p by omega,aA [] hq,aA [] jQ]
    exact h
   have iI:Hid (rk m (r:Int) p=(m.out[r][p].length:Int)):=by
    have h:rk m (r:Int) p=(m.out[r][p].length:Int):=by
     unfold rk;rw[show ((r:Nat):Int).toNat=r by omega,show ((p:Nat):Int).toNat=p by omega,aA [] PT,aA [] vW]
    exact h
   generalize m.out[q][p].length=ly at cy ly1 ly2 ju;generalize m.out[r][p].length=lu at cu lu1 lu2 iI;generalize m.out[q].length=lx at cx lx1 lx2 xT jQ;generalize m.out[r].length=lz at cz lz1 lz2 UQ vW;obtain⟨nn,z'⟩:∃ nn:Nat,m.n=nn:=⟨m.n.toNat,by omega⟩;have HDA:=aa (Nb (St.mk r p sh0 sh1 sh2 sh3 sh4 sto) IG.out nn (by omega));have HNN:=aa z';have SR:=aa xT;have HLR:=aa UQ;clear z' xT UQ
   go_enter Tryz.func93,Tryz.ntmps93
   go_wp2_with fail
   refine bw (fun W=>Below w.heap.size w W/\W.heap[w.heap.size]?=some (.cells (bX m vf vy vt (.slice (some ⟨b1,o1,none⟩) m.out.length co)) 35)/\W.heap[w.heap.size+1]?=some (.cells (St.mk r p sh0 sh1 sh2 sh3 sh4 sto).c 100)) ⟨hb,aq _ (ar _ _),by simpa using ar (w.alloc _) _⟩ (fun W0 bd=>?_);obtain⟨aH,hM,hS⟩:=bd;have HM:=aa hM;have HS:=aa hS;have zT:=aa (tJ W0 _ _ _ _ hA);have fA:=aa (tJ W0 _ _ _ _ hP);obtain⟨tb,VI⟩:∃ tb,inB sto 0 ((ly:Int) - 1)=tb:=⟨_,rfl⟩;have KO:=aa (tJ W0 _ _ _ _ VI);have HTB:=aa VI;clear VI;have t1:∀ (x:ExtW W0) o,x.val.cell? ⟨w.heap.size,o,none⟩=_:=fun x o=>ae (ak x.ext hM) o
   have t2:∀ (x:ExtW W0) o,x.val.cell? ⟨w.heap.size+1,o,none⟩=_:=fun x o=>ae (ak x.ext hS) o
   have t3:∀ (x:ExtW W0),x.val.cell? ⟨b1,o1+q,none⟩=_:=fun x=>x.cell (ay aH cx)
   have t4:∀ (x:ExtW W0),x.val.cell? ⟨b2,o2+p,none⟩=_:=fun x=>x.cell (ay aH cy)
   have mf:IntKind.i64.wrap ((r:Int)+1)=(q:Int):=by rw[HQ.out];rw[IntWalk.i64_in _ (by omega)];omega
   have HP:=aa hP;have HA:=aa hA;clear hA hP hM hS;refine aK (by kernel_rfl) (by kernel_rfl) ?_
   repeat (go_big_quiet_step ((go_at_call 89;first|with_reducible exact zT.out _|with_reducible exact fA.out _|with_reducible exact KO.out _)))
   refine wpQuiet_nil ?_;intro _ bV;obtain⟨xq,bC⟩:=bV;subst bC;clear t1 t2 t3 t4;have KY:=aj aH xq.ext;cases tb with
   | false=>
    have HB:Hid (gF m ⟨r,p,sh0,sh1,sh2,sh3,sh4,sto⟩=true):=by(have h:gF m ⟨r,p,sh0,sh1,sh2,sh3,sh4,sto⟩=true:=by(unfold gF;dsimp only;rw[HA.out,HP.out,ju.out,HTB.out];rfl));exact h
    go_wp2_with fail
    go_ret
    exact⟨aC (by rw[HD.out,HB.out];rfl),KY⟩
   | true=>
    have HB:Hid (gF m ⟨r,p,sh0,sh1,sh2,sh3,sh4,sto⟩=false):=by(have h:gF m ⟨r,p,sh0,sh1,sh2,sh3,sh4,sto⟩=false:=by(unfold gF;dsimp only;rw[HA.out,HP.out,ju.out,HTB.out];rfl));exact h
    have t1:=ae (ak xq.ext HM.out);have t2:=ae (ak xq.ext HS.out);have z':=HNN.out;have kr:nn<=5:=by omega
    obtain⟨pa,pY,hpa⟩:=Ll ⟨r,p,sh0,sh1,sh2,sh3,sh4,sto⟩ IG.out nn kr (w.heap.size+1);have lO:=aa (rh _ _ (-1) (-1) xq.val (hpa _ _ (ak xq.ext HS.out)));have hsm:=Qd nn kr (w.heap.size+1)
    have Co:Hid (stepE m ⟨r,p,sh0,sh1,sh2,sh3,sh4,sto⟩=if !allB (St.heard ⟨r,p,sh0,sh1,sh2,sh3,sh4,sto⟩ |>.drop nn) (-1) (-1) then 3 else if anyLt nn (jX m ⟨r,p,sh0,sh1,sh2,sh3,sh4,sto⟩) then 2 else 0):=by
     (have h:stepE m ⟨r,p,sh0,sh1,sh2,sh3,sh4,sto⟩=if !allB (St.heard ⟨r,p,sh0,sh1,sh2,sh3,sh4,sto⟩ |>.drop nn) (-1) (-1) then 3 else if anyLt nn (jX m ⟨r,p,sh0,sh1,sh2,sh3,sh4,sto⟩) then 2 else 0:=by(rw[HD.out,HB.out,z'];rfl));exact h
    generalize allB (St.heard ⟨r,p,sh0,sh1,sh2,sh3,sh4,sto⟩ |>.drop nn) (-1) (-1)=ab at Co lO;clear hpa HD HB HDA
    go_wp2_with fail
    refine lO.out.mono ?_;rintro e w1 ⟨rfl,aG⟩;have D0:=aj KY aG;cases ab with
    | false=>
     go_wp2_with fail
     go_ret
     exact⟨aC (by rw[Co.out];rfl),D0⟩
    | true=>
     have HV:Hid (stepE m ⟨r,p,sh0,sh1,sh2,sh3,sh4,sto⟩=if anyLt nn (jX m ⟨r,p,sh0,sh1,sh2,sh3,sh4,sto⟩) then 2 else 0):=Co;clear Co t1 t2 pY;have jz:=aa (ak (aj xq.ext aG) HM.out);have rQ:=aa (ak (aj xq.ext aG) HS.out);have t1:=ae jz.out;have t2:=ae rQ.out;have cz1:=ay D0 cz;have cu1:=ay D0 cu;have Sx:=aa cu1;clear cx cy cz cu cu1
     go_wp2_with fail
     go_loop [53] (fun i=>∃ k:Nat,k<=nn/\i=.int .i64 k/\∀ j,j<k->jX m ⟨r,p,sh0,sh1,sh2,sh3,sh4,sto⟩ j=false) (fun i=>nn - (intOf i).toNat)
     case atStart=>exact⟨0,by omega,rfl,by simp⟩
     case round=>
      obtain⟨k,hk,rfl,aO⟩:=hrel;have H:=aa aO;clear aO;by_cases aF:k<nn
      ·have ck:=Lk ⟨r,p,sh0,sh1,sh2,sh3,sh4,sto⟩ k (by omega) w1 (w.heap.size+1) _ rQ.out
       have PU:Hid (jX m ⟨r,p,sh0,sh1,sh2,sh3,sh4,sto⟩ k=if (k:Int)=(p:Int) then !inB (St.hear ⟨r,p,sh0,sh1,sh2,sh3,sh4,sto⟩ k) 0 (rk m r k - 1) else !inB (St.hear ⟨r,p,sh0,sh1,sh2,sh3,sh4,sto⟩ k) (-1) 1048576):=by exact rfl
       generalize St.hear ⟨r,p,sh0,sh1,sh2,sh3,sh4,sto⟩ k=hv at ck PU;have hk5:k<5:=by omega
       have t20:=t2 0;have t21:=t2 1;simp at t20 t21;clear t2;by_cases Jt:k=p
       ·subst Jt
        have iy:Hid (jX m ⟨r,k,sh0,sh1,sh2,sh3,sh4,sto⟩ k=!inB hv 0 ((lu:Int) - 1)):=by
         (have h:jX m ⟨r,k,sh0,sh1,sh2,sh3,sh4,sto⟩ k=!inB hv 0 ((lu:Int) - 1):=by(rw[PU.out,if_pos rfl,iI.out]));exact h
        have cu1:=Sx.out;clear PU
        go_wp2_with fail
        refine(pR _ _ _ _).mono ?_;rintro e w2 ⟨rfl,rfl⟩;generalize inB hv 0 ((lu:Int) - 1)=bb at iy;cases bb with
        | false=>
         go_wp2_with fail
         go_ret
         exact⟨aC (by rw[HV.out,fc aF iy.out];rfl),D0⟩
        | true=>
         go_wp2_with fail
         go_round
         case rel=>exact⟨k+1,by omega,by go_num,aQ H.out iy.out⟩
         case measure=>simp[intOf];omega
       ·have hkp':¬ ((k:Int)=(p:Int)):=by omega
        have iy:Hid (jX m ⟨r,p,sh0,sh1,sh2,sh3,sh4,sto⟩ k=!inB hv (-1) 1048576):=by
         (have h:jX m ⟨r,p,sh0,sh1,sh2,sh3,sh4,sto⟩ k=!inB hv (-1) 1048576:=by(rw[PU.out,if_neg hkp']));exact h
        clear PU
        go_wp2_with fail
        refine(pR _ _ _ _).mono ?_;rintro e w2 ⟨rfl,rfl⟩;generalize inB hv (-1) 1048576=bb at iy;cases bb with
        | false=>
         go_wp2_with fail
         go_ret
         exact⟨aC (by rw[HV.out,fc aF iy.out];rfl),D0⟩
        | true=>
         go_wp2_with fail
         go_round
         case rel=>exact⟨k+1,by omega,by go_num,aQ H.out iy.out⟩
         case measure=>simp[intOf];omega
      ·obtain rfl:k=nn:=by omega
       go_wp2_with fail
       go_ret
       exact⟨aC (by rw[HV.out,gw H.out];rfl),D0⟩
theorem GN{m:Mac} (h:dX m=true):(m.first.length:Int)=m.n/\(m.out.length:Int)=m.rounds+1/\(m.syms.length:Int)=m.rounds/\(∀ i (hi:i<m.first.length),(m.first[i].length:Int)=m.ins)/\(∀ i (hi:i<m.out.length),(m.out[i].length:Int)=m.n)/\∀ k,k<m.syms.length->kM m k=false:=by
 unfold dX at h;split at h
 ·cases h
 ·rename_i h1
  split at h
  ·cases h
  ·rename_i h2
   split at h
   ·cases h
   ·rename_i h3
    have CE:=(cB _ _).1 (eq_false_of_ne_true h2);have yc:=(cB _ _).1 (eq_false_of_ne_true h3);have Fo:=(cB _ _).1 (Bool.not_eq_true' _ ▸ h);refine⟨by omega,by omega,by omega,fun i hi=>?_,fun i hi=>?_,Fo⟩
    ·have:=CE i hi;rw[aA [] hi]at this;simpa using this
    ·have:=yc i hi;rw[aA [] hi]at this;simpa using this
theorem Kd{w:World} {b o:Nat} {s:St} (h:A4 w b o s):s.In:=⟨h.1.2,h.2.1.2,h.2.2.1.2,h.2.2.2.1.2,h.2.2.2.2.1.2,h.2.2.2.2.2.1.2,h.2.2.2.2.2.2.1.2,h.2.2.2.2.2.2.2.2⟩
theorem ln(m:Mac) (vf vy vt vo:Value) (w:World) (hf:bF w vf m.first) (hy:eZ w vy m.syms) (ht:dh w vt m.steps) (ho:fj w vo m.out) :
  Calls Tryz.prog 59 #[.agg (bX m vf vy vt vo)] w fun e w'=>e=.returned (.int .i64 (checkE m))/\Below w.heap.size w w':=by
 have HF:=aa hf;have HY:=aa hy;have HO:=aa ho;obtain⟨pf,cf,rfl,_⟩:=hf;obtain⟨py,cy,rfl,_⟩:=hy;obtain⟨po,co,rfl,_⟩:=ho;obtain⟨pt,ct,rfl,lt1,lt2,et⟩:=ht.at;have ET:=aa et;clear et ht;have HC:Hid (checkE m=if A5 m then 2 else if !dX m then 15 else if 8192<lU m\/65536<m.steps.length then 5 else if !gR m then 2 else aP m.steps.length (fU m)):=by exact rfl
 have HH:Hid (A5 m=(!inB m.n 1 5 || !inB m.rounds 0 6 || !inB m.ins 1 8 || !inB m.outs 1 8)):=by exact rfl
 go_enter Tryz.func59,Tryz.ntmps59
 go_wp2_with fail
 refine(pR _ _ _ _).mono ?_;rintro e w1 ⟨rfl,rfl⟩;cases h1:inB m.n 1 5
 ·have HD:Hid (checkE m=2):=by(have h:checkE m=2:=by(rw[HC.out,HH.out,h1];rfl));exact h
  go_wp2_with fail
  go_ret
  exact⟨aC HD.out.symm,by go_grown⟩
 go_wp2_with fail
 refine(pR _ _ _ _).mono ?_;rintro e w1 ⟨rfl,rfl⟩;cases h2:inB m.rounds 0 6
 ·have HD:Hid (checkE m=2):=by(have h:checkE m=2:=by(rw[HC.out,HH.out,h1,h2];rfl));exact h
  go_wp2_with fail
  go_ret
  exact⟨aC HD.out.symm,by go_grown⟩
 go_wp2_with fail
 refine(pR _ _ _ _).mono ?_;rintro e w1 ⟨rfl,rfl⟩;cases h3:inB m.ins 1 8
 ·have HD:Hid (checkE m=2):=by(have h:checkE m=2:=by(rw[HC.out,HH.out,h1,h2,h3];rfl));exact h
  go_wp2_with fail
  go_ret
  exact⟨aC HD.out.symm,by go_grown⟩
 go_wp2_with fail
 refine(pR _ _ _ _).mono ?_;rintro e w1 ⟨rfl,rfl⟩;cases h4:inB m.outs 1 8
 ·have HD:Hid (checkE m=2):=by(have h:checkE m=2:=by(rw[HC.out,HH.out,h1,h2,h3,h4];rfl));exact h
  go_wp2_with fail
  go_ret
  exact⟨aC HD.out.symm,by go_grown⟩
 have fA:Hid (checkE m=if !dX m then 15 else if 8192<lU m\/65536<m.steps.length then 5 else if !gR m then 2 else aP m.steps.length (fU m)):=by
  (have h:checkE m=if !dX m then 15 else if 8192<lU m\/65536<m.steps.length then 5 else if !gR m then 2 else aP m.steps.length (fU m):=by(rw[HC.out,HH.out,h1,h2,h3,h4];rfl));exact h
 clear HC HH;obtain⟨IE,n9⟩:=oV h1;obtain⟨rO,zP⟩:=oV h2;obtain⟨uA,hi2⟩:=oV h3;obtain⟨wD,oh⟩:=oV h4;clear h1 h2 h3 h4
 go_wp2_with fail
 refine aT (fun W=>Below w.heap.size w W/\W.heap[w.heap.size]?=some (.cells (bX m (.slice pf m.first.length cf) (.slice py m.syms.length cy) (.slice pt m.steps.length ct) (.slice po m.out.length co)) 35)) ⟨by go_grown,ar _ _⟩ (fun W0 bd=>?_);obtain⟨aH,hM⟩:=bd;have HM:=aa hM;clear hM;refine(Ld m _ _ _ _ W0 ⟨rO,by omega⟩ (HF.out.up up_ints aH) (HY.out.up up_v3 aH) (HO.out.up up_vecs aH)).mono ?_;rintro e w1 ⟨rfl,aG⟩;cases S':dX m
 ·have HD:Hid (checkE m=15):=by(have h:checkE m=15:=by(rw[fA.out,S'];rfl));exact h
  go_wp2_with fail
  go_ret
  exact⟨aC HD.out.symm,aj aH aG⟩
 have KO:Hid (checkE m=if 8192<lU m\/65536<m.steps.length then 5 else if !gR m then 2 else aP m.steps.length (fU m)):=by
  (have h:checkE m=if 8192<lU m\/65536<m.steps.length then 5 else if !gR m then 2 else aP m.steps.length (fU m):=by(rw[fA.out,S'];rfl));exact h
 clear fA;have HS:=aa (GN S');clear S';have dD:=aj aH aG;have s1:=ae (ak aG HM.out)
 go_wp2_with fail
 refine(Lf m _ _ _ _ w1 (by have:=HS.out.2.1;omega) (fun k hk=>by have:=HS.out.2.2.2.2.1 k hk;omega) (HO.out.up up_vecs dD)).mono ?_;rintro e w2 ⟨rfl,aS⟩;have dU:=aj dD aS;have kb:=ak (aj aG aS) HM.out;clear s1;have s1:=ae kb;by_cases eN:8192<lU m
 ·have HD:Hid (checkE m=5):=by(have h:checkE m=5:=by(rw[KO.out,if_pos (Or.inl eN)]));exact h
  go_wp2_with fail
  go_ret
  exact⟨aC HD.out.symm,dU⟩
 by_cases pY:65536<m.steps.length
 ·have HD:Hid (checkE m=5):=by(have h:checkE m=5:=by(rw[KO.out,if_pos (Or.inr pY)]));exact h
  go_wp2_with fail
  go_ret
  exact⟨aC HD.out.symm,dU⟩
 have Fs:Hid (checkE m=if !gR m then 2 else aP m.steps.length (fU m)):=by
  (have h:checkE m=if !gR m then 2 else aP m.steps.length (fU m):=by(rw[KO.out,if_neg (by omega)]));exact h
 clear KO
 go_wp2_with fail
 refine(Lh m _ _ _ _ w2 (by have:=HS.out.2.1;omega) (by
  have h0:0<m.out.length:=by have:=HS.out.2.1;omega
  rw[aA [] h0]
  have:=HS.out.1;have:=HS.out.2.2.2.2.1 0 h0;omega) ⟨wD,oh⟩ (HF.out.up up_ints dU) (HY.out.up up_v3 dU) (HO.out.up up_vecs dU)).mono ?_
 rintro e w3 ⟨rfl,bA⟩;have eT:=aj dU bA;cases Jm:gR m
 ·have HD:Hid (checkE m=2):=by(have h:checkE m=2:=by(rw[Fs.out,Jm];rfl));exact h
  go_wp2_with fail
  go_ret
  exact⟨aC HD.out.symm,eT⟩
 have HV:Hid (checkE m=aP m.steps.length (fU m)):=by
  (have h:checkE m=aP m.steps.length (fU m):=by(rw[Fs.out,Jm];rfl));exact h
 clear Fs Jm s1;have rX:=aa (ak bA kb);have s1:=ae rX.out;clear kb
 go_wp2_with fail
 clear s1
 go_loopw [50] (fun i wr=>Below w3.heap.size w3 wr/\∃ k:Nat,k<=m.steps.length/\i=.int .i64 k/\∀ j,j<k->fU m j=0) (fun i _=>m.steps.length - (intOf i).toNat)
 case atStart=>exact⟨Below.refl _ _,0,by omega,rfl,by simp⟩
 case round=>
  obtain⟨aJ,k,hk,rfl,aO⟩:=hrel;have H:=aa aO;clear aO;have t1:=ae (ak aJ rX.out);have bS:=aj eT aJ;by_cases aF:k<m.steps.length
  ·obtain⟨b1,o1,rfl,KH⟩:=ET.out k aF
   have cK:=Kd KH;obtain⟨c0,c1,c2,c3,c4,c5,c6,c7⟩:=KH;have d0:=ay bS c0.1;have d1:=ay bS c1.1;have d2:=ay bS c2.1;have d3:=ay bS c3.1;have d4:=ay bS c4.1;have d5:=ay bS c5.1;have d6:=ay bS c6.1;have d7:=ay bS c7.1;clear c0 c1 c2 c3 c4 c5 c6 c7;have HG:=aa (aA default aF);have dM:=aB (ak aJ rX.out);generalize KH:m.steps[k]=s at cK d0 d1 d2 d3 d4 d5 d6 d7 HG;clear KH
   go_wp2_with fail
   refine aT (fun W=>Below wr.heap.size wr W/\W.heap[wr.heap.size]?=some (.cells s.c 100)) ⟨by go_grown,ar _ _⟩ (fun V hV=>?_);obtain⟨fo,hS⟩:=hV;have SX:=aa hS;clear hS;have uv:=aj bS fo;refine(Qe m _ _ _ _ s cK V ⟨IE,n9⟩ ⟨rO,zP⟩ HS.out.2.1 HS.out.2.2.2.2.1 (HO.out.up up_vecs uv)).mono ?_;rintro e w4 ⟨rfl,bM⟩
   have K9:Hid (fU m k=if stepE m s≠0 then stepE m s else if 0<k/\0<=orderI (m.steps.getD (k - 1) default) s then 14 else 0):=by
    (have h:fU m k=if stepE m s≠0 then stepE m s else if 0<k/\0<=orderI (m.steps.getD (k - 1) default) s then 14 else 0:=by(unfold fU;rw[HG.out]));exact h
   generalize stepE m s=ev at K9;have gl:=aj uv bM;by_cases ox:ev=0
   case neg=>
    have RX:(ev != 0)=true:=by simpa using ox
    go_wp2_with fail
    go_ret
    exact⟨aC (by rw[HV.out,<-bh k ev aF H.out (by rw[K9.out,if_pos ox]) ox]),gl⟩
   subst ox;have rW:=aj fo bM;clear t1 d0 d1 d2 d3 d4 d5 d6 d7 dM
   go_wp2_with fail
   by_cases gW:k=0
   ·have Is:Hid (fU m k=0):=by(have h:fU m k=0:=by(rw[K9.out,if_neg (by simp),if_neg (by omega)]));exact h
    have hd:decide ((0:Int)<(k:Int))=false:=by simp;omega
    have kz:decide (0<k)=false:=by simp;omega
    clear K9 gW;refine aK (by kernel_rfl) (by kernel_rfl) ?_
    repeat (go_big_quiet_step (fail))
    refine wpQuiet_nil ?_;intro _ bV;obtain⟨xq,bC⟩:=bV;subst bC;clear hd kz
    go_wp2_with fail
    go_roundw
    case rel=>exact⟨aj (aj aJ rW) xq.ext,k+1,by omega,by go_num,aQ H.out Is.out⟩
    case measure=>simp[intOf];omega
   ·obtain⟨j,hj⟩:∃ j,k=j+1:=⟨k - 1,by omega⟩
    have qf:j<m.steps.length:=by omega
    have HJ:=aa hj;obtain⟨b2,o2,e2,qM⟩:=ET.out j qf;obtain⟨rfl,rfl⟩:b1=b2/\o1=o2:=by simpa using e2
    clear e2;have hinj:=Kd qM;have HGJ:=aa (aA default qf);obtain⟨c0,c1,c2,c3,c4,c5,c6,c7⟩:=qM;generalize qM:m.steps[j]=sj at hinj c0 c1 c2 c3 c4 c5 c6 c7 HGJ;clear qM;have hd:decide ((0:Int)<(k:Int))=true:=by simp;omega
    have kz:0<k:=by omega
    have ju:Hid (fU m k=if 0<=orderI sj s then 14 else 0):=by
     have h:fU m k=if 0<=orderI sj s then 14 else 0:=by
      rw[K9.out,if_neg (by simp)];have e:k - 1=j:=by omega
      rw[e,HGJ.out]
      grind
     exact h
    clear K9 gW hj;have mf:IntKind.i64.wrap ((k:Int) - 1)=(j:Int):=by rw[HJ.out];rw[IntWalk.i64_in _ (by omega)];omega
    have q1:∀ x:ExtW w4,∀ o,x.val.cell? ⟨w.heap.size,o,none⟩=_:=fun x=>ae (ak (aj (aj aJ rW) x.ext) rX.out)
    have q2:∀ x:ExtW w4,∀ o,x.val.cell? ⟨wr.heap.size,o,none⟩=_:=fun x=>ae (ak (aj bM x.ext) SX.out)
    have d0:∀ x:ExtW w4,x.val.cell? ⟨b1,o1+j * 8,none⟩=_:=fun x=>x.cell (ay gl c0.1)
    have d1:∀ x:ExtW w4,x.val.cell? ⟨b1,o1+j * 8+1,none⟩=_:=fun x=>x.cell (ay gl c1.1)
    have d2:∀ x:ExtW w4,x.val.cell? ⟨b1,o1+j * 8+2,none⟩=_:=fun x=>x.cell (ay gl c2.1)
    have d3:∀ x:ExtW w4,x.val.cell? ⟨b1,o1+j * 8+3,none⟩=_:=fun x=>x.cell (ay gl c3.1)
    have d4:∀ x:ExtW w4,x.val.cell? ⟨b1,o1+j * 8+4,none⟩=_:=fun x=>x.cell (ay gl c4.1)
    have d5:∀ x:ExtW w4,x.val.cell? ⟨b1,o1+j * 8+5,none⟩=_:=fun x=>x.cell (ay gl c5.1)
    have d6:∀ x:ExtW w4,x.val.cell? ⟨b1,o1+j * 8+6,none⟩=_:=fun x=>x.cell (ay gl c6.1)
    have d7:∀ x:ExtW w4,x.val.cell? ⟨b1,o1+j * 8+7,none⟩=_:=fun x=>x.cell (ay gl c7.1)
    clear c0 c1 c2 c3 c4 c5 c6 c7;have bE:=aa (show ∀ x:ExtW w4,Calls Tryz.prog 94 #[sj.v,s.v] x.val fun e w''=>e=.returned (.int .i64 (orderI sj s))/\∃ p:ExtW w4,w''=p.val from fun x=>Calls.ext_of (Na sj s hinj cK _));generalize orderI sj s=oo at bE ju;refine aK (by kernel_rfl) (by kernel_rfl) ?_
    repeat (go_big_quiet_step ((go_at_call 94;exact bE.out _)))
    refine wpQuiet_nil ?_;intro _ bV;obtain⟨xq,bC⟩:=bV;subst bC;clear q1 q2 d0 d1 d2 d3 d4 d5 d6 d7 hd kz;have mh:=aj gl xq.ext;by_cases rE:0<=oo
    ·go_wp2_with fail
     go_ret
     exact⟨aC (by rw[HV.out,<-bh k 14 aF H.out (by rw[ju.out,if_pos rE]) (by decide)]),mh⟩
    ·have Is:Hid (fU m k=0):=by(have h:fU m k=0:=by(rw[ju.out,if_neg rE]));exact h
     go_wp2_with fail
     go_roundw
     case rel=>exact⟨aj (aj aJ rW) xq.ext,k+1,by omega,by go_num,aQ H.out Is.out⟩
     case measure=>simp[intOf];omega
  ·go_wp2_with fail
   go_ret
   exact⟨aC (by rw[HV.out,cp];intro j hj;exact H.out j (by omega)),bS⟩
end Go.Proofs.YtkfgpnbpcpdclaaGreat
namespace Go.Proofs.YtkfgpnbpcpdclaaGreat
structure Msg where
 rd:Int
 fr:Int
 to:Int
 bs:ByteArray
structure Tr where
 inp:List Int
 word:List Rd
 states:List (List Int)
 msgs:List Msg
 dec:List Int
 times:List Int
instance:Inhabited Msg:=⟨⟨0,0,0,ByteArray.empty⟩⟩
instance:DecidableEq Msg:=fun a b=>decidable_of_iff (a.rd=b.rd/\a.fr=b.fr/\a.to=b.to/\a.bs=b.bs) (by cases a;cases b;simp)
def ckAt(l:List UInt8) (n:Nat):Nat->Nat
 | 0=>n % 65521
 | k+1=>(ckAt l n k+(k+1) % 65521 * (l.getD k 0).toNat) % 65521
def ckS(l:List UInt8):Nat:=ckAt l l.length l.length
theorem Ke(l:List UInt8) (n k:Nat):ckAt l n k<65521:=by
 cases k with
 | zero=>exact Nat.mod_lt _ (by omega)
 | succ k=>exact Nat.mod_lt _ (by omega)
theorem T6(l:List UInt8):ckS l<65521:=Ke _ _ _
def lp(n:Nat):List UInt8:=if n<=127 then [UInt8.ofNat n] else UInt8.ofNat (n % 128+128) :: lp (n / 128)
termination_by n
decreasing_by omega
def yn(l:List UInt8):List UInt8:=l++[UInt8.ofNat (ckS l / 256),UInt8.ofNat (ckS l % 256)]
def wP(k p q sym:Nat):List UInt8:=yn ([UInt8.ofNat k,UInt8.ofNat p,UInt8.ofNat q]++lp sym)
def bytesOf(l:List UInt8):ByteArray:=⟨l.toArray⟩
def iA{α:Type} (f:Nat->Option α) (n:Nat):List α:=(List.range n).filterMap f
theorem uH{α:Type} (f:Nat->Option α) (n:Nat):iA f (n+1)=iA f n++(f n).toList:=by
 unfold iA;rw[List.range_succ,List.filterMap_append];cases h:f n<;>simp[h]
theorem Bg{α:Type} {f:Nat->Option α} {n:Nat} (h:f n=none):iA f (n+1)=iA f n:=by rw[uH,h];simp
theorem uI{α:Type} {f:Nat->Option α} {n:Nat} {x:α} (h:f n=some x):iA f (n+1)=iA f n++[x]:=by rw[uH,h];rfl
theorem qT{α:Type} {f:Nat->Option α} {a b:Nat} (og:a<=b) (h:∀ j,a<=j->j<b->f j=none):iA f b=iA f a:=by
 induction b with
 | zero=>rw[show a=0 by omega]
 | succ b ih=>
  by_cases e:a=b+1
  ·rw[e]
  ·rw[Bg (h b (by omega) (by omega)),ih (by omega) fun j h1 h2=>h j h1 (by omega)]
theorem wQ{α:Type} (f:Nat->Option α) {a b:Nat} (og:a<=b):iA f a <+: iA f b:=by
 induction b with
 | zero=>rw[show a=0 by omega];exact List.prefix_refl _
 | succ b ih=>
  by_cases e:a=b+1
  ·rw[e];exact List.prefix_refl _
  ·rw[uH];exact(ih (by omega)).trans (List.prefix_append _ _)
theorem Qf{α:Type} {f:Nat->Option α} {j n:Nat} {x:α} (hj:j<n) (h:f j=some x):(iA f n)[(iA f j).length]?=some x:=by
 obtain⟨t,ht⟩:=wQ f (show j+1<=n by omega);rw[<-ht,uI h,List.append_assoc,List.getElem?_append_right (Nat.le_refl _)];simp
def tN(n:Nat) (word:List Rd) (j:Nat):Option (Nat × Nat × Nat):=
 if j / 5 % 5<n/\j % 5<n/\j / 5 % 5≠j % 5/\cS ((word.getD (j / 25) default).g.hear (j % 5)) (j / 5 % 5)=true then some (j / 25,j / 5 % 5,j % 5) else none
def dv(n:Nat) (word:List Rd) (j:Nat):List (Nat × Nat × Nat):=iA (tN n word) j
def gd(n:Nat) (word:List Rd):List (Nat × Nat × Nat):=dv n word (word.length * 25)
def statesE(t:Tr):Int:=
 if t.states.length≠t.word.length+1 then 15 else if anyLt t.states.length (fun i=>decide ((t.states.getD i []).length≠t.inp.length)) then 15
 else if anyLt t.states.length (fun i=>anyLt (t.states.getD i []).length fun j=>!inB ((t.states.getD i []).getD j 0) 0 1048576) then 2 else 0
def byteI(b:ByteArray) (i:Nat):Int:=((b.data.toList.getD i 0).toNat:Int)
def kH(b:ByteArray):Bool:=
 decide (b.size<6) || decide ((ckS (b.data.toList.take (b.size - 2)):Int)≠byteI b (b.size - 2) * 256+byteI b (b.size - 1))
def eP(t:Tr) (i:Nat):Int:=
 let x:=t.msgs.getD i default
 let d:=(gd t.inp.length t.word).getD i (0,0,0)
 if x.rd≠d.1\/x.fr≠d.2.1\/x.to≠d.2.2 then 14 else if kH x.bs then 24
 else if byteI x.bs 0≠x.rd\/byteI x.bs 1≠x.fr\/byteI x.bs 2≠x.to then 22 else 0
def messagesE(t:Tr):Int:=if (gd t.inp.length t.word).length≠t.msgs.length then 15 else aP t.msgs.length (eP t)
def gm(t:Tr) (p:Nat):Int:=
 if !inB (t.times.getD p 0) (-1) t.word.length || !inB (t.dec.getD p 0) (-1) 7 then 2 else if decide (t.dec.getD p 0=-1) != decide (t.times.getD p 0=-1) then 3 else 0
def decisionsE(t:Tr):Int:=if t.dec.length≠t.inp.length\/t.times.length≠t.inp.length then 15 else aP t.dec.length (gm t)
def traceE(t:Tr):Int:=
 if t.inp.length<1\/5<t.inp.length then 2 else if anyLt t.inp.length (fun i=>!inB (t.inp.getD i 0) 0 7) then 2
 else if wordE t.inp.length t.word≠0 then wordE t.inp.length t.word else if 6<t.word.length then 5
 else if statesE t≠0 then statesE t else if messagesE t≠0 then messagesE t else decisionsE t
def oW(m:Mac) (k p:Nat) (s:Int):Int:=((m.out.getD k []).getD p []).getD s.toNat 0
def mM(m:Mac) (states:List (List Int)) (p:Nat):Int:=firstIx states.length fun k=>decide (oW m k p ((states.getD k []).getD p 0)≠-1)
def uJ(m:Mac) (states:List (List Int)) (p:Nat):Int:=
 if mM m states p<0 then -1 else oW m (mM m states p).toNat p ((states.getD (mM m states p).toNat []).getD p 0)
def oX(m:Mac) (states:List (List Int)) (x:Nat × Nat × Nat):Msg:=
 ⟨x.1,x.2.1,x.2.2,bytesOf (wP x.1 x.2.1 x.2.2 (mY m x.1 x.2.1 x.2.2 ((states.getD x.1 []).getD x.2.1 0)).toNat)⟩
def eQ(m:Mac) (inputs:List Int) (word:List Rd):Tr:=
 let s:=eC m inputs word
 ⟨inputs,word,s,(gd m.n.toNat word).map (oX m s),(List.range m.n.toNat).map (uJ m s),(List.range m.n.toNat).map (mM m s)⟩
def sameT(a b:Tr):Bool:=
 eqV a.inp b.inp&&decide (a.word=b.word)&&decide (a.states=b.states)&&decide (a.msgs=b.msgs)&&eqV a.dec b.dec&&eqV a.times b.times
def replayE(m:Mac) (t:Tr):Int:=
 if checkE m≠0 then checkE m else if traceE t≠0 then traceE t else if playE m t.inp t.word≠0 then playE m t.inp t.word else if sameT (eQ m t.inp t.word) t then 0 else 18
end Go.Proofs.YtkfgpnbpcpdclaaGreat
namespace Go.Proofs.YtkfgpnbpcpdclaaGreat
open Go.RowKit Go Go.Shelf
def Sl(w:World) (b o:Nat) (x:Msg):Prop:=eH w b o x.rd/\eH w b (o+1) x.fr/\eH w b (o+2) x.to/\w.cell? ⟨b,o+3,none⟩=some (.string x.bs)/\x.bs.size<=140737488351232
theorem up_msg:Up Sl:=fun _ _ _ _ _ hb ⟨h0,h1,h2,h3,h4⟩=>⟨up_int _ _ _ _ _ hb h0,up_int _ _ _ _ _ hb h1,up_int _ _ _ _ _ hb h2,hb.cell h3,h4⟩
abbrev Bh:=eO 4 Sl
abbrev ee(vi vw vs vm vd vt:Value):Array Value:=#[vi,vw,vs,vm,vd,vt]
structure IsTr (w:World) (t:Tr) (vi vw vs vm vd vt:Value):Prop where
 inp:aU w vi t.inp
 word:bN w vw t.word
 states:bF w vs t.states
 msgs:Bh w vm t.msgs
 dec:aU w vd t.dec
 times:aU w vt t.times
theorem IsTr.up{w w':World} {t:Tr} {vi vw vs vm vd vt:Value} (h:IsTr w t vi vw vs vm vd vt) (hb:Below w.heap.size w w'):IsTr w' t vi vw vs vm vd vt:=
 ⟨h.inp.up up_int hb,h.word.up up_round hb,h.states.up up_ints hb,h.msgs.up up_msg hb,h.dec.up up_int hb,h.times.up up_int hb⟩
def Du(lo hi:Int) (v:Value) (W:World):Prop:=∃ b c,v=.func (.func 172) #[] #[.pointer (some ⟨b,0,none⟩),.pointer (some ⟨c,0,none⟩)]/\W.heap[b]?=some (.cells #[.int .i64 lo] 3)/\W.heap[c]?=some (.cells #[.int .i64 hi] 3)
theorem Du.up{lo hi:Int} {v:Value} {W W':World} (h:Du lo hi v W) (hb:Below W.heap.size W W'):Du lo hi v W':=by
 obtain⟨b,c,rfl,h1,h2⟩:=h;exact⟨b,c,rfl,ak hb h1,ak hb h2⟩
def MP.outF(lo hi:Int):MP:=⟨Du lo hi,fun _ _ _ h hb=>h.up hb⟩
theorem mz(lo hi:Int) (w:World) :
  Calls Tryz.prog 133 #[.int .i64 lo,.int .i64 hi] w fun e w'=>∃ v,e=.returned v/\Du lo hi v w'/\Below w.heap.size w w':=by
 go_enter Tryz.func133,Tryz.ntmps133
 go_wp2
 go_ret
 exact⟨_,rfl,⟨_,_,rfl,aq _ (ar _ _),by simpa using ar (w.alloc _) _⟩,by go_grown⟩
theorem nP(n lo hi:Int) (B C:Nat) (W:World) (h1:W.heap[B]?=some (.cells #[.int .i64 lo] 3)) (h2:W.heap[C]?=some (.cells #[.int .i64 hi] 3)) :
  Calls Tryz.prog 172 #[.int .i64 n,.pointer (some ⟨B,0,none⟩),.pointer (some ⟨C,0,none⟩)] W fun e W'=>e=.returned (.bool (!inB n lo hi))/\W=W':=by
 have c1:=ae h1 0;have c2:=ae h2 0;simp at c1 c2;clear h1 h2;by_cases h1:n<lo
 ·have HR:Hid ((!inB n lo hi)=true):=by(have h:(!inB n lo hi)=true:=by(unfold inB;simp;omega));exact h
  go_enter Tryz.func172,Tryz.ntmps172
  go_wp2
  go_ret
  exact⟨aV HR.out.symm,rfl⟩
 ·have HR:Hid ((!inB n lo hi)=decide (hi<n)):=by(have h:(!inB n lo hi)=decide (hi<n):=by(unfold inB;rw[show decide (lo<=n)=true by simp;omega];simp;by_cases h:hi<n<;>simp[h]<;>omega));exact h
  go_enter Tryz.func172,Tryz.ntmps172
  go_wp2
  go_ret
  exact⟨aV HR.out.symm,rfl⟩
theorem r'(lo hi:Int) (f v:Value) (l:List Int) (w:World) (hf:Du lo hi f w) (hv:aU w v l) :
  Calls Tryz.prog 76 #[v,f] w fun e w'=>e=.returned (.bool (anyLt l.length fun i=>!inB (l.getD i 0) lo hi))/\Below w.heap.size w w':=by
 obtain⟨b,c,rfl,h1,h2⟩:=hf;refine kC 172 _ (enters_of Tryz.func172 (by kernel_rfl) rfl) v l _ w hv fun i qG W hW=>?_
 rw[aA 0 qG];exact(nP _ _ _ b c W (ak hW h1) (ak hW h2)).mono fun e w' h=>⟨h.1,by rw[<-h.2];exact Below.refl _ _⟩
theorem Ao(x:Value) (l:List Int) (inp:List Int) (pi:Option Addr) (ci:Nat) (vw vs vm vd vt:Value) (B:Nat) (W:World) (hx:aU W x l) (_hl:inp.length<=17592186044416) (hB:W.heap[B]?=some (.cells (ee (.slice pi inp.length ci) vw vs vm vd vt) 65)) :
  Calls Tryz.prog 173 #[x,.pointer (some ⟨B,0,none⟩)] W fun e W'=>e=.returned (.bool (decide (l.length≠inp.length)))/\Below W.heap.size W W':=by
 obtain⟨px,cx,rfl,_,l2,_⟩:=hx.at;clear hx;have t1:=ae hB;clear hB;have HR:Hid (decide (l.length≠inp.length)=((l.length:Int) != (inp.length:Int))):=by(have h:decide (l.length≠inp.length)=((l.length:Int) != (inp.length:Int)):=by(by_cases h:l.length=inp.length<;>simp[h]<;>omega));exact h
 go_enter Tryz.func173,Tryz.ntmps173
 go_wp2
 go_ret
 exact⟨aV HR.out.symm,Below.refl _ _⟩
theorem Ap(x:Value) (l:List Int) (W:World) (hx:aU W x l) :
  Calls Tryz.prog 174 #[x] W fun e W'=>e=.returned (.bool (anyLt l.length fun j=>!inB (l.getD j 0) 0 1048576))/\Below W.heap.size W W':=by
 have HX:=aa hx;obtain⟨px,cx,rfl,_,l2,_⟩:=hx.at;clear hx
 go_enter Tryz.func174,Tryz.ntmps174
 go_wp2_with fail
 refine(mz _ _ _).mono ?_;rintro e w1 ⟨v,rfl,hv,aG⟩;have HC:=aa (r' _ _ _ _ _ w1 hv (HX.out.up up_int aG));obtain⟨b,c,rfl,_⟩:=hv
 go_wp2_with fail
 refine HC.out.mono ?_;rintro e w2 ⟨rfl,aS⟩
 go_wp2_with fail
 go_ret
 exact⟨rfl,aj aG aS⟩
theorem Bj(t:Tr) (vi vw vs vm vd vt:Value) (w:World) (ht:IsTr w t vi vw vs vm vd vt) :
  Calls Tryz.prog 134 #[.agg (ee vi vw vs vm vd vt)] w fun e w'=>e=.returned (.int .i64 (statesE t))/\Below w.heap.size w w':=by
 have HT:=aa ht;obtain⟨hi,hw,hs,hm,hd,xY⟩:=ht;obtain⟨pi,ci,rfl,li1,li2,_⟩:=hi.at;obtain⟨pw,cw,rfl,lw1,lw2,_⟩:=hw.at;obtain⟨ps,cs,rfl,ls1,ls2,_⟩:=hs.at;obtain⟨pm,cm,rfl,_⟩:=hm.at;obtain⟨pd,cd,rfl,_⟩:=hd.at;obtain⟨pt,ct,rfl,_⟩:=xY.at;clear hi hw hs hm hd xY;have HV:Hid (statesE t=if t.states.length≠t.word.length+1 then 15 else if anyLt t.states.length (fun i=>decide ((t.states.getD i []).length≠t.inp.length)) then 15 else if anyLt t.states.length (fun i=>anyLt (t.states.getD i []).length fun j=>!inB ((t.states.getD i []).getD j 0) 0 1048576) then 2 else 0):=by exact rfl
 have e1:=enters_of Tryz.func173 (P:=Tryz.prog) (by kernel_rfl) rfl;have e2:=enters_of Tryz.func174 (P:=Tryz.prog) (by kernel_rfl) rfl;have E1:=aa e1;have E2:=aa e2;clear e1 e2;by_cases hl:t.states.length=t.word.length+1
 case neg=>
  have d1:((t.states.length:Int) != (t.word.length:Int)+1)=true:=by simp;omega
  have db:Hid (statesE t=15):=by(have h:statesE t=15:=by(rw[HV.out,if_pos hl]));exact h
  go_enter Tryz.func134,Tryz.ntmps134
  go_wp2_with fail
  go_ret
  exact⟨aC db.out.symm,by go_grown⟩
 have d1:((t.states.length:Int) != (t.word.length:Int)+1)=false:=by simp;omega
 have HL:=aa hl;clear hl
 go_enter Tryz.func134,Tryz.ntmps134
 go_wp2_with fail
 refine aT (fun W=>Below w.heap.size w W/\W.heap[w.heap.size]?=some (.cells (ee (.slice pi t.inp.length ci) (.slice pw t.word.length cw) (.slice ps t.states.length cs) (.slice pm t.msgs.length cm) (.slice pd t.dec.length cd) (.slice pt t.times.length ct)) 65)) ⟨by go_grown,ar _ _⟩ (fun W0 bd=>?_);obtain⟨aH,ow⟩:=bd;refine(gv 173 _ E1.out _ t.states (fun i=>decide ((t.states.getD i []).length≠t.inp.length)) W0 (HT.out.states.up up_ints aH) (fun i hi x hx W hW=>?_)).mono ?_
 ·rw[aA [] hi]
  exact Ao x _ t.inp _ _ _ _ _ _ _ w.heap.size W (hx.up up_int hW) li2 (ak hW ow)
 rintro e w1 ⟨rfl,aG⟩
 have cU:Hid (statesE t=if anyLt t.states.length (fun i=>decide ((t.states.getD i []).length≠t.inp.length)) then 15 else if anyLt t.states.length (fun i=>anyLt (t.states.getD i []).length fun j=>!inB ((t.states.getD i []).getD j 0) 0 1048576) then 2 else 0):=by
  (have h:statesE t=if anyLt t.states.length (fun i=>decide ((t.states.getD i []).length≠t.inp.length)) then 15 else if anyLt t.states.length (fun i=>anyLt (t.states.getD i []).length fun j=>!inB ((t.states.getD i []).getD j 0) 0 1048576) then 2 else 0:=by(rw[HV.out,if_neg (fun h=>h HL.out)]));exact h
 have AV:=aj aH aG
 have HC:=aa (gv 174 #[] E2.out _ t.states (fun i=>anyLt (t.states.getD i []).length fun j=>!inB ((t.states.getD i []).getD j 0) 0 1048576) w1 (HT.out.states.up up_ints AV) (fun i hi x hx W hW=>by
  rw[aA [] hi]
  exact Ap x _ W (hx.up up_int hW)))
 generalize anyLt t.states.length (fun i=>decide ((t.states.getD i []).length≠t.inp.length))=r1 at cU;generalize anyLt t.states.length (fun i=>anyLt (t.states.getD i []).length fun j=>!inB ((t.states.getD i []).getD j 0) 0 1048576)=r2 at cU HC;have t1:=ae (ak aG ow);clear ow HV;cases r1 with
 | true=>
  go_wp2_with fail
  go_ret
  exact⟨aC (by rw[cU.out];rfl),AV⟩
 | false=>
  go_wp2_with fail
  refine HC.out.mono ?_;rintro e w2 ⟨rfl,aS⟩;cases r2 with
  | true=>
   go_wp2_with fail
   go_ret
   exact⟨aC (by rw[cU.out];rfl),aj AV aS⟩
  | false=>
   go_wp2_with fail
   go_ret
   exact⟨aC (by rw[cU.out];rfl),aj AV aS⟩
end Go.Proofs.YtkfgpnbpcpdclaaGreat
namespace Go.Proofs.YtkfgpnbpcpdclaaGreat
open Go.ChangeShapes Go.WideShapes Go.ChangeAt Go.RowKit Go
theorem Tryz.own:ownKnob Tryz.prog.godebug=none:=by kernel_rfl
theorem Tryz.laidOut:laidOutB Tryz.prog=true:=by kernel_rfl
section
variable {H : Type} {enc : TypeId × Value → H} {w : World}
theorem Sm{l:List Value} (h:l.length=8):∃ c0 c1 c2 c3 c4 c5 c6 c7,l=[c0,c1,c2,c3,c4,c5,c6,c7]:=by
 match l,h with
 | [c0,c1,c2,c3,c4,c5,c6,c7],_=>exact⟨c0,c1,c2,c3,c4,c5,c6,c7,rfl⟩
theorem Tryz.cWord:Tryz.prog.cellsOf 37=1:=by kernel_rfl
theorem Tryz.cV3:Tryz.prog.cellsOf 33=1:=by kernel_rfl
theorem Tryz.cV4:Tryz.prog.cellsOf 31=1:=by kernel_rfl
theorem Tryz.cStep:Tryz.prog.cellsOf 100=8:=by kernel_rfl
theorem Tryz.cSteps:Tryz.prog.cellsOf 32=1:=by kernel_rfl
theorem Tryz.cMach:Tryz.prog.cellsOf 35=8:=by kernel_rfl
theorem Tryz.cArr:Tryz.prog.cellsOf 48=5:=by kernel_rfl
theorem opn_v3:vF enc w 33 1 Qb:=rZ Tryz.underlying33 Tryz.cVecs (by omega) (of_decide_eq_true (by kernel_rfl)) opn_vecs
theorem opn_step:vF enc w 100 8 A4:=fun fuel cs x b off h hz hc=>by
 obtain⟨hl,n,hf⟩:=kB Tryz.underlying100 h hz;rw[Tryz.cStep]at hl;obtain⟨c0,c1,c2,c3,c4,c5,c6,c7,rfl⟩:=Sm hl;obtain⟨y0,r0,_⟩:=hf 0 _ rfl;obtain⟨y1,r1,_⟩:=hf 1 _ rfl;obtain⟨y2,r2,_⟩:=hf 2 _ rfl;obtain⟨y3,r3,_⟩:=hf 3 _ rfl;change gU enc w n 3 (([c0,c1,c2,c3,c4,c5,c6,c7].drop 0).take (Tryz.prog.cellsOf 3)) y0 at r0;change gU enc w n 3 (([c0,c1,c2,c3,c4,c5,c6,c7].drop 1).take (Tryz.prog.cellsOf 3)) y1 at r1;change gU enc w n 48 (([c0,c1,c2,c3,c4,c5,c6,c7].drop 2).take (Tryz.prog.cellsOf 48)) y2 at r2;change gU enc w n 3 (([c0,c1,c2,c3,c4,c5,c6,c7].drop 7).take (Tryz.prog.cellsOf 3)) y3 at r3;rw[Tryz.cInt]at r0 r1 r3;rw[Tryz.cArr]at r2;obtain⟨m0,e0,_,w0⟩:=DataW.trod_int Tryz.underlying3 r0;obtain⟨m1,e1,_,w1⟩:=DataW.trod_int Tryz.underlying3 r1;obtain⟨m7,e7,_,w7⟩:=DataW.trod_int Tryz.underlying3 r3;have ha:=(wG (enc:=enc) (w:=w) Tryz.underlying48 Tryz.underlying3 Tryz.cInt Tryz.cArr _ _ _ r2).2;obtain⟨m2,e2,w2⟩:=ha 0 (by omega);obtain⟨m3,e3,w3⟩:=ha 1 (by omega);obtain⟨m4,e4,w4⟩:=ha 2 (by omega);obtain⟨m5,e5,w5⟩:=ha 3 (by omega);obtain⟨m6,e6,w6⟩:=ha 4 (by omega);simp at e0 e1 e2 e3 e4 e5 e6 e7;subst e0 e1 e2 e3 e4 e5 e6 e7;exact⟨⟨m0,m1,m2,m3,m4,m5,m6,m7⟩,⟨hc 0 (by omega),tz w0⟩,⟨hc 1 (by omega),tz w1⟩,⟨hc 2 (by omega),w2⟩,⟨hc 3 (by omega),w3⟩,⟨hc 4 (by omega),w4⟩,⟨hc 5 (by omega),w5⟩,⟨hc 6 (by omega),w6⟩,hc 7 (by omega),tz w7⟩
theorem Nc{fuel:Nat} {cs:List Value} {x:DataW H × List MemPlace} (h:gU enc w fuel 35 cs x) (hz:mr 35 x.1) :
  ∃ (m:Mac) (vf vy vt vo:Value),cs=[.int .i64 m.n,.int .i64 m.rounds,.int .i64 m.ins,.int .i64 m.outs,vf,vy,vt,vo]/\bF w vf m.first/\eZ w vy m.syms/\dh w vt m.steps/\fj w vo m.out:=by
 obtain⟨hl,n,hf⟩:=kB Tryz.underlying35 h hz;rw[Tryz.cMach]at hl;obtain⟨c0,c1,c2,c3,c4,c5,c6,c7,rfl⟩:=Sm hl;obtain⟨y0,r0,_⟩:=hf 0 _ rfl;obtain⟨y1,r1,_⟩:=hf 1 _ rfl;obtain⟨y2,r2,_⟩:=hf 2 _ rfl;obtain⟨y3,r3,_⟩:=hf 3 _ rfl;obtain⟨y4,r4,z4⟩:=hf 4 _ rfl;obtain⟨y5,r5,z5⟩:=hf 5 _ rfl;obtain⟨y6,r6,z6⟩:=hf 6 _ rfl;obtain⟨y7,r7,z7⟩:=hf 7 _ rfl;change gU enc w n 3 (([c0,c1,c2,c3,c4,c5,c6,c7].drop 0).take (Tryz.prog.cellsOf 3)) y0 at r0;change gU enc w n 3 (([c0,c1,c2,c3,c4,c5,c6,c7].drop 1).take (Tryz.prog.cellsOf 3)) y1 at r1;change gU enc w n 3 (([c0,c1,c2,c3,c4,c5,c6,c7].drop 2).take (Tryz.prog.cellsOf 3)) y2 at r2;change gU enc w n 3 (([c0,c1,c2,c3,c4,c5,c6,c7].drop 3).take (Tryz.prog.cellsOf 3)) y3 at r3;change gU enc w n 30 (([c0,c1,c2,c3,c4,c5,c6,c7].drop 4).take (Tryz.prog.cellsOf 30)) y4 at r4;change gU enc w n 31 (([c0,c1,c2,c3,c4,c5,c6,c7].drop 5).take (Tryz.prog.cellsOf 31)) y5 at r5;change gU enc w n 32 (([c0,c1,c2,c3,c4,c5,c6,c7].drop 6).take (Tryz.prog.cellsOf 32)) y6 at r6;change gU enc w n 33 (([c0,c1,c2,c3,c4,c5,c6,c7].drop 7).take (Tryz.prog.cellsOf 33)) y7 at r7;change mr 30 y4.1 at z4;change mr 31 y5.1 at z5;change mr 32 y6.1 at z6;change mr 33 y7.1 at z7;rw[Tryz.cInt]at r0 r1 r2 r3;rw[Tryz.cVecs]at r4;rw[Tryz.cV4]at r5;rw[Tryz.cSteps]at r6;rw[Tryz.cV3]at r7;obtain⟨m0,e0,_,_⟩:=DataW.trod_int Tryz.underlying3 r0;obtain⟨m1,e1,_,_⟩:=DataW.trod_int Tryz.underlying3 r1;obtain⟨m2,e2,_,_⟩:=DataW.trod_int Tryz.underlying3 r2;obtain⟨m3,e3,_,_⟩:=DataW.trod_int Tryz.underlying3 r3;obtain⟨v4,l4,e4,g4⟩:=lR Tryz.underlying30 Tryz.cInts (by omega) (of_decide_eq_true (by kernel_rfl)) opn_ints r4 z4;obtain⟨v5,l5,e5,g5⟩:=lR Tryz.underlying31 Tryz.cV3 (by omega) (of_decide_eq_true (by kernel_rfl)) opn_v3 r5 z5;obtain⟨v6,l6,e6,g6⟩:=lR Tryz.underlying32 Tryz.cStep (by omega) (of_decide_eq_true (by kernel_rfl)) opn_step r6 z6
 obtain⟨v7,l7,e7,g7⟩:=lR Tryz.underlying33 Tryz.cVecs (by omega) (of_decide_eq_true (by kernel_rfl)) opn_vecs r7 z7;simp at e0 e1 e2 e3 e4 e5 e6 e7;subst e0 e1 e2 e3 e4 e5 e6 e7;exact⟨⟨m0,m1,m2,m3,l4,l5,l6,l7⟩,_,_,_,_,rfl,g4,g5,g6,g7⟩
end
end Go.Proofs.YtkfgpnbpcpdclaaGreat
namespace Go.Proofs.YtkfgpnbpcpdclaaGreat
def dr(a:Adv):Nat->Nat->List (List Rd)
 | 0,_=>[[]]
 | k+1,s=>(a.states.getD s []).flatMap fun m=>(dr a k m.to.toNat).map (m.r :: ·)
theorem uK(a:Adv) (k:Nat):∀ s,∀ x∈dr a k s,x.length=k:=by
 induction k with
 | zero=>intro s x hx;simp[dr]at hx;rw[hx];rfl
 | succ k ih=>
  intro s x hx;simp only[dr,List.mem_flatMap,List.mem_map]at hx;obtain⟨m,_,y,hy,rfl⟩:=hx;simp[ih _ y hy]
def pA(L:Int) (c:List Int) (n:Int) (m:Mv):Int:=min (n+c.getD m.to.toNat 0) (L+1)
def Aq(L:Int) (c:List Int) (l:List Mv):Int:=l.foldl (pA L c) 0
def Bk(L:Int) (a:Adv) (c:List Int):List Int:=a.states.map (Aq L c)
def eK(L:Int) (a:Adv):Nat->List Int
 | 0=>List.replicate a.states.length 1
 | k+1=>Bk L a (eK L a k)
def numberL(L:Int) (a:Adv) (k:Nat):Int:=(eK L a k).getD 0 0
theorem Ef(L:Int) (a:Adv) (k:Nat):(eK L a k).length=a.states.length:=by
 cases k with
 | zero=>simp[eK]
 | succ k=>simp[eK,Bk]
def Bu(L:Int) (c:List Int):Prop:=∀ x∈c,0<=x/\x<=L+1
theorem tU{L:Int} (hL:0<=L) {c:List Int} (h:Bu L c) (i:Nat):0<=c.getD i 0/\c.getD i 0<=L+1:=by
 by_cases hi:i<c.length
 ·rw[List.getD_eq_getElem?_getD,List.getElem?_eq_getElem hi];exact h _ (List.getElem_mem hi)
 ·rw[List.getD_eq_getElem?_getD,List.getElem?_eq_none (by omega)];simp;omega
theorem GO{L:Int} (hL:0<=L) {c:List Int} (h:Bu L c) {n:Int} (hn:0<=n/\n<=L+1) (m:Mv):0<=pA L c n m/\pA L c n m<=L+1:=by
 have:=tU hL h m.to.toNat;unfold pA;omega
theorem Qg{L:Int} (hL:0<=L) {c:List Int} (h:Bu L c) (l:List Mv):∀ n:Int,(0<=n/\n<=L+1)->0<=l.foldl (pA L c) n/\l.foldl (pA L c) n<=L+1:=by
 induction l with
 | nil=>intro n hn;exact hn
 | cons m r ih=>intro n hn;exact ih _ (GO hL h hn m)
theorem Tp{L:Int} (hL:0<=L) {c:List Int} (h:Bu L c) (l:List Mv):0<=Aq L c l/\Aq L c l<=L+1:=Qg hL h l 0 (by omega)
theorem Ar{L:Int} (hL:0<=L) (a:Adv) (k:Nat):Bu L (eK L a k):=by
 induction k with
 | zero=>intro x hx;rw[(List.mem_replicate.1 hx).2];omega
 | succ k ih=>intro x hx;obtain⟨l,_,rfl⟩:=List.mem_map.1 hx;exact Tp hL ih l
theorem Nd{L:Int} (hL:0<=L) (c:List Int) (f:Mv->Int) (l:List Mv) (hc:∀ m∈l,c.getD m.to.toNat 0=min (f m) (L+1)) (hf:∀ m∈l,0<=f m):∀ n s:Int,0<=s->n=min s (L+1) →
  l.foldl (pA L c) n=min (s+(l.map f).sum) (L+1):=by
 induction l with
 | nil=>intro n s _ hn;simp[hn]
 | cons m r ih=>
  intro n s hs hn;have h1:=hc m (by simp);have h2:=hf m (by simp);rw[List.foldl_cons,ih (fun x hx=>hc x (by simp[hx])) (fun x hx=>hf x (by simp[hx])) _ (s+f m) (by omega) ?_,List.map_cons,List.sum_cons]
  ·rw[Int.add_assoc]
  ·unfold pA
   rw[h1,hn];omega
theorem JF{α β:Type} (l:List α) (f:α->List β):((l.flatMap f).length:Int)=(l.map fun x=>((f x).length:Int)).sum:=by
 induction l with
 | nil=>rfl
 | cons a r ih=>rw[List.flatMap_cons,List.length_append,List.map_cons,List.sum_cons,<-ih];omega
theorem Nf{L:Int} (hL:0<=L) (a:Adv) (sF:∀ s,s<a.states.length->∀ m∈a.states.getD s [],m.to.toNat<a.states.length) (k:Nat):∀ s,s<a.states.length->(eK L a k).getD s 0=min ((dr a k s).length:Int) (L+1):=by
 induction k with
 | zero=>
  intro s hs;simp[eK,dr,hs];omega
 | succ k ih=>
  intro s hs
  have h1:(eK L a (k+1)).getD s 0=Aq L (eK L a k) (a.states.getD s []):=by
   simp[eK,Bk,hs]
  rw[h1];unfold Aq;rw[Nd hL (eK L a k) (fun m=>((dr a k m.to.toNat).length:Int)) _ (fun m hm=>ih _ (sF s hs m hm)) (fun m _=>by omega) 0 0 (by omega) (by omega)];simp only[dr];rw[JF];simp
theorem uL{L:Int} (hL:0<=L) (a:Adv) (sF:∀ s,s<a.states.length->∀ m∈a.states.getD s [],m.to.toNat<a.states.length) (h0:0<a.states.length) (k:Nat):numberL L a k=min ((dr a k 0).length:Int) (L+1):=Nf hL a sF k 0 h0
theorem WE{a:Adv} (h:∀ s,s<a.states.length->stateE a (a.states.getD s [])=0):∀ s,s<a.states.length->∀ m∈a.states.getD s [],m.to.toNat<a.states.length:=fun s hs m hm=>by
 obtain⟨j,hj,rfl⟩:=List.mem_iff_getElem.1 hm;have h1:=h s hs;unfold stateE at h1;split at h1
 ·cases h1
 have h2:=gX h1 j hj;have h3:=(Dn h2).2;have e:(a.states.getD s []).getD j default=(a.states.getD s [])[j]:=by rw[List.getD_eq_getElem?_getD,List.getElem?_eq_getElem hj];rfl
 rw[e]at h3;omega
structure Vw where
 p:Int
 k:Int
 i:Int
 h0:Int
 h1:Int
 h2:Int
 h3:Int
 h4:Int
instance:Inhabited Vw:=⟨⟨0,0,0,0,0,0,0,0⟩⟩
instance:DecidableEq Vw:=fun a b=>decidable_of_iff (a.p=b.p/\a.k=b.k/\a.i=b.i/\a.h0=b.h0/\a.h1=b.h1/\a.h2=b.h2/\a.h3=b.h3/\a.h4=b.h4) (by cases a;cases b;simp)
structure Ex where
 c:Int
 word:List Rd
 views:List (List Int)
structure Sys where
 prob:Pb
 n:Int
 tab:List Vw
 ex:List Ex
def lc(tb:List Vw) (v:Vw):List Vw × Nat:=if v∈tb then(tb,tb.idxOf v) else(tb++[v],tb.length)
def jS(st:List Vw × List Int) (v:Vw):List Vw × List Int:=((lc st.1 v).1,st.2++[((lc st.1 v).2:Int)])
def addAll(tb:List Vw) (vs:List Vw):List Vw × List Int:=vs.foldl jS (tb,[])
theorem yO(tb:List Vw) (vs:List Vw) (k:Nat) (hk:k<vs.length):addAll tb (vs.take (k+1))=jS (addAll tb (vs.take k)) vs[k]:=by
 unfold addAll;rw[List.take_succ_eq_append_getElem hk,List.foldl_append];rfl
theorem Eg(st:List Vw × List Int) (v:Vw):(jS st v).2.length=st.2.length+1/\(jS st v).1.length<=st.1.length+1:=by
 unfold jS lc;refine⟨by simp,?_⟩;split<;>simp
theorem jl(vs:List Vw):∀ st:List Vw × List Int,(vs.foldl jS st).2.length=st.2.length+vs.length/\(vs.foldl jS st).1.length<=st.1.length+vs.length:=by
 induction vs with
 | nil=>intro st;simp
 | cons v r ih=>
  intro st;have h1:=ih (jS st v);have h2:=Eg st v;simp only[List.foldl_cons,List.length_cons];omega
def fL(inp:List Int) (p:Nat):Vw:=⟨p,0,inp.getD p 0,-1,-1,-1,-1,-1⟩
def ro(n:Nat) (r:Rd) (now:List Int) (p q:Nat):Int:=if q<n/\cS (r.g.hear p) q=true then now.getD q 0 else -1
def nextV(n k:Nat) (r:Rd) (now:List Int) (p:Nat):Vw:=⟨p,k+1,0,ro n r now p 0,ro n r now p 1,ro n r now p 2,ro n r now p 3,ro n r now p 4⟩
def wR(n:Nat) (inp:List Int) (tb:List Vw):List Vw × List Int:=addAll tb ((List.range n).map (fL inp))
def Lm(n k:Nat) (r:Rd) (st:List Vw × List (List Int)):List Vw × List (List Int):=
 let a:=addAll st.1 ((List.range n).map (nextV n k r (st.2.getLastD [])))
 (a.1,st.2++[a.2])
def playTo(n:Nat) (inp:List Int) (word:List Rd) (tb:List Vw):Nat->List Vw × List (List Int)
 | 0=>let a:=wR n inp tb;(a.1,[a.2])
 | k+1=>Lm n k (word.getD k default) (playTo n inp word tb k)
def i8(n:Nat) (inp:List Int) (word:List Rd) (tb:List Vw):List Vw × List (List Int):=playTo n inp word tb word.length
def lq(cases words:Nat):List (Nat × Nat):=(List.range cases).flatMap fun c=>(List.range words).map fun w=>(c,w)
def nQ(p:Pb) (words:List (List Rd)) (st:List Vw × List Ex) (x:Nat × Nat):List Vw × List Ex:=
 let a:=i8 p.t.n.toNat (p.t.cases.getD x.1 default).inp (words.getD x.2 []) st.1
 (a.1,st.2++[⟨x.1,words.getD x.2 [],a.2⟩])
def execsS(p:Pb) (words:List (List Rd)) (l:List (Nat × Nat)):List Vw × List Ex:=l.foldl (nQ p words) ([],[])
def aZ(p:Pb):List (List Rd):=dr p.a p.rounds.toNat 0
def dR(p:Pb):Sys:=
 let a:=execsS p (aZ p) (lq p.t.cases.length (aZ p).length)
 ⟨p,p.t.n,a.1,a.2⟩
def buildE(p:Pb):Int:=if probE p≠0 then probE p else if 4096<p.t.cases.length * (aZ p).length then 17 else if 8192<(dR p).tab.length then 17 else 0
end Go.Proofs.YtkfgpnbpcpdclaaGreat
namespace Go.Proofs.YtkfgpnbpcpdclaaGreat
open Go.RowKit Go Go.Shelf
attribute [local go_sem] Oper.semAt_some
theorem aE{W:World} {B:Nat} {cs:Array Value} {t:TypeId} {f:Nat × Nat} (h:W.heap[B]?=some (.cells cs t f)) (o:Nat) (v:Value):(W.setCell ⟨B,o,none⟩ v).heap[B]?=some (.cells (cs.setIfInBounds o v) t f):=by
 simp[World.setCell,Array.getElem?_modify,h]
theorem aI{W:World} {B C:Nat} {x:Obj} (h:W.heap[C]?=some x) (bH:C≠B) (o:Nat) (v:Value):(W.setCell ⟨B,o,none⟩ v).heap[C]?=some x:=
 (Below.heap_setCell W ⟨B,o,none⟩ v C bH).trans h
def gx(n:Nat) (w w':World):Prop:=∀ k,k<n->w'.heap[k]?=w.heap[k]?
theorem gx.cell{w w':World} (h:gx w.heap.size w w') {a:Addr} {v:Value} (hc:w.cell? a=some v):w'.cell? a=some v:=by
 have:=gc hc;rw[World.cell?_of_block (w:=w) (h a.block this)];exact hc
theorem gx.ck{w w':World} (h:gx w.heap.size w w'):CK w w':=fun k _ hk _=>(h k (aB hk)).trans hk
theorem gx.of_below{w w':World} (h:Below w.heap.size w w'):gx w.heap.size w w':=h.block
theorem gx.alloc{w w':World} (h:gx w.heap.size w w') (o:Obj):gx w.heap.size w (w'.alloc o):=fun k hk=>by
 have h1:w.heap[k]?=some w.heap[k]:=Array.getElem?_eq_getElem hk;rw[h1];exact aq o ((h k hk).trans h1)
theorem gx.trans{n:Nat} {a b c:World} (h:gx n a b) (k:gx n b c):gx n a c:=fun i hi=>(k i hi).trans (h i hi)
theorem sa(n:Int) (p:Option Addr) (len cap:Nat) (w:World) :
  Calls Tryz.prog 83 #[.agg #[.int .i64 n,.slice p len cap]] w fun e w'=>e=.returned (.func (.func 125) #[] #[.pointer (some ⟨w.heap.size,0,none⟩)])/\w'=w.alloc (.cells #[.int .i64 n,.slice p len cap] 27):=by
 go_enter Tryz.func83,Tryz.ntmps83
 go_wp2
 go_ret
 exact⟨rfl,rfl⟩
def Dv(l:List (List Mv)) (i:Nat):Array Value:=#[.int .i64 (mvAt l i).1,(mvAt l i).2.v]
theorem qU(wd:World) (v:Value) (l:List (List Mv)) (hv:bn wd v l) (w:World) (hb:Below wd.heap.size wd w) (Bx:Nat) (hx:w.cell? ⟨Bx,1,none⟩=some v) :
  A8 Tryz.prog 125 #[.pointer (some ⟨Bx,0,none⟩)] (Dv l) (movesN l) (fun k=>k<wd.heap.size) w:=by
 intro yl J Jx W hW hJ kT hY h0;have dV:=ay hW hx;have gW:gx wd.heap.size wd W:=(gx.of_below hb).trans (fun k hk=>hW.block k (Nat.lt_of_lt_of_le hk hb.size));obtain⟨pa,ca,rfl,la1,la2,ea⟩:=hv.at;clear hv hx hW hb;have EA:=aa ea;clear ea;have HJ:=aa hJ;clear hJ;have CA:=aa kT;clear kT;have HY:=aa hY;clear hY;refine(callsIn_wide (n:=0)).1 ?_;refine callsIn_of_wp Tryz.func125 rfl trivial ?_ rfl;simp only[Tryz.ntmps125,List.size_toArray,List.length_cons,List.length_nil,Nat.reduceAdd,Nat.reduceSub,Array.replicate_succ,Array.replicate_zero,List.push_toArray,List.append_toArray,List.nil_append,List.cons_append]
 gi_wp2
 gi_loopw [10] (fun i wr=>∃ s:Nat,s<=l.length/\i=.int .i64 s/\gx wd.heap.size wd wr/\J (cnt l s) wr) (fun i _=>l.length - (intOf i).toNat)
 case atStart=>exact⟨0,by omega,rfl,gW,by rw[oQ];exact h0⟩
 case round=>
  obtain⟨s,hs,rfl,kV,hj⟩:=hrel;have rJ:=aa kV;clear kV;have qj:=aa hj;clear hj;by_cases aF:s<l.length
  ·obtain⟨b1,o1,rfl,x,cx,Kz⟩:=EA.out s aF
   rw[Nat.mul_one]at cx;have d1:=rJ.out.cell cx;obtain⟨p2,c2,rfl,m1,m2,e2⟩:=Kz.at;clear Kz cx;have E2:=aa e2;clear e2
   gi_wp2
   obtain⟨W0,bd⟩:∃ W0:World,W0=wr:=⟨_,rfl⟩;rw[<-bd]at rJ qj d1 ⊢;clear bd wr
   gi_loopw [17] (fun i wr=>∃ j:Nat,j<=l[s].length/\i=.int .i64 j/\gx wd.heap.size wd wr/\J (cnt l s+j) wr) (fun i _=>l[s].length - (intOf i).toNat)
   case atStart=>exact⟨0,by omega,rfl,rJ.out,qj.out⟩
   case round=>
    obtain⟨j,hj,rfl,kV,PV⟩:=hrel;have om:=aa kV;clear kV;have Jf:=aa PV;clear PV;by_cases qb:j<l[s].length
    ·obtain⟨b2,o2,rfl,⟨⟨c0,_⟩,⟨c1,_⟩,⟨c2,_⟩,⟨c3,_⟩,⟨c4,_⟩,⟨c5,_⟩,⟨c6,_⟩⟩,c7,_⟩:=E2.out j qb
     have d0:=om.out.cell c0;have d1:=om.out.cell c1;have d2:=om.out.cell c2;have d3:=om.out.cell c3;have d4:=om.out.cell c4;have d5:=om.out.cell c5;have d6:=om.out.cell c6;have d7:=om.out.cell c7;clear c0 c1 c2 c3 c4 c5 c6 c7;have KS:=tH l s j aF qb;have kl:=A3 l s aF;generalize hm:l[s][j]=m at d0 d1 d2 d3 d4 d5 d6 d7 KS;obtain⟨fn,tmps,assign,body,hy,hR⟩:=HY.out (cnt l s+j) (wr.alloc (.cells #[.int .i64 m.r.g.n,.int .i64 m.r.g.h0,.int .i64 m.r.g.h1,.int .i64 m.r.g.h2,.int .i64 m.r.g.h3,.int .i64 m.r.g.h4,.int .i64 m.r.f,.int .i64 m.to] 98)) (by omega) (HJ.out _ _ _ Jf.out (by go_grown));unfold Dv at hy;rw[KS]at hy;dsimp only at hy;have HR:=aa hR;clear hR KS hm
     gi_wp2
     refine⟨rfl,HR.out.mono ?_⟩;rintro e W3 (⟨rfl,oB,wn,ke⟩|⟨rfl,np⟩)
     ·gi_wp2
      go_roundw
      case rel=>exact⟨j+1,by omega,by go_num,gx.trans (om.out.alloc _) ke,oB⟩
      case measure=>simp[intOf];omega
     ·gi_wp2
      refine bodyPost_ret (results_none rfl _ _ _) rfl ?_;exact⟨⟨_,rfl⟩,.inr ⟨_,by omega,np⟩⟩
    ·gi_wp2
     go_roundw
     case rel=>
      refine⟨s+1,by omega,by go_num,om.out,?_⟩;have e:l[s].length=j:=by omega
      rw[kD l s aF,e];exact Jf.out
     case measure=>simp[intOf];omega
  ·gi_wp2
   go_end0
   exact⟨⟨_,rfl⟩,.inl (by rw[<-oR l s (by omega)];exact qj.out)⟩
def sizedE(a:Adv):Int:=if a.states.length<1\/256<a.states.length\/4096<movesN a.states then 5 else 0
theorem Ng(a:Adv) (v:Value) (w:World) (hv:bn w v a.states) (hN:movesN a.states<1099511627776) :
  Calls Tryz.prog 81 #[.agg #[.int .i64 a.n,v]] w fun e w'=>e=.returned (.int .i64 (sizedE a))/\Below w.heap.size w w':=by
 have G:=aa hv;obtain⟨pa,ca,rfl,la1,la2,_⟩:=hv.at;clear hv;refine eI Tryz.func81 rfl ?_;simp only[Tryz.ntmps81,List.size_toArray,List.length_cons,List.length_nil,Nat.reduceAdd,Nat.reduceSub,Array.replicate_succ,Array.replicate_zero,List.push_toArray,List.append_toArray,List.nil_append,List.cons_append]
 go_wp2_with fail
 refine(sa _ _ _ _ _).mono ?_;rintro e w1 ⟨rfl,rfl⟩
 go_wp2_with fail
 refine bw (fun W=>Below w.heap.size w W/\W.heap[w.heap.size]?=some (.cells #[.int .i64 a.n,.slice pa a.states.length ca] 27)/\W.heap[w.heap.size+1]?=some (.cells #[.int .i64 0] 3)/\W.heap[w.heap.size+1+1]?=some (.cells #[.int .i64 a.n,.slice pa a.states.length ca] 27))
  ⟨by go_grown,aq _ (aq _ (ar _ _)),aq _ (by simpa using ar (w.alloc (.cells #[.int .i64 a.n,.slice pa a.states.length ca] 27)) (.cells #[.int .i64 0] 3)),by simpa using ar ((w.alloc (.cells #[.int .i64 a.n,.slice pa a.states.length ca] 27)).alloc (.cells #[.int .i64 0] 3)) (.cells #[.int .i64 a.n,.slice pa a.states.length ca] 27)⟩ (fun W0 bd=>?_)
 obtain⟨aH,hA,sP,hX⟩:=bd;have bP:=qU w _ a.states G.out W0 aH (w.heap.size+1+1) (by simp[ae hX]);have dM:=aB hX
 refine kG (gf:=125) (lb:=#[.pointer (some ⟨w.heap.size+1+1,0,none⟩)]) rfl (enters_of Tryz.func125 (by kernel_rfl) rfl) bP (Below.refl _ _) (fun k hk=>Nat.lt_of_lt_of_le hk aH.size) (fun i=>rfl)
  (fun i W=>Below w.heap.size w W/\W.heap[w.heap.size]?=some (.cells #[.int .i64 a.n,.slice pa a.states.length ca] 27)/\W.heap[w.heap.size+1]?=some (.cells #[.int .i64 i] 3))
  (fun _ _ _=>False) (fun i=>(bR.below (by omega)).and (bR.cells.and bR.cells)) (fun _ _=>bR.pure) ⟨aH,hA,sP⟩ ?round ?done ?stop
 case round=>
  intro l i W hi hl hI;unfold Dv
  gi_wp2
  refine⟨Bod.refl _ _ _,_,(bR.below (w:=w) (by omega)).and (bR.cells.and bR.cells),hI,fun W2 h2 _=>?_⟩;obtain⟨g1,g2,g3⟩:=h2;have c1:=ae g3 0;have f1:=aD g3 0;simp at c1;have HG:=aa (And.intro g1 (And.intro g2 g3));clear g1 g2 g3 hI bP
  gi_wp2
  obtain⟨g1,g2,g3⟩:=HG.out;refine⟨Bod.setCell _ _ _ (by simp),g1.setCell (by simp) _,aI g2 (by omega) _ _,?_⟩;rw[aE g3];simp
 case done=>
  intro D W hD hI hK;obtain⟨g1,g2,g3⟩:=hI;have HG:=aa (And.intro g1 (And.intro g2 g3));have t1:=ae g2;have t2:=ae g3;clear g1 g2 g3 bP
  go_wp2
  all_goals
   refine dH hK (results_tmp rfl _ _ _) ?_;refine⟨aC ?_,cT (by omega) HG.out.1⟩
   go_light
   unfold sizedE
   grind
 case stop=>
  intro D c i W _ _ h;exact h.elim
def dA(l:List Int):Array Value:=(l.map (Value.int .i64)).toArray
def fC(n:Nat) (f:Nat->Int) (q:Nat):Array Value:=((List.range n).map fun j=>Value.int .i64 (if j<q then f j else 0)).toArray
theorem oY(n:Nat) (f:Nat->Int) (q:Nat):(fC n f q).size=n:=by simp[fC]
theorem wS(n:Nat) (f:Nat->Int) (q j:Nat) (hj:j<n):(fC n f q)[j]?=some (.int .i64 (if j<q then f j else 0)):=by simp[fC,hj]
theorem Nh(n:Nat) (f:Nat->Int) (q:Nat) (hq:q<n):(fC n f q).setIfInBounds q (.int .i64 (f q))=fC n f (q+1):=by
 apply Array.ext_getElem?;intro j;rw[Array.getElem?_setIfInBounds];by_cases hj:j<n
 ·rw[wS _ _ _ _ hj,wS _ _ _ _ hj]
  by_cases e:q=j
  ·subst e;rw[if_pos rfl,if_pos (by rw[oY];exact hj),if_pos (by omega)]
  ·rw[if_neg e]
   by_cases h:j<q
   ·rw[if_pos h,if_pos (by omega)]
   ·rw[if_neg h,if_neg (by omega)]
 ·have h1:(fC n f q)[j]?=none:=by rw[Array.getElem?_eq_none];rw[oY];omega
  have h2:(fC n f (q+1))[j]?=none:=by rw[Array.getElem?_eq_none];rw[oY];omega
  rw[h1,h2,if_neg (by omega)]
theorem GP(n:Nat) (f:Nat->Int):fC n f n=dA ((List.range n).map f):=by
 unfold fC dA;rw[List.map_map];congr 1;refine List.map_congr_left fun j hj=>?_
 rw[if_pos (List.mem_range.1 hj)];rfl
theorem Tq(f:Nat->Int) (n:Nat):madeCells (Value.int .i64 0).cells n=fC n f 0:=by
 apply Array.ext
 ·simp[madeCells,fC]
 ·intro i h1 h2
  simp[madeCells,fC,Value.cells,Nat.mod_one]
theorem nz(f:Nat->Int) (n:Nat) (hn:n<=256) (w:World):(Instr.makeSlice 36 (.int .i64 (n:Int)) (.int .i64 (n:Int))).run Tryz.prog w=.ok (.slice (some ⟨w.heap.size,0,none⟩) n n) (w.alloc (.cells (fC n f 0) 3)):=by
 have My:(Tryz.prog.info? 3).map (fun i=>(i.zero,i.size,i.bytes))=some (some (.int .i64 0),1,8):=by kernel_rfl
 obtain⟨i,hi,dp,du,eB⟩:=info_parts My;have:=run_make (P:=Tryz.prog) w 36 3 i (.int .i64 0) Tryz.underlying36 hi dp .i64 .i64 (n:Int) (n:Int) (by omega) (by omega) (by rw[eB];omega) (by omega);rw[this,du,Nat.mul_one];simp only[Int.toNat_natCast,Tq f]
theorem uM{W:World} {B:Nat} {now:List Int} {n:Nat} (hl:now.length=n) (hn:n<=256) (h:W.heap[B]?=some (.cells (dA now) 3)) (hr:∀ i,i<now.length->bK (now.getD i 0)):aU W (.slice (some ⟨B,0,none⟩) n n) now:=by
 subst hl;refine⟨some ⟨B,0,none⟩,now.length,rfl,⟨Nat.le_refl _,by omega,fun e=>by cases e⟩,by omega,fun i x hx=>⟨B,0,rfl,?_⟩⟩;obtain⟨hi,rfl⟩:=List.getElem?_eq_some_iff.1 hx;refine⟨?_,?_⟩
 ·rw[ae h,Nat.zero_add,Nat.mul_one]
  simp[dA,hi]
 ·have:=hr i hi
  rwa [aA 0 hi]at this
end Go.Proofs.YtkfgpnbpcpdclaaGreat
