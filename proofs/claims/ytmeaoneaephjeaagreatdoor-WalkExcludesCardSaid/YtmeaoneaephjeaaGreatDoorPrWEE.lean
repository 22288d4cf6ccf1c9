/-
  WalkExcludes holds as it is given, tied to the program's text: the call returns true. Conditions: the library's tables start as the text lays them (the card ties them).
-/
import Derived.Test.YtmeaoneaephjeaaGreatDoorE14
set_option maxRecDepth 100000
set_option maxHeartbeats 8000000
set_option linter.unusedVariables false
set_option linter.unusedSimpArgs false
namespace Go.Proofs.YtmeaoneaephjeaaGreatDoor
open Go.ChangeShapes Go.WideShapes Go.ChangeAt Go.WideMaps Go.WideElems Go.RowKit Go
set_option linter.unusedVariables false
theorem xZ(os:Os) (started:os.Started) (H:Type) (enc:TypeId × Value->H) :
  ReturnsInHanded {} Tryz.checked os 8 .any (fun w args=>(Rows.walkExcludesSpec.pre enc Tryz.prog Tryz.f8 [] false w args/\laidMetH Tryz.prog C7 w)/\sizedMet enc Tryz.prog Tryz.f8 (OpenSpec.ofChange Rows.walkExcludesSpec) false w args)
   (Rows.walkExcludesSpec.post enc Tryz.prog Tryz.f8 false true false false):=by
 refine returnsInHanded_of_change_and (C:=Tryz.checked) (X:=fun w _=>laidMetH Tryz.prog C7 w) (fun _ _ _ hh h=>h.of_heap hh) Tryz.own started (by kernel_rfl) Tryz.func8
  (ChangeSpec.witness_shaped (enc:=enc) (C:=Tryz.checked) (os:=os) (X:=fun w _=>laidMetH Tryz.prog C7 w) false (World.doorLaid Tryz.prog 400 os) #[.agg #[.int .i64 0,.int .i64 0,.int .i64 0,.slice none 0 0,.int .i64 0,.slice none 0 0,.int .i64 0],.agg #[.slice none 0 0]] 8 rfl (World.shaped_of_RefB (by kernel_rfl) (by kernel_rfl)) (by kernel_rfl) (by kernel_rfl) (by kernel_rfl) (Sx os _)) ?_
 intro W base args ds gs before hval0 hW hcnd mY hL _;have SH:∀ (j:Nat) t v,Tryz.f8.params[j]?=some t->args[j]?=some v->Value.okWide Tryz.prog W .any base t v:=hval0;have Uh:=hW;obtain⟨p,q,bB,hV,rfl,nq,Uz⟩:=hW;have hA:DataW.TrodAll enc Tryz.prog W 0 (fun _=>true) true Tryz.f8.params.toList args.toList ds p:=bB;have eT:(DataW.weightsEach Tryz.prog (Tryz.f8.params.toList++Rows.walkExcludesSpec.plain.varTypes Tryz.prog) (ds++gs)).all (·<=reachBytes)=true:=mY;rw[Tryz.params8]at hA SH eT;obtain⟨v0,vs0,d0,ds0,p0,q0,hargs,rfl,rfl,h0,r0⟩:=trodAll_cons hA;obtain⟨v1,vs1,d1,ds1,p1,q1,rfl,rfl,rfl,h1,r1⟩:=trodAll_cons r0;obtain⟨rfl,rfl,rfl⟩:=trodAll_nil r1;obtain rfl:args=#[v0,v1]:=by cases args;simp_all
 obtain⟨rfl,rfl⟩:=trodVars_none hV;have k0:=h0;have k1:=h1;have lt0:∀ x∈p0,x.block<W.heap.size:=by obtain⟨m,hm⟩:=k0;exact DataW.trod_lt m _ _ _ hm
 have lt1:∀ x∈p1,x.block<W.heap.size:=by obtain⟨m,hm⟩:=k1;exact DataW.trod_lt m _ _ _ hm
 have z0:sO 29 d0:=fun n hn=>by
  have:=List.all_eq_true.1 eT n (DataW.weights_mem_each (j:=0) (t:=29) (d:=d0) rfl rfl n hn);simpa using this
 have z1:sO 49 d1:=fun n hn=>by
  have:=List.all_eq_true.1 eT n (DataW.weights_mem_each (j:=1) (t:=49) (d:=d1) rfl rfl n hn);simpa using this
 obtain⟨c0,rfl,_⟩:=okWide_struct Tryz.underlying29 (SH 0 29 v0 rfl rfl);obtain⟨c1,rfl,_⟩:=okWide_struct Tryz.underlying49 (SH 1 49 v1 rfl rfl);obtain⟨m0,fU⟩:=h0;obtain⟨pb0,vc0,vs0',e0,sA,DL⟩:=OW fU z0;obtain⟨m1,eV⟩:=h1;obtain⟨vr1,lr1,e1,g1⟩:=PN eV z1;obtain⟨l0⟩:=c0;obtain⟨l1⟩:=c1;simp only[Value.cells]at e0 e1;subst e0 e1;have hw:=We hL;clear bB hval0;refine(Ar pb0 lr1 _ _ _ W hw sA DL g1).mono fun e W' ⟨he,bel⟩=>?_
 subst he;exact⟨_,rfl,_,_,_,[],_,[],Uh,trodAll_mk1 (shut_bool Tryz.underlying4 _),(trodAll_cons_mk (Below.trod Tryz.laidOut (by kernel_rfl) (of_decide_eq_true (by kernel_rfl)) k0 bel lt0) (trodAll_cons_mk (Below.trod Tryz.laidOut (by kernel_rfl) (of_decide_eq_true (by kernel_rfl)) k1 bel lt1) trodAll_mk0)),rfl,bel.frame _,fun h=>by cases h⟩
theorem walkExcludes_row:Rows.WalkExcludesSaid:=
 OpenClaim.holds_of_wide 8 Tryz.f8 rfl rfl rfl rfl rfl rfl rfl ⟨rfl,rfl,rfl,rfl,rfl⟩ rfl rfl rfl rfl rfl (by kernel_rfl) Tryz.func8 (by kernel_rfl)
  (of_decide_eq_true (by kernel_rfl)) (by unfold Func.isWrapper;first|(rw[if_pos (by decide +kernel)];kernel_rfl)|(rw[if_neg (by decide +kernel)];exact⟨rfl,rfl⟩))
  (fun os started H enc _=>xZ os started H enc)
theorem walkExcludes_holds:Rows.WalkExcludesCardSaid:=
 Claim7.holds_tied_plain_at .later [] [.data,.data] true Rows.walkExcludesCard.stood.harness false
  walkExcludes_row (fun _ h=>by cases h) (by kernel_rfl) (fun _ h=>by cases h) walkExcludes_row_tie rfl ⟨rfl,rfl⟩ (by kernel_rfl) rfl
  (fun f fn hf hfn=>by
   obtain rfl : f = 8 := dy ((show Tryz.prog.funcNamed "roundtable/roundtablelaw47.WalkExcludes" = some 8 by kernel_rfl).symm.trans hf) |>.symm; obtain rfl : fn = Tryz.f8 := (dy (Tryz.func8.symm.trans hfn)).symm
   exact⟨by kernel_rfl,fun j t ht=>by
    rw[Tryz.params8]at ht;rcases j with _|_|j
    ·obtain rfl:29=t:=by simpa using ht
     exact(show Tryz.prog.wantsStandIn 29=false by kernel_rfl)
    ·obtain rfl:49=t:=by simpa using ht
     exact(show Tryz.prog.wantsStandIn 49=false by kernel_rfl)
    ·simp at ht⟩)
  (by kernel_rfl)
end Go.Proofs.YtmeaoneaephjeaaGreatDoor
