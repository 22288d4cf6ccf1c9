/-
  WalkShortens holds as it is given, tied to the program's text: the call returns true. Conditions: the library's tables start as the text lays them (the card ties them).
-/
import Derived.Test.YtmeaoneaephjeaaGreatDoorS14
set_option maxRecDepth 100000
set_option maxHeartbeats 8000000
set_option linter.unusedVariables false
set_option linter.unusedSimpArgs false
namespace Go.Proofs.YtmeaoneaephjeaaGreatDoor
open Go.ChangeShapes Go.WideShapes Go.ChangeAt Go.WideMaps Go.WideElems Go.RowKit Go
set_option linter.unusedVariables false
theorem xz(os:Os) (started:os.Started) (H:Type) (enc:TypeId × Value->H) :
  ReturnsInHanded {} Tryz.checked os 7 .any (fun w args=>(Rows.walkShortensSpec.pre enc Tryz.prog Tryz.f7 [] false w args/\laidMetH Tryz.prog Cv w)/\sizedMet enc Tryz.prog Tryz.f7 (OpenSpec.ofChange Rows.walkShortensSpec) false w args)
   (Rows.walkShortensSpec.post enc Tryz.prog Tryz.f7 false true false false):=by
 refine returnsInHanded_of_change_and (C:=Tryz.checked) (X:=fun w _=>laidMetH Tryz.prog Cv w) (fun _ _ _ hh h=>h.of_heap hh) Tryz.own started (by kernel_rfl) Tryz.func7
  (ChangeSpec.witness_shaped (enc:=enc) (C:=Tryz.checked) (os:=os) (X:=fun w _=>laidMetH Tryz.prog Cv w) false (World.doorLaid Tryz.prog 400 os) #[.agg #[.int .i64 0,.int .i64 0,.int .i64 0,.slice none 0 0,.int .i64 0,.slice none 0 0,.int .i64 0]] 8 rfl (World.shaped_of_RefB (by kernel_rfl) (by kernel_rfl)) (by kernel_rfl) (by kernel_rfl) (by kernel_rfl) (R6 os _)) ?_
 intro W base args ds gs before hval0 hW hcnd mM hL _;have hval:∀ (j:Nat) t v,Tryz.f7.params[j]?=some t->args[j]?=some v->Value.okWide Tryz.prog W .any base t v:=hval0;have TI:=hW;obtain⟨p,q,bK,hV,rfl,nf,TZ⟩:=hW;have hA:DataW.TrodAll enc Tryz.prog W 0 (fun _=>true) true Tryz.f7.params.toList args.toList ds p:=bK;have eQ:(DataW.weightsEach Tryz.prog (Tryz.f7.params.toList++Rows.walkShortensSpec.plain.varTypes Tryz.prog) (ds++gs)).all (·<=reachBytes)=true:=mM;rw[Tryz.params7]at hA hval eQ;obtain⟨v0,vs0,d0,ds0,p0,q0,hargs,rfl,rfl,h0,r0⟩:=trodAll_cons hA;obtain⟨rfl,rfl,rfl⟩:=trodAll_nil r0;obtain rfl:args=#[v0]:=by cases args;simp_all
 obtain⟨rfl,rfl⟩:=trodVars_none hV;have k0:=h0;have lt0:∀ x∈p0,x.block<W.heap.size:=by obtain⟨m,hm⟩:=k0;exact DataW.trod_lt m _ _ _ hm
 have z0:yr 29 d0:=fun n hn=>by
  have:=List.all_eq_true.1 eQ n (DataW.weights_mem_each (j:=0) (t:=29) (d:=d0) rfl rfl n hn);simpa using this
 obtain⟨c0,rfl,_⟩:=okWide_struct Tryz.underlying29 (hval 0 29 v0 rfl rfl);obtain⟨m0,gW⟩:=h0;obtain⟨pb0,vc0,vs0',e0,uW,CT⟩:=PH gW z0;obtain⟨l0⟩:=c0;simp only[Value.cells]at e0;subst e0;have hw:=VB hL;clear bK hval0;refine(zS pb0 _ _ W hw uW CT).mono fun e W' ⟨he,bel⟩=>?_
 subst he;exact⟨_,rfl,_,_,_,[],_,[],TI,trodAll_mk1 (shut_bool Tryz.underlying4 _),(trodAll_cons_mk (Below.trod Tryz.laidOut (by kernel_rfl) (of_decide_eq_true (by kernel_rfl)) k0 bel lt0) trodAll_mk0),rfl,bel.frame _,fun h=>by cases h⟩
theorem walkShortens_row:Rows.WalkShortensSaid:=
 OpenClaim.holds_of_wide 7 Tryz.f7 rfl rfl rfl rfl rfl rfl rfl ⟨rfl,rfl,rfl,rfl,rfl⟩ rfl rfl rfl rfl rfl (by kernel_rfl) Tryz.func7 (by kernel_rfl)
  (of_decide_eq_true (by kernel_rfl)) (by unfold Func.isWrapper;first|(rw[if_pos (by decide +kernel)];kernel_rfl)|(rw[if_neg (by decide +kernel)];exact⟨rfl,rfl⟩))
  (fun os started H enc _=>xz os started H enc)
theorem walkShortens_holds:Rows.WalkShortensCardSaid:=
 Claim7.holds_tied_plain_at .later [] [.data,.data] true Rows.walkShortensCard.stood.harness false
  walkShortens_row (fun _ h=>by cases h) (by kernel_rfl) (fun _ h=>by cases h) walkShortens_row_tie rfl ⟨rfl,rfl⟩ (by kernel_rfl) rfl
  (fun f fn hf hfn=>by
   obtain rfl : f = 7 := dE ((show Tryz.prog.funcNamed "roundtable/roundtablelaw47.WalkShortens" = some 7 by kernel_rfl).symm.trans hf) |>.symm; obtain rfl : fn = Tryz.f7 := (dE (Tryz.func7.symm.trans hfn)).symm
   exact⟨by kernel_rfl,fun j t ht=>by
    rw[Tryz.params7]at ht;rcases j with _|j
    ·obtain rfl:29=t:=by simpa using ht
     exact(show Tryz.prog.wantsStandIn 29=false by kernel_rfl)
    ·simp at ht⟩)
  (by kernel_rfl)
end Go.Proofs.YtmeaoneaephjeaaGreatDoor
