/-
  WalkValues holds as it is given, tied to the program's text: the call returns true. Conditions: the library's tables start as the text lays them (the card ties them).
-/
import Derived.Test.YtmeaoneaephjeaaGreatDoorJ13
set_option maxRecDepth 100000
set_option maxHeartbeats 8000000
set_option linter.unusedVariables false
set_option linter.unusedSimpArgs false
namespace Go.Proofs.YtmeaoneaephjeaaGreatDoor
open Go.ChangeShapes Go.WideShapes Go.ChangeAt Go.WideMaps Go.WideElems Go.RowKit Go
set_option linter.unusedVariables false
theorem zw(os:Os) (started:os.Started) (H:Type) (enc:TypeId × Value->H) :
  ReturnsInHanded {} Tryz.checked os 3 .any (fun w args=>(Rows.walkValuesSpec.pre enc Tryz.prog Tryz.f3 [] false w args/\laidMetH Tryz.prog BA w)/\sizedMet enc Tryz.prog Tryz.f3 (OpenSpec.ofChange Rows.walkValuesSpec) false w args)
   (Rows.walkValuesSpec.post enc Tryz.prog Tryz.f3 false true false false):=by
 refine returnsInHanded_of_change_and (C:=Tryz.checked) (X:=fun w _=>laidMetH Tryz.prog BA w) (fun _ _ _ hh h=>h.of_heap hh) Tryz.own started (by kernel_rfl) Tryz.func3
  (ChangeSpec.witness_shaped (enc:=enc) (C:=Tryz.checked) (os:=os) (X:=fun w _=>laidMetH Tryz.prog BA w) false (World.doorLaid Tryz.prog 400 os) #[.agg #[.int .i64 0,.int .i64 0,.int .i64 0,.slice none 0 0,.int .i64 0,.slice none 0 0,.int .i64 0,.int .i64 0,.slice none 0 0,.slice none 0 0],.int .i64 0] 8 rfl (World.shaped_of_RefB (by kernel_rfl) (by kernel_rfl)) (by kernel_rfl) (by kernel_rfl) (by kernel_rfl) (Qs os _)) ?_
 intro W base args ds gs before hval0 hW hcnd mA hL _;have R4:∀ (j:Nat) t v,Tryz.f3.params[j]?=some t->args[j]?=some v->Value.okWide Tryz.prog W .any base t v:=hval0;have Tf:=hW;obtain⟨p,q,bB,hV,rfl,mU,TN⟩:=hW;have hA:DataW.TrodAll enc Tryz.prog W 0 (fun _=>true) true Tryz.f3.params.toList args.toList ds p:=bB;have eT:(DataW.weightsEach Tryz.prog (Tryz.f3.params.toList++Rows.walkValuesSpec.plain.varTypes Tryz.prog) (ds++gs)).all (·<=reachBytes)=true:=mA;rw[Tryz.params3]at hA R4 eT;obtain⟨v0,vs0,d0,ds0,p0,q0,hargs,rfl,rfl,h0,r0⟩:=trodAll_cons hA;obtain⟨v1,vs1,d1,ds1,p1,q1,rfl,rfl,rfl,h1,r1⟩:=trodAll_cons r0;obtain⟨rfl,rfl,rfl⟩:=trodAll_nil r1;obtain rfl:args=#[v0,v1]:=by cases args;simp_all
 obtain⟨rfl,rfl⟩:=trodVars_none hV;have k0:=h0;have k1:=h1;have lt0:∀ x∈p0,x.block<W.heap.size:=by obtain⟨m,hm⟩:=k0;exact DataW.trod_lt m _ _ _ hm
 have lt1:∀ x∈p1,x.block<W.heap.size:=by obtain⟨m,hm⟩:=k1;exact DataW.trod_lt m _ _ _ hm
 have z0:oe 35 d0:=fun n hn=>by
  have:=List.all_eq_true.1 eT n (DataW.weights_mem_each (j:=0) (t:=35) (d:=d0) rfl rfl n hn);simpa using this
 obtain⟨c0,rfl,_⟩:=okWide_struct Tryz.underlying35 (R4 0 35 v0 rfl rfl);obtain⟨x1,rfl⟩:=okWide_int Tryz.underlying3 (R4 1 3 v1 rfl rfl);obtain⟨m0,gI⟩:=h0;obtain⟨s0,vc0,vs0',vt0,ve0,e0,g0⟩:=Qr gI z0;obtain⟨l0⟩:=c0;simp only[Value.cells]at e0;subst e0;have hw:=T0 hL;clear bB hval0;refine(Cd s0 x1 _ _ _ _ W hw g0).mono fun e W' ⟨he,bel⟩=>?_
 subst he;exact⟨_,rfl,_,_,_,[],_,[],Tf,trodAll_mk1 (shut_bool Tryz.underlying4 _),(trodAll_cons_mk (Below.trod Tryz.laidOut (by kernel_rfl) (of_decide_eq_true (by kernel_rfl)) k0 bel lt0) (trodAll_cons_mk (Below.trod Tryz.laidOut (by kernel_rfl) (of_decide_eq_true (by kernel_rfl)) k1 bel lt1) trodAll_mk0)),rfl,bel.frame _,fun h=>by cases h⟩
theorem walkValues_row:Rows.WalkValuesSaid:=
 OpenClaim.holds_of_wide 3 Tryz.f3 rfl rfl rfl rfl rfl rfl rfl ⟨rfl,rfl,rfl,rfl,rfl⟩ rfl rfl rfl rfl rfl (by kernel_rfl) Tryz.func3 (by kernel_rfl)
  (of_decide_eq_true (by kernel_rfl)) (by unfold Func.isWrapper;first|(rw[if_pos (by decide +kernel)];kernel_rfl)|(rw[if_neg (by decide +kernel)];exact⟨rfl,rfl⟩))
  (fun os started H enc _=>zw os started H enc)
theorem walkValues_holds:Rows.WalkValuesCardSaid:=
 Claim7.holds_tied_plain_at .later [] [.data,.data] true Rows.walkValuesCard.stood.harness false
  walkValues_row (fun _ h=>by cases h) (by kernel_rfl) (fun _ h=>by cases h) walkValues_row_tie rfl ⟨rfl,rfl⟩ (by kernel_rfl) rfl
  (fun f fn hf hfn=>by
   obtain rfl : f = 3 := dp ((show Tryz.prog.funcNamed "roundtable/roundtablelaw47.WalkValues" = some 3 by kernel_rfl).symm.trans hf) |>.symm; obtain rfl : fn = Tryz.f3 := (dp (Tryz.func3.symm.trans hfn)).symm
   exact⟨by kernel_rfl,fun j t ht=>by
    rw[Tryz.params3]at ht;rcases j with _|_|j
    ·obtain rfl:35=t:=by simpa using ht
     exact(show Tryz.prog.wantsStandIn 35=false by kernel_rfl)
    ·obtain rfl:3=t:=by simpa using ht
     exact(show Tryz.prog.wantsStandIn 3=false by kernel_rfl)
    ·simp at ht⟩)
  (by kernel_rfl)
end Go.Proofs.YtmeaoneaephjeaaGreatDoor
