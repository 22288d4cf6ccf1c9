/-
  WalkTurns holds as it is given, tied to the program's text: the call returns true. Conditions: the library's tables start as the text lays them (the card ties them).
-/
import Derived.Test.YtmeaoneaephjeaaGreatDoorT14
set_option maxRecDepth 100000
set_option maxHeartbeats 8000000
set_option linter.unusedVariables false
set_option linter.unusedSimpArgs false
namespace Go.Proofs.YtmeaoneaephjeaaGreatDoor
open Go.ChangeShapes Go.WideShapes Go.ChangeAt Go.WideMaps Go.WideElems Go.RowKit Go
set_option linter.unusedVariables false
theorem Bm(os:Os) (started:os.Started) (H:Type) (enc:TypeId × Value->H) :
  ReturnsInHanded {} Tryz.checked os 6 .any (fun w args=>(Rows.walkTurnsSpec.pre enc Tryz.prog Tryz.f6 [] false w args/\laidMetH Tryz.prog Cr w)/\sizedMet enc Tryz.prog Tryz.f6 (OpenSpec.ofChange Rows.walkTurnsSpec) false w args)
   (Rows.walkTurnsSpec.post enc Tryz.prog Tryz.f6 false true false false):=by
 refine returnsInHanded_of_change_and (C:=Tryz.checked) (X:=fun w _=>laidMetH Tryz.prog Cr w) (fun _ _ _ hh h=>h.of_heap hh) Tryz.own started (by kernel_rfl) Tryz.func6
  (ChangeSpec.witness_shaped (enc:=enc) (C:=Tryz.checked) (os:=os) (X:=fun w _=>laidMetH Tryz.prog Cr w) false (World.doorLaid Tryz.prog 400 os) #[.agg #[.int .i64 0,.int .i64 0,.int .i64 0,.slice none 0 0,.int .i64 0,.slice none 0 0,.int .i64 0],.int .u8 0] 8 rfl (World.shaped_of_RefB (by kernel_rfl) (by kernel_rfl)) (by kernel_rfl) (by kernel_rfl) (by kernel_rfl) (Se os _)) ?_
 intro W base args ds gs before hval0 hW hcnd mU hL _;have SF:∀ (j:Nat) t v,Tryz.f6.params[j]?=some t->args[j]?=some v->Value.okWide Tryz.prog W .any base t v:=hval0;have Tz:=hW;obtain⟨p,q,bK,hV,rfl,nh,Uu⟩:=hW;have hA:DataW.TrodAll enc Tryz.prog W 0 (fun _=>true) true Tryz.f6.params.toList args.toList ds p:=bK;have eM:(DataW.weightsEach Tryz.prog (Tryz.f6.params.toList++Rows.walkTurnsSpec.plain.varTypes Tryz.prog) (ds++gs)).all (·<=reachBytes)=true:=mU;rw[Tryz.params6]at hA SF eM;obtain⟨v0,vs0,d0,ds0,p0,q0,hargs,rfl,rfl,h0,r0⟩:=trodAll_cons hA;obtain⟨v1,vs1,d1,ds1,p1,q1,rfl,rfl,rfl,h1,r1⟩:=trodAll_cons r0;obtain⟨rfl,rfl,rfl⟩:=trodAll_nil r1;obtain rfl:args=#[v0,v1]:=by cases args;simp_all
 obtain⟨rfl,rfl⟩:=trodVars_none hV;have k0:=h0;have k1:=h1;have lt0:∀ x∈p0,x.block<W.heap.size:=by obtain⟨m,hm⟩:=k0;exact DataW.trod_lt m _ _ _ hm
 have lt1:∀ x∈p1,x.block<W.heap.size:=by obtain⟨m,hm⟩:=k1;exact DataW.trod_lt m _ _ _ hm
 have z0:yw 29 d0:=fun n hn=>by
  have:=List.all_eq_true.1 eM n (DataW.weights_mem_each (j:=0) (t:=29) (d:=d0) rfl rfl n hn);simpa using this
 obtain⟨c0,rfl,_⟩:=okWide_struct Tryz.underlying29 (SF 0 29 v0 rfl rfl);obtain⟨x1,rfl,dA⟩:=KE Tryz.underlying5 (SF 1 5 v1 rfl rfl);obtain⟨m0,gR⟩:=h0;obtain⟨pb0,vc0,vs0',e0,vD,C9⟩:=PO gR z0;obtain⟨l0⟩:=c0;simp only[Value.cells]at e0;subst e0;have hw:=VH hL;clear bK hval0;refine(Eh pb0 x1 dA _ _ W hw vD C9).mono fun e W' ⟨he,bel⟩=>?_
 subst he;exact⟨_,rfl,_,_,_,[],_,[],Tz,trodAll_mk1 (shut_bool Tryz.underlying4 _),(trodAll_cons_mk (Below.trod Tryz.laidOut (by kernel_rfl) (of_decide_eq_true (by kernel_rfl)) k0 bel lt0) (trodAll_cons_mk (Below.trod Tryz.laidOut (by kernel_rfl) (of_decide_eq_true (by kernel_rfl)) k1 bel lt1) trodAll_mk0)),rfl,bel.frame _,fun h=>by cases h⟩
theorem walkTurns_row:Rows.WalkTurnsSaid:=
 OpenClaim.holds_of_wide 6 Tryz.f6 rfl rfl rfl rfl rfl rfl rfl ⟨rfl,rfl,rfl,rfl,rfl⟩ rfl rfl rfl rfl rfl (by kernel_rfl) Tryz.func6 (by kernel_rfl)
  (of_decide_eq_true (by kernel_rfl)) (by unfold Func.isWrapper;first|(rw[if_pos (by decide +kernel)];kernel_rfl)|(rw[if_neg (by decide +kernel)];exact⟨rfl,rfl⟩))
  (fun os started H enc _=>Bm os started H enc)
theorem walkTurns_holds:Rows.WalkTurnsCardSaid:=
 Claim7.holds_tied_plain_at .later [] [.data,.data] true Rows.walkTurnsCard.stood.harness false
  walkTurns_row (fun _ h=>by cases h) (by kernel_rfl) (fun _ h=>by cases h) walkTurns_row_tie rfl ⟨rfl,rfl⟩ (by kernel_rfl) rfl
  (fun f fn hf hfn=>by
   obtain rfl : f = 6 := dp ((show Tryz.prog.funcNamed "roundtable/roundtablelaw47.WalkTurns" = some 6 by kernel_rfl).symm.trans hf) |>.symm; obtain rfl : fn = Tryz.f6 := (dp (Tryz.func6.symm.trans hfn)).symm
   exact⟨by kernel_rfl,fun j t ht=>by
    rw[Tryz.params6]at ht;rcases j with _|_|j
    ·obtain rfl:29=t:=by simpa using ht
     exact(show Tryz.prog.wantsStandIn 29=false by kernel_rfl)
    ·obtain rfl:5=t:=by simpa using ht
     exact(show Tryz.prog.wantsStandIn 5=false by kernel_rfl)
    ·simp at ht⟩)
  (by kernel_rfl)
end Go.Proofs.YtmeaoneaephjeaaGreatDoor
