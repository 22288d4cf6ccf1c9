/-
  WalkVerifies holds as it is given, tied to the program's text: the call returns true. Conditions: the library's tables start as the text lays them (the card ties them).
-/
import Derived.Test.YtmeaoneaephjeaaGreatDoorK14
set_option maxRecDepth 100000
set_option maxHeartbeats 8000000
set_option linter.unusedVariables false
set_option linter.unusedSimpArgs false
namespace Go.Proofs.YtmeaoneaephjeaaGreatDoor
open Go.ChangeShapes Go.WideShapes Go.ChangeAt Go.WideMaps Go.WideElems Go.RowKit Go
set_option linter.unusedVariables false
theorem xn(os:Os) (started:os.Started) (H:Type) (enc:TypeId × Value->H) :
  ReturnsInHanded {} Tryz.checked os 5 .any (fun w args=>(Rows.walkVerifiesSpec.pre enc Tryz.prog Tryz.f5 [] false w args/\laidMetH Tryz.prog BG w)/\sizedMet enc Tryz.prog Tryz.f5 (OpenSpec.ofChange Rows.walkVerifiesSpec) false w args)
   (Rows.walkVerifiesSpec.post enc Tryz.prog Tryz.f5 false true false false):=by
 refine returnsInHanded_of_change_and (C:=Tryz.checked) (X:=fun w _=>laidMetH Tryz.prog BG w) (fun _ _ _ hh h=>h.of_heap hh) Tryz.own started (by kernel_rfl) Tryz.func5
  (ChangeSpec.witness_shaped (enc:=enc) (C:=Tryz.checked) (os:=os) (X:=fun w _=>laidMetH Tryz.prog BG w) false (World.doorLaid Tryz.prog 400 os) #[.agg #[.int .i64 0,.int .i64 0,.int .i64 0,.slice none 0 0,.int .i64 0,.slice none 0 0,.int .i64 0,.int .i64 0,.slice none 0 0,.slice none 0 0],.agg #[.int .i64 0,.slice none 0 0,.slice none 0 0,.slice none 0 0,.slice none 0 0]] 8 rfl (World.shaped_of_RefB (by kernel_rfl) (by kernel_rfl)) (by kernel_rfl) (by kernel_rfl) (by kernel_rfl) (Qt os _)) ?_
 intro W base args ds gs before hval0 hW hcnd mn hL _;have Sg:∀ (j:Nat) t v,Tryz.f5.params[j]?=some t->args[j]?=some v->Value.okWide Tryz.prog W .any base t v:=hval0;have TS:=hW;obtain⟨p,q,br,hV,rfl,mI,S3⟩:=hW;have hA:DataW.TrodAll enc Tryz.prog W 0 (fun _=>true) true Tryz.f5.params.toList args.toList ds p:=br;have eK:(DataW.weightsEach Tryz.prog (Tryz.f5.params.toList++Rows.walkVerifiesSpec.plain.varTypes Tryz.prog) (ds++gs)).all (·<=reachBytes)=true:=mn;rw[Tryz.params5]at hA Sg eK;obtain⟨v0,vs0,d0,ds0,p0,q0,hargs,rfl,rfl,h0,r0⟩:=trodAll_cons hA;obtain⟨v1,vs1,d1,ds1,p1,q1,rfl,rfl,rfl,h1,r1⟩:=trodAll_cons r0;obtain⟨rfl,rfl,rfl⟩:=trodAll_nil r1;obtain rfl:args=#[v0,v1]:=by cases args;simp_all
 obtain⟨rfl,rfl⟩:=trodVars_none hV;have k0:=h0;have k1:=h1;have lt0:∀ x∈p0,x.block<W.heap.size:=by obtain⟨m,hm⟩:=k0;exact DataW.trod_lt m _ _ _ hm
 have lt1:∀ x∈p1,x.block<W.heap.size:=by obtain⟨m,hm⟩:=k1;exact DataW.trod_lt m _ _ _ hm
 have z0:lH 35 d0:=fun n hn=>by
  have:=List.all_eq_true.1 eK n (DataW.weights_mem_each (j:=0) (t:=35) (d:=d0) rfl rfl n hn);simpa using this
 have z1:lH 58 d1:=fun n hn=>by
  have:=List.all_eq_true.1 eK n (DataW.weights_mem_each (j:=1) (t:=58) (d:=d1) rfl rfl n hn);simpa using this
 obtain⟨c0,rfl,_⟩:=okWide_struct Tryz.underlying35 (Sg 0 35 v0 rfl rfl);obtain⟨c1,rfl,_⟩:=okWide_struct Tryz.underlying58 (Sg 1 58 v1 rfl rfl);obtain⟨m0,gP⟩:=h0;obtain⟨s0,vc0,vs0',vt0,ve0,e0,g0⟩:=Qs gP z0;obtain⟨m1,ez⟩:=h1;obtain⟨ct1,vw1,pv1,cv1,pl1,cl1,pp1,cp1,e1,g1⟩:=NG ez z1;obtain⟨l0⟩:=c0;obtain⟨l1⟩:=c1;simp only[Value.cells]at e0 e1;subst e0 e1;have hw:=Ug hL;clear br hval0;refine(zK s0 ct1 pv1 cv1 pl1 cl1 pp1 cp1 _ _ _ _ _ W hw g0 g1).mono fun e W' ⟨he,bel⟩=>?_
 subst he;exact⟨_,rfl,_,_,_,[],_,[],TS,trodAll_mk1 (shut_bool Tryz.underlying4 _),(trodAll_cons_mk (Below.trod Tryz.laidOut (by kernel_rfl) (of_decide_eq_true (by kernel_rfl)) k0 bel lt0) (trodAll_cons_mk (Below.trod Tryz.laidOut (by kernel_rfl) (of_decide_eq_true (by kernel_rfl)) k1 bel lt1) trodAll_mk0)),rfl,bel.frame _,fun h=>by cases h⟩
theorem walkVerifies_row:Rows.WalkVerifiesSaid:=
 OpenClaim.holds_of_wide 5 Tryz.f5 rfl rfl rfl rfl rfl rfl rfl ⟨rfl,rfl,rfl,rfl,rfl⟩ rfl rfl rfl rfl rfl (by kernel_rfl) Tryz.func5 (by kernel_rfl)
  (of_decide_eq_true (by kernel_rfl)) (by unfold Func.isWrapper;first|(rw[if_pos (by decide +kernel)];kernel_rfl)|(rw[if_neg (by decide +kernel)];exact⟨rfl,rfl⟩))
  (fun os started H enc _=>xn os started H enc)
theorem walkVerifies_holds:Rows.WalkVerifiesCardSaid:=
 Claim7.holds_tied_plain_at .later [] [.data,.data] true Rows.walkVerifiesCard.stood.harness false
  walkVerifies_row (fun _ h=>by cases h) (by kernel_rfl) (fun _ h=>by cases h) walkVerifies_row_tie rfl ⟨rfl,rfl⟩ (by kernel_rfl) rfl
  (fun f fn hf hfn=>by
   obtain rfl : f = 5 := cU ((show Tryz.prog.funcNamed "roundtable/roundtablelaw47.WalkVerifies" = some 5 by kernel_rfl).symm.trans hf) |>.symm; obtain rfl : fn = Tryz.f5 := (cU (Tryz.func5.symm.trans hfn)).symm
   exact⟨by kernel_rfl,fun j t ht=>by
    rw[Tryz.params5]at ht;rcases j with _|_|j
    ·obtain rfl:35=t:=by simpa using ht
     exact(show Tryz.prog.wantsStandIn 35=false by kernel_rfl)
    ·obtain rfl:58=t:=by simpa using ht
     exact(show Tryz.prog.wantsStandIn 58=false by kernel_rfl)
    ·simp at ht⟩)
  (by kernel_rfl)
end Go.Proofs.YtmeaoneaephjeaaGreatDoor
