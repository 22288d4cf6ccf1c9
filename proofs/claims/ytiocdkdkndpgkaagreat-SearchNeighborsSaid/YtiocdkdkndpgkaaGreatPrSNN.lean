/-
  SearchNeighbors holds as it is given: for all problems and plays, search's Neighbors returns the specified plays, or the specified error. No conditions.
-/
import Derived.Test.YtiocdkdkndpgkaaGreatN12
set_option maxRecDepth 100000
set_option maxHeartbeats 8000000
set_option linter.unusedVariables false
set_option linter.unusedSimpArgs false
namespace Go.Proofs.YtiocdkdkndpgkaaGreat
open Go.ChangeShapes Go.WideShapes Go.ChangeAt Go.RowKit Go
set_option linter.unusedVariables false
theorem pp(os:Os) (started:os.Started) (H:Type) (enc:TypeId × Value->H) :
  ReturnsInHanded {} Tryz.checked os 5 .any (Rows.searchNeighborsSpec.pre6 enc Tryz.prog Tryz.f5 Rows.searchNeighborsRow.domain false) (Rows.searchNeighborsSpec.post enc Tryz.prog Tryz.f5 false true false false):=by
 refine returnsInHanded_of_change_sized (C:=Tryz.checked) Tryz.own started (by kernel_rfl) Tryz.func5
  (ChangeSpec.witness6 (enc:=enc) (C:=Tryz.checked) false ⟨#[],#[.agg #[.int .i64 0,.int .i64 0,.int .i64 0,.slice none 0 0,.int .i64 0,.slice none 0 0,.int .i64 0],.agg #[.slice none 0 0,.slice none 0 0]],[]⟩ 8 (by kernel_rfl) (by kernel_rfl) (by kernel_rfl) (by kernel_rfl)) ?_
 intro W base args ds gs before hval0 hW hcnd hsz0 _;have NE:∀ (j:Nat) t v,Tryz.f5.params[j]?=some t->args[j]?=some v->Value.okWide Tryz.prog W .any base t v:=hval0;have hW':=hW;obtain⟨p,q,jB,hV,rfl,Aj,oX⟩:=hW;have hA:DataW.TrodAll enc Tryz.prog W 0 (fun _=>true) true Tryz.f5.params.toList args.toList ds p:=jB;have bA:(DataW.weightsEach Tryz.prog (Tryz.f5.params.toList++Rows.searchNeighborsSpec.plain.varTypes Tryz.prog) (ds++gs)).all (·<=reachBytes)=true:=hsz0;rw[Tryz.params5]at hA NE bA;obtain⟨v0,vs0,d0,ds0,p0,q0,AT,rfl,rfl,h0,r0⟩:=trodAll_cons hA;obtain⟨v1,vs1,d1,ds1,p1,q1,rfl,rfl,rfl,h1,r1⟩:=trodAll_cons r0;obtain⟨rfl,rfl,rfl⟩:=trodAll_nil r1;obtain rfl:args=#[v0,v1]:=by cases args;simp_all
 obtain⟨rfl,rfl⟩:=trodVars_none hV;have k0:=h0;have k1:=h1;have lt0:∀ x∈p0,x.block<W.heap.size:=by obtain⟨m,hm⟩:=k0;exact DataW.trod_lt m _ _ _ hm
 have lt1:∀ x∈p1,x.block<W.heap.size:=by obtain⟨m,hm⟩:=k1;exact DataW.trod_lt m _ _ _ hm
 have z0:nC 29 d0:=fun n hn=>by
  have:=List.all_eq_true.1 bA n (DataW.weights_mem_each (j:=0) (t:=29) (d:=d0) rfl rfl n hn);simpa using this
 have z1:nC 55 d1:=fun n hn=>by
  have:=List.all_eq_true.1 bA n (DataW.weights_mem_each (j:=1) (t:=55) (d:=d1) rfl rfl n hn);simpa using this
 obtain⟨c0,rfl,_⟩:=okWide_struct Tryz.underlying29 (NE 0 29 v0 rfl rfl);obtain⟨c1,rfl,_⟩:=okWide_struct Tryz.underlying55 (NE 1 55 v1 rfl rfl);obtain⟨m0,Fv⟩:=h0;obtain⟨m1,ou⟩:=h1;obtain⟨pb,vc,vs,e0,hc,hs⟩:=It Fv z0;obtain⟨y,ui,uw,e1,hi,hw⟩:=D8 ou z1;obtain⟨l0⟩:=c0;obtain⟨l1⟩:=c1;simp only[Value.cells]at e0 e1;subst e0 e1;clear jB hval0;refine(yR pb vc vs ui uw y W hc hs hi hw).mono fun e W' ⟨he,bel⟩=>?_
 subst he;exact⟨_,rfl,_,_,_,[],_,[],hW',trodAll_mk1 (shut_bool Tryz.underlying4 _),(trodAll_cons_mk (Below.trod Tryz.laidOut (by kernel_rfl) (of_decide_eq_true (by kernel_rfl)) k0 bel lt0) (trodAll_cons_mk (Below.trod Tryz.laidOut (by kernel_rfl) (of_decide_eq_true (by kernel_rfl)) k1 bel lt1) trodAll_mk0)),rfl,bel.frame _,fun h=>by cases h⟩
theorem searchNeighbors_laid:laidOutB Tryz.pinned.checked.prog=true:=by kernel_rfl
theorem searchNeighbors_maps:mapsRowed Tryz.pinned.checked.prog=true:=by kernel_rfl
theorem searchNeighbors_place:(Rows.searchNeighborsRow.inPlace == Tryz.pinned.checked.prog.inPlace 5)=true:=by kernel_rfl
theorem searchNeighbors_unf:(Rows.searchNeighborsRow.unfollowed == Tryz.pinned.checked.prog.unfollowed 5)=true:=by kernel_rfl
theorem searchNeighbors_rec:(Rows.searchNeighborsRow.recurses == Tryz.pinned.checked.prog.recurses 5)=true:=by kernel_rfl
theorem searchNeighbors_named:(Rows.searchNeighborsRow.named == Tryz.pinned.checked.prog.varsNamed 5)=true:=by kernel_rfl
theorem searchNeighbors_heard:Tryz.pinned.checked.prog.stopsHeard=true:=by kernel_rfl
theorem searchNeighbors_enter:Tryz.pinned.checked.prog.mayEnter=true:=by kernel_rfl
theorem searchNeighbors_lift:(Rows.searchNeighborsRow.lifted == Tryz.pinned.checked.prog.liftsFinal)=true:=by kernel_rfl
theorem searchNeighbors_make:(Tryz.pinned.checked.prog.make == some Rows.searchNeighborsRow.make)=true:=by kernel_rfl
theorem cf{a b:Bool} (h:a=true) (k:b=true):(a&&b)=true:=by rw[h,k];rfl
theorem searchNeighbors_facts:joinedFacts Tryz.pinned.checked.prog 5 Tryz.f5 Rows.searchNeighborsSpec Rows.searchNeighborsRow=true:=by
 unfold joinedFacts;exact cf (cf (cf (cf (cf (cf (cf (cf (cf (cf (cf (cf (cf (cf (cf (cf (cf (cf (cf (cf (cf (cf (cf (cf (cf (cf (cf (cf (cf (cf (cf (by kernel_rfl) searchNeighbors_laid) searchNeighbors_maps) (by kernel_rfl)) (by kernel_rfl)) (by kernel_rfl)) (by kernel_rfl)) (by kernel_rfl)) (by kernel_rfl)) searchNeighbors_place) searchNeighbors_unf) searchNeighbors_rec) searchNeighbors_named) (by kernel_rfl)) (by kernel_rfl)) (by kernel_rfl)) (by kernel_rfl)) (by kernel_rfl)) (by kernel_rfl)) (by kernel_rfl)) (by kernel_rfl)) (by kernel_rfl)) (by kernel_rfl)) (by kernel_rfl)) searchNeighbors_heard) searchNeighbors_enter) searchNeighbors_lift) searchNeighbors_make) (by kernel_rfl)) (by kernel_rfl)) (by kernel_rfl)) (by kernel_rfl)
theorem searchNeighbors_over:Rows.searchNeighborsRow.holds Tryz.pinned (OpenSpec.ofChange Rows.searchNeighborsSpec):=
 OpenClaim.holds_of_wide 5 Tryz.f5 rfl rfl rfl rfl rfl rfl rfl ⟨rfl,rfl,rfl,rfl,rfl⟩ rfl rfl rfl rfl rfl (by kernel_rfl) Tryz.func5 searchNeighbors_facts
  (of_decide_eq_true (by kernel_rfl)) (by unfold Func.isWrapper;first|(rw[if_pos (by decide +kernel)];kernel_rfl)|(rw[if_neg (by decide +kernel)];exact⟨rfl,rfl⟩))
  (fun os started H enc _=>pp os started H enc)
theorem searchNeighbors_holds:Rows.SearchNeighborsSaid:=searchNeighbors_over
end Go.Proofs.YtiocdkdkndpgkaaGreat
