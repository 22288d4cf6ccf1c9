/-
  SearchDescends holds as it is given: for every problem, machine and play the call returns true and leaves what came in as it was. No conditions.
-/
import Derived.Test.YtkfgpnbpcpdclaaGreatJ14
set_option maxRecDepth 100000
set_option maxHeartbeats 8000000
set_option linter.unusedVariables false
namespace Go.Proofs.YtkfgpnbpcpdclaaGreat
open Go.ChangeShapes Go.WideShapes Go.ChangeAt Go.RowKit Go
set_option linter.unusedVariables false
theorem uf(os:Os) (started:os.Started) (H:Type) (enc:TypeId × Value->H) :
  ReturnsInHanded {} Tryz.checked os 3 .any (Rows.searchDescendsSpec.pre6 enc Tryz.prog Tryz.f3 Rows.searchDescendsRow.domain false) (Rows.searchDescendsSpec.post enc Tryz.prog Tryz.f3 false true false false):=by
 refine returnsInHanded_of_change_sized (C:=Tryz.checked) Tryz.own started (by kernel_rfl) Tryz.func3
  (ChangeSpec.witness6 (enc:=enc) (C:=Tryz.checked) false ⟨#[],#[.agg #[.int .i64 0,.int .i64 0,.int .i64 0,.slice none 0 0,.int .i64 0,.slice none 0 0,.int .i64 0],.agg #[.int .i64 0,.int .i64 0,.int .i64 0,.int .i64 0,.slice none 0 0,.slice none 0 0,.slice none 0 0,.slice none 0 0],.agg #[.slice none 0 0,.slice none 0 0]],[]⟩ 8 (by kernel_rfl) (by kernel_rfl) (by kernel_rfl) (by kernel_rfl)) ?_
 intro W base args ds gs before hval0 hW hcnd hsz0 _;have ME:∀ (j:Nat) t v,Tryz.f3.params[j]?=some t->args[j]?=some v->Value.okWide Tryz.prog W .any base t v:=hval0;have FW:=hW;obtain⟨p,q,bD,hV,rfl,FB,SM⟩:=hW;have hA:DataW.TrodAll enc Tryz.prog W 0 (fun _=>true) true Tryz.f3.params.toList args.toList ds p:=bD;have dM:(DataW.weightsEach Tryz.prog (Tryz.f3.params.toList++Rows.searchDescendsSpec.plain.varTypes Tryz.prog) (ds++gs)).all (·<=reachBytes)=true:=hsz0;rw[Tryz.params3]at hA ME dM;obtain⟨v0,vs0,d0,ds0,p0,q0,hargs,rfl,rfl,h0,r0⟩:=trodAll_cons hA;obtain⟨v1,vs1,d1,ds1,p1,q1,rfl,rfl,rfl,h1,r1⟩:=trodAll_cons r0;obtain⟨v2,vs2,d2,ds2,p2,q2,rfl,rfl,rfl,h2,r2⟩:=trodAll_cons r1;obtain⟨rfl,rfl,rfl⟩:=trodAll_nil r2;obtain rfl:args=#[v0,v1,v2]:=by cases args;simp_all
 obtain⟨rfl,rfl⟩:=trodVars_none hV;have k0:=h0;have k1:=h1;have k2:=h2;have lt0:∀ x∈p0,x.block<W.heap.size:=by obtain⟨m,hm⟩:=k0;exact DataW.trod_lt m _ _ _ hm
 have lt1:∀ x∈p1,x.block<W.heap.size:=by obtain⟨m,hm⟩:=k1;exact DataW.trod_lt m _ _ _ hm
 have lt2:∀ x∈p2,x.block<W.heap.size:=by obtain⟨m,hm⟩:=k2;exact DataW.trod_lt m _ _ _ hm
 have z0:mr 29 d0:=fun n hn=>by
  have:=List.all_eq_true.1 dM n (DataW.weights_mem_each (j:=0) (t:=29) (d:=d0) rfl rfl n hn);simpa using this
 have z1:mr 35 d1:=fun n hn=>by
  have:=List.all_eq_true.1 dM n (DataW.weights_mem_each (j:=1) (t:=35) (d:=d1) rfl rfl n hn);simpa using this
 have z2:mr 39 d2:=fun n hn=>by
  have:=List.all_eq_true.1 dM n (DataW.weights_mem_each (j:=2) (t:=39) (d:=d2) rfl rfl n hn);simpa using this
 obtain⟨c0,rfl,_⟩:=okWide_struct Tryz.underlying29 (ME 0 29 v0 rfl rfl);obtain⟨c1,rfl,_⟩:=okWide_struct Tryz.underlying35 (ME 1 35 v1 rfl rfl);obtain⟨c2,rfl,_⟩:=okWide_struct Tryz.underlying39 (ME 2 39 v2 rfl rfl);obtain⟨m0,P3⟩:=h0;obtain⟨m1,xA⟩:=h1;obtain⟨m2,wx⟩:=h2;obtain⟨pb,vc,vs,e0,hc,hs⟩:=M0 P3 z0;obtain⟨mc,vf,vy,vt,vo,e1,gf,gy,gt,go⟩:=Nc xA z1;obtain⟨y,ui,uw,e2,hi,hw⟩:=JT wx z2;obtain⟨l0⟩:=c0;obtain⟨l1⟩:=c1;obtain⟨l2⟩:=c2;simp only[Value.cells]at e0 e1 e2;subst e0 e1 e2;clear bD hval0;refine(Gn pb vc vs mc vf vy vt vo ui uw y W hc hs gf gy gt go hi hw).mono fun e W' ⟨he,bel⟩=>?_
 subst he;exact⟨_,rfl,_,_,_,[],_,[],FW,trodAll_mk1 (shut_bool Tryz.underlying4 _),(trodAll_cons_mk (Below.trod Tryz.laidOut (by kernel_rfl) (of_decide_eq_true (by kernel_rfl)) k0 bel lt0) (trodAll_cons_mk (Below.trod Tryz.laidOut (by kernel_rfl) (of_decide_eq_true (by kernel_rfl)) k1 bel lt1) (trodAll_cons_mk (Below.trod Tryz.laidOut (by kernel_rfl) (of_decide_eq_true (by kernel_rfl)) k2 bel lt2) trodAll_mk0))),rfl,bel.frame _,fun h=>by cases h⟩
theorem searchDescends_laid:laidOutB Tryz.pinned.checked.prog=true:=by kernel_rfl
theorem searchDescends_maps:mapsRowed Tryz.pinned.checked.prog=true:=by kernel_rfl
theorem searchDescends_place:(Rows.searchDescendsRow.inPlace == Tryz.pinned.checked.prog.inPlace 3)=true:=by kernel_rfl
theorem searchDescends_unf:(Rows.searchDescendsRow.unfollowed == Tryz.pinned.checked.prog.unfollowed 3)=true:=by kernel_rfl
theorem searchDescends_rec:(Rows.searchDescendsRow.recurses == Tryz.pinned.checked.prog.recurses 3)=true:=by kernel_rfl
theorem searchDescends_named:(Rows.searchDescendsRow.named == Tryz.pinned.checked.prog.varsNamed 3)=true:=by kernel_rfl
theorem searchDescends_heard:Tryz.pinned.checked.prog.stopsHeard=true:=by kernel_rfl
theorem searchDescends_enter:Tryz.pinned.checked.prog.mayEnter=true:=by kernel_rfl
theorem searchDescends_lift:(Rows.searchDescendsRow.lifted == Tryz.pinned.checked.prog.liftsFinal)=true:=by kernel_rfl
theorem searchDescends_make:(Tryz.pinned.checked.prog.make == some Rows.searchDescendsRow.make)=true:=by kernel_rfl
theorem eR{a b:Bool} (h:a=true) (k:b=true):(a&&b)=true:=by rw[h,k];rfl
theorem searchDescends_facts:joinedFacts Tryz.pinned.checked.prog 3 Tryz.f3 Rows.searchDescendsSpec Rows.searchDescendsRow=true:=by
 unfold joinedFacts;exact eR (eR (eR (eR (eR (eR (eR (eR (eR (eR (eR (eR (eR (eR (eR (eR (eR (eR (eR (eR (eR (eR (eR (eR (eR (eR (eR (eR (eR (eR (eR (by kernel_rfl) searchDescends_laid) searchDescends_maps) (by kernel_rfl)) (by kernel_rfl)) (by kernel_rfl)) (by kernel_rfl)) (by kernel_rfl)) (by kernel_rfl)) searchDescends_place) searchDescends_unf) searchDescends_rec) searchDescends_named) (by kernel_rfl)) (by kernel_rfl)) (by kernel_rfl)) (by kernel_rfl)) (by kernel_rfl)) (by kernel_rfl)) (by kernel_rfl)) (by kernel_rfl)) (by kernel_rfl)) (by kernel_rfl)) (by kernel_rfl)) searchDescends_heard) searchDescends_enter) searchDescends_lift) searchDescends_make) (by kernel_rfl)) (by kernel_rfl)) (by kernel_rfl)) (by kernel_rfl)
theorem searchDescends_over:Rows.searchDescendsRow.holds Tryz.pinned (OpenSpec.ofChange Rows.searchDescendsSpec):=
 OpenClaim.holds_of_wide 3 Tryz.f3 rfl rfl rfl rfl rfl rfl rfl ⟨rfl,rfl,rfl,rfl,rfl⟩ rfl rfl rfl rfl rfl (by kernel_rfl) Tryz.func3 searchDescends_facts
  (of_decide_eq_true (by kernel_rfl)) (by unfold Func.isWrapper;first|(rw[if_pos (by decide +kernel)];kernel_rfl)|(rw[if_neg (by decide +kernel)];exact⟨rfl,rfl⟩))
  (fun os started H enc _=>uf os started H enc)
theorem searchDescends_holds:Rows.SearchDescendsSaid:=searchDescends_over
end Go.Proofs.YtkfgpnbpcpdclaaGreat
