/-
  A part of the proof: lemmas and contracts that the parts behind it use. Each one's conditions are its own premises.
-/
import Derived.Laws.Tables
import Derived.Laws.CopyOwn
import Derived.Lib.MinMax
import Derived.Test.YtmeaoneaephjeaaGreatDoorT6
set_option maxRecDepth 100000
set_option maxHeartbeats 8000000
set_option linter.unusedVariables false
set_option linter.unusedSimpArgs false
namespace Go.Proofs.YtmeaoneaephjeaaGreatDoor
open Go.RowKit Go Go.Shelf
attribute [local go_sem] Oper.semAt_some
theorem VX{p:Pb} (h:probE p=0):movesN p.a.states<=4096:=by
 have ha:=(gD h).2.1;unfold advE at ha;by_cases h1:p.a.n<1\/5<p.a.n
 ·rw[if_pos h1]at ha;omega
 ·rw[if_neg h1]at ha;by_cases h2:p.a.states.length<1\/256<p.a.states.length\/4096<movesN p.a.states
  ·rw[if_pos h2]at ha;omega
  ·omega
theorem Ko{p:Pb} (h:probE p=0):((dU p).2≠0->(dU p).2=17/\4096<p.t.cases.length * (aO p).length)/\((dU p).2=0->(dU p).1=((p.t.cases.length * (aO p).length:Nat):Int)):=by
 obtain⟨ht,ha,_,rU,qz⟩:=gD h;have bX:=(fp ht).2.2.2.1;have hn:=rg (L:=1048576) (by omega) p.a (fun s hs m hm=>(uS ha s hs m hm).2) (by have:=(hZ ha).1;omega) p.rounds.toNat;have hw:(aO p).length=(cg p.a p.rounds.toNat 0).length:=rfl;rw[<-hw]at hn
 have q8:countedR 1048576 p.a p.rounds=if 1048576<numberL 1048576 p.a p.rounds.toNat then(0,17) else(numberL 1048576 p.a p.rounds.toNat,0):=by
  unfold countedR;rw[if_neg (by simpa using ha),if_neg (by omega)]
 unfold dU;rw[if_neg (by simpa using h),q8];by_cases h1:1048576<numberL 1048576 p.a p.rounds.toNat
 ·rw[if_pos h1];have h9:1 * 1048576<=p.t.cases.length * (aO p).length:=Nat.mul_le_mul bX.1 (by omega);refine⟨fun _=>⟨by simp,by omega⟩,fun e=>by simp at e⟩
 ·rw[if_neg h1];have he:numberL 1048576 p.a p.rounds.toNat=((aO p).length:Int):=by omega
  rw[he];dsimp only;rw[if_neg (by simp),Int.mul_comm,<-Int.natCast_mul];by_cases h2:(1048576:Int)<((p.t.cases.length * (aO p).length:Nat):Int)
  ·rw[if_pos h2];refine⟨fun _=>⟨by simp,by omega⟩,fun e=>by simp at e⟩
  ·rw[if_neg h2];exact⟨fun e=>by simp at e,fun _=>rfl⟩
theorem Kp{p:Pb} (h:probE p=0) (h2:¬ 4096<p.t.cases.length * (aO p).length):qg p.a p.rounds=(aO p,0):=by
 obtain⟨ht,ha,_,rU,qz⟩:=gD h;have bX:=(fp ht).2.2.2.1;have hn:=rg (L:=4096) (by omega) p.a (fun s hs m hm=>(uS ha s hs m hm).2) (by have:=(hZ ha).1;omega) p.rounds.toNat;have hw:(aO p).length=(cg p.a p.rounds.toNat 0).length:=rfl;rw[<-hw]at hn;have h9:1 * (aO p).length<=p.t.cases.length * (aO p).length:=Nat.mul_le_mul_right _ bX.1
 have q8:(countedR 4096 p.a p.rounds).2=0:=by
  unfold countedR;rw[if_neg (by simpa using ha),if_neg (by omega),if_neg (by omega)]
 unfold qg;rw[if_neg (by simpa using q8)];rfl
theorem Fc{a:Adv} (h:∀ s,s<a.states.length->stateE a (a.states.getD s [])=0) (h1:0<a.states.length) (k:Nat):∀ s,s<a.states.length->0<(cg a k s).length:=by
 induction k with
 | zero=>intro s _;simp[cg]
 | succ k ih=>
  intro s hs;have h2:=h s hs
  have bP:(a.states.getD s []).length≠0:=by
   intro e;unfold stateE at h2;rw[if_pos e]at h2;cases h2
  obtain⟨m,hm⟩:∃ m,m∈a.states.getD s []:=by
   cases hl:a.states.getD s [] with
   | nil=>rw[hl]at bP;simp at bP
   | cons m r=>exact⟨m,by simp⟩
  have pg:m.to.toNat<a.states.length:=Yh h s hs m hm;have h3:=ih _ pg;obtain⟨y,hy⟩:=List.length_pos_iff_exists_mem.1 h3;refine List.length_pos_iff_exists_mem.2 ⟨m.r :: y,?_⟩;simp only[cg,List.mem_flatMap,List.mem_map];exact⟨m,hm,y,hy,rfl⟩
theorem sN(p:Pb) (words:List (List Rd)) (l:List (Nat × Nat)):∀ st:List Vw × List Ex,(l.foldl (ki p words) st).2.length=st.2.length+l.length:=by
 induction l with
 | nil=>intro st;simp
 | cons x r ih=>
  intro st;rw[List.foldl_cons,ih];simp[ki];omega
theorem MD(p:Pb) (words:List (List Rd)) (l:List (Nat × Nat)) (i:Nat) (h:i<l.length):execsS p words (l.take (i+1))=ki p words (execsS p words (l.take i)) l[i]:=by
 unfold execsS;rw[List.take_succ_eq_append_getElem h,List.foldl_append];rfl
theorem ME(p:Pb) (words:List (List Rd)) (l:List (Nat × Nat)):∀ st:List Vw × List Ex,st.1.length<=(l.foldl (ki p words) st).1.length:=by
 induction l with
 | nil=>intro st;exact Nat.le_refl _
 | cons x r ih=>
  intro st;refine Nat.le_trans ?_ (ih _);exact Cd _ _ _ _ _
theorem wU(p:Pb) (words:List (List Rd)) (l:List (Nat × Nat)) (i:Nat):(execsS p words (l.take i)).1.length<=(execsS p words l).1.length:=by
 have h:execsS p words l=(l.drop i).foldl (ki p words) (execsS p words (l.take i)):=by
  unfold execsS;rw[<-List.foldl_append,List.take_append_drop]
 rw[h];exact ME p words _ _
abbrev fj(p:Pb):List (Nat × Nat):=jl p.t.cases.length (aO p).length
abbrev stP(p:Pb) (i:Nat):List Vw × List Ex:=execsS p (aO p) ((fj p).take i)
theorem iu(p:Pb):(fj p).length=p.t.cases.length * (aO p).length:=by
 unfold fj;rw[uy];simp
theorem ww(p:Pb) (i:Nat) (h:i<p.t.cases.length * (aO p).length):stP p (i+1)=ki p (aO p) (stP p i) (i / (aO p).length,i % (aO p).length):=by
 unfold stP;rw[MD _ _ _ _ (by rw[iu];exact h)];congr 1;unfold fj;simp only[uy];simp
theorem MF{p:Pb} (h:probE p=0) (hm:¬ 4096<p.t.cases.length * (aO p).length) (i:Nat) (hi:8192<(stP p i).1.length):buildE p=17:=by
 have h2:=wU p (aO p) (fj p) i;have h3:(aK p).tab=(execsS p (aO p) (fj p)).1:=rfl;unfold buildE;rw[if_neg (by simpa using h),if_neg hm,if_pos (by rw[h3];exact Nat.lt_of_lt_of_le hi h2)]
theorem MG(w:World) (a b c d:Obj):((((w.alloc a).alloc b).alloc c).alloc d).heap[w.heap.size+1+1+1]?=some d:=by
 have:=aq (((w.alloc a).alloc b).alloc c) d;simpa only[World.size_alloc] using this
def zx(W:World) (base:Nat) (xs:List Value) (i:Nat) (x:Ex):Prop:=
 ∃ a b,xs[i * 3]?=some (.int .i64 x.c)/\xs[i * 3+1]?=some a/\xs[i * 3+2]?=some b/\aI W base 141 7 a x.word.length (da x.word)/\cS W base b x.views
structure BInv (p:Pb) (uc us:Value) (wd:World) (Bs Bb b mb:Nat) (tab:List Vw) (ex:List Ex) (W:World):Prop where
 old:Below wd.heap.size wd W
 lo:wd.heap.size<=Bs
 bx:W.heap[Bb]?=some (.cells #[.pointer (some ⟨b,0,none⟩)] 231)
 s:∃ ve xs,W.heap[Bs]?=some (.cells (cj p uc us 0 (.slice none 0 0) ve) 35)/\aI W wd.heap.size 89 3 ve ex.length xs/\∀ i (hi:i<ex.length),zx W wd.heap.size xs i ex[i]
 bld:BldIs wd.heap.size b mb p.t.n.toNat tab W
theorem BInv.sta{p:Pb} {uc us:Value} {wd:World} {Bs Bb b mb:Nat} {tab:List Vw} {ex:List Ex} {B:Nat} (hB:wd.heap.size<=B) (hm:mb<B):cK B (fun W=>BInv p uc us wd Bs Bb b mb tab ex W):=fun A A' c h=>by
 obtain⟨ve,xs,h1,h2,h3⟩:=h.s;obtain⟨vs,q1,q2,q3,es,ck,q4,q5⟩:=h.bld.ex
 exact⟨c.below hB h.old.size h.old,h.lo,c.same _ _ h.bx (.inr rfl),⟨ve,xs,c.same _ _ h1 (.inr rfl),h2.ck c.ck,fun i hi=>by obtain⟨a,d,p1,p2,p3,p4,p5⟩:=h3 i hi;exact⟨a,d,p1,p2,p3,p4.ck c.ck,p5.ck c.ck⟩⟩,
  h.bld.lo,vs,c.same _ _ q1 (.inr rfl),q2,q3.ck c.ck,es,ck,c.same _ _ q4 (.inl hm),q5⟩
theorem Va{w W:World} {B:Nat} {c:Array Value} (hb:Below w.heap.size w W) (hl:w.heap.size<=B) (hR:W.heap[B]?=some (.cells c 35)) (hc:c.size=10) (hE:W.heap[B+1]?=some (.cells #[.int .i64 0] 39)) (l:List Value) (cN:l.length=10) (e:Int) :
  ((W.setCells B 0 l).setCell ⟨B+1,0,none⟩ (.int .i64 e)).heap[B]?=some (.cells l.toArray 35)/\((W.setCells B 0 l).setCell ⟨B+1,0,none⟩ (.int .i64 e)).heap[B+1]?=some (.cells #[.int .i64 e] 39)/\Below w.heap.size w ((W.setCells B 0 l).setCell ⟨B+1,0,none⟩ (.int .i64 e)) ∧
   ∀ k,k≠B->k≠B+1->((W.setCells B 0 l).setCell ⟨B+1,0,none⟩ (.int .i64 e)).heap[k]?=W.heap[k]?:=by
 obtain⟨cur',h1,h2,h3⟩:=mB B _ _ l 0 W c hR (by omega);obtain⟨o1,o2,o3,o4,o5⟩:=lL B l 0 W
 have Et:cur'=l.toArray:=by
  rw[Nat.zero_add,List.take_zero,List.nil_append,List.take_of_length_le (by simp;omega)]at h3;rw[<-h3]
 subst Et;have h4:=(o1 (B+1) (by omega)).trans hE;refine⟨aN h1 (by omega) _ _,by rw[aH h4];rfl,Below.setCell ⟨o2.trans hb.os,o3.trans hb.tape,o4.trans hb.output,by rw[o5];exact hb.size,fun k hk=>(o1 k (by omega)).trans (hb.block k hk)⟩ (by dsimp only;omega) _,fun k h5 h6=>(Below.heap_setCell _ _ _ _ (by dsimp only;exact h6)).trans (o1 k h5)⟩
theorem sO{w W:World} {B:Nat} {c:Array Value} (hb:Below w.heap.size w W) (hl:w.heap.size<=B) (hR:W.heap[B]?=some (.cells c 35)) (hc:c.size=10) (hE:W.heap[B+1]?=some (.cells #[.int .i64 0] 39)) (c0 c1 c2 c3 c4 c5 c6 c7 c8 c9:Value) (e:Int) :
  (((((((((((W.setCell ⟨B,0,none⟩ c0).setCell ⟨B,1,none⟩ c1).setCell ⟨B,2,none⟩ c2).setCell ⟨B,3,none⟩ c3).setCell ⟨B,4,none⟩ c4).setCell ⟨B,5,none⟩ c5).setCell ⟨B,6,none⟩ c6).setCell ⟨B,7,none⟩ c7).setCell ⟨B,8,none⟩ c8).setCell ⟨B,9,none⟩ c9).setCell ⟨B+1,0,none⟩ (.int .i64 e)).heap[B]?=some (.cells #[c0,c1,c2,c3,c4,c5,c6,c7,c8,c9] 35)/\(((((((((((W.setCell ⟨B,0,none⟩ c0).setCell ⟨B,1,none⟩ c1).setCell ⟨B,2,none⟩ c2).setCell ⟨B,3,none⟩ c3).setCell ⟨B,4,none⟩ c4).setCell ⟨B,5,none⟩ c5).setCell ⟨B,6,none⟩ c6).setCell ⟨B,7,none⟩ c7).setCell ⟨B,8,none⟩ c8).setCell ⟨B,9,none⟩ c9).setCell ⟨B+1,0,none⟩ (.int .i64 e)).heap[B+1]?=some (.cells #[.int .i64 e] 39)/\Below w.heap.size w (((((((((((W.setCell ⟨B,0,none⟩ c0).setCell ⟨B,1,none⟩ c1).setCell ⟨B,2,none⟩ c2).setCell ⟨B,3,none⟩ c3).setCell ⟨B,4,none⟩ c4).setCell ⟨B,5,none⟩ c5).setCell ⟨B,6,none⟩ c6).setCell ⟨B,7,none⟩ c7).setCell ⟨B,8,none⟩ c8).setCell ⟨B,9,none⟩ c9).setCell ⟨B+1,0,none⟩ (.int .i64 e)) ∧
   ∀ k,k≠B->k≠B+1->(((((((((((W.setCell ⟨B,0,none⟩ c0).setCell ⟨B,1,none⟩ c1).setCell ⟨B,2,none⟩ c2).setCell ⟨B,3,none⟩ c3).setCell ⟨B,4,none⟩ c4).setCell ⟨B,5,none⟩ c5).setCell ⟨B,6,none⟩ c6).setCell ⟨B,7,none⟩ c7).setCell ⟨B,8,none⟩ c8).setCell ⟨B,9,none⟩ c9).setCell ⟨B+1,0,none⟩ (.int .i64 e)).heap[k]?=W.heap[k]?:=Va hb hl hR hc hE [c0,c1,c2,c3,c4,c5,c6,c7,c8,c9] rfl e
theorem pV(tmps:Array Value) (B:Nat) (W:World) (c0 c1 c2 c3 c4 c5 c6 c7 c8 c9:Value) (e:Int) (h2:tmps[2]?.getD undef=.pointer (some ⟨B,0,none⟩)) (h3:tmps[3]?.getD undef=.pointer (some ⟨B+1,0,none⟩))
  (hB:W.heap[B]?=some (.cells #[c0,c1,c2,c3,c4,c5,c6,c7,c8,c9] 35)) (hE:W.heap[B+1]?=some (.cells #[.int .i64 e] 39)) :
  (results Tryz.f120 tmps).run Tryz.prog W=.ok (.tuple #[.agg #[c0,c1,c2,c3,c4,c5,c6,c7,c8,c9],.int .i64 e]) W:=by
 have t2:=ab hB;have t3:=ab hE 0;simp at t3;simp[results,Tryz.results120,go_sem,h2,h3,t2,t3]
structure BCore (base b mb n:Nat) (tab tab':List Vw) (c:Nat) (word:List Rd) (views:List (List Int)) (Wr:World) (D:Nat->Bool) (x:Nat->Value) (W:World):Prop where
 lo:base<=Wr.heap.size
 keep:KeepT bldT [mb] base Wr W
 bld:BldIs base b mb n (bif D 14 then tab' else tab) W
 x4:D 4=true->aI W base 141 7 (x 4) word.length (da word)
 x14:D 14=true->cS W base (x 14) views
 x15:D 15=true->D 4=true/\D 14=true/\x 15=.agg #[.int .i64 c,x 4,x 14]
 x16:D 16=true->D 4=true/\D 14=true/\∃ g,x 16=.slice (some ⟨g,0,none⟩) 1 1/\W.heap[g]?=some (.cells #[.int .i64 c,x 4,x 14] 89)
section
variable {base b mb n : Nat} {tab tab' : List Vw} {c : Nat} {word : List Rd} {views : List (List Int)} {Wr : World} {D : Nat → Bool} {x : Nat → Value} {W W' : World}
theorem BCore.other(h:BCore base b mb n tab tab' c word views Wr D x W) {i:Nat} (u:Value) (h4:4≠i) (JS:14≠i) (h15:15≠i) (h16:16≠i):BCore base b mb n tab tab' c word views Wr (br D i) (bQ x i u) W:=by
 refine⟨h.lo,h.keep,?_,?_,?_,?_,?_⟩
 ·simpa only[br,if_neg JS] using h.bld
 ·simpa only[br,bQ,if_neg h4] using h.x4
 ·simpa only[br,bQ,if_neg JS] using h.x14
 ·simpa only[br,bQ,if_neg h4,if_neg JS,if_neg h15] using h.x15
 ·simpa only[br,bQ,if_neg h4,if_neg JS,if_neg h16] using h.x16
theorem BCore.clone(h:BCore base b mb n tab tab' c word views Wr D x W) (h4:D 4=false) (hb:Below W.heap.size W W') {u:Value} (ho:aI W' base 141 7 u word.length (da word)):BCore base b mb n tab tab' c word views Wr (br D 4) (bQ x 4 u) W':=by
 refine⟨h.lo,h.keep.trans (.of_below _ hb (Nat.le_trans h.lo h.keep.old.size)),?_,fun _=>by simpa[bQ] using ho,fun e=>?_,fun e=>?_,fun e=>?_⟩
 ·simpa only[br,if_neg (show (14:Nat)≠4 by decide)] using h.bld.up hb
 ·simp only[br,bQ,if_neg (show (14:Nat)≠4 by decide)]at e ⊢;exact(h.x14 e).up hb
 ·simp only[br,if_neg (show (15:Nat)≠4 by decide)]at e;have:=(h.x15 e).1;rw[h4]at this;cases this
 ·simp only[br,if_neg (show (16:Nat)≠4 by decide)]at e;have:=(h.x16 e).1;rw[h4]at this;cases this
theorem BCore.play(h:BCore base b mb n tab tab' c word views Wr D x W) (JS:D 14=false) (hk:KeepT bldT [mb] base W W') (hb:BldIs base b mb n tab' W') {u:Value} (ho:cS W' base u views):BCore base b mb n tab tab' c word views Wr (br D 14) (bQ x 14 u) W':=by
 refine⟨h.lo,h.keep.trans hk,by simpa[br] using hb,fun e=>?_,fun _=>by simpa[bQ] using ho,fun e=>?_,fun e=>?_⟩
 ·simp only[br,bQ,if_neg (show (4:Nat)≠14 by decide)]at e ⊢;exact hk.own (h.x4 e) (by decide)
 ·simp only[br,if_neg (show (15:Nat)≠14 by decide)]at e;have:=(h.x15 e).2.1;rw[JS]at this;cases this
 ·simp only[br,if_neg (show (16:Nat)≠14 by decide)]at e;have:=(h.x16 e).2.1;rw[JS]at this;cases this
theorem BCore.made(h:BCore base b mb n tab tab' c word views Wr D x W) (g4:D 4=true) (g14:D 14=true) {u:Value} (hu:u=.agg #[.int .i64 c,x 4,x 14]):BCore base b mb n tab tab' c word views Wr (br D 15) (bQ x 15 u) W:=by
 refine⟨h.lo,h.keep,?_,?_,?_,fun _=>?_,?_⟩
 ·simpa only[br,if_neg (show (14:Nat)≠15 by decide)] using h.bld
 ·simpa only[br,bQ,if_neg (show (4:Nat)≠15 by decide)] using h.x4
 ·simpa only[br,bQ,if_neg (show (14:Nat)≠15 by decide)] using h.x14
 ·simp only[br,bQ,if_neg (show (4:Nat)≠15 by decide),if_neg (show (14:Nat)≠15 by decide),if_true];exact⟨g4,g14,hu⟩
 ·simpa only[br,bQ,if_neg (show (4:Nat)≠15 by decide),if_neg (show (14:Nat)≠15 by decide),if_neg (show (16:Nat)≠15 by decide)] using h.x16
theorem BCore.row(h:BCore base b mb n tab tab' c word views Wr D x W) (g4:D 4=true) (g14:D 14=true) {u4 u14:Value} (e4:x 4=u4) (e14:x 14=u14):BCore base b mb n tab tab' c word views Wr (br D 16) (bQ x 16 (.slice (some ⟨W.heap.size,0,none⟩) 1 1)) (W.alloc (.cells #[.int .i64 c,u4,u14] 89)):=by
 subst e4 e14;have hb:Below W.heap.size W (W.alloc (.cells #[.int .i64 c,x 4,x 14] 89)):=by go_grown
 refine⟨h.lo,h.keep.trans (.of_below _ hb (Nat.le_trans h.lo h.keep.old.size)),?_,fun e=>?_,fun e=>?_,?_,fun _=>?_⟩
 ·simpa only[br,if_neg (show (14:Nat)≠16 by decide)] using h.bld.up hb
 ·simp only[br,bQ,if_neg (show (4:Nat)≠16 by decide)]at e ⊢;exact(h.x4 e).up hb
 ·simp only[br,bQ,if_neg (show (14:Nat)≠16 by decide)]at e ⊢;exact(h.x14 e).up hb
 ·simpa only[br,bQ,if_neg (show (4:Nat)≠16 by decide),if_neg (show (14:Nat)≠16 by decide),if_neg (show (15:Nat)≠16 by decide)] using h.x15
 ·simp only[br,bQ,if_neg (show (4:Nat)≠16 by decide),if_neg (show (14:Nat)≠16 by decide),if_true];exact⟨g4,g14,W.heap.size,rfl,aq _ _⟩
end
theorem Tryz.infoExec:(Tryz.prog.info? 89).map (fun i=>(i.zero,i.size,i.bytes))=some (some (.agg #[.int .i64 0,.slice none 0 0,.slice none 0 0]),3,56):=by kernel_rfl
theorem RP{F:Fence} {n:Nat} {P:Program} {c:Code} {Q:Exit->Act->World->Prop} {a:Act} {W:World} (I:World->Prop) (h:I W) (k:∀ W0,I W0->c.wpIn F n P Q a W0):c.wpIn F n P Q a W:=k W h
theorem BInv.up{p:Pb} {uc us:Value} {wd:World} {Bs Bb b mb:Nat} {tab:List Vw} {ex:List Ex} {W W':World} (h:BInv p uc us wd Bs Bb b mb tab ex W) (hb:Below W.heap.size W W'):BInv p uc us wd Bs Bb b mb tab ex W':=by
 obtain⟨ve,xs,h1,h2,h3⟩:=h.s;exact⟨ae h.old hb,h.lo,af hb h.bx,⟨ve,xs,af hb h1,h2.up hb,fun i hi=>by obtain⟨a,d,p1,p2,p3,p4,p5⟩:=h3 i hi;exact⟨a,d,p1,p2,p3,p4.up hb,p5.up hb⟩⟩,h.bld.up hb⟩
theorem VY(a b:Vw) (w:World):(binOp .eql 190 a.v b.v).run Tryz.prog w=.ok (.bool (decide (a=b))) w:=by
 rw[run_eql_struct,DR 9997];rfl
def viewIx(l:List Vw) (v:Vw):Int:=firstIx l.length fun i=>decide (l.getD i default=v)
theorem MH(l:List Vw) (v:Vw):(viewIx l v<0/\putV l v=(l++[v],l.length))\/(0<=viewIx l v/\putV l v=(l,(viewIx l v).toNat)/\viewIx l v<l.length):=by
 unfold viewIx;rcases bI l.length (fun i=>decide (l.getD i default=v)) with ⟨e,h⟩|⟨k,hk,e,he,h⟩
 ·refine .inl ⟨by omega,?_⟩;unfold putV;rw[if_neg];intro hv;obtain⟨i,hi,rfl⟩:=List.getElem_of_mem hv;have:=h i hi;simp[hi]at this
 ·refine .inr ⟨by omega,?_,by omega⟩;have he:l[k]=v:=by simpa[hk] using he
  unfold putV;rw[if_pos (he ▸ List.getElem_mem hk),e];congr 1;rw[Int.toNat_natCast];have kO:v∈l:=he ▸ List.getElem_mem hk;have aD:=List.idxOf_lt_length_of_mem kO;have CV:=List.getElem_idxOf aD;rcases Nat.lt_trichotomy (l.idxOf v) k with h1|h1|h1
  ·have:=h _ h1;simp[aD]at this
  ·exact h1
  ·exfalso;have:=List.not_of_lt_findIdx (xs:=l) (p:=(· == v)) (i:=k) h1;simp[he]at this
theorem VZ{w:World} {b o:Nat} {v:Vw} (h:Hy w b o v) {wr:World} (hb:Below w.heap.size w wr):∀ y:ExtW wr,y.val.cell? ⟨b,o,none⟩=some (.int .i64 v.p)/\y.val.cell? ⟨b,o+1,none⟩=some (.int .i64 v.k)/\y.val.cell? ⟨b,o+2,none⟩=some (.int .i64 v.i)/\y.val.cell? ⟨b,o+3,none⟩=some (.int .i64 v.h0)/\y.val.cell? ⟨b,o+4,none⟩=some (.int .i64 v.h1)/\y.val.cell? ⟨b,o+5,none⟩=some (.int .i64 v.h2)/\y.val.cell? ⟨b,o+6,none⟩=some (.int .i64 v.h3)/\y.val.cell? ⟨b,o+7,none⟩=some (.int .i64 v.h4):=by
 obtain⟨⟨c0,_⟩,⟨c1,_⟩,⟨c2,_⟩,⟨c3,_⟩,⟨c4,_⟩,⟨c5,_⟩,⟨c6,_⟩,⟨c7,_⟩⟩:=h;exact fun y=>⟨y.cell (ak hb c0),y.cell (ak hb c1),y.cell (ak hb c2),y.cell (ak hb c3),y.cell (ak hb c4),y.cell (ak hb c5),y.cell (ak hb c6),y.cell (ak hb c7)⟩
theorem Kq(n:Int) (l:List Vw) (vt:Value) (v:Vw) (w:World) (h:m3 w vt l) :
  Calls Tryz.prog 189 #[.agg #[.int .i64 n,vt],v.v] w fun e w'=>e=.returned (.int .i64 (viewIx l v))/\Below w.heap.size w w':=by
 obtain⟨pt,ct,rfl,lt1,lt2,et⟩:=h.at;have ET:=aa et;have qr:am (∀ k,k<l.length->(∀ j,j<k->decide (l.getD j default=v)=false)->decide (l.getD k default=v)=true->viewIx l v=k):=aa (fun k hk h1 h2=>dB _ _ _ hk h1 h2);have fZ:am ((∀ j,j<l.length->decide (l.getD j default=v)=false)->viewIx l v=-1):=aa (dH _ _);clear h et
 go_enter Tryz.func189,Tryz.ntmps189
 go_wp2_with fail
 refine bF (fun W=>Below w.heap.size w W/\W.heap[w.heap.size]?=some (.cells #[.int .i64 n,.slice pt l.length ct] 32)/\W.heap[w.heap.size+1]?=some (.cells v.c 190)) ⟨by go_grown,az _ (aq _ _),bz _ _ _⟩ (fun W0 bh=>?_);obtain⟨aJ,bK,vE⟩:=bh;have lz:=aa bK;have yV:=aa vE;clear bK vE
 go_loopw [5] (fun i wr=>∃ k:Nat,k<=l.length/\i=.int .i64 k/\Below W0.heap.size W0 wr/\∀ j,j<k->decide (l.getD j default=v)=false) (fun i _=>l.length - (intOf i).toNat)
 ·exact⟨0,by omega,rfl,Below.refl _ _,by simp⟩
 ·
  obtain⟨k,hk,rfl,aB,aV⟩:=hrel;have H:=aa aV;clear aV;have tA:=ab (af aB lz.o);by_cases aD:k<l.length
  ·obtain⟨b1,o1,rfl,c1⟩:=ET.o k aD;have HX:=aa (aA default aD);have C6:=aa (qr.o k aD H.o);generalize l[k]=x at c1 HX;rw[HX.o]at C6;have d1:=VZ c1 (ae aJ aB);have a1:∀ z:ExtW wr,z.val.cell? ⟨w.heap.size,1,none⟩=some _:=fun z=>z.cell (ab (af aB lz.o) 1)
   have a2:∀ (z:ExtW wr) (o:Nat),z.val.cell? ⟨w.heap.size+1,o,none⟩=v.c[o]?:=fun z o=>ab (af (z.ext) (af aB yV.o)) o
   have jX:=fun w=>VY x v w
   have aU:=aa aB;clear c1 aB
   go_wp2_with fail
   clear tA;cases hd:decide (x=v) with
   | true=>
    have HR:=aa (C6.o hd);rw[hd]at jX;clear hd;refine aE (by kernel_rfl) (by kernel_rfl) ?_
    repeat (go_big_quiet_step (fail))
    refine wpQuiet_nil ?_;rintro _ ⟨xq,rfl⟩;clear d1 a1 a2 jX
    go_wp2_with fail
    go_ret
    exact⟨aF (by rw[HR.o]),ae aJ (ae aU.o xq.ext)⟩
   | false=>
    have HD:=aa hd;rw[hd]at jX;clear hd;refine aE (by kernel_rfl) (by kernel_rfl) ?_
    repeat (go_big_quiet_step (fail))
    refine wpQuiet_nil ?_;rintro _ ⟨xq,rfl⟩;clear d1 a1 a2 jX
    go_wp2_with fail
    go_roundw
    ·exact⟨k+1,by omega,by go_num,ae aU.o xq.ext,aW H.o (by rw[HX.o];exact HD.o)⟩
    ·simp[intOf];omega
  ·have HR:=aa (fZ.o fun j hj=>H.o j (by omega))
   go_wp2_with fail
   go_ret
   exact⟨aF (by rw[HR.o]),ae aJ aB⟩
def vC(p k i:Int) (f:Nat->Int) (q:Nat):Array Value:=((List.range 8).map fun j=>Value.int .i64 (if j=0 then p else if j=1 then k else if j=2 then i else if j<3+q then f (j - 3) else 0)).toArray
theorem ym(p k i:Int) (f:Nat->Int) (q j:Nat) (hj:j<8):(vC p k i f q)[j]?=some (.int .i64 (if j=0 then p else if j=1 then k else if j=2 then i else if j<3+q then f (j - 3) else 0)):=by simp[vC,hj]
theorem Pj(p k i:Int) (f:Nat->Int) (q:Nat) (hq:q<5):(vC p k i f q).setIfInBounds (3+q) (.int .i64 (f q))=vC p k i f (q+1):=by
 apply Array.ext_getElem?;intro j;rw[Array.getElem?_setIfInBounds];by_cases hj:j<8
 ·rw[ym _ _ _ _ _ _ hj,ym _ _ _ _ _ _ hj];by_cases e:3+q=j
  ·subst e;rw[if_pos rfl,if_pos (by simp[vC];omega),if_neg (by omega),if_neg (by omega),if_neg (by omega),if_pos (by omega),Nat.add_sub_cancel_left]
  ·rw[if_neg e];have:(j<3+(q+1))↔(j<3+q):=by omega
   simp only[this]
 ·rw[if_neg (by omega),Array.getElem?_eq_none (by simp[vC];omega),Array.getElem?_eq_none (by simp[vC];omega)]
theorem KW(p k i:Int) (f:Nat->Int):vC p k i f 0=#[.int .i64 p,.int .i64 k,.int .i64 i,.int .i64 0,.int .i64 0,.int .i64 0,.int .i64 0,.int .i64 0]:=rfl
theorem KX(p k i:Int) (f:Nat->Int):vC p k i f 5=#[.int .i64 p,.int .i64 k,.int .i64 i,.int .i64 (f 0),.int .i64 (f 1),.int .i64 (f 2),.int .i64 (f 3),.int .i64 (f 4)]:=rfl
abbrev zeroV:Array Value:=#[.int .i64 0,.int .i64 0,.int .i64 0,.int .i64 0,.int .i64 0,.int .i64 0,.int .i64 0,.int .i64 0]
theorem Ce(tmps:Array Value) (f:Func) (s:Nat) (hf:f.results=#[.cell s 190]) (B:Nat) (W:World) (v:Vw) (ty:TypeId) (h1:tmps[s]?.getD undef=.pointer (some ⟨B,0,none⟩)) (hb:W.heap[B]?=some (.cells v.c ty)) :
  (results f tmps).run Tryz.prog W=.ok v.v W:=by
 have t1:=ab hb;simp[results,hf,go_sem,h1,t1]
theorem Kr(p:Nat) (inp:Int) (w:World):Calls Tryz.prog 158 #[.int .i64 p,.int .i64 inp] w fun e w'=>e=.returned (⟨p,0,inp,-1,-1,-1,-1,-1⟩:Vw).v/\Below w.heap.size w w':=by
 go_enter Tryz.func158,Tryz.ntmps158
 go_wp2_with fail
 refine bF (fun W=>Below w.heap.size w W/\W.heap[w.heap.size]?=some (.cells zeroV 190)/\W.heap[w.heap.size+1]?=some (.cells (vC p 0 inp (fun _=>-1) 0) 190)) ⟨by go_grown,az _ (aq _ _),by rw[KW];exact bz _ _ _⟩ (fun W0 bh=>?_);obtain⟨aJ,gq,gU⟩:=bh
 go_loopw [6] (fun i wr=>∃ q:Nat,q<=5/\i=.int .i64 q/\Below w.heap.size w wr/\wr.heap[w.heap.size]?=some (.cells zeroV 190)/\wr.heap[w.heap.size+1]?=some (.cells (vC p 0 inp (fun _=>-1) q) 190)) (fun i _=>5 - (intOf i).toNat)
 ·exact⟨0,by omega,rfl,aJ,gq,gU⟩
 ·
  clear aJ gq gU;obtain⟨q,hq,rfl,aB,hR,hO⟩:=hrel;by_cases aD:q<5
  ·have zq:=aG hO (3+q);have tq:=ab hO (3+q);rw[ym _ _ _ _ _ _ (by omega)]at tq;have HR:=aa hR;have HO:=aa hO;clear hR hO;have kN:(q:Int)<5:=by omega
   go_wp2_with fail
   go_roundw
   ·exact⟨q+1,by omega,by go_num,aB.setCell (by dsimp only;omega) _,aN HR.o (by omega) _ _,by rw[aH HO.o,<-Pj _ _ _ (fun _=>-1) q aD]⟩
   ·simp[intOf];omega
  ·obtain rfl:q=5:=by omega
   have tq:=ab hO;have HR:=aa hR;have HO:=aa hO;have zq:=fun o=>aG hR o
   have tq0:=ab hR;rw[KX]at tq;simp at tq0;clear hR hO
   go_wp2_with (refine wpList_store_row rfl 190 (.tmp 4) (.tmp 17) rfl w.heap.size (⟨p,0,inp,-1,-1,-1,-1,-1⟩:Vw).c rfl rfl 190 _ HR.o (by kernel_rfl) rfl (by simp[Value.oneCell']) ?_)
   exact bodyPost_ret (Ce _ _ 4 rfl w.heap.size _ ⟨p,0,inp,-1,-1,-1,-1,-1⟩ 190 rfl (setRow_heap _ _ _ _ _ _ HR.o)) rfl ⟨rfl,below_setRow aB (Nat.le_refl _) _⟩
theorem DX{a:Array Value} {i:Nat} {x:Value} (h:a[i]?=some x):a.setIfInBounds i x=a:=by
 apply Array.ext_getElem?;intro j;rw[Array.getElem?_setIfInBounds];split
 ·rename_i e;subst e;split
  ·exact h.symm
  ·rw[Array.getElem?_eq_none (by omega)]
 ·rfl
def seenH(n:Nat) (g:Gr) (now:List Int) (p q:Nat):Int:=if q<n/\hasB (g.hear p) q=true then now.getD q 0 else -1
def seenV(n K:Nat) (g:Gr) (now:List Int) (p:Nat):Vw:=⟨p,K,0,seenH n g now p 0,seenH n g now p 1,seenH n g now p 2,seenH n g now p 3,seenH n g now p 4⟩
theorem MI(g:Gr) (K p n:Nat) (hn:g.n=n) (ju:n<=5) (hp:p<5) (hh:0<=g.hear p/\g.hear p<32) (vb:Value) (now:List Int) (pQ:n<=now.length) (w:World) (hb:aX w vb now) :
  Calls Tryz.prog 159 #[g.v,.int .i64 K,.int .i64 p,vb] w fun e w'=>e=.returned (seenV n K g now p).v/\Below w.heap.size w w':=by
 obtain⟨pb,cb,rfl,lb1,lb2,eb⟩:=hb.at;have EB:=aa eb;have HF:am (∀ q,seenH n g now p q=if (q:Int)<g.n/\hasB (g.hear p) q=true then now.getD q 0 else -1):=aa (fun q=>by unfold seenH;rw[hn];simp);have HV:am (seenV n K g now p=⟨p,K,0,seenH n g now p 0,seenH n g now p 1,seenH n g now p 2,seenH n g now p 3,seenH n g now p 4⟩):=aa rfl;have HN:=aa hn;generalize seenV n K g now p=V at HV;generalize seenH n g now p=f at HF HV;clear hb eb hn
 go_enter Tryz.func159,Tryz.ntmps159
 go_wp2_with fail
 refine bF (fun W=>Below w.heap.size w W/\W.heap[w.heap.size]?=some (.cells #[.int .i64 g.n,.int .i64 g.h0,.int .i64 g.h1,.int .i64 g.h2,.int .i64 g.h3,.int .i64 g.h4] 139)/\W.heap[w.heap.size+1]?=some (.cells zeroV 190)/\W.heap[w.heap.size+1+1]?=some (.cells (vC p K 0 f 0) 190)) ⟨by go_grown,az _ (az _ (aq _ _)),az _ (bz _ _ _),by rw[KW];exact eA _ _ _ _⟩ (fun W0 bh=>?_);obtain⟨aJ,hG0,gq,gU⟩:=bh
 go_loopw [10] (fun i wr=>∃ q:Nat,q<=5/\i=.int .i64 q/\Below w.heap.size w wr/\wr.heap[w.heap.size]?=some (.cells #[.int .i64 g.n,.int .i64 g.h0,.int .i64 g.h1,.int .i64 g.h2,.int .i64 g.h3,.int .i64 g.h4] 139)/\wr.heap[w.heap.size+1]?=some (.cells zeroV 190)/\wr.heap[w.heap.size+1+1]?=some (.cells (vC p K 0 f q) 190)) (fun i _=>5 - (intOf i).toNat)
 ·exact⟨0,by omega,rfl,aJ,hG0,gq,gU⟩
 ·
  clear aJ hG0 gq gU;obtain⟨q,hq,rfl,aB,hG,hR,hO⟩:=hrel;by_cases aD:q<5
  ·have zq:=aG hO (3+q);have tq:=ab hO (3+q);rw[ym _ _ _ _ _ _ (by omega)]at tq;have HG:=aa hG;have HR:=aa hR;have HO:=aa hO;have aU:=aa aB;clear hG hR hO aB;have kN:(q:Int)<5:=by omega
   have tG:=ab HG.o 0;simp at tG;have tH:=mY g p hp wr _ HG.o;have QX:(p:Int)<5:=by omega
   have F2:=aa (HF.o q);have hbz:=aU.o.size
   have ji:am (∀ x:Int,f q=x->∀ W:World,Below w.heap.size w W->W.heap[w.heap.size]?=some (.cells #[.int .i64 g.n,.int .i64 g.h0,.int .i64 g.h1,.int .i64 g.h2,.int .i64 g.h3,.int .i64 g.h4] 139)->W.heap[w.heap.size+1]?=some (.cells zeroV 190)->(∃ y:Value,W.heap[w.heap.size+1+1]?=some (.cells ((vC p K 0 f q).setIfInBounds (3+q) y) 190))->∃ q':Nat,q'<=5/\Value.int .i64 ((q:Int)+1)=.int .i64 q'/\Below w.heap.size w (W.setCell ⟨w.heap.size+1+1,3+q,none⟩ (.int .i64 x))/\(W.setCell ⟨w.heap.size+1+1,3+q,none⟩ (.int .i64 x)).heap[w.heap.size]?=some (.cells #[.int .i64 g.n,.int .i64 g.h0,.int .i64 g.h1,.int .i64 g.h2,.int .i64 g.h3,.int .i64 g.h4] 139)/\(W.setCell ⟨w.heap.size+1+1,3+q,none⟩ (.int .i64 x)).heap[w.heap.size+1]?=some (.cells zeroV 190)/\(W.setCell ⟨w.heap.size+1+1,3+q,none⟩ (.int .i64 x)).heap[w.heap.size+1+1]?=some (.cells (vC p K 0 f q') 190)):=aa (by
    rintro x rfl W q1 q2 q3 ⟨y,q4⟩;refine⟨q+1,by omega,by go_num,q1.setCell (by dsimp only;omega) _,aN q2 (by omega) _ _,aN q3 (by omega) _ _,?_⟩
    rw[aH q4,Array.setIfInBounds_setIfInBounds,Pj _ _ _ _ _ aD])
   have HY:am (∃ y:Value,wr.heap[w.heap.size+1+1]?=some (.cells ((vC p K 0 f q).setIfInBounds (3+q) y) 190)):=aa ⟨_,HO.o.trans (congrArg (fun c=>some (Obj.cells c 190)) (DX (ym p K 0 f q (3+q) (by omega))).symm)⟩;by_cases AE:(q:Int)<g.n
   ·cases hb:hasB (g.hear p) q with
    | true=>
     obtain⟨b2,o2,rfl,⟨c2,_⟩⟩:=EB.o q (by have:=HN.o;omega);rw[Nat.mul_one]at c2;have d2:=ak aU.o c2;have aY:=fo c2;dsimp only at aY;have bH:¬ b2=w.heap.size+1+1:=by omega
     have hqnow:q<now.length:=by have:=HN.o;omega
     have vh:am (f q=now[q]):=aa (by rw[F2.o,if_pos ⟨AE,hb⟩,aA 0 hqnow]);generalize now[q]=x at d2 vh;clear c2
     go_wp2_with fail
     refine(mM (g.hear p) q (by omega) hh.1 (by omega) _).mono ?_;rintro e _ ⟨rfl,rfl⟩;rw[hb]
     go_wp2_with fail
     go_roundw
     ·exact ji.o x vh.o _ (aU.o.setCell (by dsimp only;omega) _) (aN HG.o (by omega) _ _) (aN HR.o (by omega) _ _) ⟨_,aH HO.o _ _⟩
     ·simp[intOf];omega
    | false=>
     have vh:am (f q=-1):=aa (by rw[F2.o,if_neg (by rw[hb];simp)])
     go_wp2_with fail
     refine(mM (g.hear p) q (by omega) hh.1 (by omega) _).mono ?_;rintro e _ ⟨rfl,rfl⟩;rw[hb]
     go_wp2_with fail
     go_roundw
     ·exact ji.o (-1) vh.o _ aU.o HG.o HR.o HY.o
     ·simp[intOf];omega
   ·have vh:am (f q=-1):=aa (by rw[F2.o,if_neg (fun h=>AE h.1)])
    go_wp2_with fail
    go_roundw
    ·exact ji.o (-1) vh.o _ aU.o HG.o HR.o HY.o
    ·simp[intOf];omega
  ·obtain rfl:q=5:=by omega
   have tq:=ab hO;have HR:=aa hR;have HO:=aa hO;have zq:=fun o=>aG hR o
   have tq0:=ab hR;rw[KX]at tq;simp at tq0;clear hG hR hO
   go_wp2_with (refine wpList_store_row rfl 190 (.tmp 8) (.tmp 40) rfl (w.heap.size+1) #[.int .i64 p,.int .i64 K,.int .i64 0,.int .i64 (f 0),.int .i64 (f 1),.int .i64 (f 2),.int .i64 (f 3),.int .i64 (f 4)] rfl rfl 190 _ HR.o (by kernel_rfl) rfl (by simp[Value.oneCell']) ?_)
   exact bodyPost_ret (Ce _ _ 8 rfl (w.heap.size+1) _ ⟨p,K,0,f 0,f 1,f 2,f 3,f 4⟩ 190 rfl (setRow_heap _ _ _ _ _ _ HR.o)) rfl ⟨by rw[HV.o],below_setRow aB (by omega) _⟩
theorem aI.rawK{w:World} {base size n:Nat} {e:TypeId} {v:Value} {xs:List Value} (h:aI w base e size v n xs) (h1:∀ u∈xs,u.oneCell'=true):mQ w size v n xs:=by
 rcases h.2 with ⟨rfl,rfl⟩|⟨g,cap,cur,fz,rfl,_,hg,_,iI,_,_,ht⟩
 ·exact⟨none,0,rfl,fun _=>⟨rfl,rfl⟩,h.1,(fun j u hj=>by
   have:xs=[]:=List.eq_nil_of_length_eq_zero (by simpa using h.1)
   rw[this]at hj;simp at hj),h1⟩
 ·exact⟨some ⟨g,0,none⟩,cap,rfl,(fun e=>by cases e),h.1,fun j u hj=>by
   obtain⟨g',c',e1,e2⟩:=h.cell j u hj;injection e1 with e1
   injection e1 with e1
   injection e1 with e1
   subst e1
   exact⟨g,0,rfl,(by rw[Nat.zero_add];exact e2)⟩,h1⟩
theorem Cf{α:Type} {to ti:TypeId} {k:Nat} {flat:List α->List Value} {w:World} {base base':Nat} {v:Value} {l:List (List α)} (h:cB to ti k flat w base v l) (hb:base'<=base):cB to ti k flat w base' v l:=by
 obtain⟨xs,h1,h2⟩:=h;exact⟨xs,h1.base hb,fun i hi=>by obtain⟨x,q1,q2⟩:=h2 i hi;exact⟨x,q1,q2.base hb⟩⟩
def nU(a:Adv) (k:Nat) (m:Mv):List (List Rd):=(cg a k m.to.toNat).map (m.r :: ·)
theorem Ks(a:Adv) (k s:Nat):cg a (k+1) s=(a.states.getD s []).flatMap (nU a k):=rfl
def kF(a:Adv) (k:Nat) (mv:List Mv) (i:Nat):List (List Rd):=(mv.take i).flatMap (nU a k)
theorem Pk{α β:Type} (f:α->List β) (l:List α) (i:Nat) (hi:i<l.length):(l.take (i+1)).flatMap f=(l.take i).flatMap f++f l[i]:=by
 rw[List.take_succ_eq_append_getElem hi,List.flatMap_append];simp
theorem GA{α β:Type} (f:α->List β) (l:List α) (i:Nat):((l.take i).flatMap f).length<=(l.flatMap f).length:=by
 conv=>rhs;rw[<-List.take_append_drop i l,List.flatMap_append,List.length_append]
 omega
theorem Fd(a:Adv) (fL:∀ s,s<a.states.length->∀ m∈a.states.getD s [],0<=m.to/\m.to<a.states.length):∀ (k:Nat) (st:Nat) (v:Value) (w:World),k<=64->st<a.states.length->(cg a k st).length<=4096->bA w v a.states →
  Calls Tryz.prog 157 #[.agg #[.int .i64 a.n,v],.int .i64 st,.int .i64 k] w fun r w'=>∃ u,r=.returned u/\uT w' w.heap.size u (cg a k st)/\Below w.heap.size w w'
 | 0,st,v,w,_,dO,_,hv=>by
  obtain⟨pa,ca,rfl,_⟩:=hv.at;clear hv
  go_enter Tryz.func157,Tryz.ntmps157
  go_wp2_with fail
  go_ret
  refine⟨_,rfl,⟨[.slice none 0 0],⟨rfl,.inr ⟨w.heap.size+1,1,_,(0,0),rfl,by omega,bz _ _ _,fun i _ h=>by have:=h.2;simp at this,Nat.le_refl _,by unfold maxLen;omega,rfl,rfl⟩⟩,fun i hi=>?_⟩,by go_grown⟩;obtain rfl:i=0:=by simp[cg]at hi;omega
  exact⟨_,rfl,aI.nil _ _ _ _⟩
 | k+1,st,v,w,hk64,dO,cN,hv=>by
  have IH:=aa (Fd a fL k);obtain⟨i0,cY,cC,bY,cD⟩:=info_parts Tryz.infoRound;have bZ:=aa (And.intro cY (And.intro cC (And.intro bY cD)));obtain⟨i1,oY,jb,jt,iJ⟩:=info_parts Tryz.infoWordRow;have tW:=aa (And.intro oY (And.intro jb (And.intro jt iJ)));obtain⟨pa,ca,rfl,la1,la2,ea⟩:=hv.at;obtain⟨b1,o1,rfl,x1,c1,dA⟩:=ea st dO;obtain⟨pm,cm,rfl,lm1,lm2,em⟩:=dA.at;rw[Nat.mul_one]at c1;have HV:=aa hv;have C1:=aa c1;have EM:=aa em;have Wy:am (∀ i (hi:i<(a.states[st]).length),0<=(a.states[st][i]).to/\(a.states[st][i]).to<a.states.length):=aa (fun i hi=>fL st dO _ (by rw[aA [] dO];exact List.getElem_mem hi));rw[Ks,aA [] dO]at cN ⊢;generalize a.states[st]=mv at c1 C1 EM Wy lm1 lm2 cN dA ⊢;have jy:am (∀ i (hi:i<mv.length),kF a k mv (i+1)=kF a k mv i++nU a k mv[i]):=aa (Pk (nU a k) mv);have ug:am (∀ i,(kF a k mv i).length<=(mv.flatMap (nU a k)).length):=aa (GA (nU a k) mv)
  have CJ:am (∀ i (hi:i<mv.length),(nU a k mv[i]).length+(kF a k mv i).length<=4096):=aa (fun i hi=>by
   have h1:=ug.o (i+1);rw[jy.o i hi,List.length_append]at h1
   omega)
  have HFE0:am (kF a k mv mv.length=mv.flatMap (nU a k)):=aa (by unfold kF;rw[List.take_length]);have HF00:am (kF a k mv 0=[]):=aa rfl;generalize mv.flatMap (nU a k)=FF at ug HFE0 cN ⊢;obtain⟨n,hn⟩:∃ n,mv.length=n:=⟨_,rfl⟩;have HN:=aa hn;obtain⟨ns,oL⟩:∃ ns,a.states.length=ns:=⟨_,rfl⟩;have Gc:=aa oL;rw[oL]at dO la1 la2 Wy HV ⊢;clear hv ea em dA oL cY cC bY cD oY jb jt iJ;obtain⟨kz,hkz⟩:∃ kz:Int,((k+1:Nat):Int)=kz:=⟨_,rfl⟩;have eZ:(kz == 0)=false:=beq_eq_false_iff_ne.2 (by omega);have HW1K:am (IntKind.i64.wrap (kz - 1)=(k:Int)):=aa (by rw[IntWalk.i64_in _ (by omega)];omega);rw[hkz];clear hkz
  go_enter Tryz.func157,Tryz.ntmps157
  go_wp2_with fail
  refine bF (fun W=>Below w.heap.size w W/\W.heap[w.heap.size]?=some (.cells #[.int .i64 a.n,.slice (some ⟨b1,o1,none⟩) ns ca] 27)) ⟨by go_grown,aq _ _⟩ (fun w1 jx=>?_);have gz:=aa jx.1;have dN:=aa jx.2;have fV:=aC jx.2;have hsz1:=jx.1.size;clear jx
  go_loopw [7,8] (fun o i wr=>∃ i':Nat,i'<=n/\i=.int .i64 i'/\Below w1.heap.size w1 wr/\uT wr w1.heap.size o (kF a k mv i')) (fun _ i _=>n - (intOf i).toNat)
  ·exact⟨0,by omega,rfl,Below.refl _ _,by rw[HF00.o];exact cB.nil _ _⟩
  ·
   obtain⟨i,hi,rfl,aB,qZ⟩:=hrel;have aU:=aa aB;have dx:=ae gz.o aB;have tA:=ab (af aB dN.o);have tc:=ak dx C1.o;have hfr':=qZ;obtain⟨xs0,Fx,QK⟩:=qZ;obtain⟨po,co,rfl⟩:=Fx.slice;have vF:=aa hfr';have TS:=aa (Fx.lt);clear hfr' Fx QK;by_cases aD:i<n
   ·have UB:i<mv.length:=by rw[HN.o];exact aD
    obtain⟨b2,o2,rfl,⟨⟨d0,_⟩,⟨d1,_⟩,⟨d2,_⟩,⟨d3,_⟩,⟨d4,_⟩,⟨d5,_⟩,⟨d6,_⟩⟩,⟨d7,_⟩⟩:=EM.o i UB;have d0:=ak dx d0;have d1:=ak dx d1;have d2:=ak dx d2;have d3:=ak dx d3;have d4:=ak dx d4;have d5:=ak dx d5;have d6:=ak dx d6;have d7:=ak dx d7;have QT:=aa (Wy.o i UB);have IT:=aa (jy.o i UB);have F5:=aa (CJ.o i UB);generalize mv[i]=m at d0 d1 d2 d3 d4 d5 d6 d7 QT IT F5;obtain⟨to,pg⟩:∃ to:Nat,m.to=to:=⟨m.to.toNat,by have:=QT.o;omega⟩;have hto2:to<ns:=by have:=QT.o;omega
    have Qg:=aa pg;rw[pg]at d7;have SG:=HW1K.o;obtain⟨wrA,lV⟩:∃ x,x=wr:=⟨_,rfl⟩;subst lV;clear pg;have Us:am (nU a k m=(cg a k to).map (m.r :: ·)):=aa (by unfold nU;rw[Qg.o,Int.toNat_natCast]);have hRL:(cg a k to).length<=4096:=by have h1:=F5.o;rw[Us.o,List.length_map]at h1;omega
    have tA2:=fun o=>ab (az o (af aB dN.o))
    go_wp2_with fail
    refine aQ (fun W=>Below wrA.heap.size wrA W/\W.heap[wrA.heap.size]?=some (.cells #[.int .i64 m.r.g.n,.int .i64 m.r.g.h0,.int .i64 m.r.g.h1,.int .i64 m.r.g.h2,.int .i64 m.r.g.h3,.int .i64 m.r.g.h4,.int .i64 m.r.f,.int .i64 to] 143)) ⟨by go_grown,aq _ _⟩ (fun w4 xg=>?_);have Ql:=aa xg.1;have eU:=aa xg.2;have yH:=aC xg.2;clear xg d0 d1 d2 d3 d4 d5 d6 d7 tA tA2 tc;refine(IH.o to _ w4 (by omega) (by rw[Gc.o];exact hto2) hRL (HV.o.up up_moves (ae dx Ql.o))).mono ?_;rintro r w5 ⟨u,rfl,hu,dG⟩;have HU:=aa hu;have lC:=aa dG;obtain⟨xs,dA,dW⟩:=hu;obtain⟨pu,cu,rfl⟩:=dA.slice;have kJ:=aa dA;have fY:=aa dW;obtain⟨rs,JZ⟩:∃ rs,cg a k to=rs:=⟨_,rfl⟩;rw[JZ]at Us hRL HU kJ fY ⊢;have hsz5:=dG.size;have HF5:=aa (vF.o.up (ae Ql.o dG));have HBW5:=aa (ae aU.o (ae Ql.o dG));have ff:=aa (af dG eU.o);have WH:am (∀ x∈rs,x.length=k):=aa (by rw[<-JZ];exact kh a k to);have hszA:=aU.o.size;clear dA dW JZ dG IH dx aB;obtain⟨LJ,QQ⟩:∃ LJ:Nat->List (List Rd),LJ=fun j=>kF a k mv i++(rs.take j).map (m.r :: ·):=⟨_,rfl⟩
    have LF:am (LJ 0=kF a k mv i):=aa (by rw[QQ];simp);have Uk:am (∀ j (hj:j<rs.length),LJ (j+1)=LJ j++[m.r :: rs[j]]):=aa (fun j hj=>by rw[QQ];dsimp only;rw[List.take_succ_eq_append_getElem hj,List.map_append,List.append_assoc];rfl);have TI:am (LJ rs.length=kF a k mv (i+1)):=aa (by rw[QQ];dsimp only;rw[List.take_length,IT.o,Us.o])
    have HJL:am (∀ j,j<=rs.length->(LJ j).length<=4096/\(LJ j).length=(LJ 0).length+j):=aa (fun j hj=>by
     have h1:=F5.o;rw[Us.o,List.length_map]at h1;rw[QQ];simp only[List.length_append,List.length_map,List.length_take,Nat.min_eq_left hj,List.take_zero,List.map_nil,List.length_nil]
     omega)
    clear QQ;rw[<-LF.o]at HF5 vF TS ⊢
    go_wp2_with fail
    go_loopw [7,11] (fun o j wr=>∃ j':Nat,j'<=rs.length/\j=.int .i64 j'/\Below w1.heap.size w1 wr/\wr.heap[wrA.heap.size]?=some (.cells #[.int .i64 m.r.g.n,.int .i64 m.r.g.h0,.int .i64 m.r.g.h1,.int .i64 m.r.g.h2,.int .i64 m.r.g.h3,.int .i64 m.r.g.h4,.int .i64 m.r.f,.int .i64 to] 143)/\(∀ q,w4.heap.size<=q->q<w5.heap.size->wr.heap[q]?=w5.heap[q]?)/\w5.heap.size<=wr.heap.size/\(∀ g,o.ownBlock=some g->g<w4.heap.size\/w5.heap.size<=g)/\uT wr w1.heap.size o (LJ j')) (fun _ j _=>rs.length - (intOf j).toNat)
    ·exact⟨0,by omega,rfl,HBW5.o,ff.o,fun q _ _=>rfl,Nat.le_refl _,fun g hg=>.inl (by have:=(TS.o g hg).2;omega),HF5.o⟩
    ·
     obtain⟨j,hj,rfl,FK,eC,hwin,hszj,oT,hfj⟩:=hrel;have Ls:=aa FK;have Sj:=aa eC;have SQ:=aa hwin;have T8:=aa oT;have HFJ:=aa hfj;obtain⟨ys,jt,iJ⟩:=hfj;obtain⟨pq,cq,rfl⟩:=jt.slice;have sf:=aa jt;have vI:=aa iJ;clear FK hwin oT jt iJ;by_cases fJ:j<rs.length
     ·obtain⟨x,LR,qB⟩:=fY.o j fJ;obtain⟨g0,c0,e0,vD⟩:=kJ.o.cell j x LR;injection e0 with e0
      subst e0;have tk:=kJ.o.lt g0 rfl
      have tx:wr.cell? ⟨g0,j,none⟩=some x:=by
       unfold World.cell? at vD ⊢;rw[SQ.o g0 tk.1 tk.2];exact vD
      have Jf:aI wr w4.heap.size 141 7 x rs[j].length (da rs[j]):=qB.keep fun g o hg hh=>(SQ.o g (qB.lt g hg).1 (qB.lt g hg).2).trans hh
      have iF:(rs[j]).length=k:=WH.o _ (List.getElem_mem fJ);have yI:=aa (Uk.o j fJ);have qJ:=aa (HJL.o j (by omega));generalize rs[j]=word at Jf iF yI qB;obtain⟨px,cx,rfl⟩:=Jf.slice;have HRK:=aa (Jf.rawK (sF word));have Uy:=aa iF;have t9:=ab eC;have tx2:=fun o=>ak (show Below wr.heap.size wr (wr.alloc o) by go_grown) tx
      have oI:Below wr.heap.size wr (wr.alloc (.cells m.r.c 141)):=by go_grown
      have oO:am (aI (wr.alloc (.cells m.r.c 141)) wr.heap.size 141 7 (.slice (some ⟨wr.heap.size,0,none⟩) 1 1) 1 m.r.c.toList):=aa ⟨rfl,.inr ⟨wr.heap.size,1,_,(0,0),rfl,Nat.le_refl _,aq _ _,fun i _ h=>by have:=h.2;simp at this,Nat.le_refl _,by unfold maxLen;omega,rfl,rfl⟩⟩
      have HRK2:am (mQ (wr.alloc (.cells m.r.c 141)) 7 (.slice px word.length cx) word.length (da word)):=aa (by
       have h:=(Jf.up oI).rawK (sF word)
       exact h)
      have jJ:am (1+word.length<=maxLen):=aa (by rw[iF];unfold maxLen;omega);have eV:am ((1+word.length) * 56<=140737488355328):=aa (by rw[iF];omega);have HMX2:am ((LJ j).length+1<=maxLen):=aa (by have:=qJ.o.1;unfold maxLen;omega);have SY:am (((LJ j).length+1) * 24<=140737488355328):=aa (by have:=qJ.o.1;omega);have hBJs:=Ls.o.size;clear qB Jf iF vD LR eC;have AS:=aa oI;clear oI tx
      go_wp2_with (at_builtin;first
                   | (refine kS _ rfl (.tmp 50) (.tmp 54) 87 rfl wr.heap.size 141 i0 _ 7 56 Tryz.underlying87 bZ.o.1 bZ.o.2.1 bZ.o.2.2.1 bZ.o.2.2.2 rfl (by decide) _ 1 m.r.c.toList rfl oO.o _ word.length (da word) rfl HRK2.o jJ.o eV.o (by simp) ?_;intro v6 w6 fr eJ hob6;obtain⟨av6,cv6,rfl⟩:=fr.slice;have QU:=aa eJ;have HO6:=aa fr;have TA:=eJ.size;simp only[World.size_alloc]at TA;have JV:am (∀ q,q<wr.heap.size->w6.heap[q]?=wr.heap[q]?):=aa (fun q hq=>(QU.o.block q (by simp;omega) (fun e=>by have e:=dp e;dsimp only at e;omega)).trans (Below.heap_alloc wr _ q hq));have Bz:am (aI (w6.alloc (.cells #[.slice av6 (1+word.length) cv6] 87)) w1.heap.size 87 1 (.slice pq (LJ j).length cq) (LJ j).length ys):=aa ((((sf.o.up AS.o).apart oO.o (by decide) QU.o)).up (show Below w6.heap.size w6 (w6.alloc (.cells #[.slice av6 (1+word.length) cv6] 87)) by go_grown));have bE:=aa (dR w6 [.slice av6 (1+word.length) cv6] 87);have HBS7:am (w1.heap.size<=(w6.alloc (.cells #[.slice av6 (1+word.length) cv6] 87)).heap.size):=aa (by simp;omega);clear fr eJ hob6)
                   | (refine aZ _ rfl (.tmp 49) (.tmp 56) 221 rfl w1.heap.size 87 i1 _ 1 24 Tryz.underlying221 tW.o.1 tW.o.2.1 tW.o.2.2.1 tW.o.2.2.2 rfl (by decide) _ (LJ j).length _ rfl Bz.o ⟨w6.heap.size,0,none⟩ 1 1 [.slice av6 (1+word.length) cv6] rfl rfl bE.o (by simp[Value.oneCell']) HMX2.o SY.o HBS7.o ?_;intro v9 w9 eP dk JE))
      have sh:=dk.size;simp only[World.size_alloc]at sh;have hxl2:(m.r :: word).length=1+word.length:=by simp;omega
      have hx6:aI (w6.alloc (.cells #[.slice av6 (1+word.length) cv6] 87)) w1.heap.size 141 7 (.slice av6 (1+word.length) cv6) (m.r :: word).length (da (m.r :: word)):=by
       rw[hxl2];exact(HO6.o.base (show w1.heap.size<=wr.heap.size from hBJs)).up (show Below w6.heap.size w6 (w6.alloc (.cells #[.slice av6 (1+word.length) cv6] 87)) by go_grown)
      have jY:∀ i (hi:i<(LJ j).length),∃ x,ys[i]?=some x/\aI (w6.alloc (.cells #[.slice av6 (1+word.length) cv6] 87)) w1.heap.size 141 7 x (LJ j)[i].length (da (LJ j)[i]):=fun i hi=>by
       obtain⟨x,q1,q2⟩:=vI.o i hi;exact⟨x,q1,(q2.keep fun g o hg hh=>(JV.o g (q2.lt g hg).2).trans hh).up (show Below w6.heap.size w6 (w6.alloc (.cells #[.slice av6 (1+word.length) cv6] 87)) by go_grown)⟩
      have hfr9:=cB.snoc Bz.o jY (by decide) hx6 dk eP
      have vp:∀ q,q<wr.heap.size->(∀ g,(Value.slice pq (LJ j).length cq).ownBlock=some g->q≠g)->w9.heap[q]?=wr.heap[q]?:=fun q hq hn=>by
       rw[dk.block q (by simp;omega) (fun e=>hn q e.symm rfl),Below.heap_alloc w6 _ q (by omega)];exact JV.o q hq
      have hb69:Below w1.heap.size w1 (w6.alloc (.cells #[.slice av6 (1+word.length) cv6] 87)):=(Below.grown (ae Ls.o AS.o) QU.o (by simp;omega) (fun g hg=>by have e:=dp hg;dsimp only at e;omega)).alloc (by omega) _
      go_roundw
      ·
       refine⟨j+1,by omega,by go_num,Below.grown hb69 dk (by simp;omega) (fun g hg=>(Bz.o.lt g hg).1),?_,fun q h1 h2=>?_,by omega,fun g hg=>?_,by rw[yI.o];exact hfr9⟩
       ·exact(vp _ (aC Sj.o) (fun g hg e=>sf.o.ne Sj.o (by decide) g hg e.symm)).trans Sj.o
       ·exact(vp q (by omega) (fun g hg e=>by rcases T8.o g hg with h|h<;>omega)).trans (SQ.o q h1 h2)
       ·rcases JE with h|h
        ·exact T8.o g (h ▸ hg)
        ·rw[h]at hg;have e:=dp hg;simp at e;exact .inr (by omega)
      ·simp[intOf];omega
     ·obtain rfl:j=rs.length:=by omega
      rw[TI.o]at HFJ sf ⊢
      go_wp2_with fail
      go_roundw
      ·exact⟨i+1,by omega,by go_num,Ls.o,HFJ.o⟩
      ·simp[intOf];omega
   ·obtain rfl:i=n:=by omega
    have Wv:am (uT wr w1.heap.size (.slice po (kF a k mv i).length co) FF):=aa (by have h:=vF.o;rwa [<-HFE0.o,HN.o])
    go_wp2_with fail
    go_ret
    exact⟨_,rfl,Cf Wv.o (by omega),ae gz.o aU.o⟩
theorem rq{k:IntKind} {a b:Int} (h:a=b):Value.int k a=Value.int k b:=by rw[h]
theorem Ik{k:Nat} (hk:k<=30):wrap64 ((2:Int) ^ k)=((2 ^ k:Nat):Int):=by
 have h1:(2:Int) ^ k=((2 ^ k:Nat):Int):=by simp
 have h2:(2:Nat) ^ k<=2 ^ 30:=Nat.pow_le_pow_right (by omega) hk;rw[h1];generalize (2:Nat) ^ k=x at h2;unfold wrap64;omega
theorem Kt{q:Nat->Bool} {k:Nat} (hk:k<=30) (h:q k=true):bits .or .i64 ((maskN q k:Nat):Int) (wrap64 ((2:Int) ^ k))=(maskN q (k+1):Nat):=by
 have h2:(2:Nat) ^ k<=2 ^ 30:=Nat.pow_le_pow_right (by omega) hk;have h3:=gX q k;rw[Ik hk,vV _ _ (by omega) (by omega),xW h]
theorem A9(s:Sys):(rH s).length=eS s:=by simp[rH]
theorem lN(s:Sys) (e:Nat):(fy s e).length=nS s:=by simp[fy]
theorem Vb(s:Sys) (e:Nat) (h:e<(rH s).length):(rH s)[e]=fy s e:=by simp[rH]
theorem Pm(s:Sys) (e p:Nat) (h:p<(fy s e).length):(fy s e)[p]=if hasB (fltS s e) p then -1 else finS s e p:=by simp[fy]
theorem lO{s:Sys} (h:SysOk s) {e p:Nat} (he:e<eS s) (hp:p<nS s):0<=finS s e p/\finS s e p<s.tab.length:=by
 obtain⟨h1,h2⟩:=h.views e he;have hr:s.prob.rounds.toNat<(cJ s e).views.length:=by omega
 have h3:=h2 ((cJ s e).views[s.prob.rounds.toNat]) (List.getElem_mem hr);have e1:(cJ s e).views.getD s.prob.rounds.toNat []=(cJ s e).views[s.prob.rounds.toNat]:=by simp[hr]
 have QX:p<((cJ s e).views[s.prob.rounds.toNat]).length:=by omega
 unfold finS;rw[e1,show ((cJ s e).views[s.prob.rounds.toNat]).getD p 0=((cJ s e).views[s.prob.rounds.toNat])[p] by simp[QX]];exact h3.2 _ (List.getElem_mem QX)
theorem Bc{s:Sys} (h:SysOk s) {e f p:Nat} (he:e<eS s) (hf:f<eS s) (hp:p<nS s) (x y:Int) (hx:x=if hasB (fltS s e) p then -1 else finS s e p) (hy:y=if hasB (fltS s f) p then -1 else finS s f p):linkB s p e f=(decide (0<=x)&&decide (x=y)):=by
 have h1:=(lO h he hp).1;have h2:=(lO h hf hp).1;unfold linkB;subst hx hy;cases hasB (fltS s e) p<;>cases hasB (fltS s f) p<;>simp<;>omega
theorem FinAt.open{w:World} {B:Nat} {s:Sys} (h:FinAt w B s):∃ pl cl,w.heap[B]?=some (.cells #[.int .i64 (nS s),.slice pl (eS s) cl] 201)/\∀ e,e<eS s->∃ b o,pl=some ⟨b,o,none⟩/\∃ pr cr,w.cell? ⟨b,o+e,none⟩=some (.slice pr (nS s) cr)/\aX w (.slice pr (nS s) cr) (fy s e):=by
 obtain⟨vl,h1,h2⟩:=h.ex;obtain⟨pl,cl,rfl,_,_,ep⟩:=h2.at;rw[A9]at h1;refine⟨pl,cl,h1,fun e he=>?_⟩;obtain⟨b,o,e1,v,hc,hv⟩:=ep e (by rw[A9];exact he);rw[Nat.mul_one]at hc;rw[Vb]at hv;obtain⟨pr,cr,rfl,_⟩:=hv.at;rw[lN]at hc hv;exact⟨b,o,e1,pr,cr,hc,hv⟩
theorem V0{w:World} {s:Sys} {e p:Nat} {pr:Option Addr} {cr:Nat} (h:aX w (.slice pr (nS s) cr) (fy s e)) (hp:p<nS s):∃ b o,pr=some ⟨b,o,none⟩/\w.cell? ⟨b,o+p,none⟩=some (.int .i64 (if hasB (fltS s e) p then -1 else finS s e p)):=by
 obtain⟨a,c,e1,_,_,ep⟩:=h.at;obtain⟨b,o,e2,h1⟩:=ep p (by rw[lN];exact hp);injection e1 with e3
 rw[Nat.mul_one,Pm]at h1;exact⟨b,o,e3.trans e2,h1.1⟩
theorem DY{w:World} {s:Sys} {n e p:Nat} {pr:Option Addr} {cr:Nat} (h:aX w (.slice pr n cr) (fy s e)) (hp:p<n):∃ b o,pr=some ⟨b,o,none⟩/\w.cell? ⟨b,o+p,none⟩=some (.int .i64 (if hasB (fltS s e) p then -1 else finS s e p)):=by
 obtain⟨a,c,e1,_⟩:=h.at;injection e1 with _ e4 _
 rw[lN]at e4;subst e4;exact V0 h hp
theorem Cg(s:Sys) (B:Nat) (e:Int) (w:World) (h:FinAt w B s) :
  Calls Tryz.prog 145 #[.pointer (some ⟨B,0,none⟩),.int .i64 e] w fun r w'=>r=.returned (.bool (decide (0<=e)&&decide (e<(eS s:Int))))/\Below w.heap.size w w':=by
 obtain⟨pl,cl,h1,_⟩:=h.open;have t1:=ab h1;clear h1 h;by_cases he:0<=e
 ·have hd:decide ((0:Int)<=e)=true:=by simpa using he
  go_enter Tryz.func145,Tryz.ntmps145
  go_wp2_with fail
  go_ret
  exact⟨aR (by simp[he]),Below.refl _ _⟩
 ·have hd:decide ((0:Int)<=e)=false:=by simpa using he
  go_enter Tryz.func145,Tryz.ntmps145
  go_wp2_with fail
  go_ret
  exact⟨aR (by first|rfl|simp[he]),Below.refl _ _⟩
theorem Af(s:Sys) (hs:SysOk s) (B:Nat) (e f:Nat) (he:e<eS s) (hf:f<eS s) (w:World) (h:FinAt w B s) :
  Calls Tryz.prog 146 #[.pointer (some ⟨B,0,none⟩),.int .i64 e,.int .i64 f] w fun r w'=>r=.returned (.int .i64 (maskN (fun p=>linkB s p e f) (nS s):Nat))/\w=w':=by
 obtain⟨pl,cl,h1,cA⟩:=h.open;have ju:=hs.n.2.1;obtain⟨b,o,rfl,pr,cr,c1,r1⟩:=cA e he;obtain⟨b',o',e2,ps,cs,c2,r2⟩:=cA f hf;cases e2;have R1:=aa r1;have R2:=aa r2;have HL:am (∀ p,p<nS s->linkB s p e f=(decide (0<=if hasB (fltS s e) p then -1 else finS s e p)&&decide ((if hasB (fltS s e) p then -1 else finS s e p)=if hasB (fltS s f) p then -1 else finS s f p))):=aa fun p hp=>Bc hs he hf hp _ _ rfl rfl
 have t1:=ab h1;clear h1 h cA r1 r2;obtain⟨q,hq⟩:∃ q:Nat->Bool,q=fun p=>linkB s p e f:=⟨_,rfl⟩
 have HQ:am (∀ p,linkB s p e f=q p):=aa fun p=>by rw[hq]
 rw[<-hq];clear hq;generalize nS s=n at *;generalize eS s=m at *
 go_enter Tryz.func146,Tryz.ntmps146
 go_wp2_with fail
 go_loop [7,14] (fun x i=>∃ k:Nat,k<=n/\i=.int .i64 k/\x=.int .i64 (maskN q k:Nat)) (fun _ i=>n - (intOf i).toNat)
 ·exact⟨0,by omega,rfl,rfl⟩
 ·
  obtain⟨k,hk,rfl,rfl⟩:=hrel;by_cases aD:k<n
  ·obtain⟨b1,o1,rfl,d1⟩:=DY R1.o aD;obtain⟨b2,o2,rfl,d2⟩:=DY R2.o aD;have hl:=HL.o k aD;rw[HQ.o]at hl;generalize (if hasB (fltS s e) k then -1 else finS s e k)=x at d1 hl;generalize (if hasB (fltS s f) k then -1 else finS s f k)=y at d2 hl;have HM:=aa (gX q k);by_cases hx:0<=x
   ·have UG:decide ((0:Int)<=x)=true:=decide_eq_true hx;by_cases cG:x=y
    ·subst cG;have HB:am (q k=true):=aa (by rw[hl];simp[hx]);clear hl
     go_wp2_with fail
     go_round
     ·exact⟨k+1,by omega,by go_num,rq (Kt (by omega) HB.o)⟩
     ·simp[intOf];omega
    ·have hxy':decide (x=y)=false:=decide_eq_false cG;have HB:am (q k=false):=aa (by rw[hl,hxy'];simp);clear hl
     go_wp2_with fail
     go_round
     ·exact⟨k+1,by omega,by go_num,by rw[<-wc HB.o]⟩
     ·simp[intOf];omega
   ·have UG:decide ((0:Int)<=x)=false:=decide_eq_false hx;have HB:am (q k=false):=aa (by rw[hl,UG];simp);clear hl
    go_wp2_with fail
    go_round
    ·exact⟨k+1,by omega,by go_num,by rw[<-wc HB.o]⟩
    ·simp[intOf];omega
  ·obtain rfl:k=n:=by omega
   go_wp2_with fail
   go_ret
   exact⟨rfl,rfl⟩
def iR(s:Sys) (p e:Nat):Int:=if hasB (fltS s e) p then -1 else finS s e p
theorem Vc{s:Sys} (h:SysOk s) {p e:Nat} (hp:p<nS s) (he:e<eS s):-1<=iR s p e/\iR s p e<=8192:=by
 have h1:=lO h he hp;have h2:=h.tab;unfold iR;split<;>omega
theorem Pn{s:Sys} (h:SysOk s) {p:Nat} (hp:p<nS s) {k:Nat} (hk:k<eS s):(iR s p k<0->firstIx k (fun j=>linkB s p j k)=-1)/\(0<=iR s p k->firstIx k (fun j=>linkB s p j k)=firstIx k fun j=>decide (iR s p j=iR s p k)):=by
 refine⟨fun h1=>dH _ _ fun j hj=>?_,fun h1=>my _ _ _ fun j hj=>?_⟩
 ·rw[Bc h (show j<eS s by omega) hk hp (iR s p j) (iR s p k) rfl rfl];by_cases e:0<=iR s p j
  ·rw[decide_eq_false (show ¬ iR s p j=iR s p k by omega)];simp
  ·rw[decide_eq_false e];rfl
 ·rw[Bc h (show j<eS s by omega) hk hp (iR s p j) (iR s p k) rfl rfl];by_cases e:iR s p j=iR s p k
  ·rw[decide_eq_true e,decide_eq_true (by omega)];rfl
  ·rw[decide_eq_false e];simp
theorem yo(s:Sys) (hs:SysOk s) (hE:eS s<=256) (B p:Nat) (hp:p<nS s) (w:World) (h:FinAt w B s) :
  Calls Tryz.prog 129 #[.pointer (some ⟨B,0,none⟩),.int .i64 p] w fun r w'=>∃ u,r=.returned u/\aX w' u (classL s p)/\Below w.heap.size w w':=by
 obtain⟨pl,cl,h1,cA⟩:=h.open;have H1:=aa h1;have kx:=aa cA;clear h1 cA h;obtain⟨i0,cY,cC,bY,cD⟩:=info_parts Tryz.infoInt;obtain⟨f,hf⟩:∃ f,f=fun i=>(classL s p).getD i 0:=⟨_,rfl⟩
 obtain⟨q,hq⟩:∃ q:Nat->Nat->Bool,q=fun k i=>linkB s p k i:=⟨_,rfl⟩
 obtain⟨lc,hlc⟩:∃ lc:Nat->List Value,lc=fun k=>(List.range k).map fun i=>Value.int .i64 (f i):=⟨_,rfl⟩
 have q6:am (lc 0=[]/\(∀ k,lc (k+1)=lc k++[.int .i64 (f k)])/\lc (eS s)=v7 (classL s p)):=aa (by
  subst hlc;refine⟨rfl,fun k=>by simp[List.range_succ],?_⟩;subst hf;unfold v7;refine List.ext_getElem (by simp[jq]) fun i h1 h2=>?_
  have h3:i<(classL s p).length:=by simpa using h2
  simp[h3])
 have q6:am (lc 0=[]/\∀ k,lc (k+1)=lc k++[.int .i64 (f k)])/\am (lc (eS s)=v7 (classL s p)):=⟨aa ⟨q6.o.1,q6.o.2.1⟩,aa q6.o.2.2⟩;obtain⟨q6,ji⟩:=q6;have BB:am (∀ k,k<eS s->firstIx k (fun j=>q j k)<0->f k=(bu q k).2/\(bu q (k+1)).2=(bu q k).2+1):=aa (fun k hk h=>by subst hf hq;exact Hd hk h);have yO:am (∀ k j,k<eS s->firstIx k (fun j=>q j k)=(j:Nat)->f k=f j/\(bu q (k+1)).2=(bu q k).2):=aa (fun k j hk h=>by subst hf hq;exact He hk h);have Ev:am (∀ k,k<eS s->(iR s p k<0->firstIx k (fun j=>q j k)=-1)/\(0<=iR s p k->firstIx k (fun j=>q j k)=firstIx k fun j=>decide (iR s p j=iR s p k))):=aa (fun k hk=>by subst hq;exact Pn hs hp hk);have jd:am (∀ k,k<eS s->-1<=iR s p k/\iR s p k<=8192):=aa fun k hk=>Vc hs hp hk
 have HC:=aa (jR q)
 have jD:am (∀ w' u,aI w' w.heap.size 3 1 u (eS s) (v7 (classL s p))->aX w' u (classL s p)):=aa (fun w' u h=>by
  have hl:=jq s p;refine aI.ints (base:=w.heap.size) (by rw[hl];exact h) (by omega) fun x hx=>?_
  obtain⟨i,hi,rfl⟩:=List.getElem_of_mem hx;have:=l8 (pG (fun k i=>linkB s p k i) (eS s)) i hi;have e:(im (fun k i=>linkB s p k i) (eS s)).getD i 0=(classL s p)[i]:=aA 0 hi;rw[e]at this
  exact⟨by omega,by omega⟩)
 clear hf hq hlc;have CQ:=@GF Tryz.prog;have t1:=ab (az (.map #[] 0) H1.o);obtain⟨n,hn⟩:∃ n,nS s=n:=⟨_,rfl⟩;obtain⟨m,hm⟩:∃ m,eS s=m:=⟨_,rfl⟩;rw[hn]at hp kx t1;rw[hm]at hE kx t1 ji BB yO Ev jd jD;obtain⟨key,mV⟩:∃ key:Nat->Int,key=iR s p:=⟨_,rfl⟩;rw[<-mV]at Ev jd
 have Fu:am (∀ e,e<m->∃ b o,pl=some ⟨b,o,none⟩/\∃ b' o' cr,w.cell? ⟨b,o+e,none⟩=some (.slice (some ⟨b',o',none⟩) n cr)/\w.cell? ⟨b',o'+p,none⟩=some (.int .i64 (key e))):=aa (fun e he=>by
  obtain⟨b,o,e1,pr,cr,h1,h2⟩:=kx.o e he;obtain⟨b',o',e2,h3⟩:=DY h2 hp;subst e2
  exact⟨b,o,e1,b',o',cr,h1,by rw[mV];exact h3⟩)
 clear kx H1 mV hn hm hs
 go_enter Tryz.func129,Tryz.ntmps129
 go_wp2_with fail
 clear CQ t1;refine bF (fun W=>Below w.heap.size w W/\dr W w.heap.size (fun _=>none) 0) ⟨by go_grown,dr.new w⟩ (fun W0 bh=>?_);have TX:w.heap.size<=w.heap.size:=Nat.le_refl _;have iH:=aa bh;clear bh;obtain⟨M,hM⟩:∃ M,M=w.heap.size:=⟨_,rfl⟩;have HMM:=aa hM;have TX:w.heap.size<=M:=by omega
 rw[<-hM]at iH ⊢;clear hM
 go_loopw [6,7,19] (fun ov nv i wr=>∃ k:Nat,k<=m/\i=.int .i64 k/\Below w.heap.size w wr/\aI wr w.heap.size 3 1 ov k (lc k)/\nv=.int .i64 (bu q k).2/\∃ g c,dr wr M g c/\∀ y,0<=y->g y=dF key f k y) (fun _ _ i _=>m - (intOf i).toNat)
 ·exact⟨0,by omega,rfl,by have h:=iH.o.1;rw[HMM.o]at h;exact h,by rw[q6.o.1];exact aI.nil _ _ _ _,rfl,_,_,iH.o.2,fun y _=>rfl⟩
 ·
  clear iH;obtain⟨k,hk,rfl,aB,bg,rfl,g,c,hM,hg⟩:=hrel;have Ep:=aB.size;have hML:=hM.lt;obtain⟨av,cv,rfl⟩:=bg.slice;have bO:=aa bg;have aU:=aa aB;have HG:=aa hg;have HM:=aa hM;clear bg hg;by_cases aD:k<m
  ·obtain⟨b,o,rfl,b',o',cr,c1,c2⟩:=Fu.o k aD;have d1:=ak aB c1;have d2:=ak aB c2;have tY:=Ev.o k aD;have cZ:=jd.o k aD;have hc:=HC.o k;clear c1 c2 aB;obtain⟨x,dq⟩:∃ x,key k=x:=⟨_,rfl⟩;rw[dq]at d2 tY cZ;obtain⟨nx,mx⟩:∃ nx,(bu q k).2=nx:=⟨_,rfl⟩;rw[mx]at hc ⊢;obtain⟨vD,jI,_⟩:=hc;have yK:=DJ (mt:=245) (kt:=3) (vt:=3) Tryz.underlying245 Tryz.underlying3 (fun w=>by kernel_rfl) hM x;by_cases hx:x<0
   ·have UG:decide (x<0)=true:=decide_eq_true hx;obtain⟨e1,e2⟩:=BB.o k aD (by rw[tY.1 hx];omega);have Dt:am (f k=nx):=aa (e1.trans mx);have gr:am ((bu q (k+1)).2=nx+1):=aa (by rw[e2,mx])
    have jF:am (∀ y,0<=y->(if y=x then some nx else g y)=dF key f (k+1) y):=aa (fun y hy=>by
     rw[if_neg (by omega),HG.o y hy];unfold dF
     rw[show firstIx (k+1) (fun j=>decide (key j=y))=firstIx k (fun j=>decide (key j=y)) by
      rcases bI k (fun j=>decide (key j=y)) with ⟨e,h⟩|⟨j,hj,e,h,h'⟩
      ·rw[e,dH];intro j hj;by_cases ej:j=k
       ·subst ej;exact decide_eq_false (by omega)
       ·exact h j (by omega)
      ·rw[e];exact dB (k+1) j _ (by omega) h' h])
    clear e1 e2 tY mx dq;cases AD:g x with
    | none=>
     rw[AD]at yK;clear AD;obtain⟨o,Ld,rK⟩:=uO (mt:=245) (kt:=3) (vt:=3) Tryz.underlying245 Tryz.underlying3 HM.o x nx;have xo:=aa rK;clear rK hM;have lE:=HM.o.other;obtain⟨om,lE,td⟩:=lE;have FU:=aa (And.intro lE td);clear lE td;have du:=aa ((bO.o.ck (fun b o' gp k8=>(World.putObj_heap_other (fun e=>by subst e;rw[FU.o.1]at gp;cases gp;rw[FU.o.2]at k8;cases k8)).trans gp):aI (wr.putObj M o) w.heap.size 3 1 (.slice av k cv) k (lc k)).up (Below.refl _ _ |>.alloc (Nat.le_refl _) (.cells #[.int .i64 nx] 3)));have bE:=aa (by have h:=dR (wr.putObj M o) [.int .i64 nx] 3;rw[show (wr.putObj M o).heap.size=wr.heap.size by simp]at h;exact h);have Du:=aa (eR (D:=M) (o:=o) TX aU.o)
     go_wp2_with (at_builtin;(refine aZ _ rfl (.tmp 45) (.tmp 47) 38 rfl w.heap.size 3 i0 _ 1 8 Tryz.underlying38 cY cC bY cD rfl (by decide) _ k _ rfl du.o ⟨wr.heap.size,0,none⟩ 1 1 [.int .i64 nx] rfl rfl bE.o (by simp[Value.oneCell']) (by unfold maxLen;omega) (by omega) (by simp;omega) ?_;intro v' w2 fP dz _))
     go_roundw
     ·
      refine⟨k+1,by omega,by go_num,eI Du.o (Nat.le_refl _) du.o dz,?_,?_,?_⟩
      ·rw[q6.o.2 k,Dt.o];exact fP
      ·rw[gr.o]
      ·refine⟨_,_,xo.o.kept ?_,fun y hy=>?_⟩
       ·obtain⟨o3,h3,IL⟩:=xo.o.other;rw[mZ du.o dz h3 IL,h3]
       ·rw[jF.o y hy]
        try rw[HG.o y hy]
     ·simp[intOf];omega
    | some z=>
     rw[AD]at yK;clear AD;obtain⟨o,Ld,rK⟩:=uO (mt:=245) (kt:=3) (vt:=3) Tryz.underlying245 Tryz.underlying3 HM.o x nx;have xo:=aa rK;clear rK hM;have lE:=HM.o.other;obtain⟨om,lE,td⟩:=lE;have FU:=aa (And.intro lE td);clear lE td;have du:=aa ((bO.o.ck (fun b o' gp k8=>(World.putObj_heap_other (fun e=>by subst e;rw[FU.o.1]at gp;cases gp;rw[FU.o.2]at k8;cases k8)).trans gp):aI (wr.putObj M o) w.heap.size 3 1 (.slice av k cv) k (lc k)).up (Below.refl _ _ |>.alloc (Nat.le_refl _) (.cells #[.int .i64 nx] 3)));have bE:=aa (by have h:=dR (wr.putObj M o) [.int .i64 nx] 3;rw[show (wr.putObj M o).heap.size=wr.heap.size by simp]at h;exact h);have Du:=aa (eR (D:=M) (o:=o) TX aU.o)
     go_wp2_with (at_builtin;(refine aZ _ rfl (.tmp 45) (.tmp 47) 38 rfl w.heap.size 3 i0 _ 1 8 Tryz.underlying38 cY cC bY cD rfl (by decide) _ k _ rfl du.o ⟨wr.heap.size,0,none⟩ 1 1 [.int .i64 nx] rfl rfl bE.o (by simp[Value.oneCell']) (by unfold maxLen;omega) (by omega) (by simp;omega) ?_;intro v' w2 fP dz _))
     go_roundw
     ·
      refine⟨k+1,by omega,by go_num,eI Du.o (Nat.le_refl _) du.o dz,?_,?_,?_⟩
      ·rw[q6.o.2 k,Dt.o];exact fP
      ·rw[gr.o]
      ·refine⟨_,_,xo.o.kept ?_,fun y hy=>?_⟩
       ·obtain⟨o3,h3,IL⟩:=xo.o.other;rw[mZ du.o dz h3 IL,h3]
       ·rw[jF.o y hy]
        try rw[HG.o y hy]
     ·simp[intOf];omega
   ·have UG:decide (x<0)=false:=decide_eq_false hx;have AD:=HG.o x (by omega);cases AT:dF key f k x with
    | none=>
     rw[AD,AT]at yK
     obtain⟨e1,e2⟩:=BB.o k aD (by
      rw[tY.2 (by omega)];rw[<-dq];unfold dF at AT;rw[dq];split at AT
      ·assumption
      ·cases AT)
     have Dt:am (f k=nx):=aa (e1.trans mx);have gr:am ((bu q (k+1)).2=nx+1):=aa (by rw[e2,mx])
     have jF:am (∀ y,0<=y->(if y=x then some nx else g y)=dF key f (k+1) y):=aa (fun y hy=>by
      have h:=xL (key:=key) (f:=f) (k:=k) (by rw[dq];exact AT) y;rw[dq,Dt.o]at h
      rw[h,HG.o y hy])
     clear e1 e2 tY mx dq AT AD;obtain⟨o,Ld,rK⟩:=uO (mt:=245) (kt:=3) (vt:=3) Tryz.underlying245 Tryz.underlying3 HM.o x nx;have xo:=aa rK;clear rK hM;have lE:=HM.o.other;obtain⟨om,lE,td⟩:=lE;have FU:=aa (And.intro lE td);clear lE td;have du:=aa ((bO.o.ck (fun b o' gp k8=>(World.putObj_heap_other (fun e=>by subst e;rw[FU.o.1]at gp;cases gp;rw[FU.o.2]at k8;cases k8)).trans gp):aI (wr.putObj M o) w.heap.size 3 1 (.slice av k cv) k (lc k)).up (Below.refl _ _ |>.alloc (Nat.le_refl _) (.cells #[.int .i64 nx] 3)));have bE:=aa (by have h:=dR (wr.putObj M o) [.int .i64 nx] 3;rw[show (wr.putObj M o).heap.size=wr.heap.size by simp]at h;exact h);have Du:=aa (eR (D:=M) (o:=o) TX aU.o)
     go_wp2_with (at_builtin;(refine aZ _ rfl (.tmp 45) (.tmp 47) 38 rfl w.heap.size 3 i0 _ 1 8 Tryz.underlying38 cY cC bY cD rfl (by decide) _ k _ rfl du.o ⟨wr.heap.size,0,none⟩ 1 1 [.int .i64 nx] rfl rfl bE.o (by simp[Value.oneCell']) (by unfold maxLen;omega) (by omega) (by simp;omega) ?_;intro v' w2 fP dz _))
     go_roundw
     ·
      refine⟨k+1,by omega,by go_num,eI Du.o (Nat.le_refl _) du.o dz,?_,?_,?_⟩
      ·rw[q6.o.2 k,Dt.o];exact fP
      ·rw[gr.o]
      ·refine⟨_,_,xo.o.kept ?_,fun y hy=>?_⟩
       ·obtain⟨o3,h3,IL⟩:=xo.o.other;rw[mZ du.o dz h3 IL,h3]
       ·rw[jF.o y hy]
        try rw[HG.o y hy]
     ·simp[intOf];omega
    | some z=>
     rw[AD,AT]at yK;obtain⟨j,hj,e3,e4,e5⟩:=ri AT;obtain⟨e1,e2⟩:=yO.o k j aD (by rw[tY.2 (by omega)];exact e3);have Dt:am (f k=z):=aa (by rw[e1,e5]);have gr:am ((bu q (k+1)).2=nx):=aa (by rw[e2,mx]);have jF:am (∀ y,dF key f (k+1) y=dF key f k y):=aa (xM (z:=z) (by rw[dq];exact AT));clear e1 e2 e3 e4 e5 tY mx dq AT AD;clear hM;have du:=aa (bO.o.up (Below.refl _ _ |>.alloc (Nat.le_refl _) (.cells #[.int .i64 z] 3)));have bE:=aa (dR wr [.int .i64 z] 3)
     go_wp2_with (at_builtin;(refine aZ _ rfl (.tmp 45) (.tmp 47) 38 rfl w.heap.size 3 i0 _ 1 8 Tryz.underlying38 cY cC bY cD rfl (by decide) _ k _ rfl du.o ⟨wr.heap.size,0,none⟩ 1 1 [.int .i64 z] rfl rfl bE.o (by simp[Value.oneCell']) (by unfold maxLen;omega) (by omega) (by simp;omega) ?_;intro v' w2 fP dz _))
     go_roundw
     ·
      refine⟨k+1,by omega,by go_num,eI aU.o (Nat.le_refl _) du.o dz,?_,?_,?_⟩
      ·rw[q6.o.2 k,Dt.o];exact fP
      ·rw[gr.o]
      ·refine⟨_,_,HM.o.kept ?_,fun y hy=>?_⟩
       ·obtain⟨o3,h3,IL⟩:=HM.o.other;rw[mZ du.o dz h3 IL,h3]
       ·rw[HG.o y hy,jF.o y]
     ·simp[intOf];omega
  ·obtain rfl:k=m:=by omega
   rw[ji.out]at bO;clear hM
   go_wp2_with fail
   go_ret
   exact⟨_,rfl,jD.o _ _ bO.o,aU.o⟩
theorem Il{w:World} {base:Nat} {v:Value} {l:List (List Int)} (h:qd w base v l) (hr:∀ x∈l,∀ y∈x,bT y) (hn:l.length<=1048576) (oz:∀ x∈l,x.length<=1048576):ef w v l:=by
 obtain⟨xs,h1,h2⟩:=h;have h3:=aI.of_owns h1;have hl:xs.length=l.length:=by have:=h3.1;omega
 exact nT ⟨xs,h3,fun i hi=>⟨xs[i]'(by omega),by rw[List.getElem?_eq_getElem],aI.of_owns (h2 i hi (by omega))⟩⟩ hr hn oz
theorem Ch{s:Sys} (h:SysOk s) {e:Nat} (he:e<eS s):iO s.prob.t (cJ s e).c (fltS s e)=0:=by
 have h1:=h.cas e he;have h2:=h.flt e he;have h3:=(ru h.prob).1;unfold iO;rw[if_neg (by omega),if_neg (by omega),if_neg];have h4:s.prob.t.n.toNat=nS s:=by have:=h.n;omega
 rw[h4];omega
theorem Ku{s:Sys} (h:SysOk s) {e:Nat} (he:e<eS s):iP s.prob.t (cJ s e).c (fltS s e)=vecE s e:=by
 unfold iP;rw[if_neg (by rw[Ch h he];simp)];rfl
def vq(s:Sys) (e j x:Nat):Bool:=anyLt j fun i=>decide (((vecE s e).getD i []).getD 0 0=(x:Int))
theorem Vd(s:Sys) (e j v:Nat) (hv:v<8) (h:((vecE s e).getD j []).getD 0 0=(v:Int)):maskN (vq s e j) 8 ||| 2 ^ v=maskN (vq s e (j+1)) 8:=by
 rw[<-OT hv,Rr];refine z6 fun x _=>?_
 show (vq s e j x || decide (x=v))=(vq s e j x || decide (((vecE s e).getD j []).getD 0 0=(x:Int)))
 congr 1;rw[h,decide_eq_decide];omega
theorem Vf(s:Sys) (e:Nat):maskN (vq s e 0) 8=0:=(nO _ _).2 ((fR _ _).2 fun _ _=>rfl)
theorem Fe{s:Sys} (h:SysOk s) (ha:agreeB s.prob.t=true) {e:Nat} (he:e<eS s) {v:List Int} (hv:v∈vecE s e):constB v=true/\v=List.replicate (nS s) (v.getD 0 0)/\0<=v.getD 0 0/\v.getD 0 0<oS s/\v.length=nS s:=by
 obtain⟨_,h2⟩:=B2 h he;obtain⟨h3,h4,i,j,hi,hj,h5⟩:=h2 v hv;have hc:=(qh _).1 ha i hi j hj;rw[<-h5]at hc;have hn:=h.n;have h6:=OW hc;have h7:=h4 (v.getD 0 0) (by rw[show v.getD 0 0=v[0]'(by omega) by simp[show 0<v.length by omega]];exact List.getElem_mem _);exact⟨hc,by rw[<-h3];exact h6,h7.1,h7.2,h3⟩
theorem V1{s:Sys} (h:SysOk s) (ha:agreeB s.prob.t=true) {e:Nat} (he:e<eS s):maskN (vq s e (vecE s e).length) 8=gY s e:=by
 refine z6 fun x _=>?_
 rw[Bool.eq_iff_iff,KL];unfold vq;rw[ld];constructor
 ·rintro⟨k,hk,h1⟩;have h2:(vecE s e)[k]∈vecE s e:=List.getElem_mem hk;have h3:=(Fe h ha he h2).2.1;rw[aA [] hk]at h1;rw[of_decide_eq_true h1]at h3;rw[<-h3];exact h2
 ·intro h1;obtain⟨k,hk,e1⟩:=List.getElem_of_mem h1;refine⟨k,hk,?_⟩;rw[aA [] hk,e1];have hn:=h.n.1;simp[show 0<nS s by omega]
theorem uz{m k:Nat} (hm:m<1024) (hk:k<=30):bits .or .i64 ((m:Nat):Int) (wrap64 ((2:Int) ^ k))=((m ||| 2 ^ k:Nat):Int):=by
 have h2:(2:Nat) ^ k<=2 ^ 30:=Nat.pow_le_pow_right (by omega) hk;rw[Ik hk,vV _ _ (by omega) (by omega)]
theorem Po(y x:Int) (b:Nat) (a:Addr) (n c:Nat) (hn:0<n) (W:World) (h1:W.cell? ⟨b,0,none⟩=some (.slice (some a) n c)) (h2:W.cell? a=some (.int .i64 x)) :
  Calls Tryz.prog 127 #[.int .i64 y,.pointer (some ⟨b,0,none⟩)] W fun e W'=>e=.returned (.bool (y != x))/\Below W.heap.size W W':=by
 go_enter Tryz.func127,Tryz.ntmps127
 go_wp2_with fail
 go_ret
 exact⟨rfl,by go_grown⟩
theorem Pp(l:List Int) (hc:constB l=true) (a:Option Addr) (c b:Nat) (W:World) (hv:aX W (.slice a l.length c) l) (hB:W.heap[b]?=some (.cells #[.slice a l.length c] 38)) :
  Calls Tryz.prog 106 #[.slice a l.length c,.func (.func 127) #[] #[.pointer (some ⟨b,0,none⟩)]] W fun e W'=>e=.returned (.bool false)/\Below W.heap.size W W':=by
 refine(kl 127 #[.pointer (some ⟨b,0,none⟩)] (enters_of Tryz.func127 (by kernel_rfl) rfl) _ l (fun i=>decide (l.getD i 0≠l.getD 0 0)) W hv (fun i hi W2 aY=>?_)).mono fun e W' ⟨h1,h2⟩=>⟨?_,h2⟩
 ·obtain⟨pa,ca,e1,_,_,ea⟩:=hv.at;injection e1 with e1 _ _
  subst e1;obtain⟨b0,o0,e0,h0,_⟩:=ea 0 (by omega);rw[Nat.zero_mul,Nat.add_zero]at h0;have:=Po l[i] (l.getD 0 0) b ⟨b0,o0,none⟩ l.length c (by omega) W2 (by rw[ab (af aY hB),e0];rfl) (by rw[aA 0 (show 0<l.length by omega)];exact ak aY h0);refine this.mono fun e W' ⟨h1,h2⟩=>⟨?_,h2⟩
  rw[h1,aA 0 hi];have hx:(l[i] != l.getD 0 0)=decide (l[i]≠l.getD 0 0):=by rw[Bool.eq_iff_iff];simp
  rw[hx]
 ·rw[h1];unfold constB at hc;rw[Bool.not_eq_true']at hc;rw[hc]
theorem RQ(s:Sys) (hs:SysOk s) (ha:agreeB s.prob.t=true) (e:Nat) (he:e<eS s) (vc:Value) (pw:Option Addr) (nw cw:Nat) (vv:Value) (w:World) (hv:bN w vc s.prob.t.cases) (mi:nw<=6)
  (fQ:0<nw->∃ b1 o1,pw=some ⟨b1,o1,none⟩/\w.cell? ⟨b1,o1+(nw - 1) * 7+6,none⟩=some (.int .i64 (fltS s e))) (gR:nw=0->fltS s e=0) :
  Calls Tryz.prog 77 #[.agg #[.int .i64 s.prob.t.n,.int .i64 s.prob.t.ins,.int .i64 s.prob.t.outs,vc],.agg #[.int .i64 (cJ s e).c,.slice pw nw cw,vv]] w fun r w'=>r=.returned (.tuple #[.int .i64 (gY s e:Nat),.int .i64 0])/\Below w.heap.size w w':=by
 have HA:=aa (fun W (hb:Below w.heap.size w W)=>Kg s.prob.t vc (cJ s e).c (fltS s e) W (hv.up up_case hb));rw[Ch hs he,Ku hs he]at HA
 have vF:=aa (fun (W:World) (base:Nat) (u:Value) (h:qd W base u (vecE s e))=>Il h (fun x hx y hy=>by
  have h1:=(B2 hs he).2 x hx;have h2:=h1.2.1 y hy;have h3:=hs.outs;exact⟨by omega,by omega⟩) (by
  have h1:=hs.cas e he;have h2:=(fp (ru hs.prob).1).2.2.2.2 (s.prob.t.cases.getD (cJ s e).c.toNat default) (by rw[aA default h1.2];exact List.getElem_mem _);have h3:=KH h2 (fltS s e);have h4:vecE s e=gg (s.prob.t.cases.getD (cJ s e).c.toNat default) (fltS s e):=rfl;rw[h4]
  omega) (fun x hx=>by have:=((B2 hs he).2 x hx).1;have:=hs.n;omega))
 have HCON:=aa (fun (v:List Int) (hv:v∈vecE s e)=>Fe hs ha he hv);have fk:=aa (fun j v=>Vd s e j v);have mT:=aa (V1 hs ha he);have HZ:=aa (Vf s e);have hos:=hs.outs.2.1;obtain⟨pc,cc,rfl,l1,m1,e1⟩:=hv.at;clear hv e1 ha;generalize vecE s e=vl at HA vF HCON fk mT;by_cases hw:nw=0
 case' pos=>
  have hz:=gR hw;subst hw;rw[hz]at HA
  go_enter Tryz.func77,Tryz.ntmps77
  go_wp2_with fail
 case' neg=>
  obtain⟨q,rfl⟩:∃ q,nw=q+1:=⟨nw - 1,by omega⟩;obtain⟨b1,o1,rfl,c5⟩:=fQ (by omega);rw[Nat.add_sub_cancel]at c5;have d5:∀ o1' o2',((w.alloc o1').alloc o2').cell? ⟨b1,o1+q * 7+6,none⟩=some (.int .i64 (fltS s e)):=fun o1' o2'=>ak (by go_grown) c5
  clear c5 fQ gR
  go_enter Tryz.func77,Tryz.ntmps77
  go_wp2_with fail
  clear d5
 all_goals
  refine aQ (fun W=>Below w.heap.size w W) (by go_grown) (fun W0 aJ=>?_);refine(HA.o W0 aJ).mono ?_;rintro r w1 ⟨u,rfl,hu,aM⟩;have HU:=aa (vF.o _ _ _ hu);obtain⟨pu,cu,rfl,lu1,lu2,eu⟩:=HU.o.at;have EU:=aa eu;have bL:=aa (ae aJ aM);clear hu aJ aM eu
  go_wp2_with fail
  go_loopw [10,35] (fun o i wr=>∃ j:Nat,j<=vl.length/\i=.int .i64 j/\o=.int .i64 (maskN (vq s e j) 8:Nat)/\Below w1.heap.size w1 wr) (fun _ i _=>vl.length - (intOf i).toNat)
  ·exact⟨0,by omega,rfl,by rw[HZ.o];rfl,Below.refl _ _⟩
  ·
   obtain⟨j,hj,rfl,rfl,aB⟩:=hrel;have aU:=aa aB;by_cases aD:j<vl.length
   ·obtain⟨b3,o3,rfl,vx,cvx,Ga⟩:=EU.o j aD;have dv:=ak aB cvx;have Dk:=aa (Ga.up up_int aB);obtain⟨pv,cv,rfl,lv1,lv2,ev⟩:=Dk.o.at;obtain⟨g1,g2,g3,g4,g5⟩:=HCON.o vl[j] (List.getElem_mem aD);have LG:vl.getD j []=vl[j]:=aA [] aD;have qG:=aa (fk.o j);rw[LG]at qG;rw[Nat.mul_one]at dv;generalize vl[j]=v at dv Dk lv1 lv2 ev g1 g2 g3 g4 g5 qG;have fA:=hs.n.1;obtain⟨b4,o4,rfl,c4,-⟩:=ev 0 (by omega);have UE:v[0]'(by omega)=v.getD 0 0:=(aA 0 (by omega)).symm;rw[UE,Nat.zero_mul,Nat.add_zero]at c4;obtain⟨v0,jU⟩:∃ v0:Nat,v.getD 0 0=v0:=⟨(v.getD 0 0).toNat,by omega⟩;rw[jU]at c4 g4 qG;have hv8:v0<8:=by omega
    have yI:=aa (qG.o v0 hv8 rfl);have oA:=aa g1;have cN:0<v.length:=by omega
    have Xz:=aa c4;have hmlt:maskN (vq s e j) 8<256:=gX _ 8;have CJ:=aa hmlt;clear cvx Ga aB ev g1 g2 g3 g4 g5 LG UE jU c4 hmlt qG fA
    go_wp2_with fail
    clear dv;refine aQ (fun W=>Below wr.heap.size wr W/\W.heap[wr.heap.size]?=some (.cells #[.slice (some ⟨b4,o4,none⟩) v.length cv] 38)) ⟨by go_grown,aq _ _⟩ (fun W3 mn=>?_);obtain⟨bH,Yb⟩:=mn;refine(Pp v oA.o _ cv wr.heap.size W3 (Dk.o.up up_int bH) Yb).mono ?_;rintro r w4 ⟨rfl,bR⟩;have tb:=ab (af bR Yb) 0;simp at tb;have t0:=ak (ae bH bR) Xz.o;have eU:=aa (ae bH bR);clear bH bR Yb
    go_wp2_with fail
    go_roundw
    ·exact⟨j+1,by omega,by go_num,rq (by rw[<-yI.o];exact uz (by have:=CJ.o;omega) (by omega)),ae aU.o eU.o⟩
    ·simp[intOf];omega
   ·have HR:am (maskN (vq s e j) 8=gY s e):=aa (by rw[<-mT.o,show j=vl.length by omega])
    go_wp2_with fail
    go_ret2
    exact⟨by rw[HR.o];simp,ae bL.o aU.o⟩
theorem Pq(x:Nat) (hx:x<256) (dq:x≠0) (w:World) (hT:io w) :
  Calls Tryz.prog 178 #[.int .u64 x] w fun e w'=>e=.returned (.int .i64 (Lib.ctz 64 x))/\w=w':=by
 obtain⟨NV,hk⟩:=Lib.lowest_bit 64 x dq (by omega);obtain⟨hi,zg⟩:=Lib.deBruijn64_at _ hk;have eK:=hT _ hi;rw[zg]at eK;exact U0 x _ _ w (by simp;omega) (tz64_key x _ (by omega) dq NV) hi hk eK
theorem Vg(x:Nat) (hx:x<256) (dq:x≠0) (w:World) (hT:io w) :
  Calls Tryz.prog 133 #[.int .u64 x] w fun e w'=>e=.returned (.int .i64 (Lib.ctz 64 x))/\w=w':=by
 have HC:=aa (Pq x hx dq w hT);clear hT
 go_enter Tryz.func133,Tryz.ntmps133
 go_wp2_with fail
 refine HC.o.mono ?_;rintro e w' ⟨rfl,rfl⟩
 go_wp2_with fail
 go_ret
 exact⟨rfl,rfl⟩
theorem ctz_first:∀ x,x<256->x≠0->((Lib.ctz 64 x:Nat):Int)=firstIx 8 fun i=>x.testBit i:=by decide +kernel
theorem Ci(q:Nat->Bool) (w:World) (hT:io w) :
  Calls Tryz.prog 83 #[.int .i64 (maskN q 8:Nat)] w fun e w'=>e=.returned (.int .i64 (firstIx 8 q))/\w=w':=by
 have aD:maskN q 8<256:=gX q 8;have HZ:am (maskN q 8=0->firstIx 8 q=-1):=aa fun h=>dH _ _ ((fR _ _).1 ((nO q 8).1 h))
 have HN:am (maskN q 8≠0->((Lib.ctz 64 (maskN q 8):Nat):Int)=firstIx 8 q):=aa fun h=>by
  rw[ctz_first _ aD h];refine my _ _ _ fun j hj=>?_
  rw[dT,decide_eq_true hj,Bool.true_and]
 have HC:=aa (fun h=>Vg (maskN q 8) aD h w hT);generalize maskN q 8=x at *;clear hT;by_cases h0:x=0
 ·have HR:=aa (HZ.o h0);have hd:((x:Int) == 0)=true:=by simp[h0]
  clear h0
  go_enter Tryz.func83,Tryz.ntmps83
  go_wp2_with fail
  go_ret
  exact⟨aF (by rw[HR.o]),rfl⟩
 ·have HR:=aa (HN.o h0);have uj:=aa (HC.o h0);have hd:((x:Int) == 0)=false:=by simp;omega
  have hw:IntKind.u64.wrap (x:Int)=x:=by simp[IntKind.wrap,IntKind.bits];omega
  clear h0
  go_enter Tryz.func83,Tryz.ntmps83
  go_wp2_with fail
  refine uj.o.mono ?_;rintro e w' ⟨rfl,rfl⟩
  go_wp2_with fail
  go_ret
  exact⟨aF (by rw[HR.o]),rfl⟩
def maxTo(l:List Int):Nat->Int
 | 0=>l.getD 0 0
 | k+1=>max (maxTo l k) (l.getD (k+1) 0)
theorem Im(l:List Int):∀ k i,i<=k->l.getD i 0<=maxTo l k
 | 0,i,h=>by
  obtain rfl:i=0:=by omega
  exact Int.le_refl _
 | k+1,i,h=>by
  rw[maxTo];by_cases e:i=k+1
  ·subst e;omega
  ·have:=Im l k i (by omega);omega
theorem Bd(l:List Int):∀ k,∃ i,i<=k/\maxTo l k=l.getD i 0
 | 0=>⟨0,Nat.le_refl _,rfl⟩
 | k+1=>by
  obtain⟨i,hi,e⟩:=Bd l k;rw[maxTo];by_cases h:maxTo l k<=l.getD (k+1) 0
  ·exact⟨k+1,Nat.le_refl _,by omega⟩
  ·exact⟨i,by omega,by omega⟩
theorem GB(v:Value) (l:List Int) (w:World) (hv:aX w v l) (h0:0<l.length) :
  Calls Tryz.prog 82 #[v] w fun e w'=>e=.returned (.int .i64 (maxTo l (l.length - 1)))/\w=w':=by
 obtain⟨pa,ca,rfl,lt1,lt2,ea⟩:=hv.at;have EA:=aa ea;obtain⟨b0,o0,rfl,c0,-⟩:=ea 0 h0;rw[Nat.zero_mul,Nat.add_zero,<-aA 0 h0]at c0;clear hv ea
 go_enter Tryz.func82,Tryz.ntmps82
 go_wp2_with fail
 clear c0
 go_loop [3,4] (fun m i=>∃ k:Nat,k<l.length/\i=.int .i64 ((k:Int)+1)/\m=.int .i64 (maxTo l k)) (fun _ i=>l.length+1 - (intOf i).toNat)
 ·exact⟨0,h0,rfl,rq (by rw[maxTo,aA 0 h0])⟩
 ·
  obtain⟨k,hk,rfl,rfl⟩:=hrel;by_cases aD:k+1<l.length
  ·obtain⟨b1,o1,e1,c1,-⟩:=EA.o (k+1) aD;cases e1;rw[Nat.mul_one,<-aA 0 aD]at c1;have c2:w.cell? ⟨b0,o0+(k+1),none⟩=some (.int .i64 (l.getD (k+1) 0)):=c1;have HM:am (maxTo l (k+1)=max (maxTo l k) (l.getD (k+1) 0)):=aa rfl;generalize l.getD (k+1) 0=x at c1 c2 HM;generalize maxTo l k=m at HM;have kN:(k:Int)+1<(l.length:Int):=by omega
   go_wp2_with fail
   go_round
   ·exact⟨k+1,aD,by go_num,rq (by rw[HM.o])⟩
   ·simp[intOf];omega
  ·have kN:¬ (k:Int)+1<(l.length:Int):=by omega
   have HK:am (l.length - 1=k):=aa (by omega)
   go_wp2_with fail
   go_ret
   exact⟨aF (by rw[HK.o]),rfl⟩
end Go.Proofs.YtmeaoneaephjeaaGreatDoor
namespace Go.Proofs.YtmeaoneaephjeaaGreatDoor
open Go.RowKit Go Go.Shelf
theorem yq{w:World} {base:Nat} {v:Value} {l:List Vw} (h:aI w base 190 8 v l.length (eX l)) (hx:∀ u∈l,jS u) (hn:l.length<=17592186044416):m3 w v l:=by
 have aS:=fun i (hi:i<l.length) j (u:Value) (hj:j<8) (hu:l[i].c[j]?=some u)=>h.cell (i * 8+j) u (by unfold eX;rw[pK Vw.c 8 (fun _=>rfl) l i j hi hj];exact hu)
 rcases h.2 with ⟨hz,h0⟩|⟨g,cap,cur,fz,rfl,_,hg,_,jI,ja,_⟩
 ·refine⟨none,0,by rw[hz,h0],⟨by omega,by omega,fun _=>rfl⟩,hn,fun i x hi=>?_⟩;have:=(List.getElem?_eq_some_iff.1 hi).1;omega
 ·refine⟨some ⟨g,0,none⟩,cap,rfl,⟨jI,by simp only[maxLen]at ja;omega,fun e=>by cases e⟩,hn,fun i x hi=>⟨g,0,rfl,?_⟩⟩;obtain⟨gQ,rfl⟩:=List.getElem?_eq_some_iff.1 hi;obtain⟨r0,r1,r2,r3,r4,r5,r6,r7⟩:=hx _ (List.getElem_mem gQ)
  have key:∀ j u,j<8->l[i].c[j]?=some u->w.cell? ⟨g,0+i * 8+j,none⟩=some u:=fun j u hj hu=>by
   obtain⟨g',c',e1,e2⟩:=aS i gQ j u hj hu;have:g=g':=by simp at e1;exact e1.1
   rw[this,Nat.zero_add];exact e2
  exact⟨⟨key 0 _ (by omega) rfl,r0⟩,⟨key 1 _ (by omega) rfl,r1⟩,⟨key 2 _ (by omega) rfl,r2⟩,⟨key 3 _ (by omega) rfl,r3⟩,⟨key 4 _ (by omega) rfl,r4⟩,⟨key 5 _ (by omega) rfl,r5⟩,⟨key 6 _ (by omega) rfl,r6⟩,⟨key 7 _ (by omega) rfl,r7⟩⟩
structure ExGood (x:Ex):Prop where
 c:bT x.c
 word:x.word.length<=6/\∀ r∈x.word,pL r
 views:x.views.length<=7/\(∀ row∈x.views,row.length<=5)/\∀ row∈x.views,∀ z∈row,bT z
theorem KY{w:World} {base:Nat} {v:Value} {l:List Ex} {xs:List Value} (h:aI w base 89 3 v l.length xs) (hx:∀ i (hi:i<l.length),zx w base xs i l[i]) (hg:∀ x∈l,ExGood x) (hn:l.length<=17592186044416):zw w v l:=by
 have aS:=fun j (u:Value) (hu:xs[j]?=some u)=>h.cell j u hu
 rcases h.2 with ⟨hz,h0⟩|⟨g,cap,cur,fz,rfl,_,nB,_,jI,ja,_⟩
 ·refine⟨none,0,by rw[hz,h0],⟨by omega,by omega,fun _=>rfl⟩,hn,fun i x hi=>?_⟩;have:=(List.getElem?_eq_some_iff.1 hi).1;omega
 ·refine⟨some ⟨g,0,none⟩,cap,rfl,⟨jI,by simp only[maxLen]at ja;omega,fun e=>by cases e⟩,hn,fun i x hi=>⟨g,0,rfl,?_⟩⟩;obtain⟨gQ,rfl⟩:=List.getElem?_eq_some_iff.1 hi;obtain⟨a,b,p1,p2,p3,p4,p5⟩:=hx i gQ;have lD:=hg _ (List.getElem_mem gQ)
  have key:∀ j u,xs[i * 3+j]?=some u->w.cell? ⟨g,0+i * 3+j,none⟩=some u:=fun j u hu=>by
   obtain⟨g',c',e1,e2⟩:=aS _ u hu;have:g=g':=by simp at e1;exact e1.1
   rw[this,Nat.zero_add];exact e2
  refine⟨⟨key 0 _ p1,lD.c⟩,⟨a,key 1 _ p2,rF p4 (fun i hi=>lD.word.2 _ (List.getElem_mem hi)) (by have:=lD.word.1;omega)⟩,⟨b,key 2 _ p3,nT p5 lD.views.2.2 (by have:=lD.views.1;omega) (fun x hx=>by have:=lD.views.2.1 x hx;omega)⟩⟩
theorem uA(n:Nat) (inp:List Int) (word:List Rd) (tb:List Vw):∀ k,∀ row∈(playTo n inp word tb k).2,row.length=n
 | 0=>fun row hr=>by
  have h:=(it n inp word tb 0).2.1;have e:(playTo n inp word tb 0).2=[(uM n inp tb).2]:=rfl;rw[e]at hr h;rw[List.mem_singleton]at hr;subst hr;exact h
 | k+1=>fun row hr=>by
  have h:=(it n inp word tb (k+1)).2.1;have e:(playTo n inp word tb (k+1)).2=(playTo n inp word tb k).2++[(addAll (playTo n inp word tb k).1 (fN n k (word.getD k default) ((playTo n inp word tb k).2.getLastD []))).2]:=rfl;rw[e]at hr h;rw[List.getLastD_concat]at h;rcases List.mem_append.1 hr with hr|hr
  ·exact uA n inp word tb k row hr
  ·rw[List.mem_singleton]at hr;subst hr;exact h
theorem Be{p:Pb} (h:probE p=0) (hc:∀ c∈p.t.cases,∀ y∈c.inp,bT y) (hw:∀ x∈aO p,∀ r∈x,pL r) (ht:(execsS p (aO p) (fj p)).1.length<=8192):∀ i,i<=p.t.cases.length * (aO p).length->(∀ v∈(stP p i).1,jS v)/\∀ x∈(stP p i).2,ExGood x
 | 0,_=>⟨fun v hv=>by simp[stP,execsS]at hv,fun x hx=>by simp[stP,execsS]at hx⟩
 | i+1,hi=>by
  obtain⟨h1,h2⟩:=Be h hc hw ht i (by omega);obtain⟨ny,_,_,rU,qz⟩:=gD h;obtain⟨⟨_,ju⟩,_,_,⟨_,bX⟩,fL⟩:=fp ny;have kW:(stP p i).1.length<=8192:=Nat.le_trans (wU p (aO p) (fj p) i) ht;have aD:i<p.t.cases.length * (aO p).length:=by omega
  have oJ:0<(aO p).length:=by
   rcases Nat.eq_zero_or_pos (aO p).length with h|h
   ·rw[h]at aD;simp at aD
   ·exact h
  have hci:i / (aO p).length<p.t.cases.length:=by rw[Nat.div_lt_iff_lt_mul oJ];exact aD
  have hj:i % (aO p).length<(aO p).length:=Nat.mod_lt _ oJ;have dO:=ww p i aD;unfold ki at dO;dsimp only at dO;rw[aA default hci,aA [] hj]at dO
  have Qw:((aO p)[i % (aO p).length]).length<=6:=by
   have:=kh p.a p.rounds.toNat 0 _ (List.getElem_mem (l:=aO p) hj);omega
  have cZ:=yk p.t.n.toNat (by omega) (p.t.cases[i / (aO p).length]).inp (hc _ (List.getElem_mem hci)) (aO p)[i % (aO p).length] (stP p i).1 h1 _ Qw (by omega);have hrows:=uA p.t.n.toNat (p.t.cases[i / (aO p).length]).inp (aO p)[i % (aO p).length] (stP p i).1 ((aO p)[i % (aO p).length]).length;have cN:=(it p.t.n.toNat (p.t.cases[i / (aO p).length]).inp (aO p)[i % (aO p).length] (stP p i).1 ((aO p)[i % (aO p).length]).length).1;rw[dO];refine⟨cZ.1,fun x hx=>?_⟩;rcases List.mem_append.1 hx with hx|hx
  ·exact h2 x hx
  ·rw[List.mem_singleton]at hx;subst hx;exact⟨uX _ (by omega),⟨Qw,hw _ (List.getElem_mem hj)⟩,by simp only[gt];omega,fun row hr=>by have:=hrows row hr;omega,fun row hr z hz=>by have:=cZ.2 row hr z hz;exact⟨by omega,by omega⟩⟩
end Go.Proofs.YtmeaoneaephjeaaGreatDoor
namespace Go.Proofs.YtmeaoneaephjeaaGreatDoor
open Go.RowKit Go Go.Shelf
attribute [local go_sem] Oper.semAt_some
def Yk(base:Nat) (l:List Vw):MP:=⟨fun x W=>aI W base 190 8 x l.length (eX l),fun _ _ _ h hb=>h.up hb⟩
def Ys(base:Nat) (v:Vw):MP:=⟨fun x W=>∃ b,x=.slice (some ⟨b,0,none⟩) 1 1/\base<=b/\W.heap[b]?=some (.cells v.c 190),fun _ _ _ h hb=>by obtain⟨b,e,h1,h2⟩:=h;exact⟨b,e,h1,af hb h2⟩⟩
theorem Ag(tmps:Array Value) (B:Nat) (W:World) (n i:Int) (u:Value) (h4:tmps[4]?.getD undef=.pointer (some ⟨B,0,none⟩)) (h5:tmps[5]?.getD undef=.int .i64 i)
  (hB:W.heap[B]?=some (.cells #[.int .i64 n,u] 32)):(results Tryz.f160 tmps).run Tryz.prog W=.ok (.tuple #[.agg #[.int .i64 n,u],.int .i64 i]) W:=by
 have t2:=ab hB;simp[results,Tryz.results160,go_sem,h4,h5,t2]
structure PtR (w:World) (base b2 b4 b7:Nat) (n:Int) (ot u1:Value) (len m:Nat) (xs:List Value) (D:Nat->Bool) (x:Nat->Value) (W:World):Prop where
 old:Below w.heap.size w W
 r7:W.heap[b7]?=some (.cells #[.int .i64 n,u1] 32)
 r2:W.heap[b2]?=some (.cells #[.int .i64 n,ot] 32)
 r4:W.heap[b4]?=some (.cells (if D 4 then #[.int .i64 n,u1] else #[.int .i64 0,.slice none 0 0]) 32)
 own:aI W base 190 8 u1 m xs
 v0:D 0=true->x 0=.agg #[.int .i64 n,u1]
 v1:D 1=true->x 1=.pointer (some ⟨b2,1,none⟩)
 v2:D 2=true->x 2=ot
 v3:D 3=true->x 3=.int .i64 len
 v5:D 5=true->x 5=.int .i64 len
theorem PtR.set{w:World} {base b2 b4 b7:Nat} {n:Int} {ot u1:Value} {len m:Nat} {xs:List Value} {D:Nat->Bool} {x:Nat->Value} {W:World} (h:PtR w base b2 b4 b7 n ot u1 len m xs D x W) (i:Nat) (hi:i≠4) (v:Value)
  (hv:(i=0->v=.agg #[.int .i64 n,u1])/\(i=1->v=.pointer (some ⟨b2,1,none⟩))/\(i=2->v=ot)/\(i=3\/i=5->v=.int .i64 len)):PtR w base b2 b4 b7 n ot u1 len m xs (br D i) (bQ x i v) W:=by
 have key:∀ j,br D i j=true->(j=i/\bQ x i v j=v)\/(j≠i/\D j=true/\bQ x i v j=x j):=fun j hj=>by
  by_cases e:j=i
  ·subst e;exact .inl ⟨rfl,dC _ _ _⟩
  ·exact .inr ⟨e,by simpa[br,e] using hj,eB _ _ e⟩
 refine⟨h.old,h.r7,h.r2,by rw[show br D i 4=D 4 by simp[br,show ¬ (4=i) by omega]];exact h.r4,h.own,fun hd=>?_,fun hd=>?_,fun hd=>?_,fun hd=>?_,fun hd=>?_⟩
 ·rcases key 0 hd with ⟨e,h1⟩|⟨_,h1,h2⟩
  ·rw[h1];exact hv.1 e.symm
  ·rw[h2];exact h.v0 h1
 ·rcases key 1 hd with ⟨e,h1⟩|⟨_,h1,h2⟩
  ·rw[h1];exact hv.2.1 e.symm
  ·rw[h2];exact h.v1 h1
 ·rcases key 2 hd with ⟨e,h1⟩|⟨_,h1,h2⟩
  ·rw[h1];exact hv.2.2.1 e.symm
  ·rw[h2];exact h.v2 h1
 ·rcases key 3 hd with ⟨e,h1⟩|⟨_,h1,h2⟩
  ·rw[h1];exact hv.2.2.2 (.inl e.symm)
  ·rw[h2];exact h.v3 h1
 ·rcases key 5 hd with ⟨e,h1⟩|⟨_,h1,h2⟩
  ·rw[h1];exact hv.2.2.2 (.inr e.symm)
  ·rw[h2];exact h.v5 h1
theorem PtR.store{w:World} {base b2 b4 b7:Nat} {n:Int} {ot u1:Value} {len m:Nat} {xs:List Value} {D:Nat->Bool} {x:Nat->Value} {W:World} (h:PtR w base b2 b4 b7 n ot u1 len m xs D x W) (hw:w.heap.size<=b4) (h2:b2≠b4) (h7:b7≠b4) (v:Value):PtR w base b2 b4 b7 n ot u1 len m xs (br D 4) (bQ x 4 v) (W.setRow b4 #[.int .i64 n,u1]):=by
 have k:∀ j,j≠4->br D 4 j=D j:=fun j hj=>by simp[br,hj]
 have l:∀ j,j≠4->bQ x 4 v j=x j:=fun j hj=>eB _ _ hj
 refine⟨below_setRow h.old hw _,by rw[setRow_other _ _ _ _ h7];exact h.r7,by rw[setRow_other _ _ _ _ h2];exact h.r2,?_,h.own.keep fun g o hg ho=>?_,?_,?_,?_,?_,?_⟩
 ·rw[show br D 4 4=true by simp[br]];exact setRow_heap _ _ _ _ _ _ h.r4
 ·rw[setRow_other _ _ _ _ (h.own.ne h.r4 (by decide) g hg)];exact ho
 all_goals rw[k _ (by omega),l _ (by omega)]
 ·exact h.v0
 ·exact h.v1
 ·exact h.v2
 ·exact h.v3
 ·exact h.v5
theorem RR(n:Int) (tab:List Vw) (vt:Value) (v:Vw) (base:Nat) (w:World) (mE:base<=w.heap.size) (ht:aI w base 190 8 vt tab.length (eX tab)) (cZ:∀ u∈tab,jS u) (hl:tab.length<=1048576) :
  Calls Tryz.prog 160 #[.agg #[.int .i64 n,vt],v.v] w fun r w'=>(∃ u,r=.returned (.tuple #[.agg #[.int .i64 n,u],.int .i64 ((putV tab v).2:Nat)])/\aI w' base 190 8 u (putV tab v).1.length (eX (putV tab v).1))/\Below w.heap.size w w':=by
 obtain⟨pt,ct,rfl⟩:=ht.slice;obtain⟨i0,cY,cC,bY,cD⟩:=info_parts Tryz.infoView;have bZ:=aa (And.intro cY (And.intro cC (And.intro bY cD)));have HT:=aa ht;have qr:=aa (fun W (hb:Below w.heap.size w W)=>Kq n tab _ v W (yq (ht.up hb) cZ (by omega)));have Ju:=aa (MH tab v);generalize putV tab v=pv at Ju ⊢;generalize viewIx tab v=ix at qr Ju;have HMX0:am (0+tab.length<=maxLen):=aa (by unfold maxLen;omega);have HBY0:am ((0+tab.length) * 64<=140737488355328):=aa (by omega);have HMX1:am (tab.length+1<=maxLen):=aa (by unfold maxLen;omega);have HBY1:am ((tab.length+1) * 64<=140737488355328):=aa (by omega);clear ht cY cC bY cD cZ
 go_enter Tryz.func160,Tryz.ntmps160
 go_wp2_with fail
 refine aQ (fun W=>Below w.heap.size w W/\W.heap[w.heap.size]?=some (.cells #[.int .i64 n,.slice pt tab.length ct] 32)/\W.heap[w.heap.size+1]?=some (.cells v.c 190)/\W.heap[w.heap.size+1+1]?=some (.cells #[.int .i64 0,.slice none 0 0] 32)) ⟨by go_grown,az _ (az _ (aq _ _)),az _ (bz _ _ _),eA _ _ _ _⟩ (fun W0 bh=>?_);obtain⟨aJ,h2,h3,h4⟩:=bh;refine(qr.o W0 aJ).mono ?_;rintro r w1 ⟨rfl,aM⟩;have bL:=aa (ae aJ aM);have fY:=aa (af aM h2);have iS:=aa (af aM h3);have kH:=aa (af aM h4);have Sn:=aa (HT.o.up (ae aJ aM));have fV:=aC kH.o;have t2:=ab fY.o;have t4:=ab kH.o;have z4:=aG kH.o;clear aJ h2 h3 h4 aM qr;by_cases P7:0<=ix
 ·have HE:am (pv=(tab,ix.toNat)/\ix<tab.length):=aa (by rcases Ju.o with h|h;omega;exact h.2);have hd:decide (ix ≥ 0)=true:=decide_eq_true P7;have gB:decide (0<=ix)=true:=decide_eq_true P7
  go_wp2_with fail
  have cA:((w1.setCell ⟨w.heap.size+1+1,0,none⟩ (.int .i64 n)).setCell ⟨w.heap.size+1+1,1,none⟩ (.slice pt tab.length ct)).heap[w.heap.size+1+1]?=some (.cells #[.int .i64 n,.slice pt tab.length ct] 32):=(aH (aH kH.o _ _) _ _).trans rfl;have e1:=HE.o.1;subst e1;refine bodyPost_ret (Ag _ (w.heap.size+1+1) _ n ix _ rfl rfl cA) rfl ⟨⟨.slice pt tab.length ct,?_,?_⟩,(bL.o.setCell (by dsimp only;omega) _).setCell (by dsimp only;omega) _⟩
  ·dsimp only;rw[Int.toNat_of_nonneg P7]
  ·have bP:∀ g,(Value.slice pt tab.length ct).ownBlock=some g->g≠w.heap.size+1+1:=fun g hg=>by have:=(HT.o.lt g hg).2;omega
   exact(Sn.o.put bP _ _).put bP _ _
 ·have HE:am (pv=(tab++[v],tab.length)):=aa (by rcases Ju.o with h|h;exact h.2;omega);have hd:decide (ix ≥ 0)=false:=decide_eq_false P7;have gB:decide (0<=ix)=false:=decide_eq_false P7
  go_wp2_with fail
  refine bF (fun W=>Below w1.heap.size w1 W/\W.heap[w1.heap.size]?=some (.cells #[.int .i64 n,.slice none 0 0] 32)) ⟨by go_grown,aq _ _⟩ (fun W1 cO=>?_);have gz:=aa cO.1;have CU:=aa cO.2;have xD:=aC cO.2;have fY:=aa (af cO.1 fY.o);have iS:=aa (af cO.1 iS.o);have kH:=aa (af cO.1 kH.o);have Lo:=aa (Sn.o.up cO.1);have hsW:=cO.1.size;have eY:=aa (ae bL.o cO.1);clear cO Sn Ju t2 t4 z4;obtain⟨b2,aY⟩:∃ b2,w.heap.size=b2:=⟨_,rfl⟩;obtain⟨b3,bH⟩:∃ b3,w.heap.size+1=b3:=⟨_,rfl⟩;obtain⟨b7,xa⟩:∃ b7,w1.heap.size=b7:=⟨_,rfl⟩;rw[bH]at iS;rw[aY]at fY;rw[xa]at CU ⊢;rw[aY,show b2+1=b3 by omega];have hS:List.Nodup [18,19,20,21,22,23,24]:=by decide
  refine fD 7 [18,19,20,21,22,23,24] [MP.eq (.pointer (some ⟨b7,1,none⟩)),MP.eq (.slice none 0 0),MP.eq (.pointer (some ⟨b2,1,none⟩)),MP.eq (.slice pt tab.length ct),Yk W1.heap.size tab,MP.eq (v.v),Ys W1.heap.size v] (by kernel_rfl) (by simp) hS rfl (by kernel_rfl) (by kernel_rfl) (by kernel_rfl) ?step ?tail
  case step=>
   intro xq Wq iq oq sq F hi ho hs hB ar hF;rcases (show iq=0\/iq=1\/iq=2\/iq=3\/iq=4\/iq=5\/iq=6 by omega) with rfl|rfl|rfl|rfl|rfl|rfl|rfl
   all_goals (obtain rfl:=dp ho.symm;obtain rfl:=dp hs.symm;clear hi ho hs)
   ·obtain⟨g7,h7⟩:=cW hF 7 (.pointer (some ⟨b7,0,none⟩)) (by decide) rfl;clear hF ar
    go_wp2_with fail
    exact bB.mk _ (Below.refl _ _) rfl rfl
   ·obtain⟨e0,f0⟩:=aT hF 0 18 _ hS rfl (by kernel_rfl) (ar ⟨0,.data⟩ (by simp) rfl);have tb:=ab (af hB CU.o) 1;simp at tb;clear hF ar
    go_wp2_with fail
    exact bB.mk _ (Below.refl _ _) rfl rfl
   ·obtain⟨g2,h2⟩:=cW hF 2 (.pointer (some ⟨b2,0,none⟩)) (by decide) rfl;clear hF ar
    go_wp2_with fail
    exact bB.mk _ (Below.refl _ _) rfl rfl
   ·obtain⟨e2,f2⟩:=aT hF 2 20 _ hS rfl (by kernel_rfl) (ar ⟨2,.data⟩ (by simp) rfl);have tb:=ab (af hB fY.o) 1;simp at tb;clear hF ar
    go_wp2_with fail
    exact bB.mk _ (Below.refl _ _) rfl rfl
   ·obtain⟨e1,f1⟩:=aT hF 1 19 _ hS rfl (by kernel_rfl) (ar ⟨1,.data⟩ (by simp) rfl);obtain⟨e3,f3⟩:=aT hF 3 21 _ hS rfl (by kernel_rfl) (ar ⟨3,.data⟩ (by simp) rfl);have HRK:=aa ((Lo.o.up hB).rawK (E5 tab));have HBSz:=aa (hB.size);clear hF ar;refine kS _ rfl (.tmp 19) (.tmp 21) 30 rfl W1.heap.size 190 i0 _ 8 64 Tryz.underlying30 bZ.o.1 bZ.o.2.1 bZ.o.2.2.1 bZ.o.2.2.2 rfl (by decide) _ 0 [] (by first|exact e1|exact f1) (aI.nil _ _ _ _) _ tab.length (eX tab) (by first|exact e3|exact f3) HRK.o HMX0.o HBY0.o HBSz.o ?_;intro v9 w9 jB AK JE;have nC:=aa jB;have IW:=aa (Below.grown (Below.refl Wq.heap.size Wq) AK (Nat.le_refl _) (fun g hg=>by cases hg));clear jB AK JE;exact bB.mk _ IW.o (by have h:=nC.o;rw[Nat.zero_add,List.nil_append]at h;exact h) rfl
   ·obtain⟨g3,h3⟩:=cW hF 3 (.pointer (some ⟨b3,0,none⟩)) (by decide) rfl;have tb:=ab (af hB iS.o);clear hF ar
    go_wp2_with fail
    exact bB.mk _ (Below.refl _ _) rfl rfl
   ·obtain⟨e5,f5⟩:=aT hF 5 23 _ hS rfl (by kernel_rfl) (ar ⟨5,.data⟩ (by simp) rfl);clear hF ar
    go_wp2_with fail
    exact bB.mk _ (by go_grown) ⟨_,rfl,hB.size,aq _ _⟩ rfl
  case tail=>
   clear hS;intro xq Wq F hB aS hF;have d4:aI Wq W1.heap.size 190 8 (xq 4) tab.length (eX tab):=aS 4 (by omega);obtain⟨bn,e6,hbn1,hbn2⟩:∃ b,xq 6=.slice (some ⟨b,0,none⟩) 1 1/\W1.heap.size<=b/\Wq.heap[b]?=some (.cells v.c 190):=aS 6 (by omega);clear aS;obtain⟨a4,c4,e4⟩:=d4.slice;rw[e4]at d4;simp only[bD,cX,List.setIfInBounds_toArray,List.set_cons_succ,List.set_cons_zero,Nat.reduceAdd]at hF;rw[e4,e6]at hF;generalize xq 0=s0,xq 1=s1,xq 2=s2,xq 3=s3,xq 5=s5 at hF;subst hF;have yZ:=aa d4;have HBq:=aa hB
   have bE:am (∀ j u,v.c.toList[j]?=some u->Wq.cell? (Addr.add ⟨bn,0,none⟩ j)=some u):=aa (fun j u hj=>by
    have:(Addr.add ⟨bn,0,none⟩ j)=⟨bn,j,none⟩:=by unfold Addr.add;split<;>simp_all
    rw[this,ab hbn2]
    simpa using hj)
   have HBSq:am (W1.heap.size<=Wq.heap.size):=aa hB.size;have hX7:=af hB CU.o;have S9:=aa hX7;have HX2q:=aa (af hB fY.o);have HX4q:=aa (af hB kH.o);have hsq:=hB.size;clear d4 e4 e6 hB hbn2 hX7;simp only[List.drop_succ_cons,List.drop_zero]
   go_wp2_with (at_builtin;(refine aZ _ rfl (.tmp 22) (.tmp 24) 30 rfl W1.heap.size 190 i0 _ 8 64 Tryz.underlying30 bZ.o.1 bZ.o.2.1 bZ.o.2.2.1 bZ.o.2.2.2 rfl (by decide) _ tab.length _ rfl yZ.o ⟨bn,0,none⟩ 1 1 v.c.toList rfl rfl bE.o (by simp[Value.oneCell']) HMX1.o HBY1.o HBSq.o ?_;intro v9 w9 eP dk JE;obtain⟨av9,cv9,rfl⟩:=eP.slice;have Aq:=(dk.block b7 (aC S9.o) (fun e=>yZ.o.ne S9.o (by decide) b7 e.symm rfl)).trans S9.o;have c7:=ab Aq;have f7:=aG Aq))
   obtain⟨W3,mn⟩:∃ W3,W3=w9.setCell ⟨b7,1,none⟩ (.slice av9 (tab.length+1) cv9):=⟨_,rfl⟩;rw[<-mn];have h37:W3.heap[b7]?=some (.cells #[.int .i64 n,.slice av9 (tab.length+1) cv9] 32):=by rw[mn];exact(aH Aq _ _).trans rfl
   have ii:∀ k,k≠b7->k<Wq.heap.size->∀ c,Wq.heap[k]?=some (.cells c 32)->W3.heap[k]?=some (.cells c 32):=fun k h1 h2 c h3=>by
    rw[mn];exact aN ((dk.block k h2 (fun e=>yZ.o.ne h3 (by decide) k e.symm rfl)).trans h3) h1 _ _
   have FH:=ii b2 (by omega) (aC HX2q.o) _ HX2q.o;have h34:=ii (w.heap.size+1+1) (by omega) (aC HX4q.o) _ HX4q.o
   have h3o:aI W3 base 190 8 (.slice av9 (tab.length+1) cv9) (tab.length+1) (eX (tab++[v])):=by
    rw[mn,E4];have h:=(eP.base (show base<=W1.heap.size by omega)).put (eP.ne Aq (by decide)) 1 (.slice av9 (tab.length+1) cv9);exact h
   have XX:Below w.heap.size w W3:=by
    rw[mn];exact(Below.grown (ae eY.o HBq.o) dk (by omega) (fun g hg=>by have:=(yZ.o.lt g hg).1;omega)).setCell (p:=⟨b7,1,none⟩) (by dsimp only;omega) _
   clear mn eP dk JE Aq c7 f7 ii;subst bH;subst aY;have nD:am (∀ x,PtR w base w.heap.size (w.heap.size+1+1) b7 n (.slice pt tab.length ct) (.slice av9 (tab.length+1) cv9) tab.length (tab.length+1) (eX (tab++[v])) (fun _=>false) x W3.drew):=aa (fun x=>⟨XX.drew,h37,FH,h34,h3o.keep fun g o _ ho=>ho,by simp,by simp,by simp,by simp,by simp⟩);clear h37 FH h34 h3o XX;have hS:List.Nodup [27,28,29,30,999,5]:=by decide
   refine lH 6 [27,28,29,30,999,5] (PtR w base w.heap.size (w.heap.size+1+1) b7 n (.slice pt tab.length ct) (.slice av9 (tab.length+1) cv9) tab.length (tab.length+1) (eX (tab++[v]))) (by kernel_rfl) rfl hS (by kernel_rfl) nD.o ?step6 ?free6 ?last6
   case free6=>
    intro x W D i o F ho h6 h8;simp at h6;omega
   case step6=>
    intro x W D i o s' F ho qI hD ar hc hF;have hi:i<6:=(List.getElem?_eq_some_iff.1 qI).1;have CC2:=ab hc.r2;have CC7:=ab hc.r7;simp only[bD,cX,List.setIfInBounds_toArray,List.set_cons_succ,List.set_cons_zero,List.set_nil,Nat.reduceAdd]at hF;rcases (show i=0\/i=1\/i=2\/i=3\/i=4\/i=5 by omega) with rfl|rfl|rfl|rfl|rfl|rfl
    all_goals (obtain rfl:=dp ho.symm;obtain rfl:=dp qI.symm;clear hi ho qI)
    ·subst hF;clear ar
     go_wp2_with fail
     exact cI.mk (.agg #[.int .i64 n,.slice av9 (tab.length+1) cv9]) (hc.set 0 (by omega) _ ⟨fun _=>rfl,by omega,by omega,by omega⟩) rfl
    ·subst hF;clear ar
     go_wp2_with fail
     exact cI.mk (.pointer (some ⟨w.heap.size,1,none⟩)) (hc.set 1 (by omega) _ ⟨by omega,fun _=>rfl,by omega,by omega⟩) rfl
    ·have e1:=hc.v1 (ar ⟨1,.data⟩ (by simp) rfl);rw[e1]at hF;subst hF;clear ar
     go_wp2_with fail
     exact cI.mk (.slice pt tab.length ct) (hc.set 2 (by omega) _ ⟨by omega,by omega,fun _=>rfl,by omega⟩) rfl
    ·have e1:=hc.v2 (ar ⟨2,.data⟩ (by simp) rfl);rw[e1]at hF;subst hF;clear ar
     go_wp2_with fail
     exact cI.mk (.int .i64 tab.length) (hc.set 3 (by omega) _ ⟨by omega,by omega,by omega,fun _=>rfl⟩) rfl
    ·have e0:=hc.v0 (ar ⟨0,.data⟩ (by simp) rfl);rw[e0]at hF;subst hF;have g3:=hc.r4;rw[hD]at g3;refine wpList_store_row rfl 32 (.tmp 4) (.tmp 27) rfl (w.heap.size+1+1) #[.int .i64 n,.slice av9 (tab.length+1) cv9] rfl rfl 32 _ g3 (by kernel_rfl) rfl (by simp[Value.oneCell']) ?_;exact cI.mk undef (hc.store (by omega) (by omega) (by omega) undef) rfl
    ·have e1:=hc.v3 (ar ⟨3,.data⟩ (by simp) rfl);rw[e1]at hF;subst hF;clear ar
     go_wp2_with fail
     exact cI.mk (.int .i64 tab.length) (hc.set 5 (by omega) _ ⟨by omega,by omega,by omega,fun _=>rfl⟩) rfl
   case last6=>
    intro x W3' D F aS hc hF;have e5:=hc.v5 (aS 5 (by omega));have h4:=hc.r4;rw[aS 4 (by omega)]at h4;have h4:W3'.heap[w.heap.size+1+1]?=some (.cells #[.int .i64 n,.slice av9 (tab.length+1) cv9] 32):=h4;simp only[bD,cX,List.setIfInBounds_toArray,List.set_cons_succ,List.set_cons_zero,List.set_nil,Nat.reduceAdd]at hF;rw[e5]at hF;generalize x 0=y0,x 1=y1,x 2=y2,x 3=y3 at hF;subst hF;have HH4:=aa h4;have TS:=aa hc.old;have oO:=aa hc.own;clear aS hc h4 hS nD
    go_wp2_with fail
    have e1:=HE.o;subst e1;refine bodyPost_ret (Ag _ (w.heap.size+1+1) _ n tab.length _ rfl rfl HH4.o) rfl ⟨⟨_,rfl,?_⟩,TS.o⟩;rw[show (tab++[v]).length=tab.length+1 by simp];exact oO.o
end Go.Proofs.YtmeaoneaephjeaaGreatDoor
