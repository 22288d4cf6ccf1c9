/-
  A part of the proof: lemmas and contracts that the parts behind it use. Each one's conditions are its own premises.
-/
import Derived.WalkSpells
import Derived.Shelf.Spec.TrailingZeros
import Derived.Laws.CopyOwn
import Derived.Test.YtmeaoneaephjeaaGreatDoorT3
set_option maxRecDepth 100000
set_option maxHeartbeats 8000000
set_option linter.unusedVariables false
set_option linter.unusedSimpArgs false
namespace Go.Proofs.YtmeaoneaephjeaaGreatDoor
open Go.RowKit Go Go.Shelf
theorem OF(a:Adv) (ps:Option Addr) (cs:Nat) (v:Value) (l:List Mv) (w:World) (hv:pz w v l) :
  Calls Tryz.prog 217 #[.agg #[.int .i64 a.n,.slice ps a.states.length cs],v] w fun e w'=>e=.returned (.int .i64 (stateE a l))/\Below w.heap.size w w':=by
 obtain⟨pa,ca,rfl,l1,m1,e1⟩:=hv.at;clear hv;have E:=aa e1;clear e1;by_cases hz:l.length=0
 ·have bY:((l.length:Int) == 0)=true:=beq_iff_eq.2 (by omega);have HV:am (stateE a l=19):=by(have h:stateE a l=19:=by(unfold stateE;rw[if_pos hz]));exact h
  clear hz
  go_enter Tryz.func217,Tryz.ntmps217
  go_wp2_with fail
  go_ret
  exact⟨aF HV.o.symm,by go_grown⟩
 have bY:((l.length:Int) == 0)=false:=beq_eq_false_iff_ne.2 (by omega);have HV:am (stateE a l=bm l.length (dS a l)):=by(have h:stateE a l=bm l.length (dS a l):=by(unfold stateE;rw[if_neg hz]));exact h
 clear hz
 go_enter Tryz.func217,Tryz.ntmps217
 go_wp2_with fail
 refine bF (fun W=>Below w.heap.size w W/\W.heap[w.heap.size]?=some (.cells #[.int .i64 a.n,.slice ps a.states.length cs] 27))
  ⟨by go_grown,aq _ _⟩ (fun W0 bh=>?_)
 obtain⟨aJ,hT⟩:=bh;have HT:=aa hT;clear hT bY
 go_loopw [13] (fun i wr=>Below W0.heap.size W0 wr/\∃ k:Nat,k<=l.length/\i=.int .i64 k/\∀ j,j<k->dS a l j=0) (fun i _=>l.length - (intOf i).toNat)
 ·exact⟨Below.refl _ _,0,by omega,rfl,by simp⟩
 ·
  obtain⟨aB,k,hk,rfl,aV⟩:=hrel;have H:=aa aV;clear aV;have dD:=ae aJ aB;by_cases aD:k<l.length
  ·obtain⟨b1,o1,rfl,⟨⟨c0,_⟩,⟨c1,_⟩,⟨c2,_⟩,⟨c3,_⟩,⟨c4,_⟩,⟨c5,_⟩,⟨c6,_⟩⟩,c7,_⟩:=E.o k aD;have d0:=ak dD c0;have d1:=ak dD c1;have d2:=ak dD c2;have d3:=ak dD c3;have d4:=ak dD c4;have d5:=ak dD c5;have d6:=ak dD c6;have d7:=ak dD c7;clear c0 c1 c2 c3 c4 c5 c6 c7
   have HO:am (dS a l k=if roundE l[k].r≠0 then roundE l[k].r else if l[k].r.g.n≠a.n then 22 else if 0<k/\0<=roundC (l.getD (k - 1) default).r l[k].r then 14 else if l[k].to<0\/(a.states.length:Int)<=l[k].to then 2 else 0):=by
    have h:dS a l k=if roundE l[k].r≠0 then roundE l[k].r else if l[k].r.g.n≠a.n then 22 else if 0<k/\0<=roundC (l.getD (k - 1) default).r l[k].r then 14 else if l[k].to<0\/(a.states.length:Int)<=l[k].to then 2 else 0:=by unfold dS;rw[aA default aD]
    exact h
   generalize l[k]=m at d0 d1 d2 d3 d4 d5 d6 d7 HO
   go_wp2_with fail
   refine aQ (fun W=>Below wr.heap.size wr W/\W.heap[wr.heap.size]?=some (.cells #[.int .i64 m.r.g.n,.int .i64 m.r.g.h0,.int .i64 m.r.g.h1,.int .i64 m.r.g.h2,.int .i64 m.r.g.h3,.int .i64 m.r.g.h4,.int .i64 m.r.f,.int .i64 m.to] 143)) ⟨by go_grown,aq _ _⟩ (fun V hV=>?_);obtain⟨kU,hC⟩:=hV;have HC:=aa hC;clear hC;have T5:=ae dD kU;refine(DE m.r _).mono ?_;rintro e w1 ⟨rfl,aM⟩;clear d0 d1 d2 d3 d4 d5 d6 d7;have jc:=ae T5 aM;have yN:=ae aB (ae kU aM);have s1:=ab (af yN HT.o);have s2:=ab (af aM HC.o);generalize roundE m.r=er at HO;by_cases FI:er=0
   case neg=>
    have her':(er != 0)=true:=by simpa using FI
    go_wp2_with fail
    go_ret
    exact⟨aF (by rw[HV.o,<-bU k er aD H.o (by rw[HO.o,if_pos FI]) FI]),jc⟩
   subst FI;by_cases vQ:m.r.g.n=a.n
   case neg=>
    have IO:(m.r.g.n != a.n)=true:=by simpa using vQ
    go_wp2_with fail
    go_ret
    exact⟨aF (by rw[HV.o,<-bU k 22 aD H.o (by rw[HO.o,if_neg (by simp),if_pos vQ]) (by decide)]),jc⟩
   have IO:(m.r.g.n != a.n)=false:=by simpa using vQ
   have gy:am (dS a l k=if 0<k/\0<=roundC (l.getD (k - 1) default).r m.r then 14 else if m.to<0\/(a.states.length:Int)<=m.to then 2 else 0):=by
    have h:dS a l k=if 0<k/\0<=roundC (l.getD (k - 1) default).r m.r then 14 else if m.to<0\/(a.states.length:Int)<=m.to then 2 else 0:=by rw[HO.o,if_neg (by simp),if_neg (by simpa using vQ)]
    exact h
   clear HO vQ
   go_wp2_with fail
   clear IO;by_cases eZ:k=0
   ·have eO:am (dS a l k=if m.to<0\/(a.states.length:Int)<=m.to then 2 else 0):=by(have h:dS a l k=if m.to<0\/(a.states.length:Int)<=m.to then 2 else 0:=by(rw[gy.o,if_neg (by omega)]));exact h
    have hd:decide ((0:Int)<(k:Int))=false:=by simp;omega
    have gB:decide (0<k)=false:=by simp;omega
    clear gy eZ s1 s2;refine aE (by kernel_rfl) (by kernel_rfl) ?_
    repeat (go_big_quiet_step (fail))
    refine wpQuiet_nil ?_;intro _ eD;obtain⟨xq,dg⟩:=eD;subst dg;clear hd gB;have r1:=ab (af (ae yN xq.ext) HT.o);have r2:=ab (af (ae aM xq.ext) HC.o);have sZ:=ae jc xq.ext
    go_wp2_with fail
    all_goals first
     | (go_ret
        refine⟨aF ?_,sZ⟩
        rw[HV.o]
        go_light
        refine bU k _ aD H.o ?_ (by decide)
        rw[eO.o]
        grind)
     | (go_roundw
        ·
         refine⟨ae (ae yN xq.ext) (Below.refl _ _),k+1,by omega,by go_num,aW H.o ?_⟩
         go_light
         rw[eO.o]
         grind
        ·simp[intOf];omega)
   ·obtain⟨j,hj⟩:∃ j,k=j+1:=⟨k - 1,by omega⟩;have fJ:j<l.length:=by omega
    have HJ:=aa hj;obtain⟨b2,o2,e2,⟨⟨c0,_⟩,⟨c1,_⟩,⟨c2,_⟩,⟨c3,_⟩,⟨c4,_⟩,⟨c5,_⟩,⟨c6,_⟩⟩,_⟩:=E.o j fJ;obtain⟨rfl,rfl⟩:b1=b2/\o1=o2:=by simpa using e2
    clear e2;have hd:decide ((0:Int)<(k:Int))=true:=by simp;omega
    have gB:0<k:=by omega
    have eO:am (dS a l k=if 0<=roundC l[j].r m.r then 14 else if m.to<0\/(a.states.length:Int)<=m.to then 2 else 0):=by
     have h:dS a l k=if 0<=roundC l[j].r m.r then 14 else if m.to<0\/(a.states.length:Int)<=m.to then 2 else 0:=by
      rw[gy.o];have e:k - 1=j:=by omega
      rw[e,aA default fJ]
      grind
     exact h
    clear gy eZ hj s1 s2;have jx:IntKind.i64.wrap ((k:Int) - 1)=(j:Int):=by rw[HJ.o];rw[IntWalk.i64_in _ (by omega)];omega
    generalize l[j]=m2 at c0 c1 c2 c3 c4 c5 c6 eO;have q1:∀ x:ExtW w1,∀ o,x.val.cell? ⟨w.heap.size,o,none⟩=_:=fun x=>ab (af (ae yN x.ext) HT.o)
    have q2:∀ x:ExtW w1,∀ o,x.val.cell? ⟨wr.heap.size,o,none⟩=_:=fun x=>ab (af (ae aM x.ext) HC.o)
    have k0:∀ x:ExtW w1,x.val.cell? _=_:=fun x=>x.cell (ak jc c0)
    have k1:∀ x:ExtW w1,x.val.cell? _=_:=fun x=>x.cell (ak jc c1)
    have k2:∀ x:ExtW w1,x.val.cell? _=_:=fun x=>x.cell (ak jc c2)
    have k3:∀ x:ExtW w1,x.val.cell? _=_:=fun x=>x.cell (ak jc c3)
    have k4:∀ x:ExtW w1,x.val.cell? _=_:=fun x=>x.cell (ak jc c4)
    have k5:∀ x:ExtW w1,x.val.cell? _=_:=fun x=>x.cell (ak jc c5)
    have k6:∀ x:ExtW w1,x.val.cell? _=_:=fun x=>x.cell (ak jc c6)
    clear c0 c1 c2 c3 c4 c5 c6;refine aE (by kernel_rfl) (by kernel_rfl) ?_
    repeat (go_big_quiet_step ((go_at_call 220;exact Calls.ext_of (A2 m2.r m.r _))))
    refine wpQuiet_nil ?_;intro _ eD;obtain⟨xq,dg⟩:=eD;subst dg;have r1:=q1 xq;have r2:=q2 xq;clear q1 q2 k0 k1 k2 k3 k4 k5 k6 hd gB jx;have sZ:=ae jc xq.ext;generalize roundC m2.r m.r=oo at eO
    go_wp2_with fail
    all_goals first
     | (go_ret
        refine⟨aF ?_,sZ⟩
        rw[HV.o]
        go_light
        refine bU k _ aD H.o ?_ (by decide)
        rw[eO.o]
        grind)
     | (go_roundw
        ·
         refine⟨ae (ae yN xq.ext) (Below.refl _ _),k+1,by omega,by go_num,aW H.o ?_⟩
         go_light
         rw[eO.o]
         grind
        ·simp[intOf];omega)
  ·go_wp2_with fail
   go_ret
   exact⟨aF (by rw[HV.o,cT];intro j hj;exact H.o j (by omega)),dD⟩
theorem aI.keepT{w w':World} {base sz:Nat} {e:TypeId} {v:Value} {n:Nat} {xs:List Value} (h:aI w base e sz v n xs) (hk:∀ g o,v.ownBlock=some g->w.heap[g]?=some o->w'.heap[g]?=some o):aI w' base e sz v n xs:=by
 obtain⟨hl,h⟩:=h;refine⟨hl,?_⟩;rcases h with h|⟨g,cap,cur,fz,rfl,h2,h3,h4⟩
 ·exact .inl h
 ·exact .inr ⟨g,cap,cur,fz,rfl,h2,hk g _ rfl h3,h4⟩
structure KeepT (ts:List TypeId) (ms:List Nat) (base:Nat) (w w':World):Prop where
 old:Below base w w'
 keep:∀ (k:Nat) (c:Array Value) (t:TypeId) (f:Nat × Nat),w.heap[k]?=some (.cells c t f)->t∉ts->w'.heap[k]?=some (.cells c t f)
 oth:∀ (k:Nat) (o:Obj),w.heap[k]?=some o->o.isCells=false->k∉ms->w'.heap[k]?=some o
section
variable {ts : List TypeId} {ms : List Nat} {base : Nat} {w w' w'' : World}
theorem KeepT.refl(ts:List TypeId) (base:Nat) (w:World):KeepT ts ms base w w:=⟨Below.refl _ _,fun _ _ _ _ h _=>h,fun _ _ h _ _=>h⟩
theorem KeepT.trans(h:KeepT ts ms base w w') (k:KeepT ts ms base w' w''):KeepT ts ms base w w'':=
 ⟨⟨k.old.os.trans h.old.os,k.old.tape.trans h.old.tape,k.old.output.trans h.old.output,Nat.le_trans h.old.size k.old.size,fun j hj=>(k.old.block j hj).trans (h.old.block j hj)⟩,fun j c t f h1 h2=>k.keep j c t f (h.keep j c t f h1 h2) h2,fun j o h1 h2 h3=>k.oth j o (h.oth j o h1 h2 h3) h2 h3⟩
theorem KeepT.of_below(ts:List TypeId) (h:Below w.heap.size w w') (hb:base<=w.heap.size):KeepT ts ms base w w':=
 ⟨⟨h.os,h.tape,h.output,h.size,fun j hj=>h.block j (by omega)⟩,fun _ _ _ _ h1 _=>af h h1,fun _ _ h1 _ _=>af h h1⟩
theorem KeepT.drew(h:KeepT ts ms base w w'):KeepT ts ms base w w'.drew:=⟨h.old.drew,h.keep,h.oth⟩
theorem KeepT.mono{us:List TypeId} {ns:List Nat} (h:KeepT ts ms base w w') (hs:∀ t,t∈ts->t∈us) (hm:∀ t,t∈ms->t∈ns):KeepT us ns base w w':=⟨h.old,fun k c t f h1 h2=>h.keep k c t f h1 (fun e=>h2 (hs t e)),fun k o h1 h2 h3=>h.oth k o h1 h2 (fun e=>h3 (hm k e))⟩
theorem KeepT.own{b k n:Nat} {e:TypeId} {v:Value} {xs:List Value} (h:KeepT ts ms base w w') (ho:aI w b e k v n xs) (he:e∉ts):aI w' b e k v n xs:=by
 obtain⟨hl,ho⟩:=ho;refine⟨hl,?_⟩;rcases ho with ho|⟨g,cap,cur,fz,h1,h2,h3,h4⟩
 ·exact .inl ho
 ·exact .inr ⟨g,cap,cur,fz,h1,h2,h.keep _ _ _ _ h3 he,h4⟩
theorem KeepT.fresh{α:Type} {to ti:TypeId} {k:Nat} {flat:List α->List Value} {b:Nat} {v:Value} {l:List (List α)} (h:KeepT ts ms base w w') (hf:cB to ti k flat w b v l) (h1:to∉ts) (h2:ti∉ts):cB to ti k flat w' b v l:=by
 obtain⟨xs,q1,q2⟩:=hf;exact⟨xs,h.own q1 h1,fun i hi=>by obtain⟨x,p1,p2⟩:=q2 i hi;exact⟨x,p1,h.own p2 h2⟩⟩
theorem KeepT.grown{b k n:Nat} {e:TypeId} {v:Value} {xs:List Value} (h:KeepT ts ms base w w') (ho:aI w' b e k v n xs) (he:e∈ts) (hb:base<=b) (hs:base<=w.heap.size) (hg:w'.grownBy w'' v.ownBlock):KeepT ts ms base w w'':=by
 refine⟨Below.grown h.old hg (Nat.le_trans hs h.old.size) (fun g e=>Nat.le_trans hb (ho.lt g e).1),fun j c t f h1 h2=>?_,fun j o h1 h2 h3=>?_⟩
 ·have h3:=h.keep j c t f h1 h2;exact(hg.block j (aC h3) (fun e'=>ho.ne h3 (fun e=>h2 (e ▸ he)) j e'.symm rfl)).trans h3
 ·have h4:=h.oth j o h1 h2 h3;exact(hg.block j (aC h4) (fun e'=>ho.isCells h4 h2 e')).trans h4
theorem KeepT.set{B o:Nat} {c:Array Value} {t:TypeId} {f:Nat × Nat} (h:KeepT ts ms base w w') (hB:w'.heap[B]?=some (.cells c t f)) (ht:t∈ts) (hb:base<=B) (v:Value):KeepT ts ms base w (w'.setCell ⟨B,o,none⟩ v):=by
 refine⟨h.old.setCell hb v,fun j c' t' f' h1 h2=>?_,fun j o' h1 h2 h3=>aN (h.oth j o' h1 h2 h3) ?_ o v⟩
 ·have h3:=h.keep j c' t' f' h1 h2;refine aN h3 ?_ o v;rintro rfl;rw[hB]at h3;cases h3;exact h2 ht
 ·rintro rfl;have h4:=h.oth _ o' h1 h2 h3;rw[hB]at h4;cases h4;cases h2
theorem KeepT.put{B:Nat} {o o':Obj} (h:KeepT ts ms base w w') (hB:w'.heap[B]?=some o) (ho:o.isCells=false) (hb:base<=B) (hm:B∈ms):KeepT ts ms base w (w'.putObj B o'):=by
 refine⟨eR hb h.old,fun j c' t' f' h1 h2=>?_,fun j o2 h1 h2 h3=>(World.putObj_heap_other (fun e=>h3 (by rw[e];exact hm))).trans (h.oth j o2 h1 h2 h3)⟩;have h3:=h.keep j c' t' f' h1 h2;refine(World.putObj_heap_other ?_).trans h3;rintro rfl;rw[hB]at h3;cases h3;cases ho
end
structure CAppS (w Wr:World) (base:Nat) (ty:TypeId) (sz:Nat) (vd:Value) (p m:Nat) (ds news:List Value) (ib ia:Nat) (D:Nat->Bool) (x:Nat->Value) (W:World):Prop where
 lo:base<=w.heap.size
 old:KeepT [ty] [] base w W
 size:Wr.heap.size<=W.heap.size
 kept:∀ (k:Nat) (o:Obj),Wr.heap[k]?=some o->vd.ownBlock≠some k->W.heap[k]?=some o
 rd:aI W base ty sz (bif D ia then x ia else vd) (bif D ia then p+m else p) (bif D ia then ds++news else ds)
 sb:D ib=true->D ia=false->∃ g,x ib=.slice (some ⟨g,0,none⟩) m m/\W.heap[g]?=some (.cells news.toArray ty)/\vd.ownBlock≠some g
section
variable {w Wr : World} {base : Nat} {ty : TypeId} {sz : Nat} {vd : Value} {p m : Nat} {ds news : List Value} {ib ia : Nat} {D : Nat → Bool} {x : Nat → Value} {W : World}
theorem CAppS.start{x:Nat->Value} (h0:base<=w.heap.size) (hb:KeepT [ty] [] base w W) (hs:Wr.heap.size<=W.heap.size) (hk:∀ (k:Nat) (o:Obj),Wr.heap[k]?=some o->vd.ownBlock≠some k->W.heap[k]?=some o) (hr:aI W base ty sz vd p ds):CAppS w Wr base ty sz vd p m ds news ib ia (fun _=>false) x W:=⟨h0,hb,hs,hk,hr,nofun⟩
theorem CAppS.grow{W':World} (h:CAppS w Wr base ty sz vd p m ds news ib ia D x W) (hb:Below W.heap.size W W'):CAppS w Wr base ty sz vd p m ds news ib ia D x W':=
 ⟨h.lo,h.old.trans (.of_below _ hb (Nat.le_trans h.lo h.old.old.size)),Nat.le_trans h.size hb.size,fun k o h1 h3=>af hb (h.kept k o h1 h3),h.rd.up hb,
  fun h1 h2=>by obtain⟨g,e,q1,q2⟩:=h.sb h1 h2;exact⟨g,e,af hb q1,q2⟩⟩
theorem CAppS.other(h:CAppS w Wr base ty sz vd p m ds news ib ia D x W) {i:Nat} (v:Value) (h1:ib≠i) (h2:ia≠i):CAppS w Wr base ty sz vd p m ds news ib ia (br D i) (bQ x i v) W:=by
 refine⟨h.lo,h.old,h.size,h.kept,?_,?_⟩
 ·simpa only[br,bQ,if_neg h2] using h.rd
 ·simpa only[br,bQ,if_neg h2,if_neg h1] using h.sb
theorem CAppS.app(h:CAppS w Wr base ty sz vd p m ds news ib ia D x W) (ha:D ia=false) {v':Value} {w3:World} (ho:aI w3 base ty sz v' (p+m) (ds++news)) (hg:W.grownBy w3 vd.ownBlock) :
  CAppS w Wr base ty sz vd p m ds news ib ia (br D ia) (bQ x ia v') w3:=by
 have rd:=h.rd;rw[ha]at rd;have dO:∀ (k:Nat) (o:Obj),W.heap[k]?=some o->vd.ownBlock≠some k->w3.heap[k]?=some o:=fun k o hk hn=>(hg.block k (aC hk) (fun e=>hn e.symm)).trans hk
 refine⟨h.lo,h.old.grown rd (by simp) (Nat.le_refl _) h.lo hg,Nat.le_trans h.size hg.size,fun k o h1 h3=>dO k o (h.kept k o h1 h3) h3,?_,fun _ e=>by simp[br]at e⟩;simpa[br,bQ] using ho
theorem CAppS.build(h:CAppS w Wr base ty sz vd p m ds news ib ia D x W) (h1:ia≠ib):CAppS w Wr base ty sz vd p m ds news ib ia (br D ib) (bQ x ib (.slice (some ⟨W.heap.size,0,none⟩) m m)) (W.alloc (.cells news.toArray ty)):=by
 have g:=h.grow (W':=W.alloc (.cells news.toArray ty)) (by go_grown);refine⟨g.lo,g.old,g.size,g.kept,?_,fun _ h4=>⟨W.heap.size,by simp[bQ],aq _ _,fun e=>?_⟩⟩
 ·simpa only[br,bQ,if_neg h1] using g.rd
 ·have h4':D ia=false:=by simpa only[br,if_neg h1] using h4
  have r:=h.rd;rw[h4']at r;have:=(r.lt _ e).2;omega
end
theorem dR(W:World) (l:List Value) (t:TypeId):∀ j u',l[j]?=some u'->(W.alloc (.cells l.toArray t)).cell? (Addr.add ⟨W.heap.size,0,none⟩ j)=some u':=fun j u' hj=>by
 have e1:(Addr.add ⟨W.heap.size,0,none⟩ j)=⟨W.heap.size,j,none⟩:=by unfold Addr.add;split<;>simp_all
 rw[e1,ab (aq W _)];simpa using hj
section
variable {w W w2 : World} {o : Obj} {base : Nat} {e : TypeId} {k n : Nat} {v : Value} {xs : List Value}
theorem eI(hb:Below w.heap.size w W) (h0:w.heap.size<=base) (ho:aI (W.alloc o) base e k v n xs) (hg:(W.alloc o).grownBy w2 v.ownBlock):Below w.heap.size w w2:=
 Below.grown (hb.alloc hb.size _) hg (by have:=hb.size;simp;omega) (fun g h=>Nat.le_trans h0 (ho.lt g h).1)
theorem BV{N:Nat} (hb:Below N w W) (hN:N<=W.heap.size) (h0:N<=base) (ho:aI (W.alloc o) base e k v n xs) (hg:(W.alloc o).grownBy w2 v.ownBlock):Below N w w2:=
 Below.grown (hb.alloc hN _) hg (by simp;omega) (fun g h=>Nat.le_trans h0 (ho.lt g h).1)
theorem gW{b:Nat} {c:Array Value} {t:TypeId} {f:Nat × Nat} (ho:aI (W.alloc o) base e k v n xs) (hg:(W.alloc o).grownBy w2 v.ownBlock) (h:W.heap[b]?=some (.cells c t f)) (bP:e≠t):w2.heap[b]?=some (.cells c t f):=by
 have h1:(W.alloc o).heap[b]?=some (.cells c t f):=az _ h;exact(hg.block b (aC h1) (fun e'=>ho.ne h1 bP b e'.symm rfl)).trans h1
theorem mZ{b:Nat} {x:Obj} (ho:aI (W.alloc o) base e k v n xs) (hg:(W.alloc o).grownBy w2 v.ownBlock) (h:W.heap[b]?=some x) (hc:x.isCells=false):w2.heap[b]?=some x:=by
 have h1:(W.alloc o).heap[b]?=some x:=az _ h;exact(hg.block b (aC h1) (fun e'=>ho.isCells h1 hc e')).trans h1
theorem sE{b:Nat} {x:Obj} (ho:aI (W.alloc o) base e k v n xs) (hg:(W.alloc o).grownBy w2 v.ownBlock) (h:W.heap[b]?=some x) (hb:b<base):w2.heap[b]?=some x:=by
 have h1:(W.alloc o).heap[b]?=some x:=az _ h;exact(hg.block b (aC h1) (fun e'=>by have:=(ho.lt b e'.symm).1;omega)).trans h1
end
def pJ(l:List (Int × Int)) (k:Int):Option Int:=(l.find? fun p=>decide (k=p.1)).map (·.2)
def dr(w:World) (b:Nat) (f:Int->Option Int) (n:Nat):Prop:=
 ∃ es clock l,w.heap[b]?=some (.map es clock)/\es.toList.map (fun e=>(e.key,e.val))=l.map (fun p:Int × Int=>(Value.int .i64 p.1,Value.int .i64 p.2))/\l.length=n/\∀ k,pJ l k=f k
theorem dr.kept{A A':World} {b n:Nat} {f:Int->Option Int} (h:dr A b f n) (he:A'.heap[b]?=A.heap[b]?):dr A' b f n:=by
 obtain⟨es,clock,l,h1,hf⟩:=h;exact⟨es,clock,l,he.trans h1,hf⟩
theorem dr.lt{w:World} {b n:Nat} {f:Int->Option Int} (h:dr w b f n):b<w.heap.size:=by
 obtain⟨_,_,_,he,_⟩:=h;exact aC he
theorem dr.up{A A':World} {b n:Nat} {f:Int->Option Int} (h:dr A b f n) (hb:Below A.heap.size A A'):dr A' b f n:=h.kept (hb.block b h.lt)
theorem dr.other{A:World} {b n:Nat} {f:Int->Option Int} (h:dr A b f n):∃ o,A.heap[b]?=some o/\o.isCells=false:=by
 obtain⟨es,clock,l,h1,_⟩:=h;exact⟨_,h1,rfl⟩
theorem dr.congr{A:World} {b n m:Nat} {f g:Int->Option Int} (h:dr A b f n) (hf:∀ k,f k=g k) (hn:n=m):dr A b g m:=by
 obtain⟨es,clock,l,h1,h2,h3,h4⟩:=h;exact⟨es,clock,l,h1,h2,hn ▸ h3,fun k=>(h4 k).trans (hf k)⟩
theorem dr.new(w:World):dr (w.alloc (.map #[] 0)) w.heap.size (fun _=>none) 0:=⟨#[],0,[],aq w _,rfl,rfl,fun _=>rfl⟩
theorem Mg(k:Int) (d:TypeDesc) (hd:d=.int .i64):∀ (l:List (Int × Int)) (es:List MapEntry) (i:Nat),es.map (fun e=>(e.key,e.val))=l.map (fun p=>(Value.int .i64 p.1,Value.int .i64 p.2)) →
  (pJ l k=none/\Instr.findNow d (.int .i64 k) es i=some none)\/∃ j x,pJ l k=some x/\Instr.findNow d (.int .i64 k) es i=some (some (i+j,.int .i64 x))/\(l[j]?.map (·.1))=some k/\∀ y k',pJ (l.modify j fun p=>(p.1,y)) k'=if k'=k then some y else pJ l k'
 | [],es,i,h=>by
  obtain rfl:es=[]:=by simpa using h
  exact .inl ⟨rfl,rfl⟩
 | p :: l,es,i,h=>by
  cases es with
  | nil=>simp at h
  | cons e es=>
   simp only[List.map_cons,List.cons.injEq,Prod.mk.injEq]at h;obtain⟨⟨hk,hv⟩,h⟩:=h;subst hd;have hs:Instr.sameNow (.int .i64) (.int .i64 k) e.key=some (k == p.1):=by rw[hk];simp[Instr.sameNow]
   by_cases e1:k=p.1
   ·subst e1;refine .inr ⟨0,p.2,by simp[pJ],by unfold Instr.findNow;rw[hs];simp[hv],rfl,fun y k'=>?_⟩;simp only[List.modify_zero_cons,pJ,List.find?_cons];by_cases e2:k'=p.1
    ·simp[e2]
    ·simp[e2]
   ·have iT:Instr.sameNow (.int .i64) (.int .i64 k) e.key=some false:=by rw[hs];simpa using e1
    have e3:pJ (p :: l) k=pJ l k:=by simp[pJ,e1]
    have hf:Instr.findNow (.int .i64) (.int .i64 k) (e :: es) i=Instr.findNow (.int .i64) (.int .i64 k) es (i+1):=by
     rw[Instr.findNow,iT]
    rcases Mg k (.int .i64) rfl l es (i+1) h with ⟨h1,h2⟩|⟨j,x,h1,h2,h3,h4⟩
    ·exact .inl ⟨by rw[e3];exact h1,by rw[hf];exact h2⟩
    ·refine .inr ⟨j+1,x,by rw[e3];exact h1,by rw[hf,h2,show i+1+j=i+(j+1) by omega],by simpa using h3,fun y k'=>?_⟩;have h5:=h4 y k';simp only[List.modify_succ_cons,pJ,List.find?_cons]at h5 ⊢;by_cases e2:k'=p.1
     ·subst e2;rw[if_neg (fun e=>e1 e.symm)];simp
     ·simp only[e2,decide_false];exact h5
theorem Mh{P:Program} {kt:TypeId} (hk:P.underlying kt=some (.int .i64)) (k:Int) (es:List MapEntry) (w:World) (r:Option (Nat × Value)) (h:Instr.findNow (.int .i64) (.int .i64 k) es 0=some r):(Instr.findKey kt (.int .i64 k) es).run P w=.ok r w:=by
 unfold Instr.findKey;simp[Sem.run_bind,run_underlying hk,h]
theorem BW{P:Program} {kt:TypeId} (hk:P.underlying kt=some (.int .i64)) (em:Bool) (k:Int) (w:World):(Instr.checkKey em 10000 kt (.int .i64 k)).run P w=.ok () w:=by
 unfold Instr.checkKey;simp[Sem.run_bind,run_underlying hk]
section
variable {P : Program} {kt mt vt : TypeId} {w : World} {b n : Nat} {f : Int → Option Int}
theorem DJ(hm:P.underlying mt=some (.map kt vt)) (hk:P.underlying kt=some (.int .i64)) (hz:∀ w,(zeroValue vt).run P w=.ok (.int .i64 0) w) (h:dr w b f n) (k:Int) :
  (Instr.lookup mt (.map (some b)) (.int .i64 k) true).run P w=.ok (.tuple #[.int .i64 ((f k).getD 0),.bool (f k).isSome]) w:=by
 obtain⟨es,clock,l,hb,iV,_,hf⟩:=h;have hg:(getObj b).run P w=.ok (.map es clock) w:=by simp[getObj,Sem.run,hb]
 rw[<-hf k];unfold Instr.lookup;rcases Mg k _ rfl l es.toList 0 iV with ⟨h1,h2⟩|⟨j,x,h1,h2,_⟩
 ·simp[Sem.run_bind,run_underlying hm,hg,BW hk,Mh hk k _ w _ h2,hz,h1]
 ·simp[Sem.run_bind,run_underlying hm,hg,BW hk,Mh hk k _ w _ h2,h1]
theorem Yr(h:dr w b f n):∃ es clock,w.heap[b]?=some (.map es clock)/\es.size=n:=by
 obtain⟨es,clock,l,hb,iV,hl,_⟩:=h;refine⟨es,clock,hb,?_⟩;have:=congrArg List.length iV;simpa[hl] using this
theorem UY(hm:P.underlying mt=some (.map kt vt)) (ty:TypeId) (h:dr w b f n):(Builtin.len_ #[mt] ty #[.map (some b)]).run P w=.ok (.int .i64 (n:Int)) w:=by
 obtain⟨es,clock,hb,hn⟩:=Yr h;have hg:(getObj b).run P w=.ok (.map es clock) w:=by simp[getObj,Sem.run,hb]
 subst hn;simp[Builtin.len_,run_underlying hm,hg,goInt,Result.andThen]
theorem uO(hm:P.underlying mt=some (.map kt vt)) (hk:P.underlying kt=some (.int .i64)) (h:dr w b f n) (k x:Int) :
  ∃ o,(Instr.mapUpdate mt (.map (some b)) (.int .i64 k) (.int .i64 x)).run P w=.ok () (w.putObj b o)/\dr (w.putObj b o) b (fun j=>if j=k then some x else f j) (if (f k).isSome then n else n+1):=by
 obtain⟨es,clock,l,hb,iV,hl,hf⟩:=h;have hg:(getObj b).run P w=.ok (.map es clock) w:=by simp[getObj,Sem.run,hb]
 have hs:∀ o,(setObj b o).run P w=.ok () (w.putObj b o):=fun o=>by simp[setObj,Sem.run,hb,World.putObj]
 rw[<-hf k];rcases Mg k _ rfl l es.toList 0 iV with ⟨h1,h2⟩|⟨j,y,h1,h2,h3,h4⟩
 ·refine⟨.map (es.push { key:=.int .i64 k,val:=.int .i64 x,born:=clock }) (clock+1),?_,es.push { key:=.int .i64 k,val:=.int .i64 x,born:=clock },clock+1,l++[(k,x)],World.putObj_heap_same (aC hb),by simp[iV],by rw[h1];simp[hl],fun j=>?_⟩
  ·unfold Instr.mapUpdate;simp[Sem.run_bind,run_underlying hm,hg,BW hk,Mh hk k _ w _ h2,hs]
  ·unfold pJ at h1 ⊢;rw[List.find?_append]
   show Option.map _ _=if j=k then some x else f j
   by_cases e:j=k
   ·subst e;rw[Option.map_eq_none_iff]at h1;simp[h1]
   ·rw[if_neg e,<-hf j];unfold pJ;cases l.find? fun p=>decide (j=p.1)<;>simp[e]
 ·rw[Nat.zero_add]at h2;have cN:es.toList.length=l.length:=by simpa using congrArg List.length iV
  have hj:j<l.length:=by
   apply Classical.byContradiction;intro hj;rw[List.getElem?_eq_none (by omega)]at h3;simp at h3
  have hje:j<es.size:=by simpa using (show j<es.toList.length by omega)
  have mV:es[j].key=.int .i64 k:=by
   have h5:=congrArg (fun L=>L[j]?) iV;simp only[List.getElem?_map,List.getElem?_eq_getElem hj,List.getElem?_eq_getElem (show j<es.toList.length by omega)]at h5 h3;simp only[Option.map_some,Option.some.injEq,Prod.mk.injEq,Array.getElem_toList]at h5 h3;rw[h5.1,h3]
  refine⟨.map (es.modify j fun e=>{ e with key:=.int .i64 k,val:=.int .i64 x }) clock,?_,es.modify j fun e=>{ e with key:=.int .i64 k,val:=.int .i64 x },clock,l.modify j fun p=>(p.1,x),World.putObj_heap_same (aC hb),?_,by rw[h1];simp[hl],fun j'=>by rw[h4 x j',hf]⟩
  ·unfold Instr.mapUpdate
   have dO:(Instr.keyThatStays (.int .i64 k) (.int .i64 k)).run P w=.ok (.int .i64 k) w:=by
    unfold Instr.keyThatStays;rw[if_pos (by simp[Instr.sameBits])];rfl
   simp[Sem.run_bind,run_underlying hm,hg,BW hk,Mh hk k _ w _ h2,hs,hje,mV,dO]
  ·apply List.ext_getElem?;intro i;have h5:=congrArg (fun L=>L[i]?) iV;simp only[List.getElem?_map]at h5 ⊢;rw[List.getElem?_modify,Array.getElem?_toList,Array.getElem?_modify];rw[Array.getElem?_toList]at h5;by_cases e:j=i
   ·subst e;simp only[if_pos,List.getElem?_eq_getElem hj,Array.getElem?_eq_getElem hje,Option.map_some,Option.some.injEq,Prod.mk.injEq]at h5 ⊢;rw[List.getElem?_eq_getElem hj]at h3;simp only[Option.map_some,Option.some.injEq]at h3;simp[h3]
   ·simp only[if_neg e];cases h6:l[i]? with
    | none=>rw[h6]at h5;exact h5
    | some q=>rw[h6]at h5;exact h5
end
structure OwnQ (w:World) (g:Nat) (e:TypeId) (v:Value) (n:Nat) (xs:List Value):Prop where
 len:xs.length=n
 ex:∃ off cap,v=.slice (some ⟨g,off,none⟩) n cap/\n<=cap/\cap<=maxLen/\(cap=0\/∃ cur fz,w.heap[g]?=some (.cells cur e fz)/\(∀ i,i<cur.size->¬ (fz.1<=i/\i<fz.2))/\cur.size=off+cap/\(cur.toList.drop off).take n=xs)
theorem OwnQ.up{w w':World} {g:Nat} {e:TypeId} {v:Value} {n:Nat} {xs:List Value} (h:OwnQ w g e v n xs) (hb:w'.heap[g]?=w.heap[g]?\/g ≥ w.heap.size):OwnQ w' g e v n xs:=by
 obtain⟨off,cap,h1,h2,h3,h4⟩:=h.ex;refine⟨h.len,off,cap,h1,h2,h3,?_⟩;rcases h4 with h4|⟨cur,fz,h5,h6⟩
 ·exact .inl h4
 ·rcases hb with hb|hb
  ·exact .inr ⟨cur,fz,hb.trans h5,h6⟩
  ·have:=aC h5;omega
structure GrowQ (g:Nat) (w w':World):Prop where
 os:w'.os=w.os
 tape:w'.tape=w.tape
 output:w'.output=w.output
 size:w.heap.size<=w'.heap.size
 same:∀ k,k<w.heap.size->k≠g->w'.heap[k]?=w.heap[k]?
theorem GrowQ.below{g n:Nat} {w0 w w':World} (h:GrowQ g w w') (hb:Below n w0 w) (hn:n<=w.heap.size) (hg:n<=g):Below n w0 w':=
 ⟨h.os.trans hb.os,h.tape.trans hb.tape,h.output.trans hb.output,Nat.le_trans hb.size h.size,fun k hk=>(h.same k (by omega) (by omega)).trans (hb.block k hk)⟩
theorem GrowQ.keep{g:Nat} {w w':World} (h:GrowQ g w w') {k:Nat} {o:Obj} (hk:w.heap[k]?=some o) (hg:k≠g):w'.heap[k]?=some o:=(h.same k (aC hk) hg).trans hk
section
variable {P : Program} (w : World)
theorem Ht(t ty e:TypeId) (i:TypeInfo) (z:Value) (bytes:Nat) (ht:P.underlying t=some (.slice e)) (hi:P.info? e=some i) (hz:i.zero=some z)
  (fd:i.size=1) (gH:i.bytes=bytes) (rY:z.cells.size=1)
  (g:Nat) (v:Value) (n:Nat) (xs:List Value) (bg:OwnQ w g e v n xs)
  (a:Addr) (c:Nat) (u:Value) (bS:∀ j x,[u][j]?=some x->w.cell? (a.add j)=some x) (h1:u.oneCell'=true)
  (oW:n+1<=maxLen) (gC:(n+1) * bytes<=140737488355328) :
  ∃ v' w' g',(Builtin.append_ #[t,t] ty #[v,.slice (some a) 1 c]).run P w=.ok v' w'/\OwnQ w' g' e v' (n+1) (xs++[u])/\GrowQ g w w'/\(g'=g/\g<w.heap.size\/g'=w.heap.size):=by
 obtain⟨off,cap,rfl,iI,qn,h⟩:=bg.ex;have iF:=bg.len;by_cases mG:n+1<=cap
 ·rcases h with h|⟨cur,fz,hg,nh,jK,ny⟩
  ·omega
  have hr:=run_append_room_cells (P:=P) w t ty e i ht hi g off n cap a 1 c [u] (by simp[fd]) bS (by simpa using h1) mG (fun j hj=>by
    rw[fd,Nat.mul_one,ab hg];simp at hj;simp
    omega)
   (fun j hj=>by
    simp at hj;simp only[World.frozen?,hg];have:=nh (off+n * i.size+j) (by rw[fd];omega)
    simpa using this)
  rw[fd,Nat.mul_one]at hr;have fW:w.setCells g (off+n) [u]=w.setCell ⟨g,off+n,none⟩ u:=rfl;rw[fW]at hr;refine⟨_,_,g,hr,⟨by simp[iF],off,cap,rfl,mG,qn,.inr ⟨_,fz,aH hg _ _,fun i hi=>nh i (by simpa using hi),by simpa using jK,?_⟩⟩,⟨rfl,rfl,rfl,by simp,fun k _ hk=>Below.heap_setCell _ _ _ _ hk⟩,.inl ⟨rfl,aC hg⟩⟩;rw[Array.toList_setIfInBounds,List.drop_set,if_neg (by omega),Nat.add_sub_cancel_left,List.take_succ_eq_append_getElem (by simp;omega),List.take_set_of_le (Nat.le_refl _),ny,List.getElem_set_self]
 ·have CM:∀ j x,xs[j]?=some x->w.cell? ((⟨g,off,none⟩:Addr).add j)=some x:=fun j x hx=>by
   have hj:=(List.getElem?_eq_some_iff.1 hx).1;rcases h with h|⟨cur,fz,hg,nh,jK,ny⟩
   ·omega
   have e1:((⟨g,off,none⟩:Addr).add j)=⟨g,off+j,none⟩:=by unfold Addr.add;split<;>simp_all
   rw[e1,ab hg];rw[<-ny,List.getElem?_take,if_pos (by omega),List.getElem?_drop]at hx;simpa using hx
  have hr:=run_append_grow (P:=P) w t ty e i z ht hi hz ⟨g,off,none⟩ n cap xs (by rw[fd,iF,Nat.mul_one]) CM a 1 c [u] (by simp[fd]) bS (by omega) (by simp only[maxLen]at oW;omega) (growslice_fits (by omega) (by rw[gH];exact gC));obtain⟨v',w',q1,q2,q3⟩:=run_append_arg_grows (P:=P) w t ty e i z i.size i.bytes ht hi hz rfl rfl (by rw[fd,rY]) (by omega) ⟨g,off,none⟩ n cap xs (by rw[fd,iF,Nat.mul_one]) CM a 1 c [u] (by simp[fd]) bS (by omega) oW (by rw[gH];exact gC);have e1:=hr.symm.trans q1;injection e1 with e1 e2
  subst e1 e2;have q4:=aI.of_owns q2;rw[fd]at q4;refine⟨_,_,w.heap.size,hr,⟨by simp[iF],?_⟩,⟨q3.os,q3.tape,q3.output,q3.size,fun k hk _=>q3.block k hk (by simp)⟩,.inr rfl⟩;rcases q4.2 with ⟨hn,_⟩|⟨g',cap',cur,fz,hv,_,hg,nh,hnc',hcm',jK,ny⟩
  ·cases hn
  ·injection hv with jU _ Qp
   injection jU with jU
   injection jU with jU
   subst jU Qp;exact⟨0,_,rfl,hnc',hcm',.inr ⟨cur,fz,hg,nh,by omega,by rw[List.drop_zero,<-ny,Nat.mul_one]⟩⟩
theorem zP{F:Fence} {d:Nat} {ops:Array Oper} {rest:List Oper} {o:Oper} {a:Act} {Q:Exit->Act->World->Prop} (lD:o.guard=none) (s x:Operand) (t:TypeId)
  (ho:o.op=.call { callee:=.builtin .append,args:=#[s,x],argTypes:=#[t,t] })
  (e:TypeId) (i:TypeInfo) (z:Value) (bytes:Nat) (ht:P.underlying t=some (.slice e)) (hi:P.info? e=some i) (hz:i.zero=some z)
  (fd:i.size=1) (gH:i.bytes=bytes) (rY:z.cells.size=1)
  (g:Nat) (v:Value) (n:Nat) (xs:List Value) (hs:a.eval s=v) (bg:OwnQ w g e v n xs)
  (ad:Addr) (c:Nat) (u:Value) (hx:a.eval x=.slice (some ad) 1 c) (bS:∀ j x,[u][j]?=some x->w.cell? (ad.add j)=some x) (h1:u.oneCell'=true)
  (oW:n+1<=maxLen) (gC:(n+1) * bytes<=140737488355328)
  (h:∀ v' w' g',OwnQ w' g' e v' (n+1) (xs++[u])->GrowQ g w w'->(g'=g/\g<w.heap.size\/g'=w.heap.size)->wpListIn F d P ops Q rest (a.put o.dst v') w'):wpListIn F d P ops Q (o :: rest) a w:=by
 refine wpListIn_plain lD fun K hK'=>?_
 obtain⟨v',w',g',SN,r1,r2,r3⟩:=Ht (P:=P) w t o.type e i z bytes ht hi hz fd gH rY g v n xs bg ad c u bS h1 oW gC;unfold Oper.wpIn;refine⟨?_,?_⟩
 ·simp[Oper.about,ho,resolve,Target.leads,Sem.run_pure]
 ·rw[Oper.semAt_plain F _ _ (by rw[ho];intro c k8;cases k8)];simp[execOp,ho,resolve,invoke,builtin,hs,hx,SN,Result.andThen];exact hK' _ _ (h v' w' g' r1 r2 r3)
end
theorem OwnQ.tail{w:World} {g:Nat} {e:TypeId} {off n cap:Nat} {x:Value} {xs:List Value} (h:OwnQ w g e (.slice (some ⟨g,off,none⟩) (n+1) cap) (n+1) (x :: xs)):OwnQ w g e (.slice (if cap=1 then some ⟨g,off,none⟩ else some ⟨g,off+1,none⟩) n (cap - 1)) n xs:=by
 have hl:=h.len;obtain⟨off',cap',hv,h2,h3,h4⟩:=h.ex;injection hv with e1 _ e3
 injection e1 with e1
 injection e1 with _ e1
 subst e1 e3;simp at hl;rcases h4 with h4|⟨cur,fz,h5,h6,h7,h8⟩
 ·omega
 by_cases hc:cap=1
 ·subst hc;obtain rfl:n=0:=by omega
  have:xs=[]:=List.eq_nil_of_length_eq_zero hl;subst this;exact⟨rfl,off,0,by simp,by omega,by omega,.inl rfl⟩
 ·refine⟨hl,off+1,cap - 1,by rw[if_neg hc],by omega,by omega,.inr ⟨cur,fz,h5,h6,by omega,?_⟩⟩;rw[show off+1=1+off by omega,<-List.drop_drop];have h9:=congrArg (List.drop 1) h8;rw[List.drop_take,Nat.add_sub_cancel]at h9;simpa using h9
end Go.Proofs.YtmeaoneaephjeaaGreatDoor
namespace Go.Proofs.YtmeaoneaephjeaaGreatDoor
open Go.RowKit Go Go.Shelf
attribute [local go_sem] Oper.semAt_some
theorem bz(w:World) (a b:Obj):((w.alloc a).alloc b).heap[w.heap.size+1]?=some b:=by simpa using aq (w.alloc a) b
theorem eA(w:World) (a b c:Obj):(((w.alloc a).alloc b).alloc c).heap[w.heap.size+1+1]?=some c:=by simpa using aq ((w.alloc a).alloc b) c
theorem jk(tmps:Array Value) (B:Nat) (W:World) (x:Int) (ty:TypeId) (ht:tmps[2]?.getD undef=.pointer (some ⟨B,0,none⟩)) (hb:W.heap[B]?=some (.cells #[.int .i64 x] ty)) :
  (results Tryz.f211 tmps).run Tryz.prog W=.ok (.int .i64 x) W:=by
 have c:=ab hb 0;simp at c;simp[results,Tryz.results211,go_sem,ht,c]
theorem xR(a:Adv) (v:Value) (w:World) (hv:bA w v a.states) (hN:movesN a.states<1099511627776) :
  Calls Tryz.prog 211 #[.agg #[.int .i64 a.n,v]] w fun e w'=>e=.returned (.int .i64 (advE a))/\Below w.heap.size w w':=by
 have G:=aa hv;obtain⟨pa,ca,rfl,la1,la2,ea⟩:=hv.at;clear hv;have E:=aa ea;clear ea;refine gd Tryz.func211 rfl ?_;simp only[Tryz.ntmps211,List.size_toArray,List.length_cons,List.length_nil,Nat.reduceAdd,Nat.reduceSub,Array.replicate_succ,Array.replicate_zero,List.push_toArray,List.append_toArray,List.nil_append,List.cons_append];by_cases hn:a.n<1\/5<a.n
 ·have HV:am (advE a=2):=by(have h:advE a=2:=by(unfold advE;rw[if_pos hn]));exact h
  rcases hn with hn|hn
  ·go_wp2_with fail
   refine ik (jk _ _ _ 2 _ rfl (bz _ _ _)) ?_;exact⟨aF HV.o.symm,by go_grown⟩
  ·go_wp2_with fail
   refine ik (jk _ _ _ 2 _ rfl (bz _ _ _)) ?_;exact⟨aF HV.o.symm,by go_grown⟩
 have jV:1<=a.n:=by omega
 have oz:a.n<=5:=by omega
 have HV:am (advE a=if sizedE a≠0 then sizedE a else if bm a.states.length (fun s=>stateE a (a.states.getD s []))≠0 then bm a.states.length (fun s=>stateE a (a.states.getD s [])) else if growsB a then 0 else 21):=by
  have h:advE a=if sizedE a≠0 then sizedE a else if bm a.states.length (fun s=>stateE a (a.states.getD s []))≠0 then bm a.states.length (fun s=>stateE a (a.states.getD s [])) else if growsB a then 0 else 21:=by
   unfold advE sizedE;rw[if_neg hn];grind
  exact h
 clear hn
 go_wp2_with fail
 refine aQ (fun W=>Below w.heap.size w W/\W.heap[w.heap.size]?=some (.cells #[.int .i64 a.n,.slice pa a.states.length ca] 27)/\W.heap[w.heap.size+1]?=some (.cells #[.int .i64 0] 39)) ⟨by go_grown,az _ (aq _ _),bz _ _ _⟩ (fun W0 bh=>?_);obtain⟨aJ,bK,gq⟩:=bh;refine(OC a _ W0 (G.o.up up_moves aJ) hN).mono ?_;rintro e w1 ⟨rfl,aM⟩;have eN:=af aM bK;have rW:=af aM gq;have jj:=ae aJ aM;have c1:=ab rW 0;have f1:=aG rW 0;simp at c1;have t1:=ab eN;generalize sizedE a=es at HV;have dN:=aa eN;have dd:=aa rW;clear bK gq aJ aM W0 eN rW;by_cases iV:es=0
 case neg=>
  have hes':(es != 0)=true:=by simpa using iV
  go_wp2_with fail
  refine ik (jk _ _ _ es _ rfl (by rw[aH dd.o];rfl)) ?_;exact⟨aF (by rw[HV.o,if_pos iV]),jj.setCell (by simp) _⟩
 subst iV
 go_wp2_with fail
 clear t1 c1 f1
 go_loopw [27] (fun i wr=>Below w1.heap.size w1 wr/\∃ k:Nat,k<=a.states.length/\i=.int .i64 k/\∀ j,j<k->stateE a (a.states.getD j [])=0) (fun i _=>a.states.length - (intOf i).toNat)
 case atStart=>exact⟨Below.refl _ _,0,by omega,rfl,by simp⟩
 case round=>
  obtain⟨aB,k,hk,rfl,aV⟩:=hrel;have H:=aa aV;clear aV;have dD:=ae jj aB;have tK:=af aB dN.o;have Tx:=af aB dd.o;have t1:=ab tK;by_cases aD:k<a.states.length
  ·obtain⟨b1,o1,rfl,x,cx,hx⟩:=E.o k aD;rw[Nat.mul_one]at cx;have d1:=ak dD cx;have HX:=aa (hx.up up_move dD);obtain⟨px,qx,rfl,_⟩:=hx;clear cx;have TM:=aa Tx;clear tK Tx
   go_wp2_with fail
   refine(OF a _ _ _ _ _ HX.o).mono ?_;rintro e w2 ⟨rfl,aY⟩;have mw:=af aY TM.o;have c1:=ab mw 0;have f1:=aG mw 0;simp at c1;have eH:=aa mw;clear mw;have HS:am (stateE a (a.states.getD k [])=stateE a a.states[k]):=by(have h:stateE a (a.states.getD k [])=stateE a a.states[k]:=by(rw[aA [] aD]));exact h
   generalize stateE a a.states[k]=ek at HS;clear t1 d1;by_cases tU:ek=0
   ·subst tU
    go_wp2_with fail
    go_roundw
    ·exact⟨ae aB aY,k+1,by omega,by go_num,aW H.o HS.o⟩
    ·simp[intOf];omega
   ·have Tb:(ek != 0)=true:=by simpa using tU
    go_wp2_with fail
    refine ik (jk _ _ _ ek _ rfl (by rw[aH eH.o];rfl)) ?_;exact⟨aF (by rw[HV.o,if_neg (by simp),<-bU (f:=fun s=>stateE a (a.states.getD s [])) k ek aD H.o HS.o tU,if_pos tU]),(ae dD aY).setCell (by simp) _⟩
  ·have aS:∀ j,j<a.states.length->stateE a (a.states.getD j [])=0:=fun j hj=>H.o j (by omega)
   have df:am (advE a=if growsB a then 0 else 21):=by
    have h:advE a=if growsB a then 0 else 21:=by rw[HV.o,if_neg (by simp),cT _ _ aS];simp
    exact h
   have mT:=aa aS;clear aS H HV;have HAr:=aa tK;have TM:=aa Tx;clear tK Tx
   go_wp2_with fail
   refine(xP _ _ _ _ _).mono ?_;rintro e w2 ⟨rfl,rfl⟩;clear t1
   go_wp2_with fail
   refine bF (fun W=>Below w.heap.size w W/\W.heap[w.heap.size]?=some (.cells #[.int .i64 a.n,.slice pa a.states.length ca] 27)/\W.heap[w.heap.size+1]?=some (.cells #[.int .i64 0] 39)/\W.heap[wr.heap.size]?=some (.cells #[.int .i64 a.n,.slice pa a.states.length ca] 27))
    ⟨dD.alloc dD.size _,az _ HAr.o,az _ TM.o,aq _ _⟩ (fun W0 bh=>?_)
   obtain⟨aJ,hA,hR,hX⟩:=bh;have dj:=vY w _ a.states G.o W0 aJ wr.heap.size (by simp[ab hX]);have eM:=aC hX;have hsw:=dD.size;have hsR:=aC TM.o
   refine mI (gf:=221) (lb:=#[.pointer (some ⟨wr.heap.size,0,none⟩)]) rfl (enters_of Tryz.func221 (by kernel_rfl) rfl) dj (Below.refl _ _) (fun k hk=>Nat.lt_of_lt_of_le hk aJ.size) (fun i=>rfl)
    (fun i W=>Below w.heap.size w W/\W.heap[w.heap.size]?=some (.cells #[.int .i64 a.n,.slice pa a.states.length ca] 27)/\W.heap[w.heap.size+1]?=some (.cells #[.int .i64 0] 39)/\∀ j,j<i->pS a j=false)
    (fun c _ W=>c=.ret/\Below w.heap.size w W/\W.heap[w.heap.size+1]?=some (.cells #[.int .i64 21] 39)/\growsB a=false)
    (fun i=>(cK.below (by omega)).and (cK.cells.and (cK.cells.and cK.pure))) (fun c i=>cK.pure.and ((cK.below (by omega)).and (cK.cells.and cK.pure))) ⟨aJ,hA,hR,by simp⟩ ?round ?done ?stop
   case round=>
    intro yl i W hi hl hI;unfold Hs;have fL:=UP mT.o hi;have HB:am (pS a i=anyLt (nG a i).length fun k=>!iL (mvAt a.states i).2.r.f ((nG a i).getD k default).r.f):=by(have h:pS a i=anyLt (nG a i).length fun k=>!iL (mvAt a.states i).2.r.f ((nG a i).getD k default).r.f:=rfl);exact h
    have Qo:am (nG a i=a.states.getD (mvAt a.states i).2.to.toNat []):=by(have h:nG a i=a.states.getD (mvAt a.states i).2.to.toNat []:=rfl);exact h
    generalize mvAt a.states i=sm at fL HB Qo;obtain⟨sx,m⟩:=sm;dsimp only at fL HB Qo;obtain⟨⟨gR,fQ⟩,ht0,ht1⟩:=fL;have HI:=aa hI;clear hI;have S0:=HI.o.1.size
    gi_wp2
    refine⟨Bod.of_below (fun k hk=>Nat.lt_of_lt_of_le hk S0) (by go_grown),(fun W'=>Below w.heap.size w W'/\W'.heap[w.heap.size]?=some (.cells #[.int .i64 a.n,.slice pa a.states.length ca] 27)/\W'.heap[w.heap.size+1]?=some (.cells #[.int .i64 0] 39)/\W'.heap[W.heap.size]?=some (.cells #[.int .i64 m.r.g.n,.int .i64 m.r.g.h0,.int .i64 m.r.g.h1,.int .i64 m.r.g.h2,.int .i64 m.r.g.h3,.int .i64 m.r.g.h4,.int .i64 m.r.f,.int .i64 m.to] 143)),
     (cK.below (by omega)).and (cK.cells.and (cK.cells.and cK.cells)),⟨HI.o.1.alloc S0 _,az _ HI.o.2.1,az _ HI.o.2.2.1,aq _ _⟩,fun W2 h2 _=>?_⟩
    obtain⟨g1,g2,g3,g4⟩:=h2;have qN:=aa HI.o.2.2.2;have JG:=g1.size;have hszR:=aC g3;have hszM:=aC g4;have tA:=ab g2;have tM:=ab g4;have oA:=aa g1;have Df:=aa g3;have rX:=aa g2;have Ug:=aa g4;clear g1 g2 g3 g4 HI dj hA hR hX;obtain⟨b1,o1,rfl,x,cx,hx⟩:=E.o m.to.toNat (by omega);have HL:am (nG a i=a.states[m.to.toNat]):=by(have h:nG a i=a.states[m.to.toNat]:=by(rw[Qo.o,aA [] (by omega)]));exact h
    rw[Nat.mul_one]at cx;have d1:=ak oA.o cx;obtain⟨p2,c2,rfl,m1,m2,e2⟩:=hx.at;clear hx cx;have E2:=aa e2;clear e2;generalize hLL:a.states[m.to.toNat]=L at HL E2 d1 m1 m2;have kY:=aa hLL;clear hLL
    gi_wp2
    clear tA tM d1
    gi_loopw [49] (fun i wr=>Below W2.heap.size W2 wr/\∃ q:Nat,q<=L.length/\i=.int .i64 q/\∀ j,j<q->iL m.r.f (L.getD j default).r.f=true) (fun i _=>L.length - (intOf i).toNat)
    case atStart=>exact⟨Below.refl _ _,0,by omega,rfl,by simp⟩
    case round=>
     obtain⟨jW,q,hq,rfl,pZ⟩:=hrel;have H2:=aa pZ;clear pZ;have tM:=ab (af jW Ug.o);have Dj:=af jW Df.o;have c1':=ab Dj 0;have f1':=aG Dj 0;simp at c1';have gk:=aa Dj;clear Dj;have kG:=ae oA.o jW;have iT:=jW.size;have rK:W.heap.size<wr.heap.size:=by omega
     have hR3':w.heap.size+1<wr.heap.size:=by omega
     by_cases AO:q<L.length
     ·have Ns:0<=L[q].r.f/\L[q].r.f<32:=by
       have:=(lg mT.o (s:=m.to.toNat) (j:=q) (by omega) (by rw[kY.o];exact AO)).1;simpa[kY.o] using this
      have XH:am (L.getD q default=L[q]):=aA default AO;obtain⟨b2,o2,rfl,⟨⟨c0,_⟩,⟨c1,_⟩,⟨c2,_⟩,⟨c3,_⟩,⟨c4,_⟩,⟨c5,_⟩,⟨c6,_⟩⟩,c7,_⟩:=E2.o q AO;have d0:=ak kG c0;have d1:=ak kG c1;have d2:=ak kG c2;have d3:=ak kG c3;have d4:=ak kG c4;have d5:=ak kG c5;have d6:=ak kG c6;have d7:=ak kG c7;clear c0 c1 c2 c3 c4 c5 c6 c7;generalize L[q]=y at Ns XH d0 d1 d2 d3 d4 d5 d6 d7;have fK:=Gm m.r.f y.r.f gR fQ Ns.1 Ns.2;clear Ns;cases cZ:iL m.r.f y.r.f with
      | true=>
       rw[cZ]at fK;have jd:=aa cZ;clear cZ
       gi_wp2
       go_roundw
       ·exact⟨jW.alloc jW.size _,q+1,by omega,by go_num,aW H2.o (by rw[XH.o];exact jd.o)⟩
       ·simp[intOf];omega
      | false=>
       rw[cZ]at fK;have jd:=aa cZ;clear cZ
       gi_wp2
       refine⟨((Bod.of_below (fun k hk=>Nat.lt_of_lt_of_le hk JG) jW).trans (Bod.setCell _ ⟨w.heap.size+1,0,none⟩ _ (fun h=>by dsimp only at h;omega))).trans (Bod.of_below (fun k hk=>by simp only[World.size_setCell];omega) (by go_grown)),rfl,(kG.setCell (p:=⟨w.heap.size+1,0,none⟩) (by dsimp only;omega) _).alloc (by simp only[World.size_setCell];omega) _,?_,?_⟩
       ·exact az _ (by rw[aH gk.o];rfl)
       ·unfold growsB;rw[eo _ i _ hi (by rw[HB.o,HL.o];exact eo _ q _ AO (by rw[XH.o,jd.o];rfl))];rfl
     ·gi_wp2
      refine⟨Bod.of_below (fun k hk=>Nat.lt_of_lt_of_le hk JG) jW,kG,af jW rX.o,gk.o,aW qN.o ?_⟩;rw[HB.o,HL.o];exact eQ _ _ (fun j hj=>by rw[H2.o j (by omega)];rfl)
   case done=>
    intro D W hD hI hK;obtain⟨g1,g2,g3,g4⟩:=hI;have HG:=aa (And.intro g1 (And.intro g2 (And.intro g3 g4)));have c1:=ab g3 0;have f1:=aG g3 0;simp at c1;clear g1 g2 g3 g4 dj hA hR hX
    go_wp2_with fail
    refine iz (by rw[<-hK];exact Below.heap_setCell _ _ _ _ (by dsimp only;omega)) (jk _ _ _ 0 _ rfl ((World.putObj_heap_other (by omega)).trans (by rw[aH HG.o.2.2.1];rfl))) ?_;refine⟨aF ?_,eR (by omega) (HG.o.1.setCell (by simp) _)⟩;rw[df.o];unfold growsB;rw[eQ _ _ HG.o.2.2.2];rfl
   case stop=>
    rintro D c i W hD hi ⟨rfl,g1,g2,g3⟩ hK;have HG:=aa (And.intro g1 (And.intro g2 g3));clear g1 g2 g3 dj hA hR hX
    go_wp2_with fail
    refine iz hK (jk _ _ _ 21 _ rfl ((World.putObj_heap_other (by omega)).trans HG.o.2.1)) ?_;exact⟨aF (by rw[df.o,HG.o.2.2];rfl),eR (by omega) HG.o.1⟩
abbrev Rd.c(r:Rd):Array Value:=#[.int .i64 r.g.n,.int .i64 r.g.h0,.int .i64 r.g.h1,.int .i64 r.g.h2,.int .i64 r.g.h3,.int .i64 r.g.h4,.int .i64 r.f]
theorem EZ(l:List Int) (i:Nat) (h:i<l.length):(bG l)[i]?=some (.int .i64 (l.getD i 0)):=by
 unfold bG;rw[List.getElem?_toArray,List.getElem?_map,List.getElem?_eq_getElem h,List.getD_eq_getElem?_getD,List.getElem?_eq_getElem h];rfl
theorem OG(l:List Int) (s:Nat) (z:Int):(bG l).setIfInBounds s (.int .i64 z)=bG (l.set s z):=by
 unfold bG;rw[List.setIfInBounds_toArray,List.map_set]
theorem cK.marks{B B0:Nat} {Ds:List Nat} (h:∀ D∈Ds,D<B):cK B (fun W=>cU B0 Ds W):=fun _ _ c x=>⟨x.1,fun D hD=>⟨(x.2 D hD).1,c.same _ _ (x.2 D hD).2 (.inl (h D hD))⟩⟩
theorem cU.lt{B:Nat} {Ds:List Nat} {W:World} (h:cU B Ds W):∀ D∈Ds,D<W.heap.size:=fun D hD=>aC (h.2 D hD).2
theorem Gt(a:Adv) (v:Value) (k:Nat) (L:Int) (w:World) (hv:bA w v a.states) (h1:1<=a.states.length) (h2:a.states.length<=256) (aS:∀ j,j<a.states.length->stateE a (a.states.getD j [])=0) (hk:k<=6) (hL:0<=L) (hL2:L<=1048576) :
  Calls Tryz.prog 212 #[.agg #[.int .i64 a.n,v],.int .i64 k,.int .i64 L] w fun e w'=>e=.returned (.int .i64 (numberL L a k))/\Below w.heap.size w w':=by
 have G:=aa hv;obtain⟨pa,ca,rfl,la1,la2,ea⟩:=hv.at;clear hv ea;have mT:=aa aS;clear aS;refine gd Tryz.func212 rfl ?_;simp only[Tryz.ntmps212,List.size_toArray,List.length_cons,List.length_nil,Nat.reduceAdd,Nat.reduceSub,Array.replicate_succ,Array.replicate_zero,List.push_toArray,List.append_toArray,List.nil_append,List.cons_append]
 go_wp2_with fail
 refine aQ (fun W=>Below w.heap.size w W/\W.heap[w.heap.size]?=some (.cells #[.int .i64 a.n,.slice pa a.states.length ca] 27)/\W.heap[w.heap.size+1]?=some (.cells #[.int .i64 L] 3)/\W.heap[w.heap.size+1+1]?=some (.cells #[.int .i64 1] 3)) ⟨by go_grown,az _ (az _ (aq _ _)),az _ (bz _ _ _),eA _ _ _ _⟩ (fun W0 bh=>?_);obtain⟨aJ,bK,gq,gU⟩:=bh;refine(vZ 1 a.states.length h1 (by omega) _ W0 gU).mono ?_;rintro e w1 ⟨rfl,cA,aM⟩
 go_wp2_with fail
 have jj:=ae aJ aM;have eN:=af aM bK;have rW:=af aM gq;have cC:=aJ.size;have bY:=aM.size;have Xo:=aC gU
 refine wp_loop (fun act W=>∃ (q:Nat) (Ds:List Nat) (cb:Nat) (u8 u9 u10 u18 u19 u20 u21 u22 u23 u24 u25 u26 u27 u28 u29 u30 u31 u32 u33 u34 u35 u36 u37 u38 u39 u40 u41 u42 u43 u44 u45 u46:Value),
   act={ tmps:=#[Value.agg #[Value.int IntKind.i64 a.n,Value.slice pa a.states.length ca],Value.int IntKind.i64 k,Value.int IntKind.i64 L,Value.pointer (some ⟨w.heap.size,0,none⟩),undef,Value.pointer (some ⟨w.heap.size+1,0,none⟩),Value.int IntKind.i64 0,Value.pointer (some ⟨w1.heap.size,0,none⟩),u8,u9,u10,
     Value.slice (some ⟨w.heap.size+1+1,0,none⟩) 1 1,Value.pointer (some ⟨w.heap.size,1,none⟩),Value.slice pa a.states.length ca,Value.int IntKind.i64 a.states.length,Value.slice (some ⟨W0.heap.size,0,none⟩) a.states.length a.states.length,Value.int IntKind.i64 k,Value.int IntKind.i64 q,
     u18,u19,u20,u21,u22,u23,u24,u25,u26,u27,u28,u29,u30,u31,u32,u33,u34,u35,u36,u37,u38,u39,u40,u41,u42,u43,u44,u45,u46],defers:=mW Ds }/\q<=k/\cU w.heap.size Ds W/\Below w.heap.size w W/\w1.heap.size<W.heap.size ∧
    W.heap[w.heap.size]?=some (.cells #[.int .i64 a.n,.slice pa a.states.length ca] 27)/\W.heap[w.heap.size+1]?=some (.cells #[.int .i64 L] 3) ∧
    W.heap[w1.heap.size]?=some (.cells #[.slice (some ⟨cb,0,none⟩) a.states.length a.states.length] 38)/\w.heap.size<=cb/\W.heap[cb]?=some (.cells (bG (dZ L a q)) 3))
  (fun act _=>k - (intOf (act.tmps.getD 17 undef)).toNat) ?start ?round
 case start=>
  refine⟨0,[],W0.heap.size,_,_,_,_,_,_,_,_,_,_,_,_,_,_,_,_,_,_,_,_,_,_,_,_,_,_,_,_,_,_,_,_,rfl,by omega,cU.nil _ _,jj.alloc jj.size _,by simp,az _ eN,az _ rW,aq _ _,by omega,az _ ?_⟩;rw[cA]
  have:xC a.states.length 1 a.states.length=bG (dZ L a 0):=by
   unfold xC;rw[qf];congr 1;apply List.ext_getElem (by simp[dZ]);intro i _ _;simp[dZ]
  rw[this]
 case round=>
  rintro act W ⟨q,Ds,cb,u8,u9,u10,u18,u19,u20,u21,u22,u23,u24,u25,u26,u27,u28,u29,u30,u31,u32,u33,u34,u35,u36,u37,u38,u39,u40,u41,u42,u43,u44,u45,u46,rfl,hq,gc,dD,hsW,hA,hR,hC,Uh,hrw⟩;have sX:=aa gc;have Fu:=aa hrw;clear gc hrw cA bK gq gU eN rW;by_cases aD:q<k
  ·have hmake:=jp (fun _=>0) a.states.length h2;have kN:(q:Int)<k:=by omega
   have t7:=ab hC 0;have tA:=ab hA;simp at t7;have hlA:=aC hA;have HC:=aa hC;have HA:=aa hA;have HR:=aa hR;clear hC hA hR
   go_wp2_with fail
   refine(xP _ _ _ _ _).mono ?_;rintro e w2 ⟨rfl,rfl⟩;clear t7 tA hmake
   go_wp2_with fail
   have hlt0:=sX.o.lt
   refine bF (fun W1=>Below w.heap.size w W1/\W.heap.size<W1.heap.size/\W1.heap[w.heap.size+1]?=some (.cells #[.int .i64 L] 3)/\W1.heap[w.heap.size]?=some (.cells #[.int .i64 a.n,.slice pa a.states.length ca] 27)/\W1.heap[w1.heap.size]?=some (.cells #[.slice (some ⟨cb,0,none⟩) a.states.length a.states.length] 38)/\W1.heap[cb]?=some (.cells (bG (dZ L a q)) 3) ∧
     W1.heap[W.heap.size]?=some (.cells (bG (jn L (dZ L a q) a.states 0)) 3)/\W1.heap[W.heap.size+1]?=some (.cells #[.slice (some ⟨W.heap.size,0,none⟩) a.states.length a.states.length] 38)/\W1.heap[W.heap.size+1+1]?=some (.cells #[.int .i64 a.n,.slice pa a.states.length ca] 27)/\cU w.heap.size Ds W1)
    ⟨((dD.alloc dD.size _).alloc (by simp only[World.size_alloc];omega) _).alloc (by simp only[World.size_alloc];omega) _,by simp only[World.size_alloc];omega,az _ (az _ (az _ HR.o)),az _ (az _ (az _ HA.o)),az _ (az _ (az _ HC.o)),az _ (az _ (az _ Fu.o)),az _ (az _ ?_),az _ (bz _ _ _),eA _ _ _ _,sX.o.up (by go_grown)⟩ (fun W1 cO=>?_)
   ·rw[aq,L9]
    have:fC a.states.length (fun _=>0) 0=bG (List.replicate a.states.length 0):=by
     apply Array.ext (by simp[fC,bG]);intro i _ _;simp[fC,bG]
    rw[this]
   obtain⟨g1,g2,g3,g4,g5,g6,g7,g8,g9,g10⟩:=cO;have dj:=vY w _ a.states G.o W1 g1 (W.heap.size+1+1) (by simp[ab g9]);have HZ1:=aa g2;have hcbB:=aC g6
   refine mI (gf:=221) (lb:=#[.pointer (some ⟨W.heap.size+1+1,0,none⟩)]) rfl (enters_of Tryz.func221 (by kernel_rfl) rfl) dj (Below.refl _ _) (fun k hk=>Nat.lt_of_lt_of_le hk g1.size) (fun i=>rfl)
    (fun i V=>Below w.heap.size w V/\V.heap[w.heap.size+1]?=some (.cells #[.int .i64 L] 3)/\V.heap[w.heap.size]?=some (.cells #[.int .i64 a.n,.slice pa a.states.length ca] 27)/\V.heap[w1.heap.size]?=some (.cells #[.slice (some ⟨cb,0,none⟩) a.states.length a.states.length] 38)/\V.heap[cb]?=some (.cells (bG (dZ L a q)) 3) ∧
     V.heap[W.heap.size]?=some (.cells (bG (jn L (dZ L a q) a.states i)) 3)/\V.heap[W.heap.size+1]?=some (.cells #[.slice (some ⟨W.heap.size,0,none⟩) a.states.length a.states.length] 38)/\cU w.heap.size Ds V)
    (fun _ _ _=>False)
    (fun i=>(cK.below g1.size).and (cK.cells.and (cK.cells.and (cK.cells.and (cK.cells.and (cK.cells.and (cK.cells.and (cK.marks g10.lt)))))))) (fun c i=>cK.pure) ⟨g1,g3,g4,g5,g6,g7,g8,g10⟩ ?round2 ?done ?stop
   case stop=>rintro D c i V hD hi h;exact h.elim
   case done=>
    intro D V hD hI hK;obtain⟨f1,f2,f3,f4,f5,f6,f7,f8⟩:=hI;rw[Ok]at f6;have t8:=ab f7 0;have t7:=ab f4 0;have z7:=aG f4 0;simp at t8 t7;have HF:=aa (And.intro f1 (And.intro f2 (And.intro f3 (And.intro f4 (And.intro f5 (And.intro f6 (And.intro f7 (And.intro f8 hK))))))));have lU:∀ E∈Ds,E<D:=fun E hE=>Nat.lt_of_lt_of_le (g10.lt E hE) hD
    clear f1 f2 f3 f4 f5 f6 f7 f8 hK dj g3 g4 g5 g6 g7 g8 g9
    go_wp2_with fail
    refine⟨⟨q+1,D :: Ds,W.heap.size,_,_,_,_,_,_,_,_,_,_,_,_,_,_,_,_,_,_,_,_,_,_,_,_,_,_,_,_,_,_,_,_,rfl,by omega,?_,HF.o.1.setCell (by dsimp only;omega) _,?_,?_,?_,?_,by omega,?_⟩,?_⟩
    ·refine cU.cons (HF.o.2.2.2.2.2.2.2.1.keep fun k o hk ho=>?_) (by omega) ?_ lU
     ·exact(KeepsOthers.setCell _ _ _).same k o hk ho
     ·rw[Below.heap_setCell _ _ _ _ (by dsimp only;omega)];exact HF.o.2.2.2.2.2.2.2.2
    ·simp only[World.size_setCell];exact aC HF.o.2.2.2.1
    ·rw[Below.heap_setCell _ _ _ _ (by dsimp only;omega)];exact HF.o.2.2.1
    ·rw[Below.heap_setCell _ _ _ _ (by dsimp only;omega)];exact HF.o.2.1
    ·rw[aH HF.o.2.2.2.1];rfl
    ·rw[Below.heap_setCell _ _ _ _ (by dsimp only;omega)];exact HF.o.2.2.2.2.2.1
    ·simp[intOf];omega
   case round2=>
    intro yl i V hi hl hI;unfold Hs;obtain⟨s,j,hs,hj,rfl⟩:=KG a.states i hi;have Ji:=aa (L' L (dZ L a q) a.states (cnt a.states s+j) hi);rw[zm a.states s j hs hj]at Ji ⊢;have pg:=lg mT.o hs hj;generalize a.states[s][j]=m at pg Ji;dsimp only;have HI:=aa hI;clear hI;have hszV:=HI.o.1.size;clear dj g3 g4 g5 g6 g7 g8 g9
    gi_wp2
    refine⟨Bod.of_below (fun k hk=>Nat.lt_of_lt_of_le hk hszV) (by go_grown),(fun X=>(Below w.heap.size w X/\X.heap[w.heap.size+1]?=some (.cells #[.int .i64 L] 3)/\X.heap[w.heap.size]?=some (.cells #[.int .i64 a.n,.slice pa a.states.length ca] 27)/\X.heap[w1.heap.size]?=some (.cells #[.slice (some ⟨cb,0,none⟩) a.states.length a.states.length] 38)/\X.heap[cb]?=some (.cells (bG (dZ L a q)) 3) ∧
     X.heap[W.heap.size]?=some (.cells (bG (jn L (dZ L a q) a.states (cnt a.states s+j))) 3)/\X.heap[W.heap.size+1]?=some (.cells #[.slice (some ⟨W.heap.size,0,none⟩) a.states.length a.states.length] 38)/\cU w.heap.size Ds X)/\X.heap[V.heap.size]?=some (.cells #[.int .i64 m.r.g.n,.int .i64 m.r.g.h0,.int .i64 m.r.g.h1,.int .i64 m.r.g.h2,.int .i64 m.r.g.h3,.int .i64 m.r.g.h4,.int .i64 m.r.f,.int .i64 m.to] 143)),
     ((cK.below g1.size).and (cK.cells.and (cK.cells.and (cK.cells.and (cK.cells.and (cK.cells.and (cK.cells.and (cK.marks g10.lt)))))))).and cK.cells,⟨⟨HI.o.1.alloc hszV _,az _ HI.o.2.1,az _ HI.o.2.2.1,az _ HI.o.2.2.2.1,az _ HI.o.2.2.2.2.1,az _ HI.o.2.2.2.2.2.1,az _ HI.o.2.2.2.2.2.2.1,HI.o.2.2.2.2.2.2.2.up (by go_grown)⟩,aq _ _⟩,fun V2 hV2 _=>?_⟩
    obtain⟨⟨x1,x2,x3,x4,x5,x6,x7,x8⟩,x9⟩:=hV2;have xE:=EF L a q;have hfn:=Oi L (dZ L a q) a.states (cnt a.states s+j);have hok1:=uL hL (AZ hL a q) m.to.toNat;have hok2:=uL hL (Ra hL (AZ hL a q) a.states (cnt a.states s+j)) s;have t5:=ab x2 0;have t7:=ab x4 0;have t8:=ab x7 0;have tM:=ab x9;have tc:=ab x5 m.to.toNat;have tr:=ab x6 s;have zr:=aG x6 s;simp at t5 t7 t8;rw[EZ _ _ (by omega)]at tc tr;have HX:=aa (And.intro x1 (And.intro x2 (And.intro x3 (And.intro x4 (And.intro x5 (And.intro x6 (And.intro x7 (And.intro x8 x9))))))));clear x1 x2 x3 x4 x5 x6 x7 x8 x9;have ol:jn L (dZ L a q) a.states (cnt a.states s+j+1)=(jn L (dZ L a q) a.states (cnt a.states s+j)).set s (min ((jn L (dZ L a q) a.states (cnt a.states s+j)).getD s 0+(dZ L a q).getD m.to.toNat 0) (L+1)):=Ji.o;have Td:=aa ol;clear ol Ji;generalize (dZ L a q).getD m.to.toNat 0=nx at hok1 tc Td;generalize (jn L (dZ L a q) a.states (cnt a.states s+j)).getD s 0=ns at hok2 tr Td;have vM:0<=m.to:=pg.2.1;have Ye:m.to<a.states.length:=pg.2.2;have jx:IntKind.i64.wrap (ns+nx)=ns+nx:=IntWalk.i64_in _ (by omega);have vJ:IntKind.i64.wrap (L+1)=L+1:=IntWalk.i64_in _ (by omega)
    gi_wp2
    refine lf 15 (fun ⟨_,_,h⟩=>h) (by kernel_rfl) (by kernel_rfl) (by kernel_rfl) (fun ops Lq hops hLq=>?_);simp only[List.take_succ_cons,List.take_zero,List.drop_succ_cons,List.drop_zero]at hLq ⊢;have CR:=aa hLq;clear hLq;have Sv:=aa hops;clear hops
    repeat still_step
    refine wpStill_nil ?_;refine CR.o _ ?_
    go_wp2_with fail
    all_goals
     obtain⟨x1,x2,x3,x4,x5,x6,x7,x8,x9⟩:=HX.o;have z1:=HZ1.o;have z2:=aC Fu.o;refine⟨⟨by simp,fun k hk=>(Below.heap_setCell V2 _ _ _ (by dsimp only;omega)),fun k o _ hk ho=>(KeepsOthers.setCell V2 _ _).same k o hk ho⟩,(x1.setCell (by dsimp only;omega) _).drew,?_,?_,?_,?_,?_,?_,?_⟩
     ·exact(Below.heap_setCell V2 _ _ _ (by dsimp only;omega)).trans x2
     ·exact(Below.heap_setCell V2 _ _ _ (by dsimp only;omega)).trans x3
     ·exact(Below.heap_setCell V2 _ _ _ (by dsimp only;omega)).trans x4
     ·exact(Below.heap_setCell V2 _ _ _ (by dsimp only;omega)).trans x5
     ·refine(aH x6 s _).trans ?_;rw[Td.o,<-OG]
      all_goals first
       | rw[Int.min_eq_right (by omega)]
       | rw[Int.min_eq_left (by omega)]
     ·exact(Below.heap_setCell V2 _ _ _ (by dsimp only;omega)).trans x7
     ·exact x8.keep fun k o hk ho=>(KeepsOthers.setCell V2 _ _).same k o hk ho
  ·obtain rfl:q=k:=by omega
   have t7:=ab hC 0;simp at t7;have c0:=ab Fu.o 0
   have qO:(bG (dZ L a q))[0]?=some (.int .i64 (numberL L a q)):=by
    have hl:=EF L a q;unfold numberL bG;rw[List.getElem?_toArray,List.getElem?_map,List.getElem?_eq_getElem (by omega)];simp[List.getD_eq_getElem?_getD,List.getElem?_eq_getElem (show 0<(dZ L a q).length by omega)]
   rw[qO]at c0;have uf:0<a.states.length:=by omega
   go_wp2_with fail
   refine rf sX.o (v:=.int .i64 (numberL L a q)) ?_ ⟨rfl,mA (fun D hD=>(sX.o.2 D hD).1) (Nat.le_refl _) dD⟩;simp[results,Tryz.results212,go_sem]
end Go.Proofs.YtmeaoneaephjeaaGreatDoor
namespace Go.Proofs.YtmeaoneaephjeaaGreatDoor
open Go.RowKit Go Go.Shelf
theorem pK{α:Type} (c:α->Array Value) (k:Nat) (hc:∀ x,(c x).size=k) (xs:List α) (i j:Nat) (hi:i<xs.length) (hj:j<k):(xs.flatMap fun x=>(c x).toList)[i * k+j]?=(c xs[i])[j]?:=by
 induction xs generalizing i with
 | nil=>simp at hi
 | cons x r ih=>
  rw[List.flatMap_cons];have hx:(c x).toList.length=k:=by rw[Array.length_toList,hc]
  cases i with
  | zero=>
   rw[List.getElem?_append_left (by omega)];simp
  | succ i=>
   rw[List.getElem?_append_right (by rw[hx,Nat.succ_mul];omega)];have:=ih i (by simpa using hi);simp only[List.getElem_cons_succ];rw[<-this,hx];congr 1;rw[Nat.succ_mul];omega
def da(xs:List Rd):List Value:=xs.flatMap fun r=>r.c.toList
theorem xS(xs:List Rd):(da xs).length=xs.length * 7:=by
 unfold da;induction xs with
 | nil=>rfl
 | cons x r ih=>rw[List.flatMap_cons,List.length_append,ih];simp;omega
theorem sF(xs:List Rd):∀ u∈da xs,u.oneCell'=true:=by
 intro u hu;unfold da at hu;rw[List.mem_flatMap]at hu;obtain⟨r,_,hr⟩:=hu;simp at hr;rcases hr with rfl|rfl|rfl|rfl|rfl|rfl|rfl<;>rfl
theorem OH{w:World} {v:Value} {l:List Rd} (h:ky w v l) (j:Nat) (u:Value) (hu:(da l)[j]?=some u):∃ b o c,v=.slice (some ⟨b,o,none⟩) l.length c/\w.cell? ⟨b,o+j,none⟩=some u:=by
 have hj:=(List.getElem?_eq_some_iff.1 hu).1;rw[xS]at hj;obtain⟨i,s,hs,rfl⟩:∃ i s,s<7/\j=i * 7+s:=⟨j / 7,j % 7,by omega,by omega⟩;have hi:i<l.length:=by omega
 unfold da at hu;rw[pK Rd.c 7 (fun _=>rfl) l i s hi hs]at hu;obtain⟨a,cap,rfl,_,_,e⟩:=h.at;obtain⟨b,o,rfl,⟨c0,_⟩,⟨c1,_⟩,⟨c2,_⟩,⟨c3,_⟩,⟨c4,_⟩,⟨c5,_⟩,⟨c6,_⟩⟩:=e i hi;refine⟨b,o,cap,rfl,?_⟩;rw[<-Nat.add_assoc];rcases (show s=0\/s=1\/s=2\/s=3\/s=4\/s=5\/s=6 by omega) with rfl|rfl|rfl|rfl|rfl|rfl|rfl<;>(simp at hu;subst hu;first|exact c0|exact c1|exact c2|exact c3|exact c4|exact c5|exact c6)
theorem rF{w:World} {base:Nat} {v:Value} {l:List Rd} (h:aI w base 141 7 v l.length (da l)) (hx:∀ i (hi:i<l.length),bT l[i].g.n/\bT l[i].g.h0/\bT l[i].g.h1/\bT l[i].g.h2/\bT l[i].g.h3/\bT l[i].g.h4/\bT l[i].f) (hn:l.length<=17592186044416):ky w v l:=by
 have aS:=fun i (hi:i<l.length) j (u:Value) (hj:j<7) (hu:l[i].c[j]?=some u)=>h.cell (i * 7+j) u (by unfold da;rw[pK Rd.c 7 (fun _=>rfl) l i j hi hj];exact hu)
 rcases h.2 with ⟨rfl,hz⟩|⟨g,cap,cur,fz,rfl,_,hg,_,jI,ja,_,_⟩
 ·refine⟨none,0,by rw[hz],⟨by omega,by omega,fun _=>rfl⟩,hn,fun i x hi=>?_⟩;have:=(List.getElem?_eq_some_iff.1 hi).1;omega
 ·refine⟨some ⟨g,0,none⟩,cap,rfl,⟨jI,by simp only[maxLen]at ja;omega,fun e=>by cases e⟩,hn,fun i x hi=>⟨g,0,rfl,?_⟩⟩;obtain⟨gQ,rfl⟩:=List.getElem?_eq_some_iff.1 hi;obtain⟨r0,r1,r2,r3,r4,r5,r6⟩:=hx i gQ
  have key:∀ j u,j<7->l[i].c[j]?=some u->w.cell? ⟨g,0+i * 7+j,none⟩=some u:=fun j u hj hu=>by
   obtain⟨g',c',e1,e2⟩:=aS i gQ j u hj hu;have:g=g':=by simp at e1;exact e1.1
   rw[this,Nat.zero_add];exact e2
  exact⟨⟨key 0 _ (by omega) rfl,r0⟩,⟨key 1 _ (by omega) rfl,r1⟩,⟨key 2 _ (by omega) rfl,r2⟩,⟨key 3 _ (by omega) rfl,r3⟩,⟨key 4 _ (by omega) rfl,r4⟩,⟨key 5 _ (by omega) rfl,r5⟩,⟨key 6 _ (by omega) rfl,r6⟩⟩
theorem Tryz.infoRound:(Tryz.prog.info? 141).map (fun i=>(i.zero,i.size,i.bytes))=some (some (.agg #[.int .i64 0,.int .i64 0,.int .i64 0,.int .i64 0,.int .i64 0,.int .i64 0,.int .i64 0]),7,56):=by kernel_rfl
theorem km{k l:IntKind} {a b c d:Int} (h1:a=b) (h2:c=d):Ending.returned (.tuple #[.int k a,.int l c])=.returned (.tuple #[.int k b,.int l d]):=by rw[h1,h2]
abbrev nN(p:Pb) (vc vs:Value):Value:=.agg #[.int .i64 p.t.n,.int .i64 p.t.ins,.int .i64 p.t.outs,vc,.int .i64 p.a.n,vs,.int .i64 p.rounds]
theorem Gu(p:Pb) (vc vs:Value) (w:World) (hc:bN w vc p.t.cases) (hs:bA w vs p.a.states) (hN:movesN p.a.states<1099511627776) :
  Calls Tryz.prog 190 #[nN p vc vs] w fun e w'=>e=.returned (.int .i64 (probE p))/\Below w.heap.size w w':=by
 have GC:=aa hc;have GS:=aa hs;obtain⟨pc,cc,rfl,_⟩:=hc.at;obtain⟨ps,cs,rfl,_⟩:=hs.at;clear hc hs;have HV:am (probE p=if taskE p.t≠0 then taskE p.t else if advE p.a≠0 then advE p.a else if p.t.n≠p.a.n then 22 else if p.rounds<0\/6<p.rounds then 2 else 0):=by exact rfl
 go_enter Tryz.func190,Tryz.ntmps190
 go_wp2_with fail
 refine aQ (fun W=>Below w.heap.size w W/\W.heap[w.heap.size]?=some (.cells #[.int .i64 p.t.n,.int .i64 p.t.ins,.int .i64 p.t.outs,.slice pc p.t.cases.length cc,.int .i64 p.a.n,.slice ps p.a.states.length cs,.int .i64 p.rounds] 29)) ⟨by go_grown,aq _ _⟩ (fun W0 bh=>?_);obtain⟨aJ,bK⟩:=bh;refine(qK p.t _ W0 (GC.o.up up_case aJ)).mono ?_;rintro e w1 ⟨rfl,aM⟩;have gl:=ae aJ aM;have eN:=af aM bK;have t1:=ab eN;generalize taskE p.t=et at HV;have dN:=aa eN;clear eN bK;by_cases oF:et=0
 case neg=>
  have NU:(et != 0)=true:=by simpa using oF
  go_wp2_with fail
  go_ret
  exact⟨aF (by rw[HV.o,if_pos oF]),gl⟩
 subst oF
 go_wp2_with fail
 refine(xR p.a _ w1 (GS.o.up up_moves gl) hN).mono ?_;rintro e w2 ⟨rfl,aY⟩;have ku:=ae gl aY;have t2:=ab (af aY dN.o);clear t1;generalize advE p.a=ea at HV;by_cases xd:ea=0
 case neg=>
  have hea':(ea != 0)=true:=by simpa using xd
  go_wp2_with fail
  go_ret
  exact⟨aF (by rw[HV.o,if_neg (by simp),if_pos xd]),ku⟩
 subst xd
 go_wp2_with fail
 all_goals
  go_ret
  refine⟨aF ?_,ku⟩;rw[HV.o]
  go_light
  grind
theorem GF(P:Program) (t:TypeId) (w:World):(Instr.makeMap t none).run P w=.ok (.map (some w.heap.size)) (w.alloc (.map #[] 0)):=rfl
def hC(f:Nat->Int) (q:Nat):Array Value:=((List.range 5).map fun j=>Value.int .i64 (if j<q then f j else 0)).toArray
theorem DK(f:Nat->Int) (q:Nat):(hC f q).size=5:=by simp[hC]
theorem Hu(f:Nat->Int) (q j:Nat) (hj:j<5):(hC f q)[j]?=some (.int .i64 (if j<q then f j else 0)):=by simp[hC,hj]
theorem VQ(f:Nat->Int) (q:Nat) (hq:q<5):(hC f q).setIfInBounds q (.int .i64 (f q))=hC f (q+1):=by
 apply Array.ext_getElem?;intro j;rw[Array.getElem?_setIfInBounds];by_cases hj:j<5
 ·rw[Hu _ _ _ hj,Hu _ _ _ hj];by_cases e:q=j
  ·subst e;rw[if_pos rfl,if_pos (by rw[DK];exact hj),if_pos (by omega)]
  ·rw[if_neg e];by_cases h:j<q
   ·rw[if_pos h,if_pos (by omega)]
   ·rw[if_neg h,if_neg (by omega)]
 ·have h1:(hC f q)[j]?=none:=by rw[Array.getElem?_eq_none];rw[DK];omega
  have h2:(hC f (q+1))[j]?=none:=by rw[Array.getElem?_eq_none];rw[DK];omega
  rw[h1,h2,if_neg (by omega)]
theorem DL(f:Nat->Int):hC f 0=#[.int .i64 0,.int .i64 0,.int .i64 0,.int .i64 0,.int .i64 0]:=rfl
theorem UZ(f:Nat->Int):hC f 5=#[.int .i64 (f 0),.int .i64 (f 1),.int .i64 (f 2),.int .i64 (f 3),.int .i64 (f 4)]:=rfl
theorem Kj(tmps:Array Value) (f:Func) (s:Nat) (hf:f.results=#[.cell s 137]) (B:Nat) (W:World) (x0 x1 x2 x3 x4:Int) (ty:TypeId) (h1:tmps[s]?.getD undef=.pointer (some ⟨B,0,none⟩)) (hb:W.heap[B]?=some (.cells #[.int .i64 x0,.int .i64 x1,.int .i64 x2,.int .i64 x3,.int .i64 x4] ty)) :
  (results f tmps).run Tryz.prog W=.ok (.agg #[.int .i64 x0,.int .i64 x1,.int .i64 x2,.int .i64 x3,.int .i64 x4]) W:=by
 have t1:=ab hb;simp[results,hf,go_sem,h1,t1]
def countedR(L:Int) (a:Adv) (r:Int):Int × Int:=
 if advE a≠0 then(0,advE a) else if r<0\/6<r then(0,2) else if L<numberL L a r.toNat then(0,17) else(numberL L a r.toNat,0)
theorem zZ(a:Adv) (v:Value) (r L:Int) (w:World) (hv:bA w v a.states) (hN:movesN a.states<1099511627776) (hL:0<=L) (hL2:L<=1048576) :
  Calls Tryz.prog 192 #[.agg #[.int .i64 a.n,v],.int .i64 r,.int .i64 L] w fun e w'=>e=.returned (.tuple #[.int .i64 (countedR L a r).1,.int .i64 (countedR L a r).2])/\Below w.heap.size w w':=by
 have G:=aa hv;obtain⟨pa,ca,rfl,_⟩:=hv.at;clear hv
 go_enter Tryz.func192,Tryz.ntmps192
 go_wp2_with fail
 refine aQ (fun W=>Below w.heap.size w W/\W.heap[w.heap.size]?=some (.cells #[.int .i64 a.n,.slice pa a.states.length ca] 27)) ⟨by go_grown,aq _ _⟩ (fun W0 bh=>?_);obtain⟨aJ,bK⟩:=bh;refine(xR a _ W0 (G.o.up up_moves aJ) hN).mono ?_;rintro e w1 ⟨rfl,aM⟩;have jj:=ae aJ aM;have eN:=af aM bK;have t1:=ab eN;have HE:=aa (show advE a=0->_ from fun h=>hZ h);have HV:am (countedR L a r=if advE a≠0 then(0,advE a) else if r<0\/6<r then(0,2) else if L<numberL L a r.toNat then(0,17) else(numberL L a r.toNat,0)):=by exact rfl
 generalize advE a=ea at HE HV;have dN:=aa eN;clear eN bK;by_cases xd:ea=0
 case neg=>
  have hea':(ea != 0)=true:=by simpa using xd
  have df:am (countedR L a r=(0,ea)):=by(have h:countedR L a r=(0,ea):=by rw[HV.o,if_pos xd]);exact h
  clear HV xd
  go_wp2_with fail
  go_ret2
  refine⟨km ?_ ?_,jj⟩<;>rw[df.o]
 subst xd;by_cases hr:r<0\/6<r
 ·have df:am (countedR L a r=(0,2)):=by(have h:countedR L a r=(0,2):=by rw[HV.o,if_neg (by simp),if_pos hr]);exact h
  clear HV;rcases hr with hr|hr
  ·go_wp2_with fail
   go_ret2
   refine⟨km ?_ ?_,jj⟩<;>rw[df.o]
  ·go_wp2_with fail
   go_ret2
   refine⟨km ?_ ?_,jj⟩<;>rw[df.o]
 obtain⟨k,rfl⟩:∃ k:Nat,r=(k:Int):=⟨r.toNat,by omega⟩;have hk:k<=6:=by omega
 rw[Int.toNat_natCast,if_neg (by simp),if_neg hr]at HV;have LX:¬ ((k:Int)<0):=by omega
 have LQ:¬ (6<(k:Int)):=by omega
 clear hr
 go_wp2_with fail
 refine(Gt a _ k L w1 (G.o.up up_moves jj) (HE.o trivial).1.1 (HE.o trivial).1.2 (HE.o trivial).2.1 hk hL hL2).mono ?_;rintro e w2 ⟨rfl,aY⟩;have rN:=ae jj aY;generalize numberL L a k=x at HV;by_cases hx:L<x
 ·have df:am (countedR L a k=(0,17)):=by(have h:countedR L a k=(0,17):=by rw[HV.o,if_pos hx]);exact h
  clear HV t1
  go_wp2_with fail
  go_ret2
  refine⟨km ?_ ?_,rN⟩<;>rw[df.o]
 ·have df:am (countedR L a k=(x,0)):=by(have h:countedR L a k=(x,0):=by rw[HV.o,if_neg hx]);exact h
  clear HV t1
  go_wp2_with fail
  go_ret2
  refine⟨km ?_ ?_,rN⟩<;>rw[df.o]
theorem Hv(a:Adv) (v:Value) (r:Int) (w:World) (hv:bA w v a.states) (hN:movesN a.states<1099511627776) :
  Calls Tryz.prog 191 #[.agg #[.int .i64 a.n,v],.int .i64 r] w fun e w'=>e=.returned (.tuple #[.int .i64 (countedR 1048576 a r).1,.int .i64 (countedR 1048576 a r).2])/\Below w.heap.size w w':=by
 have G:=aa hv;obtain⟨pa,ca,rfl,_⟩:=hv.at;clear hv
 go_enter Tryz.func191,Tryz.ntmps191
 go_wp2_with fail
 refine aQ (fun W=>Below w.heap.size w W) (by go_grown) (fun W0 aJ=>?_);refine(zZ a _ r 1048576 W0 (G.o.up up_moves aJ) hN (by omega) (by omega)).mono ?_;rintro e w1 ⟨rfl,aM⟩
 go_wp2_with fail
 go_ret2
 exact⟨rfl,ae aJ aM⟩
theorem E0(a b:List Rd):da (a++b)=da a++da b:=by simp[da]
theorem uP(v:Value) (l:List Int) (w:World) (hv:aX w v l) (hn:l.length<=1099511627776) :
  Calls Tryz.prog 195 #[v] w fun e w'=>∃ u,e=.returned u/\aI w' w.heap.size 3 1 u l.length (l.map (Value.int .i64))/\Below w.heap.size w w':=by
 refine(xN v _ w (zU hv) (by simpa using hn)).mono ?_;rintro e w' ⟨u,rfl,ho,hb⟩;exact⟨u,rfl,aI.of_owns (by simpa using ho),hb⟩
theorem uQ(v:Value) (l:List Rd) (w:World) (hv:ky w v l) (hn:l.length<=1048576) :
  Calls Tryz.prog 165 #[v] w fun e w'=>∃ u,e=.returned u/\aI w' w.heap.size 141 7 u l.length (da l)/\Below w.heap.size w w':=by
 obtain⟨i0,hi,cC,bY,cD⟩:=info_parts Tryz.infoRound;have HW:=aa (OH hv);have jX:=fun w=>Lib.run_eql_slice_nil (P:=Tryz.prog) w 87
 obtain⟨a,cap,rfl,⟨_,_,jZ⟩,_,_⟩:=hv;cases a with
 | none=>
  have hl:l.length=0:=by have:=jZ rfl;omega
  obtain rfl:l=[]:=List.eq_nil_of_length_eq_zero hl;obtain rfl:=jZ rfl
  go_enter Tryz.func165,Tryz.ntmps165
  go_wp2_with fail
  go_ret
  exact⟨_,rfl,aI.nil _ _ _ _,Below.refl _ _⟩
 | some ad=>
  have bS:∀ j u,(da l)[j]?=some u->(w.alloc (.cells #[] 141)).cell? (ad.add j)=some u:=fun j u hj=>by
   obtain⟨b,o,c,e,eK⟩:=HW.o j u hj;have:ad=⟨b,o,none⟩:=by simp at e;exact e.1
   subst this;have:(Addr.add ⟨b,o,none⟩ j)=⟨b,o+j,none⟩:=by unfold Addr.add;split<;>simp_all
   rw[this];exact ak (by go_grown) eK
  have bg:aI (w.alloc (.cells #[] 141)) w.heap.size 141 7 (.slice (some ⟨w.heap.size,0,none⟩) 0 0) 0 []:=⟨by simp,.inr ⟨w.heap.size,0,#[],(0,0),rfl,Nat.le_refl _,aq _ _,fun i hi=>by simp at hi,by omega,by simp[maxLen],by simp,by simp⟩⟩;have bE:=aa bS;have bO:=aa bg;clear bS bg jZ
  go_enter Tryz.func165,Tryz.ntmps165
  go_wp2_with (at_builtin;(refine aZ _ rfl (.tmp 5) (.tmp 6) 87 rfl w.heap.size 141 i0 _ 7 56 Tryz.underlying87 hi cC bY cD rfl (by decide) _ 0 [] rfl bO.o ad l.length cap (da l) rfl (xS l) bE.o (sF l) (by unfold maxLen;omega) (by omega) (by simp) ?_;intro v' w1 gM lA _;obtain⟨av',cv',rfl⟩:=gM.slice))
  go_ret
  rw[Nat.zero_add,List.nil_append]at gM;refine⟨_,rfl,by simpa using gM,Below.grown (w:=w.alloc (.cells #[] 141)) (by go_grown) lA (by simp) (fun k hk=>?_)⟩;cases hk;exact Nat.le_refl _
theorem Gv{P:Program} (w:World) (base:Nat) (t ty e:TypeId) (i:TypeInfo) (size:Nat) (ht:P.underlying t=some (.slice e)) (hi:P.info? e=some i)
  (fd:i.size=size) (g cap n:Nat) (xs:List Value) (bg:aI w base e size (.slice (some ⟨g,0,none⟩) n cap) n xs)
  (a:Addr) (m c:Nat) (news:List Value) (hl:news.length=m * size) (bS:∀ j u,news[j]?=some u->w.cell? (a.add j)=some u) (h1:∀ u∈news,u.oneCell'=true) (mG:n+m<=cap) :
  ∃ w',(Builtin.append_ #[t,t] ty #[.slice (some ⟨g,0,none⟩) n cap,.slice (some a) m c]).run P w=.ok (.slice (some ⟨g,0,none⟩) (n+m) cap) w'/\aI w' base e size (.slice (some ⟨g,0,none⟩) (n+m) cap) (n+m) (xs++news)/\w.grownBy w' (some g)/\w'.heap.size=w.heap.size:=by
 obtain⟨iF,h⟩:=bg;rcases h with ⟨h,_⟩|⟨g',cap',cur,fz,h,Db,hg,nh,iI,qn,jK,Nw⟩
 ·cases h
 cases h
 subst fd;have J1:n * i.size+news.length<=cur.size:=by rw[hl,jK,<-Nat.add_mul];exact Nat.mul_le_mul_right _ mG
 have hr:=run_append_room_cells (P:=P) w t ty e i ht hi g 0 n cap a m c news hl bS h1 mG (fun j hj=>by rw[Nat.zero_add,ab hg];simp;omega)
  (fun j hj=>by
   simp only[World.frozen?,hg,Nat.zero_add];have:=nh (n * i.size+j) (by omega)
   simpa using this)
 rw[Nat.zero_add]at hr;obtain⟨cur',g1,g2,g3⟩:=mB g e fz news (n * i.size) w cur hg J1;obtain⟨o1,o2,o3,o4,o5⟩:=lL g news (n * i.size) w;refine⟨_,hr,⟨by rw[List.length_append,iF,hl,Nat.add_mul],.inr ⟨g,cap,cur',fz,rfl,Db,g1,fun k hk=>nh k (by omega),mG,qn,by omega,?_⟩⟩,⟨o2,o3,o4,by omega,fun k _ hk=>o1 k (fun e=>hk (by rw[e]))⟩,o5⟩;rw[Nat.add_mul,<-hl,g3,Nw]
theorem A3{P:Program} {ops:Array Oper} {rest:List Oper} {o:Oper} {a:Act} {w:World} {Q:Exit->Act->World->Prop} (lD:o.guard=none) (s x:Operand) (t:TypeId)
  (ho:o.op=.call { callee:=.builtin .append,args:=#[s,x],argTypes:=#[t,t] })
  (base:Nat) (e:TypeId) (i:TypeInfo) (size:Nat) (ht:P.underlying t=some (.slice e)) (hi:P.info? e=some i)
  (fd:i.size=size) (g cap n:Nat) (xs:List Value) (hs:a.eval s=.slice (some ⟨g,0,none⟩) n cap) (bg:aI w base e size (.slice (some ⟨g,0,none⟩) n cap) n xs)
  (ad:Addr) (m c:Nat) (news:List Value) (hx:a.eval x=.slice (some ad) m c) (hl:news.length=m * size) (bS:∀ j u,news[j]?=some u->w.cell? (ad.add j)=some u) (h1:∀ u∈news,u.oneCell'=true) (mG:n+m<=cap)
  (h:∀ w',aI w' base e size (.slice (some ⟨g,0,none⟩) (n+m) cap) (n+m) (xs++news)->w.grownBy w' (some g)->w'.heap.size=w.heap.size->wpList P ops Q rest (a.put o.dst (.slice (some ⟨g,0,none⟩) (n+m) cap)) w'):wpList P ops Q (o :: rest) a w:=by
 refine wpList_plain lD fun _ hK=>?_
 obtain⟨w',hr,h2,h3,h4⟩:=Gv (P:=P) w base t o.type e i size ht hi fd g cap n xs bg ad m c news hl bS h1 mG;unfold Oper.wp execOp;simp only[ho,resolve,invoke,builtin,Sem.run_bind,Sem.run_pure,Result.andThen_ok,List.map_toArray,List.map_cons,List.map_nil,hs,hx,hr];exact hK _ _ (h w' h2 h3 h4)
theorem aI.shrink{w:World} {base:Nat} {e:TypeId} {k:Nat} {g cap n m:Nat} {xs ys:List Value} (h:aI w base e k (.slice (some ⟨g,0,none⟩) (n+m) cap) (n+m) (xs++ys)) (hx:xs.length=n * k):aI w base e k (.slice (some ⟨g,0,none⟩) n cap) n xs:=by
 obtain⟨hl,h⟩:=h;rcases h with ⟨h,_⟩|⟨g',cap',cur,fz,h,Db,hg,nh,iI,qn,jK,ht⟩
 ·cases h
 cases h
 refine⟨hx,.inr ⟨g,cap,cur,fz,rfl,Db,hg,nh,by omega,qn,jK,?_⟩⟩;have h2:=congrArg (List.take (n * k)) ht;rw[List.take_take,List.take_append_of_le_length (by omega),List.take_of_length_le (by omega:xs.length<=n * k)]at h2;rw[<-h2];congr 1;have:=Nat.mul_le_mul_right k (Nat.le_add_right n m);omega
theorem OI(a b:Rd) (w:World):(binOp .neq 141 a.v b.v).run Tryz.prog w=.ok (.bool (!decide (a=b))) w:=by
 rw[run_neq_struct,DD 9996];rfl
theorem fm{α:Type} [DecidableEq α] {a b:List α} (d:α) (hl:a.length=b.length) (h:∀ j,j<a.length->a.getD j d=b.getD j d):a=b:=
 List.ext_getElem hl fun i h1 h2=>by
  have:=h i h1
  rwa [aA d h1,aA d h2]at this
theorem BX(va vb:Value) (a b:List Rd) (w:World) (ha:ky w va a) (hb:ky w vb b) :
  Calls Tryz.prog 167 #[va,vb] w fun e w'=>e=.returned (.bool (decide (a=b)))/\Below w.heap.size w w':=by
 obtain⟨pa,ca,rfl,la1,la2,ea⟩:=ha.at;obtain⟨pb,cb,rfl,lb1,lb2,eb⟩:=hb.at;clear ha hb;have EA:=aa ea;clear ea;have EB:=aa eb;clear eb;generalize oM:decide (a=b)=res;have jE:=aa oM;clear oM;by_cases hl:a.length=b.length
 case neg=>
  have ij:((a.length:Int) != (b.length:Int))=true:=by simp;omega
  have HR:am (res=false):=by(have h:res=false:=by(rw[<-jE.o];simp;intro h;exact hl (by rw[h])));exact h
  clear hl
  go_enter Tryz.func167,Tryz.ntmps167
  go_wp2
  go_ret
  exact⟨aR HR.o.symm,Below.refl _ _⟩
 have ij:((a.length:Int) != (b.length:Int))=false:=by simp[hl]
 have HL:=aa hl;clear hl
 go_enter Tryz.func167,Tryz.ntmps167
 go_wp2
 clear ij
 go_loopw [13] (fun i wr=>Below w.heap.size w wr/\∃ k:Nat,k<=a.length/\i=.int .i64 k/\∀ j,j<k->a.getD j default=b.getD j default) (fun i _=>a.length - (intOf i).toNat)
 ·exact⟨Below.refl _ _,0,by omega,rfl,by simp⟩
 ·
  obtain⟨aB,k,hk,rfl,aV⟩:=hrel;have H:=aa aV;clear aV;by_cases aD:k<a.length
  ·have iy:k<b.length:=by have:=HL.o;omega
   obtain⟨b1,o1,rfl,⟨c0,r0⟩,⟨c1,r1⟩,⟨c2,r2⟩,⟨c3,r3⟩,⟨c4,r4⟩,⟨c5,r5⟩,⟨c6,r6⟩⟩:=EA.o k aD;obtain⟨b2,o2,rfl,⟨e0,s0⟩,⟨e1,s1⟩,⟨e2,s2⟩,⟨e3,s3⟩,⟨e4,s4⟩,⟨e5,s5⟩,⟨e6,s6⟩⟩:=EB.o k iy;have c0':∀ y:ExtW wr,y.val.cell? ⟨b1,o1+k * 7,none⟩=_:=fun y=>y.cell (ak aB c0)
   have c1':∀ y:ExtW wr,y.val.cell? ⟨b1,o1+k * 7+1,none⟩=_:=fun y=>y.cell (ak aB c1)
   have c2':∀ y:ExtW wr,y.val.cell? ⟨b1,o1+k * 7+2,none⟩=_:=fun y=>y.cell (ak aB c2)
   have c3':∀ y:ExtW wr,y.val.cell? ⟨b1,o1+k * 7+3,none⟩=_:=fun y=>y.cell (ak aB c3)
   have c4':∀ y:ExtW wr,y.val.cell? ⟨b1,o1+k * 7+4,none⟩=_:=fun y=>y.cell (ak aB c4)
   have c5':∀ y:ExtW wr,y.val.cell? ⟨b1,o1+k * 7+5,none⟩=_:=fun y=>y.cell (ak aB c5)
   have c6':∀ y:ExtW wr,y.val.cell? ⟨b1,o1+k * 7+6,none⟩=_:=fun y=>y.cell (ak aB c6)
   have e0':∀ y:ExtW wr,y.val.cell? ⟨b2,o2+k * 7,none⟩=_:=fun y=>y.cell (ak aB e0)
   have e1':∀ y:ExtW wr,y.val.cell? ⟨b2,o2+k * 7+1,none⟩=_:=fun y=>y.cell (ak aB e1)
   have e2':∀ y:ExtW wr,y.val.cell? ⟨b2,o2+k * 7+2,none⟩=_:=fun y=>y.cell (ak aB e2)
   have e3':∀ y:ExtW wr,y.val.cell? ⟨b2,o2+k * 7+3,none⟩=_:=fun y=>y.cell (ak aB e3)
   have e4':∀ y:ExtW wr,y.val.cell? ⟨b2,o2+k * 7+4,none⟩=_:=fun y=>y.cell (ak aB e4)
   have e5':∀ y:ExtW wr,y.val.cell? ⟨b2,o2+k * 7+5,none⟩=_:=fun y=>y.cell (ak aB e5)
   have e6':∀ y:ExtW wr,y.val.cell? ⟨b2,o2+k * 7+6,none⟩=_:=fun y=>y.cell (ak aB e6)
   have HX:=aa (aA default aD);have HY:=aa (aA default iy);clear c0 r0 e0 s0 c1 r1 e1 s1 c2 r2 e2 s2 c3 r3 e3 s3 c4 r4 e4 s4 c5 r5 e5 s5 c6 r6 e6 s6;generalize a[k]=x at c0' c1' c2' c3' c4' c5' c6' HX;generalize b[k]=y at e0' e1' e2' e3' e4' e5' e6' HY;have bP:=fun w=>OI x y w
   go_wp2
   by_cases cG:x=y
   ·have hd:decide (x=y)=true:=by simpa using cG
    have oG:am (a.getD k default=b.getD k default):=by(have h:a.getD k default=b.getD k default:=by(rw[HX.o,HY.o,cG]));exact h
    rw[hd]at bP;clear cG hd;refine aE (by kernel_rfl) (by kernel_rfl) ?_
    repeat (go_big_quiet_step (fail))
    refine wpQuiet_nil ?_;intro _ eD;obtain⟨xq,dg⟩:=eD;subst dg;clear c0' c1' c2' c3' c4' c5' c6' e0' e1' e2' e3' e4' e5' e6' bP
    go_wp2
    go_roundw
    ·exact⟨ae aB xq.ext,k+1,by omega,by go_num,aW H.o oG.o⟩
    ·simp[intOf];omega
   ·have hd:decide (x=y)=false:=by simpa using cG
    have HR:am (res=false):=by(have h:res=false:=by(rw[<-jE.o];simp;intro h;subst h;rw[HX.o]at HY;exact cG HY.o));exact h
    rw[hd]at bP;clear cG hd;refine aE (by kernel_rfl) (by kernel_rfl) ?_
    repeat (go_big_quiet_step (fail))
    refine wpQuiet_nil ?_;intro _ eD;obtain⟨xq,dg⟩:=eD;subst dg;clear c0' c1' c2' c3' c4' c5' c6' e0' e1' e2' e3' e4' e5' e6' bP
    go_wp2
    go_ret
    exact⟨aR HR.o.symm,ae aB xq.ext⟩
  ·have HR:am (res=true):=by(have h:res=true:=by(rw[<-jE.o];simp;exact fm default HL.o fun j hj=>H.o j (by omega)));exact h
   go_wp2
   go_ret
   exact⟨aR HR.o.symm,aB⟩
end Go.Proofs.YtmeaoneaephjeaaGreatDoor
namespace Go.Proofs.YtmeaoneaephjeaaGreatDoor
open Go.RowKit Go Go.Shelf
attribute [local go_sem] Oper.semAt_some
theorem uR(P:Program) (w:World) (a:Addr) (m:Mode) (g:Fn) (b c:Array Value):(store a (.func g b c) m).run P w=stored P w a (.func g b c) m:=run_store P w a _ m rfl
attribute [local go_sem] uR
abbrev io(w:World):Prop:=TabAt 1 Lib.deBruijn64tab w
theorem io.up{w w':World} (h:io w) (hb:Below w.heap.size w w'):io w':=fun j hj=>ak hb (h j hj)
theorem io.keep{w w':World} (h:io w) (hb:jh w.heap.size w w'):io w':=fun j hj=>hb.cell (h j hj)
theorem U0(x k idx:Nat) (w:World) (dq:((x:Int) == 0)=false)
  (key:IntKind.u64.wrap (bits BinOp.and IntKind.u64 (x:Int) (IntKind.u64.wrap (-(x:Int))) * 285870213051353865) / 288230376151711744=(idx:Int))
  (hi:idx<64) (hk:k<64) (eK:w.cell? ⟨1,idx,none⟩=some (.int .u8 k)) :
  Calls Tryz.prog 178 #[.int .u64 x] w fun e w'=>e=.returned (.int .i64 k)/\w=w':=by
 go_enter Tryz.func178,Tryz.ntmps178
 go_wp2_with (simp only[key])
 go_ret
 exact⟨rfl,rfl⟩
def v7(l:List Int):List Value:=l.map (Value.int .i64)
theorem aI.ints{w:World} {base:Nat} {v:Value} {l:List Int} (h:aI w base 3 1 v l.length (v7 l)) (hl:l.length<=1048576) (hr:∀ x∈l,bT x):aX w v l:=by
 rcases h.2 with ⟨rfl,h0⟩|⟨g,cap,cur,fz,rfl,_,hg,_,iI,qn,_,ht⟩
 ·have:l=[]:=List.eq_nil_of_length_eq_zero h0;subst this;exact⟨none,0,rfl,⟨by simp,by omega,fun _=>rfl⟩,by simp,fun i x hx=>by simp at hx⟩
 ·refine⟨some ⟨g,0,none⟩,cap,rfl,⟨iI,by unfold maxLen at qn;omega,fun e=>by cases e⟩,by omega,fun i x hx=>⟨g,0,rfl,?_,hr x (List.mem_of_getElem? hx)⟩⟩;rw[Nat.zero_add,Nat.mul_one,ab hg];have h1:(v7 l)[i]?=some (.int .i64 x):=by unfold v7;rw[List.getElem?_map,hx];rfl
  rw[<-ht,List.getElem?_take]at h1;split at h1
  ·simpa using h1
  ·cases h1
theorem wT(v:Value) (l:List Int) (x:Int) (w:World) (hv:aX w v l) :
  Calls Tryz.prog 48 #[v,.int .i64 x] w fun e w'=>e=.returned (.int .i64 (firstIx l.length fun i=>decide (x=l.getD i 0)))/\Below w.heap.size w w':=by
 obtain⟨pa,ca,rfl,la1,la2,ea⟩:=hv.at;have EA:=aa ea;clear hv ea;generalize hr:(firstIx l.length fun i=>decide (x=l.getD i 0))=r;have HR:=aa hr;clear hr
 go_enter Tryz.func48,Tryz.ntmps48
 go_wp2
 go_loop [8] (fun i=>∃ k:Nat,k<=l.length/\i=.int .i64 k/\∀ j,j<k->decide (x=l.getD j 0)=false) (fun i=>l.length - (intOf i).toNat)
 ·exact⟨0,by omega,rfl,by simp⟩
 ·
  obtain⟨k,hk,rfl,aV⟩:=hrel;have H:=aa aV;clear aV;by_cases aD:k<l.length
  ·obtain⟨b1,o1,rfl,h1⟩:=EA.o k aD;rw[Nat.mul_one]at h1;have c1:=h1.1;have HG:=aa (aA 0 aD);clear h1;generalize l[k]=y at c1 HG;by_cases cG:x=y
   ·subst cG
    go_wp2
    go_ret
    exact⟨aF (by rw[<-HR.o,dB _ k _ aD H.o (by rw[HG.o];simp)]),Below.refl _ _⟩
   ·have hxy':(x == y)=false:=by simpa using cG
    have HX:am (decide (x=l.getD k 0)=false):=by(have h:decide (x=l.getD k 0)=false:=by(rw[HG.o];simpa using cG));exact h
    clear cG
    go_wp2
    go_round
    ·exact⟨k+1,by omega,by go_num,aW H.o HX.o⟩
    ·simp[intOf];omega
  ·go_wp2
   go_ret
   exact⟨aF (by rw[<-HR.o,dH];intro j hj;exact H.o j (by omega)),Below.refl _ _⟩
theorem DM(l:List Int) (x:Int):(anyLt l.length fun i=>decide (x=l.getD i 0))=l.contains x:=by
 rw[Bool.eq_iff_iff,ld,List.contains_iff_mem];constructor
 ·rintro⟨k,hk,h⟩;simp only[decide_eq_true_eq]at h;rw[aA 0 hk]at h;rw[h];exact List.getElem_mem hk
 ·intro h;obtain⟨k,hk,rfl⟩:=List.getElem_of_mem h;exact⟨k,hk,by rw[aA 0 hk];simp⟩
theorem A4(v:Value) (l:List Int) (x:Int) (w:World) (hv:aX w v l) :
  Calls Tryz.prog 33 #[v,.int .i64 x] w fun e w'=>e=.returned (.bool (l.contains x))/\Below w.heap.size w w':=by
 have HC:=aa (wT v l x w hv);have HA:am (l.contains x=decide (0<=firstIx l.length fun i=>decide (x=l.getD i 0))):=by(have h:l.contains x=decide (0<=firstIx l.length fun i=>decide (x=l.getD i 0)):=by(rw[pR,DM]));exact h
 generalize (firstIx l.length fun i=>decide (x=l.getD i 0))=r at HC HA;obtain⟨pa,ca,rfl,_⟩:=hv.at;clear hv
 go_enter Tryz.func33,Tryz.ntmps33
 go_wp2_with fail
 refine HC.o.mono ?_;rintro e w1 ⟨rfl,aM⟩
 go_wp2_with fail
 go_ret
 exact⟨aR HA.o.symm,aM⟩
theorem Hw{α:Type} {k:Nat} {R:World->Nat->Nat->α->Prop} {W:World} {B n:Nat} {cs:Array Value} {t:TypeId} {xs:List (List α)} (h:W.heap[B]?=some (.cells cs t)) (hn:n=xs.length) (hs:xs.length<=256) (he:∀ i (hi:i<xs.length),∃ v,cs[i]?=some v/\fe k R W v xs[i]):fe 1 (mH k R) W (.slice (some ⟨B,0,none⟩) n n) xs:=by
 subst hn;refine⟨some ⟨B,0,none⟩,xs.length,rfl,⟨Nat.le_refl _,by omega,fun e=>by cases e⟩,by omega,fun i x hx=>⟨B,0,rfl,?_⟩⟩;obtain⟨hi,rfl⟩:=List.getElem?_eq_some_iff.1 hx;obtain⟨v,h1,h2⟩:=he i hi;exact⟨v,by rw[Nat.zero_add,Nat.mul_one,ab h];exact h1,h2⟩
theorem BY(l:List Obj) (w:World) {k:Nat} {o:Obj} (h:w.heap[k]?=some o):(l.foldl World.alloc w).heap[k]?=some o:=by
 induction l generalizing w with
 | nil=>exact h
 | cons a r ih=>exact ih _ (az _ h)
theorem Mi(l:List Obj) (w:World) (i:Nat) {o:Obj} (h:l[i]?=some o):(l.foldl World.alloc w).heap[w.heap.size+i]?=some o:=by
 induction l generalizing w i with
 | nil=>simp at h
 | cons a r ih=>
  cases i with
  | zero=>
   simp at h;subst h;exact BY r _ (aq w a)
  | succ i=>
   have:=ih (w.alloc a) i (by simpa using h);rw[World.size_alloc]at this;rw[show w.heap.size+(i+1)=w.heap.size+1+i by omega];exact this
theorem OJ{l:List Int} (h:∀ x∈l,-2<x/\x<100):∀ i,i<l.length->bT (l.getD i 0):=fun i hi=>by
 have:=h _ (List.getElem_mem hi);rw[aA 0 hi];unfold bT;omega
theorem ib{W:World} {B:Nat} (l:List Int) (h:W.heap[B]?=some (.cells (bG l) 3)) (hn:l.length<=256) (hs:∀ x∈l,-2<x/\x<100):aX W (.slice (some ⟨B,0,none⟩) l.length l.length) l:=rD rfl hn h (OJ hs)
theorem OK{α:Type} {k:Nat} {R:World->Nat->Nat->α->Prop} {W:World} {B:Nat} {a b:Value} {t:TypeId} {x y:List α} (h:W.heap[B]?=some (.cells #[a,b] t)) (ha:fe k R W a x) (hb:fe k R W b y):fe 1 (mH k R) W (.slice (some ⟨B,0,none⟩) 2 2) [x,y]:=
 Hw h rfl (by simp) fun i hi=>by
  rcases (show i=0\/i=1 by simp at hi;omega) with rfl|rfl
  ·exact⟨a,rfl,ha⟩
  ·exact⟨b,rfl,hb⟩
theorem xT{α:Type} {k:Nat} {R:World->Nat->Nat->α->Prop} {W:World} {B:Nat} {a:Value} {t:TypeId} {x:List α} (h:W.heap[B]?=some (.cells #[a] t)) (ha:fe k R W a x):fe 1 (mH k R) W (.slice (some ⟨B,0,none⟩) 1 1) [x]:=
 Hw h rfl (by simp) fun i hi=>by
  obtain rfl:i=0:=by simp at hi;omega
  exact⟨a,rfl,ha⟩
abbrev iC(l:List Int):Obj:=.cells (bG l) 3
abbrev sV(B n:Nat):Value:=.slice (some ⟨B,0,none⟩) n n
theorem mO{W:World} {b c:Nat} {x y:Array Value} {t u:TypeId} {f g:Nat × Nat} (h1:W.heap[b]?=some (.cells x t f)) (h2:W.heap[c]?=some (.cells y u g)) (bP:t≠u):b≠c:=by
 rintro rfl;rw[h1]at h2;cases h2;exact bP rfl
theorem gh{W W':World} {row:Option Nat} (hg:W.grownBy W' row) {k:Nat} {o:Obj} (hk:W.heap[k]?=some o) (hn:row≠some k):W'.heap[k]?=some o:=(hg.block k (aC hk) (fun e=>hn e.symm)).trans hk
theorem Kk{w:World} {base:Nat} {e:TypeId} {k:Nat} {v:Value} {n:Nat} {xs:List Value} (h:aI w base e k v n xs):v.oneCell'=true:=by
 obtain⟨a,c,rfl⟩:=h.slice;rfl
abbrev pL(r:Rd):Prop:=bT r.g.n/\bT r.g.h0/\bT r.g.h1/\bT r.g.h2/\bT r.g.h3/\bT r.g.h4/\bT r.f
abbrev BZ(Br Bo Ba Bf:Nat):Value:=.func (.func 193) #[] #[.pointer (some ⟨Br,0,none⟩),.pointer (some ⟨Bo,0,none⟩),.pointer (some ⟨Ba,0,none⟩),.pointer (some ⟨Bf,0,none⟩)]
structure WEnv (a:Adv) (v:Value) (k:Nat) (w:World) (Br Bo Ba Bf wb:Nat) (L:List (List Rd)) (word:List Rd) (W:World):Prop where
 old:Below w.heap.size w W
 lo:w.heap.size<=Bo
 r:W.heap[Br]?=some (.cells #[.int .i64 k] 3)
 a:W.heap[Ba]?=some (.cells #[.int .i64 a.n,v] 27)
 f:W.heap[Bf]?=some (.cells #[BZ Br Bo Ba Bf] 259)
 o:∃ vo xs,W.heap[Bo]?=some (.cells #[vo] 221)/\aI W w.heap.size 87 1 vo L.length xs/\∀ i (hi:i<L.length),∃ x,xs[i]?=some x/\aI W (wb+1) 141 7 x L[i].length (da L[i])
 b:aI W w.heap.size 141 7 (.slice (some ⟨wb,0,none⟩) word.length k) word.length (da word)
section
variable {a : Adv} {v : Value} {k : Nat} {w : World} {Br Bo Ba Bf wb : Nat} {L : List (List Rd)} {word : List Rd} {W W' : World}
theorem WEnv.up(h:WEnv a v k w Br Bo Ba Bf wb L word W) (hb:Below W.heap.size W W'):WEnv a v k w Br Bo Ba Bf wb L word W':=by
 refine⟨ae h.old hb,h.lo,af hb h.r,af hb h.a,af hb h.f,?_,h.b.up hb⟩;obtain⟨vo,xs,h1,h2,h3⟩:=h.o;exact⟨vo,xs,af hb h1,h2.up hb,fun i hi=>by obtain⟨x,q1,q2⟩:=h3 i hi;exact⟨x,q1,q2.up hb⟩⟩
theorem WEnv.wb_at(h:WEnv a v k w Br Bo Ba Bf wb L word W):∃ cur fz,W.heap[wb]?=some (.cells cur 141 fz)/\w.heap.size<=wb:=by
 obtain⟨_,h⟩:=h.b;rcases h with ⟨h,_⟩|⟨g,cap,cur,fz,h,Db,hg,_⟩
 ·cases h
 ·cases h;exact⟨cur,fz,hg,Db⟩
theorem WEnv.grow_word(h:WEnv a v k w Br Bo Ba Bf wb L word W) (hg:W.grownBy W' (some wb)) {word':List Rd} (hb:aI W' w.heap.size 141 7 (.slice (some ⟨wb,0,none⟩) word'.length k) word'.length (da word')):WEnv a v k w Br Bo Ba Bf wb L word' W':=by
 obtain⟨cur,fz,An,xB⟩:=h.wb_at;have kp:∀ {k:Nat} {x:Array Value} {t:TypeId} {f:Nat × Nat},W.heap[k]?=some (.cells x t f)->t≠141->W'.heap[k]?=some (.cells x t f):=fun hk bP=>gh hg hk (fun e=>mO hk An bP (dp e).symm)
 refine⟨Below.grown h.old hg h.old.size (fun g e=>by cases e;exact xB),h.lo,kp h.r (by decide),kp h.a (by decide),kp h.f (by decide),?_,hb⟩;obtain⟨vo,xs,h1,h2,h3⟩:=h.o;refine⟨vo,xs,kp h1 (by decide),h2.keepT fun g o e1 e2=>gh hg e2 (fun e=>h2.ne An (by decide) g e1 (dp e).symm),fun i hi=>?_⟩;obtain⟨x,q1,q2⟩:=h3 i hi;exact⟨x,q1,q2.keepT fun g o e1 e2=>gh hg e2 (fun e=>by have h4:=(q2.lt g e1).1;have h5:=dp e;omega)⟩
theorem WEnv.shrink{r:Rd} (h:WEnv a v k w Br Bo Ba Bf wb L (word++[r]) W):WEnv a v k w Br Bo Ba Bf wb L word W:=by
 refine⟨h.old,h.lo,h.r,h.a,h.f,h.o,?_⟩;have hb:=h.b;rw[List.length_append,List.length_singleton,E0]at hb;exact hb.shrink (xS word)
theorem WEnv.put{vo x v':Value} {xs:List Value} {w2:World} (h:WEnv a v k w Br Bo Ba Bf wb L word W) (h1:W.heap[Bo]?=some (.cells #[vo] 221)) (h2:aI W w.heap.size 87 1 vo L.length xs) (h3:∀ i (hi:i<L.length),∃ x,xs[i]?=some x/\aI W (wb+1) 141 7 x L[i].length (da L[i]))
  {l:List Rd} (hx:aI W (wb+1) 141 7 x l.length (da l)) (hg:W.grownBy w2 vo.ownBlock) (ho:aI w2 w.heap.size 87 1 v' (L.length+1) (xs++[x])):WEnv a v k w Br Bo Ba Bf wb (L++[l]) word (w2.setCell ⟨Bo,0,none⟩ v'):=by
 have kp:∀ {k:Nat} {x:Array Value} {t:TypeId} {f:Nat × Nat},W.heap[k]?=some (.cells x t f)->t≠87->w2.heap[k]?=some (.cells x t f):=fun hk bP=>gh hg hk (fun e=>h2.ne hk (fun e=>bP e.symm) _ e rfl)
 have FX:=kp h1 (by decide);have kp2:∀ {k:Nat} {x:Array Value} {t:TypeId} {f:Nat × Nat},W.heap[k]?=some (.cells x t f)->t≠87->t≠221->(w2.setCell ⟨Bo,0,none⟩ v').heap[k]?=some (.cells x t f):=fun hk bP hne2=>aN (kp hk bP) (mO hk h1 hne2) _ _
 have ko:∀ {x:Value} {l:List Rd} {b:Nat},aI W b 141 7 x l.length (da l)->aI (w2.setCell ⟨Bo,0,none⟩ v') b 141 7 x l.length (da l):=fun hq=>(hq.apart h2 (by decide) hg).put (fun g e=>(hq.apart h2 (by decide) hg).ne FX (by decide) g e) _ _
 have aY:Below w.heap.size w w2:=Below.grown h.old hg h.old.size (fun g e=>(h2.lt g e).1);refine⟨aY.setCell h.lo _,h.lo,kp2 h.r (by decide) (by decide),kp2 h.a (by decide) (by decide),kp2 h.f (by decide) (by decide),⟨v',xs++[x],by rw[aH FX];rfl,?_,fun i hi=>?_⟩,?_⟩
 ·rw[List.length_append,List.length_singleton];exact ho.put (fun g e=>ho.ne FX (by decide) g e) _ _
 ·have hl:xs.length=L.length:=by have:=h2.1;omega
  rw[List.length_append,List.length_singleton]at hi;by_cases aD:i<L.length
  ·obtain⟨y,q1,q2⟩:=h3 i aD;refine⟨y,by rw[List.getElem?_append_left (by omega)];exact q1,?_⟩;rw[List.getElem_append_left aD];exact ko q2
  ·obtain rfl:i=L.length:=by omega
   refine⟨x,by rw[<-hl,List.getElem?_append_right (Nat.le_refl _)];simp,?_⟩;have e:(L++[l])[L.length]'(by simp)=l:=by simp
   rw[e];exact ko hx
 ·have hq:=h.b;exact ko (l:=word) hq
end
def jM(a:Adv) (d:Nat) (word:List Rd) (l:List Mv):List (List Rd):=l.flatMap fun m=>(cg a d m.to.toNat).map fun y=>word++(m.r :: y)
theorem E3(a:Adv) (d s:Nat) (word:List Rd):(cg a (d+1) s).map (word++·)=jM a d word (a.states.getD s []):=by
 simp only[cg,jM,List.map_flatMap,List.map_map];rfl
theorem Mj(a:Adv) (d:Nat) (word:List Rd) (l:List Mv) (j:Nat) (h:j<l.length):jM a d word (l.take (j+1))=jM a d word (l.take j)++(cg a d l[j].to.toNat).map ((word++[l[j].r])++·):=by
 unfold jM;rw[List.take_succ_eq_append_getElem h,List.flatMap_append];simp
theorem Rp(a:Adv) (d:Nat) (word:List Rd) (l:List Mv) (j:Nat):(jM a d word (l.take j)).length<=(jM a d word l).length:=by
 conv=>rhs;rw[<-List.take_append_drop j l]
 unfold jM;rw[List.flatMap_append,List.length_append];omega
structure WCore (a:Adv) (v:Value) (k:Nat) (w:World) (Br Bo Ba Bf wb B9:Nat) (L:List (List Rd)) (word:List Rd) (m:Mv) (D:Nat->Bool) (x:Nat->Value) (W:World):Prop where
 env:WEnv a v k w Br Bo Ba Bf wb L (bif D 7 then word++[m.r] else word) W
 box:W.heap[B9]?=some (.cells #[.int .i64 m.r.g.n,.int .i64 m.r.g.h0,.int .i64 m.r.g.h1,.int .i64 m.r.g.h2,.int .i64 m.r.g.h3,.int .i64 m.r.g.h4,.int .i64 m.r.f,.int .i64 m.to] 143)
 sb:D 6=true->D 7=false->∃ g,x 6=.slice (some ⟨g,0,none⟩) 1 1/\W.heap[g]?=some (.cells #[.int .i64 m.r.g.n,.int .i64 m.r.g.h0,.int .i64 m.r.g.h1,.int .i64 m.r.g.h2,.int .i64 m.r.g.h3,.int .i64 m.r.g.h4,.int .i64 m.r.f] 141)
section
variable {a : Adv} {v : Value} {k : Nat} {w : World} {Br Bo Ba Bf wb B9 : Nat} {L : List (List Rd)} {word : List Rd} {m : Mv} {D : Nat → Bool} {x : Nat → Value} {W : World}
theorem WCore.other(h:WCore a v k w Br Bo Ba Bf wb B9 L word m D x W) {i:Nat} (u:Value) (h6:6≠i) (h7:7≠i):WCore a v k w Br Bo Ba Bf wb B9 L word m (br D i) (bQ x i u) W:=by
 refine⟨?_,h.box,?_⟩
 ·simpa only[br,if_neg h7] using h.env
 ·simpa only[br,bQ,if_neg h6,if_neg h7] using h.sb
theorem WCore.build(h:WCore a v k w Br Bo Ba Bf wb B9 L word m D x W):WCore a v k w Br Bo Ba Bf wb B9 L word m (br D 6) (bQ x 6 (.slice (some ⟨W.heap.size,0,none⟩) 1 1)) (W.alloc (.cells #[.int .i64 m.r.g.n,.int .i64 m.r.g.h0,.int .i64 m.r.g.h1,.int .i64 m.r.g.h2,.int .i64 m.r.g.h3,.int .i64 m.r.g.h4,.int .i64 m.r.f] 141)):=by
 refine⟨?_,az _ h.box,fun _ _=>⟨W.heap.size,by simp[bQ],aq _ _⟩⟩;have:=h.env.up (W':=W.alloc (.cells #[.int .i64 m.r.g.n,.int .i64 m.r.g.h0,.int .i64 m.r.g.h1,.int .i64 m.r.g.h2,.int .i64 m.r.g.h3,.int .i64 m.r.g.h4,.int .i64 m.r.f] 141)) (by go_grown);simpa only[br,if_neg (show (7:Nat)≠6 by decide)] using this
theorem WCore.app(h:WCore a v k w Br Bo Ba Bf wb B9 L word m D x W) (h7:D 7=false) {w3:World} (u:Value) (ho:aI w3 w.heap.size 141 7 (.slice (some ⟨wb,0,none⟩) (word.length+1) k) (word.length+1) (da word++da [m.r])) (hg:W.grownBy w3 (some wb)):WCore a v k w Br Bo Ba Bf wb B9 L word m (br D 7) (bQ x 7 u) w3:=by
 have he:=h.env;rw[h7]at he;obtain⟨cur,fz,An,_⟩:=he.wb_at;refine⟨?_,gh hg h.box (fun e=>mO h.box An (by decide) (dp e).symm),fun _ e=>by simp[br]at e⟩;simp only[br,if_true,cond_true];refine he.grow_word hg ?_;rw[List.length_append,List.length_singleton,E0];exact ho
end
def Yi(wb:Nat) (word:List Rd):MP:=⟨fun x W=>aI W (wb+1) 141 7 x word.length (da word),fun _ _ _ h hb=>h.up hb⟩
def OL(wb:Nat) (word:List Rd):MP:=⟨fun y W=>∃ x g,aI W (wb+1) 141 7 x word.length (da word)/\y=.slice (some ⟨g,0,none⟩) 1 1/\W.heap[g]?=some (.cells #[x] 87),fun _ _ _ h hb=>by obtain⟨x,g,h1,h2,h3⟩:=h;exact⟨x,g,h1.up hb,h2,af hb h3⟩⟩
theorem OM{wb:Nat} {word:List Rd} {W:World} {x:Value} {g:Nat} (h1:aI W (wb+1) 141 7 x word.length (da word)) (h3:W.heap[g]?=some (.cells #[x] 87)):(OL wb word).p (.slice (some ⟨g,0,none⟩) 1 1) W:=⟨x,g,h1,rfl,h3⟩
theorem Tryz.infoWordRow:(Tryz.prog.info? 87).map (fun i=>(i.zero,i.size,i.bytes))=some (some (.slice none 0 0),1,24):=by kernel_rfl
theorem Mk(a:Adv) (v:Value) (k:Nat) (hk:k<=6) (w:World) (hv:bA w v a.states) (pg:∀ s,s<a.states.length->∀ m∈a.states.getD s [],0<=m.to/\m.to.toNat<a.states.length) (Br Bo Ba Bf wb:Nat) :
  ∀ (d:Nat) (s:Nat) (L:List (List Rd)) (word:List Rd) (W:World),word.length+d=k->s<a.states.length->(∀ r∈word,pL r)->L.length+(cg a d s).length<=1048576->WEnv a v k w Br Bo Ba Bf wb L word W →
   Calls Tryz.prog 193 #[.int .i64 s,.slice (some ⟨wb,0,none⟩) word.length k,.pointer (some ⟨Br,0,none⟩),.pointer (some ⟨Bo,0,none⟩),.pointer (some ⟨Ba,0,none⟩),.pointer (some ⟨Bf,0,none⟩)] W fun e W'=>(∃ u,e=.returned u)/\WEnv a v k w Br Bo Ba Bf wb (L++(cg a d s).map (word++·)) word W':=by
 have HV:=aa hv;clear hv;have Qg:=aa pg;clear pg;intro d;induction d with
 | zero=>
  intro s L word W hd hs cZ cN pP;have jd:=aa cZ;have Eo:=aa pP;have qQ:=aa cN;have tr:=ab pP.r 0;obtain⟨vo,xs,h1,h2,h3⟩:=pP.o;have to:=ab h1 0;simp at tr to;have zj:(word.length:Int)=k:=by omega
  have LH:=aa zj;have yG:=aa hd;clear cZ cN pP hd
  go_enter Tryz.func193,Tryz.ntmps193
  obtain⟨i0,cY,cC,bY,cD⟩:=info_parts Tryz.infoWordRow;have H2:=aa h2;have H3:=aa h3;clear h2 h3;have aD:=(Eo.o.wb_at).elim fun _ h=>h.elim fun _ h=>aC h.1
  go_wp2_with fail
  refine fD 4 [14,15,16,17] [MP.eq vo,
   MP.eq (.slice (some ⟨wb,0,none⟩) word.length k),
   Yi wb word,
   OL wb word] (by kernel_rfl) (by simp) (by decide) rfl (by kernel_rfl) (by kernel_rfl) (by kernel_rfl) ?step ?tail
  case step=>
   intro x W i o s F hi ho hs hB ar hF;have fO:i=0\/i=1\/i=2\/i=3:=by omega
   rcases fO with rfl|rfl|rfl|rfl
   all_goals (obtain rfl:=dp ho.symm;obtain rfl:=dp hs.symm;simp only[bD,cX,List.setIfInBounds_toArray,List.set_cons_succ,List.set_cons_zero,Nat.reduceAdd]at hF)
   ·clear ar hi ho hs;have t1:=ak hB to;subst hF
    go_wp2_with fail
    exact kP _ (Below.refl _ _) rfl
   ·clear ar hi ho hs;subst hF
    go_wp2_with fail
    exact kP _ (Below.refl _ _) rfl
   ·have d1:=pB (ar ⟨1,.data⟩ (by simp) rfl);clear ar hi ho hs;simp only[d1]at hF;subst hF
    go_wp2_with fail
    refine(uQ _ word W ((rF Eo.o.b (fun i hi=>jd.o _ (List.getElem_mem hi)) (by omega)).up up_round hB) (by omega)).mono ?_;rintro e w9 ⟨u9,rfl,jB,eC⟩;have nC:=aa (jB.base (base':=wb+1) (by have:=hB.size;omega));clear jB
    go_wp2_with fail
    exact kP _ eC nC.o
   ·have d2:=ar ⟨2,.data⟩ (by simp) rfl;clear ar hi ho hs;obtain⟨a9,c9,e9⟩:=aI.slice d2;rw[e9]at d2;have QJ:=aa (show aI W (wb+1) 141 7 (.slice a9 word.length c9) word.length (da word) from d2);clear d2;simp only[e9]at hF;subst hF
    go_wp2_with fail
    refine bB.mk (.slice (some ⟨W.heap.size,0,none⟩) 1 1) ?_ ?_ ?_
    ·exact(by go_grown)
    ·exact OM (QJ.o.up (by go_grown)) (aq _ _)
    ·first
     | rfl
     | simp only[List.setIfInBounds_toArray,List.set_cons_succ,List.set_cons_zero]
  case tail=>
   intro x W2 F hB aS hF;have d0:x 0=vo:=aS 0 (by omega);have d3:=aS 3 (by omega);obtain⟨x9,g9,jB,e9,AK⟩:∃ x9 g9,aI W2 (wb+1) 141 7 x9 word.length (da word)/\x 3=.slice (some ⟨g9,0,none⟩) 1 1/\W2.heap[g9]?=some (.cells #[x9] 87):=d3;clear aS;simp only[bD,cX,List.setIfInBounds_toArray,List.set_cons_succ,List.set_cons_zero,Nat.reduceAdd]at hF;rw[d0,e9]at hF;subst hF;have nC:=aa jB;have IW:=aa AK;have ff:=aa hB;have QP:=ff.o.size;have hL:=qQ.o;simp only[cg,List.length_singleton]at hL;clear jB AK hB d0 e9;simp only[List.drop_succ_cons,List.drop_zero];refine aZ W2 rfl (.tmp 14) (.tmp 17) 221 rfl w.heap.size 87 i0 _ 1 24 Tryz.underlying221 cY cC bY cD rfl (by decide) _ L.length xs rfl (H2.o.up ff.o) ⟨g9,0,none⟩ 1 1 [x9] rfl rfl (fun j u hj=>?_) (by simpa using Kk nC.o) (by unfold maxLen;omega) (by omega) (by have:=Eo.o.old.size;omega) ?_
   ·cases j with
    | zero=>simp at hj;subst hj;simp[Addr.add,ab IW.o]
    | succ j=>simp at hj
   intro v9 w9 eP dk _;have Jo:=aa eP;have Jd:=aa dk;clear eP dk;have FX:=gh Jd.o (af ff.o h1) (fun e=>H2.o.ne h1 (by decide) _ e rfl);have tBo:=ab FX 0;have zBo:=aG FX 0;simp at tBo;have hBoL:=aC FX;obtain⟨a9,c9,hv9⟩:=Jo.o.slice;subst hv9;clear FX
   go_wp2_with fail
   go_returns
   refine⟨⟨_,rfl⟩,?_⟩;have e9:L++(cg a 0 s).map (word++·)=L++[word]:=by simp[cg]
   rw[e9];exact(Eo.o.up ff.o).put (af ff.o h1) (H2.o.up ff.o) (fun i hi=>by obtain⟨y,q1,q2⟩:=H3.o i hi;exact⟨y,q1,q2.up ff.o⟩) nC.o Jd.o Jo.o
 | succ d ih=>
  intro s L word W hd hs cZ cN pP;have jd:=aa cZ;have Eo:=aa pP;have qQ:=aa (show L.length+(jM a d word (a.states.getD s [])).length<=1048576 by rw[<-E3];simpa using cN);have tr:=ab pP.r 0;have ta:=ab pP.a 1;simp at tr ta;obtain⟨pa,ca,rfl,la1,la2,ea⟩:=HV.o.at;obtain⟨b1,o1,rfl,xc,cx0,hx⟩:=ea s hs;rw[Nat.mul_one]at cx0;have cx:=ak pP.old cx0;clear cx0;obtain⟨px,qx,rfl,x1,x2,ex⟩:=hx.at;have EX:=aa ex;have TJ:=aa (aA [] hs);have S6:=aa (Qg.o s hs);rw[TJ.o]at qQ S6;rw[E3,TJ.o];clear hx ex ea cN pP cZ;generalize a.states[s]=l at EX x1 x2 cx qQ S6;have zj:((word.length:Int) == (k:Int))=false:=by simp;omega
  have LH:=aa zj;have yG:=aa hd;clear hd
  go_enter Tryz.func193,Tryz.ntmps193
  go_wp2_with fail
  clear cx ta tr;obtain⟨i1,oY,_,jt,_⟩:=info_parts Tryz.infoRound
  go_loopw [25] (fun i wr=>∃ j:Nat,j<=l.length/\i=.int .i64 j/\WEnv a (.slice (some ⟨b1,o1,none⟩) a.states.length ca) k w Br Bo Ba Bf wb (L++jM a d word (l.take j)) word wr) (fun i _=>l.length - (intOf i).toNat)
  ·exact⟨0,by omega,rfl,by simpa[jM] using Eo.o⟩
  ·
   obtain⟨j,hj,rfl,n'⟩:=hrel;have Xp:=aa n';by_cases aD:j<l.length
   ·obtain⟨b3,o3,rfl,⟨⟨d0,j0⟩,⟨d1,j1⟩,⟨d2,j2⟩,⟨d3,j3⟩,⟨d4,j4⟩,⟨d5,j5⟩,⟨d6,j6⟩⟩,⟨d7,_⟩⟩:=EX.o j aD
    have HINM:am (∀ r∈word++[l[j].r],pL r):=aa (fun r hr=>by
     rcases List.mem_append.1 hr with h|h
     ·exact jd.o r h
     ·rw[List.mem_singleton]at h;subst h;exact⟨j0,j1,j2,j3,j4,j5,j6⟩)
    have JL:=Mj a d word l j aD;have kW:=Rp a d word l (j+1);have HM:=aa (S6.o _ (List.getElem_mem aD))
    have XM:(L++jM a d word (l.take j)).length+(cg a d l[j].to.toNat).length<=1048576:=by
     have h9:=qQ.o;rw[JL,List.length_append,List.length_map]at kW;rw[List.length_append];omega
    have HLJ:=aa XM;have jF:=aa JL;clear JL kW XM j0 j1 j2 j3 j4 j5 j6;generalize l[j]=m at d0 d1 d2 d3 d4 d5 d6 d7 HINM HM HLJ jF;have HTON:am (((m.to.toNat:Nat):Int)=m.to):=aa (by have:=HM.o.1;omega)
    replace d0:=ak n'.old d0
    replace d1:=ak n'.old d1
    replace d2:=ak n'.old d2
    replace d3:=ak n'.old d3
    replace d4:=ak n'.old d4
    replace d5:=ak n'.old d5
    replace d6:=ak n'.old d6
    replace d7:=ak n'.old d7
    clear n'
    go_wp2_with fail
    refine bF (fun W1=>WEnv a (.slice (some ⟨b1,o1,none⟩) a.states.length ca) k w Br Bo Ba Bf wb (L++jM a d word (l.take j)) word W1/\W1.heap[wr.heap.size]?=some (.cells #[.int .i64 m.r.g.n,.int .i64 m.r.g.h0,.int .i64 m.r.g.h1,.int .i64 m.r.g.h2,.int .i64 m.r.g.h3,.int .i64 m.r.g.h4,.int .i64 m.r.f,.int .i64 m.to] 143)) ⟨Xp.o.up (by go_grown),aq _ _⟩ (fun W1 cO=>?_);have gz:=aa cO;clear cO d0 d1 d2 d3 d4 d5 d6 d7
    refine mK 8 [29,30,31,32,33,34,35,36] [some (BZ Br Bo Ba Bf),
     some (.pointer (some ⟨wr.heap.size,7,none⟩)),
     some (.int .i64 m.to),
     some (.slice (some ⟨wb,0,none⟩) word.length k),
     some (.pointer (some ⟨wr.heap.size,0,none⟩)),
     some (m.r.v),
     none,
     some ((.slice (some ⟨wb,0,none⟩) (word.length+1) k))] (WCore a (.slice (some ⟨b1,o1,none⟩) a.states.length ca) k w Br Bo Ba Bf wb wr.heap.size (L++jM a d word (l.take j)) word m) (by kernel_rfl) rfl (by decide) rfl (by kernel_rfl) (by kernel_rfl) (by kernel_rfl) (fun _=>⟨gz.o.1.up (by go_grown),af (by go_grown) gz.o.2,nofun⟩) ?step ?tail
    case step=>
     intro x W D i o s F hi ho hs hD cP bX ar hv aP hF;have fO:i=0\/i=1\/i=2\/i=3\/i=4\/i=5\/i=6\/i=7:=by omega
     rcases fO with rfl|rfl|rfl|rfl|rfl|rfl|rfl|rfl
     all_goals (have dM:=cP _ _ hs hD;obtain rfl:=dp ho.symm;obtain rfl:=dp hs.symm)
     ·clear ar hi hv;have e5:F.getD 5 undef=.pointer (some ⟨Bf,0,none⟩):=lP hF (by decide) rfl;clear cP bX;clear hF dM;have t1:=ab aP.env.f 0;simp at t1;have e5':=dE e5;have HD:=aa hD;have bC:=aa aP;clear hD aP
      go_wp2_with fail
      refine cf.mk _ fS ?_ rfl;exact bC.o.other _ (by decide) (by decide)
     ·clear ar hi hv;have e9:F.getD 9 undef=.pointer (some ⟨wr.heap.size,0,none⟩):=lP hF (by decide) rfl;clear cP bX;clear hF dM;have e9':=dE e9;have HD:=aa hD;have bC:=aa aP;clear hD aP
      go_wp2_with fail
      refine cf.mk _ fS ?_ rfl;exact bC.o.other _ (by decide) (by decide)
     ·have g1:=ar ⟨1,.data⟩ (by simp) rfl;have d1:=hv 1 _ (by omega) g1 rfl;clear ar hi hv;have e30:=fB hF 1 30 (by decide) rfl (by kernel_rfl) d1;clear cP bX;clear hF dM d1;have t1:=ab aP.box 7;simp at t1;have e30':=dE e30;have HD:=aa hD;have bC:=aa aP;clear hD aP;clear g1
      go_wp2_with fail
      refine cf.mk _ fS ?_ rfl;exact bC.o.other _ (by decide) (by decide)
     ·clear ar hi hv;have e1:F.getD 1 undef=.slice (some ⟨wb,0,none⟩) word.length k:=lP hF (by decide) rfl;clear cP bX;clear hF dM;have e1':=dE e1;have HD:=aa hD;have bC:=aa aP;clear hD aP
      go_wp2_with fail
      refine cf.mk _ fS ?_ rfl;exact bC.o.other _ (by decide) (by decide)
     ·clear ar hi hv;have e9:F.getD 9 undef=.pointer (some ⟨wr.heap.size,0,none⟩):=lP hF (by decide) rfl;clear cP bX;clear hF dM;have e9':=dE e9;have HD:=aa hD;have bC:=aa aP;clear hD aP
      go_wp2_with fail
      refine cf.mk _ fS ?_ rfl;exact bC.o.other _ (by decide) (by decide)
     ·have g4:=ar ⟨4,.data⟩ (by simp) rfl;have d4:=hv 4 _ (by omega) g4 rfl;clear ar hi hv;have e33:=fB hF 4 33 (by decide) rfl (by kernel_rfl) d4;clear cP bX;clear hF dM d4;have t1:=ab aP.box;have e33':=dE e33;have HD:=aa hD;have bC:=aa aP;clear hD aP;clear g4
      go_wp2_with fail
      refine cf.mk _ fS ?_ rfl;exact bC.o.other _ (by decide) (by decide)
     ·have g5:=ar ⟨5,.data⟩ (by simp) rfl;have d5:=hv 5 _ (by omega) g5 rfl;clear ar hi hv;have e34:=fB hF 5 34 (by decide) rfl (by kernel_rfl) d5;clear cP bX;clear hF dM d5;have e34':=dE e34;have HD:=aa hD;have bC:=aa aP;clear hD aP;clear g5
      go_wp2_with fail
      refine cf.mk _ (fun c hc=>by cases hc) ?_ rfl;exact bC.o.build
     ·have g3:=ar ⟨3,.data⟩ (by simp) rfl;have d3:=hv 3 _ (by omega) g3 rfl;have g6:=ar ⟨6,.data⟩ (by simp) rfl;clear ar hi hv;have e32:=fB hF 3 32 (by decide) rfl (by kernel_rfl) d3;have e35:=fB hF 6 35 (by decide) rfl (by kernel_rfl) rfl;clear cP bX;clear hF dM d3;obtain⟨gb,qx,nB⟩:=aP.sb g6 hD;rw[qx]at e35;have cA:=aP.env.b;rw[hD]at cA;have Dc:=aa (show aI W w.heap.size 141 7 (.slice (some ⟨wb,0,none⟩) word.length k) word.length (da word) from cA)
      have bS:∀ j u',(da [m.r])[j]?=some u'->W.cell? (Addr.add ⟨gb,0,none⟩ j)=some u':=fun j u' hj=>by
       have e1:(Addr.add ⟨gb,0,none⟩ j)=⟨gb,j,none⟩:=by unfold Addr.add;split<;>simp_all
       rw[e1,ab nB];simpa[da] using hj
      have bE:=aa bS;clear bS cA nB qx;have e32':=dE e32;have e35':=dE e35;have HD:=aa hD;have bC:=aa aP;clear hD aP;clear g3;clear g6;refine A3 rfl (.tmp 32) (.tmp 35) 87 rfl w.heap.size 141 i1 7 Tryz.underlying87 oY jt wb k word.length (da word) e32 Dc.o ⟨gb,0,none⟩ 1 1 (da [m.r]) e35 rfl bE.o (sF _) (by have:=yG.o;omega) ?_;intro w3 oB j7 _;refine cf.mk _ fS ?_ rfl;exact bC.o.app HD.o _ oB j7
    case tail=>
     intro x W' D F aS hv aP hF;have x0:=hv 0 _ (by omega) rfl;have x1:=hv 1 _ (by omega) rfl;have x2:=hv 2 _ (by omega) rfl;have x3:=hv 3 _ (by omega) rfl;have x4:=hv 4 _ (by omega) rfl;have x5:=hv 5 _ (by omega) rfl;have x7:=hv 7 _ (by omega) rfl;have ou:=aP.env;rw[aS 7 (by omega)]at ou;have HE9:=aa (show WEnv a (.slice (some ⟨b1,o1,none⟩) a.states.length ca) k w Br Bo Ba Bf wb (L++jM a d word (l.take j)) (word++[m.r]) W' from ou);simp only[bD,cX,List.setIfInBounds_toArray,List.set_cons_succ,List.set_cons_zero,Nat.reduceAdd,x0,x1,x2,x3,x4,x5,x7]at hF;generalize x 6=y6 at hF;subst hF;clear hv aS aP ou x0 x1 x2 x3 x4 x5 x7;simp only[List.drop_succ_cons,List.drop_zero];have fi:=ih m.to.toNat (L++jM a d word (l.take j)) (word++[m.r]) W' (by have:=yG.o;simp;omega) HM.o.2 HINM.o (HLJ.o) HE9.o;rw[List.length_append,List.length_singleton,HTON.o]at fi;have bW:=aa fi;clear fi ih
     go_wp2_with fail
     refine bW.o.mono ?_;rintro e w9 ⟨⟨u9,rfl⟩,ou⟩;have HE10:=aa ou;clear ou
     go_wp2_with fail
     go_roundw
     ·
      refine⟨j+1,by omega,by go_num,?_⟩;rw[jF.o,<-List.append_assoc];exact HE10.o.shrink
     ·simp[intOf];omega
   ·obtain rfl:j=l.length:=by omega
    rw[List.take_length]at Xp;clear n'
    go_wp2_with fail
    go_returns
    exact⟨⟨_,rfl⟩,Xp.o⟩
theorem xU(P:Program) (w:World) (a:Addr) (m:Mode) (g:Fn) (b c:Array Value):(store a (.func g b c) m).run P w=stored P w a (.func g b c) m:=run_store P w a _ m rfl
attribute [local go_sem] xU
theorem ON(cs:Array Value) (m:Nat):(madeCells cs m).size=m:=by simp[madeCells]
theorem Ml(n:Nat) (hn:n<=4096) (w:World):(Instr.makeSlice 221 (.int .i64 0) (.int .i64 (n:Int))).run Tryz.prog w=.ok (.slice (some ⟨w.heap.size,0,none⟩) 0 n) (w.alloc (.cells (madeCells (Value.slice none 0 0).cells n) 87)):=by
 obtain⟨i,hi,cC,bY,cD⟩:=info_parts Tryz.infoWordRow;have:=run_make (P:=Tryz.prog) w 221 87 i (.slice none 0 0) Tryz.underlying221 hi cC .i64 .i64 0 (n:Int) (by omega) (by omega) (by rw[cD];omega) (by omega);rw[this,bY,Nat.mul_one];rfl
theorem Kl(k:Nat) (hk:k<=6) (w:World):(Instr.makeSlice 87 (.int .i64 0) (.int .i64 (k:Int))).run Tryz.prog w=.ok (.slice (some ⟨w.heap.size,0,none⟩) 0 k) (w.alloc (.cells (madeCells (Value.agg #[.int .i64 0,.int .i64 0,.int .i64 0,.int .i64 0,.int .i64 0,.int .i64 0,.int .i64 0]).cells (k * 7)) 141)):=by
 obtain⟨i,hi,cC,bY,cD⟩:=info_parts Tryz.infoRound;have:=run_make (P:=Tryz.prog) w 87 141 i _ Tryz.underlying87 hi cC .i64 .i64 0 (k:Int) (by omega) (by omega) (by rw[cD];omega) (by omega);rw[this,bY];rfl
theorem Hx{W:World} {base g n k:Nat} {e:TypeId} {cs:Array Value} (h:W.heap[g]?=some (.cells (madeCells cs (n * k)) e)) (hb:base<=g) (hn:n<=1048576):aI W base e k (.slice (some ⟨g,0,none⟩) 0 n) 0 []:=
 ⟨by simp,.inr ⟨g,n,_,(0,0),rfl,hb,h,fun i _ h=>by have:=h.2;simp at this,by omega,by unfold maxLen;omega,ON _ _,by simp⟩⟩
def VR(base k:Nat):MP:=⟨fun v W=>∃ g,base<=g/\v=.slice (some ⟨g,0,none⟩) 0 k/\aI W base 141 7 (.slice (some ⟨g,0,none⟩) 0 k) 0 [],fun _ _ _ h hb=>by obtain⟨g,h1,h2,h3⟩:=h;exact⟨g,h1,h2,h3.up hb⟩⟩
theorem U1{base k g:Nat} {W:World} (h1:base<=g) (h3:aI W base 141 7 (.slice (some ⟨g,0,none⟩) 0 k) 0 []):(VR base k).p (.slice (some ⟨g,0,none⟩) 0 k) W:=⟨g,h1,rfl,h3⟩
theorem sG{w:World} {v:Value} {l:List (List Mv)} (h:bA w v l):∀ s,∀ m∈l.getD s [],pL m.r:=fun s m hm=>by
 by_cases hs:s<l.length
 ·rw[aA [] hs]at hm;obtain⟨pa,ca,rfl,_,_,ea⟩:=h.at;obtain⟨_,_,_,x,_,hx⟩:=ea s hs;obtain⟨px,qx,rfl,_,_,ex⟩:=hx.at;obtain⟨j,hj,rfl⟩:=List.getElem_of_mem hm;obtain⟨_,_,_,⟨⟨_,j0⟩,⟨_,j1⟩,⟨_,j2⟩,⟨_,j3⟩,⟨_,j4⟩,⟨_,j5⟩,⟨_,j6⟩⟩,_⟩:=ex j hj;exact⟨j0,j1,j2,j3,j4,j5,j6⟩
 ·rw[List.getD_eq_getElem?_getD,List.getElem?_eq_none (by omega)]at hm;simp at hm
theorem v8(a:Adv) (h:∀ s,∀ m∈a.states.getD s [],pL m.r) (k:Nat):∀ s,∀ x∈cg a k s,∀ r∈x,pL r:=by
 induction k with
 | zero=>intro s x hx r hr;simp[cg]at hx;subst hx;simp at hr
 | succ k ih=>
  intro s x hx r hr;simp only[cg,List.mem_flatMap,List.mem_map]at hx;obtain⟨m,hm,y,hy,rfl⟩:=hx;rcases List.mem_cons.1 hr with rfl|hr
  ·exact h s m hm
  ·exact ih _ y hy r hr
theorem uS{a:Adv} (h:advE a=0):∀ s,s<a.states.length->∀ m∈a.states.getD s [],0<=m.to/\m.to.toNat<a.states.length:=fun s hs m hm=>by
 rw[aA [] hs]at hm;obtain⟨j,hj,rfl⟩:=List.getElem_of_mem hm;have:=(lg (hZ h).2.1 hs hj).2;omega
def qg(a:Adv) (r:Int):List (List Rd) × Int:=if (countedR 4096 a r).2≠0 then([],(countedR 4096 a r).2) else(cg a r.toNat 0,0)
theorem Mm{a:Adv} {r:Int} (h:(countedR 4096 a r).2=0):advE a=0/\0<=r/\r<=6/\(cg a r.toNat 0).length<=4096/\(countedR 4096 a r).1=(cg a r.toNat 0).length:=by
 unfold countedR at h ⊢;by_cases h1:advE a=0
 ·rw[if_neg (by simpa using h1)]at h ⊢;by_cases h2:r<0\/6<r
  ·rw[if_pos h2]at h;cases h
  ·rw[if_neg h2]at h ⊢;have hn:=rg (L:=4096) (by omega) a (fun s hs m hm=>(uS h1 s hs m hm).2) (by have:=(hZ h1).1;omega) r.toNat;by_cases h3:4096<numberL 4096 a r.toNat
   ·rw[if_pos h3]at h;cases h
   ·rw[if_neg h3];refine⟨h1,by omega,by omega,?_,?_⟩
    ·omega
    ·show numberL 4096 a r.toNat=_
     omega
 ·rw[if_pos h1]at h;exact absurd h h1
theorem OO(a:Adv) (v:Value) (r:Int) (w:World) (hv:bA w v a.states) (hN:movesN a.states<1099511627776) :
  Calls Tryz.prog 162 #[.agg #[.int .i64 a.n,v],.int .i64 r] w fun e w'=>∃ u,e=.returned (.tuple #[u,.int .i64 (qg a r).2])/\fe 1 (mH 7 pn) w' u (qg a r).1/\(∀ ad n c,u=.slice (some ad) n c->w.heap.size<=ad.block)/\Below w.heap.size w w':=by
 have HV:=aa hv;obtain⟨pa,ca,rfl,_⟩:=hv.at;clear hv
 go_enter Tryz.func162,Tryz.ntmps162
 go_wp2_with fail
 refine aQ (fun W=>Below w.heap.size w W/\W.heap[w.heap.size]?=some (.cells #[.int .i64 a.n,.slice pa a.states.length ca] 27)/\W.heap[w.heap.size+1]?=some (.cells #[.int .i64 r] 3)) ⟨by go_grown,az _ (aq _ _),bz _ _ _⟩ (fun W0 bh=>?_);obtain⟨aJ,bK,gq⟩:=bh;refine(zZ a _ r 4096 W0 (HV.o.up up_moves aJ) hN (by omega) (by omega)).mono ?_;rintro e w1 ⟨rfl,aM⟩;have jj:=ae aJ aM;have eN:=af aM bK;have rW:=af aM gq;by_cases he:(countedR 4096 a r).2=0
 case neg=>
  have Dq:am (qg a r=([],(countedR 4096 a r).2)):=aa (by unfold qg;rw[if_pos he]);generalize (countedR 4096 a r).2=x at he Dq;have TN:(x != 0)=true:=by simpa using he
  clear bK gq eN rW he
  go_wp2_with fail
  go_ret2
  rw[Dq.o];exact⟨_,rfl,⟨none,0,rfl,⟨by simp,by omega,fun _=>rfl⟩,by simp,fun i x hx=>by simp at hx⟩,(fun ad n c e=>by cases e),jj⟩
 obtain⟨ha,rU,qz,cN,lG⟩:=Mm he;obtain⟨k,rfl⟩:∃ k:Nat,r=(k:Int):=⟨r.toNat,by omega⟩;rw[Int.toNat_natCast]at cN lG;have Dq:am (qg a k=(cg a k 0,0)):=aa (by unfold qg;rw[if_neg (by simpa using he),Int.toNat_natCast]);have Qg:=aa (uS ha);have HAOK:=aa (hZ ha);rw[he,lG];have hk:k<=6:=by omega
 have qQ:=aa cN;generalize hn:(cg a k 0).length=n at cN;have HN:=aa hn;have gc:=Ml n cN;clear hn he lG ha rU qz;have bY:=jj.size;have dN:=aa eN;have dd:=aa rW;clear bK gq eN rW
 go_wp2_with fail
 refine bF (fun W=>Below w.heap.size w W/\W.heap[w.heap.size]?=some (.cells #[.int .i64 a.n,.slice pa a.states.length ca] 27)/\W.heap[w.heap.size+1]?=some (.cells #[.int .i64 k] 3)/\W.heap[w1.heap.size]?=some (.cells (madeCells (Value.slice none 0 0).cells n) 87)/\W.heap[w1.heap.size+1]?=some (.cells #[.slice (some ⟨w1.heap.size,0,none⟩) 0 n] 221)/\W.heap[w1.heap.size+1+1]?=some (.cells #[BZ (w.heap.size+1) (w1.heap.size+1) w.heap.size (w1.heap.size+1+1)] 259)) ?_ (fun W2 fh=>?_)
 ·exact⟨((jj.alloc bY _).alloc (by simp only[World.size_alloc];omega) _).alloc (by simp only[World.size_alloc];omega) _,az _ (az _ (az _ dN.o)),az _ (az _ (az _ dd.o)),az _ (az _ (aq _ _)),az _ (bz _ _ _),eA _ _ _ _⟩
 obtain⟨g1,g2,g3,g4,g5,g6⟩:=fh;have G1:=aa g1;have G2:=aa g2;have G3:=aa g3;have G4:=aa g4;have G5:=aa g5;have G6:=aa g6;have cD:=g1.size;clear g1 g2 g3 g4 g5 g6 gc
 refine fD 3 [22,23,24] [MP.eq (BZ (w.heap.size+1) (w1.heap.size+1) w.heap.size (w1.heap.size+1+1)),
  MP.eq (.int .i64 k),
  VR w.heap.size k] (by kernel_rfl) (by simp) (by decide) rfl (by kernel_rfl) (by kernel_rfl) (by kernel_rfl) ?step ?tail
 case step=>
  intro x W i o s F hi ho hs hB ar hF;have fO:i=0\/i=1\/i=2:=by omega
  rcases fO with rfl|rfl|rfl
  all_goals (obtain rfl:=dp ho.symm;obtain rfl:=dp hs.symm;simp only[bD,cX,List.setIfInBounds_toArray,List.set_cons_succ,List.set_cons_zero,Nat.reduceAdd]at hF)
  ·clear ar hi ho hs;have t1:=ab (af hB G6.o) 0;simp at t1;subst hF
   go_wp2_with fail
   exact kP _ (Below.refl _ _) rfl
  ·clear ar hi ho hs;have t1:=ab (af hB G3.o) 0;simp at t1;subst hF
   go_wp2_with fail
   exact kP _ (Below.refl _ _) rfl
  ·have d1:=pB (ar ⟨1,.data⟩ (by simp) rfl);clear ar hi ho hs;have gc:=Kl k hk;simp only[d1]at hF;subst hF
   go_wp2_with fail
   refine bB.mk (.slice (some ⟨W.heap.size,0,none⟩) 0 k) ?_ ?_ ?_
   ·exact(by go_grown)
   ·exact U1 (by have:=hB.size;omega) (Hx (aq _ _) (by have:=hB.size;omega) (by omega))
   ·first
    | rfl
    | simp only[List.setIfInBounds_toArray,List.set_cons_succ,List.set_cons_zero]
 case tail=>
  intro x W3 F hB aS hF;have d0:x 0=(BZ (w.heap.size+1) (w1.heap.size+1) w.heap.size (w1.heap.size+1+1)):=aS 0 (by omega);have d1:x 1=.int .i64 k:=aS 1 (by omega);have d2:=aS 2 (by omega);obtain⟨wb,An,e2,qp⟩:∃ g,w.heap.size<=g/\x 2=.slice (some ⟨g,0,none⟩) 0 k/\aI W3 w.heap.size 141 7 (.slice (some ⟨g,0,none⟩) 0 k) 0 []:=d2;clear aS;simp only[bD,cX,List.setIfInBounds_toArray,List.set_cons_succ,List.set_cons_zero,Nat.reduceAdd]at hF;rw[d0,d1,e2]at hF;subst hF;have ff:=aa hB;have oO:=aa qp;clear hB qp d0 d1 e2;simp only[List.drop_succ_cons,List.drop_zero]
  have pP:WEnv a (.slice pa a.states.length ca) k w (w.heap.size+1) (w1.heap.size+1) w.heap.size (w1.heap.size+1+1) wb [] [] W3:=
   ⟨ae G1.o ff.o,by omega,af ff.o G3.o,af ff.o G2.o,af ff.o G6.o,⟨_,[],af ff.o G5.o,Hx (n:=n) (cs:=(Value.slice none 0 0).cells) (by rw[Nat.mul_one];exact af ff.o G4.o) (by omega) (by omega),fun i hi=>by simp at hi⟩,oO.o⟩
  have fi:=Mk a _ k hk w HV.o Qg.o _ _ _ _ wb k 0 [] [] W3 (by simp) (by have:=HAOK.o.1;omega) (fun r hr=>by simp at hr) (by have:=HN.o;simp;omega) pP;simp only[List.length_nil,List.nil_append,List.map_id']at fi;have bW:=aa fi;clear fi pP
  go_wp2_with fail
  refine bW.o.mono ?_;rintro e w9 ⟨⟨u9,rfl⟩,ou⟩;have hbw9:=ou.old;obtain⟨vo,xs,q1,q2,q3⟩:=ou.o;obtain⟨wcur,wfz,hw9,hwlo⟩:=ou.wb_at;have t1:=ab q1 0;simp at t1;have jE:am (fe 1 (mH 7 pn) w9 vo (cg a k 0)):=aa (cB.sl (base:=w.heap.size) ⟨xs,q2,fun i hi=>by obtain⟨y,p1,p2⟩:=q3 i hi;exact⟨y,p1,p2.base (by omega)⟩⟩ (fun y l hl hy=>rF hy (fun i hi=>v8 a (sG HV.o) k 0 l hl _ (List.getElem_mem hi)) (by have:=kh a k 0 l hl;omega)) (by have:=HN.o;omega))
  have HLO9:am (∀ ad n c,vo=.slice (some ad) n c->w.heap.size<=ad.block):=aa (fun ad n c e=>by
   rcases q2.2 with ⟨e2,_⟩|⟨g,cap,cur,fz,e2,h1,_⟩
   ·rw[e2]at e;cases e
   ·rw[e2]at e;cases e;exact h1)
  obtain⟨av,cv,rfl⟩:=q2.slice;clear q1 q2 q3 ou hw9
  go_wp2_with fail
  go_ret2
  rw[Dq.o];exact⟨_,rfl,jE.o,HLO9.o,hbw9⟩
end Go.Proofs.YtmeaoneaephjeaaGreatDoor
