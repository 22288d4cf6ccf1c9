/-
  A part of the proof: lemmas and contracts that the parts behind it use. Each one's conditions are its own premises.
-/
import Derived.Test.YtmeaoneaephjeaaGreatDoorT7
set_option maxRecDepth 100000
set_option maxHeartbeats 8000000
set_option linter.unusedVariables false
set_option linter.unusedSimpArgs false
namespace Go.Proofs.YtmeaoneaephjeaaGreatDoor
open Go.RowKit Go Go.Shelf
section
variable {ts : List TypeId} {ms : List Nat} {base : Nat} {w w' w'' : World}
theorem KeepT.up(h:KeepT ts ms base w w') (hb:Below w'.heap.size w' w'') (hs:base<=w.heap.size):KeepT ts ms base w w'':=
 h.trans (.of_below ts hb (Nat.le_trans hs h.old.size))
end
theorem sT{p:Pb} (h:probE p=0):∀ i,i<=p.t.cases.length * (aO p).length->(stP p i).1.length<=i * 35
 | 0,_=>by simp[stP,execsS]
 | i+1,hi=>by
  have ih:=sT h i (by omega);obtain⟨ny,_,_,rU,qz⟩:=gD h;obtain⟨⟨_,ju⟩,_,_,⟨_,bX⟩,fL⟩:=fp ny;have aD:i<p.t.cases.length * (aO p).length:=by omega
  have oJ:0<(aO p).length:=by
   rcases Nat.eq_zero_or_pos (aO p).length with h|h
   ·rw[h]at aD;simp at aD
   ·exact h
  have hj:i % (aO p).length<(aO p).length:=Nat.mod_lt _ oJ
  have Qw:((aO p)[i % (aO p).length]).length<=6:=by
   have:=kh p.a p.rounds.toNat 0 _ (List.getElem_mem (l:=aO p) hj);omega
  have dO:=ww p i aD;unfold ki at dO;dsimp only at dO;rw[aA [] hj]at dO;have cN:=(it p.t.n.toNat (p.t.cases.getD (i / (aO p).length) default).inp (aO p)[i % (aO p).length] (stP p i).1 ((aO p)[i % (aO p).length]).length).2.2;have h9:p.t.n.toNat * (((aO p)[i % (aO p).length]).length+1)<=5 * 7:=Nat.mul_le_mul (by omega) (by omega);rw[dO];simp only[gt];omega
theorem PP{P:Rd->Prop} (a:Adv) (h:∀ s,∀ m∈a.states.getD s [],P m.r) (k:Nat):∀ s,∀ x∈cg a k s,∀ r∈x,P r:=by
 induction k with
 | zero=>intro s x hx r hr;simp[cg]at hx;subst hx;simp at hr
 | succ k ih=>
  intro s x hx r hr;simp only[cg,List.mem_flatMap,List.mem_map]at hx;obtain⟨m,hm,y,hy,rfl⟩:=hx;rcases List.mem_cons.1 hr with rfl|hr
  ·exact h s m hm
  ·exact ih _ y hy r hr
theorem PQ{p:Pb} (h:probE p=0):∀ x∈aO p,∀ r∈x,OkR p.a.n r:=by
 have ha:=(gD h).2.1;refine PP p.a (fun s m hm=>O7 ha ((Ad p.a m.r).2 ?_)) _ 0;by_cases hs:s<p.a.states.length
 ·rw[aA [] hs]at hm;exact⟨_,List.getElem_mem hs,m,hm,rfl⟩
 ·rw[List.getD_eq_getElem?_getD,List.getElem?_eq_none (by omega)]at hm;simp at hm
def btT(n:Nat) (inp:List Int) (word:List Rd) (tb:List Vw):Nat->List Vw × List (List Int)
 | 0=>(tb,[])
 | k+1=>playTo n inp word tb k
def btV(n:Nat) (inp:List Int) (word:List Rd) (k:Nat) (now:List Int):List Vw:=(List.range n).map fun q=>if k=0 then eh inp q else nextV n (k - 1) (word.getD (k - 1) default) now q
theorem VI(n:Nat) (inp:List Int) (word:List Rd) (k:Nat) (now:List Int):(btV n inp word k now).length=n:=by simp[btV]
theorem Sg(n:Nat) (inp:List Int) (word:List Rd) (tb:List Vw):∀ k,btT n inp word tb (k+1)=((addAll (btT n inp word tb k).1 (btV n inp word k ((btT n inp word tb k).2.getLastD []))).1,(btT n inp word tb k).2++[(addAll (btT n inp word tb k).1 (btV n inp word k ((btT n inp word tb k).2.getLastD []))).2])
 | 0=>rfl
 | _+1=>rfl
theorem VJ(n:Nat) (inp:List Int) (word:List Rd) (tb:List Vw):∀ k,(btT n inp word tb k).2.length=k/\(btT n inp word tb k).1.length<=tb.length+n * k/\∀ row∈(btT n inp word tb k).2,row.length=n
 | 0=>⟨rfl,Nat.le_add_right _ _,fun row h=>by simp[btT]at h⟩
 | k+1=>⟨(it n inp word tb k).1,(it n inp word tb k).2.2,uA n inp word tb k⟩
theorem Wh(n:Nat) (hn:n<=5) (inp:List Int) (hi:∀ x∈inp,bT x) (word:List Rd) (tb:List Vw) (ht:∀ v∈tb,jS v) (hl:tb.length+40<=100000):∀ k,k<=7->(∀ v∈(btT n inp word tb k).1,jS v)/\∀ row∈(btT n inp word tb k).2,∀ z∈row,0<=z/\z<=(100000:Int)
 | 0,_=>⟨ht,fun row h=>by simp[btT]at h⟩
 | k+1,hk=>yk n hn inp hi word tb ht k (by omega) hl
theorem Wi(n:Nat) (hn:n<=5) (inp:List Int) (hi:∀ x∈inp,bT x) (word:List Rd) (k:Nat) (hk:k<=7) (now:List Int) (pQ:∀ z∈now,0<=z/\z<=(100000:Int)):∀ v∈btV n inp word k now,jS v:=fun v hv=>by
 obtain⟨q,hq,rfl⟩:=List.mem_map.1 hv;have hq:=List.mem_range.1 hq;have z1:bT (-1):=⟨by omega,by omega⟩;have z0:bT 0:=⟨by omega,by omega⟩;by_cases h0:k=0
 ·rw[if_pos h0]
  have hx:bT (inp.getD q 0):=by
   by_cases h:q<inp.length
   ·rw[aA 0 h];exact hi _ (List.getElem_mem h)
   ·rw[List.getD_eq_getElem?_getD,List.getElem?_eq_none (by omega)];exact z0
  exact⟨uX q (by omega),z0,hx,z1,z1,z1,z1,z1⟩
 ·rw[if_neg h0]
  have hh:∀ p,bT (l6 n (word.getD (k - 1) default) now q p):=fun p=>by
   unfold l6;split
   ·by_cases h:p<now.length
    ·rw[aA 0 h];have:=pQ _ (List.getElem_mem h);exact⟨by omega,by omega⟩
    ·rw[List.getD_eq_getElem?_getD,List.getElem?_eq_none (by omega)];exact z0
   ·exact z1
  exact⟨uX q (by omega),⟨by simp only[nextV];omega,by simp only[nextV];omega⟩,z0,hh 0,hh 1,hh 2,hh 3,hh 4⟩
def qm(tb:List Vw) (vs:List Vw) (q:Nat):List Vw × List Int:=addAll tb (vs.take q)
theorem VK(tb vs:List Vw):qm tb vs vs.length=addAll tb vs:=by unfold qm;rw[List.take_length]
theorem Sh(tb vs:List Vw) (q:Nat) (hq:q<vs.length):qm tb vs (q+1)=((putV (qm tb vs q).1 vs[q]).1,(qm tb vs q).2++[((putV (qm tb vs q).1 vs[q]).2:Int)]):=by
 unfold qm;rw[ul tb vs q hq];rfl
theorem Wj(tb vs:List Vw) (hv:∀ v∈vs,jS v) (ht:∀ v∈tb,jS v) (hl:tb.length+vs.length<=100000) (q:Nat):(∀ v∈(qm tb vs q).1,jS v)/\(∀ z∈(qm tb vs q).2,0<=z/\z<=(100000:Int))/\(qm tb vs q).1.length<=100000:=by
 have kW:(vs.take q).length<=vs.length:=by rw[List.length_take];omega
 have h:=yh 100000 (vs.take q) (tb,[]) (fun v h=>hv v (List.mem_of_mem_take h)) ht (fun z hz=>by simp at hz) (by dsimp only;omega);have h2:=fM (vs.take q) (tb,[]);exact⟨h.1,h.2,by have:=h2.2;simp only[qm,addAll]at this ⊢;omega⟩
theorem VL(tb vs:List Vw) (q:Nat) (hq:q<=vs.length):(qm tb vs q).2.length=q:=by
 have h2:=(fM (vs.take q) (tb,[])).1;simp only[qm,addAll];rw[h2,List.length_take];simp;omega
end Go.Proofs.YtmeaoneaephjeaaGreatDoor
namespace Go.Proofs.YtmeaoneaephjeaaGreatDoor
open Go.RowKit Go Go.Shelf
attribute [local go_sem] Oper.semAt_some
abbrev Fq(p:Pb) (n K:Nat) (vc vs vt ve:Value):Array Value:=#[.int .i64 n,.int .i64 p.t.ins,.int .i64 p.t.outs,vc,.int .i64 p.a.n,vs,.int .i64 K,.int .i64 n,vt,ve]
structure BtI (p:Pb) (n K:Nat) (vc vs:Value) (w w4:World) (st:List Vw × List Ex) (V:World):Prop where
 keep:KeepT [35,89] [] (w.heap.size+1+1) w4 V
 sys:∃ vt ve xs,V.heap[w.heap.size+1+1]?=some (.cells (Fq p n K vc vs vt ve) 35)/\aI V (w.heap.size+1+1) 190 8 vt st.1.length (eX st.1)/\aI V (w.heap.size+1+1) 89 3 ve st.2.length xs/\∀ k (hk:k<st.2.length),zx V (w.heap.size+1+1) xs k (st.2[k])
structure BtK (p:Pb) (n K:Nat) (vc vs ve wv:Value) (w Ve:World) (ci:Nat) (st:List Vw × List (List Int)) (V:World):Prop where
 keep:KeepT [35] [] (w.heap.size+1+1) Ve V
 sys:∃ vt,V.heap[w.heap.size+1+1]?=some (.cells (Fq p n K vc vs vt ve) 35)/\aI V (w.heap.size+1+1) 190 8 vt st.1.length (eX st.1)
 ex:∃ vv,V.heap[Ve.heap.size]?=some (.cells #[.int .i64 ci,wv,vv] 89)/\cS V Ve.heap.size vv st.2
structure BtQ (p:Pb) (n K:Nat) (vc vs ve:Value) (w Vk:World) (st:List Vw × List Int) (q:Nat) (l:Value) (V:World):Prop where
 keep:KeepT [35] [] (w.heap.size+1+1) Vk V
 sys:∃ vt,V.heap[w.heap.size+1+1]?=some (.cells (Fq p n K vc vs vt ve) 35)/\aI V (w.heap.size+1+1) 190 8 vt st.1.length (eX st.1)
 row:aI V Vk.heap.size 3 1 l q (st.2.map (Value.int .i64))
structure BtP (p:Pb) (n K:Nat) (vc vs ve vt:Value) (w Vk:World) (st:List Vw × List Int) (l:Value) (q bv:Nat) (v:Vw) (V:World):Prop where
 keep:KeepT [35] [] (w.heap.size+1+1) Vk V
 sys:V.heap[w.heap.size+1+1]?=some (.cells (Fq p n K vc vs vt ve) 35)
 tab:aI V (w.heap.size+1+1) 190 8 vt st.1.length (eX st.1)
 row:aI V Vk.heap.size 3 1 l q (st.2.map (Value.int .i64))
 v:V.heap[bv]?=some (.cells v.c 190)
theorem BtQ.up{p:Pb} {n K:Nat} {vc vs ve:Value} {w Vk:World} {st:List Vw × List Int} {q:Nat} {l:Value} {V V':World} (h:BtQ p n K vc vs ve w Vk st q l V) (hb:Below V.heap.size V V') (hs:w.heap.size+1+1<=Vk.heap.size):BtQ p n K vc vs ve w Vk st q l V':=by
 obtain⟨vt,h1,h2⟩:=h.sys;exact⟨h.keep.up hb hs,⟨vt,af hb h1,h2.up hb⟩,h.row.up hb⟩
theorem GD(tmps:Array Value) (B:Nat) (W:World) (c0 c1 c2 c3 c4 c5 c6 c7 c8 c9:Value) (h2:tmps[2]?.getD undef=.pointer (some ⟨B,0,none⟩))
  (hB:W.heap[B]?=some (.cells #[c0,c1,c2,c3,c4,c5,c6,c7,c8,c9] 35)) :
  (results Tryz.f117 tmps).run Tryz.prog W=.ok (.agg #[c0,c1,c2,c3,c4,c5,c6,c7,c8,c9]) W:=by
 have t2:=ab hB;simp[results,Tryz.results117,go_sem,h2,t2]
theorem BtK.next{p:Pb} {n K q c:Nat} {vc vs ve wv lv vv v9:Value} {w Ve Vk V w9:World} {tb:List Vw} {l:List Int} {views:List (List Int)} {ys:List Value} (hK:KeepT [35] [] (w.heap.size+1+1) Ve Vk) (hQ:BtQ p n K vc vs ve w Vk (tb,l) q lv V) (hx:V.heap[Ve.heap.size]?=some (.cells #[.int .i64 c,wv,vv] 89))
  (jt:aI V Ve.heap.size 38 1 vv views.length ys) (iJ:∀ i (hi:i<views.length),∃ x,ys[i]?=some x/\aI V Ve.heap.size 3 1 x views[i].length (views[i].map (Value.int .i64))) (hl:l.length=q) (eM:w.heap.size+1+1<Ve.heap.size)
  (hg:(V.alloc (.cells #[lv] 38)).grownBy w9 vv.ownBlock) (bg:aI w9 Ve.heap.size 38 1 v9 (views.length+1) (ys++[lv])):BtK p n K vc vs ve wv w Ve c (tb,views++[l]) (w9.setCell ⟨Ve.heap.size,2,none⟩ v9):=by
 have mo:Below V.heap.size V (V.alloc (.cells #[lv] 38)):=by go_grown
 have qp:=jt.up mo
 have LU:aI (V.alloc (.cells #[lv] 38)) Ve.heap.size 3 1 lv l.length (l.map (Value.int .i64)):=by
  rw[hl];exact(hQ.row.base hK.old.size).up mo
 have jY:∀ i (hi:i<views.length),∃ x,ys[i]?=some x/\aI (V.alloc (.cells #[lv] 38)) Ve.heap.size 3 1 x views[i].length (views[i].map (Value.int .i64)):=fun i hi=>by
  obtain⟨x,q1,q2⟩:=iJ i hi;exact⟨x,q1,q2.up mo⟩
 have qZ:cS w9 Ve.heap.size v9 (views++[l]):=cB.snoc qp jY (by decide) LU hg bg;have Di:=gW qp hg hx (by decide);obtain⟨vt,h1,h2⟩:=hQ.sys;have h2':=(h2.up mo).apart qp (by decide) hg;have k3:=((hK.trans hQ.keep).up mo (by omega)).grownNew (by omega) (fun g hg=>(qp.lt g hg).1) hg;have kk:=(KeepT.refl (ms:=[]) [89] Ve.heap.size w9).set (o:=2) Di (by simp) (Nat.le_refl _) v9;exact⟨k3.setNew (by omega) (Nat.le_refl _) _,⟨vt,aN (gW qp hg h1 (by decide)) (by omega) _ _,h2'.put (h2'.ne Di (by decide)) _ _⟩,v9,(aH Di _ _).trans rfl,kk.fresh qZ (by decide) (by decide)⟩
theorem BtI.next{p:Pb} {n K c:Nat} {vc vs ve wv vv vt v9:Value} {w w4 Ve V w9:World} {tb2:List Vw} {exs:List Ex} {word:List Rd} {views:List (List Int)} {xs:List Value} (hI:KeepT [35,89] [] (w.heap.size+1+1) w4 Ve) (hK:KeepT [35] [] (w.heap.size+1+1) Ve V)
  (hs:V.heap[w.heap.size+1+1]?=some (.cells (Fq p n K vc vs vt ve) 35)) (ht:aI V (w.heap.size+1+1) 190 8 vt tb2.length (eX tb2)) (he:aI Ve (w.heap.size+1+1) 89 3 ve exs.length xs) (hx:∀ k (hk:k<exs.length),zx Ve (w.heap.size+1+1) xs k exs[k])
  {m:Nat} (hw:aI Ve (w.heap.size+1+1) 141 7 wv m (da word)) (hm:word.length=m) (hv:cS V (w.heap.size+1+1) vv views) (h4:w.heap.size+1+1<w4.heap.size)
  (hg:(V.alloc (.cells #[.int .i64 c,wv,vv] 89)).grownBy w9 ve.ownBlock) (bg:aI w9 (w.heap.size+1+1) 89 3 v9 (exs.length+1) (xs++[.int .i64 c,wv,vv])):BtI p n K vc vs w w4 (tb2,exs++[⟨c,word,views⟩]) (w9.setCell ⟨w.heap.size+1+1,9,none⟩ v9):=by
 subst hm;have mo:Below V.heap.size V (V.alloc (.cells #[.int .i64 c,wv,vv] 89)):=by go_grown
 have eM:=hI.old.size;have JG:=hK.old.size;have qp:=(hK.own he (by decide)).up mo;have sh:=gW qp hg hs (by decide);have k3:=((hI.trans (hK.mono (us:=[35,89]) (ns:=[]) (fun t h=>by simp at h ⊢;exact .inl h) (fun _ h=>h))).up mo (by omega)).grown qp (by simp) (Nat.le_refl _) (by omega) hg;have kk:KeepT [89,35] [] (w.heap.size+1+1) (V.alloc (.cells #[.int .i64 c,wv,vv] 89)) (w9.setCell ⟨w.heap.size+1+1,9,none⟩ v9):=((KeepT.refl _ _ _).grown qp (by simp) (Nat.le_refl _) (by simp;omega) hg).set sh (by simp) (by omega) _;have iF:xs.length=exs.length * 3:=he.1;refine⟨k3.set sh (by simp) (by omega) _,vt,v9,xs++[.int .i64 c,wv,vv],(aH sh _ _).trans rfl,kk.own (ht.up mo) (by decide),?_,fun i hi=>?_⟩
 ·rw[List.length_append,List.length_singleton];exact bg.put (bg.ne sh (by decide)) _ _
 ·rw[List.length_append,List.length_singleton]at hi;by_cases aD:i<exs.length
  ·rw[List.getElem_append_left aD];obtain⟨a,d,p1,p2,p3,p4,p5⟩:=hx i aD;exact⟨a,d,by rw[List.getElem?_append_left (by omega)];exact p1,by rw[List.getElem?_append_left (by omega)];exact p2,by rw[List.getElem?_append_left (by omega)];exact p3,kk.own ((hK.own p4 (by decide)).up mo) (by decide),kk.fresh (cB.up (hK.fresh p5 (by decide) (by decide)) mo) (by decide) (by decide)⟩
  ·obtain rfl:i=exs.length:=by omega
   have e9:(exs++[(⟨c,word,views⟩:Ex)])[exs.length]'(by simp)=⟨c,word,views⟩:=by simp
   rw[e9];refine⟨wv,vv,?_,?_,?_,kk.own ((hK.own hw (by decide)).up mo) (by decide),kk.fresh (cB.up hv mo) (by decide) (by decide)⟩
   ·rw[List.getElem?_append_right (by omega),iF,Nat.sub_self];rfl
   ·rw[List.getElem?_append_right (by omega),iF,Nat.add_sub_cancel_left];rfl
   ·rw[List.getElem?_append_right (by omega),iF,Nat.add_sub_cancel_left];rfl
theorem Wk{p:Pb} {vc vs vt ve:Value} {w V Wf:World} {xs:List Value} (hc:bN Wf vc p.t.cases) (hs:bA Wf vs p.a.states) (ht:aI V (w.heap.size+1+1) 190 8 vt (aK p).tab.length (eX (aK p).tab)) (he:aI V (w.heap.size+1+1) 89 3 ve (aK p).ex.length xs)
  (hx:∀ k (hk:k<(aK p).ex.length),zx V (w.heap.size+1+1) xs k (aK p).ex[k]) (hW:∀ k,w.heap.size+1+1<=k->k<V.heap.size->Wf.heap[k]?=V.heap[k]?) (hg:(∀ v∈(aK p).tab,jS v)/\∀ x∈(aK p).ex,ExGood x) (h1:(aK p).tab.length<=17592186044416) (h2:(aK p).ex.length<=17592186044416):IsSys Wf (aK p) vc vs vt ve:=by
 have tr:∀ {e:TypeId} {k:Nat} {v:Value} {m:Nat} {l:List Value},aI V (w.heap.size+1+1) e k v m l->aI Wf (w.heap.size+1+1) e k v m l:=fun {e k v m l} h=>h.keep fun g o hg ho=>(hW g (h.lt g hg).1 (h.lt g hg).2).trans ho
 refine⟨hc,hs,yq (tr ht) hg.1 h1,KY (tr he) (fun i hi=>?_) hg.2 h2⟩;obtain⟨a,d,p1,p2,p3,p4,ys,p5,p6⟩:=hx i hi;exact⟨a,d,p1,p2,p3,tr p4,ys,tr p5,fun j hj=>by obtain⟨y,r1,r2⟩:=p6 j hj;exact⟨y,r1,tr r2⟩⟩
theorem M9(p:Pb) (vc vs:Value) (w:World) (hc:bN w vc p.t.cases) (hs:bA w vs p.a.states) (hp:probE p=0) (hm:p.t.cases.length * (aO p).length<=200) :
  Calls Tryz.prog 117 #[nN p vc vs] w fun r w'=>∃ vt ve,r=.returned (.agg #[.int .i64 p.t.n,.int .i64 p.t.ins,.int .i64 p.t.outs,vc,.int .i64 p.a.n,vs,.int .i64 p.rounds,.int .i64 p.t.n,vt,ve])/\((∃ a c,vt=.slice a (aK p).tab.length c)/\∃ a c,ve=.slice a (aK p).ex.length c)/\(∀ Wf:World,(∀ k,w.heap.size<=k->k<w'.heap.size->Wf.heap[k]?=w'.heap[k]?)->bN Wf vc p.t.cases->bA Wf vs p.a.states->IsSys Wf (aK p) vc vs vt ve)/\Below w.heap.size w w':=by
 have GC:=aa hc;have GS:=aa hs;have HP:=aa hp;obtain⟨ny,Jj,y9,rU,qz⟩:=gD hp;obtain⟨⟨jV,ju⟩,_,_,⟨wJ,bX⟩,fL⟩:=fp ny
 have JC:(aO p).length<=200:=by
  have h9:1 * (aO p).length<=p.t.cases.length * (aO p).length:=Nat.mul_le_mul_right _ wJ;omega
 have hst0:=(hZ Jj).1;obtain⟨pc,cc,rfl,lc1,lc2,ec⟩:=hc.at;obtain⟨ps,cs,rfl,_⟩:=hs.at;obtain⟨K,hK⟩:∃ K:Nat,p.rounds=K:=⟨p.rounds.toNat,by omega⟩;obtain⟨n,hn⟩:∃ n:Nat,p.t.n=n:=⟨p.t.n.toNat,by omega⟩
 have Nm:am (∀ W,Below w.heap.size w W->Calls Tryz.prog 157 #[.agg #[.int .i64 p.a.n,.slice ps p.a.states.length cs],.int .i64 0,.int .i64 K] W fun r w'=>∃ u,r=.returned u/\uT w' W.heap.size u (aO p)/\Below W.heap.size W w'):=aa fun W hb=>by
  have h:=Fd p.a (fun s hs m hm=>by have:=uS Jj s hs m hm;omega) p.rounds.toNat 0 _ W (by omega) (by omega) (by have:(cg p.a p.rounds.toNat 0)=aO p:=rfl;rw[this];omega) (GS.o.up up_moves hb);rw[show ((p.rounds.toNat:Nat):Int)=(K:Int) by omega]at h;exact h
 have zG:=aa (Be hp (fun c hc=>(wu GC.o c hc).1) (fun x hx=>v8 p.a (sG GS.o) _ _ x hx) (by have:=sT hp (p.t.cases.length * (aO p).length) (Nat.le_refl _);have e:stP p (p.t.cases.length * (aO p).length)=execsS p (aO p) (fj p):=(by unfold stP;rw[List.take_of_length_le (by rw[iu];exact Nat.le_refl _)]);rw[e]at this;omega));have mj:=aa (sT hp);have HWG:am (∀ x∈aO p,x.length=K/\∀ r∈x,OkR n r/\pL r):=aa fun x hx=>⟨by have:=kh p.a p.rounds.toNat 0 x hx;omega,fun r hr=>⟨by have:=PQ hp x hx r hr;rwa [<-y9,hn]at this,v8 p.a (sG GS.o) _ _ x hx r hr⟩⟩
 have ji:am (stP p (p.t.cases.length * (aO p).length)=((aK p).tab,(aK p).ex)):=aa (by unfold stP;rw[List.take_of_length_le (by rw[iu];exact Nat.le_refl _)];rfl);have dI:am (∀ c (hc:c<p.t.cases.length),(p.t.cases[c]).inp.length=n):=aa fun c hc=>by have:=(fL _ (List.getElem_mem hc)).inp;omega
 have HEC:=aa ec;have NL:=aa (ww p);obtain⟨nc,iI⟩:∃ nc,p.t.cases.length=nc:=⟨_,rfl⟩;obtain⟨nw,mi⟩:∃ nw,(aO p).length=nw:=⟨_,rfl⟩;have Da:=aa iI;have F1:=aa mi;obtain⟨ns,oL⟩:∃ ns,p.a.states.length=ns:=⟨_,rfl⟩;rw[iI]at lc1 lc2 wJ bX hm ji mj zG NL ⊢;rw[mi]at hm JC ji mj zG NL;have Gc:=aa oL;rw[oL]at Nm ⊢;have HN:=aa hn;have j9:=aa hK;clear hc hs hp ny Jj y9 fL ec iI mi hst0 oL rU;have ju:n<=5:=by omega
 have jV:1<=n:=by omega
 have hK6:K<=6:=by omega
 show Calls Tryz.prog 117 #[.agg #[.int .i64 p.t.n,.int .i64 p.t.ins,.int .i64 p.t.outs,.slice pc nc cc,.int .i64 p.a.n,.slice ps ns cs,.int .i64 p.rounds]] w _
 rw[hn,hK];clear hn hK;obtain⟨i0,cY,cC,bY,cD⟩:=info_parts Tryz.infoInt;have bZ:=aa (And.intro cY (And.intro cC (And.intro bY cD)));obtain⟨i1,oY,jb,jt,iJ⟩:=info_parts Tryz.infoInts;have tW:=aa (And.intro oY (And.intro jb (And.intro jt iJ)));obtain⟨i2,TG,dq,dA,dW⟩:=info_parts Tryz.infoExec;have Ui:=aa (And.intro TG (And.intro dq (And.intro dA dW)));clear cY cC bY cD oY jb jt iJ TG dq dA dW
 go_enter Tryz.func117,Tryz.ntmps117
 go_wp2_with fail
 refine aQ (fun W=>Below w.heap.size w W/\W.heap[w.heap.size]?=some (.cells #[.int .i64 n,.int .i64 p.t.ins,.int .i64 p.t.outs,.slice pc nc cc,.int .i64 p.a.n,.slice ps ns cs,.int .i64 K] 29)/\W.heap[w.heap.size+1]?=some (.cells zeroSys 35)/\W.heap[w.heap.size+1+1]?=some (.cells #[.int .i64 n,.int .i64 p.t.ins,.int .i64 p.t.outs,.slice pc nc cc,.int .i64 p.a.n,.slice ps ns cs,.int .i64 K,.int .i64 n,.slice none 0 0,.slice none 0 0] 35)) ⟨by go_grown,az _ (az _ (aq _ _)),az _ (bz _ _ _),eA _ _ _ _⟩ (fun W0 bh=>?_);obtain⟨aJ,bK,gq,XF⟩:=bh;refine(Nm.o W0 aJ).mono ?_;rintro r w4 ⟨u,rfl,hu,bR⟩;have eU:=aa (ae aJ bR);have TY:=aa (af bR bK);have pk:=aa (af bR gq);have Fv:=aa (af bR XF);have yH:=aC Fv.o;have hsW0:=aC XF;obtain⟨xs0,Fx,QK⟩:=hu;rw[F1.o]at Fx;obtain⟨pu,cu,rfl⟩:=Fx.slice;have tt:=aa Fx;have F2:=aa QK;have bZ:am (BtI p n K (.slice pc nc cc) (.slice ps ns cs) w w4 ([],[]) w4):=aa ⟨KeepT.refl _ _ _,.slice none 0 0,.slice none 0 0,[],Fv.o,aI.nil _ _ _ _,aI.nil _ _ _ _,fun k hk=>by simp at hk⟩;clear aJ bK gq XF bR Nm Fx QK
 go_wp2_with fail
 go_loopw [5] (fun i wr=>∃ c:Nat,c<=nc/\i=.int .i64 c/\BtI p n K (.slice pc nc cc) (.slice ps ns cs) w w4 (stP p (c * nw)) wr) (fun i _=>nc - (intOf i).toNat)
 ·exact⟨0,by omega,rfl,by rw[Nat.zero_mul];exact bZ.o⟩
 ·
  clear bZ;obtain⟨c,hc,rfl,hI⟩:=hrel;have HI:=aa hI;have hA:=hI.keep.keep _ _ _ _ TY.o (by decide);have eM:=hI.keep.old.size;have dx:Below w.heap.size w wr:=eU.o.trans (hI.keep.old.mono (by omega));have eY:=aa dx;have tA:=ab hA;clear hI hA dx;by_cases aD:c<nc
  ·obtain⟨bc,oc,rfl,⟨vi,ci0,vN⟩,_,_⟩:=HEC.o c (by rw[Da.o];exact aD);have gQ:=dI.o c (by rw[Da.o];exact aD);have cZ:=(wu GC.o _ (List.getElem_mem (l:=p.t.cases) (show c<p.t.cases.length by rw[Da.o];exact aD))).1;obtain⟨inp,Tg⟩:∃ inp,(p.t.cases[c]'(by rw[Da.o];exact aD)).inp=inp:=⟨_,rfl⟩;have HINP:am ((p.t.cases.getD c default).inp=inp):=aa (by rw[aA default (by rw[Da.o];exact aD)];exact Tg);rw[Tg]at vN gQ cZ;obtain⟨pi,cpi,rfl,ei⟩:=dY vN;have HEI:=aa ei;have jd:=aa cZ;have P5:=aa gQ;have nD:=aa ci0;obtain⟨wrA,lV⟩:∃ x,x=wr:=⟨_,rfl⟩;subst lV;clear vN gQ cZ ei ci0 Tg
   go_wp2_with fail
   clear tA
   go_loopw [6] (fun i wr=>∃ j:Nat,j<=nw/\i=.int .i64 j/\BtI p n K (.slice (some ⟨bc,oc,none⟩) nc cc) (.slice ps ns cs) w w4 (stP p (c * nw+j)) wr) (fun i _=>nw - (intOf i).toNat)
   ·exact⟨0,by omega,rfl,HI.o⟩
   ·
    clear HI eY eM;obtain⟨j,hj,rfl,hI⟩:=hrel;have eM:=hI.keep.old.size;by_cases fJ:j<nw
    ·obtain⟨vt,ve,xs,fV,iT,nj,yH⟩:=hI.sys;have Jy:(c+1) * nw<=nc * nw:=Nat.mul_le_mul_right nw (by omega);rw[Nat.succ_mul]at Jy;have XU:j<(aO p).length:=by rw[F1.o];exact fJ
     obtain⟨xw,LR,qB⟩:=F2.o j XU;obtain⟨g0,c0,e0,vD⟩:=(hI.keep.own tt.o (by decide)).cell j xw LR;injection e0 with e01 e02 e03
     subst e01;subst e03;clear e02;have Lf:=HWG.o _ (List.getElem_mem (l:=aO p) XU);have qp:=hI.keep.own qB (by decide);have dO:=NL.o (c * nw+j) (by omega);have hg:=(zG.o (c * nw+j) (by omega)).1;have JD:=mj.o (c * nw+j) (by omega);have FL:(c * nw+j) / nw=c:=by rw[Nat.mul_comm,Nat.mul_add_div (by omega),Nat.div_eq_of_lt fJ,Nat.add_zero]
     have gB:(c * nw+j) % nw=j:=by rw[Nat.mul_comm,Nat.mul_add_mod,Nat.mod_eq_of_lt fJ]
     rw[FL,gB]at dO;unfold ki at dO;rw[HINP.o,aA [] XU,show p.t.n.toNat=n by have:=HN.o;omega]at dO
     have Jr:(stP p (c * nw+j)).2.length<=1000:=by
      have h1:=sN p (aO p) ((fj p).take (c * nw+j)) ([],[]);have h2:(stP p (c * nw+j)).2.length=0+((fj p).take (c * nw+j)).length:=h1;rw[h2,List.length_take];omega
     generalize stP p (c * nw+j)=st at iT nj yH dO hg JD Jr;generalize (aO p)[j]=word at qB qp Lf dO
     have Sr:stP p (c * nw+j+1)=((btT n inp word st.1 (K+1)).1,st.2++[⟨c,word,(btT n inp word st.1 (K+1)).2⟩]):=by
      rw[dO];unfold gt;rw[Lf.1];rfl
     obtain⟨tb,exs⟩:=st;have hexl:exs.length<=1000:=Jr;dsimp only at iT nj yH Sr hg JD
     have hsm2:tb.length<=7000:=by
      have:(c * nw+j) * 35<=200 * 35:=Nat.mul_le_mul_right 35 (by omega);omega
     have NS:am (stP p (c * nw+(j+1))=((btT n inp word tb (K+1)).1,exs++[⟨c,word,(btT n inp word tb (K+1)).2⟩])):=aa Sr;have IT:=aa (Wh n ju inp jd.o word tb hg (by omega));have ug:=aa (VJ n inp word tb);have FY:=aa (Sg n inp word tb);have XR:=aa (Wi n ju inp jd.o word);have Ar:=aa (VI n inp word);have iH:=aa (rF qp (fun i hi=>(Lf.2 _ (List.getElem_mem hi)).2) (by omega));obtain⟨pxw,cxw,rfl,_⟩:=iH.o.at;rw[Lf.1]at vD;have yG:=aa Lf;have HOX:=aa qB;have hI0k:=hI.keep;obtain⟨ave,cve,rfl⟩:=nj.slice;have HI:=aa hI;have oZ:=aa nj;have Dk:=aa yH;have hA:=hI.keep.keep _ _ _ _ TY.o (by decide);have HAE:=aa hA;have HBWE:=aa (eU.o.trans (hI.keep.old.mono (by omega)));have QD:=aa fV;have Qa:=aa iT;have hs3b:=aC fV;have HCW:=aa vD;have HXJ:=aa LR;have HOWB:=aa (hI0k.own tt.o (by decide));have HHOW:=aa qp;obtain⟨wrB,hwB⟩:∃ x,x=wr:=⟨_,rfl⟩;subst hwB;clear hI hI0k LR fV iT nj yH dO Sr hg qB qp Lf hA FL gB JD
     go_wp2_with fail
     have AK:Below wrB.heap.size wrB (wrB.alloc (.cells #[.int .i64 c,.slice pxw K cxw,.slice none 0 0] 89)):=by go_grown
     refine bF (fun W=>BtK p n K (.slice (some ⟨bc,oc,none⟩) nc cc) (.slice ps ns cs) (.slice ave exs.length cve) (.slice pxw K cxw) w wrB c (btT n inp word tb 0) W) ⟨(KeepT.refl _ _ _).up AK (by omega),⟨vt,af AK QD.o,Qa.o.up AK⟩,.slice none 0 0,aq _ _,cB.nil _ _⟩ (fun W9 hW9=>?_);have uh:=aa hW9;clear hW9 AK
     go_loopw [8] (fun i wr=>∃ k:Nat,k<=K+1/\i=.int .i64 k/\BtK p n K (.slice (some ⟨bc,oc,none⟩) nc cc) (.slice ps ns cs) (.slice ave exs.length cve) (.slice pxw K cxw) w wrB c (btT n inp word tb k) wr) (fun i _=>K+1 - (intOf i).toNat)
     ·exact⟨0,by omega,rfl,uh.o⟩
     ·
      clear uh;obtain⟨k,hk,rfl,hK⟩:=hrel;have Uf:=aa hK;have hszk:=hK.keep.old.size;have hA:=hK.keep.keep _ _ _ _ HAE.o (by decide);have HAK:=aa hA;have tA:=ab hA;have CP:=aa (HBWE.o.trans (hK.keep.old.mono (by omega)));obtain⟨vtk,kZ,mr⟩:=hK.sys;obtain⟨vv,ii,P9⟩:=hK.ex;have hszx:=aC ii;obtain⟨ys,jt,iJ⟩:=P9;obtain⟨pvv,cvv,rfl⟩:=jt.slice;have vG:=aa kZ;have jy:=aa mr;have JB:=aa ii;have sf:=aa jt;have vI:=aa iJ;clear hK hA kZ mr ii jt iJ;by_cases mu:k<=K
      ·have hd:decide ((k:Int)<=(K:Int))=true:=decide_eq_true (by omega);obtain⟨wrC,hwC⟩:∃ x,x=wr:=⟨_,rfl⟩;subst hwC
       go_wp2_with fail
       clear tA hd;have yQ:=ug.o k;obtain⟨NN,SW,Nn⟩:=yQ;have h7n:n * k<=5 * 7:=Nat.mul_le_mul ju (by omega);obtain⟨Np,I7⟩:=IT.o k (by omega)
       have pQ:∀ z∈(btT n inp word tb k).2.getLastD [],0<=z/\z<=(100000:Int):=fun z hz=>by
        rcases List.eq_nil_or_concat (btT n inp word tb k).2 with h|⟨l',a,h⟩
        ·rw[h]at hz;simp at hz
        ·rw[h,List.concat_eq_append,List.getLastD_concat]at hz;exact I7 a (by rw[h];simp) z hz
       have vN:=XR.o k (by omega) _ pQ;have xm:=Ar.o k ((btT n inp word tb k).2.getLastD []);have JM:=FY.o k;have FV:am (∀ q (hq:q<(btV n inp word k ((btT n inp word tb k).2.getLastD [])).length),(btV n inp word k ((btT n inp word tb k).2.getLastD []))[q]=if k=0 then eh inp q else nextV n (k - 1) (word.getD (k - 1) default) ((btT n inp word tb k).2.getLastD []) q):=aa fun q hq=>by simp[btV]
       generalize btT n inp word tb k=st at NN SW Nn Np I7 pQ vN xm JM jy sf vI JB FV;generalize btV n inp word k (st.2.getLastD [])=vs at vN xm JM FV;obtain⟨tbk,views⟩:=st;dsimp only at NN SW Nn Np I7 pQ JM jy sf vI JB FV;have HQI:=aa (fun q=>Wj tbk vs vN Np (by omega) q);have TP:=aa (Sh tbk vs);have vy:=aa (VL tbk vs);have rL:am (qm tbk vs n=addAll tbk vs):=aa (by rw[<-xm];exact VK tbk vs);have Ll:am (BtQ p n K (.slice (some ⟨bc,oc,none⟩) nc cc) (.slice ps ns cs) (.slice ave exs.length cve) w wrC (qm tbk vs 0) 0 (.slice none 0 0) wrC):=aa ⟨KeepT.refl _ _ _,⟨vtk,vG.o,jy.o⟩,aI.nil _ _ _ _⟩;have IM:=aa xm;have HROWS:=aa Nn;have Nk:=aa NN;have HTSS:=aa JM;have HTI2:=aa I7;clear pQ vN xm JM Nn NN Np I7 SW h7n
       go_loopw [9,10] (fun l i wr=>∃ q:Nat,q<=n/\i=.int .i64 q/\BtQ p n K (.slice (some ⟨bc,oc,none⟩) nc cc) (.slice ps ns cs) (.slice ave exs.length cve) w wrC (qm tbk vs q) q l wr) (fun _ i _=>n - (intOf i).toNat)
       ·exact⟨0,by omega,rfl,Ll.o⟩
       ·
        clear Ll;obtain⟨q,hq,rfl,hQ⟩:=hrel;have HQ:=aa hQ;have hszq:=hQ.keep.old.size;have hA:=hQ.keep.keep _ _ _ _ HAK.o (by decide);have HAQ:=aa hA;have fg:=aa (CP.o.trans (hQ.keep.old.mono (by omega)));have tA:=ab hA;obtain⟨al,cl,rfl⟩:=hQ.row.slice;clear hQ hA;by_cases AE:q<n
        ·obtain⟨bi,oi,rfl,Jk⟩:=HEI.o q (by rw[P5.o];exact AE);have tc:=ak fg.o nD.o;have ti:=ak fg.o Jk;have HQLL:=vy.o q (by rw[IM.o];omega);have gQ:=P5.o;have HILQ:am (q<inp.length):=aa (by rw[gQ];exact AE);rw[gQ]at tc;have JU:am (eh inp q=⟨q,0,inp.getD q 0,-1,-1,-1,-1,-1⟩):=aa rfl;generalize inp.getD q 0=xq at ti JU;clear Jk gQ;obtain⟨wrD,hwD⟩:∃ x,x=wr:=⟨_,rfl⟩;subst hwD
         go_wp2_with fail
         refine(Kr q xq wrD).mono ?_;rintro r w5 ⟨rfl,dG⟩;have Qv:=aa (HQ.o.up dG (by omega));have lC:=aa (ae fg.o dG);have WX:=FV.o q (by rw[IM.o];exact AE);have dP:=TP.o q (by rw[IM.o];exact AE);obtain⟨vq,hvqe⟩:∃ v,v=vs[q]'(by rw[IM.o];exact AE):=⟨_,rfl⟩;rw[<-hvqe]at WX dP;have TD:=aa WX;have yI:=aa dP;obtain⟨st1,SL⟩:∃ x,x=qm tbk vs q:=⟨_,rfl⟩;rw[<-SL]at Qv yI HQLL;have Ta:=aa (HQI.o q);rw[<-SL]at Ta;have hsz5:=dG.size;clear tA tc ti dG HQ WX dP hvqe SL;have LS:∀ o,Below w5.heap.size w5 (w5.alloc o):=fun o=>by go_grown
         obtain⟨vt5,JK,FG⟩:=Qv.o.sys;obtain⟨at5,ct5,rfl⟩:=FG.slice;have Cz:=aa JK;have LL:=aa FG;have hrw5:=Qv.o.row;have Sk:=aa hrw5;clear JK FG hrw5;by_cases eZ:k=0
         case' pos=>
          have hd:decide ((0:Int)<(k:Int))=false:=decide_eq_false (by omega);have hd':decide (0<k)=false:=decide_eq_false (by omega);have hv:=TD.o;rw[if_pos eZ]at hv;clear eZ;rw[JU.o]at hv;have Au:=aa hv;have t3:=fun o=>ab (af (LS o) Cz.o)
          have tv:=ab (aq w5 (.cells #[.int .i64 q,.int .i64 0,.int .i64 xq,.int .i64 (-1),.int .i64 (-1),.int .i64 (-1),.int .i64 (-1),.int .i64 (-1)] 190));clear hv TD
          go_wp2_with fail
          clear t3 tv;refine aQ (fun W=>BtP p n K (.slice (some ⟨bc,oc,none⟩) nc cc) (.slice ps ns cs) (.slice ave exs.length cve) (.slice at5 st1.1.length ct5) w wrC st1 (.slice al q cl) q w5.heap.size vq W) ⟨Qv.o.keep.up (LS _) (by omega),af (LS _) Cz.o,LL.o.up (LS _),Sk.o.up (LS _),by rw[Au.o];exact aq _ _⟩ ?_;rw[show (Value.agg #[.int .i64 q,.int .i64 0,.int .i64 xq,.int .i64 (-1),.int .i64 (-1),.int .i64 (-1),.int .i64 (-1),.int .i64 (-1)])=vq.v by rw[Au.o]]
         case' neg=>
          have hd:decide ((0:Int)<(k:Int))=true:=decide_eq_true (by omega);have hd':decide (0<k)=true:=decide_eq_true (by omega);obtain⟨k',tY⟩:∃ k',k=k'+1:=⟨k - 1,by omega⟩;have hv:=TD.o;rw[if_neg eZ,tY,Nat.add_sub_cancel]at hv;have P1:=aa tY;have hkl2:k'<k:=by omega
          have hkl0:k'<K:=by omega
          have hkm:(k:Int) - 1=(k':Int):=by omega
          clear tY;have zj:k'<word.length:=by rw[yG.o.1];have:=P1.o;omega
          rw[aA default zj]at hv;have LN:=yG.o.2 _ (List.getElem_mem zj);have LU:k'<views.length:=by have:=Nk.o;have:=P1.o;omega
          have zC:views.getLastD []=views[k']:=by
           have:views.length=k'+1:=by have:=Nk.o;have:=P1.o;omega
           rw[List.getLastD_eq_getLast?,List.getLast?_eq_getElem?,this,Nat.add_sub_cancel,List.getElem?_eq_getElem LU];rfl
          obtain⟨xv,Aw,JI⟩:=vI.o k' LU;rw[zC]at hv;have XT:=HROWS.o _ (List.getElem_mem LU);have SA:=HTI2.o _ (List.getElem_mem LU);have t3:=fun o=>ab (af (LS o) Cz.o)
          go_wp2_with fail
          refine bF (fun W=>Below w5.heap.size w5 W/\W.heap[w5.heap.size]?=some (.cells #[.int .i64 q,.int .i64 0,.int .i64 xq,.int .i64 (-1),.int .i64 (-1),.int .i64 (-1),.int .i64 (-1),.int .i64 (-1)] 190)) ⟨by go_grown,aq _ _⟩ (fun W5 hW5=>?_);have kC:=Qv.o.keep.up hW5.1 (by omega);have kB:=Uf.o.keep.trans kC;obtain⟨g9,c9,e9,tcw⟩:=(kB.own HOWB.o (by decide)).cell j _ HXJ.o;injection e9 with e91 e92 e93
          injection e91 with e91
          injection e91 with e91
          subst e91;have how5:=rF (kB.own HHOW.o (by decide)) (fun i hi=>(yG.o.2 _ (List.getElem_mem hi)).2) (by omega);obtain⟨pw8,cw8,ew8,_,_,ew9⟩:=how5.at;injection ew8 with ew81 ew82 ew83
          obtain⟨bw,ow,ew,⟨d0,_⟩,⟨d1,_⟩,⟨d2,_⟩,⟨d3,_⟩,⟨d4,_⟩,⟨d5,_⟩,⟨d6,_⟩⟩:=ew9 k' zj;obtain⟨pxv,cxv,exv⟩:=JI.slice;have Jk:=gE (kC.own JI (by decide)) (fun z hz=>by have:=SA z hz;exact⟨by omega,by omega⟩) (by omega);obtain⟨gv,cv1,ev1,hcv⟩:=(kC.own sf.o (by decide)).cell k' xv Aw;injection ev1 with ev11 ev12 ev13
          have tX:=ab (kC.keep _ _ _ _ JB.o (by decide));clear how5 ew9;generalize word[k']=rd at hv d0 d1 d2 d3 d4 d5 d6 LN;generalize views[k']=row at hv Jk XT exv SA;rw[XT]at exv;rw[exv]at hcv Jk;obtain⟨⟨hgn,hhe,_,_,_⟩,_⟩:=LN
          have hvs:vq=seenV n k rd.g row q:=by
           rw[hv,P1.o];simp[nextV,seenV,l6,seenH]
          have Nz:=aa (fun W (hb:Below W5.heap.size W5 W)=>MI rd.g k q n hgn ju (by omega) (hhe q (by omega)) _ row (by omega) W (Jk.up up_int hb));rw[<-hvs]at Nz;have HKC:=aa kC;have FA:=aa hW5.2;have Qm:=aa (af hW5.1 Cz.o);have HT5:=aa (LL.o.up hW5.1);have xA:=aa (Sk.o.up hW5.1);have hsz55:=aC hW5.2;subst ew;subst ew81;subst ev11;rw[yG.o.1]at ew82;rw[yG.o.1]at tcw;have Lr:IntKind.i64.wrap (k':Int)=(k':Int):=IntWalk.i64_in _ (by omega);clear XT hgn hv SA Jk kC kB JI exv Aw zC hvs hW5 ew82 ew83 ev12 ev13 e92 e93 TD JU t3
          go_still_tail 17,(by kernel_rfl)
          go_wp2_with fail
          refine aQ (fun W=>Below W5.heap.size W5 W) (Below.drew (Below.refl _ _)) (fun W6 tj=>?_);refine(Nz.o W6 tj).mono ?_;rintro r w6 ⟨rfl,jL⟩;have pO:=ae tj jL;have X4:=aa (af pO FA.o)
          have Du:am (BtP p n K (.slice (some ⟨bc,oc,none⟩) nc cc) (.slice ps ns cs) (.slice ave exs.length cve) (.slice at5 st1.1.length ct5) w wrC st1 (.slice al q cl) q w5.heap.size vq (w6.setRow w5.heap.size vq.c)):=aa (by
           have bP:∀ k,k≠w5.heap.size->(w6.setRow w5.heap.size vq.c).heap[k]?=w6.heap[k]?:=fun k hk=>setRow_other _ _ _ _ hk
           have LK:=HKC.o.up pO (by omega)
           refine⟨⟨below_setRow LK.old (by omega) _,fun k c t f h1 h2=>(bP k (by have:=aC h1;omega)).trans (LK.keep k c t f h1 h2),fun k o h1 h2 h3=>(bP k (by have:=aC h1;omega)).trans (LK.oth k o h1 h2 h3)⟩,(bP _ (by omega)).trans (af pO Qm.o),(HT5.o.up pO).keep (fun g o hg ho=>(bP g (fun e=>by have:=(LL.o.lt g hg).2;omega)).trans ho),(xA.o.up pO).keep (fun g o hg ho=>(bP g (fun e=>(xA.o.up pO).ne X4.o (by decide) g hg e)).trans ho),setRow_heap _ _ _ _ _ _ X4.o⟩)
          clear tj jL pO d0 d1 d2 d3 d4 d5 d6 tX tcw hcv hkm Lr Nz FA Qm HT5 xA
          go_wp2_with (refine wpList_store_row rfl 190 (.tmp 11) (.tmp 89) rfl w5.heap.size vq.c rfl rfl 190 _ X4.o (by kernel_rfl) rfl (by simp[Value.oneCell']) ?_;have t3:=ab Du.o.sys;have tv:=ab Du.o.v)
          clear t3 tv;refine aQ (fun W=>BtP p n K (.slice (some ⟨bc,oc,none⟩) nc cc) (.slice ps ns cs) (.slice ave exs.length cve) (.slice at5 st1.1.length ct5) w wrC st1 (.slice al q cl) q w5.heap.size vq W) Du.o ?_;rw[show (Value.agg #[.int .i64 vq.p,.int .i64 vq.k,.int .i64 vq.i,.int .i64 vq.h0,.int .i64 vq.h1,.int .i64 vq.h2,.int .i64 vq.h3,.int .i64 vq.h4])=vq.v from rfl]
         all_goals
          intro W6 tj;have AR:=aa tj;clear tj;refine(RR n st1.1 _ vq (w.heap.size+1+1) W6 (by have:=AR.o.keep.old.size;omega) AR.o.tab Ta.o.1 (by have:=Ta.o.2.2;omega)).mono ?_;rintro r w7 ⟨⟨u7,rfl,Uo⟩,xa⟩;obtain⟨a7,c7,rfl⟩:=Uo.slice;generalize putV st1.1 vq=pv at Uo yI ⊢;have Xn:=AR.o.keep.up xa (by omega);have xD:=af xa AR.o.sys;have Wz:=AR.o.row.up xa;have hsz7:=Xn.old.size;have hg7:∀ o,Below w7.heap.size w7 (w7.alloc o):=fun o=>by go_grown
          have h3lt:=aC xD;have t3:=fun o=>ab (af (hg7 o) xD)
          have z3:=fun o=>aG (af (hg7 o) xD)
          have t3a:=ab xD;have z3a:=aG xD;obtain⟨o7,ho7⟩:∃ o:Obj,o=.cells #[.int .i64 n,.slice a7 pv.1.length c7] 32:=⟨_,rfl⟩;obtain⟨W8,oX⟩:∃ W8,W8=((w7.setCell ⟨w.heap.size+1+1,7,none⟩ (.int .i64 n)).setCell ⟨w.heap.size+1+1,8,none⟩ (.slice a7 pv.1.length c7)).alloc o7:=⟨_,rfl⟩
          have hs8:W8.heap[w.heap.size+1+1]?=some (.cells (Fq p n K (.slice (some ⟨bc,oc,none⟩) nc cc) (.slice ps ns cs) (.slice a7 pv.1.length c7) (.slice ave exs.length cve)) 35):=by
           rw[oX];refine az _ ?_;rw[aH (aH xD _ _) _ _];rfl
          have hk8:KeepT [35] [] (w.heap.size+1+1) wrC W8:=by
           rw[oX];have h2:=Xn.set (o:=7) xD (by simp) (by omega) (.int .i64 n);have h3:=h2.set (o:=8) (aH xD _ _) (by simp) (by omega) (.slice a7 pv.1.length c7);exact h3.up (by go_grown) (by omega)
          have SI:∀ {b:Nat} {e:TypeId} {k m:Nat} {v:Value} {l:List Value},aI w7 b e k v m l->e≠35->aI W8 b e k v m l:=fun {b e k m v l} h bP=>by
           rw[oX];exact((h.put (h.ne xD bP) _ _).put (h.ne xD bP) _ _).up (by go_grown)
          have hr8:=SI Wz (by decide);have hu8:=SI Uo (by decide);have hsz8:w7.heap.size<W8.heap.size:=by rw[oX];simp
          have QO:=aa hs8;have HK8:=aa hk8;have HU8:=aa hu8;have LB:Below W8.heap.size W8 (W8.alloc (.cells #[.int .i64 pv.2] 3)):=by go_grown
          have NR:=aa (hr8.up LB);have Xm:=aa LB;have bS:=dR W8 [.int .i64 pv.2] 3;rw[show W8.heap.size=w7.heap.size+1 by rw[oX];simp]at bS;have bE:=aa bS;have jJ:am (q+1<=maxLen):=aa (by unfold maxLen;omega);have sa:am ((q+1) * 8<=140737488355328):=aa (by omega);have gm:am (wrC.heap.size<=(W8.alloc (.cells #[.int .i64 pv.2] 3)).heap.size):=aa (by simp;omega);subst oX;subst ho7;clear Uo Xn xD Wz hs8 hk8 SI hr8 hu8 LB xa bS Cz LL Sk AR
          go_wp2_with (at_builtin;go_loud (refine aZ _ rfl (.tmp 99) (.tmp 101) 38 rfl wrC.heap.size 3 i0 _ 1 8 Tryz.underlying38 bZ.o.1 bZ.o.2.1 bZ.o.2.2.1 bZ.o.2.2.2 rfl (by decide) _ q _ rfl NR.o ⟨w7.heap.size+1,0,none⟩ 1 1 [.int .i64 pv.2] rfl rfl bE.o (by simp[Value.oneCell']) jJ.o sa.o gm.o ?_;intro v9 w9 eP dk _))
          go_roundw
          ·
           refine⟨q+1,by omega,by go_num,?_⟩;rw[yI.o];have LB:Below _ _ (_:World):=Xm.o;refine⟨(HK8.o.up LB (by omega)).grownNew (by omega) (fun g hg=>(NR.o.lt g hg).1) dk,⟨_,gW NR.o dk QO.o (by decide),(HU8.o.up LB).apart NR.o (by decide) dk⟩,?_⟩;rw[List.map_append];exact eP
          ·simp[intOf];omega
        ·have hqe:q=n:=by omega
         subst hqe;have hx:=HQ.o.keep.keep _ _ _ _ JB.o (by decide);have tx:=ab hx;have mo:Below wr.heap.size wr (wr.alloc (.cells #[.slice al q cl] 38)):=by go_grown
         have sd:=aa hx;have P4:=aa mo;have oO:=aa ((HQ.o.keep.own sf.o (by decide)).up mo);have bE:=aa (dR wr [.slice al q cl] 38);have jJ:am (views.length+1<=maxLen):=aa (by have:=Nk.o;unfold maxLen;omega);have sa:am ((views.length+1) * 24<=140737488355328):=aa (by have:=Nk.o;omega);have gm:am (wrB.heap.size<=(wr.alloc (.cells #[.slice al q cl] 38)).heap.size):=aa (by simp;omega);have CR:=vy.o q (by rw[IM.o];omega);clear hx mo
         go_wp2_with (at_builtin;(refine aZ _ rfl (.tmp 104) (.tmp 106) 56 rfl wrB.heap.size 38 i1 _ 1 24 Tryz.underlying56 tW.o.1 tW.o.2.1 tW.o.2.2.1 tW.o.2.2.2 rfl (by decide) _ views.length _ rfl oO.o ⟨wr.heap.size,0,none⟩ 1 1 [.slice al q cl] rfl rfl bE.o (by simp[Value.oneCell']) jJ.o sa.o gm.o ?_;intro v9 w9 eP dk _;obtain⟨av9,cv9,rfl⟩:=eP.slice;have Di:=gW oO.o dk sd.o (by decide);have c9:=ab Di;have f9:=aG Di))
         go_roundw
         ·
          refine⟨k+1,by omega,by go_num,?_⟩;rw[HTSS.o];have hq9:=HQ.o;rw[rL.o]at hq9 CR;exact BtK.next Uf.o.keep hq9 sd.o (HQ.o.keep.own sf.o (by decide)) (fun i hi=>by obtain⟨x,q1,q2⟩:=vI.o i hi;exact⟨x,q1,HQ.o.keep.own q2 (by decide)⟩) CR (by omega) dk eP
         ·simp[intOf];omega
      ·obtain rfl:k=K+1:=by omega
       have hd:decide (((K+1:Nat):Int)<=(K:Int))=false:=decide_eq_false (by omega);have gB:decide ((K:Int)+1<=(K:Int))=false:=decide_eq_false (by omega);have tS:=ab vG.o;have tx:=ab JB.o;have HLV:=aa (ug.o (K+1)).1;generalize btT n inp word tb (K+1)=st at NS jy JB sf vI tx HLV ⊢;obtain⟨tbk,views⟩:=st;dsimp only at NS jy JB sf vI tx HLV;have mo:Below wr.heap.size wr (wr.alloc (.cells #[.int .i64 c,.slice pxw K cxw,.slice pvv views.length cvv] 89)):=by go_grown
       have P4:=aa mo;have oO:=aa ((Uf.o.keep.own oZ.o (by decide)).up mo);have bE:=aa (dR wr [.int .i64 c,.slice pxw K cxw,.slice pvv views.length cvv] 89);have jJ:am (exs.length+1<=maxLen):=aa (by unfold maxLen;omega);have sa:am ((exs.length+1) * 56<=140737488355328):=aa (by omega);have gm:am (w.heap.size+1+1<=(wr.alloc (.cells #[.int .i64 c,.slice pxw K cxw,.slice pvv views.length cvv] 89)).heap.size):=aa (by simp;omega);clear mo
       go_wp2_with (at_builtin;(refine aZ _ rfl (.tmp 110) (.tmp 112) 33 rfl (w.heap.size+1+1) 89 i2 _ 3 56 Tryz.underlying33 Ui.o.1 Ui.o.2.1 Ui.o.2.2.1 Ui.o.2.2.2 rfl (by decide) _ exs.length _ rfl oO.o ⟨wr.heap.size,0,none⟩ 1 1 [.int .i64 c,.slice pxw K cxw,.slice pvv views.length cvv] rfl rfl bE.o (by simp[Value.oneCell']) jJ.o sa.o gm.o ?_;intro v9 w9 eP dk _;obtain⟨av9,cv9,rfl⟩:=eP.slice;have sh:=gW oO.o dk vG.o (by decide);have c9:=ab sh;have f9:=aG sh))
       go_roundw
       ·
        refine⟨j+1,by omega,by go_num,?_⟩;rw[NS.o];have Xb:=HHOW.o.base (show w.heap.size+1+1<=W0.heap.size by omega);rw[yG.o.1]at Xb;have qZ:cS wr (w.heap.size+1+1) (.slice pvv views.length cvv) views:=Cf (show cS wr wrB.heap.size (.slice pvv views.length cvv) views from⟨ys,sf.o,vI.o⟩) (by omega);exact BtI.next HI.o.keep Uf.o.keep vG.o jy.o oZ.o Dk.o Xb yG.o.1 qZ (by omega) dk eP
       ·simp[intOf];omega
    ·obtain rfl:j=nw:=by omega
     have HI:=aa hI;clear hI
     go_wp2_with fail
     go_roundw
     ·exact⟨c+1,by omega,by go_num,by rw[Nat.succ_mul];exact HI.o⟩
     ·simp[intOf];omega
  ·have hce:c=nc:=by omega
   subst hce;have xr:=HI.o;rw[ji.o]at xr;obtain⟨vt,ve,xs,h1,h2,h3,h4⟩:=xr.sys;have hr:=(xr.keep.old.block (w.heap.size+1) (by omega)).trans pk.o;have P1:=aa xr.keep;obtain⟨avt,cvt,rfl⟩:=h2.slice;obtain⟨ave,cve,rfl⟩:=h3.slice;have H2:=aa h2;have H3:=aa h3;have H4:=aa h4;have tS:=ab h1;have Lu:=aa hr;have JD:=mj.o (c * nw) (Nat.le_refl _);have lD:=zG.o (c * nw) (Nat.le_refl _);rw[ji.o]at JD lD;dsimp only at JD lD;have HSMM:=aa (show (aK p).tab.length<=17592186044416 by omega);have TJ:=aa lD
   have CN:am ((aK p).ex.length<=17592186044416):=aa (by
    have h1:=sN p (aO p) (fj p) ([],[]);have h2:(aK p).ex.length=0+(fj p).length:=h1;rw[h2,iu,Da.o,F1.o]
    omega)
   clear xr h1 h2 h3 h4 hr JD lD
   go_wp2_with (refine wpList_store_row rfl 35 (.tmp 2) (.tmp 115) rfl (w.heap.size+1) (Fq p n K (.slice pc c cc) (.slice ps ns cs) (.slice avt (aK p).tab.length cvt) (.slice ave (aK p).ex.length cve)) rfl rfl 35 _ Lu.o (by kernel_rfl) rfl (by simp[Value.oneCell']) ?_)
   refine bodyPost_ret (GD _ (w.heap.size+1) _ _ _ _ _ _ _ _ _ _ _ rfl (setRow_heap _ _ _ _ _ _ Lu.o)) rfl ⟨.slice avt (aK p).tab.length cvt,.slice ave (aK p).ex.length cve,?_,⟨⟨_,_,rfl⟩,_,_,rfl⟩,?_,below_setRow eY.o (by omega) _⟩
   ·rw[<-j9.o,<-HN.o]
   ·intro Wf Jb h1 h2;exact Wk h1 h2 H2.o H3.o H4.o (fun k hk mr=>(Jb k (by omega) (Nat.lt_of_lt_of_le mr (below_setRow (Below.refl (w.heap.size+1) wr) (Nat.le_refl _) (Fq p n K (.slice pc c cc) (.slice ps ns cs) (.slice avt (aK p).tab.length cvt) (.slice ave (aK p).ex.length cve))).size)).trans (setRow_other _ _ _ _ (by omega))) TJ.o HSMM.o CN.o
end Go.Proofs.YtmeaoneaephjeaaGreatDoor
