/-
  A part of the proof: lemmas and contracts that the parts behind it use. Each one's conditions are its own premises.
-/
import Derived.Test.YtmeaoneaephjeaaGreatDoorK6
set_option maxRecDepth 100000
set_option maxHeartbeats 8000000
set_option linter.unusedVariables false
set_option linter.unusedSimpArgs false
namespace Go.Proofs.YtmeaoneaephjeaaGreatDoor
open Go.RowKit Go Go.Shelf
section
variable {ts : List TypeId} {ms : List Nat} {base : Nat} {w w' w'' : World}
theorem KeepT.up(h:KeepT ts ms base w w') (hb:Below w'.heap.size w' w'') (hs:base<=w.heap.size):KeepT ts ms base w w'':=
 h.trans (.of_below ts hb (Nat.le_trans hs h.old.size))
end
theorem sg{p:Pb} (h:probE p=0):∀ i,i<=p.t.cases.length * (aI p).length->(stP p i).1.length<=i * 35
 | 0,_=>by simp[stP,execsS]
 | i+1,hi=>by
  have ih:=sg h i (by omega);obtain⟨mP,_,_,ro,pL⟩:=go h;obtain⟨⟨_,ic⟩,_,_,⟨_,bU⟩,gg⟩:=eX mP;have az:i<p.t.cases.length * (aI p).length:=by omega
  have lS:0<(aI p).length:=by
   rcases Nat.eq_zero_or_pos (aI p).length with h|h
   ·rw[h]at az;simp at az
   ·exact h
  have hj:i % (aI p).length<(aI p).length:=Nat.mod_lt _ lS
  have Xk:((aI p)[i % (aI p).length]).length<=6:=by
   have:=jR p.a p.rounds.toNat 0 _ (List.getElem_mem (l:=aI p) hj);omega
  have dT:=vT p i az;unfold jS at dT;dsimp only at dT;rw[ap [] hj]at dT;have cK:=(ik p.t.n.toNat (p.t.cases.getD (i / (aI p).length) default).inp (aI p)[i % (aI p).length] (stP p i).1 ((aI p)[i % (aI p).length]).length).2.2;have h9:p.t.n.toNat * (((aI p)[i % (aI p).length]).length+1)<=5 * 7:=Nat.mul_le_mul (by omega) (by omega);rw[dT];simp only[gi];omega
theorem OX{P:Rd->Prop} (a:Adv) (h:∀ s,∀ m∈a.states.getD s [],P m.r) (k:Nat):∀ s,∀ x∈bS a k s,∀ r∈x,P r:=by
 induction k with
 | zero=>intro s x hx r hr;simp[bS]at hx;subst hx;simp at hr
 | succ k ih=>
  intro s x hx r hr;simp only[bS,List.mem_flatMap,List.mem_map]at hx;obtain⟨m,hm,y,hy,rfl⟩:=hx;rcases List.mem_cons.1 hr with rfl|hr
  ·exact h s m hm
  ·exact ih _ y hy r hr
theorem OY{p:Pb} (h:probE p=0):∀ x∈aI p,∀ r∈x,OkR p.a.n r:=by
 have ha:=(go h).2.1;refine OX p.a (fun s m hm=>N9 ha ((Aa p.a m.r).2 ?_)) _ 0;by_cases hs:s<p.a.states.length
 ·rw[ap [] hs]at hm
  exact⟨_,List.getElem_mem hs,m,hm,rfl⟩
 ·rw[List.getD_eq_getElem?_getD,List.getElem?_eq_none (by omega)]at hm
  simp at hm
def btT(n:Nat) (inp:List Int) (word:List Rd) (tb:List Vw):Nat->List Vw × List (List Int)
 | 0=>(tb,[])
 | k+1=>playTo n inp word tb k
def btV(n:Nat) (inp:List Int) (word:List Rd) (k:Nat) (now:List Int):List Vw:=(List.range n).map fun q=>if k=0 then dS inp q else nextV n (k - 1) (word.getD (k - 1) default) now q
theorem U3(n:Nat) (inp:List Int) (word:List Rd) (k:Nat) (now:List Int):(btV n inp word k now).length=n:=by simp[btV]
theorem Ru(n:Nat) (inp:List Int) (word:List Rd) (tb:List Vw):∀ k,btT n inp word tb (k+1)=((addAll (btT n inp word tb k).1 (btV n inp word k ((btT n inp word tb k).2.getLastD []))).1,(btT n inp word tb k).2++[(addAll (btT n inp word tb k).1 (btV n inp word k ((btT n inp word tb k).2.getLastD []))).2])
 | 0=>rfl
 | _+1=>rfl
theorem U4(n:Nat) (inp:List Int) (word:List Rd) (tb:List Vw):∀ k,(btT n inp word tb k).2.length=k/\(btT n inp word tb k).1.length<=tb.length+n * k/\∀ row∈(btT n inp word tb k).2,row.length=n
 | 0=>⟨rfl,Nat.le_add_right _ _,fun row h=>by simp[btT]at h⟩
 | k+1=>⟨(ik n inp word tb k).1,(ik n inp word tb k).2.2,tp n inp word tb k⟩
theorem Vx(n:Nat) (hn:n<=5) (inp:List Int) (hi:∀ x∈inp,bI x) (word:List Rd) (tb:List Vw) (ht:∀ v∈tb,jF v) (hl:tb.length+40<=100000):∀ k,k<=7->(∀ v∈(btT n inp word tb k).1,jF v)/\∀ row∈(btT n inp word tb k).2,∀ z∈row,0<=z/\z<=(100000:Int)
 | 0,_=>⟨ht,fun row h=>by simp[btT]at h⟩
 | k+1,hk=>xV n hn inp hi word tb ht k (by omega) hl
theorem Vy(n:Nat) (hn:n<=5) (inp:List Int) (hi:∀ x∈inp,bI x) (word:List Rd) (k:Nat) (hk:k<=7) (now:List Int) (oQ:∀ z∈now,0<=z/\z<=(100000:Int)):∀ v∈btV n inp word k now,jF v:=fun v hv=>by
 obtain⟨q,hq,rfl⟩:=List.mem_map.1 hv;have hq:=List.mem_range.1 hq;have z1:bI (-1):=⟨by omega,by omega⟩;have z0:bI 0:=⟨by omega,by omega⟩;by_cases h0:k=0
 ·rw[if_pos h0]
  have hx:bI (inp.getD q 0):=by
   by_cases h:q<inp.length
   ·rw[ap 0 h];exact hi _ (List.getElem_mem h)
   ·rw[List.getD_eq_getElem?_getD,List.getElem?_eq_none (by omega)];exact z0
  exact⟨uu q (by omega),z0,hx,z1,z1,z1,z1,z1⟩
 ·rw[if_neg h0]
  have hh:∀ p,bI (lI n (word.getD (k - 1) default) now q p):=fun p=>by
   unfold lI;split
   ·by_cases h:p<now.length
    ·rw[ap 0 h];have:=oQ _ (List.getElem_mem h);exact⟨by omega,by omega⟩
    ·rw[List.getD_eq_getElem?_getD,List.getElem?_eq_none (by omega)];exact z0
   ·exact z1
  exact⟨uu q (by omega),⟨by simp only[nextV];omega,by simp only[nextV];omega⟩,z0,hh 0,hh 1,hh 2,hh 3,hh 4⟩
def pG(tb:List Vw) (vs:List Vw) (q:Nat):List Vw × List Int:=addAll tb (vs.take q)
theorem U5(tb vs:List Vw):pG tb vs vs.length=addAll tb vs:=by unfold pG;rw[List.take_length]
theorem Rv(tb vs:List Vw) (q:Nat) (hq:q<vs.length):pG tb vs (q+1)=((putV (pG tb vs q).1 vs[q]).1,(pG tb vs q).2++[((putV (pG tb vs q).1 vs[q]).2:Int)]):=by
 unfold pG;rw[sY tb vs q hq];rfl
theorem Vz(tb vs:List Vw) (hv:∀ v∈vs,jF v) (ht:∀ v∈tb,jF v) (hl:tb.length+vs.length<=100000) (q:Nat):(∀ v∈(pG tb vs q).1,jF v)/\(∀ z∈(pG tb vs q).2,0<=z/\z<=(100000:Int))/\(pG tb vs q).1.length<=100000:=by
 have lu:(vs.take q).length<=vs.length:=by rw[List.length_take];omega
 have h:=xU 100000 (vs.take q) (tb,[]) (fun v h=>hv v (List.mem_of_mem_take h)) ht (fun z hz=>by simp at hz) (by dsimp only;omega);have h2:=fr (vs.take q) (tb,[]);exact⟨h.1,h.2,by have:=h2.2;simp only[pG,addAll]at this ⊢;omega⟩
theorem U6(tb vs:List Vw) (q:Nat) (hq:q<=vs.length):(pG tb vs q).2.length=q:=by
 have h2:=(fr (vs.take q) (tb,[])).1;simp only[pG,addAll];rw[h2,List.length_take];simp;omega
end Go.Proofs.YtmeaoneaephjeaaGreatDoor
namespace Go.Proofs.YtmeaoneaephjeaaGreatDoor
open Go.RowKit Go Go.Shelf
attribute [local go_sem] Oper.semAt_some
abbrev EZ(p:Pb) (n K:Nat) (vc vs vt ve:Value):Array Value:=#[.int .i64 n,.int .i64 p.t.ins,.int .i64 p.t.outs,vc,.int .i64 p.a.n,vs,.int .i64 K,.int .i64 n,vt,ve]
structure BtI (p:Pb) (n K:Nat) (vc vs:Value) (w w4:World) (st:List Vw × List Ex) (V:World):Prop where
 keep:KeepT [35,89] [] (w.heap.size+1+1) w4 V
 sys:∃ vt ve xs,V.heap[w.heap.size+1+1]?=some (.cells (EZ p n K vc vs vt ve) 35)/\aD V (w.heap.size+1+1) 190 8 vt st.1.length (eI st.1)/\aD V (w.heap.size+1+1) 89 3 ve st.2.length xs/\∀ k (hk:k<st.2.length),zp V (w.heap.size+1+1) xs k (st.2[k])
structure BtK (p:Pb) (n K:Nat) (vc vs ve wv:Value) (w Ve:World) (ci:Nat) (st:List Vw × List (List Int)) (V:World):Prop where
 keep:KeepT [35] [] (w.heap.size+1+1) Ve V
 sys:∃ vt,V.heap[w.heap.size+1+1]?=some (.cells (EZ p n K vc vs vt ve) 35)/\aD V (w.heap.size+1+1) 190 8 vt st.1.length (eI st.1)
 ex:∃ vv,V.heap[Ve.heap.size]?=some (.cells #[.int .i64 ci,wv,vv] 89)/\cN V Ve.heap.size vv st.2
structure BtQ (p:Pb) (n K:Nat) (vc vs ve:Value) (w Vk:World) (st:List Vw × List Int) (q:Nat) (l:Value) (V:World):Prop where
 keep:KeepT [35] [] (w.heap.size+1+1) Vk V
 sys:∃ vt,V.heap[w.heap.size+1+1]?=some (.cells (EZ p n K vc vs vt ve) 35)/\aD V (w.heap.size+1+1) 190 8 vt st.1.length (eI st.1)
 row:aD V Vk.heap.size 3 1 l q (st.2.map (Value.int .i64))
structure BtP (p:Pb) (n K:Nat) (vc vs ve vt:Value) (w Vk:World) (st:List Vw × List Int) (l:Value) (q bv:Nat) (v:Vw) (V:World):Prop where
 keep:KeepT [35] [] (w.heap.size+1+1) Vk V
 sys:V.heap[w.heap.size+1+1]?=some (.cells (EZ p n K vc vs vt ve) 35)
 tab:aD V (w.heap.size+1+1) 190 8 vt st.1.length (eI st.1)
 row:aD V Vk.heap.size 3 1 l q (st.2.map (Value.int .i64))
 v:V.heap[bv]?=some (.cells v.c 190)
theorem BtQ.up{p:Pb} {n K:Nat} {vc vs ve:Value} {w Vk:World} {st:List Vw × List Int} {q:Nat} {l:Value} {V V':World} (h:BtQ p n K vc vs ve w Vk st q l V) (hb:Below V.heap.size V V') (hs:w.heap.size+1+1<=Vk.heap.size):BtQ p n K vc vs ve w Vk st q l V':=by
 obtain⟨vt,h1,h2⟩:=h.sys;exact⟨h.keep.up hb hs,⟨vt,af hb h1,h2.up hb⟩,h.row.up hb⟩
theorem F5(tmps:Array Value) (B:Nat) (W:World) (c0 c1 c2 c3 c4 c5 c6 c7 c8 c9:Value) (h2:tmps[2]?.getD undef=.pointer (some ⟨B,0,none⟩))
  (hB:W.heap[B]?=some (.cells #[c0,c1,c2,c3,c4,c5,c6,c7,c8,c9] 35)) :
  (results Tryz.f117 tmps).run Tryz.prog W=.ok (.agg #[c0,c1,c2,c3,c4,c5,c6,c7,c8,c9]) W:=by
 have t2:=ab hB;simp[results,Tryz.results117,go_sem,h2,t2]
theorem BtK.next{p:Pb} {n K q c:Nat} {vc vs ve wv lv vv v9:Value} {w Ve Vk V w9:World} {tb:List Vw} {l:List Int} {views:List (List Int)} {ys:List Value} (hK:KeepT [35] [] (w.heap.size+1+1) Ve Vk) (hQ:BtQ p n K vc vs ve w Vk (tb,l) q lv V) (hx:V.heap[Ve.heap.size]?=some (.cells #[.int .i64 c,wv,vv] 89))
  (jm:aD V Ve.heap.size 38 1 vv views.length ys) (iD:∀ i (hi:i<views.length),∃ x,ys[i]?=some x/\aD V Ve.heap.size 3 1 x views[i].length (views[i].map (Value.int .i64))) (hl:l.length=q) (eK:w.heap.size+1+1<Ve.heap.size)
  (hg:(V.alloc (.cells #[lv] 38)).grownBy w9 vv.ownBlock) (aX:aD w9 Ve.heap.size 38 1 v9 (views.length+1) (ys++[lv])):BtK p n K vc vs ve wv w Ve c (tb,views++[l]) (w9.setCell ⟨Ve.heap.size,2,none⟩ v9):=by
 have lU:Below V.heap.size V (V.alloc (.cells #[lv] 38)):=by go_grown
 have pI:=jm.up lU
 have La:aD (V.alloc (.cells #[lv] 38)) Ve.heap.size 3 1 lv l.length (l.map (Value.int .i64)):=by
  rw[hl];exact(hQ.row.base hK.old.size).up lU
 have jr:∀ i (hi:i<views.length),∃ x,ys[i]?=some x/\aD (V.alloc (.cells #[lv] 38)) Ve.heap.size 3 1 x views[i].length (views[i].map (Value.int .i64)):=fun i hi=>by
  obtain⟨x,q1,q2⟩:=iD i hi;exact⟨x,q1,q2.up lU⟩
 have qD:cN w9 Ve.heap.size v9 (views++[l]):=bW.snoc pI jr (by decide) La hg aX;have C':=gW pI hg hx (by decide);obtain⟨vt,h1,h2⟩:=hQ.sys;have h2':=(h2.up lU).apart pI (by decide) hg;have k3:=((hK.trans hQ.keep).up lU (by omega)).grownNew (by omega) (fun g hg=>(pI.lt g hg).1) hg;have kk:=(KeepT.refl (ms:=[]) [89] Ve.heap.size w9).set (o:=2) C' (by simp) (Nat.le_refl _) v9;exact⟨k3.setNew (by omega) (Nat.le_refl _) _,⟨vt,aH (gW pI hg h1 (by decide)) (by omega) _ _,h2'.put (h2'.ne C' (by decide)) _ _⟩,v9,(aF C' _ _).trans rfl,kk.fresh qD (by decide) (by decide)⟩
theorem BtI.next{p:Pb} {n K c:Nat} {vc vs ve wv vv vt v9:Value} {w w4 Ve V w9:World} {tb2:List Vw} {exs:List Ex} {word:List Rd} {views:List (List Int)} {xs:List Value} (hI:KeepT [35,89] [] (w.heap.size+1+1) w4 Ve) (hK:KeepT [35] [] (w.heap.size+1+1) Ve V)
  (hs:V.heap[w.heap.size+1+1]?=some (.cells (EZ p n K vc vs vt ve) 35)) (ht:aD V (w.heap.size+1+1) 190 8 vt tb2.length (eI tb2)) (he:aD Ve (w.heap.size+1+1) 89 3 ve exs.length xs) (hx:∀ k (hk:k<exs.length),zp Ve (w.heap.size+1+1) xs k exs[k])
  {m:Nat} (hw:aD Ve (w.heap.size+1+1) 141 7 wv m (cV word)) (hm:word.length=m) (hv:cN V (w.heap.size+1+1) vv views) (h4:w.heap.size+1+1<w4.heap.size)
  (hg:(V.alloc (.cells #[.int .i64 c,wv,vv] 89)).grownBy w9 ve.ownBlock) (aX:aD w9 (w.heap.size+1+1) 89 3 v9 (exs.length+1) (xs++[.int .i64 c,wv,vv])):BtI p n K vc vs w w4 (tb2,exs++[⟨c,word,views⟩]) (w9.setCell ⟨w.heap.size+1+1,9,none⟩ v9):=by
 subst hm;have lU:Below V.heap.size V (V.alloc (.cells #[.int .i64 c,wv,vv] 89)):=by go_grown
 have eK:=hI.old.size;have Je:=hK.old.size;have pI:=(hK.own he (by decide)).up lU;have ry:=gW pI hg hs (by decide);have k3:=((hI.trans (hK.mono (us:=[35,89]) (ns:=[]) (fun t h=>by simp at h ⊢;exact .inl h) (fun _ h=>h))).up lU (by omega)).grown pI (by simp) (Nat.le_refl _) (by omega) hg;have kk:KeepT [89,35] [] (w.heap.size+1+1) (V.alloc (.cells #[.int .i64 c,wv,vv] 89)) (w9.setCell ⟨w.heap.size+1+1,9,none⟩ v9):=((KeepT.refl _ _ _).grown pI (by simp) (Nat.le_refl _) (by simp;omega) hg).set ry (by simp) (by omega) _;have iw:xs.length=exs.length * 3:=he.1;refine⟨k3.set ry (by simp) (by omega) _,vt,v9,xs++[.int .i64 c,wv,vv],(aF ry _ _).trans rfl,kk.own (ht.up lU) (by decide),?_,fun i hi=>?_⟩
 ·rw[List.length_append,List.length_singleton]
  exact aX.put (aX.ne ry (by decide)) _ _
 ·rw[List.length_append,List.length_singleton]at hi
  by_cases az:i<exs.length
  ·rw[List.getElem_append_left az]
   obtain⟨a,d,p1,p2,p3,p4,p5⟩:=hx i az;exact⟨a,d,by rw[List.getElem?_append_left (by omega)];exact p1,by rw[List.getElem?_append_left (by omega)];exact p2,by rw[List.getElem?_append_left (by omega)];exact p3,kk.own ((hK.own p4 (by decide)).up lU) (by decide),kk.fresh (bW.up (hK.fresh p5 (by decide) (by decide)) lU) (by decide) (by decide)⟩
  ·obtain rfl:i=exs.length:=by omega
   have e9:(exs++[(⟨c,word,views⟩:Ex)])[exs.length]'(by simp)=⟨c,word,views⟩:=by simp
   rw[e9];refine⟨wv,vv,?_,?_,?_,kk.own ((hK.own hw (by decide)).up lU) (by decide),kk.fresh (bW.up hv lU) (by decide) (by decide)⟩
   ·rw[List.getElem?_append_right (by omega),iw,Nat.sub_self];rfl
   ·rw[List.getElem?_append_right (by omega),iw,Nat.add_sub_cancel_left];rfl
   ·rw[List.getElem?_append_right (by omega),iw,Nat.add_sub_cancel_left];rfl
theorem VA{p:Pb} {vc vs vt ve:Value} {w V Wf:World} {xs:List Value} (hc:bK Wf vc p.t.cases) (hs:bk Wf vs p.a.states) (ht:aD V (w.heap.size+1+1) 190 8 vt (aM p).tab.length (eI (aM p).tab)) (he:aD V (w.heap.size+1+1) 89 3 ve (aM p).ex.length xs)
  (hx:∀ k (hk:k<(aM p).ex.length),zp V (w.heap.size+1+1) xs k (aM p).ex[k]) (hW:∀ k,w.heap.size+1+1<=k->k<V.heap.size->Wf.heap[k]?=V.heap[k]?) (hg:(∀ v∈(aM p).tab,jF v)/\∀ x∈(aM p).ex,ExGood x) (h1:(aM p).tab.length<=17592186044416) (h2:(aM p).ex.length<=17592186044416):IsSys Wf (aM p) vc vs vt ve:=by
 have tr:∀ {e:TypeId} {k:Nat} {v:Value} {m:Nat} {l:List Value},aD V (w.heap.size+1+1) e k v m l->aD Wf (w.heap.size+1+1) e k v m l:=fun {e k v m l} h=>h.keep fun g o hg ho=>(hW g (h.lt g hg).1 (h.lt g hg).2).trans ho
 refine⟨hc,hs,xW (tr ht) hg.1 h1,Kj (tr he) (fun i hi=>?_) hg.2 h2⟩;obtain⟨a,d,p1,p2,p3,p4,ys,p5,p6⟩:=hx i hi;exact⟨a,d,p1,p2,p3,tr p4,ys,tr p5,fun j hj=>by obtain⟨y,r1,r2⟩:=p6 j hj;exact⟨y,r1,tr r2⟩⟩
theorem Mj(p:Pb) (vc vs:Value) (w:World) (hc:bK w vc p.t.cases) (hs:bk w vs p.a.states) (hp:probE p=0) (hm:p.t.cases.length * (aI p).length<=200) :
  Calls Tryz.prog 117 #[qi p vc vs] w fun r w'=>∃ vt ve,r=.returned (.agg #[.int .i64 p.t.n,.int .i64 p.t.ins,.int .i64 p.t.outs,vc,.int .i64 p.a.n,vs,.int .i64 p.rounds,.int .i64 p.t.n,vt,ve])/\((∃ a c,vt=.slice a (aM p).tab.length c)/\∃ a c,ve=.slice a (aM p).ex.length c)/\(∀ Wf:World,(∀ k,w.heap.size<=k->k<w'.heap.size->Wf.heap[k]?=w'.heap[k]?)->bK Wf vc p.t.cases->bk Wf vs p.a.states->IsSys Wf (aM p) vc vs vt ve)/\Below w.heap.size w w':=by
 have GC:=aa hc;have GS:=aa hs;have HP:=aa hp;obtain⟨mP,Hy,yP,ro,pL⟩:=go hp;obtain⟨⟨kG,ic⟩,_,_,⟨wc,bU⟩,gg⟩:=eX mP
 have I4:(aI p).length<=200:=by
  have h9:1 * (aI p).length<=p.t.cases.length * (aI p).length:=Nat.mul_le_mul_right _ wc;omega
 have hst0:=(hH Hy).1;obtain⟨pc,cc,rfl,lc1,lc2,ec⟩:=hc.at;obtain⟨ps,cs,rfl,_⟩:=hs.at;obtain⟨K,hK⟩:∃ K:Nat,p.rounds=K:=⟨p.rounds.toNat,by omega⟩;obtain⟨n,hn⟩:∃ n:Nat,p.t.n=n:=⟨p.t.n.toNat,by omega⟩
 have MR:Hid (∀ W,Below w.heap.size w W->Calls Tryz.prog 157 #[.agg #[.int .i64 p.a.n,.slice ps p.a.states.length cs],.int .i64 0,.int .i64 K] W fun r w'=>∃ u,r=.returned u/\ui w' W.heap.size u (aI p)/\Below W.heap.size W w'):=aa fun W hb=>by
  have h:=EF p.a (fun s hs m hm=>by have:=ur Hy s hs m hm;omega) p.rounds.toNat 0 _ W (by omega) (by omega) (by have:(bS p.a p.rounds.toNat 0)=aI p:=rfl;rw[this];omega) (GS.out.up up_moves hb);rw[show ((p.rounds.toNat:Nat):Int)=(K:Int) by omega]at h;exact h
 have zB:=aa (A1 hp (fun c hc=>(vS GC.out c hc).1) (fun x hx=>vM p.a (rS GS.out) _ _ x hx) (by have:=sg hp (p.t.cases.length * (aI p).length) (Nat.le_refl _);have e:stP p (p.t.cases.length * (aI p).length)=execsS p (aI p) (fo p):=(by unfold stP;rw[List.take_of_length_le (by rw[jl];exact Nat.le_refl _)]);rw[e]at this;omega));have wX:=aa (sg hp);have HWG:Hid (∀ x∈aI p,x.length=K/\∀ r∈x,OkR n r/\oH r):=aa fun x hx=>⟨by have:=jR p.a p.rounds.toNat 0 x hx;omega,fun r hr=>⟨by have:=OY hp x hx r hr;rwa [<-yP,hn]at this,vM p.a (rS GS.out) _ _ x hx r hr⟩⟩
 have jM:Hid (stP p (p.t.cases.length * (aI p).length)=((aM p).tab,(aM p).ex)):=aa (by unfold stP;rw[List.take_of_length_le (by rw[jl];exact Nat.le_refl _)];rfl);have di:Hid (∀ c (hc:c<p.t.cases.length),(p.t.cases[c]).inp.length=n):=aa fun c hc=>by have:=(gg _ (List.getElem_mem hc)).inp;omega
 have HEC:=aa ec;have ML:=aa (vT p);obtain⟨nc,jO⟩:∃ nc,p.t.cases.length=nc:=⟨_,rfl⟩;obtain⟨nw,lT⟩:∃ nw,(aI p).length=nw:=⟨_,rfl⟩;have CH:=aa jO;have FO:=aa lT;obtain⟨ns,uL⟩:∃ ns,p.a.states.length=ns:=⟨_,rfl⟩;rw[jO]at lc1 lc2 wc bU hm jM wX zB ML ⊢;rw[lT]at hm I4 jM wX zB ML;have HNS:=aa uL;rw[uL]at MR ⊢;have HN:=aa hn;have jP:=aa hK;clear hc hs hp mP Hy yP gg ec jO lT hst0 uL ro;have ic:n<=5:=by omega
 have kG:1<=n:=by omega
 have hK6:K<=6:=by omega
 show Calls Tryz.prog 117 #[.agg #[.int .i64 p.t.n,.int .i64 p.t.ins,.int .i64 p.t.outs,.slice pc nc cc,.int .i64 p.a.n,.slice ps ns cs,.int .i64 p.rounds]] w _
 rw[hn,hK];clear hn hK;obtain⟨i0,cG,cf,bP,cj⟩:=info_parts Tryz.infoInt;have bQ:=aa (And.intro cG (And.intro cf (And.intro bP cj)));obtain⟨i1,n8,iV,jm,iD⟩:=info_parts Tryz.infoInts;have sR:=aa (And.intro n8 (And.intro iV (And.intro jm iD)));obtain⟨i2,SY,cS,dj,dU⟩:=info_parts Tryz.infoExec;have S7:=aa (And.intro SY (And.intro cS (And.intro dj dU)));clear cG cf bP cj n8 iV jm iD SY cS dj dU
 go_enter Tryz.func117,Tryz.ntmps117
 go_wp2_with fail
 refine aL (fun W=>Below w.heap.size w W/\W.heap[w.heap.size]?=some (.cells #[.int .i64 n,.int .i64 p.t.ins,.int .i64 p.t.outs,.slice pc nc cc,.int .i64 p.a.n,.slice ps ns cs,.int .i64 K] 29)/\W.heap[w.heap.size+1]?=some (.cells zeroSys 35)/\W.heap[w.heap.size+1+1]?=some (.cells #[.int .i64 n,.int .i64 p.t.ins,.int .i64 p.t.outs,.slice pc nc cc,.int .i64 p.a.n,.slice ps ns cs,.int .i64 K,.int .i64 n,.slice none 0 0,.slice none 0 0] 35)) ⟨by go_grown,am _ (am _ (ak _ _)),am _ (ba _ _ _),dH _ _ _ _⟩ (fun W0 aW=>?_);obtain⟨aC,br,gJ,VM⟩:=aW;refine(MR.out W0 aC).mono ?_;rintro r w4 ⟨u,rfl,hu,cg⟩;have fe:=aa (ae aC cg);have IJ:=aa (af cg br);have so:=aa (af cg gJ);have K0:=aa (af cg VM);have At:=ar K0.out;have hsW0:=ar VM;obtain⟨xs0,Fo,PE⟩:=hu;rw[FO.out]at Fo;obtain⟨pu,cu,rfl⟩:=Fo.slice;have Ap:=aa Fo;have FC:=aa PE;have bQ:Hid (BtI p n K (.slice pc nc cc) (.slice ps ns cs) w w4 ([],[]) w4):=aa ⟨KeepT.refl _ _ _,.slice none 0 0,.slice none 0 0,[],K0.out,aD.nil _ _ _ _,aD.nil _ _ _ _,fun k hk=>by simp at hk⟩;clear aC br gJ VM cg MR Fo PE
 go_wp2_with fail
 go_loopw [5] (fun i wr=>∃ c:Nat,c<=nc/\i=.int .i64 c/\BtI p n K (.slice pc nc cc) (.slice ps ns cs) w w4 (stP p (c * nw)) wr) (fun i _=>nc - (intOf i).toNat)
 case atStart=>exact⟨0,by omega,rfl,by rw[Nat.zero_mul];exact bQ.out⟩
 case round=>
  clear bQ;obtain⟨c,hc,rfl,hI⟩:=hrel;have HI:=aa hI;have hA:=hI.keep.keep _ _ _ _ IJ.out (by decide);have eK:=hI.keep.old.size;have db:Below w.heap.size w wr:=fe.out.trans (hI.keep.old.mono (by omega));have eP:=aa db;have tA:=ab hA;clear hI hA db;by_cases az:c<nc
  ·obtain⟨bc,oc,rfl,⟨vi,ci0,uN⟩,_,_⟩:=HEC.out c (by rw[CH.out];exact az)
   have gN:=di.out c (by rw[CH.out];exact az);have cP:=(vS GC.out _ (List.getElem_mem (l:=p.t.cases) (show c<p.t.cases.length by rw[CH.out];exact az))).1;obtain⟨inp,Sx⟩:∃ inp,(p.t.cases[c]'(by rw[CH.out];exact az)).inp=inp:=⟨_,rfl⟩;have HINP:Hid ((p.t.cases.getD c default).inp=inp):=aa (by rw[ap default (by rw[CH.out];exact az)];exact Sx);rw[Sx]at uN gN cP;obtain⟨pi,cpi,rfl,ei⟩:=fG uN;have HEI:=aa ei;have gu:=aa cP;have O5:=aa gN;have mC:=aa ci0;obtain⟨wrA,lB⟩:∃ x,x=wr:=⟨_,rfl⟩;subst lB;clear uN gN cP ei ci0 Sx
   go_wp2_with fail
   clear tA
   go_loopw [6] (fun i wr=>∃ j:Nat,j<=nw/\i=.int .i64 j/\BtI p n K (.slice (some ⟨bc,oc,none⟩) nc cc) (.slice ps ns cs) w w4 (stP p (c * nw+j)) wr) (fun i _=>nw - (intOf i).toNat)
   case atStart=>exact⟨0,by omega,rfl,HI.out⟩
   case round=>
    clear HI eP eK;obtain⟨j,hj,rfl,hI⟩:=hrel;have eK:=hI.keep.old.size;by_cases gR:j<nw
    ·obtain⟨vt,ve,xs,fP,iL,mM,At⟩:=hI.sys
     have Iq:(c+1) * nw<=nc * nw:=Nat.mul_le_mul_right nw (by omega);rw[Nat.succ_mul]at Iq;have Wo:j<(aI p).length:=by rw[FO.out];exact gR
     obtain⟨xw,KL,pQ⟩:=FC.out j Wo;obtain⟨g0,c0,e0,Jo⟩:=(hI.keep.own Ap.out (by decide)).cell j xw KL;injection e0 with e01 e02 e03
     subst e01;subst e03;clear e02;have K8:=HWG.out _ (List.getElem_mem (l:=aI p) Wo);have pI:=hI.keep.own pQ (by decide);have dT:=ML.out (c * nw+j) (by omega);have hg:=(zB.out (c * nw+j) (by omega)).1;have In:=wX.out (c * nw+j) (by omega);have Io:(c * nw+j) / nw=c:=by rw[Nat.mul_comm,Nat.mul_add_div (by omega),Nat.div_eq_of_lt gR,Nat.add_zero]
     have fS:(c * nw+j) % nw=j:=by rw[Nat.mul_comm,Nat.mul_add_mod,Nat.mod_eq_of_lt gR]
     rw[Io,fS]at dT;unfold jS at dT;rw[HINP.out,ap [] Wo,show p.t.n.toNat=n by have:=HN.out;omega]at dT
     have IX:(stP p (c * nw+j)).2.length<=1000:=by
      have h1:=rV p (aI p) ((fo p).take (c * nw+j)) ([],[]);have h2:(stP p (c * nw+j)).2.length=0+((fo p).take (c * nw+j)).length:=h1;rw[h2,List.length_take];omega
     generalize stP p (c * nw+j)=st at iL mM At dT hg In IX;generalize (aI p)[j]=word at pQ pI K8 dT
     have Rz:stP p (c * nw+j+1)=((btT n inp word st.1 (K+1)).1,st.2++[⟨c,word,(btT n inp word st.1 (K+1)).2⟩]):=by
      rw[dT];unfold gi;rw[K8.1];rfl
     obtain⟨tb,exs⟩:=st;have hexl:exs.length<=1000:=IX;dsimp only at iL mM At Rz hg In
     have hsm2:tb.length<=7000:=by
      have:(c * nw+j) * 35<=200 * 35:=Nat.mul_le_mul_right 35 (by omega);omega
     have MD:Hid (stP p (c * nw+(j+1))=((btT n inp word tb (K+1)).1,exs++[⟨c,word,(btT n inp word tb (K+1)).2⟩])):=aa Rz;have Jg:=aa (Vx n ic inp gu.out word tb hg (by omega));have sW:=aa (U4 n inp word tb);have Fc:=aa (Ru n inp word tb);have Ip:=aa (Vy n ic inp gu.out word);have AL:=aa (U3 n inp word);have iA:=aa (qW pI (fun i hi=>(K8.2 _ (List.getElem_mem hi)).2) (by omega));obtain⟨pxw,cxw,rfl,_⟩:=iA.out.at;rw[K8.1]at Jo;have yO:=aa K8;have HOX:=aa pQ;have hI0k:=hI.keep;obtain⟨ave,cve,rfl⟩:=mM.slice;have HI:=aa hI;have nZ:=aa mM;have Cu:=aa At;have hA:=hI.keep.keep _ _ _ _ IJ.out (by decide);have HAE:=aa hA;have HBWE:=aa (fe.out.trans (hI.keep.old.mono (by omega)));have O6:=aa fP;have Pm:=aa iL;have hs3b:=ar fP;have Ts:=aa Jo;have HXJ:=aa KL;have HOWB:=aa (hI0k.own Ap.out (by decide));have HHOW:=aa pI;obtain⟨wrB,hwB⟩:∃ x,x=wr:=⟨_,rfl⟩;subst hwB;clear hI hI0k KL fP iL mM At dT Rz hg pQ pI K8 hA Io fS In
     go_wp2_with fail
     have AO:Below wrB.heap.size wrB (wrB.alloc (.cells #[.int .i64 c,.slice pxw K cxw,.slice none 0 0] 89)):=by go_grown
     refine bj (fun W=>BtK p n K (.slice (some ⟨bc,oc,none⟩) nc cc) (.slice ps ns cs) (.slice ave exs.length cve) (.slice pxw K cxw) w wrB c (btT n inp word tb 0) W) ⟨(KeepT.refl _ _ _).up AO (by omega),⟨vt,af AO O6.out,Pm.out.up AO⟩,.slice none 0 0,ak _ _,bW.nil _ _⟩ (fun W9 hW9=>?_);have sK:=aa hW9;clear hW9 AO
     go_loopw [8] (fun i wr=>∃ k:Nat,k<=K+1/\i=.int .i64 k/\BtK p n K (.slice (some ⟨bc,oc,none⟩) nc cc) (.slice ps ns cs) (.slice ave exs.length cve) (.slice pxw K cxw) w wrB c (btT n inp word tb k) wr) (fun i _=>K+1 - (intOf i).toNat)
     case atStart=>exact⟨0,by omega,rfl,sK.out⟩
     case round=>
      clear sK;obtain⟨k,hk,rfl,hK⟩:=hrel;have Ti:=aa hK;have hszk:=hK.keep.old.size;have hA:=hK.keep.keep _ _ _ _ HAE.out (by decide);have HAK:=aa hA;have tA:=ab hA;have nR:=aa (HBWE.out.trans (hK.keep.old.mono (by omega)));obtain⟨vtk,jI,ku⟩:=hK.sys;obtain⟨vv,hZ,P2⟩:=hK.ex;have hszx:=ar hZ;obtain⟨ys,jm,iD⟩:=P2;obtain⟨pvv,cvv,rfl⟩:=jm.slice;have pN:=aa jI;have kj:=aa ku;have IZ:=aa hZ;have xj:=aa jm;have uK:=aa iD;clear hK hA jI ku hZ jm iD;by_cases lW:k<=K
      ·have hd:decide ((k:Int)<=(K:Int))=true:=decide_eq_true (by omega)
       obtain⟨wrC,hwC⟩:∃ x,x=wr:=⟨_,rfl⟩;subst hwC
       go_wp2_with fail
       clear tA hd;have wT:=sW.out k;obtain⟨M8,RX,M'⟩:=wT;have h7n:n * k<=5 * 7:=Nat.mul_le_mul ic (by omega);obtain⟨M6,Ia⟩:=Jg.out k (by omega)
       have oQ:∀ z∈(btT n inp word tb k).2.getLastD [],0<=z/\z<=(100000:Int):=fun z hz=>by
        rcases List.eq_nil_or_concat (btT n inp word tb k).2 with h|⟨l',a,h⟩
        ·rw[h]at hz;simp at hz
        ·rw[h,List.concat_eq_append,List.getLastD_concat]at hz
         exact Ia a (by rw[h];simp) z hz
       have uN:=Ip.out k (by omega) _ oQ;have sp:=AL.out k ((btT n inp word tb k).2.getLastD []);have IP:=Fc.out k;have Cr:Hid (∀ q (hq:q<(btV n inp word k ((btT n inp word tb k).2.getLastD [])).length),(btV n inp word k ((btT n inp word tb k).2.getLastD []))[q]=if k=0 then dS inp q else nextV n (k - 1) (word.getD (k - 1) default) ((btT n inp word tb k).2.getLastD []) q):=aa fun q hq=>by simp[btV]
       generalize btT n inp word tb k=st at M8 RX M' M6 Ia oQ uN sp IP kj xj uK IZ Cr;generalize btV n inp word k (st.2.getLastD [])=vs at uN sp IP Cr;obtain⟨tbk,views⟩:=st;dsimp only at M8 RX M' M6 Ia oQ IP kj xj uK IZ Cr;have HQI:=aa (fun q=>Vz tbk vs uN M6 (by omega) q);have HQS:=aa (Rv tbk vs);have Iy:=aa (U6 tbk vs);have AD:Hid (pG tbk vs n=addAll tbk vs):=aa (by rw[<-sp];exact U5 tbk vs);have HQ0:Hid (BtQ p n K (.slice (some ⟨bc,oc,none⟩) nc cc) (.slice ps ns cs) (.slice ave exs.length cve) w wrC (pG tbk vs 0) 0 (.slice none 0 0) wrC):=aa ⟨KeepT.refl _ _ _,⟨vtk,pN.out,kj.out⟩,aD.nil _ _ _ _⟩;have H5:=aa sp;have HROWS:=aa M';have Mz:=aa M8;have HTSS:=aa IP;have HTI2:=aa Ia;clear oQ uN sp IP M' M8 M6 Ia RX h7n
       go_loopw [9,10] (fun l i wr=>∃ q:Nat,q<=n/\i=.int .i64 q/\BtQ p n K (.slice (some ⟨bc,oc,none⟩) nc cc) (.slice ps ns cs) (.slice ave exs.length cve) w wrC (pG tbk vs q) q l wr) (fun _ i _=>n - (intOf i).toNat)
       case atStart=>exact⟨0,by omega,rfl,HQ0.out⟩
       case round=>
        clear HQ0;obtain⟨q,hq,rfl,hQ⟩:=hrel;have HQ:=aa hQ;have hszq:=hQ.keep.old.size;have hA:=hQ.keep.keep _ _ _ _ HAK.out (by decide);have HAQ:=aa hA;have jx:=aa (nR.out.trans (hQ.keep.old.mono (by omega)));have tA:=ab hA;obtain⟨al,cl,rfl⟩:=hQ.row.slice;clear hQ hA;by_cases rl:q<n
        ·obtain⟨bi,oi,rfl,Jr⟩:=HEI.out q (by rw[O5.out];exact rl)
         have tc:=ai jx.out mC.out;have ti:=ai jx.out Jr;have HQLL:=Iy.out q (by rw[H5.out];omega);have gN:=O5.out;have HILQ:Hid (q<inp.length):=aa (by rw[gN];exact rl);rw[gN]at tc;have H':Hid (dS inp q=⟨q,0,inp.getD q 0,-1,-1,-1,-1,-1⟩):=aa rfl;generalize inp.getD q 0=xq at ti H';clear Jr gN;obtain⟨wrD,hwD⟩:∃ x,x=wr:=⟨_,rfl⟩;subst hwD
         go_wp2_with fail
         refine(JT q xq wrD).mono ?_;rintro r w5 ⟨rfl,dO⟩;have PK:=aa (HQ.out.up dO (by omega));have iy:=aa (ae jx.out dO);have Xo:=Cr.out q (by rw[H5.out];exact rl);have dC:=HQS.out q (by rw[H5.out];exact rl);obtain⟨vq,hvqe⟩:∃ v,v=vs[q]'(by rw[H5.out];exact rl):=⟨_,rfl⟩;rw[<-hvqe]at Xo dC;have T0:=aa Xo;have yT:=aa dC;obtain⟨st1,RZ⟩:∃ x,x=pG tbk vs q:=⟨_,rfl⟩;rw[<-RZ]at PK yT HQLL;have Sm:=aa (HQI.out q);rw[<-RZ]at Sm;have hsz5:=dO.size;clear tA tc ti dO HQ Xo dC hvqe RZ;have Ky:∀ o,Below w5.heap.size w5 (w5.alloc o):=fun o=>by go_grown
         obtain⟨vt5,IW,E6⟩:=PK.out.sys;obtain⟨at5,ct5,rfl⟩:=E6.slice;have Dd:=aa IW;have KY:=aa E6;have hrw5:=PK.out.row;have Sy:=aa hrw5;clear IW E6 hrw5;by_cases eT:k=0
         case' pos=>
          have hd:decide ((0:Int)<(k:Int))=false:=decide_eq_false (by omega);have KV:decide (0<k)=false:=decide_eq_false (by omega);have hv:=T0.out;rw[if_pos eT]at hv;clear eT;rw[H'.out]at hv;have Aj:=aa hv;have t3:=fun o=>ab (af (Ky o) Dd.out)
          have tv:=ab (ak w5 (.cells #[.int .i64 q,.int .i64 0,.int .i64 xq,.int .i64 (-1),.int .i64 (-1),.int .i64 (-1),.int .i64 (-1),.int .i64 (-1)] 190));clear hv T0
          go_wp2_with fail
          clear t3 tv;refine aL (fun W=>BtP p n K (.slice (some ⟨bc,oc,none⟩) nc cc) (.slice ps ns cs) (.slice ave exs.length cve) (.slice at5 st1.1.length ct5) w wrC st1 (.slice al q cl) q w5.heap.size vq W) ⟨PK.out.keep.up (Ky _) (by omega),af (Ky _) Dd.out,KY.out.up (Ky _),Sy.out.up (Ky _),by rw[Aj.out];exact ak _ _⟩ ?_;rw[show (Value.agg #[.int .i64 q,.int .i64 0,.int .i64 xq,.int .i64 (-1),.int .i64 (-1),.int .i64 (-1),.int .i64 (-1),.int .i64 (-1)])=vq.v by rw[Aj.out]]
         case' neg=>
          have hd:decide ((0:Int)<(k:Int))=true:=decide_eq_true (by omega);have KV:decide (0<k)=true:=decide_eq_true (by omega);obtain⟨k',sX⟩:∃ k',k=k'+1:=⟨k - 1,by omega⟩;have hv:=T0.out;rw[if_neg eT,sX,Nat.add_sub_cancel]at hv;have Cx:=aa sX;have hkl2:k'<k:=by omega
          have hkl0:k'<K:=by omega
          have hkm:(k:Int) - 1=(k':Int):=by omega
          clear sX;have za:k'<word.length:=by rw[yO.out.1];have:=Cx.out;omega
          rw[ap default za]at hv;have KO:=yO.out.2 _ (List.getElem_mem za);have La:k'<views.length:=by have:=Mz.out;have:=Cx.out;omega
          have zx:views.getLastD []=views[k']:=by
           have:views.length=k'+1:=by have:=Mz.out;have:=Cx.out;omega
           rw[List.getLastD_eq_getLast?,List.getLast?_eq_getElem?,this,Nat.add_sub_cancel,List.getElem?_eq_getElem La];rfl
          obtain⟨xv,Am,IG⟩:=uK.out k' La;rw[zx]at hv;have VH:=HROWS.out _ (List.getElem_mem La);have Sb:=HTI2.out _ (List.getElem_mem La);have t3:=fun o=>ab (af (Ky o) Dd.out)
          go_wp2_with fail
          refine bj (fun W=>Below w5.heap.size w5 W/\W.heap[w5.heap.size]?=some (.cells #[.int .i64 q,.int .i64 0,.int .i64 xq,.int .i64 (-1),.int .i64 (-1),.int .i64 (-1),.int .i64 (-1),.int .i64 (-1)] 190)) ⟨by go_grown,ak _ _⟩ (fun W5 hW5=>?_);have kC:=PK.out.keep.up hW5.1 (by omega);have kB:=Ti.out.keep.trans kC;obtain⟨g9,c9,e9,tcw⟩:=(kB.own HOWB.out (by decide)).cell j _ HXJ.out;injection e9 with e91 e92 e93
          injection e91 with e91
          injection e91 with e91
          subst e91;have how5:=qW (kB.own HHOW.out (by decide)) (fun i hi=>(yO.out.2 _ (List.getElem_mem hi)).2) (by omega);obtain⟨pw8,cw8,ew8,_,_,ew9⟩:=how5.at;injection ew8 with ew81 ew82 ew83
          obtain⟨bw,ow,ew,⟨d0,_⟩,⟨d1,_⟩,⟨d2,_⟩,⟨d3,_⟩,⟨d4,_⟩,⟨d5,_⟩,⟨d6,_⟩⟩:=ew9 k' za;obtain⟨pxv,cxv,exv⟩:=IG.slice;have Jr:=gX (kC.own IG (by decide)) (fun z hz=>by have:=Sb z hz;exact⟨by omega,by omega⟩) (by omega);obtain⟨gv,cv1,ev1,hcv⟩:=(kC.own xj.out (by decide)).cell k' xv Am;injection ev1 with ev11 ev12 ev13
          have tX:=ab (kC.keep _ _ _ _ IZ.out (by decide));clear how5 ew9;generalize word[k']=rd at hv d0 d1 d2 d3 d4 d5 d6 KO;generalize views[k']=row at hv Jr VH exv Sb;rw[VH]at exv;rw[exv]at hcv Jr;obtain⟨⟨hgn,hhe,_,_,_⟩,_⟩:=KO
          have hvs:vq=seenV n k rd.g row q:=by
           rw[hv,Cx.out];simp[nextV,seenV,lI,seenH]
          have MU:=aa (fun W (hb:Below W5.heap.size W5 W)=>LU rd.g k q n hgn ic (by omega) (hhe q (by omega)) _ row (by omega) W (Jr.up up_int hb));rw[<-hvs]at MU;have HKC:=aa kC;have E9:=aa hW5.2;have Pd:=aa (af hW5.1 Dd.out);have HT5:=aa (KY.out.up hW5.1);have xb:=aa (Sy.out.up hW5.1);have hsz55:=ar hW5.2;subst ew;subst ew81;subst ev11;rw[yO.out.1]at ew82;rw[yO.out.1]at tcw;have VB:IntKind.i64.wrap (k':Int)=(k':Int):=IntWalk.i64_in _ (by omega);clear VH hgn hv Sb Jr kC kB IG exv Am zx hvs hW5 ew82 ew83 ev12 ev13 e92 e93 T0 H' t3
          go_still_tail 17,(by kernel_rfl)
          go_wp2_with fail
          refine aL (fun W=>Below W5.heap.size W5 W) (Below.drew (Below.refl _ _)) (fun W6 yV=>?_);refine(MU.out W6 yV).mono ?_;rintro r w6 ⟨rfl,gx⟩;have oN:=ae yV gx;have WQ:=aa (af oN E9.out)
          have y8:Hid (BtP p n K (.slice (some ⟨bc,oc,none⟩) nc cc) (.slice ps ns cs) (.slice ave exs.length cve) (.slice at5 st1.1.length ct5) w wrC st1 (.slice al q cl) q w5.heap.size vq (w6.setRow w5.heap.size vq.c)):=aa (by
           have bM:∀ k,k≠w5.heap.size->(w6.setRow w5.heap.size vq.c).heap[k]?=w6.heap[k]?:=fun k hk=>setRow_other _ _ _ _ hk
           have KZ:=HKC.out.up oN (by omega)
           refine⟨⟨below_setRow KZ.old (by omega) _,fun k c t f h1 h2=>(bM k (by have:=ar h1;omega)).trans (KZ.keep k c t f h1 h2),fun k o h1 h2 h3=>(bM k (by have:=ar h1;omega)).trans (KZ.oth k o h1 h2 h3)⟩,(bM _ (by omega)).trans (af oN Pd.out),(HT5.out.up oN).keep (fun g o hg ho=>(bM g (fun e=>by have:=(KY.out.lt g hg).2;omega)).trans ho),(xb.out.up oN).keep (fun g o hg ho=>(bM g (fun e=>(xb.out.up oN).ne WQ.out (by decide) g hg e)).trans ho),setRow_heap _ _ _ _ _ _ WQ.out⟩)
          clear yV gx oN d0 d1 d2 d3 d4 d5 d6 tX tcw hcv hkm VB MU E9 Pd HT5 xb
          go_wp2_with (refine wpList_store_row rfl 190 (.tmp 11) (.tmp 89) rfl w5.heap.size vq.c rfl rfl 190 _ WQ.out (by kernel_rfl) rfl (by simp[Value.oneCell']) ?_;have t3:=ab y8.out.sys;have tv:=ab y8.out.v)
          clear t3 tv;refine aL (fun W=>BtP p n K (.slice (some ⟨bc,oc,none⟩) nc cc) (.slice ps ns cs) (.slice ave exs.length cve) (.slice at5 st1.1.length ct5) w wrC st1 (.slice al q cl) q w5.heap.size vq W) y8.out ?_;rw[show (Value.agg #[.int .i64 vq.p,.int .i64 vq.k,.int .i64 vq.i,.int .i64 vq.h0,.int .i64 vq.h1,.int .i64 vq.h2,.int .i64 vq.h3,.int .i64 vq.h4])=vq.v from rfl]
         all_goals
          intro W6 yV;have KR:=aa yV;clear yV;refine(QU n st1.1 _ vq (w.heap.size+1+1) W6 (by have:=KR.out.keep.old.size;omega) KR.out.tab Sm.out.1 (by have:=Sm.out.2.2;omega)).mono ?_;rintro r w7 ⟨⟨u7,rfl,T4⟩,CM⟩;obtain⟨a7,c7,rfl⟩:=T4.slice;generalize putV st1.1 vq=pv at T4 yT ⊢;have WW:=KR.out.keep.up CM (by omega);have wL:=af CM KR.out.sys;have VD:=KR.out.row.up CM;have hsz7:=WW.old.size;have hg7:∀ o,Below w7.heap.size w7 (w7.alloc o):=fun o=>by go_grown
          have h3lt:=ar wL;have t3:=fun o=>ab (af (hg7 o) wL)
          have z3:=fun o=>aE (af (hg7 o) wL)
          have t3a:=ab wL;have z3a:=aE wL;obtain⟨o7,ho7⟩:∃ o:Obj,o=.cells #[.int .i64 n,.slice a7 pv.1.length c7] 32:=⟨_,rfl⟩;obtain⟨W8,nW⟩:∃ W8,W8=((w7.setCell ⟨w.heap.size+1+1,7,none⟩ (.int .i64 n)).setCell ⟨w.heap.size+1+1,8,none⟩ (.slice a7 pv.1.length c7)).alloc o7:=⟨_,rfl⟩
          have hs8:W8.heap[w.heap.size+1+1]?=some (.cells (EZ p n K (.slice (some ⟨bc,oc,none⟩) nc cc) (.slice ps ns cs) (.slice a7 pv.1.length c7) (.slice ave exs.length cve)) 35):=by
           rw[nW];refine am _ ?_;rw[aF (aF wL _ _) _ _];rfl
          have hk8:KeepT [35] [] (w.heap.size+1+1) wrC W8:=by
           rw[nW];have h2:=WW.set (o:=7) wL (by simp) (by omega) (.int .i64 n);have h3:=h2.set (o:=8) (aF wL _ _) (by simp) (by omega) (.slice a7 pv.1.length c7);exact h3.up (by go_grown) (by omega)
          have Sr:∀ {b:Nat} {e:TypeId} {k m:Nat} {v:Value} {l:List Value},aD w7 b e k v m l->e≠35->aD W8 b e k v m l:=fun {b e k m v l} h bM=>by
           rw[nW];exact((h.put (h.ne wL bM) _ _).put (h.ne wL bM) _ _).up (by go_grown)
          have hr8:=Sr VD (by decide);have hu8:=Sr T4 (by decide);have hsz8:w7.heap.size<W8.heap.size:=by rw[nW];simp
          have Ps:=aa hs8;have HK8:=aa hk8;have HU8:=aa hu8;have Lb:Below W8.heap.size W8 (W8.alloc (.cells #[.int .i64 pv.2] 3)):=by go_grown
          have ME:=aa (hr8.up Lb);have HG8:=aa Lb;have bN:=eA W8 [.int .i64 pv.2] 3;rw[show W8.heap.size=w7.heap.size+1 by rw[nW];simp]at bN;have bB:=aa bN;have gO:Hid (q+1<=maxLen):=aa (by unfold maxLen;omega);have rp:Hid ((q+1) * 8<=140737488355328):=aa (by omega);have fL:Hid (wrC.heap.size<=(W8.alloc (.cells #[.int .i64 pv.2] 3)).heap.size):=aa (by simp;omega);subst nW;subst ho7;clear T4 WW wL VD hs8 hk8 Sr hr8 hu8 Lb CM bN Dd KY Sy KR
          go_wp2_with (at_builtin;go_loud (refine aZ _ rfl (.tmp 99) (.tmp 101) 38 rfl wrC.heap.size 3 i0 _ 1 8 Tryz.underlying38 bQ.out.1 bQ.out.2.1 bQ.out.2.2.1 bQ.out.2.2.2 rfl (by decide) _ q _ rfl ME.out ⟨w7.heap.size+1,0,none⟩ 1 1 [.int .i64 pv.2] rfl rfl bB.out (by simp[Value.oneCell']) gO.out rp.out fL.out ?_;intro v9 w9 eh dg _))
          go_roundw
          case rel=>
           refine⟨q+1,by omega,by go_num,?_⟩;rw[yT.out];have Lb:Below _ _ (_:World):=HG8.out;refine⟨(HK8.out.up Lb (by omega)).grownNew (by omega) (fun g hg=>(ME.out.lt g hg).1) dg,⟨_,gW ME.out dg Ps.out (by decide),(HU8.out.up Lb).apart ME.out (by decide) dg⟩,?_⟩;rw[List.map_append];exact eh
          case measure=>simp[intOf];omega
        ·have hqe:q=n:=by omega
         subst hqe;have hx:=HQ.out.keep.keep _ _ _ _ IZ.out (by decide);have tx:=ab hx;have lU:Below wr.heap.size wr (wr.alloc (.cells #[.slice al q cl] 38)):=by go_grown
         have yG:=aa hx;have PS:=aa lU;have jL:=aa ((HQ.out.keep.own xj.out (by decide)).up lU);have bB:=aa (eA wr [.slice al q cl] 38);have gO:Hid (views.length+1<=maxLen):=aa (by have:=Mz.out;unfold maxLen;omega);have rp:Hid ((views.length+1) * 24<=140737488355328):=aa (by have:=Mz.out;omega);have fL:Hid (wrB.heap.size<=(wr.alloc (.cells #[.slice al q cl] 38)).heap.size):=aa (by simp;omega);have CJ:=Iy.out q (by rw[H5.out];omega);clear hx lU
         go_wp2_with (at_builtin;(refine aZ _ rfl (.tmp 104) (.tmp 106) 56 rfl wrB.heap.size 38 i1 _ 1 24 Tryz.underlying56 sR.out.1 sR.out.2.1 sR.out.2.2.1 sR.out.2.2.2 rfl (by decide) _ views.length _ rfl jL.out ⟨wr.heap.size,0,none⟩ 1 1 [.slice al q cl] rfl rfl bB.out (by simp[Value.oneCell']) gO.out rp.out fL.out ?_;intro v9 w9 eh dg _;obtain⟨av9,cv9,rfl⟩:=eh.slice;have C':=gW jL.out dg yG.out (by decide);have c9:=ab C';have f9:=aE C'))
         go_roundw
         case rel=>
          refine⟨k+1,by omega,by go_num,?_⟩;rw[HTSS.out];have hq9:=HQ.out;rw[AD.out]at hq9 CJ;exact BtK.next Ti.out.keep hq9 yG.out (HQ.out.keep.own xj.out (by decide)) (fun i hi=>by obtain⟨x,q1,q2⟩:=uK.out i hi;exact⟨x,q1,HQ.out.keep.own q2 (by decide)⟩) CJ (by omega) dg eh
         case measure=>simp[intOf];omega
      ·obtain rfl:k=K+1:=by omega
       have hd:decide (((K+1:Nat):Int)<=(K:Int))=false:=decide_eq_false (by omega);have fS:decide ((K:Int)+1<=(K:Int))=false:=decide_eq_false (by omega);have tS:=ab pN.out;have tx:=ab IZ.out;have TW:=aa (sW.out (K+1)).1;generalize btT n inp word tb (K+1)=st at MD kj IZ xj uK tx TW ⊢;obtain⟨tbk,views⟩:=st;dsimp only at MD kj IZ xj uK tx TW;have lU:Below wr.heap.size wr (wr.alloc (.cells #[.int .i64 c,.slice pxw K cxw,.slice pvv views.length cvv] 89)):=by go_grown
       have PS:=aa lU;have jL:=aa ((Ti.out.keep.own nZ.out (by decide)).up lU);have bB:=aa (eA wr [.int .i64 c,.slice pxw K cxw,.slice pvv views.length cvv] 89);have gO:Hid (exs.length+1<=maxLen):=aa (by unfold maxLen;omega);have rp:Hid ((exs.length+1) * 56<=140737488355328):=aa (by omega);have fL:Hid (w.heap.size+1+1<=(wr.alloc (.cells #[.int .i64 c,.slice pxw K cxw,.slice pvv views.length cvv] 89)).heap.size):=aa (by simp;omega);clear lU
       go_wp2_with (at_builtin;(refine aZ _ rfl (.tmp 110) (.tmp 112) 33 rfl (w.heap.size+1+1) 89 i2 _ 3 56 Tryz.underlying33 S7.out.1 S7.out.2.1 S7.out.2.2.1 S7.out.2.2.2 rfl (by decide) _ exs.length _ rfl jL.out ⟨wr.heap.size,0,none⟩ 1 1 [.int .i64 c,.slice pxw K cxw,.slice pvv views.length cvv] rfl rfl bB.out (by simp[Value.oneCell']) gO.out rp.out fL.out ?_;intro v9 w9 eh dg _;obtain⟨av9,cv9,rfl⟩:=eh.slice;have ry:=gW jL.out dg pN.out (by decide);have c9:=ab ry;have f9:=aE ry))
       go_roundw
       case rel=>
        refine⟨j+1,by omega,by go_num,?_⟩;rw[MD.out];have Wb:=HHOW.out.base (show w.heap.size+1+1<=W0.heap.size by omega);rw[yO.out.1]at Wb;have qD:cN wr (w.heap.size+1+1) (.slice pvv views.length cvv) views:=B2 (show cN wr wrB.heap.size (.slice pvv views.length cvv) views from⟨ys,xj.out,uK.out⟩) (by omega);exact BtI.next HI.out.keep Ti.out.keep pN.out kj.out nZ.out Cu.out Wb yO.out.1 qD (by omega) dg eh
       case measure=>simp[intOf];omega
    ·obtain rfl:j=nw:=by omega
     have HI:=aa hI;clear hI
     go_wp2_with fail
     go_roundw
     case rel=>exact⟨c+1,by omega,by go_num,by rw[Nat.succ_mul];exact HI.out⟩
     case measure=>simp[intOf];omega
  ·have hce:c=nc:=by omega
   subst hce;have wK:=HI.out;rw[jM.out]at wK;obtain⟨vt,ve,xs,h1,h2,h3,h4⟩:=wK.sys;have hr:=(wK.keep.old.block (w.heap.size+1) (by omega)).trans so.out;have Cx:=aa wK.keep;obtain⟨avt,cvt,rfl⟩:=h2.slice;obtain⟨ave,cve,rfl⟩:=h3.slice;have H2:=aa h2;have H3:=aa h3;have H4:=aa h4;have tS:=ab h1;have Lh:=aa hr;have In:=wX.out (c * nw) (Nat.le_refl _);have k9:=zB.out (c * nw) (Nat.le_refl _);rw[jM.out]at In k9;dsimp only at In k9;have HSMM:=aa (show (aM p).tab.length<=17592186044416 by omega);have SO:=aa k9
   have C5:Hid ((aM p).ex.length<=17592186044416):=aa (by
    have h1:=rV p (aI p) (fo p) ([],[]);have h2:(aM p).ex.length=0+(fo p).length:=h1;rw[h2,jl,CH.out,FO.out]
    omega)
   clear wK h1 h2 h3 h4 hr In k9
   go_wp2_with (refine wpList_store_row rfl 35 (.tmp 2) (.tmp 115) rfl (w.heap.size+1) (EZ p n K (.slice pc c cc) (.slice ps ns cs) (.slice avt (aM p).tab.length cvt) (.slice ave (aM p).ex.length cve)) rfl rfl 35 _ Lh.out (by kernel_rfl) rfl (by simp[Value.oneCell']) ?_)
   refine bodyPost_ret (F5 _ (w.heap.size+1) _ _ _ _ _ _ _ _ _ _ _ rfl (setRow_heap _ _ _ _ _ _ Lh.out)) rfl ⟨.slice avt (aM p).tab.length cvt,.slice ave (aM p).ex.length cve,?_,⟨⟨_,_,rfl⟩,_,_,rfl⟩,?_,below_setRow eP.out (by omega) _⟩
   ·rw[<-jP.out,<-HN.out]
   ·intro Wf Iv h1 h2
    exact VA h1 h2 H2.out H3.out H4.out (fun k hk ku=>(Iv k (by omega) (Nat.lt_of_lt_of_le ku (below_setRow (Below.refl (w.heap.size+1) wr) (Nat.le_refl _) (EZ p n K (.slice pc c cc) (.slice ps ns cs) (.slice avt (aM p).tab.length cvt) (.slice ave (aM p).ex.length cve))).size)).trans (setRow_other _ _ _ _ (by omega))) SO.out HSMM.out C5.out
end Go.Proofs.YtmeaoneaephjeaaGreatDoor
