/-
  A part of the proof: lemmas and contracts that the parts behind it use. Each one's conditions are its own premises.
-/
import Derived.Test.YtmeaoneaephjeaaGreatDoorL7
set_option maxRecDepth 100000
set_option maxHeartbeats 8000000
set_option linter.unusedVariables false
set_option linter.unusedSimpArgs false
namespace Go.Proofs.YtmeaoneaephjeaaGreatDoor
open Go.RowKit Go Go.Shelf
section
variable {ts : List TypeId} {ms : List Nat} {base : Nat} {w w' w'' : World}
theorem KeepT.up(h:KeepT ts ms base w w') (hb:Below w'.heap.size w' w'') (hs:base<=w.heap.size):KeepT ts ms base w w'':=
 h.trans (.of_below ts hb (Nat.le_trans hs h.old.size))
end
theorem uH{p:Pb} (h:probE p=0):∀ i,i<=p.t.cases.length * (aL p).length->(stP p i).1.length<=i * 35
 | 0,_=>by simp[stP,execsS]
 | i+1,hi=>by
  have ih:=uH h i (by omega);obtain⟨nP,_,_,sS,rl⟩:=gO h;obtain⟨⟨_,gK⟩,_,_,⟨_,bR⟩,gC⟩:=fB nP;have aB:i<p.t.cases.length * (aL p).length:=by omega
  have kX:0<(aL p).length:=by
   rcases Nat.eq_zero_or_pos (aL p).length with h|h
   ·rw[h]at aB;simp at aB
   ·exact h
  have hj:i % (aL p).length<(aL p).length:=Nat.mod_lt _ kX
  have Ra:((aL p)[i % (aL p).length]).length<=6:=by
   have:=kA p.a p.rounds.toNat 0 _ (List.getElem_mem (l:=aL p) hj);omega
  have eF:=xK p i aB;unfold kD at eF;dsimp only at eF;rw[aA [] hj]at eF;have cC:=(iI p.t.n.toNat (p.t.cases.getD (i / (aL p).length) default).inp (aL p)[i % (aL p).length] (stP p i).1 ((aL p)[i % (aL p).length]).length).2.2;have h9:p.t.n.toNat * (((aL p)[i % (aL p).length]).length+1)<=5 * 7:=Nat.mul_le_mul (by omega) (by omega);rw[eF];simp only[gD];omega
theorem QW{P:Rd->Prop} (a:Adv) (h:∀ s,∀ m∈a.states.getD s [],P m.r) (k:Nat):∀ s,∀ x∈cf a k s,∀ r∈x,P r:=by
 induction k with
 | zero=>intro s x hx r hr;simp[cf]at hx;subst hx;simp at hr
 | succ k ih=>
  intro s x hx r hr;simp only[cf,List.mem_flatMap,List.mem_map]at hx;obtain⟨m,hm,y,hy,rfl⟩:=hx;rcases List.mem_cons.1 hr with rfl|hr
  ·exact h s m hm
  ·exact ih _ y hy r hr
theorem QX{p:Pb} (h:probE p=0):∀ x∈aL p,∀ r∈x,OkR p.a.n r:=by
 have ha:=(gO h).2.1;refine QW p.a (fun s m hm=>Qu ha ((BB p.a m.r).2 ?_)) _ 0;by_cases hs:s<p.a.states.length
 ·rw[aA [] hs]at hm;exact⟨_,List.getElem_mem hs,m,hm,rfl⟩
 ·rw[List.getD_eq_getElem?_getD,List.getElem?_eq_none (by omega)]at hm;simp at hm
def btT(n:Nat) (inp:List Int) (word:List Rd) (tb:List Vw):Nat->List Vw × List (List Int)
 | 0=>(tb,[])
 | k+1=>playTo n inp word tb k
def btV(n:Nat) (inp:List Int) (word:List Rd) (k:Nat) (now:List Int):List Vw:=(List.range n).map fun q=>if k=0 then eE inp q else nextV n (k - 1) (word.getD (k - 1) default) now q
theorem Xn(n:Nat) (inp:List Int) (word:List Rd) (k:Nat) (now:List Int):(btV n inp word k now).length=n:=by simp[btV]
theorem Tt(n:Nat) (inp:List Int) (word:List Rd) (tb:List Vw):∀ k,btT n inp word tb (k+1)=((addAll (btT n inp word tb k).1 (btV n inp word k ((btT n inp word tb k).2.getLastD []))).1,(btT n inp word tb k).2++[(addAll (btT n inp word tb k).1 (btV n inp word k ((btT n inp word tb k).2.getLastD []))).2])
 | 0=>rfl
 | _+1=>rfl
theorem Xo(n:Nat) (inp:List Int) (word:List Rd) (tb:List Vw):∀ k,(btT n inp word tb k).2.length=k/\(btT n inp word tb k).1.length<=tb.length+n * k/\∀ row∈(btT n inp word tb k).2,row.length=n
 | 0=>⟨rfl,Nat.le_add_right _ _,fun row h=>by simp[btT]at h⟩
 | k+1=>⟨(iI n inp word tb k).1,(iI n inp word tb k).2.2,vN n inp word tb k⟩
theorem XT(n:Nat) (hn:n<=5) (inp:List Int) (hi:∀ x∈inp,bN x) (word:List Rd) (tb:List Vw) (ht:∀ v∈tb,ka v) (hl:tb.length+40<=100000):∀ k,k<=7->(∀ v∈(btT n inp word tb k).1,ka v)/\∀ row∈(btT n inp word tb k).2,∀ z∈row,0<=z/\z<=(100000:Int)
 | 0,_=>⟨ht,fun row h=>by simp[btT]at h⟩
 | k+1,hk=>zL n hn inp hi word tb ht k (by omega) hl
theorem XU(n:Nat) (hn:n<=5) (inp:List Int) (hi:∀ x∈inp,bN x) (word:List Rd) (k:Nat) (hk:k<=7) (now:List Int) (qF:∀ z∈now,0<=z/\z<=(100000:Int)):∀ v∈btV n inp word k now,ka v:=fun v hv=>by
 obtain⟨q,hq,rfl⟩:=List.mem_map.1 hv;have hq:=List.mem_range.1 hq;have z1:bN (-1):=⟨by omega,by omega⟩;have z0:bN 0:=⟨by omega,by omega⟩;by_cases h0:k=0
 ·rw[if_pos h0]
  have hx:bN (inp.getD q 0):=by
   by_cases h:q<inp.length
   ·rw[aA 0 h];exact hi _ (List.getElem_mem h)
   ·rw[List.getD_eq_getElem?_getD,List.getElem?_eq_none (by omega)];exact z0
  exact⟨ww q (by omega),z0,hx,z1,z1,z1,z1,z1⟩
 ·rw[if_neg h0]
  have hh:∀ p,bN (mC n (word.getD (k - 1) default) now q p):=fun p=>by
   unfold mC;split
   ·by_cases h:p<now.length
    ·rw[aA 0 h];have:=qF _ (List.getElem_mem h);exact⟨by omega,by omega⟩
    ·rw[List.getD_eq_getElem?_getD,List.getElem?_eq_none (by omega)];exact z0
   ·exact z1
  exact⟨ww q (by omega),⟨by simp only[nextV];omega,by simp only[nextV];omega⟩,z0,hh 0,hh 1,hh 2,hh 3,hh 4⟩
def qW(tb:List Vw) (vs:List Vw) (q:Nat):List Vw × List Int:=addAll tb (vs.take q)
theorem Xp(tb vs:List Vw):qW tb vs vs.length=addAll tb vs:=by unfold qW;rw[List.take_length]
theorem Tu(tb vs:List Vw) (q:Nat) (hq:q<vs.length):qW tb vs (q+1)=((putV (qW tb vs q).1 vs[q]).1,(qW tb vs q).2++[((putV (qW tb vs q).1 vs[q]).2:Int)]):=by
 unfold qW;rw[vF tb vs q hq];rfl
theorem XV(tb vs:List Vw) (hv:∀ v∈vs,ka v) (ht:∀ v∈tb,ka v) (hl:tb.length+vs.length<=100000) (q:Nat):(∀ v∈(qW tb vs q).1,ka v)/\(∀ z∈(qW tb vs q).2,0<=z/\z<=(100000:Int))/\(qW tb vs q).1.length<=100000:=by
 have jQ:(vs.take q).length<=vs.length:=by rw[List.length_take];omega
 have h:=zK 100000 (vs.take q) (tb,[]) (fun v h=>hv v (List.mem_of_mem_take h)) ht (fun z hz=>by simp at hz) (by dsimp only;omega);have h2:=fU (vs.take q) (tb,[]);exact⟨h.1,h.2,by have:=h2.2;simp only[qW,addAll]at this ⊢;omega⟩
theorem Xq(tb vs:List Vw) (q:Nat) (hq:q<=vs.length):(qW tb vs q).2.length=q:=by
 have h2:=(fU (vs.take q) (tb,[])).1;simp only[qW,addAll];rw[h2,List.length_take];simp;omega
end Go.Proofs.YtmeaoneaephjeaaGreatDoor
namespace Go.Proofs.YtmeaoneaephjeaaGreatDoor
open Go.RowKit Go Go.Shelf
attribute [local go_sem] Oper.semAt_some
abbrev GD(p:Pb) (n K:Nat) (vc vs vt ve:Value):Array Value:=#[.int .i64 n,.int .i64 p.t.ins,.int .i64 p.t.outs,vc,.int .i64 p.a.n,vs,.int .i64 K,.int .i64 n,vt,ve]
structure BtI (p:Pb) (n K:Nat) (vc vs:Value) (w w4:World) (st:List Vw × List Ex) (V:World):Prop where
 keep:KeepT [35,89] [] (w.heap.size+1+1) w4 V
 sys:∃ vt ve xs,V.heap[w.heap.size+1+1]?=some (.cells (GD p n K vc vs vt ve) 35)/\aH V (w.heap.size+1+1) 190 8 vt st.1.length (fc st.1)/\aH V (w.heap.size+1+1) 89 3 ve st.2.length xs/\∀ k (hk:k<st.2.length),AW V (w.heap.size+1+1) xs k (st.2[k])
structure BtK (p:Pb) (n K:Nat) (vc vs ve wv:Value) (w Ve:World) (ci:Nat) (st:List Vw × List (List Int)) (V:World):Prop where
 keep:KeepT [35] [] (w.heap.size+1+1) Ve V
 sys:∃ vt,V.heap[w.heap.size+1+1]?=some (.cells (GD p n K vc vs vt ve) 35)/\aH V (w.heap.size+1+1) 190 8 vt st.1.length (fc st.1)
 ex:∃ vv,V.heap[Ve.heap.size]?=some (.cells #[.int .i64 ci,wv,vv] 89)/\cU V Ve.heap.size vv st.2
structure BtQ (p:Pb) (n K:Nat) (vc vs ve:Value) (w Vk:World) (st:List Vw × List Int) (q:Nat) (l:Value) (V:World):Prop where
 keep:KeepT [35] [] (w.heap.size+1+1) Vk V
 sys:∃ vt,V.heap[w.heap.size+1+1]?=some (.cells (GD p n K vc vs vt ve) 35)/\aH V (w.heap.size+1+1) 190 8 vt st.1.length (fc st.1)
 row:aH V Vk.heap.size 3 1 l q (st.2.map (Value.int .i64))
structure BtP (p:Pb) (n K:Nat) (vc vs ve vt:Value) (w Vk:World) (st:List Vw × List Int) (l:Value) (q bv:Nat) (v:Vw) (V:World):Prop where
 keep:KeepT [35] [] (w.heap.size+1+1) Vk V
 sys:V.heap[w.heap.size+1+1]?=some (.cells (GD p n K vc vs vt ve) 35)
 tab:aH V (w.heap.size+1+1) 190 8 vt st.1.length (fc st.1)
 row:aH V Vk.heap.size 3 1 l q (st.2.map (Value.int .i64))
 v:V.heap[bv]?=some (.cells v.c 190)
theorem BtQ.up{p:Pb} {n K:Nat} {vc vs ve:Value} {w Vk:World} {st:List Vw × List Int} {q:Nat} {l:Value} {V V':World} (h:BtQ p n K vc vs ve w Vk st q l V) (hb:Below V.heap.size V V') (hs:w.heap.size+1+1<=Vk.heap.size):BtQ p n K vc vs ve w Vk st q l V':=by
 obtain⟨vt,h1,h2⟩:=h.sys;exact⟨h.keep.up hb hs,⟨vt,af hb h1,h2.up hb⟩,h.row.up hb⟩
theorem Ih(tmps:Array Value) (B:Nat) (W:World) (c0 c1 c2 c3 c4 c5 c6 c7 c8 c9:Value) (h2:tmps[2]?.getD undef=.pointer (some ⟨B,0,none⟩))
  (hB:W.heap[B]?=some (.cells #[c0,c1,c2,c3,c4,c5,c6,c7,c8,c9] 35)) :
  (results Tryz.f117 tmps).run Tryz.prog W=.ok (.agg #[c0,c1,c2,c3,c4,c5,c6,c7,c8,c9]) W:=by
 have t2:=ab hB;simp[results,Tryz.results117,go_sem,h2,t2]
theorem BtK.next{p:Pb} {n K q c:Nat} {vc vs ve wv lv vv v9:Value} {w Ve Vk V w9:World} {tb:List Vw} {l:List Int} {views:List (List Int)} {ys:List Value} (hK:KeepT [35] [] (w.heap.size+1+1) Ve Vk) (hQ:BtQ p n K vc vs ve w Vk (tb,l) q lv V) (hx:V.heap[Ve.heap.size]?=some (.cells #[.int .i64 c,wv,vv] 89))
  (jj:aH V Ve.heap.size 38 1 vv views.length ys) (iR:∀ i (hi:i<views.length),∃ x,ys[i]?=some x/\aH V Ve.heap.size 3 1 x views[i].length (views[i].map (Value.int .i64))) (hl:l.length=q) (fk:w.heap.size+1+1<Ve.heap.size)
  (hg:(V.alloc (.cells #[lv] 38)).grownBy w9 vv.ownBlock) (aS:aH w9 Ve.heap.size 38 1 v9 (views.length+1) (ys++[lv])):BtK p n K vc vs ve wv w Ve c (tb,views++[l]) (w9.setCell ⟨Ve.heap.size,2,none⟩ v9):=by
 have mP:Below V.heap.size V (V.alloc (.cells #[lv] 38)):=by go_grown
 have qY:=jj.up mP
 have MA:aH (V.alloc (.cells #[lv] 38)) Ve.heap.size 3 1 lv l.length (l.map (Value.int .i64)):=by
  rw[hl];exact(hQ.row.base hK.old.size).up mP
 have kj:∀ i (hi:i<views.length),∃ x,ys[i]?=some x/\aH (V.alloc (.cells #[lv] 38)) Ve.heap.size 3 1 x views[i].length (views[i].map (Value.int .i64)):=fun i hi=>by
  obtain⟨x,q1,q2⟩:=iR i hi;exact⟨x,q1,q2.up mP⟩
 have oW:cU w9 Ve.heap.size v9 (views++[l]):=cB.snoc qY kj (by decide) MA hg aS;have En:=im qY hg hx (by decide);obtain⟨vt,h1,h2⟩:=hQ.sys;have h2':=(h2.up mP).apart qY (by decide) hg;have k3:=((hK.trans hQ.keep).up mP (by omega)).grownNew (by omega) (fun g hg=>(qY.lt g hg).1) hg;have kk:=(KeepT.refl (ms:=[]) [89] Ve.heap.size w9).set (o:=2) En (by simp) (Nat.le_refl _) v9;exact⟨k3.setNew (by omega) (Nat.le_refl _) _,⟨vt,aK (im qY hg h1 (by decide)) (by omega) _ _,h2'.put (h2'.ne En (by decide)) _ _⟩,v9,(aF En _ _).trans rfl,kk.fresh oW (by decide) (by decide)⟩
theorem BtI.next{p:Pb} {n K c:Nat} {vc vs ve wv vv vt v9:Value} {w w4 Ve V w9:World} {tb2:List Vw} {exs:List Ex} {word:List Rd} {views:List (List Int)} {xs:List Value} (hI:KeepT [35,89] [] (w.heap.size+1+1) w4 Ve) (hK:KeepT [35] [] (w.heap.size+1+1) Ve V)
  (hs:V.heap[w.heap.size+1+1]?=some (.cells (GD p n K vc vs vt ve) 35)) (ht:aH V (w.heap.size+1+1) 190 8 vt tb2.length (fc tb2)) (he:aH Ve (w.heap.size+1+1) 89 3 ve exs.length xs) (hx:∀ k (hk:k<exs.length),AW Ve (w.heap.size+1+1) xs k exs[k])
  {m:Nat} (hw:aH Ve (w.heap.size+1+1) 141 7 wv m (dd word)) (hm:word.length=m) (hv:cU V (w.heap.size+1+1) vv views) (h4:w.heap.size+1+1<w4.heap.size)
  (hg:(V.alloc (.cells #[.int .i64 c,wv,vv] 89)).grownBy w9 ve.ownBlock) (aS:aH w9 (w.heap.size+1+1) 89 3 v9 (exs.length+1) (xs++[.int .i64 c,wv,vv])):BtI p n K vc vs w w4 (tb2,exs++[⟨c,word,views⟩]) (w9.setCell ⟨w.heap.size+1+1,9,none⟩ v9):=by
 subst hm;have mP:Below V.heap.size V (V.alloc (.cells #[.int .i64 c,wv,vv] 89)):=by go_grown
 have fk:=hI.old.size;have JT:=hK.old.size;have qY:=(hK.own he (by decide)).up mP;have tz:=im qY hg hs (by decide);have k3:=((hI.trans (hK.mono (us:=[35,89]) (ns:=[]) (fun t h=>by simp at h ⊢;exact .inl h) (fun _ h=>h))).up mP (by omega)).grown qY (by simp) (Nat.le_refl _) (by omega) hg;have kk:KeepT [89,35] [] (w.heap.size+1+1) (V.alloc (.cells #[.int .i64 c,wv,vv] 89)) (w9.setCell ⟨w.heap.size+1+1,9,none⟩ v9):=((KeepT.refl _ _ _).grown qY (by simp) (Nat.le_refl _) (by simp;omega) hg).set tz (by simp) (by omega) _;have iQ:xs.length=exs.length * 3:=he.1;refine⟨k3.set tz (by simp) (by omega) _,vt,v9,xs++[.int .i64 c,wv,vv],(aF tz _ _).trans rfl,kk.own (ht.up mP) (by decide),?_,fun i hi=>?_⟩
 ·rw[List.length_append,List.length_singleton];exact aS.put (aS.ne tz (by decide)) _ _
 ·rw[List.length_append,List.length_singleton]at hi;by_cases aB:i<exs.length
  ·rw[List.getElem_append_left aB];obtain⟨a,d,p1,p2,p3,p4,p5⟩:=hx i aB;exact⟨a,d,by rw[List.getElem?_append_left (by omega)];exact p1,by rw[List.getElem?_append_left (by omega)];exact p2,by rw[List.getElem?_append_left (by omega)];exact p3,kk.own ((hK.own p4 (by decide)).up mP) (by decide),kk.fresh (cB.up (hK.fresh p5 (by decide) (by decide)) mP) (by decide) (by decide)⟩
  ·obtain rfl:i=exs.length:=by omega
   have e9:(exs++[(⟨c,word,views⟩:Ex)])[exs.length]'(by simp)=⟨c,word,views⟩:=by simp
   rw[e9];refine⟨wv,vv,?_,?_,?_,kk.own ((hK.own hw (by decide)).up mP) (by decide),kk.fresh (cB.up hv mP) (by decide) (by decide)⟩
   ·rw[List.getElem?_append_right (by omega),iQ,Nat.sub_self];rfl
   ·rw[List.getElem?_append_right (by omega),iQ,Nat.add_sub_cancel_left];rfl
   ·rw[List.getElem?_append_right (by omega),iQ,Nat.add_sub_cancel_left];rfl
theorem XW{p:Pb} {vc vs vt ve:Value} {w V Wf:World} {xs:List Value} (hc:bS Wf vc p.t.cases) (hs:bF Wf vs p.a.states) (ht:aH V (w.heap.size+1+1) 190 8 vt (aO p).tab.length (fc (aO p).tab)) (he:aH V (w.heap.size+1+1) 89 3 ve (aO p).ex.length xs)
  (hx:∀ k (hk:k<(aO p).ex.length),AW V (w.heap.size+1+1) xs k (aO p).ex[k]) (hW:∀ k,w.heap.size+1+1<=k->k<V.heap.size->Wf.heap[k]?=V.heap[k]?) (hg:(∀ v∈(aO p).tab,ka v)/\∀ x∈(aO p).ex,ExGood x) (h1:(aO p).tab.length<=17592186044416) (h2:(aO p).ex.length<=17592186044416):IsSys Wf (aO p) vc vs vt ve:=by
 have tr:∀ {e:TypeId} {k:Nat} {v:Value} {m:Nat} {l:List Value},aH V (w.heap.size+1+1) e k v m l->aH Wf (w.heap.size+1+1) e k v m l:=fun {e k v m l} h=>h.keep fun g o hg ho=>(hW g (h.lt g hg).1 (h.lt g hg).2).trans ho
 refine⟨hc,hs,zN (tr ht) hg.1 h1,LU (tr he) (fun i hi=>?_) hg.2 h2⟩;obtain⟨a,d,p1,p2,p3,p4,ys,p5,p6⟩:=hx i hi;exact⟨a,d,p1,p2,p3,tr p4,ys,tr p5,fun j hj=>by obtain⟨y,r1,r2⟩:=p6 j hj;exact⟨y,r1,tr r2⟩⟩
theorem N6(p:Pb) (vc vs:Value) (w:World) (hc:bS w vc p.t.cases) (hs:bF w vs p.a.states) (hp:probE p=0) (hm:p.t.cases.length * (aL p).length<=200) :
  Calls Tryz.prog 117 #[rE p vc vs] w fun r w'=>∃ vt ve,r=.returned (.agg #[.int .i64 p.t.n,.int .i64 p.t.ins,.int .i64 p.t.outs,vc,.int .i64 p.a.n,vs,.int .i64 p.rounds,.int .i64 p.t.n,vt,ve])/\((∃ a c,vt=.slice a (aO p).tab.length c)/\∃ a c,ve=.slice a (aO p).ex.length c)/\(∀ Wf:World,(∀ k,w.heap.size<=k->k<w'.heap.size->Wf.heap[k]?=w'.heap[k]?)->bS Wf vc p.t.cases->bF Wf vs p.a.states->IsSys Wf (aO p) vc vs vt ve)/\Below w.heap.size w w':=by
 have GC:=aa hc;have GS:=aa hs;have HP:=aa hp;obtain⟨nP,Ko,AH,sS,rl⟩:=gO hp;obtain⟨⟨jS,gK⟩,_,_,⟨xV,bR⟩,gC⟩:=fB nP
 have J6:(aL p).length<=200:=by
  have h9:1 * (aL p).length<=p.t.cases.length * (aL p).length:=Nat.mul_le_mul_right _ xV;omega
 have hst0:=(ir Ko).1;obtain⟨pc,cc,rfl,lc1,lc2,ec⟩:=hc.at;obtain⟨ps,cs,rfl,_⟩:=hs.at;obtain⟨K,hK⟩:∃ K:Nat,p.rounds=K:=⟨p.rounds.toNat,by omega⟩;obtain⟨n,hn⟩:∃ n:Nat,p.t.n=n:=⟨p.t.n.toNat,by omega⟩
 have Oe:am (∀ W,Below w.heap.size w W->Calls Tryz.prog 157 #[.agg #[.int .i64 p.a.n,.slice ps p.a.states.length cs],.int .i64 0,.int .i64 K] W fun r w'=>∃ u,r=.returned u/\wo w' W.heap.size u (aL p)/\Below W.heap.size W w'):=aa fun W hb=>by
  have h:=Gp p.a (fun s hs m hm=>by have:=wn Ko s hs m hm;omega) p.rounds.toNat 0 _ W (by omega) (by omega) (by have:(cf p.a p.rounds.toNat 0)=aL p:=rfl;rw[this];omega) (GS.o.up up_moves hb);rw[show ((p.rounds.toNat:Nat):Int)=(K:Int) by omega]at h;exact h
 have A2:=aa (CE hp (fun c hc=>(xJ GC.o c hc).1) (fun x hx=>xH p.a (ux GS.o) _ _ x hx) (by have:=uH hp (p.t.cases.length * (aL p).length) (Nat.le_refl _);have e:stP p (p.t.cases.length * (aL p).length)=execsS p (aL p) (fR p):=(by unfold stP;rw[List.take_of_length_le (by rw[jC];exact Nat.le_refl _)]);rw[e]at this;omega));have mK:=aa (uH hp);have HWG:am (∀ x∈aL p,x.length=K/\∀ r∈x,OkR n r/\qz r):=aa fun x hx=>⟨by have:=kA p.a p.rounds.toNat 0 x hx;omega,fun r hr=>⟨by have:=QX hp x hx r hr;rwa [<-AH,hn]at this,xH p.a (ux GS.o) _ _ x hx r hr⟩⟩
 have iK:am (stP p (p.t.cases.length * (aL p).length)=((aO p).tab,(aO p).ex)):=aa (by unfold stP;rw[List.take_of_length_le (by rw[jC];exact Nat.le_refl _)];rfl);have dA:am (∀ c (hc:c<p.t.cases.length),(p.t.cases[c]).inp.length=n):=aa fun c hc=>by have:=(gC _ (List.getElem_mem hc)).inp;omega
 have HEC:=aa ec;have OR:=aa (xK p);obtain⟨nc,jH⟩:∃ nc,p.t.cases.length=nc:=⟨_,rfl⟩;obtain⟨nw,mS⟩:∃ nw,(aL p).length=nw:=⟨_,rfl⟩;have Ev:=aa jH;have GU:=aa mS;obtain⟨ns,rN⟩:∃ ns,p.a.states.length=ns:=⟨_,rfl⟩;rw[jH]at lc1 lc2 xV bR hm iK mK A2 OR ⊢;rw[mS]at hm J6 iK mK A2 OR;have HNS:=aa rN;rw[rN]at Oe ⊢;have HN:=aa hn;have kx:=aa hK;clear hc hs hp nP Ko AH gC ec jH mS hst0 rN sS;have gK:n<=5:=by omega
 have jS:1<=n:=by omega
 have hK6:K<=6:=by omega
 show Calls Tryz.prog 117 #[.agg #[.int .i64 p.t.n,.int .i64 p.t.ins,.int .i64 p.t.outs,.slice pc nc cc,.int .i64 p.a.n,.slice ps ns cs,.int .i64 p.rounds]] w _
 rw[hn,hK];clear hn hK;obtain⟨i0,cM,bX,bP,bY⟩:=info_parts Tryz.infoInt;have bO:=aa (And.intro cM (And.intro bX (And.intro bP bY)));obtain⟨i1,pN,jl,jj,iR⟩:=info_parts Tryz.infoInts;have vp:=aa (And.intro pN (And.intro jl (And.intro jj iR)));obtain⟨i2,Vg,dj,dL,eA⟩:=info_parts Tryz.infoExec;have Vt:=aa (And.intro Vg (And.intro dj (And.intro dL eA)));clear cM bX bP bY pN jl jj iR Vg dj dL eA
 go_enter Tryz.func117,Tryz.ntmps117
 go_wp2_with fail
 refine aN (fun W=>Below w.heap.size w W/\W.heap[w.heap.size]?=some (.cells #[.int .i64 n,.int .i64 p.t.ins,.int .i64 p.t.outs,.slice pc nc cc,.int .i64 p.a.n,.slice ps ns cs,.int .i64 K] 29)/\W.heap[w.heap.size+1]?=some (.cells zeroSys 35)/\W.heap[w.heap.size+1+1]?=some (.cells #[.int .i64 n,.int .i64 p.t.ins,.int .i64 p.t.outs,.slice pc nc cc,.int .i64 p.a.n,.slice ps ns cs,.int .i64 K,.int .i64 n,.slice none 0 0,.slice none 0 0] 35)) ⟨by go_grown,ar _ (ar _ (aq _ _)),ar _ (bd _ _ _),eI _ _ _ _⟩ (fun W0 aZ=>?_);obtain⟨aI,bI,ic,X7⟩:=aZ;refine(Oe.o W0 aI).mono ?_;rintro r w4 ⟨u,rfl,hu,cj⟩;have eG:=aa (ae aI cj);have wJ:=aa (af cj bI);have nT:=aa (af cj ic);have Mz:=aa (af cj X7);have Ae:=aC Mz.o;have hsW0:=aC X7;obtain⟨xs0,GJ,RO⟩:=hu;rw[GU.o]at GJ;obtain⟨pu,cu,rfl⟩:=GJ.slice;have mR:=aa GJ;have Aa:=aa RO;have bO:am (BtI p n K (.slice pc nc cc) (.slice ps ns cs) w w4 ([],[]) w4):=aa ⟨KeepT.refl _ _ _,.slice none 0 0,.slice none 0 0,[],Mz.o,aH.nil _ _ _ _,aH.nil _ _ _ _,fun k hk=>by simp at hk⟩;clear aI bI ic X7 cj Oe GJ RO
 go_wp2_with fail
 go_loopw [5] (fun i wr=>∃ c:Nat,c<=nc/\i=.int .i64 c/\BtI p n K (.slice pc nc cc) (.slice ps ns cs) w w4 (stP p (c * nw)) wr) (fun i _=>nc - (intOf i).toNat)
 ·exact⟨0,by omega,rfl,by rw[Nat.zero_mul];exact bO.o⟩
 ·
  clear bO;obtain⟨c,hc,rfl,hI⟩:=hrel;have HI:=aa hI;have hA:=hI.keep.keep _ _ _ _ wJ.o (by decide);have fk:=hI.keep.old.size;have cZ:Below w.heap.size w wr:=eG.o.trans (hI.keep.old.mono (by omega));have eh:=aa cZ;have tA:=ab hA;clear hI hA cZ;by_cases aB:c<nc
  ·obtain⟨bc,oc,rfl,⟨vi,ci0,wH⟩,_,_⟩:=HEC.o c (by rw[Ev.o];exact aB);have gZ:=dA.o c (by rw[Ev.o];exact aB);have cW:=(xJ GC.o _ (List.getElem_mem (l:=p.t.cases) (show c<p.t.cases.length by rw[Ev.o];exact aB))).1;obtain⟨inp,Ua⟩:∃ inp,(p.t.cases[c]'(by rw[Ev.o];exact aB)).inp=inp:=⟨_,rfl⟩;have HINP:am ((p.t.cases.getD c default).inp=inp):=aa (by rw[aA default (by rw[Ev.o];exact aB)];exact Ua);rw[Ua]at wH gZ cW;obtain⟨pi,cpi,rfl,ei⟩:=df wH;have HEI:=aa ei;have fZ:=aa cW;have Rb:=aa gZ;have nZ:=aa ci0;obtain⟨wrA,kw⟩:∃ x,x=wr:=⟨_,rfl⟩;subst kw;clear wH gZ cW ei ci0 Ua
   go_wp2_with fail
   clear tA
   go_loopw [6] (fun i wr=>∃ j:Nat,j<=nw/\i=.int .i64 j/\BtI p n K (.slice (some ⟨bc,oc,none⟩) nc cc) (.slice ps ns cs) w w4 (stP p (c * nw+j)) wr) (fun i _=>nw - (intOf i).toNat)
   ·exact⟨0,by omega,rfl,HI.o⟩
   ·
    clear HI eh fk;obtain⟨j,hj,rfl,hI⟩:=hrel;have fk:=hI.keep.old.size;by_cases fS:j<nw
    ·obtain⟨vt,ve,xs,gc,iS,n',Ae⟩:=hI.sys;have Ku:(c+1) * nw<=nc * nw:=Nat.mul_le_mul_right nw (by omega);rw[Nat.succ_mul]at Ku;have Zv:j<(aL p).length:=by rw[GU.o];exact fS
     obtain⟨xw,B5,rj⟩:=Aa.o j Zv;obtain⟨g0,c0,e0,Ay⟩:=(hI.keep.own mR.o (by decide)).cell j xw B5;injection e0 with e01 e02 e03
     subst e01;subst e03;clear e02;have MR:=HWG.o _ (List.getElem_mem (l:=aL p) Zv);have qY:=hI.keep.own rj (by decide);have eF:=OR.o (c * nw+j) (by omega);have hg:=(A2.o (c * nw+j) (by omega)).1;have KB:=mK.o (c * nw+j) (by omega);have GK:(c * nw+j) / nw=c:=by rw[Nat.mul_comm,Nat.mul_add_div (by omega),Nat.div_eq_of_lt fS,Nat.add_zero]
     have gM:(c * nw+j) % nw=j:=by rw[Nat.mul_comm,Nat.mul_add_mod,Nat.mod_eq_of_lt fS]
     rw[GK,gM]at eF;unfold kD at eF;rw[HINP.o,aA [] Zv,show p.t.n.toNat=n by have:=HN.o;omega]at eF
     have KF:(stP p (c * nw+j)).2.length<=1000:=by
      have h1:=uA p (aL p) ((fR p).take (c * nw+j)) ([],[]);have h2:(stP p (c * nw+j)).2.length=0+((fR p).take (c * nw+j)).length:=h1;rw[h2,List.length_take];omega
     generalize stP p (c * nw+j)=st at iS n' Ae eF hg KB KF;generalize (aL p)[j]=word at rj qY MR eF
     have Tx:stP p (c * nw+j+1)=((btT n inp word st.1 (K+1)).1,st.2++[⟨c,word,(btT n inp word st.1 (K+1)).2⟩]):=by
      rw[eF];unfold gD;rw[MR.1];rfl
     obtain⟨tb,exs⟩:=st;have hexl:exs.length<=1000:=KF;dsimp only at iS n' Ae Tx hg KB
     have hsm2:tb.length<=7000:=by
      have:(c * nw+j) * 35<=200 * 35:=Nat.mul_le_mul_right 35 (by omega);omega
     have OY:am (stP p (c * nw+(j+1))=((btT n inp word tb (K+1)).1,exs++[⟨c,word,(btT n inp word tb (K+1)).2⟩])):=aa Tx;have JY:=aa (XT n gK inp fZ.o word tb hg (by omega));have uJ:=aa (Xo n inp word tb);have GO:=aa (Tt n inp word tb);have JW:=aa (XU n gK inp fZ.o word);have BT:=aa (Xn n inp word);have iU:=aa (sE qY (fun i hi=>(MR.2 _ (List.getElem_mem hi)).2) (by omega));obtain⟨pxw,cxw,rfl,_⟩:=iU.o.at;rw[MR.1]at Ay;have AF:=aa MR;have YS:=aa rj;have hI0k:=hI.keep;obtain⟨ave,cve,rfl⟩:=n'.slice;have HI:=aa hI;have l4:=aa n';have Ej:=aa Ae;have hA:=hI.keep.keep _ _ _ _ wJ.o (by decide);have HAE:=aa hA;have HBWE:=aa (eG.o.trans (hI.keep.old.mono (by omega)));have R4:=aa gc;have Ro:=aa iS;have hs3b:=aC gc;have HCW:=aa Ay;have HXJ:=aa B5;have HOWB:=aa (hI0k.own mR.o (by decide));have HHOW:=aa qY;obtain⟨wrB,hwB⟩:∃ x,x=wr:=⟨_,rfl⟩;subst hwB;clear hI hI0k B5 gc iS n' Ae eF Tx hg rj qY MR hA GK gM KB
     go_wp2_with fail
     have wM:Below wrB.heap.size wrB (wrB.alloc (.cells #[.int .i64 c,.slice pxw K cxw,.slice none 0 0] 89)):=by go_grown
     refine bu (fun W=>BtK p n K (.slice (some ⟨bc,oc,none⟩) nc cc) (.slice ps ns cs) (.slice ave exs.length cve) (.slice pxw K cxw) w wrB c (btT n inp word tb 0) W) ⟨(KeepT.refl _ _ _).up wM (by omega),⟨vt,af wM R4.o,Ro.o.up wM⟩,.slice none 0 0,aq _ _,cB.nil _ _⟩ (fun W9 hW9=>?_);have uM:=aa hW9;clear hW9 wM
     go_loopw [8] (fun i wr=>∃ k:Nat,k<=K+1/\i=.int .i64 k/\BtK p n K (.slice (some ⟨bc,oc,none⟩) nc cc) (.slice ps ns cs) (.slice ave exs.length cve) (.slice pxw K cxw) w wrB c (btT n inp word tb k) wr) (fun i _=>K+1 - (intOf i).toNat)
     ·exact⟨0,by omega,rfl,uM.o⟩
     ·
      clear uM;obtain⟨k,hk,rfl,hK⟩:=hrel;have VB:=aa hK;have hszk:=hK.keep.old.size;have hA:=hK.keep.keep _ _ _ _ HAE.o (by decide);have HAK:=aa hA;have tA:=ab hA;have vf:=aa (HBWE.o.trans (hK.keep.old.mono (by omega)));obtain⟨vtk,mm,og⟩:=hK.sys;obtain⟨vv,iA,Q5⟩:=hK.ex;have hszx:=aC iA;obtain⟨ys,jj,iR⟩:=Q5;obtain⟨pvv,cvv,rfl⟩:=jj.slice;have xb:=aa mm;have la:=aa og;have KT:=aa iA;have sZ:=aa jj;have wW:=aa iR;clear hK hA mm og iA jj iR;by_cases mL:k<=K
      ·have hd:decide ((k:Int)<=(K:Int))=true:=decide_eq_true (by omega);obtain⟨wrC,hwC⟩:∃ x,x=wr:=⟨_,rfl⟩;subst hwC
       go_wp2_with fail
       clear tA hd;have yZ:=uJ.o k;obtain⟨Of,Ul,Ok⟩:=yZ;have h7n:n * k<=5 * 7:=Nat.mul_le_mul gK (by omega);obtain⟨O3,KI⟩:=JY.o k (by omega)
       have qF:∀ z∈(btT n inp word tb k).2.getLastD [],0<=z/\z<=(100000:Int):=fun z hz=>by
        rcases List.eq_nil_or_concat (btT n inp word tb k).2 with h|⟨l',a,h⟩
        ·rw[h]at hz;simp at hz
        ·rw[h,List.concat_eq_append,List.getLastD_concat]at hz;exact KI a (by rw[h];simp) z hz
       have wH:=JW.o k (by omega) _ qF;have vh:=BT.o k ((btT n inp word tb k).2.getLastD []);have Ks:=GO.o k;have GI:am (∀ q (hq:q<(btV n inp word k ((btT n inp word tb k).2.getLastD [])).length),(btV n inp word k ((btT n inp word tb k).2.getLastD []))[q]=if k=0 then eE inp q else nextV n (k - 1) (word.getD (k - 1) default) ((btT n inp word tb k).2.getLastD []) q):=aa fun q hq=>by simp[btV]
       generalize btT n inp word tb k=st at Of Ul Ok O3 KI qF wH vh Ks la sZ wW KT GI;generalize btV n inp word k (st.2.getLastD [])=vs at wH vh Ks GI;obtain⟨tbk,views⟩:=st;dsimp only at Of Ul Ok O3 KI qF Ks la sZ wW KT GI;have HQI:=aa (fun q=>XV tbk vs wH O3 (by omega) q);have Vi:=aa (Tu tbk vs);have wR:=aa (Xq tbk vs);have sU:am (qW tbk vs n=addAll tbk vs):=aa (by rw[<-vh];exact Xp tbk vs);have Mk:am (BtQ p n K (.slice (some ⟨bc,oc,none⟩) nc cc) (.slice ps ns cs) (.slice ave exs.length cve) w wrC (qW tbk vs 0) 0 (.slice none 0 0) wrC):=aa ⟨KeepT.refl _ _ _,⟨vtk,xb.o,la.o⟩,aH.nil _ _ _ _⟩;have Ky:=aa vh;have HROWS:=aa Ok;have OO:=aa Of;have HTSS:=aa Ks;have HTI2:=aa KI;clear qF wH vh Ks Ok Of O3 KI Ul h7n
       go_loopw [9,10] (fun l i wr=>∃ q:Nat,q<=n/\i=.int .i64 q/\BtQ p n K (.slice (some ⟨bc,oc,none⟩) nc cc) (.slice ps ns cs) (.slice ave exs.length cve) w wrC (qW tbk vs q) q l wr) (fun _ i _=>n - (intOf i).toNat)
       ·exact⟨0,by omega,rfl,Mk.o⟩
       ·
        clear Mk;obtain⟨q,hq,rfl,hQ⟩:=hrel;have HQ:=aa hQ;have hszq:=hQ.keep.old.size;have hA:=hQ.keep.keep _ _ _ _ HAK.o (by decide);have Y8:=aa hA;have eo:=aa (vf.o.trans (hQ.keep.old.mono (by omega)));have tA:=ab hA;obtain⟨al,cl,rfl⟩:=hQ.row.slice;clear hQ hA;by_cases wX:q<n
        ·obtain⟨bi,oi,rfl,Kp⟩:=HEI.o q (by rw[Rb.o];exact wX);have tc:=ak eo.o nZ.o;have ti:=ak eo.o Kp;have HQLL:=wR.o q (by rw[Ky.o];omega);have gZ:=Rb.o;have HILQ:am (q<inp.length):=aa (by rw[gZ];exact wX);rw[gZ]at tc;have KD:am (eE inp q=⟨q,0,inp.getD q 0,-1,-1,-1,-1,-1⟩):=aa rfl;generalize inp.getD q 0=xq at ti KD;clear Kp gZ;obtain⟨wrD,hwD⟩:∃ x,x=wr:=⟨_,rfl⟩;subst hwD
         go_wp2_with fail
         refine(Ls q xq wrD).mono ?_;rintro r w5 ⟨rfl,dE⟩;have Rl:=aa (HQ.o.up dE (by omega));have lf:=aa (ae eo.o dE);have YK:=GI.o q (by rw[Ky.o];exact wX);have dK:=Vi.o q (by rw[Ky.o];exact wX);obtain⟨vq,hvqe⟩:∃ v,v=vs[q]'(by rw[Ky.o];exact wX):=⟨_,rfl⟩;rw[<-hvqe]at YK dK;have VA:=aa YK;have Aq:=aa dK;obtain⟨st1,UC⟩:∃ x,x=qW tbk vs q:=⟨_,rfl⟩;rw[<-UC]at Rl Aq HQLL;have Uw:=aa (HQI.o q);rw[<-UC]at Uw;have hsz5:=dE.size;clear tA tc ti dE HQ YK dK hvqe UC;have Mq:∀ o,Below w5.heap.size w5 (w5.alloc o):=fun o=>by go_grown
         obtain⟨vt5,GZ,EG⟩:=Rl.o.sys;obtain⟨at5,ct5,rfl⟩:=EG.slice;have Ez:=aa GZ;have Mb:=aa EG;have hrw5:=Rl.o.row;have FO:=aa hrw5;clear GZ EG hrw5;by_cases fg:k=0
         case' pos=>
          have hd:decide ((0:Int)<(k:Int))=false:=decide_eq_false (by omega);have hd':decide (0<k)=false:=decide_eq_false (by omega);have hv:=VA.o;rw[if_pos fg]at hv;clear fg;rw[KD.o]at hv;have BL:=aa hv;have t3:=fun o=>ab (af (Mq o) Ez.o)
          have tv:=ab (aq w5 (.cells #[.int .i64 q,.int .i64 0,.int .i64 xq,.int .i64 (-1),.int .i64 (-1),.int .i64 (-1),.int .i64 (-1),.int .i64 (-1)] 190));clear hv VA
          go_wp2_with fail
          clear t3 tv;refine aN (fun W=>BtP p n K (.slice (some ⟨bc,oc,none⟩) nc cc) (.slice ps ns cs) (.slice ave exs.length cve) (.slice at5 st1.1.length ct5) w wrC st1 (.slice al q cl) q w5.heap.size vq W) ⟨Rl.o.keep.up (Mq _) (by omega),af (Mq _) Ez.o,Mb.o.up (Mq _),FO.o.up (Mq _),by rw[BL.o];exact aq _ _⟩ ?_;rw[show (Value.agg #[.int .i64 q,.int .i64 0,.int .i64 xq,.int .i64 (-1),.int .i64 (-1),.int .i64 (-1),.int .i64 (-1),.int .i64 (-1)])=vq.v by rw[BL.o]]
         case' neg=>
          have hd:decide ((0:Int)<(k:Int))=true:=decide_eq_true (by omega);have hd':decide (0<k)=true:=decide_eq_true (by omega);obtain⟨k',vA⟩:∃ k',k=k'+1:=⟨k - 1,by omega⟩;have hv:=VA.o;rw[if_neg fg,vA,Nat.add_sub_cancel]at hv;have RG:=aa vA;have hkl2:k'<k:=by omega
          have hkl0:k'<K:=by omega
          have We:(k:Int) - 1=(k':Int):=by omega
          clear vA;have Ap:k'<word.length:=by rw[AF.o.1];have:=RG.o;omega
          rw[aA default Ap]at hv;have Mo:=AF.o.2 _ (List.getElem_mem Ap);have MA:k'<views.length:=by have:=OO.o;have:=RG.o;omega
          have A1:views.getLastD []=views[k']:=by
           have:views.length=k'+1:=by have:=OO.o;have:=RG.o;omega
           rw[List.getLastD_eq_getLast?,List.getLast?_eq_getElem?,this,Nat.add_sub_cancel,List.getElem?_eq_getElem MA];rfl
          obtain⟨xv,BN,KU⟩:=wW.o k' MA;rw[A1]at hv;have YA:=HROWS.o _ (List.getElem_mem MA);have Uk:=HTI2.o _ (List.getElem_mem MA);have t3:=fun o=>ab (af (Mq o) Ez.o)
          go_wp2_with fail
          refine bu (fun W=>Below w5.heap.size w5 W/\W.heap[w5.heap.size]?=some (.cells #[.int .i64 q,.int .i64 0,.int .i64 xq,.int .i64 (-1),.int .i64 (-1),.int .i64 (-1),.int .i64 (-1),.int .i64 (-1)] 190)) ⟨by go_grown,aq _ _⟩ (fun W5 hW5=>?_);have kC:=Rl.o.keep.up hW5.1 (by omega);have kB:=VB.o.keep.trans kC;obtain⟨g9,c9,e9,tcw⟩:=(kB.own HOWB.o (by decide)).cell j _ HXJ.o;injection e9 with e91 e92 e93
          injection e91 with e91
          injection e91 with e91
          subst e91;have how5:=sE (kB.own HHOW.o (by decide)) (fun i hi=>(AF.o.2 _ (List.getElem_mem hi)).2) (by omega);obtain⟨pw8,cw8,ew8,_,_,ew9⟩:=how5.at;injection ew8 with ew81 ew82 ew83
          obtain⟨bw,ow,ew,⟨d0,_⟩,⟨d1,_⟩,⟨d2,_⟩,⟨d3,_⟩,⟨d4,_⟩,⟨d5,_⟩,⟨d6,_⟩⟩:=ew9 k' Ap;obtain⟨pxv,cxv,exv⟩:=KU.slice;have Kp:=fI (kC.own KU (by decide)) (fun z hz=>by have:=Uk z hz;exact⟨by omega,by omega⟩) (by omega);obtain⟨gv,cv1,ev1,hcv⟩:=(kC.own sZ.o (by decide)).cell k' xv BN;injection ev1 with ev11 ev12 ev13
          have tX:=ab (kC.keep _ _ _ _ KT.o (by decide));clear how5 ew9;generalize word[k']=rd at hv d0 d1 d2 d3 d4 d5 d6 Mo;generalize views[k']=row at hv Kp YA exv Uk;rw[YA]at exv;rw[exv]at hcv Kp;obtain⟨⟨hgn,hhe,_,_,_⟩,_⟩:=Mo
          have hvs:vq=seenV n k rd.g row q:=by
           rw[hv,RG.o];simp[nextV,seenV,mC,seenH]
          have OC:=aa (fun W (hb:Below W5.heap.size W5 W)=>NC rd.g k q n hgn gK (by omega) (hhe q (by omega)) _ row (by omega) W (Kp.up up_int hb));rw[<-hvs]at OC;have HKC:=aa kC;have Hc:=aa hW5.2;have Rr:=aa (af hW5.1 Ez.o);have HT5:=aa (Mb.o.up hW5.1);have yR:=aa (FO.o.up hW5.1);have hsz55:=aC hW5.2;subst ew;subst ew81;subst ev11;rw[AF.o.1]at ew82;rw[AF.o.1]at tcw;have hwk:IntKind.i64.wrap (k':Int)=(k':Int):=IntWalk.i64_in _ (by omega);clear YA hgn hv Uk Kp kC kB KU exv BN A1 hvs hW5 ew82 ew83 ev12 ev13 e92 e93 VA KD t3
          go_still_tail 17,(by kernel_rfl)
          go_wp2_with fail
          refine aN (fun W=>Below W5.heap.size W5 W) (Below.drew (Below.refl _ _)) (fun W6 mn=>?_);refine(OC.o W6 mn).mono ?_;rintro r w6 ⟨rfl,gi⟩;have qD:=ae mn gi;have ZA:=aa (af qD Hc.o)
          have Aw:am (BtP p n K (.slice (some ⟨bc,oc,none⟩) nc cc) (.slice ps ns cs) (.slice ave exs.length cve) (.slice at5 st1.1.length ct5) w wrC st1 (.slice al q cl) q w5.heap.size vq (w6.setRow w5.heap.size vq.c)):=aa (by
           have bM:∀ k,k≠w5.heap.size->(w6.setRow w5.heap.size vq.c).heap[k]?=w6.heap[k]?:=fun k hk=>setRow_other _ _ _ _ hk
           have MJ:=HKC.o.up qD (by omega)
           refine⟨⟨below_setRow MJ.old (by omega) _,fun k c t f h1 h2=>(bM k (by have:=aC h1;omega)).trans (MJ.keep k c t f h1 h2),fun k o h1 h2 h3=>(bM k (by have:=aC h1;omega)).trans (MJ.oth k o h1 h2 h3)⟩,(bM _ (by omega)).trans (af qD Rr.o),(HT5.o.up qD).keep (fun g o hg ho=>(bM g (fun e=>by have:=(Mb.o.lt g hg).2;omega)).trans ho),(yR.o.up qD).keep (fun g o hg ho=>(bM g (fun e=>(yR.o.up qD).ne ZA.o (by decide) g hg e)).trans ho),setRow_heap _ _ _ _ _ _ ZA.o⟩)
          clear mn gi qD d0 d1 d2 d3 d4 d5 d6 tX tcw hcv We hwk OC Hc Rr HT5 yR
          go_wp2_with (refine wpList_store_row rfl 190 (.tmp 11) (.tmp 89) rfl w5.heap.size vq.c rfl rfl 190 _ ZA.o (by kernel_rfl) rfl (by simp[Value.oneCell']) ?_;have t3:=ab Aw.o.sys;have tv:=ab Aw.o.v)
          clear t3 tv;refine aN (fun W=>BtP p n K (.slice (some ⟨bc,oc,none⟩) nc cc) (.slice ps ns cs) (.slice ave exs.length cve) (.slice at5 st1.1.length ct5) w wrC st1 (.slice al q cl) q w5.heap.size vq W) Aw.o ?_;rw[show (Value.agg #[.int .i64 vq.p,.int .i64 vq.k,.int .i64 vq.i,.int .i64 vq.h0,.int .i64 vq.h1,.int .i64 vq.h2,.int .i64 vq.h3,.int .i64 vq.h4])=vq.v from rfl]
         all_goals
          intro W6 mn;have Mp:=aa mn;clear mn;refine(S3 n st1.1 _ vq (w.heap.size+1+1) W6 (by have:=Mp.o.keep.old.size;omega) Mp.o.tab Uw.o.1 (by have:=Uw.o.2.2;omega)).mono ?_;rintro r w7 ⟨⟨u7,rfl,UU⟩,lA⟩;obtain⟨a7,c7,rfl⟩:=UU.slice;generalize putV st1.1 vq=pv at UU Aq ⊢;have YI:=Mp.o.keep.up lA (by omega);have yF:=af lA Mp.o.sys;have YX:=Mp.o.row.up lA;have hsz7:=YI.old.size;have hg7:∀ o,Below w7.heap.size w7 (w7.alloc o):=fun o=>by go_grown
          have h3lt:=aC yF;have t3:=fun o=>ab (af (hg7 o) yF)
          have z3:=fun o=>aE (af (hg7 o) yF)
          have t3a:=ab yF;have z3a:=aE yF;obtain⟨o7,ho7⟩:∃ o:Obj,o=.cells #[.int .i64 n,.slice a7 pv.1.length c7] 32:=⟨_,rfl⟩;obtain⟨W8,pV⟩:∃ W8,W8=((w7.setCell ⟨w.heap.size+1+1,7,none⟩ (.int .i64 n)).setCell ⟨w.heap.size+1+1,8,none⟩ (.slice a7 pv.1.length c7)).alloc o7:=⟨_,rfl⟩
          have hs8:W8.heap[w.heap.size+1+1]?=some (.cells (GD p n K (.slice (some ⟨bc,oc,none⟩) nc cc) (.slice ps ns cs) (.slice a7 pv.1.length c7) (.slice ave exs.length cve)) 35):=by
           rw[pV];refine ar _ ?_;rw[aF (aF yF _ _) _ _];rfl
          have hk8:KeepT [35] [] (w.heap.size+1+1) wrC W8:=by
           rw[pV];have h2:=YI.set (o:=7) yF (by simp) (by omega) (.int .i64 n);have h3:=h2.set (o:=8) (aF yF _ _) (by simp) (by omega) (.slice a7 pv.1.length c7);exact h3.up (by go_grown) (by omega)
          have Uy:∀ {b:Nat} {e:TypeId} {k m:Nat} {v:Value} {l:List Value},aH w7 b e k v m l->e≠35->aH W8 b e k v m l:=fun {b e k m v l} h bM=>by
           rw[pV];exact((h.put (h.ne yF bM) _ _).put (h.ne yF bM) _ _).up (by go_grown)
          have hr8:=Uy YX (by decide);have hu8:=Uy UU (by decide);have hsz8:w7.heap.size<W8.heap.size:=by rw[pV];simp
          have RZ:=aa hs8;have HK8:=aa hk8;have HU8:=aa hu8;have Mj:Below W8.heap.size W8 (W8.alloc (.cells #[.int .i64 pv.2] 3)):=by go_grown
          have On:=aa (hr8.up Mj);have HG8:=aa Mj;have bU:=dx W8 [.int .i64 pv.2] 3;rw[show W8.heap.size=w7.heap.size+1 by rw[pV];simp]at bU;have bA:=aa bU;have jT:am (q+1<=maxLen):=aa (by unfold maxLen;omega);have lV:am ((q+1) * 8<=140737488355328):=aa (by omega);have fH:am (wrC.heap.size<=(W8.alloc (.cells #[.int .i64 pv.2] 3)).heap.size):=aa (by simp;omega);subst pV;subst ho7;clear UU YI yF YX hs8 hk8 Uy hr8 hu8 Mj lA bU Ez Mb FO Mp
          go_wp2_with (at_builtin;go_loud (refine aX _ rfl (.tmp 99) (.tmp 101) 38 rfl wrC.heap.size 3 i0 _ 1 8 Tryz.underlying38 bO.o.1 bO.o.2.1 bO.o.2.2.1 bO.o.2.2.2 rfl (by decide) _ q _ rfl On.o ⟨w7.heap.size+1,0,none⟩ 1 1 [.int .i64 pv.2] rfl rfl bA.o (by simp[Value.oneCell']) jT.o lV.o fH.o ?_;intro v9 w9 eV du _))
          go_roundw
          ·
           refine⟨q+1,by omega,by go_num,?_⟩;rw[Aq.o];have Mj:Below _ _ (_:World):=HG8.o;refine⟨(HK8.o.up Mj (by omega)).grownNew (by omega) (fun g hg=>(On.o.lt g hg).1) du,⟨_,im On.o du RZ.o (by decide),(HU8.o.up Mj).apart On.o (by decide) du⟩,?_⟩;rw[List.map_append];exact eV
          ·simp[intOf];omega
        ·have hqe:q=n:=by omega
         subst hqe;have hx:=HQ.o.keep.keep _ _ _ _ KT.o (by decide);have tx:=ab hx;have mP:Below wr.heap.size wr (wr.alloc (.cells #[.slice al q cl] 38)):=by go_grown
         have Al:=aa hx;have RA:=aa mP;have lZ:=aa ((HQ.o.keep.own sZ.o (by decide)).up mP);have bA:=aa (dx wr [.slice al q cl] 38);have jT:am (views.length+1<=maxLen):=aa (by have:=OO.o;unfold maxLen;omega);have lV:am ((views.length+1) * 24<=140737488355328):=aa (by have:=OO.o;omega);have fH:am (wrB.heap.size<=(wr.alloc (.cells #[.slice al q cl] 38)).heap.size):=aa (by simp;omega);have EZ:=wR.o q (by rw[Ky.o];omega);clear hx mP
         go_wp2_with (at_builtin;(refine aX _ rfl (.tmp 104) (.tmp 106) 56 rfl wrB.heap.size 38 i1 _ 1 24 Tryz.underlying56 vp.o.1 vp.o.2.1 vp.o.2.2.1 vp.o.2.2.2 rfl (by decide) _ views.length _ rfl lZ.o ⟨wr.heap.size,0,none⟩ 1 1 [.slice al q cl] rfl rfl bA.o (by simp[Value.oneCell']) jT.o lV.o fH.o ?_;intro v9 w9 eV du _;obtain⟨av9,cv9,rfl⟩:=eV.slice;have En:=im lZ.o du Al.o (by decide);have c9:=ab En;have f9:=aE En))
         go_roundw
         ·
          refine⟨k+1,by omega,by go_num,?_⟩;rw[HTSS.o];have hq9:=HQ.o;rw[sU.o]at hq9 EZ;exact BtK.next VB.o.keep hq9 Al.o (HQ.o.keep.own sZ.o (by decide)) (fun i hi=>by obtain⟨x,q1,q2⟩:=wW.o i hi;exact⟨x,q1,HQ.o.keep.own q2 (by decide)⟩) EZ (by omega) du eV
         ·simp[intOf];omega
      ·obtain rfl:k=K+1:=by omega
       have hd:decide (((K+1:Nat):Int)<=(K:Int))=false:=decide_eq_false (by omega);have gM:decide ((K:Int)+1<=(K:Int))=false:=decide_eq_false (by omega);have tS:=ab xb.o;have tx:=ab KT.o;have HLV:=aa (uJ.o (K+1)).1;generalize btT n inp word tb (K+1)=st at OY la KT sZ wW tx HLV ⊢;obtain⟨tbk,views⟩:=st;dsimp only at OY la KT sZ wW tx HLV;have mP:Below wr.heap.size wr (wr.alloc (.cells #[.int .i64 c,.slice pxw K cxw,.slice pvv views.length cvv] 89)):=by go_grown
       have RA:=aa mP;have lZ:=aa ((VB.o.keep.own l4.o (by decide)).up mP);have bA:=aa (dx wr [.int .i64 c,.slice pxw K cxw,.slice pvv views.length cvv] 89);have jT:am (exs.length+1<=maxLen):=aa (by unfold maxLen;omega);have lV:am ((exs.length+1) * 56<=140737488355328):=aa (by omega);have fH:am (w.heap.size+1+1<=(wr.alloc (.cells #[.int .i64 c,.slice pxw K cxw,.slice pvv views.length cvv] 89)).heap.size):=aa (by simp;omega);clear mP
       go_wp2_with (at_builtin;(refine aX _ rfl (.tmp 110) (.tmp 112) 33 rfl (w.heap.size+1+1) 89 i2 _ 3 56 Tryz.underlying33 Vt.o.1 Vt.o.2.1 Vt.o.2.2.1 Vt.o.2.2.2 rfl (by decide) _ exs.length _ rfl lZ.o ⟨wr.heap.size,0,none⟩ 1 1 [.int .i64 c,.slice pxw K cxw,.slice pvv views.length cvv] rfl rfl bA.o (by simp[Value.oneCell']) jT.o lV.o fH.o ?_;intro v9 w9 eV du _;obtain⟨av9,cv9,rfl⟩:=eV.slice;have tz:=im lZ.o du xb.o (by decide);have c9:=ab tz;have f9:=aE tz))
       go_roundw
       ·
        refine⟨j+1,by omega,by go_num,?_⟩;rw[OY.o];have Y1:=HHOW.o.base (show w.heap.size+1+1<=W0.heap.size by omega);rw[AF.o.1]at Y1;have oW:cU wr (w.heap.size+1+1) (.slice pvv views.length cvv) views:=DJ (show cU wr wrB.heap.size (.slice pvv views.length cvv) views from⟨ys,sZ.o,wW.o⟩) (by omega);exact BtI.next HI.o.keep VB.o.keep xb.o la.o l4.o Ej.o Y1 AF.o.1 oW (by omega) du eV
       ·simp[intOf];omega
    ·obtain rfl:j=nw:=by omega
     have HI:=aa hI;clear hI
     go_wp2_with fail
     go_roundw
     ·exact⟨c+1,by omega,by go_num,by rw[Nat.succ_mul];exact HI.o⟩
     ·simp[intOf];omega
  ·have hce:c=nc:=by omega
   subst hce;have yK:=HI.o;rw[iK.o]at yK;obtain⟨vt,ve,xs,h1,h2,h3,h4⟩:=yK.sys;have hr:=(yK.keep.old.block (w.heap.size+1) (by omega)).trans nT.o;have RG:=aa yK.keep;obtain⟨avt,cvt,rfl⟩:=h2.slice;obtain⟨ave,cve,rfl⟩:=h3.slice;have H2:=aa h2;have H3:=aa h3;have H4:=aa h4;have tS:=ab h1;have GV:=aa hr;have KB:=mK.o (c * nw) (Nat.le_refl _);have l3:=A2.o (c * nw) (Nat.le_refl _);rw[iK.o]at KB l3;dsimp only at KB l3;have HSMM:=aa (show (aO p).tab.length<=17592186044416 by omega);have VG:=aa l3
   have yE:am ((aO p).ex.length<=17592186044416):=aa (by
    have h1:=uA p (aL p) (fR p) ([],[]);have h2:(aO p).ex.length=0+(fR p).length:=h1;rw[h2,jC,Ev.o,GU.o]
    omega)
   clear yK h1 h2 h3 h4 hr KB l3
   go_wp2_with (refine wpList_store_row rfl 35 (.tmp 2) (.tmp 115) rfl (w.heap.size+1) (GD p n K (.slice pc c cc) (.slice ps ns cs) (.slice avt (aO p).tab.length cvt) (.slice ave (aO p).ex.length cve)) rfl rfl 35 _ GV.o (by kernel_rfl) rfl (by simp[Value.oneCell']) ?_)
   refine bodyPost_ret (Ih _ (w.heap.size+1) _ _ _ _ _ _ _ _ _ _ _ rfl (setRow_heap _ _ _ _ _ _ GV.o)) rfl ⟨.slice avt (aO p).tab.length cvt,.slice ave (aO p).ex.length cve,?_,⟨⟨_,_,rfl⟩,_,_,rfl⟩,?_,below_setRow eh.o (by omega) _⟩
   ·rw[<-kx.o,<-HN.o]
   ·intro Wf Kf h1 h2;exact XW h1 h2 H2.o H3.o H4.o (fun k hk og=>(Kf k (by omega) (Nat.lt_of_lt_of_le og (below_setRow (Below.refl (w.heap.size+1) wr) (Nat.le_refl _) (GD p n K (.slice pc c cc) (.slice ps ns cs) (.slice avt (aO p).tab.length cvt) (.slice ave (aO p).ex.length cve))).size)).trans (setRow_other _ _ _ _ (by omega))) VG.o HSMM.o yE.o
end Go.Proofs.YtmeaoneaephjeaaGreatDoor
