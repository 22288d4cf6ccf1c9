/-
  A part of the proof: lemmas and contracts that the parts behind it use. Each one's conditions are its own premises.
-/
import Derived.Test.YtmeaoneaephjeaaGreatDoorE7
set_option maxRecDepth 100000
set_option maxHeartbeats 8000000
set_option linter.unusedVariables false
set_option linter.unusedSimpArgs false
namespace Go.Proofs.YtmeaoneaephjeaaGreatDoor
open Go.RowKit Go Go.Shelf
section
variable {ts : List TypeId} {ms : List Nat} {base : Nat} {w w' w'' : World}
theorem KeepT.up(h:KeepT ts ms base w w') (hb:Below w'.heap.size w' w'') (hs:base<=w.heap.size):KeepT ts ms base w w'':=
 h.trans (.of_below ts hb (Nat.le_trans hs h.old.size))
end
theorem tD{p:Pb} (h:probE p=0):∀ i,i<=p.t.cases.length * (aN p).length->(stP p i).1.length<=i * 35
 | 0,_=>by simp[stP,execsS]
 | i+1,hi=>by
  have ih:=tD h i (by omega);obtain⟨nH,_,_,sr,pg⟩:=gP h;obtain⟨⟨_,jf⟩,_,_,⟨_,bW⟩,eN⟩:=fy nH;have aC:i<p.t.cases.length * (aN p).length:=by omega
  have pA:0<(aN p).length:=by
   rcases Nat.eq_zero_or_pos (aN p).length with h|h
   ·rw[h]at aC;simp at aC
   ·exact h
  have hj:i % (aN p).length<(aN p).length:=Nat.mod_lt _ pA
  have QY:((aN p)[i % (aN p).length]).length<=6:=by
   have:=kA p.a p.rounds.toNat 0 _ (List.getElem_mem (l:=aN p) hj);omega
  have eD:=wU p i aC;unfold jx at eD;dsimp only at eD;rw[az [] hj]at eD;have cC:=(iG p.t.n.toNat (p.t.cases.getD (i / (aN p).length) default).inp (aN p)[i % (aN p).length] (stP p i).1 ((aN p)[i % (aN p).length]).length).2.2;have h9:p.t.n.toNat * (((aN p)[i % (aN p).length]).length+1)<=5 * 7:=Nat.mul_le_mul (by omega) (by omega);rw[eD];simp only[gC];omega
theorem Qb{P:Rd->Prop} (a:Adv) (h:∀ s,∀ m∈a.states.getD s [],P m.r) (k:Nat):∀ s,∀ x∈bZ a k s,∀ r∈x,P r:=by
 induction k with
 | zero=>intro s x hx r hr;simp[bZ]at hx;subst hx;simp at hr
 | succ k ih=>
  intro s x hx r hr;simp only[bZ,List.mem_flatMap,List.mem_map]at hx;obtain⟨m,hm,y,hy,rfl⟩:=hx;rcases List.mem_cons.1 hr with rfl|hr
  ·exact h s m hm
  ·exact ih _ y hy r hr
theorem Qc{p:Pb} (h:probE p=0):∀ x∈aN p,∀ r∈x,OkR p.a.n r:=by
 have ha:=(gP h).2.1;refine Qb p.a (fun s m hm=>PM ha ((AJ p.a m.r).2 ?_)) _ 0;by_cases hs:s<p.a.states.length
 ·rw[az [] hs]at hm;exact⟨_,List.getElem_mem hs,m,hm,rfl⟩
 ·rw[List.getD_eq_getElem?_getD,List.getElem?_eq_none (by omega)]at hm;simp at hm
def btT(n:Nat) (inp:List Int) (word:List Rd) (tb:List Vw):Nat->List Vw × List (List Int)
 | 0=>(tb,[])
 | k+1=>playTo n inp word tb k
def btV(n:Nat) (inp:List Int) (word:List Rd) (k:Nat) (now:List Int):List Vw:=(List.range n).map fun q=>if k=0 then dX inp q else nextV n (k - 1) (word.getD (k - 1) default) now q
theorem Wg(n:Nat) (inp:List Int) (word:List Rd) (k:Nat) (now:List Int):(btV n inp word k now).length=n:=by simp[btV]
theorem Sz(n:Nat) (inp:List Int) (word:List Rd) (tb:List Vw):∀ k,btT n inp word tb (k+1)=((addAll (btT n inp word tb k).1 (btV n inp word k ((btT n inp word tb k).2.getLastD []))).1,(btT n inp word tb k).2++[(addAll (btT n inp word tb k).1 (btV n inp word k ((btT n inp word tb k).2.getLastD []))).2])
 | 0=>rfl
 | _+1=>rfl
theorem Wh(n:Nat) (inp:List Int) (word:List Rd) (tb:List Vw):∀ k,(btT n inp word tb k).2.length=k/\(btT n inp word tb k).1.length<=tb.length+n * k/\∀ row∈(btT n inp word tb k).2,row.length=n
 | 0=>⟨rfl,Nat.le_add_right _ _,fun row h=>by simp[btT]at h⟩
 | k+1=>⟨(iG n inp word tb k).1,(iG n inp word tb k).2.2,uM n inp word tb k⟩
theorem WO(n:Nat) (hn:n<=5) (inp:List Int) (hi:∀ x∈inp,bR x) (word:List Rd) (tb:List Vw) (ht:∀ v∈tb,j7 v) (hl:tb.length+40<=100000):∀ k,k<=7->(∀ v∈(btT n inp word tb k).1,j7 v)/\∀ row∈(btT n inp word tb k).2,∀ z∈row,0<=z/\z<=(100000:Int)
 | 0,_=>⟨ht,fun row h=>by simp[btT]at h⟩
 | k+1,hk=>yR n hn inp hi word tb ht k (by omega) hl
theorem WP(n:Nat) (hn:n<=5) (inp:List Int) (hi:∀ x∈inp,bR x) (word:List Rd) (k:Nat) (hk:k<=7) (now:List Int) (mZ:∀ z∈now,0<=z/\z<=(100000:Int)):∀ v∈btV n inp word k now,j7 v:=fun v hv=>by
 obtain⟨q,hq,rfl⟩:=List.mem_map.1 hv;have hq:=List.mem_range.1 hq;have z1:bR (-1):=⟨by omega,by omega⟩;have z0:bR 0:=⟨by omega,by omega⟩;by_cases h0:k=0
 ·rw[if_pos h0]
  have hx:bR (inp.getD q 0):=by
   by_cases h:q<inp.length
   ·rw[az 0 h];exact hi _ (List.getElem_mem h)
   ·rw[List.getD_eq_getElem?_getD,List.getElem?_eq_none (by omega)];exact z0
  exact⟨vD q (by omega),z0,hx,z1,z1,z1,z1,z1⟩
 ·rw[if_neg h0]
  have hh:∀ p,bR (kL n (word.getD (k - 1) default) now q p):=fun p=>by
   unfold kL;split
   ·by_cases h:p<now.length
    ·rw[az 0 h];have:=mZ _ (List.getElem_mem h);exact⟨by omega,by omega⟩
    ·rw[List.getD_eq_getElem?_getD,List.getElem?_eq_none (by omega)];exact z0
   ·exact z1
  exact⟨vD q (by omega),⟨by simp only[nextV];omega,by simp only[nextV];omega⟩,z0,hh 0,hh 1,hh 2,hh 3,hh 4⟩
def qC(tb:List Vw) (vs:List Vw) (q:Nat):List Vw × List Int:=addAll tb (vs.take q)
theorem Wi(tb vs:List Vw):qC tb vs vs.length=addAll tb vs:=by unfold qC;rw[List.take_length]
theorem SA(tb vs:List Vw) (q:Nat) (hq:q<vs.length):qC tb vs (q+1)=((putV (qC tb vs q).1 vs[q]).1,(qC tb vs q).2++[((putV (qC tb vs q).1 vs[q]).2:Int)]):=by
 unfold qC;rw[uD tb vs q hq];rfl
theorem WQ(tb vs:List Vw) (hv:∀ v∈vs,j7 v) (ht:∀ v∈tb,j7 v) (hl:tb.length+vs.length<=100000) (q:Nat):(∀ v∈(qC tb vs q).1,j7 v)/\(∀ z∈(qC tb vs q).2,0<=z/\z<=(100000:Int))/\(qC tb vs q).1.length<=100000:=by
 have lh:(vs.take q).length<=vs.length:=by rw[List.length_take];omega
 have h:=yQ 100000 (vs.take q) (tb,[]) (fun v h=>hv v (List.mem_of_mem_take h)) ht (fun z hz=>by simp at hz) (by dsimp only;omega);have h2:=fO (vs.take q) (tb,[]);exact⟨h.1,h.2,by have:=h2.2;simp only[qC,addAll]at this ⊢;omega⟩
theorem Wj(tb vs:List Vw) (q:Nat) (hq:q<=vs.length):(qC tb vs q).2.length=q:=by
 have h2:=(fO (vs.take q) (tb,[])).1;simp only[qC,addAll];rw[h2,List.length_take];simp;omega
end Go.Proofs.YtmeaoneaephjeaaGreatDoor
namespace Go.Proofs.YtmeaoneaephjeaaGreatDoor
open Go.RowKit Go Go.Shelf
attribute [local go_sem] Oper.semAt_some
abbrev FV(p:Pb) (n K:Nat) (vc vs vt ve:Value):Array Value:=#[.int .i64 n,.int .i64 p.t.ins,.int .i64 p.t.outs,vc,.int .i64 p.a.n,vs,.int .i64 K,.int .i64 n,vt,ve]
structure BtI (p:Pb) (n K:Nat) (vc vs:Value) (w w4:World) (st:List Vw × List Ex) (V:World):Prop where
 keep:KeepT [35,89] [] (w.heap.size+1+1) w4 V
 sys:∃ vt ve xs,V.heap[w.heap.size+1+1]?=some (.cells (FV p n K vc vs vt ve) 35)/\aJ V (w.heap.size+1+1) 190 8 vt st.1.length (fe st.1)/\aJ V (w.heap.size+1+1) 89 3 ve st.2.length xs/\∀ k (hk:k<st.2.length),Ab V (w.heap.size+1+1) xs k (st.2[k])
structure BtK (p:Pb) (n K:Nat) (vc vs ve wv:Value) (w Ve:World) (ci:Nat) (st:List Vw × List (List Int)) (V:World):Prop where
 keep:KeepT [35] [] (w.heap.size+1+1) Ve V
 sys:∃ vt,V.heap[w.heap.size+1+1]?=some (.cells (FV p n K vc vs vt ve) 35)/\aJ V (w.heap.size+1+1) 190 8 vt st.1.length (fe st.1)
 ex:∃ vv,V.heap[Ve.heap.size]?=some (.cells #[.int .i64 ci,wv,vv] 89)/\cQ V Ve.heap.size vv st.2
structure BtQ (p:Pb) (n K:Nat) (vc vs ve:Value) (w Vk:World) (st:List Vw × List Int) (q:Nat) (l:Value) (V:World):Prop where
 keep:KeepT [35] [] (w.heap.size+1+1) Vk V
 sys:∃ vt,V.heap[w.heap.size+1+1]?=some (.cells (FV p n K vc vs vt ve) 35)/\aJ V (w.heap.size+1+1) 190 8 vt st.1.length (fe st.1)
 row:aJ V Vk.heap.size 3 1 l q (st.2.map (Value.int .i64))
structure BtP (p:Pb) (n K:Nat) (vc vs ve vt:Value) (w Vk:World) (st:List Vw × List Int) (l:Value) (q bv:Nat) (v:Vw) (V:World):Prop where
 keep:KeepT [35] [] (w.heap.size+1+1) Vk V
 sys:V.heap[w.heap.size+1+1]?=some (.cells (FV p n K vc vs vt ve) 35)
 tab:aJ V (w.heap.size+1+1) 190 8 vt st.1.length (fe st.1)
 row:aJ V Vk.heap.size 3 1 l q (st.2.map (Value.int .i64))
 v:V.heap[bv]?=some (.cells v.c 190)
theorem BtQ.up{p:Pb} {n K:Nat} {vc vs ve:Value} {w Vk:World} {st:List Vw × List Int} {q:Nat} {l:Value} {V V':World} (h:BtQ p n K vc vs ve w Vk st q l V) (hb:Below V.heap.size V V') (hs:w.heap.size+1+1<=Vk.heap.size):BtQ p n K vc vs ve w Vk st q l V':=by
 obtain⟨vt,h1,h2⟩:=h.sys;exact⟨h.keep.up hb hs,⟨vt,af hb h1,h2.up hb⟩,h.row.up hb⟩
theorem Ha(tmps:Array Value) (B:Nat) (W:World) (c0 c1 c2 c3 c4 c5 c6 c7 c8 c9:Value) (h2:tmps[2]?.getD undef=.pointer (some ⟨B,0,none⟩))
  (hB:W.heap[B]?=some (.cells #[c0,c1,c2,c3,c4,c5,c6,c7,c8,c9] 35)) :
  (results Tryz.f117 tmps).run Tryz.prog W=.ok (.agg #[c0,c1,c2,c3,c4,c5,c6,c7,c8,c9]) W:=by
 have t2:=ab hB;simp[results,Tryz.results117,go_sem,h2,t2]
theorem BtK.next{p:Pb} {n K q c:Nat} {vc vs ve wv lv vv v9:Value} {w Ve Vk V w9:World} {tb:List Vw} {l:List Int} {views:List (List Int)} {ys:List Value} (hK:KeepT [35] [] (w.heap.size+1+1) Ve Vk) (hQ:BtQ p n K vc vs ve w Vk (tb,l) q lv V) (hx:V.heap[Ve.heap.size]?=some (.cells #[.int .i64 c,wv,vv] 89))
  (jK:aJ V Ve.heap.size 38 1 vv views.length ys) (iN:∀ i (hi:i<views.length),∃ x,ys[i]?=some x/\aJ V Ve.heap.size 3 1 x views[i].length (views[i].map (Value.int .i64))) (hl:l.length=q) (eT:w.heap.size+1+1<Ve.heap.size)
  (hg:(V.alloc (.cells #[lv] 38)).grownBy w9 vv.ownBlock) (bd:aJ w9 Ve.heap.size 38 1 v9 (views.length+1) (ys++[lv])):BtK p n K vc vs ve wv w Ve c (tb,views++[l]) (w9.setCell ⟨Ve.heap.size,2,none⟩ v9):=by
 have mw:Below V.heap.size V (V.alloc (.cells #[lv] 38)):=by go_grown
 have qH:=jK.up mw
 have Ly:aJ (V.alloc (.cells #[lv] 38)) Ve.heap.size 3 1 lv l.length (l.map (Value.int .i64)):=by
  rw[hl];exact(hQ.row.base hK.old.size).up mw
 have kh:∀ i (hi:i<views.length),∃ x,ys[i]?=some x/\aJ (V.alloc (.cells #[lv] 38)) Ve.heap.size 3 1 x views[i].length (views[i].map (Value.int .i64)):=fun i hi=>by
  obtain⟨x,q1,q2⟩:=iN i hi;exact⟨x,q1,q2.up mw⟩
 have ri:cQ w9 Ve.heap.size v9 (views++[l]):=cj.snoc qH kh (by decide) Ly hg bd;have DN:=im qH hg hx (by decide);obtain⟨vt,h1,h2⟩:=hQ.sys;have h2':=(h2.up mw).apart qH (by decide) hg;have k3:=((hK.trans hQ.keep).up mw (by omega)).grownNew (by omega) (fun g hg=>(qH.lt g hg).1) hg;have kk:=(KeepT.refl (ms:=[]) [89] Ve.heap.size w9).set (o:=2) DN (by simp) (Nat.le_refl _) v9;exact⟨k3.setNew (by omega) (Nat.le_refl _) _,⟨vt,aM (im qH hg h1 (by decide)) (by omega) _ _,h2'.put (h2'.ne DN (by decide)) _ _⟩,v9,(aI DN _ _).trans rfl,kk.fresh ri (by decide) (by decide)⟩
theorem BtI.next{p:Pb} {n K c:Nat} {vc vs ve wv vv vt v9:Value} {w w4 Ve V w9:World} {tb2:List Vw} {exs:List Ex} {word:List Rd} {views:List (List Int)} {xs:List Value} (hI:KeepT [35,89] [] (w.heap.size+1+1) w4 Ve) (hK:KeepT [35] [] (w.heap.size+1+1) Ve V)
  (hs:V.heap[w.heap.size+1+1]?=some (.cells (FV p n K vc vs vt ve) 35)) (ht:aJ V (w.heap.size+1+1) 190 8 vt tb2.length (fe tb2)) (he:aJ Ve (w.heap.size+1+1) 89 3 ve exs.length xs) (hx:∀ k (hk:k<exs.length),Ab Ve (w.heap.size+1+1) xs k exs[k])
  {m:Nat} (hw:aJ Ve (w.heap.size+1+1) 141 7 wv m (da word)) (hm:word.length=m) (hv:cQ V (w.heap.size+1+1) vv views) (h4:w.heap.size+1+1<w4.heap.size)
  (hg:(V.alloc (.cells #[.int .i64 c,wv,vv] 89)).grownBy w9 ve.ownBlock) (bd:aJ w9 (w.heap.size+1+1) 89 3 v9 (exs.length+1) (xs++[.int .i64 c,wv,vv])):BtI p n K vc vs w w4 (tb2,exs++[⟨c,word,views⟩]) (w9.setCell ⟨w.heap.size+1+1,9,none⟩ v9):=by
 subst hm;have mw:Below V.heap.size V (V.alloc (.cells #[.int .i64 c,wv,vv] 89)):=by go_grown
 have eT:=hI.old.size;have J8:=hK.old.size;have qH:=(hK.own he (by decide)).up mw;have sw:=im qH hg hs (by decide);have k3:=((hI.trans (hK.mono (us:=[35,89]) (ns:=[]) (fun t h=>by simp at h ⊢;exact .inl h) (fun _ h=>h))).up mw (by omega)).grown qH (by simp) (Nat.le_refl _) (by omega) hg;have kk:KeepT [89,35] [] (w.heap.size+1+1) (V.alloc (.cells #[.int .i64 c,wv,vv] 89)) (w9.setCell ⟨w.heap.size+1+1,9,none⟩ v9):=((KeepT.refl _ _ _).grown qH (by simp) (Nat.le_refl _) (by simp;omega) hg).set sw (by simp) (by omega) _;have iQ:xs.length=exs.length * 3:=he.1;refine⟨k3.set sw (by simp) (by omega) _,vt,v9,xs++[.int .i64 c,wv,vv],(aI sw _ _).trans rfl,kk.own (ht.up mw) (by decide),?_,fun i hi=>?_⟩
 ·rw[List.length_append,List.length_singleton];exact bd.put (bd.ne sw (by decide)) _ _
 ·rw[List.length_append,List.length_singleton]at hi;by_cases aC:i<exs.length
  ·rw[List.getElem_append_left aC];obtain⟨a,d,p1,p2,p3,p4,p5⟩:=hx i aC;exact⟨a,d,by rw[List.getElem?_append_left (by omega)];exact p1,by rw[List.getElem?_append_left (by omega)];exact p2,by rw[List.getElem?_append_left (by omega)];exact p3,kk.own ((hK.own p4 (by decide)).up mw) (by decide),kk.fresh (cj.up (hK.fresh p5 (by decide) (by decide)) mw) (by decide) (by decide)⟩
  ·obtain rfl:i=exs.length:=by omega
   have e9:(exs++[(⟨c,word,views⟩:Ex)])[exs.length]'(by simp)=⟨c,word,views⟩:=by simp
   rw[e9];refine⟨wv,vv,?_,?_,?_,kk.own ((hK.own hw (by decide)).up mw) (by decide),kk.fresh (cj.up hv mw) (by decide) (by decide)⟩
   ·rw[List.getElem?_append_right (by omega),iQ,Nat.sub_self];rfl
   ·rw[List.getElem?_append_right (by omega),iQ,Nat.add_sub_cancel_left];rfl
   ·rw[List.getElem?_append_right (by omega),iQ,Nat.add_sub_cancel_left];rfl
theorem WR{p:Pb} {vc vs vt ve:Value} {w V Wf:World} {xs:List Value} (hc:bM Wf vc p.t.cases) (hs:bu Wf vs p.a.states) (ht:aJ V (w.heap.size+1+1) 190 8 vt (aF p).tab.length (fe (aF p).tab)) (he:aJ V (w.heap.size+1+1) 89 3 ve (aF p).ex.length xs)
  (hx:∀ k (hk:k<(aF p).ex.length),Ab V (w.heap.size+1+1) xs k (aF p).ex[k]) (hW:∀ k,w.heap.size+1+1<=k->k<V.heap.size->Wf.heap[k]?=V.heap[k]?) (hg:(∀ v∈(aF p).tab,j7 v)/\∀ x∈(aF p).ex,ExGood x) (h1:(aF p).tab.length<=17592186044416) (h2:(aF p).ex.length<=17592186044416):IsSys Wf (aF p) vc vs vt ve:=by
 have tr:∀ {e:TypeId} {k:Nat} {v:Value} {m:Nat} {l:List Value},aJ V (w.heap.size+1+1) e k v m l->aJ Wf (w.heap.size+1+1) e k v m l:=fun {e k v m l} h=>h.keep fun g o hg ho=>(hW g (h.lt g hg).1 (h.lt g hg).2).trans ho
 refine⟨hc,hs,yU (tr ht) hg.1 h1,Ll (tr he) (fun i hi=>?_) hg.2 h2⟩;obtain⟨a,d,p1,p2,p3,p4,ys,p5,p6⟩:=hx i hi;exact⟨a,d,p1,p2,p3,tr p4,ys,tr p5,fun j hj=>by obtain⟨y,r1,r2⟩:=p6 j hj;exact⟨y,r1,tr r2⟩⟩
theorem Ns(p:Pb) (vc vs:Value) (w:World) (hc:bM w vc p.t.cases) (hs:bu w vs p.a.states) (hp:probE p=0) (hm:p.t.cases.length * (aN p).length<=200) :
  Calls Tryz.prog 117 #[nX p vc vs] w fun r w'=>∃ vt ve,r=.returned (.agg #[.int .i64 p.t.n,.int .i64 p.t.ins,.int .i64 p.t.outs,vc,.int .i64 p.a.n,vs,.int .i64 p.rounds,.int .i64 p.t.n,vt,ve])/\((∃ a c,vt=.slice a (aF p).tab.length c)/\∃ a c,ve=.slice a (aF p).ex.length c)/\(∀ Wf:World,(∀ k,w.heap.size<=k->k<w'.heap.size->Wf.heap[k]?=w'.heap[k]?)->bM Wf vc p.t.cases->bu Wf vs p.a.states->IsSys Wf (aF p) vc vs vt ve)/\Below w.heap.size w w':=by
 have GC:=aa hc;have GS:=aa hs;have HP:=aa hp;obtain⟨nH,JJ,zs,sr,pg⟩:=gP hp;obtain⟨⟨kq,jf⟩,_,_,⟨xg,bW⟩,eN⟩:=fy nH
 have Jn:(aN p).length<=200:=by
  have h9:1 * (aN p).length<=p.t.cases.length * (aN p).length:=Nat.mul_le_mul_right _ xg;omega
 have hst0:=(ip JJ).1;obtain⟨pc,cc,rfl,lc1,lc2,ec⟩:=hc.at;obtain⟨ps,cs,rfl,_⟩:=hs.at;obtain⟨K,hK⟩:∃ K:Nat,p.rounds=K:=⟨p.rounds.toNat,by omega⟩;obtain⟨n,hn⟩:∃ n:Nat,p.t.n=n:=⟨p.t.n.toNat,by omega⟩
 have Og:am (∀ W,Below w.heap.size w W->Calls Tryz.prog 157 #[.agg #[.int .i64 p.a.n,.slice ps p.a.states.length cs],.int .i64 0,.int .i64 K] W fun r w'=>∃ u,r=.returned u/\vA w' W.heap.size u (aN p)/\Below W.heap.size W w'):=aa fun W hb=>by
  have h:=FI p.a (fun s hs m hm=>by have:=vz JJ s hs m hm;omega) p.rounds.toNat 0 _ W (by omega) (by omega) (by have:(bZ p.a p.rounds.toNat 0)=aN p:=rfl;rw[this];omega) (GS.o.up up_moves hb);rw[show ((p.rounds.toNat:Nat):Int)=(K:Int) by omega]at h;exact h
 have Aj:=aa (BR hp (fun c hc=>(wT GC.o c hc).1) (fun x hx=>wR p.a (sY GS.o) _ _ x hx) (by have:=tD hp (p.t.cases.length * (aN p).length) (Nat.le_refl _);have e:stP p (p.t.cases.length * (aN p).length)=execsS p (aN p) (fp p):=(by unfold stP;rw[List.take_of_length_le (by rw[iI];exact Nat.le_refl _)]);rw[e]at this;omega));have mm:=aa (tD hp);have HWG:am (∀ x∈aN p,x.length=K/\∀ r∈x,OkR n r/\pX r):=aa fun x hx=>⟨by have:=kA p.a p.rounds.toNat 0 x hx;omega,fun r hr=>⟨by have:=Qc hp x hx r hr;rwa [<-zs,hn]at this,wR p.a (sY GS.o) _ _ x hx r hr⟩⟩
 have jv:am (stP p (p.t.cases.length * (aN p).length)=((aF p).tab,(aF p).ex)):=aa (by unfold stP;rw[List.take_of_length_le (by rw[iI];exact Nat.le_refl _)];rfl);have dD:am (∀ c (hc:c<p.t.cases.length),(p.t.cases[c]).inp.length=n):=aa fun c hc=>by have:=(eN _ (List.getElem_mem hc)).inp;omega
 have HEC:=aa ec;have Ol:=aa (wU p);obtain⟨nc,ig⟩:∃ nc,p.t.cases.length=nc:=⟨_,rfl⟩;obtain⟨nw,li⟩:∃ nw,(aN p).length=nw:=⟨_,rfl⟩;have Dv:=aa ig;have Gc:=aa li;obtain⟨ns,oK⟩:∃ ns,p.a.states.length=ns:=⟨_,rfl⟩;rw[ig]at lc1 lc2 xg bW hm jv mm Aj Ol ⊢;rw[li]at hm Jn jv mm Aj Ol;have HNS:=aa oK;rw[oK]at Og ⊢;have HN:=aa hn;have kr:=aa hK;clear hc hs hp nH JJ zs eN ec ig li hst0 oK sr;have jf:n<=5:=by omega
 have kq:1<=n:=by omega
 have hK6:K<=6:=by omega
 show Calls Tryz.prog 117 #[.agg #[.int .i64 p.t.n,.int .i64 p.t.ins,.int .i64 p.t.outs,.slice pc nc cc,.int .i64 p.a.n,.slice ps ns cs,.int .i64 p.rounds]] w _
 rw[hn,hK];clear hn hK;obtain⟨i0,cX,cD,bX,cF⟩:=info_parts Tryz.infoInt;have cB:=aa (And.intro cX (And.intro cD (And.intro bX cF)));obtain⟨i1,pC,fM,jK,iN⟩:=info_parts Tryz.infoInts;have tK:=aa (And.intro pC (And.intro fM (And.intro jK iN)));obtain⟨i2,U6,dk,dm,dM⟩:=info_parts Tryz.infoExec;have U3:=aa (And.intro U6 (And.intro dk (And.intro dm dM)));clear cX cD bX cF pC fM jK iN U6 dk dm dM
 go_enter Tryz.func117,Tryz.ntmps117
 go_wp2_with fail
 refine aO (fun W=>Below w.heap.size w W/\W.heap[w.heap.size]?=some (.cells #[.int .i64 n,.int .i64 p.t.ins,.int .i64 p.t.outs,.slice pc nc cc,.int .i64 p.a.n,.slice ps ns cs,.int .i64 K] 29)/\W.heap[w.heap.size+1]?=some (.cells zeroSys 35)/\W.heap[w.heap.size+1+1]?=some (.cells #[.int .i64 n,.int .i64 p.t.ins,.int .i64 p.t.outs,.slice pc nc cc,.int .i64 p.a.n,.slice ps ns cs,.int .i64 K,.int .i64 n,.slice none 0 0,.slice none 0 0] 35)) ⟨by go_grown,ar _ (ar _ (ap _ _)),ar _ (aZ _ _ _),dZ _ _ _ _⟩ (fun W0 aX=>?_);obtain⟨aG,bB,eB,YK⟩:=aX;refine(Og.o W0 aG).mono ?_;rintro r w4 ⟨u,rfl,hu,bS⟩;have eE:=aa (ae aG bS);have Uu:=aa (af bS bB);have pn:=aa (af bS eB);have F8:=aa (af bS YK);have zQ:=aD F8.o;have hsW0:=aD YK;obtain⟨xs0,GH,Ra⟩:=hu;rw[Gc.o]at GH;obtain⟨pu,cu,rfl⟩:=GH.slice;have Bv:=aa GH;have Gz:=aa Ra;have cB:am (BtI p n K (.slice pc nc cc) (.slice ps ns cs) w w4 ([],[]) w4):=aa ⟨KeepT.refl _ _ _,.slice none 0 0,.slice none 0 0,[],F8.o,aJ.nil _ _ _ _,aJ.nil _ _ _ _,fun k hk=>by simp at hk⟩;clear aG bB eB YK bS Og GH Ra
 go_wp2_with fail
 go_loopw [5] (fun i wr=>∃ c:Nat,c<=nc/\i=.int .i64 c/\BtI p n K (.slice pc nc cc) (.slice ps ns cs) w w4 (stP p (c * nw)) wr) (fun i _=>nc - (intOf i).toNat)
 ·exact⟨0,by omega,rfl,by rw[Nat.zero_mul];exact cB.o⟩
 ·
  clear cB;obtain⟨c,hc,rfl,hI⟩:=hrel;have HI:=aa hI;have hA:=hI.keep.keep _ _ _ _ Uu.o (by decide);have eT:=hI.keep.old.size;have df:Below w.heap.size w wr:=eE.o.trans (hI.keep.old.mono (by omega));have dz:=aa df;have tA:=ab hA;clear hI hA df;by_cases aC:c<nc
  ·obtain⟨bc,oc,rfl,⟨vi,ci0,wu⟩,_,_⟩:=HEC.o c (by rw[Dv.o];exact aC);have gL:=dD.o c (by rw[Dv.o];exact aC);have cZ:=(wT GC.o _ (List.getElem_mem (l:=p.t.cases) (show c<p.t.cases.length by rw[Dv.o];exact aC))).1;obtain⟨inp,Tc⟩:∃ inp,(p.t.cases[c]'(by rw[Dv.o];exact aC)).inp=inp:=⟨_,rfl⟩;have HINP:am ((p.t.cases.getD c default).inp=inp):=aa (by rw[az default (by rw[Dv.o];exact aC)];exact Tc);rw[Tc]at wu gL cZ;obtain⟨pi,cpi,rfl,ei⟩:=cV wu;have HEI:=aa ei;have iv:=aa cZ;have QL:=aa gL;have nB:=aa ci0;obtain⟨wrA,lg⟩:∃ x,x=wr:=⟨_,rfl⟩;subst lg;clear wu gL cZ ei ci0 Tc
   go_wp2_with fail
   clear tA
   go_loopw [6] (fun i wr=>∃ j:Nat,j<=nw/\i=.int .i64 j/\BtI p n K (.slice (some ⟨bc,oc,none⟩) nc cc) (.slice ps ns cs) w w4 (stP p (c * nw+j)) wr) (fun i _=>nw - (intOf i).toNat)
   ·exact⟨0,by omega,rfl,HI.o⟩
   ·
    clear HI dz eT;obtain⟨j,hj,rfl,hI⟩:=hrel;have eT:=hI.keep.old.size;by_cases fL:j<nw
    ·obtain⟨vt,ve,xs,fZ,je,nK,zQ⟩:=hI.sys;have J3:(c+1) * nw<=nc * nw:=Nat.mul_le_mul_right nw (by omega);rw[Nat.succ_mul]at J3;have Xc:j<(aN p).length:=by rw[Gc.o];exact fL
     obtain⟨xw,L5,qI⟩:=Gz.o j Xc;obtain⟨g0,c0,e0,sA⟩:=(hI.keep.own Bv.o (by decide)).cell j xw L5;injection e0 with e01 e02 e03
     subst e01;subst e03;clear e02;have LZ:=HWG.o _ (List.getElem_mem (l:=aN p) Xc);have qH:=hI.keep.own qI (by decide);have eD:=Ol.o (c * nw+j) (by omega);have hg:=(Aj.o (c * nw+j) (by omega)).1;have Jw:=mm.o (c * nw+j) (by omega);have qJ:(c * nw+j) / nw=c:=by rw[Nat.mul_comm,Nat.mul_add_div (by omega),Nat.div_eq_of_lt fL,Nat.add_zero]
     have fw:(c * nw+j) % nw=j:=by rw[Nat.mul_comm,Nat.mul_add_mod,Nat.mod_eq_of_lt fL]
     rw[qJ,fw]at eD;unfold jx at eD;rw[HINP.o,az [] Xc,show p.t.n.toNat=n by have:=HN.o;omega]at eD
     have J':(stP p (c * nw+j)).2.length<=1000:=by
      have h1:=tg p (aN p) ((fp p).take (c * nw+j)) ([],[]);have h2:(stP p (c * nw+j)).2.length=0+((fp p).take (c * nw+j)).length:=h1;rw[h2,List.length_take];omega
     generalize stP p (c * nw+j)=st at je nK zQ eD hg Jw J';generalize (aN p)[j]=word at qI qH LZ eD
     have Tf:stP p (c * nw+j+1)=((btT n inp word st.1 (K+1)).1,st.2++[⟨c,word,(btT n inp word st.1 (K+1)).2⟩]):=by
      rw[eD];unfold gC;rw[LZ.1];rfl
     obtain⟨tb,exs⟩:=st;have hexl:exs.length<=1000:=J';dsimp only at je nK zQ Tf hg Jw
     have hsm2:tb.length<=7000:=by
      have:(c * nw+j) * 35<=200 * 35:=Nat.mul_le_mul_right 35 (by omega);omega
     have NU:am (stP p (c * nw+(j+1))=((btT n inp word tb (K+1)).1,exs++[⟨c,word,(btT n inp word tb (K+1)).2⟩])):=aa Tf;have Jl:=aa (WO n jf inp iv.o word tb hg (by omega));have ud:=aa (Wh n inp word tb);have F5:=aa (Sz n inp word tb);have Yb:=aa (WP n jf inp iv.o word);have nz:=aa (Wg n inp word);have iR:=aa (rO qH (fun i hi=>(LZ.2 _ (List.getElem_mem hi)).2) (by omega));obtain⟨pxw,cxw,rfl,_⟩:=iR.o.at;rw[LZ.1]at sA;have zF:=aa LZ;have HOX:=aa qI;have hI0k:=hI.keep;obtain⟨ave,cve,rfl⟩:=nK.slice;have HI:=aa hI;have jS:=aa nK;have DA:=aa zQ;have hA:=hI.keep.keep _ _ _ _ Uu.o (by decide);have HAE:=aa hA;have HBWE:=aa (eE.o.trans (hI.keep.old.mono (by omega)));have Qj:=aa fZ;have QP:=aa je;have hs3b:=aD fZ;have HCW:=aa sA;have HXJ:=aa L5;have HOWB:=aa (hI0k.own Bv.o (by decide));have HHOW:=aa qH;obtain⟨wrB,hwB⟩:∃ x,x=wr:=⟨_,rfl⟩;subst hwB;clear hI hI0k L5 fZ je nK zQ eD Tf hg qI qH LZ hA qJ fw Jw
     go_wp2_with fail
     have Bl:Below wrB.heap.size wrB (wrB.alloc (.cells #[.int .i64 c,.slice pxw K cxw,.slice none 0 0] 89)):=by go_grown
     refine bC (fun W=>BtK p n K (.slice (some ⟨bc,oc,none⟩) nc cc) (.slice ps ns cs) (.slice ave exs.length cve) (.slice pxw K cxw) w wrB c (btT n inp word tb 0) W) ⟨(KeepT.refl _ _ _).up Bl (by omega),⟨vt,af Bl Qj.o,QP.o.up Bl⟩,.slice none 0 0,ap _ _,cj.nil _ _⟩ (fun W9 hW9=>?_);have um:=aa hW9;clear hW9 Bl
     go_loopw [8] (fun i wr=>∃ k:Nat,k<=K+1/\i=.int .i64 k/\BtK p n K (.slice (some ⟨bc,oc,none⟩) nc cc) (.slice ps ns cs) (.slice ave exs.length cve) (.slice pxw K cxw) w wrB c (btT n inp word tb k) wr) (fun i _=>K+1 - (intOf i).toNat)
     ·exact⟨0,by omega,rfl,um.o⟩
     ·
      clear um;obtain⟨k,hk,rfl,hK⟩:=hrel;have UR:=aa hK;have hszk:=hK.keep.old.size;have hA:=hK.keep.keep _ _ _ _ HAE.o (by decide);have HAK:=aa hA;have tA:=ab hA;have oW:=aa (HBWE.o.trans (hK.keep.old.mono (by omega)));obtain⟨vtk,mo,mA⟩:=hK.sys;obtain⟨vv,iw,Rk⟩:=hK.ex;have hszx:=aD iw;obtain⟨ys,jK,iN⟩:=Rk;obtain⟨pvv,cvv,rfl⟩:=jK.slice;have vQ:=aa mo;have kU:=aa mA;have Jf:=aa iw;have rZ:=aa jK;have wg:=aa iN;clear hK hA mo mA iw jK iN;by_cases mq:k<=K
      ·have hd:decide ((k:Int)<=(K:Int))=true:=decide_eq_true (by omega);obtain⟨wrC,hwC⟩:∃ x,x=wr:=⟨_,rfl⟩;subst hwC
       go_wp2_with fail
       clear tA hd;have vV:=ud.o k;obtain⟨NJ,SP,N8⟩:=vV;have h7n:n * k<=5 * 7:=Nat.mul_le_mul jf (by omega);obtain⟨NT,JB⟩:=Jl.o k (by omega)
       have mZ:∀ z∈(btT n inp word tb k).2.getLastD [],0<=z/\z<=(100000:Int):=fun z hz=>by
        rcases List.eq_nil_or_concat (btT n inp word tb k).2 with h|⟨l',a,h⟩
        ·rw[h]at hz;simp at hz
        ·rw[h,List.concat_eq_append,List.getLastD_concat]at hz;exact JB a (by rw[h];simp) z hz
       have wu:=Yb.o k (by omega) _ mZ;have rf:=nz.o k ((btT n inp word tb k).2.getLastD []);have Jo:=F5.o k;have lq:am (∀ q (hq:q<(btV n inp word k ((btT n inp word tb k).2.getLastD [])).length),(btV n inp word k ((btT n inp word tb k).2.getLastD []))[q]=if k=0 then dX inp q else nextV n (k - 1) (word.getD (k - 1) default) ((btT n inp word tb k).2.getLastD []) q):=aa fun q hq=>by simp[btV]
       generalize btT n inp word tb k=st at NJ SP N8 NT JB mZ wu rf Jo kU rZ wg Jf lq;generalize btV n inp word k (st.2.getLastD [])=vs at wu rf Jo lq;obtain⟨tbk,views⟩:=st;dsimp only at NJ SP N8 NT JB mZ Jo kU rZ wg Jf lq;have HQI:=aa (fun q=>WQ tbk vs wu NT (by omega) q);have UT:=aa (SA tbk vs);have vW:=aa (Wj tbk vs);have rT:am (qC tbk vs n=addAll tbk vs):=aa (by rw[<-rf];exact Wi tbk vs);have LR:am (BtQ p n K (.slice (some ⟨bc,oc,none⟩) nc cc) (.slice ps ns cs) (.slice ave exs.length cve) w wrC (qC tbk vs 0) 0 (.slice none 0 0) wrC):=aa ⟨KeepT.refl _ _ _,⟨vtk,vQ.o,kU.o⟩,aJ.nil _ _ _ _⟩;have JO:=aa rf;have HROWS:=aa N8;have N7:=aa NJ;have HTSS:=aa Jo;have HTI2:=aa JB;clear mZ wu rf Jo N8 NJ NT JB SP h7n
       go_loopw [9,10] (fun l i wr=>∃ q:Nat,q<=n/\i=.int .i64 q/\BtQ p n K (.slice (some ⟨bc,oc,none⟩) nc cc) (.slice ps ns cs) (.slice ave exs.length cve) w wrC (qC tbk vs q) q l wr) (fun _ i _=>n - (intOf i).toNat)
       ·exact⟨0,by omega,rfl,LR.o⟩
       ·
        clear LR;obtain⟨q,hq,rfl,hQ⟩:=hrel;have HQ:=aa hQ;have hszq:=hQ.keep.old.size;have hA:=hQ.keep.keep _ _ _ _ HAK.o (by decide);have HAQ:=aa hA;have eU:=aa (oW.o.trans (hQ.keep.old.mono (by omega)));have tA:=ab hA;obtain⟨al,cl,rfl⟩:=hQ.row.slice;clear hQ hA;by_cases AZ:q<n
        ·obtain⟨bi,oi,rfl,JN⟩:=HEI.o q (by rw[QL.o];exact AZ);have tc:=ak eU.o nB.o;have ti:=ak eU.o JN;have HQLL:=vW.o q (by rw[JO.o];omega);have gL:=QL.o;have HILQ:am (q<inp.length):=aa (by rw[gL];exact AZ);rw[gL]at tc;have Kn:am (dX inp q=⟨q,0,inp.getD q 0,-1,-1,-1,-1,-1⟩):=aa rfl;generalize inp.getD q 0=xq at ti Kn;clear JN gL;obtain⟨wrD,hwD⟩:∃ x,x=wr:=⟨_,rfl⟩;subst hwD
         go_wp2_with fail
         refine(KP q xq wrD).mono ?_;rintro r w5 ⟨rfl,dS⟩;have Qq:=aa (HQ.o.up dS (by omega));have mx:=aa (ae eU.o dS);have XK:=lq.o q (by rw[JO.o];exact AZ);have dJ:=UT.o q (by rw[JO.o];exact AZ);obtain⟨vq,hvqe⟩:∃ v,v=vs[q]'(by rw[JO.o];exact AZ):=⟨_,rfl⟩;rw[<-hvqe]at XK dJ;have UZ:=aa XK;have zH:=aa dJ;obtain⟨st1,SI⟩:∃ x,x=qC tbk vs q:=⟨_,rfl⟩;rw[<-SI]at Qq zH HQLL;have SZ:=aa (HQI.o q);rw[<-SI]at SZ;have hsz5:=dS.size;clear tA tc ti dS HQ XK dJ hvqe SI;have Md:∀ o,Below w5.heap.size w5 (w5.alloc o):=fun o=>by go_grown
         obtain⟨vt5,JX,GI⟩:=Qq.o.sys;obtain⟨at5,ct5,rfl⟩:=GI.slice;have DF:=aa JX;have Ma:=aa GI;have hrw5:=Qq.o.row;have Tq:=aa hrw5;clear JX GI hrw5;by_cases ff:k=0
         case' pos=>
          have hd:decide ((0:Int)<(k:Int))=false:=decide_eq_false (by omega);have hd':decide (0<k)=false:=decide_eq_false (by omega);have hv:=UZ.o;rw[if_pos ff]at hv;clear ff;rw[Kn.o]at hv;have A8:=aa hv;have t3:=fun o=>ab (af (Md o) DF.o)
          have tv:=ab (ap w5 (.cells #[.int .i64 q,.int .i64 0,.int .i64 xq,.int .i64 (-1),.int .i64 (-1),.int .i64 (-1),.int .i64 (-1),.int .i64 (-1)] 190));clear hv UZ
          go_wp2_with fail
          clear t3 tv;refine aO (fun W=>BtP p n K (.slice (some ⟨bc,oc,none⟩) nc cc) (.slice ps ns cs) (.slice ave exs.length cve) (.slice at5 st1.1.length ct5) w wrC st1 (.slice al q cl) q w5.heap.size vq W) ⟨Qq.o.keep.up (Md _) (by omega),af (Md _) DF.o,Ma.o.up (Md _),Tq.o.up (Md _),by rw[A8.o];exact ap _ _⟩ ?_;rw[show (Value.agg #[.int .i64 q,.int .i64 0,.int .i64 xq,.int .i64 (-1),.int .i64 (-1),.int .i64 (-1),.int .i64 (-1),.int .i64 (-1)])=vq.v by rw[A8.o]]
         case' neg=>
          have hd:decide ((0:Int)<(k:Int))=true:=decide_eq_true (by omega);have hd':decide (0<k)=true:=decide_eq_true (by omega);obtain⟨k',ui⟩:∃ k',k=k'+1:=⟨k - 1,by omega⟩;have hv:=UZ.o;rw[if_neg ff,ui,Nat.add_sub_cancel]at hv;have QR:=aa ui;have hkl2:k'<k:=by omega
          have hkl0:k'<K:=by omega
          have qE:(k:Int) - 1=(k':Int):=by omega
          clear ui;have zL:k'<word.length:=by rw[zF.o.1];have:=QR.o;omega
          rw[az default zL]at hv;have Dw:=zF.o.2 _ (List.getElem_mem zL);have Ly:k'<views.length:=by have:=N7.o;have:=QR.o;omega
          have Ag:views.getLastD []=views[k']:=by
           have:views.length=k'+1:=by have:=N7.o;have:=QR.o;omega
           rw[List.getLastD_eq_getLast?,List.getLast?_eq_getElem?,this,Nat.add_sub_cancel,List.getElem?_eq_getElem Ly];rfl
          obtain⟨xv,AP,JF⟩:=wg.o k' Ly;rw[Ag]at hv;have XJ:=HROWS.o _ (List.getElem_mem Ly);have S':=HTI2.o _ (List.getElem_mem Ly);have t3:=fun o=>ab (af (Md o) DF.o)
          go_wp2_with fail
          refine bC (fun W=>Below w5.heap.size w5 W/\W.heap[w5.heap.size]?=some (.cells #[.int .i64 q,.int .i64 0,.int .i64 xq,.int .i64 (-1),.int .i64 (-1),.int .i64 (-1),.int .i64 (-1),.int .i64 (-1)] 190)) ⟨by go_grown,ap _ _⟩ (fun W5 hW5=>?_);have kC:=Qq.o.keep.up hW5.1 (by omega);have kB:=UR.o.keep.trans kC;obtain⟨g9,c9,e9,tcw⟩:=(kB.own HOWB.o (by decide)).cell j _ HXJ.o;injection e9 with e91 e92 e93
          injection e91 with e91
          injection e91 with e91
          subst e91;have how5:=rO (kB.own HHOW.o (by decide)) (fun i hi=>(zF.o.2 _ (List.getElem_mem hi)).2) (by omega);obtain⟨pw8,cw8,ew8,_,_,ew9⟩:=how5.at;injection ew8 with ew81 ew82 ew83
          obtain⟨bw,ow,ew,⟨d0,_⟩,⟨d1,_⟩,⟨d2,_⟩,⟨d3,_⟩,⟨d4,_⟩,⟨d5,_⟩,⟨d6,_⟩⟩:=ew9 k' zL;obtain⟨pxv,cxv,exv⟩:=JF.slice;have JN:=gp (kC.own JF (by decide)) (fun z hz=>by have:=S' z hz;exact⟨by omega,by omega⟩) (by omega);obtain⟨gv,cv1,ev1,hcv⟩:=(kC.own rZ.o (by decide)).cell k' xv AP;injection ev1 with ev11 ev12 ev13
          have tX:=ab (kC.keep _ _ _ _ Jf.o (by decide));clear how5 ew9;generalize word[k']=rd at hv d0 d1 d2 d3 d4 d5 d6 Dw;generalize views[k']=row at hv JN XJ exv S';rw[XJ]at exv;rw[exv]at hcv JN;obtain⟨⟨hgn,hhe,_,_,_⟩,_⟩:=Dw
          have hvs:vq=seenV n k rd.g row q:=by
           rw[hv,QR.o];simp[nextV,seenV,kL,seenH]
          have Oa:=aa (fun W (hb:Below W5.heap.size W5 W)=>MX rd.g k q n hgn jf (by omega) (hhe q (by omega)) _ row (by omega) W (JN.up up_int hb));rw[<-hvs]at Oa;have HKC:=aa kC;have Gf:=aa hW5.2;have Qo:=aa (af hW5.1 DF.o);have HT5:=aa (Ma.o.up hW5.1);have xM:=aa (Tq.o.up hW5.1);have hsz55:=aD hW5.2;subst ew;subst ew81;subst ev11;rw[zF.o.1]at ew82;rw[zF.o.1]at tcw;have hwk:IntKind.i64.wrap (k':Int)=(k':Int):=IntWalk.i64_in _ (by omega);clear XJ hgn hv S' JN kC kB JF exv AP Ag hvs hW5 ew82 ew83 ev12 ev13 e92 e93 UZ Kn t3
          go_still_tail 17,(by kernel_rfl)
          go_wp2_with fail
          refine aO (fun W=>Below W5.heap.size W5 W) (Below.drew (Below.refl _ _)) (fun W6 zp=>?_);refine(Oa.o W6 zp).mono ?_;rintro r w6 ⟨rfl,gz⟩;have pZ:=ae zp gz;have Xm:=aa (af pZ Gf.o)
          have Da:am (BtP p n K (.slice (some ⟨bc,oc,none⟩) nc cc) (.slice ps ns cs) (.slice ave exs.length cve) (.slice at5 st1.1.length ct5) w wrC st1 (.slice al q cl) q w5.heap.size vq (w6.setRow w5.heap.size vq.c)):=aa (by
           have bK:∀ k,k≠w5.heap.size->(w6.setRow w5.heap.size vq.c).heap[k]?=w6.heap[k]?:=fun k hk=>setRow_other _ _ _ _ hk
           have LA:=HKC.o.up pZ (by omega)
           refine⟨⟨below_setRow LA.old (by omega) _,fun k c t f h1 h2=>(bK k (by have:=aD h1;omega)).trans (LA.keep k c t f h1 h2),fun k o h1 h2 h3=>(bK k (by have:=aD h1;omega)).trans (LA.oth k o h1 h2 h3)⟩,(bK _ (by omega)).trans (af pZ Qo.o),(HT5.o.up pZ).keep (fun g o hg ho=>(bK g (fun e=>by have:=(Ma.o.lt g hg).2;omega)).trans ho),(xM.o.up pZ).keep (fun g o hg ho=>(bK g (fun e=>(xM.o.up pZ).ne Xm.o (by decide) g hg e)).trans ho),setRow_heap _ _ _ _ _ _ Xm.o⟩)
          clear zp gz pZ d0 d1 d2 d3 d4 d5 d6 tX tcw hcv qE hwk Oa Gf Qo HT5 xM
          go_wp2_with (refine wpList_store_row rfl 190 (.tmp 11) (.tmp 89) rfl w5.heap.size vq.c rfl rfl 190 _ Xm.o (by kernel_rfl) rfl (by simp[Value.oneCell']) ?_;have t3:=ab Da.o.sys;have tv:=ab Da.o.v)
          clear t3 tv;refine aO (fun W=>BtP p n K (.slice (some ⟨bc,oc,none⟩) nc cc) (.slice ps ns cs) (.slice ave exs.length cve) (.slice at5 st1.1.length ct5) w wrC st1 (.slice al q cl) q w5.heap.size vq W) Da.o ?_;rw[show (Value.agg #[.int .i64 vq.p,.int .i64 vq.k,.int .i64 vq.i,.int .i64 vq.h0,.int .i64 vq.h1,.int .i64 vq.h2,.int .i64 vq.h3,.int .i64 vq.h4])=vq.v from rfl]
         all_goals
          intro W6 zp;have LT:=aa zp;clear zp;refine(Sd n st1.1 _ vq (w.heap.size+1+1) W6 (by have:=LT.o.keep.old.size;omega) LT.o.tab SZ.o.1 (by have:=SZ.o.2.2;omega)).mono ?_;rintro r w7 ⟨⟨u7,rfl,Gn⟩,xV⟩;obtain⟨a7,c7,rfl⟩:=Gn.slice;generalize putV st1.1 vq=pv at Gn zH ⊢;have Yn:=LT.o.keep.up xV (by omega);have xX:=af xV LT.o.sys;have XG:=LT.o.row.up xV;have hsz7:=Yn.old.size;have hg7:∀ o,Below w7.heap.size w7 (w7.alloc o):=fun o=>by go_grown
          have h3lt:=aD xX;have t3:=fun o=>ab (af (hg7 o) xX)
          have z3:=fun o=>aH (af (hg7 o) xX)
          have t3a:=ab xX;have z3a:=aH xX;obtain⟨o7,ho7⟩:∃ o:Obj,o=.cells #[.int .i64 n,.slice a7 pv.1.length c7] 32:=⟨_,rfl⟩;obtain⟨W8,pE⟩:∃ W8,W8=((w7.setCell ⟨w.heap.size+1+1,7,none⟩ (.int .i64 n)).setCell ⟨w.heap.size+1+1,8,none⟩ (.slice a7 pv.1.length c7)).alloc o7:=⟨_,rfl⟩
          have hs8:W8.heap[w.heap.size+1+1]?=some (.cells (FV p n K (.slice (some ⟨bc,oc,none⟩) nc cc) (.slice ps ns cs) (.slice a7 pv.1.length c7) (.slice ave exs.length cve)) 35):=by
           rw[pE];refine ar _ ?_;rw[aI (aI xX _ _) _ _];rfl
          have hk8:KeepT [35] [] (w.heap.size+1+1) wrC W8:=by
           rw[pE];have h2:=Yn.set (o:=7) xX (by simp) (by omega) (.int .i64 n);have h3:=h2.set (o:=8) (aI xX _ _) (by simp) (by omega) (.slice a7 pv.1.length c7);exact h3.up (by go_grown) (by omega)
          have TA:∀ {b:Nat} {e:TypeId} {k m:Nat} {v:Value} {l:List Value},aJ w7 b e k v m l->e≠35->aJ W8 b e k v m l:=fun {b e k m v l} h bK=>by
           rw[pE];exact((h.put (h.ne xX bK) _ _).put (h.ne xX bK) _ _).up (by go_grown)
          have hr8:=TA XG (by decide);have L7:=TA Gn (by decide);have hsz8:w7.heap.size<W8.heap.size:=by rw[pE];simp
          have QK:=aa hs8;have HK8:=aa hk8;have XL:=aa L7;have LU:Below W8.heap.size W8 (W8.alloc (.cells #[.int .i64 pv.2] 3)):=by go_grown
          have Oh:=aa (hr8.up LU);have HG8:=aa LU;have bQ:=dQ W8 [.int .i64 pv.2] 3;rw[show W8.heap.size=w7.heap.size+1 by rw[pE];simp]at bQ;have bF:=aa bQ;have kw:am (q+1<=maxLen):=aa (by unfold maxLen;omega);have p8:am ((q+1) * 8<=140737488355328):=aa (by omega);have gu:am (wrC.heap.size<=(W8.alloc (.cells #[.int .i64 pv.2] 3)).heap.size):=aa (by simp;omega);subst pE;subst ho7;clear Gn Yn xX XG hs8 hk8 TA hr8 L7 LU xV bQ DF Ma Tq LT
          go_wp2_with (at_builtin;go_loud (refine bg _ rfl (.tmp 99) (.tmp 101) 38 rfl wrC.heap.size 3 i0 _ 1 8 Tryz.underlying38 cB.o.1 cB.o.2.1 cB.o.2.2.1 cB.o.2.2.2 rfl (by decide) _ q _ rfl Oh.o ⟨w7.heap.size+1,0,none⟩ 1 1 [.int .i64 pv.2] rfl rfl bF.o (by simp[Value.oneCell']) kw.o p8.o gu.o ?_;intro v9 w9 gt eC _))
          go_roundw
          ·
           refine⟨q+1,by omega,by go_num,?_⟩;rw[zH.o];have LU:Below _ _ (_:World):=HG8.o;refine⟨(HK8.o.up LU (by omega)).grownNew (by omega) (fun g hg=>(Oh.o.lt g hg).1) eC,⟨_,im Oh.o eC QK.o (by decide),(XL.o.up LU).apart Oh.o (by decide) eC⟩,?_⟩;rw[List.map_append];exact gt
          ·simp[intOf];omega
        ·have hqe:q=n:=by omega
         subst hqe;have hx:=HQ.o.keep.keep _ _ _ _ Jf.o (by decide);have tx:=ab hx;have mw:Below wr.heap.size wr (wr.alloc (.cells #[.slice al q cl] 38)):=by go_grown
         have zw:=aa hx;have Dp:=aa mw;have sh:=aa ((HQ.o.keep.own rZ.o (by decide)).up mw);have bF:=aa (dQ wr [.slice al q cl] 38);have kw:am (views.length+1<=maxLen):=aa (by have:=N7.o;unfold maxLen;omega);have p8:am ((views.length+1) * 24<=140737488355328):=aa (by have:=N7.o;omega);have gu:am (wrB.heap.size<=(wr.alloc (.cells #[.slice al q cl] 38)).heap.size):=aa (by simp;omega);have DH:=vW.o q (by rw[JO.o];omega);clear hx mw
         go_wp2_with (at_builtin;(refine bg _ rfl (.tmp 104) (.tmp 106) 56 rfl wrB.heap.size 38 i1 _ 1 24 Tryz.underlying56 tK.o.1 tK.o.2.1 tK.o.2.2.1 tK.o.2.2.2 rfl (by decide) _ views.length _ rfl sh.o ⟨wr.heap.size,0,none⟩ 1 1 [.slice al q cl] rfl rfl bF.o (by simp[Value.oneCell']) kw.o p8.o gu.o ?_;intro v9 w9 gt eC _;obtain⟨av9,cv9,rfl⟩:=gt.slice;have DN:=im sh.o eC zw.o (by decide);have c9:=ab DN;have f9:=aH DN))
         go_roundw
         ·
          refine⟨k+1,by omega,by go_num,?_⟩;rw[HTSS.o];have hq9:=HQ.o;rw[rT.o]at hq9 DH;exact BtK.next UR.o.keep hq9 zw.o (HQ.o.keep.own rZ.o (by decide)) (fun i hi=>by obtain⟨x,q1,q2⟩:=wg.o i hi;exact⟨x,q1,HQ.o.keep.own q2 (by decide)⟩) DH (by omega) eC gt
         ·simp[intOf];omega
      ·obtain rfl:k=K+1:=by omega
       have hd:decide (((K+1:Nat):Int)<=(K:Int))=false:=decide_eq_false (by omega);have fw:decide ((K:Int)+1<=(K:Int))=false:=decide_eq_false (by omega);have tS:=ab vQ.o;have tx:=ab Jf.o;have HLV:=aa (ud.o (K+1)).1;generalize btT n inp word tb (K+1)=st at NU kU Jf rZ wg tx HLV ⊢;obtain⟨tbk,views⟩:=st;dsimp only at NU kU Jf rZ wg tx HLV;have mw:Below wr.heap.size wr (wr.alloc (.cells #[.int .i64 c,.slice pxw K cxw,.slice pvv views.length cvv] 89)):=by go_grown
       have Dp:=aa mw;have sh:=aa ((UR.o.keep.own jS.o (by decide)).up mw);have bF:=aa (dQ wr [.int .i64 c,.slice pxw K cxw,.slice pvv views.length cvv] 89);have kw:am (exs.length+1<=maxLen):=aa (by unfold maxLen;omega);have p8:am ((exs.length+1) * 56<=140737488355328):=aa (by omega);have gu:am (w.heap.size+1+1<=(wr.alloc (.cells #[.int .i64 c,.slice pxw K cxw,.slice pvv views.length cvv] 89)).heap.size):=aa (by simp;omega);clear mw
       go_wp2_with (at_builtin;(refine bg _ rfl (.tmp 110) (.tmp 112) 33 rfl (w.heap.size+1+1) 89 i2 _ 3 56 Tryz.underlying33 U3.o.1 U3.o.2.1 U3.o.2.2.1 U3.o.2.2.2 rfl (by decide) _ exs.length _ rfl sh.o ⟨wr.heap.size,0,none⟩ 1 1 [.int .i64 c,.slice pxw K cxw,.slice pvv views.length cvv] rfl rfl bF.o (by simp[Value.oneCell']) kw.o p8.o gu.o ?_;intro v9 w9 gt eC _;obtain⟨av9,cv9,rfl⟩:=gt.slice;have sw:=im sh.o eC vQ.o (by decide);have c9:=ab sw;have f9:=aH sw))
       go_roundw
       ·
        refine⟨j+1,by omega,by go_num,?_⟩;rw[NU.o];have WZ:=HHOW.o.base (show w.heap.size+1+1<=W0.heap.size by omega);rw[zF.o.1]at WZ;have ri:cQ wr (w.heap.size+1+1) (.slice pvv views.length cvv) views:=CP (show cQ wr wrB.heap.size (.slice pvv views.length cvv) views from⟨ys,rZ.o,wg.o⟩) (by omega);exact BtI.next HI.o.keep UR.o.keep vQ.o kU.o jS.o DA.o WZ zF.o.1 ri (by omega) eC gt
       ·simp[intOf];omega
    ·obtain rfl:j=nw:=by omega
     have HI:=aa hI;clear hI
     go_wp2_with fail
     go_roundw
     ·exact⟨c+1,by omega,by go_num,by rw[Nat.succ_mul];exact HI.o⟩
     ·simp[intOf];omega
  ·have hce:c=nc:=by omega
   subst hce;have xK:=HI.o;rw[jv.o]at xK;obtain⟨vt,ve,xs,h1,h2,h3,h4⟩:=xK.sys;have hr:=(xK.keep.old.block (w.heap.size+1) (by omega)).trans pn.o;have QR:=aa xK.keep;obtain⟨avt,cvt,rfl⟩:=h2.slice;obtain⟨ave,cve,rfl⟩:=h3.slice;have H2:=aa h2;have H3:=aa h3;have H4:=aa h4;have tS:=ab h1;have ph:=aa hr;have Jw:=mm.o (c * nw) (Nat.le_refl _);have lL:=Aj.o (c * nw) (Nat.le_refl _);rw[jv.o]at Jw lL;dsimp only at Jw lL;have HSMM:=aa (show (aF p).tab.length<=17592186044416 by omega);have UB:=aa lL
   have Df:am ((aF p).ex.length<=17592186044416):=aa (by
    have h1:=tg p (aN p) (fp p) ([],[]);have h2:(aF p).ex.length=0+(fp p).length:=h1;rw[h2,iI,Dv.o,Gc.o]
    omega)
   clear xK h1 h2 h3 h4 hr Jw lL
   go_wp2_with (refine wpList_store_row rfl 35 (.tmp 2) (.tmp 115) rfl (w.heap.size+1) (FV p n K (.slice pc c cc) (.slice ps ns cs) (.slice avt (aF p).tab.length cvt) (.slice ave (aF p).ex.length cve)) rfl rfl 35 _ ph.o (by kernel_rfl) rfl (by simp[Value.oneCell']) ?_)
   refine bodyPost_ret (Ha _ (w.heap.size+1) _ _ _ _ _ _ _ _ _ _ _ rfl (setRow_heap _ _ _ _ _ _ ph.o)) rfl ⟨.slice avt (aF p).tab.length cvt,.slice ave (aF p).ex.length cve,?_,⟨⟨_,_,rfl⟩,_,_,rfl⟩,?_,below_setRow dz.o (by omega) _⟩
   ·rw[<-kr.o,<-HN.o]
   ·intro Wf JM h1 h2;exact WR h1 h2 H2.o H3.o H4.o (fun k hk mA=>(JM k (by omega) (Nat.lt_of_lt_of_le mA (below_setRow (Below.refl (w.heap.size+1) wr) (Nat.le_refl _) (FV p n K (.slice pc c cc) (.slice ps ns cs) (.slice avt (aF p).tab.length cvt) (.slice ave (aF p).ex.length cve))).size)).trans (setRow_other _ _ _ _ (by omega))) UB.o HSMM.o Df.o
end Go.Proofs.YtmeaoneaephjeaaGreatDoor
