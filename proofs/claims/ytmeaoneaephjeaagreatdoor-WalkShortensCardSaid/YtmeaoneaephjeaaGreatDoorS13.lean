/-
  A part of the proof: lemmas and contracts that the parts behind it use. Each one's conditions are its own premises.
-/
import Derived.Test.YtmeaoneaephjeaaGreatDoorS7
set_option maxRecDepth 100000
set_option maxHeartbeats 8000000
set_option linter.unusedVariables false
set_option linter.unusedSimpArgs false
namespace Go.Proofs.YtmeaoneaephjeaaGreatDoor
open Go.RowKit Go Go.Shelf
section
variable {ts : List TypeId} {ms : List Nat} {base : Nat} {w w' w'' : World}
theorem KeepT.up(h:KeepT ts ms base w w') (hb:Below w'.heap.size w' w'') (hs:base<=w.heap.size):KeepT ts ms base w w'':=
 h.trans (.of_below ts hb (Nat.le_trans hs h.old.size))
end
theorem sP{p:Pb} (h:probE p=0):∀ i,i<=p.t.cases.length * (aP p).length->(stP p i).1.length<=i * 35
 | 0,_=>by simp[stP,execsS]
 | i+1,hi=>by
  have ih:=sP h i (by omega);obtain⟨nj,_,_,rO,qi⟩:=gH h;obtain⟨⟨_,jz⟩,_,_,⟨_,bU⟩,fV⟩:=fm nj;have aB:i<p.t.cases.length * (aP p).length:=by omega
  have oN:0<(aP p).length:=by
   rcases Nat.eq_zero_or_pos (aP p).length with h|h
   ·rw[h]at aB;simp at aB
   ·exact h
  have hj:i % (aP p).length<(aP p).length:=Nat.mod_lt _ oN
  have Qw:((aP p)[i % (aP p).length]).length<=6:=by
   have:=kg p.a p.rounds.toNat 0 _ (List.getElem_mem (l:=aP p) hj);omega
  have dS:=wl p i aB;unfold kh at dS;dsimp only at dS;rw[az [] hj]at dS;have cP:=(iB p.t.n.toNat (p.t.cases.getD (i / (aP p).length) default).inp (aP p)[i % (aP p).length] (stP p i).1 ((aP p)[i % (aP p).length]).length).2.2;have h9:p.t.n.toNat * (((aP p)[i % (aP p).length]).length+1)<=5 * 7:=Nat.mul_le_mul (by omega) (by omega);rw[dS];simp only[gu];omega
theorem PI{P:Rd->Prop} (a:Adv) (h:∀ s,∀ m∈a.states.getD s [],P m.r) (k:Nat):∀ s,∀ x∈bY a k s,∀ r∈x,P r:=by
 induction k with
 | zero=>intro s x hx r hr;simp[bY]at hx;subst hx;simp at hr
 | succ k ih=>
  intro s x hx r hr;simp only[bY,List.mem_flatMap,List.mem_map]at hx;obtain⟨m,hm,y,hy,rfl⟩:=hx;rcases List.mem_cons.1 hr with rfl|hr
  ·exact h s m hm
  ·exact ih _ y hy r hr
theorem PJ{p:Pb} (h:probE p=0):∀ x∈aP p,∀ r∈x,OkR p.a.n r:=by
 have ha:=(gH h).2.1;refine PI p.a (fun s m hm=>Pi ha ((Ah p.a m.r).2 ?_)) _ 0;by_cases hs:s<p.a.states.length
 ·rw[az [] hs]at hm;exact⟨_,List.getElem_mem hs,m,hm,rfl⟩
 ·rw[List.getD_eq_getElem?_getD,List.getElem?_eq_none (by omega)]at hm;simp at hm
def btT(n:Nat) (inp:List Int) (word:List Rd) (tb:List Vw):Nat->List Vw × List (List Int)
 | 0=>(tb,[])
 | k+1=>playTo n inp word tb k
def btV(n:Nat) (inp:List Int) (word:List Rd) (k:Nat) (now:List Int):List Vw:=(List.range n).map fun q=>if k=0 then eA inp q else nextV n (k - 1) (word.getD (k - 1) default) now q
theorem VC(n:Nat) (inp:List Int) (word:List Rd) (k:Nat) (now:List Int):(btV n inp word k now).length=n:=by simp[btV]
theorem R8(n:Nat) (inp:List Int) (word:List Rd) (tb:List Vw):∀ k,btT n inp word tb (k+1)=((addAll (btT n inp word tb k).1 (btV n inp word k ((btT n inp word tb k).2.getLastD []))).1,(btT n inp word tb k).2++[(addAll (btT n inp word tb k).1 (btV n inp word k ((btT n inp word tb k).2.getLastD []))).2])
 | 0=>rfl
 | _+1=>rfl
theorem VD(n:Nat) (inp:List Int) (word:List Rd) (tb:List Vw):∀ k,(btT n inp word tb k).2.length=k/\(btT n inp word tb k).1.length<=tb.length+n * k/\∀ row∈(btT n inp word tb k).2,row.length=n
 | 0=>⟨rfl,Nat.le_add_right _ _,fun row h=>by simp[btT]at h⟩
 | k+1=>⟨(iB n inp word tb k).1,(iB n inp word tb k).2.2,uj n inp word tb k⟩
theorem Wc(n:Nat) (hn:n<=5) (inp:List Int) (hi:∀ x∈inp,bS x) (word:List Rd) (tb:List Vw) (ht:∀ v∈tb,jO v) (hl:tb.length+40<=100000):∀ k,k<=7->(∀ v∈(btT n inp word tb k).1,jO v)/\∀ row∈(btT n inp word tb k).2,∀ z∈row,0<=z/\z<=(100000:Int)
 | 0,_=>⟨ht,fun row h=>by simp[btT]at h⟩
 | k+1,hk=>xZ n hn inp hi word tb ht k (by omega) hl
theorem Wd(n:Nat) (hn:n<=5) (inp:List Int) (hi:∀ x∈inp,bS x) (word:List Rd) (k:Nat) (hk:k<=7) (now:List Int) (pL:∀ z∈now,0<=z/\z<=(100000:Int)):∀ v∈btV n inp word k now,jO v:=fun v hv=>by
 obtain⟨q,hq,rfl⟩:=List.mem_map.1 hv;have hq:=List.mem_range.1 hq;have z1:bS (-1):=⟨by omega,by omega⟩;have z0:bS 0:=⟨by omega,by omega⟩;by_cases h0:k=0
 ·rw[if_pos h0]
  have hx:bS (inp.getD q 0):=by
   by_cases h:q<inp.length
   ·rw[az 0 h];exact hi _ (List.getElem_mem h)
   ·rw[List.getD_eq_getElem?_getD,List.getElem?_eq_none (by omega)];exact z0
  exact⟨uN q (by omega),z0,hx,z1,z1,z1,z1,z1⟩
 ·rw[if_neg h0]
  have hh:∀ p,bS (lY n (word.getD (k - 1) default) now q p):=fun p=>by
   unfold lY;split
   ·by_cases h:p<now.length
    ·rw[az 0 h];have:=pL _ (List.getElem_mem h);exact⟨by omega,by omega⟩
    ·rw[List.getD_eq_getElem?_getD,List.getElem?_eq_none (by omega)];exact z0
   ·exact z1
  exact⟨uN q (by omega),⟨by simp only[nextV];omega,by simp only[nextV];omega⟩,z0,hh 0,hh 1,hh 2,hh 3,hh 4⟩
def qh(tb:List Vw) (vs:List Vw) (q:Nat):List Vw × List Int:=addAll tb (vs.take q)
theorem VE(tb vs:List Vw):qh tb vs vs.length=addAll tb vs:=by unfold qh;rw[List.take_length]
theorem R'(tb vs:List Vw) (q:Nat) (hq:q<vs.length):qh tb vs (q+1)=((putV (qh tb vs q).1 vs[q]).1,(qh tb vs q).2++[((putV (qh tb vs q).1 vs[q]).2:Int)]):=by
 unfold qh;rw[tW tb vs q hq];rfl
theorem We(tb vs:List Vw) (hv:∀ v∈vs,jO v) (ht:∀ v∈tb,jO v) (hl:tb.length+vs.length<=100000) (q:Nat):(∀ v∈(qh tb vs q).1,jO v)/\(∀ z∈(qh tb vs q).2,0<=z/\z<=(100000:Int))/\(qh tb vs q).1.length<=100000:=by
 have k8:(vs.take q).length<=vs.length:=by rw[List.length_take];omega
 have h:=xY 100000 (vs.take q) (tb,[]) (fun v h=>hv v (List.mem_of_mem_take h)) ht (fun z hz=>by simp at hz) (by dsimp only;omega);have h2:=fI (vs.take q) (tb,[]);exact⟨h.1,h.2,by have:=h2.2;simp only[qh,addAll]at this ⊢;omega⟩
theorem VF(tb vs:List Vw) (q:Nat) (hq:q<=vs.length):(qh tb vs q).2.length=q:=by
 have h2:=(fI (vs.take q) (tb,[])).1;simp only[qh,addAll];rw[h2,List.length_take];simp;omega
end Go.Proofs.YtmeaoneaephjeaaGreatDoor
namespace Go.Proofs.YtmeaoneaephjeaaGreatDoor
open Go.RowKit Go Go.Shelf
attribute [local go_sem] Oper.semAt_some
abbrev Fs(p:Pb) (n K:Nat) (vc vs vt ve:Value):Array Value:=#[.int .i64 n,.int .i64 p.t.ins,.int .i64 p.t.outs,vc,.int .i64 p.a.n,vs,.int .i64 K,.int .i64 n,vt,ve]
structure BtI (p:Pb) (n K:Nat) (vc vs:Value) (w w4:World) (st:List Vw × List Ex) (V:World):Prop where
 keep:KeepT [35,89] [] (w.heap.size+1+1) w4 V
 sys:∃ vt ve xs,V.heap[w.heap.size+1+1]?=some (.cells (Fs p n K vc vs vt ve) 35)/\aJ V (w.heap.size+1+1) 190 8 vt st.1.length (eZ st.1)/\aJ V (w.heap.size+1+1) 89 3 ve st.2.length xs/\∀ k (hk:k<st.2.length),zy V (w.heap.size+1+1) xs k (st.2[k])
structure BtK (p:Pb) (n K:Nat) (vc vs ve wv:Value) (w Ve:World) (ci:Nat) (st:List Vw × List (List Int)) (V:World):Prop where
 keep:KeepT [35] [] (w.heap.size+1+1) Ve V
 sys:∃ vt,V.heap[w.heap.size+1+1]?=some (.cells (Fs p n K vc vs vt ve) 35)/\aJ V (w.heap.size+1+1) 190 8 vt st.1.length (eZ st.1)
 ex:∃ vv,V.heap[Ve.heap.size]?=some (.cells #[.int .i64 ci,wv,vv] 89)/\cT V Ve.heap.size vv st.2
structure BtQ (p:Pb) (n K:Nat) (vc vs ve:Value) (w Vk:World) (st:List Vw × List Int) (q:Nat) (l:Value) (V:World):Prop where
 keep:KeepT [35] [] (w.heap.size+1+1) Vk V
 sys:∃ vt,V.heap[w.heap.size+1+1]?=some (.cells (Fs p n K vc vs vt ve) 35)/\aJ V (w.heap.size+1+1) 190 8 vt st.1.length (eZ st.1)
 row:aJ V Vk.heap.size 3 1 l q (st.2.map (Value.int .i64))
structure BtP (p:Pb) (n K:Nat) (vc vs ve vt:Value) (w Vk:World) (st:List Vw × List Int) (l:Value) (q bv:Nat) (v:Vw) (V:World):Prop where
 keep:KeepT [35] [] (w.heap.size+1+1) Vk V
 sys:V.heap[w.heap.size+1+1]?=some (.cells (Fs p n K vc vs vt ve) 35)
 tab:aJ V (w.heap.size+1+1) 190 8 vt st.1.length (eZ st.1)
 row:aJ V Vk.heap.size 3 1 l q (st.2.map (Value.int .i64))
 v:V.heap[bv]?=some (.cells v.c 190)
theorem BtQ.up{p:Pb} {n K:Nat} {vc vs ve:Value} {w Vk:World} {st:List Vw × List Int} {q:Nat} {l:Value} {V V':World} (h:BtQ p n K vc vs ve w Vk st q l V) (hb:Below V.heap.size V V') (hs:w.heap.size+1+1<=Vk.heap.size):BtQ p n K vc vs ve w Vk st q l V':=by
 obtain⟨vt,h1,h2⟩:=h.sys;exact⟨h.keep.up hb hs,⟨vt,af hb h1,h2.up hb⟩,h.row.up hb⟩
theorem Gz(tmps:Array Value) (B:Nat) (W:World) (c0 c1 c2 c3 c4 c5 c6 c7 c8 c9:Value) (h2:tmps[2]?.getD undef=.pointer (some ⟨B,0,none⟩))
  (hB:W.heap[B]?=some (.cells #[c0,c1,c2,c3,c4,c5,c6,c7,c8,c9] 35)) :
  (results Tryz.f117 tmps).run Tryz.prog W=.ok (.agg #[c0,c1,c2,c3,c4,c5,c6,c7,c8,c9]) W:=by
 have t2:=ab hB;simp[results,Tryz.results117,go_sem,h2,t2]
theorem BtK.next{p:Pb} {n K q c:Nat} {vc vs ve wv lv vv v9:Value} {w Ve Vk V w9:World} {tb:List Vw} {l:List Int} {views:List (List Int)} {ys:List Value} (hK:KeepT [35] [] (w.heap.size+1+1) Ve Vk) (hQ:BtQ p n K vc vs ve w Vk (tb,l) q lv V) (hx:V.heap[Ve.heap.size]?=some (.cells #[.int .i64 c,wv,vv] 89))
  (jx:aJ V Ve.heap.size 38 1 vv views.length ys) (iK:∀ i (hi:i<views.length),∃ x,ys[i]?=some x/\aJ V Ve.heap.size 3 1 x views[i].length (views[i].map (Value.int .i64))) (hl:l.length=q) (eQ:w.heap.size+1+1<Ve.heap.size)
  (hg:(V.alloc (.cells #[lv] 38)).grownBy w9 vv.ownBlock) (bg:aJ w9 Ve.heap.size 38 1 v9 (views.length+1) (ys++[lv])):BtK p n K vc vs ve wv w Ve c (tb,views++[l]) (w9.setCell ⟨Ve.heap.size,2,none⟩ v9):=by
 have ml:Below V.heap.size V (V.alloc (.cells #[lv] 38)):=by go_grown
 have qC:=jx.up ml
 have K4:aJ (V.alloc (.cells #[lv] 38)) Ve.heap.size 3 1 lv l.length (l.map (Value.int .i64)):=by
  rw[hl];exact(hQ.row.base hK.old.size).up ml
 have jU:∀ i (hi:i<views.length),∃ x,ys[i]?=some x/\aJ (V.alloc (.cells #[lv] 38)) Ve.heap.size 3 1 x views[i].length (views[i].map (Value.int .i64)):=fun i hi=>by
  obtain⟨x,q1,q2⟩:=iK i hi;exact⟨x,q1,q2.up ml⟩
 have qR:cT w9 Ve.heap.size v9 (views++[l]):=cB.snoc qC jU (by decide) K4 hg bg;have Da:=ig qC hg hx (by decide);obtain⟨vt,h1,h2⟩:=hQ.sys;have h2':=(h2.up ml).apart qC (by decide) hg;have k3:=((hK.trans hQ.keep).up ml (by omega)).grownNew (by omega) (fun g hg=>(qC.lt g hg).1) hg;have kk:=(KeepT.refl (ms:=[]) [89] Ve.heap.size w9).set (o:=2) Da (by simp) (Nat.le_refl _) v9;exact⟨k3.setNew (by omega) (Nat.le_refl _) _,⟨vt,aO (ig qC hg h1 (by decide)) (by omega) _ _,h2'.put (h2'.ne Da (by decide)) _ _⟩,v9,(aI Da _ _).trans rfl,kk.fresh qR (by decide) (by decide)⟩
theorem BtI.next{p:Pb} {n K c:Nat} {vc vs ve wv vv vt v9:Value} {w w4 Ve V w9:World} {tb2:List Vw} {exs:List Ex} {word:List Rd} {views:List (List Int)} {xs:List Value} (hI:KeepT [35,89] [] (w.heap.size+1+1) w4 Ve) (hK:KeepT [35] [] (w.heap.size+1+1) Ve V)
  (hs:V.heap[w.heap.size+1+1]?=some (.cells (Fs p n K vc vs vt ve) 35)) (ht:aJ V (w.heap.size+1+1) 190 8 vt tb2.length (eZ tb2)) (he:aJ Ve (w.heap.size+1+1) 89 3 ve exs.length xs) (hx:∀ k (hk:k<exs.length),zy Ve (w.heap.size+1+1) xs k exs[k])
  {m:Nat} (hw:aJ Ve (w.heap.size+1+1) 141 7 wv m (cZ word)) (hm:word.length=m) (hv:cT V (w.heap.size+1+1) vv views) (h4:w.heap.size+1+1<w4.heap.size)
  (hg:(V.alloc (.cells #[.int .i64 c,wv,vv] 89)).grownBy w9 ve.ownBlock) (bg:aJ w9 (w.heap.size+1+1) 89 3 v9 (exs.length+1) (xs++[.int .i64 c,wv,vv])):BtI p n K vc vs w w4 (tb2,exs++[⟨c,word,views⟩]) (w9.setCell ⟨w.heap.size+1+1,9,none⟩ v9):=by
 subst hm;have ml:Below V.heap.size V (V.alloc (.cells #[.int .i64 c,wv,vv] 89)):=by go_grown
 have eQ:=hI.old.size;have IE:=hK.old.size;have qC:=(hK.own he (by decide)).up ml;have rT:=ig qC hg hs (by decide);have k3:=((hI.trans (hK.mono (us:=[35,89]) (ns:=[]) (fun t h=>by simp at h ⊢;exact .inl h) (fun _ h=>h))).up ml (by omega)).grown qC (by simp) (Nat.le_refl _) (by omega) hg;have kk:KeepT [89,35] [] (w.heap.size+1+1) (V.alloc (.cells #[.int .i64 c,wv,vv] 89)) (w9.setCell ⟨w.heap.size+1+1,9,none⟩ v9):=((KeepT.refl _ _ _).grown qC (by simp) (Nat.le_refl _) (by simp;omega) hg).set rT (by simp) (by omega) _;have iN:xs.length=exs.length * 3:=he.1;refine⟨k3.set rT (by simp) (by omega) _,vt,v9,xs++[.int .i64 c,wv,vv],(aI rT _ _).trans rfl,kk.own (ht.up ml) (by decide),?_,fun i hi=>?_⟩
 ·rw[List.length_append,List.length_singleton];exact bg.put (bg.ne rT (by decide)) _ _
 ·rw[List.length_append,List.length_singleton]at hi;by_cases aB:i<exs.length
  ·rw[List.getElem_append_left aB];obtain⟨a,d,p1,p2,p3,p4,p5⟩:=hx i aB;exact⟨a,d,by rw[List.getElem?_append_left (by omega)];exact p1,by rw[List.getElem?_append_left (by omega)];exact p2,by rw[List.getElem?_append_left (by omega)];exact p3,kk.own ((hK.own p4 (by decide)).up ml) (by decide),kk.fresh (cB.up (hK.fresh p5 (by decide) (by decide)) ml) (by decide) (by decide)⟩
  ·obtain rfl:i=exs.length:=by omega
   have e9:(exs++[(⟨c,word,views⟩:Ex)])[exs.length]'(by simp)=⟨c,word,views⟩:=by simp
   rw[e9];refine⟨wv,vv,?_,?_,?_,kk.own ((hK.own hw (by decide)).up ml) (by decide),kk.fresh (cB.up hv ml) (by decide) (by decide)⟩
   ·rw[List.getElem?_append_right (by omega),iN,Nat.sub_self];rfl
   ·rw[List.getElem?_append_right (by omega),iN,Nat.add_sub_cancel_left];rfl
   ·rw[List.getElem?_append_right (by omega),iN,Nat.add_sub_cancel_left];rfl
theorem Wg{p:Pb} {vc vs vt ve:Value} {w V Wf:World} {xs:List Value} (hc:bN Wf vc p.t.cases) (hs:bz Wf vs p.a.states) (ht:aJ V (w.heap.size+1+1) 190 8 vt (aN p).tab.length (eZ (aN p).tab)) (he:aJ V (w.heap.size+1+1) 89 3 ve (aN p).ex.length xs)
  (hx:∀ k (hk:k<(aN p).ex.length),zy V (w.heap.size+1+1) xs k (aN p).ex[k]) (hW:∀ k,w.heap.size+1+1<=k->k<V.heap.size->Wf.heap[k]?=V.heap[k]?) (hg:(∀ v∈(aN p).tab,jO v)/\∀ x∈(aN p).ex,ExGood x) (h1:(aN p).tab.length<=17592186044416) (h2:(aN p).ex.length<=17592186044416):IsSys Wf (aN p) vc vs vt ve:=by
 have tr:∀ {e:TypeId} {k:Nat} {v:Value} {m:Nat} {l:List Value},aJ V (w.heap.size+1+1) e k v m l->aJ Wf (w.heap.size+1+1) e k v m l:=fun {e k v m l} h=>h.keep fun g o hg ho=>(hW g (h.lt g hg).1 (h.lt g hg).2).trans ho
 refine⟨hc,hs,yg (tr ht) hg.1 h1,KM (tr he) (fun i hi=>?_) hg.2 h2⟩;obtain⟨a,d,p1,p2,p3,p4,ys,p5,p6⟩:=hx i hi;exact⟨a,d,p1,p2,p3,tr p4,ys,tr p5,fun j hj=>by obtain⟨y,r1,r2⟩:=p6 j hj;exact⟨y,r1,tr r2⟩⟩
theorem MY(p:Pb) (vc vs:Value) (w:World) (hc:bN w vc p.t.cases) (hs:bz w vs p.a.states) (hp:probE p=0) (hm:p.t.cases.length * (aP p).length<=200) :
  Calls Tryz.prog 117 #[nJ p vc vs] w fun r w'=>∃ vt ve,r=.returned (.agg #[.int .i64 p.t.n,.int .i64 p.t.ins,.int .i64 p.t.outs,vc,.int .i64 p.a.n,vs,.int .i64 p.rounds,.int .i64 p.t.n,vt,ve])/\((∃ a c,vt=.slice a (aN p).tab.length c)/\∃ a c,ve=.slice a (aN p).ex.length c)/\(∀ Wf:World,(∀ k,w.heap.size<=k->k<w'.heap.size->Wf.heap[k]?=w'.heap[k]?)->bN Wf vc p.t.cases->bz Wf vs p.a.states->IsSys Wf (aN p) vc vs vt ve)/\Below w.heap.size w w':=by
 have GC:=aa hc;have GS:=aa hs;have HP:=aa hp;obtain⟨nj,Je,zj,rO,qi⟩:=gH hp;obtain⟨⟨jZ,jz⟩,_,_,⟨wI,bU⟩,fV⟩:=fm nj
 have Jq:(aP p).length<=200:=by
  have h9:1 * (aP p).length<=p.t.cases.length * (aP p).length:=Nat.mul_le_mul_right _ wI;omega
 have hst0:=(ik Je).1;obtain⟨pc,cc,rfl,lc1,lc2,ec⟩:=hc.at;obtain⟨ps,cs,rfl,_⟩:=hs.at;obtain⟨K,hK⟩:∃ K:Nat,p.rounds=K:=⟨p.rounds.toNat,by omega⟩;obtain⟨n,hn⟩:∃ n:Nat,p.t.n=n:=⟨p.t.n.toNat,by omega⟩
 have NA:am (∀ W,Below w.heap.size w W->Calls Tryz.prog 157 #[.agg #[.int .i64 p.a.n,.slice ps p.a.states.length cs],.int .i64 0,.int .i64 K] W fun r w'=>∃ u,r=.returned u/\uL w' W.heap.size u (aP p)/\Below W.heap.size W w'):=aa fun W hb=>by
  have h:=Ff p.a (fun s hs m hm=>by have:=uK Je s hs m hm;omega) p.rounds.toNat 0 _ W (by omega) (by omega) (by have:(bY p.a p.rounds.toNat 0)=aP p:=rfl;rw[this];omega) (GS.o.up up_moves hb);rw[show ((p.rounds.toNat:Nat):Int)=(K:Int) by omega]at h;exact h
 have zG:=aa (Bi hp (fun c hc=>(wj GC.o c hc).1) (fun x hx=>wg p.a (sF GS.o) _ _ x hx) (by have:=sP hp (p.t.cases.length * (aP p).length) (Nat.le_refl _);have e:stP p (p.t.cases.length * (aP p).length)=execsS p (aP p) (fh p):=(by unfold stP;rw[List.take_of_length_le (by rw[iD];exact Nat.le_refl _)]);rw[e]at this;omega));have mo:=aa (sP hp);have HWG:am (∀ x∈aP p,x.length=K/\∀ r∈x,OkR n r/\pI r):=aa fun x hx=>⟨by have:=kg p.a p.rounds.toNat 0 x hx;omega,fun r hr=>⟨by have:=PJ hp x hx r hr;rwa [<-zj,hn]at this,wg p.a (sF GS.o) _ _ x hx r hr⟩⟩
 have jk:am (stP p (p.t.cases.length * (aP p).length)=((aN p).tab,(aN p).ex)):=aa (by unfold stP;rw[List.take_of_length_le (by rw[iD];exact Nat.le_refl _)];rfl);have dL:am (∀ c (hc:c<p.t.cases.length),(p.t.cases[c]).inp.length=n):=aa fun c hc=>by have:=(fV _ (List.getElem_mem hc)).inp;omega
 have HEC:=aa ec;have Nn:=aa (wl p);obtain⟨nc,iL⟩:∃ nc,p.t.cases.length=nc:=⟨_,rfl⟩;obtain⟨nw,mn⟩:∃ nw,(aP p).length=nw:=⟨_,rfl⟩;have Dj:=aa iL;have FW:=aa mn;obtain⟨ns,oH⟩:∃ ns,p.a.states.length=ns:=⟨_,rfl⟩;rw[iL]at lc1 lc2 wI bU hm jk mo zG Nn ⊢;rw[mn]at hm Jq jk mo zG Nn;have HNS:=aa oH;rw[oH]at NA ⊢;have HN:=aa hn;have j8:=aa hK;clear hc hs hp nj Je zj fV ec iL mn hst0 oH rO;have jz:n<=5:=by omega
 have jZ:1<=n:=by omega
 have hK6:K<=6:=by omega
 show Calls Tryz.prog 117 #[.agg #[.int .i64 p.t.n,.int .i64 p.t.ins,.int .i64 p.t.outs,.slice pc nc cc,.int .i64 p.a.n,.slice ps ns cs,.int .i64 p.rounds]] w _
 rw[hn,hK];clear hn hK;obtain⟨i0,df,cH,cj,cI⟩:=info_parts Tryz.infoInt;have cG:=aa (And.intro df (And.intro cH (And.intro cj cI)));obtain⟨i1,oX,je,jx,iK⟩:=info_parts Tryz.infoInts;have tJ:=aa (And.intro oX (And.intro je (And.intro jx iK)));obtain⟨i2,Uf,dp,dJ,ed⟩:=info_parts Tryz.infoExec;have Ub:=aa (And.intro Uf (And.intro dp (And.intro dJ ed)));clear df cH cj cI oX je jx iK Uf dp dJ ed
 go_enter Tryz.func117,Tryz.ntmps117
 go_wp2_with fail
 refine aQ (fun W=>Below w.heap.size w W/\W.heap[w.heap.size]?=some (.cells #[.int .i64 n,.int .i64 p.t.ins,.int .i64 p.t.outs,.slice pc nc cc,.int .i64 p.a.n,.slice ps ns cs,.int .i64 K] 29)/\W.heap[w.heap.size+1]?=some (.cells zeroSys 35)/\W.heap[w.heap.size+1+1]?=some (.cells #[.int .i64 n,.int .i64 p.t.ins,.int .i64 p.t.outs,.slice pc nc cc,.int .i64 p.a.n,.slice ps ns cs,.int .i64 K,.int .i64 n,.slice none 0 0,.slice none 0 0] 35)) ⟨by go_grown,aq _ (aq _ (ap _ _)),aq _ (bu _ _ _),eD _ _ _ _⟩ (fun W0 bd=>?_);obtain⟨aK,bK,gr,XO⟩:=bd;refine(NA.o W0 aK).mono ?_;rintro r w4 ⟨u,rfl,hu,bO⟩;have eV:=aa (ae aK bO);have TG:=aa (af bO bK);have oQ:=aa (af bO gr);have F3:=aa (af bO XO);have y9:=aC F3.o;have hsW0:=aC XO;obtain⟨xs0,FN,Qq⟩:=hu;rw[FW.o]at FN;obtain⟨pu,cu,rfl⟩:=FN.slice;have rH:=aa FN;have F6:=aa Qq;have cG:am (BtI p n K (.slice pc nc cc) (.slice ps ns cs) w w4 ([],[]) w4):=aa ⟨KeepT.refl _ _ _,.slice none 0 0,.slice none 0 0,[],F3.o,aJ.nil _ _ _ _,aJ.nil _ _ _ _,fun k hk=>by simp at hk⟩;clear aK bK gr XO bO NA FN Qq
 go_wp2_with fail
 go_loopw [5] (fun i wr=>∃ c:Nat,c<=nc/\i=.int .i64 c/\BtI p n K (.slice pc nc cc) (.slice ps ns cs) w w4 (stP p (c * nw)) wr) (fun i _=>nc - (intOf i).toNat)
 ·exact⟨0,by omega,rfl,by rw[Nat.zero_mul];exact cG.o⟩
 ·
  clear cG;obtain⟨c,hc,rfl,hI⟩:=hrel;have HI:=aa hI;have hA:=hI.keep.keep _ _ _ _ TG.o (by decide);have eQ:=hI.keep.old.size;have dy:Below w.heap.size w wr:=eV.o.trans (hI.keep.old.mono (by omega));have eN:=aa dy;have tA:=ab hA;clear hI hA dy;by_cases aB:c<nc
  ·obtain⟨bc,oc,rfl,⟨vi,ci0,vp⟩,_,_⟩:=HEC.o c (by rw[Dj.o];exact aB);have gX:=dL.o c (by rw[Dj.o];exact aB);have cY:=(wj GC.o _ (List.getElem_mem (l:=p.t.cases) (show c<p.t.cases.length by rw[Dj.o];exact aB))).1;obtain⟨inp,ST⟩:∃ inp,(p.t.cases[c]'(by rw[Dj.o];exact aB)).inp=inp:=⟨_,rfl⟩;have HINP:am ((p.t.cases.getD c default).inp=inp):=aa (by rw[az default (by rw[Dj.o];exact aB)];exact ST);rw[ST]at vp gX cY;obtain⟨pi,cpi,rfl,ei⟩:=ef vp;have HEI:=aa ei;have jf:=aa cY;have Qn:=aa gX;have nh:=aa ci0;obtain⟨wrA,lN⟩:∃ x,x=wr:=⟨_,rfl⟩;subst lN;clear vp gX cY ei ci0 ST
   go_wp2_with fail
   clear tA
   go_loopw [6] (fun i wr=>∃ j:Nat,j<=nw/\i=.int .i64 j/\BtI p n K (.slice (some ⟨bc,oc,none⟩) nc cc) (.slice ps ns cs) w w4 (stP p (c * nw+j)) wr) (fun i _=>nw - (intOf i).toNat)
   ·exact⟨0,by omega,rfl,HI.o⟩
   ·
    clear HI eN eQ;obtain⟨j,hj,rfl,hI⟩:=hrel;have eQ:=hI.keep.old.size;by_cases fH:j<nw
    ·obtain⟨vt,ve,xs,fT,gV,mZ,y9⟩:=hI.sys;have JN:(c+1) * nw<=nc * nw:=Nat.mul_le_mul_right nw (by omega);rw[Nat.succ_mul]at JN;have Wy:j<(aP p).length:=by rw[FW.o];exact fH
     obtain⟨xw,Lx,qB⟩:=F6.o j Wy;obtain⟨g0,c0,e0,uW⟩:=(hI.keep.own rH.o (by decide)).cell j xw Lx;injection e0 with e01 e02 e03
     subst e01;subst e03;clear e02;have LG:=HWG.o _ (List.getElem_mem (l:=aP p) Wy);have qC:=hI.keep.own qB (by decide);have dS:=Nn.o (c * nw+j) (by omega);have hg:=(zG.o (c * nw+j) (by omega)).1;have JA:=mo.o (c * nw+j) (by omega);have AN:(c * nw+j) / nw=c:=by rw[Nat.mul_comm,Nat.mul_add_div (by omega),Nat.div_eq_of_lt fH,Nat.add_zero]
     have gm:(c * nw+j) % nw=j:=by rw[Nat.mul_comm,Nat.mul_add_mod,Nat.mod_eq_of_lt fH]
     rw[AN,gm]at dS;unfold kh at dS;rw[HINP.o,az [] Wy,show p.t.n.toNat=n by have:=HN.o;omega]at dS
     have JD:(stP p (c * nw+j)).2.length<=1000:=by
      have h1:=sI p (aP p) ((fh p).take (c * nw+j)) ([],[]);have h2:(stP p (c * nw+j)).2.length=0+((fh p).take (c * nw+j)).length:=h1;rw[h2,List.length_take];omega
     generalize stP p (c * nw+j)=st at gV mZ y9 dS hg JA JD;generalize (aP p)[j]=word at qB qC LG dS
     have S8:stP p (c * nw+j+1)=((btT n inp word st.1 (K+1)).1,st.2++[⟨c,word,(btT n inp word st.1 (K+1)).2⟩]):=by
      rw[dS];unfold gu;rw[LG.1];rfl
     obtain⟨tb,exs⟩:=st;have hexl:exs.length<=1000:=JD;dsimp only at gV mZ y9 S8 hg JA
     have hsm2:tb.length<=7000:=by
      have:(c * nw+j) * 35<=200 * 35:=Nat.mul_le_mul_right 35 (by omega);omega
     have NH:am (stP p (c * nw+(j+1))=((btT n inp word tb (K+1)).1,exs++[⟨c,word,(btT n inp word tb (K+1)).2⟩])):=aa S8;have JO:=aa (Wc n jz inp jf.o word tb hg (by omega));have tk:=aa (VD n inp word tb);have FX:=aa (R8 n inp word tb);have Ju:=aa (Wd n jz inp jf.o word);have uS:=aa (VC n inp word);have iO:=aa (rC qC (fun i hi=>(LG.2 _ (List.getElem_mem hi)).2) (by omega));obtain⟨pxw,cxw,rfl,_⟩:=iO.o.at;rw[LG.1]at uW;have yK:=aa LG;have HOX:=aa qB;have hI0k:=hI.keep;obtain⟨ave,cve,rfl⟩:=mZ.slice;have HI:=aa hI;have oV:=aa mZ;have CW:=aa y9;have hA:=hI.keep.keep _ _ _ _ TG.o (by decide);have HAE:=aa hA;have HBWE:=aa (eV.o.trans (hI.keep.old.mono (by omega)));have PY:=aa fT;have Qb:=aa gV;have hs3b:=aC fT;have HCW:=aa uW;have HXJ:=aa Lx;have HOWB:=aa (hI0k.own rH.o (by decide));have HHOW:=aa qC;obtain⟨wrB,hwB⟩:∃ x,x=wr:=⟨_,rfl⟩;subst hwB;clear hI hI0k Lx fT gV mZ y9 dS S8 hg qB qC LG hA AN gm JA
     go_wp2_with fail
     have AB:Below wrB.heap.size wrB (wrB.alloc (.cells #[.int .i64 c,.slice pxw K cxw,.slice none 0 0] 89)):=by go_grown
     refine bF (fun W=>BtK p n K (.slice (some ⟨bc,oc,none⟩) nc cc) (.slice ps ns cs) (.slice ave exs.length cve) (.slice pxw K cxw) w wrB c (btT n inp word tb 0) W) ⟨(KeepT.refl _ _ _).up AB (by omega),⟨vt,af AB PY.o,Qb.o.up AB⟩,.slice none 0 0,ap _ _,cB.nil _ _⟩ (fun W9 hW9=>?_);have sS:=aa hW9;clear hW9 AB
     go_loopw [8] (fun i wr=>∃ k:Nat,k<=K+1/\i=.int .i64 k/\BtK p n K (.slice (some ⟨bc,oc,none⟩) nc cc) (.slice ps ns cs) (.slice ave exs.length cve) (.slice pxw K cxw) w wrB c (btT n inp word tb k) wr) (fun i _=>K+1 - (intOf i).toNat)
     ·exact⟨0,by omega,rfl,sS.o⟩
     ·
      clear sS;obtain⟨k,hk,rfl,hK⟩:=hrel;have T3:=aa hK;have hszk:=hK.keep.old.size;have hA:=hK.keep.keep _ _ _ _ HAE.o (by decide);have HAK:=aa hA;have tA:=ab hA;have Dw:=aa (HBWE.o.trans (hK.keep.old.mono (by omega)));obtain⟨vtk,ka,mg⟩:=hK.sys;obtain⟨vv,im,P8⟩:=hK.ex;have hszx:=aC im;obtain⟨ys,jx,iK⟩:=P8;obtain⟨pvv,cvv,rfl⟩:=jx.slice;have vu:=aa ka;have jR:=aa mg;have JC:=aa im;have rG:=aa jx;have vz:=aa iK;clear hK hA ka mg im jx iK;by_cases mf:k<=K
      ·have hd:decide ((k:Int)<=(K:Int))=true:=decide_eq_true (by omega);obtain⟨wrC,hwC⟩:∃ x,x=wr:=⟨_,rfl⟩;subst hwC
       go_wp2_with fail
       clear tA hd;have CS:=tk.o k;obtain⟨Ny,S3,M7⟩:=CS;have h7n:n * k<=5 * 7:=Nat.mul_le_mul jz (by omega);obtain⟨M4,IP⟩:=JO.o k (by omega)
       have pL:∀ z∈(btT n inp word tb k).2.getLastD [],0<=z/\z<=(100000:Int):=fun z hz=>by
        rcases List.eq_nil_or_concat (btT n inp word tb k).2 with h|⟨l',a,h⟩
        ·rw[h]at hz;simp at hz
        ·rw[h,List.concat_eq_append,List.getLastD_concat]at hz;exact IP a (by rw[h];simp) z hz
       have vp:=Ju.o k (by omega) _ pL;have wY:=uS.o k ((btT n inp word tb k).2.getLastD []);have IY:=FX.o k;have FJ:am (∀ q (hq:q<(btV n inp word k ((btT n inp word tb k).2.getLastD [])).length),(btV n inp word k ((btT n inp word tb k).2.getLastD []))[q]=if k=0 then eA inp q else nextV n (k - 1) (word.getD (k - 1) default) ((btT n inp word tb k).2.getLastD []) q):=aa fun q hq=>by simp[btV]
       generalize btT n inp word tb k=st at Ny S3 M7 M4 IP pL vp wY IY jR rG vz JC FJ;generalize btV n inp word k (st.2.getLastD [])=vs at vp wY IY FJ;obtain⟨tbk,views⟩:=st;dsimp only at Ny S3 M7 M4 IP pL IY jR rG vz JC FJ;have HQI:=aa (fun q=>We tbk vs vp M4 (by omega) q);have Uo:=aa (R' tbk vs);have vI:=aa (VF tbk vs);have sd:am (qh tbk vs n=addAll tbk vs):=aa (by rw[<-wY];exact VE tbk vs);have LK:am (BtQ p n K (.slice (some ⟨bc,oc,none⟩) nc cc) (.slice ps ns cs) (.slice ave exs.length cve) w wrC (qh tbk vs 0) 0 (.slice none 0 0) wrC):=aa ⟨KeepT.refl _ _ _,⟨vtk,vu.o,jR.o⟩,aJ.nil _ _ _ _⟩;have IR:=aa wY;have HROWS:=aa M7;have M8:=aa Ny;have HTSS:=aa IY;have HTI2:=aa IP;clear pL vp wY IY M7 Ny M4 IP S3 h7n
       go_loopw [9,10] (fun l i wr=>∃ q:Nat,q<=n/\i=.int .i64 q/\BtQ p n K (.slice (some ⟨bc,oc,none⟩) nc cc) (.slice ps ns cs) (.slice ave exs.length cve) w wrC (qh tbk vs q) q l wr) (fun _ i _=>n - (intOf i).toNat)
       ·exact⟨0,by omega,rfl,LK.o⟩
       ·
        clear LK;obtain⟨q,hq,rfl,hQ⟩:=hrel;have HQ:=aa hQ;have hszq:=hQ.keep.old.size;have hA:=hQ.keep.keep _ _ _ _ HAK.o (by decide);have HAQ:=aa hA;have ff:=aa (Dw.o.trans (hQ.keep.old.mono (by omega)));have tA:=ab hA;obtain⟨al,cl,rfl⟩:=hQ.row.slice;clear hQ hA;by_cases AQ:q<n
        ·obtain⟨bi,oi,rfl,IW⟩:=HEI.o q (by rw[Qn.o];exact AQ);have tc:=ak ff.o nh.o;have ti:=ak ff.o IW;have HQLL:=vI.o q (by rw[IR.o];omega);have gX:=Qn.o;have HILQ:am (q<inp.length):=aa (by rw[gX];exact AQ);rw[gX]at tc;have JM:am (eA inp q=⟨q,0,inp.getD q 0,-1,-1,-1,-1,-1⟩):=aa rfl;generalize inp.getD q 0=xq at ti JM;clear IW gX;obtain⟨wrD,hwD⟩:∃ x,x=wr:=⟨_,rfl⟩;subst hwD
         go_wp2_with fail
         refine(Ki q xq wrD).mono ?_;rintro r w5 ⟨rfl,dB⟩;have Qt:=aa (HQ.o.up dB (by omega));have kL:=aa (ae ff.o dB);have XS:=FJ.o q (by rw[IR.o];exact AQ);have dK:=Uo.o q (by rw[IR.o];exact AQ);obtain⟨vq,hvqe⟩:∃ v,v=vs[q]'(by rw[IR.o];exact AQ):=⟨_,rfl⟩;rw[<-hvqe]at XS dK;have Uu:=aa XS;have yI:=aa dK;obtain⟨st1,Sc⟩:∃ x,x=qh tbk vs q:=⟨_,rfl⟩;rw[<-Sc]at Qt yI HQLL;have Sd:=aa (HQI.o q);rw[<-Sc]at Sd;have hsz5:=dB.size;clear tA tc ti dB HQ XS dK hvqe Sc;have K8:∀ o,Below w5.heap.size w5 (w5.alloc o):=fun o=>by go_grown
         obtain⟨vt5,JP,Ga⟩:=Qt.o.sys;obtain⟨at5,ct5,rfl⟩:=Ga.slice;have Dg:=aa JP;have LE:=aa Ga;have hrw5:=Qt.o.row;have SN:=aa hrw5;clear JP Ga hrw5;by_cases eX:k=0
         case' pos=>
          have hd:decide ((0:Int)<(k:Int))=false:=decide_eq_false (by omega);have hd':decide (0<k)=false:=decide_eq_false (by omega);have hv:=Uu.o;rw[if_pos eX]at hv;clear eX;rw[JM.o]at hv;have Aw:=aa hv;have t3:=fun o=>ab (af (K8 o) Dg.o)
          have tv:=ab (ap w5 (.cells #[.int .i64 q,.int .i64 0,.int .i64 xq,.int .i64 (-1),.int .i64 (-1),.int .i64 (-1),.int .i64 (-1),.int .i64 (-1)] 190));clear hv Uu
          go_wp2_with fail
          clear t3 tv;refine aQ (fun W=>BtP p n K (.slice (some ⟨bc,oc,none⟩) nc cc) (.slice ps ns cs) (.slice ave exs.length cve) (.slice at5 st1.1.length ct5) w wrC st1 (.slice al q cl) q w5.heap.size vq W) ⟨Qt.o.keep.up (K8 _) (by omega),af (K8 _) Dg.o,LE.o.up (K8 _),SN.o.up (K8 _),by rw[Aw.o];exact ap _ _⟩ ?_;rw[show (Value.agg #[.int .i64 q,.int .i64 0,.int .i64 xq,.int .i64 (-1),.int .i64 (-1),.int .i64 (-1),.int .i64 (-1),.int .i64 (-1)])=vq.v by rw[Aw.o]]
         case' neg=>
          have hd:decide ((0:Int)<(k:Int))=true:=decide_eq_true (by omega);have hd':decide (0<k)=true:=decide_eq_true (by omega);obtain⟨k',sZ⟩:∃ k',k=k'+1:=⟨k - 1,by omega⟩;have hv:=Uu.o;rw[if_neg eX,sZ,Nat.add_sub_cancel]at hv;have P4:=aa sZ;have hkl2:k'<k:=by omega
          have hkl0:k'<K:=by omega
          have hkm:(k:Int) - 1=(k':Int):=by omega
          clear sZ;have zg:k'<word.length:=by rw[yK.o.1];have:=P4.o;omega
          rw[az default zg]at hv;have Lv:=yK.o.2 _ (List.getElem_mem zg);have K4:k'<views.length:=by have:=M8.o;have:=P4.o;omega
          have zI:views.getLastD []=views[k']:=by
           have:views.length=k'+1:=by have:=M8.o;have:=P4.o;omega
           rw[List.getLastD_eq_getLast?,List.getLast?_eq_getElem?,this,Nat.add_sub_cancel,List.getElem?_eq_getElem K4];rfl
          obtain⟨xv,AG,JE⟩:=vz.o k' K4;rw[zI]at hv;have WL:=HROWS.o _ (List.getElem_mem K4);have Sk:=HTI2.o _ (List.getElem_mem K4);have t3:=fun o=>ab (af (K8 o) Dg.o)
          go_wp2_with fail
          refine bF (fun W=>Below w5.heap.size w5 W/\W.heap[w5.heap.size]?=some (.cells #[.int .i64 q,.int .i64 0,.int .i64 xq,.int .i64 (-1),.int .i64 (-1),.int .i64 (-1),.int .i64 (-1),.int .i64 (-1)] 190)) ⟨by go_grown,ap _ _⟩ (fun W5 hW5=>?_);have kC:=Qt.o.keep.up hW5.1 (by omega);have kB:=T3.o.keep.trans kC;obtain⟨g9,c9,e9,tcw⟩:=(kB.own HOWB.o (by decide)).cell j _ HXJ.o;injection e9 with e91 e92 e93
          injection e91 with e91
          injection e91 with e91
          subst e91;have how5:=rC (kB.own HHOW.o (by decide)) (fun i hi=>(yK.o.2 _ (List.getElem_mem hi)).2) (by omega);obtain⟨pw8,cw8,ew8,_,_,ew9⟩:=how5.at;injection ew8 with ew81 ew82 ew83
          obtain⟨bw,ow,ew,⟨d0,_⟩,⟨d1,_⟩,⟨d2,_⟩,⟨d3,_⟩,⟨d4,_⟩,⟨d5,_⟩,⟨d6,_⟩⟩:=ew9 k' zg;obtain⟨pxv,cxv,exv⟩:=JE.slice;have IW:=gI (kC.own JE (by decide)) (fun z hz=>by have:=Sk z hz;exact⟨by omega,by omega⟩) (by omega);obtain⟨gv,cv1,ev1,hcv⟩:=(kC.own rG.o (by decide)).cell k' xv AG;injection ev1 with ev11 ev12 ev13
          have tX:=ab (kC.keep _ _ _ _ JC.o (by decide));clear how5 ew9;generalize word[k']=rd at hv d0 d1 d2 d3 d4 d5 d6 Lv;generalize views[k']=row at hv IW WL exv Sk;rw[WL]at exv;rw[exv]at hcv IW;obtain⟨⟨hgn,hhe,_,_,_⟩,_⟩:=Lv
          have hvs:vq=seenV n k rd.g row q:=by
           rw[hv,P4.o];simp[nextV,seenV,lY,seenH]
          have Np:=aa (fun W (hb:Below W5.heap.size W5 W)=>Mx rd.g k q n hgn jz (by omega) (hhe q (by omega)) _ row (by omega) W (IW.up up_int hb));rw[<-hvs]at Np;have HKC:=aa kC;have F1:=aa hW5.2;have Qp:=aa (af hW5.1 Dg.o);have HT5:=aa (LE.o.up hW5.1);have xl:=aa (SN.o.up hW5.1);have hsz55:=aC hW5.2;subst ew;subst ew81;subst ev11;rw[yK.o.1]at ew82;rw[yK.o.1]at tcw;have hwk:IntKind.i64.wrap (k':Int)=(k':Int):=IntWalk.i64_in _ (by omega);clear WL hgn hv Sk IW kC kB JE exv AG zI hvs hW5 ew82 ew83 ev12 ev13 e92 e93 Uu JM t3
          go_still_tail 17,(by kernel_rfl)
          go_wp2_with fail
          refine aQ (fun W=>Below W5.heap.size W5 W) (Below.drew (Below.refl _ _)) (fun W6 uU=>?_);refine(Np.o W6 uU).mono ?_;rintro r w6 ⟨rfl,ip⟩;have pM:=ae uU ip;have Xz:=aa (af pM F1.o)
          have CC:am (BtP p n K (.slice (some ⟨bc,oc,none⟩) nc cc) (.slice ps ns cs) (.slice ave exs.length cve) (.slice at5 st1.1.length ct5) w wrC st1 (.slice al q cl) q w5.heap.size vq (w6.setRow w5.heap.size vq.c)):=aa (by
           have bR:∀ k,k≠w5.heap.size->(w6.setRow w5.heap.size vq.c).heap[k]?=w6.heap[k]?:=fun k hk=>setRow_other _ _ _ _ hk
           have Lu:=HKC.o.up pM (by omega)
           refine⟨⟨below_setRow Lu.old (by omega) _,fun k c t f h1 h2=>(bR k (by have:=aC h1;omega)).trans (Lu.keep k c t f h1 h2),fun k o h1 h2 h3=>(bR k (by have:=aC h1;omega)).trans (Lu.oth k o h1 h2 h3)⟩,(bR _ (by omega)).trans (af pM Qp.o),(HT5.o.up pM).keep (fun g o hg ho=>(bR g (fun e=>by have:=(LE.o.lt g hg).2;omega)).trans ho),(xl.o.up pM).keep (fun g o hg ho=>(bR g (fun e=>(xl.o.up pM).ne Xz.o (by decide) g hg e)).trans ho),setRow_heap _ _ _ _ _ _ Xz.o⟩)
          clear uU ip pM d0 d1 d2 d3 d4 d5 d6 tX tcw hcv hkm hwk Np F1 Qp HT5 xl
          go_wp2_with (refine wpList_store_row rfl 190 (.tmp 11) (.tmp 89) rfl w5.heap.size vq.c rfl rfl 190 _ Xz.o (by kernel_rfl) rfl (by simp[Value.oneCell']) ?_;have t3:=ab CC.o.sys;have tv:=ab CC.o.v)
          clear t3 tv;refine aQ (fun W=>BtP p n K (.slice (some ⟨bc,oc,none⟩) nc cc) (.slice ps ns cs) (.slice ave exs.length cve) (.slice at5 st1.1.length ct5) w wrC st1 (.slice al q cl) q w5.heap.size vq W) CC.o ?_;rw[show (Value.agg #[.int .i64 vq.p,.int .i64 vq.k,.int .i64 vq.i,.int .i64 vq.h0,.int .i64 vq.h1,.int .i64 vq.h2,.int .i64 vq.h3,.int .i64 vq.h4])=vq.v from rfl]
         all_goals
          intro W6 uU;have Ld:=aa uU;clear uU;refine(RJ n st1.1 _ vq (w.heap.size+1+1) W6 (by have:=Ld.o.keep.old.size;omega) Ld.o.tab Sd.o.1 (by have:=Sd.o.2.2;omega)).mono ?_;rintro r w7 ⟨⟨u7,rfl,TT⟩,vE⟩;obtain⟨a7,c7,rfl⟩:=TT.slice;generalize putV st1.1 vq=pv at TT yI ⊢;have Wi:=Ld.o.keep.up vE (by omega);have xg:=af vE Ld.o.sys;have XK:=Ld.o.row.up vE;have hsz7:=Wi.old.size;have hg7:∀ o,Below w7.heap.size w7 (w7.alloc o):=fun o=>by go_grown
          have h3lt:=aC xg;have t3:=fun o=>ab (af (hg7 o) xg)
          have z3:=fun o=>aH (af (hg7 o) xg)
          have t3a:=ab xg;have z3a:=aH xg;obtain⟨o7,ho7⟩:∃ o:Obj,o=.cells #[.int .i64 n,.slice a7 pv.1.length c7] 32:=⟨_,rfl⟩;obtain⟨W8,lz⟩:∃ W8,W8=((w7.setCell ⟨w.heap.size+1+1,7,none⟩ (.int .i64 n)).setCell ⟨w.heap.size+1+1,8,none⟩ (.slice a7 pv.1.length c7)).alloc o7:=⟨_,rfl⟩
          have hs8:W8.heap[w.heap.size+1+1]?=some (.cells (Fs p n K (.slice (some ⟨bc,oc,none⟩) nc cc) (.slice ps ns cs) (.slice a7 pv.1.length c7) (.slice ave exs.length cve)) 35):=by
           rw[lz];refine aq _ ?_;rw[aI (aI xg _ _) _ _];rfl
          have hk8:KeepT [35] [] (w.heap.size+1+1) wrC W8:=by
           rw[lz];have h2:=Wi.set (o:=7) xg (by simp) (by omega) (.int .i64 n);have h3:=h2.set (o:=8) (aI xg _ _) (by simp) (by omega) (.slice a7 pv.1.length c7);exact h3.up (by go_grown) (by omega)
          have SQ:∀ {b:Nat} {e:TypeId} {k m:Nat} {v:Value} {l:List Value},aJ w7 b e k v m l->e≠35->aJ W8 b e k v m l:=fun {b e k m v l} h bR=>by
           rw[lz];exact((h.put (h.ne xg bR) _ _).put (h.ne xg bR) _ _).up (by go_grown)
          have hr8:=SQ XK (by decide);have hu8:=SQ TT (by decide);have hsz8:w7.heap.size<W8.heap.size:=by rw[lz];simp
          have PT:=aa hs8;have HK8:=aa hk8;have HU8:=aa hu8;have LC:Below W8.heap.size W8 (W8.alloc (.cells #[.int .i64 pv.2] 3)):=by go_grown
          have NQ:=aa (hr8.up LC);have HG8:=aa LC;have bT:=dU W8 [.int .i64 pv.2] 3;rw[show W8.heap.size=w7.heap.size+1 by rw[lz];simp]at bT;have bE:=aa bT;have j9:am (q+1<=maxLen):=aa (by unfold maxLen;omega);have rQ:am ((q+1) * 8<=140737488355328):=aa (by omega);have gC:am (wrC.heap.size<=(W8.alloc (.cells #[.int .i64 pv.2] 3)).heap.size):=aa (by simp;omega);subst lz;subst ho7;clear TT Wi xg XK hs8 hk8 SQ hr8 hu8 LC vE bT Dg LE SN Ld
          go_wp2_with (at_builtin;go_loud (refine bh _ rfl (.tmp 99) (.tmp 101) 38 rfl wrC.heap.size 3 i0 _ 1 8 Tryz.underlying38 cG.o.1 cG.o.2.1 cG.o.2.2.1 cG.o.2.2.2 rfl (by decide) _ q _ rfl NQ.o ⟨w7.heap.size+1,0,none⟩ 1 1 [.int .i64 pv.2] rfl rfl bE.o (by simp[Value.oneCell']) j9.o rQ.o gC.o ?_;intro v9 w9 go eB _))
          go_roundw
          ·
           refine⟨q+1,by omega,by go_num,?_⟩;rw[yI.o];have LC:Below _ _ (_:World):=HG8.o;refine⟨(HK8.o.up LC (by omega)).grownNew (by omega) (fun g hg=>(NQ.o.lt g hg).1) eB,⟨_,ig NQ.o eB PT.o (by decide),(HU8.o.up LC).apart NQ.o (by decide) eB⟩,?_⟩;rw[List.map_append];exact go
          ·simp[intOf];omega
        ·have hqe:q=n:=by omega
         subst hqe;have hx:=HQ.o.keep.keep _ _ _ _ JC.o (by decide);have tx:=ab hx;have ml:Below wr.heap.size wr (wr.alloc (.cells #[.slice al q cl] 38)):=by go_grown
         have yY:=aa hx;have QI:=aa ml;have rU:=aa ((HQ.o.keep.own rG.o (by decide)).up ml);have bE:=aa (dU wr [.slice al q cl] 38);have j9:am (views.length+1<=maxLen):=aa (by have:=M8.o;unfold maxLen;omega);have rQ:am ((views.length+1) * 24<=140737488355328):=aa (by have:=M8.o;omega);have gC:am (wrB.heap.size<=(wr.alloc (.cells #[.slice al q cl] 38)).heap.size):=aa (by simp;omega);have CN:=vI.o q (by rw[IR.o];omega);clear hx ml
         go_wp2_with (at_builtin;(refine bh _ rfl (.tmp 104) (.tmp 106) 56 rfl wrB.heap.size 38 i1 _ 1 24 Tryz.underlying56 tJ.o.1 tJ.o.2.1 tJ.o.2.2.1 tJ.o.2.2.2 rfl (by decide) _ views.length _ rfl rU.o ⟨wr.heap.size,0,none⟩ 1 1 [.slice al q cl] rfl rfl bE.o (by simp[Value.oneCell']) j9.o rQ.o gC.o ?_;intro v9 w9 go eB _;obtain⟨av9,cv9,rfl⟩:=go.slice;have Da:=ig rU.o eB yY.o (by decide);have c9:=ab Da;have f9:=aH Da))
         go_roundw
         ·
          refine⟨k+1,by omega,by go_num,?_⟩;rw[HTSS.o];have hq9:=HQ.o;rw[sd.o]at hq9 CN;exact BtK.next T3.o.keep hq9 yY.o (HQ.o.keep.own rG.o (by decide)) (fun i hi=>by obtain⟨x,q1,q2⟩:=vz.o i hi;exact⟨x,q1,HQ.o.keep.own q2 (by decide)⟩) CN (by omega) eB go
         ·simp[intOf];omega
      ·obtain rfl:k=K+1:=by omega
       have hd:decide (((K+1:Nat):Int)<=(K:Int))=false:=decide_eq_false (by omega);have gm:decide ((K:Int)+1<=(K:Int))=false:=decide_eq_false (by omega);have tS:=ab vu.o;have tx:=ab JC.o;have HLV:=aa (tk.o (K+1)).1;generalize btT n inp word tb (K+1)=st at NH jR JC rG vz tx HLV ⊢;obtain⟨tbk,views⟩:=st;dsimp only at NH jR JC rG vz tx HLV;have ml:Below wr.heap.size wr (wr.alloc (.cells #[.int .i64 c,.slice pxw K cxw,.slice pvv views.length cvv] 89)):=by go_grown
       have QI:=aa ml;have rU:=aa ((T3.o.keep.own oV.o (by decide)).up ml);have bE:=aa (dU wr [.int .i64 c,.slice pxw K cxw,.slice pvv views.length cvv] 89);have j9:am (exs.length+1<=maxLen):=aa (by unfold maxLen;omega);have rQ:am ((exs.length+1) * 56<=140737488355328):=aa (by omega);have gC:am (w.heap.size+1+1<=(wr.alloc (.cells #[.int .i64 c,.slice pxw K cxw,.slice pvv views.length cvv] 89)).heap.size):=aa (by simp;omega);clear ml
       go_wp2_with (at_builtin;(refine bh _ rfl (.tmp 110) (.tmp 112) 33 rfl (w.heap.size+1+1) 89 i2 _ 3 56 Tryz.underlying33 Ub.o.1 Ub.o.2.1 Ub.o.2.2.1 Ub.o.2.2.2 rfl (by decide) _ exs.length _ rfl rU.o ⟨wr.heap.size,0,none⟩ 1 1 [.int .i64 c,.slice pxw K cxw,.slice pvv views.length cvv] rfl rfl bE.o (by simp[Value.oneCell']) j9.o rQ.o gC.o ?_;intro v9 w9 go eB _;obtain⟨av9,cv9,rfl⟩:=go.slice;have rT:=ig rU.o eB vu.o (by decide);have c9:=ab rT;have f9:=aH rT))
       go_roundw
       ·
        refine⟨j+1,by omega,by go_num,?_⟩;rw[NH.o];have Wk:=HHOW.o.base (show w.heap.size+1+1<=W0.heap.size by omega);rw[yK.o.1]at Wk;have qR:cT wr (w.heap.size+1+1) (.slice pvv views.length cvv) views:=Cj (show cT wr wrB.heap.size (.slice pvv views.length cvv) views from⟨ys,rG.o,vz.o⟩) (by omega);exact BtI.next HI.o.keep T3.o.keep vu.o jR.o oV.o CW.o Wk yK.o.1 qR (by omega) eB go
       ·simp[intOf];omega
    ·obtain rfl:j=nw:=by omega
     have HI:=aa hI;clear hI
     go_wp2_with fail
     go_roundw
     ·exact⟨c+1,by omega,by go_num,by rw[Nat.succ_mul];exact HI.o⟩
     ·simp[intOf];omega
  ·have hce:c=nc:=by omega
   subst hce;have wZ:=HI.o;rw[jk.o]at wZ;obtain⟨vt,ve,xs,h1,h2,h3,h4⟩:=wZ.sys;have hr:=(wZ.keep.old.block (w.heap.size+1) (by omega)).trans oQ.o;have P4:=aa wZ.keep;obtain⟨avt,cvt,rfl⟩:=h2.slice;obtain⟨ave,cve,rfl⟩:=h3.slice;have H2:=aa h2;have H3:=aa h3;have H4:=aa h4;have tS:=ab h1;have Lf:=aa hr;have JA:=mo.o (c * nw) (Nat.le_refl _);have lB:=zG.o (c * nw) (Nat.le_refl _);rw[jk.o]at JA lB;dsimp only at JA lB;have HSMM:=aa (show (aN p).tab.length<=17592186044416 by omega);have TF:=aa lB
   have C8:am ((aN p).ex.length<=17592186044416):=aa (by
    have h1:=sI p (aP p) (fh p) ([],[]);have h2:(aN p).ex.length=0+(fh p).length:=h1;rw[h2,iD,Dj.o,FW.o]
    omega)
   clear wZ h1 h2 h3 h4 hr JA lB
   go_wp2_with (refine wpList_store_row rfl 35 (.tmp 2) (.tmp 115) rfl (w.heap.size+1) (Fs p n K (.slice pc c cc) (.slice ps ns cs) (.slice avt (aN p).tab.length cvt) (.slice ave (aN p).ex.length cve)) rfl rfl 35 _ Lf.o (by kernel_rfl) rfl (by simp[Value.oneCell']) ?_)
   refine bodyPost_ret (Gz _ (w.heap.size+1) _ _ _ _ _ _ _ _ _ _ _ rfl (setRow_heap _ _ _ _ _ _ Lf.o)) rfl ⟨.slice avt (aN p).tab.length cvt,.slice ave (aN p).ex.length cve,?_,⟨⟨_,_,rfl⟩,_,_,rfl⟩,?_,below_setRow eN.o (by omega) _⟩
   ·rw[<-j8.o,<-HN.o]
   ·intro Wf JR h1 h2;exact Wg h1 h2 H2.o H3.o H4.o (fun k hk mg=>(JR k (by omega) (Nat.lt_of_lt_of_le mg (below_setRow (Below.refl (w.heap.size+1) wr) (Nat.le_refl _) (Fs p n K (.slice pc c cc) (.slice ps ns cs) (.slice avt (aN p).tab.length cvt) (.slice ave (aN p).ex.length cve))).size)).trans (setRow_other _ _ _ _ (by omega))) TF.o HSMM.o C8.o
end Go.Proofs.YtmeaoneaephjeaaGreatDoor
