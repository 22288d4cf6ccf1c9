/-
  A part of the proof: lemmas and contracts that the parts behind it use. Each one's conditions are its own premises.
-/
import Derived.Lib.MinMax
import Derived.Laws.Tables
import Derived.Laws.CopyOwn
import Derived.Test.YtmeaoneaephjeaaGreatDoorS6
set_option maxRecDepth 100000
set_option maxHeartbeats 8000000
set_option linter.unusedVariables false
set_option linter.unusedSimpArgs false
namespace Go.Proofs.YtmeaoneaephjeaaGreatDoor
open Go.RowKit Go Go.Shelf
attribute [local go_sem] Oper.semAt_some
theorem Pe(x:Nat) (hx:x<256) (dp:x≠0) (w:World) (hT:iA w) :
  Calls Tryz.prog 178 #[.int .u64 x] w fun e w'=>e=.returned (.int .i64 (Lib.ctz 64 x))/\w=w':=by
 obtain⟨Na,hk⟩:=Lib.lowest_bit 64 x dp (by omega);obtain⟨hi,yw⟩:=Lib.deBruijn64_at _ hk;have eM:=hT _ hi;rw[yw]at eM;exact UV x _ _ w (by simp;omega) (tz64_key x _ (by omega) dp Na) hi hk eM
theorem U8(x:Nat) (hx:x<256) (dp:x≠0) (w:World) (hT:iA w) :
  Calls Tryz.prog 133 #[.int .u64 x] w fun e w'=>e=.returned (.int .i64 (Lib.ctz 64 x))/\w=w':=by
 have HC:=aa (Pe x hx dp w hT);clear hT
 go_enter Tryz.func133,Tryz.ntmps133
 go_wp2_with fail
 refine HC.o.mono ?_;rintro e w' ⟨rfl,rfl⟩
 go_wp2_with fail
 go_ret
 exact⟨rfl,rfl⟩
theorem ctz_first:∀ x,x<256->x≠0->((Lib.ctz 64 x:Nat):Int)=firstIx 8 fun i=>x.testBit i:=by decide +kernel
theorem Cf(q:Nat->Bool) (w:World) (hT:iA w) :
  Calls Tryz.prog 83 #[.int .i64 (maskN q 8:Nat)] w fun e w'=>e=.returned (.int .i64 (firstIx 8 q))/\w=w':=by
 have aB:maskN q 8<256:=ic q 8;have HZ:am (maskN q 8=0->firstIx 8 q=-1):=aa fun h=>dA _ _ ((fO _ _).1 ((nE q 8).1 h))
 have HN:am (maskN q 8≠0->((Lib.ctz 64 (maskN q 8):Nat):Int)=firstIx 8 q):=aa fun h=>by
  rw[ctz_first _ aB h];refine mq _ _ _ fun j hj=>?_
  rw[dX,decide_eq_true hj,Bool.true_and]
 have HC:=aa (fun h=>U8 (maskN q 8) aB h w hT);generalize maskN q 8=x at *;clear hT;by_cases h0:x=0
 ·have HR:=aa (HZ.o h0);have hd:((x:Int) == 0)=true:=by simp[h0]
  clear h0
  go_enter Tryz.func83,Tryz.ntmps83
  go_wp2_with fail
  go_ret
  exact⟨aG (by rw[HR.o]),rfl⟩
 ·have HR:=aa (HN.o h0);have tI:=aa (HC.o h0);have hd:((x:Int) == 0)=false:=by simp;omega
  have hw:IntKind.u64.wrap (x:Int)=x:=by simp[IntKind.wrap,IntKind.bits];omega
  clear h0
  go_enter Tryz.func83,Tryz.ntmps83
  go_wp2_with fail
  refine tI.o.mono ?_;rintro e w' ⟨rfl,rfl⟩
  go_wp2_with fail
  go_ret
  exact⟨aG (by rw[HR.o]),rfl⟩
def maxTo(l:List Int):Nat->Int
 | 0=>l.getD 0 0
 | k+1=>max (maxTo l k) (l.getD (k+1) 0)
theorem Ii(l:List Int):∀ k i,i<=k->l.getD i 0<=maxTo l k
 | 0,i,h=>by
  obtain rfl:i=0:=by omega
  exact Int.le_refl _
 | k+1,i,h=>by
  rw[maxTo];by_cases e:i=k+1
  ·subst e;omega
  ·have:=Ii l k i (by omega);omega
theorem Bg(l:List Int):∀ k,∃ i,i<=k/\maxTo l k=l.getD i 0
 | 0=>⟨0,Nat.le_refl _,rfl⟩
 | k+1=>by
  obtain⟨i,hi,e⟩:=Bg l k;rw[maxTo];by_cases h:maxTo l k<=l.getD (k+1) 0
  ·exact⟨k+1,Nat.le_refl _,by omega⟩
  ·exact⟨i,by omega,by omega⟩
theorem Gx(v:Value) (l:List Int) (w:World) (hv:aX w v l) (h0:0<l.length) :
  Calls Tryz.prog 82 #[v] w fun e w'=>e=.returned (.int .i64 (maxTo l (l.length - 1)))/\w=w':=by
 obtain⟨pa,ca,rfl,lt1,lt2,ea⟩:=hv.at;have EA:=aa ea;obtain⟨b0,o0,rfl,c0,-⟩:=ea 0 h0;rw[Nat.zero_mul,Nat.add_zero,<-az 0 h0]at c0;clear hv ea
 go_enter Tryz.func82,Tryz.ntmps82
 go_wp2_with fail
 clear c0
 go_loop [3,4] (fun m i=>∃ k:Nat,k<l.length/\i=.int .i64 ((k:Int)+1)/\m=.int .i64 (maxTo l k)) (fun _ i=>l.length+1 - (intOf i).toNat)
 ·exact⟨0,h0,rfl,rk (by rw[maxTo,az 0 h0])⟩
 ·
  obtain⟨k,hk,rfl,rfl⟩:=hrel;by_cases aB:k+1<l.length
  ·obtain⟨b1,o1,e1,c1,-⟩:=EA.o (k+1) aB;cases e1;rw[Nat.mul_one,<-az 0 aB]at c1;have c2:w.cell? ⟨b0,o0+(k+1),none⟩=some (.int .i64 (l.getD (k+1) 0)):=c1;have HM:am (maxTo l (k+1)=max (maxTo l k) (l.getD (k+1) 0)):=aa rfl;generalize l.getD (k+1) 0=x at c1 c2 HM;generalize maxTo l k=m at HM;have nZ:(k:Int)+1<(l.length:Int):=by omega
   go_wp2_with fail
   go_round
   ·exact⟨k+1,aB,by go_num,rk (by rw[HM.o])⟩
   ·simp[intOf];omega
  ·have nZ:¬ (k:Int)+1<(l.length:Int):=by omega
   have HK:am (l.length - 1=k):=aa (by omega)
   go_wp2_with fail
   go_ret
   exact⟨aG (by rw[HK.o]),rfl⟩
end Go.Proofs.YtmeaoneaephjeaaGreatDoor
namespace Go.Proofs.YtmeaoneaephjeaaGreatDoor
open Go.RowKit Go Go.Shelf
def jO(v:Vw):Prop:=bS v.p/\bS v.k/\bS v.i/\bS v.h0/\bS v.h1/\bS v.h2/\bS v.h3/\bS v.h4
theorem RD(B:Nat) (st:List Vw × List Int) (v:Vw) (hv:jO v) (h1:∀ u∈st.1,jO u) (h2:∀ z∈st.2,0<=z/\z<=B) (hl:st.1.length<=B):(∀ u∈(gY st v).1,jO u)/\∀ z∈(gY st v).2,0<=z/\z<=(B:Int):=by
 unfold gY;refine⟨fun u hu=>?_,fun z hz=>?_⟩
 ·unfold putV at hu;dsimp only at hu;split at hu
  ·exact h1 u hu
  ·rcases List.mem_append.1 hu with h|h
   ·exact h1 u h
   ·rw[List.mem_singleton]at h;subst h;exact hv
 ·rcases List.mem_append.1 hz with h|h
  ·exact h2 z h
  ·rw[List.mem_singleton]at h;subst h;have:=UX st.1 v;omega
theorem xY(B:Nat) (vs:List Vw):∀ st:List Vw × List Int,(∀ v∈vs,jO v)->(∀ u∈st.1,jO u)->(∀ z∈st.2,0<=z/\z<=(B:Int))->st.1.length+vs.length<=B->(∀ u∈(vs.foldl gY st).1,jO u)/\∀ z∈(vs.foldl gY st).2,0<=z/\z<=(B:Int):=by
 induction vs with
 | nil=>intro st _ h1 h2 _;exact⟨h1,h2⟩
 | cons v r ih=>
  intro st hv h1 h2 hl;simp only[List.length_cons]at hl;have h3:=RD B st v (hv v (by simp)) h1 h2 (by omega);have h4:=(EK st v).2;exact ih _ (fun u hu=>hv u (by simp[hu])) h3.1 h3.2 (by omega)
theorem Pf(st:List Vw × List Int) (v:Vw):st.1.length<=(gY st v).1.length:=by
 unfold gY putV;dsimp only;split<;>simp
theorem Cg(vs:List Vw):∀ st:List Vw × List Int,st.1.length<=(vs.foldl gY st).1.length:=by
 induction vs with
 | nil=>intro st;exact Nat.le_refl _
 | cons v r ih=>intro st;exact Nat.le_trans (Pf st v) (ih _)
theorem Ch(n:Nat) (inp:List Int) (word:List Rd) (tb:List Vw):∀ k,tb.length<=(playTo n inp word tb k).1.length
 | 0=>Cg _ (tb,[])
 | k+1=>Nat.le_trans (Ch n inp word tb k) (Cg (fJ n k (word.getD k default) ((playTo n inp word tb k).2.getLastD [])) ((playTo n inp word tb k).1,[]))
theorem uN(k:Nat) (h:k<=1000000):bS (k:Int):=⟨by omega,by omega⟩
theorem xZ(n:Nat) (hn:n<=5) (inp:List Int) (hi:∀ x∈inp,bS x) (word:List Rd) (tb:List Vw) (ht:∀ v∈tb,jO v):∀ k,k<=6->tb.length+40<=100000->(∀ v∈(playTo n inp word tb k).1,jO v)/\∀ row∈(playTo n inp word tb k).2,∀ z∈row,0<=z/\z<=(100000:Int)
 | 0,_,hl=>by
  have h:=xY 100000 (gj inp n) (tb,[]) (fun v hv=>by
   obtain⟨p,hp,rfl⟩:=List.mem_map.1 hv;have hp:=List.mem_range.1 hp
   have hx:bS (inp.getD p 0):=by
    by_cases h:p<inp.length
    ·rw[az 0 h];exact hi _ (List.getElem_mem h)
    ·rw[List.getD_eq_getElem?_getD,List.getElem?_eq_none (by omega)];exact⟨by simp,by simp⟩
   exact⟨uN p (by omega),⟨by simp[eA],by simp[eA]⟩,hx,⟨by simp[eA],by simp[eA]⟩,⟨by simp[eA],by simp[eA]⟩,⟨by simp[eA],by simp[eA]⟩,⟨by simp[eA],by simp[eA]⟩,⟨by simp[eA],by simp[eA]⟩⟩) ht (fun z hz=>by simp at hz) (by simp;omega)
  exact⟨h.1,fun row hr z hz=>by
   have:row=(addAll tb (gj inp n)).2:=by simpa[playTo,uC] using hr
   subst this
   exact h.2 z hz⟩
 | k+1,hk,hl=>by
  obtain⟨h1,h2⟩:=xZ n hn inp hi word tb ht k (by omega) hl;have cP:=iB n inp word tb k;have h9:n * (k+1)<=5 * 7:=Nat.mul_le_mul hn (by omega);have e:(playTo n inp word tb (k+1)).2=(playTo n inp word tb k).2++[(addAll (playTo n inp word tb k).1 (fJ n k (word.getD k default) ((playTo n inp word tb k).2.getLastD []))).2]:=rfl
  have pL:∀ q,0<=((playTo n inp word tb k).2.getLastD []).getD q 0/\((playTo n inp word tb k).2.getLastD []).getD q 0<=(100000:Int):=fun q=>by
   have hm:(playTo n inp word tb k).2.getLastD []∈(playTo n inp word tb k).2:=by
    rcases List.eq_nil_or_concat (playTo n inp word tb k).2 with h|⟨l',a,h⟩
    ·rw[h]at cP;simp at cP
    ·rw[h,List.concat_eq_append,List.getLastD_concat];simp
   by_cases h:q<((playTo n inp word tb k).2.getLastD []).length
   ·rw[az 0 h];exact h2 _ hm _ (List.getElem_mem h)
   ·rw[List.getD_eq_getElem?_getD,List.getElem?_eq_none (by omega)];simp
  have e1:(playTo n inp word tb (k+1)).1=(addAll (playTo n inp word tb k).1 (fJ n k (word.getD k default) ((playTo n inp word tb k).2.getLastD []))).1:=rfl;rw[e,e1];generalize (playTo n inp word tb k).2.getLastD []=now at pL ⊢
  have hv:∀ v∈fJ n k (word.getD k default) now,jO v:=fun v hv=>by
   obtain⟨p,hp,rfl⟩:=List.mem_map.1 hv;have hp:=List.mem_range.1 hp
   have hh:∀ q,bS (lY n (word.getD k default) now p q):=fun q=>by
    unfold lY;have:=pL q;split
    ·exact⟨by omega,by omega⟩
    ·exact⟨by simp,by simp⟩
   exact⟨uN p (by omega),⟨by simp only[nextV];omega,by simp only[nextV];omega⟩,⟨by simp[nextV],by simp[nextV]⟩,hh 0,hh 1,hh 2,hh 3,hh 4⟩
  have h:=xY 100000 (fJ n k (word.getD k default) now) ((playTo n inp word tb k).1,[]) hv h1 (fun z hz=>by simp at hz) (by simp;omega);refine⟨h.1,fun row hr=>?_⟩
  ·rcases List.mem_append.1 hr with hr|hr
   ·exact h2 row hr
   ·rw[List.mem_singleton]at hr;subst hr;exact h.2
section
variable {P : Program} (w : World)
theorem Ij(base:Nat) (t ty e:TypeId) (i:TypeInfo) (z:Value) (size bytes:Nat) (ht:P.underlying t=some (.slice e)) (hi:P.info? e=some i) (hz:i.zero=some z)
  (fc:i.size=size) (gM:i.bytes=bytes) (nV:z.cells.size=size) (eQ:0<size)
  (v:Value) (n:Nat) (xs:List Value) (bg:aJ w base e size v n xs)
  (u:Value) (m:Nat) (news:List Value) (hu:mJ w size u m news)
  (oY:n+m<=maxLen) (gF:(n+m) * bytes<=140737488355328) (my:base<=w.heap.size) :
  ∃ v' w',(Builtin.append_ #[t,t] ty #[v,u]).run P w=.ok v' w'/\aJ w' base e size v' (n+m) (xs++news)/\w.grownBy w' v.ownBlock/\(v'.ownBlock=v.ownBlock\/v'.ownBlock=some w.heap.size):=by
 obtain⟨a,cap,rfl,jP,cP,hc,h1⟩:=hu;cases a with
 | some ad=>
  refine rB w base t ty e i z size bytes ht hi hz fc gM nV eQ v n xs bg ad m cap news cP (fun j u hj=>?_) h1 oY gF my;obtain⟨b,o,e1,eM⟩:=hc j u hj;cases e1;have:(Addr.add ⟨b,o,none⟩ j)=⟨b,o+j,none⟩:=by unfold Addr.add;split<;>simp_all
  rw[this];exact eM
 | none=>
  obtain⟨rfl,rfl⟩:=jP rfl;have hn:news=[]:=List.eq_nil_of_length_eq_zero (by simpa using cP);subst hn;refine⟨v,w,?_,by simpa using bg,⟨rfl,rfl,rfl,Nat.le_refl _,fun _ _ _=>rfl⟩,.inl rfl⟩;rcases bg.2 with ⟨rfl,rfl⟩|⟨g,cp,cur,fz,rfl,_,_,_,iL,_⟩
  ·simp[Builtin.append_,run_underlying ht,sizeOf,typeInfo,hi,Builtin.lenOf,Builtin.firstCells]
  ·simp[Builtin.append_,run_underlying ht,sizeOf,typeInfo,hi,Builtin.lenOf,Builtin.firstCells,iL,storeCells]
theorem kS{ops:Array Oper} {rest:List Oper} {o:Oper} {a:Act} {Q:Exit->Act->World->Prop} (lB:o.guard=none) (s x:Operand) (t:TypeId)
  (ho:o.op=.call { callee:=.builtin .append,args:=#[s,x],argTypes:=#[t,t] })
  (base:Nat) (e:TypeId) (i:TypeInfo) (z:Value) (size bytes:Nat) (ht:P.underlying t=some (.slice e)) (hi:P.info? e=some i) (hz:i.zero=some z)
  (fc:i.size=size) (gM:i.bytes=bytes) (nV:z.cells.size=size) (eQ:0<size)
  (v:Value) (n:Nat) (xs:List Value) (hs:a.eval s=v) (bg:aJ w base e size v n xs)
  (u:Value) (m:Nat) (news:List Value) (hx:a.eval x=u) (hu:mJ w size u m news)
  (oY:n+m<=maxLen) (gF:(n+m) * bytes<=140737488355328) (my:base<=w.heap.size)
  (h:∀ v' w',aJ w' base e size v' (n+m) (xs++news)->w.grownBy w' v.ownBlock->(v'.ownBlock=v.ownBlock\/v'.ownBlock=some w.heap.size)->wpList P ops Q rest (a.put o.dst v') w'):wpList P ops Q (o :: rest) a w:=by
 refine wpList_plain lB fun _ hK=>?_
 obtain⟨v',w',hr,h2,h3,h4⟩:=Ij (P:=P) w base t o.type e i z size bytes ht hi hz fc gM nV eQ v n xs bg u m news hu oY gF my;unfold Oper.wp execOp;simp only[ho,resolve,invoke,builtin,Sem.run_bind,Sem.run_pure,Result.andThen_ok,List.map_toArray,List.map_cons,List.map_nil,hs,hx,hr];exact hK _ _ (h v' w' h2 h3 h4)
end
end Go.Proofs.YtmeaoneaephjeaaGreatDoor
namespace Go.Proofs.YtmeaoneaephjeaaGreatDoor
open Go.RowKit Go Go.Shelf
attribute [local go_sem] Oper.semAt_some
theorem VT{p:Pb} (h:probE p=0):movesN p.a.states<=4096:=by
 have ha:=(gH h).2.1;unfold advE at ha;by_cases h1:p.a.n<1\/5<p.a.n
 ·rw[if_pos h1]at ha;omega
 ·rw[if_neg h1]at ha;by_cases h2:p.a.states.length<1\/256<p.a.states.length\/4096<movesN p.a.states
  ·rw[if_pos h2]at ha;omega
  ·omega
theorem Kf{p:Pb} (h:probE p=0):((dY p).2≠0->(dY p).2=17/\4096<p.t.cases.length * (aP p).length)/\((dY p).2=0->(dY p).1=((p.t.cases.length * (aP p).length:Nat):Int)):=by
 obtain⟨ht,ha,_,rO,qi⟩:=gH h;have bU:=(fm ht).2.2.2.1;have hn:=q6 (L:=1048576) (by omega) p.a (fun s hs m hm=>(uK ha s hs m hm).2) (by have:=(ik ha).1;omega) p.rounds.toNat;have hw:(aP p).length=(bY p.a p.rounds.toNat 0).length:=rfl;rw[<-hw]at hn
 have qQ:countedR 1048576 p.a p.rounds=if 1048576<numberL 1048576 p.a p.rounds.toNat then(0,17) else(numberL 1048576 p.a p.rounds.toNat,0):=by
  unfold countedR;rw[if_neg (by simpa using ha),if_neg (by omega)]
 unfold dY;rw[if_neg (by simpa using h),qQ];by_cases h1:1048576<numberL 1048576 p.a p.rounds.toNat
 ·rw[if_pos h1];have h9:1 * 1048576<=p.t.cases.length * (aP p).length:=Nat.mul_le_mul bU.1 (by omega);refine⟨fun _=>⟨by simp,by omega⟩,fun e=>by simp at e⟩
 ·rw[if_neg h1];have he:numberL 1048576 p.a p.rounds.toNat=((aP p).length:Int):=by omega
  rw[he];dsimp only;rw[if_neg (by simp),Int.mul_comm,<-Int.natCast_mul];by_cases h2:(1048576:Int)<((p.t.cases.length * (aP p).length:Nat):Int)
  ·rw[if_pos h2];refine⟨fun _=>⟨by simp,by omega⟩,fun e=>by simp at e⟩
  ·rw[if_neg h2];exact⟨fun e=>by simp at e,fun _=>rfl⟩
theorem Kg{p:Pb} (h:probE p=0) (h2:¬ 4096<p.t.cases.length * (aP p).length):qd p.a p.rounds=(aP p,0):=by
 obtain⟨ht,ha,_,rO,qi⟩:=gH h;have bU:=(fm ht).2.2.2.1;have hn:=q6 (L:=4096) (by omega) p.a (fun s hs m hm=>(uK ha s hs m hm).2) (by have:=(ik ha).1;omega) p.rounds.toNat;have hw:(aP p).length=(bY p.a p.rounds.toNat 0).length:=rfl;rw[<-hw]at hn;have h9:1 * (aP p).length<=p.t.cases.length * (aP p).length:=Nat.mul_le_mul_right _ bU.1
 have qQ:(countedR 4096 p.a p.rounds).2=0:=by
  unfold countedR;rw[if_neg (by simpa using ha),if_neg (by omega),if_neg (by omega)]
 unfold qd;rw[if_neg (by simpa using qQ)];rfl
theorem Fe{a:Adv} (h:∀ s,s<a.states.length->stateE a (a.states.getD s [])=0) (h1:0<a.states.length) (k:Nat):∀ s,s<a.states.length->0<(bY a k s).length:=by
 induction k with
 | zero=>intro s _;simp[bY]
 | succ k ih=>
  intro s hs;have h2:=h s hs
  have bR:(a.states.getD s []).length≠0:=by
   intro e;unfold stateE at h2;rw[if_pos e]at h2;cases h2
  obtain⟨m,hm⟩:∃ m,m∈a.states.getD s []:=by
   cases hl:a.states.getD s [] with
   | nil=>rw[hl]at bR;simp at bR
   | cons m r=>exact⟨m,by simp⟩
  have oM:m.to.toNat<a.states.length:=Yd h s hs m hm;have h3:=ih _ oM;obtain⟨y,hy⟩:=List.length_pos_iff_exists_mem.1 h3;refine List.length_pos_iff_exists_mem.2 ⟨m.r :: y,?_⟩;simp only[bY,List.mem_flatMap,List.mem_map];exact⟨m,hm,y,hy,rfl⟩
theorem sI(p:Pb) (words:List (List Rd)) (l:List (Nat × Nat)):∀ st:List Vw × List Ex,(l.foldl (kh p words) st).2.length=st.2.length+l.length:=by
 induction l with
 | nil=>intro st;simp
 | cons x r ih=>
  intro st;rw[List.foldl_cons,ih];simp[kh];omega
theorem Mr(p:Pb) (words:List (List Rd)) (l:List (Nat × Nat)) (i:Nat) (h:i<l.length):execsS p words (l.take (i+1))=kh p words (execsS p words (l.take i)) l[i]:=by
 unfold execsS;rw[List.take_succ_eq_append_getElem h,List.foldl_append];rfl
theorem Ms(p:Pb) (words:List (List Rd)) (l:List (Nat × Nat)):∀ st:List Vw × List Ex,st.1.length<=(l.foldl (kh p words) st).1.length:=by
 induction l with
 | nil=>intro st;exact Nat.le_refl _
 | cons x r ih=>
  intro st;refine Nat.le_trans ?_ (ih _);exact Ch _ _ _ _ _
theorem wQ(p:Pb) (words:List (List Rd)) (l:List (Nat × Nat)) (i:Nat):(execsS p words (l.take i)).1.length<=(execsS p words l).1.length:=by
 have h:execsS p words l=(l.drop i).foldl (kh p words) (execsS p words (l.take i)):=by
  unfold execsS;rw[<-List.foldl_append,List.take_append_drop]
 rw[h];exact Ms p words _ _
abbrev fh(p:Pb):List (Nat × Nat):=jn p.t.cases.length (aP p).length
abbrev stP(p:Pb) (i:Nat):List Vw × List Ex:=execsS p (aP p) ((fh p).take i)
theorem iD(p:Pb):(fh p).length=p.t.cases.length * (aP p).length:=by
 unfold fh;rw[uh];simp
theorem wl(p:Pb) (i:Nat) (h:i<p.t.cases.length * (aP p).length):stP p (i+1)=kh p (aP p) (stP p i) (i / (aP p).length,i % (aP p).length):=by
 unfold stP;rw[Mr _ _ _ _ (by rw[iD];exact h)];congr 1;unfold fh;simp only[uh];simp
theorem Mt{p:Pb} (h:probE p=0) (hm:¬ 4096<p.t.cases.length * (aP p).length) (i:Nat) (hi:8192<(stP p i).1.length):buildE p=17:=by
 have h2:=wQ p (aP p) (fh p) i;have h3:(aN p).tab=(execsS p (aP p) (fh p)).1:=rfl;unfold buildE;rw[if_neg (by simpa using h),if_neg hm,if_pos (by rw[h3];exact Nat.lt_of_lt_of_le hi h2)]
theorem Mu(w:World) (a b c d:Obj):((((w.alloc a).alloc b).alloc c).alloc d).heap[w.heap.size+1+1+1]?=some d:=by
 have:=ap (((w.alloc a).alloc b).alloc c) d;simpa only[World.size_alloc] using this
def zy(W:World) (base:Nat) (xs:List Value) (i:Nat) (x:Ex):Prop:=
 ∃ a b,xs[i * 3]?=some (.int .i64 x.c)/\xs[i * 3+1]?=some a/\xs[i * 3+2]?=some b/\aJ W base 141 7 a x.word.length (cZ x.word)/\cT W base b x.views
structure BInv (p:Pb) (uc us:Value) (wd:World) (Bs Bb b mb:Nat) (tab:List Vw) (ex:List Ex) (W:World):Prop where
 old:Below wd.heap.size wd W
 lo:wd.heap.size<=Bs
 bx:W.heap[Bb]?=some (.cells #[.pointer (some ⟨b,0,none⟩)] 231)
 s:∃ ve xs,W.heap[Bs]?=some (.cells (bZ p uc us 0 (.slice none 0 0) ve) 35)/\aJ W wd.heap.size 89 3 ve ex.length xs/\∀ i (hi:i<ex.length),zy W wd.heap.size xs i ex[i]
 bld:BldIs wd.heap.size b mb p.t.n.toNat tab W
theorem BInv.sta{p:Pb} {uc us:Value} {wd:World} {Bs Bb b mb:Nat} {tab:List Vw} {ex:List Ex} {B:Nat} (hB:wd.heap.size<=B) (hm:mb<B):cN B (fun W=>BInv p uc us wd Bs Bb b mb tab ex W):=fun A A' c h=>by
 obtain⟨ve,xs,h1,h2,h3⟩:=h.s;obtain⟨vs,q1,q2,q3,es,ck,q4,q5⟩:=h.bld.ex
 exact⟨c.below hB h.old.size h.old,h.lo,c.same _ _ h.bx (.inr rfl),⟨ve,xs,c.same _ _ h1 (.inr rfl),h2.ck c.ck,fun i hi=>by obtain⟨a,d,p1,p2,p3,p4,p5⟩:=h3 i hi;exact⟨a,d,p1,p2,p3,p4.ck c.ck,p5.ck c.ck⟩⟩,
  h.bld.lo,vs,c.same _ _ q1 (.inr rfl),q2,q3.ck c.ck,es,ck,c.same _ _ q4 (.inl hm),q5⟩
theorem U9{w W:World} {B:Nat} {c:Array Value} (hb:Below w.heap.size w W) (hl:w.heap.size<=B) (hR:W.heap[B]?=some (.cells c 35)) (hc:c.size=10) (hE:W.heap[B+1]?=some (.cells #[.int .i64 0] 39)) (l:List Value) (cP:l.length=10) (e:Int) :
  ((W.setCells B 0 l).setCell ⟨B+1,0,none⟩ (.int .i64 e)).heap[B]?=some (.cells l.toArray 35)/\((W.setCells B 0 l).setCell ⟨B+1,0,none⟩ (.int .i64 e)).heap[B+1]?=some (.cells #[.int .i64 e] 39)/\Below w.heap.size w ((W.setCells B 0 l).setCell ⟨B+1,0,none⟩ (.int .i64 e)) ∧
   ∀ k,k≠B->k≠B+1->((W.setCells B 0 l).setCell ⟨B+1,0,none⟩ (.int .i64 e)).heap[k]?=W.heap[k]?:=by
 obtain⟨cur',h1,h2,h3⟩:=mw B _ _ l 0 W c hR (by omega);obtain⟨o1,o2,o3,o4,o5⟩:=lI B l 0 W
 have Er:cur'=l.toArray:=by
  rw[Nat.zero_add,List.take_zero,List.nil_append,List.take_of_length_le (by simp;omega)]at h3;rw[<-h3]
 subst Er;have h4:=(o1 (B+1) (by omega)).trans hE;refine⟨aO h1 (by omega) _ _,by rw[aI h4];rfl,Below.setCell ⟨o2.trans hb.os,o3.trans hb.tape,o4.trans hb.output,by rw[o5];exact hb.size,fun k hk=>(o1 k (by omega)).trans (hb.block k hk)⟩ (by dsimp only;omega) _,fun k h5 h6=>(Below.heap_setCell _ _ _ _ (by dsimp only;exact h6)).trans (o1 k h5)⟩
theorem sJ{w W:World} {B:Nat} {c:Array Value} (hb:Below w.heap.size w W) (hl:w.heap.size<=B) (hR:W.heap[B]?=some (.cells c 35)) (hc:c.size=10) (hE:W.heap[B+1]?=some (.cells #[.int .i64 0] 39)) (c0 c1 c2 c3 c4 c5 c6 c7 c8 c9:Value) (e:Int) :
  (((((((((((W.setCell ⟨B,0,none⟩ c0).setCell ⟨B,1,none⟩ c1).setCell ⟨B,2,none⟩ c2).setCell ⟨B,3,none⟩ c3).setCell ⟨B,4,none⟩ c4).setCell ⟨B,5,none⟩ c5).setCell ⟨B,6,none⟩ c6).setCell ⟨B,7,none⟩ c7).setCell ⟨B,8,none⟩ c8).setCell ⟨B,9,none⟩ c9).setCell ⟨B+1,0,none⟩ (.int .i64 e)).heap[B]?=some (.cells #[c0,c1,c2,c3,c4,c5,c6,c7,c8,c9] 35)/\(((((((((((W.setCell ⟨B,0,none⟩ c0).setCell ⟨B,1,none⟩ c1).setCell ⟨B,2,none⟩ c2).setCell ⟨B,3,none⟩ c3).setCell ⟨B,4,none⟩ c4).setCell ⟨B,5,none⟩ c5).setCell ⟨B,6,none⟩ c6).setCell ⟨B,7,none⟩ c7).setCell ⟨B,8,none⟩ c8).setCell ⟨B,9,none⟩ c9).setCell ⟨B+1,0,none⟩ (.int .i64 e)).heap[B+1]?=some (.cells #[.int .i64 e] 39)/\Below w.heap.size w (((((((((((W.setCell ⟨B,0,none⟩ c0).setCell ⟨B,1,none⟩ c1).setCell ⟨B,2,none⟩ c2).setCell ⟨B,3,none⟩ c3).setCell ⟨B,4,none⟩ c4).setCell ⟨B,5,none⟩ c5).setCell ⟨B,6,none⟩ c6).setCell ⟨B,7,none⟩ c7).setCell ⟨B,8,none⟩ c8).setCell ⟨B,9,none⟩ c9).setCell ⟨B+1,0,none⟩ (.int .i64 e)) ∧
   ∀ k,k≠B->k≠B+1->(((((((((((W.setCell ⟨B,0,none⟩ c0).setCell ⟨B,1,none⟩ c1).setCell ⟨B,2,none⟩ c2).setCell ⟨B,3,none⟩ c3).setCell ⟨B,4,none⟩ c4).setCell ⟨B,5,none⟩ c5).setCell ⟨B,6,none⟩ c6).setCell ⟨B,7,none⟩ c7).setCell ⟨B,8,none⟩ c8).setCell ⟨B,9,none⟩ c9).setCell ⟨B+1,0,none⟩ (.int .i64 e)).heap[k]?=W.heap[k]?:=U9 hb hl hR hc hE [c0,c1,c2,c3,c4,c5,c6,c7,c8,c9] rfl e
theorem pR(tmps:Array Value) (B:Nat) (W:World) (c0 c1 c2 c3 c4 c5 c6 c7 c8 c9:Value) (e:Int) (h2:tmps[2]?.getD undef=.pointer (some ⟨B,0,none⟩)) (h3:tmps[3]?.getD undef=.pointer (some ⟨B+1,0,none⟩))
  (hB:W.heap[B]?=some (.cells #[c0,c1,c2,c3,c4,c5,c6,c7,c8,c9] 35)) (hE:W.heap[B+1]?=some (.cells #[.int .i64 e] 39)) :
  (results Tryz.f120 tmps).run Tryz.prog W=.ok (.tuple #[.agg #[c0,c1,c2,c3,c4,c5,c6,c7,c8,c9],.int .i64 e]) W:=by
 have t2:=ab hB;have t3:=ab hE 0;simp at t3;simp[results,Tryz.results120,go_sem,h2,h3,t2,t3]
structure BCore (base b mb n:Nat) (tab tab':List Vw) (c:Nat) (word:List Rd) (views:List (List Int)) (Wr:World) (D:Nat->Bool) (x:Nat->Value) (W:World):Prop where
 lo:base<=Wr.heap.size
 keep:KeepT bldT [mb] base Wr W
 bld:BldIs base b mb n (bif D 14 then tab' else tab) W
 x4:D 4=true->aJ W base 141 7 (x 4) word.length (cZ word)
 x14:D 14=true->cT W base (x 14) views
 x15:D 15=true->D 4=true/\D 14=true/\x 15=.agg #[.int .i64 c,x 4,x 14]
 x16:D 16=true->D 4=true/\D 14=true/\∃ g,x 16=.slice (some ⟨g,0,none⟩) 1 1/\W.heap[g]?=some (.cells #[.int .i64 c,x 4,x 14] 89)
section
variable {base b mb n : Nat} {tab tab' : List Vw} {c : Nat} {word : List Rd} {views : List (List Int)} {Wr : World} {D : Nat → Bool} {x : Nat → Value} {W W' : World}
theorem BCore.other(h:BCore base b mb n tab tab' c word views Wr D x W) {i:Nat} (u:Value) (h4:4≠i) (JB:14≠i) (h15:15≠i) (WS:16≠i):BCore base b mb n tab tab' c word views Wr (bI D i) (cF x i u) W:=by
 refine⟨h.lo,h.keep,?_,?_,?_,?_,?_⟩
 ·simpa only[bI,if_neg JB] using h.bld
 ·simpa only[bI,cF,if_neg h4] using h.x4
 ·simpa only[bI,cF,if_neg JB] using h.x14
 ·simpa only[bI,cF,if_neg h4,if_neg JB,if_neg h15] using h.x15
 ·simpa only[bI,cF,if_neg h4,if_neg JB,if_neg WS] using h.x16
theorem BCore.clone(h:BCore base b mb n tab tab' c word views Wr D x W) (h4:D 4=false) (hb:Below W.heap.size W W') {u:Value} (ho:aJ W' base 141 7 u word.length (cZ word)):BCore base b mb n tab tab' c word views Wr (bI D 4) (cF x 4 u) W':=by
 refine⟨h.lo,h.keep.trans (.of_below _ hb (Nat.le_trans h.lo h.keep.old.size)),?_,fun _=>by simpa[cF] using ho,fun e=>?_,fun e=>?_,fun e=>?_⟩
 ·simpa only[bI,if_neg (show (14:Nat)≠4 by decide)] using h.bld.up hb
 ·simp only[bI,cF,if_neg (show (14:Nat)≠4 by decide)]at e ⊢;exact(h.x14 e).up hb
 ·simp only[bI,if_neg (show (15:Nat)≠4 by decide)]at e;have:=(h.x15 e).1;rw[h4]at this;cases this
 ·simp only[bI,if_neg (show (16:Nat)≠4 by decide)]at e;have:=(h.x16 e).1;rw[h4]at this;cases this
theorem BCore.play(h:BCore base b mb n tab tab' c word views Wr D x W) (JB:D 14=false) (hk:KeepT bldT [mb] base W W') (hb:BldIs base b mb n tab' W') {u:Value} (ho:cT W' base u views):BCore base b mb n tab tab' c word views Wr (bI D 14) (cF x 14 u) W':=by
 refine⟨h.lo,h.keep.trans hk,by simpa[bI] using hb,fun e=>?_,fun _=>by simpa[cF] using ho,fun e=>?_,fun e=>?_⟩
 ·simp only[bI,cF,if_neg (show (4:Nat)≠14 by decide)]at e ⊢;exact hk.own (h.x4 e) (by decide)
 ·simp only[bI,if_neg (show (15:Nat)≠14 by decide)]at e;have:=(h.x15 e).2.1;rw[JB]at this;cases this
 ·simp only[bI,if_neg (show (16:Nat)≠14 by decide)]at e;have:=(h.x16 e).2.1;rw[JB]at this;cases this
theorem BCore.made(h:BCore base b mb n tab tab' c word views Wr D x W) (g4:D 4=true) (g14:D 14=true) {u:Value} (hu:u=.agg #[.int .i64 c,x 4,x 14]):BCore base b mb n tab tab' c word views Wr (bI D 15) (cF x 15 u) W:=by
 refine⟨h.lo,h.keep,?_,?_,?_,fun _=>?_,?_⟩
 ·simpa only[bI,if_neg (show (14:Nat)≠15 by decide)] using h.bld
 ·simpa only[bI,cF,if_neg (show (4:Nat)≠15 by decide)] using h.x4
 ·simpa only[bI,cF,if_neg (show (14:Nat)≠15 by decide)] using h.x14
 ·simp only[bI,cF,if_neg (show (4:Nat)≠15 by decide),if_neg (show (14:Nat)≠15 by decide),if_true];exact⟨g4,g14,hu⟩
 ·simpa only[bI,cF,if_neg (show (4:Nat)≠15 by decide),if_neg (show (14:Nat)≠15 by decide),if_neg (show (16:Nat)≠15 by decide)] using h.x16
theorem BCore.row(h:BCore base b mb n tab tab' c word views Wr D x W) (g4:D 4=true) (g14:D 14=true) {u4 u14:Value} (e4:x 4=u4) (e14:x 14=u14):BCore base b mb n tab tab' c word views Wr (bI D 16) (cF x 16 (.slice (some ⟨W.heap.size,0,none⟩) 1 1)) (W.alloc (.cells #[.int .i64 c,u4,u14] 89)):=by
 subst e4 e14;have hb:Below W.heap.size W (W.alloc (.cells #[.int .i64 c,x 4,x 14] 89)):=by go_grown
 refine⟨h.lo,h.keep.trans (.of_below _ hb (Nat.le_trans h.lo h.keep.old.size)),?_,fun e=>?_,fun e=>?_,?_,fun _=>?_⟩
 ·simpa only[bI,if_neg (show (14:Nat)≠16 by decide)] using h.bld.up hb
 ·simp only[bI,cF,if_neg (show (4:Nat)≠16 by decide)]at e ⊢;exact(h.x4 e).up hb
 ·simp only[bI,cF,if_neg (show (14:Nat)≠16 by decide)]at e ⊢;exact(h.x14 e).up hb
 ·simpa only[bI,cF,if_neg (show (4:Nat)≠16 by decide),if_neg (show (14:Nat)≠16 by decide),if_neg (show (15:Nat)≠16 by decide)] using h.x15
 ·simp only[bI,cF,if_neg (show (4:Nat)≠16 by decide),if_neg (show (14:Nat)≠16 by decide),if_true];exact⟨g4,g14,W.heap.size,rfl,ap _ _⟩
end
theorem Tryz.infoExec:(Tryz.prog.info? 89).map (fun i=>(i.zero,i.size,i.bytes))=some (some (.agg #[.int .i64 0,.slice none 0 0,.slice none 0 0]),3,56):=by kernel_rfl
theorem RE{F:Fence} {n:Nat} {P:Program} {c:Code} {Q:Exit->Act->World->Prop} {a:Act} {W:World} (I:World->Prop) (h:I W) (k:∀ W0,I W0->c.wpIn F n P Q a W0):c.wpIn F n P Q a W:=k W h
theorem BInv.up{p:Pb} {uc us:Value} {wd:World} {Bs Bb b mb:Nat} {tab:List Vw} {ex:List Ex} {W W':World} (h:BInv p uc us wd Bs Bb b mb tab ex W) (hb:Below W.heap.size W W'):BInv p uc us wd Bs Bb b mb tab ex W':=by
 obtain⟨ve,xs,h1,h2,h3⟩:=h.s;exact⟨ae h.old hb,h.lo,af hb h.bx,⟨ve,xs,af hb h1,h2.up hb,fun i hi=>by obtain⟨a,d,p1,p2,p3,p4,p5⟩:=h3 i hi;exact⟨a,d,p1,p2,p3,p4.up hb,p5.up hb⟩⟩,h.bld.up hb⟩
theorem VU(a b:Vw) (w:World):(binOp .eql 190 a.v b.v).run Tryz.prog w=.ok (.bool (decide (a=b))) w:=by
 rw[run_eql_struct,DT 9997];rfl
def viewIx(l:List Vw) (v:Vw):Int:=firstIx l.length fun i=>decide (l.getD i default=v)
theorem Mw(l:List Vw) (v:Vw):(viewIx l v<0/\putV l v=(l++[v],l.length))\/(0<=viewIx l v/\putV l v=(l,(viewIx l v).toNat)/\viewIx l v<l.length):=by
 unfold viewIx;rcases bH l.length (fun i=>decide (l.getD i default=v)) with ⟨e,h⟩|⟨k,hk,e,he,h⟩
 ·refine .inl ⟨by omega,?_⟩;unfold putV;rw[if_neg];intro hv;obtain⟨i,hi,rfl⟩:=List.getElem_of_mem hv;have:=h i hi;simp[hi]at this
 ·refine .inr ⟨by omega,?_,by omega⟩;have he:l[k]=v:=by simpa[hk] using he
  unfold putV;rw[if_pos (he ▸ List.getElem_mem hk),e];congr 1;rw[Int.toNat_natCast];have kO:v∈l:=he ▸ List.getElem_mem hk;have aB:=List.idxOf_lt_length_of_mem kO;have CD:=List.getElem_idxOf aB;rcases Nat.lt_trichotomy (l.idxOf v) k with h1|h1|h1
  ·have:=h _ h1;simp[aB]at this
  ·exact h1
  ·exfalso;have:=List.not_of_lt_findIdx (xs:=l) (p:=(· == v)) (i:=k) h1;simp[he]at this
theorem VV{w:World} {b o:Nat} {v:Vw} (h:H6 w b o v) {wr:World} (hb:Below w.heap.size w wr):∀ y:ExtW wr,y.val.cell? ⟨b,o,none⟩=some (.int .i64 v.p)/\y.val.cell? ⟨b,o+1,none⟩=some (.int .i64 v.k)/\y.val.cell? ⟨b,o+2,none⟩=some (.int .i64 v.i)/\y.val.cell? ⟨b,o+3,none⟩=some (.int .i64 v.h0)/\y.val.cell? ⟨b,o+4,none⟩=some (.int .i64 v.h1)/\y.val.cell? ⟨b,o+5,none⟩=some (.int .i64 v.h2)/\y.val.cell? ⟨b,o+6,none⟩=some (.int .i64 v.h3)/\y.val.cell? ⟨b,o+7,none⟩=some (.int .i64 v.h4):=by
 obtain⟨⟨c0,_⟩,⟨c1,_⟩,⟨c2,_⟩,⟨c3,_⟩,⟨c4,_⟩,⟨c5,_⟩,⟨c6,_⟩,⟨c7,_⟩⟩:=h;exact fun y=>⟨y.cell (ak hb c0),y.cell (ak hb c1),y.cell (ak hb c2),y.cell (ak hb c3),y.cell (ak hb c4),y.cell (ak hb c5),y.cell (ak hb c6),y.cell (ak hb c7)⟩
theorem Kh(n:Int) (l:List Vw) (vt:Value) (v:Vw) (w:World) (h:mX w vt l) :
  Calls Tryz.prog 189 #[.agg #[.int .i64 n,vt],v.v] w fun e w'=>e=.returned (.int .i64 (viewIx l v))/\Below w.heap.size w w':=by
 obtain⟨pt,ct,rfl,lt1,lt2,et⟩:=h.at;have ET:=aa et;have qn:am (∀ k,k<l.length->(∀ j,j<k->decide (l.getD j default=v)=false)->decide (l.getD k default=v)=true->viewIx l v=k):=aa (fun k hk h1 h2=>dq _ _ _ hk h1 h2);have fY:am ((∀ j,j<l.length->decide (l.getD j default=v)=false)->viewIx l v=-1):=aa (dA _ _);clear h et
 go_enter Tryz.func189,Tryz.ntmps189
 go_wp2_with fail
 refine bF (fun W=>Below w.heap.size w W/\W.heap[w.heap.size]?=some (.cells #[.int .i64 n,.slice pt l.length ct] 32)/\W.heap[w.heap.size+1]?=some (.cells v.c 190)) ⟨by go_grown,aq _ (ap _ _),bu _ _ _⟩ (fun W0 bd=>?_);obtain⟨aK,bK,vy⟩:=bd;have lC:=aa bK;have ze:=aa vy;clear bK vy
 go_loopw [5] (fun i wr=>∃ k:Nat,k<=l.length/\i=.int .i64 k/\Below W0.heap.size W0 wr/\∀ j,j<k->decide (l.getD j default=v)=false) (fun i _=>l.length - (intOf i).toNat)
 ·exact⟨0,by omega,rfl,Below.refl _ _,by simp⟩
 ·
  obtain⟨k,hk,rfl,aA,aU⟩:=hrel;have H:=aa aU;clear aU;have tA:=ab (af aA lC.o);by_cases aB:k<l.length
  ·obtain⟨b1,o1,rfl,c1⟩:=ET.o k aB;have HX:=aa (az default aB);have CL:=aa (qn.o k aB H.o);generalize l[k]=x at c1 HX;rw[HX.o]at CL;have d1:=VV c1 (ae aK aA);have a1:∀ z:ExtW wr,z.val.cell? ⟨w.heap.size,1,none⟩=some _:=fun z=>z.cell (ab (af aA lC.o) 1)
   have a2:∀ (z:ExtW wr) (o:Nat),z.val.cell? ⟨w.heap.size+1,o,none⟩=v.c[o]?:=fun z o=>ab (af (z.ext) (af aA ze.o)) o
   have jQ:=fun w=>VU x v w
   have aY:=aa aA;clear c1 aA
   go_wp2_with fail
   clear tA;cases hd:decide (x=v) with
   | true=>
    have HR:=aa (CL.o hd);rw[hd]at jQ;clear hd;refine aF (by kernel_rfl) (by kernel_rfl) ?_
    repeat (go_big_quiet_step (fail))
    refine wpQuiet_nil ?_;rintro _ ⟨xq,rfl⟩;clear d1 a1 a2 jQ
    go_wp2_with fail
    go_ret
    exact⟨aG (by rw[HR.o]),ae aK (ae aY.o xq.ext)⟩
   | false=>
    have HD:=aa hd;rw[hd]at jQ;clear hd;refine aF (by kernel_rfl) (by kernel_rfl) ?_
    repeat (go_big_quiet_step (fail))
    refine wpQuiet_nil ?_;rintro _ ⟨xq,rfl⟩;clear d1 a1 a2 jQ
    go_wp2_with fail
    go_roundw
    ·exact⟨k+1,by omega,by go_num,ae aY.o xq.ext,aV H.o (by rw[HX.o];exact HD.o)⟩
    ·simp[intOf];omega
  ·have HR:=aa (fY.o fun j hj=>H.o j (by omega))
   go_wp2_with fail
   go_ret
   exact⟨aG (by rw[HR.o]),ae aK aA⟩
def vC(p k i:Int) (f:Nat->Int) (q:Nat):Array Value:=((List.range 8).map fun j=>Value.int .i64 (if j=0 then p else if j=1 then k else if j=2 then i else if j<3+q then f (j - 3) else 0)).toArray
theorem x'(p k i:Int) (f:Nat->Int) (q j:Nat) (hj:j<8):(vC p k i f q)[j]?=some (.int .i64 (if j=0 then p else if j=1 then k else if j=2 then i else if j<3+q then f (j - 3) else 0)):=by simp[vC,hj]
theorem Pg(p k i:Int) (f:Nat->Int) (q:Nat) (hq:q<5):(vC p k i f q).setIfInBounds (3+q) (.int .i64 (f q))=vC p k i f (q+1):=by
 apply Array.ext_getElem?;intro j;rw[Array.getElem?_setIfInBounds];by_cases hj:j<8
 ·rw[x' _ _ _ _ _ _ hj,x' _ _ _ _ _ _ hj];by_cases e:3+q=j
  ·subst e;rw[if_pos rfl,if_pos (by simp[vC];omega),if_neg (by omega),if_neg (by omega),if_neg (by omega),if_pos (by omega),Nat.add_sub_cancel_left]
  ·rw[if_neg e];have:(j<3+(q+1))↔(j<3+q):=by omega
   simp only[this]
 ·rw[if_neg (by omega),Array.getElem?_eq_none (by simp[vC];omega),Array.getElem?_eq_none (by simp[vC];omega)]
theorem KK(p k i:Int) (f:Nat->Int):vC p k i f 0=#[.int .i64 p,.int .i64 k,.int .i64 i,.int .i64 0,.int .i64 0,.int .i64 0,.int .i64 0,.int .i64 0]:=rfl
theorem KL(p k i:Int) (f:Nat->Int):vC p k i f 5=#[.int .i64 p,.int .i64 k,.int .i64 i,.int .i64 (f 0),.int .i64 (f 1),.int .i64 (f 2),.int .i64 (f 3),.int .i64 (f 4)]:=rfl
abbrev zeroV:Array Value:=#[.int .i64 0,.int .i64 0,.int .i64 0,.int .i64 0,.int .i64 0,.int .i64 0,.int .i64 0,.int .i64 0]
theorem Ci(tmps:Array Value) (f:Func) (s:Nat) (hf:f.results=#[.cell s 190]) (B:Nat) (W:World) (v:Vw) (ty:TypeId) (h1:tmps[s]?.getD undef=.pointer (some ⟨B,0,none⟩)) (hb:W.heap[B]?=some (.cells v.c ty)) :
  (results f tmps).run Tryz.prog W=.ok v.v W:=by
 have t1:=ab hb;simp[results,hf,go_sem,h1,t1]
theorem Ki(p:Nat) (inp:Int) (w:World):Calls Tryz.prog 158 #[.int .i64 p,.int .i64 inp] w fun e w'=>e=.returned (⟨p,0,inp,-1,-1,-1,-1,-1⟩:Vw).v/\Below w.heap.size w w':=by
 go_enter Tryz.func158,Tryz.ntmps158
 go_wp2_with fail
 refine bF (fun W=>Below w.heap.size w W/\W.heap[w.heap.size]?=some (.cells zeroV 190)/\W.heap[w.heap.size+1]?=some (.cells (vC p 0 inp (fun _=>-1) 0) 190)) ⟨by go_grown,aq _ (ap _ _),by rw[KK];exact bu _ _ _⟩ (fun W0 bd=>?_);obtain⟨aK,gr,hH⟩:=bd
 go_loopw [6] (fun i wr=>∃ q:Nat,q<=5/\i=.int .i64 q/\Below w.heap.size w wr/\wr.heap[w.heap.size]?=some (.cells zeroV 190)/\wr.heap[w.heap.size+1]?=some (.cells (vC p 0 inp (fun _=>-1) q) 190)) (fun i _=>5 - (intOf i).toNat)
 ·exact⟨0,by omega,rfl,aK,gr,hH⟩
 ·
  clear aK gr hH;obtain⟨q,hq,rfl,aA,hR,hO⟩:=hrel;by_cases aB:q<5
  ·have zq:=aH hO (3+q);have tq:=ab hO (3+q);rw[x' _ _ _ _ _ _ (by omega)]at tq;have HR:=aa hR;have HO:=aa hO;clear hR hO;have nZ:(q:Int)<5:=by omega
   go_wp2_with fail
   go_roundw
   ·exact⟨q+1,by omega,by go_num,aA.setCell (by dsimp only;omega) _,aO HR.o (by omega) _ _,by rw[aI HO.o,<-Pg _ _ _ (fun _=>-1) q aB]⟩
   ·simp[intOf];omega
  ·obtain rfl:q=5:=by omega
   have tq:=ab hO;have HR:=aa hR;have HO:=aa hO;have zq:=fun o=>aH hR o
   have tq0:=ab hR;rw[KL]at tq;simp at tq0;clear hR hO
   go_wp2_with (refine wpList_store_row rfl 190 (.tmp 4) (.tmp 17) rfl w.heap.size (⟨p,0,inp,-1,-1,-1,-1,-1⟩:Vw).c rfl rfl 190 _ HR.o (by kernel_rfl) rfl (by simp[Value.oneCell']) ?_)
   exact bodyPost_ret (Ci _ _ 4 rfl w.heap.size _ ⟨p,0,inp,-1,-1,-1,-1,-1⟩ 190 rfl (setRow_heap _ _ _ _ _ _ HR.o)) rfl ⟨rfl,below_setRow aA (Nat.le_refl _) _⟩
theorem DZ{a:Array Value} {i:Nat} {x:Value} (h:a[i]?=some x):a.setIfInBounds i x=a:=by
 apply Array.ext_getElem?;intro j;rw[Array.getElem?_setIfInBounds];split
 ·rename_i e;subst e;split
  ·exact h.symm
  ·rw[Array.getElem?_eq_none (by omega)]
 ·rfl
def seenH(n:Nat) (g:Gr) (now:List Int) (p q:Nat):Int:=if q<n/\hasB (g.hear p) q=true then now.getD q 0 else -1
def seenV(n K:Nat) (g:Gr) (now:List Int) (p:Nat):Vw:=⟨p,K,0,seenH n g now p 0,seenH n g now p 1,seenH n g now p 2,seenH n g now p 3,seenH n g now p 4⟩
theorem Mx(g:Gr) (K p n:Nat) (hn:g.n=n) (jz:n<=5) (hp:p<5) (hh:0<=g.hear p/\g.hear p<32) (vb:Value) (now:List Int) (pL:n<=now.length) (w:World) (hb:aX w vb now) :
  Calls Tryz.prog 159 #[g.v,.int .i64 K,.int .i64 p,vb] w fun e w'=>e=.returned (seenV n K g now p).v/\Below w.heap.size w w':=by
 obtain⟨pb,cb,rfl,lb1,lb2,eb⟩:=hb.at;have EB:=aa eb;have HF:am (∀ q,seenH n g now p q=if (q:Int)<g.n/\hasB (g.hear p) q=true then now.getD q 0 else -1):=aa (fun q=>by unfold seenH;rw[hn];simp);have HV:am (seenV n K g now p=⟨p,K,0,seenH n g now p 0,seenH n g now p 1,seenH n g now p 2,seenH n g now p 3,seenH n g now p 4⟩):=aa rfl;have HN:=aa hn;generalize seenV n K g now p=V at HV;generalize seenH n g now p=f at HF HV;clear hb eb hn
 go_enter Tryz.func159,Tryz.ntmps159
 go_wp2_with fail
 refine bF (fun W=>Below w.heap.size w W/\W.heap[w.heap.size]?=some (.cells #[.int .i64 g.n,.int .i64 g.h0,.int .i64 g.h1,.int .i64 g.h2,.int .i64 g.h3,.int .i64 g.h4] 139)/\W.heap[w.heap.size+1]?=some (.cells zeroV 190)/\W.heap[w.heap.size+1+1]?=some (.cells (vC p K 0 f 0) 190)) ⟨by go_grown,aq _ (aq _ (ap _ _)),aq _ (bu _ _ _),by rw[KK];exact eD _ _ _ _⟩ (fun W0 bd=>?_);obtain⟨aK,hG0,gr,hH⟩:=bd
 go_loopw [10] (fun i wr=>∃ q:Nat,q<=5/\i=.int .i64 q/\Below w.heap.size w wr/\wr.heap[w.heap.size]?=some (.cells #[.int .i64 g.n,.int .i64 g.h0,.int .i64 g.h1,.int .i64 g.h2,.int .i64 g.h3,.int .i64 g.h4] 139)/\wr.heap[w.heap.size+1]?=some (.cells zeroV 190)/\wr.heap[w.heap.size+1+1]?=some (.cells (vC p K 0 f q) 190)) (fun i _=>5 - (intOf i).toNat)
 ·exact⟨0,by omega,rfl,aK,hG0,gr,hH⟩
 ·
  clear aK hG0 gr hH;obtain⟨q,hq,rfl,aA,hG,hR,hO⟩:=hrel;by_cases aB:q<5
  ·have zq:=aH hO (3+q);have tq:=ab hO (3+q);rw[x' _ _ _ _ _ _ (by omega)]at tq;have HG:=aa hG;have HR:=aa hR;have HO:=aa hO;have aY:=aa aA;clear hG hR hO aA;have nZ:(q:Int)<5:=by omega
   have tG:=ab HG.o 0;simp at tG;have tH:=mV g p hp wr _ HG.o;have QF:(p:Int)<5:=by omega
   have F6:=aa (HF.o q);have hbz:=aY.o.size
   have jk:am (∀ x:Int,f q=x->∀ W:World,Below w.heap.size w W->W.heap[w.heap.size]?=some (.cells #[.int .i64 g.n,.int .i64 g.h0,.int .i64 g.h1,.int .i64 g.h2,.int .i64 g.h3,.int .i64 g.h4] 139)->W.heap[w.heap.size+1]?=some (.cells zeroV 190)->(∃ y:Value,W.heap[w.heap.size+1+1]?=some (.cells ((vC p K 0 f q).setIfInBounds (3+q) y) 190))->∃ q':Nat,q'<=5/\Value.int .i64 ((q:Int)+1)=.int .i64 q'/\Below w.heap.size w (W.setCell ⟨w.heap.size+1+1,3+q,none⟩ (.int .i64 x))/\(W.setCell ⟨w.heap.size+1+1,3+q,none⟩ (.int .i64 x)).heap[w.heap.size]?=some (.cells #[.int .i64 g.n,.int .i64 g.h0,.int .i64 g.h1,.int .i64 g.h2,.int .i64 g.h3,.int .i64 g.h4] 139)/\(W.setCell ⟨w.heap.size+1+1,3+q,none⟩ (.int .i64 x)).heap[w.heap.size+1]?=some (.cells zeroV 190)/\(W.setCell ⟨w.heap.size+1+1,3+q,none⟩ (.int .i64 x)).heap[w.heap.size+1+1]?=some (.cells (vC p K 0 f q') 190)):=aa (by
    rintro x rfl W q1 q2 q3 ⟨y,q4⟩;refine⟨q+1,by omega,by go_num,q1.setCell (by dsimp only;omega) _,aO q2 (by omega) _ _,aO q3 (by omega) _ _,?_⟩
    rw[aI q4,Array.setIfInBounds_setIfInBounds,Pg _ _ _ _ _ aB])
   have HY:am (∃ y:Value,wr.heap[w.heap.size+1+1]?=some (.cells ((vC p K 0 f q).setIfInBounds (3+q) y) 190)):=aa ⟨_,HO.o.trans (congrArg (fun c=>some (Obj.cells c 190)) (DZ (x' p K 0 f q (3+q) (by omega))).symm)⟩;by_cases AQ:(q:Int)<g.n
   ·cases hb:hasB (g.hear p) q with
    | true=>
     obtain⟨b2,o2,rfl,⟨c2,_⟩⟩:=EB.o q (by have:=HN.o;omega);rw[Nat.mul_one]at c2;have d2:=ak aY.o c2;have aZ:=fk c2;dsimp only at aZ;have bG:¬ b2=w.heap.size+1+1:=by omega
     have hqnow:q<now.length:=by have:=HN.o;omega
     have vB:am (f q=now[q]):=aa (by rw[F6.o,if_pos ⟨AQ,hb⟩,az 0 hqnow]);generalize now[q]=x at d2 vB;clear c2
     go_wp2_with fail
     refine(mH (g.hear p) q (by omega) hh.1 (by omega) _).mono ?_;rintro e _ ⟨rfl,rfl⟩;rw[hb]
     go_wp2_with fail
     go_roundw
     ·exact jk.o x vB.o _ (aY.o.setCell (by dsimp only;omega) _) (aO HG.o (by omega) _ _) (aO HR.o (by omega) _ _) ⟨_,aI HO.o _ _⟩
     ·simp[intOf];omega
    | false=>
     have vB:am (f q=-1):=aa (by rw[F6.o,if_neg (by rw[hb];simp)])
     go_wp2_with fail
     refine(mH (g.hear p) q (by omega) hh.1 (by omega) _).mono ?_;rintro e _ ⟨rfl,rfl⟩;rw[hb]
     go_wp2_with fail
     go_roundw
     ·exact jk.o (-1) vB.o _ aY.o HG.o HR.o HY.o
     ·simp[intOf];omega
   ·have vB:am (f q=-1):=aa (by rw[F6.o,if_neg (fun h=>AQ h.1)])
    go_wp2_with fail
    go_roundw
    ·exact jk.o (-1) vB.o _ aY.o HG.o HR.o HY.o
    ·simp[intOf];omega
  ·obtain rfl:q=5:=by omega
   have tq:=ab hO;have HR:=aa hR;have HO:=aa hO;have zq:=fun o=>aH hR o
   have tq0:=ab hR;rw[KL]at tq;simp at tq0;clear hG hR hO
   go_wp2_with (refine wpList_store_row rfl 190 (.tmp 8) (.tmp 40) rfl (w.heap.size+1) #[.int .i64 p,.int .i64 K,.int .i64 0,.int .i64 (f 0),.int .i64 (f 1),.int .i64 (f 2),.int .i64 (f 3),.int .i64 (f 4)] rfl rfl 190 _ HR.o (by kernel_rfl) rfl (by simp[Value.oneCell']) ?_)
   exact bodyPost_ret (Ci _ _ 8 rfl (w.heap.size+1) _ ⟨p,K,0,f 0,f 1,f 2,f 3,f 4⟩ 190 rfl (setRow_heap _ _ _ _ _ _ HR.o)) rfl ⟨by rw[HV.o],below_setRow aA (by omega) _⟩
theorem aJ.rawK{w:World} {base size n:Nat} {e:TypeId} {v:Value} {xs:List Value} (h:aJ w base e size v n xs) (h1:∀ u∈xs,u.oneCell'=true):mJ w size v n xs:=by
 rcases h.2 with ⟨rfl,rfl⟩|⟨g,cap,cur,fz,rfl,_,hg,_,iL,_,_,ht⟩
 ·exact⟨none,0,rfl,fun _=>⟨rfl,rfl⟩,h.1,(fun j u hj=>by
   have:xs=[]:=List.eq_nil_of_length_eq_zero (by simpa using h.1)
   rw[this]at hj;simp at hj),h1⟩
 ·exact⟨some ⟨g,0,none⟩,cap,rfl,(fun e=>by cases e),h.1,fun j u hj=>by
   obtain⟨g',c',e1,e2⟩:=h.cell j u hj;injection e1 with e1
   injection e1 with e1
   injection e1 with e1
   subst e1
   exact⟨g,0,rfl,(by rw[Nat.zero_add];exact e2)⟩,h1⟩
theorem Cj{α:Type} {to ti:TypeId} {k:Nat} {flat:List α->List Value} {w:World} {base base':Nat} {v:Value} {l:List (List α)} (h:cB to ti k flat w base v l) (hb:base'<=base):cB to ti k flat w base' v l:=by
 obtain⟨xs,h1,h2⟩:=h;exact⟨xs,h1.base hb,fun i hi=>by obtain⟨x,q1,q2⟩:=h2 i hi;exact⟨x,q1,q2.base hb⟩⟩
def nM(a:Adv) (k:Nat) (m:Mv):List (List Rd):=(bY a k m.to.toNat).map (m.r :: ·)
theorem Kj(a:Adv) (k s:Nat):bY a (k+1) s=(a.states.getD s []).flatMap (nM a k):=rfl
def kD(a:Adv) (k:Nat) (mv:List Mv) (i:Nat):List (List Rd):=(mv.take i).flatMap (nM a k)
theorem Ph{α β:Type} (f:α->List β) (l:List α) (i:Nat) (hi:i<l.length):(l.take (i+1)).flatMap f=(l.take i).flatMap f++f l[i]:=by
 rw[List.take_succ_eq_append_getElem hi,List.flatMap_append];simp
theorem Gy{α β:Type} (f:α->List β) (l:List α) (i:Nat):((l.take i).flatMap f).length<=(l.flatMap f).length:=by
 conv=>rhs;rw[<-List.take_append_drop i l,List.flatMap_append,List.length_append]
 omega
theorem Ff(a:Adv) (fV:∀ s,s<a.states.length->∀ m∈a.states.getD s [],0<=m.to/\m.to<a.states.length):∀ (k:Nat) (st:Nat) (v:Value) (w:World),k<=64->st<a.states.length->(bY a k st).length<=4096->bz w v a.states →
  Calls Tryz.prog 157 #[.agg #[.int .i64 a.n,v],.int .i64 st,.int .i64 k] w fun r w'=>∃ u,r=.returned u/\uL w' w.heap.size u (bY a k st)/\Below w.heap.size w w'
 | 0,st,v,w,_,dS,_,hv=>by
  obtain⟨pa,ca,rfl,_⟩:=hv.at;clear hv
  go_enter Tryz.func157,Tryz.ntmps157
  go_wp2_with fail
  go_ret
  refine⟨_,rfl,⟨[.slice none 0 0],⟨rfl,.inr ⟨w.heap.size+1,1,_,(0,0),rfl,by omega,bu _ _ _,fun i _ h=>by have:=h.2;simp at this,Nat.le_refl _,by unfold maxLen;omega,rfl,rfl⟩⟩,fun i hi=>?_⟩,by go_grown⟩;obtain rfl:i=0:=by simp[bY]at hi;omega
  exact⟨_,rfl,aJ.nil _ _ _ _⟩
 | k+1,st,v,w,hk64,dS,cP,hv=>by
  have IH:=aa (Ff a fV k);obtain⟨i0,df,cH,cj,cI⟩:=info_parts Tryz.infoRound;have cG:=aa (And.intro df (And.intro cH (And.intro cj cI)));obtain⟨i1,oX,je,jx,iK⟩:=info_parts Tryz.infoWordRow;have tJ:=aa (And.intro oX (And.intro je (And.intro jx iK)));obtain⟨pa,ca,rfl,la1,la2,ea⟩:=hv.at;obtain⟨b1,o1,rfl,x1,c1,dJ⟩:=ea st dS;obtain⟨pm,cm,rfl,lm1,lm2,em⟩:=dJ.at;rw[Nat.mul_one]at c1;have HV:=aa hv;have C1:=aa c1;have EM:=aa em;have XC:am (∀ i (hi:i<(a.states[st]).length),0<=(a.states[st][i]).to/\(a.states[st][i]).to<a.states.length):=aa (fun i hi=>fV st dS _ (by rw[az [] dS];exact List.getElem_mem hi));rw[Kj,az [] dS]at cP ⊢;generalize a.states[st]=mv at c1 C1 EM XC lm1 lm2 cP dJ ⊢;have jR:am (∀ i (hi:i<mv.length),kD a k mv (i+1)=kD a k mv i++nM a k mv[i]):=aa (Ph (nM a k) mv);have tk:am (∀ i,(kD a k mv i).length<=(mv.flatMap (nM a k)).length):=aa (Gy (nM a k) mv)
  have CG:am (∀ i (hi:i<mv.length),(nM a k mv[i]).length+(kD a k mv i).length<=4096):=aa (fun i hi=>by
   have h1:=tk.o (i+1);rw[jR.o i hi,List.length_append]at h1
   omega)
  have HFE0:am (kD a k mv mv.length=mv.flatMap (nM a k)):=aa (by unfold kD;rw[List.take_length]);have HF00:am (kD a k mv 0=[]):=aa rfl;generalize mv.flatMap (nM a k)=FF at tk HFE0 cP ⊢;obtain⟨n,hn⟩:∃ n,mv.length=n:=⟨_,rfl⟩;have HN:=aa hn;obtain⟨ns,oH⟩:∃ ns,a.states.length=ns:=⟨_,rfl⟩;have HNS:=aa oH;rw[oH]at dS la1 la2 XC HV ⊢;clear hv ea em dJ oH df cH cj cI oX je jx iK;obtain⟨kz,hkz⟩:∃ kz:Int,((k+1:Nat):Int)=kz:=⟨_,rfl⟩;have eX:(kz == 0)=false:=beq_eq_false_iff_ne.2 (by omega);have HW1K:am (IntKind.i64.wrap (kz - 1)=(k:Int)):=aa (by rw[IntWalk.i64_in _ (by omega)];omega);rw[hkz];clear hkz
  go_enter Tryz.func157,Tryz.ntmps157
  go_wp2_with fail
  refine bF (fun W=>Below w.heap.size w W/\W.heap[w.heap.size]?=some (.cells #[.int .i64 a.n,.slice (some ⟨b1,o1,none⟩) ns ca] 27)) ⟨by go_grown,ap _ _⟩ (fun w1 jB=>?_);have gD:=aa jB.1;have dP:=aa jB.2;have fT:=aC jB.2;have hsz1:=jB.1.size;clear jB
  go_loopw [7,8] (fun o i wr=>∃ i':Nat,i'<=n/\i=.int .i64 i'/\Below w1.heap.size w1 wr/\uL wr w1.heap.size o (kD a k mv i')) (fun _ i _=>n - (intOf i).toNat)
  ·exact⟨0,by omega,rfl,Below.refl _ _,by rw[HF00.o];exact cB.nil _ _⟩
  ·
   obtain⟨i,hi,rfl,aA,qR⟩:=hrel;have aY:=aa aA;have dy:=ae gD.o aA;have tA:=ab (af aA dP.o);have tc:=ak dy C1.o;have hfr':=qR;obtain⟨xs0,FN,Qq⟩:=qR;obtain⟨po,co,rfl⟩:=FN.slice;have vL:=aa hfr';have Uh:=aa (FN.lt);clear hfr' FN Qq;by_cases aB:i<n
   ·have TD:i<mv.length:=by rw[HN.o];exact aB
    obtain⟨b2,o2,rfl,⟨⟨d0,_⟩,⟨d1,_⟩,⟨d2,_⟩,⟨d3,_⟩,⟨d4,_⟩,⟨d5,_⟩,⟨d6,_⟩⟩,⟨d7,_⟩⟩:=EM.o i TD;have d0:=ak dy d0;have d1:=ak dy d1;have d2:=ak dy d2;have d3:=ak dy d3;have d4:=ak dy d4;have d5:=ak dy d5;have d6:=ak dy d6;have d7:=ak dy d7;have LP:=aa (XC.o i TD);have JO:=aa (jR.o i TD);have FZ:=aa (CG.o i TD);generalize mv[i]=m at d0 d1 d2 d3 d4 d5 d6 d7 LP JO FZ;obtain⟨to,oM⟩:∃ to:Nat,m.to=to:=⟨m.to.toNat,by have:=LP.o;omega⟩;have hto2:to<ns:=by have:=LP.o;omega
    have Qv:=aa oM;rw[oM]at d7;have Sp:=HW1K.o;obtain⟨wrA,lN⟩:∃ x,x=wr:=⟨_,rfl⟩;subst lN;clear oM;have Ul:am (nM a k m=(bY a k to).map (m.r :: ·)):=aa (by unfold nM;rw[Qv.o,Int.toNat_natCast]);have hRL:(bY a k to).length<=4096:=by have h1:=FZ.o;rw[Ul.o,List.length_map]at h1;omega
    have tA2:=fun o=>ab (aq o (af aA dP.o))
    go_wp2_with fail
    refine aQ (fun W=>Below wrA.heap.size wrA W/\W.heap[wrA.heap.size]?=some (.cells #[.int .i64 m.r.g.n,.int .i64 m.r.g.h0,.int .i64 m.r.g.h1,.int .i64 m.r.g.h2,.int .i64 m.r.g.h3,.int .i64 m.r.g.h4,.int .i64 m.r.f,.int .i64 to] 143)) ⟨by go_grown,ap _ _⟩ (fun w4 yJ=>?_);have P6:=aa yJ.1;have eV:=aa yJ.2;have y9:=aC yJ.2;clear yJ d0 d1 d2 d3 d4 d5 d6 d7 tA tA2 tc;refine(IH.o to _ w4 (by omega) (by rw[HNS.o];exact hto2) hRL (HV.o.up up_moves (ae dy P6.o))).mono ?_;rintro r w5 ⟨u,rfl,hu,dB⟩;have HU:=aa hu;have kL:=aa dB;obtain⟨xs,dJ,ed⟩:=hu;obtain⟨pu,cu,rfl⟩:=dJ.slice;have kG:=aa dJ;have fZ:=aa ed;obtain⟨rs,I9⟩:∃ rs,bY a k to=rs:=⟨_,rfl⟩;rw[I9]at Ul hRL HU kG fZ ⊢;have hsz5:=dB.size;have HF5:=aa (vL.o.up (ae P6.o dB));have HBW5:=aa (ae aY.o (ae P6.o dB));have fG:=aa (af dB eV.o);have WI:am (∀ x∈rs,x.length=k):=aa (by rw[<-I9];exact kg a k to);have hszA:=aY.o.size;clear dJ ed I9 dB IH dy aA;obtain⟨LJ,PS⟩:∃ LJ:Nat->List (List Rd),LJ=fun j=>kD a k mv i++(rs.take j).map (m.r :: ·):=⟨_,rfl⟩
    have Lj:am (LJ 0=kD a k mv i):=aa (by rw[PS];simp);have Tr:am (∀ j (hj:j<rs.length),LJ (j+1)=LJ j++[m.r :: rs[j]]):=aa (fun j hj=>by rw[PS];dsimp only;rw[List.take_succ_eq_append_getElem hj,List.map_append,List.append_assoc];rfl);have Ua:am (LJ rs.length=kD a k mv (i+1)):=aa (by rw[PS];dsimp only;rw[List.take_length,JO.o,Ul.o])
    have HJL:am (∀ j,j<=rs.length->(LJ j).length<=4096/\(LJ j).length=(LJ 0).length+j):=aa (fun j hj=>by
     have h1:=FZ.o;rw[Ul.o,List.length_map]at h1;rw[PS];simp only[List.length_append,List.length_map,List.length_take,Nat.min_eq_left hj,List.take_zero,List.map_nil,List.length_nil]
     omega)
    clear PS;rw[<-Lj.o]at HF5 vL Uh ⊢
    go_wp2_with fail
    go_loopw [7,11] (fun o j wr=>∃ j':Nat,j'<=rs.length/\j=.int .i64 j'/\Below w1.heap.size w1 wr/\wr.heap[wrA.heap.size]?=some (.cells #[.int .i64 m.r.g.n,.int .i64 m.r.g.h0,.int .i64 m.r.g.h1,.int .i64 m.r.g.h2,.int .i64 m.r.g.h3,.int .i64 m.r.g.h4,.int .i64 m.r.f,.int .i64 to] 143)/\(∀ q,w4.heap.size<=q->q<w5.heap.size->wr.heap[q]?=w5.heap[q]?)/\w5.heap.size<=wr.heap.size/\(∀ g,o.ownBlock=some g->g<w4.heap.size\/w5.heap.size<=g)/\uL wr w1.heap.size o (LJ j')) (fun _ j _=>rs.length - (intOf j).toNat)
    ·exact⟨0,by omega,rfl,HBW5.o,fG.o,fun q _ _=>rfl,Nat.le_refl _,fun g hg=>.inl (by have:=(Uh.o g hg).2;omega),HF5.o⟩
    ·
     obtain⟨j,hj,rfl,FC,fi,hwin,hszj,oL,hfj⟩:=hrel;have K9:=aa FC;have SB:=aa fi;have S7:=aa hwin;have Ue:=aa oL;have HFJ:=aa hfj;obtain⟨ys,jx,iK⟩:=hfj;obtain⟨pq,cq,rfl⟩:=jx.slice;have rG:=aa jx;have vz:=aa iK;clear FC hwin oL jx iK;by_cases fH:j<rs.length
     ·obtain⟨x,Lx,qB⟩:=fZ.o j fH;obtain⟨g0,c0,e0,uW⟩:=kG.o.cell j x Lx;injection e0 with e0
      subst e0;have tt:=kG.o.lt g0 rfl
      have tx:wr.cell? ⟨g0,j,none⟩=some x:=by
       unfold World.cell? at uW ⊢;rw[S7.o g0 tt.1 tt.2];exact uW
      have JL:aJ wr w4.heap.size 141 7 x rs[j].length (cZ rs[j]):=qB.keep fun g o hg hh=>(S7.o g (qB.lt g hg).1 (qB.lt g hg).2).trans hh
      have iN:(rs[j]).length=k:=WI.o _ (List.getElem_mem fH);have yI:=aa (Tr.o j fH);have qq:=aa (HJL.o j (by omega));generalize rs[j]=word at JL iN yI qB;obtain⟨px,cx,rfl⟩:=JL.slice;have HRK:=aa (JL.rawK (sE word));have Ux:=aa iN;have t9:=ab fi;have tx2:=fun o=>ak (show Below wr.heap.size wr (wr.alloc o) by go_grown) tx
      have nR:Below wr.heap.size wr (wr.alloc (.cells m.r.c 141)):=by go_grown
      have rU:am (aJ (wr.alloc (.cells m.r.c 141)) wr.heap.size 141 7 (.slice (some ⟨wr.heap.size,0,none⟩) 1 1) 1 m.r.c.toList):=aa ⟨rfl,.inr ⟨wr.heap.size,1,_,(0,0),rfl,Nat.le_refl _,ap _ _,fun i _ h=>by have:=h.2;simp at this,Nat.le_refl _,by unfold maxLen;omega,rfl,rfl⟩⟩
      have HRK2:am (mJ (wr.alloc (.cells m.r.c 141)) 7 (.slice px word.length cx) word.length (cZ word)):=aa (by
       have h:=(JL.up nR).rawK (sE word)
       exact h)
      have j9:am (1+word.length<=maxLen):=aa (by rw[iN];unfold maxLen;omega);have eW:am ((1+word.length) * 56<=140737488355328):=aa (by rw[iN];omega);have HMX2:am ((LJ j).length+1<=maxLen):=aa (by have:=qq.o.1;unfold maxLen;omega);have HBY2:am (((LJ j).length+1) * 24<=140737488355328):=aa (by have:=qq.o.1;omega);have hBJs:=K9.o.size;clear qB JL iN uW Lx fi;have AR:=aa nR;clear nR tx
      go_wp2_with (at_builtin;first
                   | (refine kS _ rfl (.tmp 50) (.tmp 54) 87 rfl wr.heap.size 141 i0 _ 7 56 Tryz.underlying87 cG.o.1 cG.o.2.1 cG.o.2.2.1 cG.o.2.2.2 rfl (by decide) _ 1 m.r.c.toList rfl rU.o _ word.length (cZ word) rfl HRK2.o j9.o eW.o (by simp) ?_;intro v6 w6 fo eL hob6;obtain⟨av6,cv6,rfl⟩:=fo.slice;have Qs:=aa eL;have HO6:=aa fo;have Tz:=eL.size;simp only[World.size_alloc]at Tz;have I8:am (∀ q,q<wr.heap.size->w6.heap[q]?=wr.heap[q]?):=aa (fun q hq=>(Qs.o.block q (by simp;omega) (fun e=>by have e:=dE e;dsimp only at e;omega)).trans (Below.heap_alloc wr _ q hq));have Sb:am (aJ (w6.alloc (.cells #[.slice av6 (1+word.length) cv6] 87)) w1.heap.size 87 1 (.slice pq (LJ j).length cq) (LJ j).length ys):=aa ((((rG.o.up AR.o).apart rU.o (by decide) Qs.o)).up (show Below w6.heap.size w6 (w6.alloc (.cells #[.slice av6 (1+word.length) cv6] 87)) by go_grown));have bE:=aa (dU w6 [.slice av6 (1+word.length) cv6] 87);have HBS7:am (w1.heap.size<=(w6.alloc (.cells #[.slice av6 (1+word.length) cv6] 87)).heap.size):=aa (by simp;omega);clear fo eL hob6)
                   | (refine bh _ rfl (.tmp 49) (.tmp 56) 221 rfl w1.heap.size 87 i1 _ 1 24 Tryz.underlying221 tJ.o.1 tJ.o.2.1 tJ.o.2.2.1 tJ.o.2.2.2 rfl (by decide) _ (LJ j).length _ rfl Sb.o ⟨w6.heap.size,0,none⟩ 1 1 [.slice av6 (1+word.length) cv6] rfl rfl bE.o (by simp[Value.oneCell']) HMX2.o HBY2.o HBS7.o ?_;intro v9 w9 go eB Jn))
      have rT:=eB.size;simp only[World.size_alloc]at rT;have hxl2:(m.r :: word).length=1+word.length:=by simp;omega
      have hx6:aJ (w6.alloc (.cells #[.slice av6 (1+word.length) cv6] 87)) w1.heap.size 141 7 (.slice av6 (1+word.length) cv6) (m.r :: word).length (cZ (m.r :: word)):=by
       rw[hxl2];exact(HO6.o.base (show w1.heap.size<=wr.heap.size from hBJs)).up (show Below w6.heap.size w6 (w6.alloc (.cells #[.slice av6 (1+word.length) cv6] 87)) by go_grown)
      have jU:∀ i (hi:i<(LJ j).length),∃ x,ys[i]?=some x/\aJ (w6.alloc (.cells #[.slice av6 (1+word.length) cv6] 87)) w1.heap.size 141 7 x (LJ j)[i].length (cZ (LJ j)[i]):=fun i hi=>by
       obtain⟨x,q1,q2⟩:=vz.o i hi;exact⟨x,q1,(q2.keep fun g o hg hh=>(I8.o g (q2.lt g hg).2).trans hh).up (show Below w6.heap.size w6 (w6.alloc (.cells #[.slice av6 (1+word.length) cv6] 87)) by go_grown)⟩
      have hfr9:=cB.snoc Sb.o jU (by decide) hx6 eB go
      have zd:∀ q,q<wr.heap.size->(∀ g,(Value.slice pq (LJ j).length cq).ownBlock=some g->q≠g)->w9.heap[q]?=wr.heap[q]?:=fun q hq hn=>by
       rw[eB.block q (by simp;omega) (fun e=>hn q e.symm rfl),Below.heap_alloc w6 _ q (by omega)];exact I8.o q hq
      have hb69:Below w1.heap.size w1 (w6.alloc (.cells #[.slice av6 (1+word.length) cv6] 87)):=(Below.grown (ae K9.o AR.o) Qs.o (by simp;omega) (fun g hg=>by have e:=dE hg;dsimp only at e;omega)).alloc (by omega) _
      go_roundw
      ·
       refine⟨j+1,by omega,by go_num,Below.grown hb69 eB (by simp;omega) (fun g hg=>(Sb.o.lt g hg).1),?_,fun q h1 h2=>?_,by omega,fun g hg=>?_,by rw[yI.o];exact hfr9⟩
       ·exact(zd _ (aC SB.o) (fun g hg e=>rG.o.ne SB.o (by decide) g hg e.symm)).trans SB.o
       ·exact(zd q (by omega) (fun g hg e=>by rcases Ue.o g hg with h|h<;>omega)).trans (S7.o q h1 h2)
       ·rcases Jn with h|h
        ·exact Ue.o g (h ▸ hg)
        ·rw[h]at hg;have e:=dE hg;simp at e;exact .inr (by omega)
      ·simp[intOf];omega
     ·obtain rfl:j=rs.length:=by omega
      rw[Ua.o]at HFJ rG ⊢
      go_wp2_with fail
      go_roundw
      ·exact⟨i+1,by omega,by go_num,K9.o,HFJ.o⟩
      ·simp[intOf];omega
   ·obtain rfl:i=n:=by omega
    have X3:am (uL wr w1.heap.size (.slice po (kD a k mv i).length co) FF):=aa (by have h:=vL.o;rwa [<-HFE0.o,HN.o])
    go_wp2_with fail
    go_ret
    exact⟨_,rfl,Cj X3.o (by omega),ae gD.o aY.o⟩
end Go.Proofs.YtmeaoneaephjeaaGreatDoor
namespace Go.Proofs.YtmeaoneaephjeaaGreatDoor
def D5(r:Rd):List Rd->List Rd
 | []=>[r]
 | x :: l=>if roundC r x<0 then r :: x :: l else if roundC r x=0 then x :: l else x :: D5 r l
def Bh(a:Adv):List Rd:=(a.states.flatMap fun l=>l.map (·.r)).foldr D5 []
theorem RF(a:List Int):∀ b,ordV a b=0↔a=b:=by
 induction a with
 | nil=>intro b;cases b<;>simp[ordV]
 | cons x r ih=>
  intro b;cases b with
  | nil=>simp[ordV]
  | cons y s=>
   rw[ordV];have:=ih s;rw[List.cons.injEq]
   grind
theorem RG{a b:Rd} (h:a.list=b.list):a=b:=by
 obtain⟨⟨_,_,_,_,_,_⟩,_⟩:=a;obtain⟨⟨_,_,_,_,_,_⟩,_⟩:=b;simp[Rd.list]at h;simp[h]
theorem My(a b:Rd):roundC a b=0↔a=b:=by
 rw[JX,RF];exact⟨RG,fun h=>by rw[h]⟩
theorem RH(r x:Rd) (l:List Rd):x∈D5 r l↔x=r\/x∈l:=by
 induction l with
 | nil=>simp[D5]
 | cons y l ih=>
  unfold D5;by_cases h1:roundC r y<0
  ·simp[h1]
  ·by_cases h2:roundC r y=0
   ·have:=(My r y).1 h2;subst this;simp[h2]
   ·simp only[if_neg h1,if_neg h2,List.mem_cons,ih]
    grind
theorem Ah(a:Adv) (x:Rd):x∈Bh a↔∃ l∈a.states,∃ m∈l,m.r=x:=by
 unfold Bh
 have key:∀ l:List Rd,x∈l.foldr D5 []↔x∈l:=by
  intro l;induction l with
  | nil=>simp
  | cons y l ih=>rw[List.foldr_cons,RH,ih,List.mem_cons]
 rw[key];simp
structure OkR (n:Int) (r:Rd):Prop where
 gn:r.g.n=n
 h:∀ q,q<5->0<=r.g.hear q/\r.g.hear q<32
 z:∀ q:Nat,n<=q->q<5->r.g.hear q=0
 n1:1<=n/\n<=5
 f:0<=r.f/\r.f<32
theorem RI{g:Gr} (h:gS g=0):(∀ q,q<5->0<=g.hear q/\g.hear q<32)/\(∀ q:Nat,g.n<=q->q<5->g.hear q=0)/\1<=g.n/\g.n<=5:=by
 unfold gS at h;split at h
 ·omega
 rename_i h1;have h2:=fB h;have hn:g.n=1\/g.n=2\/g.n=3\/g.n=4\/g.n=5:=by omega
 have key:∀ q,q<5->(0<=g.hear q/\g.hear q<32)/\(g.n<=(q:Int)->g.hear q=0):=fun q hq=>by
  have h3:=h2 q hq;unfold mr at h3;split at h3
  ·split at h3
   ·omega
   ·rename_i h4;exact⟨by omega,fun _=>by omega⟩
  ·split at h3
   ·omega
   ·rename_i h4 h5;refine⟨?_,fun e=>absurd e h4⟩;rcases hn with e|e|e|e|e<;>rw[e]at h5<;>simp at h5<;>omega
 exact⟨fun q hq=>(key q hq).1,fun q hn hq=>(key q hq).2 hn,by omega,by omega⟩
theorem Pi{a:Adv} (ha:advE a=0) {r:Rd} (h:r∈Bh a):OkR a.n r:=by
 obtain⟨l,hl,m,hm,rfl⟩:=(Ah a r).1 h;obtain⟨s,hs,rfl⟩:=List.getElem_of_mem hl;obtain⟨j,hj,rfl⟩:=List.getElem_of_mem hm;have h1:=(ik ha).2.1 s hs;rw[show a.states.getD s []=a.states[s] by simp[hs]]at h1;unfold stateE at h1;rw[if_neg (by omega)]at h1;have h2:=fB h1 j hj;have hf:=(DC h2).1;unfold dW at h2;rw[show a.states[s].getD j default=a.states[s][j] by simp[hj]]at h2 hf;split at h2
 ·rename_i h3;exact absurd h2 h3
 rename_i h3;split at h2
 ·omega
 rename_i h4;have h5:roundE a.states[s][j].r=0:=by simpa using h3
 unfold roundE at h5;split at h5
 ·rename_i h6;exact absurd h5 h6
 rename_i h6;obtain⟨g1,g2,g3,g4⟩:=RI (by simpa using h6);have hn:a.states[s][j].r.g.n=a.n:=by simpa using h4
 rw[hn]at g2 g3 g4;exact⟨hn,g1,g2,⟨g3,g4⟩,hf⟩
end Go.Proofs.YtmeaoneaephjeaaGreatDoor
namespace Go.Proofs.YtmeaoneaephjeaaGreatDoor
open Go.RowKit Go Go.Shelf
theorem yg{w:World} {base:Nat} {v:Value} {l:List Vw} (h:aJ w base 190 8 v l.length (eZ l)) (hx:∀ u∈l,jO u) (hn:l.length<=17592186044416):mX w v l:=by
 have aT:=fun i (hi:i<l.length) j (u:Value) (hj:j<8) (hu:l[i].c[j]?=some u)=>h.cell (i * 8+j) u (by unfold eZ;rw[pH Vw.c 8 (fun _=>rfl) l i j hi hj];exact hu)
 rcases h.2 with ⟨hz,h0⟩|⟨g,cap,cur,fz,rfl,_,hg,_,kE,jc,_⟩
 ·refine⟨none,0,by rw[hz,h0],⟨by omega,by omega,fun _=>rfl⟩,hn,fun i x hi=>?_⟩;have:=(List.getElem?_eq_some_iff.1 hi).1;omega
 ·refine⟨some ⟨g,0,none⟩,cap,rfl,⟨kE,by simp only[maxLen]at jc;omega,fun e=>by cases e⟩,hn,fun i x hi=>⟨g,0,rfl,?_⟩⟩;obtain⟨gX,rfl⟩:=List.getElem?_eq_some_iff.1 hi;obtain⟨r0,r1,r2,r3,r4,r5,r6,r7⟩:=hx _ (List.getElem_mem gX)
  have key:∀ j u,j<8->l[i].c[j]?=some u->w.cell? ⟨g,0+i * 8+j,none⟩=some u:=fun j u hj hu=>by
   obtain⟨g',c',e1,e2⟩:=aT i gX j u hj hu;have:g=g':=by simp at e1;exact e1.1
   rw[this,Nat.zero_add];exact e2
  exact⟨⟨key 0 _ (by omega) rfl,r0⟩,⟨key 1 _ (by omega) rfl,r1⟩,⟨key 2 _ (by omega) rfl,r2⟩,⟨key 3 _ (by omega) rfl,r3⟩,⟨key 4 _ (by omega) rfl,r4⟩,⟨key 5 _ (by omega) rfl,r5⟩,⟨key 6 _ (by omega) rfl,r6⟩,⟨key 7 _ (by omega) rfl,r7⟩⟩
structure ExGood (x:Ex):Prop where
 c:bS x.c
 word:x.word.length<=6/\∀ r∈x.word,pI r
 views:x.views.length<=7/\(∀ row∈x.views,row.length<=5)/\∀ row∈x.views,∀ z∈row,bS z
theorem KM{w:World} {base:Nat} {v:Value} {l:List Ex} {xs:List Value} (h:aJ w base 89 3 v l.length xs) (hx:∀ i (hi:i<l.length),zy w base xs i l[i]) (hg:∀ x∈l,ExGood x) (hn:l.length<=17592186044416):zx w v l:=by
 have aT:=fun j (u:Value) (hu:xs[j]?=some u)=>h.cell j u hu
 rcases h.2 with ⟨hz,h0⟩|⟨g,cap,cur,fz,rfl,_,m8,_,kE,jc,_⟩
 ·refine⟨none,0,by rw[hz,h0],⟨by omega,by omega,fun _=>rfl⟩,hn,fun i x hi=>?_⟩;have:=(List.getElem?_eq_some_iff.1 hi).1;omega
 ·refine⟨some ⟨g,0,none⟩,cap,rfl,⟨kE,by simp only[maxLen]at jc;omega,fun e=>by cases e⟩,hn,fun i x hi=>⟨g,0,rfl,?_⟩⟩;obtain⟨gX,rfl⟩:=List.getElem?_eq_some_iff.1 hi;obtain⟨a,b,p1,p2,p3,p4,p5⟩:=hx i gX;have lB:=hg _ (List.getElem_mem gX)
  have key:∀ j u,xs[i * 3+j]?=some u->w.cell? ⟨g,0+i * 3+j,none⟩=some u:=fun j u hu=>by
   obtain⟨g',c',e1,e2⟩:=aT _ u hu;have:g=g':=by simp at e1;exact e1.1
   rw[this,Nat.zero_add];exact e2
  refine⟨⟨key 0 _ p1,lB.c⟩,⟨a,key 1 _ p2,rC p4 (fun i hi=>lB.word.2 _ (List.getElem_mem hi)) (by have:=lB.word.1;omega)⟩,⟨b,key 2 _ p3,nL p5 lB.views.2.2 (by have:=lB.views.1;omega) (fun x hx=>by have:=lB.views.2.1 x hx;omega)⟩⟩
theorem uj(n:Nat) (inp:List Int) (word:List Rd) (tb:List Vw):∀ k,∀ row∈(playTo n inp word tb k).2,row.length=n
 | 0=>fun row hr=>by
  have h:=(iB n inp word tb 0).2.1;have e:(playTo n inp word tb 0).2=[(uC n inp tb).2]:=rfl;rw[e]at hr h;rw[List.mem_singleton]at hr;subst hr;exact h
 | k+1=>fun row hr=>by
  have h:=(iB n inp word tb (k+1)).2.1;have e:(playTo n inp word tb (k+1)).2=(playTo n inp word tb k).2++[(addAll (playTo n inp word tb k).1 (fJ n k (word.getD k default) ((playTo n inp word tb k).2.getLastD []))).2]:=rfl;rw[e]at hr h;rw[List.getLastD_concat]at h;rcases List.mem_append.1 hr with hr|hr
  ·exact uj n inp word tb k row hr
  ·rw[List.mem_singleton]at hr;subst hr;exact h
theorem Bi{p:Pb} (h:probE p=0) (hc:∀ c∈p.t.cases,∀ y∈c.inp,bS y) (hw:∀ x∈aP p,∀ r∈x,pI r) (ht:(execsS p (aP p) (fh p)).1.length<=8192):∀ i,i<=p.t.cases.length * (aP p).length->(∀ v∈(stP p i).1,jO v)/\∀ x∈(stP p i).2,ExGood x
 | 0,_=>⟨fun v hv=>by simp[stP,execsS]at hv,fun x hx=>by simp[stP,execsS]at hx⟩
 | i+1,hi=>by
  obtain⟨h1,h2⟩:=Bi h hc hw ht i (by omega);obtain⟨nj,_,_,rO,qi⟩:=gH h;obtain⟨⟨_,jz⟩,_,_,⟨_,bU⟩,fV⟩:=fm nj;have k8:(stP p i).1.length<=8192:=Nat.le_trans (wQ p (aP p) (fh p) i) ht;have aB:i<p.t.cases.length * (aP p).length:=by omega
  have oN:0<(aP p).length:=by
   rcases Nat.eq_zero_or_pos (aP p).length with h|h
   ·rw[h]at aB;simp at aB
   ·exact h
  have hci:i / (aP p).length<p.t.cases.length:=by rw[Nat.div_lt_iff_lt_mul oN];exact aB
  have hj:i % (aP p).length<(aP p).length:=Nat.mod_lt _ oN;have dS:=wl p i aB;unfold kh at dS;dsimp only at dS;rw[az default hci,az [] hj]at dS
  have Qw:((aP p)[i % (aP p).length]).length<=6:=by
   have:=kg p.a p.rounds.toNat 0 _ (List.getElem_mem (l:=aP p) hj);omega
  have cY:=xZ p.t.n.toNat (by omega) (p.t.cases[i / (aP p).length]).inp (hc _ (List.getElem_mem hci)) (aP p)[i % (aP p).length] (stP p i).1 h1 _ Qw (by omega);have hrows:=uj p.t.n.toNat (p.t.cases[i / (aP p).length]).inp (aP p)[i % (aP p).length] (stP p i).1 ((aP p)[i % (aP p).length]).length;have cP:=(iB p.t.n.toNat (p.t.cases[i / (aP p).length]).inp (aP p)[i % (aP p).length] (stP p i).1 ((aP p)[i % (aP p).length]).length).1;rw[dS];refine⟨cY.1,fun x hx=>?_⟩;rcases List.mem_append.1 hx with hx|hx
  ·exact h2 x hx
  ·rw[List.mem_singleton]at hx;subst hx;exact⟨uN _ (by omega),⟨Qw,hw _ (List.getElem_mem hj)⟩,by simp only[gu];omega,fun row hr=>by have:=hrows row hr;omega,fun row hr z hz=>by have:=cY.2 row hr z hz;exact⟨by omega,by omega⟩⟩
end Go.Proofs.YtmeaoneaephjeaaGreatDoor
namespace Go.Proofs.YtmeaoneaephjeaaGreatDoor
open Go.RowKit Go Go.Shelf
attribute [local go_sem] Oper.semAt_some
def Yf(base:Nat) (l:List Vw):MP:=⟨fun x W=>aJ W base 190 8 x l.length (eZ l),fun _ _ _ h hb=>h.up hb⟩
def Yn(base:Nat) (v:Vw):MP:=⟨fun x W=>∃ b,x=.slice (some ⟨b,0,none⟩) 1 1/\base<=b/\W.heap[b]?=some (.cells v.c 190),fun _ _ _ h hb=>by obtain⟨b,e,h1,h2⟩:=h;exact⟨b,e,h1,af hb h2⟩⟩
theorem Ai(tmps:Array Value) (B:Nat) (W:World) (n i:Int) (u:Value) (h4:tmps[4]?.getD undef=.pointer (some ⟨B,0,none⟩)) (h5:tmps[5]?.getD undef=.int .i64 i)
  (hB:W.heap[B]?=some (.cells #[.int .i64 n,u] 32)):(results Tryz.f160 tmps).run Tryz.prog W=.ok (.tuple #[.agg #[.int .i64 n,u],.int .i64 i]) W:=by
 have t2:=ab hB;simp[results,Tryz.results160,go_sem,h4,h5,t2]
structure PtR (w:World) (base b2 b4 b7:Nat) (n:Int) (ot u1:Value) (len m:Nat) (xs:List Value) (D:Nat->Bool) (x:Nat->Value) (W:World):Prop where
 old:Below w.heap.size w W
 r7:W.heap[b7]?=some (.cells #[.int .i64 n,u1] 32)
 r2:W.heap[b2]?=some (.cells #[.int .i64 n,ot] 32)
 r4:W.heap[b4]?=some (.cells (if D 4 then #[.int .i64 n,u1] else #[.int .i64 0,.slice none 0 0]) 32)
 own:aJ W base 190 8 u1 m xs
 v0:D 0=true->x 0=.agg #[.int .i64 n,u1]
 v1:D 1=true->x 1=.pointer (some ⟨b2,1,none⟩)
 v2:D 2=true->x 2=ot
 v3:D 3=true->x 3=.int .i64 len
 v5:D 5=true->x 5=.int .i64 len
theorem PtR.set{w:World} {base b2 b4 b7:Nat} {n:Int} {ot u1:Value} {len m:Nat} {xs:List Value} {D:Nat->Bool} {x:Nat->Value} {W:World} (h:PtR w base b2 b4 b7 n ot u1 len m xs D x W) (i:Nat) (hi:i≠4) (v:Value)
  (hv:(i=0->v=.agg #[.int .i64 n,u1])/\(i=1->v=.pointer (some ⟨b2,1,none⟩))/\(i=2->v=ot)/\(i=3\/i=5->v=.int .i64 len)):PtR w base b2 b4 b7 n ot u1 len m xs (bI D i) (cF x i v) W:=by
 have key:∀ j,bI D i j=true->(j=i/\cF x i v j=v)\/(j≠i/\D j=true/\cF x i v j=x j):=fun j hj=>by
  by_cases e:j=i
  ·subst e;exact .inl ⟨rfl,fx _ _ _⟩
  ·exact .inr ⟨e,by simpa[bI,e] using hj,fQ _ _ e⟩
 refine⟨h.old,h.r7,h.r2,by rw[show bI D i 4=D 4 by simp[bI,show ¬ (4=i) by omega]];exact h.r4,h.own,fun hd=>?_,fun hd=>?_,fun hd=>?_,fun hd=>?_,fun hd=>?_⟩
 ·rcases key 0 hd with ⟨e,h1⟩|⟨_,h1,h2⟩
  ·rw[h1];exact hv.1 e.symm
  ·rw[h2];exact h.v0 h1
 ·rcases key 1 hd with ⟨e,h1⟩|⟨_,h1,h2⟩
  ·rw[h1];exact hv.2.1 e.symm
  ·rw[h2];exact h.v1 h1
 ·rcases key 2 hd with ⟨e,h1⟩|⟨_,h1,h2⟩
  ·rw[h1];exact hv.2.2.1 e.symm
  ·rw[h2];exact h.v2 h1
 ·rcases key 3 hd with ⟨e,h1⟩|⟨_,h1,h2⟩
  ·rw[h1];exact hv.2.2.2 (.inl e.symm)
  ·rw[h2];exact h.v3 h1
 ·rcases key 5 hd with ⟨e,h1⟩|⟨_,h1,h2⟩
  ·rw[h1];exact hv.2.2.2 (.inr e.symm)
  ·rw[h2];exact h.v5 h1
theorem PtR.store{w:World} {base b2 b4 b7:Nat} {n:Int} {ot u1:Value} {len m:Nat} {xs:List Value} {D:Nat->Bool} {x:Nat->Value} {W:World} (h:PtR w base b2 b4 b7 n ot u1 len m xs D x W) (hw:w.heap.size<=b4) (h2:b2≠b4) (h7:b7≠b4) (v:Value):PtR w base b2 b4 b7 n ot u1 len m xs (bI D 4) (cF x 4 v) (W.setRow b4 #[.int .i64 n,u1]):=by
 have k:∀ j,j≠4->bI D 4 j=D j:=fun j hj=>by simp[bI,hj]
 have l:∀ j,j≠4->cF x 4 v j=x j:=fun j hj=>fQ _ _ hj
 refine⟨below_setRow h.old hw _,by rw[setRow_other _ _ _ _ h7];exact h.r7,by rw[setRow_other _ _ _ _ h2];exact h.r2,?_,h.own.keep fun g o hg ho=>?_,?_,?_,?_,?_,?_⟩
 ·rw[show bI D 4 4=true by simp[bI]];exact setRow_heap _ _ _ _ _ _ h.r4
 ·rw[setRow_other _ _ _ _ (h.own.ne h.r4 (by decide) g hg)];exact ho
 all_goals rw[k _ (by omega),l _ (by omega)]
 ·exact h.v0
 ·exact h.v1
 ·exact h.v2
 ·exact h.v3
 ·exact h.v5
theorem RJ(n:Int) (tab:List Vw) (vt:Value) (v:Vw) (base:Nat) (w:World) (my:base<=w.heap.size) (ht:aJ w base 190 8 vt tab.length (eZ tab)) (cY:∀ u∈tab,jO u) (hl:tab.length<=1048576) :
  Calls Tryz.prog 160 #[.agg #[.int .i64 n,vt],v.v] w fun r w'=>(∃ u,r=.returned (.tuple #[.agg #[.int .i64 n,u],.int .i64 ((putV tab v).2:Nat)])/\aJ w' base 190 8 u (putV tab v).1.length (eZ (putV tab v).1))/\Below w.heap.size w w':=by
 obtain⟨pt,ct,rfl⟩:=ht.slice;obtain⟨i0,df,cH,cj,cI⟩:=info_parts Tryz.infoView;have cG:=aa (And.intro df (And.intro cH (And.intro cj cI)));have HT:=aa ht;have qn:=aa (fun W (hb:Below w.heap.size w W)=>Kh n tab _ v W (yg (ht.up hb) cY (by omega)));have Jb:=aa (Mw tab v);generalize putV tab v=pv at Jb ⊢;generalize viewIx tab v=ix at qn Jb;have HMX0:am (0+tab.length<=maxLen):=aa (by unfold maxLen;omega);have HBY0:am ((0+tab.length) * 64<=140737488355328):=aa (by omega);have HMX1:am (tab.length+1<=maxLen):=aa (by unfold maxLen;omega);have HBY1:am ((tab.length+1) * 64<=140737488355328):=aa (by omega);clear ht df cH cj cI cY
 go_enter Tryz.func160,Tryz.ntmps160
 go_wp2_with fail
 refine aQ (fun W=>Below w.heap.size w W/\W.heap[w.heap.size]?=some (.cells #[.int .i64 n,.slice pt tab.length ct] 32)/\W.heap[w.heap.size+1]?=some (.cells v.c 190)/\W.heap[w.heap.size+1+1]?=some (.cells #[.int .i64 0,.slice none 0 0] 32)) ⟨by go_grown,aq _ (aq _ (ap _ _)),aq _ (bu _ _ _),eD _ _ _ _⟩ (fun W0 bd=>?_);obtain⟨aK,h2,h3,h4⟩:=bd;refine(qn.o W0 aK).mono ?_;rintro r w1 ⟨rfl,aM⟩;have bL:=aa (ae aK aM);have fZ:=aa (af aM h2);have iX:=aa (af aM h3);have kK:=aa (af aM h4);have SM:=aa (HT.o.up (ae aK aM));have fT:=aC kK.o;have t2:=ab fZ.o;have t4:=ab kK.o;have z4:=aH kK.o;clear aK h2 h3 h4 aM qn;by_cases PW:0<=ix
 ·have HE:am (pv=(tab,ix.toNat)/\ix<tab.length):=aa (by rcases Jb.o with h|h;omega;exact h.2);have hd:decide (ix ≥ 0)=true:=decide_eq_true PW;have gm:decide (0<=ix)=true:=decide_eq_true PW
  go_wp2_with fail
  have cA:((w1.setCell ⟨w.heap.size+1+1,0,none⟩ (.int .i64 n)).setCell ⟨w.heap.size+1+1,1,none⟩ (.slice pt tab.length ct)).heap[w.heap.size+1+1]?=some (.cells #[.int .i64 n,.slice pt tab.length ct] 32):=(aI (aI kK.o _ _) _ _).trans rfl;have e1:=HE.o.1;subst e1;refine bodyPost_ret (Ai _ (w.heap.size+1+1) _ n ix _ rfl rfl cA) rfl ⟨⟨.slice pt tab.length ct,?_,?_⟩,(bL.o.setCell (by dsimp only;omega) _).setCell (by dsimp only;omega) _⟩
  ·dsimp only;rw[Int.toNat_of_nonneg PW]
  ·have bR:∀ g,(Value.slice pt tab.length ct).ownBlock=some g->g≠w.heap.size+1+1:=fun g hg=>by have:=(HT.o.lt g hg).2;omega
   exact(SM.o.put bR _ _).put bR _ _
 ·have HE:am (pv=(tab++[v],tab.length)):=aa (by rcases Jb.o with h|h;exact h.2;omega);have hd:decide (ix ≥ 0)=false:=decide_eq_false PW;have gm:decide (0<=ix)=false:=decide_eq_false PW
  go_wp2_with fail
  refine bF (fun W=>Below w1.heap.size w1 W/\W.heap[w1.heap.size]?=some (.cells #[.int .i64 n,.slice none 0 0] 32)) ⟨by go_grown,ap _ _⟩ (fun W1 cO=>?_);have gD:=aa cO.1;have De:=aa cO.2;have xg:=aC cO.2;have fZ:=aa (af cO.1 fZ.o);have iX:=aa (af cO.1 iX.o);have kK:=aa (af cO.1 kK.o);have Lw:=aa (SM.o.up cO.1);have hsW:=cO.1.size;have eN:=aa (ae bL.o cO.1);clear cO SM Jb t2 t4 z4;obtain⟨b2,aZ⟩:∃ b2,w.heap.size=b2:=⟨_,rfl⟩;obtain⟨b3,bG⟩:∃ b3,w.heap.size+1=b3:=⟨_,rfl⟩;obtain⟨b7,vE⟩:∃ b7,w1.heap.size=b7:=⟨_,rfl⟩;rw[bG]at iX;rw[aZ]at fZ;rw[vE]at De ⊢;rw[aZ,show b2+1=b3 by omega];have hS:List.Nodup [18,19,20,21,22,23,24]:=by decide
  refine ge 7 [18,19,20,21,22,23,24] [MP.eq (.pointer (some ⟨b7,1,none⟩)),MP.eq (.slice none 0 0),MP.eq (.pointer (some ⟨b2,1,none⟩)),MP.eq (.slice pt tab.length ct),Yf W1.heap.size tab,MP.eq (v.v),Yn W1.heap.size v] (by kernel_rfl) (by simp) hS rfl (by kernel_rfl) (by kernel_rfl) (by kernel_rfl) ?step ?tail
  case step=>
   intro xq Wq iq oq sq F hi ho hs hB ar hF;rcases (show iq=0\/iq=1\/iq=2\/iq=3\/iq=4\/iq=5\/iq=6 by omega) with rfl|rfl|rfl|rfl|rfl|rfl|rfl
   all_goals (obtain rfl:=dE ho.symm;obtain rfl:=dE hs.symm;clear hi ho hs)
   ·obtain⟨g7,h7⟩:=dr hF 7 (.pointer (some ⟨b7,0,none⟩)) (by decide) rfl;clear hF ar
    go_wp2_with fail
    exact bA.mk _ (Below.refl _ _) rfl rfl
   ·obtain⟨e0,f0⟩:=aW hF 0 18 _ hS rfl (by kernel_rfl) (ar ⟨0,.data⟩ (by simp) rfl);have tb:=ab (af hB De.o) 1;simp at tb;clear hF ar
    go_wp2_with fail
    exact bA.mk _ (Below.refl _ _) rfl rfl
   ·obtain⟨g2,h2⟩:=dr hF 2 (.pointer (some ⟨b2,0,none⟩)) (by decide) rfl;clear hF ar
    go_wp2_with fail
    exact bA.mk _ (Below.refl _ _) rfl rfl
   ·obtain⟨e2,f2⟩:=aW hF 2 20 _ hS rfl (by kernel_rfl) (ar ⟨2,.data⟩ (by simp) rfl);have tb:=ab (af hB fZ.o) 1;simp at tb;clear hF ar
    go_wp2_with fail
    exact bA.mk _ (Below.refl _ _) rfl rfl
   ·obtain⟨e1,f1⟩:=aW hF 1 19 _ hS rfl (by kernel_rfl) (ar ⟨1,.data⟩ (by simp) rfl);obtain⟨e3,f3⟩:=aW hF 3 21 _ hS rfl (by kernel_rfl) (ar ⟨3,.data⟩ (by simp) rfl);have HRK:=aa ((Lw.o.up hB).rawK (Fb tab));have HBSz:=aa (hB.size);clear hF ar;refine kS _ rfl (.tmp 19) (.tmp 21) 30 rfl W1.heap.size 190 i0 _ 8 64 Tryz.underlying30 cG.o.1 cG.o.2.1 cG.o.2.2.1 cG.o.2.2.2 rfl (by decide) _ 0 [] (by first|exact e1|exact f1) (aJ.nil _ _ _ _) _ tab.length (eZ tab) (by first|exact e3|exact f3) HRK.o HMX0.o HBY0.o HBSz.o ?_;intro v9 w9 jy AB Jn;have nr:=aa jy;have Qz:=aa (Below.grown (Below.refl Wq.heap.size Wq) AB (Nat.le_refl _) (fun g hg=>by cases hg));clear jy AB Jn;exact bA.mk _ Qz.o (by have h:=nr.o;rw[Nat.zero_add,List.nil_append]at h;exact h) rfl
   ·obtain⟨g3,h3⟩:=dr hF 3 (.pointer (some ⟨b3,0,none⟩)) (by decide) rfl;have tb:=ab (af hB iX.o);clear hF ar
    go_wp2_with fail
    exact bA.mk _ (Below.refl _ _) rfl rfl
   ·obtain⟨e5,f5⟩:=aW hF 5 23 _ hS rfl (by kernel_rfl) (ar ⟨5,.data⟩ (by simp) rfl);clear hF ar
    go_wp2_with fail
    exact bA.mk _ (by go_grown) ⟨_,rfl,hB.size,ap _ _⟩ rfl
  case tail=>
   clear hS;intro xq Wq F hB aT hF;have d4:aJ Wq W1.heap.size 190 8 (xq 4) tab.length (eZ tab):=aT 4 (by omega);obtain⟨bn,e6,hbn1,hbn2⟩:∃ b,xq 6=.slice (some ⟨b,0,none⟩) 1 1/\W1.heap.size<=b/\Wq.heap[b]?=some (.cells v.c 190):=aT 6 (by omega);clear aT;obtain⟨a4,c4,e4⟩:=d4.slice;rw[e4]at d4;simp only[bC,da,List.setIfInBounds_toArray,List.set_cons_succ,List.set_cons_zero,Nat.reduceAdd]at hF;rw[e4,e6]at hF;generalize xq 0=s0,xq 1=s1,xq 2=s2,xq 3=s3,xq 5=s5 at hF;subst hF;have yu:=aa d4;have HBq:=aa hB
   have bE:am (∀ j u,v.c.toList[j]?=some u->Wq.cell? (Addr.add ⟨bn,0,none⟩ j)=some u):=aa (fun j u hj=>by
    have:(Addr.add ⟨bn,0,none⟩ j)=⟨bn,j,none⟩:=by unfold Addr.add;split<;>simp_all
    rw[this,ab hbn2]
    simpa using hj)
   have HBSq:am (W1.heap.size<=Wq.heap.size):=aa hB.size;have hX7:=af hB De.o;have S6:=aa hX7;have HX2q:=aa (af hB fZ.o);have HX4q:=aa (af hB kK.o);have hsq:=hB.size;clear d4 e4 e6 hB hbn2 hX7;simp only[List.drop_succ_cons,List.drop_zero]
   go_wp2_with (at_builtin;(refine bh _ rfl (.tmp 22) (.tmp 24) 30 rfl W1.heap.size 190 i0 _ 8 64 Tryz.underlying30 cG.o.1 cG.o.2.1 cG.o.2.2.1 cG.o.2.2.2 rfl (by decide) _ tab.length _ rfl yu.o ⟨bn,0,none⟩ 1 1 v.c.toList rfl rfl bE.o (by simp[Value.oneCell']) HMX1.o HBY1.o HBSq.o ?_;intro v9 w9 go eB Jn;obtain⟨av9,cv9,rfl⟩:=go.slice;have As:=(eB.block b7 (aC S6.o) (fun e=>yu.o.ne S6.o (by decide) b7 e.symm rfl)).trans S6.o;have c7:=ab As;have f7:=aH As))
   obtain⟨W3,mh⟩:∃ W3,W3=w9.setCell ⟨b7,1,none⟩ (.slice av9 (tab.length+1) cv9):=⟨_,rfl⟩;rw[<-mh];have h37:W3.heap[b7]?=some (.cells #[.int .i64 n,.slice av9 (tab.length+1) cv9] 32):=by rw[mh];exact(aI As _ _).trans rfl
   have im:∀ k,k≠b7->k<Wq.heap.size->∀ c,Wq.heap[k]?=some (.cells c 32)->W3.heap[k]?=some (.cells c 32):=fun k h1 h2 c h3=>by
    rw[mh];exact aO ((eB.block k h2 (fun e=>yu.o.ne h3 (by decide) k e.symm rfl)).trans h3) h1 _ _
   have FI:=im b2 (by omega) (aC HX2q.o) _ HX2q.o;have h34:=im (w.heap.size+1+1) (by omega) (aC HX4q.o) _ HX4q.o
   have h3o:aJ W3 base 190 8 (.slice av9 (tab.length+1) cv9) (tab.length+1) (eZ (tab++[v])):=by
    rw[mh,Fa];have h:=(go.base (show base<=W1.heap.size by omega)).put (go.ne As (by decide)) 1 (.slice av9 (tab.length+1) cv9);exact h
   have Xq:Below w.heap.size w W3:=by
    rw[mh];exact(Below.grown (ae eN.o HBq.o) eB (by omega) (fun g hg=>by have:=(yu.o.lt g hg).1;omega)).setCell (p:=⟨b7,1,none⟩) (by dsimp only;omega) _
   clear mh go eB Jn As c7 f7 im;subst bG;subst aZ;have nh:am (∀ x,PtR w base w.heap.size (w.heap.size+1+1) b7 n (.slice pt tab.length ct) (.slice av9 (tab.length+1) cv9) tab.length (tab.length+1) (eZ (tab++[v])) (fun _=>false) x W3.drew):=aa (fun x=>⟨Xq.drew,h37,FI,h34,h3o.keep fun g o _ ho=>ho,by simp,by simp,by simp,by simp,by simp⟩);clear h37 FI h34 h3o Xq;have hS:List.Nodup [27,28,29,30,999,5]:=by decide
   refine pz 6 [27,28,29,30,999,5] (PtR w base w.heap.size (w.heap.size+1+1) b7 n (.slice pt tab.length ct) (.slice av9 (tab.length+1) cv9) tab.length (tab.length+1) (eZ (tab++[v]))) (by kernel_rfl) rfl hS (by kernel_rfl) nh.o ?step6 ?free6 ?last6
   case free6=>
    intro x W D i o F ho h6 h8;simp at h6;omega
   case step6=>
    intro x W D i o s' F ho vF hD ar hc hF;have hi:i<6:=(List.getElem?_eq_some_iff.1 vF).1;have CC2:=ab hc.r2;have CC7:=ab hc.r7;simp only[bC,da,List.setIfInBounds_toArray,List.set_cons_succ,List.set_cons_zero,List.set_nil,Nat.reduceAdd]at hF;rcases (show i=0\/i=1\/i=2\/i=3\/i=4\/i=5 by omega) with rfl|rfl|rfl|rfl|rfl|rfl
    all_goals (obtain rfl:=dE ho.symm;obtain rfl:=dE vF.symm;clear hi ho vF)
    ·subst hF;clear ar
     go_wp2_with fail
     exact dF.mk (.agg #[.int .i64 n,.slice av9 (tab.length+1) cv9]) (hc.set 0 (by omega) _ ⟨fun _=>rfl,by omega,by omega,by omega⟩) rfl
    ·subst hF;clear ar
     go_wp2_with fail
     exact dF.mk (.pointer (some ⟨w.heap.size,1,none⟩)) (hc.set 1 (by omega) _ ⟨by omega,fun _=>rfl,by omega,by omega⟩) rfl
    ·have e1:=hc.v1 (ar ⟨1,.data⟩ (by simp) rfl);rw[e1]at hF;subst hF;clear ar
     go_wp2_with fail
     exact dF.mk (.slice pt tab.length ct) (hc.set 2 (by omega) _ ⟨by omega,by omega,fun _=>rfl,by omega⟩) rfl
    ·have e1:=hc.v2 (ar ⟨2,.data⟩ (by simp) rfl);rw[e1]at hF;subst hF;clear ar
     go_wp2_with fail
     exact dF.mk (.int .i64 tab.length) (hc.set 3 (by omega) _ ⟨by omega,by omega,by omega,fun _=>rfl⟩) rfl
    ·have e0:=hc.v0 (ar ⟨0,.data⟩ (by simp) rfl);rw[e0]at hF;subst hF;have g3:=hc.r4;rw[hD]at g3;refine wpList_store_row rfl 32 (.tmp 4) (.tmp 27) rfl (w.heap.size+1+1) #[.int .i64 n,.slice av9 (tab.length+1) cv9] rfl rfl 32 _ g3 (by kernel_rfl) rfl (by simp[Value.oneCell']) ?_;exact dF.mk undef (hc.store (by omega) (by omega) (by omega) undef) rfl
    ·have e1:=hc.v3 (ar ⟨3,.data⟩ (by simp) rfl);rw[e1]at hF;subst hF;clear ar
     go_wp2_with fail
     exact dF.mk (.int .i64 tab.length) (hc.set 5 (by omega) _ ⟨by omega,by omega,by omega,fun _=>rfl⟩) rfl
   case last6=>
    intro x W3' D F aT hc hF;have e5:=hc.v5 (aT 5 (by omega));have h4:=hc.r4;rw[aT 4 (by omega)]at h4;have h4:W3'.heap[w.heap.size+1+1]?=some (.cells #[.int .i64 n,.slice av9 (tab.length+1) cv9] 32):=h4;simp only[bC,da,List.setIfInBounds_toArray,List.set_cons_succ,List.set_cons_zero,List.set_nil,Nat.reduceAdd]at hF;rw[e5]at hF;generalize x 0=y0,x 1=y1,x 2=y2,x 3=y3 at hF;subst hF;have HH4:=aa h4;have Uh:=aa hc.old;have rU:=aa hc.own;clear aT hc h4 hS nh
    go_wp2_with fail
    have e1:=HE.o;subst e1;refine bodyPost_ret (Ai _ (w.heap.size+1+1) _ n tab.length _ rfl rfl HH4.o) rfl ⟨⟨_,rfl,?_⟩,Uh.o⟩;rw[show (tab++[v]).length=tab.length+1 by simp];exact rU.o
structure BEnd (p:Pb) (w wd:World) (uc us vt ve:Value) (xs:List Value) (st:List Vw × List Ex) (D:Nat) (X:World):Prop where
 old:Below wd.heap.size wd X
 r2:X.heap[w.heap.size+1]?=some (.cells zeroSys 35)
 r3:X.heap[w.heap.size+1+1]?=some (.cells #[.int .i64 0] 39)
 s:X.heap[wd.heap.size]?=some (.cells (bZ p uc us p.t.n vt ve) 35)
 tab:aJ X wd.heap.size 190 8 vt st.1.length (eZ st.1)
 ex:aJ X wd.heap.size 89 3 ve st.2.length xs
 els:∀ i (hi:i<st.2.length),zy X wd.heap.size xs i st.2[i]
 d:X.heap[D]?=some (.deferred (some []))
theorem Pj{w X:World} {D:Nat} {T:Array Value} {R:Ending->World->Prop} (hb:Below w.heap.size w X) (hR:X.heap[w.heap.size+1]?=some (.cells zeroSys 35)) (hE:X.heap[w.heap.size+1+1]?=some (.cells #[.int .i64 0] 39)) (hd:X.heap[D]?=some (.deferred (some []))) (hD:w.heap.size+1+1<D)
  (c0 c1 c2 c3 c4 c5 c6 c7 c8 c9:Value) (h2:T[2]?.getD undef=.pointer (some ⟨w.heap.size+1,0,none⟩)) (h3:T[3]?.getD undef=.pointer (some ⟨w.heap.size+1+1,0,none⟩))
  (hK:∀ Wf:World,Below w.heap.size w Wf->(∀ k,k≠w.heap.size+1->k≠w.heap.size+1+1->k≠D->Wf.heap[k]?=X.heap[k]?)->R (.returned (.tuple #[.agg #[c0,c1,c2,c3,c4,c5,c6,c7,c8,c9],.int .i64 0])) Wf) :
  bodyPostM Fence.wide 0 Tryz.prog Tryz.f120 R .ret { tmps:=T,defers:=[ij D] } (((((((((((X.setCell ⟨w.heap.size+1,0,none⟩ c0).setCell ⟨w.heap.size+1,1,none⟩ c1).setCell ⟨w.heap.size+1,2,none⟩ c2).setCell ⟨w.heap.size+1,3,none⟩ c3).setCell ⟨w.heap.size+1,4,none⟩ c4).setCell ⟨w.heap.size+1,5,none⟩ c5).setCell ⟨w.heap.size+1,6,none⟩ c6).setCell ⟨w.heap.size+1,7,none⟩ c7).setCell ⟨w.heap.size+1,8,none⟩ c8).setCell ⟨w.heap.size+1,9,none⟩ c9).setCell ⟨w.heap.size+1+1,0,none⟩ (.int .i64 0)).drew:=by
 obtain⟨q1,q2,q3,q4⟩:=sJ (B:=w.heap.size+1) hb (by omega) hR rfl hE c0 c1 c2 c3 c4 c5 c6 c7 c8 c9 0
 revert q1 q2 q3 q4
 generalize (((((((((((X.setCell ⟨w.heap.size+1,0,none⟩ c0).setCell ⟨w.heap.size+1,1,none⟩ c1).setCell ⟨w.heap.size+1,2,none⟩ c2).setCell ⟨w.heap.size+1,3,none⟩ c3).setCell ⟨w.heap.size+1,4,none⟩ c4).setCell ⟨w.heap.size+1,5,none⟩ c5).setCell ⟨w.heap.size+1,6,none⟩ c6).setCell ⟨w.heap.size+1,7,none⟩ c7).setCell ⟨w.heap.size+1,8,none⟩ c8).setCell ⟨w.heap.size+1,9,none⟩ c9).setCell ⟨w.heap.size+1+1,0,none⟩ (.int .i64 0))=Y;intro q1 q2 q3 q4;have q1':Y.drew.heap[w.heap.size+1]?=_:=q1;have q2':Y.drew.heap[w.heap.size+1+1]?=_:=q2;have q4':∀ k,k≠w.heap.size+1->k≠w.heap.size+1+1->Y.drew.heap[k]?=X.heap[k]?:=q4;have q3':=q3.drew;generalize Y.drew=Z at q1' q2' q3' q4' ⊢;refine iG ((q4' D (by omega) (by omega)).trans hd) (pR T (w.heap.size+1) _ c0 c1 c2 c3 c4 c5 c6 c7 c8 c9 0 h2 h3 ((World.putObj_heap_other (by omega)).trans q1') ((World.putObj_heap_other (by omega)).trans q2')) ?_;exact hK _ (eT (by omega) q3') (fun k a b c=>(World.putObj_heap_other c).trans (q4' k a b))
theorem U'{p:Pb} {w w2 wd X Wf:World} {D:Nat} {uc us vt ve:Value} {xs:List Value} {st:List Vw × List Ex} (h:BEnd p w wd uc us vt ve xs st D X)
  (C5:∀ W':World,(∀ k o,w2.heap.size<=k->wd.heap[k]?=some o->W'.heap[k]?=some o)->bN W' uc p.t.cases/\bz W' us p.a.states) (yR:w.heap.size+1+1<w2.heap.size) (hDd:wd.heap.size<=D)
  (hg:(∀ v∈st.1,jO v)/\∀ x∈st.2,ExGood x) (ir:st.1.length<=8192) (m5:st.2.length<=4096) (hf:∀ k,k≠w.heap.size+1->k≠w.heap.size+1+1->k≠D->Wf.heap[k]?=X.heap[k]?):IsSys Wf ⟨p,p.t.n,st.1,st.2⟩ uc us vt ve:=by
 have tr:∀ {b:Nat} {e:TypeId} {k:Nat} {v:Value} {n:Nat} {ys:List Value},aJ X b e k v n ys->e≠35->e≠39->aJ Wf b e k v n ys:=fun {b e k v n ys} ho h1 h2=>ho.keepT fun g o e1 e2=>
  (hf g (fun e'=>ho.ne h.r2 h1 g e1 e') (fun e'=>ho.ne h.r3 h2 g e1 e') (fun e'=>ho.isCells h.d rfl (by rw[e1,e']))).trans e2
 obtain⟨k1,k2⟩:=C5 Wf (fun k o hk ho=>by
  have aB:=aC ho;rw[hf k (by omega) (by omega) (by omega)]
  exact(h.old.block k aB).trans ho)
 refine⟨k1,k2,yg (tr h.tab (by decide) (by decide)) hg.1 (show st.1.length<=17592186044416 by omega),KM (tr h.ex (by decide) (by decide)) (fun i hi=>?_) hg.2 (show st.2.length<=17592186044416 by omega)⟩;obtain⟨a,d,p1,p2,p3,p4,ys,p5,p6⟩:=h.els i hi;exact⟨a,d,p1,p2,p3,tr p4 (by decide) (by decide),ys,tr p5 (by decide) (by decide),fun j hj=>by obtain⟨y,r1,r2⟩:=p6 j hj;exact⟨y,r1,tr r2 (by decide) (by decide)⟩⟩
theorem Pk(p:Pb) (vc vs:Value) (w:World) (hc:bN w vc p.t.cases) (hs:bz w vs p.a.states) (hN:movesN p.a.states<1099511627776) :
  Calls Tryz.prog 120 #[nJ p vc vs] w fun e w'=>∃ c,e=.returned (.tuple #[.agg c,.int .i64 (buildE p)])/\(buildE p=0->∃ uc us vt ve,c=bZ p uc us p.t.n vt ve/\IsSys w' (aN p) uc us vt ve)/\(buildE p≠0->c=zeroSys)/\Below w.heap.size w w':=by
 have GC:=aa hc;have GS:=aa hs;obtain⟨pc,cc,rfl,lc1,lc2,ec⟩:=hc.at;obtain⟨ps,cs,rfl,_⟩:=hs.at;have EC:=aa ec;clear hc hs ec;refine gc Tryz.func120 rfl ?_;simp only[Tryz.ntmps120,List.size_toArray,List.length_cons,List.length_nil,Nat.reduceAdd,Nat.reduceSub,Array.replicate_succ,Array.replicate_zero,List.push_toArray,List.append_toArray,List.nil_append,List.cons_append]
 go_wp2_with fail
 refine aQ (fun W=>Below w.heap.size w W/\W.heap[w.heap.size]?=some (.cells #[.int .i64 p.t.n,.int .i64 p.t.ins,.int .i64 p.t.outs,.slice pc p.t.cases.length cc,.int .i64 p.a.n,.slice ps p.a.states.length cs,.int .i64 p.rounds] 29)/\W.heap[w.heap.size+1]?=some (.cells zeroSys 35)/\W.heap[w.heap.size+1+1]?=some (.cells #[.int .i64 0] 39)) ⟨by go_grown,aq _ (aq _ (ap _ _)),aq _ (bu _ _ _),eD _ _ _ _⟩ (fun W0 bd=>?_);obtain⟨aK,bK,gr,hE0⟩:=bd;refine(Gw p _ _ W0 (GC.o.up up_case aK) (GS.o.up up_moves aK) hN (fun h=>by have:=(fm (gH h).1).2.2.2.1;omega)).mono ?_;rintro e w1 ⟨rfl,aM⟩;have jl:=ae aK aM;have dP:=aa (af aM bK);have dd:=aa (af aM gr);have qT:=aa (af aM hE0);have cj:=aM.size;have hzE:=aC qT.o;clear bK gr hE0
 have fK:((dY p).2=buildE p/\buildE p≠0)\/((dY p).2=0/\probE p=0/\(dY p).1=((p.t.cases.length * (aP p).length:Nat):Int)):=by
  by_cases hp:probE p=0
  ·obtain⟨h1,h2⟩:=Kf hp;by_cases h3:(dY p).2=0
   ·exact .inr ⟨h3,hp,h2 h3⟩
   ·obtain⟨h4,h5⟩:=h1 h3;have:buildE p=17:=by unfold buildE;rw[if_neg (by simpa using hp),if_pos h5]
    exact .inl ⟨by rw[h4,this],by rw[this];decide⟩
  ·have:buildE p=probE p:=by unfold buildE;rw[if_pos hp]
   exact .inl ⟨by rw[this];unfold dY;rw[if_pos hp],by rw[this];exact hp⟩
 rcases fK with ⟨he,bR⟩|⟨he,hp,ly⟩
 ·obtain⟨eb,m8⟩:∃ x,x=buildE p:=⟨_,rfl⟩;rw[he];rw[<-m8]at bR ⊢;have iP:=aa bR;have QS:=aa m8;clear m8;have TA:(eb != 0)=true:=by simpa using bR
  have cR:=ab dd.o;have zR:=fun o=>aH dd.o o
  have cE:=ab qT.o 0;have zE:=aH qT.o 0;simp at cE;clear he bR
  go_wp2_with fail
  obtain⟨q1,q2,q3,_⟩:=sJ jl (by omega) dd.o rfl qT.o (.int .i64 0) (.int .i64 0) (.int .i64 0) (.slice none 0 0) (.int .i64 0) (.slice none 0 0) (.int .i64 0) (.int .i64 0) (.slice none 0 0) (.slice none 0 0) eb;refine iu (pR _ (w.heap.size+1) _ _ _ _ _ _ _ _ _ _ _ eb rfl rfl q1 q2) ?_;rw[<-QS.o];exact⟨_,rfl,fun e=>absurd e iP.o,fun _=>rfl,q3⟩
 rw[he,ly];obtain⟨ht,ha,fw,rO,qi⟩:=gH hp;obtain⟨⟨htn1,htn5⟩,_,_,⟨wI,bU⟩,fV⟩:=fm ht;have nq:=aa fw;have dL:=aa fV;clear fw fV;by_cases Dx:4096<p.t.cases.length * (aP p).length
 ·have QS:am (buildE p=17):=aa (by unfold buildE;rw[if_neg (by simpa using hp),if_pos Dx]);have WM:(4096:Int)<((p.t.cases.length * (aP p).length:Nat):Int):=by omega
  have cR:=ab dd.o;have zR:=fun o=>aH dd.o o
  have cE:=ab qT.o 0;have zE:=aH qT.o 0;simp at cE;generalize ((p.t.cases.length * (aP p).length:Nat):Int)=nI at WM;clear he ly Dx hp ht ha rO qi
  go_wp2_with fail
  obtain⟨q1,q2,q3,_⟩:=sJ jl (by omega) dd.o rfl qT.o (.int .i64 0) (.int .i64 0) (.int .i64 0) (.slice none 0 0) (.int .i64 0) (.slice none 0 0) (.int .i64 0) (.int .i64 0) (.slice none 0 0) (.slice none 0 0) 17;refine iu (pR _ (w.heap.size+1) _ _ _ _ _ _ _ _ _ _ _ 17 rfl rfl q1 q2) ?_;rw[QS.o];exact⟨_,rfl,fun e=>absurd e (by decide),fun _=>rfl,q3⟩
 have Cz:=aa (Kg hp Dx);have WM:¬ (4096:Int)<((p.t.cases.length * (aP p).length:Nat):Int):=by omega
 generalize hnI:((p.t.cases.length * (aP p).length:Nat):Int)=nI at WM;have tA:=ab dP.o;have HP:=aa hp;clear he ly
 go_wp2_with fail
 refine(OW p.a _ p.rounds w1 (GS.o.up up_moves jl) hN).mono ?_;rintro e w2 ⟨u,rfl,hu,hulo,aZ⟩;rw[Cz.o]at hu ⊢;dsimp only at hu ⊢;have rP:=ae jl aZ;have LL:=aa hu;have HULO:=aa hulo;clear hulo;obtain⟨pw,cw,rfl,lw1,lw2,_⟩:=hu.at;clear hu tA;have tA:=ab (af aZ dP.o)
 go_wp2_with fail
 refine(DW p _ _ w2 (GC.o.up up_case rP) (GS.o.up up_moves rP) ht ha (VT HP.o)).mono ?_;rintro e wd ⟨uc,us,rfl,C5,bG⟩;have HCP:=aa C5;obtain⟨Xv,Xe⟩:=C5 wd (fun _ _ _ h=>h);clear C5;have cI:=rP.size;have CM:=bG.size;have Xc:=aC dP.o;have Sw:=ae rP bG;have hzb2:=aZ.size;have hltd:w.heap.size<wd.heap.size:=by omega
 have HUC:=aa Xv;have HUS:=aa Xe;obtain⟨pu,cu,rfl,_⟩:=Xv.at;obtain⟨pv,cv,rfl,_⟩:=Xe.at;have XY:=aa (af (ae aZ bG) dP.o);have HRd:=aa (af (ae aZ bG) dd.o);have HEd:=aa (af (ae aZ bG) qT.o);have HUd:=aa (LL.o.up up_words bG);have HCd:=aa (GC.o.up up_case Sw);have Dm:=fun w=>GE Tryz.prog 232 w
 clear Xv Xe tA;have tA:=ab XY.o;have tA4:∀ o1 o2 o3 o4 o,((((wd.alloc o1).alloc o2).alloc o3).alloc o4).cell? ⟨w.heap.size,o,none⟩=_:=fun o1 o2 o3 o4=>ab (aq _ (aq _ (aq _ (aq _ XY.o))))
 go_wp2_with fail
 refine aQ (fun W=>BInv p (.slice pu p.t.cases.length cu) (.slice pv p.a.states.length cv) wd wd.heap.size (wd.heap.size+1+1+1) (wd.heap.size+1+1) (wd.heap.size+1) [] [] W) ?_ (fun W4 hI4=>?_)
 ·refine⟨by go_grown,Nat.le_refl _,Mu _ _ _ _ _,⟨_,[],aq _ (aq _ (aq _ (ap _ _))),aJ.nil _ _ _ _,fun i hi=>by simp at hi⟩,⟨by omega,_,?_,by omega,aJ.nil _ _ _ _,#[],0,aq _ (aq _ (bu _ _ _)),rfl⟩⟩;rw[Int.toNat_of_nonneg (by omega)];exact aq _ (eD _ _ _ _)
 refine(DX p _ _ _ _ _ _ _ _ _ W4).mono ?_;rintro e w5 ⟨rfl,rfl⟩;have HI4:=aa hI4;have QO:=hI4.old.size;have hzb:=aC hI4.bx;clear hI4 tA tA4 Dm
 go_wp2_with fail
 refine bF (fun W=>BInv p (.slice pu p.t.cases.length cu) (.slice pv p.a.states.length cv) wd wd.heap.size (wd.heap.size+1+1+1) (wd.heap.size+1+1) (wd.heap.size+1) [] [] W/\W.heap[W4.heap.size]?=some (.cells #[.int .i64 p.t.n,.int .i64 p.t.ins,.int .i64 p.t.outs,.slice pc p.t.cases.length cc,.int .i64 p.a.n,.slice ps p.a.states.length cs,.int .i64 p.rounds] 29)/\W.heap[W4.heap.size+1]?=some (.cells #[.slice pw (aP p).length cw] 221)/\W4.heap.size+1<W.heap.size) ⟨HI4.o.up (by go_grown),aq _ (ap _ _),bu _ _ _,by simp⟩ (fun W5 hW5=>?_);obtain⟨TL,IZ,PV,hz5⟩:=hW5;obtain⟨ws,hwsl,aw,capw,ew,eM⟩:=U3 HUd.o;cases ew
 have dk:=Cc wd p.t.cases.length (aP p).length pw cw ws (by have:=Nat.mul_le_mul_right (aP p).length wI;omega) (by omega) (fun j hj=>by
  obtain⟨b,o,h1,h2,h3⟩:=eM j hj;obtain⟨a',c',e',_⟩:=h3.at
  exact⟨b,o,h1,fk h2,h2,a',_,c',e'⟩) ⟨lw1,by obtain⟨a9,c9,e9,⟨_,h9,_⟩,_⟩:=HUd.o;cases e9;exact h9⟩ W5 TL.old W4.heap.size (W4.heap.size+1) _ _ _ _ _ _ _ _ IZ PV
 have GL:=aa eM;have GK:=aa Dx
 have WT:am (∀ ad,pw=some ad->w1.heap.size<=ad.block/\ad.block<wd.heap.size):=aa (fun ad e=>by
  subst e;refine⟨HULO.o ad _ _ rfl,?_⟩
  have hWl:0<(aP p).length:=by
   have h9:=Fe (ik ha).2.1 (by have:=(ik ha).1;omega) p.rounds.toNat 0 (by have:=(ik ha).1;omega);exact h9
  obtain⟨b,o,h1,h2,_⟩:=eM 0 hWl;cases h1
  exact fk h2)
 have hzI:=TL.old.size;clear eM Dx
 refine mD (gf:=199) (lb:=#[.pointer (some ⟨W4.heap.size,0,none⟩),.pointer (some ⟨W4.heap.size+1,0,none⟩)]) rfl (enters_of Tryz.func199 (by kernel_rfl) rfl) dk (Below.refl _ _) (fun k hk=>by
   rcases hk with hk|⟨ad,e1,rfl⟩
   ·omega
   ·have:=WT.o ad e1;omega) (fun i=>rfl)
  (fun i W=>BInv p (.slice pu p.t.cases.length cu) (.slice pv p.a.states.length cv) wd wd.heap.size (wd.heap.size+1+1+1) (wd.heap.size+1+1) (wd.heap.size+1) (stP p i).1 (stP p i).2 W/\W.heap[W4.heap.size+1]?=some (.cells #[.slice pw (aP p).length cw] 221)/\(stP p i).1.length<=8192)
  (fun c _ W=>c=.ret/\buildE p=17/\Below w.heap.size w W/\W.heap[w.heap.size+1]?=some (.cells zeroSys 35)/\W.heap[w.heap.size+1+1]?=some (.cells #[.int .i64 17] 39))
  (fun i=>(BInv.sta (by omega) (by omega)).and (cN.cells.and cN.pure)) (fun c i=>cN.pure.and (cN.pure.and ((cN.below (by omega)).and (cN.cells.and cN.cells)))) ⟨TL,PV,by simp[stP,execsS]⟩ ?round ?done ?stop
 case stop=>
  rintro D c i W hD hi ⟨rfl,kZ,hb,q1,q2⟩ hK;have h1:(W.putObj D (.deferred none)).heap[w.heap.size+1]?=_:=(World.putObj_heap_other (by omega)).trans q1;have h2:(W.putObj D (.deferred none)).heap[w.heap.size+1+1]?=_:=(World.putObj_heap_other (by omega)).trans q2
  go_wp2_with fail
  refine iG hK (pR _ (w.heap.size+1) _ _ _ _ _ _ _ _ _ _ _ 17 (by rfl) (by rfl) h1 h2) ?_;rw[kZ];exact⟨_,rfl,fun e=>absurd e (by decide),fun _=>rfl,eT (by omega) hb⟩
 case done=>
  intro D W hD hI hK;obtain⟨aU,Tp,yw⟩:=hI
  have aT:stP p (p.t.cases.length * (aP p).length)=execsS p (aP p) (fh p):=by
   unfold stP;rw[List.take_of_length_le (by rw[iD];exact Nat.le_refl _)]
  have GF:=Bi HP.o (fun c hc=>(wj GC.o c hc).1) (fun x hx=>wg p.a (sF GS.o) _ _ x hx) (by rw[<-aT];exact yw) _ (Nat.le_refl _);have GI:=sI p (aP p) (fh p) ([],[]);have FO:=iD p
  have QS:am (buildE p=0):=aa (by
   unfold buildE;have h3:(aN p).tab=(execsS p (aP p) (fh p)).1:=rfl
   rw[if_neg (by simpa using HP.o),if_neg GK.o,if_neg (by rw[h3,<-aT];omega)])
  have gC:am (aN p=⟨p,p.t.n,(execsS p (aP p) (fh p)).1,(execsS p (aP p) (fh p)).2⟩):=aa rfl;change (execsS p (aP p) (fh p)).2.length=_ at GI;rw[aT]at GF aU yw;generalize execsS p (aP p) (fh p)=st at GF aU yw gC GI;have zG:=aa GF;have hlx:st.2.length<=4096:=by have:=GK.o;simp at GI;omega
  clear aT GF GI FO;obtain⟨ve,xs,fT,gV,mZ⟩:=aU.s;obtain⟨vs9,b1',b2',b3',b4'⟩:=aU.bld.ex;obtain⟨av,cve,rfl⟩:=gV.slice;obtain⟨a7,c7,rfl⟩:=b3'.slice;have qK:=aa aU;have qp:=aa fT;have oz:=aa gV;have AI:=aa mZ;have rL:=aa b3';rw[Int.toNat_of_nonneg (by omega)]at b1';have tb:=ab b1';have tx:=ab aU.bx 0;have ts7:=ab (show W.drew.heap[wd.heap.size]?=_ from fT) 7;have ts8:=ab (show W.drew.heap[wd.heap.size]?=_ from fT) 8;have zs7:=aH (show W.drew.heap[wd.heap.size]?=_ from fT) 7;have zs8:=aH (show W.drew.heap[wd.heap.size]?=_ from fT) 8;simp at tx ts7 ts8;have Xc:=aU.old.size;clear aU fT gV mZ b1' b2' b3' b4' dk TL Tp IZ PV
  go_wp2_with fail
  go_still_tail 9,(by kernel_rfl)
  change wpList _ _ _ _ _ W.drew;clear tb tx;have hQ:=aI (aI (show W.drew.heap[wd.heap.size]?=_ from qp.o) 7 (.int .i64 p.t.n)) 8 (.slice a7 st.1.length c7)
  have hI:BEnd p w wd (.slice pu p.t.cases.length cu) (.slice pv p.a.states.length cv) (.slice a7 st.1.length c7) (.slice av st.2.length cve) xs st D ((W.drew.setCell ⟨wd.heap.size,7,none⟩ (.int .i64 p.t.n)).setCell ⟨wd.heap.size,8,none⟩ (.slice a7 st.1.length c7)):=by
   have hwd1:(W.drew.setCell ⟨wd.heap.size,7,none⟩ (.int .i64 p.t.n)).heap[wd.heap.size]?=_:=aI (show W.drew.heap[wd.heap.size]?=_ from qp.o) 7 (.int .i64 p.t.n);have kt:KeepT [35] [] wd.heap.size W ((W.drew.setCell ⟨wd.heap.size,7,none⟩ (.int .i64 p.t.n)).setCell ⟨wd.heap.size,8,none⟩ (.slice a7 st.1.length c7)):=((KeepT.refl _ _ _).drew.set (show W.drew.heap[wd.heap.size]?=_ from qp.o) (by simp) (Nat.le_refl _) _).set hwd1 (by simp) (Nat.le_refl _) _;have dG:=KeepT.below9 qK.o.old (KeepT.refl (ms:=[]) [] _ W) kt;refine⟨dG,af dG HRd.o,af dG HEd.o,hQ,kt.own rL.o (by decide),kt.own oz.o (by decide),fun i hi=>?_,kt.oth _ _ hK rfl (by simp)⟩;obtain⟨a,d,p1,p2,p3,p4,p5⟩:=AI.o i hi;exact⟨a,d,p1,p2,p3,kt.own p4 (by decide),kt.fresh p5 (by decide) (by decide)⟩
  have lP:BEnd p w wd (.slice pu p.t.cases.length cu) (.slice pv p.a.states.length cv) (.slice a7 st.1.length c7) (.slice av st.2.length cve) xs st D (((W.setCell ⟨wd.heap.size,7,none⟩ (.int .i64 p.t.n)).setCell ⟨wd.heap.size,8,none⟩ (.slice a7 st.1.length c7))).drew:=hI;have jk:=aa lP;have fT:(((W.setCell ⟨wd.heap.size,7,none⟩ (.int .i64 p.t.n)).setCell ⟨wd.heap.size,8,none⟩ (.slice a7 st.1.length c7))).heap[wd.heap.size]?=_:=lP.s;have gV:(((W.setCell ⟨wd.heap.size,7,none⟩ (.int .i64 p.t.n)).setCell ⟨wd.heap.size,8,none⟩ (.slice a7 st.1.length c7))).heap[w.heap.size+1]?=_:=lP.r2;have mZ:(((W.setCell ⟨wd.heap.size,7,none⟩ (.int .i64 p.t.n)).setCell ⟨wd.heap.size,8,none⟩ (.slice a7 st.1.length c7))).heap[w.heap.size+1+1]?=_:=lP.r3;have tQ:=ab fT;have cR:=ab gV;have zR:=fun o=>aH gV o
  have cE:=ab mZ;have zE:=fun o=>aH mZ o
  have tQd:=ab lP.s;have cRd:=ab lP.r2;have zRd:=fun o=>aH lP.r2 o
  have cEd:=ab lP.r3;have zEd:=fun o=>aH lP.r3 o
  have Xk:(W.setCell ⟨wd.heap.size,7,none⟩ (.int .i64 p.t.n)).heap[wd.heap.size]?=_:=aI qp.o 7 _;have zs8a:=aH Xk 8;have zs8b:=aH (show (W.setCell ⟨wd.heap.size,7,none⟩ (.int .i64 p.t.n)).drew.heap[wd.heap.size]?=_ from Xk) 8;have Lp:BEnd p w wd (.slice pu p.t.cases.length cu) (.slice pv p.a.states.length cv) (.slice a7 st.1.length c7) (.slice av st.2.length cve) xs st D ((W.setCell ⟨wd.heap.size,7,none⟩ (.int .i64 p.t.n)).setCell ⟨wd.heap.size,8,none⟩ (.slice a7 st.1.length c7)):=⟨⟨lP.old.os,lP.old.tape,lP.old.output,lP.old.size,lP.old.block⟩,lP.r2,lP.r3,lP.s,lP.tab,lP.ex,lP.els,lP.d⟩;have iX:=aa (And.intro (ae Sw Lp.old) (And.intro Lp.r2 (And.intro Lp.r3 (And.intro Lp.d Lp))));clear hQ hI lP Lp fT gV mZ Xk
  go_wp2_with fail
  refine Pj (X:=((W.setCell ⟨wd.heap.size,7,none⟩ (.int .i64 p.t.n)).setCell ⟨wd.heap.size,8,none⟩ (.slice a7 st.1.length c7))) iX.o.1 iX.o.2.1 iX.o.2.2.1 iX.o.2.2.2.1 (by omega) _ _ _ _ _ _ _ _ _ _ rfl rfl (fun Wf Dd hff=>?_);rw[QS.o,gC.o];exact⟨_,rfl,fun _=>⟨_,_,_,_,rfl,U' iX.o.2.2.2.2 HCP.o (by omega) (by omega) zG.o yw hlx hff⟩,fun e=>absurd rfl e,Dd⟩
 case round=>
  intro yl i W hi hl hI;obtain⟨aU,Tp,yw⟩:=hI;have dS:=wl p i hi;have HOVER:=aa (Mt HP.o GK.o (i+1))
  have oN:0<(aP p).length:=by
   rcases Nat.eq_zero_or_pos (aP p).length with h|h
   ·rw[h]at hi;simp at hi
   ·exact h
  have hc:i / (aP p).length<p.t.cases.length:=by rw[Nat.div_lt_iff_lt_mul oN];exact hi
  have hj:i % (aP p).length<(aP p).length:=Nat.mod_lt _ oN;obtain⟨_,_,hpw,_,C9⟩:=GL.o _ hj;clear hpw;unfold RB
  have hwl6:((aP p)[i % (aP p).length]).length<=6:=by
   have:=kg p.a p.rounds.toNat 0 _ (List.getElem_mem (l:=aP p) hj);omega
  obtain⟨pc',cc',ec',_,_,ecc⟩:=HCd.o.at;cases ec';obtain⟨b1,o1,ec1,⟨vi,dvi,vp⟩,_,_⟩:=ecc _ hc
  have gX:p.t.n.toNat<=(p.t.cases[i / (aP p).length]).inp.length:=by
   have:=(dL.o _ (List.getElem_mem hc)).inp;omega
  unfold kh at dS;dsimp only at dS;rw[az default hc,az [] hj]at dS;generalize p.t.cases[i / (aP p).length]=cs0 at vp gX dS;generalize (aP p)[i % (aP p).length]=word at C9 hwl6 dS;generalize ws.getD (i % (aP p).length) undef=wv at C9 ⊢;generalize i / (aP p).length=ci at hc dvi dS ⊢
  have JD:(stP p i).2.length<=4096:=by
   have h9:=sI p (aP p) ((fh p).take i) ([],[]);have h8:=iD p;have h7:=GK.o;change (stP p i).2.length=_ at h9;simp at h9;omega
  generalize stP p i=st at aU yw dS JD;have eF:=aa dS;have iO:=aa C9;have Ju:=aa vp;obtain⟨pwv,cwv,rfl,_⟩:=C9.at;obtain⟨pvi,cvi,rfl,_⟩:=vp.at;subst ec1;clear dS C9 vp ecc;dsimp only
  gi_wp2
  refine⟨Bod.refl _ _ _,(fun X=>BInv p (.slice pu p.t.cases.length cu) (.slice pv p.a.states.length cv) wd wd.heap.size (wd.heap.size+1+1+1) (wd.heap.size+1+1) (wd.heap.size+1) st.1 st.2 X/\X.heap[W4.heap.size+1]?=some (.cells #[.slice pw (aP p).length cw] 221)),(BInv.sta (by omega) (by omega)).and cN.cells,⟨aU,Tp⟩,fun V hV _=>?_⟩;obtain⟨pU,yR⟩:=hV;clear aU Tp;obtain⟨ve,xs,fT,gV,mZ⟩:=pU.s;obtain⟨av,cve,rfl⟩:=gV.slice;have qK:=aa pU;have qp:=aa fT;have oz:=aa gV;have AI:=aa mZ;have cS:=aa yR;have hzV:=pU.old.size;clear pU fT gV mZ yR;obtain⟨i0,df,je,jx,iK⟩:=info_parts Tryz.infoExec
  gi_wp2
  refine xy 17 [49,50,51,52,53,54,55,56,57,58,59,60,61,62,63,64,65] [some (.pointer (some ⟨wd.heap.size,9,none⟩)),
   some (.slice av st.2.length cve),
   some (.int .i64 (ci:Int)),
   some (.slice pwv word.length cwv),
   none,
   some (.pointer (some ⟨wd.heap.size+1+1,0,none⟩)),
   some (.pointer (some ⟨w.heap.size,0,none⟩)),
   some (.pointer (some ⟨w.heap.size,3,none⟩)),
   some (.slice (some ⟨b1,o1,none⟩) p.t.cases.length cc),
   some (.int .i64 (ci:Int)),
   some (.pointer (some ⟨b1,o1+ci * 3,none⟩)),
   some (.pointer (some ⟨b1,o1+ci * 3,none⟩)),
   some (.slice pvi cs0.inp.length cvi),
   some (.slice pwv word.length cwv),
   none,
   none,
   none] (BCore wd.heap.size (wd.heap.size+1+1) (wd.heap.size+1) p.t.n.toNat st.1 (gu p.t.n.toNat cs0.inp word st.1).1 ci word (gu p.t.n.toNat cs0.inp word st.1).2 V) (by kernel_rfl) rfl (by decide) rfl (by kernel_rfl) (by kernel_rfl) (by kernel_rfl) (fun ⟨_,_,h⟩=>h) (by kernel_rfl) (fun _=>⟨hzV,(KeepT.refl _ _ _).drew,qK.o.bld.up (Below.refl _ _).drew,nofun,nofun,nofun,nofun⟩) ?step ?tail
  case step=>
   intro x W D i o s F hi ho hs hD cQ bU ar hv aR hF;have fK:i=0\/i=1\/i=2\/i=3\/i=4\/i=5\/i=6\/i=7\/i=8\/i=9\/i=10\/i=11\/i=12\/i=13\/i=14\/i=15\/i=16:=by omega
   rcases fK with rfl|rfl|rfl|rfl|rfl|rfl|rfl|rfl|rfl|rfl|rfl|rfl|rfl|rfl|rfl|rfl|rfl
   all_goals (have dQ:=cQ _ _ hs hD;obtain rfl:=dE ho.symm;obtain rfl:=dE hs.symm)
   ·clear ar hi hv;have e7:F.getD 7 undef=.pointer (some ⟨wd.heap.size,0,none⟩):=lL hF (by decide) rfl;clear cQ bU;clear hF dQ;have e7':=dH e7;have HD:=aa hD;have bB:=aa aR;clear hD aR
    go_wp2_with fail
    refine bX.mk _ fP ?_ rfl;exact bB.o.other _ (by decide) (by decide) (by decide) (by decide)
   ·have g0:=ar ⟨0,.data⟩ (by simp) rfl;have d0:=hv 0 _ (by omega) g0 rfl;clear ar hi hv;have e49:=fy hF 0 49 (by decide) rfl (by kernel_rfl) d0;clear cQ bU;clear hF dQ d0;have t1:=ab (aR.keep.keep _ _ _ _ qp.o (by decide)) 9;simp at t1;have e49':=dH e49;have HD:=aa hD;have bB:=aa aR;clear hD aR;clear g0
    go_wp2_with fail
    refine bX.mk _ fP ?_ rfl;exact bB.o.other _ (by decide) (by decide) (by decide) (by decide)
   ·clear ar hi hv;have e9:F.getD 9 undef=.int .i64 (ci:Int):=lL hF (by decide) rfl;clear cQ bU;clear hF dQ;have e9':=dH e9;have HD:=aa hD;have bB:=aa aR;clear hD aR
    go_wp2_with fail
    refine bX.mk _ fP ?_ rfl;exact bB.o.other _ (by decide) (by decide) (by decide) (by decide)
   ·clear ar hi hv;have e10:F.getD 10 undef=.slice pwv word.length cwv:=lL hF (by decide) rfl;clear cQ bU;clear hF dQ;have e10':=dH e10;have HD:=aa hD;have bB:=aa aR;clear hD aR
    go_wp2_with fail
    refine bX.mk _ fP ?_ rfl;exact bB.o.other _ (by decide) (by decide) (by decide) (by decide)
   ·have g3:=ar ⟨3,.data⟩ (by simp) rfl;have d3:=hv 3 _ (by omega) g3 rfl;clear ar hi hv;have e52:=fy hF 3 52 (by decide) rfl (by kernel_rfl) d3;clear cQ bU;clear hF dQ d3;have dG:=KeepT.below9 qK.o.old (KeepT.refl (ms:=[]) [] _ V) aR.keep;have eN:=aa dG;clear dG;have e52':=dH e52;have HD:=aa hD;have bB:=aa aR;clear hD aR;clear g3
    go_wp2_with fail
    refine(uI _ word W (iO.o.up up_round eN.o) (by omega)).mono ?_;rintro e w9 ⟨u9,rfl,jy,fi⟩;have nr:=aa (jy.base (base':=wd.heap.size) eN.o.size);have fG:=aa fi;clear jy fi
    go_wp2_with fail
    refine bX.mk _ (fun c hc=>by cases hc) ?_ rfl;exact bB.o.clone HD.o fG.o nr.o
   ·clear ar hi hv;have e8:F.getD 8 undef=.pointer (some ⟨wd.heap.size+1+1+1,0,none⟩):=lL hF (by decide) rfl;clear cQ bU;clear hF dQ;have t1:=ab (aR.keep.keep _ _ _ _ qK.o.bx (by decide)) 0;simp at t1;have e8':=dH e8;have HD:=aa hD;have bB:=aa aR;clear hD aR
    go_wp2_with fail
    refine bX.mk _ fP ?_ rfl;exact bB.o.other _ (by decide) (by decide) (by decide) (by decide)
   ·clear ar hi hv;have e1:F.getD 1 undef=.pointer (some ⟨w.heap.size,0,none⟩):=lL hF (by decide) rfl;clear cQ bU;clear hF dQ;have e1':=dH e1;have HD:=aa hD;have bB:=aa aR;clear hD aR
    go_wp2_with fail
    refine bX.mk _ fP ?_ rfl;exact bB.o.other _ (by decide) (by decide) (by decide) (by decide)
   ·have g6:=ar ⟨6,.data⟩ (by simp) rfl;have d6:=hv 6 _ (by omega) g6 rfl;clear ar hi hv;have e55:=fy hF 6 55 (by decide) rfl (by kernel_rfl) d6;clear cQ bU;clear hF dQ d6;have e55':=dH e55;have HD:=aa hD;have bB:=aa aR;clear hD aR;clear g6
    go_wp2_with fail
    refine bX.mk _ fP ?_ rfl;exact bB.o.other _ (by decide) (by decide) (by decide) (by decide)
   ·have g7:=ar ⟨7,.data⟩ (by simp) rfl;have d7:=hv 7 _ (by omega) g7 rfl;clear ar hi hv;have e56:=fy hF 7 56 (by decide) rfl (by kernel_rfl) d7;clear cQ bU;clear hF dQ d7;have dG:=KeepT.below9 qK.o.old (KeepT.refl (ms:=[]) [] _ V) aR.keep;have t1:=ab (af dG XY.o) 3;simp at t1;clear dG;have e56':=dH e56;have HD:=aa hD;have bB:=aa aR;clear hD aR;clear g7
    go_wp2_with fail
    refine bX.mk _ fP ?_ rfl;exact bB.o.other _ (by decide) (by decide) (by decide) (by decide)
   ·clear ar hi hv;have e9:F.getD 9 undef=.int .i64 (ci:Int):=lL hF (by decide) rfl;clear cQ bU;clear hF dQ;have e9':=dH e9;have HD:=aa hD;have bB:=aa aR;clear hD aR
    go_wp2_with fail
    refine bX.mk _ fP ?_ rfl;exact bB.o.other _ (by decide) (by decide) (by decide) (by decide)
   ·have g8:=ar ⟨8,.data⟩ (by simp) rfl;have d8:=hv 8 _ (by omega) g8 rfl;have g9:=ar ⟨9,.data⟩ (by simp) rfl;have d9:=hv 9 _ (by omega) g9 rfl;clear ar hi hv;have e57:=fy hF 8 57 (by decide) rfl (by kernel_rfl) d8;have e58:=fy hF 9 58 (by decide) rfl (by kernel_rfl) d9;clear cQ bU;clear hF dQ d8 d9;have e57':=dH e57;have e58':=dH e58;have HD:=aa hD;have bB:=aa aR;clear hD aR;clear g8;clear g9
    go_wp2_with fail
    refine bX.mk _ fP ?_ rfl;exact bB.o.other _ (by decide) (by decide) (by decide) (by decide)
   ·have g10:=ar ⟨10,.data⟩ (by simp) rfl;have d10:=hv 10 _ (by omega) g10 rfl;clear ar hi hv;have e59:=fy hF 10 59 (by decide) rfl (by kernel_rfl) d10;clear cQ bU;clear hF dQ d10;have e59':=dH e59;have HD:=aa hD;have bB:=aa aR;clear hD aR;clear g10
    go_wp2_with fail
    refine bX.mk _ fP ?_ rfl;exact bB.o.other _ (by decide) (by decide) (by decide) (by decide)
   ·have g11:=ar ⟨11,.data⟩ (by simp) rfl;have d11:=hv 11 _ (by omega) g11 rfl;clear ar hi hv;have e60:=fy hF 11 60 (by decide) rfl (by kernel_rfl) d11;clear cQ bU;clear hF dQ d11;have dG:=KeepT.below9 qK.o.old (KeepT.refl (ms:=[]) [] _ V) aR.keep;have t1:=ak dG dvi;clear dG;have e60':=dH e60;have HD:=aa hD;have bB:=aa aR;clear hD aR;clear g11
    go_wp2_with fail
    refine bX.mk _ fP ?_ rfl;exact bB.o.other _ (by decide) (by decide) (by decide) (by decide)
   ·clear ar hi hv;have e10:F.getD 10 undef=.slice pwv word.length cwv:=lL hF (by decide) rfl;clear cQ bU;clear hF dQ;have e10':=dH e10;have HD:=aa hD;have bB:=aa aR;clear hD aR
    go_wp2_with fail
    refine bX.mk _ fP ?_ rfl;exact bB.o.other _ (by decide) (by decide) (by decide) (by decide)
   ·have g5:=ar ⟨5,.data⟩ (by simp) rfl;have d5:=hv 5 _ (by omega) g5 rfl;have g12:=ar ⟨12,.data⟩ (by simp) rfl;have d12:=hv 12 _ (by omega) g12 rfl;have g13:=ar ⟨13,.data⟩ (by simp) rfl;have d13:=hv 13 _ (by omega) g13 rfl;clear ar hi hv;have e54:=fy hF 5 54 (by decide) rfl (by kernel_rfl) d5;have e61:=fy hF 12 61 (by decide) rfl (by kernel_rfl) d12;have e62:=fy hF 13 62 (by decide) rfl (by kernel_rfl) d13;clear cQ bU;clear hF dQ d5 d12 d13;have dG:=KeepT.below9 qK.o.old (KeepT.refl (ms:=[]) [] _ V) aR.keep;have eN:=aa dG;clear dG;have oh:=aR.bld;rw[hD]at oh;have Dc:=aa (show BldIs wd.heap.size (wd.heap.size+1+1) (wd.heap.size+1) p.t.n.toNat st.1 W from oh);clear oh;have e54':=dH e54;have e61':=dH e61;have e62':=dH e62;have HD:=aa hD;have bB:=aa aR;clear hD aR;clear g5;clear g12;clear g13
    go_wp2_with fail
    refine(O2 wd (wd.heap.size+1+1) (wd.heap.size+1) p.t.n.toNat (by omega) st.1 _ _ cs0.inp word W eN.o Ju.o iO.o gX hwl6 (by omega) Dc.o).mono ?_;rintro e w9 ⟨u9,rfl,hf9,fi,zd⟩;have HF9:=aa (cB.lower9 hf9 eN.o.size);have fG:=aa fi;have qD:=aa zd;clear hf9 fi zd
    go_wp2_with fail
    refine bX.mk _ (fun c hc=>by cases hc) ?_ rfl;exact bB.o.play HD.o qD.o fG.o HF9.o
   ·have g2:=ar ⟨2,.data⟩ (by simp) rfl;have d2:=hv 2 _ (by omega) g2 rfl;have g4:=ar ⟨4,.data⟩ (by simp) rfl;have g14:=ar ⟨14,.data⟩ (by simp) rfl;clear ar hi hv;have e51:=fy hF 2 51 (by decide) rfl (by kernel_rfl) d2;have e53:=fy hF 4 53 (by decide) rfl (by kernel_rfl) rfl;have e63:=fy hF 14 63 (by decide) rfl (by kernel_rfl) rfl;clear cQ bU;clear hF dQ d2;obtain⟨a4,c4,q4⟩:=(aR.x4 g4).slice;obtain⟨a14,c14,q14⟩:=(aR.x14 g14).slice;rw[q4]at e53;rw[q14]at e63;have HG:=aa (And.intro g4 (And.intro g14 (And.intro q4 q14)));clear q4 q14;have e51':=dH e51;have e53':=dH e53;have e63':=dH e63;have HD:=aa hD;have bB:=aa aR;clear hD aR;clear g2;clear g4;clear g14
    go_wp2_with fail
    refine bX.mk _ (fun c hc=>by cases hc) ?_ rfl;exact bB.o.made HG.o.1 HG.o.2.1 (by rw[HG.o.2.2.1,HG.o.2.2.2])
   ·have g15:=ar ⟨15,.data⟩ (by simp) rfl;clear ar hi hv;have e64:=fy hF 15 64 (by decide) rfl (by kernel_rfl) rfl;clear cQ bU;clear hF dQ;obtain⟨g4,g14,q15⟩:=aR.x15 g15;obtain⟨a4,c4,q4⟩:=(aR.x4 g4).slice;obtain⟨a14,c14,q14⟩:=(aR.x14 g14).slice;rw[q15,q4,q14]at e64;have HG:=aa (And.intro g4 (And.intro g14 (And.intro q4 q14)));clear q4 q14 q15 g4 g14;have e64':=dH e64;have HD:=aa hD;have bB:=aa aR;clear hD aR;clear g15
    go_wp2_with fail
    refine bX.mk _ (fun c hc=>by cases hc) ?_ rfl;exact bB.o.row HG.o.1 HG.o.2.1 HG.o.2.2.1 HG.o.2.2.2
  case tail=>
   intro x W' D F aT hv aR hF;have x0:=hv 0 _ (by omega) rfl;have x1:=hv 1 _ (by omega) rfl;have x2:=hv 2 _ (by omega) rfl;have x3:=hv 3 _ (by omega) rfl;have x5:=hv 5 _ (by omega) rfl;have x6:=hv 6 _ (by omega) rfl;have x7:=hv 7 _ (by omega) rfl;have x8:=hv 8 _ (by omega) rfl;have x9:=hv 9 _ (by omega) rfl;have x10:=hv 10 _ (by omega) rfl;have x11:=hv 11 _ (by omega) rfl;have x12:=hv 12 _ (by omega) rfl;have x13:=hv 13 _ (by omega) rfl;obtain⟨g4,g14,gb,q16,m8⟩:=aR.x16 (aT 16 (by omega));have yJ:=aR.x4 g4;have NS:=aR.x14 g14;have oh:=aR.bld;rw[g14]at oh;obtain⟨a4,c4,q4⟩:=yJ.slice;obtain⟨a14,c14,q14⟩:=NS.slice;rw[q4]at yJ;rw[q14]at NS;rw[q4,q14]at m8;simp only[bC,da,List.setIfInBounds_toArray,List.set_cons_succ,List.set_cons_zero,Nat.reduceAdd,x0,x1,x2,x3,x5,x6,x7,x8,x9,x10,x11,x12,x13,q4,q14,q16]at hF;generalize x 15=y15 at hF;subst hF;have qD:=aa aR.keep;have Dc:=aa (show BldIs wd.heap.size (wd.heap.size+1+1) (wd.heap.size+1) p.t.n.toNat (gu p.t.n.toNat cs0.inp word st.1).1 W' from oh);have P6:=aa yJ;have HF14:=aa NS;have HGB:=aa m8;have HS9:=aa (qD.o.keep _ _ _ _ qp.o (by decide));have yY:=aa (qD.o.own oz.o (by decide));clear hv aT aR yJ NS oh m8 g4 g14 q4 q14 q16 x0 x1 x2 x3 x5 x6 x7 x8 x9 x10 x11 x12 x13;simp only[List.drop_succ_cons,List.drop_zero];have hzW':=qD.o.old.size
   have bT:∀ j u',[Value.int .i64 (ci:Int),Value.slice a4 word.length c4,Value.slice a14 (gu p.t.n.toNat cs0.inp word st.1).2.length c14][j]?=some u'->W'.cell? (Addr.add ⟨gb,0,none⟩ j)=some u':=fun j u' hj=>by
    have e1:(Addr.add ⟨gb,0,none⟩ j)=⟨gb,j,none⟩:=by unfold Addr.add;split<;>simp_all
    rw[e1,ab HGB.o];simpa using hj
   have bE:=aa bT;clear bT;refine bh W' rfl (.tmp 50) (.tmp 65) 33 rfl wd.heap.size 89 i0 _ 3 56 Tryz.underlying33 df je jx iK rfl (by decide) _ st.2.length xs rfl yY.o ⟨gb,0,none⟩ 1 1 [Value.int .i64 (ci:Int),Value.slice a4 word.length c4,Value.slice a14 (gu p.t.n.toNat cs0.inp word st.1).2.length c14] rfl rfl bE.o (by simp[Value.oneCell']) (by unfold maxLen;omega) (by omega) (by omega) ?_;intro v9 w9 go eB _;have rT:=gh eB HS9.o (fun e=>yY.o.ne HS9.o (by decide) _ e rfl);have t9:=ab rT 9;have z9:=aH rT 9;simp at t9;obtain⟨a9,c9,rfl⟩:=go.slice;have HOWN9:=aa go;have IG:=aa eB;have Nt:=aa rT;clear go eB rT
   go_wp2_with fail
   refine RE (fun X=>BInv p (.slice pu p.t.cases.length cu) (.slice pv p.a.states.length cv) wd wd.heap.size (wd.heap.size+1+1+1) (wd.heap.size+1+1) (wd.heap.size+1) (gu p.t.n.toNat cs0.inp word st.1).1 (st.2++[⟨ci,word,(gu p.t.n.toNat cs0.inp word st.1).2⟩]) X/\KeepT (bldT++[89,35]) [wd.heap.size+1] wd.heap.size V X) ?_ (fun X hX=>?_)
   ·have kk:KeepT [89,35] [] wd.heap.size W' (w9.setCell ⟨wd.heap.size,9,none⟩ (.slice a9 (st.2.length+1) c9)):=((KeepT.refl _ _ _).grown yY.o (by simp) (Nat.le_refl _) (by omega) IG.o).set Nt.o (by simp) (Nat.le_refl _) _;have kt:KeepT (bldT++[89,35]) [wd.heap.size+1] wd.heap.size V (w9.setCell ⟨wd.heap.size,9,none⟩ (.slice a9 (st.2.length+1) c9)):=(qD.o.mono (fun t h=>List.mem_append_left _ h) (fun _ h=>h)).trans (kk.mono (fun t h=>List.mem_append_right _ h) (by simp));have iN:xs.length=st.2.length * 3:=yY.o.1;refine⟨⟨KeepT.below9 qK.o.old (KeepT.refl (ms:=[]) [] _ V) kt,Nat.le_refl _,kt.keep _ _ _ _ qK.o.bx (by decide),⟨.slice a9 (st.2.length+1) c9,xs++[Value.int .i64 (ci:Int),Value.slice a4 word.length c4,Value.slice a14 (gu p.t.n.toNat cs0.inp word st.1).2.length c14],by rw[aI Nt.o];rfl,by rw[List.length_append,List.length_singleton];exact HOWN9.o.put (fun g e=>HOWN9.o.ne Nt.o (by decide) g e) _ _,fun i Uf=>?_⟩,(Dc.o.grown yY.o (by decide) IG.o).set Nt.o (by decide) _⟩,kt⟩;rw[List.length_append,List.length_singleton]at Uf;by_cases aB:i<st.2.length
    ·rw[List.getElem_append_left aB];obtain⟨a,d,p1,p2,p3,p4,p5⟩:=AI.o i aB;exact⟨a,d,by rw[List.getElem?_append_left (by omega)];exact p1,by rw[List.getElem?_append_left (by omega)];exact p2,by rw[List.getElem?_append_left (by omega)];exact p3,kk.own (qD.o.own p4 (by decide)) (by decide),kk.fresh (qD.o.fresh p5 (by decide) (by decide)) (by decide) (by decide)⟩
    ·obtain rfl:i=st.2.length:=by omega
     have e9:(st.2++[(⟨ci,word,(gu p.t.n.toNat cs0.inp word st.1).2⟩:Ex)])[st.2.length]'(by simp)=⟨ci,word,(gu p.t.n.toNat cs0.inp word st.1).2⟩:=by simp
     rw[e9];refine⟨.slice a4 word.length c4,.slice a14 (gu p.t.n.toNat cs0.inp word st.1).2.length c14,?_,?_,?_,kk.own P6.o (by decide),kk.fresh HF14.o (by decide) (by decide)⟩
     ·rw[List.getElem?_append_right (by omega),iN,Nat.sub_self];rfl
     ·rw[List.getElem?_append_right (by omega),iN,Nat.add_sub_cancel_left];rfl
     ·rw[List.getElem?_append_right (by omega),iN,Nat.add_sub_cancel_left];rfl
   obtain⟨GH,hkX⟩:=hX;have qn:=aa GH;have nd:=aa hkX;obtain⟨vs9,b1',b2',b3',b4'⟩:=GH.bld.ex;obtain⟨a7,c7,rfl⟩:=b3'.slice;have tb:=ab b1' 1;have tx:=ab GH.bx 0;simp at tb tx;clear GH hkX b1' b2' b3' b4' t9 z9;have FR:=qn.o.old;have P1:=af FR HRd.o;have PZ:=af FR HEd.o;by_cases JE:8192<(gu p.t.n.toNat cs0.inp word st.1).1.length
   ·have hovI:(8192:Int)<((gu p.t.n.toNat cs0.inp word st.1).1.length:Int):=by omega
    have cR:=ab P1;have zR:=fun o=>aH P1 o
    have cE:=ab PZ 0;have zE:=aH PZ 0;simp at cE;have QH:am (buildE p=17):=aa (HOVER.o (by rw[eF.o];exact JE));have HRX:=aa P1;have F2:=aa PZ;have bW:=aa FR;clear P1 PZ FR JE
    gi_wp2
    obtain⟨q1,q2,q3,q4⟩:=sJ (ae Sw bW.o) (by omega) HRX.o rfl F2.o (.int .i64 0) (.int .i64 0) (.int .i64 0) (.slice none 0 0) (.int .i64 0) (.slice none 0 0) (.int .i64 0) (.int .i64 0) (.slice none 0 0) (.slice none 0 0) 17;refine⟨⟨?_,fun k hk=>?_,fun k o hB ho hc=>?_⟩,rfl,QH.o,q3,q1,q2⟩
    ·have:=nd.o.old.size;simpa using this
    ·rcases hk with rfl|⟨ad,e1,rfl⟩
     ·exact(q4 _ (by omega) (by omega)).trans ((nd.o.keep _ _ _ _ cS.o (by decide)).trans cS.o.symm)
     ·have h9:=WT.o ad e1;exact(q4 _ (by omega) (by omega)).trans (nd.o.old.block _ h9.2)
    ·exact(q4 _ (by omega) (by omega)).trans (nd.o.oth k o ho hc (by simp;omega))
   ·have hovI:¬ (8192:Int)<((gu p.t.n.toNat cs0.inp word st.1).1.length:Int):=by omega
    clear P1 PZ FR
    gi_wp2
    refine⟨⟨nd.o.old.size,fun k hk=>?_,fun k o hB ho hc=>nd.o.oth k o ho hc (by simp;omega)⟩,?_⟩
    ·rcases hk with rfl|⟨ad,e1,rfl⟩
     ·exact(nd.o.keep _ _ _ _ cS.o (by decide)).trans cS.o.symm
     ·exact nd.o.old.block _ (WT.o ad e1).2
    ·show BInv p (.slice pu p.t.cases.length cu) (.slice pv p.a.states.length cv) wd wd.heap.size (wd.heap.size+1+1+1) (wd.heap.size+1+1) (wd.heap.size+1) (stP p (i+1)).1 (stP p (i+1)).2 X/\X.heap[W4.heap.size+1]?=some (.cells #[.slice pw (aP p).length cw] 221)/\(stP p (i+1)).1.length<=8192
     rw[eF.o];exact⟨qn.o,nd.o.keep _ _ _ _ cS.o (by decide),Nat.le_of_not_lt JE⟩
end Go.Proofs.YtmeaoneaephjeaaGreatDoor
