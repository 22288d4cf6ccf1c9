/-
  A part of the proof: lemmas and contracts that the parts behind it use. Each one's conditions are its own premises.
-/
import Derived.Test.YtmeaoneaephjeaaGreatDoorK8
set_option maxRecDepth 100000
set_option maxHeartbeats 8000000
set_option linter.unusedVariables false
set_option linter.unusedSimpArgs false
namespace Go.Proofs.YtmeaoneaephjeaaGreatDoor
def jA(dh:Int) (st:List Int × List Nat) (f:Nat):List Int × List Nat:=if st.1.getD f 0<0 then(st.1.set f dh,st.2++[f]) else st
def ef(s:Sys) (h:Nat) (D:List Int) (l:List Nat):List Int × List Nat:=l.foldl (jA (D.getD h 0+1)) (D,[])
theorem Cd(s:Sys) (h:Nat) (D:List Int) (l:List Nat) (f:Nat):ef s h D (l++[f])=jA (D.getD h 0+1) (ef s h D l) f:=by simp[ef]
theorem OD(dh:Int) (st:List Int × List Nat) (f:Nat):(jA dh st f).1.length=st.1.length:=by unfold jA;split<;>simp
theorem yj(s:Sys) (h:Nat) (D:List Int) (l:List Nat):(ef s h D l).1.length=D.length:=by
 unfold ef;generalize D.getD h 0+1=dh
 have key:∀ (l:List Nat) (st:List Int × List Nat),(l.foldl (jA dh) st).1.length=st.1.length:=by
  intro l;induction l with
  | nil=>intro st;rfl
  | cons a r ih=>intro st;rw[List.foldl_cons,ih,OD]
 exact key l _
theorem Q6{s:Sys} {h:Nat} {D:List Int} (hl:D.length=eS s) (h0:0<=D.getD h 0):∀ k,k<=eS s->(∀ e,e<eS s->(ef s h D (fR s h k)).1.getD e 0=i8 (byB s) (fun e=>D.getD e 0) h k e)/\(ef s h D (fR s h k)).2=td (byB s) (fun e=>D.getD e 0) h k:=by
 intro k;induction k with
 | zero=>intro _;exact⟨fun e _=>by unfold i8;rw[if_neg (by omega)];rfl,rfl⟩
 | succ k ih=>
  intro hk;obtain⟨i1,i2⟩:=ih (by omega);have cK:=yj s h D (fR s h k)
  have hq:td (byB s) (fun e=>D.getD e 0) h (k+1)=td (byB s) (fun e=>D.getD e 0) h k++if decide (D.getD k 0<0)&&byB s h k then [k] else []:=by
   unfold td;rw[List.range_succ,List.filter_append];cases hb:decide (D.getD k 0<0)&&byB s h k<;>simp[hb]<;>simpa using hb
  have tI:(ef s h D (fR s h k)).1.getD k 0=D.getD k 0:=by rw[i1 k (by omega)];unfold i8;rw[if_neg (by omega)]
  cases hn:sd s h k with
  | true=>
   have gw:byB s h k=true:=by unfold sd at hn;simp only[Bool.and_eq_true]at hn;exact hn.1
   rw[vW hn,Cd];unfold jA;rw[tI];by_cases hd:D.getD k 0<0
   ·rw[if_pos hd]
    refine⟨fun e he=>?_,?_⟩
    ·dsimp only
     rw[ip _ _ _ _ _ (by omega)];by_cases ee:e=k
     ·subst ee
      rw[if_pos rfl];unfold i8;rw[if_pos ⟨by omega,hd,gw⟩]
     ·rw[if_neg ee,i1 e he]
      unfold i8;by_cases hc:e<k/\D.getD e 0<0/\byB s h e=true
      ·rw[if_pos hc,if_pos ⟨by omega,hc.2⟩]
      ·rw[if_neg hc,if_neg (fun h=>hc ⟨by omega,h.2⟩)]
    ·dsimp only
     rw[i2,hq,decide_eq_true hd,gw];rfl
   ·rw[if_neg hd]
    refine⟨fun e he=>?_,?_⟩
    ·rw[i1 e he]
     unfold i8;by_cases ee:e=k
     ·subst ee;rw[if_neg (fun h=>hd h.2.1),if_neg (fun h=>hd h.2.1)]
     ·by_cases hc:e<k/\D.getD e 0<0/\byB s h e=true
      ·rw[if_pos hc,if_pos ⟨by omega,hc.2⟩]
      ·rw[if_neg hc,if_neg (fun h=>hc ⟨by omega,h.2⟩)]
    ·rw[i2,hq,decide_eq_false hd,Bool.false_and]
     simp
  | false=>
   rw[zs hn]
   have jo:¬ (D.getD k 0<0/\byB s h k=true):=fun ⟨g1,g2⟩=>by
    unfold sd at hn;rw[g2,Bool.true_and]at hn;have:k=h:=by simpa using hn
    subst this;omega
   refine⟨fun e he=>?_,?_⟩
   ·rw[i1 e he]
    unfold i8;by_cases ee:e=k
    ·subst ee;rw[if_neg (fun h=>jo h.2),if_neg (fun h=>jo h.2)]
    ·by_cases hc:e<k/\D.getD e 0<0/\byB s h e=true
     ·rw[if_pos hc,if_pos ⟨by omega,hc.2⟩]
     ·rw[if_neg hc,if_neg (fun h=>hc ⟨by omega,h.2⟩)]
   ·rw[i2,hq]
    cases hd:decide (D.getD k 0<0)&&byB s h k with
    | false=>simp
    | true=>simp only[Bool.and_eq_true,decide_eq_true_eq]at hd;exact absurd hd jo
theorem EN{n:Nat} {L:Nat->Nat->Bool} {f:Nat} {D E:Nat->Int} {Q:List Nat} (hf:f<n) (h:Bfs n L f D Q) (he:∀ e,e<n->D e=E e):Bfs n L f E Q:=by
 refine⟨by rw[<-he f hf];exact h.zero,fun e h1 h2=>h.only e h1 (by rw[he e h1];exact h2),fun e h1=>by rw[<-he e h1];exact h.low e h1,fun e h1 d h2=>?_,fun q hq=>?_,fun e g h1 h2 h3 h4 h5=>?_,?_,fun a r h1 e h2=>?_⟩
 ·obtain⟨g,hg,e1,e2⟩:=h.pred e h1 d (by rw[he e h1];exact h2)
  exact⟨g,hg,by rw[<-he g hg];exact e1,e2⟩
 ·have:=h.ok q hq
  exact⟨this.1,by rw[<-he q this.1];exact this.2⟩
 ·rw[<-he e h1,<-he g h2]
  exact h.done e g h1 h2 (by rw[he g h2];exact h3) h4 h5
 ·refine h.asc.imp_of_mem fun {a b} ha hb Aq=>?_
  rw[<-he a (h.ok a ha).1,<-he b (h.ok b hb).1];exact Aq
 ·have ha:=(h.ok a (by rw[h1];simp)).1
  rw[<-he e h2,<-he a ha];exact h.near a r h1 e h2
theorem OE{s:Sys} {f h:Nat} (hf:f<eS s) {D:List Int} {r:List Nat} (hl:D.length=eS s) (b:Bfs (eS s) (byB s) f (fun e=>D.getD e 0) (h :: r)) :
  Bfs (eS s) (byB s) f (fun e=>(ef s h D (dN s h)).1.getD e 0) (r++(ef s h D (dN s h)).2)/\(r++(ef s h D (dN s h)).2).length+((List.range (eS s)).filter fun e=>decide ((ef s h D (dN s h)).1.getD e 0<0)).length<(h :: r).length+((List.range (eS s)).filter fun e=>decide (D.getD e 0<0)).length:=by
 have h0:=(b.ok h (by simp)).2;obtain⟨i1,i2⟩:=Q6 hl h0 (eS s) (Nat.le_refl _);unfold dN;refine⟨?_,?_⟩
 ·rw[i2]
  exact EN hf (b.step (fun e g=>GD s e g)) fun e he=>(i1 e he).symm
 ·have h3:=JG (n:=eS s) (byB s) (fun e=>D.getD e 0) h h0 r
  rw[i2]
  have h4:((List.range (eS s)).filter fun e=>decide ((ef s h D (fR s h (eS s))).1.getD e 0<0))=(List.range (eS s)).filter fun e=>decide (i8 (byB s) (fun e=>D.getD e 0) h (eS s) e<0):=
   List.filter_congr fun e he=>by rw[i1 e (List.mem_range.1 he)]
  rw[h4];exact h3
theorem UK{s:Sys} {f:Nat} (hf:f<eS s) {D:List Int} (hl:D.length=eS s) (b:Bfs (eS s) (byB s) f (fun e=>D.getD e 0) []):D=cW s f:=by
 have h1:=JF b.dist (kM hf);refine List.ext_getElem (by rw[hl,vB]) fun i h2 h3=>?_
 have h4:=h1 i (by omega);rw[show D.getD i 0=D[i] by simp[h2],show (cW s f).getD i 0=(cW s f)[i] by simp[h3]]at h4;exact h4
end Go.Proofs.YtmeaoneaephjeaaGreatDoor
namespace Go.Proofs.YtmeaoneaephjeaaGreatDoor
open Go.RowKit Go Go.Shelf
theorem Ce{p:Nat->Prop} (h:∃ n,p n):∃ n,p n/\∀ m,p m->n<=m:=by
 obtain⟨n,hn⟩:=h;induction n using Nat.strongRecOn with
 | _ n ih=>
  by_cases h:∃ m,m<n/\p m
  ·obtain⟨m,h1,h2⟩:=h
   exact ih m h1 h2
  ·exact⟨n,hn,fun m hm=>Nat.le_of_not_lt fun h'=>h ⟨m,h',hm⟩⟩
open Classical in
noncomputable def zw(I:Nat->Act->World->Prop) (a:Act) (w:World):Nat:=if h:∃ n,I n a w then Classical.choose (Ce h) else 0
theorem yk{I:Nat->Act->World->Prop} {a:Act} {w:World} (h:∃ n,I n a w):I (zw I a w) a w/\∀ m,I m a w->zw I a w<=m:=by
 unfold zw;rw[dif_pos h];exact Classical.choose_spec (Ce h)
theorem A7{P:Program} {c:Code} {a:Act} {w:World} {Q:Exit->Act->World->Prop} (I:Nat->Act->World->Prop) (n0:Nat) (h0:I n0 a w)
  (round:∀ n a w,I n a w->c.wp P (Exit.then (fun a' w'=>∃ m,m<n/\I m a' w') Q) a w):(Code.loop c).wp P Q a w:=by
 refine wp_loop (fun a w=>∃ n,I n a w) (zw I) ⟨n0,h0⟩ fun a w h=>?_
 obtain⟨h1,h2⟩:=yk h;refine wp_mono (round _ a w h1) ?_;rintro e a' w' he;cases e<;>first|exact he|skip
 obtain⟨m,hm,hi⟩:=he;exact⟨⟨m,hi⟩,Nat.lt_of_le_of_lt ((yk ⟨m,hi⟩).2 m hi) hm⟩
structure OwnQ (w:World) (g:Nat) (e:TypeId) (v:Value) (n:Nat) (xs:List Value):Prop where
 len:xs.length=n
 ex:∃ off cap,v=.slice (some ⟨g,off,none⟩) n cap/\n<=cap/\cap<=maxLen/\(cap=0\/∃ cur fz,w.heap[g]?=some (.cells cur e fz)/\(∀ i,i<cur.size->¬ (fz.1<=i/\i<fz.2))/\cur.size=off+cap/\(cur.toList.drop off).take n=xs)
theorem OwnQ.up{w w':World} {g:Nat} {e:TypeId} {v:Value} {n:Nat} {xs:List Value} (h:OwnQ w g e v n xs) (hb:w'.heap[g]?=w.heap[g]?\/g ≥ w.heap.size):OwnQ w' g e v n xs:=by
 obtain⟨off,cap,h1,h2,h3,h4⟩:=h.ex;refine⟨h.len,off,cap,h1,h2,h3,?_⟩;rcases h4 with h4|⟨cur,fz,h5,h6⟩
 ·exact .inl h4
 ·rcases hb with hb|hb
  ·exact .inr ⟨cur,fz,hb.trans h5,h6⟩
  ·have:=ar h5;omega
structure GrowQ (g:Nat) (w w':World):Prop where
 os:w'.os=w.os
 tape:w'.tape=w.tape
 output:w'.output=w.output
 size:w.heap.size<=w'.heap.size
 same:∀ k,k<w.heap.size->k≠g->w'.heap[k]?=w.heap[k]?
theorem GrowQ.below{g n:Nat} {w0 w w':World} (h:GrowQ g w w') (hb:Below n w0 w) (hn:n<=w.heap.size) (hg:n<=g):Below n w0 w':=
 ⟨h.os.trans hb.os,h.tape.trans hb.tape,h.output.trans hb.output,Nat.le_trans hb.size h.size,fun k hk=>(h.same k (by omega) (by omega)).trans (hb.block k hk)⟩
theorem GrowQ.keep{g:Nat} {w w':World} (h:GrowQ g w w') {k:Nat} {o:Obj} (hk:w.heap[k]?=some o) (hg:k≠g):w'.heap[k]?=some o:=(h.same k (ar hk) hg).trans hk
section
variable {P : Program} (w : World)
theorem Hn(t ty e:TypeId) (i:TypeInfo) (z:Value) (bytes:Nat) (ht:P.underlying t=some (.slice e)) (hi:P.info? e=some i) (hz:i.zero=some z)
  (eJ:i.size=1) (gw:i.bytes=bytes) (rm:z.cells.size=1)
  (g:Nat) (v:Value) (n:Nat) (xs:List Value) (aX:OwnQ w g e v n xs)
  (a:Addr) (c:Nat) (u:Value) (bN:∀ j x,[u][j]?=some x->w.cell? (a.add j)=some x) (h1:u.oneCell'=true)
  (nX:n+1<=maxLen) (gl:(n+1) * bytes<=140737488355328) :
  ∃ v' w' g',(Builtin.append_ #[t,t] ty #[v,.slice (some a) 1 c]).run P w=.ok v' w'/\OwnQ w' g' e v' (n+1) (xs++[u])/\GrowQ g w w'/\(g'=g/\g<w.heap.size\/g'=w.heap.size):=by
 obtain⟨off,cap,rfl,jO,pT,h⟩:=aX.ex;have iw:=aX.len;by_cases l6:n+1<=cap
 ·rcases h with h|⟨cur,fz,hg,mI,jv,mP⟩
  ·omega
  have hr:=run_append_room_cells (P:=P) w t ty e i ht hi g off n cap a 1 c [u] (by simp[eJ]) bN (by simpa using h1) l6 (fun j hj=>by
    rw[eJ,Nat.mul_one,ab hg];simp at hj;simp
    omega)
   (fun j hj=>by
    simp at hj;simp only[World.frozen?,hg];have:=mI (off+n * i.size+j) (by rw[eJ];omega)
    simpa using this)
  rw[eJ,Nat.mul_one]at hr;have fO:w.setCells g (off+n) [u]=w.setCell ⟨g,off+n,none⟩ u:=rfl;rw[fO]at hr;refine⟨_,_,g,hr,⟨by simp[iw],off,cap,rfl,l6,pT,.inr ⟨_,fz,aF hg _ _,fun i hi=>mI i (by simpa using hi),by simpa using jv,?_⟩⟩,⟨rfl,rfl,rfl,by simp,fun k _ hk=>Below.heap_setCell _ _ _ _ hk⟩,.inl ⟨rfl,ar hg⟩⟩;rw[Array.toList_setIfInBounds,List.drop_set,if_neg (by omega),Nat.add_sub_cancel_left,List.take_succ_eq_append_getElem (by simp;omega),List.take_set_of_le (Nat.le_refl _),mP,List.getElem_set_self]
 ·have CL:∀ j x,xs[j]?=some x->w.cell? ((⟨g,off,none⟩:Addr).add j)=some x:=fun j x hx=>by
   have hj:=(List.getElem?_eq_some_iff.1 hx).1;rcases h with h|⟨cur,fz,hg,mI,jv,mP⟩
   ·omega
   have e1:((⟨g,off,none⟩:Addr).add j)=⟨g,off+j,none⟩:=by unfold Addr.add;split<;>simp_all
   rw[e1,ab hg];rw[<-mP,List.getElem?_take,if_pos (by omega),List.getElem?_drop]at hx;simpa using hx
  have hr:=run_append_grow (P:=P) w t ty e i z ht hi hz ⟨g,off,none⟩ n cap xs (by rw[eJ,iw,Nat.mul_one]) CL a 1 c [u] (by simp[eJ]) bN (by omega) (by simp only[maxLen]at nX;omega) (growslice_fits (by omega) (by rw[gw];exact gl));obtain⟨v',w',q1,q2,q3⟩:=run_append_arg_grows (P:=P) w t ty e i z i.size i.bytes ht hi hz rfl rfl (by rw[eJ,rm]) (by omega) ⟨g,off,none⟩ n cap xs (by rw[eJ,iw,Nat.mul_one]) CL a 1 c [u] (by simp[eJ]) bN (by omega) nX (by rw[gw];exact gl);have e1:=hr.symm.trans q1;injection e1 with e1 e2
  subst e1 e2;have q4:=aD.of_owns q2;rw[eJ]at q4;refine⟨_,_,w.heap.size,hr,⟨by simp[iw],?_⟩,⟨q3.os,q3.tape,q3.output,q3.size,fun k hk _=>q3.block k hk (by simp)⟩,.inr rfl⟩;rcases q4.2 with ⟨hn,_⟩|⟨g',cap',cur,fz,hv,_,hg,mI,hnc',hcm',jv,mP⟩
  ·cases hn
  ·injection hv with jN _ Pr
   injection jN with jN
   injection jN with jN
   subst jN Pr;exact⟨0,_,rfl,hnc',hcm',.inr ⟨cur,fz,hg,mI,by omega,by rw[List.drop_zero,<-mP,Nat.mul_one]⟩⟩
theorem zJ{F:Fence} {d:Nat} {ops:Array Oper} {rest:List Oper} {o:Oper} {a:Act} {Q:Exit->Act->World->Prop} (k9:o.guard=none) (s x:Operand) (t:TypeId)
  (ho:o.op=.call { callee:=.builtin .append,args:=#[s,x],argTypes:=#[t,t] })
  (e:TypeId) (i:TypeInfo) (z:Value) (bytes:Nat) (ht:P.underlying t=some (.slice e)) (hi:P.info? e=some i) (hz:i.zero=some z)
  (eJ:i.size=1) (gw:i.bytes=bytes) (rm:z.cells.size=1)
  (g:Nat) (v:Value) (n:Nat) (xs:List Value) (hs:a.eval s=v) (aX:OwnQ w g e v n xs)
  (ad:Addr) (c:Nat) (u:Value) (hx:a.eval x=.slice (some ad) 1 c) (bN:∀ j x,[u][j]?=some x->w.cell? (ad.add j)=some x) (h1:u.oneCell'=true)
  (nX:n+1<=maxLen) (gl:(n+1) * bytes<=140737488355328)
  (h:∀ v' w' g',OwnQ w' g' e v' (n+1) (xs++[u])->GrowQ g w w'->(g'=g/\g<w.heap.size\/g'=w.heap.size)->wpListIn F d P ops Q rest (a.put o.dst v') w'):wpListIn F d P ops Q (o :: rest) a w:=by
 refine wpListIn_plain k9 fun K hK'=>?_
 obtain⟨v',w',g',Rx,r1,r2,r3⟩:=Hn (P:=P) w t o.type e i z bytes ht hi hz eJ gw rm g v n xs aX ad c u bN h1 nX gl;unfold Oper.wpIn;refine⟨?_,?_⟩
 ·simp[Oper.about,ho,resolve,Target.leads,Sem.run_pure]
 ·rw[Oper.semAt_plain F _ _ (by rw[ho];intro c kH;cases kH)]
  simp[execOp,ho,resolve,invoke,builtin,hs,hx,Rx,Result.andThen];exact hK' _ _ (h v' w' g' r1 r2 r3)
end
theorem OwnQ.tail{w:World} {g:Nat} {e:TypeId} {off n cap:Nat} {x:Value} {xs:List Value} (h:OwnQ w g e (.slice (some ⟨g,off,none⟩) (n+1) cap) (n+1) (x :: xs)):OwnQ w g e (.slice (if cap=1 then some ⟨g,off,none⟩ else some ⟨g,off+1,none⟩) n (cap - 1)) n xs:=by
 have hl:=h.len;obtain⟨off',cap',hv,h2,h3,h4⟩:=h.ex;injection hv with e1 _ e3
 injection e1 with e1
 injection e1 with _ e1
 subst e1 e3;simp at hl;rcases h4 with h4|⟨cur,fz,h5,h6,h7,h8⟩
 ·omega
 by_cases hc:cap=1
 ·subst hc
  obtain rfl:n=0:=by omega
  have:xs=[]:=List.eq_nil_of_length_eq_zero hl;subst this;exact⟨rfl,off,0,by simp,by omega,by omega,.inl rfl⟩
 ·refine⟨hl,off+1,cap - 1,by rw[if_neg hc],by omega,by omega,.inr ⟨cur,fz,h5,h6,by omega,?_⟩⟩
  rw[show off+1=1+off by omega,<-List.drop_drop];have h9:=congrArg (List.drop 1) h8;rw[List.drop_take,Nat.add_sub_cancel]at h9;simpa using h9
end Go.Proofs.YtmeaoneaephjeaaGreatDoor
namespace Go.Proofs.YtmeaoneaephjeaaGreatDoor
open Go.RowKit Go Go.Shelf
attribute [local go_sem] Oper.semAt_some
theorem OwnQ.ck{w w':World} {g:Nat} {e:TypeId} {v:Value} {n:Nat} {xs:List Value} (h:OwnQ w g e v n xs) (hb:CK w w'):OwnQ w' g e v n xs:=by
 obtain⟨off,cap,h1,h2,h3,h4⟩:=h.ex;refine⟨h.len,off,cap,h1,h2,h3,?_⟩;rcases h4 with h4|⟨cur,fz,h5,h6⟩
 ·exact .inl h4
 ·exact .inr ⟨cur,fz,hb _ _ h5 rfl,h6⟩
def vY(l:List Nat):List Value:=l.map fun x:Nat=>Value.int .i64 (x:Int)
def L0(s:Sys) (D:List Int):Nat:=((List.range (eS s)).filter fun e=>decide (D.getD e 0<0)).length
structure DFI (s:Sys) (w:World) (bq bx be:Nat) (Ds:List Nat) (D:List Int) (Q:List Nat) (V:World):Prop where
 old:Below w.heap.size w V
 box:V.heap[w.heap.size+1]?=some (.cells #[.slice (some ⟨w.heap.size,0,none⟩) (eS s) (eS s)] 38)
 row:V.heap[w.heap.size]?=some (.cells (bJ D) 3)
 que:∃ g qv,V.heap[bq]?=some (.cells #[qv] 38)/\OwnQ V g 3 qv Q.length (vY Q)/\w.heap.size+1<g/\g<V.heap.size/\g≠bx/\g≠be/\g≠bq
 marks:cQ w.heap.size Ds V
theorem DFI.sta{s:Sys} {w:World} {bq bx be B:Nat} {Ds:List Nat} {D:List Int} {Q:List Nat} (hB:w.heap.size<=B) (hD:∀ E∈Ds,E<B):cI B (DFI s w bq bx be Ds D Q):=fun A A' c h=>by
 obtain⟨g,qv,h1,h2,h3,h4,h5⟩:=h.que;exact⟨c.below hB h.old.size h.old,c.same _ _ h.box (.inr rfl),c.same _ _ h.row (.inr rfl),⟨g,qv,c.same _ _ h1 (.inr rfl),h2.ck c.ck,h3,Nat.lt_of_lt_of_le h4 c.size,h5⟩,cI.marks hD A A' c h.marks⟩
def Vp(s:Sys) (B f:Nat) (w:World) (n:Nat) (act:Act) (W:World):Prop:=∃ (D:List Int) (Q:List Nat) (bq:Nat) (Ds:List Nat) (u2 u3 u4 u6 u8 u9 u10 u11 u12 u13 u14 u15 u16 u17 u18 u19 u20 u21 u22 u23 u24 u25 u26 u27 u28 u29 u30 u31 u32 u33 u34 u35 u36 u37 u38 u39 u40 u41 u42 u43 u44 u45 u46 u47 u48 u49 u50 u51 u52 u53 u54 u55 u56 u57 u58 u59 u60 u61:Value),
   act={ tmps:=#[Value.pointer (some ⟨B,0,none⟩),Value.int .i64 f,u2,u3,u4,Value.pointer (some ⟨w.heap.size+1,0,none⟩),u6,Value.pointer (some ⟨bq,0,none⟩),u8,u9,u10,u11,u12,u13,u14,u15,u16,u17,u18,u19,u20,u21,u22,u23,u24,u25,u26,u27,u28,u29,u30,u31,u32,u33,u34,u35,u36,u37,u38,u39,u40,u41,u42,u43,u44,u45,u46,u47,u48,u49,u50,u51,u52,u53,u54,u55,u56,u57,u58,u59,u60,u61],defers:=mA Ds }/\n=Q.length+L0 s D/\n<=257/\D.length=eS s/\Bfs (eS s) (byB s) f (fun e=>D.getD e 0) Q/\w.heap.size+1<bq/\bq<W.heap.size/\DFI s w bq W.heap.size W.heap.size Ds D Q W
theorem L1{n:Nat} {L:Nat->Nat->Bool} {f:Nat} {D:Nat->Int} {Q:List Nat} (b:Bfs n L f D Q) (d:Nat):∀ e,e<n->D e=(d:Int)->d+1<=((List.range n).filter fun x=>decide (0<=D x/\D x<=(d:Int))).length:=by
 induction d with
 | zero=>
  intro e he h;have:e∈(List.range n).filter fun x=>decide (0<=D x/\D x<=((0:Nat):Int)):=by simp[he,h]
  have:=List.length_pos_of_mem this;omega
 | succ d ih=>
  intro e he h;obtain⟨g,hg,h1,_⟩:=b.pred e he d (by rw[h];rfl);have h4:=ih g hg h1
  have h5:((List.range n).filter fun x=>decide (0<=D x/\D x<=(d:Int))).length<((List.range n).filter fun x=>decide (0<=D x/\D x<=((d+1:Nat):Int))).length:=by
   refine Ek _ _ _ (fun x _ hx=>?_) e (by simpa using he) (by rw[h];simp;omega) (by rw[h];simp;omega);simp only[decide_eq_true_eq]at hx ⊢;omega
  omega
theorem L2{s:Sys} {f h:Nat} {D:List Int} {Q:List Nat} (b:Bfs (eS s) (byB s) f (fun e=>D.getD e 0) Q) (hh:h<eS s) (hE:eS s<=256):D.getD h 0<1000000:=by
 by_cases h0:0<=D.getD h 0
 ·have h1:=L1 b (D.getD h 0).toNat h hh (by omega)
  have h2:((List.range (eS s)).filter fun x=>decide (0<=D.getD x 0/\D.getD x 0<=((D.getD h 0).toNat:Int))).length<=eS s:=Nat.le_trans (List.length_filter_le _ _) (by simp);omega
 ·omega
theorem UL(s:Sys) (D:List Int):L0 s D<=eS s:=Nat.le_trans (List.length_filter_le _ _) (by simp)
theorem L3(s:Sys) (h:Nat) (D:List Int) (l:List Nat):(ef s h D l).2.length<=l.length:=by
 unfold ef;generalize D.getD h 0+1=dh
 have key:∀ (l:List Nat) (st:List Int × List Nat),(l.foldl (jA dh) st).2.length<=st.2.length+l.length:=by
  intro l;induction l with
  | nil=>intro st;simp
  | cons a r ih=>
   intro st;rw[List.foldl_cons];refine Nat.le_trans (ih _) ?_;have:(jA dh st a).2.length<=st.2.length+1:=by unfold jA;split<;>simp
   simp only[List.length_cons];omega
 exact Nat.le_trans (key l _) (by simp)
theorem Vq(s:Sys) (e:Nat):(dN s e).length<=eS s:=Nat.le_trans (List.length_filter_le _ _) (by simp)
theorem L4{s:Sys} {h:Nat} {D:List Int} (h0:0<=D.getD h 0) (l:List Nat):(ef s h D l).1.getD h 0=D.getD h 0:=by
 unfold ef
 have key:∀ (l:List Nat) (st:List Int × List Nat),st.1.getD h 0=D.getD h 0->(l.foldl (jA (D.getD h 0+1)) st).1.getD h 0=D.getD h 0:=by
  intro l;induction l with
  | nil=>intro st h1;exact h1
  | cons a r ih=>
   intro st h1;rw[List.foldl_cons];refine ih _ ?_;unfold jA;split
   ·rename_i h2
    by_cases ha:a<st.1.length
    ·dsimp only
     rw[ip _ _ _ _ _ ha,if_neg (fun e=>by subst e;omega)];exact h1
    ·dsimp only
     rw[List.set_eq_of_length_le (by omega)];exact h1
   ·exact h1
 exact key l _ rfl
theorem OF(s:Sys) (hs:SysOk s) (hE:eS s<=256) (B f:Nat) (hf:f<eS s) (base:Nat) (w:World) (h:gI w base B s) :
  Calls Tryz.prog 137 #[.pointer (some ⟨B,0,none⟩),.int .i64 f] w fun r w'=>r=.returned (.slice (some ⟨w.heap.size,0,none⟩) (eS s) (eS s))/\w'.heap[w.heap.size]?=some (.cells (bJ (cW s f)) 3)/\Below w.heap.size w w':=by
 obtain⟨pl,cl,h1,_⟩:=(h.at hs).open;have HF:=aa h;have tF:w.cell? ⟨B,1,none⟩=some (.slice pl (eS s) cl):=(ab h1 1).trans rfl;have hBw:=ar h1;obtain⟨i0,cG,cf,bP,cj⟩:=info_parts Tryz.infoInt
 have fE:Hid (Bfs (eS s) (byB s) f (fun e=>((List.replicate (eS s) (-1:Int)).set f 0).getD e 0) [f]):=aa (EN hf (Bfs.start hf) fun e he=>by
  rw[ip _ _ _ _ _ (by simp;exact hf)];unfold dD;split
  ·rfl
  ·simp[he])
 obtain⟨m,hm⟩:∃ m,eS s=m:=⟨_,rfl⟩;have gL:=kO (fun _=>-1) m (by omega);have Jf:Hid ((List.range m).map (fun _=>(-1:Int))=List.replicate (eS s) (-1)):=aa (by rw[hm];simp[List.map_const']);rw[hm]at hE hf tF;have HM:=aa hm;have Px:=aa hs;clear hm h1 h hs;refine fT Tryz.func137 rfl ?_;simp only[Tryz.ntmps137,List.size_toArray,List.length_cons,List.length_nil,Nat.reduceAdd,Nat.reduceSub,Array.replicate_succ,Array.replicate_zero,List.push_toArray,List.append_toArray,List.nil_append,List.cons_append]
 go_wp2_with fail
 clear gL tF;refine bj (fun W=>Below w.heap.size w W/\W.heap[w.heap.size]?=some (.cells (fC m (fun _=>-1) 0) 3)/\W.heap[w.heap.size+1]?=some (.cells #[.slice (some ⟨w.heap.size,0,none⟩) m m] 38)) ⟨by go_grown,am _ (ak _ _),ba _ _ _⟩ (fun W0 aW=>?_);have iA:=aa aW;have tx0:=ab aW.2.2 0;simp at tx0;clear aW
 go_wp2_with fail
 clear tx0
 go_loopw [17] (fun i wr=>∃ k:Nat,k<=m/\i=.int .i64 k/\Below w.heap.size w wr/\wr.heap[w.heap.size]?=some (.cells (fC m (fun _=>-1) k) 3)/\wr.heap[w.heap.size+1]?=some (.cells #[.slice (some ⟨w.heap.size,0,none⟩) m m] 38)) (fun i _=>m - (intOf i).toNat)
 case atStart=>exact⟨0,by omega,rfl,iA.out.1,iA.out.2.1,iA.out.2.2⟩
 case round=>
  clear iA;obtain⟨k,hk,rfl,aq,hO,hX⟩:=hrel;have tx:=ab hX 0;simp at tx;have eK:=ar hX;have HO:=aa hO;have HX:=aa hX;have aR:=aa aq;by_cases az:k<m
  ·have tq:=ab hO k
   rw[mZ _ _ _ _ az]at tq;have zq:=aE hO k;clear hO hX aq
   go_wp2_with fail
   go_roundw
   case rel=>exact⟨k+1,by omega,by go_num,aR.out.setCell (by dsimp only;omega) _,by rw[aF HO.out,xN m (fun _=>-1) k az],aH HX.out (by omega) _ _⟩
   case measure=>simp[intOf];omega
  obtain rfl:k=m:=by omega
  have tq:=ab hO f;rw[mZ _ _ _ _ hf]at tq;have zq:=aE hO f;have qr:=hO;rw[q7,Jf.out]at qr;have eU:=aa qr;have I':=aq.size;clear hO qr hX aq
  go_wp2_with fail
  clear tx tq zq
  refine bj (fun W=>Below w.heap.size w W/\W.heap[w.heap.size+1]?=some (.cells #[.slice (some ⟨w.heap.size,0,none⟩) k k] 38)/\W.heap[w.heap.size]?=some (.cells (bJ ((List.replicate (eS s) (-1)).set f 0)) 3)/\W.heap[wr.heap.size]?=some (.cells #[.int .i64 f] 3)/\W.heap[wr.heap.size+1]?=some (.cells #[.slice (some ⟨wr.heap.size,0,none⟩) 1 1] 38))
   ⟨((aR.out.setCell (p:=⟨w.heap.size,f,none⟩) (Nat.le_refl _) _).alloc (by simpa using I') _).alloc (by simp;omega) _,am _ (am _ (aH HX.out (by omega) _ _)),am _ (am _ (by rw[aF eU.out,x'])),am _ (by have:=ak (wr.setCell ⟨w.heap.size,f,none⟩ (.int .i64 0)) (.cells #[.int .i64 f] 3);rwa [World.size_setCell]at this),by have:=ba (wr.setCell ⟨w.heap.size,f,none⟩ (.int .i64 0)) (.cells #[.int .i64 f] 3) (.cells #[.slice (some ⟨wr.heap.size,0,none⟩) 1 1] 38);rwa [World.size_setCell]at this⟩ (fun W1 cC=>?_)
  have sO:w.heap.size+1<wr.heap.size:=eK;generalize wr.heap.size=g0 at cC sO;have gc:=aa cC;have wN:=ar cC.2.2.2.2;clear cC HO eU HX aR wr eK I' W0;refine A7 (fun n act W=>Vp s B f w n act W) (1+L0 s ((List.replicate (eS s) (-1)).set f 0)) ?start ?round
  case start=>
   refine⟨_,[f],g0+1,[],_,_,_,_,_,_,_,_,_,_,_,_,_,_,_,_,_,_,_,_,_,_,_,_,_,_,_,_,_,_,_,_,_,_,_,_,_,_,_,_,_,_,_,_,_,_,_,_,_,_,_,_,_,_,_,_,_,_,rfl,rfl,by have:=UL s ((List.replicate (eS s) (-1)).set f 0);have:=HM.out;omega,by simp,fE.out,by omega,wN,gc.out.1,by rw[HM.out];exact gc.out.2.1,gc.out.2.2.1,⟨g0,_,gc.out.2.2.2.2,⟨rfl,0,1,rfl,Nat.le_refl _,by unfold maxLen;omega,.inr ⟨_,(0,0),gc.out.2.2.2.1,fun i _ h=>by have:=h.2;simp at this,rfl,rfl⟩⟩,by omega,by omega,by omega,by omega,by omega⟩,cQ.nil _ _⟩
  case round=>
   clear gc fE Jf;rintro n act W ⟨D,Q,bq,Ds,u2,u3,u4,u6,u8,u9,u10,u11,u12,u13,u14,u15,u16,u17,u18,u19,u20,u21,u22,u23,u24,u25,u26,u27,u28,u29,u30,u31,u32,u33,u34,u35,u36,u37,u38,u39,u40,u41,u42,u43,u44,u45,u46,u47,u48,u49,u50,u51,u52,u53,u54,u55,u56,u57,u58,u59,u60,u61,rfl,hn,hn7,lp,CE,sG,hbq2,hI⟩;obtain⟨g,qv,IW,E6,hg,hgw,AN,mE,Tp⟩:=hI.que;obtain⟨off,cap,rfl,jO,pT,tI⟩:=E6.ex;have tq:=ab IW 0;simp at tq;have HI:=aa hI;have Dd:=aa IW;have KY:=aa E6;have FM:=aa CE;have HN:=aa hn;have IQ:=aa lp;clear hI IW E6 CE hn lp;cases Q with
   | nil=>
    have tb:=ab HI.out.box 0;simp at tb;have jM:=aa (UK (by rw[HM.out];exact hf) IQ.out FM.out);have bV:=HI.out.row;rw[jM.out]at bV;have j8:=aa bV;clear bV
    go_wp2_with fail
    refine qR HI.out.marks (v:=.slice (some ⟨w.heap.size,0,none⟩) (eS s) (eS s)) ?_ ⟨rfl,qQ HI.out.marks _ _ j8.out rfl,l4 (fun D hD=>(HI.out.marks.2 D hD).1) (Nat.le_refl _) HI.out.old⟩;simp[results,Tryz.results137,go_sem]
   | cons h r=>
    have hh:=(FM.out.ok h (by simp)).1;rw[HM.out]at hh
    obtain⟨cur,fz,kq,iT,hc3,hc4⟩:∃ cur fz,W.heap[g]?=some (.cells cur 3 fz)/\(∀ i,i<cur.size->¬ (fz.1<=i/\i<fz.2))/\cur.size=off+cap/\(cur.toList.drop off).take (h :: r).length=vY (h :: r):=by
     rcases tI with h0|h0
     ·simp at jO;omega
     ·exact h0
    have th:W.cell? ⟨g,off,none⟩=some (.int .i64 h):=by
     rw[ab kq];have h5:=congrArg (fun l=>l[0]?) hc4;simp[vY]at h5;simpa using h5
    clear tI kq iT hc3 hc4
    go_wp2_with fail
    refine(uA B h W).mono ?_;rintro e w2 ⟨rfl,rfl⟩;clear th tq
    go_wp2_with fail
    have lp:∀ E∈Ds,E<W.heap.size:=HI.out.marks.lt
    refine bj (fun W1=>DFI s w bq W.heap.size (W.heap.size+1) Ds D (h :: r) W1/\W1.heap[W.heap.size]?=some (.cells #[.pointer (some ⟨B,0,none⟩)] 196)/\W1.heap[W.heap.size+1]?=some (.cells #[.int .i64 h] 3)/\W.heap.size+1<W1.heap.size)
     ⟨⟨(HI.out.old.alloc HI.out.old.size _).alloc (by have:=HI.out.old.size;simp;omega) _,am _ (am _ HI.out.box),am _ (am _ HI.out.row),⟨g,_,am _ (am _ Dd.out),(KY.out.ck (.of_below (by go_grown))),hg,by simp;omega,by omega,by omega,Tp⟩,HI.out.marks.up (by go_grown)⟩,am _ (ak _ _),ba _ _ _,by simp⟩ (fun W1 cC=>?_)
    obtain⟨wO,AP,Hz,VE⟩:=cC;have da:=se s Px.out B h W.heap.size (W.heap.size+1) (by rw[HM.out];exact hh) base w HF.out W1 (fun k _ hk=>wO.old.block k hk) wO.old.size (by simp[ab AP]) (by simp[ab Hz]);have Wb:=HI.out.old.size;have sR:=aa wO;have hbq1:bq<W.heap.size:=hbq2;clear AP Hz
    refine mg (gf:=179) (lb:=#[.pointer (some ⟨W.heap.size,0,none⟩),.pointer (some ⟨W.heap.size+1,0,none⟩)]) rfl (enters_of Tryz.func179 (by kernel_rfl) rfl) da (Below.refl _ _) (fun k hk=>by rcases hk with hk|rfl|rfl<;>omega) (fun i=>rfl)
     (fun i V=>DFI s w bq W.heap.size (W.heap.size+1) Ds (ef s h D ((dN s h).take i)).1 (h :: (r++(ef s h D ((dN s h).take i)).2)) V)
     (fun _ _ _=>False)
     (fun i=>DFI.sta (by omega) (fun E hE=>by have:=lp E hE;omega)) (fun c i=>cI.pure) (by simpa[ef] using wO) ?rnd ?done ?stop
    case stop=>rintro D' c i V hD hi h;exact h.elim
    case rnd=>
     intro yl i V hi hl iv;unfold Hk;obtain⟨fv,Pa⟩:∃ fv,(dN s h).getD i 0=fv:=⟨_,rfl⟩
     have mm:fv<k:=by
      have h2:(dN s h)[i]∈dN s h:=List.getElem_mem hi;rw[show (dN s h)[i]=fv by rw[<-Pa];simp[hi]]at h2;have:=(qU.1 h2).1;rw[HM.out]at this;exact this
     have bM:fv≠h:=by
      have h2:(dN s h)[i]∈dN s h:=List.getElem_mem hi;rw[show (dN s h)[i]=fv by rw[<-Pa];simp[hi]]at h2;exact(qU.1 h2).2.2
     have kj:Hid (ef s h D ((dN s h).take (i+1))=jA (D.getD h 0+1) (ef s h D ((dN s h).take i)) fv):=aa (by
      rw[List.take_succ_eq_append_getElem hi,Cd,<-Pa]
      simp[hi])
     rw[Pa];have cK:(ef s h D ((dN s h).take i)).1.length=k:=by rw[yj,IQ.out,HM.out]
     have hh0:=(FM.out.ok h (by simp)).2
     have hqb:(ef s h D ((dN s h).take i)).2.length<=256:=by
      have h1:=L3 s h D ((dN s h).take i);have h2:=Vq s h;have h3:=HM.out;rw[List.length_take]at h1;omega
     have O3:r.length<=257:=by
      have h1:=HN.out;simp only[List.length_cons]at h1;omega
     have TX:(ef s h D ((dN s h).take i)).1.getD h 0=D.getD h 0:=L4 hh0 _;generalize byP s h fv=pv;obtain⟨st,dT⟩:∃ st,ef s h D ((dN s h).take i)=st:=⟨_,rfl⟩;rw[dT]at cK TX kj iv hqb;obtain⟨ql,nL⟩:∃ ql,(h :: (r++st.2)).length=ql+1:=⟨(r++st.2).length,rfl⟩;have hql2:ql<=1000:=by simp only[List.length_cons,List.length_append]at nL;omega
     have nG:=aa iv;have fE:=aa dT;have Iy:=aa nL;clear dT iv Pa da nL O3 hqb
     gi_wp2
     refine⟨Bod.refl _ _ _,fun V=>DFI s w bq W.heap.size (W.heap.size+1) Ds st.1 (h :: (r++st.2)) V,DFI.sta (by omega) (fun E hE=>by have:=lp E hE;omega),nG.out,fun V2 h2 jq=>?_⟩;obtain⟨rlp,jq⟩:=jq;have Ja:=ar jq;clear jq rlp;obtain⟨g2,qv2,k1,k2,k3,k4,k5,k6,k7⟩:=h2.que;rw[Iy.out]at k2;have cT:=aa h2;have Fh:=aa k1;have uH:=aa k2;have p9:=aa cK;have tb:=ab h2.box 0;have tr:=ab h2.row fv;have tq:=ab k1 0;simp at tb tq;rw[ki _ _ (by omega)]at tr;obtain⟨dv,PF⟩:∃ dv,st.1.getD fv 0=dv:=⟨_,rfl⟩;rw[PF]at tr;have HDV:=aa PF;clear h2 k1 k2 PF cK;have hmem2:fv<eS s:=by rw[HM.out];exact mm
     have hh2:h<eS s:=by rw[HM.out];exact hh
     by_cases D7:dv<0
     ·have hneg':decide (dv<0)=true:=decide_eq_true D7
      obtain⟨off2,cap2,hqv,hnc2,hcm2,M4⟩:=uH.out.ex;subst hqv;have PE:0<ql+1:=by omega
      have th2:V2.cell? ⟨g2,off2,none⟩=some (.int .i64 h):=by
       rcases M4 with h0|⟨cur,fz,c1,c2,c3,c4⟩
       ·omega
       ·rw[ab c1]
        have h5:=congrArg (fun l=>l[0]?) c4;simp[vY]at h5;simpa using h5
      have trh:=ab cT.out.row h;rw[ki _ _ (by have:=p9.out;omega),TX]at trh;have zr:=aE cT.out.row fv;have HSTEP:Hid (jA (D.getD h 0+1) st fv=(st.1.set fv (D.getD h 0+1),st.2++[fv])):=aa (by unfold jA;rw[HDV.out,if_pos D7]);have hdh:=L2 FM.out hh2 (by rw[HM.out];exact hE);generalize D.getD h 0=dh at trh TX HSTEP kj hh0 hdh
      have lA:Hid (∃ cs ty fz,V2.heap[g2]?=some (.cells cs ty fz)):=aa (by
       rcases M4 with h0|⟨cur,fz,c1,_⟩
       ·omega
       ·exact⟨_,_,_,c1⟩)
      clear D7 M4 TX
      gi_wp2
      refine kL 10 (fun ⟨_,_,h⟩=>h) (by kernel_rfl) (by kernel_rfl) (by kernel_rfl) (fun ops Lq hops hLq=>?_);simp only[List.take_succ_cons,List.take_zero,List.drop_succ_cons,List.drop_zero]at hLq ⊢;have CJ:=aa hLq;clear hLq;have Sp:=aa hops;clear hops
      repeat still_step
      refine wpStill_nil ?_;refine CJ.out _ ?_
      go_wp2_with fail
      obtain⟨V3,KA⟩:∃ V3,V3=(V2.setCell ⟨w.heap.size,fv,none⟩ (.int .i64 (dh+1))).drew:=⟨_,rfl⟩;rw[<-KA];have Jq:V3.heap.size=V2.heap.size:=by rw[KA];simp
      have hZ:∀ k,k≠w.heap.size->V3.heap[k]?=V2.heap[k]?:=fun k hk=>by rw[KA];exact Below.heap_setCell _ _ _ _ hk
      have zz:V3.heap[w.heap.size]?=some (.cells (bJ (st.1.set fv (dh+1))) 3):=by rw[KA];exact(aF cT.out.row _ _).trans (by rw[x'])
      have hold3:Below w.heap.size w V3:=by rw[KA];exact(cT.out.old.setCell (by dsimp only;omega) _).drew
      clear KA;have MN:=(hZ bq (by omega)).trans Fh.out;have tb3:=ab MN 0;simp at tb3;have HBOX:=aa MN;have j8:=aa zz;have yM:=aa hold3;have kW:=aa hZ;have bL:=aa ((uH.out.up (w':=V3) (.inl (hZ g2 (by omega)))).ck (.of_below ((Below.refl _ V3).alloc (Nat.le_refl _) (.cells #[.int .i64 fv] 3))));have bB:=aa (eA V3 [.int .i64 (fv:Int)] 3);have HNEW2:Hid (∀ (j:Nat) (x:Value),[Value.int .i64 (fv:Int)][j]?=some x->(V3.alloc (.cells #[.int .i64 fv] 3)).cell? ((⟨V3.heap.size,0,none⟩:Addr).add j)=some x):=bB;have HSZ3:=aa Jq;have FL:Hid (bq≠g2):=aa (Ne.symm k7);clear k7;have gO:Hid (ql+1+1<=maxLen):=aa (by unfold maxLen;omega);have eo:Hid ((ql+1+1) * 8<=140737488355328):=aa (by omega);clear MN zz hold3 hZ th2 trh zr tb tr tq Jq
      gi_wp2_with (gi_at_builtin;go_loud (refine zJ _ rfl (.tmp 56) (.tmp 58) 38 rfl 3 i0 _ 8 Tryz.underlying38 cG cf bP cj rfl g2 _ (ql+1) _ rfl bL.out ⟨V3.heap.size,0,none⟩ 1 (.int .i64 fv) rfl HNEW2.out rfl gO.out eo.out ?_;intro v4 w4 g4 l8 eL hg4;obtain⟨off4,cap4,rfl,-⟩:=l8.ex;have uO:=eL.keep (am _ HBOX.out) FL.out;have c4:=ab uO 0;have f4:=aE uO 0;simp at c4))
      have At:=eL.size;have Jq:=HSZ3.out;simp only[World.size_alloc]at At hg4;have hg2l:=k4;have P2:∀ k,k<V2.heap.size->k≠g2->k≠w.heap.size->w4.heap[k]?=V2.heap[k]?:=fun k h1 h2 h3=>(eL.same k (by simp;omega) h2).trans ((Below.heap_alloc V3 _ k (by omega)).trans (kW.out k h3))
      obtain⟨cs2,ty2,fz2,Na⟩:=lA.out
      have sB:∀ (k:Nat) (o:Obj),V2.heap[k]?=some o->o.isCells=false->(w4.setCell ⟨bq,0,none⟩ (.slice (some ⟨g4,off4,none⟩) (ql+1+1) cap4)).heap[k]?=some o:=fun k o ho hc=>by
       have n1:k≠g2:=fun e=>by subst e;rw[Na]at ho;cases ho;cases hc
       have n2:k≠w.heap.size:=fun e=>by subst e;rw[cT.out.row]at ho;cases ho;cases hc
       have n3:k≠bq:=fun e=>by subst e;rw[Fh.out]at ho;cases ho;cases hc
       rw[Below.heap_setCell _ _ _ _ n3];exact(P2 k (ar ho) n1 n2).trans ho
      have hg4l:g4<w4.heap.size:=by
       obtain⟨off5,cap5,_,ic,_,h5⟩:=l8.ex;rcases h5 with h5|⟨cur,fz,c1,_⟩
       ·omega
       ·exact ar c1
      have hg4b:g4≠bq:=by
       rcases hg4 with ⟨e,_⟩|e
       ·rw[e];exact fun h=>FL.out h.symm
       ·omega
      refine⟨⟨by simp;omega,fun k hk=>?_,fun k o _ ho hc=>sB k o ho hc⟩,?_⟩
      ·have jI:k<V2.heap.size/\k≠g2/\k≠w.heap.size/\k≠bq:=by rcases hk with hk|rfl|rfl<;>omega
       rw[Below.heap_setCell _ _ _ _ jI.2.2.2];exact P2 k jI.1 jI.2.1 jI.2.2.1
      ·show DFI s w bq W.heap.size (W.heap.size+1) Ds (ef s h D ((dN s h).take (i+1))).1 (h :: (r++(ef s h D ((dN s h).take (i+1))).2)) _
       rw[kj.out,HSTEP.out];refine⟨(eL.below (yM.out.alloc (by omega) _) (by simp;omega) (by omega)).setCell (by dsimp only;omega) _,?_,?_,⟨g4,_,aF uO _ _,?_,by omega,by simp;omega,by omega,by omega,hg4b⟩,cT.out.marks.keep fun k o ho hc=>sB k o ho hc⟩
       ·exact aH (eL.keep (am _ ((kW.out _ (by omega)).trans cT.out.box)) (by omega)) (by omega) _ _
       ·exact aH (eL.keep (am _ j8.out) (by omega)) (by omega) _ _
       ·have e1:(h :: (r++(st.2++[fv]))).length=ql+1+1:=by have:=Iy.out;simp only[List.length_cons,List.length_append,List.length_nil]at this ⊢;omega
        have e2:vY (h :: (r++(st.2++[fv])))=vY (h :: (r++st.2))++[Value.int .i64 fv]:=by simp[vY]
        dsimp only;rw[e1,e2];exact l8.up (.inl (Below.heap_setCell _ _ _ _ hg4b))
     ·have hneg':decide (dv<0)=false:=decide_eq_false D7
      have HSAME:Hid (jA (D.getD h 0+1) st fv=st):=aa (by unfold jA;rw[HDV.out,if_neg D7]);clear D7
      gi_wp2
      refine⟨Bod.refl _ _ _,?_⟩
      show DFI s w bq W.heap.size (W.heap.size+1) Ds (ef s h D ((dN s h).take (i+1))).1 (h :: (r++(ef s h D ((dN s h).take (i+1))).2)) V2
      rw[kj.out,HSAME.out];exact cT.out
    case done=>
     intro D' V hD iv hK;rw[List.take_of_length_le (Nat.le_refl _)]at iv;obtain⟨Sz,Xf⟩:=OE (by rw[HM.out];exact hf) IQ.out FM.out;have nB:(ef s h D (dN s h)).1.length=eS s:=by rw[yj];exact IQ.out
     obtain⟨st,dT⟩:∃ st,ef s h D (dN s h)=st:=⟨_,rfl⟩;rw[dT]at iv Sz Xf nB;obtain⟨g2,qv2,k1,k2,k3,k4,k5,k6,k7⟩:=iv.que;obtain⟨ql,nL⟩:∃ ql,(h :: (r++st.2)).length=ql+1:=⟨(r++st.2).length,rfl⟩;rw[nL]at k2;obtain⟨off2,cap2,rfl,hnc2,hcm2,-⟩:=k2.ex;have tb:=ab k1 0;simp at tb;have nG:=aa iv;have uH:=aa k2;have Iy:=aa nL;have HBF2:=aa Sz;have HMS:=aa Xf;have CD:=aa nB;have hDl2:∀ E∈Ds,E<D':=fun E hE=>by have:=lp E hE;omega
     have HK:=aa hK;clear dT iv Sz Xf nB k1 k2 nL da hK;have wZ:Hid (ql=(r++st.2).length):=aa (by have:=Iy.out;simp only[List.length_cons]at this;omega)
     have k8:Hid (∀ (u:Value) (act:Act),OwnQ V g2 3 u ql (vY (r++st.2))->(∃ (u2 u3 u4 u6 u8 u9 u10 u11 u12 u13 u14 u15 u16 u17 u18 u19 u20 u21 u22 u23 u24 u25 u26 u27 u28 u29 u30 u31 u32 u33 u34 u35 u36 u37 u38 u39 u40 u41 u42 u43 u44 u45 u46 u47 u48 u49 u50 u51 u52 u53 u54 u55 u56 u57 u58 u59 u60 u61:Value),act={ tmps:=#[Value.pointer (some ⟨B,0,none⟩),Value.int .i64 f,u2,u3,u4,Value.pointer (some ⟨w.heap.size+1,0,none⟩),u6,Value.pointer (some ⟨V.heap.size,0,none⟩),u8,u9,u10,u11,u12,u13,u14,u15,u16,u17,u18,u19,u20,u21,u22,u23,u24,u25,u26,u27,u28,u29,u30,u31,u32,u33,u34,u35,u36,u37,u38,u39,u40,u41,u42,u43,u44,u45,u46,u47,u48,u49,u50,u51,u52,u53,u54,u55,u56,u57,u58,u59,u60,u61],defers:=mA (D' :: Ds) })->∃ m,m<n/\Vp s B f w m act (V.alloc (Obj.cells #[u] 38))):=aa (fun u act hu ⟨u2,u3,u4,u6,u8,u9,u10,u11,u12,u13,u14,u15,u16,u17,u18,u19,u20,u21,u22,u23,u24,u25,u26,u27,u28,u29,u30,u31,u32,u33,u34,u35,u36,u37,u38,u39,u40,u41,u42,u43,u44,u45,u46,u47,u48,u49,u50,u51,u52,u53,u54,u55,u56,u57,u58,u59,u60,u61,ha⟩=>by
      have az:(r++st.2).length+L0 s st.1<n:=by rw[HN.out];exact HMS.out
      have hV1:=nG.out.old.size;refine⟨_,az,st.1,r++st.2,V.heap.size,D' :: Ds,_,_,_,_,_,_,_,_,_,_,_,_,_,_,_,_,_,_,_,_,_,_,_,_,_,_,_,_,_,_,_,_,_,_,_,_,_,_,_,_,_,_,_,_,_,_,_,_,_,_,_,_,_,_,_,_,_,_,ha,rfl,by omega,CD.out,HBF2.out,by omega,by simp,?_⟩;have hz:(V.alloc (Obj.cells #[u] 38)).heap.size=V.heap.size+1:=by simp
      refine⟨nG.out.old.alloc hV1 _,am _ nG.out.box,am _ nG.out.row,⟨g2,u,ak _ _,by rw[<-wZ.out];exact hu.ck (.of_below (by go_grown)),k3,by omega,by omega,by omega,by omega⟩,?_⟩
      exact cQ.cons (nG.out.marks.up (by go_grown)) (by omega) (am _ HK.out) hDl2)
     have sW:=aa (OwnQ.tail (x:=.int .i64 h) (xs:=vY (r++st.2)) uH.out);by_cases hc:cap2=1
     ·subst hc
      obtain rfl:ql=0:=by omega
      have CR:=sW.out;rw[if_pos rfl]at CR;have HG:Hid (∀ act,_->_):=aa (fun act=>k8.out _ act CR);clear CR
      go_wp2_with fail
      exact HG.out _ ⟨_,_,_,_,_,_,_,_,_,_,_,_,_,_,_,_,_,_,_,_,_,_,_,_,_,_,_,_,_,_,_,_,_,_,_,_,_,_,_,_,_,_,_,_,_,_,_,_,_,_,_,_,_,_,_,_,_,_,rfl⟩
     ·have CR:=sW.out
      rw[if_neg hc]at CR;have HG:Hid (∀ act,_->_):=aa (fun act=>k8.out _ act CR);clear CR
      go_wp2_with fail
      exact HG.out _ ⟨_,_,_,_,_,_,_,_,_,_,_,_,_,_,_,_,_,_,_,_,_,_,_,_,_,_,_,_,_,_,_,_,_,_,_,_,_,_,_,_,_,_,_,_,_,_,_,_,_,_,_,_,_,_,_,_,_,_,rfl⟩
theorem Tryz.infoLink:(Tryz.prog.info? 75).map (fun i=>(i.zero,i.size,i.bytes))=some (some (.agg #[.int .i64 0,.int .i64 0]),2,16):=by kernel_rfl
theorem UM(s:Sys) (e:Nat):(dN s e).Pairwise (·<·):=List.Pairwise.filter _ List.pairwise_lt_range
theorem UN{s:Sys} {e i:Nat} {D:List Int} {d:Nat} (hi:i<(dN s e).length) (hd:D.getD ((dN s e).getD i 0) 0=d) (hb:∀ j,j<i->D.getD ((dN s e).getD j 0) 0≠d) (he:D.getD e 0≠d):gC s D d e=(dN s e).getD i 0:=by
 have e1:(dN s e).getD i 0=(dN s e)[i]:=ap 0 hi;rw[e1]at hd ⊢;obtain⟨h1,h2,h3⟩:=qU.1 (List.getElem_mem hi);unfold gC;rw[dF (eS s) (dN s e)[i] _ h1 (fun j hj=>?_) (by rw[hd,h2];simp),Int.toNat_natCast];cases SN:byB s e j with
 | false=>simp
 | true=>
  rw[Bool.and_true];refine decide_eq_false fun hdj=>?_
  have TI:j∈dN s e:=qU.2 ⟨by omega,SN,fun e2=>he (by rw[<-e2];exact hdj)⟩;obtain⟨i',qo,e'⟩:=List.getElem_of_mem TI;rcases Nat.lt_trichotomy i' i with az|az|az
  ·exact hb i' az (by rw[ap 0 qo,e'];exact hdj)
  ·subst az;omega
  ·have:=List.pairwise_iff_getElem.1 (UM s e) i i' hi qo az
   omega
theorem UO{s:Sys} {f:Nat} (hf:f<eS s) {e d:Nat} (he:e<eS s) (h:(cW s f).getD e 0=d+1) (hb:∀ j,j<(dN s e).length->(cW s f).getD ((dN s e).getD j 0) 0≠d):False:=by
 obtain⟨h1,h2,h3,_⟩:=AY hf he h;have hm:gC s (cW s f) d e∈dN s e:=qU.2 ⟨h1,h3,fun e2=>by rw[e2]at h2;omega⟩;obtain⟨i,hi,e'⟩:=List.getElem_of_mem hm;exact hb i hi (by rw[ap 0 hi,e'];exact h2)
theorem kQ{w:World} {base:Nat} {v:Value} {l:List Lk} (h:aD w base 75 2 v l.length (bF l)) (hx:∀ u∈l,bI u.x/\bI u.p) (hn:l.length<=17592186044416):aU w v l:=by
 have aP:=fun i (hi:i<l.length) j (u:Value) (hj:j<2) (hu:l[i].c[j]?=some u)=>h.cell (i * 2+j) u (by unfold bF;rw[ox Lk.c 2 (fun _=>rfl) l i j hi hj];exact hu)
 rcases h.2 with ⟨hz,h0⟩|⟨g,cap,cur,fz,rfl,_,hg,_,kq,iT,_⟩
 ·refine⟨none,0,by rw[hz,h0],⟨by omega,by omega,fun _=>rfl⟩,hn,fun i x hi=>?_⟩
  have:=(List.getElem?_eq_some_iff.1 hi).1;omega
 ·refine⟨some ⟨g,0,none⟩,cap,rfl,⟨kq,by simp only[maxLen]at iT;omega,fun e=>by cases e⟩,hn,fun i x hi=>⟨g,0,rfl,?_⟩⟩
  obtain⟨gN,rfl⟩:=List.getElem?_eq_some_iff.1 hi;obtain⟨r0,r1⟩:=hx _ (List.getElem_mem gN)
  have key:∀ j u,j<2->l[i].c[j]?=some u->w.cell? ⟨g,0+i * 2+j,none⟩=some u:=fun j u hj hu=>by
   obtain⟨g',c',e1,e2⟩:=aP i gN j u hj hu;have:g=g':=by simp at e1;exact e1.1
   rw[this,Nat.zero_add];exact e2
  exact⟨⟨key 0 _ (by omega) rfl,r0⟩,⟨key 1 _ (by omega) rfl,r1⟩⟩
theorem A8(n:Nat) (q:Nat->Bool):-1<=firstIx n q/\firstIx n q<n\/firstIx n q=-1:=by
 rcases bD n q with ⟨e,_⟩|⟨k,hk,e,_⟩
 ·exact .inr e
 ·exact .inl ⟨by omega,by omega⟩
theorem Kq{s:Sys} (hn:nS s<=5) (hE:eS s<=4096) (D:List Int):∀ d e,∀ y∈kb s D d e,bI y.x/\bI y.p
 | 0,_,y,hy=>by simp[kb]at hy
 | d+1,e,y,hy=>by
  rw[kb]at hy;rcases List.mem_cons.1 hy with rfl|hy
  ·have h1:=A8 (eS s) fun g=>decide (D.getD g 0=d)&&byB s e g
   have h2:=A8 (nS s) fun p=>linkB s p e (gC s D d e)
   refine⟨?_,?_⟩
   ·show bI ((gC s D d e:Nat):Int)
    unfold gC;generalize firstIx (eS s) _=z at h1;exact⟨by omega,by omega⟩
   ·show bI (byP s e (gC s D d e))
    unfold byP;generalize firstIx (nS s) _=z at h2;exact⟨by omega,by omega⟩
  ·exact Kq hn hE D d _ y hy
structure WkI (s:Sys) (w w1:World) (b11 f cur:Nat) (l:List Lk) (Ds:List Nat) (V:World):Prop where
 old:Below w.heap.size w V
 fin:∀ k,w.heap.size+2<=k->k<w1.heap.size->V.heap[k]?=w1.heap[k]?
 far:V.heap[w1.heap.size]?=some (.cells (bJ (cW s f)) 3)
 fbox:V.heap[b11]?=some (.cells #[.slice (some ⟨w1.heap.size,0,none⟩) (eS s) (eS s)] 38)
 ebox:V.heap[w.heap.size+1]?=some (.cells #[.int .i64 cur] 3)
 walk:∃ v,V.heap[b11+2]?=some (.cells #[v] 54)/\aD V (b11+1) 75 2 v l.length (bF l)
 marks:cQ w.heap.size Ds V
theorem WkI.sta{s:Sys} {w w1:World} {b11 f cur B:Nat} {l:List Lk} {Ds:List Nat} (hB:w.heap.size<=B) (hB1:w1.heap.size<=B) (hD:∀ E∈Ds,E<B) (MJ:∀ k,w.heap.size+2<=k->k<w1.heap.size->∃ o,w1.heap[k]?=some o):cI B (WkI s w w1 b11 f cur l Ds):=fun A A' c h=>by
 obtain⟨v,h1,h2⟩:=h.walk;refine⟨c.below hB h.old.size h.old,fun k k1 k2=>?_,c.same _ _ h.far (.inr rfl),c.same _ _ h.fbox (.inr rfl),c.same _ _ h.ebox (.inr rfl),⟨v,c.same _ _ h1 (.inr rfl),h2.ck c.ck⟩,cI.marks hD A A' c h.marks⟩;obtain⟨o,ho⟩:=MJ k k1 k2;rw[ho];exact c.same _ _ ((h.fin k k1 k2).trans ho) (.inl (by omega))
def Vr(s:Sys) (B f:Nat) (full:List Lk) (w w1:World) (b11:Nat) (n:Nat) (act:Act) (W:World):Prop:=∃ (cur:Nat) (l:List Lk) (Ds:List Nat) (u0 u1 u5 u6 u7 u8 u10 u13 u14 u15 u16 u17 u18 u19 u20 u21 u22 u23 u24 u25 u26 u27 u28 u29 u30 u31 u32 u33 u34 u35 u36 u37 u38 u39 u40 u41 u42 u43 u44 u45 u46 u47 u48 u49 u50 u51 u52 u53 u54 u55 u56 u57 u58 u59 u60 u61 u62:Value),
 act={ tmps:=#[u0,u1,Value.int .i64 f,Value.pointer (some ⟨w.heap.size,0,none⟩),Value.pointer (some ⟨w.heap.size+1,0,none⟩),u5,u6,u7,u8,Value.pointer (some ⟨B,0,none⟩),u10,Value.pointer (some ⟨b11,0,none⟩),Value.pointer (some ⟨b11+2,0,none⟩),u13,u14,u15,u16,u17,u18,u19,u20,u21,u22,u23,u24,u25,u26,u27,u28,u29,u30,u31,u32,u33,u34,u35,u36,u37,u38,u39,u40,u41,u42,u43,u44,u45,u46,u47,u48,u49,u50,u51,u52,u53,u54,u55,u56,u57,u58,u59,u60,u61,u62],defers:=mA Ds }/\cur<eS s/\(cW s f).getD cur 0=n/\l++kb s (cW s f) n cur=full/\b11+2<W.heap.size/\WkI s w w1 b11 f cur l Ds W
theorem OG(s:Sys) (hv:verifyE s=0) (hE:eS s<=256) (vc vs vt ve:Value) (e f:Nat) (he:e<eS s) (hf:f<eS s) (hD:0<=(cW s f).getD e 0) (w:World) (hs:IsSys w s vc vs vt ve) (hN:movesN s.prob.a.states<1099511627776) :
  Calls Tryz.prog 90 #[.agg (bE s.prob vc vs s.n vt ve),.int .i64 e,.int .i64 f] w fun r w'=>∃ u,r=.returned (.tuple #[u,.bool true,.int .i64 0])/\(aU w' u (⟨e,-1⟩ :: jW s e f)/\∀ k,u.ownBlock=some k->w.heap.size<=k)/\Below w.heap.size w w':=by
 have HS:=aa hs;obtain⟨⟨pc,cc,rfl⟩,⟨ps,cs,rfl⟩,⟨pt,ct,rfl⟩,⟨pe,ce,rfl⟩⟩:=bg hs;clear hs
 have HC:Hid (∀ W,Below w.heap.size w W->∀ vl,aY W vl [(e:Int),f]->_):=aa (fun W (hb:Below w.heap.size w W) vl (hl:aY W vl [(e:Int),f])=>LX s hv _ _ _ _ vl [(e:Int),f] W (HS.out.up hb) hN hl (fun k hk=>by
  rcases k with _|_|k
  ·exact⟨by simp,by simpa using he⟩
  ·exact⟨by simp,by simpa using hf⟩
  ·simp at hk;omega))
 have di:=aa (jh hv);have HE:=aa he;have Ck:=aa hf;have HDD:=aa hD;obtain⟨i0,cG,cf,bP,cj⟩:=info_parts Tryz.infoLink;obtain⟨full,pf⟩:∃ full,(⟨e,-1⟩ :: jW s e f:List Lk)=full:=⟨_,rfl⟩;rw[pf];have IA:=aa pf;clear hv hD pf;refine fT Tryz.func90 rfl ?_;simp only[Tryz.ntmps90,List.size_toArray,List.length_cons,List.length_nil,Nat.reduceAdd,Nat.reduceSub,Array.replicate_succ,Array.replicate_zero,List.push_toArray,List.append_toArray,List.nil_append,List.cons_append]
 go_wp2_with fail
 refine aL (fun W=>Below w.heap.size w W/\W.heap[w.heap.size+1]?=some (.cells #[.int .i64 e] 3)/\W.heap[w.heap.size+1+1]?=some (.cells (bJ [(e:Int),f]) 3)) ⟨by go_grown,am _ (ba _ _ _),dH _ _ _ _⟩ (fun W0 aW=>?_);obtain⟨aC,uQ,Wv⟩:=aW;have mn:=ar Wv;refine(HC.out W0 aC _ (vK (by rfl) (by decide) Wv fun i hi=>?_)).mono ?_
 ·have:i=0\/i=1:=by simp at hi;omega
  have h1:=HE.out;have h2:=Ck.out;rcases this with rfl|rfl
  ·exact⟨by simp<;>omega,by simp<;>omega⟩
  ·exact⟨by simp<;>omega,by simp<;>omega⟩
 rintro r w1 ⟨B,rfl,aG,Cy,KP⟩;have AP:=af aG uQ;have bC:=aa (ae aC aG);have km:=aa AP;have gm:=aa (KP.mono (show w.heap.size+2<=W0.heap.size by omega));have fP:w.heap.size+1<w1.heap.size:=by have:=aG.size;omega
 clear aC uQ Wv aG Cy KP AP mn HC W0
 go_wp2_with fail
 refine(OF s di.out hE B f Ck.out _ w1 gm.out).mono ?_;rintro r w2 ⟨rfl,MK,aV⟩;have dU:=af aV km.out;have tx2:∀ o,(w2.alloc o).cell? ⟨w.heap.size+1,0,none⟩=some (.int .i64 e):=fun o=>(ab (am o dU) 0).trans rfl
 have tfe:∀ o,(w2.alloc o).cell? ⟨w1.heap.size,e,none⟩=some (.int .i64 ((cW s f).getD e 0)):=fun o=>(ab (am o MK) e).trans (ki _ _ (by rw[vB];exact he))
 obtain⟨n0,lS⟩:∃ n0:Nat,(cW s f).getD e 0=n0:=⟨((cW s f).getD e 0).toNat,by have:=HDD.out;omega⟩;rw[lS]at tfe;have PP:=aa lS;obtain⟨m,hm⟩:∃ m,eS s=m:=⟨_,rfl⟩;have HM:=aa hm;have cB:=aa aV;have HFAR:=aa MK;have fB:=aa dU;have iL:w1.heap.size<w2.heap.size:=ar MK;rw[hm]at hE he hf ⊢;clear aV MK dU lS hm;have pf:=IA.out
 have M9:Hid (full.length<=257/\∀ y∈full,bI y.x/\bI y.p):=aa (by
  have h1:=(xJ (s:=s) Ck.out n0 e HE.out PP.out).2.2;have h2:=Dn (s:=s) Ck.out e HE.out;have h3:=PP.out;have h4:=HM.out;rw[<-pf];unfold jW;rw[h3,Int.toNat_natCast];refine⟨by simp only[List.length_cons,h1];omega,fun y hy=>?_⟩;rcases List.mem_cons.1 hy with rfl|hy
  ·exact⟨⟨by dsimp only;omega,by dsimp only;omega⟩,⟨by dsimp only;omega,by dsimp only;omega⟩⟩
  ·exact Kq di.out.n.2.1 (by omega) _ _ _ y hy)
 have HFULL:Hid ([(⟨e,-1⟩:Lk)]++kb s (cW s f) n0 e=full):=aa (by rw[<-pf];unfold jW;rw[PP.out,Int.toNat_natCast];rfl);clear pf
 go_wp2_with fail
 have Be:Hid (∀ (cur:Nat) (l:List Lk) (Ds:List Nat) (B0:Nat),w1.heap.size<=B0->(∀ E∈Ds,E<B0)->cI B0 (WkI s w w1 w2.heap.size f cur l Ds)):=aa (fun cur l Ds B0 h1 h2=>WkI.sta (by omega) h1 h2 fun k _ hk=>⟨w1.heap[k],by rw[Array.getElem?_eq_getElem hk]⟩)
 have iA:Hid (WkI s w w1 w2.heap.size f e [⟨e,-1⟩] [] (((w2.alloc (Obj.cells #[Value.slice (some { block:=w1.heap.size,off:=0 }) m m] 38)).alloc (Obj.cells #[Value.int .i64 e,Value.int .i64 (-1)] 75)).alloc (Obj.cells #[Value.slice (some { block:=w2.heap.size+1,off:=0 }) 1 1] 54))):=aa (by
  have hg:Below w2.heap.size w2 (((w2.alloc (Obj.cells #[Value.slice (some { block:=w1.heap.size,off:=0 }) m m] 38)).alloc (Obj.cells #[Value.int .i64 e,Value.int .i64 (-1)] 75)).alloc (Obj.cells #[Value.slice (some { block:=w2.heap.size+1,off:=0 }) 1 1] 54)):=by go_grown
  refine⟨ae bC.out (ae cB.out hg),fun k _ hk=>?_,af hg HFAR.out,?_,af hg fB.out,⟨_,dH _ _ _ _,?_⟩,cQ.nil _ _⟩
  ·rw[hg.block k (by omega),cB.out.block k hk]
  ·rw[HM.out];exact am _ (am _ (ak _ _))
  ·exact⟨rfl,.inr ⟨w2.heap.size+1,1,_,(0,0),rfl,Nat.le_refl _,am _ (ba _ _ _),fun i _ h=>by have:=h.2;simp at this,Nat.le_refl _,by unfold maxLen;omega,rfl,rfl⟩⟩)
 refine A7 (fun n act W=>Vr s B f full w w1 w2.heap.size n act W) n0 ?start ?round
 case start=>exact⟨e,[⟨e,-1⟩],[],_,_,_,_,_,_,_,_,_,_,_,_,_,_,_,_,_,_,_,_,_,_,_,_,_,_,_,_,_,_,_,_,_,_,_,_,_,_,_,_,_,_,_,_,_,_,_,_,_,_,_,_,_,_,_,_,_,rfl,HE.out,PP.out,HFULL.out,by simp,iA.out⟩
 case round=>
  clear iA PP HFULL tx2 tfe fB HFAR km;generalize w2.heap.size=b11 at iL Be cB;rintro n act W ⟨cur,l,Ds,u0,u1,u5,u6,u7,u8,u10,u13,u14,u15,u16,u17,u18,u19,u20,u21,u22,u23,u24,u25,u26,u27,u28,u29,u30,u31,u32,u33,u34,u35,u36,u37,u38,u39,u40,u41,u42,u43,u44,u45,u46,u47,u48,u49,u50,u51,u52,u53,u54,u55,u56,u57,u58,u59,u60,u61,u62,rfl,bU,hcd,pf,db,hI⟩;obtain⟨v,jN,aX⟩:=hI.walk;obtain⟨av,cv,rfl⟩:=aX.slice;have te:=ab hI.ebox 0;have tw:=ab jN 0;simp at te tw;have HI:=aa hI;have nK:=aa jN;have bL:=aa aX;have It:=aa hcd;have AK:=aa pf;have qE:=aa bU;clear hI jN aX hcd pf;by_cases PL:cur=f
  ·have bM:((cur:Int) != (f:Int))=false:=by simp[PL]
   have HL:Hid (l=full):=aa (by
    have h0:=(kM (s:=s) (f:=f) Ck.out).zero;have h1:=It.out;rw[PL]at h1;have h2:n=0:=by omega
    have h3:=AK.out;rw[h2]at h3
    simpa[kb] using h3)
   clear PL
   go_wp2_with fail
   refine qR HI.out.marks (v:=.tuple #[.slice av l.length cv,.bool true,.int .i64 0]) ?_ ⟨_,rfl,?_,l4 (fun D hD=>(HI.out.marks.2 D hD).1) (Nat.le_refl _) HI.out.old⟩
   ·simp[results,Tryz.results90,go_sem]
   ·rw[HL.out]at bL ⊢
    exact⟨kQ (bL.out.ck (qQ HI.out.marks)) M9.out.2 (by have:=M9.out.1;omega),fun k hk=>by have:=(bL.out.lt k hk).1;omega⟩
  ·have bM:((cur:Int) != (f:Int))=true:=by simp;omega
   obtain⟨d,hd⟩:∃ d,n=d+1:=by
    refine⟨n - 1,?_⟩;rcases Nat.eq_zero_or_pos n with h0|h0
    ·exact absurd ((kM (s:=s) (f:=f) Ck.out).only cur bU (by rw[It.out,h0];rfl)) PL
    ·omega
   have E7:=aa hd;clear PL hd
   go_wp2_with fail
   refine(uA B cur W).mono ?_;rintro r w3 ⟨rfl,rfl⟩;clear te tw
   go_wp2_with fail
   have lp:∀ E∈Ds,E<W.heap.size:=HI.out.marks.lt;refine bj (fun V=>WkI s w w1 b11 f cur l Ds V/\V.heap[W.heap.size]?=some (.cells #[.pointer (some ⟨B,0,none⟩)] 196)/\V.heap[W.heap.size+1]?=some (.cells #[.int .i64 cur] 3)/\W.heap.size+1<V.heap.size) ⟨Be.out cur l Ds W.heap.size (by omega) lp _ _ (Chg.of_below (by go_grown)) HI.out,am _ (ak _ _),ba _ _ _,by simp⟩ (fun W1 cC=>?_);obtain⟨wO,AP,Hz,VE⟩:=cC;have da:=se s di.out B cur W.heap.size (W.heap.size+1) qE.out (w.heap.size+2) w1 gm.out W1 (fun k h1 h2=>wO.fin k h1 h2) (by omega) (by simp[ab AP]) (by simp[ab Hz]);have dz:Hid (∀ i,i<(dN s cur).length->(cW s f).getD ((dN s cur).getD i 0) 0=d->(∀ j,j<i->(cW s f).getD ((dN s cur).getD j 0) 0≠d)->gC s (cW s f) d cur=(dN s cur).getD i 0):=aa (fun i h1 h2 h3=>UN h1 h2 h3 (by have:=It.out;have:=E7.out;omega))
   refine mg (gf:=179) (lb:=#[.pointer (some ⟨W.heap.size,0,none⟩),.pointer (some ⟨W.heap.size+1,0,none⟩)]) rfl (enters_of Tryz.func179 (by kernel_rfl) rfl) da (Below.refl _ _) (fun k hk=>by rcases hk with hk|rfl|rfl<;>omega) (fun i=>rfl)
    (fun i V=>(WkI s w w1 b11 f cur l Ds V/\V.heap[W.heap.size]?=some (.cells #[.pointer (some ⟨B,0,none⟩)] 196)/\V.heap[W.heap.size+1]?=some (.cells #[.int .i64 cur] 3))/\∀ j,j<i->(cW s f).getD ((dN s cur).getD j 0) 0≠d)
    (fun c i V=>c=.exit 2/\WkI s w w1 b11 f (gC s (cW s f) d cur) (l++[⟨gC s (cW s f) d cur,byP s cur (gC s (cW s f) d cur)⟩]) Ds V)
    (fun i=>((Be.out cur l Ds _ (by omega) (fun E hE=>by have:=lp E hE;omega)).and (cI.cells.and cI.cells)).and cI.pure) (fun c i=>cI.pure.and (Be.out _ _ Ds _ (by omega) (fun E hE=>by have:=lp E hE;omega))) ⟨⟨wO,AP,Hz⟩,fun j hj=>by omega⟩ ?rnd ?done ?stop
   case done=>
    intro D' V hD iv hK;exact(UO Ck.out qE.out (by rw[It.out,E7.out];rfl) iv.2).elim
   case stop=>
    rintro D' c i V hD hi ⟨rfl,iv⟩ hK
    have HG:Hid (∀ act:Act,(∃ (u0 u1 u5 u6 u7 u8 u10 u13 u14 u15 u16 u17 u18 u19 u20 u21 u22 u23 u24 u25 u26 u27 u28 u29 u30 u31 u32 u33 u34 u35 u36 u37 u38 u39 u40 u41 u42 u43 u44 u45 u46 u47 u48 u49 u50 u51 u52 u53 u54 u55 u56 u57 u58 u59 u60 u61 u62:Value),act={ tmps:=#[u0,u1,Value.int .i64 f,Value.pointer (some ⟨w.heap.size,0,none⟩),Value.pointer (some ⟨w.heap.size+1,0,none⟩),u5,u6,u7,u8,Value.pointer (some ⟨B,0,none⟩),u10,Value.pointer (some ⟨b11,0,none⟩),Value.pointer (some ⟨b11+2,0,none⟩),u13,u14,u15,u16,u17,u18,u19,u20,u21,u22,u23,u24,u25,u26,u27,u28,u29,u30,u31,u32,u33,u34,u35,u36,u37,u38,u39,u40,u41,u42,u43,u44,u45,u46,u47,u48,u49,u50,u51,u52,u53,u54,u55,u56,u57,u58,u59,u60,u61,u62],defers:=mA (D' :: Ds) })->∃ m,m<n/\Vr s B f full w w1 b11 m act V):=aa (by
     rintro act ⟨u0,u1,u5,u6,u7,u8,u10,u13,u14,u15,u16,u17,u18,u19,u20,u21,u22,u23,u24,u25,u26,u27,u28,u29,u30,u31,u32,u33,u34,u35,u36,u37,u38,u39,u40,u41,u42,u43,u44,u45,u46,u47,u48,u49,u50,u51,u52,u53,u54,u55,u56,u57,u58,u59,u60,u61,u62,ha⟩;have h1:=E7.out;have h2:=AY (s:=s) Ck.out qE.out (d:=d) (by rw[It.out,h1];rfl);obtain⟨v5,k1,_⟩:=iv.walk;refine⟨d,by omega,_,_,D' :: Ds,_,_,_,_,_,_,_,_,_,_,_,_,_,_,_,_,_,_,_,_,_,_,_,_,_,_,_,_,_,_,_,_,_,_,_,_,_,_,_,_,_,_,_,_,_,_,_,_,_,_,_,_,_,_,_,_,_,ha,h2.1,h2.2.1,?_,ar k1,{ iv with marks:=cQ.cons iv.marks (by omega) hK fun E hE=>by have:=lp E hE;omega }⟩;have h3:=AK.out;rw[h1]at h3;rw[<-h3,List.append_assoc]
     rfl)
    clear iv hK da wO AP Hz
    go_wp2_with fail
    exact HG.out _ ⟨_,_,_,_,_,_,_,_,_,_,_,_,_,_,_,_,_,_,_,_,_,_,_,_,_,_,_,_,_,_,_,_,_,_,_,_,_,_,_,_,_,_,_,_,_,_,_,_,_,_,_,_,_,_,_,_,_,rfl⟩
   case rnd=>
    intro yl i V hi hl iv;obtain⟨iv,jo⟩:=iv;unfold Hk;obtain⟨nb,iz⟩:∃ nb,(dN s cur).getD i 0=nb:=⟨_,rfl⟩
    have mm:nb<eS s:=by
     rw[<-iz,ap 0 hi];exact(qU.1 (List.getElem_mem hi)).1
    have HNXT:=aa (fun h=>dz.out i hi h jo);have fD:Hid ((cW s f).getD nb 0≠d->∀ j,j<i+1->(cW s f).getD ((dN s cur).getD j 0) 0≠d):=aa (fun h=>aT jo (by rw[iz];exact h));rw[iz]at HNXT ⊢;have nG:=aa iv;obtain⟨pv,Fa⟩:∃ pv,byP s cur nb=pv:=⟨_,rfl⟩;rw[Fa];have zd:=aa Fa;clear iv da iz jo Fa wO AP Hz
    gi_wp2
    refine⟨Bod.refl _ _ _,fun V=>WkI s w w1 b11 f cur l Ds V/\V.heap[W.heap.size]?=some (.cells #[.pointer (some ⟨B,0,none⟩)] 196)/\V.heap[W.heap.size+1]?=some (.cells #[.int .i64 cur] 3),(Be.out cur l Ds _ (by omega) (fun E hE=>by have:=lp E hE;omega)).and (cI.cells.and cI.cells),nG.out,fun V2 h2 jq=>?_⟩;obtain⟨rlp,jq⟩:=jq;have Ja:=ar jq;clear jq rlp;obtain⟨h2,dU,iD⟩:=h2;obtain⟨v2,k1,k2⟩:=h2.walk;obtain⟨av2,cv2,rfl⟩:=k2.slice;have cT:=aa h2;have Fh:=aa k1;have uH:=aa k2;have fB:=aa dU;have uK:=aa iD;have tf:=ab h2.fbox 0;have te:=ab h2.ebox 0;have tn:=ab h2.far nb;have tc:=ab h2.far cur;rw[ki _ _ (by rw[vB];exact mm)]at tn;rw[ki _ _ (by rw[vB];exact bU),It.out]at tc;simp at tf te;rw[HM.out]at tf;have yf:∀ z:ExtW V2,z.val.cell? ⟨b11,0,none⟩=_:=fun z=>z.cell tf
    have ye:∀ z:ExtW V2,z.val.cell? ⟨w.heap.size+1,0,none⟩=_:=fun z=>z.cell te
    have jn:IntKind.i64.wrap ((n:Int) - 1)=(d:Int):=by have:=E7.out;have:=M9.out.1;have h5:=congrArg List.length AK.out;rw[IntWalk.i64_in _ (by have h6:=Dn (s:=s) Ck.out cur bU;have:=It.out;have:=HM.out;omega)];omega
    have hnm:nb<m:=by have:=HM.out;omega
    have pT:cur<m:=by have:=HM.out;omega
    clear h2 k1 k2 dU iD;by_cases Ft:(cW s f).getD nb 0=d
    ·have gK:=aa (HNXT.out Ft)
     rw[Ft]at tn;have yn:∀ z:ExtW V2,z.val.cell? ⟨w1.heap.size,nb,none⟩=_:=fun z=>z.cell tn
     have yc:∀ z:ExtW V2,z.val.cell? ⟨w1.heap.size,cur,none⟩=_:=fun z=>z.cell tc
     clear Ft tn tc tf te
     gi_wp2
     refine pn (fun ⟨_,_,h⟩=>h) (by kernel_rfl) (by kernel_rfl) (by kernel_rfl) ?_
     repeat (go_big_quiet_step (fail))
     refine wpQuiet_nil ?_;rintro _ ⟨xq,rfl⟩;have pH:=xq.ext;generalize xq.val=V3 at pH ⊢;clear yf ye yn yc;have yQ:=aa pH;have h3:=Be.out cur l Ds W1.heap.size (by omega) (fun E hE=>by have:=lp E hE;omega) _ _ (Chg.of_below pH) cT.out;have k1:=af pH Fh.out;have k2:=uH.out.ck (.of_below pH);have Jq:=pH.size;have tw:=ab k1 0;simp at tw;have rk:=aa h3;have kW:=aa k1;have dX:=aa (k2.up ((Below.refl _ V3).alloc (Nat.le_refl _) (.cells #[.int .i64 nb,.int .i64 pv] 75)));have bB:=aa (eA V3 [.int .i64 nb,.int .i64 pv] 75);have kU:Hid (l.length+1<=300):=aa (by have h5:=congrArg List.length AK.out;have:=M9.out.1;simp only[List.length_append]at h5;omega);have gO:Hid (l.length+1<=maxLen):=aa (by have:=kU.out;unfold maxLen;omega);have eo:Hid ((l.length+1) * 16<=140737488355328):=aa (by have:=kU.out;omega);have fL:Hid (b11+1<=(V3.alloc (.cells #[.int .i64 nb,.int .i64 pv] 75)).heap.size):=aa (by simp;omega);have hne1:¬ (b11+2=w.heap.size+1):=by omega
     clear pH h3 k1 k2
     go_wp2_with fail
     gi_wp2_with (gi_at_builtin;(refine qg _ rfl (.tmp 55) (.tmp 59) 54 rfl (b11+1) 75 i0 _ 2 16 Tryz.underlying54 cG cf bP cj rfl (by decide) _ l.length _ rfl dX.out ⟨V3.heap.size,0,none⟩ 1 1 [.int .i64 nb,.int .i64 pv] rfl rfl bB.out (by simp[Value.oneCell']) gO.out eo.out fL.out ?_;intro v4 w4 l8 eL _;obtain⟨av4,cv4,rfl⟩:=l8.slice;have uO:=gW dX.out eL kW.out (by decide);have Td:=gW dX.out eL rk.out.ebox (by decide);have c4:=ab uO 0;have f4:=aE uO 0;have c5:=ab Td 0;have f5:=aE Td 0;simp at c4 c5))
     have At:=eL.size;simp only[World.size_alloc]at At;have P2:∀ k,k<V3.heap.size->(∀ g,(Value.slice av2 l.length cv2).ownBlock=some g->k≠g)->w4.heap[k]?=V3.heap[k]?:=fun k h1 h2=>(eL.block k (by simp;omega) (fun e=>h2 k e.symm rfl)).trans (Below.heap_alloc V3 _ k h1)
     have sB:∀ (k:Nat) (o:Obj),V3.heap[k]?=some o->o.isCells=false->((w4.setCell ⟨b11+2,0,none⟩ (.slice av4 (l.length+1) cv4)).setCell ⟨w.heap.size+1,0,none⟩ (.int .i64 nb)).heap[k]?=some o:=fun k o ho hc=>by
      have n1:k≠w.heap.size+1:=fun e=>by subst e;rw[rk.out.ebox]at ho;cases ho;cases hc
      have n2:k≠b11+2:=fun e=>by subst e;rw[kW.out]at ho;cases ho;cases hc
      rw[Below.heap_setCell _ _ _ _ n1,Below.heap_setCell _ _ _ _ n2];exact mB dX.out eL ho hc
     have Ty:∀ (k:Nat) (c:Array Value) (ty:TypeId) (fz:Nat × Nat),V3.heap[k]?=some (.cells c ty fz)->75≠ty->k≠w.heap.size+1->k≠b11+2->((w4.setCell ⟨b11+2,0,none⟩ (.slice av4 (l.length+1) cv4)).setCell ⟨w.heap.size+1,0,none⟩ (.int .i64 nb)).heap[k]?=some (.cells c ty fz):=fun k c ty fz h1 h2 h3 h4=>by
      rw[Below.heap_setCell _ _ _ _ h3,Below.heap_setCell _ _ _ _ h4];exact gW dX.out eL h1 h2
     have Ff:=af yQ.out fB.out;have hy3:=af yQ.out uK.out;refine⟨⟨by simp;have:=yQ.out.size;omega,fun k hk=>?_,fun k o _ ho hc=>sB k o (af yQ.out ho) hc⟩,rfl,?_⟩
     ·rcases hk with hk|rfl|rfl
      ·have h1:=w1.heap[k]
       have h2:V2.heap[k]?=some w1.heap[k]:=(cT.out.fin k hk.1 hk.2).trans (by rw[Array.getElem?_eq_getElem hk.2]);rw[h2,Below.heap_setCell _ _ _ _ (by dsimp only;omega),Below.heap_setCell _ _ _ _ (by dsimp only;omega)];exact rU dX.out eL (af yQ.out h2) (by omega)
      ·rw[fB.out];exact Ty _ _ _ _ Ff (by decide) (by omega) (by omega)
      ·rw[uK.out];exact Ty _ _ _ _ hy3 (by decide) (by omega) (by omega)
     ·rw[gK.out,zd.out]
      refine⟨((eR rk.out.old (by omega) dX.out eL).setCell (by dsimp only;omega) _).setCell (by dsimp only;omega) _,fun k h1 h2=>?_,?_,?_,?_,⟨_,aH (aF uO _ _) (by omega) _ _,?_⟩,rk.out.marks.keep sB⟩
      ·have h3:V3.heap[k]?=some w1.heap[k]:=(rk.out.fin k h1 h2).trans (by rw[Array.getElem?_eq_getElem h2])
       rw[Array.getElem?_eq_getElem h2,Below.heap_setCell _ _ _ _ (by dsimp only;omega),Below.heap_setCell _ _ _ _ (by dsimp only;omega)];exact rU dX.out eL h3 (by omega)
      ·exact Ty _ _ _ _ rk.out.far (by decide) (by omega) (by omega)
      ·exact Ty _ _ _ _ rk.out.fbox (by decide) (by omega) (by omega)
      ·exact aF (aH Td (by omega) _ _) _ _
      ·have e1:(l++[(⟨nb,pv⟩:Lk)]).length=l.length+1:=by simp
       have e2:bF (l++[(⟨nb,pv⟩:Lk)])=bF l++[Value.int .i64 nb,Value.int .i64 pv]:=by rw[jj];rfl
       rw[e1,e2];have o5:=l8.put (l8.ne uO (by decide)) 0 (Value.slice av4 (l.length+1) cv4);exact o5.put (o5.ne (aH Td (by omega) 0 (Value.slice av4 (l.length+1) cv4)) (by decide)) _ _
    ·have HNO2:=aa (fD.out Ft)
     have hdne:((cW s f).getD nb 0 == (d:Int))=false:=beq_eq_false_iff_ne.2 Ft;generalize (cW s f).getD nb 0=dn at tn hdne;have yn:∀ z:ExtW V2,z.val.cell? ⟨w1.heap.size,nb,none⟩=_:=fun z=>z.cell tn
     have yc:∀ z:ExtW V2,z.val.cell? ⟨w1.heap.size,cur,none⟩=_:=fun z=>z.cell tc
     clear Ft tn tc tf te
     gi_wp2
     refine pn (fun ⟨_,_,h⟩=>h) (by kernel_rfl) (by kernel_rfl) (by kernel_rfl) ?_
     repeat (go_big_quiet_step (fail))
     refine wpQuiet_nil ?_;rintro _ ⟨xq,rfl⟩;have pH:=xq.ext;generalize xq.val=V3 at pH ⊢;clear yf ye yn yc hdne
     gi_wp2
     exact⟨Bod.of_below (fun k hk=>by rcases hk with hk|rfl|rfl<;>omega) pH,⟨Be.out cur l Ds W1.heap.size (by omega) (fun E hE=>by have:=lp E hE;omega) _ _ (Chg.of_below pH) cT.out,af pH fB.out,af pH uK.out⟩,HNO2.out⟩
theorem Q7{q:Nat->Bool} {n k:Nat} (hk:k<n) (h:q k=true) (h0:∀ j,j<k->q j=false):∃ t,(List.range n).filter q=k :: t:=by
 obtain⟨d,rfl⟩:∃ d,n=(k+1)+d:=⟨n - (k+1),by omega⟩;have h1:(List.range k).filter q=[]:=List.filter_eq_nil_iff.2 (fun j hj=>by simp[h0 j (List.mem_range.1 hj)]);rw[List.range_add,List.filter_append,List.range_succ,List.filter_append,h1];simp[h]
theorem UP{s:Sys} (hn:nS s<=5) {e f:Nat} (h:byB s e f=true):∃ t,ja (byM s e f:Nat) 5=byP s e f :: t:=by
 obtain⟨h1,h2,h3⟩:=uj h;unfold byP at h1 h2 h3 ⊢;rcases bD (nS s) (fun p=>linkB s p e f) with ⟨e1,_⟩|⟨k,hk,e1,h4,h5⟩
 ·omega
 ·rw[e1]
  obtain⟨t,ht⟩:=Q7 (q:=hasB ((byM s e f:Nat):Int)) (n:=5) (k:=k) (by omega) (by unfold byM;rw[jg,decide_eq_true hk,h4];rfl) (fun j hj=>by unfold byM;rw[jg,h5 j hj,Bool.and_false]);unfold ja;rw[ht];exact⟨t.map _,rfl⟩
theorem UQ(d:Nat) (a b:Lk) (w:World):(Op.equalIn (d+2) 75 a.v b.v).run Tryz.prog w=.ok (decide (a=b)) w:=by
 have hS:Tryz.prog.underlying 75=some (.struct (Tryz.prog.fieldsOf 75)):=by kernel_rfl
 have hp:Tryz.prog.stoodInHeld 75=false:=by kernel_rfl
 rw[run_equalIn_struct w (d+1) 75 _ _ hS hp];have ag:=Tryz.isAgg3;have u3:=Tryz.underlying3;simp only[Program.fieldsOf,Tryz.underlying75];simp[Op.eqFields,part,ag,run_equalIn_int w d 3 _ .i64 _ _ u3];obtain⟨n,k⟩:=a;obtain⟨m,l⟩:=b;by_cases hn:n=m
 case neg=>simp[hn]
 by_cases hk:k=l<;>simp[hn,hk]
theorem Vs(a b:Lk) (w:World):(binOp .neq 75 a.v b.v).run Tryz.prog w=.ok (.bool (!decide (a=b))) w:=by
 rw[run_neq_struct,UQ 9998];rfl
theorem L5(va vb:Value) (a b:List Lk) (w:World) (ha:aU w va a) (hb:aU w vb b) :
  Calls Tryz.prog 53 #[va,vb] w fun e w'=>e=.returned (.bool (decide (a=b)))/\Below w.heap.size w w':=by
 obtain⟨pa,ca,rfl,la1,la2,ea⟩:=ha.at;obtain⟨pb,cb,rfl,lb1,lb2,eb⟩:=hb.at;have EA:=aa ea;have EB:=aa eb;have gU:Hid (a.length=b.length->(∀ j,j<a.length->a.getD j default=b.getD j default)->decide (a=b)=true):=aa fun h1 h2=>decide_eq_true (eW default h1 h2)
 have gK:Hid (a.length≠b.length->decide (a=b)=false):=aa fun h=>decide_eq_false fun e=>h (by rw[e])
 have qm:Hid (∀ j,j<a.length->a.getD j default≠b.getD j default->decide (a=b)=false):=aa fun j _ h=>decide_eq_false fun e=>h (by rw[e])
 generalize decide (a=b)=r at gU gK qm ⊢;clear ha hb ea eb
 go_enter Tryz.func53,Tryz.ntmps53
 by_cases hl:a.length=b.length
 case neg=>
  have hd:(((a.length:Nat):Int) != ((b.length:Nat):Int))=true:=by simp;omega
  have HR:=aa (gK.out hl);clear hl
  go_wp2_with fail
  go_ret
  exact⟨aN (by rw[HR.out]),Below.refl _ _⟩
 have HL:=aa hl;obtain⟨n,hn⟩:∃ n,a.length=n:=⟨_,rfl⟩;have iz:b.length=n:=by omega
 have HN:=aa hn;have AM:=aa iz;rw[hn]at la1 la2 ⊢;rw[iz]at lb1 lb2 ⊢;clear hl hn iz;have hd:((n:Int) != (n:Int))=false:=by simp
 go_wp2_with fail
 go_loopw [5] (fun i wr=>∃ k:Nat,k<=n/\i=.int .i64 k/\Below w.heap.size w wr/\∀ j,j<k->a.getD j default=b.getD j default) (fun i _=>n - (intOf i).toNat)
 case atStart=>exact⟨0,by omega,rfl,Below.refl _ _,fun j hj=>by omega⟩
 case round=>
  obtain⟨k,hk,rfl,aq,aS⟩:=hrel;have H:=aa aS;have aR:=aa aq;clear aS;by_cases az:k<n
  ·obtain⟨b1,o1,rfl,h1⟩:=EA.out k (by rw[HN.out];exact az)
   obtain⟨b2,o2,rfl,h2⟩:=EB.out k (by rw[AM.out];exact az);have pV:=aa (ap (default:Lk) (show k<a.length by rw[HN.out];exact az));have rg:=aa (ap (default:Lk) (show k<b.length by rw[AM.out];exact az));generalize a[k]'(by rw[HN.out];exact az)=x at h1 pV;generalize b[k]'(by rw[AM.out];exact az)=y at h2 rg;have c0:∀ z:ExtW wr,z.val.cell? ⟨b1,o1+k * 2,none⟩=_:=fun z=>z.cell (ai aq h1.1.1)
   have c1:∀ z:ExtW wr,z.val.cell? ⟨b1,o1+k * 2+1,none⟩=_:=fun z=>z.cell (ai aq h1.2.1)
   have d0:∀ z:ExtW wr,z.val.cell? ⟨b2,o2+k * 2,none⟩=_:=fun z=>z.cell (ai aq h2.1.1)
   have d1:∀ z:ExtW wr,z.val.cell? ⟨b2,o2+k * 2+1,none⟩=_:=fun z=>z.cell (ai aq h2.2.1)
   have jK:=fun w=>Vs x y w
   clear h1 h2 aq;cases cO:decide (x=y) with
   | true=>
    have nA:=aa (of_decide_eq_true cO);rw[cO]at jK;clear cO
    go_wp2_with fail
    refine aB (by kernel_rfl) (by kernel_rfl) ?_
    repeat (go_big_quiet_step (fail))
    refine wpQuiet_nil ?_;rintro _ ⟨xq,rfl⟩;clear c0 c1 d0 d1 jK
    go_wp2_with fail
    go_roundw
    case rel=>exact⟨k+1,by omega,by go_num,ae aR.out xq.ext,aT (p:=fun j=>a.getD j default=b.getD j default) H.out (by rw[pV.out,rg.out];exact nA.out)⟩
    case measure=>simp[intOf];omega
   | false=>
    have HR:=aa (qm.out k (by rw[HN.out];exact az) (by rw[pV.out,rg.out];exact of_decide_eq_false cO));rw[cO]at jK;clear cO
    go_wp2_with fail
    refine aB (by kernel_rfl) (by kernel_rfl) ?_
    repeat (go_big_quiet_step (fail))
    refine wpQuiet_nil ?_;rintro _ ⟨xq,rfl⟩;clear c0 c1 d0 d1 jK
    go_wp2_with fail
    go_ret
    exact⟨aN (by rw[HR.out]),ae aR.out xq.ext⟩
  ·obtain rfl:k=n:=by omega
   have HR:=aa (gU.out HL.out fun j hj=>H.out j (by have:=HN.out;omega))
   go_wp2_with fail
   go_ret
   exact⟨aN (by rw[HR.out]),aR.out⟩
theorem L6(v:Value) (l:List Int) (w:World) (hv:aY w v l) :
  Calls Tryz.prog 131 #[v] w fun e w'=>e=.returned (.bool (constB l))/\Below w.heap.size w w':=by
 obtain⟨pl,cl,rfl,el⟩:=fG hv;obtain⟨_,_,_,_,cK,_⟩:=hv.at;have EL:=aa el;have KI:Hid (constB l=!(anyLt l.length fun i=>decide (l.getD i 0≠l.getD 0 0))):=aa rfl;have fD:Hid (∀ k,k<l.length->l.getD k 0≠l.getD 0 0->constB l=false):=aa fun k hk h=>by rw[KI.out,Qv hk (decide_eq_true h)];rfl
 have ju:Hid ((∀ k,k<l.length->l.getD k 0=l.getD 0 0)->constB l=true):=aa fun h=>by rw[KI.out,eD _ _ fun k hk=>decide_eq_false (fun h'=>h' (h k hk))];rfl
 generalize constB l=r at fD ju ⊢;obtain⟨x0,cS⟩:∃ x0,l.getD 0 0=x0:=⟨_,rfl⟩;have yZ:=aa cS;rw[cS]at fD ju;clear cS;obtain⟨n,hn⟩:∃ n,l.length=n:=⟨_,rfl⟩;rw[hn]at EL fD ju cK ⊢;clear hv el KI hn
 go_enter Tryz.func131,Tryz.ntmps131
 go_wp2_with fail
 go_loopw [3] (fun i wr=>∃ k:Nat,k<=n/\i=.int .i64 k/\Below w.heap.size w wr/\∀ j,j<k->l.getD j 0=x0) (fun i _=>n - (intOf i).toNat)
 case atStart=>exact⟨0,by omega,rfl,Below.refl _ _,fun j hj=>by omega⟩
 case round=>
  obtain⟨k,hk,rfl,aq,aS⟩:=hrel;have H:=aa aS;have aR:=aa aq;clear aS;by_cases az:k<n
  ·obtain⟨b1,o1,rfl,c1⟩:=EL.out k az
   obtain⟨b2,o2,e2,c2⟩:=EL.out 0 (by omega);injection e2 with e2
   injection e2 with e2 e3
   subst e2 e3;rw[yZ.out]at c2;have sU:=aa (fD.out k az);have HB:=aa (fun h:l.getD k 0=x0=>aT (p:=fun j=>l.getD j 0=x0) H.out h);have y1:∀ z:ExtW wr,z.val.cell? ⟨b1,o1+k,none⟩=_:=fun z=>z.cell (ai aq c1)
   have y2:∀ z:ExtW wr,z.val.cell? ⟨b1,o1,none⟩=_:=fun z=>z.cell (ai aq c2)
   by_cases cO:l.getD k 0=x0
   ·have nR:=aa (HB.out cO)
    have hd:(l.getD k 0 != x0)=false:=by rw[cO];simp
    clear HB sU cO aq c1 c2;generalize l.getD k 0=xk at y1 hd
    go_wp2_with fail
    refine aB (by kernel_rfl) (by kernel_rfl) ?_
    repeat (go_big_quiet_step (fail))
    refine wpQuiet_nil ?_;rintro _ ⟨xq,rfl⟩;clear y1 y2
    go_wp2_with fail
    go_roundw
    case rel=>exact⟨k+1,by omega,by go_num,ae aR.out xq.ext,nR.out⟩
    case measure=>simp[intOf];omega
   ·have HR:=aa (sU.out cO)
    have hd:(l.getD k 0 != x0)=true:=by simpa using cO
    clear HB sU cO aq c1 c2;generalize l.getD k 0=xk at y1 hd
    go_wp2_with fail
    refine aB (by kernel_rfl) (by kernel_rfl) ?_
    repeat (go_big_quiet_step (fail))
    refine wpQuiet_nil ?_;rintro _ ⟨xq,rfl⟩;clear y1 y2
    go_wp2_with fail
    go_ret
    exact⟨aN (by rw[HR.out]),ae aR.out xq.ext⟩
  ·obtain rfl:k=n:=by omega
   have HR:=aa (ju.out fun j hj=>H.out j hj)
   go_wp2_with fail
   go_ret
   exact⟨aN (by rw[HR.out]),aR.out⟩
theorem L7(na nb:Int) (va vb:Value) (a b:List Vw) (w:World) (ha:mu w va a) (hb:mu w vb b) :
  Calls Tryz.prog 149 #[.agg #[.int .i64 na,va],.agg #[.int .i64 nb,vb]] w fun e w'=>e=.returned (.bool (decide (na=nb/\a=b)))/\Below w.heap.size w w':=by
 obtain⟨pa,ca,rfl,la1,la2,ea⟩:=ha.at;obtain⟨pb,cb,rfl,lb1,lb2,eb⟩:=hb.at;have EA:=aa ea;have EB:=aa eb;have n9:Hid (na≠nb->decide (na=nb/\a=b)=false):=aa fun h=>decide_eq_false fun e=>h e.1
 have gU:Hid (na=nb->a.length=b.length->(∀ j,j<a.length->a.getD j default=b.getD j default)->decide (na=nb/\a=b)=true):=aa fun h0 h1 h2=>decide_eq_true ⟨h0,eW default h1 h2⟩
 have gK:Hid (a.length≠b.length->decide (na=nb/\a=b)=false):=aa fun h=>decide_eq_false fun e=>h (by rw[e.2])
 have qm:Hid (∀ j,j<a.length->a.getD j default≠b.getD j default->decide (na=nb/\a=b)=false):=aa fun j _ h=>decide_eq_false fun e=>h (by rw[e.2])
 generalize decide (na=nb/\a=b)=r at n9 gU gK qm ⊢;clear ha hb ea eb
 go_enter Tryz.func149,Tryz.ntmps149
 by_cases fq:na=nb
 case neg=>
  have hd:(na != nb)=true:=by simpa using fq
  have HR:=aa (n9.out fq);clear fq
  go_wp2_with fail
  go_ret
  exact⟨aN (by rw[HR.out]),by go_grown⟩
 have gU:=aa (gU.out fq);subst fq;by_cases hl:a.length=b.length
 case neg=>
  have hd:(((a.length:Nat):Int) != ((b.length:Nat):Int))=true:=by simp;omega
  have HR:=aa (gK.out hl);clear hl
  go_wp2_with fail
  go_ret
  exact⟨aN (by rw[HR.out]),by go_grown⟩
 have HL:=aa hl;obtain⟨n,hn⟩:∃ n,a.length=n:=⟨_,rfl⟩;have iz:b.length=n:=by omega
 have HN:=aa hn;have AM:=aa iz;rw[hn]at la1 la2 ⊢;rw[iz]at lb1 lb2 ⊢;clear hl hn iz;have hd:((n:Int) != (n:Int))=false:=by simp
 go_wp2_with fail
 refine bj (fun W=>Below w.heap.size w W/\W.heap[w.heap.size]?=some (.cells #[.int .i64 na,.slice pa n ca] 32)/\W.heap[w.heap.size+1]?=some (.cells #[.int .i64 na,.slice pb n cb] 32)) ⟨by go_grown,am _ (ak _ _),by have h:=ak (w.alloc (.cells #[.int .i64 na,.slice pa n ca] 32)) (.cells #[.int .i64 na,.slice pb n cb] 32);simpa using h⟩ (fun W0 aW=>?_);obtain⟨aC,br,iB⟩:=aW;have cM:=aa aC;have gT:=aa br;have mC:=aa iB;clear aC br iB
 go_loopw [5] (fun i wr=>∃ k:Nat,k<=n/\i=.int .i64 k/\Below W0.heap.size W0 wr/\∀ j,j<k->a.getD j default=b.getD j default) (fun i _=>n - (intOf i).toNat)
 case atStart=>exact⟨0,by omega,rfl,Below.refl _ _,fun j hj=>by omega⟩
 case round=>
  obtain⟨k,hk,rfl,aq,aS⟩:=hrel;have H:=aa aS;have aR:=aa aq;have bZ:=aa (ae cM.out aq);clear aS aq;have tA:=ab (af aR.out gT.out);by_cases az:k<n
  ·obtain⟨b1,o1,rfl,h1⟩:=EA.out k (by rw[HN.out];exact az)
   obtain⟨b2,o2,rfl,h2⟩:=EB.out k (by rw[AM.out];exact az);have pV:=aa (ap (default:Vw) (show k<a.length by rw[HN.out];exact az));have rg:=aa (ap (default:Vw) (show k<b.length by rw[AM.out];exact az));generalize a[k]'(by rw[HN.out];exact az)=x at h1 pV;generalize b[k]'(by rw[AM.out];exact az)=y at h2 rg;have c0:∀ z:ExtW wr,z.val.cell? ⟨b1,o1+k * 8,none⟩=_:=fun z=>z.cell (ai bZ.out h1.1.1)
   have c1:∀ z:ExtW wr,z.val.cell? ⟨b1,o1+k * 8+1,none⟩=_:=fun z=>z.cell (ai bZ.out h1.2.1.1)
   have c2:∀ z:ExtW wr,z.val.cell? ⟨b1,o1+k * 8+2,none⟩=_:=fun z=>z.cell (ai bZ.out h1.2.2.1.1)
   have c3:∀ z:ExtW wr,z.val.cell? ⟨b1,o1+k * 8+3,none⟩=_:=fun z=>z.cell (ai bZ.out h1.2.2.2.1.1)
   have c4:∀ z:ExtW wr,z.val.cell? ⟨b1,o1+k * 8+4,none⟩=_:=fun z=>z.cell (ai bZ.out h1.2.2.2.2.1.1)
   have c5:∀ z:ExtW wr,z.val.cell? ⟨b1,o1+k * 8+5,none⟩=_:=fun z=>z.cell (ai bZ.out h1.2.2.2.2.2.1.1)
   have c6:∀ z:ExtW wr,z.val.cell? ⟨b1,o1+k * 8+6,none⟩=_:=fun z=>z.cell (ai bZ.out h1.2.2.2.2.2.2.1.1)
   have c7:∀ z:ExtW wr,z.val.cell? ⟨b1,o1+k * 8+7,none⟩=_:=fun z=>z.cell (ai bZ.out h1.2.2.2.2.2.2.2.1)
   have d0:∀ z:ExtW wr,z.val.cell? ⟨b2,o2+k * 8,none⟩=_:=fun z=>z.cell (ai bZ.out h2.1.1)
   have d1:∀ z:ExtW wr,z.val.cell? ⟨b2,o2+k * 8+1,none⟩=_:=fun z=>z.cell (ai bZ.out h2.2.1.1)
   have d2:∀ z:ExtW wr,z.val.cell? ⟨b2,o2+k * 8+2,none⟩=_:=fun z=>z.cell (ai bZ.out h2.2.2.1.1)
   have d3:∀ z:ExtW wr,z.val.cell? ⟨b2,o2+k * 8+3,none⟩=_:=fun z=>z.cell (ai bZ.out h2.2.2.2.1.1)
   have d4:∀ z:ExtW wr,z.val.cell? ⟨b2,o2+k * 8+4,none⟩=_:=fun z=>z.cell (ai bZ.out h2.2.2.2.2.1.1)
   have d5:∀ z:ExtW wr,z.val.cell? ⟨b2,o2+k * 8+5,none⟩=_:=fun z=>z.cell (ai bZ.out h2.2.2.2.2.2.1.1)
   have d6:∀ z:ExtW wr,z.val.cell? ⟨b2,o2+k * 8+6,none⟩=_:=fun z=>z.cell (ai bZ.out h2.2.2.2.2.2.2.1.1)
   have d7:∀ z:ExtW wr,z.val.cell? ⟨b2,o2+k * 8+7,none⟩=_:=fun z=>z.cell (ai bZ.out h2.2.2.2.2.2.2.2.1)
   have tA2:∀ z:ExtW wr,z.val.cell? ⟨w.heap.size,1,none⟩=some (.slice (some ⟨b1,o1,none⟩) n ca):=fun z=>z.cell (by rw[ab (af aR.out gT.out)];rfl)
   have tC2:∀ z:ExtW wr,z.val.cell? ⟨w.heap.size+1,1,none⟩=some (.slice (some ⟨b2,o2,none⟩) n cb):=fun z=>z.cell (by rw[ab (af aR.out mC.out)];rfl)
   have jK:=fun w=>On x y w
   clear h1 h2;cases cO:decide (x=y) with
   | true=>
    have nA:=aa (of_decide_eq_true cO);rw[cO]at jK;clear cO
    go_wp2_with fail
    refine aB (by kernel_rfl) (by kernel_rfl) ?_
    repeat (go_big_quiet_step (fail))
    refine wpQuiet_nil ?_;rintro _ ⟨xq,rfl⟩;clear c0 c1 c2 c3 c4 c5 c6 c7 d0 d1 d2 d3 d4 d5 d6 d7 tA2 tC2 jK tA
    go_wp2_with fail
    go_roundw
    case rel=>exact⟨k+1,by omega,by go_num,ae aR.out xq.ext,aT (p:=fun j=>a.getD j default=b.getD j default) H.out (by rw[pV.out,rg.out];exact nA.out)⟩
    case measure=>simp[intOf];omega
   | false=>
    have HR:=aa (qm.out k (by rw[HN.out];exact az) (by rw[pV.out,rg.out];exact of_decide_eq_false cO));rw[cO]at jK;clear cO
    go_wp2_with fail
    refine aB (by kernel_rfl) (by kernel_rfl) ?_
    repeat (go_big_quiet_step (fail))
    refine wpQuiet_nil ?_;rintro _ ⟨xq,rfl⟩;clear c0 c1 c2 c3 c4 c5 c6 c7 d0 d1 d2 d3 d4 d5 d6 d7 tA2 tC2 jK tA
    go_wp2_with fail
    go_ret
    exact⟨aN (by rw[HR.out]),ae bZ.out xq.ext⟩
  ·obtain rfl:k=n:=by omega
   have HF:∀ j,j<a.length->a.getD j default=b.getD j default:=fun j hj=>H.out j (by have:=HN.out;omega)
   have HR:Hid (r=true):=aa (by first|exact gU.out HL.out HF|exact gU.out trivial HL.out HF|exact gU.out rfl HL.out HF);clear HF
   go_wp2_with fail
   go_ret
   exact⟨aN (by rw[HR.out]),bZ.out⟩
theorem L8(va vb:Value) (a b:List Int) (w:World) (ha:aY w va a) (hb:aY w vb b) :
  Calls Tryz.prog 184 #[va,vb] w fun e w'=>e=.returned (.bool (decide (a=b)))/\Below w.heap.size w w':=by
 obtain⟨pa,ca,rfl,ea⟩:=fG ha;obtain⟨pb,cb,rfl,eb⟩:=fG hb;obtain⟨_,_,_,_,la2,_⟩:=ha.at;obtain⟨_,_,_,_,lb2,_⟩:=hb.at;have EA:=aa ea;have EB:=aa eb;have gU:Hid (a.length=b.length->(∀ j,j<a.length->a.getD j 0=b.getD j 0)->decide (a=b)=true):=aa fun h1 h2=>decide_eq_true (eW 0 h1 h2)
 have gK:Hid (a.length≠b.length->decide (a=b)=false):=aa fun h=>decide_eq_false fun e=>h (by rw[e])
 have qm:Hid (∀ j,j<a.length->a.getD j 0≠b.getD j 0->decide (a=b)=false):=aa fun j _ h=>decide_eq_false fun e=>h (by rw[e])
 generalize decide (a=b)=r at gU gK qm ⊢;clear ha hb ea eb
 go_enter Tryz.func184,Tryz.ntmps184
 by_cases hl:a.length=b.length
 case neg=>
  have hd:(((a.length:Nat):Int) != ((b.length:Nat):Int))=true:=by simp;omega
  have HR:=aa (gK.out hl);clear hl
  go_wp2_with fail
  go_ret
  exact⟨aN (by rw[HR.out]),Below.refl _ _⟩
 have HL:=aa hl;obtain⟨n,hn⟩:∃ n,a.length=n:=⟨_,rfl⟩;have iz:b.length=n:=by omega
 have HN:=aa hn;have AM:=aa iz;rw[hn]at la2 EA ⊢;rw[iz]at lb2 EB ⊢;clear hl hn iz;have hd:((n:Int) != (n:Int))=false:=by simp
 go_wp2_with fail
 go_loopw [5] (fun i wr=>∃ k:Nat,k<=n/\i=.int .i64 k/\Below w.heap.size w wr/\∀ j,j<k->a.getD j 0=b.getD j 0) (fun i _=>n - (intOf i).toNat)
 case atStart=>exact⟨0,by omega,rfl,Below.refl _ _,fun j hj=>by omega⟩
 case round=>
  obtain⟨k,hk,rfl,aq,aS⟩:=hrel;have H:=aa aS;have aR:=aa aq;clear aS;by_cases az:k<n
  ·obtain⟨b1,o1,rfl,h1⟩:=EA.out k az
   obtain⟨b2,o2,rfl,h2⟩:=EB.out k az;have pV:Hid (∀ x,a.getD k 0=x->a.getD k 0=x):=aa fun _ h=>h
   obtain⟨x,hx⟩:∃ x,a.getD k 0=x:=⟨_,rfl⟩;obtain⟨y,hy⟩:∃ y,b.getD k 0=y:=⟨_,rfl⟩;rw[hx]at h1;rw[hy]at h2;have HX:=aa hx;have HY:=aa hy;have c0:∀ z:ExtW wr,z.val.cell? ⟨b1,o1+k,none⟩=_:=fun z=>z.cell (ai aq h1)
   have d0:∀ z:ExtW wr,z.val.cell? ⟨b2,o2+k,none⟩=_:=fun z=>z.cell (ai aq h2)
   clear h1 h2 aq hx hy pV;by_cases cO:x=y
   ·have nA:=aa cO
    have fS:(x != y)=false:=by simp[cO]
    clear cO
    go_wp2_with fail
    refine aB (by kernel_rfl) (by kernel_rfl) ?_
    repeat (go_big_quiet_step (fail))
    refine wpQuiet_nil ?_;rintro _ ⟨xq,rfl⟩;clear c0 d0
    go_wp2_with fail
    go_roundw
    case rel=>exact⟨k+1,by omega,by go_num,ae aR.out xq.ext,aT (p:=fun j=>a.getD j 0=b.getD j 0) H.out (by rw[HX.out,HY.out];exact nA.out)⟩
    case measure=>simp[intOf];omega
   ·have HR:=aa (qm.out k (by rw[HN.out];exact az) (by rw[HX.out,HY.out];exact cO))
    have fS:(x != y)=true:=by simpa using cO
    clear cO
    go_wp2_with fail
    refine aB (by kernel_rfl) (by kernel_rfl) ?_
    repeat (go_big_quiet_step (fail))
    refine wpQuiet_nil ?_;rintro _ ⟨xq,rfl⟩;clear c0 d0
    go_wp2_with fail
    go_ret
    exact⟨aN (by rw[HR.out]),ae aR.out xq.ext⟩
  ·obtain rfl:k=n:=by omega
   have HR:=aa (gU.out HL.out fun j hj=>H.out j (by have:=HN.out;omega))
   go_wp2_with fail
   go_ret
   exact⟨aN (by rw[HR.out]),aR.out⟩
theorem L9(va vb:Value) (a b:List Rd) (w:World) (ha:ka w va a) (hb:ka w vb b) :
  Calls Tryz.prog 183 #[va,vb] w fun e w'=>e=.returned (.bool (decide (a=b)))/\Below w.heap.size w w':=by
 obtain⟨pa,ca,rfl,la1,la2,ea⟩:=ha.at;obtain⟨pb,cb,rfl,lb1,lb2,eb⟩:=hb.at;clear ha hb;have EA:=aa ea;clear ea;have EB:=aa eb;clear eb;generalize nH:decide (a=b)=res;have jt:=aa nH;clear nH;by_cases hl:a.length=b.length
 case neg=>
  have gt:((a.length:Int) != (b.length:Int))=true:=by simp;omega
  have HR:Hid (res=false):=by(have h:res=false:=by(rw[<-jt.out];simp;intro h;exact hl (by rw[h])));exact h
  clear hl
  go_enter Tryz.func183,Tryz.ntmps183
  go_wp2
  go_ret
  exact⟨aN HR.out.symm,Below.refl _ _⟩
 have gt:((a.length:Int) != (b.length:Int))=false:=by simp[hl]
 have HL:=aa hl;clear hl
 go_enter Tryz.func183,Tryz.ntmps183
 go_wp2
 clear gt
 go_loopw [5] (fun i wr=>Below w.heap.size w wr/\∃ k:Nat,k<=a.length/\i=.int .i64 k/\∀ j,j<k->a.getD j default=b.getD j default) (fun i _=>a.length - (intOf i).toNat)
 case atStart=>exact⟨Below.refl _ _,0,by omega,rfl,by simp⟩
 case round=>
  obtain⟨aq,k,hk,rfl,aS⟩:=hrel;have H:=aa aS;clear aS;by_cases az:k<a.length
  ·have iO:k<b.length:=by have:=HL.out;omega
   obtain⟨b1,o1,rfl,⟨c0,r0⟩,⟨c1,r1⟩,⟨c2,r2⟩,⟨c3,r3⟩,⟨c4,r4⟩,⟨c5,r5⟩,⟨c6,r6⟩⟩:=EA.out k az;obtain⟨b2,o2,rfl,⟨e0,s0⟩,⟨e1,s1⟩,⟨e2,s2⟩,⟨e3,s3⟩,⟨e4,s4⟩,⟨e5,s5⟩,⟨e6,s6⟩⟩:=EB.out k iO;have c0':∀ y:ExtW wr,y.val.cell? ⟨b1,o1+k * 7,none⟩=_:=fun y=>y.cell (ai aq c0)
   have c1':∀ y:ExtW wr,y.val.cell? ⟨b1,o1+k * 7+1,none⟩=_:=fun y=>y.cell (ai aq c1)
   have c2':∀ y:ExtW wr,y.val.cell? ⟨b1,o1+k * 7+2,none⟩=_:=fun y=>y.cell (ai aq c2)
   have c3':∀ y:ExtW wr,y.val.cell? ⟨b1,o1+k * 7+3,none⟩=_:=fun y=>y.cell (ai aq c3)
   have c4':∀ y:ExtW wr,y.val.cell? ⟨b1,o1+k * 7+4,none⟩=_:=fun y=>y.cell (ai aq c4)
   have c5':∀ y:ExtW wr,y.val.cell? ⟨b1,o1+k * 7+5,none⟩=_:=fun y=>y.cell (ai aq c5)
   have c6':∀ y:ExtW wr,y.val.cell? ⟨b1,o1+k * 7+6,none⟩=_:=fun y=>y.cell (ai aq c6)
   have e0':∀ y:ExtW wr,y.val.cell? ⟨b2,o2+k * 7,none⟩=_:=fun y=>y.cell (ai aq e0)
   have e1':∀ y:ExtW wr,y.val.cell? ⟨b2,o2+k * 7+1,none⟩=_:=fun y=>y.cell (ai aq e1)
   have e2':∀ y:ExtW wr,y.val.cell? ⟨b2,o2+k * 7+2,none⟩=_:=fun y=>y.cell (ai aq e2)
   have e3':∀ y:ExtW wr,y.val.cell? ⟨b2,o2+k * 7+3,none⟩=_:=fun y=>y.cell (ai aq e3)
   have e4':∀ y:ExtW wr,y.val.cell? ⟨b2,o2+k * 7+4,none⟩=_:=fun y=>y.cell (ai aq e4)
   have e5':∀ y:ExtW wr,y.val.cell? ⟨b2,o2+k * 7+5,none⟩=_:=fun y=>y.cell (ai aq e5)
   have e6':∀ y:ExtW wr,y.val.cell? ⟨b2,o2+k * 7+6,none⟩=_:=fun y=>y.cell (ai aq e6)
   have HX:=aa (ap default az);have HY:=aa (ap default iO);clear c0 r0 e0 s0 c1 r1 e1 s1 c2 r2 e2 s2 c3 r3 e3 s3 c4 r4 e4 s4 c5 r5 e5 s5 c6 r6 e6 s6;generalize a[k]=x at c0' c1' c2' c3' c4' c5' c6' HX;generalize b[k]=y at e0' e1' e2' e3' e4' e5' e6' HY;have bM:=fun w=>N8 x y w
   go_wp2
   by_cases cO:x=y
   ·have hd:decide (x=y)=true:=by simpa using cO
    have nA:Hid (a.getD k default=b.getD k default):=by(have h:a.getD k default=b.getD k default:=by(rw[HX.out,HY.out,cO]));exact h
    rw[hd]at bM;clear cO hd;refine aB (by kernel_rfl) (by kernel_rfl) ?_
    repeat (go_big_quiet_step (fail))
    refine wpQuiet_nil ?_;intro _ dY;obtain⟨xq,cZ⟩:=dY;subst cZ;clear c0' c1' c2' c3' c4' c5' c6' e0' e1' e2' e3' e4' e5' e6' bM
    go_wp2
    go_roundw
    case rel=>exact⟨ae aq xq.ext,k+1,by omega,by go_num,aT H.out nA.out⟩
    case measure=>simp[intOf];omega
   ·have hd:decide (x=y)=false:=by simpa using cO
    have HR:Hid (res=false):=by(have h:res=false:=by(rw[<-jt.out];simp;intro h;subst h;rw[HX.out]at HY;exact cO HY.out));exact h
    rw[hd]at bM;clear cO hd;refine aB (by kernel_rfl) (by kernel_rfl) ?_
    repeat (go_big_quiet_step (fail))
    refine wpQuiet_nil ?_;intro _ dY;obtain⟨xq,cZ⟩:=dY;subst cZ;clear c0' c1' c2' c3' c4' c5' c6' e0' e1' e2' e3' e4' e5' e6' bM
    go_wp2
    go_ret
    exact⟨aN HR.out.symm,ae aq xq.ext⟩
  ·have HR:Hid (res=true):=by(have h:res=true:=by(rw[<-jt.out];simp;exact eW default HL.out fun j hj=>H.out j (by omega)));exact h
   go_wp2
   go_ret
   exact⟨aN HR.out.symm,aq⟩
theorem L'(x y:Ex) (wa wb va vb:Value) (w:World) (TN:ka w wa x.word) (AH:ka w wb y.word) (ha:dR w va x.views) (hb:dR w vb y.views) :
  Calls Tryz.prog 150 #[.agg #[.int .i64 x.c,wa,va],.agg #[.int .i64 y.c,wb,vb]] w fun e w'=>e=.returned (.bool (decide (x=y)))/\Below w.heap.size w w':=by
 obtain⟨cx,wx,ax⟩:=x;obtain⟨cy,wy,ay⟩:=y;dsimp only at TN AH ha hb ⊢;have KB:=aa (fun W (h:Below w.heap.size w W)=>L9 wa wb wx wy W (TN.up up_round h) (AH.up up_round h));obtain⟨pw,cw,rfl,_,_,_⟩:=TN.at;obtain⟨qw,dw,rfl,_,_,_⟩:=AH.at;obtain⟨pa,ca,rfl,la1,la2,ea⟩:=ha.at;obtain⟨pb,cb,rfl,lb1,lb2,eb⟩:=hb.at;have EA:=aa ea;have EB:=aa eb;have CH:Hid (cx≠cy->decide ((⟨cx,wx,ax⟩:Ex)=⟨cy,wy,ay⟩)=false):=aa fun h=>decide_eq_false fun e=>h (congrArg Ex.c e)
 have FO:Hid (decide (wx=wy)=false->decide ((⟨cx,wx,ax⟩:Ex)=⟨cy,wy,ay⟩)=false):=aa fun h=>decide_eq_false fun e=>(of_decide_eq_false h) (congrArg Ex.word e)
 have gK:Hid (ax.length≠ay.length->decide ((⟨cx,wx,ax⟩:Ex)=⟨cy,wy,ay⟩)=false):=aa fun h=>decide_eq_false fun e=>h (congrArg (fun z=>(Ex.views z).length) e)
 have qm:Hid (∀ j,j<ax.length->ax.getD j []≠ay.getD j []->decide ((⟨cx,wx,ax⟩:Ex)=⟨cy,wy,ay⟩)=false):=aa fun j _ h=>decide_eq_false fun e=>h (congrArg (fun z=>(Ex.views z).getD j []) e)
 have gU:Hid (cx=cy/\decide (wx=wy)=true/\ax.length=ay.length/\(∀ j,j<ax.length->ax.getD j []=ay.getD j [])->decide ((⟨cx,wx,ax⟩:Ex)=⟨cy,wy,ay⟩)=true):=aa fun ⟨h0,h1,h2,h3⟩=>decide_eq_true (by rw[h0,of_decide_eq_true h1,eW [] h2 h3])
 generalize decide ((⟨cx,wx,ax⟩:Ex)=⟨cy,wy,ay⟩)=r at CH FO gK qm gU ⊢;generalize decide (wx=wy)=bw at KB FO gU;generalize wx.length=nw1,wy.length=nw2 at KB ⊢;clear TN AH ha hb ea eb
 go_enter Tryz.func150,Tryz.ntmps150
 by_cases fq:cx=cy
 case neg=>
  have hd:(cx != cy)=true:=by simpa using fq
  have HR:=aa (CH.out fq);clear fq
  go_wp2_with fail
  go_ret
  exact⟨aN (by rw[HR.out]),by go_grown⟩
 have sJ:=aa fq;have K4:(cx != cy)=false:=by simp[fq]
 clear fq;obtain⟨n,hn⟩:∃ n,ax.length=n:=⟨_,rfl⟩;obtain⟨m,hm⟩:∃ m,ay.length=m:=⟨_,rfl⟩;have HN:=aa hn;have HM:=aa hm;rw[hn]at la1 la2 ⊢;rw[hm]at lb1 lb2 ⊢;clear hn hm
 go_wp2_with fail
 refine aL (fun W=>Below w.heap.size w W/\W.heap[w.heap.size]?=some (.cells #[.int .i64 cx,.slice pw nw1 cw,.slice pa n ca] 89)/\W.heap[w.heap.size+1]?=some (.cells #[.int .i64 cy,.slice qw nw2 dw,.slice pb m cb] 89)) ⟨by go_grown,am _ (ak _ _),by have h:=ak (w.alloc (.cells #[.int .i64 cx,.slice pw nw1 cw,.slice pa n ca] 89)) (.cells #[.int .i64 cy,.slice qw nw2 dw,.slice pb m cb] 89);simpa using h⟩ (fun W00 aW=>?_);obtain⟨aC,br,iB⟩:=aW;refine(KB.out W00 aC).mono ?_;rintro e W0 ⟨rfl,aG⟩;have cM:=aa (ae aC aG);have gT:=aa (af aG br);have mC:=aa (af aG iB);have tA:=ab gT.out;have tC:=ab mC.out;clear aC br iB aG KB;cases bw with
 | false=>
  have HR:Hid (r=false):=aa (by first|exact FO.out rfl|exact FO.out trivial)
  go_wp2_with fail
  go_ret
  exact⟨aN (by rw[HR.out]),cM.out⟩
 | true=>
  by_cases hl:n=m
  case neg=>
   have hd:(((n:Nat):Int) != ((m:Nat):Int))=true:=by simp;omega
   have HR:=aa (gK.out (by rw[HN.out,HM.out];exact hl));clear hl
   go_wp2_with fail
   go_ret
   exact⟨aN (by rw[HR.out]),cM.out⟩
  subst hl;have hd:((n:Int) != (n:Int))=false:=by simp
  go_wp2_with fail
  clear tA tC
  go_loopw [5] (fun i wr=>∃ k:Nat,k<=n/\i=.int .i64 k/\Below W0.heap.size W0 wr/\∀ j,j<k->ax.getD j []=ay.getD j []) (fun i _=>n - (intOf i).toNat)
  case atStart=>exact⟨0,by omega,rfl,Below.refl _ _,fun j hj=>by omega⟩
  case round=>
   obtain⟨k,hk,rfl,aq,aS⟩:=hrel;have H:=aa aS;have aR:=aa aq;have bZ:=aa (ae cM.out aq);clear aS aq;have tA:=ab (af aR.out gT.out);have tC:=ab (af aR.out mC.out);by_cases az:k<n
   ·obtain⟨b1,o1,rfl,v1,g1,h1⟩:=EA.out k (by rw[HN.out];exact az)
    obtain⟨b2,o2,rfl,v2,g2,h2⟩:=EB.out k (by rw[HM.out];exact az);have pV:=aa (ap ([]:List Int) (show k<ax.length by rw[HN.out];exact az));have rg:=aa (ap ([]:List Int) (show k<ay.length by rw[HM.out];exact az));generalize ax[k]'(by rw[HN.out];exact az)=x at h1 pV;generalize ay[k]'(by rw[HM.out];exact az)=y at h2 rg;have d1:=ai bZ.out g1;have d2:=ai bZ.out g2;rw[Nat.mul_one]at d1 d2;have yJ:=aa (fun W (h:Below w.heap.size w W)=>L8 v1 v2 x y W (h1.up up_int h) (h2.up up_int h));clear h1 h2 g1 g2
    go_wp2_with fail
    go_still_tail 10,(by kernel_rfl)
    go_wp2_with fail
    refine aL (fun W=>Below wr.heap.size wr W) (Below.drew (Below.refl _ _)) (fun W5 hW5=>?_);refine(yJ.out W5 (ae bZ.out hW5)).mono ?_;rintro e w6 ⟨rfl,gx⟩;have lO:=aa (ae aR.out (ae hW5 gx));clear hW5 gx d1 d2 tA tC yJ;cases cO:decide (x=y) with
    | true=>
     have nA:=aa (of_decide_eq_true cO);clear cO
     go_wp2_with fail
     go_roundw
     case rel=>exact⟨k+1,by omega,by go_num,lO.out,aT (p:=fun j=>ax.getD j []=ay.getD j []) H.out (by rw[pV.out,rg.out];exact nA.out)⟩
     case measure=>simp[intOf];omega
    | false=>
     have HR:=aa (qm.out k (by rw[HN.out];exact az) (by rw[pV.out,rg.out];exact of_decide_eq_false cO));clear cO
     go_wp2_with fail
     go_ret
     exact⟨aN (by rw[HR.out]),ae cM.out lO.out⟩
   ·obtain rfl:k=n:=by omega
    have HF:∀ j,j<ax.length->ax.getD j []=ay.getD j []:=fun j hj=>H.out j (by have:=HN.out;omega)
    have HR:Hid (r=true):=aa (gU.out ⟨sJ.out,by first|rfl|trivial,by rw[HN.out,HM.out],HF⟩);clear HF
    go_wp2_with fail
    go_ret
    exact⟨aN (by rw[HR.out]),bZ.out⟩
theorem Q8(d:Nat) (a:Mv) (w:World):(Op.equalIn (d+5) 143 a.v a.v).run Tryz.prog w=.ok true w:=by
 have hS:Tryz.prog.underlying 143=some (.struct (Tryz.prog.fieldsOf 143)):=by kernel_rfl
 have hp:Tryz.prog.stoodInHeld 143=false:=by kernel_rfl
 rw[run_equalIn_struct w (d+4) 143 _ _ hS hp];have ag:=Tryz.isAgg3;have ah:=Tryz.isAgg141;have zh:=Tryz.sizeOf141;have u3:=Tryz.underlying3;have hg:=Dj d a.r a.r w;simp only[Program.fieldsOf,Tryz.underlying143];simp[Op.eqFields,part,ag,ah,zh,run_equalIn_int w (d+3) 3 _ .i64 _ _ u3,hg]
theorem UR(a:Mv) (w:World):(binOp .neq 143 a.v a.v).run Tryz.prog w=.ok (.bool false) w:=by
 rw[run_neq_struct,Q8 9995];rfl
theorem Ra(n:Int) (l:List (List Mv)) (va vb:Value) (w:World) (ha:bk w va l) (hb:bk w vb l) :
  Calls Tryz.prog 182 #[.agg #[.int .i64 n,va],.agg #[.int .i64 n,vb]] w fun e w'=>e=.returned (.bool true)/\Below w.heap.size w w':=by
 obtain⟨pa,ca,rfl,la1,la2,ea⟩:=ha.at;obtain⟨pb,cb,rfl,lb1,lb2,eb⟩:=hb.at;have EA:=aa ea;have EB:=aa eb;clear ha hb ea eb;obtain⟨m,hm⟩:∃ m,l.length=m:=⟨_,rfl⟩;have HM:=aa hm;rw[hm]at la1 la2 lb1 lb2 ⊢;clear hm;have K4:(n != n)=false:=by simp
 have hd:((m:Int) != (m:Int))=false:=by simp
 go_enter Tryz.func182,Tryz.ntmps182
 go_wp2_with fail
 refine bj (fun W=>Below w.heap.size w W/\W.heap[w.heap.size]?=some (.cells #[.int .i64 n,.slice pa m ca] 27)/\W.heap[w.heap.size+1]?=some (.cells #[.int .i64 n,.slice pb m cb] 27)) ⟨by go_grown,am _ (ak _ _),by have h:=ak (w.alloc (.cells #[.int .i64 n,.slice pa m ca] 27)) (.cells #[.int .i64 n,.slice pb m cb] 27);simpa using h⟩ (fun W0 aW=>?_);obtain⟨aC,br,iB⟩:=aW;have cM:=aa aC;have gT:=aa br;have mC:=aa iB;clear aC br iB
 go_loopw [5] (fun i wr=>∃ k:Nat,k<=m/\i=.int .i64 k/\Below W0.heap.size W0 wr) (fun i _=>m - (intOf i).toNat)
 case atStart=>exact⟨0,by omega,rfl,Below.refl _ _⟩
 case round=>
  obtain⟨k,hk,rfl,aq⟩:=hrel;have aR:=aa aq;have bZ:=aa (ae cM.out aq);clear aq;have tA:=ab (af aR.out gT.out);by_cases az:k<m
  ·obtain⟨b1,o1,rfl,v1,g1,h1⟩:=EA.out k (by rw[HM.out];exact az)
   obtain⟨b2,o2,rfl,v2,g2,h2⟩:=EB.out k (by rw[HM.out];exact az);generalize l[k]'(by rw[HM.out];exact az)=row at h1 h2;obtain⟨p1,q1,rfl,x1,y1,e1⟩:=h1.at;obtain⟨p2,q2,rfl,x2,y2,e2⟩:=h2.at;have E1:=aa e1;have E2:=aa e2;obtain⟨r,hr⟩:∃ r,row.length=r:=⟨_,rfl⟩;have HR:=aa hr;rw[Nat.mul_one]at g1 g2;rw[hr]at x1 y1 x2 y2 g1 g2;clear h1 h2 e1 e2 hr;have G1:=aa g1;have G2:=aa g2;have hdr:((r:Int) != (r:Int))=false:=by simp
   have f1:∀ z:ExtW wr,z.val.cell? ⟨b1,o1+k,none⟩=_:=fun z=>z.cell (ai bZ.out g1)
   have f2:∀ z:ExtW wr,z.val.cell? ⟨b2,o2+k,none⟩=_:=fun z=>z.cell (ai bZ.out g2)
   have tA2:∀ z:ExtW wr,z.val.cell? ⟨w.heap.size,1,none⟩=some (.slice (some ⟨b1,o1,none⟩) m ca):=fun z=>z.cell (by rw[ab (af aR.out gT.out)];rfl)
   have tC2:∀ z:ExtW wr,z.val.cell? ⟨w.heap.size+1,1,none⟩=some (.slice (some ⟨b2,o2,none⟩) m cb):=fun z=>z.cell (by rw[ab (af aR.out mC.out)];rfl)
   clear g1 g2
   go_wp2_with fail
   refine aB (by kernel_rfl) (by kernel_rfl) ?_
   repeat (go_big_quiet_step (fail))
   refine wpQuiet_nil ?_;rintro _ ⟨xq,rfl⟩;have jx:=aa (ae aR.out xq.ext);generalize xq.val=wq at jx ⊢;clear f1 f2 tA2 tC2 tA
   go_wp2_with fail
   obtain⟨wrA,lB⟩:∃ x,x=wr:=⟨_,rfl⟩;subst lB
   go_loopw [6] (fun i wr=>∃ j:Nat,j<=r/\i=.int .i64 j/\Below W0.heap.size W0 wr) (fun i _=>r - (intOf i).toNat)
   case atStart=>exact⟨0,by omega,rfl,jx.out⟩
   case round=>
    obtain⟨i,hi,rfl,kw⟩:=hrel;have C7:=aa kw;have eo:=aa (ae cM.out kw);clear kw;have tA:=ab (af C7.out gT.out);have t1:=ai eo.out G1.out;by_cases Pv:i<r
    ·obtain⟨b3,o3,rfl,m1⟩:=E1.out i (by rw[HR.out];exact Pv)
     obtain⟨b4,o4,rfl,m2⟩:=E2.out i (by rw[HR.out];exact Pv);generalize row[i]'(by rw[HR.out];exact Pv)=x at m1 m2;have c0:∀ z:ExtW wr,z.val.cell? ⟨b3,o3+i * 8,none⟩=_:=fun z=>z.cell (ai eo.out m1.1.1.1)
     have c1:∀ z:ExtW wr,z.val.cell? ⟨b3,o3+i * 8+1,none⟩=_:=fun z=>z.cell (ai eo.out m1.1.2.1.1)
     have c2:∀ z:ExtW wr,z.val.cell? ⟨b3,o3+i * 8+2,none⟩=_:=fun z=>z.cell (ai eo.out m1.1.2.2.1.1)
     have c3:∀ z:ExtW wr,z.val.cell? ⟨b3,o3+i * 8+3,none⟩=_:=fun z=>z.cell (ai eo.out m1.1.2.2.2.1.1)
     have c4:∀ z:ExtW wr,z.val.cell? ⟨b3,o3+i * 8+4,none⟩=_:=fun z=>z.cell (ai eo.out m1.1.2.2.2.2.1.1)
     have c5:∀ z:ExtW wr,z.val.cell? ⟨b3,o3+i * 8+5,none⟩=_:=fun z=>z.cell (ai eo.out m1.1.2.2.2.2.2.1.1)
     have c6:∀ z:ExtW wr,z.val.cell? ⟨b3,o3+i * 8+6,none⟩=_:=fun z=>z.cell (ai eo.out m1.1.2.2.2.2.2.2.1)
     have c7:∀ z:ExtW wr,z.val.cell? ⟨b3,o3+i * 8+7,none⟩=_:=fun z=>z.cell (ai eo.out m1.2.1)
     have d0:∀ z:ExtW wr,z.val.cell? ⟨b4,o4+i * 8,none⟩=_:=fun z=>z.cell (ai eo.out m2.1.1.1)
     have d1:∀ z:ExtW wr,z.val.cell? ⟨b4,o4+i * 8+1,none⟩=_:=fun z=>z.cell (ai eo.out m2.1.2.1.1)
     have d2:∀ z:ExtW wr,z.val.cell? ⟨b4,o4+i * 8+2,none⟩=_:=fun z=>z.cell (ai eo.out m2.1.2.2.1.1)
     have d3:∀ z:ExtW wr,z.val.cell? ⟨b4,o4+i * 8+3,none⟩=_:=fun z=>z.cell (ai eo.out m2.1.2.2.2.1.1)
     have d4:∀ z:ExtW wr,z.val.cell? ⟨b4,o4+i * 8+4,none⟩=_:=fun z=>z.cell (ai eo.out m2.1.2.2.2.2.1.1)
     have d5:∀ z:ExtW wr,z.val.cell? ⟨b4,o4+i * 8+5,none⟩=_:=fun z=>z.cell (ai eo.out m2.1.2.2.2.2.2.1.1)
     have d6:∀ z:ExtW wr,z.val.cell? ⟨b4,o4+i * 8+6,none⟩=_:=fun z=>z.cell (ai eo.out m2.1.2.2.2.2.2.2.1)
     have d7:∀ z:ExtW wr,z.val.cell? ⟨b4,o4+i * 8+7,none⟩=_:=fun z=>z.cell (ai eo.out m2.2.1)
     have f1:∀ z:ExtW wr,z.val.cell? ⟨b1,o1+k,none⟩=_:=fun z=>z.cell (ai eo.out G1.out)
     have f2:∀ z:ExtW wr,z.val.cell? ⟨b2,o2+k,none⟩=_:=fun z=>z.cell (ai eo.out G2.out)
     have tA2:∀ z:ExtW wr,z.val.cell? ⟨w.heap.size,1,none⟩=some (.slice (some ⟨b1,o1,none⟩) m ca):=fun z=>z.cell (by rw[ab (af C7.out gT.out)];rfl)
     have tC2:∀ z:ExtW wr,z.val.cell? ⟨w.heap.size+1,1,none⟩=some (.slice (some ⟨b2,o2,none⟩) m cb):=fun z=>z.cell (by rw[ab (af C7.out mC.out)];rfl)
     have jK:=fun w=>UR x w
     clear m1 m2
     go_wp2_with fail
     refine aB (by kernel_rfl) (by kernel_rfl) ?_
     repeat (go_big_quiet_step (fail))
     refine wpQuiet_nil ?_;rintro _ ⟨xq,rfl⟩;clear c0 c1 c2 c3 c4 c5 c6 c7 d0 d1 d2 d3 d4 d5 d6 d7 f1 f2 tA2 tC2 jK tA t1
     go_wp2_with fail
     go_roundw
     case rel=>exact⟨i+1,by omega,by go_num,ae C7.out xq.ext⟩
     case measure=>simp[intOf];omega
    ·obtain rfl:i=r:=by omega
     go_wp2_with fail
     go_roundw
     case rel=>exact⟨k+1,by omega,by go_num,C7.out⟩
     case measure=>simp[intOf];omega
  ·obtain rfl:k=m:=by omega
   go_wp2_with fail
   go_ret
   exact⟨rfl,bZ.out⟩
theorem EO(va vb:Value) (l:List (List Int)) (w:World) (ha:dR w va l) (hb:dR w vb l) :
  Calls Tryz.prog 207 #[va,vb] w fun e w'=>e=.returned (.bool true)/\Below w.heap.size w w':=by
 obtain⟨pa,ca,rfl,la1,la2,ea⟩:=ha.at;obtain⟨pb,cb,rfl,lb1,lb2,eb⟩:=hb.at;have EA:=aa ea;have EB:=aa eb;clear ha hb ea eb;obtain⟨n,hn⟩:∃ n,l.length=n:=⟨_,rfl⟩;have HN:=aa hn;rw[hn]at la1 la2 lb1 lb2 ⊢;clear hn;have hd:((n:Int) != (n:Int))=false:=by simp
 go_enter Tryz.func207,Tryz.ntmps207
 go_wp2_with fail
 go_loopw [5] (fun i wr=>∃ k:Nat,k<=n/\i=.int .i64 k/\Below w.heap.size w wr) (fun i _=>n - (intOf i).toNat)
 case atStart=>exact⟨0,by omega,rfl,Below.refl _ _⟩
 case round=>
  obtain⟨k,hk,rfl,aq⟩:=hrel;have aR:=aa aq;clear aq;by_cases az:k<n
  ·obtain⟨b1,o1,rfl,v1,g1,h1⟩:=EA.out k (by rw[HN.out];exact az)
   obtain⟨b2,o2,rfl,v2,g2,h2⟩:=EB.out k (by rw[HN.out];exact az);generalize l[k]'(by rw[HN.out];exact az)=x at h1 h2;have d1:=ai aR.out g1;have d2:=ai aR.out g2;rw[Nat.mul_one]at d1 d2;have yJ:=aa (fun W (h:Below w.heap.size w W)=>lh v1 v2 x x W (h1.up up_int h) (h2.up up_int h));rw[rG]at yJ;clear h1 h2 g1 g2
   go_wp2_with fail
   go_still_tail 8,(by kernel_rfl)
   go_wp2_with fail
   refine aL (fun W=>Below wr.heap.size wr W) (Below.drew (Below.refl _ _)) (fun W5 hW5=>?_);refine(yJ.out W5 (ae aR.out hW5)).mono ?_;rintro e w6 ⟨rfl,gx⟩;have lO:=aa (ae aR.out (ae hW5 gx));clear hW5 gx d1 d2 yJ
   go_wp2_with fail
   go_roundw
   case rel=>exact⟨k+1,by omega,by go_num,lO.out⟩
   case measure=>simp[intOf];omega
  ·obtain rfl:k=n:=by omega
   go_wp2_with fail
   go_ret
   exact⟨rfl,aR.out⟩
theorem J0(s:Sys) (hv:verifyE s=0) (vc vs vt ve vl:Value) (l:List Lk) (w:World) (hs:IsSys w s vc vs vt ve) (hN:movesN s.prob.a.states<1099511627776) (hl:aU w vl l) :
  Calls Tryz.prog 95 #[.agg (bE s.prob vc vs s.n vt ve),vl] w fun e w'=>e=.returned (.int .i64 (walkE s l))/\Below w.heap.size w w':=by
 have HS:=aa hs;have HL:=aa hl;obtain⟨⟨pc,cc,rfl⟩,⟨ps,cs,rfl⟩,⟨pt,ct,rfl⟩,⟨pe,ce,rfl⟩⟩:=bg hs;obtain⟨pl,cl,rfl,lt1,lt2,el⟩:=hl.at;have EL:=aa el;clear hs hl el;have HC:=aa (fun W (hb:Below w.heap.size w W)=>DJ s _ _ _ _ W (HS.out.up hb) hN);have di:=aa (jh hv);have HV:=aa hv;have ic:=di.out.n.2.1;have iA:Hid (l.length=0->walkE s l=16):=aa fun h=>by unfold walkE;rw[if_pos h]
 have gc:Hid (0<l.length->4096<l.length->walkE s l=5):=aa fun h h1=>by unfold walkE;rw[if_neg (by omega),if_pos h1]
 have cD:Hid (0<l.length->l.length<=4096->walkE s l=a8 l.length (linkE s l)):=aa fun h h1=>by unfold walkE;rw[if_neg (by omega),if_neg (by omega)]
 have As:Hid (∀ k,k<l.length->linkE s l k=if (l.getD k default).x<0\/(eS s:Int)<=(l.getD k default).x then 6 else if k=0 then(if (l.getD k default).p≠-1 then 3 else 0) else if (l.getD k default).p<0\/(nS s:Int)<=(l.getD k default).p then 2 else if linkB s (l.getD k default).p.toNat (l.getD (k - 1) default).x.toNat (l.getD k default).x.toNat then 0 else 18):=aa fun k _=>rfl
 have RM:Hid (∀ k,linkE s l k=0->0<=(l.getD k default).x/\(l.getD k default).x.toNat<eS s):=aa fun k h=>⟨((mW s l k).1 h).1,((mW s l k).1 h).2.1⟩
 clear hv
 go_enter Tryz.func95,Tryz.ntmps95
 go_wp2_with fail
 refine aL (fun W=>Below w.heap.size w W) (by go_grown) (fun W0 aC=>?_);refine(HC.out W0 aC).mono ?_;rintro e w1 ⟨v,rfl,aG,_,h2⟩;obtain⟨B,rfl,hF,-⟩:=h2 HV.out;rw[HV.out];have db:=ae aC aG;have eP:=aa db;have HF:=aa hF;clear aC aG h2 hF db HC;by_cases h0:l.length=0
 ·have HR:=aa (iA.out h0)
  have hd:(((l.length:Nat):Int) == 0)=true:=by simp[h0]
  clear h0
  go_wp2_with fail
  go_ret
  exact⟨aA (by rw[HR.out]),eP.out⟩
 have hd:(((l.length:Nat):Int) == 0)=false:=beq_eq_false_iff_ne.2 (by omega);have SB:0<l.length:=by omega
 clear h0;by_cases h1:4096<l.length
 ·have HR:=aa (gc.out SB h1)
  go_wp2_with fail
  go_ret
  exact⟨aA (by rw[HR.out]),eP.out⟩
 have cT:=aa (cD.out SB (by omega))
 go_wp2_with fail
 clear hd h1 SB iA gc cD
 go_loopw [28] (fun i wr=>∃ k:Nat,k<=l.length/\i=.int .i64 k/\Below w.heap.size w wr/\FinAt wr B s/\∀ j,j<k->linkE s l j=0) (fun i _=>l.length - (intOf i).toNat)
 case atStart=>exact⟨0,by omega,rfl,eP.out,HF.out,fun j hj=>by omega⟩
 case round=>
  clear eP HF;obtain⟨k,hk,rfl,aq,hF,hz⟩:=hrel;have aR:=aa aq;have HF:=aa hF;have HZ:=aa hz;clear hF hz;by_cases az:k<l.length
  ·obtain⟨b1,o1,rfl,h1⟩:=EL.out k az
   have c1:=ai aq h1.1.1;have c2:=ai aq h1.2.1;have HE:=aa (As.out k az);have yR:Hid (∀ v:Int,linkE s l k=v->v≠0->walkE s l=v):=aa fun v h1 h2=>by rw[cT.out];exact(bH k v az HZ.out h1 h2).symm
   have hr:l.getD k default=l[k]:=ap default az;rw[hr]at HE;clear hr;generalize l[k]=y at c1 c2 HE h1;obtain⟨x,p⟩:=y;dsimp only at c1 c2 HE;clear h1 aq
   go_wp2_with fail
   clear c1 c2;refine aL (fun W=>Below w.heap.size w W/\FinAt W B s/\W.heap[wr.heap.size]?=some (.cells #[.int .i64 x,.int .i64 p] 75)) ⟨aR.out.alloc aR.out.size _,HF.out.up (by go_grown),ak _ _⟩ (fun W2 eF=>?_);obtain⟨aV,VR,hX2⟩:=eF;refine(B3 s B x W2 VR).mono ?_;rintro e w3 ⟨rfl,bA⟩;have dP:=aa (ae aV bA);have Jk:=aa (VR.up bA);have iW:=aa (af bA hX2);generalize wr.heap.size=g at iW;have tb:=ab iW.out;clear aV VR hX2 bA;by_cases hx:0<=x/\x<(eS s:Int)
   ·have hd:(decide (0<=x)&&decide (x<(eS s:Int)))=true:=by simp[hx]
    rw[hd];clear hd;by_cases eT:k=0
    ·subst eT
     by_cases hp:p=-1
     ·subst hp
      have dz:Hid (linkE s l 0=0):=aa (by rw[HE.out,if_neg (by omega)];simp);clear hx
      go_wp2_with fail
      go_roundw
      case rel=>exact⟨1,by omega,by go_num,dP.out,Jk.out,aT HZ.out dz.out⟩
      case measure=>simp[intOf];omega
     ·have PV:(p != -1)=true:=by simpa using hp
      have HR:=aa (yR.out 3 (by rw[HE.out,if_neg (by omega),if_pos rfl,if_pos hp]) (by decide));clear hx hp
      go_wp2_with fail
      go_ret
      exact⟨aA (by rw[HR.out]),dP.out⟩
    ·obtain⟨j,hj⟩:∃ j,k=j+1:=⟨k - 1,by omega⟩
     have gR:j<l.length:=by omega
     have jI:((k:Int) == 0)=false:=by simp;omega
     have hX:=RM.out j (HZ.out j (by omega));have kx:Hid (linkE s l k=if p<0\/(nS s:Int)<=p then 2 else if linkB s p.toNat (l.getD j default).x.toNat x.toNat then 0 else 18):=aa (by rw[HE.out,if_neg (by omega),if_neg eT,show k - 1=j by omega]);have jn:IntKind.i64.wrap ((k:Int) - 1)=(j:Int):=by rw[hj,IntWalk.i64_in _ (by omega)];omega
     obtain⟨b2,o2,e2,h2⟩:=EL.out j gR;cases e2;have d1:=ai dP.out h2.1.1;rw[<-ap default gR]at d1;obtain⟨e,he⟩:∃ e:Nat,(l.getD j default).x=e:=⟨(l.getD j default).x.toNat,by omega⟩;rw[he]at d1 kx hX;obtain⟨f,hf⟩:∃ f:Nat,x=f:=⟨x.toNat,by omega⟩;subst hf;simp only[Int.toNat_natCast]at kx hX;have hfe:f<eS s:=by omega
     clear he h2 eT hj HE;by_cases mJ:p<0
     ·have PO:decide (p<0)=true:=decide_eq_true mJ
      have HR:=aa (yR.out 2 (by rw[kx.out,if_pos (.inl mJ)]) (by decide));clear hx hX d1 jn mJ;have tb1:∀ z:ExtW w3,∀ o,z.val.cell? ⟨g,o,none⟩=_:=fun z=>ab (af z.ext iW.out)
      go_wp2_with fail
      refine aB (by kernel_rfl) (by kernel_rfl) ?_
      repeat (go_big_quiet_step (fail))
      refine wpQuiet_nil ?_;rintro _ ⟨xq,rfl⟩;clear tb tb1
      go_wp2_with fail
      go_ret
      exact⟨aA (by rw[HR.out]),ae dP.out xq.ext⟩
     have PO:decide (p<0)=false:=decide_eq_false mJ;obtain⟨q,rfl⟩:∃ q:Nat,p=q:=⟨p.toNat,by omega⟩;simp only[Int.toNat_natCast]at kx;obtain⟨pl2,cl2,hB,_⟩:=Jk.out.open;have tb1:∀ z:ExtW w3,∀ o,z.val.cell? ⟨g,o,none⟩=_:=fun z=>ab (af z.ext iW.out)
     have tb2:∀ z:ExtW w3,z.val.cell? ⟨B,0,none⟩=some (.int .i64 (nS s)):=fun z=>(ab (af z.ext hB) 0).trans rfl
     clear hB;by_cases hq:nS s<=q
     ·have Wn:decide ((nS s:Int)<=(q:Int))=true:=decide_eq_true (by omega)
      have rl:decide (nS s<=q)=true:=decide_eq_true hq;have HR:=aa (yR.out 2 (by rw[kx.out,if_pos (.inr (by omega))]) (by decide));clear hx hX d1 jn mJ hq
      go_wp2_with fail
      refine aB (by kernel_rfl) (by kernel_rfl) ?_
      repeat (go_big_quiet_step (fail))
      refine wpQuiet_nil ?_;rintro _ ⟨xq,rfl⟩;clear tb tb1 tb2
      go_wp2_with fail
      go_ret
      exact⟨aA (by rw[HR.out]),ae dP.out xq.ext⟩
     have Wn:decide ((nS s:Int)<=(q:Int))=false:=decide_eq_false (by omega);have rl:decide (nS s<=q)=false:=decide_eq_false hq;have uZ:Hid (linkE s l k=if linkB s q e f then 0 else 18):=aa (by rw[kx.out,if_neg (by omega)]);obtain⟨set,kT⟩:∃ set,maskN (fun p=>linkB s p e f) (nS s)=set:=⟨_,rfl⟩;have gq:hasB (set:Int) q=linkB s q e f:=by rw[<-kT,jg,decide_eq_true (by omega),Bool.true_and]
     have lE:=rI (set:Int) q;rw[gq]at lE;clear gq;have hq30:q<=30:=by omega
     clear hx mJ hq
     go_wp2_with fail
     refine aB (by kernel_rfl) (by kernel_rfl) ?_
     repeat (go_big_quiet_step (fail))
     refine wpQuiet_nil ?_;rintro _ ⟨xq,rfl⟩;have jx:=aa (ae dP.out xq.ext);have FC:=aa (Jk.out.up xq.ext);have HXQ:=aa (af xq.ext iW.out);have d2:∀ z:ExtW xq.val,z.val.cell? ⟨b1,o1+j * 2,none⟩=_:=fun z=>ai (ae xq.ext z.ext) d1
     have tq1:∀ z:ExtW xq.val,∀ o,z.val.cell? ⟨g,o,none⟩=_:=fun z=>ab (af z.ext HXQ.out)
     have bO:=aa (show ∀ y:ExtW xq.val,Calls Tryz.prog 146 #[.pointer (some ⟨B,0,none⟩),.int .i64 (e:Int),.int .i64 (f:Int)] y.val fun r w''=>r=.returned (.int .i64 (set:Nat))/\∃ z:ExtW xq.val,w''=z.val from fun y=>Calls.ext_of ((Ad s di.out B e f hX.2 hfe y.val (FC.out.up y.ext)).mono fun r w'' ⟨h1,h2⟩=>⟨by rw[h1,kT],h2 ▸ Below.refl _ _⟩));clear tb tb1 tb2 d1 kT;cases hb:linkB s q e f with
     | true=>
      have dz:Hid (linkE s l k=0):=aa (by rw[uZ.out,hb];rfl);rw[hb]at lE;clear hb
      go_wp2_with fail
      refine aB (by kernel_rfl) (by kernel_rfl) ?_
      repeat (go_big_quiet_step ((go_at_call 146;with_reducible exact bO.out _)))
      refine wpQuiet_nil ?_;rintro _ ⟨x2,rfl⟩;clear d2 tq1 lE jn
      go_wp2_with fail
      go_roundw
      case rel=>exact⟨k+1,by omega,by go_num,ae jx.out x2.ext,FC.out.up x2.ext,aT HZ.out dz.out⟩
      case measure=>simp[intOf];omega
     | false=>
      have HR:=aa (yR.out 18 (by rw[uZ.out,hb];rfl) (by decide));rw[hb]at lE;clear hb
      go_wp2_with fail
      refine aB (by kernel_rfl) (by kernel_rfl) ?_
      repeat (go_big_quiet_step ((go_at_call 146;with_reducible exact bO.out _)))
      refine wpQuiet_nil ?_;rintro _ ⟨x2,rfl⟩;clear d2 tq1 lE jn
      go_wp2_with fail
      go_ret
      exact⟨aA (by rw[HR.out]),ae jx.out x2.ext⟩
   ·have hd:(decide (0<=x)&&decide (x<(eS s:Int)))=false:=by
     rw[Bool.and_eq_false_iff];simp only[decide_eq_false_iff_not];omega
    rw[hd];have HR:=aa (yR.out 6 (by rw[HE.out,if_pos (by omega)]) (by decide));clear hx hd
    go_wp2_with fail
    go_ret
    exact⟨aA (by rw[HR.out]),dP.out⟩
  ·have HR:Hid (walkE s l=0):=aa (by rw[cT.out];exact cH _ _ fun j hj=>HZ.out j (by omega))
   go_wp2_with fail
   go_ret
   exact⟨aA (by rw[HR.out]),aq⟩
theorem J1(l:List Lk) (h0:∀ y∈l,0<=y.x) (bx:Nat) (vl:Value) (w0:World) (hl:aU w0 vl l) (w:World) (aC:Below w0.heap.size w0 w) (hx:w.cell? ⟨bx,0,none⟩=some vl) :
  rH Tryz.prog 98 #[.pointer (some ⟨bx,0,none⟩)] (vX (bY l)) l.length (fun k=>k<w0.heap.size\/k=bx) w:=by
 intro yl J Jx W hW hJ nV hY nC;have kF:=fj hx;have mn:=aC.size;obtain⟨pl,cl,rfl,lt1,lt2,el⟩:=hl.at;have eT:gj (fun k=>k<w0.heap.size\/k=bx) w W:=fun k hk=>hW.block k (by rcases hk with hk|rfl<;>first|omega|assumption)
 have tx:=(eT.cell (.inr rfl)).trans hx;have sK:=aa eT;have HSZ:=aa hW.size
 have Bd:Hid (∀ k (hk:k<l.length),vX (bY l) k=#[.int .i64 (l[k]).x]):=aa (fun k hk=>by
  unfold vX bY;have h1:=h0 l[k] (List.getElem_mem hk);rw[ap 0 (by simpa using hk),List.getElem_map];congr 2;congr 1
  omega)
 have EL:Hid (∀ (V:World),gj (fun k=>k<w0.heap.size\/k=bx) w V->∀ i (hi:i<l.length),∃ b o,pl=some ⟨b,o,none⟩/\V.cell? ⟨b,o+i * 2,none⟩=some (.int .i64 (l[i]).x)/\V.cell? ⟨b,o+i * 2+1,none⟩=some (.int .i64 (l[i]).p)):=aa (fun V hV i hi=>by
  obtain⟨b,o,e1,c1,c2⟩:=el i hi;have az:b<w0.heap.size:=fj c1.1
  have sX:∀ o',V.cell? ⟨b,o',none⟩=w0.cell? ⟨b,o',none⟩:=fun o'=>by
   rw[hV.cell (.inl az)];unfold World.cell?;rw[aC.block b az]
  exact⟨b,o,e1,(sX _).trans c1.1,(sX _).trans c2.1⟩)
 have HJ:=aa hJ;have Jh:=aa nV;have HY:=aa hY;have H0:=aa nC;clear hx aC eT hJ nV hY nC hl el hW h0;refine(callsIn_wide (n:=0)).1 ?_;refine callsIn_of_wp Tryz.func98 rfl trivial ?_ rfl;simp only[Tryz.ntmps98,List.size_toArray,List.length_cons,List.length_nil,Nat.reduceAdd,Nat.reduceSub,Array.replicate_succ,Array.replicate_zero,List.push_toArray,List.append_toArray,List.nil_append,List.cons_append]
 gi_wp2
 clear tx
 gi_loopw [7] (fun i wr=>∃ k:Nat,k<=l.length/\i=.int .i64 k/\w.heap.size<=wr.heap.size/\gj (fun k=>k<w0.heap.size\/k=bx) w wr/\J k wr) (fun i _=>l.length - (intOf i).toNat)
 case atStart=>exact⟨0,by omega,rfl,HSZ.out,sK.out,H0.out⟩
 case round=>
  obtain⟨k,hk,rfl,eK,fM,hj⟩:=hrel;have jP:=aa fM;have iX:=aa hj;clear hj;by_cases az:k<l.length
  ·obtain⟨b1,o1,rfl,c1,c2⟩:=EL.out wr fM k az
   have HE:=aa (Bd.out k az);generalize l[k]=y at c1 c2 HE;obtain⟨x,p⟩:=y;dsimp only at c1 c2 HE;have hja:=HJ.out k wr (wr.alloc (.cells #[.int .i64 x,.int .i64 p] 75)) iX.out (by go_grown);have HKA:Hid (gj (fun k=>k<w0.heap.size\/k=bx) wr (wr.alloc (.cells #[.int .i64 x,.int .i64 p] 75))):=aa fun q hq=>Below.heap_alloc wr _ q (by rcases hq with hq|rfl<;>omega)
   obtain⟨fn,tmps,assign,body,n',hR⟩:=HY.out k _ az hja;rw[HE.out]at n';have HR:=aa hR;clear hR hja fM
   gi_wp2
   refine⟨rfl,HR.out.mono ?_⟩;rintro e W3 (⟨rfl,Cn,Cm,hZ⟩|⟨rfl,rB⟩)
   ·have O8:w.heap.size<=W3.heap.size:=by simp at Cm;omega
    gi_wp2
    go_roundw
    case rel=>exact⟨k+1,by omega,by go_num,O8,gj.trans (gj.trans jP.out HKA.out) hZ,Cn⟩
    case measure=>simp[intOf];omega
   ·gi_wp2
    refine bodyPost_ret (results_none rfl _ _ _) rfl ?_;exact⟨⟨_,rfl⟩,.inr ⟨_,by omega,rB⟩⟩
  ·obtain rfl:k=l.length:=by omega
   clear fM
   gi_wp2
   go_end0
   exact⟨⟨_,rfl⟩,.inl iX.out⟩
theorem EP{s:Sys} (hs:SysOk s) {l:List Lk} (hx:∀ y∈l,y.x.toNat<eS s):contraB s l=decide (comM s (bY l)=0):=by
 unfold contraB;rw[decide_eq_decide];exact NC hs fun e he=>by obtain⟨y,hy,rfl⟩:=List.mem_map.1 he;exact hx y hy
theorem qk(s:Sys) (hs:SysOk s) (B:Nat) (vl:Value) (l:List Lk) (hx:∀ y∈l,0<=y.x/\y.x.toNat<eS s) (w:World) (fO:ScAt w B s) (hl:aU w vl l) :
  Calls Tryz.prog 56 #[.pointer (some ⟨B,0,none⟩),vl] w fun r w'=>r=.returned (.bool (dB s l))/\Below w.heap.size w w':=by
 have kn:=aa fO;have HL:=aa hl;obtain⟨pl,cl,rfl,lt1,lt2,el⟩:=hl.at;have AL:Hid ((bY l).length=l.length):=aa (by simp[bY])
 have qz:=aa (fun W (hb:Below w.heap.size w W) (hX:W.heap[w.heap.size]?=some (.cells #[.slice pl l.length cl] 54))=>Ca s B 98 #[.pointer (some ⟨w.heap.size,0,none⟩)] (enters_of Tryz.func98 (by kernel_rfl) rfl) (bY l) (fun e he=>by obtain⟨y,hy,rfl⟩:=List.mem_map.1 he;exact(hx y hy).2) (fun k=>k<w.heap.size\/k=w.heap.size) W (kn.out.up hb) (fun k hk=>by have:=ar hX;rcases hk with hk|rfl<;>omega) (fun V hV=>by
  rw[AL.out]
  exact J1 l (fun y hy=>(hx y hy).1) w.heap.size _ w HL.out V (ae hb hV) (by rw[ab (af hV hX)];rfl)))
 have gU:=aa (EP hs (fun y hy=>(hx y hy).2));have HG:Hid (dB s l=(decide (0<l.length)&&contraB s l)):=aa rfl;rw[gU.out]at HG;generalize comM s (bY l)=c at HG qz;clear hl el hx fO gU;by_cases h0:0<l.length
 ·have hd:decide ((0:Int)<(l.length:Int))=true:=decide_eq_true (by omega)
  have fS:decide (0<l.length)=true:=decide_eq_true h0;rw[fS,Bool.true_and]at HG
  go_enter Tryz.func56,Tryz.ntmps56
  go_wp2_with fail
  refine aL (fun W=>Below w.heap.size w W/\W.heap[w.heap.size]?=some (.cells #[.slice pl l.length cl] 54)) ⟨by go_grown,ak _ _⟩ (fun W0 aW=>?_);obtain⟨aC,uQ⟩:=aW;refine(qz.out W0 aC uQ).mono ?_;rintro e w1 ⟨rfl,aG⟩;have nJ:=aa (ae aC aG);clear aC aG uQ qz
  go_wp2_with fail
  go_ret
  refine⟨aN ?_,nJ.out⟩;rw[HG.out,Bool.eq_iff_iff];simp
 ·have hd:decide ((0:Int)<(l.length:Int))=false:=decide_eq_false (by omega)
  have fS:decide (0<l.length)=false:=decide_eq_false h0;rw[fS,Bool.false_and]at HG
  go_enter Tryz.func56,Tryz.ntmps56
  go_wp2_with fail
  go_ret
  exact⟨aN (by rw[HG.out]),by go_grown⟩
theorem DM{s:Sys} {l:List Lk} (h:walkE s l=0):∀ y∈l,0<=y.x/\y.x.toNat<eS s:=fun y hy=>by
 obtain⟨i,hi,rfl⟩:=List.getElem_of_mem hy;have h1:=((qM s l).1 h).2.2 i hi;have h2:=(mW s l i).1 h1;rw[ap default hi]at h2;exact⟨h2.1,h2.2.1⟩
theorem ra{s:Sys} (h:readyE s=0):verifyE s=0:=by
 unfold readyE at h;split at h
 ·rename_i h1;exact absurd h h1
 ·omega
def XX(s:Sys) (e:Int) (r:Ending) (w:World):Prop:=∃ v,r=.returned (.tuple #[v,.int .i64 e])/\(e=0->∃ B,v=.pointer (some ⟨B,0,none⟩)/\ScAt w B s)/\(e≠0->v=.pointer none)
theorem ym(s:Sys) (hE:eS s<=256) (vc vs vt ve vw:Value) (c:Ct) (pv:Option Addr) (cv:Nat) (pl:Option Addr) (cl:Nat) (pp:Option Addr) (cp:Nat) (w:World) (hs:IsSys w s vc vs vt ve) (hN:movesN s.prob.a.states<1099511627776) (hw:aU w vw c.walk) :
  Calls Tryz.prog 54 #[.agg (bE s.prob vc vs s.n vt ve),.agg #[.int .i64 c.kind,vw,.slice pv c.nv cv,.slice pl c.nl cl,.slice pp c.np cp]] w fun r w'=>XX s (certE s c) r w'/\Below w.heap.size w w':=by
 have HS:=aa hs;obtain⟨⟨pc,cc,rfl⟩,⟨ps,cs,rfl⟩,⟨pt,ct,rfl⟩,⟨pe,ce,rfl⟩⟩:=bg hs;obtain⟨pw,cw,rfl,lw1,lw2,_⟩:=hw.at;have SQ:=aa hw;clear hs hw;have HC:=aa (fun W (hb:Below w.heap.size w W)=>nf s hE _ _ _ _ W (HS.out.up hb) hN);have O7:=aa (fun (hv:verifyE s=0) W (hb:Below w.heap.size w W)=>J0 s hv _ _ _ _ _ c.walk W (HS.out.up hb) hN (SQ.out.up up_link hb));have cX:Hid (readyE s≠0->certE s c=readyE s):=aa fun h=>by unfold certE;rw[if_pos h]
 have dE:Hid (readyE s=0->c.kind≠1->certE s c=1):=aa fun h h1=>by unfold certE;rw[if_neg (by omega)];unfold certR;rw[if_pos h1]
 have fZ:Hid (readyE s=0->c.kind=1->(0<c.nv\/0<c.nl\/0<c.np)->certE s c=3):=aa fun h h1 h2=>by unfold certE;rw[if_neg (by omega)];unfold certR;rw[if_neg (by omega),if_pos h2]
 have so:Hid (readyE s=0->c.kind=1->¬ (0<c.nv\/0<c.nl\/0<c.np)->walkE s c.walk≠0->certE s c=walkE s c.walk):=aa fun h h1 h2 h3=>by unfold certE;rw[if_neg (by omega)];unfold certR;rw[if_neg (by omega),if_neg h2,if_pos h3]
 have xb:Hid (readyE s=0->c.kind=1->¬ (0<c.nv\/0<c.nl\/0<c.np)->walkE s c.walk=0->certE s c=if dB s c.walk then 0 else 18):=aa fun h h1 h2 h3=>by
  have h4:=((qM s c.walk).1 h3).1;unfold certE;rw[if_neg (by omega)];unfold certR;rw[if_neg (by omega),if_neg h2,if_neg (by omega)];unfold dB;rw[decide_eq_true h4,Bool.true_and]
 have lq:=aa (fun (hs:SysOk s) (h:walkE s c.walk=0) B W (fO:ScAt W B s) (hl:aU W (.slice pw c.walk.length cw) c.walk)=>qk s hs B _ c.walk (DM h) W fO hl);have sH:Hid (readyE s=0->verifyE s=0):=aa ra;generalize certE s c=ce0 at cX dE fZ so xb ⊢;obtain⟨re,mG⟩:∃ re,readyE s=re:=⟨_,rfl⟩;rw[mG]at cX dE fZ so xb HC sH;obtain⟨kd,wk,nv,nl,np⟩:=c;dsimp only at *;clear mG
 go_enter Tryz.func54,Tryz.ntmps54
 go_wp2_with fail
 refine aL (fun W=>Below w.heap.size w W/\(∃ q,W.heap[w.heap.size]?=some (.cells q 35)/\q=bE s.prob (.slice pc s.prob.t.cases.length cc) (.slice ps s.prob.a.states.length cs) s.n (.slice pt s.tab.length ct) (.slice pe s.ex.length ce))/\W.heap[w.heap.size+1]?=some (.cells #[.int .i64 kd,.slice pw wk.length cw,.slice pv nv cv,.slice pl nl cl,.slice pp np cp] 58)) ⟨by go_grown,⟨_,am _ (ak _ _),rfl⟩,ba _ _ _⟩ (fun W0 aW=>?_);obtain⟨aC,⟨_,br,rfl⟩,gS⟩:=aW;refine(HC.out W0 aC).mono ?_;rintro e w1 ⟨v,rfl,aG,h2,h3⟩;have bC:=aa (ae aC aG);have gm:=aa (af aG gS);have dy:=aa (af aG br);by_cases hr:re=0
 case neg=>
  have HV:=aa (cX.out hr);obtain rfl:=h2 hr;have Fl:(re != 0)=true:=by simpa using hr
  have Xb:=aa hr;clear aC aG h2 h3 hr HC gS br
  go_wp2_with fail
  go_ret2
  exact⟨⟨_,by rw[HV.out];rfl,fun h=>absurd (HV.out.symm.trans h) Xb.out,fun _=>rfl⟩,bC.out⟩
 obtain⟨B,rfl,hB,fO⟩:=h3 hr;have kn:=aa fO;have CS:=aa (sH.out hr);have di:=aa (jh CS.out);subst hr;have to:=ab gm.out;clear aC aG h2 h3 HC fO gS br;by_cases hk:kd=1
 case neg=>
  have HV:=aa (dE.out rfl hk);have uP:(kd != 1)=true:=by simpa using hk
  clear hk
  go_wp2_with fail
  go_ret2
  exact⟨⟨_,by rw[HV.out];rfl,fun h=>by have:=HV.out;omega,fun _=>rfl⟩,bC.out⟩
 have uP:(kd != 1)=false:=by simp[hk]
 have Lf:=aa hk;by_cases h1:0<nv
 ·have HV:=aa (fZ.out rfl hk (.inl h1))
  have hd:decide ((0:Int)<(nv:Int))=true:=decide_eq_true (by omega);have fS:decide (0<nv)=true:=decide_eq_true h1;clear hk h1
  go_wp2_with fail
  go_ret2
  exact⟨⟨_,by rw[HV.out];rfl,fun h=>by have:=HV.out;omega,fun _=>rfl⟩,bC.out⟩
 have e1:decide ((0:Int)<(nv:Int))=false:=decide_eq_false (by omega);have e1':decide (0<nv)=false:=decide_eq_false h1;by_cases h2:0<nl
 ·have HV:=aa (fZ.out rfl hk (.inr (.inl h2)))
  have hd:decide ((0:Int)<(nl:Int))=true:=decide_eq_true (by omega);have fS:decide (0<nl)=true:=decide_eq_true h2;clear hk h1 h2
  go_wp2_with fail
  go_ret2
  exact⟨⟨_,by rw[HV.out];rfl,fun h=>by have:=HV.out;omega,fun _=>rfl⟩,bC.out⟩
 have e2:decide ((0:Int)<(nl:Int))=false:=decide_eq_false (by omega);have e2':decide (0<nl)=false:=decide_eq_false h2;by_cases h3:0<np
 ·have HV:=aa (fZ.out rfl hk (.inr (.inr h3)))
  have hd:decide ((0:Int)<(np:Int))=true:=decide_eq_true (by omega);have fS:decide (0<np)=true:=decide_eq_true h3;clear hk h1 h2 h3
  go_wp2_with fail
  go_ret2
  exact⟨⟨_,by rw[HV.out];rfl,fun h=>by have:=HV.out;omega,fun _=>rfl⟩,bC.out⟩
 have e3:decide ((0:Int)<(np:Int))=false:=decide_eq_false (by omega);have e3':decide (0<np)=false:=decide_eq_false h3;have fD:Hid (¬ (0<nv\/0<nl\/0<np)):=aa (by omega);have tA:=ab dy.out;clear hk h1 h2 h3
 go_wp2_with fail
 clear tA to;refine(O7.out CS.out w1 bC.out).mono ?_;rintro e w2 ⟨rfl,aV⟩;have cB:=aa (ae bC.out aV);have IL:=aa (kn.out.up aV);have to:=ab (af aV gm.out);clear aV;by_cases hz:walkE s wk=0
 case neg=>
  have HV:=aa (so.out (by first|trivial|rfl) Lf.out fD.out hz);generalize walkE s wk=we at hz HV;have Fr:(we != 0)=true:=by simpa using hz
  have HNZ:=aa hz;clear hz
  go_wp2_with fail
  go_ret2
  exact⟨⟨_,by rw[HV.out];rfl,fun h=>absurd (HV.out.symm.trans h) HNZ.out,fun _=>rfl⟩,cB.out⟩
 have HV:=aa (xb.out (by first|trivial|rfl) Lf.out fD.out hz);have sJ:=aa (lq.out di.out hz B);rw[hz];clear hz
 go_wp2_with fail
 clear to;refine(sJ.out w2 IL.out (SQ.out.up up_link cB.out)).mono ?_;rintro e w3 ⟨rfl,bA⟩;have dP:=aa (ae cB.out bA);have R3:=aa (IL.out.up bA);clear bA;cases hg:dB s wk with
 | true=>
  have cT:Hid (ce0=0):=aa (by rw[HV.out,hg];rfl);clear hg
  go_wp2_with fail
  go_ret2
  exact⟨⟨_,by rw[cT.out];rfl,fun _=>⟨B,rfl,R3.out⟩,fun h=>absurd cT.out h⟩,dP.out⟩
 | false=>
  have cT:Hid (ce0=18):=aa (by rw[HV.out,hg];rfl);clear hg
  go_wp2_with fail
  go_ret2
  exact⟨⟨_,by rw[cT.out];rfl,fun h=>by have:=cT.out;omega,fun _=>rfl⟩,dP.out⟩
theorem Af(s:Sys) (hE:eS s<=256) (vc vs vt ve vw:Value) (c:Ct) (pv:Option Addr) (cv:Nat) (pl:Option Addr) (cl:Nat) (pp:Option Addr) (cp:Nat) (w:World) (hs:IsSys w s vc vs vt ve) (hN:movesN s.prob.a.states<1099511627776) (hw:aU w vw c.walk) :
  Calls Tryz.prog 24 #[.agg (bE s.prob vc vs s.n vt ve),.agg #[.int .i64 c.kind,vw,.slice pv c.nv cv,.slice pl c.nl cl,.slice pp c.np cp]] w fun r w'=>r=.returned (.int .i64 (certE s c))/\Below w.heap.size w w':=by
 have HS:=aa hs;obtain⟨⟨pc,cc,rfl⟩,⟨ps,cs,rfl⟩,⟨pt,ct,rfl⟩,⟨pe,ce,rfl⟩⟩:=bg hs;obtain⟨pw,cw,rfl,lw1,lw2,_⟩:=hw.at;have HC:=aa (fun W (hb:Below w.heap.size w W)=>ym s hE _ _ _ _ _ c pv cv pl cl pp cp W (HS.out.up hb) hN (hw.up up_link hb));clear hs hw
 go_enter Tryz.func24,Tryz.ntmps24
 go_wp2_with fail
 refine aL (fun W=>Below w.heap.size w W) (by go_grown) (fun W0 aC=>?_);refine(HC.out W0 aC).mono ?_;rintro e w1 ⟨⟨v,rfl,_,_⟩,aG⟩;have HB:=aa (ae aC aG);clear aC aG HC
 go_wp2_with fail
 go_ret
 exact⟨rfl,HB.out⟩
end Go.Proofs.YtmeaoneaephjeaaGreatDoor
