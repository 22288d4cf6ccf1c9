/-
  A part of the proof: lemmas and contracts that the parts behind it use. Each one's conditions are its own premises.
-/
import Derived.Test.YtiocdkdkndpgkaaGreatN4
set_option maxRecDepth 100000
set_option maxHeartbeats 8000000
set_option linter.unusedVariables false
set_option linter.unusedSimpArgs false
namespace Go.Proofs.YtiocdkdkndpgkaaGreat
open Go.RowKit Go Go.Shelf
theorem gN{K:Cx} {o:Oper} {s:AS} {k:AS->Prop}
  (h:∀ σ G a w,Sat K σ G s a w->∃ v w' σ' G' s' y,(execOp a.eval o).run K.P w=.ok (.value v) w'/\Sat K σ' G' s' a w'/\RA σ' G' y v/\k (s'.put o.dst y)):jG K o s k:=by
 intro σ G a w hs Q;obtain⟨v,w',σ',G',s',y,h1,h2,h3,h4⟩:=h σ G a w hs;unfold Oper.wp;rw[h1,Oper.upon_value];exact⟨σ',G',_,h4,h2.put o.dst h3⟩
theorem bz{K:Cx} {o:Oper} {s:AS} {k:AS->Prop}
  (h:∀ σ G a w,Sat K σ G s a w->∃ v y,(execOp a.eval o).run K.P w=.ok (.value v) w/\RA σ G y v/\k (s.put o.dst y)):jG K o s k:=
 gN fun σ G a w hs=>let ⟨v,y,h1,h2,h3⟩:=h σ G a w hs;⟨v,w,σ,G,s,y,h1,hs,h2,h3⟩
def jt(l:List AV) (c:IntKind->Int->Int->Prop):Prop:=
 match l with
 | [x,y]=>match x.conc,y.conc with
  | some (.int k a),some (.int k' b)=>k=k'/\c k a b
  | _,_=>False
 | _=>False
def qE(P:Program) (src dst:TypeId) (x:AV) (k:AV->Prop):Prop:=
 (ai P src).ok=true/\match (ai P dst).ik,x.conc with
 | some kk,some (.int _ n)=>k (.d (.v (.int kk (kk.wrap n))))
 | _,_=>False
def mX(K:Cx) (f:AV) (l:List AV) (s:AS) (k:AV->AS->Prop):Prop:=
 match f with
 | .d (.v (.func (.func g) a c))=>a=#[]/\c=#[]/\iK K g l s k
 | .d (.fn (.func g) a c)=>iK K g (a.map AV.d++l++c.map AV.d) s k
 | .fn (.func g) a c=>iK K g (a++l++c) s k
 | _=>False
def own(K:Cx) (d:Option Nat):Bool:=match d with|some d=>K.mu.contains d|none=>false
def wO(K:Cx) (o:Oper) (s:AS) (k:AS->Prop) (c:Call):Prop:=
 match c.callee with
 | .builtin b=>
  match b with
  | .min=>jt (c.args.toList.map s.ev) fun kk a b=>k (s.put o.dst (.d (.v (.int kk (if b<a then b else a)))))
  | .max=>jt (c.args.toList.map s.ev) fun kk a b=>k (s.put o.dst (.d (.v (.int kk (if b > a then b else a)))))
  | b=>match b,c.args.toList,c.argTypes.toList with
  | .len,[x],[t]=>qz K.P t (s.ev x) fun y=>k (s.put o.dst y)
  | .append,[x,y],[t,t']=>iw K.P s t t' (s.ev x) (s.ev y) fun y s'=>k (s'.put o.dst y)
  | _,_,_=>jG K o s k
 | .value f=>mX K (s.ev f) (c.args.toList.map s.ev) s fun y s'=>k (s'.put o.dst y)
 | _=>jG K o s k
def dG(K:Cx) (o:Oper) (s:AS) (k:AS->Prop):Prop:=
 match o.op with
 | .move x|.assign x=>k (s.put o.dst (s.ev x))
 | .pick c a b=>wK (s.ev c) fun t=>k (s.put o.dst (if t then s.ev a else s.ev b))
 | .alloc t=>match (ai K.P t).z with|some z=>qC s true t (z.map fun x=>.d (.v x)) fun y s'=>k (s'.put o.dst y)|none=>False
 | .box t x=>qC s (own K o.dst) t (s.ev x).cells fun y s'=>k (s'.put o.dst y)
 | .build t ps=>kR K.P t (ps.toList.map fun p=>(p.1,s.ev p.2)) fun y=>k (s.put o.dst y)
 | .buildSlice t n ps=>nk K.P s (own K o.dst) t n (ps.toList.map fun p=>(p.1,s.ev p.2)) fun y s'=>k (s'.put o.dst y)
 | .load t a=>iJ K.P s t (s.ev a) fun y=>k (s.put o.dst y)
 | .store t a x=>nM K.P s t (s.ev a) (s.ev x) fun s'=>k (s'.put o.dst (.d (.v undef)))
 | .nilCheck x=>lW (s.ev x)=true/\k (s.put o.dst (s.ev x))
 | .binOp op _ x y _=>oE (s.ev x) (s.ev y) (fun a b=>mC op a b (fun u=>k (s.put o.dst (.d (.v u)))) (jG K o s k)) (jG K o s k)
 | .unOp op _ x=>one (s.ev x) (fun a=>sf op a (fun u=>k (s.put o.dst (.d (.v u)))) (jG K o s k)) (jG K o s k)
 | .convert src dst x=>qE K.P src dst (s.ev x) fun y=>k (s.put o.dst y)
 | .makeFunc f a c=>k (s.put o.dst (mkFn f (a.toList.map s.ev) (c.toList.map s.ev)))
 | .makeSlice t l c=>wN K.P s t (s.ev l) (s.ev c) fun y s'=>k (s'.put o.dst y)
 | .slice t x lo hi none=>kS K.P s t (s.ev x) (lo.map s.ev) (hi.map s.ev) fun y s'=>k (s'.put o.dst y)
 | .fieldAddr t x f=>fM K.P t (s.ev x) f fun y=>k (s.put o.dst y)
 | .field t x f=>mg K.P t (s.ev x) f fun y=>k (s.put o.dst y)
 | .indexAddr t x i=>cN K.P s t (s.ev x) (s.ev i) fun y=>k (s.put o.dst y)
 | .index t x i=>kP K.P t (s.ev x) (s.ev i) fun y=>k (s.put o.dst y)
 | .extract x i=>gM (s.ev x) i fun y=>k (s.put o.dst y)
 | .call c=>wO K o s k c
 | _=>jG K o s k
theorem BR{K:Cx} {σ:Sg} {G:Gh} {s:AS} {a:Act} {w:World} (hs:Sat K σ G s a w) (ps:Array (Nat × Operand)):(ps.map fun p=>(p.1,a.eval p.2)).size=(ps.toList.map fun p=>(p.1,s.ev p.2)).length ∧
  ∀ (i:Nat) p u,(ps.toList.map fun p=>(p.1,s.ev p.2))[i]?=some p->(ps.map fun p=>(p.1,a.eval p.2))[i]?=some u->p.1=u.1/\RA σ G p.2 u.2:=by
 refine⟨by simp,fun i p u h1 h2=>?_⟩;simp only[List.getElem?_map,Array.getElem?_toList,Array.getElem?_map]at h1 h2;cases hq:ps[i]? with
 | none=>rw[hq]at h1;cases h1
 | some x=>
  rw[hq]at h1 h2;cases h1;cases h2;exact⟨rfl,hs.ev _⟩
theorem pL{K:Cx} {σ:Sg} {G:Gh} {s:AS} {a:Act} {w:World} (hs:Sat K σ G s a w) (xs:Array Operand):(xs.map a.eval).size=(xs.toList.map s.ev).length/\∀ (i:Nat) x,(xs.toList.map s.ev)[i]?=some x->RA σ G x ((xs.map a.eval)[i]?.getD undef):=by
 refine⟨by simp,fun i x h1=>?_⟩;simp only[List.getElem?_map,Array.getElem?_toList,Array.getElem?_map]at h1 ⊢;cases hq:xs[i]? with
 | none=>rw[hq]at h1;cases h1
 | some y=>rw[hq]at h1;cases h1;exact hs.ev _
theorem iK.ok{K:Cx} {o:Oper} {c:Call} {s:AS} {k:AS->Prop} {g:FuncId} {l:List AV} (ho:o.op=.call c) (h:iK K g l s fun y s'=>k (s'.put o.dst y))
  (hr:∀ σ G a w,Sat K σ G s a w->∃ d us,(resolve a.eval c o.type).run K.P w=.ok d w/\(invoke d.target d.args).run K.P w=(callFunc g us).run K.P w/\us.size=l.length/\∀ (i:Nat) x,l[i]?=some x->RA σ G x (us[i]?.getD undef)):jG K o s k:=by
 intro σ G a w hs Q;obtain⟨d,us,h1,h2,h3,h4⟩:=hr σ G a w hs
 have gc:(execOp a.eval o).run K.P w=.ok (.enter g us) w:=by
  simp only[execOp,ho,Sem.run_bind,h1,Result.andThen_ok,h2,h.1]
 unfold Oper.wp;rw[gc,Oper.upon_enter];refine(h.2 σ G a w us hs h3 h4).mono ?_;rintro e w' ⟨v,σ',G',s',y,rfl,q1,q2,q3⟩;exact⟨σ',G',_,q3,q1.put o.dst q2⟩
theorem Mb{K:Cx} {o:Oper} {f:Operand} {args:Array Operand} {ts:Array TypeId} {s:AS} {k:AS->Prop} (ho:o.op=.call ⟨.value f,args,ts⟩) (h:mX K (s.ev f) (args.toList.map s.ev) s fun y s'=>k (s'.put o.dst y)):jG K o s k:=by
 unfold mX at h;split at h
 ·rename_i g b c hf;obtain⟨rfl,rfl,h⟩:=h;refine h.ok ho fun σ G a w hs=>?_
  have e:a.eval f=.func (.func g) #[] #[]:=by
   have:=hs.ev f;rw[hf]at this;exact this.un.val
  obtain⟨q1,q2⟩:=pL hs args;refine⟨⟨.fn (.func g) #[],#[]++args.map a.eval⟩,args.map a.eval,by simp only[resolve,e,Deferred.ofValue];rfl,by simp[invoke],q1,q2⟩
 ·rename_i g b c hf;refine h.ok ho fun σ G a w hs=>?_
  have:=(hs.ev f);rw[hf]at this;generalize hu:a.eval f=u at this;cases this.un with
  | fn _ _ _ us cs ha hc HA HC=>
   obtain⟨q1,q2⟩:=pL hs args;refine⟨⟨.fn (.func g) cs,us++args.map a.eval⟩,us++args.map a.eval++cs,by simp only[resolve,hu,Deferred.ofValue];rfl,by simp[invoke],by simp[ha,hc],fun i x hx=>?_⟩;rw[List.getElem?_append]at hx;rw[Array.getElem?_append];simp only[List.length_append,List.length_map,Array.length_toList,Array.size_append,Array.size_map]at hx ⊢;split at hx
   ·rw[if_pos (by omega)];rw[List.getElem?_append]at hx;rw[Array.getElem?_append];simp only[List.length_map]at hx;split at hx
    ·rw[if_pos (by omega)];exact RA.ofD HA i x hx
    ·rw[if_neg (by omega)];rw[<-ha]at hx;exact q2 _ _ hx
   ·rw[if_neg (by omega)];rw[<-ha]at hx;exact RA.ofD HC _ x hx
 ·rename_i g b c hf;refine h.ok ho fun σ G a w hs=>?_
  have:=(hs.ev f);rw[hf]at this;generalize hu:a.eval f=u at this;cases this with
  | fn _ _ _ us cs ha hc HA HC=>
   obtain⟨q1,q2⟩:=pL hs args;refine⟨⟨.fn (.func g) cs,us++args.map a.eval⟩,us++args.map a.eval++cs,by simp only[resolve,hu,Deferred.ofValue];rfl,by simp[invoke],by simp[ha,hc],fun i x hx=>?_⟩;rw[List.getElem?_append]at hx;rw[Array.getElem?_append];simp only[List.length_append,List.length_map,Array.length_toList,Array.size_append,Array.size_map]at hx ⊢;split at hx
   ·rw[if_pos (by omega)];rw[List.getElem?_append]at hx;rw[Array.getElem?_append];split at hx
    ·rw[if_pos (by omega)];exact HA i x hx
    ·rw[if_neg (by omega)];rw[<-ha]at hx;exact q2 _ _ hx
   ·rw[if_neg (by omega)];rw[<-ha]at hx;exact HC _ x hx
 ·exact h.elim
theorem qF{c:Call} {b:Builtin} {args:Array Operand} {ts:Array TypeId} (h:c.callee=.builtin b) (h1:c.args.toList=args.toList) (h2:c.argTypes.toList=ts.toList):Op.call c=Op.call ⟨.builtin b,args,ts⟩:=by
 cases c
 simp_all
theorem I9{K:Cx} {o:Oper} {s:AS} {k:AS->Prop} {c:Call} (ho:o.op=.call c) (h:wO K o s k c):jG K o s k:=by
 unfold wO at h;split at h
 ·rename_i b hc;split at h
  ·have ho:=ho.trans (qF (args:=c.args) (ts:=c.argTypes) hc rfl rfl);obtain⟨largs,hl⟩:∃ l,c.args.toList=l:=⟨_,rfl⟩;have AT:c.args=largs.toArray:=by rw[<-hl]
   rw[hl]at h;refine bz fun σ G a w hs=>?_
   unfold jt at h;split at h
   ·rename_i x y e
    match largs,e with
    | [p,q],e=>
     simp only[List.map_cons,List.map_nil,List.cons.injEq,and_true]at e;obtain⟨rfl,rfl⟩:=e;split at h
     ·rename_i k1 u k2 v e1 e2;obtain⟨rfl,h⟩:=h;refine⟨_,_,?_,.d (.v _),h⟩;simp only[execOp,ho,AT,resolve,invoke,builtin,Sem.run_bind,Sem.run_pure,Result.andThen_ok,List.map_toArray,List.map_cons,List.map_nil,Builtin.min_,hs.conc e1,hs.conc e2];rfl
     ·exact h.elim
    | [],e=>cases e
    | [_],e=>cases e
    | _ :: _ :: _ :: _,e=>simp at e
   ·exact h.elim
  ·have ho:=ho.trans (qF (args:=c.args) (ts:=c.argTypes) hc rfl rfl);obtain⟨largs,hl⟩:∃ l,c.args.toList=l:=⟨_,rfl⟩;have AT:c.args=largs.toArray:=by rw[<-hl]
   rw[hl]at h;refine bz fun σ G a w hs=>?_
   unfold jt at h;split at h
   ·rename_i x y e
    match largs,e with
    | [p,q],e=>
     simp only[List.map_cons,List.map_nil,List.cons.injEq,and_true]at e;obtain⟨rfl,rfl⟩:=e;split at h
     ·rename_i k1 u k2 v e1 e2;obtain⟨rfl,h⟩:=h;refine⟨_,_,?_,.d (.v _),h⟩;simp only[execOp,ho,AT,resolve,invoke,builtin,Sem.run_bind,Sem.run_pure,Result.andThen_ok,List.map_toArray,List.map_cons,List.map_nil,Builtin.max_,hs.conc e1,hs.conc e2];rfl
     ·exact h.elim
    | [],e=>cases e
    | [_],e=>cases e
    | _ :: _ :: _ :: _,e=>simp at e
   ·exact h.elim
  ·split at h
   ·rename_i x t e1 e2 _ _;have ho:=ho.trans (qF (args:=#[x]) (ts:=#[t]) hc e1 e2);refine bz fun σ G a w hs=>?_
    obtain⟨v,y,q1,q2,q3⟩:=O6 (w:=w) (ty:=o.type) (hs.ev x) h;refine⟨v,y,?_,q2,q3⟩;simp only[execOp,ho,resolve,invoke,builtin,Sem.run_bind,Sem.run_pure,Result.andThen_ok,List.map_toArray,List.map_cons,List.map_nil,q1]
   ·rename_i x y t t' e1 e2 _ _;have ho:=ho.trans (qF (args:=#[x,y]) (ts:=#[t,t']) hc e1 e2);refine gN fun σ G a w hs=>?_
    obtain⟨v,w',σ',G',s',z,q1,q2,q3,q4⟩:=GA (ty0:=o.type) hs (hs.ev x) (hs.ev y) h;refine⟨v,w',σ',G',s',z,?_,q2,q3,q4⟩;simp only[execOp,ho,resolve,invoke,builtin,Sem.run_bind,Sem.run_pure,Result.andThen_ok,List.map_toArray,List.map_cons,List.map_nil,q1]
   ·exact h
 ·rename_i f hc;obtain⟨callee,args,ts⟩:=c;dsimp only at hc;subst hc;exact Mb ho h
 ·exact h
theorem qG{K:Cx} {o:Oper} {s:AS} {k:AS->Prop} (h:dG K o s k):jG K o s k:=by
 unfold dG at h;split at h
 ·rename_i x ho;exact bz fun σ G a w hs=>⟨_,_,by simp only[execOp,ho,Sem.run_pure],hs.ev x,h⟩
 ·rename_i x ho;exact bz fun σ G a w hs=>⟨_,_,by simp only[execOp,ho,Sem.run_pure],hs.ev x,h⟩
 ·rename_i c x y ho;unfold wK at h;split at h
  ·rename_i t hc;refine bz fun σ G a w hs=>?_
   have e:=hs.conc hc;refine⟨if t then a.eval x else a.eval y,_,by simp only[execOp,ho,e,asBool,Sem.run_bind,Sem.run_pure,Result.andThen_ok],?_,h⟩;cases t<;>exact hs.ev _
  ·exact h.elim
 ·rename_i t ho;split at h
  ·rename_i z hz;refine gN fun σ G a w hs=>?_
   obtain⟨zv,z1,z2⟩:∃ zv,(zeroValue t).run K.P w=.ok zv w/\zv.cells.toList=z:=by
    unfold ai at hz;split at hz
    ·rename_i i d e1 e2;simp only[cQ]at hz;cases e:i.zero with
     | none=>rw[e]at hz;cases hz
     | some zv=>rw[e]at hz;cases hz;exact⟨zv,by simp[zeroValue,typeInfo,e1,e,go_sem],rfl⟩
    ·cases hz
   obtain⟨σ',G',s',y,q1,q2,q3⟩:=EW (cs:=zv.cells) hs h (by simp[<-z2]) (fun i y hy=>by
    rw[<-z2]at hy;simp only[List.getElem?_map,Array.getElem?_toList]at hy;cases hq:zv.cells[i]? with
    | none=>rw[hq]at hy;cases hy
    | some x=>rw[hq]at hy;cases hy;exact .d (.v _))
   refine⟨_,_,σ',G',s',y,?_,q1,q2,q3⟩;simp only[execOp,ho,Instr.alloc,Sem.run_bind,z1,Result.andThen_ok,newVar,newRow,run_newObj,Sem.run_pure];rfl
  ·exact h.elim
 ·rename_i t x ho;refine gN fun σ G a w hs=>?_
  obtain⟨c1,c2,c3⟩:=qA (hs.ev x) h.1;obtain⟨σ',G',s',y,q1,q2,q3⟩:=EW (cs:=(a.eval x).cells) hs h c1 c2;refine⟨_,_,σ',G',s',y,?_,q1,q2,q3⟩;simp only[execOp,ho,Instr.box,Sem.run_bind,Result.andThen_ok,newVar,newRow,run_newObj,Sem.run_pure];rfl
 ·rename_i t ps ho;refine bz fun σ G a w hs=>?_
  obtain⟨p1,p2⟩:=BR hs ps;obtain⟨v,y,q1,q2,q3⟩:=I6 (w:=w) p1 p2 h;exact⟨v,y,by simp only[execOp,ho,Sem.run_bind,q1,Result.andThen_ok,Sem.run_pure],q2,q3⟩
 ·rename_i t n ps ho;refine gN fun σ G a w hs=>?_
  obtain⟨p1,p2⟩:=BR hs ps;obtain⟨v,w',σ',G',s',y,q1,q2,q3,q4⟩:=Gy hs p1 p2 h;exact⟨v,w',σ',G',s',y,by simp only[execOp,ho,Sem.run_bind,q1,Result.andThen_ok,Sem.run_pure],q2,q3,q4⟩
 ·rename_i t x ho;refine bz fun σ G a w hs=>?_
  obtain⟨v,y,q1,q2,q3⟩:=BH hs (hs.ev x) h;exact⟨v,y,by simp only[execOp,ho,Sem.run_bind,q1,Result.andThen_ok,Sem.run_pure],q2,q3⟩
 ·rename_i t x v ho;intro σ G a w hs Q;obtain⟨w',s',q1,q2,q3⟩:=I5 hs (hs.ev x) (hs.ev v) h;have gc:(execOp a.eval o).run K.P w=.ok .skip w':=by simp only[execOp,ho,Sem.run_bind,q1,Result.andThen_ok,Sem.run_pure]
  unfold Oper.wp;rw[gc,Oper.upon_skip];exact⟨σ,G,_,q3,q2.put o.dst (.d (.v _))⟩
 ·rename_i x ho;refine bz fun σ G a w hs=>?_
  obtain⟨b,oo,e,_⟩:=qy h.1 (hs.ev x);exact⟨_,_,by simp only[execOp,ho,e,Sem.run_pure],hs.ev x,h.2⟩
 ·rename_i op t x y yt ho;unfold oE at h;split at h
  ·rename_i u v e1 e2;rcases O5 (P:=K.P) (t:=t) (x:=x) (y:=y) h with h|⟨z,h1,h2⟩
   ·exact h
   ·refine bz fun σ G a w hs=>⟨z,_,?_,.d (.v _),h1⟩
    have h3:=h2 w;simp only[execOp,ho,hs.conc e1,hs.conc e2];rw[Sem.run_bind,h3];rfl
  ·exact h
 ·rename_i op t x ho;unfold one at h;split at h
  ·rename_i u e1;unfold sf at h;split at h
   ·exact bz fun σ G a w hs=>⟨_,_,by simp only[execOp,ho,hs.conc e1];rfl,.d (.v _),qw (c:=fun u=>k (s.put o.dst (.d (.v u)))) h⟩
   ·exact bz fun σ G a w hs=>⟨_,_,by simp only[execOp,ho,hs.conc e1];rfl,.d (.v _),h⟩
   ·exact h
  ·exact h
 ·rename_i src dst x ho;obtain⟨bO,h⟩:=h;split at h
  ·rename_i kk kx n e1 e2;refine bz fun σ G a w hs=>⟨.int kk (kk.wrap n),_,?_,.d (.v _),h⟩
   obtain⟨i,d,g1,g2,g3⟩:=kq bO
   have hd:K.P.underlying dst=some (.int kk):=by
    unfold ai at e1;split at e1
    ·rename_i i2 d2 f1 f2;cases d2<;>simp[cQ]at e1
     rw[f2,e1]
    ·cases e1
   simp only[execOp,ho,hs.conc e2,convert,Sem.run_bind,run_underlying g2,run_underlying hd,Result.andThen_ok];rfl
  ·exact h.elim
 ·rename_i f fa fc ho;refine bz fun σ G a w hs=>?_
  obtain⟨p1,p2⟩:=pL hs fa;obtain⟨p3,p4⟩:=pL hs fc;exact⟨_,_,by simp only[execOp,ho,Instr.makeFunc,Sem.run_bind,Sem.run_pure,Result.andThen_ok],RA.mkFn p1 p3 p2 p4,h⟩
 ·rename_i t l c ho;refine gN fun σ G a w hs=>?_
  obtain⟨v,w',σ',G',s',y,q1,q2,q3,q4⟩:=L9 hs (hs.ev l) (hs.ev c) h;exact⟨v,w',σ',G',s',y,by simp only[execOp,ho,Sem.run_bind,q1,Result.andThen_ok,Sem.run_pure],q2,q3,q4⟩
 ·rename_i t x lo hi ho;refine gN fun σ G a w hs=>?_
  have hm:∀ z:Option Operand,(∀ b,z.map s.ev=some b->∃ v,z.map a.eval=some v/\RA σ G b v)/\(z.map s.ev=none->z.map a.eval=none):=fun z=>by
   cases z with
   | none=>exact⟨fun b h=>(by cases h),fun _=>rfl⟩
   | some z=>exact⟨fun b h=>(by cases h;exact⟨_,rfl,hs.ev z⟩),fun h=>by cases h⟩
  obtain⟨v,s',y,q1,q2,q3,q4⟩:=I8 hs (hs.ev x) (hm lo).1 (hm lo).2 (hm hi).1 (hm hi).2 h;exact⟨v,w,σ,G,s',y,by simp only[execOp,ho,Option.map_none,Sem.run_bind,q1,Result.andThen_ok,Sem.run_pure],q2,q3,q4⟩
 ·rename_i t x f ho;refine bz fun σ G a w hs=>?_
  obtain⟨v,y,q1,q2,q3⟩:=AB (w:=w) (hs.ev x) h;exact⟨v,y,by simp only[execOp,ho,Sem.run_bind,q1,Result.andThen_ok,Sem.run_pure],q2,q3⟩
 ·rename_i t x f ho;refine bz fun σ G a w hs=>?_
  obtain⟨v,y,q1,q2,q3⟩:=I0 (w:=w) (hs.ev x) h;exact⟨v,y,by simp only[execOp,ho,Sem.run_bind,q1,Result.andThen_ok,Sem.run_pure],q2,q3⟩
 ·rename_i t x i ho;refine bz fun σ G a w hs=>?_
  obtain⟨v,y,q1,q2,q3⟩:=AD hs (hs.ev x) (hs.ev i) h;exact⟨v,y,by simp only[execOp,ho,Sem.run_bind,q1,Result.andThen_ok,Sem.run_pure],q2,q3⟩
 ·rename_i t x i ho;refine bz fun σ G a w hs=>?_
  obtain⟨v,y,q1,q2,q3⟩:=I2 (w:=w) (hs.ev x) (hs.ev i) h;exact⟨v,y,by simp only[execOp,ho,Sem.run_bind,q1,Result.andThen_ok,Sem.run_pure],q2,q3⟩
 ·rename_i x i ho;refine bz fun σ G a w hs=>?_
  obtain⟨v,y,q1,q2,q3⟩:=D9 (P:=K.P) (w:=w) (hs.ev x) h;exact⟨v,y,by simp only[execOp,ho,Sem.run_bind,q1,Result.andThen_ok,Sem.run_pure],q2,q3⟩
 ·rename_i c ho;exact I9 ho h
 ·exact h
def qH(o:Oper):Bool:=match o.op with|.defer _=>false|_=>true
theorem tK{o:Oper} (h:qH o=true):∀ c,o.op≠.defer c:=by
 intro c e;unfold qH at h;rw[e]at h;cases h
def dr(ops:Array Oper) (o:Oper) (s:AS) (yes no:Prop):Prop:=
 match o.guard with
 | none=>yes
 | some (g,want)=>match (ops[g]?).bind (·.dst) with
  | some d=>gB (s.ev (.tmp d)) (fun b=>Br (b == want) yes no) no
  | none=>False
def AY(K:Cx) (yl:Nat) (l:List AV) (s:AS) (k:Bool->AS->Prop):Prop:=
 ∀ σ G a w (us:Array Value),Sat K σ G s a w->us.size=l.length->(∀ (i:Nat) x,l[i]?=some x->RA σ G x (us[i]?.getD undef)) →
  YieldAt Fence.wide 0 K.P yl us w fun e w'=>∃ b σ' G' s',e=.returned (.bool b)/\Sat K σ' G' s' a w'/\k b s'
def BS(K:Cx) (f:AV) (l:List AV) (s:AS) (ky:Bool->AS->Prop) (els:Prop):Prop:=
 match f with
 | .d (.v (.func (.yield yl) a c))=>a=#[]/\c=#[]/\AY K yl l s ky
 | _=>els
def oG(K:Cx) (o:Oper) (s:AS) (k:AS->Prop):Prop:=
 match o.op with
 | .call c=>match c.callee with
  | .value f=>BS K (s.ev f) (c.args.toList.map s.ev) s (fun b s'=>k (s'.put o.dst (.d (.v (.bool b))))) (dG K o s k)
  | _=>dG K o s k
 | _=>dG K o s k
def i8(K:Cx) (ops:Array Oper):List Oper->AS->(AS->Prop)->Prop
 | [],s,k=>k s
 | o :: l,s,k=>qH o=true/\dr ops o s (oG K o s fun s'=>i8 K ops l s' k) (i8 K ops l (s.put o.dst (.d (.v undef))) k)
theorem tL{K:Cx} {ops:Array Oper} {o:Oper} {s:AS} {yes no:Prop} {σ:Sg} {G:Gh} {a:Act} {w:World} (hs:Sat K σ G s a w) (h:dr ops o s yes no) :
  Region.wanted o (yielded ops a.tmps)=true/\yes\/Region.wanted o (yielded ops a.tmps)=false/\no:=by
 unfold dr at h;split at h
 ·rename_i e;exact .inl ⟨by simp[Region.wanted,e],h⟩
 ·rename_i g want e;split at h
  ·rename_i d hd;unfold gB at h;split at h
   ·rename_i b hb;have h1:a.tmps[d]?.getD undef=.bool b:=by have:=jr (hs.ev (.tmp d)) hb;simpa[Act.eval] using this
    have h2:a.tmps[d]?=some (.bool b):=by
     cases hq:a.tmps[d]? with
     | none=>rw[hq]at h1;simp[undef]at h1
     | some x=>rw[hq]at h1;simpa using h1
    have h3:Region.wanted o (yielded ops a.tmps)=(b == want):=by
     simp only[Region.wanted,e,yielded,hd,Option.bind_some,h2];cases b<;>cases want<;>rfl
    rw[h3];cases FL:(b == want)
    ·rw[FL,Br_false]at h;exact .inr ⟨rfl,h⟩
    ·rw[FL,Br_true]at h;exact .inl ⟨rfl,h⟩
   ·rename_i b hb;have h1:a.tmps[d]?.getD undef=.tuple b:=by have:=jr (hs.ev (.tmp d)) hb;simpa[Act.eval] using this
    refine .inr ⟨?_,h⟩;cases hq:a.tmps[d]? with
    | none=>simp[Region.wanted,e,yielded,hd,hq]
    | some x=>
     rw[hq]at h1;have:x=.tuple b:=by simpa using h1
     subst this;simp[Region.wanted,e,yielded,hd,hq]
   ·exact h.elim
  ·exact h.elim
theorem i9{K:Cx} {o:Oper} {a:Act} {w:World} {k k':Act->World->Prop} {Q:Exit->Act->World->Prop} (hd:qH o=true) (hL:¬ LetsOut Q) (hk:∀ a w,k a w->k' a w) (h:o.wp K.P a w k Q):o.wpIn K.fence 0 K.P a w k' Q:=by
 unfold Cx.fence;split
 ·exact DO (tK hd) hL hk h
 ·exact y5 (tK hd) hL hk h
theorem BT{K:Cx} {o:Oper} {s:AS} {k:AS->Prop} {Q:Exit->Act->World->Prop} (hL:¬ LetsOut Q) (hd:qH o=true) (h:oG K o s k) {σ:Sg} {G:Gh} {a:Act} {w:World} (hs:Sat K σ G s a w) :
  o.wpIn K.fence 0 K.P a w (fun a' w'=>∃ σ' G' s',k s'/\Sat K σ' G' s' a' w') Q:=by
 have plain:dG K o s k->o.wpIn K.fence 0 K.P a w (fun a' w'=>∃ σ' G' s',k s'/\Sat K σ' G' s' a' w') Q:=fun h=>i9 hd hL (fun _ _ h=>h) (qG h σ G a w hs Q)
 unfold oG at h;split at h
 ·rename_i c ho;split at h
  ·rename_i f hc;unfold BS at h;split at h
   ·rename_i yl b e hf;obtain⟨rfl,rfl,h⟩:=h
    have ef:a.eval f=.func (.yield yl) #[] #[]:=by
     have:=hs.ev f;rw[hf]at this;exact this.un.val
    obtain⟨q1,q2⟩:=pL hs c.args;obtain⟨fn,tmps,assign,body,r1,r2⟩:=h σ G a w _ hs q1 q2
    have gc:(execOp a.eval o).run K.P w=.ok (.round yl fn tmps assign body) w:=by
     simp only[execOp,ho,resolve,hc,ef,Deferred.ofValue,Sem.run_bind,Sem.run_pure,Result.andThen_ok,invoke];have e1:(#[]:Array Value)++c.args.map a.eval=c.args.map a.eval:=by simp
     rw[e1];exact r1
    have h2:RoundIn Fence.wide 0 K.P yl fn tmps assign body w fun|.returned v,w''=>∃ σ' G' s',k s'/\Sat K σ' G' s' (a.put o.dst v) w''|.panicked chain,w''=>Q (.panic chain) a w''|.outgrown,_=>LetsOut Q:=by
     refine r2.mono ?_;rintro e w' ⟨b,σ',G',s',rfl,g1,g2⟩;exact⟨σ',G',_,g2,g1.put o.dst (.d (.v _))⟩
    unfold Cx.fence;split
    ·refine⟨fun _ _=>trivial,?_⟩;rw[Oper.semAt_eq _ _ _ (tK hd),gc,Oper.uponIn_round];exact⟨fun h'=>(by simp[Fence.wide]at h'),h2⟩
    ·refine⟨fun _ _=>trivial,?_⟩;rw[Oper.semAt_eq _ _ _ (tK hd),gc,Oper.uponIn_round];exact⟨fun h'=>(by simp[Fence.wide,Fence.inRound]at h'),h2⟩
   ·exact plain h
  ·exact plain h
 ·exact plain h
theorem nm{K:Cx} {ops:Array Oper} {Q:Exit->Act->World->Prop} (hL:¬ LetsOut Q) {k:AS->Prop} (hQ:∀ σ G s a w,k s->Sat K σ G s a w->Q .normal a w):∀ (l:List Oper) (s:AS) (σ:Sg) (G:Gh) (a:Act) (w:World),
  i8 K ops l s k->Sat K σ G s a w->wpListIn K.fence 0 K.P ops Q l a w
 | [],s,σ,G,a,w,h,hs=>hQ σ G s a w h hs
 | o :: l,s,σ,G,a,w,h,hs=>by
  obtain⟨hd,h⟩:=h;unfold wpListIn;rcases tL hs h with ⟨h1,h2⟩|⟨h1,h2⟩
  ·rw[if_pos h1];refine Oper.wpIn_mono ?_ (BT hL hd h2 hs);rintro a' w' ⟨σ',G',s',q1,q2⟩;exact nm hL hQ l s' σ' G' a' w' q1 q2
  ·rw[if_neg (by rw[h1];decide)];refine⟨fun _ _=>?_,nm hL hQ l _ σ G _ w h2 (hs.put o.dst (.d (.v _)))⟩;unfold Cx.fence;split<;>trivial
theorem wP{K:Cx} {id:Nat} {ops:Array Oper} {Q:Exit->AS->Prop} {s:AS} (h:i8 K ops ops.toList s (Q .normal)):ei K (.region id ops false) Q s:=fun σ G a w hs=>
 wpIn_region_list (nm gL.noOut (fun σ G s a w h1 h2=>⟨σ,G,s,h1,h2⟩) _ _ _ _ _ _ h hs)
def wQ(K:Cx) (x:Code) (A B:Prop):Prop:=match x with|.region id _ _=>if K.cut.contains id then A else B|_=>B
def VC(K:Cx):Code->(Exit->AS->Prop)->AS->Prop
 | .skip,Q,s=>Q .normal s
 | .seq x y,Q,s=>wQ K x (ei K (.seq x y) Q s) (VC K x (qv (VC K y Q) Q) s)
 | .region id ops d,Q,s=>match d with|false=>if K.cut.contains (id+1000) then ei K (.region id ops false) Q s else i8 K ops ops.toList s (Q .normal)|true=>ei K (.region id ops true) Q s
 | .cond c x y,Q,s=>wK (s.ev c) fun t=>Br t (VC K x Q s) (VC K y Q s)
 | .block id c,Q,s=>VC K c (Gw id Q) s
 | .exit id,Q,s=>Q (.exit id) s
 | .ret,Q,s=>Q .ret s
 | c,Q,s=>ei K c Q s
theorem vc{K:Cx}:∀ {c:Code} {Q:Exit->AS->Prop} {s:AS},VC K c Q s->ei K c Q s
 | .skip,Q,s,h=>fun σ G a w hs=>wpIn_skip ⟨σ,G,s,h,hs⟩
 | .seq x y,Q,s,h=>by
  have key:VC K x (qv (VC K y Q) Q) s->ei K (.seq x y) Q s:=fun h=>yv (ei.mono (fun e s q=>by cases e<;>first|exact q|exact vc q) (vc (c:=x) h))
  unfold VC wQ at h;split at h
  ·split at h
   ·exact h
   ·exact key h
  ·exact key h
 | .region id ops d,Q,s,h=>by
  cases d
  ·unfold VC at h;dsimp only at h;split at h
   ·exact h
   ·exact wP h
  ·exact h
 | .cond c x y,Q,s,h=>by
  unfold VC wK at h;split at h
  ·rename_i t e;refine L5 e ?_;cases t
   ·exact vc (by simpa using h)
   ·exact vc (by simpa using h)
  ·exact h.elim
 | .block id c,Q,s,h=>IW (vc (c:=c) h)
 | .exit id,Q,s,h=>fun σ G a w hs=>wpIn_exit ⟨σ,G,s,h,hs⟩
 | .ret,Q,s,h=>fun σ G a w hs=>wpIn_ret ⟨σ,G,s,h,hs⟩
 | .loop _,Q,s,h=>h
 | .rangeFunc _ _ _ _,Q,s,h=>h
 | .scope _,Q,s,h=>h
 | .label _,Q,s,h=>h
 | .goto _,Q,s,h=>h
 | .refuse _,Q,s,h=>h
def le(x y:D):Prop:=∀ G v,RD G x v->RD G y v
@[simp] theorem le_refl (x:D):le x x:=fun _ _ h=>h
@[simp] theorem le_nil (s:Nat):le (.v (.slice none 0 0)) (.fz s []):=fun G v h=>by
 cases h
 exact .fz s [] none 0 0 0 #[] 0 (0,0) ⟨Nat.le_refl _,by omega,fun _=>rfl,by simp⟩ (fun _ h=>by cases h) (fun h=>(h rfl).elim) (fun i j r x h=>by simp at h)
def leL:List D->List D->Prop
 | [],[]=>True
 | x :: l,y :: m=>le x y/\leL l m
 | _,_=>False
theorem leL_get:∀ {l m:List D},leL l m->l.length=m.length/\∀ (i:Nat) y,m[i]?=some y->∃ x,l[i]?=some x/\le x y
 | [],[],_=>⟨rfl,fun i y h=>by simp at h⟩
 | x :: l,y :: m,h=>by
  obtain⟨h1,h2⟩:=leL_get h.2;refine⟨by simp[h1],fun i z hz=>?_⟩;cases i with
  | zero=>simp at hz;subst hz;exact⟨x,rfl,h.1⟩
  | succ i=>simpa using h2 i z (by simpa using hz)
 | [],_ :: _,h=>h.elim
 | _ :: _,[],h=>h.elim
theorem P1{l m:List D} (h:leL l m):le (.tup l) (.tup m):=fun G v hv=>by
 obtain⟨h1,h2⟩:=leL_get h;cases hv with
 | tup l vs hl H=>exact .tup m vs (by omega) fun i y hy=>let ⟨x,q1,q2⟩:=h2 i y hy;q2 _ _ (H i x q1)
theorem P2{l m:List D} (h:leL l m):le (.agg l) (.agg m):=fun G v hv=>by
 obtain⟨h1,h2⟩:=leL_get h;cases hv with
 | agg l vs hl H=>exact .agg m vs (by omega) fun i y hy=>let ⟨x,q1,q2⟩:=h2 i y hy;q2 _ _ (H i x q1)
mutual
def lq:D->D->Prop
 | .v x,.v y=>x=y
 | .v x,.fz _ L=>x=.slice none 0 0/\L=[]
 | .agg l,.agg m=>lqL l m
 | .tup l,.tup m=>lqL l m
 | .fz s L,.fz s' L'=>s=s'/\L=L'
 | x,y=>x=y
def lqL:List D->List D->Prop
 | [],[]=>True
 | x :: l,y :: m=>lq x y/\lqL l m
 | _,_=>False
end
mutual
theorem lq_le:∀ (x y:D),lq x y->le x y
 | .v x,y,h=>by
  cases y<;>simp only[lq]at h<;>first|(subst h;exact le_refl _)|(obtain⟨rfl,rfl⟩:=h;exact le_nil _)|cases h
 | .agg l,y,h=>by
  cases y<;>simp only[lq]at h<;>first|exact P2 (lqL_le _ _ h)|cases h
 | .tup l,y,h=>by
  cases y<;>simp only[lq]at h<;>first|exact P1 (lqL_le _ _ h)|cases h
 | .fz s L,y,h=>by
  cases y<;>simp only[lq]at h<;>first|(obtain⟨rfl,rfl⟩:=h;exact le_refl _)|cases h
 | .fp s L i j,y,h=>by
  cases y<;>simp only[lq]at h<;>first|(cases h;exact le_refl _)|cases h
 | .fn f a c,y,h=>by
  cases y<;>simp only[lq]at h<;>first|(cases h;exact le_refl _)|cases h
theorem lqL_le:∀ (l m:List D),lqL l m->leL l m
 | [],[],_=>trivial
 | x :: l,y :: m,h=>⟨lq_le x y h.1,lqL_le l m h.2⟩
 | [],_ :: _,h=>h.elim
 | _ :: _,[],h=>h.elim
end
def wR(s:AS) (x:AV) (k:D->Prop):Prop:=
 match x with
 | .d x=>k x
 | .sl r n=>match s.blk r with
  | some (.row _ st L)=>(L.length<=140737488355328/\n=L.length)/\k (.fz st L)
  | _=>False
 | _=>False
def sn(s:AS):List AV->(List D->Prop)->Prop
 | [],k=>k []
 | x :: l,k=>wR s x fun y=>sn s l fun m=>k (y :: m)
def yy(s:AS) (x:AV) (k:D->Prop):Prop:=
 match x with
 | .agg l=>sn s l fun m=>k (.agg m)
 | .tup l=>sn s l fun m=>k (.tup m)
 | x=>wR s x k
def Mc(P:Program) (s:AS):ResultVar->(AV->Prop)->Prop
 | .tmp t,k=>k (s.ev (.tmp t))
 | .cell a t,k=>lW (s.ev (.tmp a))=true/\iJ P s t (s.ev (.tmp a)) k
def dt(P:Program) (s:AS):List ResultVar->(List AV->Prop)->Prop
 | [],k=>k []
 | r :: l,k=>Mc P s r fun x=>dt P s l fun m=>k (x :: m)
def fv(l:List AV):AV:=match l with|[x]=>x|l=>mkTup l
def BU(P:Program) (rs:List ResultVar) (post:D->Prop):Exit->AS->Prop
 | .ret,s|.normal,s=>dt P s rs fun l=>yy s (fv l) post
 | _,_=>False
open Classical in
noncomputable def qI(σ:Sg) (G:Gh) (s:AS) (w:World):Gh:=fun k=>if lV σ s k then(w.heap[k]?).bind (fun o=>if o.isCells then some o else none) else G k
theorem yz{K:Cx} {σ:Sg} {G:Gh} {s:AS} {a:Act} {w:World} (hs:Sat K σ G s a w):∀ k o,G k=some o->qI σ G s w k=some o:=fun k o h=>by
 unfold qI;rw[if_neg]
 ·exact h
 ·rintro⟨r,b,o',h1,h2,h3,rfl⟩;obtain⟨o2,e1,e2,e3⟩:=hs.own _ _ h1;rw[h2]at e1;cases e1;rw[(e3 h3).2]at h;cases h
theorem zr{K:Cx} {σ:Sg} {G:Gh} {s:AS} {a:Act} {w:World} (hE:∀ k,¬ K.E k) (hs:Sat K σ G s a w):Grow K.G0 K.w0 (qI σ G s w) w:=by
 refine⟨fun k o h=>yz hs k o (hs.gnew k o h),fun k o h hk=>?_,fun k o h=>?_⟩
 ·unfold qI at h;split at h
  ·rename_i e;obtain⟨r,b,o',h1,h2,h3,rfl⟩:=e;obtain⟨o2,e1,e2,e3⟩:=hs.own _ _ h1;rw[h2]at e1;cases e1;have:=(e3 h3).1;omega
  ·exact hs.gold k o h hk (hE k)
 ·unfold qI at h;split at h
  ·rename_i e;obtain⟨r,b,o',h1,h2,h3,rfl⟩:=e;obtain⟨o2,e1,e2,e3⟩:=hs.own _ _ h1;rw[h2]at e1;cases e1;obtain⟨ob,e4,_⟩:=e2.at h3;rw[e4,Option.bind_some]at h;split at h
   ·rename_i hc;cases h;exact⟨e4,hc⟩
   ·cases h
  ·exact⟨hs.gsub k o h,hs.gcell k o h⟩
theorem BV{K:Cx} {σ:Sg} {G:Gh} {s:AS} {a:Act} {w:World} {x:AV} {u:Value} {k:D->Prop} (hs:Sat K σ G s a w) (hx:RA σ G x u) (h:wR s x k):∃ y,k y/\RD (qI σ G s w) y u:=by
 unfold wR at h;split at h
 ·exact⟨_,h,hx.un.mono (yz hs)⟩
 ·rename_i r n;split at h
  ·rename_i ty st L hb;obtain⟨⟨h1,rfl⟩,h⟩:=h;refine⟨_,h,?_⟩;cases hx with
   | sl ho hm=>
    rename_i o;obtain⟨o',e1,⟨a1,a2,a3,a4,a5,a6⟩,e3⟩:=hs.own _ _ hb;rw[ho]at e1;cases e1;cases bE:o.nil
    ·obtain⟨cs,q1,q2,q3⟩:=a6 bE;refine .fz st L _ o.cap o.b 0 cs ty (0,0) ⟨a4,a2,fun e=>by simp at e,h1⟩ a3 (fun _=>⟨rfl,?_,?_⟩) (fun i j r x f1 f2=>by rw[Nat.zero_add];exact(q3 i j r x f1 f2).mono (yz hs))
     ·unfold qI;rw[if_pos ⟨_,_,_,hb,ho,bE,rfl⟩,q1];rfl
     ·rw[q2];have:=Nat.mul_le_mul_right st a4;omega
    ·have h0:=a5 bE;have hL:L=[]:=List.eq_nil_of_length_eq_zero (by omega);subst hL;exact .fz st [] _ o.cap 0 0 #[] 0 (0,0) ⟨by simp,a2,fun _=>h0,by simp⟩ a3 (fun h=>(h rfl).elim) (fun i j r x h=>by simp at h)
  ·exact h.elim
 ·exact h.elim
theorem so{K:Cx} {σ:Sg} {G:Gh} {s:AS} {a:Act} {w:World} (hs:Sat K σ G s a w):∀ {l:List AV} {us:List Value} {k:List D->Prop},us.length=l.length->(∀ (i:Nat) x,l[i]?=some x->RA σ G x (us[i]?.getD undef))->sn s l k →
  ∃ m,k m/\m.length=l.length/\∀ (i:Nat) y,m[i]?=some y->RD (qI σ G s w) y (us[i]?.getD undef)
 | [],us,k,hl,H,h=>⟨[],h,rfl,fun i y e=>by simp at e⟩
 | x :: l,us,k,hl,H,h=>by
  cases us with
  | nil=>simp at hl
  | cons u us=>
   obtain⟨y,h1,h2⟩:=BV hs (by simpa using H 0 x rfl) h;obtain⟨m,q1,q2,q3⟩:=so hs (us:=us) (by simpa using hl) (fun i x hx=>by simpa using H (i+1) x hx) h1;refine⟨_,q1,by simp[q2],fun i z hz=>?_⟩;cases i with
   | zero=>simp at hz;subst hz;exact h2
   | succ i=>simpa using q3 i z (by simpa using hz)
theorem EZ{K:Cx} {σ:Sg} {G:Gh} {s:AS} {a:Act} {w:World} {x:AV} {u:Value} {k:D->Prop} (hs:Sat K σ G s a w) (hx:RA σ G x u) (h:yy s x k):∃ y,k y/\RD (qI σ G s w) y u:=by
 unfold yy at h;split at h
 ·cases hx with
  | agg l vs hl H=>
   obtain⟨m,q1,q2,q3⟩:=so hs (us:=vs.toList) (by simpa using hl) (fun i x hx=>by simpa using H i x hx) h;exact⟨_,q1,.agg m vs (by omega) (fun i y hy=>by simpa using q3 i y hy)⟩
 ·cases hx with
  | tup l vs hl H=>
   obtain⟨m,q1,q2,q3⟩:=so hs (us:=vs.toList) (by simpa using hl) (fun i x hx=>by simpa using H i x hx) h;exact⟨_,q1,.tup m vs (by omega) (fun i y hy=>by simpa using q3 i y hy)⟩
 ·exact BV hs hx h
theorem lG{K:Cx} {σ:Sg} {G:Gh} {s:AS} {a:Act} {w:World} (hs:Sat K σ G s a w):∀ {l:List ResultVar} {k:List AV->Prop},dt K.P s l k →
  ∃ vs xs,(l.mapM fun|.tmp t=>pure (a.tmps.getD t undef)|.cell b t=>do loadVar t (<-asAddr (a.tmps.getD b undef)):Sem (List Value)).run K.P w=.ok vs w/\vs.length=xs.length/\(∀ (i:Nat) x,xs[i]?=some x->RA σ G x (vs[i]?.getD undef))/\k xs
 | [],k,h=>⟨[],[],by simp[go_sem],rfl,fun i x h=>by simp at h,h⟩
 | r :: l,k,h=>by
  have hd:∃ v x,((fun|.tmp t=>pure (a.tmps.getD t undef)|.cell b t=>do loadVar t (<-asAddr (a.tmps.getD b undef)):ResultVar->Sem Value) r).run K.P w=.ok v w/\RA σ G x v/\dt K.P s l fun m=>k (x :: m):=by
   cases r with
   | tmp t=>exact⟨_,_,rfl,by simpa[Act.eval] using hs.ev (.tmp t),h⟩
   | cell b t=>
    obtain⟨h1,h⟩:=h;have hb:=hs.ev (.tmp b);obtain⟨v,y,q1,q2,q3⟩:=BH hs hb h;obtain⟨bb,oo,e,_⟩:=qy h1 hb;refine⟨v,y,?_,q2,q3⟩;have e2:a.tmps.getD b undef=.pointer (some ⟨bb,oo,none⟩):=e;simp only[e2,asAddr,Sem.run_bind,Sem.run_pure,Result.andThen_ok];rw[e]at q1;simpa only[Instr.loadAt,Instr.sureAddr,Sem.run_bind,Sem.run_pure,Result.andThen_ok] using q1
  obtain⟨v,x,e1,e2,e3⟩:=hd;obtain⟨vs,xs,q1,q2,q3,q4⟩:=lG hs e3;refine⟨v :: vs,x :: xs,?_,by simp[q2],fun i z hz=>?_,q4⟩
  ·rw[List.mapM_cons,Sem.run_bind,e1,Result.andThen_ok,Sem.run_bind,q1,Result.andThen_ok,Sem.run_pure]
  ·cases i with
   | zero=>simp at hz;subst hz;exact e2
   | succ i=>simpa using q3 i z (by simpa using hz)
theorem pM{σ:Sg} {G:Gh} {vs:Array Value} {xs:List AV} (hl:vs.size=xs.length) (H:∀ (i:Nat) x,xs[i]?=some x->RA σ G x (vs[i]?.getD undef)):RA σ G (fv xs) (if h:vs.size=1 then vs[0] else .tuple vs):=by
 unfold fv;split
 ·rename_i x;have h1:vs.size=1:=by simpa using hl
  rw[dif_pos h1];have:=H 0 x rfl;simpa[h1] using this
 ·rename_i aV;rw[dif_neg]
  ·exact RA.mkTup hl H
  ·intro h1
   match xs,hl,aV with
   | [],hl,_=>rw[List.length_nil]at hl;omega
   | [x],_,aV=>exact aV x rfl
   | _ :: _ :: _,hl,_=>simp only[List.length_cons]at hl;omega
theorem yA{E:Nat->Prop} {w W:World} {Ds:List Nat} (h:∀ D∈Ds,w.heap.size<=D) (hb:BelowE E w W):BelowE E w (dK Ds W):=by
 have h2:=rj (B:=w.heap.size) (n:=0) (w:=W) h (Nat.zero_le _) ⟨rfl,rfl,rfl,Nat.le_refl _,fun k hk=>by omega⟩;refine⟨h2.os.trans hb.os,h2.tape.trans hb.tape,h2.output.trans hb.output,Nat.le_trans hb.size h2.size,fun k hk he=>?_⟩;rw[gZ _ _ (fun hm=>by have:=h k hm;omega)];exact hb.block k hk he
theorem Sat.taken{K:Cx} {σ:Sg} {G:Gh} {s:AS} {tmps:Array Value} {ds:List Nat} {w:World} (hs:Sat K σ G s { tmps,defers:=lw ds } w) (hd:bY K.w0.heap.size ds w) (oe:∀ d∈ds,∀ p∈K.pr,p.1≠d):Sat K σ G s { tmps,defers:=[] } (dK ds w):=by
 have xV:=F1 hd;refine⟨hs.size,hs.slot,fun r k hr=>?_,hs.inj,hs.next,fun k o h=>xV k o (hs.gsub k o h) (hs.gcell k o h),hs.gold,hs.gnew,hs.gcell,yA (fun D hD=>(hd.2 D hD).1) hs.below,⟨[],rfl,bY.nil _ _,fun _ h=>by cases h⟩,fun p hp=>⟨(gZ _ _ (fun hm=>oe _ hm p hp rfl)).trans (hs.pr p hp).1,(hs.pr p hp).2⟩,?_,hs.js⟩
 ·obtain⟨o,e1,e2,e3⟩:=hs.own _ _ hr;refine⟨o,e1,e2.mono (Mo.refl _ _) (fun hn=>?_),e3⟩;obtain⟨ob,e4,e5⟩:=e2.at hn
  exact gZ _ _ (fun hm=>by
   have:=(hd.2 _ hm).2
   rw[e4]at this;cases this;cases e5)
 ·obtain⟨C,c1,c2,c3,c4⟩:=hs.inv;have h2:=rj (B:=0) (n:=0) (w:=w) (W:=w) (Ds:=ds) (fun _ _=>Nat.zero_le _) (Nat.le_refl _) ⟨rfl,rfl,rfl,Nat.le_refl _,fun k hk=>by omega⟩;exact⟨C,c1,c2,fun k hk=>(by cases hk),hs.js _ _ _ _ _ _ _ c4 h2.os h2.tape h2.output h2.size (fun k hk aV=>gZ _ _ (fun hm=>aV (c3 k (List.mem_map.2 ⟨k,hm,rfl⟩)))) (fun _ _ e=>e) (fun _ _ e _=>.inl e) (fun k o e=>⟨xV k o (hs.gsub k o e) (hs.gcell k o e),hs.gcell k o e⟩) (fun _ e=>.inl e)⟩
def iF:Nat->List D->List (Nat × AV)
 | _,[]=>[]
 | i,x :: l=>(i,.d x) :: iF (i+1) l
theorem iF_get:∀ (l:List D) (i t:Nat),lk (iF i l) t=if i<=t then(l[t - i]?).map AV.d else none
 | [],i,t=>by simp[iF,lk]
 | x :: l,i,t=>by
  unfold iF lk;rw[iF_get l];by_cases e:t=i
  ·subst e;simp
  ·rw[if_neg e];by_cases e2:i<=t
   ·rw[if_pos e2,if_pos (by omega),show t - i=(t - (i+1))+1 by omega];simp
   ·rw[if_neg e2,if_neg (by omega)]
theorem RI{P:Program} {f:FuncId} {fn:Func} {c:Code} {args:List D} {n:Nat} {rs:List ResultVar} {r:D} (hf:P.funcs[f]?=some fn) (hb:fn.body=some c) (hn:fn.ntmps=n) (hr:fn.results.toList=rs) (hc:∀ us w,(callFunc f us).run P w=.ok (.enter f us) w) (mu cut:List Nat) (hl:decide (args.length<=n)=true)
  (h:∀ w0 G0,ei ⟨P,w0,G0,none,mu,cut,fun _=>False,fun _ _ _ _=>True,[],#[]⟩ c (BU P rs fun x=>lq x r) ⟨n,iF 0 args,[],0,0⟩):FC P f args r:=by
 have hl:args.length<=n:=by simpa using hl
 refine⟨hc,fun G us w hG bA gG=>?_⟩;refine cX hf hb ?_
 have lu:Sat ⟨P,w,G,none,mu,cut,fun _=>False,fun _ _ _ _=>True,[],#[]⟩ (fun _=>none) G ⟨n,iF 0 args,[],0,0⟩ { tmps:=us++Array.replicate (fn.ntmps - us.size) undef,defers:=[] } w:=by
  refine⟨by show _=n;rw[Array.size_append,Array.size_replicate];omega,fun t=>?_,fun r k h=>by simp[AS.blk,lk]at h,fun r r' k k' o o' h=>by simp[AS.blk,lk]at h,fun _ _=>rfl,fun k o h=>(hG k o h).1,fun k o h _ _=>h,fun k o h=>h,fun k o h=>(hG k o h).2,⟨rfl,rfl,rfl,Nat.le_refl _,fun _ _ _=>rfl⟩,⟨[],rfl,bY.nil _ _,fun _ h=>by cases h⟩,fun p hp=>(by cases hp),⟨fun _=>False,fun k ⟨r,b,o,h1,_⟩=>(by simp[AS.blk,lk]at h1),fun p hp=>(by cases hp),fun k hk=>(by cases hk),trivial⟩,fun _ _ _ _ _ _ _ _ _ _ _ _ _ _ _ _ _=>trivial⟩;simp only[AS.get,iF_get,Nat.zero_le,if_true,Nat.sub_zero];cases hq:args[t]? with
  | none=>exact .any _
  | some x=>
   have ht:=(List.getElem?_eq_some_iff.1 hq).1;rw[Array.getElem?_append_left (by rw[Array.size_append];omega),Array.getElem?_append_left (by omega)];exact .d (gG t x hq)
 refine wpIn_wide.1 (wpIn_mono (h w G _ _ _ _ lu) ?_);intro e a' w' hq
 have key:∀ σ G' s',dt P s' rs (fun l=>yy s' (fv l) fun x=>lq x r)->Sat ⟨P,w,G,none,mu,cut,fun _=>False,fun _ _ _ _=>True,[],#[]⟩ σ G' s' a' w'->bodyPostM Fence.wide 0 P fn (fun e w'=>∃ v G',e=.returned v/\Below w.heap.size w w'/\Grow G w G' w'/\RD G' r v) .ret a' w':=by
  intro σ G' s' h1 h2;obtain⟨tmps,defers⟩:=a';obtain⟨ds,hd,hm,oe⟩:=h2.marks;dsimp only at hd;subst hd;have h3:=h2.taken hm oe;obtain⟨vs,xs,q1,q2,q3,q4⟩:=lG h3 h1;obtain⟨y,q5,q6⟩:=EZ h3 (pM (vs:=vs.toArray) (by simpa using q2) (fun i x hx=>by simpa using q3 i x hx)) q4;have g:=zr (fun _ h=>h) h3;refine jj hm ?_ ⟨_,_,rfl,⟨h3.below.os,h3.below.tape,h3.below.output,h3.below.size,fun k hk=>h3.below.block k hk (fun h=>h)⟩,g,lq_le _ _ q5 _ _ q6⟩;unfold results;rw[Sem.run_bind,Array.mapM_eq_mapM_toList]
  show ((Sem.run P (List.mapM _ fn.results.toList >>= fun l=>pure l.toArray) _).andThen _)=_
  rw[Sem.run_bind,hr]
  erw [q1]
  rfl
 cases e with
 | ret=>obtain⟨σ,G',s',h1,h2⟩:=hq;exact key _ _ _ h1 h2
 | normal=>obtain⟨σ,G',s',h1,h2⟩:=hq;exact key _ _ _ h1 h2
 | exit id=>obtain⟨σ,G',s',h1,h2⟩:=hq;exact h1.elim
 | goto id=>obtain⟨σ,G',s',h1,h2⟩:=hq;exact h1.elim
 | panic c=>exact hq.elim
 | outgrown=>exact hq.elim
inductive Tq {β:Type} (b:β):Type
 | mk
inductive Tp (p:Prop):Type
 | mk
def Lz{α:Type} (k:α->Prop) (_:Tq k):α->Prop:=k
def L2{α β:Type} (k:α->β->Prop) (_:Tq k):α->β->Prop:=k
def I3(k:IntKind->Int->Int->Prop) (_:Tq k):IntKind->Int->Int->Prop:=k
@[simp] theorem Lz_app {α:Type} (k:α->Prop) (u:Tq k) (x:α):Lz k u x=k x:=rfl
@[simp] theorem L2_app {α β:Type} (k:α->β->Prop) (u:Tq k) (x:α) (y:β):L2 k u x y=k x y:=rfl
@[simp] theorem I3_app (k:IntKind->Int->Int->Prop) (u:Tq k) (a:IntKind) (x y:Int):I3 k u a x y=k a x y:=rfl
def Bz(t:Bool) (A B:Prop) (_:Tp A) (_:Tp B):Prop:=Br t A B
theorem Bz.split{t:Bool} {A B:Prop} {u:Tp A} {v:Tp B} (h1:t=true->A) (h2:t=false->B):Bz t A B u v:=Br.split h1 h2
@[simp] theorem Bz_true (A B:Prop) (u:Tp A) (v:Tp B):Bz true A B u v=A:=Br_true A B
@[simp] theorem Bz_false (A B:Prop) (u:Tp A) (v:Tp B):Bz false A B u v=B:=Br_false A B
def kT(K:Cx) (o:Oper) (k:AS->Prop) (_:Tq (K,o,k)) (s:AS):Prop:=jG K o s k
def AW(K:Cx) (c:Code) (Q:Exit->AS->Prop) (_:Tq (K,c,Q)) (s:AS):Prop:=ei K c Q s
def VS(K:Cx) (c:Code) (Q:Exit->AS->Prop) (_:Tq (K,c,Q)) (s:AS):Prop:=VC K c Q s
def OS(K:Cx) (ops l:List Oper) (k:AS->Prop) (_:Tq (K,ops,l,k)) (s:AS):Prop:=i8 K ops.toArray l s k
def TQ(n:AS->Prop) (Q:Exit->AS->Prop) (_:Tq (n,Q)):Exit->AS->Prop:=qv n Q
def BQ(i:Nat) (Q:Exit->AS->Prop) (_:Tq Q):Exit->AS->Prop:=Gw i Q
def RQ(P:Program) (rs:List ResultVar) (p:D->Prop) (_:Tq (P,rs,p)):Exit->AS->Prop:=BU P rs p
def ST(K:Cx) (o:Oper) (k:AS->Prop) (_:Tq (K,o,k)) (s:AS):Prop:=oG K o s k
def AC(K:Cx) (g:FuncId) (k:AV->AS->Prop) (_:Tq (K,k)) (l:List AV) (s:AS):Prop:=iK K g l s k
def ju(x:AV) (k:AV->Prop) (_:Tq k):Prop:=k x
@[simp] theorem withV_eq (x:AV) (k:AV->Prop) (u:Tq k):ju x k u=k x:=rfl
theorem vk{K:Cx} {id:Nat} {ops:Array Oper} {d:Bool} {y:Code} {Q:Exit->AS->Prop} {u} {s:AS} (h:VS K (.region id ops d) (TQ (VS K y Q .mk) Q .mk) .mk s):AW K (.seq (.region id ops d) y) Q u s:=
 yv (ei.mono (fun e s q=>by cases e<;>first|exact q|exact vc q) (vc h))
theorem vs{K:Cx} {c:Code} {Q:Exit->AS->Prop} {s:AS} (h:VS K c Q .mk s):ei K c Q s:=vc h
def gdst:List Oper->Nat->Option Nat
 | [],_=>none
 | o :: l,g=>if g=0 then o.dst else gdst l (g - 1)
theorem gdst_eq:∀ (l:List Oper) (g:Nat),gdst l g=(l[g]?).bind (·.dst)
 | [],g=>by simp[gdst]
 | o :: l,g=>by
  unfold gdst;rw[gdst_eq l];cases g<;>simp
def BW(x:AV) (want:Bool) (yes no:Prop) (_:Tp yes) (_:Tp no):Prop:=gB x (fun b=>Br (b == want) yes no) no
@[simp] theorem guardO_eq (b want:Bool) (yes no:Prop) (u:Tp yes) (v:Tp no):BW (.d (.v (.bool b))) want yes no u v=Bz (b == want) yes no .mk .mk:=rfl
@[simp] theorem guardO_undef (want:Bool) (yes no:Prop) (u:Tp yes) (v:Tp no):BW (.d (.v undef)) want yes no u v=no:=rfl
def NV(x:AV) (A B:Prop) (_:Tp A) (_:Tp B):Prop:=wK x fun t=>Br t A B
@[simp] theorem condO_eq (b:Bool) (A B:Prop) (u:Tp A) (v:Tp B):NV (.d (.v (.bool b))) A B u v=Bz b A B .mk .mk:=rfl
def tN(c:AV) (a b:AV) (k:AV->Prop) (_:Tq (a,b,k)):Prop:=wK c fun t=>k (if t then a else b)
@[simp] theorem pickO_true (a b:AV) (k:AV->Prop) (u):tN (.d (.v (.bool true))) a b k u=ju a k .mk:=rfl
@[simp] theorem pickO_false (a b:AV) (k:AV->Prop) (u):tN (.d (.v (.bool false))) a b k u=ju b k .mk:=rfl
theorem Sa(t:Bool) (a b:AV) (k:AV->Prop) (u):tN (.d (.v (.bool t))) a b k u=Bz t (ju a k .mk) (ju b k .mk) .mk .mk:=by cases t<;>simp
def BX(op:Op):Bool:=match op with|.defer _=>false|_=>true
def g1(t:Option Nat) (s:AS) (want:Bool) (yes no:Prop) (_:Tq (yes,no)):Prop:=match t with|some t=>gB (s.ev (.tmp t)) (fun b=>Br (b == want) yes no) no|none=>False
@[simp] theorem g1_eq (t:Nat) (s:AS) (want:Bool) (yes no:Prop) (u):g1 (some t) s want yes no u=BW (s.ev (.tmp t)) want yes no .mk .mk:=rfl
def gO(ops:List Oper) (g:Nat) (s:AS) (want:Bool) (yes no:Prop) (_:Tq (ops,g,yes,no)):Prop:=match gdst ops g with|some t=>gB (s.ev (.tmp t)) (fun b=>Br (b == want) yes no) no|none=>False
@[simp] theorem gO_eq (ops:List Oper) (g:Nat) (s:AS) (want:Bool) (yes no:Prop) (u):gO ops g s want yes no u=g1 (gdst ops g) s want yes no .mk:=rfl
section
variable (K : Cx) (Q : Exit → AS → Prop) (s : AS)
@[simp] theorem VC_skip (u):VS K .skip Q u s=Q .normal s:=by simp only[VS,VC]
theorem kr(x y:Code) (u) (h:∀ A B:Prop,wQ K x A B=B):VS K (.seq x y) Q u s=VS K x (TQ (VS K y Q .mk) Q .mk) .mk s:=by
 simp only[VS,VC,h];rfl
@[simp] theorem VC_seq_seq (x x' y:Code) (u):VS K (.seq (.seq x x') y) Q u s=VS K (.seq x x') (TQ (VS K y Q .mk) Q .mk) .mk s:=kr _ _ _ _ _ _ fun _ _=>rfl
@[simp] theorem VC_seq_skip (y:Code) (u):VS K (.seq .skip y) Q u s=VS K y Q .mk s:=(kr _ _ _ _ _ _ fun _ _=>rfl).trans (by simp only[VS,VC];rfl)
@[simp] theorem VC_seq_cond (c:Operand) (x x' y:Code) (u):VS K (.seq (.cond c x x') y) Q u s=VS K (.cond c x x') (TQ (VS K y Q .mk) Q .mk) .mk s:=kr _ _ _ _ _ _ fun _ _=>rfl
@[simp] theorem VC_seq_block (id:Nat) (x y:Code) (u):VS K (.seq (.block id x) y) Q u s=VS K (.block id x) (TQ (VS K y Q .mk) Q .mk) .mk s:=kr _ _ _ _ _ _ fun _ _=>rfl
@[simp] theorem VC_seq_loop (x y:Code) (u):VS K (.seq (.loop x) y) Q u s=AW K (.loop x) (TQ (VS K y Q .mk) Q .mk) .mk s:=(kr _ _ _ _ _ _ fun _ _=>rfl).trans (by simp only[VS,VC];rfl)
@[simp] theorem VC_seq_range (f:Operand) (ps:Array Tmp) (x x' y:Code) (u):VS K (.seq (.rangeFunc f ps x x') y) Q u s=AW K (.rangeFunc f ps x x') (TQ (VS K y Q .mk) Q .mk) .mk s:=(kr _ _ _ _ _ _ fun _ _=>rfl).trans (by simp only[VS,VC];rfl)
@[simp] theorem VC_seq_ret (y:Code) (u):VS K (.seq .ret y) Q u s=Q .ret s:=(kr _ _ _ _ _ _ fun _ _=>rfl).trans (by simp only[VS,VC];rfl)
@[simp] theorem VC_seq_exit (id:Nat) (y:Code) (u):VS K (.seq (.exit id) y) Q u s=Q (.exit id) s:=(kr _ _ _ _ _ _ fun _ _=>rfl).trans (by simp only[VS,VC];rfl)
def sq(b:Bool) (A B:Prop) (_:Tp A) (_:Tp B):Prop:=if b then A else B
@[simp] theorem cutO_true (A B:Prop) (u v):sq true A B u v=A:=by simp[sq]
@[simp] theorem cutO_false (A B:Prop) (u v):sq false A B u v=B:=by simp[sq]
@[simp] theorem VC_region (id:Nat) (l:List Oper) (u):VS K (.region id l.toArray false) Q u s=sq (K.cut.contains (id+1000)) (AW K (.region id l.toArray false) Q .mk s) (OS K l l (Q .normal) .mk s) .mk .mk:=by simp only[VS,VC,sq];rfl
@[simp] theorem VC_seq_region (id:Nat) (ops:Array Oper) (d:Bool) (y:Code) (u):VS K (.seq (.region id ops d) y) Q u s=sq (K.cut.contains id) (AW K (.seq (.region id ops d) y) Q .mk s) (VS K (.region id ops d) (TQ (VS K y Q .mk) Q .mk) .mk s) .mk .mk:=by
 simp only[VS,VC,wQ,sq,AW];rfl
@[simp] theorem VC_draw (id:Nat) (ops:Array Oper) (u):VS K (.region id ops true) Q u s=AW K (.region id ops true) Q .mk s:=by simp only[VS,VC];rfl
@[simp] theorem VC_cond (c:Operand) (x y:Code) (u):VS K (.cond c x y) Q u s=NV (s.ev c) (VS K x Q .mk s) (VS K y Q .mk s) .mk .mk:=by simp only[VS,VC];rfl
@[simp] theorem VC_block (id:Nat) (c:Code) (u):VS K (.block id c) Q u s=VS K c (BQ id Q .mk) .mk s:=by simp only[VS,VC];rfl
@[simp] theorem VC_exit (id:Nat) (u):VS K (.exit id) Q u s=Q (.exit id) s:=by simp only[VS,VC]
@[simp] theorem VC_ret (u):VS K .ret Q u s=Q .ret s:=by simp only[VS,VC]
@[simp] theorem VC_loop (c:Code) (u):VS K (.loop c) Q u s=AW K (.loop c) Q .mk s:=by simp only[VS,VC];rfl
@[simp] theorem VC_range (f:Operand) (ps:Array Tmp) (x y:Code) (u):VS K (.rangeFunc f ps x y) Q u s=AW K (.rangeFunc f ps x y) Q .mk s:=by simp only[VS,VC];rfl
@[simp] theorem TQ_normal (n:AS->Prop) (u):TQ n Q u .normal s=n s:=rfl
@[simp] theorem TQ_ret (n:AS->Prop) (u):TQ n Q u .ret s=Q .ret s:=rfl
@[simp] theorem TQ_exit (n:AS->Prop) (u) (id:Nat):TQ n Q u (.exit id) s=Q (.exit id) s:=rfl
@[simp] theorem BQ_normal (id:Nat) (u):BQ id Q u .normal s=Q .normal s:=rfl
@[simp] theorem BQ_ret (id:Nat) (u):BQ id Q u .ret s=Q .ret s:=rfl
@[simp] theorem BQ_exit (id j:Nat) (u):BQ id Q u (.exit j) s=if j=id then Q .normal s else Q (.exit j) s:=rfl
variable (ops : List Oper) (k : AS → Prop) (d : Option Nat) (op : Op) (ty : TypeId) (pos : String) (af : Array Edge)
@[simp] theorem OS_nil (u):OS K ops [] k u s=k s:=rfl
@[simp] theorem OS_plain (l:List Oper) (u):OS K ops (⟨d,op,ty,pos,af,none⟩ :: l) k u s=(BX op=true/\ST K ⟨d,op,ty,pos,af,none⟩ (OS K ops l k .mk) .mk s):=rfl
@[simp] theorem OS_guard (l:List Oper) (g:Nat) (want:Bool) (u):OS K ops (⟨d,op,ty,pos,af,some (g,want)⟩ :: l) k u s =
  (BX op=true/\gO ops g s want (ST K ⟨d,op,ty,pos,af,some (g,want)⟩ (OS K ops l k .mk) .mk s) (OS K ops l k .mk (s.put d (.d (.v undef)))) .mk):=by
 simp only[OS,i8,dr,gO,gdst_eq];rw[List.getElem?_toArray];cases (ops[g]?).bind (·.dst)<;>rfl
end
section
variable (K : Cx) (s : AS) (k : AS → Prop) (d : Option Nat) (ty : TypeId) (pos : String) (af : Array Edge) (g : Option (Nat × Bool))
@[simp] theorem st_move (x:Operand) (u):ST K ⟨d,.move x,ty,pos,af,g⟩ k u s=ju (s.ev x) (fun y=>k (s.put d y)) .mk:=rfl
@[simp] theorem st_assign (x:Operand) (u):ST K ⟨d,.assign x,ty,pos,af,g⟩ k u s=ju (s.ev x) (fun y=>k (s.put d y)) .mk:=rfl
@[simp] theorem st_pick (c a b:Operand) (u):ST K ⟨d,.pick c a b,ty,pos,af,g⟩ k u s=tN (s.ev c) (s.ev a) (s.ev b) (fun y=>k (s.put d y)) .mk:=rfl
def I'(P:Program) (s:AS) (t:TypeId) (z:Option (List Value)) (k:AV->AS->Prop):Prop:=match z with|some z=>qC s true t (z.map fun x=>.d (.v x)) k|none=>False
@[simp] theorem allocO_eq (P:Program) (s:AS) (t:TypeId) (z:List Value) (k:AV->AS->Prop):I' P s t (some z) k=qC s true t (z.map fun x=>.d (.v x)) k:=rfl
@[simp] theorem st_alloc (t:TypeId) (u):ST K ⟨d,.alloc t,ty,pos,af,g⟩ k u s=I' K.P s t (ai K.P t).z (L2 (fun y s'=>k (s'.put d y)) .mk):=rfl
@[simp] theorem st_box (t:TypeId) (x:Operand) (u):ST K ⟨d,.box t x,ty,pos,af,g⟩ k u s=qC s (own K d) t (s.ev x).cells (L2 (fun y s'=>k (s'.put d y)) .mk):=rfl
@[simp] theorem st_build (t:TypeId) (ps:Array (Nat × Operand)) (u):ST K ⟨d,.build t ps,ty,pos,af,g⟩ k u s=kR K.P t (ps.toList.map fun p=>(p.1,s.ev p.2)) (Lz (fun y=>k (s.put d y)) .mk):=rfl
@[simp] theorem st_bslice (t:TypeId) (n:Nat) (ps:Array (Nat × Operand)) (u):ST K ⟨d,.buildSlice t n ps,ty,pos,af,g⟩ k u s=nk K.P s (own K d) t n (ps.toList.map fun p=>(p.1,s.ev p.2)) (L2 (fun y s'=>k (s'.put d y)) .mk):=rfl
@[simp] theorem st_load (t:TypeId) (a:Operand) (u):ST K ⟨d,.load t a,ty,pos,af,g⟩ k u s=iJ K.P s t (s.ev a) (Lz (fun y=>k (s.put d y)) .mk):=rfl
@[simp] theorem st_store (t:TypeId) (a x:Operand) (u):ST K ⟨d,.store t a x,ty,pos,af,g⟩ k u s=nM K.P s t (s.ev a) (s.ev x) (Lz (fun s'=>k (s'.put d (.d (.v undef)))) .mk):=rfl
@[simp] theorem st_nil (x:Operand) (u):ST K ⟨d,.nilCheck x,ty,pos,af,g⟩ k u s=(lW (s.ev x)=true/\ju (s.ev x) (fun y=>k (s.put d y)) .mk):=rfl
@[simp] theorem st_bin (op:BinOp) (t t':TypeId) (x y:Operand) (u):ST K ⟨d,.binOp op t x y t',ty,pos,af,g⟩ k u s =
  oE (s.ev x) (s.ev y) (L2 (fun a b=>mC op a b (Lz (fun u=>k (s.put d (.d (.v u)))) .mk) (kT K ⟨d,.binOp op t x y t',ty,pos,af,g⟩ k .mk s)) .mk) (kT K ⟨d,.binOp op t x y t',ty,pos,af,g⟩ k .mk s):=rfl
@[simp] theorem st_un (op:UnOp) (t:TypeId) (x:Operand) (u):ST K ⟨d,.unOp op t x,ty,pos,af,g⟩ k u s =
  one (s.ev x) (Lz (fun a=>sf op a (Lz (fun u=>k (s.put d (.d (.v u)))) .mk) (kT K ⟨d,.unOp op t x,ty,pos,af,g⟩ k .mk s)) .mk) (kT K ⟨d,.unOp op t x,ty,pos,af,g⟩ k .mk s):=rfl
@[simp] theorem st_conv (t t':TypeId) (x:Operand) (u):ST K ⟨d,.convert t t' x,ty,pos,af,g⟩ k u s=qE K.P t t' (s.ev x) (Lz (fun y=>k (s.put d y)) .mk):=rfl
@[simp] theorem st_func (f:Fn) (a c:Array Operand) (u):ST K ⟨d,.makeFunc f a c,ty,pos,af,g⟩ k u s=ju (mkFn f (a.toList.map s.ev) (c.toList.map s.ev)) (fun y=>k (s.put d y)) .mk:=rfl
@[simp] theorem st_make (t:TypeId) (l c:Operand) (u):ST K ⟨d,.makeSlice t l c,ty,pos,af,g⟩ k u s=wN K.P s t (s.ev l) (s.ev c) (L2 (fun y s'=>k (s'.put d y)) .mk):=rfl
@[simp] theorem st_slice (t:TypeId) (x:Operand) (lo hi:Option Operand) (u):ST K ⟨d,.slice t x lo hi none,ty,pos,af,g⟩ k u s=kS K.P s t (s.ev x) (lo.map s.ev) (hi.map s.ev) (L2 (fun y s'=>k (s'.put d y)) .mk):=rfl
@[simp] theorem st_faddr (t:TypeId) (x:Operand) (f:Nat) (u):ST K ⟨d,.fieldAddr t x f,ty,pos,af,g⟩ k u s=fM K.P t (s.ev x) f (Lz (fun y=>k (s.put d y)) .mk):=rfl
@[simp] theorem st_field (t:TypeId) (x:Operand) (f:Nat) (u):ST K ⟨d,.field t x f,ty,pos,af,g⟩ k u s=mg K.P t (s.ev x) f (Lz (fun y=>k (s.put d y)) .mk):=rfl
@[simp] theorem st_iaddr (t:TypeId) (x i:Operand) (u):ST K ⟨d,.indexAddr t x i,ty,pos,af,g⟩ k u s=cN K.P s t (s.ev x) (s.ev i) (Lz (fun y=>k (s.put d y)) .mk):=rfl
@[simp] theorem st_index (t:TypeId) (x i:Operand) (u):ST K ⟨d,.index t x i,ty,pos,af,g⟩ k u s=kP K.P t (s.ev x) (s.ev i) (Lz (fun y=>k (s.put d y)) .mk):=rfl
@[simp] theorem st_extract (x:Operand) (i:Nat) (u):ST K ⟨d,.extract x i,ty,pos,af,g⟩ k u s=gM (s.ev x) i (Lz (fun y=>k (s.put d y)) .mk):=rfl
@[simp] theorem st_len (x:Operand) (t:TypeId) (u):ST K ⟨d,.call ⟨.builtin .len,#[x],#[t]⟩,ty,pos,af,g⟩ k u s=qz K.P t (s.ev x) (Lz (fun y=>k (s.put d y)) .mk):=rfl
@[simp] theorem st_append (x y:Operand) (t t':TypeId) (u):ST K ⟨d,.call ⟨.builtin .append,#[x,y],#[t,t']⟩,ty,pos,af,g⟩ k u s=iw K.P s t t' (s.ev x) (s.ev y) (L2 (fun y s'=>k (s'.put d y)) .mk):=rfl
@[simp] theorem st_min (args:Array Operand) (ts:Array TypeId) (u):ST K ⟨d,.call ⟨.builtin .min,args,ts⟩,ty,pos,af,g⟩ k u s=jt (args.toList.map s.ev) (I3 (fun kk a b=>k (s.put d (.d (.v (.int kk (if b<a then b else a)))))) .mk):=rfl
@[simp] theorem st_max (args:Array Operand) (ts:Array TypeId) (u):ST K ⟨d,.call ⟨.builtin .max,args,ts⟩,ty,pos,af,g⟩ k u s=jt (args.toList.map s.ev) (I3 (fun kk a b=>k (s.put d (.d (.v (.int kk (if b > a then b else a)))))) .mk):=rfl
def cY(K:Cx) (f:AV) (l:List AV) (s:AS) (ky:Bool->AS->Prop) (k:AV->AS->Prop) (_:Tq (K,ky,k)):Prop:=BS K f l s ky (mX K f l s k)
@[simp] theorem st_call (f:Operand) (args:Array Operand) (ts:Array TypeId) (u):ST K ⟨d,.call ⟨.value f,args,ts⟩,ty,pos,af,g⟩ k u s=cY K (s.ev f) (args.toList.map s.ev) s (fun b s'=>k (s'.put d (.d (.v (.bool b))))) (fun y s'=>k (s'.put d y)) .mk:=rfl
end
def E0(K:Cx) (g:FuncId) (k:AV->AS->Prop) (_:Tq (K,k)) (ds:List D) (s:AS):Prop:=iK K g (ds.map AV.d) s k
theorem ap{K:Cx} {g:FuncId} {k:AV->AS->Prop} {u} {ds:List D} {s:AS} {r:D} (h:FC K.P g ds r) (hk:k (.d r) s):E0 K g k u ds s:=BP h hk
def wS(K:Cx) (g:FuncId) (l:List AV) (s:AS) (k:AV->AS->Prop) (_:Tq (K,l,k)):Option (List D)->Prop
 | some ds=>E0 K g k .mk ds s
 | none=>AC K g k .mk l s
@[simp] theorem onD_some (K:Cx) (g:FuncId) (l:List AV) (s:AS) (k:AV->AS->Prop) (u) (ds:List D):wS K g l s k u (some ds)=E0 K g k .mk ds s:=rfl
@[simp] theorem onD_none (K:Cx) (g:FuncId) (l:List AV) (s:AS) (k:AV->AS->Prop) (u):wS K g l s k u none=AC K g k .mk l s:=rfl
theorem BY(K:Cx) (g:FuncId) (l:List AV) (s:AS) (k:AV->AS->Prop):iK K g l s k=wS K g l s k .mk (allD l):=by
 cases h:allD l with
 | none=>rfl
 | some ds=>rw[allD_eq h];rfl
@[simp] theorem acall_func (K:Cx) (g:FuncId) (a c:Array Value) (l:List AV) (s:AS) (k:AV->AS->Prop):mX K (.d (.v (.func (.func g) a c))) l s k=(a=#[]/\c=#[]/\wS K g l s k .mk (allD l)):=by
 rw[<-BY];rfl
@[simp] theorem acall_clos (K:Cx) (g:FuncId) (a c:List D) (l:List AV) (s:AS) (k:AV->AS->Prop):mX K (.d (.fn (.func g) a c)) l s k=wS K g (a.map AV.d++l++c.map AV.d) s k .mk (allD (a.map AV.d++l++c.map AV.d)):=by
 rw[<-BY];rfl
@[simp] theorem acall_own (K:Cx) (g:FuncId) (a c:List AV) (l:List AV) (s:AS) (k:AV->AS->Prop):mX K (.fn (.func g) a c) l s k=wS K g (a++l++c) s k .mk (allD (a++l++c)):=by
 rw[<-BY];rfl
def P3(K:Cx) (yl:Nat) (k:Bool->AS->Prop) (_:Tq (K,k)) (ds:List D) (s:AS):Prop:=AY K yl (ds.map AV.d) s k
def RX(K:Cx) (yl:Nat) (l:List AV) (s:AS) (k:Bool->AS->Prop) (_:Tq (K,l,k)):Option (List D)->Prop
 | some ds=>P3 K yl k .mk ds s
 | none=>AY K yl l s k
@[simp] theorem onY_some (K:Cx) (yl:Nat) (l:List AV) (s:AS) (k:Bool->AS->Prop) (u) (ds:List D):RX K yl l s k u (some ds)=P3 K yl k .mk ds s:=rfl
@[simp] theorem cY_func (K:Cx) (g:FuncId) (a c:Array Value) (l:List AV) (s:AS) (ky:Bool->AS->Prop) (k:AV->AS->Prop) (u):cY K (.d (.v (.func (.func g) a c))) l s ky k u=(a=#[]/\c=#[]/\wS K g l s k .mk (allD l)):=acall_func _ _ _ _ _ _ _
@[simp] theorem cY_clos (K:Cx) (g:FuncId) (a c:List D) (l:List AV) (s:AS) (ky:Bool->AS->Prop) (k:AV->AS->Prop) (u):cY K (.d (.fn (.func g) a c)) l s ky k u=wS K g (a.map AV.d++l++c.map AV.d) s k .mk (allD (a.map AV.d++l++c.map AV.d)):=acall_clos _ _ _ _ _ _ _
@[simp] theorem cY_own (K:Cx) (g:FuncId) (a c:List AV) (l:List AV) (s:AS) (ky:Bool->AS->Prop) (k:AV->AS->Prop) (u):cY K (.fn (.func g) a c) l s ky k u=wS K g (a++l++c) s k .mk (allD (a++l++c)):=acall_own _ _ _ _ _ _ _
@[simp] theorem cY_yield (K:Cx) (yl:Nat) (a c:Array Value) (l:List AV) (s:AS) (ky:Bool->AS->Prop) (k:AV->AS->Prop) (u):cY K (.d (.v (.func (.yield yl) a c))) l s ky k u=(a=#[]/\c=#[]/\RX K yl l s ky .mk (allD l)):=by
 show (_/\_/\AY K yl l s ky)=_
 cases h:allD l with
 | none=>rfl
 | some ds=>rw[allD_eq h];rfl
@[simp] theorem bits64:IntKind.i64.bits=64:=rfl
attribute [simp] gdst BX AS.ev AS.get AS.put AS.blk AS.add AS.set lk iF AV.conc D.conc concs fv lq lqL mkTup mkAgg mkFn allD one oE wK mC yw sf kO IX zp iJ mg wL kP gM AP lW fM cN qz qC nM qD kR pg nk wN si iw ka lY kS jt qE own BU dt Mc yy wR sn AV.cell D.cell AV.cells tJ P0 nL Value.oneCell'
def vF(ρ:List Nat):AV->Option AV
 | .d x=>some (.d x)
 | .any=>some .any
 | .ptr r i j=>match ρ[r]? with|some q=>some (.ptr q i j)|none=>none
 | .sl r n=>match ρ[r]? with|some q=>some (.sl q n)|none=>none
 | .mp r=>match ρ[r]? with|some q=>some (.mp q)|none=>none
 | .bs r j n=>match ρ[r]? with|some q=>some (.bs q j n)|none=>none
 | _=>none
def kU(ρ:List Nat):List AV->Option (List AV)
 | []=>some []
 | x :: l=>match vF ρ x,kU ρ l with|some y,some m=>some (y :: m)|_,_=>none
def BZ(ρ:List Nat):AV->Option AV
 | .agg l=>(kU ρ l).map AV.agg
 | .tup l=>(kU ρ l).map AV.tup
 | .fn f a c=>match kU ρ a,kU ρ c with|some b,some e=>some (.fn f b e)|_,_=>none
 | x=>vF ρ x
def gP(ρ:List Nat) (σ:Sg):Sg:=fun r=>match ρ[r]? with|some q=>σ q|none=>none
theorem E3{ρ:List Nat} {σ:Sg} {G:Gh} {x y:AV} {u:Value} (h:vF ρ x=some y) (hy:RA σ G y u):RA (gP ρ σ) G x u:=by
 unfold vF at h;split at h
 ·cases h;exact .d hy.un
 ·exact .any _
 ·split at h
  ·rename_i q hq;cases h;cases hy with
   | ptr ho=>exact .ptr (by unfold gP;rw[hq];exact ho)
  ·cases h
 ·split at h
  ·rename_i q hq;cases h;cases hy with
   | sl ho hn=>exact .sl (by unfold gP;rw[hq];exact ho) hn
  ·cases h
 ·split at h
  ·rename_i q hq;cases h;cases hy with
   | mp ho=>exact .mp (by unfold gP;rw[hq];exact ho)
  ·cases h
 ·split at h
  ·rename_i q hq;cases h;cases hy with
   | bs ho=>exact .bs (by unfold gP;rw[hq];exact ho)
  ·cases h
 ·cases h
theorem yB{ρ:List Nat} {σ:Sg} {G:Gh}:∀ {l m:List AV},kU ρ l=some m->m.length=l.length/\∀ (i:Nat) x,l[i]?=some x->∃ y,m[i]?=some y/\∀ u,RA σ G y u->RA (gP ρ σ) G x u
 | [],m,h=>by cases h;exact⟨rfl,fun i x e=>by simp at e⟩
 | x :: l,m,h=>by
  unfold kU at h;split at h
  ·rename_i y m' e1 e2;cases h;obtain⟨h1,h2⟩:=yB e2;refine⟨by simp[h1],fun i z hz=>?_⟩;cases i with
   | zero=>simp at hz;subst hz;exact⟨y,rfl,fun u hu=>E3 e1 hu⟩
   | succ i=>simpa using h2 i z (by simpa using hz)
  ·cases h
theorem O9{ρ:List Nat} {σ:Sg} {G:Gh} {x y:AV} {u:Value} (h:BZ ρ x=some y) (hy:RA σ G y u):RA (gP ρ σ) G x u:=by
 have key:∀ {l m:List AV} {vs:Array Value},kU ρ l=some m->vs.size=m.length->(∀ (i:Nat) x,m[i]?=some x->RA σ G x (vs[i]?.getD undef))->vs.size=l.length/\∀ (i:Nat) x,l[i]?=some x->RA (gP ρ σ) G x (vs[i]?.getD undef):=by
  intro l m vs h h1 h2;obtain⟨q1,q2⟩:=yB (σ:=σ) (G:=G) h;exact⟨by omega,fun i x hx=>let ⟨y,e1,e2⟩:=q2 i x hx;e2 _ (h2 i y e1)⟩
 unfold BZ at h;split at h
 ·rename_i l;cases hm:kU ρ l with
  | none=>rw[hm]at h;cases h
  | some m=>
   rw[hm]at h;cases h;cases hy with
   | agg _ vs h1 h2=>obtain⟨q1,q2⟩:=key hm h1 h2;exact .agg _ _ q1 q2
 ·rename_i l;cases hm:kU ρ l with
  | none=>rw[hm]at h;cases h
  | some m=>
   rw[hm]at h;cases h;cases hy with
   | tup _ vs h1 h2=>obtain⟨q1,q2⟩:=key hm h1 h2;exact .tup _ _ q1 q2
 ·split at h
  ·rename_i b e e1 e2;cases h;cases hy with
   | fn _ _ _ us cs ha hc HA HC=>
    obtain⟨q1,q2⟩:=key e1 ha HA;obtain⟨q3,q4⟩:=key e2 hc HC;exact .fn _ _ _ _ _ q1 q3 q2 q4
  ·cases h
 ·exact E3 h hy
def B0(ρ:List Nat) (s:AS):List (Nat × AV)->Prop
 | []=>True
 | (t,x) :: l=>BZ ρ x=some (s.get t)/\B0 ρ s l
def GB(ρ:List Nat):Blk->Blk->Prop
 | .row ty st L,.row ty' st' L'=>ty=ty'/\st=st'/\L=L'
 | .box ty l,.box ty' l'=>ty=ty'/\kU ρ l'=some l
 | .map f,.map g=>f=g
 | _,_=>False
def yC(ρ:List Nat) (s:AS):List (Nat × Option Blk)->Prop
 | []=>True
 | (_,none) :: l=>yC ρ s l
 | (r,some b) :: l=>(match ρ[r]? with|some q=>(match s.blk q with|some b'=>GB ρ b' b|none=>False)|none=>False)/\yC ρ s l
structure sub (ρ:List Nat) (s s':AS):Prop where
 n:s.n=s'.n
 F:B0 ρ s s'.F
 H:yC ρ s s'.H
 nd:ρ.Nodup
 nx:ρ.length<=s'.nx
 yc:s'.yc=s.yc
theorem B1{ρ:List Nat} {s:AS}:∀ {l:List (Nat × AV)},B0 ρ s l->∀ t x,lk l t=some x->BZ ρ x=some (s.get t)
 | [],_,t,x,h=>by cases h
 | (t',x') :: l,h,t,x,e=>by
  unfold lk at e;split at e
  ·rename_i ht;cases e;subst ht;exact h.1
  ·exact B1 h.2 t x e
theorem ke{ρ:List Nat} {s:AS}:∀ {l:List (Nat × Option Blk)},yC ρ s l->∀ r b,(lk l r).join=some b->∃ q b',ρ[r]?=some q/\s.blk q=some b'/\GB ρ b' b
 | [],_,r,b,h=>by simp[lk]at h
 | (r',none) :: l,h,r,b,e=>by
  unfold lk at e;split at e
  ·simp at e
  ·exact ke (l:=l) h r b e
 | (r',some b') :: l,h,r,b,e=>by
  unfold lk at e;split at e
  ·rename_i hr;simp at e;subst hr e;have h1:=h.1;split at h1
   ·rename_i q hq;split at h1
    ·rename_i b2 hb;exact⟨q,b2,hq,hb,h1⟩
    ·exact h1.elim
   ·exact h1.elim
  ·exact ke (l:=l) h.2 r b e
theorem Sat.sub{K:Cx} {σ:Sg} {G:Gh} {s s':AS} {a:Act} {w:World} {ρ:List Nat} (hs:Sat K σ G s a w) (h:YtiocdkdkndpgkaaGreat.sub ρ s s'):Sat K (gP ρ σ) G s' a w:=by
 obtain⟨h1,h2,h3,h4,h5,h6⟩:=h
 have hq:∀ r o,gP ρ σ r=some o->∃ q,ρ[r]?=some q/\σ q=some o:=fun r o e=>by
  unfold gP at e;split at e
  ·rename_i q hq;exact⟨q,hq,e⟩
  ·cases e
 refine⟨hs.size.trans h1,fun t=>?_,fun r b hr=>?_,fun r r' b b' o o' hr jC ho cT hn ms e=>?_,fun r hr=>?_,hs.gsub,hs.gold,hs.gnew,hs.gcell,hs.below,hs.marks,hs.pr,?_,hs.js⟩
 ·unfold AS.get;cases e:lk s'.F t with
  | none=>exact .any _
  | some x=>exact O9 (B1 h2 t x e) (hs.slot t)
 ·obtain⟨q,b',e1,e2,e3⟩:=ke h3 r b hr;obtain⟨o,f1,f2,f3⟩:=hs.own _ _ e2;refine⟨o,by unfold gP;rw[e1];exact f1,?_,f3⟩;cases b<;>cases b'<;>simp only[GB]at e3
  ·obtain⟨rfl,rfl,rfl⟩:=e3;exact f2
  ·obtain⟨rfl,e3⟩:=e3;obtain⟨a1,a2,a3,cs,a4,a5,a6⟩:=f2;obtain⟨q1,q2⟩:=yB (σ:=σ) (G:=G) e3;refine⟨by omega,a2,fun x hx=>?_,cs,a4,by omega,fun j x hx=>let ⟨y,g1,g2⟩:=q2 j x hx;g2 _ (a6 j y g1)⟩;obtain⟨j,hj,rfl⟩:=List.getElem_of_mem hx;obtain⟨y,g1,g2⟩:=q2 j _ (List.getElem?_eq_getElem hj);have g3:=a3 y (List.mem_of_getElem? g1)
   have:∀ {l m:List AV},kU ρ l=some m->∀ (i:Nat) x y,l[i]?=some x->m[i]?=some y->vF ρ x=some y:=by
    intro l;induction l with
    | nil=>intro m _ i x y e;simp at e
    | cons z l ih=>
     intro m h i x y ex ey;unfold kU at h;split at h
     ·rename_i y' m' e1 e2;cases h;cases i with
      | zero=>simp at ex ey;subst ex ey;exact e1
      | succ i=>exact ih e2 i x y (by simpa using ex) (by simpa using ey)
     ·cases h
   have k8:=this e3 j _ y (List.getElem?_eq_getElem hj) g1
   revert k8 g3
   generalize (_:List AV)[j]=z;intro g3 k8;unfold vF at k8;split at k8<;>first|(cases k8;done)|(cases k8;first|exact g3|rfl)|skip
   all_goals rfl
  ·subst e3;exact f2
 ·obtain⟨q,b2,e1,e2,_⟩:=ke h3 r b hr;obtain⟨q',b2',e1',e2',_⟩:=ke h3 r' b' jC;obtain⟨p,f1,f2⟩:=hq r o ho;obtain⟨p',f1',f2'⟩:=hq r' o' cT;rw[e1]at f1;cases f1;rw[e1']at f1';cases f1';have:=hs.inj _ _ _ _ _ _ e2 e2' f2 f2' hn ms e;subst this;have g1:=(List.getElem?_eq_some_iff.1 e1);have g2:=(List.getElem?_eq_some_iff.1 e1');obtain⟨i1,i2⟩:=g1;obtain⟨j1,j2⟩:=g2;exact(List.getElem_inj (h₀:=i1) (h₁:=j1) h4).1 (by rw[i2,j2])
 ·unfold gP;rw[List.getElem?_eq_none (by omega)]
 ·obtain⟨C,c1,c2,c3,c4⟩:=hs.inv;refine⟨C,?_,c2,c3,by rw[h6];exact c4⟩;rintro n ⟨r,b,o,f1,f2,f3,rfl⟩;obtain⟨q,b',e1,e2,_⟩:=ke h3 r b f1;obtain⟨q',g1,g2⟩:=hq r o f2;rw[e1]at g1;cases g1;exact c1 _ ⟨q,b',o,e2,g2,f3,rfl⟩
theorem ml{K:Cx} {c:Code} {Q:Exit->AS->Prop} {u} {s:AS} (t ty st:Nat) (h:s.get t=.d (.v (.slice none 0 0))) (k:AW K c Q .mk ((s.add (.row ty st [])).re t (.sl s.nx 0))):AW K c Q u s:=fun σ G a w hs=>by
 obtain⟨σ',h1,h2,h3⟩:=hs.nilRow ty st;refine k _ _ _ _ (h1.re ?_);have:=hs.slot t;rw[h]at this;rw[this.un.val];exact h3
def ar{X:Type} (I:X->AS) (μ:X->Nat) (C:X->Prop) (x:X) (_:Tq (I,μ,C,x)) (s:AS):Prop:=∃ y ρ,(C y/\μ y<μ x)/\sub ρ s (I y)
theorem ar.of{X:Type} {I:X->AS} {μ:X->Nat} {C:X->Prop} {x:X} {u} {s:AS} (y:X) (ρ:List Nat) (h:sub ρ s (I y)) (hc:C y/\μ y<μ x:=by first|omega|(dsimp only;omega)|(constructor<;>dsimp only<;>first|omega|simp_all)):ar I μ C x u s:=⟨y,ρ,hc,h⟩
theorem E4{K:Cx} {c:Code} {Q:Exit->AS->Prop} {u} {s:AS} {X:Type} (I:X->AS) (μ:X->Nat) (C:X->Prop) (x0:X) (hC:C x0) (ρ:List Nat) (h0:sub ρ s (I x0))
  (h:∀ x,C x->VS K c (TQ (ar I μ C x .mk) Q .mk) .mk (I x)):AW K (.loop c) Q u s:=
 L7 I μ C (fun σ G a w hs=>⟨x0,_,_,hC,hs.sub h0⟩) fun x hx=>ei.mono (fun e s q=>by
  cases e<;>first|exact q|exact fun σ G a w hs=>let ⟨y,ρ,h1,h2⟩:=q;⟨y,_,_,h1,hs.sub h2⟩) (vs (h x hx))
attribute [simp] vF kU BZ B0 GB yC AS.re
@[simp] theorem sub_iff (ρ:List Nat) (s s':AS):sub ρ s s'↔s.n=s'.n/\B0 ρ s s'.F/\yC ρ s s'.H/\ρ.Nodup/\ρ.length<=s'.nx/\s'.yc=s.yc:=⟨fun ⟨a,b,c,d,e,f⟩=>⟨a,b,c,d,e,f⟩,fun ⟨a,b,c,d,e,f⟩=>⟨a,b,c,d,e,f⟩⟩
abbrev JT:=Nat->World->Gh->(Nat->Prop)->Prop
def uz(G:Gh) (w:World):Prop:=∀ k o,G k=some o->w.heap[k]?=some o/\o.isCells=true
def Ja(G:Gh) (ds:List D) (us:Array Value):Prop:=us.size=ds.length/\∀ (i:Nat) x,ds[i]?=some x->RD G x (us[i]?.getD undef)
theorem Sat.gok{K:Cx} {σ:Sg} {G:Gh} {s:AS} {a:Act} {w:World} (h:Sat K σ G s a w):uz G w:=fun k o e=>⟨h.gsub k o e,h.gcell k o e⟩
structure Stb (C:Nat->Prop) (W:World) (G:Gh) (W':World) (G':Gh):Prop where
 os:W'.os=W.os
 tape:W'.tape=W.tape
 output:W'.output=W.output
 size:W.heap.size<=W'.heap.size
 keep:∀ k,C k->W'.heap[k]?=W.heap[k]?
 up:∀ k o,G k=some o->G' k=some o
 new:∀ k o,G' k=some o->C k->G k=some o
theorem Stb.refl(C:Nat->Prop) (W:World) (G:Gh):Stb C W G W G:=⟨rfl,rfl,rfl,Nat.le_refl _,fun _ _=>rfl,fun _ _ h=>h,fun _ _ h _=>h⟩
theorem Stb.mono{C D:Nat->Prop} {W W':World} {G G':Gh} (h:Stb C W G W' G') (hd:∀ k,D k->C k):Stb D W G W' G':=⟨h.os,h.tape,h.output,h.size,fun k hk=>h.keep k (hd k hk),h.up,fun k o e hk=>h.new k o e (hd k hk)⟩
theorem Stb.trans{C:Nat->Prop} {W W' W2:World} {G G' G2:Gh} (h:Stb C W G W' G') (k:Stb C W' G' W2 G2):Stb C W G W2 G2:=
 ⟨k.os.trans h.os,k.tape.trans h.tape,k.output.trans h.output,Nat.le_trans h.size k.size,fun i hi=>(k.keep i hi).trans (h.keep i hi),fun i o e=>k.up _ _ (h.up i o e),fun i o e hi=>h.new i o (k.new i o e hi) hi⟩
structure Oth (D:Nat->Prop) (W:World) (G:Gh) (D':Nat->Prop) (W':World) (G':Gh):Prop where
 os:W'.os=W.os
 tape:W'.tape=W.tape
 output:W'.output=W.output
 size:W.heap.size<=W'.heap.size
 keep:∀ k,k<W.heap.size->¬ D k->W'.heap[k]?=W.heap[k]?
 up:∀ k o,G k=some o->G' k=some o
 old:∀ k o,G' k=some o->k<W.heap.size->G k=some o\/D k
 gok:uz G' W'
 dd:∀ k,D' k->D k\/(W.heap.size<=k/\k<W'.heap.size)
theorem JS.go{J:JT} (h:JS J) {i:Nat} {W W':World} {G G':Gh} {C C':Nat->Prop} (j:J i W G C) (o:Oth C W G C' W' G'):J i W' G' C':=h _ _ _ _ _ _ _ j o.os o.tape o.output o.size o.keep o.up o.old o.gok o.dd
theorem JS.mk{J:JT} (h:∀ i W G C W' G' C',J i W G C->Oth C W G C' W' G'->J i W' G' C'):JS J:=fun i W G C W' G' C' j a b c d e f g k l=>h i W G C W' G' C' j ⟨a,b,c,d,e,f,g,k,l⟩
theorem Sat.turn{K:Cx} {σ:Sg} {G G':Gh} {s:AS} {a:Act} {w w':World} {C:Nat->Prop} (hs:Sat K σ G s a w) (c1:∀ k,lV σ s k->C k) (c2:∀ p∈K.pr,C p.1) (c3:∀ k,cH k∈a.defers->C k) (st:Stb C w G w' G') (gok:uz G' w')
  (hE:∀ k,k<K.w0.heap.size->¬ K.E k->w'.heap[k]?=w.heap[k]?/\∀ o,G' k=some o->G k=some o) (n:Nat) (hJ:∃ C',(∀ k,C k->C' k)/\K.J n w' G' C'):Sat K σ G' { s with yc:=n } a w':=by
 have hm:Mo σ G σ G':=⟨fun _ _ h=>h,st.up⟩
 refine⟨hs.size,fun t=>(hs.slot t).mono hm,fun r k hr=>?_,hs.inj,hs.next,fun k o h=>(gok k o h).1,fun k o h hk he=>hs.gold k o ((hE k hk he).2 o h) hk he,fun k o h=>st.up _ _ (hs.gnew k o h),fun k o h=>(gok k o h).2,
  ⟨st.os.trans hs.below.os,st.tape.trans hs.below.tape,st.output.trans hs.below.output,Nat.le_trans hs.below.size st.size,fun k hk he=>(hE k hk he).1.trans (hs.below.block k hk he)⟩,?_,fun p hp=>⟨(st.keep _ (c2 p hp)).trans (hs.pr p hp).1,(hs.pr p hp).2⟩,?_,hs.js⟩
 ·obtain⟨o,e1,e2,e3⟩:=hs.own r k hr;refine⟨o,e1,e2.mono hm (fun hn=>st.keep _ (c1 _ ⟨r,k,o,hr,e1,hn,rfl⟩)),fun hn=>⟨(e3 hn).1,?_⟩⟩;cases e:G' o.b with
  | none=>rfl
  | some x=>have:=st.new _ _ e (c1 _ ⟨r,k,o,hr,e1,hn,rfl⟩);rw[(e3 hn).2]at this;cases this
 ·obtain⟨ds,h1,h2,hq⟩:=hs.marks;exact⟨ds,h1,⟨h2.1,fun D hD=>⟨(h2.2 D hD).1,(st.keep _ (c3 D (h1 ▸ List.mem_map.2 ⟨D,hD,rfl⟩))).trans (h2.2 D hD).2⟩⟩,hq⟩
 ·obtain⟨C',q1,q2⟩:=hJ;exact⟨C',fun k h=>q1 k (c1 k h),fun p hp=>q1 _ (c2 p hp),fun k hk=>q1 _ (c3 k hk),q2⟩
def oI(P:Program) (yl:Nat) (J:JT) (L:List (List D)):Prop:=
 ∀ i ds G C W us,L[i]?=some ds->J (i+1) W G C->uz G W->Ja G ds us →
  YieldAt Fence.wide 0 P yl us W fun e W'=>∃ b G',e=.returned (.bool b)/\J (if b then i+2 else 0) W' G' C/\Stb C W G W' G'/\uz G' W'
def SQ(P:Program) (gf:FuncId) (c:List D) (L:List (List D)):Prop:=
 (∀ us w,(callFunc gf us).run P w=.ok (.enter gf us) w)/\∀ (yl:Nat) (J:JT) (G:Gh) (w:World) (lb:Array Value),JS J->uz G w->Ja G c lb->oI P yl J L->J 1 w G (fun _=>False) →
  Calls P gf (#[.func (.yield yl) #[] #[]]++lb) w fun e W'=>∃ v G',e=.returned v/\(J (L.length+1) W' G' (fun _=>False)\/J 0 W' G' (fun _=>False))
theorem wT{P:Program} {l:Nat} {us:Array Value} {W:World} {R R':Ending->World->Prop} (h:YieldAt Fence.wide 0 P l us W R) (k:∀ e w,R e w->R' e w):YieldAt Fence.wide 0 P l us W R':=
 let ⟨a,b,c,d,r1,r2⟩:=h;⟨a,b,c,d,r1,r2.mono k⟩
theorem zs{K:Cx} {yl:Nat} {k:Bool->AS->Prop} {u} {ds:List D} {s:AS} {L:List (List D)} (i:Nat) (hR:oI K.P yl K.J L) (hL:L[i]?=some ds) (hy:s.yc=i+1) (h1:k true { s with yc:=i+2 }) (h0:k false { s with yc:=0 }) (hE:∀ n,K.E n:=by exact fun _=>trivial) :
  P3 K yl k u ds s:=by
 intro σ G a w us hs bA gG;obtain⟨C,c1,c2,c3,c4⟩:=hs.inv;rw[hy]at c4;refine wT (hR i ds G C w us hL c4 hs.gok ⟨by simpa using bA,fun j x hx=>(gG j (.d x) (by simp[hx])).un⟩) ?_;rintro e W' ⟨b,G',rfl,hJ,st,gok⟩;refine⟨b,σ,G',_,rfl,hs.turn c1 c2 c3 st gok (fun k _ he=>(he (hE k)).elim) _ ⟨C,fun _ h=>h,hJ⟩,?_⟩;cases b
 ·exact h0
 ·exact h1
def P4(m:Nat):Exit->AS->Prop
 | .ret,s|.normal,s=>s.yc=m\/s.yc=0
 | _,_=>False
@[simp] theorem sqQ_ret (m:Nat) (s:AS):P4 m .ret s=(s.yc=m\/s.yc=0):=rfl
@[simp] theorem sqQ_normal (m:Nat) (s:AS):P4 m .normal s=(s.yc=m\/s.yc=0):=rfl
theorem qJ{P:Program} {f:FuncId} {fn:Func} {c:Code} {cs:List D} {n:Nat} {L:List (List D)} (hf:P.funcs[f]?=some fn) (hb:fn.body=some c) (hn:fn.ntmps=n) (hr:fn.results=#[]) (hc:∀ us w,(callFunc f us).run P w=.ok (.enter f us) w) (mu cut:List Nat) (hl:decide (cs.length+1<=n)=true)
  (h:∀ w0 G0 yl J,oI P yl J L->ei ⟨P,w0,G0,none,mu,cut,fun _=>True,J,[],#[]⟩ c (P4 (L.length+1)) ⟨n,iF 0 (.v (.func (.yield yl) #[] #[]) :: cs),[],0,1⟩):SQ P f cs L:=by
 have hl:cs.length+1<=n:=by simpa using hl
 refine⟨hc,fun yl J G w lb hJ hG lv hR hj=>?_⟩;refine cX hf hb ?_;obtain⟨us,gG⟩:∃ us,#[Value.func (.yield yl) #[] #[]]++lb=us:=⟨_,rfl⟩
 have hrd2:Ja G (.v (.func (.yield yl) #[] #[]) :: cs) us:=by
  subst gG;refine⟨by simp[lv.1];omega,fun i x hx=>?_⟩;cases i with
  | zero=>
   have e:(#[Value.func (.yield yl) #[] #[]]++lb)[0]?=some (.func (.yield yl) #[] #[]):=by rw[Array.getElem?_append_left (by simp)];rfl
   rw[e];cases hx;exact .v _
  | succ i=>
   have:=lv.2 i x (by simpa using hx);rw[Array.getElem?_append_right (by simp)];simpa using this
 rw[gG];have bA:us.size=cs.length+1:=hrd2.1
 have lu:Sat ⟨P,w,G,none,mu,cut,fun _=>True,J,[],#[]⟩ (fun _=>none) G ⟨n,iF 0 (.v (.func (.yield yl) #[] #[]) :: cs),[],0,1⟩ { tmps:=us++Array.replicate (fn.ntmps - us.size) undef,defers:=[] } w:=by
  refine⟨by show _=n;rw[Array.size_append,Array.size_replicate];omega,fun t=>?_,fun r k h=>by simp[AS.blk,lk]at h,fun r r' k k' o o' h=>by simp[AS.blk,lk]at h,fun _ _=>rfl,fun k o h=>(hG k o h).1,fun k o h _ _=>h,fun k o h=>h,fun k o h=>(hG k o h).2,⟨rfl,rfl,rfl,Nat.le_refl _,fun _ _ _=>rfl⟩,⟨[],rfl,bY.nil _ _,fun _ h=>by cases h⟩,fun p hp=>(by cases hp),⟨fun _=>False,fun k ⟨r,b,o,h1,_⟩=>(by simp[AS.blk,lk]at h1),fun p hp=>(by cases hp),fun k hk=>(by cases hk),hj⟩,hJ⟩;simp only[AS.get,iF_get,Nat.zero_le,if_true,Nat.sub_zero];cases hq:(D.v (.func (.yield yl) #[] #[]) :: cs)[t]? with
  | none=>exact .any _
  | some x=>
   have ht:=(List.getElem?_eq_some_iff.1 hq).1;rw[List.length_cons]at ht;rw[Array.getElem?_append_left (by rw[Array.size_append];omega),Array.getElem?_append_left (by omega)];exact .d (hrd2.2 t x hq)
 refine wpIn_wide.1 (wpIn_mono (h w G _ _ hR _ _ _ _ lu) ?_);intro e a' w' hq
 have key:∀ σ G' s',(s'.yc=L.length+1\/s'.yc=0)->Sat ⟨P,w,G,none,mu,cut,fun _=>True,J,[],#[]⟩ σ G' s' a' w'->bodyPostM Fence.wide 0 P fn (fun e W'=>∃ v G',e=.returned v/\(J (L.length+1) W' G' (fun _=>False)\/J 0 W' G' (fun _=>False))) .ret a' w':=by
  intro σ G' s' h1 h2;obtain⟨tmps,defers⟩:=a';obtain⟨ds,hd,hm,oe⟩:=h2.marks;dsimp only at hd;subst hd;have h3:=h2.taken hm oe;obtain⟨C,_,_,_,c4⟩:=h3.inv;have c5:J s'.yc (dK ds w') G' (fun _=>False):=hJ.go c4 ⟨rfl,rfl,rfl,Nat.le_refl _,fun _ _ _=>rfl,fun _ _ e=>e,fun _ _ e _=>.inl e,h3.gok,fun _ h=>h.elim⟩;refine jj (v:=.tuple #[]) hm ?_ ⟨_,G',rfl,?_⟩
  ·unfold results;rw[hr];simp[go_sem]
  ·rcases h1 with h1|h1<;>rw[h1]at c5
   ·exact .inl c5
   ·exact .inr c5
 cases e with
 | ret=>obtain⟨σ,G',s',h1,h2⟩:=hq;exact key _ _ _ h1 h2
 | normal=>obtain⟨σ,G',s',h1,h2⟩:=hq;exact key _ _ _ h1 h2
 | exit id=>obtain⟨σ,G',s',h1,h2⟩:=hq;exact h1.elim
 | goto id=>obtain⟨σ,G',s',h1,h2⟩:=hq;exact h1.elim
 | panic c=>exact hq.elim
 | outgrown=>exact hq.elim
structure Av (K:Cx) (B l:Nat) (σ:Sg) (C:Nat->Prop) (G:Gh) (s:AS) (a:Act) (W:World) (D:Nat->Prop):Prop where
 sat:Sat K σ G s a W
 c1:∀ k,lV σ s k->C k
 c2:∀ p∈K.pr,C p.1
 c3:∀ k,cH k∈a.defers->C k
 cl:C l
 cd:∀ k,C k->¬ D k/\k<W.heap.size
 dd:∀ k,D k->B<=k/\k<W.heap.size
 b1:B<=W.heap.size
 b0:K.w0.heap.size<=B
 j:K.J s.yc W G (fun k=>D k\/C k)
theorem Av.oth{K:Cx} {B l:Nat} {σ:Sg} {C D D':Nat->Prop} {G G':Gh} {s:AS} {a:Act} {W W':World} (h:Av K B l σ C G s a W D) (o:Oth D W G D' W' G'):Av K B l σ C G' s a W' D':=by
 have j:K.J s.yc W' G' (fun k=>D' k\/C k):=h.sat.js.go h.j ⟨o.os,o.tape,o.output,o.size,fun k hk hn=>o.keep k hk (fun hd=>hn (.inl hd)),o.up,fun k x e hk=>(o.old k x e hk).imp_right .inl,o.gok,fun k hk=>by
  rcases hk with hk|hk
  ·exact(o.dd k hk).imp_left .inl
  ·exact .inl (.inr hk)⟩
 have low:∀ k,k<K.w0.heap.size->¬ D k:=fun k hk hd=>by have:=(h.dd k hd).1;have:=h.b0;omega
 refine⟨h.sat.turn h.c1 h.c2 h.c3 ⟨o.os,o.tape,o.output,o.size,fun k hk=>o.keep k (h.cd k hk).2 (h.cd k hk).1,o.up,fun k x e hk=>(o.old k x e (h.cd k hk).2).resolve_right (h.cd k hk).1⟩ o.gok
  (fun k hk _=>have aG:k<W.heap.size:=by have:=h.b0;have:=h.b1;omega
   ⟨o.keep k aG (low k hk),fun x e=>(o.old k x e aG).resolve_right (low k hk)⟩) s.yc ⟨_,fun _ h=>.inr h,j⟩,
  h.c1,h.c2,h.c3,h.cl,fun k hk=>⟨fun hd=>?_,Nat.lt_of_lt_of_le (h.cd k hk).2 o.size⟩,fun k hk=>?_,Nat.le_trans h.b1 o.size,h.b0,j⟩
 ·rcases o.dd k hd with e|e
  ·exact(h.cd k hk).1 e
  ·have:=(h.cd k hk).2;omega
 ·rcases o.dd k hk with e|e
  ·exact⟨(h.dd k e).1,Nat.lt_of_lt_of_le (h.dd k e).2 o.size⟩
  ·exact⟨Nat.le_trans h.b1 e.1,e.2⟩
def JR(K:Cx) (B l:Nat) (r:Loop) (I:Nat->AS) (Cp:Nat->Prop) (Q:Exit->AS->Prop) (a:Act):JT
 | 0,W,G,D=>∃ c s σ C,W.heap[l]?=some (.loop { r with state:=.done,pending:=some c })/\(c=.ret/\Q .ret s\/∃ id,c=.exit id/\Q (.exit id) s)/\Av K B l σ C G s a W D
 | i+1,W,G,D=>W.heap[l]?=some (.loop r)/\Cp i/\∃ σ C,Av K B l σ C G (I i) a W D
theorem JR.js(K:Cx) (B l:Nat) (r:Loop) (I:Nat->AS) (Cp:Nat->Prop) (Q:Exit->AS->Prop) (a:Act):JS (JR K B l r I Cp Q a):=JS.mk fun i W G C W' G' C' j o=>by
 cases i with
 | zero=>
  obtain⟨c,s,σ,X,h1,h2,h3⟩:=j;exact⟨c,s,σ,X,(o.keep _ (h3.cd _ h3.cl).2 (h3.cd _ h3.cl).1).trans h1,h2,h3.oth o⟩
 | succ i=>
  obtain⟨h1,hc,σ,X,h3⟩:=j;exact⟨(o.keep _ (h3.cd _ h3.cl).2 (h3.cd _ h3.cl).1).trans h1,hc,σ,X,h3.oth o⟩
def J2(J:JT) (D:Nat->Prop) (W0:World) (G0:Gh):JT:=fun i W G X=>J i W G (fun k=>D k\/X k)/\Stb D W0 G0 W G/\(∀ k,X k->¬ D k/\k<W.heap.size)/\∀ k,D k->k<W.heap.size
theorem J2.js{J:JT} (h:JS J) (D:Nat->Prop) (W0:World) (G0:Gh):JS (J2 J D W0 G0):=JS.mk fun i W G X W' G' X' j o=>by
 obtain⟨j1,st,j3,j4⟩:=j;have hX:∀ k,D k->¬ X k:=fun k hd hx=>(j3 k hx).1 hd
 refine⟨h.go j1 ⟨o.os,o.tape,o.output,o.size,fun k hk hn=>o.keep k hk (fun hx=>hn (.inr hx)),o.up,fun k x e hk=>(o.old k x e hk).imp_right .inr,o.gok,fun k hk=>?_⟩,
  st.trans ⟨o.os,o.tape,o.output,o.size,fun k hk=>o.keep k (j4 k hk) (hX k hk),o.up,fun k x e hk=>(o.old k x e (j4 k hk)).resolve_right (hX k hk)⟩,fun k hk=>?_,fun k hk=>Nat.lt_of_lt_of_le (j4 k hk) o.size⟩
 ·rcases hk with hk|hk
  ·exact .inl (.inl hk)
  ·exact(o.dd k hk).imp_left .inr
 ·rcases o.dd k hk with e|e
  ·exact⟨(j3 k e).1,Nat.lt_of_lt_of_le (j3 k e).2 o.size⟩
  ·exact⟨fun hd=>by have:=j4 k hd;omega,e.2⟩
theorem J2.rnd{P:Program} {yl:Nat} {J:JT} {L:List (List D)} (h:oI P yl J L) (D:Nat->Prop) (W0:World) (G0:Gh):oI P yl (J2 J D W0 G0) L:=fun i ds G C W us hL hj gok rd=>by
 obtain⟨j1,st,j3,j4⟩:=hj;refine wT (h i ds G _ W us hL j1 gok rd) ?_;rintro e W' ⟨b,G',rfl,k1,k2,k3⟩;exact⟨b,G',rfl,⟨k1,st.trans (k2.mono fun _ h=>.inl h),fun k hk=>⟨(j3 k hk).1,Nat.lt_of_lt_of_le (j3 k hk).2 k2.size⟩,fun k hk=>Nat.lt_of_lt_of_le (j4 k hk) k2.size⟩,k2.mono fun _ h=>.inr h,k3⟩
def zt(n:Nat):List (Nat × AV)->List (Nat × AV)
 | []=>[]
 | (t,x) :: l=>if t<n then(t,x) :: (t+n,x) :: zt n l else(t+n,x) :: zt n l
def und(n:Nat):List (Nat × AV)->List (Nat × AV)
 | []=>[]
 | (t,x) :: l=>if n<=t then(t - n,x) :: und n l else und n l
theorem B2(n:Nat):∀ (l:List (Nat × AV)) (t:Nat),lk (zt n l) t=if t<n then lk l t else lk l (t - n)
 | [],t=>by simp[zt,lk]
 | (u,x) :: l,t=>by
  unfold zt;by_cases hu:u<n
  ·rw[if_pos hu];simp only[lk,B2 n l];by_cases ht:t<n
   ·rw[if_pos ht,if_pos ht];by_cases e:t=u
    ·rw[if_pos e,if_pos e]
    ·rw[if_neg e,if_neg e,if_neg (by omega)]
   ·rw[if_neg ht,if_neg ht,if_neg (by omega)];by_cases e:t=u+n
    ·rw[if_pos e,if_pos (by omega)]
    ·rw[if_neg e,if_neg (by omega)]
  ·rw[if_neg hu];simp only[lk,B2 n l];by_cases ht:t<n
   ·rw[if_pos ht,if_pos ht,if_neg (by omega),if_neg (by omega)]
   ·rw[if_neg ht,if_neg ht];by_cases e:t=u+n
    ·rw[if_pos e,if_pos (by omega)]
    ·rw[if_neg e,if_neg (by omega)]
theorem wU(n:Nat):∀ (l:List (Nat × AV)) (t:Nat),lk (und n l) t=lk l (t+n)
 | [],t=>by simp[und,lk]
 | (u,x) :: l,t=>by
  unfold und;split
  ·rename_i h;simp only[lk,wU n l];by_cases e:t=u - n
   ·rw[if_pos e,if_pos (by omega)]
   ·rw[if_neg e,if_neg (by omega)]
  ·rename_i h;simp only[lk,wU n l];rw[if_neg (by omega)]
def base(s:AS):AS:=⟨s.n,zt s.n s.F,s.H,s.nx,s.yc⟩
def mY(s:AS):AS:=⟨s.n,und s.n s.F,s.H,s.nx,s.yc⟩
def ph(s:AS):List Tmp->List D->AS
 | p :: ps,x :: ds=>ph (s.put (some p) (.d x)) ps ds
 | _,_=>s
def RB(n:Nat) (p:Prop) (I:AS) (Q:Exit->AS->Prop) (_:Tq (p,I,Q)):Exit->AS->Prop
 | .normal,s=>s.n=n/\p/\∃ ρ,sub ρ (mY s) I
 | .ret,s=>s.n=n/\Q .ret (mY s)
 | .exit id,s=>s.n=n/\Q (.exit id) (mY s)
 | _,_=>False
@[simp] theorem RB_normal (n:Nat) (p:Prop) (I:AS) (Q:Exit->AS->Prop) (u) (s:AS):RB n p I Q u .normal s=(s.n=n/\p/\∃ ρ,sub ρ (mY s) I):=rfl
@[simp] theorem RB_ret (n:Nat) (p:Prop) (I:AS) (Q:Exit->AS->Prop) (u) (s:AS):RB n p I Q u .ret s=(s.n=n/\Q .ret (mY s)):=rfl
@[simp] theorem RB_exit (n:Nat) (p:Prop) (I:AS) (Q:Exit->AS->Prop) (u) (s:AS) (id:Nat):RB n p I Q u (.exit id) s=(s.n=n/\Q (.exit id) (mY s)):=rfl
def NQ:Exit->AS->Prop:=fun _ _=>False
abbrev KR(K:Cx) (l:Nat) (r:Loop) (J:JT) (mk:List (Nat × Obj)) (fr:Array Value):Cx:=⟨K.P,K.w0,K.G0,some l,K.mu,K.cut,K.E,J,(l,.loop r) :: mk,fr⟩
abbrev ss(ds:List Nat) (pr:List (Nat × Obj)):List (Nat × Obj):=ds.map (fun D=>(D,Obj.deferred (some [])))++pr
theorem Av.round{K:Cx} {B l:Nat} {r:Loop} {σ:Sg} {C D:Nat->Prop} {G:Gh} {s:AS} {a:Act} {W:World} {ds:List Nat} (h:Av K B l σ C G s a W D) (hl:W.heap[l]?=some (.loop r)) (oN:a.defers=lw ds) (hm:bY K.w0.heap.size ds W) :
  Sat (KR K l r (J2 K.J D W G) (ss ds K.pr) (a.tmps++K.fr)) σ G (base s) { tmps:=a.tmps,defers:=[] } W:=by
 have hs:=h.sat;refine⟨hs.size,fun t=>?_,hs.own,hs.inj,hs.next,hs.gsub,hs.gold,hs.gnew,hs.gcell,hs.below,⟨[],rfl,bY.nil _ _,fun _ h=>by cases h⟩,fun p hp=>?_,⟨C,h.c1,fun p hp=>?_,fun k hk=>(by cases hk),h.j,Stb.refl _ _ _,h.cd,fun k hk=>(h.dd k hk).2⟩,J2.js hs.js _ _ _⟩
 ·have bA:a.tmps.size=s.n:=hs.size
  show RA σ G ((lk (zt s.n s.F) t).getD .any) ((a.tmps++(a.tmps++K.fr))[t]?.getD undef)
  rw[B2];by_cases ht:t<s.n
  ·rw[if_pos ht,Array.getElem?_append_left (by omega)];have:=hs.slot t
   rwa [Array.getElem?_append_left (by omega)]at this
  ·rw[if_neg ht,Array.getElem?_append_right (by omega),bA];exact hs.slot (t - s.n)
 ·rcases List.mem_cons.1 hp with rfl|hp
  ·exact⟨hl,rfl⟩
  ·rcases List.mem_append.1 hp with hp|hp
   ·obtain⟨d,hd,rfl⟩:=List.mem_map.1 hp;exact⟨(hm.2 d hd).2,rfl⟩
   ·exact hs.pr p hp
 ·rcases List.mem_cons.1 hp with rfl|hp
  ·exact h.cl
  ·rcases List.mem_append.1 hp with hp|hp
   ·obtain⟨d,hd,rfl⟩:=List.mem_map.1 hp;exact h.c3 d (oN ▸ List.mem_map.2 ⟨d,hd,rfl⟩)
   ·exact h.c2 p hp
theorem Sat.putL{K:Cx} {σ:Sg} {G:Gh} {s:AS} {a:Act} {W:World} {l:Nat} {r0 r':Loop} (hs:Sat K σ G s a W) (hl:W.heap[l]?=some (.loop r0)) (hb:K.w0.heap.size<=l) {pr':List (Nat × Obj)} (hp:∀ p∈pr',(W.putObj l (.loop r')).heap[p.1]?=some p.2/\Gv p.2=false)
  (hq:∀ d,cH d∈a.defers->∀ p∈pr',p.1≠d)
  {C:Nat->Prop} (c1:∀ k,lV σ s k->C k) (c2:∀ p∈pr',C p.1) (c3:∀ k,cH k∈a.defers->C k) (cl:C l) (hJ:K.J s.yc W G C):Sat { K with pr:=pr' } σ G s a (W.putObj l (.loop r'))/\K.J s.yc (W.putObj l (.loop r')) G C:=by
 have ne:∀ k o,W.heap[k]?=some o->(∀ r,o≠Obj.loop r)->(W.putObj l (.loop r')).heap[k]?=W.heap[k]?:=fun k o e hn=>World.putObj_heap_other (fun h=>by subst h;rw[hl]at e;cases e;exact hn _ rfl)
 have gok:uz G (W.putObj l (.loop r')):=fun k o e=>⟨(ne k o (hs.gsub k o e) (fun r h=>by have:=hs.gcell k o e;rw[h]at this;cases this)).trans (hs.gsub k o e),hs.gcell k o e⟩
 have j:K.J s.yc (W.putObj l (.loop r')) G C:=hs.js.go hJ ⟨rfl,rfl,rfl,by simp,fun k hk hn=>World.putObj_heap_other (fun e=>hn (e ▸ cl)),fun _ _ e=>e,fun _ _ e _=>.inl e,gok,fun _ e=>.inl e⟩;refine⟨⟨hs.size,hs.slot,fun r k hr=>?_,hs.inj,hs.next,fun k o e=>(gok k o e).1,hs.gold,hs.gnew,hs.gcell,⟨hs.below.os,hs.below.tape,hs.below.output,by simpa using hs.below.size,fun k hk he=>(World.putObj_heap_other (by have:k<K.w0.heap.size:=hk;omega)).trans (hs.below.block k hk he)⟩,?_,hp,⟨C,c1,c2,c3,j⟩,hs.js⟩,j⟩
 ·obtain⟨o,e1,e2,e3⟩:=hs.own r k hr;refine⟨o,e1,e2.mono (Mo.refl _ _) (fun hn=>?_),e3⟩;obtain⟨ob,e4,e5⟩:=e2.at hn;exact ne _ _ e4 (fun r h=>by subst h;cases e5)
 ·obtain⟨ds,h1,h2,_⟩:=hs.marks;exact⟨ds,h1,⟨h2.1,fun D hD=>⟨(h2.2 D hD).1,(ne _ _ (h2.2 D hD).2 (fun r h=>by cases h)).trans (h2.2 D hD).2⟩⟩,fun d hd=>hq d (h1 ▸ List.mem_map.2 ⟨d,hd,rfl⟩)⟩
theorem Sat.endRound{K:Cx} {B l:Nat} {r:Loop} {σ:Sg} {D:Nat->Prop} {W0:World} {G0 G:Gh} {s:AS} {a a':Act} {W:World} {ds:List Nat} (h:Sat (KR K l r (J2 K.J D W0 G0) (ss ds K.pr) (a.tmps++K.fr)) σ G s a' W) (hJS:JS K.J) (hn:s.n=a.tmps.size) (oN:a.defers=lw ds)
  (nd:ds.Nodup) (hB:∀ d∈ds,K.w0.heap.size<=d) (oe:∀ d∈ds,∀ p∈K.pr,p.1≠d) (hd:∀ k,D k->B<=k) (b1:B<=W0.heap.size) (b0:K.w0.heap.size<=B):∃ C,Av K B l σ C G (mY s) a W D/\Stb D W0 G0 W G:=by
 obtain⟨C,c1,c2,c3,j1,j2,j3,j4⟩:=h.inv
 have cm:∀ k,cH k∈a.defers->C k:=fun k hk=>by
  rw[oN]at hk;obtain⟨d,h1,h2⟩:=List.mem_map.1 hk;have:d=k:=by injection h2 with h2 _;injection h2
  subst this;exact c2 (d,.deferred (some [])) (List.mem_cons_of_mem _ (List.mem_append_left _ (List.mem_map.2 ⟨d,h1,rfl⟩)))
 have cp:∀ p∈K.pr,C p.1:=fun p hp=>c2 p (List.mem_cons_of_mem _ (List.mem_append_right _ hp))
 refine⟨C,⟨⟨hn.symm,fun t=>?_,h.own,h.inj,h.next,h.gsub,h.gold,h.gnew,h.gcell,h.below,⟨ds,oN,⟨nd,fun d OH=>⟨hB d OH,(h.pr (d,.deferred (some [])) (List.mem_cons_of_mem _ (List.mem_append_left _ (List.mem_map.2 ⟨d,OH,rfl⟩)))).1⟩⟩,oe⟩,fun p hp=>h.pr p (List.mem_cons_of_mem _ (List.mem_append_right _ hp)),
  ⟨fun k=>D k\/C k,fun k hk=>.inr (c1 k hk),fun p hp=>.inr (cp p hp),fun k hk=>.inr (cm k hk),j1⟩,hJS⟩,c1,cp,cm,c2 _ (List.mem_cons_self ..),j3,fun k hk=>⟨hd k hk,j4 k hk⟩,Nat.le_trans b1 j2.size,b0,j1⟩,j2⟩
 have:=h.slot (t+s.n);have bA:a'.tmps.size=s.n:=h.size;rw[Array.getElem?_append_right (by omega),bA,Nat.add_sub_cancel]at this
 show RA σ G ((lk (und s.n s.F) t).getD .any) _
 rw[wU];exact this
theorem B4{K:Cx} {σ:Sg} {G:Gh} {w:World}:∀ {ps:List Tmp} {ds:List D} {us:List Value} {s:AS} {a:Act},Sat K σ G s a w->us.length=ds.length->(∀ (i:Nat) x,ds[i]?=some x->RD G x (us[i]?.getD undef)) →
  Sat K σ G (ph s ps ds) { a with tmps:=(ps.zip us).foldl (fun t (p,v)=>t.setIfInBounds p v) a.tmps } w
 | [],ds,us,s,a,hs,_,_=>by simpa[ph] using hs
 | p :: ps,[],[],s,a,hs,_,_=>by simpa[ph] using hs
 | p :: ps,[],u :: us,s,a,hs,h,_=>by simp at h
 | p :: ps,x :: ds,[],s,a,hs,h,_=>by simp at h
 | p :: ps,x :: ds,u :: us,s,a,hs,h,H=>by
  have:=B4 (ps:=ps) (ds:=ds) (us:=us) (hs.put (some p) (.d (by simpa using H 0 x rfl))) (by simpa using h) (fun i y hy=>by simpa using H (i+1) y (by simpa using hy));simpa[ph,Act.put] using this
theorem Sat.dist{K:Cx} {σ:Sg} {G:Gh} {s:AS} {a:Act} {w:World} (h:Sat K σ G s a w):∀ d,cH d∈a.defers->∀ p∈K.pr,p.1≠d:=fun d hd=>by
 obtain⟨ds,h1,h2,h3⟩:=h.marks;rw[h1]at hd;obtain⟨d',q1,q2⟩:=List.mem_map.1 hd;have:d'=d:=by injection q2 with q2 _;injection q2
 subst this;exact h3 d' q1
theorem Jb{σ:Sg} {s s':AS} {ρ:List Nat} (h:sub ρ s s') {k:Nat} (hk:lV (gP ρ σ) s' k):lV σ s k:=by
 obtain⟨r,b,o,f1,f2,f3,rfl⟩:=hk;obtain⟨q,b',e1,e2,_⟩:=ke h.H r b f1;unfold gP at f2;rw[e1]at f2;exact⟨q,b',o,e2,f2,f3,rfl⟩
theorem Av.sub{K:Cx} {B l:Nat} {σ:Sg} {C D:Nat->Prop} {G:Gh} {s s':AS} {a:Act} {W:World} {ρ:List Nat} (h:Av K B l σ C G s a W D) (e:YtiocdkdkndpgkaaGreat.sub ρ s s'):Av K B l (gP ρ σ) C G s' a W D:=
 ⟨h.sat.sub e,fun _ hk=>h.c1 _ (Jb e hk),h.c2,h.c3,h.cl,h.cd,h.dd,h.b1,h.b0,by rw[e.yc];exact h.j⟩
theorem Av.putL{K:Cx} {B l:Nat} {σ:Sg} {C D:Nat->Prop} {G:Gh} {s:AS} {a:Act} {W:World} {r0:Loop} (h:Av K B l σ C G s a W D) (hl:W.heap[l]?=some (.loop r0)) (aV:∀ p∈K.pr,p.1≠l) (hb:K.w0.heap.size<=l) (r':Loop) :
  Av K B l σ C G s a (W.putObj l (.loop r')) D:=by
 obtain⟨h1,h2⟩:=h.sat.putL (r':=r') (pr':=K.pr) hl hb (fun p hp=>⟨(World.putObj_heap_other (aV p hp)).trans (h.sat.pr p hp).1,(h.sat.pr p hp).2⟩) h.sat.dist (C:=fun k=>D k\/C k) (fun k hk=>.inr (h.c1 k hk)) (fun p hp=>.inr (h.c2 p hp)) (fun k hk=>.inr (h.c3 k hk)) (.inr h.cl) h.j;exact⟨h1,h.c1,h.c2,h.c3,h.cl,fun k hk=>⟨(h.cd k hk).1,by simpa using (h.cd k hk).2⟩,fun k hk=>⟨(h.dd k hk).1,by simpa using (h.dd k hk).2⟩,by simpa using h.b1,h.b0,h2⟩
theorem Md{D:Nat->Prop} {W0 W:World} {G0 G:Gh} {l:Nat} (r':Loop) (st:Stb D W0 G0 W G) (hD:¬ D l):Stb D W0 G0 (W.putObj l (.loop r')) G:=
 ⟨st.os,st.tape,st.output,by simpa using st.size,fun k hk=>(World.putObj_heap_other (fun e=>by subst e;exact hD hk)).trans (st.keep k hk),st.up,st.new⟩
theorem Me{G:Gh} {W:World} {l:Nat} {r0:Loop} (r':Loop) (h:uz G W) (hl:W.heap[l]?=some (.loop r0)):uz G (W.putObj l (.loop r')):=fun k o e=>⟨(World.putObj_heap_other (fun e2=>by
 subst e2;obtain⟨h1,h2⟩:=h _ _ e
 rw[hl]at h1;cases h1;cases h2)).trans (h k o e).1,(h k o e).2⟩
theorem Mf(ps:Array Tmp) (us:Array Value) (t:Array Value):(ps.zip us).foldl (fun t (x:Tmp × Value)=>t.setIfInBounds x.1 x.2) t=(ps.toList.zip us.toList).foldl (fun t x=>t.setIfInBounds x.1 x.2) t:=by
 rw[<-Array.foldl_toList,Array.toList_zip]
theorem wV{K:Cx} {ps:Array Tmp} {assign body:Code} {Q:Exit->AS->Prop} {gf:FuncId} {c:List D} {L:List (List D)} (hq:SQ K.P gf c L) (mM:∀ ds∈L,ds.length=ps.size) (I:Nat->AS) (Cp:Nat->Prop) (ov:Cp 0) {l:Nat} {fn:FuncId} {rd:Nat} {a:Act} {w W1:World} {mark:List Deferred}
  {σ:Sg} {G:Gh} {s:AS} {ρ:List Nat} {lb:Array Value} (hs:Sat K σ G s a w) (hI:sub ρ s (I 0)) (sW:Ja G c lb) (hb:Below w.heap.size w W1)
  (hl:W1.heap[l]?=some (.loop { state:=.ready,pending:=none,fn,tmps:=a.tmps,params:=ps,assign,body,defers:=rd })) (Oz:w.heap.size<=l)
  (tq:∃ ds,mark++a.defers=lw ds/\(bY K.w0.heap.size ds W1/\∀ d∈ds,∀ p∈K.pr,p.1≠d)/\∀ d,cH d∈mark->w.heap.size<=d/\d<W1.heap.size)
  (h:∀ i ds,L[i]?=some ds->Cp i->∀ r r' J' pr' fr',(∀ yl L0,oI K.P yl K.J L0->oI K.P yl J' L0)->ei (KR K l r J' pr' fr') assign (qv (fun s1=>ei (KR K l r' J' pr' fr') body (RB (I i).n (Cp (i+1)) (I (i+1)) Q .mk) s1) NQ) (ph (base (I i)) ps.toList ds))
  (dh:Cp L.length->Q .normal (I L.length)) :
  Calls K.P gf (#[.func (.yield l) #[] #[]]++lb) W1 (rangePost K.fence 0 K.P l (gL K Q) { a with defers:=mark++a.defers }):=by
 obtain⟨rec,gX⟩:∃ rec:Loop,rec={ state:=.ready,pending:=none,fn,tmps:=a.tmps,params:=ps,assign,body,defers:=rd }:=⟨_,rfl⟩;rw[<-gX]at hl;obtain⟨a',Dv⟩:∃ a':Act,a'={ a with defers:=mark++a.defers }:=⟨_,rfl⟩;have eU:a'.tmps=a.tmps:=by rw[Dv]
 have had:a'.defers=mark++a.defers:=by rw[Dv]
 rw[<-Dv];have ge:K.w0.heap.size<=l:=Nat.le_trans hs.below.size Oz;have aG:=aw hl;have aV:∀ p∈K.pr,p.1≠l:=fun p hp e=>by have:=aw (hs.pr p hp).1;omega
 have start:JR K w.heap.size l rec I Cp Q a' 1 W1 G (fun _=>False):=by
  have lu:=hs.sub hI;have gg:=lu.world hb;obtain⟨C0,q1,q2,q3,q4⟩:=lu.inv
  have j:K.J (I 0).yc W1 G (fun k=>False\/((C0 k/\k<w.heap.size)\/(w.heap.size<=k/\k<W1.heap.size))):=
   hs.js.go q4 ⟨hb.os,hb.tape,hb.output,hb.size,fun k hk _=>hb.block k hk,fun _ _ e=>e,fun _ _ e _=>.inl e,gg.gok,fun k hk=>by
    rcases hk with hk|hk|hk
    ·exact hk.elim
    ·exact .inl hk.1
    ·exact .inr hk⟩
  have c1:∀ k,lV (gP ρ σ) (I 0) k->(C0 k/\k<w.heap.size)\/(w.heap.size<=k/\k<W1.heap.size):=fun k hk=>by
   refine .inl ⟨q1 k hk,?_⟩;obtain⟨r,b,o,f1,f2,f3,rfl⟩:=hk;obtain⟨o2,e1,e2,_⟩:=lu.own _ _ f1;rw[f2]at e1;cases e1;obtain⟨ob,e4,_⟩:=e2.at f3;exact aw e4
  have c2:∀ p∈K.pr,(C0 p.1/\p.1<w.heap.size)\/(w.heap.size<=p.1/\p.1<W1.heap.size):=fun p hp=>.inl ⟨q2 p hp,aw (hs.pr p hp).1⟩
  obtain⟨ds,m1,m2,m3⟩:=tq
  have c3:∀ k,cH k∈a'.defers->(C0 k/\k<w.heap.size)\/(w.heap.size<=k/\k<W1.heap.size):=fun k hk=>by
   rw[had]at hk;rcases List.mem_append.1 hk with hk|hk
   ·exact .inr (m3 k hk)
   ·obtain⟨ds0,d1,d2,_⟩:=hs.marks;refine .inl ⟨q3 k hk,?_⟩;rw[d1]at hk;obtain⟨d,h1,h2⟩:=List.mem_map.1 hk;have:d=k:=by injection h2 with h2 _;injection h2
    subst this;exact aw (d2.2 d h1).2
  refine⟨hl,ov,gP ρ σ,fun k=>(C0 k/\k<w.heap.size)\/(w.heap.size<=k/\k<W1.heap.size),⟨⟨by rw[eU];exact gg.size,fun t=>by rw[eU];exact gg.slot t,gg.own,gg.inj,gg.next,gg.gsub,gg.gold,gg.gnew,gg.gcell,gg.below,⟨ds,had.trans m1,m2⟩,gg.pr,⟨_,fun k hk=>.inr (c1 k hk),fun p hp=>.inr (c2 p hp),fun k hk=>.inr (c3 k hk),j⟩,gg.js⟩,
   c1,c2,c3,.inr ⟨Oz,aG⟩,fun k hk=>⟨fun e=>e,?_⟩,fun k hk=>hk.elim,hb.size,hs.below.size,j⟩⟩
  rcases hk with hk|hk
  ·have:=hb.size;omega
  ·exact hk.2
 have rounds:oI K.P l (JR K w.heap.size l rec I Cp Q a') L:=by
  intro i ds Gx D W us hL hJ gok rds;obtain⟨QP,lj,σ1,C1,uR⟩:=hJ;obtain⟨mds,m1,m2,m3⟩:=uR.sat.marks;have hpsz:us.size=rec.params.size:=by rw[rds.1,mM ds (List.mem_of_getElem? hL),gX]
  refine⟨rec.fn,_,rec.assign,rec.body,run_yield QP hpsz,roundIn_of_wpIn trivial ?_⟩;have xT:=uR.round QP m1 m2;have ON:=B4 (ps:=ps.toList) (ds:=ds) (us:=us.toList) xT (by simpa using rds.1) (fun j x hx=>by simpa using rds.2 j x hx)
  have hact:({ tmps:=(rec.params.zip us).foldl (fun t (x:Tmp × Value)=>t.setIfInBounds x.1 x.2) rec.tmps,defers:=[] }:Act)={ ({ tmps:=a'.tmps,defers:=[] }:Act) with tmps:=(ps.toList.zip us.toList).foldl (fun t x=>t.setIfInBounds x.1 x.2) a'.tmps }:=by
   rw[Mf,gX,eU]
  have hnel:∀ p∈ss mds K.pr,p.1≠l:=fun p hp e=>by
   rcases List.mem_append.1 hp with hp|hp
   ·obtain⟨d,h1,rfl⟩:=List.mem_map.1 hp;have:=(m2.2 d h1).2;have e:d=l:=e;rw[e,QP]at this;cases this
   ·exact aV p hp e
  have cg:(I i).n=a'.tmps.size:=uR.sat.size.symm;rw[show (fun (tmps:Array Value) (x:Tmp × Value)=>match x with|(t,a)=>tmps.setIfInBounds t a)=fun tmps x=>tmps.setIfInBounds x.1 x.2 from rfl,hact];have hA:rec.assign=assign:=by rw[gX]
  have hBd:rec.body=body:=by rw[gX]
  rw[hA,hBd];refine wpIn_mono (h i ds hL lj rec { rec with state:=.busy } (J2 K.J D W Gx) (ss mds K.pr) (a'.tmps++K.fr) (fun yl L0 hR=>J2.rnd hR _ _ _) _ _ _ _ ON) ?_;intro e a1 W2 hp;cases e<;>first|exact hp.elim|(obtain⟨_,_,_,hp,_⟩:=hp;exact hp.elim)|skip
  obtain⟨σ2,G2,s2,H6,eV⟩:=hp;have dJ:W2.heap[l]?=some (.loop rec):=(eV.pr _ (List.mem_cons_self ..)).1;refine⟨_,run_beginRound dJ (by rw[gX]),?_⟩;obtain⟨C2,q1,q2,q3,q4⟩:=eV.inv
  have hsb:=(eV.putL (r':={ rec with state:=.busy }) (pr':=(l,.loop { rec with state:=.busy }) :: ss mds K.pr) dJ ge (fun p hp=>by
   rcases List.mem_cons.1 hp with rfl|hp
   ·exact⟨World.putObj_heap_same (aw dJ),rfl⟩
   ·exact⟨(World.putObj_heap_other (hnel p hp)).trans (eV.pr p (List.mem_cons_of_mem _ hp)).1,(eV.pr p (List.mem_cons_of_mem _ hp)).2⟩) (fun d hd p hp=>by
   rcases List.mem_cons.1 hp with rfl|hp
   ·exact eV.dist d hd (l,.loop rec) (List.mem_cons_self ..)
   ·exact eV.dist d hd p (List.mem_cons_of_mem _ hp)) q1 (fun p hp=>by
   rcases List.mem_cons.1 hp with rfl|hp
   ·exact q2 (l,.loop rec) (List.mem_cons_self ..)
   ·exact q2 p (List.mem_cons_of_mem _ hp)) q3 (q2 _ (List.mem_cons_self ..)) q4).1
  refine wpIn_mono (H6 _ _ _ _ hsb) ?_
  have fin:∀ {σ3 G3 s3 a3 W3} (jump:Option Code),Sat (KR K l { rec with state:=.busy } (J2 K.J D W Gx) (ss mds K.pr) (a'.tmps++K.fr)) σ3 G3 s3 a3 W3->s3.n=(I i).n →
    ∃ W4 C3,(Instr.endRound l jump).run K.P W3=.ok (.bool jump.isNone) W4/\W4.heap[l]?=some (.loop { rec with state:=if jump.isNone then .ready else .done,pending:=jump })/\Av K w.heap.size l σ3 C3 G3 (mY s3) a' W4 D/\Stb D W Gx W4 G3/\uz G3 W4:=fun {σ3 G3 s3 a3 W3} jump oV hn=>by
   have As:W3.heap[l]?=some (.loop { rec with state:=.busy }):=(oV.pr _ (List.mem_cons_self ..)).1;obtain⟨C3,NI,st⟩:=Sat.endRound oV hs.js (hn.trans cg) m1 m2.1 (fun d hd=>(m2.2 d hd).1) m3 (fun k hk=>(uR.dd k hk).1) uR.b1 uR.b0;exact⟨_,C3,run_endRound jump As,World.putObj_heap_same (aw As),NI.putL As aV ge _,Md _ st (NI.cd l NI.cl).1,Me _ oV.gok As⟩
  intro e a3 W3 hp;cases e with
  | normal=>
   obtain⟨σ3,G3,s3,⟨hn,hCn,ρ3,NJ⟩,oV⟩:=hp;obtain⟨W4,C3,f1,f2,f3,f4,f5⟩:=fin none oV hn;refine⟨_,W4,f1,true,G3,rfl,⟨?_,hCn,_,C3,f3.sub NJ⟩,f4,f5⟩;rw[f2,gX];rfl
  | ret=>
   obtain⟨σ3,G3,s3,⟨hn,hQ⟩,oV⟩:=hp;obtain⟨W4,C3,f1,f2,f3,f4,f5⟩:=fin (some .ret) oV hn;exact⟨_,W4,f1,false,G3,rfl,⟨.ret,_,_,C3,f2,.inl ⟨rfl,hQ⟩,f3⟩,f4,f5⟩
  | exit id=>
   obtain⟨σ3,G3,s3,⟨hn,hQ⟩,oV⟩:=hp;obtain⟨W4,C3,f1,f2,f3,f4,f5⟩:=fin (some (.exit id)) oV hn;exact⟨_,W4,f1,false,G3,rfl,⟨.exit id,_,_,C3,f2,.inr ⟨id,rfl,hQ⟩,f3⟩,f4,f5⟩
  | goto t=>obtain⟨_,_,_,hp,_⟩:=hp;exact hp.elim
  | panic ch=>exact hp.elim
  | outgrown=>exact hp.elim
 refine(hq.2 l _ G W1 lb (JR.js K w.heap.size l rec I Cp Q a') (hs.world hb).gok sW rounds start).mono ?_;rintro e W2 ⟨v,G',rfl,hJ⟩;rcases hJ with ⟨dJ,mK,σ2,C2,uR⟩|⟨cd,s2,σ2,C2,dJ,hcd,uR⟩
 ·exact⟨none,_,by have:=run_endLoop (P:=K.P) dJ (by rw[gX];simp);rw[this,gX],σ2,G',_,dh mK,(uR.putL dJ aV ge _).sat⟩
 ·refine⟨some cd,_,run_endLoop dJ (by simp),?_⟩;have h5:=(uR.putL dJ aV ge { ({ rec with state:=.done,pending:=some cd }:Loop) with state:=.exhausted }).sat;rcases hcd with ⟨rfl,hQ⟩|⟨id,rfl,hQ⟩
  ·exact wpIn_ret ⟨σ2,G',s2,hQ,h5⟩
  ·exact wpIn_exit ⟨σ2,G',s2,hQ,h5⟩
def fnOf:AV->Option (FuncId × List D)
 | .d (.fn (.func gf) [] c)=>some (gf,c)
 | .d (.v (.func (.func gf) a c))=>if a=#[]/\c=#[] then some (gf,[]) else none
 | _=>none
theorem O'{σ:Sg} {G:Gh} {x:AV} {u:Value} {gf:FuncId} {c:List D} (hx:RA σ G x u) (h:fnOf x=some (gf,c)):∃ lb,u=.func (.func gf) #[] lb/\Ja G c lb:=by
 unfold fnOf at h;split at h
 ·cases h
  have:=hx.un;cases this with
  | fn f a c us cs ha hc HA HC=>
   have:us=#[]:=Array.eq_empty_of_size_eq_zero (by simpa using ha);subst this;exact⟨cs,rfl,hc,HC⟩
 ·split at h
  ·rename_i e;obtain⟨rfl,rfl⟩:=e;cases h;rw[hx.un.val];exact⟨#[],rfl,rfl,fun i x e=>by simp at e⟩
  ·cases h
 ·cases h
theorem Mg{K:Cx} {g:Operand} {ps:Array Tmp} {x y:Code} {Q:Exit->AS->Prop} {u} {s:AS} {gf:FuncId} {c:List D} {L:List (List D)} (hq:SQ K.P gf c L) (hg:fnOf (s.ev g)=some (gf,c)) (mM:∀ ds∈L,ds.length=ps.size) (Dt:K.yl=none\/∃ l0 r0,K.yl=some l0/\(l0,.loop r0)∈K.pr)
  (I:Nat->AS) (Cp:Nat->Prop) (ov:Cp 0) (ρ:List Nat) (hI:sub ρ s (I 0))
  (h:∀ i ds,L[i]?=some ds->Cp i->∀ l r r' J' pr' fr',(∀ yl L0,oI K.P yl K.J L0->oI K.P yl J' L0)->VS (KR K l r J' pr' fr') x (TQ (VS (KR K l r' J' pr' fr') y (RB (I i).n (Cp (i+1)) (I (i+1)) Q .mk) .mk) NQ .mk) .mk (ph (base (I i)) ps.toList ds))
  (dh:Cp L.length->Q .normal (I L.length)):AW K (.rangeFunc g ps x y) Q u s:=by
 intro σ G a w hs;obtain⟨lb,sW,lv⟩:=O' (hs.ev g) hg
 have hh:∀ l i ds,L[i]?=some ds->Cp i->∀ r r' J' pr' fr',(∀ yl L0,oI K.P yl K.J L0->oI K.P yl J' L0)->ei (KR K l r J' pr' fr') x (qv (fun s1=>ei (KR K l r' J' pr' fr') y (RB (I i).n (Cp (i+1)) (I (i+1)) Q .mk) s1) NQ) (ph (base (I i)) ps.toList ds):=
  fun l i ds hL lj r r' J' pr' fr' hR=>ei.mono (fun e s q=>by cases e<;>first|exact q|exact vs q) (vs (h i ds hL lj l r r' J' pr' fr' hR))
 obtain⟨ds,m1,m2,m3⟩:=hs.marks;unfold Cx.fence;split
 ·refine wpIn_rangeFunc ?_;intro fn _;obtain⟨W1,io⟩:∃ W1,(w.alloc (.deferred (some []))).alloc (.loop { state:=.ready,pending:=none,fn,tmps:=a.tmps,params:=ps,assign:=x,body:=y,defers:=w.heap.size })=W1:=⟨_,rfl⟩
  have Dq:W1.heap[w.heap.size+1]?=some (.loop { state:=.ready,pending:=none,fn,tmps:=a.tmps,params:=ps,assign:=x,body:=y,defers:=w.heap.size }):=by
   rw[<-io];have:=aA (w.alloc (.deferred (some []))) (.loop { state:=.ready,pending:=none,fn,tmps:=a.tmps,params:=ps,assign:=x,body:=y,defers:=w.heap.size });rwa [World.size_alloc]at this
  have FM:W1.heap[w.heap.size]?=some (.deferred (some [])):=by rw[<-io];exact aH _ (aA w _)
  have oa:Below w.heap.size w W1:=by rw[<-io];exact((Below.refl _ w).alloc (Nat.le_refl _) _).alloc (by simp) _
  have core:=wV (fn:=fn) (mark:=[cH w.heap.size]) hq mM I Cp ov hs hI lv oa Dq (by omega) ⟨w.heap.size :: ds,by rw[m1];rfl,⟨(m2.up oa).cons hs.below.size FM (fun E hE=>aw (m2.2 E hE).2),fun d hd p hp=>by
   rcases List.mem_cons.1 hd with rfl|hd
   ·exact Nat.ne_of_lt (aw (hs.pr p hp).1)
   ·exact m3 d hd p hp⟩,fun d hd=>by
   have:d=w.heap.size:=by simpa[cH] using hd
   subst this
   exact⟨Nat.le_refl _,aw FM⟩⟩ (hh _) dh
  refine⟨w.heap.size+1,[cH w.heap.size],W1,{ target:=.fn (.func gf) lb,args:=#[.func (.yield (w.heap.size+1)) #[] #[]] },W1,gf,#[.func (.yield (w.heap.size+1)) #[] #[]]++lb,W1,?_,?_,fun _ _=>trivial,?_,fun h=>(by simp[Fence.wide]at h),?_⟩
  ·rw[<-io];exact run_enterLoop_outer _ _ _ _ _
  ·simp only[resolve,sW];simp[go_sem]
  ·simp[invoke,go_sem,hq.1]
  ·refine(callsIn_wide (n:=0 - 1)).2 ?_;have e:K.fence=Fence.wide:=by unfold Cx.fence;split<;>simp_all
   rw[e]at core;exact core
 ·rename_i l0 hy
  obtain⟨r0,k8⟩:∃ r0,(l0,Obj.loop r0)∈K.pr:=by
   rcases Dt with e|⟨l1,r0,e,h0⟩
   ·rw[e]at hy;cases hy
   ·rw[hy]at e;cases e;exact⟨r0,h0⟩
  have h0:=(hs.pr _ k8).1;refine wpIn_rangeFunc ?_;intro fn _;obtain⟨W1,io⟩:∃ W1,w.alloc (.loop { state:=.ready,pending:=none,fn,tmps:=a.tmps,params:=ps,assign:=x,body:=y,defers:=r0.defers })=W1:=⟨_,rfl⟩
  have Dq:W1.heap[w.heap.size]?=some (.loop { state:=.ready,pending:=none,fn,tmps:=a.tmps,params:=ps,assign:=x,body:=y,defers:=r0.defers }):=by
   rw[<-io];exact aA w _
  have oa:Below w.heap.size w W1:=by rw[<-io];exact(Below.refl _ w).alloc (Nat.le_refl _) _
  have core:=wV (fn:=fn) (mark:=[]) hq mM I Cp ov hs hI lv oa Dq (Nat.le_refl _) ⟨ds,m1,⟨m2.up oa,m3⟩,fun d hd=>by simp at hd⟩ (hh _) dh;refine⟨w.heap.size,[],W1,{ target:=.fn (.func gf) lb,args:=#[.func (.yield w.heap.size) #[] #[]] },W1,gf,#[.func (.yield w.heap.size) #[] #[]]++lb,W1,?_,?_,fun _ _=>trivial,?_,fun h=>(by simp[Fence.wide,Fence.inRound]at h),?_⟩
  ·rw[<-io];exact run_enterLoop_inner h0 _ _ _ _ _
  ·simp only[resolve,sW];simp[go_sem]
  ·simp[invoke,go_sem,hq.1]
  ·show CallsIn Fence.wide (0 - 1) _ _ _ _ _
   refine(callsIn_wide (n:=0 - 1)).2 ?_;have e:K.fence=Fence.wide.inRound l0:=by unfold Cx.fence;rw[hy]
   rw[e]at core;exact core
attribute [simp] zt und base mY ph fnOf
def cR{K:Type} (enc:K->Value) (f:List (K × D)):List (Value × D):=f.map fun p=>(enc p.1,p.2)
def cI{K:Type} [DecidableEq K] (f:List (K × D)) (r:K):Option D:=(f.find? fun p=>decide (r=p.1)).map (·.2)
theorem zu{K:Type} [DecidableEq K] {f:List (K × D)} {r:K} (h:∀ p∈f,p.1≠r):cI f r=none:=by
 simp only[cI,Option.map_eq_none_iff,List.find?_eq_none];intro p hp;simpa using fun e=>h p hp e.symm
theorem MR.typed{K:Type} [DecidableEq K] {G:Gh} {enc:K->Value}:∀ {f:List (K × D)} {g:List (Value × Value)},MR G (cR enc f) g->∃ l:List (K × Value),g=l.map (fun p=>(enc p.1,p.2))/\∀ q z,(dV l q).isSome=(cI f q).isSome/\RD G ((cI f q).getD (.v z)) ((dV l q).getD z)
 | [],[],_=>⟨[],rfl,fun _ z=>⟨rfl,.v z⟩⟩
 | x :: f,p :: g,⟨h1,h2,h3⟩=>by
  obtain⟨l,rfl,h4⟩:=MR.typed (f:=f) h3;refine⟨(x.1,p.2) :: l,congrArg (· :: _) (Prod.ext h1 rfl),fun q z=>?_⟩;by_cases e:q=x.1
  ·simp only[dV,cI,List.find?_cons,e,decide_true];exact⟨rfl,h2⟩
  ·have:=h4 q z;simpa only[dV,cI,List.find?_cons,e,decide_false] using this
 | [],_ :: _,e=>e.elim
 | _ :: _,[],e=>e.elim
theorem MR.snoc{G:Gh} {k:Value} {x:D} {v:Value} (hx:RD G x v):∀ {f:List (Value × D)} {g:List (Value × Value)},MR G f g->MR G (f++[(k,x)]) (g++[(k,v)])
 | [],[],_=>⟨rfl,hx,trivial⟩
 | _ :: _,_ :: _,⟨h1,h2,h3⟩=>⟨h1,h2,h3.snoc hx⟩
 | [],_ :: _,e=>e.elim
 | _ :: _,[],e=>e.elim
theorem yD{K:Cx} {σ:Sg} {G:Gh} {s:AS} {a:Act} {w:World} (hs:Sat K σ G s a w) {r:Nat} {X:Type} [DecidableEq X] {enc:X->Value} {f:List (X × D)} {u:Value} (hu:RA σ G (.mp r) u) (hb:s.blk r=some (.map (cR enc f))) :
  ∃ o,σ r=some o/\o.nil=false/\u=.map (some o.b)/\∃ l:List (X × Value),rX enc w o.b l/\MR G (cR enc f) (l.map fun p=>(enc p.1,p.2))/\∀ q z,(dV l q).isSome=(cI f q).isSome/\RD G ((cI f q).getD (.v z)) ((dV l q).getD z):=by
 cases hu with
 | mp h=>
  obtain⟨o',e1,⟨e2,es,cl,e3,e4⟩,_⟩:=hs.own _ _ hb;rw[h]at e1;cases e1;obtain⟨l,h1,h2⟩:=e4.typed;exact⟨_,h,e2,rfl,l,⟨es,cl,e3,h1⟩,h1 ▸ e4,h2⟩
theorem GC{K:Cx} {σ:Sg} {G:Gh} {s:AS} {a:Act} {w:World} (hs:Sat K σ G s a w) {x:Operand} {r:Nat} (h:s.ev x=.mp r):RA σ G (.mp r) (a.eval x):=by rw[<-h];exact hs.ev x
section
variable {K : Cx} {s : AS} {k : AS → Prop} {d : Option Nat} {ty : TypeId} {pos : String} {af : Array Edge} {g : Option (Nat × Bool)}
@[simp] theorem st_mkmap (t:TypeId) (u):ST K ⟨d,.makeMap t none,ty,pos,af,g⟩ k u s=kT K ⟨d,.makeMap t none,ty,pos,af,g⟩ k .mk s:=rfl
theorem nN{t:TypeId} {u} (h:k ((s.add (.map [])).put d (.mp s.nx))):kT K ⟨d,.makeMap t none,ty,pos,af,g⟩ k u s:=by
 refine gN fun σ G a w hs=>?_
 have h1:=hs.addNew (w':=w.alloc (.map #[] 0)) (k:=.map []) (o:=⟨w.heap.size,0,1,false⟩) (fun _=>Nat.le_refl _) ((Below.refl _ w).alloc (Nat.le_refl _) _) ⟨rfl,#[],0,aA _ _,trivial⟩;exact⟨.map (some w.heap.size),w.alloc (.map #[] 0),_,G,s.add (.map []),.mp s.nx,rfl,h1,.mp (o:=⟨w.heap.size,0,1,false⟩) (f7 _ _ _),h⟩
@[simp] theorem st_lookup (mt:TypeId) (m i:Operand) (b:Bool) (u):ST K ⟨d,.lookup mt m i b,ty,pos,af,g⟩ k u s=kT K ⟨d,.lookup mt m i b,ty,pos,af,g⟩ k .mk s:=rfl
@[simp] theorem st_update (mt:TypeId) (m i x:Operand) (u):ST K ⟨d,.mapUpdate mt m i x,ty,pos,af,g⟩ k u s=kT K ⟨d,.mapUpdate mt m i x,ty,pos,af,g⟩ k .mk s:=rfl
theorem B5{X:Type} [DecidableEq X] {kt vt mt:TypeId} {z:Value} {enc:X->Value} {m i:Operand} {u} (kit:KeyKit K.P kt enc) (hm:K.P.underlying mt=some (.map kt vt)) (hz:∀ w,(zeroValue vt).run K.P w=.ok z w) (r:Nat) (f:List (X × D)) (q:X)
  (h1:s.ev m=.mp r) (h2:s.blk r=some (.map (cR enc f))) (h3:(s.ev i).conc=some (enc q)) (h:k (s.put d (.d (.tup [(cI f q).getD (.v z),.v (.bool (cI f q).isSome)])))):kT K ⟨d,.lookup mt m i true,ty,pos,af,g⟩ k u s:=by
 refine bz fun σ G a w hs=>?_
 obtain⟨o,e1,e2,e3,l,hg,FH,jE⟩:=yD hs (GC hs h1) h2;have e6:=hs.conc h3;refine⟨.tuple #[(dV l q).getD z,.bool (dV l q).isSome],_,?_,.d (.tup _ _ rfl ?_),h⟩
 ·have:=LZ kit hm hz hg q;simp only[execOp,e3,e6,Sem.run_bind,this];rfl
 ·intro j x hx
  match j,hx with
  | 0,hx=>cases hx;exact(jE q z).2
  | 1,hx=>cases hx;rw[<-(jE q z).1];exact .v _
theorem Mh{X:Type} [DecidableEq X] {kt vt mt:TypeId} {z:Value} {enc:X->Value} {m i:Operand} {u} (kit:KeyKit K.P kt enc) (hm:K.P.underlying mt=some (.map kt vt)) (hz:∀ w,(zeroValue vt).run K.P w=.ok z w) (r:Nat) (f:List (X × D)) (q:X)
  (h1:s.ev m=.mp r) (h2:s.blk r=some (.map (cR enc f))) (h3:(s.ev i).conc=some (enc q)) (h:k (s.put d (.d ((cI f q).getD (.v z))))):kT K ⟨d,.lookup mt m i false,ty,pos,af,g⟩ k u s:=by
 refine bz fun σ G a w hs=>?_
 obtain⟨o,e1,e2,e3,l,hg,FH,jE⟩:=yD hs (GC hs h1) h2;have e6:=hs.conc h3;refine⟨_,_,?_,.d (jE q z).2,h⟩;have:=L1 kit hm hz hg q;simp only[execOp,e3,e6,Sem.run_bind,this];rfl
theorem pN{X:Type} [DecidableEq X] {kt vt mt:TypeId} {enc:X->Value} {m i x:Operand} {c:D} {u} (kit:KeyKit K.P kt enc) (hm:K.P.underlying mt=some (.map kt vt)) (r:Nat) (f:List (X × D)) (q:X)
  (h1:s.ev m=.mp r) (h2:s.blk r=some (.map (cR enc f))) (h3:(s.ev i).conc=some (enc q)) (h4:s.ev x=.d c) (hn:cI f q=none) (h:k ((s.set r (some (.map (cR enc (f++[(q,c)]))))).put d (.d (.v undef)))):kT K ⟨d,.mapUpdate mt m i x,ty,pos,af,g⟩ k u s:=by
 intro σ G a w hs Q;obtain⟨o,e1,e2,e3,l,hg,FH,jE⟩:=yD hs (GC hs h1) h2;have e6:=hs.conc h3;have e7:RD G c (a.eval x):=by have:=hs.ev x;rw[h4]at this;exact this.un
 have n9:dV l q=none:=by have:=(jE q undef).1;rw[hn]at this;simpa using this
 obtain⟨ob,q1,q2⟩:=OW kit hm hg q (a.eval x) n9;have gc:(execOp a.eval ⟨d,.mapUpdate mt m i x,ty,pos,af,g⟩).run K.P w=.ok .skip (w.putObj o.b ob):=by simp only[execOp,e3,e6,Sem.run_bind,q1,Result.andThen_ok,Sem.run_pure]
 have eL:Sat K σ G (s.set r (some (.map (cR enc (f++[(q,c)]))))) a (w.putObj o.b ob):=hs.change h2 e1 (by
  rw[e2]
  exact⟨rfl,rfl,rfl,by simp,fun n _ hn=>World.putObj_heap_other (fun e=>hn (by rw[e];rfl))⟩) (fun k' kA=>by
  cases kA
  obtain⟨es',cl',f1,f2⟩:=q2;refine⟨e2,es',cl',f1,?_⟩;rw[f2]
  simpa[cR] using FH.snoc (k:=enc q) e7)
 unfold Oper.wp;rw[gc,Oper.upon_skip];exact⟨σ,G,_,h,eL.put d (.d (.v undef))⟩
end
def Jc(P:Program) (s:AS) (mt:TypeId) (x i:AV) (k:AV->Prop):Prop:=∃ (X:Type) (dec:DecidableEq X) (kt vt:TypeId) (z:Value) (enc:X->Value) (r:Nat) (f:List (X × D)) (q:X),
 KeyKit P kt enc/\P.underlying mt=some (.map kt vt)/\(∀ w,(zeroValue vt).run P w=.ok z w)/\x=.mp r/\s.blk r=some (.map (cR enc f))/\i.conc=some (enc q)/\k (.d (.tup [(cI f q).getD (.v z),.v (.bool (cI f q).isSome)]))
theorem Jd{P:Program} {s s':AS} (h:∀ r,s.blk r=s'.blk r):Jc P s=Jc P s':=by
 funext mt x i k
 unfold Jc;simp only[h]
def cK(f:(AV->Prop)->Prop):Prop:=∀ k,f k↔∃ y,k y/\f fun z=>z=y
theorem cK.pt(y0:AV):cK fun k=>k y0:=fun k=>⟨fun h=>⟨y0,h,rfl⟩,fun ⟨_,h,e⟩=>e ▸ h⟩
theorem cK.false:cK fun _=>False:=fun k=>⟨fun h=>h.elim,fun ⟨_,_,h⟩=>h⟩
theorem cK.and{f:(AV->Prop)->Prop} (p:Prop) (h:cK f):cK fun k=>p/\f k:=fun k=>
 ⟨fun ⟨h1,h2⟩=>let ⟨y,h3,h4⟩:=(h k).1 h2;⟨y,h3,h1,h4⟩,fun ⟨y,h1,h2,h3⟩=>⟨h2,(h k).2 ⟨y,h1,h3⟩⟩⟩
theorem cK.ite{f g:(AV->Prop)->Prop} (p:Prop) [Decidable p] (h:cK f) (h':cK g):cK fun k=>if p then f k else g k:=fun k=>by
 by_cases e:p<;>simp only[e,if_true,if_false]
 ·exact h k
 ·exact h' k
theorem cK.mono{f:(AV->Prop)->Prop} (h:cK f) {k k':AV->Prop} (hk:∀ y,k y->k' y) (q:f k):f k':=let ⟨y,h1,h2⟩:=(h k).1 q;(h k').2 ⟨y,hk y h1,h2⟩
theorem Je(ti:TI) (st:Nat) (l:List D) (j:Nat):cK (IX ti st l j):=.and _ (.ite _ (.and _ (.pt _)) (.and _ (.pt _)))
theorem Jf(ti:TI) (l:List AV) (j:Nat):cK (zp ti l j):=.and _ (.ite _ (.and _ (.pt _)) (.and _ (.pt _)))
theorem B6(ti:TI) (l:List D) (j:Nat):cK (wL ti l j):=.and _ (.ite _ (.and _ (.pt _)) (.and _ (.pt _)))
theorem E5(P:Program) (s:AS) (t:TypeId) (x:AV):cK (iJ P s t x):=by
 unfold iJ;split
 ·exact Je _ _ _ _
 ·split
  ·exact .and _ (Je _ _ _ _)
  ·exact .and _ (Jf _ _ _)
  ·exact .false
 ·exact .false
theorem B7(P:Program) (t:TypeId) (x:AV) (f:Nat):cK (mg P t x f):=by
 unfold mg;refine .and _ ?_;split
 ·split
  ·exact B6 _ _ _
  ·exact Jf _ _ _
  ·exact .false
 ·exact .false
theorem B8(P:Program) (t:TypeId) (x i:AV):cK (kP P t x i):=by
 unfold kP;split
 ·split
  ·exact .and _ (.and _ (B6 _ _ _))
  ·exact .and _ (.and _ (.pt _))
  ·exact .false
 ·exact .false
theorem wW(x:AV) (i:Nat):cK (gM x i):=by
 unfold gM;split<;>first|exact .and _ (.pt _)|exact .false
theorem Ca(P:Program) (t:TypeId) (x:AV) (f:Nat):cK (fM P t x f):=by
 unfold fM;refine .and _ ?_;split
 ·exact .and _ (.and _ (.pt _))
 ·exact .false
theorem Cb(P:Program) (s:AS) (t:TypeId) (x i:AV):cK (cN P s t x i):=by
 unfold cN;split
 ·refine .and _ ?_;split
  ·exact .and _ (.and _ (.and _ (.pt _)))
  ·refine .and _ (.and _ ?_);split
   ·exact .and _ (.pt _)
   ·exact .false
  ·exact .and _ (.and _ (.and _ (.pt _)))
 ·exact .false
theorem Jg(P:Program) (t:TypeId) (x:AV):cK (qz P t x):=by
 unfold qz;split<;>exact .and _ (.pt _)
theorem E6(place:Nat->Option (Nat × Nat)):∀ (ps:List (Nat × AV)) (l:List AV),cK fun k=>qD place ps l fun l=>k (mkAgg l)
 | [],l=>.pt _
 | (i,x) :: r,l=>by
  unfold qD;split
  ·exact .and _ (.and _ (.and _ (E6 place r _)))
  ·exact .false
theorem Cc(P:Program) (t:TypeId) (ps:List (Nat × AV)):cK (kR P t ps):=by
 unfold kR;split
 ·exact .and _ (.and _ (E6 _ _ _))
 ·exact .false
theorem E7(P:Program) (t t':TypeId) (x:AV):cK (qE P t t' x):=by
 unfold qE;refine .and _ ?_;split
 ·exact .pt _
 ·exact .false
theorem qK(kk:IntKind) (x:Int):cK fun k=>kO kk x fun u=>k (.d (.v u)):=by
 unfold kO;split
 ·exact .and _ (.pt _)
 ·exact .pt _
theorem Pa(op:BinOp) (kk:IntKind) (a b:Int):cK fun k=>yw op kk a b (fun u=>k (.d (.v u))) False:=by
 unfold yw;split<;>first|exact qK _ _|exact .and _ (qK _ _)|exact .and _ (.pt _)|exact .pt _|exact .false
theorem E8(op:BinOp) (x y:Value):cK fun k=>mC op x y (fun u=>k (.d (.v u))) False:=by
 unfold mC;split
 ·split
  ·exact .and _ (qK _ _)
  ·exact .and _ (.pt _)
  ·exact .and _ (Pa _ _ _ _)
 ·split
  ·exact .pt _
  ·exact .pt _
  ·exact .false
 ·exact .false
theorem Jh(op:UnOp) (x:Value):cK fun k=>sf op x (fun u=>k (.d (.v u))) False:=by
 unfold sf;split<;>first|exact qK _ _|exact .pt _|exact .false
theorem Ji{x y:AV} {c:Value->Value->(AV->Prop)->Prop} (h:∀ a b,cK (c a b)):cK fun k=>oE x y (fun a b=>c a b k) False:=by
 unfold oE;split
 ·exact h _ _
 ·exact .false
theorem P5{x:AV} {c:Value->(AV->Prop)->Prop} (h:∀ a,cK (c a)):cK fun k=>one x (fun a=>c a k) False:=by
 unfold one;split
 ·exact h _
 ·exact .false
theorem qL{l:List AV} {c:IntKind->Int->Int->(AV->Prop)->Prop} (h:∀ kk a b,cK (c kk a b)):cK fun k=>jt l fun kk a b=>c kk a b k:=by
 unfold jt;split
 ·split
  ·exact .and _ (h _ _ _)
  ·exact .false
 ·exact .false
theorem P6(P:Program) (s:AS) (mt:TypeId) (x i:AV):cK (Jc P s mt x i):=fun k=>
 ⟨fun ⟨X,dec,kt,vt,z,enc,r,f,q,h1,h2,h3,h4,h5,h6,h7⟩=>⟨_,h7,X,dec,kt,vt,z,enc,r,f,q,h1,h2,h3,h4,h5,h6,rfl⟩,
  fun ⟨y,hy,X,dec,kt,vt,z,enc,r,f,q,h1,h2,h3,h4,h5,h6,h7⟩=>⟨X,dec,kt,vt,z,enc,r,f,q,h1,h2,h3,h4,h5,h6,by rw[h7];exact hy⟩⟩
def oJ(K:Cx) (g:FuncId) (l:List AV) (k:AV->Prop):Prop:=∃ ds r,l=ds.map AV.d/\FC K.P g ds r/\k (.d r)
theorem Mi{K:Cx} {g:FuncId} {ds:List D} {r:D} {k:AV->Prop} (h:FC K.P g ds r) (hk:k (.d r)):oJ K g (ds.map AV.d) k:=⟨ds,r,rfl,h,hk⟩
theorem Cd(K:Cx) (g:FuncId) (l:List AV):cK (oJ K g l):=fun k=>
 ⟨fun ⟨ds,r,h1,h2,h3⟩=>⟨_,h3,ds,r,h1,h2,rfl⟩,fun ⟨y,h,ds,r,h1,h2,h3⟩=>⟨ds,r,h1,h2,h3 ▸ h⟩⟩
def nO(K:Cx) (f:AV) (l:List AV) (k:AV->Prop):Prop:=
 match f with
 | .d (.v (.func (.func g) a c))=>a=#[]/\c=#[]/\oJ K g l k
 | .d (.fn (.func g) a c)=>oJ K g (a.map AV.d++l++c.map AV.d) k
 | _=>False
theorem Jj(K:Cx) (f:AV) (l:List AV):cK (nO K f l):=by
 unfold nO;split
 ·exact .and _ (.and _ (Cd _ _ _))
 ·exact Cd _ _ _
 ·exact .false
def wX(b:Bool) (l:List AV) (k:AV->Prop):Prop:=b=false/\l.all AV.cell=true/\match allD l with|some ds=>k (.d (.fp ds.length [ds] 0 0))|none=>False
theorem P7(b:Bool) (l:List AV):cK (wX b l):=by
 unfold wX;refine .and _ (.and _ ?_);split
 ·exact .pt _
 ·exact .false
def wY(P:Program) (b:Bool) (t:TypeId) (len:Nat) (ps:List (Nat × AV)) (k:AV->Prop):Prop:=
 b=false/\match (ai P (ai P t).el).z with
 | some z=>(ai P t).k=3/\(ai P (ai P t).el).n≠0/\z.length=(ai P (ai P t).el).n/\z.all Value.oneCell'=true/\len * (ai P (ai P t).el).n<=2 ^ 24 ∧
  pg (ai P (ai P t).el).n ps (List.replicate len (z.map D.v)) fun L=>k (.d (.fz (ai P (ai P t).el).n L))
 | none=>False
theorem E9(n m:Nat):∀ (ps:List (Nat × AV)) (L:List (List D)),cK fun k=>pg n ps L fun L=>k (.d (.fz m L))
 | [],L=>.pt _
 | (i,x) :: r,L=>by
  unfold pg;refine .and _ (.and _ (.and _ ?_));split
  ·exact E9 n m r _
  ·exact .false
theorem P8(P:Program) (b:Bool) (t:TypeId) (len:Nat) (ps:List (Nat × AV)):cK (wY P b t len ps):=by
 unfold wY;refine .and _ ?_;split
 ·exact .and _ (.and _ (.and _ (.and _ (.and _ (E9 _ _ _ _)))))
 ·exact .false
def lH(P:Program) (t:TypeId) (x:AV) (lo hi:Option AV) (k:AV->Prop):Prop:=
 match x with
 | .sl _ _=>False
 | x=>kS P ⟨0,[],[],0,0⟩ t x lo hi fun y _=>k y
theorem np{x:Option AV} {d:Nat} {c:Nat->(AV->Prop)->Prop} (h:∀ n,cK (c n)):cK fun k=>ka x d fun n=>c n k:=by
 unfold ka;split
 ·exact h _
 ·split
  ·exact .and _ (h _)
  ·exact .false
theorem Mj(P:Program) (t:TypeId) (x:AV) (lo hi:Option AV):cK (lH P t x lo hi):=by
 unfold lH;split
 ·exact .false
 ·unfold kS;split
  ·exact .and _ (.and _ (.and _ (np fun _=>np fun _=>.and _ (.pt _))))
  ·exact .and _ (.and _ (.and _ (.and _ (.and _ (np fun _=>np fun _=>.and _ (.pt _))))))
  ·exact .and _ (np fun _=>np fun _=>.and _ (.pt _))
  ·exact .and _ (.and _ (.and _ (.and _ (.and _ (.pt _)))))
  ·rename_i h;exact(h _ _ rfl).elim
  ·exact .false
def du(K:Cx) (o:Oper) (s:AS) (k:AV->Prop):Prop:=
 match o.op with
 | .move x|.assign x=>k (s.ev x)
 | .pick c a b=>oE (s.ev c) (.d (.v undef)) (fun t _=>match t with|.bool t=>k (if t then s.ev a else s.ev b)|_=>False) False
 | .box _ x=>wX (own K o.dst) (s.ev x).cells k
 | .build t ps=>kR K.P t (ps.toList.map fun p=>(p.1,s.ev p.2)) k
 | .buildSlice t n ps=>wY K.P (own K o.dst) t n (ps.toList.map fun p=>(p.1,s.ev p.2)) k
 | .load t a=>iJ K.P s t (s.ev a) k
 | .nilCheck x=>lW (s.ev x)=true/\k (s.ev x)
 | .binOp op _ x y _=>oE (s.ev x) (s.ev y) (fun a b=>mC op a b (fun u=>k (.d (.v u))) False) False
 | .unOp op _ x=>one (s.ev x) (fun a=>sf op a (fun u=>k (.d (.v u))) False) False
 | .convert src dst x=>qE K.P src dst (s.ev x) k
 | .makeFunc f a c=>k (mkFn f (a.toList.map s.ev) (c.toList.map s.ev))
 | .slice t x lo hi none=>lH K.P t (s.ev x) (lo.map s.ev) (hi.map s.ev) k
 | .fieldAddr t x f=>fM K.P t (s.ev x) f k
 | .field t x f=>mg K.P t (s.ev x) f k
 | .indexAddr t x i=>cN K.P s t (s.ev x) (s.ev i) k
 | .index t x i=>kP K.P t (s.ev x) (s.ev i) k
 | .extract x i=>gM (s.ev x) i k
 | .lookup mt x i true=>Jc K.P s mt (s.ev x) (s.ev i) k
 | .call c=>
  match c.callee with
  | .builtin b=>
   match b with
   | .min=>jt (c.args.toList.map s.ev) fun kk a b=>k (.d (.v (.int kk (if b<a then b else a))))
   | .max=>jt (c.args.toList.map s.ev) fun kk a b=>k (.d (.v (.int kk (if b > a then b else a))))
   | .len=>match c.args.toList,c.argTypes.toList with
    | [x],[t]=>qz K.P t (s.ev x) k
    | _,_=>False
   | _=>False
  | .value f=>nO K (s.ev f) (c.args.toList.map s.ev) k
  | _=>False
 | _=>False
theorem nr(K:Cx) (o:Oper) (s:AS):cK (du K o s):=by
 unfold du;split
 ·exact .pt _
 ·exact .pt _
 ·refine Ji fun a b=>?_
  split
  ·exact .pt _
  ·exact .false
 ·exact P7 _ _
 ·exact Cc _ _ _
 ·exact P8 _ _ _ _ _
 ·exact E5 _ _ _ _
 ·exact .and _ (.pt _)
 ·exact Ji fun a b=>E8 _ _ _
 ·exact P5 fun a=>Jh _ _
 ·exact E7 _ _ _ _
 ·exact .pt _
 ·exact Mj _ _ _ _ _
 ·exact Ca _ _ _ _
 ·exact B7 _ _ _ _
 ·exact Cb _ _ _ _ _
 ·exact B8 _ _ _ _
 ·exact wW _ _
 ·exact P6 _ _ _ _ _
 ·split
  ·split
   ·exact qL fun _ _ _=>.pt _
   ·exact qL fun _ _ _=>.pt _
   ·split
    ·exact Jg _ _ _
    ·exact .false
   ·exact .false
  ·exact Jj _ _ _
  ·exact .false
 ·exact .false
end Go.Proofs.YtiocdkdkndpgkaaGreat
