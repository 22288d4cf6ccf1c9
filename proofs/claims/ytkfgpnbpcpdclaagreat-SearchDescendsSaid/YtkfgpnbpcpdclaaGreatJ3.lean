/-
  A part of the proof: lemmas and contracts that the parts behind it use. Each one's conditions are its own premises.
-/
import Derived.ArgAppend
import Derived.OwnWalkIn
import Derived.Laws.IdiomStrings
import Derived.Test.YtkfgpnbpcpdclaaGreatJ2
set_option maxRecDepth 100000
set_option maxHeartbeats 8000000
set_option linter.unusedVariables false
namespace Go.Proofs.YtkfgpnbpcpdclaaGreat
open Go.RowKit Go Go.Shelf
structure KeyKit {K:Type} [DecidableEq K] (P:Program) (kt:TypeId) (enc:K->Value):Prop where
 eq:∀ a b w,(Op.equal kt (enc a) (enc b)).run P w=.ok (decide (a=b)) w
 check:∀ em a w,(Instr.checkKey em 10000 kt (enc a)).run P w=.ok () w
 und:∃ fs,P.underlying kt=some (.struct fs)
def df{K:Type} (enc:K->Value) (w:World) (b:Nat) (f:List (K × Value)):Prop:=
 ∃ es clock,w.heap[b]?=some (.map es clock)/\es.toList.map (fun e=>(e.key,e.val))=f.map (fun p=>(enc p.1,p.2))
def eE{K:Type} [DecidableEq K] (f:List (K × Value)) (r:K):Option Value:=(f.find? fun p=>decide (r=p.1)).map (·.2)
theorem df.kept{K:Type} {enc:K->Value} {A A':World} {b:Nat} {f:List (K × Value)} (h:df enc A b f) (he:A'.heap[b]?=A.heap[b]?):df enc A' b f:=by
 obtain⟨es,clock,h1,hf⟩:=h;exact⟨es,clock,he.trans h1,hf⟩
theorem df.up{K:Type} {enc:K->Value} {A A':World} {b:Nat} {f:List (K × Value)} (h:df enc A b f) (hb:Below A.heap.size A A'):df enc A' b f:=by
 obtain⟨es,clock,h1,hf⟩:=h;exact⟨es,clock,ak hb h1,hf⟩
theorem df.lt{K:Type} {enc:K->Value} {w:World} {b:Nat} {f:List (K × Value)} (h:df enc w b f):b<w.heap.size:=by
 obtain⟨_,_,he,_⟩:=h;exact aB he
theorem yP{K:Type} [DecidableEq K] {P:Program} {kt:TypeId} {enc:K->Value} (kit:KeyKit P kt enc) (r:K) (w:World):∀ (f:List (K × Value)) (es:List MapEntry) (i:Nat),es.map (fun e=>(e.key,e.val))=f.map (fun p=>(enc p.1,p.2)) →
  (eE f r=none->(Instr.findAsking kt (enc r) es i).run P w=.ok none w)/\(∀ x,eE f r=some x->∃ j,(Instr.findAsking kt (enc r) es i).run P w=.ok (some (j,x)) w)
 | [],es,i,h=>by
  obtain rfl:es=[]:=by simpa using h
  exact⟨fun _=>rfl,fun x hx=>by simp[eE]at hx⟩
 | p :: f,es,i,h=>by
  cases es with
  | nil=>simp at h
  | cons e es=>
   simp only[List.map_cons,List.cons.injEq,Prod.mk.injEq]at h;obtain⟨⟨hk,hv⟩,h⟩:=h;have ih:=yP kit r w f es (i+1) h;unfold Instr.findAsking;by_cases hr:r=p.1
   ·subst hr
    refine⟨fun hn=>by simp[eE]at hn,fun x hx=>?_⟩;have rS:p.2=x:=by simpa[eE] using hx
    refine⟨i,?_⟩;simp[Sem.run_bind,hk,kit.eq,hv,rS]
   ·have e1:eE (p :: f) r=eE f r:=by simp[eE,hr]
    rw[e1];refine⟨fun hn=>?_,fun x hx=>?_⟩
    ·simp[Sem.run_bind,hk,kit.eq,hr,ih.1 hn]
    ·obtain⟨j,hj⟩:=ih.2 x hx
     exact⟨j,by simp[Sem.run_bind,hk,kit.eq,hr,hj]⟩
theorem As{K:Type} [DecidableEq K] {P:Program} {kt:TypeId} {enc:K->Value} (kit:KeyKit P kt enc) (r:K) (w:World) (f:List (K × Value)) (es:List MapEntry) (h:es.map (fun e=>(e.key,e.val))=f.map (fun p=>(enc p.1,p.2))) :
  (eE f r=none->(Instr.findKey kt (enc r) es).run P w=.ok none w)/\(∀ x,eE f r=some x->∃ j,(Instr.findKey kt (enc r) es).run P w=.ok (some (j,x)) w):=by
 have hA:=yP kit r w f es 0 h;obtain⟨fs,hu⟩:=kit.und;unfold Instr.findKey;cases es with
 | nil=>
  obtain rfl:f=[]:=by simpa using h.symm
  refine⟨fun _=>?_,fun x hx=>by simp[eE]at hx⟩;simp[run_underlying hu,Instr.findNow]
 | cons e es=>
  have hn:Instr.findNow (.struct fs) (enc r) (e :: es) 0=none:=by simp[Instr.findNow,Instr.sameNow]
  simp only[Sem.run_bind,run_underlying hu,Result.andThen_ok,hn];exact hA
theorem uN{K:Type} [DecidableEq K] {P:Program} {kt mt vt:TypeId} {z:Value} {enc:K->Value} (kit:KeyKit P kt enc) (hm:P.underlying mt=some (.map kt vt)) (hz:∀ w,(zeroValue vt).run P w=.ok z w) {w:World} {b:Nat} {f:List (K × Value)} (h:df enc w b f) (r:K) :
  (Instr.lookup mt (.map (some b)) (enc r) true).run P w=.ok (.tuple #[(eE f r).getD z,.bool (eE f r).isSome]) w:=by
 obtain⟨es,clock,hb,mg⟩:=h;have hF:=As kit r w f es.toList mg;have hg:(getObj b).run P w=.ok (.map es clock) w:=by simp[getObj,Sem.run,hb]
 unfold Instr.lookup;cases hn:eE f r with
 | none=>simp[Sem.run_bind,run_underlying hm,hg,kit.check,hF.1 hn,hz]
 | some x=>
  obtain⟨j,hj⟩:=hF.2 x hn;simp[run_underlying hm,hg,kit.check,hj]
theorem Qh{K:Type} [DecidableEq K] {P:Program} {kt mt vt:TypeId} {z:Value} {enc:K->Value} (kit:KeyKit P kt enc) (hm:P.underlying mt=some (.map kt vt)) (hz:∀ w,(zeroValue vt).run P w=.ok z w) {w:World} {b:Nat} {f:List (K × Value)} (h:df enc w b f) (r:K) :
  (Instr.lookup mt (.map (some b)) (enc r) false).run P w=.ok ((eE f r).getD z) w:=by
 obtain⟨es,clock,hb,mg⟩:=h;have hF:=As kit r w f es.toList mg;have hg:(getObj b).run P w=.ok (.map es clock) w:=by simp[getObj,Sem.run,hb]
 unfold Instr.lookup;cases hn:eE f r with
 | none=>simp[Sem.run_bind,run_underlying hm,hg,kit.check,hF.1 hn,hz]
 | some x=>
  obtain⟨j,hj⟩:=hF.2 x hn;simp[run_underlying hm,hg,kit.check,hj]
theorem yo{K:Type} [DecidableEq K] {P:Program} {kt mt vt:TypeId} {enc:K->Value} (kit:KeyKit P kt enc) (hm:P.underlying mt=some (.map kt vt)) {w:World} {b:Nat} {f:List (K × Value)} (h:df enc w b f) (r:K) (x:Value) (hn:eE f r=none) :
  ∃ o,(Instr.mapUpdate mt (.map (some b)) (enc r) x).run P w=.ok () (w.putObj b o)/\df enc (w.putObj b o) b (f++[(r,x)]):=by
 obtain⟨es,clock,hb,mg⟩:=h;have hF:=As kit r w f es.toList mg;have hg:(getObj b).run P w=.ok (.map es clock) w:=by simp[getObj,Sem.run,hb]
 have hs:∀ o,(setObj b o).run P w=.ok () (w.putObj b o):=fun o=>by simp[setObj,Sem.run,hb,World.putObj]
 refine⟨_,?_,es.push { key:=enc r,val:=x,born:=clock },clock+1,World.putObj_heap_same (aB hb),?_⟩
 ·unfold Instr.mapUpdate
  simp[run_underlying hm,hg,kit.check,hF.1 hn,hs]
 ·simp[mg]
theorem eX(g:Nat):∀ (vs:List Value) (o:Nat) (w:World),(∀ k,k≠g->(w.setCells g o vs).heap[k]?=w.heap[k]?)/\(w.setCells g o vs).os=w.os/\(w.setCells g o vs).tape=w.tape/\(w.setCells g o vs).output=w.output/\(w.setCells g o vs).heap.size=w.heap.size
 | [],o,w=>⟨fun _ _=>rfl,rfl,rfl,rfl,rfl⟩
 | v :: r,o,w=>by
  obtain⟨h1,h2,h3,h4,h5⟩:=eX g r (o+1) (w.setCell ⟨g,o,none⟩ v);exact⟨fun k hk=>(h1 k hk).trans (Below.heap_setCell w ⟨g,o,none⟩ v k hk),h2,h3,h4,h5.trans (by simp)⟩
theorem kO(g:Nat) (e:TypeId) (fz:Nat × Nat):∀ (vs:List Value) (o:Nat) (w:World) (cur:Array Value),w.heap[g]?=some (.cells cur e fz)->o+vs.length<=cur.size →
  ∃ cur',(w.setCells g o vs).heap[g]?=some (.cells cur' e fz)/\cur'.size=cur.size/\cur'.toList.take (o+vs.length)=cur.toList.take o++vs
 | [],o,w,cur,hg,_=>⟨cur,hg,rfl,by simp⟩
 | v :: r,o,w,cur,hg,hl=>by
  simp only[List.length_cons]at hl;obtain⟨cur',h1,h2,h3⟩:=kO g e fz r (o+1) (w.setCell ⟨g,o,none⟩ v) (cur.setIfInBounds o v) (aE hg o v) (by simp;omega);refine⟨cur',h1,by simpa using h2,?_⟩;rw[show o+(v :: r).length=o+1+r.length by simp;omega,h3,Array.toList_setIfInBounds,List.take_succ_eq_append_getElem (by simp;omega),List.take_set_of_le (by omega),List.getElem_set_self];simp
def aL(w:World) (base:Nat) (e:TypeId) (size:Nat) (v:Value) (n:Nat) (xs:List Value):Prop:=
 xs.length=n * size/\((v=.slice none 0 0/\n=0)\/∃ g cap cur fz,v=.slice (some ⟨g,0,none⟩) n cap/\base<=g/\w.heap[g]?=some (.cells cur e fz)/\(∀ i,i<cur.size->¬ (fz.1<=i/\i<fz.2))/\n<=cap/\cap<=maxLen/\cur.size=cap * size/\cur.toList.take (n * size)=xs)
theorem aL.nil(w:World) (base:Nat) (e:TypeId) (size:Nat):aL w base e size (.slice none 0 0) 0 []:=⟨by simp,.inl ⟨rfl,rfl⟩⟩
theorem aL.of_owns{w:World} {base:Nat} {e:TypeId} {size:Nat} {v:Value} {n:Nat} {xs:List Value} (h:w.ownsRow base e size v n xs):aL w base e size v n xs:=by
 refine⟨h.1,?_⟩;rcases h.2 with hn|⟨g,cap,cur,hv,hb,hg,rest⟩
 ·exact .inl hn
 ·exact .inr ⟨g,cap,cur,(0,0),hv,hb,hg,fun i _ h=>by have:=h.2;simp at this,rest⟩
theorem aL.slice{w:World} {base size:Nat} {e:TypeId} {v:Value} {n:Nat} {xs:List Value} (h:aL w base e size v n xs):∃ a c,v=.slice a n c:=by
 rcases h.2 with ⟨rfl,rfl⟩|⟨g,cap,cur,fz,rfl,_⟩
 ·exact⟨_,_,rfl⟩
 ·exact⟨_,_,rfl⟩
theorem aL.ck{w w':World} {base size:Nat} {e:TypeId} {v:Value} {n:Nat} {xs:List Value} (h:aL w base e size v n xs) (hb:CK w w'):aL w' base e size v n xs:=by
 obtain⟨hl,h⟩:=h;refine⟨hl,?_⟩;rcases h with h|⟨g,cap,cur,fz,h1,h2,h3,h4⟩
 ·exact .inl h
 ·exact .inr ⟨g,cap,cur,fz,h1,h2,hb _ _ h3 rfl,h4⟩
theorem aL.up{w w':World} {base size:Nat} {e:TypeId} {v:Value} {n:Nat} {xs:List Value} (h:aL w base e size v n xs) (hb:Below w.heap.size w w'):aL w' base e size v n xs:=h.ck (.of_below hb)
theorem aL.lt{w:World} {base size:Nat} {e:TypeId} {v:Value} {n:Nat} {xs:List Value} (h:aL w base e size v n xs):∀ k,v.ownBlock=some k->base<=k/\k<w.heap.size:=by
 intro k hk;rcases h.2 with ⟨rfl,_⟩|⟨g,cap,cur,fz,rfl,hb,hg,_⟩
 ·simp[Value.ownBlock]at hk
 ·simp[Value.ownBlock]at hk
  subst hk;exact⟨hb,aB hg⟩
theorem aL.ne{w:World} {base sz:Nat} {e e':TypeId} {v:Value} {n:Nat} {xs:List Value} {B:Nat} {cs:Array Value} {f:Nat × Nat} (h:aL w base e sz v n xs) (hB:w.heap[B]?=some (.cells cs e' f)) (bH:e≠e'):∀ g,v.ownBlock=some g->g≠B:=by
 intro g hg hgB;rcases h.2 with ⟨rfl,_⟩|⟨g',cap,cur,fz,rfl,_,h3,_⟩
 ·cases hg
 ·have:g'=g:=by simpa[Value.ownBlock] using hg
  rw[this,hgB,hB]at h3;cases h3;exact bH rfl
theorem aL.isCells{w:World} {base sz:Nat} {e:TypeId} {v:Value} {n:Nat} {xs:List Value} {B:Nat} {o:Obj} (h:aL w base e sz v n xs) (hB:w.heap[B]?=some o) (ho:o.isCells=false):some B≠v.ownBlock:=by
 intro hg;rcases h.2 with ⟨rfl,_⟩|⟨g',cap,cur,fz,rfl,_,h3,_⟩
 ·cases hg
 ·have:B=g':=by simpa[Value.ownBlock] using hg
  rw[<-this,hB]at h3;cases h3;cases ho
theorem aL.put{w:World} {base sz:Nat} {e:TypeId} {v:Value} {n:Nat} {xs:List Value} {B:Nat} (h:aL w base e sz v n xs) (bH:∀ g,v.ownBlock=some g->g≠B) (o:Nat) (x:Value):aL (w.setCell ⟨B,o,none⟩ x) base e sz v n xs:=by
 obtain⟨hl,h⟩:=h;refine⟨hl,?_⟩;rcases h with h|⟨g,cap,cur,fz,rfl,h2,h3,h4⟩
 ·exact .inl h
 ·exact .inr ⟨g,cap,cur,fz,rfl,h2,aI h3 (bH g rfl) _ _,h4⟩
theorem aL.base{w:World} {base base':Nat} {e:TypeId} {sz:Nat} {v:Value} {n:Nat} {xs:List Value} (h:aL w base e sz v n xs) (hb:base'<=base):aL w base' e sz v n xs:=by
 obtain⟨hl,h⟩:=h;refine⟨hl,?_⟩;rcases h with h|⟨g,cap,cur,fz,h1,h2,h3⟩
 ·exact .inl h
 ·exact .inr ⟨g,cap,cur,fz,h1,Nat.le_trans hb h2,h3⟩
theorem aL.cell{w:World} {base size:Nat} {e:TypeId} {v:Value} {n:Nat} {xs:List Value} (h:aL w base e size v n xs) (j:Nat) (u:Value) (hu:xs[j]?=some u):∃ g c,v=.slice (some ⟨g,0,none⟩) n c/\w.cell? ⟨g,j,none⟩=some u:=by
 rcases h.2 with ⟨rfl,hn⟩|⟨g,cap,cur,fz,rfl,_,hg,_,_,_,_,ht⟩
 ·subst hn
  have:xs=[]:=List.eq_nil_of_length_eq_zero (by simpa using h.1);rw[this]at hu;simp at hu
 ·refine⟨g,cap,rfl,?_⟩
  rw[ae hg];rw[<-ht,List.getElem?_take]at hu;split at hu
  ·simpa using hu
  ·cases hu
section
variable {P : Program} (w : World)
theorem wT(base:Nat) (t ty e:TypeId) (i:TypeInfo) (z:Value) (size bytes:Nat) (ht:P.underlying t=some (.slice e)) (hi:P.info? e=some i) (hz:i.zero=some z)
  (mW:i.size=size) (sE:i.bytes=bytes) (zV:z.cells.size=size) (dM:0<size)
  (v:Value) (n:Nat) (xs:List Value) (aW:aL w base e size v n xs)
  (a:Addr) (m c:Nat) (news:List Value) (hl:news.length=m * size) (bj:∀ j u,news[j]?=some u->w.cell? (a.add j)=some u) (h1:∀ u∈news,u.oneCell'=true)
  (CP:n+m<=maxLen) (ou:(n+m) * bytes<=140737488355328) (rf:base<=w.heap.size) :
  ∃ v' w',(Builtin.append_ #[t,t] ty #[v,.slice (some a) m c]).run P w=.ok v' w'/\aL w' base e size v' (n+m) (xs++news)/\w.grownBy w' v.ownBlock/\(v'.ownBlock=v.ownBlock\/v'.ownBlock=some w.heap.size):=by
 rcases aW.2 with ⟨rfl,rfl⟩|⟨g,cap,cur,fz,rfl,Iw,hg,FB,O4,zH,sC,Mx⟩
 ·have hx:xs=[]:=List.eq_nil_of_length_eq_zero (by simpa using aW.1)
  subst hx;by_cases hm:m=0
  ·obtain⟨v',w',q1,q2,q3,q4⟩:=run_append_own (P:=P) w base t ty e i z size bytes ht hi hz mW sE zV dM (.slice none 0 0) 0 [] (World.ownsRow_nil w base e size) a m c news hl bj h1 CP ou rf
   have:=q4.2 ⟨rfl,hm⟩;exact⟨v',w',q1,.of_owns q2,q3,.inl (by rw[this])⟩
  ·obtain⟨v',w',q1,q2,q3,q4⟩:=run_append_own (P:=P) w w.heap.size t ty e i z size bytes ht hi hz mW sE zV dM (.slice none 0 0) 0 [] (World.ownsRow_nil w _ e size) a m c news hl bj h1 CP ou (Nat.le_refl _)
   subst mW sE;have hr:=run_append_nil (P:=P) w t ty e i z ht hi hz a m c news hl bj (by omega) (by simp only[maxLen]at CP;omega) (by have hb:=ou;simp only[Nat.zero_add]at hb;omega);have e1:=hr.symm.trans q1;injection e1 with e1 e2
   subst e1 e2;exact⟨_,_,hr,(aL.of_owns q2).base rf,q3,.inr rfl⟩
 ·subst mW
  have cZ:(xs++news).length=(n+m) * i.size:=by rw[List.length_append,aW.1,hl,Nat.add_mul]
  by_cases rc:n+m<=cap
  ·have km:n * i.size+news.length<=cur.size:=by rw[hl,sC,<-Nat.add_mul];exact Nat.mul_le_mul_right _ rc
   have hr:=run_append_room_cells (P:=P) w t ty e i ht hi g 0 n cap a m c news hl bj h1 rc (fun j hj=>by rw[Nat.zero_add,ae hg];simp;omega)
    (fun j hj=>by
     simp only[World.frozen?,hg,Nat.zero_add];have:=FB (n * i.size+j) (by omega)
     simpa using this)
   rw[Nat.zero_add]at hr;obtain⟨cur',g1,g2,g3⟩:=kO g e fz news (n * i.size) w cur hg km;obtain⟨o1,o2,o3,o4,o5⟩:=eX g news (n * i.size) w;refine⟨_,_,hr,⟨cZ,.inr ⟨g,cap,cur',fz,rfl,Iw,g1,fun k hk=>FB k (by omega),rc,zH,by omega,?_⟩⟩,⟨o2,o3,o4,by omega,fun k _ hk=>o1 k (fun e=>hk (by rw[e];rfl))⟩,.inl rfl⟩;rw[Nat.add_mul,<-hl,g3,Mx]
  ·subst sE
   have holds:∀ j u,xs[j]?=some u->w.cell? ((⟨g,0,none⟩:Addr).add j)=some u:=fun j u hu=>by
    obtain⟨g',c',e1,hc⟩:=aW.cell j u hu;have:g'=g:=by simp at e1;exact e1.1.symm
    subst this;rw[<-hc];congr 1;unfold Addr.add;split<;>simp_all
   have hr:=run_append_grow (P:=P) w t ty e i z ht hi hz ⟨g,0,none⟩ n cap xs aW.1 holds a m c news hl bj (by omega) (by simp only[maxLen]at CP;omega) (growslice_fits (by omega) ou);obtain⟨v',w',q1,q2,q3⟩:=run_append_arg_grows (P:=P) w t ty e i z i.size i.bytes ht hi hz rfl rfl zV dM ⟨g,0,none⟩ n cap xs aW.1 holds a m c news hl bj (by omega) CP ou;have e1:=hr.symm.trans q1;injection e1 with e1 e2
   subst e1 e2;exact⟨_,_,hr,(aL.of_owns q2).base rf,⟨q3.os,q3.tape,q3.output,q3.size,fun k hk _=>q3.block k hk (by simp)⟩,.inr rfl⟩
theorem bO{ops:Array Oper} {rest:List Oper} {o:Oper} {a:Act} {Q:Exit->Act->World->Prop} (oL:o.guard=none) (s x:Operand) (t:TypeId)
  (ho:o.op=.call { callee:=.builtin .append,args:=#[s,x],argTypes:=#[t,t] })
  (base:Nat) (e:TypeId) (i:TypeInfo) (z:Value) (size bytes:Nat) (ht:P.underlying t=some (.slice e)) (hi:P.info? e=some i) (hz:i.zero=some z)
  (mW:i.size=size) (sE:i.bytes=bytes) (zV:z.cells.size=size) (dM:0<size)
  (v:Value) (n:Nat) (xs:List Value) (hs:a.eval s=v) (aW:aL w base e size v n xs)
  (ad:Addr) (m c:Nat) (news:List Value) (hx:a.eval x=.slice (some ad) m c) (hl:news.length=m * size) (bj:∀ j u,news[j]?=some u->w.cell? (ad.add j)=some u) (h1:∀ u∈news,u.oneCell'=true)
  (CP:n+m<=maxLen) (ou:(n+m) * bytes<=140737488355328) (rf:base<=w.heap.size)
  (h:∀ v' w',aL w' base e size v' (n+m) (xs++news)->w.grownBy w' v.ownBlock->(v'.ownBlock=v.ownBlock\/v'.ownBlock=some w.heap.size)->wpList P ops Q rest (a.put o.dst v') w'):wpList P ops Q (o :: rest) a w:=by
 refine wpList_plain oL fun _ hK=>?_
 obtain⟨v',w',hr,h2,h3,h4⟩:=wT (P:=P) w base t o.type e i z size bytes ht hi hz mW sE zV dM v n xs aW ad m c news hl bj h1 CP ou rf;unfold Oper.wp execOp;simp only[ho,resolve,invoke,builtin,Sem.run_bind,Sem.run_pure,Result.andThen_ok,List.map_toArray,List.map_cons,List.map_nil,hs,hx,hr];exact hK _ _ (h v' w' h2 h3 h4)
theorem mm{F:Fence} {d:Nat} {ops:Array Oper} {rest:List Oper} {o:Oper} {a:Act} {Q:Exit->Act->World->Prop} (oL:o.guard=none) (s x:Operand) (t:TypeId)
  (ho:o.op=.call { callee:=.builtin .append,args:=#[s,x],argTypes:=#[t,t] })
  (base:Nat) (e:TypeId) (i:TypeInfo) (z:Value) (size bytes:Nat) (ht:P.underlying t=some (.slice e)) (hi:P.info? e=some i) (hz:i.zero=some z)
  (mW:i.size=size) (sE:i.bytes=bytes) (zV:z.cells.size=size) (dM:0<size)
  (v:Value) (n:Nat) (xs:List Value) (hs:a.eval s=v) (aW:aL w base e size v n xs)
  (ad:Addr) (m c:Nat) (news:List Value) (hx:a.eval x=.slice (some ad) m c) (hl:news.length=m * size) (bj:∀ j u,news[j]?=some u->w.cell? (ad.add j)=some u) (h1:∀ u∈news,u.oneCell'=true)
  (CP:n+m<=maxLen) (ou:(n+m) * bytes<=140737488355328) (rf:base<=w.heap.size)
  (h:∀ v' w',aL w' base e size v' (n+m) (xs++news)->w.grownBy w' v.ownBlock->(v'.ownBlock=v.ownBlock\/v'.ownBlock=some w.heap.size)->wpListIn F d P ops Q rest (a.put o.dst v') w'):wpListIn F d P ops Q (o :: rest) a w:=by
 refine wpListIn_plain oL fun K Ju=>?_
 obtain⟨v',w',IN,r1,r2,r3⟩:=wT (P:=P) w base t o.type e i z size bytes ht hi hz mW sE zV dM v n xs aW ad m c news hl bj h1 CP ou rf;unfold Oper.wpIn;refine⟨?_,?_⟩
 ·simp[Oper.about,ho,resolve,Target.leads,Sem.run_pure]
 ·rw[Oper.semAt_plain F _ _ (by rw[ho];intro c oJ;cases oJ)]
  simp[execOp,ho,resolve,invoke,builtin,hs,hx,IN,Result.andThen];exact Ju _ _ (h v' w' r1 r2 r3)
end
theorem Ni(a:Adv) (ps:Option Addr) (cs:Nat) (v:Value) (l:List Mv) (w:World) (hv:rg w v l) :
  Calls Tryz.prog 82 #[.agg #[.int .i64 a.n,.slice ps a.states.length cs],v] w fun e w'=>e=.returned (.int .i64 (stateE a l))/\Below w.heap.size w w':=by
 obtain⟨pa,ca,rfl,l1,m1,e1⟩:=hv.at;clear hv;have E:=aa e1;clear e1;by_cases hz:l.length=0
 ·have du:((l.length:Int) == 0)=true:=beq_iff_eq.2 (by omega)
  have HV:Hid (stateE a l=19):=by(have h:stateE a l=19:=by(unfold stateE;rw[if_pos hz]));exact h
  clear hz
  go_enter Tryz.func82,Tryz.ntmps82
  go_wp2_with fail
  go_ret
  exact⟨aC HV.out.symm,by go_grown⟩
 have du:((l.length:Int) == 0)=false:=beq_eq_false_iff_ne.2 (by omega);have HV:Hid (stateE a l=aP l.length (dF a l)):=by(have h:stateE a l=aP l.length (dF a l):=by(unfold stateE;rw[if_neg hz]));exact h
 clear hz
 go_enter Tryz.func82,Tryz.ntmps82
 go_wp2_with fail
 refine bw (fun W=>Below w.heap.size w W/\W.heap[w.heap.size]?=some (.cells #[.int .i64 a.n,.slice ps a.states.length cs] 27))
  ⟨by go_grown,ar _ _⟩ (fun W0 bd=>?_)
 obtain⟨aH,hT⟩:=bd;have HT:=aa hT;clear hT du
 go_loopw [13] (fun i wr=>Below W0.heap.size W0 wr/\∃ k:Nat,k<=l.length/\i=.int .i64 k/\∀ j,j<k->dF a l j=0) (fun i _=>l.length - (intOf i).toNat)
 case atStart=>exact⟨Below.refl _ _,0,by omega,rfl,by simp⟩
 case round=>
  obtain⟨aJ,k,hk,rfl,aO⟩:=hrel;have H:=aa aO;clear aO;have bS:=aj aH aJ;by_cases aF:k<l.length
  ·obtain⟨b1,o1,rfl,⟨⟨c0,_⟩,⟨c1,_⟩,⟨c2,_⟩,⟨c3,_⟩,⟨c4,_⟩,⟨c5,_⟩,⟨c6,_⟩⟩,c7,_⟩:=E.out k aF
   have d0:=ay bS c0;have d1:=ay bS c1;have d2:=ay bS c2;have d3:=ay bS c3;have d4:=ay bS c4;have d5:=ay bS c5;have d6:=ay bS c6;have d7:=ay bS c7;clear c0 c1 c2 c3 c4 c5 c6 c7
   have HO:Hid (dF a l k=if roundE l[k].r≠0 then roundE l[k].r else if l[k].r.g.n≠a.n then 22 else if 0<k/\0<=roundC (l.getD (k - 1) default).r l[k].r then 14 else if l[k].to<0\/(a.states.length:Int)<=l[k].to then 2 else 0):=by
    have h:dF a l k=if roundE l[k].r≠0 then roundE l[k].r else if l[k].r.g.n≠a.n then 22 else if 0<k/\0<=roundC (l.getD (k - 1) default).r l[k].r then 14 else if l[k].to<0\/(a.states.length:Int)<=l[k].to then 2 else 0:=by unfold dF;rw[aA default aF]
    exact h
   generalize l[k]=m at d0 d1 d2 d3 d4 d5 d6 d7 HO
   go_wp2_with fail
   refine aT (fun W=>Below wr.heap.size wr W/\W.heap[wr.heap.size]?=some (.cells #[.int .i64 m.r.g.n,.int .i64 m.r.g.h0,.int .i64 m.r.g.h1,.int .i64 m.r.g.h2,.int .i64 m.r.g.h3,.int .i64 m.r.g.h4,.int .i64 m.r.f,.int .i64 m.to] 98)) ⟨by go_grown,ar _ _⟩ (fun V hV=>?_);obtain⟨fo,hC⟩:=hV;have HC:=aa hC;clear hC;have uv:=aj bS fo;refine(tD m.r _).mono ?_;rintro e w1 ⟨rfl,aG⟩;clear d0 d1 d2 d3 d4 d5 d6 d7;have gl:=aj uv aG;have rW:=aj aJ (aj fo aG);have s1:=ae (ak rW HT.out);have s2:=ae (ak aG HC.out);generalize roundE m.r=er at HO;by_cases FF:er=0
   case neg=>
    have her':(er != 0)=true:=by simpa using FF
    go_wp2_with fail
    go_ret
    exact⟨aC (by rw[HV.out,<-bh k er aF H.out (by rw[HO.out,if_pos FF]) FF]),gl⟩
   subst FF;by_cases oP:m.r.g.n=a.n
   case neg=>
    have I7:(m.r.g.n != a.n)=true:=by simpa using oP
    go_wp2_with fail
    go_ret
    exact⟨aC (by rw[HV.out,<-bh k 22 aF H.out (by rw[HO.out,if_neg (by simp),if_pos oP]) (by decide)]),gl⟩
   have I7:(m.r.g.n != a.n)=false:=by simpa using oP
   have ju:Hid (dF a l k=if 0<k/\0<=roundC (l.getD (k - 1) default).r m.r then 14 else if m.to<0\/(a.states.length:Int)<=m.to then 2 else 0):=by
    have h:dF a l k=if 0<k/\0<=roundC (l.getD (k - 1) default).r m.r then 14 else if m.to<0\/(a.states.length:Int)<=m.to then 2 else 0:=by rw[HO.out,if_neg (by simp),if_neg (by simpa using oP)]
    exact h
   clear HO oP
   go_wp2_with fail
   clear I7;by_cases gW:k=0
   ·have iI:Hid (dF a l k=if m.to<0\/(a.states.length:Int)<=m.to then 2 else 0):=by(have h:dF a l k=if m.to<0\/(a.states.length:Int)<=m.to then 2 else 0:=by(rw[ju.out,if_neg (by omega)]));exact h
    have hd:decide ((0:Int)<(k:Int))=false:=by simp;omega
    have kz:decide (0<k)=false:=by simp;omega
    clear ju gW s1 s2;refine aK (by kernel_rfl) (by kernel_rfl) ?_
    repeat (go_big_quiet_step (fail))
    refine wpQuiet_nil ?_;intro _ bV;obtain⟨xq,bC⟩:=bV;subst bC;clear hd kz;have r1:=ae (ak (aj rW xq.ext) HT.out);have r2:=ae (ak (aj aG xq.ext) HC.out);have mh:=aj gl xq.ext
    go_wp2_with fail
    all_goals first
     | (go_ret
        refine⟨aC ?_,mh⟩
        rw[HV.out]
        go_light
        refine bh k _ aF H.out ?_ (by decide)
        rw[iI.out]
        grind)
     | (go_roundw
        case rel=>
         refine⟨aj (aj rW xq.ext) (Below.refl _ _),k+1,by omega,by go_num,aQ H.out ?_⟩
         go_light
         rw[iI.out]
         grind
        case measure=>simp[intOf];omega)
   ·obtain⟨j,hj⟩:∃ j,k=j+1:=⟨k - 1,by omega⟩
    have qf:j<l.length:=by omega
    have HJ:=aa hj;obtain⟨b2,o2,e2,⟨⟨c0,_⟩,⟨c1,_⟩,⟨c2,_⟩,⟨c3,_⟩,⟨c4,_⟩,⟨c5,_⟩,⟨c6,_⟩⟩,_⟩:=E.out j qf;obtain⟨rfl,rfl⟩:b1=b2/\o1=o2:=by simpa using e2
    clear e2;have hd:decide ((0:Int)<(k:Int))=true:=by simp;omega
    have kz:0<k:=by omega
    have iI:Hid (dF a l k=if 0<=roundC l[j].r m.r then 14 else if m.to<0\/(a.states.length:Int)<=m.to then 2 else 0):=by
     have h:dF a l k=if 0<=roundC l[j].r m.r then 14 else if m.to<0\/(a.states.length:Int)<=m.to then 2 else 0:=by
      rw[ju.out];have e:k - 1=j:=by omega
      rw[e,aA default qf]
      grind
     exact h
    clear ju gW hj s1 s2;have mf:IntKind.i64.wrap ((k:Int) - 1)=(j:Int):=by rw[HJ.out];rw[IntWalk.i64_in _ (by omega)];omega
    generalize l[j]=m2 at c0 c1 c2 c3 c4 c5 c6 iI;have q1:∀ x:ExtW w1,∀ o,x.val.cell? ⟨w.heap.size,o,none⟩=_:=fun x=>ae (ak (aj rW x.ext) HT.out)
    have q2:∀ x:ExtW w1,∀ o,x.val.cell? ⟨wr.heap.size,o,none⟩=_:=fun x=>ae (ak (aj aG x.ext) HC.out)
    have k0:∀ x:ExtW w1,x.val.cell? _=_:=fun x=>x.cell (ay gl c0)
    have k1:∀ x:ExtW w1,x.val.cell? _=_:=fun x=>x.cell (ay gl c1)
    have k2:∀ x:ExtW w1,x.val.cell? _=_:=fun x=>x.cell (ay gl c2)
    have k3:∀ x:ExtW w1,x.val.cell? _=_:=fun x=>x.cell (ay gl c3)
    have k4:∀ x:ExtW w1,x.val.cell? _=_:=fun x=>x.cell (ay gl c4)
    have k5:∀ x:ExtW w1,x.val.cell? _=_:=fun x=>x.cell (ay gl c5)
    have k6:∀ x:ExtW w1,x.val.cell? _=_:=fun x=>x.cell (ay gl c6)
    clear c0 c1 c2 c3 c4 c5 c6;refine aK (by kernel_rfl) (by kernel_rfl) ?_
    repeat (go_big_quiet_step ((go_at_call 72;exact Calls.ext_of (Ak m2.r m.r _))))
    refine wpQuiet_nil ?_;intro _ bV;obtain⟨xq,bC⟩:=bV;subst bC;have r1:=q1 xq;have r2:=q2 xq;clear q1 q2 k0 k1 k2 k3 k4 k5 k6 hd kz mf;have mh:=aj gl xq.ext;generalize roundC m2.r m.r=oo at iI
    go_wp2_with fail
    all_goals first
     | (go_ret
        refine⟨aC ?_,mh⟩
        rw[HV.out]
        go_light
        refine bh k _ aF H.out ?_ (by decide)
        rw[iI.out]
        grind)
     | (go_roundw
        case rel=>
         refine⟨aj (aj rW xq.ext) (Below.refl _ _),k+1,by omega,by go_num,aQ H.out ?_⟩
         go_light
         rw[iI.out]
         grind
        case measure=>simp[intOf];omega)
  ·go_wp2_with fail
   go_ret
   exact⟨aC (by rw[HV.out,cp];intro j hj;exact H.out j (by omega)),bS⟩
end Go.Proofs.YtkfgpnbpcpdclaaGreat
namespace Go.Proofs.YtkfgpnbpcpdclaaGreat
open Go.RowKit Go Go.Shelf
attribute [local go_sem] Oper.semAt_some
theorem aX(w:World) (a b:Obj):((w.alloc a).alloc b).heap[w.heap.size+1]?=some b:=by simpa using ar (w.alloc a) b
theorem cV(w:World) (a b c:Obj):(((w.alloc a).alloc b).alloc c).heap[w.heap.size+1+1]?=some c:=by simpa using ar ((w.alloc a).alloc b) c
theorem ji(tmps:Array Value) (B:Nat) (W:World) (x:Int) (ty:TypeId) (ht:tmps[2]?.getD undef=.pointer (some ⟨B,0,none⟩)) (hb:W.heap[B]?=some (.cells #[.int .i64 x] ty)) :
  (results Tryz.f52 tmps).run Tryz.prog W=.ok (.int .i64 x) W:=by
 have c:=ae hb 0;simp at c;simp[results,Tryz.results52,go_sem,ht,c]
theorem rp(a:Adv) (v:Value) (w:World) (hv:bn w v a.states) (hN:movesN a.states<1099511627776) :
  Calls Tryz.prog 52 #[.agg #[.int .i64 a.n,v]] w fun e w'=>e=.returned (.int .i64 (advE a))/\Below w.heap.size w w':=by
 have G:=aa hv;obtain⟨pa,ca,rfl,la1,la2,ea⟩:=hv.at;clear hv;have E:=aa ea;clear ea;refine eI Tryz.func52 rfl ?_;simp only[Tryz.ntmps52,List.size_toArray,List.length_cons,List.length_nil,Nat.reduceAdd,Nat.reduceSub,Array.replicate_succ,Array.replicate_zero,List.push_toArray,List.append_toArray,List.nil_append,List.cons_append];by_cases hn:a.n<1\/5<a.n
 ·have HV:Hid (advE a=2):=by(have h:advE a=2:=by(unfold advE;rw[if_pos hn]));exact h
  rcases hn with hn|hn
  ·go_wp2_with fail
   refine fH (ji _ _ _ 2 _ rfl (aX _ _ _)) ?_;exact⟨aC HV.out.symm,by go_grown⟩
  ·go_wp2_with fail
   refine fH (ji _ _ _ 2 _ rfl (aX _ _ _)) ?_;exact⟨aC HV.out.symm,by go_grown⟩
 have IE:1<=a.n:=by omega
 have n9:a.n<=5:=by omega
 have HV:Hid (advE a=if sizedE a≠0 then sizedE a else if aP a.states.length (fun s=>stateE a (a.states.getD s []))≠0 then aP a.states.length (fun s=>stateE a (a.states.getD s [])) else if growsB a then 0 else 21):=by
  have h:advE a=if sizedE a≠0 then sizedE a else if aP a.states.length (fun s=>stateE a (a.states.getD s []))≠0 then aP a.states.length (fun s=>stateE a (a.states.getD s [])) else if growsB a then 0 else 21:=by
   unfold advE sizedE;rw[if_neg hn];grind
  exact h
 clear hn
 go_wp2_with fail
 refine aT (fun W=>Below w.heap.size w W/\W.heap[w.heap.size]?=some (.cells #[.int .i64 a.n,.slice pa a.states.length ca] 27)/\W.heap[w.heap.size+1]?=some (.cells #[.int .i64 0] 42)) ⟨by go_grown,aq _ (ar _ _),aX _ _ _⟩ (fun W0 bd=>?_);obtain⟨aH,bD,iq⟩:=bd;refine(Ng a _ W0 (G.out.up up_moves aH) hN).mono ?_;rintro e w1 ⟨rfl,aG⟩;have fk:=ak aG bD;have lL:=ak aG iq;have dD:=aj aH aG;have c1:=ae lL 0;have f1:=aD lL 0;simp at c1;have t1:=ae fk;generalize sizedE a=es at HV;have fd:=aa fk;have jx:=aa lL;clear bD iq aH aG W0 fk lL;by_cases mg:es=0
 case neg=>
  have hes':(es != 0)=true:=by simpa using mg
  go_wp2_with fail
  refine fH (ji _ _ _ es _ rfl (by rw[aE jx.out];rfl)) ?_;exact⟨aC (by rw[HV.out,if_pos mg]),dD.setCell (by simp) _⟩
 subst mg
 go_wp2_with fail
 clear t1 c1 f1
 go_loopw [27] (fun i wr=>Below w1.heap.size w1 wr/\∃ k:Nat,k<=a.states.length/\i=.int .i64 k/\∀ j,j<k->stateE a (a.states.getD j [])=0) (fun i _=>a.states.length - (intOf i).toNat)
 case atStart=>exact⟨Below.refl _ _,0,by omega,rfl,by simp⟩
 case round=>
  obtain⟨aJ,k,hk,rfl,aO⟩:=hrel;have H:=aa aO;clear aO;have bS:=aj dD aJ;have Ta:=ak aJ fd.out;have SG:=ak aJ jx.out;have t1:=ae Ta;by_cases aF:k<a.states.length
  ·obtain⟨b1,o1,rfl,x,cx,hx⟩:=E.out k aF
   rw[Nat.mul_one]at cx;have d1:=ay bS cx;have HX:=aa (hx.up up_move bS);obtain⟨px,qx,rfl,_⟩:=hx;clear cx;have Sv:=aa SG;clear Ta SG
   go_wp2_with fail
   refine(Ni a _ _ _ _ _ HX.out).mono ?_;rintro e w2 ⟨rfl,aS⟩;have kx:=ak aS Sv.out;have c1:=ae kx 0;have f1:=aD kx 0;simp at c1;have qg:=aa kx;clear kx;have HS:Hid (stateE a (a.states.getD k [])=stateE a a.states[k]):=by(have h:stateE a (a.states.getD k [])=stateE a a.states[k]:=by(rw[aA [] aF]));exact h
   generalize stateE a a.states[k]=ek at HS;clear t1 d1;by_cases FV:ek=0
   ·subst FV
    go_wp2_with fail
    go_roundw
    case rel=>exact⟨aj aJ aS,k+1,by omega,by go_num,aQ H.out HS.out⟩
    case measure=>simp[intOf];omega
   ·have hek':(ek != 0)=true:=by simpa using FV
    go_wp2_with fail
    refine fH (ji _ _ _ ek _ rfl (by rw[aE qg.out];rfl)) ?_;exact⟨aC (by rw[HV.out,if_neg (by simp),<-bh (f:=fun s=>stateE a (a.states.getD s [])) k ek aF H.out HS.out FV,if_pos FV]),(aj bS aS).setCell (by simp) _⟩
  ·have aM:∀ j,j<a.states.length->stateE a (a.states.getD j [])=0:=fun j hj=>H.out j (by omega)
   have cU:Hid (advE a=if growsB a then 0 else 21):=by
    have h:advE a=if growsB a then 0 else 21:=by rw[HV.out,if_neg (by simp),cp _ _ aM];simp
    exact h
   have lO:=aa aM;clear aM H HV;have HAr:=aa Ta;have Sv:=aa SG;clear Ta SG
   go_wp2_with fail
   refine(sa _ _ _ _ _).mono ?_;rintro e w2 ⟨rfl,rfl⟩;clear t1
   go_wp2_with fail
   refine bw (fun W=>Below w.heap.size w W/\W.heap[w.heap.size]?=some (.cells #[.int .i64 a.n,.slice pa a.states.length ca] 27)/\W.heap[w.heap.size+1]?=some (.cells #[.int .i64 0] 42)/\W.heap[wr.heap.size]?=some (.cells #[.int .i64 a.n,.slice pa a.states.length ca] 27))
    ⟨bS.alloc bS.size _,aq _ HAr.out,aq _ Sv.out,ar _ _⟩ (fun W0 bd=>?_)
   obtain⟨aH,hA,hR,hX⟩:=bd;have bP:=qU w _ a.states G.out W0 aH wr.heap.size (by simp[ae hX]);have dM:=aB hX;have hsw:=bS.size;have hsR:=aB Sv.out
   refine kG (gf:=125) (lb:=#[.pointer (some ⟨wr.heap.size,0,none⟩)]) rfl (enters_of Tryz.func125 (by kernel_rfl) rfl) bP (Below.refl _ _) (fun k hk=>Nat.lt_of_lt_of_le hk aH.size) (fun i=>rfl)
    (fun i W=>Below w.heap.size w W/\W.heap[w.heap.size]?=some (.cells #[.int .i64 a.n,.slice pa a.states.length ca] 27)/\W.heap[w.heap.size+1]?=some (.cells #[.int .i64 0] 42)/\∀ j,j<i->pk a j=false)
    (fun c _ W=>c=.ret/\Below w.heap.size w W/\W.heap[w.heap.size+1]?=some (.cells #[.int .i64 21] 42)/\growsB a=false)
    (fun i=>(bR.below (by omega)).and (bR.cells.and (bR.cells.and bR.pure))) (fun c i=>bR.pure.and ((bR.below (by omega)).and (bR.cells.and bR.pure))) ⟨aH,hA,hR,by simp⟩ ?round ?done ?stop
   case round=>
    intro yl i W hi hl hI;unfold Dv;have gL:=Tm lO.out hi;have HB:Hid (pk a i=anyLt (nM a i).length fun k=>!cL (mvAt a.states i).2.r.f ((nM a i).getD k default).r.f):=by(have h:pk a i=anyLt (nM a i).length fun k=>!cL (mvAt a.states i).2.r.f ((nM a i).getD k default).r.f:=rfl);exact h
    have VA:Hid (nM a i=a.states.getD (mvAt a.states i).2.to.toNat []):=by(have h:nM a i=a.states.getD (mvAt a.states i).2.to.toNat []:=rfl);exact h
    generalize mvAt a.states i=sm at gL HB VA;obtain⟨sx,m⟩:=sm;dsimp only at gL HB VA;obtain⟨⟨P3,xA⟩,ht0,KJ⟩:=gL;have HI:=aa hI;clear hI;have xH:=HI.out.1.size
    gi_wp2
    refine⟨Bod.of_below (fun k hk=>Nat.lt_of_lt_of_le hk xH) (by go_grown),(fun W'=>Below w.heap.size w W'/\W'.heap[w.heap.size]?=some (.cells #[.int .i64 a.n,.slice pa a.states.length ca] 27)/\W'.heap[w.heap.size+1]?=some (.cells #[.int .i64 0] 42)/\W'.heap[W.heap.size]?=some (.cells #[.int .i64 m.r.g.n,.int .i64 m.r.g.h0,.int .i64 m.r.g.h1,.int .i64 m.r.g.h2,.int .i64 m.r.g.h3,.int .i64 m.r.g.h4,.int .i64 m.r.f,.int .i64 m.to] 98)),
     (bR.below (by omega)).and (bR.cells.and (bR.cells.and bR.cells)),⟨HI.out.1.alloc xH _,aq _ HI.out.2.1,aq _ HI.out.2.2.1,ar _ _⟩,fun W2 h2 _=>?_⟩
    obtain⟨g1,g2,g3,g4⟩:=h2;have dB:=aa HI.out.2.2.2;have MC:=g1.size;have hszR:=aB g3;have hszM:=aB g4;have tA:=ae g2;have tM:=ae g4;have HG1:=aa g1;have O7:=aa g3;have Jy:=aa g2;have OY:=aa g4;clear g1 g2 g3 g4 HI bP hA hR hX;obtain⟨b1,o1,rfl,x,cx,hx⟩:=E.out m.to.toNat (by omega);have HL:Hid (nM a i=a.states[m.to.toNat]):=by(have h:nM a i=a.states[m.to.toNat]:=by(rw[VA.out,aA [] (by omega)]));exact h
    rw[Nat.mul_one]at cx;have d1:=ay HG1.out cx;obtain⟨p2,c2,rfl,m1,m2,e2⟩:=hx.at;clear hx cx;have E2:=aa e2;clear e2;generalize FN:a.states[m.to.toNat]=L at HL E2 d1 m1 m2;have FS:=aa FN;clear FN
    gi_wp2
    clear tA tM d1
    gi_loopw [49] (fun i wr=>Below W2.heap.size W2 wr/\∃ q:Nat,q<=L.length/\i=.int .i64 q/\∀ j,j<q->cL m.r.f (L.getD j default).r.f=true) (fun i _=>L.length - (intOf i).toNat)
    case atStart=>exact⟨Below.refl _ _,0,by omega,rfl,by simp⟩
    case round=>
     obtain⟨fN,q,hq,rfl,pM⟩:=hrel;have H2:=aa pM;clear pM;have tM:=ae (ak fN OY.out);have SD:=ak fN O7.out;have c1':=ae SD 0;have f1':=aD SD 0;simp at c1';have PH:=aa SD;clear SD;have oq:=aj HG1.out fN;have iu:=fN.size;have S6:W.heap.size<wr.heap.size:=by omega
     have hR3':w.heap.size+1<wr.heap.size:=by omega
     by_cases sA:q<L.length
     ·have MH:0<=L[q].r.f/\L[q].r.f<32:=by
       have:=(jj lO.out (s:=m.to.toNat) (j:=q) (by omega) (by rw[FS.out];exact sA)).1;simpa[FS.out] using this
      have Vc:Hid (L.getD q default=L[q]):=aA default sA;obtain⟨b2,o2,rfl,⟨⟨c0,_⟩,⟨c1,_⟩,⟨c2,_⟩,⟨c3,_⟩,⟨c4,_⟩,⟨c5,_⟩,⟨c6,_⟩⟩,c7,_⟩:=E2.out q sA;have d0:=ay oq c0;have d1:=ay oq c1;have d2:=ay oq c2;have d3:=ay oq c3;have d4:=ay oq c4;have d5:=ay oq c5;have d6:=ay oq c6;have d7:=ay oq c7;clear c0 c1 c2 c3 c4 c5 c6 c7;generalize L[q]=y at MH Vc d0 d1 d2 d3 d4 d5 d6 d7;have fJ:=jh m.r.f y.r.f P3 xA MH.1 MH.2;clear MH;cases cK:cL m.r.f y.r.f with
      | true=>
       rw[cK]at fJ;have kS:=aa cK;clear cK
       gi_wp2
       go_roundw
       case rel=>exact⟨fN.alloc fN.size _,q+1,by omega,by go_num,aQ H2.out (by rw[Vc.out];exact kS.out)⟩
       case measure=>simp[intOf];omega
      | false=>
       rw[cK]at fJ;have kS:=aa cK;clear cK
       gi_wp2
       refine⟨((Bod.of_below (fun k hk=>Nat.lt_of_lt_of_le hk MC) fN).trans (Bod.setCell _ ⟨w.heap.size+1,0,none⟩ _ (fun h=>by dsimp only at h;omega))).trans (Bod.of_below (fun k hk=>by simp only[World.size_setCell];omega) (by go_grown)),rfl,(oq.setCell (p:=⟨w.heap.size+1,0,none⟩) (by dsimp only;omega) _).alloc (by simp only[World.size_setCell];omega) _,?_,?_⟩
       ·exact aq _ (by rw[aE PH.out];rfl)
       ·unfold growsB
        rw[dP _ i _ hi (by rw[HB.out,HL.out];exact dP _ q _ sA (by rw[Vc.out,kS.out];rfl))];rfl
     ·gi_wp2
      refine⟨Bod.of_below (fun k hk=>Nat.lt_of_lt_of_le hk MC) fN,oq,ak fN Jy.out,PH.out,aQ dB.out ?_⟩;rw[HB.out,HL.out];exact eG _ _ (fun j hj=>by rw[H2.out j (by omega)];rfl)
   case done=>
    intro D W hD hI hK;obtain⟨g1,g2,g3,g4⟩:=hI;have HG:=aa (And.intro g1 (And.intro g2 (And.intro g3 g4)));have c1:=ae g3 0;have f1:=aD g3 0;simp at c1;clear g1 g2 g3 g4 bP hA hR hX
    go_wp2_with fail
    refine dH (by rw[<-hK];exact Below.heap_setCell _ _ _ _ (by dsimp only;omega)) (ji _ _ _ 0 _ rfl ((World.putObj_heap_other (by omega)).trans (by rw[aE HG.out.2.2.1];rfl))) ?_;refine⟨aC ?_,cT (by omega) (HG.out.1.setCell (by simp) _)⟩;rw[cU.out];unfold growsB;rw[eG _ _ HG.out.2.2.2];rfl
   case stop=>
    rintro D c i W hD hi ⟨rfl,g1,g2,g3⟩ hK;have HG:=aa (And.intro g1 (And.intro g2 g3));clear g1 g2 g3 bP hA hR hX
    go_wp2_with fail
    refine dH hK (ji _ _ _ 21 _ rfl ((World.putObj_heap_other (by omega)).trans HG.out.2.1)) ?_;exact⟨aC (by rw[cU.out,HG.out.2.2];rfl),cT (by omega) HG.out.1⟩
end Go.Proofs.YtkfgpnbpcpdclaaGreat
namespace Go.Proofs.YtkfgpnbpcpdclaaGreat
open Go.RowKit Go Go.Shelf
theorem Gt(P:Program) (t:TypeId) (w:World):(Instr.makeMap t none).run P w=.ok (.map (some w.heap.size)) (w.alloc (.map #[] 0)):=rfl
abbrev Pl.v(x:Pl):Value:=.agg #[.int .i64 x.rd,.int .i64 x.pr,.int .i64 x.h0,.int .i64 x.h1,.int .i64 x.h2,.int .i64 x.h3,.int .i64 x.h4]
theorem Ts(d:Nat) (a b:Pl) (w:World):(Op.equalIn (d+3) 249 a.v b.v).run Tryz.prog w=.ok (decide (a=b)) w:=by
 have hS:Tryz.prog.underlying 249=some (.struct (Tryz.prog.fieldsOf 249)):=by kernel_rfl
 have hp:Tryz.prog.stoodInHeld 249=false:=by kernel_rfl
 rw[run_equalIn_struct w (d+2) 249 _ _ hS hp];have ag:=Tryz.isAgg3;have ah:=Tryz.isAgg48;have zh:=Tryz.sizeOf48;have u3:=Tryz.underlying3;simp only[Program.fieldsOf,Tryz.underlying249];simp[Op.eqFields,part,ag,ah,zh,run_equalIn_int w (d+1) 3 _ .i64 _ _ u3,uE d];obtain⟨n,k,h0,h1,h2,h3,h4⟩:=a;obtain⟨m,l,g0,g1,g2,g3,g4⟩:=b;by_cases hn:n=m
 case neg=>simp[hn]
 by_cases hk:k=l
 case neg=>simp[hn,hk]
 by_cases hh:h0=g0/\h1=g1/\h2=g2/\h3=g3/\h4=g4<;>simp[hn,hk,hh]
theorem kit_pl:KeyKit Tryz.prog 249 Pl.v:=
 ⟨fun a b w=>Ts 9997 a b w,fun em a w=>by kernel_rfl,⟨_,Tryz.underlying249⟩⟩
def kP(l:List St):List (Pl × Value):=l.map fun s=>(s.pl,.int .i64 s.to)
theorem Eh{K:Type} [DecidableEq K] {f:List (K × Value)} {r:K} (h:∀ p∈f,p.1≠r):eE f r=none:=by
 simp only[eE,Option.map_eq_none_iff,List.find?_eq_none];intro p hp;simpa using fun e=>h p hp e.symm
theorem Ln(m:Mac) (x:Pl):eE (kP m.steps) x=(tI m x).map (Value.int .i64):=by
 unfold eE kP tI;rw[List.find?_map];cases h:m.steps.find? ((fun p:Pl × Value=>decide (x=p.1)) ∘ fun s=>(s.pl,Value.int .i64 s.to)) with
 | none=>
  have:(m.steps.find? fun s=>decide (x=s.pl))=none:=h;rw[this];rfl
 | some s=>
  have:(m.steps.find? fun s=>decide (x=s.pl))=some s:=h;rw[this];rfl
def WP(l:List St):Prop:=∀ i j (hi:i<l.length) (hj:j<l.length),i<j->l[i].pl≠l[j].pl
theorem Nj(m:Mac) (pf:Option Addr) (nf cf:Nat) (py:Option Addr) (ny cy:Nat) (vt:Value) (po:Option Addr) (no co:Nat) (w:World) (ht:dh w vt m.steps) (hd:WP m.steps) (hn:m.steps.length<=65536) :
  Calls Tryz.prog 149 #[.agg (bX m (.slice pf nf cf) (.slice py ny cy) vt (.slice po no co))] w fun e w'=>∃ b,e=.returned (.map (some b))/\df Pl.v w' b (kP m.steps)/\w.heap.size<=b/\Below w.heap.size w w':=by
 obtain⟨pt,ct,rfl,lt1,lt2,et⟩:=ht.at;have ET:=aa et;have HD:=aa hd;clear et ht hd;have Cz:=fun w=>Gt Tryz.prog 245 w
 go_enter Tryz.func149,Tryz.ntmps149
 go_wp2_with fail
 clear Cz;refine bw (fun W=>Below w.heap.size w W/\W.heap[w.heap.size]?=some (.cells (bX m (.slice pf nf cf) (.slice py ny cy) (.slice pt m.steps.length ct) (.slice po no co)) 35)/\df Pl.v W (w.heap.size+1) []) ⟨by go_grown,aq _ (ar _ _),⟨#[],0,aX _ _ _,rfl⟩⟩ (fun W0 bd=>?_);obtain⟨aH,_,Pm⟩:=bd
 go_loopw [10] (fun i wr=>∃ k:Nat,k<=m.steps.length/\i=.int .i64 k/\Below w.heap.size w wr/\df Pl.v wr (w.heap.size+1) (kP (m.steps.take k))) (fun i _=>m.steps.length - (intOf i).toNat)
 case atStart=>exact⟨0,by omega,rfl,aH,by simpa[kP] using Pm⟩
 case round=>
  clear aH Pm;obtain⟨k,hk,rfl,aJ,hG⟩:=hrel;by_cases aF:k<m.steps.length
  ·obtain⟨b1,o1,rfl,KH⟩:=ET.out k aF
   obtain⟨c0,c1,c2,c3,c4,c5,c6,c7⟩:=KH;have d0:=ay aJ c0.1;have d1:=ay aJ c1.1;have d2:=ay aJ c2.1;have d3:=ay aJ c3.1;have d4:=ay aJ c4.1;have d5:=ay aJ c5.1;have d6:=ay aJ c6.1;have d7:=ay aJ c7.1;clear c0 c1 c2 c3 c4 c5 c6 c7
   have jw:eE (kP (m.steps.take k)) m.steps[k].pl=none:=by
    refine Eh fun p hp e=>?_
    obtain⟨s,hs,rfl⟩:=List.mem_map.1 hp;obtain⟨q,hq,rfl⟩:=List.mem_take_iff_getElem.1 hs;exact HD.out q k (by omega) aF (by omega) e
   have sI:Hid (kP (m.steps.take (k+1))=kP (m.steps.take k)++[(m.steps[k].pl,.int .i64 m.steps[k].to)]):=by
    (have h:kP (m.steps.take (k+1))=kP (m.steps.take k)++[(m.steps[k].pl,.int .i64 m.steps[k].to)]:=by(unfold kP;rw[List.take_succ_eq_append_getElem aF,List.map_append];rfl));exact h
   generalize m.steps[k]=s at d0 d1 d2 d3 d4 d5 d6 d7 jw sI;have lN:=hG.lt;have hA:Below wr.heap.size wr (wr.alloc (.cells s.c 100)):=by go_grown
   obtain⟨o,fY,CC⟩:=yo kit_pl (mt:=245) (vt:=3) Tryz.underlying245 (hG.up hA) s.pl (.int .i64 s.to) jw;have Jy:=aa CC;have HA:=aa hA;clear hG CC jw;simp only[Pl.v,St.pl]at fY
   go_wp2_with fail
   go_roundw
   case rel=>exact⟨k+1,by omega,by go_num,cT (by omega) (aJ.alloc aJ.size _),by rw[sI.out];exact Jy.out⟩
   case measure=>simp[intOf];omega
  ·obtain rfl:k=m.steps.length:=by omega
   rw[List.take_of_length_le (Nat.le_refl _)]at hG;have HG:=aa hG;clear hG
   go_wp2_with fail
   go_ret
   exact⟨_,rfl,HG.out,by omega,aJ⟩
def hC(f:Nat->Int) (q:Nat):Array Value:=((List.range 5).map fun j=>Value.int .i64 (if j<q then f j else 0)).toArray
theorem yr(f:Nat->Int) (q:Nat):(hC f q).size=5:=by simp[hC]
theorem Bv(f:Nat->Int) (q j:Nat) (hj:j<5):(hC f q)[j]?=some (.int .i64 (if j<q then f j else 0)):=by simp[hC,hj]
theorem wU(f:Nat->Int) (q:Nat) (hq:q<5):(hC f q).setIfInBounds q (.int .i64 (f q))=hC f (q+1):=by
 apply Array.ext_getElem?;intro j;rw[Array.getElem?_setIfInBounds];by_cases hj:j<5
 ·rw[Bv _ _ _ hj,Bv _ _ _ hj]
  by_cases e:q=j
  ·subst e;rw[if_pos rfl,if_pos (by rw[yr];exact hj),if_pos (by omega)]
  ·rw[if_neg e]
   by_cases h:j<q
   ·rw[if_pos h,if_pos (by omega)]
   ·rw[if_neg h,if_neg (by omega)]
 ·have h1:(hC f q)[j]?=none:=by rw[Array.getElem?_eq_none];rw[yr];omega
  have h2:(hC f (q+1))[j]?=none:=by rw[Array.getElem?_eq_none];rw[yr];omega
  rw[h1,h2,if_neg (by omega)]
theorem yu(f:Nat->Int):hC f 0=#[.int .i64 0,.int .i64 0,.int .i64 0,.int .i64 0,.int .i64 0]:=rfl
theorem Kf(f:Nat->Int):hC f 5=#[.int .i64 (f 0),.int .i64 (f 1),.int .i64 (f 2),.int .i64 (f 3),.int .i64 (f 4)]:=rfl
theorem T7{w:World} {B:Nat} {t:TypeId} {f:Nat->Int} {q:Nat} {fz:Nat × Nat} (hq:q<5) (h:w.heap[B]?=some (.cells (hC f q) t fz)) (v:Value):((w.setCell ⟨B,q,none⟩ v).setCell ⟨B,q,none⟩ (.int .i64 (f q))).heap[B]?=some (.cells (hC f (q+1)) t fz):=by
 rw[aE (aE h q v),Array.setIfInBounds_setIfInBounds,wU f q hq]
theorem yQ(tmps:Array Value) (f:Func) (s:Nat) (hf:f.results=#[.cell s 48]) (B:Nat) (W:World) (x0 x1 x2 x3 x4:Int) (ty:TypeId) (h1:tmps[s]?.getD undef=.pointer (some ⟨B,0,none⟩)) (hb:W.heap[B]?=some (.cells #[.int .i64 x0,.int .i64 x1,.int .i64 x2,.int .i64 x3,.int .i64 x4] ty)) :
  (results f tmps).run Tryz.prog W=.ok (.agg #[.int .i64 x0,.int .i64 x1,.int .i64 x2,.int .i64 x3,.int .i64 x4]) W:=by
 have t1:=ae hb;simp[results,hf,go_sem,h1,t1]
theorem Nk(m:Mac) (pf:Option Addr) (nf cf:Nat) (vy:Value) (pt:Option Addr) (nt ct:Nat) (po:Option Addr) (no co:Nat) (k p n:Nat) (vn:Value) (now:List Int) (set:Int) (w:World)
  (hn:m.n=n) (_hn5:n<=5) (hp:p<n) (hk:k<m.syms.length) (h1:(m.syms.getD k []).length=n) (h2:∀ q,q<n->((m.syms.getD k []).getD q []).length=n)
  (hl:now.length=n) (h3:∀ q,q<n->q≠p->0<=now.getD q 0/\(now.getD q 0).toNat<(((m.syms.getD k []).getD q []).getD p []).length) (hy:eZ w vy m.syms) (hv:aU w vn now) :
  Calls Tryz.prog 150 #[.agg (bX m (.slice pf nf cf) vy (.slice pt nt ct) (.slice po no co)),.int .i64 k,.int .i64 p,vn,.int .i64 set] w fun e w'=>
   e=.returned (.agg #[.int .i64 (hearsF m k p now set 0),.int .i64 (hearsF m k p now set 1),.int .i64 (hearsF m k p now set 2),.int .i64 (hearsF m k p now set 3),.int .i64 (hearsF m k p now set 4)])/\Below w.heap.size w w':=by
 obtain⟨py,cy,rfl,ly1,ly2,ey⟩:=hy.at;obtain⟨pn,cn,rfl,ln1,ln2,en⟩:=hv.at;have EY:=aa ey;have EN:=aa en;have H1:=aa h1;have H2:=aa h2;have H3:=aa h3;have HN:=aa hn;have HL:=aa hl;clear hy hv ey en h1 h2 h3 hn hl;have HF:Hid (∀ q,hearsF m k p now set q=if q=p then now.getD p 0 else if (q:Int)<m.n/\cS set q=true then mY m k q p (now.getD q 0) else -1):=by(have h:∀ q,hearsF m k p now set q=if q=p then now.getD p 0 else if (q:Int)<m.n/\cS set q=true then mY m k q p (now.getD q 0) else -1:=fun q=>rfl);exact h
 generalize hearsF m k p now set=f at HF
 go_enter Tryz.func150,Tryz.ntmps150
 go_wp2_with fail
 refine bw (fun W=>Below w.heap.size w W/\W.heap[w.heap.size]?=some (.cells (bX m (.slice pf nf cf) (.slice py m.syms.length cy) (.slice pt nt ct) (.slice po no co)) 35)/\W.heap[w.heap.size+1]?=some (.cells (hC f 0) 48)/\W.heap[w.heap.size+1+1]?=some (.cells (hC f 0) 48))
  ⟨by go_grown,aq _ (aq _ (ar _ _)),aq _ (aX _ _ _),cV _ _ _ _⟩ (fun W0 bd=>?_)
 obtain⟨aH,iw,iq,wE⟩:=bd
 go_loopw [13] (fun i wr=>∃ q:Nat,q<=5/\i=.int .i64 q/\Below w.heap.size w wr/\wr.heap[w.heap.size]?=some (.cells (bX m (.slice pf nf cf) (.slice py m.syms.length cy) (.slice pt nt ct) (.slice po no co)) 35)/\wr.heap[w.heap.size+1]?=some (.cells (hC f 0) 48)/\wr.heap[w.heap.size+1+1]?=some (.cells (hC f q) 48)) (fun i _=>5 - (intOf i).toNat)
 case atStart=>exact⟨0,by omega,rfl,aH,iw,iq,wE⟩
 case round=>
  clear aH iw iq wE;obtain⟨q,hq,rfl,aJ,hM,hR,hO⟩:=hrel;by_cases qk:q<5
  ·have cq:=ae hO q
   rw[Bv f q q qk,if_neg (by omega)]at cq;have fq:=aD hO q;have iu:=aB hO;have HM:=aa hM;have HR:=aa hR;have HO:=aa hO;have fu:=aa aJ;clear hM hR hO;have zH:=ae HM.out;by_cases PE:q=p
   ·subst PE
    obtain⟨b2,o2,rfl,⟨c2,_⟩⟩:=EN.out q (by have:=HL.out;omega);rw[Nat.mul_one]at c2;have d2:=ay aJ c2;have aS:=gc d2;have fy:=gc c2;dsimp only at aS fy;have bA:¬ b2=w.heap.size+1+1:=by omega
    have HV:Hid (f q=now[q]'(by have:=HL.out;omega)):=by(have h:f q=now[q]'(by have:=HL.out;omega):=by(rw[HF.out q,if_pos rfl,aA 0 (by have:=HL.out;omega)]));exact h
    have hltn:q<now.length:=by have:=HL.out;omega
    generalize hx:now[q]=x at d2 HV;have HFX:=aa hx;clear hx c2 zH
    go_wp2_with fail
    go_roundw
    case rel=>
     refine⟨q+1,by omega,by go_num,(fu.out.setCell (p:=⟨w.heap.size+1+1,q,none⟩) (by dsimp only;omega) _).setCell (p:=⟨w.heap.size+1+1,q,none⟩) (by dsimp only;omega) _,?_,?_,?_⟩
     ·exact aI (aI HM.out (by omega) _ _) (by omega) _ _
     ·exact aI (aI HR.out (by omega) _ _) (by omega) _ _
     ·rw[<-HV.out];exact T7 qk HO.out _
    case measure=>simp[intOf];omega
   ·have hqp':¬ (q:Int)=(p:Int):=by omega
    have hqpb:((q:Int) == (p:Int))=false:=by simpa using hqp'
    have hdq:decide ((q:Int)<5)=true:=by simp;omega
    by_cases xR:q<n
    ·have oP:(q:Int)<m.n:=by have:=HN.out;omega
     have fJ:=nL set q;cases hb:cS set q with
     | false=>
      have HV:Hid (f q=-1):=by(have h:f q=-1:=by(rw[HF.out q,if_neg PE,if_neg (by rw[hb];simp)]));exact h
      rw[hb]at fJ;clear hb
      go_wp2_with fail
      go_roundw
      case rel=>
       refine⟨q+1,by omega,by go_num,fu.out.setCell (p:=⟨w.heap.size+1+1,q,none⟩) (by dsimp only;omega) _,aI HM.out (by omega) _ _,aI HR.out (by omega) _ _,?_⟩;rw[aE HO.out,<-HV.out,wU f q qk]
      case measure=>simp[intOf];omega
     | true=>
      rw[hb]at fJ;have oC:=H1.out;have kb:=H2.out q xR;have lI:=H3.out q xR PE;have Mh:=kb;rw[aA [] hk]at oC kb lI;have Ss:q<m.syms[k].length:=by omega
      rw[aA [] Ss]at kb lI;have vV:p<m.syms[k][q].length:=by omega
      rw[aA [] vV]at lI;have Wy:q<now.length:=by have:=HL.out;omega
      have HNG:=aa (aA 0 Wy);rw[aA 0 Wy]at lI;obtain⟨b1,o1,rfl,x1,c1,dV⟩:=EY.out k hk;obtain⟨p1,q1,rfl,l11,l12,e1⟩:=dV.at;obtain⟨b2,o2,rfl,x2,c2,fF⟩:=e1 q Ss;obtain⟨p2,q2,rfl,l21,l22,e2⟩:=fF.at;obtain⟨b3,o3,rfl,x3,c3,Fq⟩:=e2 p vV;obtain⟨p3,q3,rfl,l31,l32,e3⟩:=Fq.at;obtain⟨b4,o4,rfl,c4,r4⟩:=e3 _ lI.2;obtain⟨b5,o5,rfl,c5,r5⟩:=EN.out q Wy;rw[Nat.mul_one]at c1 c2 c3 c4 c5
      have HV:Hid (f q=m.syms[k][q][p][(now[q]).toNat]'lI.2):=by
       (have h:f q=m.syms[k][q][p][(now[q]).toNat]'lI.2:=by(rw[HF.out q,if_neg PE,if_pos ⟨oP,hb⟩];unfold mY;rw[aA [] hk,aA [] Ss,aA [] vV,HNG.out,aA 0 lI.2]));exact h
      clear hb e1 e2 e3 dV fF Fq Mh r4 r5;generalize m.syms[k][q][p][(now[q]).toNat]=sy at c4 HV;obtain⟨s,hs⟩:∃ s:Nat,now[q]=s:=⟨now[q].toNat,by omega⟩;rw[hs]at c4 c5 lI;rw[Int.toNat_natCast]at c4 lI;generalize m.syms[k][q][p].length=l3 at c3 l31 l32 lI;generalize m.syms[k][q].length=l2 at c2 l21 l22 vV kb;generalize m.syms[k].length=l1 at c1 l11 l12 Ss oC;have Rn:=lI.2;clear oC kb lI hs HNG
      go_wp2_with fail
      clear cq fq zH fJ;obtain⟨W1,fR⟩:∃ W1,W1=wr.setCell ⟨w.heap.size+1+1,q,none⟩ (.int .i64 (-1)):=⟨_,rfl⟩;rw[<-fR];have fB:Hid (Below w.heap.size w W1):=by(have h:Below w.heap.size w W1:=by(rw[fR];exact fu.out.setCell (p:=⟨w.heap.size+1+1,q,none⟩) (by dsimp only;omega) _));exact h
      have HMW:Hid (W1.heap[w.heap.size]?=some (.cells (bX m (.slice pf nf cf) (.slice (some ⟨b1,o1,none⟩) m.syms.length cy) (.slice pt nt ct) (.slice po no co)) 35)):=by(have h:W1.heap[w.heap.size]?=some (.cells (bX m (.slice pf nf cf) (.slice (some ⟨b1,o1,none⟩) m.syms.length cy) (.slice pt nt ct) (.slice po no co)) 35):=by(rw[fR];exact aI HM.out (by omega) _ _));exact h
      have C0:Hid (W1.heap[w.heap.size+1]?=some (.cells (hC f 0) 48)):=by(have h:W1.heap[w.heap.size+1]?=some (.cells (hC f 0) 48):=by(rw[fR];exact aI HR.out (by omega) _ _));exact h
      have Vt:Hid (W1.heap[w.heap.size+1+1]?=some (.cells ((hC f q).setIfInBounds q (.int .i64 (-1))) 48)):=by(have h:W1.heap[w.heap.size+1+1]?=some (.cells ((hC f q).setIfInBounds q (.int .i64 (-1))) 48):=by(rw[fR];exact aE HO.out _ _));exact h
      clear fR HM HR HO fu aJ
      refine Dt 19 [40,41,42,43,44,45,46,47,48,49,50,51,52,53,54,55,56,57,58] [MP.eq (.int .i64 (q:Int)),
       MP.eq (.pointer (some ⟨w.heap.size,5,none⟩)),
       MP.eq (.slice (some ⟨b1,o1,none⟩) m.syms.length cy),
       MP.eq (.int .i64 (k:Int)),
       MP.eq (.pointer (some ⟨b1,o1+k,none⟩)),
       MP.eq (.slice (some ⟨b2,o2,none⟩) l1 q1),
       MP.eq (.int .i64 (q:Int)),
       MP.eq (.pointer (some ⟨b2,o2+q,none⟩)),
       MP.eq (.slice (some ⟨b3,o3,none⟩) l2 q2),
       MP.eq (.int .i64 (p:Int)),
       MP.eq (.pointer (some ⟨b3,o3+p,none⟩)),
       MP.eq (.slice (some ⟨b4,o4,none⟩) l3 q3),
       MP.eq (.slice (some ⟨b5,o5,none⟩) now.length cn),
       MP.eq (.int .i64 (q:Int)),
       MP.eq (.pointer (some ⟨b5,o5+q,none⟩)),
       MP.eq (.int .i64 (s:Int)),
       MP.eq (.pointer (some ⟨b4,o4+s,none⟩)),
       MP.eq (.int .i64 sy),
       MP.eq (.pointer (some ⟨w.heap.size+1+1,q,none⟩))] (by kernel_rfl) rfl (by decide) rfl (by kernel_rfl) ?step ?tail
      case step=>
       intro x W i o s F hi ho hs hB al hF;have bY:i=0\/i=1\/i=2\/i=3\/i=4\/i=5\/i=6\/i=7\/i=8\/i=9\/i=10\/i=11\/i=12\/i=13\/i=14\/i=15\/i=16\/i=17\/i=18:=by omega
       rcases bY with rfl|rfl|rfl|rfl|rfl|rfl|rfl|rfl|rfl|rfl|rfl|rfl|rfl|rfl|rfl|rfl|rfl|rfl|rfl
       all_goals (obtain rfl:=cO ho.symm;obtain rfl:=cO hs.symm;simp only[bg,bQ,List.setIfInBounds_toArray,List.set_cons_succ,List.set_cons_zero,Nat.reduceAdd]at hF)
       ·clear al hi ho hs
        subst hF
        go_wp2_with fail
        exact bG _ (Below.refl _ _) rfl
       ·clear al hi ho hs
        subst hF
        go_wp2_with fail
        exact bG _ (Below.refl _ _) rfl
       ·have d1:=bz (al ⟨1,.data⟩ (by simp) rfl)
        clear al hi ho hs;have t9:=ae (ak hB HMW.out);simp only[d1]at hF;subst hF
        go_wp2_with fail
        exact bG _ (Below.refl _ _) rfl
       ·clear al hi ho hs
        subst hF
        go_wp2_with fail
        exact bG _ (Below.refl _ _) rfl
       ·have d2:=bz (al ⟨2,.data⟩ (by simp) rfl)
        have d3:=bz (al ⟨3,.data⟩ (by simp) rfl);clear al hi ho hs;simp only[d2,d3]at hF;subst hF
        go_wp2_with fail
        exact bG _ (Below.refl _ _) rfl
       ·have d4:=bz (al ⟨4,.data⟩ (by simp) rfl)
        clear al hi ho hs;have d9:=ay (aj fB.out hB) c1;simp only[d4]at hF;subst hF
        go_wp2_with fail
        exact bG _ (Below.refl _ _) rfl
       ·clear al hi ho hs
        subst hF
        go_wp2_with fail
        exact bG _ (Below.refl _ _) rfl
       ·have d5:=bz (al ⟨5,.data⟩ (by simp) rfl)
        have d6:=bz (al ⟨6,.data⟩ (by simp) rfl);clear al hi ho hs;simp only[d5,d6]at hF;subst hF
        go_wp2_with fail
        exact bG _ (Below.refl _ _) rfl
       ·have d7:=bz (al ⟨7,.data⟩ (by simp) rfl)
        clear al hi ho hs;have d9:=ay (aj fB.out hB) c2;simp only[d7]at hF;subst hF
        go_wp2_with fail
        exact bG _ (Below.refl _ _) rfl
       ·clear al hi ho hs
        subst hF
        go_wp2_with fail
        exact bG _ (Below.refl _ _) rfl
       ·have d8:=bz (al ⟨8,.data⟩ (by simp) rfl)
        have d9:=bz (al ⟨9,.data⟩ (by simp) rfl);clear al hi ho hs;simp only[d8,d9]at hF;subst hF
        go_wp2_with fail
        exact bG _ (Below.refl _ _) rfl
       ·have d10:=bz (al ⟨10,.data⟩ (by simp) rfl)
        clear al hi ho hs;have d9:=ay (aj fB.out hB) c3;simp only[d10]at hF;subst hF
        go_wp2_with fail
        exact bG _ (Below.refl _ _) rfl
       ·clear al hi ho hs
        subst hF
        go_wp2_with fail
        exact bG _ (Below.refl _ _) rfl
       ·clear al hi ho hs
        subst hF
        go_wp2_with fail
        exact bG _ (Below.refl _ _) rfl
       ·have d12:=bz (al ⟨12,.data⟩ (by simp) rfl)
        have d13:=bz (al ⟨13,.data⟩ (by simp) rfl);clear al hi ho hs;simp only[d12,d13]at hF;subst hF
        go_wp2_with fail
        exact bG _ (Below.refl _ _) rfl
       ·have d14:=bz (al ⟨14,.data⟩ (by simp) rfl)
        clear al hi ho hs;have d9:=ay (aj fB.out hB) c5;simp only[d14]at hF;subst hF
        go_wp2_with fail
        exact bG _ (Below.refl _ _) rfl
       ·have d11:=bz (al ⟨11,.data⟩ (by simp) rfl)
        have d15:=bz (al ⟨15,.data⟩ (by simp) rfl);clear al hi ho hs;simp only[d11,d15]at hF;subst hF
        go_wp2_with fail
        exact bG _ (Below.refl _ _) rfl
       ·have d16:=bz (al ⟨16,.data⟩ (by simp) rfl)
        clear al hi ho hs;have d9:=ay (aj fB.out hB) c4;simp only[d16]at hF;subst hF
        go_wp2_with fail
        exact bG _ (Below.refl _ _) rfl
       ·have d0:=bz (al ⟨0,.data⟩ (by simp) rfl)
        clear al hi ho hs;simp only[d0]at hF;subst hF
        go_wp2_with fail
        exact bG _ (Below.refl _ _) rfl
      case tail=>
       intro x W o F ho hB aM hF;obtain rfl:=cO ho.symm;have e17:x 17=.int .i64 sy:=aM 17 (by omega);have e18:x 18=.pointer (some ⟨w.heap.size+1+1,q,none⟩):=aM 18 (by omega);clear aM ho;simp only[bg,bQ,List.setIfInBounds_toArray,List.set_cons_succ,List.set_cons_zero,Nat.reduceAdd]at hF;simp only[e17,e18]at hF;subst hF;have Je:=ak hB Vt.out;have cq:=ae Je q;have fq:=aD Je q;rw[Array.getElem?_setIfInBounds_self_of_lt (by rw[yr];exact qk)]at cq;have iI:=aa Je;have jO:=aa (ak hB HMW.out);have qg:=aa (ak hB C0.out);have jy:=aa (aj fB.out hB);clear Je
       go_wp2_with fail
       go_roundw
       case rel=>
        refine⟨q+1,by omega,by go_num,jy.out.setCell (p:=⟨w.heap.size+1+1,q,none⟩) (by dsimp only;omega) _,aI jO.out (by omega) _ _,aI qg.out (by omega) _ _,?_⟩;rw[aE iI.out,Array.setIfInBounds_setIfInBounds,<-HV.out,wU f q qk]
       case measure=>simp[intOf];omega
    ·have oP:¬ (q:Int)<m.n:=by have:=HN.out;omega
     have HV:Hid (f q=-1):=by(have h:f q=-1:=by(rw[HF.out q,if_neg PE,if_neg (fun h=>oP h.1)]));exact h
     go_wp2_with fail
     go_roundw
     case rel=>
      refine⟨q+1,by omega,by go_num,fu.out.setCell (p:=⟨w.heap.size+1+1,q,none⟩) (by dsimp only;omega) _,aI HM.out (by omega) _ _,aI HR.out (by omega) _ _,?_⟩;rw[aE HO.out,<-HV.out,wU f q qk]
     case measure=>simp[intOf];omega
  ·obtain rfl:q=5:=by omega
   rw[Kf]at hO;rw[yu]at hR;have t1:=ae hO;have t2:=ae hR;have f2:=aD hR;have HO:=aa hO;have HR:=aa hR;have fu:=aa aJ;clear hO hR hM
   go_wp2_with fail
   refine bodyPost_ret (v:=.agg #[.int .i64 (f 0),.int .i64 (f 1),.int .i64 (f 2),.int .i64 (f 3),.int .i64 (f 4)]) (yQ _ _ 10 Tryz.results150 (w.heap.size+1) _ _ _ _ _ _ 48 rfl (by rw[aE (aE (aE (aE (aE HR.out 0 _) 1 _) 2 _) 3 _) 4 _];rfl)) rfl ?_;exact⟨rfl,((((fu.out.setCell (p:=⟨w.heap.size+1,0,none⟩) (by dsimp only;omega) _).setCell (p:=⟨w.heap.size+1,1,none⟩) (by dsimp only;omega) _).setCell (p:=⟨w.heap.size+1,2,none⟩) (by dsimp only;omega) _).setCell (p:=⟨w.heap.size+1,3,none⟩) (by dsimp only;omega) _).setCell (p:=⟨w.heap.size+1,4,none⟩) (by dsimp only;omega) _⟩
end Go.Proofs.YtkfgpnbpcpdclaaGreat
namespace Go.Proofs.YtkfgpnbpcpdclaaGreat
theorem WQ(a b c:Int):M6 [a,b,c]=if a≠0 then a else if b≠0 then b else c:=by
 unfold M6;simp only[List.length_cons,List.length_nil,aP,List.getD_cons_zero,List.getD_cons_succ];by_cases ha:a=0<;>by_cases hb:b=0<;>simp[ha,hb]
theorem Ei(a b:St):orderI a b=ordV (a.rd :: a.pr :: a.heard) (b.rd :: b.pr :: b.heard):=by
 unfold orderI;rw[WQ,wK,wK]
theorem Dw{x lo hi:Int}:inB x lo hi=true↔lo<=x/\x<=hi:=by unfold inB;simp
theorem yx{α:Type} {l:List α} {i:Nat} (d:α) (h:i<l.length):l.getD i d=l[i]:=by simp[h]
structure Good (m:Mac) (n r:Nat):Prop where
 hn:m.n=n
 n1:1<=n
 n5:n<=5
 hr:m.rounds=r
 r6:r<=6
 ins:1<=m.ins/\m.ins<=8
 outs:1<=m.outs/\m.outs<=8
 fl:m.first.length=n
 fp:∀ p,p<n->((m.first.getD p []).length:Int)=m.ins
 ol:m.out.length=r+1
 ok:∀ k,k<r+1->(m.out.getD k []).length=n
 yl:m.syms.length=r
 yk:∀ k,k<r->(m.syms.getD k []).length=n
 yp:∀ k p,k<r->p<n->((m.syms.getD k []).getD p []).length=n
 yq:∀ k p q,k<r->p<n->q<n->(((m.syms.getD k []).getD p []).getD q []).length=if p=q then 0 else((m.out.getD k []).getD p []).length
 fr:∀ p v,p<n->v<(m.first.getD p []).length->-1<=(m.first.getD p []).getD v 0/\(m.first.getD p []).getD v 0<(((m.out.getD 0 []).getD p []).length:Int)
 outr:∀ k p s,k<r+1->p<n->s<((m.out.getD k []).getD p []).length->-1<=((m.out.getD k []).getD p []).getD s 0/\((m.out.getD k []).getD p []).getD s 0<m.outs
 symr:∀ k p q s,k<r->p<n->q<n->s<(((m.syms.getD k []).getD p []).getD q []).length->0<=(((m.syms.getD k []).getD p []).getD q []).getD s 0/\(((m.syms.getD k []).getD p []).getD q []).getD s 0<=1048576
 st:∀ i,i<m.steps.length->0<=(m.steps.getD i default).rd/\(m.steps.getD i default).rd<r/\0<=(m.steps.getD i default).pr/\(m.steps.getD i default).pr<n/\0<=(m.steps.getD i default).to/\(m.steps.getD i default).to<rk m ((m.steps.getD i default).rd+1) (m.steps.getD i default).pr
 len:m.steps.length<=65536
 diff:∀ i j (hi:i<m.steps.length) (hj:j<m.steps.length),i<j->m.steps[i].pl≠m.steps[j].pl
theorem Qi{l:List St} (h:∀ i,0<i->i<l.length->orderI (l.getD (i - 1) default) (l.getD i default)<0):∀ d i (_hj:i+d+1<l.length),orderI (l.getD i default) (l.getD (i+d+1) default)<0:=by
 intro d;induction d with
 | zero=>intro i hj;have:=h (i+0+1) (by omega) hj;simpa using this
 | succ d ih=>
  intro i hj;have h1:=ih i (by omega);have h2:=h (i+(d+1)+1) (by omega) hj;rw[show i+(d+1)+1 - 1=i+d+1 by omega]at h2;rw[Ei]at h1 h2 ⊢;exact kE h1 h2
theorem uO{l:List Int} {lo hi:Int} (h:allB l lo hi=true) (i:Nat) (qG:i<l.length):lo<=l.getD i 0/\l.getD i 0<=hi:=by
 unfold allB at h
 have h1:anyLt l.length (fun i=>!inB (l.getD i 0) lo hi)=false:=by
  cases hh:anyLt l.length (fun i=>!inB (l.getD i 0) lo hi) with
  | false=>rfl
  | true=>rw[hh]at h;cases h
 have:=(cB _ _).1 h1 i qG;exact Dw.1 (by simpa using this)
theorem Ej{n:Nat} {p:Nat->Bool} (h:(!anyLt n p)=true):∀ k,k<n->p k=false:=by
 refine(cB _ _).1 ?_;cases hh:anyLt n p with
 | false=>rfl
 | true=>rw[hh]at h;cases h
theorem sR{m:Mac} (h:checkE m=0):∃ n r,Good m n r:=by
 unfold checkE at h;split at h
 ·cases h
 rename_i h1;split at h
 ·cases h
 rename_i h2;split at h
 ·cases h
 rename_i h3;split at h
 ·cases h
 rename_i h4;have hh:=gX h;have e1:A5 m=false:=eq_false_of_ne_true h1;unfold A5 at e1;simp only[Bool.or_eq_false_iff,Bool.not_eq_false']at e1;obtain⟨⟨⟨a1,a2⟩,a3⟩,a4⟩:=e1;rw[Dw]at a1 a2 a3 a4;obtain⟨n,hn⟩:∃ n:Nat,m.n=n:=⟨m.n.toNat,by omega⟩;obtain⟨r,hr⟩:∃ r:Nat,m.rounds=r:=⟨m.rounds.toNat,by omega⟩;have e2:dX m=true:=by simpa using h2
 unfold dX at e2;split at e2
 ·cases e2
 rename_i b1;split at e2
 ·cases e2
 rename_i b2;split at e2
 ·cases e2
 rename_i b3;have b2':=(cB _ _).1 (eq_false_of_ne_true b2);have b3':=(cB _ _).1 (eq_false_of_ne_true b3);have b4':=Ej e2;have fl:m.first.length=n:=by omega
 have ol:m.out.length=r+1:=by omega
 have yl:m.syms.length=r:=by omega
 have ok:∀ k,k<r+1->(m.out.getD k []).length=n:=fun k hk=>by
  have:=b3' k (by omega);simp only[ne_eq,decide_eq_false_iff_not,Decidable.not_not]at this;omega
 have yk:∀ k,k<r->(m.syms.getD k []).length=n:=fun k hk=>by
  have:=b4' k (by omega);unfold kM at this;simp only[Bool.or_eq_false_iff,ne_eq,decide_eq_false_iff_not,Decidable.not_not]at this;omega
 have ys:∀ k,k<r->∀ p,p<n->pp m.n (m.out.getD k []) (m.syms.getD k []) p=false:=fun k hk p hp=>by
  have:=b4' k (by omega);unfold kM at this;simp only[Bool.or_eq_false_iff]at this;exact(cB _ _).1 this.2 p (by rw[yk k hk];exact hp)
 have yp:∀ k p,k<r->p<n->((m.syms.getD k []).getD p []).length=n:=fun k p hk hp=>by
  have:=ys k hk p hp;unfold pp at this;simp only[Bool.or_eq_false_iff,ne_eq,decide_eq_false_iff_not,Decidable.not_not]at this;omega
 have e4:gR m=true:=by simpa using h4
 unfold gR at e4;split at e4
 ·cases e4
 rename_i c1;split at e4
 ·cases e4
 rename_i c2;have c1':=(cB _ _).1 (eq_false_of_ne_true c1);have c2':=(cB _ _).1 (eq_false_of_ne_true c2);have c3':=Ej e4
 have eN:∀ i,i<m.steps.length->stepE m (m.steps.getD i default)=0/\¬ (0<i/\0<=orderI (m.steps.getD (i - 1) default) (m.steps.getD i default)):=fun i hi=>by
  have:=hh i hi;unfold fU at this;split at this
  ·rename_i q;exact absurd this q
  ·rename_i q
   split at this
   ·cases this
   ·rename_i q2;exact⟨by simpa using q,q2⟩
 refine⟨n,r,⟨hn,by omega,by omega,hr,by omega,a3,a4,fl,fun p hp=>?_,ol,ok,yl,yk,yp,fun k p q hk hp hq=>?_,fun p v hp hv=>?_,fun k p s hk hp hs=>?_,fun k p q s hk hp hq hs=>?_,fun i hi=>?_,by omega,fun i j hi hj SZ=>?_⟩⟩
 ·have:=b2' p (by omega)
  simpa only[ne_eq,decide_eq_false_iff_not,Decidable.not_not] using this
 ·have:=ys k hk p hp
  unfold pp at this;simp only[Bool.or_eq_false_iff]at this;have:=(cB _ _).1 this.2 q (by rw[yp k p hk hp];exact hq);simpa only[ne_eq,decide_eq_false_iff_not,Decidable.not_not] using this
 ·have:=c1' p (by omega)
  have:=uO (by simpa only[Bool.not_eq_false'] using this) v hv;omega
 ·have:=c2' k (by omega)
  have:=(cB _ _).1 this p (by rw[ok k hk];exact hp);have:=uO (by simpa only[Bool.not_eq_false'] using this) s hs;omega
 ·have:=c3' k (by omega)
  have:=(cB _ _).1 this p (by rw[yk k hk];exact hp);have:=(cB _ _).1 this q (by rw[yp k p hk hp];exact hq);have:=uO (by simpa only[Bool.not_eq_false'] using this) s hs;omega
 ·have:=(eN i hi).1
  unfold stepE at this;split at this
  ·cases this
  ·rename_i q
   have q1:gF m (m.steps.getD i default)=false:=eq_false_of_ne_true q;unfold gF at q1;simp only[Bool.or_eq_false_iff,Bool.not_eq_false']at q1;obtain⟨⟨q2,q3⟩,q4⟩:=q1;rw[Dw]at q2 q3 q4;omega
 ·have h5:=Qi (l:=m.steps) (fun i h1 h2=>by have:=(eN i h2).2;omega) (j - i - 1) i (by omega)
  rw[show i+(j - i - 1)+1=j by omega,yx default hi,yx default hj,Ei]at h5;intro e
  have e':m.steps[i].rd :: m.steps[i].pr :: m.steps[i].heard=m.steps[j].rd :: m.steps[j].pr :: m.steps[j].heard:=by
   unfold St.pl at e;injection e with e1 e2 e3 e4 e5 e6 e7
   unfold St.heard;rw[e1,e2,e3,e4,e5,e6,e7]
  rw[e',pO]at h5;omega
def At(m:Mac) (n k:Nat) (now:List Int):Prop:=now.length=n/\∀ p,p<n->0<=now.getD p 0/\now.getD p 0<(((m.out.getD k []).getD p []).length:Int)
theorem JG{m:Mac} {n r:Nat} (g:Good m n r) {x:Pl} {t:Int} {k p:Nat} (hk:x.rd=k) (hp:x.pr=p) (h:tI m x=some t):0<=t/\t<(((m.out.getD (k+1) []).getD p []).length:Int):=by
 unfold tI at h;rw[Option.map_eq_some_iff]at h;obtain⟨s,hs,rfl⟩:=h;have h1:=List.find?_some hs;have h2:=List.mem_of_find?_eq_some hs;obtain⟨i,hi,rfl⟩:=List.getElem_of_mem h2;have h3:=g.st i hi;rw[yx default hi]at h3;simp only[decide_eq_true_eq]at h1;rw[h1]at hk hp;have e1:m.steps[i].rd=k:=hk;have e2:m.steps[i].pr=p:=hp;rw[e1,e2]at h3;unfold rk at h3;rw[show ((k:Int)+1).toNat=k+1 by omega,Int.toNat_natCast]at h3;exact⟨h3.2.2.2.2.1,h3.2.2.2.2.2⟩
theorem Bz{m:Mac} {n r k:Nat} (g:Good m n r) {now x:List Int} {rd:Rd} (h:pq m k now rd=some x):At m n (k+1) x:=by
 unfold pq at h;split at h
 ·cases h
 rename_i h1;cases h;have oI:=(cB _ _).1 (eq_false_of_ne_true h1);have e:m.n.toNat=n:=by rw[g.hn];simp
 rw[e]at oI;refine⟨by simp[e],fun p hp=>?_⟩;have h2:=oI p hp
 obtain⟨t,ht⟩:∃ t,kF m k now rd p=some t:=by
  cases hh:kF m k now rd p with
  | none=>rw[hh]at h2;cases h2
  | some t=>exact⟨t,rfl⟩
 have e2:((List.range m.n.toNat).map fun p=>(kF m k now rd p).getD 0).getD p 0=t:=by
  simp[e,hp,ht]
 rw[e2];unfold kF at ht;exact JG g (by rfl) (by rfl) ht
theorem yR{m:Mac} {n r:Nat} (g:Good m n r) {inputs:List Int} (_hl:inputs.length=n) (hi:∀ p,p<n->0<=inputs.getD p 0/\inputs.getD p 0<m.ins) (h:(cM m inputs).contains (-1)=false):At m n 0 (cM m inputs):=by
 have e:m.n.toNat=n:=by rw[g.hn];simp
 refine⟨by simp[cM,e],fun p hp=>?_⟩
 have e2:(cM m inputs).getD p 0=(m.first.getD p []).getD (inputs.getD p 0).toNat 0:=by
  simp[cM,e,hp]
 have h1:=hi p hp;have h2:=g.fp p hp;have h3:=g.fr p (inputs.getD p 0).toNat hp (by omega)
 have h4:(cM m inputs).getD p 0≠-1:=by
  intro hh;have aF:p<(cM m inputs).length:=by simp[cM,e,hp]
  rw[yx 0 aF]at hh
  have:(cM m inputs).contains (-1)=true:=by
   rw[List.contains_iff_mem,<-hh];exact List.getElem_mem aF
  rw[h]at this;cases this
 rw[e2]at h4 ⊢;omega
end Go.Proofs.YtkfgpnbpcpdclaaGreat
namespace Go.Proofs.YtkfgpnbpcpdclaaGreat
open Go.RowKit Go Go.Shelf
def WU(n:Nat) (S:Nat->Prop) (W W':World):Prop:=W.heap.size<=W'.heap.size/\∀ k,S k\/n<=k->k<W.heap.size->W'.heap[k]?=W.heap[k]?
def GQ(P:Program) (g:Nat) (lb:Array Value) (E:Nat->Array Value->Prop) (N:Nat) (S:Nat->Prop) (w:World):Prop:=
 ∀ (l:Nat) (J Jx:Nat->World->Prop) (W:World),Below w.heap.size w W->l<W.heap.size →
  (∀ i A A',J i A->Below W.heap.size A A'->J i A')->(∀ i A A',Jx i A->Below W.heap.size A A'->Jx i A') →
  (∀ i W1 args,i<N->E i args->W.heap.size<=W1.heap.size->J i W1->YieldAt Fence.wide 0 P l args W1 fun e W'=>
   WU W.heap.size S W1 W'/\((e=.returned (.bool true)/\J (i+1) W')\/(e=.returned (.bool false)/\Jx (i+1) W'))) →
  J 0 W →
  Calls P g (#[.func (.yield l) #[] #[]]++lb) W fun e W'=>(∃ v,e=.returned v)/\(J N W'\/∃ i,i<=N/\Jx i W')
theorem Chg.belowN{B n:Nat} {A A':World} (h:Chg B A A') (hn:n<=B) (hs:n<=A.heap.size):Below n A A':=h.below hn hs (Below.refl _ _)
theorem yS{P:Program} {g:Operand} {ps:Array Tmp} {assign body:Code} {Q:Exit->Act->World->Prop} {a:Act} {w:World}
  {gf:Nat} {lb:Array Value} (hg:a.eval g=.func (.func gf) #[] lb) (eg:∀ args w,(callFunc gf args).run P w=.ok (.enter gf args) w)
  {E:Nat->Array Value->Prop} {N:Nat} {S:Nat->Prop} {w0:World} (bP:GQ P gf lb E N S w0) (aH:Below w0.heap.size w0 w) (hS:∀ k,S k->k<w.heap.size) (vV:∀ i args,E i args->args.size=ps.size)
  (I:Nat->World->Prop) (Ix:Code->Nat->World->Prop) (hI:∀ i A A',I i A->Below w.heap.size A A'->I i A') (zU:∀ c i A A',Ix c i A->Below w.heap.size A A'->Ix c i A') (h0:I 0 w)
  (rD:∀ l i W args,i<N->w.heap.size<l->l<W.heap.size->E i args->I i W →
   assign.wpIn (Fence.wide.inRound l) 0 P (Exit.then (fun a1 W1=>Bod w.heap.size (fun k=>(S k\/w.heap.size+2<=k)/\k<W.heap.size) W W1/\∃ Ax:World->Prop,bR w.heap.size Ax/\Ax W1/\∀ W2,Ax W2->(∃ r,W2.heap[l]?=some (.loop r))->body.wpIn (Fence.wide.inRound l) 0 P (Gs w.heap.size (fun k=>(S k\/w.heap.size+2<=k)/\k<W.heap.size) I Ix (i+1) W2) a1 W2) (fun _ _ _=>False))
    { tmps:=(ps.zip args).foldl (fun t (p,v)=>t.setIfInBounds p v) a.tmps,defers:=[] } W)
  (CN:∀ D W,w.heap.size<=D->I N W->W.heap[D]?=some (.deferred (some []))->Q .normal { a with defers:=jY D :: a.defers } W)
  (Cx:∀ D c i W,w.heap.size<=D->i<=N->Ix c i W->W.heap[D]?=some (.deferred (some []))->c.wp P Q { a with defers:=jY D :: a.defers } W) :
  (Code.rangeFunc g ps assign body).wp P Q a w:=by
 refine(wpIn_wide (n:=0)).1 (wpIn_rangeFunc ?_);intro fn _;obtain⟨rec,oG⟩:∃ rec:Loop,rec={ state:=.ready,pending:=none,fn,tmps:=a.tmps,params:=ps,assign,body,defers:=w.heap.size }:=⟨_,rfl⟩;obtain⟨W1,fR⟩:∃ W1,(w.alloc (.deferred (some []))).alloc (.loop rec)=W1:=⟨_,rfl⟩
 have PB:W1.heap[w.heap.size+1]?=some (.loop rec):=by
  rw[<-fR];have:=ar (w.alloc (.deferred (some []))) (.loop rec);rwa [World.size_alloc]at this
 have FJ:W1.heap[w.heap.size]?=some (.deferred (some [])):=by rw[<-fR];exact aq _ (ar w _)
 have du:W1.heap.size=w.heap.size+2:=by rw[<-fR];simp
 have xK:Below w.heap.size w W1:=by rw[<-fR];exact((Below.refl _ w).alloc (Nat.le_refl _) _).alloc (by simp) _
 have PJ:¬ S (w.heap.size+1):=fun h=>by have:=hS _ h;omega
 have hlow:∀ {A A':World},Below W1.heap.size A A'->Below w.heap.size A A':=fun h=>h.mono (by omega)
 have hI1:∀ {i:Nat} {A A':World},Chg w.heap.size A A'->w.heap.size<=A.heap.size->I i A->I i A':=fun hc hs h=>hI _ _ _ h (hc.belowN (Nat.le_refl _) hs)
 have hIx1:∀ {c:Code} {i:Nat} {A A':World},Chg w.heap.size A A'->w.heap.size<=A.heap.size->Ix c i A->Ix c i A':=fun hc hs h=>zU _ _ _ _ h (hc.belowN (Nat.le_refl _) hs)
 refine⟨w.heap.size+1,[jY w.heap.size],W1,{ target:=.fn (.func gf) lb,args:=#[.func (.yield (w.heap.size+1)) #[] #[]] },W1,gf,
  #[.func (.yield (w.heap.size+1)) #[] #[]]++lb,W1,?_,?_,fun _ _=>trivial,?_,fun h=>(by simp[Fence.wide]at h),?_⟩
 ·rw[<-fR,oG];exact run_enterLoop_outer _ _ _ _ _
 ·simp only[resolve,hg]
  simp[go_sem]
 ·simp[invoke,go_sem,eg]
 ·refine(callsIn_wide (n:=0 - 1)).2 ?_
  refine(bP (w.heap.size+1)
   (fun i W=>I i W/\W.heap[w.heap.size+1]?=some (.loop rec)/\W.heap[w.heap.size]?=some (.deferred (some [])))
   (fun i W=>∃ c,Ix c i W/\W.heap[w.heap.size+1]?=some (.loop { rec with state:=.done,pending:=some c })/\W.heap[w.heap.size]?=some (.deferred (some [])))
   W1 (aj aH xK) (by omega)
   (fun i A A' h hb=>⟨hI i A A' h.1 (hlow hb),(hb.block _ (by omega)).trans h.2.1,(hb.block _ (by omega)).trans h.2.2⟩)
   (fun i A A' h hb=>by obtain⟨c,h1,h2,h3⟩:=h;exact⟨c,zU c i A A' h1 (hlow hb),(hb.block _ (by omega)).trans h2,(hb.block _ (by omega)).trans h3⟩)
   ?_ ⟨hI 0 _ _ h0 xK,PB,FJ⟩).mono ?_
  ·rintro i W args hi hE dM ⟨OX,hl,hk⟩
   refine An (B:=w.heap.size) (S:=fun k=>(S k\/w.heap.size+2<=k)/\k<W.heap.size) (ps:=ps) (assign:=assign) (body:=body) (tmps:=a.tmps) (i:=i) (I:=I) (Ix:=Ix) _ (by omega) (fun h=>by have:=h.1;rcases this with h|h;exact PJ h;omega) (by rw[oG];simp) hl (vV i args hE) (rD _ i W args hi (by omega) (by omega) hE OX) ?_ ?_
   ·intro W3 W4 ks bM xN hc xE rT
    exact⟨⟨bM.size,fun k hk aF=>bM.keep k ⟨by rw[du]at hk;exact hk,aF⟩⟩,.inl ⟨rfl,hI1 hc (by omega) xE,xN,rT _ _ (Nat.le_refl _) (by omega) hk rfl⟩⟩
   ·intro c W3 W4 ks bM xN hc xE rT
    exact⟨⟨bM.size,fun k hk aF=>bM.keep k ⟨by rw[du]at hk;exact hk,aF⟩⟩,.inr ⟨rfl,c,hIx1 hc (by omega) xE,xN,rT _ _ (Nat.le_refl _) (by omega) hk rfl⟩⟩
  ·rintro e W2 ⟨⟨v,rfl⟩,(⟨hi,hl,hk⟩|⟨i,cK,c,hi,hl,hk⟩)⟩
   ·have l8:=aB hl
    exact⟨none,_,by have:=run_endLoop (P:=P) hl (by rw[oG];simp);rw[this,oG],CN _ _ (Nat.le_refl _) (hI1 (Chg.put _ hl (by omega) rfl) (by omega) hi) ((World.putObj_heap_other (by omega)).trans hk)⟩
   ·have l8:=aB hl
    exact⟨some c,_,by have:=run_endLoop (P:=P) hl (by simp);rw[this],wpIn_wide.2 (Cx _ c i _ (Nat.le_refl _) cK (hIx1 (Chg.put _ hl (by omega) rfl) (by omega) hi) ((World.putObj_heap_other (by omega)).trans hk))⟩
theorem kQ{l n:Nat} {P:Program} {f:FuncId} {args:Array Value} {w:World} {R:Ending->World->Prop} (h:Calls P f args w R):CallsIn (Fence.wide.inRound l) n P f args w R:=(callsIn_wide (n:=n)).2 h
theorem F1{l l' n:Nat} {P:Program} {f:FuncId} {tmps:Array Value} {assign body:Code} {w:World} {R:Ending->World->Prop} (h:RoundIn Fence.wide n P l f tmps assign body w R):RoundIn (Fence.wide.inRound l') n P l f tmps assign body w R:=h
end Go.Proofs.YtkfgpnbpcpdclaaGreat
namespace Go.Proofs.YtkfgpnbpcpdclaaGreat
open Go.RowKit Go Go.Shelf
attribute [local go_sem] Oper.semAt_some
abbrev Rd.c(r:Rd):Array Value:=#[.int .i64 r.g.n,.int .i64 r.g.h0,.int .i64 r.g.h1,.int .i64 r.g.h2,.int .i64 r.g.h3,.int .i64 r.g.h4,.int .i64 r.f]
theorem Ek{r:Rd} (h:roundE r=0):0<=r.f/\r.f<32:=by
 unfold roundE at h;split at h
 ·rename_i h1;exact absurd h h1
 ·exact Kb h
theorem nR(tmps:Array Value) (f:Func) (s:Nat) (hf:f.results=#[.cell s 42]) (B:Nat) (W:World) (x:Int) (ty:TypeId) (h1:tmps[s]?.getD undef=.pointer (some ⟨B,0,none⟩)) (hb:W.heap[B]?=some (.cells #[.int .i64 x] ty)) :
  (results f tmps).run Tryz.prog W=.ok (.int .i64 x) W:=by
 have c:=ae hb 0;simp at c;simp[results,hf,go_sem,h1,c]
theorem Lo(n:Int) (w:World) :
  Calls Tryz.prog 144 #[.int .i64 n] w fun e w'=>e=.returned (.int .i64 (if n<1\/5<n then 1 else 0))/\w=w':=by
 go_enter Tryz.func144,Tryz.ntmps144
 go_wp2
 all_goals
  go_ret
  refine⟨aC ?_,rfl⟩
  go_light
  grind
theorem Nl(p:Option Addr) (len cap:Nat) (w:World) :
  Calls Tryz.prog 145 #[.slice p len cap] w fun e w'=>e=.returned (.func (.func 182) #[] #[.pointer (some ⟨w.heap.size,0,none⟩)])/\w'=w.alloc (.cells #[.slice p len cap] 37):=by
 go_enter Tryz.func145,Tryz.ntmps145
 go_wp2
 go_ret
 exact⟨rfl,rfl⟩
def Qj(l:List Rd) (i:Nat):Array Value:=#[.int .i64 (beforeF l i),(l.getD i default).v]
theorem GR{l:List Rd} {k:Nat} (h:k<l.length):beforeF l (k+1)=l[k].f:=by
 unfold beforeF;rw[if_neg (by omega),show k+1 - 1=k by omega,aA default h]
theorem Lp(wd:World) (v:Value) (l:List Rd) (hv:bN wd v l) (w:World) (hb:Below wd.heap.size wd w) (Bx:Nat) (hx:w.cell? ⟨Bx,0,none⟩=some v) :
  GQ Tryz.prog 182 #[.pointer (some ⟨Bx,0,none⟩)] (fun i args=>args=Qj l i) l.length (fun k=>k<wd.heap.size) w:=by
 intro yl J Jx W hW Uw hJ kT hY h0;have dV:=ay hW hx;have gW:gx wd.heap.size wd W:=(gx.of_below hb).trans (fun k hk=>hW.block k (Nat.lt_of_lt_of_le hk hb.size));have xP:wd.heap.size<=W.heap.size:=Nat.le_trans hb.size hW.size;obtain⟨pa,ca,rfl,la1,la2,ea⟩:=hv.at;clear hv hx hW hb;have EA:=aa ea;clear ea;have HJ:=aa hJ;clear hJ;have CA:=aa kT;clear kT;have HY:=aa hY;clear hY;refine(callsIn_wide (n:=0)).1 ?_;refine callsIn_of_wp Tryz.func182 rfl trivial ?_ rfl;simp only[Tryz.ntmps182,List.size_toArray,List.length_cons,List.length_nil,Nat.reduceAdd,Nat.reduceSub,Array.replicate_succ,Array.replicate_zero,List.push_toArray,List.append_toArray,List.nil_append,List.cons_append]
 gi_wp2
 gi_loopw [3,8] (fun b i wr=>∃ k:Nat,k<=l.length/\b=.int .i64 (beforeF l k)/\i=.int .i64 k/\gx wd.heap.size wd wr/\W.heap.size<=wr.heap.size/\J k wr) (fun _ i _=>l.length - (intOf i).toNat)
 case atStart=>exact⟨0,by omega,rfl,rfl,gW,Nat.le_refl _,h0⟩
 case round=>
  obtain⟨k,hk,rfl,rfl,kV,dM,hj⟩:=hrel;have rJ:=aa kV;clear kV;have qj:=aa hj;clear hj;by_cases aF:k<l.length
  ·obtain⟨b1,o1,rfl,⟨c0,_⟩,⟨c1,_⟩,⟨c2,_⟩,⟨c3,_⟩,⟨c4,_⟩,⟨c5,_⟩,⟨c6,_⟩⟩:=EA.out k aF
   have d0:=rJ.out.cell c0;have d1:=rJ.out.cell c1;have d2:=rJ.out.cell c2;have d3:=rJ.out.cell c3;have d4:=rJ.out.cell c4;have d5:=rJ.out.cell c5;have d6:=rJ.out.cell c6;clear c0 c1 c2 c3 c4 c5 c6;have hg:=aA default aF;have qH:=aa (GR aF);generalize l[k]=r at d0 d1 d2 d3 d4 d5 d6 hg qH;have hsz1:W.heap.size<=(wr.alloc (.cells r.c 52)).heap.size:=by simp;omega
   obtain⟨fn,tmps,assign,body,hy,hR⟩:=HY.out k (wr.alloc (.cells r.c 52)) _ aF rfl hsz1 (HJ.out _ _ _ qj.out ((Below.refl _ _).alloc dM _));unfold Qj at hy;rw[hg]at hy;have HR:=aa hR;clear hR hg;generalize beforeF l k=bf at hy
   gi_wp2
   refine⟨rfl,HR.out.mono ?_⟩;rintro e W3 ⟨aW,fO⟩;have gQ:W3.heap[wr.heap.size]?=some (.cells r.c 52):=(aW.2 _ (.inr dM) (by simp)).trans (ar _ _);have wn:W.heap.size<=W3.heap.size:=Nat.le_trans hsz1 aW.1
   have rH:Hid (gx wd.heap.size wd W3):=by
    (have h:gx wd.heap.size wd W3:=gx.trans (rJ.out.alloc _) (fun j hj=>aW.2 j (.inl hj) (by omega)));exact h
   have t1:=ae gQ;clear aW gQ d0 d1 d2 d3 d4 d5 d6;rcases fO with ⟨rfl,oB⟩|⟨rfl,np⟩
   ·have SC:=aa oB;clear oB
    gi_wp2
    go_roundw
    case rel=>exact⟨k+1,by omega,by rw[qH.out],by go_num,rH.out,wn,SC.out⟩
    case measure=>simp[intOf];omega
   ·gi_wp2
    refine bodyPost_ret (results_none rfl _ _ _) rfl ?_;exact⟨⟨_,rfl⟩,.inr ⟨_,by omega,np⟩⟩
  ·obtain rfl:k=l.length:=by omega
   gi_wp2
   go_end0
   exact⟨⟨_,rfl⟩,.inl qj.out⟩
theorem GT(n:Int) (v:Value) (l:List Rd) (w:World) (hv:bN w v l) :
  Calls Tryz.prog 111 #[.int .i64 n,v] w fun e w'=>e=.returned (.int .i64 (wordE n l))/\Below w.heap.size w w':=by
 have G:=aa hv;obtain⟨pa,ca,rfl,la1,la2,_⟩:=hv.at;clear hv;have HV:Hid (wordE n l=if n<1\/5<n then 1 else if 1024<l.length then 5 else aP l.length (ie n l)):=by exact rfl
 refine eI Tryz.func111 rfl ?_;simp only[Tryz.ntmps111,List.size_toArray,List.length_cons,List.length_nil,Nat.reduceAdd,Nat.reduceSub,Array.replicate_succ,Array.replicate_zero,List.push_toArray,List.append_toArray,List.nil_append,List.cons_append]
 go_wp2_with fail
 refine(Lo _ _).mono ?_;rintro e w1 ⟨rfl,rfl⟩;by_cases hn:n<1\/5<n
 ·have db:Hid (wordE n l=1):=by(have h:wordE n l=1:=by(rw[HV.out,if_pos hn]));exact h
  rw[if_pos hn]
  go_wp2_with fail
  refine fH (nR _ _ 4 rfl (w.heap.size+1) _ 1 42 rfl (aX _ _ _)) ?_;exact⟨aC db.out.symm,by go_grown⟩
 rw[if_neg hn];by_cases hl:1024<l.length
 ·have db:Hid (wordE n l=5):=by(have h:wordE n l=5:=by(rw[HV.out,if_neg hn,if_pos hl]));exact h
  go_wp2_with fail
  refine fH (nR _ _ 4 rfl (w.heap.size+1) _ 5 42 rfl (aX _ _ _)) ?_;exact⟨aC db.out.symm,by go_grown⟩
 have db:Hid (wordE n l=aP l.length (ie n l)):=by(have h:wordE n l=aP l.length (ie n l):=by(rw[HV.out,if_neg hn,if_neg hl]));exact h
 clear HV hn
 go_wp2_with fail
 refine(Nl _ _ _ _).mono ?_;rintro e w1 ⟨rfl,rfl⟩
 go_wp2_with fail
 refine bw (fun W=>Below w.heap.size w W/\W.heap[w.heap.size]?=some (.cells #[.int .i64 n] 3)/\W.heap[w.heap.size+1]?=some (.cells #[.int .i64 0] 42)/\W.heap[w.heap.size+1+1]?=some (.cells #[.slice pa l.length ca] 37))
  ⟨by go_grown,aq _ (aq _ (ar _ _)),aq _ (aX _ _ _),cV _ _ _ _⟩ (fun W0 bd=>?_)
 obtain⟨aH,hN,iq,hX⟩:=bd;have bP:=Lp w _ l G.out W0 aH (w.heap.size+1+1) (by simp[ae hX]);have dM:=aB hX
 refine yS (gf:=182) (lb:=#[.pointer (some ⟨w.heap.size+1+1,0,none⟩)]) rfl (enters_of Tryz.func182 (by kernel_rfl) rfl) bP (Below.refl _ _) (fun k hk=>Nat.lt_of_lt_of_le hk aH.size) (fun i args h=>by rw[h];rfl)
  (fun i W=>Below w.heap.size w W/\W.heap[w.heap.size]?=some (.cells #[.int .i64 n] 3)/\W.heap[w.heap.size+1]?=some (.cells #[.int .i64 0] 42)/\∀ j,j<i->ie n l j=0)
  (fun c _ W=>c=.ret/\Below w.heap.size w W/\W.heap[w.heap.size+1]?=some (.cells #[.int .i64 (wordE n l)] 42))
  (fun i A A' h hb=>⟨h.1.trans (hb.mono (by omega)),(hb.block _ (by omega)).trans h.2.1,(hb.block _ (by omega)).trans h.2.2.1,h.2.2.2⟩)
  (fun c i A A' h hb=>⟨h.1,h.2.1.trans (hb.mono (by omega)),(hb.block _ (by omega)).trans h.2.2⟩) ⟨aH,hN,iq,fun j hj=>by omega⟩ ?round ?done ?stop
 case round=>
  rintro yl q W args hq l8 hlw rfl hI;unfold Qj;have nC:Hid (ie n l q=if roundE (l.getD q default)≠0 then roundE (l.getD q default) else if (l.getD q default).g.n≠n then 22 else if !cL (beforeF l q) (l.getD q default).f then 14 else 0):=by exact rfl
  have oa:0<=beforeF l q/\beforeF l q<32:=by
   unfold beforeF;split
   ·omega
   ·have h1:=hI.2.2.2 (q - 1) (by omega)
    unfold ie at h1;split at h1
    ·rename_i h2;exact absurd h1 h2
    ·rename_i h2;exact Ek (by simpa using h2)
  generalize l.getD q default=r at nC;generalize beforeF l q=bf at nC oa;have HI:=aa hI;clear hI bP
  gi_wp2
  refine⟨Bod.of_below (fun k hk=>hk.2) (by go_grown),fun W'=>Below w.heap.size w W'/\W'.heap[w.heap.size]?=some (.cells #[.int .i64 n] 3)/\W'.heap[w.heap.size+1]?=some (.cells #[.int .i64 0] 42)/\W'.heap[W.heap.size]?=some (.cells r.c 52),(bR.below (w:=w) (by omega)).and (bR.cells.and (bR.cells.and bR.cells)),⟨HI.out.1.alloc HI.out.1.size _,aq _ HI.out.2.1,aq _ HI.out.2.2.1,ar _ _⟩,fun W2 h2 _=>?_⟩;obtain⟨g1,g2,g3,g4⟩:=h2;have t4:=ae g4;have HG:=aa (And.intro g1 (And.intro g2 (And.intro g3 g4)));have dB:=aa HI.out.2.2.2;have SO:=aB g4;clear g1 g2 g3 g4 HI hN iq hX
  gi_wp2
  refine⟨trivial,rfl,kQ ((tD r _).mono ?_)⟩;rintro e w3 ⟨rfl,bA⟩;have g1:=aj HG.out.1 bA;have g2:=ak bA HG.out.2.1;have g3:=ak bA HG.out.2.2.1;have g4:=ak bA HG.out.2.2.2;have ks:=bA.size
  have io:Hid (Bod W0.heap.size (fun k=>(k<w.heap.size\/W0.heap.size+2<=k)/\k<W.heap.size) W2 w3):=by
   (have h:Bod W0.heap.size (fun k=>(k<w.heap.size\/W0.heap.size+2<=k)/\k<W.heap.size) W2 w3:=Bod.of_below (fun k hk=>by have:=hk.2;omega) bA);exact h
  have RP:Hid (∀ x:Int,x=ie n l q->x≠0->Bod W0.heap.size (fun k=>(k<w.heap.size\/W0.heap.size+2<=k)/\k<W.heap.size) W2 (w3.setCell ⟨w.heap.size+1,0,none⟩ (.int .i64 x))/\(Below w.heap.size w (w3.setCell ⟨w.heap.size+1,0,none⟩ (.int .i64 x))/\(w3.setCell ⟨w.heap.size+1,0,none⟩ (.int .i64 x)).heap[w.heap.size+1]?=some (.cells #[.int .i64 (wordE n l)] 42))):=by
   have h:∀ x:Int,x=ie n l q->x≠0->Bod W0.heap.size (fun k=>(k<w.heap.size\/W0.heap.size+2<=k)/\k<W.heap.size) W2 (w3.setCell ⟨w.heap.size+1,0,none⟩ (.int .i64 x))/\(Below w.heap.size w (w3.setCell ⟨w.heap.size+1,0,none⟩ (.int .i64 x))/\(w3.setCell ⟨w.heap.size+1,0,none⟩ (.int .i64 x)).heap[w.heap.size+1]?=some (.cells #[.int .i64 (wordE n l)] 42)):=by
    intro x hx gi;refine⟨io.out.trans (Bod.setCell _ ⟨w.heap.size+1,0,none⟩ _ (fun h=>by dsimp only at h;omega)),g1.setCell (p:=⟨w.heap.size+1,0,none⟩) (by dsimp only;omega) _,?_⟩;rw[aE g3,db.out,<-bh q x hq dB.out hx.symm gi];rfl
   exact h
  have c2:=ae g2 0;have c3:=ae g3 0;have f3:=aD g3 0;simp at c2 c3;clear t4;have t4:=ae g4;have O7:=aa (And.intro g1 (And.intro g2 (And.intro g3 g4)));clear g1 g2 g3 g4 HG bA;by_cases h1:roundE r=0
  case neg=>
   have oI:(roundE r != 0)=true:=by simpa using h1
   gi_wp2
   have hh:=RP.out _ (by rw[nC.out,if_pos h1]) h1;exact⟨hh.1,rfl,hh.2⟩
  have gL:=Ek h1;rw[h1];by_cases h2:r.g.n=n
  case neg=>
   have CE:(r.g.n != n)=true:=by simpa using h2
   have HE:Hid (22=ie n l q):=by(have h:22=ie n l q:=by(rw[nC.out,if_neg (by simpa using h1),if_pos h2]));exact h
   gi_wp2
   have hh:=RP.out _ HE.out (by decide);exact⟨hh.1,rfl,hh.2⟩
  have CE:(r.g.n != n)=false:=by simpa using h2
  have HE:Hid (ie n l q=if !cL bf r.f then 14 else 0):=by(have h:ie n l q=if !cL bf r.f then 14 else 0:=by(rw[nC.out,if_neg (by simpa using h1),if_neg (by simpa using h2)]));exact h
  have fJ:=jh bf r.f oa.1 oa.2 gL.1 gL.2;clear h1 h2 nC;cases cK:cL bf r.f with
  | false=>
   rw[cK]at fJ;have mj:Hid (14=ie n l q):=by(have h:14=ie n l q:=by(rw[HE.out,cK];rfl));exact h
   clear cK
   gi_wp2
   have hh:=RP.out _ mj.out (by decide);exact⟨hh.1,rfl,hh.2⟩
  | true=>
   rw[cK]at fJ;have mj:Hid (ie n l q=0):=by(have h:ie n l q=0:=by(rw[HE.out,cK];rfl));exact h
   clear cK
   gi_wp2
   exact⟨io.out,O7.out.1,O7.out.2.1,O7.out.2.2.1,aQ dB.out mj.out⟩
 case done=>
  intro D W hD hI hK;obtain⟨g1,g2,g3,g4⟩:=hI;have HG:=aa (And.intro g1 (And.intro g2 (And.intro g3 g4)));have c3:=ae g3 0;have f3:=aD g3 0;simp at c3;clear g1 g2 g3 g4 bP hN iq hX
  go_wp2_with fail
  refine dH (aI (B:=w.heap.size+1) hK (by omega) _ _) (nR _ _ 4 rfl (w.heap.size+1) _ 0 42 rfl ((World.putObj_heap_other (by omega)).trans (by rw[aE HG.out.2.2.1];rfl))) ?_;exact⟨aC (by rw[db.out,cp _ _ HG.out.2.2.2]),cT (by omega) (HG.out.1.setCell (p:=⟨w.heap.size+1,0,none⟩) (by dsimp only;omega) _)⟩
 case stop=>
  rintro D c i W hD hi ⟨rfl,g1,g2⟩ hK;have HG:=aa (And.intro g1 g2);clear g1 g2 bP hN iq hX
  go_wp2_with fail
  refine dH hK (nR _ _ 4 rfl (w.heap.size+1) _ (wordE n l) 42 rfl ((World.putObj_heap_other (by omega)).trans HG.out.2)) ?_;exact⟨rfl,cT (by omega) HG.out.1⟩
end Go.Proofs.YtkfgpnbpcpdclaaGreat
namespace Go.Proofs.YtkfgpnbpcpdclaaGreat
open Go.RowKit Go Go.Shelf
def mA(A A':World) (T T':Nat->Prop):Prop:=(∀ k,T k->T' k)/\∀ k,T' k->T k\/(A.heap.size<=k/\k<A'.heap.size)
theorem mA.refl(A A':World) (T:Nat->Prop):mA A A' T T:=⟨fun _ h=>h,fun _ h=>.inl h⟩
def pB(P:Program) (g:Nat) (lb:Array Value) (E:Nat->Array Value->(Nat->Prop)->World->Prop) (N:Nat) (S:Nat->Prop) (w:World):Prop:=
 ∀ (l:Nat) (J Jx:Nat->(Nat->Prop)->World->Prop) (W:World),Below w.heap.size w W->l<W.heap.size →
  (∀ i T T' A A',J i T A->Below A.heap.size A A'->mA A A' T T'->J i T' A')->(∀ i T T' A A',Jx i T A->Below A.heap.size A A'->mA A A' T T'->Jx i T' A') →
  (∀ i T W1 args,i<N->E i args T W1->J i T W1->YieldAt Fence.wide 0 P l args W1 fun e W'=>
   W1.heap.size<=W'.heap.size/\(∀ k,T k->W'.heap[k]?=W1.heap[k]?)/\((e=.returned (.bool true)/\J (i+1) T W')\/(e=.returned (.bool false)/\Jx (i+1) T W'))) →
  J 0 S W →
  Calls P g (#[.func (.yield l) #[] #[]]++lb) W fun e W'=>(∃ v,e=.returned v)/\∃ T,J N T W'\/∃ i,i<=N/\Jx i T W'
theorem uP{P:Program} {g:Operand} {ps:Array Tmp} {assign body:Code} {Q:Exit->Act->World->Prop} {a:Act} {w:World}
  {gf:Nat} {lb:Array Value} (hg:a.eval g=.func (.func gf) #[] lb) (eg:∀ args w,(callFunc gf args).run P w=.ok (.enter gf args) w)
  {E:Nat->Array Value->(Nat->Prop)->World->Prop} {N:Nat} {S:Nat->Prop} {w0:World} (bP:pB P gf lb E N S w0) (aH:Below w0.heap.size w0 w) (hS:∀ k,S k->k<w.heap.size) (vV:∀ i args T W,E i args T W->args.size=ps.size)
  (I:Nat->(Nat->Prop)->World->Prop) (Ix:Code->Nat->(Nat->Prop)->World->Prop)
  (hI:∀ i T T' A A',I i T A->Chg w.heap.size A A'->mA A A' T T'->I i T' A') (zU:∀ c i T T' A A',Ix c i T A->Chg w.heap.size A A'->mA A A' T T'->Ix c i T' A') (h0:I 0 S w)
  (rD:∀ l i T W args,i<N->w.heap.size<l->l<W.heap.size->¬ T l->E i args T W->I i T W →
   assign.wpIn (Fence.wide.inRound l) 0 P (Exit.then (fun a1 W1=>Bod w.heap.size T W W1/\∃ Ax:World->Prop,bR w.heap.size Ax/\Ax W1/\∀ W2,Ax W2->(∃ r,W2.heap[l]?=some (.loop r))->body.wpIn (Fence.wide.inRound l) 0 P (Gs w.heap.size T (fun i=>I i T) (fun c i=>Ix c i T) (i+1) W2) a1 W2) (fun _ _ _=>False))
    { tmps:=(ps.zip args).foldl (fun t (p,v)=>t.setIfInBounds p v) a.tmps,defers:=[] } W)
  (CN:∀ D T W,w.heap.size<=D->I N T W->W.heap[D]?=some (.deferred (some []))->Q .normal { a with defers:=jY D :: a.defers } W)
  (Cx:∀ D c i T W,w.heap.size<=D->i<=N->Ix c i T W->W.heap[D]?=some (.deferred (some []))->c.wp P Q { a with defers:=jY D :: a.defers } W) :
  (Code.rangeFunc g ps assign body).wp P Q a w:=by
 refine(wpIn_wide (n:=0)).1 (wpIn_rangeFunc ?_);intro fn _;obtain⟨rec,oG⟩:∃ rec:Loop,rec={ state:=.ready,pending:=none,fn,tmps:=a.tmps,params:=ps,assign,body,defers:=w.heap.size }:=⟨_,rfl⟩;obtain⟨W1,fR⟩:∃ W1,(w.alloc (.deferred (some []))).alloc (.loop rec)=W1:=⟨_,rfl⟩
 have PB:W1.heap[w.heap.size+1]?=some (.loop rec):=by
  rw[<-fR];have:=ar (w.alloc (.deferred (some []))) (.loop rec);rwa [World.size_alloc]at this
 have FJ:W1.heap[w.heap.size]?=some (.deferred (some [])):=by rw[<-fR];exact aq _ (ar w _)
 have du:W1.heap.size=w.heap.size+2:=by rw[<-fR];simp
 have xK:Below w.heap.size w W1:=by rw[<-fR];exact((Below.refl _ w).alloc (Nat.le_refl _) _).alloc (by simp) _
 have PJ:¬ S (w.heap.size+1):=fun h=>by have:=hS _ h;omega
 refine⟨w.heap.size+1,[jY w.heap.size],W1,{ target:=.fn (.func gf) lb,args:=#[.func (.yield (w.heap.size+1)) #[] #[]] },W1,gf,
  #[.func (.yield (w.heap.size+1)) #[] #[]]++lb,W1,?_,?_,fun _ _=>trivial,?_,fun h=>(by simp[Fence.wide]at h),?_⟩
 ·rw[<-fR,oG];exact run_enterLoop_outer _ _ _ _ _
 ·simp only[resolve,hg]
  simp[go_sem]
 ·simp[invoke,go_sem,eg]
 ·refine(callsIn_wide (n:=0 - 1)).2 ?_
  refine(bP (w.heap.size+1)
   (fun i T W=>I i T W/\W.heap[w.heap.size+1]?=some (.loop rec)/\W.heap[w.heap.size]?=some (.deferred (some []))/\¬ T (w.heap.size+1))
   (fun i T W=>∃ c,Ix c i T W/\W.heap[w.heap.size+1]?=some (.loop { rec with state:=.done,pending:=some c })/\W.heap[w.heap.size]?=some (.deferred (some [])))
   W1 (aj aH xK) (by omega)
   (fun i T T' A A' h hb hw=>⟨hI i T T' A A' h.1 (.of_below hb) hw,ak hb h.2.1,ak hb h.2.2.1,fun ht=>by
    rcases hw.2 _ ht with h1|h1
    ·exact h.2.2.2 h1
    ·have:=aB h.2.1;have:=h1.1;omega⟩)
   (fun i T T' A A' h hb hw=>by obtain⟨c,h1,h2,h3⟩:=h;exact⟨c,zU c i T T' A A' h1 (.of_below hb) hw,ak hb h2,ak hb h3⟩)
   ?_ ⟨hI 0 S S _ _ h0 (.of_below xK) (mA.refl _ _ _),PB,FJ,PJ⟩).mono ?_
  ·rintro i T W args hi hE ⟨OX,hl,hk,hT⟩
   refine An (B:=w.heap.size) (S:=T) (ps:=ps) (assign:=assign) (body:=body) (tmps:=a.tmps) (i:=i) (I:=fun i=>I i T) (Ix:=fun c i=>Ix c i T) _ (by omega) hT (by rw[oG];simp) hl (vV i args T W hE) (rD _ i T W args hi (by omega) (aB hl) hT hE OX) ?_ ?_
   ·intro W3 W4 _ bM xN hc xE rT
    exact⟨bM.size,bM.keep,.inl ⟨rfl,hI _ _ _ _ _ xE hc (mA.refl _ _ _),xN,rT _ _ (Nat.le_refl _) (by omega) hk rfl,hT⟩⟩
   ·intro c W3 W4 _ bM xN hc xE rT
    exact⟨bM.size,bM.keep,.inr ⟨rfl,c,zU _ _ _ _ _ _ xE hc (mA.refl _ _ _),xN,rT _ _ (Nat.le_refl _) (by omega) hk rfl⟩⟩
  ·rintro e W2 ⟨⟨v,rfl⟩,T,(⟨hi,hl,hk,_⟩|⟨i,cK,c,hi,hl,hk⟩)⟩
   ·exact⟨none,_,by have:=run_endLoop (P:=P) hl (by rw[oG];simp);rw[this,oG],CN _ T _ (Nat.le_refl _) (hI _ _ _ _ _ hi (Chg.put _ hl (by omega) rfl) (mA.refl _ _ _)) ((World.putObj_heap_other (by omega)).trans hk)⟩
   ·exact⟨some c,_,by have:=run_endLoop (P:=P) hl (by simp);rw[this],wpIn_wide.2 (Cx _ c i T _ (Nat.le_refl _) cK (zU _ _ _ _ _ _ hi (Chg.put _ hl (by omega) rfl) (mA.refl _ _ _)) ((World.putObj_heap_other (by omega)).trans hk))⟩
end Go.Proofs.YtkfgpnbpcpdclaaGreat
namespace Go.Proofs.YtkfgpnbpcpdclaaGreat
open Go.RowKit Go Go.Shelf
attribute [local go_sem] Oper.semAt_some
theorem nS(n:Nat) (word:List Rd) (k p q:Nat) (hp:p<5) (hq:q<5):tN n word (k * 25+p * 5+q) =
  if p<n/\q<n/\p≠q/\cS ((word.getD k default).g.hear q) p=true then some (k,p,q) else none:=by
 unfold tN;rw[show (k * 25+p * 5+q) / 25=k by omega,show (k * 25+p * 5+q) / 5 % 5=p by omega,show (k * 25+p * 5+q) % 5=q by omega]
theorem Qk(n:Nat) (word:List Rd) (k p:Nat) (hp:p<5) (hn:n<=5):dv n word (k * 25+p * 5+n)=dv n word (k * 25+(p+1) * 5):=by
 unfold dv;refine(qT (by omega) fun j h1 h2=>?_).symm;obtain⟨q,rfl⟩:∃ q,j=k * 25+p * 5+q:=⟨j - (k * 25+p * 5),by omega⟩;rw[nS n word k p q hp (by omega),if_neg (by omega)]
theorem Ql(n:Nat) (word:List Rd) (k:Nat) (hn:n<=5):dv n word (k * 25+n * 5)=dv n word ((k+1) * 25):=by
 unfold dv;refine(qT (by omega) fun j h1 h2=>?_).symm;obtain⟨p,q,hq,rfl⟩:∃ p q,q<5/\j=k * 25+p * 5+q:=⟨(j - k * 25) / 5,(j - k * 25) % 5,by omega,by omega⟩;rw[nS n word k p q (by omega) hq,if_neg (by omega)]
theorem yT{n:Nat} {word:List Rd} {k p q:Nat} (hp:p<5) (hq:q<5) (h:p=q\/cS ((word.getD k default).g.hear q) p=false):dv n word (k * 25+p * 5+(q+1))=dv n word (k * 25+p * 5+q):=by
 unfold dv;rw[show k * 25+p * 5+(q+1)=k * 25+p * 5+q+1 by omega];refine Bg ?_;rw[nS n word k p q hp hq,if_neg];rintro⟨_,_,h1,h2⟩;rcases h with h|h
 ·exact h1 h
 ·rw[h]at h2;cases h2
theorem Lr{n:Nat} {word:List Rd} {k p q:Nat} (hn:n<=5) (hp:p<n) (hq:q<n) (jQ:p≠q) (h:cS ((word.getD k default).g.hear q) p=true) :
  dv n word (k * 25+p * 5+(q+1))=dv n word (k * 25+p * 5+q)++[(k,p,q)]:=by
 unfold dv;rw[show k * 25+p * 5+(q+1)=k * 25+p * 5+q+1 by omega];refine uI ?_;rw[nS n word k p q (by omega) (by omega),if_pos ⟨hp,hq,jQ,h⟩]
theorem Nm{n:Nat} {word:List Rd} {k p q:Nat} (hn:n<=5) (hk:k<word.length) (hp:p<n) (hq:q<n) (jQ:p≠q) (h:cS ((word.getD k default).g.hear q) p=true) :
  (gd n word)[(dv n word (k * 25+p * 5+q)).length]?=some (k,p,q):=by
 unfold gd dv;refine Qf (by omega) ?_;rw[nS n word k p q (by omega) (by omega),if_pos ⟨hp,hq,jQ,h⟩]
theorem nT(r:Rd) (q:Nat) (hq:q<5) (w:World) (B:Nat) (t:TypeId) (hw:w.heap[B]?=some (.cells r.c t)):w.cell? ⟨B,1+q,none⟩=some (.int .i64 (r.g.hear q)):=by
 have:q=0\/q=1\/q=2\/q=3\/q=4:=by omega
 rcases this with h|h|h|h|h<;>subst h<;>simp[World.cell?,hw,Gr.hear]
theorem BA(n:Int) (p:Option Addr) (len cap:Nat) (w:World) :
  Calls Tryz.prog 68 #[.int .i64 n,.slice p len cap] w fun e w'=>e=.returned (.func (.func 114) #[] #[.pointer (some ⟨w.heap.size+1,0,none⟩),.pointer (some ⟨w.heap.size,0,none⟩)])/\w'=(w.alloc (.cells #[.int .i64 n] 3)).alloc (.cells #[.slice p len cap] 37):=by
 go_enter Tryz.func68,Tryz.ntmps68
 go_wp2
 go_ret
 exact⟨rfl,rfl⟩
def Qm(x:Nat × Nat × Nat):Array Value:=#[.agg #[.int .i64 x.1,.int .i64 x.2.1,.int .i64 x.2.2,.string ⟨#[]⟩]]
structure PI (wd:World) (By n:Nat) (J:Nat->(Nat->Prop)->World->Prop) (c:Nat) (T:Nat->Prop) (W:World):Prop where
 sub:∀ k,k<wd.heap.size\/k=By->T k
 keep:gx wd.heap.size wd W
 nb:W.heap[By]?=some (.cells #[.int .i64 n] 3)
 j:J c T W
theorem PI.next{wd:World} {By n:Nat} {J:Nat->(Nat->Prop)->World->Prop} {c:Nat} {T:Nat->Prop} {W W':World} (h:PI wd By n J c T W) (ho:∀ k,T k->W'.heap[k]?=W.heap[k]?) (hj:J (c+1) T W'):PI wd By n J (c+1) T W':=
 ⟨h.sub,h.keep.trans fun k hk=>ho k (h.sub k (.inl hk)),(ho By (h.sub By (.inr rfl))).trans h.nb,hj⟩
theorem yU(wd:World) (v:Value) (word:List Rd) (hv:bN wd v word) (n:Nat) (hn:n<=5) (w:World) (hb:Below wd.heap.size wd w) (Bx By:Nat) (hx:w.cell? ⟨Bx,0,none⟩=some v) (hy:w.heap[By]?=some (.cells #[.int .i64 n] 3)) :
  pB Tryz.prog 114 #[.pointer (some ⟨Bx,0,none⟩),.pointer (some ⟨By,0,none⟩)] (fun i args _ _=>args=Qm ((gd n word).getD i (0,0,0))) (gd n word).length (fun k=>k<wd.heap.size\/k=By) w:=by
 intro yl J Jx W hW Uw hJ kT hY h0;have dV:=ay hW hx;have gW:gx wd.heap.size wd W:=(gx.of_below hb).trans (fun k hk=>hW.block k (Nat.lt_of_lt_of_le hk hb.size));have xX:=ak hW hy;obtain⟨pa,ca,rfl,la1,la2,ea⟩:=hv.at;clear hv hx hW hb hy;have EA:=aa ea;clear ea;have HJ:=aa hJ;clear hJ;have CA:=aa kT;clear kT;have HY:=aa hY;clear hY;have S3:=aa xX;clear xX;refine(callsIn_wide (n:=0)).1 ?_;refine callsIn_of_wp Tryz.func114 rfl trivial ?_ rfl;simp only[Tryz.ntmps114,List.size_toArray,List.length_cons,List.length_nil,Nat.reduceAdd,Nat.reduceSub,Array.replicate_succ,Array.replicate_zero,List.push_toArray,List.append_toArray,List.nil_append,List.cons_append]
 gi_wp2
 gi_loopw [10] (fun i wr=>∃ k:Nat,k<=word.length/\i=.int .i64 k/\∃ T,PI wd By n J (dv n word (k * 25)).length T wr) (fun i _=>word.length - (intOf i).toNat)
 case atStart=>exact⟨0,by omega,rfl,_,fun _ h=>h,gW,S3.out,h0⟩
 case round=>
  obtain⟨k,hk,rfl,T0,sL⟩:=hrel;have iV:=aa sL;clear sL;by_cases aF:k<word.length
  ·obtain⟨b1,o1,rfl,⟨c0,_⟩,⟨c1,_⟩,⟨c2,_⟩,⟨c3,_⟩,⟨c4,_⟩,⟨c5,_⟩,⟨c6,_⟩⟩:=EA.out k aF
   have d0:=iV.out.keep.cell c0;have d1:=iV.out.keep.cell c1;have d2:=iV.out.keep.cell c2;have d3:=iV.out.keep.cell c3;have d4:=iV.out.keep.cell c4;have d5:=iV.out.keep.cell c5;have d6:=iV.out.keep.cell c6;clear c0 c1 c2 c3 c4 c5 c6;have HG:=aa (aA default aF);generalize word[k]=r at d0 d1 d2 d3 d4 d5 d6 HG;have cn:=ae iV.out.nb 0;simp at cn;have sE:=aB iV.out.nb
   gi_wp2
   clear d0 d1 d2 d3 d4 d5 d6 cn;have hA:Below wr.heap.size wr (wr.alloc (.cells r.c 52)):=by go_grown
   have z8:Hid (PI wd By n J (dv n word (k * 25)).length (fun x=>T0 x\/x=wr.heap.size) (wr.alloc (.cells r.c 52))):=by
    (have h:PI wd By n J (dv n word (k * 25)).length (fun x=>T0 x\/x=wr.heap.size) (wr.alloc (.cells r.c 52)):=⟨fun x hx=>.inl (iV.out.sub x hx),iV.out.keep.alloc _,aq _ iV.out.nb,HJ.out _ _ _ _ _ iV.out.j hA ⟨fun x hx=>.inl hx,fun x hx=>by rcases hx with hx|hx;exact .inl hx;exact .inr (by simp;omega)⟩⟩);exact h
   have jx:=aa (ar wr (.cells r.c 52));clear iV hA;obtain⟨B5,hB5⟩:∃ B5,B5=wr.heap.size:=⟨_,rfl⟩;rw[<-hB5]at jx z8 ⊢;obtain⟨W0,bd⟩:∃ W0:World,W0=wr.alloc (.cells r.c 52):=⟨_,rfl⟩;rw[<-bd]at z8 jx ⊢;clear hB5 bd sE;clear wr
   gi_loopw [16] (fun i wr=>∃ p:Nat,p<=n/\i=.int .i64 p/\wr.heap[B5]?=some (.cells r.c 52)/\∃ T,T B5/\PI wd By n J (dv n word (k * 25+p * 5)).length T wr) (fun i _=>n - (intOf i).toNat)
   case atStart=>exact⟨0,by omega,rfl,jx.out,_,.inr rfl,z8.out⟩
   case round=>
    clear jx z8;obtain⟨p,hp,rfl,Px,T1,hT1,sL⟩:=hrel;have qR:=aa Px;clear Px;have iV:=aa sL;clear sL;have cn:=ae iV.out.nb 0;simp at cn;by_cases jM:p<n
    ·gi_wp2
     clear cn;obtain⟨W1,fR⟩:∃ W1:World,W1=wr:=⟨_,rfl⟩;rw[<-fR]at iV qR ⊢;clear fR wr
     gi_loopw [20] (fun i wr=>∃ q:Nat,q<=n/\i=.int .i64 q/\wr.heap[B5]?=some (.cells r.c 52)/\∃ T,T B5/\PI wd By n J (dv n word (k * 25+p * 5+q)).length T wr) (fun i _=>n - (intOf i).toNat)
     case atStart=>exact⟨0,by omega,rfl,qR.out,T1,hT1,iV.out⟩
     case round=>
      clear qR iV;obtain⟨q,hq,rfl,Px,T2,PR,sL⟩:=hrel;have qR:=aa Px;clear Px;have iV:=aa sL;clear sL;by_cases xR:q<n
      ·by_cases jQ:p=q
       ·subst jQ
        gi_wp2
        refine⟨fun _ h=>(by cases h),?_⟩
        gi_wp2
        go_roundw
        case rel=>exact⟨p+1,by omega,by go_num,qR.out,T2,PR,by rw[yT (by omega) (by omega) (.inl rfl)];exact iV.out⟩
        case measure=>simp[intOf];omega
       ·have hpq':((p:Int) != (q:Int))=true:=by simp;omega
        have ch:=nT r q (by omega) wr B5 _ qR.out;have fJ:=nL (r.g.hear q) p;have qk:q<5:=by omega
        cases hb:cS (r.g.hear q) p with
        | false=>
         have HB:Hid (cS ((word.getD k default).g.hear q) p=false):=by(have h:cS ((word.getD k default).g.hear q) p=false:=by(rw[HG.out];exact hb));exact h
         rw[hb]at fJ;clear hb;generalize r.g.hear q=hv at ch fJ
         gi_wp2
         refine⟨fun _ h=>(by cases h),?_⟩
         gi_wp2
         go_roundw
         case rel=>exact⟨q+1,by omega,by go_num,qR.out,T2,PR,by rw[yT (by omega) (by omega) (.inr HB.out)];exact iV.out⟩
         case measure=>simp[intOf];omega
        | true=>
         have HB:Hid (cS ((word.getD k default).g.hear q) p=true):=by(have h:cS ((word.getD k default).g.hear q) p=true:=by(rw[HG.out];exact hb));exact h
         rw[hb]at fJ;clear hb;generalize r.g.hear q=hv at ch fJ;have rL:=Nm hn aF jM xR jQ HB.out;have HHIT:=aa (Lr hn jM xR jQ HB.out);obtain⟨fn,tmps,assign,body,hy,hR⟩:=HY.out (dv n word (k * 25+p * 5+q)).length T2 wr _ (List.getElem?_eq_some_iff.1 rL).1 rfl iV.out.j;have O9:Qm ((gd n word).getD (dv n word (k * 25+p * 5+q)).length (0,0,0))=#[.agg #[.int .i64 k,.int .i64 p,.int .i64 q,.string ⟨#[]⟩]]:=by rw[List.getD_eq_getElem?_getD,rL];rfl
         rw[O9]at hy;have HR:=aa hR;clear hR O9;have kl:=(List.getElem?_eq_some_iff.1 rL).1;clear rL
         gi_wp2
         refine⟨rfl,HR.out.mono ?_⟩;rintro e W3 ⟨_,aW,(⟨rfl,oB⟩|⟨rfl,np⟩)⟩
         ·have Kv:W3.heap[B5]?=some (.cells r.c 52):=(aW B5 PR).trans qR.out
          have hp3:=iV.out.next aW oB;have H3:=aa (And.intro Kv hp3);clear aW oB Kv hp3 ch
          gi_wp2
          go_roundw
          case rel=>exact⟨q+1,by omega,by go_num,H3.out.1,T2,PR,by rw[HHIT.out,List.length_append];exact H3.out.2⟩
          case measure=>simp[intOf];omega
         ·clear ch
          gi_wp2
          refine bodyPost_ret (results_none rfl _ _ _) rfl ?_;exact⟨⟨_,rfl⟩,T2,.inr ⟨_,by omega,np⟩⟩
      ·obtain rfl:q=n:=by omega
       gi_wp2
       go_roundw
       case rel=>exact⟨p+1,by omega,by go_num,qR.out,T2,PR,by rw[<-Qk q word k p (by omega) hn];exact iV.out⟩
       case measure=>simp[intOf];omega
    ·obtain rfl:p=n:=by omega
     gi_wp2
     go_roundw
     case rel=>exact⟨k+1,by omega,by go_num,T1,by rw[<-Ql p word k hn];exact iV.out⟩
     case measure=>simp[intOf];omega
  ·obtain rfl:k=word.length:=by omega
   gi_wp2
   go_end0
   exact⟨⟨_,rfl⟩,T0,.inl iV.out.j⟩
theorem F2(v:Value) (l:List Int) (x:Int) (w:World) (hv:aU w v l) :
  Calls Tryz.prog 183 #[v,.int .i64 x] w fun e w'=>e=.returned (.int .i64 (firstIx l.length fun i=>decide (x=l.getD i 0)))/\Below w.heap.size w w':=by
 obtain⟨pa,ca,rfl,la1,la2,ea⟩:=hv.at;have EA:=aa ea;clear hv ea;generalize hr:(firstIx l.length fun i=>decide (x=l.getD i 0))=r;have HR:=aa hr;clear hr
 go_enter Tryz.func183,Tryz.ntmps183
 go_wp2
 go_loop [8] (fun i=>∃ k:Nat,k<=l.length/\i=.int .i64 k/\∀ j,j<k->decide (x=l.getD j 0)=false) (fun i=>l.length - (intOf i).toNat)
 case atStart=>exact⟨0,by omega,rfl,by simp⟩
 case round=>
  obtain⟨k,hk,rfl,aO⟩:=hrel;have H:=aa aO;clear aO;by_cases aF:k<l.length
  ·obtain⟨b1,o1,rfl,h1⟩:=EA.out k aF
   rw[Nat.mul_one]at h1;have c1:=h1.1;have HG:=aa (aA 0 aF);clear h1;generalize l[k]=y at c1 HG;by_cases iW:x=y
   ·subst iW
    go_wp2
    go_ret
    exact⟨aC (by rw[<-HR.out,gY _ k _ aF H.out (by rw[HG.out];simp)]),Below.refl _ _⟩
   ·have hxy':(x == y)=false:=by simpa using iW
    have HX:Hid (decide (x=l.getD k 0)=false):=by(have h:decide (x=l.getD k 0)=false:=by(rw[HG.out];simpa using iW));exact h
    clear iW
    go_wp2
    go_round
    case rel=>exact⟨k+1,by omega,by go_num,aQ H.out HX.out⟩
    case measure=>simp[intOf];omega
  ·go_wp2
   go_ret
   exact⟨aC (by rw[<-HR.out,fT];intro j hj;exact H.out j (by omega)),Below.refl _ _⟩
theorem Dx(l:List Int) (x:Int):(anyLt l.length fun i=>decide (x=l.getD i 0))=l.contains x:=by
 rw[Bool.eq_iff_iff,D9,List.contains_iff_mem];constructor
 ·rintro⟨k,hk,h⟩
  simp only[decide_eq_true_eq]at h;rw[aA 0 hk]at h;rw[h];exact List.getElem_mem hk
 ·intro h
  obtain⟨k,hk,rfl⟩:=List.getElem_of_mem h;exact⟨k,hk,by rw[aA 0 hk];simp⟩
theorem Au(v:Value) (l:List Int) (x:Int) (w:World) (hv:aU w v l) :
  Calls Tryz.prog 148 #[v,.int .i64 x] w fun e w'=>e=.returned (.bool (l.contains x))/\Below w.heap.size w w':=by
 have HC:=aa (F2 v l x w hv);have HA:Hid (l.contains x=decide (0<=firstIx l.length fun i=>decide (x=l.getD i 0))):=by(have h:l.contains x=decide (0<=firstIx l.length fun i=>decide (x=l.getD i 0)):=by(rw[ph,Dx]));exact h
 generalize (firstIx l.length fun i=>decide (x=l.getD i 0))=r at HC HA;obtain⟨pa,ca,rfl,_⟩:=hv.at;clear hv
 go_enter Tryz.func148,Tryz.ntmps148
 go_wp2_with fail
 refine HC.out.mono ?_;rintro e w1 ⟨rfl,aG⟩
 go_wp2_with fail
 go_ret
 exact⟨aV HA.out.symm,aG⟩
theorem Tt(m:Mac) (pf:Option Addr) (nf cf:Nat) (py:Option Addr) (ny cy:Nat) (pt:Option Addr) (nt ct:Nat) (po:Option Addr) (no co:Nat) (pi:Option Addr) (ni ci:Nat) (pw:Option Addr) (nw cw:Nat) (w:World) :
  Calls Tryz.prog 113 #[.agg (bX m (.slice pf nf cf) (.slice py ny cy) (.slice pt nt ct) (.slice po no co)),.slice pi ni ci,.slice pw nw cw] w fun e w'=>e=.returned (.func (.func 147) #[] #[.pointer (some ⟨w.heap.size,0,none⟩),.pointer (some ⟨w.heap.size+1,0,none⟩),.pointer (some ⟨w.heap.size+1+1,0,none⟩)]) ∧
   w'=((w.alloc (.cells (bX m (.slice pf nf cf) (.slice py ny cy) (.slice pt nt ct) (.slice po no co)) 35)).alloc (.cells #[.slice pi ni ci] 36)).alloc (.cells #[.slice pw nw cw] 37):=by
 go_enter Tryz.func113,Tryz.ntmps113
 go_wp2
 go_ret
 exact⟨rfl,rfl⟩
end Go.Proofs.YtkfgpnbpcpdclaaGreat
