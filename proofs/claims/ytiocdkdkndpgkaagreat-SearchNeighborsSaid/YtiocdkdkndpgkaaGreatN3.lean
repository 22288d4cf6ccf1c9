/-
  A part of the proof: lemmas and contracts that the parts behind it use. Each one's conditions are its own premises.
-/
import Derived.Laws.IdiomStrings
import Derived.Shelf.SlSortCmp.QuietGrown
import Derived.OwnWalkIn
import Derived.TacticsInMore
import Derived.LoopNIn
import Derived.LoopIn
import Derived.Laws.IdiomCopy
import Derived.Laws.CopyRow
import Derived.Test.YtiocdkdkndpgkaaGreatShelf
import Derived.ArgAppend
import Derived.WalkSpells
import Derived.Test.YtiocdkdkndpgkaaGreatN2
set_option maxRecDepth 100000
set_option maxHeartbeats 8000000
set_option linter.unusedVariables false
set_option linter.unusedSimpArgs false
namespace Go.Proofs.YtiocdkdkndpgkaaGreat
open Go.RowKit Go Go.Shelf
def dQ(w:World) (b:Nat) (f:List (Rd × Int)):Prop:=
 ∃ es clock,w.heap[b]?=some (.map es clock)/\es.toList.map (fun e=>(e.key,e.val))=f.map (fun p=>(p.1.v,Value.int .i64 p.2))
def dn(f:List (Rd × Int)) (r:Rd):Option Int:=(f.find? fun p=>decide (r=p.1)).map (·.2)
theorem pf(em:Bool) (r:Rd) (w:World):(Instr.checkKey em 10000 109 r.v).run Tryz.prog w=.ok () w:=by kernel_rfl
theorem vv(a b:Rd) (w:World):(Op.equal 109 a.v b.v).run Tryz.prog w=.ok (decide (a=b)) w:=eZ 9996 a b w
theorem rp(r:Rd) (w:World):∀ (f:List (Rd × Int)) (es:List MapEntry) (i:Nat),es.map (fun e=>(e.key,e.val))=f.map (fun p=>(p.1.v,Value.int .i64 p.2)) →
  (dn f r=none->(Instr.findAsking 109 r.v es i).run Tryz.prog w=.ok none w)/\(∀ x,dn f r=some x->∃ j,(Instr.findAsking 109 r.v es i).run Tryz.prog w=.ok (some (j,.int .i64 x)) w)
 | [],es,i,h=>by
  obtain rfl:es=[]:=by simpa using h
  exact⟨fun _=>rfl,fun x hx=>by simp[dn]at hx⟩
 | p :: f,es,i,h=>by
  cases es with
  | nil=>simp at h
  | cons e es=>
   simp only[List.map_cons,List.cons.injEq,Prod.mk.injEq]at h;obtain⟨⟨hk,hv⟩,h⟩:=h;have ih:=rp r w f es (i+1) h;unfold Instr.findAsking;by_cases hr:r=p.1
   ·subst hr;refine⟨fun hn=>by simp[dn]at hn,fun x hx=>?_⟩;have Q5:p.2=x:=by simpa[dn] using hx
    refine⟨i,?_⟩;simp[Sem.run_bind,hk,vv,hv,Q5]
   ·have e1:dn (p :: f) r=dn f r:=by simp[dn,hr]
    rw[e1];refine⟨fun hn=>?_,fun x hx=>?_⟩
    ·simp[Sem.run_bind,hk,vv,hr,ih.1 hn]
    ·obtain⟨j,hj⟩:=ih.2 x hx;exact⟨j,by simp[Sem.run_bind,hk,vv,hr,hj]⟩
theorem wH(r:Rd) (w:World) (f:List (Rd × Int)) (es:List MapEntry) (h:es.map (fun e=>(e.key,e.val))=f.map (fun p=>(p.1.v,Value.int .i64 p.2))) :
  (dn f r=none->(Instr.findKey 109 r.v es).run Tryz.prog w=.ok none w)/\(∀ x,dn f r=some x->∃ j,(Instr.findKey 109 r.v es).run Tryz.prog w=.ok (some (j,.int .i64 x)) w):=by
 have hA:=rp r w f es 0 h;unfold Instr.findKey;cases es with
 | nil=>
  obtain rfl:f=[]:=by simpa using h.symm
  refine⟨fun _=>?_,fun x hx=>by simp[dn]at hx⟩;simp[run_underlying Tryz.underlying109,Instr.findNow]
 | cons e es=>
  cases f with
  | nil=>simp at h
  | cons p f=>
   have hk:e.key=p.1.v:=by simp only[List.map_cons,List.cons.injEq,Prod.mk.injEq]at h;exact h.1.1
   have hn:∀ fs,Instr.findNow (.struct fs) r.v (e :: es) 0=none:=fun fs=>by simp[Instr.findNow,Instr.sameNow]
   simp only[Sem.run_bind,run_underlying Tryz.underlying109,Result.andThen_ok,hn];exact hA
theorem zl{w:World} {b:Nat} {f:List (Rd × Int)} (h:dQ w b f) (r:Rd) :
  (dn f r=none->(Instr.lookup 357 (.map (some b)) r.v true).run Tryz.prog w=.ok (.tuple #[.int .i64 0,.bool false]) w) ∧
  (∀ x,dn f r=some x->(Instr.lookup 357 (.map (some b)) r.v true).run Tryz.prog w=.ok (.tuple #[.int .i64 x,.bool true]) w):=by
 obtain⟨es,clock,hb,og⟩:=h;have hF:=wH r w f es.toList og;have hz:(zeroValue 3).run Tryz.prog w=.ok (.int .i64 0) w:=by kernel_rfl
 have hg:(getObj b).run Tryz.prog w=.ok (.map es clock) w:=by simp[getObj,Sem.run,hb]
 unfold Instr.lookup;refine⟨fun hn=>?_,fun x hx=>?_⟩
 ·simp[Sem.run_bind,run_underlying Tryz.underlying357,hg,pf,hF.1 hn,hz]
 ·obtain⟨j,hj⟩:=hF.2 x hx;simp[run_underlying Tryz.underlying357,hg,pf,hj]
theorem IL{w:World} {b:Nat} {f:List (Rd × Int)} (h:dQ w b f) (r:Rd) (x:Int) (hn:dn f r=none) :
  ∃ o,(Instr.mapUpdate 357 (.map (some b)) r.v (.int .i64 x)).run Tryz.prog w=.ok () (w.putObj b o)/\dQ (w.putObj b o) b (f++[(r,x)]):=by
 obtain⟨es,clock,hb,og⟩:=h;have hF:=wH r w f es.toList og;have hg:(getObj b).run Tryz.prog w=.ok (.map es clock) w:=by simp[getObj,Sem.run,hb]
 have hs:∀ o,(setObj b o).run Tryz.prog w=.ok () (w.putObj b o):=fun o=>by simp[setObj,Sem.run,hb,World.putObj]
 refine⟨_,?_,es.push { key:=r.v,val:=.int .i64 x,born:=clock },clock+1,World.putObj_heap_same (aw hb),?_⟩
 ·unfold Instr.mapUpdate;simp[run_underlying Tryz.underlying357,hg,pf,hF.1 hn,hs]
 ·simp[og]
theorem vw(w:World) (o:Obj):Below w.heap.size w (w.drew.alloc o):=((Below.refl _ w).drew).alloc (by simp) o
theorem wI(b:ByteArray) (hb:b.size<=140737488351232) (w:World):∃ cap W',(convert 9 324 (.string b)).run Tryz.prog w=.ok (.slice (some ⟨w.heap.size,0,none⟩) b.size cap) W'/\Below w.heap.size w W'/\b.size<=cap/\cap<=maxLen ∧
  W'.heap[w.heap.size]?=some (.cells (bytesRow b cap) 5 ((bytesRow b cap).size,(bytesRow b cap).size+1)):=
 ⟨_,_,run_bytes_of_string w _ _ 5 b Tryz.underlying9 Tryz.underlying324 Tryz.underlying5,vw _ _,grownCap_ge _ _ _ _,grownCap_le_maxLen _ _ _ _ (by simp only[maxLen];omega),heap_alloc_new w.drew _⟩
theorem OY(m s k x:Nat):((s:Int)+((k:Int)+1) % (m:Int) * (x:Int)) % (m:Int)=(((s+(k+1) % m * x) % m:Nat):Int):=by push_cast;rfl
theorem OZ(x:UInt8):x.toNat<256:=x.toNat_lt
theorem IM(b:ByteArray) (k:Nat) (hk:k<b.size):b.data[k]'hk=b.data.toList.getD k 0:=by
 have h:k<b.data.toList.length:=by simpa using hk
 rw[List.getD_eq_getElem?_getD,List.getElem?_eq_getElem h];simp
theorem rY(b:ByteArray) (hb:b.size<=140737488351232) (w:World) :
  Calls Tryz.prog 212 #[.string b] w fun e w'=>e=.returned (.int .i64 (ckS b.data.toList))/\Below w.heap.size w w':=by
 obtain⟨cap,W1,hc,aK,h1,h2,h3⟩:=wI b hb w;have Ob:cap<=9223372036854775807:=by simp only[maxLen]at h2;omega
 have H3:=ab h3;clear h3 h2;have HK:bc (ckS b.data.toList=ckAt b.data.toList b.size b.size):=by(have h:ckS b.data.toList=ckAt b.data.toList b.size b.size:=by(unfold ckS;simp));exact h
 go_enter Tryz.func212,Tryz.ntmps212
 go_wp2
 go_loop [3,12] (fun s i=>∃ k:Nat,k<=b.size/\i=.int .i64 k/\s=.int .i64 (ckAt b.data.toList b.size k)) (fun _ i=>b.size - (intOf i).toNat)
 ·exact⟨0,by omega,rfl,by simp[ckAt]⟩
 ·
  obtain⟨k,hk,rfl,rfl⟩:=hrel;by_cases aG:k<b.size
  ·have cx:W1.cell? ⟨w.heap.size,k,none⟩=some (.int .u8 ((b.data.toList.getD k 0).toNat:Int)):=by
    rw[ae H3.o,bytesRow_at b cap k aG,IM b k aG]
   have hs:=EQ b.data.toList b.size k;have HS:bc (ckAt b.data.toList b.size (k+1)=(ckAt b.data.toList b.size k+(k+1) % 65521 * (b.data.toList.getD k 0).toNat) % 65521):=by exact rfl
   have hx:=OZ (b.data.toList.getD k 0);generalize (b.data.toList.getD k 0).toNat=x at cx hx HS;generalize ckAt b.data.toList b.size k=s at hs HS;have hm:((k:Int)+1) % 65521 * (x:Int)<=65520 * 255:=Int.mul_le_mul (by omega) (by omega) (by omega) (by omega);have hm0:0<=((k:Int)+1) % 65521 * (x:Int):=Int.mul_nonneg (by omega) (by omega);have DC:IntKind.i64.wrap (((k:Int)+1) % 65521 * (x:Int))=((k:Int)+1) % 65521 * (x:Int):=IntWalk.i64_in _ (by omega);have xN:IntKind.i64.wrap ((s:Int)+((k:Int)+1) % 65521 * (x:Int))=(s:Int)+((k:Int)+1) % 65521 * (x:Int):=IntWalk.i64_in _ (by omega);have HM:=ab (And.intro hm hm0);clear hm hm0
   go_wp2
   go_round
   ·exact⟨k+1,by omega,by go_num,by rw[HS.o,<-OY 65521];rfl⟩
   ·simp[intOf];omega
  ·obtain rfl:k=b.size:=by omega
   go_wp2
   go_ret
   exact⟨aE (by rw[HK.o]),aK⟩
abbrev Pl.v(x:Pl):Value:=.agg #[.int .i64 x.rd,.int .i64 x.pr,.int .i64 x.h0,.int .i64 x.h1,.int .i64 x.h2,.int .i64 x.h3,.int .i64 x.h4]
theorem O0(d:Nat) (a b:Pl) (w:World):(Op.equalIn (d+3) 318 a.v b.v).run Tryz.prog w=.ok (decide (a=b)) w:=by
 have hS:Tryz.prog.underlying 318=some (.struct (Tryz.prog.fieldsOf 318)):=by kernel_rfl
 have hp:Tryz.prog.stoodInHeld 318=false:=by kernel_rfl
 rw[run_equalIn_struct w (d+2) 318 _ _ hS hp];have ag:=Tryz.isAgg3;have ah:=Tryz.isAgg105;have zh:=Tryz.sizeOf105;have u3:=Tryz.underlying3;simp only[Program.fieldsOf,Tryz.underlying318];simp[Op.eqFields,part,ag,ah,zh,run_equalIn_int w (d+1) 3 _ .i64 _ _ u3,qo d];obtain⟨n,k,h0,h1,h2,h3,h4⟩:=a;obtain⟨m,l,g0,g1,g2,g3,g4⟩:=b;by_cases hn:n=m
 case neg=>simp[hn]
 by_cases hk:k=l
 case neg=>simp[hn,hk]
 by_cases hh:h0=g0/\h1=g1/\h2=g2/\h3=g3/\h4=g4<;>simp[hn,hk,hh]
theorem kit_pl:KeyKit Tryz.prog 318 Pl.v:=
 ⟨fun a b w=>O0 9997 a b w,fun em a w=>by kernel_rfl,⟨_,Tryz.underlying318⟩⟩
structure Pw where
 rd:Int
 fr:Int
 to:Int
instance:DecidableEq Pw:=fun a b=>decidable_of_iff (a.rd=b.rd/\a.fr=b.fr/\a.to=b.to) (by cases a;cases b;simp)
abbrev Pw.c(x:Pw):Array Value:=#[.int .i64 x.rd,.int .i64 x.fr,.int .i64 x.to]
abbrev Pw.v(x:Pw):Value:=.agg x.c
theorem O1(d:Nat) (a b:Pw) (w:World):(Op.equalIn (d+2) 249 a.v b.v).run Tryz.prog w=.ok (decide (a=b)) w:=by
 have hS:Tryz.prog.underlying 249=some (.struct (Tryz.prog.fieldsOf 249)):=by kernel_rfl
 have hp:Tryz.prog.stoodInHeld 249=false:=by kernel_rfl
 rw[run_equalIn_struct w (d+1) 249 _ _ hS hp];have ag:=Tryz.isAgg3;have u3:=Tryz.underlying3;simp only[Program.fieldsOf,Tryz.underlying249];simp[Op.eqFields,part,ag,run_equalIn_int w d 3 _ .i64 _ _ u3];obtain⟨n,k,h0⟩:=a;obtain⟨m,l,g0⟩:=b;by_cases hn:n=m
 case neg=>simp[hn]
 by_cases hk:k=l
 case neg=>simp[hn,hk]
 by_cases hh:h0=g0<;>simp[hn,hk,hh]
theorem kit_pw:KeyKit Tryz.prog 249 Pw.v:=
 ⟨fun a b w=>O1 9998 a b w,fun em a w=>by kernel_rfl,⟨_,Tryz.underlying249⟩⟩
abbrev Msg.c(m:Msg):Array Value:=#[.int .i64 m.rd,.int .i64 m.fr,.int .i64 m.to,.string m.bs]
abbrev Msg.v(m:Msg):Value:=.agg m.c
theorem Bv(a b:ByteArray):(a.toList == b.toList)=decide (a=b):=by
 rw[ByteArray.toList_eq,ByteArray.toList_eq];obtain⟨⟨x⟩⟩:=a;obtain⟨⟨y⟩⟩:=b;by_cases h:x=y<;>simp[h]
theorem L4(d:Nat) (a b:Msg) (w:World):(Op.equalIn (d+2) 125 a.v b.v).run Tryz.prog w=.ok (decide (a=b)) w:=by
 have hS:Tryz.prog.underlying 125=some (.struct (Tryz.prog.fieldsOf 125)):=by kernel_rfl
 have hp:Tryz.prog.stoodInHeld 125=false:=by kernel_rfl
 rw[run_equalIn_struct w (d+1) 125 _ _ hS hp];have ag:=Tryz.isAgg3;have ah:=Tryz.isAgg9;have u3:=Tryz.underlying3;have u9:=Tryz.underlying9;simp only[Program.fieldsOf,Tryz.underlying125];simp[Op.eqFields,part,ag,ah,run_equalIn_int w d 3 _ .i64 _ _ u3,run_equalIn_string w d 9 _ _ u9];obtain⟨n,k,h0,h1⟩:=a;obtain⟨m,l,g0,g1⟩:=b;by_cases hn:n=m
 case neg=>simp[hn]
 by_cases hk:k=l
 case neg=>simp[hn,hk]
 by_cases hh:h0=g0
 case neg=>simp[hn,hk,hh]
 have hb:=Bv h1 g1;by_cases hs:h1=g1
 ·simp[hn,hk,hh,hs]
 ·have bo:¬ h1.toList=g1.toList:=by simpa[hs] using hb
  simp[hn,hk,hh,hs,bo]
def dC(w w':World):Prop:=∃ q os,w'=Sort.grow (w.drewN q) os
theorem dC.refl(w:World):dC w w:=⟨0,#[],by rw[Sort.grow_empty];rfl⟩
theorem dC.trans{a b c:World} (h:dC a b) (k:dC b c):dC a c:=by
 obtain⟨q,os,rfl⟩:=h;obtain⟨q',os',rfl⟩:=k;exact⟨q+q',os++os',by show Sort.grow (Sort.grow ((a.drewN q).drewN q') os) os'=_;rw[Sort.grow_grow,World.drewN_drewN]⟩
theorem dC.alloc{a b:World} (h:dC a b) (o:Obj):dC a (b.alloc o):=h.trans ⟨0,#[o],by rw[Sort.alloc_eq_grow];rfl⟩
theorem dC.drew{a b:World} (h:dC a b):dC a b.drew:=h.trans ⟨1,#[],by rw[Sort.grow_empty];rfl⟩
theorem dC.below{a b:World} (h:dC a b):Below a.heap.size a b:=by
 obtain⟨q,os,rfl⟩:=h;exact⟨rfl,rfl,rfl,by simp[Sort.grow],fun k hk=>Sort.heap_grow_old (a.drewN q) os hk⟩
theorem t4(a b:Gr) (w:World) :
  Calls Tryz.prog 248 #[a.v,b.v] w fun e w'=>e=.returned (.int .i64 (bJ a b))/\dC w w':=by
 by_cases k9:a=b
 ·subst k9;have kB:∀ w,(binOp .eql 107 a.v a.v).run Tryz.prog w=.ok (.bool true) w:=fun w=>by rw[wD];simp
  have H:=ab (jO a);obtain⟨n,h0,h1,h2,h3,h4⟩:=a
  go_enter Tryz.func248,Tryz.ntmps248
  go_wp2
  go_ret;exact⟨aE H.o.symm,by repeat (first|exact dC.refl _|apply dC.drew|apply dC.alloc)⟩
 have kB:∀ w,(binOp .eql 107 a.v b.v).run Tryz.prog w=.ok (.bool false) w:=fun w=>by rw[wD];simp[k9]
 clear k9;by_cases hn:a.n=b.n
 ·have u5:(a.n != b.n)=false:=by simp[hn]
  have HC:bc (bJ a b=ay 5 fun p=>cmpI (a.hear p) (b.hear p)):=by(have h:bJ a b=ay 5 fun p=>cmpI (a.hear p) (b.hear p):=by(unfold bJ;rw[hn,me];simp));exact h
  clear hn
  go_enter Tryz.func248,Tryz.ntmps248
  go_wp2
  refine eE (fun W=>dC w W/\w.heap.size+1<W.heap.size/\W.heap[w.heap.size]?=some (.cells #[.int .i64 a.n,.int .i64 a.h0,.int .i64 a.h1,.int .i64 a.h2,.int .i64 a.h3,.int .i64 a.h4] 107)/\W.heap[w.heap.size+1]?=some (.cells #[.int .i64 b.n,.int .i64 b.h0,.int .i64 b.h1,.int .i64 b.h2,.int .i64 b.h3,.int .i64 b.h4] 107))
   ⟨by repeat (first|exact dC.refl _|apply dC.drew|apply dC.alloc),by simp,aH _ (aA _ _),by have:=aA (w.alloc (.cells #[.int .i64 a.n,.int .i64 a.h0,.int .i64 a.h1,.int .i64 a.h2,.int .i64 a.h3,.int .i64 a.h4] 107));rw[World.size_alloc]at this;exact this _⟩ (fun W0 dF=>?_)
  obtain⟨bw,dE,hA,hB⟩:=dF;have HA:=ab hA;clear hA;have HB:=ab hB;clear hB;have Lh:=ab bw;clear bw;have FV:=ab dE;clear dE
  go_loopw [20] (fun i wr=>bc (dC W0 wr)/\∃ k:Nat,k<=5/\i=.int .i64 k/\∀ j,j<k->cmpI (a.hear j) (b.hear j)=0) (fun i _=>5 - (intOf i).toNat)
  ·exact⟨ab (dC.refl _),0,by omega,rfl,by simp⟩
  ·
   obtain⟨ba,k,hk,rfl,bB⟩:=hrel;have H:=ab bB;clear bB;by_cases aG:k<5
   ·have hz:=ba.out.below.size;have dE:=FV.o;have c1:=cell_grown (w:=wr) (by show w.heap.size<wr.heap.size;omega) (oD a k aG wr _ (aq ba.out.below HA.o));have c2:=cell_grown (w:=wr) (by show w.heap.size+1<wr.heap.size;omega) (oD b k aG wr _ (aq ba.out.below HB.o));clear hz dE;have hmix:(Tryz.prog).follows .mixedOrders=true:=by kernel_rfl
    go_wp2
    go_quiet_grown ((go_at_call 204;exact Calls.grown_of ((lE _ _ _).mono fun _ _ ⟨h1,h2⟩=>⟨h1,0,#[],by rw[Sort.grow_empty];exact h2.symm⟩)))
    go_wp2
    ·have ht:(cmpI (a.hear k) (b.hear k) != 0)=true:=by assumption
     go_ret
     exact⟨aE (by rw[HC.o];exact bR k _ aG H.o rfl (by simpa using ht)),Lh.o.trans (ba.out.trans ⟨nq,osq,rfl⟩)⟩
    ·have ht:(cmpI (a.hear k) (b.hear k) != 0)=false:=by assumption
     go_roundw
     ·exact⟨ab (ba.out.trans ⟨nq,osq,rfl⟩),k+1,by omega,by go_num,bG H.o (by simpa using ht)⟩
     ·simp[intOf];omega
   ·go_wp2
    go_ret;exact⟨aE (by rw[HC.o,cj];intro j hj;exact H.o j (by omega)),Lh.o.trans ba.out⟩
 ·have u5:(a.n != b.n)=true:=by simp[hn]
  have HC:bc (bJ a b=cmpI a.n b.n):=by unfold bJ;rw[if_pos];exact rfl;intro h;exact hn (gC h)
  clear hn
  go_enter Tryz.func248,Tryz.ntmps248
  go_wp2_with (go_at_call 204;refine(lE _ _ _).mono ?_;rintro e w' ⟨rfl,rfl⟩)
  go_ret;exact⟨aE HC.o.symm,by repeat (first|exact dC.refl _|apply dC.drew|apply dC.alloc)⟩
theorem t5(a b:Rd) (w:World) :
  Calls Tryz.prog 188 #[a.v,b.v] w fun e w'=>e=.returned (.int .i64 (roundC a b))/\dC w w':=by
 by_cases k9:a=b
 ·subst k9;have kB:∀ w,(binOp .eql 109 a.v a.v).run Tryz.prog w=.ok (.bool true) w:=fun w=>by rw[rW];simp
  have H:=ab (um a)
  go_enter Tryz.func188,Tryz.ntmps188
  go_wp2
  go_ret;exact⟨aE H.o.symm,by repeat (first|exact dC.refl _|apply dC.drew|apply dC.alloc)⟩
 have kB:∀ w,(binOp .eql 109 a.v b.v).run Tryz.prog w=.ok (.bool false) w:=fun w=>by rw[rW];simp[k9]
 by_cases hg:a.g=b.g
 ·have aV:∀ w,(binOp .neq 107 a.g.v b.g.v).run Tryz.prog w=.ok (.bool false) w:=fun w=>by rw[wE];simp[hg]
  have HC:bc (roundC a b=cmpI a.f b.f):=by(have h:roundC a b=cmpI a.f b.f:=by(unfold roundC;rw[hg,jO];simp));exact h
  clear hg k9
  go_enter Tryz.func188,Tryz.ntmps188
  go_wp2_with (go_at_call 204;refine(lE _ _ _).mono ?_;rintro e w' ⟨rfl,rfl⟩)
  go_ret;exact⟨aE HC.o.symm,by repeat (first|exact dC.refl _|apply dC.drew|apply dC.alloc)⟩
 ·have aV:∀ w,(binOp .neq 107 a.g.v b.g.v).run Tryz.prog w=.ok (.bool true) w:=fun w=>by rw[wE];simp[hg]
  have HC:bc (roundC a b=bJ a.g b.g):=by(have h:roundC a b=bJ a.g b.g:=by(unfold roundC;rw[if_pos (fun h=>hg (uo h))]));exact h
  clear hg k9
  go_enter Tryz.func188,Tryz.ntmps188
  go_wp2_with (go_at_call 248;refine(t4 a.g b.g _).mono ?_;rintro e w1 ⟨rfl,hb⟩)
  go_ret;exact⟨aE HC.o.symm,dC.trans (by repeat (first|exact dC.refl _|apply dC.drew|apply dC.alloc)) hb⟩
end Go.Proofs.YtiocdkdkndpgkaaGreat
namespace Go.Proofs.YtiocdkdkndpgkaaGreat
open Go.RowKit Go Go.Shelf
attribute [local go_sem] Oper.semAt_some
theorem bn{W:World} {B:Nat} {cs:Array Value} {t:TypeId} {f:Nat × Nat} (h:W.heap[B]?=some (.cells cs t f)) (o:Nat) (v:Value):(W.setCell ⟨B,o,none⟩ v).heap[B]?=some (.cells (cs.setIfInBounds o v) t f):=by
 simp[World.setCell,Array.getElem?_modify,h]
theorem bh{W:World} {B C:Nat} {x:Obj} (h:W.heap[C]?=some x) (aV:C≠B) (o:Nat) (v:Value):(W.setCell ⟨B,o,none⟩ v).heap[C]?=some x:=
 (Below.heap_setCell W ⟨B,o,none⟩ v C aV).trans h
def jF(n:Nat) (w w':World):Prop:=∀ k,k<n->w'.heap[k]?=w.heap[k]?
theorem jF.cell{w w':World} (h:jF w.heap.size w w') {a:Addr} {v:Value} (hc:w.cell? a=some v):w'.cell? a=some v:=by
 have:=EK hc;rw[World.cell?_of_block (w:=w) (h a.block this)];exact hc
theorem jF.of_below{w w':World} (h:Below w.heap.size w w'):jF w.heap.size w w':=h.block
theorem jF.alloc{w w':World} (h:jF w.heap.size w w') (o:Obj):jF w.heap.size w (w'.alloc o):=fun k hk=>by
 have h1:w.heap[k]?=some w.heap[k]:=Array.getElem?_eq_getElem hk;rw[h1];exact aH o ((h k hk).trans h1)
theorem jF.trans{n:Nat} {a b c:World} (h:jF n a b) (k:jF n b c):jF n a c:=fun i hi=>(k i hi).trans (h i hi)
theorem rZ(n:Int) (p:Option Addr) (len cap:Nat) (w:World) :
  Calls Tryz.prog 183 #[.agg #[.int .i64 n,.slice p len cap]] w fun e w'=>e=.returned (.func (.func 244) #[] #[.pointer (some ⟨w.heap.size,0,none⟩)])/\w'=w.alloc (.cells #[.int .i64 n,.slice p len cap] 27):=by
 go_enter Tryz.func183,Tryz.ntmps183
 go_wp2
 go_ret
 exact⟨rfl,rfl⟩
def Bw(l:List (List Mv)) (i:Nat):Array Value:=#[.int .i64 (mvAt l i).1,(mvAt l i).2.v]
theorem qr(wd:World) (v:Value) (l:List (List Mv)) (hv:cO wd v l) (w:World) (hb:Below wd.heap.size wd w) (Bx:Nat) (hx:w.cell? ⟨Bx,1,none⟩=some v) :
  FZ Tryz.prog 244 #[.pointer (some ⟨Bx,0,none⟩)] (Bw l) (az l) (fun k=>k<wd.heap.size) w:=by
 intro yl J Jx W hW hJ Ao hY h0;have ip:=aC hW hx;have k7:jF wd.heap.size wd W:=(jF.of_below hb).trans (fun k hk=>hW.block k (Nat.lt_of_lt_of_le hk hb.size));obtain⟨pa,ca,rfl,la1,la2,ea⟩:=hv.at;clear hv hx hW hb;have EA:=ab ea;clear ea;have HJ:=ab hJ;clear hJ;have Ol:=ab Ao;clear Ao;have HY:=ab hY;clear hY;refine(callsIn_wide (n:=0)).1 ?_;refine callsIn_of_wp Tryz.func244 rfl trivial ?_ rfl;simp only[Tryz.ntmps244,List.size_toArray,List.length_cons,List.length_nil,Nat.reduceAdd,Nat.reduceSub,Array.replicate_succ,Array.replicate_zero,List.push_toArray,List.append_toArray,List.nil_append,List.cons_append]
 gi_wp2
 gi_loopw [10] (fun i wr=>∃ s:Nat,s<=l.length/\i=.int .i64 s/\jF wd.heap.size wd wr/\J (cB l s) wr) (fun i _=>l.length - (intOf i).toNat)
 ·exact⟨0,by omega,rfl,k7,by rw[lx];exact h0⟩
 ·
  obtain⟨s,hs,rfl,Lp,hj⟩:=hrel;have QS:=ab Lp;clear Lp;have Do:=ab hj;clear hj;by_cases aG:s<l.length
  ·obtain⟨b1,o1,rfl,x,cx,On⟩:=EA.o s aG;rw[Nat.mul_one]at cx;have d1:=QS.o.cell cx;obtain⟨p2,c2,rfl,m1,m2,e2⟩:=On.at;clear On cx;have E2:=ab e2;clear e2
   gi_wp2
   obtain⟨W0,dF⟩:∃ W0:World,W0=wr:=⟨_,rfl⟩;rw[<-dF]at QS Do d1 ⊢;clear dF wr
   gi_loopw [17] (fun i wr=>∃ j:Nat,j<=l[s].length/\i=.int .i64 j/\jF wd.heap.size wd wr/\J (cB l s+j) wr) (fun i _=>l[s].length - (intOf i).toNat)
   ·exact⟨0,by omega,rfl,QS.o,Do.o⟩
   ·
    obtain⟨j,hj,rfl,Lp,hjr⟩:=hrel;have pq:=ab Lp;clear Lp;have HJR2:=ab hjr;clear hjr;by_cases hjt:j<l[s].length
    ·obtain⟨b2,o2,rfl,⟨⟨c0,_⟩,⟨c1,_⟩,⟨c2,_⟩,⟨c3,_⟩,⟨c4,_⟩,⟨c5,_⟩,⟨c6,_⟩⟩,c7,_⟩:=E2.o j hjt;have d0:=pq.o.cell c0;have d1:=pq.o.cell c1;have d2:=pq.o.cell c2;have d3:=pq.o.cell c3;have d4:=pq.o.cell c4;have d5:=pq.o.cell c5;have d6:=pq.o.cell c6;have d7:=pq.o.cell c7;clear c0 c1 c2 c3 c4 c5 c6 c7;have Ae:=pB l s j aG hjt;have im:=pA l s aG;generalize hm:l[s][j]=m at d0 d1 d2 d3 d4 d5 d6 d7 Ae;obtain⟨fn,tmps,assign,body,hy,hR⟩:=HY.o (cB l s+j) (wr.alloc (.cells #[.int .i64 m.r.g.n,.int .i64 m.r.g.h0,.int .i64 m.r.g.h1,.int .i64 m.r.g.h2,.int .i64 m.r.g.h3,.int .i64 m.r.g.h4,.int .i64 m.r.f,.int .i64 m.to] 188)) (by omega) (HJ.o _ _ _ HJR2.o (by go_grown));unfold Bw at hy;rw[Ae]at hy;dsimp only at hy;have HR:=ab hR;clear hR Ae hm
     gi_wp2
     refine⟨rfl,HR.o.mono ?_⟩;rintro e W3 (⟨rfl,Rl,Ft,mv⟩|⟨rfl,NG⟩)
     ·gi_wp2
      go_roundw
      ·exact⟨j+1,by omega,by go_num,jF.trans (pq.o.alloc _) mv,Rl⟩
      ·simp[intOf];omega
     ·gi_wp2
      refine bodyPost_ret (results_none rfl _ _ _) rfl ?_;exact⟨⟨_,rfl⟩,.inr ⟨_,by omega,NG⟩⟩
    ·gi_wp2
     go_roundw
     ·
      refine⟨s+1,by omega,by go_num,pq.o,?_⟩;have e:l[s].length=j:=by omega
      rw[fX l s aG,e];exact HJR2.o
     ·simp[intOf];omega
  ·gi_wp2
   go_end0
   exact⟨⟨_,rfl⟩,.inl (by rw[<-ly l s (by omega)];exact Do.o)⟩
def sizedE(a:Adv):Int:=if a.states.length<1\/256<a.states.length\/4096<az a.states then 5 else 0
theorem IN(a:Adv) (v:Value) (w:World) (hv:cO w v a.states) (hN:az a.states<1099511627776) :
  Calls Tryz.prog 181 #[.agg #[.int .i64 a.n,v]] w fun e w'=>e=.returned (.int .i64 (sizedE a))/\Below w.heap.size w w':=by
 have G:=ab hv;obtain⟨pa,ca,rfl,la1,la2,_⟩:=hv.at;clear hv;refine cX Tryz.func181 rfl ?_;simp only[Tryz.ntmps181,List.size_toArray,List.length_cons,List.length_nil,Nat.reduceAdd,Nat.reduceSub,Array.replicate_succ,Array.replicate_zero,List.push_toArray,List.append_toArray,List.nil_append,List.cons_append]
 go_wp2_with fail
 refine(rZ _ _ _ _ _).mono ?_;rintro e w1 ⟨rfl,rfl⟩
 go_wp2_with fail
 refine eE (fun W=>Below w.heap.size w W/\W.heap[w.heap.size]?=some (.cells #[.int .i64 a.n,.slice pa a.states.length ca] 27)/\W.heap[w.heap.size+1]?=some (.cells #[.int .i64 0] 3)/\W.heap[w.heap.size+1+1]?=some (.cells #[.int .i64 a.n,.slice pa a.states.length ca] 27))
  ⟨by go_grown,aH _ (aH _ (aA _ _)),aH _ (by simpa using aA (w.alloc (.cells #[.int .i64 a.n,.slice pa a.states.length ca] 27)) (.cells #[.int .i64 0] 3)),by simpa using aA ((w.alloc (.cells #[.int .i64 a.n,.slice pa a.states.length ca] 27)).alloc (.cells #[.int .i64 0] 3)) (.cells #[.int .i64 a.n,.slice pa a.states.length ca] 27)⟩ (fun W0 dF=>?_)
 obtain⟨bw,hA,oc,hX⟩:=dF;have dZ:=qr w _ a.states G.o W0 bw (w.heap.size+1+1) (by simp[ae hX]);have bA:=aw hX
 refine p8 (gf:=244) (lb:=#[.pointer (some ⟨w.heap.size+1+1,0,none⟩)]) rfl (enters_of Tryz.func244 (by kernel_rfl) rfl) dZ (Below.refl _ _) (fun k hk=>Nat.lt_of_lt_of_le hk bw.size) (fun i=>rfl)
  (fun i W=>Below w.heap.size w W/\W.heap[w.heap.size]?=some (.cells #[.int .i64 a.n,.slice pa a.states.length ca] 27)/\W.heap[w.heap.size+1]?=some (.cells #[.int .i64 i] 3))
  (fun _ _ _=>False) (fun i=>(cF.below (by omega)).and (cF.cells.and cF.cells)) (fun _ _=>cF.pure) ⟨bw,hA,oc⟩ ?round ?done ?stop
 case round=>
  intro l i W hi hl hI;unfold Bw
  gi_wp2
  refine⟨Bod.refl _ _ _,_,(cF.below (w:=w) (by omega)).and (cF.cells.and cF.cells),hI,fun W2 h2 _=>?_⟩;obtain⟨g1,g2,g3⟩:=h2;have c1:=ae g3 0;have f1:=bf g3 0;simp at c1;have HG:=ab (And.intro g1 (And.intro g2 g3));clear g1 g2 g3 hI dZ
  gi_wp2
  obtain⟨g1,g2,g3⟩:=HG.o;refine⟨Bod.setCell _ _ _ (by simp),g1.setCell (by simp) _,bh g2 (by omega) _ _,?_⟩;rw[bn g3];simp
 case done=>
  intro D W hD hI hK;obtain⟨g1,g2,g3⟩:=hI;have HG:=ab (And.intro g1 (And.intro g2 g3));have t1:=ae g2;have t2:=ae g3;clear g1 g2 g3 dZ
  go_wp2
  all_goals
   refine iQ hK (results_tmp rfl _ _ _) ?_;refine⟨aE ?_,eN (by omega) HG.o.1⟩
   go_light
   unfold sizedE
   grind
 case stop=>
  intro D c i W _ _ h;exact h.elim
def fC(n:Nat) (f:Nat->Int) (q:Nat):Array Value:=((List.range n).map fun j=>Value.int .i64 (if j<q then f j else 0)).toArray
theorem pJ(n:Nat) (f:Nat->Int) (q:Nat):(fC n f q).size=n:=by simp[fC]
theorem PW(n:Nat) (f:Nat->Int) (q j:Nat) (hj:j<n):(fC n f q)[j]?=some (.int .i64 (if j<q then f j else 0)):=by simp[fC,hj]
theorem O2(f:Nat->Int) (n:Nat):madeCells (Value.int .i64 0).cells n=fC n f 0:=by
 apply Array.ext
 ·simp[madeCells,fC]
 ·intro i h1 h2;simp[madeCells,fC,Value.cells,Nat.mod_one]
theorem Gf(f:Nat->Int) (n:Nat) (hn:n<=65536) (w:World):(Instr.makeSlice 38 (.int .i64 (n:Int)) (.int .i64 (n:Int))).run Tryz.prog w=.ok (.slice (some ⟨w.heap.size,0,none⟩) n n) (w.alloc (.cells (fC n f 0) 3)):=by
 have Ie:(Tryz.prog.info? 3).map (fun i=>(i.zero,i.size,i.bytes))=some (some (.int .i64 0),1,8):=by kernel_rfl
 obtain⟨i,hi,dE,dc,dN⟩:=info_parts Ie;have:=run_make (P:=Tryz.prog) w 38 3 i (.int .i64 0) Tryz.underlying38 hi dE .i64 .i64 (n:Int) (n:Int) (by omega) (by omega) (by rw[dN];omega) (by omega);rw[this,dc,Nat.mul_one];simp only[Int.toNat_natCast,O2 f]
def xC(n:Nat) (x:Int) (q:Nat):Array Value:=fC n (fun _=>x) q
theorem yo(n:Nat) (x:Int) (q j:Nat) (hj:j<n):(xC n x q)[j]?=some (.int .i64 (if j<q then x else 0)):=PW n _ q j hj
theorem Iq0(n:Nat) (x:Int) (q m:Nat) (h:q+m<=n):((xC n x q).toList.take q++List.replicate m (Value.int .i64 x)++(xC n x q).toList.drop (q+m)).toArray=xC n x (q+m):=by
 apply Array.ext_getElem?;intro j;have hl:(xC n x q).toList.length=n:=by rw[Array.length_toList];exact pJ n _ q
 have hg:∀ q j,(xC n x q).toList[j]?=if j<n then some (.int .i64 (if j<q then x else 0)) else none:=by
  intro q j;rw[Array.getElem?_toList];by_cases hj:j<n
  ·rw[if_pos hj];exact yo n x q j hj
  ·rw[if_neg hj,Array.getElem?_eq_none];unfold xC;rw[pJ];omega
 rw[<-Array.getElem?_toList (xs:=xC n x (q+m)),hg,List.getElem?_toArray,List.append_assoc];by_cases h1:j<q
 ·rw[List.getElem?_append_left (by rw[List.length_take,hl];omega),List.getElem?_take_of_lt h1,hg,if_pos (show j<n by omega),if_pos h1,if_pos (show j<n by omega),if_pos (show j<q+m by omega)]
 ·rw[List.getElem?_append_right (by rw[List.length_take,hl];omega),List.length_take,hl,Nat.min_eq_left (by omega)];by_cases h2:j<q+m
  ·rw[List.getElem?_append_left (by rw[List.length_replicate];omega),List.getElem?_replicate,if_pos (show j - q<m by omega),if_pos (show j<n by omega),if_pos h2]
  ·rw[List.getElem?_append_right (by rw[List.length_replicate];omega),List.length_replicate,List.getElem?_drop,show q+m+(j - q - m)=j by omega,hg];by_cases h3:j<n
   ·rw[if_pos h3,if_pos h3,if_neg h1,if_neg h2]
   ·rw[if_neg h3,if_neg h3]
theorem wJ(w:World) (g:Nat) (cur cur':Array Value) (t:TypeId) (hg:w.heap[g]?=some (.cells cur t (0,0))):(w.setRow g cur').heap[g]?=some (.cells cur' t (0,0)):=setRow_heap w g cur cur' t _ hg
theorem r7{P:Program} {w:World} {ops:Array Oper} {rest:List Oper} {o:Oper} {a:Act} {Q:Exit->Act->World->Prop} {d s:Operand} {t t':TypeId} {v u v':Value} {w':World} (hg:o.guard=none)
  (ho:o.op=.call { callee:=.builtin .copy,args:=#[d,s],argTypes:=#[t,t'] }) (hd:a.eval d=v) (hs:a.eval s=u)
  (hr:(Builtin.copy_ #[t,t'] o.type #[v,u]).run P w=.ok v' w') (h:wpList P ops Q rest (a.put o.dst v') w'):wpList P ops Q (o :: rest) a w:=by
 refine wpList_plain hg fun _ hK=>?_
 unfold Oper.wp;simp[execOp,ho,resolve,invoke,builtin,hd,hs,hr,Result.andThen];exact hK _ _ h
theorem Gg(rv:Int) (n:Nat) (h1:1<=n) (p po pc B:Nat) (cs:Array Value) (ty:TypeId) (fr:Nat × Nat) (W:World) (hp:W.heap[p]?=some (.cells cs ty fr)) (u6:cs[po]?=some (.int .i64 rv)) (hB:W.heap[B]?=some (.cells (xC n rv 0) 3)) :
  (Builtin.copy_ #[38,38] 3 #[.slice (some ⟨B,0,none⟩) n n,.slice (some ⟨p,po,none⟩) 1 pc]).run Tryz.prog W=.ok (.int .i64 1) (W.setRow B (xC n rv 1)):=by
 have h:=run_copy_row Tryz.prog W 38 38 3 3 B 0 n n ⟨p,po,none⟩ 1 pc (xC n rv 0) 3 [.int .i64 rv] Tryz.underlying38 (by kernel_rfl) hB (by simp only[List.length_cons,List.length_nil];exact(Nat.min_eq_left h1).symm)
  (fun j v hj=>by
   cases j with
   | zero=>simp at hj;subst hj;rw[Addr.add_lit,ae hp];exact u6
   | succ j=>simp at hj) (by unfold xC;rw[pJ];simpa using h1) (by simp[Value.oneCell'])
 rw[h];exact congrArg (fun r=>Result.ok (Value.int .i64 1) (W.setRow B r)) (Iq0 n rv 0 1 (by omega))
theorem IP(rv:Int) (n q m:Nat) (h1:q+m<=n) (hm:m=min q (n - q)) (B:Nat) (W:World) (hB:W.heap[B]?=some (.cells (xC n rv q) 3)) :
  (Builtin.copy_ #[38,38] 3 #[.slice (some ⟨B,q,none⟩) (n - q) (n - q),.slice (some ⟨B,0,none⟩) q n]).run Tryz.prog W=.ok (.int .i64 (m:Int)) (W.setRow B (xC n rv (q+m))):=by
 have h:=run_copy_row Tryz.prog W 38 38 3 3 B q (n - q) (n - q) ⟨B,0,none⟩ q n (xC n rv q) 3 (List.replicate m (.int .i64 rv)) Tryz.underlying38 (by kernel_rfl) hB (by rw[List.length_replicate];exact hm)
  (fun j v hj=>by
   rw[List.getElem?_replicate]at hj;by_cases hjm:j<m
   ·rw[if_pos hjm]at hj;cases hj;rw[Addr.add_lit,ae hB,Nat.zero_add,yo _ _ _ _ (by omega),if_pos (by omega)]
   ·rw[if_neg hjm]at hj;cases hj) (by unfold xC;rw[pJ,List.length_replicate];exact h1) (fun v hv=>by rw[(List.mem_replicate.1 hv).2];rfl)
 rw[h];have e:=Iq0 n rv q m h1;rw[List.length_replicate];exact congrArg (fun r=>Result.ok (Value.int .i64 (m:Int)) (W.setRow B r)) e
theorem zm{n:Nat} {w W:World} {g:Nat} {c:Array Value} (hn:n<=g) (h:Below n w W):Below n w (W.setRow g c):=
 ⟨h.os,h.tape,h.output,by simpa using h.size,fun k hk=>(setRow_other W g k c (by omega)).trans (h.block k hk)⟩
def mz(wq W2:World) (i:Nat) (D:Nat->Bool) (_x:Nat->Value) (W:World):Prop:=W=bif D i then W2 else wq
theorem mz.other{wq W2 W:World} {i j:Nat} {D:Nat->Bool} {x:Nat->Value} (h:mz wq W2 i D x W) (v:Value) (hj:i≠j):mz wq W2 i (aZ D j) (gt x j v) W:=by
 unfold mz at h ⊢;simp only[aZ,if_neg hj];exact h
theorem mz.hit{wq W2:World} {i:Nat} {D:Nat->Bool} {x:Nat->Value} (v:Value):mz wq W2 i (aZ D i) (gt x i v) W2:=by simp[mz,aZ]
theorem mz.yes{wq W2 W:World} {i:Nat} {D:Nat->Bool} {x:Nat->Value} (h:mz wq W2 i D x W) (hD:D i=true):W=W2:=by unfold mz at h;rw[hD]at h;exact h
theorem Gi(rv:Int) (n:Nat) (h1:1<=n) (hn:n<=8192) (p po pc:Nat) (cs:Array Value) (ty:TypeId) (fr:Nat × Nat) (w:World) (hp:w.heap[p]?=some (.cells cs ty fr)) (u6:cs[po]?=some (.int .i64 rv)) :
  Calls Tryz.prog 264 #[.slice (some ⟨p,po,none⟩) 1 pc,.int .i64 n] w fun e w'=>e=.returned (.slice (some ⟨w.heap.size,0,none⟩) n n)/\w'.heap[w.heap.size]?=some (.cells (xC n rv n) 3)/\Below w.heap.size w w':=by
 have ND:=fun W=>Tryz.bits_Mul 1 n (by omega) (by omega) W
 have e1:1 * n / 18446744073709551616=0:=by omega
 have e2:1 * n % 18446744073709551616=n:=by omega
 rw[e1,e2]at ND;have hu:Tryz.prog.underlying 38=some (.slice 3):=Tryz.underlying38;have hs:(Tryz.prog.info? 3).map (·.size)=some 1:=by kernel_rfl
 have tq:=Gf (fun _=>rv) n (by omega);have HM:=ab ND;have HK:=ab tq;clear ND tq e1 e2;have dY:¬ (9223372036854775807:Int)<n:=by omega
 have xS:¬ (n:Int)<0:=by omega
 have DC:IntKind.u64.wrap (n:Int)=n:=by rw[IntKind.wrap_u64];omega
 have xN:IntKind.i64.wrap (n:Int)=n:=by rw[IntKind.wrap_i64];omega
 go_enter Tryz.func264,Tryz.ntmps264
 go_wp2_with fail
 refine(HM.o _).mono ?_;rintro e w' ⟨rfl,rfl⟩;have tq:=HK.o;have Rz:(w'.alloc (.cells (fC n (fun _=>rv) 0) 3)).heap[w'.heap.size]?=some (.cells (xC n rv 0) 3):=aA _ _;have tp:=Gg rv n h1 p po pc w'.heap.size cs ty fr _ (aH _ hp) u6 Rz
 go_wp2_with (at_builtin;refine r7 rfl rfl rfl rfl tp ?_)
 refine eE (fun W=>Below w'.heap.size w' W/\W.heap[w'.heap.size]?=some (.cells (xC n rv 1) 3)) ⟨zm (Nat.le_refl _) ((Below.refl _ w').alloc (Nat.le_refl _) _),wJ _ _ _ _ _ Rz⟩ (fun W0 dF=>?_);clear tp Rz tq HM HK
 go_loopw [8] (fun i wr=>Below w'.heap.size w' wr/\∃ q:Nat,1<=q/\q<=n/\i=.int .i64 q/\wr.heap[w'.heap.size]?=some (.cells (xC n rv q) 3)) (fun i _=>n - (intOf i).toNat)
 ·exact⟨dF.1,1,by omega,h1,rfl,dF.2⟩
 ·
  obtain⟨ba,q,hq1',hq2',rfl,hrow⟩:=hrel;clear dF W0;by_cases aG:q<n
  ·obtain⟨m,hm⟩:∃ m,m=min q (n - q):=⟨_,rfl⟩;have Oy:q+m<=n:=by omega
   have QR:1<=m:=by omega
   have hlt':(q:Int)<n:=by omega
   have hle':(q:Int)<=n:=by omega
   have hne1:¬ n=q:=by omega
   have sS:¬ q=n:=by omega
   have Rk:IntKind.i64.wrap ((q:Int)+(m:Int))=(q:Int)+(m:Int):=by rw[IntKind.wrap_i64];omega
   have rH:=IP rv n q m Oy hm w'.heap.size wr.drew hrow;have tV:wr.drew.heap[w'.heap.size]?=some (.cells (xC n rv q) 3):=hrow;have yV:Below w'.heap.size w' wr.drew:=ba.drew;clear hm hrow ba
   go_wp2_with fail
   obtain⟨wq,xM⟩:∃ wq,wr.drew=wq:=⟨_,rfl⟩;rw[xM]at rH tV yV;refine wa 10 [38,39,40,41,42,43,44,45,46,8] [some (Value.int .i64 (q:Int)),some (Value.slice (some ⟨w'.heap.size,0,none⟩) n n),some (Value.int .i64 (q:Int)),some (Value.slice (some ⟨w'.heap.size,q,none⟩) (n - q) (n - q)),some (Value.slice (some ⟨w'.heap.size,0,none⟩) n n),some (Value.int .i64 (q:Int)),some (Value.slice (some ⟨w'.heap.size,0,none⟩) q n),some (Value.int .i64 (m:Int)),some (Value.int .i64 ((q:Int)+(m:Int))),some (Value.int .i64 ((q:Int)+(m:Int)))] (mz wq (wq.setRow w'.heap.size (xC n rv (q+m))) 7) (by kernel_rfl) rfl (by decide) rfl (by kernel_rfl) (fun _=>xM) ?step ?tail
   case step=>
    intro x W D i o s F hi ho hs hD gY bQ aN hv bC hF;have gU:i=0\/i=1\/i=2\/i=3\/i=4\/i=5\/i=6\/i=7\/i=8\/i=9:=by omega
    rcases gU with rfl|rfl|rfl|rfl|rfl|rfl|rfl|rfl|rfl|rfl
    all_goals (have kC:=gY _ _ hs hD;obtain rfl:=kj ho.symm;obtain rfl:=kj hs.symm)
    ·have Ac:D 9=false:=by
      cases h:D 9 with
      | false=>rfl
      | true=>exact absurd (bQ 9 _ rfl h ⟨0,.phase⟩ (by simp) rfl) (by rw[hD];decide)
     have e8:F.getD 8 undef=Value.int .i64 (q:Int):=by(rw[hF];exact(lQ (by decide) (i:=9) rfl (Nat.le_of_ble_eq_true (by kernel_rfl))).trans (gY 9 8 rfl Ac))
     clear Ac;refine ma (.tmp 8) rfl rfl ?_;refine dm.mk (F.getD 8 undef) (fun c hc=>e8.trans (kj hc)) ?_ rfl;exact bC.other _ (by decide)
    ·have e7:F.getD 7 undef=Value.slice (some ⟨w'.heap.size,0,none⟩) n n:=EM hF (by decide) rfl;refine ma (.tmp 7) rfl rfl ?_;refine dm.mk (F.getD 7 undef) (fun c hc=>e7.trans (kj hc)) ?_ rfl;exact bC.other _ (by decide)
    ·have Ac:D 9=false:=by
      cases h:D 9 with
      | false=>rfl
      | true=>exact absurd (bQ 9 _ rfl h ⟨2,.phase⟩ (by simp) rfl) (by rw[hD];decide)
     have e8:F.getD 8 undef=Value.int .i64 (q:Int):=by(rw[hF];exact(lQ (by decide) (i:=9) rfl (Nat.le_of_ble_eq_true (by kernel_rfl))).trans (gY 9 8 rfl Ac))
     clear Ac;refine ma (.tmp 8) rfl rfl ?_;refine dm.mk (F.getD 8 undef) (fun c hc=>e8.trans (kj hc)) ?_ rfl;exact bC.other _ (by decide)
    ·have g1:=aN ⟨1,.data⟩ (by simp) rfl;have d1:=hv 1 _ (by omega) g1 rfl;have e39:=nz hF 1 39 (by decide) rfl (by kernel_rfl) d1;have e39':=kD e39;have g2:=aN ⟨2,.data⟩ (by simp) rfl;have d2:=hv 2 _ (by omega) g2 rfl;have e40:=nz hF 2 40 (by decide) rfl (by kernel_rfl) d2;have e40':=kD e40;have HC:=ab bC;clear aN hi hv bC gY bQ hF kC rH tV yV xM g1 d1 g2 d2
     go_wp2_with fail
     exact dm.mk _ ri (HC.o.other _ (by decide)) rfl
    ·have e7:F.getD 7 undef=Value.slice (some ⟨w'.heap.size,0,none⟩) n n:=EM hF (by decide) rfl;refine ma (.tmp 7) rfl rfl ?_;refine dm.mk (F.getD 7 undef) (fun c hc=>e7.trans (kj hc)) ?_ rfl;exact bC.other _ (by decide)
    ·have Ac:D 9=false:=by
      cases h:D 9 with
      | false=>rfl
      | true=>exact absurd (bQ 9 _ rfl h ⟨5,.phase⟩ (by simp) rfl) (by rw[hD];decide)
     have e8:F.getD 8 undef=Value.int .i64 (q:Int):=by(rw[hF];exact(lQ (by decide) (i:=9) rfl (Nat.le_of_ble_eq_true (by kernel_rfl))).trans (gY 9 8 rfl Ac))
     clear Ac;refine ma (.tmp 8) rfl rfl ?_;refine dm.mk (F.getD 8 undef) (fun c hc=>e8.trans (kj hc)) ?_ rfl;exact bC.other _ (by decide)
    ·have g4:=aN ⟨4,.data⟩ (by simp) rfl;have d4:=hv 4 _ (by omega) g4 rfl;have e42:=nz hF 4 42 (by decide) rfl (by kernel_rfl) d4;have e42':=kD e42;have g5:=aN ⟨5,.data⟩ (by simp) rfl;have d5:=hv 5 _ (by omega) g5 rfl;have e43:=nz hF 5 43 (by decide) rfl (by kernel_rfl) d5;have e43':=kD e43;have HC:=ab bC;clear aN hi hv bC gY bQ hF kC rH tV yV xM g4 d4 g5 d5
     go_wp2_with fail
     exact dm.mk _ ri (HC.o.other _ (by decide)) rfl
    ·have g3:=aN ⟨3,.data⟩ (by simp) rfl;have d3:=hv 3 _ (by omega) g3 rfl;have e41:=nz hF 3 41 (by decide) rfl (by kernel_rfl) d3;have e41':=kD e41;have g6:=aN ⟨6,.data⟩ (by simp) rfl;have d6:=hv 6 _ (by omega) g6 rfl;have e44:=nz hF 6 44 (by decide) rfl (by kernel_rfl) d6;have e44':=kD e44;have hW:W=wq:=by(rw[bC,hD];rfl)
     subst hW;clear aN hi hv bC gY bQ hF kC g3 d3 g6 d6;refine r7 rfl rfl e41 e44 rH ?_;exact dm.mk _ ri (mz.hit _) rfl
    ·have g0:=aN ⟨0,.data⟩ (by simp) rfl;have d0:=hv 0 _ (by omega) g0 rfl;have e38:=nz hF 0 38 (by decide) rfl (by kernel_rfl) d0;have e38':=kD e38;have g7:=aN ⟨7,.data⟩ (by simp) rfl;have d7:=hv 7 _ (by omega) g7 rfl;have e45:=nz hF 7 45 (by decide) rfl (by kernel_rfl) d7;have e45':=kD e45;have HC:=ab bC;clear aN hi hv bC gY bQ hF kC rH tV yV xM g0 d0 g7 d7
     go_wp2_with fail
     exact dm.mk _ ri (HC.o.other _ (by decide)) rfl
    ·have g8:=aN ⟨8,.data⟩ (by simp) rfl;have d8:=hv 8 _ (by omega) g8 rfl;have e46:=nz hF 8 46 (by decide) rfl (by kernel_rfl) d8;have e46':=kD e46;have g7:=aN ⟨7,.chain⟩ (by simp) rfl;have d7:=hv 7 _ (by omega) g7 rfl;have e45:=nz hF 7 45 (by decide) rfl (by kernel_rfl) d7;have e45':=kD e45;have HC:=ab bC;clear aN hi hv bC gY bQ hF kC rH tV yV xM g8 d8 g7 d7
     go_wp2_with fail
     exact dm.mk _ ri (HC.o.other _ (by decide)) rfl
   case tail=>
    intro x W' D F aX hv bC hF;have x0:=hv 0 _ (by omega) rfl;have x1:=hv 1 _ (by omega) rfl;have x2:=hv 2 _ (by omega) rfl;have x3:=hv 3 _ (by omega) rfl;have x4:=hv 4 _ (by omega) rfl;have x5:=hv 5 _ (by omega) rfl;have x6:=hv 6 _ (by omega) rfl;have x7:=hv 7 _ (by omega) rfl;have x8:=hv 8 _ (by omega) rfl;have x9:=hv 9 _ (by omega) rfl;have hWq:W'=wq.setRow w'.heap.size (xC n rv (q+m)):=bC.yes (aX 7 (by omega));clear bC;simp only[bS,d9,List.setIfInBounds_toArray,List.set_cons_succ,List.set_cons_zero,Nat.reduceAdd,x0,x1,x2,x3,x4,x5,x6,x7,x8,x9]at hF;subst hF hWq;clear hv aX rH xM x0 x1 x2 x3 x4 x5 x6 x7 x8 x9
    go_wp2_with fail
    go_roundw
    ·exact⟨zm (Nat.le_refl _) yV,q+m,by omega,Oy,by go_num,wJ _ _ _ _ _ tV⟩
    ·simp[intOf];omega
  ·obtain rfl:q=n:=by omega
   go_wp2_with fail
   go_ret
   exact⟨rfl,hrow,ba⟩
end Go.Proofs.YtiocdkdkndpgkaaGreat
namespace Go.Proofs.YtiocdkdkndpgkaaGreat
open Go.RowKit Go Go.Shelf
theorem fe(g:Nat):∀ (vs:List Value) (o:Nat) (w:World),(∀ k,k≠g->(w.setCells g o vs).heap[k]?=w.heap[k]?)/\(w.setCells g o vs).os=w.os/\(w.setCells g o vs).tape=w.tape/\(w.setCells g o vs).output=w.output/\(w.setCells g o vs).heap.size=w.heap.size
 | [],o,w=>⟨fun _ _=>rfl,rfl,rfl,rfl,rfl⟩
 | v :: r,o,w=>by
  obtain⟨h1,h2,h3,h4,h5⟩:=fe g r (o+1) (w.setCell ⟨g,o,none⟩ v);exact⟨fun k hk=>(h1 k hk).trans (Below.heap_setCell w ⟨g,o,none⟩ v k hk),h2,h3,h4,h5.trans (by simp)⟩
theorem mA(g:Nat) (e:TypeId) (fz:Nat × Nat):∀ (vs:List Value) (o:Nat) (w:World) (cur:Array Value),w.heap[g]?=some (.cells cur e fz)->o+vs.length<=cur.size →
  ∃ cur',(w.setCells g o vs).heap[g]?=some (.cells cur' e fz)/\cur'.size=cur.size/\cur'.toList.take (o+vs.length)=cur.toList.take o++vs
 | [],o,w,cur,hg,_=>⟨cur,hg,rfl,by simp⟩
 | v :: r,o,w,cur,hg,hl=>by
  simp only[List.length_cons]at hl;obtain⟨cur',h1,h2,h3⟩:=mA g e fz r (o+1) (w.setCell ⟨g,o,none⟩ v) (cur.setIfInBounds o v) (bn hg o v) (by simp;omega);refine⟨cur',h1,by simpa using h2,?_⟩;rw[show o+(v :: r).length=o+1+r.length by simp;omega,h3,Array.toList_setIfInBounds,List.take_succ_eq_append_getElem (by simp;omega),List.take_set_of_le (by omega),List.getElem_set_self];simp
def aJ(w:World) (base:Nat) (e:TypeId) (size:Nat) (v:Value) (n:Nat) (xs:List Value):Prop:=
 xs.length=n * size/\((v=.slice none 0 0/\n=0)\/∃ g cap cur fz,v=.slice (some ⟨g,0,none⟩) n cap/\base<=g/\w.heap[g]?=some (.cells cur e fz)/\(∀ i,i<cur.size->¬ (fz.1<=i/\i<fz.2))/\n<=cap/\cap<=maxLen/\cur.size=cap * size/\cur.toList.take (n * size)=xs)
theorem aJ.nil(w:World) (base:Nat) (e:TypeId) (size:Nat):aJ w base e size (.slice none 0 0) 0 []:=⟨by simp,.inl ⟨rfl,rfl⟩⟩
theorem aJ.of_owns{w:World} {base:Nat} {e:TypeId} {size:Nat} {v:Value} {n:Nat} {xs:List Value} (h:w.ownsRow base e size v n xs):aJ w base e size v n xs:=by
 refine⟨h.1,?_⟩;rcases h.2 with hn|⟨g,cap,cur,hv,hb,hg,rest⟩
 ·exact .inl hn
 ·exact .inr ⟨g,cap,cur,(0,0),hv,hb,hg,fun i _ h=>by have:=h.2;simp at this,rest⟩
theorem aJ.slice{w:World} {base size:Nat} {e:TypeId} {v:Value} {n:Nat} {xs:List Value} (h:aJ w base e size v n xs):∃ a c,v=.slice a n c:=by
 rcases h.2 with ⟨rfl,rfl⟩|⟨g,cap,cur,fz,rfl,_⟩
 ·exact⟨_,_,rfl⟩
 ·exact⟨_,_,rfl⟩
theorem aJ.ck{w w':World} {base size:Nat} {e:TypeId} {v:Value} {n:Nat} {xs:List Value} (h:aJ w base e size v n xs) (hb:CK w w'):aJ w' base e size v n xs:=by
 obtain⟨hl,h⟩:=h;refine⟨hl,?_⟩;rcases h with h|⟨g,cap,cur,fz,h1,h2,h3,h4⟩
 ·exact .inl h
 ·exact .inr ⟨g,cap,cur,fz,h1,h2,hb _ _ h3 rfl,h4⟩
theorem aJ.up{w w':World} {base size:Nat} {e:TypeId} {v:Value} {n:Nat} {xs:List Value} (h:aJ w base e size v n xs) (hb:Below w.heap.size w w'):aJ w' base e size v n xs:=h.ck (.of_below hb)
theorem aJ.lt{w:World} {base size:Nat} {e:TypeId} {v:Value} {n:Nat} {xs:List Value} (h:aJ w base e size v n xs):∀ k,v.ownBlock=some k->base<=k/\k<w.heap.size:=by
 intro k hk;rcases h.2 with ⟨rfl,_⟩|⟨g,cap,cur,fz,rfl,hb,hg,_⟩
 ·simp[Value.ownBlock]at hk
 ·simp[Value.ownBlock]at hk;subst hk;exact⟨hb,aw hg⟩
theorem aJ.ne{w:World} {base sz:Nat} {e e':TypeId} {v:Value} {n:Nat} {xs:List Value} {B:Nat} {cs:Array Value} {f:Nat × Nat} (h:aJ w base e sz v n xs) (hB:w.heap[B]?=some (.cells cs e' f)) (aV:e≠e'):∀ g,v.ownBlock=some g->g≠B:=by
 intro g hg hgB;rcases h.2 with ⟨rfl,_⟩|⟨g',cap,cur,fz,rfl,_,h3,_⟩
 ·cases hg
 ·have:g'=g:=by simpa[Value.ownBlock] using hg
  rw[this,hgB,hB]at h3;cases h3;exact aV rfl
theorem aJ.put{w:World} {base sz:Nat} {e:TypeId} {v:Value} {n:Nat} {xs:List Value} {B:Nat} (h:aJ w base e sz v n xs) (aV:∀ g,v.ownBlock=some g->g≠B) (o:Nat) (x:Value):aJ (w.setCell ⟨B,o,none⟩ x) base e sz v n xs:=by
 obtain⟨hl,h⟩:=h;refine⟨hl,?_⟩;rcases h with h|⟨g,cap,cur,fz,rfl,h2,h3,h4⟩
 ·exact .inl h
 ·exact .inr ⟨g,cap,cur,fz,rfl,h2,bh h3 (aV g rfl) _ _,h4⟩
theorem aJ.base{w:World} {base base':Nat} {e:TypeId} {sz:Nat} {v:Value} {n:Nat} {xs:List Value} (h:aJ w base e sz v n xs) (hb:base'<=base):aJ w base' e sz v n xs:=by
 obtain⟨hl,h⟩:=h;refine⟨hl,?_⟩;rcases h with h|⟨g,cap,cur,fz,h1,h2,h3⟩
 ·exact .inl h
 ·exact .inr ⟨g,cap,cur,fz,h1,Nat.le_trans hb h2,h3⟩
theorem aJ.cell{w:World} {base size:Nat} {e:TypeId} {v:Value} {n:Nat} {xs:List Value} (h:aJ w base e size v n xs) (j:Nat) (u:Value) (hu:xs[j]?=some u):∃ g c,v=.slice (some ⟨g,0,none⟩) n c/\w.cell? ⟨g,j,none⟩=some u:=by
 rcases h.2 with ⟨rfl,hn⟩|⟨g,cap,cur,fz,rfl,_,hg,_,_,_,_,ht⟩
 ·subst hn;have:xs=[]:=List.eq_nil_of_length_eq_zero (by simpa using h.1);rw[this]at hu;simp at hu
 ·refine⟨g,cap,rfl,?_⟩;rw[ae hg];rw[<-ht,List.getElem?_take]at hu;split at hu
  ·simpa using hu
  ·cases hu
section
variable {P : Program} (w : World)
theorem r8(base:Nat) (t ty e:TypeId) (i:TypeInfo) (z:Value) (size bytes:Nat) (ht:P.underlying t=some (.slice e)) (hi:P.info? e=some i) (hz:i.zero=some z)
  (gr:i.size=size) (fm:i.bytes=bytes) (xE:z.cells.size=size) (bA:0<size)
  (v:Value) (n:Nat) (xs:List Value) (aS:aJ w base e size v n xs)
  (a:Addr) (m c:Nat) (news:List Value) (hl:news.length=m * size) (bM:∀ j u,news[j]?=some u->w.cell? (a.add j)=some u) (h1:∀ u∈news,u.oneCell'=true)
  (DD:n+m<=maxLen) (jU:(n+m) * bytes<=140737488355328) (tS:base<=w.heap.size) :
  ∃ v' w',(Builtin.append_ #[t,t] ty #[v,.slice (some a) m c]).run P w=.ok v' w'/\aJ w' base e size v' (n+m) (xs++news)/\w.grownBy w' v.ownBlock/\(v'.ownBlock=v.ownBlock\/v'.ownBlock=some w.heap.size):=by
 rcases aS.2 with ⟨rfl,rfl⟩|⟨g,cap,cur,fz,rfl,DJ,hg,Aj,Lj,DM,xK,H8⟩
 ·have hx:xs=[]:=List.eq_nil_of_length_eq_zero (by simpa using aS.1);subst hx;by_cases hm:m=0
  ·obtain⟨v',w',q1,q2,q3,q4⟩:=run_append_own (P:=P) w base t ty e i z size bytes ht hi hz gr fm xE bA (.slice none 0 0) 0 [] (World.ownsRow_nil w base e size) a m c news hl bM h1 DD jU tS;have:=q4.2 ⟨rfl,hm⟩;exact⟨v',w',q1,.of_owns q2,q3,.inl (by rw[this])⟩
  ·obtain⟨v',w',q1,q2,q3,q4⟩:=run_append_own (P:=P) w w.heap.size t ty e i z size bytes ht hi hz gr fm xE bA (.slice none 0 0) 0 [] (World.ownsRow_nil w _ e size) a m c news hl bM h1 DD jU (Nat.le_refl _);subst gr fm;have hr:=run_append_nil (P:=P) w t ty e i z ht hi hz a m c news hl bM (by omega) (by simp only[maxLen]at DD;omega) (by have hb:=jU;simp only[Nat.zero_add]at hb;omega);have e1:=hr.symm.trans q1;injection e1 with e1 e2
   subst e1 e2;exact⟨_,_,hr,(aJ.of_owns q2).base tS,q3,.inr rfl⟩
 ·subst gr;have bi:(xs++news).length=(n+m) * i.size:=by rw[List.length_append,aS.1,hl,Nat.add_mul]
  by_cases ng:n+m<=cap
  ·have iB:n * i.size+news.length<=cur.size:=by rw[hl,xK,<-Nat.add_mul];exact Nat.mul_le_mul_right _ ng
   have hr:=run_append_room_cells (P:=P) w t ty e i ht hi g 0 n cap a m c news hl bM h1 ng (fun j hj=>by rw[Nat.zero_add,ae hg];simp;omega)
    (fun j hj=>by
     simp only[World.frozen?,hg,Nat.zero_add];have:=Aj (n * i.size+j) (by omega)
     simpa using this)
   rw[Nat.zero_add]at hr;obtain⟨cur',g1,g2,g3⟩:=mA g e fz news (n * i.size) w cur hg iB;obtain⟨o1,o2,o3,o4,o5⟩:=fe g news (n * i.size) w;refine⟨_,_,hr,⟨bi,.inr ⟨g,cap,cur',fz,rfl,DJ,g1,fun k hk=>Aj k (by omega),ng,DM,by omega,?_⟩⟩,⟨o2,o3,o4,by omega,fun k _ hk=>o1 k (fun e=>hk (by rw[e];rfl))⟩,.inl rfl⟩;rw[Nat.add_mul,<-hl,g3,H8]
  ·subst fm
   have holds:∀ j u,xs[j]?=some u->w.cell? ((⟨g,0,none⟩:Addr).add j)=some u:=fun j u hu=>by
    obtain⟨g',c',e1,hc⟩:=aS.cell j u hu;have:g'=g:=by simp at e1;exact e1.1.symm
    subst this;rw[<-hc];congr 1;unfold Addr.add;split<;>simp_all
   have hr:=run_append_grow (P:=P) w t ty e i z ht hi hz ⟨g,0,none⟩ n cap xs aS.1 holds a m c news hl bM (by omega) (by simp only[maxLen]at DD;omega) (growslice_fits (by omega) jU);obtain⟨v',w',q1,q2,q3⟩:=run_append_arg_grows (P:=P) w t ty e i z i.size i.bytes ht hi hz rfl rfl xE bA ⟨g,0,none⟩ n cap xs aS.1 holds a m c news hl bM (by omega) DD jU;have e1:=hr.symm.trans q1;injection e1 with e1 e2
   subst e1 e2;exact⟨_,_,hr,(aJ.of_owns q2).base tS,⟨q3.os,q3.tape,q3.output,q3.size,fun k hk _=>q3.block k hk (by simp)⟩,.inr rfl⟩
theorem eh{ops:Array Oper} {rest:List Oper} {o:Oper} {a:Act} {Q:Exit->Act->World->Prop} (Lx:o.guard=none) (s x:Operand) (t:TypeId)
  (ho:o.op=.call { callee:=.builtin .append,args:=#[s,x],argTypes:=#[t,t] })
  (base:Nat) (e:TypeId) (i:TypeInfo) (z:Value) (size bytes:Nat) (ht:P.underlying t=some (.slice e)) (hi:P.info? e=some i) (hz:i.zero=some z)
  (gr:i.size=size) (fm:i.bytes=bytes) (xE:z.cells.size=size) (bA:0<size)
  (v:Value) (n:Nat) (xs:List Value) (hs:a.eval s=v) (aS:aJ w base e size v n xs)
  (ad:Addr) (m c:Nat) (news:List Value) (hx:a.eval x=.slice (some ad) m c) (hl:news.length=m * size) (bM:∀ j u,news[j]?=some u->w.cell? (ad.add j)=some u) (h1:∀ u∈news,u.oneCell'=true)
  (DD:n+m<=maxLen) (jU:(n+m) * bytes<=140737488355328) (tS:base<=w.heap.size)
  (h:∀ v' w',aJ w' base e size v' (n+m) (xs++news)->w.grownBy w' v.ownBlock->(v'.ownBlock=v.ownBlock\/v'.ownBlock=some w.heap.size)->wpList P ops Q rest (a.put o.dst v') w'):wpList P ops Q (o :: rest) a w:=by
 refine wpList_plain Lx fun _ hK=>?_
 obtain⟨v',w',hr,h2,h3,h4⟩:=r8 (P:=P) w base t o.type e i z size bytes ht hi hz gr fm xE bA v n xs aS ad m c news hl bM h1 DD jU tS;unfold Oper.wp execOp;simp only[ho,resolve,invoke,builtin,Sem.run_bind,Sem.run_pure,Result.andThen_ok,List.map_toArray,List.map_cons,List.map_nil,hs,hx,hr];exact hK _ _ (h v' w' h2 h3 h4)
end
theorem aJ.apart{w w':World} {base base' k k':Nat} {e e':TypeId} {u v:Value} {n m:Nat} {xs ys:List Value} (h:aJ w base e k u n xs) (hv:aJ w base' e' k' v m ys) (aV:e≠e') (hg:w.grownBy w' v.ownBlock):aJ w' base e k u n xs:=by
 obtain⟨hl,h⟩:=h;refine⟨hl,?_⟩;rcases h with h|⟨g,cap,cur,fz,h1,h2,h3,h4⟩
 ·exact .inl h
 ·refine .inr ⟨g,cap,cur,fz,h1,h2,(hg.block g (aw h3) (fun e1=>?_)).trans h3,h4⟩;exact hv.ne h3 (Ne.symm aV) g e1.symm rfl
def kN{α:Type} (to ti:TypeId) (k:Nat) (flat:List α->List Value) (w:World) (base:Nat) (v:Value) (l:List (List α)):Prop:=
 ∃ xs:List Value,aJ w base to 1 v l.length xs/\∀ i (hi:i<l.length),∃ x,xs[i]?=some x/\aJ w base ti k x l[i].length (flat l[i])
section
variable {α : Type} {to ti : TypeId} {k : Nat} {flat : List α → List Value} {w w' : World} {base : Nat} {v : Value} {l : List (List α)}
theorem kN.nil(w:World) (base:Nat):kN to ti k flat w base (.slice none 0 0) []:=⟨[],aJ.nil _ _ _ _,fun i hi=>by simp at hi⟩
theorem kN.sl{R:World->Nat->Nat->α->Prop} (h:kN to ti k flat w base v l) (hr:∀ (x:Value) (a:List α),a∈l->aJ w base ti k x a.length (flat a)->fu k R w x a) (hn:l.length<=17592186044416):fu 1 (o8 k R) w v l:=by
 obtain⟨xs,h1,h2⟩:=h;rcases h1.2 with ⟨rfl,h0⟩|⟨g,cap,cur,fz,rfl,_,hg,_,Lj,DM,_,ht⟩
 ·have:l=[]:=List.eq_nil_of_length_eq_zero h0;subst this;exact⟨none,0,rfl,⟨by simp,by omega,fun _=>rfl⟩,by simp,fun i x hx=>by simp at hx⟩
 ·refine⟨some ⟨g,0,none⟩,cap,rfl,⟨Lj,by unfold maxLen at DM;omega,fun e=>by cases e⟩,hn,fun i a ha=>⟨g,0,rfl,?_⟩⟩;obtain⟨hi,rfl⟩:=List.getElem?_eq_some_iff.1 ha;obtain⟨x,q1,q2⟩:=h2 i hi;refine⟨x,?_,hr x _ (List.getElem_mem hi) q2⟩;rw[Nat.zero_add,Nat.mul_one,ae hg];rw[<-ht,List.getElem?_take]at q1;split at q1
  ·simpa using q1
  ·cases q1
end
theorem IQ(a:Adv) (ps:Option Addr) (cs:Nat) (v:Value) (l:List Mv) (w:World) (hv:EL w v l) :
  Calls Tryz.prog 182 #[.agg #[.int .i64 a.n,.slice ps a.states.length cs],v] w fun e w'=>e=.returned (.int .i64 (stateE a l))/\Below w.heap.size w w':=by
 obtain⟨pa,ca,rfl,l1,m1,e1⟩:=hv.at;clear hv;have E:=ab e1;clear e1;by_cases hz:l.length=0
 ·have dc:((l.length:Int) == 0)=true:=beq_iff_eq.2 (by omega);have HV:bc (stateE a l=19):=by(have h:stateE a l=19:=by(unfold stateE;rw[if_pos hz]));exact h
  clear hz
  go_enter Tryz.func182,Tryz.ntmps182
  go_wp2_with fail
  go_ret
  exact⟨aE HV.o.symm,by go_grown⟩
 have dc:((l.length:Int) == 0)=false:=beq_eq_false_iff_ne.2 (by omega);have HV:bc (stateE a l=ay l.length (cr a l)):=by(have h:stateE a l=ay l.length (cr a l):=by(unfold stateE;rw[if_neg hz]));exact h
 clear hz
 go_enter Tryz.func182,Tryz.ntmps182
 go_wp2_with fail
 refine eE (fun W=>Below w.heap.size w W/\W.heap[w.heap.size]?=some (.cells #[.int .i64 a.n,.slice ps a.states.length cs] 27))
  ⟨by go_grown,aA _ _⟩ (fun W0 dF=>?_)
 obtain⟨bw,hT⟩:=dF;have HT:=ab hT;clear hT dc
 go_loopw [13] (fun i wr=>Below W0.heap.size W0 wr/\∃ k:Nat,k<=l.length/\i=.int .i64 k/\∀ j,j<k->cr a l j=0) (fun i _=>l.length - (intOf i).toNat)
 ·exact⟨Below.refl _ _,0,by omega,rfl,by simp⟩
 ·
  obtain⟨ba,k,hk,rfl,bB⟩:=hrel;have H:=ab bB;clear bB;have df:=ak bw ba;by_cases aG:k<l.length
  ·obtain⟨b1,o1,rfl,⟨⟨c0,_⟩,⟨c1,_⟩,⟨c2,_⟩,⟨c3,_⟩,⟨c4,_⟩,⟨c5,_⟩,⟨c6,_⟩⟩,c7,_⟩:=E.o k aG;have d0:=aC df c0;have d1:=aC df c1;have d2:=aC df c2;have d3:=aC df c3;have d4:=aC df c4;have d5:=aC df c5;have d6:=aC df c6;have d7:=aC df c7;clear c0 c1 c2 c3 c4 c5 c6 c7
   have HO:bc (cr a l k=if roundE l[k].r≠0 then roundE l[k].r else if l[k].r.g.n≠a.n then 22 else if 0<k/\0<=roundC (l.getD (k - 1) default).r l[k].r then 14 else if l[k].to<0\/(a.states.length:Int)<=l[k].to then 2 else 0):=by
    have h:cr a l k=if roundE l[k].r≠0 then roundE l[k].r else if l[k].r.g.n≠a.n then 22 else if 0<k/\0<=roundC (l.getD (k - 1) default).r l[k].r then 14 else if l[k].to<0\/(a.states.length:Int)<=l[k].to then 2 else 0:=by unfold cr;rw[aj default aG]
    exact h
   generalize l[k]=m at d0 d1 d2 d3 d4 d5 d6 d7 HO
   go_wp2_with fail
   refine dB (fun W=>Below wr.heap.size wr W/\W.heap[wr.heap.size]?=some (.cells #[.int .i64 m.r.g.n,.int .i64 m.r.g.h0,.int .i64 m.r.g.h1,.int .i64 m.r.g.h2,.int .i64 m.r.g.h3,.int .i64 m.r.g.h4,.int .i64 m.r.f,.int .i64 m.to] 188)) ⟨by go_grown,aA _ _⟩ (fun V hV=>?_);obtain⟨nZ,hC⟩:=hV;have HC:=ab hC;clear hC;have N6:=ak df nZ;refine(yn m.r _).mono ?_;rintro e w1 ⟨rfl,aK⟩;clear d0 d1 d2 d3 d4 d5 d6 d7;have lr:=ak N6 aK;have s9:=ak ba (ak nZ aK);have s1:=ae (aq s9 HT.o);have s2:=ae (aq aK HC.o);generalize roundE m.r=er at HO;by_cases OI:er=0
   case neg=>
    have her':(er != 0)=true:=by simpa using OI
    go_wp2_with fail
    go_ret
    exact⟨aE (by rw[HV.o,<-bR k er aG H.o (by rw[HO.o,if_pos OI]) OI]),lr⟩
   subst OI;by_cases ij:m.r.g.n=a.n
   case neg=>
    have hmn':(m.r.g.n != a.n)=true:=by simpa using ij
    go_wp2_with fail
    go_ret
    exact⟨aE (by rw[HV.o,<-bR k 22 aG H.o (by rw[HO.o,if_neg (by simp),if_pos ij]) (by decide)]),lr⟩
   have hmn':(m.r.g.n != a.n)=false:=by simpa using ij
   have xA:bc (cr a l k=if 0<k/\0<=roundC (l.getD (k - 1) default).r m.r then 14 else if m.to<0\/(a.states.length:Int)<=m.to then 2 else 0):=by
    have h:cr a l k=if 0<k/\0<=roundC (l.getD (k - 1) default).r m.r then 14 else if m.to<0\/(a.states.length:Int)<=m.to then 2 else 0:=by rw[HO.o,if_neg (by simp),if_neg (by simpa using ij)]
    exact h
   clear HO ij
   go_wp2_with fail
   clear hmn';by_cases k7:k=0
   ·have od:bc (cr a l k=if m.to<0\/(a.states.length:Int)<=m.to then 2 else 0):=by(have h:cr a l k=if m.to<0\/(a.states.length:Int)<=m.to then 2 else 0:=by(rw[xA.o,if_neg (by omega)]));exact h
    have hd:decide ((0:Int)<(k:Int))=false:=by simp;omega
    have s8:decide (0<k)=false:=by simp;omega
    clear xA k7 s1 s2;refine bI (by kernel_rfl) (by kernel_rfl) ?_
    repeat (go_big_quiet_step (fail))
    refine wpQuiet_nil ?_;intro _ jT;obtain⟨xq,gW⟩:=jT;subst gW;clear hd s8;have r1:=ae (aq (ak s9 xq.ext) HT.o);have r2:=ae (aq (ak aK xq.ext) HC.o);have oR:=ak lr xq.ext
    go_wp2_with fail
    all_goals first
     | (go_ret
        refine⟨aE ?_,oR⟩
        rw[HV.o]
        go_light
        refine bR k _ aG H.o ?_ (by decide)
        rw[od.o]
        grind)
     | (go_roundw
        ·
         refine⟨ak (ak s9 xq.ext) (Below.refl _ _),k+1,by omega,by go_num,bG H.o ?_⟩
         go_light
         rw[od.o]
         grind
        ·simp[intOf];omega)
   ·obtain⟨j,hj⟩:∃ j,k=j+1:=⟨k - 1,by omega⟩;have tn:j<l.length:=by omega
    have HJ:=ab hj;obtain⟨b2,o2,e2,⟨⟨c0,_⟩,⟨c1,_⟩,⟨c2,_⟩,⟨c3,_⟩,⟨c4,_⟩,⟨c5,_⟩,⟨c6,_⟩⟩,_⟩:=E.o j tn;obtain⟨rfl,rfl⟩:b1=b2/\o1=o2:=by simpa using e2
    clear e2;have hd:decide ((0:Int)<(k:Int))=true:=by simp;omega
    have s8:0<k:=by omega
    have od:bc (cr a l k=if 0<=roundC l[j].r m.r then 14 else if m.to<0\/(a.states.length:Int)<=m.to then 2 else 0):=by
     have h:cr a l k=if 0<=roundC l[j].r m.r then 14 else if m.to<0\/(a.states.length:Int)<=m.to then 2 else 0:=by
      rw[xA.o];have e:k - 1=j:=by omega
      rw[e,aj default tn]
      grind
     exact h
    clear xA k7 hj s1 s2;have DC:IntKind.i64.wrap ((k:Int) - 1)=(j:Int):=by rw[HJ.o];rw[IntWalk.i64_in _ (by omega)];omega
    generalize l[j]=m2 at c0 c1 c2 c3 c4 c5 c6 od;have q1:∀ x:ExtW w1,∀ o,x.val.cell? ⟨w.heap.size,o,none⟩=_:=fun x=>ae (aq (ak s9 x.ext) HT.o)
    have q2:∀ x:ExtW w1,∀ o,x.val.cell? ⟨wr.heap.size,o,none⟩=_:=fun x=>ae (aq (ak aK x.ext) HC.o)
    have k0:∀ x:ExtW w1,x.val.cell? _=_:=fun x=>x.cell (aC lr c0)
    have k1:∀ x:ExtW w1,x.val.cell? _=_:=fun x=>x.cell (aC lr c1)
    have k2:∀ x:ExtW w1,x.val.cell? _=_:=fun x=>x.cell (aC lr c2)
    have k3:∀ x:ExtW w1,x.val.cell? _=_:=fun x=>x.cell (aC lr c3)
    have k4:∀ x:ExtW w1,x.val.cell? _=_:=fun x=>x.cell (aC lr c4)
    have k5:∀ x:ExtW w1,x.val.cell? _=_:=fun x=>x.cell (aC lr c5)
    have k6:∀ x:ExtW w1,x.val.cell? _=_:=fun x=>x.cell (aC lr c6)
    clear c0 c1 c2 c3 c4 c5 c6;refine bI (by kernel_rfl) (by kernel_rfl) ?_
    repeat (go_big_quiet_step ((go_at_call 188;exact Calls.ext_of (vr m2.r m.r _))))
    refine wpQuiet_nil ?_;intro _ jT;obtain⟨xq,gW⟩:=jT;subst gW;have r1:=q1 xq;have r2:=q2 xq;clear q1 q2 k0 k1 k2 k3 k4 k5 k6 hd s8 DC;have oR:=ak lr xq.ext;generalize roundC m2.r m.r=oo at od
    go_wp2_with fail
    all_goals first
     | (go_ret
        refine⟨aE ?_,oR⟩
        rw[HV.o]
        go_light
        refine bR k _ aG H.o ?_ (by decide)
        rw[od.o]
        grind)
     | (go_roundw
        ·
         refine⟨ak (ak s9 xq.ext) (Below.refl _ _),k+1,by omega,by go_num,bG H.o ?_⟩
         go_light
         rw[od.o]
         grind
        ·simp[intOf];omega)
  ·go_wp2_with fail
   go_ret
   exact⟨aE (by rw[HV.o,cj];intro j hj;exact H.o j (by omega)),df⟩
abbrev dp(b:UInt8):Value:=.int .u8 (b.toNat:Int)
theorem Tryz.infoByte:(Tryz.prog.info? 5).map (fun i=>(i.zero,i.size,i.bytes))=some (some (.int .u8 0),1,1):=by kernel_rfl
theorem PX(y:Nat) (hy:y<9223372036854775808):bits .and .i64 (y:Int) 127=((y % 128:Nat):Int):=by
 have:=D0 y 127 hy (by omega);rw[show ((127:Nat):Int)=127 by rfl]at this;rw[this,show (127:Nat)=2 ^ 7 - 1 by rfl,Nat.and_two_pow_sub_one_eq_mod]
theorem RH(y:Nat) (hy:y<128):bits .or .i64 (y:Int) 128=((y+128:Nat):Int):=by
 have key:∀ a:Fin 128,bits .or .i64 ((a.val:Nat):Int) 128=((a.val+128:Nat):Int):=by decide +kernel
 exact key ⟨y,hy⟩
theorem r9(y:Nat) (hy:y<256):IntKind.u8.wrap (y:Int)=(y:Int):=by
 have key:∀ a:Fin 256,IntKind.u8.wrap ((a.val:Nat):Int)=((a.val:Nat):Int):=by decide +kernel
 exact key ⟨y,hy⟩
theorem fZ(y:Nat) (hy:y<256):dp (UInt8.ofNat y)=.int .u8 (y:Int):=by
 simp[Nat.mod_eq_of_lt hy]
theorem BA(y:Nat) (h:127<y):iV y=UInt8.ofNat (y % 128+128) :: iV (y / 128):=by rw[iV,if_neg (by omega)]
theorem qs(y:Nat) (h:y<=127):iV y=[UInt8.ofNat y]:=by rw[iV,if_pos h]
theorem vx(y:Nat) (h:y<18446744073709551616):(iV y).length<=64:=by
 have key:∀ d,∀ y,y<128 ^ (d+1)->(iV y).length<=d+1:=by
  intro d;induction d with
  | zero=>intro y hy;rw[qs y (by omega)];simp
  | succ d ih=>
   intro y hy;by_cases hs:y<=127
   ·rw[qs y hs];simp
   ·rw[BA y (by omega)];have:=ih (y / 128) (by rw[Nat.pow_succ]at hy;omega);simp;omega
 exact Nat.le_trans (key 9 y (by omega)) (by omega)
theorem Gj(b:ByteArray) (hb:b.size<=17592186044416) (w:World) :
  Calls Tryz.prog 225 #[.string b] w fun e w'=>∃ B u,e=.returned (.tuple #[.func (.func 267) #[] #[.pointer (some ⟨B,0,none⟩)],.func (.func 268) #[] #[.pointer (some ⟨B,0,none⟩)]])/\w'.heap[B]?=some (.cells #[u] 324)/\aJ w' w.heap.size 5 1 u b.size (b.data.toList.map dp)/\w.heap.size<=B/\Below w.heap.size w w':=by
 obtain⟨cap,W1,hc,aK,h1,h2,h3⟩:=wI b (by omega) w
 have aS:aJ W1 w.heap.size 5 1 (.slice (some ⟨w.heap.size,0,none⟩) b.size cap) b.size (b.data.toList.map dp):=by
  have fT:b.data.size=b.size:=rfl;have xK:(bytesRow b cap).size=cap:=by simp[bytesRow];omega
  refine⟨by simp,.inr ⟨w.heap.size,cap,_,_,rfl,Nat.le_refl _,h3,fun i hi h=>?_,h1,h2,by rw[xK];omega,?_⟩⟩
  ·have:=h.1;omega
  ·rw[Nat.mul_one];unfold bytesRow;rw[Array.toList_append,List.take_append_of_le_length (by simp),List.take_of_length_le (by simp)];simp
 have fw:=ab aS;have hz:=aK.size;have hzz:=aw h3;clear h1 h2 h3 aS
 go_enter Tryz.func225,Tryz.ntmps225
 go_wp2
 go_ret2
 exact⟨_,_,rfl,aA _ _,fw.o.up (by go_grown),by omega,ak aK (by go_grown)⟩
theorem D3(B:Nat) (u:Value) (w:World) (hu:∃ a n c,u=.slice a n c) (hB:w.heap[B]?=some (.cells #[u] 324)) :
  Calls Tryz.prog 268 #[.pointer (some ⟨B,0,none⟩)] w fun e w'=>e=.returned u/\w=w':=by
 obtain⟨a,n,c,rfl⟩:=hu;have c1:=ae hB 0;simp at c1;clear hB
 go_enter Tryz.func268,Tryz.ntmps268
 go_wp2
 go_ret
 exact⟨rfl,rfl⟩
theorem D4(sym:Nat) (NP:sym<1099511627776) (Bl B base:Nat) (u:Value) (bs:List UInt8) (fT:bs.length<=1048576) (W:World) (hL:W.heap[Bl]?=some (.cells #[.int .i64 (sym:Int)] 3)) (hB:W.heap[B]?=some (.cells #[u] 324)) (hu:aJ W base 5 1 u bs.length (bs.map dp)) (hbB:base<=B) (_hbW:base<=W.heap.size) :
  Calls Tryz.prog 267 #[.int .i64 0,.slice (some ⟨Bl,0,none⟩) 1 1,.pointer (some ⟨B,0,none⟩)] W fun e W'=>(∃ x,e=.returned x)/\∃ u',W'.heap[B]?=some (.cells #[u'] 324)/\aJ W' base 5 1 u' (bs++iV sym).length ((bs++iV sym).map dp)/\Below base W W':=by
 obtain⟨i0,rF,dE,dc,dN⟩:=info_parts Tryz.infoByte;have HL0:=ab hL;have Lh:=ab hB;have HU0:=ab hu;have Ov:(iV sym).length<=64:=vx sym (by omega);have FQ:Bl<W.heap.size:=aw hL;have t0:=ae hL 0;simp at t0;clear hL hB hu
 go_enter Tryz.func267,Tryz.ntmps267
 go_wp2_with fail
 clear t0
 go_loopw [9] (fun i wr=>Below base W wr/\wr.heap[Bl]?=some (.cells #[.int .i64 (sym:Int)] 3)/\∃ (u':Value) (l:List UInt8),((i=.int .i64 0/\l=bs)\/(i=.int .i64 1/\l=bs++iV sym))/\wr.heap[B]?=some (.cells #[u'] 324)/\aJ wr base 5 1 u' l.length (l.map dp)) (fun i _=>1 - (intOf i).toNat)
 case atStart=>exact⟨Below.refl _ _,HL0.o,u,bs,.inl ⟨rfl,rfl⟩,Lh.o,HU0.o⟩
 case round=>
  clear Lh HU0 HL0;obtain⟨ba,gh,u',l,gU,hv,aS⟩:=hrel;have t0:=ae gh 0;simp at t0;rcases gU with ⟨rfl,rfl⟩|⟨rfl,rfl⟩
  ·have uX:=ab (And.intro ba (And.intro gh (And.intro hv aS)));clear ba gh hv aS
   go_wp2_with fail
   clear t0;obtain⟨V0,hV0⟩:∃ V0:World,V0=wr:=⟨_,rfl⟩;rw[<-hV0]at uX ⊢;clear hV0 wr
   go_loopw [6] (fun i wr=>Below base W wr/\wr.heap[Bl]?=some (.cells #[.int .i64 (sym:Int)] 3)/\∃ (y:Nat) (u':Value) (l':List UInt8),i=.int .i64 y/\y<=sym/\l'++iV y=l++iV sym/\wr.heap[B]?=some (.cells #[u'] 324)/\aJ wr base 5 1 u' l'.length (l'.map dp)) (fun i _=>(intOf i).toNat)
   case atStart=>exact⟨uX.o.1,uX.o.2.1,sym,u',l,rfl,Nat.le_refl _,rfl,uX.o.2.2.1,uX.o.2.2.2⟩
   case round=>
    clear uX V0;obtain⟨ba,gh,y,u',l',rfl,hy,yT,hv,aS⟩:=hrel;have Dp:l'.length<=1048640:=by have:=congrArg List.length yT;simp at this;omega
    by_cases hbig:127<y
    ·have hand:=PX y (by omega);have xF:=BA y hbig;have NL:y % 128<128:=by omega
     generalize y % 128=r0 at hand xF NL;have hor:=RH r0 NL;obtain⟨z,hz⟩:∃ z,z=r0+128:=⟨_,rfl⟩;rw[<-hz]at hor xF;have Af:z<256:=by omega
     have hu8:=r9 z Af;clear hz NL;obtain⟨bb,be⟩:∃ bb:UInt8,bb=UInt8.ofNat z:=⟨_,rfl⟩;have hbv:Value.int .u8 ((z:Nat):Int)=dp bb:=by rw[be,fZ _ (by omega)]
     have hA:Below wr.heap.size wr (wr.alloc (.cells #[dp bb] 5)):=by go_grown
     have fw:=ab (aS.up hA)
     have bM:∀ j u',[dp bb][j]?=some u'->(wr.alloc (.cells #[dp bb] 5)).cell? (Addr.add ⟨wr.heap.size,0,none⟩ j)=some u':=fun j u' hj=>by
      have e1:(Addr.add ⟨wr.heap.size,0,none⟩ j)=⟨wr.heap.size,j,none⟩:=by unfold Addr.add;split<;>simp_all
      rw[e1,ae (aA wr _)];simpa using hj
     have fV:=ab bM;have HV:=ab hv;have xL:=ab gh;have Rc:=ab ba;have Rt:=ab be;have c1:=ae hv 0;have f1:=bf hv 0;simp at c1;have Aa:=aw hv;have hsL:=aw gh;obtain⟨av,cv,rfl⟩:=aS.slice;have aV:∀ g,(Value.slice av l'.length cv).ownBlock=some g->g≠B:=aS.ne hv (by decide);have sS:∀ g,(Value.slice av l'.length cv).ownBlock=some g->g≠Bl:=aS.ne gh (by decide);have QJ:=ab aV;have NK:=ab sS;have bA:=ba.size;have Ny:=ab yT;clear aV sS aS bM hv gh be hA yT;have Ai:=ab xF;clear xF
     go_wp2_with (at_builtin;(refine eh _ rfl (.tmp 20) (.tmp 25) 324 rfl base 5 i0 _ 1 1 Tryz.underlying324 rF dE dc dN rfl (by decide) _ l'.length _ rfl fw.o ⟨wr.heap.size,0,none⟩ 1 1 [dp bb] rfl rfl fV.o (by simp[Value.oneCell']) (by unfold maxLen;omega) (by omega) (by simp;omega) ?_;intro v' w3 gq gz NU;obtain⟨av',cv',rfl⟩:=gq.slice;have nY:=(gz.block _ (aw (aH _ HV.o)) (fun e=>QJ.o _ e.symm rfl)).trans (aH _ HV.o);have c3:=ae nY 0;have f3:=bf nY 0;simp at c3))
     have eK:Below base W w3:=Below.grown (Rc.o.alloc (by omega) _) gz (by simp;omega) (fun g hg=>(fw.o.lt g hg).1);have RC:=(gz.block _ (aw (aH _ xL.o)) (fun e=>NK.o _ e.symm rfl)).trans (aH _ xL.o);have Il:=gq.put (gq.ne nY (by decide)) 0 (.slice av' (l'.length+1) cv');have H5:(l'++[bb]).length=l'.length+1:=by simp
     have Nz:Bl≠B:=fun e=>by have h1:=HV.o;have h2:=xL.o;rw[e,h1]at h2;cases h2
     go_roundw
     ·exact⟨eK.setCell (p:=⟨B,0,none⟩) (by dsimp only;omega) _,bh RC Nz _ _,y / 128,_,l'++[bb],by go_num,by omega,by rw[<-Ny.o,Ai.o,Rt.o];simp,by rw[bn nY];rfl,by rw[H5,List.map_append];exact Il⟩
     ·simp[intOf];omega
    ·have hu8:=r9 y (by omega);have xF:=qs y (by omega);rw[xF]at yT;obtain⟨bb,be⟩:∃ bb:UInt8,bb=UInt8.ofNat y:=⟨_,rfl⟩;have hbv:Value.int .u8 ((y:Nat):Int)=dp bb:=by rw[be,fZ _ (by omega)]
     have hA:Below wr.heap.size wr (wr.alloc (.cells #[dp bb] 5)):=by go_grown
     have fw:=ab (aS.up hA)
     have bM:∀ j u',[dp bb][j]?=some u'->(wr.alloc (.cells #[dp bb] 5)).cell? (Addr.add ⟨wr.heap.size,0,none⟩ j)=some u':=fun j u' hj=>by
      have e1:(Addr.add ⟨wr.heap.size,0,none⟩ j)=⟨wr.heap.size,j,none⟩:=by unfold Addr.add;split<;>simp_all
      rw[e1,ae (aA wr _)];simpa using hj
     have fV:=ab bM;have HV:=ab hv;have xL:=ab gh;have Rc:=ab ba;have Rt:=ab be;have c1:=ae hv 0;have f1:=bf hv 0;simp at c1;have Aa:=aw hv;have hsL:=aw gh;obtain⟨av,cv,rfl⟩:=aS.slice;have aV:∀ g,(Value.slice av l'.length cv).ownBlock=some g->g≠B:=aS.ne hv (by decide);have sS:∀ g,(Value.slice av l'.length cv).ownBlock=some g->g≠Bl:=aS.ne gh (by decide);have QJ:=ab aV;have NK:=ab sS;have bA:=ba.size;have Ny:=ab yT;clear aV sS aS bM hv gh be hA yT;clear xF
     go_wp2_with (at_builtin;(refine eh _ rfl (.tmp 27) (.tmp 30) 324 rfl base 5 i0 _ 1 1 Tryz.underlying324 rF dE dc dN rfl (by decide) _ l'.length _ rfl fw.o ⟨wr.heap.size,0,none⟩ 1 1 [dp bb] rfl rfl fV.o (by simp[Value.oneCell']) (by unfold maxLen;omega) (by omega) (by simp;omega) ?_;intro v' w3 gq gz NU;obtain⟨av',cv',rfl⟩:=gq.slice;have nY:=(gz.block _ (aw (aH _ HV.o)) (fun e=>QJ.o _ e.symm rfl)).trans (aH _ HV.o);have c3:=ae nY 0;have f3:=bf nY 0;simp at c3))
     have eK:Below base W w3:=Below.grown (Rc.o.alloc (by omega) _) gz (by simp;omega) (fun g hg=>(fw.o.lt g hg).1);have RC:=(gz.block _ (aw (aH _ xL.o)) (fun e=>NK.o _ e.symm rfl)).trans (aH _ xL.o);have Il:=gq.put (gq.ne nY (by decide)) 0 (.slice av' (l'.length+1) cv');have H5:(l'++[bb]).length=l'.length+1:=by simp
     have Nz:Bl≠B:=fun e=>by have h1:=HV.o;have h2:=xL.o;rw[e,h1]at h2;cases h2
     go_roundw
     ·exact⟨eK.setCell (p:=⟨B,0,none⟩) (by dsimp only;omega) _,bh RC Nz _ _,_,l'++[bb],.inr ⟨by go_num,by rw[<-Ny.o,Rt.o]⟩,by rw[bn nY];rfl,by rw[H5,List.map_append];exact Il⟩
     ·simp[intOf]
  ·have uX:=ab (And.intro ba (And.intro hv aS));clear ba gh hv aS t0
   go_wp2_with fail
   go_end0
   exact⟨⟨_,rfl⟩,_,uX.o.2.1,uX.o.2.2,uX.o.1⟩
theorem aJ.keepT{w w':World} {base sz:Nat} {e:TypeId} {v:Value} {n:Nat} {xs:List Value} (h:aJ w base e sz v n xs) (hk:∀ g o,v.ownBlock=some g->w.heap[g]?=some o->w'.heap[g]?=some o):aJ w' base e sz v n xs:=by
 obtain⟨hl,h⟩:=h;refine⟨hl,?_⟩;rcases h with h|⟨g,cap,cur,fz,rfl,h2,h3,h4⟩
 ·exact .inl h
 ·exact .inr ⟨g,cap,cur,fz,rfl,h2,hk g _ rfl h3,h4⟩
end Go.Proofs.YtiocdkdkndpgkaaGreat
namespace Go.Proofs.YtiocdkdkndpgkaaGreat
open Go.RowKit Go Go.Shelf
attribute [local go_sem] Oper.semAt_some
theorem eM(w:World) (a b:Obj):((w.alloc a).alloc b).heap[w.heap.size+1]?=some b:=by simpa using aA (w.alloc a) b
theorem qt(w:World) (a b c:Obj):(((w.alloc a).alloc b).alloc c).heap[w.heap.size+1+1]?=some c:=by simpa using aA ((w.alloc a).alloc b) c
theorem fA(tmps:Array Value) (B:Nat) (W:World) (x:Int) (ty:TypeId) (ht:tmps[2]?.getD undef=.pointer (some ⟨B,0,none⟩)) (hb:W.heap[B]?=some (.cells #[.int .i64 x] ty)) :
  (results Tryz.f103 tmps).run Tryz.prog W=.ok (.int .i64 x) W:=by
 have c:=ae hb 0;simp at c;simp[results,Tryz.results103,go_sem,ht,c]
theorem BB(a:Adv) (v:Value) (w:World) (hv:cO w v a.states) (hN:az a.states<1099511627776) :
  Calls Tryz.prog 103 #[.agg #[.int .i64 a.n,v]] w fun e w'=>e=.returned (.int .i64 (advE a))/\Below w.heap.size w w':=by
 have G:=ab hv;obtain⟨pa,ca,rfl,la1,la2,ea⟩:=hv.at;clear hv;have E:=ab ea;clear ea;refine cX Tryz.func103 rfl ?_;simp only[Tryz.ntmps103,List.size_toArray,List.length_cons,List.length_nil,Nat.reduceAdd,Nat.reduceSub,Array.replicate_succ,Array.replicate_zero,List.push_toArray,List.append_toArray,List.nil_append,List.cons_append];by_cases hn:a.n<1\/5<a.n
 ·have HV:bc (advE a=2):=by(have h:advE a=2:=by(unfold advE;rw[if_pos hn]));exact h
  rcases hn with hn|hn
  ·go_wp2_with fail
   refine mP (fA _ _ _ 2 _ rfl (eM _ _ _)) ?_;exact⟨aE HV.o.symm,by go_grown⟩
  ·go_wp2_with fail
   refine mP (fA _ _ _ 2 _ rfl (eM _ _ _)) ?_;exact⟨aE HV.o.symm,by go_grown⟩
 have oY:1<=a.n:=by omega
 have n9:a.n<=5:=by omega
 have HV:bc (advE a=if sizedE a≠0 then sizedE a else if ay a.states.length (fun s=>stateE a (a.states.getD s []))≠0 then ay a.states.length (fun s=>stateE a (a.states.getD s [])) else if fh a then 0 else 21):=by
  have h:advE a=if sizedE a≠0 then sizedE a else if ay a.states.length (fun s=>stateE a (a.states.getD s []))≠0 then ay a.states.length (fun s=>stateE a (a.states.getD s [])) else if fh a then 0 else 21:=by
   unfold advE sizedE;rw[if_neg hn];grind
  exact h
 clear hn
 go_wp2_with fail
 refine dB (fun W=>Below w.heap.size w W/\W.heap[w.heap.size]?=some (.cells #[.int .i64 a.n,.slice pa a.states.length ca] 27)/\W.heap[w.heap.size+1]?=some (.cells #[.int .i64 0] 43)) ⟨by go_grown,aH _ (aA _ _),eM _ _ _⟩ (fun W0 dF=>?_);obtain⟨bw,jB,FF⟩:=dF;refine(IN a _ W0 (G.o.up up_moves bw) hN).mono ?_;rintro e w1 ⟨rfl,aK⟩;have rE:=aq aK jB;have oq:=aq aK FF;have vW:=ak bw aK;have c1:=ae oq 0;have f1:=bf oq 0;simp at c1;have t1:=ae rE;generalize sizedE a=es at HV;have Oq:=ab rE;have N8:=ab oq;clear jB FF bw aK W0 rE oq;by_cases og:es=0
 case neg=>
  have hes':(es != 0)=true:=by simpa using og
  go_wp2_with fail
  refine mP (fA _ _ _ es _ rfl (by rw[bn N8.o];rfl)) ?_;exact⟨aE (by rw[HV.o,if_pos og]),vW.setCell (by simp) _⟩
 subst og
 go_wp2_with fail
 clear t1 c1 f1
 go_loopw [27] (fun i wr=>Below w1.heap.size w1 wr/\∃ k:Nat,k<=a.states.length/\i=.int .i64 k/\∀ j,j<k->stateE a (a.states.getD j [])=0) (fun i _=>a.states.length - (intOf i).toNat)
 case atStart=>exact⟨Below.refl _ _,0,by omega,rfl,by simp⟩
 case round=>
  obtain⟨ba,k,hk,rfl,bB⟩:=hrel;have H:=ab bB;clear bB;have df:=ak vW ba;have OJ:=aq ba Oq.o;have Ou:=aq ba N8.o;have t1:=ae OJ;by_cases aG:k<a.states.length
  ·obtain⟨b1,o1,rfl,x,cx,hx⟩:=E.o k aG;rw[Nat.mul_one]at cx;have d1:=aC df cx;have HX:=ab (hx.up up_move df);obtain⟨px,qx,rfl,_⟩:=hx;clear cx;have Og:=ab Ou;clear OJ Ou
   go_wp2_with fail
   refine(IQ a _ _ _ _ _ HX.o).mono ?_;rintro e w2 ⟨rfl,bo⟩;have p5:=aq bo Og.o;have c1:=ae p5 0;have f1:=bf p5 0;simp at c1;have HR2:=ab p5;clear p5;have HS:bc (stateE a (a.states.getD k [])=stateE a a.states[k]):=by(have h:stateE a (a.states.getD k [])=stateE a a.states[k]:=by(rw[aj [] aG]));exact h
   generalize stateE a a.states[k]=ek at HS;clear t1 d1;by_cases Oc:ek=0
   ·subst Oc
    go_wp2_with fail
    go_roundw
    ·exact⟨ak ba bo,k+1,by omega,by go_num,bG H.o HS.o⟩
    ·simp[intOf];omega
   ·have hek':(ek != 0)=true:=by simpa using Oc
    go_wp2_with fail
    refine mP (fA _ _ _ ek _ rfl (by rw[bn HR2.o];rfl)) ?_;exact⟨aE (by rw[HV.o,if_neg (by simp),<-bR (f:=fun s=>stateE a (a.states.getD s [])) k ek aG H.o HS.o Oc,if_pos Oc]),(ak df bo).setCell (by simp) _⟩
  ·have aX:∀ j,j<a.states.length->stateE a (a.states.getD j [])=0:=fun j hj=>H.o j (by omega)
   have Ai:bc (advE a=if fh a then 0 else 21):=by
    have h:advE a=if fh a then 0 else 21:=by rw[HV.o,if_neg (by simp),cj _ _ aX];simp
    exact h
   have NB:=ab aX;clear aX H HV;have HAr:=ab OJ;have Og:=ab Ou;clear OJ Ou
   go_wp2_with fail
   refine(rZ _ _ _ _ _).mono ?_;rintro e w2 ⟨rfl,rfl⟩;clear t1
   go_wp2_with fail
   refine eE (fun W=>Below w.heap.size w W/\W.heap[w.heap.size]?=some (.cells #[.int .i64 a.n,.slice pa a.states.length ca] 27)/\W.heap[w.heap.size+1]?=some (.cells #[.int .i64 0] 43)/\W.heap[wr.heap.size]?=some (.cells #[.int .i64 a.n,.slice pa a.states.length ca] 27))
    ⟨df.alloc df.size _,aH _ HAr.o,aH _ Og.o,aA _ _⟩ (fun W0 dF=>?_)
   obtain⟨bw,hA,hR,hX⟩:=dF;have dZ:=qr w _ a.states G.o W0 bw wr.heap.size (by simp[ae hX]);have bA:=aw hX;have hsw:=df.size;have Q7:=aw Og.o
   refine p8 (gf:=244) (lb:=#[.pointer (some ⟨wr.heap.size,0,none⟩)]) rfl (enters_of Tryz.func244 (by kernel_rfl) rfl) dZ (Below.refl _ _) (fun k hk=>Nat.lt_of_lt_of_le hk bw.size) (fun i=>rfl)
    (fun i W=>Below w.heap.size w W/\W.heap[w.heap.size]?=some (.cells #[.int .i64 a.n,.slice pa a.states.length ca] 27)/\W.heap[w.heap.size+1]?=some (.cells #[.int .i64 0] 43)/\∀ j,j<i->kI a j=false)
    (fun c _ W=>c=.ret/\Below w.heap.size w W/\W.heap[w.heap.size+1]?=some (.cells #[.int .i64 21] 43)/\fh a=false)
    (fun i=>(cF.below (by omega)).and (cF.cells.and (cF.cells.and cF.pure))) (fun c i=>cF.pure.and ((cF.below (by omega)).and (cF.cells.and cF.pure))) ⟨bw,hA,hR,by simp⟩ ?round ?done ?stop
   case round=>
    intro yl i W hi hl hI;unfold Bw;have bO:=ye NB.o hi;have HB:bc (kI a i=anyLt (kG a i).length fun k=>!bF (mvAt a.states i).2.r.f ((kG a i).getD k default).r.f):=by(have h:kI a i=anyLt (kG a i).length fun k=>!bF (mvAt a.states i).2.r.f ((kG a i).getD k default).r.f:=rfl);exact h
    have Ra:bc (kG a i=a.states.getD (mvAt a.states i).2.to.toNat []):=by(have h:kG a i=a.states.getD (mvAt a.states i).2.to.toNat []:=rfl);exact h
    generalize mvAt a.states i=sm at bO HB Ra;obtain⟨sx,m⟩:=sm;dsimp only at bO HB Ra;obtain⟨⟨Fv,ou⟩,ht0,ht1⟩:=bO;have HI:=ab hI;clear hI;have Dk:=HI.o.1.size
    gi_wp2
    refine⟨Bod.of_below (fun k hk=>Nat.lt_of_lt_of_le hk Dk) (by go_grown),(fun W'=>Below w.heap.size w W'/\W'.heap[w.heap.size]?=some (.cells #[.int .i64 a.n,.slice pa a.states.length ca] 27)/\W'.heap[w.heap.size+1]?=some (.cells #[.int .i64 0] 43)/\W'.heap[W.heap.size]?=some (.cells #[.int .i64 m.r.g.n,.int .i64 m.r.g.h0,.int .i64 m.r.g.h1,.int .i64 m.r.g.h2,.int .i64 m.r.g.h3,.int .i64 m.r.g.h4,.int .i64 m.r.f,.int .i64 m.to] 188)),
     (cF.below (by omega)).and (cF.cells.and (cF.cells.and cF.cells)),⟨HI.o.1.alloc Dk _,aH _ HI.o.2.1,aH _ HI.o.2.2.1,aA _ _⟩,fun W2 h2 _=>?_⟩
    obtain⟨g1,g2,g3,g4⟩:=h2;have Dj:=ab HI.o.2.2.2;have hsz2:=g1.size;have hszR:=aw g3;have hszM:=aw g4;have tA:=ae g2;have tM:=ae g4;have HG1:=ab g1;have HG3:=ab g3;have HG2:=ab g2;have HG4:=ab g4;clear g1 g2 g3 g4 HI dZ hA hR hX;obtain⟨b1,o1,rfl,x,cx,hx⟩:=E.o m.to.toNat (by omega);have HL:bc (kG a i=a.states[m.to.toNat]):=by(have h:kG a i=a.states[m.to.toNat]:=by(rw[Ra.o,aj [] (by omega)]));exact h
    rw[Nat.mul_one]at cx;have d1:=aC HG1.o cx;obtain⟨p2,c2,rfl,m1,m2,e2⟩:=hx.at;clear hx cx;have E2:=ab e2;clear e2;generalize hLL:a.states[m.to.toNat]=L at HL E2 d1 m1 m2;have OL:=ab hLL;clear hLL
    gi_wp2
    clear tA tM d1
    gi_loopw [49] (fun i wr=>Below W2.heap.size W2 wr/\∃ q:Nat,q<=L.length/\i=.int .i64 q/\∀ j,j<q->bF m.r.f (L.getD j default).r.f=true) (fun i _=>L.length - (intOf i).toNat)
    case atStart=>exact⟨Below.refl _ _,0,by omega,rfl,by simp⟩
    case round=>
     obtain⟨cS,q,hq,rfl,xI⟩:=hrel;have H2:=ab xI;clear xI;have tM:=ae (aq cS HG4.o);have OB:=aq cS HG3.o;have c1':=ae OB 0;have f1':=bf OB 0;simp at c1';have HR3:=ab OB;clear OB;have uQ:=ak HG1.o cS;have eV:=cS.size;have hM3:W.heap.size<wr.heap.size:=by omega
     have hR3':w.heap.size+1<wr.heap.size:=by omega
     by_cases pW:q<L.length
     ·have H9:0<=L[q].r.f/\L[q].r.f<32:=by
       have:=(fB NB.o (s:=m.to.toNat) (j:=q) (by omega) (by rw[OL.o];exact pW)).1;simpa[OL.o] using this
      have QN:bc (L.getD q default=L[q]):=aj default pW;obtain⟨b2,o2,rfl,⟨⟨c0,_⟩,⟨c1,_⟩,⟨c2,_⟩,⟨c3,_⟩,⟨c4,_⟩,⟨c5,_⟩,⟨c6,_⟩⟩,c7,_⟩:=E2.o q pW;have d0:=aC uQ c0;have d1:=aC uQ c1;have d2:=aC uQ c2;have d3:=aC uQ c3;have d4:=aC uQ c4;have d5:=aC uQ c5;have d6:=aC uQ c6;have d7:=aC uQ c7;clear c0 c1 c2 c3 c4 c5 c6 c7;generalize L[q]=y at H9 QN d0 d1 d2 d3 d4 d5 d6 d7;have jH:=ic m.r.f y.r.f Fv ou H9.1 H9.2;clear H9;cases cg:bF m.r.f y.r.f with
      | true=>
       rw[cg]at jH;have xD:=ab cg;clear cg
       gi_wp2
       go_roundw
       ·exact⟨cS.alloc cS.size _,q+1,by omega,by go_num,bG H2.o (by rw[QN.o];exact xD.o)⟩
       ·simp[intOf];omega
      | false=>
       rw[cg]at jH;have xD:=ab cg;clear cg
       gi_wp2
       refine⟨((Bod.of_below (fun k hk=>Nat.lt_of_lt_of_le hk hsz2) cS).trans (Bod.setCell _ ⟨w.heap.size+1,0,none⟩ _ (fun h=>by dsimp only at h;omega))).trans (Bod.of_below (fun k hk=>by simp only[World.size_setCell];omega) (by go_grown)),rfl,(uQ.setCell (p:=⟨w.heap.size+1,0,none⟩) (by dsimp only;omega) _).alloc (by simp only[World.size_setCell];omega) _,?_,?_⟩
       ·exact aH _ (by rw[bn HR3.o];rfl)
       ·unfold fh;rw[aD _ i _ hi (by rw[HB.o,HL.o];exact aD _ q _ pW (by rw[QN.o,xD.o];rfl))];rfl
     ·gi_wp2
      refine⟨Bod.of_below (fun k hk=>Nat.lt_of_lt_of_le hk hsz2) cS,uQ,aq cS HG2.o,HR3.o,bG Dj.o ?_⟩;rw[HB.o,HL.o];exact jI _ _ (fun j hj=>by rw[H2.o j (by omega)];rfl)
   case done=>
    intro D W hD hI hK;obtain⟨g1,g2,g3,g4⟩:=hI;have HG:=ab (And.intro g1 (And.intro g2 (And.intro g3 g4)));have c1:=ae g3 0;have f1:=bf g3 0;simp at c1;clear g1 g2 g3 g4 dZ hA hR hX
    go_wp2_with fail
    refine iQ (by rw[<-hK];exact Below.heap_setCell _ _ _ _ (by dsimp only;omega)) (fA _ _ _ 0 _ rfl ((World.putObj_heap_other (by omega)).trans (by rw[bn HG.o.2.2.1];rfl))) ?_;refine⟨aE ?_,eN (by omega) (HG.o.1.setCell (by simp) _)⟩;rw[Ai.o];unfold fh;rw[jI _ _ HG.o.2.2.2];rfl
   case stop=>
    rintro D c i W hD hi ⟨rfl,g1,g2,g3⟩ hK;have HG:=ab (And.intro g1 (And.intro g2 g3));clear g1 g2 g3 dZ hA hR hX
    go_wp2_with fail
    refine iQ hK (fA _ _ _ 21 _ rfl ((World.putObj_heap_other (by omega)).trans HG.o.2.1)) ?_;exact⟨aE (by rw[Ai.o,HG.o.2.2];rfl),eN (by omega) HG.o.1⟩
abbrev Rd.c(r:Rd):Array Value:=#[.int .i64 r.g.n,.int .i64 r.g.h0,.int .i64 r.g.h1,.int .i64 r.g.h2,.int .i64 r.g.h3,.int .i64 r.g.h4,.int .i64 r.f]
def b8(M n s:Nat):Array Value:=((List.range n).map fun j=>if j<s then Value.map (some (M+j)) else Value.map none).toArray
theorem mB(M n s:Nat):(b8 M n s).size=n:=by simp[b8]
theorem iY(M n s j:Nat) (hj:j<n):(b8 M n s)[j]?=some (if j<s then Value.map (some (M+j)) else Value.map none):=by simp[b8,hj]
theorem BC(M n s:Nat) (hs:s<n):(b8 M n s).setIfInBounds s (.map (some (M+s)))=b8 M n (s+1):=by
 apply Array.ext_getElem?;intro j;rw[Array.getElem?_setIfInBounds];by_cases hj:j<n
 ·rw[iY _ _ _ _ hj,iY _ _ _ _ hj];by_cases e:s=j
  ·subst e;simp[mB,hj]
  ·rw[if_neg e];by_cases h:j<s
   ·rw[if_pos h,if_pos (by omega)]
   ·rw[if_neg h,if_neg (by omega)]
 ·have h1:(b8 M n s)[j]?=none:=by rw[Array.getElem?_eq_none];rw[mB];omega
  have h2:(b8 M n (s+1))[j]?=none:=by rw[Array.getElem?_eq_none];rw[mB];omega
  rw[h1,h2,if_neg (by omega)]
theorem Az(M N n:Nat):b8 M n 0=b8 N n 0:=by simp[b8]
theorem yr(n:Nat):madeCells (Value.map none).cells n=b8 0 n 0:=by
 apply Array.ext
 ·simp[madeCells,b8]
 ·intro i h1 h2;simp[madeCells,b8,Value.cells,Nat.mod_one]
theorem Gk(n:Nat) (hn:n<=256) (w:World):(Instr.makeSlice 355 (.int .i64 (n:Int)) (.int .i64 (n:Int))).run Tryz.prog w=.ok (.slice (some ⟨w.heap.size,0,none⟩) n n) (w.alloc (.cells (b8 0 n 0) 357)):=by
 have Ie:(Tryz.prog.info? 357).map (fun i=>(i.zero,i.size,i.bytes))=some (some (.map none),1,8):=by kernel_rfl
 obtain⟨i,hi,dE,dc,dN⟩:=info_parts Ie;have:=run_make (P:=Tryz.prog) w 355 357 i (.map none) Tryz.underlying355 hi dE .i64 .i64 (n:Int) (n:Int) (by omega) (by omega) (by rw[dN];omega) (by omega);rw[this,dc,Nat.mul_one];simp only[Int.toNat_natCast,yr]
def gm(l:List (List Mv)) (i s:Nat):List (Rd × Int):=((l.getD s []).take (i - cB l s)).map fun m=>(m.r,m.to)
theorem BD(l:List (List Mv)) {s t:Nat} (h:s<=t):cB l s<=cB l t:=by
 induction t with
 | zero=>obtain rfl:s=0:=by omega
         exact Nat.le_refl _
 | succ t ih=>
  by_cases e:s=t+1
  ·subst e;exact Nat.le_refl _
  ·have h1:=ih (by omega);by_cases ht:t<l.length
   ·rw[fX l t ht];omega
   ·rw[ly l t (by omega)]at h1;rw[ly l (t+1) (by omega)];exact h1
theorem Gl(l:List (List Mv)) (s:Nat):gm l 0 s=[]:=by simp[gm]
theorem vy(l:List (List Mv)) (s j:Nat) (hs:s<l.length):gm l (cB l s+j) s=(l[s].take j).map fun m=>(m.r,m.to):=by
 simp[gm,hs]
theorem Gm(l:List (List Mv)) (s j:Nat) (hs:s<l.length) (hj:j<l[s].length):gm l (cB l s+j+1) s=gm l (cB l s+j) s++[(l[s][j].r,l[s][j].to)]:=by
 rw[Nat.add_assoc,vy l s (j+1) hs,vy l s j hs,List.take_succ_eq_append_getElem hj];simp only[List.map_append,List.map_cons,List.map_nil]
theorem D5(l:List (List Mv)) (s j t:Nat) (hs:s<l.length) (hj:j<l[s].length) (ht:t<l.length) (aV:t≠s):gm l (cB l s+j+1) t=gm l (cB l s+j) t:=by
 unfold gm;rw[aj [] ht];rcases Nat.lt_or_gt_of_ne aV with h|h
 ·have h1:=BD l (show t+1<=s by omega);rw[fX l t ht]at h1;rw[List.take_of_length_le (by omega),List.take_of_length_le (by omega)]
 ·have h1:=BD l (show s+1<=t by omega);rw[fX l s hs]at h1;have e1:cB l s+j+1 - cB l t=0:=by omega
  have e2:cB l s+j - cB l t=0:=by omega
  rw[e1,e2]
theorem IR(l:List (List Mv)) (s:Nat) (hs:s<l.length):gm l (az l) s=l[s].map fun m=>(m.r,m.to):=by
 unfold gm;rw[aj [] hs,List.take_of_length_le];have:=pA l s hs;omega
theorem Gn{f:List (Rd × Int)} {r:Rd} (h:∀ p∈f,p.1≠r):dn f r=none:=by
 simp only[dn,Option.map_eq_none_iff,List.find?_eq_none];intro p hp;simpa using fun e=>h p hp e.symm
theorem Gp{l:List Mv} {j:Nat} (hj:j<l.length) (h:∀ i (hi:i<j),l[i].r≠l[j].r):∀ p∈(l.take j).map (fun m=>(m.r,m.to)),p.1≠l[j].r:=by
 intro p hp e;obtain⟨m,hm,rfl⟩:=List.mem_map.1 hp;obtain⟨q,hq,Oy⟩:=List.mem_take_iff_getElem.1 hm;dsimp only at e;exact h q (by omega) (by rw[Oy];exact e)
theorem dQ.lt{w:World} {b:Nat} {f:List (Rd × Int)} (h:dQ w b f):b<w.heap.size:=by
 obtain⟨_,_,he,_⟩:=h;exact aw he
theorem dQ.chg{B:Nat} {A A':World} {b:Nat} {f:List (Rd × Int)} (c:Chg B A A') (hb:b<B) (h:dQ A b f):dQ A' b f:=by
 obtain⟨es,clock,he,hf⟩:=h;exact⟨es,clock,c.same _ _ he (.inl hb),hf⟩
theorem dQ.kept{A A':World} {b:Nat} {f:List (Rd × Int)} (h:dQ A b f) (he:A'.heap[b]?=A.heap[b]?):dQ A' b f:=by
 obtain⟨es,clock,h1,hf⟩:=h;exact⟨es,clock,he.trans h1,hf⟩
def O3(w:World) (v:Value) (l:List (List Mv)):Prop:=
 ∃ B,v=.slice (some ⟨B,0,none⟩) l.length l.length/\∀ s (hs:s<l.length),∃ b,w.cell? ⟨B,s,none⟩=some (.map (some b))/\dQ w b (l[s].map fun m=>(m.r,m.to))
theorem IS(a:Adv) (v:Value) (w:World) (hv:cO w v a.states) (h1:1<=a.states.length) (h2:a.states.length<=256) (hd:∀ s (hs:s<a.states.length) j (hj:j<a.states[s].length) i (hi:i<j),a.states[s][i].r≠a.states[s][j].r) :
  Calls Tryz.prog 275 #[.agg #[.int .i64 a.n,v]] w fun e w'=>∃ u,e=.returned u/\O3 w' u a.states/\Below w.heap.size w w':=by
 have G:=ab hv;obtain⟨pa,ca,rfl,la1,la2,_⟩:=hv.at;clear hv;have HD:=ab hd;clear hd;have tq:=Gk a.states.length h2;refine cX Tryz.func275 rfl ?_;simp only[Tryz.ntmps275,List.size_toArray,List.length_cons,List.length_nil,Nat.reduceAdd,Nat.reduceSub,Array.replicate_succ,Array.replicate_zero,List.push_toArray,List.append_toArray,List.nil_append,List.cons_append]
 go_wp2_with fail
 clear tq
 refine eE (fun W=>W.heap.size=w.heap.size+3/\Below w.heap.size w W/\W.heap[w.heap.size]?=some (.cells #[.int .i64 a.n,.slice pa a.states.length ca] 27)/\W.heap[w.heap.size+1]?=some (.cells (b8 (w.heap.size+3) a.states.length 0) 357)/\W.heap[w.heap.size+1+1]?=some (.cells #[.slice (some ⟨w.heap.size+1,0,none⟩) a.states.length a.states.length] 355))
  ⟨by simp,by go_grown,aH _ (aH _ (aA _ _)),by rw[Az _ 0];exact aH _ (eM _ _ _),qt _ _ _ _⟩ (fun W0 dF=>?_)
 obtain⟨dE,bw,jB,ov,Fw⟩:=dF;have Lo:=ab (And.intro dE (And.intro bw (And.intro jB (And.intro ov Fw))));clear dE bw jB ov Fw
 go_loopw [13] (fun i wr=>∃ s:Nat,s<=a.states.length/\i=.int .i64 s/\wr.heap.size=w.heap.size+3+s/\Below w.heap.size w wr/\wr.heap[w.heap.size]?=some (.cells #[.int .i64 a.n,.slice pa a.states.length ca] 27)/\wr.heap[w.heap.size+1]?=some (.cells (b8 (w.heap.size+3) a.states.length s) 357)/\wr.heap[w.heap.size+1+1]?=some (.cells #[.slice (some ⟨w.heap.size+1,0,none⟩) a.states.length a.states.length] 355)/\∀ j,j<s->dQ wr (w.heap.size+3+j) []) (fun i _=>a.states.length - (intOf i).toNat)
 case atStart=>exact⟨0,by omega,rfl,by simpa using Lo.o.1,Lo.o.2.1,Lo.o.2.2.1,Lo.o.2.2.2.1,Lo.o.2.2.2.2,by simp⟩
 case round=>
  obtain⟨s,hs,rfl,hz,hb,hA,hC,hT,hM⟩:=hrel;have tT:=ae hT;by_cases aG:s<a.states.length
  ·have cC:=ae hC s;rw[iY _ _ _ _ aG,if_neg (by omega)]at cC;have fC:=bf hC s;have ge:=aw hC;have dJ:=aw hT;have HH:=ab (And.intro hz (And.intro hb (And.intro hA (And.intro hC (And.intro hT hM)))));clear hz hb hA hC hT hM;have hmm:=@run_makeMap Tryz.prog
   go_wp2_with fail
   obtain⟨hz,hb,hA,hC,hT,hM⟩:=HH.o
   go_roundw
   ·
    go_light
    refine⟨s+1,by omega,by go_num,by simp[hz];omega,(hb.setCell (p:=⟨w.heap.size+1,s,none⟩) (by dsimp only;omega) _).alloc (by simp only[World.size_setCell];omega) _,aH _ (bh hA (by omega) _ _),?_,aH _ (bh hT (by omega) _ _),?_⟩
    ·refine aH _ ?_;rw[bn hC,hz,BC _ _ _ aG]
    ·intro j hj;by_cases e:j<s
     ·obtain⟨es,clock,he,hf⟩:=hM j e;exact⟨es,clock,aH _ (bh he (by omega) _ _),hf⟩
     ·obtain rfl:j=s:=by omega
      refine⟨#[],0,?_,rfl⟩;have:=aA (wr.setCell ⟨w.heap.size+1,j,none⟩ (.map (some wr.heap.size))) (.map #[] 0);rw[World.size_setCell,hz]at this;rw[hz];exact this
   ·simp[intOf];omega
  ·obtain rfl:s=a.states.length:=by omega
   have tA:=ae hA;have ge:=aw hC;have dJ:=aw hT;have HH:=ab (And.intro hz (And.intro hb (And.intro hA (And.intro hC (And.intro hT hM)))));clear hz hb hA hC hT hM
   go_wp2_with fail
   refine(rZ _ _ _ _ _).mono ?_;rintro e w2 ⟨rfl,rfl⟩;clear tA tT
   go_wp2_with fail
   refine eE (fun W=>W.heap.size=w.heap.size+3+a.states.length+1/\Below w.heap.size w W/\W.heap[w.heap.size+1]?=some (.cells (b8 (w.heap.size+3) a.states.length a.states.length) 357)/\W.heap[w.heap.size+1+1]?=some (.cells #[.slice (some ⟨w.heap.size+1,0,none⟩) a.states.length a.states.length] 355)/\W.heap[wr.heap.size]?=some (.cells #[.int .i64 a.n,.slice pa a.states.length ca] 27)/\∀ j,j<a.states.length->dQ W (w.heap.size+3+j) [])
    ⟨by simp[HH.o.1],HH.o.2.1.alloc HH.o.2.1.size _,aH _ HH.o.2.2.2.1,aH _ HH.o.2.2.2.2.1,aA _ _,fun j hj=>(HH.o.2.2.2.2.2 j hj).kept (Below.heap_alloc _ _ _ (by rw[HH.o.1];omega))⟩ (fun W0 dF=>?_)
   obtain⟨dE,bw,ov,Fw,QO,FK⟩:=dF;have dZ:=qr w _ a.states G.o W0 bw wr.heap.size (by simp[ae QO]);have FV:=ab dE;clear dE
   refine p8 (gf:=244) (lb:=#[.pointer (some ⟨wr.heap.size,0,none⟩)]) rfl (enters_of Tryz.func244 (by kernel_rfl) rfl) dZ (Below.refl _ _) (fun k hk=>Nat.lt_of_lt_of_le hk bw.size) (fun i=>rfl)
    (fun i W=>Below w.heap.size w W/\W.heap[w.heap.size+1]?=some (.cells (b8 (w.heap.size+3) a.states.length a.states.length) 357)/\W.heap[w.heap.size+1+1]?=some (.cells #[.slice (some ⟨w.heap.size+1,0,none⟩) a.states.length a.states.length] 355)/\∀ s,s<a.states.length->dQ W (w.heap.size+3+s) (gm a.states i s))
    (fun _ _ _=>False)
    (fun i=>(cF.below bw.size).and (cF.cells.and (cF.cells.and (fun A A' c x s hs=>(x s hs).chg c (by rw[FV.o];omega))))) (fun c i=>cF.pure) ⟨bw,ov,Fw,fun s hs=>by rw[Gl];exact FK s hs⟩ ?round ?done ?stop
   case round=>
    intro yl i W hi hl hI;unfold Bw;obtain⟨s,j,hs,hj,rfl⟩:=yd a.states i hi;rw[pB a.states s j hs hj]
    have HNONE:bc (dn (gm a.states (cB a.states s+j) s) a.states[s][j].r=none):=by
     have h:dn (gm a.states (cB a.states s+j) s) a.states[s][j].r=none:=by rw[vy _ _ _ hs];exact Gn (Gp hj (HD.o s hs j hj))
     exact h
    have HSAME:=ab (Gm a.states s j hs hj);generalize a.states[s][j]=m at HNONE HSAME;dsimp only;have HI:=ab hI;clear hI;have Dk:=HI.o.1.size
    gi_wp2
    refine⟨Bod.of_below (fun k hk=>Nat.lt_of_lt_of_le hk Dk) (by go_grown),(fun W'=>Below w.heap.size w W'/\W'.heap[w.heap.size+1]?=some (.cells (b8 (w.heap.size+3) a.states.length a.states.length) 357)/\W'.heap[w.heap.size+1+1]?=some (.cells #[.slice (some ⟨w.heap.size+1,0,none⟩) a.states.length a.states.length] 355)/\W'.heap[W.heap.size]?=some (.cells #[.int .i64 m.r.g.n,.int .i64 m.r.g.h0,.int .i64 m.r.g.h1,.int .i64 m.r.g.h2,.int .i64 m.r.g.h3,.int .i64 m.r.g.h4,.int .i64 m.r.f,.int .i64 m.to] 188)/\∀ t,t<a.states.length->dQ W' (w.heap.size+3+t) (gm a.states (cB a.states s+j) t)),
     (cF.below bw.size).and (cF.cells.and (cF.cells.and (cF.cells.and (fun A A' c x s hs=>(x s hs).chg c (by rw[FV.o];omega))))),⟨HI.o.1.alloc Dk _,aH _ HI.o.2.1,aH _ HI.o.2.2.1,aA _ _,fun t ht=>(HI.o.2.2.2 t ht).kept (Below.heap_alloc _ _ _ (HI.o.2.2.2 t ht).lt)⟩,fun W2 h2 _=>?_⟩
    obtain⟨g1,g2,g3,g4,g5⟩:=h2;have t3:=ae g3;have tM:=ae g4;have tC:=ae g2 s;rw[iY _ _ _ _ hs,if_pos hs]at tC;have mw:=IL (w:=W2.drew) (b:=w.heap.size+3+s) (f:=gm a.states (cB a.states s+j) s) (g5 s hs) m.r m.to HNONE.o;obtain⟨o,hup1,hup2⟩:=mw;have HG:=ab (And.intro g1 (And.intro g2 (And.intro g3 (And.intro g4 g5))));have HUP2:=ab hup2;clear g1 g2 g3 g4 g5 hup2 dZ ov Fw QO FK
    gi_wp2
    refine rJ 8 (fun ⟨_,_,h⟩=>h) (by kernel_rfl) (by kernel_rfl) (by kernel_rfl) (fun ops Lq hops Df=>?_);simp only[List.take_succ_cons,List.take_zero,List.drop_succ_cons,List.drop_zero]at Df ⊢;have HLQ:=ab Df;clear Df;have HOPS:=ab hops;clear hops
    repeat still_step
    refine wpStill_nil ?_;refine HLQ.o _ ?_
    go_wp2_with fail
    obtain⟨g1,g2,g3,g4,g5⟩:=HG.o;have hz:=FV.o;refine⟨⟨by simp,fun k hk=>World.putObj_heap_other (by omega),fun k x hk hx _=>(World.putObj_heap_other (by omega)).trans hx⟩,eN (by omega) g1.drew,(World.putObj_heap_other (by omega)).trans g2,(World.putObj_heap_other (by omega)).trans g3,fun t ht=>?_⟩;by_cases e:t=s
    ·subst e;rw[HSAME.o];exact HUP2.o
    ·rw[D5 a.states s j t hs hj ht e];exact(g5 t ht).kept (World.putObj_heap_other (by omega))
   case done=>
    intro D W hD hI hK;obtain⟨g1,g2,g3,g4⟩:=hI;have HG:=ab (And.intro g1 (And.intro g2 (And.intro g3 g4)));have t3:=ae g3;clear g1 g2 g3 g4 dZ ov Fw QO FK
    go_wp2_with fail
    refine iQ hK (results_tmp rfl _ _ _) ?_;obtain⟨g1,g2,g3,g4⟩:=HG.o;have hz:=FV.o;refine⟨_,rfl,⟨w.heap.size+1,rfl,fun s hs=>⟨w.heap.size+3+s,?_,?_⟩⟩,eN (by omega) g1⟩
    ·rw[ae ((World.putObj_heap_other (by omega)).trans g2),iY _ _ _ _ hs,if_pos hs]
    ·have h4:=g4 s hs;rw[IR _ _ hs]at h4;exact h4.kept (World.putObj_heap_other (by omega))
   case stop=>
    intro D c i W _ _ h;exact h.elim
end Go.Proofs.YtiocdkdkndpgkaaGreat
namespace Go.Proofs.YtiocdkdkndpgkaaGreat
open Go.RowKit Go Go.Shelf
theorem tI{α:Type} (c:α->Array Value) (k:Nat) (hc:∀ x,(c x).size=k) (xs:List α) (i j:Nat) (hi:i<xs.length) (hj:j<k):(xs.flatMap fun x=>(c x).toList)[i * k+j]?=(c xs[i])[j]?:=by
 induction xs generalizing i with
 | nil=>simp at hi
 | cons x r ih=>
  rw[List.flatMap_cons];have hx:(c x).toList.length=k:=by rw[Array.length_toList,hc]
  cases i with
  | zero=>
   rw[List.getElem?_append_left (by omega)];simp
  | succ i=>
   rw[List.getElem?_append_right (by rw[hx,Nat.succ_mul];omega)];have:=ih i (by simpa using hi);simp only[List.getElem_cons_succ];rw[<-this,hx];congr 1;rw[Nat.succ_mul];omega
def aL(xs:List Rd):List Value:=xs.flatMap fun r=>r.c.toList
theorem gF(xs:List Rd):(aL xs).length=xs.length * 7:=by
 unfold aL;induction xs with
 | nil=>rfl
 | cons x r ih=>rw[List.flatMap_cons,List.length_append,ih];simp;omega
theorem sa(xs:List Rd):∀ u∈aL xs,u.oneCell'=true:=by
 intro u hu;unfold aL at hu;rw[List.mem_flatMap]at hu;obtain⟨r,_,hr⟩:=hu;simp at hr;rcases hr with rfl|rfl|rfl|rfl|rfl|rfl|rfl<;>rfl
theorem IT{w:World} {v:Value} {l:List Rd} (h:iP w v l) (j:Nat) (u:Value) (hu:(aL l)[j]?=some u):∃ b o c,v=.slice (some ⟨b,o,none⟩) l.length c/\w.cell? ⟨b,o+j,none⟩=some u:=by
 have hj:=(List.getElem?_eq_some_iff.1 hu).1;rw[gF]at hj;obtain⟨i,s,hs,rfl⟩:∃ i s,s<7/\j=i * 7+s:=⟨j / 7,j % 7,by omega,by omega⟩;have hi:i<l.length:=by omega
 unfold aL at hu;rw[tI Rd.c 7 (fun _=>rfl) l i s hi hs]at hu;obtain⟨a,cap,rfl,_,_,e⟩:=h.at;obtain⟨b,o,rfl,⟨c0,_⟩,⟨c1,_⟩,⟨c2,_⟩,⟨c3,_⟩,⟨c4,_⟩,⟨c5,_⟩,⟨c6,_⟩⟩:=e i hi;refine⟨b,o,cap,rfl,?_⟩;rw[<-Nat.add_assoc];rcases (show s=0\/s=1\/s=2\/s=3\/s=4\/s=5\/s=6 by omega) with rfl|rfl|rfl|rfl|rfl|rfl|rfl<;>(simp at hu;subst hu;first|exact c0|exact c1|exact c2|exact c3|exact c4|exact c5|exact c6)
theorem vz{w:World} {base:Nat} {v:Value} {l:List Rd} (h:aJ w base 109 7 v l.length (aL l)) (hx:∀ i (hi:i<l.length),cV l[i].g.n/\cV l[i].g.h0/\cV l[i].g.h1/\cV l[i].g.h2/\cV l[i].g.h3/\cV l[i].g.h4/\cV l[i].f) (hn:l.length<=17592186044416):iP w v l:=by
 have aX:=fun i (hi:i<l.length) j (u:Value) (hj:j<7) (hu:l[i].c[j]?=some u)=>h.cell (i * 7+j) u (by unfold aL;rw[tI Rd.c 7 (fun _=>rfl) l i j hi hj];exact hu)
 rcases h.2 with ⟨rfl,hz⟩|⟨g,cap,cur,fz,rfl,_,hg,_,tp,rH,_,_⟩
 ·refine⟨none,0,by rw[hz],⟨by omega,by omega,fun _=>rfl⟩,hn,fun i x hi=>?_⟩;have:=(List.getElem?_eq_some_iff.1 hi).1;omega
 ·refine⟨some ⟨g,0,none⟩,cap,rfl,⟨tp,by simp only[maxLen]at rH;omega,fun e=>by cases e⟩,hn,fun i x hi=>⟨g,0,rfl,?_⟩⟩;obtain⟨oh,rfl⟩:=List.getElem?_eq_some_iff.1 hi;obtain⟨r0,r1,r2,r3,r4,r5,r6⟩:=hx i oh
  have key:∀ j u,j<7->l[i].c[j]?=some u->w.cell? ⟨g,0+i * 7+j,none⟩=some u:=fun j u hj hu=>by
   obtain⟨g',c',e1,e2⟩:=aX i oh j u hj hu;have:g=g':=by simp at e1;exact e1.1
   rw[this,Nat.zero_add];exact e2
  exact⟨⟨key 0 _ (by omega) rfl,r0⟩,⟨key 1 _ (by omega) rfl,r1⟩,⟨key 2 _ (by omega) rfl,r2⟩,⟨key 3 _ (by omega) rfl,r3⟩,⟨key 4 _ (by omega) rfl,r4⟩,⟨key 5 _ (by omega) rfl,r5⟩,⟨key 6 _ (by omega) rfl,r6⟩⟩
theorem Tryz.infoRound:(Tryz.prog.info? 109).map (fun i=>(i.zero,i.size,i.bytes))=some (some (.agg #[.int .i64 0,.int .i64 0,.int .i64 0,.int .i64 0,.int .i64 0,.int .i64 0,.int .i64 0]),7,56):=by kernel_rfl
theorem sd(a b:List Rd):aL (a++b)=aL a++aL b:=by simp[aL]
theorem yu(v:Value) (l:List Rd) (w:World) (hv:iP w v l) (hn:l.length<=1048576) :
  Calls Tryz.prog 62 #[v] w fun e w'=>∃ u,e=.returned u/\aJ w' w.heap.size 109 7 u l.length (aL l)/\Below w.heap.size w w':=by
 obtain⟨i0,hi,dE,dc,dN⟩:=info_parts Tryz.infoRound;have HW:=ab (IT hv);have kB:=fun w=>Lib.run_eql_slice_nil (P:=Tryz.prog) w 39
 obtain⟨a,cap,rfl,⟨_,_,bE⟩,_,_⟩:=hv;cases a with
 | none=>
  have hl:l.length=0:=by have:=bE rfl;omega
  obtain rfl:l=[]:=List.eq_nil_of_length_eq_zero hl;obtain rfl:=bE rfl
  go_enter Tryz.func62,Tryz.ntmps62
  go_wp2_with fail
  go_ret
  exact⟨_,rfl,aJ.nil _ _ _ _,Below.refl _ _⟩
 | some ad=>
  have bM:∀ j u,(aL l)[j]?=some u->(w.alloc (.cells #[] 109)).cell? (ad.add j)=some u:=fun j u hj=>by
   obtain⟨b,o,c,e,nf⟩:=HW.o j u hj;have:ad=⟨b,o,none⟩:=by simp at e;exact e.1
   subst this;have:(Addr.add ⟨b,o,none⟩ j)=⟨b,o+j,none⟩:=by unfold Addr.add;split<;>simp_all
   rw[this];exact aC (by go_grown) nf
  have aS:aJ (w.alloc (.cells #[] 109)) w.heap.size 109 7 (.slice (some ⟨w.heap.size,0,none⟩) 0 0) 0 []:=⟨by simp,.inr ⟨w.heap.size,0,#[],(0,0),rfl,Nat.le_refl _,aA _ _,fun i hi=>by simp at hi,by omega,by simp[maxLen],by simp,by simp⟩⟩;have fV:=ab bM;have fw:=ab aS;clear bM aS bE
  go_enter Tryz.func62,Tryz.ntmps62
  go_wp2_with (at_builtin;(refine eh _ rfl (.tmp 5) (.tmp 6) 39 rfl w.heap.size 109 i0 _ 7 56 Tryz.underlying39 hi dE dc dN rfl (by decide) _ 0 [] rfl fw.o ad l.length cap (aL l) rfl (gF l) fV.o (sa l) (by unfold maxLen;omega) (by omega) (by simp) ?_;intro v' w1 rh sV _;obtain⟨av',cv',rfl⟩:=rh.slice))
  go_ret
  rw[Nat.zero_add,List.nil_append]at rh;refine⟨_,rfl,by simpa using rh,Below.grown (w:=w.alloc (.cells #[] 109)) (by go_grown) sV (by simp) (fun k hk=>?_)⟩;cases hk;exact Nat.le_refl _
theorem AA{P:Program} (w:World) (base:Nat) (t ty e:TypeId) (i:TypeInfo) (size:Nat) (ht:P.underlying t=some (.slice e)) (hi:P.info? e=some i)
  (gr:i.size=size) (g cap n:Nat) (xs:List Value) (aS:aJ w base e size (.slice (some ⟨g,0,none⟩) n cap) n xs)
  (a:Addr) (m c:Nat) (news:List Value) (hl:news.length=m * size) (bM:∀ j u,news[j]?=some u->w.cell? (a.add j)=some u) (h1:∀ u∈news,u.oneCell'=true) (ng:n+m<=cap) :
  ∃ w',(Builtin.append_ #[t,t] ty #[.slice (some ⟨g,0,none⟩) n cap,.slice (some a) m c]).run P w=.ok (.slice (some ⟨g,0,none⟩) (n+m) cap) w'/\aJ w' base e size (.slice (some ⟨g,0,none⟩) (n+m) cap) (n+m) (xs++news)/\w.grownBy w' (some g)/\w'.heap.size=w.heap.size:=by
 obtain⟨FY,h⟩:=aS;rcases h with ⟨h,_⟩|⟨g',cap',cur,fz,h,DJ,hg,Aj,Lj,DM,xK,H8⟩
 ·cases h
 cases h
 subst gr;have iB:n * i.size+news.length<=cur.size:=by rw[hl,xK,<-Nat.add_mul];exact Nat.mul_le_mul_right _ ng
 have hr:=run_append_room_cells (P:=P) w t ty e i ht hi g 0 n cap a m c news hl bM h1 ng (fun j hj=>by rw[Nat.zero_add,ae hg];simp;omega)
  (fun j hj=>by
   simp only[World.frozen?,hg,Nat.zero_add];have:=Aj (n * i.size+j) (by omega)
   simpa using this)
 rw[Nat.zero_add]at hr;obtain⟨cur',g1,g2,g3⟩:=mA g e fz news (n * i.size) w cur hg iB;obtain⟨o1,o2,o3,o4,o5⟩:=fe g news (n * i.size) w;refine⟨_,hr,⟨by rw[List.length_append,FY,hl,Nat.add_mul],.inr ⟨g,cap,cur',fz,rfl,DJ,g1,fun k hk=>Aj k (by omega),ng,DM,by omega,?_⟩⟩,⟨o2,o3,o4,by omega,fun k _ hk=>o1 k (fun e=>hk (by rw[e]))⟩,o5⟩;rw[Nat.add_mul,<-hl,g3,H8]
theorem vA{P:Program} {ops:Array Oper} {rest:List Oper} {o:Oper} {a:Act} {w:World} {Q:Exit->Act->World->Prop} (Lx:o.guard=none) (s x:Operand) (t:TypeId)
  (ho:o.op=.call { callee:=.builtin .append,args:=#[s,x],argTypes:=#[t,t] })
  (base:Nat) (e:TypeId) (i:TypeInfo) (size:Nat) (ht:P.underlying t=some (.slice e)) (hi:P.info? e=some i)
  (gr:i.size=size) (g cap n:Nat) (xs:List Value) (hs:a.eval s=.slice (some ⟨g,0,none⟩) n cap) (aS:aJ w base e size (.slice (some ⟨g,0,none⟩) n cap) n xs)
  (ad:Addr) (m c:Nat) (news:List Value) (hx:a.eval x=.slice (some ad) m c) (hl:news.length=m * size) (bM:∀ j u,news[j]?=some u->w.cell? (ad.add j)=some u) (h1:∀ u∈news,u.oneCell'=true) (ng:n+m<=cap)
  (h:∀ w',aJ w' base e size (.slice (some ⟨g,0,none⟩) (n+m) cap) (n+m) (xs++news)->w.grownBy w' (some g)->w'.heap.size=w.heap.size->wpList P ops Q rest (a.put o.dst (.slice (some ⟨g,0,none⟩) (n+m) cap)) w'):wpList P ops Q (o :: rest) a w:=by
 refine wpList_plain Lx fun _ hK=>?_
 obtain⟨w',hr,h2,h3,h4⟩:=AA (P:=P) w base t o.type e i size ht hi gr g cap n xs aS ad m c news hl bM h1 ng;unfold Oper.wp execOp;simp only[ho,resolve,invoke,builtin,Sem.run_bind,Sem.run_pure,Result.andThen_ok,List.map_toArray,List.map_cons,List.map_nil,hs,hx,hr];exact hK _ _ (h w' h2 h3 h4)
theorem aJ.shrink{w:World} {base:Nat} {e:TypeId} {k:Nat} {g cap n m:Nat} {xs ys:List Value} (h:aJ w base e k (.slice (some ⟨g,0,none⟩) (n+m) cap) (n+m) (xs++ys)) (hx:xs.length=n * k):aJ w base e k (.slice (some ⟨g,0,none⟩) n cap) n xs:=by
 obtain⟨hl,h⟩:=h;rcases h with ⟨h,_⟩|⟨g',cap',cur,fz,h,DJ,hg,Aj,Lj,DM,xK,ht⟩
 ·cases h
 cases h
 refine⟨hx,.inr ⟨g,cap,cur,fz,rfl,DJ,hg,Aj,by omega,DM,xK,?_⟩⟩;have h2:=congrArg (List.take (n * k)) ht;rw[List.take_take,List.take_append_of_le_length (by omega),List.take_of_length_le (by omega:xs.length<=n * k)]at h2;rw[<-h2];congr 1;have:=Nat.mul_le_mul_right k (Nat.le_add_right n m);omega
theorem dQ.up{w w':World} {b:Nat} {f:List (Rd × Int)} (h:dQ w b f) (hb:Below w.heap.size w w'):dQ w' b f:=h.kept (hb.block _ h.lt)
theorem zn(l:List Mv) (r:Rd):dn (l.map fun m=>(m.r,m.to)) r=(l.find? fun m=>decide (r=m.r)).map (·.to):=by
 unfold dn;rw[List.find?_map];simp only[Option.map_map];rfl
theorem O4(a:Adv) (s:Nat) (hs:s<a.states.length) (r:Rd):toS a s r=(dn (a.states[s].map fun m=>(m.r,m.to)) r).getD (-1):=by
 unfold toS;rw[zn,Int.toNat_natCast,aj [] hs]
theorem PY{a:Adv} (h:∀ s,s<a.states.length->stateE a (a.states.getD s [])=0) {s:Nat} (hs:s<a.states.length) {r:Rd} {x:Int} (hg:dn (a.states[s].map fun m=>(m.r,m.to)) r=some x):0<=x/\x<a.states.length:=by
 rw[zn]at hg;cases hf:a.states[s].find? (fun m=>decide (r=m.r)) with
 | none=>rw[hf]at hg;simp at hg
 | some m=>
  rw[hf]at hg;have hm:=List.mem_of_find?_eq_some hf;obtain⟨j,hj,rfl⟩:=List.getElem_of_mem hm;simp only[Option.map_some,Option.some.injEq]at hg;rw[<-hg];exact(fB h hs hj).2
theorem vB{k l:IntKind} {a b c d:Int} (h1:a=b) (h2:c=d):Ending.returned (.tuple #[.int k a,.int l c])=.returned (.tuple #[.int k b,.int l d]):=by rw[h1,h2]
def fL(a:Adv) (word:List Rd):Int × Int:=if advE a≠0 then(0,advE a) else if aQ a 0 word<0 then(0,25) else(aQ a 0 word,0)
theorem D6(a:Adv) (s:Int) (word:List Rd) (k:Nat) (hk:k<word.length):aQ a s (word.drop k)=if toS a s word[k]<0 then -1 else aQ a (toS a s word[k]) (word.drop (k+1)):=by
 rw[cA hk,aQ]
theorem Gq(a:Adv) (v u:Value) (word:List Rd) (w:World) (hv:cO w v a.states) (hu:iP w u word) (hN:az a.states<1099511627776) :
  Calls Tryz.prog 245 #[.agg #[.int .i64 a.n,v],u] w fun e w'=>e=.returned (.tuple #[.int .i64 (fL a word).1,.int .i64 (fL a word).2])/\Below w.heap.size w w':=by
 have G:=ab hv;obtain⟨pa,ca,rfl,la1,la2,_⟩:=hv.at;obtain⟨pu,cu,rfl,lu1,lu2,eu⟩:=hu.at;clear hv hu;have EU:=ab eu;clear eu
 go_enter Tryz.func245,Tryz.ntmps245
 go_wp2_with fail
 refine dB (fun W=>Below w.heap.size w W/\W.heap[w.heap.size]?=some (.cells #[.int .i64 a.n,.slice pa a.states.length ca] 27)) ⟨by go_grown,aA _ _⟩ (fun W0 dF=>?_);obtain⟨bw,jB⟩:=dF;refine(BB a _ W0 (G.o.up up_moves bw) hN).mono ?_;rintro e w1 ⟨rfl,aK⟩;have fo:=ak bw aK;have rE:=aq aK jB;have t1:=ae rE;by_cases he:advE a=0
 case neg=>
  have HV:bc (fL a word=(0,advE a)):=by(have h:fL a word=(0,advE a):=by(unfold fL;rw[if_pos he]));exact h
  generalize advE a=ea at he HV;have he':(ea != 0)=true:=by simpa using he
  clear rE jB
  go_wp2_with fail
  go_ret2
  refine⟨vB ?_ ?_,fo⟩<;>rw[HV.o]
 have HV:bc (fL a word=if aQ a 0 word<0 then(0,25) else(aQ a 0 word,0)):=by(have h:fL a word=if aQ a 0 word<0 then(0,25) else(aQ a 0 word,0):=by(unfold fL;rw[if_neg (by simpa using he)]));exact h
 obtain⟨⟨gg,eV⟩,cJ,_⟩:=cZ he;rw[he];have K7:=ab cJ;clear cJ he;have Oq:=ab rE;clear rE jB
 go_wp2_with fail
 refine(IS a _ w1 (G.o.up up_moves fo) gg eV (Aw K7.o)).mono ?_;rintro e w2 ⟨ut,rfl,htab,bo⟩;have DH:=ak fo bo;have HTAB:=ab htab;obtain⟨B,rfl,_⟩:=htab;clear t1 bo aK bw W0
 go_wp2_with fail
 go_loopw [8,22] (fun st i wr=>Below w2.heap.size w2 wr/\∃ (k s:Nat),k<=word.length/\i=.int .i64 k/\s<a.states.length/\st=.int .i64 s/\aQ a 0 word=aQ a s (word.drop k)) (fun _ i _=>word.length - (intOf i).toNat)
 ·exact⟨Below.refl _ _,0,0,by omega,rfl,by omega,rfl,by simp⟩
 ·
  obtain⟨ba,k,s,hk,rfl,hs,rfl,bB⟩:=hrel;have H:=ab bB;clear bB;have df:=ak DH ba;by_cases aG:k<word.length
  ·obtain⟨b1,o1,rfl,⟨c0,_⟩,⟨c1,_⟩,⟨c2,_⟩,⟨c3,_⟩,⟨c4,_⟩,⟨c5,_⟩,⟨c6,_⟩⟩:=EU.o k aG;have d0:=aC df c0;have d1:=aC df c1;have d2:=aC df c2;have d3:=aC df c3;have d4:=aC df c4;have d5:=aC df c5;have d6:=aC df c6;clear c0 c1 c2 c3 c4 c5 c6;have Ij:=ab (D6 a s word k aG);generalize word[k]=r at d0 d1 d2 d3 d4 d5 d6 Ij;have HRNG:=ab (rN K7.o s hs r);obtain⟨b,Rn,hmb⟩:=(by obtain⟨B',e,h⟩:=HTAB.o;cases e;exact h s hs:∃ b,w2.cell? ⟨B,s,none⟩=some (.map (some b))/\dQ w2 b (a.states[s].map fun m=>(m.r,m.to)));have HGET:=ab (O4 a s hs r)
   go_wp2_with fail
   clear d0 d1 d2 d3 d4 d5 d6;refine eE (fun W=>Below wr.heap.size wr W/\W.heap[wr.heap.size]?=some (.cells #[.int .i64 r.g.n,.int .i64 r.g.h0,.int .i64 r.g.h1,.int .i64 r.g.h2,.int .i64 r.g.h3,.int .i64 r.g.h4,.int .i64 r.f] 109)) ⟨by go_grown,aA _ _⟩ (fun V hV=>?_);obtain⟨nZ,hR⟩:=hV;have k1:∀ x:ExtW V,∀ o,x.val.cell? ⟨wr.heap.size,o,none⟩=_:=fun x=>ae (aq x.ext hR)
   have k2:∀ x:ExtW V,x.val.cell? ⟨B,s,none⟩=some (.map (some b)):=fun x=>x.cell (aC (ak ba nZ) Rn)
   have hmx:∀ x:ExtW V,dQ x.val b (a.states[s].map fun m=>(m.r,m.to)):=fun x=>hmb.up (ak (ak ba nZ) x.ext)
   have HMX:=ab hmx;clear hR Rn hmb hmx;have hsI:(s:Int)<(a.states.length:Int):=by omega
   have lu:(0:Int)<=(s:Int):=by omega
   cases hg:dn (a.states[s].map fun m=>(m.r,m.to)) r with
   | none=>
    have k3:∀ x:ExtW V,(Instr.lookup 357 (.map (some b)) r.v true).run Tryz.prog x.val=.ok (.tuple #[.int .i64 0,.bool false]) x.val:=fun x=>(zl (HMX.o x) r).1 hg
    have HT:bc (toS a s r=-1):=by(have h:toS a s r=-1:=by(rw[HGET.o,hg];rfl));exact h
    clear hg;refine bI (by kernel_rfl) (by kernel_rfl) ?_
    repeat (go_big_quiet_step (fail))
    refine wpQuiet_nil ?_;intro _ jT;obtain⟨xq,gW⟩:=jT;subst gW;clear k1 k2 k3
    go_wp2_with fail
    go_ret2
    refine⟨vB ?_ ?_,ak (ak df nZ) xq.ext⟩<;>(rw[HV.o,H.o,Ij.o,HT.o];rfl)
   | some x0=>
    have k3:∀ x:ExtW V,(Instr.lookup 357 (.map (some b)) r.v true).run Tryz.prog x.val=.ok (.tuple #[.int .i64 x0,.bool true]) x.val:=fun x=>(zl (HMX.o x) r).2 x0 hg
    have HT:bc (toS a s r=x0):=by(have h:toS a s r=x0:=by(rw[HGET.o,hg];rfl));exact h
    obtain⟨p7,ip⟩:=PY K7.o hs hg;clear hg;refine bI (by kernel_rfl) (by kernel_rfl) ?_
    repeat (go_big_quiet_step (fail))
    refine wpQuiet_nil ?_;intro _ jT;obtain⟨xq,gW⟩:=jT;subst gW;clear k1 k2 k3
    go_wp2_with fail
    go_roundw
    ·
     refine⟨ak (ak ba nZ) xq.ext,k+1,x0.toNat,by omega,by go_num,by omega,by rw[Int.toNat_of_nonneg p7],?_⟩;rw[H.o,Ij.o,HT.o,if_neg (by omega),Int.toNat_of_nonneg p7]
    ·simp[intOf];omega
  ·go_wp2_with fail
   go_ret2
   refine⟨vB ?_ ?_,df⟩ <;>
   ·rw[HV.o,H.o,List.drop_of_length_le (by omega),aQ,if_neg (by omega)]
def cz(a:Adv) (word:List Rd):Bool × Int:=if advE a≠0 then(false,advE a) else(decide (0<=aQ a 0 word),0)
theorem se{l:IntKind} {a b:Bool} {c d:Int} (h1:a=b) (h2:c=d):Ending.returned (.tuple #[.bool a,.int l c])=.returned (.tuple #[.bool b,.int l d]):=by rw[h1,h2]
theorem Gs(a:Adv) (v u:Value) (word:List Rd) (w:World) (hv:cO w v a.states) (hu:iP w u word) (hN:az a.states<1099511627776) (aV:advE a≠25) :
  Calls Tryz.prog 186 #[.agg #[.int .i64 a.n,v],u] w fun e w'=>e=.returned (.tuple #[.bool (cz a word).1,.int .i64 (cz a word).2])/\Below w.heap.size w w':=by
 have bw:Below w.heap.size w (w.alloc (.cells #[.int .i64 a.n,v] 27)):=by go_grown
 have HC:=ab (Gq a v u word _ (hv.up up_moves bw) (hu.up up_round bw) hN);obtain⟨pa,ca,rfl,_⟩:=hv.at;obtain⟨pu,cu,rfl,_⟩:=hu.at;clear hv hu
 go_enter Tryz.func186,Tryz.ntmps186
 go_wp2_with fail
 refine HC.o.mono ?_;rintro e w1 ⟨rfl,aK⟩;have fo:=ak bw aK;by_cases he:advE a=0
 ·by_cases hs:aQ a 0 word<0
  ·have h1:fL a word=(0,25):=by unfold fL;rw[if_neg (by simpa using he),if_pos hs]
   have HV:bc (cz a word=(false,0)):=by(have h:cz a word=(false,0):=by(unfold cz;rw[if_neg (by simpa using he)];simp;omega));exact h
   rw[h1];clear h1 he hs aV
   go_wp2_with fail
   go_ret2
   refine⟨se ?_ ?_,fo⟩<;>rw[HV.o]
  ·have h1:fL a word=(aQ a 0 word,0):=by unfold fL;rw[if_neg (by simpa using he),if_neg hs]
   have HV:bc (cz a word=(true,0)):=by(have h:cz a word=(true,0):=by(unfold cz;rw[if_neg (by simpa using he)];simp;omega));exact h
   rw[h1];clear h1 he hs aV
   go_wp2_with fail
   go_ret2
   refine⟨se ?_ ?_,fo⟩<;>rw[HV.o]
 ·have h1:fL a word=(0,advE a):=by unfold fL;rw[if_pos he]
  have HV:bc (cz a word=(false,advE a)):=by(have h:cz a word=(false,advE a):=by(unfold cz;rw[if_pos he]));exact h
  rw[h1];generalize advE a=ea at he aV HV;have oP:(ea == 0)=false:=by simpa using he
  have Ah:(ea == 25)=false:=by simpa using aV
  clear h1 he aV
  go_wp2_with fail
  go_ret2
  refine⟨se ?_ ?_,fo⟩<;>rw[HV.o]
theorem zo{w:World} {base:Nat} {v:Value} {l:List UInt8} (h:aJ w base 5 1 v l.length (l.map dp)) (hl:0<l.length):∃ g c,v=.slice (some ⟨g,0,none⟩) l.length c/\(convert 324 9 v).run Tryz.prog w=.ok (.string (bytesOf l)) w:=by
 rcases h.2 with ⟨_,hz⟩|⟨g,cap,cur,fz,rfl,_,hg,_,tp,_,_,_⟩
 ·omega
 ·refine⟨g,cap,rfl,?_⟩
  exact run_convert_bytes_back w _ _ 5 ⟨g,0,none⟩ cap l Tryz.underlying324 Tryz.underlying5 Tryz.underlying9 (fun j hj=>by
   obtain⟨g',c',e1,e2⟩:=h.cell j (dp l[j]) (by rw[List.getElem?_map,List.getElem?_eq_getElem hj];rfl);have:g=g':=by simp at e1;exact e1.1
   subst this;rw[<-e2];congr 1
   unfold Addr.add;split<;>simp_all)
theorem Gt(u:Value) (bs:List UInt8) (base:Nat) (w:World) (hu:aJ w base 5 1 u bs.length (bs.map dp)) (h0:0<bs.length) (h1:bs.length<=1048576) (hb:base<=w.heap.size) :
  Calls Tryz.prog 226 #[u] w fun e w'=>e=.returned (.string (bytesOf (tD bs)))/\Below base w w':=by
 obtain⟨i0,rF,dE,dc,dN⟩:=info_parts Tryz.infoByte;obtain⟨g,c,rfl,Ia⟩:=zo hu h0;have HU:=ab hu;have xV:=PT bs;have Rr:=ab (rY (bytesOf bs) (by show bs.toArray.size<=_;simp;omega) w);have ve:(bytesOf bs).data.toList=bs:=by simp[bytesOf]
 rw[ve]at Rr;have FP:bc (tD bs=bs++[UInt8.ofNat (ckS bs / 256),UInt8.ofNat (ckS bs % 256)]):=by exact rfl
 generalize ckS bs=ck at xV Rr FP;obtain⟨z1,hz1'⟩:∃ z1,z1=ck / 256:=⟨_,rfl⟩;obtain⟨z2,hz2'⟩:∃ z2,z2=ck % 256:=⟨_,rfl⟩;rw[<-hz1',<-hz2']at FP;have DC:IntKind.u8.wrap ((ck:Int) / 256)=(z1:Int):=by rw[IntKind.wrap_u8];omega
 have xN:IntKind.u8.wrap (ck:Int)=(z2:Int):=by rw[IntKind.wrap_u8];omega
 have HB1:=ab (fZ z1 (by omega));have Q3:=ab (fZ z2 (by omega));clear hu ve hz1' hz2'
 go_enter Tryz.func226,Tryz.ntmps226
 go_wp2_with fail
 refine Rr.o.mono ?_;rintro e w1 ⟨rfl,aK⟩;have hA:Below w1.heap.size w1 (w1.alloc (.cells #[.int .u8 (z1:Int),.int .u8 (z2:Int)] 5)):=by go_grown
 have fw:=ab ((HU.o.up aK).up hA)
 have bM:∀ j u',[Value.int .u8 (z1:Int),.int .u8 (z2:Int)][j]?=some u'->(w1.alloc (.cells #[.int .u8 (z1:Int),.int .u8 (z2:Int)] 5)).cell? (Addr.add ⟨w1.heap.size,0,none⟩ j)=some u':=fun j u' hj=>by
  have e1:(Addr.add ⟨w1.heap.size,0,none⟩ j)=⟨w1.heap.size,j,none⟩:=by unfold Addr.add;split<;>simp_all
  rw[e1,ae (aA w1 _)];simpa using hj
 have fV:=ab bM;have HB1':=ab aK;have gg:=aK.size;clear bM hA Ia
 go_wp2_with (at_builtin;(refine eh _ rfl (.tmp 7) (.tmp 13) 324 rfl base 5 i0 _ 1 1 Tryz.underlying324 rF dE dc dN rfl (by decide) _ bs.length _ rfl fw.o ⟨w1.heap.size,0,none⟩ 2 2 [.int .u8 (z1:Int),.int .u8 (z2:Int)] rfl rfl fV.o (by simp[Value.oneCell']) (by unfold maxLen;omega) (by omega) (by simp;omega) ?_;intro v' w3 gq gz NU;rw[<-HB1.o,<-Q3.o]at gq;obtain⟨g',c',rfl,Rn⟩:=zo (l:=tD bs) (by rw[FP.o];simpa using gq) (by rw[FP.o];simp);clear gq))
 go_ret
 refine⟨rfl,?_⟩;exact Below.grown ((HB1'.o.mono hb).alloc (by omega) _) gz (by simp;omega) (fun g hg=>(fw.o.lt g hg).1)
end Go.Proofs.YtiocdkdkndpgkaaGreat
namespace Go.Proofs.YtiocdkdkndpgkaaGreat
open Go.RowKit Go Go.Shelf
attribute [local go_sem] Oper.semAt_some
abbrev mf(p:Pb) (vc vs:Value) (i:Int) (u d:Value) (f:Int):Array Value:=#[.int .i64 p.t.n,.int .i64 p.t.ins,.int .i64 p.t.outs,vc,.int .i64 p.a.n,vs,.int .i64 p.rounds,.int .i64 i,u,d,.int .i64 f]
theorem D7(p:Pb) (pc:Option Addr) (nc cc:Nat) (ps:Option Addr) (ns cs:Nat) (i:Int) (pu:Option Addr) (nu cu:Nat) (pd:Option Addr) (nd cd:Nat) (f:Int) (w:World) :
  Calls Tryz.prog 213 #[.agg (mf p (.slice pc nc cc) (.slice ps ns cs) i (.slice pu nu cu) (.slice pd nd cd) f)] w fun e w'=>e=.returned (.func (.func 258) #[] #[.pointer (some ⟨w.heap.size,0,none⟩)])/\w'=w.alloc (.cells (mf p (.slice pc nc cc) (.slice ps ns cs) i (.slice pu nu cu) (.slice pd nd cd) f) 157):=by
 go_enter Tryz.func213,Tryz.ntmps213
 go_wp2
 go_ret
 exact⟨rfl,rfl⟩
def Gu(n:Nat) (f:Int) (i:Nat):Array Value:=#[.int .i64 ((aW n f).getD i 0)]
theorem BE(p:Pb) (vc vs:Value) (ix:Int) (u d:Value) (f:Int) (n:Nat) (hn:p.t.n=n) (hn5:n<=5) (w:World) (Bx:Nat) (hx:w.heap[Bx]?=some (.cells (mf p vc vs ix u d f) 157)) :
  FZ Tryz.prog 258 #[.pointer (some ⟨Bx,0,none⟩)] (Gu n f) (aW n f).length (fun k=>k=Bx) w:=by
 intro yl J Jx W hW hJ Ao hY h0;have ip:=aq hW hx;clear hx hW;have HN:=ab hn;have HJ:=ab hJ;clear hJ;have Ol:=ab Ao;clear Ao;have HY:=ab hY;clear hY;have t1:=ae ip;refine(callsIn_wide (n:=0)).1 ?_;refine callsIn_of_wp Tryz.func258 rfl trivial ?_ rfl;simp only[Tryz.ntmps258,List.size_toArray,List.length_cons,List.length_nil,Nat.reduceAdd,Nat.reduceSub,Array.replicate_succ,Array.replicate_zero,List.push_toArray,List.append_toArray,List.nil_append,List.cons_append]
 gi_wp2
 clear t1 hn
 gi_loopw [8] (fun i wr=>∃ q:Nat,q<=n/\i=.int .i64 q/\wr.heap[Bx]?=some (.cells (mf p vc vs ix u d f) 157)/\J (aW q f).length wr) (fun i _=>n - (intOf i).toNat)
 ·exact⟨0,by omega,rfl,ip,h0⟩
 ·
  obtain⟨q,hq,rfl,FA,hj⟩:=hrel;have Do:=ab hj;clear hj;have HXR:=ab FA;have t1:=ae FA;clear FA;have jH:=oC f q;by_cases aG:q<n
  ·cases hb:bX f q with
   | true=>
    have HB:=ab hb;rw[hb]at jH;clear hb
    gi_wp2
    refine⟨fun _ h=>(by cases h),?_⟩
    gi_wp2
    go_roundw
    ·exact⟨q+1,by omega,by go_num,HXR.o,by rw[iW,HB.o];exact Do.o⟩
    ·simp[intOf];omega
   | false=>
    have HB:=ab hb;rw[hb]at jH;clear hb;have eU:=yi f aG HB.o;obtain⟨fn,tmps,assign,body,hy,hR⟩:=HY.o (aW q f).length wr (by have:=(List.getElem?_eq_some_iff.1 eU).1;exact this) Do.o;have hen:Gu n f (aW q f).length=#[.int .i64 q]:=by unfold Gu;rw[List.getD_eq_getElem?_getD,eU];rfl
    rw[hen]at hy;have HR:=ab hR;clear hR hen;have im:=(List.getElem?_eq_some_iff.1 eU).1;clear eU
    gi_wp2
    refine⟨rfl,HR.o.mono ?_⟩;rintro e W3 (⟨rfl,Rl,Ft,mv⟩|⟨rfl,NG⟩)
    ·gi_wp2
     go_roundw
     ·exact⟨q+1,by omega,by go_num,(mv Bx rfl).trans HXR.o,by rw[iW,HB.o];simpa using Rl⟩
     ·simp[intOf];omega
    ·gi_wp2
     refine bodyPost_ret (results_none rfl _ _ _) rfl ?_;exact⟨⟨_,rfl⟩,.inr ⟨_,by omega,NG⟩⟩
  ·gi_wp2
   go_end0
   obtain rfl:q=n:=by omega
   exact⟨⟨_,rfl⟩,.inl Do.o⟩
theorem uu(tmps:Array Value) (f:Func) (hf:f.results=#[.cell 2 3,.cell 3 4]) (B C:Nat) (W:World) (x:Int) (b:Bool) (ty ty':TypeId) (h1:tmps[2]?.getD undef=.pointer (some ⟨B,0,none⟩)) (h2:tmps[3]?.getD undef=.pointer (some ⟨C,0,none⟩))
  (hb:W.heap[B]?=some (.cells #[.int .i64 x] ty)) (hc:W.heap[C]?=some (.cells #[.bool b] ty')) :
  (results f tmps).run Tryz.prog W=.ok (.tuple #[.int .i64 x,.bool b]) W:=by
 have c:=ae hb 0;have d:=ae hc 0;simp at c d;simp[results,hf,go_sem,h1,h2,c,d]
theorem IU{k:IntKind} {a b:Int} {c d:Bool} (h1:a=b) (h2:c=d):Ending.returned (.tuple #[.int k a,.bool c])=.returned (.tuple #[.int k b,.bool d]):=by rw[h1,h2]
end Go.Proofs.YtiocdkdkndpgkaaGreat
namespace Go.Proofs.YtiocdkdkndpgkaaGreat
open Go.ChangeShapes Go.WideShapes Go.ChangeAt Go.RowKit Go
theorem Tryz.own:ownKnob Tryz.prog.godebug=none:=by kernel_rfl
theorem Tryz.laidOut:laidOutB Tryz.prog=true:=by kernel_rfl
section
variable {H : Type} {enc : TypeId × Value → H} {w : World}
theorem Tryz.cWord:Tryz.prog.cellsOf 39=1:=by kernel_rfl
end
section
variable {H : Type} {enc : TypeId × Value → H} {w : World}
theorem PZ{l:List Value} (h:l.length=2):∃ c0 c1,l=[c0,c1]:=by
 match l,h with
 | [c0,c1],_=>exact⟨c0,c1,rfl⟩
theorem Tryz.cPlay58:Tryz.prog.cellsOf 55=2:=by kernel_rfl
theorem D8{fuel:Nat} {cs:List Value} {x:DataW H × List MemPlace} (h:iS enc w fuel 55 cs x) (hz:nC 55 x.1) :
  ∃ (y:Py) (vi u:Value),cs=[vi,u]/\cW w vi y.inp/\iP w u y.word:=by
 obtain⟨hl,n,hf⟩:=kE Tryz.underlying55 h hz;rw[Tryz.cPlay58]at hl;obtain⟨c0,c1,rfl⟩:=PZ hl;obtain⟨u0,s0,q0⟩:=hf 0 _ rfl;obtain⟨u1,s1,q1⟩:=hf 1 _ rfl;change iS enc w n 38 (([c0,c1].drop 0).take (Tryz.prog.cellsOf 38)) u0 at s0;change iS enc w n 39 (([c0,c1].drop 1).take (Tryz.prog.cellsOf 39)) u1 at s1;change nC 38 u0.1 at q0;change nC 39 u1.1 at q1;rw[Tryz.cInts]at s0;rw[Tryz.cWord]at s1;obtain⟨v0,l0,e0,g0⟩:=pz Tryz.underlying38 Tryz.cInt (by omega) (of_decide_eq_true (by kernel_rfl)) opn_int s0 q0;obtain⟨v1,l1,e1,g1⟩:=pz Tryz.underlying39 Tryz.cRound (by omega) (of_decide_eq_true (by kernel_rfl)) opn_round s1 q1;simp at e0 e1;subst e0 e1;exact⟨⟨_,_⟩,_,_,rfl,g0,g1⟩
end
end Go.Proofs.YtiocdkdkndpgkaaGreat
