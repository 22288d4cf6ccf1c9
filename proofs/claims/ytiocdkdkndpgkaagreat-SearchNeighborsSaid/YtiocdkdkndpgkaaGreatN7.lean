/-
  A part of the proof: lemmas and contracts that the parts behind it use. Each one's conditions are its own premises.
-/
import Derived.Test.YtiocdkdkndpgkaaGreatProg
import Derived.Test.YtiocdkdkndpgkaaGreatN6
set_option maxRecDepth 100000
set_option maxHeartbeats 8000000
set_option linter.unusedVariables false
set_option linter.unusedSimpArgs false
namespace Go.Proofs.YtiocdkdkndpgkaaGreat
open Go
@[simp] theorem ty0:ai Tryz.prog 0=⟨true,false,1,some [.tuple #[]],0,0,0,[],0,none⟩:=by kernel_rfl
@[simp] theorem ty3:ai Tryz.prog 3=⟨true,false,1,some [.int .i64 0],0,0,0,[],8,some .i64⟩:=by kernel_rfl
@[simp] theorem ty4:ai Tryz.prog 4=⟨true,false,1,some [.bool false],5,0,0,[],1,none⟩:=by kernel_rfl
@[simp] theorem ty5:ai Tryz.prog 5=⟨true,false,1,some [.int .u8 0],0,0,0,[],1,some .u8⟩:=by kernel_rfl
@[simp] theorem ty9:ai Tryz.prog 9=⟨true,false,1,some [.string ⟨#[]⟩],4,0,0,[],16,none⟩:=by kernel_rfl
@[simp] theorem ty22:ai Tryz.prog 22=⟨true,false,1,some [.slice none 0 0],3,94,0,[],24,none⟩:=by kernel_rfl
@[simp] theorem ty24:ai Tryz.prog 24=⟨true,true,4,some [.int .i64 0,.int .i64 0,.int .i64 0,.slice none 0 0],1,0,0,[(0,3),(1,3),(2,3),(3,22)],48,none⟩:=by kernel_rfl
@[simp] theorem ty25:ai Tryz.prog 25=⟨true,false,1,some [.slice none 0 0],3,184,0,[],24,none⟩:=by kernel_rfl
@[simp] theorem ty27:ai Tryz.prog 27=⟨true,true,2,some [.int .i64 0,.slice none 0 0],1,0,0,[(0,3),(1,25)],32,none⟩:=by kernel_rfl
@[simp] theorem ty29:ai Tryz.prog 29=⟨true,true,7,some [.int .i64 0,.int .i64 0,.int .i64 0,.slice none 0 0,.int .i64 0,.slice none 0 0,.int .i64 0],1,0,0,[(0,24),(4,27),(6,3)],88,none⟩:=by kernel_rfl
@[simp] theorem ty30:ai Tryz.prog 30=⟨true,false,1,some [.slice none 0 0],3,38,0,[],24,none⟩:=by kernel_rfl
@[simp] theorem ty31:ai Tryz.prog 31=⟨true,false,1,some [.slice none 0 0],3,33,0,[],24,none⟩:=by kernel_rfl
@[simp] theorem ty32:ai Tryz.prog 32=⟨true,false,1,some [.slice none 0 0],3,149,0,[],24,none⟩:=by kernel_rfl
@[simp] theorem ty33:ai Tryz.prog 33=⟨true,false,1,some [.slice none 0 0],3,30,0,[],24,none⟩:=by kernel_rfl
@[simp] theorem ty35:ai Tryz.prog 35=⟨true,true,8,some [.int .i64 0,.int .i64 0,.int .i64 0,.int .i64 0,.slice none 0 0,.slice none 0 0,.slice none 0 0,.slice none 0 0],1,0,0,[(0,3),(1,3),(2,3),(3,3),(4,30),(5,31),(6,32),(7,33)],128,none⟩:=by kernel_rfl
@[simp] theorem ty38:ai Tryz.prog 38=⟨true,false,1,some [.slice none 0 0],3,3,0,[],24,none⟩:=by kernel_rfl
@[simp] theorem ty39:ai Tryz.prog 39=⟨true,false,1,some [.slice none 0 0],3,109,0,[],24,none⟩:=by kernel_rfl
@[simp] theorem ty40:ai Tryz.prog 40=⟨true,false,1,some [.slice none 0 0],3,125,0,[],24,none⟩:=by kernel_rfl
@[simp] theorem ty42:ai Tryz.prog 42=⟨true,true,6,some [.slice none 0 0,.slice none 0 0,.slice none 0 0,.slice none 0 0,.slice none 0 0,.slice none 0 0],1,0,0,[(0,38),(1,39),(2,30),(3,40),(4,38),(5,38)],144,none⟩:=by kernel_rfl
@[simp] theorem ty43:ai Tryz.prog 43=⟨true,false,1,some [.int .i64 0],0,0,0,[],8,some .i64⟩:=by kernel_rfl
@[simp] theorem ty55:ai Tryz.prog 55=⟨true,true,2,some [.slice none 0 0,.slice none 0 0],1,0,0,[(0,38),(1,39)],48,none⟩:=by kernel_rfl
@[simp] theorem ty56:ai Tryz.prog 56=⟨true,false,1,some [.slice none 0 0],3,55,0,[],24,none⟩:=by kernel_rfl
@[simp] theorem ty59:ai Tryz.prog 59=⟨true,false,1,some [.slice none 0 0],3,62,0,[],24,none⟩:=by kernel_rfl
@[simp] theorem ty62:ai Tryz.prog 62=⟨true,true,2,some [.slice none 0 0,.slice none 0 0],1,0,0,[(0,38),(1,39)],48,none⟩:=by kernel_rfl
@[simp] theorem ty82:ai Tryz.prog 82=⟨true,false,1,some [.slice none 0 0],3,239,0,[],24,none⟩:=by kernel_rfl
@[simp] theorem ty84:ai Tryz.prog 84=⟨true,true,2,some [.int .i64 0,.slice none 0 0],1,0,0,[(0,3),(1,82)],32,none⟩:=by kernel_rfl
@[simp] theorem ty85:ai Tryz.prog 85=⟨true,false,1,some [.slice none 0 0],3,92,0,[],24,none⟩:=by kernel_rfl
@[simp] theorem ty87:ai Tryz.prog 87=⟨true,true,10,some [.int .i64 0,.int .i64 0,.int .i64 0,.slice none 0 0,.int .i64 0,.slice none 0 0,.int .i64 0,.int .i64 0,.slice none 0 0,.slice none 0 0],1,0,0,[(0,29),(7,84),(9,85)],144,none⟩:=by kernel_rfl
@[simp] theorem ty92:ai Tryz.prog 92=⟨true,true,3,some [.int .i64 0,.slice none 0 0,.slice none 0 0],1,0,0,[(0,3),(1,39),(2,30)],56,none⟩:=by kernel_rfl
@[simp] theorem ty94:ai Tryz.prog 94=⟨true,true,3,some [.slice none 0 0,.slice none 0 0,.slice none 0 0],1,0,0,[(0,38),(1,30),(2,30)],72,none⟩:=by kernel_rfl
@[simp] theorem ty105:ai Tryz.prog 105=⟨true,true,5,some [.int .i64 0,.int .i64 0,.int .i64 0,.int .i64 0,.int .i64 0],2,3,5,[],40,none⟩:=by kernel_rfl
@[simp] theorem ty107:ai Tryz.prog 107=⟨true,true,6,some [.int .i64 0,.int .i64 0,.int .i64 0,.int .i64 0,.int .i64 0,.int .i64 0],1,0,0,[(0,3),(1,105)],48,none⟩:=by kernel_rfl
@[simp] theorem ty109:ai Tryz.prog 109=⟨true,true,7,some [.int .i64 0,.int .i64 0,.int .i64 0,.int .i64 0,.int .i64 0,.int .i64 0,.int .i64 0],1,0,0,[(0,107),(6,3)],56,none⟩:=by kernel_rfl
@[simp] theorem ty125:ai Tryz.prog 125=⟨true,true,4,some [.int .i64 0,.int .i64 0,.int .i64 0,.string ⟨#[]⟩],1,0,0,[(0,3),(1,3),(2,3),(3,9)],40,none⟩:=by kernel_rfl
@[simp] theorem ty149:ai Tryz.prog 149=⟨true,true,8,some [.int .i64 0,.int .i64 0,.int .i64 0,.int .i64 0,.int .i64 0,.int .i64 0,.int .i64 0,.int .i64 0],1,0,0,[(0,3),(1,3),(2,105),(7,3)],64,none⟩:=by kernel_rfl
@[simp] theorem ty152:ai Tryz.prog 152=⟨true,false,1,some [.nilFunc],0,0,0,[],8,none⟩:=by kernel_rfl
@[simp] theorem ty157:ai Tryz.prog 157=⟨true,true,11,some [.int .i64 0,.int .i64 0,.int .i64 0,.slice none 0 0,.int .i64 0,.slice none 0 0,.int .i64 0,.int .i64 0,.slice none 0 0,.slice none 0 0,.int .i64 0],1,0,0,[(0,29),(7,3),(8,39),(9,38),(10,3)],152,none⟩:=by kernel_rfl
@[simp] theorem ty162:ai Tryz.prog 162=⟨true,false,1,some [.slice none 0 0],3,39,0,[],24,none⟩:=by kernel_rfl
@[simp] theorem ty166:ai Tryz.prog 166=⟨true,false,1,some [.pointer none],0,0,0,[],8,none⟩:=by kernel_rfl
@[simp] theorem ty167:ai Tryz.prog 167=⟨true,false,1,some [.map none],0,0,0,[],8,none⟩:=by kernel_rfl
@[simp] theorem ty169:ai Tryz.prog 169=⟨true,true,3,some [.int .i64 0,.slice none 0 0,.map none],1,0,0,[(0,3),(1,82),(2,167)],40,none⟩:=by kernel_rfl
@[simp] theorem ty184:ai Tryz.prog 184=⟨true,false,1,some [.slice none 0 0],3,188,0,[],24,none⟩:=by kernel_rfl
@[simp] theorem ty185:ai Tryz.prog 185=⟨true,true,2,some [.int .i64 0,.int .i64 0],2,3,2,[],16,none⟩:=by kernel_rfl
@[simp] theorem ty186:ai Tryz.prog 186=⟨true,false,1,some [.slice none 0 0],3,185,0,[],24,none⟩:=by kernel_rfl
@[simp] theorem ty188:ai Tryz.prog 188=⟨true,true,8,some [.int .i64 0,.int .i64 0,.int .i64 0,.int .i64 0,.int .i64 0,.int .i64 0,.int .i64 0,.int .i64 0],1,0,0,[(0,109),(7,3)],64,none⟩:=by kernel_rfl
@[simp] theorem ty219:ai Tryz.prog 219=⟨true,false,1,some [.slice none 0 0],3,152,0,[],24,none⟩:=by kernel_rfl
@[simp] theorem ty222:ai Tryz.prog 222=⟨true,false,1,some [.nilFunc],0,0,0,[],8,none⟩:=by kernel_rfl
@[simp] theorem ty224:ai Tryz.prog 224=⟨true,true,2,some [.int .i64 0,.nilFunc],1,0,0,[(0,3),(1,222)],16,none⟩:=by kernel_rfl
@[simp] theorem ty225:ai Tryz.prog 225=⟨true,false,1,some [.slice none 0 0],3,224,0,[],24,none⟩:=by kernel_rfl
@[simp] theorem ty239:ai Tryz.prog 239=⟨true,true,8,some [.int .i64 0,.int .i64 0,.int .i64 0,.int .i64 0,.int .i64 0,.int .i64 0,.int .i64 0,.int .i64 0],1,0,0,[(0,3),(1,3),(2,3),(3,105)],64,none⟩:=by kernel_rfl
@[simp] theorem ty249:ai Tryz.prog 249=⟨true,true,3,some [.int .i64 0,.int .i64 0,.int .i64 0],1,0,0,[(0,3),(1,3),(2,3)],24,none⟩:=by kernel_rfl
@[simp] theorem ty287:ai Tryz.prog 287=⟨true,false,1,some [.map none],0,0,0,[],8,none⟩:=by kernel_rfl
@[simp] theorem ty288:ai Tryz.prog 288=⟨true,true,42,some [.int .i64 0,.int .i64 0,.int .i64 0,.int .i64 0,.int .i64 0,.int .i64 0,.int .i64 0,.int .i64 0,.int .i64 0,.int .i64 0,.int .i64 0,.int .i64 0,.int .i64 0,.int .i64 0,.int .i64 0,.int .i64 0,.int .i64 0,.int .i64 0,.int .i64 0,.int .i64 0,.int .i64 0,.int .i64 0,.int .i64 0,.int .i64 0,.int .i64 0,.int .i64 0,.int .i64 0,.int .i64 0,.int .i64 0,.int .i64 0,.int .i64 0,.int .i64 0,.int .i64 0,.int .i64 0,.int .i64 0,.int .i64 0,.int .i64 0,.int .i64 0,.int .i64 0,.int .i64 0,.int .i64 0,.int .i64 0],2,109,6,[],336,none⟩:=by kernel_rfl
@[simp] theorem ty290:ai Tryz.prog 290=⟨true,true,47,some [.int .i64 0,.int .i64 0,.int .i64 0,.int .i64 0,.int .i64 0,.int .i64 0,.int .i64 0,.int .i64 0,.int .i64 0,.int .i64 0,.int .i64 0,.int .i64 0,.int .i64 0,.int .i64 0,.int .i64 0,.int .i64 0,.int .i64 0,.int .i64 0,.int .i64 0,.int .i64 0,.int .i64 0,.int .i64 0,.int .i64 0,.int .i64 0,.int .i64 0,.int .i64 0,.int .i64 0,.int .i64 0,.int .i64 0,.int .i64 0,.int .i64 0,.int .i64 0,.int .i64 0,.int .i64 0,.int .i64 0,.int .i64 0,.int .i64 0,.int .i64 0,.int .i64 0,.int .i64 0,.int .i64 0,.int .i64 0,.int .i64 0,.int .i64 0,.int .i64 0,.int .i64 0,.int .i64 0],1,0,0,[(0,105),(5,288)],376,none⟩:=by kernel_rfl
@[simp] theorem ty318:ai Tryz.prog 318=⟨true,true,7,some [.int .i64 0,.int .i64 0,.int .i64 0,.int .i64 0,.int .i64 0,.int .i64 0,.int .i64 0],1,0,0,[(0,3),(1,3),(2,105)],56,none⟩:=by kernel_rfl
@[simp] theorem ty335:ai Tryz.prog 335=⟨true,false,1,some [.int .u64 0],0,0,0,[],8,some .u64⟩:=by kernel_rfl
end Go.Proofs.YtiocdkdkndpgkaaGreat
namespace Go.Proofs.YtiocdkdkndpgkaaGreat
open Go.RowKit Go Go.Shelf
abbrev iD(n:Int):D:=.v (.int .i64 n)
abbrev bD(b:Bool):D:=.v (.bool b)
abbrev aT(l:List Int):D:=.fz 1 (l.map fun x=>[iD x])
abbrev ez(l:List (List Int)):D:=.fz 1 (l.map fun x=>[aT x])
abbrev nQ(r:Rd):List D:=[iD r.g.n,iD r.g.h0,iD r.g.h1,iD r.g.h2,iD r.g.h3,iD r.g.h4,iD r.f]
abbrev Fc(m:Mv):List D:=[iD m.r.g.n,iD m.r.g.h0,iD m.r.g.h1,iD m.r.g.h2,iD m.r.g.h3,iD m.r.g.h4,iD m.r.f,iD m.to]
abbrev sA(c:Cs):List D:=[aT c.inp,ez c.out,ez c.calm]
abbrev bK(l:List Rd):D:=.fz 7 (l.map nQ)
abbrev kV(l:List Mv):D:=.fz 8 (l.map Fc)
abbrev ja(l:List Cs):D:=.fz 3 (l.map sA)
abbrev gQ(l:List (List Mv)):D:=.fz 1 (l.map fun x=>[kV x])
abbrev zA(t:Tk):D:=.agg [iD t.n,iD t.ins,iD t.outs,ja t.cases]
abbrev gR(a:Adv):D:=.agg [iD a.n,gQ a.states]
abbrev eI(p:Pb):D:=.agg [iD p.t.n,iD p.t.ins,iD p.t.outs,ja p.t.cases,iD p.a.n,gQ p.a.states,iD p.rounds]
attribute [simp] IV
@[simp] theorem ix_int (l:List Int) (i:Nat):ix l i=l.getD i 0:=rfl
@[simp] theorem ix_ints (l:List (List Int)) (i:Nat):ix l i=l.getD i []:=rfl
@[simp] theorem ix_mvs (l:List (List Mv)) (i:Nat):ix l i=l.getD i []:=rfl
@[simp] theorem ix_mv (l:List Mv) (i:Nat):ix l i=l.getD i default:=rfl
@[simp] theorem ix_rd (l:List Rd) (i:Nat):ix l i=l.getD i default:=rfl
@[simp] theorem ix_cs (l:List Cs) (i:Nat):ix l i=l.getD i default:=rfl
theorem Fd(g:Gr) (t:List D) (k:Nat) (h:k<5):ix (iD g.n :: iD g.h0 :: iD g.h1 :: iD g.h2 :: iD g.h3 :: iD g.h4 :: t) (1+k)=iD (g.hear k):=by
 rcases (by omega:k=0\/k=1\/k=2\/k=3\/k=4) with e|e|e|e|e<;>subst e<;>rfl
theorem My(g:Gr) (t:List D) (k:Nat) (h:k<5):ix (iD g.n :: iD g.h0 :: iD g.h1 :: iD g.h2 :: iD g.h3 :: iD g.h4 :: t) (k+1)=iD (g.hear k):=by rw[Nat.add_comm];exact Fd g t k h
theorem Mz(g:Gr) (t:List D) (k:Nat) (h:k<5):ix (iD g.h0 :: iD g.h1 :: iD g.h2 :: iD g.h3 :: iD g.h4 :: t) k=iD (g.hear k):=by
 rcases (by omega:k=0\/k=1\/k=2\/k=3\/k=4) with e|e|e|e|e<;>subst e<;>rfl
@[simp] theorem hear_0 (g:Gr):g.hear 0=g.h0:=rfl
@[simp] theorem hear_1 (g:Gr):g.hear 1=g.h1:=rfl
@[simp] theorem hear_2 (g:Gr):g.hear 2=g.h2:=rfl
@[simp] theorem hear_3 (g:Gr):g.hear 3=g.h3:=rfl
@[simp] theorem hear_4 (g:Gr):g.hear 4=g.h4:=rfl
attribute [simp 3000] Fd My Mz
theorem aR{k:Nat} {p:Nat->Bool} (h:anyLt k p=false) (hp:p k=false):anyLt (k+1) p=false:=by simp[anyLt,h,hp]
theorem aY{k:Nat} {f:Nat->Int} (h:ay k f=0) (hp:f k=0):ay (k+1) f=0:=by simp[ay,h,hp]
theorem kW{k:Nat} {p:Nat->Bool} (h:firstIx k p=-1) (hp:p k=false):firstIx (k+1) p=-1:=by simp[firstIx,h,hp]
theorem aF{k n:Nat} {f:Nat->Int} (hk:k<n) (h:ay k f=0) (hz:f k≠0):ay n f=f k:=v5 n k f hk (bH h) hz
theorem R2{K:Cx} {s:AS} {k:AV->Prop} {d:Option Nat} {ty:TypeId} {pos:String} {af:Array Edge} {g:Option (Nat × Bool)} {X:Type} [DecidableEq X] {kt vt mt:TypeId} {z:Value} {enc:X->Value} {m i:Operand} {u} (kit:KeyKit K.P kt enc) (hm:K.P.underlying mt=some (.map kt vt)) (hz:∀ w,(zeroValue vt).run K.P w=.ok z w) (r:Nat) (f:List (X × D)) (q:X)
  (h1:s.ev m=.mp r) (h2:s.blk r=some (.map (cR enc f))) (h3:(s.ev i).conc=some (enc q)) (h:k (.d (.tup [(cI f q).getD (.v z),.v (.bool (cI f q).isSome)]))):RT K ⟨d,.lookup mt m i true,ty,pos,af,g⟩ k u s:=⟨⟨X,_,kt,vt,z,enc,r,f,q,kit,hm,hz,h1,h2,h3,h⟩⟩
theorem Cl(g:Gr) (t:List AV) (k:Nat) (h:k<5):ix (AV.d (iD g.n) :: AV.d (iD g.h0) :: AV.d (iD g.h1) :: AV.d (iD g.h2) :: AV.d (iD g.h3) :: AV.d (iD g.h4) :: t) (1+k)=.d (iD (g.hear k)):=by
 rcases (by omega:k=0\/k=1\/k=2\/k=3\/k=4) with e|e|e|e|e<;>subst e<;>rfl
theorem JA(g:Gr) (t:List AV) (k:Nat) (h:k<5):ix (AV.d (iD g.n) :: AV.d (iD g.h0) :: AV.d (iD g.h1) :: AV.d (iD g.h2) :: AV.d (iD g.h3) :: AV.d (iD g.h4) :: t) (k+1)=.d (iD (g.hear k)):=by rw[Nat.add_comm];exact Cl g t k h
theorem JB(g:Gr) (t:List AV) (k:Nat) (h:k<5):ix (AV.d (iD g.h0) :: AV.d (iD g.h1) :: AV.d (iD g.h2) :: AV.d (iD g.h3) :: AV.d (iD g.h4) :: t) k=.d (iD (g.hear k)):=by
 rcases (by omega:k=0\/k=1\/k=2\/k=3\/k=4) with e|e|e|e|e<;>subst e<;>rfl
attribute [simp 3000] Cl JA JB
theorem cw{p:Prop} (b:Bool) (h1:b=false->p) (h2:b=true->p):p:=by cases b<;>simp_all
theorem nt{K:Cx} {c:Code} {Q:Exit->AS->Prop} {u} {s:AS} (r j ty st bt:Nat) (l:List AV) (hb:s.blk r=some (.box bt l)) (hj:l[j]?=some (.d (.v (.slice none 0 0)))) (k:AW K c Q .mk ((s.add (.row ty st [])).set r (some (.box bt (l.set j (.sl s.nx 0)))))):AW K c Q u s:=fun σ G a w hs=>by
 obtain⟨σ',h1,h2,h3⟩:=hs.nilRow ty st;obtain⟨o0,e0,-⟩:=hs.own _ _ hb
 have aV:r≠s.nx:=by
  intro e;have:=hs.next r (by omega);rw[e0]at this;cases this
 have aK:(s.add (.row ty st [])).blk r=some (.box bt l):=by rw[AS.blk_add,if_neg aV];exact hb
 obtain⟨o,e1,⟨a1,a2,a3,cs,a4,a5,a6⟩,-⟩:=h1.own _ _ aK;refine k _ _ _ _ (h1.change aK e1 ⟨rfl,rfl,rfl,Nat.le_refl _,fun _ _ _=>rfl⟩ fun k' kA=>?_);cases kA;refine⟨by simpa using a1,a2,fun x hx=>?_,cs,a4,by simpa using a5,fun i x hx=>?_⟩
 ·rcases List.mem_or_eq_of_mem_set hx with h|h
  ·exact a3 x h
  ·subst h;rfl
 ·rw[List.getElem?_set]at hx;split at hx
  ·rename_i e;subst e;split at hx
   ·cases hx
    have:=(a6 j _ hj).un.val;rw[this];exact h3
   ·cases hx
  ·exact a6 i x hx
theorem P'{K:Cx} {s:AS} {k:AS->Prop} {d:Option Nat} {ty t t':TypeId} {pos:String} {af:Array Edge} {g:Option (Nat × Bool)} {x y:Operand} {u} (a b:Bool) (gc:∀ a b w,(do eqGuard .neq t x y (.bool a) (.bool b);binOp .neq t (.bool a) (.bool b):Sem Value).run K.P w=.ok (.bool (a != b)) w)
  (h1:(s.ev x).conc=some (.bool a)) (h2:(s.ev y).conc=some (.bool b)) (h:k (s.put d (.d (.v (.bool (a != b)))))):kT K ⟨d,.binOp .neq t x y t',ty,pos,af,g⟩ k u s:=by
 refine bz fun σ G a w hs=>⟨_,_,?_,.d (.v _),h⟩
 simp only[execOp,hs.conc h1,hs.conc h2];rw[Sem.run_bind,gc];rfl
abbrev eD(r:Rd):Prop:=cV r.g.n/\cV r.g.h0/\cV r.g.h1/\cV r.g.h2/\cV r.g.h3/\cV r.g.h4/\cV r.f
theorem nv{α:Type} {k:Nat} {R:World->Nat->Nat->α->Prop} {enc:α->List D} {G:Gh} {w:World} {v:Value} {l:List α} (hG:∀ b o,G b=some o->w.heap[b]?=some o/\o.isCells=true) (h:RD G (.fz k (l.map enc)) v) (hl:l.length<=17592186044416)
  (hR:∀ x∈l,∀ b off,(∀ j d,(enc x)[j]?=some d->∃ u,w.cell? ⟨b,off+j,none⟩=some u/\RD G d u)->R w b off x):fu k R w v l:=by
 generalize hL:l.map enc=L at h;cases h with
 | fz s L p c b o cs ty fr hc hs hp H=>
  subst hL;have bi:(l.map enc).length=l.length:=by simp
  rw[bi]at hc hp;refine⟨p,c,by rw[bi],⟨hc.1,hc.2.1,hc.2.2.1⟩,hl,fun i x hx=>?_⟩;obtain⟨hi,rfl⟩:=List.getElem?_eq_some_iff.1 hx;obtain⟨e1,e2,e3⟩:=hp (by intro e;simp at e;subst e;simp at hi);refine⟨b,o,e1,hR _ (List.getElem_mem hi) b (o+i * k) fun j d hd=>?_⟩;have hrow:=(hs (enc l[i]) (List.mem_map.2 ⟨_,List.getElem_mem hi,rfl⟩)).1;have hj:j<k:=by have:=(List.getElem?_eq_some_iff.1 hd).1;omega
  refine⟨cs[o+i * k+j]?.getD undef,?_,H i j (enc l[i]) d (by simp[hi]) hd⟩;rw[ae (hG _ _ e2).1];have h1:i * k+k<=l.length * k:=by rw[<-Nat.succ_mul];exact Nat.mul_le_mul_right _ hi
  have h2:o+i * k+j<cs.size:=by omega
  simp[h2]
section
variable {G : Gh} {w : World} {v : Value}
theorem kX{x:Int} {b off:Nat} (h:∃ u,w.cell? ⟨b,off,none⟩=some u/\RD G (iD x) u) (hx:cV x):gH w b off x:=by
 obtain⟨u,h1,h2⟩:=h;rw[h2.val]at h1;exact⟨h1,hx⟩
theorem sB{l:List Int} (hG:∀ b o,G b=some o->w.heap[b]?=some o/\o.isCells=true) (h:RD G (aT l) v) (hl:l.length<=17592186044416) (hx:∀ x∈l,cV x):cW w v l:=
 nv hG h hl fun x m b off H=>kX (H 0 _ rfl) (hx x m)
theorem zB{l:List (List Int)} (hG:∀ b o,G b=some o->w.heap[b]?=some o/\o.isCells=true) (h:RD G (ez l) v) (hl:l.length<=17592186044416) (hx:∀ x∈l,x.length<=17592186044416/\∀ y∈x,cV y):iN w v l:=
 nv hG h hl fun x m b off H=>by
  obtain⟨u,h1,h2⟩:=H 0 _ rfl;exact⟨u,h1,sB hG h2 (hx x m).1 (hx x m).2⟩
theorem Cm{r:Rd} {b off:Nat} (hr:eD r) (H:∀ j d,(nQ r)[j]?=some d->∃ u,w.cell? ⟨b,off+j,none⟩=some u/\RD G d u):ki w b off r:=by
 obtain⟨h0,h1,h2,h3,h4,h5,h6⟩:=hr;exact⟨kX (H 0 _ rfl) h0,kX (H 1 _ rfl) h1,kX (H 2 _ rfl) h2,kX (H 3 _ rfl) h3,kX (H 4 _ rfl) h4,kX (H 5 _ rfl) h5,kX (H 6 _ rfl) h6⟩
theorem JC{l:List Rd} (hG:∀ b o,G b=some o->w.heap[b]?=some o/\o.isCells=true) (h:RD G (bK l) v) (hl:l.length<=17592186044416) (hx:∀ r∈l,eD r):iP w v l:=
 nv hG h hl fun x m b off H=>Cm (hx x m) H
theorem GF{l:List Mv} (hG:∀ b o,G b=some o->w.heap[b]?=some o/\o.isCells=true) (h:RD G (kV l) v) (hl:l.length<=17592186044416) (hx:∀ m∈l,eD m.r/\cV m.to):EL w v l:=
 nv hG h hl fun x m b off H=>⟨Cm (hx x m).1 fun j d e=>H j d (by
  have h7:j<7:=by have:=(List.getElem?_eq_some_iff.1 e).1;simpa using this
  rcases (by omega:j=0\/j=1\/j=2\/j=3\/j=4\/j=5\/j=6) with e'|e'|e'|e'|e'|e'|e'<;>subst e'<;>exact e),kX (H 7 _ rfl) (hx x m).2⟩
theorem Ec{l:List (List Mv)} (hG:∀ b o,G b=some o->w.heap[b]?=some o/\o.isCells=true) (h:RD G (gQ l) v) (hl:l.length<=17592186044416) (hx:∀ x∈l,x.length<=17592186044416/\∀ m∈x,eD m.r/\cV m.to):cO w v l:=
 nv hG h hl fun x m b off H=>by
  obtain⟨u,h1,h2⟩:=H 0 _ rfl;exact⟨u,h1,GF hG h2 (hx x m).1 (hx x m).2⟩
def kf(c:Cs):Prop:=(c.inp.length<=17592186044416/\∀ y∈c.inp,cV y)/\(c.out.length<=17592186044416/\∀ x∈c.out,x.length<=17592186044416/\∀ y∈x,cV y)/\(c.calm.length<=17592186044416/\∀ x∈c.calm,x.length<=17592186044416/\∀ y∈x,cV y)
theorem GG{l:List Cs} (hG:∀ b o,G b=some o->w.heap[b]?=some o/\o.isCells=true) (h:RD G (ja l) v) (hl:l.length<=17592186044416) (hx:∀ c∈l,kf c):it w v l:=
 nv hG h hl fun x m b off H=>by
  obtain⟨q1,q2,q3⟩:=hx x m;obtain⟨u0,h1,h2⟩:=H 0 _ rfl;obtain⟨u1,h3,h4⟩:=H 1 _ rfl;obtain⟨u2,h5,h6⟩:=H 2 _ rfl;exact⟨⟨u0,h1,sB hG h2 q1.1 q1.2⟩,⟨u1,h3,zB hG h4 q2.1 q2.2⟩,⟨u2,h5,zB hG h6 q3.1 q3.2⟩⟩
end
theorem Cn{r:Rd} (h:roundE r=0):eD r:=by
 unfold roundE at h;split at h
 ·rename_i h1;exact absurd h h1
 rename_i hg;have hg:dS r.g=0:=by simpa using hg
 unfold dS at hg;split at hg
 ·omega
 rename_i hn
 have hh:∀ p,p<5->0<=r.g.hear p/\r.g.hear p<32:=fun p hp=>by
  have h1:=bH hg p hp
  have h2:(2:Int) ^ r.g.n.toNat<=32:=by
   obtain⟨n,ms⟩:∃ n:Nat,r.g.n=n:=⟨r.g.n.toNat,by omega⟩;rw[ms]at hn ⊢;rw[Int.toNat_natCast];rcases (by omega:n=0\/n=1\/n=2\/n=3\/n=4\/n=5) with e|e|e|e|e|e<;>subst e<;>decide
  unfold ji at h1;split at h1
  ·split at h1<;>omega
  ·split at h1
   ·omega
   ·omega
 have hf:0<=r.f/\r.f<32:=by
  unfold gj dR at h;rw[if_neg (by rw[if_neg hn];decide)]at h;split at h
  ·omega
  rename_i h3;obtain⟨n,ms⟩:∃ n:Nat,r.g.n=n:=⟨r.g.n.toNat,by omega⟩;rw[ms]at hn h3;rw[Int.toNat_natCast]at h3;rcases (by omega:n=0\/n=1\/n=2\/n=3\/n=4\/n=5) with e|e|e|e|e|e<;>subst e<;>simp at h3<;>omega
 have h0:=hh 0 (by omega);have h1:=hh 1 (by omega);have h2:=hh 2 (by omega);have h3:=hh 3 (by omega);have h4:=hh 4 (by omega);simp only[hear_0,hear_1,hear_2,hear_3,hear_4]at h0 h1 h2 h3 h4;unfold eD cV;omega
theorem Qa{a:Adv} (h:advE a=0):∀ x∈a.states,∀ m∈x,eD m.r/\cV m.to:=fun x hx m hm=>by
 obtain⟨s,hs,rfl⟩:=List.getElem_of_mem hx;obtain⟨j,hj,rfl⟩:=List.getElem_of_mem hm;have h1:=(cZ h).2.1 s hs;have h2:=(fB (cZ h).2.1 hs hj).2;have h3:=(cZ h).1;refine⟨Cn ?_,by unfold cV;omega⟩;rw[show a.states.getD s []=a.states[s] by simp[hs]]at h1;unfold stateE at h1;rw[if_neg (by omega)]at h1;have h4:=bH h1 j hj;rw[cr,show a.states[s].getD j default=a.states[s][j] by simp[hj]]at h4;split at h4
 ·rename_i h5;exact absurd h4 h5
 ·rename_i h5;simpa using h5
theorem pP{a:Adv} (h:advE a=0):az a.states<=4096:=by
 unfold advE at h;split at h
 ·omega
 split at h
 ·omega
 omega
theorem movesN_at:∀ (l:List (List Mv)) (x:List Mv),x∈l->x.length<=az l
 | y :: l,x,h=>by
  have e:az (y :: l)=y.length+az l:=by simp[az]
  rcases List.mem_cons.1 h with rfl|h
  ·omega
  ·have:=movesN_at l x h;omega
theorem nR{G:Gh} {w:World} {v:Value} {a:Adv} (ha:advE a=0) (hG:∀ b o,G b=some o->w.heap[b]?=some o/\o.isCells=true) (h:RD G (gQ a.states) v):cO w v a.states:=
 Ec hG h (by have:=(cZ ha).1;omega) fun x hx=>⟨by have:=movesN_at _ x hx;have:=pP ha;omega,Qa ha x hx⟩
theorem Grow.same{G:Gh} {w w':World} (hG:∀ b o,G b=some o->w.heap[b]?=some o/\o.isCells=true) (hb:Below w.heap.size w w'):Grow G w G w':=⟨fun _ _ h=>h,fun _ _ h _=>h,fun k o h=>⟨aq hb (hG k o h).1,(hG k o h).2⟩⟩
theorem MA{us:Array Value} (h:us.size=1):us=#[us[0]?.getD undef]:=by
 apply Array.ext
 ·simpa using h
 ·intro i h1 h2
  match i,h2 with
  | 0,_=>simp[h1]
theorem GH{us:Array Value} (h:us.size=2):us=#[us[0]?.getD undef,us[1]?.getD undef]:=by
 apply Array.ext
 ·simpa using h
 ·intro i h1 h2
  match i,h2 with
  | 0,_=>simp[h1]
  | 1,_=>simp[h1]
theorem RD.agg_inv{G:Gh} {l:List D} {v:Value} (h:RD G (.agg l) v):∃ vs:Array Value,v=.agg vs/\vs.size=l.length/\∀ (i:Nat) x,l[i]?=some x->RD G x (vs[i]?.getD undef):=by
 cases h with
 | agg l vs h H=>exact⟨vs,rfl,h,H⟩
theorem Co{G:Gh} {a:Adv} {v:Value} (h:RD G (gR a) v):∃ u,v=.agg #[.int .i64 a.n,u]/\RD G (gQ a.states) u:=by
 obtain⟨vs,rfl,hs,H⟩:=h.agg_inv;have h0:=(H 0 _ rfl).val;have h1:=H 1 _ rfl;have e:=GH (us:=vs) hs;rw[h0]at e;exact⟨_,by rw[e];simp,h1⟩
theorem RD.tup_inv{G:Gh} {l:List D} {v:Value} (h:RD G (.tup l) v):∃ vs:Array Value,v=.tuple vs/\vs.size=l.length/\∀ (i:Nat) x,l[i]?=some x->RD G x (vs[i]?.getD undef):=by
 cases h with
 | tup l vs h H=>exact⟨vs,rfl,h,H⟩
theorem RD.tup2{G:Gh} {a b v:Value} (h:RD G (.tup [.v a,.v b]) v):v=.tuple #[a,b]:=by
 obtain⟨vs,rfl,h1,h2⟩:=h.tup_inv;rw[GH (us:=vs) h1,(h2 0 _ rfl).val,(h2 1 _ rfl).val]
def mD(G:Gh) (w w':World):Gh:=fun b=>if b<w.heap.size then G b else(w'.heap[b]?).filter Obj.isCells
theorem Grow.all{G:Gh} {w w':World} (hG:∀ b o,G b=some o->w.heap[b]?=some o/\o.isCells=true) (hb:Below w.heap.size w w'):Grow G w (mD G w w') w':=by
 refine⟨fun k o h=>?_,fun k o h hk=>?_,fun k o h=>?_⟩
 ·unfold mD;rw[if_pos (aw (hG k o h).1)];exact h
 ·unfold mD at h;rwa [if_pos hk]at h
 ·unfold mD at h;split at h
  ·exact⟨aq hb (hG k o h).1,(hG k o h).2⟩
  ·simpa[Option.filter_eq_some_iff] using h
theorem Pm{G:Gh} {w w':World} {b:Nat} {cs:Array Value} {ty:TypeId} {fr:Nat × Nat} (h:w'.heap[b]?=some (.cells cs ty fr)) (hb:w.heap.size<=b):mD G w w' b=some (.cells cs ty fr):=by
 unfold mD;rw[if_neg (by omega),h];rfl
theorem JD{G:Gh} {w w':World} {ty k n:Nat} {u:Value} {xs:List Value} (h:aJ w' w.heap.size ty k u n xs) {L:List (List D)} (hL:L.length=n) (hs:cP k L) (hn:n<=140737488355328)
  (hx:∀ (i j:Nat) r x,L[i]?=some r->r[j]?=some x->RD (mD G w w') x (xs[i * k+j]?.getD undef)):RD (mD G w w') (.fz k L) u:=by
 subst hL;obtain⟨h0,h⟩:=h;rcases h with ⟨rfl,h⟩|⟨g,cap,cur,fz,rfl,h1,h2,h3,h4,h5,h6,h7⟩
 ·have:L=[]:=List.eq_nil_of_length_eq_zero h;subst this;exact .fz k [] none 0 0 0 #[] 0 (0,0) ⟨by simp,by omega,fun _=>rfl,by simp⟩ hs (fun e=>absurd rfl e) (fun i j r x e=>by simp at e)
 ·have hc:L.length * k<=cur.size:=by rw[h6];exact Nat.mul_le_mul_right _ h4
  refine .fz k L _ cap g 0 cur ty fz ⟨h4,by unfold maxLen at h5;omega,(fun e=>by cases e),hn⟩ hs (fun _=>⟨rfl,Pm h2 h1,by omega⟩) (fun i j r x e1 e2=>?_);have:=hx i j r x e1 e2;rw[<-h7,List.getElem?_take]at this;have hi:=(List.getElem?_eq_some_iff.1 e1).1;have hr:=(hs r (List.mem_of_getElem? e1)).1;have hj:=(List.getElem?_eq_some_iff.1 e2).1;have hm:i * k+k<=L.length * k:=by rw[<-Nat.succ_mul];exact Nat.mul_le_mul_right _ hi
  rw[if_pos (by omega)]at this;simpa using this
theorem flatR_at:∀ (l:List Rd) (i j:Nat) x,(l.map nQ)[i]?.bind (·[j]?)=some x->∃ v,x=.v v/\(aL l)[i * 7+j]?=some v
 | [],i,j,x,h=>by simp at h
 | r :: l,0,j,x,h=>by
  simp only[List.map_cons,List.getElem?_cons_zero,Option.bind_some]at h;have hj:j<7:=(List.getElem?_eq_some_iff.1 h).1;have e:aL (r :: l)=r.c.toList++aL l:=rfl;rw[e,List.getElem?_append_left (by simp;omega)];rcases (by omega:j=0\/j=1\/j=2\/j=3\/j=4\/j=5\/j=6) with e'|e'|e'|e'|e'|e'|e'<;>subst e'<;>cases h<;>exact⟨_,rfl,rfl⟩
 | r :: l,i+1,j,x,h=>by
  have e:aL (r :: l)=r.c.toList++aL l:=rfl;have hl:r.c.toList.length=7:=rfl;obtain⟨v,h1,h2⟩:=flatR_at l i j x (by simpa using h);refine⟨v,h1,?_⟩;rw[e,List.getElem?_append_right (by rw[hl,Nat.add_mul];omega),hl,show (i+1) * 7+j - 7=i * 7+j by omega];exact h2
theorem Pn(l:List Rd):cP 7 (l.map nQ):=fun r hr=>by
 obtain⟨x,_,rfl⟩:=List.mem_map.1 hr;refine⟨rfl,fun y hy=>?_⟩;simp at hy;rcases hy with e|e|e|e|e|e|e<;>subst e<;>rfl
theorem xe{G:Gh} {w w':World} {u:Value} {l:List Rd} (h:aJ w' w.heap.size 109 7 u l.length (aL l)) (hn:l.length<=140737488355328):RD (mD G w w') (bK l) u:=
 JD h (by simp) (Pn l) hn fun i j r x e1 e2=>by
  obtain⟨v,rfl,e⟩:=flatR_at l i j x (by rw[e1];exact e2);rw[e];exact .v _
theorem Ed{G:Gh} {w w':World} {u:Value} {l:List (List Rd)} (h:kN 39 109 7 aL w' w.heap.size u l) (hn:l.length<=140737488355328) (hx:∀ x∈l,x.length<=140737488355328):RD (mD G w w') (.fz 1 (l.map fun x=>[bK x])) u:=by
 obtain⟨xs,h1,h2⟩:=h;refine JD h1 (by simp) (fun r hr=>?_) hn fun i j r x e1 e2=>?_
 ·obtain⟨x,_,rfl⟩:=List.mem_map.1 hr;exact⟨rfl,fun y hy=>by simp at hy;subst hy;rfl⟩
 ·rw[List.getElem?_map,Option.map_eq_some_iff]at e1;obtain⟨y,e1,rfl⟩:=e1;obtain⟨hi,rfl⟩:=List.getElem?_eq_some_iff.1 e1;have hj:j=0:=by have:=(List.getElem?_eq_some_iff.1 e2).1;simp at this;omega
  subst hj;cases e2;obtain⟨z,q1,q2⟩:=h2 i hi;rw[Nat.mul_one,Nat.add_zero,q1];exact xe q2 (hx _ (List.getElem_mem hi))
theorem xf{W:World} {g:Nat} {cur:Array Value} {t:TypeId} {fz:Nat × Nat} (h:W.heap[g]?=some (.cells cur t fz)) (hf:∀ i,i<cur.size->¬ (fz.1<=i/\i<fz.2)) (o:Nat) (ho:o<cur.size):W.frozen? ⟨g,o,none⟩=false:=by
 simp only[World.frozen?,h];have:=hf o ho;simpa using this
theorem Qb(a b:Rd) (w:World):(binOp .neq 109 a.v b.v).run Tryz.prog w=.ok (.bool (!decide (a=b))) w:=by
 rw[run_neq_struct,eZ 9996];rfl
theorem rq(g:Nat) (e:TypeId) (fz:Nat × Nat):∀ (vs:List Value) (o:Nat) (w:World) (cur:Array Value),w.heap[g]?=some (.cells cur e fz)->o+vs.length<=cur.size →
  ∃ cur',(w.setCells g o vs).heap[g]?=some (.cells cur' e fz)/\cur'.toList=cur.toList.take o++vs++cur.toList.drop (o+vs.length)
 | [],o,w,cur,hg,_=>⟨cur,hg,by simp⟩
 | v :: r,o,w,cur,hg,hl=>by
  simp only[List.length_cons]at hl;obtain⟨cur',h1,h2⟩:=rq g e fz r (o+1) (w.setCell ⟨g,o,none⟩ v) (cur.setIfInBounds o v) (bn hg o v) (by simp;omega);refine⟨cur',h1,?_⟩;rw[h2,Array.toList_setIfInBounds,List.take_succ_eq_append_getElem (by simp;omega),List.take_set_of_le (by omega),List.getElem_set_self,List.drop_set_of_lt (by omega),show o+(v :: r).length=o+1+r.length by simp;omega];simp
theorem aJ.setMany{w:World} {base sz:Nat} {e:TypeId} {g c n:Nat} {xs:List Value} (h:aJ w base e sz (.slice (some ⟨g,0,none⟩) n c) n xs) (o:Nat) (vs:List Value) (ho:o+vs.length<=n * sz) :
  aJ (w.setCells g o vs) base e sz (.slice (some ⟨g,0,none⟩) n c) n (xs.take o++vs++xs.drop (o+vs.length)):=by
 obtain⟨hl,h⟩:=h;refine⟨by simp;omega,?_⟩;rcases h with ⟨h,_⟩|⟨g',cap,cur,fz,e1,h2,h3,h4,h5,h6,h7,h8⟩
 ·cases h
 ·simp only[Value.slice.injEq,Option.some.injEq,Addr.mk.injEq]at e1;obtain⟨⟨rfl,_⟩,_,rfl⟩:=e1;have bA:n * sz<=c * sz:=Nat.mul_le_mul_right _ h5;obtain⟨cur',k1,k2⟩:=rq g e fz vs o w cur h3 (by omega)
  have bQ:cur'.size=cur.size:=by
   have:=congrArg List.length k2;simp at this;omega
  refine .inr ⟨g,c,cur',fz,rfl,h2,k1,by rw[bQ];exact h4,h5,h6,by rw[bQ];exact h7,?_⟩;obtain⟨rest,hrest⟩:∃ rest,cur.toList=xs++rest:=⟨cur.toList.drop (n * sz),by rw[<-h8,List.take_append_drop]⟩;rw[k2,hrest,List.take_append_of_le_length (l₁:=xs) (by omega),List.drop_append_of_le_length (l₁:=xs) (by omega),<-List.append_assoc];exact List.take_left' (by simp;omega)
theorem JE(l:List Rd) (k:Nat) (hk:k<l.length) (r:Rd):(aL l).take (k * 7)++r.c.toList++(aL l).drop (k * 7+7)=aL (l.set k r):=by
 induction l generalizing k with
 | nil=>simp at hk
 | cons x l ih=>
  have hx:aL (x :: l)=x.c.toList++aL l:=rfl;have bi:x.c.toList.length=7:=rfl;cases k with
  | zero=>
   rw[hx,List.set_cons_zero];have:aL (r :: l)=r.c.toList++aL l:=rfl;rw[this,Nat.zero_mul,List.take_zero,List.nil_append,Nat.zero_add,List.drop_append_of_le_length (by omega),List.drop_of_length_le (by omega),List.nil_append]
  | succ k=>
   have h1:=ih k (by simpa using hk);have h2:aL ((x :: l).set (k+1) r)=x.c.toList++aL (l.set k r):=rfl;rw[h2,<-h1,hx,List.take_append,List.drop_append,bi,List.take_of_length_le (by omega),List.drop_of_length_le (l:=x.c.toList) (by omega),show (k+1) * 7 - 7=k * 7 by omega,show (k+1) * 7+7 - 7=k * 7+7 by omega];simp
theorem GI{P:Program} (w:World) (dT sT ty elem:TypeId) (sz b o dLen dCap:Nat) (sp:Option Addr) (sLen sCap:Nat) (cs:List Value)
  (hu:P.underlying dT=some (.slice elem)) (hs:(P.info? elem).map (·.size)=some sz) (hn:cs.length=Nat.min sLen dLen * sz)
  (hsrc:∀ j v,cs[j]?=some v->∃ a,sp=some a/\w.cell? (a.add j)=some v) (hc:∀ j,j<cs.length->(w.cell? ⟨b,o+j,none⟩).isSome=true) (hf:∀ j,j<cs.length->w.frozen? ⟨b,o+j,none⟩=false) (h1:∀ v∈cs,v.oneCell'=true) :
  (Builtin.copy_ #[dT,sT] ty #[.slice (some ⟨b,o,none⟩) dLen dCap,.slice sp sLen sCap]).run P w=.ok (goInt (Nat.min sLen dLen)) (w.setCells b o cs):=by
 have cJ:=run_storeCells_cells (P:=P) b o cs 0 w (by simpa using hc) (by simpa using hf) h1;simp only[Nat.add_zero]at cJ;cases hq:P.info? elem with
 | none=>simp[hq]at hs
 | some i=>
  have hi:i.size=sz:=by simpa[hq] using hs
  cases sp with
  | none=>
   have bE:cs=[]:=by
    cases cs with
    | nil=>rfl
    | cons v r=>
     obtain⟨a,e,_⟩:=hsrc 0 v rfl;cases e
   subst bE;simp[Builtin.copy_,run_underlying hu,Builtin.lenOf,Builtin.firstCells,sizeOf,typeInfo,hq,storeCells];rfl
  | some a=>
   have hl:=run_loadCells_list (P:=P) w a cs (fun j v hj=>by obtain⟨a',e,h⟩:=hsrc j v hj;cases e;exact h);simp[Builtin.copy_,run_underlying hu,Builtin.lenOf,Builtin.firstCells,sizeOf,typeInfo,hq,hi,<-hn,hl,cJ]
theorem Cq{st:Nat}:∀ {L:List (List D)},cP st L->L.flatten.length=L.length * st
 | [],_=>by simp
 | r :: L,h=>by
  rw[List.flatten_cons,List.length_append,(h r (by simp)).1,Cq (fun q hq=>h q (by simp[hq])),List.length_cons,Nat.succ_mul];omega
theorem zC{G:Gh} {st:Nat} {cs:Array Value}:∀ (L:List (List D)) (o:Nat),cP st L->(∀ (i j:Nat) r x,L[i]?=some r->r[j]?=some x->RD G x (cs[o+i * st+j]?.getD undef)) →
  ∀ (i:Nat) x,L.flatten[i]?=some x->RD G x (cs[o+i]?.getD undef)/\x.cell=true
 | [],o,hs,H,i,x,h=>by simp at h
 | r :: L,o,hs,H,i,x,h=>by
  have hr:=hs r (by simp);rw[List.flatten_cons,List.getElem?_append]at h;split at h
  ·have:=H 0 i r x rfl h;exact⟨by simpa using this,hr.2 x (List.mem_of_getElem? h)⟩
  ·rename_i hi
   have:=zC L (o+st) (fun q hq=>hs q (by simp[hq])) (fun i j q x h1 h2=>by
    have:=H (i+1) j q x (by simpa using h1) h2;rw[Nat.succ_mul]at this
    rwa [show o+st+i * st+j=o+(i * st+st)+j by omega]) (i - r.length) x h
   rw[hr.1]at this hi
   rwa [show o+st+(i - st)=o+i by omega]at this
section
variable {K : Cx} {s : AS} {k : AS → Prop} {d : Option Nat} {ty : TypeId} {pos : String} {af : Array Edge} {g : Option (Nat × Bool)}
@[simp] theorem st_copy (x y:Operand) (a b:TypeId) (u):ST K ⟨d,.call ⟨.builtin .copy,#[x,y],#[a,b]⟩,ty,pos,af,g⟩ k u s=kT K ⟨d,.call ⟨.builtin .copy,#[x,y],#[a,b]⟩,ty,pos,af,g⟩ k .mk s:=rfl
end
theorem Fe{K:Cx} {s:AS} {k:AS->Prop} {d:Option Nat} {x y:Operand} {dT sT ty:TypeId} {pos:String} {af:Array Edge} {g:Option (Nat × Bool)} {u} (r j n bt st:Nat) (el:TypeId) (l l':List AV) (L:List (List D))
  (hu:K.P.underlying dT=some (.slice el)) (hz:(K.P.info? el).map (·.size)=some st)
  (h1:s.ev x=.bs r j n) (h2:s.blk r=some (.box bt l)) (h3:s.ev y=.d (.fz st L)) (hn:j+n * st<=l.length)
  (Ap:l.take j++(L.take n).flatten.map AV.d++l.drop (j+min L.length n * st)=l')
  (h:k ((s.set r (some (.box bt l'))).put d (.d (.v (.int .i64 (min L.length n:Nat)))))):kT K ⟨d,.call ⟨.builtin .copy,#[x,y],#[dT,sT]⟩,ty,pos,af,g⟩ k u s:=by
 refine gN fun σ G a w hs=>?_
 have e1:=hs.ev x;rw[h1]at e1;have e3:=hs.ev y;rw[h3]at e3;obtain⟨o,eo,⟨a1,a2,a3,cs,a4,a5,a6⟩,-⟩:=hs.own _ _ h2;generalize Qu:a.eval x=ux at e1;generalize huy:a.eval y=uy at e3;cases e1 with
 | bs ho=>
  rw[eo]at ho;cases ho;have e3:=e3.un;cases e3 with
  | fz _ _ p c b oo cs2 ty2 fr hc eV hp H=>
   have oV:cP st (L.take n):=fun q hq=>eV q (List.mem_of_mem_take hq)
   have oO:=Cq oV;rw[List.length_take]at oO;have hmin:min n L.length=min L.length n:=Nat.min_comm _ _;rw[hmin]at oO;have ij:min L.length n * st<=n * st:=Nat.mul_le_mul_right _ (Nat.min_le_right _ _);have rA:=zC (G:=G) (cs:=cs2) (L.take n) oo oV (fun i j r x q1 q2=>H i j r x (by rw[List.getElem?_take]at q1;split at q1;exact q1;cases q1) q2);obtain⟨vs,hvs⟩:∃ vs:List Value,vs=(List.range (min L.length n * st)).map fun i=>cs2[oo+i]?.getD undef:=⟨_,rfl⟩
   have Ov:vs.length=min L.length n * st:=by rw[hvs];simp
   have QK:∀ i,i<min L.length n * st->vs[i]?=some (cs2[oo+i]?.getD undef):=fun i hi=>by rw[hvs];simp[hi]
   have bA:∀ i,i<min L.length n * st->L≠[]/\i<L.length * st:=fun i hi=>by
    have h5:min L.length n * st<=L.length * st:=Nat.mul_le_mul_right _ (Nat.min_le_left _ _);refine⟨fun e=>?_,by omega⟩;subst e;simp at hi
   have nf:∀ i,i<min L.length n * st->∃ x,((L.take n).flatten)[i]?=some x:=fun i hi=>⟨_,List.getElem?_eq_getElem (by rw[oO];exact hi)⟩
   have gc:=GI (P:=K.P) w dT sT ty el st o.b j n n p L.length c vs hu hz Ov (fun i v hv=>by
     have hi:i<min L.length n * st:=by rw[<-Ov];exact(List.getElem?_eq_some_iff.1 hv).1
     rw[QK i hi]at hv;cases hv;obtain⟨q1,q2⟩:=bA i hi;obtain⟨q3,q4,q5⟩:=hp q1;refine⟨_,q3,?_⟩;have e1:(⟨b,oo,none⟩:Addr).add i=⟨b,oo+i,none⟩:=by unfold Addr.add;split<;>simp_all
     rw[e1,ae (hs.gsub _ _ q4)];have:oo+i<cs2.size:=by omega
     simp[this])
    (fun i hi=>by rw[ae a4];simp;omega) (fun i hi=>bf a4 _) (fun v hv=>by
     obtain⟨i,hi⟩:=List.getElem?_of_mem hv;have fR:i<min L.length n * st:=by rw[<-Ov];exact(List.getElem?_eq_some_iff.1 hi).1
     rw[QK i fR]at hi;cases hi;obtain⟨x,hx⟩:=nf i fR;obtain⟨q1,q2⟩:=rA i x hx
     exact q1.cell q2)
   obtain⟨cs',c1,c2,c3⟩:=kQ o.b bt (0,0) vs j w cs a4 (by omega)
   have Dp:l'.length=l.length:=by
    rw[<-Ap];simp only[List.length_append,List.length_take,List.length_map,List.length_drop,oO];omega
   have yW:∀ (i:Nat) x,l'[i]?=some x->(x∈l\/∃ z,x=.d z/\z.cell=true)/\RA σ G x (cs'[i]?.getD undef):=fun i x hx=>by
    rw[<-Ap,List.append_assoc,List.getElem?_append]at hx;rw[c3 i];split at hx
    ·rename_i q;simp only[List.length_take]at q;rw[List.getElem?_take]at hx;rw[if_neg (by omega)];split at hx
     ·exact⟨.inl (List.mem_of_getElem? hx),a6 i x hx⟩
     ·cases hx
    ·rename_i q;simp only[List.length_take]at q hx;have hj:min j l.length=j:=by omega
     rw[hj]at q hx;rw[List.getElem?_append,List.length_map,oO]at hx;split at hx
     ·rename_i q2;rw[List.getElem?_map]at hx;cases dN:((L.take n).flatten)[i - j]? with
      | none=>rw[dN]at hx;cases hx
      | some z=>
       rw[dN]at hx;cases hx;obtain⟨q3,q4⟩:=rA _ z dN;rw[if_pos ⟨by omega,by omega⟩,QK _ q2];exact⟨.inr ⟨z,rfl,q4⟩,.d q3⟩
     ·rename_i q2;rw[List.getElem?_drop,show j+min L.length n * st+(i - j - min L.length n * st)=i by omega]at hx;rw[if_neg (by omega)];exact⟨.inl (List.mem_of_getElem? hx),a6 i x hx⟩
   refine⟨_,_,σ,G,_,.d (.v (.int .i64 (min L.length n:Nat))),?_,hs.change h2 eo (by rw[a2];exact sg w o.b j vs) (fun k' kA=>?_),.d (.v _),h⟩
   ·simp[execOp,resolve,invoke,builtin,Qu,huy,gc,Result.andThen];rfl
   ·cases kA
    refine⟨a1.trans Dp.symm,a2,fun x hx=>?_,cs',c1,by rw[c2,a5,Dp],fun i x hx=>(yW i x hx).2⟩;obtain⟨i,hi⟩:=List.getElem?_of_mem hx;rcases (yW i x hi).1 with q|⟨z,rfl,q⟩
    ·exact a3 x q
    ·exact q
def nilTo:List AV->List AV->Prop
 | [],[]=>True
 | x :: l,y :: m=>(x=y\/(x=.d (.v (.slice none 0 0))/\∃ st,y=.d (.fz st [])))/\nilTo l m
 | _,_=>False
theorem nilTo_ok:∀ {l m:List AV},nilTo l m->l.length=m.length/\∀ (i:Nat) y,m[i]?=some y->∃ x,l[i]?=some x/\(x=y\/(x=.d (.v (.slice none 0 0))/\∃ st,y=.d (.fz st [])))
 | [],[],_=>⟨rfl,fun i y h=>by simp at h⟩
 | x :: l,y :: m,⟨h1,h2⟩=>by
  obtain⟨q1,q2⟩:=nilTo_ok h2;refine⟨by simp[q1],fun i z h=>?_⟩;cases i with
  | zero=>simp at h;subst h;exact⟨x,rfl,h1⟩
  | succ i=>simpa using q2 i z (by simpa using h)
 | [],_ :: _,h=>h.elim
 | _ :: _,[],h=>h.elim
theorem RD.nil(G:Gh) (st:Nat):RD G (.fz st []) (.slice none 0 0):=.fz st [] none 0 0 0 #[] 0 (0,0) ⟨by simp,by omega,fun _=>rfl,by simp⟩ (fun r h=>by cases h) (fun h=>(h rfl).elim) (fun i j r x h=>by simp at h)
theorem Po{K:Cx} {c:Code} {Q:Exit->AS->Prop} {u} {s:AS} (r:Nat) (bt:Nat) (l l':List AV) (hb:s.blk r=some (.box bt l)) (hn:nilTo l l') (k:AW K c Q .mk (s.set r (some (.box bt l')))):AW K c Q u s:=fun σ G a w hs=>by
 obtain⟨o,e1,⟨a1,a2,a3,cs,a4,a5,a6⟩,-⟩:=hs.own _ _ hb;obtain⟨q1,q2⟩:=nilTo_ok hn;refine k _ _ _ _ (hs.change hb e1 ⟨rfl,rfl,rfl,Nat.le_refl _,fun _ _ _=>rfl⟩ fun k' kA=>?_);cases kA;refine⟨by rw[<-q1];exact a1,a2,fun y hy=>?_,cs,a4,by rw[<-q1];exact a5,fun i y hy=>?_⟩
 ·obtain⟨i,hi⟩:=List.getElem?_of_mem hy;obtain⟨x,hx,e|⟨-,st,e⟩⟩:=q2 i y hi
  ·subst e;exact a3 _ (List.mem_of_getElem? hx)
  ·subst e;rfl
 ·obtain⟨x,hx,e|⟨e,st,e'⟩⟩:=q2 i y hy
  ·subst e;exact a6 i _ hx
  ·subst e e';have:=(a6 i _ hx).un.val;rw[this];exact .d (RD.nil G st)
attribute [simp] nilTo
def fk(n:Nat):List Nat->List (Nat × AV)
 | []=>[]
 | r :: l=>(n+r,.tup [.ptr r 0 0,.ptr r 1 0,.sl r 0]) :: fk n l
theorem GJ(n:Nat):∀ (rs:List Nat) (t:Nat),lk (fk n rs) t=if n<=t/\t - n∈rs then some (.tup [.ptr (t - n) 0 0,.ptr (t - n) 1 0,.sl (t - n) 0]) else none
 | [],t=>by simp[fk,lk]
 | r :: l,t=>by
  unfold fk lk;rw[GJ n l];by_cases e:t=n+r
  ·subst e;simp
  ·rw[if_neg e];by_cases e2:n<=t
   ·have:t - n≠r:=by omega
    simp[e2,this]
   ·simp[e2]
def JF(rs:List Nat) (m:Nat):AV->Bool
 | .ptr r _ _|.sl r _|.mp r|.bs r _ _=>rs.contains r || decide (m<=r)
 | .d _|.any=>true
 | _=>false
def rt(rs:List Nat) (m:Nat):List (Nat × Option Blk)->Bool
 | []=>true
 | (_,none) :: l=>rt rs m l
 | (r,some (.box _ c)) :: l=>(rs.contains r || decide (m<=r))&&c.all (JF rs m)&&rt rs m l
 | (r,some _) :: l=>(rs.contains r || decide (m<=r))&&rt rs m l
theorem tP{rs:List Nat} {m:Nat}:∀ {l:List (Nat × Option Blk)},rt rs m l=true->∀ r b,(lk l r).join=some b->(r∈rs\/m<=r)/\∀ ty c,b=.box ty c->∀ x∈c,JF rs m x=true
 | [],_,r,b,e=>by simp[lk]at e
 | (q,none) :: l,h,r,b,e=>by
  unfold lk at e;split at e
  ·simp at e
  ·exact tP (l:=l) (by simpa[rt] using h) r b e
 | (q,some k) :: l,h,r,b,e=>by
  have h1:(q∈rs\/m<=q)/\(∀ ty c,k=.box ty c->∀ x∈c,JF rs m x=true)/\rt rs m l=true:=by
   cases k with
   | box ty c=>
    simp only[rt,Bool.and_eq_true,Bool.or_eq_true,List.contains_iff_mem,decide_eq_true_eq]at h;exact⟨h.1.1,fun ty' c' e x hx=>by cases e;exact List.all_eq_true.1 h.1.2 x hx,h.2⟩
   | row a b c=>
    simp only[rt,Bool.and_eq_true,Bool.or_eq_true,List.contains_iff_mem,decide_eq_true_eq]at h;exact⟨h.1,(fun ty' c' e=>by cases e),h.2⟩
   | map f=>
    simp only[rt,Bool.and_eq_true,Bool.or_eq_true,List.contains_iff_mem,decide_eq_true_eq]at h;exact⟨h.1,(fun ty' c' e=>by cases e),h.2⟩
  unfold lk at e;split at e
  ·rename_i hr;simp at e;subst hr e;exact⟨h1.1,h1.2.1⟩
  ·exact tP (l:=l) h1.2.2 r b e
abbrev KW(K:Cx) (G0:Gh) (mu cut:List Nat) (pr:List (Nat × Obj)) (fr:Array Value):Cx:=⟨K.P,K.w0,G0,none,mu,cut,K.E,K.J,pr,fr⟩
def WS(n:Nat) (rs:List Nat) (p:HN) (yc:Nat):AS:=⟨n,fk n rs,p.1,p.2,yc⟩
@[simp] theorem WS_eq (n:Nat) (rs:List Nat) (p:HN) (yc:Nat):WS n rs p yc=⟨n,fk n rs,p.1,p.2,yc⟩:=rfl
def WR(x y:AV) (s S:AS) (_:Tq S):Prop:=x=y/\∃ ρ,sub ρ s S
theorem WR.of{x y:AV} {s S:AS} {u} (ρ:List Nat) (h:sub ρ s S) (e:x=y):WR x y s S u:=⟨e,ρ,h⟩
def WQ(P:Program) (rv:List ResultVar) (n:Nat) (y:AV) (S:AS) (_:Tq (P,rv,y,S)):Exit->AS->Prop
 | .ret,s=>s.n=n/\dt P s rv fun l=>WR (fv l) y s S .mk
 | .normal,s=>s.n=n/\dt P s rv fun l=>WR (fv l) y s S .mk
 | _,_=>False
@[simp] theorem WQ_ret (P:Program) (rv:List ResultVar) (n:Nat) (y:AV) (S:AS) (u) (s:AS):WQ P rv n y S u .ret s=(s.n=n/\dt P s rv fun l=>WR (fv l) y s S .mk):=rfl
@[simp] theorem WQ_normal (P:Program) (rv:List ResultVar) (n:Nat) (y:AV) (S:AS) (u) (s:AS):WQ P rv n y S u .normal s=(s.n=n/\dt P s rv fun l=>WR (fv l) y s S .mk):=rfl
theorem RA.fin{σ τ:Sg} {rs:List Nat} {m:Nat} {G:Gh} {x:AV} {u:Value} (h:∀ r,r∈rs\/m<=r->σ r=τ r) (hc:JF rs m x=true) (hx:RA τ G x u):RA σ G x u:=by
 have hn:∀ r,(rs.contains r || decide (m<=r))=true->σ r=τ r:=fun r e=>h r (by simpa using e)
 cases hx with
 | d h=>exact .d h
 | any=>exact .any _
 | ptr e=>exact .ptr ((hn _ hc).trans e)
 | sl e q=>exact .sl ((hn _ hc).trans e) q
 | mp e=>exact .mp ((hn _ hc).trans e)
 | bs e=>exact .bs ((hn _ hc).trans e)
 | agg=>cases hc
 | tup=>cases hc
 | fn=>cases hc
theorem MB{K:Cx} {g:FuncId} {fn:Func} {c:Code} {l:List AV} {s:AS} {y:D} {p:HN} {n:Nat} {rv:List ResultVar} (hf:K.P.funcs[g]?=some fn) (hb:fn.body=some c) (hn:fn.ntmps=n) (hr:fn.results.toList=rv) (hc:∀ us w,(callFunc g us).run K.P w=.ok (.enter g us) w) (mu cut:List Nat) (hl:decide (l.length<=n)=true)
  (rs:List Nat) (DK:∀ r∈rs,r<s.nx/\(s.blk r).isSome=true) (hp:rt rs s.nx p.1=true) (Rb:s.nx<=p.2)
  (h:∀ G0 pr fr,VS (KW K G0 mu cut pr fr) c (WQ K.P rv n (.d y) (WS n rs p s.yc) .mk) .mk ⟨n,iA 0 l++fk n rs,s.H,s.nx,s.yc⟩):(∀ us w,(callFunc g us).run K.P w=.ok (.enter g us) w)/\∀ σ G a w (us:Array Value),Sat K σ G s a w->us.size=l.length->(∀ (i:Nat) x,l[i]?=some x->RA σ G x (us[i]?.getD undef)) →
  Calls K.P g us w fun e w'=>∃ v σ' G',e=.returned v/\(∀ r,r<s.nx->σ' r=σ r)/\(∀ k o,G k=some o->G' k=some o)/\Sat K σ' G' (s.wo p) a w'/\RD G' y v:=by
 have hl:l.length<=n:=by simpa using hl
 refine⟨hc,fun σ G a w us hs bA gG=>?_⟩;refine cX hf hb ?_;obtain⟨ds,m1,m2,m3⟩:=hs.marks;obtain⟨ff,hff⟩:∃ ff:Array Value,ff=((List.range s.nx).map fun r=>match σ r with|some o=>Value.tuple #[.pointer (some ⟨o.b,0 * o.s+0,none⟩),.pointer (some ⟨o.b,1 * o.s+0,none⟩),.slice (if o.nil then none else some ⟨o.b,0,none⟩) 0 o.cap]|none=>undef).toArray:=⟨_,rfl⟩
 have xH:∀ r∈rs,∃ o,σ r=some o:=fun r hr=>by
  obtain⟨h1,h2⟩:=DK r hr;obtain⟨b,hb⟩:=Option.isSome_iff_exists.1 h2;obtain⟨o,e,-⟩:=hs.own _ _ hb;exact⟨o,e⟩
 have hffg:∀ r∈rs,∀ o,σ r=some o->ff[r]?.getD undef=Value.tuple #[.pointer (some ⟨o.b,0 * o.s+0,none⟩),.pointer (some ⟨o.b,1 * o.s+0,none⟩),.slice (if o.nil then none else some ⟨o.b,0,none⟩) 0 o.cap]:=fun r hr o e=>by
  have h1:=(DK r hr).1;rw[hff,List.getElem?_toArray,List.getElem?_map,List.getElem?_range h1];simp[e]
 have gr:(us++Array.replicate (fn.ntmps - us.size) undef).size=n:=by rw[Array.size_append,Array.size_replicate];omega
 have lu:Sat (KW K G mu cut (ss ds K.pr) ff) σ G ⟨n,iA 0 l++fk n rs,s.H,s.nx,s.yc⟩ { tmps:=us++Array.replicate (fn.ntmps - us.size) undef,defers:=[] } w:=by
  obtain⟨C,c1,c2,c3,c4⟩:=hs.inv;refine⟨gr,fun t=>?_,hs.own,hs.inj,hs.next,hs.gsub,fun k o h _ _=>h,fun k o h=>h,hs.gcell,hs.below,⟨[],rfl,bY.nil _ _,fun _ h=>by cases h⟩,fun p hp=>?_,⟨C,c1,fun p hp=>?_,fun k hk=>(by cases hk),c4⟩,hs.js⟩
  ·show RA σ G ((lk (iA 0 l++fk n rs) t).getD .any) (((us++Array.replicate (fn.ntmps - us.size) undef)++ff)[t]?.getD undef)
   rw[w7,iA_get,GJ];simp only[Nat.zero_le,if_true,Nat.sub_zero];cases hq:l[t]? with
   | some x=>
    have ht:=(List.getElem?_eq_some_iff.1 hq).1;rw[Array.getElem?_append_left (by omega),Array.getElem?_append_left (by omega)];exact gG t x hq
   | none=>
    by_cases e:n<=t/\t - n∈rs
    ·rw[if_pos e,Array.getElem?_append_right (by omega),gr];obtain⟨o,ho⟩:=xH _ e.2;rw[hffg _ e.2 o ho];refine .tup _ _ rfl fun i x hx=>?_
     match i,hx with
     | 0,hx=>cases hx;exact .ptr ho
     | 1,hx=>cases hx;exact .ptr ho
     | 2,hx=>cases hx;exact .sl ho (Nat.zero_le _)
    ·rw[if_neg e];exact .any _
  ·rcases List.mem_append.1 hp with hp|hp
   ·obtain⟨d,hd,rfl⟩:=List.mem_map.1 hp;exact⟨(m2.2 d hd).2,rfl⟩
   ·exact hs.pr p hp
  ·rcases List.mem_append.1 hp with hp|hp
   ·obtain⟨d,hd,rfl⟩:=List.mem_map.1 hp;exact c3 d (m1 ▸ List.mem_map.2 ⟨d,hd,rfl⟩)
   ·exact c2 p hp
 refine wpIn_wide.1 (wpIn_mono (vc (h _ _ _) _ _ _ _ lu) ?_);intro e a' w' hq
 have key:∀ σ' G' s',(s'.n=n/\dt K.P s' rv fun l=>WR (fv l) (.d y) s' (WS n rs p s.yc) .mk)->Sat (KW K G mu cut (ss ds K.pr) ff) σ' G' s' a' w'->bodyPostM Fence.wide 0 K.P fn (fun e w'=>∃ v σ' G',e=.returned v/\(∀ r,r<s.nx->σ' r=σ r)/\(∀ k o,G k=some o->G' k=some o)/\Sat K σ' G' (s.wo p) a w'/\RD G' y v) .ret a' w':=by
  rintro σ' G' s' ⟨ms,h1⟩ h2;obtain⟨tmps,defers⟩:=a';obtain⟨es,hd,hm,oe⟩:=h2.marks;dsimp only at hd;subst hd;have h3:=h2.taken hm oe;obtain⟨vs,xs,q1,q2,q3,q4,ρ,q5⟩:=lG h3 h1;have h4:=h3.sub q5;obtain⟨τ,hτ⟩:∃ τ,τ=gP ρ σ':=⟨_,rfl⟩;rw[<-hτ]at h4
  have AU:∀ r∈rs,τ r=σ r:=fun r hr=>by
   obtain⟨o,ho⟩:=xH r hr;have h5:=h4.slot (n+r)
   have h6:(WS n rs p s.yc).get (n+r)=.tup [.ptr r 0 0,.ptr r 1 0,.sl r 0]:=by
    unfold AS.get WS;dsimp only;rw[GJ,if_pos ⟨by omega,by rw[Nat.add_sub_cancel_left];exact hr⟩,Nat.add_sub_cancel_left];rfl
   have bA:tmps.size=n:=h4.size;rw[h6,Array.getElem?_append_right (by show tmps.size<=n+r;omega),show ({ tmps:=tmps,defers:=[] }:Act).tmps.size=n from bA,Nat.add_sub_cancel_left]at h5;rw[show (KW K G mu cut (ss ds K.pr) ff).fr=ff from rfl,hffg r hr o ho]at h5;generalize hu:Value.tuple _=u at h5;cases h5 with
   | tup _ vs hl5 H=>
    injection hu with hu
    subst hu;have e0:=H 0 _ rfl;have e1:=H 1 _ rfl;have e2:=H 2 _ rfl;simp only[List.getElem?_toArray,List.getElem?_cons_zero,List.getElem?_cons_succ,Option.getD_some]at e0 e1 e2;generalize OO:Value.pointer (some ⟨o.b,0 * o.s+0,none⟩)=u0 at e0;generalize Rq:Value.pointer (some ⟨o.b,1 * o.s+0,none⟩)=u1 at e1;generalize uT:Value.slice (if o.nil then none else some ⟨o.b,0,none⟩) 0 o.cap=u2 at e2;cases e0 with
    | ptr f0=>
    cases e1 with
    | ptr f1=>
    cases e2 with
    | sl f2 n9=>
    rename_i o0 o1 o2;rw[f0]at f1 f2;injection f1 with f1
    injection f2 with f2
    rw[<-f1]at Rq;rw[<-f2]at uT;clear f1 f2;rw[f0,ho];obtain⟨b1,c1,s1,n1⟩:=o;obtain⟨b2,c2,s2,n2⟩:=o0;simp only[Value.pointer.injEq,Option.some.injEq,Value.slice.injEq]at OO Rq uT;injection OO with OO _
    subst OO;injection Rq with _ gg _
    obtain⟨uY,-,rfl⟩:=uT;have:s1=s2:=by omega
    subst this;have:n1=n2:=by cases n1<;>cases n2<;>simp at uY<;>rfl
    subst this;rfl
  obtain⟨φ,hφ⟩:∃ φ:Sg,φ=fun r=>if r<s.nx then σ r else τ r:=⟨_,rfl⟩
  have QU:∀ r,r∈rs\/s.nx<=r->φ r=τ r:=fun r hr=>by
   rw[hφ];dsimp only;rcases hr with hr|hr
   ·rw[if_pos (DK r hr).1,AU r hr]
   ·rw[if_neg (by omega)]
  have tl:Mo σ G φ G':=⟨fun r o e=>by
   have:r<s.nx:=by
    rcases Nat.lt_or_ge r s.nx with q|q
    ·exact q
    ·rw[hs.next r q]at e;cases e
   rw[hφ];dsimp only;rw[if_pos this];exact e,fun k o e=>h4.gnew k o e⟩
  have AZ:∀ r b,(s.wo p).blk r=some b->φ r=τ r:=fun r b e=>QU r (tP hp r b e).1
  have h5:=pM (σ:=σ') (G:=G') (vs:=vs.toArray) (by simpa using q2) (fun i x hx=>by simpa using q3 i x hx);rw[q4]at h5;refine jj hm ?_ ⟨_,φ,G',rfl,fun r hr=>(by rw[hφ];exact if_pos hr),tl.g,?_,h5.un⟩
  ·unfold results;rw[Sem.run_bind,Array.mapM_eq_mapM_toList]
   show ((Sem.run K.P (List.mapM _ fn.results.toList >>= fun l=>pure l.toArray) _).andThen _)=_
   rw[Sem.run_bind,hr]
   erw [q1]
   rfl
  ·obtain⟨C,c1,c2,c3,c4⟩:=h4.inv;refine⟨hs.size,fun t=>(hs.slot t).mono tl,fun r k hk=>?_,fun r r' k k' o o' e e' f f'=>?_,fun r hr=>?_,h4.gsub,fun k o e hk hE=>hs.gold k o (h4.gold k o e hk hE) hk hE,fun k o e=>tl.g _ _ (hs.gnew k o e),h4.gcell,h4.below,⟨ds,m1,⟨m2.1,fun d hd=>⟨(m2.2 d hd).1,(h4.pr (d,.deferred (some [])) (List.mem_append_left _ (List.mem_map.2 ⟨d,hd,rfl⟩))).1⟩⟩,m3⟩,fun p hp=>h4.pr p (List.mem_append_right _ hp),⟨C,fun k ⟨r,b,o,e1,e2,e3⟩=>c1 k ⟨r,b,o,e1,(AZ r b e1) ▸ e2,e3⟩,fun p hp=>c2 p (List.mem_append_right _ hp),fun k hk=>?_,c4⟩,h4.js⟩
   ·obtain⟨o,e1,e2,e3⟩:=h4.own r k hk;refine⟨o,(AZ r k hk).trans e1,?_,e3⟩;cases k with
    | row=>exact e2
    | map=>exact e2
    | box ty cl=>
     obtain⟨a1,a2,a3,cs,a4,a5,a6⟩:=e2;exact⟨a1,a2,a3,cs,a4,a5,fun j x hx=>(a6 j x hx).fin QU ((tP hp r _ hk).2 ty cl rfl x (List.mem_of_getElem? hx))⟩
   ·rw[AZ r k e]at f;rw[AZ r' k' e']at f';exact h4.inj r r' k k' o o' e e' f f'
   ·have h5:=h4.next r hr;rw[QU r (.inr (Nat.le_trans Rb hr))];exact h5
   ·rw[m1]at hk;obtain⟨d,q1,q2⟩:=List.mem_map.1 hk;have:d=k:=by injection q2 with q2 _;injection q2
    subst this;exact c2 (d,.deferred (some [])) (List.mem_append_left _ (List.mem_map.2 ⟨d,q1,rfl⟩))
 cases e with
 | ret=>obtain⟨σ',G',s',h1,h2⟩:=hq;exact key _ _ _ h1 h2
 | normal=>obtain⟨σ',G',s',h1,h2⟩:=hq;exact key _ _ _ h1 h2
 | exit id=>obtain⟨σ',G',s',h1,h2⟩:=hq;exact h1.elim
 | goto id=>obtain⟨σ',G',s',h1,h2⟩:=hq;exact h1.elim
 | panic c=>exact hq.elim
 | outgrown=>exact hq.elim
def rn(ρ:List Nat) (nx r:Nat):Nat:=if r<ρ.length then ρ[r]?.getD 0 else nx+(r - ρ.length)
def Ff(f:Nat->Nat):AV->AV
 | .ptr r i j=>.ptr (f r) i j
 | .sl r n=>.sl (f r) n
 | .mp r=>.mp (f r)
 | .bs r j n=>.bs (f r) j n
 | .d x=>.d x
 | _=>.any
def okv1:AV->Bool
 | .ptr _ _ _|.sl _ _|.mp _|.bs _ _ _|.d _=>true
 | _=>false
def rv(f:Nat->Nat):AV->AV
 | .ptr r i j=>.ptr (f r) i j
 | .sl r n=>.sl (f r) n
 | .mp r=>.mp (f r)
 | .bs r j n=>.bs (f r) j n
 | .d x=>.d x
 | .fn g a c=>.fn g (a.map (Ff f)) (c.map (Ff f))
 | _=>.any
def okv:AV->Bool
 | .ptr _ _ _|.sl _ _|.mp _|.bs _ _ _|.d _=>true
 | .fn _ a c=>a.all okv1&&c.all okv1
 | _=>false
def rb(f:Nat->Nat):Blk->Blk
 | .row a b c=>.row a b c
 | .box t l=>.box t (l.map (rv f))
 | .map g=>.map g
def okb:Blk->Bool
 | .box _ l=>l.all okv
 | _=>true
def iO:Nat->List (Option Blk)->List (Nat × Option Blk)
 | _,[]=>[]
 | i,b :: l=>(i,b) :: iO (i+1) l
def oH(f:Nat->Nat):Nat->List (Option Blk)->List (Nat × Option Blk)
 | _,[]=>[]
 | i,b :: l=>(f i,b.map (rb f)) :: oH f (i+1) l
theorem lk_iO:∀ (l:List (Option Blk)) (i r:Nat),lk (iO i l) r=if i<=r then l[r - i]? else none
 | [],i,r=>by simp[iO,lk]
 | b :: l,i,r=>by
  unfold iO lk;rw[lk_iO l];by_cases e:r=i
  ·subst e;simp
  ·rw[if_neg e];by_cases e2:i<=r
   ·rw[if_pos e2,if_pos (by omega),show r - i=(r - (i+1))+1 by omega];simp
   ·rw[if_neg e2,if_neg (by omega)]
theorem N0{f:Nat->Nat}:∀ (l:List (Option Blk)) (i q:Nat) (b:Option Blk),lk (oH f i l) q=some b->∃ r c,q=f r/\i<=r/\l[r - i]?=some c/\b=c.map (rb f)
 | [],i,q,b,e=>by cases e
 | c :: l,i,q,b,e=>by
  unfold oH lk at e;split at e
  ·rename_i h;cases e;exact⟨i,c,h,Nat.le_refl _,by simp,rfl⟩
  ·obtain⟨r,c',h1,h2,h3,h4⟩:=N0 l (i+1) q b e;exact⟨r,c',h1,by omega,by rw[show r - i=(r - (i+1))+1 by omega];simpa using h3,h4⟩
theorem xg{f:Nat->Nat}:∀ (l:List (Option Blk)) (i q:Nat),lk (oH f i l) q=none->∀ r,i<=r->r - i<l.length->q≠f r
 | [],i,q,e,r,h1,h2=>by simp at h2
 | c :: l,i,q,e,r,h1,h2=>by
  unfold oH lk at e;split at e
  ·cases e
  ·rename_i h;by_cases e2:r=i
   ·subst e2;exact h
   ·exact xg l (i+1) q e r (by omega) (by simp at h2;omega)
structure OC (P:Program) (g:FuncId) (l:List AV) (H:List Blk) (y:D) (H':List (Option Blk)):Prop where
 c:∀ us w,(callFunc g us).run P w=.ok (.enter g us) w
 h:∀ (K:Cx) σ G a w yc (us:Array Value),K.P=P->Sat K σ G ⟨0,[],iO 0 (H.map some),H.length,yc⟩ a w->us.size=l.length->(∀ (i:Nat) x,l[i]?=some x->RA σ G x (us[i]?.getD undef)) →
  Calls P g us w fun e w'=>∃ v σ' G',e=.returned v/\(∀ r,r<H.length->σ' r=σ r)/\(∀ k o,G k=some o->G' k=some o)/\Sat K σ' G' ⟨0,[],iO 0 H',H'.length,yc⟩ a w'/\RD G' y v
theorem xh{P:Program} {g:FuncId} {fn:Func} {c:Code} {l:List AV} {H:List Blk} {y:D} {H':List (Option Blk)} {n:Nat} {rv:List ResultVar} (hf:P.funcs[g]?=some fn) (hb:fn.body=some c) (hn:fn.ntmps=n) (hr:fn.results.toList=rv) (hc:∀ us w,(callFunc g us).run P w=.ok (.enter g us) w) (mu cut:List Nat) (hl:decide (l.length<=n)=true)
  (rs:List Nat) (DK:rs.all (fun r=>decide (r<H.length))=true) (hp:rt rs H.length (iO 0 H')=true) (Rb:H.length<=H'.length)
  (h:∀ w0 G0 E J pr fr yc,VS ⟨P,w0,G0,none,mu,cut,E,J,pr,fr⟩ c (WQ P rv n (.d y) (WS n rs (iO 0 H',H'.length) yc) .mk) .mk ⟨n,iA 0 l++fk n rs,iO 0 (H.map some),H.length,yc⟩):OC P g l H y H':=by
 refine⟨hc,fun K σ G a w yc us hP hs bA gG=>?_⟩;subst hP
 exact(MB (s:=⟨0,[],iO 0 (H.map some),H.length,yc⟩) (p:=(iO 0 H',H'.length)) hf hb hn hr hc mu cut hl rs (fun r hr=>by
  have hr:r<H.length:=by simpa using List.all_eq_true.1 DK r hr
  refine⟨hr,?_⟩;unfold AS.blk;dsimp only;rw[lk_iO,if_pos (Nat.zero_le _)]
  simp[hr]) hp Rb (fun G0 pr fr=>h _ _ _ _ _ _ _)).2 σ G a w us hs bA gG
theorem RA.into1{σ:Sg} {ρ:List Nat} {nx:Nat} {G:Gh} {x:AV} {u:Value} (hn:∀ r,nx<=r->σ r=none) (hx:okv1 x=true) (h:RA σ G (Ff (rn ρ nx) x) u):RA (fun r=>if r<ρ.length then σ (ρ[r]?.getD 0) else none) G x u:=by
 have key:∀ {r o},σ (rn ρ nx r)=some o->(if r<ρ.length then σ (ρ[r]?.getD 0) else none)=some o:=fun {r o} e=>by
  unfold rn at e;split at e
  ·rename_i h;rw[if_pos h];exact e
  ·rw[hn _ (by omega)]at e;cases e
 cases x with
 | d=>exact .d h.un
 | ptr=>cases h with|ptr e=>exact .ptr (key e)
 | sl=>cases h with|sl e q=>exact .sl (key e) q
 | mp=>cases h with|mp e=>exact .mp (key e)
 | bs=>cases h with|bs e=>exact .bs (key e)
 | _=>cases hx
theorem RA.into{σ:Sg} {ρ:List Nat} {nx:Nat} {G:Gh} {x:AV} {u:Value} (hn:∀ r,nx<=r->σ r=none) (hx:okv x=true) (h:RA σ G (rv (rn ρ nx) x) u):RA (fun r=>if r<ρ.length then σ (ρ[r]?.getD 0) else none) G x u:=by
 cases x with
 | d=>exact RA.into1 hn rfl h
 | ptr=>exact RA.into1 hn rfl h
 | sl=>exact RA.into1 hn rfl h
 | mp=>exact RA.into1 hn rfl h
 | bs=>exact RA.into1 hn rfl h
 | fn g a c=>
  simp only[okv,Bool.and_eq_true]at hx;cases h with
  | fn _ _ _ us cs ha hc HA HC=>
   refine .fn g a c us cs (by simpa using ha) (by simpa using hc) (fun i x e=>RA.into1 hn (List.all_eq_true.1 hx.1 x (List.mem_of_getElem? e)) (HA i _ ?_)) (fun i x e=>RA.into1 hn (List.all_eq_true.1 hx.2 x (List.mem_of_getElem? e)) (HC i _ ?_))
   ·rw[List.getElem?_map,e];rfl
   ·rw[List.getElem?_map,e];rfl
 | _=>cases hx
theorem RA.outof1{σ τ:Sg} {f:Nat->Nat} {G:Gh} {x:AV} {u:Value} (hn:∀ r o,τ r=some o->σ (f r)=some o) (h:RA τ G x u):RA σ G (Ff f x) u:=by
 cases h with
 | d h=>exact .d h
 | any=>exact .any _
 | ptr e=>exact .ptr (hn _ _ e)
 | sl e q=>exact .sl (hn _ _ e) q
 | mp e=>exact .mp (hn _ _ e)
 | bs e=>exact .bs (hn _ _ e)
 | agg=>exact .any _
 | tup=>exact .any _
 | fn=>exact .any _
theorem RA.outofL{σ τ:Sg} {f:Nat->Nat} {G:Gh} {a:List AV} {us:Array Value} (hn:∀ r o,τ r=some o->σ (f r)=some o) (h:∀ (i:Nat) x,a[i]?=some x->RA τ G x (us[i]?.getD undef)):∀ (i:Nat) x,(a.map (Ff f))[i]?=some x->RA σ G x (us[i]?.getD undef):=by
 intro i x hx;rw[List.getElem?_map]at hx;cases hz:a[i]? with
 | none=>rw[hz]at hx;cases hx
 | some z=>rw[hz]at hx;cases hx;exact RA.outof1 hn (h i z hz)
theorem RA.outof{σ τ:Sg} {f:Nat->Nat} {G:Gh} {x:AV} {u:Value} (hn:∀ r o,τ r=some o->σ (f r)=some o) (h:RA τ G x u):RA σ G (rv f x) u:=by
 cases h with
 | d h=>exact .d h
 | any=>exact .any _
 | ptr e=>exact .ptr (hn _ _ e)
 | sl e q=>exact .sl (hn _ _ e) q
 | mp e=>exact .mp (hn _ _ e)
 | bs e=>exact .bs (hn _ _ e)
 | agg=>exact .any _
 | tup=>exact .any _
 | fn g a c us cs ha hc HA HC=>exact .fn _ _ _ us cs (by simpa using ha) (by simpa using hc) (RA.outofL hn HA) (RA.outofL hn HC)
theorem Cr{K:Cx} {g:FuncId} {l l':List AV} {H:List Blk} {y:D} {H':List (Option Blk)} {s:AS} (h:OC K.P g l H y H') (ρ:List Nat) (bi:ρ.length=H.length) (oX:ρ.Nodup) (Lb:l.all okv=true) (hl:l'=l.map (rv (rn ρ s.nx))) (hH:∀ (i:Nat) b,H[i]?=some b->okb b=true/\s.blk (ρ[i]?.getD 0)=some (rb (rn ρ s.nx) b)) (Lt:∀ b,some b∈H'->okb b=true) (im:H.length<=H'.length) :
  iK K g l' s fun y' t=>y'=.d y/\t=s.wo (oH (rn ρ s.nx) 0 H'++s.H,s.nx+(H'.length - H.length)):=by
 refine⟨h.c,fun σ G a w us hs bA gG=>?_⟩;obtain⟨C,c1,c2,c3,c4⟩:=hs.inv;obtain⟨ds,m1,m2,m3⟩:=hs.marks;have cg:∀ i,i<H.length->∃ b,H[i]?=some b/\s.blk (ρ[i]?.getD 0)=some (rb (rn ρ s.nx) b)/\okb b=true:=fun i hi=>⟨_,List.getElem?_eq_getElem hi,(hH i _ (List.getElem?_eq_getElem hi)).2,(hH i _ (List.getElem?_eq_getElem hi)).1⟩
 have aG:∀ r o,σ r=some o->r<s.nx:=fun r o e=>by
  rcases Nat.lt_or_ge r s.nx with q|q
  ·exact q
  ·rw[hs.next r q]at e;cases e
 have hsig:∀ i,i<H.length->∃ o,σ (ρ[i]?.getD 0)=some o:=fun i hi=>by
  obtain⟨b,-,e,-⟩:=cg i hi;obtain⟨o,e,-⟩:=hs.own _ _ e;exact⟨o,e⟩
 let σc:Sg:=fun r=>if r<ρ.length then σ (ρ[r]?.getD 0) else none
 let C1:Nat->Prop:=fun k=>∃ i b o,i<H.length/\s.blk (ρ[i]?.getD 0)=some b/\σ (ρ[i]?.getD 0)=some o/\o.nil=false/\o.b=k
 let F:Nat->Prop:=fun k=>C k/\¬ C1 k/\k<w.heap.size
 let J1:Nat->World->Gh->(Nat->Prop)->Prop:=fun i W G' C'=>K.J i W G' (fun k=>C' k\/F k)/\w.heap.size<=W.heap.size/\∀ k,F k->W.heap[k]?=w.heap[k]?/\¬ C' k/\(G k=none->G' k=none)
 have hJ1:JS J1:=by
  intro i W G1 C' W' G2 C2 hj e1 e2 e3 e4 e5 e6 e7 e8 e9;obtain⟨j1,j2,j3⟩:=hj;refine⟨hs.js i W G1 (fun k=>C' k\/F k) W' G2 _ j1 e1 e2 e3 e4 (fun k hk hc=>e5 k hk fun q=>hc (.inl q)) e6 (fun k o hk Aq=>(e7 k o hk Aq).imp id .inl) e8 (fun k hk=>?_),Nat.le_trans j2 e4,fun k hk=>?_⟩
  ·rcases hk with hk|hk
   ·rcases e9 k hk with q|q
    ·exact .inl (.inl q)
    ·exact .inr q
   ·exact .inl (.inr hk)
  ·obtain⟨f1,f2,f3⟩:=j3 k hk;have hkW:k<W.heap.size:=Nat.lt_of_lt_of_le hk.2.2 j2;refine⟨(e5 k hkW f2).trans f1,fun q=>?_,fun q=>?_⟩
   ·rcases e9 k q with q|q
    ·exact f2 q
    ·omega
   ·cases hg:G2 k with
    | none=>rfl
    | some o=>
     rcases e7 k o hg hkW with q2|q2
     ·rw[f3 q]at q2;cases q2
     ·exact(f2 q2).elim
 have hC1C:∀ k,C1 k->C k:=fun k ⟨i,b,o,_,q2,q3,q4,q5⟩=>c1 k ⟨_,b,o,q2,q3,q4,q5⟩
 have gg:Sat ⟨K.P,K.w0,G,none,K.mu,K.cut,K.E,J1,[],#[]⟩ σc G ⟨0,[],iO 0 (H.map some),H.length,s.yc⟩ { tmps:=#[],defers:=[] } w:=by
  have lg:∀ r b,(⟨0,[],iO 0 (H.map some),H.length,s.yc⟩:AS).blk r=some b->r<H.length/\H[r]?=some b:=fun r b e=>by
   unfold AS.blk at e;dsimp only at e;rw[lk_iO,if_pos (Nat.zero_le _),Nat.sub_zero,List.getElem?_map]at e;cases q:H[r]? with
   | none=>rw[q]at e;cases e
   | some b'=>rw[q]at e;cases e;exact⟨(List.getElem?_eq_some_iff.1 q).1,rfl⟩
  refine⟨rfl,fun t=>(by unfold AS.get lk;exact .any _),fun r b e=>?_,fun r r' b b' o o' e e' f f' n n' q=>?_,fun r hr=>(by show (if r<ρ.length then _ else none)=none;rw[if_neg (by dsimp only at hr;omega)]),hs.gsub,fun k o h _ _=>h,fun k o h=>h,hs.gcell,hs.below,⟨[],rfl,bY.nil _ _,fun _ h=>by cases h⟩,fun p hp=>(by cases hp),⟨C1,fun k ⟨r,b,o,q1,q2,q3,q4⟩=>?_,fun p hp=>(by cases hp),fun k hk=>(by cases hk),?_⟩,hJ1⟩
  ·obtain⟨h1,h2⟩:=lg r b e;obtain⟨b',h3,h4,h5⟩:=cg r h1;rw[h2]at h3;cases h3;obtain⟨o,e1,e2,e3⟩:=hs.own _ _ h4;refine⟨o,by show (if r<ρ.length then _ else none)=_;rw[if_pos (by omega)];exact e1,?_,e3⟩;cases b with
   | row=>exact e2
   | map=>exact e2
   | box ty cl=>
    obtain⟨a1,a2,a3,cs,a4,a5,a6⟩:=e2;refine⟨by simpa using a1,a2,fun x hx=>?_,cs,a4,by simpa using a5,fun j x hx=>?_⟩
    ·have q1:=a3 _ (List.mem_map.2 ⟨x,hx,rfl⟩);have q2:=List.all_eq_true.1 h5 x hx;cases x<;>first|exact q1|(cases q2;done)
    ·refine RA.into hs.next (List.all_eq_true.1 h5 x (List.mem_of_getElem? hx)) (a6 j _ ?_);rw[List.getElem?_map,hx];rfl
  ·obtain⟨h1,-⟩:=lg r b e;obtain⟨tc,-⟩:=lg r' b' e';obtain⟨b2,-,g1,-⟩:=cg r h1;obtain⟨b3,-,g2,-⟩:=cg r' tc;change (if r<ρ.length then _ else none)=_ at f;change (if r'<ρ.length then _ else none)=_ at f';rw[if_pos (by omega)]at f f';have:=hs.inj _ _ _ _ _ _ g1 g2 f f' n n' q;rw[List.getElem?_eq_getElem (by omega),List.getElem?_eq_getElem (by omega)]at this;exact(List.getElem_inj oX).1 this
  ·obtain⟨h1,-⟩:=lg r b q1;obtain⟨b2,-,g1,-⟩:=cg r h1;change (if r<ρ.length then _ else none)=_ at q2;rw[if_pos (by omega)]at q2;exact⟨r,_,o,h1,g1,q2,q3,q4⟩
  ·refine⟨hs.js s.yc w G C w G _ c4 rfl rfl rfl (Nat.le_refl _) (fun _ _ _=>rfl) (fun _ _ h=>h) (fun k o h _=>.inl h) (fun k o h=>⟨hs.gsub k o h,hs.gcell k o h⟩) (fun k hk=>.inl (hk.elim (hC1C k) fun q=>q.1)),Nat.le_refl _,fun k hk=>⟨rfl,hk.2.1,id⟩⟩
 refine(h.h ⟨K.P,K.w0,G,none,K.mu,K.cut,K.E,J1,[],#[]⟩ σc G _ w s.yc us rfl gg (by rw[bA,hl,List.length_map]) (fun i x hx=>?_)).mono ?_
 ·refine RA.into hs.next (List.all_eq_true.1 Lb x (List.mem_of_getElem? hx)) (gG i _ ?_);rw[hl,List.getElem?_map,hx];rfl
 rintro e w' ⟨v,σ',G',rfl,k1,k2,k3,k4⟩;obtain⟨C2,d1,-,-,d4,d5,d6⟩:=k3.inv
 let φ:Sg:=fun r=>if r<s.nx then σ r else σ' (H.length+(r - s.nx))
 have tl:Mo σ G φ G':=⟨fun r o e=>by show (if r<s.nx then _ else _)=_;rw[if_pos (aG r o e)];exact e,k2⟩
 have sU:∀ r o,σ' r=some o->φ (rn ρ s.nx r)=some o:=fun r o e=>by
  show (if rn ρ s.nx r<s.nx then _ else _)=_
  unfold rn;by_cases hr:r<ρ.length
  ·rw[if_pos hr];rw[k1 r (by omega)]at e;change (if r<ρ.length then _ else none)=_ at e;rw[if_pos hr]at e;rw[if_pos (aG _ _ e)];exact e
  ·rw[if_neg hr,if_neg (by omega),show H.length+(s.nx+(r - ρ.length) - s.nx)=r by omega];exact e
 have gU:∀ q b,(s.wo (oH (rn ρ s.nx) 0 H'++s.H,s.nx+(H'.length - H.length))).blk q=some b →
   (∃ r c,q=rn ρ s.nx r/\(⟨0,[],iO 0 H',H'.length,s.yc⟩:AS).blk r=some c/\b=rb (rn ρ s.nx) c/\some c∈H')\/(s.blk q=some b/\∀ i,i<H.length->q≠ρ[i]?.getD 0):=fun q b e=>by
  unfold AS.blk AS.wo at e;dsimp only at e;rw[w7]at e;cases hq:lk (oH (rn ρ s.nx) 0 H') q with
  | some b'=>
   rw[hq]at e;obtain⟨r,c,e1,-,e3,e4⟩:=N0 _ _ _ _ hq;rw[Nat.sub_zero]at e3;cases c with
   | none=>rw[e4]at e;cases e
   | some c=>
    rw[e4]at e;cases e;refine .inl ⟨r,c,e1,?_,rfl,List.mem_of_getElem? e3⟩;unfold AS.blk;dsimp only;rw[lk_iO,if_pos (Nat.zero_le _),Nat.sub_zero,e3];rfl
  | none=>
   rw[hq]at e;refine .inr ⟨e,fun i hi=>?_⟩;have:=xg _ _ _ hq i (Nat.zero_le _) (by omega);unfold rn at this;rw[if_pos (by omega)]at this;exact this
 have hF:∀ q b o,s.blk q=some b->(∀ i,i<H.length->q≠ρ[i]?.getD 0)->σ q=some o->o.nil=false->F o.b:=fun q b o e hq ho hn=>by
  refine⟨c1 _ ⟨q,b,o,e,ho,hn,rfl⟩,fun ⟨i,b',o',g1,g2,g3,g4,g5⟩=>hq i g1 (hs.inj _ _ _ _ _ _ e g2 ho g3 hn g4 g5.symm),?_⟩;obtain⟨o',e1,e2,-⟩:=hs.own _ _ e;rw[ho]at e1;cases e1;cases b with
  | row=>obtain⟨_,_,_,_,_,e2⟩:=e2;obtain⟨cs,e2,-⟩:=e2 hn;exact aw e2
  | box=>obtain⟨_,_,_,cs,e2,-⟩:=e2;exact aw e2
  | map=>obtain⟨_,es,cl,e2,-⟩:=e2;exact aw e2
 have FE:∀ k ob,C k->w.heap[k]?=some ob->Gv ob=false->F k:=fun k ob hk e ho=>by
  refine⟨hk,fun ⟨i,b,o,g1,g2,g3,g4,g5⟩=>?_,aw e⟩;obtain⟨o',e1,e2,-⟩:=hs.own _ _ g2;rw[g3]at e1;cases e1;subst g5;cases b with
  | row=>obtain⟨_,_,_,_,_,e2⟩:=e2;obtain⟨cs,e2,-⟩:=e2 g4;rw[e]at e2;cases e2;cases ho
  | box=>obtain⟨_,_,_,cs,e2,-⟩:=e2;rw[e]at e2;cases e2;cases ho
  | map=>obtain⟨_,es,cl,e2,-⟩:=e2;rw[e]at e2;cases e2;cases ho
 refine⟨v,φ,G',_,.d y,rfl,?_,.d k4,rfl,rfl⟩;refine⟨hs.size,fun t=>(hs.slot t).mono tl,fun q b e=>?_,fun q q' b b' o o' e e' f f' n n' hb=>?_,fun q hq=>?_,k3.gsub,fun k o e hk hE=>hs.gold k o (k3.gold k o e hk hE) hk hE,fun k o e=>k2 _ _ (hs.gnew k o e),k3.gcell,k3.below,⟨ds,m1,⟨m2.1,fun d hd=>⟨(m2.2 d hd).1,?_⟩⟩,m3⟩,fun p hp=>⟨((d6 p.1 (FE p.1 p.2 (c2 p hp) (hs.pr p hp).1 (hs.pr p hp).2)).1).trans (hs.pr p hp).1,(hs.pr p hp).2⟩,⟨fun k=>C2 k\/F k,fun k ⟨q,b,o,q1,q2,q3,q4⟩=>?_,fun p hp=>.inr (FE p.1 p.2 (c2 p hp) (hs.pr p hp).1 (hs.pr p hp).2),fun k hk=>?_,d4⟩,hs.js⟩
 ·rcases gU q b e with ⟨r,c,rfl,e1,rfl,e2⟩|⟨e1,e2⟩
  ·obtain⟨o,f1,f2,f3⟩:=k3.own r c e1;refine⟨o,sU r o f1,?_,f3⟩;cases c with
   | row=>exact f2
   | map=>exact f2
   | box ty cl=>
    obtain⟨a1,a2,a3,cs,a4,a5,a6⟩:=f2;have h5:=Lt _ e2;refine⟨by simpa using a1,a2,fun x hx=>?_,cs,a4,by simpa using a5,fun j x hx=>?_⟩
    ·obtain⟨z,hz,rfl⟩:=List.mem_map.1 hx;have q1:=a3 z hz;have q2:=List.all_eq_true.1 h5 z hz;cases z<;>first|exact q1|(cases q2;done)
    ·rw[List.getElem?_map]at hx;cases hz:cl[j]? with
     | none=>rw[hz]at hx;cases hx
     | some z=>rw[hz]at hx;cases hx;exact RA.outof sU (a6 j z hz)
  ·obtain⟨o,f1,f2,f3⟩:=hs.own q b e1;refine⟨o,tl.s _ _ f1,f2.mono tl (fun hn=>(d6 _ (hF q b o e1 e2 f1 hn)).1),fun hn=>⟨(f3 hn).1,(d6 _ (hF q b o e1 e2 f1 hn)).2.2 (f3 hn).2⟩⟩
 ·rcases gU q b e with ⟨r,c,rfl,e1,rfl,e2⟩|⟨e1,e2⟩
  ·obtain⟨o2,g1,-⟩:=k3.own r c e1;have g2:=sU r o2 g1;rw[f]at g2;cases g2;rcases gU q' b' e' with ⟨r',c',rfl,e1',rfl,e2'⟩|⟨e1',e2'⟩
   ·obtain⟨o2',g1',-⟩:=k3.own r' c' e1';have g2':=sU r' o2' g1';rw[f']at g2';cases g2';rw[k3.inj _ _ _ _ _ _ e1 e1' g1 g1' n n' hb]
   ·obtain⟨o2',g1',-⟩:=hs.own q' b' e1';have g2':=tl.s _ _ g1';rw[f']at g2';cases g2';exact((d6 _ (hF q' b' _ e1' e2' g1' n')).2.1 (d1 _ ⟨r,c,_,e1,g1,n,hb⟩)).elim
  ·obtain⟨o2,g1,-⟩:=hs.own q b e1;have g2:=tl.s _ _ g1;rw[f]at g2;cases g2;rcases gU q' b' e' with ⟨r',c',rfl,e1',rfl,e2'⟩|⟨e1',e2'⟩
   ·obtain⟨o2',g1',-⟩:=k3.own r' c' e1';have g2':=sU r' o2' g1';rw[f']at g2';cases g2';exact((d6 _ (hF q b _ e1 e2 g1 n)).2.1 (d1 _ ⟨r',c',_,e1',g1',n',hb.symm⟩)).elim
   ·obtain⟨o2',g1',-⟩:=hs.own q' b' e1';have g2':=tl.s _ _ g1';rw[f']at g2';cases g2';exact hs.inj _ _ _ _ _ _ e1 e1' g1 g1' n n' hb
 ·show (if q<s.nx then _ else _)=none
  dsimp only[AS.wo]at hq;rw[if_neg (by omega)];exact k3.next _ (by show H'.length<=_;omega)
 ·have q1:C d:=c3 d (m1 ▸ List.mem_map.2 ⟨d,hd,rfl⟩);exact((d6 d (FE d _ q1 (m2.2 d hd).2 rfl)).1).trans (m2.2 d hd).2
 ·rcases gU q b q1 with ⟨r,c,rfl,e1,rfl,e2⟩|⟨e1,e2⟩
  ·obtain⟨o2,g1,-⟩:=k3.own r c e1;have g2:=sU r o2 g1;rw[q2]at g2;cases g2;exact .inl (d1 _ ⟨r,c,_,e1,g1,q3,q4⟩)
  ·obtain⟨o2,g1,-⟩:=hs.own q b e1;have g2:=tl.s _ _ g1;rw[q2]at g2;cases g2;rw[<-q4];exact .inr (hF q b _ e1 e2 g1 q3)
 ·rw[m1]at hk;obtain⟨d,q1,q2⟩:=List.mem_map.1 hk;have:d=k:=by injection q2 with q2 _;injection q2
  subst this;exact .inr (FE d _ (c3 d (m1 ▸ List.mem_map.2 ⟨d,q1,rfl⟩)) (m2.2 d q1).2 rfl)
def hB(f:Nat->Nat) (s:AS):List Blk->List Nat->Prop
 | [],[]=>True
 | b :: H,r :: ρ=>okb b=true/\s.blk r=some (rb f b)/\hB f s H ρ
 | _,_=>False
theorem GK{f:Nat->Nat} {s:AS}:∀ {H:List Blk} {ρ:List Nat},hB f s H ρ->ρ.length=H.length/\∀ (i:Nat) b,H[i]?=some b->okb b=true/\s.blk (ρ[i]?.getD 0)=some (rb f b)
 | [],[],_=>⟨rfl,fun i b e=>by simp at e⟩
 | b :: H,r :: ρ,⟨h1,h2,h3⟩=>by
  obtain⟨q1,q2⟩:=GK h3;refine⟨by simp[q1],fun i b e=>?_⟩;cases i with
  | zero=>simp at e;subst e;exact⟨h1,h2⟩
  | succ i=>simpa using q2 i b (by simpa using e)
 | [],_ :: _,h=>h.elim
 | _ :: _,[],h=>h.elim
def okO:List (Option Blk)->Bool
 | []=>true
 | none :: l=>okO l
 | some b :: l=>okb b&&okO l
theorem okO_ok:∀ {l:List (Option Blk)},okO l=true->∀ b,some b∈l->okb b=true
 | [],_,b,e=>by cases e
 | none :: l,h,b,e=>okO_ok (l:=l) h b (by simpa using e)
 | some c :: l,h,b,e=>by
  simp only[okO,Bool.and_eq_true]at h;rcases List.mem_cons.1 e with e|e
  ·cases e;exact h.1
  ·exact okO_ok h.2 b e
def oS(s:AS) (ρ:List Nat) (m:Nat) (H':List (Option Blk)):HN:=(oH (rn ρ s.nx) 0 H'++s.H,s.nx+(H'.length - m))
theorem qO{K:Cx} {g:FuncId} {l l':List AV} {H:List Blk} {y:D} {H':List (Option Blk)} {s:AS} {k:AV->AS->Prop} {u} (h:OC K.P g l H y H') (ρ:List Nat) (oX:ρ.Nodup) (Lb:l.all okv=true) (hl:l'=l.map (rv (rn ρ s.nx))) (hH:hB (rn ρ s.nx) s H ρ) (Lt:okO H'=true) (im:H.length<=H'.length)
  (hk:k (.d y) (s.wo (oS s ρ H.length H'))):AC K g k u l' s:=by
 obtain⟨q1,q2⟩:=GK hH;have h1:=Cr h ρ q1 oX Lb hl q2 (okO_ok Lt) im;refine⟨h1.1,fun σ G a w us f1 f2 f3=>(h1.2 σ G a w us f1 f2 f3).mono ?_⟩;rintro e w' ⟨v,σ',G',t,y',f1,f2,f3,rfl,rfl⟩;exact⟨v,σ',G',_,_,f1,f2,f3,hk⟩
theorem Qc{K:Cx} {d:Option Nat} {g:FuncId} {args:Array Operand} {ts:Array TypeId} {ty:TypeId} {pos:String} {af:Array Edge} {l:List AV} {H:List Blk} {y:D} {H':List (Option Blk)} {s:AS} {k:AS->Prop} {u} (h:OC K.P g l H y H') (ρ:List Nat) (oX:ρ.Nodup) (Lb:l.all okv=true) (hl:args.toList.map s.ev=l.map (rv (rn ρ s.nx))) (hH:hB (rn ρ s.nx) s H ρ) (Lt:okO H'=true) (im:H.length<=H'.length)
  (hk:k ((s.wo (oS s ρ H.length H')).put d (.d y))):RZ K ⟨d,.call ⟨.value (.func g),args,ts⟩,ty,pos,af,none⟩ k u s:=by
 obtain⟨q1,q2⟩:=GK hH;refine⟨rfl,.d y,oS s ρ H.length H',fun s' ht=>?_,hk⟩
 have e:args.toList.map s'.ev=l.map (rv (rn ρ s.nx)):=by
  rw[<-hl];refine List.map_congr_left fun x hx=>ht.ev x ?_
  simp only[Op.operands,Call.operands];simpa using Or.inr hx
 have h1:=Cr (s:=s') (l':=args.toList.map s'.ev) h ρ q1 oX Lb (by rw[ht.nx];exact e) (fun i b hb=>by rw[ht.nx,ht.blk];exact q2 i b hb) (okO_ok Lt) im;rw[ht.nx,ht.H]at h1
 show mX K (s'.ev (.func g)) (args.toList.map s'.ev) s' fun y' t=>t.put d y'=(s'.wo _).put d (.d y)
 refine⟨rfl,rfl,h1.1,fun σ G a w us q1 q2 q3=>(h1.2 σ G a w us q1 q2 q3).mono ?_⟩;rintro e w' ⟨v,σ',G',t,y',f1,f2,f3,rfl,rfl⟩;exact⟨v,σ',G',_,_,f1,f2,f3,rfl⟩
attribute [simp] rn rv Ff okv okv1 rb okb iO oH hB okO oS
attribute [simp] fk rt JF AS.wo
theorem zD(a:Adv) (word:List Rd) (ha:advE a=0) (hl:word.length<=17592186044416) (hw:∀ r∈word,eD r):FC Tryz.prog 186 [gR a,bK word] (.tup [bD (cz a word).1,iD (cz a word).2]):=by
 refine⟨Tryz.call186,fun G us w hG hz hu=>?_⟩;obtain⟨v,e0,h0⟩:=Co (hu 0 _ rfl);have h1:=hu 1 _ rfl;rw[GH (us:=us) hz,e0];generalize us[1]?.getD undef=u at h1;refine(Gs a v u word w (nR ha hG h0) (JC hG h1 hl hw) (by have:=pP ha;omega) (by omega)).mono ?_;rintro e w' ⟨rfl,hb⟩;refine⟨_,G,rfl,hb,Grow.same hG hb,.tup _ _ rfl fun i x hx=>?_⟩
 match i,hx with
 | 0,hx=>cases hx;exact .v _
 | 1,hx=>cases hx;exact .v _
def oK(w:World):Gh:=fun k=>match w.heap[k]? with|some o=>if o.isCells=true then some o else none|none=>none
theorem Qd{w:World} {k:Nat} {o:Obj} (h:oK w k=some o):w.heap[k]?=some o/\o.isCells=true:=by
 unfold oK at h;cases hk:w.heap[k]? with
 | none=>rw[hk]at h;cases h
 | some x=>
  rw[hk]at h;dsimp only at h;split at h
  ·rename_i e;cases h;exact⟨rfl,e⟩
  ·cases h
theorem Ct{w:World} {b o:Nat} {v:Value} (h:w.cell? ⟨b,o,none⟩=some v):∃ cs ty fr,oK w b=some (.cells cs ty fr)/\cs[o]?=some v:=by
 unfold World.cell? at h;unfold oK;cases ho:w.heap[b]? with
 | none=>simp[ho]at h
 | some x=>
  cases x with
  | cells cs ty fr=>simp[ho]at h;exact⟨cs,ty,fr,rfl,h⟩
  | _=>simp[ho]at h
def qP{α:Type} (w:World) (k:Nat) (R:World->Nat->Nat->α->Prop) (f:α->List D):Prop:=∀ b o x,R w b o x->(f x).length=k/\(∀ y∈f x,y.cell=true)/\∀ (j:Nat) y,(f x)[j]?=some y->∃ u,w.cell? ⟨b,o+j,none⟩=some u/\RD (oK w) y u
theorem lK{α:Type} {k:Nat} {R:World->Nat->Nat->α->Prop} {w:World} {v:Value} {l:List α} (f:α->List D) (hk:0<k) (hR:qP w k R f) (h:fu k R w v l):RD (oK w) (.fz k (l.map f)) v:=by
 obtain⟨a,cap,rfl,h1,h2,h3⟩:=h;have e0:(l.map f).length=l.length:=by simp
 rw[<-e0];cases l with
 | nil=>exact .fz k [] a cap 0 0 #[] 0 (0,0) ⟨by simp,h1.2.1,h1.2.2,by simp⟩ (fun r hr=>by cases hr) (fun e=>(e rfl).elim) (fun i j r x e=>by simp at e)
 | cons x0 r=>
  obtain⟨l,hl⟩:∃ l,l=x0 :: r:=⟨_,rfl⟩;rw[<-hl]at h1 h2 h3 ⊢;have DG:0<l.length:=by rw[hl];simp
  obtain⟨b,off,rfl,-⟩:=h3 0 l[0] (List.getElem?_eq_getElem DG)
  have h4:∀ i (hi:i<l.length),R w b (off+i * k) l[i]:=fun i hi=>by
   obtain⟨b',off',e,hr⟩:=h3 i _ (List.getElem?_eq_getElem hi);cases e;exact hr
  obtain⟨q1,q2,q3⟩:=hR _ _ _ (h4 (l.length - 1) (by omega));have hj:k - 1<(f l[l.length - 1]).length:=by rw[q1];omega
  obtain⟨u,hu,-⟩:=q3 (k - 1) _ (List.getElem?_eq_getElem hj);obtain⟨cs,ty,fr,g1,g2⟩:=Ct hu
  have bA:off+l.length * k<=cs.size:=by
   have:=(Array.getElem?_eq_some_iff.1 g2).1;have e:l.length * k=(l.length - 1) * k+k:=by rw[<-Nat.succ_mul];congr 1;omega
   omega
  refine .fz k (l.map f) _ cap b off cs ty fr ⟨by rw[List.length_map];exact h1.1,h1.2.1,h1.2.2,by rw[List.length_map];omega⟩ (fun t ht=>?_) (fun _=>⟨rfl,g1,by rw[List.length_map];exact bA⟩) (fun i j t y e1 e2=>?_)
  ·obtain⟨x,hx,rfl⟩:=List.mem_map.1 ht;obtain⟨i,hi,rfl⟩:=List.getElem_of_mem hx;have:=hR _ _ _ (h4 i hi);exact⟨this.1,this.2.1⟩
  ·rw[List.getElem?_map]at e1;cases hx:l[i]? with
   | none=>rw[hx]at e1;cases e1
   | some x=>
    rw[hx]at e1;cases e1;obtain⟨hi,rfl⟩:=List.getElem?_eq_some_iff.1 hx;obtain⟨u,hu,hr⟩:=(hR _ _ _ (h4 i hi)).2.2 j y e2;obtain⟨cs',ty',fr',g1',g2'⟩:=Ct hu;rw[g1]at g1';cases g1';rw[g2'];exact hr
theorem dA{w:World} {b o:Nat} {x:Int} (h:gH w b o x):∃ u,w.cell? ⟨b,o,none⟩=some u/\RD (oK w) (iD x) u:=⟨_,h.1,.v _⟩
theorem vI(w:World):qP w 1 gH fun x=>[iD x]:=fun b o x h=>⟨rfl,by simp[D.cell,Value.oneCell'],fun j y hj=>by
 match j,hj with
 | 0,hj=>cases hj;exact dA h⟩
theorem Fg{α:Type} {k:Nat} {R:World->Nat->Nat->α->Prop} {w:World} {f:α->List D} (hk:0<k) (hR:qP w k R f):qP w 1 (o8 k R) fun l=>[.fz k (l.map f)]:=fun b o l h=>⟨rfl,by simp[D.cell],fun j y hj=>by
 match j,hj with
 | 0,hj=>
  cases hj
  obtain⟨v,h1,h2⟩:=h
  exact⟨v,h1,lK f hk hR h2⟩⟩
theorem Cu{α:Type} {k:Nat} {R:World->Nat->Nat->α->Prop} {w:World} {b o:Nat} {l:List α} {f:α->List D} (hk:0<k) (hR:qP w k R f) (h:o8 k R w b o l):∃ u,w.cell? ⟨b,o,none⟩=some u/\RD (oK w) (.fz k (l.map f)) u:=by
 obtain⟨v,h1,h2⟩:=h;exact⟨v,h1,lK f hk hR h2⟩
theorem zE(w:World):qP w 1 pv fun x=>[aT x]:=Fg (by omega) (vI w)
theorem JG(w:World):qP w 3 v7 sA:=fun b o x h=>⟨rfl,by simp[D.cell],fun j y hj=>by
 obtain⟨h0,h1,h2⟩:=h
 match j,hj with
 | 0,hj=>cases hj;exact Cu (by omega) (vI w) h0
 | 1,hj=>cases hj;exact Cu (by omega) (zE w) h1
 | 2,hj=>cases hj;exact Cu (by omega) (zE w) h2⟩
theorem GL(w:World):qP w 7 ki nQ:=fun b o x h=>⟨rfl,by simp[D.cell,Value.oneCell'],fun j y hj=>by
 obtain⟨h0,h1,h2,h3,h4,h5,h6⟩:=h
 match j,hj with
 | 0,hj=>cases hj;exact dA h0
 | 1,hj=>cases hj;exact dA h1
 | 2,hj=>cases hj;exact dA h2
 | 3,hj=>cases hj;exact dA h3
 | 4,hj=>cases hj;exact dA h4
 | 5,hj=>cases hj;exact dA h5
 | 6,hj=>cases hj;exact dA h6⟩
theorem JH(w:World):qP w 8 rI Fc:=fun b o x h=>⟨rfl,by simp[D.cell,Value.oneCell'],fun j y hj=>by
 obtain⟨⟨h0,h1,h2,h3,h4,h5,h6⟩,h7⟩:=h
 match j,hj with
 | 0,hj=>cases hj;exact dA h0
 | 1,hj=>cases hj;exact dA h1
 | 2,hj=>cases hj;exact dA h2
 | 3,hj=>cases hj;exact dA h3
 | 4,hj=>cases hj;exact dA h4
 | 5,hj=>cases hj;exact dA h5
 | 6,hj=>cases hj;exact dA h6
 | 7,hj=>cases hj;exact dA h7⟩
theorem MC{w:World} {v:Value} {l:List Int} (h:cW w v l):RD (oK w) (aT l) v:=lK _ (by omega) (vI w) h
theorem JI{w:World} {v:Value} {l:List Cs} (h:it w v l):RD (oK w) (ja l) v:=lK _ (by omega) (JG w) h
theorem MD{w:World} {v:Value} {l:List Rd} (h:iP w v l):RD (oK w) (bK l) v:=lK _ (by omega) (GL w) h
theorem GM{w:World} {v:Value} {l:List (List Mv)} (h:cO w v l):RD (oK w) (gQ l) v:=lK _ (by omega) (Fg (by omega) (JH w)) h
def RL(G:Gh):List D->List Value->Prop
 | [],[]=>True
 | x :: l,v :: vs=>RD G x v/\RL G l vs
 | _,_=>False
theorem RL.at{G:Gh}:∀ {l:List D} {vs:List Value},RL G l vs->vs.length=l.length/\∀ (i:Nat) x,l[i]?=some x->RD G x (vs[i]?.getD undef)
 | [],[],_=>⟨rfl,fun i x h=>by simp at h⟩
 | x :: l,v :: vs,⟨h1,h2⟩=>by
  obtain⟨q1,q2⟩:=h2.at;refine⟨by simp[q1],fun i y hy=>?_⟩;cases i with
  | zero=>simp at hy;subst hy;exact h1
  | succ i=>simpa using q2 i y (by simpa using hy)
 | [],_ :: _,h=>h.elim
 | _ :: _,[],h=>h.elim
theorem Fh{G:Gh} {l:List D} {vs:List Value} (h:RL G l vs):RD G (.agg l) (.agg vs.toArray):=.agg _ _ (by simpa using h.at.1) fun i x hx=>by simpa using h.at.2 i x hx
theorem FC.law{P:Program} {f:FuncId} {args:List D} (h:FC P f args (.v (.bool true))) {us:List Value} {w:World} (ha:RL (oK w) args us):Calls P f us.toArray w fun e w'=>e=.returned (.bool true)/\Below w.heap.size w w':=
 (h.2 (oK w) us.toArray w (fun k o=>Qd) (by simpa using ha.at.1) (fun i x hx=>by simpa using ha.at.2 i x hx)).mono fun e w' ⟨v,G',h1,h2,_,h3⟩=>⟨by rw[h1,h3.val],h2⟩
theorem ME{w:World} {v:Value} {l:List Rd} (h:iP w v l):∀ r∈l,eD r:=fun r hr=>by
 obtain⟨a,cap,-,-,-,h3⟩:=h;obtain⟨i,hi,rfl⟩:=List.getElem_of_mem hr;obtain⟨b,off,-,h0,h1,h2,h3,h4,h5,h6⟩:=h3 i _ (List.getElem?_eq_getElem hi);exact⟨h0.2,h1.2,h2.2,h3.2,h4.2,h5.2,h6.2⟩
end Go.Proofs.YtiocdkdkndpgkaaGreat
namespace Go.Proofs.YtiocdkdkndpgkaaGreat
open Go.RowKit Go
theorem Cv(a:Int):FC Tryz.prog 253 [iD a] (bD false):=by
 refine an Tryz.func253 rfl rfl rfl Tryz.call253 [] [] rfl 1 (fun hb w0 G0=>?_);simp
theorem pQ(a b:Int):FC Tryz.prog 204 [iD a,iD b] (iD (cmpI a b)):=by
 refine an Tryz.func204 rfl rfl rfl Tryz.call204 [] [] rfl 1 (fun hb w0 G0=>?_);unfold cmpI;simp;refine ap (Cv _) ?_;simp;refine ap (Cv _) ?_;simp
 (refine Bz.split (fun h=>?_) (fun h=>?_)<;>(try simp only[decide_eq_true_eq,decide_eq_false_iff_not,Bool.not_eq_true',Bool.not_eq_false',beq_iff_eq,bne_iff_ne,beq_eq_false_iff_ne,bne_eq_false_iff_eq,Bool.not_not,Bool.and_eq_true,Bool.or_eq_true,Bool.and_eq_false_iff,Bool.or_eq_false_iff]at h))<;>simp[h]
 (refine Bz.split (fun h1=>?_) (fun h1=>?_)<;>(try simp only[decide_eq_true_eq,decide_eq_false_iff_not,Bool.not_eq_true',Bool.not_eq_false',beq_iff_eq,bne_iff_ne,beq_eq_false_iff_ne,bne_eq_false_iff_eq,Bool.not_not,Bool.and_eq_true,Bool.or_eq_true,Bool.and_eq_false_iff,Bool.or_eq_false_iff]at h1))<;>simp[h1]<;>omega
theorem kY(a b:List Int):FC Tryz.prog 179 [aT a,aT b] (iD (ordV a b)):=by
 refine an Tryz.func179 rfl rfl rfl Tryz.call179 [] [] rfl 4 (fun hb w0 G0=>?_);simp at hb;simp;refine am [0,1,9,10] [] (fun k:Nat=>[(11,.d (iD k))]) (fun _=>[]) (fun k=>a.length - k) (fun k=>k<=a.length/\k<=b.length/\ordV (a.drop k) (b.drop k)=ordV a b) 0 (by simp) (by simp) (fun k hk=>?_);obtain⟨hk,bV,hj⟩:=hk;simp
 (refine Bz.split (fun h=>?_) (fun h=>?_)<;>(try simp only[decide_eq_true_eq,decide_eq_false_iff_not,Bool.not_eq_true',Bool.not_eq_false',beq_iff_eq,bne_iff_ne,beq_eq_false_iff_ne,bne_eq_false_iff_eq,Bool.not_not,Bool.and_eq_true,Bool.or_eq_true,Bool.and_eq_false_iff,Bool.or_eq_false_iff]at h))<;>simp[h]
 ·(refine Bz.split (fun h1=>?_) (fun h1=>?_)<;>(try simp only[decide_eq_true_eq,decide_eq_false_iff_not,Bool.not_eq_true',Bool.not_eq_false',beq_iff_eq,bne_iff_ne,beq_eq_false_iff_ne,bne_eq_false_iff_eq,Bool.not_not,Bool.and_eq_true,Bool.or_eq_true,Bool.and_eq_false_iff,Bool.or_eq_false_iff]at h1))<;>simp[h1]
  ·have e:k=b.length:=by omega
   subst e;rw[<-hj,List.drop_length,cA h];rfl
  have h1:k<b.length:=by omega
  simp[h1];refine ap (pQ _ _) ?_;rw[cA h,cA h1]at hj;unfold cmpI;simp
  (refine Bz.split (fun h2=>?_) (fun h2=>?_)<;>(try simp only[decide_eq_true_eq,decide_eq_false_iff_not,Bool.not_eq_true',Bool.not_eq_false',beq_iff_eq,bne_iff_ne,beq_eq_false_iff_ne,bne_eq_false_iff_eq,Bool.not_not,Bool.and_eq_true,Bool.or_eq_true,Bool.and_eq_false_iff,Bool.or_eq_false_iff]at h2))<;>simp[h2]
  ·rw[<-hj];unfold ordV;grind
  ·refine vg (ar.of (k+1) [] (by simp) ⟨⟨h,h1,?_⟩,by omega⟩);rw[<-hj];conv=>rhs;unfold ordV
   grind
 ·have e:k=a.length:=by omega
  subst e;rw[List.drop_length,my,List.length_drop]at hj;rw[<-hj]
  (refine Bz.split (fun h1=>?_) (fun h1=>?_)<;>(try simp only[decide_eq_true_eq,decide_eq_false_iff_not,Bool.not_eq_true',Bool.not_eq_false',beq_iff_eq,bne_iff_ne,beq_eq_false_iff_ne,bne_eq_false_iff_eq,Bool.not_not,Bool.and_eq_true,Bool.or_eq_true,Bool.and_eq_false_iff,Bool.or_eq_false_iff]at h1))<;>simp[h1]<;>omega
theorem fO(a b:List Int):FC Tryz.prog 37 [aT a,aT b] (bD (eqV a b)):=by
 refine an Tryz.func37 rfl rfl rfl Tryz.call37 [] [] rfl 4 (fun hb w0 G0=>?_);simp at hb;simp
 (refine Bz.split (fun h0=>?_) (fun h0=>?_)<;>(try simp only[decide_eq_true_eq,decide_eq_false_iff_not,Bool.not_eq_true',Bool.not_eq_false',beq_iff_eq,bne_iff_ne,beq_eq_false_iff_ne,bne_eq_false_iff_eq,Bool.not_not,Bool.and_eq_true,Bool.or_eq_true,Bool.and_eq_false_iff,Bool.or_eq_false_iff]at h0))<;>simp[h0]
 ·simp[eqV];rintro rfl;simp at h0
 have h0:a.length=b.length:=by omega
 refine am [0,1,12] [] (fun k:Nat=>[(13,.d (iD k))]) (fun _=>[]) (fun k=>a.length - k) (fun k=>k<=a.length/\a.take k=b.take k) 0 (by simp) (by simp[h0]) (fun k hk=>?_);obtain⟨hk,hj⟩:=hk;simp
 (refine Bz.split (fun h=>?_) (fun h=>?_)<;>(try simp only[decide_eq_true_eq,decide_eq_false_iff_not,Bool.not_eq_true',Bool.not_eq_false',beq_iff_eq,bne_iff_ne,beq_eq_false_iff_ne,bne_eq_false_iff_eq,Bool.not_not,Bool.and_eq_true,Bool.or_eq_true,Bool.and_eq_false_iff,Bool.or_eq_false_iff]at h))<;>simp[h]
 ·have h1:k<b.length:=by omega
  refine aO 8 ?_;have ha:k<a.length:=by omega
  simp[h1,ha]
  (refine Bz.split (fun h2=>?_) (fun h2=>?_)<;>(try simp only[decide_eq_true_eq,decide_eq_false_iff_not,Bool.not_eq_true',Bool.not_eq_false',beq_iff_eq,bne_iff_ne,beq_eq_false_iff_ne,bne_eq_false_iff_eq,Bool.not_not,Bool.and_eq_true,Bool.or_eq_true,Bool.and_eq_false_iff,Bool.or_eq_false_iff]at h2))<;>simp[h2]
  ·simp[eqV];rintro rfl;exact h2 rfl
  ·refine vg (ar.of (k+1) [] (by simp) ⟨⟨ha,?_⟩,by omega⟩);rw[List.take_succ_eq_append_getElem ha,List.take_succ_eq_append_getElem h1,hj,h2]
 ·have e:k=a.length:=by omega
  subst e;rw[List.take_length,h0,List.take_length]at hj;simp[eqV,hj]
theorem Pp(l:List Int) (g:FuncId) (c:List D) (p:Nat->Bool) (hp:∀ i (h:i<l.length),FC Tryz.prog g (iD l[i] :: c) (bD (p i))):FC Tryz.prog 137 [aT l,.fn (.func g) [] c] (iD (firstIx l.length p)):=by
 refine an Tryz.func137 rfl rfl rfl Tryz.call137 [] [] rfl 4 (fun hb w0 G0=>?_);simp at hb
 replace hb:=hb.1
 simp;refine am [0,1,7] [] (fun k:Nat=>[(8,.d (iD k))]) (fun _=>[]) (fun k=>l.length - k) (fun k=>k<=l.length/\∀ j,j<k->p j=false) 0 ⟨by omega,fun j hj=>by omega⟩ (by simp) (fun k hk=>?_);obtain⟨hk,hj⟩:=hk;simp
 (refine Bz.split (fun h=>?_) (fun h=>?_)<;>(try simp only[decide_eq_true_eq,decide_eq_false_iff_not,Bool.not_eq_true',Bool.not_eq_false',beq_iff_eq,bne_iff_ne,beq_eq_false_iff_ne,bne_eq_false_iff_eq,Bool.not_not,Bool.and_eq_true,Bool.or_eq_true,Bool.and_eq_false_iff,Bool.or_eq_false_iff]at h))<;>simp[h]
 ·refine ap (hp k h) ?_;simp
  (refine Bz.split (fun h1=>?_) (fun h1=>?_)<;>(try simp only[decide_eq_true_eq,decide_eq_false_iff_not,Bool.not_eq_true',Bool.not_eq_false',beq_iff_eq,bne_iff_ne,beq_eq_false_iff_ne,bne_eq_false_iff_eq,Bool.not_not,Bool.and_eq_true,Bool.or_eq_true,Bool.and_eq_false_iff,Bool.or_eq_false_iff]at h1))<;>simp[h1]
  ·rw[cD _ k p h hj h1]
  ·exact vg (ar.of (k+1) [] (by simp) ⟨⟨h,bG hj h1⟩,by omega⟩)
 ·have:k=l.length:=by omega
  subst this;rw[cU _ p hj]
theorem tQ(l:List Int) (g:FuncId) (c:List D) (p:Nat->Bool) (hp:∀ i (h:i<l.length),FC Tryz.prog g (iD l[i] :: c) (bD (p i))):FC Tryz.prog 79 [aT l,.fn (.func g) [] c] (bD (anyLt l.length p)):=by
 refine an Tryz.func79 rfl rfl rfl Tryz.call79 [] [] rfl 4 (fun hb w0 G0=>?_);simp;refine ap (Pp l g c p hp) ?_;simp[<-lO]
theorem Pr(l:List (List Int)) (g:FuncId) (c:List D) (p:Nat->Bool) (hp:∀ i (h:i<l.length),FC Tryz.prog g (aT l[i] :: c) (bD (p i))):FC Tryz.prog 252 [ez l,.fn (.func g) [] c] (iD (firstIx l.length p)):=by
 refine an Tryz.func252 rfl rfl rfl Tryz.call252 [] [] rfl 4 (fun hb w0 G0=>?_);simp at hb
 replace hb:=hb.1
 simp;refine am [0,1,7] [] (fun k:Nat=>[(8,.d (iD k))]) (fun _=>[]) (fun k=>l.length - k) (fun k=>k<=l.length/\∀ j,j<k->p j=false) 0 ⟨by omega,fun j hj=>by omega⟩ (by simp) (fun k hk=>?_);obtain⟨hk,hj⟩:=hk;simp
 (refine Bz.split (fun h=>?_) (fun h=>?_)<;>(try simp only[decide_eq_true_eq,decide_eq_false_iff_not,Bool.not_eq_true',Bool.not_eq_false',beq_iff_eq,bne_iff_ne,beq_eq_false_iff_ne,bne_eq_false_iff_eq,Bool.not_not,Bool.and_eq_true,Bool.or_eq_true,Bool.and_eq_false_iff,Bool.or_eq_false_iff]at h))<;>simp[h]
 ·refine ap (hp k h) ?_;simp
  (refine Bz.split (fun h1=>?_) (fun h1=>?_)<;>(try simp only[decide_eq_true_eq,decide_eq_false_iff_not,Bool.not_eq_true',Bool.not_eq_false',beq_iff_eq,bne_iff_ne,beq_eq_false_iff_ne,bne_eq_false_iff_eq,Bool.not_not,Bool.and_eq_true,Bool.or_eq_true,Bool.and_eq_false_iff,Bool.or_eq_false_iff]at h1))<;>simp[h1]
  ·rw[cD _ k p h hj h1]
  ·exact vg (ar.of (k+1) [] (by simp) ⟨⟨h,bG hj h1⟩,by omega⟩)
 ·have:k=l.length:=by omega
  subst this;rw[cU _ p hj]
theorem pR(l:List (List Int)) (g:FuncId) (c:List D) (p:Nat->Bool) (hp:∀ i (h:i<l.length),FC Tryz.prog g (aT l[i] :: c) (bD (p i))):FC Tryz.prog 200 [ez l,.fn (.func g) [] c] (bD (anyLt l.length p)):=by
 refine an Tryz.func200 rfl rfl rfl Tryz.call200 [] [] rfl 4 (fun hb w0 G0=>?_);simp;refine ap (Pr l g c p hp) ?_;simp[<-lO]
theorem qQ(k:Nat) (h:k<=30):(1:Int)<=2 ^ k/\(2:Int) ^ k<=1073741824:=by
 have h1:2 ^ k<=2 ^ 30:=Nat.pow_le_pow_right (by decide) h;have h2:1<=2 ^ k:=Nat.one_le_two_pow;have e:((2 ^ k:Nat):Int)=2 ^ k:=by simp
 rw[<-e];omega
theorem Ps(set:Int) (p:Nat) (h:0<=set):(Int.tmod (Int.tdiv set (2 ^ p)) 2 == 1)=bX set p:=by
 unfold bX;rw[Int.tdiv_eq_ediv_of_nonneg h,Int.tmod_eq_emod_of_nonneg (Int.ediv_nonneg h (by have:=Int.pow_pos (n:=2) (m:=p) (by decide);omega))]
theorem Pt(a:Int) (b:Int) (h:0<=a/\a<=9223372036854775807) (hb:1<=b):-9223372036854775808<=a.tdiv b/\a.tdiv b<=9223372036854775807:=by
 rw[Int.tdiv_eq_ediv_of_nonneg h.1];have h1:=Int.ediv_nonneg h.1 (show 0<=b by omega);have h2:=Int.ediv_le_self b h.1;omega
theorem qR(n:Nat) (h:n<=30):FC Tryz.prog 174 [iD n] (iD (2 ^ n)):=by
 refine an Tryz.func174 rfl rfl rfl Tryz.call174 [] [] rfl 1 (fun hb w0 G0=>?_);simp;refine am [0] [] (fun k:Nat=>[(3,.d (iD (2 ^ k))),(4,.d (iD k))]) (fun _=>[]) (fun k=>n - k) (fun k=>k<=n) 0 (by omega) (by simp) (fun k hk=>?_);have hp:=qQ k (by omega);simp
 (refine Bz.split (fun h=>?_) (fun h=>?_)<;>(try simp only[decide_eq_true_eq,decide_eq_false_iff_not,Bool.not_eq_true',Bool.not_eq_false',beq_iff_eq,bne_iff_ne,beq_eq_false_iff_ne,bne_eq_false_iff_eq,Bool.not_not,Bool.and_eq_true,Bool.or_eq_true,Bool.and_eq_false_iff,Bool.or_eq_false_iff]at h))<;>simp[h]
 ·refine vg (vg (ar.of (k+1) [] (by simp[Int.pow_succ])))
 ·rw[show k=n by omega]
theorem JJ(n:Nat) (h:n<=30):FC Tryz.prog 293 [iD n] (iD (2 ^ n - 1)):=by
 refine an Tryz.func293 rfl rfl rfl Tryz.call293 [] [] rfl 1 (fun hb w0 G0=>?_);have hp:=qQ n h;simp;refine ap (qR n h) ?_;simp;exact V.i (by omega)
theorem vJ(set:Int) (p:Nat) (h:p<=30) (h0:0<=set/\set<=9223372036854775807):FC Tryz.prog 99 [iD set,iD p] (bD (bX set p)):=by
 refine an Tryz.func99 rfl rfl rfl Tryz.call99 [] [] rfl 1 (fun hb w0 G0=>?_);have hp:=qQ p h;simp;refine ap (qR p h) ?_;simp;exact⟨V.i (by omega),V.i (Pt _ _ h0 hp.1),Ps set p h0.1⟩
theorem GN(n:Int):FC Tryz.prog 228 [iD n] (iD (dR n)):=by
 refine an Tryz.func228 rfl rfl rfl Tryz.call228 [] [] rfl 1 (fun hb w0 G0=>?_);unfold dR;simp
 (refine Bz.split (fun h=>?_) (fun h=>?_)<;>(try simp only[decide_eq_true_eq,decide_eq_false_iff_not,Bool.not_eq_true',Bool.not_eq_false',beq_iff_eq,bne_iff_ne,beq_eq_false_iff_ne,bne_eq_false_iff_eq,Bool.not_not,Bool.and_eq_true,Bool.or_eq_true,Bool.and_eq_false_iff,Bool.or_eq_false_iff]at h))<;>simp[h]
 (refine Bz.split (fun h1=>?_) (fun h1=>?_)<;>(try simp only[decide_eq_true_eq,decide_eq_false_iff_not,Bool.not_eq_true',Bool.not_eq_false',beq_iff_eq,bne_iff_ne,beq_eq_false_iff_ne,bne_eq_false_iff_eq,Bool.not_not,Bool.and_eq_true,Bool.or_eq_true,Bool.and_eq_false_iff,Bool.or_eq_false_iff]at h1))<;>simp[h1]<;>omega
theorem Pu(n set:Int) (h:¬ (n<1\/5<n)):gj n set=if set<0\/2 ^ n.toNat<=set then 2 else 0:=by
 unfold gj dR;rw[if_neg h];simp only[ne_eq,not_true_eq_false,if_false];have hp:=qQ n.toNat (by omega);by_cases h0:set<0
 ·simp[h0]
 ·by_cases h1:(2:Int) ^ n.toNat<=set
  ·have:(1:Int)<=set / 2 ^ n.toNat:=(Int.le_ediv_iff_mul_le (by omega)).2 (by omega);rw[if_pos (by omega),if_pos (by omega)]
  ·rw[if_neg,if_neg (by omega)];rw[Int.ediv_eq_zero_of_lt (by omega) (by omega)];omega
theorem GO(n set:Int):FC Tryz.prog 270 [iD n,iD set] (iD (gj n set)):=by
 refine an Tryz.func270 rfl rfl rfl Tryz.call270 [] [] rfl 1 (fun hb w0 G0=>?_);generalize hr:gj n set=r;simp;refine ap (GN _) ?_;simp
 (refine Bz.split (fun h=>?_) (fun h=>?_)<;>(try simp only[decide_eq_true_eq,decide_eq_false_iff_not,Bool.not_eq_true',Bool.not_eq_false',beq_iff_eq,bne_iff_ne,beq_eq_false_iff_ne,bne_eq_false_iff_eq,Bool.not_not,Bool.and_eq_true,Bool.or_eq_true,Bool.and_eq_false_iff,Bool.or_eq_false_iff]at h))<;>simp[h]
 ·rw[<-hr];unfold gj;rw[if_pos h]
 have h:¬ (n<1\/5<n):=by unfold dR at h;grind
 rw[Pu n set h]at hr;have en:n=(n.toNat:Int):=by omega
 (refine Bz.split (fun h1=>?_) (fun h1=>?_)<;>(try simp only[decide_eq_true_eq,decide_eq_false_iff_not,Bool.not_eq_true',Bool.not_eq_false',beq_iff_eq,bne_iff_ne,beq_eq_false_iff_ne,bne_eq_false_iff_eq,Bool.not_not,Bool.and_eq_true,Bool.or_eq_true,Bool.and_eq_false_iff,Bool.or_eq_false_iff]at h1))<;>simp[h1]
 ·rw[en];refine ap (qR n.toNat (by omega)) ?_;simp
  (refine Bz.split (fun h2=>?_) (fun h2=>?_)<;>(try simp only[decide_eq_true_eq,decide_eq_false_iff_not,Bool.not_eq_true',Bool.not_eq_false',beq_iff_eq,bne_iff_ne,beq_eq_false_iff_ne,bne_eq_false_iff_eq,Bool.not_not,Bool.and_eq_true,Bool.or_eq_true,Bool.and_eq_false_iff,Bool.or_eq_false_iff]at h2))<;>simp[h2]
  ·rw[<-hr,if_pos (by omega)]
  ·rw[<-hr,if_neg (by omega)]
 ·rw[<-hr,if_pos (by omega)]
theorem pi(a b:Int) (ha:0<=a/\a<=9223372036854775807) (jz:0<=b/\b<=9223372036854775807):FC Tryz.prog 197 [iD a,iD b] (bD (bF a b)):=by
 refine an Tryz.func197 rfl rfl rfl Tryz.call197 [] [] rfl 1 (fun hb w0 G0=>?_);unfold bF;simp;refine am [0,1] [] (fun k:Nat=>[(5,.d (iD k))]) (fun _=>[]) (fun k=>5 - k) (fun k=>k<=5/\anyLt k (fun p=>bX a p&&!bX b p)=false) 0 ⟨by omega,rfl⟩ (by simp) (fun k hk=>?_);obtain⟨hk,hj⟩:=hk;simp
 (refine Bz.split (fun h=>?_) (fun h=>?_)<;>(try simp only[decide_eq_true_eq,decide_eq_false_iff_not,Bool.not_eq_true',Bool.not_eq_false',beq_iff_eq,bne_iff_ne,beq_eq_false_iff_ne,bne_eq_false_iff_eq,Bool.not_not,Bool.and_eq_true,Bool.or_eq_true,Bool.and_eq_false_iff,Bool.or_eq_false_iff]at h))<;>simp[h]
 ·have h:k<5:=by omega
  refine ap (vJ a k (by omega) ha) ?_;simp
  (refine Bz.split (fun h1=>?_) (fun h1=>?_)<;>(try simp only[decide_eq_true_eq,decide_eq_false_iff_not,Bool.not_eq_true',Bool.not_eq_false',beq_iff_eq,bne_iff_ne,beq_eq_false_iff_ne,bne_eq_false_iff_eq,Bool.not_not,Bool.and_eq_true,Bool.or_eq_true,Bool.and_eq_false_iff,Bool.or_eq_false_iff]at h1))<;>simp[h1]
  ·refine ap (vJ b k (by omega) jz) ?_;simp
   (refine Bz.split (fun h2=>?_) (fun h2=>?_)<;>(try simp only[decide_eq_true_eq,decide_eq_false_iff_not,Bool.not_eq_true',Bool.not_eq_false',beq_iff_eq,bne_iff_ne,beq_eq_false_iff_ne,bne_eq_false_iff_eq,Bool.not_not,Bool.and_eq_true,Bool.or_eq_true,Bool.and_eq_false_iff,Bool.or_eq_false_iff]at h2))<;>simp[h2]
   ·exact aD _ k _ h (by simp[h1,h2])
   ·exact vg (ar.of (k+1) [] (by simp) ⟨⟨h,aR hj (by simp[h1,h2])⟩,by omega⟩)
  ·exact vg (ar.of (k+1) [] (by simp) ⟨⟨h,aR hj (by simp[h1])⟩,by omega⟩)
 ·have:k=5:=by omega
  subst this;exact hj
abbrev Fi(g:Gr):D:=.agg [iD g.n,iD g.h0,iD g.h1,iD g.h2,iD g.h3,iD g.h4]
abbrev mJ(r:Rd):D:=.agg [iD r.g.n,iD r.g.h0,iD r.g.h1,iD r.g.h2,iD r.g.h3,iD r.g.h4,iD r.f]
theorem GP(g:Gr):FC Tryz.prog 269 [Fi g] (iD (dS g)):=by
 refine an Tryz.func269 rfl rfl rfl Tryz.call269 [] [] rfl 1 (fun hb w0 G0=>?_);generalize hr:dS g=r;unfold dS at hr;simp
 (refine Bz.split (fun h0=>?_) (fun h0=>?_)<;>(try simp only[decide_eq_true_eq,decide_eq_false_iff_not,Bool.not_eq_true',Bool.not_eq_false',beq_iff_eq,bne_iff_ne,beq_eq_false_iff_ne,bne_eq_false_iff_eq,Bool.not_not,Bool.and_eq_true,Bool.or_eq_true,Bool.and_eq_false_iff,Bool.or_eq_false_iff]at h0))<;>simp[h0]
 ·(refine Bz.split (fun h1=>?_) (fun h1=>?_)<;>(try simp only[decide_eq_true_eq,decide_eq_false_iff_not,Bool.not_eq_true',Bool.not_eq_false',beq_iff_eq,bne_iff_ne,beq_eq_false_iff_ne,bne_eq_false_iff_eq,Bool.not_not,Bool.and_eq_true,Bool.or_eq_true,Bool.and_eq_false_iff,Bool.or_eq_false_iff]at h1))<;>simp[h1]
  ·rw[<-hr,if_pos (by omega)]
  rw[if_neg (by omega)]at hr;refine am [1] [] (fun k:Nat=>[(3,.d (iD k))]) (fun _=>[]) (fun k=>5 - k) (fun k=>k<=5/\ay k (fun p=>ji g.n (g.hear p) p)=0) 0 ⟨by omega,rfl⟩ (by simp) (fun k hk=>?_);obtain⟨hk,hj⟩:=hk;simp
  (refine Bz.split (fun h=>?_) (fun h=>?_)<;>(try simp only[decide_eq_true_eq,decide_eq_false_iff_not,Bool.not_eq_true',Bool.not_eq_false',beq_iff_eq,bne_iff_ne,beq_eq_false_iff_ne,bne_eq_false_iff_eq,Bool.not_not,Bool.and_eq_true,Bool.or_eq_true,Bool.and_eq_false_iff,Bool.or_eq_false_iff]at h))
  ·have h:k<5:=by omega
   simp[h];have ek:ji g.n (g.hear k) k=if g.n<=k then(if g.hear k≠0 then 3 else 0) else if g.hear k<0\/2 ^ g.n.toNat - 1<g.hear k then 2 else if bX (g.hear k) k then 0 else 3:=rfl
   repeat refine vg ?_
   (refine Bz.split (fun h2=>?_) (fun h2=>?_)<;>(try simp only[decide_eq_true_eq,decide_eq_false_iff_not,Bool.not_eq_true',Bool.not_eq_false',beq_iff_eq,bne_iff_ne,beq_eq_false_iff_ne,bne_eq_false_iff_eq,Bool.not_not,Bool.and_eq_true,Bool.or_eq_true,Bool.and_eq_false_iff,Bool.or_eq_false_iff]at h2))<;>simp[h2]
   ·(refine Bz.split (fun h3=>?_) (fun h3=>?_)<;>(try simp only[decide_eq_true_eq,decide_eq_false_iff_not,Bool.not_eq_true',Bool.not_eq_false',beq_iff_eq,bne_iff_ne,beq_eq_false_iff_ne,bne_eq_false_iff_eq,Bool.not_not,Bool.and_eq_true,Bool.or_eq_true,Bool.and_eq_false_iff,Bool.or_eq_false_iff]at h3))<;>simp[h3]
    ·rw[<-hr,aF (k:=k) h hj (by simp[ek,h2,h3])];simp[ek,h2,h3]
    ·exact vg (ar.of (k+1) [] (by simp) ⟨⟨h,aY hj (by show ji g.n (g.hear k) k=0;rw[ek,if_pos h2];simp[h3])⟩,by omega⟩)
   have en:g.n=(g.n.toNat:Int):=by omega
   have hp:=qQ g.n.toNat (by omega);rw[if_neg h2]at ek
   (refine Bz.split (fun h3=>?_) (fun h3=>?_)<;>(try simp only[decide_eq_true_eq,decide_eq_false_iff_not,Bool.not_eq_true',Bool.not_eq_false',beq_iff_eq,bne_iff_ne,beq_eq_false_iff_ne,bne_eq_false_iff_eq,Bool.not_not,Bool.and_eq_true,Bool.or_eq_true,Bool.and_eq_false_iff,Bool.or_eq_false_iff]at h3))<;>simp[h3]
   ·have hc:=JJ g.n.toNat (by omega);rw[<-en]at hc;refine ap hc ?_;simp
    (refine Bz.split (fun h4=>?_) (fun h4=>?_)<;>(try simp only[decide_eq_true_eq,decide_eq_false_iff_not,Bool.not_eq_true',Bool.not_eq_false',beq_iff_eq,bne_iff_ne,beq_eq_false_iff_ne,bne_eq_false_iff_eq,Bool.not_not,Bool.and_eq_true,Bool.or_eq_true,Bool.and_eq_false_iff,Bool.or_eq_false_iff]at h4))<;>simp[h4]
    ·rw[if_pos (by omega)]at ek;rw[<-hr,aF (k:=k) h hj (by simp[ek])];simp[ek]
    ·rw[if_neg (by omega)]at ek;refine ap (vJ _ k (by omega) (by omega)) ?_;simp
     (refine Bz.split (fun h5=>?_) (fun h5=>?_)<;>(try simp only[decide_eq_true_eq,decide_eq_false_iff_not,Bool.not_eq_true',Bool.not_eq_false',beq_iff_eq,bne_iff_ne,beq_eq_false_iff_ne,bne_eq_false_iff_eq,Bool.not_not,Bool.and_eq_true,Bool.or_eq_true,Bool.and_eq_false_iff,Bool.or_eq_false_iff]at h5))<;>simp[h5]
     ·rw[<-hr,aF (k:=k) h hj (by simp[ek,h5])];simp[ek,h5]
     ·exact vg (ar.of (k+1) [] (by simp) ⟨⟨h,aY hj (by simp[ek,h5])⟩,by omega⟩)
   ·rw[if_pos (by omega)]at ek;rw[<-hr,aF (k:=k) h hj (by simp[ek])];simp[ek]
  ·have:k=5:=by omega
   subst this;simp;rw[<-hr,hj]
 ·rw[<-hr,if_pos (by omega)]
theorem pS(a:Int):cmpI a a=0:=by unfold cmpI;split<;>first|omega|skip;split<;>omega
theorem Cw(a b:Gr):FC Tryz.prog 286 [Fi a,Fi b] (iD (bJ a b)):=by
 refine an Tryz.func286 rfl rfl rfl Tryz.call286 [] [] rfl 1 (fun hb w0 G0=>?_);generalize hr:bJ a b=r;unfold bJ at hr;simp
 (refine Bz.split (fun h0=>?_) (fun h0=>?_)<;>(try simp only[decide_eq_true_eq,decide_eq_false_iff_not,Bool.not_eq_true',Bool.not_eq_false',beq_iff_eq,bne_iff_ne,beq_eq_false_iff_ne,bne_eq_false_iff_eq,Bool.not_not,Bool.and_eq_true,Bool.or_eq_true,Bool.and_eq_false_iff,Bool.or_eq_false_iff]at h0))<;>simp[h0]
 ·rw[<-hr];simp[cmpI,h0]
 (refine Bz.split (fun h1=>?_) (fun h1=>?_)<;>(try simp only[decide_eq_true_eq,decide_eq_false_iff_not,Bool.not_eq_true',Bool.not_eq_false',beq_iff_eq,bne_iff_ne,beq_eq_false_iff_ne,bne_eq_false_iff_eq,Bool.not_not,Bool.and_eq_true,Bool.or_eq_true,Bool.and_eq_false_iff,Bool.or_eq_false_iff]at h1))<;>simp[h1]
 ·rw[<-hr];simp[cmpI,h0,h1]
 rw[if_neg (by simp[cmpI,h0,h1])]at hr;refine am [2,3] [] (fun k:Nat=>[(5,.d (iD k))]) (fun _=>[]) (fun k=>5 - k) (fun k=>k<=5/\ay k (fun p=>cmpI (a.hear p) (b.hear p))=0) 0 ⟨by omega,rfl⟩ (by simp) (fun k hk=>?_);obtain⟨hk,hj⟩:=hk;simp
 (refine Bz.split (fun h=>?_) (fun h=>?_)<;>(try simp only[decide_eq_true_eq,decide_eq_false_iff_not,Bool.not_eq_true',Bool.not_eq_false',beq_iff_eq,bne_iff_ne,beq_eq_false_iff_ne,bne_eq_false_iff_eq,Bool.not_not,Bool.and_eq_true,Bool.or_eq_true,Bool.and_eq_false_iff,Bool.or_eq_false_iff]at h))
 ·have h:k<5:=by omega
  simp[h];refine aO 9 ?_;simp[h]
  repeat refine vg ?_
  (refine Bz.split (fun h2=>?_) (fun h2=>?_)<;>(try simp only[decide_eq_true_eq,decide_eq_false_iff_not,Bool.not_eq_true',Bool.not_eq_false',beq_iff_eq,bne_iff_ne,beq_eq_false_iff_ne,bne_eq_false_iff_eq,Bool.not_not,Bool.and_eq_true,Bool.or_eq_true,Bool.and_eq_false_iff,Bool.or_eq_false_iff]at h2))<;>simp[h2]
  ·rw[<-hr,aF (k:=k) h hj (by simp[cmpI,h2])];simp[cmpI,h2]
  refine aO 9 ?_;simp[h]
  repeat refine vg ?_
  (refine Bz.split (fun h3=>?_) (fun h3=>?_)<;>(try simp only[decide_eq_true_eq,decide_eq_false_iff_not,Bool.not_eq_true',Bool.not_eq_false',beq_iff_eq,bne_iff_ne,beq_eq_false_iff_ne,bne_eq_false_iff_eq,Bool.not_not,Bool.and_eq_true,Bool.or_eq_true,Bool.and_eq_false_iff,Bool.or_eq_false_iff]at h3))<;>simp[h3]
  ·rw[<-hr,aF (k:=k) h hj (by simp[cmpI,h2,h3])];simp[cmpI,h2,h3]
  ·exact vg (ar.of (k+1) [] (by simp) ⟨⟨h,aY hj (by simp[cmpI,h2,h3])⟩,by omega⟩)
 ·have:k=5:=by omega
  subst this;simp;rw[<-hr,hj]
theorem Ee(x:Rd):FC Tryz.prog 229 [mJ x] (iD (roundE x)):=by
 refine an Tryz.func229 rfl rfl rfl Tryz.call229 [] [] rfl 1 (fun hb w0 G0=>?_);unfold roundE;simp;refine ap (GP x.g) ?_;simp
 (refine Bz.split (fun h=>?_) (fun h=>?_)<;>(try simp only[decide_eq_true_eq,decide_eq_false_iff_not,Bool.not_eq_true',Bool.not_eq_false',beq_iff_eq,bne_iff_ne,beq_eq_false_iff_ne,bne_eq_false_iff_eq,Bool.not_not,Bool.and_eq_true,Bool.or_eq_true,Bool.and_eq_false_iff,Bool.or_eq_false_iff]at h))<;>simp[h]
 refine ap (GO _ _) ?_;simp[h]
theorem AE(x y:Rd):FC Tryz.prog 251 [mJ x,mJ y] (iD (roundC x y)):=by
 refine an Tryz.func251 rfl rfl rfl Tryz.call251 [] [] rfl 1 (fun hb w0 G0=>?_);unfold roundC;simp;refine ap (Cw x.g y.g) ?_;simp
 (refine Bz.split (fun h=>?_) (fun h=>?_)<;>(try simp only[decide_eq_true_eq,decide_eq_false_iff_not,Bool.not_eq_true',Bool.not_eq_false',beq_iff_eq,bne_iff_ne,beq_eq_false_iff_ne,bne_eq_false_iff_eq,Bool.not_not,Bool.and_eq_true,Bool.or_eq_true,Bool.and_eq_false_iff,Bool.or_eq_false_iff]at h))<;>simp[h]
 (refine Bz.split (fun h1=>?_) (fun h1=>?_)<;>(try simp only[decide_eq_true_eq,decide_eq_false_iff_not,Bool.not_eq_true',Bool.not_eq_false',beq_iff_eq,bne_iff_ne,beq_eq_false_iff_ne,bne_eq_false_iff_eq,Bool.not_not,Bool.and_eq_true,Bool.or_eq_true,Bool.and_eq_false_iff,Bool.or_eq_false_iff]at h1))<;>simp[h,h1,cmpI]
 (refine Bz.split (fun h2=>?_) (fun h2=>?_)<;>(try simp only[decide_eq_true_eq,decide_eq_false_iff_not,Bool.not_eq_true',Bool.not_eq_false',beq_iff_eq,bne_iff_ne,beq_eq_false_iff_ne,bne_eq_false_iff_eq,Bool.not_not,Bool.and_eq_true,Bool.or_eq_true,Bool.and_eq_false_iff,Bool.or_eq_false_iff]at h2))<;>simp[h,h2]<;>omega
end Go.Proofs.YtiocdkdkndpgkaaGreat
