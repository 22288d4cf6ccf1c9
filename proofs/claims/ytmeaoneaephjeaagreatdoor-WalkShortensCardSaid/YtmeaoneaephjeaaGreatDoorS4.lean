/-
  A part of the proof: lemmas and contracts that the parts behind it use. Each one's conditions are its own premises.
-/
import Derived.OwnWalkIn
import Derived.TacticsInMore
import Derived.LoopNIn
import Derived.LoopIn
import Derived.Laws.IdiomCopy
import Derived.Laws.CopyRow
import Derived.Test.YtmeaoneaephjeaaGreatDoorShelf
import Derived.ArgAppend
import Derived.Laws.IdiomStrings
import Derived.Test.YtmeaoneaephjeaaGreatDoorS3
set_option maxRecDepth 100000
set_option maxHeartbeats 8000000
set_option linter.unusedVariables false
set_option linter.unusedSimpArgs false
namespace Go.Proofs.YtmeaoneaephjeaaGreatDoor
open Go.RowKit Go Go.Shelf
theorem Gn(a:Adv) (v:Value) (w:World) (hv:bz w v a.states) (hN:movesN a.states<2305843009213693952) :
  Calls Tryz.prog 115 #[.agg #[.int .i64 a.n,v]] w fun e w'=>e=.returned (.int .i64 (advE a))/\Below w.heap.size w w':=by
 have G:=aa hv;obtain⟨pa,ca,rfl,la1,la2,ea⟩:=hv.at;clear hv;have EA:=aa ea;clear ea;by_cases c0:a.n<1
 ·have HR:am (advE a=2):=by(have h:advE a=2:=by(unfold advE;rw[if_pos (by omega)]));exact h
  go_enter Tryz.func115,Tryz.ntmps115
  go_wp2
  go_ret
  exact⟨aG HR.o.symm,by go_grown⟩
 by_cases c1:5<a.n
 ·have HR:am (advE a=2):=by(have h:advE a=2:=by(unfold advE;rw[if_pos (by omega)]));exact h
  go_enter Tryz.func115,Tryz.ntmps115
  go_wp2
  go_ret
  exact⟨aG HR.o.symm,by go_grown⟩
 by_cases c2:a.states.length<1
 ·have HR:am (advE a=5):=by(have h:advE a=5:=by(unfold advE;rw[if_neg (by omega),if_pos (by omega)]));exact h
  go_enter Tryz.func115,Tryz.ntmps115
  go_wp2
  go_ret
  exact⟨aG HR.o.symm,by go_grown⟩
 by_cases c3:256<a.states.length
 ·have HR:am (advE a=5):=by(have h:advE a=5:=by(unfold advE;rw[if_neg (by omega),if_pos (by omega)]));exact h
  go_enter Tryz.func115,Tryz.ntmps115
  go_wp2
  go_ret
  exact⟨aG HR.o.symm,by go_grown⟩
 have HC:=aa (fun W (hb:Below w.heap.size w W)=>BY a.n _ a.states W (G.o.up up_moves hb) hN)
 have HV:am (advE a=if 4096<movesN a.states then 5 else if bm a.states.length (fun s=>stateE a (a.states.getD s []))≠0 then bm a.states.length (fun s=>stateE a (a.states.getD s [])) else if growsB a then 0 else 21):=by
  have h:advE a=if 4096<movesN a.states then 5 else if bm a.states.length (fun s=>stateE a (a.states.getD s []))≠0 then bm a.states.length (fun s=>stateE a (a.states.getD s [])) else if growsB a then 0 else 21:=by
   unfold advE;rw[if_neg (by omega)];by_cases h4:4096<movesN a.states
   ·rw[if_pos (by omega),if_pos h4]
   ·rw[if_neg (by omega),if_neg h4]
  exact h
 generalize movesN a.states=mN at HC HV hN
 go_enter Tryz.func115,Tryz.ntmps115
 go_wp2_with fail
 refine aQ (fun W=>Below w.heap.size w W/\W.heap[w.heap.size]?=some (.cells #[.int .i64 a.n,.slice pa a.states.length ca] 27)) ⟨by go_grown,ap _ _⟩ (fun W0 bd=>?_);obtain⟨aK,bK⟩:=bd;refine(HC.o W0 aK).mono ?_;rintro e W1 ⟨rfl,aM⟩;have dG:=ae aK aM;have HA:=aa (af aM bK);have t1:=ab HA.o;clear bK HC;by_cases c4:4096<mN
 ·have HR:am (advE a=5):=by(have h:advE a=5:=by(rw[HV.o,if_pos c4]));exact h
  go_wp2_with fail
  go_ret
  exact⟨aG HR.o.symm,dG⟩
 have oA:am (advE a=if bm a.states.length (fun s=>stateE a (a.states.getD s []))≠0 then bm a.states.length (fun s=>stateE a (a.states.getD s [])) else if growsB a then 0 else 21):=by
  have h:advE a=if bm a.states.length (fun s=>stateE a (a.states.getD s []))≠0 then bm a.states.length (fun s=>stateE a (a.states.getD s [])) else if growsB a then 0 else 21:=by rw[HV.o,if_neg c4]
  exact h
 clear HV
 go_wp2_with fail
 clear t1 c0 c1 c2 c3 c4
 go_loopw [3] (fun i wr=>Below W1.heap.size W1 wr/\∃ s:Nat,s<=a.states.length/\i=.int .i64 s/\∀ j,j<s->stateE a (a.states.getD j [])=0) (fun i _=>a.states.length - (intOf i).toNat)
 ·exact⟨Below.refl _ _,0,by omega,rfl,by simp⟩
 ·
  obtain⟨iZ,s,hs,rfl,aU⟩:=hrel;have H:=aa aU;clear aU;have aA:=ae dG iZ;have t1:=ab (af iZ HA.o);by_cases aB:s<a.states.length
  ·obtain⟨b1,o1,rfl,x,cx,hx⟩:=EA.o s aB;rw[Nat.mul_one]at cx;have HX:=aa hx;obtain⟨px,qx,rfl,_⟩:=hx;have CX:=aa cx;have c1:=ak aA cx
   have HS:am (stateE a (a.states.getD s [])=if a.states[s].length=0 then 19 else bm a.states[s].length (dW a a.states[s])):=by
    have h:stateE a (a.states.getD s [])=if a.states[s].length=0 then 19 else bm a.states[s].length (dW a a.states[s]):=by rw[az [] aB];rfl
    exact h
   clear cx;by_cases h0:a.states[s].length=0
   ·have h0':((a.states[s].length:Int) == 0)=true:=by simp[h0]
    have Lg:(a.states[s].length == 0)=true:=by simp[h0]
    have HR:am (stateE a (a.states.getD s [])=19):=by(have h:stateE a (a.states.getD s [])=19:=by(rw[HS.o,if_pos h0]));exact h
    have H0:=aa h0;clear h0
    go_wp2_with fail
    go_ret
    exact⟨aG (by rw[oA.o,<-bV (f:=fun s=>stateE a (a.states.getD s [])) s 19 aB H.o HR.o (by decide)];rfl),aA⟩
   ·have h0':((a.states[s].length:Int) == 0)=false:=beq_eq_false_iff_ne.2 (by omega);have Lg:(a.states[s].length == 0)=false:=beq_eq_false_iff_ne.2 (by omega);have HR:am (stateE a (a.states.getD s [])=bm a.states[s].length (dW a a.states[s])):=by(have h:stateE a (a.states.getD s [])=bm a.states[s].length (dW a a.states[s]):=by(rw[HS.o,if_neg h0]));exact h
    clear h0
    go_wp2_with fail
    clear t1 c1 h0' Lg
    go_loopw [4] (fun i ws=>Below wr.heap.size wr ws/\∃ m:Nat,m<=a.states[s].length/\i=.int .i64 m/\∀ j,j<m->dW a a.states[s] j=0) (fun i _=>a.states[s].length - (intOf i).toNat)
    ·exact⟨Below.refl _ _,0,by omega,rfl,by simp⟩
    ·
     obtain⟨lS,m,hm,rfl,aU⟩:=hrel
     rename World=>ws
     have H2:=aa aU;clear aU;have rY:=ae iZ lS;have io:=ae aA lS;have t1:=ab (af rY HA.o);have c1:=ak io CX.o;by_cases mm:m<a.states[s].length
     ·have bQ:=aa (fun x:ExtW ws=>Calls.ext_of (OG a (some ⟨b1,o1,none⟩) ca _ a.states[s] m mm x.val (HX.o.up up_move (ae io x.ext))));generalize qr:dW a a.states[s] m=em at bQ;have uT:=aa qr;clear qr
      go_wp2_with fail
      have r1:∀ x:ExtW ws,∀ o,x.val.cell? ⟨w.heap.size,o,none⟩=_:=fun x=>ab (af (ae rY x.ext) HA.o)
      have r3:∀ x:ExtW ws,x.val.cell? _=_:=fun x=>x.cell c1
      clear t1 c1;refine aF (by kernel_rfl) (by kernel_rfl) ?_
      repeat (go_big_quiet_step ((go_at_call 155;exact bQ.o _)))
      refine wpQuiet_nil ?_;intro _ eE;obtain⟨xq,dj⟩:=eE;subst dj;clear r1 r3 bQ;by_cases vJ:em=0
      ·subst vJ
       go_wp2_with fail
       go_roundw
       ·exact⟨ae lS xq.ext,m+1,by omega,by go_num,aV H2.o uT.o⟩
       ·simp[intOf];omega
      ·have hem':(em != 0)=true:=by simpa using vJ
       go_wp2_with fail
       go_ret
       refine⟨aG ?_,ae io xq.ext⟩;have e1:em=stateE a (a.states.getD s []):=by rw[HR.o];exact bV m em mm H2.o uT.o vJ
       rw[oA.o,<-bV (f:=fun s=>stateE a (a.states.getD s [])) s em aB H.o e1.symm vJ,if_pos vJ]
     ·go_wp2_with fail
      go_roundw
      ·exact⟨ae iZ lS,s+1,by omega,by go_num,aV H.o (by rw[HR.o];exact cU _ _ fun j hj=>H2.o j (by omega))⟩
      ·simp[intOf];omega
  ·have aT:∀ j,j<a.states.length->stateE a (a.states.getD j [])=0:=fun j hj=>H.o j (by omega)
   have dg:am (advE a=if growsB a then 0 else 21):=by
    have h:advE a=if growsB a then 0 else 21:=by rw[oA.o,cU _ _ aT];simp
    exact h
   have HG:=aa (Md a _ wr (G.o.up up_moves aA) aT);clear aT;generalize growsB a=gb at HG dg;cases gb with
   | true=>
    go_wp2_with fail
    refine HG.o.mono ?_;rintro e w2 ⟨rfl,aZ⟩
    go_wp2_with fail
    go_ret
    exact⟨aG (by rw[dg.o];rfl),ae aA aZ⟩
   | false=>
    go_wp2_with fail
    refine HG.o.mono ?_;rintro e w2 ⟨rfl,aZ⟩
    go_wp2_with fail
    go_ret
    exact⟨aG (by rw[dg.o];rfl),ae aA aZ⟩
def sA(a:Adv):Bool:=decide (a.states.length<=8)&&decide (movesN a.states<=40)
theorem VL(l:List (List Mv)) (B:Nat) (h:∀ k (hk:k<l.length),l[k].length<=B):∀ k,k<=l.length->cnt l k<=k * B:=by
 intro k;induction k with
 | zero=>intro _;rw[pA];exact Nat.zero_le _
 | succ k ih=>
  intro hk;rw[pB l k (by omega),Nat.succ_mul];exact Nat.add_le_add (ih (by omega)) (h k (by omega))
theorem OH{w:World} {v:Value} {l:List (List Mv)} (hv:bz w v l):movesN l<=l.length * 17592186044416:=by
 obtain⟨pa,ca,rfl,la1,la2,ea⟩:=hv.at
 have:=VL l 17592186044416 (fun k hk=>by
  obtain⟨b,o,_,x,_,hx⟩:=ea k hk;obtain⟨_,_,_,_,ed,_⟩:=hx
  exact ed) l.length (Nat.le_refl _)
 rwa [uA l _ (Nat.le_refl _)]at this
theorem J8(a:Adv) (v:Value) (w:World) (hv:bz w v a.states) :
  Calls Tryz.prog 70 #[.agg #[.int .i64 a.n,v]] w fun e w'=>e=.returned (.bool (sA a))/\Below w.heap.size w w':=by
 have hN:=OH hv;have HV:am (sA a=(decide (a.states.length<=8)&&decide (movesN a.states<=40))):=by exact rfl
 by_cases h8:a.states.length<=8
 ·have HC:=aa (fun W (hb:Below w.heap.size w W)=>BY a.n _ a.states W (hv.up up_moves hb) (by omega));obtain⟨pa,ca,rfl,_⟩:=hv;have H8:am (decide (a.states.length<=8)=true):=by(have h:=decide_eq_true h8);exact h
  generalize movesN a.states=mN at HC HV hN
  go_enter Tryz.func70,Tryz.ntmps70
  go_wp2_with fail
  refine(HC.o _ (by go_grown)).mono ?_;rintro e W1 ⟨rfl,aM⟩
  go_wp2_with fail
  go_ret
  refine⟨aS ?_,ae (by go_grown) aM⟩;rw[HV.o,H8.o];simp;omega
 ·have H8:am (decide (a.states.length<=8)=false):=by(have h:=decide_eq_false h8);exact h
  obtain⟨pa,ca,rfl,_⟩:=hv
  go_enter Tryz.func70,Tryz.ntmps70
  go_wp2_with fail
  go_ret
  exact⟨aS (by rw[HV.o,H8.o];rfl),by go_grown⟩
def sB(c:List Int) (n:Int) (m:Mv):Int:=min (n+c.getD m.to.toNat 0) 4097
def rowN(c:List Int) (l:List Mv):Int:=l.foldl (sB c) 0
def lH(a:Adv) (c:List Int):List Int:=a.states.map (rowN c)
def eH(a:Adv):Nat->List Int
 | 0=>List.replicate a.states.length 1
 | k+1=>lH a (eH a k)
def numberS(a:Adv) (k:Nat):Int:=(eH a k).getD 0 0
def Ht(c:List Int):Prop:=∀ x∈c,0<=x/\x<=4097
theorem DM{c:List Int} (h:Ht c) (i:Nat):0<=c.getD i 0/\c.getD i 0<=4097:=by
 by_cases hi:i<c.length
 ·rw[az 0 hi];exact h _ (List.getElem_mem hi)
 ·rw[List.getD_eq_getElem?_getD,List.getElem?_eq_none (by omega)];simp
theorem Rt{c:List Int} (h:Ht c) {n:Int} (hn:0<=n/\n<=4097) (m:Mv):0<=sB c n m/\sB c n m<=4097:=by
 have:=DM h m.to.toNat;unfold sB;omega
theorem UQ{c:List Int} (h:Ht c) (l:List Mv):∀ n:Int,(0<=n/\n<=4097)->0<=l.foldl (sB c) n/\l.foldl (sB c) n<=4097:=by
 induction l with
 | nil=>intro n hn;exact hn
 | cons m r ih=>intro n hn;exact ih _ (Rt h hn m)
theorem KG{c:List Int} (h:Ht c) (l:List Mv):0<=rowN c l/\rowN c l<=4097:=UQ h l 0 (by omega)
theorem Ru{c:List Int} (h:Ht c) (a:Adv):Ht (lH a c):=fun x hx=>by
 obtain⟨l,_,rfl⟩:=List.mem_map.1 hx;exact KG h l
theorem Hu(a:Adv) (k:Nat):Ht (eH a k):=by
 induction k with
 | zero=>intro x hx;rw[(List.mem_replicate.1 hx).2];omega
 | succ k ih=>exact Ru ih a
theorem OI(a:Adv) (k:Nat):(eH a k).length=a.states.length:=by
 cases k with
 | zero=>simp[eH]
 | succ k=>simp[eH,lH]
theorem OJ(c:List Int) (l:List Mv) (i:Nat) (hi:i<l.length):rowN c (l.take (i+1))=sB c (rowN c (l.take i)) l[i]:=by
 unfold rowN;rw[List.take_succ_eq_append_getElem hi,List.foldl_append];rfl
theorem E7{w:World} {v:Value} {t:TypeId} (j:Nat) (u:Value) (hj:[v][j]?=some u):(w.alloc (.cells #[v] t)).cell? (Addr.add ⟨w.heap.size,0,none⟩ j)=some u:=by
 cases j with
 | zero=>simp at hj;subst hj;simp[Addr.add,ab (ap w _)]
 | succ j=>simp at hj
theorem UR(P:Program) (ats:Array TypeId) (ty:TypeId) (x y:Int) (w:World):(Builtin.min_ ats ty #[.int .i64 x,.int .i64 y]).run P w=.ok (.int .i64 (min x y)) w:=by
 have h:(if y<x then y else x)=min x y:=by omega
 simp[Builtin.min_,Builtin.min2,h]
theorem DN(a:Adv) (v:Value) (n:Nat) (hn:n<=6) (w:World) (hv:bz w v a.states) (fV:∀ s,s<a.states.length->stateE a (a.states.getD s [])=0) (h1:1<=a.states.length/\a.states.length<=256) :
  Calls Tryz.prog 116 #[.agg #[.int .i64 a.n,v],.int .i64 n,.int .i64 4096] w fun e w'=>e=.returned (.int .i64 (numberS a n))/\Below w.heap.size w w':=by
 obtain⟨pa,ca,rfl,la1,la2,ea⟩:=hv.at;have EA:=aa ea;have dL:=aa fV;clear hv ea fV;obtain⟨i0,hi,cH,cj,cI⟩:=info_parts Tryz.infoInt
 go_enter Tryz.func116,Tryz.ntmps116
 go_wp2
 refine bF (fun W=>Below w.heap.size w W/\W.heap[w.heap.size]?=some (.cells #[.int .i64 a.n,.slice pa a.states.length ca] 27)) ⟨by go_grown,ap _ _⟩ (fun W0 bd=>?_);obtain⟨aK,bK⟩:=bd;have HA:=aa bK;clear bK
 go_loopw [7,8] (fun o i wr=>Below W0.heap.size W0 wr/\∃ k:Nat,k<=a.states.length/\i=.int .i64 k/\wr.ownsRow W0.heap.size 3 1 o k (List.replicate k (.int .i64 1))) (fun _ i _=>a.states.length - (intOf i).toNat)
 ·exact⟨Below.refl _ _,0,by omega,rfl,World.ownsRow_nil _ _ _ _⟩
 ·
  obtain⟨iZ,k,hk,rfl,bg⟩:=hrel;have bP:=aa bg;obtain⟨ao,co,rfl,_⟩:=sv bg;clear bg;have t1:=ab (af iZ HA.o);by_cases aB:k<a.states.length
  ·have hA:Below wr.heap.size wr (wr.alloc (.cells #[.int .i64 1] 3)):=by go_grown
   have dx:=aa (pE bP.o hA);have bE:=aa (fun j u hj=>E7 (w:=wr) (v:=.int .i64 1) (t:=3) j u hj);clear hA;have io:=iZ.size
   go_wp2_with (at_builtin;(refine wpList_append_own _ rfl (.tmp 21) (.tmp 22) 38 rfl W0.heap.size 3 i0 (.int .i64 0) 1 8 Tryz.underlying38 hi cH cj cI rfl (by decide) _ k (List.replicate k (.int .i64 1)) rfl dx.o ⟨wr.heap.size,0,none⟩ 1 1 [.int .i64 1] rfl rfl bE.o (by simp[Value.oneCell']) (by unfold maxLen;omega) (by omega) (by simp;omega) ?_;intro v' w2 fL dD _))
   go_roundw
   ·
    refine⟨Below.grown (w:=wr.alloc (.cells #[.int .i64 1] 3)) (iZ.alloc io _) dD (by simp;omega) (fun g hg=>(DK bP.o g hg).1),k+1,by omega,by go_num,?_⟩;rw[List.replicate_succ'];exact fL
   ·simp[intOf];omega
  ·obtain rfl:k=a.states.length:=by omega
   have cY:(List.replicate a.states.length (Value.int .i64 1))=(eH a 0).map (Value.int .i64):=by simp[eH]
   rw[cY]at bP;clear cY
   go_wp2
   clear t1
   go_loopw [7,9] (fun o i ws=>Below wr.heap.size wr ws/\∃ k:Nat,k<=n/\i=.int .i64 k/\ws.ownsRow W0.heap.size 3 1 o a.states.length ((eH a k).map (Value.int .i64))) (fun _ i _=>n - (intOf i).toNat)
   ·exact⟨Below.refl _ _,0,by omega,rfl,bP.o⟩
   ·
    obtain⟨lS,k,hk,rfl,bg⟩:=hrel
    rename World=>ws
    have HOWN2:=aa bg;have io:=ae iZ lS;obtain⟨ac,cc,rfl,_,_,_,_,eM⟩:=sv bg;have GL:=aa eM;clear bg eM;have Qn:=aa (OI a k);have HIO:=aa (Hu a k);by_cases aB:k<n
    ·have t1:=ab (af io HA.o)
     go_wp2
     clear t1
     go_loopw [10,11] (fun o i wt=>Below ws.heap.size ws wt/\∃ s:Nat,s<=a.states.length/\i=.int .i64 s/\wt.ownsRow ws.heap.size 3 1 o s (((lH a (eH a k)).take s).map (Value.int .i64))) (fun _ i _=>a.states.length - (intOf i).toNat)
     ·exact⟨Below.refl _ _,0,by omega,rfl,World.ownsRow_nil _ _ _ _⟩
     ·
      obtain⟨um,s,hs,rfl,bg⟩:=hrel
      rename World=>wt
      have dm:=aa bg;have sQ:=ae io um;have hbtw:=ae aK sQ;obtain⟨an,cn,rfl,_⟩:=sv bg;clear bg;have t1:=ab (af sQ HA.o);by_cases LF:s<a.states.length
      ·obtain⟨b1,o1,rfl,x,cx,hx⟩:=EA.o s LF;rw[Nat.mul_one]at cx;obtain⟨px,qx,rfl,x1,x2,ex⟩:=hx.at;have EX:=aa ex;have c1:=ak hbtw cx
       have gt:am ((lH a (eH a k)).take (s+1)=(lH a (eH a k)).take s++[rowN (eH a k) a.states[s]]):=by
        have h:(lH a (eH a k)).take (s+1)=(lH a (eH a k)).take s++[rowN (eH a k) a.states[s]]:=by
         rw[List.take_succ_eq_append_getElem (by simp[lH];exact LF)];simp[lH]
        exact h
       have Qi:=aa (fun j (hj:j<a.states[s].length)=>(lf dL.o LF hj).2);clear hx ex cx
       go_wp2
       go_loop [12,13] (fun o i=>∃ m:Nat,m<=a.states[s].length/\i=.int .i64 m/\o=.int .i64 (rowN (eH a k) (a.states[s].take m))) (fun _ i=>a.states[s].length - (intOf i).toNat)
       ·exact⟨0,by omega,rfl,by simp[rowN]⟩
       ·
        obtain⟨m,hm,rfl,rfl⟩:=hrel;have X7:=KG HIO.o (a.states[s].take m);by_cases mm:m<a.states[s].length
        ·obtain⟨b3,o3,rfl,_,⟨d7,_⟩⟩:=EX.o m mm;have oM:=Qi.o m mm;obtain⟨u,hu⟩:∃ u:Nat,a.states[s][m].to=u:=⟨a.states[s][m].to.toNat,by omega⟩
         have jF:am (rowN (eH a k) (a.states[s].take (m+1))=min (rowN (eH a k) (a.states[s].take m)+(eH a k).getD u 0) 4097):=by
          have h:rowN (eH a k) (a.states[s].take (m+1))=min (rowN (eH a k) (a.states[s].take m)+(eH a k).getD u 0) 4097:=by
           rw[OJ _ _ m mm];unfold sB;rw[hu,Int.toNat_natCast]
          exact h
         rw[hu]at d7;have Qm:u<a.states.length:=by omega
         have oL:=DM HIO.o u;have Jo:u<(eH a k).length:=by rw[Qn.o];exact Qm
         obtain⟨b,e4,hc⟩:=GL.o u (.int .i64 ((eH a k).getD u 0)) (by rw[az 0 Jo];simp);have c2:=ak hbtw d7;subst e4;have c3:=ak um hc;have hmin:=UR Tryz.prog;generalize rowN (eH a k) (a.states[s].take m)=r0 at X7 jF;generalize (eH a k).getD u 0=g0 at oL jF c3 hc;clear d7 hc hu oM Jo
         go_wp2
         go_round
         ·exact⟨m+1,by omega,by go_num,by rw[jF.o]⟩
         ·simp[intOf];omega
        ·obtain rfl:m=a.states[s].length:=by omega
         rw[List.take_length];rw[List.take_length]at X7;generalize rowN (eH a k) a.states[s]=r0 at X7 gt;have hA:Below wt.heap.size wt (wt.alloc (.cells #[.int .i64 r0] 3)):=by go_grown
         have HOWN4:=aa (pE dm.o hA);have bE:=aa (fun j u hj=>E7 (w:=wt) (v:=.int .i64 r0) (t:=3) j u hj);have hbs3:=um.size;clear hA
         go_wp2_with (at_builtin;(refine wpList_append_own _ rfl (.tmp 63) (.tmp 65) 38 rfl ws.heap.size 3 i0 (.int .i64 0) 1 8 Tryz.underlying38 hi cH cj cI rfl (by decide) _ s (((lH a (eH a k)).take s).map (Value.int .i64)) rfl HOWN4.o ⟨wt.heap.size,0,none⟩ 1 1 [.int .i64 r0] rfl rfl bE.o (by simp[Value.oneCell']) (by unfold maxLen;omega) (by omega) (by simp;omega) ?_;intro v' w2 fL dD _))
         go_roundw
         ·
          refine⟨Below.grown (w:=wt.alloc (.cells #[.int .i64 r0] 3)) (um.alloc hbs3 _) dD (by simp;omega) (fun g hg=>(DK dm.o g hg).1),s+1,by omega,by go_num,?_⟩;rw[gt.o,List.map_append];exact fL
         ·simp[intOf];omega
      ·obtain rfl:s=a.states.length:=by omega
       go_wp2
       go_roundw
       ·
        refine⟨ae lS um,k+1,by omega,by go_num,?_⟩;have h:=sw (base':=W0.heap.size) dm.o (by have:=io.size;exact this);rw[List.take_of_length_le (by simp[lH])]at h;exact h
       ·simp[intOf];omega
    ·obtain rfl:k=n:=by omega
     obtain⟨b,rfl,hc⟩:=GL.o 0 (.int .i64 (numberS a k)) (by
      have h0:0<(eH a k).length:=by rw[Qn.o];omega
      unfold numberS;rw[az 0 h0]
      simp)
     go_wp2
     go_ret
     exact⟨rfl,ae aK io⟩
end Go.Proofs.YtmeaoneaephjeaaGreatDoor
namespace Go.Proofs.YtmeaoneaephjeaaGreatDoor
open Go.RowKit Go Go.Shelf
attribute [local go_sem] Oper.semAt_some
theorem aI{W:World} {B:Nat} {cs:Array Value} {t:TypeId} {f:Nat × Nat} (h:W.heap[B]?=some (.cells cs t f)) (o:Nat) (v:Value):(W.setCell ⟨B,o,none⟩ v).heap[B]?=some (.cells (cs.setIfInBounds o v) t f):=by
 simp[World.setCell,Array.getElem?_modify,h]
theorem aO{W:World} {B C:Nat} {x:Obj} (h:W.heap[C]?=some x) (bR:C≠B) (o:Nat) (v:Value):(W.setCell ⟨B,o,none⟩ v).heap[C]?=some x:=
 (Below.heap_setCell W ⟨B,o,none⟩ v C bR).trans h
def jj(n:Nat) (w w':World):Prop:=∀ k,k<n->w'.heap[k]?=w.heap[k]?
theorem jj.cell{w w':World} (h:jj w.heap.size w w') {a:Addr} {v:Value} (hc:w.cell? a=some v):w'.cell? a=some v:=by
 have:=fk hc;rw[World.cell?_of_block (w:=w) (h a.block this)];exact hc
theorem jj.ck{w w':World} (h:jj w.heap.size w w'):CK w w':=fun k _ hk _=>(h k (aC hk)).trans hk
theorem jj.of_below{w w':World} (h:Below w.heap.size w w'):jj w.heap.size w w':=h.block
theorem jj.alloc{w w':World} (h:jj w.heap.size w w') (o:Obj):jj w.heap.size w (w'.alloc o):=fun k hk=>by
 have h1:w.heap[k]?=some w.heap[k]:=Array.getElem?_eq_getElem hk;rw[h1];exact aq o ((h k hk).trans h1)
theorem jj.trans{n:Nat} {a b c:World} (h:jj n a b) (k:jj n b c):jj n a c:=fun i hi=>(k i hi).trans (h i hi)
theorem xO(n:Int) (p:Option Addr) (len cap:Nat) (w:World) :
  Calls Tryz.prog 218 #[.agg #[.int .i64 n,.slice p len cap]] w fun e w'=>e=.returned (.func (.func 221) #[] #[.pointer (some ⟨w.heap.size,0,none⟩)])/\w'=w.alloc (.cells #[.int .i64 n,.slice p len cap] 27):=by
 go_enter Tryz.func218,Tryz.ntmps218
 go_wp2
 go_ret
 exact⟨rfl,rfl⟩
def Hv(l:List (List Mv)) (i:Nat):Array Value:=#[.int .i64 (mvAt l i).1,(mvAt l i).2.v]
theorem vZ(wd:World) (v:Value) (l:List (List Mv)) (hv:bz wd v l) (w:World) (hb:Below wd.heap.size wd w) (Bx:Nat) (hx:w.cell? ⟨Bx,1,none⟩=some v) :
  sg Tryz.prog 221 #[.pointer (some ⟨Bx,0,none⟩)] (Hv l) (movesN l) (fun k=>k<wd.heap.size) w:=by
 intro yl J Jx W hW hJ oB hY h0;have dJ:=ak hW hx;have eX:jj wd.heap.size wd W:=(jj.of_below hb).trans (fun k hk=>hW.block k (Nat.lt_of_lt_of_le hk hb.size));obtain⟨pa,ca,rfl,la1,la2,ea⟩:=hv.at;clear hv hx hW hb;have EA:=aa ea;clear ea;have HJ:=aa hJ;clear hJ;have Jw:=aa oB;clear oB;have HY:=aa hY;clear hY;refine(callsIn_wide (n:=0)).1 ?_;refine callsIn_of_wp Tryz.func221 rfl trivial ?_ rfl;simp only[Tryz.ntmps221,List.size_toArray,List.length_cons,List.length_nil,Nat.reduceAdd,Nat.reduceSub,Array.replicate_succ,Array.replicate_zero,List.push_toArray,List.append_toArray,List.nil_append,List.cons_append]
 gi_wp2
 gi_loopw [10] (fun i wr=>∃ s:Nat,s<=l.length/\i=.int .i64 s/\jj wd.heap.size wd wr/\J (cnt l s) wr) (fun i _=>l.length - (intOf i).toNat)
 ·exact⟨0,by omega,rfl,eX,by rw[pA];exact h0⟩
 ·
  obtain⟨s,hs,rfl,fS,hj⟩:=hrel;have j8:=aa fS;clear fS;have jg:=aa hj;clear hj;by_cases aB:s<l.length
  ·obtain⟨b1,o1,rfl,x,cx,La⟩:=EA.o s aB;rw[Nat.mul_one]at cx;have d1:=j8.o.cell cx;obtain⟨p2,c2,rfl,m1,m2,e2⟩:=La.at;clear La cx;have E2:=aa e2;clear e2
   gi_wp2
   obtain⟨W0,bd⟩:∃ W0:World,W0=wr:=⟨_,rfl⟩;rw[<-bd]at j8 jg d1 ⊢;clear bd wr
   gi_loopw [17] (fun i wr=>∃ j:Nat,j<=l[s].length/\i=.int .i64 j/\jj wd.heap.size wd wr/\J (cnt l s+j) wr) (fun i _=>l[s].length - (intOf i).toNat)
   ·exact⟨0,by omega,rfl,j8.o,jg.o⟩
   ·
    obtain⟨j,hj,rfl,fS,yO⟩:=hrel;have oC:=aa fS;clear fS;have Jt:=aa yO;clear yO;by_cases Ll:j<l[s].length
    ·obtain⟨b2,o2,rfl,⟨⟨c0,_⟩,⟨c1,_⟩,⟨c2,_⟩,⟨c3,_⟩,⟨c4,_⟩,⟨c5,_⟩,⟨c6,_⟩⟩,c7,_⟩:=E2.o j Ll;have d0:=oC.o.cell c0;have d1:=oC.o.cell c1;have d2:=oC.o.cell c2;have d3:=oC.o.cell c3;have d4:=oC.o.cell c4;have d5:=oC.o.cell c5;have d6:=oC.o.cell c6;have d7:=oC.o.cell c7;clear c0 c1 c2 c3 c4 c5 c6 c7;have Dv:=zn l s j aB Ll;have k8:=GV l s aB;generalize hm:l[s][j]=m at d0 d1 d2 d3 d4 d5 d6 d7 Dv;obtain⟨fn,tmps,assign,body,hy,hR⟩:=HY.o (cnt l s+j) (wr.alloc (.cells #[.int .i64 m.r.g.n,.int .i64 m.r.g.h0,.int .i64 m.r.g.h1,.int .i64 m.r.g.h2,.int .i64 m.r.g.h3,.int .i64 m.r.g.h4,.int .i64 m.r.f,.int .i64 m.to] 143)) (by omega) (HJ.o _ _ _ Jt.o (by go_grown));unfold Hv at hy;rw[Dv]at hy;dsimp only at hy;have HR:=aa hR;clear hR Dv hm
     gi_wp2
     refine⟨rfl,HR.o.mono ?_⟩;rintro e W3 (⟨rfl,Dl,CM,im⟩|⟨rfl,rS⟩)
     ·gi_wp2
      go_roundw
      ·exact⟨j+1,by omega,by go_num,jj.trans (oC.o.alloc _) im,Dl⟩
      ·simp[intOf];omega
     ·gi_wp2
      refine bodyPost_ret (results_none rfl _ _ _) rfl ?_;exact⟨⟨_,rfl⟩,.inr ⟨_,by omega,rS⟩⟩
    ·gi_wp2
     go_roundw
     ·
      refine⟨s+1,by omega,by go_num,oC.o,?_⟩;have e:l[s].length=j:=by omega
      rw[pB l s aB,e];exact Jt.o
     ·simp[intOf];omega
  ·gi_wp2
   go_end0
   exact⟨⟨_,rfl⟩,.inl (by rw[<-uA l s (by omega)];exact jg.o)⟩
def sizedE(a:Adv):Int:=if a.states.length<1\/256<a.states.length\/4096<movesN a.states then 5 else 0
theorem OK(a:Adv) (v:Value) (w:World) (hv:bz w v a.states) (hN:movesN a.states<1099511627776) :
  Calls Tryz.prog 216 #[.agg #[.int .i64 a.n,v]] w fun e w'=>e=.returned (.int .i64 (sizedE a))/\Below w.heap.size w w':=by
 have G:=aa hv;obtain⟨pa,ca,rfl,la1,la2,_⟩:=hv.at;clear hv;refine gc Tryz.func216 rfl ?_;simp only[Tryz.ntmps216,List.size_toArray,List.length_cons,List.length_nil,Nat.reduceAdd,Nat.reduceSub,Array.replicate_succ,Array.replicate_zero,List.push_toArray,List.append_toArray,List.nil_append,List.cons_append]
 go_wp2_with fail
 refine(xO _ _ _ _ _).mono ?_;rintro e w1 ⟨rfl,rfl⟩
 go_wp2_with fail
 refine bF (fun W=>Below w.heap.size w W/\W.heap[w.heap.size]?=some (.cells #[.int .i64 a.n,.slice pa a.states.length ca] 27)/\W.heap[w.heap.size+1]?=some (.cells #[.int .i64 0] 3)/\W.heap[w.heap.size+1+1]?=some (.cells #[.int .i64 a.n,.slice pa a.states.length ca] 27))
  ⟨by go_grown,aq _ (aq _ (ap _ _)),aq _ (by simpa using ap (w.alloc (.cells #[.int .i64 a.n,.slice pa a.states.length ca] 27)) (.cells #[.int .i64 0] 3)),by simpa using ap ((w.alloc (.cells #[.int .i64 a.n,.slice pa a.states.length ca] 27)).alloc (.cells #[.int .i64 0] 3)) (.cells #[.int .i64 a.n,.slice pa a.states.length ca] 27)⟩ (fun W0 bd=>?_)
 obtain⟨aK,hA,oN,hX⟩:=bd;have dk:=vZ w _ a.states G.o W0 aK (w.heap.size+1+1) (by simp[ab hX]);have eQ:=aC hX
 refine mD (gf:=221) (lb:=#[.pointer (some ⟨w.heap.size+1+1,0,none⟩)]) rfl (enters_of Tryz.func221 (by kernel_rfl) rfl) dk (Below.refl _ _) (fun k hk=>Nat.lt_of_lt_of_le hk aK.size) (fun i=>rfl)
  (fun i W=>Below w.heap.size w W/\W.heap[w.heap.size]?=some (.cells #[.int .i64 a.n,.slice pa a.states.length ca] 27)/\W.heap[w.heap.size+1]?=some (.cells #[.int .i64 i] 3))
  (fun _ _ _=>False) (fun i=>(cN.below (by omega)).and (cN.cells.and cN.cells)) (fun _ _=>cN.pure) ⟨aK,hA,oN⟩ ?round ?done ?stop
 case round=>
  intro l i W hi hl hI;unfold Hv
  gi_wp2
  refine⟨Bod.refl _ _ _,_,(cN.below (w:=w) (by omega)).and (cN.cells.and cN.cells),hI,fun W2 h2 _=>?_⟩;obtain⟨g1,g2,g3⟩:=h2;have c1:=ab g3 0;have f1:=aH g3 0;simp at c1;have HG:=aa (And.intro g1 (And.intro g2 g3));clear g1 g2 g3 hI dk
  gi_wp2
  obtain⟨g1,g2,g3⟩:=HG.o;refine⟨Bod.setCell _ _ _ (by simp),g1.setCell (by simp) _,aO g2 (by omega) _ _,?_⟩;rw[aI g3];simp
 case done=>
  intro D W hD hI hK;obtain⟨g1,g2,g3⟩:=hI;have HG:=aa (And.intro g1 (And.intro g2 g3));have t1:=ab g2;have t2:=ab g3;clear g1 g2 g3 dk
  go_wp2
  all_goals
   refine iG hK (results_tmp rfl _ _ _) ?_;refine⟨aG ?_,eT (by omega) HG.o.1⟩
   go_light
   unfold sizedE
   grind
 case stop=>
  intro D c i W _ _ h;exact h.elim
def bD(l:List Int):Array Value:=(l.map (Value.int .i64)).toArray
def fC(n:Nat) (f:Nat->Int) (q:Nat):Array Value:=((List.range n).map fun j=>Value.int .i64 (if j<q then f j else 0)).toArray
theorem pF(n:Nat) (f:Nat->Int) (q:Nat):(fC n f q).size=n:=by simp[fC]
theorem l5(n:Nat) (f:Nat->Int) (q j:Nat) (hj:j<n):(fC n f q)[j]?=some (.int .i64 (if j<q then f j else 0)):=by simp[fC,hj]
theorem uE(n:Nat) (f:Nat->Int) (q:Nat) (hq:q<n):(fC n f q).setIfInBounds q (.int .i64 (f q))=fC n f (q+1):=by
 apply Array.ext_getElem?;intro j;rw[Array.getElem?_setIfInBounds];by_cases hj:j<n
 ·rw[l5 _ _ _ _ hj,l5 _ _ _ _ hj];by_cases e:q=j
  ·subst e;rw[if_pos rfl,if_pos (by rw[pF];exact hj),if_pos (by omega)]
  ·rw[if_neg e];by_cases h:j<q
   ·rw[if_pos h,if_pos (by omega)]
   ·rw[if_neg h,if_neg (by omega)]
 ·have h1:(fC n f q)[j]?=none:=by rw[Array.getElem?_eq_none];rw[pF];omega
  have h2:(fC n f (q+1))[j]?=none:=by rw[Array.getElem?_eq_none];rw[pF];omega
  rw[h1,h2,if_neg (by omega)]
theorem p9(n:Nat) (f:Nat->Int):fC n f n=bD ((List.range n).map f):=by
 unfold fC bD;rw[List.map_map];congr 1;refine List.map_congr_left fun j hj=>?_
 rw[if_pos (List.mem_range.1 hj)];rfl
theorem US(f:Nat->Int) (n:Nat):madeCells (Value.int .i64 0).cells n=fC n f 0:=by
 apply Array.ext
 ·simp[madeCells,fC]
 ·intro i h1 h2;simp[madeCells,fC,Value.cells,Nat.mod_one]
theorem BZ(f:Nat->Int) (n:Nat) (hn:n<=65536) (w:World):(Instr.makeSlice 38 (.int .i64 (n:Int)) (.int .i64 (n:Int))).run Tryz.prog w=.ok (.slice (some ⟨w.heap.size,0,none⟩) n n) (w.alloc (.cells (fC n f 0) 3)):=by
 have hinfo:(Tryz.prog.info? 3).map (fun i=>(i.zero,i.size,i.bytes))=some (some (.int .i64 0),1,8):=by kernel_rfl
 obtain⟨i,hi,cH,cj,cI⟩:=info_parts hinfo;have:=run_make (P:=Tryz.prog) w 38 3 i (.int .i64 0) Tryz.underlying38 hi cH .i64 .i64 (n:Int) (n:Int) (by omega) (by omega) (by rw[cI];omega) (by omega);rw[this,cj,Nat.mul_one];simp only[Int.toNat_natCast,US f]
theorem js(f:Nat->Int) (n:Nat) (hn:n<=256) (w:World):(Instr.makeSlice 38 (.int .i64 (n:Int)) (.int .i64 (n:Int))).run Tryz.prog w=.ok (.slice (some ⟨w.heap.size,0,none⟩) n n) (w.alloc (.cells (fC n f 0) 3)):=BZ f n (by omega) w
theorem rA{W:World} {B:Nat} {now:List Int} {n:Nat} (hl:now.length=n) (hn:n<=256) (h:W.heap[B]?=some (.cells (bD now) 3)) (hr:∀ i,i<now.length->bS (now.getD i 0)):aX W (.slice (some ⟨B,0,none⟩) n n) now:=by
 subst hl;refine⟨some ⟨B,0,none⟩,now.length,rfl,⟨Nat.le_refl _,by omega,fun e=>by cases e⟩,by omega,fun i x hx=>⟨B,0,rfl,?_⟩⟩;obtain⟨hi,rfl⟩:=List.getElem?_eq_some_iff.1 hx;refine⟨?_,?_⟩
 ·rw[ab h,Nat.zero_add,Nat.mul_one];simp[bD,hi]
 ·have:=hr i hi
  rwa [az 0 hi]at this
def xC(n:Nat) (x:Int) (q:Nat):Array Value:=fC n (fun _=>x) q
theorem KH(n:Nat) (x:Int) (q j:Nat) (hj:j<n):(xC n x q)[j]?=some (.int .i64 (if j<q then x else 0)):=l5 n _ q j hj
theorem OL(n:Nat) (x:Int) (q m:Nat) (h:q+m<=n):((xC n x q).toList.take q++List.replicate m (Value.int .i64 x)++(xC n x q).toList.drop (q+m)).toArray=xC n x (q+m):=by
 apply Array.ext_getElem?;intro j;have hl:(xC n x q).toList.length=n:=by rw[Array.length_toList];exact pF n _ q
 have hg:∀ q j,(xC n x q).toList[j]?=if j<n then some (.int .i64 (if j<q then x else 0)) else none:=by
  intro q j;rw[Array.getElem?_toList];by_cases hj:j<n
  ·rw[if_pos hj];exact KH n x q j hj
  ·rw[if_neg hj,Array.getElem?_eq_none];unfold xC;rw[pF];omega
 rw[<-Array.getElem?_toList (xs:=xC n x (q+m)),hg,List.getElem?_toArray,List.append_assoc];by_cases h1:j<q
 ·rw[List.getElem?_append_left (by rw[List.length_take,hl];omega),List.getElem?_take_of_lt h1,hg,if_pos (show j<n by omega),if_pos h1,if_pos (show j<n by omega),if_pos (show j<q+m by omega)]
 ·rw[List.getElem?_append_right (by rw[List.length_take,hl];omega),List.length_take,hl,Nat.min_eq_left (by omega)];by_cases h2:j<q+m
  ·rw[List.getElem?_append_left (by rw[List.length_replicate];omega),List.getElem?_replicate,if_pos (show j - q<m by omega),if_pos (show j<n by omega),if_pos h2]
  ·rw[List.getElem?_append_right (by rw[List.length_replicate];omega),List.length_replicate,List.getElem?_drop,show q+m+(j - q - m)=j by omega,hg];by_cases h3:j<n
   ·rw[if_pos h3,if_pos h3,if_neg h1,if_neg h2]
   ·rw[if_neg h3,if_neg h3]
theorem ri(w:World) (g:Nat) (cur cur':Array Value) (t:TypeId) (hg:w.heap[g]?=some (.cells cur t (0,0))):(w.setRow g cur').heap[g]?=some (.cells cur' t (0,0)):=setRow_heap w g cur cur' t _ hg
theorem xP{P:Program} {w:World} {ops:Array Oper} {rest:List Oper} {o:Oper} {a:Act} {Q:Exit->Act->World->Prop} {d s:Operand} {t t':TypeId} {v u v':Value} {w':World} (hg:o.guard=none)
  (ho:o.op=.call { callee:=.builtin .copy,args:=#[d,s],argTypes:=#[t,t'] }) (hd:a.eval d=v) (hs:a.eval s=u)
  (hr:(Builtin.copy_ #[t,t'] o.type #[v,u]).run P w=.ok v' w') (h:wpList P ops Q rest (a.put o.dst v') w'):wpList P ops Q (o :: rest) a w:=by
 refine wpList_plain hg fun _ hK=>?_
 unfold Oper.wp;simp[execOp,ho,resolve,invoke,builtin,hd,hs,hr,Result.andThen];exact hK _ _ h
theorem Me(rv:Int) (n:Nat) (h1:1<=n) (p B:Nat) (W:World) (hp:W.heap[p]?=some (.cells #[.int .i64 rv] 3)) (hB:W.heap[B]?=some (.cells (xC n rv 0) 3)) :
  (Builtin.copy_ #[38,38] 3 #[.slice (some ⟨B,0,none⟩) n n,.slice (some ⟨p,0,none⟩) 1 1]).run Tryz.prog W=.ok (.int .i64 1) (W.setRow B (xC n rv 1)):=by
 have h:=run_copy_row Tryz.prog W 38 38 3 3 B 0 n n ⟨p,0,none⟩ 1 1 (xC n rv 0) 3 [.int .i64 rv] Tryz.underlying38 (by kernel_rfl) hB (by simp only[List.length_cons,List.length_nil];exact(Nat.min_eq_left h1).symm)
  (fun j v hj=>by
   cases j with
   | zero=>simp at hj;subst hj;rw[Addr.add_lit,ab hp];rfl
   | succ j=>simp at hj) (by unfold xC;rw[pF];simpa using h1) (by simp[Value.oneCell'])
 rw[h];exact congrArg (fun r=>Result.ok (Value.int .i64 1) (W.setRow B r)) (OL n rv 0 1 (by omega))
theorem OM(rv:Int) (n q m:Nat) (h1:q+m<=n) (hm:m=min q (n - q)) (B:Nat) (W:World) (hB:W.heap[B]?=some (.cells (xC n rv q) 3)) :
  (Builtin.copy_ #[38,38] 3 #[.slice (some ⟨B,q,none⟩) (n - q) (n - q),.slice (some ⟨B,0,none⟩) q n]).run Tryz.prog W=.ok (.int .i64 (m:Int)) (W.setRow B (xC n rv (q+m))):=by
 have h:=run_copy_row Tryz.prog W 38 38 3 3 B q (n - q) (n - q) ⟨B,0,none⟩ q n (xC n rv q) 3 (List.replicate m (.int .i64 rv)) Tryz.underlying38 (by kernel_rfl) hB (by rw[List.length_replicate];exact hm)
  (fun j v hj=>by
   rw[List.getElem?_replicate]at hj;by_cases UE:j<m
   ·rw[if_pos UE]at hj;cases hj;rw[Addr.add_lit,ab hB,Nat.zero_add,KH _ _ _ _ (by omega),if_pos (by omega)]
   ·rw[if_neg UE]at hj;cases hj) (by unfold xC;rw[pF,List.length_replicate];exact h1) (fun v hv=>by rw[(List.mem_replicate.1 hv).2];rfl)
 rw[h];have e:=OL n rv q m h1;rw[List.length_replicate];exact congrArg (fun r=>Result.ok (Value.int .i64 (m:Int)) (W.setRow B r)) e
theorem sC{n:Nat} {w W:World} {g:Nat} {c:Array Value} (hn:n<=g) (h:Below n w W):Below n w (W.setRow g c):=
 ⟨h.os,h.tape,h.output,by simpa using h.size,fun k hk=>(setRow_other W g k c (by omega)).trans (h.block k hk)⟩
def qG(wq W2:World) (i:Nat) (D:Nat->Bool) (_x:Nat->Value) (W:World):Prop:=W=bif D i then W2 else wq
theorem qG.other{wq W2 W:World} {i j:Nat} {D:Nat->Bool} {x:Nat->Value} (h:qG wq W2 i D x W) (v:Value) (hj:i≠j):qG wq W2 i (bI D j) (cF x j v) W:=by
 unfold qG at h ⊢;simp only[bI,if_neg hj];exact h
theorem qG.hit{wq W2:World} {i:Nat} {D:Nat->Bool} {x:Nat->Value} (v:Value):qG wq W2 i (bI D i) (cF x i v) W2:=by simp[qG,bI]
theorem qG.yes{wq W2 W:World} {i:Nat} {D:Nat->Bool} {x:Nat->Value} (h:qG wq W2 i D x W) (hD:D i=true):W=W2:=by unfold qG at h;rw[hD]at h;exact h
theorem v7(rv:Int) (n:Nat) (h1:1<=n) (hn:n<=8192) (p:Nat) (w:World) (hp:w.heap[p]?=some (.cells #[.int .i64 rv] 3)) :
  Calls Tryz.prog 37 #[.slice (some ⟨p,0,none⟩) 1 1,.int .i64 n] w fun e w'=>e=.returned (.slice (some ⟨w.heap.size,0,none⟩) n n)/\w'.heap[w.heap.size]?=some (.cells (xC n rv n) 3)/\Below w.heap.size w w':=by
 have JN:=fun W=>Tryz.bits_Mul 1 n (by omega) (by omega) W
 have e1:1 * n / 18446744073709551616=0:=by omega
 have e2:1 * n % 18446744073709551616=n:=by omega
 rw[e1,e2]at JN;have hu:Tryz.prog.underlying 38=some (.slice 3):=Tryz.underlying38;have hs:(Tryz.prog.info? 3).map (·.size)=some 1:=by kernel_rfl
 have fX:=BZ (fun _=>rv) n (by omega);have HM:=aa JN;have HK:=aa fX;clear JN fX e1 e2;have JP:¬ (9223372036854775807:Int)<n:=by omega
 have Ga:¬ (n:Int)<0:=by omega
 have jB:IntKind.u64.wrap (n:Int)=n:=by rw[IntKind.wrap_u64];omega
 have yR:IntKind.i64.wrap (n:Int)=n:=by rw[IntKind.wrap_i64];omega
 go_enter Tryz.func37,Tryz.ntmps37
 go_wp2_with fail
 refine(HM.o _).mono ?_;rintro e w' ⟨rfl,rfl⟩;have fX:=HK.o;have Xw:(w'.alloc (.cells (fC n (fun _=>rv) 0) 3)).heap[w'.heap.size]?=some (.cells (xC n rv 0) 3):=ap _ _;have kE:=Me rv n h1 p w'.heap.size _ (aq _ hp) Xw
 go_wp2_with (at_builtin;refine xP rfl rfl rfl rfl kE ?_)
 refine bF (fun W=>Below w'.heap.size w' W/\W.heap[w'.heap.size]?=some (.cells (xC n rv 1) 3)) ⟨sC (Nat.le_refl _) ((Below.refl _ w').alloc (Nat.le_refl _) _),ri _ _ _ _ _ Xw⟩ (fun W0 bd=>?_);clear kE Xw fX HM HK
 go_loopw [8] (fun i wr=>Below w'.heap.size w' wr/\∃ q:Nat,1<=q/\q<=n/\i=.int .i64 q/\wr.heap[w'.heap.size]?=some (.cells (xC n rv q) 3)) (fun i _=>n - (intOf i).toNat)
 ·exact⟨bd.1,1,by omega,h1,rfl,bd.2⟩
 ·
  obtain⟨aA,q,hq1',hq2',rfl,cA⟩:=hrel;clear bd W0;by_cases aB:q<n
  ·obtain⟨m,hm⟩:∃ m,m=min q (n - q):=⟨_,rfl⟩;have F0:q+m<=n:=by omega
   have hm1:1<=m:=by omega
   have nZ:(q:Int)<n:=by omega
   have hle':(q:Int)<=n:=by omega
   have hne1:¬ n=q:=by omega
   have hne2:¬ q=n:=by omega
   have hw3:IntKind.i64.wrap ((q:Int)+(m:Int))=(q:Int)+(m:Int):=by rw[IntKind.wrap_i64];omega
   have jc:=OM rv n q m F0 hm w'.heap.size wr.drew cA;have mA:wr.drew.heap[w'.heap.size]?=some (.cells (xC n rv q) 3):=cA;have Ey:Below w'.heap.size w' wr.drew:=aA.drew;clear hm cA aA
   go_wp2_with fail
   obtain⟨wq,IX⟩:∃ wq,wr.drew=wq:=⟨_,rfl⟩;rw[IX]at jc mA Ey;refine BK 10 [38,39,40,41,42,43,44,45,46,8] [some (Value.int .i64 (q:Int)),some (Value.slice (some ⟨w'.heap.size,0,none⟩) n n),some (Value.int .i64 (q:Int)),some (Value.slice (some ⟨w'.heap.size,q,none⟩) (n - q) (n - q)),some (Value.slice (some ⟨w'.heap.size,0,none⟩) n n),some (Value.int .i64 (q:Int)),some (Value.slice (some ⟨w'.heap.size,0,none⟩) q n),some (Value.int .i64 (m:Int)),some (Value.int .i64 ((q:Int)+(m:Int))),some (Value.int .i64 ((q:Int)+(m:Int)))] (qG wq (wq.setRow w'.heap.size (xC n rv (q+m))) 7) (by kernel_rfl) rfl (by decide) rfl (by kernel_rfl) (fun _=>IX) ?step ?tail
   case step=>
    intro x W D i o s F hi ho hs hD cQ bU ar hv aR hF;have fK:i=0\/i=1\/i=2\/i=3\/i=4\/i=5\/i=6\/i=7\/i=8\/i=9:=by omega
    rcases fK with rfl|rfl|rfl|rfl|rfl|rfl|rfl|rfl|rfl|rfl
    all_goals (have dQ:=cQ _ _ hs hD;obtain rfl:=dE ho.symm;obtain rfl:=dE hs.symm)
    ·have Ge:D 9=false:=by
      cases h:D 9 with
      | false=>rfl
      | true=>exact absurd (bU 9 _ rfl h ⟨0,.phase⟩ (by simp) rfl) (by rw[hD];decide)
     have e8:F.getD 8 undef=Value.int .i64 (q:Int):=by(rw[hF];exact(lX (by decide) (i:=9) rfl (Nat.le_of_ble_eq_true (by kernel_rfl))).trans (cQ 9 8 rfl Ge))
     clear Ge;refine pX (.tmp 8) rfl rfl ?_;refine bX.mk (F.getD 8 undef) (fun c hc=>e8.trans (dE hc)) ?_ rfl;exact aR.other _ (by decide)
    ·have e7:F.getD 7 undef=Value.slice (some ⟨w'.heap.size,0,none⟩) n n:=lL hF (by decide) rfl;refine pX (.tmp 7) rfl rfl ?_;refine bX.mk (F.getD 7 undef) (fun c hc=>e7.trans (dE hc)) ?_ rfl;exact aR.other _ (by decide)
    ·have Ge:D 9=false:=by
      cases h:D 9 with
      | false=>rfl
      | true=>exact absurd (bU 9 _ rfl h ⟨2,.phase⟩ (by simp) rfl) (by rw[hD];decide)
     have e8:F.getD 8 undef=Value.int .i64 (q:Int):=by(rw[hF];exact(lX (by decide) (i:=9) rfl (Nat.le_of_ble_eq_true (by kernel_rfl))).trans (cQ 9 8 rfl Ge))
     clear Ge;refine pX (.tmp 8) rfl rfl ?_;refine bX.mk (F.getD 8 undef) (fun c hc=>e8.trans (dE hc)) ?_ rfl;exact aR.other _ (by decide)
    ·have g1:=ar ⟨1,.data⟩ (by simp) rfl;have d1:=hv 1 _ (by omega) g1 rfl;have e39:=fy hF 1 39 (by decide) rfl (by kernel_rfl) d1;have e39':=dH e39;have g2:=ar ⟨2,.data⟩ (by simp) rfl;have d2:=hv 2 _ (by omega) g2 rfl;have e40:=fy hF 2 40 (by decide) rfl (by kernel_rfl) d2;have e40':=dH e40;have HC:=aa aR;clear ar hi hv aR cQ bU hF dQ jc mA Ey IX g1 d1 g2 d2
     go_wp2_with fail
     exact bX.mk _ fP (HC.o.other _ (by decide)) rfl
    ·have e7:F.getD 7 undef=Value.slice (some ⟨w'.heap.size,0,none⟩) n n:=lL hF (by decide) rfl;refine pX (.tmp 7) rfl rfl ?_;refine bX.mk (F.getD 7 undef) (fun c hc=>e7.trans (dE hc)) ?_ rfl;exact aR.other _ (by decide)
    ·have Ge:D 9=false:=by
      cases h:D 9 with
      | false=>rfl
      | true=>exact absurd (bU 9 _ rfl h ⟨5,.phase⟩ (by simp) rfl) (by rw[hD];decide)
     have e8:F.getD 8 undef=Value.int .i64 (q:Int):=by(rw[hF];exact(lX (by decide) (i:=9) rfl (Nat.le_of_ble_eq_true (by kernel_rfl))).trans (cQ 9 8 rfl Ge))
     clear Ge;refine pX (.tmp 8) rfl rfl ?_;refine bX.mk (F.getD 8 undef) (fun c hc=>e8.trans (dE hc)) ?_ rfl;exact aR.other _ (by decide)
    ·have g4:=ar ⟨4,.data⟩ (by simp) rfl;have d4:=hv 4 _ (by omega) g4 rfl;have e42:=fy hF 4 42 (by decide) rfl (by kernel_rfl) d4;have e42':=dH e42;have g5:=ar ⟨5,.data⟩ (by simp) rfl;have d5:=hv 5 _ (by omega) g5 rfl;have e43:=fy hF 5 43 (by decide) rfl (by kernel_rfl) d5;have e43':=dH e43;have HC:=aa aR;clear ar hi hv aR cQ bU hF dQ jc mA Ey IX g4 d4 g5 d5
     go_wp2_with fail
     exact bX.mk _ fP (HC.o.other _ (by decide)) rfl
    ·have g3:=ar ⟨3,.data⟩ (by simp) rfl;have d3:=hv 3 _ (by omega) g3 rfl;have e41:=fy hF 3 41 (by decide) rfl (by kernel_rfl) d3;have e41':=dH e41;have g6:=ar ⟨6,.data⟩ (by simp) rfl;have d6:=hv 6 _ (by omega) g6 rfl;have e44:=fy hF 6 44 (by decide) rfl (by kernel_rfl) d6;have e44':=dH e44;have hW:W=wq:=by(rw[aR,hD];rfl)
     subst hW;clear ar hi hv aR cQ bU hF dQ g3 d3 g6 d6;refine xP rfl rfl e41 e44 jc ?_;exact bX.mk _ fP (qG.hit _) rfl
    ·have g0:=ar ⟨0,.data⟩ (by simp) rfl;have d0:=hv 0 _ (by omega) g0 rfl;have e38:=fy hF 0 38 (by decide) rfl (by kernel_rfl) d0;have e38':=dH e38;have g7:=ar ⟨7,.data⟩ (by simp) rfl;have d7:=hv 7 _ (by omega) g7 rfl;have e45:=fy hF 7 45 (by decide) rfl (by kernel_rfl) d7;have e45':=dH e45;have HC:=aa aR;clear ar hi hv aR cQ bU hF dQ jc mA Ey IX g0 d0 g7 d7
     go_wp2_with fail
     exact bX.mk _ fP (HC.o.other _ (by decide)) rfl
    ·have g8:=ar ⟨8,.data⟩ (by simp) rfl;have d8:=hv 8 _ (by omega) g8 rfl;have e46:=fy hF 8 46 (by decide) rfl (by kernel_rfl) d8;have e46':=dH e46;have g7:=ar ⟨7,.chain⟩ (by simp) rfl;have d7:=hv 7 _ (by omega) g7 rfl;have e45:=fy hF 7 45 (by decide) rfl (by kernel_rfl) d7;have e45':=dH e45;have HC:=aa aR;clear ar hi hv aR cQ bU hF dQ jc mA Ey IX g8 d8 g7 d7
     go_wp2_with fail
     exact bX.mk _ fP (HC.o.other _ (by decide)) rfl
   case tail=>
    intro x W' D F aT hv aR hF;have x0:=hv 0 _ (by omega) rfl;have x1:=hv 1 _ (by omega) rfl;have x2:=hv 2 _ (by omega) rfl;have x3:=hv 3 _ (by omega) rfl;have x4:=hv 4 _ (by omega) rfl;have x5:=hv 5 _ (by omega) rfl;have x6:=hv 6 _ (by omega) rfl;have x7:=hv 7 _ (by omega) rfl;have x8:=hv 8 _ (by omega) rfl;have x9:=hv 9 _ (by omega) rfl;have hWq:W'=wq.setRow w'.heap.size (xC n rv (q+m)):=aR.yes (aT 7 (by omega));clear aR;simp only[bC,da,List.setIfInBounds_toArray,List.set_cons_succ,List.set_cons_zero,Nat.reduceAdd,x0,x1,x2,x3,x4,x5,x6,x7,x8,x9]at hF;subst hF hWq;clear hv aT jc IX x0 x1 x2 x3 x4 x5 x6 x7 x8 x9
    go_wp2_with fail
    go_roundw
    ·exact⟨sC (Nat.le_refl _) Ey,q+m,by omega,F0,by go_num,ri _ _ _ _ _ mA⟩
    ·simp[intOf];omega
  ·obtain rfl:q=n:=by omega
   go_wp2_with fail
   go_ret
   exact⟨rfl,cA,aA⟩
theorem Gp(y x:Int) (b:Nat) (a:Addr) (n c:Nat) (hn:0<n) (W:World) (h1:W.cell? ⟨b,0,none⟩=some (.slice (some a) n c)) (h2:W.cell? a=some (.int .i64 x)) :
  Calls Tryz.prog 172 #[.int .i64 y,.pointer (some ⟨b,0,none⟩)] W fun e W'=>e=.returned (.bool (y != x))/\Below W.heap.size W W':=by
 go_enter Tryz.func172,Tryz.ntmps172
 go_wp2_with fail
 go_ret
 exact⟨rfl,by go_grown⟩
theorem Hw(v:Value) (l:List Int) (w:World) (hv:aX w v l) :
  Calls Tryz.prog 125 #[v] w fun e w'=>e=.returned (.bool (constB l))/\Below w.heap.size w w':=by
 obtain⟨pa,ca,rfl,lt1,lt2,ea⟩:=hv.at
 have HC:=aa (fun (W:World) (hb:Below w.heap.size w W) (hB:W.heap[w.heap.size]?=some (.cells #[.slice pa l.length ca] 38))=>kl 172 #[.pointer (some ⟨w.heap.size,0,none⟩)] (enters_of Tryz.func172 (by kernel_rfl) rfl) (.slice pa l.length ca) l (fun i=>decide (l.getD i 0≠l.getD 0 0)) W (hv.up up_int hb) (fun i hi W2 aZ=>by
  obtain⟨b0,o0,e0,h0,_⟩:=ea 0 (by omega);rw[Nat.zero_mul,Nat.add_zero]at h0;have:=Gp l[i] (l.getD 0 0) w.heap.size ⟨b0,o0,none⟩ l.length ca (by omega) W2 (by rw[ab (af aZ hB),e0];rfl) (by rw[az 0 (show 0<l.length by omega)];exact ak (ae hb aZ) h0);refine this.mono fun e W' ⟨h1,h2⟩=>⟨?_,h2⟩
  rw[h1,az 0 hi];have hx:(l[i] != l.getD 0 0)=decide (l[i]≠l.getD 0 0):=by rw[Bool.eq_iff_iff];simp
  rw[hx]))
 have KZ:am (constB l=!(anyLt l.length fun i=>decide (l.getD i 0≠l.getD 0 0))):=aa rfl;clear hv ea
 go_enter Tryz.func125,Tryz.ntmps125
 go_wp2_with fail
 refine aQ (fun W=>Below w.heap.size w W/\W.heap[w.heap.size]?=some (.cells #[.slice pa l.length ca] 38)) ⟨by go_grown,ap _ _⟩ (fun W0 bd=>?_);obtain⟨aK,bK⟩:=bd;refine(HC.o W0 aK bK).mono ?_;rintro e w1 ⟨rfl,aM⟩;clear bK HC;generalize (anyLt l.length fun i=>decide (l.getD i 0≠l.getD 0 0))=b at KZ
 go_wp2_with fail
 go_ret
 exact⟨aS (by rw[KZ.o]),ae aK aM⟩
def uF(e:Int) (a:Bool):Value:=.tuple #[.bool (decide (e=0)&&a),.int .i64 e]
theorem Gq(t:Tk) (vc:Value) (w:World) (hv:bN w vc t.cases) :
  Calls Tryz.prog 76 #[.agg #[.int .i64 t.n,.int .i64 t.ins,.int .i64 t.outs,vc]] w fun e w'=>e=.returned (uF (taskE t) (agreeB t))/\Below w.heap.size w w':=by
 have HT:=aa (fun W (hb:Below w.heap.size w W)=>qF t vc W (hv.up up_case hb));obtain⟨te,hte⟩:∃ te,taskE t=te:=⟨_,rfl⟩;rw[hte]at HT ⊢;clear hte;obtain⟨pc,cc,rfl,l1,m1,e1⟩:=hv.at;clear hv;have E:=aa e1;clear e1
 have fY:am (∀ k j,k<t.cases.length->j<(t.cases.getD k default).out.length->constB ((t.cases.getD k default).out.getD j [])=false->agreeB t=false):=aa fun k j hk hj h=>by
  cases ha:agreeB t with
  | false=>rfl
  | true=>rw[(pY t).1 ha k hk j hj]at h;cases h
 have jS:am ((∀ k,k<t.cases.length->∀ j,j<(t.cases.getD k default).out.length->constB ((t.cases.getD k default).out.getD j [])=true)->agreeB t=true):=aa fun h=>(pY t).2 h
 generalize agreeB t=ag at fY jS
 go_enter Tryz.func76,Tryz.ntmps76
 go_wp2_with fail
 refine aQ (fun W=>Below w.heap.size w W/\W.heap[w.heap.size]?=some (.cells #[.int .i64 t.n,.int .i64 t.ins,.int .i64 t.outs,.slice pc t.cases.length cc] 24)) ⟨by go_grown,ap _ _⟩ (fun W0 bd=>?_);obtain⟨aK,bK⟩:=bd;refine(HT.o W0 aK).mono ?_;rintro e w1 ⟨rfl,aM⟩;have gl:=ae aK aM;have t1:=ab (af aM bK);clear bK HT;by_cases hz:te=0
 case neg=>
  have Lm:(te != 0)=true:=by simpa using hz
  have hd:decide (te=0)=false:=decide_eq_false hz
  go_wp2_with fail
  go_ret2
  exact⟨by unfold uF;rw[hd];simp,gl⟩
 subst hz;have bL:=aa gl
 go_wp2_with fail
 clear t1
 go_loopw [17] (fun i wr=>Below w1.heap.size w1 wr/\∃ k:Nat,k<=t.cases.length/\i=.int .i64 k/\∀ q,q<k->∀ j,j<(t.cases.getD q default).out.length->constB ((t.cases.getD q default).out.getD j [])=true) (fun i _=>t.cases.length - (intOf i).toNat)
 ·exact⟨Below.refl _ _,0,by omega,rfl,fun q hq=>by omega⟩
 ·
  obtain⟨aA,k,hk,rfl,aU⟩:=hrel;have H:=aa aU;clear aU;have dG:=ae bL.o aA;have eN:=aa dG;by_cases aB:k<t.cases.length
  ·obtain⟨b1,o1,rfl,⟨x0,cx0,dp⟩,⟨x1,cx1,dJ⟩,⟨x2,cx2,ed⟩⟩:=E.o k aB;have d0:=ak dG cx0;have d1:=ak dG cx1;have d2:=ak dG cx2;have HG:=aa (az default aB);have kG:=aa (dJ.up up_ints dG);obtain⟨p0,q0,rfl,_⟩:=dp;obtain⟨p1,q1,rfl,wI,Se,ex⟩:=dJ.at;obtain⟨p2,q2,rfl,_⟩:=ed;have EX:=aa ex;have qo:=aa (fun j=>fY.o k j aB);rw[HG.o]at qo;clear cx0 cx1 cx2 dJ ex;generalize t.cases[k]=c at d0 d1 d2 kG EX HG qo wI Se;have Fw:=aa aA;clear aA dG
   go_wp2_with fail
   clear d0 d1 d2;obtain⟨wrA,lN⟩:∃ x,x=wr:=⟨_,rfl⟩;subst lN;refine bF (fun W=>Below wrA.heap.size wrA W) (by go_grown) (fun W1 aZ=>?_);have cX:=aa aZ;clear aZ
   go_loopw [24] (fun i wr=>Below wrA.heap.size wrA wr/\∃ j:Nat,j<=c.out.length/\i=.int .i64 j/\∀ q,q<j->constB (c.out.getD q [])=true) (fun i _=>c.out.length - (intOf i).toNat)
   ·exact⟨cX.o,0,by omega,rfl,fun q hq=>by omega⟩
   ·
    obtain⟨aA,j,hj,rfl,aU⟩:=hrel;have H2:=aa aU;clear aU;have aY:=aa aA;have bW:=aa (ae eN.o aA);by_cases fH:j<c.out.length
    ·obtain⟨b3,o3,rfl,vx,cvx,FE⟩:=EX.o j fH;have dv:=ak bW.o cvx;have CW:=aa (FE.up up_int bW.o);have AA:=aa (az [] fH);rw[Nat.mul_one]at dv;clear cvx FE aA
     go_wp2_with fail
     refine(Hw vx _ wr CW.o).mono ?_;rintro e w4 ⟨rfl,bO⟩;have eV:=aa bO;clear dv bO;cases hc:constB c.out[j] with
     | true=>
      have HC:am (constB (c.out.getD j [])=true):=aa (by rw[AA.o];exact hc);clear hc
      go_wp2_with fail
      go_roundw
      ·exact⟨ae aY.o eV.o,j+1,by omega,by go_num,aV H2.o HC.o⟩
      ·simp[intOf];omega
     | false=>
      have HC:am (ag=false):=aa (qo.o j fH (by rw[AA.o];exact hc));clear hc
      go_wp2_with fail
      go_ret2
      exact⟨by rw[HC.o];unfold uF;simp,ae bW.o eV.o⟩
    ·have mP:am (∀ q,q<c.out.length->constB (c.out.getD q [])=true):=aa fun q hq=>H2.o q (by omega)
     clear aA
     go_wp2_with fail
     go_roundw
     ·exact⟨ae Fw.o aY.o,k+1,by omega,by go_num,aV H.o (by rw[HG.o];exact mP.o)⟩
     ·simp[intOf];omega
  ·have HR:am (ag=true):=aa (jS.o fun q hq=>H.o q (by omega));clear aA dG
   go_wp2_with fail
   go_ret2
   exact⟨by rw[HR.o];unfold uF;simp,eN.o⟩
end Go.Proofs.YtmeaoneaephjeaaGreatDoor
namespace Go.Proofs.YtmeaoneaephjeaaGreatDoor
open Go.RowKit Go Go.Shelf
theorem lI(g:Nat):∀ (vs:List Value) (o:Nat) (w:World),(∀ k,k≠g->(w.setCells g o vs).heap[k]?=w.heap[k]?)/\(w.setCells g o vs).os=w.os/\(w.setCells g o vs).tape=w.tape/\(w.setCells g o vs).output=w.output/\(w.setCells g o vs).heap.size=w.heap.size
 | [],o,w=>⟨fun _ _=>rfl,rfl,rfl,rfl,rfl⟩
 | v :: r,o,w=>by
  obtain⟨h1,h2,h3,h4,h5⟩:=lI g r (o+1) (w.setCell ⟨g,o,none⟩ v);exact⟨fun k hk=>(h1 k hk).trans (Below.heap_setCell w ⟨g,o,none⟩ v k hk),h2,h3,h4,h5.trans (by simp)⟩
theorem mw(g:Nat) (e:TypeId) (fz:Nat × Nat):∀ (vs:List Value) (o:Nat) (w:World) (cur:Array Value),w.heap[g]?=some (.cells cur e fz)->o+vs.length<=cur.size →
  ∃ cur',(w.setCells g o vs).heap[g]?=some (.cells cur' e fz)/\cur'.size=cur.size/\cur'.toList.take (o+vs.length)=cur.toList.take o++vs
 | [],o,w,cur,hg,_=>⟨cur,hg,rfl,by simp⟩
 | v :: r,o,w,cur,hg,hl=>by
  simp only[List.length_cons]at hl;obtain⟨cur',h1,h2,h3⟩:=mw g e fz r (o+1) (w.setCell ⟨g,o,none⟩ v) (cur.setIfInBounds o v) (aI hg o v) (by simp;omega);refine⟨cur',h1,by simpa using h2,?_⟩;rw[show o+(v :: r).length=o+1+r.length by simp;omega,h3,Array.toList_setIfInBounds,List.take_succ_eq_append_getElem (by simp;omega),List.take_set_of_le (by omega),List.getElem_set_self];simp
def aJ(w:World) (base:Nat) (e:TypeId) (size:Nat) (v:Value) (n:Nat) (xs:List Value):Prop:=
 xs.length=n * size/\((v=.slice none 0 0/\n=0)\/∃ g cap cur fz,v=.slice (some ⟨g,0,none⟩) n cap/\base<=g/\w.heap[g]?=some (.cells cur e fz)/\(∀ i,i<cur.size->¬ (fz.1<=i/\i<fz.2))/\n<=cap/\cap<=maxLen/\cur.size=cap * size/\cur.toList.take (n * size)=xs)
theorem aJ.nil(w:World) (base:Nat) (e:TypeId) (size:Nat):aJ w base e size (.slice none 0 0) 0 []:=⟨by simp,.inl ⟨rfl,rfl⟩⟩
theorem aJ.of_owns{w:World} {base:Nat} {e:TypeId} {size:Nat} {v:Value} {n:Nat} {xs:List Value} (h:w.ownsRow base e size v n xs):aJ w base e size v n xs:=by
 refine⟨h.1,?_⟩;rcases h.2 with hn|⟨g,cap,cur,hv,hb,hg,rest⟩
 ·exact .inl hn
 ·exact .inr ⟨g,cap,cur,(0,0),hv,hb,hg,fun i _ h=>by have:=h.2;simp at this,rest⟩
theorem aJ.slice{w:World} {base size:Nat} {e:TypeId} {v:Value} {n:Nat} {xs:List Value} (h:aJ w base e size v n xs):∃ a c,v=.slice a n c:=by
 rcases h.2 with ⟨rfl,rfl⟩|⟨g,cap,cur,fz,rfl,_⟩
 ·exact⟨_,_,rfl⟩
 ·exact⟨_,_,rfl⟩
theorem aJ.ck{w w':World} {base size:Nat} {e:TypeId} {v:Value} {n:Nat} {xs:List Value} (h:aJ w base e size v n xs) (hb:CK w w'):aJ w' base e size v n xs:=by
 obtain⟨hl,h⟩:=h;refine⟨hl,?_⟩;rcases h with h|⟨g,cap,cur,fz,h1,h2,h3,h4⟩
 ·exact .inl h
 ·exact .inr ⟨g,cap,cur,fz,h1,h2,hb _ _ h3 rfl,h4⟩
theorem aJ.up{w w':World} {base size:Nat} {e:TypeId} {v:Value} {n:Nat} {xs:List Value} (h:aJ w base e size v n xs) (hb:Below w.heap.size w w'):aJ w' base e size v n xs:=h.ck (.of_below hb)
theorem aJ.lt{w:World} {base size:Nat} {e:TypeId} {v:Value} {n:Nat} {xs:List Value} (h:aJ w base e size v n xs):∀ k,v.ownBlock=some k->base<=k/\k<w.heap.size:=by
 intro k hk;rcases h.2 with ⟨rfl,_⟩|⟨g,cap,cur,fz,rfl,hb,hg,_⟩
 ·simp[Value.ownBlock]at hk
 ·simp[Value.ownBlock]at hk;subst hk;exact⟨hb,aC hg⟩
theorem aJ.ne{w:World} {base sz:Nat} {e e':TypeId} {v:Value} {n:Nat} {xs:List Value} {B:Nat} {cs:Array Value} {f:Nat × Nat} (h:aJ w base e sz v n xs) (hB:w.heap[B]?=some (.cells cs e' f)) (bR:e≠e'):∀ g,v.ownBlock=some g->g≠B:=by
 intro g hg hgB;rcases h.2 with ⟨rfl,_⟩|⟨g',cap,cur,fz,rfl,_,h3,_⟩
 ·cases hg
 ·have:g'=g:=by simpa[Value.ownBlock] using hg
  rw[this,hgB,hB]at h3;cases h3;exact bR rfl
theorem aJ.isCells{w:World} {base sz:Nat} {e:TypeId} {v:Value} {n:Nat} {xs:List Value} {B:Nat} {o:Obj} (h:aJ w base e sz v n xs) (hB:w.heap[B]?=some o) (ho:o.isCells=false):some B≠v.ownBlock:=by
 intro hg;rcases h.2 with ⟨rfl,_⟩|⟨g',cap,cur,fz,rfl,_,h3,_⟩
 ·cases hg
 ·have:B=g':=by simpa[Value.ownBlock] using hg
  rw[<-this,hB]at h3;cases h3;cases ho
theorem aJ.put{w:World} {base sz:Nat} {e:TypeId} {v:Value} {n:Nat} {xs:List Value} {B:Nat} (h:aJ w base e sz v n xs) (bR:∀ g,v.ownBlock=some g->g≠B) (o:Nat) (x:Value):aJ (w.setCell ⟨B,o,none⟩ x) base e sz v n xs:=by
 obtain⟨hl,h⟩:=h;refine⟨hl,?_⟩;rcases h with h|⟨g,cap,cur,fz,rfl,h2,h3,h4⟩
 ·exact .inl h
 ·exact .inr ⟨g,cap,cur,fz,rfl,h2,aO h3 (bR g rfl) _ _,h4⟩
theorem aJ.base{w:World} {base base':Nat} {e:TypeId} {sz:Nat} {v:Value} {n:Nat} {xs:List Value} (h:aJ w base e sz v n xs) (hb:base'<=base):aJ w base' e sz v n xs:=by
 obtain⟨hl,h⟩:=h;refine⟨hl,?_⟩;rcases h with h|⟨g,cap,cur,fz,h1,h2,h3⟩
 ·exact .inl h
 ·exact .inr ⟨g,cap,cur,fz,h1,Nat.le_trans hb h2,h3⟩
theorem aJ.cell{w:World} {base size:Nat} {e:TypeId} {v:Value} {n:Nat} {xs:List Value} (h:aJ w base e size v n xs) (j:Nat) (u:Value) (hu:xs[j]?=some u):∃ g c,v=.slice (some ⟨g,0,none⟩) n c/\w.cell? ⟨g,j,none⟩=some u:=by
 rcases h.2 with ⟨rfl,hn⟩|⟨g,cap,cur,fz,rfl,_,hg,_,_,_,_,ht⟩
 ·subst hn;have:xs=[]:=List.eq_nil_of_length_eq_zero (by simpa using h.1);rw[this]at hu;simp at hu
 ·refine⟨g,cap,rfl,?_⟩;rw[ab hg];rw[<-ht,List.getElem?_take]at hu;split at hu
  ·simpa using hu
  ·cases hu
section
variable {P : Program} (w : World)
theorem rB(base:Nat) (t ty e:TypeId) (i:TypeInfo) (z:Value) (size bytes:Nat) (ht:P.underlying t=some (.slice e)) (hi:P.info? e=some i) (hz:i.zero=some z)
  (fc:i.size=size) (gM:i.bytes=bytes) (nV:z.cells.size=size) (eQ:0<size)
  (v:Value) (n:Nat) (xs:List Value) (bg:aJ w base e size v n xs)
  (a:Addr) (m c:Nat) (news:List Value) (hl:news.length=m * size) (bT:∀ j u,news[j]?=some u->w.cell? (a.add j)=some u) (h1:∀ u∈news,u.oneCell'=true)
  (oY:n+m<=maxLen) (gF:(n+m) * bytes<=140737488355328) (my:base<=w.heap.size) :
  ∃ v' w',(Builtin.append_ #[t,t] ty #[v,.slice (some a) m c]).run P w=.ok v' w'/\aJ w' base e size v' (n+m) (xs++news)/\w.grownBy w' v.ownBlock/\(v'.ownBlock=v.ownBlock\/v'.ownBlock=some w.heap.size):=by
 rcases bg.2 with ⟨rfl,rfl⟩|⟨g,cap,cur,fz,rfl,Df,hg,nf,iL,qz,jH,Ng⟩
 ·have hx:xs=[]:=List.eq_nil_of_length_eq_zero (by simpa using bg.1);subst hx;by_cases hm:m=0
  ·obtain⟨v',w',q1,q2,q3,q4⟩:=run_append_own (P:=P) w base t ty e i z size bytes ht hi hz fc gM nV eQ (.slice none 0 0) 0 [] (World.ownsRow_nil w base e size) a m c news hl bT h1 oY gF my;have:=q4.2 ⟨rfl,hm⟩;exact⟨v',w',q1,.of_owns q2,q3,.inl (by rw[this])⟩
  ·obtain⟨v',w',q1,q2,q3,q4⟩:=run_append_own (P:=P) w w.heap.size t ty e i z size bytes ht hi hz fc gM nV eQ (.slice none 0 0) 0 [] (World.ownsRow_nil w _ e size) a m c news hl bT h1 oY gF (Nat.le_refl _);subst fc gM;have hr:=run_append_nil (P:=P) w t ty e i z ht hi hz a m c news hl bT (by omega) (by simp only[maxLen]at oY;omega) (by have hb:=gF;simp only[Nat.zero_add]at hb;omega);have e1:=hr.symm.trans q1;injection e1 with e1 e2
   subst e1 e2;exact⟨_,_,hr,(aJ.of_owns q2).base my,q3,.inr rfl⟩
 ·subst fc;have cP:(xs++news).length=(n+m) * i.size:=by rw[List.length_append,bg.1,hl,Nat.add_mul]
  by_cases mz:n+m<=cap
  ·have IL:n * i.size+news.length<=cur.size:=by rw[hl,jH,<-Nat.add_mul];exact Nat.mul_le_mul_right _ mz
   have hr:=run_append_room_cells (P:=P) w t ty e i ht hi g 0 n cap a m c news hl bT h1 mz (fun j hj=>by rw[Nat.zero_add,ab hg];simp;omega)
    (fun j hj=>by
     simp only[World.frozen?,hg,Nat.zero_add];have:=nf (n * i.size+j) (by omega)
     simpa using this)
   rw[Nat.zero_add]at hr;obtain⟨cur',g1,g2,g3⟩:=mw g e fz news (n * i.size) w cur hg IL;obtain⟨o1,o2,o3,o4,o5⟩:=lI g news (n * i.size) w;refine⟨_,_,hr,⟨cP,.inr ⟨g,cap,cur',fz,rfl,Df,g1,fun k hk=>nf k (by omega),mz,qz,by omega,?_⟩⟩,⟨o2,o3,o4,by omega,fun k _ hk=>o1 k (fun e=>hk (by rw[e];rfl))⟩,.inl rfl⟩;rw[Nat.add_mul,<-hl,g3,Ng]
  ·subst gM
   have Dk:∀ j u,xs[j]?=some u->w.cell? ((⟨g,0,none⟩:Addr).add j)=some u:=fun j u hu=>by
    obtain⟨g',c',e1,hc⟩:=bg.cell j u hu;have:g'=g:=by simp at e1;exact e1.1.symm
    subst this;rw[<-hc];congr 1;unfold Addr.add;split<;>simp_all
   have hr:=run_append_grow (P:=P) w t ty e i z ht hi hz ⟨g,0,none⟩ n cap xs bg.1 Dk a m c news hl bT (by omega) (by simp only[maxLen]at oY;omega) (growslice_fits (by omega) gF);obtain⟨v',w',q1,q2,q3⟩:=run_append_arg_grows (P:=P) w t ty e i z i.size i.bytes ht hi hz rfl rfl nV eQ ⟨g,0,none⟩ n cap xs bg.1 Dk a m c news hl bT (by omega) oY gF;have e1:=hr.symm.trans q1;injection e1 with e1 e2
   subst e1 e2;exact⟨_,_,hr,(aJ.of_owns q2).base my,⟨q3.os,q3.tape,q3.output,q3.size,fun k hk _=>q3.block k hk (by simp)⟩,.inr rfl⟩
theorem bh{ops:Array Oper} {rest:List Oper} {o:Oper} {a:Act} {Q:Exit->Act->World->Prop} (lB:o.guard=none) (s x:Operand) (t:TypeId)
  (ho:o.op=.call { callee:=.builtin .append,args:=#[s,x],argTypes:=#[t,t] })
  (base:Nat) (e:TypeId) (i:TypeInfo) (z:Value) (size bytes:Nat) (ht:P.underlying t=some (.slice e)) (hi:P.info? e=some i) (hz:i.zero=some z)
  (fc:i.size=size) (gM:i.bytes=bytes) (nV:z.cells.size=size) (eQ:0<size)
  (v:Value) (n:Nat) (xs:List Value) (hs:a.eval s=v) (bg:aJ w base e size v n xs)
  (ad:Addr) (m c:Nat) (news:List Value) (hx:a.eval x=.slice (some ad) m c) (hl:news.length=m * size) (bT:∀ j u,news[j]?=some u->w.cell? (ad.add j)=some u) (h1:∀ u∈news,u.oneCell'=true)
  (oY:n+m<=maxLen) (gF:(n+m) * bytes<=140737488355328) (my:base<=w.heap.size)
  (h:∀ v' w',aJ w' base e size v' (n+m) (xs++news)->w.grownBy w' v.ownBlock->(v'.ownBlock=v.ownBlock\/v'.ownBlock=some w.heap.size)->wpList P ops Q rest (a.put o.dst v') w'):wpList P ops Q (o :: rest) a w:=by
 refine wpList_plain lB fun _ hK=>?_
 obtain⟨v',w',hr,h2,h3,h4⟩:=rB (P:=P) w base t o.type e i z size bytes ht hi hz fc gM nV eQ v n xs bg ad m c news hl bT h1 oY gF my;unfold Oper.wp execOp;simp only[ho,resolve,invoke,builtin,Sem.run_bind,Sem.run_pure,Result.andThen_ok,List.map_toArray,List.map_cons,List.map_nil,hs,hx,hr];exact hK _ _ (h v' w' h2 h3 h4)
theorem qN{F:Fence} {d:Nat} {ops:Array Oper} {rest:List Oper} {o:Oper} {a:Act} {Q:Exit->Act->World->Prop} (lB:o.guard=none) (s x:Operand) (t:TypeId)
  (ho:o.op=.call { callee:=.builtin .append,args:=#[s,x],argTypes:=#[t,t] })
  (base:Nat) (e:TypeId) (i:TypeInfo) (z:Value) (size bytes:Nat) (ht:P.underlying t=some (.slice e)) (hi:P.info? e=some i) (hz:i.zero=some z)
  (fc:i.size=size) (gM:i.bytes=bytes) (nV:z.cells.size=size) (eQ:0<size)
  (v:Value) (n:Nat) (xs:List Value) (hs:a.eval s=v) (bg:aJ w base e size v n xs)
  (ad:Addr) (m c:Nat) (news:List Value) (hx:a.eval x=.slice (some ad) m c) (hl:news.length=m * size) (bT:∀ j u,news[j]?=some u->w.cell? (ad.add j)=some u) (h1:∀ u∈news,u.oneCell'=true)
  (oY:n+m<=maxLen) (gF:(n+m) * bytes<=140737488355328) (my:base<=w.heap.size)
  (h:∀ v' w',aJ w' base e size v' (n+m) (xs++news)->w.grownBy w' v.ownBlock->(v'.ownBlock=v.ownBlock\/v'.ownBlock=some w.heap.size)->wpListIn F d P ops Q rest (a.put o.dst v') w'):wpListIn F d P ops Q (o :: rest) a w:=by
 refine wpListIn_plain lB fun K hK'=>?_
 obtain⟨v',w',SI,r1,r2,r3⟩:=rB (P:=P) w base t o.type e i z size bytes ht hi hz fc gM nV eQ v n xs bg ad m c news hl bT h1 oY gF my;unfold Oper.wpIn;refine⟨?_,?_⟩
 ·simp[Oper.about,ho,resolve,Target.leads,Sem.run_pure]
 ·rw[Oper.semAt_plain F _ _ (by rw[ho];intro c kU;cases kU)];simp[execOp,ho,resolve,invoke,builtin,hs,hx,SI,Result.andThen];exact hK' _ _ (h v' w' r1 r2 r3)
end
theorem aJ.apart{w w':World} {base base' k k':Nat} {e e':TypeId} {u v:Value} {n m:Nat} {xs ys:List Value} (h:aJ w base e k u n xs) (hv:aJ w base' e' k' v m ys) (bR:e≠e') (hg:w.grownBy w' v.ownBlock):aJ w' base e k u n xs:=by
 obtain⟨hl,h⟩:=h;refine⟨hl,?_⟩;rcases h with h|⟨g,cap,cur,fz,h1,h2,h3,h4⟩
 ·exact .inl h
 ·refine .inr ⟨g,cap,cur,fz,h1,h2,(hg.block g (aC h3) (fun e1=>?_)).trans h3,h4⟩;exact hv.ne h3 (Ne.symm bR) g e1.symm rfl
def cB{α:Type} (to ti:TypeId) (k:Nat) (flat:List α->List Value) (w:World) (base:Nat) (v:Value) (l:List (List α)):Prop:=
 ∃ xs:List Value,aJ w base to 1 v l.length xs/\∀ i (hi:i<l.length),∃ x,xs[i]?=some x/\aJ w base ti k x l[i].length (flat l[i])
section
variable {α : Type} {to ti : TypeId} {k : Nat} {flat : List α → List Value} {w w' : World} {base : Nat} {v : Value} {l : List (List α)}
theorem cB.nil(w:World) (base:Nat):cB to ti k flat w base (.slice none 0 0) []:=⟨[],aJ.nil _ _ _ _,fun i hi=>by simp at hi⟩
theorem cB.ck(h:cB to ti k flat w base v l) (hb:CK w w'):cB to ti k flat w' base v l:=by
 obtain⟨xs,h1,h2⟩:=h;exact⟨xs,h1.ck hb,fun i hi=>by obtain⟨x,q1,q2⟩:=h2 i hi;exact⟨x,q1,q2.ck hb⟩⟩
theorem cB.up(h:cB to ti k flat w base v l) (hb:Below w.heap.size w w'):cB to ti k flat w' base v l:=h.ck (.of_below hb)
theorem cB.snoc{xs:List Value} (h1:aJ w base to 1 v l.length xs) (h2:∀ i (hi:i<l.length),∃ x,xs[i]?=some x/\aJ w base ti k x l[i].length (flat l[i])) (bR:ti≠to) {x:Value} {a:List α} (hx:aJ w base ti k x a.length (flat a))
  (hg:w.grownBy w' v.ownBlock) {v':Value} (ho:aJ w' base to 1 v' (l.length+1) (xs++[x])):cB to ti k flat w' base v' (l++[a]):=by
 have hl:xs.length=l.length:=by have:=h1.1;omega
 refine⟨xs++[x],by simpa using ho,fun i hi=>?_⟩;simp at hi;by_cases aB:i<l.length
 ·obtain⟨y,q1,q2⟩:=h2 i aB;refine⟨y,by rw[List.getElem?_append_left (by omega)];exact q1,?_⟩;rw[List.getElem_append_left aB];exact q2.apart h1 bR hg
 ·obtain rfl:i=l.length:=by omega
  refine⟨x,by rw[<-hl,List.getElem?_append_right (Nat.le_refl _)];simp,?_⟩;have e:(l++[a])[l.length]'(by simp)=a:=by simp
  rw[e];exact hx.apart h1 bR hg
theorem cB.sl{R:World->Nat->Nat->α->Prop} (h:cB to ti k flat w base v l) (hr:∀ (x:Value) (a:List α),a∈l->aJ w base ti k x a.length (flat a)->fe k R w x a) (hn:l.length<=17592186044416):fe 1 (mC k R) w v l:=by
 obtain⟨xs,h1,h2⟩:=h;rcases h1.2 with ⟨rfl,h0⟩|⟨g,cap,cur,fz,rfl,_,hg,_,iL,qz,_,ht⟩
 ·have:l=[]:=List.eq_nil_of_length_eq_zero h0;subst this;exact⟨none,0,rfl,⟨by simp,by omega,fun _=>rfl⟩,by simp,fun i x hx=>by simp at hx⟩
 ·refine⟨some ⟨g,0,none⟩,cap,rfl,⟨iL,by unfold maxLen at qz;omega,fun e=>by cases e⟩,hn,fun i a ha=>⟨g,0,rfl,?_⟩⟩;obtain⟨hi,rfl⟩:=List.getElem?_eq_some_iff.1 ha;obtain⟨x,q1,q2⟩:=h2 i hi;refine⟨x,?_,hr x _ (List.getElem_mem hi) q2⟩;rw[Nat.zero_add,Nat.mul_one,ab hg];rw[<-ht,List.getElem?_take]at q1;split at q1
  ·simpa using q1
  ·cases q1
end
theorem ON(a:Adv) (ps:Option Addr) (cs:Nat) (v:Value) (l:List Mv) (w:World) (hv:pf w v l) :
  Calls Tryz.prog 217 #[.agg #[.int .i64 a.n,.slice ps a.states.length cs],v] w fun e w'=>e=.returned (.int .i64 (stateE a l))/\Below w.heap.size w w':=by
 obtain⟨pa,ca,rfl,l1,m1,e1⟩:=hv.at;clear hv;have E:=aa e1;clear e1;by_cases hz:l.length=0
 ·have cj:((l.length:Int) == 0)=true:=beq_iff_eq.2 (by omega);have HV:am (stateE a l=19):=by(have h:stateE a l=19:=by(unfold stateE;rw[if_pos hz]));exact h
  clear hz
  go_enter Tryz.func217,Tryz.ntmps217
  go_wp2_with fail
  go_ret
  exact⟨aG HV.o.symm,by go_grown⟩
 have cj:((l.length:Int) == 0)=false:=beq_eq_false_iff_ne.2 (by omega);have HV:am (stateE a l=bm l.length (dW a l)):=by(have h:stateE a l=bm l.length (dW a l):=by(unfold stateE;rw[if_neg hz]));exact h
 clear hz
 go_enter Tryz.func217,Tryz.ntmps217
 go_wp2_with fail
 refine bF (fun W=>Below w.heap.size w W/\W.heap[w.heap.size]?=some (.cells #[.int .i64 a.n,.slice ps a.states.length cs] 27))
  ⟨by go_grown,ap _ _⟩ (fun W0 bd=>?_)
 obtain⟨aK,hT⟩:=bd;have HT:=aa hT;clear hT cj
 go_loopw [13] (fun i wr=>Below W0.heap.size W0 wr/\∃ k:Nat,k<=l.length/\i=.int .i64 k/\∀ j,j<k->dW a l j=0) (fun i _=>l.length - (intOf i).toNat)
 ·exact⟨Below.refl _ _,0,by omega,rfl,by simp⟩
 ·
  obtain⟨aA,k,hk,rfl,aU⟩:=hrel;have H:=aa aU;clear aU;have dG:=ae aK aA;by_cases aB:k<l.length
  ·obtain⟨b1,o1,rfl,⟨⟨c0,_⟩,⟨c1,_⟩,⟨c2,_⟩,⟨c3,_⟩,⟨c4,_⟩,⟨c5,_⟩,⟨c6,_⟩⟩,c7,_⟩:=E.o k aB;have d0:=ak dG c0;have d1:=ak dG c1;have d2:=ak dG c2;have d3:=ak dG c3;have d4:=ak dG c4;have d5:=ak dG c5;have d6:=ak dG c6;have d7:=ak dG c7;clear c0 c1 c2 c3 c4 c5 c6 c7
   have HO:am (dW a l k=if roundE l[k].r≠0 then roundE l[k].r else if l[k].r.g.n≠a.n then 22 else if 0<k/\0<=roundC (l.getD (k - 1) default).r l[k].r then 14 else if l[k].to<0\/(a.states.length:Int)<=l[k].to then 2 else 0):=by
    have h:dW a l k=if roundE l[k].r≠0 then roundE l[k].r else if l[k].r.g.n≠a.n then 22 else if 0<k/\0<=roundC (l.getD (k - 1) default).r l[k].r then 14 else if l[k].to<0\/(a.states.length:Int)<=l[k].to then 2 else 0:=by unfold dW;rw[az default aB]
    exact h
   generalize l[k]=m at d0 d1 d2 d3 d4 d5 d6 d7 HO
   go_wp2_with fail
   refine aQ (fun W=>Below wr.heap.size wr W/\W.heap[wr.heap.size]?=some (.cells #[.int .i64 m.r.g.n,.int .i64 m.r.g.h0,.int .i64 m.r.g.h1,.int .i64 m.r.g.h2,.int .i64 m.r.g.h3,.int .i64 m.r.g.h4,.int .i64 m.r.f,.int .i64 m.to] 143)) ⟨by go_grown,ap _ _⟩ (fun V hV=>?_);obtain⟨kY,hC⟩:=hV;have HC:=aa hC;clear hC;have TP:=ae dG kY;refine(DJ m.r _).mono ?_;rintro e w1 ⟨rfl,aM⟩;clear d0 d1 d2 d3 d4 d5 d6 d7;have jd:=ae TP aM;have zf:=ae aA (ae kY aM);have s1:=ab (af zf HT.o);have s2:=ab (af aM HC.o);generalize roundE m.r=er at HO;by_cases F5:er=0
   case neg=>
    have her':(er != 0)=true:=by simpa using F5
    go_wp2_with fail
    go_ret
    exact⟨aG (by rw[HV.o,<-bV k er aB H.o (by rw[HO.o,if_pos F5]) F5]),jd⟩
   subst F5;by_cases uV:m.r.g.n=a.n
   case neg=>
    have Jf:(m.r.g.n != a.n)=true:=by simpa using uV
    go_wp2_with fail
    go_ret
    exact⟨aG (by rw[HV.o,<-bV k 22 aB H.o (by rw[HO.o,if_neg (by simp),if_pos uV]) (by decide)]),jd⟩
   have Jf:(m.r.g.n != a.n)=false:=by simpa using uV
   have gE:am (dW a l k=if 0<k/\0<=roundC (l.getD (k - 1) default).r m.r then 14 else if m.to<0\/(a.states.length:Int)<=m.to then 2 else 0):=by
    have h:dW a l k=if 0<k/\0<=roundC (l.getD (k - 1) default).r m.r then 14 else if m.to<0\/(a.states.length:Int)<=m.to then 2 else 0:=by rw[HO.o,if_neg (by simp),if_neg (by simpa using uV)]
    exact h
   clear HO uV
   go_wp2_with fail
   clear Jf;by_cases eX:k=0
   ·have eP:am (dW a l k=if m.to<0\/(a.states.length:Int)<=m.to then 2 else 0):=by(have h:dW a l k=if m.to<0\/(a.states.length:Int)<=m.to then 2 else 0:=by(rw[gE.o,if_neg (by omega)]));exact h
    have hd:decide ((0:Int)<(k:Int))=false:=by simp;omega
    have gm:decide (0<k)=false:=by simp;omega
    clear gE eX s1 s2;refine aF (by kernel_rfl) (by kernel_rfl) ?_
    repeat (go_big_quiet_step (fail))
    refine wpQuiet_nil ?_;intro _ eE;obtain⟨xq,dj⟩:=eE;subst dj;clear hd gm;have r1:=ab (af (ae zf xq.ext) HT.o);have r2:=ab (af (ae aM xq.ext) HC.o);have sY:=ae jd xq.ext
    go_wp2_with fail
    all_goals first
     | (go_ret
        refine⟨aG ?_,sY⟩
        rw[HV.o]
        go_light
        refine bV k _ aB H.o ?_ (by decide)
        rw[eP.o]
        grind)
     | (go_roundw
        ·
         refine⟨ae (ae zf xq.ext) (Below.refl _ _),k+1,by omega,by go_num,aV H.o ?_⟩
         go_light
         rw[eP.o]
         grind
        ·simp[intOf];omega)
   ·obtain⟨j,hj⟩:∃ j,k=j+1:=⟨k - 1,by omega⟩;have fH:j<l.length:=by omega
    have HJ:=aa hj;obtain⟨b2,o2,e2,⟨⟨c0,_⟩,⟨c1,_⟩,⟨c2,_⟩,⟨c3,_⟩,⟨c4,_⟩,⟨c5,_⟩,⟨c6,_⟩⟩,_⟩:=E.o j fH;obtain⟨rfl,rfl⟩:b1=b2/\o1=o2:=by simpa using e2
    clear e2;have hd:decide ((0:Int)<(k:Int))=true:=by simp;omega
    have gm:0<k:=by omega
    have eP:am (dW a l k=if 0<=roundC l[j].r m.r then 14 else if m.to<0\/(a.states.length:Int)<=m.to then 2 else 0):=by
     have h:dW a l k=if 0<=roundC l[j].r m.r then 14 else if m.to<0\/(a.states.length:Int)<=m.to then 2 else 0:=by
      rw[gE.o];have e:k - 1=j:=by omega
      rw[e,az default fH]
      grind
     exact h
    clear gE eX hj s1 s2;have jB:IntKind.i64.wrap ((k:Int) - 1)=(j:Int):=by rw[HJ.o];rw[IntWalk.i64_in _ (by omega)];omega
    generalize l[j]=m2 at c0 c1 c2 c3 c4 c5 c6 eP;have q1:∀ x:ExtW w1,∀ o,x.val.cell? ⟨w.heap.size,o,none⟩=_:=fun x=>ab (af (ae zf x.ext) HT.o)
    have q2:∀ x:ExtW w1,∀ o,x.val.cell? ⟨wr.heap.size,o,none⟩=_:=fun x=>ab (af (ae aM x.ext) HC.o)
    have k0:∀ x:ExtW w1,x.val.cell? _=_:=fun x=>x.cell (ak jd c0)
    have k1:∀ x:ExtW w1,x.val.cell? _=_:=fun x=>x.cell (ak jd c1)
    have k2:∀ x:ExtW w1,x.val.cell? _=_:=fun x=>x.cell (ak jd c2)
    have k3:∀ x:ExtW w1,x.val.cell? _=_:=fun x=>x.cell (ak jd c3)
    have k4:∀ x:ExtW w1,x.val.cell? _=_:=fun x=>x.cell (ak jd c4)
    have k5:∀ x:ExtW w1,x.val.cell? _=_:=fun x=>x.cell (ak jd c5)
    have k6:∀ x:ExtW w1,x.val.cell? _=_:=fun x=>x.cell (ak jd c6)
    clear c0 c1 c2 c3 c4 c5 c6;refine aF (by kernel_rfl) (by kernel_rfl) ?_
    repeat (go_big_quiet_step ((go_at_call 220;exact Calls.ext_of (A8 m2.r m.r _))))
    refine wpQuiet_nil ?_;intro _ eE;obtain⟨xq,dj⟩:=eE;subst dj;have r1:=q1 xq;have r2:=q2 xq;clear q1 q2 k0 k1 k2 k3 k4 k5 k6 hd gm jB;have sY:=ae jd xq.ext;generalize roundC m2.r m.r=oo at eP
    go_wp2_with fail
    all_goals first
     | (go_ret
        refine⟨aG ?_,sY⟩
        rw[HV.o]
        go_light
        refine bV k _ aB H.o ?_ (by decide)
        rw[eP.o]
        grind)
     | (go_roundw
        ·
         refine⟨ae (ae zf xq.ext) (Below.refl _ _),k+1,by omega,by go_num,aV H.o ?_⟩
         go_light
         rw[eP.o]
         grind
        ·simp[intOf];omega)
  ·go_wp2_with fail
   go_ret
   exact⟨aG (by rw[HV.o,cU];intro j hj;exact H.o j (by omega)),dG⟩
theorem aJ.keepT{w w':World} {base sz:Nat} {e:TypeId} {v:Value} {n:Nat} {xs:List Value} (h:aJ w base e sz v n xs) (hk:∀ g o,v.ownBlock=some g->w.heap[g]?=some o->w'.heap[g]?=some o):aJ w' base e sz v n xs:=by
 obtain⟨hl,h⟩:=h;refine⟨hl,?_⟩;rcases h with h|⟨g,cap,cur,fz,rfl,h2,h3,h4⟩
 ·exact .inl h
 ·exact .inr ⟨g,cap,cur,fz,rfl,h2,hk g _ rfl h3,h4⟩
structure KeepT (ts:List TypeId) (ms:List Nat) (base:Nat) (w w':World):Prop where
 old:Below base w w'
 keep:∀ (k:Nat) (c:Array Value) (t:TypeId) (f:Nat × Nat),w.heap[k]?=some (.cells c t f)->t∉ts->w'.heap[k]?=some (.cells c t f)
 oth:∀ (k:Nat) (o:Obj),w.heap[k]?=some o->o.isCells=false->k∉ms->w'.heap[k]?=some o
section
variable {ts : List TypeId} {ms : List Nat} {base : Nat} {w w' w'' : World}
theorem KeepT.refl(ts:List TypeId) (base:Nat) (w:World):KeepT ts ms base w w:=⟨Below.refl _ _,fun _ _ _ _ h _=>h,fun _ _ h _ _=>h⟩
theorem KeepT.trans(h:KeepT ts ms base w w') (k:KeepT ts ms base w' w''):KeepT ts ms base w w'':=
 ⟨⟨k.old.os.trans h.old.os,k.old.tape.trans h.old.tape,k.old.output.trans h.old.output,Nat.le_trans h.old.size k.old.size,fun j hj=>(k.old.block j hj).trans (h.old.block j hj)⟩,fun j c t f h1 h2=>k.keep j c t f (h.keep j c t f h1 h2) h2,fun j o h1 h2 h3=>k.oth j o (h.oth j o h1 h2 h3) h2 h3⟩
theorem KeepT.of_below(ts:List TypeId) (h:Below w.heap.size w w') (hb:base<=w.heap.size):KeepT ts ms base w w':=
 ⟨⟨h.os,h.tape,h.output,h.size,fun j hj=>h.block j (by omega)⟩,fun _ _ _ _ h1 _=>af h h1,fun _ _ h1 _ _=>af h h1⟩
theorem KeepT.drew(h:KeepT ts ms base w w'):KeepT ts ms base w w'.drew:=⟨h.old.drew,h.keep,h.oth⟩
theorem KeepT.mono{us:List TypeId} {ns:List Nat} (h:KeepT ts ms base w w') (hs:∀ t,t∈ts->t∈us) (hm:∀ t,t∈ms->t∈ns):KeepT us ns base w w':=⟨h.old,fun k c t f h1 h2=>h.keep k c t f h1 (fun e=>h2 (hs t e)),fun k o h1 h2 h3=>h.oth k o h1 h2 (fun e=>h3 (hm k e))⟩
theorem KeepT.own{b k n:Nat} {e:TypeId} {v:Value} {xs:List Value} (h:KeepT ts ms base w w') (ho:aJ w b e k v n xs) (he:e∉ts):aJ w' b e k v n xs:=by
 obtain⟨hl,ho⟩:=ho;refine⟨hl,?_⟩;rcases ho with ho|⟨g,cap,cur,fz,h1,h2,h3,h4⟩
 ·exact .inl ho
 ·exact .inr ⟨g,cap,cur,fz,h1,h2,h.keep _ _ _ _ h3 he,h4⟩
theorem KeepT.fresh{α:Type} {to ti:TypeId} {k:Nat} {flat:List α->List Value} {b:Nat} {v:Value} {l:List (List α)} (h:KeepT ts ms base w w') (hf:cB to ti k flat w b v l) (h1:to∉ts) (h2:ti∉ts):cB to ti k flat w' b v l:=by
 obtain⟨xs,q1,q2⟩:=hf;exact⟨xs,h.own q1 h1,fun i hi=>by obtain⟨x,p1,p2⟩:=q2 i hi;exact⟨x,p1,h.own p2 h2⟩⟩
theorem KeepT.grown{b k n:Nat} {e:TypeId} {v:Value} {xs:List Value} (h:KeepT ts ms base w w') (ho:aJ w' b e k v n xs) (he:e∈ts) (hb:base<=b) (hs:base<=w.heap.size) (hg:w'.grownBy w'' v.ownBlock):KeepT ts ms base w w'':=by
 refine⟨Below.grown h.old hg (Nat.le_trans hs h.old.size) (fun g e=>Nat.le_trans hb (ho.lt g e).1),fun j c t f h1 h2=>?_,fun j o h1 h2 h3=>?_⟩
 ·have h3:=h.keep j c t f h1 h2;exact(hg.block j (aC h3) (fun e'=>ho.ne h3 (fun e=>h2 (e ▸ he)) j e'.symm rfl)).trans h3
 ·have h4:=h.oth j o h1 h2 h3;exact(hg.block j (aC h4) (fun e'=>ho.isCells h4 h2 e')).trans h4
theorem KeepT.set{B o:Nat} {c:Array Value} {t:TypeId} {f:Nat × Nat} (h:KeepT ts ms base w w') (hB:w'.heap[B]?=some (.cells c t f)) (ht:t∈ts) (hb:base<=B) (v:Value):KeepT ts ms base w (w'.setCell ⟨B,o,none⟩ v):=by
 refine⟨h.old.setCell hb v,fun j c' t' f' h1 h2=>?_,fun j o' h1 h2 h3=>aO (h.oth j o' h1 h2 h3) ?_ o v⟩
 ·have h3:=h.keep j c' t' f' h1 h2;refine aO h3 ?_ o v;rintro rfl;rw[hB]at h3;cases h3;exact h2 ht
 ·rintro rfl;have h4:=h.oth _ o' h1 h2 h3;rw[hB]at h4;cases h4;cases h2
theorem KeepT.put{B:Nat} {o o':Obj} (h:KeepT ts ms base w w') (hB:w'.heap[B]?=some o) (ho:o.isCells=false) (hb:base<=B) (hm:B∈ms):KeepT ts ms base w (w'.putObj B o'):=by
 refine⟨eT hb h.old,fun j c' t' f' h1 h2=>?_,fun j o2 h1 h2 h3=>(World.putObj_heap_other (fun e=>h3 (by rw[e];exact hm))).trans (h.oth j o2 h1 h2 h3)⟩;have h3:=h.keep j c' t' f' h1 h2;refine(World.putObj_heap_other ?_).trans h3;rintro rfl;rw[hB]at h3;cases h3;cases ho
end
structure CAppS (w Wr:World) (base:Nat) (ty:TypeId) (sz:Nat) (vd:Value) (p m:Nat) (ds news:List Value) (ib ia:Nat) (D:Nat->Bool) (x:Nat->Value) (W:World):Prop where
 lo:base<=w.heap.size
 old:KeepT [ty] [] base w W
 size:Wr.heap.size<=W.heap.size
 kept:∀ (k:Nat) (o:Obj),Wr.heap[k]?=some o->vd.ownBlock≠some k->W.heap[k]?=some o
 rd:aJ W base ty sz (bif D ia then x ia else vd) (bif D ia then p+m else p) (bif D ia then ds++news else ds)
 sb:D ib=true->D ia=false->∃ g,x ib=.slice (some ⟨g,0,none⟩) m m/\W.heap[g]?=some (.cells news.toArray ty)/\vd.ownBlock≠some g
section
variable {w Wr : World} {base : Nat} {ty : TypeId} {sz : Nat} {vd : Value} {p m : Nat} {ds news : List Value} {ib ia : Nat} {D : Nat → Bool} {x : Nat → Value} {W : World}
theorem CAppS.start{x:Nat->Value} (h0:base<=w.heap.size) (hb:KeepT [ty] [] base w W) (hs:Wr.heap.size<=W.heap.size) (hk:∀ (k:Nat) (o:Obj),Wr.heap[k]?=some o->vd.ownBlock≠some k->W.heap[k]?=some o) (hr:aJ W base ty sz vd p ds):CAppS w Wr base ty sz vd p m ds news ib ia (fun _=>false) x W:=⟨h0,hb,hs,hk,hr,nofun⟩
theorem CAppS.grow{W':World} (h:CAppS w Wr base ty sz vd p m ds news ib ia D x W) (hb:Below W.heap.size W W'):CAppS w Wr base ty sz vd p m ds news ib ia D x W':=
 ⟨h.lo,h.old.trans (.of_below _ hb (Nat.le_trans h.lo h.old.old.size)),Nat.le_trans h.size hb.size,fun k o h1 h3=>af hb (h.kept k o h1 h3),h.rd.up hb,
  fun h1 h2=>by obtain⟨g,e,q1,q2⟩:=h.sb h1 h2;exact⟨g,e,af hb q1,q2⟩⟩
theorem CAppS.other(h:CAppS w Wr base ty sz vd p m ds news ib ia D x W) {i:Nat} (v:Value) (h1:ib≠i) (h2:ia≠i):CAppS w Wr base ty sz vd p m ds news ib ia (bI D i) (cF x i v) W:=by
 refine⟨h.lo,h.old,h.size,h.kept,?_,?_⟩
 ·simpa only[bI,cF,if_neg h2] using h.rd
 ·simpa only[bI,cF,if_neg h2,if_neg h1] using h.sb
theorem CAppS.app(h:CAppS w Wr base ty sz vd p m ds news ib ia D x W) (ha:D ia=false) {v':Value} {w3:World} (ho:aJ w3 base ty sz v' (p+m) (ds++news)) (hg:W.grownBy w3 vd.ownBlock) :
  CAppS w Wr base ty sz vd p m ds news ib ia (bI D ia) (cF x ia v') w3:=by
 have rd:=h.rd;rw[ha]at rd;have dS:∀ (k:Nat) (o:Obj),W.heap[k]?=some o->vd.ownBlock≠some k->w3.heap[k]?=some o:=fun k o hk hn=>(hg.block k (aC hk) (fun e=>hn e.symm)).trans hk
 refine⟨h.lo,h.old.grown rd (by simp) (Nat.le_refl _) h.lo hg,Nat.le_trans h.size hg.size,fun k o h1 h3=>dS k o (h.kept k o h1 h3) h3,?_,fun _ e=>by simp[bI]at e⟩;simpa[bI,cF] using ho
theorem CAppS.build(h:CAppS w Wr base ty sz vd p m ds news ib ia D x W) (h1:ia≠ib):CAppS w Wr base ty sz vd p m ds news ib ia (bI D ib) (cF x ib (.slice (some ⟨W.heap.size,0,none⟩) m m)) (W.alloc (.cells news.toArray ty)):=by
 have g:=h.grow (W':=W.alloc (.cells news.toArray ty)) (by go_grown);refine⟨g.lo,g.old,g.size,g.kept,?_,fun _ h4=>⟨W.heap.size,by simp[cF],ap _ _,fun e=>?_⟩⟩
 ·simpa only[bI,cF,if_neg h1] using g.rd
 ·have h4':D ia=false:=by simpa only[bI,if_neg h1] using h4
  have r:=h.rd;rw[h4']at r;have:=(r.lt _ e).2;omega
end
theorem dU(W:World) (l:List Value) (t:TypeId):∀ j u',l[j]?=some u'->(W.alloc (.cells l.toArray t)).cell? (Addr.add ⟨W.heap.size,0,none⟩ j)=some u':=fun j u' hj=>by
 have e1:(Addr.add ⟨W.heap.size,0,none⟩ j)=⟨W.heap.size,j,none⟩:=by unfold Addr.add;split<;>simp_all
 rw[e1,ab (ap W _)];simpa using hj
section
variable {w W w2 : World} {o : Obj} {base : Nat} {e : TypeId} {k n : Nat} {v : Value} {xs : List Value}
theorem eK(hb:Below w.heap.size w W) (h0:w.heap.size<=base) (ho:aJ (W.alloc o) base e k v n xs) (hg:(W.alloc o).grownBy w2 v.ownBlock):Below w.heap.size w w2:=
 Below.grown (hb.alloc hb.size _) hg (by have:=hb.size;simp;omega) (fun g h=>Nat.le_trans h0 (ho.lt g h).1)
theorem B1{N:Nat} (hb:Below N w W) (hN:N<=W.heap.size) (h0:N<=base) (ho:aJ (W.alloc o) base e k v n xs) (hg:(W.alloc o).grownBy w2 v.ownBlock):Below N w w2:=
 Below.grown (hb.alloc hN _) hg (by simp;omega) (fun g h=>Nat.le_trans h0 (ho.lt g h).1)
theorem ig{b:Nat} {c:Array Value} {t:TypeId} {f:Nat × Nat} (ho:aJ (W.alloc o) base e k v n xs) (hg:(W.alloc o).grownBy w2 v.ownBlock) (h:W.heap[b]?=some (.cells c t f)) (bR:e≠t):w2.heap[b]?=some (.cells c t f):=by
 have h1:(W.alloc o).heap[b]?=some (.cells c t f):=aq _ h;exact(hg.block b (aC h1) (fun e'=>ho.ne h1 bR b e'.symm rfl)).trans h1
theorem mW{b:Nat} {x:Obj} (ho:aJ (W.alloc o) base e k v n xs) (hg:(W.alloc o).grownBy w2 v.ownBlock) (h:W.heap[b]?=some x) (hc:x.isCells=false):w2.heap[b]?=some x:=by
 have h1:(W.alloc o).heap[b]?=some x:=aq _ h;exact(hg.block b (aC h1) (fun e'=>ho.isCells h1 hc e')).trans h1
theorem sD{b:Nat} {x:Obj} (ho:aJ (W.alloc o) base e k v n xs) (hg:(W.alloc o).grownBy w2 v.ownBlock) (h:W.heap[b]?=some x) (hb:b<base):w2.heap[b]?=some x:=by
 have h1:(W.alloc o).heap[b]?=some x:=aq _ h;exact(hg.block b (aC h1) (fun e'=>by have:=(ho.lt b e'.symm).1;omega)).trans h1
end
def pG(l:List (Int × Int)) (k:Int):Option Int:=(l.find? fun p=>decide (k=p.1)).map (·.2)
def du(w:World) (b:Nat) (f:Int->Option Int) (n:Nat):Prop:=
 ∃ es clock l,w.heap[b]?=some (.map es clock)/\es.toList.map (fun e=>(e.key,e.val))=l.map (fun p:Int × Int=>(Value.int .i64 p.1,Value.int .i64 p.2))/\l.length=n/\∀ k,pG l k=f k
theorem du.kept{A A':World} {b n:Nat} {f:Int->Option Int} (h:du A b f n) (he:A'.heap[b]?=A.heap[b]?):du A' b f n:=by
 obtain⟨es,clock,l,h1,hf⟩:=h;exact⟨es,clock,l,he.trans h1,hf⟩
theorem du.lt{w:World} {b n:Nat} {f:Int->Option Int} (h:du w b f n):b<w.heap.size:=by
 obtain⟨_,_,_,he,_⟩:=h;exact aC he
theorem du.up{A A':World} {b n:Nat} {f:Int->Option Int} (h:du A b f n) (hb:Below A.heap.size A A'):du A' b f n:=h.kept (hb.block b h.lt)
theorem du.other{A:World} {b n:Nat} {f:Int->Option Int} (h:du A b f n):∃ o,A.heap[b]?=some o/\o.isCells=false:=by
 obtain⟨es,clock,l,h1,_⟩:=h;exact⟨_,h1,rfl⟩
theorem du.congr{A:World} {b n m:Nat} {f g:Int->Option Int} (h:du A b f n) (hf:∀ k,f k=g k) (hn:n=m):du A b g m:=by
 obtain⟨es,clock,l,h1,h2,h3,h4⟩:=h;exact⟨es,clock,l,h1,h2,hn ▸ h3,fun k=>(h4 k).trans (hf k)⟩
theorem du.new(w:World):du (w.alloc (.map #[] 0)) w.heap.size (fun _=>none) 0:=⟨#[],0,[],ap w _,rfl,rfl,fun _=>rfl⟩
theorem Mf(k:Int) (d:TypeDesc) (hd:d=.int .i64):∀ (l:List (Int × Int)) (es:List MapEntry) (i:Nat),es.map (fun e=>(e.key,e.val))=l.map (fun p=>(Value.int .i64 p.1,Value.int .i64 p.2)) →
  (pG l k=none/\Instr.findNow d (.int .i64 k) es i=some none)\/∃ j x,pG l k=some x/\Instr.findNow d (.int .i64 k) es i=some (some (i+j,.int .i64 x))/\(l[j]?.map (·.1))=some k/\∀ y k',pG (l.modify j fun p=>(p.1,y)) k'=if k'=k then some y else pG l k'
 | [],es,i,h=>by
  obtain rfl:es=[]:=by simpa using h
  exact .inl ⟨rfl,rfl⟩
 | p :: l,es,i,h=>by
  cases es with
  | nil=>simp at h
  | cons e es=>
   simp only[List.map_cons,List.cons.injEq,Prod.mk.injEq]at h;obtain⟨⟨hk,hv⟩,h⟩:=h;subst hd;have hs:Instr.sameNow (.int .i64) (.int .i64 k) e.key=some (k == p.1):=by rw[hk];simp[Instr.sameNow]
   by_cases e1:k=p.1
   ·subst e1;refine .inr ⟨0,p.2,by simp[pG],by unfold Instr.findNow;rw[hs];simp[hv],rfl,fun y k'=>?_⟩;simp only[List.modify_zero_cons,pG,List.find?_cons];by_cases e2:k'=p.1
    ·simp[e2]
    ·simp[e2]
   ·have gV:Instr.sameNow (.int .i64) (.int .i64 k) e.key=some false:=by rw[hs];simpa using e1
    have e3:pG (p :: l) k=pG l k:=by simp[pG,e1]
    have hf:Instr.findNow (.int .i64) (.int .i64 k) (e :: es) i=Instr.findNow (.int .i64) (.int .i64 k) es (i+1):=by
     rw[Instr.findNow,gV]
    rcases Mf k (.int .i64) rfl l es (i+1) h with ⟨h1,h2⟩|⟨j,x,h1,h2,h3,h4⟩
    ·exact .inl ⟨by rw[e3];exact h1,by rw[hf];exact h2⟩
    ·refine .inr ⟨j+1,x,by rw[e3];exact h1,by rw[hf,h2,show i+1+j=i+(j+1) by omega],by simpa using h3,fun y k'=>?_⟩;have h5:=h4 y k';simp only[List.modify_succ_cons,pG,List.find?_cons]at h5 ⊢;by_cases e2:k'=p.1
     ·subst e2;rw[if_neg (fun e=>e1 e.symm)];simp
     ·simp only[e2,decide_false];exact h5
theorem Mg{P:Program} {kt:TypeId} (hk:P.underlying kt=some (.int .i64)) (k:Int) (es:List MapEntry) (w:World) (r:Option (Nat × Value)) (h:Instr.findNow (.int .i64) (.int .i64 k) es 0=some r):(Instr.findKey kt (.int .i64 k) es).run P w=.ok r w:=by
 unfold Instr.findKey;simp[Sem.run_bind,run_underlying hk,h]
theorem B2{P:Program} {kt:TypeId} (hk:P.underlying kt=some (.int .i64)) (em:Bool) (k:Int) (w:World):(Instr.checkKey em 10000 kt (.int .i64 k)).run P w=.ok () w:=by
 unfold Instr.checkKey;simp[Sem.run_bind,run_underlying hk]
section
variable {P : Program} {kt mt vt : TypeId} {w : World} {b n : Nat} {f : Int → Option Int}
theorem DO(hm:P.underlying mt=some (.map kt vt)) (hk:P.underlying kt=some (.int .i64)) (hz:∀ w,(zeroValue vt).run P w=.ok (.int .i64 0) w) (h:du w b f n) (k:Int) :
  (Instr.lookup mt (.map (some b)) (.int .i64 k) true).run P w=.ok (.tuple #[.int .i64 ((f k).getD 0),.bool (f k).isSome]) w:=by
 obtain⟨es,clock,l,hb,iY,_,hf⟩:=h;have hg:(getObj b).run P w=.ok (.map es clock) w:=by simp[getObj,Sem.run,hb]
 rw[<-hf k];unfold Instr.lookup;rcases Mf k _ rfl l es.toList 0 iY with ⟨h1,h2⟩|⟨j,x,h1,h2,_⟩
 ·simp[Sem.run_bind,run_underlying hm,hg,B2 hk,Mg hk k _ w _ h2,hz,h1]
 ·simp[Sem.run_bind,run_underlying hm,hg,B2 hk,Mg hk k _ w _ h2,h1]
theorem Ym(h:du w b f n):∃ es clock,w.heap[b]?=some (.map es clock)/\es.size=n:=by
 obtain⟨es,clock,l,hb,iY,hl,_⟩:=h;refine⟨es,clock,hb,?_⟩;have:=congrArg List.length iY;simpa[hl] using this
theorem UT(hm:P.underlying mt=some (.map kt vt)) (ty:TypeId) (h:du w b f n):(Builtin.len_ #[mt] ty #[.map (some b)]).run P w=.ok (.int .i64 (n:Int)) w:=by
 obtain⟨es,clock,hb,hn⟩:=Ym h;have hg:(getObj b).run P w=.ok (.map es clock) w:=by simp[getObj,Sem.run,hb]
 subst hn;simp[Builtin.len_,run_underlying hm,hg,goInt,Result.andThen]
theorem uG(hm:P.underlying mt=some (.map kt vt)) (hk:P.underlying kt=some (.int .i64)) (h:du w b f n) (k x:Int) :
  ∃ o,(Instr.mapUpdate mt (.map (some b)) (.int .i64 k) (.int .i64 x)).run P w=.ok () (w.putObj b o)/\du (w.putObj b o) b (fun j=>if j=k then some x else f j) (if (f k).isSome then n else n+1):=by
 obtain⟨es,clock,l,hb,iY,hl,hf⟩:=h;have hg:(getObj b).run P w=.ok (.map es clock) w:=by simp[getObj,Sem.run,hb]
 have hs:∀ o,(setObj b o).run P w=.ok () (w.putObj b o):=fun o=>by simp[setObj,Sem.run,hb,World.putObj]
 rw[<-hf k];rcases Mf k _ rfl l es.toList 0 iY with ⟨h1,h2⟩|⟨j,y,h1,h2,h3,h4⟩
 ·refine⟨.map (es.push { key:=.int .i64 k,val:=.int .i64 x,born:=clock }) (clock+1),?_,es.push { key:=.int .i64 k,val:=.int .i64 x,born:=clock },clock+1,l++[(k,x)],World.putObj_heap_same (aC hb),by simp[iY],by rw[h1];simp[hl],fun j=>?_⟩
  ·unfold Instr.mapUpdate;simp[Sem.run_bind,run_underlying hm,hg,B2 hk,Mg hk k _ w _ h2,hs]
  ·unfold pG at h1 ⊢;rw[List.find?_append]
   show Option.map _ _=if j=k then some x else f j
   by_cases e:j=k
   ·subst e;rw[Option.map_eq_none_iff]at h1;simp[h1]
   ·rw[if_neg e,<-hf j];unfold pG;cases l.find? fun p=>decide (j=p.1)<;>simp[e]
 ·rw[Nat.zero_add]at h2;have cP:es.toList.length=l.length:=by simpa using congrArg List.length iY
  have hj:j<l.length:=by
   apply Classical.byContradiction;intro hj;rw[List.getElem?_eq_none (by omega)]at h3;simp at h3
  have hje:j<es.size:=by simpa using (show j<es.toList.length by omega)
  have mO:es[j].key=.int .i64 k:=by
   have h5:=congrArg (fun L=>L[j]?) iY;simp only[List.getElem?_map,List.getElem?_eq_getElem hj,List.getElem?_eq_getElem (show j<es.toList.length by omega)]at h5 h3;simp only[Option.map_some,Option.some.injEq,Prod.mk.injEq,Array.getElem_toList]at h5 h3;rw[h5.1,h3]
  refine⟨.map (es.modify j fun e=>{ e with key:=.int .i64 k,val:=.int .i64 x }) clock,?_,es.modify j fun e=>{ e with key:=.int .i64 k,val:=.int .i64 x },clock,l.modify j fun p=>(p.1,x),World.putObj_heap_same (aC hb),?_,by rw[h1];simp[hl],fun j'=>by rw[h4 x j',hf]⟩
  ·unfold Instr.mapUpdate
   have dS:(Instr.keyThatStays (.int .i64 k) (.int .i64 k)).run P w=.ok (.int .i64 k) w:=by
    unfold Instr.keyThatStays;rw[if_pos (by simp[Instr.sameBits])];rfl
   simp[Sem.run_bind,run_underlying hm,hg,B2 hk,Mg hk k _ w _ h2,hs,hje,mO,dS]
  ·apply List.ext_getElem?;intro i;have h5:=congrArg (fun L=>L[i]?) iY;simp only[List.getElem?_map]at h5 ⊢;rw[List.getElem?_modify,Array.getElem?_toList,Array.getElem?_modify];rw[Array.getElem?_toList]at h5;by_cases e:j=i
   ·subst e;simp only[if_pos,List.getElem?_eq_getElem hj,Array.getElem?_eq_getElem hje,Option.map_some,Option.some.injEq,Prod.mk.injEq]at h5 ⊢;rw[List.getElem?_eq_getElem hj]at h3;simp only[Option.map_some,Option.some.injEq]at h3;simp[h3]
   ·simp only[if_neg e];cases h6:l[i]? with
    | none=>rw[h6]at h5;exact h5
    | some q=>rw[h6]at h5;exact h5
end
structure OwnQ (w:World) (g:Nat) (e:TypeId) (v:Value) (n:Nat) (xs:List Value):Prop where
 len:xs.length=n
 ex:∃ off cap,v=.slice (some ⟨g,off,none⟩) n cap/\n<=cap/\cap<=maxLen/\(cap=0\/∃ cur fz,w.heap[g]?=some (.cells cur e fz)/\(∀ i,i<cur.size->¬ (fz.1<=i/\i<fz.2))/\cur.size=off+cap/\(cur.toList.drop off).take n=xs)
theorem OwnQ.up{w w':World} {g:Nat} {e:TypeId} {v:Value} {n:Nat} {xs:List Value} (h:OwnQ w g e v n xs) (hb:w'.heap[g]?=w.heap[g]?\/g ≥ w.heap.size):OwnQ w' g e v n xs:=by
 obtain⟨off,cap,h1,h2,h3,h4⟩:=h.ex;refine⟨h.len,off,cap,h1,h2,h3,?_⟩;rcases h4 with h4|⟨cur,fz,h5,h6⟩
 ·exact .inl h4
 ·rcases hb with hb|hb
  ·exact .inr ⟨cur,fz,hb.trans h5,h6⟩
  ·have:=aC h5;omega
structure GrowQ (g:Nat) (w w':World):Prop where
 os:w'.os=w.os
 tape:w'.tape=w.tape
 output:w'.output=w.output
 size:w.heap.size<=w'.heap.size
 same:∀ k,k<w.heap.size->k≠g->w'.heap[k]?=w.heap[k]?
theorem GrowQ.below{g n:Nat} {w0 w w':World} (h:GrowQ g w w') (hb:Below n w0 w) (hn:n<=w.heap.size) (hg:n<=g):Below n w0 w':=
 ⟨h.os.trans hb.os,h.tape.trans hb.tape,h.output.trans hb.output,Nat.le_trans hb.size h.size,fun k hk=>(h.same k (by omega) (by omega)).trans (hb.block k hk)⟩
theorem GrowQ.keep{g:Nat} {w w':World} (h:GrowQ g w w') {k:Nat} {o:Obj} (hk:w.heap[k]?=some o) (hg:k≠g):w'.heap[k]?=some o:=(h.same k (aC hk) hg).trans hk
section
variable {P : Program} (w : World)
theorem Hx(t ty e:TypeId) (i:TypeInfo) (z:Value) (bytes:Nat) (ht:P.underlying t=some (.slice e)) (hi:P.info? e=some i) (hz:i.zero=some z)
  (fc:i.size=1) (gM:i.bytes=bytes) (nV:z.cells.size=1)
  (g:Nat) (v:Value) (n:Nat) (xs:List Value) (bg:OwnQ w g e v n xs)
  (a:Addr) (c:Nat) (u:Value) (bT:∀ j x,[u][j]?=some x->w.cell? (a.add j)=some x) (h1:u.oneCell'=true)
  (oY:n+1<=maxLen) (gF:(n+1) * bytes<=140737488355328) :
  ∃ v' w' g',(Builtin.append_ #[t,t] ty #[v,.slice (some a) 1 c]).run P w=.ok v' w'/\OwnQ w' g' e v' (n+1) (xs++[u])/\GrowQ g w w'/\(g'=g/\g<w.heap.size\/g'=w.heap.size):=by
 obtain⟨off,cap,rfl,iL,qz,h⟩:=bg.ex;have iN:=bg.len;by_cases mz:n+1<=cap
 ·rcases h with h|⟨cur,fz,hg,nf,jH,nj⟩
  ·omega
  have hr:=run_append_room_cells (P:=P) w t ty e i ht hi g off n cap a 1 c [u] (by simp[fc]) bT (by simpa using h1) mz (fun j hj=>by
    rw[fc,Nat.mul_one,ab hg];simp at hj;simp
    omega)
   (fun j hj=>by
    simp at hj;simp only[World.frozen?,hg];have:=nf (off+n * i.size+j) (by rw[fc];omega)
    simpa using this)
  rw[fc,Nat.mul_one]at hr;have fU:w.setCells g (off+n) [u]=w.setCell ⟨g,off+n,none⟩ u:=rfl;rw[fU]at hr;refine⟨_,_,g,hr,⟨by simp[iN],off,cap,rfl,mz,qz,.inr ⟨_,fz,aI hg _ _,fun i hi=>nf i (by simpa using hi),by simpa using jH,?_⟩⟩,⟨rfl,rfl,rfl,by simp,fun k _ hk=>Below.heap_setCell _ _ _ _ hk⟩,.inl ⟨rfl,aC hg⟩⟩;rw[Array.toList_setIfInBounds,List.drop_set,if_neg (by omega),Nat.add_sub_cancel_left,List.take_succ_eq_append_getElem (by simp;omega),List.take_set_of_le (Nat.le_refl _),nj,List.getElem_set_self]
 ·have Dk:∀ j x,xs[j]?=some x->w.cell? ((⟨g,off,none⟩:Addr).add j)=some x:=fun j x hx=>by
   have hj:=(List.getElem?_eq_some_iff.1 hx).1;rcases h with h|⟨cur,fz,hg,nf,jH,nj⟩
   ·omega
   have e1:((⟨g,off,none⟩:Addr).add j)=⟨g,off+j,none⟩:=by unfold Addr.add;split<;>simp_all
   rw[e1,ab hg];rw[<-nj,List.getElem?_take,if_pos (by omega),List.getElem?_drop]at hx;simpa using hx
  have hr:=run_append_grow (P:=P) w t ty e i z ht hi hz ⟨g,off,none⟩ n cap xs (by rw[fc,iN,Nat.mul_one]) Dk a 1 c [u] (by simp[fc]) bT (by omega) (by simp only[maxLen]at oY;omega) (growslice_fits (by omega) (by rw[gM];exact gF));obtain⟨v',w',q1,q2,q3⟩:=run_append_arg_grows (P:=P) w t ty e i z i.size i.bytes ht hi hz rfl rfl (by rw[fc,nV]) (by omega) ⟨g,off,none⟩ n cap xs (by rw[fc,iN,Nat.mul_one]) Dk a 1 c [u] (by simp[fc]) bT (by omega) oY (by rw[gM];exact gF);have e1:=hr.symm.trans q1;injection e1 with e1 e2
  subst e1 e2;have q4:=aJ.of_owns q2;rw[fc]at q4;refine⟨_,_,w.heap.size,hr,⟨by simp[iN],?_⟩,⟨q3.os,q3.tape,q3.output,q3.size,fun k hk _=>q3.block k hk (by simp)⟩,.inr rfl⟩;rcases q4.2 with ⟨hn,_⟩|⟨g',cap',cur,fz,hv,_,hg,nf,hnc',hcm',jH,nj⟩
  ·cases hn
  ·injection hv with jW _ QB
   injection jW with jW
   injection jW with jW
   subst jW QB;exact⟨0,_,rfl,hnc',hcm',.inr ⟨cur,fz,hg,nf,by omega,by rw[List.drop_zero,<-nj,Nat.mul_one]⟩⟩
theorem zQ{F:Fence} {d:Nat} {ops:Array Oper} {rest:List Oper} {o:Oper} {a:Act} {Q:Exit->Act->World->Prop} (lB:o.guard=none) (s x:Operand) (t:TypeId)
  (ho:o.op=.call { callee:=.builtin .append,args:=#[s,x],argTypes:=#[t,t] })
  (e:TypeId) (i:TypeInfo) (z:Value) (bytes:Nat) (ht:P.underlying t=some (.slice e)) (hi:P.info? e=some i) (hz:i.zero=some z)
  (fc:i.size=1) (gM:i.bytes=bytes) (nV:z.cells.size=1)
  (g:Nat) (v:Value) (n:Nat) (xs:List Value) (hs:a.eval s=v) (bg:OwnQ w g e v n xs)
  (ad:Addr) (c:Nat) (u:Value) (hx:a.eval x=.slice (some ad) 1 c) (bT:∀ j x,[u][j]?=some x->w.cell? (ad.add j)=some x) (h1:u.oneCell'=true)
  (oY:n+1<=maxLen) (gF:(n+1) * bytes<=140737488355328)
  (h:∀ v' w' g',OwnQ w' g' e v' (n+1) (xs++[u])->GrowQ g w w'->(g'=g/\g<w.heap.size\/g'=w.heap.size)->wpListIn F d P ops Q rest (a.put o.dst v') w'):wpListIn F d P ops Q (o :: rest) a w:=by
 refine wpListIn_plain lB fun K hK'=>?_
 obtain⟨v',w',g',SI,r1,r2,r3⟩:=Hx (P:=P) w t o.type e i z bytes ht hi hz fc gM nV g v n xs bg ad c u bT h1 oY gF;unfold Oper.wpIn;refine⟨?_,?_⟩
 ·simp[Oper.about,ho,resolve,Target.leads,Sem.run_pure]
 ·rw[Oper.semAt_plain F _ _ (by rw[ho];intro c kU;cases kU)];simp[execOp,ho,resolve,invoke,builtin,hs,hx,SI,Result.andThen];exact hK' _ _ (h v' w' g' r1 r2 r3)
end
theorem OwnQ.tail{w:World} {g:Nat} {e:TypeId} {off n cap:Nat} {x:Value} {xs:List Value} (h:OwnQ w g e (.slice (some ⟨g,off,none⟩) (n+1) cap) (n+1) (x :: xs)):OwnQ w g e (.slice (if cap=1 then some ⟨g,off,none⟩ else some ⟨g,off+1,none⟩) n (cap - 1)) n xs:=by
 have hl:=h.len;obtain⟨off',cap',hv,h2,h3,h4⟩:=h.ex;injection hv with e1 _ e3
 injection e1 with e1
 injection e1 with _ e1
 subst e1 e3;simp at hl;rcases h4 with h4|⟨cur,fz,h5,h6,h7,h8⟩
 ·omega
 by_cases hc:cap=1
 ·subst hc;obtain rfl:n=0:=by omega
  have:xs=[]:=List.eq_nil_of_length_eq_zero hl;subst this;exact⟨rfl,off,0,by simp,by omega,by omega,.inl rfl⟩
 ·refine⟨hl,off+1,cap - 1,by rw[if_neg hc],by omega,by omega,.inr ⟨cur,fz,h5,h6,by omega,?_⟩⟩;rw[show off+1=1+off by omega,<-List.drop_drop];have h9:=congrArg (List.drop 1) h8;rw[List.drop_take,Nat.add_sub_cancel]at h9;simpa using h9
end Go.Proofs.YtmeaoneaephjeaaGreatDoor
namespace Go.Proofs.YtmeaoneaephjeaaGreatDoor
open Go.RowKit Go Go.Shelf
attribute [local go_sem] Oper.semAt_some
theorem bu(w:World) (a b:Obj):((w.alloc a).alloc b).heap[w.heap.size+1]?=some b:=by simpa using ap (w.alloc a) b
theorem eD(w:World) (a b c:Obj):(((w.alloc a).alloc b).alloc c).heap[w.heap.size+1+1]?=some c:=by simpa using ap ((w.alloc a).alloc b) c
theorem jm(tmps:Array Value) (B:Nat) (W:World) (x:Int) (ty:TypeId) (ht:tmps[2]?.getD undef=.pointer (some ⟨B,0,none⟩)) (hb:W.heap[B]?=some (.cells #[.int .i64 x] ty)) :
  (results Tryz.f211 tmps).run Tryz.prog W=.ok (.int .i64 x) W:=by
 have c:=ab hb 0;simp at c;simp[results,Tryz.results211,go_sem,ht,c]
theorem xQ(a:Adv) (v:Value) (w:World) (hv:bz w v a.states) (hN:movesN a.states<1099511627776) :
  Calls Tryz.prog 211 #[.agg #[.int .i64 a.n,v]] w fun e w'=>e=.returned (.int .i64 (advE a))/\Below w.heap.size w w':=by
 have G:=aa hv;obtain⟨pa,ca,rfl,la1,la2,ea⟩:=hv.at;clear hv;have E:=aa ea;clear ea;refine gc Tryz.func211 rfl ?_;simp only[Tryz.ntmps211,List.size_toArray,List.length_cons,List.length_nil,Nat.reduceAdd,Nat.reduceSub,Array.replicate_succ,Array.replicate_zero,List.push_toArray,List.append_toArray,List.nil_append,List.cons_append];by_cases hn:a.n<1\/5<a.n
 ·have HV:am (advE a=2):=by(have h:advE a=2:=by(unfold advE;rw[if_pos hn]));exact h
  rcases hn with hn|hn
  ·go_wp2_with fail
   refine iu (jm _ _ _ 2 _ rfl (bu _ _ _)) ?_;exact⟨aG HV.o.symm,by go_grown⟩
  ·go_wp2_with fail
   refine iu (jm _ _ _ 2 _ rfl (bu _ _ _)) ?_;exact⟨aG HV.o.symm,by go_grown⟩
 have jZ:1<=a.n:=by omega
 have n':a.n<=5:=by omega
 have HV:am (advE a=if sizedE a≠0 then sizedE a else if bm a.states.length (fun s=>stateE a (a.states.getD s []))≠0 then bm a.states.length (fun s=>stateE a (a.states.getD s [])) else if growsB a then 0 else 21):=by
  have h:advE a=if sizedE a≠0 then sizedE a else if bm a.states.length (fun s=>stateE a (a.states.getD s []))≠0 then bm a.states.length (fun s=>stateE a (a.states.getD s [])) else if growsB a then 0 else 21:=by
   unfold advE sizedE;rw[if_neg hn];grind
  exact h
 clear hn
 go_wp2_with fail
 refine aQ (fun W=>Below w.heap.size w W/\W.heap[w.heap.size]?=some (.cells #[.int .i64 a.n,.slice pa a.states.length ca] 27)/\W.heap[w.heap.size+1]?=some (.cells #[.int .i64 0] 39)) ⟨by go_grown,aq _ (ap _ _),bu _ _ _⟩ (fun W0 bd=>?_);obtain⟨aK,bK,gr⟩:=bd;refine(OK a _ W0 (G.o.up up_moves aK) hN).mono ?_;rintro e w1 ⟨rfl,aM⟩;have eO:=af aM bK;have rZ:=af aM gr;have jl:=ae aK aM;have c1:=ab rZ 0;have f1:=aH rZ 0;simp at c1;have t1:=ab eO;generalize sizedE a=es at HV;have dP:=aa eO;have dd:=aa rZ;clear bK gr aK aM W0 eO rZ;by_cases iY:es=0
 case neg=>
  have hes':(es != 0)=true:=by simpa using iY
  go_wp2_with fail
  refine iu (jm _ _ _ es _ rfl (by rw[aI dd.o];rfl)) ?_;exact⟨aG (by rw[HV.o,if_pos iY]),jl.setCell (by simp) _⟩
 subst iY
 go_wp2_with fail
 clear t1 c1 f1
 go_loopw [27] (fun i wr=>Below w1.heap.size w1 wr/\∃ k:Nat,k<=a.states.length/\i=.int .i64 k/\∀ j,j<k->stateE a (a.states.getD j [])=0) (fun i _=>a.states.length - (intOf i).toNat)
 case atStart=>exact⟨Below.refl _ _,0,by omega,rfl,by simp⟩
 case round=>
  obtain⟨aA,k,hk,rfl,aU⟩:=hrel;have H:=aa aU;clear aU;have dG:=ae jl aA;have tU:=af aA dP.o;have TJ:=af aA dd.o;have t1:=ab tU;by_cases aB:k<a.states.length
  ·obtain⟨b1,o1,rfl,x,cx,hx⟩:=E.o k aB;rw[Nat.mul_one]at cx;have d1:=ak dG cx;have HX:=aa (hx.up up_move dG);obtain⟨px,qx,rfl,_⟩:=hx;clear cx;have Tu:=aa TJ;clear tU TJ
   go_wp2_with fail
   refine(ON a _ _ _ _ _ HX.o).mono ?_;rintro e w2 ⟨rfl,aZ⟩;have l9:=af aZ Tu.o;have c1:=ab l9 0;have f1:=aH l9 0;simp at c1;have eJ:=aa l9;clear l9;have HS:am (stateE a (a.states.getD k [])=stateE a a.states[k]):=by(have h:stateE a (a.states.getD k [])=stateE a a.states[k]:=by(rw[az [] aB]));exact h
   generalize stateE a a.states[k]=ek at HS;clear t1 d1;by_cases tm:ek=0
   ·subst tm
    go_wp2_with fail
    go_roundw
    ·exact⟨ae aA aZ,k+1,by omega,by go_num,aV H.o HS.o⟩
    ·simp[intOf];omega
   ·have SC:(ek != 0)=true:=by simpa using tm
    go_wp2_with fail
    refine iu (jm _ _ _ ek _ rfl (by rw[aI eJ.o];rfl)) ?_;exact⟨aG (by rw[HV.o,if_neg (by simp),<-bV (f:=fun s=>stateE a (a.states.getD s [])) k ek aB H.o HS.o tm,if_pos tm]),(ae dG aZ).setCell (by simp) _⟩
  ·have aT:∀ j,j<a.states.length->stateE a (a.states.getD j [])=0:=fun j hj=>H.o j (by omega)
   have dg:am (advE a=if growsB a then 0 else 21):=by
    have h:advE a=if growsB a then 0 else 21:=by rw[HV.o,if_neg (by simp),cU _ _ aT];simp
    exact h
   have mP:=aa aT;clear aT H HV;have HAr:=aa tU;have Tu:=aa TJ;clear tU TJ
   go_wp2_with fail
   refine(xO _ _ _ _ _).mono ?_;rintro e w2 ⟨rfl,rfl⟩;clear t1
   go_wp2_with fail
   refine bF (fun W=>Below w.heap.size w W/\W.heap[w.heap.size]?=some (.cells #[.int .i64 a.n,.slice pa a.states.length ca] 27)/\W.heap[w.heap.size+1]?=some (.cells #[.int .i64 0] 39)/\W.heap[wr.heap.size]?=some (.cells #[.int .i64 a.n,.slice pa a.states.length ca] 27))
    ⟨dG.alloc dG.size _,aq _ HAr.o,aq _ Tu.o,ap _ _⟩ (fun W0 bd=>?_)
   obtain⟨aK,hA,hR,hX⟩:=bd;have dk:=vZ w _ a.states G.o W0 aK wr.heap.size (by simp[ab hX]);have eQ:=aC hX;have hsw:=dG.size;have hsR:=aC Tu.o
   refine mD (gf:=221) (lb:=#[.pointer (some ⟨wr.heap.size,0,none⟩)]) rfl (enters_of Tryz.func221 (by kernel_rfl) rfl) dk (Below.refl _ _) (fun k hk=>Nat.lt_of_lt_of_le hk aK.size) (fun i=>rfl)
    (fun i W=>Below w.heap.size w W/\W.heap[w.heap.size]?=some (.cells #[.int .i64 a.n,.slice pa a.states.length ca] 27)/\W.heap[w.heap.size+1]?=some (.cells #[.int .i64 0] 39)/\∀ j,j<i->pO a j=false)
    (fun c _ W=>c=.ret/\Below w.heap.size w W/\W.heap[w.heap.size+1]?=some (.cells #[.int .i64 21] 39)/\growsB a=false)
    (fun i=>(cN.below (by omega)).and (cN.cells.and (cN.cells.and cN.pure))) (fun c i=>cN.pure.and ((cN.below (by omega)).and (cN.cells.and cN.pure))) ⟨aK,hA,hR,by simp⟩ ?round ?done ?stop
   case round=>
    intro yl i W hi hl hI;unfold Hv;have fV:=UJ mP.o hi;have HB:am (pO a i=anyLt (ny a i).length fun k=>!iR (mvAt a.states i).2.r.f ((ny a i).getD k default).r.f):=by(have h:pO a i=anyLt (ny a i).length fun k=>!iR (mvAt a.states i).2.r.f ((ny a i).getD k default).r.f:=rfl);exact h
    have QD:am (ny a i=a.states.getD (mvAt a.states i).2.to.toNat []):=by(have h:ny a i=a.states.getD (mvAt a.states i).2.to.toNat []:=rfl);exact h
    generalize mvAt a.states i=sm at fV HB QD;obtain⟨sx,m⟩:=sm;dsimp only at fV HB QD;obtain⟨⟨gW,fN⟩,ht0,ht1⟩:=fV;have HI:=aa hI;clear hI;have Su:=HI.o.1.size
    gi_wp2
    refine⟨Bod.of_below (fun k hk=>Nat.lt_of_lt_of_le hk Su) (by go_grown),(fun W'=>Below w.heap.size w W'/\W'.heap[w.heap.size]?=some (.cells #[.int .i64 a.n,.slice pa a.states.length ca] 27)/\W'.heap[w.heap.size+1]?=some (.cells #[.int .i64 0] 39)/\W'.heap[W.heap.size]?=some (.cells #[.int .i64 m.r.g.n,.int .i64 m.r.g.h0,.int .i64 m.r.g.h1,.int .i64 m.r.g.h2,.int .i64 m.r.g.h3,.int .i64 m.r.g.h4,.int .i64 m.r.f,.int .i64 m.to] 143)),
     (cN.below (by omega)).and (cN.cells.and (cN.cells.and cN.cells)),⟨HI.o.1.alloc Su _,aq _ HI.o.2.1,aq _ HI.o.2.2.1,ap _ _⟩,fun W2 h2 _=>?_⟩
    obtain⟨g1,g2,g3,g4⟩:=h2;have qK:=aa HI.o.2.2.2;have IE:=g1.size;have hszR:=aC g3;have hszM:=aC g4;have tA:=ab g2;have tM:=ab g4;have nT:=aa g1;have Cy:=aa g3;have rX:=aa g2;have TU:=aa g4;clear g1 g2 g3 g4 HI dk hA hR hX;obtain⟨b1,o1,rfl,x,cx,hx⟩:=E.o m.to.toNat (by omega);have HL:am (ny a i=a.states[m.to.toNat]):=by(have h:ny a i=a.states[m.to.toNat]:=by(rw[QD.o,az [] (by omega)]));exact h
    rw[Nat.mul_one]at cx;have d1:=ak nT.o cx;obtain⟨p2,c2,rfl,m1,m2,e2⟩:=hx.at;clear hx cx;have E2:=aa e2;clear e2;generalize hLL:a.states[m.to.toNat]=L at HL E2 d1 m1 m2;have kW:=aa hLL;clear hLL
    gi_wp2
    clear tA tM d1
    gi_loopw [49] (fun i wr=>Below W2.heap.size W2 wr/\∃ q:Nat,q<=L.length/\i=.int .i64 q/\∀ j,j<q->iR m.r.f (L.getD j default).r.f=true) (fun i _=>L.length - (intOf i).toNat)
    case atStart=>exact⟨Below.refl _ _,0,by omega,rfl,by simp⟩
    case round=>
     obtain⟨jV,q,hq,rfl,pU⟩:=hrel;have H2:=aa pU;clear pU;have tM:=ab (af jV TU.o);have Dt:=af jV Cy.o;have c1':=ab Dt 0;have f1':=aH Dt 0;simp at c1';have gp:=aa Dt;clear Dt;have kJ:=ae nT.o jV;have gV:=jV.size;have rN:W.heap.size<wr.heap.size:=by omega
     have hR3':w.heap.size+1<wr.heap.size:=by omega
     by_cases AM:q<L.length
     ·have Nr:0<=L[q].r.f/\L[q].r.f<32:=by
       have:=(lf mP.o (s:=m.to.toNat) (j:=q) (by omega) (by rw[kW.o];exact AM)).1;simpa[kW.o] using this
      have WU:am (L.getD q default=L[q]):=az default AM;obtain⟨b2,o2,rfl,⟨⟨c0,_⟩,⟨c1,_⟩,⟨c2,_⟩,⟨c3,_⟩,⟨c4,_⟩,⟨c5,_⟩,⟨c6,_⟩⟩,c7,_⟩:=E2.o q AM;have d0:=ak kJ c0;have d1:=ak kJ c1;have d2:=ak kJ c2;have d3:=ak kJ c3;have d4:=ak kJ c4;have d5:=ak kJ c5;have d6:=ak kJ c6;have d7:=ak kJ c7;clear c0 c1 c2 c3 c4 c5 c6 c7;generalize L[q]=y at Nr WU d0 d1 d2 d3 d4 d5 d6 d7;have gJ:=Gj m.r.f y.r.f gW fN Nr.1 Nr.2;clear Nr;cases cY:iR m.r.f y.r.f with
      | true=>
       rw[cY]at gJ;have jf:=aa cY;clear cY
       gi_wp2
       go_roundw
       ·exact⟨jV.alloc jV.size _,q+1,by omega,by go_num,aV H2.o (by rw[WU.o];exact jf.o)⟩
       ·simp[intOf];omega
      | false=>
       rw[cY]at gJ;have jf:=aa cY;clear cY
       gi_wp2
       refine⟨((Bod.of_below (fun k hk=>Nat.lt_of_lt_of_le hk IE) jV).trans (Bod.setCell _ ⟨w.heap.size+1,0,none⟩ _ (fun h=>by dsimp only at h;omega))).trans (Bod.of_below (fun k hk=>by simp only[World.size_setCell];omega) (by go_grown)),rfl,(kJ.setCell (p:=⟨w.heap.size+1,0,none⟩) (by dsimp only;omega) _).alloc (by simp only[World.size_setCell];omega) _,?_,?_⟩
       ·exact aq _ (by rw[aI gp.o];rfl)
       ·unfold growsB;rw[dV _ i _ hi (by rw[HB.o,HL.o];exact dV _ q _ AM (by rw[WU.o,jf.o];rfl))];rfl
     ·gi_wp2
      refine⟨Bod.of_below (fun k hk=>Nat.lt_of_lt_of_le hk IE) jV,kJ,af jV rX.o,gp.o,aV qK.o ?_⟩;rw[HB.o,HL.o];exact eR _ _ (fun j hj=>by rw[H2.o j (by omega)];rfl)
   case done=>
    intro D W hD hI hK;obtain⟨g1,g2,g3,g4⟩:=hI;have HG:=aa (And.intro g1 (And.intro g2 (And.intro g3 g4)));have c1:=ab g3 0;have f1:=aH g3 0;simp at c1;clear g1 g2 g3 g4 dk hA hR hX
    go_wp2_with fail
    refine iG (by rw[<-hK];exact Below.heap_setCell _ _ _ _ (by dsimp only;omega)) (jm _ _ _ 0 _ rfl ((World.putObj_heap_other (by omega)).trans (by rw[aI HG.o.2.2.1];rfl))) ?_;refine⟨aG ?_,eT (by omega) (HG.o.1.setCell (by simp) _)⟩;rw[dg.o];unfold growsB;rw[eR _ _ HG.o.2.2.2];rfl
   case stop=>
    rintro D c i W hD hi ⟨rfl,g1,g2,g3⟩ hK;have HG:=aa (And.intro g1 (And.intro g2 g3));clear g1 g2 g3 dk hA hR hX
    go_wp2_with fail
    refine iG hK (jm _ _ _ 21 _ rfl ((World.putObj_heap_other (by omega)).trans HG.o.2.1)) ?_;exact⟨aG (by rw[dg.o,HG.o.2.2];rfl),eT (by omega) HG.o.1⟩
abbrev Rd.c(r:Rd):Array Value:=#[.int .i64 r.g.n,.int .i64 r.g.h0,.int .i64 r.g.h1,.int .i64 r.g.h2,.int .i64 r.g.h3,.int .i64 r.g.h4,.int .i64 r.f]
theorem E8(l:List Int) (i:Nat) (h:i<l.length):(bD l)[i]?=some (.int .i64 (l.getD i 0)):=by
 unfold bD;rw[List.getElem?_toArray,List.getElem?_map,List.getElem?_eq_getElem h,List.getD_eq_getElem?_getD,List.getElem?_eq_getElem h];rfl
theorem OO(l:List Int) (s:Nat) (z:Int):(bD l).setIfInBounds s (.int .i64 z)=bD (l.set s z):=by
 unfold bD;rw[List.setIfInBounds_toArray,List.map_set]
theorem cN.marks{B B0:Nat} {Ds:List Nat} (h:∀ D∈Ds,D<B):cN B (fun W=>cV B0 Ds W):=fun _ _ c x=>⟨x.1,fun D hD=>⟨(x.2 D hD).1,c.same _ _ (x.2 D hD).2 (.inl (h D hD))⟩⟩
theorem cV.lt{B:Nat} {Ds:List Nat} {W:World} (h:cV B Ds W):∀ D∈Ds,D<W.heap.size:=fun D hD=>aC (h.2 D hD).2
theorem Gs(a:Adv) (v:Value) (k:Nat) (L:Int) (w:World) (hv:bz w v a.states) (h1:1<=a.states.length) (h2:a.states.length<=256) (aT:∀ j,j<a.states.length->stateE a (a.states.getD j [])=0) (hk:k<=6) (hL:0<=L) (hL2:L<=1048576) :
  Calls Tryz.prog 212 #[.agg #[.int .i64 a.n,v],.int .i64 k,.int .i64 L] w fun e w'=>e=.returned (.int .i64 (numberL L a k))/\Below w.heap.size w w':=by
 have G:=aa hv;obtain⟨pa,ca,rfl,la1,la2,ea⟩:=hv.at;clear hv ea;have mP:=aa aT;clear aT;refine gc Tryz.func212 rfl ?_;simp only[Tryz.ntmps212,List.size_toArray,List.length_cons,List.length_nil,Nat.reduceAdd,Nat.reduceSub,Array.replicate_succ,Array.replicate_zero,List.push_toArray,List.append_toArray,List.nil_append,List.cons_append]
 go_wp2_with fail
 refine aQ (fun W=>Below w.heap.size w W/\W.heap[w.heap.size]?=some (.cells #[.int .i64 a.n,.slice pa a.states.length ca] 27)/\W.heap[w.heap.size+1]?=some (.cells #[.int .i64 L] 3)/\W.heap[w.heap.size+1+1]?=some (.cells #[.int .i64 1] 3)) ⟨by go_grown,aq _ (aq _ (ap _ _)),aq _ (bu _ _ _),eD _ _ _ _⟩ (fun W0 bd=>?_);obtain⟨aK,bK,gr,hH⟩:=bd;refine(v7 1 a.states.length h1 (by omega) _ W0 hH).mono ?_;rintro e w1 ⟨rfl,cA,aM⟩
 go_wp2_with fail
 have jl:=ae aK aM;have eO:=af aM bK;have rZ:=af aM gr;have cH:=aK.size;have cj:=aM.size;have Xi:=aC hH
 refine wp_loop (fun act W=>∃ (q:Nat) (Ds:List Nat) (cb:Nat) (u8 u9 u10 u18 u19 u20 u21 u22 u23 u24 u25 u26 u27 u28 u29 u30 u31 u32 u33 u34 u35 u36 u37 u38 u39 u40 u41 u42 u43 u44 u45 u46:Value),
   act={ tmps:=#[Value.agg #[Value.int IntKind.i64 a.n,Value.slice pa a.states.length ca],Value.int IntKind.i64 k,Value.int IntKind.i64 L,Value.pointer (some ⟨w.heap.size,0,none⟩),undef,Value.pointer (some ⟨w.heap.size+1,0,none⟩),Value.int IntKind.i64 0,Value.pointer (some ⟨w1.heap.size,0,none⟩),u8,u9,u10,
     Value.slice (some ⟨w.heap.size+1+1,0,none⟩) 1 1,Value.pointer (some ⟨w.heap.size,1,none⟩),Value.slice pa a.states.length ca,Value.int IntKind.i64 a.states.length,Value.slice (some ⟨W0.heap.size,0,none⟩) a.states.length a.states.length,Value.int IntKind.i64 k,Value.int IntKind.i64 q,
     u18,u19,u20,u21,u22,u23,u24,u25,u26,u27,u28,u29,u30,u31,u32,u33,u34,u35,u36,u37,u38,u39,u40,u41,u42,u43,u44,u45,u46],defers:=mQ Ds }/\q<=k/\cV w.heap.size Ds W/\Below w.heap.size w W/\w1.heap.size<W.heap.size ∧
    W.heap[w.heap.size]?=some (.cells #[.int .i64 a.n,.slice pa a.states.length ca] 27)/\W.heap[w.heap.size+1]?=some (.cells #[.int .i64 L] 3) ∧
    W.heap[w1.heap.size]?=some (.cells #[.slice (some ⟨cb,0,none⟩) a.states.length a.states.length] 38)/\w.heap.size<=cb/\W.heap[cb]?=some (.cells (bD (eh L a q)) 3))
  (fun act _=>k - (intOf (act.tmps.getD 17 undef)).toNat) ?start ?round
 case start=>
  refine⟨0,[],W0.heap.size,_,_,_,_,_,_,_,_,_,_,_,_,_,_,_,_,_,_,_,_,_,_,_,_,_,_,_,_,_,_,_,_,rfl,by omega,cV.nil _ _,jl.alloc jl.size _,by simp,aq _ eO,aq _ rZ,ap _ _,by omega,aq _ ?_⟩;rw[cA]
  have:xC a.states.length 1 a.states.length=bD (eh L a 0):=by
   unfold xC;rw[p9];congr 1;apply List.ext_getElem (by simp[eh]);intro i _ _;simp[eh]
  rw[this]
 case round=>
  rintro act W ⟨q,Ds,cb,u8,u9,u10,u18,u19,u20,u21,u22,u23,u24,u25,u26,u27,u28,u29,u30,u31,u32,u33,u34,u35,u36,u37,u38,u39,u40,u41,u42,u43,u44,u45,u46,rfl,hq,fX,dG,hsW,hA,hR,hC,hcb,hrw⟩;have Au:=aa fX;have Gb:=aa hrw;clear fX hrw cA bK gr hH eO rZ;by_cases aB:q<k
  ·have hmake:=js (fun _=>0) a.states.length h2;have nZ:(q:Int)<k:=by omega
   have t7:=ab hC 0;have tA:=ab hA;simp at t7;have hlA:=aC hA;have HC:=aa hC;have HA:=aa hA;have HR:=aa hR;clear hC hA hR
   go_wp2_with fail
   refine(xO _ _ _ _ _).mono ?_;rintro e w2 ⟨rfl,rfl⟩;clear t7 tA hmake
   go_wp2_with fail
   have hlt0:=Au.o.lt
   refine bF (fun W1=>Below w.heap.size w W1/\W.heap.size<W1.heap.size/\W1.heap[w.heap.size+1]?=some (.cells #[.int .i64 L] 3)/\W1.heap[w.heap.size]?=some (.cells #[.int .i64 a.n,.slice pa a.states.length ca] 27)/\W1.heap[w1.heap.size]?=some (.cells #[.slice (some ⟨cb,0,none⟩) a.states.length a.states.length] 38)/\W1.heap[cb]?=some (.cells (bD (eh L a q)) 3) ∧
     W1.heap[W.heap.size]?=some (.cells (bD (jp L (eh L a q) a.states 0)) 3)/\W1.heap[W.heap.size+1]?=some (.cells #[.slice (some ⟨W.heap.size,0,none⟩) a.states.length a.states.length] 38)/\W1.heap[W.heap.size+1+1]?=some (.cells #[.int .i64 a.n,.slice pa a.states.length ca] 27)/\cV w.heap.size Ds W1)
    ⟨((dG.alloc dG.size _).alloc (by simp only[World.size_alloc];omega) _).alloc (by simp only[World.size_alloc];omega) _,by simp only[World.size_alloc];omega,aq _ (aq _ (aq _ HR.o)),aq _ (aq _ (aq _ HA.o)),aq _ (aq _ (aq _ HC.o)),aq _ (aq _ (aq _ Gb.o)),aq _ (aq _ ?_),aq _ (bu _ _ _),eD _ _ _ _,Au.o.up (by go_grown)⟩ (fun W1 cO=>?_)
   ·rw[ap,L0]
    have:fC a.states.length (fun _=>0) 0=bD (List.replicate a.states.length 0):=by
     apply Array.ext (by simp[fC,bD]);intro i _ _;simp[fC,bD]
    rw[this]
   obtain⟨g1,g2,g3,g4,g5,g6,g7,g8,g9,g10⟩:=cO;have dk:=vZ w _ a.states G.o W1 g1 (W.heap.size+1+1) (by simp[ab g9]);have HZ1:=aa g2;have hcbB:=aC g6
   refine mD (gf:=221) (lb:=#[.pointer (some ⟨W.heap.size+1+1,0,none⟩)]) rfl (enters_of Tryz.func221 (by kernel_rfl) rfl) dk (Below.refl _ _) (fun k hk=>Nat.lt_of_lt_of_le hk g1.size) (fun i=>rfl)
    (fun i V=>Below w.heap.size w V/\V.heap[w.heap.size+1]?=some (.cells #[.int .i64 L] 3)/\V.heap[w.heap.size]?=some (.cells #[.int .i64 a.n,.slice pa a.states.length ca] 27)/\V.heap[w1.heap.size]?=some (.cells #[.slice (some ⟨cb,0,none⟩) a.states.length a.states.length] 38)/\V.heap[cb]?=some (.cells (bD (eh L a q)) 3) ∧
     V.heap[W.heap.size]?=some (.cells (bD (jp L (eh L a q) a.states i)) 3)/\V.heap[W.heap.size+1]?=some (.cells #[.slice (some ⟨W.heap.size,0,none⟩) a.states.length a.states.length] 38)/\cV w.heap.size Ds V)
    (fun _ _ _=>False)
    (fun i=>(cN.below g1.size).and (cN.cells.and (cN.cells.and (cN.cells.and (cN.cells.and (cN.cells.and (cN.cells.and (cN.marks g10.lt)))))))) (fun c i=>cN.pure) ⟨g1,g3,g4,g5,g6,g7,g8,g10⟩ ?round2 ?done ?stop
   case stop=>rintro D c i V hD hi h;exact h.elim
   case done=>
    intro D V hD hI hK;obtain⟨f1,f2,f3,f4,f5,f6,f7,f8⟩:=hI;rw[Oa]at f6;have t8:=ab f7 0;have t7:=ab f4 0;have z7:=aH f4 0;simp at t8 t7;have HF:=aa (And.intro f1 (And.intro f2 (And.intro f3 (And.intro f4 (And.intro f5 (And.intro f6 (And.intro f7 (And.intro f8 hK))))))));have lO:∀ E∈Ds,E<D:=fun E hE=>Nat.lt_of_lt_of_le (g10.lt E hE) hD
    clear f1 f2 f3 f4 f5 f6 f7 f8 hK dk g3 g4 g5 g6 g7 g8 g9
    go_wp2_with fail
    refine⟨⟨q+1,D :: Ds,W.heap.size,_,_,_,_,_,_,_,_,_,_,_,_,_,_,_,_,_,_,_,_,_,_,_,_,_,_,_,_,_,_,_,_,rfl,by omega,?_,HF.o.1.setCell (by dsimp only;omega) _,?_,?_,?_,?_,by omega,?_⟩,?_⟩
    ·refine cV.cons (HF.o.2.2.2.2.2.2.2.1.keep fun k o hk ho=>?_) (by omega) ?_ lO
     ·exact(KeepsOthers.setCell _ _ _).same k o hk ho
     ·rw[Below.heap_setCell _ _ _ _ (by dsimp only;omega)];exact HF.o.2.2.2.2.2.2.2.2
    ·simp only[World.size_setCell];exact aC HF.o.2.2.2.1
    ·rw[Below.heap_setCell _ _ _ _ (by dsimp only;omega)];exact HF.o.2.2.1
    ·rw[Below.heap_setCell _ _ _ _ (by dsimp only;omega)];exact HF.o.2.1
    ·rw[aI HF.o.2.2.2.1];rfl
    ·rw[Below.heap_setCell _ _ _ _ (by dsimp only;omega)];exact HF.o.2.2.2.2.2.1
    ·simp[intOf];omega
   case round2=>
    intro yl i V hi hl hI;unfold Hv;obtain⟨s,j,hs,hj,rfl⟩:=Kw a.states i hi;have yV:=aa (L1 L (eh L a q) a.states (cnt a.states s+j) hi);rw[zn a.states s j hs hj]at yV ⊢;have oM:=lf mP.o hs hj;generalize a.states[s][j]=m at oM yV;dsimp only;have HI:=aa hI;clear hI;have hszV:=HI.o.1.size;clear dk g3 g4 g5 g6 g7 g8 g9
    gi_wp2
    refine⟨Bod.of_below (fun k hk=>Nat.lt_of_lt_of_le hk hszV) (by go_grown),(fun X=>(Below w.heap.size w X/\X.heap[w.heap.size+1]?=some (.cells #[.int .i64 L] 3)/\X.heap[w.heap.size]?=some (.cells #[.int .i64 a.n,.slice pa a.states.length ca] 27)/\X.heap[w1.heap.size]?=some (.cells #[.slice (some ⟨cb,0,none⟩) a.states.length a.states.length] 38)/\X.heap[cb]?=some (.cells (bD (eh L a q)) 3) ∧
     X.heap[W.heap.size]?=some (.cells (bD (jp L (eh L a q) a.states (cnt a.states s+j))) 3)/\X.heap[W.heap.size+1]?=some (.cells #[.slice (some ⟨W.heap.size,0,none⟩) a.states.length a.states.length] 38)/\cV w.heap.size Ds X)/\X.heap[V.heap.size]?=some (.cells #[.int .i64 m.r.g.n,.int .i64 m.r.g.h0,.int .i64 m.r.g.h1,.int .i64 m.r.g.h2,.int .i64 m.r.g.h3,.int .i64 m.r.g.h4,.int .i64 m.r.f,.int .i64 m.to] 143)),
     ((cN.below g1.size).and (cN.cells.and (cN.cells.and (cN.cells.and (cN.cells.and (cN.cells.and (cN.cells.and (cN.marks g10.lt)))))))).and cN.cells,⟨⟨HI.o.1.alloc hszV _,aq _ HI.o.2.1,aq _ HI.o.2.2.1,aq _ HI.o.2.2.2.1,aq _ HI.o.2.2.2.2.1,aq _ HI.o.2.2.2.2.2.1,aq _ HI.o.2.2.2.2.2.2.1,HI.o.2.2.2.2.2.2.2.up (by go_grown)⟩,ap _ _⟩,fun V2 hV2 _=>?_⟩
    obtain⟨⟨x1,x2,x3,x4,x5,x6,x7,x8⟩,x9⟩:=hV2;have AS:=EJ L a q;have hfn:=N9 L (eh L a q) a.states (cnt a.states s+j);have hok1:=uB hL (A1 hL a q) m.to.toNat;have hok2:=uB hL (Q0 hL (A1 hL a q) a.states (cnt a.states s+j)) s;have t5:=ab x2 0;have t7:=ab x4 0;have t8:=ab x7 0;have tM:=ab x9;have tc:=ab x5 m.to.toNat;have tr:=ab x6 s;have zr:=aH x6 s;simp at t5 t7 t8;rw[E8 _ _ (by omega)]at tc tr;have HX:=aa (And.intro x1 (And.intro x2 (And.intro x3 (And.intro x4 (And.intro x5 (And.intro x6 (And.intro x7 (And.intro x8 x9))))))));clear x1 x2 x3 x4 x5 x6 x7 x8 x9;have yE:jp L (eh L a q) a.states (cnt a.states s+j+1)=(jp L (eh L a q) a.states (cnt a.states s+j)).set s (min ((jp L (eh L a q) a.states (cnt a.states s+j)).getD s 0+(eh L a q).getD m.to.toNat 0) (L+1)):=yV.o;have Sz:=aa yE;clear yE yV;generalize (eh L a q).getD m.to.toNat 0=nx at hok1 tc Sz;generalize (jp L (eh L a q) a.states (cnt a.states s+j)).getD s 0=ns at hok2 tr Sz;have uY:0<=m.to:=oM.2.1;have hm1:m.to<a.states.length:=oM.2.2;have jB:IntKind.i64.wrap (ns+nx)=ns+nx:=IntWalk.i64_in _ (by omega);have yR:IntKind.i64.wrap (L+1)=L+1:=IntWalk.i64_in _ (by omega)
    gi_wp2
    refine ld 15 (fun ⟨_,_,h⟩=>h) (by kernel_rfl) (by kernel_rfl) (by kernel_rfl) (fun ops Lq hops hLq=>?_);simp only[List.take_succ_cons,List.take_zero,List.drop_succ_cons,List.drop_zero]at hLq ⊢;have CN:=aa hLq;clear hLq;have SL:=aa hops;clear hops
    repeat still_step
    refine wpStill_nil ?_;refine CN.o _ ?_
    go_wp2_with fail
    all_goals
     obtain⟨x1,x2,x3,x4,x5,x6,x7,x8,x9⟩:=HX.o;have z1:=HZ1.o;have z2:=aC Gb.o;refine⟨⟨by simp,fun k hk=>(Below.heap_setCell V2 _ _ _ (by dsimp only;omega)),fun k o _ hk ho=>(KeepsOthers.setCell V2 _ _).same k o hk ho⟩,(x1.setCell (by dsimp only;omega) _).drew,?_,?_,?_,?_,?_,?_,?_⟩
     ·exact(Below.heap_setCell V2 _ _ _ (by dsimp only;omega)).trans x2
     ·exact(Below.heap_setCell V2 _ _ _ (by dsimp only;omega)).trans x3
     ·exact(Below.heap_setCell V2 _ _ _ (by dsimp only;omega)).trans x4
     ·exact(Below.heap_setCell V2 _ _ _ (by dsimp only;omega)).trans x5
     ·refine(aI x6 s _).trans ?_;rw[Sz.o,<-OO]
      all_goals first
       | rw[Int.min_eq_right (by omega)]
       | rw[Int.min_eq_left (by omega)]
     ·exact(Below.heap_setCell V2 _ _ _ (by dsimp only;omega)).trans x7
     ·exact x8.keep fun k o hk ho=>(KeepsOthers.setCell V2 _ _).same k o hk ho
  ·obtain rfl:q=k:=by omega
   have t7:=ab hC 0;simp at t7;have c0:=ab Gb.o 0
   have qH:(bD (eh L a q))[0]?=some (.int .i64 (numberL L a q)):=by
    have hl:=EJ L a q;unfold numberL bD;rw[List.getElem?_toArray,List.getElem?_map,List.getElem?_eq_getElem (by omega)];simp[List.getD_eq_getElem?_getD,List.getElem?_eq_getElem (show 0<(eh L a q).length by omega)]
   rw[qH]at c0;have sR:0<a.states.length:=by omega
   go_wp2_with fail
   refine qZ Au.o (v:=.int .i64 (numberL L a q)) ?_ ⟨rfl,mu (fun D hD=>(Au.o.2 D hD).1) (Nat.le_refl _) dG⟩;simp[results,Tryz.results212,go_sem]
end Go.Proofs.YtmeaoneaephjeaaGreatDoor
