/-
  A part of the proof: lemmas and contracts that the parts behind it use. Each one's conditions are its own premises.
-/
import Derived.Lib.SliceRun
import Derived.Test.YtkfgpnbpcpdclaaGreatJ6
set_option maxRecDepth 100000
set_option maxHeartbeats 8000000
set_option linter.unusedVariables false
namespace Go.Proofs.YtkfgpnbpcpdclaaGreat
open Go.RowKit Go Go.Shelf
theorem hZ.up{w w':World} {b:Nat} {f:List (Rd × Int)} (h:hZ w b f) (hb:Below w.heap.size w w'):hZ w' b f:=h.kept (hb.block _ h.lt)
theorem Er(l:List Mv) (r:Rd):gA (l.map fun m=>(m.r,m.to)) r=(l.find? fun m=>decide (r=m.r)).map (·.to):=by
 unfold gA;rw[List.find?_map];simp only[Option.map_map];rfl
theorem TB(a:Adv) (s:Nat) (hs:s<a.states.length) (r:Rd):qD a s r=(gA (a.states[s].map fun m=>(m.r,m.to)) r).getD (-1):=by
 unfold qD;rw[Er,Int.toNat_natCast,aA [] hs]
theorem T9{a:Adv} (h:∀ s,s<a.states.length->stateE a (a.states.getD s [])=0) {s:Nat} (hs:s<a.states.length) {r:Rd} {x:Int} (hg:gA (a.states[s].map fun m=>(m.r,m.to)) r=some x):0<=x/\x<a.states.length:=by
 rw[Er]at hg;cases hf:a.states[s].find? (fun m=>decide (r=m.r)) with
 | none=>rw[hf]at hg;simp at hg
 | some m=>
  rw[hf]at hg;have hm:=List.mem_of_find?_eq_some hf;obtain⟨j,hj,rfl⟩:=List.getElem_of_mem hm;simp only[Option.map_some,Option.some.injEq]at hg;rw[<-hg];exact(jj h hs hj).2
theorem cI{k l:IntKind} {a b c d:Int} (h1:a=b) (h2:c=d):Ending.returned (.tuple #[.int k a,.int l c])=.returned (.tuple #[.int k b,.int l d]):=by rw[h1,h2]
def jo(a:Adv) (word:List Rd):Int × Int:=if advE a≠0 then(0,advE a) else if afterS a 0 word<0 then(0,25) else(afterS a 0 word,0)
theorem JQ(a:Adv) (s:Int) (word:List Rd) (k:Nat) (hk:k<word.length):afterS a s (word.drop k)=if qD a s word[k]<0 then -1 else afterS a (qD a s word[k]) (word.drop (k+1)):=by
 rw[pN hk,afterS]
theorem LE(a:Adv) (v u:Value) (word:List Rd) (w:World) (hv:bn w v a.states) (hu:bN w u word) (hN:movesN a.states<1099511627776) :
  Calls Tryz.prog 31 #[.agg #[.int .i64 a.n,v],u] w fun e w'=>e=.returned (.tuple #[.int .i64 (jo a word).1,.int .i64 (jo a word).2])/\Below w.heap.size w w':=by
 have G:=aa hv;obtain⟨pa,ca,rfl,la1,la2,_⟩:=hv.at;obtain⟨pu,cu,rfl,lu1,lu2,eu⟩:=hu.at;clear hv hu;have EU:=aa eu;clear eu
 go_enter Tryz.func31,Tryz.ntmps31
 go_wp2_with fail
 refine aT (fun W=>Below w.heap.size w W/\W.heap[w.heap.size]?=some (.cells #[.int .i64 a.n,.slice pa a.states.length ca] 27)) ⟨by go_grown,ar _ _⟩ (fun W0 bd=>?_);obtain⟨aH,bD⟩:=bd;refine(rp a _ W0 (G.out.up up_moves aH) hN).mono ?_;rintro e w1 ⟨rfl,aG⟩;have bU:=aj aH aG;have fk:=ak aG bD;have t1:=ae fk;by_cases he:advE a=0
 case neg=>
  have HV:Hid (jo a word=(0,advE a)):=by(have h:jo a word=(0,advE a):=by(unfold jo;rw[if_pos he]));exact h
  generalize advE a=ea at he HV;have he':(ea != 0)=true:=by simpa using he
  clear fk bD
  go_wp2_with fail
  go_ret2
  refine⟨cI ?_ ?_,bU⟩<;>rw[HV.out]
 have HV:Hid (jo a word=if afterS a 0 word<0 then(0,25) else(afterS a 0 word,0)):=by(have h:jo a word=if afterS a 0 word<0 then(0,25) else(afterS a 0 word,0):=by(unfold jo;rw[if_neg (by simpa using he)]));exact h
 obtain⟨⟨jg,iu⟩,eN,_⟩:=iP he;rw[he];have kX:=aa eN;clear eN he;have fd:=aa fk;clear fk bD
 go_wp2_with fail
 refine(Ny a _ w1 (G.out.up up_moves bU) jg iu (F0 kX.out)).mono ?_;rintro e w2 ⟨ut,rfl,vj,aS⟩;have fy:=aj bU aS;have HTAB:=aa vj;obtain⟨B,rfl,_⟩:=vj;clear t1 aS aG aH W0
 go_wp2_with fail
 go_loopw [8,22] (fun st i wr=>Below w2.heap.size w2 wr/\∃ (k s:Nat),k<=word.length/\i=.int .i64 k/\s<a.states.length/\st=.int .i64 s/\afterS a 0 word=afterS a s (word.drop k)) (fun _ i _=>word.length - (intOf i).toNat)
 case atStart=>exact⟨Below.refl _ _,0,0,by omega,rfl,by omega,rfl,by simp⟩
 case round=>
  obtain⟨aJ,k,s,hk,rfl,hs,rfl,aO⟩:=hrel;have H:=aa aO;clear aO;have bS:=aj fy aJ;by_cases aF:k<word.length
  ·obtain⟨b1,o1,rfl,⟨c0,_⟩,⟨c1,_⟩,⟨c2,_⟩,⟨c3,_⟩,⟨c4,_⟩,⟨c5,_⟩,⟨c6,_⟩⟩:=EU.out k aF
   have d0:=ay bS c0;have d1:=ay bS c1;have d2:=ay bS c2;have d3:=ay bS c3;have d4:=ay bS c4;have d5:=ay bS c5;have d6:=ay bS c6;clear c0 c1 c2 c3 c4 c5 c6;have vB:=aa (JQ a s word k aF);generalize word[k]=r at d0 d1 d2 d3 d4 d5 d6 vB;have HRNG:=aa (M3 kX.out s hs r);obtain⟨b,K0,FA⟩:=(by obtain⟨B',e,h⟩:=HTAB.out;cases e;exact h s hs:∃ b,w2.cell? ⟨B,s,none⟩=some (.map (some b))/\hZ w2 b (a.states[s].map fun m=>(m.r,m.to)));have D6:=aa (TB a s hs r)
   go_wp2_with fail
   clear d0 d1 d2 d3 d4 d5 d6;refine bw (fun W=>Below wr.heap.size wr W/\W.heap[wr.heap.size]?=some (.cells #[.int .i64 r.g.n,.int .i64 r.g.h0,.int .i64 r.g.h1,.int .i64 r.g.h2,.int .i64 r.g.h3,.int .i64 r.g.h4,.int .i64 r.f] 52)) ⟨by go_grown,ar _ _⟩ (fun V hV=>?_);obtain⟨fo,hR⟩:=hV;have k1:∀ x:ExtW V,∀ o,x.val.cell? ⟨wr.heap.size,o,none⟩=_:=fun x=>ae (ak x.ext hR)
   have k2:∀ x:ExtW V,x.val.cell? ⟨B,s,none⟩=some (.map (some b)):=fun x=>x.cell (ay (aj aJ fo) K0)
   have PD:∀ x:ExtW V,hZ x.val b (a.states[s].map fun m=>(m.r,m.to)):=fun x=>FA.up (aj (aj aJ fo) x.ext)
   have O8:=aa PD;clear hR K0 FA PD;have hsI:(s:Int)<(a.states.length:Int):=by omega
   have hs0:(0:Int)<=(s:Int):=by omega
   cases hg:gA (a.states[s].map fun m=>(m.r,m.to)) r with
   | none=>
    have k3:∀ x:ExtW V,(Instr.lookup 136 (.map (some b)) r.v true).run Tryz.prog x.val=.ok (.tuple #[.int .i64 0,.bool false]) x.val:=fun x=>(Ep (O8.out x) r).1 hg
    have HT:Hid (qD a s r=-1):=by(have h:qD a s r=-1:=by(rw[D6.out,hg];rfl));exact h
    clear hg;refine aK (by kernel_rfl) (by kernel_rfl) ?_
    repeat (go_big_quiet_step (fail))
    refine wpQuiet_nil ?_;intro _ bV;obtain⟨xq,bC⟩:=bV;subst bC;clear k1 k2 k3
    go_wp2_with fail
    go_ret2
    refine⟨cI ?_ ?_,aj (aj bS fo) xq.ext⟩<;>(rw[HV.out,H.out,vB.out,HT.out];rfl)
   | some x0=>
    have k3:∀ x:ExtW V,(Instr.lookup 136 (.map (some b)) r.v true).run Tryz.prog x.val=.ok (.tuple #[.int .i64 x0,.bool true]) x.val:=fun x=>(Ep (O8.out x) r).2 x0 hg
    have HT:Hid (qD a s r=x0):=by(have h:qD a s r=x0:=by(rw[D6.out,hg];rfl));exact h
    obtain⟨gi,dV⟩:=T9 kX.out hs hg;clear hg;refine aK (by kernel_rfl) (by kernel_rfl) ?_
    repeat (go_big_quiet_step (fail))
    refine wpQuiet_nil ?_;intro _ bV;obtain⟨xq,bC⟩:=bV;subst bC;clear k1 k2 k3
    go_wp2_with fail
    go_roundw
    case rel=>
     refine⟨aj (aj aJ fo) xq.ext,k+1,x0.toNat,by omega,by go_num,by omega,by rw[Int.toNat_of_nonneg gi],?_⟩;rw[H.out,vB.out,HT.out,if_neg (by omega),Int.toNat_of_nonneg gi]
    case measure=>simp[intOf];omega
  ·go_wp2_with fail
   go_ret2
   refine⟨cI ?_ ?_,bS⟩ <;>
   ·rw[HV.out,H.out,List.drop_of_length_le (by omega),afterS,if_neg (by omega)]
def gh(a:Adv) (word:List Rd):Bool × Int:=if advE a≠0 then(false,advE a) else(decide (0<=afterS a 0 word),0)
theorem xe{l:IntKind} {a b:Bool} {c d:Int} (h1:a=b) (h2:c=d):Ending.returned (.tuple #[.bool a,.int l c])=.returned (.tuple #[.bool b,.int l d]):=by rw[h1,h2]
theorem uS(a:Adv) (v u:Value) (word:List Rd) (w:World) (hv:bn w v a.states) (hu:bN w u word) (hN:movesN a.states<1099511627776) (bH:advE a≠25) :
  Calls Tryz.prog 10 #[.agg #[.int .i64 a.n,v],u] w fun e w'=>e=.returned (.tuple #[.bool (gh a word).1,.int .i64 (gh a word).2])/\Below w.heap.size w w':=by
 have aH:Below w.heap.size w (w.alloc (.cells #[.int .i64 a.n,v] 27)):=by go_grown
 have HC:=aa (LE a v u word _ (hv.up up_moves aH) (hu.up up_round aH) hN);obtain⟨pa,ca,rfl,_⟩:=hv.at;obtain⟨pu,cu,rfl,_⟩:=hu.at;clear hv hu
 go_enter Tryz.func10,Tryz.ntmps10
 go_wp2_with fail
 refine HC.out.mono ?_;rintro e w1 ⟨rfl,aG⟩;have bU:=aj aH aG;by_cases he:advE a=0
 ·by_cases hs:afterS a 0 word<0
  ·have h1:jo a word=(0,25):=by unfold jo;rw[if_neg (by simpa using he),if_pos hs]
   have HV:Hid (gh a word=(false,0)):=by(have h:gh a word=(false,0):=by(unfold gh;rw[if_neg (by simpa using he)];simp;omega));exact h
   rw[h1];clear h1 he hs bH
   go_wp2_with fail
   go_ret2
   refine⟨xe ?_ ?_,bU⟩<;>rw[HV.out]
  ·have h1:jo a word=(afterS a 0 word,0):=by unfold jo;rw[if_neg (by simpa using he),if_neg hs]
   have HV:Hid (gh a word=(true,0)):=by(have h:gh a word=(true,0):=by(unfold gh;rw[if_neg (by simpa using he)];simp;omega));exact h
   rw[h1];clear h1 he hs bH
   go_wp2_with fail
   go_ret2
   refine⟨xe ?_ ?_,bU⟩<;>rw[HV.out]
 ·have h1:jo a word=(0,advE a):=by unfold jo;rw[if_pos he]
  have HV:Hid (gh a word=(false,advE a)):=by(have h:gh a word=(false,advE a):=by(unfold gh;rw[if_pos he]));exact h
  rw[h1];generalize advE a=ea at he bH HV;have IH:(ea == 0)=false:=by simpa using he
  have FQ:(ea == 25)=false:=by simpa using bH
  clear h1 he bH
  go_wp2_with fail
  go_ret2
  refine⟨xe ?_ ?_,bU⟩<;>rw[HV.out]
abbrev jI(p:Pb) (vc vs:Value):Value:=.agg #[.int .i64 p.t.n,.int .i64 p.t.ins,.int .i64 p.t.outs,vc,.int .i64 p.a.n,vs,.int .i64 p.rounds]
theorem mO(p:Pb) (vc vs:Value) (w:World) (hc:bJ w vc p.t.cases) (hs:bn w vs p.a.states) (hN:movesN p.a.states<1099511627776) :
  Calls Tryz.prog 40 #[jI p vc vs] w fun e w'=>e=.returned (.int .i64 (probE p))/\Below w.heap.size w w':=by
 have GC:=aa hc;have GS:=aa hs;obtain⟨pc,cc,rfl,_⟩:=hc.at;obtain⟨ps,cs,rfl,_⟩:=hs.at;clear hc hs;have HV:Hid (probE p=if taskE p.t≠0 then taskE p.t else if advE p.a≠0 then advE p.a else if p.t.n≠p.a.n then 22 else if p.rounds<0\/6<p.rounds then 2 else 0):=by exact rfl
 go_enter Tryz.func40,Tryz.ntmps40
 go_wp2_with fail
 refine aT (fun W=>Below w.heap.size w W/\W.heap[w.heap.size]?=some (.cells #[.int .i64 p.t.n,.int .i64 p.t.ins,.int .i64 p.t.outs,.slice pc p.t.cases.length cc,.int .i64 p.a.n,.slice ps p.a.states.length cs,.int .i64 p.rounds] 29)) ⟨by go_grown,ar _ _⟩ (fun W0 bd=>?_);obtain⟨aH,bD⟩:=bd;refine(ql p.t _ W0 (GC.out.up up_case aH)).mono ?_;rintro e w1 ⟨rfl,aG⟩;have bU:=aj aH aG;have fk:=ak aG bD;have t1:=ae fk;generalize taskE p.t=et at HV;have fd:=aa fk;clear fk bD;by_cases iH:et=0
 case neg=>
  have D7:(et != 0)=true:=by simpa using iH
  go_wp2_with fail
  go_ret
  exact⟨aC (by rw[HV.out,if_pos iH]),bU⟩
 subst iH
 go_wp2_with fail
 refine(rp p.a _ w1 (GS.out.up up_moves bU) hN).mono ?_;rintro e w2 ⟨rfl,aS⟩;have fy:=aj bU aS;have t2:=ae (ak aS fd.out);clear t1;generalize advE p.a=ea at HV;by_cases wh:ea=0
 case neg=>
  have hea':(ea != 0)=true:=by simpa using wh
  go_wp2_with fail
  go_ret
  exact⟨aC (by rw[HV.out,if_neg (by simp),if_pos wh]),fy⟩
 subst wh
 go_wp2_with fail
 all_goals
  go_ret
  refine⟨aC ?_,fy⟩;rw[HV.out]
  go_light
  grind
def findE(t:Tk) (inp:List Int):Int:=firstIx t.cases.length fun i=>eqV (t.cases.getD i default).inp inp
def fw(t:Tk) (inp:List Int):Int × Int:=if findE t inp<0 then(0,6) else(findE t inp,0)
theorem Nz(x0 x1 x2 v:Value) (y z:List Int) (y1 y2:List (List Int)) (B:Nat) (W:World) (hc:W.cell? ⟨B,0,none⟩=some v) (hx:aU W x0 y) (dV:bF W x1 y1) (fF:bF W x2 y2) (hv:aU W v z) :
  Calls Tryz.prog 138 #[.agg #[x0,x1,x2],.pointer (some ⟨B,0,none⟩)] W fun e W'=>e=.returned (.bool (eqV y z))/\Below W.heap.size W W':=by
 have aH:Below W.heap.size W (W.alloc (.cells #[x0,x1,x2] 88)):=by go_grown
 have HC:=aa (fP x0 v y z _ (hx.up up_int aH) (hv.up up_int aH));have hB:=gc hc;dsimp only at hB;obtain⟨_,_,rfl,_⟩:=hv;obtain⟨_,_,rfl,_⟩:=hx;obtain⟨_,_,rfl,_⟩:=dV;obtain⟨_,_,rfl,_⟩:=fF
 go_enter Tryz.func138,Tryz.ntmps138
 go_wp2_with fail
 refine HC.out.mono ?_;rintro e w1 ⟨rfl,aG⟩
 go_wp2_with fail
 go_ret
 exact⟨rfl,aj aH aG⟩
theorem Qv(t:Tk) (vc vi:Value) (inp:List Int) (w:World) (hc:bJ w vc t.cases) (hi:aU w vi inp) :
  Calls Tryz.prog 106 #[.agg #[.int .i64 t.n,.int .i64 t.ins,.int .i64 t.outs,vc],vi] w fun e w'=>e=.returned (.tuple #[.int .i64 (fw t inp).1,.int .i64 (fw t inp).2])/\Below w.heap.size w w':=by
 have aH:Below w.heap.size w ((w.alloc (.cells #[.int .i64 t.n,.int .i64 t.ins,.int .i64 t.outs,vc] 24)).alloc (.cells #[vi] 36)):=by go_grown
 have mo:=wJ 138 #[.pointer (some ⟨w.heap.size+1,0,none⟩)] (enters_of Tryz.func138 (by kernel_rfl) rfl) vc t.cases (fun i=>eqV (t.cases.getD i default).inp inp)
  ((w.alloc (.cells #[.int .i64 t.n,.int .i64 t.ins,.int .i64 t.outs,vc] 24)).alloc (.cells #[vi] 36)) (hc.up up_case aH) (fun i aF x0 x1 x2 h0 h1 h2 W hW=>by
   rw[aA default aF]
   exact Nz _ _ _ _ _ _ _ _ _ _ (ay hW (by simp[ae (aX w _ _)])) (h0.up up_int hW) (h1.up up_ints hW) (h2.up up_ints hW) ((hi.up up_int aH).up up_int hW))
 have HF:Hid (findE t inp=firstIx t.cases.length (fun i=>eqV (t.cases.getD i default).inp inp)):=by exact rfl
 have kW:=dN t.cases.length (fun i=>eqV (t.cases.getD i default).inp inp);have hlo':-1<=firstIx t.cases.length (fun i=>eqV (t.cases.getD i default).inp inp):=by rcases kW with h|⟨k,_,h,_⟩<;>omega
 clear kW;generalize firstIx t.cases.length (fun i=>eqV (t.cases.getD i default).inp inp)=r at mo HF hlo';have HC:=aa mo;clear mo;obtain⟨_,_,rfl,_⟩:=hc;obtain⟨_,_,rfl,_⟩:=hi
 go_enter Tryz.func106,Tryz.ntmps106
 go_wp2_with fail
 refine HC.out.mono ?_;rintro e w1 ⟨rfl,aG⟩;by_cases hr:r<0
 ·have HR:Hid (fw t inp=(0,6)):=by(have h:fw t inp=(0,6):=by(unfold fw;rw[HF.out,if_pos hr]));exact h
  go_wp2_with fail
  go_ret2
  refine⟨cI ?_ ?_,aj aH aG⟩<;>rw[HR.out]
 ·have HR:Hid (fw t inp=(r,0)):=by(have h:fw t inp=(r,0):=by(unfold fw;rw[HF.out,if_neg hr]));exact h
  go_wp2_with fail
  go_ret2
  refine⟨cI ?_ ?_,aj aH aG⟩<;>rw[HR.out]
end Go.Proofs.YtkfgpnbpcpdclaaGreat
namespace Go.Proofs.YtkfgpnbpcpdclaaGreat
open Go.RowKit Go Go.Shelf
attribute [local go_sem] Oper.semAt_some
abbrev jJ(p:Pb) (vc vs:Value) (i:Int) (u d:Value) (f:Int):Array Value:=#[.int .i64 p.t.n,.int .i64 p.t.ins,.int .i64 p.t.outs,vc,.int .i64 p.a.n,vs,.int .i64 p.rounds,.int .i64 i,u,d,.int .i64 f]
theorem Hc(p:Pb) (pc:Option Addr) (nc cc:Nat) (ps:Option Addr) (ns cs:Nat) (i:Int) (u:Value) (word:List Rd) (pd:Option Addr) (nd cd:Nat) (w:World) (hu:bN w u word) :
  Calls Tryz.prog 108 #[jI p (.slice pc nc cc) (.slice ps ns cs),.int .i64 i,u,.slice pd nd cd] w fun e w'=>e=.returned (.agg (jJ p (.slice pc nc cc) (.slice ps ns cs) i u (.slice pd nd cd) (faultyS word)))/\Below w.heap.size w w':=by
 obtain⟨pu,cu,rfl,lu1,lu2,eu⟩:=hu.at;clear hu;by_cases h0:word.length=0
 ·have HF:Hid (faultyS word=0):=by(have h:faultyS word=0:=by(unfold faultyS;rw[if_pos h0]));exact h
  have kz:decide (0<word.length)=false:=by simp[h0]
  have Ve:decide ((0:Int)<(word.length:Int))=false:=by simp[h0]
  have H0:=aa h0;clear h0 eu
  go_enter Tryz.func108,Tryz.ntmps108
  go_wp2_with fail
  refine bodyPost_ret (v:=.agg (jJ p (.slice pc nc cc) (.slice ps ns cs) i (.slice pu word.length cu) (.slice pd nd cd) 0)) (by simp[results,Tryz.results108,go_sem]) rfl ?_;exact⟨by rw[HF.out],by go_grown⟩
 ·have h1:1<=word.length:=by omega
  obtain⟨b1,o1,rfl,_,_,_,_,_,_,⟨c6,_⟩⟩:=eu (word.length - 1) (by omega)
  have HF:Hid (faultyS word=word[word.length - 1].f):=by
   have h:faultyS word=word[word.length - 1].f:=by
    unfold faultyS;rw[if_neg h0,aA default (by omega)]
   exact h
  generalize word[word.length - 1]=r at c6 HF;have aG:=gc c6;dsimp only at aG;have aS:b1<w.heap.size+1:=by omega
  have bA:b1<w.heap.size+1+1:=by omega
  clear eu h0
  go_enter Tryz.func108,Tryz.ntmps108
  go_wp2_with fail
  refine bodyPost_ret (v:=.agg (jJ p (.slice pc nc cc) (.slice ps ns cs) i (.slice (some ⟨b1,o1,none⟩) word.length cu) (.slice pd nd cd) r.f)) (by simp[results,Tryz.results108,go_sem]) rfl ?_;exact⟨by rw[HF.out],by go_grown⟩
theorem ze(p:Pb) (pc:Option Addr) (nc cc:Nat) (ps:Option Addr) (ns cs:Nat) (i:Int) (pu:Option Addr) (nu cu:Nat) (pd:Option Addr) (nd cd:Nat) (f:Int) (w:World) :
  Calls Tryz.prog 177 #[.agg (jJ p (.slice pc nc cc) (.slice ps ns cs) i (.slice pu nu cu) (.slice pd nd cd) f)] w fun e w'=>e=.returned (.func (.func 199) #[] #[.pointer (some ⟨w.heap.size,0,none⟩)])/\w'=w.alloc (.cells (jJ p (.slice pc nc cc) (.slice ps ns cs) i (.slice pu nu cu) (.slice pd nd cd) f) 205):=by
 go_enter Tryz.func177,Tryz.ntmps177
 go_wp2
 go_ret
 exact⟨rfl,rfl⟩
def Hd(n:Nat) (f:Int) (i:Nat):Array Value:=#[.int .i64 ((cg n f).getD i 0)]
theorem xf(p:Pb) (vc vs:Value) (ix:Int) (u d:Value) (f:Int) (n:Nat) (hn:p.t.n=n) (kr:n<=5) (w:World) (Bx:Nat) (hx:w.heap[Bx]?=some (.cells (jJ p vc vs ix u d f) 205)) :
  A8 Tryz.prog 199 #[.pointer (some ⟨Bx,0,none⟩)] (Hd n f) (cg n f).length (fun k=>k=Bx) w:=by
 intro yl J Jx W hW hJ kT hY h0;have dV:=ak hW hx;clear hx hW;have HN:=aa hn;have HJ:=aa hJ;clear hJ;have CA:=aa kT;clear kT;have HY:=aa hY;clear hY;have t1:=ae dV;refine(callsIn_wide (n:=0)).1 ?_;refine callsIn_of_wp Tryz.func199 rfl trivial ?_ rfl;simp only[Tryz.ntmps199,List.size_toArray,List.length_cons,List.length_nil,Nat.reduceAdd,Nat.reduceSub,Array.replicate_succ,Array.replicate_zero,List.push_toArray,List.append_toArray,List.nil_append,List.cons_append]
 gi_wp2
 clear t1 hn
 gi_loopw [8] (fun i wr=>∃ q:Nat,q<=n/\i=.int .i64 q/\wr.heap[Bx]?=some (.cells (jJ p vc vs ix u d f) 205)/\J (cg q f).length wr) (fun i _=>n - (intOf i).toNat)
 case atStart=>exact⟨0,by omega,rfl,dV,h0⟩
 case round=>
  obtain⟨q,hq,rfl,K5,hj⟩:=hrel;have qj:=aa hj;clear hj;have Jb:=aa K5;have t1:=ae K5;clear K5;have fJ:=Eb f q;by_cases aF:q<n
  ·cases hb:cS f q with
   | true=>
    have HB:=aa hb;rw[hb]at fJ;clear hb
    gi_wp2
    refine⟨fun _ h=>(by cases h),?_⟩
    gi_wp2
    go_roundw
    case rel=>exact⟨q+1,by omega,by go_num,Jb.out,by rw[pT,HB.out];exact qj.out⟩
    case measure=>simp[intOf];omega
   | false=>
    have HB:=aa hb;rw[hb]at fJ;clear hb;have rL:=Kh f aF HB.out;obtain⟨fn,tmps,assign,body,hy,hR⟩:=HY.out (cg q f).length wr (by have:=(List.getElem?_eq_some_iff.1 rL).1;exact this) qj.out;have O9:Hd n f (cg q f).length=#[.int .i64 q]:=by unfold Hd;rw[List.getD_eq_getElem?_getD,rL];rfl
    rw[O9]at hy;have HR:=aa hR;clear hR O9;have kl:=(List.getElem?_eq_some_iff.1 rL).1;clear rL
    gi_wp2
    refine⟨rfl,HR.out.mono ?_⟩;rintro e W3 (⟨rfl,oB,wn,ke⟩|⟨rfl,np⟩)
    ·gi_wp2
     go_roundw
     case rel=>exact⟨q+1,by omega,by go_num,(ke Bx rfl).trans Jb.out,by rw[pT,HB.out];simpa using oB⟩
     case measure=>simp[intOf];omega
    ·gi_wp2
     refine bodyPost_ret (results_none rfl _ _ _) rfl ?_;exact⟨⟨_,rfl⟩,.inr ⟨_,by omega,np⟩⟩
  ·gi_wp2
   go_end0
   obtain rfl:q=n:=by omega
   exact⟨⟨_,rfl⟩,.inl qj.out⟩
theorem pC(tmps:Array Value) (f:Func) (hf:f.results=#[.cell 2 3,.cell 3 4]) (B C:Nat) (W:World) (x:Int) (b:Bool) (ty ty':TypeId) (h1:tmps[2]?.getD undef=.pointer (some ⟨B,0,none⟩)) (h2:tmps[3]?.getD undef=.pointer (some ⟨C,0,none⟩))
  (hb:W.heap[B]?=some (.cells #[.int .i64 x] ty)) (hc:W.heap[C]?=some (.cells #[.bool b] ty')) :
  (results f tmps).run Tryz.prog W=.ok (.tuple #[.int .i64 x,.bool b]) W:=by
 have c:=ae hb 0;have d:=ae hc 0;simp at c d;simp[results,hf,go_sem,h1,h2,c,d]
theorem t6{k:IntKind} {a b:Int} {c d:Bool} (h1:a=b) (h2:c=d):Ending.returned (.tuple #[.int k a,.bool c])=.returned (.tuple #[.int k b,.bool d]):=by rw[h1,h2]
def undecE(n:Nat) (f:Int) (d:List Int):Int:=uQ n f fun p=>decide (d.getD p 0<0)
def NA(n:Nat) (f:Int) (dec:List Int) (q:Nat):Prop:=∀ j,j<q->decide (dec.getD ((cg n f).getD j 0) 0<0)=false
theorem F6(p:Pb) (pc:Option Addr) (nc cc:Nat) (ps:Option Addr) (ns cs:Nat) (i:Int) (pu:Option Addr) (nu cu:Nat) (vd:Value) (dec:List Int) (f:Int) (n:Nat) (hn:p.t.n=n) (kr:n<=5) (hl:dec.length=n) (w:World) (hd:aU w vd dec) :
  Calls Tryz.prog 140 #[.agg (jJ p (.slice pc nc cc) (.slice ps ns cs) i (.slice pu nu cu) vd f)] w fun e w'=>e=.returned (.tuple #[.int .i64 (undecE n f dec),.bool (decide (0<=undecE n f dec))])/\Below w.heap.size w w':=by
 obtain⟨pd,cd,rfl,ld1,ld2,ed⟩:=hd.at;clear hd;have ED:=aa ed;clear ed;have HL:=aa hl;clear hl;refine eI Tryz.func140 rfl ?_;simp only[Tryz.ntmps140,List.size_toArray,List.length_cons,List.length_nil,Nat.reduceAdd,Nat.reduceSub,Array.replicate_succ,Array.replicate_zero,List.push_toArray,List.append_toArray,List.nil_append,List.cons_append];have HN:=aa hn;clear hn
 go_wp2_with fail
 refine(ze p _ _ _ _ _ _ _ _ _ _ _ _ _ _ _).mono ?_;rintro e w1 ⟨rfl,rfl⟩
 go_wp2_with fail
 refine bw (fun W=>Below w.heap.size w W/\W.heap[w.heap.size]?=some (.cells (jJ p (.slice pc nc cc) (.slice ps ns cs) i (.slice pu nu cu) (.slice pd dec.length cd) f) 205)/\W.heap[w.heap.size+1]?=some (.cells #[.int .i64 0] 3)/\W.heap[w.heap.size+1+1]?=some (.cells #[.bool false] 4)/\W.heap[w.heap.size+1+1+1]?=some (.cells (jJ p (.slice pc nc cc) (.slice ps ns cs) i (.slice pu nu cu) (.slice pd dec.length cd) f) 205))
  ⟨by go_grown,aq _ (aq _ (aq _ (ar _ _))),aq _ (aq _ (aX _ _ _)),aq _ (cV _ _ _ _),by simpa using ar (((w.alloc _).alloc _).alloc _) _⟩ (fun W0 bd=>?_)
 obtain⟨aH,hA,lL,kx,hX⟩:=bd;have bP:=xf p _ _ i _ _ f n HN.out kr W0 (w.heap.size+1+1+1) hX;have dM:=aB hX
 refine kG (gf:=199) (lb:=#[.pointer (some ⟨w.heap.size+1+1+1,0,none⟩)]) rfl (enters_of Tryz.func199 (by kernel_rfl) rfl) bP (Below.refl _ _) (fun k hk=>by subst hk;exact dM) (fun i=>rfl)
  (fun q W=>Below w.heap.size w W/\W.heap[w.heap.size]?=some (.cells (jJ p (.slice pc nc cc) (.slice ps ns cs) i (.slice pu nu cu) (.slice pd dec.length cd) f) 205)/\W.heap[w.heap.size+1]?=some (.cells #[.int .i64 0] 3)/\W.heap[w.heap.size+1+1]?=some (.cells #[.bool false] 4)/\NA n f dec q)
  (fun c _ W=>c=.ret/\Below w.heap.size w W/\0<=undecE n f dec/\W.heap[w.heap.size+1]?=some (.cells #[.int .i64 (undecE n f dec)] 3)/\W.heap[w.heap.size+1+1]?=some (.cells #[.bool true] 4))
  (fun i=>(bR.below (by omega)).and (bR.cells.and (bR.cells.and (bR.cells.and bR.pure)))) (fun c i=>bR.pure.and ((bR.below (by omega)).and (bR.pure.and (bR.cells.and bR.cells)))) ⟨aH,hA,lL,kx,fun j hj=>by omega⟩ ?round ?done ?stop
 case round=>
  intro yl q W hq hl hI;unfold Hd;have zJ:=tV hq;have uj:Hid ((cg n f).getD q 0=(cg n f)[q]):=aA 0 hq;rw[aA 0 hq];generalize (cg n f)[q]=pr at zJ uj;have HI:=aa hI;clear hI
  gi_wp2
  refine⟨Bod.refl _ _ _,_,(bR.below (w:=w) (by omega)).and (bR.cells.and (bR.cells.and (bR.cells.and bR.pure))),HI.out,fun W2 h2 _=>?_⟩;obtain⟨g1,g2,g3,g4,g5⟩:=h2;have lH:=HL.out;have vW:pr<dec.length:=by omega
  obtain⟨b1,o1,rfl,cx,_⟩:=ED.out pr vW;rw[Nat.mul_one]at cx;have d1:=ay g1 cx;have UB:Hid (dec.getD pr 0=dec[pr]):=aA 0 vW;generalize dec[pr]=x at cx d1 UB;have t1:=ae g2;have HG:=aa (And.intro g1 (And.intro g2 (And.intro g3 (And.intro g4 g5))));have c3:=ae g3 0;have f3:=aD g3 0;have c4:=ae g4 0;have f4:=aD g4 0;simp at c3 c4;have Iu:=aB g4;clear g1 g2 g3 g4 g5 cx bP hA lL kx hX lH;by_cases hx:x<0
  ·gi_wp2
   obtain⟨g1,g2,g3,g4,g5⟩:=HG.out
   have hE:undecE n f dec=pr:=by
    unfold undecE;rw[yY (q:=fun p=>decide (dec.getD p 0<0)) hq g5 (by rw[uj.out,UB.out];simpa using hx),uj.out]
   refine⟨(Bod.setCell _ ⟨w.heap.size+1,0,none⟩ _ (fun h=>by dsimp only at h;omega)).trans (Bod.setCell _ ⟨w.heap.size+1+1,0,none⟩ _ (fun h=>by dsimp only at h;omega)),rfl,(g1.setCell (p:=⟨w.heap.size+1,0,none⟩) (by dsimp only;omega) _).setCell (p:=⟨w.heap.size+1+1,0,none⟩) (by dsimp only;omega) _,by omega,?_,?_⟩
   ·refine aI (B:=w.heap.size+1+1) ?_ (by omega) _ _
    rw[aE g3,hE];rfl
   ·rw[aE (aI (B:=w.heap.size+1) g4 (by omega) _ _)];rfl
  ·gi_wp2
   obtain⟨g1,g2,g3,g4,g5⟩:=HG.out;exact⟨Bod.refl _ _ _,g1,g2,g3,g4,aQ g5 (by rw[uj.out,UB.out];simpa using hx)⟩
 case done=>
  intro D W hD hI hK;obtain⟨g1,g2,g3,g4,g5⟩:=hI;have HG:=aa (And.intro g1 (And.intro g2 (And.intro g3 (And.intro g4 g5))));have c3:=ae g3 0;have f3:=aD g3 0;have c4:=ae g4 0;have f4:=aD g4 0;simp at c3 c4;clear g1 g2 g3 g4 g5 bP hA lL kx hX
  go_wp2_with fail
  obtain⟨g1,g2,g3,g4,g5⟩:=HG.out;have hE:undecE n f dec=-1:=vJ (q:=fun p=>decide (dec.getD p 0<0)) g5;refine dH (aI (B:=w.heap.size+1+1) (aI (B:=w.heap.size+1) hK (by omega) _ _) (by omega) _ _) (pC _ _ Tryz.results140 (w.heap.size+1) (w.heap.size+1+1) _ (-1) false _ _ rfl rfl ((World.putObj_heap_other (by omega)).trans (aI (B:=w.heap.size+1+1) (by rw[aE g3];rfl) (by omega) _ _)) ((World.putObj_heap_other (by omega)).trans (by rw[aE (aI (B:=w.heap.size+1) g4 (by omega) _ _)];rfl))) ?_;exact⟨t6 hE.symm (by rw[hE];rfl),cT (by omega) ((g1.setCell (p:=⟨w.heap.size+1,0,none⟩) (by dsimp only;omega) _).setCell (p:=⟨w.heap.size+1+1,0,none⟩) (by dsimp only;omega) _)⟩
 case stop=>
  rintro D c i W hD hi ⟨rfl,g1,g2,g3,g4⟩ hK;have HG:=aa (And.intro g1 (And.intro g2 (And.intro g3 g4)));clear g1 g2 g3 g4 bP hA lL kx hX
  go_wp2_with fail
  refine dH hK (pC _ _ Tryz.results140 (w.heap.size+1) (w.heap.size+1+1) _ (undecE n f dec) true _ _ rfl rfl ((World.putObj_heap_other (by omega)).trans HG.out.2.2.1) ((World.putObj_heap_other (by omega)).trans HG.out.2.2.2)) ?_;exact⟨t6 rfl (by have:=HG.out.2.1;simp;omega),cT (by omega) HG.out.1⟩
end Go.Proofs.YtkfgpnbpcpdclaaGreat
namespace Go.Proofs.YtkfgpnbpcpdclaaGreat
def yz(ps:List Nat) (dec v:List Int):Bool:=ps.all fun p=>v.getD p 0 == dec.getD p 0
def fS(n:Nat) (f:Int) (dec:List Int) (ls:List (List Int)) (i:Nat):List (List Int):=ls.filter (yz ((cg n f).take i) dec)
theorem TC(n:Nat) (f:Int) (dec:List Int) (ls:List (List Int)):fS n f dec ls 0=ls:=by
 unfold fS;exact List.filter_eq_self.2 fun v _=>by simp[yz]
theorem TD(n:Nat) (f:Int) (dec:List Int) (ls:List (List Int)) (i:Nat) (hi:i<(cg n f).length) :
  fS n f dec ls (i+1)=(fS n f dec ls i).filter fun v=>!(v.getD (cg n f)[i] 0 != dec.getD (cg n f)[i] 0):=by
 unfold fS;rw[List.filter_filter];refine List.filter_congr fun v _=>?_
 unfold yz;rw[List.take_succ_eq_append_getElem hi,List.all_append];simp[bne];rw[Bool.and_comm]
theorem Ua{n:Nat} {f:Int} {dec:List Int} {ls:List (List Int)} {i:Nat} {v:List Int} (h:v∈fS n f dec ls i):v∈ls:=(List.mem_filter.1 h).1
def Gu(f:Int) (dec:List Int) (ls:List (List Int)) (q:Nat):Bool:=!(ls.any (yz (cg (q+1) f) dec))
theorem NB(n:Nat) (f:Int) (i:Nat) (hi:i<(cg n f).length):cg ((cg n f)[i]+1) f=(cg n f).take (i+1):=by
 have h1:=tV hi;have h2:=yX f (show (cg n f)[i]+1<=n by omega)
 have h3:(cg ((cg n f)[i]+1) f).length=i+1:=by
  have hs:cg ((cg n f)[i]+1) f=cg (cg n f)[i] f++[(cg n f)[i]]:=by rw[pT,h1.2];rfl
  have h4:=Kh f h1.1 h1.2;rw[hs,List.length_append]
  have h5:(cg (cg n f)[i] f).length=i:=by
   obtain⟨h6,h7⟩:=List.getElem?_eq_some_iff.1 h4;rcases Nat.lt_trichotomy (cg (cg n f)[i] f).length i with h|h|h
   ·have:=wW n f hi h;omega
   ·exact h
   ·have:=wW n f h6 h;omega
  simp[h5]
 have h4:=List.prefix_iff_eq_take.1 h2;rw[h3]at h4;exact h4
theorem NC(n:Nat) (f:Int) (dec:List Int) (ls:List (List Int)) (i:Nat) (hi:i<(cg n f).length):Gu f dec ls ((cg n f).getD i 0)=decide ((fS n f dec ls (i+1)).length=0):=by
 rw[show (cg n f).getD i 0=(cg n f)[i] by simp[hi]];unfold Gu fS;rw[NB n f i hi,Bool.eq_iff_iff];simp[List.length_eq_zero_iff,List.filter_eq_nil_iff]
def outpE(n:Nat) (f:Int) (dec:List Int) (ls:List (List Int)):Int:=uQ n f (Gu f dec ls)
def keptIx(p:Nat->Bool) (n:Nat):List Nat:=(List.range n).filter fun i=>!p i
theorem BK{α:Type} (xs:List α) (d:α):(List.range xs.length).map (fun i=>xs.getD i d)=xs:=by
 apply List.ext_getElem
 ·simp
 ·intro i h1 h2
  simp at h1;simp[h1]
def mP{α:Type} (p:Nat->Bool) (xs:List α) (d:α):List α:=(keptIx p xs.length).map fun i=>xs.getD i d
theorem He{α:Type} (q:α->Bool) (xs:List α) (d:α):mP (fun i=>q (xs.getD i d)) xs d=xs.filter fun x=>!q x:=by
 unfold mP keptIx
 conv=>rhs;rw[<-BK xs d]
 rw[List.filter_map];rfl
end Go.Proofs.YtkfgpnbpcpdclaaGreat
namespace Go.Proofs.YtkfgpnbpcpdclaaGreat
open Go.RowKit Go Go.Shelf
theorem pD(p:Nat->Bool) (n:Nat):keptIx p (n+1)=if p n then keptIx p n else keptIx p n++[n]:=by
 unfold keptIx;rw[List.range_succ,List.filter_append];cases h:p n<;>simp[h]
theorem uT(p:Nat->Bool) (n:Nat) (h:∀ j,j<n->p j=false):keptIx p n=List.range n:=by
 unfold keptIx;exact List.filter_eq_self.2 fun a ha=>by simp[h a (List.mem_range.1 ha)]
theorem ND{p:Nat->Bool} {n i:Nat} (h:i∈keptIx p n):i<n/\p i=false:=by
 simpa[keptIx] using h
theorem xg(g:Nat) (t:TypeId):∀ (vs:List Value) (o:Nat) (w:World) (d:Array Value),w.heap[g]?=some (.cells d t (0,0)) →
  ∃ d':Array Value,(w.setCells g o vs).heap[g]?=some (.cells d' t (0,0))/\d'.size=d.size/\(∀ j,j<o->d'[j]?=d[j]?)/\w.grownBy (w.setCells g o vs) (some g)
 | [],o,w,d,h=>⟨d,h,rfl,fun _ _=>rfl,⟨rfl,rfl,rfl,Nat.le_refl _,fun _ _ _=>rfl⟩⟩
 | v :: r,o,w,d,h=>by
  have h1:(w.setCell ⟨g,o,none⟩ v).heap[g]?=some (.cells (d.setIfInBounds o v) t (0,0)):=aE h _ _;obtain⟨d',h2,h3,h4,h5⟩:=xg g t r (o+1) _ _ h1;refine⟨d',h2,by simpa using h3,fun j hj=>?_,⟨h5.os,h5.tape,h5.output,by have h6:=h5.size;simp at h6;exact h6,fun k hk bH=>?_⟩⟩
  ·rw[h4 j (by omega),Array.getElem?_setIfInBounds_ne (by omega)]
  ·rw[show w.setCells g o (v :: r)=(w.setCell ⟨g,o,none⟩ v).setCells g (o+1) r from rfl,h5.block k (by simpa using hk) bH]
   exact Below.heap_setCell _ _ _ _ (fun e=>bH (by rw[e]))
theorem AE(g:Nat) (lb:Array Value) (eg:∀ args w,(callFunc g args).run Tryz.prog w=.ok (.enter g args) w) (v:Value) (xs:List Value) (p:Nat->Bool) (w:World) (hv:qV w v xs) (hn:xs.length<=17592186044416)
  (hp:∀ i (hi:i<xs.length) W,Below w.heap.size w W->Calls Tryz.prog g (#[xs[i]]++lb) W fun e W'=>e=.returned (.bool (p i))/\Below W.heap.size W W') :
  Calls Tryz.prog 163 #[v,.func (.func g) #[] lb] w fun e w'=>e=.returned (.int .i64 (firstIx xs.length p))/\Below w.heap.size w w':=by
 obtain⟨pa,ca,rfl,la1,ea,la3⟩:=hv;have EA:=aa ea;clear ea la1;have HP:=aa hp;clear hp;have H3:=aa la3;clear la3
 go_enter Tryz.func163,Tryz.ntmps163
 go_wp2
 go_loopw [8] (fun i wr=>Below w.heap.size w wr/\∃ k:Nat,k<=xs.length/\i=.int .i64 k/\∀ j,j<k->p j=false) (fun i _=>xs.length - (intOf i).toNat)
 case atStart=>exact⟨Below.refl _ _,0,by omega,rfl,by simp⟩
 case round=>
  obtain⟨aJ,k,hk,rfl,aO⟩:=hrel;have H:=aa aO;clear aO;by_cases aF:k<xs.length
  ·obtain⟨b1,o1,rfl,h1⟩:=EA.out k _ (List.getElem?_eq_getElem aF)
   have c1:=ay aJ h1;have b8:=HP.out k aF wr aJ;clear h1;generalize xs[k]=x at c1 b8;cases jv:p k with
   | true=>
    rw[jv]at b8;have bE:=aa b8;clear b8;have rB:=aa jv;clear jv
    go_wp2_with fail
    refine bE.out.mono ?_;rintro e w1 ⟨rfl,aG⟩
    go_wp2_with fail
    go_ret
    exact⟨aC (gY _ _ _ aF H.out rB.out).symm,aj aJ aG⟩
   | false=>
    rw[jv]at b8;have bE:=aa b8;clear b8;have rB:=aa jv;clear jv
    go_wp2_with fail
    refine bE.out.mono ?_;rintro e w1 ⟨rfl,aG⟩
    go_wp2_with fail
    go_roundw
    case rel=>exact⟨aj aJ aG,k+1,by omega,by go_num,aQ H.out rB.out⟩
    case measure=>simp[intOf];omega
  ·go_wp2
   go_ret
   exact⟨aC (by rw[fT];intro j hj;exact H.out j (by omega)),aJ⟩
theorem zf{w a b:World} {g:Nat} (h:w.grownBy a (some g)) (_hg:g<w.heap.size) (k:Below a.heap.size a b):w.grownBy b (some g):=
 ⟨k.os.trans h.os,k.tape.trans h.tape,k.output.trans h.output,Nat.le_trans h.size k.size,fun i hi bH=>(k.block i (Nat.lt_of_lt_of_le hi h.size)).trans (h.block i hi bH)⟩
theorem zj{w a b:World} {r:Option Nat} (h:w.grownBy a r) (k:a.grownBy b r):w.grownBy b r:=
 ⟨k.os.trans h.os,k.tape.trans h.tape,k.output.trans h.output,Nat.le_trans h.size k.size,fun i hi bH=>(k.block i (Nat.lt_of_lt_of_le hi h.size) bH).trans (h.block i hi bH)⟩
theorem NE(w:World) (g o:Nat) (v:Value):w.grownBy (w.setCell ⟨g,o,none⟩ v) (some g):=
 ⟨rfl,rfl,rfl,by simp,fun _ _ bH=>Below.heap_setCell _ _ _ _ (fun e=>bH (by rw[e]))⟩
structure KeptTo (p:Nat->Bool) (xs:List Value) (cur dk:Array Value) (i j:Nat):Prop where
 lt:i<j
 len:(keptIx p j).length=i
 size:dk.size=cur.size
 low:∀ t (_:t<i),dk[t]?=some (xs.getD ((keptIx p j).getD t 0) undef)
 high:∀ t,i<=t->dk[t]?=cur[t]?
theorem KeptTo.skip{p:Nat->Bool} {xs:List Value} {cur dk:Array Value} {i j:Nat} (h:KeptTo p xs cur dk i j) (hp:p j=true):KeptTo p xs cur dk i (j+1):=by
 have e:keptIx p (j+1)=keptIx p j:=by rw[pD,hp];rfl
 exact⟨by have:=h.lt;omega,by rw[e];exact h.len,h.size,fun t ht=>by rw[e];exact h.low t ht,h.high⟩
theorem KeptTo.keep{p:Nat->Bool} {xs:List Value} {cur dk:Array Value} {i j:Nat} (h:KeptTo p xs cur dk i j) (hp:p j=false) (hj:j<xs.length) (hc:xs.length<=cur.size):KeptTo p xs cur (dk.setIfInBounds i (xs[j])) (i+1) (j+1):=by
 have e:keptIx p (j+1)=keptIx p j++[j]:=by rw[pD,hp];rfl
 have hl:=h.len;have aF:=h.lt;refine⟨by omega,by rw[e];simp[hl],by simp[h.size],fun t ht=>?_,fun t ht=>?_⟩
 ·by_cases UW:t=i
  ·subst UW
   rw[Array.getElem?_setIfInBounds_self_of_lt (by rw[h.size];omega),e];have:(keptIx p j++[j]).getD t 0=j:=by simp[<-hl]
   rw[this];simp[hj]
  ·rw[Array.getElem?_setIfInBounds_ne (by omega),h.low t (by omega),e]
   have:(keptIx p j++[j]).getD t 0=(keptIx p j).getD t 0:=by
    rw[List.getD_eq_getElem?_getD,List.getElem?_append_left (by omega),List.getD_eq_getElem?_getD]
   rw[this]
 ·rw[Array.getElem?_setIfInBounds_ne (by omega),h.high t (by omega)]
theorem KeptTo.row{p:Nat->Bool} {xs:List Value} {cur dk d':Array Value} {i:Nat} (h:KeptTo p xs cur dk i xs.length) (hc:xs.length<=cur.size) (hs:d'.size=dk.size) (hd:∀ t,t<i->d'[t]?=dk[t]?):d'.toList.take i=mP p xs undef:=by
 have hl:=h.len;have aF:=h.lt;have dM:=h.size;apply List.ext_getElem?;intro t;by_cases ht:t<i
 ·rw[List.getElem?_take_of_lt ht,Array.getElem?_toList,hd t ht,h.low t ht]
  unfold mP;rw[List.getElem?_map,List.getD_eq_getElem?_getD (l:=keptIx p xs.length)];rw[List.getElem?_eq_getElem (by omega)];rfl
 ·rw[List.getElem?_eq_none (by simp;omega),List.getElem?_eq_none (by simp[mP];omega)]
theorem DD(f:Nat) (lb:Array Value) (eg:∀ args w,(callFunc f args).run Tryz.prog w=.ok (.enter f args) w) (base:Nat) (v:Value) (xs:List Value) (p:Nat->Bool) (w:World)
  (aW:w.ownsRow base 36 1 v xs.length xs) (hn:xs.length<=17592186044416) (pY:∀ x∈xs,∃ a n c,x=.slice a n c)
  (b8:∀ i (hi:i<xs.length) W,w.grownBy W v.ownBlock->Calls Tryz.prog f (#[xs[i]]++lb) W fun e W'=>e=.returned (.bool (p i))/\Below W.heap.size W W') :
  Calls Tryz.prog 203 #[v,.func (.func f) #[] lb] w fun e w'=>∃ u,e=.returned u/\u.ownBlock=v.ownBlock/\w'.ownsRow base 36 1 u (mP p xs undef).length (mP p xs undef)/\w.grownBy w' v.ownBlock:=by
 have AY:qV w v xs:=by
  obtain⟨a,cap,rfl,h1,h2,h3,h4,h5⟩:=ig aW;refine⟨a,cap,rfl,fun e=>⟨?_,h3 e⟩,fun i x hx=>?_,fun x hx=>?_⟩
  ·have:=h3 e;omega
  ·obtain⟨b,hb,hc⟩:=h5 i x hx;exact⟨b,0,hb,by simpa using hc⟩
  ·obtain⟨_,_,_,rfl⟩:=pY x hx;rfl
 have oM:=AE f lb eg v xs p w AY hn (fun i hi W hW=>b8 i hi W ⟨hW.os,hW.tape,hW.output,hW.size,fun k hk _=>hW.block k hk⟩);have Pq:=aa oM;clear oM AY;have KK:=aa pY;clear pY;by_cases jw:∀ j,j<xs.length->p j=false
 ·have hk:mP p xs undef=xs:=by unfold mP;rw[uT _ _ jw];exact BK _ _
  have hf:firstIx xs.length p=-1:=fT _ _ jw;have HK:=aa hk;have HF:=aa hf;have da:=aa aW;obtain⟨a,cap,rfl,_⟩:=ig aW;clear hk hf aW b8 jw
  go_enter Tryz.func203,Tryz.ntmps203
  go_wp2_with fail
  refine Pq.out.mono ?_;rintro e w1 ⟨rfl,aG⟩;rw[HF.out]
  go_wp2_with fail
  go_ret
  refine⟨_,rfl,rfl,?_,⟨aG.os,aG.tape,aG.output,aG.size,fun k hk _=>aG.block k hk⟩⟩;rw[HK.out];exact lW da.out aG
 ·obtain⟨k0,gW,ye,Ad⟩:∃ k0,k0<xs.length/\p k0=true/\∀ j,j<k0->p j=false:=by
   rcases dN xs.length p with h|⟨k,h1,h2,h3,h4⟩
   ·exact absurd h.2 jw
   ·exact⟨k,h1,h3,h4⟩
  have hf:firstIx xs.length p=k0:=gY _ _ _ gW Ad ye;have HF:=aa hf;clear hf jw;obtain⟨hl,aW⟩:=aW;rcases aW with ⟨rfl,h0⟩|⟨g,cap,cur,rfl,hg,hb,O4,hm,hs,ht⟩
  ·omega
  rw[Nat.mul_one]at hs ht;have HC:=aa b8;clear b8
  have hstart:KeptTo p xs cur cur k0 (k0+1):=⟨by omega,by rw[pD,ye,uT _ _ Ad];simp,rfl,fun t UW=>by
   rw[pD,ye,uT _ _ Ad];have h2:xs[t]?=some xs[t]:=List.getElem?_eq_getElem (by omega);have h1:cur[t]?=xs[t]?:=by rw[<-Array.getElem?_toList,<-ht,List.getElem?_take_of_lt (by omega)]
   rw[h1,h2]
   simp[UW,show t<xs.length by omega],fun _ _=>rfl⟩
  have kX:=aa hstart;have HB:=aa hb;have HT:=aa ht;have Ux:=aB hb;clear hstart hb ht ye Ad hl;have hne1:((k0:Int) == -1)=false:=beq_eq_false_iff_ne.2 (by omega);have hv7:=Tryz.zeroValue36
  go_enter Tryz.func203,Tryz.ntmps203
  go_wp2_with fail
  refine Pq.out.mono ?_;rintro e w1 ⟨rfl,aG⟩;rw[HF.out];have hgr1:w.grownBy w1 (some g):=⟨aG.os,aG.tape,aG.output,aG.size,fun k hk _=>aG.block k hk⟩
  go_wp2_with fail
  go_loopw [5,6,7] (fun s5 s6 _ wr=>w.grownBy wr (some g)/\∃ (i j:Nat) (dk:Array Value),s5=.int .i64 i/\s6=.int .i64 j/\j<=xs.length/\wr.heap[g]?=some (.cells dk 36)/\KeptTo p xs cur dk i j) (fun _ s6 _ _=>xs.length - (intOf s6).toNat)
  case atStart=>exact⟨hgr1,k0,k0+1,cur,rfl,by go_num,by omega,ak aG HB.out,kX.out⟩
  case round=>
   obtain⟨Cu,i,j,dk,rfl,rfl,K6,o8,Fz⟩:=hrel;have SZ:=Fz.lt;have K2:=Fz.size;have yj:=Cu.size;by_cases aF:j<xs.length
   ·have c1:=ae o8 j
    have e1:dk[j]?=some xs[j]:=by
     rw[Fz.high j (by omega),<-Array.getElem?_toList];have:=HT.out;rw[show cur.toList[j]?=(cur.toList.take xs.length)[j]? by rw[List.getElem?_take_of_lt aF],this];exact List.getElem?_eq_getElem aF
    rw[e1]at c1;have b8:=HC.out j aF wr Cu;obtain⟨ax,nx,cx,ex⟩:=KK.out xs[j] (List.getElem_mem aF);have HX:=aa ex;rw[ex]at c1 b8;have HKT:=aa Fz;have Mj:=aa o8;clear ex Fz o8 e1;cases KL:p j with
    | false=>
     rw[KL]at b8;have bE:=aa b8;clear b8;have UL:=aa KL;clear KL
     go_wp2_with fail
     refine bE.out.mono ?_;rintro e w2 ⟨rfl,aS⟩;have c2:∃ old,w2.cell? ⟨g,i,none⟩=some old:=⟨dk[i]'(by omega),by rw[ae (ak aS Mj.out)];exact Array.getElem?_eq_getElem _⟩;obtain⟨old,c2⟩:=c2;have f2:=aD (ak aS Mj.out) i;have iu:=aS.size;clear c1
     go_wp2_with fail
     go_roundw
     case rel=>
      refine⟨zj (zf Cu (by omega) aS) (NE _ _ _ _),i+1,j+1,dk.setIfInBounds i xs[j],by go_num,by go_num,by omega,?_,HKT.out.keep UL.out aF (by omega)⟩;rw[HX.out];exact aE (ak aS Mj.out) _ _
     case measure=>simp[intOf];omega
    | true=>
     rw[KL]at b8;have bE:=aa b8;clear b8;have UL:=aa KL;clear KL
     go_wp2_with fail
     refine bE.out.mono ?_;rintro e w2 ⟨rfl,aS⟩;clear c1
     go_wp2_with fail
     go_roundw
     case rel=>exact⟨zf Cu (by omega) aS,i,j+1,dk,rfl,by go_num,by omega,ak aS Mj.out,HKT.out.skip UL.out⟩
     case measure=>simp[intOf];omega
   ·obtain rfl:j=xs.length:=by omega
    have bW:∀ ty,(Builtin.clear_ #[30] ty #[.slice (some ⟨g,i,none⟩) (xs.length - i) (cap - i)]).run Tryz.prog wr=.ok (.tuple #[]) (wr.setCells g i (List.replicate (xs.length - i) (.slice none 0 0))):=
     fun ty=>by
      have:=Lib.run_clear_slice (P:=Tryz.prog) wr 30 36 ty (.slice none 0 0) Tryz.underlying30 Tryz.zeroValue36 rfl rfl g i (xs.length - i) (cap - i) (by omega)
       (fun t ht=>by rw[ae o8,Array.getElem?_eq_getElem (by omega)];rfl) (fun t ht=>aD o8 _)
      simpa using this
    obtain⟨d',r1,r2,r3,r4⟩:=xg g 36 (List.replicate (xs.length - i) (.slice none 0 0)) i wr dk o8;have R1:=aa r1;have R4:=aa r4;have lP:=aa (Fz.row (d':=d') (by omega) r2 r3);have qC:=aa Fz.len;clear Fz o8 r1 r3 r4;generalize hWW:wr.setCells g i (List.replicate (xs.length - i) (.slice none 0 0))=WW at bW R1 R4;clear hWW
    go_wp2_with fail
    go_ret
    have Pj:(mP p xs undef).length=i:=by simp[mP,qC.out]
    refine⟨_,rfl,rfl,⟨by simp,.inr ⟨g,cap,d',?_,hg,R1.out,by omega,hm,by omega,?_⟩⟩,zj Cu R4.out⟩
    ·rw[Pj];rfl
    ·rw[Pj,Nat.mul_one];exact lP.out
end Go.Proofs.YtkfgpnbpcpdclaaGreat
namespace Go.Proofs.YtkfgpnbpcpdclaaGreat
open Go.RowKit Go Go.Shelf
attribute [local go_sem] Oper.semAt_some
theorem Hf(p:Pb) (pc:Option Addr) (nc cc:Nat) (ps:Option Addr) (ns cs:Nat) (i:Int) (pu:Option Addr) (nu cu:Nat) (pd:Option Addr) (nd cd:Nat) (f:Int) (w:World) :
  Calls Tryz.prog 178 #[.agg (jJ p (.slice pc nc cc) (.slice ps ns cs) i (.slice pu nu cu) (.slice pd nd cd) f)] w fun e w'=>e=.returned (.func (.func 200) #[] #[.pointer (some ⟨w.heap.size,0,none⟩)])/\w'=w.alloc (.cells (jJ p (.slice pc nc cc) (.slice ps ns cs) i (.slice pu nu cu) (.slice pd nd cd) f) 205):=by
 go_enter Tryz.func178,Tryz.ntmps178
 go_wp2
 go_ret
 exact⟨rfl,rfl⟩
theorem Qw(p:Pb) (vc vs:Value) (ix:Int) (u:Value) (f:Int) (xv vd:Value) (v dec:List Int) (pr:Nat) (Bp Bx:Nat) (w:World) (hv:qV w xv (v.map (Value.int .i64))) (hp:w.heap[Bp]?=some (.cells #[.int .i64 pr] 3)) (hx:w.heap[Bx]?=some (.cells (jJ p vc vs ix u vd f) 205)) (hd:aU w vd dec) (h1:pr<v.length) (h2:pr<dec.length) :
  Calls Tryz.prog 204 #[xv,.pointer (some ⟨Bp,0,none⟩),.pointer (some ⟨Bx,0,none⟩)] w fun e w'=>e=.returned (.bool (v.getD pr 0 != dec.getD pr 0))/\Below w.heap.size w w':=by
 obtain⟨pa,ca,rfl,la1,ea,la3⟩:=hv;rw[List.length_map]at la1 ⊢;obtain⟨pd,cd,rfl,ld1,ld2,ed⟩:=hd.at;obtain⟨b1,o1,rfl,c1⟩:=ea pr (.int .i64 v[pr]) (by simp[h1]);obtain⟨b2,o2,rfl,c2,_⟩:=ed pr h2;rw[Nat.mul_one]at c2;have H1:Hid (v.getD pr 0=v[pr]):=aA 0 h1;have H2:Hid (dec.getD pr 0=dec[pr]):=aA 0 h2;generalize v[pr]=x at c1 H1;generalize dec[pr]=y at c2 H2;have t1:=ae hp 0;have t2:=ae hx 9;simp at t1 t2;have d1:∀ n,(w.drewN n).cell? ⟨b1,o1+pr,none⟩=some (.int .i64 x):=fun n=>c1
 have d2:∀ n,(w.drewN n).cell? ⟨b2,o2+pr,none⟩=some (.int .i64 y):=fun n=>c2
 have d3:∀ n,(w.drewN n).cell? ⟨Bp,0,none⟩=some (.int .i64 pr):=fun n=>t1
 have d4:∀ n,(w.drewN n).cell? ⟨Bx,9,none⟩=some (.slice (some ⟨b2,o2,none⟩) dec.length cd):=fun n=>t2
 clear ea ed hd hp hx la1 la3 c1 c2 t1 t2
 go_enter Tryz.func204,Tryz.ntmps204
 go_wp2_with fail
 go_quiet (fail)
 go_wp2_with fail
 go_ret
 exact⟨aV (by rw[H1.out,H2.out]),dC (Below.refl _ _) _⟩
structure Rest (base:Nat) (w w':World):Prop where
 os:w'.os=w.os
 tape:w'.tape=w.tape
 output:w'.output=w.output
 size:w.heap.size<=w'.heap.size
 keep:∀ (k:Nat) (o:Obj),w.heap[k]?=some o->(k<base\/∀ c f,o≠.cells c 36 f)->w'.heap[k]?=some o
theorem Rest.below{base:Nat} {w w':World} (h:Rest base w w') (hs:base<=w.heap.size):Below base w w':=
 ⟨h.os,h.tape,h.output,h.size,fun k hk=>by
  have h1:w.heap[k]?=some w.heap[k]:=Array.getElem?_eq_getElem (by omega)
  rw[h.keep k _ h1 (.inl hk),h1]⟩
theorem Rest.cells{base:Nat} {w w':World} (h:Rest base w w') {k:Nat} {c:Array Value} {t:TypeId} {f:Nat × Nat} (hk:w.heap[k]?=some (.cells c t f)) (ht:t≠36):w'.heap[k]?=some (.cells c t f):=
 h.keep k _ hk (.inr fun c' f' e=>ht (by cases e;rfl))
theorem Rest.row{base:Nat} {w w':World} (h:Rest base w w') {v:Value} {n:Nat} {xs:List Value} (hv:w.ownsRow base 3 1 v n xs):w'.ownsRow base 3 1 v n xs:=by
 obtain⟨hl,hv⟩:=hv;refine⟨hl,?_⟩;rcases hv with hv|⟨g,cap,cur,h1,h2,h3,h4⟩
 ·exact .inl hv
 ·exact .inr ⟨g,cap,cur,h1,h2,h.cells h3 (by decide),h4⟩
theorem vL{base:Nat} {w w':World} {v:Value} {n:Nat} {xs:List Value} (hv:w.ownsRow base 36 1 v n xs) (hg:w.grownBy w' v.ownBlock):Rest base w w':=
 ⟨hg.os,hg.tape,hg.output,hg.size,fun k o hk ho=>by
  refine(hg.block k (aB hk) (fun e=>?_)).trans hk;rcases hv.2 with ⟨rfl,_⟩|⟨g,cap,cur,rfl,h2,h3,_⟩
  ·cases e
  ·cases e
   rw[hk]at h3;cases h3;rcases ho with ho|ho
   ·dsimp only at ho;omega
   ·exact ho _ _ rfl⟩
theorem zk{w:World} {base:Nat} {e:TypeId} {v:Value} {n:Nat} {xs:List Value} (h:w.ownsRow base e 1 v n xs) (h1:∀ x∈xs,x.oneCell'=true):qV w v xs:=by
 obtain⟨a,cap,rfl,h2,h3,h4,rfl,h5⟩:=ig h;exact⟨a,cap,rfl,fun e=>⟨by have:=h4 e;omega,h4 e⟩,fun i x hx=>by obtain⟨b,hb,hc⟩:=h5 i x hx;exact⟨b,0,hb,by simpa using hc⟩,h1⟩
theorem DE(g:Nat) (lb:Array Value) (eg:∀ args w,(callFunc g args).run Tryz.prog w=.ok (.enter g args) w) (base:Nat) (v:Value) (ls:List (List Int)) (q:List Int->Bool) (w:World)
  (hf:gJ w base v ls) (hn:ls.length<=17592186044416)
  (b8:∀ xv l W,l∈ls->Rest base w W->qV W xv (l.map (Value.int .i64))->Calls Tryz.prog g (#[xv]++lb) W fun e W'=>e=.returned (.bool (q l))/\Below W.heap.size W W') :
  Calls Tryz.prog 203 #[v,.func (.func g) #[] lb] w fun e w'=>∃ a c,e=.returned (.slice a (ls.filter fun l=>!q l).length c)/\gJ w' base (.slice a (ls.filter fun l=>!q l).length c) (ls.filter fun l=>!q l)/\Rest base w w':=by
 obtain⟨xs,h1,h2⟩:=hf;have hl:xs.length=ls.length:=by have:=h1.1;omega
 rw[<-hl]at h1
 have pY:∀ x∈xs,∃ a n c,x=.slice a n c:=fun x hx=>by
  obtain⟨i,hi,rfl⟩:=List.getElem_of_mem hx;obtain⟨a,c,e,_⟩:=ig (h2 i (by omega) hi);exact⟨a,_,c,e⟩
 refine(DD g lb eg base v xs (fun i=>q (ls.getD i [])) w h1 (by omega) pY ?_).mono ?_
 ·intro i hi W hW
  have hr:=vL h1 hW;rw[show ls.getD i []=ls[i] by simp[show i<ls.length by omega]];exact b8 _ _ _ (List.getElem_mem _) hr (zk (hr.row (h2 i (by omega) hi)) (fun x hx=>by obtain⟨y,_,rfl⟩:=List.mem_map.1 hx;rfl))
 ·rintro e w' ⟨u,rfl,_,ho,hg⟩
  have hr:=vL h1 hg;have ef:(ls.filter fun l=>!q l)=(keptIx (fun i=>q (ls.getD i [])) xs.length).map fun i=>ls.getD i []:=by rw[<-He q ls [],hl];rfl
  have e0:mP (fun i=>q (ls.getD i [])) xs undef=(keptIx (fun i=>q (ls.getD i [])) xs.length).map fun i=>xs.getD i undef:=rfl
  have hK:∀ j∈keptIx (fun i=>q (ls.getD i [])) xs.length,j<xs.length:=fun j hj=>(ND hj).1
  rw[e0]at ho;rw[ef];generalize keptIx (fun i=>q (ls.getD i [])) xs.length=K at ho hK;rw[List.length_map]at ho ⊢;obtain⟨a,c,rfl,_⟩:=ig ho;refine⟨a,c,rfl,⟨_,by rw[List.length_map];exact ho,fun i hi hx=>?_⟩,hr⟩;rw[List.length_map]at hi;have hj:=hK K[i] (List.getElem_mem hi);rw[List.getElem_map,List.getElem_map,aA undef hj,aA [] (by omega)];exact hr.row (h2 _ (by omega) hj)
theorem Es{w w':World} {base:Nat} {e:TypeId} {v:Value} {n:Nat} {xs:List Value} (h:w.ownsRow base e 1 v n xs) (hc:∀ k c f,base<=k->w.heap[k]?=some (.cells c e f)->w'.heap[k]?=some (.cells c e f)):w'.ownsRow base e 1 v n xs:=by
 obtain⟨hl,h⟩:=h;refine⟨hl,?_⟩;rcases h with h|⟨g,cap,cur,h1,h2,h3,h4⟩
 ·exact .inl h
 ·exact .inr ⟨g,cap,cur,h1,h2,hc _ _ _ h2 h3,h4⟩
theorem qW{w w':World} {base:Nat} {v:Value} {l:List (List Int)} (h:gJ w base v l) (hc:∀ k c t f,base<=k->t=36\/t=3->w.heap[k]?=some (.cells c t f)->w'.heap[k]?=some (.cells c t f)):gJ w' base v l:=by
 obtain⟨xs,h1,h2⟩:=h;exact⟨xs,Es h1 fun k c f hk=>hc k c _ f hk (.inl rfl),fun i hi hx=>Es (h2 i hi hx) fun k c f hk=>hc k c _ f hk (.inr rfl)⟩
theorem sW{w:World} {base:Nat} {v:Value} {l:List (List Int)} (h:gJ w base v l):∃ a c,v=.slice a l.length c:=by
 obtain⟨xs,h1,_⟩:=h;obtain⟨a,c,e,_⟩:=ig h1;exact⟨a,c,e⟩
theorem NF{w:World} {base:Nat} {v:Value} {l:List (List Int)} (h:gJ w base v l):∃ xs,xs.length=l.length/\qV w v xs/\∀ i (hi:i<l.length) (hx:i<xs.length),w.ownsRow base 3 1 xs[i] l[i].length (l[i].map (Value.int .i64)):=by
 obtain⟨xs,h1,h2⟩:=h;have hl:xs.length=l.length:=by have:=h1.1;omega
 refine⟨xs,hl,zk h1 (fun x hx=>?_),h2⟩;obtain⟨i,hi,rfl⟩:=List.getElem_of_mem hx;obtain⟨a,c,e,_⟩:=ig (h2 i (by omega) hi);rw[e];rfl
structure FI (Wm:World) (n0 l B3 Bx By:Nat) (sc:Array Value) (J:Nat->World->Prop) (ls:Nat->List (List Int)) (i:Nat) (W:World):Prop where
 size:n0<=W.heap.size
 j:J i W
 old:CK Wm W
 sx:W.heap[Bx]?=some (.cells sc 205)
 sy:W.heap[By]?=some (.cells sc 205)
 yb:W.heap[n0]?=some (.cells #[.func (.yield l) #[] #[]] 298)
 row:∃ v,W.heap[B3]?=some (.cells #[v] 30)/\gJ W n0 v (ls i)
theorem FI.sta{Wm:World} {n0 l B3 Bx By:Nat} {sc:Array Value} {J:Nat->World->Prop} {ls:Nat->List (List Int)} {i B:Nat} (hJ:∀ i A A',J i A->Below n0 A A'->J i A') (hB:n0<=B):bR B (FI Wm n0 l B3 Bx By sc J ls i):=fun A A' hc h=>by
 obtain⟨v,hv,hf⟩:=h.row;exact⟨Nat.le_trans h.size hc.size,hJ _ _ _ h.j (hc.belowN hB h.size),fun k o hk ho=>hc.ck k o (h.old k o hk ho) ho,hc.ck _ _ h.sx rfl,hc.ck _ _ h.sy rfl,hc.ck _ _ h.yb rfl,v,hc.ck _ _ hv rfl,qW hf fun k c t f _ _ hk=>hc.ck k _ hk rfl⟩
def WR(n:Nat) (f:Int) (dec:List Int) (L:List (List Int)) (i:Nat) (args:Array Value):Prop:=∃ a c,args=#[.int .i64 ((cg n f).getD i 0),.slice a (fS n f dec L (i+1)).length c]
theorem F7(p:Pb) (pc:Option Addr) (nc cc:Nat) (ps:Option Addr) (ns cs:Nat) (ix:Int) (pu:Option Addr) (nu cu:Nat) (pd:Option Addr) (cd:Nat) (dec:List Int) (f:Int) (n:Nat) (hn:p.t.n=n) (kr:n<=5) (lH:dec.length=n) (Wm w:World) (Bx:Nat)
  (hm:Below Wm.heap.size Wm w) (hc:bJ Wm (.slice pc nc cc) p.t.cases) (hd:aU Wm (.slice pd dec.length cd) dec)
  (hx:w.heap[Bx]?=some (.cells (jJ p (.slice pc nc cc) (.slice ps ns cs) ix (.slice pu nu cu) (.slice pd dec.length cd) f) 205))
  (hL:(bI p.t ix f).length<=1024/\∀ v∈bI p.t ix f,v.length=n) :
  GQ Tryz.prog 200 #[.pointer (some ⟨Bx,0,none⟩)] (WR n f dec (bI p.t ix f)) (cg n f).length (fun k=>k<Wm.heap.size\/k=Bx) w:=by
 intro yl J Jx W hW Uw hJ kT hY h0;have dV:=ak hW hx;have jN:=aj hm hW;clear hx hW hm;have HN:=aa hn;clear hn;have HJ:=aa hJ;clear hJ;have CA:=aa kT;clear kT;have HY:=aa hY;clear hY;have Js:=aa lH;clear lH;have HL:=aa hL;clear hL;have HC:=aa hc;clear hc;have gk:=aa dV;have cJ:=aB dV;have t1:=ae dV;clear dV;refine eI Tryz.func200 rfl ?_;simp only[Tryz.ntmps200,List.size_toArray,List.length_cons,List.length_nil,Nat.reduceAdd,Nat.reduceSub,Array.replicate_succ,Array.replicate_zero,List.push_toArray,List.append_toArray,List.nil_append,List.cons_append]
 go_wp2_with fail
 refine aT (fun W0=>Below W.heap.size W W0/\W0.heap[W.heap.size]?=some (.cells #[.func (.yield yl) #[] #[]] 298)) ⟨by go_grown,ar _ _⟩ (fun W0 bd=>?_);obtain⟨aH,hY0⟩:=bd;refine(JO p.t _ ix f W0 (HC.out.up up_case (aj jN aH))).mono ?_;rintro e w1 ⟨u,rfl,hu,aG⟩;have hY1:=ak aG hY0;have bU:=aj aH aG;have dp:=aH.size;have du:=bU.size
 have KF:gJ w1 W.heap.size u (bI p.t ix f):=by
  obtain⟨xs,q1,q2⟩:=hu;exact⟨xs,lr q1 dp,fun i hi hx=>lr (q2 i hi hx) dp⟩
 have HU:=aa KF;obtain⟨au,cu',rfl⟩:=sW KF;have S3:=aa hY1;clear hu KF hY0 hY1 t1
 go_wp2_with fail
 refine aT (fun W2=>Below w1.heap.size w1 W2/\W2.heap[w1.heap.size]?=some (.cells #[.slice au (bI p.t ix f).length cu'] 30)) ⟨by go_grown,by first|exact ar _ _|(rw[aE (ar _ _)];rfl)⟩ (fun W2 jD=>?_);obtain⟨aS,KE⟩:=jD;have oh:=qW HU.out (fun k c t f _ _ hk=>ak aS hk);obtain⟨xs,nH,K5,hxo⟩:=NF oh;refine(GV _ xs W2 K5 (by have:=HL.out.1;omega)).mono ?_;rintro e w3 ⟨u3,rfl,Pn,bA⟩;have eB:=aS.size;have wn:=bA.size
 have Pr:gJ w3 W.heap.size u3 (bI p.t ix f):=
  ⟨xs,lr (by rw[nH]at Pn;exact Pn) (by omega),fun i hi hx=>lW (hxo i hi hx) bA⟩
 have gQ:=ak bA KE;have wg:=ak bA (ak aS (ak bU gk.out));have Ph:=ak bA (ak aS S3.out);have RT:Below W.heap.size W w3:=aj bU (aj aS bA);have c1:=ae gQ 0;have f1:=aD gQ 0;simp at c1;have t1:=ae wg;have HF3:=aa Pr;obtain⟨a3,c3,rfl⟩:=sW Pr;have io:=aa gQ;have qh:=aa wg;have HY3:=aa Ph;have hbx3:Bx<w3.heap.size:=aB wg;have hw13:w1.heap.size<w3.heap.size:=aB gQ;have Wp:W.heap.size<w1.heap.size:=aB S3.out;have RF:¬ Bx=w1.heap.size:=by have:=bU.size;omega
 have hbx1':¬ w1.heap.size=Bx:=by omega
 clear oh nH K5 hxo Pn KE Pr gQ wg Ph
 go_wp2_with fail
 refine aT (fun W4=>Below W.heap.size w3 W4/\FI Wm W.heap.size yl w1.heap.size Bx Bx (jJ p (.slice pc nc cc) (.slice ps ns cs) ix (.slice pu nu cu) (.slice pd dec.length cd) f) J (fS n f dec (bI p.t ix f)) 0 W4) ?_ (fun W4 hW4=>?_)
 ·have bM:Below W.heap.size w3 (w3.setCell ⟨w1.heap.size,0,none⟩ (.slice a3 (bI p.t ix f).length c3)):=(Below.refl _ _).setCell (p:=⟨w1.heap.size,0,none⟩) (by dsimp only;omega) _
  refine⟨bM,⟨Nat.le_trans RT.size bM.size,?_,?_,?_,?_,?_,?_⟩⟩
  ·exact HJ.out 0 _ _ h0 (RT.trans bM)
  ·exact .of_below ((aj jN RT).setCell (p:=⟨w1.heap.size,0,none⟩) (by have:=jN.size;dsimp only;omega) _)
  ·exact aI qh.out RF _ _
  ·exact aI qh.out RF _ _
  ·exact aI HY3.out (by omega) _ _
  ·refine⟨_,aE io.out _ _,?_⟩
   rw[TC];refine qW HF3.out fun k c t f _ ht hk=>aI hk (fun e=>?_) _ _
   subst e;have:=io.out;rw[hk]at this;cases this;rcases ht with ht|ht<;>cases ht
 obtain⟨bM,Vv⟩:=hW4;refine(ze p _ _ _ _ _ _ _ _ _ _ _ _ _ _ _).mono ?_;rintro e w5 ⟨rfl,rfl⟩;clear t1 c1 f1
 go_wp2_with fail
 refine bw (fun W5=>W4.heap.size<W5.heap.size/\FI Wm W.heap.size yl w1.heap.size Bx W4.heap.size (jJ p (.slice pc nc cc) (.slice ps ns cs) ix (.slice pu nu cu) (.slice pd dec.length cd) f) J (fS n f dec (bI p.t ix f)) 0 W5) ?_ (fun W5 qP=>?_)
 ·have h5:=FI.sta (B:=W.heap.size) HJ.out (Nat.le_refl _) W4 (W4.alloc (.cells (jJ p (.slice pc nc cc) (.slice ps ns cs) ix (.slice pu nu cu) (.slice pd dec.length cd) f) 205)) (.of_below (by go_grown)) Vv
  exact⟨by simp,⟨h5.size,h5.j,h5.old,h5.sx,ar _ _,h5.yb,h5.row⟩⟩
 obtain⟨Tf,US⟩:=qP;have bP:=xf p _ _ ix _ _ f n HN.out kr W5 W4.heap.size US.sy;have hn5':W.heap.size<=W4.heap.size:=Vv.size;have HF5:=aa US;have HD:=aa hd;have UT:=bM.size;clear US Vv bM h0 hd
 refine kG (gf:=199) (lb:=#[.pointer (some ⟨W4.heap.size,0,none⟩)]) rfl (enters_of Tryz.func199 (by kernel_rfl) rfl) bP (Below.refl _ _) (fun k hk=>by subst hk;exact Tf) (fun i=>rfl)
  (FI Wm W.heap.size yl w1.heap.size Bx W4.heap.size (jJ p (.slice pc nc cc) (.slice ps ns cs) ix (.slice pu nu cu) (.slice pd dec.length cd) f) J (fS n f dec (bI p.t ix f)))
  (fun c i W'=>c=.ret/\W.heap.size<=W'.heap.size/\Jx i W')
  (fun i=>FI.sta HJ.out (by omega)) (fun c i=>fun A A' hc h=>⟨h.1,Nat.le_trans h.2.1 hc.size,CA.out _ _ _ h.2.2 (hc.belowN (by omega) h.2.1)⟩) HF5.out ?round ?done ?stop
 case round=>
  intro l2 i W6 hi l8 hI;unfold Hd;have zJ:=tV hi;have uj:Hid ((cg n f).getD i 0=(cg n f)[i]):=aA 0 hi;rw[aA 0 hi];have HSU:=aa (TD n f dec (bI p.t ix f) i hi);generalize (cg n f)[i]=pr at zJ uj HSU;have HI:=aa hI;have hz6:=aB hI.sy;have hs6:=hI.size;clear hI bP
  gi_wp2
  refine⟨Bod.of_below (fun k hk=>by omega) (by go_grown),fun W'=>FI Wm W.heap.size yl w1.heap.size Bx W4.heap.size (jJ p (.slice pc nc cc) (.slice ps ns cs) ix (.slice pu nu cu) (.slice pd dec.length cd) f) J (fS n f dec (bI p.t ix f)) i W'/\W'.heap[W6.heap.size]?=some (.cells #[.int .i64 pr] 3),(FI.sta HJ.out (by omega)).and bR.cells,⟨FI.sta (B:=W.heap.size) HJ.out (Nat.le_refl _) _ _ (.of_below (by go_grown)) HI.out,ar _ _⟩,fun W7 h7 _=>?_⟩;obtain⟨h7,VQ⟩:=h7;obtain⟨v,hv,hf⟩:=h7.row;have hbx7:=aB h7.sx;have hb37:=aB hv;have c1:=ae hv 0;have f1:=aD hv 0;simp at c1
  have HDEL:=aa (DE 204 #[.pointer (some ⟨W6.heap.size,0,none⟩),.pointer (some ⟨Bx,0,none⟩)] (enters_of Tryz.func204 (by kernel_rfl) rfl) W.heap.size v (fS n f dec (bI p.t ix f) i) (fun l=>l.getD pr 0 != dec.getD pr 0) W7 hf
   (Nat.le_trans (List.length_filter_le _ _) (by have:=HL.out.1;omega))
   (fun xv l W8 hl hr AY=>Qw p _ _ ix _ f xv _ l dec pr W6.heap.size Bx W8 AY (hr.cells VQ (by decide)) (hr.cells h7.sx (by decide)) (HD.out.ck up_int (fun k o hk ho=>hr.keep k o (h7.old k o hk ho) (.inl (by have:=aB hk;have:=jN.size;omega)))) (by rw[HL.out.2 l (Ua hl)];exact zJ.1) (by rw[Js.out];exact zJ.1)))
  have Tg:=aa VQ;have H7:=aa h7;obtain⟨a7,c7,rfl⟩:=sW hf;have HV7:=aa hv;have hb36:w1.heap.size<W6.heap.size:=by obtain⟨v',q1,_⟩:=HI.out.row;exact aB q1
  clear h7 VQ hf hv
  gi_wp2
  refine⟨trivial,rfl,kQ (HDEL.out.mono ?_)⟩;rintro e w8 ⟨a8,c8,rfl,V6,IA⟩;rw[<-HSU.out]at V6 ⊢;have SB:=IA.cells HV7.out (by decide);have Vf:=IA.cells H7.out.yb (by decide);have VR:=IA.cells Tg.out (by decide);have hs8:=IA.size;have hs7:=H7.out.size;have fh:Below W.heap.size W7 (w8.setCell ⟨w1.heap.size,0,none⟩ (.slice a8 (fS n f dec (bI p.t ix f) (i+1)).length c8)):=(IA.below hs7).setCell (p:=⟨w1.heap.size,0,none⟩) (by dsimp only;omega) _;obtain⟨fn,tmps,assign,body,hy,hR⟩:=HY.out i _ #[.int .i64 pr,.slice a8 (fS n f dec (bI p.t ix f) (i+1)).length c8] hi ⟨a8,c8,by rw[uj.out]⟩ (Nat.le_trans hs7 fh.size) (HJ.out i _ _ H7.out.j fh);have HR:=aa hR;have c1:=ae SB 0;have f1:=aD SB 0;have c2:=ae Vf 0;have c3:=ae VR 0;simp at c1 c2 c3;have O6:=aa SB;have HY8:=aa Vf;have HP8:=aa VR;have HF8:=aa V6;have HR8:=aa IA;have e1:¬ W.heap.size=w1.heap.size:=by omega
  have e2:¬ W6.heap.size=w1.heap.size:=by omega
  have kh:=aa fh;clear hR SB Vf VR V6 IA fh
  gi_wp2
  refine⟨rfl,(F1 HR.out).mono ?_⟩;rintro e W10 ⟨aW,fO⟩;have JA:=kh.out.size;have hs10:=aW.1
  have key:∀ k o,W7.heap[k]?=some o->k≠w1.heap.size->(k<W.heap.size\/∀ c f,o≠.cells c 36 f)->((k<Wm.heap.size\/k=Bx)\/W.heap.size<=k)->W10.heap[k]?=some o:=fun k o hk bH ho hS=>by
   have h9:=aI (B:=w1.heap.size) (HR8.out.keep k o hk ho) bH 0 (.slice a8 (fS n f dec (bI p.t ix f) (i+1)).length c8);exact(aW.2 k hS (aB h9)).trans h9
  have AO:Bod W5.heap.size (fun k=>k=W4.heap.size) W7 W10:=⟨Nat.le_trans JA hs10,fun k hk=>by
    subst hk
    rw[key _ _ H7.out.sy (by omega) (.inr fun c f e=>by cases e) (.inr hn5'),H7.out.sy],
   fun k o hB hk ho=>key k o hk (by omega) (.inr fun c f e=>by subst e;cases ho) (.inr (by omega))⟩
  rcases fO with ⟨rfl,hj⟩|⟨rfl,K6⟩
  ·have hfi:FI Wm W.heap.size yl w1.heap.size Bx W4.heap.size (jJ p (.slice pc nc cc) (.slice ps ns cs) ix (.slice pu nu cu) (.slice pd dec.length cd) f) J (fS n f dec (bI p.t ix f)) (i+1) W10:=by
    refine⟨by omega,hj,fun k o hk ho=>?_,key _ _ H7.out.sx RF (.inr fun c f e=>by cases e) (.inl (.inr rfl)),key _ _ H7.out.sy (by omega) (.inr fun c f e=>by cases e) (.inr hn5'),key _ _ H7.out.yb (by omega) (.inr fun c f e=>by cases e) (.inr (Nat.le_refl _)),?_⟩
    ·have h1:=aB hk
     have h2:=jN.size;exact key k o (H7.out.old k o hk ho) (by omega) (.inl (by omega)) (.inl (.inl h1))
    ·have eA:=aE O6.out 0 (.slice a8 (fS n f dec (bI p.t ix f) (i+1)).length c8)
     refine⟨_,(aW.2 _ (.inr (by omega)) (aB eA)).trans eA,qW HF8.out fun k c t fz hk ht hc=>?_⟩
     have h9:=aI (B:=w1.heap.size) hc (fun e=>by
      subst e;have:=O6.out;rw[hc]at this;cases this
      rcases ht with ht|ht<;>cases ht) 0 (.slice a8 (fS n f dec (bI p.t ix f) (i+1)).length c8)
     exact(aW.2 k (.inr hk) (aB h9)).trans h9
   have S0:=aa (And.intro AO hfi);clear JA hs10 key hfi AO
   gi_wp2
   exact S0.out
  ·gi_wp2
   exact⟨AO,rfl,by omega,K6⟩
 case done=>
  intro D W6 hD hI hK;refine M9 hK (results_none rfl _ _ _) ?_;exact⟨⟨_,rfl⟩,.inl (HJ.out _ _ _ hI.j (cT (by omega) (Below.refl _ _)))⟩
 case stop=>
  rintro D c i W6 hD hi ⟨rfl,g1,g2⟩ hK;clear bP
  go_wp2_with fail
  refine dH hK (results_none rfl _ _ _) ?_;exact⟨⟨_,rfl⟩,.inr ⟨_,hi,CA.out _ _ _ g2 (cT (by omega) (Below.refl _ _))⟩⟩
def Hg(n:Nat) (f:Int) (dec:List Int) (L:List (List Int)) (q:Nat):Prop:=∀ j,j<q->Gu f dec L ((cg n f).getD j 0)=false
theorem LF(p:Pb) (vc:Value) (ps:Option Addr) (ns cs:Nat) (i:Int) (pu:Option Addr) (nu cu:Nat) (vd:Value) (dec:List Int) (f:Int) (n:Nat) (hn:p.t.n=n) (kr:n<=5) (hl:dec.length=n) (w:World) (hc:bJ w vc p.t.cases) (hd:aU w vd dec)
  (hL:(bI p.t i f).length<=1024/\∀ v∈bI p.t i f,v.length=n) :
  Calls Tryz.prog 141 #[.agg (jJ p vc (.slice ps ns cs) i (.slice pu nu cu) vd f)] w fun e w'=>e=.returned (.tuple #[.int .i64 (outpE n f dec (bI p.t i f)),.bool (decide (0<=outpE n f dec (bI p.t i f)))])/\Below w.heap.size w w':=by
 generalize hLe:bI p.t i f=L at hL ⊢;have rG:=aa hLe;clear hLe;have HD:=aa hd;have HC:=aa hc;obtain⟨pd,cd,rfl,_⟩:=hd;obtain⟨pc,cc,rfl,_⟩:=hc;have HL:=aa hl;clear hl;have FS:=aa hL;clear hL;refine eI Tryz.func141 rfl ?_;simp only[Tryz.ntmps141,List.size_toArray,List.length_cons,List.length_nil,Nat.reduceAdd,Nat.reduceSub,Array.replicate_succ,Array.replicate_zero,List.push_toArray,List.append_toArray,List.nil_append,List.cons_append];have HN:=aa hn;clear hn
 go_wp2_with fail
 refine(Hf p _ _ _ _ _ _ _ _ _ _ _ _ _ _ _).mono ?_;rintro e w1 ⟨rfl,rfl⟩
 go_wp2_with fail
 refine bw (fun W=>Below w.heap.size w W/\W.heap[w.heap.size+1]?=some (.cells #[.int .i64 0] 3)/\W.heap[w.heap.size+1+1]?=some (.cells #[.bool false] 4)/\W.heap[w.heap.size+1+1+1]?=some (.cells (jJ p (.slice pc p.t.cases.length cc) (.slice ps ns cs) i (.slice pu nu cu) (.slice pd dec.length cd) f) 205))
  ⟨by go_grown,aq _ (aq _ (aX _ _ _)),aq _ (cV _ _ _ _),by simpa using ar (((w.alloc _).alloc _).alloc _) _⟩ (fun W0 bd=>?_)
 obtain⟨aH,lL,kx,hX⟩:=bd;have bP:=F7 p _ _ _ _ _ _ i _ _ _ _ _ dec f n HN.out kr HL.out w W0 (w.heap.size+1+1+1) aH HC.out HD.out hX (by rw[rG.out];exact FS.out);rw[rG.out]at bP;have dM:=aB hX
 refine yS (gf:=200) (lb:=#[.pointer (some ⟨w.heap.size+1+1+1,0,none⟩)]) rfl (enters_of Tryz.func200 (by kernel_rfl) rfl) bP (Below.refl _ _) (fun k hk=>by omega) (fun i args h=>by obtain⟨a,c,rfl⟩:=h;rfl)
  (fun q W=>Below w.heap.size w W/\W.heap[w.heap.size+1]?=some (.cells #[.int .i64 0] 3)/\W.heap[w.heap.size+1+1]?=some (.cells #[.bool false] 4)/\Hg n f dec L q)
  (fun c _ W=>c=.ret/\Below w.heap.size w W/\0<=outpE n f dec L/\W.heap[w.heap.size+1]?=some (.cells #[.int .i64 (outpE n f dec L)] 3)/\W.heap[w.heap.size+1+1]?=some (.cells #[.bool true] 4))
  (fun i A A' h hb=>⟨h.1.trans (hb.mono (by omega)),(hb.block _ (by omega)).trans h.2.1,(hb.block _ (by omega)).trans h.2.2.1,h.2.2.2⟩)
  (fun c i A A' h hb=>⟨h.1,h.2.1.trans (hb.mono (by omega)),h.2.2.1,(hb.block _ (by omega)).trans h.2.2.2.1,(hb.block _ (by omega)).trans h.2.2.2.2⟩) ⟨aH,lL,kx,fun j hj=>by omega⟩ ?round ?done ?stop
 case round=>
  rintro yl q W args hq hl hlw ⟨a,c,rfl⟩ hI;have U6:=aa (NC n f dec L q hq);have zJ:=tV hq;have uj:Hid ((cg n f).getD q 0=(cg n f)[q]):=aA 0 hq;rw[aA 0 hq];generalize (cg n f)[q]=pr at zJ uj;generalize (fS n f dec L (q+1)).length=m at U6;have HI:=aa hI;clear hI bP
  gi_wp2
  refine⟨Bod.refl _ _ _,fun W=>Below w.heap.size w W/\W.heap[w.heap.size+1]?=some (.cells #[.int .i64 0] 3)/\W.heap[w.heap.size+1+1]?=some (.cells #[.bool false] 4)/\Hg n f dec L q,(bR.below (w:=w) (by omega)).and (bR.cells.and (bR.cells.and bR.pure)),HI.out,fun W2 h2 _=>?_⟩;obtain⟨g1,g3,g4,g5⟩:=h2;have HG:=aa (And.intro g1 (And.intro g3 (And.intro g4 g5)));have c3:=ae g3 0;have f3:=aD g3 0;have c4:=ae g4 0;have f4:=aD g4 0;simp at c3 c4;have Iu:=aB g4;clear g1 g3 g4 g5 lL kx hX;by_cases hx:m=0
  ·subst hx
   gi_wp2
   obtain⟨g1,g3,g4,g5⟩:=HG.out
   have hE:outpE n f dec L=pr:=by
    unfold outpE;rw[yY hq g5 (by rw[U6.out];rfl),uj.out]
   refine⟨(Bod.setCell _ ⟨w.heap.size+1,0,none⟩ _ (fun h=>by dsimp only at h;omega)).trans (Bod.setCell _ ⟨w.heap.size+1+1,0,none⟩ _ (fun h=>by dsimp only at h;omega)),rfl,(g1.setCell (p:=⟨w.heap.size+1,0,none⟩) (by dsimp only;omega) _).setCell (p:=⟨w.heap.size+1+1,0,none⟩) (by dsimp only;omega) _,by omega,?_,?_⟩
   ·refine aI (B:=w.heap.size+1+1) ?_ (by omega) _ _
    rw[aE g3,hE];rfl
   ·rw[aE (aI (B:=w.heap.size+1) g4 (by omega) _ _)];rfl
  ·gi_wp2
   obtain⟨g1,g3,g4,g5⟩:=HG.out;exact⟨Bod.refl _ _ _,g1,g3,g4,aQ g5 (by rw[U6.out];simpa using hx)⟩
 case done=>
  intro D W hD hI hK;obtain⟨g1,g3,g4,g5⟩:=hI;have HG:=aa (And.intro g1 (And.intro g3 (And.intro g4 g5)));have c3:=ae g3 0;have f3:=aD g3 0;have c4:=ae g4 0;have f4:=aD g4 0;simp at c3 c4;clear g1 g3 g4 g5 bP lL kx hX
  go_wp2_with fail
  obtain⟨g1,g3,g4,g5⟩:=HG.out;have hE:outpE n f dec L=-1:=vJ g5;refine dH (aI (B:=w.heap.size+1+1) (aI (B:=w.heap.size+1) hK (by omega) _ _) (by omega) _ _) (pC _ _ Tryz.results141 (w.heap.size+1) (w.heap.size+1+1) _ (-1) false _ _ rfl rfl ((World.putObj_heap_other (by omega)).trans (aI (B:=w.heap.size+1+1) (by rw[aE g3];rfl) (by omega) _ _)) ((World.putObj_heap_other (by omega)).trans (by rw[aE (aI (B:=w.heap.size+1) g4 (by omega) _ _)];rfl))) ?_;exact⟨t6 hE.symm (by rw[hE];rfl),cT (by omega) ((g1.setCell (p:=⟨w.heap.size+1,0,none⟩) (by dsimp only;omega) _).setCell (p:=⟨w.heap.size+1+1,0,none⟩) (by dsimp only;omega) _)⟩
 case stop=>
  rintro D c i W hD hi ⟨rfl,g1,g2,g3,g4⟩ hK;have HG:=aa (And.intro g1 (And.intro g2 (And.intro g3 g4)));clear g1 g2 g3 g4 bP lL kx hX
  go_wp2_with fail
  refine dH hK (pC _ _ Tryz.results141 (w.heap.size+1) (w.heap.size+1+1) _ (outpE n f dec L) true _ _ rfl rfl ((World.putObj_heap_other (by omega)).trans HG.out.2.2.1) ((World.putObj_heap_other (by omega)).trans HG.out.2.2.2)) ?_;exact⟨t6 rfl (by have:=HG.out.2.1;simp;omega),cT (by omega) HG.out.1⟩
def schedB(p:Pb) (word:List Rd):Bool:=decide (afterS p.a 0 word<0) || decide ((word.length:Int)≠p.rounds)
theorem Hh(p:Pb) (pc:Option Addr) (nc cc:Nat) (vs:Value) (i:Int) (u:Value) (word:List Rd) (pd:Option Addr) (nd cd:Nat) (f:Int) (w:World) (hv:bn w vs p.a.states) (hu:bN w u word) (hN:movesN p.a.states<1099511627776) (ha:advE p.a=0) :
  Calls Tryz.prog 139 #[.agg (jJ p (.slice pc nc cc) vs i u (.slice pd nd cd) f)] w fun e w'=>e=.returned (.tuple #[.int .i64 (-1),.bool (schedB p word)])/\Below w.heap.size w w':=by
 have aH:Below w.heap.size w (w.alloc (.cells (jJ p (.slice pc nc cc) vs i u (.slice pd nd cd) f) 205)):=by go_grown
 have zB:=uS p.a vs u word _ (hv.up up_moves aH) (hu.up up_round aH) hN (by omega);have hr:gh p.a word=(decide (0<=afterS p.a 0 word),0):=by unfold gh;rw[if_neg (by simpa using ha)]
 rw[hr]at zB;have HS:Hid (schedB p word=(decide (afterS p.a 0 word<0) || decide ((word.length:Int)≠p.rounds))):=by exact rfl
 generalize afterS p.a 0 word=af at zB HS;have HA:=aa zB;clear zB hr ha;obtain⟨ps,cs,rfl,_⟩:=hv.at;obtain⟨pu,cu,rfl,l1,l2,_⟩:=hu.at;clear hv hu;have o8:=ar w (.cells (jJ p (.slice pc nc cc) (.slice ps p.a.states.length cs) i (.slice pu word.length cu) (.slice pd nd cd) f) 205);by_cases h:af<0
 ·have hd:decide (0<=af)=false:=by simpa using h
  rw[hd]at HA;have Ae:Hid (schedB p word=true):=by(have h:schedB p word=true:=by(rw[HS.out];simp[h]));exact h
  clear hd o8
  go_enter Tryz.func139,Tryz.ntmps139
  go_wp2_with fail
  refine HA.out.mono ?_;rintro e w1 ⟨rfl,aG⟩
  go_wp2_with fail
  go_quiet (fail)
  go_wp2_with fail
  go_ret2
  exact⟨t6 rfl Ae.out.symm,dC (aj aH aG) _⟩
 ·have hd:decide (0<=af)=true:=by simp;omega
  rw[hd]at HA;have Ae:Hid (schedB p word=((word.length:Int) != p.rounds)):=by(have h:schedB p word=((word.length:Int) != p.rounds):=by(rw[HS.out,Bool.eq_iff_iff];simp[h]));exact h
  have HB:=aa o8;clear hd o8
  go_enter Tryz.func139,Tryz.ntmps139
  go_wp2_with fail
  refine HA.out.mono ?_;rintro e w1 ⟨rfl,aG⟩;have t0:=ae (ak aG HB.out);have t1:∀ n o,(w1.drewN n).cell? ⟨w.heap.size,o,none⟩=_:=fun n o=>t0 o
  clear t0
  go_wp2_with fail
  go_quiet (fail)
  go_wp2_with fail
  go_ret2
  exact⟨t6 rfl Ae.out.symm,dC (aj aH aG) _⟩
def judgeR(p:Pb) (ix:Int) (word:List Rd) (dec:List Int):Int × Int:=
 if schedB p word then(1,-1)
 else if 0<=undecE p.t.n.toNat (faultyS word) dec then(2,undecE p.t.n.toNat (faultyS word) dec)
 else if 0<=outpE p.t.n.toNat (faultyS word) dec (bI p.t ix (faultyS word)) then(3,outpE p.t.n.toNat (faultyS word) dec (bI p.t ix (faultyS word))) else(0,-1)
theorem ua(P:Program) (w:World) (a:Addr) (m:Mode) (g:Fn) (b c:Array Value):(store a (.func g b c) m).run P w=stored P w a (.func g b c) m:=run_store P w a _ m rfl
attribute [local go_sem] ua
def ub(sb:Bool) (ud od:Int) (k:Nat):Prop:=(1<=k->sb=false)/\(2<=k->ud<0)/\(3<=k->od<0)
theorem NG(p:Pb) (vc vs:Value) (ix:Int) (u:Value) (word:List Rd) (vd:Value) (dec:List Int) (w:World) (hc:bJ w vc p.t.cases) (hv:bn w vs p.a.states) (hu:bN w u word) (hd:aU w vd dec)
  (hN:movesN p.a.states<1099511627776) (ha:advE p.a=0) (ht:0<=p.t.n/\p.t.n<=5) (hl:(dec.length:Int)=p.t.n)
  (hL:(bI p.t ix (faultyS word)).length<=1024/\∀ v∈bI p.t ix (faultyS word),(v.length:Int)=p.t.n) :
  Calls Tryz.prog 107 #[.agg (jJ p vc vs ix u vd (faultyS word))] w fun e w'=>e=.returned (.tuple #[.int .i64 (judgeR p ix word dec).1,.int .i64 (judgeR p ix word dec).2])/\Below w.heap.size w w':=by
 obtain⟨n,hn⟩:∃ n:Nat,p.t.n=n:=⟨p.t.n.toNat,by omega⟩
 have HJ:Hid (judgeR p ix word dec=if schedB p word then(1,-1) else if 0<=undecE n (faultyS word) dec then(2,undecE n (faultyS word) dec) else if 0<=outpE n (faultyS word) dec (bI p.t ix (faultyS word)) then(3,outpE n (faultyS word) dec (bI p.t ix (faultyS word))) else(0,-1)):=by
  have h:judgeR p ix word dec=if schedB p word then(1,-1) else if 0<=undecE n (faultyS word) dec then(2,undecE n (faultyS word) dec) else if 0<=outpE n (faultyS word) dec (bI p.t ix (faultyS word)) then(3,outpE n (faultyS word) dec (bI p.t ix (faultyS word))) else(0,-1):=by
   unfold judgeR;rw[hn,Int.toNat_natCast]
  exact h
 obtain⟨pc,cc,rfl,_⟩:=id hc;obtain⟨ps,cs,rfl,_⟩:=id hv;obtain⟨pu,cu,rfl,_⟩:=id hu;obtain⟨pd,cd,rfl,_⟩:=id hd;have H1:=aa (fun W (hb:Below w.heap.size w W)=>Hh p pc p.t.cases.length cc _ ix _ word pd dec.length cd (faultyS word) W (hv.up up_moves hb) (hu.up up_round hb) hN ha);have H2:=aa (fun W (hb:Below w.heap.size w W)=>F6 p pc p.t.cases.length cc ps p.a.states.length cs ix pu word.length cu _ dec (faultyS word) n hn (by omega) (by omega) W (hd.up up_int hb));have H3:=aa (fun W (hb:Below w.heap.size w W)=>LF p _ ps p.a.states.length cs ix pu word.length cu _ dec (faultyS word) n hn (by omega) (by omega) W (hc.up up_case hb) (hd.up up_int hb) ⟨hL.1,fun v hv=>by have:=hL.2 v hv;omega⟩);clear hc hv hu hd hN ha ht hl hL hn;generalize undecE n (faultyS word) dec=ud at HJ H2;generalize outpE n (faultyS word) dec (bI p.t ix (faultyS word))=od at HJ H3;generalize faultyS word=f at HJ H1 H2 H3
 go_enter Tryz.func107,Tryz.ntmps107
 go_wp2_with fail
 refine bw (fun W=>Below w.heap.size w W/\W.heap[w.heap.size]?=some (.cells (jJ p (.slice pc p.t.cases.length cc) (.slice ps p.a.states.length cs) ix (.slice pu word.length cu) (.slice pd dec.length cd) f) 205)/\W.heap[w.heap.size+1]?=some (.cells #[.int .i64 1,.func (.func 139) #[] #[],.int .i64 2,.func (.func 140) #[] #[],.int .i64 3,.func (.func 141) #[] #[]] 236))
  ⟨by go_grown,aq _ (ar _ _),aX _ _ _⟩ (fun W0 bd=>?_)
 obtain⟨aH,bD,U5⟩:=bd;generalize schedB p word=sb at HJ H1
 go_loopw [13] (fun i wr=>Below W0.heap.size W0 wr/\∃ k:Nat,k<=3/\i=.int .i64 k/\ub sb ud od k) (fun i _=>3 - (intOf i).toNat)
 case atStart=>exact⟨Below.refl _ _,0,by omega,rfl,by unfold ub;omega⟩
 case round=>
  obtain⟨aJ,k,hk,rfl,aO⟩:=hrel;have O1:=aB (ak aJ U5);have hzr':w.heap.size<wr.heap.size:=by omega
  have HA:=aa (ak aJ bD);have HS:=aa (ak aJ U5);have b7:=aj aH aJ;have t1:=ae HA.out;have t2:=ae HS.out;have Ut:k=0\/k=1\/k=2\/k=3:=by omega
  have HI:=aa aO;clear aO;have g1:=enters_of Tryz.func139 (by kernel_rfl) rfl;have g2:=enters_of Tryz.func140 (by kernel_rfl) rfl;have g3:=enters_of Tryz.func141 (by kernel_rfl) rfl;clear bD U5;rcases Ut with rfl|rfl|rfl|rfl
  ·go_wp2_with fail
   refine aT (fun W=>Below wr.heap.size wr W/\W.heap[wr.heap.size]?=some (.cells #[.int .i64 1,.func (.func 139) #[] #[]] 236)) ⟨by go_grown,by first|exact ar _ _|(rw[aE (aE (ar _ _) _ _)];rfl)|(rw[aE (ar _ _)];rfl)⟩ (fun W2 jD=>?_);obtain⟨aS,FE⟩:=jD;refine(H1.out W2 (aj b7 aS)).mono ?_;rintro e w3 ⟨rfl,bA⟩;have t3:=ae (ak bA FE);have eT:=aj b7 (aj aS bA);have vD:=aj aJ (aj aS bA);clear t1 t2 FE;cases lN:sb with
   | true=>
    have oK:=aa lN;clear lN
    go_wp2_with fail
    go_ret2
    exact⟨cI (by rw[HJ.out,oK.out];rfl) (by rw[HJ.out,oK.out];rfl),eT⟩
   | false=>
    have oK:=aa lN;clear lN
    go_wp2_with fail
    go_roundw
    case rel=>exact⟨vD,1,by omega,by go_num,fun _=>oK.out,fun h=>by omega,fun h=>by omega⟩
    case measure=>simp[intOf]
  ·go_wp2_with fail
   refine aT (fun W=>Below wr.heap.size wr W/\W.heap[wr.heap.size]?=some (.cells #[.int .i64 2,.func (.func 140) #[] #[]] 236)) ⟨by go_grown,by first|exact ar _ _|(rw[aE (aE (ar _ _) _ _)];rfl)|(rw[aE (ar _ _)];rfl)⟩ (fun W2 jD=>?_);obtain⟨aS,FE⟩:=jD;refine(H2.out W2 (aj b7 aS)).mono ?_;rintro e w3 ⟨rfl,bA⟩;have t3:=ae (ak bA FE);have eT:=aj b7 (aj aS bA);have vD:=aj aJ (aj aS bA);clear t1 t2 FE;by_cases lN:0<=ud
   ·have KX:decide (0<=ud)=true:=decide_eq_true lN
    have oK:=aa lN;clear lN
    go_wp2_with fail
    go_ret2
    refine⟨cI ?_ ?_,eT⟩<;>(have hi:=HI.out;have hs:=oK.out;rw[HJ.out];unfold ub at hi;go_light;grind)
   ·have KX:decide (0<=ud)=false:=decide_eq_false lN
    have oK:=aa lN;clear lN
    go_wp2_with fail
    go_roundw
    case rel=>exact⟨vD,2,by omega,by go_num,fun _=>HI.out.1 (by omega),fun _=>by have:=oK.out;omega,fun h=>by omega⟩
    case measure=>simp[intOf]
  ·go_wp2_with fail
   refine aT (fun W=>Below wr.heap.size wr W/\W.heap[wr.heap.size]?=some (.cells #[.int .i64 3,.func (.func 141) #[] #[]] 236)) ⟨by go_grown,by first|exact ar _ _|(rw[aE (aE (ar _ _) _ _)];rfl)|(rw[aE (ar _ _)];rfl)⟩ (fun W2 jD=>?_);obtain⟨aS,FE⟩:=jD;refine(H3.out W2 (aj b7 aS)).mono ?_;rintro e w3 ⟨rfl,bA⟩;have t3:=ae (ak bA FE);have eT:=aj b7 (aj aS bA);have vD:=aj aJ (aj aS bA);clear t1 t2 FE;by_cases lN:0<=od
   ·have KX:decide (0<=od)=true:=decide_eq_true lN
    have oK:=aa lN;clear lN
    go_wp2_with fail
    go_ret2
    refine⟨cI ?_ ?_,eT⟩<;>(have hi:=HI.out;have hs:=oK.out;rw[HJ.out];unfold ub at hi;go_light;grind)
   ·have KX:decide (0<=od)=false:=decide_eq_false lN
    have oK:=aa lN;clear lN
    go_wp2_with fail
    go_roundw
    case rel=>exact⟨vD,3,by omega,by go_num,fun _=>HI.out.1 (by omega),fun _=>HI.out.2.1 (by omega),fun _=>by have:=oK.out;omega⟩
    case measure=>simp[intOf]
  ·go_wp2_with fail
   go_ret2
   refine⟨cI ?_ ?_,b7⟩<;>(have hi:=HI.out;rw[HJ.out];unfold ub at hi;go_light;grind)
end Go.Proofs.YtkfgpnbpcpdclaaGreat
namespace Go.Proofs.YtkfgpnbpcpdclaaGreat
open Go.RowKit Go Go.Shelf
attribute [local go_sem] ua
def qX(a b c:Int) (k:Nat):Prop:=(1<=k->a=0)/\(2<=k->b=0)/\(3<=k->c=0)
theorem zl(t:Tr) (vi vw vs vm vd vt:Value) (w:World) (ht:IsTr w t vi vw vs vm vd vt) :
  Calls Tryz.prog 105 #[.agg (ee vi vw vs vm vd vt)] w fun e w'=>e=.returned (.int .i64 (traceE t))/\Below w.heap.size w w':=by
 have HT:=aa ht;obtain⟨hi,hw,hs,hm,hd,xY⟩:=ht;obtain⟨pi,ci,rfl,li1,li2,_⟩:=hi.at;obtain⟨pw,cw,rfl,lw1,lw2,_⟩:=hw.at;obtain⟨ps,cs,rfl,ls1,ls2,_⟩:=hs.at;obtain⟨pm,cm,rfl,_⟩:=hm.at;obtain⟨pd,cd,rfl,_⟩:=hd.at;obtain⟨pt,ct,rfl,_⟩:=xY.at;clear hi hw hs hm hd xY;have HV:Hid (traceE t=if t.inp.length<1\/5<t.inp.length then 2 else if anyLt t.inp.length (fun i=>!inB (t.inp.getD i 0) 0 7) then 2 else if wordE t.inp.length t.word≠0 then wordE t.inp.length t.word else if 6<t.word.length then 5 else if statesE t≠0 then statesE t else if messagesE t≠0 then messagesE t else decisionsE t):=by exact rfl
 go_enter Tryz.func105,Tryz.ntmps105
 go_wp2_with fail
 refine bw (fun W=>Below w.heap.size w W/\W.heap[w.heap.size]?=some (.cells (ee (.slice pi t.inp.length ci) (.slice pw t.word.length cw) (.slice ps t.states.length cs) (.slice pm t.msgs.length cm) (.slice pd t.dec.length cd) (.slice pt t.times.length ct)) 65)) ⟨by go_grown,ar _ _⟩ (fun W0 bd=>?_);obtain⟨aH,ow⟩:=bd;have v8:=aa ow;clear ow;by_cases kW:t.inp.length<1
 ·have db:Hid (traceE t=2):=by(have h:traceE t=2:=by(rw[HV.out,if_pos (Or.inl kW)]));exact h
  have l8:(t.inp.length:Int)<1:=by omega
  refine kN 12 [11,12,13,14,15,16,17,18,19,20,21,22] [MP.eq (.int .i64 (t.inp.length:Int)),
   MP.eq (.bool true),
   MP.eq (.bool true),
   MP.any,
   MP.any,
   MP.eq (.bool true),
   MP.eq (.bool true),
   MP.any,
   MP.any,
   MP.any,
   MP.any,
   MP.eq (.bool true)] (by kernel_rfl) rfl (by decide) rfl (by kernel_rfl) ?step ?tail
  case step=>
   intro x W i o s F hi ho hs hB al hF;have bY:i=0\/i=1\/i=2\/i=3\/i=4\/i=5\/i=6\/i=7\/i=8\/i=9\/i=10\/i=11:=by omega
   rcases bY with rfl|rfl|rfl|rfl|rfl|rfl|rfl|rfl|rfl|rfl|rfl|rfl
   all_goals (obtain rfl:=cO ho.symm;obtain rfl:=cO hs.symm;simp only[bg,bQ,List.setIfInBounds_toArray,List.set_cons_succ,List.set_cons_zero,Nat.reduceAdd]at hF)
   ·clear al hi ho hs
    subst hF
    go_wp2_with fail
    exact bG _ (Below.refl _ _) rfl
   ·have d0:=bz (al ⟨0,.data⟩ (by simp) rfl)
    clear al hi ho hs;simp only[d0]at hF;subst hF
    go_wp2_with fail
    exact bG _ (Below.refl _ _) rfl
   ·have d1:=bz (al ⟨1,.data⟩ (by simp) rfl)
    clear al hi ho hs;simp only[d1]at hF;subst hF
    go_wp2_with fail
    exact bG _ (Below.refl _ _) rfl
   ·have d2:=bz (al ⟨2,.guard⟩ (by simp) rfl)
    clear al hi ho hs;simp only[d2]at hF;subst hF
    go_wp2_with fail
    exact bG undef (Below.refl _ _) trivial
   ·have d2:=bz (al ⟨2,.guard⟩ (by simp) rfl)
    clear al hi ho hs;simp only[d2]at hF;subst hF
    go_wp2_with fail
    exact bG undef (Below.refl _ _) trivial
   ·have d2:=bz (al ⟨2,.data⟩ (by simp) rfl)
    clear al hi ho hs;simp only[d2]at hF;subst hF
    go_wp2_with fail
    exact bG _ (Below.refl _ _) rfl
   ·have d5:=bz (al ⟨5,.data⟩ (by simp) rfl)
    clear al hi ho hs;simp only[d5]at hF;subst hF
    go_wp2_with fail
    exact bG _ (Below.refl _ _) rfl
   ·have d6:=bz (al ⟨6,.guard⟩ (by simp) rfl)
    clear al hi ho hs;simp only[d6]at hF;subst hF
    go_wp2_with fail
    exact bG undef (Below.refl _ _) trivial
   ·have d6:=bz (al ⟨6,.guard⟩ (by simp) rfl)
    clear al hi ho hs;simp only[d6]at hF;subst hF
    go_wp2_with fail
    exact bG undef (Below.refl _ _) trivial
   ·have d6:=bz (al ⟨6,.guard⟩ (by simp) rfl)
    clear al hi ho hs;simp only[d6]at hF;subst hF
    go_wp2_with fail
    exact bG undef (Below.refl _ _) trivial
   ·have d6:=bz (al ⟨6,.guard⟩ (by simp) rfl)
    clear al hi ho hs;simp only[d6]at hF;subst hF
    go_wp2_with fail
    exact bG undef (Below.refl _ _) trivial
   ·have d6:=bz (al ⟨6,.data⟩ (by simp) rfl)
    clear al hi ho hs;simp only[d6]at hF;subst hF
    go_wp2_with fail
    exact bG _ (Below.refl _ _) rfl
  case tail=>
   intro x W F hB aM hF;have e11:x 11=.bool true:=aM 11 (by omega);clear aM;simp only[bg,bQ,List.setIfInBounds_toArray,List.set_cons_succ,List.set_cons_zero,Nat.reduceAdd]at hF;simp only[e11]at hF;subst hF
   go_wp2_with fail
   go_ret
   exact⟨aC db.out.symm,aj aH hB⟩
 by_cases h5':5<t.inp.length
 ·have db:Hid (traceE t=2):=by(have h:traceE t=2:=by(rw[HV.out,if_pos (Or.inr h5')]));exact h
  have l8:¬ (t.inp.length:Int)<1:=by omega
  have P4:5<(t.inp.length:Int):=by omega
  refine kN 12 [11,12,13,14,15,16,17,18,19,20,21,22] [MP.eq (.int .i64 (t.inp.length:Int)),
   MP.eq (.bool false),
   MP.eq (.bool false),
   MP.eq (.int .i64 (t.inp.length:Int)),
   MP.eq (.bool true),
   MP.eq (.bool true),
   MP.eq (.bool true),
   MP.any,
   MP.any,
   MP.any,
   MP.any,
   MP.eq (.bool true)] (by kernel_rfl) rfl (by decide) rfl (by kernel_rfl) ?step ?tail
  case step=>
   intro x W i o s F hi ho hs hB al hF;have bY:i=0\/i=1\/i=2\/i=3\/i=4\/i=5\/i=6\/i=7\/i=8\/i=9\/i=10\/i=11:=by omega
   rcases bY with rfl|rfl|rfl|rfl|rfl|rfl|rfl|rfl|rfl|rfl|rfl|rfl
   all_goals (obtain rfl:=cO ho.symm;obtain rfl:=cO hs.symm;simp only[bg,bQ,List.setIfInBounds_toArray,List.set_cons_succ,List.set_cons_zero,Nat.reduceAdd]at hF)
   ·clear al hi ho hs
    subst hF
    go_wp2_with fail
    exact bG _ (Below.refl _ _) rfl
   ·have d0:=bz (al ⟨0,.data⟩ (by simp) rfl)
    clear al hi ho hs;simp only[d0]at hF;subst hF
    go_wp2_with fail
    exact bG _ (Below.refl _ _) rfl
   ·have d1:=bz (al ⟨1,.data⟩ (by simp) rfl)
    clear al hi ho hs;simp only[d1]at hF;subst hF
    go_wp2_with fail
    exact bG _ (Below.refl _ _) rfl
   ·have d2:=bz (al ⟨2,.guard⟩ (by simp) rfl)
    clear al hi ho hs;simp only[d2]at hF;subst hF
    go_wp2_with fail
    exact bG _ (Below.refl _ _) rfl
   ·have d3:=bz (al ⟨3,.data⟩ (by simp) rfl)
    have d2:=bz (al ⟨2,.guard⟩ (by simp) rfl);clear al hi ho hs;simp only[d3,d2]at hF;subst hF
    go_wp2_with fail
    exact bG _ (Below.refl _ _) rfl
   ·have d2:=bz (al ⟨2,.data⟩ (by simp) rfl)
    have d4:=bz (al ⟨4,.data⟩ (by simp) rfl);clear al hi ho hs;simp only[d2,d4]at hF;subst hF
    go_wp2_with fail
    exact bG _ (Below.refl _ _) rfl
   ·have d5:=bz (al ⟨5,.data⟩ (by simp) rfl)
    clear al hi ho hs;simp only[d5]at hF;subst hF
    go_wp2_with fail
    exact bG _ (Below.refl _ _) rfl
   ·have d6:=bz (al ⟨6,.guard⟩ (by simp) rfl)
    clear al hi ho hs;simp only[d6]at hF;subst hF
    go_wp2_with fail
    exact bG undef (Below.refl _ _) trivial
   ·have d6:=bz (al ⟨6,.guard⟩ (by simp) rfl)
    clear al hi ho hs;simp only[d6]at hF;subst hF
    go_wp2_with fail
    exact bG undef (Below.refl _ _) trivial
   ·have d6:=bz (al ⟨6,.guard⟩ (by simp) rfl)
    clear al hi ho hs;simp only[d6]at hF;subst hF
    go_wp2_with fail
    exact bG undef (Below.refl _ _) trivial
   ·have d6:=bz (al ⟨6,.guard⟩ (by simp) rfl)
    clear al hi ho hs;simp only[d6]at hF;subst hF
    go_wp2_with fail
    exact bG undef (Below.refl _ _) trivial
   ·have d6:=bz (al ⟨6,.data⟩ (by simp) rfl)
    clear al hi ho hs;simp only[d6]at hF;subst hF
    go_wp2_with fail
    exact bG _ (Below.refl _ _) rfl
  case tail=>
   intro x W F hB aM hF;have e11:x 11=.bool true:=aM 11 (by omega);clear aM;simp only[bg,bQ,List.setIfInBounds_toArray,List.set_cons_succ,List.set_cons_zero,Nat.reduceAdd]at hF;simp only[e11]at hF;subst hF
   go_wp2_with fail
   go_ret
   exact⟨aC db.out.symm,aj aH hB⟩
 have h5:t.inp.length<=5:=by omega
 have l8:¬ (t.inp.length:Int)<1:=by omega
 have P4:¬ 5<(t.inp.length:Int):=by omega
 have db:Hid (traceE t=if anyLt t.inp.length (fun i=>!inB (t.inp.getD i 0) 0 7) then 2 else if wordE t.inp.length t.word≠0 then wordE t.inp.length t.word else if 6<t.word.length then 5 else if statesE t≠0 then statesE t else if messagesE t≠0 then messagesE t else decisionsE t):=by
  (have h:traceE t=if anyLt t.inp.length (fun i=>!inB (t.inp.getD i 0) 0 7) then 2 else if wordE t.inp.length t.word≠0 then wordE t.inp.length t.word else if 6<t.word.length then 5 else if statesE t≠0 then statesE t else if messagesE t≠0 then messagesE t else decisionsE t:=by(rw[HV.out,if_neg (by omega)]));exact h
 clear HV;obtain⟨ab,HAB⟩:∃ ab,Hid ((anyLt t.inp.length fun i=>!inB (t.inp.getD i 0) 0 7)=ab):=⟨_,aa rfl⟩;rw[HAB.out]at db
 refine kN 12 [11,12,13,14,15,16,17,18,19,20,21,22] [MP.eq (.int .i64 (t.inp.length:Int)),
  MP.eq (.bool false),
  MP.eq (.bool false),
  MP.eq (.int .i64 (t.inp.length:Int)),
  MP.eq (.bool false),
  MP.eq (.bool false),
  MP.eq (.bool false),
  MP.eq (.pointer (some ⟨w.heap.size,0,none⟩)),
  MP.eq (.slice pi t.inp.length ci),
  MP.outF 0 7,
  MP.eq (.bool ab),
  MP.eq (.bool ab)] (by kernel_rfl) rfl (by decide) rfl (by kernel_rfl) ?step ?tail
 case step=>
  intro x W i o s F hi ho hs hB al hF;have bY:i=0\/i=1\/i=2\/i=3\/i=4\/i=5\/i=6\/i=7\/i=8\/i=9\/i=10\/i=11:=by omega
  rcases bY with rfl|rfl|rfl|rfl|rfl|rfl|rfl|rfl|rfl|rfl|rfl|rfl
  all_goals (obtain rfl:=cO ho.symm;obtain rfl:=cO hs.symm;simp only[bg,bQ,List.setIfInBounds_toArray,List.set_cons_succ,List.set_cons_zero,Nat.reduceAdd]at hF)
  ·clear al hi ho hs
   subst hF
   go_wp2_with fail
   exact bG _ (Below.refl _ _) rfl
  ·have d0:=bz (al ⟨0,.data⟩ (by simp) rfl)
   clear al hi ho hs;simp only[d0]at hF;subst hF
   go_wp2_with fail
   exact bG _ (Below.refl _ _) rfl
  ·have d1:=bz (al ⟨1,.data⟩ (by simp) rfl)
   clear al hi ho hs;simp only[d1]at hF;subst hF
   go_wp2_with fail
   exact bG _ (Below.refl _ _) rfl
  ·have d2:=bz (al ⟨2,.guard⟩ (by simp) rfl)
   clear al hi ho hs;simp only[d2]at hF;subst hF
   go_wp2_with fail
   exact bG _ (Below.refl _ _) rfl
  ·have d3:=bz (al ⟨3,.data⟩ (by simp) rfl)
   have d2:=bz (al ⟨2,.guard⟩ (by simp) rfl);clear al hi ho hs;simp only[d3,d2]at hF;subst hF
   go_wp2_with fail
   exact bG _ (Below.refl _ _) rfl
  ·have d2:=bz (al ⟨2,.data⟩ (by simp) rfl)
   have d4:=bz (al ⟨4,.data⟩ (by simp) rfl);clear al hi ho hs;simp only[d2,d4]at hF;subst hF
   go_wp2_with fail
   exact bG _ (Below.refl _ _) rfl
  ·have d5:=bz (al ⟨5,.data⟩ (by simp) rfl)
   clear al hi ho hs;simp only[d5]at hF;subst hF
   go_wp2_with fail
   exact bG _ (Below.refl _ _) rfl
  ·have d6:=bz (al ⟨6,.guard⟩ (by simp) rfl)
   clear al hi ho hs;simp only[d6]at hF;subst hF
   go_wp2_with fail
   exact bG _ (Below.refl _ _) rfl
  ·have d7:=bz (al ⟨7,.data⟩ (by simp) rfl)
   have d6:=bz (al ⟨6,.guard⟩ (by simp) rfl);clear al hi ho hs;have t1:=ae (ak hB v8.out);simp only[d7,d6]at hF;subst hF
   go_wp2_with fail
   exact bG _ (Below.refl _ _) rfl
  ·have d6:=bz (al ⟨6,.guard⟩ (by simp) rfl)
   clear al hi ho hs;simp only[d6]at hF;subst hF
   go_wp2_with fail
   refine(mz _ _ _).mono ?_;rintro e w9 ⟨v,rfl,ug,eA⟩;have CJ:=aa ug;obtain⟨_,_,rfl,_⟩:=ug
   go_wp2_with fail
   exact bG _ eA CJ.out
  ·have d8:=bz (al ⟨8,.data⟩ (by simp) rfl)
   have d9:=al ⟨9,.data⟩ (by simp) rfl;have d6:=bz (al ⟨6,.guard⟩ (by simp) rfl);clear al hi ho hs;have iU:=aa (r' 0 7 _ _ t.inp W d9 (HT.out.inp.up up_int (aj aH hB)));obtain⟨b9,c9,e9,f9,g9⟩:=d9;rw[e9,HAB.out]at iU;simp only[d8,d6,e9]at hF;subst hF
   go_wp2_with fail
   refine iU.out.mono ?_;rintro e w9 ⟨rfl,eA⟩
   go_wp2_with fail
   exact bG _ eA rfl
  ·have d6:=bz (al ⟨6,.data⟩ (by simp) rfl)
   have d10:=bz (al ⟨10,.data⟩ (by simp) rfl);clear al hi ho hs;simp only[d6,d10]at hF;subst hF
   go_wp2_with fail
   exact bG _ (Below.refl _ _) rfl
 case tail=>
  intro x W F hB aM hF;have e11:x 11=.bool ab:=aM 11 (by omega);clear aM;simp only[bg,bQ,List.setIfInBounds_toArray,List.set_cons_succ,List.set_cons_zero,Nat.reduceAdd]at hF;simp only[e11]at hF;subst hF;have bS:=aj aH hB;cases ab with
  | true=>
   go_wp2_with fail
   go_ret
   exact⟨aC (by rw[db.out];rfl),bS⟩
  | false=>
   have cU:Hid (traceE t=if wordE t.inp.length t.word≠0 then wordE t.inp.length t.word else if 6<t.word.length then 5 else if statesE t≠0 then statesE t else if messagesE t≠0 then messagesE t else decisionsE t):=db;clear db;have t1:=ae (ak hB v8.out)
   go_wp2_with fail
   refine(GT _ _ t.word W (HT.out.word.up up_round bS)).mono ?_;rintro e w1 ⟨rfl,aG⟩;have tf:=aj bS aG;have HT1:=aa (ak (aj hB aG) v8.out);clear t1;generalize wordE t.inp.length t.word=we at cU;by_cases rC:we=0
   case neg=>
    have hwe':(we != 0)=true:=by simpa using rC
    go_wp2_with fail
    go_ret
    exact⟨aC (by rw[cU.out,if_pos rC]),tf⟩
   subst rC;have t1:=ae HT1.out;by_cases h6:6<t.word.length
   ·go_wp2_with fail
    go_ret
    exact⟨aC (by rw[cU.out,if_neg (by simp),if_pos h6]),tf⟩
   have fE:Hid (traceE t=if statesE t≠0 then statesE t else if messagesE t≠0 then messagesE t else decisionsE t):=by(have h:traceE t=if statesE t≠0 then statesE t else if messagesE t≠0 then messagesE t else decisionsE t:=by(rw[cU.out,if_neg (by simp),if_neg h6]));exact h
   clear cU;have H1:=aa (fun W (hb:Below w.heap.size w W)=>Bj t _ _ _ _ _ _ W (HT.out.up hb));have H2:=aa (fun W (hb:Below w.heap.size w W)=>yH t _ _ _ _ _ _ W (HT.out.up hb) h5 (by omega));have H3:=aa (fun W (hb:Below w.heap.size w W)=>xb t _ _ _ _ _ _ W (HT.out.up hb));generalize statesE t=ea at fE H1;generalize messagesE t=eb at fE H2;generalize decisionsE t=ec at fE H3;have g1:=enters_of Tryz.func134 (P:=Tryz.prog) (by kernel_rfl) rfl;have g2:=enters_of Tryz.func135 (P:=Tryz.prog) (by kernel_rfl) rfl;have g3:=enters_of Tryz.func136 (P:=Tryz.prog) (by kernel_rfl) rfl
   go_wp2_with fail
   clear t1;refine bw (fun V=>Below w1.heap.size w1 V/\V.heap[w1.heap.size]?=some (.cells #[.func (.func 134) #[] #[],.func (.func 135) #[] #[],.func (.func 136) #[] #[]] 201)) ⟨by go_grown,ar _ _⟩ (fun V hV=>?_);obtain⟨fo,hF0⟩:=hV;have HF0:=aa hF0;clear hF0
   go_loopw [36] (fun i wr=>Below V.heap.size V wr/\∃ k:Nat,k<=3/\i=.int .i64 k/\qX ea eb ec k) (fun i _=>3 - (intOf i).toNat)
   case atStart=>exact⟨Below.refl _ _,0,by omega,rfl,by unfold qX;omega⟩
   case round=>
    obtain⟨aJ,k,hk,rfl,aO⟩:=hrel;have HI:=aa aO;clear aO;have t1:=ae (ak (aj fo aJ) HT1.out);have t2:=ae (ak aJ HF0.out);have b7:=aj tf (aj fo aJ);have Ut:k=0\/k=1\/k=2\/k=3:=by omega
    rcases Ut with rfl|rfl|rfl|rfl
    ·go_wp2_with fail
     refine(H1.out wr b7).mono ?_;rintro e w3 ⟨rfl,bA⟩;clear t1 t2;by_cases hz:ea=0
     ·have HZ:=aa hz
      have Pu:(ea != 0)=false:=by simpa using hz
      clear hz
      go_wp2_with fail
      go_roundw
      case rel=>exact⟨aj aJ bA,1,by omega,by go_num,by have hi:=HI.out;have hz:=HZ.out;unfold qX at hi ⊢;omega⟩
      case measure=>simp[intOf]
     ·have HZ:=aa hz
      have Pu:(ea != 0)=true:=by simpa using hz
      clear hz
      go_wp2_with fail
      go_ret
      refine⟨aC ?_,aj b7 bA⟩;have hi:=HI.out;have hz:=HZ.out;rw[fE.out];unfold qX at hi
      go_light
      grind
    ·go_wp2_with fail
     refine(H2.out wr b7).mono ?_;rintro e w3 ⟨rfl,bA⟩;clear t1 t2;by_cases hz:eb=0
     ·have HZ:=aa hz
      have Pu:(eb != 0)=false:=by simpa using hz
      clear hz
      go_wp2_with fail
      go_roundw
      case rel=>exact⟨aj aJ bA,2,by omega,by go_num,by have hi:=HI.out;have hz:=HZ.out;unfold qX at hi ⊢;omega⟩
      case measure=>simp[intOf]
     ·have HZ:=aa hz
      have Pu:(eb != 0)=true:=by simpa using hz
      clear hz
      go_wp2_with fail
      go_ret
      refine⟨aC ?_,aj b7 bA⟩;have hi:=HI.out;have hz:=HZ.out;rw[fE.out];unfold qX at hi
      go_light
      grind
    ·go_wp2_with fail
     refine(H3.out wr b7).mono ?_;rintro e w3 ⟨rfl,bA⟩;clear t1 t2;by_cases hz:ec=0
     ·have HZ:=aa hz
      have Pu:(ec != 0)=false:=by simpa using hz
      clear hz
      go_wp2_with fail
      go_roundw
      case rel=>exact⟨aj aJ bA,3,by omega,by go_num,by have hi:=HI.out;have hz:=HZ.out;unfold qX at hi ⊢;omega⟩
      case measure=>simp[intOf]
     ·have HZ:=aa hz
      have Pu:(ec != 0)=true:=by simpa using hz
      clear hz
      go_wp2_with fail
      go_ret
      refine⟨aC ?_,aj b7 bA⟩;have hi:=HI.out;have hz:=HZ.out;rw[fE.out];unfold qX at hi
      go_light
      grind
    ·go_wp2_with fail
     go_ret
     refine⟨aC ?_,b7⟩;have hi:=HI.out;rw[fE.out];unfold qX at hi
     go_light
     grind
end Go.Proofs.YtkfgpnbpcpdclaaGreat
namespace Go.Proofs.YtkfgpnbpcpdclaaGreat
open Go.RowKit Go Go.Shelf
theorem Hi(a b:Rd) (w:World):(binOp .neq 52 a.v b.v).run Tryz.prog w=.ok (.bool (!decide (a=b))) w:=by
 rw[run_neq_struct,lT 9996];rfl
abbrev Msg.v(m:Msg):Value:=.agg m.c
theorem Hj(a b:ByteArray):(a.toList == b.toList)=decide (a=b):=by
 rw[ByteArray.toList_eq,ByteArray.toList_eq];obtain⟨⟨x⟩⟩:=a;obtain⟨⟨y⟩⟩:=b;by_cases h:x=y<;>simp[h]
theorem Qx(d:Nat) (a b:Msg) (w:World):(Op.equalIn (d+2) 165 a.v b.v).run Tryz.prog w=.ok (decide (a=b)) w:=by
 have hS:Tryz.prog.underlying 165=some (.struct (Tryz.prog.fieldsOf 165)):=by kernel_rfl
 have hp:Tryz.prog.stoodInHeld 165=false:=by kernel_rfl
 rw[run_equalIn_struct w (d+1) 165 _ _ hS hp];have ag:=Tryz.isAgg3;have ah:=Tryz.isAgg9;have u3:=Tryz.underlying3;have u9:=Tryz.underlying9;simp only[Program.fieldsOf,Tryz.underlying165];simp[Op.eqFields,part,ag,ah,run_equalIn_int w d 3 _ .i64 _ _ u3,run_equalIn_string w d 9 _ _ u9];obtain⟨n,k,h0,h1⟩:=a;obtain⟨m,l,g0,g1⟩:=b;by_cases hn:n=m
 case neg=>simp[hn]
 by_cases hk:k=l
 case neg=>simp[hn,hk]
 by_cases hh:h0=g0
 case neg=>simp[hn,hk,hh]
 have hb:=Hj h1 g1;by_cases hs:h1=g1
 ·simp[hn,hk,hh,hs]
 ·have aS:¬ h1.toList=g1.toList:=by simpa[hs] using hb
  simp[hn,hk,hh,hs,aS]
theorem TE(a b:Msg) (w:World):(binOp .neq 165 a.v b.v).run Tryz.prog w=.ok (.bool (!decide (a=b))) w:=by
 rw[run_neq_struct,Qx 9998];rfl
theorem mQ{α:Type} [DecidableEq α] {a b:List α} (d:α) (hl:a.length=b.length) (h:∀ j,j<a.length->a.getD j d=b.getD j d):a=b:=
 List.ext_getElem hl fun i h1 h2=>by
  have:=h i h1
  rwa [aA d h1,aA d h2]at this
theorem nU(va vb:Value) (a b:List Rd) (w:World) (ha:bN w va a) (hb:bN w vb b) :
  Calls Tryz.prog 17 #[va,vb] w fun e w'=>e=.returned (.bool (decide (a=b)))/\Below w.heap.size w w':=by
 obtain⟨pa,ca,rfl,la1,la2,ea⟩:=ha.at;obtain⟨pb,cb,rfl,lb1,lb2,eb⟩:=hb.at;clear ha hb;have EA:=aa ea;clear ea;have EB:=aa eb;clear eb;generalize xU:decide (a=b)=res;have o9:=aa xU;clear xU;by_cases hl:a.length=b.length
 case neg=>
  have kd:((a.length:Int) != (b.length:Int))=true:=by simp;omega
  have HR:Hid (res=false):=by(have h:res=false:=by(rw[<-o9.out];simp;intro h;exact hl (by rw[h])));exact h
  clear hl
  go_enter Tryz.func17,Tryz.ntmps17
  go_wp2
  go_ret
  exact⟨aV HR.out.symm,Below.refl _ _⟩
 have kd:((a.length:Int) != (b.length:Int))=false:=by simp[hl]
 have HL:=aa hl;clear hl
 go_enter Tryz.func17,Tryz.ntmps17
 go_wp2
 clear kd
 go_loopw [13] (fun i wr=>Below w.heap.size w wr/\∃ k:Nat,k<=a.length/\i=.int .i64 k/\∀ j,j<k->a.getD j default=b.getD j default) (fun i _=>a.length - (intOf i).toNat)
 case atStart=>exact⟨Below.refl _ _,0,by omega,rfl,by simp⟩
 case round=>
  obtain⟨aJ,k,hk,rfl,aO⟩:=hrel;have H:=aa aO;clear aO;by_cases aF:k<a.length
  ·have gD:k<b.length:=by have:=HL.out;omega
   obtain⟨b1,o1,rfl,⟨c0,r0⟩,⟨c1,r1⟩,⟨c2,r2⟩,⟨c3,r3⟩,⟨c4,r4⟩,⟨c5,r5⟩,⟨c6,r6⟩⟩:=EA.out k aF;obtain⟨b2,o2,rfl,⟨e0,s0⟩,⟨e1,s1⟩,⟨e2,s2⟩,⟨e3,s3⟩,⟨e4,s4⟩,⟨e5,s5⟩,⟨e6,s6⟩⟩:=EB.out k gD;have c0':∀ y:ExtW wr,y.val.cell? ⟨b1,o1+k * 7,none⟩=_:=fun y=>y.cell (ay aJ c0)
   have c1':∀ y:ExtW wr,y.val.cell? ⟨b1,o1+k * 7+1,none⟩=_:=fun y=>y.cell (ay aJ c1)
   have c2':∀ y:ExtW wr,y.val.cell? ⟨b1,o1+k * 7+2,none⟩=_:=fun y=>y.cell (ay aJ c2)
   have c3':∀ y:ExtW wr,y.val.cell? ⟨b1,o1+k * 7+3,none⟩=_:=fun y=>y.cell (ay aJ c3)
   have c4':∀ y:ExtW wr,y.val.cell? ⟨b1,o1+k * 7+4,none⟩=_:=fun y=>y.cell (ay aJ c4)
   have c5':∀ y:ExtW wr,y.val.cell? ⟨b1,o1+k * 7+5,none⟩=_:=fun y=>y.cell (ay aJ c5)
   have c6':∀ y:ExtW wr,y.val.cell? ⟨b1,o1+k * 7+6,none⟩=_:=fun y=>y.cell (ay aJ c6)
   have e0':∀ y:ExtW wr,y.val.cell? ⟨b2,o2+k * 7,none⟩=_:=fun y=>y.cell (ay aJ e0)
   have e1':∀ y:ExtW wr,y.val.cell? ⟨b2,o2+k * 7+1,none⟩=_:=fun y=>y.cell (ay aJ e1)
   have e2':∀ y:ExtW wr,y.val.cell? ⟨b2,o2+k * 7+2,none⟩=_:=fun y=>y.cell (ay aJ e2)
   have e3':∀ y:ExtW wr,y.val.cell? ⟨b2,o2+k * 7+3,none⟩=_:=fun y=>y.cell (ay aJ e3)
   have e4':∀ y:ExtW wr,y.val.cell? ⟨b2,o2+k * 7+4,none⟩=_:=fun y=>y.cell (ay aJ e4)
   have e5':∀ y:ExtW wr,y.val.cell? ⟨b2,o2+k * 7+5,none⟩=_:=fun y=>y.cell (ay aJ e5)
   have e6':∀ y:ExtW wr,y.val.cell? ⟨b2,o2+k * 7+6,none⟩=_:=fun y=>y.cell (ay aJ e6)
   have HX:=aa (aA default aF);have HY:=aa (aA default gD);clear c0 r0 e0 s0 c1 r1 e1 s1 c2 r2 e2 s2 c3 r3 e3 s3 c4 r4 e4 s4 c5 r5 e5 s5 c6 r6 e6 s6;generalize a[k]=x at c0' c1' c2' c3' c4' c5' c6' HX;generalize b[k]=y at e0' e1' e2' e3' e4' e5' e6' HY;have bH:=fun w=>Hi x y w
   go_wp2
   by_cases iW:x=y
   ·have hd:decide (x=y)=true:=by simpa using iW
    have IM:Hid (a.getD k default=b.getD k default):=by(have h:a.getD k default=b.getD k default:=by(rw[HX.out,HY.out,iW]));exact h
    rw[hd]at bH;clear iW hd;refine aK (by kernel_rfl) (by kernel_rfl) ?_
    repeat (go_big_quiet_step (fail))
    refine wpQuiet_nil ?_;intro _ bV;obtain⟨xq,bC⟩:=bV;subst bC;clear c0' c1' c2' c3' c4' c5' c6' e0' e1' e2' e3' e4' e5' e6' bH
    go_wp2
    go_roundw
    case rel=>exact⟨aj aJ xq.ext,k+1,by omega,by go_num,aQ H.out IM.out⟩
    case measure=>simp[intOf];omega
   ·have hd:decide (x=y)=false:=by simpa using iW
    have HR:Hid (res=false):=by(have h:res=false:=by(rw[<-o9.out];simp;intro h;subst h;rw[HX.out]at HY;exact iW HY.out));exact h
    rw[hd]at bH;clear iW hd;refine aK (by kernel_rfl) (by kernel_rfl) ?_
    repeat (go_big_quiet_step (fail))
    refine wpQuiet_nil ?_;intro _ bV;obtain⟨xq,bC⟩:=bV;subst bC;clear c0' c1' c2' c3' c4' c5' c6' e0' e1' e2' e3' e4' e5' e6' bH
    go_wp2
    go_ret
    exact⟨aV HR.out.symm,aj aJ xq.ext⟩
  ·have HR:Hid (res=true):=by(have h:res=true:=by(rw[<-o9.out];simp;exact mQ default HL.out fun j hj=>H.out j (by omega)));exact h
   go_wp2
   go_ret
   exact⟨aV HR.out.symm,aJ⟩
theorem F8(va vb:Value) (a b:List Msg) (w:World) (ha:Bh w va a) (hb:Bh w vb b) :
  Calls Tryz.prog 181 #[va,vb] w fun e w'=>e=.returned (.bool (decide (a=b)))/\Below w.heap.size w w':=by
 obtain⟨pa,ca,rfl,la1,la2,ea⟩:=ha.at;obtain⟨pb,cb,rfl,lb1,lb2,eb⟩:=hb.at;clear ha hb;have EA:=aa ea;clear ea;have EB:=aa eb;clear eb;generalize xU:decide (a=b)=res;have o9:=aa xU;clear xU;by_cases hl:a.length=b.length
 case neg=>
  have kd:((a.length:Int) != (b.length:Int))=true:=by simp;omega
  have HR:Hid (res=false):=by(have h:res=false:=by(rw[<-o9.out];simp;intro h;exact hl (by rw[h])));exact h
  clear hl
  go_enter Tryz.func181,Tryz.ntmps181
  go_wp2
  go_ret
  exact⟨aV HR.out.symm,Below.refl _ _⟩
 have kd:((a.length:Int) != (b.length:Int))=false:=by simp[hl]
 have HL:=aa hl;clear hl
 go_enter Tryz.func181,Tryz.ntmps181
 go_wp2
 clear kd
 go_loopw [13] (fun i wr=>Below w.heap.size w wr/\∃ k:Nat,k<=a.length/\i=.int .i64 k/\∀ j,j<k->a.getD j default=b.getD j default) (fun i _=>a.length - (intOf i).toNat)
 case atStart=>exact⟨Below.refl _ _,0,by omega,rfl,by simp⟩
 case round=>
  obtain⟨aJ,k,hk,rfl,aO⟩:=hrel;have H:=aa aO;clear aO;by_cases aF:k<a.length
  ·have gD:k<b.length:=by have:=HL.out;omega
   obtain⟨b1,o1,rfl,⟨c0,r0⟩,⟨c1,r1⟩,⟨c2,r2⟩,c3,r3⟩:=EA.out k aF;obtain⟨b2,o2,rfl,⟨e0,s0⟩,⟨e1,s1⟩,⟨e2,s2⟩,e3,s3⟩:=EB.out k gD;have c0':∀ y:ExtW wr,y.val.cell? ⟨b1,o1+k * 4,none⟩=_:=fun y=>y.cell (ay aJ c0)
   have c1':∀ y:ExtW wr,y.val.cell? ⟨b1,o1+k * 4+1,none⟩=_:=fun y=>y.cell (ay aJ c1)
   have c2':∀ y:ExtW wr,y.val.cell? ⟨b1,o1+k * 4+2,none⟩=_:=fun y=>y.cell (ay aJ c2)
   have c3':∀ y:ExtW wr,y.val.cell? ⟨b1,o1+k * 4+3,none⟩=_:=fun y=>y.cell (ay aJ c3)
   have e0':∀ y:ExtW wr,y.val.cell? ⟨b2,o2+k * 4,none⟩=_:=fun y=>y.cell (ay aJ e0)
   have e1':∀ y:ExtW wr,y.val.cell? ⟨b2,o2+k * 4+1,none⟩=_:=fun y=>y.cell (ay aJ e1)
   have e2':∀ y:ExtW wr,y.val.cell? ⟨b2,o2+k * 4+2,none⟩=_:=fun y=>y.cell (ay aJ e2)
   have e3':∀ y:ExtW wr,y.val.cell? ⟨b2,o2+k * 4+3,none⟩=_:=fun y=>y.cell (ay aJ e3)
   have HX:=aa (aA default aF);have HY:=aa (aA default gD);clear c0 r0 e0 s0 c1 r1 e1 s1 c2 r2 e2 s2 c3 r3 e3 s3;generalize a[k]=x at c0' c1' c2' c3' HX;generalize b[k]=y at e0' e1' e2' e3' HY;have bH:=fun w=>TE x y w
   go_wp2
   by_cases iW:x=y
   ·have hd:decide (x=y)=true:=by simpa using iW
    have IM:Hid (a.getD k default=b.getD k default):=by(have h:a.getD k default=b.getD k default:=by(rw[HX.out,HY.out,iW]));exact h
    rw[hd]at bH;clear iW hd;refine aK (by kernel_rfl) (by kernel_rfl) ?_
    repeat (go_big_quiet_step (fail))
    refine wpQuiet_nil ?_;intro _ bV;obtain⟨xq,bC⟩:=bV;subst bC;clear c0' c1' c2' c3' e0' e1' e2' e3' bH
    go_wp2
    go_roundw
    case rel=>exact⟨aj aJ xq.ext,k+1,by omega,by go_num,aQ H.out IM.out⟩
    case measure=>simp[intOf];omega
   ·have hd:decide (x=y)=false:=by simpa using iW
    have HR:Hid (res=false):=by(have h:res=false:=by(rw[<-o9.out];simp;intro h;subst h;rw[HX.out]at HY;exact iW HY.out));exact h
    rw[hd]at bH;clear iW hd;refine aK (by kernel_rfl) (by kernel_rfl) ?_
    repeat (go_big_quiet_step (fail))
    refine wpQuiet_nil ?_;intro _ bV;obtain⟨xq,bC⟩:=bV;subst bC;clear c0' c1' c2' c3' e0' e1' e2' e3' bH
    go_wp2
    go_ret
    exact⟨aV HR.out.symm,aj aJ xq.ext⟩
  ·have HR:Hid (res=true):=by(have h:res=true:=by(rw[<-o9.out];simp;exact mQ default HL.out fun j hj=>H.out j (by omega)));exact h
   go_wp2
   go_ret
   exact⟨aV HR.out.symm,aJ⟩
theorem NH(vx vy:Value) (x y:List Int) (w:World) (hx:aU w vx x) (hy:aU w vy y) :
  Calls Tryz.prog 180 #[vx,vy] w fun e w'=>e=.returned (.bool (eqV x y))/\Below w.heap.size w w':=by
 have HC:=aa (fP vx vy x y w hx hy);obtain⟨_,_,rfl,_⟩:=hx.at;obtain⟨_,_,rfl,_⟩:=hy.at;clear hx hy
 go_enter Tryz.func180,Tryz.ntmps180
 go_wp2_with fail
 refine HC.out.mono ?_;rintro e w1 ⟨rfl,aG⟩
 go_wp2_with fail
 go_ret
 exact⟨rfl,aG⟩
theorem F9(va vb:Value) (a b:List (List Int)) (w:World) (ha:bF w va a) (hb:bF w vb b) :
  Calls Tryz.prog 179 #[va,vb,.func (.func 180) #[] #[]] w fun e w'=>e=.returned (.bool (decide (a=b)))/\Below w.heap.size w w':=by
 obtain⟨pa,ca,rfl,la1,la2,ea⟩:=ha.at;obtain⟨pb,cb,rfl,lb1,lb2,eb⟩:=hb.at;clear ha hb;have EA:=aa ea;clear ea;have EB:=aa eb;clear eb;generalize xU:decide (a=b)=res;have o9:=aa xU;clear xU;have g1:=enters_of Tryz.func180 (P:=Tryz.prog) (by kernel_rfl) rfl;by_cases hl:a.length=b.length
 case neg=>
  have kd:((a.length:Int) != (b.length:Int))=true:=by simp;omega
  have HR:Hid (res=false):=by(have h:res=false:=by(rw[<-o9.out];simp;intro h;exact hl (by rw[h])));exact h
  clear hl
  go_enter Tryz.func179,Tryz.ntmps179
  go_wp2
  go_ret
  exact⟨aV HR.out.symm,Below.refl _ _⟩
 have kd:((a.length:Int) != (b.length:Int))=false:=by simp[hl]
 have HL:=aa hl;clear hl
 go_enter Tryz.func179,Tryz.ntmps179
 go_wp2
 clear kd
 go_loopw [17] (fun i wr=>Below w.heap.size w wr/\∃ k:Nat,k<=a.length/\i=.int .i64 k/\∀ j,j<k->a.getD j []=b.getD j []) (fun i _=>a.length - (intOf i).toNat)
 case atStart=>exact⟨Below.refl _ _,0,by omega,rfl,by simp⟩
 case round=>
  obtain⟨aJ,k,hk,rfl,aO⟩:=hrel;have H:=aa aO;clear aO;by_cases aF:k<a.length
  ·have gD:k<b.length:=by have:=HL.out;omega
   obtain⟨b1,o1,rfl,x,c1,hx⟩:=EA.out k aF;obtain⟨b2,o2,rfl,y,c2,hy⟩:=EB.out k gD;rw[Nat.mul_one]at c1 c2;have d1:=ay aJ c1;have d2:=ay aJ c2;have HC:=aa (NH x y a[k] b[k] wr (hx.up up_int aJ) (hy.up up_int aJ));have HX:=aa (aA [] aF);have HY:=aa (aA [] gD);obtain⟨px,qx,rfl,_⟩:=hx.at;obtain⟨py,qy,rfl,_⟩:=hy.at;clear hx hy c1 c2;have HE:Hid (eqV a[k] b[k]=decide (a[k]=b[k])):=by exact rfl
   generalize eqV a[k] b[k]=eb at HC HE
   go_wp2_with fail
   refine HC.out.mono ?_;rintro e w1 ⟨rfl,aG⟩;clear d1 d2;cases eb with
   | true=>
    have IM:Hid (a.getD k []=b.getD k []):=by(have h:a.getD k []=b.getD k []:=by(have h:=HE.out;simp at h;rw[HX.out,HY.out,h]));exact h
    go_wp2_with fail
    go_roundw
    case rel=>exact⟨aj aJ aG,k+1,by omega,by go_num,aQ H.out IM.out⟩
    case measure=>simp[intOf];omega
   | false=>
    have HR:Hid (res=false):=by(have h:res=false:=by(rw[<-o9.out];simp;intro h;subst h;have h:=HE.out;simp at h));exact h
    go_wp2_with fail
    go_ret
    exact⟨aV HR.out.symm,aj aJ aG⟩
  ·have HR:Hid (res=true):=by(have h:res=true:=by(rw[<-o9.out];simp;exact mQ [] HL.out fun j hj=>H.out j (by omega)));exact h
   go_wp2
   go_ret
   exact⟨aV HR.out.symm,aJ⟩
theorem Qy(a b:Tr) (vi vw vs vm vd vt ui uw us um ud ut:Value) (w:World) (ha:IsTr w a vi vw vs vm vd vt) (hb:IsTr w b ui uw us um ud ut) :
  Calls Tryz.prog 142 #[.agg (ee vi vw vs vm vd vt),.agg (ee ui uw us um ud ut)] w fun e w'=>e=.returned (.bool (sameT a b))/\Below w.heap.size w w':=by
 have HA:=aa ha;have HB:=aa hb;obtain⟨h1,h2,h3,h4,h5,h6⟩:=ha;obtain⟨k1,k2,k3,k4,k5,k6⟩:=hb;obtain⟨_,_,rfl,_⟩:=h1.at;obtain⟨_,_,rfl,_⟩:=h2.at;obtain⟨_,_,rfl,_⟩:=h3.at;obtain⟨_,_,rfl,_⟩:=h4.at;obtain⟨_,_,rfl,_⟩:=h5.at;obtain⟨_,_,rfl,_⟩:=h6.at;obtain⟨_,_,rfl,_⟩:=k1.at;obtain⟨_,_,rfl,_⟩:=k2.at;obtain⟨_,_,rfl,_⟩:=k3.at;obtain⟨_,_,rfl,_⟩:=k4.at;obtain⟨_,_,rfl,_⟩:=k5.at;obtain⟨_,_,rfl,_⟩:=k6.at;clear h1 h2 h3 h4 h5 h6 k1 k2 k3 k4 k5 k6;have HV:Hid (sameT a b=(eqV a.inp b.inp&&decide (a.word=b.word)&&decide (a.states=b.states)&&decide (a.msgs=b.msgs)&&eqV a.dec b.dec&&eqV a.times b.times)):=by exact rfl
 go_enter Tryz.func142,Tryz.ntmps142
 go_wp2_with fail
 refine aT (fun W=>Below w.heap.size w W/\(∃ c,W.heap[w.heap.size]?=some (.cells c 65)/\c=ee _ _ _ _ _ _)/\∃ c,W.heap[w.heap.size+1]?=some (.cells c 65)/\c=ee _ _ _ _ _ _) ⟨by go_grown,⟨_,aq _ (ar _ _),rfl⟩,_,by simpa using ar (w.alloc _) _,rfl⟩ (fun W0 bd=>?_);obtain⟨aH,⟨_,bD,rfl⟩,_,kg,rfl⟩:=bd;have uB:=aa bD;have jC:=aa kg;clear bD kg;refine(fP _ _ a.inp b.inp W0 (HA.out.inp.up up_int aH) (HB.out.inp.up up_int aH)).mono ?_;rintro e w1 ⟨rfl,bU⟩;have aG:=aj aH bU;generalize eqV a.inp b.inp=r0 at HV;cases r0 with
 | false=>
  go_wp2_with fail
  go_ret
  exact⟨aV (by rw[HV.out];simp),aG⟩
 | true=>
 have Su:Below W0.heap.size W0 w1:=bU;have s1:=ae (ak Su uB.out);have s2:=ae (ak Su jC.out)
 go_wp2_with fail
 clear s1 s2;refine(nU _ _ a.word b.word w1 (HA.out.word.up up_round aG) (HB.out.word.up up_round aG)).mono ?_;rintro e w2 ⟨rfl,fy⟩;have aS:=aj aG fy;generalize decide (a.word=b.word)=r1 at HV;cases r1 with
 | false=>
  go_wp2_with fail
  go_ret
  exact⟨aV (by rw[HV.out];simp),aS⟩
 | true=>
 have nG:Below W0.heap.size W0 w2:=(aj Su fy);have s1:=ae (ak nG uB.out);have s2:=ae (ak nG jC.out)
 go_wp2_with fail
 clear s1 s2;refine(F9 _ _ a.states b.states w2 (HA.out.states.up up_ints aS) (HB.out.states.up up_ints aS)).mono ?_;rintro e w3 ⟨rfl,mp⟩;have bA:=aj aS mp;generalize decide (a.states=b.states)=r2 at HV;cases r2 with
 | false=>
  go_wp2_with fail
  go_ret
  exact⟨aV (by rw[HV.out];simp),bA⟩
 | true=>
 have zL:Below W0.heap.size W0 w3:=(aj nG mp);have s1:=ae (ak zL uB.out);have s2:=ae (ak zL jC.out)
 go_wp2_with fail
 clear s1 s2;refine(F8 _ _ a.msgs b.msgs w3 (HA.out.msgs.up up_msg bA) (HB.out.msgs.up up_msg bA)).mono ?_;rintro e w4 ⟨rfl,vA⟩;have bM:=aj bA vA;generalize decide (a.msgs=b.msgs)=r3 at HV;cases r3 with
 | false=>
  go_wp2_with fail
  go_ret
  exact⟨aV (by rw[HV.out];simp),bM⟩
 | true=>
 have CO:Below W0.heap.size W0 w4:=(aj zL vA);have s1:=ae (ak CO uB.out);have s2:=ae (ak CO jC.out)
 go_wp2_with fail
 clear s1 s2;refine(fP _ _ a.dec b.dec w4 (HA.out.dec.up up_int bM) (HB.out.dec.up up_int bM)).mono ?_;rintro e w5 ⟨rfl,xS⟩;have dy:=aj bM xS;generalize eqV a.dec b.dec=r4 at HV;cases r4 with
 | false=>
  go_wp2_with fail
  go_ret
  exact⟨aV (by rw[HV.out];simp),dy⟩
 | true=>
 have qk:Below W0.heap.size W0 w5:=(aj CO xS);have s1:=ae (ak qk uB.out);have s2:=ae (ak qk jC.out)
 go_wp2_with fail
 clear s1 s2;refine(fP _ _ a.times b.times w5 (HA.out.times.up up_int dy) (HB.out.times.up up_int dy)).mono ?_;rintro e w6 ⟨rfl,xQ⟩;have fD:=aj dy xQ;generalize eqV a.times b.times=r5 at HV
 go_wp2_with fail
 go_ret
 exact⟨aV (by rw[HV.out];simp),fD⟩
end Go.Proofs.YtkfgpnbpcpdclaaGreat
namespace Go.Proofs.YtkfgpnbpcpdclaaGreat
open Go.RowKit Go Go.Shelf
attribute [local go_sem] Oper.semAt_some
theorem LG(m:Mac) (vf vy vt vo:Value) (t:Tr) (ui uw us um ud ut:Value) (w:World) (hf:bF w vf m.first) (hy:eZ w vy m.syms) (ht:dh w vt m.steps) (ho:fj w vo m.out) (hT:IsTr w t ui uw us um ud ut) :
  Calls Tryz.prog 109 #[.agg (bX m vf vy vt vo),.agg (ee ui uw us um ud ut)] w fun e w'=>e=.returned (.int .i64 (replayE m t))/\Below w.heap.size w w':=by
 have HF:=aa hf;have HY:=aa hy;have HM:=aa ht;have HO:=aa ho;have HT:=aa hT;obtain⟨pf,cf,rfl,_⟩:=hf.at;obtain⟨py,cy,rfl,_⟩:=hy.at;obtain⟨pt,ct,rfl,_⟩:=ht.at;obtain⟨po,co,rfl,_⟩:=ho.at;obtain⟨k1,k2,k3,k4,k5,k6⟩:=hT;obtain⟨q1,d1,rfl,_⟩:=k1.at;obtain⟨q2,d2,rfl,_⟩:=k2.at;obtain⟨q3,d3,rfl,_⟩:=k3.at;obtain⟨q4,d4,rfl,_⟩:=k4.at;obtain⟨q5,d5,rfl,_⟩:=k5.at;obtain⟨q6,d6,rfl,_⟩:=k6.at;clear hf hy ht ho k1 k2 k3 k4 k5 k6;have HV:Hid (replayE m t=if checkE m≠0 then checkE m else if traceE t≠0 then traceE t else if playE m t.inp t.word≠0 then playE m t.inp t.word else if sameT (eQ m t.inp t.word) t then 0 else 18):=by exact rfl
 go_enter Tryz.func109,Tryz.ntmps109
 go_wp2_with fail
 refine aT (fun W=>Below w.heap.size w W/\W.heap[w.heap.size]?=some (.cells (bX m (.slice pf m.first.length cf) (.slice py m.syms.length cy) (.slice pt m.steps.length ct) (.slice po m.out.length co)) 35)/\W.heap[w.heap.size+1]?=some (.cells (ee (.slice q1 t.inp.length d1) (.slice q2 t.word.length d2) (.slice q3 t.states.length d3) (.slice q4 t.msgs.length d4) (.slice q5 t.dec.length d5) (.slice q6 t.times.length d6)) 65)) ⟨by go_grown,aq _ (ar _ _),aX _ _ _⟩ (fun W0 bd=>?_);obtain⟨aH,bD,kg⟩:=bd;have uB:=aa bD;have jC:=aa kg;clear bD kg;refine(ln m _ _ _ _ W0 (HF.out.up up_ints aH) (HY.out.up up_v3 aH) (HM.out.up up_step aH) (HO.out.up up_vecs aH)).mono ?_;rintro e w1 ⟨rfl,bU⟩;have aG:=aj aH bU;generalize checkE m=ec at HV;by_cases hc:ec=0
 case neg=>
  have oJ:(ec != 0)=true:=by simpa using hc
  go_wp2_with fail
  go_ret
  exact⟨aC (by rw[HV.out,if_pos hc]),aG⟩
 subst hc;have s2:=ae (ak bU jC.out)
 go_wp2_with fail
 clear s2;refine(zl t _ _ _ _ _ _ w1 (HT.out.up aG)).mono ?_;rintro e w2 ⟨rfl,fy⟩;have aS:=aj aG fy;have nG:=aj bU fy;generalize traceE t=et at HV;by_cases hc:et=0
 case neg=>
  have oJ:(et != 0)=true:=by simpa using hc
  go_wp2_with fail
  go_ret
  exact⟨aC (by rw[HV.out,if_neg (by simp),if_pos hc]),aS⟩
 subst hc;have s1:=ae (ak nG uB.out);have s2:=ae (ak nG jC.out)
 go_wp2_with fail
 clear s1 s2;refine(Ly m _ _ _ _ _ _ t.inp t.word w2 (HF.out.up up_ints aS) (HY.out.up up_v3 aS) (HM.out.up up_step aS) (HO.out.up up_vecs aS) (HT.out.inp.up up_int aS) (HT.out.word.up up_round aS)).mono ?_;rintro e w3 ⟨vi,vw,vs,vm,vd,vtt,rfl,hz,Vy,mp⟩;have bA:=aj aS mp;have zL:=aj nG mp;by_cases hc:playE m t.inp t.word=0
 case neg=>
  have h:=Vy hc;injection h with h
  injection h with e1 h
  injection h with e2 h
  injection h with e3 h
  injection h with e4 h
  injection h with e5 h
  injection h with e6 h
  subst e1 e2 e3 e4 e5 e6;clear hz Vy;generalize playE m t.inp t.word=ep at HV hc;have oJ:(ep != 0)=true:=by simpa using hc
  go_wp2_with fail
  go_ret
  exact⟨aC (by rw[HV.out,if_neg (by simp),if_neg (by simp),if_pos hc]),aj bA (by go_grown)⟩
 have hIs:=hz hc;rw[hc]at HV ⊢;have IG:=aa hIs;clear hz Vy hc;obtain⟨k1,k2,k3,k4,k5,k6⟩:=hIs;obtain⟨p1,c1,rfl,_⟩:=k1.at;obtain⟨p2,c2,rfl,_⟩:=k2.at;obtain⟨p3,c3,rfl,_⟩:=k3.at;obtain⟨p4,c4,rfl,_⟩:=k4.at;obtain⟨p5,c5,rfl,_⟩:=k5.at;obtain⟨p6,c6,rfl,_⟩:=k6.at;clear k1 k2 k3 k4 k5 k6;have s2:=ae (ak zL jC.out);have aF:w.heap.size+1<w3.heap.size:=aB (ak zL jC.out)
 go_wp2_with fail
 refine aT (fun W=>Below w3.heap.size w3 W) (by go_grown) (fun W4 bM=>?_);refine(Qy (eQ m t.inp t.word) t _ _ _ _ _ _ _ _ _ _ _ _ W4 (IG.out.up bM) (HT.out.up (aj bA bM))).mono ?_;rintro e w5 ⟨rfl,dy⟩;have xS:=aj bA (aj bM dy);clear s2;generalize sameT (eQ m t.inp t.word) t=sb at HV;cases sb with
 | true=>
  go_wp2_with fail
  go_ret
  exact⟨aC (by rw[HV.out];simp),xS⟩
 | false=>
  go_wp2_with fail
  go_ret
  exact⟨aC (by rw[HV.out];simp),xS⟩
end Go.Proofs.YtkfgpnbpcpdclaaGreat
namespace Go.Proofs.YtkfgpnbpcpdclaaGreat
open Go.RowKit Go Go.Shelf
abbrev rs(p:Pb) (vc vs:Value):Array Value:=#[.int .i64 p.t.n,.int .i64 p.t.ins,.int .i64 p.t.outs,vc,.int .i64 p.a.n,vs,.int .i64 p.rounds]
theorem cX{p:Pb} (h:probE p=0):taskE p.t=0/\advE p.a=0/\p.t.n=p.a.n/\0<=p.rounds/\p.rounds<=6:=by
 unfold probE at h;split at h
 ·rename_i h1;exact absurd h h1
 rename_i h1;split at h
 ·rename_i h2;exact absurd h h2
 rename_i h2;split at h
 ·omega
 split at h
 ·omega
 exact⟨by simpa using h1,by simpa using h2,by omega,by omega,by omega⟩
theorem JR{t:Tk} (h:taskE t=0) (i f:Int):(bI t i f).length<=1024/\∀ v∈bI t i f,(v.length:Int)=t.n:=by
 unfold bI;split
 ·simp
 ·rename_i hp
  have P1:jm t i f=0:=by simpa using hp
  obtain⟨_,_,h3⟩:=El P1;rw[aA default h3];exact Ki ((dY h).2.2.2.2 _ (List.getElem_mem h3)) f
end Go.Proofs.YtkfgpnbpcpdclaaGreat
namespace Go.Proofs.YtkfgpnbpcpdclaaGreat
open Go.RowKit Go Go.Shelf
attribute [local go_sem] Oper.semAt_some
def verdR(p:Pb) (m:Mac) (t:Tr):Int × Int:=
 if probE p≠0 then(0,probE p) else if checkE m≠0 then(0,checkE m) else if m.n≠p.t.n\/m.rounds≠p.rounds\/m.ins≠p.t.ins\/m.outs≠p.t.outs then(0,22)
 else if traceE t≠0 then(0,traceE t) else if findE p.t t.inp<0 then(0,6) else if (judgeR p (findE p.t t.inp) t.word t.dec).1=0/\replayE m t≠0 then(4,0) else((judgeR p (findE p.t t.inp) t.word t.dec).1,0)
theorem Qz{t:Tk} {inp:List Int} (h:taskE t=0) (hf:¬ findE t inp<0):(inp.length:Int)=t.n:=by
 unfold findE at hf;rcases dN t.cases.length (fun i=>eqV (t.cases.getD i default).inp inp) with ⟨e,_⟩|⟨k,hk,e,he,_⟩
 ·omega
 ·have h1:=((dY h).2.2.2.2 t.cases[k] (List.getElem_mem hk)).inp
  rw[aA default hk]at he;have h2:t.cases[k].inp=inp:=by simpa[eqV] using he
  rw[<-h2];exact h1
theorem NI{t:Tr} (h:traceE t=0):t.dec.length=t.inp.length:=by
 unfold traceE decisionsE at h
 grind
theorem JS(p:Pb) (vc vs:Value) (m:Mac) (vf vy vt vo:Value) (t:Tr) (ui uw us um ud ut:Value) (w:World) (hc:bJ w vc p.t.cases) (hs:bn w vs p.a.states) (hN:movesN p.a.states<1099511627776) (hf:bF w vf m.first) (hy:eZ w vy m.syms) (ht:dh w vt m.steps) (ho:fj w vo m.out) (hT:IsTr w t ui uw us um ud ut) :
  Calls Tryz.prog 66 #[jI p vc vs,.agg (bX m vf vy vt vo),.agg (ee ui uw us um ud ut)] w fun e w'=>e=.returned (.tuple #[.int .i64 (verdR p m t).1,.int .i64 (verdR p m t).2])/\Below w.heap.size w w':=by
 have HC:=aa hc;have HS:=aa hs;have HF:=aa hf;have HY:=aa hy;have HM:=aa ht;have HO:=aa ho;have HT:=aa hT;obtain⟨pc,cc,rfl,_⟩:=hc.at;obtain⟨ps,cs,rfl,_⟩:=hs.at;obtain⟨pf,cf,rfl,_⟩:=hf.at;obtain⟨py,cy,rfl,_⟩:=hy.at;obtain⟨pt,ct,rfl,_⟩:=ht.at;obtain⟨po,co,rfl,_⟩:=ho.at;obtain⟨k1,k2,k3,k4,k5,k6⟩:=hT;obtain⟨q1,d1,rfl,_⟩:=k1.at;obtain⟨q2,d2,rfl,_⟩:=k2.at;obtain⟨q3,d3,rfl,_⟩:=k3.at;obtain⟨q4,d4,rfl,_⟩:=k4.at;obtain⟨q5,d5,rfl,_⟩:=k5.at;obtain⟨q6,d6,rfl,_⟩:=k6.at;clear hc hs hf hy ht ho k1 k2 k3 k4 k5 k6;have HV:Hid (verdR p m t=if probE p≠0 then(0,probE p) else if checkE m≠0 then(0,checkE m) else if m.n≠p.t.n\/m.rounds≠p.rounds\/m.ins≠p.t.ins\/m.outs≠p.t.outs then(0,22) else if traceE t≠0 then(0,traceE t) else if findE p.t t.inp<0 then(0,6) else if (judgeR p (findE p.t t.inp) t.word t.dec).1=0/\replayE m t≠0 then(4,0) else((judgeR p (findE p.t t.inp) t.word t.dec).1,0)):=by exact rfl
 go_enter Tryz.func66,Tryz.ntmps66
 go_wp2_with fail
 refine aT (fun W=>Below w.heap.size w W/\W.heap[w.heap.size]?=some (.cells (rs p (.slice pc p.t.cases.length cc) (.slice ps p.a.states.length cs)) 29)/\W.heap[w.heap.size+1]?=some (.cells (bX m (.slice pf m.first.length cf) (.slice py m.syms.length cy) (.slice pt m.steps.length ct) (.slice po m.out.length co)) 35)/\W.heap[w.heap.size+1+1]?=some (.cells (ee (.slice q1 t.inp.length d1) (.slice q2 t.word.length d2) (.slice q3 t.states.length d3) (.slice q4 t.msgs.length d4) (.slice q5 t.dec.length d5) (.slice q6 t.times.length d6)) 65)) ⟨by go_grown,aq _ (aq _ (ar _ _)),aq _ (aX _ _ _),cV _ _ _ _⟩ (fun W0 bd=>?_);obtain⟨aH,bD,kg,Dd⟩:=bd;have uB:=aa bD;have jC:=aa kg;have SF:=aa Dd;clear bD kg Dd;refine(mO p _ _ W0 (HC.out.up up_case aH) (HS.out.up up_moves aH) hN).mono ?_;rintro e w1 ⟨rfl,bU⟩;have aG:=aj aH bU;by_cases hp:probE p=0
 case neg=>
  generalize probE p=ep at hp HV;have P1:(ep != 0)=true:=by simpa using hp
  go_wp2_with fail
  go_ret2
  refine⟨cI ?_ ?_,aG⟩<;>rw[HV.out,if_pos hp]
 have HP:=aa hp;rw[hp]at HV ⊢;clear hp;have s1:=ae (ak bU jC.out)
 go_wp2_with fail
 clear s1;refine(ln m _ _ _ _ w1 (HF.out.up up_ints aG) (HY.out.up up_v3 aG) (HM.out.up up_step aG) (HO.out.up up_vecs aG)).mono ?_;rintro e w2 ⟨rfl,fy⟩;have aS:=aj aG fy;have nG:=aj bU fy;generalize checkE m=ec at HV;by_cases hc:ec=0
 case neg=>
  have oJ:(ec != 0)=true:=by simpa using hc
  go_wp2_with fail
  go_ret2
  refine⟨cI ?_ ?_,aS⟩<;>rw[HV.out,if_neg (by simp),if_pos hc]
 subst hc;have s1:=ae (ak nG uB.out);have s2:=ae (ak nG jC.out);by_cases oC:m.n=p.t.n
 case neg=>
  have hm1':(m.n != p.t.n)=true:=by simpa using oC
  go_wp2_with fail
  go_ret2
  refine⟨cI ?_ ?_,aS⟩<;>rw[HV.out,if_neg (by simp),if_neg (by simp),if_pos (by simp[oC])]
 have hm1':(m.n != p.t.n)=false:=by simpa using oC
 have jz:=aa oC;clear oC;by_cases kb:m.rounds=p.rounds
 case neg=>
  have Mh:(m.rounds != p.rounds)=true:=by simpa using kb
  go_wp2_with fail
  go_ret2
  refine⟨cI ?_ ?_,aS⟩<;>rw[HV.out,if_neg (by simp),if_neg (by simp),if_pos (by simp[kb])]
 have Mh:(m.rounds != p.rounds)=false:=by simpa using kb
 have jO:=aa kb;clear kb;by_cases lI:m.ins=p.t.ins
 case neg=>
  have Rn:(m.ins != p.t.ins)=true:=by simpa using lI
  go_wp2_with fail
  go_ret2
  refine⟨cI ?_ ?_,aS⟩<;>rw[HV.out,if_neg (by simp),if_neg (by simp),if_pos (by simp[lI])]
 have Rn:(m.ins != p.t.ins)=false:=by simpa using lI
 have rX:=aa lI;clear lI;by_cases Pc:m.outs=p.t.outs
 case neg=>
  have hm4':(m.outs != p.t.outs)=true:=by simpa using Pc
  go_wp2_with fail
  go_ret2
  refine⟨cI ?_ ?_,aS⟩<;>rw[HV.out,if_neg (by simp),if_neg (by simp),if_pos (by simp[Pc])]
 have hm4':(m.outs != p.t.outs)=false:=by simpa using Pc
 have Pi:=aa Pc;clear Pc
 have KC:Hid (¬ (m.n≠p.t.n\/m.rounds≠p.rounds\/m.ins≠p.t.ins\/m.outs≠p.t.outs)):=by
  have h:¬ (m.n≠p.t.n\/m.rounds≠p.rounds\/m.ins≠p.t.ins\/m.outs≠p.t.outs):=by
   simp[jz.out,jO.out,rX.out,Pi.out]
  exact h
 rw[if_neg KC.out]at HV;have s3:=ae (ak nG SF.out)
 go_wp2_with fail
 clear s1 s2 s3 hm1' Mh Rn hm4';refine(zl t _ _ _ _ _ _ w2 (HT.out.up aS)).mono ?_;rintro e w3 ⟨rfl,mp⟩;have bA:=aj aS mp;have zL:=aj nG mp;by_cases hc:traceE t=0
 case neg=>
  generalize traceE t=et at HV hc;have oJ:(et != 0)=true:=by simpa using hc
  go_wp2_with fail
  go_ret2
  refine⟨cI ?_ ?_,bA⟩<;>rw[HV.out,if_neg (by simp),if_neg (by simp),if_pos hc]
 have UU:=aa hc;rw[hc]at HV ⊢;clear hc;have s1:=ae (ak zL uB.out);have s3:=ae (ak zL SF.out)
 go_wp2_with fail
 clear s1 s3;refine(Qv p.t _ _ t.inp w3 (HC.out.up up_case bA) (HT.out.inp.up up_int bA)).mono ?_;rintro e w4 ⟨rfl,vA⟩;have bM:=aj bA vA;have CO:=aj zL vA;have KQ:Hid (fw p.t t.inp=if findE p.t t.inp<0 then(0,6) else(findE p.t t.inp,0)):=by exact rfl
 by_cases hf:findE p.t t.inp<0
 ·have uh:fw p.t t.inp=(0,6):=by rw[KQ.out,if_pos hf]
  rw[uh];have HF:=aa hf;clear uh hf
  go_wp2_with fail
  go_ret2
  refine⟨cI ?_ ?_,bM⟩<;>rw[HV.out,if_neg (by simp),if_neg (by simp),if_neg (by simp),if_pos HF.out]
 have uh:fw p.t t.inp=(findE p.t t.inp,0):=by rw[KQ.out,if_neg hf]
 rw[uh];have S0:=aa hf;clear uh hf KQ;have s1:=ae (ak CO uB.out);have s3:=ae (ak CO SF.out)
 go_wp2_with fail
 clear s1 s3;refine(Hc p _ _ _ _ _ _ _ _ t.word _ _ _ w4 (HT.out.word.up up_round bM)).mono ?_;rintro e w5 ⟨rfl,xS⟩;have dy:=aj bM xS;have qk:=aj CO xS
 go_wp2_with fail
 obtain⟨ht,ha,_⟩:=cX HP.out
 have Wx:(t.dec.length:Int)=p.t.n:=by
  have h1:=Qz ht (inp:=t.inp) (by have:=S0.out;omega);have h2:=NI UU.out;omega
 refine(NG p _ _ (findE p.t t.inp) _ t.word _ t.dec w5 (HC.out.up up_case dy) (HS.out.up up_moves dy) (HT.out.word.up up_round dy) (HT.out.dec.up up_int dy) hN ha (by have:=(dY ht).1;omega) Wx (JR ht _ _)).mono ?_;rintro e w6 ⟨rfl,xQ⟩;have fD:=aj dy xQ;have hq6:=aj qk xQ;clear ht ha Wx;rw[if_neg (by simp),if_neg (by simp),if_neg (by simp),if_neg (by have:=S0.out;omega)]at HV;generalize judgeR p (findE p.t t.inp) t.word t.dec=jr at HV;obtain⟨j1,j2⟩:=jr;dsimp only at HV ⊢;by_cases hj:j1=0
 case neg=>
  have xL:(j1 == 0)=false:=by simpa using hj
  go_wp2_with fail
  go_ret2
  refine⟨cI ?_ ?_,fD⟩<;>rw[HV.out,if_neg (by simp[hj])]
 subst hj;have s1:=ae (ak hq6 jC.out);have s3:=ae (ak hq6 SF.out)
 go_wp2_with fail
 clear s1 s3;refine(LG m _ _ _ _ t _ _ _ _ _ _ w6 (HF.out.up up_ints fD) (HY.out.up up_v3 fD) (HM.out.up up_step fD) (HO.out.up up_vecs fD) (HT.out.up fD)).mono ?_;rintro e w7 ⟨rfl,hb7'⟩;have jA:=aj fD hb7';generalize replayE m t=er at HV;by_cases hr:er=0
 ·subst hr
  go_wp2_with fail
  go_ret2
  refine⟨cI ?_ ?_,jA⟩<;>rw[HV.out,if_neg (by simp)]
 ·have Ws:(er != 0)=true:=by simpa using hr
  go_wp2_with fail
  go_ret2
  refine⟨cI ?_ ?_,jA⟩<;>rw[HV.out,if_pos (by simp[hr])]
end Go.Proofs.YtkfgpnbpcpdclaaGreat
