/-
  A part of the proof: lemmas and contracts that the parts behind it use. Each one's conditions are its own premises.
-/
import Derived.Lib.SliceRun
import Derived.Test.YtiocdkdkndpgkaaGreatShelf
import Derived.Test.YtiocdkdkndpgkaaGreatN8
set_option maxRecDepth 100000
set_option maxHeartbeats 8000000
set_option linter.unusedVariables false
set_option linter.unusedSimpArgs false
namespace Go.Proofs.YtiocdkdkndpgkaaGreat
open Go.RowKit Go Go.Shelf
theorem lM{w w':World} {base:Nat} {e:TypeId} {v:Value} {n:Nat} {xs:List Value} (h:w.ownsRow base e 1 v n xs) (hb:Below w.heap.size w w'):w'.ownsRow base e 1 v n xs:=by
 obtain⟨hl,h⟩:=h;refine⟨hl,?_⟩;rcases h with h|⟨g,cap,cur,h1,h2,h3,h4⟩
 ·exact .inl h
 ·exact .inr ⟨g,cap,cur,h1,h2,aq hb h3,h4⟩
theorem uC{w w':World} {base base':Nat} {e e':TypeId} {u v:Value} {n m:Nat} {xs ys:List Value} (h:w.ownsRow base e 1 u n xs) (hv:w.ownsRow base' e' 1 v m ys) (aV:e≠e') (hg:w.grownBy w' v.ownBlock):w'.ownsRow base e 1 u n xs:=by
 obtain⟨hl,h⟩:=h;refine⟨hl,?_⟩;rcases h with h|⟨g,cap,cur,h1,h2,h3,h4⟩
 ·exact .inl h
 ·refine .inr ⟨g,cap,cur,h1,h2,(hg.block g (aw h3) (fun e1=>?_)).trans h3,h4⟩;rcases hv.2 with ⟨rfl,_⟩|⟨g',cap',cur',rfl,_,FW,_⟩
  ·cases e1
  ·cases e1
   rw[h3]at FW;cases FW;exact aV rfl
theorem PA{w:World} {base:Nat} {e:TypeId} {v:Value} {n:Nat} {xs:List Value} (h:w.ownsRow base e 1 v n xs):∀ g,v.ownBlock=some g->base<=g/\g<w.heap.size:=by
 intro g hg;rcases h.2 with ⟨rfl,_⟩|⟨g',cap,cur,rfl,h2,h3,_⟩
 ·cases hg
 ·cases hg;exact⟨h2,aw h3⟩
theorem ku{w:World} {base base':Nat} {e:TypeId} {v:Value} {n:Nat} {xs:List Value} (h:w.ownsRow base e 1 v n xs) (hb:base'<=base):w.ownsRow base' e 1 v n xs:=by
 obtain⟨hl,h⟩:=h;refine⟨hl,?_⟩;rcases h with h|⟨g,cap,cur,h1,h2,h3⟩
 ·exact .inl h
 ·exact .inr ⟨g,cap,cur,h1,Nat.le_trans hb h2,h3⟩
def dD(w:World) (base:Nat) (v:Value) (l:List (List Int)):Prop:=
 ∃ xs:List Value,w.ownsRow base 38 1 v l.length xs/\∀ i (hi:i<l.length) (hx:i<xs.length),w.ownsRow base 3 1 xs[i] l[i].length (l[i].map (Value.int .i64))
theorem GW(v:Value) (l:List (List Int)) (w:World) (hv:iN w v l) (hn:l.length<=1099511627776) (n9:∀ x∈l,x.length<=1099511627776) :
  Calls Tryz.prog 290 #[v] w fun e w'=>∃ u,e=.returned u/\dD w' w.heap.size u l/\Below w.heap.size w w':=by
 have HR:=ab (fun i (hi:i<l.length)=>n9 l[i] (List.getElem_mem hi));clear n9;obtain⟨pa,ca,rfl,la1,la2,ea⟩:=hv.at;clear hv;have EA:=ab ea;clear ea;obtain⟨i0,rF,dE,dc,dN⟩:=info_parts Tryz.infoInts
 go_enter Tryz.func290,Tryz.ntmps290
 go_wp2_with fail
 go_loopw [3,8] (fun o i wr=>Below w.heap.size w wr/\∃ k:Nat,k<=l.length/\i=.int .i64 k/\dD wr w.heap.size o (l.take k)) (fun _ i _=>l.length - (intOf i).toNat)
 ·exact⟨Below.refl _ _,0,by omega,rfl,[],by simpa using World.ownsRow_nil _ _ _ _,fun i hi=>by simp at hi⟩
 ·
  obtain⟨ba,k,hk,rfl,rA⟩:=hrel;by_cases aG:k<l.length
  ·obtain⟨b1,o1,rfl,x,cx,hx⟩:=EA.o k aG;rw[Nat.mul_one]at cx;have d1:=aC ba cx;have HX:=ab (hx.up up_int ba);obtain⟨px,qx,rfl,_⟩:=hx;clear cx;obtain⟨xs,aS,eW⟩:=rA;have ot:(l.take k).length=k:=by simp;omega
   rw[ot]at aS;have fw:=ab aS;have HEL:=ab eW;have HKL:=ab ot;clear aS eW ot
   go_wp2_with fail
   refine(Bt _ _ _ (D1 HX.o) (by rw[List.length_map];exact HR.o k aG)).mono ?_;rintro e w1 ⟨u,rfl,hu,aK⟩;obtain⟨au,cu,rfl,_⟩:=gE hu;rw[List.length_map]at hu;rw[List.length_map];generalize hN:l[k].length=nn at hu ⊢;have HN:=ab hN;clear hN;have be:=ak ba aK;have hA:Below w1.heap.size w1 (w1.alloc (.cells #[(Value.slice au nn cu)] 38)):=by go_grown
   have tW:=ab (lM (lM fw.o aK) hA)
   have bM:∀ j u',[(Value.slice au nn cu)][j]?=some u'->(w1.alloc (.cells #[(Value.slice au nn cu)] 38)).cell? (Addr.add ⟨w1.heap.size,0,none⟩ j)=some u':=fun j u' hj=>by
    cases j with
    | zero=>simp at hj;subst hj;simp[Addr.add,ae (aA w1 _)]
    | succ j=>simp at hj
   have fV:=ab bM;have HU:=ab hu;clear bM hu d1;have fT:=be.size
   go_wp2_with (at_builtin;(refine wpList_append_own _ rfl (.tmp 12) (.tmp 15) 30 rfl w.heap.size 38 i0 (.slice none 0 0) 1 24 Tryz.underlying30 rF dE dc dN rfl (by decide) _ k xs rfl tW.o ⟨w1.heap.size,0,none⟩ 1 1 [(Value.slice au nn cu)] rfl rfl fV.o (by simp[Value.oneCell']) (by unfold maxLen;omega) (by omega) (by simp;omega) ?_;intro v' w2 tU Dm _))
   go_roundw
   ·
    refine⟨Below.grown (w:=w1.alloc (.cells #[(Value.slice au nn cu)] 38)) (be.alloc fT _) Dm (by simp;omega) (fun g hg=>(PA fw.o g hg).1),k+1,by omega,by go_num,xs++[(Value.slice au nn cu)],?_,?_⟩
    ·rw[show (l.take (k+1)).length=k+1 by simp;omega];exact tU
    ·intro i hi hx;have FY:xs.length=k:=by have:=fw.o.1;omega
     by_cases Ak:i<k
     ·have h1:=HEL.o i (by rw[HKL.o];exact Ak) (by omega);have h2:=uC (lM (lM h1 aK) hA) tW.o (by decide) Dm;simp only[List.getElem_take]at h2 ⊢
      rwa [List.getElem_append_left (by omega)]
     ·obtain rfl:i=k:=by simp at hi;omega
      have h2:=uC (ku (lM HU.o hA) ba.size) tW.o (by decide) Dm;simp only[List.getElem_take];rw[List.getElem_append_right (by omega)];obtain rfl:=HN.o;simpa using h2
   ·simp[intOf];omega
  ·go_wp2_with fail
   go_ret
   refine⟨_,rfl,?_,ba⟩
   rwa [List.take_of_length_le (by omega)]at rA
theorem CD(x0 x1 x2:Value) (c:Cs) (f:Int) (w:World) (h1:iN w x1 c.out) (h2:iN w x2 c.calm) :
  Calls Tryz.prog 291 #[.agg #[x0,x1,x2],.int .i64 f] w fun e w'=>∃ u,e=.returned u/\iN w' u (fq c f)/\Below w.heap.size w w':=by
 have H1:=ab h1;have H2:=ab h2;obtain⟨p1,q1,rfl,_⟩:=h1.at;obtain⟨p2,q2,rfl,m1,m2,_⟩:=h2.at;clear h1 h2;by_cases hf:f=0
 ·subst hf;by_cases hl:0<c.calm.length
  ·have HV:bc (fq c 0=c.calm):=by(have h:fq c 0=c.calm:=by(unfold fq;rw[if_pos ⟨rfl,hl⟩]));exact h
   have Ap:decide ((0:Int)<(c.calm.length:Int))=true:=by simp;omega
   go_enter Tryz.func291,Tryz.ntmps291
   go_wp2_with fail
   go_ret
   refine⟨_,rfl,?_,by go_grown⟩;rw[HV.o];exact H2.o.up up_ints (by go_grown)
  ·have HV:bc (fq c 0=c.out):=by(have h:fq c 0=c.out:=by(unfold fq;rw[if_neg (fun h=>hl h.2)]));exact h
   have Ap:decide ((0:Int)<(c.calm.length:Int))=false:=decide_eq_false (by omega)
   go_enter Tryz.func291,Tryz.ntmps291
   go_wp2_with fail
   go_ret
   refine⟨_,rfl,?_,by go_grown⟩;rw[HV.o];exact H1.o.up up_ints (by go_grown)
 ·have HV:bc (fq c f=c.out):=by(have h:fq c f=c.out:=by(unfold fq;rw[if_neg (fun h=>hf h.1)]));exact h
  have hf':(f == 0)=false:=by simpa using hf
  go_enter Tryz.func291,Tryz.ntmps291
  go_wp2_with fail
  go_ret
  refine⟨_,rfl,?_,by go_grown⟩;rw[HV.o];exact H1.o.up up_ints (by go_grown)
theorem JZ(t:Tk) (vc:Value) (i f:Int) (w:World) (hv:it w vc t.cases) :
  Calls Tryz.prog 289 #[.agg #[.int .i64 t.n,.int .i64 t.ins,.int .i64 t.outs,vc],.int .i64 i,.int .i64 f] w fun e w'=>e=.returned (.int .i64 (fH t i f))/\Below w.heap.size w w':=by
 have G:=ab hv;obtain⟨pc,cc,rfl,l1,m1,_⟩:=hv.at;clear hv
 go_enter Tryz.func289,Tryz.ntmps289
 go_wp2_with fail
 refine dB (fun W=>Below w.heap.size w W/\W.heap[w.heap.size]?=some (.cells #[.int .i64 t.n,.int .i64 t.ins,.int .i64 t.outs,.slice pc t.cases.length cc] 24)) ⟨by go_grown,aA _ _⟩ (fun W0 dF=>?_);obtain⟨bw,jB⟩:=dF;refine(Ay t _ W0 (G.o.up up_case bw)).mono ?_;rintro e w1 ⟨rfl,aK⟩;have fo:=ak bw aK;have t1:=ae (aq aK jB);clear jB;by_cases Dn:taskE t=0
 case neg=>
  have HV:bc (fH t i f=taskE t):=by(have h:fH t i f=taskE t:=by(unfold fH;rw[if_pos Dn]));exact h
  generalize taskE t=et at HV Dn;have het':(et != 0)=true:=by simpa using Dn
  go_wp2_with fail
  go_ret
  exact⟨aE (by rw[HV.o]),fo⟩
 obtain⟨⟨n1,n2⟩,_⟩:=dL Dn;have HV:bc (fH t i f=if i<0\/(t.cases.length:Int)<=i then 6 else if f<0\/2 ^ t.n.toNat<=f then 2 else 0):=by(have h:fH t i f=if i<0\/(t.cases.length:Int)<=i then 6 else if f<0\/2 ^ t.n.toNat<=f then 2 else 0:=by(unfold fH;rw[if_neg (by simpa using Dn)]));exact h
 rw[Dn];clear Dn;generalize t.n=n at *;have:n=1\/n=2\/n=3\/n=4\/n=5:=by omega
 rcases this with rfl|rfl|rfl|rfl|rfl
 all_goals
  go_wp2_with fail
  all_goals
   go_ret
   refine⟨aE ?_,fo⟩;rw[HV.o]
   go_light
   grind
theorem Ep(t:Tk) (vc:Value) (i f:Int) (w:World) (hv:it w vc t.cases) :
  Calls Tryz.prog 260 #[.agg #[.int .i64 t.n,.int .i64 t.ins,.int .i64 t.outs,vc],.int .i64 i,.int .i64 f] w fun e w'=>∃ u,e=.returned (.tuple #[u,.int .i64 (fH t i f)])/\dD w' w.heap.size u (aP t i f)/\Below w.heap.size w w':=by
 have G:=ab hv;obtain⟨pc,cc,rfl,l1,m1,e1⟩:=hv.at;clear hv;have E:=ab e1;clear e1
 go_enter Tryz.func260,Tryz.ntmps260
 go_wp2_with fail
 refine dB (fun W=>Below w.heap.size w W/\W.heap[w.heap.size]?=some (.cells #[.int .i64 t.n,.int .i64 t.ins,.int .i64 t.outs,.slice pc t.cases.length cc] 24)) ⟨by go_grown,aA _ _⟩ (fun W0 dF=>?_);obtain⟨bw,jB⟩:=dF;refine(JZ t _ i f W0 (G.o.up up_case bw)).mono ?_;rintro e w1 ⟨rfl,aK⟩;have fo:=ak bw aK;have t1:=ae (aq aK jB);clear jB;by_cases hp:fH t i f=0
 case neg=>
  have HV:bc (aP t i f=[]):=by(have h:aP t i f=[]:=by(unfold aP;rw[if_pos hp]));exact h
  generalize hE:fH t i f=et at hp;have HE:=ab hE;clear hE;have het':(et != 0)=true:=by simpa using hp
  go_wp2_with fail
  go_ret2
  refine⟨.slice none 0 0,by rw[HE.o];rfl,?_,fo⟩;rw[HV.o];exact⟨[],by simpa using World.ownsRow_nil _ _ _ _,fun i hi=>by simp at hi⟩
 obtain⟨ht,rF,gi⟩:=zK hp;have HV:bc (aP t i f=fq (t.cases.getD i.toNat default) f):=by(have h:aP t i f=fq (t.cases.getD i.toNat default) f:=by(unfold aP;rw[if_neg (by simpa using hp)]));exact h
 rw[hp];have HE:=ab hp;clear hp;obtain⟨k,rfl⟩:∃ k:Nat,i=k:=⟨i.toNat,by omega⟩;simp only[Int.toNat_natCast]at gi HV;have HOK:=ab (ES ((dL ht).2.2.2.2 t.cases[k] (List.getElem_mem gi)) f);have HN:=ab (dL ht).1;clear ht rF;have HVV:bc (aP t k f=fq t.cases[k] f):=by(have h:aP t k f=fq t.cases[k] f:=by(rw[HV.o,aj default gi]));exact h
 clear HV;obtain⟨b1,o1,rfl,⟨x0,cx0,p7⟩,⟨x1,cx1,ip⟩,⟨x2,cx2,lf⟩⟩:=E.o k gi;have d0:=aC fo cx0;have d1:=aC fo cx1;have d2:=aC fo cx2;have Fq0:=ab (ip.up up_ints fo);have Ot:=ab (lf.up up_ints fo);obtain⟨p0,q0,rfl,_⟩:=p7;obtain⟨p1,q1,rfl,_⟩:=ip;obtain⟨p2,q2,rfl,_⟩:=lf;clear cx0 cx1 cx2
 go_wp2_with fail
 refine(CD _ _ _ t.cases[k] f w1 Fq0.o Ot.o).mono ?_;rintro e w2 ⟨u,rfl,hu,bo⟩;have HU:=ab hu;obtain⟨pu,qu,rfl,_⟩:=hu;clear t1 d0 d1 d2
 go_wp2_with fail
 refine(GW _ _ w2 HU.o (Nat.le_trans HOK.o.1 (by omega)) (fun x hx=>by have h1:=HOK.o.2 x hx;have h2:=HN.o;omega)).mono ?_;rintro e w3 ⟨u3,rfl,K2,eK⟩;have DH:=ak fo bo
 go_wp2_with fail
 go_ret2
 refine⟨u3,by rw[HE.o];rfl,?_,ak DH eK⟩;rw[HVV.o];obtain⟨xs,h1,h2⟩:=K2;exact⟨xs,ku h1 DH.size,fun i hi hx=>ku (h2 i hi hx) DH.size⟩
theorem l5(p:Nat->Bool) (n:Nat):keptIx p (n+1)=if p n then keptIx p n else keptIx p n++[n]:=by
 unfold keptIx;rw[List.range_succ,List.filter_append];cases h:p n<;>simp[h]
theorem qS(p:Nat->Bool) (n:Nat) (h:∀ j,j<n->p j=false):keptIx p n=List.range n:=by
 unfold keptIx;exact List.filter_eq_self.2 fun a ha=>by simp[h a (List.mem_range.1 ha)]
theorem J0{p:Nat->Bool} {n i:Nat} (h:i∈keptIx p n):i<n/\p i=false:=by
 simpa[keptIx] using h
theorem sG(g:Nat) (t:TypeId):∀ (vs:List Value) (o:Nat) (w:World) (d:Array Value),w.heap[g]?=some (.cells d t (0,0)) →
  ∃ d':Array Value,(w.setCells g o vs).heap[g]?=some (.cells d' t (0,0))/\d'.size=d.size/\(∀ j,j<o->d'[j]?=d[j]?)/\w.grownBy (w.setCells g o vs) (some g)
 | [],o,w,d,h=>⟨d,h,rfl,fun _ _=>rfl,⟨rfl,rfl,rfl,Nat.le_refl _,fun _ _ _=>rfl⟩⟩
 | v :: r,o,w,d,h=>by
  have h1:(w.setCell ⟨g,o,none⟩ v).heap[g]?=some (.cells (d.setIfInBounds o v) t (0,0)):=bn h _ _;obtain⟨d',h2,h3,h4,h5⟩:=sG g t r (o+1) _ _ h1;refine⟨d',h2,by simpa using h3,fun j hj=>?_,⟨h5.os,h5.tape,h5.output,by first | (have h6:=h5.size;simp at h6;exact h6) | simp,fun k hk aV=>?_⟩⟩
  ·rw[h4 j (by omega),Array.getElem?_setIfInBounds_ne (by omega)]
  ·rw[show w.setCells g o (v :: r)=(w.setCell ⟨g,o,none⟩ v).setCells g (o+1) r from rfl,h5.block k (by simpa using hk) aV];exact Below.heap_setCell _ _ _ _ (fun e=>aV (by rw[e]))
theorem vN(g:Nat) (lb:Array Value) (eg:∀ args w,(callFunc g args).run Tryz.prog w=.ok (.enter g args) w) (v:Value) (xs:List Value) (p:Nat->Bool) (w:World) (hv:mV w v xs) (hn:xs.length<=17592186044416)
  (hp:∀ i (hi:i<xs.length) W,Below w.heap.size w W->Calls Tryz.prog g (#[xs[i]]++lb) W fun e W'=>e=.returned (.bool (p i))/\Below W.heap.size W W') :
  Calls Tryz.prog 252 #[v,.func (.func g) #[] lb] w fun e w'=>e=.returned (.int .i64 (firstIx xs.length p))/\Below w.heap.size w w':=by
 obtain⟨pa,ca,rfl,la1,ea,la3⟩:=hv;have EA:=ab ea;clear ea la1;have HP:=ab hp;clear hp;have H3:=ab la3;clear la3
 go_enter Tryz.func252,Tryz.ntmps252
 go_wp2
 go_loopw [8] (fun i wr=>Below w.heap.size w wr/\∃ k:Nat,k<=xs.length/\i=.int .i64 k/\∀ j,j<k->p j=false) (fun i _=>xs.length - (intOf i).toNat)
 ·exact⟨Below.refl _ _,0,by omega,rfl,by simp⟩
 ·
  obtain⟨ba,k,hk,rfl,bB⟩:=hrel;have H:=ab bB;clear bB;by_cases aG:k<xs.length
  ·obtain⟨b1,o1,rfl,h1⟩:=EA.o k _ (List.getElem?_eq_getElem aG);have c1:=aC ba h1;have br:=HP.o k aG wr ba;clear h1;generalize xs[k]=x at c1 br;cases fU:p k with
   | true=>
    rw[fU]at br;have dg:=ab br;clear br;have tj:=ab fU;clear fU
    go_wp2_with fail
    refine dg.o.mono ?_;rintro e w1 ⟨rfl,aK⟩
    go_wp2_with fail
    go_ret
    exact⟨aE (cD _ _ _ aG H.o tj.o).symm,ak ba aK⟩
   | false=>
    rw[fU]at br;have dg:=ab br;clear br;have tj:=ab fU;clear fU
    go_wp2_with fail
    refine dg.o.mono ?_;rintro e w1 ⟨rfl,aK⟩
    go_wp2_with fail
    go_roundw
    ·exact⟨ak ba aK,k+1,by omega,by go_num,bG H.o tj.o⟩
    ·simp[intOf];omega
  ·go_wp2
   go_ret
   exact⟨aE (by rw[cU];intro j hj;exact H.o j (by omega)),ba⟩
theorem uD{w a b:World} {g:Nat} (h:w.grownBy a (some g)) (_hg:g<w.heap.size) (k:Below a.heap.size a b):w.grownBy b (some g):=
 ⟨k.os.trans h.os,k.tape.trans h.tape,k.output.trans h.output,Nat.le_trans h.size k.size,fun i hi aV=>(k.block i (Nat.lt_of_lt_of_le hi h.size)).trans (h.block i hi aV)⟩
theorem uE{w a b:World} {r:Option Nat} (h:w.grownBy a r) (k:a.grownBy b r):w.grownBy b r:=
 ⟨k.os.trans h.os,k.tape.trans h.tape,k.output.trans h.output,Nat.le_trans h.size k.size,fun i hi aV=>(k.block i (Nat.lt_of_lt_of_le hi h.size) aV).trans (h.block i hi aV)⟩
theorem GX(w:World) (g o:Nat) (v:Value):w.grownBy (w.setCell ⟨g,o,none⟩ v) (some g):=
 ⟨rfl,rfl,rfl,by simp,fun _ _ aV=>Below.heap_setCell _ _ _ _ (fun e=>aV (by rw[e]))⟩
structure KeptTo (p:Nat->Bool) (xs:List Value) (cur dk:Array Value) (i j:Nat):Prop where
 lt:i<j
 len:(keptIx p j).length=i
 size:dk.size=cur.size
 low:∀ t (_:t<i),dk[t]?=some (xs.getD ((keptIx p j).getD t 0) undef)
 high:∀ t,i<=t->dk[t]?=cur[t]?
theorem KeptTo.skip{p:Nat->Bool} {xs:List Value} {cur dk:Array Value} {i j:Nat} (h:KeptTo p xs cur dk i j) (hp:p j=true):KeptTo p xs cur dk i (j+1):=by
 have e:keptIx p (j+1)=keptIx p j:=by rw[l5,hp];rfl
 exact⟨by have:=h.lt;omega,by rw[e];exact h.len,h.size,fun t ht=>by rw[e];exact h.low t ht,h.high⟩
theorem KeptTo.keep{p:Nat->Bool} {xs:List Value} {cur dk:Array Value} {i j:Nat} (h:KeptTo p xs cur dk i j) (hp:p j=false) (hj:j<xs.length) (hc:xs.length<=cur.size):KeptTo p xs cur (dk.setIfInBounds i (xs[j])) (i+1) (j+1):=by
 have e:keptIx p (j+1)=keptIx p j++[j]:=by rw[l5,hp];rfl
 have hl:=h.len;have aG:=h.lt;refine⟨by omega,by rw[e];simp[hl],by simp[h.size],fun t ht=>?_,fun t ht=>?_⟩
 ·by_cases Rw:t=i
  ·subst Rw;rw[Array.getElem?_setIfInBounds_self_of_lt (by rw[h.size];omega),e];have:(keptIx p j++[j]).getD t 0=j:=by simp[<-hl]
   rw[this];simp[hj]
  ·rw[Array.getElem?_setIfInBounds_ne (by omega),h.low t (by omega),e]
   have:(keptIx p j++[j]).getD t 0=(keptIx p j).getD t 0:=by
    rw[List.getD_eq_getElem?_getD,List.getElem?_append_left (by omega),List.getD_eq_getElem?_getD]
   rw[this]
 ·rw[Array.getElem?_setIfInBounds_ne (by omega),h.high t (by omega)]
theorem KeptTo.row{p:Nat->Bool} {xs:List Value} {cur dk d':Array Value} {i:Nat} (h:KeptTo p xs cur dk i xs.length) (hc:xs.length<=cur.size) (hs:d'.size=dk.size) (hd:∀ t,t<i->d'[t]?=dk[t]?):d'.toList.take i=jW p xs undef:=by
 have hl:=h.len;have aG:=h.lt;have bA:=h.size;apply List.ext_getElem?;intro t;by_cases ht:t<i
 ·rw[List.getElem?_take_of_lt ht,Array.getElem?_toList,hd t ht,h.low t ht];unfold jW;rw[List.getElem?_map,List.getD_eq_getElem?_getD (l:=keptIx p xs.length)];rw[List.getElem?_eq_getElem (by omega)];rfl
 ·rw[List.getElem?_eq_none (by simp;omega),List.getElem?_eq_none (by simp[jW];omega)]
theorem yH(f:Nat) (lb:Array Value) (eg:∀ args w,(callFunc f args).run Tryz.prog w=.ok (.enter f args) w) (base:Nat) (v:Value) (xs:List Value) (p:Nat->Bool) (w:World)
  (aS:w.ownsRow base 38 1 v xs.length xs) (hn:xs.length<=17592186044416) (uP:∀ x∈xs,∃ a n c,x=.slice a n c)
  (br:∀ i (hi:i<xs.length) W,w.grownBy W v.ownBlock->Calls Tryz.prog f (#[xs[i]]++lb) W fun e W'=>e=.returned (.bool (p i))/\Below W.heap.size W W') :
  Calls Tryz.prog 262 #[v,.func (.func f) #[] lb] w fun e w'=>∃ u,e=.returned u/\u.ownBlock=v.ownBlock/\w'.ownsRow base 38 1 u (jW p xs undef).length (jW p xs undef)/\w.grownBy w' v.ownBlock:=by
 have Ib:mV w v xs:=by
  obtain⟨a,cap,rfl,h1,h2,h3,h4,h5⟩:=gE aS;refine⟨a,cap,rfl,fun e=>⟨?_,h3 e⟩,fun i x hx=>?_,fun x hx=>?_⟩
  ·have:=h3 e;omega
  ·obtain⟨b,hb,hc⟩:=h5 i x hx;exact⟨b,0,hb,by simpa using hc⟩
  ·obtain⟨_,_,_,rfl⟩:=uP x hx;rfl
 have xR:=vN f lb eg v xs p w Ib hn (fun i hi W hW=>br i hi W ⟨hW.os,hW.tape,hW.output,hW.size,fun k hk _=>hW.block k hk⟩);have HIX:=ab xR;clear xR Ib;have FP:=ab uP;clear uP;by_cases lh:∀ j,j<xs.length->p j=false
 ·have hk:jW p xs undef=xs:=by unfold jW;rw[qS _ _ lh];exact ws _ _
  have hf:firstIx xs.length p=-1:=cU _ _ lh;have HK:=ab hk;have HF:=ab hf;have fw:=ab aS;obtain⟨a,cap,rfl,_⟩:=gE aS;clear hk hf aS br lh
  go_enter Tryz.func262,Tryz.ntmps262
  go_wp2_with fail
  refine HIX.o.mono ?_;rintro e w1 ⟨rfl,aK⟩;rw[HF.o]
  go_wp2_with fail
  go_ret
  refine⟨_,rfl,rfl,?_,⟨aK.os,aK.tape,aK.output,aK.size,fun k hk _=>aK.block k hk⟩⟩;rw[HK.o];exact lM fw.o aK
 ·obtain⟨k0,k7,dw,bV⟩:∃ k0,k0<xs.length/\p k0=true/\∀ j,j<k0->p j=false:=by
   rcases cn xs.length p with h|⟨k,h1,h2,h3,h4⟩
   ·exact absurd h.2 lh
   ·exact⟨k,h1,h3,h4⟩
  have hf:firstIx xs.length p=k0:=cD _ _ _ k7 bV dw;have HF:=ab hf;clear hf lh;obtain⟨hl,aS⟩:=aS;rcases aS with ⟨rfl,h0⟩|⟨g,cap,cur,rfl,hg,hb,Lj,hm,hs,ht⟩
  ·omega
  rw[Nat.mul_one]at hs ht;have HC:=ab br;clear br
  have hstart:KeptTo p xs cur cur k0 (k0+1):=⟨by omega,by rw[l5,dw,qS _ _ bV];simp,rfl,fun t Rw=>by
   rw[l5,dw,qS _ _ bV];have h2:xs[t]?=some xs[t]:=List.getElem?_eq_getElem (by omega);have h1:cur[t]?=xs[t]?:=by rw[<-Array.getElem?_toList,<-ht,List.getElem?_take_of_lt (by omega)]
   rw[h1,h2]
   simp[Rw,show t<xs.length by omega],fun _ _=>rfl⟩
  have K7:=ab hstart;have HB:=ab hb;have HT:=ab ht;have hgl:=aw hb;clear hstart hb ht dw bV hl;have hne1:((k0:Int) == -1)=false:=beq_eq_false_iff_ne.2 (by omega);have hv7:=Tryz.zeroValue38
  go_enter Tryz.func262,Tryz.ntmps262
  go_wp2_with fail
  refine HIX.o.mono ?_;rintro e w1 ⟨rfl,aK⟩;rw[HF.o];have hgr1:w.grownBy w1 (some g):=⟨aK.os,aK.tape,aK.output,aK.size,fun k hk _=>aK.block k hk⟩
  go_wp2_with fail
  go_loopw [5,6,7] (fun s5 s6 _ wr=>w.grownBy wr (some g)/\∃ (i j:Nat) (dk:Array Value),s5=.int .i64 i/\s6=.int .i64 j/\j<=xs.length/\wr.heap[g]?=some (.cells dk 38)/\KeptTo p xs cur dk i j) (fun _ s6 _ _=>xs.length - (intOf s6).toNat)
  ·exact⟨hgr1,k0,k0+1,cur,rfl,by go_num,by omega,aq aK HB.o,K7.o⟩
  ·
   obtain⟨Dg,i,j,dk,rfl,rfl,hjx,lg,Al⟩:=hrel;have p6:=Al.lt;have uZ:=Al.size;have xT:=Dg.size;by_cases aG:j<xs.length
   ·have c1:=ae lg j
    have e1:dk[j]?=some xs[j]:=by
     rw[Al.high j (by omega),<-Array.getElem?_toList];have:=HT.o;rw[show cur.toList[j]?=(cur.toList.take xs.length)[j]? by rw[List.getElem?_take_of_lt aG],this];exact List.getElem?_eq_getElem aG
    rw[e1]at c1;have br:=HC.o j aG wr Dg;obtain⟨ax,nx,cx,ex⟩:=FP.o xs[j] (List.getElem_mem aG);have HX:=ab ex;rw[ex]at c1 br;have HKT:=ab Al;have Ik:=ab lg;clear ex Al lg e1;cases rC:p j with
    | false=>
     rw[rC]at br;have dg:=ab br;clear br;have Q2:=ab rC;clear rC
     go_wp2_with fail
     refine dg.o.mono ?_;rintro e w2 ⟨rfl,bo⟩;have c2:∃ old,w2.cell? ⟨g,i,none⟩=some old:=⟨dk[i]'(by omega),by rw[ae (aq bo Ik.o)];exact Array.getElem?_eq_getElem _⟩;obtain⟨old,c2⟩:=c2;have f2:=bf (aq bo Ik.o) i;have eV:=bo.size;clear c1
     go_wp2_with fail
     go_roundw
     ·
      refine⟨uE (uD Dg (by omega) bo) (GX _ _ _ _),i+1,j+1,dk.setIfInBounds i xs[j],by go_num,by go_num,by omega,?_,HKT.o.keep Q2.o aG (by omega)⟩;rw[HX.o];exact bn (aq bo Ik.o) _ _
     ·simp[intOf];omega
    | true=>
     rw[rC]at br;have dg:=ab br;clear br;have Q2:=ab rC;clear rC
     go_wp2_with fail
     refine dg.o.mono ?_;rintro e w2 ⟨rfl,bo⟩;clear c1
     go_wp2_with fail
     go_roundw
     ·exact⟨uD Dg (by omega) bo,i,j+1,dk,rfl,by go_num,by omega,aq bo Ik.o,HKT.o.skip Q2.o⟩
     ·simp[intOf];omega
   ·obtain rfl:j=xs.length:=by omega
    have bQ:∀ ty,(Builtin.clear_ #[30] ty #[.slice (some ⟨g,i,none⟩) (xs.length - i) (cap - i)]).run Tryz.prog wr=.ok (.tuple #[]) (wr.setCells g i (List.replicate (xs.length - i) (.slice none 0 0))):=
     fun ty=>by
      have:=Lib.run_clear_slice (P:=Tryz.prog) wr 30 38 ty (.slice none 0 0) Tryz.underlying30 Tryz.zeroValue38 rfl rfl g i (xs.length - i) (cap - i) (by omega)
       (fun t ht=>by rw[ae lg,Array.getElem?_eq_getElem (by omega)];rfl) (fun t ht=>bf lg _)
      simpa using this
    obtain⟨d',r1,r2,r3,r4⟩:=sG g 38 (List.replicate (xs.length - i) (.slice none 0 0)) i wr dk lg;have R1:=ab r1;have R4:=ab r4;have HROW:=ab (Al.row (d':=d') (by omega) r2 r3);have sR:=ab Al.len;clear Al lg r1 r3 r4;generalize hWW:wr.setCells g i (List.replicate (xs.length - i) (.slice none 0 0))=WW at bQ R1 R4;clear hWW
    go_wp2_with fail
    go_ret
    have Dp:(jW p xs undef).length=i:=by simp[jW,sR.o]
    refine⟨_,rfl,rfl,⟨by simp,.inr ⟨g,cap,d',?_,hg,R1.o,by omega,hm,by omega,?_⟩⟩,uE Dg R4.o⟩
    ·rw[Dp];rfl
    ·rw[Dp,Nat.mul_one];exact HROW.o
abbrev xm(l:List (List (List Int))):D:=.fz 1 (l.map fun x=>[ez x])
abbrev N1(l:List (List (List (List Int)))):D:=.fz 1 (l.map fun x=>[xm x])
abbrev J3(s:St):List D:=[iD s.rd,iD s.pr,iD s.h0,iD s.h1,iD s.h2,iD s.h3,iD s.h4,iD s.to]
abbrev CE(l:List St):D:=.fz 8 (l.map J3)
abbrev eT(m:Mac):D:=.agg [iD m.n,iD m.rounds,iD m.ins,iD m.outs,ez m.first,N1 m.syms,CE m.steps,xm m.out]
@[simp] theorem ix_list {β:Type} (l:List (List β)) (i:Nat):ix l i=l.getD i []:=rfl
@[simp] theorem ix_st (l:List St) (i:Nat):ix l i=l.getD i default:=rfl
theorem N2{P:Program} {f g:FuncId} {x r:D} (h:FC P f [x,.fn (.func g) [] []] r):FC P f [x,.v (.func (.func g) #[] #[])] r:=
 ⟨h.1,fun G us w hG hs hu=>h.2 G us w hG hs fun i y hy=>by
  match i,hy with
  | 0,hy=>exact hu 0 y hy
  | 1,hy=>
   cases hy
   have:=(hu 1 _ rfl).val;rw[this]
   exact .fn _ _ _ _ _ rfl rfl (fun i x e=>by simp at e) (fun i x e=>by simp at e)⟩
end Go.Proofs.YtiocdkdkndpgkaaGreat
namespace Go.Proofs.YtiocdkdkndpgkaaGreat
open Go.RowKit Go Go.Shelf Go.Sort Go.Lib
theorem ru{a b c:Rd} (h1:¬ roundC a b<0) (h2:¬ roundC b c<0):¬ roundC a c<0:=by
 intro h3;rcases Int.lt_trichotomy (roundC a b) 0 with h|h|h
 ·exact h1 h
 ·rw[(kK a b).1 h]at h3;exact h2 h3
 ·have hba:roundC b a<0:=(lU b a).2 h;exact h2 (gx hba h3)
theorem round_swo:SWO (ltOf roundC) where
 irrefl x:=by unfold ltOf;simpa using kL x
 trans x y z h1 h2:=by unfold ltOf at *;simp only[decide_eq_true_eq]at *;exact gx h1 h2
 ntrans x y z h1 h2:=by unfold ltOf at *;simp only[decide_eq_false_iff_not]at *;exact ru h1 h2
theorem zL(l:List Rd) (t:Nat) (ht:t<l.length * 7):(aL l)[t]?=some ((flatK (fun r:Rd=>r.c.toList) 7 l.toArray)[t]!):=by
 rw[get_flatK _ _ _ t (by simpa using ht)];have h7:t / 7<l.length:=by omega
 have hm:t % 7<7:=Nat.mod_lt _ (by omega);have h1:=tI Rd.c 7 (fun _=>rfl) l (t / 7) (t % 7) h7 hm;rw[show t / 7 * 7+t % 7=t by omega]at h1;have h2:l.toArray[t / 7]! = l[t / 7]:=by rw[getElem!_pos _ _ (by simpa using h7)];simp
 rw[h2];refine h1.trans ?_;have h3:t % 7<l[t / 7].c.size:=hm;rw[Array.getElem?_eq_getElem h3,getElem!_pos _ _ (by simpa using h3)];simp
theorem MN{W:World} {base g cap n:Nat} {l l':List Rd} (h:aJ W base 109 7 (.slice (some ⟨g,0,none⟩) n cap) n (aL l)) (hl:l'.length=n) (k:Nat) (os:Array Obj) :
  aJ (sortWorldK (fun r:Rd=>r.c.toList) 7 W g 0 k l'.toArray os) base 109 7 (.slice (some ⟨g,0,none⟩) n cap) n (aL l')/\∀ b w0,b<=base->Below b w0 W->Below b w0 (sortWorldK (fun r:Rd=>r.c.toList) 7 W g 0 k l'.toArray os):=by
 obtain⟨bi,h⟩:=h;rcases h with ⟨h,_⟩|⟨g',cap',cur,fz,e1,h2,h3,h4,h5,h6,h7,h8⟩
 ·cases h
 ·simp only[Value.slice.injEq,Option.some.injEq,Addr.mk.injEq]at e1;obtain⟨⟨rfl,_⟩,_,rfl⟩:=e1;have aG:=aw h3;have hF:(flatK (fun r:Rd=>r.c.toList) 7 l'.toArray).size=n * 7:=by simp[hl]
  have bA:n * 7<=cap * 7:=Nat.mul_le_mul_right _ h5;generalize hFe:flatK (fun r:Rd=>r.c.toList) 7 l'.toArray=F at hF
  have hX:∀ j,(sortWorldK (fun r:Rd=>r.c.toList) 7 W g 0 k l'.toArray os).heap[j]?=if j<W.heap.size then(if g=j then(W.heap[j]?).map (onCells (putCells id 0 F)) else W.heap[j]?) else(W.heap.modify g (onCells (putCells id 0 F))++os)[j]?:=fun j=>by
   unfold sortWorldK putRowK putRow mapBlock grow Sort.ahead;rw[hFe];dsimp only;split
   ·rename_i hj;rw[Array.getElem?_append_left (by simpa using hj),Array.getElem?_modify]
   ·rfl
  have hXg:=hX g;rw[if_pos aG,if_pos rfl,h3]at hXg;refine⟨⟨by rw[gF,hl],.inr ⟨g,cap,_,fz,rfl,h2,hXg,?_,h5,h6,?_,?_⟩⟩,fun b w0 hb gh=>⟨gh.os,gh.tape,gh.output,?_,fun j hj=>?_⟩⟩
  ·intro i hi;exact h4 i (by simpa[putCells] using hi)
  ·simpa[putCells] using h7
  ·apply List.ext_getElem?;intro i;by_cases hi:i<n * 7
   ·rw[List.getElem?_take_of_lt hi,zL l' i (by rw[hl];exact hi),hFe];simp only[Array.getElem?_toList,putCells,Array.getElem?_mapIdx];rw[Array.getElem?_eq_getElem (by omega)];simp[hF,hi]
   ·rw[List.getElem?_eq_none (by simp;omega),List.getElem?_eq_none (by rw[gF,hl];omega)]
  ·have:=gh.size;unfold sortWorldK putRowK putRow mapBlock grow Sort.ahead;simp;omega
  ·rw[hX j];by_cases Lu:j<W.heap.size
   ·rw[if_pos Lu,if_neg (by omega)];exact gh.block j hj
   ·omega
theorem GY(l:List Rd) (base g cap:Nat) (w:World) (h:aJ w base 109 7 (.slice (some ⟨g,0,none⟩) l.length cap) l.length (aL l)) (hl:l.length<=1048576) :
  Calls Tryz.prog 187 #[.slice (some ⟨g,0,none⟩) l.length cap,.func (.func 188) #[] #[]] w fun e w'=>e=.returned (.tuple #[])/\aJ w' base 109 7 (.slice (some ⟨g,0,none⟩) l.length cap) l.length (aL (l.mergeSort fun x y=>!(ltOf roundC) y x))/\∀ b w0,b<=base->Below b w0 w->Below b w0 w':=by
 have eg:∀ args w,(callFunc 188 args).run Tryz.prog w=.ok (.enter 188 args) w:=enters_of Tryz.func188 (by kernel_rfl) rfl
 have hcmp:CmpLays Tryz.prog 188 #[] (fun r:Rd=>r.c.toList) 7 roundC g 0 l.toArray.size w:=fun m os dk _ x y=>by
  refine(t5 x y _).mono ?_;rintro e w' ⟨rfl,q,os',hq⟩;exact⟨rfl,q,os',hq⟩
 have lg:g<w.heap.size:=(h.lt g rfl).2
 have hH:HoldsK (fun r:Rd=>r.c.toList) 7 w g 0 l.toArray:=by
  rcases h.2 with ⟨h,_⟩|⟨g',cap',cur,fz,e1,h2,h3,h4,h5,h6,h7,h8⟩
  ·cases h
  ·simp only[Value.slice.injEq,Option.some.injEq,Addr.mk.injEq]at e1;obtain⟨⟨rfl,_⟩,_,rfl⟩:=e1;intro j hj;have jA:j<l.length * 7:=by simpa using hj
   have bA:l.length * 7<=cap * 7:=Nat.mul_le_mul_right _ h5;refine⟨?_,by rw[Nat.zero_add];exact xf h3 h4 j (by omega)⟩;rw[Nat.zero_add,ae h3];have h9:=zL l j jA;rw[<-h8,List.getElem?_take_of_lt jA,Array.getElem?_toList]at h9;exact h9
 have sQ:=AnyQ.slices_SortFunc_total Tryz.sortRd 7 Tryz.isAgg109 Tryz.sizeOf109 (fun r:Rd=>r.c.toList) (fun _=>rfl) (fun x v hv=>sa [x] v (by simpa[aL] using hv)) roundC round_swo 188 #[] g 0 cap l.toArray w eg hcmp hH lg (by simp;omega) (fun x y h1 h2=>by
  unfold ltOf at h1 h2;simp only[decide_eq_false_iff_not]at h1 h2;rcases Int.lt_trichotomy (roundC x y) 0 with h|h|h
  ·exact absurd h h1
  ·exact(kK x y).1 h
  ·exact absurd ((lU y x).2 h) h2)
 refine Calls.mono sQ ?_;rintro e w' ⟨rfl,n,os,rfl⟩;obtain⟨q1,q2⟩:=MN h (l':=l.mergeSort fun x y=>!(ltOf roundC) y x) (List.length_mergeSort _) n os;exact⟨rfl,q1,q2⟩
end Go.Proofs.YtiocdkdkndpgkaaGreat
namespace Go.Proofs.YtiocdkdkndpgkaaGreat
open Go.RowKit Go
theorem jP(n lo hi:Int):FC Tryz.prog 121 [iD n,iD lo,iD hi] (bD (inB n lo hi)):=by
 refine an Tryz.func121 rfl rfl rfl Tryz.call121 [] [] rfl 1 (fun hb w0 G0=>?_);unfold inB;simp
 (refine Bz.split (fun h=>?_) (fun h=>?_)<;>(try simp only[decide_eq_true_eq,decide_eq_false_iff_not,Bool.not_eq_true',Bool.not_eq_false',beq_iff_eq,bne_iff_ne,beq_eq_false_iff_ne,bne_eq_false_iff_eq,Bool.not_not,Bool.and_eq_true,Bool.or_eq_true,Bool.and_eq_false_iff,Bool.or_eq_false_iff]at h))<;>simp[h]
theorem MO(x lo hi:Int):FC Tryz.prog 219 [iD x,.fp 1 [[iD lo]] 0 0,.fp 1 [[iD hi]] 0 0] (bD (!inB x lo hi)):=by
 refine an Tryz.func219 rfl rfl rfl Tryz.call219 [] [] rfl 1 (fun hb w0 G0=>?_);simp;refine ap (jP _ _ _) ?_;simp
theorem pT(l:List Int) (lo hi:Int):FC Tryz.prog 151 [aT l,iD lo,iD hi] (bD (cL l lo hi)):=by
 refine an Tryz.func151 rfl rfl rfl Tryz.call151 [] [] rfl 1 (fun hb w0 G0=>?_);unfold cL;simp;refine ap (tQ l _ _ (fun i=>!inB (l.getD i 0) lo hi) (fun i jS=>by simpa[jS] using MO l[i] lo hi)) ?_;simp
theorem MQ(x:List Int) (m:Mac) (ho:1<=m.outs/\m.outs<=8):FC Tryz.prog 201 [aT x,.fp 8 [[iD m.n,iD m.rounds,iD m.ins,iD m.outs,ez m.first,N1 m.syms,CE m.steps,xm m.out]] 0 0] (bD (!cL x (-1) (m.outs - 1))):=by
 refine an Tryz.func201 rfl rfl rfl Tryz.call201 [] [] rfl 1 (fun hb w0 G0=>?_);simp;refine vg (ap (pT _ _ _) ?_);simp
theorem MS(x:List Int):FC Tryz.prog 202 [aT x] (bD (!cL x 0 1048576)):=by
 refine an Tryz.func202 rfl rfl rfl Tryz.call202 [] [] rfl 1 (fun hb w0 G0=>?_);simp;refine ap (pT _ _ _) ?_;simp
theorem GZ(m:Mac) (ho:1<=m.outs/\m.outs<=8) (h0:0<m.out.length) (h1:m.first.length<=(m.out.getD 0 []).length):FC Tryz.prog 124 [eT m] (bD (iv m)):=by
 refine an Tryz.func124 rfl rfl rfl Tryz.call124 [] [] rfl 5 (fun hb w0 G0=>?_);simp at hb;obtain⟨oQ,fm,rB,iq⟩:=hb;generalize hr:iv m=r;unfold iv at hr;simp;have e0:m.out.getD 0 []=m.out[0]:=by simp[h0]
 rw[e0]at h1;refine am [1,12,13] [] (fun k:Nat=>[(14,.d (iD k))]) (fun _=>[]) (fun k=>m.first.length - k) (fun k=>k<=m.first.length/\anyLt k (fun p=>!cL (m.first.getD p []) (-1) ((((m.out.getD 0 []).getD p []).length:Int) - 1))=false) 0 ⟨by omega,rfl⟩ (by simp) (fun k hk=>?_);obtain⟨hk,hj⟩:=hk;simp
 (refine Bz.split (fun h=>?_) (fun h=>?_)<;>(try simp only[decide_eq_true_eq,decide_eq_false_iff_not,Bool.not_eq_true',Bool.not_eq_false',beq_iff_eq,bne_iff_ne,beq_eq_false_iff_ne,bne_eq_false_iff_eq,Bool.not_not,Bool.and_eq_true,Bool.or_eq_true,Bool.and_eq_false_iff,Bool.or_eq_false_iff]at h))<;>simp[h]
 ·have k7:k<m.out[0].length:=by omega
  simp[h0,k7];have mr:=(iq.2 m.out[0] (by simp)).2 m.out[0][k] (by simp)
  repeat refine vg ?_
  refine ap (pT _ _ _) ?_;simp
  (refine Bz.split (fun h3=>?_) (fun h3=>?_)<;>(try simp only[decide_eq_true_eq,decide_eq_false_iff_not,Bool.not_eq_true',Bool.not_eq_false',beq_iff_eq,bne_iff_ne,beq_eq_false_iff_ne,bne_eq_false_iff_eq,Bool.not_not,Bool.and_eq_true,Bool.or_eq_true,Bool.and_eq_false_iff,Bool.or_eq_false_iff]at h3))<;>simp[h3]
  ·rw[<-hr,if_pos (aD _ k _ h (by simp[h,h0,k7,h3]))]
  ·exact vg (ar.of (k+1) [] (by simp) ⟨⟨h,aR hj (by simp[h,h0,k7,h3])⟩,by omega⟩)
 have e:k=m.first.length:=by omega
 subst e;rw[if_neg (by simpa using hj)]at hr;clear hj hk h;refine am [1,33,34] [] (fun k:Nat=>[(35,.d (iD k))]) (fun _=>[]) (fun k=>m.out.length - k) (fun k=>k<=m.out.length/\anyLt k (fun k=>anyLt (m.out.getD k []).length fun p=>!cL ((m.out.getD k []).getD p []) (-1) (m.outs - 1))=false) 0 ⟨by omega,rfl⟩ (by simp) (fun k hk=>?_);obtain⟨hk,hj⟩:=hk;simp
 (refine Bz.split (fun h=>?_) (fun h=>?_)<;>(try simp only[decide_eq_true_eq,decide_eq_false_iff_not,Bool.not_eq_true',Bool.not_eq_false',beq_iff_eq,bne_iff_ne,beq_eq_false_iff_ne,bne_eq_false_iff_eq,Bool.not_not,Bool.and_eq_true,Bool.or_eq_true,Bool.and_eq_false_iff,Bool.or_eq_false_iff]at h))<;>simp[h]
 ·refine ap (pR m.out[k] _ _ (fun p=>!cL (m.out[k].getD p []) (-1) (m.outs - 1)) (fun p hp=>by simpa[hp] using MQ m.out[k][p] m ho)) ?_;have ek:m.out.getD k []=m.out[k]:=by simp[h]
  simp
  (refine Bz.split (fun h3=>?_) (fun h3=>?_)<;>(try simp only[decide_eq_true_eq,decide_eq_false_iff_not,Bool.not_eq_true',Bool.not_eq_false',beq_iff_eq,bne_iff_ne,beq_eq_false_iff_ne,bne_eq_false_iff_eq,Bool.not_not,Bool.and_eq_true,Bool.or_eq_true,Bool.and_eq_false_iff,Bool.or_eq_false_iff]at h3))<;>simp[h3]
  ·rw[<-hr,if_pos (aD _ k _ h (by rw[ek];simpa using h3))]
  ·exact vg (ar.of (k+1) [] (by simp) ⟨⟨h,aR hj (by rw[ek];simpa using h3)⟩,by omega⟩)
 have e:k=m.out.length:=by omega
 subst e;rw[if_neg (by simpa using hj)]at hr;clear hj hk h;refine am [44,45] [] (fun k:Nat=>[(46,.d (iD k))]) (fun _=>[]) (fun k=>m.syms.length - k) (fun k=>k<=m.syms.length/\anyLt k (fun k=>anyLt (m.syms.getD k []).length fun p=>anyLt ((m.syms.getD k []).getD p []).length fun q=>!cL (((m.syms.getD k []).getD p []).getD q []) 0 1048576)=false) 0 ⟨by omega,rfl⟩ (by simp) (fun k hk=>?_);obtain⟨hk,hj⟩:=hk;simp
 (refine Bz.split (fun h=>?_) (fun h=>?_)<;>(try simp only[decide_eq_true_eq,decide_eq_false_iff_not,Bool.not_eq_true',Bool.not_eq_false',beq_iff_eq,bne_iff_ne,beq_eq_false_iff_ne,bne_eq_false_iff_eq,Bool.not_not,Bool.and_eq_true,Bool.or_eq_true,Bool.and_eq_false_iff,Bool.or_eq_false_iff]at h))<;>simp[h]
 ·have mr:=(fm.2 m.syms[k] (by simp)).1;have ek:m.syms.getD k []=m.syms[k]:=by simp[h]
  refine am [44,45,46,50,51] [] (fun k:Nat=>[(52,.d (iD k))]) (fun _=>[]) (fun p=>m.syms[k].length - p) (fun p=>p<=m.syms[k].length/\anyLt p (fun p=>anyLt (m.syms[k].getD p []).length fun q=>!cL ((m.syms[k].getD p []).getD q []) 0 1048576)=false) 0 ⟨by omega,rfl⟩ (by simp) (fun p hp=>?_);obtain⟨hp,rC⟩:=hp;simp
  (refine Bz.split (fun h4=>?_) (fun h4=>?_)<;>(try simp only[decide_eq_true_eq,decide_eq_false_iff_not,Bool.not_eq_true',Bool.not_eq_false',beq_iff_eq,bne_iff_ne,beq_eq_false_iff_ne,bne_eq_false_iff_eq,Bool.not_not,Bool.and_eq_true,Bool.or_eq_true,Bool.and_eq_false_iff,Bool.or_eq_false_iff]at h4))<;>simp[h4]
  ·have ep:m.syms[k].getD p []=m.syms[k][p]:=by simp[h4]
   refine ap (N2 (pR m.syms[k][p] _ [] (fun q=>!cL (m.syms[k][p].getD q []) 0 1048576) (fun q hq=>by simpa[hq] using MS m.syms[k][p][q]))) ?_;simp
   (refine Bz.split (fun h5=>?_) (fun h5=>?_)<;>(try simp only[decide_eq_true_eq,decide_eq_false_iff_not,Bool.not_eq_true',Bool.not_eq_false',beq_iff_eq,bne_iff_ne,beq_eq_false_iff_ne,bne_eq_false_iff_eq,Bool.not_not,Bool.and_eq_true,Bool.or_eq_true,Bool.and_eq_false_iff,Bool.or_eq_false_iff]at h5))<;>simp[h5]
   ·rw[<-hr,aD _ k _ h (by rw[ek];exact aD _ p _ h4 (by rw[ep];simpa using h5))];rfl
   ·exact vg (ar.of (p+1) [] (by simp) ⟨⟨h4,aR rC (by rw[ep];simpa using h5)⟩,by omega⟩)
  ·have e:p=m.syms[k].length:=by omega
   subst e;exact vg (ar.of (k+1) [] (by simp) ⟨⟨h,aR hj (by rw[ek];exact rC)⟩,by omega⟩)
 ·have e:k=m.syms.length:=by omega
  subst e;rw[<-hr,hj];rfl
theorem bu(a b:Int):(a == b)=decide (a=b):=by by_cases h:a=b<;>simp[h]
theorem bv(a b:Int):(a != b)=!decide (a=b):=by by_cases h:a=b<;>simp[h]
def jx(l:List (List Int)):Nat:=(l.map List.length).sum
theorem xn(l:List (List Int)) (i:Nat) (hi:i<l.length):jx (l.take (i+1))=jx (l.take i)+l[i].length:=by
 unfold jx;rw[List.take_succ_eq_append_getElem hi,List.map_append,List.sum_append,List.map_cons,List.map_nil,List.sum_cons,List.sum_nil,Nat.add_zero]
def gS(l:List (List (List Int))):Nat:=(l.map jx).sum
theorem xo(l:List (List (List Int))) (i:Nat) (hi:i<l.length):gS (l.take (i+1))=gS (l.take i)+jx l[i]:=by
 unfold gS;rw[List.take_succ_eq_append_getElem hi,List.map_append,List.sum_append,List.map_cons,List.map_nil,List.sum_cons,List.sum_nil,Nat.add_zero]
theorem G7(m:Mac) (h1:m.out.length<=7) (h2:∀ l∈m.out,l.length<=5):FC Tryz.prog 123 [eT m] (iD (lz m)):=by
 refine an Tryz.func123 rfl rfl rfl Tryz.call123 [] [] rfl 5 (fun hb w0 G0=>?_);simp at hb;obtain⟨-,-,-,iq⟩:=hb;rw[show lz m=gS m.out from rfl];simp;refine am [9,10] [] (fun k:Nat=>[(3,.d (iD (gS (m.out.take k)))),(11,.d (iD k))]) (fun _=>[]) (fun k=>m.out.length - k) (fun k=>k<=m.out.length/\gS (m.out.take k)<=k * 703687441776640) 0 ⟨by omega,by simp[gS]⟩ (by simp[gS]) (fun k hk=>?_);obtain⟨hk,hz⟩:=hk;simp
 (refine Bz.split (fun h=>?_) (fun h=>?_)<;>(try simp only[decide_eq_true_eq,decide_eq_false_iff_not,Bool.not_eq_true',Bool.not_eq_false',beq_iff_eq,bne_iff_ne,beq_eq_false_iff_ne,bne_eq_false_iff_eq,Bool.not_not,Bool.and_eq_true,Bool.or_eq_true,Bool.and_eq_false_iff,Bool.or_eq_false_iff]at h))<;>simp[h]
 ·have hl:=h2 m.out[k] (by simp);have mr:=iq.2 m.out[k] (by simp);have es:=xo m.out k h;generalize hm:m.out[k]=l at hl mr es ⊢;refine am [9,10,11,15,16] [] (fun j:Nat=>[(3,.d (iD ((gS (m.out.take k)+jx (l.take j):Nat)))),(17,.d (iD j))]) (fun _=>[]) (fun j=>l.length - j) (fun j=>j<=l.length/\jx (l.take j)<=j * 140737488355328) 0 ⟨by omega,by simp[jx]⟩ (by simp[jx]) (fun j hj=>?_);obtain⟨hj,QQ⟩:=hj;simp
  (refine Bz.split (fun h3=>?_) (fun h3=>?_)<;>(try simp only[decide_eq_true_eq,decide_eq_false_iff_not,Bool.not_eq_true',Bool.not_eq_false',beq_iff_eq,bne_iff_ne,beq_eq_false_iff_ne,bne_eq_false_iff_eq,Bool.not_not,Bool.and_eq_true,Bool.or_eq_true,Bool.and_eq_false_iff,Bool.or_eq_false_iff]at h3))<;>simp[h3]
  ·have uV:=mr.2 l[j] (by simp);have ej:=xn l j h3
   repeat refine vg ?_
   exact ar.of (j+1) [] (by simp[ej];omega) ⟨⟨h3,by omega⟩,by omega⟩
  ·have e:j=l.length:=by omega
   subst e;rw[List.take_length]at QQ ⊢
   repeat refine vg ?_
   exact ar.of (k+1) [] (by simp[es]) ⟨⟨h,by omega⟩,by omega⟩
 ·rw[show k=m.out.length by omega,List.take_length]
theorem MT(l:List Int):FC Tryz.prog 203 [aT l] (iD (A8 l)):=by
 refine an Tryz.func203 rfl rfl rfl Tryz.call203 [] [] rfl 3 (fun hb w0 G0=>?_);simp at hb;generalize hr:A8 l=r;unfold A8 at hr;simp;refine am [3,6,7] [] (fun k:Nat=>[(8,.d (iD k))]) (fun _=>[]) (fun k=>l.length - k) (fun k=>k<=l.length/\ay k (fun i=>l.getD i 0)=0) 0 ⟨by omega,rfl⟩ (by simp) (fun k hk=>?_);obtain⟨hk,hj⟩:=hk;simp
 (refine Bz.split (fun h=>?_) (fun h=>?_)<;>(try simp only[decide_eq_true_eq,decide_eq_false_iff_not,Bool.not_eq_true',Bool.not_eq_false',beq_iff_eq,bne_iff_ne,beq_eq_false_iff_ne,bne_eq_false_iff_eq,Bool.not_not,Bool.and_eq_true,Bool.or_eq_true,Bool.and_eq_false_iff,Bool.or_eq_false_iff]at h))<;>simp[h]
 ·(refine Bz.split (fun h3=>?_) (fun h3=>?_)<;>(try simp only[decide_eq_true_eq,decide_eq_false_iff_not,Bool.not_eq_true',Bool.not_eq_false',beq_iff_eq,bne_iff_ne,beq_eq_false_iff_ne,bne_eq_false_iff_eq,Bool.not_not,Bool.and_eq_true,Bool.or_eq_true,Bool.and_eq_false_iff,Bool.or_eq_false_iff]at h3))<;>simp[h3]
  ·rw[<-hr,aF (k:=k) h hj (by simpa[h] using h3)];simp[h]
  ·exact vg (ar.of (k+1) [] (by simp) ⟨⟨h,aY hj (by simpa[h] using h3)⟩,by omega⟩)
 ·rw[<-hr,show l.length=k by omega,hj]
abbrev Fk(s:St):D:=.agg [iD s.rd,iD s.pr,iD s.h0,iD s.h1,iD s.h2,iD s.h3,iD s.h4,iD s.to]
theorem J4(a b:St):FC Tryz.prog 126 [Fk a,Fk b] (iD (iT a b)):=by
 refine an Tryz.func126 rfl rfl rfl Tryz.call126 [] [] rfl 1 (fun hb w0 G0=>?_);unfold iT;simp;refine aO 18 ?_;simp;refine bL (pQ _ _) ?_;simp;refine bL (pQ _ _) ?_;simp[lY];refine bL (kY a.heard b.heard) ?_;simp;refine bL (MT [cmpI a.rd b.rd,cmpI a.pr b.pr,ordV a.heard b.heard]) ?_;simp
attribute [local simp] bu bv
theorem G8(m:Mac) (hn:1<=m.n/\m.n<=5) (lv:0<=m.rounds/\m.rounds<=6):FC Tryz.prog 122 [eT m] (bD (ec m)):=by
 refine an Tryz.func122 rfl rfl rfl Tryz.call122 [] [1] rfl 5 (fun hb w0 G0=>?_);simp at hb;obtain⟨oQ,fm,-,iq⟩:=hb;generalize hr:ec m=r;unfold ec at hr;simp;refine bj [1] [] (fun b:Bool=>[(36,.d (bD b))]) (fun _=>[]) (fun b=>b=((m.first.length:Int) != m.n || (m.out.length:Int) != m.rounds+1 || (m.syms.length:Int) != m.rounds)) ?_ (fun b be=>?_)
 ·simp
  (refine Bz.split (fun a1=>?_) (fun a1=>?_)<;>(try simp only[decide_eq_true_eq,decide_eq_false_iff_not,Bool.not_eq_true',Bool.not_eq_false',beq_iff_eq,bne_iff_ne,beq_eq_false_iff_ne,bne_eq_false_iff_eq,Bool.not_not,Bool.and_eq_true,Bool.or_eq_true,Bool.and_eq_false_iff,Bool.or_eq_false_iff]at a1))<;>simp[a1]
  ·repeat refine vg ?_
   (refine Bz.split (fun a2=>?_) (fun a2=>?_)<;>(try simp only[decide_eq_true_eq,decide_eq_false_iff_not,Bool.not_eq_true',Bool.not_eq_false',beq_iff_eq,bne_iff_ne,beq_eq_false_iff_ne,bne_eq_false_iff_eq,Bool.not_not,Bool.and_eq_true,Bool.or_eq_true,Bool.and_eq_false_iff,Bool.or_eq_false_iff]at a2))<;>simp[a2]
   ·exact Mt.is (by first|(simp[-Bool.decide_or,-Bool.decide_and];done)|(simp[-Bool.decide_or,-Bool.decide_and];omega)|(simp_all;done)|(simp_all;omega)|(simp;grind))
   ·exact Mt.is (by first|(simp[-Bool.decide_or,-Bool.decide_and];done)|(simp[-Bool.decide_or,-Bool.decide_and];omega)|(simp_all;done)|(simp_all;omega)|(simp;grind))
  ·exact Mt.is (by first|(simp[-Bool.decide_or,-Bool.decide_and];done)|(simp[-Bool.decide_or,-Bool.decide_and];omega)|(simp_all;done)|(simp_all;omega)|(simp;grind))
 cases b<;>simp at be ⊢
 rotate_left
 ·rw[<-hr,if_pos (by omega)]
 rw[if_neg (by omega)]at hr;refine am [1,38,39] [] (fun k:Nat=>[(40,.d (iD k))]) (fun _=>[]) (fun k=>m.first.length - k) (fun k=>k<=m.first.length/\anyLt k (fun i=>decide (((m.first.getD i []).length:Int)≠m.ins))=false) 0 ⟨by omega,rfl⟩ (by simp) (fun k hk=>?_);obtain⟨hk,hj⟩:=hk;simp
 (refine Bz.split (fun h=>?_) (fun h=>?_)<;>(try simp only[decide_eq_true_eq,decide_eq_false_iff_not,Bool.not_eq_true',Bool.not_eq_false',beq_iff_eq,bne_iff_ne,beq_eq_false_iff_ne,bne_eq_false_iff_eq,Bool.not_not,Bool.and_eq_true,Bool.or_eq_true,Bool.and_eq_false_iff,Bool.or_eq_false_iff]at h))<;>simp[h]
 ·(refine Bz.split (fun h3=>?_) (fun h3=>?_)<;>(try simp only[decide_eq_true_eq,decide_eq_false_iff_not,Bool.not_eq_true',Bool.not_eq_false',beq_iff_eq,bne_iff_ne,beq_eq_false_iff_ne,bne_eq_false_iff_eq,Bool.not_not,Bool.and_eq_true,Bool.or_eq_true,Bool.and_eq_false_iff,Bool.or_eq_false_iff]at h3))<;>simp
  ·rw[<-hr,if_pos (aD _ k _ h (by simpa[h] using h3))]
  ·exact vg (ar.of (k+1) [] (by simp) ⟨⟨h,aR hj (by simpa[h] using h3)⟩,by omega⟩)
 have e:k=m.first.length:=by omega
 subst e;rw[if_neg (by simpa using hj)]at hr;clear hj hk h;refine am [1,51,52] [] (fun k:Nat=>[(53,.d (iD k))]) (fun _=>[]) (fun k=>m.out.length - k) (fun k=>k<=m.out.length/\anyLt k (fun i=>decide (((m.out.getD i []).length:Int)≠m.n))=false) 0 ⟨by omega,rfl⟩ (by simp) (fun k hk=>?_);obtain⟨hk,hj⟩:=hk;simp
 (refine Bz.split (fun h=>?_) (fun h=>?_)<;>(try simp only[decide_eq_true_eq,decide_eq_false_iff_not,Bool.not_eq_true',Bool.not_eq_false',beq_iff_eq,bne_iff_ne,beq_eq_false_iff_ne,bne_eq_false_iff_eq,Bool.not_not,Bool.and_eq_true,Bool.or_eq_true,Bool.and_eq_false_iff,Bool.or_eq_false_iff]at h))<;>simp[h]
 ·(refine Bz.split (fun h3=>?_) (fun h3=>?_)<;>(try simp only[decide_eq_true_eq,decide_eq_false_iff_not,Bool.not_eq_true',Bool.not_eq_false',beq_iff_eq,bne_iff_ne,beq_eq_false_iff_ne,bne_eq_false_iff_eq,Bool.not_not,Bool.and_eq_true,Bool.or_eq_true,Bool.and_eq_false_iff,Bool.or_eq_false_iff]at h3))<;>simp
  ·rw[<-hr,if_pos (aD _ k _ h (by simpa[h] using h3))]
  ·exact vg (ar.of (k+1) [] (by simp) ⟨⟨h,aR hj (by simpa[h] using h3)⟩,by omega⟩)
 have e:k=m.out.length:=by omega
 subst e;rw[if_neg (by simpa using hj)]at hr;have sU:=(aI _ _).1 hj;clear hj hk h;refine am [1,64,65] [] (fun k:Nat=>[(66,.d (iD k))]) (fun _=>[]) (fun k=>m.syms.length - k) (fun k=>k<=m.syms.length/\anyLt k (fD m)=false) 0 ⟨by omega,rfl⟩ (by simp) (fun k hk=>?_);obtain⟨hk,hj⟩:=hk;simp
 (refine Bz.split (fun h=>?_) (fun h=>?_)<;>(try simp only[decide_eq_true_eq,decide_eq_false_iff_not,Bool.not_eq_true',Bool.not_eq_false',beq_iff_eq,bne_iff_ne,beq_eq_false_iff_ne,bne_eq_false_iff_eq,Bool.not_not,Bool.and_eq_true,Bool.or_eq_true,Bool.and_eq_false_iff,Bool.or_eq_false_iff]at h))<;>simp[h]
 ·have ek:m.syms.getD k []=m.syms[k]:=by simp[h]
  have mr:=(fm.2 m.syms[k] (by simp)).1;have uW:k<m.out.length:=by omega
  have Du:=sU k uW;have erb:fD m k=(decide ((m.syms[k].length:Int)≠m.n) || anyLt m.syms[k].length (jk m.n m.out[k] m.syms[k])):=by unfold fD;rw[ek];simp[uW]
  simp[uW]at Du
  (refine Bz.split (fun h3=>?_) (fun h3=>?_)<;>(try simp only[decide_eq_true_eq,decide_eq_false_iff_not,Bool.not_eq_true',Bool.not_eq_false',beq_iff_eq,bne_iff_ne,beq_eq_false_iff_ne,bne_eq_false_iff_eq,Bool.not_not,Bool.and_eq_true,Bool.or_eq_true,Bool.and_eq_false_iff,Bool.or_eq_false_iff]at h3))<;>simp
  ·rw[<-hr,aD _ k _ h (by rw[erb];simp[h3])];rfl
  refine am [1,7,64,65,66,76,77] [] (fun k:Nat=>[(78,.d (iD k))]) (fun _=>[]) (fun p=>m.syms[k].length - p) (fun p=>p<=m.syms[k].length/\anyLt p (jk m.n m.out[k] m.syms[k])=false) 0 ⟨by omega,rfl⟩ (by simp) (fun p hp=>?_);obtain⟨hp,rC⟩:=hp;simp
  (refine Bz.split (fun h4=>?_) (fun h4=>?_)<;>(try simp only[decide_eq_true_eq,decide_eq_false_iff_not,Bool.not_eq_true',Bool.not_eq_false',beq_iff_eq,bne_iff_ne,beq_eq_false_iff_ne,bne_eq_false_iff_eq,Bool.not_not,Bool.and_eq_true,Bool.or_eq_true,Bool.and_eq_false_iff,Bool.or_eq_false_iff]at h4))<;>simp[h4]
  ·have u6:p<m.out[k].length:=by omega
   have esb:jk m.n m.out[k] m.syms[k] p=(decide ((m.syms[k][p].length:Int)≠m.n) || F2 m.out[k] p m.syms[k][p]):=by unfold jk;simp[h4]
   (refine Bz.split (fun h5=>?_) (fun h5=>?_)<;>(try simp only[decide_eq_true_eq,decide_eq_false_iff_not,Bool.not_eq_true',Bool.not_eq_false',beq_iff_eq,bne_iff_ne,beq_eq_false_iff_ne,bne_eq_false_iff_eq,Bool.not_not,Bool.and_eq_true,Bool.or_eq_true,Bool.and_eq_false_iff,Bool.or_eq_false_iff]at h5))<;>simp
   ·rw[<-hr,aD _ k _ h (by rw[erb,aD _ p _ h4 (by rw[esb];simp[h5])];simp)];rfl
   have hbp:=(fm.2 m.syms[k] (by simp)).2 m.syms[k][p] (by simp);refine am [1,7,9,64,65,66,76,77,78,88,89] [] (fun k:Nat=>[(90,.d (iD k))]) (fun _=>[]) (fun q=>m.syms[k][p].length - q) (fun q=>q<=m.syms[k][p].length/\anyLt q (fun q=>decide ((m.syms[k][p].getD q []).length≠if p=q then 0 else(m.out[k].getD p []).length))=false) 0 ⟨by omega,rfl⟩ (by simp) (fun q hq=>?_);obtain⟨hq,QV⟩:=hq;simp
   (refine Bz.split (fun h6=>?_) (fun h6=>?_)<;>(try simp only[decide_eq_true_eq,decide_eq_false_iff_not,Bool.not_eq_true',Bool.not_eq_false',beq_iff_eq,bne_iff_ne,beq_eq_false_iff_ne,bne_eq_false_iff_eq,Bool.not_not,Bool.and_eq_true,Bool.or_eq_true,Bool.and_eq_false_iff,Bool.or_eq_false_iff]at h6))<;>simp[h6]
   ·simp[uW,u6]
    have bad:((m.syms[k][p][q].length:Int)=if p=q then 0 else(m.out[k][p].length:Int))\/fD m k=true:=by
     by_cases e:((m.syms[k][p][q].length:Int)=if p=q then 0 else(m.out[k][p].length:Int))
     ·exact .inl e
     ·refine .inr ?_;rw[erb,aD _ p _ h4 (by rw[esb];unfold F2;rw[aD _ q _ h6 (by simp[h6,u6];split at e<;>split<;>omega)];simp)];simp
    (refine Bz.split (fun h7=>?_) (fun h7=>?_)<;>(try simp only[decide_eq_true_eq,decide_eq_false_iff_not,Bool.not_eq_true',Bool.not_eq_false',beq_iff_eq,bne_iff_ne,beq_eq_false_iff_ne,bne_eq_false_iff_eq,Bool.not_not,Bool.and_eq_true,Bool.or_eq_true,Bool.and_eq_false_iff,Bool.or_eq_false_iff]at h7))<;>simp[h6]
    ·(refine Bz.split (fun h8=>?_) (fun h8=>?_)<;>(try simp only[decide_eq_true_eq,decide_eq_false_iff_not,Bool.not_eq_true',Bool.not_eq_false',beq_iff_eq,bne_iff_ne,beq_eq_false_iff_ne,bne_eq_false_iff_eq,Bool.not_not,Bool.and_eq_true,Bool.or_eq_true,Bool.and_eq_false_iff,Bool.or_eq_false_iff]at h8))<;>simp
     ·rcases bad with bad|bad
      ·rw[if_pos (by omega)]at bad;exact(h8 (by simpa using bad)).elim
      ·rw[<-hr,aD _ k _ h bad];rfl
     ·exact vg (ar.of (q+1) [] (by simp) ⟨⟨h6,aR QV (by rw[if_pos (by omega)];simp[h6];simpa using h8)⟩,by omega⟩)
    ·(refine Bz.split (fun h8=>?_) (fun h8=>?_)<;>(try simp only[decide_eq_true_eq,decide_eq_false_iff_not,Bool.not_eq_true',Bool.not_eq_false',beq_iff_eq,bne_iff_ne,beq_eq_false_iff_ne,bne_eq_false_iff_eq,Bool.not_not,Bool.and_eq_true,Bool.or_eq_true,Bool.and_eq_false_iff,Bool.or_eq_false_iff]at h8))<;>simp
     ·rcases bad with bad|bad
      ·rw[if_neg (by omega)]at bad;exact(h8 bad).elim
      ·rw[<-hr,aD _ k _ h bad];rfl
     ·exact vg (ar.of (q+1) [] (by simp) ⟨⟨h6,aR QV (by simp[h6,u6,show ¬ p=q by omega];omega)⟩,by omega⟩)
   ·have e:q=m.syms[k][p].length:=by omega
    subst e;exact vg (ar.of (p+1) [] (by simp) ⟨⟨h4,aR rC (by rw[esb];simp only[Bool.or_eq_false_iff];exact⟨by simpa using h5,QV⟩)⟩,by omega⟩)
  ·have e:p=m.syms[k].length:=by omega
   subst e;exact vg (ar.of (k+1) [] (by simp) ⟨⟨h,aR hj (by rw[erb,rC];simpa using h3)⟩,by omega⟩)
 ·have e:k=m.syms.length:=by omega
  subst e;rw[<-hr,hj];rfl
structure Shq (m:Mac):Prop where
 n:1<=m.n/\m.n<=5
 r:0<=m.rounds/\m.rounds<=6
 f:(m.first.length:Int)=m.n
 o:(m.out.length:Int)=m.rounds+1
 y:(m.syms.length:Int)=m.rounds
 ol:∀ k (h:k<m.out.length),(m.out[k].length:Int)=m.n
theorem J5{m:Mac} (hn:1<=m.n/\m.n<=5) (hr:0<=m.rounds/\m.rounds<=6) (h:ec m=true):Shq m:=by
 unfold ec at h;split at h
 ·cases h
 ·rename_i h1;split at h
  ·cases h
  ·split at h
   ·cases h
   ·rename_i h3;refine⟨hn,hr,by omega,by omega,by omega,fun k hk=>?_⟩;have:=(aI _ _).1 (eq_false_of_ne_true h3) k hk;simpa[hk] using this
theorem PB(s:St) (k:Nat) (h:k<5):s.heard.getD k 0=s.hear k:=by
 rcases (by omega:k=0\/k=1\/k=2\/k=3\/k=4) with e|e|e|e|e<;>subst e<;>rfl
theorem jQ(n lo hi:Int):inB n lo hi=true↔lo<=n/\n<=hi:=by simp[inB]
attribute [local simp] bu bv
theorem MU(l:List Int) (n:Nat):aT (l.drop n)=.fz 1 ((l.map fun x=>[iD x]).drop n):=by simp[aT,List.map_drop]
theorem hrow(s:St):List.take 5 (List.map (fun q=>List.take 1 (List.drop q [iD s.h0,iD s.h1,iD s.h2,iD s.h3,iD s.h4,iD s.to])) (List.range 5))=s.heard.map fun x=>[iD x]:=rfl
theorem MV(m:Mac) (s:St) (hs:Shq m):FC Tryz.prog 125 [eT m,Fk s] (iD (lR m s)):=by
 refine an Tryz.func125 rfl rfl rfl Tryz.call125 [] [1,8] rfl 5 (fun hb w0 G0=>?_);simp at hb;obtain⟨oQ,fm,-,iq⟩:=hb;obtain⟨hn,lv,hf,ho,hy,Du⟩:=hs;generalize hr:lR m s=r;unfold lR at hr;simp;refine bj [2,3] [] (fun b:Bool=>[(41,.d (bD b))]) (fun _=>[]) (fun b=>b=eX m s) ?_ (fun b be=>?_)
 ·simp;refine aO 35 ?_;simp;refine vg (bL (jP _ _ _) ?_);simp
  (refine Bz.split (fun a1=>?_) (fun a1=>?_)<;>(try simp only[decide_eq_true_eq,decide_eq_false_iff_not,Bool.not_eq_true',Bool.not_eq_false',beq_iff_eq,bne_iff_ne,beq_eq_false_iff_ne,bne_eq_false_iff_eq,Bool.not_not,Bool.and_eq_true,Bool.or_eq_true,Bool.and_eq_false_iff,Bool.or_eq_false_iff]at a1))<;>simp[a1]
  rotate_left
  ·exact Mt.is (by simp[eX,a1])
  refine vg (bL (jP _ _ _) ?_);simp
  (refine Bz.split (fun a2=>?_) (fun a2=>?_)<;>(try simp only[decide_eq_true_eq,decide_eq_false_iff_not,Bool.not_eq_true',Bool.not_eq_false',beq_iff_eq,bne_iff_ne,beq_eq_false_iff_ne,bne_eq_false_iff_eq,Bool.not_not,Bool.and_eq_true,Bool.or_eq_true,Bool.and_eq_false_iff,Bool.or_eq_false_iff]at a2))<;>simp[a2]
  rotate_left
  ·exact Mt.is (by simp[eX,a1,a2])
  have b1:=(jQ _ _ _).1 a1;have b2:=(jQ _ _ _).1 a2;have i1:(s.rd+1).toNat<m.out.length:=by omega
  have i2:s.pr.toNat<m.out[(s.rd+1).toNat].length:=by have:=Du _ i1;omega
  have e2:pe m (s.rd+1) s.pr=m.out[(s.rd+1).toNat][s.pr.toNat].length:=by simp[pe,i1,i2]
  simp[i1,i2];have ge:=iq.2 m.out[(s.rd+1).toNat] (by simp);have dJ:=ge.2 m.out[(s.rd+1).toNat][s.pr.toNat] (by simp)
  repeat refine vg ?_
  refine bL (jP _ _ _) ?_;simp;exact Mt.is (by simp[eX,a1,a2,e2])
 cases b<;>simp at be ⊢
 rotate_left
 ·rw[<-hr,if_pos be]
 rw[be]at hr;simp at hr;obtain⟨⟨b1,b2⟩,-⟩:(inB s.rd 0 (m.rounds - 1)=true/\inB s.pr 0 (m.n - 1)=true)/\_:=by simpa[eX] using be
 replace b1:=(jQ _ _ _).1 b1
 replace b2:=(jQ _ _ _).1 b2
 refine vg (vg ?_);rw[hrow];have hm:=pT (s.heard.drop m.n.toNat) (-1) (-1);rw[MU]at hm;refine ap hm ?_;simp
 (refine Bz.split (fun a1=>?_) (fun a1=>?_)<;>(try simp only[decide_eq_true_eq,decide_eq_false_iff_not,Bool.not_eq_true',Bool.not_eq_false',beq_iff_eq,bne_iff_ne,beq_eq_false_iff_ne,bne_eq_false_iff_eq,Bool.not_not,Bool.and_eq_true,Bool.or_eq_true,Bool.and_eq_false_iff,Bool.or_eq_false_iff]at a1))<;>simp[a1]
 ·rw[<-hr,if_pos (by simpa using a1)]
 rw[if_neg (by simp[a1])]at hr
 repeat refine vg ?_
 refine am [2,3,51,52] [] (fun k:Nat=>[(53,.d (iD k))]) (fun _=>[]) (fun k=>m.n.toNat - k) (fun k=>k<=m.n.toNat/\anyLt k (fx m s)=false) 0 ⟨by omega,rfl⟩ (by simp) (fun k hk=>?_);obtain⟨hk,hj⟩:=hk;simp
 (refine Bz.split (fun h=>?_) (fun h=>?_)<;>(try simp only[decide_eq_true_eq,decide_eq_false_iff_not,Bool.not_eq_true',Bool.not_eq_false',beq_iff_eq,bne_iff_ne,beq_eq_false_iff_ne,bne_eq_false_iff_eq,Bool.not_not,Bool.and_eq_true,Bool.or_eq_true,Bool.and_eq_false_iff,Bool.or_eq_false_iff]at h))
 ·have OD:k<m.n.toNat:=by omega
  simp[h];refine bj [2,3,51,52,53] [] (fun b:Bool=>[(88,.d (bD b))]) (fun _=>[]) (fun b=>b=fx m s k) ?_ (fun b be=>?_)
  ·simp;have e5:=PB s k (by omega)
   have rG:ix (List.take 1 (List.drop k [iD s.h0,iD s.h1,iD s.h2,iD s.h3,iD s.h4,iD s.to])) 0=iD (s.hear k):=by
    rcases (by omega:k=0\/k=1\/k=2\/k=3\/k=4) with e|e|e|e|e<;>subst e<;>rfl
   (refine Bz.split (fun h1=>?_) (fun h1=>?_)<;>(try simp only[decide_eq_true_eq,decide_eq_false_iff_not,Bool.not_eq_true',Bool.not_eq_false',beq_iff_eq,bne_iff_ne,beq_eq_false_iff_ne,bne_eq_false_iff_eq,Bool.not_not,Bool.and_eq_true,Bool.or_eq_true,Bool.and_eq_false_iff,Bool.or_eq_false_iff]at h1))
   ·have hd:decide ((k:Int)=s.pr)=true:=by simpa using h1
    have fU:s.pr.toNat=k:=by omega
    simp[hd];have i3:s.rd.toNat<m.out.length:=by omega
    have i4:k<m.out[s.rd.toNat].length:=by have:=Du _ i3;omega
    have e7:fx m s k=!inB (s.hear k) 0 (m.out[s.rd.toNat][k].length - 1):=by simp[fx,hd,h1,pe,fU,i3,i4]
    have ge:=iq.2 m.out[s.rd.toNat] (by simp);have dJ:=ge.2 m.out[s.rd.toNat][k] (by simp);simp[i3,i4,rG,e5]
    repeat refine vg ?_
    refine ap (jP _ _ _) ?_;simp
    (refine Bz.split (fun h2=>?_) (fun h2=>?_)<;>(try simp only[decide_eq_true_eq,decide_eq_false_iff_not,Bool.not_eq_true',Bool.not_eq_false',beq_iff_eq,bne_iff_ne,beq_eq_false_iff_ne,bne_eq_false_iff_eq,Bool.not_not,Bool.and_eq_true,Bool.or_eq_true,Bool.and_eq_false_iff,Bool.or_eq_false_iff]at h2))<;>simp[h2,hd]
    ·exact Mt.is (by simp[e7,h2])
    ·exact Mt.is (by simp[e7,h2])
   ·have e7:fx m s k=!inB (s.hear k) (-1) 1048576:=by simp[fx,h1]
    simp[h1,rG,e5];refine ap (jP _ _ _) ?_;simp;exact Mt.is (by simp[e7])
  cases b<;>simp at be ⊢
  ·exact vg (ar.of (k+1) [] (by simp) ⟨⟨by omega,aR hj be⟩,by omega⟩)
  ·rw[<-hr,if_pos (aD _ k _ OD be)]
 simp[h];have e:k=m.n.toNat:=by omega
 subst e;rw[<-hr,hj];simp
theorem mm(m:Mac):FC Tryz.prog 74 [eT m] (iD (da m)):=by
 refine an Tryz.func74 rfl rfl rfl Tryz.call74 [] [1,5] rfl 5 (fun hb w0 G0=>?_);simp at hb;obtain⟨oQ,fm,rB,iq⟩:=hb;generalize hr:da m=r;unfold da at hr;simp;refine bj [1] [] (fun b:Bool=>[(6,.d (bD b))]) (fun _=>[]) (fun b=>b=gK m) ?_ (fun b be=>?_)
 ·simp;refine ap (jP _ _ _) ?_;simp
  (refine Bz.split (fun a1=>?_) (fun a1=>?_)<;>(try simp only[decide_eq_true_eq,decide_eq_false_iff_not,Bool.not_eq_true',Bool.not_eq_false',beq_iff_eq,bne_iff_ne,beq_eq_false_iff_ne,bne_eq_false_iff_eq,Bool.not_not,Bool.and_eq_true,Bool.or_eq_true,Bool.and_eq_false_iff,Bool.or_eq_false_iff]at a1))<;>simp[a1]
  rotate_left
  ·exact Mt.is (by simp[gK,a1])
  refine ap (jP _ _ _) ?_;simp
  (refine Bz.split (fun a2=>?_) (fun a2=>?_)<;>(try simp only[decide_eq_true_eq,decide_eq_false_iff_not,Bool.not_eq_true',Bool.not_eq_false',beq_iff_eq,bne_iff_ne,beq_eq_false_iff_ne,bne_eq_false_iff_eq,Bool.not_not,Bool.and_eq_true,Bool.or_eq_true,Bool.and_eq_false_iff,Bool.or_eq_false_iff]at a2))<;>simp[a2]
  rotate_left
  ·exact Mt.is (by simp[gK,a1,a2])
  refine ap (jP _ _ _) ?_;simp
  (refine Bz.split (fun a3=>?_) (fun a3=>?_)<;>(try simp only[decide_eq_true_eq,decide_eq_false_iff_not,Bool.not_eq_true',Bool.not_eq_false',beq_iff_eq,bne_iff_ne,beq_eq_false_iff_ne,bne_eq_false_iff_eq,Bool.not_not,Bool.and_eq_true,Bool.or_eq_true,Bool.and_eq_false_iff,Bool.or_eq_false_iff]at a3))<;>simp[a3]
  rotate_left
  ·exact Mt.is (by simp[gK,a1,a2,a3])
  refine ap (jP _ _ _) ?_;simp;exact Mt.is (by simp[gK,a1,a2,a3])
 cases b<;>simp at be ⊢
 rotate_left
 ·rw[<-hr,if_pos be]
 rw[if_neg (by simp[be])]at hr;obtain⟨⟨⟨hn,lv⟩,-⟩,ho⟩:((inB m.n 1 5=true/\inB m.rounds 0 6=true)/\inB m.ins 1 8=true)/\inB m.outs 1 8=true:=by simpa[gK] using be
 rw[jQ]at hn lv ho;refine ap (G8 m hn lv) ?_;simp
 (refine Bz.split (fun a1=>?_) (fun a1=>?_)<;>(try simp only[decide_eq_true_eq,decide_eq_false_iff_not,Bool.not_eq_true',Bool.not_eq_false',beq_iff_eq,bne_iff_ne,beq_eq_false_iff_ne,bne_eq_false_iff_eq,Bool.not_not,Bool.and_eq_true,Bool.or_eq_true,Bool.and_eq_false_iff,Bool.or_eq_false_iff]at a1))<;>simp[a1]
 ·rw[<-hr,if_pos (by simp[a1])]
 rw[if_neg (by simp[a1])]at hr;have hq:=J5 hn lv a1;obtain⟨-,-,q1,q2,q3,q4⟩:=id hq;refine bj [1] [] (fun b:Bool=>[(33,.d (bD b))]) (fun _=>[]) (fun b=>b=decide (8192<lz m\/65536<m.steps.length)) ?_ (fun b be=>?_)
 ·simp;refine ap (G7 m (by omega) (fun l hl=>by obtain⟨j,hj,rfl⟩:=List.getElem_of_mem hl;have:=q4 j hj;omega)) ?_;simp
  repeat' (first|(exact Mt.is (by first|(simp[-Bool.decide_or,-Bool.decide_and];done)|(simp[-Bool.decide_or,-Bool.decide_and];omega)|(simp_all;done)|(simp_all;omega)|(simp;grind)))|((refine Bz.split (fun a2=>?_) (fun a2=>?_)<;>(try simp only[decide_eq_true_eq,decide_eq_false_iff_not,Bool.not_eq_true',Bool.not_eq_false',beq_iff_eq,bne_iff_ne,beq_eq_false_iff_ne,bne_eq_false_iff_eq,Bool.not_not,Bool.and_eq_true,Bool.or_eq_true,Bool.and_eq_false_iff,Bool.or_eq_false_iff]at a2))<;>simp[a2]))
 cases b<;>simp at be ⊢
 rotate_left
 ·rw[<-hr,if_pos be]
 rw[if_neg (by omega)]at hr;have h0:0<m.out.length:=by omega
 refine ap (GZ m ho h0 (by have:=q4 0 h0;simp[h0];omega)) ?_;simp
 (refine Bz.split (fun a3=>?_) (fun a3=>?_)<;>(try simp only[decide_eq_true_eq,decide_eq_false_iff_not,Bool.not_eq_true',Bool.not_eq_false',beq_iff_eq,bne_iff_ne,beq_eq_false_iff_ne,bne_eq_false_iff_eq,Bool.not_not,Bool.and_eq_true,Bool.or_eq_true,Bool.and_eq_false_iff,Bool.or_eq_false_iff]at a3))<;>simp[a3]
 ·rw[<-hr,if_pos (by simp[a3])]
 rw[if_neg (by simp[a3])]at hr;refine am [1,48,49] [] (fun k:Nat=>[(50,.d (iD k))]) (fun _=>[]) (fun k=>m.steps.length - k) (fun k=>k<=m.steps.length/\ay k (eH m)=0) 0 ⟨by omega,rfl⟩ (by simp) (fun k hk=>?_);obtain⟨hk,hj⟩:=hk;simp
 (refine Bz.split (fun h=>?_) (fun h=>?_)<;>(try simp only[decide_eq_true_eq,decide_eq_false_iff_not,Bool.not_eq_true',Bool.not_eq_false',beq_iff_eq,bne_iff_ne,beq_eq_false_iff_ne,bne_eq_false_iff_eq,Bool.not_not,Bool.and_eq_true,Bool.or_eq_true,Bool.and_eq_false_iff,Bool.or_eq_false_iff]at h))<;>simp[h]
 ·refine ap (MV m m.steps[k] hq) ?_;simp
  (refine Bz.split (fun h3=>?_) (fun h3=>?_)<;>(try simp only[decide_eq_true_eq,decide_eq_false_iff_not,Bool.not_eq_true',Bool.not_eq_false',beq_iff_eq,bne_iff_ne,beq_eq_false_iff_ne,bne_eq_false_iff_eq,Bool.not_not,Bool.and_eq_true,Bool.or_eq_true,Bool.and_eq_false_iff,Bool.or_eq_false_iff]at h3))<;>simp[h3]
  ·rw[<-hr,aF h hj (by simp[eH,h,h3])];simp[eH,h,h3]
  refine aO 13 ?_;simp;have hx:((k:Int) - 1).toNat=k - 1:=by omega
  (refine Bz.split (fun h5=>?_) (fun h5=>?_)<;>(try simp only[decide_eq_true_eq,decide_eq_false_iff_not,Bool.not_eq_true',Bool.not_eq_false',beq_iff_eq,bne_iff_ne,beq_eq_false_iff_ne,bne_eq_false_iff_eq,Bool.not_not,Bool.and_eq_true,Bool.or_eq_true,Bool.and_eq_false_iff,Bool.or_eq_false_iff]at h5))
  ·have dw:k - 1<m.steps.length:=by omega
   have hd:decide (0<k)=true:=by simpa using h5
   simp[hx,dw,hd]
   repeat refine vg ?_
   refine bL (J4 m.steps[k - 1] m.steps[k]) ?_;simp[hd]
   (refine Bz.split (fun h6=>?_) (fun h6=>?_)<;>(try simp only[decide_eq_true_eq,decide_eq_false_iff_not,Bool.not_eq_true',Bool.not_eq_false',beq_iff_eq,bne_iff_ne,beq_eq_false_iff_ne,bne_eq_false_iff_eq,Bool.not_not,Bool.and_eq_true,Bool.or_eq_true,Bool.and_eq_false_iff,Bool.or_eq_false_iff]at h6))
   ·simp;rw[<-hr,aF h hj (by simp[eH,h,h3,dw,h5,h6])];simp[eH,h,h3,dw,h5,h6]
   simp;exact vg (ar.of (k+1) [] (by simp) ⟨⟨h,aY hj (by simp[eH,h,h3,dw];omega)⟩,by omega⟩)
  have hd:decide (0<k)=false:=by simpa using h5
  simp[hd];exact vg (ar.of (k+1) [] (by simp) ⟨⟨h,aY hj (by simp[eH,h,h3];omega)⟩,by omega⟩)
 have e:k=m.steps.length:=by omega
 subst e;rw[<-hr,hj]
theorem J6(L:Int) (c:List Int) (l:List Mv) (i:Nat) (hi:i<l.length):lB L c (l.take (i+1))=jm L c (lB L c (l.take i)) l[i]:=by
 unfold lB;rw[List.take_succ_eq_append_getElem hi,List.foldl_append];rfl
theorem kv{α:Type} (l:List α) (s:Nat) (x:α) (h:l[s]?=some x):l.take s++[x]=l.take (s+1):=by rw[List.take_add_one,h];rfl
theorem CF(a:Adv) (n L:Int) (hn:0<=n/\n<=1048576) (hL:0<=L/\L<=1048576) (h1:1<=a.states.length/\a.states.length<=256) (tu:∀ s,s<a.states.length->∀ m∈a.states.getD s [],0<=m.to/\m.to.toNat<a.states.length) :
  FC Tryz.prog 164 [gR a,iD n,iD L] (iD (dy L a n.toNat)):=by
 refine an Tryz.func164 rfl rfl rfl Tryz.call164 [] [] rfl 3 (fun hb w0 G0=>?_);simp at hb;simp;refine ml 7 3 1 (by simp) ?_;refine am [1,2,3] [] (fun k:Nat=>[(8,.d (iD k)),(7,.sl 0 k)]) (fun k=>[(0,some (.row 3 1 ((List.replicate k (1:Int)).map fun x=>[iD x])))]) (fun k=>a.states.length - k) (fun k=>k<=a.states.length) 0 (by omega) (by simp) (fun k hk=>?_);simp
 (refine Bz.split (fun h=>?_) (fun h=>?_)<;>(try simp only[decide_eq_true_eq,decide_eq_false_iff_not,Bool.not_eq_true',Bool.not_eq_false',beq_iff_eq,bne_iff_ne,beq_eq_false_iff_ne,bne_eq_false_iff_eq,Bool.not_not,Bool.and_eq_true,Bool.or_eq_true,Bool.and_eq_false_iff,Bool.or_eq_false_iff]at h))<;>simp[h]
 ·repeat refine vg ?_
  exact ar.of (k+1) [1] (by simp[List.replicate_succ'])
 have e:k=a.states.length:=by omega
 subst e;refine am [1,2,3] [] (fun k:Nat=>[(9,.d (iD k)),(7,.sl 0 a.states.length)]) (fun k=>[(0,some (.row 3 1 ((bW L a k).map fun x=>[iD x])))]) (fun k=>n.toNat - k) (fun k=>k<=n.toNat) 0 (by omega) (by simp[bW]) (fun k hk=>?_);have bi:=za L a k;have bO:=qi hL.1 a k;simp
 (refine Bz.split (fun h2=>?_) (fun h2=>?_)<;>(try simp only[decide_eq_true_eq,decide_eq_false_iff_not,Bool.not_eq_true',Bool.not_eq_false',beq_iff_eq,bne_iff_ne,beq_eq_false_iff_ne,bne_eq_false_iff_eq,Bool.not_not,Bool.and_eq_true,Bool.or_eq_true,Bool.and_eq_false_iff,Bool.or_eq_false_iff]at h2))<;>simp[h2]
 ·refine ml 10 3 1 (by simp) ?_;refine am [1,2,3,7,9] [0] (fun s:Nat=>[(11,.d (iD s)),(10,.sl 1 s)]) (fun s=>[(1,some (.row 3 1 (((a.states.take s).map (lB L (bW L a k))).map fun x=>[iD x])))]) (fun s=>a.states.length - s) (fun s=>s<=a.states.length) 0 (by omega) (by simp) (fun s hs=>?_);simp
  (refine Bz.split (fun h3=>?_) (fun h3=>?_)<;>(try simp only[decide_eq_true_eq,decide_eq_false_iff_not,Bool.not_eq_true',Bool.not_eq_false',beq_iff_eq,bne_iff_ne,beq_eq_false_iff_ne,bne_eq_false_iff_eq,Bool.not_not,Bool.and_eq_true,Bool.or_eq_true,Bool.and_eq_false_iff,Bool.or_eq_false_iff]at h3))<;>simp[h3]
  ·have fT:=hb.2 a.states[s] (by simp);refine am [1,2,3,7,9,10,11] [0,1] (fun j:Nat=>[(13,.d (iD j)),(12,.d (iD (lB L (bW L a k) (a.states[s].take j))))]) (fun _=>[]) (fun j=>a.states[s].length - j) (fun j=>j<=a.states[s].length) 0 (by omega) (by simp[lB]) (fun j hj=>?_);have ho:=ER hL.1 bO (a.states[s].take j);simp[h3]
   (refine Bz.split (fun h4=>?_) (fun h4=>?_)<;>(try simp only[decide_eq_true_eq,decide_eq_false_iff_not,Bool.not_eq_true',Bool.not_eq_false',beq_iff_eq,bne_iff_ne,beq_eq_false_iff_ne,bne_eq_false_iff_eq,Bool.not_not,Bool.and_eq_true,Bool.or_eq_true,Bool.and_eq_false_iff,Bool.or_eq_false_iff]at h4))<;>simp[h4,h3]
   ·have hm:=tu s h3 a.states[s][j] (by simp[h3]);have hi:a.states[s][j].to.toNat<(bW L a k).length:=by omega
    have hc:=lC hL.1 bO a.states[s][j].to.toNat;have es:=J6 L (bW L a k) a.states[s] j h4;rw[jm]at es;simp[hi]at hc es;simp[hi]
    repeat refine vg ?_
    exact ar.of (j+1) [0,1] (by simp;omega)
   ·have e:j=a.states[s].length:=by omega
    subst e;simp
    repeat refine vg ?_
    exact ar.of (s+1) [0,2] (by simp;exact⟨by omega,kv _ _ _ (by simp[h3])⟩)
  ·have e:s=a.states.length:=by omega
   subst e
   repeat refine vg ?_
   exact ar.of (k+1) [1] (by simp[bW,tF,List.take_of_length_le])
 have e:k=n.toNat:=by omega
 subst e
 repeat refine vg ?_
 have h0:0<(bW L a n.toNat).length:=by omega
 simp[dy,h0]
theorem G9(x:Py):FC Tryz.prog 34 [.agg [aT x.inp,bK x.word]] (bD (decide ((x.inp.length:Int)<=60)&&decide ((x.word.length:Int)<=20))):=by
 refine an Tryz.func34 rfl rfl rfl Tryz.call34 [] [] rfl 3 (fun hb w0 G0=>?_);simp
 (refine Bz.split (fun h=>?_) (fun h=>?_)<;>(try simp only[decide_eq_true_eq,decide_eq_false_iff_not,Bool.not_eq_true',Bool.not_eq_false',beq_iff_eq,bne_iff_ne,beq_eq_false_iff_ne,bne_eq_false_iff_eq,Bool.not_not,Bool.and_eq_true,Bool.or_eq_true,Bool.and_eq_false_iff,Bool.or_eq_false_iff]at h))<;>simp[h]
theorem Er(m:Mac):FR Tryz.prog 70 [eT m] (fun r=>∃ x:Int,r=iD x):=by
 refine xa Tryz.func70 rfl rfl rfl Tryz.call70 [] [1008] rfl 5 (fun hb w0 G0=>?_);simp at hb;obtain⟨oQ,fm,rB,iq⟩:=hb;simp;refine am [1] [] (fun x:Nat × Int=>[(3,.d (iD x.2)),(4,.d (iD x.1))]) (fun _=>[]) (fun x=>m.out.length - x.1) (fun x=>x.1<=m.out.length) (0,0) (by simp) (by simp) (fun x hk=>?_);obtain⟨k,c⟩:=x;simp at hk;simp
 (refine Bz.split (fun h=>?_) (fun h=>?_)<;>(try simp only[decide_eq_true_eq,decide_eq_false_iff_not,Bool.not_eq_true',Bool.not_eq_false',beq_iff_eq,bne_iff_ne,beq_eq_false_iff_ne,bne_eq_false_iff_eq,Bool.not_not,Bool.and_eq_true,Bool.or_eq_true,Bool.and_eq_false_iff,Bool.or_eq_false_iff]at h))<;>simp[h]
 ·have bV:=iq.2 m.out[k] (by simp);refine am [1,4] [] (fun x:Nat × Int=>[(3,.d (iD x.2)),(5,.d (iD x.1))]) (fun _=>[]) (fun x=>m.out[k].length - x.1) (fun x=>x.1<=m.out[k].length) (0,c) (by simp) (by simp) (fun x hq=>?_);obtain⟨q,c⟩:=x;simp at hq;simp[h]
  (refine Bz.split (fun h4=>?_) (fun h4=>?_)<;>(try simp only[decide_eq_true_eq,decide_eq_false_iff_not,Bool.not_eq_true',Bool.not_eq_false',beq_iff_eq,bne_iff_ne,beq_eq_false_iff_ne,bne_eq_false_iff_eq,Bool.not_not,Bool.and_eq_true,Bool.or_eq_true,Bool.and_eq_false_iff,Bool.or_eq_false_iff]at h4))<;>simp[h4,h]
  ·refine Pg 10 ?_;simp[h,h4];refine Jp _ _ rfl rfl (fun c=>?_);simp
   repeat refine vg ?_
   exact ar.of (q+1,c) [] (by simp)
  ·repeat refine vg ?_
   exact ar.of (k+1,c) [] (by simp)
def ny(p:Pb):Int:=p.t.cases.length * dy 4096 p.a p.rounds.toNat
def qT(p:Pb):Bool:=
 if xi p.t=false then false else if ¬ (p.a.states.length<=8/\az p.a.states<=40) then false else if 3<p.t.n/\p.t.n<=5 then false
 else if bg p≠0 then true else decide (ny p<=60) || decide (4096<ny p)
theorem CG(p:Pb) (hp:bg p=0) (hl:p.t.cases.length<=1048576):FC Tryz.prog 95 [eI p,iD 4096] (iD (ny p)):=by
 refine an Tryz.func95 rfl rfl rfl Tryz.call95 [] [] rfl 3 (fun hb w0 G0=>?_);obtain⟨-,ha,-,hr⟩:=cy hp;obtain⟨hs,cJ,-⟩:=cZ ha;have tu:∀ s,s<p.a.states.length->∀ m∈p.a.states.getD s [],0<=m.to/\m.to.toNat<p.a.states.length:=pG ha;have hz:=lC (by omega) (qi (L:=4096) (by omega) p.a p.rounds.toNat) 0;simp;refine aO 12 ?_;simp;refine bL (CF p.a p.rounds 4096 (by omega) (by omega) hs tu) ?_;simp;have hq:(p.t.cases.length:Int) * dy 4096 p.a p.rounds.toNat<=1048576 * 4097:=Int.mul_le_mul (by omega) hz.2 hz.1 (by omega);have Q8:0<=(p.t.cases.length:Int) * dy 4096 p.a p.rounds.toNat:=Int.mul_nonneg (by omega) hz.1;exact⟨V.i ⟨by omega,by omega⟩,by simp[ny]⟩
theorem J7(p:Pb):FC Tryz.prog 67 [eI p] (bD (qT p)):=by
 refine an Tryz.func67 rfl rfl rfl Tryz.call67 [] [1,6] rfl 3 (fun hb w0 G0=>?_);simp at hb;generalize hr:qT p=r;unfold qT at hr;have h1:=JK p.t;have h2:=JN p.a;generalize o6:decide (p.a.states.length<=8/\az p.a.states<=40)=f2 at h2;generalize ou:xi p.t=f1 at h1 hr;simp;refine bj [1] [] (fun b:Bool=>[(25,.d (bD b))]) (fun _=>[]) (fun b=>b=(!f1 || !f2 || decide (3<p.t.n/\p.t.n<=5))) ?_ (fun b be=>?_)
 ·simp;refine ap h1 ?_;simp;cases f1<;>simp
  ·exact Mt.is (by first|(simp[-Bool.decide_or,-Bool.decide_and];done)|(simp[-Bool.decide_or,-Bool.decide_and];omega)|(simp_all;done)|(simp_all;omega)|(simp;grind))
  refine ap h2 ?_;simp;cases f2<;>simp
  ·exact Mt.is (by first|(simp[-Bool.decide_or,-Bool.decide_and];done)|(simp[-Bool.decide_or,-Bool.decide_and];omega)|(simp_all;done)|(simp_all;omega)|(simp;grind))
  repeat' (first|(exact Mt.is (by first|(simp[-Bool.decide_or,-Bool.decide_and];done)|(simp[-Bool.decide_or,-Bool.decide_and];omega)|(simp_all;done)|(simp_all;omega)|(simp;grind)))|((refine Bz.split (fun a=>?_) (fun a=>?_)<;>(try simp only[decide_eq_true_eq,decide_eq_false_iff_not,Bool.not_eq_true',Bool.not_eq_false',beq_iff_eq,bne_iff_ne,beq_eq_false_iff_ne,bne_eq_false_iff_eq,Bool.not_not,Bool.and_eq_true,Bool.or_eq_true,Bool.and_eq_false_iff,Bool.or_eq_false_iff]at a))<;>simp[a]))
 cases b<;>simp at be ⊢
 rotate_left
 ·rw[<-hr];grind
 obtain⟨⟨rfl,rfl⟩,hn⟩:=be;have hl:p.t.cases.length<=30:=by unfold xi at ou;simp at ou;omega
 rw[if_neg (by simp),if_neg (by simpa using o6),if_neg (by omega)]at hr;have Q4:p.a.states.length<=8/\az p.a.states<=40:=by simpa using o6
 refine ap (pj p (by omega)) ?_;simp
 (refine Bz.split (fun h3=>?_) (fun h3=>?_)<;>(try simp only[decide_eq_true_eq,decide_eq_false_iff_not,Bool.not_eq_true',Bool.not_eq_false',beq_iff_eq,bne_iff_ne,beq_eq_false_iff_ne,bne_eq_false_iff_eq,Bool.not_not,Bool.and_eq_true,Bool.or_eq_true,Bool.and_eq_false_iff,Bool.or_eq_false_iff]at h3))<;>simp[h3]
 ·rw[<-hr,if_pos h3]
 rw[if_neg (by omega)]at hr;refine ap (CG p (by omega) (by omega)) ?_;simp;refine bj [] [] (fun b:Bool=>[(2,.d (bD b))]) (fun _=>[]) (fun b=>b=(decide (ny p<=60) || decide (4096<ny p))) ?_ (fun b be=>?_)
 ·simp
  repeat' (first|(exact Mt.is (by first|(simp[-Bool.decide_or,-Bool.decide_and];done)|(simp[-Bool.decide_or,-Bool.decide_and];omega)|(simp_all;done)|(simp_all;omega)|(simp;grind)))|((refine Bz.split (fun a=>?_) (fun a=>?_)<;>(try simp only[decide_eq_true_eq,decide_eq_false_iff_not,Bool.not_eq_true',Bool.not_eq_false',beq_iff_eq,bne_iff_ne,beq_eq_false_iff_ne,bne_eq_false_iff_eq,Bool.not_not,Bool.and_eq_true,Bool.or_eq_true,Bool.and_eq_false_iff,Bool.or_eq_false_iff]at a))<;>simp[a]))
 simp;rw[<-hr,be]
theorem J8(m:Mac):FR Tryz.prog 93 [eT m] (fun r=>∃ b:Bool,r=bD b):=by
 refine xa Tryz.func93 rfl rfl rfl Tryz.call93 [] [1] rfl 5 (fun hb w0 G0=>?_);simp at hb;simp;refine bj [1] [] (fun b:Bool=>[(31,.d (bD b))]) (fun _=>[]) (fun _=>True) ?_ (fun b _=>?_)
 ·simp
  (refine Bz.split (fun a1=>?_) (fun a1=>?_)<;>(try simp only[decide_eq_true_eq,decide_eq_false_iff_not,Bool.not_eq_true',Bool.not_eq_false',beq_iff_eq,bne_iff_ne,beq_eq_false_iff_ne,bne_eq_false_iff_eq,Bool.not_not,Bool.and_eq_true,Bool.or_eq_true,Bool.and_eq_false_iff,Bool.or_eq_false_iff]at a1))<;>simp[a1]
  rotate_left
  ·exact Mt.of true (by simp) trivial
  (refine Bz.split (fun a2=>?_) (fun a2=>?_)<;>(try simp only[decide_eq_true_eq,decide_eq_false_iff_not,Bool.not_eq_true',Bool.not_eq_false',beq_iff_eq,bne_iff_ne,beq_eq_false_iff_ne,bne_eq_false_iff_eq,Bool.not_not,Bool.and_eq_true,Bool.or_eq_true,Bool.and_eq_false_iff,Bool.or_eq_false_iff]at a2))<;>simp[a2]
  rotate_left
  ·exact Mt.of true (by simp) trivial
  (refine Bz.split (fun a3=>?_) (fun a3=>?_)<;>(try simp only[decide_eq_true_eq,decide_eq_false_iff_not,Bool.not_eq_true',Bool.not_eq_false',beq_iff_eq,bne_iff_ne,beq_eq_false_iff_ne,bne_eq_false_iff_eq,Bool.not_not,Bool.and_eq_true,Bool.or_eq_true,Bool.and_eq_false_iff,Bool.or_eq_false_iff]at a3))<;>simp[a3]
  rotate_left
  ·exact Mt.of true (by simp) trivial
  (refine Bz.split (fun a4=>?_) (fun a4=>?_)<;>(try simp only[decide_eq_true_eq,decide_eq_false_iff_not,Bool.not_eq_true',Bool.not_eq_false',beq_iff_eq,bne_iff_ne,beq_eq_false_iff_ne,bne_eq_false_iff_eq,Bool.not_not,Bool.and_eq_true,Bool.or_eq_true,Bool.and_eq_false_iff,Bool.or_eq_false_iff]at a4))<;>simp[a4]
  rotate_left
  ·exact Mt.of true (by simp) trivial
  refine Jo (Er m) (fun r hr=>?_);obtain⟨x,rfl⟩:=hr;simp;exact Mt.of _ (by simp;rfl) trivial
 cases b<;>simp
 refine am [1] [] (fun k:Nat=>[(3,.d (iD k))]) (fun _=>[]) (fun k=>m.syms.length - k) (fun k=>k<=m.syms.length) 0 (by omega) (by simp) (fun k hk=>?_);simp
 (refine Bz.split (fun h=>?_) (fun h=>?_)<;>(try simp only[decide_eq_true_eq,decide_eq_false_iff_not,Bool.not_eq_true',Bool.not_eq_false',beq_iff_eq,bne_iff_ne,beq_eq_false_iff_ne,bne_eq_false_iff_eq,Bool.not_not,Bool.and_eq_true,Bool.or_eq_true,Bool.and_eq_false_iff,Bool.or_eq_false_iff]at h))<;>simp[h]
 ·(refine Bz.split (fun h2=>?_) (fun h2=>?_)<;>(try simp only[decide_eq_true_eq,decide_eq_false_iff_not,Bool.not_eq_true',Bool.not_eq_false',beq_iff_eq,bne_iff_ne,beq_eq_false_iff_ne,bne_eq_false_iff_eq,Bool.not_not,Bool.and_eq_true,Bool.or_eq_true,Bool.and_eq_false_iff,Bool.or_eq_false_iff]at h2))<;>simp[h2]
  refine am [1,3] [] (fun q:Nat=>[(4,.d (iD q))]) (fun _=>[]) (fun q=>m.syms[k].length - q) (fun q=>q<=m.syms[k].length) 0 (by omega) (by simp) (fun q hq=>?_);simp[h]
  (refine Bz.split (fun h3=>?_) (fun h3=>?_)<;>(try simp only[decide_eq_true_eq,decide_eq_false_iff_not,Bool.not_eq_true',Bool.not_eq_false',beq_iff_eq,bne_iff_ne,beq_eq_false_iff_ne,bne_eq_false_iff_eq,Bool.not_not,Bool.and_eq_true,Bool.or_eq_true,Bool.and_eq_false_iff,Bool.or_eq_false_iff]at h3))<;>simp[h3,h]
  ·(refine Bz.split (fun h4=>?_) (fun h4=>?_)<;>(try simp only[decide_eq_true_eq,decide_eq_false_iff_not,Bool.not_eq_true',Bool.not_eq_false',beq_iff_eq,bne_iff_ne,beq_eq_false_iff_ne,bne_eq_false_iff_eq,Bool.not_not,Bool.and_eq_true,Bool.or_eq_true,Bool.and_eq_false_iff,Bool.or_eq_false_iff]at h4))<;>simp[h4]
   repeat refine vg ?_
   exact ar.of (q+1) [] (by simp)
  ·repeat refine vg ?_
   exact ar.of (k+1) [] (by simp)
theorem J9(p:Pb) (m:Mac):FR Tryz.prog 35 [eI p,eT m] (fun r=>∃ b:Bool,r=bD b/\(b=true->qT p=true)):=by
 refine xa Tryz.func35 rfl rfl rfl Tryz.call35 [] [] rfl 5 (fun hb w0 G0=>?_);simp;refine ap (J7 p) ?_;simp
 (refine Bz.split (fun h=>?_) (fun h=>?_)<;>(try simp only[decide_eq_true_eq,decide_eq_false_iff_not,Bool.not_eq_true',Bool.not_eq_false',beq_iff_eq,bne_iff_ne,beq_eq_false_iff_ne,bne_eq_false_iff_eq,Bool.not_not,Bool.and_eq_true,Bool.or_eq_true,Bool.and_eq_false_iff,Bool.or_eq_false_iff]at h))<;>simp[h]
 ·refine Jo (J8 m) (fun r hr=>?_);obtain⟨b,rfl⟩:=hr;simp;cases b<;>simp[h]
end Go.Proofs.YtiocdkdkndpgkaaGreat
namespace Go.Proofs.YtiocdkdkndpgkaaGreat
open Go.RowKit Go
attribute [local simp] bu bv
theorem f8(n lo hi:Int):FC Tryz.prog 68 [iD n,iD lo,iD hi] (bD (inB n lo hi)):=by
 refine an Tryz.func68 rfl rfl rfl Tryz.call68 [] [] rfl 1 (fun hb w0 G0=>?_);unfold inB;simp
 (refine Bz.split (fun h=>?_) (fun h=>?_)<;>(try simp only[decide_eq_true_eq,decide_eq_false_iff_not,Bool.not_eq_true',Bool.not_eq_false',beq_iff_eq,bne_iff_ne,beq_eq_false_iff_ne,bne_eq_false_iff_eq,Bool.not_not,Bool.and_eq_true,Bool.or_eq_true,Bool.and_eq_false_iff,Bool.or_eq_false_iff]at h))<;>simp[h]
theorem mE(l:List Int) (lo hi:Int):FC Tryz.prog 120 [aT l,iD lo,iD hi] (bD (cL l lo hi)):=by
 refine an Tryz.func120 rfl rfl rfl Tryz.call120 [] [] rfl 2 (fun hb w0 G0=>?_);simp at hb;generalize hr:cL l lo hi=r;unfold cL at hr;simp;refine am [0,1,2] [] (fun k:Nat=>[(7,.d (iD k))]) (fun _=>[]) (fun k=>l.length - k) (fun k=>k<=l.length/\anyLt k (fun i=>!inB (l.getD i 0) lo hi)=false) 0 ⟨by omega,rfl⟩ (by simp) (fun k hk=>?_);obtain⟨hk,hj⟩:=hk;simp
 (refine Bz.split (fun h=>?_) (fun h=>?_)<;>(try simp only[decide_eq_true_eq,decide_eq_false_iff_not,Bool.not_eq_true',Bool.not_eq_false',beq_iff_eq,bne_iff_ne,beq_eq_false_iff_ne,bne_eq_false_iff_eq,Bool.not_not,Bool.and_eq_true,Bool.or_eq_true,Bool.and_eq_false_iff,Bool.or_eq_false_iff]at h))<;>simp[h]
 ·refine ap (f8 _ _ _) ?_;simp
  (refine Bz.split (fun h1=>?_) (fun h1=>?_)<;>(try simp only[decide_eq_true_eq,decide_eq_false_iff_not,Bool.not_eq_true',Bool.not_eq_false',beq_iff_eq,bne_iff_ne,beq_eq_false_iff_ne,bne_eq_false_iff_eq,Bool.not_not,Bool.and_eq_true,Bool.or_eq_true,Bool.and_eq_false_iff,Bool.or_eq_false_iff]at h1))<;>simp[h1]
  ·rw[<-hr,aD _ k _ h (by simp[h,h1])];rfl
  ·exact vg (ar.of (k+1) [] (by simp) ⟨⟨h,aR hj (by simp[h,h1])⟩,by omega⟩)
 ·have e:k=l.length:=by omega
  subst e;rw[<-hr,hj];rfl
theorem CH(m:Mac) (lv:0<=m.rounds/\m.rounds<=100):FC Tryz.prog 69 [eT m] (bD (ec m)):=by
 refine an Tryz.func69 rfl rfl rfl Tryz.call69 [] [1,26] rfl 5 (fun hb w0 G0=>?_);simp at hb;obtain⟨oQ,fm,rB,iq⟩:=hb;generalize hr:ec m=r;unfold ec at hr;simp;refine bj [1] [] (fun b:Bool=>[(30,.d (bD b))]) (fun _=>[]) (fun b=>b=decide ((m.first.length:Int)≠m.n\/(m.out.length:Int)≠m.rounds+1\/(m.syms.length:Int)≠m.rounds)) ?_ (fun b be=>?_)
 ·simp;by_cases a1:(m.first.length:Int)=m.n
  ·simp[a1];refine vg ?_;by_cases a2:(m.out.length:Int)=m.rounds+1
   ·simp[a2];exact Mt.is (by simp[a1,a2])
   ·simp[a2];exact Mt.is (by simp[a1,a2])
  ·simp[a1];exact Mt.is (by simp[a1])
 cases b<;>simp at be ⊢
 rotate_left
 ·rw[<-hr,if_pos (by omega)]
 rw[if_neg (by omega)]at hr;obtain⟨c1,c2,c3⟩:=be;refine am [1] [] (fun k:Nat=>[(3,.d (iD k))]) (fun _=>[]) (fun k=>m.first.length - k) (fun k=>k<=m.first.length/\anyLt k (fun i=>decide (((m.first.getD i []).length:Int)≠m.ins))=false) 0 ⟨by omega,rfl⟩ (by simp) (fun k hk=>?_);obtain⟨hk,hj⟩:=hk;simp
 (refine Bz.split (fun h=>?_) (fun h=>?_)<;>(try simp only[decide_eq_true_eq,decide_eq_false_iff_not,Bool.not_eq_true',Bool.not_eq_false',beq_iff_eq,bne_iff_ne,beq_eq_false_iff_ne,bne_eq_false_iff_eq,Bool.not_not,Bool.and_eq_true,Bool.or_eq_true,Bool.and_eq_false_iff,Bool.or_eq_false_iff]at h))
 ·have h':k<m.first.length:=by omega
  simp[h,h'];refine aO 9 ?_;simp[h']
  (refine Bz.split (fun h1=>?_) (fun h1=>?_)<;>(try simp only[decide_eq_true_eq,decide_eq_false_iff_not,Bool.not_eq_true',Bool.not_eq_false',beq_iff_eq,bne_iff_ne,beq_eq_false_iff_ne,bne_eq_false_iff_eq,Bool.not_not,Bool.and_eq_true,Bool.or_eq_true,Bool.and_eq_false_iff,Bool.or_eq_false_iff]at h1))
  ·simp;rw[<-hr,if_pos (aD _ k _ h' (by simp[h',h1]))]
  simp;exact vg (ar.of (k+1) [] (by simp) ⟨⟨h',aR hj (by simp[h'];omega)⟩,by omega⟩)
 simp[h];have e:k=m.first.length:=by omega
 subst e;rw[if_neg (by rw[hj];simp)]at hr;clear hj hk h;refine am [1] [] (fun k:Nat=>[(4,.d (iD k))]) (fun _=>[]) (fun k=>m.out.length - k) (fun k=>k<=m.out.length/\anyLt k (fun i=>decide (((m.out.getD i []).length:Int)≠m.n))=false) 0 ⟨by omega,rfl⟩ (by simp) (fun k hk=>?_);obtain⟨hk,hj⟩:=hk;simp
 (refine Bz.split (fun h=>?_) (fun h=>?_)<;>(try simp only[decide_eq_true_eq,decide_eq_false_iff_not,Bool.not_eq_true',Bool.not_eq_false',beq_iff_eq,bne_iff_ne,beq_eq_false_iff_ne,bne_eq_false_iff_eq,Bool.not_not,Bool.and_eq_true,Bool.or_eq_true,Bool.and_eq_false_iff,Bool.or_eq_false_iff]at h))
 ·have h':k<m.out.length:=by omega
  simp[h,h'];refine aO 9 ?_;simp[h']
  (refine Bz.split (fun h1=>?_) (fun h1=>?_)<;>(try simp only[decide_eq_true_eq,decide_eq_false_iff_not,Bool.not_eq_true',Bool.not_eq_false',beq_iff_eq,bne_iff_ne,beq_eq_false_iff_ne,bne_eq_false_iff_eq,Bool.not_not,Bool.and_eq_true,Bool.or_eq_true,Bool.and_eq_false_iff,Bool.or_eq_false_iff]at h1))
  ·simp;rw[<-hr,if_pos (aD _ k _ h' (by simp[h',h1]))]
  simp;exact vg (ar.of (k+1) [] (by simp) ⟨⟨h',aR hj (by simp[h'];omega)⟩,by omega⟩)
 simp[h];have e:k=m.out.length:=by omega
 subst e;rw[if_neg (by rw[hj];simp)]at hr;have ho:∀ k (h:k<m.out.length),(m.out[k].length:Int)=m.n:=fun k hk=>by have:=(aI _ _).1 hj k hk;simpa[hk] using this
 clear hj hk h;refine am [1] [] (fun k:Nat=>[(5,.d (iD k))]) (fun _=>[]) (fun k=>m.syms.length - k) (fun k=>k<=m.syms.length/\anyLt k (fD m)=false) 0 ⟨by omega,rfl⟩ (by simp) (fun k hk=>?_);obtain⟨hk,hj⟩:=hk;simp
 (refine Bz.split (fun h=>?_) (fun h=>?_)<;>(try simp only[decide_eq_true_eq,decide_eq_false_iff_not,Bool.not_eq_true',Bool.not_eq_false',beq_iff_eq,bne_iff_ne,beq_eq_false_iff_ne,bne_eq_false_iff_eq,Bool.not_not,Bool.and_eq_true,Bool.or_eq_true,Bool.and_eq_false_iff,Bool.or_eq_false_iff]at h))
 ·have h':k<m.syms.length:=by omega
  simp[h,h'];refine aO 9 ?_;simp[h']
  (refine Bz.split (fun h1=>?_) (fun h1=>?_)<;>(try simp only[decide_eq_true_eq,decide_eq_false_iff_not,Bool.not_eq_true',Bool.not_eq_false',beq_iff_eq,bne_iff_ne,beq_eq_false_iff_ne,bne_eq_false_iff_eq,Bool.not_not,Bool.and_eq_true,Bool.or_eq_true,Bool.and_eq_false_iff,Bool.or_eq_false_iff]at h1))
  ·simp;rw[<-hr,aD _ k _ h' (by simp[fD,h',h1])];rfl
  simp;have mr:=fm.2 m.syms[k] (by simp);have cT:=ho k (by omega);have uW:k<m.out.length:=by omega
  have eR:fD m k=(decide ((m.syms[k].length:Int)≠m.n) || anyLt m.syms[k].length (jk m.n m.out[k] m.syms[k])):=by simp[fD,h',uW]
  refine am [1,5] [] (fun q:Nat=>[(6,.d (iD q))]) (fun _=>[]) (fun q=>m.syms[k].length - q) (fun q=>q<=m.syms[k].length/\anyLt q (jk m.n m.out[k] m.syms[k])=false) 0 ⟨by omega,rfl⟩ (by simp) (fun p hp=>?_);obtain⟨hp,hjp⟩:=hp;simp
  (refine Bz.split (fun h2=>?_) (fun h2=>?_)<;>(try simp only[decide_eq_true_eq,decide_eq_false_iff_not,Bool.not_eq_true',Bool.not_eq_false',beq_iff_eq,bne_iff_ne,beq_eq_false_iff_ne,bne_eq_false_iff_eq,Bool.not_not,Bool.and_eq_true,Bool.or_eq_true,Bool.and_eq_false_iff,Bool.or_eq_false_iff]at h2))
  ·have mL:p<m.syms[k].length:=by omega
   have u6:p<m.out[k].length:=by omega
   have eS:jk m.n m.out[k] m.syms[k] p=(decide ((m.syms[k][p].length:Int)≠m.n) || anyLt m.syms[k][p].length (fun q=>decide ((m.syms[k][p].getD q []).length≠if p=q then 0 else m.out[k][p].length))):=by simp[jk,F2,mL,u6]
   simp[h2,h',mL];refine aO 12 ?_;simp[h',mL]
   (refine Bz.split (fun h3=>?_) (fun h3=>?_)<;>(try simp only[decide_eq_true_eq,decide_eq_false_iff_not,Bool.not_eq_true',Bool.not_eq_false',beq_iff_eq,bne_iff_ne,beq_eq_false_iff_ne,bne_eq_false_iff_eq,Bool.not_not,Bool.and_eq_true,Bool.or_eq_true,Bool.and_eq_false_iff,Bool.or_eq_false_iff]at h3))
   ·simp;rw[<-hr,aD _ k _ h' (by rw[eR,aD _ p _ mL (by rw[eS];simp[h3])];simp)];rfl
   simp;refine am [1,5,6] [] (fun q:Nat=>[(7,.d (iD q))]) (fun _=>[]) (fun q=>m.syms[k][p].length - q) (fun q=>q<=m.syms[k][p].length/\anyLt q (fun q=>decide ((m.syms[k][p].getD q []).length≠if p=q then 0 else m.out[k][p].length))=false) 0 ⟨by omega,rfl⟩ (by simp) (fun q hq=>?_);obtain⟨hq,xQ⟩:=hq;simp
   (refine Bz.split (fun h4=>?_) (fun h4=>?_)<;>(try simp only[decide_eq_true_eq,decide_eq_false_iff_not,Bool.not_eq_true',Bool.not_eq_false',beq_iff_eq,bne_iff_ne,beq_eq_false_iff_ne,bne_eq_false_iff_eq,Bool.not_not,Bool.and_eq_true,Bool.or_eq_true,Bool.and_eq_false_iff,Bool.or_eq_false_iff]at h4))
   ·have oZ:q<m.syms[k][p].length:=by omega
    simp[h4];refine bj [1,5,6,7] [] (fun b:Bool=>[(146,.d (bD b))]) (fun _=>[]) (fun b=>b=decide ((m.syms[k][p].getD q []).length≠if p=q then 0 else m.out[k][p].length)) ?_ (fun b be=>?_)
    ·simp;refine aO 47 ?_;simp
     (refine Bz.split (fun h5=>?_) (fun h5=>?_)<;>(try simp only[decide_eq_true_eq,decide_eq_false_iff_not,Bool.not_eq_true',Bool.not_eq_false',beq_iff_eq,bne_iff_ne,beq_eq_false_iff_ne,bne_eq_false_iff_eq,Bool.not_not,Bool.and_eq_true,Bool.or_eq_true,Bool.and_eq_false_iff,Bool.or_eq_false_iff]at h5))
     ·have te:p=q:=by omega
      subst te;simp[h',mL,oZ]
      (refine Bz.split (fun h6=>?_) (fun h6=>?_)<;>(try simp only[decide_eq_true_eq,decide_eq_false_iff_not,Bool.not_eq_true',Bool.not_eq_false',beq_iff_eq,bne_iff_ne,beq_eq_false_iff_ne,bne_eq_false_iff_eq,Bool.not_not,Bool.and_eq_true,Bool.or_eq_true,Bool.and_eq_false_iff,Bool.or_eq_false_iff]at h6))<;>simp[h6]
      ·exact Mt.is (by simp[oZ];exact List.eq_nil_of_length_eq_zero (by omega))
      ·exact Mt.is (by simp[oZ];intro e;simp[e]at h6)
     ·have te:¬ p=q:=by omega
      have hd:decide ((p:Int)=q)=false:=by simpa using h5
      simp[hd,h',mL,oZ,uW,u6];exact Mt.is (by simp[te,oZ];omega)
    cases b<;>simp at be ⊢
    ·exact vg (ar.of (q+1) [] (by simp) ⟨⟨oZ,aR xQ (by simpa using be)⟩,by omega⟩)
    ·rw[<-hr,aD _ k _ h' (by rw[eR,aD _ p _ mL (by rw[eS,aD _ q _ oZ (by simpa using be)];simp)];simp)];rfl
   simp[h4];have e:q=m.syms[k][p].length:=by omega
   subst e;exact vg (ar.of (p+1) [] (by simp) ⟨⟨mL,aR hjp (by rw[eS,xQ];simpa using h3)⟩,by omega⟩)
  simp[h2];have e:p=m.syms[k].length:=by omega
  subst e;exact vg (ar.of (k+1) [] (by simp) ⟨⟨h',aR hj (by rw[eR,hjp];simpa using h1)⟩,by omega⟩)
 simp[h];have e:k=m.syms.length:=by omega
 subst e;rw[<-hr,hj];rfl
theorem CI(m:Mac) (n:Nat) (hs:Shp m n) (hn:1<=n) (ho:1<=m.outs/\m.outs<=8) (lv:0<=m.rounds/\m.rounds<=100):FC Tryz.prog 71 [eT m] (bD (iv m)):=by
 refine an Tryz.func71 rfl rfl rfl Tryz.call71 [] [12] rfl 5 (fun hb w0 G0=>?_);simp at hb;obtain⟨oQ,fm,rB,iq⟩:=hb;obtain⟨s1,s2,s3,s4,s5,s6,s7⟩:=id hs;rw[<-F4 hs];generalize hr:pE m n=r;unfold pE at hr;have h0:0<m.out.length:=by omega
 simp;refine am [1] [] (fun k:Nat=>[(3,.d (iD k))]) (fun _=>[]) (fun k=>n - k) (fun k=>k<=n/\anyLt k (fun p=>iU m p || anyLt m.out.length fun k=>nD m n k p)=false) 0 ⟨by omega,rfl⟩ (by simp) (fun p hp=>?_);obtain⟨hp,hj⟩:=hp;simp
 (refine Bz.split (fun hz=>?_) (fun hz=>?_)<;>(try simp only[decide_eq_true_eq,decide_eq_false_iff_not,Bool.not_eq_true',Bool.not_eq_false',beq_iff_eq,bne_iff_ne,beq_eq_false_iff_ne,bne_eq_false_iff_eq,Bool.not_not,Bool.and_eq_true,Bool.or_eq_true,Bool.and_eq_false_iff,Bool.or_eq_false_iff]at hz))
 ·have h:p<n:=by omega
  have mL:p<m.first.length:=by omega
  have hp0:p<m.out[0].length:=by have:=s5 0 h0;omega
  have hbf2:=oQ.2 m.first[p] (by simp);have hbo0:=(iq.2 m.out[0] (by simp)).2 m.out[0][p] (by simp);have eF:iU m p=!cL m.first[p] (-1) (m.out[0][p].length - 1):=by simp[iU,mL,h0,hp0]
  simp[hz];refine aO 16 ?_;simp[mL,h0,hp0];refine vg (bL (mE _ _ _) ?_);simp
  (refine Bz.split (fun h1=>?_) (fun h1=>?_)<;>(try simp only[decide_eq_true_eq,decide_eq_false_iff_not,Bool.not_eq_true',Bool.not_eq_false',beq_iff_eq,bne_iff_ne,beq_eq_false_iff_ne,bne_eq_false_iff_eq,Bool.not_not,Bool.and_eq_true,Bool.or_eq_true,Bool.and_eq_false_iff,Bool.or_eq_false_iff]at h1))
  ·simp;rw[<-hr,aD _ p _ h (by simp[eF,h1])];rfl
  simp;refine am [1,3] [] (fun k:Nat=>[(4,.d (iD k))]) (fun _=>[]) (fun k=>m.out.length - k) (fun k=>k<=m.out.length/\anyLt k (fun k=>nD m n k p)=false) 0 ⟨by omega,rfl⟩ (by simp) (fun k hk=>?_);obtain⟨hk,hjk⟩:=hk;simp
  (refine Bz.split (fun h2=>?_) (fun h2=>?_)<;>(try simp only[decide_eq_true_eq,decide_eq_false_iff_not,Bool.not_eq_true',Bool.not_eq_false',beq_iff_eq,bne_iff_ne,beq_eq_false_iff_ne,bne_eq_false_iff_eq,Bool.not_not,Bool.and_eq_true,Bool.or_eq_true,Bool.and_eq_false_iff,Bool.or_eq_false_iff]at h2))
  ·have kA:k<m.out.length:=by omega
   have uW:p<m.out[k].length:=by have:=s5 k kA;omega
   have eO:tB m k p=!cL m.out[k][p] (-1) (m.outs - 1):=by simp[tB,kA,uW]
   simp[h2];refine aO 13 ?_;simp[kA,uW];refine vg (bL (mE _ _ _) ?_);simp
   (refine Bz.split (fun h3=>?_) (fun h3=>?_)<;>(try simp only[decide_eq_true_eq,decide_eq_false_iff_not,Bool.not_eq_true',Bool.not_eq_false',beq_iff_eq,bne_iff_ne,beq_eq_false_iff_ne,bne_eq_false_iff_eq,Bool.not_not,Bool.and_eq_true,Bool.or_eq_true,Bool.and_eq_false_iff,Bool.or_eq_false_iff]at h3))
   ·simp;rw[<-hr,aD _ p _ h (by rw[aD _ k _ kA (by simp[nD,eO,h3])];simp)];rfl
   simp;refine am [1,3,4] [] (fun q:Nat=>[(5,.d (iD q))]) (fun _=>[]) (fun q=>n - q) (fun q=>q<=n/\(k<m.syms.length->anyLt q (oz m k p)=false)) 0 ⟨by omega,fun _=>rfl⟩ (by simp) (fun q hq=>?_);obtain⟨hq,xQ⟩:=hq;simp;refine bj [1,3,4,5] [] (fun b:Bool=>[(56,.d (bD b))]) (fun _=>[]) (fun b=>b=decide (q<n/\k<m.syms.length)) ?_ (fun b be=>?_)
   ·simp
    (refine Bz.split (fun h4=>?_) (fun h4=>?_)<;>(try simp only[decide_eq_true_eq,decide_eq_false_iff_not,Bool.not_eq_true',Bool.not_eq_false',beq_iff_eq,bne_iff_ne,beq_eq_false_iff_ne,bne_eq_false_iff_eq,Bool.not_not,Bool.and_eq_true,Bool.or_eq_true,Bool.and_eq_false_iff,Bool.or_eq_false_iff]at h4))
    ·have hd:decide ((q:Int)<m.n)=true:=by simpa using h4
     simp[hd];exact Mt.is (by simp;first|omega|grind)
    ·have hd:decide ((q:Int)<m.n)=false:=by simpa using h4
     simp[hd];exact Mt.is (by simp;omega)
   cases b<;>simp at be ⊢
   ·exact vg (ar.of (k+1) [] (by simp) ⟨⟨kA,aR hjk (by
     simp only[nD,eO,h3];by_cases sZ:k<m.syms.length
     ·have e:q=n:=by omega
      subst e;simp[xQ sZ]
     ·simp[sZ])⟩,by omega⟩)
   ·obtain⟨h4,h5⟩:=be;have mM:p<m.syms[k].length:=by have:=s6 k h5;omega
    have hqs:q<m.syms[k][p].length:=by have:=s7 k h5 p mM;omega
    have eS:oz m k p q=!cL m.syms[k][p][q] 0 1048576:=by simp[oz,h5,mM,hqs]
    simp[h5,mM,hqs];refine ap (mE _ _ _) ?_;simp
    (refine Bz.split (fun h6=>?_) (fun h6=>?_)<;>(try simp only[decide_eq_true_eq,decide_eq_false_iff_not,Bool.not_eq_true',Bool.not_eq_false',beq_iff_eq,bne_iff_ne,beq_eq_false_iff_ne,bne_eq_false_iff_eq,Bool.not_not,Bool.and_eq_true,Bool.or_eq_true,Bool.and_eq_false_iff,Bool.or_eq_false_iff]at h6))
    ·simp;have hx:anyLt n (oz m k p)=true:=aD _ q _ h4 (by rw[eS];simpa using h6);rw[<-hr,aD _ p _ h (by rw[aD _ k _ kA (by simp[nD,h5,hx])];simp)];rfl
    simp;exact vg (ar.of (q+1) [] (by simp) ⟨⟨h4,fun sZ=>aR (xQ sZ) (by rw[eS];simpa using h6)⟩,by omega⟩)
  simp[h2];have e:k=m.out.length:=by omega
  subst e;exact vg (ar.of (p+1) [] (by simp) ⟨⟨h,aR hj (by rw[hjk,eF];simpa using h1)⟩,by omega⟩)
 simp[hz];have e:p=n:=by omega
 subst e;rw[<-hr,hj];rfl
theorem Ha(m:Mac) (s:St) (hs:Shq m):FC Tryz.prog 72 [eT m,Fk s] (iD (lR m s)):=by
 refine an Tryz.func72 rfl rfl rfl Tryz.call72 [] [1] rfl 5 (fun hb w0 G0=>?_);simp at hb;obtain⟨oQ,fm,-,iq⟩:=hb;obtain⟨hn,lv,hf,ho,hy,Du⟩:=hs;generalize hr:lR m s=r;unfold lR at hr;simp;refine bj [2,3] [] (fun b:Bool=>[(43,.d (bD b))]) (fun _=>[]) (fun b=>b=eX m s) ?_ (fun b be=>?_)
 ·simp;refine aO 35 ?_;simp;refine vg (bL (f8 _ _ _) ?_);simp
  (refine Bz.split (fun a1=>?_) (fun a1=>?_)<;>(try simp only[decide_eq_true_eq,decide_eq_false_iff_not,Bool.not_eq_true',Bool.not_eq_false',beq_iff_eq,bne_iff_ne,beq_eq_false_iff_ne,bne_eq_false_iff_eq,Bool.not_not,Bool.and_eq_true,Bool.or_eq_true,Bool.and_eq_false_iff,Bool.or_eq_false_iff]at a1))<;>simp[a1]
  rotate_left
  ·exact Mt.is (by simp[eX,a1])
  refine vg (bL (f8 _ _ _) ?_);simp
  (refine Bz.split (fun a2=>?_) (fun a2=>?_)<;>(try simp only[decide_eq_true_eq,decide_eq_false_iff_not,Bool.not_eq_true',Bool.not_eq_false',beq_iff_eq,bne_iff_ne,beq_eq_false_iff_ne,bne_eq_false_iff_eq,Bool.not_not,Bool.and_eq_true,Bool.or_eq_true,Bool.and_eq_false_iff,Bool.or_eq_false_iff]at a2))<;>simp[a2]
  rotate_left
  ·exact Mt.is (by simp[eX,a1,a2])
  have b1:=(jQ _ _ _).1 a1;have b2:=(jQ _ _ _).1 a2;have i1:(s.rd+1).toNat<m.out.length:=by omega
  have i2:s.pr.toNat<m.out[(s.rd+1).toNat].length:=by have:=Du _ i1;omega
  have e2:pe m (s.rd+1) s.pr=m.out[(s.rd+1).toNat][s.pr.toNat].length:=by simp[pe,i1,i2]
  simp[i1,i2];have ge:=iq.2 m.out[(s.rd+1).toNat] (by simp);have dJ:=ge.2 m.out[(s.rd+1).toNat][s.pr.toNat] (by simp)
  repeat refine vg ?_
  refine bL (f8 _ _ _) ?_;simp;exact Mt.is (by simp[eX,a1,a2,e2])
 cases b<;>simp at be ⊢
 rotate_left
 ·rw[<-hr,if_pos be]
 rw[be]at hr;simp at hr;obtain⟨⟨b1,b2⟩,-⟩:(inB s.rd 0 (m.rounds - 1)=true/\inB s.pr 0 (m.n - 1)=true)/\_:=by simpa[eX] using be
 replace b1:=(jQ _ _ _).1 b1
 replace b2:=(jQ _ _ _).1 b2
 have hA:=F5 s m.n.toNat (by omega);refine am [2,3] [] (fun k:Nat=>[(5,.d (iD k))]) (fun _=>[]) (fun k=>5 - k) (fun k=>m.n.toNat<=k/\k<=5/\∀ j,m.n.toNat<=j->j<k->s.hear j=-1) m.n.toNat ⟨by omega,by omega,fun j _ _=>by omega⟩ (by simp;omega) (fun k hk=>?_);obtain⟨k7,hk,hj⟩:=hk;simp
 (refine Bz.split (fun h=>?_) (fun h=>?_)<;>(try simp only[decide_eq_true_eq,decide_eq_false_iff_not,Bool.not_eq_true',Bool.not_eq_false',beq_iff_eq,bne_iff_ne,beq_eq_false_iff_ne,bne_eq_false_iff_eq,Bool.not_not,Bool.and_eq_true,Bool.or_eq_true,Bool.and_eq_false_iff,Bool.or_eq_false_iff]at h))
 ·have rG:ix [iD s.rd,iD s.pr,iD s.h0,iD s.h1,iD s.h2,iD s.h3,iD s.h4,iD s.to] (2+k)=iD (s.hear k):=by
   rcases (by omega:k=0\/k=1\/k=2\/k=3\/k=4) with e|e|e|e|e<;>subst e<;>rfl
  simp[tJ]at rG;simp[h,rG];refine vg ?_
  (refine Bz.split (fun h1=>?_) (fun h1=>?_)<;>(try simp only[decide_eq_true_eq,decide_eq_false_iff_not,Bool.not_eq_true',Bool.not_eq_false',beq_iff_eq,bne_iff_ne,beq_eq_false_iff_ne,bne_eq_false_iff_eq,Bool.not_not,Bool.and_eq_true,Bool.or_eq_true,Bool.and_eq_false_iff,Bool.or_eq_false_iff]at h1))
  ·simp;rw[<-hr,if_pos (by rw[Bool.eq_false_iff,Ne,hA];exact fun hh=>h1 (hh k k7 (by omega)))]
  simp
  have jA:∀ j,m.n.toNat<=j->j<k+1->s.hear j=-1:=fun j h2 h3=>by
   by_cases e:j=k
   ·rw[e];exact h1
   ·exact hj j h2 (by omega)
  exact vg (ar.of (k+1) [] (by simp) ⟨⟨by omega,by omega,jA⟩,by omega⟩)
 simp[h];have aX:cL (s.heard.drop m.n.toNat) (-1) (-1)=true:=hA.2 (fun j h1 h2=>hj j h1 (by omega));rw[aX]at hr;simp at hr;refine am [2,3] [] (fun k:Nat=>[(6,.d (iD k))]) (fun _=>[]) (fun k=>m.n.toNat - k) (fun k=>k<=m.n.toNat/\anyLt k (fx m s)=false) 0 ⟨by omega,rfl⟩ (by simp) (fun q hq=>?_);obtain⟨hq,xQ⟩:=hq;simp
 (refine Bz.split (fun h4=>?_) (fun h4=>?_)<;>(try simp only[decide_eq_true_eq,decide_eq_false_iff_not,Bool.not_eq_true',Bool.not_eq_false',beq_iff_eq,bne_iff_ne,beq_eq_false_iff_ne,bne_eq_false_iff_eq,Bool.not_not,Bool.and_eq_true,Bool.or_eq_true,Bool.and_eq_false_iff,Bool.or_eq_false_iff]at h4))
 ·have oZ:q<m.n.toNat:=by omega
  have rG:ix [iD s.rd,iD s.pr,iD s.h0,iD s.h1,iD s.h2,iD s.h3,iD s.h4,iD s.to] (2+q)=iD (s.hear q):=by
   rcases (by omega:q=0\/q=1\/q=2\/q=3\/q=4) with e|e|e|e|e<;>subst e<;>rfl
  simp[tJ]at rG;simp[h4]
  (refine Bz.split (fun h5=>?_) (fun h5=>?_)<;>(try simp only[decide_eq_true_eq,decide_eq_false_iff_not,Bool.not_eq_true',Bool.not_eq_false',beq_iff_eq,bne_iff_ne,beq_eq_false_iff_ne,bne_eq_false_iff_eq,Bool.not_not,Bool.and_eq_true,Bool.or_eq_true,Bool.and_eq_false_iff,Bool.or_eq_false_iff]at h5))
  ·have i3:s.rd.toNat<m.out.length:=by omega
   have i4:q<m.out[s.rd.toNat].length:=by have:=Du _ i3;omega
   have te:s.pr.toNat=q:=by omega
   have e7:fx m s q=!inB (s.hear q) 0 (m.out[s.rd.toNat][q].length - 1):=by simp[fx,h5,pe,te,i3,i4]
   have ge:=iq.2 m.out[s.rd.toNat] (by simp);have dJ:=ge.2 m.out[s.rd.toNat][q] (by simp);simp;refine aO 13 ?_;simp[i3,i4,rG]
   repeat refine vg ?_
   refine ap (f8 _ _ _) ?_;simp
   (refine Bz.split (fun h6=>?_) (fun h6=>?_)<;>(try simp only[decide_eq_true_eq,decide_eq_false_iff_not,Bool.not_eq_true',Bool.not_eq_false',beq_iff_eq,bne_iff_ne,beq_eq_false_iff_ne,bne_eq_false_iff_eq,Bool.not_not,Bool.and_eq_true,Bool.or_eq_true,Bool.and_eq_false_iff,Bool.or_eq_false_iff]at h6))
   ·simp;rw[<-hr,if_pos (aD _ q _ oZ (by simp[e7,h6]))]
   simp;exact vg (ar.of (q+1) [] (by simp) ⟨⟨by omega,aR xQ (by simp[e7,h6])⟩,by omega⟩)
  ·have e7:fx m s q=!inB (s.hear q) (-1) 1048576:=by simp[fx,h5]
   simp[rG]
   repeat refine vg ?_
   refine ap (f8 _ _ _) ?_;simp
   (refine Bz.split (fun h6=>?_) (fun h6=>?_)<;>(try simp only[decide_eq_true_eq,decide_eq_false_iff_not,Bool.not_eq_true',Bool.not_eq_false',beq_iff_eq,bne_iff_ne,beq_eq_false_iff_ne,bne_eq_false_iff_eq,Bool.not_not,Bool.and_eq_true,Bool.or_eq_true,Bool.and_eq_false_iff,Bool.or_eq_false_iff]at h6))
   ·simp;rw[<-hr,if_pos (aD _ q _ oZ (by simp[e7,h6]))]
   simp;exact vg (ar.of (q+1) [] (by simp) ⟨⟨by omega,aR xQ (by simp[e7,h6])⟩,by omega⟩)
 simp[h4];have e:q=m.n.toNat:=by omega
 subst e;rw[<-hr,xQ];simp
theorem St.all_snoc(s:St) (q:Nat) (h:q<5):s.all.take (q+2)++[s.hear q]=s.all.take (q+1+2):=by
 rcases (by omega:q=0\/q=1\/q=2\/q=3\/q=4) with e|e|e|e|e<;>subst e<;>rfl
theorem Es(a b:St):FC Tryz.prog 73 [Fk a,Fk b] (iD (iT a b)):=by
 refine an Tryz.func73 rfl rfl rfl Tryz.call73 [13,18] [] rfl 1 (fun hb w0 G0=>?_);rw[<-OR];generalize hr:ordV a.all b.all=r;simp;refine am [2,3] [] (fun k:Nat=>[(7,.d (iD k)),(5,.sl 0 (k+2)),(6,.sl 1 (k+2))]) (fun k=>[(0,some (.row 3 1 ((a.all.take (k+2)).map fun x=>[iD x]))),(1,some (.row 3 1 ((b.all.take (k+2)).map fun x=>[iD x])))]) (fun k=>5 - k) (fun k=>k<=5) 0 (by omega) (by simp;exact⟨rfl,rfl⟩) (fun k hk=>?_);simp
 (refine Bz.split (fun h=>?_) (fun h=>?_)<;>(try simp only[decide_eq_true_eq,decide_eq_false_iff_not,Bool.not_eq_true',Bool.not_eq_false',beq_iff_eq,bne_iff_ne,beq_eq_false_iff_ne,bne_eq_false_iff_eq,Bool.not_not,Bool.and_eq_true,Bool.or_eq_true,Bool.and_eq_false_iff,Bool.or_eq_false_iff]at h))
 ·have rG:∀ s:St,ix [iD s.rd,iD s.pr,iD s.h0,iD s.h1,iD s.h2,iD s.h3,iD s.h4,iD s.to] (2+k)=iD (s.hear k):=fun s=>by
   rcases (by omega:k=0\/k=1\/k=2\/k=3\/k=4) with e|e|e|e|e<;>subst e<;>rfl
  simp[tJ]at rG;simp[h];refine iL [] 0 [0,0,0,0,0,0,2,0,0,0,0,0,0,2,0,0] ?_;have hm:min (k+2) 7=k+2:=by omega
  simp[rG,St.all_len,hm]
  repeat refine vg ?_
  have h1:=St.all_snoc a k (by omega);have h2:=St.all_snoc b k (by omega)
  have h3:∀ s:St,s.all.take (k+2)++[s.hear k]=s.all.take (k+1+2)->List.take (k+2) (List.map (fun x=>[iD x]) s.all)++[[iD (s.hear k)]]=List.take (k+1+2) (List.map (fun x=>[iD x]) s.all):=fun s e=>by
   rw[<-List.map_take,<-List.map_take,<-e];simp
  exact ar.of (k+1) [2,3] (by simp[St.all_len];exact⟨h3 a h1,h3 b h2⟩)
 simp[h];have e:k=5:=by omega
 subst e;refine am [5,6] [0,1] (fun j:Nat=>[(8,.d (iD j))]) (fun _=>[]) (fun j=>7 - j) (fun j=>j<=7/\∀ i,i<j->a.all.getD i 0=b.all.getD i 0) 0 ⟨by omega,fun i hi=>by omega⟩ (by simp) (fun j hj=>?_);obtain⟨hj,he⟩:=hj;simp
 (refine Bz.split (fun h4=>?_) (fun h4=>?_)<;>(try simp only[decide_eq_true_eq,decide_eq_false_iff_not,Bool.not_eq_true',Bool.not_eq_false',beq_iff_eq,bne_iff_ne,beq_eq_false_iff_ne,bne_eq_false_iff_eq,Bool.not_not,Bool.and_eq_true,Bool.or_eq_true,Bool.and_eq_false_iff,Bool.or_eq_false_iff]at h4))
 ·have Di:j<7:=by omega
  have ha:j<a.all.length:=Di;have hb:j<b.all.length:=Di;simp[h4];refine aO 9 ?_;simp[St.all_len,ha,hb,Di];have K4:a.all.getD j 0=a.all[j]'ha:=aj 0 ha;have Lk:b.all.getD j 0=b.all[j]'hb:=aj 0 hb;refine vg ?_
  (refine Bz.split (fun h5=>?_) (fun h5=>?_)<;>(try simp only[decide_eq_true_eq,decide_eq_false_iff_not,Bool.not_eq_true',Bool.not_eq_false',beq_iff_eq,bne_iff_ne,beq_eq_false_iff_ne,bne_eq_false_iff_eq,Bool.not_not,Bool.and_eq_true,Bool.or_eq_true,Bool.and_eq_false_iff,Bool.or_eq_false_iff]at h5))
  ·simp;rw[<-hr,y9 (a:=a.all) (b:=b.all) (k:=j) ha rfl he (by rw[K4,Lk];omega),K4,Lk,if_pos h5]
  simp;refine aO 9 ?_;simp[St.all_len,ha,hb,Di];refine vg ?_
  (refine Bz.split (fun h6=>?_) (fun h6=>?_)<;>(try simp only[decide_eq_true_eq,decide_eq_false_iff_not,Bool.not_eq_true',Bool.not_eq_false',beq_iff_eq,bne_iff_ne,beq_eq_false_iff_ne,bne_eq_false_iff_eq,Bool.not_not,Bool.and_eq_true,Bool.or_eq_true,Bool.and_eq_false_iff,Bool.or_eq_false_iff]at h6))
  ·simp;rw[<-hr,y9 (a:=a.all) (b:=b.all) (k:=j) ha rfl he (by rw[K4,Lk];omega),K4,Lk,if_neg h5]
  simp
  exact vg (ar.of (j+1) [0,1] (by simp) ⟨⟨Di,fun i hi=>by
   by_cases e:i=j
   ·subst e;rw[K4,Lk];omega
   ·exact he i (by omega)⟩,by omega⟩)
 simp[h4];have e:j=7:=by omega
 subst e;rw[<-hr];exact(Iu (a:=a.all) (b:=b.all) (k:=7) rfl rfl he).symm
theorem Et(m:Mac) (h1:m.out.length<=7) (h2:∀ l∈m.out,l.length<=5):FC Tryz.prog 70 [eT m] (iD (lz m)):=by
 refine an Tryz.func70 rfl rfl rfl Tryz.call70 [] [] rfl 5 (fun hb w0 G0=>?_);simp at hb;obtain⟨-,-,-,iq⟩:=hb;rw[show lz m=gS m.out from rfl];simp;refine am [1] [] (fun k:Nat=>[(3,.d (iD (gS (m.out.take k)))),(4,.d (iD k))]) (fun _=>[]) (fun k=>m.out.length - k) (fun k=>k<=m.out.length/\gS (m.out.take k)<=k * 703687441776640) 0 ⟨by omega,by simp[gS]⟩ (by simp[gS]) (fun k hk=>?_);obtain⟨hk,hz⟩:=hk;simp
 (refine Bz.split (fun h=>?_) (fun h=>?_)<;>(try simp only[decide_eq_true_eq,decide_eq_false_iff_not,Bool.not_eq_true',Bool.not_eq_false',beq_iff_eq,bne_iff_ne,beq_eq_false_iff_ne,bne_eq_false_iff_eq,Bool.not_not,Bool.and_eq_true,Bool.or_eq_true,Bool.and_eq_false_iff,Bool.or_eq_false_iff]at h))<;>simp[h]
 ·have hl:=h2 m.out[k] (by simp);have mr:=iq.2 m.out[k] (by simp);have es:=xo m.out k h;refine am [1,4] [] (fun j:Nat=>[(3,.d (iD ((gS (m.out.take k)+jx (m.out[k].take j):Nat)))),(5,.d (iD j))]) (fun _=>[]) (fun j=>m.out[k].length - j) (fun j=>j<=m.out[k].length/\jx (m.out[k].take j)<=j * 140737488355328) 0 ⟨by omega,by simp[jx]⟩ (by simp[jx]) (fun j hj=>?_);obtain⟨hj,QQ⟩:=hj;simp[h]
  (refine Bz.split (fun h3=>?_) (fun h3=>?_)<;>(try simp only[decide_eq_true_eq,decide_eq_false_iff_not,Bool.not_eq_true',Bool.not_eq_false',beq_iff_eq,bne_iff_ne,beq_eq_false_iff_ne,bne_eq_false_iff_eq,Bool.not_not,Bool.and_eq_true,Bool.or_eq_true,Bool.and_eq_false_iff,Bool.or_eq_false_iff]at h3))<;>simp[h3,h]
  ·have uV:=mr.2 m.out[k][j] (by simp);have ej:=xn m.out[k] j h3
   repeat refine vg ?_
   exact ar.of (j+1) [] (by simp[ej];omega) ⟨⟨h3,by omega⟩,by omega⟩
  ·have e:j=m.out[k].length:=by omega
   subst e;rw[List.take_length]at QQ ⊢
   repeat refine vg ?_
   exact ar.of (k+1) [] (by simp[es]) ⟨⟨h,by omega⟩,by omega⟩
 ·rw[show k=m.out.length by omega,List.take_length]
theorem Eu(m:Mac):FC Tryz.prog 26 [eT m] (iD (da m)):=by
 refine an Tryz.func26 rfl rfl rfl Tryz.call26 [] [1,5] rfl 5 (fun hb w0 G0=>?_);simp at hb;obtain⟨oQ,fm,rB,iq⟩:=hb;generalize hr:da m=r;unfold da at hr;simp;refine bj [1] [] (fun b:Bool=>[(5,.d (bD b))]) (fun _=>[]) (fun b=>b=gK m) ?_ (fun b be=>?_)
 ·simp;refine ap (f8 _ _ _) ?_;simp
  (refine Bz.split (fun a1=>?_) (fun a1=>?_)<;>(try simp only[decide_eq_true_eq,decide_eq_false_iff_not,Bool.not_eq_true',Bool.not_eq_false',beq_iff_eq,bne_iff_ne,beq_eq_false_iff_ne,bne_eq_false_iff_eq,Bool.not_not,Bool.and_eq_true,Bool.or_eq_true,Bool.and_eq_false_iff,Bool.or_eq_false_iff]at a1))<;>simp[a1]
  rotate_left
  ·exact Mt.is (by simp[gK,a1])
  refine ap (f8 _ _ _) ?_;simp
  (refine Bz.split (fun a2=>?_) (fun a2=>?_)<;>(try simp only[decide_eq_true_eq,decide_eq_false_iff_not,Bool.not_eq_true',Bool.not_eq_false',beq_iff_eq,bne_iff_ne,beq_eq_false_iff_ne,bne_eq_false_iff_eq,Bool.not_not,Bool.and_eq_true,Bool.or_eq_true,Bool.and_eq_false_iff,Bool.or_eq_false_iff]at a2))<;>simp[a2]
  rotate_left
  ·exact Mt.is (by simp[gK,a1,a2])
  refine ap (f8 _ _ _) ?_;simp
  (refine Bz.split (fun a3=>?_) (fun a3=>?_)<;>(try simp only[decide_eq_true_eq,decide_eq_false_iff_not,Bool.not_eq_true',Bool.not_eq_false',beq_iff_eq,bne_iff_ne,beq_eq_false_iff_ne,bne_eq_false_iff_eq,Bool.not_not,Bool.and_eq_true,Bool.or_eq_true,Bool.and_eq_false_iff,Bool.or_eq_false_iff]at a3))<;>simp[a3]
  rotate_left
  ·exact Mt.is (by simp[gK,a1,a2,a3])
  refine ap (f8 _ _ _) ?_;simp;exact Mt.is (by simp[gK,a1,a2,a3])
 cases b<;>simp at be ⊢
 rotate_left
 ·rw[<-hr,if_pos be]
 rw[if_neg (by simp[be])]at hr;obtain⟨⟨⟨hn,lv⟩,-⟩,ho⟩:((inB m.n 1 5=true/\inB m.rounds 0 6=true)/\inB m.ins 1 8=true)/\inB m.outs 1 8=true:=by simpa[gK] using be
 rw[jQ]at hn lv ho;refine ap (CH m (by omega)) ?_;simp
 (refine Bz.split (fun a1=>?_) (fun a1=>?_)<;>(try simp only[decide_eq_true_eq,decide_eq_false_iff_not,Bool.not_eq_true',Bool.not_eq_false',beq_iff_eq,bne_iff_ne,beq_eq_false_iff_ne,bne_eq_false_iff_eq,Bool.not_not,Bool.and_eq_true,Bool.or_eq_true,Bool.and_eq_false_iff,Bool.or_eq_false_iff]at a1))<;>simp[a1]
 ·rw[<-hr,if_pos (by simp[a1])]
 rw[if_neg (by simp[a1])]at hr;have hq:=J5 hn lv a1;obtain⟨nn,hs⟩:=PS a1 hn.1;obtain⟨-,-,q1,q2,q3,q4⟩:=id hq;have uY:(nn:Int)=m.n:=hs.hn.symm;refine bj [1] [] (fun b:Bool=>[(32,.d (bD b))]) (fun _=>[]) (fun b=>b=decide (8192<lz m\/65536<m.steps.length)) ?_ (fun b be=>?_)
 ·simp;refine ap (Et m (by omega) (fun l hl=>by obtain⟨j,hj,rfl⟩:=List.getElem_of_mem hl;have:=q4 j hj;omega)) ?_;simp
  repeat' (first|(exact Mt.is (by first|(simp[-Bool.decide_or,-Bool.decide_and];done)|(simp[-Bool.decide_or,-Bool.decide_and];omega)|(simp_all;done)|(simp_all;omega)|(simp;grind)))|((refine Bz.split (fun a2=>?_) (fun a2=>?_)<;>(try simp only[decide_eq_true_eq,decide_eq_false_iff_not,Bool.not_eq_true',Bool.not_eq_false',beq_iff_eq,bne_iff_ne,beq_eq_false_iff_ne,bne_eq_false_iff_eq,Bool.not_not,Bool.and_eq_true,Bool.or_eq_true,Bool.and_eq_false_iff,Bool.or_eq_false_iff]at a2))<;>simp[a2]))
 cases b<;>simp at be ⊢
 rotate_left
 ·rw[<-hr,if_pos be]
 rw[if_neg (by omega)]at hr;refine ap (CI m nn hs (by omega) ho (by omega)) ?_;simp
 (refine Bz.split (fun a3=>?_) (fun a3=>?_)<;>(try simp only[decide_eq_true_eq,decide_eq_false_iff_not,Bool.not_eq_true',Bool.not_eq_false',beq_iff_eq,bne_iff_ne,beq_eq_false_iff_ne,bne_eq_false_iff_eq,Bool.not_not,Bool.and_eq_true,Bool.or_eq_true,Bool.and_eq_false_iff,Bool.or_eq_false_iff]at a3))<;>simp[a3]
 ·rw[<-hr,if_pos (by simp[a3])]
 rw[if_neg (by simp[a3])]at hr;refine am [1] [] (fun k:Nat=>[(3,.d (iD k))]) (fun _=>[]) (fun k=>m.steps.length - k) (fun k=>k<=m.steps.length/\ay k (eH m)=0) 0 ⟨by omega,rfl⟩ (by simp) (fun k hk=>?_);obtain⟨hk,hj⟩:=hk;simp
 (refine Bz.split (fun h=>?_) (fun h=>?_)<;>(try simp only[decide_eq_true_eq,decide_eq_false_iff_not,Bool.not_eq_true',Bool.not_eq_false',beq_iff_eq,bne_iff_ne,beq_eq_false_iff_ne,bne_eq_false_iff_eq,Bool.not_not,Bool.and_eq_true,Bool.or_eq_true,Bool.and_eq_false_iff,Bool.or_eq_false_iff]at h))<;>simp[h]
 ·refine aO 8 ?_;simp[h];refine bL (Ha m m.steps[k] hq) ?_;simp
  (refine Bz.split (fun h3=>?_) (fun h3=>?_)<;>(try simp only[decide_eq_true_eq,decide_eq_false_iff_not,Bool.not_eq_true',Bool.not_eq_false',beq_iff_eq,bne_iff_ne,beq_eq_false_iff_ne,bne_eq_false_iff_eq,Bool.not_not,Bool.and_eq_true,Bool.or_eq_true,Bool.and_eq_false_iff,Bool.or_eq_false_iff]at h3))<;>simp[h3]
  ·rw[<-hr,aF h hj (by simp[eH,h,h3])];simp[eH,h,h3]
  refine aO 17 ?_;simp;have hx:((k:Int) - 1).toNat=k - 1:=by omega
  (refine Bz.split (fun h5=>?_) (fun h5=>?_)<;>(try simp only[decide_eq_true_eq,decide_eq_false_iff_not,Bool.not_eq_true',Bool.not_eq_false',beq_iff_eq,bne_iff_ne,beq_eq_false_iff_ne,bne_eq_false_iff_eq,Bool.not_not,Bool.and_eq_true,Bool.or_eq_true,Bool.and_eq_false_iff,Bool.or_eq_false_iff]at h5))
  ·have dw:k - 1<m.steps.length:=by omega
   have hd:decide (0<k)=true:=by simpa using h5
   simp[hx,dw,hd,h]
   repeat refine vg ?_
   refine bL (Es m.steps[k - 1] m.steps[k]) ?_;simp[hd]
   (refine Bz.split (fun h6=>?_) (fun h6=>?_)<;>(try simp only[decide_eq_true_eq,decide_eq_false_iff_not,Bool.not_eq_true',Bool.not_eq_false',beq_iff_eq,bne_iff_ne,beq_eq_false_iff_ne,bne_eq_false_iff_eq,Bool.not_not,Bool.and_eq_true,Bool.or_eq_true,Bool.and_eq_false_iff,Bool.or_eq_false_iff]at h6))
   ·simp;rw[<-hr,aF h hj (by simp[eH,h,h3,dw,h5,h6])];simp[eH,h,h3,dw,h5,h6]
   simp;exact vg (ar.of (k+1) [] (by simp) ⟨⟨h,aY hj (by simp[eH,h,h3,dw];omega)⟩,by omega⟩)
  have hd:decide (0<k)=false:=by simpa using h5
  simp[hd];exact vg (ar.of (k+1) [] (by simp) ⟨⟨h,aY hj (by simp[eH,h,h3];omega)⟩,by omega⟩)
 have e:k=m.steps.length:=by omega
 subst e;rw[<-hr,hj]
theorem RU(p:Pb) (m:Mac) (hm:az p.a.states<=1099511627776):FC Tryz.prog 44 [eI p,eT m] (iD (bothE p m)):=by
 refine an Tryz.func44 rfl rfl rfl Tryz.call44 [] [7] rfl 1 (fun hb w0 G0=>?_);generalize hr:bothE p m=r;unfold bothE at hr;simp;refine ap (pj p hm) ?_;simp
 (refine Bz.split (fun h=>?_) (fun h=>?_)<;>(try simp only[decide_eq_true_eq,decide_eq_false_iff_not,Bool.not_eq_true',Bool.not_eq_false',beq_iff_eq,bne_iff_ne,beq_eq_false_iff_ne,bne_eq_false_iff_eq,Bool.not_not,Bool.and_eq_true,Bool.or_eq_true,Bool.and_eq_false_iff,Bool.or_eq_false_iff]at h))<;>simp[h]
 ·rw[<-hr,if_pos h]
 rw[if_neg (by omega)]at hr;refine ap (Eu m) ?_;simp
 (refine Bz.split (fun h2=>?_) (fun h2=>?_)<;>(try simp only[decide_eq_true_eq,decide_eq_false_iff_not,Bool.not_eq_true',Bool.not_eq_false',beq_iff_eq,bne_iff_ne,beq_eq_false_iff_ne,bne_eq_false_iff_eq,Bool.not_not,Bool.and_eq_true,Bool.or_eq_true,Bool.and_eq_false_iff,Bool.or_eq_false_iff]at h2))<;>simp[h2]
 ·rw[<-hr,if_pos h2]
 rw[if_neg (by omega)]at hr;refine bj [] [] (fun b:Bool=>[(45,.d (bD b))]) (fun _=>[]) (fun b=>b=decide (m.n≠p.t.n\/m.rounds≠p.rounds\/m.ins≠p.t.ins\/m.outs≠p.t.outs)) ?_ (fun b be=>?_)
 ·by_cases c1:m.n=p.t.n<;>by_cases c2:m.rounds=p.rounds<;>by_cases c3:m.ins=p.t.ins<;>by_cases c4:m.outs=p.t.outs<;>simp[c1,c2,c3,c4]<;>exact Mt.is (by simp[c1,c2,c3,c4])
 cases b<;>simp at be ⊢
 ·rw[<-hr,if_neg (by omega)]
 ·rw[<-hr,if_pos (by omega)]
theorem oL(p:Pb) (m:Mac) (hm:az p.a.states<=1099511627776):FC Tryz.prog 41 [eI p,eT m] (iD (bothE p m)):=by
 refine an Tryz.func41 rfl rfl rfl Tryz.call41 [] [7] rfl 1 (fun hb w0 G0=>?_);generalize hr:bothE p m=r;unfold bothE at hr;simp;refine ap (m5 p hm) ?_;simp
 (refine Bz.split (fun h=>?_) (fun h=>?_)<;>(try simp only[decide_eq_true_eq,decide_eq_false_iff_not,Bool.not_eq_true',Bool.not_eq_false',beq_iff_eq,bne_iff_ne,beq_eq_false_iff_ne,bne_eq_false_iff_eq,Bool.not_not,Bool.and_eq_true,Bool.or_eq_true,Bool.and_eq_false_iff,Bool.or_eq_false_iff]at h))<;>simp[h]
 ·rw[<-hr,if_pos h]
 rw[if_neg (by omega)]at hr;refine ap (mm m) ?_;simp
 (refine Bz.split (fun h2=>?_) (fun h2=>?_)<;>(try simp only[decide_eq_true_eq,decide_eq_false_iff_not,Bool.not_eq_true',Bool.not_eq_false',beq_iff_eq,bne_iff_ne,beq_eq_false_iff_ne,bne_eq_false_iff_eq,Bool.not_not,Bool.and_eq_true,Bool.or_eq_true,Bool.and_eq_false_iff,Bool.or_eq_false_iff]at h2))<;>simp[h2]
 ·rw[<-hr,if_pos h2]
 rw[if_neg (by omega)]at hr;refine bj [] [] (fun b:Bool=>[(45,.d (bD b))]) (fun _=>[]) (fun b=>b=decide (m.n≠p.t.n\/m.rounds≠p.rounds\/m.ins≠p.t.ins\/m.outs≠p.t.outs)) ?_ (fun b be=>?_)
 ·by_cases c1:m.n=p.t.n<;>by_cases c2:m.rounds=p.rounds<;>by_cases c3:m.ins=p.t.ins<;>by_cases c4:m.outs=p.t.outs<;>simp[c1,c2,c3,c4]<;>exact Mt.is (by simp[c1,c2,c3,c4])
 cases b<;>simp at be ⊢
 ·rw[<-hr,if_neg (by omega)]
 ·rw[<-hr,if_pos (by omega)]
abbrev gy(x:Py):D:=.agg [aT x.inp,bK x.word]
theorem Fl{α:Type} {p:α->Bool}:∀ (l:List α) (k:Nat) (h:k<l.length),p l[k]=true->(∀ j (_:j<k) (h:j<l.length),p l[j]=false)->l.find? p=some l[k]
 | [],k,h,_,_=>by simp at h
 | x :: l,0,h,hp,_=>by simp at hp;simp[hp]
 | x :: l,k+1,h,hp,hn=>by
  have h0:=hn 0 (by omega) (by simp);simp at h0 hp;rw[List.find?_cons,h0];simp;exact Fl l k (by simpa using h) hp (fun j h1 h2=>by have:=hn (j+1) (by omega) (by simpa using h2);rwa [List.getElem_cons_succ]at this)
theorem l6{n:Nat} {p:Nat->Bool} (h:firstIx n p=-1):∀ j,j<n->p j=false:=by
 rcases cn n p with ⟨_,h2⟩|⟨k,hk,e,_⟩
 ·exact h2
 ·omega
theorem zM{α:Type} (M:List α) (k:Nat) (x:α) (h:k<M.length):M.take k++x :: M.drop (k+1)=M.set k x:=by rw[List.set_eq_take_append_cons_drop,if_pos h]
theorem Qf(word:List Rd):FC Tryz.prog 100 [bK word] (iD (faultyS word)):=by
 refine an Tryz.func100 rfl rfl rfl Tryz.call100 [] [] rfl 2 (fun hb w0 G0=>?_);simp at hb;simp
 (refine Bz.split (fun h=>?_) (fun h=>?_)<;>(try simp only[decide_eq_true_eq,decide_eq_false_iff_not,Bool.not_eq_true',Bool.not_eq_false',beq_iff_eq,bne_iff_ne,beq_eq_false_iff_ne,bne_eq_false_iff_eq,Bool.not_not,Bool.and_eq_true,Bool.or_eq_true,Bool.and_eq_false_iff,Bool.or_eq_false_iff]at h))
 ·subst h;simp[faultyS]
 have h0:0<word.length:=List.length_pos_iff.2 h;have h1:word.length - 1<word.length:=by omega
 have e:((word.length:Int) - 1).toNat=word.length - 1:=by omega
 simp[h,e,h1]
 repeat refine vg ?_
 simp[faultyS,h,h1]
theorem uF(t:Tk) (inp:List Int):FC Tryz.prog 112 [zA t,aT inp] (iD (findE t inp)):=by
 refine an Tryz.func112 rfl rfl rfl Tryz.call112 [] [] rfl 2 (fun hb w0 G0=>?_);simp at hb;generalize hr:findE t inp=r;unfold findE at hr;simp;refine am [1,2] [] (fun k:Nat=>[(5,.d (iD k))]) (fun _=>[]) (fun k=>t.cases.length - k) (fun k=>k<=t.cases.length/\firstIx k (fun i=>eqV (t.cases.getD i default).inp inp)=-1) 0 ⟨by omega,rfl⟩ (by simp) (fun k hk=>?_);obtain⟨hk,hj⟩:=hk;simp
 (refine Bz.split (fun h=>?_) (fun h=>?_)<;>(try simp only[decide_eq_true_eq,decide_eq_false_iff_not,Bool.not_eq_true',Bool.not_eq_false',beq_iff_eq,bne_iff_ne,beq_eq_false_iff_ne,bne_eq_false_iff_eq,Bool.not_not,Bool.and_eq_true,Bool.or_eq_true,Bool.and_eq_false_iff,Bool.or_eq_false_iff]at h))<;>simp[h]
 ·refine ap (iy t.cases[k].inp inp) ?_;simp
  (refine Bz.split (fun h1=>?_) (fun h1=>?_)<;>(try simp only[decide_eq_true_eq,decide_eq_false_iff_not,Bool.not_eq_true',Bool.not_eq_false',beq_iff_eq,bne_iff_ne,beq_eq_false_iff_ne,bne_eq_false_iff_eq,Bool.not_not,Bool.and_eq_true,Bool.or_eq_true,Bool.and_eq_false_iff,Bool.or_eq_false_iff]at h1))<;>simp
  ·rw[<-hr];exact(cD _ k _ h (l6 hj) (by simp[h,eqV,(jZ _ _).1 h1])).symm
  ·exact vg (ar.of (k+1) [] (by simp) ⟨⟨h,kW hj (by simp[h,eqV];exact fun e=>h1 ((jZ _ _).2 e))⟩,by omega⟩)
 ·have e:k=t.cases.length:=by omega
  subst e;rw[<-hr,hj]
theorem MW(a:Adv) (s:Nat) (r:Rd) (hs:s<a.states.length):FC Tryz.prog 196 [gR a,iD s,mJ r] (iD (toS a s r)):=by
 refine an Tryz.func196 rfl rfl rfl Tryz.call196 [] [] rfl 3 (fun hb w0 G0=>?_);simp at hb;have fT:=hb.2 a.states[s] (by simp);generalize hr:toS a s r=q;unfold toS at hr;simp[hs]at hr;simp[hs];refine am [5,7] [] (fun k:Nat=>[(8,.d (iD k))]) (fun _=>[]) (fun k=>a.states[s].length - k) (fun k=>k<=a.states[s].length/\∀ j (h:j<k),∀ hj:j<a.states[s].length,a.states[s][j].r≠r) 0 ⟨by omega,fun j h=>by omega⟩ (by simp) (fun k hk=>?_);obtain⟨hk,hj⟩:=hk;simp
 (refine Bz.split (fun h=>?_) (fun h=>?_)<;>(try simp only[decide_eq_true_eq,decide_eq_false_iff_not,Bool.not_eq_true',Bool.not_eq_false',beq_iff_eq,bne_iff_ne,beq_eq_false_iff_ne,bne_eq_false_iff_eq,Bool.not_not,Bool.and_eq_true,Bool.or_eq_true,Bool.and_eq_false_iff,Bool.or_eq_false_iff]at h))<;>simp[h]
 ·refine aO 6 ?_;simp[h];refine Cy _ _ (decide (a.states[s][k].r=r)) rfl rfl (fun w=>eZ 9996 _ _ w) ?_;simp
  (refine Bz.split (fun h1=>?_) (fun h1=>?_)<;>(try simp only[decide_eq_true_eq,decide_eq_false_iff_not,Bool.not_eq_true',Bool.not_eq_false',beq_iff_eq,bne_iff_ne,beq_eq_false_iff_ne,bne_eq_false_iff_eq,Bool.not_not,Bool.and_eq_true,Bool.or_eq_true,Bool.and_eq_false_iff,Bool.or_eq_false_iff]at h1))
  ·simp[h];rw[<-hr,Fl _ k h (by simpa using h1.symm) (fun j h2 h3=>by simpa using fun e=>hj j h2 h3 e.symm)];rfl
  simp
  exact vg (ar.of (k+1) [] (by simp) ⟨⟨h,fun j h2 h3=>by
   by_cases e:j=k
   ·subst e;exact h1
   ·exact hj j (by omega) h3⟩,by omega⟩)
 rw[<-hr,List.find?_eq_none.2 (fun m hm=>by
  obtain⟨j,h2,rfl⟩:=List.getElem_of_mem hm
  simpa using fun e=>hj j (by omega) h2 e.symm)]
 rfl
theorem yI(word:List Rd) (k:Nat) (r:Rd) (hk:k<word.length) (hl:word.length<=1048576):FC Tryz.prog 114 [bK word,iD k,mJ r] (bK (word.set k r)):=by
 refine an Tryz.func114 rfl rfl rfl Tryz.call114 [] [] rfl 2 (fun hb w0 G0=>?_);simp at hb;simp
 repeat refine vg ?_
 have e:List.take word.length (List.map nQ word)=List.map nQ word:=List.take_of_length_le (by simp);rw[e];exact zM _ _ _ (by simpa using hk)
theorem AF(l:List Int) (k:Nat) (v:Int) (hk:k<l.length) (hl:l.length<=1048576):FC Tryz.prog 116 [aT l,iD k,iD v] (aT (l.set k v)):=by
 refine an Tryz.func116 rfl rfl rfl Tryz.call116 [] [] rfl 2 (fun hb w0 G0=>?_);simp at hb;simp
 repeat refine vg ?_
 have e:List.take l.length (List.map (fun x=>[iD x]) l)=List.map (fun x=>[iD x]) l:=List.take_of_length_le (by simp);rw[e];exact zM _ _ _ (by simpa using hk)
theorem AG(r o:Rd) (hr5:0<=o.g.n/\o.g.n<=5) (ho:∀ q,0<=o.g.hear q/\o.g.hear q<=9223372036854775807) (uU:∀ q,0<=r.g.hear q/\r.g.hear q<=9223372036854775807) (hf:0<=o.f/\o.f<=9223372036854775807) (o6:0<=r.f/\r.f<=9223372036854775807):FC Tryz.prog 115 [mJ r,mJ o] (bD (nJ r o)):=by
 refine an Tryz.func115 rfl rfl rfl Tryz.call115 [] [7] rfl 1 (fun hb w0 G0=>?_);generalize hr:nJ r o=q;unfold nJ at hr;simp;refine am [2,3] [] (fun k:Nat=>[(6,.d (iD k)),(5,.d (bD (anyLt k (fun q=>decide (o.g.hear q≠r.g.hear q)))))]) (fun _=>[]) (fun k=>5 - k) (fun k=>k<=o.g.n.toNat/\anyLt k (fun q=>!bF (o.g.hear q) (r.g.hear q))=false) 0 ⟨by omega,rfl⟩ (by simp[anyLt]) (fun k hk=>?_);obtain⟨hk,hj⟩:=hk;simp
 (refine Bz.split (fun h=>?_) (fun h=>?_)<;>(try simp only[decide_eq_true_eq,decide_eq_false_iff_not,Bool.not_eq_true',Bool.not_eq_false',beq_iff_eq,bne_iff_ne,beq_eq_false_iff_ne,bne_eq_false_iff_eq,Bool.not_not,Bool.and_eq_true,Bool.or_eq_true,Bool.and_eq_false_iff,Bool.or_eq_false_iff]at h))
 ·have OD:k<5:=by omega
  simp[h];refine aO 12 ?_;simp[OD];refine vg (vg (vg (vg (bL (pi _ _ (ho k) (uU k)) ?_))));simp
  (refine Bz.split (fun h1=>?_) (fun h1=>?_)<;>(try simp only[decide_eq_true_eq,decide_eq_false_iff_not,Bool.not_eq_true',Bool.not_eq_false',beq_iff_eq,bne_iff_ne,beq_eq_false_iff_ne,bne_eq_false_iff_eq,Bool.not_not,Bool.and_eq_true,Bool.or_eq_true,Bool.and_eq_false_iff,Bool.or_eq_false_iff]at h1))
  ·simp;rw[<-hr,aD _ k _ (by omega) (by simpa using h1)];simp
  simp;refine aO 15 ?_;simp;have Lu:anyLt (k+1) (fun q=>!bF (o.g.hear q) (r.g.hear q))=false:=aR hj (by simpa using h1);generalize hd:anyLt k (fun q=>!decide (o.g.hear q=r.g.hear q))=d;cases d
  ·simp[OD]
   repeat refine vg ?_
   exact ar.of (k+1) [] (by simp[anyLt,hd]) ⟨⟨by omega,Lu⟩,by omega⟩
  ·simp;exact vg (ar.of (k+1) [] (by simp[anyLt,hd]) ⟨⟨by omega,Lu⟩,by omega⟩)
 simp[h];have e:k=o.g.n.toNat:=by omega
 subst e;rw[hj]at hr;simp at hr;generalize hd:anyLt o.g.n.toNat (fun q=>!decide (o.g.hear q=r.g.hear q))=d at hr ⊢;cases d
 ·simp at hr ⊢;exact hr
 ·simp at hr ⊢;refine ap (pi _ _ o6 hf) ?_;simp[hr]
end Go.Proofs.YtiocdkdkndpgkaaGreat
