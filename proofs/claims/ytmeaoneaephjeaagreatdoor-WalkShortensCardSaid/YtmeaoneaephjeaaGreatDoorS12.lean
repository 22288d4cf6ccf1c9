/-
  A part of the proof: lemmas and contracts that the parts behind it use. Each one's conditions are its own premises.
-/
import Derived.WalkKit
import Derived.ProofKit
import Derived.OpenShut
import Derived.ShutString
import Derived.ChangeOld
import Derived.Below
import Derived.SizedLaws
import Derived.Deep.Slices
import Derived.Test.YtmeaoneaephjeaaGreatDoorRows
import Derived.Test.YtmeaoneaephjeaaGreatDoorTie
import Derived.Test.YtmeaoneaephjeaaGreatDoorCards
import Derived.LaidMore
import Derived.Stop.Joined
import Derived.SevenTiedAt
import Derived.Test.YtmeaoneaephjeaaGreatDoorS11
set_option maxRecDepth 100000
set_option maxHeartbeats 8000000
set_option linter.unusedVariables false
set_option linter.unusedSimpArgs false
namespace Go.Proofs.YtmeaoneaephjeaaGreatDoor
open Go.RowKit Go Go.Shelf
attribute [local go_sem] Oper.semAt_some
theorem MX{w w':World} {B:Nat} (h:w'.heap[B]?=w.heap[B]?) (o:Nat):w'.cell? ⟨B,o,none⟩=w.cell? ⟨B,o,none⟩:=by
 simp[World.cell?,h]
theorem Is(s:Sys) (hs:SysOk s) (hE:eS s<=256) (vc vs vt ve:Value) (w:World) (dC:IsSys w s vc vs vt ve) :
  Calls Tryz.prog 42 #[.agg (bZ s.prob vc vs s.n vt ve)] w fun r w'=>∃ u,r=.returned u/\aX w' u (choiceS s)/\Below w.heap.size w w':=by
 have HS:=aa dC;obtain⟨⟨qc,kc,rfl⟩,⟨qs,ks,rfl⟩,⟨qt,kt,rfl⟩,⟨qe,ke,rfl⟩⟩:=bM dC;have Ww:=aa (fun W (hb:Below w.heap.size w W)=>MG s hs hE _ _ _ _ W (HS.o.up hb));have HCO:=aa (fun (l:List Nat) (hl:∀ e∈l,e<eS s) vl W (hb:Below w.heap.size w W) (hv:aX W vl (l.map fun e:Nat=>(e:Int)))=>Kr s hs l hl vl _ _ _ _ W (HS.o.up hb) hv);have LK:am (chQ s 0 0=List.replicate (eS s) 0):=aa (Rc s);have Uo:am (∀ (k i:Nat) (hi:i<(memL (partsS s) k).length),chQ s k (i+1)=(chQ s k i).set ((memL (partsS s) k).getD i 0) (comB s (memL (partsS s) k))):=aa (fun k i hi=>Re hi);have HQN:=aa (Rf s);have X1:am (∀ k:Nat,(memL (partsS s) k).length=0->chQ s k 0=choiceS s):=aa (fun k h=>Rg h);have sd:=aa (UM s);have vI:=aa (mU s);have XA:=aa (dN s);have CG:am (∀ (k:Nat),∀ e∈memL (partsS s) k,e<eS s):=aa (fun k=>rq)
 have jf:am (∀ x∈choiceS s,bS x):=aa (fun x hx=>by
  obtain⟨e,_,rfl⟩:=List.mem_map.1 hx
  exact uQ s _ hs.outs.2.1)
 have X9:am (∀ l,bS (comB s l)):=aa (fun l=>uQ s l hs.outs.2.1);generalize choiceS s=CH at X1 sd jf ⊢;generalize chQ s=Q at LK Uo HQN X1 sd vI;have fX:=js (fun _=>0) (eS s) hE;have HZ0:am (fC (eS s) (fun _=>(0:Int)) 0=bD (List.replicate (eS s) 0)):=aa (by unfold fC bD;simp[List.map_const']);obtain⟨m,hm⟩:∃ m,eS s=m:=⟨_,rfl⟩;have Jc:s.ex.length=eS s:=rfl;rw[Jc,hm]at Ww HCO ⊢;rw[hm]at LK sd vI XA CG hE fX HZ0;clear dC hm Jc
 go_enter Tryz.func42,Tryz.ntmps42
 go_wp2_with fail
 refine aQ (fun W=>Below w.heap.size w W/\∃ c,W.heap[w.heap.size]?=some (.cells c 35)/\c=bZ s.prob (.slice qc s.prob.t.cases.length kc) (.slice qs s.prob.a.states.length ks) s.n (.slice qt s.tab.length kt) (.slice qe m ke)) ⟨by go_grown,_,ap _ _,rfl⟩ (fun W0 bd=>?_);obtain⟨aK,_,bK,rfl⟩:=bd;refine(Ww.o W0 aK).mono ?_;rintro r w1 ⟨u,rfl,hu,aM⟩;have HU:=aa hu;obtain⟨pu,cu,rfl,eu⟩:=ef hu;have bL:=aa (ae aK aM);have dP:=aa (af aM bK);have FO:=XA.o;rw[FO]at HU ⊢;clear hu eu aK aM bK Ww FO
 go_wp2_with fail
 clear fX;refine bF (fun W=>Below w1.heap.size w1 W/\W.heap[w1.heap.size]?=some (.cells (bD (Q 0 0)) 3)) ⟨by go_grown,by rw[LK.o,<-HZ0.o];exact ap _ _⟩ (fun W1 cO=>?_);obtain⟨jB,oJ⟩:=cO;obtain⟨g,hg⟩:∃ g,w1.heap.size=g:=⟨_,rfl⟩;rw[hg]at oJ ⊢;have gD:=aa jB;have nT:=aa oJ;have uT:=aa hg;have hwg:=bL.o.size;rw[hg]at hwg;have AO:=aC dP.o;rw[hg]at AO;clear jB oJ hg
 have IV:am (∀ (V:World) (l:List Int),V.heap[g]?=some (.cells (bD l) 3)->l.length=m->l=CH->aX V (.slice (some ⟨g,0,none⟩) m m) CH):=aa (fun V l h1 h2 h3=>by
  subst h3
  exact Fk h2 (by omega) h1 jf.o)
 go_loopw [5] (fun i wr=>∃ k:Nat,k<=m/\i=.int .i64 k/\Below w1.heap.size w1 wr/\wr.heap[g]?=some (.cells (bD (Q k 0)) 3)) (fun i _=>m - (intOf i).toNat)
 ·exact⟨0,by omega,rfl,gD.o,nT.o⟩
 ·
  obtain⟨k,hk,rfl,aA,nR⟩:=hrel;have aY:=aa aA;have AR:=aa nR;have dy:=ae bL.o aA;have eN:=aa dy;by_cases aB:k<m
  ·have K0:=aa (Ip _ (partsS s) k (by rw[XA.o];omega) wr (HU.o.up up_int aA));have Au:=aa (CG.o k);have vu:=aa (Uo.o k);have qo:=aa (HQN.o k);have X2:=aa (X1.o k);clear aA nR dy;generalize memL (partsS s) k=L at K0 Au vu qo X2
   go_wp2_with fail
   refine K0.o.mono ?_;rintro r w4 ⟨u4,rfl,mj,bO,JT⟩;have vD:=aa mj;obtain⟨pl,cl,rfl,el⟩:=ef mj;rw[List.length_map]at el vD ⊢
   have EL:am (∀ i (hi:i<L.length),∃ b o,pl=some ⟨b,o,none⟩/\w4.cell? ⟨b,o+i,none⟩=some (.int .i64 (L.getD i 0:Nat))):=aa (fun i hi=>by
    obtain⟨b,o,e1,h1⟩:=el i hi;refine⟨b,o,e1,?_⟩;rw[h1]
    simp[hi])
   have Jo:g<wr.heap.size:=(Array.getElem?_eq_some_iff.1 AR.o).1
   have HNG:am (∀ b o,pl=some ⟨b,o,none⟩->b≠g):=aa (fun b o hp=>by
    have:=JT b (by rw[hp];rfl)
    omega)
   clear JT Jo;have eV:=aa (ae aY.o bO);have TU:=aa (af bO AR.o);have yP:=aa (ae eN.o bO);obtain⟨ln,AS⟩:∃ ln,L.length=ln:=⟨_,rfl⟩;have qq:=aa AS;rw[AS]at vu qo X2 EL vD ⊢;obtain⟨_,_,_,_,hlm,_⟩:=mj.at;rw[List.length_map,AS]at hlm;clear mj el bO AS K0;by_cases yy:ln=0
   ·have HR:=aa (IV.o w4 _ TU.o (vI.o k 0) (X2.o yy));have hd:((ln:Int) == 0)=true:=by simp[yy]
    clear yy
    go_wp2_with fail
    go_ret
    exact⟨_,rfl,HR.o,yP.o⟩
   ·have hd:((ln:Int) == 0)=false:=beq_eq_false_iff_ne.2 (by omega);have tA:=ab (af eV.o dP.o)
    go_wp2_with fail
    refine(HCO.o L Au.o _ w4 yP.o vD.o).mono ?_;rintro r w5 ⟨rfl,dB⟩;generalize comB s L=cv at vu ⊢;have kL:=aa (ae eV.o dB);have HG5:=aa (af dB TU.o);have H45:=aa dB;clear tA dB
    go_wp2_with fail
    obtain⟨wrA,lN⟩:∃ x,x=wr:=⟨_,rfl⟩;subst lN;have hsz4:=H45.o.size
    go_loopw [8] (fun i wr=>∃ j:Nat,j<=ln/\i=.int .i64 j/\Below w1.heap.size w1 wr/\wr.heap[g]?=some (.cells (bD (Q k j)) 3)/\(∀ q,q<w4.heap.size->q≠g->wr.heap[q]?=w4.heap[q]?)) (fun i _=>ln - (intOf i).toNat)
    ·exact⟨0,by omega,rfl,kL.o,HG5.o,fun q hq _=>H45.o.block q hq⟩
    ·
     obtain⟨j,hj,rfl,FC,K7,TW⟩:=hrel;have K9:=aa FC;have AA:=aa K7;have HKJ:=aa TW;by_cases fH:j<ln
     ·obtain⟨b1,o1,rfl,c1⟩:=EL.o j fH;have HSJ:=aa (vu.o j fH);have hjl':j<L.length:=by rw[qq.o];exact fH
      have hLj:L.getD j 0<m:=by
       rw[az 0 hjl'];exact Au.o _ (List.getElem_mem hjl')
      generalize L.getD j 0=e at c1 HSJ hLj;have Df:=HNG.o b1 o1 rfl
      have hcw:wr.cell? ⟨b1,o1+j,none⟩=some (.int .i64 (e:Nat)):=by
       rw[<-c1];exact MX (TW b1 (fk c1) Df) (o1+j)
      have tG:=ab AA.o;have tF:=aH AA.o;have jG:(bD (Q k j))[e]?=some (.int .i64 ((Q k j).getD e 0)):=gi _ _ (by rw[vI.o];exact hLj)
      have HN7:am (∀ x,x=Value.int .i64 cv->Below w1.heap.size w1 (wr.setCell ⟨g,e,none⟩ x)/\(wr.setCell ⟨g,e,none⟩ x).heap[g]?=some (.cells (bD (Q k (j+1))) 3)/\(∀ q,q<w4.heap.size->q≠g->(wr.setCell ⟨g,e,none⟩ x).heap[q]?=w4.heap[q]?)):=aa (fun x hx=>by
       subst hx;refine⟨K9.o.setCell (p:=⟨g,e,none⟩) (Nat.le_of_eq uT.o) _,?_,fun q hq hqg=>?_⟩
       ·rw[aI AA.o,l6,HSJ.o]
       ·rw[Below.heap_setCell _ _ _ _ hqg]
        exact HKJ.o q hq hqg)
      clear FC K7 TW c1
      go_wp2_with fail
      go_roundw
      ·exact⟨j+1,by omega,by go_num,HN7.o _ rfl⟩
      ·simp[intOf];omega
     ·obtain rfl:j=ln:=by omega
      have Qs:am (wr.heap[g]?=some (.cells (bD (Q (k+1) 0)) 3)):=aa (by rw[<-qo.o];exact AA.o);clear FC K7 TW
      go_wp2_with fail
      go_roundw
      ·exact⟨k+1,by omega,by go_num,K9.o,Qs.o⟩
      ·simp[intOf];omega
  ·obtain rfl:k=m:=by omega
   have HR:=aa (IV.o wr _ nR (vI.o k 0) sd.o);clear aA nR dy
   go_wp2_with fail
   go_ret
   exact⟨_,rfl,HR.o,eN.o⟩
abbrev It(s:Sys) (vc vs vt ve:Value) (w:World):Prop:=∀ W,Below w.heap.size w W->Calls Tryz.prog 39 #[.agg (bZ s.prob vc vs s.n vt ve)] W fun r w'=>r=.returned (.int .i64 (readyE s))/\Below W.heap.size W w'
theorem Fr{s:Sys} (h:readyE s=0):SysOk s:=by
 refine ja ?_;unfold readyE at h;split at h
 ·rename_i h1;exact absurd h h1
 ·omega
theorem Ks(s:Sys) (hE:eS s<=256) (vc vs vt ve:Value) (w:World) (dC:IsSys w s vc vs vt ve) (hr:It s vc vs vt ve w) :
  Calls Tryz.prog 14 #[.agg (bZ s.prob vc vs s.n vt ve)] w fun r w'=>∃ u,r=.returned (.tuple #[u,.int .i64 (choiceR s).2])/\aX w' u (choiceR s).1/\Below w.heap.size w w':=by
 have HS:=aa dC;have FM:=aa hr;obtain⟨⟨qc,kc,rfl⟩,⟨qs,ks,rfl⟩,⟨qt,kt,rfl⟩,⟨qe,ke,rfl⟩⟩:=bM dC;have kX:=aa (fun (h:readyE s=0) W (hb:Below w.heap.size w W)=>Is s (Fr h) hE _ _ _ _ W (HS.o.up hb));have dd:am (readyE s≠0->choiceR s=([],readyE s)):=aa fun h=>by unfold choiceR;rw[if_pos h]
 have eJ:am (readyE s=0->choiceR s=(choiceS s,0)):=aa fun h=>by unfold choiceR;rw[if_neg (by omega)]
 generalize choiceR s=cr at dd eJ ⊢;unfold It at FM;generalize readyE s=re at dd eJ FM kX;clear dC hr;generalize s.prob.t.cases.length=nc,s.prob.a.states.length=ns,s.tab.length=nt,s.ex.length=ne at FM kX ⊢
 go_enter Tryz.func14,Tryz.ntmps14
 go_wp2_with fail
 refine aQ (fun W=>Below w.heap.size w W/\∃ c,W.heap[w.heap.size]?=some (.cells c 35)/\c=bZ s.prob (.slice qc nc kc) (.slice qs ns ks) s.n (.slice qt nt kt) (.slice qe ne ke)) ⟨by go_grown,_,ap _ _,rfl⟩ (fun W0 bd=>?_);obtain⟨aK,_,bK,rfl⟩:=bd;refine(FM.o W0 aK).mono ?_;rintro r w1 ⟨rfl,aM⟩;have bL:=aa (ae aK aM);have tA:=ab (af aM bK);clear aK bK aM FM;by_cases hz:re=0
 case neg=>
  have HV:=aa (dd.o hz);have Lm:(re != 0)=true:=by simpa using hz
  clear hz kX
  go_wp2_with fail
  go_ret2
  exact⟨_,by rw[HV.o];rfl,by rw[HV.o];exact mL _,bL.o⟩
 have HV:=aa (eJ.o hz);have tI:=aa (kX.o hz);subst hz;clear kX
 go_wp2_with fail
 refine(tI.o w1 bL.o).mono ?_;rintro r w2 ⟨u,rfl,hu,aZ⟩;have HU:=aa hu;have cX:=aa (ae bL.o aZ);clear hu aZ tA
 go_wp2_with fail
 go_ret2
 exact⟨_,by rw[HV.o];rfl,by rw[HV.o];exact HU.o,cX.o⟩
theorem Cq(g:Nat) (lb:Array Value) (eg:∀ args w,(callFunc g args).run Tryz.prog w=.ok (.enter g args) w) (v:Value) (l:List Lk) (p:Nat->Bool) (w:World) (hv:bJ w v l)
  (hp:∀ i (hi:i<l.length) W,Below w.heap.size w W->Calls Tryz.prog g (#[.agg #[.int .i64 l[i].x,.int .i64 l[i].p]]++lb) W fun e W'=>e=.returned (.bool (p i))/\Below W.heap.size W W') :
  Calls Tryz.prog 62 #[v,.func (.func g) #[] lb] w fun e w'=>e=.returned (.int .i64 (firstIx l.length p))/\Below w.heap.size w w':=by
 obtain⟨pa,ca,rfl,la1,la2,ea⟩:=hv.at;clear hv;have EA:=aa ea;clear ea;have HP:=aa hp;clear hp
 go_enter Tryz.func62,Tryz.ntmps62
 go_wp2
 go_loopw [8] (fun i wr=>Below w.heap.size w wr/\∃ k:Nat,k<=l.length/\i=.int .i64 k/\∀ j,j<k->p j=false) (fun i _=>l.length - (intOf i).toNat)
 ·exact⟨Below.refl _ _,0,by omega,rfl,by simp⟩
 ·
  obtain⟨aA,k,hk,rfl,aU⟩:=hrel;have H:=aa aU;clear aU;by_cases aB:k<l.length
  ·obtain⟨b1,o1,rfl,h1,h2⟩:=EA.o k aB;have c0:=ak aA h1.1;have c1:=ak aA h2.1;have dO:=HP.o k aB wr aA;clear h1 h2;generalize l[k].x=yx at c0 dO;generalize l[k].p=yp at c1 dO;cases l7:p k with
   | true=>
    rw[l7]at dO;have bQ:=aa dO;clear dO;have y8:=aa l7;clear l7
    go_wp2_with fail
    refine bQ.o.mono ?_;rintro e w1 ⟨rfl,aM⟩
    go_wp2_with fail
    go_ret
    exact⟨aG (dq _ _ _ aB H.o y8.o).symm,ae aA aM⟩
   | false=>
    rw[l7]at dO;have bQ:=aa dO;clear dO;have y8:=aa l7;clear l7
    go_wp2_with fail
    refine bQ.o.mono ?_;rintro e w1 ⟨rfl,aM⟩
    go_wp2_with fail
    go_roundw
    ·exact⟨ae aA aM,k+1,by omega,by go_num,aV H.o y8.o⟩
    ·simp[intOf];omega
  ·go_wp2
   go_ret
   exact⟨aG (by rw[dA];intro j hj;exact H.o j (by omega)),aA⟩
theorem yq(g:Nat) (lb:Array Value) (eg:∀ args w,(callFunc g args).run Tryz.prog w=.ok (.enter g args) w) (v:Value) (l:List Lk) (p:Nat->Bool) (w:World) (hv:bJ w v l)
  (hp:∀ i (hi:i<l.length) W,Below w.heap.size w W->Calls Tryz.prog g (#[.agg #[.int .i64 l[i].x,.int .i64 l[i].p]]++lb) W fun e W'=>e=.returned (.bool (p i))/\Below W.heap.size W W') :
  Calls Tryz.prog 29 #[v,.func (.func g) #[] lb] w fun e w'=>e=.returned (.bool (anyLt l.length p))/\Below w.heap.size w w':=by
 have hc:=Cq g lb eg v l p w hv hp;have HA:=aa (lV l.length p);generalize firstIx l.length p=r at hc HA;have HC:=aa hc;clear hc hp
 go_enter Tryz.func29,Tryz.ntmps29
 go_wp2_with fail
 refine HC.o.mono ?_;rintro e w1 ⟨rfl,aM⟩
 go_wp2_with fail
 go_ret
 exact⟨aS HA.o,aM⟩
theorem Kt(yx yp xx xp:Int) (B:Nat) (w:World) (hB:w.heap[B]?=some (.cells #[.int .i64 xx,.int .i64 xp] 75)) :
  Calls Tryz.prog 30 #[.agg #[.int .i64 yx,.int .i64 yp],.pointer (some ⟨B,0,none⟩)] w fun r w'=>r=.returned (.bool (xx == yx))/\Below w.heap.size w w':=by
 have tb:=fun o=>ab (aq o hB) 0
 have HG:am (∀ o:Obj,Below w.heap.size w (w.alloc o)):=aa fun o=>(Below.refl _ _).alloc (Nat.le_refl _) o
 simp at tb;clear hB
 go_enter Tryz.func30,Tryz.ntmps30
 go_wp2_with fail
 go_ret
 exact⟨rfl,HG.o _⟩
theorem KV{s:Sys} (h:readyE s=0) {l:List Lk} (hl:l=[]\/cW s l=false):certE s ⟨1,l,0,0,0⟩≠0:=by
 rw[Hj h];rcases hl with rfl|hl
 ·have WS:walkE s []=16:=rfl;rw[WS,if_pos (by decide)];decide
 ·by_cases h1:walkE s l=0
  ·rw[if_neg (by omega),hl];decide
  ·rw[if_pos h1];exact h1
structure ShtP (s:Sys) (ls d:List Lk):Prop where
 c0:certE s ⟨1,d,0,0,0⟩=0
 walk:walkE s d=0
 len:d.length<=ls.length
 pos:0<d.length
 vis:∀ i (hi:i<d.length),(anyLt ls.length fun k=>d[i].x == (ls.getD k default).x)=true
 last:certE s ⟨1,d.take (d.length - 1),0,0,0⟩≠0
 first:1<d.length->certE s ⟨1,⟨(d.getD 1 default).x,-1⟩ :: d.drop 2,0,0,0⟩≠0
 again:shortR s ⟨1,d,0,0,0⟩=(d,0)
theorem Ku{s:Sys} (h:readyE s=0) {ls:List Lk} (hw:walkE s ls=0) (hc:cW s ls=true):∃ d,shortR s ⟨1,ls,0,0,0⟩=(d,0)/\ShtP s ls d:=by
 have hs:=Hh ls.length ls (Nat.le_refl _) hw hc;refine⟨gB s ls,by unfold shortR;rw[if_neg (by rw[KF h hw hc];omega)],?_⟩;have hd:gB s ls=shortN s ls.length ls:=rfl;rw[hd];generalize shortN s ls.length ls=d at hs;have hp:=(A5 hs.walk).1;have QK:=KF h hs.walk hs.contra;have hn:=On hs.none;refine⟨QK,hs.walk,hs.len,hp,fun i hi=>?_,?_,fun h1=>?_,?_⟩
 ·have h1:=(A5 hs.walk).2 _ (List.getElem_mem hi);have h2:=hs.vis d[i].x.toNat (List.mem_map.2 ⟨d[i],List.getElem_mem hi,rfl⟩);obtain⟨y,hy,hx⟩:=List.mem_map.1 h2;have h3:=(A5 hw).2 y hy;obtain⟨k,hk,rfl⟩:=List.getElem_of_mem hy;refine dV _ k _ hk ?_;rw[az _ hk,beq_iff_eq];omega
 ·refine KV h ?_;rw[<-List.dropLast_eq_take];by_cases h0:0<d.dropLast.length
  ·exact .inr (hn _ (by unfold dz;simp) h0)
  ·exact .inl (List.eq_nil_of_length_eq_zero (by omega))
 ·refine KV h (.inr (hn _ ?_ (by simp)));unfold dz;rw[if_pos h1];simp
 ·unfold shortR;rw[if_neg (by rw[QK];omega)]
  show (gB s d,(0:Int))=(d,0)
  rw[BT hs.none]
end Go.Proofs.YtmeaoneaephjeaaGreatDoor
namespace Go.Proofs.YtmeaoneaephjeaaGreatDoor
open Go.ChangeShapes Go.WideShapes Go.ChangeAt Go.RowKit Go Go.Deep
section
variable {H : Type} {enc : TypeId × Value → H} {w : World}
abbrev mY(enc:TypeId × Value->H) (w:World) (fuel:Nat) (t:TypeId) (cs:List Value) (x:DataW H × List MemPlace):Prop:=DataW.trod enc Tryz.prog w 0 (fun _=>true) true fuel t cs=some x
def yr(t:TypeId) (d:DataW H):Prop:=∀ n∈d.weights Tryz.prog t,n<=reachBytes
theorem Iu{n:Int} (h:(Lit.int .i64 n).wf=true):bS n:=by
 simp[Lit.wf,IntKind.min,IntKind.max,IntKind.bits,IntKind.signed]at h;unfold bS;omega
theorem Cr{ts:List TypeId} {ds:List (DataW H)} {j:Nat} {t:TypeId} {d:DataW H} (ht:ts[j]?=some t) (hd:ds[j]?=some d) {n:Nat} (hn:n∈d.weights Tryz.prog t):n∈DataW.weightsEach Tryz.prog ts ds:=DataW.weights_mem_each ht hd n hn
theorem Ee{e:TypeId} {ds:List (DataW H)} {d:DataW H} (hd:d∈ds) {n:Nat} (hn:n∈d.weights Tryz.prog e):n∈DataW.weightsAll Tryz.prog e ds:=by
 induction ds with
 | nil=>cases hd
 | cons x r ih=>
  simp only[DataW.weightsAll,List.mem_append];rcases List.mem_cons.1 hd with rfl|h
  ·exact .inl hn
  ·exact .inr (ih h)
theorem rm{fs:Array Field} {t:TypeId} {fuel:Nat} {cs:List Value} {x:DataW H × List MemPlace} (ht:Tryz.prog.underlying t=some (.struct fs)) (h:mY enc w fuel t cs x) (hz:yr t x.1) :
  cs.length=Tryz.prog.cellsOf t/\∃ n,∀ (i:Nat) (f:Field),fs[i]?=some f->∃ y,mY enc w n f.type ((cs.drop f.offset).take (Tryz.prog.cellsOf f.type)) y/\yr f.type y.1:=by
 obtain⟨xs,n,_,rfl,hl,hx,hf⟩:=DataW.trod_struct ht h;refine⟨hl,n,fun i f hi=>?_⟩;have aB:i<xs.length:=by have:=(Array.getElem?_eq_some_iff.1 hi).1;omega
 refine⟨xs[i],(hf i f hi).trans (List.getElem?_eq_getElem aB),fun m hm=>hz m ?_⟩;simp only[DataW.weights,ht];exact Cr (j:=i) (by simp[hi]) (by simp[aB]) hm
def qg(enc:TypeId × Value->H) (w:World) (t:TypeId) (k:Nat):Prop:=∀ fuel cs x,mY enc w fuel t cs x->cs.length=k/\∀ j,j<k->∃ n,cs[j]?=some (.int .i64 n)/\bS n
theorem wB{t:TypeId} (ht:Tryz.prog.underlying t=some (.int .i64)):qg enc w t 1:=fun fuel cs x h=>by
 obtain⟨n,rfl,_,hw⟩:=DataW.trod_int ht h;refine⟨rfl,fun j hj=>⟨n,?_,Iu hw⟩⟩;obtain rfl:j=0:=by omega
 rfl
theorem Iv{t e:TypeId} {m:Nat} (ht:Tryz.prog.underlying t=some (.array m e)) (he:Tryz.prog.underlying e=some (.int .i64)) (h1:Tryz.prog.cellsOf e=1) (hk:Tryz.prog.cellsOf t=m):qg enc w t m:=fun fuel cs x h=>by
 obtain⟨xs,n,_,_,hl,hx,hf⟩:=DataW.trod_array ht h;refine⟨by rw[hl,hk],fun j hj=>?_⟩;have h2:=hf j hj;rw[h1,Nat.mul_one,List.getElem?_eq_getElem (by omega)]at h2;obtain⟨v,e1,_,hw⟩:=DataW.trod_int he h2;refine⟨v,?_,Iu hw⟩;have h3:((cs.drop j).take 1)[0]?=cs[j]?:=by simp
 rw[<-h3,e1];rfl
theorem wC{t:TypeId} {f0 f1:Field} {k0 k1:Nat} (ht:Tryz.prog.underlying t=some (.struct #[f0,f1])) (o0:f0.offset=0) (o1:f1.offset=k0) (c0:Tryz.prog.cellsOf f0.type=k0) (c1:Tryz.prog.cellsOf f1.type=k1) (ct:Tryz.prog.cellsOf t=k0+k1)
  (h0:qg enc w f0.type k0) (h1:qg enc w f1.type k1):qg enc w t (k0+k1):=fun fuel cs x h=>by
 obtain⟨xs,n,_,_,hl,hx,hf⟩:=DataW.trod_struct ht h;refine⟨by rw[hl,ct],fun j hj=>?_⟩;have g0:=hf 0 f0 rfl;have g1:=hf 1 f1 rfl;have ed:xs.length=2:=hx;rw[o0,c0,List.getElem?_eq_getElem (by omega)]at g0;rw[o1,c1,List.getElem?_eq_getElem (by omega)]at g1;by_cases nU:j<k0
 ·obtain⟨v,e,hv⟩:=(h0 _ _ _ g0).2 j nU;refine⟨v,?_,hv⟩;rw[<-e];simp[List.getElem?_take_of_lt nU]
 ·obtain⟨v,e,hv⟩:=(h1 _ _ _ g1).2 (j - k0) (by omega);refine⟨v,?_,hv⟩;rw[<-e,List.getElem?_take_of_lt (by omega),List.getElem?_drop,show k0+(j - k0)=j by omega]
def Cu{α:Type} (enc:TypeId × Value->H) (w:World) (t:TypeId) (k:Nat) (R:World->Nat->Nat->α->Prop):Prop:=
 ∀ fuel cs x b off,mY enc w fuel t cs x->yr t x.1->(∀ j,j<k->w.cell? ⟨b,off+j,none⟩=cs[j]?)->∃ a:α,R w b off a
theorem opn_int:Cu enc w 3 1 gd:=fun fuel cs x b off h _ hc=>by
 obtain⟨n,rfl,_,hw⟩:=DataW.trod_int Tryz.underlying3 h;exact⟨n,(hc 0 (by omega)).trans rfl,Iu hw⟩
theorem wT{a:Addr} {j:Nat} (h:a.spot=none):a.add j=⟨a.block,a.off+j,none⟩:=by
 obtain⟨b,o,s⟩:=a;simp at h;subst h;unfold Addr.add;split<;>simp_all
theorem Ef{α:Type} {t e:TypeId} {k:Nat} {R:World->Nat->Nat->α->Prop} (hu:Tryz.prog.underlying t=some (.slice e)) (hk:Tryz.prog.cellsOf e=k) (eX:0<k) (gM:8<=Tryz.prog.bytesOf e) (he:Cu enc w e k R)
  {fuel:Nat} {cs:List Value} {x:DataW H × List MemPlace} (h:mY enc w fuel t cs x) (hz:yr t x.1):∃ v l,cs=[v]/\fe k R w v l:=by
 rcases open_slice hu h with ⟨rfl,_⟩|⟨a,len,cap,m,n,D,Pl,rfl,_,hl,hm,Dm,rfl,hi⟩
 ·exact⟨_,[],rfl,none,0,rfl,⟨by simp,by omega,fun _=>rfl⟩,by simp,fun i x hx=>by simp at hx⟩
 ·have sW:m=cap:=by rw[Dm];rfl
  subst sW
  have hw:(((List.range len).map D).length+((List.range (m - len)).map fun j=>D (len+j)).length) * Tryz.prog.bytesOf e<=reachBytes:=by
   refine hz _ ?_;simp only[DataW.weights,hu];exact List.mem_cons_self
  have yR:m * 8<=reachBytes:=by
   refine Nat.le_trans (Nat.mul_le_mul_left m gM) ?_;refine Nat.le_trans ?_ hw;rw[List.length_map,List.length_map,List.length_range,List.length_range];exact Nat.mul_le_mul_right _ (by omega)
  have hw3:m<=17592186044416:=by unfold reachBytes at yR;omega
  have hsp0:0<len->a.spot=none:=fun h0=>by
   obtain⟨cs',hc,ht⟩:=hi 0 (by omega);rw[hk]at hc;obtain⟨_,bU,CD⟩:=World.cells?_some hc;have h1:=CD 0 eX;rw[List.getElem?_eq_getElem (by omega)]at h1;have:=World.cell?_spot h1;simpa[Addr.add] using this
  have key:∀ i:Fin len,∃ y:α,a.spot=none/\R w a.block (a.off+i.1 * k) y:=fun i=>by
   obtain⟨cs',hc,ht⟩:=hi i.1 (by have:=i.2;omega);rw[hk]at hc;obtain⟨_,bU,CD⟩:=World.cells?_some hc;have hsp:=hsp0 (by have:=i.2;omega)
   have cj:yr e (D i.1):=fun q hq=>hz q (by
    simp only[DataW.weights,hu];refine List.mem_cons_of_mem _ (List.mem_append_left _ (Ee (d:=D i.1) ?_ hq))
    exact List.mem_map.2 ⟨i.1,List.mem_range.2 i.2,rfl⟩)
   obtain⟨y,hy⟩:=he _ _ _ a.block (a.off+i.1 * k) ht cj (fun j hj=>by
    rw[<-CD j hj,wT hsp,wT rfl])
   exact⟨y,hsp,hy⟩
  refine⟨_,List.ofFn fun i=>Classical.choose (key i),rfl,some a,m,by rw[List.length_ofFn],⟨by rw[List.length_ofFn];omega,by omega,fun h=>by cases h⟩,by rw[List.length_ofFn];omega,fun i y hy=>?_⟩;have gX:i<len:=by have:=(List.getElem?_eq_some_iff.1 hy).1;simpa using this
  have e1:y=Classical.choose (key ⟨i,gX⟩):=by
   rw[List.getElem?_ofFn]at hy;simp[gX]at hy;exact hy.symm
  obtain⟨hs,hr⟩:=Classical.choose_spec (key ⟨i,gX⟩);refine⟨a.block,a.off,?_,by rw[e1];exact hr⟩;obtain⟨b,o,s⟩:=a;simp at hs;subst hs;rfl
theorem yt{α:Type} {t e:TypeId} {k:Nat} {R:World->Nat->Nat->α->Prop} (hu:Tryz.prog.underlying t=some (.slice e)) (hk:Tryz.prog.cellsOf e=k) (eX:0<k) (gM:8<=Tryz.prog.bytesOf e) (he:Cu enc w e k R):Cu enc w t 1 (mC k R):=fun fuel cs x b off h hz hc=>by
 obtain⟨v,l,rfl,hl⟩:=Ef hu hk eX gM he h hz;exact⟨l,v,(hc 0 (by omega)).trans rfl,hl⟩
theorem Iw{cs:List Value} {j:Nat} (h:j<cs.length):(cs.drop j).take 1=[cs[j]]:=by
 rw[List.drop_eq_getElem_cons h];rfl
theorem Tryz.cInt:Tryz.prog.cellsOf 3=1:=by kernel_rfl
theorem Tryz.cInts:Tryz.prog.cellsOf 38=1:=by kernel_rfl
theorem Tryz.cVecs:Tryz.prog.cellsOf 56=1:=by kernel_rfl
theorem Tryz.cCase:Tryz.prog.cellsOf 135=3:=by kernel_rfl
theorem Tryz.cGraph:Tryz.prog.cellsOf 139=6:=by kernel_rfl
theorem Tryz.cRound:Tryz.prog.cellsOf 141=7:=by kernel_rfl
theorem Tryz.cMove:Tryz.prog.cellsOf 143=8:=by kernel_rfl
theorem Tryz.cMoves:Tryz.prog.cellsOf 136=1:=by kernel_rfl
theorem opn_ints:Cu enc w 38 1 xA:=yt Tryz.underlying38 Tryz.cInt (by omega) (of_decide_eq_true (by kernel_rfl)) opn_int
theorem opn_vecs:Cu enc w 56 1 ux:=yt Tryz.underlying56 Tryz.cInts (by omega) (of_decide_eq_true (by kernel_rfl)) opn_ints
theorem opn_case:Cu enc w 135 3 GN:=fun fuel cs x b off h hz hc=>by
 obtain⟨hl,n,hf⟩:=rm Tryz.underlying135 h hz;rw[Tryz.cCase]at hl;obtain⟨y0,r0,z0⟩:=hf 0 _ rfl;obtain⟨y1,r1,z1⟩:=hf 1 _ rfl;obtain⟨y2,r2,z2⟩:=hf 2 _ rfl;change mY enc w n 38 ((cs.drop 0).take (Tryz.prog.cellsOf 38)) y0 at r0;change mY enc w n 56 ((cs.drop 1).take (Tryz.prog.cellsOf 56)) y1 at r1;change mY enc w n 56 ((cs.drop 2).take (Tryz.prog.cellsOf 56)) y2 at r2;rw[Tryz.cInts,Iw (by omega)]at r0;rw[Tryz.cVecs,Iw (by omega)]at r1 r2
 obtain⟨a0,h0⟩:=opn_ints _ _ _ b off r0 z0 (fun j hj=>by obtain rfl:j=0:=by omega
                                                         rw[hc 0 (by omega),List.getElem?_eq_getElem (by omega)];rfl)
 obtain⟨a1,h1⟩:=opn_vecs _ _ _ b (off+1) r1 z1 (fun j hj=>by obtain rfl:j=0:=by omega
                                                             rw[show off+1+0=off+1 by omega,hc 1 (by omega),List.getElem?_eq_getElem (by omega)];rfl)
 obtain⟨a2,h2⟩:=opn_vecs _ _ _ b (off+2) r2 z2 (fun j hj=>by obtain rfl:j=0:=by omega
                                                             rw[show off+2+0=off+2 by omega,hc 2 (by omega),List.getElem?_eq_getElem (by omega)];rfl)
 exact⟨⟨a0,a1,a2⟩,h0,h1,h2⟩
theorem allInt_graph:qg enc w 139 6:=wC (k0:=1) (k1:=5) Tryz.underlying139 rfl rfl Tryz.cInt (by kernel_rfl) Tryz.cGraph (wB Tryz.underlying3) (Iv Tryz.underlying137 Tryz.underlying3 Tryz.cInt (by kernel_rfl))
theorem allInt_round:qg enc w 141 7:=wC (k0:=6) (k1:=1) Tryz.underlying141 rfl rfl Tryz.cGraph Tryz.cInt Tryz.cRound allInt_graph (wB Tryz.underlying3)
theorem allInt_move:qg enc w 143 8:=wC (k0:=7) (k1:=1) Tryz.underlying143 rfl rfl Tryz.cRound Tryz.cInt Tryz.cMove allInt_round (wB Tryz.underlying3)
theorem opn_move:Cu enc w 143 8 BH:=fun fuel cs x b off h _ hc=>by
 have ha:=(allInt_move _ _ _ h).2;obtain⟨n0,e0,i0⟩:=ha 0 (by omega);obtain⟨n1,e1,i1⟩:=ha 1 (by omega);obtain⟨n2,e2,i2⟩:=ha 2 (by omega);obtain⟨n3,e3,i3⟩:=ha 3 (by omega);obtain⟨n4,e4,i4⟩:=ha 4 (by omega);obtain⟨n5,e5,i5⟩:=ha 5 (by omega);obtain⟨n6,e6,i6⟩:=ha 6 (by omega);obtain⟨n7,e7,i7⟩:=ha 7 (by omega);exact⟨⟨⟨⟨n0,n1,n2,n3,n4,n5⟩,n6⟩,n7⟩,⟨⟨(hc 0 (by omega)).trans e0,i0⟩,⟨(hc 1 (by omega)).trans e1,i1⟩,⟨(hc 2 (by omega)).trans e2,i2⟩,⟨(hc 3 (by omega)).trans e3,i3⟩,⟨(hc 4 (by omega)).trans e4,i4⟩,⟨(hc 5 (by omega)).trans e5,i5⟩,⟨(hc 6 (by omega)).trans e6,i6⟩⟩,(hc 7 (by omega)).trans e7,i7⟩
theorem opn_moves:Cu enc w 136 1 Dz:=yt Tryz.underlying136 Tryz.cMove (by omega) (of_decide_eq_true (by kernel_rfl)) opn_move
theorem Yj{l:List Value} (h:l.length=7):∃ c0 c1 c2 c3 c4 c5 c6,l=[c0,c1,c2,c3,c4,c5,c6]:=by
 match l,h with
 | [c0,c1,c2,c3,c4,c5,c6],_=>exact⟨c0,c1,c2,c3,c4,c5,c6,rfl⟩
theorem Tryz.cProb:Tryz.prog.cellsOf 29=7:=by kernel_rfl
theorem Tryz.cTask:Tryz.prog.cellsOf 24=4:=by kernel_rfl
theorem Tryz.cAdv:Tryz.prog.cellsOf 27=2:=by kernel_rfl
theorem Tryz.cCases:Tryz.prog.cellsOf 22=1:=by kernel_rfl
theorem Tryz.cStates:Tryz.prog.cellsOf 25=1:=by kernel_rfl
theorem PG{fuel:Nat} {c0 c1 c2 c3:Value} {x:DataW H × List MemPlace} (h:mY enc w fuel 24 [c0,c1,c2,c3] x) (hz:yr 24 x.1) :
  ∃ (t:Tk),c0=.int .i64 t.n/\c1=.int .i64 t.ins/\c2=.int .i64 t.outs/\bN w c3 t.cases:=by
 obtain⟨_,n,hf⟩:=rm Tryz.underlying24 h hz;obtain⟨u0,s0,_⟩:=hf 0 _ rfl;obtain⟨u1,s1,_⟩:=hf 1 _ rfl;obtain⟨u2,s2,_⟩:=hf 2 _ rfl;obtain⟨u3,s3,q3⟩:=hf 3 _ rfl;change mY enc w n 3 (([c0,c1,c2,c3].drop 0).take (Tryz.prog.cellsOf 3)) u0 at s0;change mY enc w n 3 (([c0,c1,c2,c3].drop 1).take (Tryz.prog.cellsOf 3)) u1 at s1;change mY enc w n 3 (([c0,c1,c2,c3].drop 2).take (Tryz.prog.cellsOf 3)) u2 at s2;change mY enc w n 22 (([c0,c1,c2,c3].drop 3).take (Tryz.prog.cellsOf 22)) u3 at s3;change yr 22 u3.1 at q3;rw[Tryz.cInt]at s0 s1 s2;rw[Tryz.cCases]at s3;obtain⟨m0,e0,_,_⟩:=DataW.trod_int Tryz.underlying3 s0;obtain⟨m1,e1,_,_⟩:=DataW.trod_int Tryz.underlying3 s1;obtain⟨m2,e2,_,_⟩:=DataW.trod_int Tryz.underlying3 s2;obtain⟨vc,cases,e3,g3⟩:=Ef Tryz.underlying22 Tryz.cCase (by omega) (of_decide_eq_true (by kernel_rfl)) opn_case s3 q3;simp at e0 e1 e2 e3;subst e3;exact⟨⟨m0,m1,m2,cases⟩,e0,e1,e2,g3⟩
theorem R5{fuel:Nat} {c0 c1:Value} {x:DataW H × List MemPlace} (h:mY enc w fuel 27 [c0,c1] x) (hz:yr 27 x.1) :
  ∃ (a:Adv),c0=.int .i64 a.n/\bz w c1 a.states:=by
 obtain⟨_,n,hf⟩:=rm Tryz.underlying27 h hz;obtain⟨u0,s0,_⟩:=hf 0 _ rfl;obtain⟨u1,s1,q1⟩:=hf 1 _ rfl;change mY enc w n 3 (([c0,c1].drop 0).take (Tryz.prog.cellsOf 3)) u0 at s0;change mY enc w n 25 (([c0,c1].drop 1).take (Tryz.prog.cellsOf 25)) u1 at s1;change yr 25 u1.1 at q1;rw[Tryz.cInt]at s0;rw[Tryz.cStates]at s1;obtain⟨m0,e0,_,_⟩:=DataW.trod_int Tryz.underlying3 s0;obtain⟨vs,states,e1,g1⟩:=Ef Tryz.underlying25 Tryz.cMoves (by omega) (of_decide_eq_true (by kernel_rfl)) opn_moves s1 q1;simp at e0 e1;subst e1;exact⟨⟨m0,states⟩,e0,g1⟩
theorem PH{fuel:Nat} {cs:List Value} {x:DataW H × List MemPlace} (h:mY enc w fuel 29 cs x) (hz:yr 29 x.1) :
  ∃ (p:Pb) (vc vs:Value),cs=[.int .i64 p.t.n,.int .i64 p.t.ins,.int .i64 p.t.outs,vc,.int .i64 p.a.n,vs,.int .i64 p.rounds]/\bN w vc p.t.cases/\bz w vs p.a.states:=by
 obtain⟨hl,n,hf⟩:=rm Tryz.underlying29 h hz;rw[Tryz.cProb]at hl;obtain⟨c0,c1,c2,c3,c4,c5,c6,rfl⟩:=Yj hl;obtain⟨y0,r0,z0⟩:=hf 0 _ rfl;obtain⟨y1,r1,z1⟩:=hf 1 _ rfl;obtain⟨y2,r2,z2⟩:=hf 2 _ rfl;change mY enc w n 24 (([c0,c1,c2,c3,c4,c5,c6].drop 0).take (Tryz.prog.cellsOf 24)) y0 at r0;change mY enc w n 27 (([c0,c1,c2,c3,c4,c5,c6].drop 4).take (Tryz.prog.cellsOf 27)) y1 at r1;change mY enc w n 3 (([c0,c1,c2,c3,c4,c5,c6].drop 6).take (Tryz.prog.cellsOf 3)) y2 at r2;rw[Tryz.cTask]at r0;rw[Tryz.cAdv]at r1;rw[Tryz.cInt]at r2;obtain⟨t,rfl,rfl,rfl,g0⟩:=PG r0 z0;obtain⟨a,rfl,g1⟩:=R5 r1 z1;obtain⟨m6,e6,_,_⟩:=DataW.trod_int Tryz.underlying3 r2;simp at e6;subst e6;exact⟨⟨t,a,m6⟩,c3,c5,rfl,g0,g1⟩
end
end Go.Proofs.YtmeaoneaephjeaaGreatDoor
namespace Go.Proofs.YtmeaoneaephjeaaGreatDoor
open Go.ChangeShapes Go.WideShapes Go.ChangeAt Go.WideMaps Go.WideElems Go.RowKit Go
set_option linter.unusedVariables false
abbrev Cv {H : Type} : List (String × DataW H) := [("math/bits.deBruijn32tab", Rows.laid_math_bits_deBruijn32tab), ("math/bits.deBruijn64tab", Rows.laid_math_bits_deBruijn64tab)]
theorem Tryz.g64 : Tryz.prog.globalNamed "math/bits.deBruijn64tab" = some 1 := by kernel_rfl
theorem Tryz.t64:(Tryz.prog.globals[1]?).map (·.type)=some 268:=by kernel_rfl
theorem Tryz.cU8:Tryz.prog.cellsOf 5=1:=by kernel_rfl
theorem R6(os:Os) (args:Array Value):laidMetH Tryz.prog Cv ((World.doorLaid Tryz.prog 400 os).forCall (fun _ _=>0) ⟨#[],args,[]⟩).memory:=
 laidMetH_of_parts3 (fuel:=8) (laidMet_of_run' 8 (by kernel_rfl) (by kernel_rfl)) (by kernel_rfl) (by kernel_rfl)
theorem Yk{H:Type}:(Rows.laid_math_bits_deBruijn64tab:DataW H)=.agg (Lib.deBruijn64tab.map fun n:Nat=>.lit (.int .u8 ((n:Nat):Int))):=rfl
theorem R7{H:Type} (tab:List Nat) (i:Nat) (hi:i<tab.length) (m:Int) (h:(tab.map fun n:Nat=>(DataW.lit (.int .u8 ((n:Nat):Int)):DataW H))[i]?=some (.lit (.int .u8 m))):m=((tab.getD i 0:Nat):Int):=by
 rw[List.getElem?_map,List.getElem?_eq_getElem hi]at h;rw[az 0 hi];injection h with h
 injection h with h
 injection h with _ h
 exact h.symm
theorem VB{W:World} (h:laidMetH Tryz.prog Cv W):iA W:=by
 rw[MakeChecks.laidMetH_plain _ _ _ (by kernel_rfl)]at h;obtain⟨ps,⟨g1,t1,cs1,f1,p1,q1,_,_,_,_,⟨g0,t0,cs0,f0,p0,q0,tt,ht0,T8,TN,_⟩,_⟩,_⟩:=h;obtain rfl:=dE (Tryz.g64.symm.trans tt);obtain rfl:=dE (Tryz.t64.symm.trans ht0);rw[Yk]at TN;obtain⟨xs,m1,rfl,dJ,cP,jz,jU⟩:=DataW.trod_array Tryz.underlying268 TN;simp only[Prod.mk.injEq,DataW.agg.injEq]at dJ;intro i hi;have hi64:i<64:=hi;have h2:=jU i hi;rw[Tryz.cU8,Nat.mul_one,List.getElem?_eq_getElem (by omega)]at h2;obtain⟨m,e1,e2,_⟩:=DataW.trod_int Tryz.underlying5 h2;have hc:=World.var?_cell tt T8 i;have h3:((cs0.toList.drop i).take 1)[0]?=cs0[i]?:=by simp
 rw[e1]at h3;have h4:cs0[i]?=some (.int .u8 m):=h3.symm.trans rfl;rw[h4]at hc;rw[hc]
 have h5:(xs.map (·.1))[i]?=some (.lit (.int .u8 m)):=by
  rw[List.getElem?_map,List.getElem?_eq_getElem (by omega),e2];rfl
 rw[<-dJ.1]at h5;rw[R7 _ i hi m h5]
theorem Tryz.own:ownKnob Tryz.prog.godebug=none:=by kernel_rfl
theorem Tryz.laidOut:laidOutB Tryz.prog=true:=by kernel_rfl
end Go.Proofs.YtmeaoneaephjeaaGreatDoor
