/- conf.Copy. -/
import Derived.Test.YtdcdccmpcmjmhaaGreatDoorRpmHandlesK4
namespace Go.Proofs.YtdcdccmpcmjmhaaGreatDoor
set_option linter.all false
set_option maxHeartbeats 4000000
set_option maxRecDepth 20000
open Go.RowKit Go.Proofs.Tryz
section
theorem Qb{l:List Rg}:∀u∈l.flatMap Rg.cells,u.oneCell'=true:=fun u hu=>by
 obtain⟨r,_,hu⟩:=List.mem_flatMap.1 hu;simp only[Rg.cells,List.mem_cons,List.not_mem_nil,or_false] at hu;rcases hu with rfl | rfl<;>rfl
def aCt(s:aC)(v:Value)(w w':World):Prop:=∃cs,v=.agg cs∧Dr (fQ (fresh w w')) s cs
theorem aE5(s:aC)(A1 A2 A3 A4:Option Addr)(n1 k1 n2 k2 n3 k3 n4 k4:Nat)(w:World)(hW:fM w s A1 n1 A2 n2 A3 n3 A4 n4)(Ka:∀d∈s.aD,d.aP.length≤1000000):
  Cz 75 #[.agg #[.slice A1 n1 k1,.slice A2 n2 k2,.slice A3 n3 k3,.slice A4 n4 k4]] w (fun y w'=>(∃v,y=.returned v∧aCt s v w w')∧Below w.heap.size w w'):=by
 obtain⟨rc,hrc,pH,hsc⟩:=hW.jO;obtain⟨rd,hrd,hn2,hsd⟩:=hW.dom;obtain⟨rr,cK,pG,hst⟩:=hW.Co;obtain⟨rv,Rh,rB,vV⟩:=hW.dev;obtain⟨Kt,aPF,rfl,aPG⟩:=aE7 hrc;obtain⟨Ip,aPM,rfl,aPN⟩:=aEy Rh;obtain⟨sm1,sm2,sm3,sm4,sm5,sm6⟩:=hW.small;subst pH;subst hn2;subst pG;subst rB
 have Wt:=aF3 (es:=s.aF) (bs:=Kt) aSA
 have ho4:=aF3 (es:=s.aD) (bs:=Ip) aSd
 refine aN func75 ntmps75 ?_;refine cQ ?_;refine eD ?_;refine bF fun g1=>?_;refine bT fun g2=>?_;refine dO ?_;refine Tk (fun e R H=>∃C j1 D j2 E j3 V j4 g3,e=[(3,pt g3),(2,pt g2)]∧R=[all w]∧H=[HP.own 86 6 (.slice C s.aF.length j1) s.aF.length (Ss s Kt).flatten,HP.own 38 6 (.slice V s.aD.length j4) s.aD.length (Sn s Ip).flatten,HP.own 50 3 (.slice D s.domains.length j2) s.domains.length rd.flatten,HP.own 88 1 (.slice E s.aR.length j3) s.aR.length rr.flatten,HP.aE g3 30 [.slice C s.aF.length j1,.slice D s.domains.length j2,.slice E s.aR.length j3,.slice V s.aD.length j4],HP.aE g2 30 [sn,sn,sn,sn]]) ?_ ?_
 ·refine rI 14 (by kernel_rfl) (by kernel_rfl) ?_;refine bJ 0 ?_;refine bJ 1 ?_;refine bJ 3 ?_;refine bJ 4 ?_;refine bJ 6 ?_;refine bJ 7 ?_;refine bJ 9 ?_;refine bJ 10 ?_;refine aKf (j:=13) 3 30 [sn,sn,sn,sn] fun M=>?_;refine Tq 2 13 rfl rfl (iK (by kernel_rfl)) (by decide) (by kernel_rfl) (by kernel_rfl) (fun _ h=>h) (fun M=>?_);refine Ue (f:=147) (fi:=[]) (ca:=[]) (by kernel_rfl) (Sf M rfl rfl) (Se M rfl rfl) (by decide) (aKv s.aF.length (Ss s Kt).flatten) (fun w1 st=>aNQ A1 _ k1 _ w1 (hsc.le (st.le (by simp))) Wt sm1) ?_;rintro _ _ q1 ⟨C,j1,rfl,rfl⟩ _;dsimp only[List.cons_append,List.nil_append];refine aBZ ?_;refine iG ?_;refine iA ?_;refine aAe (by decide) rfl (fun _ h=>h.bE.tail) ?_;refine Tq 5 13 rfl rfl (iK (by kernel_rfl)) (by decide) (by kernel_rfl) (by kernel_rfl) (fun _ h=>h.bE.tail) (fun M=>?_);refine Ue (f:=148) (fi:=[]) (ca:=[]) (by kernel_rfl) (Sf M rfl rfl) (Se M rfl rfl) (by decide) (aKt s.domains.length rd.flatten) (fun w1 st=>aNO A2 _ k2 _ w1 (hsd.le (st.le (by simp))) (aRI hrd) sm2) ?_;rintro _ _ q2 ⟨D,j2,rfl,rfl⟩ _;dsimp only[List.cons_append,List.nil_append];refine aBZ ?_;refine iG ?_;refine iA ?_;refine aAe (by decide) rfl (fun _ h=>h.bE.tail.bE.tail) ?_;refine Tq 8 13 rfl rfl (iK (by kernel_rfl)) (by decide) (by kernel_rfl) (by kernel_rfl) (fun _ h=>h.bE.tail.bE.tail) (fun M=>?_);refine Ue (f:=149) (fi:=[]) (ca:=[]) (by kernel_rfl) (Sf M rfl rfl) (Se M rfl rfl) (by decide) (aKr s.aR.length rr.flatten) (fun w1 st=>aNM A3 _ k3 _ w1 (hst.le (st.le (by simp))) (aMv cK) sm3) ?_;rintro _ _ q3 ⟨E,j3,rfl,rfl⟩ _;dsimp only[List.cons_append,List.nil_append];refine aBZ ?_;refine iG ?_;refine iA ?_;refine aAe (by decide) rfl (fun _ h=>h.bE.tail.bE.tail.bE.tail) ?_;refine Tq 11 13 rfl rfl (iK (by kernel_rfl)) (by decide) (by kernel_rfl) (by kernel_rfl) (fun _ h=>h.bE.tail.bE.tail.bE.tail) (fun M=>?_);refine Ue (f:=150) (fi:=[]) (ca:=[]) (by kernel_rfl) (Sf M rfl rfl) (Se M rfl rfl) (by decide) (aKu s.aD.length (Sn s Ip).flatten) (fun w1 st=>aNP A4 _ k4 _ w1 (vV.le (st.le (by simp))) ho4 sm4) ?_;rintro _ _ q4 ⟨V,j4,rfl,rfl⟩ _;dsimp only[List.cons_append,List.nil_append];refine aBZ ?_;refine iG ?_;refine iA ?_;refine aAe (by decide) rfl (fun _ h=>h.bE.tail.bE.tail.bE.tail.bE.tail) ?_;cases M with
  | none=>
   dsimp only[wA,yH,Ab,Fs];refine fS 12 rfl rfl rfl (by decide) (lX (zs:=[sn,sn,sn,sn]) (L:=[(0,1),(1,1),(2,1),(3,1)]) (iK (by kernel_rfl)) (by kernel_rfl) rfl (by simp[fK,gN,Value.cells];rfl)) (by kernel_rfl) (fun _ _ _ h=>h) (fun _ h=>h.bE.tail.bE.tail.bE.tail.bE.tail) ?_;refine cJ 13 ?_;refine bT fun g3=>?_;refine iG ?_;refine iA ?_;refine lA (fun _ h=>h.tail.bE.tail.bE.tail.bE.tail.bE.tail) ?_;refine cJ 14 ?_;refine oL 0 rfl ?_;dsimp only[List.set];refine eZ ?_;refine kH ?_;refine dN ?_;exact aY [4,1,3,2,0,5] rfl (by decide) (by simp) (bL [(3,pt g3),(2,pt g2)] (Zx ⟨C,j1,D,j2,E,j3,V,j4,g3,rfl,rfl,rfl⟩))
  | some g3=>
   dsimp only[wA,yH,Ab,Fs];refine fS 12 rfl rfl rfl (by decide) (lX (zs:=[sn,sn,sn,sn]) (L:=[(0,1),(1,1),(2,1),(3,1)]) (iK (by kernel_rfl)) (by kernel_rfl) rfl (by simp[fK,gN,Value.cells];rfl)) (by kernel_rfl) (fun _ _ _ h=>h) (fun _ h=>h.tail.bE.tail.bE.tail.bE.tail.bE.tail) ?_;refine cJ 14 ?_;refine oL 0 rfl ?_;dsimp only[List.set];refine eZ ?_;refine kH ?_;refine dN ?_;exact aY [4,1,3,2,0,5] rfl (by decide) (by simp) (bL [(3,pt g3),(2,pt g2)] (Zx ⟨C,j1,D,j2,E,j3,V,j4,g3,rfl,rfl,rfl⟩))
 rintro _ _ _ ⟨C,j1,D,j2,E,j3,V,j4,g3,rfl,rfl,rfl⟩;refine Dq (p:=HP.cE (zG s Kt 0) (zG.le (s:=s) (fa:=Kt) (i:=0))) (fun w1 j c a hj=>absurd hj (by omega)) ?_;refine aA ?_;refine bL [(23,iv 0),(22,iv s.aF.length),(3,pt g3),(2,pt g2)] ?_;refine eJ (fun m e R H=>∃(i:Nat) (fa:List AC),i≤s.aF.length∧fa.length=s.aF.length∧(∀j,i≤j→fa[j]? =Kt[j]?)∧m=s.aF.length - i∧e=[(23,iv i),(22,iv s.aF.length),(3,pt g3),(2,pt g2)]∧R=[all w]∧H=[HP.cE (zG s fa i) (zG.le (s:=s) (fa:=fa) (i:=i)),HP.own 86 6 (.slice C s.aF.length j1) s.aF.length (Ss s fa).flatten,HP.own 38 6 (.slice V s.aD.length j4) s.aD.length (Sn s Ip).flatten,HP.own 50 3 (.slice D s.domains.length j2) s.domains.length rd.flatten,HP.own 88 1 (.slice E s.aR.length j3) s.aR.length rr.flatten,HP.aE g3 30 [.slice C s.aF.length j1,.slice D s.domains.length j2,.slice E s.aR.length j3,.slice V s.aD.length j4],HP.aE g2 30 [sn,sn,sn,sn]]) s.aF.length ⟨0,Kt,by omega,aPF,fun _ _=>rfl,rfl,rfl,rfl,rfl⟩ fun m e R H hI=>?_;obtain⟨i,fa,hi,hfl,hsame,rfl,rfl,rfl,rfl⟩:=hI;refine aA ?_;refine aG rfl (fun hlt=>?_) (fun hge=>?_)
 ·have hlt:i < s.aF.length:=by omega
  obtain⟨c,hc⟩:=get_some hlt;obtain⟨a,ha⟩:=get_some (l:=fa) (i:=i) (by omega)
  have ha0:Kt[i]? =some a:=by rw[←hsame i (Nat.le_refl _)];exact ha
  have aPE:=aPG i c a hc ha0
  have hcs:=sm5 c (List.mem_of_getElem? hc)
  refine aY [1,0,2,3,4,5,6] rfl (by decide) (fun _ h=>h) ?_;refine aCa 0 rfl (by omega) fun gC hC=>?_;subst hC;refine Tb 0 rfl fun cs h1 h2 h3 h4=>?_;dsimp only[List.set];obtain⟨iM,iL⟩:=aAn (f:=Bi) (es:=s.aF) (bs:=fa) (sz:=6) hfl (fun _ _=>rfl)
  have hs:=Ib h2 iM iL (Ub hc ha)
  refine aA ?_;refine rI 10 (by kernel_rfl) (by kernel_rfl) ?_;refine bJ 0 ?_;refine bJ 1 ?_;refine bJ 2 ?_;refine bJ 3 ?_;refine bJ 4 ?_;refine bJ 5 ?_;refine bJ 6 ?_ (dD:=dat (sz:=6) i (i*6));refine bJ 7 ?_;refine bJ 8 ?_;refine cJ 9 ?_;refine fR (aFo c.src.length (aL c.src)) (fun w1 st=>aHj a.1 _ a.2 _ w1 (aI.le aPE (st.le (by simp))) (Qy _) hcs) ?_;rintro _ _ q ⟨Af,kf,rfl,rfl⟩ _;dsimp only[List.cons_append,List.nil_append];refine oA ?_;refine cJ 10 ?_;refine kd (dat i (i*6)) ?_;refine eZ ?_;refine cJ 11 ?_;refine bA ?_;refine eZ ?_;refine cJ 12 ?_;refine fF rfl rfl ?_;dsimp only[List.set];refine eZ ?_;refine kH ?_
  have hs1:=hs.set 1 (.slice Af c.src.length kf) (by simp[Bi]) (by omega)
  have vU:=(wG.refl cs (i*6) 6).set 1 (.slice Af c.src.length kf) (by decide)
  have hf:=Ft (r':=Bi c (Af,kf)) h2 iM iL hlt (by omega) rfl hs1 vU
  rw[show(Ss s fa).set i (Bi c (Af,kf))=Ss s (fa.set i (Af,kf)) from aF2 hc (by omega)] at hf;refine Oj 1 (n:=s.aF.length) (c:=j1) (sz:=6) rfl (by simpa using h1) hf h3 h4 ?_;dsimp only[List.set];refine wF 0 (Φ:=fun p=>aI p 1 Af c.src.length (aL c.src)) (hm:=fun p q hl h=>aI.le h hl) rfl (fun p h=>h) ?_;dsimp only[List.set];refine aY [0,2,1,3,4,5,6,7] rfl (by decide) (fun _ h=>h) ?_
  refine Th (X:=zG s (fa.set i (Af,kf)) (i+1)) (h3:=zG.le) (fun p h1 h2 j c' a' hj Hu yO=>by
   rcases Nat.lt_or_ge j i with h | h
   ·rw[List.getElem?_set_ne (by omega)] at yO;exact h2 j c' a' h Hu yO
   ·obtain rfl:j=i:=by omega
    rw[hc] at Hu;cases Hu;rw[List.getElem?_set_self (by omega)] at yO;cases yO
    exact h1) ?_
  refine aA ?_;refine bL [(23,iv (i+1:Nat)),(22,iv s.aF.length),(3,pt g3),(2,pt g2)] ?_;refine aBW (R':=[all w]) (by simp) ?_;exact iF (s.aF.length - (i+1)) (by omega) ⟨i+1,fa.set i (Af,kf),hlt,by simpa using hfl,fun j hj=>by rw[List.getElem?_set_ne (by omega)];exact hsame j (by omega),rfl,rfl,rfl,rfl⟩
 ·obtain rfl:i=s.aF.length:=by omega
  refine Dq (p:=HP.cE (Ea s Ip 0) (Ea.le (s:=s) (da:=Ip) (i:=0))) (fun w1 j d a hj=>absurd hj (by omega)) ?_;refine aA ?_;refine bL [(42,iv 0),(41,iv s.aD.length),(3,pt g3),(2,pt g2)] ?_;refine eJ (fun m e R H=>∃(i:Nat) (da:List (AC×AC)),i≤s.aD.length∧da.length=s.aD.length∧(∀j,i≤j→da[j]? =Ip[j]?)∧m=s.aD.length - i∧e=[(42,iv i),(41,iv s.aD.length),(3,pt g3),(2,pt g2)]∧R=[all w]∧H=[HP.cE (Ea s da i) (Ea.le (s:=s) (da:=da) (i:=i)),HP.cE (zG s fa s.aF.length) (zG.le (s:=s) (fa:=fa) (i:=s.aF.length)),HP.own 86 6 (.slice C s.aF.length j1) s.aF.length (Ss s fa).flatten,HP.own 38 6 (.slice V s.aD.length j4) s.aD.length (Sn s da).flatten,HP.own 50 3 (.slice D s.domains.length j2) s.domains.length rd.flatten,HP.own 88 1 (.slice E s.aR.length j3) s.aR.length rr.flatten,HP.aE g3 30 [.slice C s.aF.length j1,.slice D s.domains.length j2,.slice E s.aR.length j3,.slice V s.aD.length j4],HP.aE g2 30 [sn,sn,sn,sn]]) s.aD.length ⟨0,Ip,by omega,aPM,fun _ _=>rfl,rfl,rfl,rfl,rfl⟩ fun m e R H hI=>?_;obtain⟨i,da,hi,jB,aHR,rfl,rfl,rfl,rfl⟩:=hI;refine aA ?_;refine aG rfl (fun hlt=>?_) (fun hge=>?_)
  ·have hlt:i < s.aD.length:=by omega
   obtain⟨d,hd⟩:=get_some hlt;obtain⟨⟨a1,a2⟩,ha⟩:=get_some (l:=da) (i:=i) (by omega)
   have ha0:Ip[i]? =some (a1,a2):=by rw[←aHR i (Nat.le_refl _)];exact ha
   obtain⟨aDG,aId⟩:=aPN i d _ hd ha0
   have eI:=Ka d (List.mem_of_getElem? hd)
   have gD:=sm6 d (List.mem_of_getElem? hd)
   refine aY [3,0,1,2,4,5,6,7] rfl (by decide) (fun _ h=>h) ?_;refine aCa 0 rfl (by omega) fun gV hV=>?_;subst hV;refine Tb 0 rfl fun cs h1 h2 h3 h4=>?_;dsimp only[List.set];obtain⟨iM,iL⟩:=aAn (f:=Bh) (es:=s.aD) (bs:=da) (sz:=6) jB (fun _ _=>rfl)
   have hs:=Ib h2 iM iL (Ub hd ha)
   refine aA ?_;refine kd (dat i (i*6)) ?_;refine aA ?_;refine iO [3,4,5,8,9,10] ?_;refine bH 0 ?_;refine bH 1 ?_;refine bH 2 ?_;refine bH 7 ?_;refine aK 3 ?_;refine aK 4 ?_;refine aK 5 ?_;refine aK 8 ?_;refine aK 9 ?_;refine aK 10 ?_;refine aJ 6 ?_;refine fR (aKs d.aP.length (d.aP.flatMap Rg.cells)) (fun w1 st=>aNN a1.1 _ a1.2 _ w1 (aI.le aDG (st.le (by simp))) Qb eI) ?_;rintro _ _ q1 ⟨Ag,kg,rfl,rfl⟩ _;dsimp only[List.cons_append,List.nil_append];refine bB ?_;refine aJ 11 ?_;refine fR (aFo d.iZ.length (aL d.iZ)) (fun w1 st=>aHj a2.1 _ a2.2 _ w1 (aI.le aId (st.le (by simp))) (Qy _) gD) ?_;rintro _ _ q2 ⟨An,kn,rfl,rfl⟩ _;dsimp only[List.cons_append,List.nil_append];refine bB ?_ (hS:=fun _ h=>h.bE.tail.bE.tail);refine aJ 12 ?_;refine bA ?_;refine bB ?_ (hS:=fun _ h=>h.bE.tail.bE.tail);refine aJ 13 ?_;refine bA ?_;refine bB ?_ (hS:=fun _ h=>h.bE.tail.bE.tail);refine aJ 14 ?_;refine fF rfl rfl ?_;dsimp only[List.set];refine bO ?_;refine aJ 15 ?_;refine bA ?_;refine bO ?_;refine aJ 16 ?_;refine bA ?_;refine bO ?_;refine aJ 17 ?_;refine fF rfl rfl ?_;dsimp only[List.set];refine bO ?_;refine eN ?_
   have hs1:=(hs.set 4 (.slice Ag d.aP.length kg) (by simp[Bh]) (by omega)).set 5 (.slice An d.iZ.length kn) (by simp[Bh]) (by simp;omega)
   have vU:=((wG.refl cs (i*6) 6).set 4 (.slice Ag d.aP.length kg) (by decide)).set 5 (.slice An d.iZ.length kn) (by decide)
   have hf:=Ft (r':=Bh d ((Ag,kg),(An,kn))) h2 iM iL hlt (by omega) rfl hs1 vU
   rw[show(Sn s da).set i (Bh d ((Ag,kg),(An,kn)))=Sn s (da.set i ((Ag,kg),(An,kn))) from aF2 hd (by omega)] at hf;refine Oj 2 (n:=s.aD.length) (c:=j4) (sz:=6) rfl (by simpa using h1) hf h3 h4 ?_;dsimp only[List.set];refine wF 0 (Φ:=fun p=>aI p 1 An d.iZ.length (aL d.iZ)) (hm:=fun p q hl h=>aI.le h hl) rfl (fun p h=>h) ?_;refine wF 1 (Φ:=fun p=>aI p 2 Ag d.aP.length (d.aP.flatMap Rg.cells)) (hm:=fun p q hl h=>aI.le h hl) rfl (fun p h=>h) ?_;dsimp only[List.set];refine Th (X:=fun p=>aI p 1 An d.iZ.length (aL d.iZ)∧aI p 2 Ag d.aP.length (d.aP.flatMap Rg.cells)) (h3:=fun p q hl h=>⟨aI.le h.1 hl,aI.le h.2 hl⟩) (fun p h1 h2=>⟨h1,h2⟩) ?_;refine aY [0,2,3,4,1,5,6,7,8] rfl (by decide) (fun _ h=>h) ?_
   refine Th (X:=Ea s (da.set i ((Ag,kg),(An,kn))) (i+1)) (h3:=Ea.le) (fun p h1 h2 j d' a' hj hd' yO=>by
    rcases Nat.lt_or_ge j i with h | h
    ·rw[List.getElem?_set_ne (by omega)] at yO;exact h2 j d' a' h hd' yO
    ·obtain rfl:j=i:=by omega
     rw[hd] at hd';cases hd';rw[List.getElem?_set_self (by omega)] at yO;cases yO
     exact⟨h1.2,h1.1⟩) ?_
   refine aA ?_;refine bL [(42,iv (i+1:Nat)),(41,iv s.aD.length),(3,pt g3),(2,pt g2)] ?_;refine aBW (R':=[all w]) (by simp) ?_;exact iF (s.aD.length - (i+1)) (by omega) ⟨i+1,da.set i ((Ag,kg),(An,kn)),hlt,by simpa using jB,fun j hj=>by rw[List.getElem?_set_ne (by omega)];exact aHR j (by omega),rfl,rfl,rfl,rfl⟩
  ·obtain rfl:i=s.aD.length:=by omega
   refine aY [6,7,0,1,2,3,4,5] rfl (by decide) (fun _ h=>h) ?_;refine aA ?_;refine dP [] [2,3,4,5,6,7] [1] (by simp) rfl (by decide) (by decide) fun q hq _ hfr=>?_;obtain⟨F0,s0,z0⟩:=hq 2 _ (by simp) rfl;obtain⟨F1,s1,z1⟩:=hq 3 _ (by simp) rfl
   have e0:Ea s da s.aD.length q:=Ea.le ⟨q.w,F0⟩ q (fun b hb=>⟨z0 b hb,rfl⟩) s0
   have e1:zG s fa s.aF.length q:=zG.le ⟨q.w,F1⟩ q (fun b hb=>⟨z1 b hb,rfl⟩) s1
   have e2:=aI.own (hq 4 _ (by simp) rfl)
   have e3:=aI.own (hq 5 _ (by simp) rfl)
   have e4:=aI.own (hq 6 _ (by simp) rfl)
   have e5:=aI.own (hq 7 _ (by simp) rfl)
   have hS:Dr (fQ q) s #[.slice C s.aF.length j1,.slice D s.domains.length j2,.slice E s.aR.length j3,.slice V s.aD.length j4]:=
    ⟨C,_,j1,D,_,j2,E,_,j3,V,_,j4,rfl,⟨_,aGD hfl (fun i c a hc ha=>e1 i c a (List.getElem?_eq_some_iff.1 hc).1 hc ha),rfl,e2⟩,⟨rd,hrd,rfl,e4⟩,⟨rr,cK,rfl,e5⟩,⟨_,aGC jB (fun i d p hd hp=>e0 i d p (List.getElem?_eq_some_iff.1 hd).1 hd hp),rfl,e3⟩⟩
   exact Li (vs:=[.slice C s.aF.length j1,.slice D s.domains.length j2,.slice E s.aR.length j3,.slice V s.aD.length j4]) rfl (by kernel_rfl) rfl rfl (by first | assumption | exact aQ.whole 0 rfl | exact aQ.whole 1 rfl | exact aQ.whole 2 rfl | exact aQ.whole 3 rfl | exact aQ.whole 4 rfl | exact aQ.whole 5 rfl | exact aQ.whole 6 rfl | exact aQ.whole 7 rfl | exact aQ.whole 8 rfl | exact zC (by simp) (by assumption)) fun w1 t=>⟨⟨_,rfl,_,rfl,hS.mono (oF (t.mL (by simp) (hfr (by simp) (by simp))))⟩,t.below (by simp)⟩
end
section
section
variable{P:Program}{N:cH}{w0 w:World}{K:Act→World→Prop}{e:Env}{R:List Piece}{H H':List HP}
theorem Zu{p : HP}{ps : List HP}(h : XK N w0 K e R (HP.many (ps ++ [p]) :: H)) : XK N w0 K e R (p :: HP.many ps :: H) := fun a w hr st => by
  obtain⟨Z,F,hz,cK,hs,dH,dR⟩:=st.ex;obtain⟨G,hG1,hG2,hG3⟩:=hs 1 _ rfl;refine h a w hr ⟨st.os,st.tape,st.output,st.size,Z,fun j=>match j with | 0=>fun b=>F 0 b∨F 1 b | j+1=>F (j+2),hz,cK,fun j r hj=>?_,fun j b hb=>?_,fun j k b lG hj hk=>?_⟩
  · cases j with
    | zero =>
      simp at hj;subst hj;refine⟨fun i b=>if i < ps.length then G i b else i=ps.length∧F 0 b,fun i r hi=>?_,fun i b hb=>?_,fun i k b hik h1 h2=>?_⟩
      · rcases Nat.lt_or_ge i ps.length with hl | hl
        · rw[List.getElem?_append_left hl] at hi
          show r.sat (fun b=>if i < ps.length then G i b else i=ps.length∧F 0 b) w
          rw[show(fun b=>if i < ps.length then G i b else i=ps.length∧F 0 b)=G i by funext b;rw[if_pos hl]];exact hG1 i r hi
        · rw[List.getElem?_append_right hl] at hi
          have h0:=Aq hi
          have hil:i=ps.length:=by simp at h0;omega
          subst hil;simp at hi;subst hi
          show p.sat (fun b=>if ps.length < ps.length then G ps.length b else ps.length=ps.length∧F 0 b) w
          rw[show(fun b=>if ps.length < ps.length then G ps.length b else ps.length=ps.length∧F 0 b)=F 0 by funext b;simp];exact hs 0 _ rfl
      · dsimp only at hb
        split at hb
        · exact .inr (hG2 i b hb)
        · exact .inl hb.2
      · dsimp only at h1 h2
        split at h1<;>split at h2
        · exact hG3 i k b hik h1 h2
        · exact dR 1 0 b (by omega) (hG2 i b h1) h2.2
        · exact dR 0 1 b (by omega) h1.2 (hG2 k b h2)
        · omega
    | succ j=>exact hs (j+2) r (by simpa using hj)
  · cases j with
    | zero=>rcases hb with hb | hb<;>exact dH _ b hb
    | succ j=>exact dH _ b hb
  · cases j with
    | zero => cases k with
      | zero=>exact lG rfl
      | succ k => rcases hj with hj | hj
                  · exact dR 0 (k+2) b (by omega) hj hk
                  · exact dR 1 (k+2) b (by omega) hj hk
    | succ j => cases k with
      | zero => rcases hk with hk | hk
                · exact dR 0 (j+2) b (by omega) hk hj
                · exact dR 1 (j+2) b (by omega) hk hj
      | succ k=>exact dR (j+2) (k+2) b (by omega) hj hk
end
theorem Zt{N:cH}{w0:World}{e:Env}{R:List Piece}{H:List HP}{K:Act→World→Prop}{p q r:HP}(h:XK N w0 K e R (HP.many [p,q,r]::H)):XK N w0 K e R (p::q::r::H):=by
 refine nB ?_;refine fun a w hr st=>?_
 refine(Zu (ps:=[p,q]) (p:=r) h) a w hr (st.weak (fun _ h=>h) (fun i=>match i with
  | 0=>1
  | 1=>0
  | i+2=>i+2) (fun i j _ _ he=>by
   match i,j with
   | 0,0=>rfl
   | 0,1=>simp at he
   | 0,j+2=>simp at he
   | 1,0=>simp at he
   | 1,1=>rfl
   | 1,j+2=>simp at he
   | i+2,0=>simp at he
   | i+2,1=>simp at he
   | i+2,j+2=>simpa using he) (fun i p hi=>by
   match i,hi with
   | 0,hi=>simpa using hi
   | 1,hi=>simpa using hi
   | i+2,hi=>simpa using hi))
end
section
theorem aTN{N:cH}{w0:World}{e:Env}{R:List Piece}{H:List HP}{K:Act→World→Prop}{p q r s:HP}(h:XK N w0 K e R (HP.many [p,q,r,s]::H)):XK N w0 K e R (p::q::r::s::H):=by
 refine nB ?_;refine fun a w hr st=>?_
 have swap:∀{x y:HP} {H:List HP} {w:World},St w0 R (x::y::H) w→St w0 R (y::x::H) w:=fun st=>st.weak (fun _ h=>h) (fun i=>match i with
  | 0=>1
  | 1=>0
  | i+2=>i+2) (fun i j _ _ he=>by
   match i,j with
   | 0,0=>rfl
   | 0,1=>simp at he
   | 0,j+2=>simp at he
   | 1,0=>simp at he
   | 1,1=>rfl
   | 1,j+2=>simp at he
   | i+2,0=>simp at he
   | i+2,1=>simp at he
   | i+2,j+2=>simpa using he) (fun i p hi=>by
   match i,hi with
   | 0,hi=>simpa using hi
   | 1,hi=>simpa using hi
   | i+2,hi=>simpa using hi)
 refine(Zu (ps:=[p,q]) (p:=r) (H:=s::H) (fun a w hr st=>?_)) a w hr (swap st);exact(Zu (ps:=[p,q,r]) (p:=s) h) a w hr (swap st)
def aKB(d:bQ)(v:Value)(hs:List HP)(_:Piece):Prop:=∃L:FL,v=.tuple #[.pointer (some ⟨L.f,0,none⟩),iv 0]∧hs=[iJ L d (Fu d)]
theorem Es(l:List Rg):List.replicate l.length (Value.int .u32 0)=nR (l.map fun _=>0):=by
 refine List.ext_getElem? fun j=>?_;simp only[nR,List.map_map,List.getElem?_replicate,List.getElem?_map]
 by_cases h:j < l.length
 ·rw[if_pos h,List.getElem?_eq_getElem h];rfl
 ·rw[if_neg h,List.getElem?_eq_none (by omega)];rfl
theorem aMV(d:bQ)(hrl:d.aP.length≤8)(cK:∀r∈d.aP,0≤r.reset∧r.reset < 4294967296)(A:Option Addr)(c:Nat)(w:World)(hs:aI (all w) 2 A d.aP.length (d.aP.flatMap Rg.cells)):
  Cz 71 #[.slice A d.aP.length c] w (fun y w'=>(∃v hs q,y=.returned v∧q.w=w'∧aKB d v hs q∧kC w hs q)∧Below w.heap.size w w'):=by
 refine aN func71 ntmps71 ?_;refine cQ ?_;refine eD ?_;refine bA ?_;refine bA ?_;refine dO ?_;refine cQ ?_;refine cQ ?_;refine eD ?_;refine bA ?_;refine bA ?_;refine bA ?_;refine aB ?_;refine aG rfl (fun h=>absurd h (by omega)) (fun _=>?_);refine lY ?_;refine dN ?_;refine Tk (fun e R H=>∃B j gn gs g3,e=[(4,pt g3)]∧R=[all w]∧H=[HP.aE g3 298 [.slice B d.aP.length j,.slice (some ⟨gn,0,none⟩) d.aP.length d.aP.length,.slice (some ⟨gs,0,none⟩) d.aP.length d.aP.length,.bool false],HP.aE gn 23 (nR (d.aP.map fun _=>0)),HP.aE gs 23 (nR (d.aP.map fun _=>0)),HP.own 48 2 (.slice B d.aP.length j) d.aP.length (d.aP.flatMap Rg.cells)]) ?_ ?_
 ·refine rI 8 (by kernel_rfl) (by kernel_rfl) ?_;refine bJ 0 ?_;refine bJ 2 ?_;refine bJ 3 ?_;refine bJ 5 ?_;refine bJ 6 ?_;refine aUo 1 4 7 rfl rfl rfl (by kernel_rfl) ?_ ?_ ?_
  ·skip
   refine fR (Tz d.aP.length (d.aP.flatMap Rg.cells)) (fun w1 st=>Za A _ c _ w1 (hs.le (st.le (by simp))) Qb (by omega)) ?_;rintro _ _ q ⟨B,j,rfl,rfl⟩ _;dsimp only[List.cons_append,List.nil_append];refine oA ?_ (hS:=(fun _ h=>h.bE.tail));refine Lm 4 7 rfl rfl (by kernel_rfl) ?_ ?_
   ·skip
    refine mA (n:=d.aP.length) 4 (el:=23) (z:=.int .u32 0) (by kernel_rfl) (by kernel_rfl) rfl rfl rfl (by omega) (by omega) (by decide) fun gn=>?_;rw[Es d.aP];refine oA ?_ (hS:=(fun _ h=>h.tail.bE.tail));refine cJ 7 ?_;refine mA (n:=d.aP.length) 4 (el:=23) (z:=.int .u32 0) (by kernel_rfl) (by kernel_rfl) rfl rfl rfl (by omega) (by omega) (by decide) fun gs=>?_;rw[Es d.aP];refine oA ?_ (hS:=(fun _ h=>h.tail.tail.bE.tail));refine cJ 8 ?_;refine kd (fL rfl) ?_;refine eZ ?_;refine cJ 9 ?_;refine bF fun g3=>?_;refine eZ ?_;refine cJ 10 ?_;refine bA ?_;refine eZ ?_;refine kH ?_;refine dN ?_;exact nP ⟨B,j,gn,gs,g3,rfl,rfl,rfl⟩
   ·skip
    refine mA (n:=d.aP.length) 4 (el:=23) (z:=.int .u32 0) (by kernel_rfl) (by kernel_rfl) rfl rfl rfl (by omega) (by omega) (by decide) fun gs=>?_;rw[Es d.aP];refine oA ?_ (hS:=(fun _ h=>h.tail.bE.tail));refine cJ 4 ?_;refine mA (n:=d.aP.length) 4 (el:=23) (z:=.int .u32 0) (by kernel_rfl) (by kernel_rfl) rfl rfl rfl (by omega) (by omega) (by decide) fun gn=>?_;rw[Es d.aP];refine oA ?_ (hS:=(fun _ h=>h.tail.tail.bE.tail));refine cJ 8 ?_;refine kd (fL rfl) ?_;refine eZ ?_;refine cJ 9 ?_;refine bF fun g3=>?_;refine eZ ?_;refine cJ 10 ?_;refine bA ?_;refine eZ ?_;refine kH ?_;refine dN ?_;exact nP ⟨B,j,gn,gs,g3,rfl,rfl,rfl⟩
  ·skip
   refine mA (n:=d.aP.length) 4 (el:=23) (z:=.int .u32 0) (by kernel_rfl) (by kernel_rfl) rfl rfl rfl (by omega) (by omega) (by decide) fun gn=>?_;rw[Es d.aP];refine oA ?_ (hS:=(fun _ h=>h.tail));refine Lm 1 7 rfl rfl (by kernel_rfl) ?_ ?_
   ·skip
    refine fR (Tz d.aP.length (d.aP.flatMap Rg.cells)) (fun w1 st=>Za A _ c _ w1 (hs.le (st.le (by simp))) Qb (by omega)) ?_;rintro _ _ q ⟨B,j,rfl,rfl⟩ _;dsimp only[List.cons_append,List.nil_append];refine oA ?_ (hS:=(fun _ h=>h.bE.tail.tail));refine cJ 7 ?_;refine mA (n:=d.aP.length) 4 (el:=23) (z:=.int .u32 0) (by kernel_rfl) (by kernel_rfl) rfl rfl rfl (by omega) (by omega) (by decide) fun gs=>?_;rw[Es d.aP];refine oA ?_ (hS:=(fun _ h=>h.tail.bE.tail.tail));refine cJ 8 ?_;refine kd (fL rfl) ?_;refine eZ ?_;refine cJ 9 ?_;refine bF fun g3=>?_;refine eZ ?_;refine cJ 10 ?_;refine bA ?_;refine eZ ?_;refine kH ?_;refine dN ?_;exact nP ⟨B,j,gn,gs,g3,rfl,rfl,rfl⟩
   ·skip
    refine mA (n:=d.aP.length) 4 (el:=23) (z:=.int .u32 0) (by kernel_rfl) (by kernel_rfl) rfl rfl rfl (by omega) (by omega) (by decide) fun gs=>?_;rw[Es d.aP];refine oA ?_ (hS:=(fun _ h=>h.tail.tail));refine cJ 1 ?_;refine fR (Tz d.aP.length (d.aP.flatMap Rg.cells)) (fun w1 st=>Za A _ c _ w1 (hs.le (st.le (by simp))) Qb (by omega)) ?_;rintro _ _ q ⟨B,j,rfl,rfl⟩ _;dsimp only[List.cons_append,List.nil_append];refine oA ?_ (hS:=(fun _ h=>h.bE.tail.tail.tail));refine cJ 8 ?_;refine kd (fL rfl) ?_;refine eZ ?_;refine cJ 9 ?_;refine bF fun g3=>?_;refine eZ ?_;refine cJ 10 ?_;refine bA ?_;refine eZ ?_;refine kH ?_;refine dN ?_;exact nP ⟨B,j,gn,gs,g3,rfl,rfl,rfl⟩
  ·skip
   refine mA (n:=d.aP.length) 4 (el:=23) (z:=.int .u32 0) (by kernel_rfl) (by kernel_rfl) rfl rfl rfl (by omega) (by omega) (by decide) fun gs=>?_;rw[Es d.aP];refine oA ?_ (hS:=(fun _ h=>h.tail));refine Lm 1 4 rfl rfl (by kernel_rfl) ?_ ?_
   ·skip
    refine fR (Tz d.aP.length (d.aP.flatMap Rg.cells)) (fun w1 st=>Za A _ c _ w1 (hs.le (st.le (by simp))) Qb (by omega)) ?_;rintro _ _ q ⟨B,j,rfl,rfl⟩ _;dsimp only[List.cons_append,List.nil_append];refine oA ?_ (hS:=(fun _ h=>h.bE.tail.tail));refine cJ 4 ?_;refine mA (n:=d.aP.length) 4 (el:=23) (z:=.int .u32 0) (by kernel_rfl) (by kernel_rfl) rfl rfl rfl (by omega) (by omega) (by decide) fun gn=>?_;rw[Es d.aP];refine oA ?_ (hS:=(fun _ h=>h.tail.bE.tail.tail));refine cJ 8 ?_;refine kd (fL rfl) ?_;refine eZ ?_;refine cJ 9 ?_;refine bF fun g3=>?_;refine eZ ?_;refine cJ 10 ?_;refine bA ?_;refine eZ ?_;refine kH ?_;refine dN ?_;exact nP ⟨B,j,gn,gs,g3,rfl,rfl,rfl⟩
   ·skip
    refine mA (n:=d.aP.length) 4 (el:=23) (z:=.int .u32 0) (by kernel_rfl) (by kernel_rfl) rfl rfl rfl (by omega) (by omega) (by decide) fun gn=>?_;rw[Es d.aP];refine oA ?_ (hS:=(fun _ h=>h.tail.tail));refine cJ 1 ?_;refine fR (Tz d.aP.length (d.aP.flatMap Rg.cells)) (fun w1 st=>Za A _ c _ w1 (hs.le (st.le (by simp))) Qb (by omega)) ?_;rintro _ _ q ⟨B,j,rfl,rfl⟩ _;dsimp only[List.cons_append,List.nil_append];refine oA ?_ (hS:=(fun _ h=>h.bE.tail.tail.tail));refine cJ 8 ?_;refine kd (fL rfl) ?_;refine eZ ?_;refine cJ 9 ?_;refine bF fun g3=>?_;refine eZ ?_;refine cJ 10 ?_;refine bA ?_;refine eZ ?_;refine kH ?_;refine dN ?_;exact nP ⟨B,j,gn,gs,g3,rfl,rfl,rfl⟩
 rintro _ _ _ ⟨B,j,gn,gs,g3,rfl,rfl,rfl⟩;refine wF 3 (Φ:=tX d B) (hm:=tX.le (d:=d) (A:=B)) rfl (fun p h=>h) ?_;dsimp only[List.set];refine aTN ?_;refine aB ?_
 refine eC 0 (iJ ⟨g3,gn,gs,B,j⟩ d (Ga d ⟨d.aP.map fun _=>0,d.aP.map fun _=>0,false⟩)) (fun w1 G t hG yI hle=>aAJ ⟨g3,gn,gs,B,j⟩ d ⟨d.aP.map fun _=>0,d.aP.map fun _=>0,false⟩ (by omega) ⟨by simp,by simp,fun v hv=>by
  obtain⟨r,hr,rfl⟩:=List.mem_map.1 hv;decide,fun v hv=>by
  obtain⟨r,hr,rfl⟩:=List.mem_map.1 hv
  decide⟩ w1 G hG yI) ?_
 refine aB ?_;refine dP [] [] [0] (by simp) rfl (by decide) (by decide) fun q _ _ hfr=>?_;exact eL rfl rfl rfl fun w1 t=>⟨⟨_,_,⟨w1,q.Z⟩,rfl,rfl,⟨⟨g3,gn,gs,B,j⟩,rfl,rfl⟩,t.newR (by simp) (by simp) (hfr (by simp) (by simp))⟩,t.below (by simp)⟩
theorem aN1(w:World):
  Cz 73 #[] w (fun y w'=>(∃v hs q,y=.returned v∧q.w=w'∧(∃g,v=pt g∧hs=[HP.aE g 266 [iv 0,iv 0]])∧kC w hs q)∧Below w.heap.size w w'):=by
 refine aN func73 ntmps73 ?_;refine aA ?_;refine kd (fL rfl) ?_;refine bF fun g=>?_;refine aA ?_;refine dP [] [] [0] (by simp) rfl (by decide) (by decide) fun q _ _ hfr=>?_;exact aT (h:=fun w1 t=>⟨_,_,⟨w1,q.Z⟩,rfl,rfl,⟨g,rfl,rfl⟩,t.newR (by simp) (by simp) (hfr (by simp) (by simp))⟩)
end
section
def Tv(x:dL):List Value:=[iv x.at_,iv x.denied]
def vE(g:Nat)(x:dL):HP:=HP.aE g 266 (Tv x)
def Tx(w:World):Prop:=∀i v,[(114:Int),97,115,100][i]? =some v→fO w 0 i (.int .u8 v)
theorem Tx.below{w w':World}(h:Tx w)(hb:Below w.heap.size w w'):Tx w':=fun i v hv=>
 ⟨Nat.lt_of_lt_of_le (h i v hv).1 hb.size,(hb.cell (p:=⟨0,i,none⟩) (h i v hv).1).trans (h i v hv).2⟩
theorem aGY(g:Nat)(x:dL)(hx:Bw x)(w:World)(hL:Tx w)(hR:eE w g 0 (Tv x)):
  Cz 224 #[pt g] w (Rt (.int .u8 (qJ x.at_)) w):=by
 have k0:=hR.at_ (j:=0) rfl
 obtain⟨h1,h2⟩:=hx;obtain⟨i,hi⟩:∃i:Nat,x.at_=i:=⟨x.at_.toNat,by omega⟩
 have hv:[(114:Int),97,115,100][i]? =some (qJ x.at_):=by
  have:i=0∨i=1∨i=2∨i=3:=by omega
  rcases this with rfl | rfl | rfl | rfl<;>rw[hi]<;>rfl
 have k1:=hL i _ hv
 have hlt:i < 4:=by omega
 rw[hi] at k0 k1⊢;refine aN func224 ntmps224 ?_;refine aA ?_;refine kd (fB i i) ?_;refine aA ?_;exact cZ
section
variable{g:Nat}{x:dL}{w:World}{F:Nat→Prop}
theorem aN4(hp:(vE g x).sat F w)(hF:∀b,F b→b < w.heap.size):
  Cz 240 #[pt g] w (Wr (iv (sE x).1) (vE g (sE x).2) w F):=by
 refine dB func240 ntmps240 hp hF ?_;dsimp only[vE,Tv];refine aA ?_;refine aG rfl (fun h=>?_) (fun h=>?_)
 ·have hr:sE x=(6,x):=if_pos (by simpa using h)
  rw[hr];refine aA ?_;exact cI 0 hF
 ·have hr:sE x=(0,⟨1,x.denied⟩):=if_neg (by simpa using h)
  rw[hr];refine aA ?_;exact cI 0 hF
theorem aN3(hp:(vE g x).sat F w)(hF:∀b,F b→b < w.heap.size):
  Cz 225 #[pt g] w (Wr (iv (nU x).1) (vE g (nU x).2) w F):=by
 refine dB func225 ntmps225 hp hF ?_;dsimp only[vE,Tv];refine aA ?_;refine bU (t:=11) rfl (fun h2=>?_) (fun h2=>?_)
 ·refine aA ?_;refine aG rfl (fun h=>?_) (fun h=>?_)
  ·have hr:nU x=(6,x):=if_pos ⟨by simpa using h2,by simpa using h⟩
   rw[hr];refine aA ?_;exact cI 0 hF
  ·have hr:nU x=(0,⟨0,x.denied⟩):=if_neg fun h3=>h3.2 (by simpa using h)
   rw[hr];refine aA ?_;exact cI 0 hF
 ·have hr:nU x=(0,⟨0,x.denied⟩):=if_neg fun h3=>h3.1 (by simpa using h2)
  rw[hr];refine aA ?_;exact cI 0 hF
theorem aN2(Ob dF:Bool)(hp:(vE g x).sat F w)(hF:∀b,F b→b < w.heap.size):
  Cz 56 #[pt g,.bool Ob,.bool dF] w (Wr (.tuple #[]) (vE g (uH x Ob dF)) w F):=by
 refine dB func56 ntmps56 hp hF ?_;dsimp only[vE,Tv];refine aA ?_;refine aG rfl (fun h=>?_) (fun h=>?_)
 ·have hr:uH x Ob dF=x:=if_pos (by simpa using h)
  rw[hr];refine aA ?_;exact jE 0 hF
 ·have h1:¬x.at_≠1:=by simpa using h
  cases dF
  ·cases Ob
   ·have hr:uH x false false=⟨2,0⟩:=(if_neg h1).trans ((if_neg (by decide)).trans (if_neg (by decide)))
    rw[hr];refine aA ?_;exact jE 0 hF
   ·have hr:uH x true false=x:=(if_neg h1).trans ((if_neg (by decide)).trans (if_pos rfl))
    rw[hr];refine aA ?_;exact jE 0 hF
  ·have hr:uH x Ob true=⟨3,IntKind.i64.wrap (x.denied+1)⟩:=(if_neg h1).trans (if_pos rfl)
   rw[hr];refine aA ?_;refine zN rfl rfl rfl (by decide) ?_;refine aA ?_;exact jE 0 hF
end
end
section
structure TL where
 t:Nat
 A:Option Addr
 c:Nat
 fa:List (Option Addr×Nat)
def sO(c:eG)(a:Option Addr×Nat)(x:eS):List Value:=[.int .u8 c.kind,.slice a.1 c.src.length a.2,.int .u64 c.rate,iv c.mul,iv c.div,iv c.lock,.bool x.on,iv x.left,iv 0,iv 0,iv (byF c)]
def kK(s:aC)(fa:List (Option Addr×Nat))(st:List eS):List (List Value):=List.zipWith (fun c p=>sO c p.1 p.2) s.aF (fa.zip st)
structure xI(w:World)(L:TL)(s:aC)(st:List eS):Prop where
 r0:fO w L.t 0 (.slice L.A s.aF.length L.c)
 row:aI (all w) 11 L.A s.aF.length (kK s L.fa st).flatten
 sV:∀(i:Nat) (c:eG) (a:Option Addr×Nat),s.aF[i]? =some c→L.fa[i]? =some a→aI (all w) 1 a.1 c.src.length (aL c.src)
 fl:L.fa.length=s.aF.length
 ok:qW s st
theorem xI.below{w w':World}{L:TL}{s:aC}{st:List eS}(h:xI w L s st)(hb:Below w.heap.size w w'):xI w' L s st:=
 ⟨⟨Nat.lt_of_lt_of_le h.r0.1 hb.size,(hb.cell (p:=⟨_,0,none⟩) h.r0.1).trans h.r0.2⟩,h.row.le (jW hb),fun i c a hc ha=>(h.sV i c a hc ha).le (jW hb),h.fl,h.ok⟩
theorem xI.node{w:World}{L:TL}{s:aC}{st:List eS}(h:xI w L s st){i:Nat}(hi:i < s.aF.length):
  ∃b off c a x,s.aF[i]? =some c∧st[i]? =some x∧L.A=some ⟨b,off,none⟩∧eE w b (off+i*11) (sO c a x)∧aI (all w) 1 a.1 c.src.length (aL c.src):=by
 obtain⟨c,hc⟩:=get_some hi;obtain⟨a,ha⟩:=get_some (l:=L.fa) (i:=i) (by rw[h.fl];exact hi);obtain⟨x,hx⟩:=get_some (l:=st) (i:=i) (by rw[h.ok.len];exact hi)
 have hr:(kK s L.fa st)[i]? =some (sO c a x):=by
  rw[kK,List.getElem?_zipWith,hc,(List.getElem?_zip_eq_some (z:=(a,x))).2 ⟨ha,hx⟩]
 obtain⟨b,off,hA,hro⟩:=aI.row h.row (fun r hr=>by
  obtain⟨j,hj⟩:=List.getElem?_of_mem hr;rw[kK,List.getElem?_zipWith] at hj;split at hj<;>cases hj
  rfl) hr hi
 exact⟨b,off,c,a,x,hc,hx,hA,hro,h.sV i c a hc ha⟩
def uA(s:aC)(fa:List (Option Addr×Nat))(p:Piece):Prop:=∀(i:Nat) (c:eG) (a:Option Addr×Nat),s.aF[i]? =some c→fa[i]? =some a→aI p 1 a.1 c.src.length (aL c.src)
theorem uA.le{s:aC}{fa:List (Option Addr×Nat)}(p q:Piece)(hl:p.Le q)(h:uA s fa p):uA s fa q:=fun i c a hc ha=>(h i c a hc ha).le hl
def rJ(L:TL)(s:aC)(st:List eS):HP:=HP.many [HP.aE L.t 227 [.slice L.A s.aF.length L.c],HP.own 224 11 (.slice L.A s.aF.length L.c) s.aF.length (kK s L.fa st).flatten,HP.cE (uA s L.fa) (uA.le (s:=s) (fa:=L.fa))]
theorem aKh{L:TL}{s:aC}{st:List eS}{F:Nat→Prop}{w:World}(h:(rJ L s st).sat F w)(hF:∀b,F b→b < w.heap.size)(hfl:L.fa.length=s.aF.length)(hok:qW s st):xI w L s st:=by
 obtain⟨G,g1,g2,_⟩:=h
 have h0:=g1 0 _ rfl
 have h1:=g1 1 _ rfl
 have h2:=g1 2 _ rfl
 have hl:∀i b,G i b→b < w.heap.size:=fun i b hb=>hF b (g2 i b hb)
 obtain⟨A',c',he,hs⟩:=vD (Y:=fun b=>b < w.heap.size) h1 (hl 1)
 injection he with he
 subst he;exact⟨⟨h0.2.lt,by rw[h0.2.cell];rfl⟩,hs,fun i c a hc ha=>(h2 i c a hc ha).le (fun b hb=>⟨hl 2 b hb,rfl⟩),hfl,hok⟩
theorem aJp(t n c b off i:Nat)(w:World)(h0:fO w t 0 (.slice (some ⟨b,off,none⟩) n c))(hi:i < n):
  Cz 88 #[pt t,iv (i:Int)] w (Rt (.pointer (some ⟨b,off+i*11,none⟩)) w):=by
 refine aN func88 ntmps88 ?_;refine aA ?_;refine bU (t:=11) rfl (fun h=>absurd h (by omega)) (fun _=>?_);refine aA ?_;refine aG rfl (fun h=>absurd h (by omega)) (fun _=>?_);refine aA ?_;refine kd (dat i (off+i*11)) ?_;refine aA ?_;exact cZ
theorem aJo(t n c:Nat)(A:Option Addr)(i:Int)(w:World)(h0:fO w t 0 (.slice A n c))(hi:bN n i=false):
  Cz 88 #[pt t,iv i] w (Rt (.pointer none) w):=by
 have hi:=of_decide_eq_false hi
 refine aN func88 ntmps88 ?_;refine aA ?_;refine bU (t:=11) rfl (fun h=>?_) (fun h=>?_)
 ·refine aA ?_;exact cZ
 ·refine aA ?_;refine aG rfl (fun h=>?_) (fun h=>absurd hi (by omega));refine aA ?_;exact cZ
theorem Su(L:TL)(s:aC)(st:List eS)(i f:Nat)(c:eG)(fs:List Int)(w:World)(hR:xI w L s st)(hi:s.aF[i]? =some c)(hf:c.src=(f:Int)::fs):
  Cz 90 #[.pointer (some ⟨L.t,0,none⟩),iv (i:Int)] w (Rt (iv (f:Int)) w):=by
 have hlt:i < s.aF.length:=(List.getElem?_eq_some_iff.1 hi).1
 obtain⟨b,off,c',a,x,hc,hx,hA,hro,hs⟩:=hR.node hlt;obtain rfl:c=c':=by rw[hi] at hc;exact Option.some.inj hc
 have h0:=hR.r0
 rw[hA] at h0
 have h1:=hro.at_ (j:=1) rfl
 have h8:=hro.at_ (j:=8) rfl
 rw[hf] at h1 hs;obtain⟨b2,o2,hA2,qL,qN⟩:=hs.2 (by simp);rw[hA2] at h1
 have h2:fO w b2 o2 (iv (f:Int)):=⟨qL,qN 0 _ rfl⟩
 refine aN func90 ntmps90 ?_;refine aA ?_;refine kd (dat i (off+i*11)) ?_;refine aA ?_;refine mM ?_;refine jC ?_;refine xF (dat 0 o2 (hlt:=by simp)) ?_;refine jD ?_;refine aA ?_;exact cZ
theorem aS5(L:TL)(s:aC)(st:List eS)(hH:s.cX)(b1 b2:Nat):∀(i:Nat),i < s.aF.length→∀w,xI w L s st→fO w b1 0 (.pointer (some ⟨L.t,0,none⟩))→fO w b2 0 (.func (.func 89) #[] #[pt b1,pt b2])→
  Cz 89 #[iv (i:Int),pt b1,pt b2] w (Rt (.bool (runs s st i)) w):=by
 intro i
 induction i using Nat.strongRecOn with
 | _ i ih =>
  intro hlt w hR Hv eY;obtain⟨b,off,c,a,x,hc,hx,hA,hro,hs⟩:=hR.node hlt
  have hrun:=aGx hH.t.aF hc hx
  have h0:=hR.r0
  rw[hA] at h0
  have k0:=hro.at_ (j:=0) rfl
  have k6:=hro.at_ (j:=6) rfl
  have k7:=hro.at_ (j:=7) rfl
  have Rz:∀{w1},Below w.heap.size w w1→fO w1 b1 0 (.pointer (some ⟨L.t,0,none⟩)):=fun hb=>⟨Nat.lt_of_lt_of_le Hv.1 hb.size,(hb.cell (p:=⟨_,0,none⟩) Hv.1).trans Hv.2⟩
  have go2:∀{w1},Below w.heap.size w w1→fO w1 b2 0 (.func (.func 89) #[] #[pt b1,pt b2]):=fun hb=>⟨Nat.lt_of_lt_of_le eY.1 hb.size,(hb.cell (p:=⟨_,0,none⟩) eY.1).trans eY.2⟩
  obtain⟨hsrc,hfit⟩:=hH.t.aF i c hc;refine aN func89 ntmps89 ?_;refine aA ?_;refine kd (dat i (off+i*11)) ?_;rcases hfit with⟨hk,hs0,_⟩ | hfit
  ·rw[hk] at k0;refine aA ?_;refine kA (by simp) ?_;rw[hrun,hs0];simp[rR,hk]
  obtain⟨f,fs,hf⟩:∃(f:Nat) (fs:List Int),c.src=(f:Int)::fs:=by
   cases hs0:c.src with
   | nil=>rw[hs0] at hfit;simp at hfit
   | cons f fs=>exact⟨f.toNat,fs,by have:=(hsrc f (by rw[hs0];simp)).1;rw[Int.toNat_of_nonneg this]⟩
  have Mz:f < i:=by have:=(hsrc f (by rw[hf];simp)).2;omega
  have Mt:runs s st i=(rR c x&&runs s st f):=by rw[hrun,hf];rfl
  clear hrun;rcases hfit with⟨hk,_⟩ | ⟨hk,_⟩ | ⟨hk,_⟩ | ⟨hk,_⟩
  ·rw[hk] at k0;cases tK:x.on
   ·rw[tK] at k6;refine aA ?_;refine mM ?_;refine jD ?_;refine aA ?_;refine kA (by simp) ?_;rw[Mt];simp[rR,hk,tK]
   ·rw[tK] at k6;refine aA ?_;refine mM ?_;refine jC ?_;refine Od 32 rfl (fun h=>?_) (fun h=>?_)
    ·refine jC ?_;refine tT (fun w1 mO=>Su L s st i f c fs w1 (hR.below (mO.below (by simp))) hc hf) ?_;refine jC ?_;refine Iu (fi:=[]) (vs:=[iv (f:Int)]) (ca:=[pt b1,pt b2]) (fun w1 mO=>ih f Mz (by omega) w1 (hR.below (mO.below (by simp))) (Rz (mO.below (by simp))) (go2 (mO.below (by simp)))) ?_;refine jD ?_;refine aA ?_;refine kA (by simp) ?_;rw[Mt];simp[rR,hk,tK,h]
    ·refine jD ?_;refine aA ?_;refine kA (by simp) ?_;rw[Mt];simp[rR,hk,tK,h]
  ·rw[hk] at k0;refine aA ?_;refine mM ?_;refine jC ?_;refine tT (fun w1 mO=>Su L s st i f c fs w1 (hR.below (mO.below (by simp))) hc hf) ?_;refine Iu (fi:=[]) (vs:=[iv (f:Int)]) (ca:=[pt b1,pt b2]) (fun w1 mO=>ih f Mz (by omega) w1 (hR.below (mO.below (by simp))) (Rz (mO.below (by simp))) (go2 (mO.below (by simp)))) ?_;refine jD ?_;refine aA ?_;refine kA (by simp) ?_;rw[Mt];simp[rR,hk]
  ·rw[hk] at k0;cases tK:x.on
   ·rw[tK] at k6;refine aA ?_;refine mM ?_;refine jD ?_;refine aA ?_;refine kA (by simp) ?_;rw[Mt];simp[rR,hk,tK]
   ·rw[tK] at k6;refine aA ?_;refine mM ?_;refine jC ?_;refine tT (fun w1 mO=>Su L s st i f c fs w1 (hR.below (mO.below (by simp))) hc hf) ?_;refine jC ?_;refine Iu (fi:=[]) (vs:=[iv (f:Int)]) (ca:=[pt b1,pt b2]) (fun w1 mO=>ih f Mz (by omega) w1 (hR.below (mO.below (by simp))) (Rz (mO.below (by simp))) (go2 (mO.below (by simp)))) ?_;refine jD ?_;refine aA ?_;refine kA (by simp) ?_;rw[Mt];simp[rR,hk,tK]
  ·rw[hk] at k0;refine aA ?_;refine mM ?_;refine jC ?_;refine tT (fun w1 mO=>Su L s st i f c fs w1 (hR.below (mO.below (by simp))) hc hf) ?_;refine Iu (fi:=[]) (vs:=[iv (f:Int)]) (ca:=[pt b1,pt b2]) (fun w1 mO=>ih f Mz (by omega) w1 (hR.below (mO.below (by simp))) (Rz (mO.below (by simp))) (go2 (mO.below (by simp)))) ?_;refine jD ?_;refine aA ?_;refine kA (by simp) ?_;rw[Mt];simp[rR,hk]
end
section
section
variable{N:cH}{w0 w:World}{e:Env}{R:List Piece}{H:List HP}{K:Act→World→Prop}{L:TL}{s:aC}{st:List eS}
theorem St.aCH(t:St w0 R H w)(i:Nat)(hi:H[i]? =some (rJ L s st))(hfl:L.fa.length=s.aF.length)(hok:qW s st):xI w L s st:=by
 obtain⟨F,h1,h2,_⟩:=t.chunk hi;exact aKh h1 h2 hfl hok
theorem Rd.tree(i:Nat)(hi:H[i]? =some (rJ L s st))(hfl:L.fa.length=s.aF.length)(hok:qW s st):Rd w0 R H L.t 0 (.slice L.A s.aF.length L.c):=fun w t=>(t.aCH i hi hfl hok).r0.2
theorem aDm(hfl:L.fa.length=s.aF.length)(hok:qW s st):(kK s L.fa st).length=s.aF.length∧∀r∈kK s L.fa st,r.length=11:=by
 have:=hok.len
 refine⟨by simp[kK];omega,fun r hr=>?_⟩;obtain⟨j,hj⟩:=List.getElem?_of_mem hr;rw[kK,List.getElem?_zipWith] at hj;split at hj<;>cases hj
 rfl
theorem Qg{i:Nat}{c:eG}{a:Option Addr×Nat}{x:eS}(hc:s.aF[i]? =some c)(ha:L.fa[i]? =some a)(hx:st[i]? =some x):(kK s L.fa st)[i]? =some (sO c a x):=by
 rw[kK,List.getElem?_zipWith,hc,(List.getElem?_zip_eq_some (z:=(a,x))).2 ⟨ha,hx⟩]
theorem aHo{i:Nat}{c:eG}{a:Option Addr×Nat}{x:eS}(hc:s.aF[i]? =some c)(ha:L.fa[i]? =some a)(hi:i < st.length):(kK s L.fa st).set i (sO c a x)=kK s L.fa (st.set i x):=by
 refine List.ext_getElem? fun j=>?_;rw[List.getElem?_set]
 by_cases he:i=j
 ·subst he;rw[if_pos rfl,Qg hc ha (x:=x) (by rw[List.getElem?_set_self hi])];rw[if_pos]
  have h1:=(List.getElem?_eq_some_iff.1 hc).1
  have h2:=(List.getElem?_eq_some_iff.1 ha).1
  simp[kK];omega
 ·rw[if_neg he,kK,kK,List.getElem?_zipWith,List.getElem?_zipWith]
  have hz:(L.fa.zip st)[j]? =(L.fa.zip (st.set i x))[j]? :=by
   rw[List.zip_eq_zipWith,List.zip_eq_zipWith,List.getElem?_zipWith,List.getElem?_zipWith,List.getElem?_set_ne he]
  rw[hz]
theorem St.aL0{g:Nat}{cs:List Value}(t:St w0 R H w)(i j:Nat)(hi:H[i]? =some (HP.aE g 224 cs))(hj:H[j]? =some (HP.many [HP.aE L.t 227 [.slice (some ⟨g,0,none⟩) s.aF.length L.c],cM,HP.cE (uA s L.fa) (uA.le (s:=s) (fa:=L.fa))]))(hA:L.A=some ⟨g,0,none⟩)(h2:cs.take (s.aF.length*11)=(kK s L.fa st).flatten)(hfl:L.fa.length=s.aF.length)(hok:qW s st):xI w L s st:=by
 obtain⟨iM,iL⟩:=aDm hfl hok
 have hb:=t.aE hi
 obtain⟨F,⟨G,g1,g2,_⟩,hlt,_⟩:=t.chunk hj
 have h0:=g1 0 _ rfl
 have aP0:=g1 2 _ rfl
 refine⟨⟨h0.2.lt,by rw[h0.2.cell,hA];rfl⟩,⟨by rw[aCU _ iL,iM],fun _=>⟨g,0,hA,hb.lt,fun k u hu=>?_⟩⟩,fun k c a hc ha=>(aP0 k c a hc ha).le (fun b hbG=>⟨hlt b (g2 2 b hbG),rfl⟩),hfl,hok⟩;rw[←h2] at hu;rw[Nat.zero_add]
 show w.cell? _=_
 rw[hb.cell]
 have hk:k < s.aF.length*11:=by
  rcases Nat.lt_or_ge k (s.aF.length*11) with h | h
  ·exact h
  ·rw[List.getElem?_eq_none (by rw[List.length_take];omega)] at hu;cases hu
 rw[List.getElem?_take_of_lt hk] at hu
 simpa using hu
theorem aJW(i:Nat)(hi:H[i]? =some (rJ L s st))(hn:0 < s.aF.length)(h:∀g cs,L.A=some ⟨g,0,none⟩→cs.length=L.c*11→cs.take (s.aF.length*11)=(kK s L.fa st).flatten→s.aF.length≤L.c→L.c≤maxLen→
  XK N w0 K e R (HP.aE g 224 cs::H.set i (HP.many [HP.aE L.t 227 [.slice L.A s.aF.length L.c],cM,HP.cE (uA s L.fa) (uA.le (s:=s) (fa:=L.fa))]))):XK N w0 K e R H:=by
 refine oO i 1 hi rfl ?_;refine aCa 0 rfl hn fun g hA=>?_;dsimp only[List.set];rw[hA];refine Tb 0 rfl fun cs h1 h2 h3 h4=>?_
 have:=h g cs hA h1 h2 h3 h4
 rw[hA] at this;exact this
theorem Bp(i:Nat){g:Nat}{cs:List Value}{st':List eS}(hA:L.A=some ⟨g,0,none⟩)(h1:cs.length=L.c*11)(h2:cs.take (s.aF.length*11)=(kK s L.fa st').flatten)(h3:s.aF.length≤L.c)(h4:L.c≤maxLen)
  (hi:H[i]? =some (HP.many [HP.aE L.t 227 [.slice (some ⟨g,0,none⟩) s.aF.length L.c],cM,HP.cE (uA s L.fa) (uA.le (s:=s) (fa:=L.fa))]))
  (h:XK N w0 K e R (H.set i (rJ L s st'))):XK N w0 K e R (HP.aE g 224 cs::H):=by
 refine Oj 0 (n:=s.aF.length) (c:=L.c) (sz:=11) rfl h1 h2 h3 h4 ?_;dsimp only[List.set];rw[←hA] at hi⊢;exact sX i 1 hi rfl h
end
theorem Zb(L:TL)(s:aC)(st:List eS)(hH:s.cX)(i:Int)(w:World)(hR:xI w L s st):
  Cz 41 #[.pointer (some ⟨L.t,0,none⟩),iv i] w (Rt (.bool (qG s st i)) w):=by
 cases hi:bN s.aF.length i
 ·refine aN func41 ntmps41 ?_;refine aA ?_;refine bF fun g1=>?_;refine aA ?_;refine aU (fun w1 t=>aJo L.t s.aF.length L.c L.A i w1 ((hR.below (t.below (by simp))).r0) hi) ?_;refine aA ?_;refine kA (by simp) ?_;simp[qG,hi]
 ·obtain⟨n,rfl⟩:∃n:Nat,i=n:=⟨i.toNat,by have:=of_decide_eq_true hi;omega⟩
  have hlt:n < s.aF.length:=by have:=of_decide_eq_true hi;omega
  obtain⟨b,off,c,a,x,hc,hx,hA,_⟩:=hR.node hlt;refine aN func41 ntmps41 ?_;refine aA ?_;refine bF fun g1=>?_;refine aA ?_;refine aU (fun w1 t=>aJp L.t s.aF.length L.c b off n w1 (by rw[←hA];exact(hR.below (t.below (by simp))).r0) hlt) ?_;refine aA ?_;refine bT fun g2=>?_;refine aA ?_;refine kS (vf:=[]) (vc:=[pt g1,pt g2]) rfl rfl (by decide) ?_;refine aA ?_;refine aBd (fi:=[]) (vs:=[iv (n:Int)]) (ca:=[pt g1,pt g2]) (fun w1 t=>aS5 L s st hH g1 g2 n hlt w1 (hR.below (t.below (by simp))) ((t.box (i:=1) rfl).at_ (j:=0) rfl) ((t.box (i:=0) rfl).at_ (j:=0) rfl)) ?_;refine aA ?_;refine kA (by simp) ?_;simp[qG,hi]
theorem aS7(L:TL)(s:aC)(st:List eS)(hfl:L.fa.length=s.aF.length)(hok:qW s st)(i:Int)(on:Bool)(w:World)(F:Nat→Prop)(hp:(rJ L s st).sat F w)(hF:∀b,F b→b < w.heap.size):
  Cz 228 #[.pointer (some ⟨L.t,0,none⟩),iv i,.bool on] w (Wr (iv (lD s st i on).1) (rJ L s (lD s st i on).2) w F):=by
 cases hi:bN s.aF.length i
 ·have hr:lD s st i on=(4,st):=by simp[lD,hi]
  rw[hr];refine dB func228 ntmps228 hp hF ?_;refine aA ?_;refine aU (fun w1 t=>aJo L.t s.aF.length L.c L.A i w1 ((t.aCH 0 rfl hfl hok).r0) hi) ?_;refine aA ?_;exact cI 0 hF
 ·obtain⟨n,rfl⟩:∃n:Nat,i=n:=⟨i.toNat,by have:=of_decide_eq_true hi;omega⟩
  have hlt:n < s.aF.length:=by have:=of_decide_eq_true hi;omega
  have hl:=hok.len
  obtain⟨c,hc⟩:=get_some hlt;obtain⟨a,ha⟩:=get_some (l:=L.fa) (i:=n) (by omega);obtain⟨x,hx⟩:=get_some (l:=st) (i:=n) (by omega);obtain⟨iM,iL⟩:=aDm hfl hok;refine dB func228 ntmps228 hp hF ?_;refine aJW 0 rfl (by omega) fun g cs hA h1 h2 h3 h4=>?_;dsimp only[List.set];rw[hA]
  have hs:=Ib h2 iM iL (Qg hc ha hx)
  have hlen:n*11+11≤cs.length:=by omega
  refine aZ 1 0 ?_;refine aA ?_;refine aU (fun w1 t=>aJp L.t s.aF.length L.c g 0 n w1 ((t.box (i:=0) rfl).at_ (j:=0) rfl) hlt) ?_;refine aM 1 0 ?_;rw[Nat.zero_add];refine aA ?_
  have hpq:∀x':eS,(kK s L.fa st).set n (sO c a x')=kK s L.fa (st.set n x'):=fun x'=>aHo hc ha (by omega)
  refine bU (t:=19) rfl (fun hk=>?_) (fun hk=>?_)
  ·refine aA ?_;refine aG rfl (fun hg=>?_) (fun hg=>?_)
   ·have hr:lD s st (n:Int) on=(1,st):=by simp[lD,hi,hc,hx,hk,hg]
    rw[hr];refine aA ?_;refine Bp 0 hA h1 h2 h3 h4 rfl ?_;exact cI 0 hF
   ·have hg:c.kind=103:=Classical.not_not.1 hg
    have hr:lD s st (n:Int) on=(0,st.set n ⟨on,x.left⟩):=by simp[lD,hi,hc,hx,hg,Gw]
    rw[hr]
    have hs1:=hs.set 6 (.bool on) (by simp[sO]) (by omega)
    have vU:=(wG.refl cs (n*11) 11).set 6 (.bool on) (by decide)
    have gQ:=Ft (r':=sO c a ⟨on,x.left⟩) h2 iM iL hlt (by omega) rfl hs1 vU
    rw[hpq] at gQ;refine aA ?_;refine bU (t:=37) rfl (fun h=>absurd h hk) (fun _=>?_);refine aA ?_;refine Bp 0 hA (by simpa using h1) gQ h3 h4 rfl ?_;exact cI 0 hF
  ·have hk:c.kind=112:=Classical.not_not.1 hk
   have hs1:=hs.set 6 (.bool on) (by simp[sO]) (by omega)
   have vU:=(wG.refl cs (n*11) 11).set 6 (.bool on) (by decide)
   cases on
   ·have hr:lD s st (n:Int) false=(0,st.set n ⟨false,c.lock⟩):=by simp[lD,hi,hc,hx,hk,Gw]
    rw[hr];refine aA ?_;refine bU (t:=37) rfl (fun _=>?_) (fun h=>absurd hk h)
    have gB:=hs1.set 7 (iv c.lock) (by simp[sO]) (by simp;omega)
    have hu2:=vU.set 7 (iv c.lock) (by decide)
    have gQ:=Ft (r':=sO c a ⟨false,c.lock⟩) h2 iM iL hlt (by omega) rfl gB hu2
    rw[hpq] at gQ;refine aA ?_;refine Bp 0 hA (by simpa using h1) gQ h3 h4 rfl ?_;exact cI 0 hF
   ·have hr:lD s st (n:Int) true=(0,st.set n ⟨true,x.left⟩):=by simp[lD,hi,hc,hx,hk,Gw]
    rw[hr]
    have gQ:=Ft (r':=sO c a ⟨true,x.left⟩) h2 iM iL hlt (by omega) rfl hs1 vU
    rw[hpq] at gQ;refine aA ?_;refine bU (t:=37) rfl (fun _=>?_) (fun h=>absurd hk h);refine aA ?_;refine Bp 0 hA (by simpa using h1) gQ h3 h4 rfl ?_;exact cI 0 hF
end
section
theorem aI.zR{p:Piece}{sz n:Nat}{A:Option Addr}{rows:List (List Value)}(h:aI p sz A n rows.flatten)(hl:∀r∈rows,r.length=sz){k:Nat}{r:List Value}(hk:rows[k]? =some r)(hn:k < n):
  ∃b off,A=some ⟨b,off,none⟩∧p.Z b∧∀j u,r[j]? =some u→p.w.cell? ⟨b,off+k*sz+j,none⟩=some u:=by
 obtain⟨b,off,hA,hz,hc⟩:=aI.at_ h hn;refine⟨b,off,hA,hz,fun j u hu=>hc j u ?_⟩
 have hj:j < sz:=by
  rw[←hl r (List.mem_of_getElem? hk)];exact(List.getElem?_eq_some_iff.1 hu).1
 rw[Yg rows hl k j r hk hj,hu]
theorem aUz{w0:World}{R:List Piece}{H:List HP}{p:Piece}{b o:Nat}{vs:List Value}(hp:p∈R)(hz:p.Z b)(h:∀j u,vs[j]? =some u→p.w.cell? ⟨b,o+j,none⟩=some u):aQ w0 R H b o vs:=.of fun j v hj=>Rd.ro hp hz (h j v hj)
theorem Sw(s:aC)(A1 A2 A3 A4:Option Addr)(n1 k1 n2 k2 n3 k3 n4 k4:Nat)(w:World)(hW:fM w s A1 n1 A2 n2 A3 n3 A4 n4)(aDX:Zc s=0):
  Cz 62 #[.agg #[.slice A1 n1 k1,.slice A2 n2 k2,.slice A3 n3 k3,.slice A4 n4 k4]] w (Rt (iv 0) w):=by
 have:=aBD s A1 A2 A3 A4 n1 k1 n2 k2 n3 k3 n4 k4 w hW
 rw[aDX] at this;exact this
def aKg(s:aC)(v:Value)(hs:List HP)(_:Piece):Prop:=∃L:TL,v=.tuple #[.pointer (some ⟨L.t,0,none⟩),iv 0]∧hs=[rJ L s (s.aF.map yW)]∧L.fa.length=s.aF.length
theorem aS8(s:aC)(hH:s.cX)(A1 A2 A3 A4:Option Addr)(n1 k1 n2 k2 n3 k3 n4 k4:Nat)(w:World)(hW:fM w s A1 n1 A2 n2 A3 n3 A4 n4):
  Cz 68 #[.agg #[.slice A1 n1 k1,.slice A2 n2 k2,.slice A3 n3 k3,.slice A4 n4 k4]] w (fun y w'=>(∃v hs q,y=.returned v∧q.w=w'∧aKg s v hs q∧kC w hs q)∧Below w.heap.size w w'):=by
 have hnc:=hH.t.nc
 have Ka:∀d∈s.aD,d.aP.length≤1000000:=fun d hd=>by
  obtain⟨i,hi⟩:=List.getElem?_of_mem hd
  have:=hH.t.aD i d hi
  unfold bQ.fit at this;omega
 refine aN func68 ntmps68 ?_;refine aB ?_;refine bF fun g1=>?_;refine aB ?_;refine aU (fun w1 t=>Sw s A1 A2 A3 A4 n1 k1 n2 k2 n3 k3 n4 k4 w1 (hW.le (t.started (by simp))) hH.t.Sv) ?_;refine aB ?_;refine bF fun g2=>?_;refine aB ?_;refine jS [] (aCt s) (fun w1 t=>aE5 s A1 A2 A3 A4 n1 k1 n2 k2 n3 k3 n4 k4 w1 (hW.le (t.started (by simp))) Ka) ?_;rintro _ w1 q1 ⟨cs1,rfl,hS⟩ gQ _ aDQ
 have aDQ:=aDQ (by simp)
 obtain⟨B1,m1,j1,B2,m2,j2,B3,m3,j3,B4,m4,j4,rfl,hSQ⟩:=(hS.mono (oF gQ)).Q;clear gQ hS;obtain⟨rc,hrc,Wv,hsc⟩:=hSQ.jO;obtain⟨fa,hfl,rfl,hfa⟩:=aE7 hrc;subst Wv;obtain⟨iD,hcr⟩:=aAn (f:=Bi) (es:=s.aF) (bs:=fa) (sz:=6) hfl (fun _ _=>rfl)
 have hl0:(s.aF.map yW).length=s.aF.length:=by simp
 refine kd (aRR (off:=0) (cs:=[.slice B1 s.aF.length j1,.slice B2 m2 j2,.slice B3 m3 j3,.slice B4 m4 j4]) (by kernel_rfl) rfl rfl) ?_;refine aB ?_;refine iR 224 11 ?_;refine bL [(20,iv 0),(19,iv s.aF.length),(18,.slice B1 s.aF.length j1),(5,pt g2)] ?_;refine eJ (fun m e R H=>∃(i:Nat) (A:Option Addr) (k:Nat),i≤s.aF.length∧m=s.aF.length - i∧e=[(20,iv i),(19,iv s.aF.length),(18,.slice B1 s.aF.length j1),(5,pt g2)]∧R=[q1,all w]∧H=[HP.own 224 11 (.slice A i k) i ((kK s fa (s.aF.map yW)).take i).flatten,HP.aE g2 227 [.slice A i k],HP.aE g1 30 [.slice A1 n1 k1,.slice A2 n2 k2,.slice A3 n3 k3,.slice A4 n4 k4]]) s.aF.length ⟨0,none,0,by omega,rfl,rfl,rfl,by simp⟩ fun m e R H hI=>?_;obtain⟨i,A,k,hi,rfl,rfl,rfl,rfl⟩:=hI;refine aB ?_;refine aG rfl (fun hlt=>?_) (fun hge=>?_)
 ·have hlt:i < s.aF.length:=by omega
  obtain⟨c,hc⟩:=get_some hlt;obtain⟨a,ha⟩:=get_some (l:=fa) (i:=i) (by omega);obtain⟨b,off,hB,hz,hcell⟩:=aI.zR hsc hcr (Ub hc ha) hlt;subst hB
  have hrow:(kK s fa (s.aF.map yW))[i]? =some (sO c a (yW c)):=Qg (L:=⟨0,none,0,fa⟩) hc ha (by rw[List.getElem?_map,hc];rfl)
  have dU:((kK s fa (s.aF.map yW)).take (i+1)).flatten=((kK s fa (s.aF.map yW)).take i).flatten++sO c a (yW c):=by
   rw[List.take_succ,hrow,List.flatten_append];simp
  have Wn:∀H,aQ w [q1,all w] H b (off+i*6) (Bi c a):=fun H=>aUz (by simp) hz hcell
  have aUE:=Wn [HP.own 224 11 (.slice A i k) i ((kK s fa (s.aF.map yW)).take i).flatten,HP.aE g2 227 [.slice A i k],HP.aE g1 30 [.slice A1 n1 k1,.slice A2 n2 k2,.slice A3 n3 k3,.slice A4 n4 k4]]
  refine aA ?_;refine kd (dat i (off+i*6)) ?_;refine aB ?_;refine bT fun g3=>?_;obtain⟨kdx,src,rate,mul,dv,lock⟩:=c;dsimp only[Bi];refine aB ?_;refine bT fun g4=>?_
  have hfit:=(hH.t.aF i _ hc).2
  dsimp only at hfit;rcases hfit with⟨rfl,_⟩ | ⟨rfl,_⟩ | ⟨rfl,_⟩ | ⟨rfl,_⟩ | ⟨rfl,_⟩
  ·skip
   refine aA ?_;refine iO [2,3,4,5] ?_;refine bH 0 ?_;refine bH 1 ?_;refine aK 2 ?_;refine aK 3 ?_;refine aK 4 ?_;refine aK 5 ?_;refine aJ 6 ?_;refine eK fun g5=>?_;refine bB ?_;refine aJ 7 ?_;refine gM 3 11 104 1 (el:=224) (by kernel_rfl) (by kernel_rfl) (by decide) rfl rfl rfl (nS 0 rfl rfl) (by simp[Value.oneCell']) rfl (by omega) (by omega) (by decide) fun A' k'=>?_;dsimp only[List.set];refine bO ?_;refine aJ 8 ?_;refine bA ?_;refine bO ?_;refine aJ 9 ?_;refine bA ?_;refine bO ?_;refine aJ 10 ?_;refine fF rfl rfl ?_;dsimp only[List.set];refine bO ?_;refine eN ?_;refine aA ?_;refine aY [3,4,5] rfl (by decide) (fun _ h=>h) ?_;exact dX (s.aF.length - (i+1)) ⟨i+1,A',k',hlt,rfl,rfl,rfl,by rw[dU]⟩
  ·skip
   refine aA ?_;refine iO [2,3,4,5] ?_;refine bH 0 ?_;refine bH 1 ?_;refine aK 2 ?_;refine aK 3 ?_;refine aK 4 ?_;refine aK 5 ?_;refine aJ 6 ?_;refine eK fun g5=>?_;refine bB ?_;refine aJ 7 ?_;refine gM 3 11 104 1 (el:=224) (by kernel_rfl) (by kernel_rfl) (by decide) rfl rfl rfl (nS 0 rfl rfl) (by simp[Value.oneCell']) rfl (by omega) (by omega) (by decide) fun A' k'=>?_;dsimp only[List.set];refine bO ?_;refine aJ 8 ?_;refine bA ?_;refine bO ?_;refine aJ 9 ?_;refine bA ?_;refine bO ?_;refine aJ 10 ?_;refine fF rfl rfl ?_;dsimp only[List.set];refine bO ?_;refine eN ?_;refine aA ?_;refine aY [3,4,5] rfl (by decide) (fun _ h=>h) ?_;exact dX (s.aF.length - (i+1)) ⟨i+1,A',k',hlt,rfl,rfl,rfl,by rw[dU]⟩
  ·skip
   refine aA ?_;refine iO [2,3,4,5] ?_;refine bH 0 ?_;refine bH 1 ?_;refine aK 2 ?_;refine aK 3 ?_;refine aK 4 ?_;refine aK 5 ?_;refine aJ 6 ?_;refine eK fun g5=>?_;refine bB ?_;refine aJ 7 ?_;refine gM 3 11 104 1 (el:=224) (by kernel_rfl) (by kernel_rfl) (by decide) rfl rfl rfl (nS 0 rfl rfl) (by simp[Value.oneCell']) rfl (by omega) (by omega) (by decide) fun A' k'=>?_;dsimp only[List.set];refine bO ?_;refine aJ 8 ?_;refine bA ?_;refine bO ?_;refine aJ 9 ?_;refine bA ?_;refine bO ?_;refine aJ 10 ?_;refine fF rfl rfl ?_;dsimp only[List.set];refine bO ?_;refine eN ?_;refine aA ?_;refine aY [3,4,5] rfl (by decide) (fun _ h=>h) ?_;exact dX (s.aF.length - (i+1)) ⟨i+1,A',k',hlt,rfl,rfl,rfl,by rw[dU]⟩
  ·skip
   refine aA ?_;refine iO [2,3,4,5] ?_;refine bH 0 ?_;refine bH 1 ?_;refine aK 2 ?_;refine aK 3 ?_;refine aK 4 ?_;refine aK 5 ?_;refine aJ 6 ?_;refine eK fun g5=>?_;refine bB ?_;refine aJ 7 ?_;refine gM 3 11 104 1 (el:=224) (by kernel_rfl) (by kernel_rfl) (by decide) rfl rfl rfl (nS 0 rfl rfl) (by simp[Value.oneCell']) rfl (by omega) (by omega) (by decide) fun A' k'=>?_;dsimp only[List.set];refine bO ?_;refine aJ 8 ?_;refine bA ?_;refine bO ?_;refine aJ 9 ?_;refine bA ?_;refine bO ?_;refine aJ 10 ?_;refine fF rfl rfl ?_;dsimp only[List.set];refine bO ?_;refine eN ?_;refine aA ?_;refine aY [3,4,5] rfl (by decide) (fun _ h=>h) ?_;exact dX (s.aF.length - (i+1)) ⟨i+1,A',k',hlt,rfl,rfl,rfl,by rw[dU]⟩
  ·skip
   refine aA ?_;refine iO [2,3,4,5] ?_;refine bH 0 ?_;refine bH 1 ?_;refine aK 2 ?_;refine aK 3 ?_;refine aK 4 ?_;refine aK 5 ?_;refine aJ 6 ?_;refine eK fun g5=>?_;refine bB ?_;refine aJ 7 ?_;refine gM 3 11 104 1 (el:=224) (by kernel_rfl) (by kernel_rfl) (by decide) rfl rfl rfl (nS 0 rfl rfl) (by simp[Value.oneCell']) rfl (by omega) (by omega) (by decide) fun A' k'=>?_;dsimp only[List.set];refine bO ?_;refine aJ 8 ?_;refine bA ?_;refine bO ?_;refine aJ 9 ?_;refine bA ?_;refine bO ?_;refine aJ 10 ?_;refine fF rfl rfl ?_;dsimp only[List.set];refine bO ?_;refine eN ?_;refine aA ?_;refine aY [3,4,5] rfl (by decide) (fun _ h=>h) ?_;exact dX (s.aF.length - (i+1)) ⟨i+1,A',k',hlt,rfl,rfl,rfl,by rw[dU]⟩
 ·obtain rfl:i=s.aF.length:=by omega
  refine aB ?_
  have hfull:(kK s fa (s.aF.map yW)).take s.aF.length=kK s fa (s.aF.map yW):=List.take_of_length_le (by simp[kK];omega)
  rw[hfull];refine aY [1,0] rfl (by decide) (fun _ h=>h) ?_;refine Of aDQ (by simp[all]) (Φ:=uA s fa) (hm:=uA.le (s:=s) (fa:=fa)) (fun i c a hc ha=>hfa i c a hc ha) ?_;refine aY [1,2,0] rfl (by decide) (fun _ h=>h) ?_;refine Zt ?_;refine dP [] [] [0] (by simp) rfl (by decide) (by decide) fun q _ _ hfr=>?_;exact eL rfl rfl rfl fun w1 t=>⟨⟨_,_,⟨w1,q.Z⟩,rfl,rfl,⟨⟨g2,A,k,fa⟩,rfl,rfl,hfl⟩,t.newR (by simp) (by simp) (hfr (by simp) (by simp))⟩,t.below (by simp)⟩
end
section
def jI(r:Int)(x:kJ):Value:=.agg #[iv r,iv x.left,.bool x.held,.bool x.wanted]
def Mk(s:aC)(st:List kJ)(i:Nat):Int×Value:=((i:Int),jI (s.aR.getD i 0) (st.getD i sQ))
def oJ(s:aC)(st:List kJ):List (Int×Value):=(List.range st.length).map (Mk s st)
theorem aH1(f:Nat→Value)(n:Nat)(i:Int):nI ((List.range n).map fun j:Nat=>((j:Int),f j)) i=if bN n i then some (f i.toNat) else none:=by
 induction n with
 | zero=>
  have:bN 0 i=false:=decide_eq_false (by omega)
  rw[this];rfl
 | succ n ih =>
  have h0:nI ((List.range (n+1)).map fun j:Nat=>((j:Int),f j)) i=(nI ((List.range n).map fun j:Nat=>((j:Int),f j)) i).or (nI [((n:Int),f n)] i):=by
   rw[List.range_succ,List.map_append];unfold nI;rw[List.find?_append];cases List.find? (fun p=>decide (p.1=i)) ((List.range n).map fun j:Nat=>((j:Int),f j))<;>rfl
  rw[h0,ih]
  by_cases h1:bN n i=true
  ·have:bN (n+1) i=true:=by have:=of_decide_eq_true h1;exact decide_eq_true (by omega)
   rw[if_pos h1,if_pos this];rfl
  ·have hf:bN n i=false:=by simpa using h1
   have:=of_decide_eq_false hf
   rw[if_neg h1,Qk]
   by_cases h2:(n:Int)=i
   ·subst h2
    have:bN (n+1) (n:Int)=true:=decide_eq_true (by omega)
    rw[if_pos rfl,if_pos this];rfl
   ·have h3:bN (n+1) i=false:=decide_eq_false (by omega)
    rw[if_neg h2,h3];rfl
theorem aO0(f : Nat → Value)(n i : Nat)(v : Value)(hi : i < n) : pE ((List.range n).map fun j : Nat => ((j : Int), f j)) (i : Int) v = (List.range n).map fun j : Nat => ((j : Int), if j = i then v else f j) := by
  have key:∀(l:List Nat),i∈l→l.Nodup→pE (l.map fun j:Nat=>((j:Int),f j)) (i:Int) v=l.map fun j:Nat=>((j:Int),if j=i then v else f j):=by
    intro l
    induction l with
    | nil=>intro h;simp at h
    | cons a l ih =>
      intro h hn;rw[List.map_cons,pE,List.map_cons]
      by_cases ha:(a:Int)=(i:Int)
      · have yO:a=i:=by omega
        subst yO;rw[if_pos rfl,if_pos rfl]
        congr 1
        refine List.map_congr_left fun j hj=>?_;rw[if_neg (fun he:j=a=>(List.nodup_cons.1 hn).1 (he▸hj))]
      · rw[if_neg ha,if_neg (by omega)]
        congr 1
        exact ih (by rcases List.mem_cons.1 h with h | h
                     · omega
                     · exact h) (List.nodup_cons.1 hn).2
  exact key _ (List.mem_range.2 hi) List.nodup_range
theorem aH2{s:aC}{st:List kJ}(i:Int):nI (oJ s st) i=if bN st.length i then some (jI (s.aR.getD i.toNat 0) (st.getD i.toNat sQ)) else none:=aH1 (fun j=>jI (s.aR.getD j 0) (st.getD j sQ)) st.length i
theorem aDo{s:aC}{st:List kJ}{i:Nat}{x:kJ}{r:Int}(hr:s.aR.getD i 0=r)(hi:i < st.length):pE (oJ s st) (i:Int) (jI r x)=oJ s (st.set i x):=by
 have:=aO0 (fun j=>jI (s.aR.getD j 0) (st.getD j sQ)) st.length i (jI r x) hi
 refine this.trans ?_;unfold oJ;rw[List.length_set];refine List.map_congr_left fun j hj=>?_;unfold Mk
 congr 1
 by_cases he:j=i
 ·subst he;rw[if_pos rfl,←hr,List.getD_eq_getElem?_getD (l:=st.set j x),List.getElem?_set_self hi];rfl
 ·rw[if_neg he,List.getD_eq_getElem?_getD (l:=st.set i x),List.getElem?_set_ne (Ne.symm he),List.getD_eq_getElem?_getD (l:=st)]
structure RL where
 t:Nat
 g:Nat
def qU(L:RL)(s:aC)(st:List kJ):HP:=HP.many [HP.aE L.t 277 [.map (some L.g)],HP.map L.g (oJ s st)]
structure Lr(w:World)(L:RL)(s:aC)(st:List kJ):Prop where
 r0:fO w L.t 0 (.map (some L.g))
 m:sH w L.g (oJ s st)
theorem Lr.below{w w':World}{L:RL}{s:aC}{st:List kJ}(h:Lr w L s st)(hb:Below w.heap.size w w'):Lr w' L s st:=
 ⟨⟨Nat.lt_of_lt_of_le h.r0.1 hb.size,(hb.cell (p:=⟨_,0,none⟩) h.r0.1).trans h.r0.2⟩,h.m.below hb⟩
section
variable{N:cH}{w0 w:World}{e:Env}{R:List Piece}{H:List HP}{K:Act→World→Prop}{L:RL}{s:aC}{st:List kJ}
theorem aKz{F:Nat→Prop}(h:(qU L s st).sat F w):Lr w L s st:=by
 obtain⟨G,g1,g2,_⟩:=h
 have h0:=g1 0 _ rfl
 exact⟨⟨h0.2.lt,by rw[h0.2.cell];rfl⟩,(g1 1 _ rfl).2⟩
theorem St.Qs(t:St w0 R H w)(i:Nat)(hi:H[i]? =some (qU L s st)):Lr w L s st:=by
 obtain⟨F,h1,h2,_⟩:=t.chunk hi;exact aKz h1
end
theorem aHE:(Tryz.prog.info? 233).bind (·.zero)=some (jI 0 ⟨0,false,false⟩):=by kernel_rfl
def uV(s:aC)(st:List kJ)(i:Int):Value:=if bN st.length i then jI (s.aR.getD i.toNat 0) (st.getD i.toNat sQ) else jI 0 ⟨0,false,false⟩
theorem aRc(s:aC)(st:List kJ)(i:Int):∃r x,uV s st i=jI r x:=by
 unfold uV;split
 ·exact⟨_,_,rfl⟩
 ·exact⟨_,_,rfl⟩
theorem Vc(L:RL)(s:aC)(st:List kJ)(i:Int)(w:World)(hR:Lr w L s st):
  Cz 92 #[.pointer (some ⟨L.t,0,none⟩),iv i] w (Rt (.tuple #[uV s st i,.bool (bN st.length i)]) w):=by
 have h0:=hR.r0
 obtain⟨r,x,hv⟩:=aRc s st i
 have hm:=aH2 (s:=s) (st:=st) i
 have hz:(nI (oJ s st) i).getD (jI 0 ⟨0,false,false⟩)=jI r x:=by
  rw[hm,←hv,uV];split<;>rfl
 have hb:(nI (oJ s st) i).isSome=bN st.length i:=by
  rw[hm];split
  ·rename_i h;rw[h];rfl
  ·rename_i h;simp at h;rw[h];rfl
 rw[hv];refine aN func92 ntmps92 ?_;refine aA ?_;refine bT fun g1=>?_;refine aA ?_;refine aAt (kt:=3) (et:=233) (kd:=.i64) (z:=jI 0 ⟨0,false,false⟩) (l:=oJ s st) true (by kernel_rfl) (by kernel_rfl) aHE rfl rfl (fun w1 t=>(hR.below (t.below (by simp))).m) (by decide) ?_;simp only[if_true];rw[hz,hb];refine aA ?_;refine bT fun g2=>?_;unfold jI;refine aA ?_;exact xH rfl (by kernel_rfl) rfl rfl (by first | assumption | exact aQ.whole 0 rfl | exact aQ.whole 1 rfl | exact aQ.whole 2 rfl | exact aQ.whole 3 rfl | exact aQ.whole 4 rfl | exact aQ.whole 5 rfl | exact aQ.whole 6 rfl | exact aQ.whole 7 rfl | exact aQ.whole 8 rfl | exact zC (by simp) (by assumption)) rfl fun w1 t=>⟨rfl,t.below (by simp)⟩
theorem aG5(L:RL)(s:aC)(st:List kJ)(i:Int)(w:World)(hR:Lr w L s st):
  Cz 43 #[.pointer (some ⟨L.t,0,none⟩),iv i] w (Rt (.bool (Au st i)) w):=by
 refine aN func43 ntmps43 ?_;refine aA ?_;refine aU (fun w1 t=>Vc L s st i w1 (hR.below (t.below (by simp)))) ?_;refine aA ?_;refine bT fun g2=>?_;cases hi:bN st.length i
 ·have hv:uV s st i=jI 0 ⟨0,false,false⟩:=by simp[uV,hi]
  rw[hv];unfold jI;refine aA ?_;refine kA (by simp) ?_;simp[Au,hi]
 ·have hv:uV s st i=jI (s.aR.getD i.toNat 0) (st.getD i.toNat sQ):=by simp[uV,hi]
  rw[hv];unfold jI;refine aA ?_;refine kA (by simp) ?_
  have:i.toNat < st.length:=by have:=of_decide_eq_true hi;omega
  simp[Au,hi,List.getElem?_eq_getElem this]
end
section
theorem aEv:∀{cl:List Dom} {rs:List (List Value)},Rows uB 3 cl rs→rs=cl.map fun d=>[iv d.above,iv d.delay,.bool d.ret]
 | [],[],_=>rfl
 | e::es,r::rs,h=>by
  have h1:r=[iv e.above,iv e.delay,.bool e.ret]:=h.2.1
  rw[h1,aEv h.2.2];rfl
theorem aCR:∀{cl:List Int} {rs:List (List Value)},Rows xM 1 cl rs→rs=cl.map fun d=>[iv d]
 | [],[],_=>rfl
 | e::es,r::rs,h=>by
  have h1:r=[iv e]:=h.2.1
  rw[h1,aCR h.2.2];rfl
def aK7(s:aC)(v:Value)(hs:List HP)(_:Piece):Prop:=∃L:GL,v=.tuple #[.pointer (some ⟨L.t,0,none⟩),iv 0]∧hs=[wM L s (s.domains.map fun _=>yV)]
theorem aND(s:aC)(hH:s.cX)(A1 A2 A3 A4:Option Addr)(n1 k1 n2 k2 n3 k3 n4 k4:Nat)(w:World)(hW:fM w s A1 n1 A2 n2 A3 n3 A4 n4):
  Cz 69 #[.agg #[.slice A1 n1 k1,.slice A2 n2 k2,.slice A3 n3 k3,.slice A4 n4 k4]] w (fun y w'=>(∃v hs q,y=.returned v∧q.w=w'∧aK7 s v hs q∧kC w hs q)∧Below w.heap.size w w'):=by
 have hnd:=hH.t.nd
 obtain⟨rd,hrd,hn2,hsd⟩:=hW.dom
 have hrd:=aEv hrd
 subst hrd;subst hn2
 have jB:(s.domains.map fun _=>yV).length=s.domains.length:=by simp
 refine aN func69 ntmps69 ?_;refine aA ?_;refine bF fun g1=>?_;refine aA ?_;refine aU (fun w1 t=>Sw s A1 A2 A3 A4 n1 k1 _ k2 n3 k3 n4 k4 w1 (hW.le (t.started (by simp))) hH.t.Sv) ?_;refine aA ?_;refine kd (fL rfl) ?_;refine bF fun g2=>?_;refine aA ?_;refine iR 231 7 ?_;refine bL [(18,iv 0),(17,iv s.domains.length),(16,.slice A2 s.domains.length k2),(5,pt g2)] ?_;refine eJ (fun m e R H=>∃(i:Nat) (A:Option Addr) (k:Nat),i≤s.domains.length∧m=s.domains.length - i∧e=[(18,iv i),(17,iv s.domains.length),(16,.slice A2 s.domains.length k2),(5,pt g2)]∧R=[all w]∧H=[HP.own 231 7 (.slice A i k) i ((rG s (s.domains.map fun _=>yV)).take i).flatten,HP.aE g2 273 [.slice A i k],HP.aE g1 30 [.slice A1 n1 k1,.slice A2 s.domains.length k2,.slice A3 n3 k3,.slice A4 n4 k4]]) s.domains.length ⟨0,none,0,by omega,rfl,rfl,rfl,by simp⟩ fun m e R H hI=>?_;obtain⟨i,A,k,hi,rfl,rfl,rfl,rfl⟩:=hI;refine aA ?_;refine aG rfl (fun hlt=>?_) (fun hge=>?_)
 ·have hlt:i < s.domains.length:=by omega
  obtain⟨c,hc⟩:=get_some hlt;obtain⟨b,off,hB,hro⟩:=aI.row hsd (fun r hr=>by obtain⟨q,_,rfl⟩:=List.mem_map.1 hr;rfl) (r:=[iv c.above,iv c.delay,.bool c.ret]) (by rw[List.getElem?_map,hc];rfl) hlt;subst hB
  have hrow:(rG s (s.domains.map fun _=>yV))[i]? =some (pY c yV):=Kw hc (by rw[List.getElem?_map,hc];rfl)
  have dU:((rG s (s.domains.map fun _=>yV)).take (i+1)).flatten=((rG s (s.domains.map fun _=>yV)).take i).flatten++pY c yV:=by
   rw[List.take_succ,hrow,List.flatten_append];simp
  refine aA ?_;refine kd (dat i (off+i*3)) ?_;refine aA ?_;refine bT fun g3=>?_;refine aA ?_;refine iO [2,3,4,5,6] ?_;refine bH 0 ?_;refine bH 1 ?_;refine aK 2 ?_;refine aK 3 ?_;refine aK 4 ?_;refine aK 5 ?_;refine aK 6 ?_ (dD:=lX (zs:=[iv 0,iv 0,.bool false,.int .u8 0,iv 0,.bool false,.bool false]) (L:=[(0,3),(3,1),(4,1),(5,1),(6,1)]) (iK (by kernel_rfl)) (by kernel_rfl) rfl (by simp[fK,gN,Value.cells];rfl));refine aJ 7 ?_;refine eK fun g5=>?_;refine bB ?_;refine aJ 8 ?_;refine gM 2 7 48 1 (el:=231) (by kernel_rfl) (by kernel_rfl) (by decide) rfl rfl rfl (nS 0 rfl rfl) (by simp[Value.oneCell']) rfl (by omega) (by omega) (by decide) fun A' k'=>?_;dsimp only[List.set];refine bO ?_;refine aJ 9 ?_;refine bA ?_;refine bO ?_;refine aJ 10 ?_;refine bA ?_;refine bO ?_;refine aJ 11 ?_;refine fF rfl rfl ?_;dsimp only[List.set];refine bO ?_;refine eN ?_;refine aA ?_;refine aY [2,3,4] rfl (by decide) (fun _ h=>h) ?_;exact dX (s.domains.length - (i+1)) ⟨i+1,A',k',hlt,rfl,rfl,rfl,by rw[dU]⟩
 ·obtain rfl:i=s.domains.length:=by omega
  refine aA ?_
  have hfull:(rG s (s.domains.map fun _=>yV)).take s.domains.length=rG s (s.domains.map fun _=>yV):=List.take_of_length_le (by simp[rG])
  rw[hfull];refine aY [1,0] rfl (by decide) (fun _ h=>h) ?_;refine nB ?_;refine dP [] [] [0] (by simp) rfl (by decide) (by decide) fun q _ _ hfr=>?_;exact eL rfl rfl rfl fun w1 t=>⟨⟨_,_,⟨w1,q.Z⟩,rfl,rfl,⟨⟨g2,A,k⟩,rfl,rfl⟩,t.newR (by simp) (by simp) (hfr (by simp) (by simp))⟩,t.below (by simp)⟩
theorem aKP{N:cH}{w0:World}{e:Env}{R:List Piece}{H:List HP}{Q:Exit→Act→World→Prop}{ops:Array Oper}{rest:List Oper}{d:Nat}{ty:TypeId}{pos:String}{aH:Array Edge}{x:Operand}{n:Int}{t kt et:TypeId}(ht:Tryz.prog.underlying t=some (.map kt et))(hx:e.ev x=some (iv n))(hd:d < N.n)(k:∀g,XK N w0 (wpList Tryz.prog ops Q rest) ((d,.map (some g))::e) R (HP.map g []::H)):XK N w0 (wpList Tryz.prog ops Q (⟨some d,.makeMap t (some x),ty,pos,aH,none⟩::rest)) e R H:=
 vJ rfl fun a w hr st=>⟨.map (some w.heap.size),w.alloc (.map #[] 0),by simp[execOp,Instr.makeMap,hr.ev hx,run_underlying ht,asInt,asIntOf],k w.heap.size _ _ (hr.put hd _) (st.new (Ny w _) ⟨⟨Nat.le_refl _,by simp⟩,#[],0,heap_alloc_new w _,rfl⟩)⟩
def aKy(s:aC)(v:Value)(hs:List HP)(_:Piece):Prop:=∃L:RL,v=.tuple #[.pointer (some ⟨L.t,0,none⟩),iv 0]∧hs=[qU L s (s.aR.map fun _=>sQ)]
theorem aOz(l:List (Int×Value))(k:Int)(v:Value)(h:nI l k=none):pE l k v=l++[(k,v)]:=by
 induction l with
 | nil=>rfl
 | cons p l ih =>
  obtain⟨a,b⟩:=p;rw[Qk] at h;rw[pE];split at h
  ·cases h
  ·rename_i hne
   rw[if_neg hne,ih h];rfl
theorem aMy(s:aC)(hH:s.cX)(A1 A2 A3 A4:Option Addr)(n1 k1 n2 k2 n3 k3 n4 k4:Nat)(w:World)(hW:fM w s A1 n1 A2 n2 A3 n3 A4 n4):
  Cz 70 #[.agg #[.slice A1 n1 k1,.slice A2 n2 k2,.slice A3 n3 k3,.slice A4 n4 k4]] w (fun y w'=>(∃v hs q,y=.returned v∧q.w=w'∧aKy s v hs q∧kC w hs q)∧Below w.heap.size w w'):=by
 have iL:=hH.t.nr
 obtain⟨rr,cK,pG,hst⟩:=hW.Co
 have cK:=aCR cK
 subst cK;subst pG
 have pU:(s.aR.map fun _=>sQ).length=s.aR.length:=by simp
 refine aN func70 ntmps70 ?_;refine aA ?_;refine bF fun g1=>?_;refine aA ?_;refine aU (fun w1 t=>Sw s A1 A2 A3 A4 n1 k1 n2 k2 _ k3 n4 k4 w1 (hW.le (t.started (by simp))) hH.t.Sv) ?_;refine aA ?_;refine aKP (kt:=3) (et:=233) (by kernel_rfl) rfl (by decide) fun gm=>?_;refine kd (fL rfl) ?_;refine bF fun g2=>?_;refine aA ?_;refine bL [(22,iv 0),(21,iv s.aR.length),(20,.slice A3 s.aR.length k3),(5,pt g2)] ?_;refine eJ (fun m e R H=>∃i:Nat,i≤s.aR.length∧m=s.aR.length - i∧e=[(22,iv i),(21,iv s.aR.length),(20,.slice A3 s.aR.length k3),(5,pt g2)]∧R=[all w]∧H=[HP.aE g2 277 [.map (some gm)],HP.map gm ((List.range i).map (Mk s (s.aR.map fun _=>sQ))),HP.aE g1 30 [.slice A1 n1 k1,.slice A2 n2 k2,.slice A3 s.aR.length k3,.slice A4 n4 k4]]) s.aR.length ⟨0,by omega,rfl,rfl,rfl,rfl⟩ fun m e R H hI=>?_;obtain⟨i,hi,rfl,rfl,rfl,rfl⟩:=hI;refine aA ?_;refine aG rfl (fun hlt=>?_) (fun hge=>?_)
 ·have hlt:i < s.aR.length:=by omega
  obtain⟨c,hc⟩:=get_some hlt;obtain⟨b,off,hB,hro⟩:=aI.row hst (fun r hr=>by obtain⟨q,_,rfl⟩:=List.mem_map.1 hr;rfl) (r:=[iv c]) (by rw[List.getElem?_map,hc];rfl) hlt;subst hB
  have jA:pE ((List.range i).map (Mk s (s.aR.map fun _=>sQ))) (i:Int) (jI c sQ)=(List.range (i+1)).map (Mk s (s.aR.map fun _=>sQ)):=by
   rw[aOz _ _ _ (by
    have:=aH1 (fun j=>jI (s.aR.getD j 0) ((s.aR.map fun _=>sQ).getD j sQ)) i (i:Int)
    rw[if_neg (by simp[bN])] at this
    exact this),List.range_succ,List.map_append]
   congr 1
   simp[Mk,List.getD_eq_getElem?_getD,hc]
  refine aA ?_;refine kd (dat i (off+i*1)) ?_;refine aA ?_;refine bT fun g3=>?_;refine aA ?_;refine iO [1,2,3,5,6,7] ?_;refine bH 0 ?_;refine aK 1 ?_;refine aK 2 ?_;refine aK 3 ?_;refine bH 4 ?_;refine aK 5 ?_;refine aK 6 ?_;refine aK 7 ?_ (dD:=lX (zs:=[iv 0,iv 0,.bool false,.bool false]) (L:=[(0,1),(1,1),(2,1),(3,1)]) (iK (by kernel_rfl)) (by kernel_rfl) rfl (by simp[fK,gN,Value.cells];rfl));refine aJ 8 ?_;refine Jh (kt:=3) (et:=233) (kd:=.i64) (l:=(List.range i).map (Mk s (s.aR.map fun _=>sQ))) (v:=jI c sQ) 2 (by kernel_rfl) (by kernel_rfl) rfl rfl rfl rfl ?_;rw[jA];dsimp only[List.set];refine bO ?_;refine eN ?_;refine aA ?_;refine aY [1,2,3] rfl (by decide) (fun _ h=>h) ?_;exact dX (s.aR.length - (i+1)) ⟨i+1,hlt,rfl,rfl,rfl,rfl⟩
 ·obtain rfl:i=s.aR.length:=by omega
  refine aA ?_;refine nB ?_;refine dP [] [] [0] (by simp) rfl (by decide) (by decide) fun q _ _ hfr=>?_;exact eL rfl rfl rfl fun w1 t=>⟨⟨_,_,⟨w1,q.Z⟩,rfl,rfl,⟨⟨g2,gm⟩,rfl,by simp[qU,oJ]⟩,t.newR (by simp) (by simp) (hfr (by simp) (by simp))⟩,t.below (by simp)⟩
end
section
structure jF where
 id:Int
 wr:Bool
 bX:Int
 val:Int
def jF.cells(t:jF):List Value:=[iv t.id,.bool t.wr,iv t.bX,.int .u32 t.val]
def QH(v:Value):Option jF→HP
 | none=>Pc (∃A,v=.slice A 0 0)
 | some t=>HP.own 259 4 v 1 t.cells
structure BL where
 b:Nat
 gr:Nat
 gw:Nat
def iS(ws:List (Option jF))(i:Nat):Nat:=if((ws[i]?).join).isSome then 1 else 0
def aFd(g n:Nat)(ws:List (Option jF)):HP:=HP.ex fun vs:List Value=>HP.many (HP.aE g 267 vs::Pc (vs.length=n)::(List.range n).map fun i=>QH (vs.getD i undef) (ws[i]?).join)
def zI(L:BL)(ms:List Int)(ws:List (Option jF))(aS:Int):HP:=HP.many [HP.aE L.b 270 [.slice (some ⟨L.gr,0,none⟩) ms.length ms.length,.slice (some ⟨L.gw,0,none⟩) ms.length ms.length,iv aS],HP.aE L.gr 3 (aL ms),aFd L.gw ms.length ws]
structure Jg(w:World)(L:BL)(ms:List Int)(ws:List (Option jF))(aS:Int):Prop where
 r0:eE w L.b 0 [.slice (some ⟨L.gr,0,none⟩) ms.length ms.length,.slice (some ⟨L.gw,0,none⟩) ms.length ms.length,iv aS]
 rg:eE w L.gr 0 (aL ms)
 wt:∀i,i < ms.length→∃A c,fO w L.gw i (.slice A (iS ws i) c)
theorem Jg.below{w w':World}{L:BL}{ms:List Int}{ws:List (Option jF)}{aS:Int}(h:Jg w L ms ws aS)(hb:Below w.heap.size w w'):Jg w' L ms ws aS:=
 ⟨h.r0.below hb,h.rg.below hb,fun i hi=>by
  obtain⟨A,c,h1,h2⟩:=h.wt i hi
  exact⟨A,c,Nat.lt_of_lt_of_le h1 hb.size,(hb.cell (p:=⟨_,i,none⟩) h1).trans h2⟩⟩
theorem aKH{L:BL}{ms:List Int}{ws:List (Option jF)}{aS:Int}{F:Nat→Prop}{w:World}(h:(zI L ms ws aS).sat F w):Jg w L ms ws aS:=by
 obtain⟨G,g1,g2,_⟩:=h;refine⟨uW (g1 0 _ rfl).2,uW (g1 1 _ rfl).2,fun i hi=>?_⟩;obtain⟨vs,G',k1,_,_⟩:=g1 2 _ rfl
 have hb:=uW (k1 0 _ rfl).2
 have hl:vs.length=ms.length:=k1 1 _ rfl
 obtain⟨v,hv⟩:=get_some (l:=vs) (i:=i) (by omega)
 have hq:=k1 (i+2) (QH (vs.getD i undef) (ws[i]?).join) (by
  rw[List.getElem?_cons_succ,List.getElem?_cons_succ,List.getElem?_map,List.getElem?_range hi];rfl)
 rw[List.getD_eq_getElem?_getD,hv] at hq
 have hc:=hb.at_ hv
 rw[Nat.zero_add] at hc;unfold iS;cases hj:(ws[i]?).join with
 | none=>
  rw[hj] at hq;obtain⟨A,hA⟩:∃A,v=.slice A 0 0:=hq;subst hA;exact⟨A,0,hc⟩
 | some t=>
  rw[hj] at hq;obtain⟨A,c,hA,_⟩:=vD (Y:=fun _=>True) hq (fun _ _=>trivial)
  have hA:v=.slice A 1 c:=hA
  subst hA;exact⟨A,c,hc⟩
section
variable{N:cH}{w0 w:World}{e:Env}{R:List Piece}{H:List HP}{K:Act→World→Prop}{L:BL}{ms:List Int}{ws:List (Option jF)}{aS:Int}
theorem St.aJ0(t:St w0 R H w)(i:Nat)(hi:H[i]? =some (zI L ms ws aS)):Jg w L ms ws aS:=by
 obtain⟨F,h1,h2,_⟩:=t.chunk hi;exact aKH h1
end
theorem aBO(L:BL)(ms:List Int)(ws:List (Option jF))(aS:Int)(i:Int)(w:World)(hR:Jg w L ms ws aS):
  Cz 111 #[.pointer (some ⟨L.b,0,none⟩),iv i] w (Rt (.bool (bN ms.length i)) w):=by
 have k0:=hR.r0.at_ (j:=0) rfl
 refine aN func111 ntmps111 ?_;refine aA ?_;refine bU (t:=11) rfl (fun h=>?_) (fun h=>?_)
 ·refine aA ?_;refine kA (by simp) ?_;unfold bN
  congr 1
  simp;omega
 ·refine aA ?_;refine kA (by simp) ?_
  have:bN ms.length i=false:=decide_eq_false (by omega)
  rw[this]
theorem aJy(L:BL)(ms:List Int)(ws:List (Option jF))(aS:Int)(i:Nat)(hi:i < ms.length)(w:World)(hR:Jg w L ms ws aS):
  Cz 57 #[.pointer (some ⟨L.b,0,none⟩),iv (i:Int)] w (Rt (iv (iS ws i:Nat)) w):=by
 have k1:=hR.r0.at_ (j:=1) rfl
 obtain⟨A,c,hw⟩:=hR.wt i hi
 have hin:bN ms.length (i:Int)=true:=decide_eq_true (by omega)
 refine aN func57 ntmps57 ?_;refine aA ?_;refine aU (fun w1 t=>aBO L ms ws aS i w1 (hR.below (t.below (by simp)))) ?_;rw[hin];refine aB ?_;exact cZ
def aKG(ms:List Int)(v:Value)(hs:List HP)(_:Piece):Prop:=∃L:BL,v=.tuple #[.pointer (some ⟨L.b,0,none⟩),iv 0]∧hs=[zI L ms (ms.map fun _=>none) 0]
theorem aLq{N:cH}{w0:World}{e:Env}{R:List Piece}{H:List HP}{K:Act→World→Prop}{g n:Nat}{β:Type}(l:List β)(hl:l.length=n)(i:Nat)(hi:H[i]? =some (HP.aE g 267 (List.replicate n (sn))))(h:XK N w0 K e R (H.set i (aFd g n (l.map fun _=>none)))):XK N w0 K e R H:=by
 refine Bm (q:=aFd g n (l.map fun _=>none)) i hi (fun F w hs=>⟨List.replicate n (sn),fun k b=>k=0∧F b,fun k p hk=>?_,fun k b h=>h.2,fun k j b hkj h1 h2=>by have:=h1.1;have:=h2.1;omega⟩) h
 match k,hk with
 | 0,hk=>
  simp at hk;subst hk
  show(HP.aE g 267 (List.replicate n (sn))).sat (fun b=>0=0∧F b) w
  rw[show(fun b=>0=0∧F b)=F by funext b;simp];exact hs
 | 1,hk=>cases hk;show(List.replicate n (Value.slice none 0 0)).length=n;simp
 | k + 2, hk =>
  rw[List.getElem?_cons_succ,List.getElem?_cons_succ,List.getElem?_map] at hk;cases hr:(List.range n)[k]? with
  | none=>rw[hr] at hk;cases hk
  | some j =>
   rw[hr] at hk
   have hj:j < n:=List.mem_range.1 (List.mem_of_getElem? hr)
   have:((l.map fun _=>(none:Option jF))[j]?).join=none:=by
    rw[List.getElem?_map];cases l[j]? <;>rfl
   simp only[Option.map_some,Option.some.injEq,this] at hk;subst hk;refine⟨none,?_⟩;rw[List.getD_eq_getElem?_getD,List.getElem?_replicate,if_pos hj];rfl
theorem aTd(ms:List Int)(hml:ms.length≤6)(hm:∀m∈ms,0≤m∧m≤8)(A:Option Addr)(c:Nat)(w:World)(hs:aI (all w) 1 A ms.length (aL ms)):
  Cz 74 #[.slice A ms.length c] w (fun y w'=>(∃v hs q,y=.returned v∧q.w=w'∧aKG ms v hs q∧kC w hs q)∧Below w.heap.size w w'):=by
 refine aN func74 ntmps74 ?_;refine cQ ?_;refine eD ?_;refine bA ?_;refine bA ?_;refine dO ?_;refine cQ ?_;refine cQ ?_;refine eD ?_;refine bA ?_;refine bA ?_;refine bA ?_;refine aB ?_;refine aG rfl (fun h=>absurd h (by omega)) (fun _=>?_);refine lY ?_;refine dN ?_;refine Tk (fun e R H=>∃gr gw g3,e=[(4,pt g3),(0,.slice A ms.length c)]∧R=[all w]∧H=[HP.aE g3 270 [.slice (some ⟨gr,0,none⟩) ms.length ms.length,.slice (some ⟨gw,0,none⟩) ms.length ms.length,iv 0],HP.aE gr 3 (List.replicate ms.length (iv 0)),HP.aE gw 267 (List.replicate ms.length (sn))]) ?_ ?_
 ·refine rI 6 (by kernel_rfl) (by kernel_rfl) ?_;refine bJ 0 ?_;refine bJ 1 ?_;refine bJ 3 ?_;refine bJ 4 ?_;refine Lm 2 5 rfl rfl (by kernel_rfl) ?_ ?_
  ·refine mA (n:=ms.length) 8 (el:=3) (z:=iv 0) (by kernel_rfl) (by kernel_rfl) rfl rfl rfl (by omega) (by omega) (by decide) fun gr=>?_;refine oA ?_;refine cJ 5 ?_;refine mA (n:=ms.length) 24 (el:=267) (z:=sn) (by kernel_rfl) (by kernel_rfl) rfl rfl rfl (by omega) (by omega) (by decide) fun gw=>?_;refine oA ?_;refine cJ 6 ?_;refine kd (fL rfl) ?_;refine eZ ?_;refine cJ 7 ?_;refine bF fun g3=>?_;refine eZ ?_;refine cJ 8 ?_;refine bA ?_;refine eZ ?_;refine kH ?_;refine dN ?_;exact nP ⟨gr,gw,g3,rfl,rfl,rfl⟩
  ·refine mA (n:=ms.length) 24 (el:=267) (z:=sn) (by kernel_rfl) (by kernel_rfl) rfl rfl rfl (by omega) (by omega) (by decide) fun gw=>?_;refine oA ?_;refine cJ 2 ?_;refine mA (n:=ms.length) 8 (el:=3) (z:=iv 0) (by kernel_rfl) (by kernel_rfl) rfl rfl rfl (by omega) (by omega) (by decide) fun gr=>?_;refine oA ?_;refine cJ 6 ?_;refine kd (fL rfl) ?_;refine eZ ?_;refine cJ 7 ?_;refine bF fun g3=>?_;refine eZ ?_;refine cJ 8 ?_;refine bA ?_;refine eZ ?_;refine kH ?_;refine dN ?_;exact nP ⟨gr,gw,g3,rfl,rfl,rfl⟩
 rintro _ _ _ ⟨gr,gw,g3,rfl,rfl,rfl⟩;refine aB ?_;refine bL [(20,iv 0),(19,iv ms.length),(18,.slice A ms.length c),(4,pt g3)] ?_
 refine eJ (fun m e R H=>∃i:Nat,i≤ms.length∧m=ms.length - i∧e=[(20,iv i),(19,iv ms.length),(18,.slice A ms.length c),(4,pt g3)]∧R=[all w]∧H=[HP.aE g3 270 [.slice (some ⟨gr,0,none⟩) ms.length ms.length,.slice (some ⟨gw,0,none⟩) ms.length ms.length,iv 0],HP.aE gr 3 (aL (lE ms (ms.map fun _=>0) i)),HP.aE gw 267 (List.replicate ms.length (sn))]) ms.length ⟨0,by omega,rfl,rfl,rfl,by
  rw[Vu]
  have:List.replicate ms.length (Value.int .i64 0)=aL (ms.map fun _=>0):=by
   refine List.ext_getElem? fun j=>?_;simp only[aL,List.map_map,List.getElem?_replicate,List.getElem?_map]
   by_cases h:j < ms.length
   ·rw[if_pos h,List.getElem?_eq_getElem h];rfl
   ·rw[if_neg h,List.getElem?_eq_none (by omega)];rfl
  rw[this]⟩ fun m e R H hI=>?_
 obtain⟨i,hi,rfl,rfl,rfl,rfl⟩:=hI
 have Wu:=Vw (vs:=ms) (old:=ms.map fun _=>0) (n:=ms.length) rfl (by simp) hi
 refine aB ?_;refine aG rfl (fun hlt=>?_) (fun hge=>?_)
 ·have hlt:i < ms.length:=by omega
  obtain⟨v,hv⟩:=get_some hlt
  have hvb:=hm v (List.mem_of_getElem? hv)
  obtain⟨b,off,hB,hz,hc⟩:=hs.2 (by omega);subst hB
  have hro:fO w b (off+i) (iv v):=⟨hz,hc i _ (by simp[aL,hv])⟩
  have iD:(aL (lE ms (ms.map fun _=>0) i)).length=ms.length:=by simp[aL,Wu]
  have jA:(aL (lE ms (ms.map fun _=>0) i)).set i (iv v)=aL (lE ms (ms.map fun _=>0) (i+1)):=by
   rw[←Vv (by simp) hv,aL,aL,List.map_set]
  refine aA ?_;refine kd (dat i (off+i)) ?_;refine aB ?_;refine bU (t:=27) rfl (fun h=>absurd h (by omega)) (fun _=>?_);refine aB ?_;refine aG rfl (fun h=>absurd h (by omega)) (fun _=>?_);refine aB ?_;rw[jA];refine aB ?_;exact dX (ms.length - (i+1)) ⟨i+1,hlt,rfl,rfl,rfl,rfl⟩
 ·obtain rfl:i=ms.length:=by omega
  rw[Vx rfl (by simp)];refine aB ?_;refine aLq ms rfl 2 rfl ?_;dsimp only[List.set];refine Zt ?_;refine dP [] [] [0] (by simp) rfl (by decide) (by decide) fun q _ _ hfr=>?_;exact eL rfl rfl rfl fun w1 t=>⟨⟨_,_,⟨w1,q.Z⟩,rfl,rfl,⟨⟨g3,gr,gw⟩,rfl,rfl⟩,t.newR (by simp) (by simp) (hfr (by simp) (by simp))⟩,t.below (by simp)⟩
end
section
structure aO where
 ck:List eS
 dm:List fH
 ln:List kJ
 dv:List (cO×dL)
 wt:List (Option jF)
 aS:Int
def hw0(s:aC):aO:=⟨s.aF.map yW,s.domains.map fun _=>yV,s.aR.map fun _=>sQ,s.aD.map fun d=>(Fu d,Qd),s.aD.map fun _=>none,0⟩
structure HL where
 h:Nat
 T:TL
 G:GL
 R:RL
 B:BL
 A:Option Addr
 c:Nat
 ds:List (FL×Nat)
def Ku(d:bQ)(l:FL×Nat):List Value:=[iv d.clock,iv d.domain,iv d.reset,.int .u32 d.iV,.pointer (some ⟨l.1.f,0,none⟩),.pointer (some ⟨l.2,0,none⟩)]
def xD(ds:List bQ)(ls:List (FL×Nat)):List (List Value):=List.zipWith Ku ds ls
def Si(d:bQ)(p:(FL×Nat)×(cO×dL)):HP:=HP.many [iJ p.1.1 d p.2.1,vE p.1.2 p.2.2]
def yU(ds:List bQ)(ls:List (FL×Nat))(xs:List (cO×dL)):List HP:=List.zipWith Si ds (ls.zip xs)
def kL(s:aC):List Int:=s.aD.map fun d=>(d.aP.length:Int)
def Xl(L:HL)(n:Nat):List Value:=[.pointer (some ⟨L.T.t,0,none⟩),.pointer (some ⟨L.G.t,0,none⟩),.pointer (some ⟨L.R.t,0,none⟩),.pointer (some ⟨L.B.b,0,none⟩),.slice L.A n L.c]
def dY(L:HL)(s:aC)(x:aO):HP:=HP.many [HP.aE L.h 113 (Xl L s.aD.length),rJ L.T s x.ck,wM L.G s x.dm,qU L.R s x.ln,zI L.B (kL s) x.wt x.aS,HP.own 106 6 (.slice L.A s.aD.length L.c) s.aD.length (xD s.aD L.ds).flatten,HP.many (yU s.aD L.ds x.dv)]
def aK1(s:aC)(v:Value)(hs:List HP)(_:Piece):Prop:=∃L:HL,v=.tuple #[.pointer (some ⟨L.h,0,none⟩),iv 0]∧hs=[dY L s (hw0 s)]∧L.T.fa.length=s.aF.length∧L.ds.length=s.aD.length
theorem Gx(s:aC):(kL s).length=s.aD.length:=by simp[kL]
theorem aR0{ds:List bQ}{i:Nat}{d:bQ}(hd:ds[i]? =some d){ls:List (FL×Nat)}(hl:ls.length=i)(l:FL×Nat):yU (ds.take (i+1)) (ls++[l]) ((ds.take (i+1)).map fun d=>(Fu d,Qd))=yU (ds.take i) ls ((ds.take i).map fun d=>(Fu d,Qd))++[Si d (l,(Fu d,Qd))]:=by
 have hlt:i < ds.length:=Aq hd
 rw[List.take_succ,hd,Option.toList_some,List.map_append];unfold yU;rw[List.zip_append (by simp;omega),List.zipWith_append (by simp;omega)];rfl
theorem aRz{ds:List bQ}{i:Nat}{d:bQ}(hd:ds[i]? =some d){ls:List (FL×Nat)}(hl:ls.length=i)(l:FL×Nat):(xD (ds.take (i+1)) (ls++[l])).flatten=(xD (ds.take i) ls).flatten++Ku d l:=by
 have hlt:i < ds.length:=Aq hd
 rw[List.take_succ,hd,Option.toList_some];unfold xD;rw[List.zipWith_append (by simp;omega),List.flatten_append];simp
theorem uZ{N:cH}{w0:World}{e:Env}{R:List Piece}{H:List HP}{K:Act→World→Prop}{p:HP}{ps:List HP}(h:XK N w0 K e R (HP.many (ps++[p])::H)):XK N w0 K e R (HP.many ps::p::H):=fun a w hr st=>
 (Zu (ps:=ps) (p:=p) h) a w hr (st.weak (fun _ h=>h) (fun i=>match i with
  | 0=>1
  | 1=>0
  | i+2=>i+2) (fun i j _ _ he=>by
   match i,j with
   | 0,0=>rfl
   | 0,1=>simp at he
   | 0,j+2=>simp at he
   | 1,0=>simp at he
   | 1,1=>rfl
   | 1,j+2=>simp at he
   | i+2,0=>simp at he
   | i+2,1=>simp at he
   | i+2,j+2=>simpa using he) (fun i p hi=>by
   match i,hi with
   | 0,hi=>simpa using hi
   | 1,hi=>simpa using hi
   | i+2,hi=>simpa using hi))
theorem aTL{N:cH}{w0:World}{e:Env}{R:List Piece}{H:List HP}{K:Act→World→Prop}(h:XK N w0 K e R (HP.many []::H)):XK N w0 K e R H:=Dq (p:=HP.many []) (fun w=>⟨fun _ _=>False,fun i p hp=>by simp at hp,fun _ _ h=>h,fun _ _ _ _ h=>h.elim⟩) h
theorem aQi(s:aC)(hH:s.cX)(A1 A2 A3 A4:Option Addr)(n1 k1 n2 k2 n3 k3 n4 k4:Nat)(w:World)(hW:fM w s A1 n1 A2 n2 A3 n3 A4 n4):
  Cz 34 #[.agg #[.slice A1 n1 k1,.slice A2 n2 k2,.slice A3 n3 k3,.slice A4 n4 k4]] w (fun y w'=>(∃v hs q,y=.returned v∧q.w=w'∧aK1 s v hs q∧kC w hs q)∧Below w.heap.size w w'):=by
 have mK:=hH.t.nv
 obtain⟨rv,Rh,rB,vV⟩:=hW.dev;obtain⟨da,jB,rfl,hda⟩:=aEy Rh;subst rB;refine aN func34 ntmps34 ?_;refine aB ?_;refine bF fun g1=>?_;refine aB ?_;refine aU (fun w1 t=>Sw s A1 A2 A3 A4 n1 k1 n2 k2 n3 k3 _ k4 w1 (hW.le (t.started (by simp))) hH.t.Sv) ?_;refine aB ?_;refine fR (aKg s) (fun w1 t=>aS8 s hH A1 A2 A3 A4 n1 k1 n2 k2 n3 k3 _ k4 w1 (hW.le (t.started (by simp)))) ?_;rintro _ _ q1 ⟨LT,rfl,rfl,hfa⟩ _;dsimp only[List.cons_append,List.nil_append];refine aB ?_;refine fR (aK7 s) (fun w1 t=>aND s hH A1 A2 A3 A4 n1 k1 n2 k2 n3 k3 _ k4 w1 (hW.le (t.started (by simp)))) ?_;rintro _ _ q2 ⟨LG,rfl,rfl⟩ _;dsimp only[List.cons_append,List.nil_append];refine aB ?_;refine fR (aKy s) (fun w1 t=>aMy s hH A1 A2 A3 A4 n1 k1 n2 k2 n3 k3 _ k4 w1 (hW.le (t.started (by simp)))) ?_;rintro _ _ q3 ⟨LR,rfl,rfl⟩ _;dsimp only[List.cons_append,List.nil_append];refine aB ?_;refine bF fun g2=>?_;refine aB ?_;refine mA (n:=s.aD.length) 8 (el:=3) (z:=iv 0) (by kernel_rfl) (by kernel_rfl) rfl rfl rfl (by omega) (by omega) (by decide) fun gm=>?_;refine aB ?_;refine iR 106 6 ?_;refine aTL ?_;refine aY [0,1,2,3,4,5,6] rfl (by decide) (R':=[all w]) (by simp) ?_;refine bL [(56,iv 0),(55,iv s.aD.length),(54,.slice A4 s.aD.length k4),(10,.slice (some ⟨gm,0,none⟩) s.aD.length s.aD.length),(9,pt g2)] ?_;refine eJ (fun m e R H=>∃(i:Nat) (A:Option Addr) (c:Nat) (ls:List (FL×Nat)),i≤s.aD.length∧ls.length=i∧m=s.aD.length - i∧e=[(56,iv i),(55,iv s.aD.length),(54,.slice A4 s.aD.length k4),(10,.slice (some ⟨gm,0,none⟩) s.aD.length s.aD.length),(9,pt g2)]∧R=[all w]∧H=[HP.many (yU (s.aD.take i) ls ((s.aD.take i).map fun d=>(Fu d,Qd))),HP.own 106 6 (.slice A i c) i (xD (s.aD.take i) ls).flatten,HP.aE gm 3 (aL (lE (kL s) ((kL s).map fun _=>0) i)),HP.aE g2 113 [.pointer (some ⟨LT.t,0,none⟩),.pointer (some ⟨LG.t,0,none⟩),.pointer (some ⟨LR.t,0,none⟩),.pointer none,.slice A i c],qU LR s (hw0 s).ln,wM LG s (hw0 s).dm,rJ LT s (hw0 s).ck]) s.aD.length ⟨0,none,0,[],by omega,rfl,rfl,rfl,rfl,?_⟩ fun m e R H hI=>?_
 ·have:List.replicate s.aD.length (Value.int .i64 0)=aL (lE (kL s) ((kL s).map fun _=>0) 0):=by
   rw[Vu];refine List.ext_getElem? fun j=>?_;simp only[aL,kL,List.map_map,List.getElem?_replicate,List.getElem?_map]
   by_cases h:j < s.aD.length
   ·rw[if_pos h,List.getElem?_eq_getElem h];rfl
   ·rw[if_neg h,List.getElem?_eq_none (by omega)];rfl
  rw[this];rfl
 obtain⟨i,A,c,ls,hi,pU,rfl,rfl,rfl,rfl⟩:=hI
 have hml:=Gx s
 have Wu:=Vw (vs:=kL s) (old:=(kL s).map fun _=>0) (n:=s.aD.length) hml (by simp[kL]) hi
 refine aB ?_;refine aG rfl (fun hlt=>?_) (fun hge=>?_)
 ·have hlt:i < s.aD.length:=by omega
  obtain⟨d,hd⟩:=get_some hlt;obtain⟨⟨a1,a2⟩,ha⟩:=get_some (l:=da) (i:=i) (by omega);obtain⟨aDG,aId⟩:=hda i d _ hd ha
  have hfit:=hH.t.aD i d hd
  obtain⟨b,off,hB,hro⟩:=aI.row vV (aAn (f:=Bh) (es:=s.aD) (bs:=da) (sz:=6) jB (fun _ _=>rfl)).2 (Ub (f:=Bh) hd ha) hlt;subst hB;refine aA ?_;refine kd (dat i (off+i*6)) ?_;refine aB ?_;refine bT fun g3=>?_
  have hmi:(kL s)[i]? =some (d.aP.length:Int):=by rw[kL,List.getElem?_map,hd];rfl
  have iD:(aL (lE (kL s) ((kL s).map fun _=>0) i)).length=s.aD.length:=by simp[aL,Wu]
  have jA:(aL (lE (kL s) ((kL s).map fun _=>0) i)).set i (iv d.aP.length)=aL (lE (kL s) ((kL s).map fun _=>0) (i+1)):=by
   rw[←Vv (by simp) hmi,aL,aL,List.map_set]
  refine aB ?_;refine fR (aKB d) (fun w1 t=>aMV d (by have:=hfit.2.2.2.2.2.2.2.2.1;omega) (fun r hr=>by have:=hfit.2.2.2.2.2.2.2.2.2.1 r hr;omega) a1.1 a1.2 w1 (aI.le aDG (t.le (by simp)))) ?_;rintro _ _ q1 ⟨LF,rfl,rfl⟩ _;dsimp only[List.cons_append,List.nil_append];refine aB ?_;refine aU (fun w1 t=>Vf LF d (Fu d) w1 (t.aEo 0 rfl)) ?_;refine aB ?_;rw[jA];refine aA ?_;refine iO [2,3,4,5,6,7,8,9,10,11,12] ?_;refine bH 0 ?_;refine bH 1 ?_;refine bH 13 ?_;refine aK 2 ?_;refine aK 3 ?_;refine aK 4 ?_;refine aK 5 ?_;refine aK 6 ?_;refine aK 7 ?_;refine aK 8 ?_;refine aK 9 ?_;refine aK 10 ?_;refine aK 11 ?_;refine aK 12 ?_;refine aJ 14 ?_;refine fR (fun v hs _=>∃g,v=pt g∧hs=[HP.aE g 266 [iv 0,iv 0]]) (fun w1 t=>aN1 w1) ?_;rintro _ _ q2 ⟨gq,rfl,rfl⟩ _;dsimp only[List.cons_append,List.nil_append];refine bB ?_;refine aJ 15 ?_;refine kd (fL rfl) ?_;refine bB ?_;refine aJ 16 ?_;refine eK fun g4=>?_;refine bB ?_ (hS:=fun _ h=>h.tail.bE.tail);refine aJ 17 ?_;refine gM 5 6 48 1 (n':=i+1) (el:=106) (by kernel_rfl) (by kernel_rfl) (by decide) rfl rfl rfl (nS 0 rfl rfl) (by simp[Value.oneCell']) rfl (by omega) (by omega) (by decide) fun An cn=>?_;dsimp only[List.set];refine bO ?_;refine aJ 18 ?_;refine bA ?_;refine bO ?_;refine aJ 19 ?_;refine bA ?_;refine bO ?_;refine aJ 20 ?_;refine fF rfl rfl ?_;dsimp only[List.set];refine bO ?_;refine eN ?_;refine aA ?_;refine aY [2,1,4,5,6,7,8,9,10] rfl (by decide) (R':=[all w]) (by simp) ?_;refine nB ?_;refine Zu ?_;refine bL [(56,iv (i+1:Nat)),(55,iv s.aD.length),(54,.slice (some ⟨b,off,none⟩) s.aD.length k4),(10,.slice (some ⟨gm,0,none⟩) s.aD.length s.aD.length),(9,pt g2)] ?_;exact iF (s.aD.length - (i+1)) (by omega) ⟨i+1,An,cn,ls++[(LF,gq)],hlt,by simp;omega,rfl,rfl,rfl,by rw[aR0 hd pU,aRz hd pU];rfl⟩
 ·obtain rfl:i=s.aD.length:=by omega
  rw[Vx hml (by simp[kL])];rw[List.take_length];refine aB ?_
  refine fR (aKG (kL s)) (fun w1 t=>by
   have:=aTd (kL s) (by omega) (fun m hm=>by
    obtain⟨d,hd,rfl⟩:=List.mem_map.1 hm;obtain⟨j,hj⟩:=List.getElem?_of_mem hd
    have:=(hH.t.aD j d hj).2.2.2.2.2.2.2.2.1
    omega) (some ⟨gm,0,none⟩) s.aD.length w1
   rw[hml] at this
   exact this (t.rT (i:=2) rfl (by simp[aL,hml]))) ?_
  rintro _ _ q1 ⟨LB,rfl,rfl⟩ _;dsimp only[List.cons_append,List.nil_append];refine aB ?_;refine aY [4,7,6,5,0,2,1] rfl (by decide) (R':=[all w]) (by simp) ?_;refine nB ?_;refine uZ ?_;refine uZ ?_;refine uZ ?_;refine uZ ?_;refine uZ ?_;dsimp only[List.cons_append,List.nil_append];refine dP [] [] [0] (by simp) rfl (by decide) (by decide) fun q _ _ hfr=>?_;exact eL rfl rfl rfl fun w1 t=>⟨⟨_,_,⟨w1,q.Z⟩,rfl,rfl,⟨⟨g2,LT,LG,LR,LB,A,c,ls⟩,rfl,by simp[dY,Xl,hw0,kL,Function.comp_def],hfa,pU⟩,t.newR (by simp) (by simp) (hfr (by simp) (by simp))⟩,t.below (by simp)⟩
end
section
structure cF(s:aC)(x:aO):Prop where
 ck:qW s x.ck
 dm:vG s x.dm
 ln:Gf s x.ln
 dv:x.dv.length=s.aD.length
 each:∀(i:Nat) (d:bQ) (p:cO×dL),s.aD[i]? =some d→x.dv[i]? =some p→zE d p.1∧Bw p.2
 wt:x.wt.length=s.aD.length
structure gE(L:HL)(s:aC):Prop where
 fa:L.T.fa.length=s.aF.length
 ds:L.ds.length=s.aD.length
structure vF(w:World)(L:HL)(s:aC)(x:aO):Prop where
 r0:eE w L.h 0 (Xl L s.aD.length)
 tree:xI w L.T s x.ck
 aEe:aK6 w L.G s x.dm
 lines:Lr w L.R s x.ln
 bus:Jg w L.B (kL s) x.wt x.aS
 rows:aI (all w) 6 L.A s.aD.length (xD s.aD L.ds).flatten
 each:∀(i:Nat) (d:bQ) (l:FL×Nat) (p:cO×dL),s.aD[i]? =some d→L.ds[i]? =some l→x.dv[i]? =some p→Dz w l.1 d p.1∧eE w l.2 0 (Tv p.2)
theorem vF.below{w w':World}{L:HL}{s:aC}{x:aO}(h:vF w L s x)(hb:Below w.heap.size w w'):vF w' L s x:=
 ⟨h.r0.below hb,h.tree.below hb,Dt.below h.aEe hb,h.lines.below hb,h.bus.below hb,h.rows.le (jW hb),fun i d l p h1 h2 h3=>⟨(h.each i d l p h1 h2 h3).1.below hb,(h.each i d l p h1 h2 h3).2.below hb⟩⟩
theorem aU5{L:HL}{s:aC}{x:aO}{F:Nat→Prop}{w:World}(h:(dY L s x).sat F w)(hF:∀b,F b→b < w.heap.size)(hL:gE L s)(hok:cF s x):vF w L s x:=by
 obtain⟨G,g1,g2,_⟩:=h
 have hl:∀i b,G i b→b < w.heap.size:=fun i b hb=>hF b (g2 i b hb)
 obtain⟨A',c',he,hs⟩:=vD (Y:=fun b=>b < w.heap.size) (g1 5 _ rfl) (hl 5)
 injection he with he
 subst he;refine⟨uW (g1 0 _ rfl).2,aKh (g1 1 _ rfl) (hl 1) hL.fa hok.ck,aKp (g1 2 _ rfl) (hl 2),aKz (g1 3 _ rfl),aKH (g1 4 _ rfl),hs,fun i d l p h1 h2 h3=>?_⟩;obtain⟨G',k1,k2,_⟩:=g1 6 _ rfl
 have hz:(yU s.aD L.ds x.dv)[i]? =some (Si d (l,p)):=by
  have hq:(L.ds.zip x.dv)[i]? =some (l,p):=List.getElem?_zip_eq_some.2 ⟨h2,h3⟩
  rw[yU,List.getElem?_zipWith,h1,hq]
 have hj:∀b,G' i b→b < w.heap.size:=fun b hb=>hl 6 b (k2 i b hb)
 obtain⟨G2,m1,m2,_⟩:=k1 i _ hz;exact⟨aAl (m1 0 _ rfl) (fun b hb=>hj b (m2 0 b hb)),uW (m1 1 _ rfl).2⟩
section
variable{N:cH}{w0 w:World}{e:Env}{R:List Piece}{H:List HP}{K:Act→World→Prop}{L:HL}{s:aC}{x:aO}
theorem St.mY(t:St w0 R H w)(i:Nat)(hi:H[i]? =some (dY L s x))(hL:gE L s)(hok:cF s x):vF w L s x:=by
 obtain⟨F,h1,h2,_⟩:=t.chunk hi;exact aU5 h1 h2 hL hok
end
section
variable(L:HL)(s:aC)(x:aO)(w:World)
theorem Dc(hR:vF w L s x):Cz 54 #[.pointer (some ⟨L.h,0,none⟩)] w (Rt (.bool true) w):=by
 have k0:=hR.r0.at_ (j:=0) rfl
 have k1:=hR.r0.at_ (j:=1) rfl
 have k2:=hR.r0.at_ (j:=2) rfl
 have k3:=hR.r0.at_ (j:=3) rfl
 refine aN func54 ntmps54 ?_;refine aA ?_;exact cZ
theorem Ru(i:Int)(hR:vF w L s x):Cz 40 #[.pointer (some ⟨L.h,0,none⟩),iv i] w (Rt (.bool (bN s.aD.length i)) w):=by
 have k0:=hR.r0.at_ (j:=4) rfl
 refine aN func40 ntmps40 ?_;refine aA ?_;refine aU (fun w1 t=>Dc L s x w1 (hR.below (t.below (by simp)))) ?_;refine aA ?_;refine bU (t:=11) rfl (fun h=>?_) (fun h=>?_)
 ·refine aA ?_;refine kA (by simp) ?_;unfold bN
  congr 1
  simp;omega
 ·refine aA ?_;refine kA (by simp) ?_
  have:bN s.aD.length i=false:=decide_eq_false (by omega)
  rw[this]
theorem aPO(i:Nat)(hi:i < s.aD.length)(hR:vF w L s x):Cz 97 #[.pointer (some ⟨L.h,0,none⟩),iv (i:Int)] w (Rt (iv (iS x.wt i:Nat)) w):=by
 have k0:=hR.r0.at_ (j:=3) rfl
 have hin:bN s.aD.length (i:Int)=true:=decide_eq_true (by omega)
 refine aN func97 ntmps97 ?_;refine aA ?_;refine aU (fun w1 t=>Ru L s x w1 i (hR.below (t.below (by simp)))) ?_;rw[hin];refine aA ?_;refine aU (fun w1 t=>aJy L.B (kL s) x.wt x.aS i (by rw[Gx];exact hi) w1 (hR.bus.below (t.below (by simp)))) ?_;refine aA ?_;exact cZ
theorem aDV(hok:vG s x.dm)(i:Int)(hR:vF w L s x):Cz 173 #[.pointer (some ⟨L.h,0,none⟩),iv i] w (Rt (.int .u8 (rW x.dm i)) w):=by
 have k0:=hR.r0.at_ (j:=1) rfl
 refine aN func173 ntmps173 ?_;refine aA ?_;refine aU (fun w1 t=>Dc L s x w1 (hR.below (t.below (by simp)))) ?_;refine aA ?_;refine aU (fun w1 t=>aHd L.G s x.dm hok i w1 (Dt.below hR.aEe (t.below (by simp)))) ?_;refine aA ?_;exact cZ
theorem aPS(i:Int)(hR:vF w L s x):Cz 181 #[.pointer (some ⟨L.h,0,none⟩),iv i] w (Rt (.bool (Au x.ln i)) w):=by
 have k0:=hR.r0.at_ (j:=2) rfl
 refine aN func181 ntmps181 ?_;refine aA ?_;refine aU (fun w1 t=>Dc L s x w1 (hR.below (t.below (by simp)))) ?_;refine aA ?_;refine aU (fun w1 t=>aG5 L.R s x.ln i w1 (hR.lines.below (t.below (by simp)))) ?_;refine aA ?_;exact cZ
end
end
section
theorem aHN{s:aC}(h:s.cX):cF s (hw0 s):=by
 refine⟨⟨by simp[hw0],fun x hx=>?_⟩,⟨by simp[hw0],fun x hx=>?_,fun x hx=>?_⟩,⟨by simp[hw0],fun x hx=>?_⟩,by simp[hw0],fun i d p hd hp=>?_,by simp[hw0]⟩
 ·obtain⟨c,hc,rfl⟩:=List.mem_map.1 hx;obtain⟨i,hi⟩:=List.getElem?_of_mem hc
  have:=(h.t.aF i c hi).2
  unfold yW;dsimp only;split
  ·omega
  ·omega
 ·obtain⟨c,hc,rfl⟩:=List.mem_map.1 hx;simp[yV]
 ·obtain⟨c,hc,rfl⟩:=List.mem_map.1 hx;simp[yV]
 ·obtain⟨c,hc,rfl⟩:=List.mem_map.1 hx;simp[sQ]
 ·simp only[hw0,List.getElem?_map,hd,Option.map_some] at hp;cases hp
  have hf:=h.t.aD i d hd
  refine⟨⟨by simp[Fu],by simp[Fu],fun v hv=>?_,fun v hv=>?_⟩,by simp[Bw,Qd]⟩
  ·obtain⟨r,hr,rfl⟩:=List.mem_map.1 hv
   have:=hf.2.2.2.2.2.2.2.2.2.1 r hr
   omega
  ·simp only[Fu,List.mem_map] at hv;obtain⟨r,_,rfl⟩:=hv;omega
theorem aCx{s:aC}(h:s.wX):(dQ s).sm:=by
 have h1:=h.nc
 have h2:=h.nd
 have h3:=h.nr
 exact⟨by simp[dQ];omega,by simp[dQ];omega,by simp[dQ];omega⟩
end
section
theorem yC{α:Type}{l:List α}{i:Nat}{x:α}(h:l[i]? =some x):l.set i x=l:=by
 refine List.ext_getElem? fun j=>?_;rw[List.getElem?_set]
 by_cases he:i=j
 ·subst he;rw[if_pos rfl,if_pos (List.getElem?_eq_some_iff.1 h).1,h]
 ·rw[if_neg he]
def uJ(s:aC)(st:List eS)(i:Nat):List Value:=(List.range s.aF.length).map fun j=>.bool (decide (j < i)&&runs s st j)
theorem aNx(s:aC)(st:List eS):List.replicate s.aF.length (Value.bool false)=uJ s st 0:=by
 refine List.ext_getElem? fun j=>?_;rw[uJ,List.getElem?_replicate,List.getElem?_map]
 by_cases hl:j < s.aF.length
 ·rw[List.getElem?_range hl];simp[hl]
 ·rw[List.getElem?_eq_none (l:=List.range s.aF.length) (by simp;omega)];simp[hl]
theorem aNy(s:aC)(st:List eS)(i:Nat):(uJ s st i).set i (.bool (runs s st i))=uJ s st (i+1):=by
 refine List.ext_getElem? fun j=>?_;simp only[uJ,List.getElem?_set,List.getElem?_map,List.length_map,List.length_range]
 by_cases he:i=j
 ·subst he
  by_cases hl:i < s.aF.length
  ·rw[if_pos rfl,if_pos hl,List.getElem?_range hl];simp
  ·rw[if_pos rfl,if_neg hl,List.getElem?_eq_none (by simp;omega)];rfl
 ·rw[if_neg he]
  by_cases hl:j < s.aF.length
  ·rw[List.getElem?_range hl]
   have:decide (j < i)=decide (j < i+1):=by simp;omega
   simp[this]
  ·rw[List.getElem?_eq_none (by simp;omega)];rfl
theorem aNz{s:aC}{st:List eS}{j:Nat}(h:j < s.aF.length):(uJ s st s.aF.length)[j]? =some (.bool (runs s st j)):=by
 simp[uJ,h]
def qI(s:aC)(st:List eS)(i:Nat):List eS:=(lR s st).take i++st.drop i
theorem aO6(s:aC)(st:List eS):qI s st 0=st:=by simp[qI]
theorem aOA{s:aC}{st:List eS}(hok:qW s st):qI s st s.aF.length=lR s st:=by
 have hl:=hok.len
 rw[qI,List.drop_eq_nil_of_le (by omega),List.append_nil,List.take_of_length_le (by simp[lR];omega)]
theorem aO9{s:aC}{st:List eS}(hok:qW s st){i:Nat}(hi:i < s.aF.length):(qI s st i)[i]? =st[i]? :=by
 have hl:=hok.len
 have:((lR s st).take i).length=i:=by simp[lR];omega
 rw[qI,List.getElem?_append_right (by omega),this,Nat.sub_self,List.getElem?_drop,Nat.add_zero]
theorem aDs{s:aC}{st:List eS}(hok:qW s st){i:Nat}(hi:i≤s.aF.length):(qI s st i).length=s.aF.length:=by
 have hl:=hok.len
 simp[qI,lR];omega
theorem aO7{s:aC}{st:List eS}(hok:qW s st){i:Nat}{c:eG}{x:eS}(hc:s.aF[i]? =some c)(hx:st[i]? =some x):(qI s st i).set i (vM s st c x)=qI s st (i+1):=by
 have hl:=hok.len
 have hi:=(List.getElem?_eq_some_iff.1 hc).1
 have ht:(lR s st)[i]? =some (vM s st c x):=by rw[lR,List.getElem?_zipWith,hc,hx]
 have nV:(lR s st).length=s.aF.length:=by simp[lR];omega
 refine List.ext_getElem? fun j=>?_;rw[List.getElem?_set]
 by_cases he:i=j
 ·subst he;rw[if_pos rfl,if_pos (by rw[aDs hok (by omega)];exact hi),qI,List.getElem?_append_left (by rw[List.length_take];omega),List.getElem?_take_of_lt (by omega),ht]
 ·rw[if_neg he,qI,qI];rcases Nat.lt_or_ge j i with hj | hj
  ·rw[List.getElem?_append_left (by rw[List.length_take];omega),List.getElem?_append_left (by rw[List.length_take];omega),List.getElem?_take_of_lt hj,List.getElem?_take_of_lt (by omega)]
  ·rw[List.getElem?_append_right (by rw[List.length_take];omega),List.getElem?_append_right (by rw[List.length_take];omega),List.getElem?_drop,List.getElem?_drop,List.length_take,List.length_take]
   congr 1
   omega
theorem aL1{s:aC}{st:List eS}(hH:s.cX)(hok:qW s st){i:Nat}{c:eG}{x:eS}(hc:s.aF[i]? =some c)(hx:x∈st):0≤(vM s st c x).left∧(vM s st c x).left≤3:=by
 have h1:=hok.left x hx
 have h2:=(hH.t.aF i c hc).2
 have h3:0≤c.lock∧c.lock≤3:=by omega
 unfold vM;split
 ·split
  ·exact h3
  ·split
   ·dsimp only;omega
   ·exact h1
 ·exact h1
theorem aCJ{s:aC}{st:List eS}(hH:s.cX)(hok:qW s st):qW s (lR s st):=by
 have hl:=hok.len
 refine⟨by simp[lR];omega,fun x hx=>?_⟩;obtain⟨j,hj⟩:=List.getElem?_of_mem hx;rw[lR,List.getElem?_zipWith] at hj;cases hc:s.aF[j]? with
 | none=>rw[hc] at hj;cases hj
 | some c =>
  cases hy:st[j]? with
  | none=>rw[hc,hy] at hj;cases hj
  | some y=>
   rw[hc,hy] at hj;cases hj;exact aL1 hH hok hc (List.mem_of_getElem? hy)
theorem aO8{s:aC}{st:List eS}(hH:s.cX)(hok:qW s st){i:Nat}(hi:i≤s.aF.length):qW s (qI s st i):=⟨aDs hok hi,fun x hx=>by
 rcases List.mem_append.1 hx with h | h
 ·exact(aCJ hH hok).left x (List.mem_of_mem_take h)
 ·exact hok.left x (List.mem_of_mem_drop h)⟩
theorem aS4(L:TL)(s:aC)(st:List eS)(hH:s.cX)(hfl:L.fa.length=s.aF.length)(hok:qW s st)(w:World)(F:Nat→Prop)(hp:(rJ L s st).sat F w)(hF:∀b,F b→b < w.heap.size):
  Cz 58 #[.pointer (some ⟨L.t,0,none⟩)] w (Wr (.tuple #[]) (rJ L s (lR s st)) w F):=by
 have hnc:=hH.t.nc
 have hl:=hok.len
 refine dB func58 ntmps58 hp hF ?_
 have aDI:Rd w [⟨w,fun b=>b < w.heap.size∧¬F b⟩] [rJ L s st] L.t 0 (.slice L.A s.aF.length L.c):=Rd.tree 0 rfl hfl hok
 refine aA ?_;refine mA (n:=s.aF.length) 1 (el:=4) (z:=.bool false) (by kernel_rfl) (by kernel_rfl) rfl rfl rfl (by omega) (by omega) (by decide) fun g1=>?_
 have aUH:Rd w [⟨w,fun b=>b < w.heap.size∧¬F b⟩] [HP.aE g1 4 (List.replicate s.aF.length (.bool false)),rJ L s st] L.t 0 (.slice L.A s.aF.length L.c):=Rd.tree 1 rfl hfl hok
 refine aA ?_;rw[aNx s st];refine bL [(19,iv 0),(18,iv s.aF.length),(2,.slice (some ⟨g1,0,none⟩) s.aF.length s.aF.length),(0,.pointer (some ⟨L.t,0,none⟩))] ?_;refine eJ (fun m e R H=>∃i:Nat,i≤s.aF.length∧m=s.aF.length - i∧e=[(19,iv i),(18,iv s.aF.length),(2,.slice (some ⟨g1,0,none⟩) s.aF.length s.aF.length),(0,.pointer (some ⟨L.t,0,none⟩))]∧R=[⟨w,fun b=>b < w.heap.size∧¬F b⟩]∧H=[HP.aE g1 4 (uJ s st i),rJ L s st]) s.aF.length ⟨0,by omega,rfl,rfl,rfl,rfl⟩ fun m e R H hI=>?_;obtain⟨i,hi,rfl,rfl,rfl,rfl⟩:=hI;refine aA ?_;refine aG rfl (fun hlt=>?_) (fun hge=>?_)
 ·have hlt:i < s.aF.length:=by omega
  have kM:(uJ s st i).length=s.aF.length:=by simp[uJ]
  refine aA ?_;refine aU (fun w1 t=>Zb L s st hH i w1 (t.aCH 1 rfl hfl hok)) ?_;rw[show qG s st (i:Int)=runs s st i by simp[qG,bN,hlt]];refine aB ?_;rw[aNy];exact dX (s.aF.length - (i+1)) ⟨i+1,hlt,rfl,rfl,rfl,rfl⟩
 ·obtain rfl:i=s.aF.length:=by omega
  have aUG:Rd w [⟨w,fun b=>b < w.heap.size∧¬F b⟩] [HP.aE g1 4 (uJ s st s.aF.length),rJ L s st] L.t 0 (.slice L.A s.aF.length L.c):=Rd.tree 1 rfl hfl hok
  refine aA ?_;refine bL [(34,iv 0),(33,iv s.aF.length),(2,.slice (some ⟨g1,0,none⟩) s.aF.length s.aF.length),(0,.pointer (some ⟨L.t,0,none⟩))] ?_;refine eJ (fun m e R H=>∃i:Nat,i≤s.aF.length∧m=s.aF.length - i∧e=[(34,iv i),(33,iv s.aF.length),(2,.slice (some ⟨g1,0,none⟩) s.aF.length s.aF.length),(0,.pointer (some ⟨L.t,0,none⟩))]∧R=[⟨w,fun b=>b < w.heap.size∧¬F b⟩]∧H=[HP.aE g1 4 (uJ s st s.aF.length),rJ L s (qI s st i)]) s.aF.length ⟨0,by omega,rfl,rfl,rfl,by rw[aO6]⟩ fun m e R H hI=>?_;obtain⟨i,hi,rfl,rfl,rfl,rfl⟩:=hI;refine aA ?_;refine aG rfl (fun hlt=>?_) (fun hge=>?_)
  ·have hlt:i < s.aF.length:=by omega
   obtain⟨c,hc⟩:=get_some hlt;obtain⟨a,ha⟩:=get_some (l:=L.fa) (i:=i) (by omega);obtain⟨x,hx⟩:=get_some (l:=st) (i:=i) (by omega)
   have Hp:=aO8 hH hok hi
   have hml:=aDs hok hi
   have My:(qI s st i)[i]? =some x:=by rw[aO9 hok hlt];exact hx
   obtain⟨iM,iL⟩:=aDm hfl Hp
   have Ww:=hok.left x (List.mem_of_getElem? hx)
   have kM:(uJ s st s.aF.length).length=s.aF.length:=by simp[uJ]
   have hpq:(kK s L.fa (qI s st i)).set i (sO c a (vM s st c x))=kK s L.fa (qI s st (i+1)):=by rw[aHo hc ha (by omega),aO7 hok hc hx]
   refine aJW 1 rfl (by omega) fun g cs hA h1 h2 h3 h4=>?_;dsimp only[List.set];rw[hA]
   have hs:=Ib h2 iM iL (Qg hc ha My)
   have hu:=wG.refl cs (i*11) 11
   have hrd:Rd w [⟨w,fun b=>b < w.heap.size∧¬F b⟩] [HP.aE g 224 cs,HP.aE g1 4 (uJ s st s.aF.length),HP.many [HP.aE L.t 227 [.slice (some ⟨g,0,none⟩) s.aF.length L.c],cM,HP.cE (uA s L.fa) (uA.le (s:=s) (fa:=L.fa))]] L.t 0 (.slice (some ⟨g,0,none⟩) s.aF.length L.c):=aUw 2 0 rfl rfl rfl
   refine aA ?_;refine kd (dat i (i*11)) ?_;obtain⟨hsrc,hfit⟩:=hH.t.aF i c hc;obtain⟨kd,src,rate,mul,dv,lock⟩:=c;obtain⟨on,left⟩:=x;dsimp only at hfit hsrc Ww;dsimp only[sO] at hs
   have Wl:kd≠112∨on=false→kK s L.fa (qI s st i)=kK s L.fa (qI s st (i+1)):=fun hh=>by
    rw[←hpq]
    have:vM s st ⟨kd,src,rate,mul,dv,lock⟩ ⟨on,left⟩=⟨on,left⟩:=by
     unfold vM;rw[if_neg];rintro⟨h1,h2⟩;rcases hh with hh | hh
     ·exact hh h1
     ·rw[hh] at h2;cases h2
    rw[this,yC (Qg hc ha My)]
   rcases hfit with⟨rfl,_⟩ | ⟨rfl,qM,_⟩ | ⟨rfl,_⟩ | ⟨rfl,_⟩ | ⟨rfl,_⟩
   ·rw[Wl (.inl (by decide))] at h2;refine aA ?_;refine mM ?_;refine jD ?_;refine aA ?_;refine Bp 1 hA h1 h2 h3 h4 rfl ?_;exact dX (s.aF.length - (i+1)) ⟨i+1,hlt,rfl,rfl,rfl,rfl⟩
   ·cases on
    ·rw[Wl (.inr rfl)] at h2;refine aA ?_;refine mM ?_;refine jD ?_;refine aA ?_;refine Bp 1 hA h1 h2 h3 h4 rfl ?_;exact dX (s.aF.length - (i+1)) ⟨i+1,hlt,rfl,rfl,rfl,rfl⟩
    ·obtain⟨f,fs,hf⟩:∃(f:Nat) (fs:List Int),src=(f:Int)::fs:=by
      cases hs0:src with
      | nil=>rw[hs0] at qM;simp at qM
      | cons f fs=>exact⟨f.toNat,fs,by have:=(hsrc f (by rw[hs0];simp)).1;rw[Int.toNat_of_nonneg this]⟩
     have Mz:f < i:=by have:=(hsrc f (by rw[hf];simp)).2;omega
     subst hf
     have hrun:=aNz (s:=s) (st:=st) (j:=f) (by omega)
     have cK:Rd w [⟨w,fun b=>b < w.heap.size∧¬F b⟩] [HP.aE g 224 cs,HP.aE g1 4 (uJ s st s.aF.length),HP.many [HP.aE L.t 227 [.slice (some ⟨g,0,none⟩) s.aF.length L.c],cM,HP.cE (uA s L.fa) (uA.le (s:=s) (fa:=L.fa))]] g1 f (.bool (runs s st f)):=Rd.aE 1 rfl hrun
     refine aA ?_;refine aU (fun w1 t=>Su L s (qI s st i) i f _ fs w1 (t.aL0 0 2 rfl rfl hA h2 hfl Hp) hc rfl) ?_;refine aB ?_
     have Ex:vM s st ⟨112,(f:Int)::fs,rate,mul,dv,lock⟩ ⟨true,left⟩=if runs s st f=false then⟨true,lock⟩ else if 0 < left then⟨true,left - 1⟩ else⟨true,left⟩:=by
      simp[vM,Pz]
     rw[Ex] at hpq;cases yG:runs s st f
     ·rw[yG] at cK;rw[if_pos yG] at hpq
      have hs1:=hs.set 7 (iv lock) (by simp) (by omega)
      have vU:=hu.set 7 (iv lock) (by decide)
      have gQ:=Ft (r':=sO ⟨112,(f:Int)::fs,rate,mul,dv,lock⟩ a ⟨true,lock⟩) h2 iM iL hlt (by omega) rfl hs1 vU
      rw[hpq] at gQ;refine aA ?_;refine Bp 1 hA (by simpa using h1) gQ h3 h4 rfl ?_;exact dX (s.aF.length - (i+1)) ⟨i+1,hlt,rfl,rfl,rfl,rfl⟩
     ·rw[yG] at cK;rw[if_neg (by rw[yG];decide)] at hpq;refine aA ?_;refine aG rfl (fun hp=>?_) (fun hp=>?_)
      ·rw[if_pos hp] at hpq
       have hs1:=hs.set 7 (iv (left - 1)) (by simp) (by omega)
       have vU:=hu.set 7 (iv (left - 1)) (by decide)
       have gQ:=Ft (r':=sO ⟨112,(f:Int)::fs,rate,mul,dv,lock⟩ a ⟨true,left - 1⟩) h2 iM iL hlt (by omega) rfl hs1 vU
       rw[hpq] at gQ;refine aA ?_;refine Bp 1 hA (by simpa using h1) gQ h3 h4 rfl ?_;exact dX (s.aF.length - (i+1)) ⟨i+1,hlt,rfl,rfl,rfl,rfl⟩
      ·rw[if_neg hp,yC (Qg hc ha My)] at hpq;rw[hpq] at h2;refine aA ?_;refine mM ?_;refine jD ?_;refine aA ?_;refine Bp 1 hA h1 h2 h3 h4 rfl ?_;exact dX (s.aF.length - (i+1)) ⟨i+1,hlt,rfl,rfl,rfl,rfl⟩
   ·rw[Wl (.inl (by decide))] at h2;refine aA ?_;refine mM ?_;refine jD ?_;refine aA ?_;refine Bp 1 hA h1 h2 h3 h4 rfl ?_;exact dX (s.aF.length - (i+1)) ⟨i+1,hlt,rfl,rfl,rfl,rfl⟩
   ·rw[Wl (.inl (by decide))] at h2;refine aA ?_;refine mM ?_;refine jD ?_;refine aA ?_;refine Bp 1 hA h1 h2 h3 h4 rfl ?_;exact dX (s.aF.length - (i+1)) ⟨i+1,hlt,rfl,rfl,rfl,rfl⟩
   ·rw[Wl (.inl (by decide))] at h2;refine aA ?_;refine mM ?_;refine jD ?_;refine aA ?_;refine Bp 1 hA h1 h2 h3 h4 rfl ?_;exact dX (s.aF.length - (i+1)) ⟨i+1,hlt,rfl,rfl,rfl,rfl⟩
  ·obtain rfl:i=s.aF.length:=by omega
   rw[aOA hok];refine aA ?_;exact jE 1 hF
end
section
section
variable{N:cH}{w0 w:World}{e:Env}{R:List Piece}{H:List HP}{K:Act→World→Prop}{L:RL}{s:aC}{st:List kJ}
theorem aET(i:Nat)(hi:H[i]? =some (qU L s st))(h:XK N w0 K e R (HP.map L.g (oJ s st)::HP.aE L.t 277 [.map (some L.g)]::H.set i (HP.many [cM,cM]))):XK N w0 K e R H:=by
 have hlt:=Aq hi
 refine oO i 0 hi rfl ?_;refine oO (i+1) 1 (by rw[List.getElem?_cons_succ,List.getElem?_set_self hlt]) rfl ?_
 simpa[List.set_cons_succ,List.set_set] using h
theorem Tn(i:Nat)(hi:H[i]? =some (HP.many [cM,cM]))(h:XK N w0 K e R (H.set i (qU L s st))):XK N w0 K e R (HP.map L.g (oJ s st)::HP.aE L.t 277 [.map (some L.g)]::H):=by
 have hlt:=Aq hi
 refine sX (i+1) 1 (by rw[List.getElem?_cons_succ];exact hi) rfl ?_;dsimp only[List.set];refine sX i 0 (by rw[List.getElem?_set_self hlt]) rfl ?_
 simpa[List.set_set,qU] using h
end
theorem aMz(L:RL)(s:aC)(st:List kJ)(hok:Gf s st)(i:Int)(w:World)(F:Nat→Prop)(hp:(qU L s st).sat F w)(hF:∀b,F b→b < w.heap.size):
  Cz 230 #[.pointer (some ⟨L.t,0,none⟩),iv i] w (Wr (iv (tS s st i).1) (qU L s (tS s st i).2) w F):=by
 have hl:=hok.len
 cases hi:bN st.length i
 ·have hr:tS s st i=(4,st):=by simp[tS,hi]
  have hv:uV s st i=jI 0 ⟨0,false,false⟩:=by simp[uV,hi]
  rw[hr];refine dB func230 ntmps230 hp hF ?_;refine aA ?_;refine aU (fun w1 t=>Vc L s st i w1 (t.Qs 0 rfl)) ?_;rw[hi,hv];unfold jI;refine aA ?_;refine bT fun g1=>?_;refine aA ?_;exact cI 1 hF
 ·obtain⟨n,rfl⟩:∃n:Nat,i=n:=⟨i.toNat,by have:=of_decide_eq_true hi;omega⟩
  have hlt:n < st.length:=by have:=of_decide_eq_true hi;omega
  obtain⟨r,cK⟩:=get_some (l:=s.aR) (i:=n) (by omega);obtain⟨x,hx⟩:=get_some hlt
  have hrd:s.aR.getD n 0=r:=by rw[List.getD_eq_getElem?_getD,cK];rfl
  have hr:tS s st (n:Int)=(0,st.set n ⟨r,true,false⟩):=by simp[tS,hi,cK]
  have hv:uV s st (n:Int)=jI r x:=by simp[uV,hi,List.getD_eq_getElem?_getD,cK,hx]
  rw[hr];refine dB func230 ntmps230 hp hF ?_;refine aA ?_;refine aU (fun w1 t=>Vc L s st n w1 (t.Qs 0 rfl)) ?_;rw[hi,hv];unfold jI;refine aA ?_;refine bT fun g1=>?_;refine aA ?_;refine aET 1 rfl ?_;dsimp only[List.set];refine rI 6 (by kernel_rfl) (by kernel_rfl) ?_;refine bJ 0 ?_;refine bJ 1 ?_;refine bJ 2 ?_;refine bJ 3 ?_;refine bJ 4 ?_;refine bJ 5 ?_;refine cJ 6 ?_;refine Jh (kt:=3) (et:=233) (kd:=.i64) (l:=oJ s st) (v:=jI r ⟨r,true,false⟩) 0 (by kernel_rfl) (by kernel_rfl) rfl rfl rfl rfl ?_;rw[aDo hrd hlt];dsimp only[List.set];refine eZ ?_;refine kH ?_;refine Tn 1 rfl ?_;refine aA ?_;exact cI 1 hF
theorem aMx(L:RL)(s:aC)(st:List kJ)(hok:Gf s st)(i:Int)(w:World)(F:Nat→Prop)(hp:(qU L s st).sat F w)(hF:∀b,F b→b < w.heap.size):
  Cz 229 #[.pointer (some ⟨L.t,0,none⟩),iv i] w (Wr (iv (vO st i).1) (qU L s (vO st i).2) w F):=by
 have hl:=hok.len
 cases hi:bN st.length i
 ·have hr:vO st i=(4,st):=by simp[vO,hi]
  have hv:uV s st i=jI 0 ⟨0,false,false⟩:=by simp[uV,hi]
  rw[hr];refine dB func229 ntmps229 hp hF ?_;refine aA ?_;refine aU (fun w1 t=>Vc L s st i w1 (t.Qs 0 rfl)) ?_;rw[hi,hv];unfold jI;refine aA ?_;refine bT fun g1=>?_;refine aA ?_;exact cI 1 hF
 ·obtain⟨n,rfl⟩:∃n:Nat,i=n:=⟨i.toNat,by have:=of_decide_eq_true hi;omega⟩
  have hlt:n < st.length:=by have:=of_decide_eq_true hi;omega
  obtain⟨r,cK⟩:=get_some (l:=s.aR) (i:=n) (by omega);obtain⟨x,hx⟩:=get_some hlt
  have hrd:s.aR.getD n 0=r:=by rw[List.getD_eq_getElem?_getD,cK];rfl
  have hr:vO st (n:Int)=if x.held=false then(6,st) else(0,st.set n ⟨x.left,x.held,true⟩):=by simp[vO,hi,hx]
  have hv:uV s st (n:Int)=jI r x:=by simp[uV,hi,List.getD_eq_getElem?_getD,cK,hx]
  rw[hr];refine dB func229 ntmps229 hp hF ?_;refine aA ?_;refine aU (fun w1 t=>Vc L s st n w1 (t.Qs 0 rfl)) ?_;rw[hi,hv];obtain⟨left,held,wanted⟩:=x;unfold jI;refine aA ?_;refine bT fun g1=>?_;cases held
  ·refine aA ?_;exact cI 1 hF
  ·refine aA ?_;refine aET 1 rfl ?_;dsimp only[List.set];refine rI 6 (by kernel_rfl) (by kernel_rfl) ?_;refine bJ 0 ?_;refine bJ 1 ?_;refine bJ 2 ?_;refine bJ 3 ?_;refine bJ 4 ?_;refine bJ 5 ?_;refine cJ 6 ?_;refine Jh (kt:=3) (et:=233) (kd:=.i64) (l:=oJ s st) (v:=jI r ⟨left,true,true⟩) 0 (by kernel_rfl) (by kernel_rfl) rfl rfl rfl rfl ?_;rw[aDo hrd hlt];dsimp only[List.set];refine eZ ?_;refine kH ?_;refine Tn 1 rfl ?_;refine aA ?_;exact cI 1 hF
end
section
theorem aOO{α:Type}(f:α→α)(st:List α){i:Nat}{x:α}(hx:st[i]? =some x)(hs:f x=x):(st.map f).take i++st.drop i=(st.map f).take (i+1)++st.drop (i+1):=by
 have h1:=aDp f st hx
 rw[hs,aGp (by rw[aDq f st (List.getElem?_eq_some_iff.1 hx).1];exact hx)] at h1;exact h1
theorem aMw(L:RL)(s:aC)(st:List kJ)(hH:s.cX)(hok:Gf s st)(w:World)(F:Nat→Prop)(hp:(qU L s st).sat F w)(hF:∀b,F b→b < w.heap.size):
  Cz 61 #[.pointer (some ⟨L.t,0,none⟩)] w (fun y w'=>∃a:Option Addr×Nat×Nat,y=.returned (.slice a.1 a.2.1 a.2.2)∧True∧∃F',(qU L s (Ej st)).sat F' w'∧iH w w' F F'):=by
 have hl:=hok.len
 have iL:=hH.t.nr
 refine dB func61 ntmps61 hp hF ?_
 have aDI:Rd w [⟨w,fun b=>b < w.heap.size∧¬F b⟩] [qU L s st] L.t 0 (.map (some L.g)):=fun w1 t=>(t.Qs 0 rfl).r0.2
 refine aA ?_;refine kd (aRO (kt:=3) (et:=233) (l:=oJ s st) (by kernel_rfl) rfl (fun w1 t=>(t.Qs 0 rfl).m)) ?_;rw[show(oJ s st).length=st.length by simp[oJ]];refine aA ?_;refine iR 3 1 ?_;refine bL [(14,iv 0),(13,iv st.length),(3,sn),(0,.pointer (some ⟨L.t,0,none⟩))] ?_;refine eJ (fun m e R H=>∃(i n:Nat) (A:Option Addr) (k:Nat) (xs:List Value),i≤st.length∧n≤i∧m=st.length - i∧e=[(14,iv i),(13,iv st.length),(3,.slice A n k),(0,.pointer (some ⟨L.t,0,none⟩))]∧R=[⟨w,fun b=>b < w.heap.size∧¬F b⟩]∧H=[HP.own 3 1 (.slice A n k) n xs,qU L s ((st.map lQ).take i++st.drop i)]) st.length ⟨0,0,none,0,[],by omega,by omega,rfl,rfl,rfl,by simp⟩ fun m e R H hI=>?_;obtain⟨i,n,A,k,xs,hi,hni,rfl,rfl,rfl,rfl⟩:=hI;refine aA ?_;refine aG rfl (fun hlt=>?_) (fun hge=>?_)
 ·have hlt:i < st.length:=by omega
  obtain⟨r,cK⟩:=get_some (l:=s.aR) (i:=i) (by omega);obtain⟨x,hx⟩:=get_some hlt
  have Ww:=hok.left x (List.mem_of_getElem? hx)
  have hrd:s.aR.getD i 0=r:=by rw[List.getD_eq_getElem?_getD,cK];rfl
  have hml:((st.map lQ).take i++st.drop i).length=st.length:=by simp;omega
  have My:((st.map lQ).take i++st.drop i)[i]? =some x:=by rw[aDq _ st hlt];exact hx
  have hin:bN ((st.map lQ).take i++st.drop i).length (i:Int)=true:=by rw[hml];exact decide_eq_true (by omega)
  have Cx:nI (oJ s ((st.map lQ).take i++st.drop i)) (i:Int)=some (jI r x):=by
   rw[aH2,if_pos hin,Int.toNat_natCast,hrd,List.getD_eq_getElem?_getD,My];rfl
  have jA:pE (oJ s ((st.map lQ).take i++st.drop i)) (i:Int) (jI r (lQ x))=oJ s ((st.map lQ).take (i+1)++st.drop (i+1)):=by
   rw[aDo hrd (by omega),aDp lQ st hx]
  refine aET 1 rfl ?_;dsimp only[List.set];refine aA ?_;refine aAt (kt:=3) (et:=233) (kd:=.i64) (z:=jI 0 ⟨0,false,false⟩) (l:=oJ s ((st.map lQ).take i++st.drop i)) true (by kernel_rfl) (by kernel_rfl) aHE rfl rfl (fun w1 t=>t.map (i:=0) rfl) (by decide) ?_;simp only[if_true,Cx,Option.getD_some,Option.isSome_some];obtain⟨left,held,wanted⟩:=x;dsimp only at Ww;dsimp only[jI];refine aA ?_;refine bT fun g1=>?_;cases held
  ·have hsame:lQ ⟨left,false,wanted⟩=⟨left,false,wanted⟩:=rfl
   rw[aOO lQ st hx hsame];refine aA ?_;refine aY [1,2,3,4] rfl (by decide) (fun _ h=>h) ?_;refine Tn 1 rfl ?_;exact dX (st.length - (i+1)) ⟨i+1,n,A,k,xs,hlt,by omega,rfl,rfl,rfl,rfl⟩
  ·refine aA ?_;refine aG rfl (fun hp=>?_) (fun hp=>?_)
   ·have Ex:lQ ⟨left,true,wanted⟩=⟨left - 1,true,wanted⟩:=by simp[lQ,hp]
    rw[Ex] at jA;refine aA ?_;refine rI 6 (by kernel_rfl) (by kernel_rfl) ?_;refine bJ 0 ?_;refine bJ 1 ?_;refine bJ 2 ?_;refine bJ 3 ?_;refine bJ 4 ?_;refine bJ 5 ?_;refine cJ 6 ?_;refine Jh (kt:=3) (et:=233) (kd:=.i64) (l:=oJ s ((st.map lQ).take i++st.drop i)) (v:=jI r ⟨left - 1,true,wanted⟩) 1 (by kernel_rfl) (by kernel_rfl) rfl rfl rfl rfl ?_;rw[jA];dsimp only[List.set];refine eZ ?_;refine kH ?_;refine aA ?_;refine aY [1,2,3,4] rfl (by decide) (fun _ h=>h) ?_;refine Tn 1 rfl ?_;exact dX (st.length - (i+1)) ⟨i+1,n,A,k,xs,hlt,by omega,rfl,rfl,rfl,rfl⟩
   ·cases wanted
    ·have Ex:lQ ⟨left,true,false⟩=⟨left,true,false⟩:=by simp[lQ,hp]
     rw[Ex] at jA;refine aA ?_;refine rI 6 (by kernel_rfl) (by kernel_rfl) ?_;refine bJ 0 ?_;refine bJ 1 ?_;refine bJ 2 ?_;refine bJ 3 ?_;refine bJ 4 ?_;refine bJ 5 ?_;refine cJ 6 ?_;refine Jh (kt:=3) (et:=233) (kd:=.i64) (l:=oJ s ((st.map lQ).take i++st.drop i)) (v:=jI r ⟨left,true,false⟩) 1 (by kernel_rfl) (by kernel_rfl) rfl rfl rfl rfl ?_;rw[jA];dsimp only[List.set];refine eZ ?_;refine kH ?_;refine aA ?_;refine aY [1,2,3,4] rfl (by decide) (fun _ h=>h) ?_;refine Tn 1 rfl ?_;exact dX (st.length - (i+1)) ⟨i+1,n,A,k,xs,hlt,by omega,rfl,rfl,rfl,rfl⟩
    ·have Ex:lQ ⟨left,true,true⟩=⟨left,false,false⟩:=by simp[lQ,hp]
     rw[Ex] at jA;refine aA ?_;refine eK fun g2=>?_;refine gM 4 1 8 1 (el:=3) (by kernel_rfl) (by kernel_rfl) (by decide) rfl rfl rfl (nS 0 rfl rfl) (by simp[Value.oneCell']) rfl (by omega) (by omega) (by decide) fun A' k'=>?_;dsimp only[List.set];refine aA ?_;refine rI 6 (by kernel_rfl) (by kernel_rfl) ?_;refine bJ 0 ?_;refine bJ 1 ?_;refine bJ 2 ?_;refine bJ 3 ?_;refine bJ 4 ?_;refine bJ 5 ?_;refine cJ 6 ?_;refine Jh (kt:=3) (et:=233) (kd:=.i64) (l:=oJ s ((st.map lQ).take i++st.drop i)) (v:=jI r ⟨left,false,false⟩) 2 (by kernel_rfl) (by kernel_rfl) rfl rfl rfl rfl ?_;rw[jA];dsimp only[List.set];refine eZ ?_;refine kH ?_;refine aA ?_;refine aY [2,3,4,5] rfl (by decide) (fun _ h=>h) ?_;refine Tn 1 rfl ?_;exact dX (st.length - (i+1)) ⟨i+1,n+1,A',k',_,hlt,by omega,rfl,rfl,rfl,rfl⟩
 ·obtain rfl:i=st.length:=by omega
  have wZ:(st.map lQ).take st.length++st.drop st.length=Ej st:=by
   rw[List.drop_eq_nil_of_le (by omega),List.append_nil,List.take_of_length_le (by simp)];rfl
  rw[wZ];refine aA ?_;exact nA rfl rfl fun w1 t=>⟨(A,n,k),rfl,trivial,t.turns hF (by simp) (i:=1) rfl⟩
end
section
section
variable{N:cH}{w0 w:World}{e:Env}{R:List Piece}{H:List HP}{K:Act→World→Prop}{L:HL}{s:aC}{x:aO}
theorem rN(i:Nat){o:Nat}{v:Value}(hi:H[i]? =some (dY L s x))(hv:(Xl L s.aD.length)[o]? =some v):Rd w0 R H L.h o v:=fun w t=>by
 obtain⟨F,⟨G,g1,g2,_⟩,h2,_⟩:=t.chunk hi
 have:=(uW (g1 0 _ rfl).2).at_ (j:=o) hv
 rw[Nat.zero_add] at this;exact this.2
end
variable(L:HL)(s:aC)(x:aO)(w:World)
theorem aIq(hH:s.cX)(aV:gE L s)(hok:cF s x)(i:Int)(on:Bool)(F:Nat→Prop)(hp:(dY L s x).sat F w)(hF:∀b,F b→b < w.heap.size):
  Cz 179 #[.pointer (some ⟨L.h,0,none⟩),iv i,.bool on] w (Wr (iv (lD s x.ck i on).1) (dY L s {x with ck:=(lD s x.ck i on).2}) w F):=by
 have tM:=hH.t.nd
 refine dB func179 ntmps179 hp hF ?_;refine aA ?_;refine aU (fun w1 t=>Dc L s x w1 (t.mY 0 rfl aV hok)) ?_;refine aA ?_;refine kd (bP rfl (rN 0 rfl rfl)) ?_;refine aA ?_;refine aZ 0 1 ?_;refine eC 0 (rJ L.T s (lD s x.ck i on).2) (fun w1 F1 t h1 h2 h3=>aS7 L.T s x.ck aV.fa hok.ck i on w1 F1 h1 h2) ?_;refine aA ?_;refine aM 0 1 ?_;exact cI 0 hF
theorem aIl(hH:s.cX)(aV:gE L s)(hok:cF s x)(i:Int)(F:Nat→Prop)(hp:(dY L s x).sat F w)(hF:∀b,F b→b < w.heap.size):
  Cz 174 #[.pointer (some ⟨L.h,0,none⟩),iv i] w (Wr (iv (uF s x.dm i).1) (dY L s {x with dm:=(uF s x.dm i).2}) w F):=by
 have tM:=hH.t.nd
 refine dB func174 ntmps174 hp hF ?_;refine aA ?_;refine aU (fun w1 t=>Dc L s x w1 (t.mY 0 rfl aV hok)) ?_;refine aA ?_;refine kd (bP rfl (rN 0 rfl rfl)) ?_;refine aA ?_;refine aZ 0 2 ?_;refine eC 0 (wM L.G s (uF s x.dm i).2) (fun w1 F1 t h1 h2 h3=>aN9 L.G s x.dm hH hok.dm i w1 F1 h1 h2) ?_;refine aA ?_;refine aM 0 2 ?_;exact cI 0 hF
theorem aPT(hH:s.cX)(aV:gE L s)(hok:cF s x)(i:Int)(keep:Bool)(F:Nat→Prop)(hp:(dY L s x).sat F w)(hF:∀b,F b→b < w.heap.size):
  Cz 178 #[.pointer (some ⟨L.h,0,none⟩),iv i,.bool keep] w (Wr (iv (wB s x.dm i keep).1) (dY L s {x with dm:=(wB s x.dm i keep).2}) w F):=by
 have tM:=hH.t.nd
 refine dB func178 ntmps178 hp hF ?_;refine aA ?_;refine aU (fun w1 t=>Dc L s x w1 (t.mY 0 rfl aV hok)) ?_;refine aA ?_;refine kd (bP rfl (rN 0 rfl rfl)) ?_;refine aA ?_;refine aZ 0 2 ?_;refine eC 0 (wM L.G s (wB s x.dm i keep).2) (fun w1 F1 t h1 h2 h3=>aNE L.G s x.dm hok.dm (by omega) i keep w1 F1 h1 h2) ?_;refine aA ?_;refine aM 0 2 ?_;exact cI 0 hF
theorem aPQ(hH:s.cX)(aV:gE L s)(hok:cF s x)(i:Int)(F:Nat→Prop)(hp:(dY L s x).sat F w)(hF:∀b,F b→b < w.heap.size):
  Cz 182 #[.pointer (some ⟨L.h,0,none⟩),iv i] w (Wr (iv (vO x.ln i).1) (dY L s {x with ln:=(vO x.ln i).2}) w F):=by
 have tM:=hH.t.nd
 refine dB func182 ntmps182 hp hF ?_;refine aA ?_;refine aU (fun w1 t=>Dc L s x w1 (t.mY 0 rfl aV hok)) ?_;refine aA ?_;refine kd (bP rfl (rN 0 rfl rfl)) ?_;refine aA ?_;refine aZ 0 3 ?_;refine eC 0 (qU L.R s (vO x.ln i).2) (fun w1 F1 t h1 h2 h3=>aMx L.R s x.ln hok.ln i w1 F1 h1 h2) ?_;refine aA ?_;refine aM 0 3 ?_;exact cI 0 hF
end
section
def Ik(dF:Int)(i:Nat):Bool:=decide (aBT (dF.fdiv (2 ^ min i 32)) 1=1)
def zX(x:aO)(dF:Int)(n:Nat):List (cO×dL):=x.dv.mapIdx fun i p=>if i < n then(p.1,uH p.2 (decide (0 < iS x.wt i)) (Ik dF i)) else p
def Io(k:Int)(d:bQ)(f:cO):cO:=if k=115 then wT d f else if k=114 then Jn d f else if k=108∨k=110 then Ga d f else f
def Fy(s:aC)(e:Int×Nat)(i:Nat)(p:cO×dL):cO×dL:=match s.aD[i]? with
 | some d=>if d.domain=(e.2:Int) then(Io e.1 d p.1,p.2) else p
 | none=>p
def Cq(s:aC)(dv:List (cO×dL))(e:Int×Nat)(n:Nat):List (cO×dL):=dv.mapIdx fun i p=>if i < n then Fy s e i p else p
def sW(s:aC)(dv:List (cO×dL))(e:Int×Nat):List (cO×dL):=Cq s dv e s.aD.length
def iQ(s:aC)(x:aO)(dF:Int):aO:=⟨lR s x.ck,oU x.dm,Ej x.ln,(lW x.dm s.domains.length).foldl (sW s) (zX x dF s.aD.length),x.wt,x.aS⟩
theorem Qn{α:Type}(l:List α)(f:Nat→α→α):(l.mapIdx fun i p=>if i < 0 then f i p else p)=l:=by
 refine List.ext_getElem? fun i=>?_;simp
theorem Qo{α:Type}{l:List α}{f:Nat→α→α}{n:Nat}{p:α}(hp:l[n]? =some p):(l.mapIdx fun i p=>if i < n then f i p else p).set n (f n p)=l.mapIdx fun i p=>if i < n+1 then f i p else p:=by
 refine List.ext_getElem? fun i=>?_
 have hlt:=(List.getElem?_eq_some_iff.1 hp).1
 rw[List.getElem?_set]
 by_cases he:n=i
 ·subst he;rw[if_pos rfl,if_pos (by simpa using hlt),List.getElem?_mapIdx,hp];simp
 ·rw[if_neg he,List.getElem?_mapIdx,List.getElem?_mapIdx];cases l[i]? with
  | none=>rfl
  | some q=>
   simp only[Option.map_some,Option.some.injEq]
   by_cases h:i < n
   ·rw[if_pos h,if_pos (by omega)]
   ·rw[if_neg h,if_neg (by omega)]
theorem Qp{α:Type}{l:List α}{f:Nat→α→α}{n:Nat}{p:α}(hp:l[n]? =some p):(l.mapIdx fun i p=>if i < n then f i p else p)[n]? =some p:=by
 rw[List.getElem?_mapIdx,hp];simp
theorem aB9{ds:List bQ}{ls:List (FL×Nat)}{xs:List (cO×dL)}{i:Nat}{d:bQ}{l:FL×Nat}{p:cO×dL}(hd:ds[i]? =some d)(hl:ls[i]? =some l)(hp:xs[i]? =some p):(yU ds ls xs)[i]? =some (Si d (l,p)):=by
 have hq:(ls.zip xs)[i]? =some (l,p):=List.getElem?_zip_eq_some.2 ⟨hl,hp⟩
 rw[yU,List.getElem?_zipWith,hd,hq]
theorem aR1{ds:List bQ}{ls:List (FL×Nat)}{xs:List (cO×dL)}{i:Nat}{d:bQ}{l:FL×Nat}{p:cO×dL}(hd:ds[i]? =some d)(hl:ls[i]? =some l)(hp:xs[i]? =some p)(p':cO×dL):(yU ds ls xs).set i (Si d (l,p'))=yU ds ls (xs.set i p'):=by
 refine List.ext_getElem? fun j=>?_
 have hlt:=(List.getElem?_eq_some_iff.1 (aB9 hd hl hp)).1
 rw[List.getElem?_set]
 by_cases he:i=j
 ·subst he;rw[if_pos rfl,if_pos hlt];exact(aB9 hd hl (List.getElem?_set_self (List.getElem?_eq_some_iff.1 hp).1)).symm
 ·rw[if_neg he];simp only[yU,List.getElem?_zipWith,List.zip,List.getElem?_set_ne he]
theorem aEs{ds:List bQ}{ls:List (FL×Nat)}{i:Nat}{d:bQ}{l:FL×Nat}(hd:ds[i]? =some d)(hl:ls[i]? =some l):(xD ds ls)[i]? =some (Ku d l):=by
 rw[xD,List.getElem?_zipWith,hd,hl]
theorem aEr{ds:List bQ}{ls:List (FL×Nat)}:∀r∈xD ds ls,r.length=6:=fun r hr=>by
 obtain⟨i,hi⟩:=List.getElem?_of_mem hr;rw[xD,List.getElem?_zipWith] at hi;split at hi
 ·cases hi;rfl
 ·cases hi
theorem aL3{x:dL}(h:Bw x)(a b:Bool):Bw (uH x a b):=by
 unfold uH;unfold Bw at h⊢;split
 ·exact h
 ·split
  ·exact⟨(by show(0:Int)≤3;omega),(by show(3:Int)≤3;omega)⟩
  ·split
   ·exact h
   ·exact⟨(by show(0:Int)≤2;omega),(by show(2:Int)≤3;omega)⟩
theorem aMc{r:Rg}{p:Int×Int}(h1:0≤p.1∧p.1 < 4294967296)(h2:0≤p.2∧p.2 < 4294967296):0≤Mc r p∧Mc r p < 4294967296:=by
 unfold Mc;split<;>assumption
theorem aJe{d:bQ}{f:cO}(k:Int)(hr:∀r∈d.aP,0≤r.reset∧r.reset≤6)(h:zE d f):zE d (Io k d f):=by
 have hres:∀v∈d.aP.map (·.reset),0≤v∧v < 4294967296:=fun v hv=>by
  obtain⟨r,eI,rfl⟩:=List.mem_map.1 hv
  have:=hr r eI
  omega
 have h1:=h.now
 have h2:=h.saved
 unfold Io;split
 ·refine⟨h1,by simp[wT];omega,h.u.1,fun v hv=>?_⟩;obtain⟨i,hi⟩:=List.getElem?_of_mem hv;simp only[wT,List.getElem?_zipWith] at hi;split at hi
  ·rename_i r p eI gP
   cases hi;obtain⟨Mv,hp3⟩:=List.getElem?_zip_eq_some.1 gP;exact aMc (h.u.1 _ (List.mem_of_getElem? Mv)) (h.u.2 _ (List.mem_of_getElem? hp3))
  ·cases hi
 ·split
  ·refine⟨by simp[Jn];omega,h2,fun v hv=>?_,h.u.2⟩;obtain⟨i,hi⟩:=List.getElem?_of_mem hv;simp only[Jn,List.getElem?_zipWith] at hi;split at hi
   ·rename_i r p eI gP
    cases hi;unfold aAH;split
    ·exact h.u.2 _ (List.mem_of_getElem? gP)
    ·have:=hr r (List.mem_of_getElem? eI)
     omega
   ·cases hi
  ·split
   ·exact⟨by simp[Ga],h2,hres,h.u.2⟩
   ·exact h
theorem Vt{s:aC}{x:aO}(hH:s.cX)(hok:cF s x){dv:List (cO×dL)}(hl:dv.length=x.dv.length)(h:∀(i:Nat) (d:bQ) (p:cO×dL),s.aD[i]? =some d→dv[i]? =some p→zE d p.1∧Bw p.2):cF s {x with dv:=dv}:=⟨hok.ck,hok.dm,hok.ln,hl.trans hok.dv,h,hok.wt⟩
theorem aDr{s:aC}{x:aO}(hH:s.cX)(hok:cF s x)(dF:Int)(n:Nat):cF s {x with dv:=zX x dF n}:=Vt hH hok (by simp[zX]) fun i d p hd hp=>by
 rw[zX,List.getElem?_mapIdx] at hp;cases hq:x.dv[i]? with
 | none=>rw[hq] at hp;cases hp
 | some q=>
  rw[hq] at hp;obtain⟨h1,h2⟩:=hok.each i d q hd hq;simp only[Option.map_some,Option.some.injEq] at hp;subst hp;split
  ·exact⟨h1,aL3 h2 _ _⟩
  ·exact⟨h1,h2⟩
theorem aH0{s:aC}{x:aO}(hH:s.cX)(hok:cF s x)(e:Int×Nat)(n:Nat):cF s {x with dv:=Cq s x.dv e n}:=Vt hH hok (by simp[Cq]) fun i d p hd hp=>by
 rw[Cq,List.getElem?_mapIdx] at hp;cases hq:x.dv[i]? with
 | none=>rw[hq] at hp;cases hp
 | some q =>
  rw[hq] at hp;obtain⟨h1,h2⟩:=hok.each i d q hd hq;simp only[Option.map_some,Option.some.injEq] at hp;subst hp;split
  ·unfold Fy;rw[hd];dsimp only;split
   ·exact⟨aJe _ (hH.t.aD i d hd).2.2.2.2.2.2.2.2.2.1 h1,h2⟩
   ·exact⟨h1,h2⟩
  ·exact⟨h1,h2⟩
theorem aEi{s:aC}(hH:s.cX):∀(es:List (Int×Nat)) (x:aO),cF s x→cF s {x with dv:=es.foldl (sW s) x.dv}
 | [],x,h=>h
 | e::es,x,h=>aEi hH es {x with dv:=sW s x.dv e} (aH0 hH h e _)
theorem aO4{s:aC}{dv:List (cO×dL)}{e:Int×Nat}(h:¬(e.1=115∨e.1=114∨e.1=108∨e.1=110)):sW s dv e=dv:=by
 unfold sW Cq;refine List.ext_getElem? fun i=>?_;rw[List.getElem?_mapIdx];cases dv[i]? with
 | none=>rfl
 | some p =>
  simp only[Option.map_some,Option.some.injEq];split
  ·unfold Fy;split
   ·split
    ·have:Io e.1 (by assumption) p.1=p.1:=by
      unfold Io;rw[if_neg (by omega),if_neg (by omega),if_neg (by omega)]
     rw[this]
    ·rfl
   ·rfl
  ·rfl
theorem aL5{s:aC}{st:List kJ}(h:Gf s st):Gf s (Ej st):=by
 refine⟨by simp[Ej,h.len],fun x hx=>?_⟩;obtain⟨y,hy,rfl⟩:=List.mem_map.1 hx
 have:=h.left y hy
 unfold lQ;split
 ·exact this
 ·split
  ·dsimp only;omega
  ·split
   ·exact this
   ·exact this
theorem aFZ{s:aC}{x:aO}(hH:s.cX)(hok:cF s x)(dF:Int):cF s (iQ s x dF):=by
 have h1:=aEi hH (lW x.dm s.domains.length) _ (aDr hH hok dF s.aD.length)
 exact⟨aCJ hH hok.ck,aCI hok.dm,aL5 hok.ln,h1.dv,h1.each,hok.wt⟩
section
variable{N:cH}{w0 w:World}{e:Env}{R:List Piece}{H:List HP}{K:Act→World→Prop}{L:HL}{s:aC}{x:aO}
def aIp(L:HL)(s:aC)(x:aO):HP:=HP.many [HP.aE L.h 113 (Xl L s.aD.length),rJ L.T s x.ck,wM L.G s x.dm,qU L.R s x.ln,zI L.B (kL s) x.wt x.aS,HP.own 106 6 (.slice L.A s.aD.length L.c) s.aD.length (xD s.aD L.ds).flatten,cM]
def aIQ(L:HL)(s:aC)(x:aO)(i:Nat):HP:=HP.many ((yU s.aD L.ds x.dv).set i cM)
theorem Te(j i:Nat){d:bQ}{l:FL×Nat}{p:cO×dL}(hj:H[j]? =some (dY L s x))(hd:s.aD[i]? =some d)(hl:L.ds[i]? =some l)(hp:x.dv[i]? =some p)
  (k:XK N w0 K e R (HP.many [iJ l.1 d p.1,vE l.2 p.2]::aIQ L s x i::H.set j (aIp L s x))):XK N w0 K e R H:=by
 refine oO j 6 hj rfl ?_;refine oO 0 i rfl (aB9 hd hl hp) ?_;exact k
theorem To(j i:Nat){d:bQ}{l:FL×Nat}{p p':cO×dL}(hj:H[j]? =some (aIp L s x))(hd:s.aD[i]? =some d)(hl:L.ds[i]? =some l)(hp:x.dv[i]? =some p)
  (k:XK N w0 K e R (H.set j (dY L s {x with dv:=x.dv.set i p'}))):XK N w0 K e R (HP.many [iJ l.1 d p'.1,vE l.2 p'.2]::aIQ L s x i::H):=by
 have hlt:=(List.getElem?_eq_some_iff.1 (aB9 hd hl hp)).1
 refine sX 0 i rfl (by rw[List.getElem?_set_self (by simpa using hlt)]) ?_;dsimp only[List.set];refine sX j 6 hj rfl ?_;rw[List.set_set,show HP.many [iJ l.1 d p'.1,vE l.2 p'.2]=Si d (l,p') from rfl,aR1 hd hl hp p'];exact k
theorem Oe(j:Nat)(hj:H[j]? =some (dY L s x))(aV:gE L s)(hok:cF s x)(hn:0 < s.aD.length)(k:∀b off,L.A=some ⟨b,off,none⟩→XK N w0 K e R H):XK N w0 K e R H:=fun a w hr st=>by
 obtain⟨b,off,hA,_⟩:=(st.mY j hj aV hok).rows.2 hn;exact k b off hA a w hr st
theorem aQ.dev(j:Nat){i b off o:Nat}{d:bQ}{l:FL×Nat}(hj:H[j]? =some (dY L s x))(aV:gE L s)(hok:cF s x)(hA:L.A=some ⟨b,off,none⟩)(hd:s.aD[i]? =some d)(hl:L.ds[i]? =some l)(ho:o=off+i*6):aQ w0 R H b o (Ku d l):=.of fun k v hv w st=>by
 obtain⟨b',off',pW,hr⟩:=aI.row (st.mY j hj aV hok).rows (rows:=xD s.aD L.ds) (fun r hr=>aEr r hr) (aEs hd hl) (List.getElem?_eq_some_iff.1 hd).1;rw[hA] at pW;cases pW;subst ho;exact(hr.2 k v hv)
end
end
section
section
variable{P:Program}{N:cH}{w0:World}{e:Env}{R:List Piece}{H:List HP}{Q:Exit→Act→World→Prop}{ops:Array Oper}{rest:List Oper}
variable{d:Nat}{ty:TypeId}{pos:String}{aH:Array Edge}
theorem zM{α:Type}(i:Nat){f:FuncId}{x:Operand}{args:List Operand}{fi ca vs:List Value}{tys:Array TypeId}{p:HP}(v:α→Value)(q:α→HP)(G:α→Prop)(hf:fI P f=true)(hx:e.ev x=some (.func (.func f) fi.toArray ca.toArray))(ha:e.fY args=some vs)(hi:H[i]? =some p)(hd:d < N.n)
  (hc:∀w F,St w0 R H w→p.sat F w→(∀b,F b→b < w.heap.size)→(∀q∈R,q.Le ⟨w,fun b=>b < w.heap.size∧¬F b⟩)→Calls P f (fi++vs++ca).toArray w fun y w'=>∃a,y=.returned (v a)∧G a∧∃F',(q a).sat F' w'∧iH w w' F F')
  (k:∀a,G a→XK N w0 (wpList P ops Q rest) ((d,v a)::e) R (H.set i (q a))):XK N w0 (wpList P ops Q (⟨some d,.call {callee:=.value x,args:=args.toArray,argTypes:=tys},ty,pos,aH,none⟩::rest)) e R H:=fun a w hr st=>wpList_plain rfl fun K hK=>by
 unfold fI at hf;cases hq:P.funcs[f]? with
 | none=>simp[hq] at hf
 | some fn =>
  simp[hq] at hf;obtain⟨gQ,nX⟩:=hf
  have hrun:(execOp a.eval (⟨some d,.call {callee:=.value x,args:=args.toArray,argTypes:=tys},ty,pos,aH,none⟩:Oper)).run P w=.ok (.enter f (fi++vs++ca).toArray) w:=by
   cases hb:fn.body with
   | none=>simp[hb] at nX
   | some c=>simp[execOp,resolve,hr.ev hx,Deferred.ofValue,invoke,callFunc,hq,gQ,hb,hr.fY ha]
  obtain⟨F,hp,hlt,hle,jA⟩:=st.chunk hi;unfold Oper.wp;rw[hrun];refine(hc w F st hp hlt hle).mono fun y w' hy=>?_;obtain⟨a',rfl,hG,F',hs,ht⟩:=hy;exact hK _ _ (k a' hG _ _ (hr.put hd (v a')) (jA w' F' (q a') hs ht))
end
end
section
section
variable{P:Program}{N:cH}{w0:World}{e:Env}{R:List Piece}{H:List HP}{d:Nat}{ty:TypeId}{pos:String}{aH:Array Edge}
def aI1(P:Program)(t:TypeId):Bool:=match P.underlying t with
 | some (.func ..)=>true
 | _=>false
theorem aMq(w:World)(n:Nat)(t:TypeId){f1 f2:Array TypeId}{f3:Bool}(hu:P.underlying t=some (.func f1 f2 f3)):(Op.equalIn (n+1) t .nilFunc .nilFunc).run P w=.ok true w:=by simp[Op.equalIn,run_underlying hu]
theorem aMs(w:World)(n:Nat)(t:TypeId){f1 f2:Array TypeId}{f3:Bool}(f:Fn)(fi ca:Array Value)(hu:P.underlying t=some (.func f1 f2 f3)):(Op.equalIn (n+1) t (.func f fi ca) .nilFunc).run P w=.ok false w:=by simp[Op.equalIn,run_underlying hu]
theorem aJc{x:Operand}{t u:TypeId}{v:Value}{b:Bool}(hx:e.ev x=some v)(hv:(v=.nilFunc∧b=true)∨(∃f a c,v=.func f a c)∧b=false)(ht:aI1 P t=true:=by kernel_rfl):bR P N w0 e R H ⟨some d,.binOp .eql t x (.const .nilFunc) u,ty,pos,aH,none⟩ (.bool b):=iN fun a w hr=>by
 have h2:=hr.ev (show e.ev (.const .nilFunc)=some .nilFunc from rfl)
 unfold aI1 at ht;split at ht
 ·rename_i f1 f2 f3 hu
  rcases hv with⟨rfl,rfl⟩ | ⟨⟨f,fi,ca,rfl⟩,rfl⟩
  ·have h4:(Op.equal t .nilFunc .nilFunc).run P w=.ok true w:=aMq w 9999 t hu
   simp[execOp,hr.ev hx,h2,eqGuard,binOp,h4]
  ·have h4:(Op.equal t (.func f fi ca) .nilFunc).run P w=.ok false w:=aMs w 9999 t f fi ca hu
   simp[execOp,hr.ev hx,h2,eqGuard,binOp,h4]
 ·cases ht
end
def Im(k:Int):Value:=if k=115 then .func (.func 113) #[] #[] else if k=114 then .func (.func 114) #[] #[] else if k=108∨k=110 then .func (.func 115) #[] #[] else .nilFunc
theorem aPU(k:Int)(w:World):Cz 60 #[.int .u8 k] w (Rt (Im k) w):=by
 refine aN func60 ntmps60 ?_;refine aA ?_;refine aG rfl (fun h1=>?_) (fun h1=>?_)
 ·refine aA ?_;exact cZ (by rw[Im,if_pos h1])
 refine aA ?_;refine aG rfl (fun h2=>?_) (fun h2=>?_)
 ·refine aA ?_;exact cZ (by rw[Im,if_neg h1,if_pos h2])
 refine aA ?_;refine aG rfl (fun h3=>?_) (fun h3=>?_)
 ·refine aA ?_;refine aG rfl (fun _=>?_) (fun h=>absurd h3 h);refine aA ?_;exact cZ (by rw[Im,if_neg h1,if_neg h2,if_pos (.inl h3)])
 ·refine aA ?_;refine aG rfl (fun h4=>?_) (fun h4=>?_)
  ·refine aA ?_;exact cZ (by rw[Im,if_neg h1,if_neg h2,if_pos (.inr h4)])
  ·refine aA ?_;exact cZ (by rw[Im,if_neg h1,if_neg h2,if_neg (by omega)])
theorem aSg{k:Int}(hk:k=115∨k=114∨k=108∨k=110):∃f:FuncId,Im k=.func (.func f) #[] #[]∧fI Tryz.prog f=true∧∀(L:FL) (d:bQ) (x:cO) (hrl:d.aP.length≤100) (hok:zE d x) (w:World) (F:Nat→Prop) (hp:(iJ L d x).sat F w) (hF:∀b,F b→b < w.heap.size),
  Cz f #[.pointer (some ⟨L.f,0,none⟩)] w (Wr (.tuple #[]) (iJ L d (Io k d x)) w F):=by
 rcases hk with rfl | rfl | rfl | rfl
 ·exact⟨_,rfl,(by kernel_rfl),aMS⟩
 ·exact⟨_,rfl,(by kernel_rfl),aMT⟩
 ·exact⟨_,rfl,(by kernel_rfl),aAJ⟩
 ·exact⟨_,rfl,(by kernel_rfl),aAJ⟩
theorem aTb(L:BL)(ms:List Int)(ws:List (Option jF))(aS:Int)(i:Nat)(hi:i < ms.length)(h0:iS ws i=0)(w:World)(hR:Jg w L ms ws aS):
  Cz 108 #[.pointer (some ⟨L.b,0,none⟩),iv (i:Int)] w (Rt (.tuple #[.agg #[iv 0,.bool false,iv 0,.int .u32 0],.bool false]) w):=by
 have k1:=hR.r0.at_ (j:=1) rfl
 obtain⟨A,c,k2⟩:=hR.wt i hi;rw[h0] at k2
 have hin:bN ms.length (i:Int)=true:=decide_eq_true (by omega)
 refine aN func108 ntmps108 ?_;refine aA ?_;refine bT fun g1=>?_;refine aA ?_;refine aU (fun w1 t=>aBO L ms ws aS i w1 (hR.below (t.below (by simp)))) ?_;rw[hin];refine aB ?_;exact xH (vs:=[iv 0,.bool false,iv 0,.int .u32 0]) rfl (by kernel_rfl) rfl rfl (aQ.whole 0 rfl) rfl fun w1 t=>⟨rfl,t.below (by simp)⟩
theorem aPX(L:HL)(s:aC)(x:aO)(i:Nat)(hi:i < s.aD.length)(h0:iS x.wt i=0)(w:World)(hR:vF w L s x):
  Cz 55 #[.pointer (some ⟨L.h,0,none⟩),iv (i:Int)] w (Rt (.tuple #[.agg #[iv 0,iv 0,.bool false,.int .u32 0],.bool false]) w):=by
 have k3:=hR.r0.at_ (j:=3) rfl
 refine aN func55 ntmps55 ?_;refine aA ?_;refine bT fun g1=>?_;refine aA ?_;refine aU (fun w1 t=>aTb L.B (kL s) x.wt x.aS i (by rw[Gx];exact hi) h0 w1 (hR.bus.below (t.below (by simp)))) ?_;refine aA ?_;refine bT fun g2=>?_;refine aB ?_;exact xH (vs:=[iv 0,iv 0,.bool false,.int .u32 0]) rfl (by kernel_rfl) rfl rfl (aQ.whole 1 rfl) rfl fun w1 t=>⟨rfl,t.below (by simp)⟩
end
section
def yY(s:aC)(x:aO)(i:Nat):Bool:=match s.aD[i]? with
 | some d=>qG s x.ck d.clock&&(decide (rW x.dm d.domain=49)&& !Au x.ln d.reset)
 | none=>false
def uI(x:aO)(i:Nat):Int:=((x.dv[i]?).map fun p=>qJ p.2.at_).getD 0
theorem aCq{w0:World}{R:List Piece}{H:List HP}{b o:Nat}{vs:List Value}{v:Value}(j:Nat)(h:aQ w0 R H b o vs)(hv:vs[j]? =some v):Rd w0 R H b (o+j) v:=fun w st=>h w st j v hv
section
variable(L:HL)(s:aC)(x:aO)(w:World)
theorem aIn(hH:s.cX)(i:Int)(hR:vF w L s x):Cz 180 #[.pointer (some ⟨L.h,0,none⟩),iv i] w (Rt (.bool (qG s x.ck i)) w):=by
 have k0:=hR.r0.at_ (j:=0) rfl
 refine aN func180 ntmps180 ?_;refine aA ?_;refine aU (fun w1 t=>Dc L s x w1 (hR.below (t.below (by simp)))) ?_;refine aA ?_;refine aU (fun w1 t=>Zb L.T s x.ck hH i w1 (hR.tree.below (t.below (by simp)))) ?_;refine aA ?_;exact cZ
theorem aPY(hH:s.cX)(aV:gE L s)(hok:cF s x)(i:Nat)(hi:i < s.aD.length)(hR:vF w L s x):Cz 14 #[.pointer (some ⟨L.h,0,none⟩),iv (i:Int)] w (Rt (.bool (yY s x i)) w):=by
 have k0:=hR.r0.at_ (j:=0) rfl
 have k1:=hR.r0.at_ (j:=1) rfl
 have k2:=hR.r0.at_ (j:=2) rfl
 have k4:=hR.r0.at_ (j:=4) rfl
 have hls:=aV.ds
 obtain⟨d,dI⟩:=get_some hi;obtain⟨l,iU⟩:=get_some (l:=L.ds) (i:=i) (by omega);obtain⟨b,off,hA,hr⟩:=aI.row hR.rows (rows:=xD s.aD L.ds) (fun r hr=>aEr r hr) (aEs dI iU) hi
 have hin:bN s.aD.length (i:Int)=true:=decide_eq_true (by omega)
 have hal:yY s x i=(qG s x.ck d.clock&&(decide (rW x.dm d.domain=49)&& !Au x.ln d.reset)):=by
  unfold yY;rw[dI]
 rw[hal];refine aN func14 ntmps14 ?_;refine aA ?_;refine aU (fun w1 t=>Ru L s x w1 i (hR.below (t.below (by simp)))) ?_;rw[hin];refine aA ?_;refine kd (dat i (off+i*6) (hx:=by rw[←hA];rfl)) ?_;refine aB ?_;refine bT fun g1=>?_;refine aA ?_;refine mM ?_;refine jC ?_;refine tT (fun w1 t=>Zb L.T s x.ck hH d.clock w1 (hR.tree.below (t.below (by simp)))) ?_;cases hrun:qG s x.ck d.clock
 ·refine jD ?_;refine aA ?_;exact cZ
 ·refine jC ?_;refine tT (fun w1 t=>aHd L.G s x.dm hok.dm d.domain w1 (Dt.below hR.aEe (t.below (by simp)))) ?_;refine jC ?_;refine Od 32 rfl (fun hp=>?_) (fun hp=>?_)
  ·rw[decide_eq_true hp];refine jC ?_;refine tT (fun w1 t=>aG5 L.R s x.ln d.reset w1 (hR.lines.below (t.below (by simp)))) ?_;refine jD ?_;refine aA ?_;exact cZ
  ·rw[decide_eq_false hp];refine jD ?_;refine aA ?_;exact cZ
theorem aIm(aV:gE L s)(hok:cF s x)(i:Nat)(hi:i < s.aD.length)(fG:Tx w)(hR:vF w L s x):Cz 175 #[.pointer (some ⟨L.h,0,none⟩),iv (i:Int)] w (Rt (.int .u8 (uI x i)) w):=by
 have k4:=hR.r0.at_ (j:=4) rfl
 have hls:=aV.ds
 have jB:=hok.dv
 obtain⟨d,dI⟩:=get_some hi;obtain⟨l,iU⟩:=get_some (l:=L.ds) (i:=i) (by omega);obtain⟨p,gP⟩:=get_some (l:=x.dv) (i:=i) (by omega);obtain⟨b,off,hA,hr⟩:=aI.row hR.rows (rows:=xD s.aD L.ds) (fun r hr=>aEr r hr) (aEs dI iU) hi
 have k5:=hr.at_ (j:=5) rfl
 have hin:bN s.aD.length (i:Int)=true:=decide_eq_true (by omega)
 have hst:uI x i=qJ p.2.at_:=by
  unfold uI;rw[gP];rfl
 rw[hst];refine aN func175 ntmps175 ?_;refine aA ?_;refine aU (fun w1 t=>Ru L s x w1 i (hR.below (t.below (by simp)))) ?_;rw[hin];refine aA ?_;refine kd (dat i (off+i*6) (hx:=by rw[←hA];rfl)) ?_;refine aA ?_;refine aU (fun w1 t=>aGY l.2 p.2 (hok.each i d p dI gP).2 w1 (fG.below (t.below (by simp))) ((hR.below (t.below (by simp))).each i d l p dI iU gP).2) ?_;refine aA ?_;exact cZ
def It(x:aO)(i:Nat):aO:={x with dv:=match x.dv[i]? with | some p=>x.dv.set i (p.1,(sE p.2).2) | none=>x.dv}
def Ah(x:aO)(i:Nat):aO:={x with dv:=match x.dv[i]? with | some p=>x.dv.set i (p.1,(nU p.2).2) | none=>x.dv}
theorem aIr(hH:s.cX)(aV:gE L s)(hok:cF s x)(i:Nat)(hi:i < s.aD.length)(F:Nat→Prop)(hp:(dY L s x).sat F w)(hF:∀b,F b→b < w.heap.size):
  Cz 226 #[.pointer (some ⟨L.h,0,none⟩),iv (i:Int)] w (fun y w'=>∃r:Int,y=.returned (iv r)∧True∧∃F',(dY L s (It x i)).sat F' w'∧iH w w' F F'):=by
 have hls:=aV.ds
 have jB:=hok.dv
 obtain⟨d,dI⟩:=get_some hi;obtain⟨l,iU⟩:=get_some (l:=L.ds) (i:=i) (by omega);obtain⟨p,gP⟩:=get_some (l:=x.dv) (i:=i) (by omega)
 have hin:bN s.aD.length (i:Int)=true:=decide_eq_true (by omega)
 have hX:It x i={x with dv:=x.dv.set i (p.1,(sE p.2).2)}:=by
  unfold It;rw[gP]
 rw[hX];refine dB func226 ntmps226 hp hF ?_;refine aA ?_;refine aU (fun w1 t=>Ru L s x w1 i (t.mY 0 rfl aV hok)) ?_;rw[hin];refine aA ?_;refine kd (bP rfl (rN 0 rfl rfl)) ?_;refine Oe 0 rfl aV hok (by omega) fun b off hA=>?_;refine aA ?_;refine kd (dat i (off+i*6) (hx:=by rw[←hA];rfl)) ?_;refine aA ?_;refine kd (bP rfl (aCq (vs:=Ku d l) 5 (aQ.dev 0 rfl aV hok hA dI iU rfl) rfl)) ?_;refine Te 0 i rfl dI iU gP ?_;dsimp only[List.set];refine aZ 0 1 ?_;refine eC 0 (vE l.2 (sE p.2).2) (fun w1 F1 t h1 h2 h3=>aN4 h1 h2) ?_;refine aM 0 1 ?_;refine To 0 i rfl dI iU gP (p':=(p.1,(sE p.2).2)) ?_;dsimp only[List.set];refine aA ?_;exact nA rfl rfl fun w1 t=>⟨_,rfl,trivial,t.turns hF (by simp) (i:=0) rfl⟩
theorem aDW(hH:s.cX)(aV:gE L s)(hok:cF s x)(i:Nat)(hi:i < s.aD.length)(F:Nat→Prop)(hp:(dY L s x).sat F w)(hF:∀b,F b→b < w.heap.size):
  Cz 176 #[.pointer (some ⟨L.h,0,none⟩),iv (i:Int)] w (fun y w'=>∃r:Int,y=.returned (iv r)∧True∧∃F',(dY L s (Ah x i)).sat F' w'∧iH w w' F F'):=by
 have hls:=aV.ds
 have jB:=hok.dv
 obtain⟨d,dI⟩:=get_some hi;obtain⟨l,iU⟩:=get_some (l:=L.ds) (i:=i) (by omega);obtain⟨p,gP⟩:=get_some (l:=x.dv) (i:=i) (by omega)
 have hin:bN s.aD.length (i:Int)=true:=decide_eq_true (by omega)
 have hX:Ah x i={x with dv:=x.dv.set i (p.1,(nU p.2).2)}:=by
  unfold Ah;rw[gP]
 rw[hX];refine dB func176 ntmps176 hp hF ?_;refine aA ?_;refine aU (fun w1 t=>Ru L s x w1 i (t.mY 0 rfl aV hok)) ?_;rw[hin];refine aA ?_;refine kd (bP rfl (rN 0 rfl rfl)) ?_;refine Oe 0 rfl aV hok (by omega) fun b off hA=>?_;refine aA ?_;refine kd (dat i (off+i*6) (hx:=by rw[←hA];rfl)) ?_;refine aA ?_;refine kd (bP rfl (aCq (vs:=Ku d l) 5 (aQ.dev 0 rfl aV hok hA dI iU rfl) rfl)) ?_;refine Te 0 i rfl dI iU gP ?_;dsimp only[List.set];refine aZ 0 1 ?_;refine eC 0 (vE l.2 (nU p.2).2) (fun w1 F1 t h1 h2 h3=>aN3 h1 h2) ?_;refine aM 0 1 ?_;refine To 0 i rfl dI iU gP (p':=(p.1,(nU p.2).2)) ?_;dsimp only[List.set];refine aA ?_;exact nA rfl rfl fun w1 t=>⟨_,rfl,trivial,t.turns hF (by simp) (i:=0) rfl⟩
end
end
section
def Jc(l:List Int)(v:Value)(hs:List HP)(_:Piece):Prop:=∃A c,v=.slice A l.length c∧hs=[HP.own 23 1 (.slice A l.length c) l.length (qX l)]
theorem aMJ(w0:Int)(A:Option Addr)(n c:Nat)(zs:List Int)(w:World)(hs:aI (all w) 1 A n (qX zs))(hn:n=zs.length)(hn2:n≤1000000):Cz 187 #[.int .u32 w0,.slice A n c] w (fun y w'=>(∃v hs q,y=.returned v∧q.w=w'∧Jc (w0::zs) v hs q∧kC w hs q)∧Below w.heap.size w w'):=by
 refine aN func187 ntmps187 ?_;refine aB ?_;refine aF9 1 4 (el:=23) (c:=n+1) (k0:=1) (uR:=.i64) (by kernel_rfl) (by kernel_rfl) rfl (by rw[Int.natCast_add];rfl) (by omega) (by omega) (by decide) fun g1=>?_;refine aB ?_;refine eK fun g2=>?_;refine gM 1 1 4 1 (n':=1) (el:=23) (by kernel_rfl) (by kernel_rfl) (by decide) rfl rfl rfl (nS 0 rfl rfl) (by simp[Value.oneCell']) rfl (by omega) (by omega) (by decide) fun A1 c1=>?_;dsimp only[List.set];refine aB ?_;refine gM 1 1 4 n (n':=n+1) (el:=23) (by kernel_rfl) (by kernel_rfl) (by decide) rfl rfl rfl (qZ (by simp) hs) (Uk _) (by omega) (by omega) (by omega) (by decide) fun A2 c2=>?_;dsimp only[List.set];refine aB ?_;subst hn;refine aY [1] rfl (by decide) (fun _ h=>h) ?_;refine dP [] [] [0] (by simp) rfl (by decide) (by decide) fun q _ _ hfr=>?_;exact aT (h:=fun w1 t=>⟨_,_,⟨w1,q.Z⟩,rfl,rfl,⟨A2,c2,rfl,rfl⟩,t.newR (by simp) (by simp) (hfr (by simp) (by simp))⟩)
theorem Sy(w0 st st':Int)(hst:IntKind.u32.wrap st=st')(A:Option Addr)(n c:Nat)(zs:List Int)(w:World)(hs:aI (all w) 1 A n (qX zs))(hn:n=zs.length)(hn2:n≤1000):
  Cz 107 #[.int .u32 w0,.int .i32 st,.slice A n c] w (fun y w'=>(∃v hs q,y=.returned v∧q.w=w'∧Jc (w0::st'::zs) v hs q∧kC w hs q)∧Below w.heap.size w w'):=by
 subst hn;refine aN func107 ntmps107 ?_;refine aA ?_;refine Ef (ds:=.int .i32) (by kernel_rfl) (by kernel_rfl) rfl hst (by decide) ?_;refine eK fun g1=>?_;refine fR (Jc [w0,st']) (fun w1 t=>aMJ w0 _ 1 1 [st'] w1 (t.rT (i:=0) rfl rfl) rfl (by omega)) ?_;rintro _ _ q1 ⟨A1,c1,rfl,rfl⟩ _;dsimp only[List.cons_append,List.nil_append];refine aA ?_;refine gM 0 1 4 zs.length (n':=zs.length+2) (el:=23) (by kernel_rfl) (by kernel_rfl) (by decide) rfl rfl rfl (qZ (by simp) hs) (Uk _) (by simp;omega) (by omega) (by omega) (by decide) fun A2 c2=>?_;dsimp only[List.set];refine aA ?_;refine aY [0] rfl (by decide) (R':=[all w]) (by simp) ?_;refine dP [] [] [0] (by simp) rfl (by decide) (by decide) fun q _ _ hfr=>?_;exact aT (h:=fun w1 t=>⟨_,_,⟨w1,q.Z⟩,rfl,rfl,⟨A2,c2,rfl,rfl⟩,t.newR (by simp) (by simp) (hfr (by simp) (by simp))⟩)
theorem Qv(i:Int)(w:World):Cz 163 #[iv i] w (Rt (.bool (bN 2 i)) w):=by
 refine aN func163 ntmps163 ?_;refine aA ?_;refine bU (t:=5) rfl (fun h=>?_) (fun h=>?_)
 ·refine aA ?_;refine kA (by simp) ?_;unfold bN
  congr 1
  simp;omega
 ·refine aA ?_;refine kA (by simp) ?_
  have:bN 2 i=false:=decide_eq_false (by omega)
  rw[this]
def Jq(p:Int):Int:=if p=48 then 0 else if p=49 then 1 else if p=116 then 2 else 3
theorem aQU(p:Int)(w:World):Cz 185 #[.int .u8 p] w (Rt (.int .u32 (Jq p)) w):=by
 refine aN func185 ntmps185 ?_;refine aA ?_;refine aG rfl (fun h=>?_) (fun h=>?_)
 ·refine aA ?_;exact cZ (by rw[Jq,if_pos h])
 ·refine aA ?_;refine aG rfl (fun h1=>?_) (fun h1=>?_)
  ·refine aA ?_;exact cZ (by rw[Jq,if_neg h,if_pos h1])
  ·refine aA ?_;refine aG rfl (fun h2=>?_) (fun h2=>?_)
   ·refine aA ?_;exact cZ (by rw[Jq,if_neg h,if_neg h1,if_pos h2])
   ·refine aA ?_;exact cZ (by rw[Jq,if_neg h,if_neg h1,if_neg h2])
end
section
structure iI where
 a1:AC
 a2:AC
 a3:AC
 a4:AC
 x1:AC
 x2:AC
 x3:AC
 y1:AC
 y2:AC
 y3:AC
 b0:AC
 b1:AC
structure bY where
 x:bM
 y:bM
 h0:Int
 h1:Int
 w0:List Int
 w1:List Int
 last:Int
 at_:Int
 kind:Int
 id:Int
def tO(s:aC):bY:=⟨dQ s,dQ s,0,0,[],[],1,-1,0,0⟩
def yB(a:AC)(n:Nat):Value:=.slice a.1 n a.2
def dS(h:Nat)(L:iI)(s:aC)(z:bY):List Value:=[pt h,.slice L.a1.1 s.aF.length L.a1.2,.slice L.a2.1 s.domains.length L.a2.2,.slice L.a3.1 s.aR.length L.a3.2,.slice L.a4.1 s.aD.length L.a4.2,
 .slice L.x1.1 z.x.d.length L.x1.2,.slice L.x2.1 z.x.c.length L.x2.2,.slice L.x3.1 z.x.l.length L.x3.2,.slice L.y1.1 z.y.d.length L.y1.2,.slice L.y2.1 z.y.c.length L.y2.2,.slice L.y3.1 z.y.l.length L.y3.2,
 iv z.h0,.slice L.b0.1 z.w0.length L.b0.2,iv z.h1,.slice L.b1.1 z.w1.length L.b1.2,iv z.last,iv z.at_,.int .u8 z.kind,iv z.id]
def wI(L:iI)(s:aC)(p:Piece):Prop:=sY p s L.a1.1 s.aF.length L.a2.1 s.domains.length L.a3.1 s.aR.length L.a4.1 s.aD.length
theorem wI.le{L:iI}{s:aC}(p q:Piece)(hl:p.Le q)(h:wI L s p):wI L s q:=sY.le h hl
def rL(L:iI)(x y:bM)(p:Piece):Prop:=aI p 1 L.x1.1 x.d.length (bK x.d)∧aI p 1 L.x2.1 x.c.length (bK x.c)∧aI p 1 L.x3.1 x.l.length (bK x.l)∧aI p 1 L.y1.1 y.d.length (bK y.d)∧aI p 1 L.y2.1 y.c.length (bK y.c)∧aI p 1 L.y3.1 y.l.length (bK y.l)
theorem rL.le{L:iI}{x y:bM}(p q:Piece)(hl:p.Le q)(h:rL L x y p):rL L x y q:=⟨h.1.le hl,h.2.1.le hl,h.2.2.1.le hl,h.2.2.2.1.le hl,h.2.2.2.2.1.le hl,h.2.2.2.2.2.le hl⟩
def eA(a:AC)(l:List Int)(p:Piece):Prop:=aI p 1 a.1 l.length (qX l)
theorem eA.le{a:AC}{l:List Int}(p q:Piece)(hl:p.Le q)(h:eA a l p):eA a l q:=aI.le h hl
theorem vC.P{q:Piece}{x y:bM}{v:Value}(h:vC q x y v):∃x1 x2 x3 y1 y2 y3:AC,v=.agg #[yB x1 x.d.length,yB x2 x.c.length,yB x3 x.l.length,yB y1 y.d.length,yB y2 y.c.length,yB y3 y.l.length]∧∀a1 a2 a3 a4 b0 b1:AC,rL ⟨a1,a2,a3,a4,x1,x2,x3,y1,y2,y3,b0,b1⟩ x y q:=by
 obtain⟨A1,k1,A2,k2,A3,k3,B1,m1,B2,m2,B3,m3,e,a1,a2,a3,b1,b2,b3⟩:=h;exact⟨(A1,k1),(A2,k2),(A3,k3),(B1,m1),(B2,m2),(B3,m3),e,fun _ _ _ _ _ _=>⟨a1,a2,a3,b1,b2,b3⟩⟩
def iW(f h:Nat)(L:iI)(s:aC)(z:bY):HP:=HP.many [HP.aE f 138 (dS h L s z),HP.cE (wI L s) (wI.le (L:=L) (s:=s)),HP.cE (rL L z.x z.y) (rL.le (L:=L) (x:=z.x) (y:=z.y)),HP.cE (eA L.b0 z.w0) (eA.le (a:=L.b0) (l:=z.w0)),HP.cE (eA L.b1 z.w1) (eA.le (a:=L.b1) (l:=z.w1))]
def Bz(f h:Nat)(s:aC)(z:bY):HP:=HP.ex fun L:iI=>iW f h L s z
structure Gg(w:World)(f h:Nat)(L:iI)(s:aC)(z:bY):Prop where
 r0:eE w f 0 (dS h L s z)
 so:wI L s (all w)
 st:rL L z.x z.y (all w)
 b0:eA L.b0 z.w0 (all w)
 b1:eA L.b1 z.w1 (all w)
theorem aKA{f h:Nat}{L:iI}{s:aC}{z:bY}{F:Nat→Prop}{w:World}(k:(iW f h L s z).sat F w)(hF:∀b,F b→b < w.heap.size):Gg w f h L s z:=by
 obtain⟨G,g1,g2,_⟩:=k
 have hl:∀i,(⟨w,G i⟩:Piece).Le (all w):=fun i b hb=>⟨hF b (g2 i b hb),rfl⟩
 exact⟨uW (g1 0 _ rfl).2,wI.le _ _ (hl 1) (g1 1 _ rfl),rL.le _ _ (hl 2) (g1 2 _ rfl),eA.le _ _ (hl 3) (g1 3 _ rfl),eA.le _ _ (hl 4) (g1 4 _ rfl)⟩
theorem St.yR{w0 w:World}{R:List Piece}{H:List HP}{f h:Nat}{L:iI}{s:aC}{z:bY}(t:St w0 R H w)(i:Nat)(hi:H[i]? =some (iW f h L s z)):Gg w f h L s z:=by
 obtain⟨F,h1,h2,_⟩:=t.chunk hi;exact aKA h1 h2
def aK9(h:Nat)(s:aC)(v:Value)(hs:List HP)(_:Piece):Prop:=∃f,v=.tuple #[pt f,iv 0]∧hs=[Bz f h s (tO s)]
theorem aEq{w:World}(a:AC)(ha:a=(none,0)):(HP.cE (eA a []) (eA.le (a:=a) (l:=[]))).sat (fun _=>False) w:=by
 subst ha;exact⟨rfl,fun h=>absurd h (by simp)⟩
theorem aRb(h:Nat)(s:aC)(hH:s.cX)(A1 A2 A3 A4:Option Addr)(n1 k1 n2 k2 n3 k3 n4 k4:Nat)(w:World)(hW:fM w s A1 n1 A2 n2 A3 n3 A4 n4):
  Cz 35 #[pt h,.agg #[.slice A1 n1 k1,.slice A2 n2 k2,.slice A3 n3 k3,.slice A4 n4 k4]] w (fun y w'=>(∃v hs q,y=.returned v∧q.w=w'∧aK9 h s v hs q∧kC w hs q)∧Below w.heap.size w w'):=by
 obtain rfl:=hW.nJ;obtain rfl:=hW.nT;obtain rfl:=hW.pS;obtain rfl:=hW.oK;refine aN func35 ntmps35 ?_;refine aA ?_;refine bF fun g1=>?_;refine aA ?_;refine aU (fun w1 t=>Sw s A1 A2 A3 A4 _ k1 _ k2 _ k3 _ k4 w1 (hW.le (t.started (by simp))) hH.t.Sv) ?_;refine aA ?_;refine iO [1,3] ?_;refine bH 0 ?_;refine aK 1 ?_;refine aK 3 ?_;refine aJ 2 ?_
 refine jS [] (fun v w w'=>aCt s v w w') (fun w1 t=>aE5 s A1 A2 A3 A4 _ k1 _ k2 _ k3 _ k4 w1 (hW.le (t.started (by simp))) (fun d hd=>by
  obtain⟨j,hj⟩:=List.getElem?_of_mem hd
  have:=(hH.t.aD j d hj).2.2.2.2.2.2.2.2.1
  omega)) ?_
 rintro _ w1 q1 ⟨cs,rfl,hcs⟩ Hl _ tN
 have tN:=tN (by simp)
 obtain⟨B1,m1,j1,B2,m2,j2,B3,m3,j3,B4,m4,j4,rfl,hsp⟩:=Dr.P hcs
 have hsp:=hsp.le Hl
 obtain⟨rfl,rfl,rfl,rfl⟩:=hsp.len;refine Of (Φ:=wI ⟨(B1,j1),(B2,j2),(B3,j3),(B4,j4),(none,0),(none,0),(none,0),(none,0),(none,0),(none,0),(none,0),(none,0)⟩ s) (hm:=wI.le) tN (by simp[all]) hsp ?_;refine bB ?_;refine aJ 4 ?_;refine jS [] (fun v w w'=>vC (fresh w w') (dQ s) (dQ s) v) (fun w1 st=>aLM s A1 A2 A3 A4 k1 k2 k3 k4 w1 hH.t) ?_;rintro _ w2 q2 hst uU _ Ko
 have Ko:=Ko (by simp)
 obtain⟨x1,x2,x3,y1,y2,y3,rfl,Mr⟩:=hst.P
 have Mr:=rL.le _ _ uU (Mr (B1,j1) (B2,j2) (B3,j3) (B4,j4) (none,0) (none,0))
 refine Of (Φ:=rL ⟨(B1,j1),(B2,j2),(B3,j3),(B4,j4),x1,x2,x3,y1,y2,y3,(none,0),(none,0)⟩ (dQ s) (dQ s)) (hm:=rL.le) Ko (by simp[all]) Mr ?_;refine bB ?_;refine aJ 5 ?_;refine kd (fL rfl) ?_;refine bO ?_;refine aJ 6 ?_;refine bF fun f=>?_;refine bO ?_;refine aJ 7 ?_;refine bA ?_;refine bO ?_;refine eN ?_;refine aA ?_;refine Dq (p:=HP.cE (eA (none,0) []) (eA.le (a:=(none,0)) (l:=[]))) (fun w=>aEq _ rfl) ?_;refine Dq (p:=HP.cE (eA (none,0) []) (eA.le (a:=(none,0)) (l:=[]))) (fun w=>aEq _ rfl) ?_;refine aY [2,4,3,0,1] rfl (by decide) (R':=[all w]) (by simp) ?_;refine nB ?_;refine uZ ?_;refine uZ ?_;refine uZ ?_;refine xG 0 (f:=fun L:iI=>iW f h L s (tO s)) ⟨(B1,j1),(B2,j2),(B3,j3),(B4,j4),x1,x2,x3,y1,y2,y3,(none,0),(none,0)⟩ rfl ?_;dsimp only[List.set];refine dP [] [] [0] (by simp) rfl (by decide) (by decide) fun q _ _ hfr=>?_;exact eL rfl rfl rfl fun w1 t=>⟨⟨_,_,⟨w1,q.Z⟩,rfl,rfl,⟨f,rfl,rfl⟩,t.newR (by simp) (by simp) (hfr (by simp) (by simp))⟩,t.below (by simp)⟩
end
section
section
variable{N:cH}{w0 w:World}{e:Env}{R:List Piece}{H:List HP}{K:Act→World→Prop}{f h:Nat}{s:aC}{z:bY}
theorem Zv(i:Nat)(hi:H[i]? =some (Bz f h s z))(k:∀L:iI,XK N w0 K e R (HP.aE f 138 (dS h L s z)::H.set i (HP.many [cM,HP.cE (wI L s) (wI.le (L:=L) (s:=s)),HP.cE (rL L z.x z.y) (rL.le (L:=L) (x:=z.x) (y:=z.y)),HP.cE (eA L.b0 z.w0) (eA.le (a:=L.b0) (l:=z.w0)),HP.cE (eA L.b1 z.w1) (eA.le (a:=L.b1) (l:=z.w1))]))):XK N w0 K e R H:=by
 have hlt:=Aq hi
 refine aCb i hi fun L=>?_;refine oO i 0 (by rw[List.getElem?_set_self hlt];rfl) rfl ?_
 simpa[List.set_set] using k L
theorem vA(L:iI)(i:Nat)(hi:H[i]? =some (HP.many [cM,HP.cE (wI L s) (wI.le (L:=L) (s:=s)),HP.cE (rL L z.x z.y) (rL.le (L:=L) (x:=z.x) (y:=z.y)),HP.cE (eA L.b0 z.w0) (eA.le (a:=L.b0) (l:=z.w0)),HP.cE (eA L.b1 z.w1) (eA.le (a:=L.b1) (l:=z.w1))]))(k:XK N w0 K e R (H.set i (Bz f h s z))):XK N w0 K e R (HP.aE f 138 (dS h L s z)::H):=by
 have hlt:=Aq hi
 refine sX i 0 hi rfl ?_;refine xG i (f:=fun L:iI=>iW f h L s z) L (by rw[List.getElem?_set_self hlt];rfl) ?_;rw[List.set_set];exact k
end
def oH(z:bY)(a:Int)(l:List Int):Int×bY:=
 if bN 2 a=false then(4,z) else if a=0 then(if z.h0≠0 then(7,z) else(0,{z with h0:=1,w0:=l})) else(if z.h1≠0 then(7,z) else(0,{z with h1:=1,w1:=l}))
theorem aQL(f h:Nat)(s:aC)(z:bY)(a:Int)(A:Option Addr)(n c:Nat)(l:List Int)(w:World)(F:Nat→Prop)(hp:(Bz f h s z).sat F w)(hF:∀b,F b→b < w.heap.size)(hs:aI ⟨w,fun b=>b < w.heap.size∧¬F b⟩ 1 A n (qX l))(hn:n=l.length)(hn2:n≤1000000):
  Cz 94 #[pt f,iv a,.slice A n c] w (Wr (iv (oH z a l).1) (Bz f h s (oH z a l).2) w F):=by
 subst hn;cases hin:bN 2 a
 ·have hr:oH z a l=(4,z):=by simp[oH,hin]
  rw[hr];refine dB func94 ntmps94 hp hF ?_;refine aA ?_;refine aU (fun w1 t=>Qv a w1) ?_;rw[hin];refine aA ?_;exact cI 0 hF
 ·obtain rfl | rfl:a=0∨a=1:=by have:=of_decide_eq_true hin;omega
  ·refine dB func94 ntmps94 hp hF ?_;refine Zv 0 rfl fun L=>?_;dsimp only[List.set,dS];refine aA ?_;refine aU (fun w1 t=>Qv 0 w1) ?_;refine aA ?_;refine kd (fB 0 11) ?_;refine aA ?_;refine aG rfl (fun hb=>?_) (fun hb=>?_)
   ·have hr:oH z 0 l=(7,z):=by simp[oH,bN,hb]
    rw[hr];refine aA ?_;refine vA L 0 rfl ?_;dsimp only[List.set];exact cI 0 hF
   ·have hr:oH z 0 l=(0,{z with h0:=1,w0:=l}):=by simp[oH,bN];simpa using hb
    rw[hr];refine aA ?_;refine iO [5,6] ?_;refine bH 0 ?_;refine bH 1 ?_;refine bH 2 ?_;refine aK 5 ?_;refine aK 6 ?_;refine aJ 3 ?_;refine fR (aFy l.length (qX l)) (fun w1 t=>aJl A _ c _ w1 (hs.le (t.le (by simp))) (Uk _) hn2) ?_;rintro _ _ q1 ⟨An,cn,rfl,rfl⟩ _;dsimp only[List.cons_append,List.nil_append];refine bB ?_;refine aJ 4 ?_;refine kd (fL rfl) ?_;refine bB ?_;refine aJ 7 ?_;refine kd (fB 0 11) ?_;refine bO ?_;refine aJ 8 ?_;refine mU 1 (t:=138) rfl rfl rfl (by kernel_rfl) (by simp[Value.cells,Value.oneCell']) (by simp[Value.cells]) ?_;dsimp only[List.set,Value.cells,fJ];refine bO ?_;refine eN ?_;refine aA ?_;refine wF 0 (Φ:=eA (An,cn) l) (hm:=eA.le) rfl (fun p hp=>hp) ?_;refine aZ 2 3 ?_;refine aY [1,2,3] rfl (by decide) (fun _ h=>h) ?_;refine aM 1 3 ?_;refine vA (h:=h) (s:=s) (z:={z with h0:=1,w0:=l}) {L with b0:=(An,cn)} 0 rfl ?_;dsimp only[List.set];exact cI 0 hF
  ·refine dB func94 ntmps94 hp hF ?_;refine Zv 0 rfl fun L=>?_;dsimp only[List.set,dS];refine aA ?_;refine aU (fun w1 t=>Qv 1 w1) ?_;refine aA ?_;refine kd (fB 1 13) ?_;refine aA ?_;refine aG rfl (fun hb=>?_) (fun hb=>?_)
   ·have hr:oH z 1 l=(7,z):=by simp[oH,bN,hb]
    rw[hr];refine aA ?_;refine vA L 0 rfl ?_;dsimp only[List.set];exact cI 0 hF
   ·have hr:oH z 1 l=(0,{z with h1:=1,w1:=l}):=by simp[oH,bN];simpa using hb
    rw[hr];refine aA ?_;refine iO [5,6] ?_;refine bH 0 ?_;refine bH 1 ?_;refine bH 2 ?_;refine aK 5 ?_;refine aK 6 ?_;refine aJ 3 ?_;refine fR (aFy l.length (qX l)) (fun w1 t=>aJl A _ c _ w1 (hs.le (t.le (by simp))) (Uk _) hn2) ?_;rintro _ _ q1 ⟨An,cn,rfl,rfl⟩ _;dsimp only[List.cons_append,List.nil_append];refine bB ?_;refine aJ 4 ?_;refine kd (fL rfl) ?_;refine bB ?_;refine aJ 7 ?_;refine kd (fB 1 13) ?_;refine bO ?_;refine aJ 8 ?_;refine mU 1 (t:=138) rfl rfl rfl (by kernel_rfl) (by simp[Value.cells,Value.oneCell']) (by simp[Value.cells]) ?_;dsimp only[List.set,Value.cells,fJ];refine bO ?_;refine eN ?_;refine aA ?_;refine wF 0 (Φ:=eA (An,cn) l) (hm:=eA.le) rfl (fun p hp=>hp) ?_;refine aZ 2 4 ?_;refine aY [1,2,3] rfl (by decide) (fun _ h=>h) ?_;refine aM 1 4 ?_;refine vA (h:=h) (s:=s) (z:={z with h1:=1,w1:=l}) {L with b1:=(An,cn)} 0 rfl ?_;dsimp only[List.set];exact cI 0 hF
def oZ(z:bY)(a:Int):Option (List Int):=if a=0 then(if z.h0=2 then some z.w0 else none) else if a=1 then(if z.h1=2 then some z.w1 else none) else none
def oY(z:bY)(a:Int):bY:=if a=0 then(if z.h0=2 then {z with h0:=0,w0:=[]} else z) else if a=1 then(if z.h1=2 then {z with h1:=0,w1:=[]} else z) else z
def Vi(l:Option (List Int))(a:AC):Value:=match l with
 | some l=>.tuple #[.slice a.1 l.length a.2,.bool true]
 | none=>.tuple #[.slice none 0 0,.bool false]
def Jo(f h:Nat)(s:aC)(z:bY)(l:List Int)(c:AC):HP:=HP.many [Bz f h s z,HP.cE (eA c l) (eA.le (a:=c) (l:=l))]
theorem aI8(f h:Nat)(s:aC)(z:bY)(a:Int)(w:World)(F:Nat→Prop)(hp:(Bz f h s z).sat F w)(hF:∀b,F b→b < w.heap.size):
  Cz 95 #[pt f,iv a] w (fun y w'=>∃c:AC,y=.returned (Vi (oZ z a) c)∧True∧∃F',(Jo f h s (oY z a) ((oZ z a).getD []) c).sat F' w'∧iH w w' F F'):=by
 have Xg:∀w:World,(HP.cE (eA (none,0) []) (eA.le (a:=(none,0)) (l:=[]))).sat (fun _=>False) w:=fun w=>aEq _ rfl
 cases hin:bN 2 a
 ·have h0:a≠0:=fun h=>by subst h;cases hin
  have h1:a≠1:=fun h=>by subst h;cases hin
  have hr:oZ z a=none:=by simp[oZ,h0,h1]
  have hz:oY z a=z:=by simp[oY,h0,h1]
  rw[hr,hz];unfold Jo;refine dB func95 ntmps95 hp hF ?_;refine aA ?_;refine aU (fun w1 t=>Qv a w1) ?_;rw[hin];refine aA ?_;refine Dq (p:=HP.cE (eA (none,0) []) (eA.le (a:=(none,0)) (l:=[]))) Xg ?_;refine aY [1,0] rfl (by decide) (fun _ h=>h) ?_;refine nB ?_;exact eL rfl rfl rfl fun w1 t=>⟨(none,0),rfl,trivial,t.turns hF (by simp) (i:=0) rfl⟩
 ·obtain rfl | rfl:a=0∨a=1:=by have:=of_decide_eq_true hin;omega
  ·refine dB func95 ntmps95 hp hF ?_;refine Zv 0 rfl fun L=>?_;dsimp only[List.set,dS];refine aA ?_;refine aU (fun w1 t=>Qv 0 w1) ?_;refine aA ?_;refine kd (fB 0 11) ?_;refine aA ?_;refine aG rfl (fun hb=>?_) (fun hb=>?_)
   ·have hr:oZ z 0=none:=by simp[oZ,hb]
    have hz:oY z 0=z:=by simp[oY,hb]
    rw[hr,hz];unfold Jo;dsimp only[Option.getD];refine aA ?_;refine vA L 0 rfl ?_;dsimp only[List.set];refine Dq (p:=HP.cE (eA (none,0) []) (eA.le (a:=(none,0)) (l:=[]))) Xg ?_;refine aY [1,0] rfl (by decide) (fun _ h=>h) ?_;refine nB ?_;exact eL rfl rfl rfl fun w1 t=>⟨(none,0),rfl,trivial,t.turns hF (by simp) (i:=0) rfl⟩
   ·have eY:z.h0=2:=by simpa using hb
    have hr:oZ z 0=some z.w0:=by simp[oZ,eY]
    have hz:oY z 0={z with h0:=0,w0:=[]}:=by simp[oY,eY]
    rw[hr,hz];unfold Jo;dsimp only[Option.getD];refine aA ?_;refine kd (fB 0 11) ?_;refine aA ?_;refine kd (fL rfl) ?_;refine aA ?_;refine kd (fB 0 11) ?_;refine mU 0 (t:=138) rfl rfl rfl (by kernel_rfl) (by simp[Value.cells,Value.oneCell']) (by simp[Value.cells]) ?_;dsimp only[List.set,Value.cells,fJ];refine aA ?_;refine aZ 1 3 ?_;refine Dq (p:=HP.cE (eA (none,0) []) (eA.le (a:=(none,0)) (l:=[]))) Xg ?_;refine aY [0,2,3,1] rfl (by decide) (fun _ h=>h) ?_;refine aM 1 3 ?_;refine vA (h:=h) (s:=s) (z:={z with h0:=0,w0:=[]}) {L with b0:=(none,0)} 0 rfl ?_;dsimp only[List.set];refine nB ?_;exact eL rfl rfl rfl fun w1 t=>⟨L.b0,rfl,trivial,t.turns hF (by simp) (i:=0) rfl⟩
  ·refine dB func95 ntmps95 hp hF ?_;refine Zv 0 rfl fun L=>?_;dsimp only[List.set,dS];refine aA ?_;refine aU (fun w1 t=>Qv 1 w1) ?_;refine aA ?_;refine kd (fB 1 13) ?_;refine aA ?_;refine aG rfl (fun hb=>?_) (fun hb=>?_)
   ·have hr:oZ z 1=none:=by simp[oZ,hb]
    have hz:oY z 1=z:=by simp[oY,hb]
    rw[hr,hz];unfold Jo;dsimp only[Option.getD];refine aA ?_;refine vA L 0 rfl ?_;dsimp only[List.set];refine Dq (p:=HP.cE (eA (none,0) []) (eA.le (a:=(none,0)) (l:=[]))) Xg ?_;refine aY [1,0] rfl (by decide) (fun _ h=>h) ?_;refine nB ?_;exact eL rfl rfl rfl fun w1 t=>⟨(none,0),rfl,trivial,t.turns hF (by simp) (i:=0) rfl⟩
   ·have eY:z.h1=2:=by simpa using hb
    have hr:oZ z 1=some z.w1:=by simp[oZ,eY]
    have hz:oY z 1={z with h1:=0,w1:=[]}:=by simp[oY,eY]
    rw[hr,hz];unfold Jo;dsimp only[Option.getD];refine aA ?_;refine kd (fB 1 13) ?_;refine aA ?_;refine kd (fL rfl) ?_;refine aA ?_;refine kd (fB 1 13) ?_;refine mU 0 (t:=138) rfl rfl rfl (by kernel_rfl) (by simp[Value.cells,Value.oneCell']) (by simp[Value.cells]) ?_;dsimp only[List.set,Value.cells,fJ];refine aA ?_;refine aZ 1 4 ?_;refine Dq (p:=HP.cE (eA (none,0) []) (eA.le (a:=(none,0)) (l:=[]))) Xg ?_;refine aY [0,2,3,1] rfl (by decide) (fun _ h=>h) ?_;refine aM 1 4 ?_;refine vA (h:=h) (s:=s) (z:={z with h1:=0,w1:=[]}) {L with b1:=(none,0)} 0 rfl ?_;dsimp only[List.set];refine nB ?_;exact eL rfl rfl rfl fun w1 t=>⟨L.b1,rfl,trivial,t.turns hF (by simp) (i:=0) rfl⟩
end
section
def Dh(c:eG)(r:Int):Int:=if c.kind=112 then(if 1099511627776 < r*c.mul / c.div then 1099511627776 else r*c.mul / c.div) else if c.kind=100 then r / c.div else r
def Nn(s:aC):Nat→Nat→Int
 | 0,_=>0
 | k + 1, i => match s.aF[i]? with
  | none=>0
  | some c=>if c.kind=111 then c.rate else Dh c (match c.src with
   | []=>0
   | f::_=>Nn s k f.toNat)
def sB(s:aC)(i:Nat):Int:=Nn s (i+1) i
def Jp(s:aC)(st:List eS)(i:Int):Int:=if qG s st i then sB s i.toNat else 0
theorem aRh{s:aC}(hf:Fits eG.fit s.aF):∀(c k:Nat),c < k→Nn s k c=Nn s (c+1) c:=by
 intro c
 induction c using Nat.strongRecOn with
 | _ c ih =>
  intro k hk;obtain⟨k,rfl⟩:=Nat.exists_eq_add_of_lt hk;rw[show c+k+1=(c+k)+1 from rfl];unfold Nn;cases hc:s.aF[c]? with
  | none=>rfl
  | some x =>
   dsimp only;cases hs:x.src with
   | nil=>rfl
   | cons f fs=>
    have hfit:=(hf c x hc).1 f (by rw[hs];simp)
    have h1:f.toNat < c:=by omega
    dsimp only;rw[ih f.toNat h1 (c+k) (by omega),ih f.toNat h1 c h1]
theorem aIJ{s:aC}(hf:Fits eG.fit s.aF){i:Nat}{c:eG}(hc:s.aF[i]? =some c):sB s i=if c.kind=111 then c.rate else Dh c (match c.src with
  | []=>0
  | f::_=>sB s f.toNat):=by
 unfold sB;rw[Nn,hc];dsimp only;cases hs:c.src with
 | nil=>rfl
 | cons f fs=>
  have hfit:=(hf i c hc).1 f (by rw[hs];simp)
  dsimp only;rw[aRh hf f.toNat i (by omega)]
theorem aRg{s:aC}(hf:Fits eG.fit s.aF):∀i:Nat,0≤sB s i∧sB s i≤1099511627776:=by
 intro i
 induction i using Nat.strongRecOn with
 | _ i ih =>
  cases hc:s.aF[i]? with
  | none=>unfold sB Nn;rw[hc];exact⟨Int.le_refl 0,by show(0:Int)≤1099511627776;omega⟩
  | some c =>
   rw[aIJ hf hc];obtain⟨hsrc,hfit⟩:=hf i c hc
   have hr:0≤(match c.src with | []=>0 | f::_=>sB s f.toNat)∧(match c.src with | []=>0 | f::_=>sB s f.toNat)≤1099511627776:=by
    cases hs:c.src with
    | nil=>exact⟨Int.le_refl 0,by show(0:Int)≤1099511627776;omega⟩
    | cons f fs=>
     have:=hsrc f (by rw[hs];simp)
     exact ih f.toNat (by omega)
   generalize (match c.src with | []=>0 | f::_=>sB s f.toNat)=r at hr;rcases hfit with⟨hk,_,h1,h2,_⟩ | ⟨hk,_,_,h1,h2,h3,h4,_⟩ | ⟨hk,_,_,_,h1,h2,_⟩ | ⟨hk,_⟩ | ⟨hk,_⟩
   ·rw[if_pos hk];omega
   ·rw[if_neg (by omega),Dh,if_pos hk]
    have:0≤r*c.mul / c.div:=Int.ediv_nonneg (Int.mul_nonneg hr.1 (by omega)) (by omega)
    split<;>omega
   ·rw[if_neg (by omega),Dh,if_neg (by omega),if_pos hk]
    have h5:0≤r / c.div:=Int.ediv_nonneg hr.1 (by omega)
    have h6:r / c.div≤r:=Int.ediv_le_self _ hr.1
    omega
   ·rw[if_neg (by omega),Dh,if_neg (by omega),if_neg (by omega)];exact hr
   ·rw[if_neg (by omega),Dh,if_neg (by omega),if_neg (by omega)];exact hr
theorem aIK(n:Int)(h1:1≤n)(h2:n≤1000)(w:World):Cz 246 #[iv n] w (Rt (.bool true) w):=by
 refine aN func246 ntmps246 ?_;refine aA ?_;refine bU (t:=5) rfl (fun _=>?_) (fun h=>absurd h1 h);refine aA ?_;refine kA (by simp) ?_;rw[decide_eq_true h2]
theorem aMa(r m d:Int)(hr:0≤r∧r≤1099511627776)(hm:1≤m∧m≤8)(hd:1≤d∧d≤4)(w:World):Cz 243 #[.int .u64 r,iv m,iv d] w (Rt (.tuple #[.int .u64 (if 1099511627776 < r*m / d then 0 else r*m / d),iv (if 1099511627776 < r*m / d then 3 else 0)]) w):=by
 have hmul:0≤r*m∧r*m≤1099511627776*8:=⟨Int.mul_nonneg hr.1 (by omega),Int.mul_le_mul hr.2 hm.2 (by omega) (by omega)⟩
 have hq:0≤r*m / d∧r*m / d≤r*m:=⟨Int.ediv_nonneg hmul.1 (by omega),Int.ediv_le_self _ hmul.1⟩
 refine aN func243 ntmps243 ?_;refine aA ?_;refine bU (t:=11) rfl (fun h=>absurd h (by omega)) (fun _=>?_);refine aA ?_;refine aU (fun w1 t=>aIK m hm.1 (by omega) w1) ?_;refine aA ?_;refine aU (fun w1 t=>aIK d hd.1 (by omega) w1) ?_;refine aA ?_;refine Ef (ds:=.int .i64) (kd:=.u64) (by kernel_rfl) (by kernel_rfl) rfl (wrap_u64 (by omega)) (by decide) ?_;refine aKN rfl rfl (c:=r*m) (wrap_u64 (by omega)) (by decide) ?_;refine aA ?_;refine Ef (ds:=.int .i64) (kd:=.u64) (by kernel_rfl) (by kernel_rfl) rfl (wrap_u64 (by omega)) (by decide) ?_;refine aF8 rfl rfl (c:=r*m / d) (by omega) (by rw[Int.tdiv_eq_ediv_of_nonneg hmul.1];exact wrap_u64 (by omega)) (by decide) ?_;refine aA ?_;refine aG rfl (fun h=>?_) (fun h=>?_)
 ·rw[if_pos h,if_pos h];refine aA ?_;exact eL rfl rfl rfl fun w1 t=>⟨rfl,t.below (by simp)⟩
 ·rw[if_neg h,if_neg h];refine aA ?_;exact eL rfl rfl rfl fun w1 t=>⟨rfl,t.below (by simp)⟩
theorem aS9(L:TL)(s:aC)(st:List eS)(hH:s.cX)(b1 b2:Nat):∀(i:Nat),i < s.aF.length→∀w,xI w L s st→fO w b1 0 (.pointer (some ⟨L.t,0,none⟩))→fO w b2 0 (.func (.func 242) #[] #[pt b1,pt b2])→
  Cz 242 #[iv (i:Int),pt b1,pt b2] w (Rt (.int .u64 (sB s i)) w):=by
 intro i
 induction i using Nat.strongRecOn with
 | _ i ih =>
  intro hlt w hR Hv eY;obtain⟨b,off,c,a,x,hc,hx,hA,hro,hs⟩:=hR.node hlt
  have Xf:=aIJ hH.t.aF hc
  have h0:=hR.r0
  rw[hA] at h0
  have k0:=hro.at_ (j:=0) rfl
  have k2:=hro.at_ (j:=2) rfl
  have k3:=hro.at_ (j:=3) rfl
  have k4:=hro.at_ (j:=4) rfl
  have k10:=hro.at_ (j:=10) rfl
  have Rz:∀{w1},Below w.heap.size w w1→fO w1 b1 0 (.pointer (some ⟨L.t,0,none⟩)):=fun hb=>⟨Nat.lt_of_lt_of_le Hv.1 hb.size,(hb.cell (p:=⟨_,0,none⟩) Hv.1).trans Hv.2⟩
  have go2:∀{w1},Below w.heap.size w w1→fO w1 b2 0 (.func (.func 242) #[] #[pt b1,pt b2]):=fun hb=>⟨Nat.lt_of_lt_of_le eY.1 hb.size,(hb.cell (p:=⟨_,0,none⟩) eY.1).trans eY.2⟩
  obtain⟨hsrc,hfit⟩:=hH.t.aF i c hc;refine aN func242 ntmps242 ?_;refine aA ?_;refine kd (dat i (off+i*11)) ?_;rcases hfit with⟨hk,hs0,_⟩ | hfit
  ·rw[hk] at k0;rw[if_pos hk] at Xf;refine aA ?_;exact cZ (by rw[Xf])
  obtain⟨f,fs,hf⟩:∃(f:Nat) (fs:List Int),c.src=(f:Int)::fs:=by
   cases hs0:c.src with
   | nil=>rw[hs0] at hfit;simp at hfit
   | cons f fs=>exact⟨f.toNat,fs,by have:=(hsrc f (by rw[hs0];simp)).1;rw[Int.toNat_of_nonneg this]⟩
  have Mz:f < i:=by have:=(hsrc f (by rw[hf];simp)).2;omega
  have pV:=aRg hH.t.aF f
  have aBy:∀w1,Below w.heap.size w w1→Cz 90 #[.pointer (some ⟨L.t,0,none⟩),iv (i:Int)] w1 (Rt (iv (f:Int)) w1):=fun w1 hb=>Su L s st i f c fs w1 (hR.below hb) hc hf
  have aBx:∀w1,Below w.heap.size w w1→Cz 242 #[iv (f:Int),pt b1,pt b2] w1 (Rt (.int .u64 (sB s f)) w1):=fun w1 hb=>ih f Mz (by omega) w1 (hR.below hb) (Rz hb) (go2 hb)
  rw[hf] at Xf
  have Da:sB s i=if c.kind=111 then c.rate else Dh c (sB s f):=Xf
  clear Xf;rcases hfit with⟨hk,_,_,Wv,hm2,dI,Rv,_⟩ | ⟨hk,_,_,_,dI,Rv,_⟩ | ⟨hk,_⟩ | ⟨hk,_⟩
  ·rw[hk] at k0;rw[if_neg (by omega),Dh,if_pos hk] at Da;refine aA ?_;refine mM ?_;refine jC ?_;refine tT (fun w1 t=>aBy w1 (t.below (by simp))) ?_;refine Iu (fi:=[]) (vs:=[iv (f:Int)]) (ca:=[pt b1,pt b2]) (fun w1 t=>aBx w1 (t.below (by simp))) ?_;refine jD ?_;refine aA ?_;refine mM ?_;refine jC ?_;refine tT (fun w1 t=>aMa _ c.mul c.div pV ⟨Wv,hm2⟩ ⟨dI,Rv⟩ w1) ?_;refine jD ?_;refine aA ?_
   by_cases hq:1099511627776 < sB s f*c.mul / c.div
   ·rw[if_pos hq] at Da;rw[if_pos hq,if_pos hq];refine aA ?_;exact cZ (by rw[Da])
   ·rw[if_neg hq] at Da;rw[if_neg hq,if_neg hq];refine aA ?_;exact cZ (by rw[Da])
  ·rw[hk] at k0;rw[if_neg (by omega),Dh,if_neg (by omega),if_pos hk] at Da
   have hby:byF c=c.div:=by rw[byF,if_pos hk]
   rw[hby] at k10
   have hq:0≤sB s f / c.div∧sB s f / c.div≤sB s f:=⟨Int.ediv_nonneg pV.1 (by omega),Int.ediv_le_self _ pV.1⟩
   refine aA ?_;refine mM ?_;refine jC ?_;refine tT (fun w1 t=>aBy w1 (t.below (by simp))) ?_;refine Iu (fi:=[]) (vs:=[iv (f:Int)]) (ca:=[pt b1,pt b2]) (fun w1 t=>aBx w1 (t.below (by simp))) ?_;refine jD ?_;refine aA ?_;refine Ef (ds:=.int .i64) (kd:=.u64) (by kernel_rfl) (by kernel_rfl) rfl (wrap_u64 (by omega)) (by decide) ?_;refine aF8 rfl rfl (c:=sB s f / c.div) (by omega) (by rw[Int.tdiv_eq_ediv_of_nonneg pV.1];exact wrap_u64 (by omega)) (by decide) ?_;refine aA ?_;exact cZ (by rw[Da])
  ·rw[hk] at k0;rw[if_neg (by omega),Dh,if_neg (by omega),if_neg (by omega)] at Da;refine aA ?_;refine mM ?_;refine jC ?_;refine tT (fun w1 t=>aBy w1 (t.below (by simp))) ?_;refine Iu (fi:=[]) (vs:=[iv (f:Int)]) (ca:=[pt b1,pt b2]) (fun w1 t=>aBx w1 (t.below (by simp))) ?_;refine jD ?_;refine aA ?_;exact cZ (by rw[Da])
  ·rw[hk] at k0;rw[if_neg (by omega),Dh,if_neg (by omega),if_neg (by omega)] at Da;refine aA ?_;refine mM ?_;refine jC ?_;refine tT (fun w1 t=>aBy w1 (t.below (by simp))) ?_;refine Iu (fi:=[]) (vs:=[iv (f:Int)]) (ca:=[pt b1,pt b2]) (fun w1 t=>aBx w1 (t.below (by simp))) ?_;refine jD ?_;refine aA ?_;exact cZ (by rw[Da])
theorem aS6(L:TL)(s:aC)(st:List eS)(hH:s.cX)(i:Int)(w:World)(hR:xI w L s st):
  Cz 232 #[.pointer (some ⟨L.t,0,none⟩),iv i] w (Rt (.int .u64 (Jp s st i)) w):=by
 unfold Jp;cases hr:qG s st i
 ·rw[if_neg (by decide)];refine aN func232 ntmps232 ?_;refine aA ?_;refine bF fun g1=>?_;refine aA ?_;refine aU (fun w1 t=>Zb L s st hH i w1 (hR.below (t.below (by simp)))) ?_;rw[hr];refine aA ?_;exact cZ
 ·rw[if_pos rfl]
  have hi:bN s.aF.length i=true:=by
   unfold qG at hr;exact(Bool.and_eq_true _ _▸hr).1
  obtain⟨n,rfl⟩:∃n:Nat,i=n:=⟨i.toNat,by have:=of_decide_eq_true hi;omega⟩
  have hlt:n < s.aF.length:=by have:=of_decide_eq_true hi;omega
  refine aN func232 ntmps232 ?_;refine aA ?_;refine bF fun g1=>?_;refine aA ?_;refine aU (fun w1 t=>Zb L s st hH n w1 (hR.below (t.below (by simp)))) ?_;rw[hr];refine aA ?_;refine bT fun g2=>?_;refine aA ?_;refine kS (vf:=[]) (vc:=[pt g1,pt g2]) rfl rfl (by decide) ?_;refine aA ?_;refine aBd (fi:=[]) (vs:=[iv (n:Int)]) (ca:=[pt g1,pt g2]) (fun w1 t=>aS9 L s st hH g1 g2 n hlt w1 (hR.below (t.below (by simp))) ((t.box (i:=1) rfl).at_ (j:=0) rfl) ((t.box (i:=0) rfl).at_ (j:=0) rfl)) ?_;refine aA ?_;exact cZ
end
section
def mH(s:aC)(x:aO)(l:List Int):List Int:=
 let w:=l.headD 0
 if bZ w 0 8=0 then[131072]
 else if bZ w 10 8=16∧bZ w 0 8=1 then[IntKind.u32.wrap (s.domains.length+s.aF.length*256+s.aR.length*65536+s.aD.length*16777216)]
 else if bZ w 10 8=17∧bZ w 0 8=5 then[Jq (rW x.dm (l.getD 1 0))]
 else if bZ w 10 8=20∧bZ w 0 8=6 then[IntKind.u32.wrap (Jp s x.ck (l.getD 1 0)),IntKind.u32.wrap (Jp s x.ck (l.getD 1 0) / 4294967296)] else[]
theorem aPR(L:HL)(s:aC)(x:aO)(w:World)(hH:s.cX)(i:Int)(hR:vF w L s x):Cz 186 #[.pointer (some ⟨L.h,0,none⟩),iv i] w (Rt (.int .u64 (Jp s x.ck i)) w):=by
 have k0:=hR.r0.at_ (j:=0) rfl
 refine aN func186 ntmps186 ?_;refine aA ?_;refine aU (fun w1 t=>Dc L s x w1 (hR.below (t.below (by simp)))) ?_;refine aA ?_;refine aU (fun w1 t=>aS6 L.T s x.ck hH i w1 (hR.tree.below (t.below (by simp)))) ?_;refine aA ?_;exact cZ
theorem aJw{α:Type}{cs vs:List α}{o:Nat}(hv:(cs.drop o).take vs.length=vs){j:Nat}{v:α}(hj:vs[j]? =some v):cs[o+j]? =some v:=by
 have hlt:=(List.getElem?_eq_some_iff.1 hj).1
 rw[←hv,List.getElem?_take_of_lt hlt,List.getElem?_drop] at hj;exact hj
theorem aIA(f:Nat)(L:iI)(s:aC)(z:bY)(hL:HL)(x:aO)(hH:s.cX)(tM:vG s x.dm)(A:Option Addr)(c:Nat)(v:Int)(l:List Int)(w:World)(hR:Gg w f hL.h L s z)(hh:vF w hL s x)(hs:aI (all w) 1 A (v::l).length (qX (v::l)))
  (hu:bZ v 28 4=0) (mJ:(bZ v 10 8=17∧bZ v 0 8=5)∨(bZ v 10 8=20∧bZ v 0 8=6)→∃i,l=[i]∧0≤i∧i < 4294967296):
  Cz 106 #[pt f,.slice A (v::l).length c] w (fun y w'=>(∃r,y=.returned r∧aAi (mH s x (v::l)) r w w')∧Below w.heap.size w w'):=by
 obtain⟨b,off,rfl,hro⟩:=aI.u32 hs (by simp)
 have k0:=hro 0 v rfl
 have hlen:(v::l).length=l.length+1:=rfl
 have hE:uG v=0:=by rw[uG,if_neg (by simp[hu])]
 have hU:Gk v=Ht (bZ v 0 8) (bZ v 8 2) (bZ v 10 8) (bZ v 18 10):=by rw[Gk,if_neg (by simp[hu])]
 have kf:=hR.r0.at_ (j:=0) rfl
 have k4:eE w f 1 [.slice L.a1.1 s.aF.length L.a1.2,.slice L.a2.1 s.domains.length L.a2.2,.slice L.a3.1 s.aR.length L.a3.2,.slice L.a4.1 s.aD.length L.a4.2]:=⟨hR.r0.1,fun j v hj=>by
  have:=hR.r0.2 (1+j) v (aJw rfl hj)
  rwa [Nat.zero_add] at this⟩
 have hnc:=hH.t.nc
 have hnd:=hH.t.nd
 have iL:=hH.t.nr
 have mK:=hH.t.nv
 refine aN func106 ntmps106 ?_;refine aB ?_;refine aU (fun w1 t=>aFW v w1) ?_;rw[hE,hU];dsimp only[Ht];refine aA ?_;refine bT fun g1=>?_;refine aA ?_;refine aG rfl (fun h1=>?_) (fun h1=>?_)
 ·have hm:mH s x (v::l)=[131072]:=if_pos (by simpa using h1)
  rw[hm];refine aA ?_;refine eK fun g2=>?_;refine aA ?_;refine dP [] [0] [] (by simp) rfl (by decide) (by decide) fun q hq _ hfr=>?_;obtain⟨F2,Cj,Cb⟩:=hq 0 _ (by simp) rfl
  have cR:=sZ (Y:=q.Z) (sz:=1) (n:=1) (c:=1) Cj Cb rfl
  exact aT (h:=fun w1 st=>⟨_,rfl,_,_,rfl,aI.le cR (st.mL (by simp) (hfr (by simp) (by simp)))⟩)
 ·have n1:bZ v 0 8≠0:=by simpa using h1
  refine aA ?_;refine bU (t:=26) rfl (fun h2=>?_) (fun h2=>?_)
  ·have p1:bZ v 10 8=16:=by simpa using h2
   refine aA ?_;refine aG rfl (fun h3=>?_) (fun h3=>?_)
   ·have m1:bZ v 0 8=1:=by simpa using h3
    have hm:mH s x (v::l)=[IntKind.u32.wrap (s.domains.length+s.aF.length*256+s.aR.length*65536+s.aD.length*16777216)]:=(if_neg n1).trans (if_pos ⟨p1,m1⟩)
    rw[hm];refine aA ?_;refine bT fun g2=>?_;refine aA ?_;refine Pk rfl rfl (c:=s.aF.length*256) (by decide) (by show IntKind.i64.wrap ((s.aF.length:Int)*256)=_;exact iT (by omega)) (by decide) ?_;refine aA ?_;refine Pk rfl rfl (c:=s.aR.length*65536) (by decide) (by show IntKind.i64.wrap ((s.aR.length:Int)*65536)=_;exact iT (by omega)) (by decide) ?_;refine aA ?_;refine Pk rfl rfl (c:=s.aD.length*16777216) (by decide) (by show IntKind.i64.wrap ((s.aD.length:Int)*16777216)=_;exact iT (by omega)) (by decide) ?_;refine aA ?_;refine Ef (ds:=.int .i64) (kd:=.u32) (by kernel_rfl) (by kernel_rfl) rfl rfl (by decide) ?_;refine eK fun g3=>?_;refine aA ?_;refine dP [] [0] [] (by simp) rfl (by decide) (by decide) fun q hq _ hfr=>?_;obtain⟨F2,Cj,Cb⟩:=hq 0 _ (by simp) rfl
    have cR:=sZ (Y:=q.Z) (sz:=1) (n:=1) (c:=1) Cj Cb rfl
    exact aT (h:=fun w1 st=>⟨_,rfl,_,_,rfl,aI.le cR (st.mL (by simp) (hfr (by simp) (by simp)))⟩)
   ·have m1:bZ v 0 8≠1:=by simpa using h3
    have hm:mH s x (v::l)=[]:=(if_neg n1).trans ((if_neg fun h=>m1 h.2).trans ((if_neg fun h=>by have:=h.1;simp[p1] at this).trans (if_neg fun h=>by have:=h.1;simp[p1] at this)))
    rw[hm];refine aA ?_;refine bU (t:=60) rfl (fun h4=>absurd h4 (by simp[p1])) (fun _=>?_);refine aA ?_;refine bU (t:=80) rfl (fun h4=>absurd h4 (by simp[p1])) (fun _=>?_);refine aA ?_;exact aT (h:=fun _ _=>⟨_,rfl,_,_,rfl,rfl,fun h=>absurd h (by simp)⟩)
  ·have p1:bZ v 10 8≠16:=by simpa using h2
   refine aA ?_;refine bU (t:=60) rfl (fun h3=>?_) (fun h3=>?_)
   ·have p2:bZ v 10 8=17:=by simpa using h3
    refine aA ?_;refine aG rfl (fun h4=>?_) (fun h4=>?_)
    ·have m1:bZ v 0 8=5:=by simpa using h4
     obtain⟨i,rfl,hi1,hi2⟩:=mJ (.inl ⟨p2,m1⟩)
     have aP7:[v,i].length=2:=rfl
     have hm:mH s x [v,i]=[Jq (rW x.dm i)]:=(if_neg n1).trans ((if_neg fun h=>p1 h.1).trans (if_pos ⟨p2,m1⟩))
     have k1:=hro 1 i rfl
     rw[hm];refine aA ?_;refine iO [1,2,3,5,6,7] ?_;refine bH 0 ?_;refine bH 4 ?_;refine aK 1 ?_;refine aK 2 ?_;refine aK 3 ?_;refine aK 5 ?_ (dD:=dat (sz:=1) 1 (off+1));refine aK 6 ?_;refine aK 7 ?_ (dD:=Kz (ds:=.int .u32) (by kernel_rfl) (by kernel_rfl) rfl (iT (by omega)));refine aJ 8 ?_;refine aU (fun w1 t=>aDV hL s x w1 tM i (hh.below (t.below (by simp)))) ?_;refine bO ?_;refine aJ 9 ?_;refine aU (fun w1 t=>aQU _ w1) ?_;refine bO ?_;refine aJ 10 ?_;refine eK fun g2=>?_;refine bO ?_;refine aJ 11 ?_;refine bA ?_;refine bO ?_;refine eN ?_;refine aA ?_;refine dP [] [0] [] (by simp) rfl (by decide) (by decide) fun q hq _ hfr=>?_;obtain⟨F2,Cj,Cb⟩:=hq 0 _ (by simp) rfl
     have cR:=sZ (Y:=q.Z) (sz:=1) (n:=1) (c:=1) Cj Cb rfl
     exact aT (h:=fun w1 st=>⟨_,rfl,_,_,rfl,aI.le cR (st.mL (by simp) (hfr (by simp) (by simp)))⟩)
    ·have m1:bZ v 0 8≠5:=by simpa using h4
     have hm:mH s x (v::l)=[]:=(if_neg n1).trans ((if_neg fun h=>p1 h.1).trans ((if_neg fun h=>m1 h.2).trans (if_neg fun h=>by have:=h.1;simp[p2] at this)))
     rw[hm];refine aA ?_;refine bU (t:=80) rfl (fun h4=>absurd h4 (by simp[p2])) (fun _=>?_);refine aA ?_;exact aT (h:=fun _ _=>⟨_,rfl,_,_,rfl,rfl,fun h=>absurd h (by simp)⟩)
   ·have p2:bZ v 10 8≠17:=by simpa using h3
    refine aA ?_;refine bU (t:=80) rfl (fun h5=>?_) (fun h5=>?_)
    ·have p3:bZ v 10 8=20:=by simpa using h5
     refine aA ?_;refine aG rfl (fun h6=>?_) (fun h6=>?_)
     ·have m1:bZ v 0 8=6:=by simpa using h6
      obtain⟨i,rfl,hi1,hi2⟩:=mJ (.inr ⟨p3,m1⟩)
      have aP7:[v,i].length=2:=rfl
      have hm:mH s x [v,i]=[IntKind.u32.wrap (Jp s x.ck i),IntKind.u32.wrap (Jp s x.ck i / 4294967296)]:=(if_neg n1).trans ((if_neg fun h=>p1 h.1).trans ((if_neg fun h=>p2 h.1).trans (if_pos ⟨p3,m1⟩)))
      have k1:=hro 1 i rfl
      rw[hm];refine aA ?_;refine iO [1,2,3,5,6,7] ?_;refine bH 0 ?_;refine bH 4 ?_;refine aK 1 ?_;refine aK 2 ?_;refine aK 3 ?_;refine aK 5 ?_ (dD:=dat (sz:=1) 1 (off+1));refine aK 6 ?_;refine aK 7 ?_ (dD:=Kz (ds:=.int .u32) (by kernel_rfl) (by kernel_rfl) rfl (iT (by omega)));refine aJ 8 ?_;refine aU (fun w1 t=>aPR hL s x w1 hH i (hh.below (t.below (by simp)))) ?_;refine bO ?_;refine aJ 9 ?_;refine bA ?_;refine bO ?_;refine eN ?_;refine aA ?_;refine Ef (ds:=.int .u64) (kd:=.u32) (by kernel_rfl) (by kernel_rfl) rfl rfl (by decide) ?_;refine aA ?_;refine aKM rfl rfl (c:=Jp s x.ck i / 4294967296) (by decide) (by show Int.fdiv _ (2 ^ 32)=_;rw[Int.fdiv_eq_ediv_of_nonneg _ (by decide)];rfl) (by decide) ?_;refine Ef (ds:=.int .u64) (kd:=.u32) (by kernel_rfl) (by kernel_rfl) rfl rfl (by decide) ?_;refine eK fun g2=>?_;refine aA ?_;refine dP [] [0] [] (by simp) rfl (by decide) (by decide) fun q hq _ hfr=>?_;obtain⟨F2,Cj,Cb⟩:=hq 0 _ (by simp) rfl
      have cR:=sZ (Y:=q.Z) (sz:=1) (n:=2) (c:=2) Cj Cb rfl
      exact aT (h:=fun w1 st=>⟨_,rfl,_,_,rfl,aI.le cR (st.mL (by simp) (hfr (by simp) (by simp)))⟩)
     ·have m1:bZ v 0 8≠6:=by simpa using h6
      have hm:mH s x (v::l)=[]:=(if_neg n1).trans ((if_neg fun h=>p1 h.1).trans ((if_neg fun h=>p2 h.1).trans (if_neg fun h=>m1 h.2)))
      rw[hm];refine aA ?_;exact aT (h:=fun _ _=>⟨_,rfl,_,_,rfl,rfl,fun h=>absurd h (by simp)⟩)
    ·have p3:bZ v 10 8≠20:=by simpa using h5
     have hm:mH s x (v::l)=[]:=(if_neg n1).trans ((if_neg fun h=>p1 h.1).trans ((if_neg fun h=>p2 h.1).trans (if_neg fun h=>p3 h.1)))
     rw[hm];refine aA ?_;exact aT (h:=fun _ _=>⟨_,rfl,_,_,rfl,rfl,fun h=>absurd h (by simp)⟩)
end
section
def fD(f:Nat)(hL:HL)(s:aC)(z:bY)(x:aO):HP:=HP.many [Bz f hL.h s z,dY hL s x]
def jV(z:bY)(a:Nat):List Int:=if a=0 then z.w0 else z.w1
def uX(s:aC)(x:aO)(l:List Int)(st:Int):List Int:=l.headD 0::IntKind.u32.wrap st::(if st=0 then mH s x l else[])
def Gu(z:bY)(a:Nat)(hs:Int)(l:List Int):bY:=if a=0 then {z with h0:=hs,w0:=l} else {z with h1:=hs,w1:=l}
def lC(s:aC)(x:aO)(z:bY)(a:Nat)(st:Int):bY:=Gu z a 2 (uX s x (jV z a) st)
structure tW(l:List Int):Prop where
 ne:∃v r,l=v::r∧bZ v 28 4=0∧((bZ v 10 8=17∧bZ v 0 8=5)∨(bZ v 10 8=20∧bZ v 0 8=6)→∃i,r=[i]∧0≤i∧i < 4294967296)
theorem Mh(s:aC)(x:aO)(l:List Int):(mH s x l).length≤2:=by
 unfold mH;dsimp only;split
 ·simp
 ·split
  ·simp
  ·split
   ·simp
   ·split<;>simp
section
variable{N:cH}{w0 w:World}{e:Env}{R:List Piece}{H:List HP}{K:Act→World→Prop}{f h:Nat}{L:iI}{s:aC}{z:bY}{v:Int}{r:List Int}
theorem eA.at_{a:AC}{w:World}(hb:eA a (v::r) (all w)):∃b off,a.1=some ⟨b,off,none⟩∧w.cell? ⟨b,off,none⟩=some (.int .u32 v):=by
 obtain⟨b,off,hA,hc⟩:=aI.u32 hb (by simp);exact⟨b,off,hA,by have:=(hc 0 v rfl).2;simpa using this⟩
theorem aKb(i:Nat)(hi:H[i]? =some (iW f h L s z))(hw:z.w0=v::r)(k:∀b off,L.b0.1=some ⟨b,off,none⟩→Rd w0 R H b off (.int .u32 v)→XK N w0 K e R H):XK N w0 K e R H:=fun a w hr st=>by
 obtain⟨b,off,hA,_⟩:=eA.at_ (hw▸(st.yR i hi).b0);refine k b off hA (fun w1 t=>?_) a w hr st;obtain⟨b',off',pW,hc⟩:=eA.at_ (hw▸(t.yR i hi).b0);rw[hA] at pW;cases pW;exact hc
theorem aKa(i:Nat)(hi:H[i]? =some (iW f h L s z))(hw:z.w1=v::r)(k:∀b off,L.b1.1=some ⟨b,off,none⟩→Rd w0 R H b off (.int .u32 v)→XK N w0 K e R H):XK N w0 K e R H:=fun a w hr st=>by
 obtain⟨b,off,hA,_⟩:=eA.at_ (hw▸(st.yR i hi).b1);refine k b off hA (fun w1 t=>?_) a w hr st;obtain⟨b',off',pW,hc⟩:=eA.at_ (hw▸(t.yR i hi).b1);rw[hA] at pW;cases pW;exact hc
end
theorem aQP(f:Nat)(hL:HL)(s:aC)(z:bY)(x:aO)(hH:s.cX)(aV:gE hL s)(hok:cF s x)(st:Int)(hw:z.w0=[])(hst:st≠0)(w:World)(F:Nat→Prop)(hp:(fD f hL s z x).sat F w)(hF:∀b,F b→b < w.heap.size):
  Cz 52 #[pt f,iv 0,.int .i32 st] w (Wr (.tuple #[]) (fD f hL s (lC s x z 0 st) x) w F):=by
 have hr:lC s x z 0 st={z with h0:=2,w0:=[0,IntKind.u32.wrap st]}:=by simp[lC,Gu,uX,jV,hw,hst]
 rw[hr];refine dB func52 ntmps52 hp hF ?_;refine aZ 0 0 ?_;refine kB 0 fun L=>?_;refine oO 0 0 rfl rfl ?_;dsimp only[List.set,dS];refine aA ?_;refine kd (fB 0 11) ?_;refine aA ?_;refine aM 0 0 ?_;refine aG rfl (fun h=>absurd h (by simp[hw])) (fun _=>?_);refine aA ?_;refine aG rfl (fun h=>absurd h (by simpa using hst)) (fun _=>?_);refine aA ?_;refine aZ 0 0 ?_;refine iO [7,8] ?_;refine bH 0 ?_;refine bH 1 ?_;refine bH 2 ?_;refine bH 3 ?_;refine bH 4 ?_;refine aK 7 ?_;refine aK 8 ?_;refine aJ 5 ?_;refine fR (Jc (0::IntKind.u32.wrap st::[])) (fun w1 t=>Sy 0 st _ rfl none 0 0 [] w1 (⟨rfl,fun h=>absurd h (by simp)⟩) rfl (by have:=Mh s x z.w0;simp;try omega)) ?_;rintro _ _ q9 ⟨An,cn,rfl,rfl⟩ _;dsimp only[List.cons_append,List.nil_append];refine bB ?_;refine aJ 6 ?_;refine kd (fL rfl) ?_;refine bB ?_;refine aJ 9 ?_;refine kd (fB 0 11) ?_;refine bO ?_;refine aJ 10 ?_;refine mU 1 (t:=138) rfl rfl rfl (by kernel_rfl) (by simp[Value.cells,Value.oneCell']) (by simp[Value.cells,dS]) ?_;dsimp only[List.set,Value.cells,fJ,dS];refine bO ?_;refine eN ?_;refine wF 0 (Φ:=eA (An,cn) (0::IntKind.u32.wrap st::[])) (hm:=eA.le) rfl (fun p hp=>hp) ?_;refine aZ 2 3 ?_;refine aY [1,2,3,4] rfl (by decide) (R':=[⟨w,fun b=>b < w.heap.size∧¬F b⟩]) (by simp) ?_;refine aM 1 3 ?_;refine vA (h:=hL.h) (s:=s) (z:={z with h0:=2,w0:=0::IntKind.u32.wrap st::[]}) {L with b0:=(An,cn)} 0 rfl ?_;dsimp only[List.set];refine aM 0 0 ?_;exact jE 0 hF
theorem aQO(f:Nat)(hL:HL)(s:aC)(z:bY)(x:aO)(hH:s.cX)(aV:gE hL s)(hok:cF s x)(st:Int)(hw:z.w1=[])(hst:st≠0)(w:World)(F:Nat→Prop)(hp:(fD f hL s z x).sat F w)(hF:∀b,F b→b < w.heap.size):
  Cz 52 #[pt f,iv 1,.int .i32 st] w (Wr (.tuple #[]) (fD f hL s (lC s x z 1 st) x) w F):=by
 have hr:lC s x z 1 st={z with h1:=2,w1:=[0,IntKind.u32.wrap st]}:=by simp[lC,Gu,uX,jV,hw,hst]
 rw[hr];refine dB func52 ntmps52 hp hF ?_;refine aZ 0 0 ?_;refine kB 0 fun L=>?_;refine oO 0 0 rfl rfl ?_;dsimp only[List.set,dS];refine aA ?_;refine kd (fB 1 13) ?_;refine aA ?_;refine aM 0 0 ?_;refine aG rfl (fun h=>absurd h (by simp[hw])) (fun _=>?_);refine aA ?_;refine aG rfl (fun h=>absurd h (by simpa using hst)) (fun _=>?_);refine aA ?_;refine aZ 0 0 ?_;refine iO [7,8] ?_;refine bH 0 ?_;refine bH 1 ?_;refine bH 2 ?_;refine bH 3 ?_;refine bH 4 ?_;refine aK 7 ?_;refine aK 8 ?_;refine aJ 5 ?_;refine fR (Jc (0::IntKind.u32.wrap st::[])) (fun w1 t=>Sy 0 st _ rfl none 0 0 [] w1 (⟨rfl,fun h=>absurd h (by simp)⟩) rfl (by have:=Mh s x z.w1;simp;try omega)) ?_;rintro _ _ q9 ⟨An,cn,rfl,rfl⟩ _;dsimp only[List.cons_append,List.nil_append];refine bB ?_;refine aJ 6 ?_;refine kd (fL rfl) ?_;refine bB ?_;refine aJ 9 ?_;refine kd (fB 1 13) ?_;refine bO ?_;refine aJ 10 ?_;refine mU 1 (t:=138) rfl rfl rfl (by kernel_rfl) (by simp[Value.cells,Value.oneCell']) (by simp[Value.cells,dS]) ?_;dsimp only[List.set,Value.cells,fJ,dS];refine bO ?_;refine eN ?_;refine wF 0 (Φ:=eA (An,cn) (0::IntKind.u32.wrap st::[])) (hm:=eA.le) rfl (fun p hp=>hp) ?_;refine aZ 2 4 ?_;refine aY [1,2,3,4] rfl (by decide) (R':=[⟨w,fun b=>b < w.heap.size∧¬F b⟩]) (by simp) ?_;refine aM 1 4 ?_;refine vA (h:=hL.h) (s:=s) (z:={z with h1:=2,w1:=0::IntKind.u32.wrap st::[]}) {L with b1:=(An,cn)} 0 rfl ?_;dsimp only[List.set];refine aM 0 0 ?_;exact jE 0 hF
theorem aQR(f:Nat)(hL:HL)(s:aC)(z:bY)(x:aO)(hH:s.cX)(aV:gE hL s)(hok:cF s x)(st:Int)(v:Int)(r:List Int)(hw:z.w0=v::r)(hst:st≠0)(w:World)(F:Nat→Prop)(hp:(fD f hL s z x).sat F w)(hF:∀b,F b→b < w.heap.size):
  Cz 52 #[pt f,iv 0,.int .i32 st] w (Wr (.tuple #[]) (fD f hL s (lC s x z 0 st) x) w F):=by
 have hr:lC s x z 0 st={z with h0:=2,w0:=[v,IntKind.u32.wrap st]}:=by simp[lC,Gu,uX,jV,hw,hst]
 rw[hr];refine dB func52 ntmps52 hp hF ?_;refine aZ 0 0 ?_;refine kB 0 fun L=>?_;refine aKb 0 rfl hw fun b off hA hrd=>?_;obtain⟨a1,a2,a3,a4,x1,x2,x3,y1,y2,y3,⟨B0,c0⟩,b1⟩:=L;dsimp only at hA;subst hA;refine oO 0 0 rfl rfl ?_;dsimp only[List.set,dS];refine aA ?_;refine kd (fB 0 11) ?_;refine aA ?_;refine aM 0 0 ?_;refine aG rfl (fun _=>?_) (fun h=>absurd h (by simp[hw]))
 have hlen:z.w0.length=r.length+1:=by rw[hw];rfl
 refine aB ?_;refine aG rfl (fun h=>absurd h (by simpa using hst)) (fun _=>?_);refine aA ?_;refine aZ 0 0 ?_;refine iO [7,8] ?_;refine bH 0 ?_;refine bH 1 ?_;refine bH 2 ?_;refine bH 3 ?_;refine bH 4 ?_;refine aK 7 ?_;refine aK 8 ?_;refine aJ 5 ?_;refine fR (Jc (v::IntKind.u32.wrap st::[])) (fun w1 t=>Sy v st _ rfl none 0 0 [] w1 (⟨rfl,fun h=>absurd h (by simp)⟩) rfl (by have:=Mh s x z.w0;simp;try omega)) ?_;rintro _ _ q9 ⟨An,cn,rfl,rfl⟩ _;dsimp only[List.cons_append,List.nil_append];refine bB ?_;refine aJ 6 ?_;refine kd (fL rfl) ?_;refine bB ?_;refine aJ 9 ?_;refine kd (fB 0 11) ?_;refine bO ?_;refine aJ 10 ?_;refine mU 1 (t:=138) rfl rfl rfl (by kernel_rfl) (by simp[Value.cells,Value.oneCell']) (by simp[Value.cells,dS]) ?_;dsimp only[List.set,Value.cells,fJ,dS];refine bO ?_;refine eN ?_;refine wF 0 (Φ:=eA (An,cn) (v::IntKind.u32.wrap st::[])) (hm:=eA.le) rfl (fun p hp=>hp) ?_;refine aZ 2 3 ?_;refine aY [1,2,3,4] rfl (by decide) (R':=[⟨w,fun b=>b < w.heap.size∧¬F b⟩]) (by simp) ?_;refine aM 1 3 ?_;refine vA (h:=hL.h) (s:=s) (z:={z with h0:=2,w0:=v::IntKind.u32.wrap st::[]}) ⟨a1,a2,a3,a4,x1,x2,x3,y1,y2,y3,(An,cn),b1⟩ 0 rfl ?_;dsimp only[List.set];refine aM 0 0 ?_;exact jE 0 hF
theorem aQQ(f:Nat)(hL:HL)(s:aC)(z:bY)(x:aO)(hH:s.cX)(aV:gE hL s)(hok:cF s x)(st:Int)(v:Int)(r:List Int)(hw:z.w1=v::r)(hst:st≠0)(w:World)(F:Nat→Prop)(hp:(fD f hL s z x).sat F w)(hF:∀b,F b→b < w.heap.size):
  Cz 52 #[pt f,iv 1,.int .i32 st] w (Wr (.tuple #[]) (fD f hL s (lC s x z 1 st) x) w F):=by
 have hr:lC s x z 1 st={z with h1:=2,w1:=[v,IntKind.u32.wrap st]}:=by simp[lC,Gu,uX,jV,hw,hst]
 rw[hr];refine dB func52 ntmps52 hp hF ?_;refine aZ 0 0 ?_;refine kB 0 fun L=>?_;refine aKa 0 rfl hw fun b off hA hrd=>?_;obtain⟨a1,a2,a3,a4,x1,x2,x3,y1,y2,y3,b0,⟨B1,c1⟩⟩:=L;dsimp only at hA;subst hA;refine oO 0 0 rfl rfl ?_;dsimp only[List.set,dS];refine aA ?_;refine kd (fB 1 13) ?_;refine aA ?_;refine aM 0 0 ?_;refine aG rfl (fun _=>?_) (fun h=>absurd h (by simp[hw]))
 have hlen:z.w1.length=r.length+1:=by rw[hw];rfl
 refine aB ?_;refine aG rfl (fun h=>absurd h (by simpa using hst)) (fun _=>?_);refine aA ?_;refine aZ 0 0 ?_;refine iO [7,8] ?_;refine bH 0 ?_;refine bH 1 ?_;refine bH 2 ?_;refine bH 3 ?_;refine bH 4 ?_;refine aK 7 ?_;refine aK 8 ?_;refine aJ 5 ?_;refine fR (Jc (v::IntKind.u32.wrap st::[])) (fun w1 t=>Sy v st _ rfl none 0 0 [] w1 (⟨rfl,fun h=>absurd h (by simp)⟩) rfl (by have:=Mh s x z.w1;simp;try omega)) ?_;rintro _ _ q9 ⟨An,cn,rfl,rfl⟩ _;dsimp only[List.cons_append,List.nil_append];refine bB ?_;refine aJ 6 ?_;refine kd (fL rfl) ?_;refine bB ?_;refine aJ 9 ?_;refine kd (fB 1 13) ?_;refine bO ?_;refine aJ 10 ?_;refine mU 1 (t:=138) rfl rfl rfl (by kernel_rfl) (by simp[Value.cells,Value.oneCell']) (by simp[Value.cells,dS]) ?_;dsimp only[List.set,Value.cells,fJ,dS];refine bO ?_;refine eN ?_;refine wF 0 (Φ:=eA (An,cn) (v::IntKind.u32.wrap st::[])) (hm:=eA.le) rfl (fun p hp=>hp) ?_;refine aZ 2 4 ?_;refine aY [1,2,3,4] rfl (by decide) (R':=[⟨w,fun b=>b < w.heap.size∧¬F b⟩]) (by simp) ?_;refine aM 1 4 ?_;refine vA (h:=hL.h) (s:=s) (z:={z with h1:=2,w1:=v::IntKind.u32.wrap st::[]}) ⟨a1,a2,a3,a4,x1,x2,x3,y1,y2,y3,b0,(An,cn)⟩ 0 rfl ?_;dsimp only[List.set];refine aM 0 0 ?_;exact jE 0 hF
theorem aQN(f:Nat)(hL:HL)(s:aC)(z:bY)(x:aO)(hH:s.cX)(aV:gE hL s)(hok:cF s x)(v:Int)(r:List Int)(hw:z.w0=v::r)(hu:bZ v 28 4=0)(mJ:(bZ v 10 8=17∧bZ v 0 8=5)∨(bZ v 10 8=20∧bZ v 0 8=6)→∃i,r=[i]∧0≤i∧i < 4294967296)(w:World)(F:Nat→Prop)(hp:(fD f hL s z x).sat F w)(hF:∀b,F b→b < w.heap.size):
  Cz 52 #[pt f,iv 0,.int .i32 0] w (Wr (.tuple #[]) (fD f hL s (lC s x z 0 0) x) w F):=by
 have hr:lC s x z 0 0={z with h0:=2,w0:=v::0::mH s x z.w0}:=by simp[lC,Gu,uX,jV,hw];rfl
 rw[hr];refine dB func52 ntmps52 hp hF ?_;refine aZ 0 0 ?_;refine kB 0 fun L=>?_;refine aKb 0 rfl hw fun b off hA hrd=>?_;obtain⟨a1,a2,a3,a4,x1,x2,x3,y1,y2,y3,⟨B0,c0⟩,b1⟩:=L;dsimp only at hA;subst hA;refine oO 0 0 rfl rfl ?_;dsimp only[List.set,dS];refine aA ?_;refine kd (fB 0 11) ?_;refine aA ?_;refine aM 0 0 ?_;refine aG rfl (fun _=>?_) (fun h=>absurd h (by simp[hw]))
 have hlen:z.w0.length=r.length+1:=by rw[hw];rfl
 refine aB ?_;refine aZ 1 1 ?_
 refine jS [] (fun v w w'=>aAi (mH s x z.w0) v w w') (fun w1 t=>by
  have hf:Gg w1 f hL.h ⟨a1,a2,a3,a4,x1,x2,x3,y1,y2,y3,(some ⟨b,off,none⟩,c0),b1⟩ s z:=t.yR 1 rfl
  have hb:=hf.b0
  rw[eA,hw] at hb
  have:=aIA f _ s z hL x hH hok.dm _ c0 v r w1 hf (t.mY 0 rfl aV hok) hb hu mJ
  rw[←hw] at this
  exact this) ?_
 rintro _ w3 q3 ⟨Am,cm,rfl,cR⟩ Ez _ hF3
 have cR:=cR.le Ez
 refine aM 1 1 ?_;refine aA ?_;refine aZ 0 0 ?_;refine iO [7,8] ?_;refine bH 0 ?_;refine bH 1 ?_;refine bH 2 ?_;refine bH 3 ?_;refine bH 4 ?_;refine aK 7 ?_;refine aK 8 ?_;refine aJ 5 ?_;refine fR (Jc (v::0::mH s x z.w0)) (fun w1 t=>Sy v 0 0 rfl Am (mH s x z.w0).length cm (mH s x z.w0) w1 (cR.le (t.le (by simp))) rfl (by have:=Mh s x z.w0;simp;try omega)) ?_;rintro _ _ q9 ⟨An,cn,rfl,rfl⟩ _;dsimp only[List.cons_append,List.nil_append];refine bB ?_;refine aJ 6 ?_;refine kd (fL rfl) ?_;refine bB ?_;refine aJ 9 ?_;refine kd (fB 0 11) ?_;refine bO ?_;refine aJ 10 ?_;refine mU 1 (t:=138) rfl rfl rfl (by kernel_rfl) (by simp[Value.cells,Value.oneCell']) (by simp[Value.cells,dS]) ?_;dsimp only[List.set,Value.cells,fJ,dS];refine bO ?_;refine eN ?_;refine wF 0 (Φ:=eA (An,cn) (v::0::mH s x z.w0)) (hm:=eA.le) rfl (fun p hp=>hp) ?_;refine aZ 2 3 ?_;refine aY [1,2,3,4] rfl (by decide) (R':=[⟨w,fun b=>b < w.heap.size∧¬F b⟩]) (by simp) ?_;refine aM 1 3 ?_;refine vA (h:=hL.h) (s:=s) (z:={z with h0:=2,w0:=v::0::mH s x z.w0}) ⟨a1,a2,a3,a4,x1,x2,x3,y1,y2,y3,(An,cn),b1⟩ 0 rfl ?_;dsimp only[List.set];refine aM 0 0 ?_;exact jE 0 hF
theorem aQM(f:Nat)(hL:HL)(s:aC)(z:bY)(x:aO)(hH:s.cX)(aV:gE hL s)(hok:cF s x)(v:Int)(r:List Int)(hw:z.w1=v::r)(hu:bZ v 28 4=0)(mJ:(bZ v 10 8=17∧bZ v 0 8=5)∨(bZ v 10 8=20∧bZ v 0 8=6)→∃i,r=[i]∧0≤i∧i < 4294967296)(w:World)(F:Nat→Prop)(hp:(fD f hL s z x).sat F w)(hF:∀b,F b→b < w.heap.size):
  Cz 52 #[pt f,iv 1,.int .i32 0] w (Wr (.tuple #[]) (fD f hL s (lC s x z 1 0) x) w F):=by
 have hr:lC s x z 1 0={z with h1:=2,w1:=v::0::mH s x z.w1}:=by simp[lC,Gu,uX,jV,hw];rfl
 rw[hr];refine dB func52 ntmps52 hp hF ?_;refine aZ 0 0 ?_;refine kB 0 fun L=>?_;refine aKa 0 rfl hw fun b off hA hrd=>?_;obtain⟨a1,a2,a3,a4,x1,x2,x3,y1,y2,y3,b0,⟨B1,c1⟩⟩:=L;dsimp only at hA;subst hA;refine oO 0 0 rfl rfl ?_;dsimp only[List.set,dS];refine aA ?_;refine kd (fB 1 13) ?_;refine aA ?_;refine aM 0 0 ?_;refine aG rfl (fun _=>?_) (fun h=>absurd h (by simp[hw]))
 have hlen:z.w1.length=r.length+1:=by rw[hw];rfl
 refine aB ?_;refine aZ 1 1 ?_
 refine jS [] (fun v w w'=>aAi (mH s x z.w1) v w w') (fun w1 t=>by
  have hf:Gg w1 f hL.h ⟨a1,a2,a3,a4,x1,x2,x3,y1,y2,y3,b0,(some ⟨b,off,none⟩,c1)⟩ s z:=t.yR 1 rfl
  have hb:=hf.b1
  rw[eA,hw] at hb
  have:=aIA f _ s z hL x hH hok.dm _ c1 v r w1 hf (t.mY 0 rfl aV hok) hb hu mJ
  rw[←hw] at this
  exact this) ?_
 rintro _ w3 q3 ⟨Am,cm,rfl,cR⟩ Ez _ hF3
 have cR:=cR.le Ez
 refine aM 1 1 ?_;refine aA ?_;refine aZ 0 0 ?_;refine iO [7,8] ?_;refine bH 0 ?_;refine bH 1 ?_;refine bH 2 ?_;refine bH 3 ?_;refine bH 4 ?_;refine aK 7 ?_;refine aK 8 ?_;refine aJ 5 ?_;refine fR (Jc (v::0::mH s x z.w1)) (fun w1 t=>Sy v 0 0 rfl Am (mH s x z.w1).length cm (mH s x z.w1) w1 (cR.le (t.le (by simp))) rfl (by have:=Mh s x z.w1;simp;try omega)) ?_;rintro _ _ q9 ⟨An,cn,rfl,rfl⟩ _;dsimp only[List.cons_append,List.nil_append];refine bB ?_;refine aJ 6 ?_;refine kd (fL rfl) ?_;refine bB ?_;refine aJ 9 ?_;refine kd (fB 1 13) ?_;refine bO ?_;refine aJ 10 ?_;refine mU 1 (t:=138) rfl rfl rfl (by kernel_rfl) (by simp[Value.cells,Value.oneCell']) (by simp[Value.cells,dS]) ?_;dsimp only[List.set,Value.cells,fJ,dS];refine bO ?_;refine eN ?_;refine wF 0 (Φ:=eA (An,cn) (v::0::mH s x z.w1)) (hm:=eA.le) rfl (fun p hp=>hp) ?_;refine aZ 2 4 ?_;refine aY [1,2,3,4] rfl (by decide) (R':=[⟨w,fun b=>b < w.heap.size∧¬F b⟩]) (by simp) ?_;refine aM 1 4 ?_;refine vA (h:=hL.h) (s:=s) (z:={z with h1:=2,w1:=v::0::mH s x z.w1}) ⟨a1,a2,a3,a4,x1,x2,x3,y1,y2,y3,b0,(An,cn)⟩ 0 rfl ?_;dsimp only[List.set];refine aM 0 0 ?_;exact jE 0 hF
theorem aEj(f:Nat)(hL:HL)(s:aC)(z:bY)(x:aO)(hH:s.cX)(aV:gE hL s)(hok:cF s x)(a:Nat)(ha:a < 2)(st:Int)(hst:st=0→tW (jV z a))(w:World)(F:Nat→Prop)(hp:(fD f hL s z x).sat F w)(hF:∀b,F b→b < w.heap.size):
  Cz 52 #[pt f,iv (a:Int),.int .i32 st] w (Wr (.tuple #[]) (fD f hL s (lC s x z a st) x) w F):=by
 obtain rfl | rfl:a=0∨a=1:=by omega
 ·by_cases h0:st=0
  ·subst h0;obtain⟨v,r,hw,hu,mJ⟩:=(hst rfl).ne;exact aQN f hL s z x hH aV hok v r hw hu mJ w F hp hF
  ·cases hw:z.w0 with
   | nil=>exact aQP f hL s z x hH aV hok st hw h0 w F hp hF
   | cons v r=>exact aQR f hL s z x hH aV hok st v r hw h0 w F hp hF
 ·by_cases h0:st=0
  ·subst h0;obtain⟨v,r,hw,hu,mJ⟩:=(hst rfl).ne;exact aQM f hL s z x hH aV hok v r hw hu mJ w F hp hF
  ·cases hw:z.w1 with
   | nil=>exact aQO f hL s z x hH aV hok st hw h0 w F hp hF
   | cons v r=>exact aQQ f hL s z x hH aV hok st v r hw h0 w F hp hF
end
end Go.Proofs.YtdcdccmpcmjmhaaGreatDoor
