/- conf.Copy. -/
import Derived.Test.YtdcdccmpcmjmhaaGreatDoorRpmNeedsK4
namespace Go.Proofs.YtdcdccmpcmjmhaaGreatDoor
set_option linter.all false
set_option maxHeartbeats 4000000
set_option maxRecDepth 20000
open Go.RowKit Go.Proofs.Tryz
section
theorem Pr{l:List Rg}:∀u∈l.flatMap Rg.cells,u.oneCell'=true:=fun u hu=>by
 obtain⟨r,_,hu⟩:=List.mem_flatMap.1 hu;simp only[Rg.cells,List.mem_cons,List.not_mem_nil,or_false] at hu;rcases hu with rfl | rfl<;>rfl
def aCo(s:aD)(v:Value)(w w':World):Prop:=∃cs,v=.agg cs∧wB (fF (fresh w w')) s cs
theorem aE2(s:aD)(A1 A2 A3 A4:Option Addr)(n1 k1 n2 k2 n3 k3 n4 k4:Nat)(w:World)(hW:fE w s A1 n1 A2 n2 A3 n3 A4 n4)(Jq:∀d∈s.aC,d.aP.length≤1000000):
  Cz 75 #[.agg #[.slice A1 n1 k1,.slice A2 n2 k2,.slice A3 n3 k3,.slice A4 n4 k4]] w (fun y w'=>(∃v,y=.returned v∧aCo s v w w')∧Below w.heap.size w w'):=by
 obtain⟨rc,hrc,qG,hsc⟩:=hW.jJ;obtain⟨rd,hrd,hn2,hsd⟩:=hW.dom;obtain⟨rr,cI,oQ,hst⟩:=hW.Cj;obtain⟨rv,Qu,qX,vQ⟩:=hW.dev;obtain⟨Kl,aPx,rfl,aPy⟩:=aE4 hrc;obtain⟨Ie,aP4,rfl,aP6⟩:=aEv Qu;obtain⟨sm1,sm2,sm3,sm4,sm5,sm6⟩:=hW.small;subst qG;subst hn2;subst oQ;subst qX
 have ho1:=aFy (es:=s.aF) (bs:=Kl) aSi
 have ho4:=aFy (es:=s.aC) (bs:=Ie) aRF
 refine aL func75 ntmps75 ?_;refine cO ?_;refine eB ?_;refine bA fun g1=>?_;refine bR fun g2=>?_;refine dO ?_;refine Sz (fun e R H=>∃C j1 D j2 E j3 V j4 g3,e=[(3,pt g3),(2,pt g2)]∧R=[all w]∧H=[HP.own 86 6 (.slice C s.aF.length j1) s.aF.length (Sh s Kl).flatten,HP.own 38 6 (.slice V s.aC.length j4) s.aC.length (Sd s Ie).flatten,HP.own 50 3 (.slice D s.domains.length j2) s.domains.length rd.flatten,HP.own 88 1 (.slice E s.aT.length j3) s.aT.length rr.flatten,HP.aE g3 30 [.slice C s.aF.length j1,.slice D s.domains.length j2,.slice E s.aT.length j3,.slice V s.aC.length j4],HP.aE g2 30 [sn,sn,sn,sn]]) ?_ ?_
 ·refine rB 14 (by kernel_rfl) (by kernel_rfl) ?_;refine bB 0 ?_;refine bB 1 ?_;refine bB 3 ?_;refine bB 4 ?_;refine bB 6 ?_;refine bB 7 ?_;refine bB 9 ?_;refine bB 10 ?_;refine aKb (j:=13) 3 30 [sn,sn,sn,sn] fun M=>?_;refine Th 2 13 rfl rfl (iG (by kernel_rfl)) (by decide) (by kernel_rfl) (by kernel_rfl) (fun _ h=>h) (fun M=>?_);refine Tw (f:=147) (fi:=[]) (ca:=[]) (by kernel_rfl) (Rw M rfl rfl) (Rv M rfl rfl) (by decide) (aKq s.aF.length (Sh s Kl).flatten) (fun w1 st=>aND A1 _ k1 _ w1 (hsc.le (st.le (by simp))) ho1 sm1) ?_;rintro _ _ q1 ⟨C,j1,rfl,rfl⟩ _;dsimp only[List.cons_append,List.nil_append];refine aBT ?_;refine iD ?_;refine gQ ?_;refine Zr (by decide) rfl (fun _ h=>h.aZ.tail) ?_;refine Th 5 13 rfl rfl (iG (by kernel_rfl)) (by decide) (by kernel_rfl) (by kernel_rfl) (fun _ h=>h.aZ.tail) (fun M=>?_);refine Tw (f:=148) (fi:=[]) (ca:=[]) (by kernel_rfl) (Rw M rfl rfl) (Rv M rfl rfl) (by decide) (aKo s.domains.length rd.flatten) (fun w1 st=>aNB A2 _ k2 _ w1 (hsd.le (st.le (by simp))) (aRu hrd) sm2) ?_;rintro _ _ q2 ⟨D,j2,rfl,rfl⟩ _;dsimp only[List.cons_append,List.nil_append];refine aBT ?_;refine iD ?_;refine gQ ?_;refine Zr (by decide) rfl (fun _ h=>h.aZ.tail.aZ.tail) ?_;refine Th 8 13 rfl rfl (iG (by kernel_rfl)) (by decide) (by kernel_rfl) (by kernel_rfl) (fun _ h=>h.aZ.tail.aZ.tail) (fun M=>?_);refine Tw (f:=149) (fi:=[]) (ca:=[]) (by kernel_rfl) (Rw M rfl rfl) (Rv M rfl rfl) (by decide) (aKm s.aT.length rr.flatten) (fun w1 st=>aN9 A3 _ k3 _ w1 (hst.le (st.le (by simp))) (aMi cI) sm3) ?_;rintro _ _ q3 ⟨E,j3,rfl,rfl⟩ _;dsimp only[List.cons_append,List.nil_append];refine aBT ?_;refine iD ?_;refine gQ ?_;refine Zr (by decide) rfl (fun _ h=>h.aZ.tail.aZ.tail.aZ.tail) ?_;refine Th 11 13 rfl rfl (iG (by kernel_rfl)) (by decide) (by kernel_rfl) (by kernel_rfl) (fun _ h=>h.aZ.tail.aZ.tail.aZ.tail) (fun M=>?_);refine Tw (f:=150) (fi:=[]) (ca:=[]) (by kernel_rfl) (Rw M rfl rfl) (Rv M rfl rfl) (by decide) (aKp s.aC.length (Sd s Ie).flatten) (fun w1 st=>aNC A4 _ k4 _ w1 (vQ.le (st.le (by simp))) ho4 sm4) ?_;rintro _ _ q4 ⟨V,j4,rfl,rfl⟩ _;dsimp only[List.cons_append,List.nil_append];refine aBT ?_;refine iD ?_;refine gQ ?_;refine Zr (by decide) rfl (fun _ h=>h.aZ.tail.aZ.tail.aZ.tail.aZ.tail) ?_;cases M with
  | none=>
   dsimp only[vV,yE,zW,Fi];refine fL 12 rfl rfl rfl (by decide) (lT (zs:=[sn,sn,sn,sn]) (L:=[(0,1),(1,1),(2,1),(3,1)]) (iG (by kernel_rfl)) (by kernel_rfl) rfl (by simp[fI,gI,Value.cells];rfl)) (by kernel_rfl) (fun _ _ _ h=>h) (fun _ h=>h.aZ.tail.aZ.tail.aZ.tail.aZ.tail) ?_;refine cE 13 ?_;refine bR fun g3=>?_;refine iD ?_;refine gQ ?_;refine kW (fun _ h=>h.tail.aZ.tail.aZ.tail.aZ.tail.aZ.tail) ?_;refine cE 14 ?_;refine oM 0 rfl ?_;dsimp only[List.set];refine fA ?_;refine kG ?_;refine dW ?_;exact aY [4,1,3,2,0,5] rfl (by decide) (by simp) (bJ [(3,pt g3),(2,pt g2)] (Zj ⟨C,j1,D,j2,E,j3,V,j4,g3,rfl,rfl,rfl⟩))
  | some g3=>
   dsimp only[vV,yE,zW,Fi];refine fL 12 rfl rfl rfl (by decide) (lT (zs:=[sn,sn,sn,sn]) (L:=[(0,1),(1,1),(2,1),(3,1)]) (iG (by kernel_rfl)) (by kernel_rfl) rfl (by simp[fI,gI,Value.cells];rfl)) (by kernel_rfl) (fun _ _ _ h=>h) (fun _ h=>h.tail.aZ.tail.aZ.tail.aZ.tail.aZ.tail) ?_;refine cE 14 ?_;refine oM 0 rfl ?_;dsimp only[List.set];refine fA ?_;refine kG ?_;refine dW ?_;exact aY [4,1,3,2,0,5] rfl (by decide) (by simp) (bJ [(3,pt g3),(2,pt g2)] (Zj ⟨C,j1,D,j2,E,j3,V,j4,g3,rfl,rfl,rfl⟩))
 rintro _ _ _ ⟨C,j1,D,j2,E,j3,V,j4,g3,rfl,rfl,rfl⟩;refine Bm (p:=HP.bT (zC s Kl 0) (zC.le (s:=s) (fa:=Kl) (i:=0))) (fun w1 j c a hj=>absurd hj (by omega)) ?_;refine aA ?_;refine bJ [(23,iv 0),(22,iv s.aF.length),(3,pt g3),(2,pt g2)] ?_;refine eI (fun m e R H=>∃(i:Nat) (fa:List AC),i≤s.aF.length∧fa.length=s.aF.length∧(∀j,i≤j→fa[j]? =Kl[j]?)∧m=s.aF.length - i∧e=[(23,iv i),(22,iv s.aF.length),(3,pt g3),(2,pt g2)]∧R=[all w]∧H=[HP.bT (zC s fa i) (zC.le (s:=s) (fa:=fa) (i:=i)),HP.own 86 6 (.slice C s.aF.length j1) s.aF.length (Sh s fa).flatten,HP.own 38 6 (.slice V s.aC.length j4) s.aC.length (Sd s Ie).flatten,HP.own 50 3 (.slice D s.domains.length j2) s.domains.length rd.flatten,HP.own 88 1 (.slice E s.aT.length j3) s.aT.length rr.flatten,HP.aE g3 30 [.slice C s.aF.length j1,.slice D s.domains.length j2,.slice E s.aT.length j3,.slice V s.aC.length j4],HP.aE g2 30 [sn,sn,sn,sn]]) s.aF.length ⟨0,Kl,by omega,aPx,fun _ _=>rfl,rfl,rfl,rfl,rfl⟩ fun m e R H hI=>?_;obtain⟨i,fa,hi,hfl,hsame,rfl,rfl,rfl,rfl⟩:=hI;refine aA ?_;refine aG rfl (fun hlt=>?_) (fun hge=>?_)
 ·have hlt:i < s.aF.length:=by omega
  obtain⟨c,hc⟩:=get_some hlt;obtain⟨a,ha⟩:=get_some (l:=fa) (i:=i) (by omega)
  have ha0:Kl[i]? =some a:=by rw[←hsame i (Nat.le_refl _)];exact ha
  have aPw:=aPy i c a hc ha0
  have hcs:=sm5 c (List.mem_of_getElem? hc)
  refine aY [1,0,2,3,4,5,6] rfl (by decide) (fun _ h=>h) ?_;refine aBU 0 rfl (by omega) fun gC hC=>?_;subst hC;refine Sr 0 rfl fun cs h1 h2 h3 h4=>?_;dsimp only[List.set];obtain⟨iK,iJ⟩:=aAc (f:=Be) (es:=s.aF) (bs:=fa) (sz:=6) hfl (fun _ _=>rfl)
  have hs:=Hq h2 iK iJ (Tt hc ha)
  refine aA ?_;refine rB 10 (by kernel_rfl) (by kernel_rfl) ?_;refine bB 0 ?_;refine bB 1 ?_;refine bB 2 ?_;refine bB 3 ?_;refine bB 4 ?_;refine bB 5 ?_;refine bB 6 ?_ (dI:=dat (sz:=6) i (i*6));refine bB 7 ?_;refine bB 8 ?_;refine cE 9 ?_;refine iW (aFi c.src.length (aK c.src)) (fun w1 st=>aHf a.1 _ a.2 _ w1 (aI.le aPw (st.le (by simp))) (Qm _) hcs) ?_;rintro _ _ q ⟨Af,kf,rfl,rfl⟩ _;dsimp only[List.cons_append,List.nil_append];refine nS ?_;refine cE 10 ?_;refine kd (dat i (i*6)) ?_;refine fA ?_;refine cE 11 ?_;refine bH ?_;refine fA ?_;refine cE 12 ?_;refine fG rfl rfl ?_;dsimp only[List.set];refine fA ?_;refine kG ?_
  have hs1:=hs.set 1 (.slice Af c.src.length kf) (by simp[Be]) (by omega)
  have vP:=(vZ.refl cs (i*6) 6).set 1 (.slice Af c.src.length kf) (by decide)
  have hf:=Fj (r':=Be c (Af,kf)) h2 iK iJ hlt (by omega) rfl hs1 vP
  rw[show(Sh s fa).set i (Be c (Af,kf))=Sh s (fa.set i (Af,kf)) from aFx hc (by omega)] at hf;refine Oc 1 (n:=s.aF.length) (c:=j1) (sz:=6) rfl (by simpa using h1) hf h3 h4 ?_;dsimp only[List.set];refine Fy 0 (Φ:=fun p=>aI p 1 Af c.src.length (aK c.src)) (hm:=fun p q hl h=>aI.le h hl) rfl (fun p h=>h) ?_;dsimp only[List.set];refine aY [0,2,1,3,4,5,6,7] rfl (by decide) (fun _ h=>h) ?_
  refine Sw (X:=zC s (fa.set i (Af,kf)) (i+1)) (h3:=zC.le) (fun p h1 h2 j c' a' hj Hh yL=>by
   rcases Nat.lt_or_ge j i with h | h
   ·rw[List.getElem?_set_ne (by omega)] at yL;exact h2 j c' a' h Hh yL
   ·obtain rfl:j=i:=by omega
    rw[hc] at Hh;cases Hh;rw[List.getElem?_set_self (by omega)] at yL;cases yL
    exact h1) ?_
  refine aA ?_;refine bJ [(23,iv (i+1:Nat)),(22,iv s.aF.length),(3,pt g3),(2,pt g2)] ?_;refine aBQ (R':=[all w]) (by simp) ?_;exact iC (s.aF.length - (i+1)) (by omega) ⟨i+1,fa.set i (Af,kf),hlt,by simpa using hfl,fun j hj=>by rw[List.getElem?_set_ne (by omega)];exact hsame j (by omega),rfl,rfl,rfl,rfl⟩
 ·obtain rfl:i=s.aF.length:=by omega
  refine Bm (p:=HP.bT (Du s Ie 0) (Du.le (s:=s) (da:=Ie) (i:=0))) (fun w1 j d a hj=>absurd hj (by omega)) ?_;refine aA ?_;refine bJ [(42,iv 0),(41,iv s.aC.length),(3,pt g3),(2,pt g2)] ?_;refine eI (fun m e R H=>∃(i:Nat) (da:List (AC×AC)),i≤s.aC.length∧da.length=s.aC.length∧(∀j,i≤j→da[j]? =Ie[j]?)∧m=s.aC.length - i∧e=[(42,iv i),(41,iv s.aC.length),(3,pt g3),(2,pt g2)]∧R=[all w]∧H=[HP.bT (Du s da i) (Du.le (s:=s) (da:=da) (i:=i)),HP.bT (zC s fa s.aF.length) (zC.le (s:=s) (fa:=fa) (i:=s.aF.length)),HP.own 86 6 (.slice C s.aF.length j1) s.aF.length (Sh s fa).flatten,HP.own 38 6 (.slice V s.aC.length j4) s.aC.length (Sd s da).flatten,HP.own 50 3 (.slice D s.domains.length j2) s.domains.length rd.flatten,HP.own 88 1 (.slice E s.aT.length j3) s.aT.length rr.flatten,HP.aE g3 30 [.slice C s.aF.length j1,.slice D s.domains.length j2,.slice E s.aT.length j3,.slice V s.aC.length j4],HP.aE g2 30 [sn,sn,sn,sn]]) s.aC.length ⟨0,Ie,by omega,aP4,fun _ _=>rfl,rfl,rfl,rfl,rfl⟩ fun m e R H hI=>?_;obtain⟨i,da,hi,iY,aHQ,rfl,rfl,rfl,rfl⟩:=hI;refine aA ?_;refine aG rfl (fun hlt=>?_) (fun hge=>?_)
  ·have hlt:i < s.aC.length:=by omega
   obtain⟨d,hd⟩:=get_some hlt;obtain⟨⟨a1,a2⟩,ha⟩:=get_some (l:=da) (i:=i) (by omega)
   have ha0:Ie[i]? =some (a1,a2):=by rw[←aHQ i (Nat.le_refl _)];exact ha
   obtain⟨aDE,aIc⟩:=aP6 i d _ hd ha0
   have eH:=Jq d (List.mem_of_getElem? hd)
   have iI:=sm6 d (List.mem_of_getElem? hd)
   refine aY [3,0,1,2,4,5,6,7] rfl (by decide) (fun _ h=>h) ?_;refine aBU 0 rfl (by omega) fun gV hV=>?_;subst hV;refine Sr 0 rfl fun cs h1 h2 h3 h4=>?_;dsimp only[List.set];obtain⟨iK,iJ⟩:=aAc (f:=Bd) (es:=s.aC) (bs:=da) (sz:=6) iY (fun _ _=>rfl)
   have hs:=Hq h2 iK iJ (Tt hd ha)
   refine aA ?_;refine kd (dat i (i*6)) ?_;refine aA ?_;refine jL [3,4,5,8,9,10] ?_;refine bP 0 ?_;refine bP 1 ?_;refine bP 2 ?_;refine bP 7 ?_;refine aJ 3 ?_;refine aJ 4 ?_;refine aJ 5 ?_;refine aJ 8 ?_;refine aJ 9 ?_;refine aJ 10 ?_;refine aM 6 ?_;refine iW (aKn d.aP.length (d.aP.flatMap Rg.cells)) (fun w1 st=>aNA a1.1 _ a1.2 _ w1 (aI.le aDE (st.le (by simp))) Pr eH) ?_;rintro _ _ q1 ⟨Ag,kg,rfl,rfl⟩ _;dsimp only[List.cons_append,List.nil_append];refine bL ?_;refine aM 11 ?_;refine iW (aFi d.fR.length (aK d.fR)) (fun w1 st=>aHf a2.1 _ a2.2 _ w1 (aI.le aIc (st.le (by simp))) (Qm _) iI) ?_;rintro _ _ q2 ⟨An,kn,rfl,rfl⟩ _;dsimp only[List.cons_append,List.nil_append];refine bL ?_ (hS:=fun _ h=>h.aZ.tail.aZ.tail);refine aM 12 ?_;refine bH ?_;refine bL ?_ (hS:=fun _ h=>h.aZ.tail.aZ.tail);refine aM 13 ?_;refine bH ?_;refine bL ?_ (hS:=fun _ h=>h.aZ.tail.aZ.tail);refine aM 14 ?_;refine fG rfl rfl ?_;dsimp only[List.set];refine cX ?_;refine aM 15 ?_;refine bH ?_;refine cX ?_;refine aM 16 ?_;refine bH ?_;refine cX ?_;refine aM 17 ?_;refine fG rfl rfl ?_;dsimp only[List.set];refine cX ?_;refine fJ ?_
   have hs1:=(hs.set 4 (.slice Ag d.aP.length kg) (by simp[Bd]) (by omega)).set 5 (.slice An d.fR.length kn) (by simp[Bd]) (by simp;omega)
   have vP:=((vZ.refl cs (i*6) 6).set 4 (.slice Ag d.aP.length kg) (by decide)).set 5 (.slice An d.fR.length kn) (by decide)
   have hf:=Fj (r':=Bd d ((Ag,kg),(An,kn))) h2 iK iJ hlt (by omega) rfl hs1 vP
   rw[show(Sd s da).set i (Bd d ((Ag,kg),(An,kn)))=Sd s (da.set i ((Ag,kg),(An,kn))) from aFx hd (by omega)] at hf;refine Oc 2 (n:=s.aC.length) (c:=j4) (sz:=6) rfl (by simpa using h1) hf h3 h4 ?_;dsimp only[List.set];refine Fy 0 (Φ:=fun p=>aI p 1 An d.fR.length (aK d.fR)) (hm:=fun p q hl h=>aI.le h hl) rfl (fun p h=>h) ?_;refine Fy 1 (Φ:=fun p=>aI p 2 Ag d.aP.length (d.aP.flatMap Rg.cells)) (hm:=fun p q hl h=>aI.le h hl) rfl (fun p h=>h) ?_;dsimp only[List.set];refine Sw (X:=fun p=>aI p 1 An d.fR.length (aK d.fR)∧aI p 2 Ag d.aP.length (d.aP.flatMap Rg.cells)) (h3:=fun p q hl h=>⟨aI.le h.1 hl,aI.le h.2 hl⟩) (fun p h1 h2=>⟨h1,h2⟩) ?_;refine aY [0,2,3,4,1,5,6,7,8] rfl (by decide) (fun _ h=>h) ?_
   refine Sw (X:=Du s (da.set i ((Ag,kg),(An,kn))) (i+1)) (h3:=Du.le) (fun p h1 h2 j d' a' hj hd' yL=>by
    rcases Nat.lt_or_ge j i with h | h
    ·rw[List.getElem?_set_ne (by omega)] at yL;exact h2 j d' a' h hd' yL
    ·obtain rfl:j=i:=by omega
     rw[hd] at hd';cases hd';rw[List.getElem?_set_self (by omega)] at yL;cases yL
     exact⟨h1.2,h1.1⟩) ?_
   refine aA ?_;refine bJ [(42,iv (i+1:Nat)),(41,iv s.aC.length),(3,pt g3),(2,pt g2)] ?_;refine aBQ (R':=[all w]) (by simp) ?_;exact iC (s.aC.length - (i+1)) (by omega) ⟨i+1,da.set i ((Ag,kg),(An,kn)),hlt,by simpa using iY,fun j hj=>by rw[List.getElem?_set_ne (by omega)];exact aHQ j (by omega),rfl,rfl,rfl,rfl⟩
  ·obtain rfl:i=s.aC.length:=by omega
   refine aY [6,7,0,1,2,3,4,5] rfl (by decide) (fun _ h=>h) ?_;refine aA ?_;refine dP [] [2,3,4,5,6,7] [1] (by simp) rfl (by decide) (by decide) fun q hq _ hfr=>?_;obtain⟨F0,s0,z0⟩:=hq 2 _ (by simp) rfl;obtain⟨F1,s1,z1⟩:=hq 3 _ (by simp) rfl
   have e0:Du s da s.aC.length q:=Du.le ⟨q.w,F0⟩ q (fun b hb=>⟨z0 b hb,rfl⟩) s0
   have e1:zC s fa s.aF.length q:=zC.le ⟨q.w,F1⟩ q (fun b hb=>⟨z1 b hb,rfl⟩) s1
   have e2:=aI.own (hq 4 _ (by simp) rfl)
   have e3:=aI.own (hq 5 _ (by simp) rfl)
   have e4:=aI.own (hq 6 _ (by simp) rfl)
   have e5:=aI.own (hq 7 _ (by simp) rfl)
   have hS:wB (fF q) s #[.slice C s.aF.length j1,.slice D s.domains.length j2,.slice E s.aT.length j3,.slice V s.aC.length j4]:=
    ⟨C,_,j1,D,_,j2,E,_,j3,V,_,j4,rfl,⟨_,aG6 hfl (fun i c a hc ha=>e1 i c a (List.getElem?_eq_some_iff.1 hc).1 hc ha),rfl,e2⟩,⟨rd,hrd,rfl,e4⟩,⟨rr,cI,rfl,e5⟩,⟨_,aG5 iY (fun i d p hd hp=>e0 i d p (List.getElem?_eq_some_iff.1 hd).1 hd hp),rfl,e3⟩⟩
   exact Nz (vs:=[.slice C s.aF.length j1,.slice D s.domains.length j2,.slice E s.aT.length j3,.slice V s.aC.length j4]) rfl (by kernel_rfl) rfl rfl (by first | assumption | exact aQ.whole 0 rfl | exact aQ.whole 1 rfl | exact aQ.whole 2 rfl | exact aQ.whole 3 rfl | exact aQ.whole 4 rfl | exact aQ.whole 5 rfl | exact aQ.whole 6 rfl | exact aQ.whole 7 rfl | exact aQ.whole 8 rfl | exact yX (by simp) (by assumption)) fun w1 t=>⟨⟨_,rfl,_,rfl,hS.mono (nU (t.mF (by simp) (hfr (by simp) (by simp))))⟩,t.below (by simp)⟩
end
section
section
variable{P:Program}{N:bZ}{w0 w:World}{K:Act→World→Prop}{e:Env}{R:List Piece}{H H':List HP}
theorem Zg{p : HP}{ps : List HP}(h : XK N w0 K e R (HP.many (ps ++ [p]) :: H)) : XK N w0 K e R (p :: HP.many ps :: H) := fun a w hr st => by
  obtain⟨Z,F,hz,cI,hs,dB,eD⟩:=st.ex;obtain⟨G,hG1,hG2,hG3⟩:=hs 1 _ rfl;refine h a w hr ⟨st.os,st.tape,st.output,st.size,Z,fun j=>match j with | 0=>fun b=>F 0 b∨F 1 b | j+1=>F (j+2),hz,cI,fun j r hj=>?_,fun j b hb=>?_,fun j k b lC hj hk=>?_⟩
  · cases j with
    | zero =>
      simp at hj;subst hj;refine⟨fun i b=>if i < ps.length then G i b else i=ps.length∧F 0 b,fun i r hi=>?_,fun i b hb=>?_,fun i k b hik h1 h2=>?_⟩
      · rcases Nat.lt_or_ge i ps.length with hl | hl
        · rw[List.getElem?_append_left hl] at hi
          show r.sat (fun b=>if i < ps.length then G i b else i=ps.length∧F 0 b) w
          rw[show(fun b=>if i < ps.length then G i b else i=ps.length∧F 0 b)=G i by funext b;rw[if_pos hl]];exact hG1 i r hi
        · rw[List.getElem?_append_right hl] at hi
          have h0:=Ai hi
          have hil:i=ps.length:=by simp at h0;omega
          subst hil;simp at hi;subst hi
          show p.sat (fun b=>if ps.length < ps.length then G ps.length b else ps.length=ps.length∧F 0 b) w
          rw[show(fun b=>if ps.length < ps.length then G ps.length b else ps.length=ps.length∧F 0 b)=F 0 by funext b;simp];exact hs 0 _ rfl
      · dsimp only at hb
        split at hb
        · exact .inr (hG2 i b hb)
        · exact .inl hb.2
      · dsimp only at h1 h2
        split at h1<;>split at h2
        · exact hG3 i k b hik h1 h2
        · exact eD 1 0 b (by omega) (hG2 i b h1) h2.2
        · exact eD 0 1 b (by omega) h1.2 (hG2 k b h2)
        · omega
    | succ j=>exact hs (j+2) r (by simpa using hj)
  · cases j with
    | zero=>rcases hb with hb | hb<;>exact dB _ b hb
    | succ j=>exact dB _ b hb
  · cases j with
    | zero => cases k with
      | zero=>exact lC rfl
      | succ k => rcases hj with hj | hj
                  · exact eD 0 (k+2) b (by omega) hj hk
                  · exact eD 1 (k+2) b (by omega) hj hk
    | succ j => cases k with
      | zero => rcases hk with hk | hk
                · exact eD 0 (j+2) b (by omega) hk hj
                · exact eD 1 (j+2) b (by omega) hk hj
      | succ k=>exact eD (j+2) (k+2) b (by omega) hj hk
end
theorem Zf{N:bZ}{w0:World}{e:Env}{R:List Piece}{H:List HP}{K:Act→World→Prop}{p q r:HP}(h:XK N w0 K e R (HP.many [p,q,r]::H)):XK N w0 K e R (p::q::r::H):=by
 refine nG ?_;refine fun a w hr st=>?_
 refine(Zg (ps:=[p,q]) (p:=r) h) a w hr (st.weak (fun _ h=>h) (fun i=>match i with
  | 0=>1
  | 1=>0
  | i+2=>i+2) (fun i j _ _ he=>by
   match i,j with
   | 0,0=>rfl
   | 0,1=>simp at he
   | 0,j+2=>simp at he
   | 1,0=>simp at he
   | 1,1=>rfl
   | 1,j+2=>simp at he
   | i+2,0=>simp at he
   | i+2,1=>simp at he
   | i+2,j+2=>simpa using he) (fun i p hi=>by
   match i,hi with
   | 0,hi=>simpa using hi
   | 1,hi=>simpa using hi
   | i+2,hi=>simpa using hi))
end
section
theorem aTq{N:bZ}{w0:World}{e:Env}{R:List Piece}{H:List HP}{K:Act→World→Prop}{p q r s:HP}(h:XK N w0 K e R (HP.many [p,q,r,s]::H)):XK N w0 K e R (p::q::r::s::H):=by
 refine nG ?_;refine fun a w hr st=>?_
 have swap:∀{x y:HP} {H:List HP} {w:World},St w0 R (x::y::H) w→St w0 R (y::x::H) w:=fun st=>st.weak (fun _ h=>h) (fun i=>match i with
  | 0=>1
  | 1=>0
  | i+2=>i+2) (fun i j _ _ he=>by
   match i,j with
   | 0,0=>rfl
   | 0,1=>simp at he
   | 0,j+2=>simp at he
   | 1,0=>simp at he
   | 1,1=>rfl
   | 1,j+2=>simp at he
   | i+2,0=>simp at he
   | i+2,1=>simp at he
   | i+2,j+2=>simpa using he) (fun i p hi=>by
   match i,hi with
   | 0,hi=>simpa using hi
   | 1,hi=>simpa using hi
   | i+2,hi=>simpa using hi)
 refine(Zg (ps:=[p,q]) (p:=r) (H:=s::H) (fun a w hr st=>?_)) a w hr (swap st);exact(Zg (ps:=[p,q,r]) (p:=s) h) a w hr (swap st)
def aK5(d:bO)(v:Value)(hs:List HP)(_:Piece):Prop:=∃L:FL,v=.tuple #[.pointer (some ⟨L.f,0,none⟩),iv 0]∧hs=[iF L d (Fk d)]
theorem Em(l:List Rg):List.replicate l.length (Value.int .u32 0)=nI (l.map fun _=>0):=by
 refine List.ext_getElem? fun j=>?_;simp only[nI,List.map_map,List.getElem?_replicate,List.getElem?_map]
 by_cases h:j < l.length
 ·rw[if_pos h,List.getElem?_eq_getElem h];rfl
 ·rw[if_neg h,List.getElem?_eq_none (by omega)];rfl
theorem aMK(d:bO)(hrl:d.aP.length≤8)(cI:∀r∈d.aP,0≤r.reset∧r.reset < 4294967296)(A:Option Addr)(c:Nat)(w:World)(hs:aI (all w) 2 A d.aP.length (d.aP.flatMap Rg.cells)):
  Cz 71 #[.slice A d.aP.length c] w (fun y w'=>(∃v hs q,y=.returned v∧q.w=w'∧aK5 d v hs q∧kA w hs q)∧Below w.heap.size w w'):=by
 refine aL func71 ntmps71 ?_;refine cO ?_;refine eB ?_;refine bH ?_;refine bH ?_;refine dO ?_;refine cO ?_;refine cO ?_;refine eB ?_;refine bH ?_;refine bH ?_;refine bH ?_;refine aB ?_;refine aG rfl (fun h=>absurd h (by omega)) (fun _=>?_);refine lU ?_;refine dW ?_;refine Sz (fun e R H=>∃B j gn gs g3,e=[(4,pt g3)]∧R=[all w]∧H=[HP.aE g3 298 [.slice B d.aP.length j,.slice (some ⟨gn,0,none⟩) d.aP.length d.aP.length,.slice (some ⟨gs,0,none⟩) d.aP.length d.aP.length,.bool false],HP.aE gn 23 (nI (d.aP.map fun _=>0)),HP.aE gs 23 (nI (d.aP.map fun _=>0)),HP.own 48 2 (.slice B d.aP.length j) d.aP.length (d.aP.flatMap Rg.cells)]) ?_ ?_
 ·refine rB 8 (by kernel_rfl) (by kernel_rfl) ?_;refine bB 0 ?_;refine bB 2 ?_;refine bB 3 ?_;refine bB 5 ?_;refine bB 6 ?_;refine aTG 1 4 7 rfl rfl rfl (by kernel_rfl) ?_ ?_ ?_
  ·skip
   refine iW (Tr d.aP.length (d.aP.flatMap Rg.cells)) (fun w1 st=>Yo A _ c _ w1 (hs.le (st.le (by simp))) Pr (by omega)) ?_;rintro _ _ q ⟨B,j,rfl,rfl⟩ _;dsimp only[List.cons_append,List.nil_append];refine nS ?_ (hS:=(fun _ h=>h.aZ.tail));refine Lc 4 7 rfl rfl (by kernel_rfl) ?_ ?_
   ·skip
    refine lX (n:=d.aP.length) 4 (el:=23) (z:=.int .u32 0) (by kernel_rfl) (by kernel_rfl) rfl rfl rfl (by omega) (by omega) (by decide) fun gn=>?_;rw[Em d.aP];refine nS ?_ (hS:=(fun _ h=>h.tail.aZ.tail));refine cE 7 ?_;refine lX (n:=d.aP.length) 4 (el:=23) (z:=.int .u32 0) (by kernel_rfl) (by kernel_rfl) rfl rfl rfl (by omega) (by omega) (by decide) fun gs=>?_;rw[Em d.aP];refine nS ?_ (hS:=(fun _ h=>h.tail.tail.aZ.tail));refine cE 8 ?_;refine kd (fZ rfl) ?_;refine fA ?_;refine cE 9 ?_;refine bA fun g3=>?_;refine fA ?_;refine cE 10 ?_;refine bH ?_;refine fA ?_;refine kG ?_;refine dW ?_;exact pG ⟨B,j,gn,gs,g3,rfl,rfl,rfl⟩
   ·skip
    refine lX (n:=d.aP.length) 4 (el:=23) (z:=.int .u32 0) (by kernel_rfl) (by kernel_rfl) rfl rfl rfl (by omega) (by omega) (by decide) fun gs=>?_;rw[Em d.aP];refine nS ?_ (hS:=(fun _ h=>h.tail.aZ.tail));refine cE 4 ?_;refine lX (n:=d.aP.length) 4 (el:=23) (z:=.int .u32 0) (by kernel_rfl) (by kernel_rfl) rfl rfl rfl (by omega) (by omega) (by decide) fun gn=>?_;rw[Em d.aP];refine nS ?_ (hS:=(fun _ h=>h.tail.tail.aZ.tail));refine cE 8 ?_;refine kd (fZ rfl) ?_;refine fA ?_;refine cE 9 ?_;refine bA fun g3=>?_;refine fA ?_;refine cE 10 ?_;refine bH ?_;refine fA ?_;refine kG ?_;refine dW ?_;exact pG ⟨B,j,gn,gs,g3,rfl,rfl,rfl⟩
  ·skip
   refine lX (n:=d.aP.length) 4 (el:=23) (z:=.int .u32 0) (by kernel_rfl) (by kernel_rfl) rfl rfl rfl (by omega) (by omega) (by decide) fun gn=>?_;rw[Em d.aP];refine nS ?_ (hS:=(fun _ h=>h.tail));refine Lc 1 7 rfl rfl (by kernel_rfl) ?_ ?_
   ·skip
    refine iW (Tr d.aP.length (d.aP.flatMap Rg.cells)) (fun w1 st=>Yo A _ c _ w1 (hs.le (st.le (by simp))) Pr (by omega)) ?_;rintro _ _ q ⟨B,j,rfl,rfl⟩ _;dsimp only[List.cons_append,List.nil_append];refine nS ?_ (hS:=(fun _ h=>h.aZ.tail.tail));refine cE 7 ?_;refine lX (n:=d.aP.length) 4 (el:=23) (z:=.int .u32 0) (by kernel_rfl) (by kernel_rfl) rfl rfl rfl (by omega) (by omega) (by decide) fun gs=>?_;rw[Em d.aP];refine nS ?_ (hS:=(fun _ h=>h.tail.aZ.tail.tail));refine cE 8 ?_;refine kd (fZ rfl) ?_;refine fA ?_;refine cE 9 ?_;refine bA fun g3=>?_;refine fA ?_;refine cE 10 ?_;refine bH ?_;refine fA ?_;refine kG ?_;refine dW ?_;exact pG ⟨B,j,gn,gs,g3,rfl,rfl,rfl⟩
   ·skip
    refine lX (n:=d.aP.length) 4 (el:=23) (z:=.int .u32 0) (by kernel_rfl) (by kernel_rfl) rfl rfl rfl (by omega) (by omega) (by decide) fun gs=>?_;rw[Em d.aP];refine nS ?_ (hS:=(fun _ h=>h.tail.tail));refine cE 1 ?_;refine iW (Tr d.aP.length (d.aP.flatMap Rg.cells)) (fun w1 st=>Yo A _ c _ w1 (hs.le (st.le (by simp))) Pr (by omega)) ?_;rintro _ _ q ⟨B,j,rfl,rfl⟩ _;dsimp only[List.cons_append,List.nil_append];refine nS ?_ (hS:=(fun _ h=>h.aZ.tail.tail.tail));refine cE 8 ?_;refine kd (fZ rfl) ?_;refine fA ?_;refine cE 9 ?_;refine bA fun g3=>?_;refine fA ?_;refine cE 10 ?_;refine bH ?_;refine fA ?_;refine kG ?_;refine dW ?_;exact pG ⟨B,j,gn,gs,g3,rfl,rfl,rfl⟩
  ·skip
   refine lX (n:=d.aP.length) 4 (el:=23) (z:=.int .u32 0) (by kernel_rfl) (by kernel_rfl) rfl rfl rfl (by omega) (by omega) (by decide) fun gs=>?_;rw[Em d.aP];refine nS ?_ (hS:=(fun _ h=>h.tail));refine Lc 1 4 rfl rfl (by kernel_rfl) ?_ ?_
   ·skip
    refine iW (Tr d.aP.length (d.aP.flatMap Rg.cells)) (fun w1 st=>Yo A _ c _ w1 (hs.le (st.le (by simp))) Pr (by omega)) ?_;rintro _ _ q ⟨B,j,rfl,rfl⟩ _;dsimp only[List.cons_append,List.nil_append];refine nS ?_ (hS:=(fun _ h=>h.aZ.tail.tail));refine cE 4 ?_;refine lX (n:=d.aP.length) 4 (el:=23) (z:=.int .u32 0) (by kernel_rfl) (by kernel_rfl) rfl rfl rfl (by omega) (by omega) (by decide) fun gn=>?_;rw[Em d.aP];refine nS ?_ (hS:=(fun _ h=>h.tail.aZ.tail.tail));refine cE 8 ?_;refine kd (fZ rfl) ?_;refine fA ?_;refine cE 9 ?_;refine bA fun g3=>?_;refine fA ?_;refine cE 10 ?_;refine bH ?_;refine fA ?_;refine kG ?_;refine dW ?_;exact pG ⟨B,j,gn,gs,g3,rfl,rfl,rfl⟩
   ·skip
    refine lX (n:=d.aP.length) 4 (el:=23) (z:=.int .u32 0) (by kernel_rfl) (by kernel_rfl) rfl rfl rfl (by omega) (by omega) (by decide) fun gn=>?_;rw[Em d.aP];refine nS ?_ (hS:=(fun _ h=>h.tail.tail));refine cE 1 ?_;refine iW (Tr d.aP.length (d.aP.flatMap Rg.cells)) (fun w1 st=>Yo A _ c _ w1 (hs.le (st.le (by simp))) Pr (by omega)) ?_;rintro _ _ q ⟨B,j,rfl,rfl⟩ _;dsimp only[List.cons_append,List.nil_append];refine nS ?_ (hS:=(fun _ h=>h.aZ.tail.tail.tail));refine cE 8 ?_;refine kd (fZ rfl) ?_;refine fA ?_;refine cE 9 ?_;refine bA fun g3=>?_;refine fA ?_;refine cE 10 ?_;refine bH ?_;refine fA ?_;refine kG ?_;refine dW ?_;exact pG ⟨B,j,gn,gs,g3,rfl,rfl,rfl⟩
 rintro _ _ _ ⟨B,j,gn,gs,g3,rfl,rfl,rfl⟩;refine Fy 3 (Φ:=tV d B) (hm:=tV.le (d:=d) (A:=B)) rfl (fun p h=>h) ?_;dsimp only[List.set];refine aTq ?_;refine aB ?_
 refine dU 0 (iF ⟨g3,gn,gs,B,j⟩ d (Fu d ⟨d.aP.map fun _=>0,d.aP.map fun _=>0,false⟩)) (fun w1 G t hG yF hle=>aAA ⟨g3,gn,gs,B,j⟩ d ⟨d.aP.map fun _=>0,d.aP.map fun _=>0,false⟩ (by omega) ⟨by simp,by simp,fun v hv=>by
  obtain⟨r,hr,rfl⟩:=List.mem_map.1 hv;decide,fun v hv=>by
  obtain⟨r,hr,rfl⟩:=List.mem_map.1 hv
  decide⟩ w1 G hG yF) ?_
 refine aB ?_;refine dP [] [] [0] (by simp) rfl (by decide) (by decide) fun q _ _ hfr=>?_;exact eK rfl rfl rfl fun w1 t=>⟨⟨_,_,⟨w1,q.Z⟩,rfl,rfl,⟨⟨g3,gn,gs,B,j⟩,rfl,rfl⟩,t.newR (by simp) (by simp) (hfr (by simp) (by simp))⟩,t.below (by simp)⟩
theorem aNq(w:World):
  Cz 73 #[] w (fun y w'=>(∃v hs q,y=.returned v∧q.w=w'∧(∃g,v=pt g∧hs=[HP.aE g 266 [iv 0,iv 0]])∧kA w hs q)∧Below w.heap.size w w'):=by
 refine aL func73 ntmps73 ?_;refine aA ?_;refine kd (fZ rfl) ?_;refine bA fun g=>?_;refine aA ?_;refine dP [] [] [0] (by simp) rfl (by decide) (by decide) fun q _ _ hfr=>?_;exact aS (h:=fun w1 t=>⟨_,_,⟨w1,q.Z⟩,rfl,rfl,⟨g,rfl,rfl⟩,t.newR (by simp) (by simp) (hfr (by simp) (by simp))⟩)
end
section
def Tn(x:dK):List Value:=[iv x.at_,iv x.denied]
def uZ(g:Nat)(x:dK):HP:=HP.aE g 266 (Tn x)
def Tp(w:World):Prop:=∀i v,[(114:Int),97,115,100][i]? =some v→fK w 0 i (.int .u8 v)
theorem Tp.below{w w':World}(h:Tp w)(hb:Below w.heap.size w w'):Tp w':=fun i v hv=>
 ⟨Nat.lt_of_lt_of_le (h i v hv).1 hb.size,(hb.cell (p:=⟨0,i,none⟩) (h i v hv).1).trans (h i v hv).2⟩
theorem aGR(g:Nat)(x:dK)(hx:Bt x)(w:World)(hL:Tp w)(hR:eC w g 0 (Tn x)):
  Cz 224 #[pt g] w (Rt (.int .u8 (qF x.at_)) w):=by
 have k0:=hR.at_ (j:=0) rfl
 obtain⟨h1,h2⟩:=hx;obtain⟨i,hi⟩:∃i:Nat,x.at_=i:=⟨x.at_.toNat,by omega⟩
 have hv:[(114:Int),97,115,100][i]? =some (qF x.at_):=by
  have:i=0∨i=1∨i=2∨i=3:=by omega
  rcases this with rfl | rfl | rfl | rfl<;>rw[hi]<;>rfl
 have k1:=hL i _ hv
 have hlt:i < 4:=by omega
 rw[hi] at k0 k1⊢;refine aL func224 ntmps224 ?_;refine aA ?_;refine kd (gN i i) ?_;refine aA ?_;exact dF
section
variable{g:Nat}{x:dK}{w:World}{F:Nat→Prop}
theorem aNt(hp:(uZ g x).sat F w)(hF:∀b,F b→b < w.heap.size):
  Cz 240 #[pt g] w (Wr (iv (sB x).1) (uZ g (sB x).2) w F):=by
 refine dJ func240 ntmps240 hp hF ?_;dsimp only[uZ,Tn];refine aA ?_;refine aG rfl (fun h=>?_) (fun h=>?_)
 ·have hr:sB x=(6,x):=if_pos (by simpa using h)
  rw[hr];refine aA ?_;exact cH 0 hF
 ·have hr:sB x=(0,⟨1,x.denied⟩):=if_neg (by simpa using h)
  rw[hr];refine aA ?_;exact cH 0 hF
theorem aNs(hp:(uZ g x).sat F w)(hF:∀b,F b→b < w.heap.size):
  Cz 225 #[pt g] w (Wr (iv (nM x).1) (uZ g (nM x).2) w F):=by
 refine dJ func225 ntmps225 hp hF ?_;dsimp only[uZ,Tn];refine aA ?_;refine bU (t:=11) rfl (fun h2=>?_) (fun h2=>?_)
 ·refine aA ?_;refine aG rfl (fun h=>?_) (fun h=>?_)
  ·have hr:nM x=(6,x):=if_pos ⟨by simpa using h2,by simpa using h⟩
   rw[hr];refine aA ?_;exact cH 0 hF
  ·have hr:nM x=(0,⟨0,x.denied⟩):=if_neg fun h3=>h3.2 (by simpa using h)
   rw[hr];refine aA ?_;exact cH 0 hF
 ·have hr:nM x=(0,⟨0,x.denied⟩):=if_neg fun h3=>h3.1 (by simpa using h2)
  rw[hr];refine aA ?_;exact cH 0 hF
theorem aNr(Nu cY:Bool)(hp:(uZ g x).sat F w)(hF:∀b,F b→b < w.heap.size):
  Cz 56 #[pt g,.bool Nu,.bool cY] w (Wr (.tuple #[]) (uZ g (uE x Nu cY)) w F):=by
 refine dJ func56 ntmps56 hp hF ?_;dsimp only[uZ,Tn];refine aA ?_;refine aG rfl (fun h=>?_) (fun h=>?_)
 ·have hr:uE x Nu cY=x:=if_pos (by simpa using h)
  rw[hr];refine aA ?_;exact jZ 0 hF
 ·have h1:¬x.at_≠1:=by simpa using h
  cases cY
  ·cases Nu
   ·have hr:uE x false false=⟨2,0⟩:=(if_neg h1).trans ((if_neg (by decide)).trans (if_neg (by decide)))
    rw[hr];refine aA ?_;exact jZ 0 hF
   ·have hr:uE x true false=x:=(if_neg h1).trans ((if_neg (by decide)).trans (if_pos rfl))
    rw[hr];refine aA ?_;exact jZ 0 hF
  ·have hr:uE x Nu true=⟨3,IntKind.i64.wrap (x.denied+1)⟩:=(if_neg h1).trans (if_pos rfl)
   rw[hr];refine aA ?_;refine zJ rfl rfl rfl (by decide) ?_;refine aA ?_;exact jZ 0 hF
end
end
section
structure TL where
 t:Nat
 A:Option Addr
 c:Nat
 fa:List (Option Addr×Nat)
def sK(c:eF)(a:Option Addr×Nat)(x:eP):List Value:=[.int .u8 c.kind,.slice a.1 c.src.length a.2,.int .u64 c.rate,iv c.mul,iv c.div,iv c.lock,.bool x.on,iv x.left,iv 0,iv 0,iv (byF c)]
def kI(s:aD)(fa:List (Option Addr×Nat))(st:List eP):List (List Value):=List.zipWith (fun c p=>sK c p.1 p.2) s.aF (fa.zip st)
structure xD(w:World)(L:TL)(s:aD)(st:List eP):Prop where
 r0:fK w L.t 0 (.slice L.A s.aF.length L.c)
 row:aI (all w) 11 L.A s.aF.length (kI s L.fa st).flatten
 sO:∀(i:Nat) (c:eF) (a:Option Addr×Nat),s.aF[i]? =some c→L.fa[i]? =some a→aI (all w) 1 a.1 c.src.length (aK c.src)
 fl:L.fa.length=s.aF.length
 ok:qS s st
theorem xD.below{w w':World}{L:TL}{s:aD}{st:List eP}(h:xD w L s st)(hb:Below w.heap.size w w'):xD w' L s st:=
 ⟨⟨Nat.lt_of_lt_of_le h.r0.1 hb.size,(hb.cell (p:=⟨_,0,none⟩) h.r0.1).trans h.r0.2⟩,h.row.le (jR hb),fun i c a hc ha=>(h.sO i c a hc ha).le (jR hb),h.fl,h.ok⟩
theorem xD.node{w:World}{L:TL}{s:aD}{st:List eP}(h:xD w L s st){i:Nat}(hi:i < s.aF.length):
  ∃b off c a x,s.aF[i]? =some c∧st[i]? =some x∧L.A=some ⟨b,off,none⟩∧eC w b (off+i*11) (sK c a x)∧aI (all w) 1 a.1 c.src.length (aK c.src):=by
 obtain⟨c,hc⟩:=get_some hi;obtain⟨a,ha⟩:=get_some (l:=L.fa) (i:=i) (by rw[h.fl];exact hi);obtain⟨x,hx⟩:=get_some (l:=st) (i:=i) (by rw[h.ok.len];exact hi)
 have hr:(kI s L.fa st)[i]? =some (sK c a x):=by
  rw[kI,List.getElem?_zipWith,hc,(List.getElem?_zip_eq_some (z:=(a,x))).2 ⟨ha,hx⟩]
 obtain⟨b,off,hA,hro⟩:=aI.row h.row (fun r hr=>by
  obtain⟨j,hj⟩:=List.getElem?_of_mem hr;rw[kI,List.getElem?_zipWith] at hj;split at hj<;>cases hj
  rfl) hr hi
 exact⟨b,off,c,a,x,hc,hx,hA,hro,h.sO i c a hc ha⟩
def tY(s:aD)(fa:List (Option Addr×Nat))(p:Piece):Prop:=∀(i:Nat) (c:eF) (a:Option Addr×Nat),s.aF[i]? =some c→fa[i]? =some a→aI p 1 a.1 c.src.length (aK c.src)
theorem tY.le{s:aD}{fa:List (Option Addr×Nat)}(p q:Piece)(hl:p.Le q)(h:tY s fa p):tY s fa q:=fun i c a hc ha=>(h i c a hc ha).le hl
def rF(L:TL)(s:aD)(st:List eP):HP:=HP.many [HP.aE L.t 227 [.slice L.A s.aF.length L.c],HP.own 224 11 (.slice L.A s.aF.length L.c) s.aF.length (kI s L.fa st).flatten,HP.bT (tY s L.fa) (tY.le (s:=s) (fa:=L.fa))]
theorem aKd{L:TL}{s:aD}{st:List eP}{F:Nat→Prop}{w:World}(h:(rF L s st).sat F w)(hF:∀b,F b→b < w.heap.size)(hfl:L.fa.length=s.aF.length)(hok:qS s st):xD w L s st:=by
 obtain⟨G,g1,g2,_⟩:=h
 have h0:=g1 0 _ rfl
 have h1:=g1 1 _ rfl
 have h2:=g1 2 _ rfl
 have hl:∀i b,G i b→b < w.heap.size:=fun i b hb=>hF b (g2 i b hb)
 obtain⟨A',c',he,hs⟩:=uY (Y:=fun b=>b < w.heap.size) h1 (hl 1)
 injection he with he
 subst he;exact⟨⟨h0.2.lt,by rw[h0.2.cell];rfl⟩,hs,fun i c a hc ha=>(h2 i c a hc ha).le (fun b hb=>⟨hl 2 b hb,rfl⟩),hfl,hok⟩
theorem aJm(t n c b off i:Nat)(w:World)(h0:fK w t 0 (.slice (some ⟨b,off,none⟩) n c))(hi:i < n):
  Cz 88 #[pt t,iv (i:Int)] w (Rt (.pointer (some ⟨b,off+i*11,none⟩)) w):=by
 refine aL func88 ntmps88 ?_;refine aA ?_;refine bU (t:=11) rfl (fun h=>absurd h (by omega)) (fun _=>?_);refine aA ?_;refine aG rfl (fun h=>absurd h (by omega)) (fun _=>?_);refine aA ?_;refine kd (dat i (off+i*11)) ?_;refine aA ?_;exact dF
theorem aJl(t n c:Nat)(A:Option Addr)(i:Int)(w:World)(h0:fK w t 0 (.slice A n c))(hi:bN n i=false):
  Cz 88 #[pt t,iv i] w (Rt (.pointer none) w):=by
 have hi:=of_decide_eq_false hi
 refine aL func88 ntmps88 ?_;refine aA ?_;refine bU (t:=11) rfl (fun h=>?_) (fun h=>?_)
 ·refine aA ?_;exact dF
 ·refine aA ?_;refine aG rfl (fun h=>?_) (fun h=>absurd hi (by omega));refine aA ?_;exact dF
theorem Si(L:TL)(s:aD)(st:List eP)(i f:Nat)(c:eF)(fs:List Int)(w:World)(hR:xD w L s st)(hi:s.aF[i]? =some c)(hf:c.src=(f:Int)::fs):
  Cz 90 #[.pointer (some ⟨L.t,0,none⟩),iv (i:Int)] w (Rt (iv (f:Int)) w):=by
 have hlt:i < s.aF.length:=(List.getElem?_eq_some_iff.1 hi).1
 obtain⟨b,off,c',a,x,hc,hx,hA,hro,hs⟩:=hR.node hlt;obtain rfl:c=c':=by rw[hi] at hc;exact Option.some.inj hc
 have h0:=hR.r0
 rw[hA] at h0
 have h1:=hro.at_ (j:=1) rfl
 have h8:=hro.at_ (j:=8) rfl
 rw[hf] at h1 hs;obtain⟨b2,o2,hA2,oN,oY⟩:=hs.2 (by simp);rw[hA2] at h1
 have h2:fK w b2 o2 (iv (f:Int)):=⟨oN,oY 0 _ rfl⟩
 refine aL func90 ntmps90 ?_;refine aA ?_;refine kd (dat i (off+i*11)) ?_;refine aA ?_;refine mG ?_;refine iZ ?_;refine xA (dat 0 o2 (hlt:=by simp)) ?_;refine jA ?_;refine aA ?_;exact dF
theorem aSd(L:TL)(s:aD)(st:List eP)(hH:s.dG)(b1 b2:Nat):∀(i:Nat),i < s.aF.length→∀w,xD w L s st→fK w b1 0 (.pointer (some ⟨L.t,0,none⟩))→fK w b2 0 (.func (.func 89) #[] #[pt b1,pt b2])→
  Cz 89 #[iv (i:Int),pt b1,pt b2] w (Rt (.bool (runs s st i)) w):=by
 intro i
 induction i using Nat.strongRecOn with
 | _ i ih =>
  intro hlt w hR Hi eX;obtain⟨b,off,c,a,x,hc,hx,hA,hro,hs⟩:=hR.node hlt
  have hrun:=aGq hH.t.aF hc hx
  have h0:=hR.r0
  rw[hA] at h0
  have k0:=hro.at_ (j:=0) rfl
  have k6:=hro.at_ (j:=6) rfl
  have k7:=hro.at_ (j:=7) rfl
  have Rn:∀{w1},Below w.heap.size w w1→fK w1 b1 0 (.pointer (some ⟨L.t,0,none⟩)):=fun hb=>⟨Nat.lt_of_lt_of_le Hi.1 hb.size,(hb.cell (p:=⟨_,0,none⟩) Hi.1).trans Hi.2⟩
  have go2:∀{w1},Below w.heap.size w w1→fK w1 b2 0 (.func (.func 89) #[] #[pt b1,pt b2]):=fun hb=>⟨Nat.lt_of_lt_of_le eX.1 hb.size,(hb.cell (p:=⟨_,0,none⟩) eX.1).trans eX.2⟩
  obtain⟨hsrc,hfit⟩:=hH.t.aF i c hc;refine aL func89 ntmps89 ?_;refine aA ?_;refine kd (dat i (off+i*11)) ?_;rcases hfit with⟨hk,hs0,_⟩ | hfit
  ·rw[hk] at k0;refine aA ?_;refine jY (by simp) ?_;rw[hrun,hs0];simp[rM,hk]
  obtain⟨f,fs,hf⟩:∃(f:Nat) (fs:List Int),c.src=(f:Int)::fs:=by
   cases hs0:c.src with
   | nil=>rw[hs0] at hfit;simp at hfit
   | cons f fs=>exact⟨f.toNat,fs,by have:=(hsrc f (by rw[hs0];simp)).1;rw[Int.toNat_of_nonneg this]⟩
  have Mu:f < i:=by have:=(hsrc f (by rw[hf];simp)).2;omega
  have Mp:runs s st i=(rM c x&&runs s st f):=by rw[hrun,hf];rfl
  clear hrun;rcases hfit with⟨hk,_⟩ | ⟨hk,_⟩ | ⟨hk,_⟩ | ⟨hk,_⟩
  ·rw[hk] at k0;cases tI:x.on
   ·rw[tI] at k6;refine aA ?_;refine mG ?_;refine jA ?_;refine aA ?_;refine jY (by simp) ?_;rw[Mp];simp[rM,hk,tI]
   ·rw[tI] at k6;refine aA ?_;refine mG ?_;refine iZ ?_;refine Nx 32 rfl (fun h=>?_) (fun h=>?_)
    ·refine iZ ?_;refine tR (fun w1 mI=>Si L s st i f c fs w1 (hR.below (mI.below (by simp))) hc hf) ?_;refine iZ ?_;refine Il (fi:=[]) (vs:=[iv (f:Int)]) (ca:=[pt b1,pt b2]) (fun w1 mI=>ih f Mu (by omega) w1 (hR.below (mI.below (by simp))) (Rn (mI.below (by simp))) (go2 (mI.below (by simp)))) ?_;refine jA ?_;refine aA ?_;refine jY (by simp) ?_;rw[Mp];simp[rM,hk,tI,h]
    ·refine jA ?_;refine aA ?_;refine jY (by simp) ?_;rw[Mp];simp[rM,hk,tI,h]
  ·rw[hk] at k0;refine aA ?_;refine mG ?_;refine iZ ?_;refine tR (fun w1 mI=>Si L s st i f c fs w1 (hR.below (mI.below (by simp))) hc hf) ?_;refine Il (fi:=[]) (vs:=[iv (f:Int)]) (ca:=[pt b1,pt b2]) (fun w1 mI=>ih f Mu (by omega) w1 (hR.below (mI.below (by simp))) (Rn (mI.below (by simp))) (go2 (mI.below (by simp)))) ?_;refine jA ?_;refine aA ?_;refine jY (by simp) ?_;rw[Mp];simp[rM,hk]
  ·rw[hk] at k0;cases tI:x.on
   ·rw[tI] at k6;refine aA ?_;refine mG ?_;refine jA ?_;refine aA ?_;refine jY (by simp) ?_;rw[Mp];simp[rM,hk,tI]
   ·rw[tI] at k6;refine aA ?_;refine mG ?_;refine iZ ?_;refine tR (fun w1 mI=>Si L s st i f c fs w1 (hR.below (mI.below (by simp))) hc hf) ?_;refine iZ ?_;refine Il (fi:=[]) (vs:=[iv (f:Int)]) (ca:=[pt b1,pt b2]) (fun w1 mI=>ih f Mu (by omega) w1 (hR.below (mI.below (by simp))) (Rn (mI.below (by simp))) (go2 (mI.below (by simp)))) ?_;refine jA ?_;refine aA ?_;refine jY (by simp) ?_;rw[Mp];simp[rM,hk,tI]
  ·rw[hk] at k0;refine aA ?_;refine mG ?_;refine iZ ?_;refine tR (fun w1 mI=>Si L s st i f c fs w1 (hR.below (mI.below (by simp))) hc hf) ?_;refine Il (fi:=[]) (vs:=[iv (f:Int)]) (ca:=[pt b1,pt b2]) (fun w1 mI=>ih f Mu (by omega) w1 (hR.below (mI.below (by simp))) (Rn (mI.below (by simp))) (go2 (mI.below (by simp)))) ?_;refine jA ?_;refine aA ?_;refine jY (by simp) ?_;rw[Mp];simp[rM,hk]
end
section
section
variable{N:bZ}{w0 w:World}{e:Env}{R:List Piece}{H:List HP}{K:Act→World→Prop}{L:TL}{s:aD}{st:List eP}
theorem St.aCD(t:St w0 R H w)(i:Nat)(hi:H[i]? =some (rF L s st))(hfl:L.fa.length=s.aF.length)(hok:qS s st):xD w L s st:=by
 obtain⟨F,h1,h2,_⟩:=t.chunk hi;exact aKd h1 h2 hfl hok
theorem Rd.tree(i:Nat)(hi:H[i]? =some (rF L s st))(hfl:L.fa.length=s.aF.length)(hok:qS s st):Rd w0 R H L.t 0 (.slice L.A s.aF.length L.c):=fun w t=>(t.aCD i hi hfl hok).r0.2
theorem aDk(hfl:L.fa.length=s.aF.length)(hok:qS s st):(kI s L.fa st).length=s.aF.length∧∀r∈kI s L.fa st,r.length=11:=by
 have:=hok.len
 refine⟨by simp[kI];omega,fun r hr=>?_⟩;obtain⟨j,hj⟩:=List.getElem?_of_mem hr;rw[kI,List.getElem?_zipWith] at hj;split at hj<;>cases hj
 rfl
theorem Pw{i:Nat}{c:eF}{a:Option Addr×Nat}{x:eP}(hc:s.aF[i]? =some c)(ha:L.fa[i]? =some a)(hx:st[i]? =some x):(kI s L.fa st)[i]? =some (sK c a x):=by
 rw[kI,List.getElem?_zipWith,hc,(List.getElem?_zip_eq_some (z:=(a,x))).2 ⟨ha,hx⟩]
theorem aHk{i:Nat}{c:eF}{a:Option Addr×Nat}{x:eP}(hc:s.aF[i]? =some c)(ha:L.fa[i]? =some a)(hi:i < st.length):(kI s L.fa st).set i (sK c a x)=kI s L.fa (st.set i x):=by
 refine List.ext_getElem? fun j=>?_;rw[List.getElem?_set]
 by_cases he:i=j
 ·subst he;rw[if_pos rfl,Pw hc ha (x:=x) (by rw[List.getElem?_set_self hi])];rw[if_pos]
  have h1:=(List.getElem?_eq_some_iff.1 hc).1
  have h2:=(List.getElem?_eq_some_iff.1 ha).1
  simp[kI];omega
 ·rw[if_neg he,kI,kI,List.getElem?_zipWith,List.getElem?_zipWith]
  have hz:(L.fa.zip st)[j]? =(L.fa.zip (st.set i x))[j]? :=by
   rw[List.zip_eq_zipWith,List.zip_eq_zipWith,List.getElem?_zipWith,List.getElem?_zipWith,List.getElem?_set_ne he]
  rw[hz]
theorem St.aLr{g:Nat}{cs:List Value}(t:St w0 R H w)(i j:Nat)(hi:H[i]? =some (HP.aE g 224 cs))(hj:H[j]? =some (HP.many [HP.aE L.t 227 [.slice (some ⟨g,0,none⟩) s.aF.length L.c],cG,HP.bT (tY s L.fa) (tY.le (s:=s) (fa:=L.fa))]))(hA:L.A=some ⟨g,0,none⟩)(h2:cs.take (s.aF.length*11)=(kI s L.fa st).flatten)(hfl:L.fa.length=s.aF.length)(hok:qS s st):xD w L s st:=by
 obtain⟨iK,iJ⟩:=aDk hfl hok
 have hb:=t.aE hi
 obtain⟨F,⟨G,g1,g2,_⟩,hlt,_⟩:=t.chunk hj
 have h0:=g1 0 _ rfl
 have aPi:=g1 2 _ rfl
 refine⟨⟨h0.2.lt,by rw[h0.2.cell,hA];rfl⟩,⟨by rw[aCQ _ iJ,iK],fun _=>⟨g,0,hA,hb.lt,fun k u hu=>?_⟩⟩,fun k c a hc ha=>(aPi k c a hc ha).le (fun b hbG=>⟨hlt b (g2 2 b hbG),rfl⟩),hfl,hok⟩;rw[←h2] at hu;rw[Nat.zero_add]
 show w.cell? _=_
 rw[hb.cell]
 have hk:k < s.aF.length*11:=by
  rcases Nat.lt_or_ge k (s.aF.length*11) with h | h
  ·exact h
  ·rw[List.getElem?_eq_none (by rw[List.length_take];omega)] at hu;cases hu
 rw[List.getElem?_take_of_lt hk] at hu
 simpa using hu
theorem aJS(i:Nat)(hi:H[i]? =some (rF L s st))(hn:0 < s.aF.length)(h:∀g cs,L.A=some ⟨g,0,none⟩→cs.length=L.c*11→cs.take (s.aF.length*11)=(kI s L.fa st).flatten→s.aF.length≤L.c→L.c≤maxLen→
  XK N w0 K e R (HP.aE g 224 cs::H.set i (HP.many [HP.aE L.t 227 [.slice L.A s.aF.length L.c],cG,HP.bT (tY s L.fa) (tY.le (s:=s) (fa:=L.fa))]))):XK N w0 K e R H:=by
 refine sU i 1 hi rfl ?_;refine aBU 0 rfl hn fun g hA=>?_;dsimp only[List.set];rw[hA];refine Sr 0 rfl fun cs h1 h2 h3 h4=>?_
 have:=h g cs hA h1 h2 h3 h4
 rw[hA] at this;exact this
theorem Bk(i:Nat){g:Nat}{cs:List Value}{st':List eP}(hA:L.A=some ⟨g,0,none⟩)(h1:cs.length=L.c*11)(h2:cs.take (s.aF.length*11)=(kI s L.fa st').flatten)(h3:s.aF.length≤L.c)(h4:L.c≤maxLen)
  (hi:H[i]? =some (HP.many [HP.aE L.t 227 [.slice (some ⟨g,0,none⟩) s.aF.length L.c],cG,HP.bT (tY s L.fa) (tY.le (s:=s) (fa:=L.fa))]))
  (h:XK N w0 K e R (H.set i (rF L s st'))):XK N w0 K e R (HP.aE g 224 cs::H):=by
 refine Oc 0 (n:=s.aF.length) (c:=L.c) (sz:=11) rfl h1 h2 h3 h4 ?_;dsimp only[List.set];rw[←hA] at hi⊢;exact sV i 1 hi rfl h
end
theorem Yp(L:TL)(s:aD)(st:List eP)(hH:s.dG)(i:Int)(w:World)(hR:xD w L s st):
  Cz 41 #[.pointer (some ⟨L.t,0,none⟩),iv i] w (Rt (.bool (qB s st i)) w):=by
 cases hi:bN s.aF.length i
 ·refine aL func41 ntmps41 ?_;refine aA ?_;refine bA fun g1=>?_;refine aA ?_;refine aU (fun w1 t=>aJl L.t s.aF.length L.c L.A i w1 ((hR.below (t.below (by simp))).r0) hi) ?_;refine aA ?_;refine jY (by simp) ?_;simp[qB,hi]
 ·obtain⟨n,rfl⟩:∃n:Nat,i=n:=⟨i.toNat,by have:=of_decide_eq_true hi;omega⟩
  have hlt:n < s.aF.length:=by have:=of_decide_eq_true hi;omega
  obtain⟨b,off,c,a,x,hc,hx,hA,_⟩:=hR.node hlt;refine aL func41 ntmps41 ?_;refine aA ?_;refine bA fun g1=>?_;refine aA ?_;refine aU (fun w1 t=>aJm L.t s.aF.length L.c b off n w1 (by rw[←hA];exact(hR.below (t.below (by simp))).r0) hlt) ?_;refine aA ?_;refine bR fun g2=>?_;refine aA ?_;refine kL (vf:=[]) (vc:=[pt g1,pt g2]) rfl rfl (by decide) ?_;refine aA ?_;refine aAV (fi:=[]) (vs:=[iv (n:Int)]) (ca:=[pt g1,pt g2]) (fun w1 t=>aSd L s st hH g1 g2 n hlt w1 (hR.below (t.below (by simp))) ((t.box (i:=1) rfl).at_ (j:=0) rfl) ((t.box (i:=0) rfl).at_ (j:=0) rfl)) ?_;refine aA ?_;refine jY (by simp) ?_;simp[qB,hi]
theorem aSf(L:TL)(s:aD)(st:List eP)(hfl:L.fa.length=s.aF.length)(hok:qS s st)(i:Int)(on:Bool)(w:World)(F:Nat→Prop)(hp:(rF L s st).sat F w)(hF:∀b,F b→b < w.heap.size):
  Cz 228 #[.pointer (some ⟨L.t,0,none⟩),iv i,.bool on] w (Wr (iv (kZ s st i on).1) (rF L s (kZ s st i on).2) w F):=by
 cases hi:bN s.aF.length i
 ·have hr:kZ s st i on=(4,st):=by simp[kZ,hi]
  rw[hr];refine dJ func228 ntmps228 hp hF ?_;refine aA ?_;refine aU (fun w1 t=>aJl L.t s.aF.length L.c L.A i w1 ((t.aCD 0 rfl hfl hok).r0) hi) ?_;refine aA ?_;exact cH 0 hF
 ·obtain⟨n,rfl⟩:∃n:Nat,i=n:=⟨i.toNat,by have:=of_decide_eq_true hi;omega⟩
  have hlt:n < s.aF.length:=by have:=of_decide_eq_true hi;omega
  have hl:=hok.len
  obtain⟨c,hc⟩:=get_some hlt;obtain⟨a,ha⟩:=get_some (l:=L.fa) (i:=n) (by omega);obtain⟨x,hx⟩:=get_some (l:=st) (i:=n) (by omega);obtain⟨iK,iJ⟩:=aDk hfl hok;refine dJ func228 ntmps228 hp hF ?_;refine aJS 0 rfl (by omega) fun g cs hA h1 h2 h3 h4=>?_;dsimp only[List.set];rw[hA]
  have hs:=Hq h2 iK iJ (Pw hc ha hx)
  have hlen:n*11+11≤cs.length:=by omega
  refine bF 1 0 ?_;refine aA ?_;refine aU (fun w1 t=>aJm L.t s.aF.length L.c g 0 n w1 ((t.box (i:=0) rfl).at_ (j:=0) rfl) hlt) ?_;refine aN 1 0 ?_;rw[Nat.zero_add];refine aA ?_
  have hpq:∀x':eP,(kI s L.fa st).set n (sK c a x')=kI s L.fa (st.set n x'):=fun x'=>aHk hc ha (by omega)
  refine bU (t:=19) rfl (fun hk=>?_) (fun hk=>?_)
  ·refine aA ?_;refine aG rfl (fun hg=>?_) (fun hg=>?_)
   ·have hr:kZ s st (n:Int) on=(1,st):=by simp[kZ,hi,hc,hx,hk,hg]
    rw[hr];refine aA ?_;refine Bk 0 hA h1 h2 h3 h4 rfl ?_;exact cH 0 hF
   ·have hg:c.kind=103:=Classical.not_not.1 hg
    have hr:kZ s st (n:Int) on=(0,st.set n ⟨on,x.left⟩):=by simp[kZ,hi,hc,hx,hg,Gp]
    rw[hr]
    have hs1:=hs.set 6 (.bool on) (by simp[sK]) (by omega)
    have vP:=(vZ.refl cs (n*11) 11).set 6 (.bool on) (by decide)
    have gL:=Fj (r':=sK c a ⟨on,x.left⟩) h2 iK iJ hlt (by omega) rfl hs1 vP
    rw[hpq] at gL;refine aA ?_;refine bU (t:=37) rfl (fun h=>absurd h hk) (fun _=>?_);refine aA ?_;refine Bk 0 hA (by simpa using h1) gL h3 h4 rfl ?_;exact cH 0 hF
  ·have hk:c.kind=112:=Classical.not_not.1 hk
   have hs1:=hs.set 6 (.bool on) (by simp[sK]) (by omega)
   have vP:=(vZ.refl cs (n*11) 11).set 6 (.bool on) (by decide)
   cases on
   ·have hr:kZ s st (n:Int) false=(0,st.set n ⟨false,c.lock⟩):=by simp[kZ,hi,hc,hx,hk,Gp]
    rw[hr];refine aA ?_;refine bU (t:=37) rfl (fun _=>?_) (fun h=>absurd hk h)
    have fX:=hs1.set 7 (iv c.lock) (by simp[sK]) (by simp;omega)
    have hu2:=vP.set 7 (iv c.lock) (by decide)
    have gL:=Fj (r':=sK c a ⟨false,c.lock⟩) h2 iK iJ hlt (by omega) rfl fX hu2
    rw[hpq] at gL;refine aA ?_;refine Bk 0 hA (by simpa using h1) gL h3 h4 rfl ?_;exact cH 0 hF
   ·have hr:kZ s st (n:Int) true=(0,st.set n ⟨true,x.left⟩):=by simp[kZ,hi,hc,hx,hk,Gp]
    rw[hr]
    have gL:=Fj (r':=sK c a ⟨true,x.left⟩) h2 iK iJ hlt (by omega) rfl hs1 vP
    rw[hpq] at gL;refine aA ?_;refine bU (t:=37) rfl (fun _=>?_) (fun h=>absurd hk h);refine aA ?_;refine Bk 0 hA (by simpa using h1) gL h3 h4 rfl ?_;exact cH 0 hF
end
section
theorem aI.zN{p:Piece}{sz n:Nat}{A:Option Addr}{rows:List (List Value)}(h:aI p sz A n rows.flatten)(hl:∀r∈rows,r.length=sz){k:Nat}{r:List Value}(hk:rows[k]? =some r)(hn:k < n):
  ∃b off,A=some ⟨b,off,none⟩∧p.Z b∧∀j u,r[j]? =some u→p.w.cell? ⟨b,off+k*sz+j,none⟩=some u:=by
 obtain⟨b,off,hA,hz,hc⟩:=aI.at_ h hn;refine⟨b,off,hA,hz,fun j u hu=>hc j u ?_⟩
 have hj:j < sz:=by
  rw[←hl r (List.mem_of_getElem? hk)];exact(List.getElem?_eq_some_iff.1 hu).1
 rw[Xu rows hl k j r hk hj,hu]
theorem aTS{w0:World}{R:List Piece}{H:List HP}{p:Piece}{b o:Nat}{vs:List Value}(hp:p∈R)(hz:p.Z b)(h:∀j u,vs[j]? =some u→p.w.cell? ⟨b,o+j,none⟩=some u):aQ w0 R H b o vs:=.of fun j v hj=>Rd.ro hp hz (h j v hj)
theorem Sk(s:aD)(A1 A2 A3 A4:Option Addr)(n1 k1 n2 k2 n3 k3 n4 k4:Nat)(w:World)(hW:fE w s A1 n1 A2 n2 A3 n3 A4 n4)(aDW:Yq s=0):
  Cz 62 #[.agg #[.slice A1 n1 k1,.slice A2 n2 k2,.slice A3 n3 k3,.slice A4 n4 k4]] w (Rt (iv 0) w):=by
 have:=aB5 s A1 A2 A3 A4 n1 k1 n2 k2 n3 k3 n4 k4 w hW
 rw[aDW] at this;exact this
def aKc(s:aD)(v:Value)(hs:List HP)(_:Piece):Prop:=∃L:TL,v=.tuple #[.pointer (some ⟨L.t,0,none⟩),iv 0]∧hs=[rF L s (s.aF.map yS)]∧L.fa.length=s.aF.length
theorem aSg(s:aD)(hH:s.dG)(A1 A2 A3 A4:Option Addr)(n1 k1 n2 k2 n3 k3 n4 k4:Nat)(w:World)(hW:fE w s A1 n1 A2 n2 A3 n3 A4 n4):
  Cz 68 #[.agg #[.slice A1 n1 k1,.slice A2 n2 k2,.slice A3 n3 k3,.slice A4 n4 k4]] w (fun y w'=>(∃v hs q,y=.returned v∧q.w=w'∧aKc s v hs q∧kA w hs q)∧Below w.heap.size w w'):=by
 have hnc:=hH.t.nc
 have Jq:∀d∈s.aC,d.aP.length≤1000000:=fun d hd=>by
  obtain⟨i,hi⟩:=List.getElem?_of_mem hd
  have:=hH.t.aC i d hi
  unfold bO.fit at this;omega
 refine aL func68 ntmps68 ?_;refine aB ?_;refine bA fun g1=>?_;refine aB ?_;refine aU (fun w1 t=>Sk s A1 A2 A3 A4 n1 k1 n2 k2 n3 k3 n4 k4 w1 (hW.le (t.started (by simp))) hH.t.Sj) ?_;refine aB ?_;refine bA fun g2=>?_;refine aB ?_;refine jP [] (aCo s) (fun w1 t=>aE2 s A1 A2 A3 A4 n1 k1 n2 k2 n3 k3 n4 k4 w1 (hW.le (t.started (by simp))) Jq) ?_;rintro _ w1 q1 ⟨cs1,rfl,hS⟩ gL _ aDO
 have aDO:=aDO (by simp)
 obtain⟨B1,m1,j1,B2,m2,j2,B3,m3,j3,B4,m4,j4,rfl,hSQ⟩:=(hS.mono (nU gL)).Q;clear gL hS;obtain⟨rc,hrc,hm1,hsc⟩:=hSQ.jJ;obtain⟨fa,hfl,rfl,hfa⟩:=aE4 hrc;subst hm1;obtain⟨iA,hcr⟩:=aAc (f:=Be) (es:=s.aF) (bs:=fa) (sz:=6) hfl (fun _ _=>rfl)
 have hl0:(s.aF.map yS).length=s.aF.length:=by simp
 refine kd (aR2 (off:=0) (cs:=[.slice B1 s.aF.length j1,.slice B2 m2 j2,.slice B3 m3 j3,.slice B4 m4 j4]) (by kernel_rfl) rfl rfl) ?_;refine aB ?_;refine iO 224 11 ?_;refine bJ [(20,iv 0),(19,iv s.aF.length),(18,.slice B1 s.aF.length j1),(5,pt g2)] ?_;refine eI (fun m e R H=>∃(i:Nat) (A:Option Addr) (k:Nat),i≤s.aF.length∧m=s.aF.length - i∧e=[(20,iv i),(19,iv s.aF.length),(18,.slice B1 s.aF.length j1),(5,pt g2)]∧R=[q1,all w]∧H=[HP.own 224 11 (.slice A i k) i ((kI s fa (s.aF.map yS)).take i).flatten,HP.aE g2 227 [.slice A i k],HP.aE g1 30 [.slice A1 n1 k1,.slice A2 n2 k2,.slice A3 n3 k3,.slice A4 n4 k4]]) s.aF.length ⟨0,none,0,by omega,rfl,rfl,rfl,by simp⟩ fun m e R H hI=>?_;obtain⟨i,A,k,hi,rfl,rfl,rfl,rfl⟩:=hI;refine aB ?_;refine aG rfl (fun hlt=>?_) (fun hge=>?_)
 ·have hlt:i < s.aF.length:=by omega
  obtain⟨c,hc⟩:=get_some hlt;obtain⟨a,ha⟩:=get_some (l:=fa) (i:=i) (by omega);obtain⟨b,off,hB,hz,hcell⟩:=aI.zN hsc hcr (Tt hc ha) hlt;subst hB
  have hrow:(kI s fa (s.aF.map yS))[i]? =some (sK c a (yS c)):=Pw (L:=⟨0,none,0,fa⟩) hc ha (by rw[List.getElem?_map,hc];rfl)
  have dV:((kI s fa (s.aF.map yS)).take (i+1)).flatten=((kI s fa (s.aF.map yS)).take i).flatten++sK c a (yS c):=by
   rw[List.take_succ,hrow,List.flatten_append];simp
  have Wb:∀H,aQ w [q1,all w] H b (off+i*6) (Be c a):=fun H=>aTS (by simp) hz hcell
  have aUd:=Wb [HP.own 224 11 (.slice A i k) i ((kI s fa (s.aF.map yS)).take i).flatten,HP.aE g2 227 [.slice A i k],HP.aE g1 30 [.slice A1 n1 k1,.slice A2 n2 k2,.slice A3 n3 k3,.slice A4 n4 k4]]
  refine aA ?_;refine kd (dat i (off+i*6)) ?_;refine aB ?_;refine bR fun g3=>?_;obtain⟨kdx,src,rate,mul,dv,lock⟩:=c;dsimp only[Be];refine aB ?_;refine bR fun g4=>?_
  have hfit:=(hH.t.aF i _ hc).2
  dsimp only at hfit;rcases hfit with⟨rfl,_⟩ | ⟨rfl,_⟩ | ⟨rfl,_⟩ | ⟨rfl,_⟩ | ⟨rfl,_⟩
  ·skip
   refine aA ?_;refine jL [2,3,4,5] ?_;refine bP 0 ?_;refine bP 1 ?_;refine aJ 2 ?_;refine aJ 3 ?_;refine aJ 4 ?_;refine aJ 5 ?_;refine aM 6 ?_;refine eL fun g5=>?_;refine bL ?_;refine aM 7 ?_;refine gH 3 11 104 1 (el:=224) (by kernel_rfl) (by kernel_rfl) (by decide) rfl rfl rfl (nJ 0 rfl rfl) (by simp[Value.oneCell']) rfl (by omega) (by omega) (by decide) fun A' k'=>?_;dsimp only[List.set];refine cX ?_;refine aM 8 ?_;refine bH ?_;refine cX ?_;refine aM 9 ?_;refine bH ?_;refine cX ?_;refine aM 10 ?_;refine fG rfl rfl ?_;dsimp only[List.set];refine cX ?_;refine fJ ?_;refine aA ?_;refine aY [3,4,5] rfl (by decide) (fun _ h=>h) ?_;exact dY (s.aF.length - (i+1)) ⟨i+1,A',k',hlt,rfl,rfl,rfl,by rw[dV]⟩
  ·skip
   refine aA ?_;refine jL [2,3,4,5] ?_;refine bP 0 ?_;refine bP 1 ?_;refine aJ 2 ?_;refine aJ 3 ?_;refine aJ 4 ?_;refine aJ 5 ?_;refine aM 6 ?_;refine eL fun g5=>?_;refine bL ?_;refine aM 7 ?_;refine gH 3 11 104 1 (el:=224) (by kernel_rfl) (by kernel_rfl) (by decide) rfl rfl rfl (nJ 0 rfl rfl) (by simp[Value.oneCell']) rfl (by omega) (by omega) (by decide) fun A' k'=>?_;dsimp only[List.set];refine cX ?_;refine aM 8 ?_;refine bH ?_;refine cX ?_;refine aM 9 ?_;refine bH ?_;refine cX ?_;refine aM 10 ?_;refine fG rfl rfl ?_;dsimp only[List.set];refine cX ?_;refine fJ ?_;refine aA ?_;refine aY [3,4,5] rfl (by decide) (fun _ h=>h) ?_;exact dY (s.aF.length - (i+1)) ⟨i+1,A',k',hlt,rfl,rfl,rfl,by rw[dV]⟩
  ·skip
   refine aA ?_;refine jL [2,3,4,5] ?_;refine bP 0 ?_;refine bP 1 ?_;refine aJ 2 ?_;refine aJ 3 ?_;refine aJ 4 ?_;refine aJ 5 ?_;refine aM 6 ?_;refine eL fun g5=>?_;refine bL ?_;refine aM 7 ?_;refine gH 3 11 104 1 (el:=224) (by kernel_rfl) (by kernel_rfl) (by decide) rfl rfl rfl (nJ 0 rfl rfl) (by simp[Value.oneCell']) rfl (by omega) (by omega) (by decide) fun A' k'=>?_;dsimp only[List.set];refine cX ?_;refine aM 8 ?_;refine bH ?_;refine cX ?_;refine aM 9 ?_;refine bH ?_;refine cX ?_;refine aM 10 ?_;refine fG rfl rfl ?_;dsimp only[List.set];refine cX ?_;refine fJ ?_;refine aA ?_;refine aY [3,4,5] rfl (by decide) (fun _ h=>h) ?_;exact dY (s.aF.length - (i+1)) ⟨i+1,A',k',hlt,rfl,rfl,rfl,by rw[dV]⟩
  ·skip
   refine aA ?_;refine jL [2,3,4,5] ?_;refine bP 0 ?_;refine bP 1 ?_;refine aJ 2 ?_;refine aJ 3 ?_;refine aJ 4 ?_;refine aJ 5 ?_;refine aM 6 ?_;refine eL fun g5=>?_;refine bL ?_;refine aM 7 ?_;refine gH 3 11 104 1 (el:=224) (by kernel_rfl) (by kernel_rfl) (by decide) rfl rfl rfl (nJ 0 rfl rfl) (by simp[Value.oneCell']) rfl (by omega) (by omega) (by decide) fun A' k'=>?_;dsimp only[List.set];refine cX ?_;refine aM 8 ?_;refine bH ?_;refine cX ?_;refine aM 9 ?_;refine bH ?_;refine cX ?_;refine aM 10 ?_;refine fG rfl rfl ?_;dsimp only[List.set];refine cX ?_;refine fJ ?_;refine aA ?_;refine aY [3,4,5] rfl (by decide) (fun _ h=>h) ?_;exact dY (s.aF.length - (i+1)) ⟨i+1,A',k',hlt,rfl,rfl,rfl,by rw[dV]⟩
  ·skip
   refine aA ?_;refine jL [2,3,4,5] ?_;refine bP 0 ?_;refine bP 1 ?_;refine aJ 2 ?_;refine aJ 3 ?_;refine aJ 4 ?_;refine aJ 5 ?_;refine aM 6 ?_;refine eL fun g5=>?_;refine bL ?_;refine aM 7 ?_;refine gH 3 11 104 1 (el:=224) (by kernel_rfl) (by kernel_rfl) (by decide) rfl rfl rfl (nJ 0 rfl rfl) (by simp[Value.oneCell']) rfl (by omega) (by omega) (by decide) fun A' k'=>?_;dsimp only[List.set];refine cX ?_;refine aM 8 ?_;refine bH ?_;refine cX ?_;refine aM 9 ?_;refine bH ?_;refine cX ?_;refine aM 10 ?_;refine fG rfl rfl ?_;dsimp only[List.set];refine cX ?_;refine fJ ?_;refine aA ?_;refine aY [3,4,5] rfl (by decide) (fun _ h=>h) ?_;exact dY (s.aF.length - (i+1)) ⟨i+1,A',k',hlt,rfl,rfl,rfl,by rw[dV]⟩
 ·obtain rfl:i=s.aF.length:=by omega
  refine aB ?_
  have hfull:(kI s fa (s.aF.map yS)).take s.aF.length=kI s fa (s.aF.map yS):=List.take_of_length_le (by simp[kI];omega)
  rw[hfull];refine aY [1,0] rfl (by decide) (fun _ h=>h) ?_;refine Im aDO (by simp[all]) (Φ:=tY s fa) (hm:=tY.le (s:=s) (fa:=fa)) (fun i c a hc ha=>hfa i c a hc ha) ?_;refine aY [1,2,0] rfl (by decide) (fun _ h=>h) ?_;refine Zf ?_;refine dP [] [] [0] (by simp) rfl (by decide) (by decide) fun q _ _ hfr=>?_;exact eK rfl rfl rfl fun w1 t=>⟨⟨_,_,⟨w1,q.Z⟩,rfl,rfl,⟨⟨g2,A,k,fa⟩,rfl,rfl,hfl⟩,t.newR (by simp) (by simp) (hfr (by simp) (by simp))⟩,t.below (by simp)⟩
end
section
def jE(r:Int)(x:kH):Value:=.agg #[iv r,iv x.left,.bool x.held,.bool x.wanted]
def Me(s:aD)(st:List kH)(i:Nat):Int×Value:=((i:Int),jE (s.aT.getD i 0) (st.getD i sM))
def nW(s:aD)(st:List kH):List (Int×Value):=(List.range st.length).map (Me s st)
theorem aHz(f:Nat→Value)(n:Nat)(i:Int):mY ((List.range n).map fun j:Nat=>((j:Int),f j)) i=if bN n i then some (f i.toNat) else none:=by
 induction n with
 | zero=>
  have:bN 0 i=false:=decide_eq_false (by omega)
  rw[this];rfl
 | succ n ih =>
  have h0:mY ((List.range (n+1)).map fun j:Nat=>((j:Int),f j)) i=(mY ((List.range n).map fun j:Nat=>((j:Int),f j)) i).or (mY [((n:Int),f n)] i):=by
   rw[List.range_succ,List.map_append];unfold mY;rw[List.find?_append];cases List.find? (fun p=>decide (p.1=i)) ((List.range n).map fun j:Nat=>((j:Int),f j))<;>rfl
  rw[h0,ih]
  by_cases h1:bN n i=true
  ·have:bN (n+1) i=true:=by have:=of_decide_eq_true h1;exact decide_eq_true (by omega)
   rw[if_pos h1,if_pos this];rfl
  ·have hf:bN n i=false:=by simpa using h1
   have:=of_decide_eq_false hf
   rw[if_neg h1,Pz]
   by_cases h2:(n:Int)=i
   ·subst h2
    have:bN (n+1) (n:Int)=true:=decide_eq_true (by omega)
    rw[if_pos rfl,if_pos this];rfl
   ·have h3:bN (n+1) i=false:=decide_eq_false (by omega)
    rw[if_neg h2,h3];rfl
theorem aOo(f : Nat → Value)(n i : Nat)(v : Value)(hi : i < n) : oL ((List.range n).map fun j : Nat => ((j : Int), f j)) (i : Int) v = (List.range n).map fun j : Nat => ((j : Int), if j = i then v else f j) := by
  have key:∀(l:List Nat),i∈l→l.Nodup→oL (l.map fun j:Nat=>((j:Int),f j)) (i:Int) v=l.map fun j:Nat=>((j:Int),if j=i then v else f j):=by
    intro l
    induction l with
    | nil=>intro h;simp at h
    | cons a l ih =>
      intro h hn;rw[List.map_cons,oL,List.map_cons]
      by_cases ha:(a:Int)=(i:Int)
      · have yL:a=i:=by omega
        subst yL;rw[if_pos rfl,if_pos rfl]
        congr 1
        refine List.map_congr_left fun j hj=>?_;rw[if_neg (fun he:j=a=>(List.nodup_cons.1 hn).1 (he▸hj))]
      · rw[if_neg ha,if_neg (by omega)]
        congr 1
        exact ih (by rcases List.mem_cons.1 h with h | h
                     · omega
                     · exact h) (List.nodup_cons.1 hn).2
  exact key _ (List.mem_range.2 hi) List.nodup_range
theorem aH0{s:aD}{st:List kH}(i:Int):mY (nW s st) i=if bN st.length i then some (jE (s.aT.getD i.toNat 0) (st.getD i.toNat sM)) else none:=aHz (fun j=>jE (s.aT.getD j 0) (st.getD j sM)) st.length i
theorem aDm{s:aD}{st:List kH}{i:Nat}{x:kH}{r:Int}(hr:s.aT.getD i 0=r)(hi:i < st.length):oL (nW s st) (i:Int) (jE r x)=nW s (st.set i x):=by
 have:=aOo (fun j=>jE (s.aT.getD j 0) (st.getD j sM)) st.length i (jE r x) hi
 refine this.trans ?_;unfold nW;rw[List.length_set];refine List.map_congr_left fun j hj=>?_;unfold Me
 congr 1
 by_cases he:j=i
 ·subst he;rw[if_pos rfl,←hr,List.getD_eq_getElem?_getD (l:=st.set j x),List.getElem?_set_self hi];rfl
 ·rw[if_neg he,List.getD_eq_getElem?_getD (l:=st.set i x),List.getElem?_set_ne (Ne.symm he),List.getD_eq_getElem?_getD (l:=st)]
structure RL where
 t:Nat
 g:Nat
def qQ(L:RL)(s:aD)(st:List kH):HP:=HP.many [HP.aE L.t 277 [.map (some L.g)],HP.map L.g (nW s st)]
structure Lh(w:World)(L:RL)(s:aD)(st:List kH):Prop where
 r0:fK w L.t 0 (.map (some L.g))
 m:xH w L.g (nW s st)
theorem Lh.below{w w':World}{L:RL}{s:aD}{st:List kH}(h:Lh w L s st)(hb:Below w.heap.size w w'):Lh w' L s st:=
 ⟨⟨Nat.lt_of_lt_of_le h.r0.1 hb.size,(hb.cell (p:=⟨_,0,none⟩) h.r0.1).trans h.r0.2⟩,h.m.below hb⟩
section
variable{N:bZ}{w0 w:World}{e:Env}{R:List Piece}{H:List HP}{K:Act→World→Prop}{L:RL}{s:aD}{st:List kH}
theorem aKt{F:Nat→Prop}(h:(qQ L s st).sat F w):Lh w L s st:=by
 obtain⟨G,g1,g2,_⟩:=h
 have h0:=g1 0 _ rfl
 exact⟨⟨h0.2.lt,by rw[h0.2.cell];rfl⟩,(g1 1 _ rfl).2⟩
theorem St.Qh(t:St w0 R H w)(i:Nat)(hi:H[i]? =some (qQ L s st)):Lh w L s st:=by
 obtain⟨F,h1,h2,_⟩:=t.chunk hi;exact aKt h1
end
theorem aHD:(Tryz.prog.info? 233).bind (·.zero)=some (jE 0 ⟨0,false,false⟩):=by kernel_rfl
def uS(s:aD)(st:List kH)(i:Int):Value:=if bN st.length i then jE (s.aT.getD i.toNat 0) (st.getD i.toNat sM) else jE 0 ⟨0,false,false⟩
theorem aQE(s:aD)(st:List kH)(i:Int):∃r x,uS s st i=jE r x:=by
 unfold uS;split
 ·exact⟨_,_,rfl⟩
 ·exact⟨_,_,rfl⟩
theorem Ut(L:RL)(s:aD)(st:List kH)(i:Int)(w:World)(hR:Lh w L s st):
  Cz 92 #[.pointer (some ⟨L.t,0,none⟩),iv i] w (Rt (.tuple #[uS s st i,.bool (bN st.length i)]) w):=by
 have h0:=hR.r0
 obtain⟨r,x,hv⟩:=aQE s st i
 have hm:=aH0 (s:=s) (st:=st) i
 have hz:(mY (nW s st) i).getD (jE 0 ⟨0,false,false⟩)=jE r x:=by
  rw[hm,←hv,uS];split<;>rfl
 have hb:(mY (nW s st) i).isSome=bN st.length i:=by
  rw[hm];split
  ·rename_i h;rw[h];rfl
  ·rename_i h;simp at h;rw[h];rfl
 rw[hv];refine aL func92 ntmps92 ?_;refine aA ?_;refine bR fun g1=>?_;refine aA ?_;refine aAi (kt:=3) (et:=233) (kd:=.i64) (z:=jE 0 ⟨0,false,false⟩) (l:=nW s st) true (by kernel_rfl) (by kernel_rfl) aHD rfl rfl (fun w1 t=>(hR.below (t.below (by simp))).m) (by decide) ?_;simp only[if_true];rw[hz,hb];refine aA ?_;refine bR fun g2=>?_;unfold jE;refine aA ?_;exact xC rfl (by kernel_rfl) rfl rfl (by first | assumption | exact aQ.whole 0 rfl | exact aQ.whole 1 rfl | exact aQ.whole 2 rfl | exact aQ.whole 3 rfl | exact aQ.whole 4 rfl | exact aQ.whole 5 rfl | exact aQ.whole 6 rfl | exact aQ.whole 7 rfl | exact aQ.whole 8 rfl | exact yX (by simp) (by assumption)) rfl fun w1 t=>⟨rfl,t.below (by simp)⟩
theorem aGy(L:RL)(s:aD)(st:List kH)(i:Int)(w:World)(hR:Lh w L s st):
  Cz 43 #[.pointer (some ⟨L.t,0,none⟩),iv i] w (Rt (.bool (Aj st i)) w):=by
 refine aL func43 ntmps43 ?_;refine aA ?_;refine aU (fun w1 t=>Ut L s st i w1 (hR.below (t.below (by simp)))) ?_;refine aA ?_;refine bR fun g2=>?_;cases hi:bN st.length i
 ·have hv:uS s st i=jE 0 ⟨0,false,false⟩:=by simp[uS,hi]
  rw[hv];unfold jE;refine aA ?_;refine jY (by simp) ?_;simp[Aj,hi]
 ·have hv:uS s st i=jE (s.aT.getD i.toNat 0) (st.getD i.toNat sM):=by simp[uS,hi]
  rw[hv];unfold jE;refine aA ?_;refine jY (by simp) ?_
  have:i.toNat < st.length:=by have:=of_decide_eq_true hi;omega
  simp[Aj,hi,List.getElem?_eq_getElem this]
end
section
theorem aEs:∀{cl:List Dom} {rs:List (List Value)},Rows vA 3 cl rs→rs=cl.map fun d=>[iv d.above,iv d.delay,.bool d.ret]
 | [],[],_=>rfl
 | e::es,r::rs,h=>by
  have h1:r=[iv e.above,iv e.delay,.bool e.ret]:=h.2.1
  rw[h1,aEs h.2.2];rfl
theorem aCO:∀{cl:List Int} {rs:List (List Value)},Rows yV 1 cl rs→rs=cl.map fun d=>[iv d]
 | [],[],_=>rfl
 | e::es,r::rs,h=>by
  have h1:r=[iv e]:=h.2.1
  rw[h1,aCO h.2.2];rfl
def aK1(s:aD)(v:Value)(hs:List HP)(_:Piece):Prop:=∃L:GL,v=.tuple #[.pointer (some ⟨L.t,0,none⟩),iv 0]∧hs=[wE L s (s.domains.map fun _=>yR)]
theorem aN0(s:aD)(hH:s.dG)(A1 A2 A3 A4:Option Addr)(n1 k1 n2 k2 n3 k3 n4 k4:Nat)(w:World)(hW:fE w s A1 n1 A2 n2 A3 n3 A4 n4):
  Cz 69 #[.agg #[.slice A1 n1 k1,.slice A2 n2 k2,.slice A3 n3 k3,.slice A4 n4 k4]] w (fun y w'=>(∃v hs q,y=.returned v∧q.w=w'∧aK1 s v hs q∧kA w hs q)∧Below w.heap.size w w'):=by
 have hnd:=hH.t.nd
 obtain⟨rd,hrd,hn2,hsd⟩:=hW.dom
 have hrd:=aEs hrd
 subst hrd;subst hn2
 have iY:(s.domains.map fun _=>yR).length=s.domains.length:=by simp
 refine aL func69 ntmps69 ?_;refine aA ?_;refine bA fun g1=>?_;refine aA ?_;refine aU (fun w1 t=>Sk s A1 A2 A3 A4 n1 k1 _ k2 n3 k3 n4 k4 w1 (hW.le (t.started (by simp))) hH.t.Sj) ?_;refine aA ?_;refine kd (fZ rfl) ?_;refine bA fun g2=>?_;refine aA ?_;refine iO 231 7 ?_;refine bJ [(18,iv 0),(17,iv s.domains.length),(16,.slice A2 s.domains.length k2),(5,pt g2)] ?_;refine eI (fun m e R H=>∃(i:Nat) (A:Option Addr) (k:Nat),i≤s.domains.length∧m=s.domains.length - i∧e=[(18,iv i),(17,iv s.domains.length),(16,.slice A2 s.domains.length k2),(5,pt g2)]∧R=[all w]∧H=[HP.own 231 7 (.slice A i k) i ((rA s (s.domains.map fun _=>yR)).take i).flatten,HP.aE g2 273 [.slice A i k],HP.aE g1 30 [.slice A1 n1 k1,.slice A2 s.domains.length k2,.slice A3 n3 k3,.slice A4 n4 k4]]) s.domains.length ⟨0,none,0,by omega,rfl,rfl,rfl,by simp⟩ fun m e R H hI=>?_;obtain⟨i,A,k,hi,rfl,rfl,rfl,rfl⟩:=hI;refine aA ?_;refine aG rfl (fun hlt=>?_) (fun hge=>?_)
 ·have hlt:i < s.domains.length:=by omega
  obtain⟨c,hc⟩:=get_some hlt;obtain⟨b,off,hB,hro⟩:=aI.row hsd (fun r hr=>by obtain⟨q,_,rfl⟩:=List.mem_map.1 hr;rfl) (r:=[iv c.above,iv c.delay,.bool c.ret]) (by rw[List.getElem?_map,hc];rfl) hlt;subst hB
  have hrow:(rA s (s.domains.map fun _=>yR))[i]? =some (pQ c yR):=Ko hc (by rw[List.getElem?_map,hc];rfl)
  have dV:((rA s (s.domains.map fun _=>yR)).take (i+1)).flatten=((rA s (s.domains.map fun _=>yR)).take i).flatten++pQ c yR:=by
   rw[List.take_succ,hrow,List.flatten_append];simp
  refine aA ?_;refine kd (dat i (off+i*3)) ?_;refine aA ?_;refine bR fun g3=>?_;refine aA ?_;refine jL [2,3,4,5,6] ?_;refine bP 0 ?_;refine bP 1 ?_;refine aJ 2 ?_;refine aJ 3 ?_;refine aJ 4 ?_;refine aJ 5 ?_;refine aJ 6 ?_ (dI:=lT (zs:=[iv 0,iv 0,.bool false,.int .u8 0,iv 0,.bool false,.bool false]) (L:=[(0,3),(3,1),(4,1),(5,1),(6,1)]) (iG (by kernel_rfl)) (by kernel_rfl) rfl (by simp[fI,gI,Value.cells];rfl));refine aM 7 ?_;refine eL fun g5=>?_;refine bL ?_;refine aM 8 ?_;refine gH 2 7 48 1 (el:=231) (by kernel_rfl) (by kernel_rfl) (by decide) rfl rfl rfl (nJ 0 rfl rfl) (by simp[Value.oneCell']) rfl (by omega) (by omega) (by decide) fun A' k'=>?_;dsimp only[List.set];refine cX ?_;refine aM 9 ?_;refine bH ?_;refine cX ?_;refine aM 10 ?_;refine bH ?_;refine cX ?_;refine aM 11 ?_;refine fG rfl rfl ?_;dsimp only[List.set];refine cX ?_;refine fJ ?_;refine aA ?_;refine aY [2,3,4] rfl (by decide) (fun _ h=>h) ?_;exact dY (s.domains.length - (i+1)) ⟨i+1,A',k',hlt,rfl,rfl,rfl,by rw[dV]⟩
 ·obtain rfl:i=s.domains.length:=by omega
  refine aA ?_
  have hfull:(rA s (s.domains.map fun _=>yR)).take s.domains.length=rA s (s.domains.map fun _=>yR):=List.take_of_length_le (by simp[rA])
  rw[hfull];refine aY [1,0] rfl (by decide) (fun _ h=>h) ?_;refine nG ?_;refine dP [] [] [0] (by simp) rfl (by decide) (by decide) fun q _ _ hfr=>?_;exact eK rfl rfl rfl fun w1 t=>⟨⟨_,_,⟨w1,q.Z⟩,rfl,rfl,⟨⟨g2,A,k⟩,rfl,rfl⟩,t.newR (by simp) (by simp) (hfr (by simp) (by simp))⟩,t.below (by simp)⟩
theorem aKH{N:bZ}{w0:World}{e:Env}{R:List Piece}{H:List HP}{Q:Exit→Act→World→Prop}{ops:Array Oper}{rest:List Oper}{d:Nat}{ty:TypeId}{pos:String}{aH:Array Edge}{x:Operand}{n:Int}{t kt et:TypeId}(ht:Tryz.prog.underlying t=some (.map kt et))(hx:e.ev x=some (iv n))(hd:d < N.n)(k:∀g,XK N w0 (wpList Tryz.prog ops Q rest) ((d,.map (some g))::e) R (HP.map g []::H)):XK N w0 (wpList Tryz.prog ops Q (⟨some d,.makeMap t (some x),ty,pos,aH,none⟩::rest)) e R H:=
 vE rfl fun a w hr st=>⟨.map (some w.heap.size),w.alloc (.map #[] 0),by simp[execOp,Instr.makeMap,hr.ev hx,run_underlying ht,asInt,asIntOf],k w.heap.size _ _ (hr.put hd _) (st.new (Sn w _) ⟨⟨Nat.le_refl _,by simp⟩,#[],0,heap_alloc_new w _,rfl⟩)⟩
def aKs(s:aD)(v:Value)(hs:List HP)(_:Piece):Prop:=∃L:RL,v=.tuple #[.pointer (some ⟨L.t,0,none⟩),iv 0]∧hs=[qQ L s (s.aT.map fun _=>sM)]
theorem aOn(l:List (Int×Value))(k:Int)(v:Value)(h:mY l k=none):oL l k v=l++[(k,v)]:=by
 induction l with
 | nil=>rfl
 | cons p l ih =>
  obtain⟨a,b⟩:=p;rw[Pz] at h;rw[oL];split at h
  ·cases h
  ·rename_i hne
   rw[if_neg hne,ih h];rfl
theorem aMl(s:aD)(hH:s.dG)(A1 A2 A3 A4:Option Addr)(n1 k1 n2 k2 n3 k3 n4 k4:Nat)(w:World)(hW:fE w s A1 n1 A2 n2 A3 n3 A4 n4):
  Cz 70 #[.agg #[.slice A1 n1 k1,.slice A2 n2 k2,.slice A3 n3 k3,.slice A4 n4 k4]] w (fun y w'=>(∃v hs q,y=.returned v∧q.w=w'∧aKs s v hs q∧kA w hs q)∧Below w.heap.size w w'):=by
 have iJ:=hH.t.nr
 obtain⟨rr,cI,oQ,hst⟩:=hW.Cj
 have cI:=aCO cI
 subst cI;subst oQ
 have pO:(s.aT.map fun _=>sM).length=s.aT.length:=by simp
 refine aL func70 ntmps70 ?_;refine aA ?_;refine bA fun g1=>?_;refine aA ?_;refine aU (fun w1 t=>Sk s A1 A2 A3 A4 n1 k1 n2 k2 _ k3 n4 k4 w1 (hW.le (t.started (by simp))) hH.t.Sj) ?_;refine aA ?_;refine aKH (kt:=3) (et:=233) (by kernel_rfl) rfl (by decide) fun gm=>?_;refine kd (fZ rfl) ?_;refine bA fun g2=>?_;refine aA ?_;refine bJ [(22,iv 0),(21,iv s.aT.length),(20,.slice A3 s.aT.length k3),(5,pt g2)] ?_;refine eI (fun m e R H=>∃i:Nat,i≤s.aT.length∧m=s.aT.length - i∧e=[(22,iv i),(21,iv s.aT.length),(20,.slice A3 s.aT.length k3),(5,pt g2)]∧R=[all w]∧H=[HP.aE g2 277 [.map (some gm)],HP.map gm ((List.range i).map (Me s (s.aT.map fun _=>sM))),HP.aE g1 30 [.slice A1 n1 k1,.slice A2 n2 k2,.slice A3 s.aT.length k3,.slice A4 n4 k4]]) s.aT.length ⟨0,by omega,rfl,rfl,rfl,rfl⟩ fun m e R H hI=>?_;obtain⟨i,hi,rfl,rfl,rfl,rfl⟩:=hI;refine aA ?_;refine aG rfl (fun hlt=>?_) (fun hge=>?_)
 ·have hlt:i < s.aT.length:=by omega
  obtain⟨c,hc⟩:=get_some hlt;obtain⟨b,off,hB,hro⟩:=aI.row hst (fun r hr=>by obtain⟨q,_,rfl⟩:=List.mem_map.1 hr;rfl) (r:=[iv c]) (by rw[List.getElem?_map,hc];rfl) hlt;subst hB
  have iX:oL ((List.range i).map (Me s (s.aT.map fun _=>sM))) (i:Int) (jE c sM)=(List.range (i+1)).map (Me s (s.aT.map fun _=>sM)):=by
   rw[aOn _ _ _ (by
    have:=aHz (fun j=>jE (s.aT.getD j 0) ((s.aT.map fun _=>sM).getD j sM)) i (i:Int)
    rw[if_neg (by simp[bN])] at this
    exact this),List.range_succ,List.map_append]
   congr 1
   simp[Me,List.getD_eq_getElem?_getD,hc]
  refine aA ?_;refine kd (dat i (off+i*1)) ?_;refine aA ?_;refine bR fun g3=>?_;refine aA ?_;refine jL [1,2,3,5,6,7] ?_;refine bP 0 ?_;refine aJ 1 ?_;refine aJ 2 ?_;refine aJ 3 ?_;refine bP 4 ?_;refine aJ 5 ?_;refine aJ 6 ?_;refine aJ 7 ?_ (dI:=lT (zs:=[iv 0,iv 0,.bool false,.bool false]) (L:=[(0,1),(1,1),(2,1),(3,1)]) (iG (by kernel_rfl)) (by kernel_rfl) rfl (by simp[fI,gI,Value.cells];rfl));refine aM 8 ?_;refine Iy (kt:=3) (et:=233) (kd:=.i64) (l:=(List.range i).map (Me s (s.aT.map fun _=>sM))) (v:=jE c sM) 2 (by kernel_rfl) (by kernel_rfl) rfl rfl rfl rfl ?_;rw[iX];dsimp only[List.set];refine cX ?_;refine fJ ?_;refine aA ?_;refine aY [1,2,3] rfl (by decide) (fun _ h=>h) ?_;exact dY (s.aT.length - (i+1)) ⟨i+1,hlt,rfl,rfl,rfl,rfl⟩
 ·obtain rfl:i=s.aT.length:=by omega
  refine aA ?_;refine nG ?_;refine dP [] [] [0] (by simp) rfl (by decide) (by decide) fun q _ _ hfr=>?_;exact eK rfl rfl rfl fun w1 t=>⟨⟨_,_,⟨w1,q.Z⟩,rfl,rfl,⟨⟨g2,gm⟩,rfl,by simp[qQ,nW]⟩,t.newR (by simp) (by simp) (hfr (by simp) (by simp))⟩,t.below (by simp)⟩
end
section
structure jB where
 id:Int
 wr:Bool
 bY:Int
 val:Int
def jB.cells(t:jB):List Value:=[iv t.id,.bool t.wr,iv t.bY,.int .u32 t.val]
def QH(v:Value):Option jB→HP
 | none=>Ou (∃A,v=.slice A 0 0)
 | some t=>HP.own 259 4 v 1 t.cells
structure BL where
 b:Nat
 gr:Nat
 gw:Nat
def iQ(ws:List (Option jB))(i:Nat):Nat:=if((ws[i]?).join).isSome then 1 else 0
def aEY(g n:Nat)(ws:List (Option jB)):HP:=HP.ex fun vs:List Value=>HP.many (HP.aE g 267 vs::Ou (vs.length=n)::(List.range n).map fun i=>QH (vs.getD i undef) (ws[i]?).join)
def zE(L:BL)(ms:List Int)(ws:List (Option jB))(aR:Int):HP:=HP.many [HP.aE L.b 270 [.slice (some ⟨L.gr,0,none⟩) ms.length ms.length,.slice (some ⟨L.gw,0,none⟩) ms.length ms.length,iv aR],HP.aE L.gr 3 (aK ms),aEY L.gw ms.length ws]
structure Iw(w:World)(L:BL)(ms:List Int)(ws:List (Option jB))(aR:Int):Prop where
 r0:eC w L.b 0 [.slice (some ⟨L.gr,0,none⟩) ms.length ms.length,.slice (some ⟨L.gw,0,none⟩) ms.length ms.length,iv aR]
 rg:eC w L.gr 0 (aK ms)
 wt:∀i,i < ms.length→∃A c,fK w L.gw i (.slice A (iQ ws i) c)
theorem Iw.below{w w':World}{L:BL}{ms:List Int}{ws:List (Option jB)}{aR:Int}(h:Iw w L ms ws aR)(hb:Below w.heap.size w w'):Iw w' L ms ws aR:=
 ⟨h.r0.below hb,h.rg.below hb,fun i hi=>by
  obtain⟨A,c,h1,h2⟩:=h.wt i hi
  exact⟨A,c,Nat.lt_of_lt_of_le h1 hb.size,(hb.cell (p:=⟨_,i,none⟩) h1).trans h2⟩⟩
theorem aK9{L:BL}{ms:List Int}{ws:List (Option jB)}{aR:Int}{F:Nat→Prop}{w:World}(h:(zE L ms ws aR).sat F w):Iw w L ms ws aR:=by
 obtain⟨G,g1,g2,_⟩:=h;refine⟨uT (g1 0 _ rfl).2,uT (g1 1 _ rfl).2,fun i hi=>?_⟩;obtain⟨vs,G',k1,_,_⟩:=g1 2 _ rfl
 have hb:=uT (k1 0 _ rfl).2
 have hl:vs.length=ms.length:=k1 1 _ rfl
 obtain⟨v,hv⟩:=get_some (l:=vs) (i:=i) (by omega)
 have hq:=k1 (i+2) (QH (vs.getD i undef) (ws[i]?).join) (by
  rw[List.getElem?_cons_succ,List.getElem?_cons_succ,List.getElem?_map,List.getElem?_range hi];rfl)
 rw[List.getD_eq_getElem?_getD,hv] at hq
 have hc:=hb.at_ hv
 rw[Nat.zero_add] at hc;unfold iQ;cases hj:(ws[i]?).join with
 | none=>
  rw[hj] at hq;obtain⟨A,hA⟩:∃A,v=.slice A 0 0:=hq;subst hA;exact⟨A,0,hc⟩
 | some t=>
  rw[hj] at hq;obtain⟨A,c,hA,_⟩:=uY (Y:=fun _=>True) hq (fun _ _=>trivial)
  have hA:v=.slice A 1 c:=hA
  subst hA;exact⟨A,c,hc⟩
section
variable{N:bZ}{w0 w:World}{e:Env}{R:List Piece}{H:List HP}{K:Act→World→Prop}{L:BL}{ms:List Int}{ws:List (Option jB)}{aR:Int}
theorem St.aJx(t:St w0 R H w)(i:Nat)(hi:H[i]? =some (zE L ms ws aR)):Iw w L ms ws aR:=by
 obtain⟨F,h1,h2,_⟩:=t.chunk hi;exact aK9 h1
end
theorem aBG(L:BL)(ms:List Int)(ws:List (Option jB))(aR:Int)(i:Int)(w:World)(hR:Iw w L ms ws aR):
  Cz 111 #[.pointer (some ⟨L.b,0,none⟩),iv i] w (Rt (.bool (bN ms.length i)) w):=by
 have k0:=hR.r0.at_ (j:=0) rfl
 refine aL func111 ntmps111 ?_;refine aA ?_;refine bU (t:=11) rfl (fun h=>?_) (fun h=>?_)
 ·refine aA ?_;refine jY (by simp) ?_;unfold bN
  congr 1
  simp;omega
 ·refine aA ?_;refine jY (by simp) ?_
  have:bN ms.length i=false:=decide_eq_false (by omega)
  rw[this]
theorem aJv(L:BL)(ms:List Int)(ws:List (Option jB))(aR:Int)(i:Nat)(hi:i < ms.length)(w:World)(hR:Iw w L ms ws aR):
  Cz 57 #[.pointer (some ⟨L.b,0,none⟩),iv (i:Int)] w (Rt (iv (iQ ws i:Nat)) w):=by
 have k1:=hR.r0.at_ (j:=1) rfl
 obtain⟨A,c,hw⟩:=hR.wt i hi
 have hin:bN ms.length (i:Int)=true:=decide_eq_true (by omega)
 refine aL func57 ntmps57 ?_;refine aA ?_;refine aU (fun w1 t=>aBG L ms ws aR i w1 (hR.below (t.below (by simp)))) ?_;rw[hin];refine aB ?_;exact dF
def aK8(ms:List Int)(v:Value)(hs:List HP)(_:Piece):Prop:=∃L:BL,v=.tuple #[.pointer (some ⟨L.b,0,none⟩),iv 0]∧hs=[zE L ms (ms.map fun _=>none) 0]
theorem aLi{N:bZ}{w0:World}{e:Env}{R:List Piece}{H:List HP}{K:Act→World→Prop}{g n:Nat}{β:Type}(l:List β)(hl:l.length=n)(i:Nat)(hi:H[i]? =some (HP.aE g 267 (List.replicate n (sn))))(h:XK N w0 K e R (H.set i (aEY g n (l.map fun _=>none)))):XK N w0 K e R H:=by
 refine Bh (q:=aEY g n (l.map fun _=>none)) i hi (fun F w hs=>⟨List.replicate n (sn),fun k b=>k=0∧F b,fun k p hk=>?_,fun k b h=>h.2,fun k j b hkj h1 h2=>by have:=h1.1;have:=h2.1;omega⟩) h
 match k,hk with
 | 0,hk=>
  simp at hk;subst hk
  show(HP.aE g 267 (List.replicate n (sn))).sat (fun b=>0=0∧F b) w
  rw[show(fun b=>0=0∧F b)=F by funext b;simp];exact hs
 | 1,hk=>cases hk;show(List.replicate n (Value.slice none 0 0)).length=n;simp
 | k + 2, hk =>
  rw[List.getElem?_cons_succ,List.getElem?_cons_succ,List.getElem?_map] at hk;cases hr:(List.range n)[k]? with
  | none=>rw[hr] at hk;cases hk
  | some j =>
   rw[hr] at hk
   have hj:j < n:=List.mem_range.1 (List.mem_of_getElem? hr)
   have:((l.map fun _=>(none:Option jB))[j]?).join=none:=by
    rw[List.getElem?_map];cases l[j]? <;>rfl
   simp only[Option.map_some,Option.some.injEq,this] at hk;subst hk;refine⟨none,?_⟩;rw[List.getD_eq_getElem?_getD,List.getElem?_replicate,if_pos hj];rfl
theorem aS8(ms:List Int)(hml:ms.length≤6)(hm:∀m∈ms,0≤m∧m≤8)(A:Option Addr)(c:Nat)(w:World)(hs:aI (all w) 1 A ms.length (aK ms)):
  Cz 74 #[.slice A ms.length c] w (fun y w'=>(∃v hs q,y=.returned v∧q.w=w'∧aK8 ms v hs q∧kA w hs q)∧Below w.heap.size w w'):=by
 refine aL func74 ntmps74 ?_;refine cO ?_;refine eB ?_;refine bH ?_;refine bH ?_;refine dO ?_;refine cO ?_;refine cO ?_;refine eB ?_;refine bH ?_;refine bH ?_;refine bH ?_;refine aB ?_;refine aG rfl (fun h=>absurd h (by omega)) (fun _=>?_);refine lU ?_;refine dW ?_;refine Sz (fun e R H=>∃gr gw g3,e=[(4,pt g3),(0,.slice A ms.length c)]∧R=[all w]∧H=[HP.aE g3 270 [.slice (some ⟨gr,0,none⟩) ms.length ms.length,.slice (some ⟨gw,0,none⟩) ms.length ms.length,iv 0],HP.aE gr 3 (List.replicate ms.length (iv 0)),HP.aE gw 267 (List.replicate ms.length (sn))]) ?_ ?_
 ·refine rB 6 (by kernel_rfl) (by kernel_rfl) ?_;refine bB 0 ?_;refine bB 1 ?_;refine bB 3 ?_;refine bB 4 ?_;refine Lc 2 5 rfl rfl (by kernel_rfl) ?_ ?_
  ·refine lX (n:=ms.length) 8 (el:=3) (z:=iv 0) (by kernel_rfl) (by kernel_rfl) rfl rfl rfl (by omega) (by omega) (by decide) fun gr=>?_;refine nS ?_;refine cE 5 ?_;refine lX (n:=ms.length) 24 (el:=267) (z:=sn) (by kernel_rfl) (by kernel_rfl) rfl rfl rfl (by omega) (by omega) (by decide) fun gw=>?_;refine nS ?_;refine cE 6 ?_;refine kd (fZ rfl) ?_;refine fA ?_;refine cE 7 ?_;refine bA fun g3=>?_;refine fA ?_;refine cE 8 ?_;refine bH ?_;refine fA ?_;refine kG ?_;refine dW ?_;exact pG ⟨gr,gw,g3,rfl,rfl,rfl⟩
  ·refine lX (n:=ms.length) 24 (el:=267) (z:=sn) (by kernel_rfl) (by kernel_rfl) rfl rfl rfl (by omega) (by omega) (by decide) fun gw=>?_;refine nS ?_;refine cE 2 ?_;refine lX (n:=ms.length) 8 (el:=3) (z:=iv 0) (by kernel_rfl) (by kernel_rfl) rfl rfl rfl (by omega) (by omega) (by decide) fun gr=>?_;refine nS ?_;refine cE 6 ?_;refine kd (fZ rfl) ?_;refine fA ?_;refine cE 7 ?_;refine bA fun g3=>?_;refine fA ?_;refine cE 8 ?_;refine bH ?_;refine fA ?_;refine kG ?_;refine dW ?_;exact pG ⟨gr,gw,g3,rfl,rfl,rfl⟩
 rintro _ _ _ ⟨gr,gw,g3,rfl,rfl,rfl⟩;refine aB ?_;refine bJ [(20,iv 0),(19,iv ms.length),(18,.slice A ms.length c),(4,pt g3)] ?_
 refine eI (fun m e R H=>∃i:Nat,i≤ms.length∧m=ms.length - i∧e=[(20,iv i),(19,iv ms.length),(18,.slice A ms.length c),(4,pt g3)]∧R=[all w]∧H=[HP.aE g3 270 [.slice (some ⟨gr,0,none⟩) ms.length ms.length,.slice (some ⟨gw,0,none⟩) ms.length ms.length,iv 0],HP.aE gr 3 (aK (lA ms (ms.map fun _=>0) i)),HP.aE gw 267 (List.replicate ms.length (sn))]) ms.length ⟨0,by omega,rfl,rfl,rfl,by
  rw[Vl]
  have:List.replicate ms.length (Value.int .i64 0)=aK (ms.map fun _=>0):=by
   refine List.ext_getElem? fun j=>?_;simp only[aK,List.map_map,List.getElem?_replicate,List.getElem?_map]
   by_cases h:j < ms.length
   ·rw[if_pos h,List.getElem?_eq_getElem h];rfl
   ·rw[if_neg h,List.getElem?_eq_none (by omega)];rfl
  rw[this]⟩ fun m e R H hI=>?_
 obtain⟨i,hi,rfl,rfl,rfl,rfl⟩:=hI
 have Wh:=Vn (vs:=ms) (old:=ms.map fun _=>0) (n:=ms.length) rfl (by simp) hi
 refine aB ?_;refine aG rfl (fun hlt=>?_) (fun hge=>?_)
 ·have hlt:i < ms.length:=by omega
  obtain⟨v,hv⟩:=get_some hlt
  have hvb:=hm v (List.mem_of_getElem? hv)
  obtain⟨b,off,hB,hz,hc⟩:=hs.2 (by omega);subst hB
  have hro:fK w b (off+i) (iv v):=⟨hz,hc i _ (by simp[aK,hv])⟩
  have iA:(aK (lA ms (ms.map fun _=>0) i)).length=ms.length:=by simp[aK,Wh]
  have iX:(aK (lA ms (ms.map fun _=>0) i)).set i (iv v)=aK (lA ms (ms.map fun _=>0) (i+1)):=by
   rw[←Vm (by simp) hv,aK,aK,List.map_set]
  refine aA ?_;refine kd (dat i (off+i)) ?_;refine aB ?_;refine bU (t:=27) rfl (fun h=>absurd h (by omega)) (fun _=>?_);refine aB ?_;refine aG rfl (fun h=>absurd h (by omega)) (fun _=>?_);refine aB ?_;rw[iX];refine aB ?_;exact dY (ms.length - (i+1)) ⟨i+1,hlt,rfl,rfl,rfl,rfl⟩
 ·obtain rfl:i=ms.length:=by omega
  rw[Vo rfl (by simp)];refine aB ?_;refine aLi ms rfl 2 rfl ?_;dsimp only[List.set];refine Zf ?_;refine dP [] [] [0] (by simp) rfl (by decide) (by decide) fun q _ _ hfr=>?_;exact eK rfl rfl rfl fun w1 t=>⟨⟨_,_,⟨w1,q.Z⟩,rfl,rfl,⟨⟨g3,gr,gw⟩,rfl,rfl⟩,t.newR (by simp) (by simp) (hfr (by simp) (by simp))⟩,t.below (by simp)⟩
end
section
structure aO where
 ck:List eP
 dm:List fD
 ln:List kH
 dv:List (cN×dK)
 wt:List (Option jB)
 aR:Int
def hw0(s:aD):aO:=⟨s.aF.map yS,s.domains.map fun _=>yR,s.aT.map fun _=>sM,s.aC.map fun d=>(Fk d,Pu),s.aC.map fun _=>none,0⟩
structure HL where
 h:Nat
 T:TL
 G:GL
 R:RL
 B:BL
 A:Option Addr
 c:Nat
 ds:List (FL×Nat)
def Km(d:bO)(l:FL×Nat):List Value:=[iv d.clock,iv d.domain,iv d.reset,.int .u32 d.iT,.pointer (some ⟨l.1.f,0,none⟩),.pointer (some ⟨l.2,0,none⟩)]
def wW(ds:List bO)(ls:List (FL×Nat)):List (List Value):=List.zipWith Km ds ls
def Rz(d:bO)(p:(FL×Nat)×(cN×dK)):HP:=HP.many [iF p.1.1 d p.2.1,uZ p.1.2 p.2.2]
def yQ(ds:List bO)(ls:List (FL×Nat))(xs:List (cN×dK)):List HP:=List.zipWith Rz ds (ls.zip xs)
def kJ(s:aD):List Int:=s.aC.map fun d=>(d.aP.length:Int)
def Wy(L:HL)(n:Nat):List Value:=[.pointer (some ⟨L.T.t,0,none⟩),.pointer (some ⟨L.G.t,0,none⟩),.pointer (some ⟨L.R.t,0,none⟩),.pointer (some ⟨L.B.b,0,none⟩),.slice L.A n L.c]
def dS(L:HL)(s:aD)(x:aO):HP:=HP.many [HP.aE L.h 113 (Wy L s.aC.length),rF L.T s x.ck,wE L.G s x.dm,qQ L.R s x.ln,zE L.B (kJ s) x.wt x.aR,HP.own 106 6 (.slice L.A s.aC.length L.c) s.aC.length (wW s.aC L.ds).flatten,HP.many (yQ s.aC L.ds x.dv)]
def aKv(s:aD)(v:Value)(hs:List HP)(_:Piece):Prop:=∃L:HL,v=.tuple #[.pointer (some ⟨L.h,0,none⟩),iv 0]∧hs=[dS L s (hw0 s)]∧L.T.fa.length=s.aF.length∧L.ds.length=s.aC.length
theorem Gq(s:aD):(kJ s).length=s.aC.length:=by simp[kJ]
theorem aRc{ds:List bO}{i:Nat}{d:bO}(hd:ds[i]? =some d){ls:List (FL×Nat)}(hl:ls.length=i)(l:FL×Nat):yQ (ds.take (i+1)) (ls++[l]) ((ds.take (i+1)).map fun d=>(Fk d,Pu))=yQ (ds.take i) ls ((ds.take i).map fun d=>(Fk d,Pu))++[Rz d (l,(Fk d,Pu))]:=by
 have hlt:i < ds.length:=Ai hd
 rw[List.take_succ,hd,Option.toList_some,List.map_append];unfold yQ;rw[List.zip_append (by simp;omega),List.zipWith_append (by simp;omega)];rfl
theorem aRb{ds:List bO}{i:Nat}{d:bO}(hd:ds[i]? =some d){ls:List (FL×Nat)}(hl:ls.length=i)(l:FL×Nat):(wW (ds.take (i+1)) (ls++[l])).flatten=(wW (ds.take i) ls).flatten++Km d l:=by
 have hlt:i < ds.length:=Ai hd
 rw[List.take_succ,hd,Option.toList_some];unfold wW;rw[List.zipWith_append (by simp;omega),List.flatten_append];simp
theorem uV{N:bZ}{w0:World}{e:Env}{R:List Piece}{H:List HP}{K:Act→World→Prop}{p:HP}{ps:List HP}(h:XK N w0 K e R (HP.many (ps++[p])::H)):XK N w0 K e R (HP.many ps::p::H):=fun a w hr st=>
 (Zg (ps:=ps) (p:=p) h) a w hr (st.weak (fun _ h=>h) (fun i=>match i with
  | 0=>1
  | 1=>0
  | i+2=>i+2) (fun i j _ _ he=>by
   match i,j with
   | 0,0=>rfl
   | 0,1=>simp at he
   | 0,j+2=>simp at he
   | 1,0=>simp at he
   | 1,1=>rfl
   | 1,j+2=>simp at he
   | i+2,0=>simp at he
   | i+2,1=>simp at he
   | i+2,j+2=>simpa using he) (fun i p hi=>by
   match i,hi with
   | 0,hi=>simpa using hi
   | 1,hi=>simpa using hi
   | i+2,hi=>simpa using hi))
theorem aTo{N:bZ}{w0:World}{e:Env}{R:List Piece}{H:List HP}{K:Act→World→Prop}(h:XK N w0 K e R (HP.many []::H)):XK N w0 K e R H:=Bm (p:=HP.many []) (fun w=>⟨fun _ _=>False,fun i p hp=>by simp at hp,fun _ _ h=>h,fun _ _ _ _ h=>h.elim⟩) h
theorem aPQ(s:aD)(hH:s.dG)(A1 A2 A3 A4:Option Addr)(n1 k1 n2 k2 n3 k3 n4 k4:Nat)(w:World)(hW:fE w s A1 n1 A2 n2 A3 n3 A4 n4):
  Cz 34 #[.agg #[.slice A1 n1 k1,.slice A2 n2 k2,.slice A3 n3 k3,.slice A4 n4 k4]] w (fun y w'=>(∃v hs q,y=.returned v∧q.w=w'∧aKv s v hs q∧kA w hs q)∧Below w.heap.size w w'):=by
 have nB:=hH.t.nv
 obtain⟨rv,Qu,qX,vQ⟩:=hW.dev;obtain⟨da,iY,rfl,hda⟩:=aEv Qu;subst qX;refine aL func34 ntmps34 ?_;refine aB ?_;refine bA fun g1=>?_;refine aB ?_;refine aU (fun w1 t=>Sk s A1 A2 A3 A4 n1 k1 n2 k2 n3 k3 _ k4 w1 (hW.le (t.started (by simp))) hH.t.Sj) ?_;refine aB ?_;refine iW (aKc s) (fun w1 t=>aSg s hH A1 A2 A3 A4 n1 k1 n2 k2 n3 k3 _ k4 w1 (hW.le (t.started (by simp)))) ?_;rintro _ _ q1 ⟨LT,rfl,rfl,hfa⟩ _;dsimp only[List.cons_append,List.nil_append];refine aB ?_;refine iW (aK1 s) (fun w1 t=>aN0 s hH A1 A2 A3 A4 n1 k1 n2 k2 n3 k3 _ k4 w1 (hW.le (t.started (by simp)))) ?_;rintro _ _ q2 ⟨LG,rfl,rfl⟩ _;dsimp only[List.cons_append,List.nil_append];refine aB ?_;refine iW (aKs s) (fun w1 t=>aMl s hH A1 A2 A3 A4 n1 k1 n2 k2 n3 k3 _ k4 w1 (hW.le (t.started (by simp)))) ?_;rintro _ _ q3 ⟨LR,rfl,rfl⟩ _;dsimp only[List.cons_append,List.nil_append];refine aB ?_;refine bA fun g2=>?_;refine aB ?_;refine lX (n:=s.aC.length) 8 (el:=3) (z:=iv 0) (by kernel_rfl) (by kernel_rfl) rfl rfl rfl (by omega) (by omega) (by decide) fun gm=>?_;refine aB ?_;refine iO 106 6 ?_;refine aTo ?_;refine aY [0,1,2,3,4,5,6] rfl (by decide) (R':=[all w]) (by simp) ?_;refine bJ [(56,iv 0),(55,iv s.aC.length),(54,.slice A4 s.aC.length k4),(10,.slice (some ⟨gm,0,none⟩) s.aC.length s.aC.length),(9,pt g2)] ?_;refine eI (fun m e R H=>∃(i:Nat) (A:Option Addr) (c:Nat) (ls:List (FL×Nat)),i≤s.aC.length∧ls.length=i∧m=s.aC.length - i∧e=[(56,iv i),(55,iv s.aC.length),(54,.slice A4 s.aC.length k4),(10,.slice (some ⟨gm,0,none⟩) s.aC.length s.aC.length),(9,pt g2)]∧R=[all w]∧H=[HP.many (yQ (s.aC.take i) ls ((s.aC.take i).map fun d=>(Fk d,Pu))),HP.own 106 6 (.slice A i c) i (wW (s.aC.take i) ls).flatten,HP.aE gm 3 (aK (lA (kJ s) ((kJ s).map fun _=>0) i)),HP.aE g2 113 [.pointer (some ⟨LT.t,0,none⟩),.pointer (some ⟨LG.t,0,none⟩),.pointer (some ⟨LR.t,0,none⟩),.pointer none,.slice A i c],qQ LR s (hw0 s).ln,wE LG s (hw0 s).dm,rF LT s (hw0 s).ck]) s.aC.length ⟨0,none,0,[],by omega,rfl,rfl,rfl,rfl,?_⟩ fun m e R H hI=>?_
 ·have:List.replicate s.aC.length (Value.int .i64 0)=aK (lA (kJ s) ((kJ s).map fun _=>0) 0):=by
   rw[Vl];refine List.ext_getElem? fun j=>?_;simp only[aK,kJ,List.map_map,List.getElem?_replicate,List.getElem?_map]
   by_cases h:j < s.aC.length
   ·rw[if_pos h,List.getElem?_eq_getElem h];rfl
   ·rw[if_neg h,List.getElem?_eq_none (by omega)];rfl
  rw[this];rfl
 obtain⟨i,A,c,ls,hi,pO,rfl,rfl,rfl,rfl⟩:=hI
 have hml:=Gq s
 have Wh:=Vn (vs:=kJ s) (old:=(kJ s).map fun _=>0) (n:=s.aC.length) hml (by simp[kJ]) hi
 refine aB ?_;refine aG rfl (fun hlt=>?_) (fun hge=>?_)
 ·have hlt:i < s.aC.length:=by omega
  obtain⟨d,hd⟩:=get_some hlt;obtain⟨⟨a1,a2⟩,ha⟩:=get_some (l:=da) (i:=i) (by omega);obtain⟨aDE,aIc⟩:=hda i d _ hd ha
  have hfit:=hH.t.aC i d hd
  obtain⟨b,off,hB,hro⟩:=aI.row vQ (aAc (f:=Bd) (es:=s.aC) (bs:=da) (sz:=6) iY (fun _ _=>rfl)).2 (Tt (f:=Bd) hd ha) hlt;subst hB;refine aA ?_;refine kd (dat i (off+i*6)) ?_;refine aB ?_;refine bR fun g3=>?_
  have hmi:(kJ s)[i]? =some (d.aP.length:Int):=by rw[kJ,List.getElem?_map,hd];rfl
  have iA:(aK (lA (kJ s) ((kJ s).map fun _=>0) i)).length=s.aC.length:=by simp[aK,Wh]
  have iX:(aK (lA (kJ s) ((kJ s).map fun _=>0) i)).set i (iv d.aP.length)=aK (lA (kJ s) ((kJ s).map fun _=>0) (i+1)):=by
   rw[←Vm (by simp) hmi,aK,aK,List.map_set]
  refine aB ?_;refine iW (aK5 d) (fun w1 t=>aMK d (by have:=hfit.2.2.2.2.2.2.2.2.1;omega) (fun r hr=>by have:=hfit.2.2.2.2.2.2.2.2.2.1 r hr;omega) a1.1 a1.2 w1 (aI.le aDE (t.le (by simp)))) ?_;rintro _ _ q1 ⟨LF,rfl,rfl⟩ _;dsimp only[List.cons_append,List.nil_append];refine aB ?_;refine aU (fun w1 t=>Uw LF d (Fk d) w1 (t.aEm 0 rfl)) ?_;refine aB ?_;rw[iX];refine aA ?_;refine jL [2,3,4,5,6,7,8,9,10,11,12] ?_;refine bP 0 ?_;refine bP 1 ?_;refine bP 13 ?_;refine aJ 2 ?_;refine aJ 3 ?_;refine aJ 4 ?_;refine aJ 5 ?_;refine aJ 6 ?_;refine aJ 7 ?_;refine aJ 8 ?_;refine aJ 9 ?_;refine aJ 10 ?_;refine aJ 11 ?_;refine aJ 12 ?_;refine aM 14 ?_;refine iW (fun v hs _=>∃g,v=pt g∧hs=[HP.aE g 266 [iv 0,iv 0]]) (fun w1 t=>aNq w1) ?_;rintro _ _ q2 ⟨gq,rfl,rfl⟩ _;dsimp only[List.cons_append,List.nil_append];refine bL ?_;refine aM 15 ?_;refine kd (fZ rfl) ?_;refine bL ?_;refine aM 16 ?_;refine eL fun g4=>?_;refine bL ?_ (hS:=fun _ h=>h.tail.aZ.tail);refine aM 17 ?_;refine gH 5 6 48 1 (n':=i+1) (el:=106) (by kernel_rfl) (by kernel_rfl) (by decide) rfl rfl rfl (nJ 0 rfl rfl) (by simp[Value.oneCell']) rfl (by omega) (by omega) (by decide) fun An cn=>?_;dsimp only[List.set];refine cX ?_;refine aM 18 ?_;refine bH ?_;refine cX ?_;refine aM 19 ?_;refine bH ?_;refine cX ?_;refine aM 20 ?_;refine fG rfl rfl ?_;dsimp only[List.set];refine cX ?_;refine fJ ?_;refine aA ?_;refine aY [2,1,4,5,6,7,8,9,10] rfl (by decide) (R':=[all w]) (by simp) ?_;refine nG ?_;refine Zg ?_;refine bJ [(56,iv (i+1:Nat)),(55,iv s.aC.length),(54,.slice (some ⟨b,off,none⟩) s.aC.length k4),(10,.slice (some ⟨gm,0,none⟩) s.aC.length s.aC.length),(9,pt g2)] ?_;exact iC (s.aC.length - (i+1)) (by omega) ⟨i+1,An,cn,ls++[(LF,gq)],hlt,by simp;omega,rfl,rfl,rfl,by rw[aRc hd pO,aRb hd pO];rfl⟩
 ·obtain rfl:i=s.aC.length:=by omega
  rw[Vo hml (by simp[kJ])];rw[List.take_length];refine aB ?_
  refine iW (aK8 (kJ s)) (fun w1 t=>by
   have:=aS8 (kJ s) (by omega) (fun m hm=>by
    obtain⟨d,hd,rfl⟩:=List.mem_map.1 hm;obtain⟨j,hj⟩:=List.getElem?_of_mem hd
    have:=(hH.t.aC j d hj).2.2.2.2.2.2.2.2.1
    omega) (some ⟨gm,0,none⟩) s.aC.length w1
   rw[hml] at this
   exact this (t.rN (i:=2) rfl (by simp[aK,hml]))) ?_
  rintro _ _ q1 ⟨LB,rfl,rfl⟩ _;dsimp only[List.cons_append,List.nil_append];refine aB ?_;refine aY [4,7,6,5,0,2,1] rfl (by decide) (R':=[all w]) (by simp) ?_;refine nG ?_;refine uV ?_;refine uV ?_;refine uV ?_;refine uV ?_;refine uV ?_;dsimp only[List.cons_append,List.nil_append];refine dP [] [] [0] (by simp) rfl (by decide) (by decide) fun q _ _ hfr=>?_;exact eK rfl rfl rfl fun w1 t=>⟨⟨_,_,⟨w1,q.Z⟩,rfl,rfl,⟨⟨g2,LT,LG,LR,LB,A,c,ls⟩,rfl,by simp[dS,Wy,hw0,kJ,Function.comp_def],hfa,pO⟩,t.newR (by simp) (by simp) (hfr (by simp) (by simp))⟩,t.below (by simp)⟩
end
section
structure cF(s:aD)(x:aO):Prop where
 ck:qS s x.ck
 dm:vB s x.dm
 ln:Ga s x.ln
 dv:x.dv.length=s.aC.length
 each:∀(i:Nat) (d:bO) (p:cN×dK),s.aC[i]? =some d→x.dv[i]? =some p→zA d p.1∧Bt p.2
 wt:x.wt.length=s.aC.length
structure gX(L:HL)(s:aD):Prop where
 fa:L.T.fa.length=s.aF.length
 ds:L.ds.length=s.aC.length
structure sX(w:World)(L:HL)(s:aD)(x:aO):Prop where
 r0:eC w L.h 0 (Wy L s.aC.length)
 tree:xD w L.T s x.ck
 aEe:aK0 w L.G s x.dm
 lines:Lh w L.R s x.ln
 bus:Iw w L.B (kJ s) x.wt x.aR
 rows:aI (all w) 6 L.A s.aC.length (wW s.aC L.ds).flatten
 each:∀(i:Nat) (d:bO) (l:FL×Nat) (p:cN×dK),s.aC[i]? =some d→L.ds[i]? =some l→x.dv[i]? =some p→Dt w l.1 d p.1∧eC w l.2 0 (Tn p.2)
theorem sX.below{w w':World}{L:HL}{s:aD}{x:aO}(h:sX w L s x)(hb:Below w.heap.size w w'):sX w' L s x:=
 ⟨h.r0.below hb,h.tree.below hb,Dm.below h.aEe hb,h.lines.below hb,h.bus.below hb,h.rows.le (jR hb),fun i d l p h1 h2 h3=>⟨(h.each i d l p h1 h2 h3).1.below hb,(h.each i d l p h1 h2 h3).2.below hb⟩⟩
theorem aFl{L:HL}{s:aD}{x:aO}{F:Nat→Prop}{w:World}(h:(dS L s x).sat F w)(hF:∀b,F b→b < w.heap.size)(hL:gX L s)(hok:cF s x):sX w L s x:=by
 obtain⟨G,g1,g2,_⟩:=h
 have hl:∀i b,G i b→b < w.heap.size:=fun i b hb=>hF b (g2 i b hb)
 obtain⟨A',c',he,hs⟩:=uY (Y:=fun b=>b < w.heap.size) (g1 5 _ rfl) (hl 5)
 injection he with he
 subst he;refine⟨uT (g1 0 _ rfl).2,aKd (g1 1 _ rfl) (hl 1) hL.fa hok.ck,aKl (g1 2 _ rfl) (hl 2),aKt (g1 3 _ rfl),aK9 (g1 4 _ rfl),hs,fun i d l p h1 h2 h3=>?_⟩;obtain⟨G',k1,k2,_⟩:=g1 6 _ rfl
 have hz:(yQ s.aC L.ds x.dv)[i]? =some (Rz d (l,p)):=by
  have hq:(L.ds.zip x.dv)[i]? =some (l,p):=List.getElem?_zip_eq_some.2 ⟨h2,h3⟩
  rw[yQ,List.getElem?_zipWith,h1,hq]
 have hj:∀b,G' i b→b < w.heap.size:=fun b hb=>hl 6 b (k2 i b hb)
 obtain⟨G2,m1,m2,_⟩:=k1 i _ hz;exact⟨aAa (m1 0 _ rfl) (fun b hb=>hj b (m2 0 b hb)),uT (m1 1 _ rfl).2⟩
section
variable{N:bZ}{w0 w:World}{e:Env}{R:List Piece}{H:List HP}{K:Act→World→Prop}{L:HL}{s:aD}{x:aO}
theorem St.nD(t:St w0 R H w)(i:Nat)(hi:H[i]? =some (dS L s x))(hL:gX L s)(hok:cF s x):sX w L s x:=by
 obtain⟨F,h1,h2,_⟩:=t.chunk hi;exact aFl h1 h2 hL hok
end
section
variable(L:HL)(s:aD)(x:aO)(w:World)
theorem Cx(hR:sX w L s x):Cz 54 #[.pointer (some ⟨L.h,0,none⟩)] w (Rt (.bool true) w):=by
 have k0:=hR.r0.at_ (j:=0) rfl
 have k1:=hR.r0.at_ (j:=1) rfl
 have k2:=hR.r0.at_ (j:=2) rfl
 have k3:=hR.r0.at_ (j:=3) rfl
 refine aL func54 ntmps54 ?_;refine aA ?_;exact dF
theorem Rh(i:Int)(hR:sX w L s x):Cz 40 #[.pointer (some ⟨L.h,0,none⟩),iv i] w (Rt (.bool (bN s.aC.length i)) w):=by
 have k0:=hR.r0.at_ (j:=4) rfl
 refine aL func40 ntmps40 ?_;refine aA ?_;refine aU (fun w1 t=>Cx L s x w1 (hR.below (t.below (by simp)))) ?_;refine aA ?_;refine bU (t:=11) rfl (fun h=>?_) (fun h=>?_)
 ·refine aA ?_;refine jY (by simp) ?_;unfold bN
  congr 1
  simp;omega
 ·refine aA ?_;refine jY (by simp) ?_
  have:bN s.aC.length i=false:=decide_eq_false (by omega)
  rw[this]
theorem aP7(i:Nat)(hi:i < s.aC.length)(hR:sX w L s x):Cz 97 #[.pointer (some ⟨L.h,0,none⟩),iv (i:Int)] w (Rt (iv (iQ x.wt i:Nat)) w):=by
 have k0:=hR.r0.at_ (j:=3) rfl
 have hin:bN s.aC.length (i:Int)=true:=decide_eq_true (by omega)
 refine aL func97 ntmps97 ?_;refine aA ?_;refine aU (fun w1 t=>Rh L s x w1 i (hR.below (t.below (by simp)))) ?_;rw[hin];refine aA ?_;refine aU (fun w1 t=>aJv L.B (kJ s) x.wt x.aR i (by rw[Gq];exact hi) w1 (hR.bus.below (t.below (by simp)))) ?_;refine aA ?_;exact dF
theorem aDT(hok:vB s x.dm)(i:Int)(hR:sX w L s x):Cz 173 #[.pointer (some ⟨L.h,0,none⟩),iv i] w (Rt (.int .u8 (qD x.dm i)) w):=by
 have k0:=hR.r0.at_ (j:=1) rfl
 refine aL func173 ntmps173 ?_;refine aA ?_;refine aU (fun w1 t=>Cx L s x w1 (hR.below (t.below (by simp)))) ?_;refine aA ?_;refine aU (fun w1 t=>aGX L.G s x.dm hok i w1 (Dm.below hR.aEe (t.below (by simp)))) ?_;refine aA ?_;exact dF
theorem aPB(i:Int)(hR:sX w L s x):Cz 181 #[.pointer (some ⟨L.h,0,none⟩),iv i] w (Rt (.bool (Aj x.ln i)) w):=by
 have k0:=hR.r0.at_ (j:=2) rfl
 refine aL func181 ntmps181 ?_;refine aA ?_;refine aU (fun w1 t=>Cx L s x w1 (hR.below (t.below (by simp)))) ?_;refine aA ?_;refine aU (fun w1 t=>aGy L.R s x.ln i w1 (hR.lines.below (t.below (by simp)))) ?_;refine aA ?_;exact dF
end
end
section
theorem aHM{s:aD}(h:s.dG):cF s (hw0 s):=by
 refine⟨⟨by simp[hw0],fun x hx=>?_⟩,⟨by simp[hw0],fun x hx=>?_,fun x hx=>?_⟩,⟨by simp[hw0],fun x hx=>?_⟩,by simp[hw0],fun i d p hd hp=>?_,by simp[hw0]⟩
 ·obtain⟨c,hc,rfl⟩:=List.mem_map.1 hx;obtain⟨i,hi⟩:=List.getElem?_of_mem hc
  have:=(h.t.aF i c hi).2
  unfold yS;dsimp only;split
  ·omega
  ·omega
 ·obtain⟨c,hc,rfl⟩:=List.mem_map.1 hx;simp[yR]
 ·obtain⟨c,hc,rfl⟩:=List.mem_map.1 hx;simp[yR]
 ·obtain⟨c,hc,rfl⟩:=List.mem_map.1 hx;simp[sM]
 ·simp only[hw0,List.getElem?_map,hd,Option.map_some] at hp;cases hp
  have hf:=h.t.aC i d hd
  refine⟨⟨by simp[Fk],by simp[Fk],fun v hv=>?_,fun v hv=>?_⟩,by simp[Bt,Pu]⟩
  ·obtain⟨r,hr,rfl⟩:=List.mem_map.1 hv
   have:=hf.2.2.2.2.2.2.2.2.2.1 r hr
   omega
  ·simp only[Fk,List.mem_map] at hv;obtain⟨r,_,rfl⟩:=hv;omega
theorem aCs{s:aD}(h:s.wQ):(dQ s).sm:=by
 have h1:=h.nc
 have h2:=h.nd
 have h3:=h.nr
 exact⟨by simp[dQ];omega,by simp[dQ];omega,by simp[dQ];omega⟩
end
section
theorem xY{α:Type}{l:List α}{i:Nat}{x:α}(h:l[i]? =some x):l.set i x=l:=by
 refine List.ext_getElem? fun j=>?_;rw[List.getElem?_set]
 by_cases he:i=j
 ·subst he;rw[if_pos rfl,if_pos (List.getElem?_eq_some_iff.1 h).1,h]
 ·rw[if_neg he]
def uG(s:aD)(st:List eP)(i:Nat):List Value:=(List.range s.aF.length).map fun j=>.bool (decide (j < i)&&runs s st j)
theorem aNm(s:aD)(st:List eP):List.replicate s.aF.length (Value.bool false)=uG s st 0:=by
 refine List.ext_getElem? fun j=>?_;rw[uG,List.getElem?_replicate,List.getElem?_map]
 by_cases hl:j < s.aF.length
 ·rw[List.getElem?_range hl];simp[hl]
 ·rw[List.getElem?_eq_none (l:=List.range s.aF.length) (by simp;omega)];simp[hl]
theorem aNn(s:aD)(st:List eP)(i:Nat):(uG s st i).set i (.bool (runs s st i))=uG s st (i+1):=by
 refine List.ext_getElem? fun j=>?_;simp only[uG,List.getElem?_set,List.getElem?_map,List.length_map,List.length_range]
 by_cases he:i=j
 ·subst he
  by_cases hl:i < s.aF.length
  ·rw[if_pos rfl,if_pos hl,List.getElem?_range hl];simp
  ·rw[if_pos rfl,if_neg hl,List.getElem?_eq_none (by simp;omega)];rfl
 ·rw[if_neg he]
  by_cases hl:j < s.aF.length
  ·rw[List.getElem?_range hl]
   have:decide (j < i)=decide (j < i+1):=by simp;omega
   simp[this]
  ·rw[List.getElem?_eq_none (by simp;omega)];rfl
theorem aNo{s:aD}{st:List eP}{j:Nat}(h:j < s.aF.length):(uG s st s.aF.length)[j]? =some (.bool (runs s st j)):=by
 simp[uG,h]
def qE(s:aD)(st:List eP)(i:Nat):List eP:=(lN s st).take i++st.drop i
theorem aOu(s:aD)(st:List eP):qE s st 0=st:=by simp[qE]
theorem aOy{s:aD}{st:List eP}(hok:qS s st):qE s st s.aF.length=lN s st:=by
 have hl:=hok.len
 rw[qE,List.drop_eq_nil_of_le (by omega),List.append_nil,List.take_of_length_le (by simp[lN];omega)]
theorem aOx{s:aD}{st:List eP}(hok:qS s st){i:Nat}(hi:i < s.aF.length):(qE s st i)[i]? =st[i]? :=by
 have hl:=hok.len
 have:((lN s st).take i).length=i:=by simp[lN];omega
 rw[qE,List.getElem?_append_right (by omega),this,Nat.sub_self,List.getElem?_drop,Nat.add_zero]
theorem aDq{s:aD}{st:List eP}(hok:qS s st){i:Nat}(hi:i≤s.aF.length):(qE s st i).length=s.aF.length:=by
 have hl:=hok.len
 simp[qE,lN];omega
theorem aOv{s:aD}{st:List eP}(hok:qS s st){i:Nat}{c:eF}{x:eP}(hc:s.aF[i]? =some c)(hx:st[i]? =some x):(qE s st i).set i (vG s st c x)=qE s st (i+1):=by
 have hl:=hok.len
 have hi:=(List.getElem?_eq_some_iff.1 hc).1
 have ht:(lN s st)[i]? =some (vG s st c x):=by rw[lN,List.getElem?_zipWith,hc,hx]
 have nO:(lN s st).length=s.aF.length:=by simp[lN];omega
 refine List.ext_getElem? fun j=>?_;rw[List.getElem?_set]
 by_cases he:i=j
 ·subst he;rw[if_pos rfl,if_pos (by rw[aDq hok (by omega)];exact hi),qE,List.getElem?_append_left (by rw[List.length_take];omega),List.getElem?_take_of_lt (by omega),ht]
 ·rw[if_neg he,qE,qE];rcases Nat.lt_or_ge j i with hj | hj
  ·rw[List.getElem?_append_left (by rw[List.length_take];omega),List.getElem?_append_left (by rw[List.length_take];omega),List.getElem?_take_of_lt hj,List.getElem?_take_of_lt (by omega)]
  ·rw[List.getElem?_append_right (by rw[List.length_take];omega),List.getElem?_append_right (by rw[List.length_take];omega),List.getElem?_drop,List.getElem?_drop,List.length_take,List.length_take]
   congr 1
   omega
theorem aLs{s:aD}{st:List eP}(hH:s.dG)(hok:qS s st){i:Nat}{c:eF}{x:eP}(hc:s.aF[i]? =some c)(hx:x∈st):0≤(vG s st c x).left∧(vG s st c x).left≤3:=by
 have h1:=hok.left x hx
 have h2:=(hH.t.aF i c hc).2
 have h3:0≤c.lock∧c.lock≤3:=by omega
 unfold vG;split
 ·split
  ·exact h3
  ·split
   ·dsimp only;omega
   ·exact h1
 ·exact h1
theorem aCF{s:aD}{st:List eP}(hH:s.dG)(hok:qS s st):qS s (lN s st):=by
 have hl:=hok.len
 refine⟨by simp[lN];omega,fun x hx=>?_⟩;obtain⟨j,hj⟩:=List.getElem?_of_mem hx;rw[lN,List.getElem?_zipWith] at hj;cases hc:s.aF[j]? with
 | none=>rw[hc] at hj;cases hj
 | some c =>
  cases hy:st[j]? with
  | none=>rw[hc,hy] at hj;cases hj
  | some y=>
   rw[hc,hy] at hj;cases hj;exact aLs hH hok hc (List.mem_of_getElem? hy)
theorem aOw{s:aD}{st:List eP}(hH:s.dG)(hok:qS s st){i:Nat}(hi:i≤s.aF.length):qS s (qE s st i):=⟨aDq hok hi,fun x hx=>by
 rcases List.mem_append.1 hx with h | h
 ·exact(aCF hH hok).left x (List.mem_of_mem_take h)
 ·exact hok.left x (List.mem_of_mem_drop h)⟩
theorem aSc(L:TL)(s:aD)(st:List eP)(hH:s.dG)(hfl:L.fa.length=s.aF.length)(hok:qS s st)(w:World)(F:Nat→Prop)(hp:(rF L s st).sat F w)(hF:∀b,F b→b < w.heap.size):
  Cz 58 #[.pointer (some ⟨L.t,0,none⟩)] w (Wr (.tuple #[]) (rF L s (lN s st)) w F):=by
 have hnc:=hH.t.nc
 have hl:=hok.len
 refine dJ func58 ntmps58 hp hF ?_
 have aDG:Rd w [⟨w,fun b=>b < w.heap.size∧¬F b⟩] [rF L s st] L.t 0 (.slice L.A s.aF.length L.c):=Rd.tree 0 rfl hfl hok
 refine aA ?_;refine lX (n:=s.aF.length) 1 (el:=4) (z:=.bool false) (by kernel_rfl) (by kernel_rfl) rfl rfl rfl (by omega) (by omega) (by decide) fun g1=>?_
 have aUg:Rd w [⟨w,fun b=>b < w.heap.size∧¬F b⟩] [HP.aE g1 4 (List.replicate s.aF.length (.bool false)),rF L s st] L.t 0 (.slice L.A s.aF.length L.c):=Rd.tree 1 rfl hfl hok
 refine aA ?_;rw[aNm s st];refine bJ [(19,iv 0),(18,iv s.aF.length),(2,.slice (some ⟨g1,0,none⟩) s.aF.length s.aF.length),(0,.pointer (some ⟨L.t,0,none⟩))] ?_;refine eI (fun m e R H=>∃i:Nat,i≤s.aF.length∧m=s.aF.length - i∧e=[(19,iv i),(18,iv s.aF.length),(2,.slice (some ⟨g1,0,none⟩) s.aF.length s.aF.length),(0,.pointer (some ⟨L.t,0,none⟩))]∧R=[⟨w,fun b=>b < w.heap.size∧¬F b⟩]∧H=[HP.aE g1 4 (uG s st i),rF L s st]) s.aF.length ⟨0,by omega,rfl,rfl,rfl,rfl⟩ fun m e R H hI=>?_;obtain⟨i,hi,rfl,rfl,rfl,rfl⟩:=hI;refine aA ?_;refine aG rfl (fun hlt=>?_) (fun hge=>?_)
 ·have hlt:i < s.aF.length:=by omega
  have kK:(uG s st i).length=s.aF.length:=by simp[uG]
  refine aA ?_;refine aU (fun w1 t=>Yp L s st hH i w1 (t.aCD 1 rfl hfl hok)) ?_;rw[show qB s st (i:Int)=runs s st i by simp[qB,bN,hlt]];refine aB ?_;rw[aNn];exact dY (s.aF.length - (i+1)) ⟨i+1,hlt,rfl,rfl,rfl,rfl⟩
 ·obtain rfl:i=s.aF.length:=by omega
  have aUf:Rd w [⟨w,fun b=>b < w.heap.size∧¬F b⟩] [HP.aE g1 4 (uG s st s.aF.length),rF L s st] L.t 0 (.slice L.A s.aF.length L.c):=Rd.tree 1 rfl hfl hok
  refine aA ?_;refine bJ [(34,iv 0),(33,iv s.aF.length),(2,.slice (some ⟨g1,0,none⟩) s.aF.length s.aF.length),(0,.pointer (some ⟨L.t,0,none⟩))] ?_;refine eI (fun m e R H=>∃i:Nat,i≤s.aF.length∧m=s.aF.length - i∧e=[(34,iv i),(33,iv s.aF.length),(2,.slice (some ⟨g1,0,none⟩) s.aF.length s.aF.length),(0,.pointer (some ⟨L.t,0,none⟩))]∧R=[⟨w,fun b=>b < w.heap.size∧¬F b⟩]∧H=[HP.aE g1 4 (uG s st s.aF.length),rF L s (qE s st i)]) s.aF.length ⟨0,by omega,rfl,rfl,rfl,by rw[aOu]⟩ fun m e R H hI=>?_;obtain⟨i,hi,rfl,rfl,rfl,rfl⟩:=hI;refine aA ?_;refine aG rfl (fun hlt=>?_) (fun hge=>?_)
  ·have hlt:i < s.aF.length:=by omega
   obtain⟨c,hc⟩:=get_some hlt;obtain⟨a,ha⟩:=get_some (l:=L.fa) (i:=i) (by omega);obtain⟨x,hx⟩:=get_some (l:=st) (i:=i) (by omega)
   have Wg:=aOw hH hok hi
   have hml:=aDq hok hi
   have Ka:(qE s st i)[i]? =some x:=by rw[aOx hok hlt];exact hx
   obtain⟨iK,iJ⟩:=aDk hfl Wg
   have Wi:=hok.left x (List.mem_of_getElem? hx)
   have kK:(uG s st s.aF.length).length=s.aF.length:=by simp[uG]
   have hpq:(kI s L.fa (qE s st i)).set i (sK c a (vG s st c x))=kI s L.fa (qE s st (i+1)):=by rw[aHk hc ha (by omega),aOv hok hc hx]
   refine aJS 1 rfl (by omega) fun g cs hA h1 h2 h3 h4=>?_;dsimp only[List.set];rw[hA]
   have hs:=Hq h2 iK iJ (Pw hc ha Ka)
   have hu:=vZ.refl cs (i*11) 11
   have hrd:Rd w [⟨w,fun b=>b < w.heap.size∧¬F b⟩] [HP.aE g 224 cs,HP.aE g1 4 (uG s st s.aF.length),HP.many [HP.aE L.t 227 [.slice (some ⟨g,0,none⟩) s.aF.length L.c],cG,HP.bT (tY s L.fa) (tY.le (s:=s) (fa:=L.fa))]] L.t 0 (.slice (some ⟨g,0,none⟩) s.aF.length L.c):=aTP 2 0 rfl rfl rfl
   refine aA ?_;refine kd (dat i (i*11)) ?_;obtain⟨hsrc,hfit⟩:=hH.t.aF i c hc;obtain⟨kd,src,rate,mul,dv,lock⟩:=c;obtain⟨on,left⟩:=x;dsimp only at hfit hsrc Wi;dsimp only[sK] at hs
   have Vz:kd≠112∨on=false→kI s L.fa (qE s st i)=kI s L.fa (qE s st (i+1)):=fun hh=>by
    rw[←hpq]
    have:vG s st ⟨kd,src,rate,mul,dv,lock⟩ ⟨on,left⟩=⟨on,left⟩:=by
     unfold vG;rw[if_neg];rintro⟨h1,h2⟩;rcases hh with hh | hh
     ·exact hh h1
     ·rw[hh] at h2;cases h2
    rw[this,xY (Pw hc ha Ka)]
   rcases hfit with⟨rfl,_⟩ | ⟨rfl,rT,_⟩ | ⟨rfl,_⟩ | ⟨rfl,_⟩ | ⟨rfl,_⟩
   ·rw[Vz (.inl (by decide))] at h2;refine aA ?_;refine mG ?_;refine jA ?_;refine aA ?_;refine Bk 1 hA h1 h2 h3 h4 rfl ?_;exact dY (s.aF.length - (i+1)) ⟨i+1,hlt,rfl,rfl,rfl,rfl⟩
   ·cases on
    ·rw[Vz (.inr rfl)] at h2;refine aA ?_;refine mG ?_;refine jA ?_;refine aA ?_;refine Bk 1 hA h1 h2 h3 h4 rfl ?_;exact dY (s.aF.length - (i+1)) ⟨i+1,hlt,rfl,rfl,rfl,rfl⟩
    ·obtain⟨f,fs,hf⟩:∃(f:Nat) (fs:List Int),src=(f:Int)::fs:=by
      cases hs0:src with
      | nil=>rw[hs0] at rT;simp at rT
      | cons f fs=>exact⟨f.toNat,fs,by have:=(hsrc f (by rw[hs0];simp)).1;rw[Int.toNat_of_nonneg this]⟩
     have Mu:f < i:=by have:=(hsrc f (by rw[hf];simp)).2;omega
     subst hf
     have hrun:=aNo (s:=s) (st:=st) (j:=f) (by omega)
     have cI:Rd w [⟨w,fun b=>b < w.heap.size∧¬F b⟩] [HP.aE g 224 cs,HP.aE g1 4 (uG s st s.aF.length),HP.many [HP.aE L.t 227 [.slice (some ⟨g,0,none⟩) s.aF.length L.c],cG,HP.bT (tY s L.fa) (tY.le (s:=s) (fa:=L.fa))]] g1 f (.bool (runs s st f)):=Rd.aE 1 rfl hrun
     refine aA ?_;refine aU (fun w1 t=>Si L s (qE s st i) i f _ fs w1 (t.aLr 0 2 rfl rfl hA h2 hfl Wg) hc rfl) ?_;refine aB ?_
     have Es:vG s st ⟨112,(f:Int)::fs,rate,mul,dv,lock⟩ ⟨true,left⟩=if runs s st f=false then⟨true,lock⟩ else if 0 < left then⟨true,left - 1⟩ else⟨true,left⟩:=by
      simp[vG,Pp]
     rw[Es] at hpq;cases yC:runs s st f
     ·rw[yC] at cI;rw[if_pos yC] at hpq
      have hs1:=hs.set 7 (iv lock) (by simp) (by omega)
      have vP:=hu.set 7 (iv lock) (by decide)
      have gL:=Fj (r':=sK ⟨112,(f:Int)::fs,rate,mul,dv,lock⟩ a ⟨true,lock⟩) h2 iK iJ hlt (by omega) rfl hs1 vP
      rw[hpq] at gL;refine aA ?_;refine Bk 1 hA (by simpa using h1) gL h3 h4 rfl ?_;exact dY (s.aF.length - (i+1)) ⟨i+1,hlt,rfl,rfl,rfl,rfl⟩
     ·rw[yC] at cI;rw[if_neg (by rw[yC];decide)] at hpq;refine aA ?_;refine aG rfl (fun hp=>?_) (fun hp=>?_)
      ·rw[if_pos hp] at hpq
       have hs1:=hs.set 7 (iv (left - 1)) (by simp) (by omega)
       have vP:=hu.set 7 (iv (left - 1)) (by decide)
       have gL:=Fj (r':=sK ⟨112,(f:Int)::fs,rate,mul,dv,lock⟩ a ⟨true,left - 1⟩) h2 iK iJ hlt (by omega) rfl hs1 vP
       rw[hpq] at gL;refine aA ?_;refine Bk 1 hA (by simpa using h1) gL h3 h4 rfl ?_;exact dY (s.aF.length - (i+1)) ⟨i+1,hlt,rfl,rfl,rfl,rfl⟩
      ·rw[if_neg hp,xY (Pw hc ha Ka)] at hpq;rw[hpq] at h2;refine aA ?_;refine mG ?_;refine jA ?_;refine aA ?_;refine Bk 1 hA h1 h2 h3 h4 rfl ?_;exact dY (s.aF.length - (i+1)) ⟨i+1,hlt,rfl,rfl,rfl,rfl⟩
   ·rw[Vz (.inl (by decide))] at h2;refine aA ?_;refine mG ?_;refine jA ?_;refine aA ?_;refine Bk 1 hA h1 h2 h3 h4 rfl ?_;exact dY (s.aF.length - (i+1)) ⟨i+1,hlt,rfl,rfl,rfl,rfl⟩
   ·rw[Vz (.inl (by decide))] at h2;refine aA ?_;refine mG ?_;refine jA ?_;refine aA ?_;refine Bk 1 hA h1 h2 h3 h4 rfl ?_;exact dY (s.aF.length - (i+1)) ⟨i+1,hlt,rfl,rfl,rfl,rfl⟩
   ·rw[Vz (.inl (by decide))] at h2;refine aA ?_;refine mG ?_;refine jA ?_;refine aA ?_;refine Bk 1 hA h1 h2 h3 h4 rfl ?_;exact dY (s.aF.length - (i+1)) ⟨i+1,hlt,rfl,rfl,rfl,rfl⟩
  ·obtain rfl:i=s.aF.length:=by omega
   rw[aOy hok];refine aA ?_;exact jZ 1 hF
end
section
section
variable{N:bZ}{w0 w:World}{e:Env}{R:List Piece}{H:List HP}{K:Act→World→Prop}{L:RL}{s:aD}{st:List kH}
theorem aEO(i:Nat)(hi:H[i]? =some (qQ L s st))(h:XK N w0 K e R (HP.map L.g (nW s st)::HP.aE L.t 277 [.map (some L.g)]::H.set i (HP.many [cG,cG]))):XK N w0 K e R H:=by
 have hlt:=Ai hi
 refine sU i 0 hi rfl ?_;refine sU (i+1) 1 (by rw[List.getElem?_cons_succ,List.getElem?_set_self hlt]) rfl ?_
 simpa[List.set_cons_succ,List.set_set] using h
theorem Te(i:Nat)(hi:H[i]? =some (HP.many [cG,cG]))(h:XK N w0 K e R (H.set i (qQ L s st))):XK N w0 K e R (HP.map L.g (nW s st)::HP.aE L.t 277 [.map (some L.g)]::H):=by
 have hlt:=Ai hi
 refine sV (i+1) 1 (by rw[List.getElem?_cons_succ];exact hi) rfl ?_;dsimp only[List.set];refine sV i 0 (by rw[List.getElem?_set_self hlt]) rfl ?_
 simpa[List.set_set,qQ] using h
end
theorem aMm(L:RL)(s:aD)(st:List kH)(hok:Ga s st)(i:Int)(w:World)(F:Nat→Prop)(hp:(qQ L s st).sat F w)(hF:∀b,F b→b < w.heap.size):
  Cz 230 #[.pointer (some ⟨L.t,0,none⟩),iv i] w (Wr (iv (tQ s st i).1) (qQ L s (tQ s st i).2) w F):=by
 have hl:=hok.len
 cases hi:bN st.length i
 ·have hr:tQ s st i=(4,st):=by simp[tQ,hi]
  have hv:uS s st i=jE 0 ⟨0,false,false⟩:=by simp[uS,hi]
  rw[hr];refine dJ func230 ntmps230 hp hF ?_;refine aA ?_;refine aU (fun w1 t=>Ut L s st i w1 (t.Qh 0 rfl)) ?_;rw[hi,hv];unfold jE;refine aA ?_;refine bR fun g1=>?_;refine aA ?_;exact cH 1 hF
 ·obtain⟨n,rfl⟩:∃n:Nat,i=n:=⟨i.toNat,by have:=of_decide_eq_true hi;omega⟩
  have hlt:n < st.length:=by have:=of_decide_eq_true hi;omega
  obtain⟨r,cI⟩:=get_some (l:=s.aT) (i:=n) (by omega);obtain⟨x,hx⟩:=get_some hlt
  have hrd:s.aT.getD n 0=r:=by rw[List.getD_eq_getElem?_getD,cI];rfl
  have hr:tQ s st (n:Int)=(0,st.set n ⟨r,true,false⟩):=by simp[tQ,hi,cI]
  have hv:uS s st (n:Int)=jE r x:=by simp[uS,hi,List.getD_eq_getElem?_getD,cI,hx]
  rw[hr];refine dJ func230 ntmps230 hp hF ?_;refine aA ?_;refine aU (fun w1 t=>Ut L s st n w1 (t.Qh 0 rfl)) ?_;rw[hi,hv];unfold jE;refine aA ?_;refine bR fun g1=>?_;refine aA ?_;refine aEO 1 rfl ?_;dsimp only[List.set];refine rB 6 (by kernel_rfl) (by kernel_rfl) ?_;refine bB 0 ?_;refine bB 1 ?_;refine bB 2 ?_;refine bB 3 ?_;refine bB 4 ?_;refine bB 5 ?_;refine cE 6 ?_;refine Iy (kt:=3) (et:=233) (kd:=.i64) (l:=nW s st) (v:=jE r ⟨r,true,false⟩) 0 (by kernel_rfl) (by kernel_rfl) rfl rfl rfl rfl ?_;rw[aDm hrd hlt];dsimp only[List.set];refine fA ?_;refine kG ?_;refine Te 1 rfl ?_;refine aA ?_;exact cH 1 hF
theorem aMk(L:RL)(s:aD)(st:List kH)(hok:Ga s st)(i:Int)(w:World)(F:Nat→Prop)(hp:(qQ L s st).sat F w)(hF:∀b,F b→b < w.heap.size):
  Cz 229 #[.pointer (some ⟨L.t,0,none⟩),iv i] w (Wr (iv (vI st i).1) (qQ L s (vI st i).2) w F):=by
 have hl:=hok.len
 cases hi:bN st.length i
 ·have hr:vI st i=(4,st):=by simp[vI,hi]
  have hv:uS s st i=jE 0 ⟨0,false,false⟩:=by simp[uS,hi]
  rw[hr];refine dJ func229 ntmps229 hp hF ?_;refine aA ?_;refine aU (fun w1 t=>Ut L s st i w1 (t.Qh 0 rfl)) ?_;rw[hi,hv];unfold jE;refine aA ?_;refine bR fun g1=>?_;refine aA ?_;exact cH 1 hF
 ·obtain⟨n,rfl⟩:∃n:Nat,i=n:=⟨i.toNat,by have:=of_decide_eq_true hi;omega⟩
  have hlt:n < st.length:=by have:=of_decide_eq_true hi;omega
  obtain⟨r,cI⟩:=get_some (l:=s.aT) (i:=n) (by omega);obtain⟨x,hx⟩:=get_some hlt
  have hrd:s.aT.getD n 0=r:=by rw[List.getD_eq_getElem?_getD,cI];rfl
  have hr:vI st (n:Int)=if x.held=false then(6,st) else(0,st.set n ⟨x.left,x.held,true⟩):=by simp[vI,hi,hx]
  have hv:uS s st (n:Int)=jE r x:=by simp[uS,hi,List.getD_eq_getElem?_getD,cI,hx]
  rw[hr];refine dJ func229 ntmps229 hp hF ?_;refine aA ?_;refine aU (fun w1 t=>Ut L s st n w1 (t.Qh 0 rfl)) ?_;rw[hi,hv];obtain⟨left,held,wanted⟩:=x;unfold jE;refine aA ?_;refine bR fun g1=>?_;cases held
  ·refine aA ?_;exact cH 1 hF
  ·refine aA ?_;refine aEO 1 rfl ?_;dsimp only[List.set];refine rB 6 (by kernel_rfl) (by kernel_rfl) ?_;refine bB 0 ?_;refine bB 1 ?_;refine bB 2 ?_;refine bB 3 ?_;refine bB 4 ?_;refine bB 5 ?_;refine cE 6 ?_;refine Iy (kt:=3) (et:=233) (kd:=.i64) (l:=nW s st) (v:=jE r ⟨left,true,true⟩) 0 (by kernel_rfl) (by kernel_rfl) rfl rfl rfl rfl ?_;rw[aDm hrd hlt];dsimp only[List.set];refine fA ?_;refine kG ?_;refine Te 1 rfl ?_;refine aA ?_;exact cH 1 hF
end
section
theorem aOB{α:Type}(f:α→α)(st:List α){i:Nat}{x:α}(hx:st[i]? =some x)(hs:f x=x):(st.map f).take i++st.drop i=(st.map f).take (i+1)++st.drop (i+1):=by
 have h1:=aDn f st hx
 rw[hs,aGi (by rw[aDo f st (List.getElem?_eq_some_iff.1 hx).1];exact hx)] at h1;exact h1
theorem aMj(L:RL)(s:aD)(st:List kH)(hH:s.dG)(hok:Ga s st)(w:World)(F:Nat→Prop)(hp:(qQ L s st).sat F w)(hF:∀b,F b→b < w.heap.size):
  Cz 61 #[.pointer (some ⟨L.t,0,none⟩)] w (fun y w'=>∃a:Option Addr×Nat×Nat,y=.returned (.slice a.1 a.2.1 a.2.2)∧True∧∃F',(qQ L s (Ee st)).sat F' w'∧iE w w' F F'):=by
 have hl:=hok.len
 have iJ:=hH.t.nr
 refine dJ func61 ntmps61 hp hF ?_
 have aDG:Rd w [⟨w,fun b=>b < w.heap.size∧¬F b⟩] [qQ L s st] L.t 0 (.map (some L.g)):=fun w1 t=>(t.Qh 0 rfl).r0.2
 refine aA ?_;refine kd (aRz (kt:=3) (et:=233) (l:=nW s st) (by kernel_rfl) rfl (fun w1 t=>(t.Qh 0 rfl).m)) ?_;rw[show(nW s st).length=st.length by simp[nW]];refine aA ?_;refine iO 3 1 ?_;refine bJ [(14,iv 0),(13,iv st.length),(3,sn),(0,.pointer (some ⟨L.t,0,none⟩))] ?_;refine eI (fun m e R H=>∃(i n:Nat) (A:Option Addr) (k:Nat) (xs:List Value),i≤st.length∧n≤i∧m=st.length - i∧e=[(14,iv i),(13,iv st.length),(3,.slice A n k),(0,.pointer (some ⟨L.t,0,none⟩))]∧R=[⟨w,fun b=>b < w.heap.size∧¬F b⟩]∧H=[HP.own 3 1 (.slice A n k) n xs,qQ L s ((st.map lM).take i++st.drop i)]) st.length ⟨0,0,none,0,[],by omega,by omega,rfl,rfl,rfl,by simp⟩ fun m e R H hI=>?_;obtain⟨i,n,A,k,xs,hi,hni,rfl,rfl,rfl,rfl⟩:=hI;refine aA ?_;refine aG rfl (fun hlt=>?_) (fun hge=>?_)
 ·have hlt:i < st.length:=by omega
  obtain⟨r,cI⟩:=get_some (l:=s.aT) (i:=i) (by omega);obtain⟨x,hx⟩:=get_some hlt
  have Wi:=hok.left x (List.mem_of_getElem? hx)
  have hrd:s.aT.getD i 0=r:=by rw[List.getD_eq_getElem?_getD,cI];rfl
  have hml:((st.map lM).take i++st.drop i).length=st.length:=by simp;omega
  have Ka:((st.map lM).take i++st.drop i)[i]? =some x:=by rw[aDo _ st hlt];exact hx
  have hin:bN ((st.map lM).take i++st.drop i).length (i:Int)=true:=by rw[hml];exact decide_eq_true (by omega)
  have Ct:mY (nW s ((st.map lM).take i++st.drop i)) (i:Int)=some (jE r x):=by
   rw[aH0,if_pos hin,Int.toNat_natCast,hrd,List.getD_eq_getElem?_getD,Ka];rfl
  have iX:oL (nW s ((st.map lM).take i++st.drop i)) (i:Int) (jE r (lM x))=nW s ((st.map lM).take (i+1)++st.drop (i+1)):=by
   rw[aDm hrd (by omega),aDn lM st hx]
  refine aEO 1 rfl ?_;dsimp only[List.set];refine aA ?_;refine aAi (kt:=3) (et:=233) (kd:=.i64) (z:=jE 0 ⟨0,false,false⟩) (l:=nW s ((st.map lM).take i++st.drop i)) true (by kernel_rfl) (by kernel_rfl) aHD rfl rfl (fun w1 t=>t.map (i:=0) rfl) (by decide) ?_;simp only[if_true,Ct,Option.getD_some,Option.isSome_some];obtain⟨left,held,wanted⟩:=x;dsimp only at Wi;dsimp only[jE];refine aA ?_;refine bR fun g1=>?_;cases held
  ·have hsame:lM ⟨left,false,wanted⟩=⟨left,false,wanted⟩:=rfl
   rw[aOB lM st hx hsame];refine aA ?_;refine aY [1,2,3,4] rfl (by decide) (fun _ h=>h) ?_;refine Te 1 rfl ?_;exact dY (st.length - (i+1)) ⟨i+1,n,A,k,xs,hlt,by omega,rfl,rfl,rfl,rfl⟩
  ·refine aA ?_;refine aG rfl (fun hp=>?_) (fun hp=>?_)
   ·have Es:lM ⟨left,true,wanted⟩=⟨left - 1,true,wanted⟩:=by simp[lM,hp]
    rw[Es] at iX;refine aA ?_;refine rB 6 (by kernel_rfl) (by kernel_rfl) ?_;refine bB 0 ?_;refine bB 1 ?_;refine bB 2 ?_;refine bB 3 ?_;refine bB 4 ?_;refine bB 5 ?_;refine cE 6 ?_;refine Iy (kt:=3) (et:=233) (kd:=.i64) (l:=nW s ((st.map lM).take i++st.drop i)) (v:=jE r ⟨left - 1,true,wanted⟩) 1 (by kernel_rfl) (by kernel_rfl) rfl rfl rfl rfl ?_;rw[iX];dsimp only[List.set];refine fA ?_;refine kG ?_;refine aA ?_;refine aY [1,2,3,4] rfl (by decide) (fun _ h=>h) ?_;refine Te 1 rfl ?_;exact dY (st.length - (i+1)) ⟨i+1,n,A,k,xs,hlt,by omega,rfl,rfl,rfl,rfl⟩
   ·cases wanted
    ·have Es:lM ⟨left,true,false⟩=⟨left,true,false⟩:=by simp[lM,hp]
     rw[Es] at iX;refine aA ?_;refine rB 6 (by kernel_rfl) (by kernel_rfl) ?_;refine bB 0 ?_;refine bB 1 ?_;refine bB 2 ?_;refine bB 3 ?_;refine bB 4 ?_;refine bB 5 ?_;refine cE 6 ?_;refine Iy (kt:=3) (et:=233) (kd:=.i64) (l:=nW s ((st.map lM).take i++st.drop i)) (v:=jE r ⟨left,true,false⟩) 1 (by kernel_rfl) (by kernel_rfl) rfl rfl rfl rfl ?_;rw[iX];dsimp only[List.set];refine fA ?_;refine kG ?_;refine aA ?_;refine aY [1,2,3,4] rfl (by decide) (fun _ h=>h) ?_;refine Te 1 rfl ?_;exact dY (st.length - (i+1)) ⟨i+1,n,A,k,xs,hlt,by omega,rfl,rfl,rfl,rfl⟩
    ·have Es:lM ⟨left,true,true⟩=⟨left,false,false⟩:=by simp[lM,hp]
     rw[Es] at iX;refine aA ?_;refine eL fun g2=>?_;refine gH 4 1 8 1 (el:=3) (by kernel_rfl) (by kernel_rfl) (by decide) rfl rfl rfl (nJ 0 rfl rfl) (by simp[Value.oneCell']) rfl (by omega) (by omega) (by decide) fun A' k'=>?_;dsimp only[List.set];refine aA ?_;refine rB 6 (by kernel_rfl) (by kernel_rfl) ?_;refine bB 0 ?_;refine bB 1 ?_;refine bB 2 ?_;refine bB 3 ?_;refine bB 4 ?_;refine bB 5 ?_;refine cE 6 ?_;refine Iy (kt:=3) (et:=233) (kd:=.i64) (l:=nW s ((st.map lM).take i++st.drop i)) (v:=jE r ⟨left,false,false⟩) 2 (by kernel_rfl) (by kernel_rfl) rfl rfl rfl rfl ?_;rw[iX];dsimp only[List.set];refine fA ?_;refine kG ?_;refine aA ?_;refine aY [2,3,4,5] rfl (by decide) (fun _ h=>h) ?_;refine Te 1 rfl ?_;exact dY (st.length - (i+1)) ⟨i+1,n+1,A',k',_,hlt,by omega,rfl,rfl,rfl,rfl⟩
 ·obtain rfl:i=st.length:=by omega
  have wS:(st.map lM).take st.length++st.drop st.length=Ee st:=by
   rw[List.drop_eq_nil_of_le (by omega),List.append_nil,List.take_of_length_le (by simp)];rfl
  rw[wS];refine aA ?_;exact nR rfl rfl fun w1 t=>⟨(A,n,k),rfl,trivial,t.turns hF (by simp) (i:=1) rfl⟩
end
section
section
variable{N:bZ}{w0 w:World}{e:Env}{R:List Piece}{H:List HP}{K:Act→World→Prop}{L:HL}{s:aD}{x:aO}
theorem rI(i:Nat){o:Nat}{v:Value}(hi:H[i]? =some (dS L s x))(hv:(Wy L s.aC.length)[o]? =some v):Rd w0 R H L.h o v:=fun w t=>by
 obtain⟨F,⟨G,g1,g2,_⟩,h2,_⟩:=t.chunk hi
 have:=(uT (g1 0 _ rfl).2).at_ (j:=o) hv
 rw[Nat.zero_add] at this;exact this.2
end
variable(L:HL)(s:aD)(x:aO)(w:World)
theorem aIo(hH:s.dG)(aV:gX L s)(hok:cF s x)(i:Int)(on:Bool)(F:Nat→Prop)(hp:(dS L s x).sat F w)(hF:∀b,F b→b < w.heap.size):
  Cz 179 #[.pointer (some ⟨L.h,0,none⟩),iv i,.bool on] w (Wr (iv (kZ s x.ck i on).1) (dS L s {x with ck:=(kZ s x.ck i on).2}) w F):=by
 have tK:=hH.t.nd
 refine dJ func179 ntmps179 hp hF ?_;refine aA ?_;refine aU (fun w1 t=>Cx L s x w1 (t.nD 0 rfl aV hok)) ?_;refine aA ?_;refine kd (bM rfl (rI 0 rfl rfl)) ?_;refine aA ?_;refine bF 0 1 ?_;refine dU 0 (rF L.T s (kZ s x.ck i on).2) (fun w1 F1 t h1 h2 h3=>aSf L.T s x.ck aV.fa hok.ck i on w1 F1 h1 h2) ?_;refine aA ?_;refine aN 0 1 ?_;exact cH 0 hF
theorem aIj(hH:s.dG)(aV:gX L s)(hok:cF s x)(i:Int)(F:Nat→Prop)(hp:(dS L s x).sat F w)(hF:∀b,F b→b < w.heap.size):
  Cz 174 #[.pointer (some ⟨L.h,0,none⟩),iv i] w (Wr (iv (uC s x.dm i).1) (dS L s {x with dm:=(uC s x.dm i).2}) w F):=by
 have tK:=hH.t.nd
 refine dJ func174 ntmps174 hp hF ?_;refine aA ?_;refine aU (fun w1 t=>Cx L s x w1 (t.nD 0 rfl aV hok)) ?_;refine aA ?_;refine kd (bM rfl (rI 0 rfl rfl)) ?_;refine aA ?_;refine bF 0 2 ?_;refine dU 0 (wE L.G s (uC s x.dm i).2) (fun w1 F1 t h1 h2 h3=>aNw L.G s x.dm hH hok.dm i w1 F1 h1 h2) ?_;refine aA ?_;refine aN 0 2 ?_;exact cH 0 hF
theorem aPC(hH:s.dG)(aV:gX L s)(hok:cF s x)(i:Int)(keep:Bool)(F:Nat→Prop)(hp:(dS L s x).sat F w)(hF:∀b,F b→b < w.heap.size):
  Cz 178 #[.pointer (some ⟨L.h,0,none⟩),iv i,.bool keep] w (Wr (iv (vW s x.dm i keep).1) (dS L s {x with dm:=(vW s x.dm i keep).2}) w F):=by
 have tK:=hH.t.nd
 refine dJ func178 ntmps178 hp hF ?_;refine aA ?_;refine aU (fun w1 t=>Cx L s x w1 (t.nD 0 rfl aV hok)) ?_;refine aA ?_;refine kd (bM rfl (rI 0 rfl rfl)) ?_;refine aA ?_;refine bF 0 2 ?_;refine dU 0 (wE L.G s (vW s x.dm i keep).2) (fun w1 F1 t h1 h2 h3=>aN1 L.G s x.dm hok.dm (by omega) i keep w1 F1 h1 h2) ?_;refine aA ?_;refine aN 0 2 ?_;exact cH 0 hF
theorem aP9(hH:s.dG)(aV:gX L s)(hok:cF s x)(i:Int)(F:Nat→Prop)(hp:(dS L s x).sat F w)(hF:∀b,F b→b < w.heap.size):
  Cz 182 #[.pointer (some ⟨L.h,0,none⟩),iv i] w (Wr (iv (vI x.ln i).1) (dS L s {x with ln:=(vI x.ln i).2}) w F):=by
 have tK:=hH.t.nd
 refine dJ func182 ntmps182 hp hF ?_;refine aA ?_;refine aU (fun w1 t=>Cx L s x w1 (t.nD 0 rfl aV hok)) ?_;refine aA ?_;refine kd (bM rfl (rI 0 rfl rfl)) ?_;refine aA ?_;refine bF 0 3 ?_;refine dU 0 (qQ L.R s (vI x.ln i).2) (fun w1 F1 t h1 h2 h3=>aMk L.R s x.ln hok.ln i w1 F1 h1 h2) ?_;refine aA ?_;refine aN 0 3 ?_;exact cH 0 hF
end
section
def Hz(cY:Int)(i:Nat):Bool:=decide (aBL (cY.fdiv (2 ^ min i 32)) 1=1)
def zT(x:aO)(cY:Int)(n:Nat):List (cN×dK):=x.dv.mapIdx fun i p=>if i < n then(p.1,uE p.2 (decide (0 < iQ x.wt i)) (Hz cY i)) else p
def Ic(k:Int)(d:bO)(f:cN):cN:=if k=115 then wM d f else if k=114 then Jf d f else if k=108∨k=110 then Fu d f else f
def Fs(s:aD)(e:Int×Nat)(i:Nat)(p:cN×dK):cN×dK:=match s.aC[i]? with
 | some d=>if d.domain=(e.2:Int) then(Ic e.1 d p.1,p.2) else p
 | none=>p
def Cm(s:aD)(dv:List (cN×dK))(e:Int×Nat)(n:Nat):List (cN×dK):=dv.mapIdx fun i p=>if i < n then Fs s e i p else p
def sP(s:aD)(dv:List (cN×dK))(e:Int×Nat):List (cN×dK):=Cm s dv e s.aC.length
def iN(s:aD)(x:aO)(cY:Int):aO:=⟨lN s x.ck,oF x.dm,Ee x.ln,(lS x.dm s.domains.length).foldl (sP s) (zT x cY s.aC.length),x.wt,x.aR⟩
theorem Qb{α:Type}(l:List α)(f:Nat→α→α):(l.mapIdx fun i p=>if i < 0 then f i p else p)=l:=by
 refine List.ext_getElem? fun i=>?_;simp
theorem Qc{α:Type}{l:List α}{f:Nat→α→α}{n:Nat}{p:α}(hp:l[n]? =some p):(l.mapIdx fun i p=>if i < n then f i p else p).set n (f n p)=l.mapIdx fun i p=>if i < n+1 then f i p else p:=by
 refine List.ext_getElem? fun i=>?_
 have hlt:=(List.getElem?_eq_some_iff.1 hp).1
 rw[List.getElem?_set]
 by_cases he:n=i
 ·subst he;rw[if_pos rfl,if_pos (by simpa using hlt),List.getElem?_mapIdx,hp];simp
 ·rw[if_neg he,List.getElem?_mapIdx,List.getElem?_mapIdx];cases l[i]? with
  | none=>rfl
  | some q=>
   simp only[Option.map_some,Option.some.injEq]
   by_cases h:i < n
   ·rw[if_pos h,if_pos (by omega)]
   ·rw[if_neg h,if_neg (by omega)]
theorem Qd{α:Type}{l:List α}{f:Nat→α→α}{n:Nat}{p:α}(hp:l[n]? =some p):(l.mapIdx fun i p=>if i < n then f i p else p)[n]? =some p:=by
 rw[List.getElem?_mapIdx,hp];simp
theorem aB0{ds:List bO}{ls:List (FL×Nat)}{xs:List (cN×dK)}{i:Nat}{d:bO}{l:FL×Nat}{p:cN×dK}(hd:ds[i]? =some d)(hl:ls[i]? =some l)(hp:xs[i]? =some p):(yQ ds ls xs)[i]? =some (Rz d (l,p)):=by
 have hq:(ls.zip xs)[i]? =some (l,p):=List.getElem?_zip_eq_some.2 ⟨hl,hp⟩
 rw[yQ,List.getElem?_zipWith,hd,hq]
theorem aRd{ds:List bO}{ls:List (FL×Nat)}{xs:List (cN×dK)}{i:Nat}{d:bO}{l:FL×Nat}{p:cN×dK}(hd:ds[i]? =some d)(hl:ls[i]? =some l)(hp:xs[i]? =some p)(p':cN×dK):(yQ ds ls xs).set i (Rz d (l,p'))=yQ ds ls (xs.set i p'):=by
 refine List.ext_getElem? fun j=>?_
 have hlt:=(List.getElem?_eq_some_iff.1 (aB0 hd hl hp)).1
 rw[List.getElem?_set]
 by_cases he:i=j
 ·subst he;rw[if_pos rfl,if_pos hlt];exact(aB0 hd hl (List.getElem?_set_self (List.getElem?_eq_some_iff.1 hp).1)).symm
 ·rw[if_neg he];simp only[yQ,List.getElem?_zipWith,List.zip,List.getElem?_set_ne he]
theorem aEp{ds:List bO}{ls:List (FL×Nat)}{i:Nat}{d:bO}{l:FL×Nat}(hd:ds[i]? =some d)(hl:ls[i]? =some l):(wW ds ls)[i]? =some (Km d l):=by
 rw[wW,List.getElem?_zipWith,hd,hl]
theorem aEo{ds:List bO}{ls:List (FL×Nat)}:∀r∈wW ds ls,r.length=6:=fun r hr=>by
 obtain⟨i,hi⟩:=List.getElem?_of_mem hr;rw[wW,List.getElem?_zipWith] at hi;split at hi
 ·cases hi;rfl
 ·cases hi
theorem aLu{x:dK}(h:Bt x)(a b:Bool):Bt (uE x a b):=by
 unfold uE;unfold Bt at h⊢;split
 ·exact h
 ·split
  ·exact⟨(by show(0:Int)≤3;omega),(by show(3:Int)≤3;omega)⟩
  ·split
   ·exact h
   ·exact⟨(by show(0:Int)≤2;omega),(by show(2:Int)≤3;omega)⟩
theorem aLP{r:Rg}{p:Int×Int}(h1:0≤p.1∧p.1 < 4294967296)(h2:0≤p.2∧p.2 < 4294967296):0≤Lw r p∧Lw r p < 4294967296:=by
 unfold Lw;split<;>assumption
theorem aJb{d:bO}{f:cN}(k:Int)(hr:∀r∈d.aP,0≤r.reset∧r.reset≤6)(h:zA d f):zA d (Ic k d f):=by
 have hres:∀v∈d.aP.map (·.reset),0≤v∧v < 4294967296:=fun v hv=>by
  obtain⟨r,eH,rfl⟩:=List.mem_map.1 hv
  have:=hr r eH
  omega
 have h1:=h.now
 have h2:=h.saved
 unfold Ic;split
 ·refine⟨h1,by simp[wM];omega,h.u.1,fun v hv=>?_⟩;obtain⟨i,hi⟩:=List.getElem?_of_mem hv;simp only[wM,List.getElem?_zipWith] at hi;split at hi
  ·rename_i r p eH gK
   cases hi;obtain⟨Mr,hp3⟩:=List.getElem?_zip_eq_some.1 gK;exact aLP (h.u.1 _ (List.mem_of_getElem? Mr)) (h.u.2 _ (List.mem_of_getElem? hp3))
  ·cases hi
 ·split
  ·refine⟨by simp[Jf];omega,h2,fun v hv=>?_,h.u.2⟩;obtain⟨i,hi⟩:=List.getElem?_of_mem hv;simp only[Jf,List.getElem?_zipWith] at hi;split at hi
   ·rename_i r p eH gK
    cases hi;unfold aA8;split
    ·exact h.u.2 _ (List.mem_of_getElem? gK)
    ·have:=hr r (List.mem_of_getElem? eH)
     omega
   ·cases hi
  ·split
   ·exact⟨by simp[Fu],h2,hres,h.u.2⟩
   ·exact h
theorem Vk{s:aD}{x:aO}(hH:s.dG)(hok:cF s x){dv:List (cN×dK)}(hl:dv.length=x.dv.length)(h:∀(i:Nat) (d:bO) (p:cN×dK),s.aC[i]? =some d→dv[i]? =some p→zA d p.1∧Bt p.2):cF s {x with dv:=dv}:=⟨hok.ck,hok.dm,hok.ln,hl.trans hok.dv,h,hok.wt⟩
theorem aDp{s:aD}{x:aO}(hH:s.dG)(hok:cF s x)(cY:Int)(n:Nat):cF s {x with dv:=zT x cY n}:=Vk hH hok (by simp[zT]) fun i d p hd hp=>by
 rw[zT,List.getElem?_mapIdx] at hp;cases hq:x.dv[i]? with
 | none=>rw[hq] at hp;cases hp
 | some q=>
  rw[hq] at hp;obtain⟨h1,h2⟩:=hok.each i d q hd hq;simp only[Option.map_some,Option.some.injEq] at hp;subst hp;split
  ·exact⟨h1,aLu h2 _ _⟩
  ·exact⟨h1,h2⟩
theorem aHy{s:aD}{x:aO}(hH:s.dG)(hok:cF s x)(e:Int×Nat)(n:Nat):cF s {x with dv:=Cm s x.dv e n}:=Vk hH hok (by simp[Cm]) fun i d p hd hp=>by
 rw[Cm,List.getElem?_mapIdx] at hp;cases hq:x.dv[i]? with
 | none=>rw[hq] at hp;cases hp
 | some q =>
  rw[hq] at hp;obtain⟨h1,h2⟩:=hok.each i d q hd hq;simp only[Option.map_some,Option.some.injEq] at hp;subst hp;split
  ·unfold Fs;rw[hd];dsimp only;split
   ·exact⟨aJb _ (hH.t.aC i d hd).2.2.2.2.2.2.2.2.2.1 h1,h2⟩
   ·exact⟨h1,h2⟩
  ·exact⟨h1,h2⟩
theorem aEh{s:aD}(hH:s.dG):∀(es:List (Int×Nat)) (x:aO),cF s x→cF s {x with dv:=es.foldl (sP s) x.dv}
 | [],x,h=>h
 | e::es,x,h=>aEh hH es {x with dv:=sP s x.dv e} (aHy hH h e _)
theorem aOs{s:aD}{dv:List (cN×dK)}{e:Int×Nat}(h:¬(e.1=115∨e.1=114∨e.1=108∨e.1=110)):sP s dv e=dv:=by
 unfold sP Cm;refine List.ext_getElem? fun i=>?_;rw[List.getElem?_mapIdx];cases dv[i]? with
 | none=>rfl
 | some p =>
  simp only[Option.map_some,Option.some.injEq];split
  ·unfold Fs;split
   ·split
    ·have:Ic e.1 (by assumption) p.1=p.1:=by
      unfold Ic;rw[if_neg (by omega),if_neg (by omega),if_neg (by omega)]
     rw[this]
    ·rfl
   ·rfl
  ·rfl
theorem aLw{s:aD}{st:List kH}(h:Ga s st):Ga s (Ee st):=by
 refine⟨by simp[Ee,h.len],fun x hx=>?_⟩;obtain⟨y,hy,rfl⟩:=List.mem_map.1 hx
 have:=h.left y hy
 unfold lM;split
 ·exact this
 ·split
  ·dsimp only;omega
  ·split
   ·exact this
   ·exact this
theorem aFU{s:aD}{x:aO}(hH:s.dG)(hok:cF s x)(cY:Int):cF s (iN s x cY):=by
 have h1:=aEh hH (lS x.dm s.domains.length) _ (aDp hH hok cY s.aC.length)
 exact⟨aCF hH hok.ck,aCE hok.dm,aLw hok.ln,h1.dv,h1.each,hok.wt⟩
section
variable{N:bZ}{w0 w:World}{e:Env}{R:List Piece}{H:List HP}{K:Act→World→Prop}{L:HL}{s:aD}{x:aO}
def aIn(L:HL)(s:aD)(x:aO):HP:=HP.many [HP.aE L.h 113 (Wy L s.aC.length),rF L.T s x.ck,wE L.G s x.dm,qQ L.R s x.ln,zE L.B (kJ s) x.wt x.aR,HP.own 106 6 (.slice L.A s.aC.length L.c) s.aC.length (wW s.aC L.ds).flatten,cG]
def aIN(L:HL)(s:aD)(x:aO)(i:Nat):HP:=HP.many ((yQ s.aC L.ds x.dv).set i cG)
theorem Ss(j i:Nat){d:bO}{l:FL×Nat}{p:cN×dK}(hj:H[j]? =some (dS L s x))(hd:s.aC[i]? =some d)(hl:L.ds[i]? =some l)(hp:x.dv[i]? =some p)
  (k:XK N w0 K e R (HP.many [iF l.1 d p.1,uZ l.2 p.2]::aIN L s x i::H.set j (aIn L s x))):XK N w0 K e R H:=by
 refine sU j 6 hj rfl ?_;refine sU 0 i rfl (aB0 hd hl hp) ?_;exact k
theorem Tf(j i:Nat){d:bO}{l:FL×Nat}{p p':cN×dK}(hj:H[j]? =some (aIn L s x))(hd:s.aC[i]? =some d)(hl:L.ds[i]? =some l)(hp:x.dv[i]? =some p)
  (k:XK N w0 K e R (H.set j (dS L s {x with dv:=x.dv.set i p'}))):XK N w0 K e R (HP.many [iF l.1 d p'.1,uZ l.2 p'.2]::aIN L s x i::H):=by
 have hlt:=(List.getElem?_eq_some_iff.1 (aB0 hd hl hp)).1
 refine sV 0 i rfl (by rw[List.getElem?_set_self (by simpa using hlt)]) ?_;dsimp only[List.set];refine sV j 6 hj rfl ?_;rw[List.set_set,show HP.many [iF l.1 d p'.1,uZ l.2 p'.2]=Rz d (l,p') from rfl,aRd hd hl hp p'];exact k
theorem Ny(j:Nat)(hj:H[j]? =some (dS L s x))(aV:gX L s)(hok:cF s x)(hn:0 < s.aC.length)(k:∀b off,L.A=some ⟨b,off,none⟩→XK N w0 K e R H):XK N w0 K e R H:=fun a w hr st=>by
 obtain⟨b,off,hA,_⟩:=(st.nD j hj aV hok).rows.2 hn;exact k b off hA a w hr st
theorem aQ.dev(j:Nat){i b off o:Nat}{d:bO}{l:FL×Nat}(hj:H[j]? =some (dS L s x))(aV:gX L s)(hok:cF s x)(hA:L.A=some ⟨b,off,none⟩)(hd:s.aC[i]? =some d)(hl:L.ds[i]? =some l)(ho:o=off+i*6):aQ w0 R H b o (Km d l):=.of fun k v hv w st=>by
 obtain⟨b',off',rX,hr⟩:=aI.row (st.nD j hj aV hok).rows (rows:=wW s.aC L.ds) (fun r hr=>aEo r hr) (aEp hd hl) (List.getElem?_eq_some_iff.1 hd).1;rw[hA] at rX;cases rX;subst ho;exact(hr.2 k v hv)
end
end
section
section
variable{P:Program}{N:bZ}{w0:World}{e:Env}{R:List Piece}{H:List HP}{Q:Exit→Act→World→Prop}{ops:Array Oper}{rest:List Oper}
variable{d:Nat}{ty:TypeId}{pos:String}{aH:Array Edge}
theorem zI{α:Type}(i:Nat){f:FuncId}{x:Operand}{args:List Operand}{fi ca vs:List Value}{tys:Array TypeId}{p:HP}(v:α→Value)(q:α→HP)(G:α→Prop)(hf:fH P f=true)(hx:e.ev x=some (.func (.func f) fi.toArray ca.toArray))(ha:e.fT args=some vs)(hi:H[i]? =some p)(hd:d < N.n)
  (hc:∀w F,St w0 R H w→p.sat F w→(∀b,F b→b < w.heap.size)→(∀q∈R,q.Le ⟨w,fun b=>b < w.heap.size∧¬F b⟩)→Calls P f (fi++vs++ca).toArray w fun y w'=>∃a,y=.returned (v a)∧G a∧∃F',(q a).sat F' w'∧iE w w' F F')
  (k:∀a,G a→XK N w0 (wpList P ops Q rest) ((d,v a)::e) R (H.set i (q a))):XK N w0 (wpList P ops Q (⟨some d,.call {callee:=.value x,args:=args.toArray,argTypes:=tys},ty,pos,aH,none⟩::rest)) e R H:=fun a w hr st=>wpList_plain rfl fun K hK=>by
 unfold fH at hf;cases hq:P.funcs[f]? with
 | none=>simp[hq] at hf
 | some fn =>
  simp[hq] at hf;obtain⟨gL,nQ⟩:=hf
  have hrun:(execOp a.eval (⟨some d,.call {callee:=.value x,args:=args.toArray,argTypes:=tys},ty,pos,aH,none⟩:Oper)).run P w=.ok (.enter f (fi++vs++ca).toArray) w:=by
   cases hb:fn.body with
   | none=>simp[hb] at nQ
   | some c=>simp[execOp,resolve,hr.ev hx,Deferred.ofValue,invoke,callFunc,hq,gL,hb,hr.fT ha]
  obtain⟨F,hp,hlt,hle,iX⟩:=st.chunk hi;unfold Oper.wp;rw[hrun];refine(hc w F st hp hlt hle).mono fun y w' hy=>?_;obtain⟨a',rfl,hG,F',hs,ht⟩:=hy;exact hK _ _ (k a' hG _ _ (hr.put hd (v a')) (iX w' F' (q a') hs ht))
end
end
section
section
variable{P:Program}{N:bZ}{w0:World}{e:Env}{R:List Piece}{H:List HP}{d:Nat}{ty:TypeId}{pos:String}{aH:Array Edge}
def aIw(P:Program)(t:TypeId):Bool:=match P.underlying t with
 | some (.func ..)=>true
 | _=>false
theorem aMd(w:World)(n:Nat)(t:TypeId){f1 f2:Array TypeId}{f3:Bool}(hu:P.underlying t=some (.func f1 f2 f3)):(Op.equalIn (n+1) t .nilFunc .nilFunc).run P w=.ok true w:=by simp[Op.equalIn,run_underlying hu]
theorem aMf(w:World)(n:Nat)(t:TypeId){f1 f2:Array TypeId}{f3:Bool}(f:Fn)(fi ca:Array Value)(hu:P.underlying t=some (.func f1 f2 f3)):(Op.equalIn (n+1) t (.func f fi ca) .nilFunc).run P w=.ok false w:=by simp[Op.equalIn,run_underlying hu]
theorem aIZ{x:Operand}{t u:TypeId}{v:Value}{b:Bool}(hx:e.ev x=some v)(hv:(v=.nilFunc∧b=true)∨(∃f a c,v=.func f a c)∧b=false)(ht:aIw P t=true:=by kernel_rfl):bQ P N w0 e R H ⟨some d,.binOp .eql t x (.const .nilFunc) u,ty,pos,aH,none⟩ (.bool b):=iL fun a w hr=>by
 have h2:=hr.ev (show e.ev (.const .nilFunc)=some .nilFunc from rfl)
 unfold aIw at ht;split at ht
 ·rename_i f1 f2 f3 hu
  rcases hv with⟨rfl,rfl⟩ | ⟨⟨f,fi,ca,rfl⟩,rfl⟩
  ·have h4:(Op.equal t .nilFunc .nilFunc).run P w=.ok true w:=aMd w 9999 t hu
   simp[execOp,hr.ev hx,h2,eqGuard,binOp,h4]
  ·have h4:(Op.equal t (.func f fi ca) .nilFunc).run P w=.ok false w:=aMf w 9999 t f fi ca hu
   simp[execOp,hr.ev hx,h2,eqGuard,binOp,h4]
 ·cases ht
end
def Ib(k:Int):Value:=if k=115 then .func (.func 113) #[] #[] else if k=114 then .func (.func 114) #[] #[] else if k=108∨k=110 then .func (.func 115) #[] #[] else .nilFunc
theorem aPD(k:Int)(w:World):Cz 60 #[.int .u8 k] w (Rt (Ib k) w):=by
 refine aL func60 ntmps60 ?_;refine aA ?_;refine aG rfl (fun h1=>?_) (fun h1=>?_)
 ·refine aA ?_;exact dF (by rw[Ib,if_pos h1])
 refine aA ?_;refine aG rfl (fun h2=>?_) (fun h2=>?_)
 ·refine aA ?_;exact dF (by rw[Ib,if_neg h1,if_pos h2])
 refine aA ?_;refine aG rfl (fun h3=>?_) (fun h3=>?_)
 ·refine aA ?_;refine aG rfl (fun _=>?_) (fun h=>absurd h3 h);refine aA ?_;exact dF (by rw[Ib,if_neg h1,if_neg h2,if_pos (.inl h3)])
 ·refine aA ?_;refine aG rfl (fun h4=>?_) (fun h4=>?_)
  ·refine aA ?_;exact dF (by rw[Ib,if_neg h1,if_neg h2,if_pos (.inr h4)])
  ·refine aA ?_;exact dF (by rw[Ib,if_neg h1,if_neg h2,if_neg (by omega)])
theorem aRI{k:Int}(hk:k=115∨k=114∨k=108∨k=110):∃f:FuncId,Ib k=.func (.func f) #[] #[]∧fH Tryz.prog f=true∧∀(L:FL) (d:bO) (x:cN) (hrl:d.aP.length≤100) (hok:zA d x) (w:World) (F:Nat→Prop) (hp:(iF L d x).sat F w) (hF:∀b,F b→b < w.heap.size),
  Cz f #[.pointer (some ⟨L.f,0,none⟩)] w (Wr (.tuple #[]) (iF L d (Ic k d x)) w F):=by
 rcases hk with rfl | rfl | rfl | rfl
 ·exact⟨_,rfl,(by kernel_rfl),aMH⟩
 ·exact⟨_,rfl,(by kernel_rfl),aMI⟩
 ·exact⟨_,rfl,(by kernel_rfl),aAA⟩
 ·exact⟨_,rfl,(by kernel_rfl),aAA⟩
theorem aS6(L:BL)(ms:List Int)(ws:List (Option jB))(aR:Int)(i:Nat)(hi:i < ms.length)(h0:iQ ws i=0)(w:World)(hR:Iw w L ms ws aR):
  Cz 108 #[.pointer (some ⟨L.b,0,none⟩),iv (i:Int)] w (Rt (.tuple #[.agg #[iv 0,.bool false,iv 0,.int .u32 0],.bool false]) w):=by
 have k1:=hR.r0.at_ (j:=1) rfl
 obtain⟨A,c,k2⟩:=hR.wt i hi;rw[h0] at k2
 have hin:bN ms.length (i:Int)=true:=decide_eq_true (by omega)
 refine aL func108 ntmps108 ?_;refine aA ?_;refine bR fun g1=>?_;refine aA ?_;refine aU (fun w1 t=>aBG L ms ws aR i w1 (hR.below (t.below (by simp)))) ?_;rw[hin];refine aB ?_;exact xC (vs:=[iv 0,.bool false,iv 0,.int .u32 0]) rfl (by kernel_rfl) rfl rfl (aQ.whole 0 rfl) rfl fun w1 t=>⟨rfl,t.below (by simp)⟩
theorem aPG(L:HL)(s:aD)(x:aO)(i:Nat)(hi:i < s.aC.length)(h0:iQ x.wt i=0)(w:World)(hR:sX w L s x):
  Cz 55 #[.pointer (some ⟨L.h,0,none⟩),iv (i:Int)] w (Rt (.tuple #[.agg #[iv 0,iv 0,.bool false,.int .u32 0],.bool false]) w):=by
 have k3:=hR.r0.at_ (j:=3) rfl
 refine aL func55 ntmps55 ?_;refine aA ?_;refine bR fun g1=>?_;refine aA ?_;refine aU (fun w1 t=>aS6 L.B (kJ s) x.wt x.aR i (by rw[Gq];exact hi) h0 w1 (hR.bus.below (t.below (by simp)))) ?_;refine aA ?_;refine bR fun g2=>?_;refine aB ?_;exact xC (vs:=[iv 0,iv 0,.bool false,.int .u32 0]) rfl (by kernel_rfl) rfl rfl (aQ.whole 1 rfl) rfl fun w1 t=>⟨rfl,t.below (by simp)⟩
end
section
def sQ(s:aD)(x:aO)(i:Nat):Bool:=match s.aC[i]? with
 | some d=>qB s x.ck d.clock&&(decide (qD x.dm d.domain=49)&& !Aj x.ln d.reset)
 | none=>false
def uF(x:aO)(i:Nat):Int:=((x.dv[i]?).map fun p=>qF p.2.at_).getD 0
theorem aCj{w0:World}{R:List Piece}{H:List HP}{b o:Nat}{vs:List Value}{v:Value}(j:Nat)(h:aQ w0 R H b o vs)(hv:vs[j]? =some v):Rd w0 R H b (o+j) v:=fun w st=>h w st j v hv
section
variable(L:HL)(s:aD)(x:aO)(w:World)
theorem aIl(hH:s.dG)(i:Int)(hR:sX w L s x):Cz 180 #[.pointer (some ⟨L.h,0,none⟩),iv i] w (Rt (.bool (qB s x.ck i)) w):=by
 have k0:=hR.r0.at_ (j:=0) rfl
 refine aL func180 ntmps180 ?_;refine aA ?_;refine aU (fun w1 t=>Cx L s x w1 (hR.below (t.below (by simp)))) ?_;refine aA ?_;refine aU (fun w1 t=>Yp L.T s x.ck hH i w1 (hR.tree.below (t.below (by simp)))) ?_;refine aA ?_;exact dF
theorem aDV(hH:s.dG)(aV:gX L s)(hok:cF s x)(i:Nat)(hi:i < s.aC.length)(hR:sX w L s x):Cz 14 #[.pointer (some ⟨L.h,0,none⟩),iv (i:Int)] w (Rt (.bool (sQ s x i)) w):=by
 have k0:=hR.r0.at_ (j:=0) rfl
 have k1:=hR.r0.at_ (j:=1) rfl
 have k2:=hR.r0.at_ (j:=2) rfl
 have k4:=hR.r0.at_ (j:=4) rfl
 have hls:=aV.ds
 obtain⟨d,dD⟩:=get_some hi;obtain⟨l,iS⟩:=get_some (l:=L.ds) (i:=i) (by omega);obtain⟨b,off,hA,hr⟩:=aI.row hR.rows (rows:=wW s.aC L.ds) (fun r hr=>aEo r hr) (aEp dD iS) hi
 have hin:bN s.aC.length (i:Int)=true:=decide_eq_true (by omega)
 have hal:sQ s x i=(qB s x.ck d.clock&&(decide (qD x.dm d.domain=49)&& !Aj x.ln d.reset)):=by
  unfold sQ;rw[dD]
 rw[hal];refine aL func14 ntmps14 ?_;refine aA ?_;refine aU (fun w1 t=>Rh L s x w1 i (hR.below (t.below (by simp)))) ?_;rw[hin];refine aA ?_;refine kd (dat i (off+i*6) (hx:=by rw[←hA];rfl)) ?_;refine aB ?_;refine bR fun g1=>?_;refine aA ?_;refine mG ?_;refine iZ ?_;refine tR (fun w1 t=>Yp L.T s x.ck hH d.clock w1 (hR.tree.below (t.below (by simp)))) ?_;cases hrun:qB s x.ck d.clock
 ·refine jA ?_;refine aA ?_;exact dF
 ·refine iZ ?_;refine tR (fun w1 t=>aGX L.G s x.dm hok.dm d.domain w1 (Dm.below hR.aEe (t.below (by simp)))) ?_;refine iZ ?_;refine Nx 32 rfl (fun hp=>?_) (fun hp=>?_)
  ·rw[decide_eq_true hp];refine iZ ?_;refine tR (fun w1 t=>aGy L.R s x.ln d.reset w1 (hR.lines.below (t.below (by simp)))) ?_;refine jA ?_;refine aA ?_;exact dF
  ·rw[decide_eq_false hp];refine jA ?_;refine aA ?_;exact dF
theorem aIk(aV:gX L s)(hok:cF s x)(i:Nat)(hi:i < s.aC.length)(eY:Tp w)(hR:sX w L s x):Cz 175 #[.pointer (some ⟨L.h,0,none⟩),iv (i:Int)] w (Rt (.int .u8 (uF x i)) w):=by
 have k4:=hR.r0.at_ (j:=4) rfl
 have hls:=aV.ds
 have iY:=hok.dv
 obtain⟨d,dD⟩:=get_some hi;obtain⟨l,iS⟩:=get_some (l:=L.ds) (i:=i) (by omega);obtain⟨p,gK⟩:=get_some (l:=x.dv) (i:=i) (by omega);obtain⟨b,off,hA,hr⟩:=aI.row hR.rows (rows:=wW s.aC L.ds) (fun r hr=>aEo r hr) (aEp dD iS) hi
 have k5:=hr.at_ (j:=5) rfl
 have hin:bN s.aC.length (i:Int)=true:=decide_eq_true (by omega)
 have hst:uF x i=qF p.2.at_:=by
  unfold uF;rw[gK];rfl
 rw[hst];refine aL func175 ntmps175 ?_;refine aA ?_;refine aU (fun w1 t=>Rh L s x w1 i (hR.below (t.below (by simp)))) ?_;rw[hin];refine aA ?_;refine kd (dat i (off+i*6) (hx:=by rw[←hA];rfl)) ?_;refine aA ?_;refine aU (fun w1 t=>aGR l.2 p.2 (hok.each i d p dD gK).2 w1 (eY.below (t.below (by simp))) ((hR.below (t.below (by simp))).each i d l p dD iS gK).2) ?_;refine aA ?_;exact dF
def Ij(x:aO)(i:Nat):aO:={x with dv:=match x.dv[i]? with | some p=>x.dv.set i (p.1,(sB p.2).2) | none=>x.dv}
def zX(x:aO)(i:Nat):aO:={x with dv:=match x.dv[i]? with | some p=>x.dv.set i (p.1,(nM p.2).2) | none=>x.dv}
theorem aIp(hH:s.dG)(aV:gX L s)(hok:cF s x)(i:Nat)(hi:i < s.aC.length)(F:Nat→Prop)(hp:(dS L s x).sat F w)(hF:∀b,F b→b < w.heap.size):
  Cz 226 #[.pointer (some ⟨L.h,0,none⟩),iv (i:Int)] w (fun y w'=>∃r:Int,y=.returned (iv r)∧True∧∃F',(dS L s (Ij x i)).sat F' w'∧iE w w' F F'):=by
 have hls:=aV.ds
 have iY:=hok.dv
 obtain⟨d,dD⟩:=get_some hi;obtain⟨l,iS⟩:=get_some (l:=L.ds) (i:=i) (by omega);obtain⟨p,gK⟩:=get_some (l:=x.dv) (i:=i) (by omega)
 have hin:bN s.aC.length (i:Int)=true:=decide_eq_true (by omega)
 have hX:Ij x i={x with dv:=x.dv.set i (p.1,(sB p.2).2)}:=by
  unfold Ij;rw[gK]
 rw[hX];refine dJ func226 ntmps226 hp hF ?_;refine aA ?_;refine aU (fun w1 t=>Rh L s x w1 i (t.nD 0 rfl aV hok)) ?_;rw[hin];refine aA ?_;refine kd (bM rfl (rI 0 rfl rfl)) ?_;refine Ny 0 rfl aV hok (by omega) fun b off hA=>?_;refine aA ?_;refine kd (dat i (off+i*6) (hx:=by rw[←hA];rfl)) ?_;refine aA ?_;refine kd (bM rfl (aCj (vs:=Km d l) 5 (aQ.dev 0 rfl aV hok hA dD iS rfl) rfl)) ?_;refine Ss 0 i rfl dD iS gK ?_;dsimp only[List.set];refine bF 0 1 ?_;refine dU 0 (uZ l.2 (sB p.2).2) (fun w1 F1 t h1 h2 h3=>aNt h1 h2) ?_;refine aN 0 1 ?_;refine Tf 0 i rfl dD iS gK (p':=(p.1,(sB p.2).2)) ?_;dsimp only[List.set];refine aA ?_;exact nR rfl rfl fun w1 t=>⟨_,rfl,trivial,t.turns hF (by simp) (i:=0) rfl⟩
theorem aDU(hH:s.dG)(aV:gX L s)(hok:cF s x)(i:Nat)(hi:i < s.aC.length)(F:Nat→Prop)(hp:(dS L s x).sat F w)(hF:∀b,F b→b < w.heap.size):
  Cz 176 #[.pointer (some ⟨L.h,0,none⟩),iv (i:Int)] w (fun y w'=>∃r:Int,y=.returned (iv r)∧True∧∃F',(dS L s (zX x i)).sat F' w'∧iE w w' F F'):=by
 have hls:=aV.ds
 have iY:=hok.dv
 obtain⟨d,dD⟩:=get_some hi;obtain⟨l,iS⟩:=get_some (l:=L.ds) (i:=i) (by omega);obtain⟨p,gK⟩:=get_some (l:=x.dv) (i:=i) (by omega)
 have hin:bN s.aC.length (i:Int)=true:=decide_eq_true (by omega)
 have hX:zX x i={x with dv:=x.dv.set i (p.1,(nM p.2).2)}:=by
  unfold zX;rw[gK]
 rw[hX];refine dJ func176 ntmps176 hp hF ?_;refine aA ?_;refine aU (fun w1 t=>Rh L s x w1 i (t.nD 0 rfl aV hok)) ?_;rw[hin];refine aA ?_;refine kd (bM rfl (rI 0 rfl rfl)) ?_;refine Ny 0 rfl aV hok (by omega) fun b off hA=>?_;refine aA ?_;refine kd (dat i (off+i*6) (hx:=by rw[←hA];rfl)) ?_;refine aA ?_;refine kd (bM rfl (aCj (vs:=Km d l) 5 (aQ.dev 0 rfl aV hok hA dD iS rfl) rfl)) ?_;refine Ss 0 i rfl dD iS gK ?_;dsimp only[List.set];refine bF 0 1 ?_;refine dU 0 (uZ l.2 (nM p.2).2) (fun w1 F1 t h1 h2 h3=>aNs h1 h2) ?_;refine aN 0 1 ?_;refine Tf 0 i rfl dD iS gK (p':=(p.1,(nM p.2).2)) ?_;dsimp only[List.set];refine aA ?_;exact nR rfl rfl fun w1 t=>⟨_,rfl,trivial,t.turns hF (by simp) (i:=0) rfl⟩
end
end
section
def aCh(l:List Int)(v:Value)(hs:List HP)(_:Piece):Prop:=∃A c,v=.slice A l.length c∧hs=[HP.own 23 1 (.slice A l.length c) l.length (qT l)]
theorem aM5(w0:Int)(A:Option Addr)(n c:Nat)(zs:List Int)(w:World)(hs:aI (all w) 1 A n (qT zs))(hn:n=zs.length)(hn2:n≤1000000):Cz 187 #[.int .u32 w0,.slice A n c] w (fun y w'=>(∃v hs q,y=.returned v∧q.w=w'∧aCh (w0::zs) v hs q∧kA w hs q)∧Below w.heap.size w w'):=by
 refine aL func187 ntmps187 ?_;refine aB ?_;refine aF4 1 4 (el:=23) (c:=n+1) (k0:=1) (uO:=.i64) (by kernel_rfl) (by kernel_rfl) rfl (by rw[Int.natCast_add];rfl) (by omega) (by omega) (by decide) fun g1=>?_;refine aB ?_;refine eL fun g2=>?_;refine gH 1 1 4 1 (n':=1) (el:=23) (by kernel_rfl) (by kernel_rfl) (by decide) rfl rfl rfl (nJ 0 rfl rfl) (by simp[Value.oneCell']) rfl (by omega) (by omega) (by decide) fun A1 c1=>?_;dsimp only[List.set];refine aB ?_;refine gH 1 1 4 n (n':=n+1) (el:=23) (by kernel_rfl) (by kernel_rfl) (by decide) rfl rfl rfl (qV (by simp) hs) (Ud _) (by omega) (by omega) (by omega) (by decide) fun A2 c2=>?_;dsimp only[List.set];refine aB ?_;subst hn;refine aY [1] rfl (by decide) (fun _ h=>h) ?_;refine dP [] [] [0] (by simp) rfl (by decide) (by decide) fun q _ _ hfr=>?_;exact aS (h:=fun w1 t=>⟨_,_,⟨w1,q.Z⟩,rfl,rfl,⟨A2,c2,rfl,rfl⟩,t.newR (by simp) (by simp) (hfr (by simp) (by simp))⟩)
theorem aSI(w0 st st':Int)(hst:IntKind.u32.wrap st=st')(A:Option Addr)(n c:Nat)(zs:List Int)(w:World)(hs:aI (all w) 1 A n (qT zs))(hn:n=zs.length)(hn2:n≤1000):
  Cz 107 #[.int .u32 w0,.int .i32 st,.slice A n c] w (fun y w'=>(∃v hs q,y=.returned v∧q.w=w'∧aCh (w0::st'::zs) v hs q∧kA w hs q)∧Below w.heap.size w w'):=by
 subst hn;refine aL func107 ntmps107 ?_;refine aA ?_;refine Dz (ds:=.int .i32) (by kernel_rfl) (by kernel_rfl) rfl hst (by decide) ?_;refine eL fun g1=>?_;refine iW (aCh [w0,st']) (fun w1 t=>aM5 w0 _ 1 1 [st'] w1 (t.rN (i:=0) rfl rfl) rfl (by omega)) ?_;rintro _ _ q1 ⟨A1,c1,rfl,rfl⟩ _;dsimp only[List.cons_append,List.nil_append];refine aA ?_;refine gH 0 1 4 zs.length (n':=zs.length+2) (el:=23) (by kernel_rfl) (by kernel_rfl) (by decide) rfl rfl rfl (qV (by simp) hs) (Ud _) (by simp;omega) (by omega) (by omega) (by decide) fun A2 c2=>?_;dsimp only[List.set];refine aA ?_;refine aY [0] rfl (by decide) (R':=[all w]) (by simp) ?_;refine dP [] [] [0] (by simp) rfl (by decide) (by decide) fun q _ _ hfr=>?_;exact aS (h:=fun w1 t=>⟨_,_,⟨w1,q.Z⟩,rfl,rfl,⟨A2,c2,rfl,rfl⟩,t.newR (by simp) (by simp) (hfr (by simp) (by simp))⟩)
theorem Qk(i:Int)(w:World):Cz 163 #[iv i] w (Rt (.bool (bN 2 i)) w):=by
 refine aL func163 ntmps163 ?_;refine aA ?_;refine bU (t:=5) rfl (fun h=>?_) (fun h=>?_)
 ·refine aA ?_;refine jY (by simp) ?_;unfold bN
  congr 1
  simp;omega
 ·refine aA ?_;refine jY (by simp) ?_
  have:bN 2 i=false:=decide_eq_false (by omega)
  rw[this]
def Ji(p:Int):Int:=if p=48 then 0 else if p=49 then 1 else if p=116 then 2 else 3
theorem aQ6(p:Int)(w:World):Cz 185 #[.int .u8 p] w (Rt (.int .u32 (Ji p)) w):=by
 refine aL func185 ntmps185 ?_;refine aA ?_;refine aG rfl (fun h=>?_) (fun h=>?_)
 ·refine aA ?_;exact dF (by rw[Ji,if_pos h])
 ·refine aA ?_;refine aG rfl (fun h1=>?_) (fun h1=>?_)
  ·refine aA ?_;exact dF (by rw[Ji,if_neg h,if_pos h1])
  ·refine aA ?_;refine aG rfl (fun h2=>?_) (fun h2=>?_)
   ·refine aA ?_;exact dF (by rw[Ji,if_neg h,if_neg h1,if_pos h2])
   ·refine aA ?_;exact dF (by rw[Ji,if_neg h,if_neg h1,if_neg h2])
end
section
structure gF where
 a1:AC
 a2:AC
 a3:AC
 a4:AC
 x1:AC
 x2:AC
 x3:AC
 y1:AC
 y2:AC
 y3:AC
 b0:AC
 b1:AC
structure bX where
 x:bK
 y:bK
 h0:Int
 h1:Int
 w0:List Int
 w1:List Int
 last:Int
 at_:Int
 kind:Int
 id:Int
def tM(s:aD):bX:=⟨dQ s,dQ s,0,0,[],[],1,-1,0,0⟩
def xX(a:AC)(n:Nat):Value:=.slice a.1 n a.2
def jV(h:Nat)(L:gF)(s:aD)(z:bX):List Value:=[pt h,.slice L.a1.1 s.aF.length L.a1.2,.slice L.a2.1 s.domains.length L.a2.2,.slice L.a3.1 s.aT.length L.a3.2,.slice L.a4.1 s.aC.length L.a4.2,
 .slice L.x1.1 z.x.d.length L.x1.2,.slice L.x2.1 z.x.c.length L.x2.2,.slice L.x3.1 z.x.l.length L.x3.2,.slice L.y1.1 z.y.d.length L.y1.2,.slice L.y2.1 z.y.c.length L.y2.2,.slice L.y3.1 z.y.l.length L.y3.2,
 iv z.h0,.slice L.b0.1 z.w0.length L.b0.2,iv z.h1,.slice L.b1.1 z.w1.length L.b1.2,iv z.last,iv z.at_,.int .u8 z.kind,iv z.id]
def wC(L:gF)(s:aD)(p:Piece):Prop:=pV p s L.a1.1 s.aF.length L.a2.1 s.domains.length L.a3.1 s.aT.length L.a4.1 s.aC.length
theorem wC.le{L:gF}{s:aD}(p q:Piece)(hl:p.Le q)(h:wC L s p):wC L s q:=pV.le h hl
def rH(L:gF)(x y:bK)(p:Piece):Prop:=aI p 1 L.x1.1 x.d.length (bE x.d)∧aI p 1 L.x2.1 x.c.length (bE x.c)∧aI p 1 L.x3.1 x.l.length (bE x.l)∧aI p 1 L.y1.1 y.d.length (bE y.d)∧aI p 1 L.y2.1 y.c.length (bE y.c)∧aI p 1 L.y3.1 y.l.length (bE y.l)
theorem rH.le{L:gF}{x y:bK}(p q:Piece)(hl:p.Le q)(h:rH L x y p):rH L x y q:=⟨h.1.le hl,h.2.1.le hl,h.2.2.1.le hl,h.2.2.2.1.le hl,h.2.2.2.2.1.le hl,h.2.2.2.2.2.le hl⟩
def eR(a:AC)(l:List Int)(p:Piece):Prop:=aI p 1 a.1 l.length (qT l)
theorem eR.le{a:AC}{l:List Int}(p q:Piece)(hl:p.Le q)(h:eR a l p):eR a l q:=aI.le h hl
theorem uX.P{q:Piece}{x y:bK}{v:Value}(h:uX q x y v):∃x1 x2 x3 y1 y2 y3:AC,v=.agg #[xX x1 x.d.length,xX x2 x.c.length,xX x3 x.l.length,xX y1 y.d.length,xX y2 y.c.length,xX y3 y.l.length]∧∀a1 a2 a3 a4 b0 b1:AC,rH ⟨a1,a2,a3,a4,x1,x2,x3,y1,y2,y3,b0,b1⟩ x y q:=by
 obtain⟨A1,k1,A2,k2,A3,k3,B1,m1,B2,m2,B3,m3,e,a1,a2,a3,b1,b2,b3⟩:=h;exact⟨(A1,k1),(A2,k2),(A3,k3),(B1,m1),(B2,m2),(B3,m3),e,fun _ _ _ _ _ _=>⟨a1,a2,a3,b1,b2,b3⟩⟩
def iP(f h:Nat)(L:gF)(s:aD)(z:bX):HP:=HP.many [HP.aE f 138 (jV h L s z),HP.bT (wC L s) (wC.le (L:=L) (s:=s)),HP.bT (rH L z.x z.y) (rH.le (L:=L) (x:=z.x) (y:=z.y)),HP.bT (eR L.b0 z.w0) (eR.le (a:=L.b0) (l:=z.w0)),HP.bT (eR L.b1 z.w1) (eR.le (a:=L.b1) (l:=z.w1))]
def Bw(f h:Nat)(s:aD)(z:bX):HP:=HP.ex fun L:gF=>iP f h L s z
structure Li(w:World)(f h:Nat)(L:gF)(s:aD)(z:bX):Prop where
 r0:eC w f 0 (jV h L s z)
 so:wC L s (all w)
 st:rH L z.x z.y (all w)
 b0:eR L.b0 z.w0 (all w)
 b1:eR L.b1 z.w1 (all w)
theorem aK4{f h:Nat}{L:gF}{s:aD}{z:bX}{F:Nat→Prop}{w:World}(k:(iP f h L s z).sat F w)(hF:∀b,F b→b < w.heap.size):Li w f h L s z:=by
 obtain⟨G,g1,g2,_⟩:=k
 have hl:∀i,(⟨w,G i⟩:Piece).Le (all w):=fun i b hb=>⟨hF b (g2 i b hb),rfl⟩
 exact⟨uT (g1 0 _ rfl).2,wC.le _ _ (hl 1) (g1 1 _ rfl),rH.le _ _ (hl 2) (g1 2 _ rfl),eR.le _ _ (hl 3) (g1 3 _ rfl),eR.le _ _ (hl 4) (g1 4 _ rfl)⟩
theorem St.Fm{w0 w:World}{R:List Piece}{H:List HP}{f h:Nat}{L:gF}{s:aD}{z:bX}(t:St w0 R H w)(i:Nat)(hi:H[i]? =some (iP f h L s z)):Li w f h L s z:=by
 obtain⟨F,h1,h2,_⟩:=t.chunk hi;exact aK4 h1 h2
def aK3(h:Nat)(s:aD)(v:Value)(hs:List HP)(_:Piece):Prop:=∃f,v=.tuple #[pt f,iv 0]∧hs=[Bw f h s (tM s)]
theorem aBy{w:World}(a:AC)(ha:a=(none,0)):(HP.bT (eR a []) (eR.le (a:=a) (l:=[]))).sat (fun _=>False) w:=by
 subst ha;exact⟨rfl,fun h=>absurd h (by simp)⟩
theorem aQD(h:Nat)(s:aD)(hH:s.dG)(A1 A2 A3 A4:Option Addr)(n1 k1 n2 k2 n3 k3 n4 k4:Nat)(w:World)(hW:fE w s A1 n1 A2 n2 A3 n3 A4 n4):
  Cz 35 #[pt h,.agg #[.slice A1 n1 k1,.slice A2 n2 k2,.slice A3 n3 k3,.slice A4 n4 k4]] w (fun y w'=>(∃v hs q,y=.returned v∧q.w=w'∧aK3 h s v hs q∧kA w hs q)∧Below w.heap.size w w'):=by
 obtain rfl:=hW.mZ;obtain rfl:=hW.nL;obtain rfl:=hW.pM;obtain rfl:=hW.nK;refine aL func35 ntmps35 ?_;refine aA ?_;refine bA fun g1=>?_;refine aA ?_;refine aU (fun w1 t=>Sk s A1 A2 A3 A4 _ k1 _ k2 _ k3 _ k4 w1 (hW.le (t.started (by simp))) hH.t.Sj) ?_;refine aA ?_;refine jL [1,3] ?_;refine bP 0 ?_;refine aJ 1 ?_;refine aJ 3 ?_;refine aM 2 ?_
 refine jP [] (fun v w w'=>aCo s v w w') (fun w1 t=>aE2 s A1 A2 A3 A4 _ k1 _ k2 _ k3 _ k4 w1 (hW.le (t.started (by simp))) (fun d hd=>by
  obtain⟨j,hj⟩:=List.getElem?_of_mem hd
  have:=(hH.t.aC j d hj).2.2.2.2.2.2.2.2.1
  omega)) ?_
 rintro _ w1 q1 ⟨cs,rfl,hcs⟩ Cq _ qH
 have qH:=qH (by simp)
 obtain⟨B1,m1,j1,B2,m2,j2,B3,m3,j3,B4,m4,j4,rfl,hsp⟩:=wB.P hcs
 have hsp:=hsp.le Cq
 obtain⟨rfl,rfl,rfl,rfl⟩:=hsp.len;refine Im (Φ:=wC ⟨(B1,j1),(B2,j2),(B3,j3),(B4,j4),(none,0),(none,0),(none,0),(none,0),(none,0),(none,0),(none,0),(none,0)⟩ s) (hm:=wC.le) qH (by simp[all]) hsp ?_;refine bL ?_;refine aM 4 ?_;refine jP [] (fun v w w'=>uX (fresh w w') (dQ s) (dQ s) v) (fun w1 st=>aLC s A1 A2 A3 A4 k1 k2 k3 k4 w1 hH.t) ?_;rintro _ w2 q2 hst uR _ Kh
 have Kh:=Kh (by simp)
 obtain⟨x1,x2,x3,y1,y2,y3,rfl,Mn⟩:=hst.P
 have Mn:=rH.le _ _ uR (Mn (B1,j1) (B2,j2) (B3,j3) (B4,j4) (none,0) (none,0))
 refine Im (Φ:=rH ⟨(B1,j1),(B2,j2),(B3,j3),(B4,j4),x1,x2,x3,y1,y2,y3,(none,0),(none,0)⟩ (dQ s) (dQ s)) (hm:=rH.le) Kh (by simp[all]) Mn ?_;refine bL ?_;refine aM 5 ?_;refine kd (fZ rfl) ?_;refine cX ?_;refine aM 6 ?_;refine bA fun f=>?_;refine cX ?_;refine aM 7 ?_;refine bH ?_;refine cX ?_;refine fJ ?_;refine aA ?_;refine Bm (p:=HP.bT (eR (none,0) []) (eR.le (a:=(none,0)) (l:=[]))) (fun w=>aBy _ rfl) ?_;refine Bm (p:=HP.bT (eR (none,0) []) (eR.le (a:=(none,0)) (l:=[]))) (fun w=>aBy _ rfl) ?_;refine aY [2,4,3,0,1] rfl (by decide) (R':=[all w]) (by simp) ?_;refine nG ?_;refine uV ?_;refine uV ?_;refine uV ?_;refine xB 0 (f:=fun L:gF=>iP f h L s (tM s)) ⟨(B1,j1),(B2,j2),(B3,j3),(B4,j4),x1,x2,x3,y1,y2,y3,(none,0),(none,0)⟩ rfl ?_;dsimp only[List.set];refine dP [] [] [0] (by simp) rfl (by decide) (by decide) fun q _ _ hfr=>?_;exact eK rfl rfl rfl fun w1 t=>⟨⟨_,_,⟨w1,q.Z⟩,rfl,rfl,⟨f,rfl,rfl⟩,t.newR (by simp) (by simp) (hfr (by simp) (by simp))⟩,t.below (by simp)⟩
end
section
section
variable{N:bZ}{w0 w:World}{e:Env}{R:List Piece}{H:List HP}{K:Act→World→Prop}{f h:Nat}{s:aD}{z:bX}
theorem Zh(i:Nat)(hi:H[i]? =some (Bw f h s z))(k:∀L:gF,XK N w0 K e R (HP.aE f 138 (jV h L s z)::H.set i (HP.many [cG,HP.bT (wC L s) (wC.le (L:=L) (s:=s)),HP.bT (rH L z.x z.y) (rH.le (L:=L) (x:=z.x) (y:=z.y)),HP.bT (eR L.b0 z.w0) (eR.le (a:=L.b0) (l:=z.w0)),HP.bT (eR L.b1 z.w1) (eR.le (a:=L.b1) (l:=z.w1))]))):XK N w0 K e R H:=by
 have hlt:=Ai hi
 refine aBV i hi fun L=>?_;refine sU i 0 (by rw[List.getElem?_set_self hlt];rfl) rfl ?_
 simpa[List.set_set] using k L
theorem Bl(L:gF)(i:Nat)(hi:H[i]? =some (HP.many [cG,HP.bT (wC L s) (wC.le (L:=L) (s:=s)),HP.bT (rH L z.x z.y) (rH.le (L:=L) (x:=z.x) (y:=z.y)),HP.bT (eR L.b0 z.w0) (eR.le (a:=L.b0) (l:=z.w0)),HP.bT (eR L.b1 z.w1) (eR.le (a:=L.b1) (l:=z.w1))]))(k:XK N w0 K e R (H.set i (Bw f h s z))):XK N w0 K e R (HP.aE f 138 (jV h L s z)::H):=by
 have hlt:=Ai hi
 refine sV i 0 hi rfl ?_;refine xB i (f:=fun L:gF=>iP f h L s z) L (by rw[List.getElem?_set_self hlt];rfl) ?_;rw[List.set_set];exact k
end
def nV(z:bX)(a:Int)(l:List Int):Int×bX:=
 if bN 2 a=false then(4,z) else if a=0 then(if z.h0≠0 then(7,z) else(0,{z with h0:=1,w0:=l})) else(if z.h1≠0 then(7,z) else(0,{z with h1:=1,w1:=l}))
theorem aQ3(f h:Nat)(s:aD)(z:bX)(a:Int)(A:Option Addr)(n c:Nat)(l:List Int)(w:World)(F:Nat→Prop)(hp:(Bw f h s z).sat F w)(hF:∀b,F b→b < w.heap.size)(hs:aI ⟨w,fun b=>b < w.heap.size∧¬F b⟩ 1 A n (qT l))(hn:n=l.length)(hn2:n≤1000000):
  Cz 94 #[pt f,iv a,.slice A n c] w (Wr (iv (nV z a l).1) (Bw f h s (nV z a l).2) w F):=by
 subst hn;cases hin:bN 2 a
 ·have hr:nV z a l=(4,z):=by simp[nV,hin]
  rw[hr];refine dJ func94 ntmps94 hp hF ?_;refine aA ?_;refine aU (fun w1 t=>Qk a w1) ?_;rw[hin];refine aA ?_;exact cH 0 hF
 ·obtain rfl | rfl:a=0∨a=1:=by have:=of_decide_eq_true hin;omega
  ·refine dJ func94 ntmps94 hp hF ?_;refine Zh 0 rfl fun L=>?_;dsimp only[List.set,jV];refine aA ?_;refine aU (fun w1 t=>Qk 0 w1) ?_;refine aA ?_;refine kd (gN 0 11) ?_;refine aA ?_;refine aG rfl (fun hb=>?_) (fun hb=>?_)
   ·have hr:nV z 0 l=(7,z):=by simp[nV,bN,hb]
    rw[hr];refine aA ?_;refine Bl L 0 rfl ?_;dsimp only[List.set];exact cH 0 hF
   ·have hr:nV z 0 l=(0,{z with h0:=1,w0:=l}):=by simp[nV,bN];simpa using hb
    rw[hr];refine aA ?_;refine jL [5,6] ?_;refine bP 0 ?_;refine bP 1 ?_;refine bP 2 ?_;refine aJ 5 ?_;refine aJ 6 ?_;refine aM 3 ?_;refine iW (aFs l.length (qT l)) (fun w1 t=>aJi A _ c _ w1 (hs.le (t.le (by simp))) (Ud _) hn2) ?_;rintro _ _ q1 ⟨An,cn,rfl,rfl⟩ _;dsimp only[List.cons_append,List.nil_append];refine bL ?_;refine aM 4 ?_;refine kd (fZ rfl) ?_;refine bL ?_;refine aM 7 ?_;refine kd (gN 0 11) ?_;refine cX ?_;refine aM 8 ?_;refine rL 1 (t:=138) rfl rfl rfl (by kernel_rfl) (by simp[Value.cells,Value.oneCell']) (by simp[Value.cells]) ?_;dsimp only[List.set,Value.cells,iH];refine cX ?_;refine fJ ?_;refine aA ?_;refine Fy 0 (Φ:=eR (An,cn) l) (hm:=eR.le) rfl (fun p hp=>hp) ?_;refine bF 2 3 ?_;refine aY [1,2,3] rfl (by decide) (fun _ h=>h) ?_;refine aN 1 3 ?_;refine Bl (h:=h) (s:=s) (z:={z with h0:=1,w0:=l}) {L with b0:=(An,cn)} 0 rfl ?_;dsimp only[List.set];exact cH 0 hF
  ·refine dJ func94 ntmps94 hp hF ?_;refine Zh 0 rfl fun L=>?_;dsimp only[List.set,jV];refine aA ?_;refine aU (fun w1 t=>Qk 1 w1) ?_;refine aA ?_;refine kd (gN 1 13) ?_;refine aA ?_;refine aG rfl (fun hb=>?_) (fun hb=>?_)
   ·have hr:nV z 1 l=(7,z):=by simp[nV,bN,hb]
    rw[hr];refine aA ?_;refine Bl L 0 rfl ?_;dsimp only[List.set];exact cH 0 hF
   ·have hr:nV z 1 l=(0,{z with h1:=1,w1:=l}):=by simp[nV,bN];simpa using hb
    rw[hr];refine aA ?_;refine jL [5,6] ?_;refine bP 0 ?_;refine bP 1 ?_;refine bP 2 ?_;refine aJ 5 ?_;refine aJ 6 ?_;refine aM 3 ?_;refine iW (aFs l.length (qT l)) (fun w1 t=>aJi A _ c _ w1 (hs.le (t.le (by simp))) (Ud _) hn2) ?_;rintro _ _ q1 ⟨An,cn,rfl,rfl⟩ _;dsimp only[List.cons_append,List.nil_append];refine bL ?_;refine aM 4 ?_;refine kd (fZ rfl) ?_;refine bL ?_;refine aM 7 ?_;refine kd (gN 1 13) ?_;refine cX ?_;refine aM 8 ?_;refine rL 1 (t:=138) rfl rfl rfl (by kernel_rfl) (by simp[Value.cells,Value.oneCell']) (by simp[Value.cells]) ?_;dsimp only[List.set,Value.cells,iH];refine cX ?_;refine fJ ?_;refine aA ?_;refine Fy 0 (Φ:=eR (An,cn) l) (hm:=eR.le) rfl (fun p hp=>hp) ?_;refine bF 2 4 ?_;refine aY [1,2,3] rfl (by decide) (fun _ h=>h) ?_;refine aN 1 4 ?_;refine Bl (h:=h) (s:=s) (z:={z with h1:=1,w1:=l}) {L with b1:=(An,cn)} 0 rfl ?_;dsimp only[List.set];exact cH 0 hF
def oK(z:bX)(a:Int):Option (List Int):=if a=0 then(if z.h0=2 then some z.w0 else none) else if a=1 then(if z.h1=2 then some z.w1 else none) else none
def oJ(z:bX)(a:Int):bX:=if a=0 then(if z.h0=2 then {z with h0:=0,w0:=[]} else z) else if a=1 then(if z.h1=2 then {z with h1:=0,w1:=[]} else z) else z
def Uz(l:Option (List Int))(a:AC):Value:=match l with
 | some l=>.tuple #[.slice a.1 l.length a.2,.bool true]
 | none=>.tuple #[.slice none 0 0,.bool false]
def Jg(f h:Nat)(s:aD)(z:bX)(l:List Int)(c:AC):HP:=HP.many [Bw f h s z,HP.bT (eR c l) (eR.le (a:=c) (l:=l))]
theorem aI5(f h:Nat)(s:aD)(z:bX)(a:Int)(w:World)(F:Nat→Prop)(hp:(Bw f h s z).sat F w)(hF:∀b,F b→b < w.heap.size):
  Cz 95 #[pt f,iv a] w (fun y w'=>∃c:AC,y=.returned (Uz (oK z a) c)∧True∧∃F',(Jg f h s (oJ z a) ((oK z a).getD []) c).sat F' w'∧iE w w' F F'):=by
 have Wt:∀w:World,(HP.bT (eR (none,0) []) (eR.le (a:=(none,0)) (l:=[]))).sat (fun _=>False) w:=fun w=>aBy _ rfl
 cases hin:bN 2 a
 ·have h0:a≠0:=fun h=>by subst h;cases hin
  have h1:a≠1:=fun h=>by subst h;cases hin
  have hr:oK z a=none:=by simp[oK,h0,h1]
  have hz:oJ z a=z:=by simp[oJ,h0,h1]
  rw[hr,hz];unfold Jg;refine dJ func95 ntmps95 hp hF ?_;refine aA ?_;refine aU (fun w1 t=>Qk a w1) ?_;rw[hin];refine aA ?_;refine Bm (p:=HP.bT (eR (none,0) []) (eR.le (a:=(none,0)) (l:=[]))) Wt ?_;refine aY [1,0] rfl (by decide) (fun _ h=>h) ?_;refine nG ?_;exact eK rfl rfl rfl fun w1 t=>⟨(none,0),rfl,trivial,t.turns hF (by simp) (i:=0) rfl⟩
 ·obtain rfl | rfl:a=0∨a=1:=by have:=of_decide_eq_true hin;omega
  ·refine dJ func95 ntmps95 hp hF ?_;refine Zh 0 rfl fun L=>?_;dsimp only[List.set,jV];refine aA ?_;refine aU (fun w1 t=>Qk 0 w1) ?_;refine aA ?_;refine kd (gN 0 11) ?_;refine aA ?_;refine aG rfl (fun hb=>?_) (fun hb=>?_)
   ·have hr:oK z 0=none:=by simp[oK,hb]
    have hz:oJ z 0=z:=by simp[oJ,hb]
    rw[hr,hz];unfold Jg;dsimp only[Option.getD];refine aA ?_;refine Bl L 0 rfl ?_;dsimp only[List.set];refine Bm (p:=HP.bT (eR (none,0) []) (eR.le (a:=(none,0)) (l:=[]))) Wt ?_;refine aY [1,0] rfl (by decide) (fun _ h=>h) ?_;refine nG ?_;exact eK rfl rfl rfl fun w1 t=>⟨(none,0),rfl,trivial,t.turns hF (by simp) (i:=0) rfl⟩
   ·have eX:z.h0=2:=by simpa using hb
    have hr:oK z 0=some z.w0:=by simp[oK,eX]
    have hz:oJ z 0={z with h0:=0,w0:=[]}:=by simp[oJ,eX]
    rw[hr,hz];unfold Jg;dsimp only[Option.getD];refine aA ?_;refine kd (gN 0 11) ?_;refine aA ?_;refine kd (fZ rfl) ?_;refine aA ?_;refine kd (gN 0 11) ?_;refine rL 0 (t:=138) rfl rfl rfl (by kernel_rfl) (by simp[Value.cells,Value.oneCell']) (by simp[Value.cells]) ?_;dsimp only[List.set,Value.cells,iH];refine aA ?_;refine bF 1 3 ?_;refine Bm (p:=HP.bT (eR (none,0) []) (eR.le (a:=(none,0)) (l:=[]))) Wt ?_;refine aY [0,2,3,1] rfl (by decide) (fun _ h=>h) ?_;refine aN 1 3 ?_;refine Bl (h:=h) (s:=s) (z:={z with h0:=0,w0:=[]}) {L with b0:=(none,0)} 0 rfl ?_;dsimp only[List.set];refine nG ?_;exact eK rfl rfl rfl fun w1 t=>⟨L.b0,rfl,trivial,t.turns hF (by simp) (i:=0) rfl⟩
  ·refine dJ func95 ntmps95 hp hF ?_;refine Zh 0 rfl fun L=>?_;dsimp only[List.set,jV];refine aA ?_;refine aU (fun w1 t=>Qk 1 w1) ?_;refine aA ?_;refine kd (gN 1 13) ?_;refine aA ?_;refine aG rfl (fun hb=>?_) (fun hb=>?_)
   ·have hr:oK z 1=none:=by simp[oK,hb]
    have hz:oJ z 1=z:=by simp[oJ,hb]
    rw[hr,hz];unfold Jg;dsimp only[Option.getD];refine aA ?_;refine Bl L 0 rfl ?_;dsimp only[List.set];refine Bm (p:=HP.bT (eR (none,0) []) (eR.le (a:=(none,0)) (l:=[]))) Wt ?_;refine aY [1,0] rfl (by decide) (fun _ h=>h) ?_;refine nG ?_;exact eK rfl rfl rfl fun w1 t=>⟨(none,0),rfl,trivial,t.turns hF (by simp) (i:=0) rfl⟩
   ·have eX:z.h1=2:=by simpa using hb
    have hr:oK z 1=some z.w1:=by simp[oK,eX]
    have hz:oJ z 1={z with h1:=0,w1:=[]}:=by simp[oJ,eX]
    rw[hr,hz];unfold Jg;dsimp only[Option.getD];refine aA ?_;refine kd (gN 1 13) ?_;refine aA ?_;refine kd (fZ rfl) ?_;refine aA ?_;refine kd (gN 1 13) ?_;refine rL 0 (t:=138) rfl rfl rfl (by kernel_rfl) (by simp[Value.cells,Value.oneCell']) (by simp[Value.cells]) ?_;dsimp only[List.set,Value.cells,iH];refine aA ?_;refine bF 1 4 ?_;refine Bm (p:=HP.bT (eR (none,0) []) (eR.le (a:=(none,0)) (l:=[]))) Wt ?_;refine aY [0,2,3,1] rfl (by decide) (fun _ h=>h) ?_;refine aN 1 4 ?_;refine Bl (h:=h) (s:=s) (z:={z with h1:=0,w1:=[]}) {L with b1:=(none,0)} 0 rfl ?_;dsimp only[List.set];refine nG ?_;exact eK rfl rfl rfl fun w1 t=>⟨L.b1,rfl,trivial,t.turns hF (by simp) (i:=0) rfl⟩
end
section
def Dd(c:eF)(r:Int):Int:=if c.kind=112 then(if 1099511627776 < r*c.mul / c.div then 1099511627776 else r*c.mul / c.div) else if c.kind=100 then r / c.div else r
def Nh(s:aD):Nat→Nat→Int
 | 0,_=>0
 | k + 1, i => match s.aF[i]? with
  | none=>0
  | some c=>if c.kind=111 then c.rate else Dd c (match c.src with
   | []=>0
   | f::_=>Nh s k f.toNat)
def rY(s:aD)(i:Nat):Int:=Nh s (i+1) i
def Jh(s:aD)(st:List eP)(i:Int):Int:=if qB s st i then rY s i.toNat else 0
theorem aQJ{s:aD}(hf:Fits eF.fit s.aF):∀(c k:Nat),c < k→Nh s k c=Nh s (c+1) c:=by
 intro c
 induction c using Nat.strongRecOn with
 | _ c ih =>
  intro k hk;obtain⟨k,rfl⟩:=Nat.exists_eq_add_of_lt hk;rw[show c+k+1=(c+k)+1 from rfl];unfold Nh;cases hc:s.aF[c]? with
  | none=>rfl
  | some x =>
   dsimp only;cases hs:x.src with
   | nil=>rfl
   | cons f fs=>
    have hfit:=(hf c x hc).1 f (by rw[hs];simp)
    have h1:f.toNat < c:=by omega
    dsimp only;rw[ih f.toNat h1 (c+k) (by omega),ih f.toNat h1 c h1]
theorem aIG{s:aD}(hf:Fits eF.fit s.aF){i:Nat}{c:eF}(hc:s.aF[i]? =some c):rY s i=if c.kind=111 then c.rate else Dd c (match c.src with
  | []=>0
  | f::_=>rY s f.toNat):=by
 unfold rY;rw[Nh,hc];dsimp only;cases hs:c.src with
 | nil=>rfl
 | cons f fs=>
  have hfit:=(hf i c hc).1 f (by rw[hs];simp)
  dsimp only;rw[aQJ hf f.toNat i (by omega)]
theorem aQI{s:aD}(hf:Fits eF.fit s.aF):∀i:Nat,0≤rY s i∧rY s i≤1099511627776:=by
 intro i
 induction i using Nat.strongRecOn with
 | _ i ih =>
  cases hc:s.aF[i]? with
  | none=>unfold rY Nh;rw[hc];exact⟨Int.le_refl 0,by show(0:Int)≤1099511627776;omega⟩
  | some c =>
   rw[aIG hf hc];obtain⟨hsrc,hfit⟩:=hf i c hc
   have hr:0≤(match c.src with | []=>0 | f::_=>rY s f.toNat)∧(match c.src with | []=>0 | f::_=>rY s f.toNat)≤1099511627776:=by
    cases hs:c.src with
    | nil=>exact⟨Int.le_refl 0,by show(0:Int)≤1099511627776;omega⟩
    | cons f fs=>
     have:=hsrc f (by rw[hs];simp)
     exact ih f.toNat (by omega)
   generalize (match c.src with | []=>0 | f::_=>rY s f.toNat)=r at hr;rcases hfit with⟨hk,_,h1,h2,_⟩ | ⟨hk,_,_,h1,h2,h3,h4,_⟩ | ⟨hk,_,_,_,h1,h2,_⟩ | ⟨hk,_⟩ | ⟨hk,_⟩
   ·rw[if_pos hk];omega
   ·rw[if_neg (by omega),Dd,if_pos hk]
    have:0≤r*c.mul / c.div:=Int.ediv_nonneg (Int.mul_nonneg hr.1 (by omega)) (by omega)
    split<;>omega
   ·rw[if_neg (by omega),Dd,if_neg (by omega),if_pos hk]
    have h5:0≤r / c.div:=Int.ediv_nonneg hr.1 (by omega)
    have h6:r / c.div≤r:=Int.ediv_le_self _ hr.1
    omega
   ·rw[if_neg (by omega),Dd,if_neg (by omega),if_neg (by omega)];exact hr
   ·rw[if_neg (by omega),Dd,if_neg (by omega),if_neg (by omega)];exact hr
theorem aIH(n:Int)(h1:1≤n)(h2:n≤1000)(w:World):Cz 246 #[iv n] w (Rt (.bool true) w):=by
 refine aL func246 ntmps246 ?_;refine aA ?_;refine bU (t:=5) rfl (fun _=>?_) (fun h=>absurd h1 h);refine aA ?_;refine jY (by simp) ?_;rw[decide_eq_true h2]
theorem aLN(r m d:Int)(hr:0≤r∧r≤1099511627776)(hm:1≤m∧m≤8)(hd:1≤d∧d≤4)(w:World):Cz 243 #[.int .u64 r,iv m,iv d] w (Rt (.tuple #[.int .u64 (if 1099511627776 < r*m / d then 0 else r*m / d),iv (if 1099511627776 < r*m / d then 3 else 0)]) w):=by
 have hmul:0≤r*m∧r*m≤1099511627776*8:=⟨Int.mul_nonneg hr.1 (by omega),Int.mul_le_mul hr.2 hm.2 (by omega) (by omega)⟩
 have hq:0≤r*m / d∧r*m / d≤r*m:=⟨Int.ediv_nonneg hmul.1 (by omega),Int.ediv_le_self _ hmul.1⟩
 refine aL func243 ntmps243 ?_;refine aA ?_;refine bU (t:=11) rfl (fun h=>absurd h (by omega)) (fun _=>?_);refine aA ?_;refine aU (fun w1 t=>aIH m hm.1 (by omega) w1) ?_;refine aA ?_;refine aU (fun w1 t=>aIH d hd.1 (by omega) w1) ?_;refine aA ?_;refine Dz (ds:=.int .i64) (kd:=.u64) (by kernel_rfl) (by kernel_rfl) rfl (wrap_u64 (by omega)) (by decide) ?_;refine aKF rfl rfl (c:=r*m) (wrap_u64 (by omega)) (by decide) ?_;refine aA ?_;refine Dz (ds:=.int .i64) (kd:=.u64) (by kernel_rfl) (by kernel_rfl) rfl (wrap_u64 (by omega)) (by decide) ?_;refine aF3 rfl rfl (c:=r*m / d) (by omega) (by rw[Int.tdiv_eq_ediv_of_nonneg hmul.1];exact wrap_u64 (by omega)) (by decide) ?_;refine aA ?_;refine aG rfl (fun h=>?_) (fun h=>?_)
 ·rw[if_pos h,if_pos h];refine aA ?_;exact eK rfl rfl rfl fun w1 t=>⟨rfl,t.below (by simp)⟩
 ·rw[if_neg h,if_neg h];refine aA ?_;exact eK rfl rfl rfl fun w1 t=>⟨rfl,t.below (by simp)⟩
theorem aSh(L:TL)(s:aD)(st:List eP)(hH:s.dG)(b1 b2:Nat):∀(i:Nat),i < s.aF.length→∀w,xD w L s st→fK w b1 0 (.pointer (some ⟨L.t,0,none⟩))→fK w b2 0 (.func (.func 242) #[] #[pt b1,pt b2])→
  Cz 242 #[iv (i:Int),pt b1,pt b2] w (Rt (.int .u64 (rY s i)) w):=by
 intro i
 induction i using Nat.strongRecOn with
 | _ i ih =>
  intro hlt w hR Hi eX;obtain⟨b,off,c,a,x,hc,hx,hA,hro,hs⟩:=hR.node hlt
  have Ws:=aIG hH.t.aF hc
  have h0:=hR.r0
  rw[hA] at h0
  have k0:=hro.at_ (j:=0) rfl
  have k2:=hro.at_ (j:=2) rfl
  have k3:=hro.at_ (j:=3) rfl
  have k4:=hro.at_ (j:=4) rfl
  have k10:=hro.at_ (j:=10) rfl
  have Rn:∀{w1},Below w.heap.size w w1→fK w1 b1 0 (.pointer (some ⟨L.t,0,none⟩)):=fun hb=>⟨Nat.lt_of_lt_of_le Hi.1 hb.size,(hb.cell (p:=⟨_,0,none⟩) Hi.1).trans Hi.2⟩
  have go2:∀{w1},Below w.heap.size w w1→fK w1 b2 0 (.func (.func 242) #[] #[pt b1,pt b2]):=fun hb=>⟨Nat.lt_of_lt_of_le eX.1 hb.size,(hb.cell (p:=⟨_,0,none⟩) eX.1).trans eX.2⟩
  obtain⟨hsrc,hfit⟩:=hH.t.aF i c hc;refine aL func242 ntmps242 ?_;refine aA ?_;refine kd (dat i (off+i*11)) ?_;rcases hfit with⟨hk,hs0,_⟩ | hfit
  ·rw[hk] at k0;rw[if_pos hk] at Ws;refine aA ?_;exact dF (by rw[Ws])
  obtain⟨f,fs,hf⟩:∃(f:Nat) (fs:List Int),c.src=(f:Int)::fs:=by
   cases hs0:c.src with
   | nil=>rw[hs0] at hfit;simp at hfit
   | cons f fs=>exact⟨f.toNat,fs,by have:=(hsrc f (by rw[hs0];simp)).1;rw[Int.toNat_of_nonneg this]⟩
  have Mu:f < i:=by have:=(hsrc f (by rw[hf];simp)).2;omega
  have pP:=aQI hH.t.aF f
  have aBq:∀w1,Below w.heap.size w w1→Cz 90 #[.pointer (some ⟨L.t,0,none⟩),iv (i:Int)] w1 (Rt (iv (f:Int)) w1):=fun w1 hb=>Si L s st i f c fs w1 (hR.below hb) hc hf
  have aBp:∀w1,Below w.heap.size w w1→Cz 242 #[iv (f:Int),pt b1,pt b2] w1 (Rt (.int .u64 (rY s f)) w1):=fun w1 hb=>ih f Mu (by omega) w1 (hR.below hb) (Rn hb) (go2 hb)
  rw[hf] at Ws
  have Cv:rY s i=if c.kind=111 then c.rate else Dd c (rY s f):=Ws
  clear Ws;rcases hfit with⟨hk,_,_,hm1,hm2,dD,Ri,_⟩ | ⟨hk,_,_,_,dD,Ri,_⟩ | ⟨hk,_⟩ | ⟨hk,_⟩
  ·rw[hk] at k0;rw[if_neg (by omega),Dd,if_pos hk] at Cv;refine aA ?_;refine mG ?_;refine iZ ?_;refine tR (fun w1 t=>aBq w1 (t.below (by simp))) ?_;refine Il (fi:=[]) (vs:=[iv (f:Int)]) (ca:=[pt b1,pt b2]) (fun w1 t=>aBp w1 (t.below (by simp))) ?_;refine jA ?_;refine aA ?_;refine mG ?_;refine iZ ?_;refine tR (fun w1 t=>aLN _ c.mul c.div pP ⟨hm1,hm2⟩ ⟨dD,Ri⟩ w1) ?_;refine jA ?_;refine aA ?_
   by_cases hq:1099511627776 < rY s f*c.mul / c.div
   ·rw[if_pos hq] at Cv;rw[if_pos hq,if_pos hq];refine aA ?_;exact dF (by rw[Cv])
   ·rw[if_neg hq] at Cv;rw[if_neg hq,if_neg hq];refine aA ?_;exact dF (by rw[Cv])
  ·rw[hk] at k0;rw[if_neg (by omega),Dd,if_neg (by omega),if_pos hk] at Cv
   have hby:byF c=c.div:=by rw[byF,if_pos hk]
   rw[hby] at k10
   have hq:0≤rY s f / c.div∧rY s f / c.div≤rY s f:=⟨Int.ediv_nonneg pP.1 (by omega),Int.ediv_le_self _ pP.1⟩
   refine aA ?_;refine mG ?_;refine iZ ?_;refine tR (fun w1 t=>aBq w1 (t.below (by simp))) ?_;refine Il (fi:=[]) (vs:=[iv (f:Int)]) (ca:=[pt b1,pt b2]) (fun w1 t=>aBp w1 (t.below (by simp))) ?_;refine jA ?_;refine aA ?_;refine Dz (ds:=.int .i64) (kd:=.u64) (by kernel_rfl) (by kernel_rfl) rfl (wrap_u64 (by omega)) (by decide) ?_;refine aF3 rfl rfl (c:=rY s f / c.div) (by omega) (by rw[Int.tdiv_eq_ediv_of_nonneg pP.1];exact wrap_u64 (by omega)) (by decide) ?_;refine aA ?_;exact dF (by rw[Cv])
  ·rw[hk] at k0;rw[if_neg (by omega),Dd,if_neg (by omega),if_neg (by omega)] at Cv;refine aA ?_;refine mG ?_;refine iZ ?_;refine tR (fun w1 t=>aBq w1 (t.below (by simp))) ?_;refine Il (fi:=[]) (vs:=[iv (f:Int)]) (ca:=[pt b1,pt b2]) (fun w1 t=>aBp w1 (t.below (by simp))) ?_;refine jA ?_;refine aA ?_;exact dF (by rw[Cv])
  ·rw[hk] at k0;rw[if_neg (by omega),Dd,if_neg (by omega),if_neg (by omega)] at Cv;refine aA ?_;refine mG ?_;refine iZ ?_;refine tR (fun w1 t=>aBq w1 (t.below (by simp))) ?_;refine Il (fi:=[]) (vs:=[iv (f:Int)]) (ca:=[pt b1,pt b2]) (fun w1 t=>aBp w1 (t.below (by simp))) ?_;refine jA ?_;refine aA ?_;exact dF (by rw[Cv])
theorem aSe(L:TL)(s:aD)(st:List eP)(hH:s.dG)(i:Int)(w:World)(hR:xD w L s st):
  Cz 232 #[.pointer (some ⟨L.t,0,none⟩),iv i] w (Rt (.int .u64 (Jh s st i)) w):=by
 unfold Jh;cases hr:qB s st i
 ·rw[if_neg (by decide)];refine aL func232 ntmps232 ?_;refine aA ?_;refine bA fun g1=>?_;refine aA ?_;refine aU (fun w1 t=>Yp L s st hH i w1 (hR.below (t.below (by simp)))) ?_;rw[hr];refine aA ?_;exact dF
 ·rw[if_pos rfl]
  have hi:bN s.aF.length i=true:=by
   unfold qB at hr;exact(Bool.and_eq_true _ _▸hr).1
  obtain⟨n,rfl⟩:∃n:Nat,i=n:=⟨i.toNat,by have:=of_decide_eq_true hi;omega⟩
  have hlt:n < s.aF.length:=by have:=of_decide_eq_true hi;omega
  refine aL func232 ntmps232 ?_;refine aA ?_;refine bA fun g1=>?_;refine aA ?_;refine aU (fun w1 t=>Yp L s st hH n w1 (hR.below (t.below (by simp)))) ?_;rw[hr];refine aA ?_;refine bR fun g2=>?_;refine aA ?_;refine kL (vf:=[]) (vc:=[pt g1,pt g2]) rfl rfl (by decide) ?_;refine aA ?_;refine aAV (fi:=[]) (vs:=[iv (n:Int)]) (ca:=[pt g1,pt g2]) (fun w1 t=>aSh L s st hH g1 g2 n hlt w1 (hR.below (t.below (by simp))) ((t.box (i:=1) rfl).at_ (j:=0) rfl) ((t.box (i:=0) rfl).at_ (j:=0) rfl)) ?_;refine aA ?_;exact dF
end
section
def pL(s:aD)(x:aO)(l:List Int):List Int:=
 let w:=l.headD 0
 if cM w 0 8=0 then[131072]
 else if cM w 10 8=16∧cM w 0 8=1 then[IntKind.u32.wrap (s.domains.length+s.aF.length*256+s.aT.length*65536+s.aC.length*16777216)]
 else if cM w 10 8=17∧cM w 0 8=5 then[Ji (qD x.dm (l.getD 1 0))]
 else if cM w 10 8=20∧cM w 0 8=6 then[IntKind.u32.wrap (Jh s x.ck (l.getD 1 0)),IntKind.u32.wrap (Jh s x.ck (l.getD 1 0) / 4294967296)] else[]
theorem aPA(L:HL)(s:aD)(x:aO)(w:World)(hH:s.dG)(i:Int)(hR:sX w L s x):Cz 186 #[.pointer (some ⟨L.h,0,none⟩),iv i] w (Rt (.int .u64 (Jh s x.ck i)) w):=by
 have k0:=hR.r0.at_ (j:=0) rfl
 refine aL func186 ntmps186 ?_;refine aA ?_;refine aU (fun w1 t=>Cx L s x w1 (hR.below (t.below (by simp)))) ?_;refine aA ?_;refine aU (fun w1 t=>aSe L.T s x.ck hH i w1 (hR.tree.below (t.below (by simp)))) ?_;refine aA ?_;exact dF
theorem aJu{α:Type}{cs vs:List α}{o:Nat}(hv:(cs.drop o).take vs.length=vs){j:Nat}{v:α}(hj:vs[j]? =some v):cs[o+j]? =some v:=by
 have hlt:=(List.getElem?_eq_some_iff.1 hj).1
 rw[←hv,List.getElem?_take_of_lt hlt,List.getElem?_drop] at hj;exact hj
theorem aQ7(f:Nat)(L:gF)(s:aD)(z:bX)(hL:HL)(x:aO)(hH:s.dG)(tK:vB s x.dm)(A:Option Addr)(c:Nat)(v:Int)(l:List Int)(w:World)(hR:Li w f hL.h L s z)(hh:sX w hL s x)(hs:aI (all w) 1 A (v::l).length (qT (v::l)))
  (hu:cM v 28 4=0) (oP:(cM v 10 8=17∧cM v 0 8=5)∨(cM v 10 8=20∧cM v 0 8=6)→∃i,l=[i]∧0≤i∧i < 4294967296):
  Cz 106 #[pt f,.slice A (v::l).length c] w (fun y w'=>(∃r,y=.returned r∧aCg (pL s x (v::l)) r w w')∧Below w.heap.size w w'):=by
 obtain⟨b,off,rfl,hro⟩:=aI.u32 hs (by simp)
 have k0:=hro 0 v rfl
 have hlen:(v::l).length=l.length+1:=rfl
 have hE:uD v=0:=by rw[uD,if_neg (by simp[hu])]
 have hU:Gf v=Hg (cM v 0 8) (cM v 8 2) (cM v 10 8) (cM v 18 10):=by rw[Gf,if_neg (by simp[hu])]
 have kf:=hR.r0.at_ (j:=0) rfl
 have k4:eC w f 1 [.slice L.a1.1 s.aF.length L.a1.2,.slice L.a2.1 s.domains.length L.a2.2,.slice L.a3.1 s.aT.length L.a3.2,.slice L.a4.1 s.aC.length L.a4.2]:=⟨hR.r0.1,fun j v hj=>by
  have:=hR.r0.2 (1+j) v (aJu rfl hj)
  rwa [Nat.zero_add] at this⟩
 have hnc:=hH.t.nc
 have hnd:=hH.t.nd
 have iJ:=hH.t.nr
 have nB:=hH.t.nv
 refine aL func106 ntmps106 ?_;refine aB ?_;refine aU (fun w1 t=>aFR v w1) ?_;rw[hE,hU];dsimp only[Hg];refine aA ?_;refine bR fun g1=>?_;refine aA ?_;refine aG rfl (fun h1=>?_) (fun h1=>?_)
 ·have hm:pL s x (v::l)=[131072]:=if_pos (by simpa using h1)
  rw[hm];refine aA ?_;refine eL fun g2=>?_;refine aA ?_;refine dP [] [0] [] (by simp) rfl (by decide) (by decide) fun q hq _ hfr=>?_;obtain⟨F2,Cg,By⟩:=hq 0 _ (by simp) rfl
  have cS:=sW (Y:=q.Z) (sz:=1) (n:=1) (c:=1) Cg By rfl
  exact aS (h:=fun w1 st=>⟨_,rfl,_,_,rfl,aI.le cS (st.mF (by simp) (hfr (by simp) (by simp)))⟩)
 ·have n1:cM v 0 8≠0:=by simpa using h1
  refine aA ?_;refine bU (t:=26) rfl (fun h2=>?_) (fun h2=>?_)
  ·have p1:cM v 10 8=16:=by simpa using h2
   refine aA ?_;refine aG rfl (fun h3=>?_) (fun h3=>?_)
   ·have m1:cM v 0 8=1:=by simpa using h3
    have hm:pL s x (v::l)=[IntKind.u32.wrap (s.domains.length+s.aF.length*256+s.aT.length*65536+s.aC.length*16777216)]:=(if_neg n1).trans (if_pos ⟨p1,m1⟩)
    rw[hm];refine aA ?_;refine bR fun g2=>?_;refine aA ?_;refine Oz rfl rfl (c:=s.aF.length*256) (by decide) (by show IntKind.i64.wrap ((s.aF.length:Int)*256)=_;exact iR (by omega)) (by decide) ?_;refine aA ?_;refine Oz rfl rfl (c:=s.aT.length*65536) (by decide) (by show IntKind.i64.wrap ((s.aT.length:Int)*65536)=_;exact iR (by omega)) (by decide) ?_;refine aA ?_;refine Oz rfl rfl (c:=s.aC.length*16777216) (by decide) (by show IntKind.i64.wrap ((s.aC.length:Int)*16777216)=_;exact iR (by omega)) (by decide) ?_;refine aA ?_;refine Dz (ds:=.int .i64) (kd:=.u32) (by kernel_rfl) (by kernel_rfl) rfl rfl (by decide) ?_;refine eL fun g3=>?_;refine aA ?_;refine dP [] [0] [] (by simp) rfl (by decide) (by decide) fun q hq _ hfr=>?_;obtain⟨F2,Cg,By⟩:=hq 0 _ (by simp) rfl
    have cS:=sW (Y:=q.Z) (sz:=1) (n:=1) (c:=1) Cg By rfl
    exact aS (h:=fun w1 st=>⟨_,rfl,_,_,rfl,aI.le cS (st.mF (by simp) (hfr (by simp) (by simp)))⟩)
   ·have m1:cM v 0 8≠1:=by simpa using h3
    have hm:pL s x (v::l)=[]:=(if_neg n1).trans ((if_neg fun h=>m1 h.2).trans ((if_neg fun h=>by have:=h.1;simp[p1] at this).trans (if_neg fun h=>by have:=h.1;simp[p1] at this)))
    rw[hm];refine aA ?_;refine bU (t:=60) rfl (fun h4=>absurd h4 (by simp[p1])) (fun _=>?_);refine aA ?_;refine bU (t:=80) rfl (fun h4=>absurd h4 (by simp[p1])) (fun _=>?_);refine aA ?_;exact aS (h:=fun _ _=>⟨_,rfl,_,_,rfl,rfl,fun h=>absurd h (by simp)⟩)
  ·have p1:cM v 10 8≠16:=by simpa using h2
   refine aA ?_;refine bU (t:=60) rfl (fun h3=>?_) (fun h3=>?_)
   ·have p2:cM v 10 8=17:=by simpa using h3
    refine aA ?_;refine aG rfl (fun h4=>?_) (fun h4=>?_)
    ·have m1:cM v 0 8=5:=by simpa using h4
     obtain⟨i,rfl,hi1,hi2⟩:=oP (.inl ⟨p2,m1⟩)
     have aPp:[v,i].length=2:=rfl
     have hm:pL s x [v,i]=[Ji (qD x.dm i)]:=(if_neg n1).trans ((if_neg fun h=>p1 h.1).trans (if_pos ⟨p2,m1⟩))
     have k1:=hro 1 i rfl
     rw[hm];refine aA ?_;refine jL [1,2,3,5,6,7] ?_;refine bP 0 ?_;refine bP 4 ?_;refine aJ 1 ?_;refine aJ 2 ?_;refine aJ 3 ?_;refine aJ 5 ?_ (dI:=dat (sz:=1) 1 (off+1));refine aJ 6 ?_;refine aJ 7 ?_ (dI:=Ks (ds:=.int .u32) (by kernel_rfl) (by kernel_rfl) rfl (iR (by omega)));refine aM 8 ?_;refine aU (fun w1 t=>aDT hL s x w1 tK i (hh.below (t.below (by simp)))) ?_;refine cX ?_;refine aM 9 ?_;refine aU (fun w1 t=>aQ6 _ w1) ?_;refine cX ?_;refine aM 10 ?_;refine eL fun g2=>?_;refine cX ?_;refine aM 11 ?_;refine bH ?_;refine cX ?_;refine fJ ?_;refine aA ?_;refine dP [] [0] [] (by simp) rfl (by decide) (by decide) fun q hq _ hfr=>?_;obtain⟨F2,Cg,By⟩:=hq 0 _ (by simp) rfl
     have cS:=sW (Y:=q.Z) (sz:=1) (n:=1) (c:=1) Cg By rfl
     exact aS (h:=fun w1 st=>⟨_,rfl,_,_,rfl,aI.le cS (st.mF (by simp) (hfr (by simp) (by simp)))⟩)
    ·have m1:cM v 0 8≠5:=by simpa using h4
     have hm:pL s x (v::l)=[]:=(if_neg n1).trans ((if_neg fun h=>p1 h.1).trans ((if_neg fun h=>m1 h.2).trans (if_neg fun h=>by have:=h.1;simp[p2] at this)))
     rw[hm];refine aA ?_;refine bU (t:=80) rfl (fun h4=>absurd h4 (by simp[p2])) (fun _=>?_);refine aA ?_;exact aS (h:=fun _ _=>⟨_,rfl,_,_,rfl,rfl,fun h=>absurd h (by simp)⟩)
   ·have p2:cM v 10 8≠17:=by simpa using h3
    refine aA ?_;refine bU (t:=80) rfl (fun h5=>?_) (fun h5=>?_)
    ·have p3:cM v 10 8=20:=by simpa using h5
     refine aA ?_;refine aG rfl (fun h6=>?_) (fun h6=>?_)
     ·have m1:cM v 0 8=6:=by simpa using h6
      obtain⟨i,rfl,hi1,hi2⟩:=oP (.inr ⟨p3,m1⟩)
      have aPp:[v,i].length=2:=rfl
      have hm:pL s x [v,i]=[IntKind.u32.wrap (Jh s x.ck i),IntKind.u32.wrap (Jh s x.ck i / 4294967296)]:=(if_neg n1).trans ((if_neg fun h=>p1 h.1).trans ((if_neg fun h=>p2 h.1).trans (if_pos ⟨p3,m1⟩)))
      have k1:=hro 1 i rfl
      rw[hm];refine aA ?_;refine jL [1,2,3,5,6,7] ?_;refine bP 0 ?_;refine bP 4 ?_;refine aJ 1 ?_;refine aJ 2 ?_;refine aJ 3 ?_;refine aJ 5 ?_ (dI:=dat (sz:=1) 1 (off+1));refine aJ 6 ?_;refine aJ 7 ?_ (dI:=Ks (ds:=.int .u32) (by kernel_rfl) (by kernel_rfl) rfl (iR (by omega)));refine aM 8 ?_;refine aU (fun w1 t=>aPA hL s x w1 hH i (hh.below (t.below (by simp)))) ?_;refine cX ?_;refine aM 9 ?_;refine bH ?_;refine cX ?_;refine fJ ?_;refine aA ?_;refine Dz (ds:=.int .u64) (kd:=.u32) (by kernel_rfl) (by kernel_rfl) rfl rfl (by decide) ?_;refine aA ?_;refine aKE rfl rfl (c:=Jh s x.ck i / 4294967296) (by decide) (by show Int.fdiv _ (2 ^ 32)=_;rw[Int.fdiv_eq_ediv_of_nonneg _ (by decide)];rfl) (by decide) ?_;refine Dz (ds:=.int .u64) (kd:=.u32) (by kernel_rfl) (by kernel_rfl) rfl rfl (by decide) ?_;refine eL fun g2=>?_;refine aA ?_;refine dP [] [0] [] (by simp) rfl (by decide) (by decide) fun q hq _ hfr=>?_;obtain⟨F2,Cg,By⟩:=hq 0 _ (by simp) rfl
      have cS:=sW (Y:=q.Z) (sz:=1) (n:=2) (c:=2) Cg By rfl
      exact aS (h:=fun w1 st=>⟨_,rfl,_,_,rfl,aI.le cS (st.mF (by simp) (hfr (by simp) (by simp)))⟩)
     ·have m1:cM v 0 8≠6:=by simpa using h6
      have hm:pL s x (v::l)=[]:=(if_neg n1).trans ((if_neg fun h=>p1 h.1).trans ((if_neg fun h=>p2 h.1).trans (if_neg fun h=>m1 h.2)))
      rw[hm];refine aA ?_;exact aS (h:=fun _ _=>⟨_,rfl,_,_,rfl,rfl,fun h=>absurd h (by simp)⟩)
    ·have p3:cM v 10 8≠20:=by simpa using h5
     have hm:pL s x (v::l)=[]:=(if_neg n1).trans ((if_neg fun h=>p1 h.1).trans ((if_neg fun h=>p2 h.1).trans (if_neg fun h=>p3 h.1)))
     rw[hm];refine aA ?_;exact aS (h:=fun _ _=>⟨_,rfl,_,_,rfl,rfl,fun h=>absurd h (by simp)⟩)
end
section
def gT(f:Nat)(hL:HL)(s:aD)(z:bX)(x:aO):HP:=HP.many [Bw f hL.h s z,dS hL s x]
def kT(z:bX)(a:Nat):List Int:=if a=0 then z.w0 else z.w1
def Di(s:aD)(x:aO)(l:List Int)(st:Int):List Int:=l.headD 0::IntKind.u32.wrap st::(if st=0 then pL s x l else[])
def aCZ(z:bX)(a:Nat)(hs:Int)(l:List Int):bX:=if a=0 then {z with h0:=hs,w0:=l} else {z with h1:=hs,w1:=l}
def wN(s:aD)(x:aO)(z:bX)(a:Nat)(st:Int):bX:=aCZ z a 2 (Di s x (kT z a) st)
structure tU(l:List Int):Prop where
 ne:∃v r,l=v::r∧cM v 28 4=0∧((cM v 10 8=17∧cM v 0 8=5)∨(cM v 10 8=20∧cM v 0 8=6)→∃i,r=[i]∧0≤i∧i < 4294967296)
theorem aHx(s:aD)(x:aO)(l:List Int):(pL s x l).length≤2:=by
 unfold pL;dsimp only;split
 ·simp
 ·split
  ·simp
  ·split
   ·simp
   ·split<;>simp
section
variable{N:bZ}{w0 w:World}{e:Env}{R:List Piece}{H:List HP}{K:Act→World→Prop}{f h:Nat}{L:gF}{s:aD}{z:bX}{v:Int}{r:List Int}
theorem eR.at_{a:AC}{w:World}(hb:eR a (v::r) (all w)):∃b off,a.1=some ⟨b,off,none⟩∧w.cell? ⟨b,off,none⟩=some (.int .u32 v):=by
 obtain⟨b,off,hA,hc⟩:=aI.u32 hb (by simp);exact⟨b,off,hA,by have:=(hc 0 v rfl).2;simpa using this⟩
end
section
variable{P:Program}{N:bZ}{w0 w:World}{e:Env}{R:List Piece}{H:List HP}{K:Act→World→Prop}{f h:Nat}{L:gF}{s:aD}{z:bX}{Q:Exit→Act→World→Prop}
theorem Rd.eZ(i:Nat){o:Nat}{v:Value}(hi:H[i]? =some (iP f h L s z))(hv:(jV h L s z)[o]? =some v):Rd w0 R H f o v:=fun w t=>by
 have:=((t.Fm i hi).r0.at_ hv).2
 rwa [Nat.zero_add] at this
theorem aQ.eZ(i:Nat){o:Nat}{vs:List Value}(hi:H[i]? =some (iP f h L s z))(hv:((jV h L s z).drop o).take vs.length=vs):aQ w0 R H f o vs:=.of fun _ _ hj=>Rd.eZ i hi (aJu hv hj)
end
def wY(L:gF)(b:Nat):AC:=if b=0 then L.b0 else L.b1
section
variable{h:Nat}{L:gF}{s:aD}{z:bX}
theorem aI8{b:Nat}(hb:b < 2):(jV h L s z)[12+b*2]? =some (.slice (wY L b).1 (kT z b).length (wY L b).2):=by
 obtain rfl | rfl:b=0∨b=1:=by omega
 ·rfl
 ·rfl
theorem Li.box{w:World}{f:Nat}(k:Li w f h L s z){b:Nat}(hb:b < 2):aI (all w) 1 (wY L b).1 (kT z b).length (qT (kT z b)):=by
 obtain rfl | rfl:b=0∨b=1:=by omega
 ·exact k.b0
 ·exact k.b1
theorem Li.stR{w:World}{f:Nat}(k:Li w f h L s z):uX (all w) z.x z.y (.agg #[.slice L.x1.1 z.x.d.length L.x1.2,.slice L.x2.1 z.x.c.length L.x2.2,.slice L.x3.1 z.x.l.length L.x3.2,.slice L.y1.1 z.y.d.length L.y1.2,.slice L.y2.1 z.y.c.length L.y2.2,.slice L.y3.1 z.y.l.length L.y3.2]):=
 ⟨_,_,_,_,_,_,_,_,_,_,_,_,rfl,k.st.1,k.st.2.1,k.st.2.2.1,k.st.2.2.2.1,k.st.2.2.2.2.1,k.st.2.2.2.2.2⟩
end
section
variable{N:bZ}{w0 w:World}{e:Env}{R:List Piece}{H:List HP}{K:Act→World→Prop}{f h:Nat}{L:gF}{s:aD}{z:bX}{v:Int}{r:List Int}
theorem aTz{a:Nat}(ha:a < 2)(i:Nat)(hi:H[i]? =some (iP f h L s z))(hw:kT z a=v::r)(k:∀b off,(wY L a).1=some ⟨b,off,none⟩→Rd w0 R H b off (.int .u32 v)→XK N w0 K e R H):XK N w0 K e R H:=fun a w hr st=>by
 obtain⟨b,off,hA,_⟩:=eR.at_ (hw▸(st.Fm i hi).box ha);refine k b off hA (fun w1 t=>?_) a w hr st;obtain⟨b',off',rX,hc⟩:=eR.at_ (hw▸(t.Fm i hi).box ha);rw[hA] at rX;cases rX;exact hc
end
theorem aEi(f:Nat)(hL:HL)(s:aD)(z:bX)(x:aO)(hH:s.dG)(aV:gX hL s)(hok:cF s x)(a:Nat)(ha:a < 2)(st:Int)(hst:st=0→tU (kT z a))(w:World)(F:Nat→Prop)(hp:(gT f hL s z x).sat F w)(hF:∀b,F b→b < w.heap.size):
  Cz 52 #[pt f,iv (a:Int),.int .i32 st] w (Wr (.tuple #[]) (gT f hL s (wN s x z a st) x) w F):=by
 unfold wN Di;generalize hb:kT z a=l at hst⊢;refine dJ func52 ntmps52 hp hF ?_;refine bF 0 0 ?_;refine lV 0 fun L=>?_;refine aA ?_;refine kd (gN a (11+a*2)) ?_;refine aA ?_;refine kd (bM rfl (Rd.eZ 0 rfl (v:=.slice (wY L a).1 l.length (wY L a).2) (by rw[show 11+a*2+1=12+a*2 by omega,←hb];exact aI8 ha))) ?_;refine aB ?_;refine Ta (α:=Unit) (fun _=>[(7,.int .u32 (l.headD 0)),(6,.slice (wY L a).1 l.length (wY L a).2),(2,.int .i32 st),(1,iv (a:Int)),(0,pt f)]) (fun _=>[iP f hL.h L s z,HP.many [cG,dS hL s x]]) (fun _=>True) ?_ fun _ _=>?_
 ·refine aG rfl (fun h=>?_) (fun h=>?_)
  ·cases l with
   | nil=>simp at h
   | cons v r=>
    refine aTz ha 0 rfl hb fun b off hA hrd=>?_;rw[hA];refine aB ?_;exact gB ()
  ·cases l with
   | nil=>
    refine aB ?_;exact gB ()
   | cons v r=>simp at h
 refine aB ?_;refine Ta (α:=AC) (fun q=>[(8,.slice q.1 (if st=0 then pL s x l else[]).length q.2),(7,.int .u32 (l.headD 0)),(2,.int .i32 st),(1,iv (a:Int)),(0,pt f)]) (fun q=>[HP.bT (eR q (if st=0 then pL s x l else[])) (eR.le (a:=q) (l:=if st=0 then pL s x l else[])),iP f hL.h L s z,HP.many [cG,dS hL s x]]) (fun _=>True) ?_ fun q _=>?_
 ·refine aG rfl (fun h=>?_) (fun h=>?_)
  ·rw[if_pos h];obtain⟨v,r,rfl,hu,oP⟩:=(hst h).ne;refine bF 1 1 ?_;refine aB ?_
   refine jP [] (fun v' w w'=>aCg (pL s x (v::r)) v' w w') (fun w1 t=>by
    have hf:=t.Fm 1 rfl
    have jU:=hf.box ha
    obtain⟨b,off,hA,_⟩:=eR.at_ (hb▸jU);rw[hb,hA] at jU
    have:=aQ7 f _ s z hL x hH hok.dm _ (wY L a).2 v r w1 hf (t.nD 0 rfl aV hok) jU hu oP
    rw[←hA] at this
    exact this) ?_
   rintro _ w3 q3 ⟨Am,cm,rfl,cS⟩ Js _ hF3
   have cS:=cS.le Js
   refine aN 1 1 ?_;refine Im (Φ:=eR (Am,cm) (pL s x (v::r))) (hm:=eR.le) (hF3 (by simp)) (fun p hp b hb=>by simp at hp;subst hp;exact hb.1) cS ?_;refine aB ?_;exact gB (Am,cm)
  ·rw[if_neg h];refine Bm (p:=HP.bT (eR (none,0) []) (eR.le (a:=(none,0)) (l:=[]))) (fun w=>aBy _ rfl) ?_;refine aB ?_;exact gB (none,0)
 have hml:(if st=0 then pL s x l else[]).length≤2:=by
  split
  ·exact aHx s x l
  ·simp
 generalize hM:(if st=0 then pL s x l else[])=M at hml⊢;refine bF 1 0 ?_;refine jL [7,8] ?_;refine bP 0 ?_;refine bP 1 ?_;refine bP 2 ?_;refine bP 3 ?_;refine bP 4 ?_;refine aJ 7 ?_;refine aJ 8 ?_;refine aM 5 ?_;refine iW (aCh (l.headD 0::IntKind.u32.wrap st::M)) (fun w1 t=>aSI _ st _ rfl q.1 M.length q.2 M w1 (t.bT 1 rfl) rfl (by omega)) ?_;rintro _ _ q9 ⟨An,cn,rfl,rfl⟩ _;dsimp only[List.cons_append,List.nil_append];refine bL ?_;refine aM 6 ?_;refine kd (fZ rfl) ?_;refine bL ?_;refine aM 9 ?_;refine kd (gN a (11+a*2)) ?_;refine cX ?_;refine aM 10 ?_;refine rL 1 (t:=138) rfl rfl rfl (by kernel_rfl) (by simp[Value.cells,Value.oneCell']) (by simp[Value.cells,jV];omega) ?_;dsimp only[List.set];refine cX ?_;refine fJ ?_;refine Fy 0 (Φ:=eR (An,cn) (l.headD 0::IntKind.u32.wrap st::M)) (hm:=eR.le) rfl (fun p hp=>hp) ?_;obtain rfl | rfl:a=0∨a=1:=by omega
 ·refine bF 3 3 ?_;refine aY [1,2,4,5] rfl (by decide) (R':=[⟨w,fun b=>b < w.heap.size∧¬F b⟩]) (by simp) ?_;refine aN 1 3 ?_;refine Bl (h:=hL.h) (s:=s) (z:={z with h0:=2,w0:=l.headD 0::IntKind.u32.wrap st::M}) {L with b0:=(An,cn)} 0 rfl ?_;dsimp only[List.set];refine aN 0 0 ?_;exact jZ 0 hF
 ·refine bF 3 4 ?_;refine aY [1,2,4,5] rfl (by decide) (R':=[⟨w,fun b=>b < w.heap.size∧¬F b⟩]) (by simp) ?_;refine aN 1 4 ?_;refine Bl (h:=hL.h) (s:=s) (z:={z with h1:=2,w1:=l.headD 0::IntKind.u32.wrap st::M}) {L with b1:=(An,cn)} 0 rfl ?_;dsimp only[List.set];refine aN 0 0 ?_;exact jZ 0 hF
end
section
def Ay(z:bX)(a:Nat):Int:=if a=0 then z.h0 else z.h1
def sL(z:bX):Option Nat:=if Ay z (1 - z.last).toNat=1 then some (1 - z.last).toNat else if Ay z z.last.toNat=1 then some z.last.toNat else none
def lY(s:aD)(x:aO):List Int:=(List.range s.aC.length).map fun i=>(iQ x.wt i:Int)
theorem aQy(f:Nat)(hL:HL)(s:aD)(z:bX)(x:aO)(hl:z.last=0∨z.last=1)(hn:sL z=none)(w:World)(F:Nat→Prop)(hp:(gT f hL s z x).sat F w)(hF:∀b,F b→b < w.heap.size):
  Cz 50 #[pt f] w (Wr (.bool false) (gT f hL s z x) w F):=by
 have hno:z.h0≠1∧z.h1≠1:=by
  unfold sL at hn;rcases hl with h | h<;>rw[h] at hn<;>simp[Ay] at hn<;>by_cases p:z.h0=1<;>by_cases q:z.h1=1<;>simp[p,q] at hn⊢
 refine dJ func50 ntmps50 hp hF ?_;refine bF 0 0 ?_;refine Zh 0 rfl fun L=>?_;dsimp only[List.set,jV];rcases hl with hl | hl<;>rw[hl]
 ·refine aA ?_;refine kd (gN 1 13) ?_;refine aA ?_;refine aG rfl (fun _=>?_) (fun h=>absurd h (by simp[hno.2]));refine aA ?_;refine kd (gN 0 11) ?_;refine aA ?_;refine aG rfl (fun _=>?_) (fun h=>absurd h (by simp[hno.1]));refine aA ?_;rw[←hl];refine Bl (h:=hL.h) (s:=s) (z:=z) L 0 rfl ?_;dsimp only[List.set];refine aN 0 0 ?_;exact cH 0 hF
 ·refine aA ?_;refine kd (gN 0 11) ?_;refine aA ?_;refine aG rfl (fun _=>?_) (fun h=>absurd h (by simp[hno.1]));refine aA ?_;refine kd (gN 1 13) ?_;refine aA ?_;refine aG rfl (fun _=>?_) (fun h=>absurd h (by simp[hno.2]));refine aA ?_;rw[←hl];refine Bl (h:=hL.h) (s:=s) (z:=z) L 0 rfl ?_;dsimp only[List.set];refine aN 0 0 ?_;exact cH 0 hF
end
end Go.Proofs.YtdcdccmpcmjmhaaGreatDoor
