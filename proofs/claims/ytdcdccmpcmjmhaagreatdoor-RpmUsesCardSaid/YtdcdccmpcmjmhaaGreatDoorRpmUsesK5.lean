/- conf.Copy. -/
import Derived.Test.YtdcdccmpcmjmhaaGreatDoorRpmUsesK4
namespace Go.Proofs.YtdcdccmpcmjmhaaGreatDoor
set_option linter.all false
set_option maxHeartbeats 4000000
set_option maxRecDepth 20000
open Go.RowKit Go.Proofs.Tryz
section
theorem Qh{l:List Rg}:∀u∈l.flatMap Rg.cells,u.oneCell'=true:=fun u hu=>by
 obtain⟨r,_,hu⟩:=List.mem_flatMap.1 hu;simp only[Rg.cells,List.mem_cons,List.not_mem_nil,or_false] at hu;rcases hu with rfl | rfl<;>rfl
def aCy(s:aD)(v:Value)(w w':World):Prop:=∃cs,v=.agg cs∧wH (fH (fresh w w')) s cs
theorem aEG(s:aD)(A1 A2 A3 A4:Option Addr)(n1 k1 n2 k2 n3 k3 n4 k4:Nat)(w:World)(hW:fL w s A1 n1 A2 n2 A3 n3 A4 n4)(Kg:∀d∈s.aC,d.aO.length≤1000000):
  Cz 75 #[.agg #[.slice A1 n1 k1,.slice A2 n2 k2,.slice A3 n3 k3,.slice A4 n4 k4]] w (fun y w'=>(∃v,y=.returned v∧aCy s v w w')∧Below w.heap.size w w'):=by
 obtain⟨rc,hrc,pJ,hsc⟩:=hW.jM;obtain⟨rd,hrd,hn2,hsd⟩:=hW.dom;obtain⟨rr,cF,pI,hst⟩:=hW.Cu;obtain⟨rv,Rn,rG,vT⟩:=hW.dev;obtain⟨Kz,aQh,rfl,aQi⟩:=aEJ hrc;obtain⟨Iw,aQq,rfl,aQr⟩:=aE8 Rn;obtain⟨sm1,sm2,sm3,sm4,sm5,sm6⟩:=hW.small;subst pJ;subst hn2;subst pI;subst rG
 have Wx:=aFE (es:=s.aF) (bs:=Kz) aSV
 have ho4:=aFE (es:=s.aC) (bs:=Iw) aS0
 refine aM func75 ntmps75 ?_;refine cP ?_;refine eC ?_;refine bA fun g1=>?_;refine bX fun g2=>?_;refine dO ?_;refine Tq (fun e R H=>∃C j1 D j2 E j3 V j4 g3,e=[(3,pt g3),(2,pt g2)]∧R=[all w]∧H=[HP.own 86 6 (.slice C s.aF.length j1) s.aF.length (Sy s Kz).flatten,HP.own 38 6 (.slice V s.aC.length j4) s.aC.length (Su s Iw).flatten,HP.own 50 3 (.slice D s.domains.length j2) s.domains.length rd.flatten,HP.own 88 1 (.slice E s.aR.length j3) s.aR.length rr.flatten,HP.aE g3 30 [.slice C s.aF.length j1,.slice D s.domains.length j2,.slice E s.aR.length j3,.slice V s.aC.length j4],HP.aE g2 30 [sn,sn,sn,sn]]) ?_ ?_
 ·refine rL 14 (by kernel_rfl) (by kernel_rfl) ?_;refine bJ 0 ?_;refine bJ 1 ?_;refine bJ 3 ?_;refine bJ 4 ?_;refine bJ 6 ?_;refine bJ 7 ?_;refine bJ 9 ?_;refine bJ 10 ?_;refine aK1 (j:=13) 3 30 [sn,sn,sn,sn] fun M=>?_;refine Tv 2 13 rfl rfl (iG (by kernel_rfl)) (by decide) (by kernel_rfl) (by kernel_rfl) (fun _ h=>h) (fun M=>?_);refine Uk (f:=147) (fi:=[]) (ca:=[]) (by kernel_rfl) (Sk M rfl rfl) (Sj M rfl rfl) (by decide) (aKH s.aF.length (Sy s Kz).flatten) (fun w1 st=>aOq A1 _ k1 _ w1 (hsc.le (st.le (by simp))) Wx sm1) ?_;rintro _ _ q1 ⟨C,j1,rfl,rfl⟩ _;dsimp only[List.cons_append,List.nil_append];refine aCb ?_;refine iE ?_;refine gT ?_;refine aAi (by decide) rfl (fun _ h=>h.aZ.tail) ?_;refine Tv 5 13 rfl rfl (iG (by kernel_rfl)) (by decide) (by kernel_rfl) (by kernel_rfl) (fun _ h=>h.aZ.tail) (fun M=>?_);refine Uk (f:=148) (fi:=[]) (ca:=[]) (by kernel_rfl) (Sk M rfl rfl) (Sj M rfl rfl) (by decide) (aKF s.domains.length rd.flatten) (fun w1 st=>aOo A2 _ k2 _ w1 (hsd.le (st.le (by simp))) (aSg hrd) sm2) ?_;rintro _ _ q2 ⟨D,j2,rfl,rfl⟩ _;dsimp only[List.cons_append,List.nil_append];refine aCb ?_;refine iE ?_;refine gT ?_;refine aAi (by decide) rfl (fun _ h=>h.aZ.tail.aZ.tail) ?_;refine Tv 8 13 rfl rfl (iG (by kernel_rfl)) (by decide) (by kernel_rfl) (by kernel_rfl) (fun _ h=>h.aZ.tail.aZ.tail) (fun M=>?_);refine Uk (f:=149) (fi:=[]) (ca:=[]) (by kernel_rfl) (Sk M rfl rfl) (Sj M rfl rfl) (by decide) (aKD s.aR.length rr.flatten) (fun w1 st=>aOm A3 _ k3 _ w1 (hst.le (st.le (by simp))) (aMK cF) sm3) ?_;rintro _ _ q3 ⟨E,j3,rfl,rfl⟩ _;dsimp only[List.cons_append,List.nil_append];refine aCb ?_;refine iE ?_;refine gT ?_;refine aAi (by decide) rfl (fun _ h=>h.aZ.tail.aZ.tail.aZ.tail) ?_;refine Tv 11 13 rfl rfl (iG (by kernel_rfl)) (by decide) (by kernel_rfl) (by kernel_rfl) (fun _ h=>h.aZ.tail.aZ.tail.aZ.tail) (fun M=>?_);refine Uk (f:=150) (fi:=[]) (ca:=[]) (by kernel_rfl) (Sk M rfl rfl) (Sj M rfl rfl) (by decide) (aKG s.aC.length (Su s Iw).flatten) (fun w1 st=>aOp A4 _ k4 _ w1 (vT.le (st.le (by simp))) ho4 sm4) ?_;rintro _ _ q4 ⟨V,j4,rfl,rfl⟩ _;dsimp only[List.cons_append,List.nil_append];refine aCb ?_;refine iE ?_;refine gT ?_;refine aAi (by decide) rfl (fun _ h=>h.aZ.tail.aZ.tail.aZ.tail.aZ.tail) ?_;cases M with
  | none=>
   dsimp only[vZ,yL,Ai,Gb];refine fM 12 rfl rfl rfl (by decide) (lZ (zs:=[sn,sn,sn,sn]) (L:=[(0,1),(1,1),(2,1),(3,1)]) (iG (by kernel_rfl)) (by kernel_rfl) rfl (by simp[fJ,gK,Value.cells];rfl)) (by kernel_rfl) (fun _ _ _ h=>h) (fun _ h=>h.aZ.tail.aZ.tail.aZ.tail.aZ.tail) ?_;refine cH 13 ?_;refine bX fun g3=>?_;refine iE ?_;refine gT ?_;refine lB (fun _ h=>h.tail.aZ.tail.aZ.tail.aZ.tail.aZ.tail) ?_;refine cH 14 ?_;refine oL 0 rfl ?_;dsimp only[List.set];refine eZ ?_;refine kH ?_;refine dS ?_;exact aY [4,1,3,2,0,5] rfl (by decide) (by simp) (bL [(3,pt g3),(2,pt g2)] (aAa ⟨C,j1,D,j2,E,j3,V,j4,g3,rfl,rfl,rfl⟩))
  | some g3=>
   dsimp only[vZ,yL,Ai,Gb];refine fM 12 rfl rfl rfl (by decide) (lZ (zs:=[sn,sn,sn,sn]) (L:=[(0,1),(1,1),(2,1),(3,1)]) (iG (by kernel_rfl)) (by kernel_rfl) rfl (by simp[fJ,gK,Value.cells];rfl)) (by kernel_rfl) (fun _ _ _ h=>h) (fun _ h=>h.tail.aZ.tail.aZ.tail.aZ.tail.aZ.tail) ?_;refine cH 14 ?_;refine oL 0 rfl ?_;dsimp only[List.set];refine eZ ?_;refine kH ?_;refine dS ?_;exact aY [4,1,3,2,0,5] rfl (by decide) (by simp) (bL [(3,pt g3),(2,pt g2)] (aAa ⟨C,j1,D,j2,E,j3,V,j4,g3,rfl,rfl,rfl⟩))
 rintro _ _ _ ⟨C,j1,D,j2,E,j3,V,j4,g3,rfl,rfl,rfl⟩;refine Bu (p:=HP.bR (zI s Kz 0) (zI.le (s:=s) (fa:=Kz) (i:=0))) (fun w1 j c a hj=>absurd hj (by omega)) ?_;refine aA ?_;refine bL [(23,iv 0),(22,iv s.aF.length),(3,pt g3),(2,pt g2)] ?_;refine eJ (fun m e R H=>∃(i:Nat) (fa:List AC),i≤s.aF.length∧fa.length=s.aF.length∧(∀j,i≤j→fa[j]? =Kz[j]?)∧m=s.aF.length - i∧e=[(23,iv i),(22,iv s.aF.length),(3,pt g3),(2,pt g2)]∧R=[all w]∧H=[HP.bR (zI s fa i) (zI.le (s:=s) (fa:=fa) (i:=i)),HP.own 86 6 (.slice C s.aF.length j1) s.aF.length (Sy s fa).flatten,HP.own 38 6 (.slice V s.aC.length j4) s.aC.length (Su s Iw).flatten,HP.own 50 3 (.slice D s.domains.length j2) s.domains.length rd.flatten,HP.own 88 1 (.slice E s.aR.length j3) s.aR.length rr.flatten,HP.aE g3 30 [.slice C s.aF.length j1,.slice D s.domains.length j2,.slice E s.aR.length j3,.slice V s.aC.length j4],HP.aE g2 30 [sn,sn,sn,sn]]) s.aF.length ⟨0,Kz,by omega,aQh,fun _ _=>rfl,rfl,rfl,rfl,rfl⟩ fun m e R H hI=>?_;obtain⟨i,fa,hi,hfl,hsame,rfl,rfl,rfl,rfl⟩:=hI;refine aA ?_;refine aG rfl (fun hlt=>?_) (fun hge=>?_)
 ·have hlt:i < s.aF.length:=by omega
  obtain⟨c,hc⟩:=get_some hlt;obtain⟨a,ha⟩:=get_some (l:=fa) (i:=i) (by omega)
  have ha0:Kz[i]? =some a:=by rw[←hsame i (Nat.le_refl _)];exact ha
  have aQg:=aQi i c a hc ha0
  have hcs:=sm5 c (List.mem_of_getElem? hc)
  refine aY [1,0,2,3,4,5,6] rfl (by decide) (fun _ h=>h) ?_;refine aCd 0 rfl (by omega) fun gC hC=>?_;subst hC;refine Ti 0 rfl fun cs h1 h2 h3 h4=>?_;dsimp only[List.set];obtain⟨gB,iJ⟩:=aAq (f:=Bl) (es:=s.aF) (bs:=fa) (sz:=6) hfl (fun _ _=>rfl)
  have hs:=Ik h2 gB iJ (Uh hc ha)
  refine aA ?_;refine rL 10 (by kernel_rfl) (by kernel_rfl) ?_;refine bJ 0 ?_;refine bJ 1 ?_;refine bJ 2 ?_;refine bJ 3 ?_;refine bJ 4 ?_;refine bJ 5 ?_;refine bJ 6 ?_ (dH:=dat (sz:=6) i (i*6));refine bJ 7 ?_;refine bJ 8 ?_;refine cH 9 ?_;refine iA (aFy c.src.length (aK c.src)) (fun w1 st=>aHu a.1 _ a.2 _ w1 (aI.le aQg (st.le (by simp))) (Re _) hcs) ?_;rintro _ _ q ⟨Af,kf,rfl,rfl⟩ _;dsimp only[List.cons_append,List.nil_append];refine nY ?_;refine cH 10 ?_;refine kd (dat i (i*6)) ?_;refine eZ ?_;refine cH 11 ?_;refine bK ?_;refine eZ ?_;refine cH 12 ?_;refine fD rfl rfl ?_;dsimp only[List.set];refine eZ ?_;refine kH ?_
  have hs1:=hs.set 1 (.slice Af c.src.length kf) (by simp[Bl]) (by omega)
  have vS:=(wF.refl cs (i*6) 6).set 1 (.slice Af c.src.length kf) (by decide)
  have hf:=Gc (r':=Bl c (Af,kf)) h2 gB iJ hlt (by omega) rfl hs1 vS
  rw[show(Sy s fa).set i (Bl c (Af,kf))=Sy s (fa.set i (Af,kf)) from aFD hc (by omega)] at hf;refine Ov 1 (n:=s.aF.length) (c:=j1) (sz:=6) rfl (by simpa using h1) hf h3 h4 ?_;dsimp only[List.set];refine Gn 0 (Φ:=fun p=>aI p 1 Af c.src.length (aK c.src)) (hm:=fun p q hl h=>aI.le h hl) rfl (fun p h=>h) ?_;dsimp only[List.set];refine aY [0,2,1,3,4,5,6,7] rfl (by decide) (fun _ h=>h) ?_
  refine Tn (X:=zI s (fa.set i (Af,kf)) (i+1)) (h3:=zI.le) (fun p h1 h2 j c' a' hj Ia yS=>by
   rcases Nat.lt_or_ge j i with h | h
   ·rw[List.getElem?_set_ne (by omega)] at yS;exact h2 j c' a' h Ia yS
   ·obtain rfl:j=i:=by omega
    rw[hc] at Ia;cases Ia;rw[List.getElem?_set_self (by omega)] at yS;cases yS
    exact h1) ?_
  refine aA ?_;refine bL [(23,iv (i+1:Nat)),(22,iv s.aF.length),(3,pt g3),(2,pt g2)] ?_;refine aBY (R':=[all w]) (by simp) ?_;exact iD (s.aF.length - (i+1)) (by omega) ⟨i+1,fa.set i (Af,kf),hlt,by simpa using hfl,fun j hj=>by rw[List.getElem?_set_ne (by omega)];exact hsame j (by omega),rfl,rfl,rfl,rfl⟩
 ·obtain rfl:i=s.aF.length:=by omega
  refine Bu (p:=HP.bR (Ei s Iw 0) (Ei.le (s:=s) (da:=Iw) (i:=0))) (fun w1 j d a hj=>absurd hj (by omega)) ?_;refine aA ?_;refine bL [(42,iv 0),(41,iv s.aC.length),(3,pt g3),(2,pt g2)] ?_;refine eJ (fun m e R H=>∃(i:Nat) (da:List (AC×AC)),i≤s.aC.length∧da.length=s.aC.length∧(∀j,i≤j→da[j]? =Iw[j]?)∧m=s.aC.length - i∧e=[(42,iv i),(41,iv s.aC.length),(3,pt g3),(2,pt g2)]∧R=[all w]∧H=[HP.bR (Ei s da i) (Ei.le (s:=s) (da:=da) (i:=i)),HP.bR (zI s fa s.aF.length) (zI.le (s:=s) (fa:=fa) (i:=s.aF.length)),HP.own 86 6 (.slice C s.aF.length j1) s.aF.length (Sy s fa).flatten,HP.own 38 6 (.slice V s.aC.length j4) s.aC.length (Su s da).flatten,HP.own 50 3 (.slice D s.domains.length j2) s.domains.length rd.flatten,HP.own 88 1 (.slice E s.aR.length j3) s.aR.length rr.flatten,HP.aE g3 30 [.slice C s.aF.length j1,.slice D s.domains.length j2,.slice E s.aR.length j3,.slice V s.aC.length j4],HP.aE g2 30 [sn,sn,sn,sn]]) s.aC.length ⟨0,Iw,by omega,aQq,fun _ _=>rfl,rfl,rfl,rfl,rfl⟩ fun m e R H hI=>?_;obtain⟨i,da,hi,iY,aId,rfl,rfl,rfl,rfl⟩:=hI;refine aA ?_;refine aG rfl (fun hlt=>?_) (fun hge=>?_)
  ·have hlt:i < s.aC.length:=by omega
   obtain⟨d,hd⟩:=get_some hlt;obtain⟨⟨a1,a2⟩,ha⟩:=get_some (l:=da) (i:=i) (by omega)
   have ha0:Iw[i]? =some (a1,a2):=by rw[←aId i (Nat.le_refl _)];exact ha
   obtain⟨aDN,aIr⟩:=aQr i d _ hd ha0
   have eH:=Kg d (List.mem_of_getElem? hd)
   have iI:=sm6 d (List.mem_of_getElem? hd)
   refine aY [3,0,1,2,4,5,6,7] rfl (by decide) (fun _ h=>h) ?_;refine aCd 0 rfl (by omega) fun gV hV=>?_;subst hV;refine Ti 0 rfl fun cs h1 h2 h3 h4=>?_;dsimp only[List.set];obtain⟨gB,iJ⟩:=aAq (f:=Bk) (es:=s.aC) (bs:=da) (sz:=6) iY (fun _ _=>rfl)
   have hs:=Ik h2 gB iJ (Uh hd ha)
   refine aA ?_;refine kd (dat i (i*6)) ?_;refine aA ?_;refine jO [3,4,5,8,9,10] ?_;refine bT 0 ?_;refine bT 1 ?_;refine bT 2 ?_;refine bT 7 ?_;refine aJ 3 ?_;refine aJ 4 ?_;refine aJ 5 ?_;refine aJ 8 ?_;refine aJ 9 ?_;refine aJ 10 ?_;refine aL 6 ?_;refine iA (aKE d.aO.length (d.aO.flatMap Rg.cells)) (fun w1 st=>aOn a1.1 _ a1.2 _ w1 (aI.le aDN (st.le (by simp))) Qh eH) ?_;rintro _ _ q1 ⟨Ag,kg,rfl,rfl⟩ _;dsimp only[List.cons_append,List.nil_append];refine bH ?_;refine aL 11 ?_;refine iA (aFy d.iS.length (aK d.iS)) (fun w1 st=>aHu a2.1 _ a2.2 _ w1 (aI.le aIr (st.le (by simp))) (Re _) iI) ?_;rintro _ _ q2 ⟨An,kn,rfl,rfl⟩ _;dsimp only[List.cons_append,List.nil_append];refine bH ?_ (hS:=fun _ h=>h.aZ.tail.aZ.tail);refine aL 12 ?_;refine bK ?_;refine bH ?_ (hS:=fun _ h=>h.aZ.tail.aZ.tail);refine aL 13 ?_;refine bK ?_;refine bH ?_ (hS:=fun _ h=>h.aZ.tail.aZ.tail);refine aL 14 ?_;refine fD rfl rfl ?_;dsimp only[List.set];refine cT ?_;refine aL 15 ?_;refine bK ?_;refine cT ?_;refine aL 16 ?_;refine bK ?_;refine cT ?_;refine aL 17 ?_;refine fD rfl rfl ?_;dsimp only[List.set];refine cT ?_;refine fE ?_
   have hs1:=(hs.set 4 (.slice Ag d.aO.length kg) (by simp[Bk]) (by omega)).set 5 (.slice An d.iS.length kn) (by simp[Bk]) (by simp;omega)
   have vS:=((wF.refl cs (i*6) 6).set 4 (.slice Ag d.aO.length kg) (by decide)).set 5 (.slice An d.iS.length kn) (by decide)
   have hf:=Gc (r':=Bk d ((Ag,kg),(An,kn))) h2 gB iJ hlt (by omega) rfl hs1 vS
   rw[show(Su s da).set i (Bk d ((Ag,kg),(An,kn)))=Su s (da.set i ((Ag,kg),(An,kn))) from aFD hd (by omega)] at hf;refine Ov 2 (n:=s.aC.length) (c:=j4) (sz:=6) rfl (by simpa using h1) hf h3 h4 ?_;dsimp only[List.set];refine Gn 0 (Φ:=fun p=>aI p 1 An d.iS.length (aK d.iS)) (hm:=fun p q hl h=>aI.le h hl) rfl (fun p h=>h) ?_;refine Gn 1 (Φ:=fun p=>aI p 2 Ag d.aO.length (d.aO.flatMap Rg.cells)) (hm:=fun p q hl h=>aI.le h hl) rfl (fun p h=>h) ?_;dsimp only[List.set];refine Tn (X:=fun p=>aI p 1 An d.iS.length (aK d.iS)∧aI p 2 Ag d.aO.length (d.aO.flatMap Rg.cells)) (h3:=fun p q hl h=>⟨aI.le h.1 hl,aI.le h.2 hl⟩) (fun p h1 h2=>⟨h1,h2⟩) ?_;refine aY [0,2,3,4,1,5,6,7,8] rfl (by decide) (fun _ h=>h) ?_
   refine Tn (X:=Ei s (da.set i ((Ag,kg),(An,kn))) (i+1)) (h3:=Ei.le) (fun p h1 h2 j d' a' hj hd' yS=>by
    rcases Nat.lt_or_ge j i with h | h
    ·rw[List.getElem?_set_ne (by omega)] at yS;exact h2 j d' a' h hd' yS
    ·obtain rfl:j=i:=by omega
     rw[hd] at hd';cases hd';rw[List.getElem?_set_self (by omega)] at yS;cases yS
     exact⟨h1.2,h1.1⟩) ?_
   refine aA ?_;refine bL [(42,iv (i+1:Nat)),(41,iv s.aC.length),(3,pt g3),(2,pt g2)] ?_;refine aBY (R':=[all w]) (by simp) ?_;exact iD (s.aC.length - (i+1)) (by omega) ⟨i+1,da.set i ((Ag,kg),(An,kn)),hlt,by simpa using iY,fun j hj=>by rw[List.getElem?_set_ne (by omega)];exact aId j (by omega),rfl,rfl,rfl,rfl⟩
  ·obtain rfl:i=s.aC.length:=by omega
   refine aY [6,7,0,1,2,3,4,5] rfl (by decide) (fun _ h=>h) ?_;refine aA ?_;refine dP [] [2,3,4,5,6,7] [1] (by simp) rfl (by decide) (by decide) fun q hq _ hfr=>?_;obtain⟨F0,s0,z0⟩:=hq 2 _ (by simp) rfl;obtain⟨F1,s1,z1⟩:=hq 3 _ (by simp) rfl
   have e0:Ei s da s.aC.length q:=Ei.le ⟨q.w,F0⟩ q (fun b hb=>⟨z0 b hb,rfl⟩) s0
   have e1:zI s fa s.aF.length q:=zI.le ⟨q.w,F1⟩ q (fun b hb=>⟨z1 b hb,rfl⟩) s1
   have e2:=aI.own (hq 4 _ (by simp) rfl)
   have e3:=aI.own (hq 5 _ (by simp) rfl)
   have e4:=aI.own (hq 6 _ (by simp) rfl)
   have e5:=aI.own (hq 7 _ (by simp) rfl)
   have hS:wH (fH q) s #[.slice C s.aF.length j1,.slice D s.domains.length j2,.slice E s.aR.length j3,.slice V s.aC.length j4]:=
    ⟨C,_,j1,D,_,j2,E,_,j3,V,_,j4,rfl,⟨_,aGO hfl (fun i c a hc ha=>e1 i c a (List.getElem?_eq_some_iff.1 hc).1 hc ha),rfl,e2⟩,⟨rd,hrd,rfl,e4⟩,⟨rr,cF,rfl,e5⟩,⟨_,aGN iY (fun i d p hd hp=>e0 i d p (List.getElem?_eq_some_iff.1 hd).1 hd hp),rfl,e3⟩⟩
   exact Lo (vs:=[.slice C s.aF.length j1,.slice D s.domains.length j2,.slice E s.aR.length j3,.slice V s.aC.length j4]) rfl (by kernel_rfl) rfl rfl (by first | assumption | exact aQ.whole 0 rfl | exact aQ.whole 1 rfl | exact aQ.whole 2 rfl | exact aQ.whole 3 rfl | exact aQ.whole 4 rfl | exact aQ.whole 5 rfl | exact aQ.whole 6 rfl | exact aQ.whole 7 rfl | exact aQ.whole 8 rfl | exact zE (by simp) (by assumption)) fun w1 t=>⟨⟨_,rfl,_,rfl,hS.mono (oB (t.mK (by simp) (hfr (by simp) (by simp))))⟩,t.below (by simp)⟩
end
section
section
variable{P:Program}{N:cE}{w0 w:World}{K:Act→World→Prop}{e:Env}{R:List Piece}{H H':List HP}
theorem Zx{p : HP}{ps : List HP}(h : XK N w0 K e R (HP.many (ps ++ [p]) :: H)) : XK N w0 K e R (p :: HP.many ps :: H) := fun a w hr st => by
  obtain⟨Z,F,hz,cF,hs,dD,dY⟩:=st.ex;obtain⟨G,hG1,hG2,hG3⟩:=hs 1 _ rfl;refine h a w hr ⟨st.os,st.tape,st.output,st.size,Z,fun j=>match j with | 0=>fun b=>F 0 b∨F 1 b | j+1=>F (j+2),hz,cF,fun j r hj=>?_,fun j b hb=>?_,fun j k b lH hj hk=>?_⟩
  · cases j with
    | zero =>
      simp at hj;subst hj;refine⟨fun i b=>if i < ps.length then G i b else i=ps.length∧F 0 b,fun i r hi=>?_,fun i b hb=>?_,fun i k b hik h1 h2=>?_⟩
      · rcases Nat.lt_or_ge i ps.length with hl | hl
        · rw[List.getElem?_append_left hl] at hi
          show r.sat (fun b=>if i < ps.length then G i b else i=ps.length∧F 0 b) w
          rw[show(fun b=>if i < ps.length then G i b else i=ps.length∧F 0 b)=G i by funext b;rw[if_pos hl]];exact hG1 i r hi
        · rw[List.getElem?_append_right hl] at hi
          have h0:=Az hi
          have hil:i=ps.length:=by simp at h0;omega
          subst hil;simp at hi;subst hi
          show p.sat (fun b=>if ps.length < ps.length then G ps.length b else ps.length=ps.length∧F 0 b) w
          rw[show(fun b=>if ps.length < ps.length then G ps.length b else ps.length=ps.length∧F 0 b)=F 0 by funext b;simp];exact hs 0 _ rfl
      · dsimp only at hb
        split at hb
        · exact .inr (hG2 i b hb)
        · exact .inl hb.2
      · dsimp only at h1 h2
        split at h1<;>split at h2
        · exact hG3 i k b hik h1 h2
        · exact dY 1 0 b (by omega) (hG2 i b h1) h2.2
        · exact dY 0 1 b (by omega) h1.2 (hG2 k b h2)
        · omega
    | succ j=>exact hs (j+2) r (by simpa using hj)
  · cases j with
    | zero=>rcases hb with hb | hb<;>exact dD _ b hb
    | succ j=>exact dD _ b hb
  · cases j with
    | zero => cases k with
      | zero=>exact lH rfl
      | succ k => rcases hj with hj | hj
                  · exact dY 0 (k+2) b (by omega) hj hk
                  · exact dY 1 (k+2) b (by omega) hj hk
    | succ j => cases k with
      | zero => rcases hk with hk | hk
                · exact dY 0 (j+2) b (by omega) hk hj
                · exact dY 1 (j+2) b (by omega) hk hj
      | succ k=>exact dY (j+2) (k+2) b (by omega) hj hk
end
theorem Zw{N:cE}{w0:World}{e:Env}{R:List Piece}{H:List HP}{K:Act→World→Prop}{p q r:HP}(h:XK N w0 K e R (HP.many [p,q,r]::H)):XK N w0 K e R (p::q::r::H):=by
 refine nA ?_;refine fun a w hr st=>?_
 refine(Zx (ps:=[p,q]) (p:=r) h) a w hr (st.weak (fun _ h=>h) (fun i=>match i with
  | 0=>1
  | 1=>0
  | i+2=>i+2) (fun i j _ _ he=>by
   match i,j with
   | 0,0=>rfl
   | 0,1=>simp at he
   | 0,j+2=>simp at he
   | 1,0=>simp at he
   | 1,1=>rfl
   | 1,j+2=>simp at he
   | i+2,0=>simp at he
   | i+2,1=>simp at he
   | i+2,j+2=>simpa using he) (fun i p hi=>by
   match i,hi with
   | 0,hi=>simpa using hi
   | 1,hi=>simpa using hi
   | i+2,hi=>simpa using hi))
end
section
theorem aUi{N:cE}{w0:World}{e:Env}{R:List Piece}{H:List HP}{K:Act→World→Prop}{p q r s:HP}(h:XK N w0 K e R (HP.many [p,q,r,s]::H)):XK N w0 K e R (p::q::r::s::H):=by
 refine nA ?_;refine fun a w hr st=>?_
 have swap:∀{x y:HP} {H:List HP} {w:World},St w0 R (x::y::H) w→St w0 R (y::x::H) w:=fun st=>st.weak (fun _ h=>h) (fun i=>match i with
  | 0=>1
  | 1=>0
  | i+2=>i+2) (fun i j _ _ he=>by
   match i,j with
   | 0,0=>rfl
   | 0,1=>simp at he
   | 0,j+2=>simp at he
   | 1,0=>simp at he
   | 1,1=>rfl
   | 1,j+2=>simp at he
   | i+2,0=>simp at he
   | i+2,1=>simp at he
   | i+2,j+2=>simpa using he) (fun i p hi=>by
   match i,hi with
   | 0,hi=>simpa using hi
   | 1,hi=>simpa using hi
   | i+2,hi=>simpa using hi)
 refine(Zx (ps:=[p,q]) (p:=r) (H:=s::H) (fun a w hr st=>?_)) a w hr (swap st);exact(Zx (ps:=[p,q,r]) (p:=s) h) a w hr (swap st)
def aKY(d:bO)(v:Value)(hs:List HP)(_:Piece):Prop:=∃L:FL,v=.tuple #[.pointer (some ⟨L.f,0,none⟩),iv 0]∧hs=[iF L d (Gd d)]
theorem Fb(l:List Rg):List.replicate l.length (Value.int .u32 0)=nR (l.map fun _=>0):=by
 refine List.ext_getElem? fun j=>?_;simp only[nR,List.map_map,List.getElem?_replicate,List.getElem?_map]
 by_cases h:j < l.length
 ·rw[if_pos h,List.getElem?_eq_getElem h];rfl
 ·rw[if_neg h,List.getElem?_eq_none (by omega)];rfl
theorem aNv(d:bO)(hrl:d.aO.length≤8)(cF:∀r∈d.aO,0≤r.reset∧r.reset < 4294967296)(A:Option Addr)(c:Nat)(w:World)(hs:aI (all w) 2 A d.aO.length (d.aO.flatMap Rg.cells)):
  Cz 71 #[.slice A d.aO.length c] w (fun y w'=>(∃v hs q,y=.returned v∧q.w=w'∧aKY d v hs q∧jD w hs q)∧Below w.heap.size w w'):=by
 refine aM func71 ntmps71 ?_;refine cP ?_;refine eC ?_;refine bK ?_;refine bK ?_;refine dO ?_;refine cP ?_;refine cP ?_;refine eC ?_;refine bK ?_;refine bK ?_;refine bK ?_;refine aB ?_;refine aG rfl (fun h=>absurd h (by omega)) (fun _=>?_);refine mA ?_;refine dS ?_;refine Tq (fun e R H=>∃B j gn gs g3,e=[(4,pt g3)]∧R=[all w]∧H=[HP.aE g3 298 [.slice B d.aO.length j,.slice (some ⟨gn,0,none⟩) d.aO.length d.aO.length,.slice (some ⟨gs,0,none⟩) d.aO.length d.aO.length,.bool false],HP.aE gn 23 (nR (d.aO.map fun _=>0)),HP.aE gs 23 (nR (d.aO.map fun _=>0)),HP.own 48 2 (.slice B d.aO.length j) d.aO.length (d.aO.flatMap Rg.cells)]) ?_ ?_
 ·refine rL 8 (by kernel_rfl) (by kernel_rfl) ?_;refine bJ 0 ?_;refine bJ 2 ?_;refine bJ 3 ?_;refine bJ 5 ?_;refine bJ 6 ?_;refine aU8 1 4 7 rfl rfl rfl (by kernel_rfl) ?_ ?_ ?_
  ·skip
   refine iA (Uf d.aO.length (d.aO.flatMap Rg.cells)) (fun w1 st=>Ze A _ c _ w1 (hs.le (st.le (by simp))) Qh (by omega)) ?_;rintro _ _ q ⟨B,j,rfl,rfl⟩ _;dsimp only[List.cons_append,List.nil_append];refine nY ?_ (hS:=(fun _ h=>h.aZ.tail));refine Lv 4 7 rfl rfl (by kernel_rfl) ?_ ?_
   ·skip
    refine lO (n:=d.aO.length) 4 (el:=23) (z:=.int .u32 0) (by kernel_rfl) (by kernel_rfl) rfl rfl rfl (by omega) (by omega) (by decide) fun gn=>?_;rw[Fb d.aO];refine nY ?_ (hS:=(fun _ h=>h.tail.aZ.tail));refine cH 7 ?_;refine lO (n:=d.aO.length) 4 (el:=23) (z:=.int .u32 0) (by kernel_rfl) (by kernel_rfl) rfl rfl rfl (by omega) (by omega) (by decide) fun gs=>?_;rw[Fb d.aO];refine nY ?_ (hS:=(fun _ h=>h.tail.tail.aZ.tail));refine cH 8 ?_;refine kd (fY rfl) ?_;refine eZ ?_;refine cH 9 ?_;refine bA fun g3=>?_;refine eZ ?_;refine cH 10 ?_;refine bK ?_;refine eZ ?_;refine kH ?_;refine dS ?_;exact pO ⟨B,j,gn,gs,g3,rfl,rfl,rfl⟩
   ·skip
    refine lO (n:=d.aO.length) 4 (el:=23) (z:=.int .u32 0) (by kernel_rfl) (by kernel_rfl) rfl rfl rfl (by omega) (by omega) (by decide) fun gs=>?_;rw[Fb d.aO];refine nY ?_ (hS:=(fun _ h=>h.tail.aZ.tail));refine cH 4 ?_;refine lO (n:=d.aO.length) 4 (el:=23) (z:=.int .u32 0) (by kernel_rfl) (by kernel_rfl) rfl rfl rfl (by omega) (by omega) (by decide) fun gn=>?_;rw[Fb d.aO];refine nY ?_ (hS:=(fun _ h=>h.tail.tail.aZ.tail));refine cH 8 ?_;refine kd (fY rfl) ?_;refine eZ ?_;refine cH 9 ?_;refine bA fun g3=>?_;refine eZ ?_;refine cH 10 ?_;refine bK ?_;refine eZ ?_;refine kH ?_;refine dS ?_;exact pO ⟨B,j,gn,gs,g3,rfl,rfl,rfl⟩
  ·skip
   refine lO (n:=d.aO.length) 4 (el:=23) (z:=.int .u32 0) (by kernel_rfl) (by kernel_rfl) rfl rfl rfl (by omega) (by omega) (by decide) fun gn=>?_;rw[Fb d.aO];refine nY ?_ (hS:=(fun _ h=>h.tail));refine Lv 1 7 rfl rfl (by kernel_rfl) ?_ ?_
   ·skip
    refine iA (Uf d.aO.length (d.aO.flatMap Rg.cells)) (fun w1 st=>Ze A _ c _ w1 (hs.le (st.le (by simp))) Qh (by omega)) ?_;rintro _ _ q ⟨B,j,rfl,rfl⟩ _;dsimp only[List.cons_append,List.nil_append];refine nY ?_ (hS:=(fun _ h=>h.aZ.tail.tail));refine cH 7 ?_;refine lO (n:=d.aO.length) 4 (el:=23) (z:=.int .u32 0) (by kernel_rfl) (by kernel_rfl) rfl rfl rfl (by omega) (by omega) (by decide) fun gs=>?_;rw[Fb d.aO];refine nY ?_ (hS:=(fun _ h=>h.tail.aZ.tail.tail));refine cH 8 ?_;refine kd (fY rfl) ?_;refine eZ ?_;refine cH 9 ?_;refine bA fun g3=>?_;refine eZ ?_;refine cH 10 ?_;refine bK ?_;refine eZ ?_;refine kH ?_;refine dS ?_;exact pO ⟨B,j,gn,gs,g3,rfl,rfl,rfl⟩
   ·skip
    refine lO (n:=d.aO.length) 4 (el:=23) (z:=.int .u32 0) (by kernel_rfl) (by kernel_rfl) rfl rfl rfl (by omega) (by omega) (by decide) fun gs=>?_;rw[Fb d.aO];refine nY ?_ (hS:=(fun _ h=>h.tail.tail));refine cH 1 ?_;refine iA (Uf d.aO.length (d.aO.flatMap Rg.cells)) (fun w1 st=>Ze A _ c _ w1 (hs.le (st.le (by simp))) Qh (by omega)) ?_;rintro _ _ q ⟨B,j,rfl,rfl⟩ _;dsimp only[List.cons_append,List.nil_append];refine nY ?_ (hS:=(fun _ h=>h.aZ.tail.tail.tail));refine cH 8 ?_;refine kd (fY rfl) ?_;refine eZ ?_;refine cH 9 ?_;refine bA fun g3=>?_;refine eZ ?_;refine cH 10 ?_;refine bK ?_;refine eZ ?_;refine kH ?_;refine dS ?_;exact pO ⟨B,j,gn,gs,g3,rfl,rfl,rfl⟩
  ·skip
   refine lO (n:=d.aO.length) 4 (el:=23) (z:=.int .u32 0) (by kernel_rfl) (by kernel_rfl) rfl rfl rfl (by omega) (by omega) (by decide) fun gs=>?_;rw[Fb d.aO];refine nY ?_ (hS:=(fun _ h=>h.tail));refine Lv 1 4 rfl rfl (by kernel_rfl) ?_ ?_
   ·skip
    refine iA (Uf d.aO.length (d.aO.flatMap Rg.cells)) (fun w1 st=>Ze A _ c _ w1 (hs.le (st.le (by simp))) Qh (by omega)) ?_;rintro _ _ q ⟨B,j,rfl,rfl⟩ _;dsimp only[List.cons_append,List.nil_append];refine nY ?_ (hS:=(fun _ h=>h.aZ.tail.tail));refine cH 4 ?_;refine lO (n:=d.aO.length) 4 (el:=23) (z:=.int .u32 0) (by kernel_rfl) (by kernel_rfl) rfl rfl rfl (by omega) (by omega) (by decide) fun gn=>?_;rw[Fb d.aO];refine nY ?_ (hS:=(fun _ h=>h.tail.aZ.tail.tail));refine cH 8 ?_;refine kd (fY rfl) ?_;refine eZ ?_;refine cH 9 ?_;refine bA fun g3=>?_;refine eZ ?_;refine cH 10 ?_;refine bK ?_;refine eZ ?_;refine kH ?_;refine dS ?_;exact pO ⟨B,j,gn,gs,g3,rfl,rfl,rfl⟩
   ·skip
    refine lO (n:=d.aO.length) 4 (el:=23) (z:=.int .u32 0) (by kernel_rfl) (by kernel_rfl) rfl rfl rfl (by omega) (by omega) (by decide) fun gn=>?_;rw[Fb d.aO];refine nY ?_ (hS:=(fun _ h=>h.tail.tail));refine cH 1 ?_;refine iA (Uf d.aO.length (d.aO.flatMap Rg.cells)) (fun w1 st=>Ze A _ c _ w1 (hs.le (st.le (by simp))) Qh (by omega)) ?_;rintro _ _ q ⟨B,j,rfl,rfl⟩ _;dsimp only[List.cons_append,List.nil_append];refine nY ?_ (hS:=(fun _ h=>h.aZ.tail.tail.tail));refine cH 8 ?_;refine kd (fY rfl) ?_;refine eZ ?_;refine cH 9 ?_;refine bA fun g3=>?_;refine eZ ?_;refine cH 10 ?_;refine bK ?_;refine eZ ?_;refine kH ?_;refine dS ?_;exact pO ⟨B,j,gn,gs,g3,rfl,rfl,rfl⟩
 rintro _ _ _ ⟨B,j,gn,gs,g3,rfl,rfl,rfl⟩;refine Gn 3 (Φ:=tX d B) (hm:=tX.le (d:=d) (A:=B)) rfl (fun p h=>h) ?_;dsimp only[List.set];refine aUi ?_;refine aB ?_
 refine dR 0 (iF ⟨g3,gn,gs,B,j⟩ d (Gk d ⟨d.aO.map fun _=>0,d.aO.map fun _=>0,false⟩)) (fun w1 G t hG yM hle=>aAM ⟨g3,gn,gs,B,j⟩ d ⟨d.aO.map fun _=>0,d.aO.map fun _=>0,false⟩ (by omega) ⟨by simp,by simp,fun v hv=>by
  obtain⟨r,hr,rfl⟩:=List.mem_map.1 hv;decide,fun v hv=>by
  obtain⟨r,hr,rfl⟩:=List.mem_map.1 hv
  decide⟩ w1 G hG yM) ?_
 refine aB ?_;refine dP [] [] [0] (by simp) rfl (by decide) (by decide) fun q _ _ hfr=>?_;exact eL rfl rfl rfl fun w1 t=>⟨⟨_,_,⟨w1,q.Z⟩,rfl,rfl,⟨⟨g3,gn,gs,B,j⟩,rfl,rfl⟩,t.newR (by simp) (by simp) (hfr (by simp) (by simp))⟩,t.below (by simp)⟩
theorem aNR(w:World):
  Cz 73 #[] w (fun y w'=>(∃v hs q,y=.returned v∧q.w=w'∧(∃g,v=pt g∧hs=[HP.aE g 266 [iv 0,iv 0]])∧jD w hs q)∧Below w.heap.size w w'):=by
 refine aM func73 ntmps73 ?_;refine aA ?_;refine kd (fY rfl) ?_;refine bA fun g=>?_;refine aA ?_;refine dP [] [] [0] (by simp) rfl (by decide) (by decide) fun q _ _ hfr=>?_;exact aT (h:=fun w1 t=>⟨_,_,⟨w1,q.Z⟩,rfl,rfl,⟨g,rfl,rfl⟩,t.newR (by simp) (by simp) (hfr (by simp) (by simp))⟩)
end
section
def Ua(x:dL):List Value:=[iv x.at_,iv x.denied]
def vB(g:Nat)(x:dL):HP:=HP.aE g 266 (Ua x)
def Uc(w:World):Prop:=∀i v,[(114:Int),97,115,100][i]? =some v→fQ w 0 i (.int .u8 v)
theorem Uc.below{w w':World}(h:Uc w)(hb:Below w.heap.size w w'):Uc w':=fun i v hv=>
 ⟨Nat.lt_of_lt_of_le (h i v hv).1 hb.size,(hb.cell (p:=⟨0,i,none⟩) (h i v hv).1).trans (h i v hv).2⟩
theorem aHj(g:Nat)(x:dL)(hx:Cb x)(w:World)(hL:Uc w)(hR:eD w g 0 (Ua x)):
  Cz 224 #[pt g] w (Rt (.int .u8 (qL x.at_)) w):=by
 have k0:=hR.at_ (j:=0) rfl
 obtain⟨h1,h2⟩:=hx;obtain⟨i,hi⟩:∃i:Nat,x.at_=i:=⟨x.at_.toNat,by omega⟩
 have hv:[(114:Int),97,115,100][i]? =some (qL x.at_):=by
  have:i=0∨i=1∨i=2∨i=3:=by omega
  rcases this with rfl | rfl | rfl | rfl<;>rw[hi]<;>rfl
 have k1:=hL i _ hv
 have hlt:i < 4:=by omega
 rw[hi] at k0 k1⊢;refine aM func224 ntmps224 ?_;refine aA ?_;refine kd (fZ i i) ?_;refine aA ?_;exact cY
section
variable{g:Nat}{x:dL}{w:World}{F:Nat→Prop}
theorem aNU(hp:(vB g x).sat F w)(hF:∀b,F b→b < w.heap.size):
  Cz 240 #[pt g] w (Wr (iv (sI x).1) (vB g (sI x).2) w F):=by
 refine dJ func240 ntmps240 hp hF ?_;dsimp only[vB,Ua];refine aA ?_;refine aG rfl (fun h=>?_) (fun h=>?_)
 ·have hr:sI x=(6,x):=if_pos (by simpa using h)
  rw[hr];refine aA ?_;exact cG 0 hF
 ·have hr:sI x=(0,⟨1,x.denied⟩):=if_neg (by simpa using h)
  rw[hr];refine aA ?_;exact cG 0 hF
theorem aNT(hp:(vB g x).sat F w)(hF:∀b,F b→b < w.heap.size):
  Cz 225 #[pt g] w (Wr (iv (nU x).1) (vB g (nU x).2) w F):=by
 refine dJ func225 ntmps225 hp hF ?_;dsimp only[vB,Ua];refine aA ?_;refine bQ (t:=11) rfl (fun h2=>?_) (fun h2=>?_)
 ·refine aA ?_;refine aG rfl (fun h=>?_) (fun h=>?_)
  ·have hr:nU x=(6,x):=if_pos ⟨by simpa using h2,by simpa using h⟩
   rw[hr];refine aA ?_;exact cG 0 hF
  ·have hr:nU x=(0,⟨0,x.denied⟩):=if_neg fun h3=>h3.2 (by simpa using h)
   rw[hr];refine aA ?_;exact cG 0 hF
 ·have hr:nU x=(0,⟨0,x.denied⟩):=if_neg fun h3=>h3.1 (by simpa using h2)
  rw[hr];refine aA ?_;exact cG 0 hF
theorem aNS(Om cZ:Bool)(hp:(vB g x).sat F w)(hF:∀b,F b→b < w.heap.size):
  Cz 56 #[pt g,.bool Om,.bool cZ] w (Wr (.tuple #[]) (vB g (uG x Om cZ)) w F):=by
 refine dJ func56 ntmps56 hp hF ?_;dsimp only[vB,Ua];refine aA ?_;refine aG rfl (fun h=>?_) (fun h=>?_)
 ·have hr:uG x Om cZ=x:=if_pos (by simpa using h)
  rw[hr];refine aA ?_;exact kC 0 hF
 ·have h1:¬x.at_≠1:=by simpa using h
  cases cZ
  ·cases Om
   ·have hr:uG x false false=⟨2,0⟩:=(if_neg h1).trans ((if_neg (by decide)).trans (if_neg (by decide)))
    rw[hr];refine aA ?_;exact kC 0 hF
   ·have hr:uG x true false=x:=(if_neg h1).trans ((if_neg (by decide)).trans (if_pos rfl))
    rw[hr];refine aA ?_;exact kC 0 hF
  ·have hr:uG x Om true=⟨3,IntKind.i64.wrap (x.denied+1)⟩:=(if_neg h1).trans (if_pos rfl)
   rw[hr];refine aA ?_;refine zO rfl rfl rfl (by decide) ?_;refine aA ?_;exact kC 0 hF
end
end
section
structure TL where
 t:Nat
 A:Option Addr
 c:Nat
 fa:List (Option Addr×Nat)
def sV(c:eF)(a:Option Addr×Nat)(x:eP):List Value:=[.int .u8 c.kind,.slice a.1 c.src.length a.2,.int .u64 c.rate,iv c.mul,iv c.div,iv c.lock,.bool x.on,iv x.left,iv 0,iv 0,iv (byF c)]
def kJ(s:aD)(fa:List (Option Addr×Nat))(st:List eP):List (List Value):=List.zipWith (fun c p=>sV c p.1 p.2) s.aF (fa.zip st)
structure xK(w:World)(L:TL)(s:aD)(st:List eP):Prop where
 r0:fQ w L.t 0 (.slice L.A s.aF.length L.c)
 row:aI (all w) 11 L.A s.aF.length (kJ s L.fa st).flatten
 sZ:∀(i:Nat) (c:eF) (a:Option Addr×Nat),s.aF[i]? =some c→L.fa[i]? =some a→aI (all w) 1 a.1 c.src.length (aK c.src)
 fl:L.fa.length=s.aF.length
 ok:qZ s st
theorem xK.below{w w':World}{L:TL}{s:aD}{st:List eP}(h:xK w L s st)(hb:Below w.heap.size w w'):xK w' L s st:=
 ⟨⟨Nat.lt_of_lt_of_le h.r0.1 hb.size,(hb.cell (p:=⟨_,0,none⟩) h.r0.1).trans h.r0.2⟩,h.row.le (jU hb),fun i c a hc ha=>(h.sZ i c a hc ha).le (jU hb),h.fl,h.ok⟩
theorem xK.node{w:World}{L:TL}{s:aD}{st:List eP}(h:xK w L s st){i:Nat}(hi:i < s.aF.length):
  ∃b off c a x,s.aF[i]? =some c∧st[i]? =some x∧L.A=some ⟨b,off,none⟩∧eD w b (off+i*11) (sV c a x)∧aI (all w) 1 a.1 c.src.length (aK c.src):=by
 obtain⟨c,hc⟩:=get_some hi;obtain⟨a,ha⟩:=get_some (l:=L.fa) (i:=i) (by rw[h.fl];exact hi);obtain⟨x,hx⟩:=get_some (l:=st) (i:=i) (by rw[h.ok.len];exact hi)
 have hr:(kJ s L.fa st)[i]? =some (sV c a x):=by
  rw[kJ,List.getElem?_zipWith,hc,(List.getElem?_zip_eq_some (z:=(a,x))).2 ⟨ha,hx⟩]
 obtain⟨b,off,hA,hro⟩:=aI.row h.row (fun r hr=>by
  obtain⟨j,hj⟩:=List.getElem?_of_mem hr;rw[kJ,List.getElem?_zipWith] at hj;split at hj<;>cases hj
  rfl) hr hi
 exact⟨b,off,c,a,x,hc,hx,hA,hro,h.sZ i c a hc ha⟩
def uA(s:aD)(fa:List (Option Addr×Nat))(p:Piece):Prop:=∀(i:Nat) (c:eF) (a:Option Addr×Nat),s.aF[i]? =some c→fa[i]? =some a→aI p 1 a.1 c.src.length (aK c.src)
theorem uA.le{s:aD}{fa:List (Option Addr×Nat)}(p q:Piece)(hl:p.Le q)(h:uA s fa p):uA s fa q:=fun i c a hc ha=>(h i c a hc ha).le hl
def rM(L:TL)(s:aD)(st:List eP):HP:=HP.many [HP.aE L.t 227 [.slice L.A s.aF.length L.c],HP.own 224 11 (.slice L.A s.aF.length L.c) s.aF.length (kJ s L.fa st).flatten,HP.bR (uA s L.fa) (uA.le (s:=s) (fa:=L.fa))]
theorem aK3{L:TL}{s:aD}{st:List eP}{F:Nat→Prop}{w:World}(h:(rM L s st).sat F w)(hF:∀b,F b→b < w.heap.size)(hfl:L.fa.length=s.aF.length)(hok:qZ s st):xK w L s st:=by
 obtain⟨G,g1,g2,_⟩:=h
 have h0:=g1 0 _ rfl
 have h1:=g1 1 _ rfl
 have h2:=g1 2 _ rfl
 have hl:∀i b,G i b→b < w.heap.size:=fun i b hb=>hF b (g2 i b hb)
 obtain⟨A',c',he,hs⟩:=vA (Y:=fun b=>b < w.heap.size) h1 (hl 1)
 injection he with he
 subst he;exact⟨⟨h0.2.lt,by rw[h0.2.cell];rfl⟩,hs,fun i c a hc ha=>(h2 i c a hc ha).le (fun b hb=>⟨hl 2 b hb,rfl⟩),hfl,hok⟩
theorem aJA(t n c b off i:Nat)(w:World)(h0:fQ w t 0 (.slice (some ⟨b,off,none⟩) n c))(hi:i < n):
  Cz 88 #[pt t,iv (i:Int)] w (Rt (.pointer (some ⟨b,off+i*11,none⟩)) w):=by
 refine aM func88 ntmps88 ?_;refine aA ?_;refine bQ (t:=11) rfl (fun h=>absurd h (by omega)) (fun _=>?_);refine aA ?_;refine aG rfl (fun h=>absurd h (by omega)) (fun _=>?_);refine aA ?_;refine kd (dat i (off+i*11)) ?_;refine aA ?_;exact cY
theorem aJ9(t n c:Nat)(A:Option Addr)(i:Int)(w:World)(h0:fQ w t 0 (.slice A n c))(hi:bB n i=false):
  Cz 88 #[pt t,iv i] w (Rt (.pointer none) w):=by
 have hi:=of_decide_eq_false hi
 refine aM func88 ntmps88 ?_;refine aA ?_;refine bQ (t:=11) rfl (fun h=>?_) (fun h=>?_)
 ·refine aA ?_;exact cY
 ·refine aA ?_;refine aG rfl (fun h=>?_) (fun h=>absurd hi (by omega));refine aA ?_;exact cY
theorem Sz(L:TL)(s:aD)(st:List eP)(i f:Nat)(c:eF)(fs:List Int)(w:World)(hR:xK w L s st)(hi:s.aF[i]? =some c)(hf:c.src=(f:Int)::fs):
  Cz 90 #[.pointer (some ⟨L.t,0,none⟩),iv (i:Int)] w (Rt (iv (f:Int)) w):=by
 have hlt:i < s.aF.length:=(List.getElem?_eq_some_iff.1 hi).1
 obtain⟨b,off,c',a,x,hc,hx,hA,hro,hs⟩:=hR.node hlt;obtain rfl:c=c':=by rw[hi] at hc;exact Option.some.inj hc
 have h0:=hR.r0
 rw[hA] at h0
 have h1:=hro.at_ (j:=1) rfl
 have h8:=hro.at_ (j:=8) rfl
 rw[hf] at h1 hs;obtain⟨b2,o2,hA2,qM,qO⟩:=hs.2 (by simp);rw[hA2] at h1
 have h2:fQ w b2 o2 (iv (f:Int)):=⟨qM,qO 0 _ rfl⟩
 refine aM func90 ntmps90 ?_;refine aA ?_;refine kd (dat i (off+i*11)) ?_;refine aA ?_;refine mL ?_;refine jA ?_;refine xH (dat 0 o2 (hlt:=by simp)) ?_;refine jB ?_;refine aA ?_;exact cY
theorem aSQ(L:TL)(s:aD)(st:List eP)(hH:s.dI)(b1 b2:Nat):∀(i:Nat),i < s.aF.length→∀w,xK w L s st→fQ w b1 0 (.pointer (some ⟨L.t,0,none⟩))→fQ w b2 0 (.func (.func 89) #[] #[pt b1,pt b2])→
  Cz 89 #[iv (i:Int),pt b1,pt b2] w (Rt (.bool (runs s st i)) w):=by
 intro i
 induction i using Nat.strongRecOn with
 | _ i ih =>
  intro hlt w hR Ib eX;obtain⟨b,off,c,a,x,hc,hx,hA,hro,hs⟩:=hR.node hlt
  have hrun:=aG9 hH.t.aF hc hx
  have h0:=hR.r0
  rw[hA] at h0
  have k0:=hro.at_ (j:=0) rfl
  have k6:=hro.at_ (j:=6) rfl
  have k7:=hro.at_ (j:=7) rfl
  have Se:∀{w1},Below w.heap.size w w1→fQ w1 b1 0 (.pointer (some ⟨L.t,0,none⟩)):=fun hb=>⟨Nat.lt_of_lt_of_le Ib.1 hb.size,(hb.cell (p:=⟨_,0,none⟩) Ib.1).trans Ib.2⟩
  have go2:∀{w1},Below w.heap.size w w1→fQ w1 b2 0 (.func (.func 89) #[] #[pt b1,pt b2]):=fun hb=>⟨Nat.lt_of_lt_of_le eX.1 hb.size,(hb.cell (p:=⟨_,0,none⟩) eX.1).trans eX.2⟩
  obtain⟨hsrc,hfit⟩:=hH.t.aF i c hc;refine aM func89 ntmps89 ?_;refine aA ?_;refine kd (dat i (off+i*11)) ?_;rcases hfit with⟨hk,hs0,_⟩ | hfit
  ·rw[hk] at k0;refine aA ?_;refine kB (by simp) ?_;rw[hrun,hs0];simp[rT,hk]
  obtain⟨f,fs,hf⟩:∃(f:Nat) (fs:List Int),c.src=(f:Int)::fs:=by
   cases hs0:c.src with
   | nil=>rw[hs0] at hfit;simp at hfit
   | cons f fs=>exact⟨f.toNat,fs,by have:=(hsrc f (by rw[hs0];simp)).1;rw[Int.toNat_of_nonneg this]⟩
  have Nk:f < i:=by have:=(hsrc f (by rw[hf];simp)).2;omega
  have Nd:runs s st i=(rT c x&&runs s st f):=by rw[hrun,hf];rfl
  clear hrun;rcases hfit with⟨hk,_⟩ | ⟨hk,_⟩ | ⟨hk,_⟩ | ⟨hk,_⟩
  ·rw[hk] at k0;cases tO:x.on
   ·rw[tO] at k6;refine aA ?_;refine mL ?_;refine jB ?_;refine aA ?_;refine kB (by simp) ?_;rw[Nd];simp[rT,hk,tO]
   ·rw[tO] at k6;refine aA ?_;refine mL ?_;refine jA ?_;refine Oo 32 rfl (fun h=>?_) (fun h=>?_)
    ·refine jA ?_;refine tT (fun w1 mN=>Sz L s st i f c fs w1 (hR.below (mN.below (by simp))) hc hf) ?_;refine jA ?_;refine Jc (fi:=[]) (vs:=[iv (f:Int)]) (ca:=[pt b1,pt b2]) (fun w1 mN=>ih f Nk (by omega) w1 (hR.below (mN.below (by simp))) (Se (mN.below (by simp))) (go2 (mN.below (by simp)))) ?_;refine jB ?_;refine aA ?_;refine kB (by simp) ?_;rw[Nd];simp[rT,hk,tO,h]
    ·refine jB ?_;refine aA ?_;refine kB (by simp) ?_;rw[Nd];simp[rT,hk,tO,h]
  ·rw[hk] at k0;refine aA ?_;refine mL ?_;refine jA ?_;refine tT (fun w1 mN=>Sz L s st i f c fs w1 (hR.below (mN.below (by simp))) hc hf) ?_;refine Jc (fi:=[]) (vs:=[iv (f:Int)]) (ca:=[pt b1,pt b2]) (fun w1 mN=>ih f Nk (by omega) w1 (hR.below (mN.below (by simp))) (Se (mN.below (by simp))) (go2 (mN.below (by simp)))) ?_;refine jB ?_;refine aA ?_;refine kB (by simp) ?_;rw[Nd];simp[rT,hk]
  ·rw[hk] at k0;cases tO:x.on
   ·rw[tO] at k6;refine aA ?_;refine mL ?_;refine jB ?_;refine aA ?_;refine kB (by simp) ?_;rw[Nd];simp[rT,hk,tO]
   ·rw[tO] at k6;refine aA ?_;refine mL ?_;refine jA ?_;refine tT (fun w1 mN=>Sz L s st i f c fs w1 (hR.below (mN.below (by simp))) hc hf) ?_;refine jA ?_;refine Jc (fi:=[]) (vs:=[iv (f:Int)]) (ca:=[pt b1,pt b2]) (fun w1 mN=>ih f Nk (by omega) w1 (hR.below (mN.below (by simp))) (Se (mN.below (by simp))) (go2 (mN.below (by simp)))) ?_;refine jB ?_;refine aA ?_;refine kB (by simp) ?_;rw[Nd];simp[rT,hk,tO]
  ·rw[hk] at k0;refine aA ?_;refine mL ?_;refine jA ?_;refine tT (fun w1 mN=>Sz L s st i f c fs w1 (hR.below (mN.below (by simp))) hc hf) ?_;refine Jc (fi:=[]) (vs:=[iv (f:Int)]) (ca:=[pt b1,pt b2]) (fun w1 mN=>ih f Nk (by omega) w1 (hR.below (mN.below (by simp))) (Se (mN.below (by simp))) (go2 (mN.below (by simp)))) ?_;refine jB ?_;refine aA ?_;refine kB (by simp) ?_;rw[Nd];simp[rT,hk]
end
section
section
variable{N:cE}{w0 w:World}{e:Env}{R:List Piece}{H:List HP}{K:Act→World→Prop}{L:TL}{s:aD}{st:List eP}
theorem St.aCM(t:St w0 R H w)(i:Nat)(hi:H[i]? =some (rM L s st))(hfl:L.fa.length=s.aF.length)(hok:qZ s st):xK w L s st:=by
 obtain⟨F,h1,h2,_⟩:=t.chunk hi;exact aK3 h1 h2 hfl hok
theorem Rd.tree(i:Nat)(hi:H[i]? =some (rM L s st))(hfl:L.fa.length=s.aF.length)(hok:qZ s st):Rd w0 R H L.t 0 (.slice L.A s.aF.length L.c):=fun w t=>(t.aCM i hi hfl hok).r0.2
theorem aDt(hfl:L.fa.length=s.aF.length)(hok:qZ s st):(kJ s L.fa st).length=s.aF.length∧∀r∈kJ s L.fa st,r.length=11:=by
 have:=hok.len
 refine⟨by simp[kJ];omega,fun r hr=>?_⟩;obtain⟨j,hj⟩:=List.getElem?_of_mem hr;rw[kJ,List.getElem?_zipWith] at hj;split at hj<;>cases hj
 rfl
theorem Qm{i:Nat}{c:eF}{a:Option Addr×Nat}{x:eP}(hc:s.aF[i]? =some c)(ha:L.fa[i]? =some a)(hx:st[i]? =some x):(kJ s L.fa st)[i]? =some (sV c a x):=by
 rw[kJ,List.getElem?_zipWith,hc,(List.getElem?_zip_eq_some (z:=(a,x))).2 ⟨ha,hx⟩]
theorem aHz{i:Nat}{c:eF}{a:Option Addr×Nat}{x:eP}(hc:s.aF[i]? =some c)(ha:L.fa[i]? =some a)(hi:i < st.length):(kJ s L.fa st).set i (sV c a x)=kJ s L.fa (st.set i x):=by
 refine List.ext_getElem? fun j=>?_;rw[List.getElem?_set]
 by_cases he:i=j
 ·subst he;rw[if_pos rfl,Qm hc ha (x:=x) (by rw[List.getElem?_set_self hi])];rw[if_pos]
  have h1:=(List.getElem?_eq_some_iff.1 hc).1
  have h2:=(List.getElem?_eq_some_iff.1 ha).1
  simp[kJ];omega
 ·rw[if_neg he,kJ,kJ,List.getElem?_zipWith,List.getElem?_zipWith]
  have hz:(L.fa.zip st)[j]? =(L.fa.zip (st.set i x))[j]? :=by
   rw[List.zip_eq_zipWith,List.zip_eq_zipWith,List.getElem?_zipWith,List.getElem?_zipWith,List.getElem?_set_ne he]
  rw[hz]
theorem St.aLO{g:Nat}{cs:List Value}(t:St w0 R H w)(i j:Nat)(hi:H[i]? =some (HP.aE g 224 cs))(hj:H[j]? =some (HP.many [HP.aE L.t 227 [.slice (some ⟨g,0,none⟩) s.aF.length L.c],cJ,HP.bR (uA s L.fa) (uA.le (s:=s) (fa:=L.fa))]))(hA:L.A=some ⟨g,0,none⟩)(h2:cs.take (s.aF.length*11)=(kJ s L.fa st).flatten)(hfl:L.fa.length=s.aF.length)(hok:qZ s st):xK w L s st:=by
 obtain⟨gB,iJ⟩:=aDt hfl hok
 have hb:=t.aE hi
 obtain⟨F,⟨G,g1,g2,_⟩,hlt,_⟩:=t.chunk hj
 have h0:=g1 0 _ rfl
 have aPT:=g1 2 _ rfl
 refine⟨⟨h0.2.lt,by rw[h0.2.cell,hA];rfl⟩,⟨by rw[aCZ _ iJ,gB],fun _=>⟨g,0,hA,hb.lt,fun k u hu=>?_⟩⟩,fun k c a hc ha=>(aPT k c a hc ha).le (fun b hbG=>⟨hlt b (g2 2 b hbG),rfl⟩),hfl,hok⟩;rw[←h2] at hu;rw[Nat.zero_add]
 show w.cell? _=_
 rw[hb.cell]
 have hk:k < s.aF.length*11:=by
  rcases Nat.lt_or_ge k (s.aF.length*11) with h | h
  ·exact h
  ·rw[List.getElem?_eq_none (by rw[List.length_take];omega)] at hu;cases hu
 rw[List.getElem?_take_of_lt hk] at hu
 simpa using hu
theorem aKt(i:Nat)(hi:H[i]? =some (rM L s st))(hn:0 < s.aF.length)(h:∀g cs,L.A=some ⟨g,0,none⟩→cs.length=L.c*11→cs.take (s.aF.length*11)=(kJ s L.fa st).flatten→s.aF.length≤L.c→L.c≤maxLen→
  XK N w0 K e R (HP.aE g 224 cs::H.set i (HP.many [HP.aE L.t 227 [.slice L.A s.aF.length L.c],cJ,HP.bR (uA s L.fa) (uA.le (s:=s) (fa:=L.fa))]))):XK N w0 K e R H:=by
 refine tC i 1 hi rfl ?_;refine aCd 0 rfl hn fun g hA=>?_;dsimp only[List.set];rw[hA];refine Ti 0 rfl fun cs h1 h2 h3 h4=>?_
 have:=h g cs hA h1 h2 h3 h4
 rw[hA] at this;exact this
theorem Bs(i:Nat){g:Nat}{cs:List Value}{st':List eP}(hA:L.A=some ⟨g,0,none⟩)(h1:cs.length=L.c*11)(h2:cs.take (s.aF.length*11)=(kJ s L.fa st').flatten)(h3:s.aF.length≤L.c)(h4:L.c≤maxLen)
  (hi:H[i]? =some (HP.many [HP.aE L.t 227 [.slice (some ⟨g,0,none⟩) s.aF.length L.c],cJ,HP.bR (uA s L.fa) (uA.le (s:=s) (fa:=L.fa))]))
  (h:XK N w0 K e R (H.set i (rM L s st'))):XK N w0 K e R (HP.aE g 224 cs::H):=by
 refine Ov 0 (n:=s.aF.length) (c:=L.c) (sz:=11) rfl h1 h2 h3 h4 ?_;dsimp only[List.set];rw[←hA] at hi⊢;exact tD i 1 hi rfl h
end
theorem Zf(L:TL)(s:aD)(st:List eP)(hH:s.dI)(i:Int)(w:World)(hR:xK w L s st):
  Cz 41 #[.pointer (some ⟨L.t,0,none⟩),iv i] w (Rt (.bool (qI s st i)) w):=by
 cases hi:bB s.aF.length i
 ·refine aM func41 ntmps41 ?_;refine aA ?_;refine bA fun g1=>?_;refine aA ?_;refine aU (fun w1 t=>aJ9 L.t s.aF.length L.c L.A i w1 ((hR.below (t.below (by simp))).r0) hi) ?_;refine aA ?_;refine kB (by simp) ?_;simp[qI,hi]
 ·obtain⟨n,rfl⟩:∃n:Nat,i=n:=⟨i.toNat,by have:=of_decide_eq_true hi;omega⟩
  have hlt:n < s.aF.length:=by have:=of_decide_eq_true hi;omega
  obtain⟨b,off,c,a,x,hc,hx,hA,_⟩:=hR.node hlt;refine aM func41 ntmps41 ?_;refine aA ?_;refine bA fun g1=>?_;refine aA ?_;refine aU (fun w1 t=>aJA L.t s.aF.length L.c b off n w1 (by rw[←hA];exact(hR.below (t.below (by simp))).r0) hlt) ?_;refine aA ?_;refine bX fun g2=>?_;refine aA ?_;refine kS (vf:=[]) (vc:=[pt g1,pt g2]) rfl rfl (by decide) ?_;refine aA ?_;refine aBg (fi:=[]) (vs:=[iv (n:Int)]) (ca:=[pt g1,pt g2]) (fun w1 t=>aSQ L s st hH g1 g2 n hlt w1 (hR.below (t.below (by simp))) ((t.box (i:=1) rfl).at_ (j:=0) rfl) ((t.box (i:=0) rfl).at_ (j:=0) rfl)) ?_;refine aA ?_;refine kB (by simp) ?_;simp[qI,hi]
theorem aSS(L:TL)(s:aD)(st:List eP)(hfl:L.fa.length=s.aF.length)(hok:qZ s st)(i:Int)(on:Bool)(w:World)(F:Nat→Prop)(hp:(rM L s st).sat F w)(hF:∀b,F b→b < w.heap.size):
  Cz 228 #[.pointer (some ⟨L.t,0,none⟩),iv i,.bool on] w (Wr (iv (lE s st i on).1) (rM L s (lE s st i on).2) w F):=by
 cases hi:bB s.aF.length i
 ·have hr:lE s st i on=(4,st):=by simp[lE,hi]
  rw[hr];refine dJ func228 ntmps228 hp hF ?_;refine aA ?_;refine aU (fun w1 t=>aJ9 L.t s.aF.length L.c L.A i w1 ((t.aCM 0 rfl hfl hok).r0) hi) ?_;refine aA ?_;exact cG 0 hF
 ·obtain⟨n,rfl⟩:∃n:Nat,i=n:=⟨i.toNat,by have:=of_decide_eq_true hi;omega⟩
  have hlt:n < s.aF.length:=by have:=of_decide_eq_true hi;omega
  have hl:=hok.len
  obtain⟨c,hc⟩:=get_some hlt;obtain⟨a,ha⟩:=get_some (l:=L.fa) (i:=n) (by omega);obtain⟨x,hx⟩:=get_some (l:=st) (i:=n) (by omega);obtain⟨gB,iJ⟩:=aDt hfl hok;refine dJ func228 ntmps228 hp hF ?_;refine aKt 0 rfl (by omega) fun g cs hA h1 h2 h3 h4=>?_;dsimp only[List.set];rw[hA]
  have hs:=Ik h2 gB iJ (Qm hc ha hx)
  have hlen:n*11+11≤cs.length:=by omega
  refine bF 1 0 ?_;refine aA ?_;refine aU (fun w1 t=>aJA L.t s.aF.length L.c g 0 n w1 ((t.box (i:=0) rfl).at_ (j:=0) rfl) hlt) ?_;refine aN 1 0 ?_;rw[Nat.zero_add];refine aA ?_
  have hpq:∀x':eP,(kJ s L.fa st).set n (sV c a x')=kJ s L.fa (st.set n x'):=fun x'=>aHz hc ha (by omega)
  refine bQ (t:=19) rfl (fun hk=>?_) (fun hk=>?_)
  ·refine aA ?_;refine aG rfl (fun hg=>?_) (fun hg=>?_)
   ·have hr:lE s st (n:Int) on=(1,st):=by simp[lE,hi,hc,hx,hk,hg]
    rw[hr];refine aA ?_;refine Bs 0 hA h1 h2 h3 h4 rfl ?_;exact cG 0 hF
   ·have hg:c.kind=103:=Classical.not_not.1 hg
    have hr:lE s st (n:Int) on=(0,st.set n ⟨on,x.left⟩):=by simp[lE,hi,hc,hx,hg,Hg]
    rw[hr]
    have hs1:=hs.set 6 (.bool on) (by simp[sV]) (by omega)
    have vS:=(wF.refl cs (n*11) 11).set 6 (.bool on) (by decide)
    have gN:=Gc (r':=sV c a ⟨on,x.left⟩) h2 gB iJ hlt (by omega) rfl hs1 vS
    rw[hpq] at gN;refine aA ?_;refine bQ (t:=37) rfl (fun h=>absurd h hk) (fun _=>?_);refine aA ?_;refine Bs 0 hA (by simpa using h1) gN h3 h4 rfl ?_;exact cG 0 hF
  ·have hk:c.kind=112:=Classical.not_not.1 hk
   have hs1:=hs.set 6 (.bool on) (by simp[sV]) (by omega)
   have vS:=(wF.refl cs (n*11) 11).set 6 (.bool on) (by decide)
   cases on
   ·have hr:lE s st (n:Int) false=(0,st.set n ⟨false,c.lock⟩):=by simp[lE,hi,hc,hx,hk,Hg]
    rw[hr];refine aA ?_;refine bQ (t:=37) rfl (fun _=>?_) (fun h=>absurd hk h)
    have fW:=hs1.set 7 (iv c.lock) (by simp[sV]) (by simp;omega)
    have hu2:=vS.set 7 (iv c.lock) (by decide)
    have gN:=Gc (r':=sV c a ⟨false,c.lock⟩) h2 gB iJ hlt (by omega) rfl fW hu2
    rw[hpq] at gN;refine aA ?_;refine Bs 0 hA (by simpa using h1) gN h3 h4 rfl ?_;exact cG 0 hF
   ·have hr:lE s st (n:Int) true=(0,st.set n ⟨true,x.left⟩):=by simp[lE,hi,hc,hx,hk,Hg]
    rw[hr]
    have gN:=Gc (r':=sV c a ⟨true,x.left⟩) h2 gB iJ hlt (by omega) rfl hs1 vS
    rw[hpq] at gN;refine aA ?_;refine bQ (t:=37) rfl (fun _=>?_) (fun h=>absurd hk h);refine aA ?_;refine Bs 0 hA (by simpa using h1) gN h3 h4 rfl ?_;exact cG 0 hF
end
section
theorem aI.zT{p:Piece}{sz n:Nat}{A:Option Addr}{rows:List (List Value)}(h:aI p sz A n rows.flatten)(hl:∀r∈rows,r.length=sz){k:Nat}{r:List Value}(hk:rows[k]? =some r)(hn:k < n):
  ∃b off,A=some ⟨b,off,none⟩∧p.Z b∧∀j u,r[j]? =some u→p.w.cell? ⟨b,off+k*sz+j,none⟩=some u:=by
 obtain⟨b,off,hA,hz,hc⟩:=aI.at_ h hn;refine⟨b,off,hA,hz,fun j u hu=>hc j u ?_⟩
 have hj:j < sz:=by
  rw[←hl r (List.mem_of_getElem? hk)];exact(List.getElem?_eq_some_iff.1 hu).1
 rw[Yk rows hl k j r hk hj,hu]
theorem aUJ{w0:World}{R:List Piece}{H:List HP}{p:Piece}{b o:Nat}{vs:List Value}(hp:p∈R)(hz:p.Z b)(h:∀j u,vs[j]? =some u→p.w.cell? ⟨b,o+j,none⟩=some u):aQ w0 R H b o vs:=.of fun j v hj=>Rd.ro hp hz (h j v hj)
theorem Tb(s:aD)(A1 A2 A3 A4:Option Addr)(n1 k1 n2 k2 n3 k3 n4 k4:Nat)(w:World)(hW:fL w s A1 n1 A2 n2 A3 n3 A4 n4)(aEf:Zg s=0):
  Cz 62 #[.agg #[.slice A1 n1 k1,.slice A2 n2 k2,.slice A3 n3 k3,.slice A4 n4 k4]] w (Rt (iv 0) w):=by
 have:=aBD s A1 A2 A3 A4 n1 k1 n2 k2 n3 k3 n4 k4 w hW
 rw[aEf] at this;exact this
def aK2(s:aD)(v:Value)(hs:List HP)(_:Piece):Prop:=∃L:TL,v=.tuple #[.pointer (some ⟨L.t,0,none⟩),iv 0]∧hs=[rM L s (s.aF.map yZ)]∧L.fa.length=s.aF.length
theorem aST(s:aD)(hH:s.dI)(A1 A2 A3 A4:Option Addr)(n1 k1 n2 k2 n3 k3 n4 k4:Nat)(w:World)(hW:fL w s A1 n1 A2 n2 A3 n3 A4 n4):
  Cz 68 #[.agg #[.slice A1 n1 k1,.slice A2 n2 k2,.slice A3 n3 k3,.slice A4 n4 k4]] w (fun y w'=>(∃v hs q,y=.returned v∧q.w=w'∧aK2 s v hs q∧jD w hs q)∧Below w.heap.size w w'):=by
 have hnc:=hH.t.nc
 have Kg:∀d∈s.aC,d.aO.length≤1000000:=fun d hd=>by
  obtain⟨i,hi⟩:=List.getElem?_of_mem hd
  have:=hH.t.aC i d hi
  unfold bO.fit at this;omega
 refine aM func68 ntmps68 ?_;refine aB ?_;refine bA fun g1=>?_;refine aB ?_;refine aU (fun w1 t=>Tb s A1 A2 A3 A4 n1 k1 n2 k2 n3 k3 n4 k4 w1 (hW.le (t.started (by simp))) hH.t.Ta) ?_;refine aB ?_;refine bA fun g2=>?_;refine aB ?_;refine jR [] (aCy s) (fun w1 t=>aEG s A1 A2 A3 A4 n1 k1 n2 k2 n3 k3 n4 k4 w1 (hW.le (t.started (by simp))) Kg) ?_;rintro _ w1 q1 ⟨cs1,rfl,hS⟩ gN _ aDY
 have aDY:=aDY (by simp)
 obtain⟨B1,m1,j1,B2,m2,j2,B3,m3,j3,B4,m4,j4,rfl,hSQ⟩:=(hS.mono (oB gN)).Q;clear gN hS;obtain⟨rc,hrc,Wz,hsc⟩:=hSQ.jM;obtain⟨fa,hfl,rfl,hfa⟩:=aEJ hrc;subst Wz;obtain⟨iB,hcr⟩:=aAq (f:=Bl) (es:=s.aF) (bs:=fa) (sz:=6) hfl (fun _ _=>rfl)
 have hl0:(s.aF.map yZ).length=s.aF.length:=by simp
 refine kd (aSo (off:=0) (cs:=[.slice B1 s.aF.length j1,.slice B2 m2 j2,.slice B3 m3 j3,.slice B4 m4 j4]) (by kernel_rfl) rfl rfl) ?_;refine aB ?_;refine iN 224 11 ?_;refine bL [(20,iv 0),(19,iv s.aF.length),(18,.slice B1 s.aF.length j1),(5,pt g2)] ?_;refine eJ (fun m e R H=>∃(i:Nat) (A:Option Addr) (k:Nat),i≤s.aF.length∧m=s.aF.length - i∧e=[(20,iv i),(19,iv s.aF.length),(18,.slice B1 s.aF.length j1),(5,pt g2)]∧R=[q1,all w]∧H=[HP.own 224 11 (.slice A i k) i ((kJ s fa (s.aF.map yZ)).take i).flatten,HP.aE g2 227 [.slice A i k],HP.aE g1 30 [.slice A1 n1 k1,.slice A2 n2 k2,.slice A3 n3 k3,.slice A4 n4 k4]]) s.aF.length ⟨0,none,0,by omega,rfl,rfl,rfl,by simp⟩ fun m e R H hI=>?_;obtain⟨i,A,k,hi,rfl,rfl,rfl,rfl⟩:=hI;refine aB ?_;refine aG rfl (fun hlt=>?_) (fun hge=>?_)
 ·have hlt:i < s.aF.length:=by omega
  obtain⟨c,hc⟩:=get_some hlt;obtain⟨a,ha⟩:=get_some (l:=fa) (i:=i) (by omega);obtain⟨b,off,hB,hz,hcell⟩:=aI.zT hsc hcr (Uh hc ha) hlt;subst hB
  have hrow:(kJ s fa (s.aF.map yZ))[i]? =some (sV c a (yZ c)):=Qm (L:=⟨0,none,0,fa⟩) hc ha (by rw[List.getElem?_map,hc];rfl)
  have dW:((kJ s fa (s.aF.map yZ)).take (i+1)).flatten=((kJ s fa (s.aF.map yZ)).take i).flatten++sV c a (yZ c):=by
   rw[List.take_succ,hrow,List.flatten_append];simp
  have Ws:∀H,aQ w [q1,all w] H b (off+i*6) (Bl c a):=fun H=>aUJ (by simp) hz hcell
  have aUU:=Ws [HP.own 224 11 (.slice A i k) i ((kJ s fa (s.aF.map yZ)).take i).flatten,HP.aE g2 227 [.slice A i k],HP.aE g1 30 [.slice A1 n1 k1,.slice A2 n2 k2,.slice A3 n3 k3,.slice A4 n4 k4]]
  refine aA ?_;refine kd (dat i (off+i*6)) ?_;refine aB ?_;refine bX fun g3=>?_;obtain⟨kdx,src,rate,mul,dv,lock⟩:=c;dsimp only[Bl];refine aB ?_;refine bX fun g4=>?_
  have hfit:=(hH.t.aF i _ hc).2
  dsimp only at hfit;rcases hfit with⟨rfl,_⟩ | ⟨rfl,_⟩ | ⟨rfl,_⟩ | ⟨rfl,_⟩ | ⟨rfl,_⟩
  ·skip
   refine aA ?_;refine jO [2,3,4,5] ?_;refine bT 0 ?_;refine bT 1 ?_;refine aJ 2 ?_;refine aJ 3 ?_;refine aJ 4 ?_;refine aJ 5 ?_;refine aL 6 ?_;refine eK fun g5=>?_;refine bH ?_;refine aL 7 ?_;refine gJ 3 11 104 1 (el:=224) (by kernel_rfl) (by kernel_rfl) (by decide) rfl rfl rfl (nS 0 rfl rfl) (by simp[Value.oneCell']) rfl (by omega) (by omega) (by decide) fun A' k'=>?_;dsimp only[List.set];refine cT ?_;refine aL 8 ?_;refine bK ?_;refine cT ?_;refine aL 9 ?_;refine bK ?_;refine cT ?_;refine aL 10 ?_;refine fD rfl rfl ?_;dsimp only[List.set];refine cT ?_;refine fE ?_;refine aA ?_;refine aY [3,4,5] rfl (by decide) (fun _ h=>h) ?_;exact dZ (s.aF.length - (i+1)) ⟨i+1,A',k',hlt,rfl,rfl,rfl,by rw[dW]⟩
  ·skip
   refine aA ?_;refine jO [2,3,4,5] ?_;refine bT 0 ?_;refine bT 1 ?_;refine aJ 2 ?_;refine aJ 3 ?_;refine aJ 4 ?_;refine aJ 5 ?_;refine aL 6 ?_;refine eK fun g5=>?_;refine bH ?_;refine aL 7 ?_;refine gJ 3 11 104 1 (el:=224) (by kernel_rfl) (by kernel_rfl) (by decide) rfl rfl rfl (nS 0 rfl rfl) (by simp[Value.oneCell']) rfl (by omega) (by omega) (by decide) fun A' k'=>?_;dsimp only[List.set];refine cT ?_;refine aL 8 ?_;refine bK ?_;refine cT ?_;refine aL 9 ?_;refine bK ?_;refine cT ?_;refine aL 10 ?_;refine fD rfl rfl ?_;dsimp only[List.set];refine cT ?_;refine fE ?_;refine aA ?_;refine aY [3,4,5] rfl (by decide) (fun _ h=>h) ?_;exact dZ (s.aF.length - (i+1)) ⟨i+1,A',k',hlt,rfl,rfl,rfl,by rw[dW]⟩
  ·skip
   refine aA ?_;refine jO [2,3,4,5] ?_;refine bT 0 ?_;refine bT 1 ?_;refine aJ 2 ?_;refine aJ 3 ?_;refine aJ 4 ?_;refine aJ 5 ?_;refine aL 6 ?_;refine eK fun g5=>?_;refine bH ?_;refine aL 7 ?_;refine gJ 3 11 104 1 (el:=224) (by kernel_rfl) (by kernel_rfl) (by decide) rfl rfl rfl (nS 0 rfl rfl) (by simp[Value.oneCell']) rfl (by omega) (by omega) (by decide) fun A' k'=>?_;dsimp only[List.set];refine cT ?_;refine aL 8 ?_;refine bK ?_;refine cT ?_;refine aL 9 ?_;refine bK ?_;refine cT ?_;refine aL 10 ?_;refine fD rfl rfl ?_;dsimp only[List.set];refine cT ?_;refine fE ?_;refine aA ?_;refine aY [3,4,5] rfl (by decide) (fun _ h=>h) ?_;exact dZ (s.aF.length - (i+1)) ⟨i+1,A',k',hlt,rfl,rfl,rfl,by rw[dW]⟩
  ·skip
   refine aA ?_;refine jO [2,3,4,5] ?_;refine bT 0 ?_;refine bT 1 ?_;refine aJ 2 ?_;refine aJ 3 ?_;refine aJ 4 ?_;refine aJ 5 ?_;refine aL 6 ?_;refine eK fun g5=>?_;refine bH ?_;refine aL 7 ?_;refine gJ 3 11 104 1 (el:=224) (by kernel_rfl) (by kernel_rfl) (by decide) rfl rfl rfl (nS 0 rfl rfl) (by simp[Value.oneCell']) rfl (by omega) (by omega) (by decide) fun A' k'=>?_;dsimp only[List.set];refine cT ?_;refine aL 8 ?_;refine bK ?_;refine cT ?_;refine aL 9 ?_;refine bK ?_;refine cT ?_;refine aL 10 ?_;refine fD rfl rfl ?_;dsimp only[List.set];refine cT ?_;refine fE ?_;refine aA ?_;refine aY [3,4,5] rfl (by decide) (fun _ h=>h) ?_;exact dZ (s.aF.length - (i+1)) ⟨i+1,A',k',hlt,rfl,rfl,rfl,by rw[dW]⟩
  ·skip
   refine aA ?_;refine jO [2,3,4,5] ?_;refine bT 0 ?_;refine bT 1 ?_;refine aJ 2 ?_;refine aJ 3 ?_;refine aJ 4 ?_;refine aJ 5 ?_;refine aL 6 ?_;refine eK fun g5=>?_;refine bH ?_;refine aL 7 ?_;refine gJ 3 11 104 1 (el:=224) (by kernel_rfl) (by kernel_rfl) (by decide) rfl rfl rfl (nS 0 rfl rfl) (by simp[Value.oneCell']) rfl (by omega) (by omega) (by decide) fun A' k'=>?_;dsimp only[List.set];refine cT ?_;refine aL 8 ?_;refine bK ?_;refine cT ?_;refine aL 9 ?_;refine bK ?_;refine cT ?_;refine aL 10 ?_;refine fD rfl rfl ?_;dsimp only[List.set];refine cT ?_;refine fE ?_;refine aA ?_;refine aY [3,4,5] rfl (by decide) (fun _ h=>h) ?_;exact dZ (s.aF.length - (i+1)) ⟨i+1,A',k',hlt,rfl,rfl,rfl,by rw[dW]⟩
 ·obtain rfl:i=s.aF.length:=by omega
  refine aB ?_
  have hfull:(kJ s fa (s.aF.map yZ)).take s.aF.length=kJ s fa (s.aF.map yZ):=List.take_of_length_le (by simp[kJ];omega)
  rw[hfull];refine aY [1,0] rfl (by decide) (fun _ h=>h) ?_;refine Jd aDY (by simp[all]) (Φ:=uA s fa) (hm:=uA.le (s:=s) (fa:=fa)) (fun i c a hc ha=>hfa i c a hc ha) ?_;refine aY [1,2,0] rfl (by decide) (fun _ h=>h) ?_;refine Zw ?_;refine dP [] [] [0] (by simp) rfl (by decide) (by decide) fun q _ _ hfr=>?_;exact eL rfl rfl rfl fun w1 t=>⟨⟨_,_,⟨w1,q.Z⟩,rfl,rfl,⟨⟨g2,A,k,fa⟩,rfl,rfl,hfl⟩,t.newR (by simp) (by simp) (hfr (by simp) (by simp))⟩,t.below (by simp)⟩
end
section
def jG(r:Int)(x:kI):Value:=.agg #[iv r,iv x.left,.bool x.held,.bool x.wanted]
def Mt(s:aD)(st:List kI)(i:Nat):Int×Value:=((i:Int),jG (s.aR.getD i 0) (st.getD i sX))
def oJ(s:aD)(st:List kI):List (Int×Value):=(List.range st.length).map (Mt s st)
theorem aHD(f:Nat→Value)(n:Nat)(i:Int):nG ((List.range n).map fun j:Nat=>((j:Int),f j)) i=if bB n i then some (f i.toNat) else none:=by
 induction n with
 | zero=>
  have:bB 0 i=false:=decide_eq_false (by omega)
  rw[this];rfl
 | succ n ih =>
  have h0:nG ((List.range (n+1)).map fun j:Nat=>((j:Int),f j)) i=(nG ((List.range n).map fun j:Nat=>((j:Int),f j)) i).or (nG [((n:Int),f n)] i):=by
   rw[List.range_succ,List.map_append];unfold nG;rw[List.find?_append];cases List.find? (fun p=>decide (p.1=i)) ((List.range n).map fun j:Nat=>((j:Int),f j))<;>rfl
  rw[h0,ih]
  by_cases h1:bB n i=true
  ·have:bB (n+1) i=true:=by have:=of_decide_eq_true h1;exact decide_eq_true (by omega)
   rw[if_pos h1,if_pos this];rfl
  ·have hf:bB n i=false:=by simpa using h1
   have:=of_decide_eq_false hf
   rw[if_neg h1,Qp]
   by_cases h2:(n:Int)=i
   ·subst h2
    have:bB (n+1) (n:Int)=true:=decide_eq_true (by omega)
    rw[if_pos rfl,if_pos this];rfl
   ·have h3:bB (n+1) i=false:=decide_eq_false (by omega)
    rw[if_neg h2,h3];rfl
theorem aOQ(f : Nat → Value)(n i : Nat)(v : Value)(hi : i < n) : pE ((List.range n).map fun j : Nat => ((j : Int), f j)) (i : Int) v = (List.range n).map fun j : Nat => ((j : Int), if j = i then v else f j) := by
  have key:∀(l:List Nat),i∈l→l.Nodup→pE (l.map fun j:Nat=>((j:Int),f j)) (i:Int) v=l.map fun j:Nat=>((j:Int),if j=i then v else f j):=by
    intro l
    induction l with
    | nil=>intro h;simp at h
    | cons a l ih =>
      intro h hn;rw[List.map_cons,pE,List.map_cons]
      by_cases ha:(a:Int)=(i:Int)
      · have yS:a=i:=by omega
        subst yS;rw[if_pos rfl,if_pos rfl]
        congr 1
        refine List.map_congr_left fun j hj=>?_;rw[if_neg (fun he:j=a=>(List.nodup_cons.1 hn).1 (he▸hj))]
      · rw[if_neg ha,if_neg (by omega)]
        congr 1
        exact ih (by rcases List.mem_cons.1 h with h | h
                     · omega
                     · exact h) (List.nodup_cons.1 hn).2
  exact key _ (List.mem_range.2 hi) List.nodup_range
theorem aHE{s:aD}{st:List kI}(i:Int):nG (oJ s st) i=if bB st.length i then some (jG (s.aR.getD i.toNat 0) (st.getD i.toNat sX)) else none:=aHD (fun j=>jG (s.aR.getD j 0) (st.getD j sX)) st.length i
theorem aDv{s:aD}{st:List kI}{i:Nat}{x:kI}{r:Int}(hr:s.aR.getD i 0=r)(hi:i < st.length):pE (oJ s st) (i:Int) (jG r x)=oJ s (st.set i x):=by
 have:=aOQ (fun j=>jG (s.aR.getD j 0) (st.getD j sX)) st.length i (jG r x) hi
 refine this.trans ?_;unfold oJ;rw[List.length_set];refine List.map_congr_left fun j hj=>?_;unfold Mt
 congr 1
 by_cases he:j=i
 ·subst he;rw[if_pos rfl,←hr,List.getD_eq_getElem?_getD (l:=st.set j x),List.getElem?_set_self hi];rfl
 ·rw[if_neg he,List.getD_eq_getElem?_getD (l:=st.set i x),List.getElem?_set_ne (Ne.symm he),List.getD_eq_getElem?_getD (l:=st)]
structure RL where
 t:Nat
 g:Nat
def qX(L:RL)(s:aD)(st:List kI):HP:=HP.many [HP.aE L.t 277 [.map (some L.g)],HP.map L.g (oJ s st)]
structure Lz(w:World)(L:RL)(s:aD)(st:List kI):Prop where
 r0:fQ w L.t 0 (.map (some L.g))
 m:tF w L.g (oJ s st)
theorem Lz.below{w w':World}{L:RL}{s:aD}{st:List kI}(h:Lz w L s st)(hb:Below w.heap.size w w'):Lz w' L s st:=
 ⟨⟨Nat.lt_of_lt_of_le h.r0.1 hb.size,(hb.cell (p:=⟨_,0,none⟩) h.r0.1).trans h.r0.2⟩,h.m.below hb⟩
section
variable{N:cE}{w0 w:World}{e:Env}{R:List Piece}{H:List HP}{K:Act→World→Prop}{L:RL}{s:aD}{st:List kI}
theorem aKL{F:Nat→Prop}(h:(qX L s st).sat F w):Lz w L s st:=by
 obtain⟨G,g1,g2,_⟩:=h
 have h0:=g1 0 _ rfl
 exact⟨⟨h0.2.lt,by rw[h0.2.cell];rfl⟩,(g1 1 _ rfl).2⟩
theorem St.Qw(t:St w0 R H w)(i:Nat)(hi:H[i]? =some (qX L s st)):Lz w L s st:=by
 obtain⟨F,h1,h2,_⟩:=t.chunk hi;exact aKL h1
end
theorem aHP:(Tryz.prog.info? 233).bind (·.zero)=some (jG 0 ⟨0,false,false⟩):=by kernel_rfl
def uU(s:aD)(st:List kI)(i:Int):Value:=if bB st.length i then jG (s.aR.getD i.toNat 0) (st.getD i.toNat sX) else jG 0 ⟨0,false,false⟩
theorem aR0(s:aD)(st:List kI)(i:Int):∃r x,uU s st i=jG r x:=by
 unfold uU;split
 ·exact⟨_,_,rfl⟩
 ·exact⟨_,_,rfl⟩
theorem Vh(L:RL)(s:aD)(st:List kI)(i:Int)(w:World)(hR:Lz w L s st):
  Cz 92 #[.pointer (some ⟨L.t,0,none⟩),iv i] w (Rt (.tuple #[uU s st i,.bool (bB st.length i)]) w):=by
 have h0:=hR.r0
 obtain⟨r,x,hv⟩:=aR0 s st i
 have hm:=aHE (s:=s) (st:=st) i
 have hz:(nG (oJ s st) i).getD (jG 0 ⟨0,false,false⟩)=jG r x:=by
  rw[hm,←hv,uU];split<;>rfl
 have hb:(nG (oJ s st) i).isSome=bB st.length i:=by
  rw[hm];split
  ·rename_i h;rw[h];rfl
  ·rename_i h;simp at h;rw[h];rfl
 rw[hv];refine aM func92 ntmps92 ?_;refine aA ?_;refine bX fun g1=>?_;refine aA ?_;refine aAw (kt:=3) (et:=233) (kd:=.i64) (z:=jG 0 ⟨0,false,false⟩) (l:=oJ s st) true (by kernel_rfl) (by kernel_rfl) aHP rfl rfl (fun w1 t=>(hR.below (t.below (by simp))).m) (by decide) ?_;simp only[if_true];rw[hz,hb];refine aA ?_;refine bX fun g2=>?_;unfold jG;refine aA ?_;exact xJ rfl (by kernel_rfl) rfl rfl (by first | assumption | exact aQ.whole 0 rfl | exact aQ.whole 1 rfl | exact aQ.whole 2 rfl | exact aQ.whole 3 rfl | exact aQ.whole 4 rfl | exact aQ.whole 5 rfl | exact aQ.whole 6 rfl | exact aQ.whole 7 rfl | exact aQ.whole 8 rfl | exact zE (by simp) (by assumption)) rfl fun w1 t=>⟨rfl,t.below (by simp)⟩
theorem aGH(L:RL)(s:aD)(st:List kI)(i:Int)(w:World)(hR:Lz w L s st):
  Cz 43 #[.pointer (some ⟨L.t,0,none⟩),iv i] w (Rt (.bool (Ba st i)) w):=by
 refine aM func43 ntmps43 ?_;refine aA ?_;refine aU (fun w1 t=>Vh L s st i w1 (hR.below (t.below (by simp)))) ?_;refine aA ?_;refine bX fun g2=>?_;cases hi:bB st.length i
 ·have hv:uU s st i=jG 0 ⟨0,false,false⟩:=by simp[uU,hi]
  rw[hv];unfold jG;refine aA ?_;refine kB (by simp) ?_;simp[Ba,hi]
 ·have hv:uU s st i=jG (s.aR.getD i.toNat 0) (st.getD i.toNat sX):=by simp[uU,hi]
  rw[hv];unfold jG;refine aA ?_;refine kB (by simp) ?_
  have:i.toNat < st.length:=by have:=of_decide_eq_true hi;omega
  simp[Ba,hi,List.getElem?_eq_getElem this]
end
section
theorem aE5:∀{cl:List Dom} {rs:List (List Value)},Rows vD 3 cl rs→rs=cl.map fun d=>[iv d.above,iv d.delay,.bool d.ret]
 | [],[],_=>rfl
 | e::es,r::rs,h=>by
  have h1:r=[iv e.above,iv e.delay,.bool e.ret]:=h.2.1
  rw[h1,aE5 h.2.2];rfl
theorem aCW:∀{cl:List Int} {rs:List (List Value)},Rows zC 1 cl rs→rs=cl.map fun d=>[iv d]
 | [],[],_=>rfl
 | e::es,r::rs,h=>by
  have h1:r=[iv e]:=h.2.1
  rw[h1,aCW h.2.2];rfl
def aKU(s:aD)(v:Value)(hs:List HP)(_:Piece):Prop:=∃L:GL,v=.tuple #[.pointer (some ⟨L.t,0,none⟩),iv 0]∧hs=[wM L s (s.domains.map fun _=>yY)]
theorem aOd(s:aD)(hH:s.dI)(A1 A2 A3 A4:Option Addr)(n1 k1 n2 k2 n3 k3 n4 k4:Nat)(w:World)(hW:fL w s A1 n1 A2 n2 A3 n3 A4 n4):
  Cz 69 #[.agg #[.slice A1 n1 k1,.slice A2 n2 k2,.slice A3 n3 k3,.slice A4 n4 k4]] w (fun y w'=>(∃v hs q,y=.returned v∧q.w=w'∧aKU s v hs q∧jD w hs q)∧Below w.heap.size w w'):=by
 have hnd:=hH.t.nd
 obtain⟨rd,hrd,hn2,hsd⟩:=hW.dom
 have hrd:=aE5 hrd
 subst hrd;subst hn2
 have iY:(s.domains.map fun _=>yY).length=s.domains.length:=by simp
 refine aM func69 ntmps69 ?_;refine aA ?_;refine bA fun g1=>?_;refine aA ?_;refine aU (fun w1 t=>Tb s A1 A2 A3 A4 n1 k1 _ k2 n3 k3 n4 k4 w1 (hW.le (t.started (by simp))) hH.t.Ta) ?_;refine aA ?_;refine kd (fY rfl) ?_;refine bA fun g2=>?_;refine aA ?_;refine iN 231 7 ?_;refine bL [(18,iv 0),(17,iv s.domains.length),(16,.slice A2 s.domains.length k2),(5,pt g2)] ?_;refine eJ (fun m e R H=>∃(i:Nat) (A:Option Addr) (k:Nat),i≤s.domains.length∧m=s.domains.length - i∧e=[(18,iv i),(17,iv s.domains.length),(16,.slice A2 s.domains.length k2),(5,pt g2)]∧R=[all w]∧H=[HP.own 231 7 (.slice A i k) i ((rK s (s.domains.map fun _=>yY)).take i).flatten,HP.aE g2 273 [.slice A i k],HP.aE g1 30 [.slice A1 n1 k1,.slice A2 s.domains.length k2,.slice A3 n3 k3,.slice A4 n4 k4]]) s.domains.length ⟨0,none,0,by omega,rfl,rfl,rfl,by simp⟩ fun m e R H hI=>?_;obtain⟨i,A,k,hi,rfl,rfl,rfl,rfl⟩:=hI;refine aA ?_;refine aG rfl (fun hlt=>?_) (fun hge=>?_)
 ·have hlt:i < s.domains.length:=by omega
  obtain⟨c,hc⟩:=get_some hlt;obtain⟨b,off,hB,hro⟩:=aI.row hsd (fun r hr=>by obtain⟨q,_,rfl⟩:=List.mem_map.1 hr;rfl) (r:=[iv c.above,iv c.delay,.bool c.ret]) (by rw[List.getElem?_map,hc];rfl) hlt;subst hB
  have hrow:(rK s (s.domains.map fun _=>yY))[i]? =some (pZ c yY):=Lc hc (by rw[List.getElem?_map,hc];rfl)
  have dW:((rK s (s.domains.map fun _=>yY)).take (i+1)).flatten=((rK s (s.domains.map fun _=>yY)).take i).flatten++pZ c yY:=by
   rw[List.take_succ,hrow,List.flatten_append];simp
  refine aA ?_;refine kd (dat i (off+i*3)) ?_;refine aA ?_;refine bX fun g3=>?_;refine aA ?_;refine jO [2,3,4,5,6] ?_;refine bT 0 ?_;refine bT 1 ?_;refine aJ 2 ?_;refine aJ 3 ?_;refine aJ 4 ?_;refine aJ 5 ?_;refine aJ 6 ?_ (dH:=lZ (zs:=[iv 0,iv 0,.bool false,.int .u8 0,iv 0,.bool false,.bool false]) (L:=[(0,3),(3,1),(4,1),(5,1),(6,1)]) (iG (by kernel_rfl)) (by kernel_rfl) rfl (by simp[fJ,gK,Value.cells];rfl));refine aL 7 ?_;refine eK fun g5=>?_;refine bH ?_;refine aL 8 ?_;refine gJ 2 7 48 1 (el:=231) (by kernel_rfl) (by kernel_rfl) (by decide) rfl rfl rfl (nS 0 rfl rfl) (by simp[Value.oneCell']) rfl (by omega) (by omega) (by decide) fun A' k'=>?_;dsimp only[List.set];refine cT ?_;refine aL 9 ?_;refine bK ?_;refine cT ?_;refine aL 10 ?_;refine bK ?_;refine cT ?_;refine aL 11 ?_;refine fD rfl rfl ?_;dsimp only[List.set];refine cT ?_;refine fE ?_;refine aA ?_;refine aY [2,3,4] rfl (by decide) (fun _ h=>h) ?_;exact dZ (s.domains.length - (i+1)) ⟨i+1,A',k',hlt,rfl,rfl,rfl,by rw[dW]⟩
 ·obtain rfl:i=s.domains.length:=by omega
  refine aA ?_
  have hfull:(rK s (s.domains.map fun _=>yY)).take s.domains.length=rK s (s.domains.map fun _=>yY):=List.take_of_length_le (by simp[rK])
  rw[hfull];refine aY [1,0] rfl (by decide) (fun _ h=>h) ?_;refine nA ?_;refine dP [] [] [0] (by simp) rfl (by decide) (by decide) fun q _ _ hfr=>?_;exact eL rfl rfl rfl fun w1 t=>⟨⟨_,_,⟨w1,q.Z⟩,rfl,rfl,⟨⟨g2,A,k⟩,rfl,rfl⟩,t.newR (by simp) (by simp) (hfr (by simp) (by simp))⟩,t.below (by simp)⟩
theorem aLk{N:cE}{w0:World}{e:Env}{R:List Piece}{H:List HP}{Q:Exit→Act→World→Prop}{ops:Array Oper}{rest:List Oper}{d:Nat}{ty:TypeId}{pos:String}{aH:Array Edge}{x:Operand}{n:Int}{t kt et:TypeId}(ht:Tryz.prog.underlying t=some (.map kt et))(hx:e.ev x=some (iv n))(hd:d < N.n)(k:∀g,XK N w0 (wpList Tryz.prog ops Q rest) ((d,.map (some g))::e) R (HP.map g []::H)):XK N w0 (wpList Tryz.prog ops Q (⟨some d,.makeMap t (some x),ty,pos,aH,none⟩::rest)) e R H:=
 vH rfl fun a w hr st=>⟨.map (some w.heap.size),w.alloc (.map #[] 0),by simp[execOp,Instr.makeMap,hr.ev hx,run_underlying ht,asInt,asIntOf],k w.heap.size _ _ (hr.put hd _) (st.new (Oi w _) ⟨⟨Nat.le_refl _,by simp⟩,#[],0,heap_alloc_new w _,rfl⟩)⟩
def aKK(s:aD)(v:Value)(hs:List HP)(_:Piece):Prop:=∃L:RL,v=.tuple #[.pointer (some ⟨L.t,0,none⟩),iv 0]∧hs=[qX L s (s.aR.map fun _=>sX)]
theorem aOP(l:List (Int×Value))(k:Int)(v:Value)(h:nG l k=none):pE l k v=l++[(k,v)]:=by
 induction l with
 | nil=>rfl
 | cons p l ih =>
  obtain⟨a,b⟩:=p;rw[Qp] at h;rw[pE];split at h
  ·cases h
  ·rename_i hne
   rw[if_neg hne,ih h];rfl
theorem aMN(s:aD)(hH:s.dI)(A1 A2 A3 A4:Option Addr)(n1 k1 n2 k2 n3 k3 n4 k4:Nat)(w:World)(hW:fL w s A1 n1 A2 n2 A3 n3 A4 n4):
  Cz 70 #[.agg #[.slice A1 n1 k1,.slice A2 n2 k2,.slice A3 n3 k3,.slice A4 n4 k4]] w (fun y w'=>(∃v hs q,y=.returned v∧q.w=w'∧aKK s v hs q∧jD w hs q)∧Below w.heap.size w w'):=by
 have iJ:=hH.t.nr
 obtain⟨rr,cF,pI,hst⟩:=hW.Cu
 have cF:=aCW cF
 subst cF;subst pI
 have pW:(s.aR.map fun _=>sX).length=s.aR.length:=by simp
 refine aM func70 ntmps70 ?_;refine aA ?_;refine bA fun g1=>?_;refine aA ?_;refine aU (fun w1 t=>Tb s A1 A2 A3 A4 n1 k1 n2 k2 _ k3 n4 k4 w1 (hW.le (t.started (by simp))) hH.t.Ta) ?_;refine aA ?_;refine aLk (kt:=3) (et:=233) (by kernel_rfl) rfl (by decide) fun gm=>?_;refine kd (fY rfl) ?_;refine bA fun g2=>?_;refine aA ?_;refine bL [(22,iv 0),(21,iv s.aR.length),(20,.slice A3 s.aR.length k3),(5,pt g2)] ?_;refine eJ (fun m e R H=>∃i:Nat,i≤s.aR.length∧m=s.aR.length - i∧e=[(22,iv i),(21,iv s.aR.length),(20,.slice A3 s.aR.length k3),(5,pt g2)]∧R=[all w]∧H=[HP.aE g2 277 [.map (some gm)],HP.map gm ((List.range i).map (Mt s (s.aR.map fun _=>sX))),HP.aE g1 30 [.slice A1 n1 k1,.slice A2 n2 k2,.slice A3 s.aR.length k3,.slice A4 n4 k4]]) s.aR.length ⟨0,by omega,rfl,rfl,rfl,rfl⟩ fun m e R H hI=>?_;obtain⟨i,hi,rfl,rfl,rfl,rfl⟩:=hI;refine aA ?_;refine aG rfl (fun hlt=>?_) (fun hge=>?_)
 ·have hlt:i < s.aR.length:=by omega
  obtain⟨c,hc⟩:=get_some hlt;obtain⟨b,off,hB,hro⟩:=aI.row hst (fun r hr=>by obtain⟨q,_,rfl⟩:=List.mem_map.1 hr;rfl) (r:=[iv c]) (by rw[List.getElem?_map,hc];rfl) hlt;subst hB
  have iX:pE ((List.range i).map (Mt s (s.aR.map fun _=>sX))) (i:Int) (jG c sX)=(List.range (i+1)).map (Mt s (s.aR.map fun _=>sX)):=by
   rw[aOP _ _ _ (by
    have:=aHD (fun j=>jG (s.aR.getD j 0) ((s.aR.map fun _=>sX).getD j sX)) i (i:Int)
    rw[if_neg (by simp[bB])] at this
    exact this),List.range_succ,List.map_append]
   congr 1
   simp[Mt,List.getD_eq_getElem?_getD,hc]
  refine aA ?_;refine kd (dat i (off+i*1)) ?_;refine aA ?_;refine bX fun g3=>?_;refine aA ?_;refine jO [1,2,3,5,6,7] ?_;refine bT 0 ?_;refine aJ 1 ?_;refine aJ 2 ?_;refine aJ 3 ?_;refine bT 4 ?_;refine aJ 5 ?_;refine aJ 6 ?_;refine aJ 7 ?_ (dH:=lZ (zs:=[iv 0,iv 0,.bool false,.bool false]) (L:=[(0,1),(1,1),(2,1),(3,1)]) (iG (by kernel_rfl)) (by kernel_rfl) rfl (by simp[fJ,gK,Value.cells];rfl));refine aL 8 ?_;refine Jm (kt:=3) (et:=233) (kd:=.i64) (l:=(List.range i).map (Mt s (s.aR.map fun _=>sX))) (v:=jG c sX) 2 (by kernel_rfl) (by kernel_rfl) rfl rfl rfl rfl ?_;rw[iX];dsimp only[List.set];refine cT ?_;refine fE ?_;refine aA ?_;refine aY [1,2,3] rfl (by decide) (fun _ h=>h) ?_;exact dZ (s.aR.length - (i+1)) ⟨i+1,hlt,rfl,rfl,rfl,rfl⟩
 ·obtain rfl:i=s.aR.length:=by omega
  refine aA ?_;refine nA ?_;refine dP [] [] [0] (by simp) rfl (by decide) (by decide) fun q _ _ hfr=>?_;exact eL rfl rfl rfl fun w1 t=>⟨⟨_,_,⟨w1,q.Z⟩,rfl,rfl,⟨⟨g2,gm⟩,rfl,by simp[qX,oJ]⟩,t.newR (by simp) (by simp) (hfr (by simp) (by simp))⟩,t.below (by simp)⟩
end
section
structure jC where
 id:Int
 wr:Bool
 bY:Int
 val:Int
def jC.cells(t:jC):List Value:=[iv t.id,.bool t.wr,iv t.bY,.int .u32 t.val]
def QH(v:Value):Option jC→HP
 | none=>Pm (∃A,v=.slice A 0 0)
 | some t=>HP.own 259 4 v 1 t.cells
structure BL where
 b:Nat
 gr:Nat
 gw:Nat
def iQ(ws:List (Option jC))(i:Nat):Nat:=if((ws[i]?).join).isSome then 1 else 0
def aFn(g n:Nat)(ws:List (Option jC)):HP:=HP.ex fun vs:List Value=>HP.many (HP.aE g 267 vs::Pm (vs.length=n)::(List.range n).map fun i=>QH (vs.getD i undef) (ws[i]?).join)
def zK(L:BL)(ms:List Int)(ws:List (Option jC))(aS:Int):HP:=HP.many [HP.aE L.b 270 [.slice (some ⟨L.gr,0,none⟩) ms.length ms.length,.slice (some ⟨L.gw,0,none⟩) ms.length ms.length,iv aS],HP.aE L.gr 3 (aK ms),aFn L.gw ms.length ws]
structure Jl(w:World)(L:BL)(ms:List Int)(ws:List (Option jC))(aS:Int):Prop where
 r0:eD w L.b 0 [.slice (some ⟨L.gr,0,none⟩) ms.length ms.length,.slice (some ⟨L.gw,0,none⟩) ms.length ms.length,iv aS]
 rg:eD w L.gr 0 (aK ms)
 wt:∀i,i < ms.length→∃A c,fQ w L.gw i (.slice A (iQ ws i) c)
theorem Jl.below{w w':World}{L:BL}{ms:List Int}{ws:List (Option jC)}{aS:Int}(h:Jl w L ms ws aS)(hb:Below w.heap.size w w'):Jl w' L ms ws aS:=
 ⟨h.r0.below hb,h.rg.below hb,fun i hi=>by
  obtain⟨A,c,h1,h2⟩:=h.wt i hi
  exact⟨A,c,Nat.lt_of_lt_of_le h1 hb.size,(hb.cell (p:=⟨_,i,none⟩) h1).trans h2⟩⟩
theorem aLc{L:BL}{ms:List Int}{ws:List (Option jC)}{aS:Int}{F:Nat→Prop}{w:World}(h:(zK L ms ws aS).sat F w):Jl w L ms ws aS:=by
 obtain⟨G,g1,g2,_⟩:=h;refine⟨uV (g1 0 _ rfl).2,uV (g1 1 _ rfl).2,fun i hi=>?_⟩;obtain⟨vs,G',k1,_,_⟩:=g1 2 _ rfl
 have hb:=uV (k1 0 _ rfl).2
 have hl:vs.length=ms.length:=k1 1 _ rfl
 obtain⟨v,hv⟩:=get_some (l:=vs) (i:=i) (by omega)
 have hq:=k1 (i+2) (QH (vs.getD i undef) (ws[i]?).join) (by
  rw[List.getElem?_cons_succ,List.getElem?_cons_succ,List.getElem?_map,List.getElem?_range hi];rfl)
 rw[List.getD_eq_getElem?_getD,hv] at hq
 have hc:=hb.at_ hv
 rw[Nat.zero_add] at hc;unfold iQ;cases hj:(ws[i]?).join with
 | none=>
  rw[hj] at hq;obtain⟨A,hA⟩:∃A,v=.slice A 0 0:=hq;subst hA;exact⟨A,0,hc⟩
 | some t=>
  rw[hj] at hq;obtain⟨A,c,hA,_⟩:=vA (Y:=fun _=>True) hq (fun _ _=>trivial)
  have hA:v=.slice A 1 c:=hA
  subst hA;exact⟨A,c,hc⟩
section
variable{N:cE}{w0 w:World}{e:Env}{R:List Piece}{H:List HP}{K:Act→World→Prop}{L:BL}{ms:List Int}{ws:List (Option jC)}{aS:Int}
theorem St.aJM(t:St w0 R H w)(i:Nat)(hi:H[i]? =some (zK L ms ws aS)):Jl w L ms ws aS:=by
 obtain⟨F,h1,h2,_⟩:=t.chunk hi;exact aLc h1
end
theorem aBP(L:BL)(ms:List Int)(ws:List (Option jC))(aS:Int)(i:Int)(w:World)(hR:Jl w L ms ws aS):
  Cz 111 #[.pointer (some ⟨L.b,0,none⟩),iv i] w (Rt (.bool (bB ms.length i)) w):=by
 have k0:=hR.r0.at_ (j:=0) rfl
 refine aM func111 ntmps111 ?_;refine aA ?_;refine bQ (t:=11) rfl (fun h=>?_) (fun h=>?_)
 ·refine aA ?_;refine kB (by simp) ?_;unfold bB
  congr 1
  simp;omega
 ·refine aA ?_;refine kB (by simp) ?_
  have:bB ms.length i=false:=decide_eq_false (by omega)
  rw[this]
theorem aJK(L:BL)(ms:List Int)(ws:List (Option jC))(aS:Int)(i:Nat)(hi:i < ms.length)(w:World)(hR:Jl w L ms ws aS):
  Cz 57 #[.pointer (some ⟨L.b,0,none⟩),iv (i:Int)] w (Rt (iv (iQ ws i:Nat)) w):=by
 have k1:=hR.r0.at_ (j:=1) rfl
 obtain⟨A,c,hw⟩:=hR.wt i hi
 have hin:bB ms.length (i:Int)=true:=decide_eq_true (by omega)
 refine aM func57 ntmps57 ?_;refine aA ?_;refine aU (fun w1 t=>aBP L ms ws aS i w1 (hR.below (t.below (by simp)))) ?_;rw[hin];refine aB ?_;exact cY
def aLb(ms:List Int)(v:Value)(hs:List HP)(_:Piece):Prop:=∃L:BL,v=.tuple #[.pointer (some ⟨L.b,0,none⟩),iv 0]∧hs=[zK L ms (ms.map fun _=>none) 0]
theorem aLD{N:cE}{w0:World}{e:Env}{R:List Piece}{H:List HP}{K:Act→World→Prop}{g n:Nat}{β:Type}(l:List β)(hl:l.length=n)(i:Nat)(hi:H[i]? =some (HP.aE g 267 (List.replicate n (sn))))(h:XK N w0 K e R (H.set i (aFn g n (l.map fun _=>none)))):XK N w0 K e R H:=by
 refine Bp (q:=aFn g n (l.map fun _=>none)) i hi (fun F w hs=>⟨List.replicate n (sn),fun k b=>k=0∧F b,fun k p hk=>?_,fun k b h=>h.2,fun k j b hkj h1 h2=>by have:=h1.1;have:=h2.1;omega⟩) h
 match k,hk with
 | 0,hk=>
  simp at hk;subst hk
  show(HP.aE g 267 (List.replicate n (sn))).sat (fun b=>0=0∧F b) w
  rw[show(fun b=>0=0∧F b)=F by funext b;simp];exact hs
 | 1,hk=>cases hk;show(List.replicate n (Value.slice none 0 0)).length=n;simp
 | k + 2, hk =>
  rw[List.getElem?_cons_succ,List.getElem?_cons_succ,List.getElem?_map] at hk;cases hr:(List.range n)[k]? with
  | none=>rw[hr] at hk;cases hk
  | some j =>
   rw[hr] at hk
   have hj:j < n:=List.mem_range.1 (List.mem_of_getElem? hr)
   have:((l.map fun _=>(none:Option jC))[j]?).join=none:=by
    rw[List.getElem?_map];cases l[j]? <;>rfl
   simp only[Option.map_some,Option.some.injEq,this] at hk;subst hk;refine⟨none,?_⟩;rw[List.getD_eq_getElem?_getD,List.getElem?_replicate,if_pos hj];rfl
theorem aTx(ms:List Int)(hml:ms.length≤6)(hm:∀m∈ms,0≤m∧m≤8)(A:Option Addr)(c:Nat)(w:World)(hs:aI (all w) 1 A ms.length (aK ms)):
  Cz 74 #[.slice A ms.length c] w (fun y w'=>(∃v hs q,y=.returned v∧q.w=w'∧aLb ms v hs q∧jD w hs q)∧Below w.heap.size w w'):=by
 refine aM func74 ntmps74 ?_;refine cP ?_;refine eC ?_;refine bK ?_;refine bK ?_;refine dO ?_;refine cP ?_;refine cP ?_;refine eC ?_;refine bK ?_;refine bK ?_;refine bK ?_;refine aB ?_;refine aG rfl (fun h=>absurd h (by omega)) (fun _=>?_);refine mA ?_;refine dS ?_;refine Tq (fun e R H=>∃gr gw g3,e=[(4,pt g3),(0,.slice A ms.length c)]∧R=[all w]∧H=[HP.aE g3 270 [.slice (some ⟨gr,0,none⟩) ms.length ms.length,.slice (some ⟨gw,0,none⟩) ms.length ms.length,iv 0],HP.aE gr 3 (List.replicate ms.length (iv 0)),HP.aE gw 267 (List.replicate ms.length (sn))]) ?_ ?_
 ·refine rL 6 (by kernel_rfl) (by kernel_rfl) ?_;refine bJ 0 ?_;refine bJ 1 ?_;refine bJ 3 ?_;refine bJ 4 ?_;refine Lv 2 5 rfl rfl (by kernel_rfl) ?_ ?_
  ·refine lO (n:=ms.length) 8 (el:=3) (z:=iv 0) (by kernel_rfl) (by kernel_rfl) rfl rfl rfl (by omega) (by omega) (by decide) fun gr=>?_;refine nY ?_;refine cH 5 ?_;refine lO (n:=ms.length) 24 (el:=267) (z:=sn) (by kernel_rfl) (by kernel_rfl) rfl rfl rfl (by omega) (by omega) (by decide) fun gw=>?_;refine nY ?_;refine cH 6 ?_;refine kd (fY rfl) ?_;refine eZ ?_;refine cH 7 ?_;refine bA fun g3=>?_;refine eZ ?_;refine cH 8 ?_;refine bK ?_;refine eZ ?_;refine kH ?_;refine dS ?_;exact pO ⟨gr,gw,g3,rfl,rfl,rfl⟩
  ·refine lO (n:=ms.length) 24 (el:=267) (z:=sn) (by kernel_rfl) (by kernel_rfl) rfl rfl rfl (by omega) (by omega) (by decide) fun gw=>?_;refine nY ?_;refine cH 2 ?_;refine lO (n:=ms.length) 8 (el:=3) (z:=iv 0) (by kernel_rfl) (by kernel_rfl) rfl rfl rfl (by omega) (by omega) (by decide) fun gr=>?_;refine nY ?_;refine cH 6 ?_;refine kd (fY rfl) ?_;refine eZ ?_;refine cH 7 ?_;refine bA fun g3=>?_;refine eZ ?_;refine cH 8 ?_;refine bK ?_;refine eZ ?_;refine kH ?_;refine dS ?_;exact pO ⟨gr,gw,g3,rfl,rfl,rfl⟩
 rintro _ _ _ ⟨gr,gw,g3,rfl,rfl,rfl⟩;refine aB ?_;refine bL [(20,iv 0),(19,iv ms.length),(18,.slice A ms.length c),(4,pt g3)] ?_
 refine eJ (fun m e R H=>∃i:Nat,i≤ms.length∧m=ms.length - i∧e=[(20,iv i),(19,iv ms.length),(18,.slice A ms.length c),(4,pt g3)]∧R=[all w]∧H=[HP.aE g3 270 [.slice (some ⟨gr,0,none⟩) ms.length ms.length,.slice (some ⟨gw,0,none⟩) ms.length ms.length,iv 0],HP.aE gr 3 (aK (lF ms (ms.map fun _=>0) i)),HP.aE gw 267 (List.replicate ms.length (sn))]) ms.length ⟨0,by omega,rfl,rfl,rfl,by
  rw[Vz]
  have:List.replicate ms.length (Value.int .i64 0)=aK (ms.map fun _=>0):=by
   refine List.ext_getElem? fun j=>?_;simp only[aK,List.map_map,List.getElem?_replicate,List.getElem?_map]
   by_cases h:j < ms.length
   ·rw[if_pos h,List.getElem?_eq_getElem h];rfl
   ·rw[if_neg h,List.getElem?_eq_none (by omega)];rfl
  rw[this]⟩ fun m e R H hI=>?_
 obtain⟨i,hi,rfl,rfl,rfl,rfl⟩:=hI
 have Wy:=Wb (vs:=ms) (old:=ms.map fun _=>0) (n:=ms.length) rfl (by simp) hi
 refine aB ?_;refine aG rfl (fun hlt=>?_) (fun hge=>?_)
 ·have hlt:i < ms.length:=by omega
  obtain⟨v,hv⟩:=get_some hlt
  have hvb:=hm v (List.mem_of_getElem? hv)
  obtain⟨b,off,hB,hz,hc⟩:=hs.2 (by omega);subst hB
  have hro:fQ w b (off+i) (iv v):=⟨hz,hc i _ (by simp[aK,hv])⟩
  have iB:(aK (lF ms (ms.map fun _=>0) i)).length=ms.length:=by simp[aK,Wy]
  have iX:(aK (lF ms (ms.map fun _=>0) i)).set i (iv v)=aK (lF ms (ms.map fun _=>0) (i+1)):=by
   rw[←Wa (by simp) hv,aK,aK,List.map_set]
  refine aA ?_;refine kd (dat i (off+i)) ?_;refine aB ?_;refine bQ (t:=27) rfl (fun h=>absurd h (by omega)) (fun _=>?_);refine aB ?_;refine aG rfl (fun h=>absurd h (by omega)) (fun _=>?_);refine aB ?_;rw[iX];refine aB ?_;exact dZ (ms.length - (i+1)) ⟨i+1,hlt,rfl,rfl,rfl,rfl⟩
 ·obtain rfl:i=ms.length:=by omega
  rw[Wc rfl (by simp)];refine aB ?_;refine aLD ms rfl 2 rfl ?_;dsimp only[List.set];refine Zw ?_;refine dP [] [] [0] (by simp) rfl (by decide) (by decide) fun q _ _ hfr=>?_;exact eL rfl rfl rfl fun w1 t=>⟨⟨_,_,⟨w1,q.Z⟩,rfl,rfl,⟨⟨g3,gr,gw⟩,rfl,rfl⟩,t.newR (by simp) (by simp) (hfr (by simp) (by simp))⟩,t.below (by simp)⟩
end
section
structure aP where
 ck:List eP
 dm:List fF
 ln:List kI
 dv:List (cO×dL)
 wt:List (Option jC)
 aS:Int
def hw0(s:aD):aP:=⟨s.aF.map yZ,s.domains.map fun _=>yY,s.aR.map fun _=>sX,s.aC.map fun d=>(Gd d,Qj),s.aC.map fun _=>none,0⟩
structure HL where
 h:Nat
 T:TL
 G:GL
 R:RL
 B:BL
 A:Option Addr
 c:Nat
 ds:List (FL×Nat)
def La(d:bO)(l:FL×Nat):List Value:=[iv d.clock,iv d.domain,iv d.reset,.int .u32 d.iU,.pointer (some ⟨l.1.f,0,none⟩),.pointer (some ⟨l.2,0,none⟩)]
def xE(ds:List bO)(ls:List (FL×Nat)):List (List Value):=List.zipWith La ds ls
def So(d:bO)(p:(FL×Nat)×(cO×dL)):HP:=HP.many [iF p.1.1 d p.2.1,vB p.1.2 p.2.2]
def yX(ds:List bO)(ls:List (FL×Nat))(xs:List (cO×dL)):List HP:=List.zipWith So ds (ls.zip xs)
def kK(s:aD):List Int:=s.aC.map fun d=>(d.aO.length:Int)
def Xp(L:HL)(n:Nat):List Value:=[.pointer (some ⟨L.T.t,0,none⟩),.pointer (some ⟨L.G.t,0,none⟩),.pointer (some ⟨L.R.t,0,none⟩),.pointer (some ⟨L.B.b,0,none⟩),.slice L.A n L.c]
def dU(L:HL)(s:aD)(x:aP):HP:=HP.many [HP.aE L.h 113 (Xp L s.aC.length),rM L.T s x.ck,wM L.G s x.dm,qX L.R s x.ln,zK L.B (kK s) x.wt x.aS,HP.own 106 6 (.slice L.A s.aC.length L.c) s.aC.length (xE s.aC L.ds).flatten,HP.many (yX s.aC L.ds x.dv)]
def aKN(s:aD)(v:Value)(hs:List HP)(_:Piece):Prop:=∃L:HL,v=.tuple #[.pointer (some ⟨L.h,0,none⟩),iv 0]∧hs=[dU L s (hw0 s)]∧L.T.fa.length=s.aF.length∧L.ds.length=s.aC.length
theorem Hh(s:aD):(kK s).length=s.aC.length:=by simp[kK]
theorem aRO{ds:List bO}{i:Nat}{d:bO}(hd:ds[i]? =some d){ls:List (FL×Nat)}(hl:ls.length=i)(l:FL×Nat):yX (ds.take (i+1)) (ls++[l]) ((ds.take (i+1)).map fun d=>(Gd d,Qj))=yX (ds.take i) ls ((ds.take i).map fun d=>(Gd d,Qj))++[So d (l,(Gd d,Qj))]:=by
 have hlt:i < ds.length:=Az hd
 rw[List.take_succ,hd,Option.toList_some,List.map_append];unfold yX;rw[List.zip_append (by simp;omega),List.zipWith_append (by simp;omega)];rfl
theorem aRN{ds:List bO}{i:Nat}{d:bO}(hd:ds[i]? =some d){ls:List (FL×Nat)}(hl:ls.length=i)(l:FL×Nat):(xE (ds.take (i+1)) (ls++[l])).flatten=(xE (ds.take i) ls).flatten++La d l:=by
 have hlt:i < ds.length:=Az hd
 rw[List.take_succ,hd,Option.toList_some];unfold xE;rw[List.zipWith_append (by simp;omega),List.flatten_append];simp
theorem uX{N:cE}{w0:World}{e:Env}{R:List Piece}{H:List HP}{K:Act→World→Prop}{p:HP}{ps:List HP}(h:XK N w0 K e R (HP.many (ps++[p])::H)):XK N w0 K e R (HP.many ps::p::H):=fun a w hr st=>
 (Zx (ps:=ps) (p:=p) h) a w hr (st.weak (fun _ h=>h) (fun i=>match i with
  | 0=>1
  | 1=>0
  | i+2=>i+2) (fun i j _ _ he=>by
   match i,j with
   | 0,0=>rfl
   | 0,1=>simp at he
   | 0,j+2=>simp at he
   | 1,0=>simp at he
   | 1,1=>rfl
   | 1,j+2=>simp at he
   | i+2,0=>simp at he
   | i+2,1=>simp at he
   | i+2,j+2=>simpa using he) (fun i p hi=>by
   match i,hi with
   | 0,hi=>simpa using hi
   | 1,hi=>simpa using hi
   | i+2,hi=>simpa using hi))
theorem aUg{N:cE}{w0:World}{e:Env}{R:List Piece}{H:List HP}{K:Act→World→Prop}(h:XK N w0 K e R (HP.many []::H)):XK N w0 K e R H:=Bu (p:=HP.many []) (fun w=>⟨fun _ _=>False,fun i p hp=>by simp at hp,fun _ _ h=>h,fun _ _ _ _ h=>h.elim⟩) h
theorem aQB(s:aD)(hH:s.dI)(A1 A2 A3 A4:Option Addr)(n1 k1 n2 k2 n3 k3 n4 k4:Nat)(w:World)(hW:fL w s A1 n1 A2 n2 A3 n3 A4 n4):
  Cz 34 #[.agg #[.slice A1 n1 k1,.slice A2 n2 k2,.slice A3 n3 k3,.slice A4 n4 k4]] w (fun y w'=>(∃v hs q,y=.returned v∧q.w=w'∧aKN s v hs q∧jD w hs q)∧Below w.heap.size w w'):=by
 have lX:=hH.t.nv
 obtain⟨rv,Rn,rG,vT⟩:=hW.dev;obtain⟨da,iY,rfl,hda⟩:=aE8 Rn;subst rG;refine aM func34 ntmps34 ?_;refine aB ?_;refine bA fun g1=>?_;refine aB ?_;refine aU (fun w1 t=>Tb s A1 A2 A3 A4 n1 k1 n2 k2 n3 k3 _ k4 w1 (hW.le (t.started (by simp))) hH.t.Ta) ?_;refine aB ?_;refine iA (aK2 s) (fun w1 t=>aST s hH A1 A2 A3 A4 n1 k1 n2 k2 n3 k3 _ k4 w1 (hW.le (t.started (by simp)))) ?_;rintro _ _ q1 ⟨LT,rfl,rfl,hfa⟩ _;dsimp only[List.cons_append,List.nil_append];refine aB ?_;refine iA (aKU s) (fun w1 t=>aOd s hH A1 A2 A3 A4 n1 k1 n2 k2 n3 k3 _ k4 w1 (hW.le (t.started (by simp)))) ?_;rintro _ _ q2 ⟨LG,rfl,rfl⟩ _;dsimp only[List.cons_append,List.nil_append];refine aB ?_;refine iA (aKK s) (fun w1 t=>aMN s hH A1 A2 A3 A4 n1 k1 n2 k2 n3 k3 _ k4 w1 (hW.le (t.started (by simp)))) ?_;rintro _ _ q3 ⟨LR,rfl,rfl⟩ _;dsimp only[List.cons_append,List.nil_append];refine aB ?_;refine bA fun g2=>?_;refine aB ?_;refine lO (n:=s.aC.length) 8 (el:=3) (z:=iv 0) (by kernel_rfl) (by kernel_rfl) rfl rfl rfl (by omega) (by omega) (by decide) fun gm=>?_;refine aB ?_;refine iN 106 6 ?_;refine aUg ?_;refine aY [0,1,2,3,4,5,6] rfl (by decide) (R':=[all w]) (by simp) ?_;refine bL [(56,iv 0),(55,iv s.aC.length),(54,.slice A4 s.aC.length k4),(10,.slice (some ⟨gm,0,none⟩) s.aC.length s.aC.length),(9,pt g2)] ?_;refine eJ (fun m e R H=>∃(i:Nat) (A:Option Addr) (c:Nat) (ls:List (FL×Nat)),i≤s.aC.length∧ls.length=i∧m=s.aC.length - i∧e=[(56,iv i),(55,iv s.aC.length),(54,.slice A4 s.aC.length k4),(10,.slice (some ⟨gm,0,none⟩) s.aC.length s.aC.length),(9,pt g2)]∧R=[all w]∧H=[HP.many (yX (s.aC.take i) ls ((s.aC.take i).map fun d=>(Gd d,Qj))),HP.own 106 6 (.slice A i c) i (xE (s.aC.take i) ls).flatten,HP.aE gm 3 (aK (lF (kK s) ((kK s).map fun _=>0) i)),HP.aE g2 113 [.pointer (some ⟨LT.t,0,none⟩),.pointer (some ⟨LG.t,0,none⟩),.pointer (some ⟨LR.t,0,none⟩),.pointer none,.slice A i c],qX LR s (hw0 s).ln,wM LG s (hw0 s).dm,rM LT s (hw0 s).ck]) s.aC.length ⟨0,none,0,[],by omega,rfl,rfl,rfl,rfl,?_⟩ fun m e R H hI=>?_
 ·have:List.replicate s.aC.length (Value.int .i64 0)=aK (lF (kK s) ((kK s).map fun _=>0) 0):=by
   rw[Vz];refine List.ext_getElem? fun j=>?_;simp only[aK,kK,List.map_map,List.getElem?_replicate,List.getElem?_map]
   by_cases h:j < s.aC.length
   ·rw[if_pos h,List.getElem?_eq_getElem h];rfl
   ·rw[if_neg h,List.getElem?_eq_none (by omega)];rfl
  rw[this];rfl
 obtain⟨i,A,c,ls,hi,pW,rfl,rfl,rfl,rfl⟩:=hI
 have hml:=Hh s
 have Wy:=Wb (vs:=kK s) (old:=(kK s).map fun _=>0) (n:=s.aC.length) hml (by simp[kK]) hi
 refine aB ?_;refine aG rfl (fun hlt=>?_) (fun hge=>?_)
 ·have hlt:i < s.aC.length:=by omega
  obtain⟨d,hd⟩:=get_some hlt;obtain⟨⟨a1,a2⟩,ha⟩:=get_some (l:=da) (i:=i) (by omega);obtain⟨aDN,aIr⟩:=hda i d _ hd ha
  have hfit:=hH.t.aC i d hd
  obtain⟨b,off,hB,hro⟩:=aI.row vT (aAq (f:=Bk) (es:=s.aC) (bs:=da) (sz:=6) iY (fun _ _=>rfl)).2 (Uh (f:=Bk) hd ha) hlt;subst hB;refine aA ?_;refine kd (dat i (off+i*6)) ?_;refine aB ?_;refine bX fun g3=>?_
  have hmi:(kK s)[i]? =some (d.aO.length:Int):=by rw[kK,List.getElem?_map,hd];rfl
  have iB:(aK (lF (kK s) ((kK s).map fun _=>0) i)).length=s.aC.length:=by simp[aK,Wy]
  have iX:(aK (lF (kK s) ((kK s).map fun _=>0) i)).set i (iv d.aO.length)=aK (lF (kK s) ((kK s).map fun _=>0) (i+1)):=by
   rw[←Wa (by simp) hmi,aK,aK,List.map_set]
  refine aB ?_;refine iA (aKY d) (fun w1 t=>aNv d (by have:=hfit.2.2.2.2.2.2.2.2.1;omega) (fun r hr=>by have:=hfit.2.2.2.2.2.2.2.2.2.1 r hr;omega) a1.1 a1.2 w1 (aI.le aDN (t.le (by simp)))) ?_;rintro _ _ q1 ⟨LF,rfl,rfl⟩ _;dsimp only[List.cons_append,List.nil_append];refine aB ?_;refine aU (fun w1 t=>Vk LF d (Gd d) w1 (t.aEz 0 rfl)) ?_;refine aB ?_;rw[iX];refine aA ?_;refine jO [2,3,4,5,6,7,8,9,10,11,12] ?_;refine bT 0 ?_;refine bT 1 ?_;refine bT 13 ?_;refine aJ 2 ?_;refine aJ 3 ?_;refine aJ 4 ?_;refine aJ 5 ?_;refine aJ 6 ?_;refine aJ 7 ?_;refine aJ 8 ?_;refine aJ 9 ?_;refine aJ 10 ?_;refine aJ 11 ?_;refine aJ 12 ?_;refine aL 14 ?_;refine iA (fun v hs _=>∃g,v=pt g∧hs=[HP.aE g 266 [iv 0,iv 0]]) (fun w1 t=>aNR w1) ?_;rintro _ _ q2 ⟨gq,rfl,rfl⟩ _;dsimp only[List.cons_append,List.nil_append];refine bH ?_;refine aL 15 ?_;refine kd (fY rfl) ?_;refine bH ?_;refine aL 16 ?_;refine eK fun g4=>?_;refine bH ?_ (hS:=fun _ h=>h.tail.aZ.tail);refine aL 17 ?_;refine gJ 5 6 48 1 (n':=i+1) (el:=106) (by kernel_rfl) (by kernel_rfl) (by decide) rfl rfl rfl (nS 0 rfl rfl) (by simp[Value.oneCell']) rfl (by omega) (by omega) (by decide) fun An cn=>?_;dsimp only[List.set];refine cT ?_;refine aL 18 ?_;refine bK ?_;refine cT ?_;refine aL 19 ?_;refine bK ?_;refine cT ?_;refine aL 20 ?_;refine fD rfl rfl ?_;dsimp only[List.set];refine cT ?_;refine fE ?_;refine aA ?_;refine aY [2,1,4,5,6,7,8,9,10] rfl (by decide) (R':=[all w]) (by simp) ?_;refine nA ?_;refine Zx ?_;refine bL [(56,iv (i+1:Nat)),(55,iv s.aC.length),(54,.slice (some ⟨b,off,none⟩) s.aC.length k4),(10,.slice (some ⟨gm,0,none⟩) s.aC.length s.aC.length),(9,pt g2)] ?_;exact iD (s.aC.length - (i+1)) (by omega) ⟨i+1,An,cn,ls++[(LF,gq)],hlt,by simp;omega,rfl,rfl,rfl,by rw[aRO hd pW,aRN hd pW];rfl⟩
 ·obtain rfl:i=s.aC.length:=by omega
  rw[Wc hml (by simp[kK])];rw[List.take_length];refine aB ?_
  refine iA (aLb (kK s)) (fun w1 t=>by
   have:=aTx (kK s) (by omega) (fun m hm=>by
    obtain⟨d,hd,rfl⟩:=List.mem_map.1 hm;obtain⟨j,hj⟩:=List.getElem?_of_mem hd
    have:=(hH.t.aC j d hj).2.2.2.2.2.2.2.2.1
    omega) (some ⟨gm,0,none⟩) s.aC.length w1
   rw[hml] at this
   exact this (t.rU (i:=2) rfl (by simp[aK,hml]))) ?_
  rintro _ _ q1 ⟨LB,rfl,rfl⟩ _;dsimp only[List.cons_append,List.nil_append];refine aB ?_;refine aY [4,7,6,5,0,2,1] rfl (by decide) (R':=[all w]) (by simp) ?_;refine nA ?_;refine uX ?_;refine uX ?_;refine uX ?_;refine uX ?_;refine uX ?_;dsimp only[List.cons_append,List.nil_append];refine dP [] [] [0] (by simp) rfl (by decide) (by decide) fun q _ _ hfr=>?_;exact eL rfl rfl rfl fun w1 t=>⟨⟨_,_,⟨w1,q.Z⟩,rfl,rfl,⟨⟨g2,LT,LG,LR,LB,A,c,ls⟩,rfl,by simp[dU,Xp,hw0,kK,Function.comp_def],hfa,pW⟩,t.newR (by simp) (by simp) (hfr (by simp) (by simp))⟩,t.below (by simp)⟩
end
section
structure cK(s:aD)(x:aP):Prop where
 ck:qZ s x.ck
 dm:vE s x.dm
 ln:Gq s x.ln
 dv:x.dv.length=s.aC.length
 each:∀(i:Nat) (d:bO) (p:cO×dL),s.aC[i]? =some d→x.dv[i]? =some p→zG d p.1∧Cb p.2
 wt:x.wt.length=s.aC.length
structure iO(L:HL)(s:aD):Prop where
 fa:L.T.fa.length=s.aF.length
 ds:L.ds.length=s.aC.length
structure vC(w:World)(L:HL)(s:aD)(x:aP):Prop where
 r0:eD w L.h 0 (Xp L s.aC.length)
 tree:xK w L.T s x.ck
 aEp:aKT w L.G s x.dm
 lines:Lz w L.R s x.ln
 bus:Jl w L.B (kK s) x.wt x.aS
 rows:aI (all w) 6 L.A s.aC.length (xE s.aC L.ds).flatten
 each:∀(i:Nat) (d:bO) (l:FL×Nat) (p:cO×dL),s.aC[i]? =some d→L.ds[i]? =some l→x.dv[i]? =some p→Eh w l.1 d p.1∧eD w l.2 0 (Ua p.2)
theorem vC.below{w w':World}{L:HL}{s:aD}{x:aP}(h:vC w L s x)(hb:Below w.heap.size w w'):vC w' L s x:=
 ⟨h.r0.below hb,h.tree.below hb,Eb.below h.aEp hb,h.lines.below hb,h.bus.below hb,h.rows.le (jU hb),fun i d l p h1 h2 h3=>⟨(h.each i d l p h1 h2 h3).1.below hb,(h.each i d l p h1 h2 h3).2.below hb⟩⟩
theorem aKO{L:HL}{s:aD}{x:aP}{F:Nat→Prop}{w:World}(h:(dU L s x).sat F w)(hF:∀b,F b→b < w.heap.size)(hL:iO L s)(hok:cK s x):vC w L s x:=by
 obtain⟨G,g1,g2,_⟩:=h
 have hl:∀i b,G i b→b < w.heap.size:=fun i b hb=>hF b (g2 i b hb)
 obtain⟨A',c',he,hs⟩:=vA (Y:=fun b=>b < w.heap.size) (g1 5 _ rfl) (hl 5)
 injection he with he
 subst he;refine⟨uV (g1 0 _ rfl).2,aK3 (g1 1 _ rfl) (hl 1) hL.fa hok.ck,aKB (g1 2 _ rfl) (hl 2),aKL (g1 3 _ rfl),aLc (g1 4 _ rfl),hs,fun i d l p h1 h2 h3=>?_⟩;obtain⟨G',k1,k2,_⟩:=g1 6 _ rfl
 have hz:(yX s.aC L.ds x.dv)[i]? =some (So d (l,p)):=by
  have hq:(L.ds.zip x.dv)[i]? =some (l,p):=List.getElem?_zip_eq_some.2 ⟨h2,h3⟩
  rw[yX,List.getElem?_zipWith,h1,hq]
 have hj:∀b,G' i b→b < w.heap.size:=fun b hb=>hl 6 b (k2 i b hb)
 obtain⟨G2,m1,m2,_⟩:=k1 i _ hz;exact⟨aAo (m1 0 _ rfl) (fun b hb=>hj b (m2 0 b hb)),uV (m1 1 _ rfl).2⟩
section
variable{N:cE}{w0 w:World}{e:Env}{R:List Piece}{H:List HP}{K:Act→World→Prop}{L:HL}{s:aD}{x:aP}
theorem St.nL(t:St w0 R H w)(i:Nat)(hi:H[i]? =some (dU L s x))(hL:iO L s)(hok:cK s x):vC w L s x:=by
 obtain⟨F,h1,h2,_⟩:=t.chunk hi;exact aKO h1 h2 hL hok
end
section
variable(L:HL)(s:aD)(x:aP)(w:World)
theorem Dj(hR:vC w L s x):Cz 54 #[.pointer (some ⟨L.h,0,none⟩)] w (Rt (.bool true) w):=by
 have k0:=hR.r0.at_ (j:=0) rfl
 have k1:=hR.r0.at_ (j:=1) rfl
 have k2:=hR.r0.at_ (j:=2) rfl
 have k3:=hR.r0.at_ (j:=3) rfl
 refine aM func54 ntmps54 ?_;refine aA ?_;exact cY
theorem Ry(i:Int)(hR:vC w L s x):Cz 40 #[.pointer (some ⟨L.h,0,none⟩),iv i] w (Rt (.bool (bB s.aC.length i)) w):=by
 have k0:=hR.r0.at_ (j:=4) rfl
 refine aM func40 ntmps40 ?_;refine aA ?_;refine aU (fun w1 t=>Dj L s x w1 (hR.below (t.below (by simp)))) ?_;refine aA ?_;refine bQ (t:=11) rfl (fun h=>?_) (fun h=>?_)
 ·refine aA ?_;refine kB (by simp) ?_;unfold bB
  congr 1
  simp;omega
 ·refine aA ?_;refine kB (by simp) ?_
  have:bB s.aC.length i=false:=decide_eq_false (by omega)
  rw[this]
theorem aQs(i:Nat)(hi:i < s.aC.length)(hR:vC w L s x):Cz 97 #[.pointer (some ⟨L.h,0,none⟩),iv (i:Int)] w (Rt (iv (iQ x.wt i:Nat)) w):=by
 have k0:=hR.r0.at_ (j:=3) rfl
 have hin:bB s.aC.length (i:Int)=true:=decide_eq_true (by omega)
 refine aM func97 ntmps97 ?_;refine aA ?_;refine aU (fun w1 t=>Ry L s x w1 i (hR.below (t.below (by simp)))) ?_;rw[hin];refine aA ?_;refine aU (fun w1 t=>aJK L.B (kK s) x.wt x.aS i (by rw[Hh];exact hi) w1 (hR.bus.below (t.below (by simp)))) ?_;refine aA ?_;exact cY
theorem aEd(hok:vE s x.dm)(i:Int)(hR:vC w L s x):Cz 173 #[.pointer (some ⟨L.h,0,none⟩),iv i] w (Rt (.int .u8 (rX x.dm i)) w):=by
 have k0:=hR.r0.at_ (j:=1) rfl
 refine aM func173 ntmps173 ?_;refine aA ?_;refine aU (fun w1 t=>Dj L s x w1 (hR.below (t.below (by simp)))) ?_;refine aA ?_;refine aU (fun w1 t=>aHo L.G s x.dm hok i w1 (Eb.below hR.aEp (t.below (by simp)))) ?_;refine aA ?_;exact cY
theorem aQw(i:Int)(hR:vC w L s x):Cz 181 #[.pointer (some ⟨L.h,0,none⟩),iv i] w (Rt (.bool (Ba x.ln i)) w):=by
 have k0:=hR.r0.at_ (j:=2) rfl
 refine aM func181 ntmps181 ?_;refine aA ?_;refine aU (fun w1 t=>Dj L s x w1 (hR.below (t.below (by simp)))) ?_;refine aA ?_;refine aU (fun w1 t=>aGH L.R s x.ln i w1 (hR.lines.below (t.below (by simp)))) ?_;refine aA ?_;exact cY
end
end
section
theorem aHY{s:aD}(h:s.dI):cK s (hw0 s):=by
 refine⟨⟨by simp[hw0],fun x hx=>?_⟩,⟨by simp[hw0],fun x hx=>?_,fun x hx=>?_⟩,⟨by simp[hw0],fun x hx=>?_⟩,by simp[hw0],fun i d p hd hp=>?_,by simp[hw0]⟩
 ·obtain⟨c,hc,rfl⟩:=List.mem_map.1 hx;obtain⟨i,hi⟩:=List.getElem?_of_mem hc
  have:=(h.t.aF i c hi).2
  unfold yZ;dsimp only;split
  ·omega
  ·omega
 ·obtain⟨c,hc,rfl⟩:=List.mem_map.1 hx;simp[yY]
 ·obtain⟨c,hc,rfl⟩:=List.mem_map.1 hx;simp[yY]
 ·obtain⟨c,hc,rfl⟩:=List.mem_map.1 hx;simp[sX]
 ·simp only[hw0,List.getElem?_map,hd,Option.map_some] at hp;cases hp
  have hf:=h.t.aC i d hd
  refine⟨⟨by simp[Gd],by simp[Gd],fun v hv=>?_,fun v hv=>?_⟩,by simp[Cb,Qj]⟩
  ·obtain⟨r,hr,rfl⟩:=List.mem_map.1 hv
   have:=hf.2.2.2.2.2.2.2.2.2.1 r hr
   omega
  ·simp only[Gd,List.mem_map] at hv;obtain⟨r,_,rfl⟩:=hv;omega
theorem aC2{s:aD}(h:s.wX):(dQ s).sm:=by
 have h1:=h.nc
 have h2:=h.nd
 have h3:=h.nr
 exact⟨by simp[dQ];omega,by simp[dQ];omega,by simp[dQ];omega⟩
end
section
theorem yF{α:Type}{l:List α}{i:Nat}{x:α}(h:l[i]? =some x):l.set i x=l:=by
 refine List.ext_getElem? fun j=>?_;rw[List.getElem?_set]
 by_cases he:i=j
 ·subst he;rw[if_pos rfl,if_pos (List.getElem?_eq_some_iff.1 h).1,h]
 ·rw[if_neg he]
def uI(s:aD)(st:List eP)(i:Nat):List Value:=(List.range s.aF.length).map fun j=>.bool (decide (j < i)&&runs s st j)
theorem aNN(s:aD)(st:List eP):List.replicate s.aF.length (Value.bool false)=uI s st 0:=by
 refine List.ext_getElem? fun j=>?_;rw[uI,List.getElem?_replicate,List.getElem?_map]
 by_cases hl:j < s.aF.length
 ·rw[List.getElem?_range hl];simp[hl]
 ·rw[List.getElem?_eq_none (l:=List.range s.aF.length) (by simp;omega)];simp[hl]
theorem aNO(s:aD)(st:List eP)(i:Nat):(uI s st i).set i (.bool (runs s st i))=uI s st (i+1):=by
 refine List.ext_getElem? fun j=>?_;simp only[uI,List.getElem?_set,List.getElem?_map,List.length_map,List.length_range]
 by_cases he:i=j
 ·subst he
  by_cases hl:i < s.aF.length
  ·rw[if_pos rfl,if_pos hl,List.getElem?_range hl];simp
  ·rw[if_pos rfl,if_neg hl,List.getElem?_eq_none (by simp;omega)];rfl
 ·rw[if_neg he]
  by_cases hl:j < s.aF.length
  ·rw[List.getElem?_range hl]
   have:decide (j < i)=decide (j < i+1):=by simp;omega
   simp[this]
  ·rw[List.getElem?_eq_none (by simp;omega)];rfl
theorem aNP{s:aD}{st:List eP}{j:Nat}(h:j < s.aF.length):(uI s st s.aF.length)[j]? =some (.bool (runs s st j)):=by
 simp[uI,h]
def qK(s:aD)(st:List eP)(i:Nat):List eP:=(lS s st).take i++st.drop i
theorem aOW(s:aD)(st:List eP):qK s st 0=st:=by simp[qK]
theorem aPa{s:aD}{st:List eP}(hok:qZ s st):qK s st s.aF.length=lS s st:=by
 have hl:=hok.len
 rw[qK,List.drop_eq_nil_of_le (by omega),List.append_nil,List.take_of_length_le (by simp[lS];omega)]
theorem aOZ{s:aD}{st:List eP}(hok:qZ s st){i:Nat}(hi:i < s.aF.length):(qK s st i)[i]? =st[i]? :=by
 have hl:=hok.len
 have:((lS s st).take i).length=i:=by simp[lS];omega
 rw[qK,List.getElem?_append_right (by omega),this,Nat.sub_self,List.getElem?_drop,Nat.add_zero]
theorem aDz{s:aD}{st:List eP}(hok:qZ s st){i:Nat}(hi:i≤s.aF.length):(qK s st i).length=s.aF.length:=by
 have hl:=hok.len
 simp[qK,lS];omega
theorem aOX{s:aD}{st:List eP}(hok:qZ s st){i:Nat}{c:eF}{x:eP}(hc:s.aF[i]? =some c)(hx:st[i]? =some x):(qK s st i).set i (vJ s st c x)=qK s st (i+1):=by
 have hl:=hok.len
 have hi:=(List.getElem?_eq_some_iff.1 hc).1
 have ht:(lS s st)[i]? =some (vJ s st c x):=by rw[lS,List.getElem?_zipWith,hc,hx]
 have nV:(lS s st).length=s.aF.length:=by simp[lS];omega
 refine List.ext_getElem? fun j=>?_;rw[List.getElem?_set]
 by_cases he:i=j
 ·subst he;rw[if_pos rfl,if_pos (by rw[aDz hok (by omega)];exact hi),qK,List.getElem?_append_left (by rw[List.length_take];omega),List.getElem?_take_of_lt (by omega),ht]
 ·rw[if_neg he,qK,qK];rcases Nat.lt_or_ge j i with hj | hj
  ·rw[List.getElem?_append_left (by rw[List.length_take];omega),List.getElem?_append_left (by rw[List.length_take];omega),List.getElem?_take_of_lt hj,List.getElem?_take_of_lt (by omega)]
  ·rw[List.getElem?_append_right (by rw[List.length_take];omega),List.getElem?_append_right (by rw[List.length_take];omega),List.getElem?_drop,List.getElem?_drop,List.length_take,List.length_take]
   congr 1
   omega
theorem aLP{s:aD}{st:List eP}(hH:s.dI)(hok:qZ s st){i:Nat}{c:eF}{x:eP}(hc:s.aF[i]? =some c)(hx:x∈st):0≤(vJ s st c x).left∧(vJ s st c x).left≤3:=by
 have h1:=hok.left x hx
 have h2:=(hH.t.aF i c hc).2
 have h3:0≤c.lock∧c.lock≤3:=by omega
 unfold vJ;split
 ·split
  ·exact h3
  ·split
   ·dsimp only;omega
   ·exact h1
 ·exact h1
theorem aCO{s:aD}{st:List eP}(hH:s.dI)(hok:qZ s st):qZ s (lS s st):=by
 have hl:=hok.len
 refine⟨by simp[lS];omega,fun x hx=>?_⟩;obtain⟨j,hj⟩:=List.getElem?_of_mem hx;rw[lS,List.getElem?_zipWith] at hj;cases hc:s.aF[j]? with
 | none=>rw[hc] at hj;cases hj
 | some c =>
  cases hy:st[j]? with
  | none=>rw[hc,hy] at hj;cases hj
  | some y=>
   rw[hc,hy] at hj;cases hj;exact aLP hH hok hc (List.mem_of_getElem? hy)
theorem aOY{s:aD}{st:List eP}(hH:s.dI)(hok:qZ s st){i:Nat}(hi:i≤s.aF.length):qZ s (qK s st i):=⟨aDz hok hi,fun x hx=>by
 rcases List.mem_append.1 hx with h | h
 ·exact(aCO hH hok).left x (List.mem_of_mem_take h)
 ·exact hok.left x (List.mem_of_mem_drop h)⟩
theorem aSP(L:TL)(s:aD)(st:List eP)(hH:s.dI)(hfl:L.fa.length=s.aF.length)(hok:qZ s st)(w:World)(F:Nat→Prop)(hp:(rM L s st).sat F w)(hF:∀b,F b→b < w.heap.size):
  Cz 58 #[.pointer (some ⟨L.t,0,none⟩)] w (Wr (.tuple #[]) (rM L s (lS s st)) w F):=by
 have hnc:=hH.t.nc
 have hl:=hok.len
 refine dJ func58 ntmps58 hp hF ?_
 have aDQ:Rd w [⟨w,fun b=>b < w.heap.size∧¬F b⟩] [rM L s st] L.t 0 (.slice L.A s.aF.length L.c):=Rd.tree 0 rfl hfl hok
 refine aA ?_;refine lO (n:=s.aF.length) 1 (el:=4) (z:=.bool false) (by kernel_rfl) (by kernel_rfl) rfl rfl rfl (by omega) (by omega) (by decide) fun g1=>?_
 have aIk:Rd w [⟨w,fun b=>b < w.heap.size∧¬F b⟩] [HP.aE g1 4 (List.replicate s.aF.length (.bool false)),rM L s st] L.t 0 (.slice L.A s.aF.length L.c):=Rd.tree 1 rfl hfl hok
 refine aA ?_;rw[aNN s st];refine bL [(19,iv 0),(18,iv s.aF.length),(2,.slice (some ⟨g1,0,none⟩) s.aF.length s.aF.length),(0,.pointer (some ⟨L.t,0,none⟩))] ?_;refine eJ (fun m e R H=>∃i:Nat,i≤s.aF.length∧m=s.aF.length - i∧e=[(19,iv i),(18,iv s.aF.length),(2,.slice (some ⟨g1,0,none⟩) s.aF.length s.aF.length),(0,.pointer (some ⟨L.t,0,none⟩))]∧R=[⟨w,fun b=>b < w.heap.size∧¬F b⟩]∧H=[HP.aE g1 4 (uI s st i),rM L s st]) s.aF.length ⟨0,by omega,rfl,rfl,rfl,rfl⟩ fun m e R H hI=>?_;obtain⟨i,hi,rfl,rfl,rfl,rfl⟩:=hI;refine aA ?_;refine aG rfl (fun hlt=>?_) (fun hge=>?_)
 ·have hlt:i < s.aF.length:=by omega
  have kL:(uI s st i).length=s.aF.length:=by simp[uI]
  refine aA ?_;refine aU (fun w1 t=>Zf L s st hH i w1 (t.aCM 1 rfl hfl hok)) ?_;rw[show qI s st (i:Int)=runs s st i by simp[qI,bB,hlt]];refine aB ?_;rw[aNO];exact dZ (s.aF.length - (i+1)) ⟨i+1,hlt,rfl,rfl,rfl,rfl⟩
 ·obtain rfl:i=s.aF.length:=by omega
  have aDP:Rd w [⟨w,fun b=>b < w.heap.size∧¬F b⟩] [HP.aE g1 4 (uI s st s.aF.length),rM L s st] L.t 0 (.slice L.A s.aF.length L.c):=Rd.tree 1 rfl hfl hok
  refine aA ?_;refine bL [(34,iv 0),(33,iv s.aF.length),(2,.slice (some ⟨g1,0,none⟩) s.aF.length s.aF.length),(0,.pointer (some ⟨L.t,0,none⟩))] ?_;refine eJ (fun m e R H=>∃i:Nat,i≤s.aF.length∧m=s.aF.length - i∧e=[(34,iv i),(33,iv s.aF.length),(2,.slice (some ⟨g1,0,none⟩) s.aF.length s.aF.length),(0,.pointer (some ⟨L.t,0,none⟩))]∧R=[⟨w,fun b=>b < w.heap.size∧¬F b⟩]∧H=[HP.aE g1 4 (uI s st s.aF.length),rM L s (qK s st i)]) s.aF.length ⟨0,by omega,rfl,rfl,rfl,by rw[aOW]⟩ fun m e R H hI=>?_;obtain⟨i,hi,rfl,rfl,rfl,rfl⟩:=hI;refine aA ?_;refine aG rfl (fun hlt=>?_) (fun hge=>?_)
  ·have hlt:i < s.aF.length:=by omega
   obtain⟨c,hc⟩:=get_some hlt;obtain⟨a,ha⟩:=get_some (l:=L.fa) (i:=i) (by omega);obtain⟨x,hx⟩:=get_some (l:=st) (i:=i) (by omega)
   have Dc:=aOY hH hok hi
   have hml:=aDz hok hi
   have Nj:(qK s st i)[i]? =some x:=by rw[aOZ hok hlt];exact hx
   obtain⟨gB,iJ⟩:=aDt hfl Dc
   have Xa:=hok.left x (List.mem_of_getElem? hx)
   have kL:(uI s st s.aF.length).length=s.aF.length:=by simp[uI]
   have hpq:(kJ s L.fa (qK s st i)).set i (sV c a (vJ s st c x))=kJ s L.fa (qK s st (i+1)):=by rw[aHz hc ha (by omega),aOX hok hc hx]
   refine aKt 1 rfl (by omega) fun g cs hA h1 h2 h3 h4=>?_;dsimp only[List.set];rw[hA]
   have hs:=Ik h2 gB iJ (Qm hc ha Nj)
   have hu:=wF.refl cs (i*11) 11
   have hrd:Rd w [⟨w,fun b=>b < w.heap.size∧¬F b⟩] [HP.aE g 224 cs,HP.aE g1 4 (uI s st s.aF.length),HP.many [HP.aE L.t 227 [.slice (some ⟨g,0,none⟩) s.aF.length L.c],cJ,HP.bR (uA s L.fa) (uA.le (s:=s) (fa:=L.fa))]] L.t 0 (.slice (some ⟨g,0,none⟩) s.aF.length L.c):=aUG 2 0 rfl rfl rfl
   refine aA ?_;refine kd (dat i (i*11)) ?_;obtain⟨hsrc,hfit⟩:=hH.t.aF i c hc;obtain⟨kd,src,rate,mul,dv,lock⟩:=c;obtain⟨on,left⟩:=x;dsimp only at hfit hsrc Xa;dsimp only[sV] at hs
   have Wp:kd≠112∨on=false→kJ s L.fa (qK s st i)=kJ s L.fa (qK s st (i+1)):=fun hh=>by
    rw[←hpq]
    have:vJ s st ⟨kd,src,rate,mul,dv,lock⟩ ⟨on,left⟩=⟨on,left⟩:=by
     unfold vJ;rw[if_neg];rintro⟨h1,h2⟩;rcases hh with hh | hh
     ·exact hh h1
     ·rw[hh] at h2;cases h2
    rw[this,yF (Qm hc ha Nj)]
   rcases hfit with⟨rfl,_⟩ | ⟨rfl,qN,_⟩ | ⟨rfl,_⟩ | ⟨rfl,_⟩ | ⟨rfl,_⟩
   ·rw[Wp (.inl (by decide))] at h2;refine aA ?_;refine mL ?_;refine jB ?_;refine aA ?_;refine Bs 1 hA h1 h2 h3 h4 rfl ?_;exact dZ (s.aF.length - (i+1)) ⟨i+1,hlt,rfl,rfl,rfl,rfl⟩
   ·cases on
    ·rw[Wp (.inr rfl)] at h2;refine aA ?_;refine mL ?_;refine jB ?_;refine aA ?_;refine Bs 1 hA h1 h2 h3 h4 rfl ?_;exact dZ (s.aF.length - (i+1)) ⟨i+1,hlt,rfl,rfl,rfl,rfl⟩
    ·obtain⟨f,fs,hf⟩:∃(f:Nat) (fs:List Int),src=(f:Int)::fs:=by
      cases hs0:src with
      | nil=>rw[hs0] at qN;simp at qN
      | cons f fs=>exact⟨f.toNat,fs,by have:=(hsrc f (by rw[hs0];simp)).1;rw[Int.toNat_of_nonneg this]⟩
     have Nk:f < i:=by have:=(hsrc f (by rw[hf];simp)).2;omega
     subst hf
     have hrun:=aNP (s:=s) (st:=st) (j:=f) (by omega)
     have cF:Rd w [⟨w,fun b=>b < w.heap.size∧¬F b⟩] [HP.aE g 224 cs,HP.aE g1 4 (uI s st s.aF.length),HP.many [HP.aE L.t 227 [.slice (some ⟨g,0,none⟩) s.aF.length L.c],cJ,HP.bR (uA s L.fa) (uA.le (s:=s) (fa:=L.fa))]] g1 f (.bool (runs s st f)):=Rd.aE 1 rfl hrun
     refine aA ?_;refine aU (fun w1 t=>Sz L s (qK s st i) i f _ fs w1 (t.aLO 0 2 rfl rfl hA h2 hfl Dc) hc rfl) ?_;refine aB ?_
     have Fo:vJ s st ⟨112,(f:Int)::fs,rate,mul,dv,lock⟩ ⟨true,left⟩=if runs s st f=false then⟨true,lock⟩ else if 0 < left then⟨true,left - 1⟩ else⟨true,left⟩:=by
      simp[vJ,Qf]
     rw[Fo] at hpq;cases yJ:runs s st f
     ·rw[yJ] at cF;rw[if_pos yJ] at hpq
      have hs1:=hs.set 7 (iv lock) (by simp) (by omega)
      have vS:=hu.set 7 (iv lock) (by decide)
      have gN:=Gc (r':=sV ⟨112,(f:Int)::fs,rate,mul,dv,lock⟩ a ⟨true,lock⟩) h2 gB iJ hlt (by omega) rfl hs1 vS
      rw[hpq] at gN;refine aA ?_;refine Bs 1 hA (by simpa using h1) gN h3 h4 rfl ?_;exact dZ (s.aF.length - (i+1)) ⟨i+1,hlt,rfl,rfl,rfl,rfl⟩
     ·rw[yJ] at cF;rw[if_neg (by rw[yJ];decide)] at hpq;refine aA ?_;refine aG rfl (fun hp=>?_) (fun hp=>?_)
      ·rw[if_pos hp] at hpq
       have hs1:=hs.set 7 (iv (left - 1)) (by simp) (by omega)
       have vS:=hu.set 7 (iv (left - 1)) (by decide)
       have gN:=Gc (r':=sV ⟨112,(f:Int)::fs,rate,mul,dv,lock⟩ a ⟨true,left - 1⟩) h2 gB iJ hlt (by omega) rfl hs1 vS
       rw[hpq] at gN;refine aA ?_;refine Bs 1 hA (by simpa using h1) gN h3 h4 rfl ?_;exact dZ (s.aF.length - (i+1)) ⟨i+1,hlt,rfl,rfl,rfl,rfl⟩
      ·rw[if_neg hp,yF (Qm hc ha Nj)] at hpq;rw[hpq] at h2;refine aA ?_;refine mL ?_;refine jB ?_;refine aA ?_;refine Bs 1 hA h1 h2 h3 h4 rfl ?_;exact dZ (s.aF.length - (i+1)) ⟨i+1,hlt,rfl,rfl,rfl,rfl⟩
   ·rw[Wp (.inl (by decide))] at h2;refine aA ?_;refine mL ?_;refine jB ?_;refine aA ?_;refine Bs 1 hA h1 h2 h3 h4 rfl ?_;exact dZ (s.aF.length - (i+1)) ⟨i+1,hlt,rfl,rfl,rfl,rfl⟩
   ·rw[Wp (.inl (by decide))] at h2;refine aA ?_;refine mL ?_;refine jB ?_;refine aA ?_;refine Bs 1 hA h1 h2 h3 h4 rfl ?_;exact dZ (s.aF.length - (i+1)) ⟨i+1,hlt,rfl,rfl,rfl,rfl⟩
   ·rw[Wp (.inl (by decide))] at h2;refine aA ?_;refine mL ?_;refine jB ?_;refine aA ?_;refine Bs 1 hA h1 h2 h3 h4 rfl ?_;exact dZ (s.aF.length - (i+1)) ⟨i+1,hlt,rfl,rfl,rfl,rfl⟩
  ·obtain rfl:i=s.aF.length:=by omega
   rw[aPa hok];refine aA ?_;exact kC 1 hF
end
section
section
variable{N:cE}{w0 w:World}{e:Env}{R:List Piece}{H:List HP}{K:Act→World→Prop}{L:RL}{s:aD}{st:List kI}
theorem aFd(i:Nat)(hi:H[i]? =some (qX L s st))(h:XK N w0 K e R (HP.map L.g (oJ s st)::HP.aE L.t 277 [.map (some L.g)]::H.set i (HP.many [cJ,cJ]))):XK N w0 K e R H:=by
 have hlt:=Az hi
 refine tC i 0 hi rfl ?_;refine tC (i+1) 1 (by rw[List.getElem?_cons_succ,List.getElem?_set_self hlt]) rfl ?_
 simpa[List.set_cons_succ,List.set_set] using h
theorem Ts(i:Nat)(hi:H[i]? =some (HP.many [cJ,cJ]))(h:XK N w0 K e R (H.set i (qX L s st))):XK N w0 K e R (HP.map L.g (oJ s st)::HP.aE L.t 277 [.map (some L.g)]::H):=by
 have hlt:=Az hi
 refine tD (i+1) 1 (by rw[List.getElem?_cons_succ];exact hi) rfl ?_;dsimp only[List.set];refine tD i 0 (by rw[List.getElem?_set_self hlt]) rfl ?_
 simpa[List.set_set,qX] using h
end
theorem aMO(L:RL)(s:aD)(st:List kI)(hok:Gq s st)(i:Int)(w:World)(F:Nat→Prop)(hp:(qX L s st).sat F w)(hF:∀b,F b→b < w.heap.size):
  Cz 230 #[.pointer (some ⟨L.t,0,none⟩),iv i] w (Wr (iv (tS s st i).1) (qX L s (tS s st i).2) w F):=by
 have hl:=hok.len
 cases hi:bB st.length i
 ·have hr:tS s st i=(4,st):=by simp[tS,hi]
  have hv:uU s st i=jG 0 ⟨0,false,false⟩:=by simp[uU,hi]
  rw[hr];refine dJ func230 ntmps230 hp hF ?_;refine aA ?_;refine aU (fun w1 t=>Vh L s st i w1 (t.Qw 0 rfl)) ?_;rw[hi,hv];unfold jG;refine aA ?_;refine bX fun g1=>?_;refine aA ?_;exact cG 1 hF
 ·obtain⟨n,rfl⟩:∃n:Nat,i=n:=⟨i.toNat,by have:=of_decide_eq_true hi;omega⟩
  have hlt:n < st.length:=by have:=of_decide_eq_true hi;omega
  obtain⟨r,cF⟩:=get_some (l:=s.aR) (i:=n) (by omega);obtain⟨x,hx⟩:=get_some hlt
  have hrd:s.aR.getD n 0=r:=by rw[List.getD_eq_getElem?_getD,cF];rfl
  have hr:tS s st (n:Int)=(0,st.set n ⟨r,true,false⟩):=by simp[tS,hi,cF]
  have hv:uU s st (n:Int)=jG r x:=by simp[uU,hi,List.getD_eq_getElem?_getD,cF,hx]
  rw[hr];refine dJ func230 ntmps230 hp hF ?_;refine aA ?_;refine aU (fun w1 t=>Vh L s st n w1 (t.Qw 0 rfl)) ?_;rw[hi,hv];unfold jG;refine aA ?_;refine bX fun g1=>?_;refine aA ?_;refine aFd 1 rfl ?_;dsimp only[List.set];refine rL 6 (by kernel_rfl) (by kernel_rfl) ?_;refine bJ 0 ?_;refine bJ 1 ?_;refine bJ 2 ?_;refine bJ 3 ?_;refine bJ 4 ?_;refine bJ 5 ?_;refine cH 6 ?_;refine Jm (kt:=3) (et:=233) (kd:=.i64) (l:=oJ s st) (v:=jG r ⟨r,true,false⟩) 0 (by kernel_rfl) (by kernel_rfl) rfl rfl rfl rfl ?_;rw[aDv hrd hlt];dsimp only[List.set];refine eZ ?_;refine kH ?_;refine Ts 1 rfl ?_;refine aA ?_;exact cG 1 hF
theorem aMM(L:RL)(s:aD)(st:List kI)(hok:Gq s st)(i:Int)(w:World)(F:Nat→Prop)(hp:(qX L s st).sat F w)(hF:∀b,F b→b < w.heap.size):
  Cz 229 #[.pointer (some ⟨L.t,0,none⟩),iv i] w (Wr (iv (vL st i).1) (qX L s (vL st i).2) w F):=by
 have hl:=hok.len
 cases hi:bB st.length i
 ·have hr:vL st i=(4,st):=by simp[vL,hi]
  have hv:uU s st i=jG 0 ⟨0,false,false⟩:=by simp[uU,hi]
  rw[hr];refine dJ func229 ntmps229 hp hF ?_;refine aA ?_;refine aU (fun w1 t=>Vh L s st i w1 (t.Qw 0 rfl)) ?_;rw[hi,hv];unfold jG;refine aA ?_;refine bX fun g1=>?_;refine aA ?_;exact cG 1 hF
 ·obtain⟨n,rfl⟩:∃n:Nat,i=n:=⟨i.toNat,by have:=of_decide_eq_true hi;omega⟩
  have hlt:n < st.length:=by have:=of_decide_eq_true hi;omega
  obtain⟨r,cF⟩:=get_some (l:=s.aR) (i:=n) (by omega);obtain⟨x,hx⟩:=get_some hlt
  have hrd:s.aR.getD n 0=r:=by rw[List.getD_eq_getElem?_getD,cF];rfl
  have hr:vL st (n:Int)=if x.held=false then(6,st) else(0,st.set n ⟨x.left,x.held,true⟩):=by simp[vL,hi,hx]
  have hv:uU s st (n:Int)=jG r x:=by simp[uU,hi,List.getD_eq_getElem?_getD,cF,hx]
  rw[hr];refine dJ func229 ntmps229 hp hF ?_;refine aA ?_;refine aU (fun w1 t=>Vh L s st n w1 (t.Qw 0 rfl)) ?_;rw[hi,hv];obtain⟨left,held,wanted⟩:=x;unfold jG;refine aA ?_;refine bX fun g1=>?_;cases held
  ·refine aA ?_;exact cG 1 hF
  ·refine aA ?_;refine aFd 1 rfl ?_;dsimp only[List.set];refine rL 6 (by kernel_rfl) (by kernel_rfl) ?_;refine bJ 0 ?_;refine bJ 1 ?_;refine bJ 2 ?_;refine bJ 3 ?_;refine bJ 4 ?_;refine bJ 5 ?_;refine cH 6 ?_;refine Jm (kt:=3) (et:=233) (kd:=.i64) (l:=oJ s st) (v:=jG r ⟨left,true,true⟩) 0 (by kernel_rfl) (by kernel_rfl) rfl rfl rfl rfl ?_;rw[aDv hrd hlt];dsimp only[List.set];refine eZ ?_;refine kH ?_;refine Ts 1 rfl ?_;refine aA ?_;exact cG 1 hF
end
section
theorem aPr{α:Type}(f:α→α)(st:List α){i:Nat}{x:α}(hx:st[i]? =some x)(hs:f x=x):(st.map f).take i++st.drop i=(st.map f).take (i+1)++st.drop (i+1):=by
 have h1:=aDw f st hx
 rw[hs,aG1 (by rw[aDx f st (List.getElem?_eq_some_iff.1 hx).1];exact hx)] at h1;exact h1
theorem aML(L:RL)(s:aD)(st:List kI)(hH:s.dI)(hok:Gq s st)(w:World)(F:Nat→Prop)(hp:(qX L s st).sat F w)(hF:∀b,F b→b < w.heap.size):
  Cz 61 #[.pointer (some ⟨L.t,0,none⟩)] w (fun y w'=>∃a:Option Addr×Nat×Nat,y=.returned (.slice a.1 a.2.1 a.2.2)∧True∧∃F',(qX L s (Et st)).sat F' w'∧gX w w' F F'):=by
 have hl:=hok.len
 have iJ:=hH.t.nr
 refine dJ func61 ntmps61 hp hF ?_
 have aDQ:Rd w [⟨w,fun b=>b < w.heap.size∧¬F b⟩] [qX L s st] L.t 0 (.map (some L.g)):=fun w1 t=>(t.Qw 0 rfl).r0.2
 refine aA ?_;refine kd (aSl (kt:=3) (et:=233) (l:=oJ s st) (by kernel_rfl) rfl (fun w1 t=>(t.Qw 0 rfl).m)) ?_;rw[show(oJ s st).length=st.length by simp[oJ]];refine aA ?_;refine iN 3 1 ?_;refine bL [(14,iv 0),(13,iv st.length),(3,sn),(0,.pointer (some ⟨L.t,0,none⟩))] ?_;refine eJ (fun m e R H=>∃(i n:Nat) (A:Option Addr) (k:Nat) (xs:List Value),i≤st.length∧n≤i∧m=st.length - i∧e=[(14,iv i),(13,iv st.length),(3,.slice A n k),(0,.pointer (some ⟨L.t,0,none⟩))]∧R=[⟨w,fun b=>b < w.heap.size∧¬F b⟩]∧H=[HP.own 3 1 (.slice A n k) n xs,qX L s ((st.map lR).take i++st.drop i)]) st.length ⟨0,0,none,0,[],by omega,by omega,rfl,rfl,rfl,by simp⟩ fun m e R H hI=>?_;obtain⟨i,n,A,k,xs,hi,hni,rfl,rfl,rfl,rfl⟩:=hI;refine aA ?_;refine aG rfl (fun hlt=>?_) (fun hge=>?_)
 ·have hlt:i < st.length:=by omega
  obtain⟨r,cF⟩:=get_some (l:=s.aR) (i:=i) (by omega);obtain⟨x,hx⟩:=get_some hlt
  have Xa:=hok.left x (List.mem_of_getElem? hx)
  have hrd:s.aR.getD i 0=r:=by rw[List.getD_eq_getElem?_getD,cF];rfl
  have hml:((st.map lR).take i++st.drop i).length=st.length:=by simp;omega
  have Nj:((st.map lR).take i++st.drop i)[i]? =some x:=by rw[aDx _ st hlt];exact hx
  have hin:bB ((st.map lR).take i++st.drop i).length (i:Int)=true:=by rw[hml];exact decide_eq_true (by omega)
  have Df:nG (oJ s ((st.map lR).take i++st.drop i)) (i:Int)=some (jG r x):=by
   rw[aHE,if_pos hin,Int.toNat_natCast,hrd,List.getD_eq_getElem?_getD,Nj];rfl
  have iX:pE (oJ s ((st.map lR).take i++st.drop i)) (i:Int) (jG r (lR x))=oJ s ((st.map lR).take (i+1)++st.drop (i+1)):=by
   rw[aDv hrd (by omega),aDw lR st hx]
  refine aFd 1 rfl ?_;dsimp only[List.set];refine aA ?_;refine aAw (kt:=3) (et:=233) (kd:=.i64) (z:=jG 0 ⟨0,false,false⟩) (l:=oJ s ((st.map lR).take i++st.drop i)) true (by kernel_rfl) (by kernel_rfl) aHP rfl rfl (fun w1 t=>t.map (i:=0) rfl) (by decide) ?_;simp only[if_true,Df,Option.getD_some,Option.isSome_some];obtain⟨left,held,wanted⟩:=x;dsimp only at Xa;dsimp only[jG];refine aA ?_;refine bX fun g1=>?_;cases held
  ·have hsame:lR ⟨left,false,wanted⟩=⟨left,false,wanted⟩:=rfl
   rw[aPr lR st hx hsame];refine aA ?_;refine aY [1,2,3,4] rfl (by decide) (fun _ h=>h) ?_;refine Ts 1 rfl ?_;exact dZ (st.length - (i+1)) ⟨i+1,n,A,k,xs,hlt,by omega,rfl,rfl,rfl,rfl⟩
  ·refine aA ?_;refine aG rfl (fun hp=>?_) (fun hp=>?_)
   ·have Fo:lR ⟨left,true,wanted⟩=⟨left - 1,true,wanted⟩:=by simp[lR,hp]
    rw[Fo] at iX;refine aA ?_;refine rL 6 (by kernel_rfl) (by kernel_rfl) ?_;refine bJ 0 ?_;refine bJ 1 ?_;refine bJ 2 ?_;refine bJ 3 ?_;refine bJ 4 ?_;refine bJ 5 ?_;refine cH 6 ?_;refine Jm (kt:=3) (et:=233) (kd:=.i64) (l:=oJ s ((st.map lR).take i++st.drop i)) (v:=jG r ⟨left - 1,true,wanted⟩) 1 (by kernel_rfl) (by kernel_rfl) rfl rfl rfl rfl ?_;rw[iX];dsimp only[List.set];refine eZ ?_;refine kH ?_;refine aA ?_;refine aY [1,2,3,4] rfl (by decide) (fun _ h=>h) ?_;refine Ts 1 rfl ?_;exact dZ (st.length - (i+1)) ⟨i+1,n,A,k,xs,hlt,by omega,rfl,rfl,rfl,rfl⟩
   ·cases wanted
    ·have Fo:lR ⟨left,true,false⟩=⟨left,true,false⟩:=by simp[lR,hp]
     rw[Fo] at iX;refine aA ?_;refine rL 6 (by kernel_rfl) (by kernel_rfl) ?_;refine bJ 0 ?_;refine bJ 1 ?_;refine bJ 2 ?_;refine bJ 3 ?_;refine bJ 4 ?_;refine bJ 5 ?_;refine cH 6 ?_;refine Jm (kt:=3) (et:=233) (kd:=.i64) (l:=oJ s ((st.map lR).take i++st.drop i)) (v:=jG r ⟨left,true,false⟩) 1 (by kernel_rfl) (by kernel_rfl) rfl rfl rfl rfl ?_;rw[iX];dsimp only[List.set];refine eZ ?_;refine kH ?_;refine aA ?_;refine aY [1,2,3,4] rfl (by decide) (fun _ h=>h) ?_;refine Ts 1 rfl ?_;exact dZ (st.length - (i+1)) ⟨i+1,n,A,k,xs,hlt,by omega,rfl,rfl,rfl,rfl⟩
    ·have Fo:lR ⟨left,true,true⟩=⟨left,false,false⟩:=by simp[lR,hp]
     rw[Fo] at iX;refine aA ?_;refine eK fun g2=>?_;refine gJ 4 1 8 1 (el:=3) (by kernel_rfl) (by kernel_rfl) (by decide) rfl rfl rfl (nS 0 rfl rfl) (by simp[Value.oneCell']) rfl (by omega) (by omega) (by decide) fun A' k'=>?_;dsimp only[List.set];refine aA ?_;refine rL 6 (by kernel_rfl) (by kernel_rfl) ?_;refine bJ 0 ?_;refine bJ 1 ?_;refine bJ 2 ?_;refine bJ 3 ?_;refine bJ 4 ?_;refine bJ 5 ?_;refine cH 6 ?_;refine Jm (kt:=3) (et:=233) (kd:=.i64) (l:=oJ s ((st.map lR).take i++st.drop i)) (v:=jG r ⟨left,false,false⟩) 2 (by kernel_rfl) (by kernel_rfl) rfl rfl rfl rfl ?_;rw[iX];dsimp only[List.set];refine eZ ?_;refine kH ?_;refine aA ?_;refine aY [2,3,4,5] rfl (by decide) (fun _ h=>h) ?_;refine Ts 1 rfl ?_;exact dZ (st.length - (i+1)) ⟨i+1,n+1,A',k',_,hlt,by omega,rfl,rfl,rfl,rfl⟩
 ·obtain rfl:i=st.length:=by omega
  have xA:(st.map lR).take st.length++st.drop st.length=Et st:=by
   rw[List.drop_eq_nil_of_le (by omega),List.append_nil,List.take_of_length_le (by simp)];rfl
  rw[xA];refine aA ?_;exact mZ rfl rfl fun w1 t=>⟨(A,n,k),rfl,trivial,t.turns hF (by simp) (i:=1) rfl⟩
end
section
section
variable{N:cE}{w0 w:World}{e:Env}{R:List Piece}{H:List HP}{K:Act→World→Prop}{L:HL}{s:aD}{x:aP}
theorem rO(i:Nat){o:Nat}{v:Value}(hi:H[i]? =some (dU L s x))(hv:(Xp L s.aC.length)[o]? =some v):Rd w0 R H L.h o v:=fun w t=>by
 obtain⟨F,⟨G,g1,g2,_⟩,h2,_⟩:=t.chunk hi
 have:=(uV (g1 0 _ rfl).2).at_ (j:=o) hv
 rw[Nat.zero_add] at this;exact this.2
end
variable(L:HL)(s:aD)(x:aP)(w:World)
theorem aI6(hH:s.dI)(aW:iO L s)(hok:cK s x)(i:Int)(on:Bool)(F:Nat→Prop)(hp:(dU L s x).sat F w)(hF:∀b,F b→b < w.heap.size):
  Cz 179 #[.pointer (some ⟨L.h,0,none⟩),iv i,.bool on] w (Wr (iv (lE s x.ck i on).1) (dU L s {x with ck:=(lE s x.ck i on).2}) w F):=by
 have tP:=hH.t.nd
 refine dJ func179 ntmps179 hp hF ?_;refine aA ?_;refine aU (fun w1 t=>Dj L s x w1 (t.nL 0 rfl aW hok)) ?_;refine aA ?_;refine kd (bN rfl (rO 0 rfl rfl)) ?_;refine aA ?_;refine bF 0 1 ?_;refine dR 0 (rM L.T s (lE s x.ck i on).2) (fun w1 F1 t h1 h2 h3=>aSS L.T s x.ck aW.fa hok.ck i on w1 F1 h1 h2) ?_;refine aA ?_;refine aN 0 1 ?_;exact cG 0 hF
theorem aI1(hH:s.dI)(aW:iO L s)(hok:cK s x)(i:Int)(F:Nat→Prop)(hp:(dU L s x).sat F w)(hF:∀b,F b→b < w.heap.size):
  Cz 174 #[.pointer (some ⟨L.h,0,none⟩),iv i] w (Wr (iv (uE s x.dm i).1) (dU L s {x with dm:=(uE s x.dm i).2}) w F):=by
 have tP:=hH.t.nd
 refine dJ func174 ntmps174 hp hF ?_;refine aA ?_;refine aU (fun w1 t=>Dj L s x w1 (t.nL 0 rfl aW hok)) ?_;refine aA ?_;refine kd (bN rfl (rO 0 rfl rfl)) ?_;refine aA ?_;refine bF 0 2 ?_;refine dR 0 (wM L.G s (uE s x.dm i).2) (fun w1 F1 t h1 h2 h3=>aNZ L.G s x.dm hH hok.dm i w1 F1 h1 h2) ?_;refine aA ?_;refine aN 0 2 ?_;exact cG 0 hF
theorem aQx(hH:s.dI)(aW:iO L s)(hok:cK s x)(i:Int)(keep:Bool)(F:Nat→Prop)(hp:(dU L s x).sat F w)(hF:∀b,F b→b < w.heap.size):
  Cz 178 #[.pointer (some ⟨L.h,0,none⟩),iv i,.bool keep] w (Wr (iv (wA s x.dm i keep).1) (dU L s {x with dm:=(wA s x.dm i keep).2}) w F):=by
 have tP:=hH.t.nd
 refine dJ func178 ntmps178 hp hF ?_;refine aA ?_;refine aU (fun w1 t=>Dj L s x w1 (t.nL 0 rfl aW hok)) ?_;refine aA ?_;refine kd (bN rfl (rO 0 rfl rfl)) ?_;refine aA ?_;refine bF 0 2 ?_;refine dR 0 (wM L.G s (wA s x.dm i keep).2) (fun w1 F1 t h1 h2 h3=>aOe L.G s x.dm hok.dm (by omega) i keep w1 F1 h1 h2) ?_;refine aA ?_;refine aN 0 2 ?_;exact cG 0 hF
theorem aQu(hH:s.dI)(aW:iO L s)(hok:cK s x)(i:Int)(F:Nat→Prop)(hp:(dU L s x).sat F w)(hF:∀b,F b→b < w.heap.size):
  Cz 182 #[.pointer (some ⟨L.h,0,none⟩),iv i] w (Wr (iv (vL x.ln i).1) (dU L s {x with ln:=(vL x.ln i).2}) w F):=by
 have tP:=hH.t.nd
 refine dJ func182 ntmps182 hp hF ?_;refine aA ?_;refine aU (fun w1 t=>Dj L s x w1 (t.nL 0 rfl aW hok)) ?_;refine aA ?_;refine kd (bN rfl (rO 0 rfl rfl)) ?_;refine aA ?_;refine bF 0 3 ?_;refine dR 0 (qX L.R s (vL x.ln i).2) (fun w1 F1 t h1 h2 h3=>aMM L.R s x.ln hok.ln i w1 F1 h1 h2) ?_;refine aA ?_;refine aN 0 3 ?_;exact cG 0 hF
end
section
def Is(cZ:Int)(i:Nat):Bool:=decide (aBU (cZ.fdiv (2 ^ min i 32)) 1=1)
def zZ(x:aP)(cZ:Int)(n:Nat):List (cO×dL):=x.dv.mapIdx fun i p=>if i < n then(p.1,uG p.2 (decide (0 < iQ x.wt i)) (Is cZ i)) else p
def Iv(k:Int)(d:bO)(f:cO):cO:=if k=115 then wT d f else if k=114 then Jt d f else if k=108∨k=110 then Gk d f else f
def Gi(s:aD)(e:Int×Nat)(i:Nat)(p:cO×dL):cO×dL:=match s.aC[i]? with
 | some d=>if d.domain=(e.2:Int) then(Iv e.1 d p.1,p.2) else p
 | none=>p
def Cw(s:aD)(dv:List (cO×dL))(e:Int×Nat)(n:Nat):List (cO×dL):=dv.mapIdx fun i p=>if i < n then Gi s e i p else p
def tA(s:aD)(dv:List (cO×dL))(e:Int×Nat):List (cO×dL):=Cw s dv e s.aC.length
def iL(s:aD)(x:aP)(cZ:Int):aP:=⟨lS s x.ck,oU x.dm,Et x.ln,(lY x.dm s.domains.length).foldl (tA s) (zZ x cZ s.aC.length),x.wt,x.aS⟩
theorem Qr{α:Type}(l:List α)(f:Nat→α→α):(l.mapIdx fun i p=>if i < 0 then f i p else p)=l:=by
 refine List.ext_getElem? fun i=>?_;simp
theorem Qs{α:Type}{l:List α}{f:Nat→α→α}{n:Nat}{p:α}(hp:l[n]? =some p):(l.mapIdx fun i p=>if i < n then f i p else p).set n (f n p)=l.mapIdx fun i p=>if i < n+1 then f i p else p:=by
 refine List.ext_getElem? fun i=>?_
 have hlt:=(List.getElem?_eq_some_iff.1 hp).1
 rw[List.getElem?_set]
 by_cases he:n=i
 ·subst he;rw[if_pos rfl,if_pos (by simpa using hlt),List.getElem?_mapIdx,hp];simp
 ·rw[if_neg he,List.getElem?_mapIdx,List.getElem?_mapIdx];cases l[i]? with
  | none=>rfl
  | some q=>
   simp only[Option.map_some,Option.some.injEq]
   by_cases h:i < n
   ·rw[if_pos h,if_pos (by omega)]
   ·rw[if_neg h,if_neg (by omega)]
theorem Qt{α:Type}{l:List α}{f:Nat→α→α}{n:Nat}{p:α}(hp:l[n]? =some p):(l.mapIdx fun i p=>if i < n then f i p else p)[n]? =some p:=by
 rw[List.getElem?_mapIdx,hp];simp
theorem aB9{ds:List bO}{ls:List (FL×Nat)}{xs:List (cO×dL)}{i:Nat}{d:bO}{l:FL×Nat}{p:cO×dL}(hd:ds[i]? =some d)(hl:ls[i]? =some l)(hp:xs[i]? =some p):(yX ds ls xs)[i]? =some (So d (l,p)):=by
 have hq:(ls.zip xs)[i]? =some (l,p):=List.getElem?_zip_eq_some.2 ⟨hl,hp⟩
 rw[yX,List.getElem?_zipWith,hd,hq]
theorem aRP{ds:List bO}{ls:List (FL×Nat)}{xs:List (cO×dL)}{i:Nat}{d:bO}{l:FL×Nat}{p:cO×dL}(hd:ds[i]? =some d)(hl:ls[i]? =some l)(hp:xs[i]? =some p)(p':cO×dL):(yX ds ls xs).set i (So d (l,p'))=yX ds ls (xs.set i p'):=by
 refine List.ext_getElem? fun j=>?_
 have hlt:=(List.getElem?_eq_some_iff.1 (aB9 hd hl hp)).1
 rw[List.getElem?_set]
 by_cases he:i=j
 ·subst he;rw[if_pos rfl,if_pos hlt];exact(aB9 hd hl (List.getElem?_set_self (List.getElem?_eq_some_iff.1 hp).1)).symm
 ·rw[if_neg he];simp only[yX,List.getElem?_zipWith,List.zip,List.getElem?_set_ne he]
theorem aE2{ds:List bO}{ls:List (FL×Nat)}{i:Nat}{d:bO}{l:FL×Nat}(hd:ds[i]? =some d)(hl:ls[i]? =some l):(xE ds ls)[i]? =some (La d l):=by
 rw[xE,List.getElem?_zipWith,hd,hl]
theorem aE1{ds:List bO}{ls:List (FL×Nat)}:∀r∈xE ds ls,r.length=6:=fun r hr=>by
 obtain⟨i,hi⟩:=List.getElem?_of_mem hr;rw[xE,List.getElem?_zipWith] at hi;split at hi
 ·cases hi;rfl
 ·cases hi
theorem aLR{x:dL}(h:Cb x)(a b:Bool):Cb (uG x a b):=by
 unfold uG;unfold Cb at h⊢;split
 ·exact h
 ·split
  ·exact⟨(by show(0:Int)≤3;omega),(by show(3:Int)≤3;omega)⟩
  ·split
   ·exact h
   ·exact⟨(by show(0:Int)≤2;omega),(by show(2:Int)≤3;omega)⟩
theorem aM1{r:Rg}{p:Int×Int}(h1:0≤p.1∧p.1 < 4294967296)(h2:0≤p.2∧p.2 < 4294967296):0≤Ml r p∧Ml r p < 4294967296:=by
 unfold Ml;split<;>assumption
theorem aJt{d:bO}{f:cO}(k:Int)(hr:∀r∈d.aO,0≤r.reset∧r.reset≤6)(h:zG d f):zG d (Iv k d f):=by
 have hres:∀v∈d.aO.map (·.reset),0≤v∧v < 4294967296:=fun v hv=>by
  obtain⟨r,eH,rfl⟩:=List.mem_map.1 hv
  have:=hr r eH
  omega
 have h1:=h.now
 have h2:=h.saved
 unfold Iv;split
 ·refine⟨h1,by simp[wT];omega,h.u.1,fun v hv=>?_⟩;obtain⟨i,hi⟩:=List.getElem?_of_mem hv;simp only[wT,List.getElem?_zipWith] at hi;split at hi
  ·rename_i r p eH gM
   cases hi;obtain⟨Ng,hp3⟩:=List.getElem?_zip_eq_some.1 gM;exact aM1 (h.u.1 _ (List.mem_of_getElem? Ng)) (h.u.2 _ (List.mem_of_getElem? hp3))
  ·cases hi
 ·split
  ·refine⟨by simp[Jt];omega,h2,fun v hv=>?_,h.u.2⟩;obtain⟨i,hi⟩:=List.getElem?_of_mem hv;simp only[Jt,List.getElem?_zipWith] at hi;split at hi
   ·rename_i r p eH gM
    cases hi;unfold aAK;split
    ·exact h.u.2 _ (List.mem_of_getElem? gM)
    ·have:=hr r (List.mem_of_getElem? eH)
     omega
   ·cases hi
  ·split
   ·exact⟨by simp[Gk],h2,hres,h.u.2⟩
   ·exact h
theorem Vy{s:aD}{x:aP}(hH:s.dI)(hok:cK s x){dv:List (cO×dL)}(hl:dv.length=x.dv.length)(h:∀(i:Nat) (d:bO) (p:cO×dL),s.aC[i]? =some d→dv[i]? =some p→zG d p.1∧Cb p.2):cK s {x with dv:=dv}:=⟨hok.ck,hok.dm,hok.ln,hl.trans hok.dv,h,hok.wt⟩
theorem aDy{s:aD}{x:aP}(hH:s.dI)(hok:cK s x)(cZ:Int)(n:Nat):cK s {x with dv:=zZ x cZ n}:=Vy hH hok (by simp[zZ]) fun i d p hd hp=>by
 rw[zZ,List.getElem?_mapIdx] at hp;cases hq:x.dv[i]? with
 | none=>rw[hq] at hp;cases hp
 | some q=>
  rw[hq] at hp;obtain⟨h1,h2⟩:=hok.each i d q hd hq;simp only[Option.map_some,Option.some.injEq] at hp;subst hp;split
  ·exact⟨h1,aLR h2 _ _⟩
  ·exact⟨h1,h2⟩
theorem aHC{s:aD}{x:aP}(hH:s.dI)(hok:cK s x)(e:Int×Nat)(n:Nat):cK s {x with dv:=Cw s x.dv e n}:=Vy hH hok (by simp[Cw]) fun i d p hd hp=>by
 rw[Cw,List.getElem?_mapIdx] at hp;cases hq:x.dv[i]? with
 | none=>rw[hq] at hp;cases hp
 | some q =>
  rw[hq] at hp;obtain⟨h1,h2⟩:=hok.each i d q hd hq;simp only[Option.map_some,Option.some.injEq] at hp;subst hp;split
  ·unfold Gi;rw[hd];dsimp only;split
   ·exact⟨aJt _ (hH.t.aC i d hd).2.2.2.2.2.2.2.2.2.1 h1,h2⟩
   ·exact⟨h1,h2⟩
  ·exact⟨h1,h2⟩
theorem aEt{s:aD}(hH:s.dI):∀(es:List (Int×Nat)) (x:aP),cK s x→cK s {x with dv:=es.foldl (tA s) x.dv}
 | [],x,h=>h
 | e::es,x,h=>aEt hH es {x with dv:=tA s x.dv e} (aHC hH h e _)
theorem aOU{s:aD}{dv:List (cO×dL)}{e:Int×Nat}(h:¬(e.1=115∨e.1=114∨e.1=108∨e.1=110)):tA s dv e=dv:=by
 unfold tA Cw;refine List.ext_getElem? fun i=>?_;rw[List.getElem?_mapIdx];cases dv[i]? with
 | none=>rfl
 | some p =>
  simp only[Option.map_some,Option.some.injEq];split
  ·unfold Gi;split
   ·split
    ·have:Iv e.1 (by assumption) p.1=p.1:=by
      unfold Iv;rw[if_neg (by omega),if_neg (by omega),if_neg (by omega)]
     rw[this]
    ·rfl
   ·rfl
  ·rfl
theorem aLT{s:aD}{st:List kI}(h:Gq s st):Gq s (Et st):=by
 refine⟨by simp[Et,h.len],fun x hx=>?_⟩;obtain⟨y,hy,rfl⟩:=List.mem_map.1 hx
 have:=h.left y hy
 unfold lR;split
 ·exact this
 ·split
  ·dsimp only;omega
  ·split
   ·exact this
   ·exact this
theorem aGl{s:aD}{x:aP}(hH:s.dI)(hok:cK s x)(cZ:Int):cK s (iL s x cZ):=by
 have h1:=aEt hH (lY x.dm s.domains.length) _ (aDy hH hok cZ s.aC.length)
 exact⟨aCO hH hok.ck,aCN hok.dm,aLT hok.ln,h1.dv,h1.each,hok.wt⟩
section
variable{N:cE}{w0 w:World}{e:Env}{R:List Piece}{H:List HP}{K:Act→World→Prop}{L:HL}{s:aD}{x:aP}
def aI5(L:HL)(s:aD)(x:aP):HP:=HP.many [HP.aE L.h 113 (Xp L s.aC.length),rM L.T s x.ck,wM L.G s x.dm,qX L.R s x.ln,zK L.B (kK s) x.wt x.aS,HP.own 106 6 (.slice L.A s.aC.length L.c) s.aC.length (xE s.aC L.ds).flatten,cJ]
def aJf(L:HL)(s:aD)(x:aP)(i:Nat):HP:=HP.many ((yX s.aC L.ds x.dv).set i cJ)
theorem Tj(j i:Nat){d:bO}{l:FL×Nat}{p:cO×dL}(hj:H[j]? =some (dU L s x))(hd:s.aC[i]? =some d)(hl:L.ds[i]? =some l)(hp:x.dv[i]? =some p)
  (k:XK N w0 K e R (HP.many [iF l.1 d p.1,vB l.2 p.2]::aJf L s x i::H.set j (aI5 L s x))):XK N w0 K e R H:=by
 refine tC j 6 hj rfl ?_;refine tC 0 i rfl (aB9 hd hl hp) ?_;exact k
theorem Tt(j i:Nat){d:bO}{l:FL×Nat}{p p':cO×dL}(hj:H[j]? =some (aI5 L s x))(hd:s.aC[i]? =some d)(hl:L.ds[i]? =some l)(hp:x.dv[i]? =some p)
  (k:XK N w0 K e R (H.set j (dU L s {x with dv:=x.dv.set i p'}))):XK N w0 K e R (HP.many [iF l.1 d p'.1,vB l.2 p'.2]::aJf L s x i::H):=by
 have hlt:=(List.getElem?_eq_some_iff.1 (aB9 hd hl hp)).1
 refine tD 0 i rfl (by rw[List.getElem?_set_self (by simpa using hlt)]) ?_;dsimp only[List.set];refine tD j 6 hj rfl ?_;rw[List.set_set,show HP.many [iF l.1 d p'.1,vB l.2 p'.2]=So d (l,p') from rfl,aRP hd hl hp p'];exact k
theorem Oq(j:Nat)(hj:H[j]? =some (dU L s x))(aW:iO L s)(hok:cK s x)(hn:0 < s.aC.length)(k:∀b off,L.A=some ⟨b,off,none⟩→XK N w0 K e R H):XK N w0 K e R H:=fun a w hr st=>by
 obtain⟨b,off,hA,_⟩:=(st.nL j hj aW hok).rows.2 hn;exact k b off hA a w hr st
theorem aQ.dev(j:Nat){i b off o:Nat}{d:bO}{l:FL×Nat}(hj:H[j]? =some (dU L s x))(aW:iO L s)(hok:cK s x)(hA:L.A=some ⟨b,off,none⟩)(hd:s.aC[i]? =some d)(hl:L.ds[i]? =some l)(ho:o=off+i*6):aQ w0 R H b o (La d l):=.of fun k v hv w st=>by
 obtain⟨b',off',sC,hr⟩:=aI.row (st.nL j hj aW hok).rows (rows:=xE s.aC L.ds) (fun r hr=>aE1 r hr) (aE2 hd hl) (List.getElem?_eq_some_iff.1 hd).1;rw[hA] at sC;cases sC;subst ho;exact(hr.2 k v hv)
end
end
section
section
variable{P:Program}{N:cE}{w0:World}{e:Env}{R:List Piece}{H:List HP}{Q:Exit→Act→World→Prop}{ops:Array Oper}{rest:List Oper}
variable{d:Nat}{ty:TypeId}{pos:String}{aH:Array Edge}
theorem xR{α:Type}(i:Nat){f:FuncId}{x:Operand}{args:List Operand}{fi ca vs:List Value}{tys:Array TypeId}{p:HP}(v:α→Value)(q:α→HP)(G:α→Prop)(hf:fI P f=true)(hx:e.ev x=some (.func (.func f) fi.toArray ca.toArray))(ha:e.fT args=some vs)(hi:H[i]? =some p)(hd:d < N.n)
  (hc:∀w F,St w0 R H w→p.sat F w→(∀b,F b→b < w.heap.size)→(∀q∈R,q.Le ⟨w,fun b=>b < w.heap.size∧¬F b⟩)→Calls P f (fi++vs++ca).toArray w fun y w'=>∃a,y=.returned (v a)∧G a∧∃F',(q a).sat F' w'∧gX w w' F F')
  (k:∀a,G a→XK N w0 (wpList P ops Q rest) ((d,v a)::e) R (H.set i (q a))):XK N w0 (wpList P ops Q (⟨some d,.call {callee:=.value x,args:=args.toArray,argTypes:=tys},ty,pos,aH,none⟩::rest)) e R H:=fun a w hr st=>wpList_plain rfl fun K hK=>by
 unfold fI at hf;cases hq:P.funcs[f]? with
 | none=>simp[hq] at hf
 | some fn =>
  simp[hq] at hf;obtain⟨gN,nX⟩:=hf
  have hrun:(execOp a.eval (⟨some d,.call {callee:=.value x,args:=args.toArray,argTypes:=tys},ty,pos,aH,none⟩:Oper)).run P w=.ok (.enter f (fi++vs++ca).toArray) w:=by
   cases hb:fn.body with
   | none=>simp[hb] at nX
   | some c=>simp[execOp,resolve,hr.ev hx,Deferred.ofValue,invoke,callFunc,hq,gN,hb,hr.fT ha]
  obtain⟨F,hp,hlt,hle,iX⟩:=st.chunk hi;unfold Oper.wp;rw[hrun];refine(hc w F st hp hlt hle).mono fun y w' hy=>?_;obtain⟨a',rfl,hG,F',hs,ht⟩:=hy;exact hK _ _ (k a' hG _ _ (hr.put hd (v a')) (iX w' F' (q a') hs ht))
end
end
section
section
variable{P:Program}{N:cE}{w0:World}{e:Env}{R:List Piece}{H:List HP}{d:Nat}{ty:TypeId}{pos:String}{aH:Array Edge}
def aIG(P:Program)(t:TypeId):Bool:=match P.underlying t with
 | some (.func ..)=>true
 | _=>false
theorem aMF(w:World)(n:Nat)(t:TypeId){f1 f2:Array TypeId}{f3:Bool}(hu:P.underlying t=some (.func f1 f2 f3)):(Op.equalIn (n+1) t .nilFunc .nilFunc).run P w=.ok true w:=by simp[Op.equalIn,run_underlying hu]
theorem aMH(w:World)(n:Nat)(t:TypeId){f1 f2:Array TypeId}{f3:Bool}(f:Fn)(fi ca:Array Value)(hu:P.underlying t=some (.func f1 f2 f3)):(Op.equalIn (n+1) t (.func f fi ca) .nilFunc).run P w=.ok false w:=by simp[Op.equalIn,run_underlying hu]
theorem aJr{x:Operand}{t u:TypeId}{v:Value}{b:Bool}(hx:e.ev x=some v)(hv:(v=.nilFunc∧b=true)∨(∃f a c,v=.func f a c)∧b=false)(ht:aIG P t=true:=by kernel_rfl):bU P N w0 e R H ⟨some d,.binOp .eql t x (.const .nilFunc) u,ty,pos,aH,none⟩ (.bool b):=iM fun a w hr=>by
 have h2:=hr.ev (show e.ev (.const .nilFunc)=some .nilFunc from rfl)
 unfold aIG at ht;split at ht
 ·rename_i f1 f2 f3 hu
  rcases hv with⟨rfl,rfl⟩ | ⟨⟨f,fi,ca,rfl⟩,rfl⟩
  ·have h4:(Op.equal t .nilFunc .nilFunc).run P w=.ok true w:=aMF w 9999 t hu
   simp[execOp,hr.ev hx,h2,eqGuard,binOp,h4]
  ·have h4:(Op.equal t (.func f fi ca) .nilFunc).run P w=.ok false w:=aMH w 9999 t f fi ca hu
   simp[execOp,hr.ev hx,h2,eqGuard,binOp,h4]
 ·cases ht
end
def Iu(k:Int):Value:=if k=115 then .func (.func 113) #[] #[] else if k=114 then .func (.func 114) #[] #[] else if k=108∨k=110 then .func (.func 115) #[] #[] else .nilFunc
theorem aQy(k:Int)(w:World):Cz 60 #[.int .u8 k] w (Rt (Iu k) w):=by
 refine aM func60 ntmps60 ?_;refine aA ?_;refine aG rfl (fun h1=>?_) (fun h1=>?_)
 ·refine aA ?_;exact cY (by rw[Iu,if_pos h1])
 refine aA ?_;refine aG rfl (fun h2=>?_) (fun h2=>?_)
 ·refine aA ?_;exact cY (by rw[Iu,if_neg h1,if_pos h2])
 refine aA ?_;refine aG rfl (fun h3=>?_) (fun h3=>?_)
 ·refine aA ?_;refine aG rfl (fun _=>?_) (fun h=>absurd h3 h);refine aA ?_;exact cY (by rw[Iu,if_neg h1,if_neg h2,if_pos (.inl h3)])
 ·refine aA ?_;refine aG rfl (fun h4=>?_) (fun h4=>?_)
  ·refine aA ?_;exact cY (by rw[Iu,if_neg h1,if_neg h2,if_pos (.inr h4)])
  ·refine aA ?_;exact cY (by rw[Iu,if_neg h1,if_neg h2,if_neg (by omega)])
theorem aS3{k:Int}(hk:k=115∨k=114∨k=108∨k=110):∃f:FuncId,Iu k=.func (.func f) #[] #[]∧fI Tryz.prog f=true∧∀(L:FL) (d:bO) (x:cO) (hrl:d.aO.length≤100) (hok:zG d x) (w:World) (F:Nat→Prop) (hp:(iF L d x).sat F w) (hF:∀b,F b→b < w.heap.size),
  Cz f #[.pointer (some ⟨L.f,0,none⟩)] w (Wr (.tuple #[]) (iF L d (Iv k d x)) w F):=by
 rcases hk with rfl | rfl | rfl | rfl
 ·exact⟨_,rfl,(by kernel_rfl),aNs⟩
 ·exact⟨_,rfl,(by kernel_rfl),aNt⟩
 ·exact⟨_,rfl,(by kernel_rfl),aAM⟩
 ·exact⟨_,rfl,(by kernel_rfl),aAM⟩
theorem aTv(L:BL)(ms:List Int)(ws:List (Option jC))(aS:Int)(i:Nat)(hi:i < ms.length)(h0:iQ ws i=0)(w:World)(hR:Jl w L ms ws aS):
  Cz 108 #[.pointer (some ⟨L.b,0,none⟩),iv (i:Int)] w (Rt (.tuple #[.agg #[iv 0,.bool false,iv 0,.int .u32 0],.bool false]) w):=by
 have k1:=hR.r0.at_ (j:=1) rfl
 obtain⟨A,c,k2⟩:=hR.wt i hi;rw[h0] at k2
 have hin:bB ms.length (i:Int)=true:=decide_eq_true (by omega)
 refine aM func108 ntmps108 ?_;refine aA ?_;refine bX fun g1=>?_;refine aA ?_;refine aU (fun w1 t=>aBP L ms ws aS i w1 (hR.below (t.below (by simp)))) ?_;rw[hin];refine aB ?_;exact xJ (vs:=[iv 0,.bool false,iv 0,.int .u32 0]) rfl (by kernel_rfl) rfl rfl (aQ.whole 0 rfl) rfl fun w1 t=>⟨rfl,t.below (by simp)⟩
theorem aQ1(L:HL)(s:aD)(x:aP)(i:Nat)(hi:i < s.aC.length)(h0:iQ x.wt i=0)(w:World)(hR:vC w L s x):
  Cz 55 #[.pointer (some ⟨L.h,0,none⟩),iv (i:Int)] w (Rt (.tuple #[.agg #[iv 0,iv 0,.bool false,.int .u32 0],.bool false]) w):=by
 have k3:=hR.r0.at_ (j:=3) rfl
 refine aM func55 ntmps55 ?_;refine aA ?_;refine bX fun g1=>?_;refine aA ?_;refine aU (fun w1 t=>aTv L.B (kK s) x.wt x.aS i (by rw[Hh];exact hi) h0 w1 (hR.bus.below (t.below (by simp)))) ?_;refine aA ?_;refine bX fun g2=>?_;refine aB ?_;exact xJ (vs:=[iv 0,iv 0,.bool false,.int .u32 0]) rfl (by kernel_rfl) rfl rfl (aQ.whole 1 rfl) rfl fun w1 t=>⟨rfl,t.below (by simp)⟩
end
section
def wD(s:aD)(x:aP)(i:Nat):Bool:=match s.aC[i]? with
 | some d=>qI s x.ck d.clock&&(decide (rX x.dm d.domain=49)&& !Ba x.ln d.reset)
 | none=>false
def uH(x:aP)(i:Nat):Int:=((x.dv[i]?).map fun p=>qL p.2.at_).getD 0
theorem aCu{w0:World}{R:List Piece}{H:List HP}{b o:Nat}{vs:List Value}{v:Value}(j:Nat)(h:aQ w0 R H b o vs)(hv:vs[j]? =some v):Rd w0 R H b (o+j) v:=fun w st=>h w st j v hv
section
variable(L:HL)(s:aD)(x:aP)(w:World)
theorem aI3(hH:s.dI)(i:Int)(hR:vC w L s x):Cz 180 #[.pointer (some ⟨L.h,0,none⟩),iv i] w (Rt (.bool (qI s x.ck i)) w):=by
 have k0:=hR.r0.at_ (j:=0) rfl
 refine aM func180 ntmps180 ?_;refine aA ?_;refine aU (fun w1 t=>Dj L s x w1 (hR.below (t.below (by simp)))) ?_;refine aA ?_;refine aU (fun w1 t=>Zf L.T s x.ck hH i w1 (hR.tree.below (t.below (by simp)))) ?_;refine aA ?_;exact cY
theorem aI8(hH:s.dI)(aW:iO L s)(hok:cK s x)(i:Nat)(hi:i < s.aC.length)(hR:vC w L s x):Cz 14 #[.pointer (some ⟨L.h,0,none⟩),iv (i:Int)] w (Rt (.bool (wD s x i)) w):=by
 have k0:=hR.r0.at_ (j:=0) rfl
 have k1:=hR.r0.at_ (j:=1) rfl
 have k2:=hR.r0.at_ (j:=2) rfl
 have k4:=hR.r0.at_ (j:=4) rfl
 have hls:=aW.ds
 obtain⟨d,dF⟩:=get_some hi;obtain⟨l,iT⟩:=get_some (l:=L.ds) (i:=i) (by omega);obtain⟨b,off,hA,hr⟩:=aI.row hR.rows (rows:=xE s.aC L.ds) (fun r hr=>aE1 r hr) (aE2 dF iT) hi
 have hin:bB s.aC.length (i:Int)=true:=decide_eq_true (by omega)
 have hal:wD s x i=(qI s x.ck d.clock&&(decide (rX x.dm d.domain=49)&& !Ba x.ln d.reset)):=by
  unfold wD;rw[dF]
 rw[hal];refine aM func14 ntmps14 ?_;refine aA ?_;refine aU (fun w1 t=>Ry L s x w1 i (hR.below (t.below (by simp)))) ?_;rw[hin];refine aA ?_;refine kd (dat i (off+i*6) (hx:=by rw[←hA];rfl)) ?_;refine aB ?_;refine bX fun g1=>?_;refine aA ?_;refine mL ?_;refine jA ?_;refine tT (fun w1 t=>Zf L.T s x.ck hH d.clock w1 (hR.tree.below (t.below (by simp)))) ?_;cases hrun:qI s x.ck d.clock
 ·refine jB ?_;refine aA ?_;exact cY
 ·refine jA ?_;refine tT (fun w1 t=>aHo L.G s x.dm hok.dm d.domain w1 (Eb.below hR.aEp (t.below (by simp)))) ?_;refine jA ?_;refine Oo 32 rfl (fun hp=>?_) (fun hp=>?_)
  ·rw[decide_eq_true hp];refine jA ?_;refine tT (fun w1 t=>aGH L.R s x.ln d.reset w1 (hR.lines.below (t.below (by simp)))) ?_;refine jB ?_;refine aA ?_;exact cY
  ·rw[decide_eq_false hp];refine jB ?_;refine aA ?_;exact cY
theorem aI2(aW:iO L s)(hok:cK s x)(i:Nat)(hi:i < s.aC.length)(fC:Uc w)(hR:vC w L s x):Cz 175 #[.pointer (some ⟨L.h,0,none⟩),iv (i:Int)] w (Rt (.int .u8 (uH x i)) w):=by
 have k4:=hR.r0.at_ (j:=4) rfl
 have hls:=aW.ds
 have iY:=hok.dv
 obtain⟨d,dF⟩:=get_some hi;obtain⟨l,iT⟩:=get_some (l:=L.ds) (i:=i) (by omega);obtain⟨p,gM⟩:=get_some (l:=x.dv) (i:=i) (by omega);obtain⟨b,off,hA,hr⟩:=aI.row hR.rows (rows:=xE s.aC L.ds) (fun r hr=>aE1 r hr) (aE2 dF iT) hi
 have k5:=hr.at_ (j:=5) rfl
 have hin:bB s.aC.length (i:Int)=true:=decide_eq_true (by omega)
 have hst:uH x i=qL p.2.at_:=by
  unfold uH;rw[gM];rfl
 rw[hst];refine aM func175 ntmps175 ?_;refine aA ?_;refine aU (fun w1 t=>Ry L s x w1 i (hR.below (t.below (by simp)))) ?_;rw[hin];refine aA ?_;refine kd (dat i (off+i*6) (hx:=by rw[←hA];rfl)) ?_;refine aA ?_;refine aU (fun w1 t=>aHj l.2 p.2 (hok.each i d p dF gM).2 w1 (fC.below (t.below (by simp))) ((hR.below (t.below (by simp))).each i d l p dF iT gM).2) ?_;refine aA ?_;exact cY
def Jb(x:aP)(i:Nat):aP:={x with dv:=match x.dv[i]? with | some p=>x.dv.set i (p.1,(sI p.2).2) | none=>x.dv}
def Aj(x:aP)(i:Nat):aP:={x with dv:=match x.dv[i]? with | some p=>x.dv.set i (p.1,(nU p.2).2) | none=>x.dv}
theorem aI7(hH:s.dI)(aW:iO L s)(hok:cK s x)(i:Nat)(hi:i < s.aC.length)(F:Nat→Prop)(hp:(dU L s x).sat F w)(hF:∀b,F b→b < w.heap.size):
  Cz 226 #[.pointer (some ⟨L.h,0,none⟩),iv (i:Int)] w (fun y w'=>∃r:Int,y=.returned (iv r)∧True∧∃F',(dU L s (Jb x i)).sat F' w'∧gX w w' F F'):=by
 have hls:=aW.ds
 have iY:=hok.dv
 obtain⟨d,dF⟩:=get_some hi;obtain⟨l,iT⟩:=get_some (l:=L.ds) (i:=i) (by omega);obtain⟨p,gM⟩:=get_some (l:=x.dv) (i:=i) (by omega)
 have hin:bB s.aC.length (i:Int)=true:=decide_eq_true (by omega)
 have hX:Jb x i={x with dv:=x.dv.set i (p.1,(sI p.2).2)}:=by
  unfold Jb;rw[gM]
 rw[hX];refine dJ func226 ntmps226 hp hF ?_;refine aA ?_;refine aU (fun w1 t=>Ry L s x w1 i (t.nL 0 rfl aW hok)) ?_;rw[hin];refine aA ?_;refine kd (bN rfl (rO 0 rfl rfl)) ?_;refine Oq 0 rfl aW hok (by omega) fun b off hA=>?_;refine aA ?_;refine kd (dat i (off+i*6) (hx:=by rw[←hA];rfl)) ?_;refine aA ?_;refine kd (bN rfl (aCu (vs:=La d l) 5 (aQ.dev 0 rfl aW hok hA dF iT rfl) rfl)) ?_;refine Tj 0 i rfl dF iT gM ?_;dsimp only[List.set];refine bF 0 1 ?_;refine dR 0 (vB l.2 (sI p.2).2) (fun w1 F1 t h1 h2 h3=>aNU h1 h2) ?_;refine aN 0 1 ?_;refine Tt 0 i rfl dF iT gM (p':=(p.1,(sI p.2).2)) ?_;dsimp only[List.set];refine aA ?_;exact mZ rfl rfl fun w1 t=>⟨_,rfl,trivial,t.turns hF (by simp) (i:=0) rfl⟩
theorem aEe(hH:s.dI)(aW:iO L s)(hok:cK s x)(i:Nat)(hi:i < s.aC.length)(F:Nat→Prop)(hp:(dU L s x).sat F w)(hF:∀b,F b→b < w.heap.size):
  Cz 176 #[.pointer (some ⟨L.h,0,none⟩),iv (i:Int)] w (fun y w'=>∃r:Int,y=.returned (iv r)∧True∧∃F',(dU L s (Aj x i)).sat F' w'∧gX w w' F F'):=by
 have hls:=aW.ds
 have iY:=hok.dv
 obtain⟨d,dF⟩:=get_some hi;obtain⟨l,iT⟩:=get_some (l:=L.ds) (i:=i) (by omega);obtain⟨p,gM⟩:=get_some (l:=x.dv) (i:=i) (by omega)
 have hin:bB s.aC.length (i:Int)=true:=decide_eq_true (by omega)
 have hX:Aj x i={x with dv:=x.dv.set i (p.1,(nU p.2).2)}:=by
  unfold Aj;rw[gM]
 rw[hX];refine dJ func176 ntmps176 hp hF ?_;refine aA ?_;refine aU (fun w1 t=>Ry L s x w1 i (t.nL 0 rfl aW hok)) ?_;rw[hin];refine aA ?_;refine kd (bN rfl (rO 0 rfl rfl)) ?_;refine Oq 0 rfl aW hok (by omega) fun b off hA=>?_;refine aA ?_;refine kd (dat i (off+i*6) (hx:=by rw[←hA];rfl)) ?_;refine aA ?_;refine kd (bN rfl (aCu (vs:=La d l) 5 (aQ.dev 0 rfl aW hok hA dF iT rfl) rfl)) ?_;refine Tj 0 i rfl dF iT gM ?_;dsimp only[List.set];refine bF 0 1 ?_;refine dR 0 (vB l.2 (nU p.2).2) (fun w1 F1 t h1 h2 h3=>aNT h1 h2) ?_;refine aN 0 1 ?_;refine Tt 0 i rfl dF iT gM (p':=(p.1,(nU p.2).2)) ?_;dsimp only[List.set];refine aA ?_;exact mZ rfl rfl fun w1 t=>⟨_,rfl,trivial,t.turns hF (by simp) (i:=0) rfl⟩
end
end
section
def aCs(l:List Int)(v:Value)(hs:List HP)(_:Piece):Prop:=∃A c,v=.slice A l.length c∧hs=[HP.own 23 1 (.slice A l.length c) l.length (rA l)]
theorem aNj(w0:Int)(A:Option Addr)(n c:Nat)(zs:List Int)(w:World)(hs:aI (all w) 1 A n (rA zs))(hn:n=zs.length)(hn2:n≤1000000):Cz 187 #[.int .u32 w0,.slice A n c] w (fun y w'=>(∃v hs q,y=.returned v∧q.w=w'∧aCs (w0::zs) v hs q∧jD w hs q)∧Below w.heap.size w w'):=by
 refine aM func187 ntmps187 ?_;refine aB ?_;refine aFK 1 4 (el:=23) (c:=n+1) (k0:=1) (uQ:=.i64) (by kernel_rfl) (by kernel_rfl) rfl (by rw[Int.natCast_add];rfl) (by omega) (by omega) (by decide) fun g1=>?_;refine aB ?_;refine eK fun g2=>?_;refine gJ 1 1 4 1 (n':=1) (el:=23) (by kernel_rfl) (by kernel_rfl) (by decide) rfl rfl rfl (nS 0 rfl rfl) (by simp[Value.oneCell']) rfl (by omega) (by omega) (by decide) fun A1 c1=>?_;dsimp only[List.set];refine aB ?_;refine gJ 1 1 4 n (n':=n+1) (el:=23) (by kernel_rfl) (by kernel_rfl) (by decide) rfl rfl rfl (rE (by simp) hs) (Ur _) (by omega) (by omega) (by omega) (by decide) fun A2 c2=>?_;dsimp only[List.set];refine aB ?_;subst hn;refine aY [1] rfl (by decide) (fun _ h=>h) ?_;refine dP [] [] [0] (by simp) rfl (by decide) (by decide) fun q _ _ hfr=>?_;exact aT (h:=fun w1 t=>⟨_,_,⟨w1,q.Z⟩,rfl,rfl,⟨A2,c2,rfl,rfl⟩,t.newR (by simp) (by simp) (hfr (by simp) (by simp))⟩)
theorem aT9(w0 st st':Int)(hst:IntKind.u32.wrap st=st')(A:Option Addr)(n c:Nat)(zs:List Int)(w:World)(hs:aI (all w) 1 A n (rA zs))(hn:n=zs.length)(hn2:n≤1000):
  Cz 107 #[.int .u32 w0,.int .i32 st,.slice A n c] w (fun y w'=>(∃v hs q,y=.returned v∧q.w=w'∧aCs (w0::st'::zs) v hs q∧jD w hs q)∧Below w.heap.size w w'):=by
 subst hn;refine aM func107 ntmps107 ?_;refine aA ?_;refine En (ds:=.int .i32) (by kernel_rfl) (by kernel_rfl) rfl hst (by decide) ?_;refine eK fun g1=>?_;refine iA (aCs [w0,st']) (fun w1 t=>aNj w0 _ 1 1 [st'] w1 (t.rU (i:=0) rfl rfl) rfl (by omega)) ?_;rintro _ _ q1 ⟨A1,c1,rfl,rfl⟩ _;dsimp only[List.cons_append,List.nil_append];refine aA ?_;refine gJ 0 1 4 zs.length (n':=zs.length+2) (el:=23) (by kernel_rfl) (by kernel_rfl) (by decide) rfl rfl rfl (rE (by simp) hs) (Ur _) (by simp;omega) (by omega) (by omega) (by decide) fun A2 c2=>?_;dsimp only[List.set];refine aA ?_;refine aY [0] rfl (by decide) (R':=[all w]) (by simp) ?_;refine dP [] [] [0] (by simp) rfl (by decide) (by decide) fun q _ _ hfr=>?_;exact aT (h:=fun w1 t=>⟨_,_,⟨w1,q.Z⟩,rfl,rfl,⟨A2,c2,rfl,rfl⟩,t.newR (by simp) (by simp) (hfr (by simp) (by simp))⟩)
theorem Qz(i:Int)(w:World):Cz 163 #[iv i] w (Rt (.bool (bB 2 i)) w):=by
 refine aM func163 ntmps163 ?_;refine aA ?_;refine bQ (t:=5) rfl (fun h=>?_) (fun h=>?_)
 ·refine aA ?_;refine kB (by simp) ?_;unfold bB
  congr 1
  simp;omega
 ·refine aA ?_;refine kB (by simp) ?_
  have:bB 2 i=false:=decide_eq_false (by omega)
  rw[this]
def Jw(p:Int):Int:=if p=48 then 0 else if p=49 then 1 else if p=116 then 2 else 3
theorem aRs(p:Int)(w:World):Cz 185 #[.int .u8 p] w (Rt (.int .u32 (Jw p)) w):=by
 refine aM func185 ntmps185 ?_;refine aA ?_;refine aG rfl (fun h=>?_) (fun h=>?_)
 ·refine aA ?_;exact cY (by rw[Jw,if_pos h])
 ·refine aA ?_;refine aG rfl (fun h1=>?_) (fun h1=>?_)
  ·refine aA ?_;exact cY (by rw[Jw,if_neg h,if_pos h1])
  ·refine aA ?_;refine aG rfl (fun h2=>?_) (fun h2=>?_)
   ·refine aA ?_;exact cY (by rw[Jw,if_neg h,if_neg h1,if_pos h2])
   ·refine aA ?_;exact cY (by rw[Jw,if_neg h,if_neg h1,if_neg h2])
end
section
structure gI where
 a1:AC
 a2:AC
 a3:AC
 a4:AC
 x1:AC
 x2:AC
 x3:AC
 y1:AC
 y2:AC
 y3:AC
 b0:AC
 b1:AC
structure bZ where
 x:bM
 y:bM
 h0:Int
 h1:Int
 w0:List Int
 w1:List Int
 last:Int
 at_:Int
 kind:Int
 id:Int
def tQ(s:aD):bZ:=⟨dQ s,dQ s,0,0,[],[],1,-1,0,0⟩
def yE(a:AC)(n:Nat):Value:=.slice a.1 n a.2
def jY(h:Nat)(L:gI)(s:aD)(z:bZ):List Value:=[pt h,.slice L.a1.1 s.aF.length L.a1.2,.slice L.a2.1 s.domains.length L.a2.2,.slice L.a3.1 s.aR.length L.a3.2,.slice L.a4.1 s.aC.length L.a4.2,
 .slice L.x1.1 z.x.d.length L.x1.2,.slice L.x2.1 z.x.c.length L.x2.2,.slice L.x3.1 z.x.l.length L.x3.2,.slice L.y1.1 z.y.d.length L.y1.2,.slice L.y2.1 z.y.c.length L.y2.2,.slice L.y3.1 z.y.l.length L.y3.2,
 iv z.h0,.slice L.b0.1 z.w0.length L.b0.2,iv z.h1,.slice L.b1.1 z.w1.length L.b1.2,iv z.last,iv z.at_,.int .u8 z.kind,iv z.id]
def wI(L:gI)(s:aD)(p:Piece):Prop:=sL p s L.a1.1 s.aF.length L.a2.1 s.domains.length L.a3.1 s.aR.length L.a4.1 s.aC.length
theorem wI.le{L:gI}{s:aD}(p q:Piece)(hl:p.Le q)(h:wI L s p):wI L s q:=sL.le h hl
def rN(L:gI)(x y:bM)(p:Piece):Prop:=aI p 1 L.x1.1 x.d.length (bE x.d)∧aI p 1 L.x2.1 x.c.length (bE x.c)∧aI p 1 L.x3.1 x.l.length (bE x.l)∧aI p 1 L.y1.1 y.d.length (bE y.d)∧aI p 1 L.y2.1 y.c.length (bE y.c)∧aI p 1 L.y3.1 y.l.length (bE y.l)
theorem rN.le{L:gI}{x y:bM}(p q:Piece)(hl:p.Le q)(h:rN L x y p):rN L x y q:=⟨h.1.le hl,h.2.1.le hl,h.2.2.1.le hl,h.2.2.2.1.le hl,h.2.2.2.2.1.le hl,h.2.2.2.2.2.le hl⟩
def eR(a:AC)(l:List Int)(p:Piece):Prop:=aI p 1 a.1 l.length (rA l)
theorem eR.le{a:AC}{l:List Int}(p q:Piece)(hl:p.Le q)(h:eR a l p):eR a l q:=aI.le h hl
theorem uZ.P{q:Piece}{x y:bM}{v:Value}(h:uZ q x y v):∃x1 x2 x3 y1 y2 y3:AC,v=.agg #[yE x1 x.d.length,yE x2 x.c.length,yE x3 x.l.length,yE y1 y.d.length,yE y2 y.c.length,yE y3 y.l.length]∧∀a1 a2 a3 a4 b0 b1:AC,rN ⟨a1,a2,a3,a4,x1,x2,x3,y1,y2,y3,b0,b1⟩ x y q:=by
 obtain⟨A1,k1,A2,k2,A3,k3,B1,m1,B2,m2,B3,m3,e,a1,a2,a3,b1,b2,b3⟩:=h;exact⟨(A1,k1),(A2,k2),(A3,k3),(B1,m1),(B2,m2),(B3,m3),e,fun _ _ _ _ _ _=>⟨a1,a2,a3,b1,b2,b3⟩⟩
def iP(f h:Nat)(L:gI)(s:aD)(z:bZ):HP:=HP.many [HP.aE f 138 (jY h L s z),HP.bR (wI L s) (wI.le (L:=L) (s:=s)),HP.bR (rN L z.x z.y) (rN.le (L:=L) (x:=z.x) (y:=z.y)),HP.bR (eR L.b0 z.w0) (eR.le (a:=L.b0) (l:=z.w0)),HP.bR (eR L.b1 z.w1) (eR.le (a:=L.b1) (l:=z.w1))]
def Cf(f h:Nat)(s:aD)(z:bZ):HP:=HP.ex fun L:gI=>iP f h L s z
structure Ma(w:World)(f h:Nat)(L:gI)(s:aD)(z:bZ):Prop where
 r0:eD w f 0 (jY h L s z)
 so:wI L s (all w)
 st:rN L z.x z.y (all w)
 b0:eR L.b0 z.w0 (all w)
 b1:eR L.b1 z.w1 (all w)
theorem aKX{f h:Nat}{L:gI}{s:aD}{z:bZ}{F:Nat→Prop}{w:World}(k:(iP f h L s z).sat F w)(hF:∀b,F b→b < w.heap.size):Ma w f h L s z:=by
 obtain⟨G,g1,g2,_⟩:=k
 have hl:∀i,(⟨w,G i⟩:Piece).Le (all w):=fun i b hb=>⟨hF b (g2 i b hb),rfl⟩
 exact⟨uV (g1 0 _ rfl).2,wI.le _ _ (hl 1) (g1 1 _ rfl),rN.le _ _ (hl 2) (g1 2 _ rfl),eR.le _ _ (hl 3) (g1 3 _ rfl),eR.le _ _ (hl 4) (g1 4 _ rfl)⟩
theorem St.Ge{w0 w:World}{R:List Piece}{H:List HP}{f h:Nat}{L:gI}{s:aD}{z:bZ}(t:St w0 R H w)(i:Nat)(hi:H[i]? =some (iP f h L s z)):Ma w f h L s z:=by
 obtain⟨F,h1,h2,_⟩:=t.chunk hi;exact aKX h1 h2
def aKW(h:Nat)(s:aD)(v:Value)(hs:List HP)(_:Piece):Prop:=∃f,v=.tuple #[pt f,iv 0]∧hs=[Cf f h s (tQ s)]
theorem aB7{w:World}(a:AC)(ha:a=(none,0)):(HP.bR (eR a []) (eR.le (a:=a) (l:=[]))).sat (fun _=>False) w:=by
 subst ha;exact⟨rfl,fun h=>absurd h (by simp)⟩
theorem aRz(h:Nat)(s:aD)(hH:s.dI)(A1 A2 A3 A4:Option Addr)(n1 k1 n2 k2 n3 k3 n4 k4:Nat)(w:World)(hW:fL w s A1 n1 A2 n2 A3 n3 A4 n4):
  Cz 35 #[pt h,.agg #[.slice A1 n1 k1,.slice A2 n2 k2,.slice A3 n3 k3,.slice A4 n4 k4]] w (fun y w'=>(∃v hs q,y=.returned v∧q.w=w'∧aKW h s v hs q∧jD w hs q)∧Below w.heap.size w w'):=by
 obtain rfl:=hW.nH;obtain rfl:=hW.nT;obtain rfl:=hW.pU;obtain rfl:=hW.oK;refine aM func35 ntmps35 ?_;refine aA ?_;refine bA fun g1=>?_;refine aA ?_;refine aU (fun w1 t=>Tb s A1 A2 A3 A4 _ k1 _ k2 _ k3 _ k4 w1 (hW.le (t.started (by simp))) hH.t.Ta) ?_;refine aA ?_;refine jO [1,3] ?_;refine bT 0 ?_;refine aJ 1 ?_;refine aJ 3 ?_;refine aL 2 ?_
 refine jR [] (fun v w w'=>aCy s v w w') (fun w1 t=>aEG s A1 A2 A3 A4 _ k1 _ k2 _ k3 _ k4 w1 (hW.le (t.started (by simp))) (fun d hd=>by
  obtain⟨j,hj⟩:=List.getElem?_of_mem hd
  have:=(hH.t.aC j d hj).2.2.2.2.2.2.2.2.1
  omega)) ?_
 rintro _ w1 q1 ⟨cs,rfl,hcs⟩ Db _ qP
 have qP:=qP (by simp)
 obtain⟨B1,m1,j1,B2,m2,j2,B3,m3,j3,B4,m4,j4,rfl,hsp⟩:=wH.P hcs
 have hsp:=hsp.le Db
 obtain⟨rfl,rfl,rfl,rfl⟩:=hsp.len;refine Jd (Φ:=wI ⟨(B1,j1),(B2,j2),(B3,j3),(B4,j4),(none,0),(none,0),(none,0),(none,0),(none,0),(none,0),(none,0),(none,0)⟩ s) (hm:=wI.le) qP (by simp[all]) hsp ?_;refine bH ?_;refine aL 4 ?_;refine jR [] (fun v w w'=>uZ (fresh w w') (dQ s) (dQ s) v) (fun w1 st=>aMk s A1 A2 A3 A4 k1 k2 k3 k4 w1 hH.t) ?_;rintro _ w2 q2 hst uT _ Kv
 have Kv:=Kv (by simp)
 obtain⟨x1,x2,x3,y1,y2,y3,rfl,Nb⟩:=hst.P
 have Nb:=rN.le _ _ uT (Nb (B1,j1) (B2,j2) (B3,j3) (B4,j4) (none,0) (none,0))
 refine Jd (Φ:=rN ⟨(B1,j1),(B2,j2),(B3,j3),(B4,j4),x1,x2,x3,y1,y2,y3,(none,0),(none,0)⟩ (dQ s) (dQ s)) (hm:=rN.le) Kv (by simp[all]) Nb ?_;refine bH ?_;refine aL 5 ?_;refine kd (fY rfl) ?_;refine cT ?_;refine aL 6 ?_;refine bA fun f=>?_;refine cT ?_;refine aL 7 ?_;refine bK ?_;refine cT ?_;refine fE ?_;refine aA ?_;refine Bu (p:=HP.bR (eR (none,0) []) (eR.le (a:=(none,0)) (l:=[]))) (fun w=>aB7 _ rfl) ?_;refine Bu (p:=HP.bR (eR (none,0) []) (eR.le (a:=(none,0)) (l:=[]))) (fun w=>aB7 _ rfl) ?_;refine aY [2,4,3,0,1] rfl (by decide) (R':=[all w]) (by simp) ?_;refine nA ?_;refine uX ?_;refine uX ?_;refine uX ?_;refine xI 0 (f:=fun L:gI=>iP f h L s (tQ s)) ⟨(B1,j1),(B2,j2),(B3,j3),(B4,j4),x1,x2,x3,y1,y2,y3,(none,0),(none,0)⟩ rfl ?_;dsimp only[List.set];refine dP [] [] [0] (by simp) rfl (by decide) (by decide) fun q _ _ hfr=>?_;exact eL rfl rfl rfl fun w1 t=>⟨⟨_,_,⟨w1,q.Z⟩,rfl,rfl,⟨f,rfl,rfl⟩,t.newR (by simp) (by simp) (hfr (by simp) (by simp))⟩,t.below (by simp)⟩
end
section
section
variable{N:cE}{w0 w:World}{e:Env}{R:List Piece}{H:List HP}{K:Act→World→Prop}{f h:Nat}{s:aD}{z:bZ}
theorem Zy(i:Nat)(hi:H[i]? =some (Cf f h s z))(k:∀L:gI,XK N w0 K e R (HP.aE f 138 (jY h L s z)::H.set i (HP.many [cJ,HP.bR (wI L s) (wI.le (L:=L) (s:=s)),HP.bR (rN L z.x z.y) (rN.le (L:=L) (x:=z.x) (y:=z.y)),HP.bR (eR L.b0 z.w0) (eR.le (a:=L.b0) (l:=z.w0)),HP.bR (eR L.b1 z.w1) (eR.le (a:=L.b1) (l:=z.w1))]))):XK N w0 K e R H:=by
 have hlt:=Az hi
 refine aCe i hi fun L=>?_;refine tC i 0 (by rw[List.getElem?_set_self hlt];rfl) rfl ?_
 simpa[List.set_set] using k L
theorem Bt(L:gI)(i:Nat)(hi:H[i]? =some (HP.many [cJ,HP.bR (wI L s) (wI.le (L:=L) (s:=s)),HP.bR (rN L z.x z.y) (rN.le (L:=L) (x:=z.x) (y:=z.y)),HP.bR (eR L.b0 z.w0) (eR.le (a:=L.b0) (l:=z.w0)),HP.bR (eR L.b1 z.w1) (eR.le (a:=L.b1) (l:=z.w1))]))(k:XK N w0 K e R (H.set i (Cf f h s z))):XK N w0 K e R (HP.aE f 138 (jY h L s z)::H):=by
 have hlt:=Az hi
 refine tD i 0 hi rfl ?_;refine xI i (f:=fun L:gI=>iP f h L s z) L (by rw[List.getElem?_set_self hlt];rfl) ?_;rw[List.set_set];exact k
end
def oF(z:bZ)(a:Int)(l:List Int):Int×bZ:=
 if bB 2 a=false then(4,z) else if a=0 then(if z.h0≠0 then(7,z) else(0,{z with h0:=1,w0:=l})) else(if z.h1≠0 then(7,z) else(0,{z with h1:=1,w1:=l}))
theorem aRp(f h:Nat)(s:aD)(z:bZ)(a:Int)(A:Option Addr)(n c:Nat)(l:List Int)(w:World)(F:Nat→Prop)(hp:(Cf f h s z).sat F w)(hF:∀b,F b→b < w.heap.size)(hs:aI ⟨w,fun b=>b < w.heap.size∧¬F b⟩ 1 A n (rA l))(hn:n=l.length)(hn2:n≤1000000):
  Cz 94 #[pt f,iv a,.slice A n c] w (Wr (iv (oF z a l).1) (Cf f h s (oF z a l).2) w F):=by
 subst hn;cases hin:bB 2 a
 ·have hr:oF z a l=(4,z):=by simp[oF,hin]
  rw[hr];refine dJ func94 ntmps94 hp hF ?_;refine aA ?_;refine aU (fun w1 t=>Qz a w1) ?_;rw[hin];refine aA ?_;exact cG 0 hF
 ·obtain rfl | rfl:a=0∨a=1:=by have:=of_decide_eq_true hin;omega
  ·refine dJ func94 ntmps94 hp hF ?_;refine Zy 0 rfl fun L=>?_;dsimp only[List.set,jY];refine aA ?_;refine aU (fun w1 t=>Qz 0 w1) ?_;refine aA ?_;refine kd (fZ 0 11) ?_;refine aA ?_;refine aG rfl (fun hb=>?_) (fun hb=>?_)
   ·have hr:oF z 0 l=(7,z):=by simp[oF,bB,hb]
    rw[hr];refine aA ?_;refine Bt L 0 rfl ?_;dsimp only[List.set];exact cG 0 hF
   ·have hr:oF z 0 l=(0,{z with h0:=1,w0:=l}):=by simp[oF,bB];simpa using hb
    rw[hr];refine aA ?_;refine jO [5,6] ?_;refine bT 0 ?_;refine bT 1 ?_;refine bT 2 ?_;refine aJ 5 ?_;refine aJ 6 ?_;refine aL 3 ?_;refine iA (aF8 l.length (rA l)) (fun w1 t=>aJ6 A _ c _ w1 (hs.le (t.le (by simp))) (Ur _) hn2) ?_;rintro _ _ q1 ⟨An,cn,rfl,rfl⟩ _;dsimp only[List.cons_append,List.nil_append];refine bH ?_;refine aL 4 ?_;refine kd (fY rfl) ?_;refine bH ?_;refine aL 7 ?_;refine kd (fZ 0 11) ?_;refine cT ?_;refine aL 8 ?_;refine rR 1 (t:=138) rfl rfl rfl (by kernel_rfl) (by simp[Value.cells,Value.oneCell']) (by simp[Value.cells]) ?_;dsimp only[List.set,Value.cells,iH];refine cT ?_;refine fE ?_;refine aA ?_;refine Gn 0 (Φ:=eR (An,cn) l) (hm:=eR.le) rfl (fun p hp=>hp) ?_;refine bF 2 3 ?_;refine aY [1,2,3] rfl (by decide) (fun _ h=>h) ?_;refine aN 1 3 ?_;refine Bt (h:=h) (s:=s) (z:={z with h0:=1,w0:=l}) {L with b0:=(An,cn)} 0 rfl ?_;dsimp only[List.set];exact cG 0 hF
  ·refine dJ func94 ntmps94 hp hF ?_;refine Zy 0 rfl fun L=>?_;dsimp only[List.set,jY];refine aA ?_;refine aU (fun w1 t=>Qz 1 w1) ?_;refine aA ?_;refine kd (fZ 1 13) ?_;refine aA ?_;refine aG rfl (fun hb=>?_) (fun hb=>?_)
   ·have hr:oF z 1 l=(7,z):=by simp[oF,bB,hb]
    rw[hr];refine aA ?_;refine Bt L 0 rfl ?_;dsimp only[List.set];exact cG 0 hF
   ·have hr:oF z 1 l=(0,{z with h1:=1,w1:=l}):=by simp[oF,bB];simpa using hb
    rw[hr];refine aA ?_;refine jO [5,6] ?_;refine bT 0 ?_;refine bT 1 ?_;refine bT 2 ?_;refine aJ 5 ?_;refine aJ 6 ?_;refine aL 3 ?_;refine iA (aF8 l.length (rA l)) (fun w1 t=>aJ6 A _ c _ w1 (hs.le (t.le (by simp))) (Ur _) hn2) ?_;rintro _ _ q1 ⟨An,cn,rfl,rfl⟩ _;dsimp only[List.cons_append,List.nil_append];refine bH ?_;refine aL 4 ?_;refine kd (fY rfl) ?_;refine bH ?_;refine aL 7 ?_;refine kd (fZ 1 13) ?_;refine cT ?_;refine aL 8 ?_;refine rR 1 (t:=138) rfl rfl rfl (by kernel_rfl) (by simp[Value.cells,Value.oneCell']) (by simp[Value.cells]) ?_;dsimp only[List.set,Value.cells,iH];refine cT ?_;refine fE ?_;refine aA ?_;refine Gn 0 (Φ:=eR (An,cn) l) (hm:=eR.le) rfl (fun p hp=>hp) ?_;refine bF 2 4 ?_;refine aY [1,2,3] rfl (by decide) (fun _ h=>h) ?_;refine aN 1 4 ?_;refine Bt (h:=h) (s:=s) (z:={z with h1:=1,w1:=l}) {L with b1:=(An,cn)} 0 rfl ?_;dsimp only[List.set];exact cG 0 hF
def oZ(z:bZ)(a:Int):Option (List Int):=if a=0 then(if z.h0=2 then some z.w0 else none) else if a=1 then(if z.h1=2 then some z.w1 else none) else none
def oY(z:bZ)(a:Int):bZ:=if a=0 then(if z.h0=2 then {z with h0:=0,w0:=[]} else z) else if a=1 then(if z.h1=2 then {z with h1:=0,w1:=[]} else z) else z
def Vn(l:Option (List Int))(a:AC):Value:=match l with
 | some l=>.tuple #[.slice a.1 l.length a.2,.bool true]
 | none=>.tuple #[.slice none 0 0,.bool false]
def Ju(f h:Nat)(s:aD)(z:bZ)(l:List Int)(c:AC):HP:=HP.many [Cf f h s z,HP.bR (eR c l) (eR.le (a:=c) (l:=l))]
theorem aIN(f h:Nat)(s:aD)(z:bZ)(a:Int)(w:World)(F:Nat→Prop)(hp:(Cf f h s z).sat F w)(hF:∀b,F b→b < w.heap.size):
  Cz 95 #[pt f,iv a] w (fun y w'=>∃c:AC,y=.returned (Vn (oZ z a) c)∧True∧∃F',(Ju f h s (oY z a) ((oZ z a).getD []) c).sat F' w'∧gX w w' F F'):=by
 have Xk:∀w:World,(HP.bR (eR (none,0) []) (eR.le (a:=(none,0)) (l:=[]))).sat (fun _=>False) w:=fun w=>aB7 _ rfl
 cases hin:bB 2 a
 ·have h0:a≠0:=fun h=>by subst h;cases hin
  have h1:a≠1:=fun h=>by subst h;cases hin
  have hr:oZ z a=none:=by simp[oZ,h0,h1]
  have hz:oY z a=z:=by simp[oY,h0,h1]
  rw[hr,hz];unfold Ju;refine dJ func95 ntmps95 hp hF ?_;refine aA ?_;refine aU (fun w1 t=>Qz a w1) ?_;rw[hin];refine aA ?_;refine Bu (p:=HP.bR (eR (none,0) []) (eR.le (a:=(none,0)) (l:=[]))) Xk ?_;refine aY [1,0] rfl (by decide) (fun _ h=>h) ?_;refine nA ?_;exact eL rfl rfl rfl fun w1 t=>⟨(none,0),rfl,trivial,t.turns hF (by simp) (i:=0) rfl⟩
 ·obtain rfl | rfl:a=0∨a=1:=by have:=of_decide_eq_true hin;omega
  ·refine dJ func95 ntmps95 hp hF ?_;refine Zy 0 rfl fun L=>?_;dsimp only[List.set,jY];refine aA ?_;refine aU (fun w1 t=>Qz 0 w1) ?_;refine aA ?_;refine kd (fZ 0 11) ?_;refine aA ?_;refine aG rfl (fun hb=>?_) (fun hb=>?_)
   ·have hr:oZ z 0=none:=by simp[oZ,hb]
    have hz:oY z 0=z:=by simp[oY,hb]
    rw[hr,hz];unfold Ju;dsimp only[Option.getD];refine aA ?_;refine Bt L 0 rfl ?_;dsimp only[List.set];refine Bu (p:=HP.bR (eR (none,0) []) (eR.le (a:=(none,0)) (l:=[]))) Xk ?_;refine aY [1,0] rfl (by decide) (fun _ h=>h) ?_;refine nA ?_;exact eL rfl rfl rfl fun w1 t=>⟨(none,0),rfl,trivial,t.turns hF (by simp) (i:=0) rfl⟩
   ·have eX:z.h0=2:=by simpa using hb
    have hr:oZ z 0=some z.w0:=by simp[oZ,eX]
    have hz:oY z 0={z with h0:=0,w0:=[]}:=by simp[oY,eX]
    rw[hr,hz];unfold Ju;dsimp only[Option.getD];refine aA ?_;refine kd (fZ 0 11) ?_;refine aA ?_;refine kd (fY rfl) ?_;refine aA ?_;refine kd (fZ 0 11) ?_;refine rR 0 (t:=138) rfl rfl rfl (by kernel_rfl) (by simp[Value.cells,Value.oneCell']) (by simp[Value.cells]) ?_;dsimp only[List.set,Value.cells,iH];refine aA ?_;refine bF 1 3 ?_;refine Bu (p:=HP.bR (eR (none,0) []) (eR.le (a:=(none,0)) (l:=[]))) Xk ?_;refine aY [0,2,3,1] rfl (by decide) (fun _ h=>h) ?_;refine aN 1 3 ?_;refine Bt (h:=h) (s:=s) (z:={z with h0:=0,w0:=[]}) {L with b0:=(none,0)} 0 rfl ?_;dsimp only[List.set];refine nA ?_;exact eL rfl rfl rfl fun w1 t=>⟨L.b0,rfl,trivial,t.turns hF (by simp) (i:=0) rfl⟩
  ·refine dJ func95 ntmps95 hp hF ?_;refine Zy 0 rfl fun L=>?_;dsimp only[List.set,jY];refine aA ?_;refine aU (fun w1 t=>Qz 1 w1) ?_;refine aA ?_;refine kd (fZ 1 13) ?_;refine aA ?_;refine aG rfl (fun hb=>?_) (fun hb=>?_)
   ·have hr:oZ z 1=none:=by simp[oZ,hb]
    have hz:oY z 1=z:=by simp[oY,hb]
    rw[hr,hz];unfold Ju;dsimp only[Option.getD];refine aA ?_;refine Bt L 0 rfl ?_;dsimp only[List.set];refine Bu (p:=HP.bR (eR (none,0) []) (eR.le (a:=(none,0)) (l:=[]))) Xk ?_;refine aY [1,0] rfl (by decide) (fun _ h=>h) ?_;refine nA ?_;exact eL rfl rfl rfl fun w1 t=>⟨(none,0),rfl,trivial,t.turns hF (by simp) (i:=0) rfl⟩
   ·have eX:z.h1=2:=by simpa using hb
    have hr:oZ z 1=some z.w1:=by simp[oZ,eX]
    have hz:oY z 1={z with h1:=0,w1:=[]}:=by simp[oY,eX]
    rw[hr,hz];unfold Ju;dsimp only[Option.getD];refine aA ?_;refine kd (fZ 1 13) ?_;refine aA ?_;refine kd (fY rfl) ?_;refine aA ?_;refine kd (fZ 1 13) ?_;refine rR 0 (t:=138) rfl rfl rfl (by kernel_rfl) (by simp[Value.cells,Value.oneCell']) (by simp[Value.cells]) ?_;dsimp only[List.set,Value.cells,iH];refine aA ?_;refine bF 1 4 ?_;refine Bu (p:=HP.bR (eR (none,0) []) (eR.le (a:=(none,0)) (l:=[]))) Xk ?_;refine aY [0,2,3,1] rfl (by decide) (fun _ h=>h) ?_;refine aN 1 4 ?_;refine Bt (h:=h) (s:=s) (z:={z with h1:=0,w1:=[]}) {L with b1:=(none,0)} 0 rfl ?_;dsimp only[List.set];refine nA ?_;exact eL rfl rfl rfl fun w1 t=>⟨L.b1,rfl,trivial,t.turns hF (by simp) (i:=0) rfl⟩
end
section
def Dr(c:eF)(r:Int):Int:=if c.kind=112 then(if 1099511627776 < r*c.mul / c.div then 1099511627776 else r*c.mul / c.div) else if c.kind=100 then r / c.div else r
def Nz(s:aD):Nat→Nat→Int
 | 0,_=>0
 | k + 1, i => match s.aF[i]? with
  | none=>0
  | some c=>if c.kind=111 then c.rate else Dr c (match c.src with
   | []=>0
   | f::_=>Nz s k f.toNat)
def sD(s:aD)(i:Nat):Int:=Nz s (i+1) i
def Jv(s:aD)(st:List eP)(i:Int):Int:=if qI s st i then sD s i.toNat else 0
theorem aR5{s:aD}(hf:Fits eF.fit s.aF):∀(c k:Nat),c < k→Nz s k c=Nz s (c+1) c:=by
 intro c
 induction c using Nat.strongRecOn with
 | _ c ih =>
  intro k hk;obtain⟨k,rfl⟩:=Nat.exists_eq_add_of_lt hk;rw[show c+k+1=(c+k)+1 from rfl];unfold Nz;cases hc:s.aF[c]? with
  | none=>rfl
  | some x =>
   dsimp only;cases hs:x.src with
   | nil=>rfl
   | cons f fs=>
    have hfit:=(hf c x hc).1 f (by rw[hs];simp)
    have h1:f.toNat < c:=by omega
    dsimp only;rw[ih f.toNat h1 (c+k) (by omega),ih f.toNat h1 c h1]
theorem aIY{s:aD}(hf:Fits eF.fit s.aF){i:Nat}{c:eF}(hc:s.aF[i]? =some c):sD s i=if c.kind=111 then c.rate else Dr c (match c.src with
  | []=>0
  | f::_=>sD s f.toNat):=by
 unfold sD;rw[Nz,hc];dsimp only;cases hs:c.src with
 | nil=>rfl
 | cons f fs=>
  have hfit:=(hf i c hc).1 f (by rw[hs];simp)
  dsimp only;rw[aR5 hf f.toNat i (by omega)]
theorem aR4{s:aD}(hf:Fits eF.fit s.aF):∀i:Nat,0≤sD s i∧sD s i≤1099511627776:=by
 intro i
 induction i using Nat.strongRecOn with
 | _ i ih =>
  cases hc:s.aF[i]? with
  | none=>unfold sD Nz;rw[hc];exact⟨Int.le_refl 0,by show(0:Int)≤1099511627776;omega⟩
  | some c =>
   rw[aIY hf hc];obtain⟨hsrc,hfit⟩:=hf i c hc
   have hr:0≤(match c.src with | []=>0 | f::_=>sD s f.toNat)∧(match c.src with | []=>0 | f::_=>sD s f.toNat)≤1099511627776:=by
    cases hs:c.src with
    | nil=>exact⟨Int.le_refl 0,by show(0:Int)≤1099511627776;omega⟩
    | cons f fs=>
     have:=hsrc f (by rw[hs];simp)
     exact ih f.toNat (by omega)
   generalize (match c.src with | []=>0 | f::_=>sD s f.toNat)=r at hr;rcases hfit with⟨hk,_,h1,h2,_⟩ | ⟨hk,_,_,h1,h2,h3,h4,_⟩ | ⟨hk,_,_,_,h1,h2,_⟩ | ⟨hk,_⟩ | ⟨hk,_⟩
   ·rw[if_pos hk];omega
   ·rw[if_neg (by omega),Dr,if_pos hk]
    have:0≤r*c.mul / c.div:=Int.ediv_nonneg (Int.mul_nonneg hr.1 (by omega)) (by omega)
    split<;>omega
   ·rw[if_neg (by omega),Dr,if_neg (by omega),if_pos hk]
    have h5:0≤r / c.div:=Int.ediv_nonneg hr.1 (by omega)
    have h6:r / c.div≤r:=Int.ediv_le_self _ hr.1
    omega
   ·rw[if_neg (by omega),Dr,if_neg (by omega),if_neg (by omega)];exact hr
   ·rw[if_neg (by omega),Dr,if_neg (by omega),if_neg (by omega)];exact hr
theorem aIZ(n:Int)(h1:1≤n)(h2:n≤1000)(w:World):Cz 246 #[iv n] w (Rt (.bool true) w):=by
 refine aM func246 ntmps246 ?_;refine aA ?_;refine bQ (t:=5) rfl (fun _=>?_) (fun h=>absurd h1 h);refine aA ?_;refine kB (by simp) ?_;rw[decide_eq_true h2]
theorem aMz(r m d:Int)(hr:0≤r∧r≤1099511627776)(hm:1≤m∧m≤8)(hd:1≤d∧d≤4)(w:World):Cz 243 #[.int .u64 r,iv m,iv d] w (Rt (.tuple #[.int .u64 (if 1099511627776 < r*m / d then 0 else r*m / d),iv (if 1099511627776 < r*m / d then 3 else 0)]) w):=by
 have hmul:0≤r*m∧r*m≤1099511627776*8:=⟨Int.mul_nonneg hr.1 (by omega),Int.mul_le_mul hr.2 hm.2 (by omega) (by omega)⟩
 have hq:0≤r*m / d∧r*m / d≤r*m:=⟨Int.ediv_nonneg hmul.1 (by omega),Int.ediv_le_self _ hmul.1⟩
 refine aM func243 ntmps243 ?_;refine aA ?_;refine bQ (t:=11) rfl (fun h=>absurd h (by omega)) (fun _=>?_);refine aA ?_;refine aU (fun w1 t=>aIZ m hm.1 (by omega) w1) ?_;refine aA ?_;refine aU (fun w1 t=>aIZ d hd.1 (by omega) w1) ?_;refine aA ?_;refine En (ds:=.int .i64) (kd:=.u64) (by kernel_rfl) (by kernel_rfl) rfl (wrap_u64 (by omega)) (by decide) ?_;refine aLi rfl rfl (c:=r*m) (wrap_u64 (by omega)) (by decide) ?_;refine aA ?_;refine En (ds:=.int .i64) (kd:=.u64) (by kernel_rfl) (by kernel_rfl) rfl (wrap_u64 (by omega)) (by decide) ?_;refine aFJ rfl rfl (c:=r*m / d) (by omega) (by rw[Int.tdiv_eq_ediv_of_nonneg hmul.1];exact wrap_u64 (by omega)) (by decide) ?_;refine aA ?_;refine aG rfl (fun h=>?_) (fun h=>?_)
 ·rw[if_pos h,if_pos h];refine aA ?_;exact eL rfl rfl rfl fun w1 t=>⟨rfl,t.below (by simp)⟩
 ·rw[if_neg h,if_neg h];refine aA ?_;exact eL rfl rfl rfl fun w1 t=>⟨rfl,t.below (by simp)⟩
theorem aSU(L:TL)(s:aD)(st:List eP)(hH:s.dI)(b1 b2:Nat):∀(i:Nat),i < s.aF.length→∀w,xK w L s st→fQ w b1 0 (.pointer (some ⟨L.t,0,none⟩))→fQ w b2 0 (.func (.func 242) #[] #[pt b1,pt b2])→
  Cz 242 #[iv (i:Int),pt b1,pt b2] w (Rt (.int .u64 (sD s i)) w):=by
 intro i
 induction i using Nat.strongRecOn with
 | _ i ih =>
  intro hlt w hR Ib eX;obtain⟨b,off,c,a,x,hc,hx,hA,hro,hs⟩:=hR.node hlt
  have Xj:=aIY hH.t.aF hc
  have h0:=hR.r0
  rw[hA] at h0
  have k0:=hro.at_ (j:=0) rfl
  have k2:=hro.at_ (j:=2) rfl
  have k3:=hro.at_ (j:=3) rfl
  have k4:=hro.at_ (j:=4) rfl
  have k10:=hro.at_ (j:=10) rfl
  have Se:∀{w1},Below w.heap.size w w1→fQ w1 b1 0 (.pointer (some ⟨L.t,0,none⟩)):=fun hb=>⟨Nat.lt_of_lt_of_le Ib.1 hb.size,(hb.cell (p:=⟨_,0,none⟩) Ib.1).trans Ib.2⟩
  have go2:∀{w1},Below w.heap.size w w1→fQ w1 b2 0 (.func (.func 242) #[] #[pt b1,pt b2]):=fun hb=>⟨Nat.lt_of_lt_of_le eX.1 hb.size,(hb.cell (p:=⟨_,0,none⟩) eX.1).trans eX.2⟩
  obtain⟨hsrc,hfit⟩:=hH.t.aF i c hc;refine aM func242 ntmps242 ?_;refine aA ?_;refine kd (dat i (off+i*11)) ?_;rcases hfit with⟨hk,hs0,_⟩ | hfit
  ·rw[hk] at k0;rw[if_pos hk] at Xj;refine aA ?_;exact cY (by rw[Xj])
  obtain⟨f,fs,hf⟩:∃(f:Nat) (fs:List Int),c.src=(f:Int)::fs:=by
   cases hs0:c.src with
   | nil=>rw[hs0] at hfit;simp at hfit
   | cons f fs=>exact⟨f.toNat,fs,by have:=(hsrc f (by rw[hs0];simp)).1;rw[Int.toNat_of_nonneg this]⟩
  have Nk:f < i:=by have:=(hsrc f (by rw[hf];simp)).2;omega
  have pY:=aR4 hH.t.aF f
  have aB0:∀w1,Below w.heap.size w w1→Cz 90 #[.pointer (some ⟨L.t,0,none⟩),iv (i:Int)] w1 (Rt (iv (f:Int)) w1):=fun w1 hb=>Sz L s st i f c fs w1 (hR.below hb) hc hf
  have aBz:∀w1,Below w.heap.size w w1→Cz 242 #[iv (f:Int),pt b1,pt b2] w1 (Rt (.int .u64 (sD s f)) w1):=fun w1 hb=>ih f Nk (by omega) w1 (hR.below hb) (Se hb) (go2 hb)
  rw[hf] at Xj
  have Dh:sD s i=if c.kind=111 then c.rate else Dr c (sD s f):=Xj
  clear Xj;rcases hfit with⟨hk,_,_,Wz,hm2,dF,Rz,_⟩ | ⟨hk,_,_,_,dF,Rz,_⟩ | ⟨hk,_⟩ | ⟨hk,_⟩
  ·rw[hk] at k0;rw[if_neg (by omega),Dr,if_pos hk] at Dh;refine aA ?_;refine mL ?_;refine jA ?_;refine tT (fun w1 t=>aB0 w1 (t.below (by simp))) ?_;refine Jc (fi:=[]) (vs:=[iv (f:Int)]) (ca:=[pt b1,pt b2]) (fun w1 t=>aBz w1 (t.below (by simp))) ?_;refine jB ?_;refine aA ?_;refine mL ?_;refine jA ?_;refine tT (fun w1 t=>aMz _ c.mul c.div pY ⟨Wz,hm2⟩ ⟨dF,Rz⟩ w1) ?_;refine jB ?_;refine aA ?_
   by_cases hq:1099511627776 < sD s f*c.mul / c.div
   ·rw[if_pos hq] at Dh;rw[if_pos hq,if_pos hq];refine aA ?_;exact cY (by rw[Dh])
   ·rw[if_neg hq] at Dh;rw[if_neg hq,if_neg hq];refine aA ?_;exact cY (by rw[Dh])
  ·rw[hk] at k0;rw[if_neg (by omega),Dr,if_neg (by omega),if_pos hk] at Dh
   have hby:byF c=c.div:=by rw[byF,if_pos hk]
   rw[hby] at k10
   have hq:0≤sD s f / c.div∧sD s f / c.div≤sD s f:=⟨Int.ediv_nonneg pY.1 (by omega),Int.ediv_le_self _ pY.1⟩
   refine aA ?_;refine mL ?_;refine jA ?_;refine tT (fun w1 t=>aB0 w1 (t.below (by simp))) ?_;refine Jc (fi:=[]) (vs:=[iv (f:Int)]) (ca:=[pt b1,pt b2]) (fun w1 t=>aBz w1 (t.below (by simp))) ?_;refine jB ?_;refine aA ?_;refine En (ds:=.int .i64) (kd:=.u64) (by kernel_rfl) (by kernel_rfl) rfl (wrap_u64 (by omega)) (by decide) ?_;refine aFJ rfl rfl (c:=sD s f / c.div) (by omega) (by rw[Int.tdiv_eq_ediv_of_nonneg pY.1];exact wrap_u64 (by omega)) (by decide) ?_;refine aA ?_;exact cY (by rw[Dh])
  ·rw[hk] at k0;rw[if_neg (by omega),Dr,if_neg (by omega),if_neg (by omega)] at Dh;refine aA ?_;refine mL ?_;refine jA ?_;refine tT (fun w1 t=>aB0 w1 (t.below (by simp))) ?_;refine Jc (fi:=[]) (vs:=[iv (f:Int)]) (ca:=[pt b1,pt b2]) (fun w1 t=>aBz w1 (t.below (by simp))) ?_;refine jB ?_;refine aA ?_;exact cY (by rw[Dh])
  ·rw[hk] at k0;rw[if_neg (by omega),Dr,if_neg (by omega),if_neg (by omega)] at Dh;refine aA ?_;refine mL ?_;refine jA ?_;refine tT (fun w1 t=>aB0 w1 (t.below (by simp))) ?_;refine Jc (fi:=[]) (vs:=[iv (f:Int)]) (ca:=[pt b1,pt b2]) (fun w1 t=>aBz w1 (t.below (by simp))) ?_;refine jB ?_;refine aA ?_;exact cY (by rw[Dh])
theorem aSR(L:TL)(s:aD)(st:List eP)(hH:s.dI)(i:Int)(w:World)(hR:xK w L s st):
  Cz 232 #[.pointer (some ⟨L.t,0,none⟩),iv i] w (Rt (.int .u64 (Jv s st i)) w):=by
 unfold Jv;cases hr:qI s st i
 ·rw[if_neg (by decide)];refine aM func232 ntmps232 ?_;refine aA ?_;refine bA fun g1=>?_;refine aA ?_;refine aU (fun w1 t=>Zf L s st hH i w1 (hR.below (t.below (by simp)))) ?_;rw[hr];refine aA ?_;exact cY
 ·rw[if_pos rfl]
  have hi:bB s.aF.length i=true:=by
   unfold qI at hr;exact(Bool.and_eq_true _ _▸hr).1
  obtain⟨n,rfl⟩:∃n:Nat,i=n:=⟨i.toNat,by have:=of_decide_eq_true hi;omega⟩
  have hlt:n < s.aF.length:=by have:=of_decide_eq_true hi;omega
  refine aM func232 ntmps232 ?_;refine aA ?_;refine bA fun g1=>?_;refine aA ?_;refine aU (fun w1 t=>Zf L s st hH n w1 (hR.below (t.below (by simp)))) ?_;rw[hr];refine aA ?_;refine bX fun g2=>?_;refine aA ?_;refine kS (vf:=[]) (vc:=[pt g1,pt g2]) rfl rfl (by decide) ?_;refine aA ?_;refine aBg (fi:=[]) (vs:=[iv (n:Int)]) (ca:=[pt g1,pt g2]) (fun w1 t=>aSU L s st hH g1 g2 n hlt w1 (hR.below (t.below (by simp))) ((t.box (i:=1) rfl).at_ (j:=0) rfl) ((t.box (i:=0) rfl).at_ (j:=0) rfl)) ?_;refine aA ?_;exact cY
end
section
def pT(s:aD)(x:aP)(l:List Int):List Int:=
 let w:=l.headD 0
 if cN w 0 8=0 then[131072]
 else if cN w 10 8=16∧cN w 0 8=1 then[IntKind.u32.wrap (s.domains.length+s.aF.length*256+s.aR.length*65536+s.aC.length*16777216)]
 else if cN w 10 8=17∧cN w 0 8=5 then[Jw (rX x.dm (l.getD 1 0))]
 else if cN w 10 8=20∧cN w 0 8=6 then[IntKind.u32.wrap (Jv s x.ck (l.getD 1 0)),IntKind.u32.wrap (Jv s x.ck (l.getD 1 0) / 4294967296)] else[]
theorem aQv(L:HL)(s:aD)(x:aP)(w:World)(hH:s.dI)(i:Int)(hR:vC w L s x):Cz 186 #[.pointer (some ⟨L.h,0,none⟩),iv i] w (Rt (.int .u64 (Jv s x.ck i)) w):=by
 have k0:=hR.r0.at_ (j:=0) rfl
 refine aM func186 ntmps186 ?_;refine aA ?_;refine aU (fun w1 t=>Dj L s x w1 (hR.below (t.below (by simp)))) ?_;refine aA ?_;refine aU (fun w1 t=>aSR L.T s x.ck hH i w1 (hR.tree.below (t.below (by simp)))) ?_;refine aA ?_;exact cY
theorem aJI{α:Type}{cs vs:List α}{o:Nat}(hv:(cs.drop o).take vs.length=vs){j:Nat}{v:α}(hj:vs[j]? =some v):cs[o+j]? =some v:=by
 have hlt:=(List.getElem?_eq_some_iff.1 hj).1
 rw[←hv,List.getElem?_take_of_lt hlt,List.getElem?_drop] at hj;exact hj
theorem aRt(f:Nat)(L:gI)(s:aD)(z:bZ)(hL:HL)(x:aP)(hH:s.dI)(tP:vE s x.dm)(A:Option Addr)(c:Nat)(v:Int)(l:List Int)(w:World)(hR:Ma w f hL.h L s z)(hh:vC w hL s x)(hs:aI (all w) 1 A (v::l).length (rA (v::l)))
  (hu:cN v 28 4=0) (pH:(cN v 10 8=17∧cN v 0 8=5)∨(cN v 10 8=20∧cN v 0 8=6)→∃i,l=[i]∧0≤i∧i < 4294967296):
  Cz 106 #[pt f,.slice A (v::l).length c] w (fun y w'=>(∃r,y=.returned r∧aCr (pT s x (v::l)) r w w')∧Below w.heap.size w w'):=by
 obtain⟨b,off,rfl,hro⟩:=aI.u32 hs (by simp)
 have k0:=hro 0 v rfl
 have hlen:(v::l).length=l.length+1:=rfl
 have hE:uF v=0:=by rw[uF,if_neg (by simp[hu])]
 have hU:Gu v=Hz (cN v 0 8) (cN v 8 2) (cN v 10 8) (cN v 18 10):=by rw[Gu,if_neg (by simp[hu])]
 have kf:=hR.r0.at_ (j:=0) rfl
 have k4:eD w f 1 [.slice L.a1.1 s.aF.length L.a1.2,.slice L.a2.1 s.domains.length L.a2.2,.slice L.a3.1 s.aR.length L.a3.2,.slice L.a4.1 s.aC.length L.a4.2]:=⟨hR.r0.1,fun j v hj=>by
  have:=hR.r0.2 (1+j) v (aJI rfl hj)
  rwa [Nat.zero_add] at this⟩
 have hnc:=hH.t.nc
 have hnd:=hH.t.nd
 have iJ:=hH.t.nr
 have lX:=hH.t.nv
 refine aM func106 ntmps106 ?_;refine aB ?_;refine aU (fun w1 t=>aGi v w1) ?_;rw[hE,hU];dsimp only[Hz];refine aA ?_;refine bX fun g1=>?_;refine aA ?_;refine aG rfl (fun h1=>?_) (fun h1=>?_)
 ·have hm:pT s x (v::l)=[131072]:=if_pos (by simpa using h1)
  rw[hm];refine aA ?_;refine eK fun g2=>?_;refine aA ?_;refine dP [] [0] [] (by simp) rfl (by decide) (by decide) fun q hq _ hfr=>?_;obtain⟨F2,Cq,Ch⟩:=hq 0 _ (by simp) rfl
  have cR:=tE (Y:=q.Z) (sz:=1) (n:=1) (c:=1) Cq Ch rfl
  exact aT (h:=fun w1 st=>⟨_,rfl,_,_,rfl,aI.le cR (st.mK (by simp) (hfr (by simp) (by simp)))⟩)
 ·have n1:cN v 0 8≠0:=by simpa using h1
  refine aA ?_;refine bQ (t:=26) rfl (fun h2=>?_) (fun h2=>?_)
  ·have p1:cN v 10 8=16:=by simpa using h2
   refine aA ?_;refine aG rfl (fun h3=>?_) (fun h3=>?_)
   ·have m1:cN v 0 8=1:=by simpa using h3
    have hm:pT s x (v::l)=[IntKind.u32.wrap (s.domains.length+s.aF.length*256+s.aR.length*65536+s.aC.length*16777216)]:=(if_neg n1).trans (if_pos ⟨p1,m1⟩)
    rw[hm];refine aA ?_;refine bX fun g2=>?_;refine aA ?_;refine Pr rfl rfl (c:=s.aF.length*256) (by decide) (by show IntKind.i64.wrap ((s.aF.length:Int)*256)=_;exact iR (by omega)) (by decide) ?_;refine aA ?_;refine Pr rfl rfl (c:=s.aR.length*65536) (by decide) (by show IntKind.i64.wrap ((s.aR.length:Int)*65536)=_;exact iR (by omega)) (by decide) ?_;refine aA ?_;refine Pr rfl rfl (c:=s.aC.length*16777216) (by decide) (by show IntKind.i64.wrap ((s.aC.length:Int)*16777216)=_;exact iR (by omega)) (by decide) ?_;refine aA ?_;refine En (ds:=.int .i64) (kd:=.u32) (by kernel_rfl) (by kernel_rfl) rfl rfl (by decide) ?_;refine eK fun g3=>?_;refine aA ?_;refine dP [] [0] [] (by simp) rfl (by decide) (by decide) fun q hq _ hfr=>?_;obtain⟨F2,Cq,Ch⟩:=hq 0 _ (by simp) rfl
    have cR:=tE (Y:=q.Z) (sz:=1) (n:=1) (c:=1) Cq Ch rfl
    exact aT (h:=fun w1 st=>⟨_,rfl,_,_,rfl,aI.le cR (st.mK (by simp) (hfr (by simp) (by simp)))⟩)
   ·have m1:cN v 0 8≠1:=by simpa using h3
    have hm:pT s x (v::l)=[]:=(if_neg n1).trans ((if_neg fun h=>m1 h.2).trans ((if_neg fun h=>by have:=h.1;simp[p1] at this).trans (if_neg fun h=>by have:=h.1;simp[p1] at this)))
    rw[hm];refine aA ?_;refine bQ (t:=60) rfl (fun h4=>absurd h4 (by simp[p1])) (fun _=>?_);refine aA ?_;refine bQ (t:=80) rfl (fun h4=>absurd h4 (by simp[p1])) (fun _=>?_);refine aA ?_;exact aT (h:=fun _ _=>⟨_,rfl,_,_,rfl,rfl,fun h=>absurd h (by simp)⟩)
  ·have p1:cN v 10 8≠16:=by simpa using h2
   refine aA ?_;refine bQ (t:=60) rfl (fun h3=>?_) (fun h3=>?_)
   ·have p2:cN v 10 8=17:=by simpa using h3
    refine aA ?_;refine aG rfl (fun h4=>?_) (fun h4=>?_)
    ·have m1:cN v 0 8=5:=by simpa using h4
     obtain⟨i,rfl,hi1,hi2⟩:=pH (.inl ⟨p2,m1⟩)
     have aQa:[v,i].length=2:=rfl
     have hm:pT s x [v,i]=[Jw (rX x.dm i)]:=(if_neg n1).trans ((if_neg fun h=>p1 h.1).trans (if_pos ⟨p2,m1⟩))
     have k1:=hro 1 i rfl
     rw[hm];refine aA ?_;refine jO [1,2,3,5,6,7] ?_;refine bT 0 ?_;refine bT 4 ?_;refine aJ 1 ?_;refine aJ 2 ?_;refine aJ 3 ?_;refine aJ 5 ?_ (dH:=dat (sz:=1) 1 (off+1));refine aJ 6 ?_;refine aJ 7 ?_ (dH:=Lg (ds:=.int .u32) (by kernel_rfl) (by kernel_rfl) rfl (iR (by omega)));refine aL 8 ?_;refine aU (fun w1 t=>aEd hL s x w1 tP i (hh.below (t.below (by simp)))) ?_;refine cT ?_;refine aL 9 ?_;refine aU (fun w1 t=>aRs _ w1) ?_;refine cT ?_;refine aL 10 ?_;refine eK fun g2=>?_;refine cT ?_;refine aL 11 ?_;refine bK ?_;refine cT ?_;refine fE ?_;refine aA ?_;refine dP [] [0] [] (by simp) rfl (by decide) (by decide) fun q hq _ hfr=>?_;obtain⟨F2,Cq,Ch⟩:=hq 0 _ (by simp) rfl
     have cR:=tE (Y:=q.Z) (sz:=1) (n:=1) (c:=1) Cq Ch rfl
     exact aT (h:=fun w1 st=>⟨_,rfl,_,_,rfl,aI.le cR (st.mK (by simp) (hfr (by simp) (by simp)))⟩)
    ·have m1:cN v 0 8≠5:=by simpa using h4
     have hm:pT s x (v::l)=[]:=(if_neg n1).trans ((if_neg fun h=>p1 h.1).trans ((if_neg fun h=>m1 h.2).trans (if_neg fun h=>by have:=h.1;simp[p2] at this)))
     rw[hm];refine aA ?_;refine bQ (t:=80) rfl (fun h4=>absurd h4 (by simp[p2])) (fun _=>?_);refine aA ?_;exact aT (h:=fun _ _=>⟨_,rfl,_,_,rfl,rfl,fun h=>absurd h (by simp)⟩)
   ·have p2:cN v 10 8≠17:=by simpa using h3
    refine aA ?_;refine bQ (t:=80) rfl (fun h5=>?_) (fun h5=>?_)
    ·have p3:cN v 10 8=20:=by simpa using h5
     refine aA ?_;refine aG rfl (fun h6=>?_) (fun h6=>?_)
     ·have m1:cN v 0 8=6:=by simpa using h6
      obtain⟨i,rfl,hi1,hi2⟩:=pH (.inr ⟨p3,m1⟩)
      have aQa:[v,i].length=2:=rfl
      have hm:pT s x [v,i]=[IntKind.u32.wrap (Jv s x.ck i),IntKind.u32.wrap (Jv s x.ck i / 4294967296)]:=(if_neg n1).trans ((if_neg fun h=>p1 h.1).trans ((if_neg fun h=>p2 h.1).trans (if_pos ⟨p3,m1⟩)))
      have k1:=hro 1 i rfl
      rw[hm];refine aA ?_;refine jO [1,2,3,5,6,7] ?_;refine bT 0 ?_;refine bT 4 ?_;refine aJ 1 ?_;refine aJ 2 ?_;refine aJ 3 ?_;refine aJ 5 ?_ (dH:=dat (sz:=1) 1 (off+1));refine aJ 6 ?_;refine aJ 7 ?_ (dH:=Lg (ds:=.int .u32) (by kernel_rfl) (by kernel_rfl) rfl (iR (by omega)));refine aL 8 ?_;refine aU (fun w1 t=>aQv hL s x w1 hH i (hh.below (t.below (by simp)))) ?_;refine cT ?_;refine aL 9 ?_;refine bK ?_;refine cT ?_;refine fE ?_;refine aA ?_;refine En (ds:=.int .u64) (kd:=.u32) (by kernel_rfl) (by kernel_rfl) rfl rfl (by decide) ?_;refine aA ?_;refine aLh rfl rfl (c:=Jv s x.ck i / 4294967296) (by decide) (by show Int.fdiv _ (2 ^ 32)=_;rw[Int.fdiv_eq_ediv_of_nonneg _ (by decide)];rfl) (by decide) ?_;refine En (ds:=.int .u64) (kd:=.u32) (by kernel_rfl) (by kernel_rfl) rfl rfl (by decide) ?_;refine eK fun g2=>?_;refine aA ?_;refine dP [] [0] [] (by simp) rfl (by decide) (by decide) fun q hq _ hfr=>?_;obtain⟨F2,Cq,Ch⟩:=hq 0 _ (by simp) rfl
      have cR:=tE (Y:=q.Z) (sz:=1) (n:=2) (c:=2) Cq Ch rfl
      exact aT (h:=fun w1 st=>⟨_,rfl,_,_,rfl,aI.le cR (st.mK (by simp) (hfr (by simp) (by simp)))⟩)
     ·have m1:cN v 0 8≠6:=by simpa using h6
      have hm:pT s x (v::l)=[]:=(if_neg n1).trans ((if_neg fun h=>p1 h.1).trans ((if_neg fun h=>p2 h.1).trans (if_neg fun h=>m1 h.2)))
      rw[hm];refine aA ?_;exact aT (h:=fun _ _=>⟨_,rfl,_,_,rfl,rfl,fun h=>absurd h (by simp)⟩)
    ·have p3:cN v 10 8≠20:=by simpa using h5
     have hm:pT s x (v::l)=[]:=(if_neg n1).trans ((if_neg fun h=>p1 h.1).trans ((if_neg fun h=>p2 h.1).trans (if_neg fun h=>p3 h.1)))
     rw[hm];refine aA ?_;exact aT (h:=fun _ _=>⟨_,rfl,_,_,rfl,rfl,fun h=>absurd h (by simp)⟩)
end
section
def gY(f:Nat)(hL:HL)(s:aD)(z:bZ)(x:aP):HP:=HP.many [Cf f hL.h s z,dU hL s x]
def kY(z:bZ)(a:Nat):List Int:=if a=0 then z.w0 else z.w1
def Dx(s:aD)(x:aP)(l:List Int)(st:Int):List Int:=l.headD 0::IntKind.u32.wrap st::(if st=0 then pT s x l else[])
def aDh(z:bZ)(a:Nat)(hs:Int)(l:List Int):bZ:=if a=0 then {z with h0:=hs,w0:=l} else {z with h1:=hs,w1:=l}
def wU(s:aD)(x:aP)(z:bZ)(a:Nat)(st:Int):bZ:=aDh z a 2 (Dx s x (kY z a) st)
structure tW(l:List Int):Prop where
 ne:∃v r,l=v::r∧cN v 28 4=0∧((cN v 10 8=17∧cN v 0 8=5)∨(cN v 10 8=20∧cN v 0 8=6)→∃i,r=[i]∧0≤i∧i < 4294967296)
theorem aHB(s:aD)(x:aP)(l:List Int):(pT s x l).length≤2:=by
 unfold pT;dsimp only;split
 ·simp
 ·split
  ·simp
  ·split
   ·simp
   ·split<;>simp
section
variable{N:cE}{w0 w:World}{e:Env}{R:List Piece}{H:List HP}{K:Act→World→Prop}{f h:Nat}{L:gI}{s:aD}{z:bZ}{v:Int}{r:List Int}
theorem eR.at_{a:AC}{w:World}(hb:eR a (v::r) (all w)):∃b off,a.1=some ⟨b,off,none⟩∧w.cell? ⟨b,off,none⟩=some (.int .u32 v):=by
 obtain⟨b,off,hA,hc⟩:=aI.u32 hb (by simp);exact⟨b,off,hA,by have:=(hc 0 v rfl).2;simpa using this⟩
end
section
variable{P:Program}{N:cE}{w0 w:World}{e:Env}{R:List Piece}{H:List HP}{K:Act→World→Prop}{f h:Nat}{L:gI}{s:aD}{z:bZ}{Q:Exit→Act→World→Prop}
theorem Rd.eY(i:Nat){o:Nat}{v:Value}(hi:H[i]? =some (iP f h L s z))(hv:(jY h L s z)[o]? =some v):Rd w0 R H f o v:=fun w t=>by
 have:=((t.Ge i hi).r0.at_ hv).2
 rwa [Nat.zero_add] at this
theorem aQ.eY(i:Nat){o:Nat}{vs:List Value}(hi:H[i]? =some (iP f h L s z))(hv:((jY h L s z).drop o).take vs.length=vs):aQ w0 R H f o vs:=.of fun _ _ hj=>Rd.eY i hi (aJI hv hj)
end
def xF(L:gI)(b:Nat):AC:=if b=0 then L.b0 else L.b1
section
variable{h:Nat}{L:gI}{s:aD}{z:bZ}
theorem aIQ{b:Nat}(hb:b < 2):(jY h L s z)[12+b*2]? =some (.slice (xF L b).1 (kY z b).length (xF L b).2):=by
 obtain rfl | rfl:b=0∨b=1:=by omega
 ·rfl
 ·rfl
theorem Ma.box{w:World}{f:Nat}(k:Ma w f h L s z){b:Nat}(hb:b < 2):aI (all w) 1 (xF L b).1 (kY z b).length (rA (kY z b)):=by
 obtain rfl | rfl:b=0∨b=1:=by omega
 ·exact k.b0
 ·exact k.b1
theorem Ma.stR{w:World}{f:Nat}(k:Ma w f h L s z):uZ (all w) z.x z.y (.agg #[.slice L.x1.1 z.x.d.length L.x1.2,.slice L.x2.1 z.x.c.length L.x2.2,.slice L.x3.1 z.x.l.length L.x3.2,.slice L.y1.1 z.y.d.length L.y1.2,.slice L.y2.1 z.y.c.length L.y2.2,.slice L.y3.1 z.y.l.length L.y3.2]):=
 ⟨_,_,_,_,_,_,_,_,_,_,_,_,rfl,k.st.1,k.st.2.1,k.st.2.2.1,k.st.2.2.2.1,k.st.2.2.2.2.1,k.st.2.2.2.2.2⟩
end
section
variable{N:cE}{w0 w:World}{e:Env}{R:List Piece}{H:List HP}{K:Act→World→Prop}{f h:Nat}{L:gI}{s:aD}{z:bZ}{v:Int}{r:List Int}
theorem aUr{a:Nat}(ha:a < 2)(i:Nat)(hi:H[i]? =some (iP f h L s z))(hw:kY z a=v::r)(k:∀b off,(xF L a).1=some ⟨b,off,none⟩→Rd w0 R H b off (.int .u32 v)→XK N w0 K e R H):XK N w0 K e R H:=fun a w hr st=>by
 obtain⟨b,off,hA,_⟩:=eR.at_ (hw▸(st.Ge i hi).box ha);refine k b off hA (fun w1 t=>?_) a w hr st;obtain⟨b',off',sC,hc⟩:=eR.at_ (hw▸(t.Ge i hi).box ha);rw[hA] at sC;cases sC;exact hc
end
theorem aEu(f:Nat)(hL:HL)(s:aD)(z:bZ)(x:aP)(hH:s.dI)(aW:iO hL s)(hok:cK s x)(a:Nat)(ha:a < 2)(st:Int)(hst:st=0→tW (kY z a))(w:World)(F:Nat→Prop)(hp:(gY f hL s z x).sat F w)(hF:∀b,F b→b < w.heap.size):
  Cz 52 #[pt f,iv (a:Int),.int .i32 st] w (Wr (.tuple #[]) (gY f hL s (wU s x z a st) x) w F):=by
 unfold wU Dx;generalize hb:kY z a=l at hst⊢;refine dJ func52 ntmps52 hp hF ?_;refine bF 0 0 ?_;refine mB 0 fun L=>?_;refine aA ?_;refine kd (fZ a (11+a*2)) ?_;refine aA ?_;refine kd (bN rfl (Rd.eY 0 rfl (v:=.slice (xF L a).1 l.length (xF L a).2) (by rw[show 11+a*2+1=12+a*2 by omega,←hb];exact aIQ ha))) ?_;refine aB ?_;refine Lr (α:=Unit) (fun _=>[(7,.int .u32 (l.headD 0)),(6,.slice (xF L a).1 l.length (xF L a).2),(2,.int .i32 st),(1,iv (a:Int)),(0,pt f)]) (fun _=>[iP f hL.h L s z,HP.many [cJ,dU hL s x]]) (fun _=>True) ?_ fun _ _=>?_
 ·refine aG rfl (fun h=>?_) (fun h=>?_)
  ·cases l with
   | nil=>simp at h
   | cons v r=>
    refine aUr ha 0 rfl hb fun b off hA hrd=>?_;rw[hA];refine aB ?_;exact eI ()
  ·cases l with
   | nil=>
    refine aB ?_;exact eI ()
   | cons v r=>simp at h
 refine aB ?_;refine Lr (α:=AC) (fun q=>[(8,.slice q.1 (if st=0 then pT s x l else[]).length q.2),(7,.int .u32 (l.headD 0)),(2,.int .i32 st),(1,iv (a:Int)),(0,pt f)]) (fun q=>[HP.bR (eR q (if st=0 then pT s x l else[])) (eR.le (a:=q) (l:=if st=0 then pT s x l else[])),iP f hL.h L s z,HP.many [cJ,dU hL s x]]) (fun _=>True) ?_ fun q _=>?_
 ·refine aG rfl (fun h=>?_) (fun h=>?_)
  ·rw[if_pos h];obtain⟨v,r,rfl,hu,pH⟩:=(hst h).ne;refine bF 1 1 ?_;refine aB ?_
   refine jR [] (fun v' w w'=>aCr (pT s x (v::r)) v' w w') (fun w1 t=>by
    have hf:=t.Ge 1 rfl
    have jX:=hf.box ha
    obtain⟨b,off,hA,_⟩:=eR.at_ (hb▸jX);rw[hb,hA] at jX
    have:=aRt f _ s z hL x hH hok.dm _ (xF L a).2 v r w1 hf (t.nL 0 rfl aW hok) jX hu pH
    rw[←hA] at this
    exact this) ?_
   rintro _ w3 q3 ⟨Am,cm,rfl,cR⟩ Ki _ hF3
   have cR:=cR.le Ki
   refine aN 1 1 ?_;refine Jd (Φ:=eR (Am,cm) (pT s x (v::r))) (hm:=eR.le) (hF3 (by simp)) (fun p hp b hb=>by simp at hp;subst hp;exact hb.1) cR ?_;refine aB ?_;exact eI (Am,cm)
  ·rw[if_neg h];refine Bu (p:=HP.bR (eR (none,0) []) (eR.le (a:=(none,0)) (l:=[]))) (fun w=>aB7 _ rfl) ?_;refine aB ?_;exact eI (none,0)
 have hml:(if st=0 then pT s x l else[]).length≤2:=by
  split
  ·exact aHB s x l
  ·simp
 generalize hM:(if st=0 then pT s x l else[])=M at hml⊢;refine bF 1 0 ?_;refine jO [7,8] ?_;refine bT 0 ?_;refine bT 1 ?_;refine bT 2 ?_;refine bT 3 ?_;refine bT 4 ?_;refine aJ 7 ?_;refine aJ 8 ?_;refine aL 5 ?_;refine iA (aCs (l.headD 0::IntKind.u32.wrap st::M)) (fun w1 t=>aT9 _ st _ rfl q.1 M.length q.2 M w1 (t.bR 1 rfl) rfl (by omega)) ?_;rintro _ _ q9 ⟨An,cn,rfl,rfl⟩ _;dsimp only[List.cons_append,List.nil_append];refine bH ?_;refine aL 6 ?_;refine kd (fY rfl) ?_;refine bH ?_;refine aL 9 ?_;refine kd (fZ a (11+a*2)) ?_;refine cT ?_;refine aL 10 ?_;refine rR 1 (t:=138) rfl rfl rfl (by kernel_rfl) (by simp[Value.cells,Value.oneCell']) (by simp[Value.cells,jY];omega) ?_;dsimp only[List.set];refine cT ?_;refine fE ?_;refine Gn 0 (Φ:=eR (An,cn) (l.headD 0::IntKind.u32.wrap st::M)) (hm:=eR.le) rfl (fun p hp=>hp) ?_;obtain rfl | rfl:a=0∨a=1:=by omega
 ·refine bF 3 3 ?_;refine aY [1,2,4,5] rfl (by decide) (R':=[⟨w,fun b=>b < w.heap.size∧¬F b⟩]) (by simp) ?_;refine aN 1 3 ?_;refine Bt (h:=hL.h) (s:=s) (z:={z with h0:=2,w0:=l.headD 0::IntKind.u32.wrap st::M}) {L with b0:=(An,cn)} 0 rfl ?_;dsimp only[List.set];refine aN 0 0 ?_;exact kC 0 hF
 ·refine bF 3 4 ?_;refine aY [1,2,4,5] rfl (by decide) (R':=[⟨w,fun b=>b < w.heap.size∧¬F b⟩]) (by simp) ?_;refine aN 1 4 ?_;refine Bt (h:=hL.h) (s:=s) (z:={z with h1:=2,w1:=l.headD 0::IntKind.u32.wrap st::M}) {L with b1:=(An,cn)} 0 rfl ?_;dsimp only[List.set];refine aN 0 0 ?_;exact kC 0 hF
end
section
def Bf(z:bZ)(a:Nat):Int:=if a=0 then z.h0 else z.h1
def sW(z:bZ):Option Nat:=if Bf z (1 - z.last).toNat=1 then some (1 - z.last).toNat else if Bf z z.last.toNat=1 then some z.last.toNat else none
def mF(s:aD)(x:aP):List Int:=(List.range s.aC.length).map fun i=>(iQ x.wt i:Int)
theorem aRk(f:Nat)(hL:HL)(s:aD)(z:bZ)(x:aP)(hl:z.last=0∨z.last=1)(hn:sW z=none)(w:World)(F:Nat→Prop)(hp:(gY f hL s z x).sat F w)(hF:∀b,F b→b < w.heap.size):
  Cz 50 #[pt f] w (Wr (.bool false) (gY f hL s z x) w F):=by
 have hno:z.h0≠1∧z.h1≠1:=by
  unfold sW at hn;rcases hl with h | h<;>rw[h] at hn<;>simp[Bf] at hn<;>by_cases p:z.h0=1<;>by_cases q:z.h1=1<;>simp[p,q] at hn⊢
 refine dJ func50 ntmps50 hp hF ?_;refine bF 0 0 ?_;refine Zy 0 rfl fun L=>?_;dsimp only[List.set,jY];rcases hl with hl | hl<;>rw[hl]
 ·refine aA ?_;refine kd (fZ 1 13) ?_;refine aA ?_;refine aG rfl (fun _=>?_) (fun h=>absurd h (by simp[hno.2]));refine aA ?_;refine kd (fZ 0 11) ?_;refine aA ?_;refine aG rfl (fun _=>?_) (fun h=>absurd h (by simp[hno.1]));refine aA ?_;rw[←hl];refine Bt (h:=hL.h) (s:=s) (z:=z) L 0 rfl ?_;dsimp only[List.set];refine aN 0 0 ?_;exact cG 0 hF
 ·refine aA ?_;refine kd (fZ 0 11) ?_;refine aA ?_;refine aG rfl (fun _=>?_) (fun h=>absurd h (by simp[hno.1]));refine aA ?_;refine kd (fZ 1 13) ?_;refine aA ?_;refine aG rfl (fun _=>?_) (fun h=>absurd h (by simp[hno.2]));refine aA ?_;rw[←hl];refine Bt (h:=hL.h) (s:=s) (z:=z) L 0 rfl ?_;dsimp only[List.set];refine aN 0 0 ?_;exact cG 0 hF
end
end Go.Proofs.YtdcdccmpcmjmhaaGreatDoor
