/- conf.Copy. -/
import Derived.Test.YtdcdccmpcmjmhaaGreatDoorRpmKeepsK4
namespace Go.Proofs.YtdcdccmpcmjmhaaGreatDoor
set_option linter.all false
set_option maxHeartbeats 4000000
set_option maxRecDepth 20000
open Go.RowKit Go.Proofs.Tryz
section
theorem Qf{l:List Rg}:∀u∈l.flatMap Rg.cells,u.oneCell'=true:=fun u hu=>by
 obtain⟨r,_,hu⟩:=List.mem_flatMap.1 hu;simp only[Rg.cells,List.mem_cons,List.not_mem_nil,or_false] at hu;rcases hu with rfl | rfl<;>rfl
def aCq(s:aC)(v:Value)(w w':World):Prop:=∃cs,v=.agg cs∧wH (fF (fresh w w')) s cs
theorem aE6(s:aC)(A1 A2 A3 A4:Option Addr)(n1 k1 n2 k2 n3 k3 n4 k4:Nat)(w:World)(hW:fL w s A1 n1 A2 n2 A3 n3 A4 n4)(Jt:∀d∈s.aD,d.aL.length≤1000000):
  Cz 75 #[.agg #[.slice A1 n1 k1,.slice A2 n2 k2,.slice A3 n3 k3,.slice A4 n4 k4]] w (fun y w'=>(∃v,y=.returned v∧aCq s v w w')∧Below w.heap.size w w'):=by
 obtain⟨rc,hrc,qI,hsc⟩:=hW.jK;obtain⟨rd,hrd,hn2,hsd⟩:=hW.dom;obtain⟨rr,cE,oU,hst⟩:=hW.Ct;obtain⟨rv,Rh,qZ,vX⟩:=hW.dev;obtain⟨Ko,aPD,rfl,aPE⟩:=aE8 hrc;obtain⟨Ik,aPK,rfl,aPL⟩:=aEz Rh;obtain⟨sm1,sm2,sm3,sm4,sm5,sm6⟩:=hW.small;subst qI;subst hn2;subst oU;subst qZ
 have ho1:=aF1 (es:=s.aF) (bs:=Ko) aS1
 have ho4:=aF1 (es:=s.aD) (bs:=Ik) aRX
 refine aN func75 ntmps75 ?_;refine cP ?_;refine eA ?_;refine bA fun g1=>?_;refine bU fun g2=>?_;refine dN ?_;refine Tj (fun e R H=>∃C j1 D j2 E j3 V j4 g3,e=[(3,pt g3),(2,pt g2)]∧R=[all w]∧H=[HP.own 86 6 (.slice C s.aF.length j1) s.aF.length (Sr s Ko).flatten,HP.own 38 6 (.slice V s.aD.length j4) s.aD.length (Sm s Ik).flatten,HP.own 50 3 (.slice D s.domains.length j2) s.domains.length rd.flatten,HP.own 88 1 (.slice E s.aT.length j3) s.aT.length rr.flatten,HP.aE g3 30 [.slice C s.aF.length j1,.slice D s.domains.length j2,.slice E s.aT.length j3,.slice V s.aD.length j4],HP.aE g2 30 [sn,sn,sn,sn]]) ?_ ?_
 ·refine rF 14 (by kernel_rfl) (by kernel_rfl) ?_;refine bB 0 ?_;refine bB 1 ?_;refine bB 3 ?_;refine bB 4 ?_;refine bB 6 ?_;refine bB 7 ?_;refine bB 9 ?_;refine bB 10 ?_;refine aKh (j:=13) 3 30 [sn,sn,sn,sn] fun M=>?_;refine Tp 2 13 rfl rfl (iG (by kernel_rfl)) (by decide) (by kernel_rfl) (by kernel_rfl) (fun _ h=>h) (fun M=>?_);refine Ue (f:=147) (fi:=[]) (ca:=[]) (by kernel_rfl) (Se M rfl rfl) (Sd M rfl rfl) (by decide) (aKx s.aF.length (Sr s Ko).flatten) (fun w1 st=>aNI A1 _ k1 _ w1 (hsc.le (st.le (by simp))) ho1 sm1) ?_;rintro _ _ q1 ⟨C,j1,rfl,rfl⟩ _;dsimp only[List.cons_append,List.nil_append];refine aBU ?_;refine iD ?_;refine gQ ?_;refine aAa (by decide) rfl (fun _ h=>h.aZ.tail) ?_;refine Tp 5 13 rfl rfl (iG (by kernel_rfl)) (by decide) (by kernel_rfl) (by kernel_rfl) (fun _ h=>h.aZ.tail) (fun M=>?_);refine Ue (f:=148) (fi:=[]) (ca:=[]) (by kernel_rfl) (Se M rfl rfl) (Sd M rfl rfl) (by decide) (aKv s.domains.length rd.flatten) (fun w1 st=>aNG A2 _ k2 _ w1 (hsd.le (st.le (by simp))) (aRC hrd) sm2) ?_;rintro _ _ q2 ⟨D,j2,rfl,rfl⟩ _;dsimp only[List.cons_append,List.nil_append];refine aBU ?_;refine iD ?_;refine gQ ?_;refine aAa (by decide) rfl (fun _ h=>h.aZ.tail.aZ.tail) ?_;refine Tp 8 13 rfl rfl (iG (by kernel_rfl)) (by decide) (by kernel_rfl) (by kernel_rfl) (fun _ h=>h.aZ.tail.aZ.tail) (fun M=>?_);refine Ue (f:=149) (fi:=[]) (ca:=[]) (by kernel_rfl) (Se M rfl rfl) (Sd M rfl rfl) (by decide) (aKt s.aT.length rr.flatten) (fun w1 st=>aNE A3 _ k3 _ w1 (hst.le (st.le (by simp))) (aMo cE) sm3) ?_;rintro _ _ q3 ⟨E,j3,rfl,rfl⟩ _;dsimp only[List.cons_append,List.nil_append];refine aBU ?_;refine iD ?_;refine gQ ?_;refine aAa (by decide) rfl (fun _ h=>h.aZ.tail.aZ.tail.aZ.tail) ?_;refine Tp 11 13 rfl rfl (iG (by kernel_rfl)) (by decide) (by kernel_rfl) (by kernel_rfl) (fun _ h=>h.aZ.tail.aZ.tail.aZ.tail) (fun M=>?_);refine Ue (f:=150) (fi:=[]) (ca:=[]) (by kernel_rfl) (Se M rfl rfl) (Sd M rfl rfl) (by decide) (aKw s.aD.length (Sm s Ik).flatten) (fun w1 st=>aNH A4 _ k4 _ w1 (vX.le (st.le (by simp))) ho4 sm4) ?_;rintro _ _ q4 ⟨V,j4,rfl,rfl⟩ _;dsimp only[List.cons_append,List.nil_append];refine aBU ?_;refine iD ?_;refine gQ ?_;refine aAa (by decide) rfl (fun _ h=>h.aZ.tail.aZ.tail.aZ.tail.aZ.tail) ?_;cases M with
  | none=>
   dsimp only[wB,yP,Ak,Fy];refine fM 12 rfl rfl rfl (by decide) (lW (zs:=[sn,sn,sn,sn]) (L:=[(0,1),(1,1),(2,1),(3,1)]) (iG (by kernel_rfl)) (by kernel_rfl) rfl (by simp[fI,gI,Value.cells];rfl)) (by kernel_rfl) (fun _ _ _ h=>h) (fun _ h=>h.aZ.tail.aZ.tail.aZ.tail.aZ.tail) ?_;refine cG 13 ?_;refine bU fun g3=>?_;refine iD ?_;refine gQ ?_;refine kX (fun _ h=>h.tail.aZ.tail.aZ.tail.aZ.tail.aZ.tail) ?_;refine cG 14 ?_;refine oO 0 rfl ?_;dsimp only[List.set];refine fA ?_;refine kG ?_;refine dV ?_;exact aY [4,1,3,2,0,5] rfl (by decide) (by simp) (bK [(3,pt g3),(2,pt g2)] (Zs ⟨C,j1,D,j2,E,j3,V,j4,g3,rfl,rfl,rfl⟩))
  | some g3=>
   dsimp only[wB,yP,Ak,Fy];refine fM 12 rfl rfl rfl (by decide) (lW (zs:=[sn,sn,sn,sn]) (L:=[(0,1),(1,1),(2,1),(3,1)]) (iG (by kernel_rfl)) (by kernel_rfl) rfl (by simp[fI,gI,Value.cells];rfl)) (by kernel_rfl) (fun _ _ _ h=>h) (fun _ h=>h.tail.aZ.tail.aZ.tail.aZ.tail.aZ.tail) ?_;refine cG 14 ?_;refine oO 0 rfl ?_;dsimp only[List.set];refine fA ?_;refine kG ?_;refine dV ?_;exact aY [4,1,3,2,0,5] rfl (by decide) (by simp) (bK [(3,pt g3),(2,pt g2)] (Zs ⟨C,j1,D,j2,E,j3,V,j4,g3,rfl,rfl,rfl⟩))
 rintro _ _ _ ⟨C,j1,D,j2,E,j3,V,j4,g3,rfl,rfl,rfl⟩;refine Bv (p:=HP.bY (zM s Ko 0) (zM.le (s:=s) (fa:=Ko) (i:=0))) (fun w1 j c a hj=>absurd hj (by omega)) ?_;refine aA ?_;refine bK [(23,iv 0),(22,iv s.aF.length),(3,pt g3),(2,pt g2)] ?_;refine eJ (fun m e R H=>∃(i:Nat) (fa:List AC),i≤s.aF.length∧fa.length=s.aF.length∧(∀j,i≤j→fa[j]? =Ko[j]?)∧m=s.aF.length - i∧e=[(23,iv i),(22,iv s.aF.length),(3,pt g3),(2,pt g2)]∧R=[all w]∧H=[HP.bY (zM s fa i) (zM.le (s:=s) (fa:=fa) (i:=i)),HP.own 86 6 (.slice C s.aF.length j1) s.aF.length (Sr s fa).flatten,HP.own 38 6 (.slice V s.aD.length j4) s.aD.length (Sm s Ik).flatten,HP.own 50 3 (.slice D s.domains.length j2) s.domains.length rd.flatten,HP.own 88 1 (.slice E s.aT.length j3) s.aT.length rr.flatten,HP.aE g3 30 [.slice C s.aF.length j1,.slice D s.domains.length j2,.slice E s.aT.length j3,.slice V s.aD.length j4],HP.aE g2 30 [sn,sn,sn,sn]]) s.aF.length ⟨0,Ko,by omega,aPD,fun _ _=>rfl,rfl,rfl,rfl,rfl⟩ fun m e R H hI=>?_;obtain⟨i,fa,hi,hfl,hsame,rfl,rfl,rfl,rfl⟩:=hI;refine aA ?_;refine aG rfl (fun hlt=>?_) (fun hge=>?_)
 ·have hlt:i < s.aF.length:=by omega
  obtain⟨c,hc⟩:=get_some hlt;obtain⟨a,ha⟩:=get_some (l:=fa) (i:=i) (by omega)
  have ha0:Ko[i]? =some a:=by rw[←hsame i (Nat.le_refl _)];exact ha
  have aPC:=aPE i c a hc ha0
  have hcs:=sm5 c (List.mem_of_getElem? hc)
  refine aY [1,0,2,3,4,5,6] rfl (by decide) (fun _ h=>h) ?_;refine aBV 0 rfl (by omega) fun gC hC=>?_;subst hC;refine Ta 0 rfl fun cs h1 h2 h3 h4=>?_;dsimp only[List.set];obtain⟨iL,iK⟩:=aAi (f:=Bn) (es:=s.aF) (bs:=fa) (sz:=6) hfl (fun _ _=>rfl)
  have hs:=Hz h2 iL iK (Ub hc ha)
  refine aA ?_;refine rF 10 (by kernel_rfl) (by kernel_rfl) ?_;refine bB 0 ?_;refine bB 1 ?_;refine bB 2 ?_;refine bB 3 ?_;refine bB 4 ?_;refine bB 5 ?_;refine bB 6 ?_ (dI:=dat (sz:=6) i (i*6));refine bB 7 ?_;refine bB 8 ?_;refine cG 9 ?_;refine iY (aFm c.src.length (aK c.src)) (fun w1 st=>aHo a.1 _ a.2 _ w1 (aI.le aPC (st.le (by simp))) (Qy _) hcs) ?_;rintro _ _ q ⟨Af,kf,rfl,rfl⟩ _;dsimp only[List.cons_append,List.nil_append];refine nT ?_;refine cG 10 ?_;refine kd (dat i (i*6)) ?_;refine fA ?_;refine cG 11 ?_;refine bH ?_;refine fA ?_;refine cG 12 ?_;refine fG rfl rfl ?_;dsimp only[List.set];refine fA ?_;refine kG ?_
  have hs1:=hs.set 1 (.slice Af c.src.length kf) (by simp[Bn]) (by omega)
  have vW:=(wF.refl cs (i*6) 6).set 1 (.slice Af c.src.length kf) (by decide)
  have hf:=Fz (r':=Bn c (Af,kf)) h2 iL iK hlt (by omega) rfl hs1 vW
  rw[show(Sr s fa).set i (Bn c (Af,kf))=Sr s (fa.set i (Af,kf)) from aF0 hc (by omega)] at hf;refine Oo 1 (n:=s.aF.length) (c:=j1) (sz:=6) rfl (by simpa using h1) hf h3 h4 ?_;dsimp only[List.set];refine Gj 0 (Φ:=fun p=>aI p 1 Af c.src.length (aK c.src)) (hm:=fun p q hl h=>aI.le h hl) rfl (fun p h=>h) ?_;dsimp only[List.set];refine aY [0,2,1,3,4,5,6,7] rfl (by decide) (fun _ h=>h) ?_
  refine Tg (X:=zM s (fa.set i (Af,kf)) (i+1)) (h3:=zM.le) (fun p h1 h2 j c' a' hj Bf yW=>by
   rcases Nat.lt_or_ge j i with h | h
   ·rw[List.getElem?_set_ne (by omega)] at yW;exact h2 j c' a' h Bf yW
   ·obtain rfl:j=i:=by omega
    rw[hc] at Bf;cases Bf;rw[List.getElem?_set_self (by omega)] at yW;cases yW
    exact h1) ?_
  refine aA ?_;refine bK [(23,iv (i+1:Nat)),(22,iv s.aF.length),(3,pt g3),(2,pt g2)] ?_;refine aBR (R':=[all w]) (by simp) ?_;exact iC (s.aF.length - (i+1)) (by omega) ⟨i+1,fa.set i (Af,kf),hlt,by simpa using hfl,fun j hj=>by rw[List.getElem?_set_ne (by omega)];exact hsame j (by omega),rfl,rfl,rfl,rfl⟩
 ·obtain rfl:i=s.aF.length:=by omega
  refine Bv (p:=HP.bY (Ef s Ik 0) (Ef.le (s:=s) (da:=Ik) (i:=0))) (fun w1 j d a hj=>absurd hj (by omega)) ?_;refine aA ?_;refine bK [(42,iv 0),(41,iv s.aD.length),(3,pt g3),(2,pt g2)] ?_;refine eJ (fun m e R H=>∃(i:Nat) (da:List (AC×AC)),i≤s.aD.length∧da.length=s.aD.length∧(∀j,i≤j→da[j]? =Ik[j]?)∧m=s.aD.length - i∧e=[(42,iv i),(41,iv s.aD.length),(3,pt g3),(2,pt g2)]∧R=[all w]∧H=[HP.bY (Ef s da i) (Ef.le (s:=s) (da:=da) (i:=i)),HP.bY (zM s fa s.aF.length) (zM.le (s:=s) (fa:=fa) (i:=s.aF.length)),HP.own 86 6 (.slice C s.aF.length j1) s.aF.length (Sr s fa).flatten,HP.own 38 6 (.slice V s.aD.length j4) s.aD.length (Sm s da).flatten,HP.own 50 3 (.slice D s.domains.length j2) s.domains.length rd.flatten,HP.own 88 1 (.slice E s.aT.length j3) s.aT.length rr.flatten,HP.aE g3 30 [.slice C s.aF.length j1,.slice D s.domains.length j2,.slice E s.aT.length j3,.slice V s.aD.length j4],HP.aE g2 30 [sn,sn,sn,sn]]) s.aD.length ⟨0,Ik,by omega,aPK,fun _ _=>rfl,rfl,rfl,rfl,rfl⟩ fun m e R H hI=>?_;obtain⟨i,da,hi,jA,aHW,rfl,rfl,rfl,rfl⟩:=hI;refine aA ?_;refine aG rfl (fun hlt=>?_) (fun hge=>?_)
  ·have hlt:i < s.aD.length:=by omega
   obtain⟨d,hd⟩:=get_some hlt;obtain⟨⟨a1,a2⟩,ha⟩:=get_some (l:=da) (i:=i) (by omega)
   have ha0:Ik[i]? =some (a1,a2):=by rw[←aHW i (Nat.le_refl _)];exact ha
   obtain⟨aDG,aIj⟩:=aPL i d _ hd ha0
   have eI:=Jt d (List.mem_of_getElem? hd)
   have iJ:=sm6 d (List.mem_of_getElem? hd)
   refine aY [3,0,1,2,4,5,6,7] rfl (by decide) (fun _ h=>h) ?_;refine aBV 0 rfl (by omega) fun gV hV=>?_;subst hV;refine Ta 0 rfl fun cs h1 h2 h3 h4=>?_;dsimp only[List.set];obtain⟨iL,iK⟩:=aAi (f:=Bl) (es:=s.aD) (bs:=da) (sz:=6) jA (fun _ _=>rfl)
   have hs:=Hz h2 iL iK (Ub hd ha)
   refine aA ?_;refine kd (dat i (i*6)) ?_;refine aA ?_;refine jM [3,4,5,8,9,10] ?_;refine bP 0 ?_;refine bP 1 ?_;refine bP 2 ?_;refine bP 7 ?_;refine aJ 3 ?_;refine aJ 4 ?_;refine aJ 5 ?_;refine aJ 8 ?_;refine aJ 9 ?_;refine aJ 10 ?_;refine aO 6 ?_;refine iY (aKu d.aL.length (d.aL.flatMap Rg.cells)) (fun w1 st=>aNF a1.1 _ a1.2 _ w1 (aI.le aDG (st.le (by simp))) Qf eI) ?_;rintro _ _ q1 ⟨Ag,kg,rfl,rfl⟩ _;dsimp only[List.cons_append,List.nil_append];refine bM ?_;refine aO 11 ?_;refine iY (aFm d.iX.length (aK d.iX)) (fun w1 st=>aHo a2.1 _ a2.2 _ w1 (aI.le aIj (st.le (by simp))) (Qy _) iJ) ?_;rintro _ _ q2 ⟨An,kn,rfl,rfl⟩ _;dsimp only[List.cons_append,List.nil_append];refine bM ?_ (hS:=fun _ h=>h.aZ.tail.aZ.tail);refine aO 12 ?_;refine bH ?_;refine bM ?_ (hS:=fun _ h=>h.aZ.tail.aZ.tail);refine aO 13 ?_;refine bH ?_;refine bM ?_ (hS:=fun _ h=>h.aZ.tail.aZ.tail);refine aO 14 ?_;refine fG rfl rfl ?_;dsimp only[List.set];refine cX ?_;refine aO 15 ?_;refine bH ?_;refine cX ?_;refine aO 16 ?_;refine bH ?_;refine cX ?_;refine aO 17 ?_;refine fG rfl rfl ?_;dsimp only[List.set];refine cX ?_;refine fJ ?_
   have hs1:=(hs.set 4 (.slice Ag d.aL.length kg) (by simp[Bl]) (by omega)).set 5 (.slice An d.iX.length kn) (by simp[Bl]) (by simp;omega)
   have vW:=((wF.refl cs (i*6) 6).set 4 (.slice Ag d.aL.length kg) (by decide)).set 5 (.slice An d.iX.length kn) (by decide)
   have hf:=Fz (r':=Bl d ((Ag,kg),(An,kn))) h2 iL iK hlt (by omega) rfl hs1 vW
   rw[show(Sm s da).set i (Bl d ((Ag,kg),(An,kn)))=Sm s (da.set i ((Ag,kg),(An,kn))) from aF0 hd (by omega)] at hf;refine Oo 2 (n:=s.aD.length) (c:=j4) (sz:=6) rfl (by simpa using h1) hf h3 h4 ?_;dsimp only[List.set];refine Gj 0 (Φ:=fun p=>aI p 1 An d.iX.length (aK d.iX)) (hm:=fun p q hl h=>aI.le h hl) rfl (fun p h=>h) ?_;refine Gj 1 (Φ:=fun p=>aI p 2 Ag d.aL.length (d.aL.flatMap Rg.cells)) (hm:=fun p q hl h=>aI.le h hl) rfl (fun p h=>h) ?_;dsimp only[List.set];refine Tg (X:=fun p=>aI p 1 An d.iX.length (aK d.iX)∧aI p 2 Ag d.aL.length (d.aL.flatMap Rg.cells)) (h3:=fun p q hl h=>⟨aI.le h.1 hl,aI.le h.2 hl⟩) (fun p h1 h2=>⟨h1,h2⟩) ?_;refine aY [0,2,3,4,1,5,6,7,8] rfl (by decide) (fun _ h=>h) ?_
   refine Tg (X:=Ef s (da.set i ((Ag,kg),(An,kn))) (i+1)) (h3:=Ef.le) (fun p h1 h2 j d' a' hj hd' yW=>by
    rcases Nat.lt_or_ge j i with h | h
    ·rw[List.getElem?_set_ne (by omega)] at yW;exact h2 j d' a' h hd' yW
    ·obtain rfl:j=i:=by omega
     rw[hd] at hd';cases hd';rw[List.getElem?_set_self (by omega)] at yW;cases yW
     exact⟨h1.2,h1.1⟩) ?_
   refine aA ?_;refine bK [(42,iv (i+1:Nat)),(41,iv s.aD.length),(3,pt g3),(2,pt g2)] ?_;refine aBR (R':=[all w]) (by simp) ?_;exact iC (s.aD.length - (i+1)) (by omega) ⟨i+1,da.set i ((Ag,kg),(An,kn)),hlt,by simpa using jA,fun j hj=>by rw[List.getElem?_set_ne (by omega)];exact aHW j (by omega),rfl,rfl,rfl,rfl⟩
  ·obtain rfl:i=s.aD.length:=by omega
   refine aY [6,7,0,1,2,3,4,5] rfl (by decide) (fun _ h=>h) ?_;refine aA ?_;refine dO [] [2,3,4,5,6,7] [1] (by simp) rfl (by decide) (by decide) fun q hq _ hfr=>?_;obtain⟨F0,s0,z0⟩:=hq 2 _ (by simp) rfl;obtain⟨F1,s1,z1⟩:=hq 3 _ (by simp) rfl
   have e0:Ef s da s.aD.length q:=Ef.le ⟨q.w,F0⟩ q (fun b hb=>⟨z0 b hb,rfl⟩) s0
   have e1:zM s fa s.aF.length q:=zM.le ⟨q.w,F1⟩ q (fun b hb=>⟨z1 b hb,rfl⟩) s1
   have e2:=aI.own (hq 4 _ (by simp) rfl)
   have e3:=aI.own (hq 5 _ (by simp) rfl)
   have e4:=aI.own (hq 6 _ (by simp) rfl)
   have e5:=aI.own (hq 7 _ (by simp) rfl)
   have hS:wH (fF q) s #[.slice C s.aF.length j1,.slice D s.domains.length j2,.slice E s.aT.length j3,.slice V s.aD.length j4]:=
    ⟨C,_,j1,D,_,j2,E,_,j3,V,_,j4,rfl,⟨_,aGG hfl (fun i c a hc ha=>e1 i c a (List.getElem?_eq_some_iff.1 hc).1 hc ha),rfl,e2⟩,⟨rd,hrd,rfl,e4⟩,⟨rr,cE,rfl,e5⟩,⟨_,aGF jA (fun i d p hd hp=>e0 i d p (List.getElem?_eq_some_iff.1 hd).1 hd hp),rfl,e3⟩⟩
   exact Oj (vs:=[.slice C s.aF.length j1,.slice D s.domains.length j2,.slice E s.aT.length j3,.slice V s.aD.length j4]) rfl (by kernel_rfl) rfl rfl (by first | assumption | exact aR.whole 0 rfl | exact aR.whole 1 rfl | exact aR.whole 2 rfl | exact aR.whole 3 rfl | exact aR.whole 4 rfl | exact aR.whole 5 rfl | exact aR.whole 6 rfl | exact aR.whole 7 rfl | exact aR.whole 8 rfl | exact zJ (by simp) (by assumption)) fun w1 t=>⟨⟨_,rfl,_,rfl,hS.mono (nW (t.mH (by simp) (hfr (by simp) (by simp))))⟩,t.below (by simp)⟩
end
section
section
variable{P:Program}{N:cF}{w0 w:World}{K:Act→World→Prop}{e:Env}{R:List Piece}{H H':List HP}
theorem Zp{p : HP}{ps : List HP}(h : XK N w0 K e R (HP.many (ps ++ [p]) :: H)) : XK N w0 K e R (p :: HP.many ps :: H) := fun a w hr st => by
  obtain⟨Z,F,hz,cE,hs,dD,eB⟩:=st.ex;obtain⟨G,hG1,hG2,hG3⟩:=hs 1 _ rfl;refine h a w hr ⟨st.os,st.tape,st.output,st.size,Z,fun j=>match j with | 0=>fun b=>F 0 b∨F 1 b | j+1=>F (j+2),hz,cE,fun j r hj=>?_,fun j b hb=>?_,fun j k b lG hj hk=>?_⟩
  · cases j with
    | zero =>
      simp at hj;subst hj;refine⟨fun i b=>if i < ps.length then G i b else i=ps.length∧F 0 b,fun i r hi=>?_,fun i b hb=>?_,fun i k b hik h1 h2=>?_⟩
      · rcases Nat.lt_or_ge i ps.length with hl | hl
        · rw[List.getElem?_append_left hl] at hi
          show r.sat (fun b=>if i < ps.length then G i b else i=ps.length∧F 0 b) w
          rw[show(fun b=>if i < ps.length then G i b else i=ps.length∧F 0 b)=G i by funext b;rw[if_pos hl]];exact hG1 i r hi
        · rw[List.getElem?_append_right hl] at hi
          have h0:=Az hi
          have hil:i=ps.length:=by simp at h0;omega
          subst hil;simp at hi;subst hi
          show p.sat (fun b=>if ps.length < ps.length then G ps.length b else ps.length=ps.length∧F 0 b) w
          rw[show(fun b=>if ps.length < ps.length then G ps.length b else ps.length=ps.length∧F 0 b)=F 0 by funext b;simp];exact hs 0 _ rfl
      · dsimp only at hb
        split at hb
        · exact .inr (hG2 i b hb)
        · exact .inl hb.2
      · dsimp only at h1 h2
        split at h1<;>split at h2
        · exact hG3 i k b hik h1 h2
        · exact eB 1 0 b (by omega) (hG2 i b h1) h2.2
        · exact eB 0 1 b (by omega) h1.2 (hG2 k b h2)
        · omega
    | succ j=>exact hs (j+2) r (by simpa using hj)
  · cases j with
    | zero=>rcases hb with hb | hb<;>exact dD _ b hb
    | succ j=>exact dD _ b hb
  · cases j with
    | zero => cases k with
      | zero=>exact lG rfl
      | succ k => rcases hj with hj | hj
                  · exact eB 0 (k+2) b (by omega) hj hk
                  · exact eB 1 (k+2) b (by omega) hj hk
    | succ j => cases k with
      | zero => rcases hk with hk | hk
                · exact eB 0 (j+2) b (by omega) hk hj
                · exact eB 1 (j+2) b (by omega) hk hj
      | succ k=>exact eB (j+2) (k+2) b (by omega) hj hk
end
theorem Zo{N:cF}{w0:World}{e:Env}{R:List Piece}{H:List HP}{K:Act→World→Prop}{p q r:HP}(h:XK N w0 K e R (HP.many [p,q,r]::H)):XK N w0 K e R (p::q::r::H):=by
 refine nH ?_;refine fun a w hr st=>?_
 refine(Zp (ps:=[p,q]) (p:=r) h) a w hr (st.weak (fun _ h=>h) (fun i=>match i with
  | 0=>1
  | 1=>0
  | i+2=>i+2) (fun i j _ _ he=>by
   match i,j with
   | 0,0=>rfl
   | 0,1=>simp at he
   | 0,j+2=>simp at he
   | 1,0=>simp at he
   | 1,1=>rfl
   | 1,j+2=>simp at he
   | i+2,0=>simp at he
   | i+2,1=>simp at he
   | i+2,j+2=>simpa using he) (fun i p hi=>by
   match i,hi with
   | 0,hi=>simpa using hi
   | 1,hi=>simpa using hi
   | i+2,hi=>simpa using hi))
end
section
theorem aTA{N:cF}{w0:World}{e:Env}{R:List Piece}{H:List HP}{K:Act→World→Prop}{p q r s:HP}(h:XK N w0 K e R (HP.many [p,q,r,s]::H)):XK N w0 K e R (p::q::r::s::H):=by
 refine nH ?_;refine fun a w hr st=>?_
 have swap:∀{x y:HP} {H:List HP} {w:World},St w0 R (x::y::H) w→St w0 R (y::x::H) w:=fun st=>st.weak (fun _ h=>h) (fun i=>match i with
  | 0=>1
  | 1=>0
  | i+2=>i+2) (fun i j _ _ he=>by
   match i,j with
   | 0,0=>rfl
   | 0,1=>simp at he
   | 0,j+2=>simp at he
   | 1,0=>simp at he
   | 1,1=>rfl
   | 1,j+2=>simp at he
   | i+2,0=>simp at he
   | i+2,1=>simp at he
   | i+2,j+2=>simpa using he) (fun i p hi=>by
   match i,hi with
   | 0,hi=>simpa using hi
   | 1,hi=>simpa using hi
   | i+2,hi=>simpa using hi)
 refine(Zp (ps:=[p,q]) (p:=r) (H:=s::H) (fun a w hr st=>?_)) a w hr (swap st);exact(Zp (ps:=[p,q,r]) (p:=s) h) a w hr (swap st)
def aKC(d:bL)(v:Value)(hs:List HP)(_:Piece):Prop:=∃L:FL,v=.tuple #[.pointer (some ⟨L.f,0,none⟩),iv 0]∧hs=[iF L d (Ga d)]
theorem Ey(l:List Rg):List.replicate l.length (Value.int .u32 0)=nJ (l.map fun _=>0):=by
 refine List.ext_getElem? fun j=>?_;simp only[nJ,List.map_map,List.getElem?_replicate,List.getElem?_map]
 by_cases h:j < l.length
 ·rw[if_pos h,List.getElem?_eq_getElem h];rfl
 ·rw[if_neg h,List.getElem?_eq_none (by omega)];rfl
theorem aMO(d:bL)(hrl:d.aL.length≤8)(cE:∀r∈d.aL,0≤r.reset∧r.reset < 4294967296)(A:Option Addr)(c:Nat)(w:World)(hs:aI (all w) 2 A d.aL.length (d.aL.flatMap Rg.cells)):
  Cz 71 #[.slice A d.aL.length c] w (fun y w'=>(∃v hs q,y=.returned v∧q.w=w'∧aKC d v hs q∧kA w hs q)∧Below w.heap.size w w'):=by
 refine aN func71 ntmps71 ?_;refine cP ?_;refine eA ?_;refine bH ?_;refine bH ?_;refine dN ?_;refine cP ?_;refine cP ?_;refine eA ?_;refine bH ?_;refine bH ?_;refine bH ?_;refine aB ?_;refine aG rfl (fun h=>absurd h (by omega)) (fun _=>?_);refine lX ?_;refine dV ?_;refine Tj (fun e R H=>∃B j gn gs g3,e=[(4,pt g3)]∧R=[all w]∧H=[HP.aE g3 298 [.slice B d.aL.length j,.slice (some ⟨gn,0,none⟩) d.aL.length d.aL.length,.slice (some ⟨gs,0,none⟩) d.aL.length d.aL.length,.bool false],HP.aE gn 23 (nJ (d.aL.map fun _=>0)),HP.aE gs 23 (nJ (d.aL.map fun _=>0)),HP.own 48 2 (.slice B d.aL.length j) d.aL.length (d.aL.flatMap Rg.cells)]) ?_ ?_
 ·refine rF 8 (by kernel_rfl) (by kernel_rfl) ?_;refine bB 0 ?_;refine bB 2 ?_;refine bB 3 ?_;refine bB 5 ?_;refine bB 6 ?_;refine aUa 1 4 7 rfl rfl rfl (by kernel_rfl) ?_ ?_ ?_
  ·skip
   refine iY (Tz d.aL.length (d.aL.flatMap Rg.cells)) (fun w1 st=>Yv A _ c _ w1 (hs.le (st.le (by simp))) Qf (by omega)) ?_;rintro _ _ q ⟨B,j,rfl,rfl⟩ _;dsimp only[List.cons_append,List.nil_append];refine nT ?_ (hS:=(fun _ h=>h.aZ.tail));refine Li 4 7 rfl rfl (by kernel_rfl) ?_ ?_
   ·skip
    refine mA (n:=d.aL.length) 4 (el:=23) (z:=.int .u32 0) (by kernel_rfl) (by kernel_rfl) rfl rfl rfl (by omega) (by omega) (by decide) fun gn=>?_;rw[Ey d.aL];refine nT ?_ (hS:=(fun _ h=>h.tail.aZ.tail));refine cG 7 ?_;refine mA (n:=d.aL.length) 4 (el:=23) (z:=.int .u32 0) (by kernel_rfl) (by kernel_rfl) rfl rfl rfl (by omega) (by omega) (by decide) fun gs=>?_;rw[Ey d.aL];refine nT ?_ (hS:=(fun _ h=>h.tail.tail.aZ.tail));refine cG 8 ?_;refine kd (gA rfl) ?_;refine fA ?_;refine cG 9 ?_;refine bA fun g3=>?_;refine fA ?_;refine cG 10 ?_;refine bH ?_;refine fA ?_;refine kG ?_;refine dV ?_;exact pG ⟨B,j,gn,gs,g3,rfl,rfl,rfl⟩
   ·skip
    refine mA (n:=d.aL.length) 4 (el:=23) (z:=.int .u32 0) (by kernel_rfl) (by kernel_rfl) rfl rfl rfl (by omega) (by omega) (by decide) fun gs=>?_;rw[Ey d.aL];refine nT ?_ (hS:=(fun _ h=>h.tail.aZ.tail));refine cG 4 ?_;refine mA (n:=d.aL.length) 4 (el:=23) (z:=.int .u32 0) (by kernel_rfl) (by kernel_rfl) rfl rfl rfl (by omega) (by omega) (by decide) fun gn=>?_;rw[Ey d.aL];refine nT ?_ (hS:=(fun _ h=>h.tail.tail.aZ.tail));refine cG 8 ?_;refine kd (gA rfl) ?_;refine fA ?_;refine cG 9 ?_;refine bA fun g3=>?_;refine fA ?_;refine cG 10 ?_;refine bH ?_;refine fA ?_;refine kG ?_;refine dV ?_;exact pG ⟨B,j,gn,gs,g3,rfl,rfl,rfl⟩
  ·skip
   refine mA (n:=d.aL.length) 4 (el:=23) (z:=.int .u32 0) (by kernel_rfl) (by kernel_rfl) rfl rfl rfl (by omega) (by omega) (by decide) fun gn=>?_;rw[Ey d.aL];refine nT ?_ (hS:=(fun _ h=>h.tail));refine Li 1 7 rfl rfl (by kernel_rfl) ?_ ?_
   ·skip
    refine iY (Tz d.aL.length (d.aL.flatMap Rg.cells)) (fun w1 st=>Yv A _ c _ w1 (hs.le (st.le (by simp))) Qf (by omega)) ?_;rintro _ _ q ⟨B,j,rfl,rfl⟩ _;dsimp only[List.cons_append,List.nil_append];refine nT ?_ (hS:=(fun _ h=>h.aZ.tail.tail));refine cG 7 ?_;refine mA (n:=d.aL.length) 4 (el:=23) (z:=.int .u32 0) (by kernel_rfl) (by kernel_rfl) rfl rfl rfl (by omega) (by omega) (by decide) fun gs=>?_;rw[Ey d.aL];refine nT ?_ (hS:=(fun _ h=>h.tail.aZ.tail.tail));refine cG 8 ?_;refine kd (gA rfl) ?_;refine fA ?_;refine cG 9 ?_;refine bA fun g3=>?_;refine fA ?_;refine cG 10 ?_;refine bH ?_;refine fA ?_;refine kG ?_;refine dV ?_;exact pG ⟨B,j,gn,gs,g3,rfl,rfl,rfl⟩
   ·skip
    refine mA (n:=d.aL.length) 4 (el:=23) (z:=.int .u32 0) (by kernel_rfl) (by kernel_rfl) rfl rfl rfl (by omega) (by omega) (by decide) fun gs=>?_;rw[Ey d.aL];refine nT ?_ (hS:=(fun _ h=>h.tail.tail));refine cG 1 ?_;refine iY (Tz d.aL.length (d.aL.flatMap Rg.cells)) (fun w1 st=>Yv A _ c _ w1 (hs.le (st.le (by simp))) Qf (by omega)) ?_;rintro _ _ q ⟨B,j,rfl,rfl⟩ _;dsimp only[List.cons_append,List.nil_append];refine nT ?_ (hS:=(fun _ h=>h.aZ.tail.tail.tail));refine cG 8 ?_;refine kd (gA rfl) ?_;refine fA ?_;refine cG 9 ?_;refine bA fun g3=>?_;refine fA ?_;refine cG 10 ?_;refine bH ?_;refine fA ?_;refine kG ?_;refine dV ?_;exact pG ⟨B,j,gn,gs,g3,rfl,rfl,rfl⟩
  ·skip
   refine mA (n:=d.aL.length) 4 (el:=23) (z:=.int .u32 0) (by kernel_rfl) (by kernel_rfl) rfl rfl rfl (by omega) (by omega) (by decide) fun gs=>?_;rw[Ey d.aL];refine nT ?_ (hS:=(fun _ h=>h.tail));refine Li 1 4 rfl rfl (by kernel_rfl) ?_ ?_
   ·skip
    refine iY (Tz d.aL.length (d.aL.flatMap Rg.cells)) (fun w1 st=>Yv A _ c _ w1 (hs.le (st.le (by simp))) Qf (by omega)) ?_;rintro _ _ q ⟨B,j,rfl,rfl⟩ _;dsimp only[List.cons_append,List.nil_append];refine nT ?_ (hS:=(fun _ h=>h.aZ.tail.tail));refine cG 4 ?_;refine mA (n:=d.aL.length) 4 (el:=23) (z:=.int .u32 0) (by kernel_rfl) (by kernel_rfl) rfl rfl rfl (by omega) (by omega) (by decide) fun gn=>?_;rw[Ey d.aL];refine nT ?_ (hS:=(fun _ h=>h.tail.aZ.tail.tail));refine cG 8 ?_;refine kd (gA rfl) ?_;refine fA ?_;refine cG 9 ?_;refine bA fun g3=>?_;refine fA ?_;refine cG 10 ?_;refine bH ?_;refine fA ?_;refine kG ?_;refine dV ?_;exact pG ⟨B,j,gn,gs,g3,rfl,rfl,rfl⟩
   ·skip
    refine mA (n:=d.aL.length) 4 (el:=23) (z:=.int .u32 0) (by kernel_rfl) (by kernel_rfl) rfl rfl rfl (by omega) (by omega) (by decide) fun gn=>?_;rw[Ey d.aL];refine nT ?_ (hS:=(fun _ h=>h.tail.tail));refine cG 1 ?_;refine iY (Tz d.aL.length (d.aL.flatMap Rg.cells)) (fun w1 st=>Yv A _ c _ w1 (hs.le (st.le (by simp))) Qf (by omega)) ?_;rintro _ _ q ⟨B,j,rfl,rfl⟩ _;dsimp only[List.cons_append,List.nil_append];refine nT ?_ (hS:=(fun _ h=>h.aZ.tail.tail.tail));refine cG 8 ?_;refine kd (gA rfl) ?_;refine fA ?_;refine cG 9 ?_;refine bA fun g3=>?_;refine fA ?_;refine cG 10 ?_;refine bH ?_;refine fA ?_;refine kG ?_;refine dV ?_;exact pG ⟨B,j,gn,gs,g3,rfl,rfl,rfl⟩
 rintro _ _ _ ⟨B,j,gn,gs,g3,rfl,rfl,rfl⟩;refine Gj 3 (Φ:=uE d B) (hm:=uE.le (d:=d) (A:=B)) rfl (fun p h=>h) ?_;dsimp only[List.set];refine aTA ?_;refine aB ?_
 refine dZ 0 (iF ⟨g3,gn,gs,B,j⟩ d (tF d ⟨d.aL.map fun _=>0,d.aL.map fun _=>0,false⟩)) (fun w1 G t hG yQ hle=>aAF ⟨g3,gn,gs,B,j⟩ d ⟨d.aL.map fun _=>0,d.aL.map fun _=>0,false⟩ (by omega) ⟨by simp,by simp,fun v hv=>by
  obtain⟨r,hr,rfl⟩:=List.mem_map.1 hv;decide,fun v hv=>by
  obtain⟨r,hr,rfl⟩:=List.mem_map.1 hv
  decide⟩ w1 G hG yQ) ?_
 refine aB ?_;refine dO [] [] [0] (by simp) rfl (by decide) (by decide) fun q _ _ hfr=>?_;exact eL rfl rfl rfl fun w1 t=>⟨⟨_,_,⟨w1,q.Z⟩,rfl,rfl,⟨⟨g3,gn,gs,B,j⟩,rfl,rfl⟩,t.newR (by simp) (by simp) (hfr (by simp) (by simp))⟩,t.below (by simp)⟩
theorem aNu(w:World):
  Cz 73 #[] w (fun y w'=>(∃v hs q,y=.returned v∧q.w=w'∧(∃g,v=pt g∧hs=[HP.aE g 266 [iv 0,iv 0]])∧kA w hs q)∧Below w.heap.size w w'):=by
 refine aN func73 ntmps73 ?_;refine aA ?_;refine kd (gA rfl) ?_;refine bA fun g=>?_;refine aA ?_;refine dO [] [] [0] (by simp) rfl (by decide) (by decide) fun q _ _ hfr=>?_;exact aS (h:=fun w1 t=>⟨_,_,⟨w1,q.Z⟩,rfl,rfl,⟨g,rfl,rfl⟩,t.newR (by simp) (by simp) (hfr (by simp) (by simp))⟩)
end
section
def Tv(x:dB):List Value:=[iv x.at_,iv x.denied]
def vD(g:Nat)(x:dB):HP:=HP.aE g 266 (Tv x)
def Tx(w:World):Prop:=∀i v,[(114:Int),97,115,100][i]? =some v→fR w 0 i (.int .u8 v)
theorem Tx.below{w w':World}(h:Tx w)(hb:Below w.heap.size w w'):Tx w':=fun i v hv=>
 ⟨Nat.lt_of_lt_of_le (h i v hv).1 hb.size,(hb.cell (p:=⟨0,i,none⟩) (h i v hv).1).trans (h i v hv).2⟩
theorem aHb(g:Nat)(x:dB)(hx:Cc x)(w:World)(hL:Tx w)(hR:eG w g 0 (Tv x)):
  Cz 224 #[pt g] w (Rt (.int .u8 (qH x.at_)) w):=by
 have k0:=hR.at_ (j:=0) rfl
 obtain⟨h1,h2⟩:=hx;obtain⟨i,hi⟩:∃i:Nat,x.at_=i:=⟨x.at_.toNat,by omega⟩
 have hv:[(114:Int),97,115,100][i]? =some (qH x.at_):=by
  have:i=0∨i=1∨i=2∨i=3:=by omega
  rcases this with rfl | rfl | rfl | rfl<;>rw[hi]<;>rfl
 have k1:=hL i _ hv
 have hlt:i < 4:=by omega
 rw[hi] at k0 k1⊢;refine aN func224 ntmps224 ?_;refine aA ?_;refine kd (gN i i) ?_;refine aA ?_;exact dG
section
variable{g:Nat}{x:dB}{w:World}{F:Nat→Prop}
theorem aNx(hp:(vD g x).sat F w)(hF:∀b,F b→b < w.heap.size):
  Cz 240 #[pt g] w (Wr (iv (sI x).1) (vD g (sI x).2) w F):=by
 refine dK func240 ntmps240 hp hF ?_;dsimp only[vD,Tv];refine aA ?_;refine aG rfl (fun h=>?_) (fun h=>?_)
 ·have hr:sI x=(6,x):=if_pos (by simpa using h)
  rw[hr];refine aA ?_;exact cI 0 hF
 ·have hr:sI x=(0,⟨1,x.denied⟩):=if_neg (by simpa using h)
  rw[hr];refine aA ?_;exact cI 0 hF
theorem aNw(hp:(vD g x).sat F w)(hF:∀b,F b→b < w.heap.size):
  Cz 225 #[pt g] w (Wr (iv (nO x).1) (vD g (nO x).2) w F):=by
 refine dK func225 ntmps225 hp hF ?_;dsimp only[vD,Tv];refine aA ?_;refine bX (t:=11) rfl (fun h2=>?_) (fun h2=>?_)
 ·refine aA ?_;refine aG rfl (fun h=>?_) (fun h=>?_)
  ·have hr:nO x=(6,x):=if_pos ⟨by simpa using h2,by simpa using h⟩
   rw[hr];refine aA ?_;exact cI 0 hF
  ·have hr:nO x=(0,⟨0,x.denied⟩):=if_neg fun h3=>h3.2 (by simpa using h)
   rw[hr];refine aA ?_;exact cI 0 hF
 ·have hr:nO x=(0,⟨0,x.denied⟩):=if_neg fun h3=>h3.1 (by simpa using h2)
  rw[hr];refine aA ?_;exact cI 0 hF
theorem aNv(Oe cJ:Bool)(hp:(vD g x).sat F w)(hF:∀b,F b→b < w.heap.size):
  Cz 56 #[pt g,.bool Oe,.bool cJ] w (Wr (.tuple #[]) (vD g (sP x Oe cJ)) w F):=by
 refine dK func56 ntmps56 hp hF ?_;dsimp only[vD,Tv];refine aA ?_;refine aG rfl (fun h=>?_) (fun h=>?_)
 ·have hr:sP x Oe cJ=x:=if_pos (by simpa using h)
  rw[hr];refine aA ?_;exact jZ 0 hF
 ·have h1:¬x.at_≠1:=by simpa using h
  cases cJ
  ·cases Oe
   ·have hr:sP x false false=⟨2,0⟩:=(if_neg h1).trans ((if_neg (by decide)).trans (if_neg (by decide)))
    rw[hr];refine aA ?_;exact jZ 0 hF
   ·have hr:sP x true false=x:=(if_neg h1).trans ((if_neg (by decide)).trans (if_pos rfl))
    rw[hr];refine aA ?_;exact jZ 0 hF
  ·have hr:sP x Oe true=⟨3,IntKind.i64.wrap (x.denied+1)⟩:=(if_neg h1).trans (if_pos rfl)
   rw[hr];refine aA ?_;refine zU rfl rfl rfl (by decide) ?_;refine aA ?_;exact jZ 0 hF
end
end
section
structure TL where
 t:Nat
 A:Option Addr
 c:Nat
 fa:List (Option Addr×Nat)
def sV(c:eD)(a:Option Addr×Nat)(x:eP):List Value:=[.int .u8 c.kind,.slice a.1 c.src.length a.2,.int .u64 c.rate,iv c.mul,iv c.div,iv c.lock,.bool x.on,iv x.left,iv 0,iv 0,iv (byF c)]
def kJ(s:aC)(fa:List (Option Addr×Nat))(st:List eP):List (List Value):=List.zipWith (fun c p=>sV c p.1 p.2) s.aF (fa.zip st)
structure xN(w:World)(L:TL)(s:aC)(st:List eP):Prop where
 r0:fR w L.t 0 (.slice L.A s.aF.length L.c)
 row:aI (all w) 11 L.A s.aF.length (kJ s L.fa st).flatten
 tC:∀(i:Nat) (c:eD) (a:Option Addr×Nat),s.aF[i]? =some c→L.fa[i]? =some a→aI (all w) 1 a.1 c.src.length (aK c.src)
 fl:L.fa.length=s.aF.length
 ok:qS s st
theorem xN.below{w w':World}{L:TL}{s:aC}{st:List eP}(h:xN w L s st)(hb:Below w.heap.size w w'):xN w' L s st:=
 ⟨⟨Nat.lt_of_lt_of_le h.r0.1 hb.size,(hb.cell (p:=⟨_,0,none⟩) h.r0.1).trans h.r0.2⟩,h.row.le (jS hb),fun i c a hc ha=>(h.tC i c a hc ha).le (jS hb),h.fl,h.ok⟩
theorem xN.node{w:World}{L:TL}{s:aC}{st:List eP}(h:xN w L s st){i:Nat}(hi:i < s.aF.length):
  ∃b off c a x,s.aF[i]? =some c∧st[i]? =some x∧L.A=some ⟨b,off,none⟩∧eG w b (off+i*11) (sV c a x)∧aI (all w) 1 a.1 c.src.length (aK c.src):=by
 obtain⟨c,hc⟩:=get_some hi;obtain⟨a,ha⟩:=get_some (l:=L.fa) (i:=i) (by rw[h.fl];exact hi);obtain⟨x,hx⟩:=get_some (l:=st) (i:=i) (by rw[h.ok.len];exact hi)
 have hr:(kJ s L.fa st)[i]? =some (sV c a x):=by
  rw[kJ,List.getElem?_zipWith,hc,(List.getElem?_zip_eq_some (z:=(a,x))).2 ⟨ha,hx⟩]
 obtain⟨b,off,hA,hro⟩:=aI.row h.row (fun r hr=>by
  obtain⟨j,hj⟩:=List.getElem?_of_mem hr;rw[kJ,List.getElem?_zipWith] at hj;split at hj<;>cases hj
  rfl) hr hi
 exact⟨b,off,c,a,x,hc,hx,hA,hro,h.tC i c a hc ha⟩
def uH(s:aC)(fa:List (Option Addr×Nat))(p:Piece):Prop:=∀(i:Nat) (c:eD) (a:Option Addr×Nat),s.aF[i]? =some c→fa[i]? =some a→aI p 1 a.1 c.src.length (aK c.src)
theorem uH.le{s:aC}{fa:List (Option Addr×Nat)}(p q:Piece)(hl:p.Le q)(h:uH s fa p):uH s fa q:=fun i c a hc ha=>(h i c a hc ha).le hl
def rI(L:TL)(s:aC)(st:List eP):HP:=HP.many [HP.aE L.t 227 [.slice L.A s.aF.length L.c],HP.own 224 11 (.slice L.A s.aF.length L.c) s.aF.length (kJ s L.fa st).flatten,HP.bY (uH s L.fa) (uH.le (s:=s) (fa:=L.fa))]
theorem aKj{L:TL}{s:aC}{st:List eP}{F:Nat→Prop}{w:World}(h:(rI L s st).sat F w)(hF:∀b,F b→b < w.heap.size)(hfl:L.fa.length=s.aF.length)(hok:qS s st):xN w L s st:=by
 obtain⟨G,g1,g2,_⟩:=h
 have h0:=g1 0 _ rfl
 have h1:=g1 1 _ rfl
 have h2:=g1 2 _ rfl
 have hl:∀i b,G i b→b < w.heap.size:=fun i b hb=>hF b (g2 i b hb)
 obtain⟨A',c',he,hs⟩:=vC (Y:=fun b=>b < w.heap.size) h1 (hl 1)
 injection he with he
 subst he;exact⟨⟨h0.2.lt,by rw[h0.2.cell];rfl⟩,hs,fun i c a hc ha=>(h2 i c a hc ha).le (fun b hb=>⟨hl 2 b hb,rfl⟩),hfl,hok⟩
theorem aJt(t n c b off i:Nat)(w:World)(h0:fR w t 0 (.slice (some ⟨b,off,none⟩) n c))(hi:i < n):
  Cz 88 #[pt t,iv (i:Int)] w (Rt (.pointer (some ⟨b,off+i*11,none⟩)) w):=by
 refine aN func88 ntmps88 ?_;refine aA ?_;refine bX (t:=11) rfl (fun h=>absurd h (by omega)) (fun _=>?_);refine aA ?_;refine aG rfl (fun h=>absurd h (by omega)) (fun _=>?_);refine aA ?_;refine kd (dat i (off+i*11)) ?_;refine aA ?_;exact dG
theorem aJs(t n c:Nat)(A:Option Addr)(i:Int)(w:World)(h0:fR w t 0 (.slice A n c))(hi:bO n i=false):
  Cz 88 #[pt t,iv i] w (Rt (.pointer none) w):=by
 have hi:=of_decide_eq_false hi
 refine aN func88 ntmps88 ?_;refine aA ?_;refine bX (t:=11) rfl (fun h=>?_) (fun h=>?_)
 ·refine aA ?_;exact dG
 ·refine aA ?_;refine aG rfl (fun h=>?_) (fun h=>absurd hi (by omega));refine aA ?_;exact dG
theorem Ss(L:TL)(s:aC)(st:List eP)(i f:Nat)(c:eD)(fs:List Int)(w:World)(hR:xN w L s st)(hi:s.aF[i]? =some c)(hf:c.src=(f:Int)::fs):
  Cz 90 #[.pointer (some ⟨L.t,0,none⟩),iv (i:Int)] w (Rt (iv (f:Int)) w):=by
 have hlt:i < s.aF.length:=(List.getElem?_eq_some_iff.1 hi).1
 obtain⟨b,off,c',a,x,hc,hx,hA,hro,hs⟩:=hR.node hlt;obtain rfl:c=c':=by rw[hi] at hc;exact Option.some.inj hc
 have h0:=hR.r0
 rw[hA] at h0
 have h1:=hro.at_ (j:=1) rfl
 have h8:=hro.at_ (j:=8) rfl
 rw[hf] at h1 hs;obtain⟨b2,o2,hA2,oP,oB⟩:=hs.2 (by simp);rw[hA2] at h1
 have h2:fR w b2 o2 (iv (f:Int)):=⟨oP,oB 0 _ rfl⟩
 refine aN func90 ntmps90 ?_;refine aA ?_;refine kd (dat i (off+i*11)) ?_;refine aA ?_;refine mK ?_;refine jB ?_;refine xK (dat 0 o2 (hlt:=by simp)) ?_;refine jC ?_;refine aA ?_;exact dG
theorem aSw(L:TL)(s:aC)(st:List eP)(hH:s.dJ)(b1 b2:Nat):∀(i:Nat),i < s.aF.length→∀w,xN w L s st→fR w b1 0 (.pointer (some ⟨L.t,0,none⟩))→fR w b2 0 (.func (.func 89) #[] #[pt b1,pt b2])→
  Cz 89 #[iv (i:Int),pt b1,pt b2] w (Rt (.bool (runs s st i)) w):=by
 intro i
 induction i using Nat.strongRecOn with
 | _ i ih =>
  intro hlt w hR Ht eY;obtain⟨b,off,c,a,x,hc,hx,hA,hro,hs⟩:=hR.node hlt
  have hrun:=aGz hH.t.aF hc hx
  have h0:=hR.r0
  rw[hA] at h0
  have k0:=hro.at_ (j:=0) rfl
  have k6:=hro.at_ (j:=6) rfl
  have k7:=hro.at_ (j:=7) rfl
  have Ry:∀{w1},Below w.heap.size w w1→fR w1 b1 0 (.pointer (some ⟨L.t,0,none⟩)):=fun hb=>⟨Nat.lt_of_lt_of_le Ht.1 hb.size,(hb.cell (p:=⟨_,0,none⟩) Ht.1).trans Ht.2⟩
  have go2:∀{w1},Below w.heap.size w w1→fR w1 b2 0 (.func (.func 89) #[] #[pt b1,pt b2]):=fun hb=>⟨Nat.lt_of_lt_of_le eY.1 hb.size,(hb.cell (p:=⟨_,0,none⟩) eY.1).trans eY.2⟩
  obtain⟨hsrc,hfit⟩:=hH.t.aF i c hc;refine aN func89 ntmps89 ?_;refine aA ?_;refine kd (dat i (off+i*11)) ?_;rcases hfit with⟨hk,hs0,_⟩ | hfit
  ·rw[hk] at k0;refine aA ?_;refine jT (by simp) ?_;rw[hrun,hs0];simp[rP,hk]
  obtain⟨f,fs,hf⟩:∃(f:Nat) (fs:List Int),c.src=(f:Int)::fs:=by
   cases hs0:c.src with
   | nil=>rw[hs0] at hfit;simp at hfit
   | cons f fs=>exact⟨f.toNat,fs,by have:=(hsrc f (by rw[hs0];simp)).1;rw[Int.toNat_of_nonneg this]⟩
  have Nb:f < i:=by have:=(hsrc f (by rw[hf];simp)).2;omega
  have Mt:runs s st i=(rP c x&&runs s st f):=by rw[hrun,hf];rfl
  clear hrun;rcases hfit with⟨hk,_⟩ | ⟨hk,_⟩ | ⟨hk,_⟩ | ⟨hk,_⟩
  ·rw[hk] at k0;cases sB:x.on
   ·rw[sB] at k6;refine aA ?_;refine mK ?_;refine jC ?_;refine aA ?_;refine jT (by simp) ?_;rw[Mt];simp[rP,hk,sB]
   ·rw[sB] at k6;refine aA ?_;refine mK ?_;refine jB ?_;refine Og 32 rfl (fun h=>?_) (fun h=>?_)
    ·refine jB ?_;refine uA (fun w1 mM=>Ss L s st i f c fs w1 (hR.below (mM.below (by simp))) hc hf) ?_;refine jB ?_;refine Iq (fi:=[]) (vs:=[iv (f:Int)]) (ca:=[pt b1,pt b2]) (fun w1 mM=>ih f Nb (by omega) w1 (hR.below (mM.below (by simp))) (Ry (mM.below (by simp))) (go2 (mM.below (by simp)))) ?_;refine jC ?_;refine aA ?_;refine jT (by simp) ?_;rw[Mt];simp[rP,hk,sB,h]
    ·refine jC ?_;refine aA ?_;refine jT (by simp) ?_;rw[Mt];simp[rP,hk,sB,h]
  ·rw[hk] at k0;refine aA ?_;refine mK ?_;refine jB ?_;refine uA (fun w1 mM=>Ss L s st i f c fs w1 (hR.below (mM.below (by simp))) hc hf) ?_;refine Iq (fi:=[]) (vs:=[iv (f:Int)]) (ca:=[pt b1,pt b2]) (fun w1 mM=>ih f Nb (by omega) w1 (hR.below (mM.below (by simp))) (Ry (mM.below (by simp))) (go2 (mM.below (by simp)))) ?_;refine jC ?_;refine aA ?_;refine jT (by simp) ?_;rw[Mt];simp[rP,hk]
  ·rw[hk] at k0;cases sB:x.on
   ·rw[sB] at k6;refine aA ?_;refine mK ?_;refine jC ?_;refine aA ?_;refine jT (by simp) ?_;rw[Mt];simp[rP,hk,sB]
   ·rw[sB] at k6;refine aA ?_;refine mK ?_;refine jB ?_;refine uA (fun w1 mM=>Ss L s st i f c fs w1 (hR.below (mM.below (by simp))) hc hf) ?_;refine jB ?_;refine Iq (fi:=[]) (vs:=[iv (f:Int)]) (ca:=[pt b1,pt b2]) (fun w1 mM=>ih f Nb (by omega) w1 (hR.below (mM.below (by simp))) (Ry (mM.below (by simp))) (go2 (mM.below (by simp)))) ?_;refine jC ?_;refine aA ?_;refine jT (by simp) ?_;rw[Mt];simp[rP,hk,sB]
  ·rw[hk] at k0;refine aA ?_;refine mK ?_;refine jB ?_;refine uA (fun w1 mM=>Ss L s st i f c fs w1 (hR.below (mM.below (by simp))) hc hf) ?_;refine Iq (fi:=[]) (vs:=[iv (f:Int)]) (ca:=[pt b1,pt b2]) (fun w1 mM=>ih f Nb (by omega) w1 (hR.below (mM.below (by simp))) (Ry (mM.below (by simp))) (go2 (mM.below (by simp)))) ?_;refine jC ?_;refine aA ?_;refine jT (by simp) ?_;rw[Mt];simp[rP,hk]
end
section
section
variable{N:cF}{w0 w:World}{e:Env}{R:List Piece}{H:List HP}{K:Act→World→Prop}{L:TL}{s:aC}{st:List eP}
theorem St.aCF(t:St w0 R H w)(i:Nat)(hi:H[i]? =some (rI L s st))(hfl:L.fa.length=s.aF.length)(hok:qS s st):xN w L s st:=by
 obtain⟨F,h1,h2,_⟩:=t.chunk hi;exact aKj h1 h2 hfl hok
theorem Rd.tree(i:Nat)(hi:H[i]? =some (rI L s st))(hfl:L.fa.length=s.aF.length)(hok:qS s st):Rd w0 R H L.t 0 (.slice L.A s.aF.length L.c):=fun w t=>(t.aCF i hi hfl hok).r0.2
theorem aDl(hfl:L.fa.length=s.aF.length)(hok:qS s st):(kJ s L.fa st).length=s.aF.length∧∀r∈kJ s L.fa st,r.length=11:=by
 have:=hok.len
 refine⟨by simp[kJ];omega,fun r hr=>?_⟩;obtain⟨j,hj⟩:=List.getElem?_of_mem hr;rw[kJ,List.getElem?_zipWith] at hj;split at hj<;>cases hj
 rfl
theorem Qj{i:Nat}{c:eD}{a:Option Addr×Nat}{x:eP}(hc:s.aF[i]? =some c)(ha:L.fa[i]? =some a)(hx:st[i]? =some x):(kJ s L.fa st)[i]? =some (sV c a x):=by
 rw[kJ,List.getElem?_zipWith,hc,(List.getElem?_zip_eq_some (z:=(a,x))).2 ⟨ha,hx⟩]
theorem aHt{i:Nat}{c:eD}{a:Option Addr×Nat}{x:eP}(hc:s.aF[i]? =some c)(ha:L.fa[i]? =some a)(hi:i < st.length):(kJ s L.fa st).set i (sV c a x)=kJ s L.fa (st.set i x):=by
 refine List.ext_getElem? fun j=>?_;rw[List.getElem?_set]
 by_cases he:i=j
 ·subst he;rw[if_pos rfl,Qj hc ha (x:=x) (by rw[List.getElem?_set_self hi])];rw[if_pos]
  have h1:=(List.getElem?_eq_some_iff.1 hc).1
  have h2:=(List.getElem?_eq_some_iff.1 ha).1
  simp[kJ];omega
 ·rw[if_neg he,kJ,kJ,List.getElem?_zipWith,List.getElem?_zipWith]
  have hz:(L.fa.zip st)[j]? =(L.fa.zip (st.set i x))[j]? :=by
   rw[List.zip_eq_zipWith,List.zip_eq_zipWith,List.getElem?_zipWith,List.getElem?_zipWith,List.getElem?_set_ne he]
  rw[hz]
theorem St.aLv{g:Nat}{cs:List Value}(t:St w0 R H w)(i j:Nat)(hi:H[i]? =some (HP.aE g 224 cs))(hj:H[j]? =some (HP.many [HP.aE L.t 227 [.slice (some ⟨g,0,none⟩) s.aF.length L.c],cH,HP.bY (uH s L.fa) (uH.le (s:=s) (fa:=L.fa))]))(hA:L.A=some ⟨g,0,none⟩)(h2:cs.take (s.aF.length*11)=(kJ s L.fa st).flatten)(hfl:L.fa.length=s.aF.length)(hok:qS s st):xN w L s st:=by
 obtain⟨iL,iK⟩:=aDl hfl hok
 have hb:=t.aE hi
 obtain⟨F,⟨G,g1,g2,_⟩,hlt,_⟩:=t.chunk hj
 have h0:=g1 0 _ rfl
 have aPv:=g1 2 _ rfl
 refine⟨⟨h0.2.lt,by rw[h0.2.cell,hA];rfl⟩,⟨by rw[aCR _ iK,iL],fun _=>⟨g,0,hA,hb.lt,fun k u hu=>?_⟩⟩,fun k c a hc ha=>(aPv k c a hc ha).le (fun b hbG=>⟨hlt b (g2 2 b hbG),rfl⟩),hfl,hok⟩;rw[←h2] at hu;rw[Nat.zero_add]
 show w.cell? _=_
 rw[hb.cell]
 have hk:k < s.aF.length*11:=by
  rcases Nat.lt_or_ge k (s.aF.length*11) with h | h
  ·exact h
  ·rw[List.getElem?_eq_none (by rw[List.length_take];omega)] at hu;cases hu
 rw[List.getElem?_take_of_lt hk] at hu
 simpa using hu
theorem aJZ(i:Nat)(hi:H[i]? =some (rI L s st))(hn:0 < s.aF.length)(h:∀g cs,L.A=some ⟨g,0,none⟩→cs.length=L.c*11→cs.take (s.aF.length*11)=(kJ s L.fa st).flatten→s.aF.length≤L.c→L.c≤maxLen→
  XK N w0 K e R (HP.aE g 224 cs::H.set i (HP.many [HP.aE L.t 227 [.slice L.A s.aF.length L.c],cH,HP.bY (uH s L.fa) (uH.le (s:=s) (fa:=L.fa))]))):XK N w0 K e R H:=by
 refine tG i 1 hi rfl ?_;refine aBV 0 rfl hn fun g hA=>?_;dsimp only[List.set];rw[hA];refine Ta 0 rfl fun cs h1 h2 h3 h4=>?_
 have:=h g cs hA h1 h2 h3 h4
 rw[hA] at this;exact this
theorem Bt(i:Nat){g:Nat}{cs:List Value}{st':List eP}(hA:L.A=some ⟨g,0,none⟩)(h1:cs.length=L.c*11)(h2:cs.take (s.aF.length*11)=(kJ s L.fa st').flatten)(h3:s.aF.length≤L.c)(h4:L.c≤maxLen)
  (hi:H[i]? =some (HP.many [HP.aE L.t 227 [.slice (some ⟨g,0,none⟩) s.aF.length L.c],cH,HP.bY (uH s L.fa) (uH.le (s:=s) (fa:=L.fa))]))
  (h:XK N w0 K e R (H.set i (rI L s st'))):XK N w0 K e R (HP.aE g 224 cs::H):=by
 refine Oo 0 (n:=s.aF.length) (c:=L.c) (sz:=11) rfl h1 h2 h3 h4 ?_;dsimp only[List.set];rw[←hA] at hi⊢;exact tH i 1 hi rfl h
end
theorem Yw(L:TL)(s:aC)(st:List eP)(hH:s.dJ)(i:Int)(w:World)(hR:xN w L s st):
  Cz 41 #[.pointer (some ⟨L.t,0,none⟩),iv i] w (Rt (.bool (qC s st i)) w):=by
 cases hi:bO s.aF.length i
 ·refine aN func41 ntmps41 ?_;refine aA ?_;refine bA fun g1=>?_;refine aA ?_;refine aU (fun w1 t=>aJs L.t s.aF.length L.c L.A i w1 ((hR.below (t.below (by simp))).r0) hi) ?_;refine aA ?_;refine jT (by simp) ?_;simp[qC,hi]
 ·obtain⟨n,rfl⟩:∃n:Nat,i=n:=⟨i.toNat,by have:=of_decide_eq_true hi;omega⟩
  have hlt:n < s.aF.length:=by have:=of_decide_eq_true hi;omega
  obtain⟨b,off,c,a,x,hc,hx,hA,_⟩:=hR.node hlt;refine aN func41 ntmps41 ?_;refine aA ?_;refine bA fun g1=>?_;refine aA ?_;refine aU (fun w1 t=>aJt L.t s.aF.length L.c b off n w1 (by rw[←hA];exact(hR.below (t.below (by simp))).r0) hlt) ?_;refine aA ?_;refine bU fun g2=>?_;refine aA ?_;refine kO (vf:=[]) (vc:=[pt g1,pt g2]) rfl rfl (by decide) ?_;refine aA ?_;refine aAZ (fi:=[]) (vs:=[iv (n:Int)]) (ca:=[pt g1,pt g2]) (fun w1 t=>aSw L s st hH g1 g2 n hlt w1 (hR.below (t.below (by simp))) ((t.box (i:=1) rfl).at_ (j:=0) rfl) ((t.box (i:=0) rfl).at_ (j:=0) rfl)) ?_;refine aA ?_;refine jT (by simp) ?_;simp[qC,hi]
theorem aSy(L:TL)(s:aC)(st:List eP)(hfl:L.fa.length=s.aF.length)(hok:qS s st)(i:Int)(on:Bool)(w:World)(F:Nat→Prop)(hp:(rI L s st).sat F w)(hF:∀b,F b→b < w.heap.size):
  Cz 228 #[.pointer (some ⟨L.t,0,none⟩),iv i,.bool on] w (Wr (iv (lC s st i on).1) (rI L s (lC s st i on).2) w F):=by
 cases hi:bO s.aF.length i
 ·have hr:lC s st i on=(4,st):=by simp[lC,hi]
  rw[hr];refine dK func228 ntmps228 hp hF ?_;refine aA ?_;refine aU (fun w1 t=>aJs L.t s.aF.length L.c L.A i w1 ((t.aCF 0 rfl hfl hok).r0) hi) ?_;refine aA ?_;exact cI 0 hF
 ·obtain⟨n,rfl⟩:∃n:Nat,i=n:=⟨i.toNat,by have:=of_decide_eq_true hi;omega⟩
  have hlt:n < s.aF.length:=by have:=of_decide_eq_true hi;omega
  have hl:=hok.len
  obtain⟨c,hc⟩:=get_some hlt;obtain⟨a,ha⟩:=get_some (l:=L.fa) (i:=n) (by omega);obtain⟨x,hx⟩:=get_some (l:=st) (i:=n) (by omega);obtain⟨iL,iK⟩:=aDl hfl hok;refine dK func228 ntmps228 hp hF ?_;refine aJZ 0 rfl (by omega) fun g cs hA h1 h2 h3 h4=>?_;dsimp only[List.set];rw[hA]
  have hs:=Hz h2 iL iK (Qj hc ha hx)
  have hlen:n*11+11≤cs.length:=by omega
  refine bF 1 0 ?_;refine aA ?_;refine aU (fun w1 t=>aJt L.t s.aF.length L.c g 0 n w1 ((t.box (i:=0) rfl).at_ (j:=0) rfl) hlt) ?_;refine aP 1 0 ?_;rw[Nat.zero_add];refine aA ?_
  have hpq:∀x':eP,(kJ s L.fa st).set n (sV c a x')=kJ s L.fa (st.set n x'):=fun x'=>aHt hc ha (by omega)
  refine bX (t:=19) rfl (fun hk=>?_) (fun hk=>?_)
  ·refine aA ?_;refine aG rfl (fun hg=>?_) (fun hg=>?_)
   ·have hr:lC s st (n:Int) on=(1,st):=by simp[lC,hi,hc,hx,hk,hg]
    rw[hr];refine aA ?_;refine Bt 0 hA h1 h2 h3 h4 rfl ?_;exact cI 0 hF
   ·have hg:c.kind=103:=Classical.not_not.1 hg
    have hr:lC s st (n:Int) on=(0,st.set n ⟨on,x.left⟩):=by simp[lC,hi,hc,hx,hg,Gz]
    rw[hr]
    have hs1:=hs.set 6 (.bool on) (by simp[sV]) (by omega)
    have vW:=(wF.refl cs (n*11) 11).set 6 (.bool on) (by decide)
    have gL:=Fz (r':=sV c a ⟨on,x.left⟩) h2 iL iK hlt (by omega) rfl hs1 vW
    rw[hpq] at gL;refine aA ?_;refine bX (t:=37) rfl (fun h=>absurd h hk) (fun _=>?_);refine aA ?_;refine Bt 0 hA (by simpa using h1) gL h3 h4 rfl ?_;exact cI 0 hF
  ·have hk:c.kind=112:=Classical.not_not.1 hk
   have hs1:=hs.set 6 (.bool on) (by simp[sV]) (by omega)
   have vW:=(wF.refl cs (n*11) 11).set 6 (.bool on) (by decide)
   cases on
   ·have hr:lC s st (n:Int) false=(0,st.set n ⟨false,c.lock⟩):=by simp[lC,hi,hc,hx,hk,Gz]
    rw[hr];refine aA ?_;refine bX (t:=37) rfl (fun _=>?_) (fun h=>absurd hk h)
    have fX:=hs1.set 7 (iv c.lock) (by simp[sV]) (by simp;omega)
    have hu2:=vW.set 7 (iv c.lock) (by decide)
    have gL:=Fz (r':=sV c a ⟨false,c.lock⟩) h2 iL iK hlt (by omega) rfl fX hu2
    rw[hpq] at gL;refine aA ?_;refine Bt 0 hA (by simpa using h1) gL h3 h4 rfl ?_;exact cI 0 hF
   ·have hr:lC s st (n:Int) true=(0,st.set n ⟨true,x.left⟩):=by simp[lC,hi,hc,hx,hk,Gz]
    rw[hr]
    have gL:=Fz (r':=sV c a ⟨true,x.left⟩) h2 iL iK hlt (by omega) rfl hs1 vW
    rw[hpq] at gL;refine aA ?_;refine bX (t:=37) rfl (fun _=>?_) (fun h=>absurd hk h);refine aA ?_;refine Bt 0 hA (by simpa using h1) gL h3 h4 rfl ?_;exact cI 0 hF
end
section
theorem aI.zW{p:Piece}{sz n:Nat}{A:Option Addr}{rows:List (List Value)}(h:aI p sz A n rows.flatten)(hl:∀r∈rows,r.length=sz){k:Nat}{r:List Value}(hk:rows[k]? =some r)(hn:k < n):
  ∃b off,A=some ⟨b,off,none⟩∧p.Z b∧∀j u,r[j]? =some u→p.w.cell? ⟨b,off+k*sz+j,none⟩=some u:=by
 obtain⟨b,off,hA,hz,hc⟩:=aI.at_ h hn;refine⟨b,off,hA,hz,fun j u hu=>hc j u ?_⟩
 have hj:j < sz:=by
  rw[←hl r (List.mem_of_getElem? hk)];exact(List.getElem?_eq_some_iff.1 hu).1
 rw[Yb rows hl k j r hk hj,hu]
theorem aUm{w0:World}{R:List Piece}{H:List HP}{p:Piece}{b o:Nat}{vs:List Value}(hp:p∈R)(hz:p.Z b)(h:∀j u,vs[j]? =some u→p.w.cell? ⟨b,o+j,none⟩=some u):aR w0 R H b o vs:=.of fun j v hj=>Rd.ro hp hz (h j v hj)
theorem Sv(s:aC)(A1 A2 A3 A4:Option Addr)(n1 k1 n2 k2 n3 k3 n4 k4:Nat)(w:World)(hW:fL w s A1 n1 A2 n2 A3 n3 A4 n4)(aDX:Yx s=0):
  Cz 62 #[.agg #[.slice A1 n1 k1,.slice A2 n2 k2,.slice A3 n3 k3,.slice A4 n4 k4]] w (Rt (iv 0) w):=by
 have:=aB8 s A1 A2 A3 A4 n1 k1 n2 k2 n3 k3 n4 k4 w hW
 rw[aDX] at this;exact this
def aKi(s:aC)(v:Value)(hs:List HP)(_:Piece):Prop:=∃L:TL,v=.tuple #[.pointer (some ⟨L.t,0,none⟩),iv 0]∧hs=[rI L s (s.aF.map zD)]∧L.fa.length=s.aF.length
theorem aSz(s:aC)(hH:s.dJ)(A1 A2 A3 A4:Option Addr)(n1 k1 n2 k2 n3 k3 n4 k4:Nat)(w:World)(hW:fL w s A1 n1 A2 n2 A3 n3 A4 n4):
  Cz 68 #[.agg #[.slice A1 n1 k1,.slice A2 n2 k2,.slice A3 n3 k3,.slice A4 n4 k4]] w (fun y w'=>(∃v hs q,y=.returned v∧q.w=w'∧aKi s v hs q∧kA w hs q)∧Below w.heap.size w w'):=by
 have hnc:=hH.t.nc
 have Jt:∀d∈s.aD,d.aL.length≤1000000:=fun d hd=>by
  obtain⟨i,hi⟩:=List.getElem?_of_mem hd
  have:=hH.t.aD i d hi
  unfold bL.fit at this;omega
 refine aN func68 ntmps68 ?_;refine aB ?_;refine bA fun g1=>?_;refine aB ?_;refine aU (fun w1 t=>Sv s A1 A2 A3 A4 n1 k1 n2 k2 n3 k3 n4 k4 w1 (hW.le (t.started (by simp))) hH.t.Su) ?_;refine aB ?_;refine bA fun g2=>?_;refine aB ?_;refine jQ [] (aCq s) (fun w1 t=>aE6 s A1 A2 A3 A4 n1 k1 n2 k2 n3 k3 n4 k4 w1 (hW.le (t.started (by simp))) Jt) ?_;rintro _ w1 q1 ⟨cs1,rfl,hS⟩ gL _ aDQ
 have aDQ:=aDQ (by simp)
 obtain⟨B1,m1,j1,B2,m2,j2,B3,m3,j3,B4,m4,j4,rfl,hSQ⟩:=(hS.mono (nW gL)).Q;clear gL hS;obtain⟨rc,hrc,hm1,hsc⟩:=hSQ.jK;obtain⟨fa,hfl,rfl,hfa⟩:=aE8 hrc;subst hm1;obtain⟨gZ,hcr⟩:=aAi (f:=Bn) (es:=s.aF) (bs:=fa) (sz:=6) hfl (fun _ _=>rfl)
 have hl0:(s.aF.map zD).length=s.aF.length:=by simp
 refine kd (aRL (off:=0) (cs:=[.slice B1 s.aF.length j1,.slice B2 m2 j2,.slice B3 m3 j3,.slice B4 m4 j4]) (by kernel_rfl) rfl rfl) ?_;refine aB ?_;refine iP 224 11 ?_;refine bK [(20,iv 0),(19,iv s.aF.length),(18,.slice B1 s.aF.length j1),(5,pt g2)] ?_;refine eJ (fun m e R H=>∃(i:Nat) (A:Option Addr) (k:Nat),i≤s.aF.length∧m=s.aF.length - i∧e=[(20,iv i),(19,iv s.aF.length),(18,.slice B1 s.aF.length j1),(5,pt g2)]∧R=[q1,all w]∧H=[HP.own 224 11 (.slice A i k) i ((kJ s fa (s.aF.map zD)).take i).flatten,HP.aE g2 227 [.slice A i k],HP.aE g1 30 [.slice A1 n1 k1,.slice A2 n2 k2,.slice A3 n3 k3,.slice A4 n4 k4]]) s.aF.length ⟨0,none,0,by omega,rfl,rfl,rfl,by simp⟩ fun m e R H hI=>?_;obtain⟨i,A,k,hi,rfl,rfl,rfl,rfl⟩:=hI;refine aB ?_;refine aG rfl (fun hlt=>?_) (fun hge=>?_)
 ·have hlt:i < s.aF.length:=by omega
  obtain⟨c,hc⟩:=get_some hlt;obtain⟨a,ha⟩:=get_some (l:=fa) (i:=i) (by omega);obtain⟨b,off,hB,hz,hcell⟩:=aI.zW hsc hcr (Ub hc ha) hlt;subst hB
  have hrow:(kJ s fa (s.aF.map zD))[i]? =some (sV c a (zD c)):=Qj (L:=⟨0,none,0,fa⟩) hc ha (by rw[List.getElem?_map,hc];rfl)
  have dS:((kJ s fa (s.aF.map zD)).take (i+1)).flatten=((kJ s fa (s.aF.map zD)).take i).flatten++sV c a (zD c):=by
   rw[List.take_succ,hrow,List.flatten_append];simp
  have Wi:∀H,aR w [q1,all w] H b (off+i*6) (Bn c a):=fun H=>aUm (by simp) hz hcell
  have aUy:=Wi [HP.own 224 11 (.slice A i k) i ((kJ s fa (s.aF.map zD)).take i).flatten,HP.aE g2 227 [.slice A i k],HP.aE g1 30 [.slice A1 n1 k1,.slice A2 n2 k2,.slice A3 n3 k3,.slice A4 n4 k4]]
  refine aA ?_;refine kd (dat i (off+i*6)) ?_;refine aB ?_;refine bU fun g3=>?_;obtain⟨kdx,src,rate,mul,dv,lock⟩:=c;dsimp only[Bn];refine aB ?_;refine bU fun g4=>?_
  have hfit:=(hH.t.aF i _ hc).2
  dsimp only at hfit;rcases hfit with⟨rfl,_⟩ | ⟨rfl,_⟩ | ⟨rfl,_⟩ | ⟨rfl,_⟩ | ⟨rfl,_⟩
  ·skip
   refine aA ?_;refine jM [2,3,4,5] ?_;refine bP 0 ?_;refine bP 1 ?_;refine aJ 2 ?_;refine aJ 3 ?_;refine aJ 4 ?_;refine aJ 5 ?_;refine aO 6 ?_;refine eH fun g5=>?_;refine bM ?_;refine aO 7 ?_;refine gH 3 11 104 1 (el:=224) (by kernel_rfl) (by kernel_rfl) (by decide) rfl rfl rfl (nL 0 rfl rfl) (by simp[Value.oneCell']) rfl (by omega) (by omega) (by decide) fun A' k'=>?_;dsimp only[List.set];refine cX ?_;refine aO 8 ?_;refine bH ?_;refine cX ?_;refine aO 9 ?_;refine bH ?_;refine cX ?_;refine aO 10 ?_;refine fG rfl rfl ?_;dsimp only[List.set];refine cX ?_;refine fJ ?_;refine aA ?_;refine aY [3,4,5] rfl (by decide) (fun _ h=>h) ?_;exact dW (s.aF.length - (i+1)) ⟨i+1,A',k',hlt,rfl,rfl,rfl,by rw[dS]⟩
  ·skip
   refine aA ?_;refine jM [2,3,4,5] ?_;refine bP 0 ?_;refine bP 1 ?_;refine aJ 2 ?_;refine aJ 3 ?_;refine aJ 4 ?_;refine aJ 5 ?_;refine aO 6 ?_;refine eH fun g5=>?_;refine bM ?_;refine aO 7 ?_;refine gH 3 11 104 1 (el:=224) (by kernel_rfl) (by kernel_rfl) (by decide) rfl rfl rfl (nL 0 rfl rfl) (by simp[Value.oneCell']) rfl (by omega) (by omega) (by decide) fun A' k'=>?_;dsimp only[List.set];refine cX ?_;refine aO 8 ?_;refine bH ?_;refine cX ?_;refine aO 9 ?_;refine bH ?_;refine cX ?_;refine aO 10 ?_;refine fG rfl rfl ?_;dsimp only[List.set];refine cX ?_;refine fJ ?_;refine aA ?_;refine aY [3,4,5] rfl (by decide) (fun _ h=>h) ?_;exact dW (s.aF.length - (i+1)) ⟨i+1,A',k',hlt,rfl,rfl,rfl,by rw[dS]⟩
  ·skip
   refine aA ?_;refine jM [2,3,4,5] ?_;refine bP 0 ?_;refine bP 1 ?_;refine aJ 2 ?_;refine aJ 3 ?_;refine aJ 4 ?_;refine aJ 5 ?_;refine aO 6 ?_;refine eH fun g5=>?_;refine bM ?_;refine aO 7 ?_;refine gH 3 11 104 1 (el:=224) (by kernel_rfl) (by kernel_rfl) (by decide) rfl rfl rfl (nL 0 rfl rfl) (by simp[Value.oneCell']) rfl (by omega) (by omega) (by decide) fun A' k'=>?_;dsimp only[List.set];refine cX ?_;refine aO 8 ?_;refine bH ?_;refine cX ?_;refine aO 9 ?_;refine bH ?_;refine cX ?_;refine aO 10 ?_;refine fG rfl rfl ?_;dsimp only[List.set];refine cX ?_;refine fJ ?_;refine aA ?_;refine aY [3,4,5] rfl (by decide) (fun _ h=>h) ?_;exact dW (s.aF.length - (i+1)) ⟨i+1,A',k',hlt,rfl,rfl,rfl,by rw[dS]⟩
  ·skip
   refine aA ?_;refine jM [2,3,4,5] ?_;refine bP 0 ?_;refine bP 1 ?_;refine aJ 2 ?_;refine aJ 3 ?_;refine aJ 4 ?_;refine aJ 5 ?_;refine aO 6 ?_;refine eH fun g5=>?_;refine bM ?_;refine aO 7 ?_;refine gH 3 11 104 1 (el:=224) (by kernel_rfl) (by kernel_rfl) (by decide) rfl rfl rfl (nL 0 rfl rfl) (by simp[Value.oneCell']) rfl (by omega) (by omega) (by decide) fun A' k'=>?_;dsimp only[List.set];refine cX ?_;refine aO 8 ?_;refine bH ?_;refine cX ?_;refine aO 9 ?_;refine bH ?_;refine cX ?_;refine aO 10 ?_;refine fG rfl rfl ?_;dsimp only[List.set];refine cX ?_;refine fJ ?_;refine aA ?_;refine aY [3,4,5] rfl (by decide) (fun _ h=>h) ?_;exact dW (s.aF.length - (i+1)) ⟨i+1,A',k',hlt,rfl,rfl,rfl,by rw[dS]⟩
  ·skip
   refine aA ?_;refine jM [2,3,4,5] ?_;refine bP 0 ?_;refine bP 1 ?_;refine aJ 2 ?_;refine aJ 3 ?_;refine aJ 4 ?_;refine aJ 5 ?_;refine aO 6 ?_;refine eH fun g5=>?_;refine bM ?_;refine aO 7 ?_;refine gH 3 11 104 1 (el:=224) (by kernel_rfl) (by kernel_rfl) (by decide) rfl rfl rfl (nL 0 rfl rfl) (by simp[Value.oneCell']) rfl (by omega) (by omega) (by decide) fun A' k'=>?_;dsimp only[List.set];refine cX ?_;refine aO 8 ?_;refine bH ?_;refine cX ?_;refine aO 9 ?_;refine bH ?_;refine cX ?_;refine aO 10 ?_;refine fG rfl rfl ?_;dsimp only[List.set];refine cX ?_;refine fJ ?_;refine aA ?_;refine aY [3,4,5] rfl (by decide) (fun _ h=>h) ?_;exact dW (s.aF.length - (i+1)) ⟨i+1,A',k',hlt,rfl,rfl,rfl,by rw[dS]⟩
 ·obtain rfl:i=s.aF.length:=by omega
  refine aB ?_
  have hfull:(kJ s fa (s.aF.map zD)).take s.aF.length=kJ s fa (s.aF.map zD):=List.take_of_length_le (by simp[kJ];omega)
  rw[hfull];refine aY [1,0] rfl (by decide) (fun _ h=>h) ?_;refine Ld aDQ (by simp[all]) (Φ:=uH s fa) (hm:=uH.le (s:=s) (fa:=fa)) (fun i c a hc ha=>hfa i c a hc ha) ?_;refine aY [1,2,0] rfl (by decide) (fun _ h=>h) ?_;refine Zo ?_;refine dO [] [] [0] (by simp) rfl (by decide) (by decide) fun q _ _ hfr=>?_;exact eL rfl rfl rfl fun w1 t=>⟨⟨_,_,⟨w1,q.Z⟩,rfl,rfl,⟨⟨g2,A,k,fa⟩,rfl,rfl,hfl⟩,t.newR (by simp) (by simp) (hfr (by simp) (by simp))⟩,t.below (by simp)⟩
end
section
def jG(r:Int)(x:kH):Value:=.agg #[iv r,iv x.left,.bool x.held,.bool x.wanted]
def Mj(s:aC)(st:List kH)(i:Nat):Int×Value:=((i:Int),jG (s.aT.getD i 0) (st.getD i sX))
def nY(s:aC)(st:List kH):List (Int×Value):=(List.range st.length).map (Mj s st)
theorem aH7(f:Nat→Value)(n:Nat)(i:Int):nA ((List.range n).map fun j:Nat=>((j:Int),f j)) i=if bO n i then some (f i.toNat) else none:=by
 induction n with
 | zero=>
  have:bO 0 i=false:=decide_eq_false (by omega)
  rw[this];rfl
 | succ n ih =>
  have h0:nA ((List.range (n+1)).map fun j:Nat=>((j:Int),f j)) i=(nA ((List.range n).map fun j:Nat=>((j:Int),f j)) i).or (nA [((n:Int),f n)] i):=by
   rw[List.range_succ,List.map_append];unfold nA;rw[List.find?_append];cases List.find? (fun p=>decide (p.1=i)) ((List.range n).map fun j:Nat=>((j:Int),f j))<;>rfl
  rw[h0,ih]
  by_cases h1:bO n i=true
  ·have:bO (n+1) i=true:=by have:=of_decide_eq_true h1;exact decide_eq_true (by omega)
   rw[if_pos h1,if_pos this];rfl
  ·have hf:bO n i=false:=by simpa using h1
   have:=of_decide_eq_false hf
   rw[if_neg h1,Qn]
   by_cases h2:(n:Int)=i
   ·subst h2
    have:bO (n+1) (n:Int)=true:=decide_eq_true (by omega)
    rw[if_pos rfl,if_pos this];rfl
   ·have h3:bO (n+1) i=false:=decide_eq_false (by omega)
    rw[if_neg h2,h3];rfl
theorem aOr(f : Nat → Value)(n i : Nat)(v : Value)(hi : i < n) : oN ((List.range n).map fun j : Nat => ((j : Int), f j)) (i : Int) v = (List.range n).map fun j : Nat => ((j : Int), if j = i then v else f j) := by
  have key:∀(l:List Nat),i∈l→l.Nodup→oN (l.map fun j:Nat=>((j:Int),f j)) (i:Int) v=l.map fun j:Nat=>((j:Int),if j=i then v else f j):=by
    intro l
    induction l with
    | nil=>intro h;simp at h
    | cons a l ih =>
      intro h hn;rw[List.map_cons,oN,List.map_cons]
      by_cases ha:(a:Int)=(i:Int)
      · have yW:a=i:=by omega
        subst yW;rw[if_pos rfl,if_pos rfl]
        congr 1
        refine List.map_congr_left fun j hj=>?_;rw[if_neg (fun he:j=a=>(List.nodup_cons.1 hn).1 (he▸hj))]
      · rw[if_neg ha,if_neg (by omega)]
        congr 1
        exact ih (by rcases List.mem_cons.1 h with h | h
                     · omega
                     · exact h) (List.nodup_cons.1 hn).2
  exact key _ (List.mem_range.2 hi) List.nodup_range
theorem aH8{s:aC}{st:List kH}(i:Int):nA (nY s st) i=if bO st.length i then some (jG (s.aT.getD i.toNat 0) (st.getD i.toNat sX)) else none:=aH7 (fun j=>jG (s.aT.getD j 0) (st.getD j sX)) st.length i
theorem aDn{s:aC}{st:List kH}{i:Nat}{x:kH}{r:Int}(hr:s.aT.getD i 0=r)(hi:i < st.length):oN (nY s st) (i:Int) (jG r x)=nY s (st.set i x):=by
 have:=aOr (fun j=>jG (s.aT.getD j 0) (st.getD j sX)) st.length i (jG r x) hi
 refine this.trans ?_;unfold nY;rw[List.length_set];refine List.map_congr_left fun j hj=>?_;unfold Mj
 congr 1
 by_cases he:j=i
 ·subst he;rw[if_pos rfl,←hr,List.getD_eq_getElem?_getD (l:=st.set j x),List.getElem?_set_self hi];rfl
 ·rw[if_neg he,List.getD_eq_getElem?_getD (l:=st.set i x),List.getElem?_set_ne (Ne.symm he),List.getD_eq_getElem?_getD (l:=st)]
structure RL where
 t:Nat
 g:Nat
def qQ(L:RL)(s:aC)(st:List kH):HP:=HP.many [HP.aE L.t 277 [.map (some L.g)],HP.map L.g (nY s st)]
structure Ln(w:World)(L:RL)(s:aC)(st:List kH):Prop where
 r0:fR w L.t 0 (.map (some L.g))
 m:xQ w L.g (nY s st)
theorem Ln.below{w w':World}{L:RL}{s:aC}{st:List kH}(h:Ln w L s st)(hb:Below w.heap.size w w'):Ln w' L s st:=
 ⟨⟨Nat.lt_of_lt_of_le h.r0.1 hb.size,(hb.cell (p:=⟨_,0,none⟩) h.r0.1).trans h.r0.2⟩,h.m.below hb⟩
section
variable{N:cF}{w0 w:World}{e:Env}{R:List Piece}{H:List HP}{K:Act→World→Prop}{L:RL}{s:aC}{st:List kH}
theorem aK0{F:Nat→Prop}(h:(qQ L s st).sat F w):Ln w L s st:=by
 obtain⟨G,g1,g2,_⟩:=h
 have h0:=g1 0 _ rfl
 exact⟨⟨h0.2.lt,by rw[h0.2.cell];rfl⟩,(g1 1 _ rfl).2⟩
theorem St.Qt(t:St w0 R H w)(i:Nat)(hi:H[i]? =some (qQ L s st)):Ln w L s st:=by
 obtain⟨F,h1,h2,_⟩:=t.chunk hi;exact aK0 h1
end
theorem aHI:(Tryz.prog.info? 233).bind (·.zero)=some (jG 0 ⟨0,false,false⟩):=by kernel_rfl
def uY(s:aC)(st:List kH)(i:Int):Value:=if bO st.length i then jG (s.aT.getD i.toNat 0) (st.getD i.toNat sX) else jG 0 ⟨0,false,false⟩
theorem aQV(s:aC)(st:List kH)(i:Int):∃r x,uY s st i=jG r x:=by
 unfold uY;split
 ·exact⟨_,_,rfl⟩
 ·exact⟨_,_,rfl⟩
theorem Uz(L:RL)(s:aC)(st:List kH)(i:Int)(w:World)(hR:Ln w L s st):
  Cz 92 #[.pointer (some ⟨L.t,0,none⟩),iv i] w (Rt (.tuple #[uY s st i,.bool (bO st.length i)]) w):=by
 have h0:=hR.r0
 obtain⟨r,x,hv⟩:=aQV s st i
 have hm:=aH8 (s:=s) (st:=st) i
 have hz:(nA (nY s st) i).getD (jG 0 ⟨0,false,false⟩)=jG r x:=by
  rw[hm,←hv,uY];split<;>rfl
 have hb:(nA (nY s st) i).isSome=bO st.length i:=by
  rw[hm];split
  ·rename_i h;rw[h];rfl
  ·rename_i h;simp at h;rw[h];rfl
 rw[hv];refine aN func92 ntmps92 ?_;refine aA ?_;refine bU fun g1=>?_;refine aA ?_;refine aAo (kt:=3) (et:=233) (kd:=.i64) (z:=jG 0 ⟨0,false,false⟩) (l:=nY s st) true (by kernel_rfl) (by kernel_rfl) aHI rfl rfl (fun w1 t=>(hR.below (t.below (by simp))).m) (by decide) ?_;simp only[if_true];rw[hz,hb];refine aA ?_;refine bU fun g2=>?_;unfold jG;refine aA ?_;exact xM rfl (by kernel_rfl) rfl rfl (by first | assumption | exact aR.whole 0 rfl | exact aR.whole 1 rfl | exact aR.whole 2 rfl | exact aR.whole 3 rfl | exact aR.whole 4 rfl | exact aR.whole 5 rfl | exact aR.whole 6 rfl | exact aR.whole 7 rfl | exact aR.whole 8 rfl | exact zJ (by simp) (by assumption)) rfl fun w1 t=>⟨rfl,t.below (by simp)⟩
theorem aG8(L:RL)(s:aC)(st:List kH)(i:Int)(w:World)(hR:Ln w L s st):
  Cz 43 #[.pointer (some ⟨L.t,0,none⟩),iv i] w (Rt (.bool (Ba st i)) w):=by
 refine aN func43 ntmps43 ?_;refine aA ?_;refine aU (fun w1 t=>Uz L s st i w1 (hR.below (t.below (by simp)))) ?_;refine aA ?_;refine bU fun g2=>?_;cases hi:bO st.length i
 ·have hv:uY s st i=jG 0 ⟨0,false,false⟩:=by simp[uY,hi]
  rw[hv];unfold jG;refine aA ?_;refine jT (by simp) ?_;simp[Ba,hi]
 ·have hv:uY s st i=jG (s.aT.getD i.toNat 0) (st.getD i.toNat sX):=by simp[uY,hi]
  rw[hv];unfold jG;refine aA ?_;refine jT (by simp) ?_
  have:i.toNat < st.length:=by have:=of_decide_eq_true hi;omega
  simp[Ba,hi,List.getElem?_eq_getElem this]
end
section
theorem aEw:∀{cl:List Dom} {rs:List (List Value)},Rows vF 3 cl rs→rs=cl.map fun d=>[iv d.above,iv d.delay,.bool d.ret]
 | [],[],_=>rfl
 | e::es,r::rs,h=>by
  have h1:r=[iv e.above,iv e.delay,.bool e.ret]:=h.2.1
  rw[h1,aEw h.2.2];rfl
theorem aCP:∀{cl:List Int} {rs:List (List Value)},Rows zH 1 cl rs→rs=cl.map fun d=>[iv d]
 | [],[],_=>rfl
 | e::es,r::rs,h=>by
  have h1:r=[iv e]:=h.2.1
  rw[h1,aCP h.2.2];rfl
def aK8(s:aC)(v:Value)(hs:List HP)(_:Piece):Prop:=∃L:GL,v=.tuple #[.pointer (some ⟨L.t,0,none⟩),iv 0]∧hs=[wN L s (s.domains.map fun _=>zC)]
theorem aN5(s:aC)(hH:s.dJ)(A1 A2 A3 A4:Option Addr)(n1 k1 n2 k2 n3 k3 n4 k4:Nat)(w:World)(hW:fL w s A1 n1 A2 n2 A3 n3 A4 n4):
  Cz 69 #[.agg #[.slice A1 n1 k1,.slice A2 n2 k2,.slice A3 n3 k3,.slice A4 n4 k4]] w (fun y w'=>(∃v hs q,y=.returned v∧q.w=w'∧aK8 s v hs q∧kA w hs q)∧Below w.heap.size w w'):=by
 have hnd:=hH.t.nd
 obtain⟨rd,hrd,hn2,hsd⟩:=hW.dom
 have hrd:=aEw hrd
 subst hrd;subst hn2
 have jA:(s.domains.map fun _=>zC).length=s.domains.length:=by simp
 refine aN func69 ntmps69 ?_;refine aA ?_;refine bA fun g1=>?_;refine aA ?_;refine aU (fun w1 t=>Sv s A1 A2 A3 A4 n1 k1 _ k2 n3 k3 n4 k4 w1 (hW.le (t.started (by simp))) hH.t.Su) ?_;refine aA ?_;refine kd (gA rfl) ?_;refine bA fun g2=>?_;refine aA ?_;refine iP 231 7 ?_;refine bK [(18,iv 0),(17,iv s.domains.length),(16,.slice A2 s.domains.length k2),(5,pt g2)] ?_;refine eJ (fun m e R H=>∃(i:Nat) (A:Option Addr) (k:Nat),i≤s.domains.length∧m=s.domains.length - i∧e=[(18,iv i),(17,iv s.domains.length),(16,.slice A2 s.domains.length k2),(5,pt g2)]∧R=[all w]∧H=[HP.own 231 7 (.slice A i k) i ((rE s (s.domains.map fun _=>zC)).take i).flatten,HP.aE g2 273 [.slice A i k],HP.aE g1 30 [.slice A1 n1 k1,.slice A2 s.domains.length k2,.slice A3 n3 k3,.slice A4 n4 k4]]) s.domains.length ⟨0,none,0,by omega,rfl,rfl,rfl,by simp⟩ fun m e R H hI=>?_;obtain⟨i,A,k,hi,rfl,rfl,rfl,rfl⟩:=hI;refine aA ?_;refine aG rfl (fun hlt=>?_) (fun hge=>?_)
 ·have hlt:i < s.domains.length:=by omega
  obtain⟨c,hc⟩:=get_some hlt;obtain⟨b,off,hB,hro⟩:=aI.row hsd (fun r hr=>by obtain⟨q,_,rfl⟩:=List.mem_map.1 hr;rfl) (r:=[iv c.above,iv c.delay,.bool c.ret]) (by rw[List.getElem?_map,hc];rfl) hlt;subst hB
  have hrow:(rE s (s.domains.map fun _=>zC))[i]? =some (pT c zC):=Kr hc (by rw[List.getElem?_map,hc];rfl)
  have dS:((rE s (s.domains.map fun _=>zC)).take (i+1)).flatten=((rE s (s.domains.map fun _=>zC)).take i).flatten++pT c zC:=by
   rw[List.take_succ,hrow,List.flatten_append];simp
  refine aA ?_;refine kd (dat i (off+i*3)) ?_;refine aA ?_;refine bU fun g3=>?_;refine aA ?_;refine jM [2,3,4,5,6] ?_;refine bP 0 ?_;refine bP 1 ?_;refine aJ 2 ?_;refine aJ 3 ?_;refine aJ 4 ?_;refine aJ 5 ?_;refine aJ 6 ?_ (dI:=lW (zs:=[iv 0,iv 0,.bool false,.int .u8 0,iv 0,.bool false,.bool false]) (L:=[(0,3),(3,1),(4,1),(5,1),(6,1)]) (iG (by kernel_rfl)) (by kernel_rfl) rfl (by simp[fI,gI,Value.cells];rfl));refine aO 7 ?_;refine eH fun g5=>?_;refine bM ?_;refine aO 8 ?_;refine gH 2 7 48 1 (el:=231) (by kernel_rfl) (by kernel_rfl) (by decide) rfl rfl rfl (nL 0 rfl rfl) (by simp[Value.oneCell']) rfl (by omega) (by omega) (by decide) fun A' k'=>?_;dsimp only[List.set];refine cX ?_;refine aO 9 ?_;refine bH ?_;refine cX ?_;refine aO 10 ?_;refine bH ?_;refine cX ?_;refine aO 11 ?_;refine fG rfl rfl ?_;dsimp only[List.set];refine cX ?_;refine fJ ?_;refine aA ?_;refine aY [2,3,4] rfl (by decide) (fun _ h=>h) ?_;exact dW (s.domains.length - (i+1)) ⟨i+1,A',k',hlt,rfl,rfl,rfl,by rw[dS]⟩
 ·obtain rfl:i=s.domains.length:=by omega
  refine aA ?_
  have hfull:(rE s (s.domains.map fun _=>zC)).take s.domains.length=rE s (s.domains.map fun _=>zC):=List.take_of_length_le (by simp[rE])
  rw[hfull];refine aY [1,0] rfl (by decide) (fun _ h=>h) ?_;refine nH ?_;refine dO [] [] [0] (by simp) rfl (by decide) (by decide) fun q _ _ hfr=>?_;exact eL rfl rfl rfl fun w1 t=>⟨⟨_,_,⟨w1,q.Z⟩,rfl,rfl,⟨⟨g2,A,k⟩,rfl,rfl⟩,t.newR (by simp) (by simp) (hfr (by simp) (by simp))⟩,t.below (by simp)⟩
theorem aKO{N:cF}{w0:World}{e:Env}{R:List Piece}{H:List HP}{Q:Exit→Act→World→Prop}{ops:Array Oper}{rest:List Oper}{d:Nat}{ty:TypeId}{pos:String}{aH:Array Edge}{x:Operand}{n:Int}{t kt et:TypeId}(ht:Tryz.prog.underlying t=some (.map kt et))(hx:e.ev x=some (iv n))(hd:d < N.n)(k:∀g,XK N w0 (wpList Tryz.prog ops Q rest) ((d,.map (some g))::e) R (HP.map g []::H)):XK N w0 (wpList Tryz.prog ops Q (⟨some d,.makeMap t (some x),ty,pos,aH,none⟩::rest)) e R H:=
 vJ rfl fun a w hr st=>⟨.map (some w.heap.size),w.alloc (.map #[] 0),by simp[execOp,Instr.makeMap,hr.ev hx,run_underlying ht,asInt,asIntOf],k w.heap.size _ _ (hr.put hd _) (st.new (Sx w _) ⟨⟨Nat.le_refl _,by simp⟩,#[],0,heap_alloc_new w _,rfl⟩)⟩
def aKz(s:aC)(v:Value)(hs:List HP)(_:Piece):Prop:=∃L:RL,v=.tuple #[.pointer (some ⟨L.t,0,none⟩),iv 0]∧hs=[qQ L s (s.aT.map fun _=>sX)]
theorem aOq(l:List (Int×Value))(k:Int)(v:Value)(h:nA l k=none):oN l k v=l++[(k,v)]:=by
 induction l with
 | nil=>rfl
 | cons p l ih =>
  obtain⟨a,b⟩:=p;rw[Qn] at h;rw[oN];split at h
  ·cases h
  ·rename_i hne
   rw[if_neg hne,ih h];rfl
theorem aMr(s:aC)(hH:s.dJ)(A1 A2 A3 A4:Option Addr)(n1 k1 n2 k2 n3 k3 n4 k4:Nat)(w:World)(hW:fL w s A1 n1 A2 n2 A3 n3 A4 n4):
  Cz 70 #[.agg #[.slice A1 n1 k1,.slice A2 n2 k2,.slice A3 n3 k3,.slice A4 n4 k4]] w (fun y w'=>(∃v hs q,y=.returned v∧q.w=w'∧aKz s v hs q∧kA w hs q)∧Below w.heap.size w w'):=by
 have iK:=hH.t.nr
 obtain⟨rr,cE,oU,hst⟩:=hW.Ct
 have cE:=aCP cE
 subst cE;subst oU
 have pQ:(s.aT.map fun _=>sX).length=s.aT.length:=by simp
 refine aN func70 ntmps70 ?_;refine aA ?_;refine bA fun g1=>?_;refine aA ?_;refine aU (fun w1 t=>Sv s A1 A2 A3 A4 n1 k1 n2 k2 _ k3 n4 k4 w1 (hW.le (t.started (by simp))) hH.t.Su) ?_;refine aA ?_;refine aKO (kt:=3) (et:=233) (by kernel_rfl) rfl (by decide) fun gm=>?_;refine kd (gA rfl) ?_;refine bA fun g2=>?_;refine aA ?_;refine bK [(22,iv 0),(21,iv s.aT.length),(20,.slice A3 s.aT.length k3),(5,pt g2)] ?_;refine eJ (fun m e R H=>∃i:Nat,i≤s.aT.length∧m=s.aT.length - i∧e=[(22,iv i),(21,iv s.aT.length),(20,.slice A3 s.aT.length k3),(5,pt g2)]∧R=[all w]∧H=[HP.aE g2 277 [.map (some gm)],HP.map gm ((List.range i).map (Mj s (s.aT.map fun _=>sX))),HP.aE g1 30 [.slice A1 n1 k1,.slice A2 n2 k2,.slice A3 s.aT.length k3,.slice A4 n4 k4]]) s.aT.length ⟨0,by omega,rfl,rfl,rfl,rfl⟩ fun m e R H hI=>?_;obtain⟨i,hi,rfl,rfl,rfl,rfl⟩:=hI;refine aA ?_;refine aG rfl (fun hlt=>?_) (fun hge=>?_)
 ·have hlt:i < s.aT.length:=by omega
  obtain⟨c,hc⟩:=get_some hlt;obtain⟨b,off,hB,hro⟩:=aI.row hst (fun r hr=>by obtain⟨q,_,rfl⟩:=List.mem_map.1 hr;rfl) (r:=[iv c]) (by rw[List.getElem?_map,hc];rfl) hlt;subst hB
  have iZ:oN ((List.range i).map (Mj s (s.aT.map fun _=>sX))) (i:Int) (jG c sX)=(List.range (i+1)).map (Mj s (s.aT.map fun _=>sX)):=by
   rw[aOq _ _ _ (by
    have:=aH7 (fun j=>jG (s.aT.getD j 0) ((s.aT.map fun _=>sX).getD j sX)) i (i:Int)
    rw[if_neg (by simp[bO])] at this
    exact this),List.range_succ,List.map_append]
   congr 1
   simp[Mj,List.getD_eq_getElem?_getD,hc]
  refine aA ?_;refine kd (dat i (off+i*1)) ?_;refine aA ?_;refine bU fun g3=>?_;refine aA ?_;refine jM [1,2,3,5,6,7] ?_;refine bP 0 ?_;refine aJ 1 ?_;refine aJ 2 ?_;refine aJ 3 ?_;refine bP 4 ?_;refine aJ 5 ?_;refine aJ 6 ?_;refine aJ 7 ?_ (dI:=lW (zs:=[iv 0,iv 0,.bool false,.bool false]) (L:=[(0,1),(1,1),(2,1),(3,1)]) (iG (by kernel_rfl)) (by kernel_rfl) rfl (by simp[fI,gI,Value.cells];rfl));refine aO 8 ?_;refine Ja (kt:=3) (et:=233) (kd:=.i64) (l:=(List.range i).map (Mj s (s.aT.map fun _=>sX))) (v:=jG c sX) 2 (by kernel_rfl) (by kernel_rfl) rfl rfl rfl rfl ?_;rw[iZ];dsimp only[List.set];refine cX ?_;refine fJ ?_;refine aA ?_;refine aY [1,2,3] rfl (by decide) (fun _ h=>h) ?_;exact dW (s.aT.length - (i+1)) ⟨i+1,hlt,rfl,rfl,rfl,rfl⟩
 ·obtain rfl:i=s.aT.length:=by omega
  refine aA ?_;refine nH ?_;refine dO [] [] [0] (by simp) rfl (by decide) (by decide) fun q _ _ hfr=>?_;exact eL rfl rfl rfl fun w1 t=>⟨⟨_,_,⟨w1,q.Z⟩,rfl,rfl,⟨⟨g2,gm⟩,rfl,by simp[qQ,nY]⟩,t.newR (by simp) (by simp) (hfr (by simp) (by simp))⟩,t.below (by simp)⟩
end
section
structure jD where
 id:Int
 wr:Bool
 bT:Int
 val:Int
def jD.cells(t:jD):List Value:=[iv t.id,.bool t.wr,iv t.bT,.int .u32 t.val]
def QH(v:Value):Option jD→HP
 | none=>Ph (∃A,v=.slice A 0 0)
 | some t=>HP.own 259 4 v 1 t.cells
structure BL where
 b:Nat
 gr:Nat
 gw:Nat
def iH(ws:List (Option jD))(i:Nat):Nat:=if((ws[i]?).join).isSome then 1 else 0
def aFc(g n:Nat)(ws:List (Option jD)):HP:=HP.ex fun vs:List Value=>HP.many (HP.aE g 267 vs::Ph (vs.length=n)::(List.range n).map fun i=>QH (vs.getD i undef) (ws[i]?).join)
def zO(L:BL)(ms:List Int)(ws:List (Option jD))(aQ:Int):HP:=HP.many [HP.aE L.b 270 [.slice (some ⟨L.gr,0,none⟩) ms.length ms.length,.slice (some ⟨L.gw,0,none⟩) ms.length ms.length,iv aQ],HP.aE L.gr 3 (aK ms),aFc L.gw ms.length ws]
structure Iz(w:World)(L:BL)(ms:List Int)(ws:List (Option jD))(aQ:Int):Prop where
 r0:eG w L.b 0 [.slice (some ⟨L.gr,0,none⟩) ms.length ms.length,.slice (some ⟨L.gw,0,none⟩) ms.length ms.length,iv aQ]
 rg:eG w L.gr 0 (aK ms)
 wt:∀i,i < ms.length→∃A c,fR w L.gw i (.slice A (iH ws i) c)
theorem Iz.below{w w':World}{L:BL}{ms:List Int}{ws:List (Option jD)}{aQ:Int}(h:Iz w L ms ws aQ)(hb:Below w.heap.size w w'):Iz w' L ms ws aQ:=
 ⟨h.r0.below hb,h.rg.below hb,fun i hi=>by
  obtain⟨A,c,h1,h2⟩:=h.wt i hi
  exact⟨A,c,Nat.lt_of_lt_of_le h1 hb.size,(hb.cell (p:=⟨_,i,none⟩) h1).trans h2⟩⟩
theorem aKG{L:BL}{ms:List Int}{ws:List (Option jD)}{aQ:Int}{F:Nat→Prop}{w:World}(h:(zO L ms ws aQ).sat F w):Iz w L ms ws aQ:=by
 obtain⟨G,g1,g2,_⟩:=h;refine⟨wD (g1 0 _ rfl).2,wD (g1 1 _ rfl).2,fun i hi=>?_⟩;obtain⟨vs,G',k1,_,_⟩:=g1 2 _ rfl
 have hb:=wD (k1 0 _ rfl).2
 have hl:vs.length=ms.length:=k1 1 _ rfl
 obtain⟨v,hv⟩:=get_some (l:=vs) (i:=i) (by omega)
 have hq:=k1 (i+2) (QH (vs.getD i undef) (ws[i]?).join) (by
  rw[List.getElem?_cons_succ,List.getElem?_cons_succ,List.getElem?_map,List.getElem?_range hi];rfl)
 rw[List.getD_eq_getElem?_getD,hv] at hq
 have hc:=hb.at_ hv
 rw[Nat.zero_add] at hc;unfold iH;cases hj:(ws[i]?).join with
 | none=>
  rw[hj] at hq;obtain⟨A,hA⟩:∃A,v=.slice A 0 0:=hq;subst hA;exact⟨A,0,hc⟩
 | some t=>
  rw[hj] at hq;obtain⟨A,c,hA,_⟩:=vC (Y:=fun _=>True) hq (fun _ _=>trivial)
  have hA:v=.slice A 1 c:=hA
  subst hA;exact⟨A,c,hc⟩
section
variable{N:cF}{w0 w:World}{e:Env}{R:List Piece}{H:List HP}{K:Act→World→Prop}{L:BL}{ms:List Int}{ws:List (Option jD)}{aQ:Int}
theorem St.aJ4(t:St w0 R H w)(i:Nat)(hi:H[i]? =some (zO L ms ws aQ)):Iz w L ms ws aQ:=by
 obtain⟨F,h1,h2,_⟩:=t.chunk hi;exact aKG h1
end
theorem aBI(L:BL)(ms:List Int)(ws:List (Option jD))(aQ:Int)(i:Int)(w:World)(hR:Iz w L ms ws aQ):
  Cz 111 #[.pointer (some ⟨L.b,0,none⟩),iv i] w (Rt (.bool (bO ms.length i)) w):=by
 have k0:=hR.r0.at_ (j:=0) rfl
 refine aN func111 ntmps111 ?_;refine aA ?_;refine bX (t:=11) rfl (fun h=>?_) (fun h=>?_)
 ·refine aA ?_;refine jT (by simp) ?_;unfold bO
  congr 1
  simp;omega
 ·refine aA ?_;refine jT (by simp) ?_
  have:bO ms.length i=false:=decide_eq_false (by omega)
  rw[this]
theorem aJ2(L:BL)(ms:List Int)(ws:List (Option jD))(aQ:Int)(i:Nat)(hi:i < ms.length)(w:World)(hR:Iz w L ms ws aQ):
  Cz 57 #[.pointer (some ⟨L.b,0,none⟩),iv (i:Int)] w (Rt (iv (iH ws i:Nat)) w):=by
 have k1:=hR.r0.at_ (j:=1) rfl
 obtain⟨A,c,hw⟩:=hR.wt i hi
 have hin:bO ms.length (i:Int)=true:=decide_eq_true (by omega)
 refine aN func57 ntmps57 ?_;refine aA ?_;refine aU (fun w1 t=>aBI L ms ws aQ i w1 (hR.below (t.below (by simp)))) ?_;rw[hin];refine aB ?_;exact dG
def aKF(ms:List Int)(v:Value)(hs:List HP)(_:Piece):Prop:=∃L:BL,v=.tuple #[.pointer (some ⟨L.b,0,none⟩),iv 0]∧hs=[zO L ms (ms.map fun _=>none) 0]
theorem aLn{N:cF}{w0:World}{e:Env}{R:List Piece}{H:List HP}{K:Act→World→Prop}{g n:Nat}{β:Type}(l:List β)(hl:l.length=n)(i:Nat)(hi:H[i]? =some (HP.aE g 267 (List.replicate n (sn))))(h:XK N w0 K e R (H.set i (aFc g n (l.map fun _=>none)))):XK N w0 K e R H:=by
 refine Bq (q:=aFc g n (l.map fun _=>none)) i hi (fun F w hs=>⟨List.replicate n (sn),fun k b=>k=0∧F b,fun k p hk=>?_,fun k b h=>h.2,fun k j b hkj h1 h2=>by have:=h1.1;have:=h2.1;omega⟩) h
 match k,hk with
 | 0,hk=>
  simp at hk;subst hk
  show(HP.aE g 267 (List.replicate n (sn))).sat (fun b=>0=0∧F b) w
  rw[show(fun b=>0=0∧F b)=F by funext b;simp];exact hs
 | 1,hk=>cases hk;show(List.replicate n (Value.slice none 0 0)).length=n;simp
 | k + 2, hk =>
  rw[List.getElem?_cons_succ,List.getElem?_cons_succ,List.getElem?_map] at hk;cases hr:(List.range n)[k]? with
  | none=>rw[hr] at hk;cases hk
  | some j =>
   rw[hr] at hk
   have hj:j < n:=List.mem_range.1 (List.mem_of_getElem? hr)
   have:((l.map fun _=>(none:Option jD))[j]?).join=none:=by
    rw[List.getElem?_map];cases l[j]? <;>rfl
   simp only[Option.map_some,Option.some.injEq,this] at hk;subst hk;refine⟨none,?_⟩;rw[List.getD_eq_getElem?_getD,List.getElem?_replicate,if_pos hj];rfl
theorem aSR(ms:List Int)(hml:ms.length≤6)(hm:∀m∈ms,0≤m∧m≤8)(A:Option Addr)(c:Nat)(w:World)(hs:aI (all w) 1 A ms.length (aK ms)):
  Cz 74 #[.slice A ms.length c] w (fun y w'=>(∃v hs q,y=.returned v∧q.w=w'∧aKF ms v hs q∧kA w hs q)∧Below w.heap.size w w'):=by
 refine aN func74 ntmps74 ?_;refine cP ?_;refine eA ?_;refine bH ?_;refine bH ?_;refine dN ?_;refine cP ?_;refine cP ?_;refine eA ?_;refine bH ?_;refine bH ?_;refine bH ?_;refine aB ?_;refine aG rfl (fun h=>absurd h (by omega)) (fun _=>?_);refine lX ?_;refine dV ?_;refine Tj (fun e R H=>∃gr gw g3,e=[(4,pt g3),(0,.slice A ms.length c)]∧R=[all w]∧H=[HP.aE g3 270 [.slice (some ⟨gr,0,none⟩) ms.length ms.length,.slice (some ⟨gw,0,none⟩) ms.length ms.length,iv 0],HP.aE gr 3 (List.replicate ms.length (iv 0)),HP.aE gw 267 (List.replicate ms.length (sn))]) ?_ ?_
 ·refine rF 6 (by kernel_rfl) (by kernel_rfl) ?_;refine bB 0 ?_;refine bB 1 ?_;refine bB 3 ?_;refine bB 4 ?_;refine Li 2 5 rfl rfl (by kernel_rfl) ?_ ?_
  ·refine mA (n:=ms.length) 8 (el:=3) (z:=iv 0) (by kernel_rfl) (by kernel_rfl) rfl rfl rfl (by omega) (by omega) (by decide) fun gr=>?_;refine nT ?_;refine cG 5 ?_;refine mA (n:=ms.length) 24 (el:=267) (z:=sn) (by kernel_rfl) (by kernel_rfl) rfl rfl rfl (by omega) (by omega) (by decide) fun gw=>?_;refine nT ?_;refine cG 6 ?_;refine kd (gA rfl) ?_;refine fA ?_;refine cG 7 ?_;refine bA fun g3=>?_;refine fA ?_;refine cG 8 ?_;refine bH ?_;refine fA ?_;refine kG ?_;refine dV ?_;exact pG ⟨gr,gw,g3,rfl,rfl,rfl⟩
  ·refine mA (n:=ms.length) 24 (el:=267) (z:=sn) (by kernel_rfl) (by kernel_rfl) rfl rfl rfl (by omega) (by omega) (by decide) fun gw=>?_;refine nT ?_;refine cG 2 ?_;refine mA (n:=ms.length) 8 (el:=3) (z:=iv 0) (by kernel_rfl) (by kernel_rfl) rfl rfl rfl (by omega) (by omega) (by decide) fun gr=>?_;refine nT ?_;refine cG 6 ?_;refine kd (gA rfl) ?_;refine fA ?_;refine cG 7 ?_;refine bA fun g3=>?_;refine fA ?_;refine cG 8 ?_;refine bH ?_;refine fA ?_;refine kG ?_;refine dV ?_;exact pG ⟨gr,gw,g3,rfl,rfl,rfl⟩
 rintro _ _ _ ⟨gr,gw,g3,rfl,rfl,rfl⟩;refine aB ?_;refine bK [(20,iv 0),(19,iv ms.length),(18,.slice A ms.length c),(4,pt g3)] ?_
 refine eJ (fun m e R H=>∃i:Nat,i≤ms.length∧m=ms.length - i∧e=[(20,iv i),(19,iv ms.length),(18,.slice A ms.length c),(4,pt g3)]∧R=[all w]∧H=[HP.aE g3 270 [.slice (some ⟨gr,0,none⟩) ms.length ms.length,.slice (some ⟨gw,0,none⟩) ms.length ms.length,iv 0],HP.aE gr 3 (aK (lD ms (ms.map fun _=>0) i)),HP.aE gw 267 (List.replicate ms.length (sn))]) ms.length ⟨0,by omega,rfl,rfl,rfl,by
  rw[Vr]
  have:List.replicate ms.length (Value.int .i64 0)=aK (ms.map fun _=>0):=by
   refine List.ext_getElem? fun j=>?_;simp only[aK,List.map_map,List.getElem?_replicate,List.getElem?_map]
   by_cases h:j < ms.length
   ·rw[if_pos h,List.getElem?_eq_getElem h];rfl
   ·rw[if_neg h,List.getElem?_eq_none (by omega)];rfl
  rw[this]⟩ fun m e R H hI=>?_
 obtain⟨i,hi,rfl,rfl,rfl,rfl⟩:=hI
 have Wo:=Vt (vs:=ms) (old:=ms.map fun _=>0) (n:=ms.length) rfl (by simp) hi
 refine aB ?_;refine aG rfl (fun hlt=>?_) (fun hge=>?_)
 ·have hlt:i < ms.length:=by omega
  obtain⟨v,hv⟩:=get_some hlt
  have hvb:=hm v (List.mem_of_getElem? hv)
  obtain⟨b,off,hB,hz,hc⟩:=hs.2 (by omega);subst hB
  have hro:fR w b (off+i) (iv v):=⟨hz,hc i _ (by simp[aK,hv])⟩
  have gZ:(aK (lD ms (ms.map fun _=>0) i)).length=ms.length:=by simp[aK,Wo]
  have iZ:(aK (lD ms (ms.map fun _=>0) i)).set i (iv v)=aK (lD ms (ms.map fun _=>0) (i+1)):=by
   rw[←Vs (by simp) hv,aK,aK,List.map_set]
  refine aA ?_;refine kd (dat i (off+i)) ?_;refine aB ?_;refine bX (t:=27) rfl (fun h=>absurd h (by omega)) (fun _=>?_);refine aB ?_;refine aG rfl (fun h=>absurd h (by omega)) (fun _=>?_);refine aB ?_;rw[iZ];refine aB ?_;exact dW (ms.length - (i+1)) ⟨i+1,hlt,rfl,rfl,rfl,rfl⟩
 ·obtain rfl:i=ms.length:=by omega
  rw[Vu rfl (by simp)];refine aB ?_;refine aLn ms rfl 2 rfl ?_;dsimp only[List.set];refine Zo ?_;refine dO [] [] [0] (by simp) rfl (by decide) (by decide) fun q _ _ hfr=>?_;exact eL rfl rfl rfl fun w1 t=>⟨⟨_,_,⟨w1,q.Z⟩,rfl,rfl,⟨⟨g3,gr,gw⟩,rfl,rfl⟩,t.newR (by simp) (by simp) (hfr (by simp) (by simp))⟩,t.below (by simp)⟩
end
section
structure aM where
 ck:List eP
 dm:List eV
 ln:List kH
 dv:List (bR×dB)
 wt:List (Option jD)
 aQ:Int
def hw0(s:aC):aM:=⟨s.aF.map zD,s.domains.map fun _=>zC,s.aT.map fun _=>sX,s.aD.map fun d=>(Ga d,Qh),s.aD.map fun _=>none,0⟩
structure HL where
 h:Nat
 T:TL
 G:GL
 R:RL
 B:BL
 A:Option Addr
 c:Nat
 ds:List (FL×Nat)
def Kq(d:bL)(l:FL×Nat):List Value:=[iv d.clock,iv d.domain,iv d.reset,.int .u32 d.iT,.pointer (some ⟨l.1.f,0,none⟩),.pointer (some ⟨l.2,0,none⟩)]
def xG(ds:List bL)(ls:List (FL×Nat)):List (List Value):=List.zipWith Kq ds ls
def Sh(d:bL)(p:(FL×Nat)×(bR×dB)):HP:=HP.many [iF p.1.1 d p.2.1,vD p.1.2 p.2.2]
def zB(ds:List bL)(ls:List (FL×Nat))(xs:List (bR×dB)):List HP:=List.zipWith Sh ds (ls.zip xs)
def kK(s:aC):List Int:=s.aD.map fun d=>(d.aL.length:Int)
def Xf(L:HL)(n:Nat):List Value:=[.pointer (some ⟨L.T.t,0,none⟩),.pointer (some ⟨L.G.t,0,none⟩),.pointer (some ⟨L.R.t,0,none⟩),.pointer (some ⟨L.B.b,0,none⟩),.slice L.A n L.c]
def dR(L:HL)(s:aC)(x:aM):HP:=HP.many [HP.aE L.h 113 (Xf L s.aD.length),rI L.T s x.ck,wN L.G s x.dm,qQ L.R s x.ln,zO L.B (kK s) x.wt x.aQ,HP.own 106 6 (.slice L.A s.aD.length L.c) s.aD.length (xG s.aD L.ds).flatten,HP.many (zB s.aD L.ds x.dv)]
def aK2(s:aC)(v:Value)(hs:List HP)(_:Piece):Prop:=∃L:HL,v=.tuple #[.pointer (some ⟨L.h,0,none⟩),iv 0]∧hs=[dR L s (hw0 s)]∧L.T.fa.length=s.aF.length∧L.ds.length=s.aD.length
theorem He(s:aC):(kK s).length=s.aD.length:=by simp[kK]
theorem aRt{ds:List bL}{i:Nat}{d:bL}(hd:ds[i]? =some d){ls:List (FL×Nat)}(hl:ls.length=i)(l:FL×Nat):zB (ds.take (i+1)) (ls++[l]) ((ds.take (i+1)).map fun d=>(Ga d,Qh))=zB (ds.take i) ls ((ds.take i).map fun d=>(Ga d,Qh))++[Sh d (l,(Ga d,Qh))]:=by
 have hlt:i < ds.length:=Az hd
 rw[List.take_succ,hd,Option.toList_some,List.map_append];unfold zB;rw[List.zip_append (by simp;omega),List.zipWith_append (by simp;omega)];rfl
theorem aRs{ds:List bL}{i:Nat}{d:bL}(hd:ds[i]? =some d){ls:List (FL×Nat)}(hl:ls.length=i)(l:FL×Nat):(xG (ds.take (i+1)) (ls++[l])).flatten=(xG (ds.take i) ls).flatten++Kq d l:=by
 have hlt:i < ds.length:=Az hd
 rw[List.take_succ,hd,Option.toList_some];unfold xG;rw[List.zipWith_append (by simp;omega),List.flatten_append];simp
theorem uZ{N:cF}{w0:World}{e:Env}{R:List Piece}{H:List HP}{K:Act→World→Prop}{p:HP}{ps:List HP}(h:XK N w0 K e R (HP.many (ps++[p])::H)):XK N w0 K e R (HP.many ps::p::H):=fun a w hr st=>
 (Zp (ps:=ps) (p:=p) h) a w hr (st.weak (fun _ h=>h) (fun i=>match i with
  | 0=>1
  | 1=>0
  | i+2=>i+2) (fun i j _ _ he=>by
   match i,j with
   | 0,0=>rfl
   | 0,1=>simp at he
   | 0,j+2=>simp at he
   | 1,0=>simp at he
   | 1,1=>rfl
   | 1,j+2=>simp at he
   | i+2,0=>simp at he
   | i+2,1=>simp at he
   | i+2,j+2=>simpa using he) (fun i p hi=>by
   match i,hi with
   | 0,hi=>simpa using hi
   | 1,hi=>simpa using hi
   | i+2,hi=>simpa using hi))
theorem aT8{N:cF}{w0:World}{e:Env}{R:List Piece}{H:List HP}{K:Act→World→Prop}(h:XK N w0 K e R (HP.many []::H)):XK N w0 K e R H:=Bv (p:=HP.many []) (fun w=>⟨fun _ _=>False,fun i p hp=>by simp at hp,fun _ _ h=>h,fun _ _ _ _ h=>h.elim⟩) h
theorem aQh(s:aC)(hH:s.dJ)(A1 A2 A3 A4:Option Addr)(n1 k1 n2 k2 n3 k3 n4 k4:Nat)(w:World)(hW:fL w s A1 n1 A2 n2 A3 n3 A4 n4):
  Cz 34 #[.agg #[.slice A1 n1 k1,.slice A2 n2 k2,.slice A3 n3 k3,.slice A4 n4 k4]] w (fun y w'=>(∃v hs q,y=.returned v∧q.w=w'∧aK2 s v hs q∧kA w hs q)∧Below w.heap.size w w'):=by
 have nD:=hH.t.nv
 obtain⟨rv,Rh,qZ,vX⟩:=hW.dev;obtain⟨da,jA,rfl,hda⟩:=aEz Rh;subst qZ;refine aN func34 ntmps34 ?_;refine aB ?_;refine bA fun g1=>?_;refine aB ?_;refine aU (fun w1 t=>Sv s A1 A2 A3 A4 n1 k1 n2 k2 n3 k3 _ k4 w1 (hW.le (t.started (by simp))) hH.t.Su) ?_;refine aB ?_;refine iY (aKi s) (fun w1 t=>aSz s hH A1 A2 A3 A4 n1 k1 n2 k2 n3 k3 _ k4 w1 (hW.le (t.started (by simp)))) ?_;rintro _ _ q1 ⟨LT,rfl,rfl,hfa⟩ _;dsimp only[List.cons_append,List.nil_append];refine aB ?_;refine iY (aK8 s) (fun w1 t=>aN5 s hH A1 A2 A3 A4 n1 k1 n2 k2 n3 k3 _ k4 w1 (hW.le (t.started (by simp)))) ?_;rintro _ _ q2 ⟨LG,rfl,rfl⟩ _;dsimp only[List.cons_append,List.nil_append];refine aB ?_;refine iY (aKz s) (fun w1 t=>aMr s hH A1 A2 A3 A4 n1 k1 n2 k2 n3 k3 _ k4 w1 (hW.le (t.started (by simp)))) ?_;rintro _ _ q3 ⟨LR,rfl,rfl⟩ _;dsimp only[List.cons_append,List.nil_append];refine aB ?_;refine bA fun g2=>?_;refine aB ?_;refine mA (n:=s.aD.length) 8 (el:=3) (z:=iv 0) (by kernel_rfl) (by kernel_rfl) rfl rfl rfl (by omega) (by omega) (by decide) fun gm=>?_;refine aB ?_;refine iP 106 6 ?_;refine aT8 ?_;refine aY [0,1,2,3,4,5,6] rfl (by decide) (R':=[all w]) (by simp) ?_;refine bK [(56,iv 0),(55,iv s.aD.length),(54,.slice A4 s.aD.length k4),(10,.slice (some ⟨gm,0,none⟩) s.aD.length s.aD.length),(9,pt g2)] ?_;refine eJ (fun m e R H=>∃(i:Nat) (A:Option Addr) (c:Nat) (ls:List (FL×Nat)),i≤s.aD.length∧ls.length=i∧m=s.aD.length - i∧e=[(56,iv i),(55,iv s.aD.length),(54,.slice A4 s.aD.length k4),(10,.slice (some ⟨gm,0,none⟩) s.aD.length s.aD.length),(9,pt g2)]∧R=[all w]∧H=[HP.many (zB (s.aD.take i) ls ((s.aD.take i).map fun d=>(Ga d,Qh))),HP.own 106 6 (.slice A i c) i (xG (s.aD.take i) ls).flatten,HP.aE gm 3 (aK (lD (kK s) ((kK s).map fun _=>0) i)),HP.aE g2 113 [.pointer (some ⟨LT.t,0,none⟩),.pointer (some ⟨LG.t,0,none⟩),.pointer (some ⟨LR.t,0,none⟩),.pointer none,.slice A i c],qQ LR s (hw0 s).ln,wN LG s (hw0 s).dm,rI LT s (hw0 s).ck]) s.aD.length ⟨0,none,0,[],by omega,rfl,rfl,rfl,rfl,?_⟩ fun m e R H hI=>?_
 ·have:List.replicate s.aD.length (Value.int .i64 0)=aK (lD (kK s) ((kK s).map fun _=>0) 0):=by
   rw[Vr];refine List.ext_getElem? fun j=>?_;simp only[aK,kK,List.map_map,List.getElem?_replicate,List.getElem?_map]
   by_cases h:j < s.aD.length
   ·rw[if_pos h,List.getElem?_eq_getElem h];rfl
   ·rw[if_neg h,List.getElem?_eq_none (by omega)];rfl
  rw[this];rfl
 obtain⟨i,A,c,ls,hi,pQ,rfl,rfl,rfl,rfl⟩:=hI
 have hml:=He s
 have Wo:=Vt (vs:=kK s) (old:=(kK s).map fun _=>0) (n:=s.aD.length) hml (by simp[kK]) hi
 refine aB ?_;refine aG rfl (fun hlt=>?_) (fun hge=>?_)
 ·have hlt:i < s.aD.length:=by omega
  obtain⟨d,hd⟩:=get_some hlt;obtain⟨⟨a1,a2⟩,ha⟩:=get_some (l:=da) (i:=i) (by omega);obtain⟨aDG,aIj⟩:=hda i d _ hd ha
  have hfit:=hH.t.aD i d hd
  obtain⟨b,off,hB,hro⟩:=aI.row vX (aAi (f:=Bl) (es:=s.aD) (bs:=da) (sz:=6) jA (fun _ _=>rfl)).2 (Ub (f:=Bl) hd ha) hlt;subst hB;refine aA ?_;refine kd (dat i (off+i*6)) ?_;refine aB ?_;refine bU fun g3=>?_
  have hmi:(kK s)[i]? =some (d.aL.length:Int):=by rw[kK,List.getElem?_map,hd];rfl
  have gZ:(aK (lD (kK s) ((kK s).map fun _=>0) i)).length=s.aD.length:=by simp[aK,Wo]
  have iZ:(aK (lD (kK s) ((kK s).map fun _=>0) i)).set i (iv d.aL.length)=aK (lD (kK s) ((kK s).map fun _=>0) (i+1)):=by
   rw[←Vs (by simp) hmi,aK,aK,List.map_set]
  refine aB ?_;refine iY (aKC d) (fun w1 t=>aMO d (by have:=hfit.2.2.2.2.2.2.2.2.1;omega) (fun r hr=>by have:=hfit.2.2.2.2.2.2.2.2.2.1 r hr;omega) a1.1 a1.2 w1 (aI.le aDG (t.le (by simp)))) ?_;rintro _ _ q1 ⟨LF,rfl,rfl⟩ _;dsimp only[List.cons_append,List.nil_append];refine aB ?_;refine aU (fun w1 t=>Vc LF d (Ga d) w1 (t.aEq 0 rfl)) ?_;refine aB ?_;rw[iZ];refine aA ?_;refine jM [2,3,4,5,6,7,8,9,10,11,12] ?_;refine bP 0 ?_;refine bP 1 ?_;refine bP 13 ?_;refine aJ 2 ?_;refine aJ 3 ?_;refine aJ 4 ?_;refine aJ 5 ?_;refine aJ 6 ?_;refine aJ 7 ?_;refine aJ 8 ?_;refine aJ 9 ?_;refine aJ 10 ?_;refine aJ 11 ?_;refine aJ 12 ?_;refine aO 14 ?_;refine iY (fun v hs _=>∃g,v=pt g∧hs=[HP.aE g 266 [iv 0,iv 0]]) (fun w1 t=>aNu w1) ?_;rintro _ _ q2 ⟨gq,rfl,rfl⟩ _;dsimp only[List.cons_append,List.nil_append];refine bM ?_;refine aO 15 ?_;refine kd (gA rfl) ?_;refine bM ?_;refine aO 16 ?_;refine eH fun g4=>?_;refine bM ?_ (hS:=fun _ h=>h.tail.aZ.tail);refine aO 17 ?_;refine gH 5 6 48 1 (n':=i+1) (el:=106) (by kernel_rfl) (by kernel_rfl) (by decide) rfl rfl rfl (nL 0 rfl rfl) (by simp[Value.oneCell']) rfl (by omega) (by omega) (by decide) fun An cn=>?_;dsimp only[List.set];refine cX ?_;refine aO 18 ?_;refine bH ?_;refine cX ?_;refine aO 19 ?_;refine bH ?_;refine cX ?_;refine aO 20 ?_;refine fG rfl rfl ?_;dsimp only[List.set];refine cX ?_;refine fJ ?_;refine aA ?_;refine aY [2,1,4,5,6,7,8,9,10] rfl (by decide) (R':=[all w]) (by simp) ?_;refine nH ?_;refine Zp ?_;refine bK [(56,iv (i+1:Nat)),(55,iv s.aD.length),(54,.slice (some ⟨b,off,none⟩) s.aD.length k4),(10,.slice (some ⟨gm,0,none⟩) s.aD.length s.aD.length),(9,pt g2)] ?_;exact iC (s.aD.length - (i+1)) (by omega) ⟨i+1,An,cn,ls++[(LF,gq)],hlt,by simp;omega,rfl,rfl,rfl,by rw[aRt hd pQ,aRs hd pQ];rfl⟩
 ·obtain rfl:i=s.aD.length:=by omega
  rw[Vu hml (by simp[kK])];rw[List.take_length];refine aB ?_
  refine iY (aKF (kK s)) (fun w1 t=>by
   have:=aSR (kK s) (by omega) (fun m hm=>by
    obtain⟨d,hd,rfl⟩:=List.mem_map.1 hm;obtain⟨j,hj⟩:=List.getElem?_of_mem hd
    have:=(hH.t.aD j d hj).2.2.2.2.2.2.2.2.1
    omega) (some ⟨gm,0,none⟩) s.aD.length w1
   rw[hml] at this
   exact this (t.rQ (i:=2) rfl (by simp[aK,hml]))) ?_
  rintro _ _ q1 ⟨LB,rfl,rfl⟩ _;dsimp only[List.cons_append,List.nil_append];refine aB ?_;refine aY [4,7,6,5,0,2,1] rfl (by decide) (R':=[all w]) (by simp) ?_;refine nH ?_;refine uZ ?_;refine uZ ?_;refine uZ ?_;refine uZ ?_;refine uZ ?_;dsimp only[List.cons_append,List.nil_append];refine dO [] [] [0] (by simp) rfl (by decide) (by decide) fun q _ _ hfr=>?_;exact eL rfl rfl rfl fun w1 t=>⟨⟨_,_,⟨w1,q.Z⟩,rfl,rfl,⟨⟨g2,LT,LG,LR,LB,A,c,ls⟩,rfl,by simp[dR,Xf,hw0,kK,Function.comp_def],hfa,pQ⟩,t.newR (by simp) (by simp) (hfr (by simp) (by simp))⟩,t.below (by simp)⟩
end
section
structure cM(s:aC)(x:aM):Prop where
 ck:qS s x.ck
 dm:vG s x.dm
 ln:Gm s x.ln
 dv:x.dv.length=s.aD.length
 each:∀(i:Nat) (d:bL) (p:bR×dB),s.aD[i]? =some d→x.dv[i]? =some p→wP d p.1∧Cc p.2
 wt:x.wt.length=s.aD.length
structure iU(L:HL)(s:aC):Prop where
 fa:L.T.fa.length=s.aF.length
 ds:L.ds.length=s.aD.length
structure vE(w:World)(L:HL)(s:aC)(x:aM):Prop where
 r0:eG w L.h 0 (Xf L s.aD.length)
 tree:xN w L.T s x.ck
 aEi:aK7 w L.G s x.dm
 lines:Ln w L.R s x.ln
 bus:Iz w L.B (kK s) x.wt x.aQ
 rows:aI (all w) 6 L.A s.aD.length (xG s.aD L.ds).flatten
 each:∀(i:Nat) (d:bL) (l:FL×Nat) (p:bR×dB),s.aD[i]? =some d→L.ds[i]? =some l→x.dv[i]? =some p→Ee w l.1 d p.1∧eG w l.2 0 (Tv p.2)
theorem vE.below{w w':World}{L:HL}{s:aC}{x:aM}(h:vE w L s x)(hb:Below w.heap.size w w'):vE w' L s x:=
 ⟨h.r0.below hb,h.tree.below hb,Dy.below h.aEi hb,h.lines.below hb,h.bus.below hb,h.rows.le (jS hb),fun i d l p h1 h2 h3=>⟨(h.each i d l p h1 h2 h3).1.below hb,(h.each i d l p h1 h2 h3).2.below hb⟩⟩
theorem aUs{L:HL}{s:aC}{x:aM}{F:Nat→Prop}{w:World}(h:(dR L s x).sat F w)(hF:∀b,F b→b < w.heap.size)(hL:iU L s)(hok:cM s x):vE w L s x:=by
 obtain⟨G,g1,g2,_⟩:=h
 have hl:∀i b,G i b→b < w.heap.size:=fun i b hb=>hF b (g2 i b hb)
 obtain⟨A',c',he,hs⟩:=vC (Y:=fun b=>b < w.heap.size) (g1 5 _ rfl) (hl 5)
 injection he with he
 subst he;refine⟨wD (g1 0 _ rfl).2,aKj (g1 1 _ rfl) (hl 1) hL.fa hok.ck,aKr (g1 2 _ rfl) (hl 2),aK0 (g1 3 _ rfl),aKG (g1 4 _ rfl),hs,fun i d l p h1 h2 h3=>?_⟩;obtain⟨G',k1,k2,_⟩:=g1 6 _ rfl
 have hz:(zB s.aD L.ds x.dv)[i]? =some (Sh d (l,p)):=by
  have hq:(L.ds.zip x.dv)[i]? =some (l,p):=List.getElem?_zip_eq_some.2 ⟨h2,h3⟩
  rw[zB,List.getElem?_zipWith,h1,hq]
 have hj:∀b,G' i b→b < w.heap.size:=fun b hb=>hl 6 b (k2 i b hb)
 obtain⟨G2,m1,m2,_⟩:=k1 i _ hz;exact⟨aAg (m1 0 _ rfl) (fun b hb=>hj b (m2 0 b hb)),wD (m1 1 _ rfl).2⟩
section
variable{N:cF}{w0 w:World}{e:Env}{R:List Piece}{H:List HP}{K:Act→World→Prop}{L:HL}{s:aC}{x:aM}
theorem St.nF(t:St w0 R H w)(i:Nat)(hi:H[i]? =some (dR L s x))(hL:iU L s)(hok:cM s x):vE w L s x:=by
 obtain⟨F,h1,h2,_⟩:=t.chunk hi;exact aUs h1 h2 hL hok
end
section
variable(L:HL)(s:aC)(x:aM)(w:World)
theorem Dj(hR:vE w L s x):Cz 54 #[.pointer (some ⟨L.h,0,none⟩)] w (Rt (.bool true) w):=by
 have k0:=hR.r0.at_ (j:=0) rfl
 have k1:=hR.r0.at_ (j:=1) rfl
 have k2:=hR.r0.at_ (j:=2) rfl
 have k3:=hR.r0.at_ (j:=3) rfl
 refine aN func54 ntmps54 ?_;refine aA ?_;exact dG
theorem Rs(i:Int)(hR:vE w L s x):Cz 40 #[.pointer (some ⟨L.h,0,none⟩),iv i] w (Rt (.bool (bO s.aD.length i)) w):=by
 have k0:=hR.r0.at_ (j:=4) rfl
 refine aN func40 ntmps40 ?_;refine aA ?_;refine aU (fun w1 t=>Dj L s x w1 (hR.below (t.below (by simp)))) ?_;refine aA ?_;refine bX (t:=11) rfl (fun h=>?_) (fun h=>?_)
 ·refine aA ?_;refine jT (by simp) ?_;unfold bO
  congr 1
  simp;omega
 ·refine aA ?_;refine jT (by simp) ?_
  have:bO s.aD.length i=false:=decide_eq_false (by omega)
  rw[this]
theorem aPM(i:Nat)(hi:i < s.aD.length)(hR:vE w L s x):Cz 97 #[.pointer (some ⟨L.h,0,none⟩),iv (i:Int)] w (Rt (iv (iH x.wt i:Nat)) w):=by
 have k0:=hR.r0.at_ (j:=3) rfl
 have hin:bO s.aD.length (i:Int)=true:=decide_eq_true (by omega)
 refine aN func97 ntmps97 ?_;refine aA ?_;refine aU (fun w1 t=>Rs L s x w1 i (hR.below (t.below (by simp)))) ?_;rw[hin];refine aA ?_;refine aU (fun w1 t=>aJ2 L.B (kK s) x.wt x.aQ i (by rw[He];exact hi) w1 (hR.bus.below (t.below (by simp)))) ?_;refine aA ?_;exact dG
theorem aDV(hok:vG s x.dm)(i:Int)(hR:vE w L s x):Cz 173 #[.pointer (some ⟨L.h,0,none⟩),iv i] w (Rt (.int .u8 (rU x.dm i)) w):=by
 have k0:=hR.r0.at_ (j:=1) rfl
 refine aN func173 ntmps173 ?_;refine aA ?_;refine aU (fun w1 t=>Dj L s x w1 (hR.below (t.below (by simp)))) ?_;refine aA ?_;refine aU (fun w1 t=>aHg L.G s x.dm hok i w1 (Dy.below hR.aEi (t.below (by simp)))) ?_;refine aA ?_;exact dG
theorem aPQ(i:Int)(hR:vE w L s x):Cz 181 #[.pointer (some ⟨L.h,0,none⟩),iv i] w (Rt (.bool (Ba x.ln i)) w):=by
 have k0:=hR.r0.at_ (j:=2) rfl
 refine aN func181 ntmps181 ?_;refine aA ?_;refine aU (fun w1 t=>Dj L s x w1 (hR.below (t.below (by simp)))) ?_;refine aA ?_;refine aU (fun w1 t=>aG8 L.R s x.ln i w1 (hR.lines.below (t.below (by simp)))) ?_;refine aA ?_;exact dG
end
end
section
theorem aHR{s:aC}(h:s.dJ):cM s (hw0 s):=by
 refine⟨⟨by simp[hw0],fun x hx=>?_⟩,⟨by simp[hw0],fun x hx=>?_,fun x hx=>?_⟩,⟨by simp[hw0],fun x hx=>?_⟩,by simp[hw0],fun i d p hd hp=>?_,by simp[hw0]⟩
 ·obtain⟨c,hc,rfl⟩:=List.mem_map.1 hx;obtain⟨i,hi⟩:=List.getElem?_of_mem hc
  have:=(h.t.aF i c hi).2
  unfold zD;dsimp only;split
  ·omega
  ·omega
 ·obtain⟨c,hc,rfl⟩:=List.mem_map.1 hx;simp[zC]
 ·obtain⟨c,hc,rfl⟩:=List.mem_map.1 hx;simp[zC]
 ·obtain⟨c,hc,rfl⟩:=List.mem_map.1 hx;simp[sX]
 ·simp only[hw0,List.getElem?_map,hd,Option.map_some] at hp;cases hp
  have hf:=h.t.aD i d hd
  refine⟨⟨by simp[Ga],by simp[Ga],fun v hv=>?_,fun v hv=>?_⟩,by simp[Cc,Qh]⟩
  ·obtain⟨r,hr,rfl⟩:=List.mem_map.1 hv
   have:=hf.2.2.2.2.2.2.2.2.2.1 r hr
   omega
  ·simp only[Ga,List.mem_map] at hv;obtain⟨r,_,rfl⟩:=hv;omega
theorem aCu{s:aC}(h:s.wY):(dP s).sm:=by
 have h1:=h.nc
 have h2:=h.nd
 have h3:=h.nr
 exact⟨by simp[dP];omega,by simp[dP];omega,by simp[dP];omega⟩
end
section
theorem yH{α:Type}{l:List α}{i:Nat}{x:α}(h:l[i]? =some x):l.set i x=l:=by
 refine List.ext_getElem? fun j=>?_;rw[List.getElem?_set]
 by_cases he:i=j
 ·subst he;rw[if_pos rfl,if_pos (List.getElem?_eq_some_iff.1 h).1,h]
 ·rw[if_neg he]
def uO(s:aC)(st:List eP)(i:Nat):List Value:=(List.range s.aF.length).map fun j=>.bool (decide (j < i)&&runs s st j)
theorem aNq(s:aC)(st:List eP):List.replicate s.aF.length (Value.bool false)=uO s st 0:=by
 refine List.ext_getElem? fun j=>?_;rw[uO,List.getElem?_replicate,List.getElem?_map]
 by_cases hl:j < s.aF.length
 ·rw[List.getElem?_range hl];simp[hl]
 ·rw[List.getElem?_eq_none (l:=List.range s.aF.length) (by simp;omega)];simp[hl]
theorem aNr(s:aC)(st:List eP)(i:Nat):(uO s st i).set i (.bool (runs s st i))=uO s st (i+1):=by
 refine List.ext_getElem? fun j=>?_;simp only[uO,List.getElem?_set,List.getElem?_map,List.length_map,List.length_range]
 by_cases he:i=j
 ·subst he
  by_cases hl:i < s.aF.length
  ·rw[if_pos rfl,if_pos hl,List.getElem?_range hl];simp
  ·rw[if_pos rfl,if_neg hl,List.getElem?_eq_none (by simp;omega)];rfl
 ·rw[if_neg he]
  by_cases hl:j < s.aF.length
  ·rw[List.getElem?_range hl]
   have:decide (j < i)=decide (j < i+1):=by simp;omega
   simp[this]
  ·rw[List.getElem?_eq_none (by simp;omega)];rfl
theorem aNs{s:aC}{st:List eP}{j:Nat}(h:j < s.aF.length):(uO s st s.aF.length)[j]? =some (.bool (runs s st j)):=by
 simp[uO,h]
def qG(s:aC)(st:List eP)(i:Nat):List eP:=(lQ s st).take i++st.drop i
theorem aOx(s:aC)(st:List eP):qG s st 0=st:=by simp[qG]
theorem aO1{s:aC}{st:List eP}(hok:qS s st):qG s st s.aF.length=lQ s st:=by
 have hl:=hok.len
 rw[qG,List.drop_eq_nil_of_le (by omega),List.append_nil,List.take_of_length_le (by simp[lQ];omega)]
theorem aO0{s:aC}{st:List eP}(hok:qS s st){i:Nat}(hi:i < s.aF.length):(qG s st i)[i]? =st[i]? :=by
 have hl:=hok.len
 have:((lQ s st).take i).length=i:=by simp[lQ];omega
 rw[qG,List.getElem?_append_right (by omega),this,Nat.sub_self,List.getElem?_drop,Nat.add_zero]
theorem aDr{s:aC}{st:List eP}(hok:qS s st){i:Nat}(hi:i≤s.aF.length):(qG s st i).length=s.aF.length:=by
 have hl:=hok.len
 simp[qG,lQ];omega
theorem aOy{s:aC}{st:List eP}(hok:qS s st){i:Nat}{c:eD}{x:eP}(hc:s.aF[i]? =some c)(hx:st[i]? =some x):(qG s st i).set i (vM s st c x)=qG s st (i+1):=by
 have hl:=hok.len
 have hi:=(List.getElem?_eq_some_iff.1 hc).1
 have ht:(lQ s st)[i]? =some (vM s st c x):=by rw[lQ,List.getElem?_zipWith,hc,hx]
 have nP:(lQ s st).length=s.aF.length:=by simp[lQ];omega
 refine List.ext_getElem? fun j=>?_;rw[List.getElem?_set]
 by_cases he:i=j
 ·subst he;rw[if_pos rfl,if_pos (by rw[aDr hok (by omega)];exact hi),qG,List.getElem?_append_left (by rw[List.length_take];omega),List.getElem?_take_of_lt (by omega),ht]
 ·rw[if_neg he,qG,qG];rcases Nat.lt_or_ge j i with hj | hj
  ·rw[List.getElem?_append_left (by rw[List.length_take];omega),List.getElem?_append_left (by rw[List.length_take];omega),List.getElem?_take_of_lt hj,List.getElem?_take_of_lt (by omega)]
  ·rw[List.getElem?_append_right (by rw[List.length_take];omega),List.getElem?_append_right (by rw[List.length_take];omega),List.getElem?_drop,List.getElem?_drop,List.length_take,List.length_take]
   congr 1
   omega
theorem aLw{s:aC}{st:List eP}(hH:s.dJ)(hok:qS s st){i:Nat}{c:eD}{x:eP}(hc:s.aF[i]? =some c)(hx:x∈st):0≤(vM s st c x).left∧(vM s st c x).left≤3:=by
 have h1:=hok.left x hx
 have h2:=(hH.t.aF i c hc).2
 have h3:0≤c.lock∧c.lock≤3:=by omega
 unfold vM;split
 ·split
  ·exact h3
  ·split
   ·dsimp only;omega
   ·exact h1
 ·exact h1
theorem aCH{s:aC}{st:List eP}(hH:s.dJ)(hok:qS s st):qS s (lQ s st):=by
 have hl:=hok.len
 refine⟨by simp[lQ];omega,fun x hx=>?_⟩;obtain⟨j,hj⟩:=List.getElem?_of_mem hx;rw[lQ,List.getElem?_zipWith] at hj;cases hc:s.aF[j]? with
 | none=>rw[hc] at hj;cases hj
 | some c =>
  cases hy:st[j]? with
  | none=>rw[hc,hy] at hj;cases hj
  | some y=>
   rw[hc,hy] at hj;cases hj;exact aLw hH hok hc (List.mem_of_getElem? hy)
theorem aOz{s:aC}{st:List eP}(hH:s.dJ)(hok:qS s st){i:Nat}(hi:i≤s.aF.length):qS s (qG s st i):=⟨aDr hok hi,fun x hx=>by
 rcases List.mem_append.1 hx with h | h
 ·exact(aCH hH hok).left x (List.mem_of_mem_take h)
 ·exact hok.left x (List.mem_of_mem_drop h)⟩
theorem aSv(L:TL)(s:aC)(st:List eP)(hH:s.dJ)(hfl:L.fa.length=s.aF.length)(hok:qS s st)(w:World)(F:Nat→Prop)(hp:(rI L s st).sat F w)(hF:∀b,F b→b < w.heap.size):
  Cz 58 #[.pointer (some ⟨L.t,0,none⟩)] w (Wr (.tuple #[]) (rI L s (lQ s st)) w F):=by
 have hnc:=hH.t.nc
 have hl:=hok.len
 refine dK func58 ntmps58 hp hF ?_
 have aDI:Rd w [⟨w,fun b=>b < w.heap.size∧¬F b⟩] [rI L s st] L.t 0 (.slice L.A s.aF.length L.c):=Rd.tree 0 rfl hfl hok
 refine aA ?_;refine mA (n:=s.aF.length) 1 (el:=4) (z:=.bool false) (by kernel_rfl) (by kernel_rfl) rfl rfl rfl (by omega) (by omega) (by decide) fun g1=>?_
 have aIc:Rd w [⟨w,fun b=>b < w.heap.size∧¬F b⟩] [HP.aE g1 4 (List.replicate s.aF.length (.bool false)),rI L s st] L.t 0 (.slice L.A s.aF.length L.c):=Rd.tree 1 rfl hfl hok
 refine aA ?_;rw[aNq s st];refine bK [(19,iv 0),(18,iv s.aF.length),(2,.slice (some ⟨g1,0,none⟩) s.aF.length s.aF.length),(0,.pointer (some ⟨L.t,0,none⟩))] ?_;refine eJ (fun m e R H=>∃i:Nat,i≤s.aF.length∧m=s.aF.length - i∧e=[(19,iv i),(18,iv s.aF.length),(2,.slice (some ⟨g1,0,none⟩) s.aF.length s.aF.length),(0,.pointer (some ⟨L.t,0,none⟩))]∧R=[⟨w,fun b=>b < w.heap.size∧¬F b⟩]∧H=[HP.aE g1 4 (uO s st i),rI L s st]) s.aF.length ⟨0,by omega,rfl,rfl,rfl,rfl⟩ fun m e R H hI=>?_;obtain⟨i,hi,rfl,rfl,rfl,rfl⟩:=hI;refine aA ?_;refine aG rfl (fun hlt=>?_) (fun hge=>?_)
 ·have hlt:i < s.aF.length:=by omega
  have kL:(uO s st i).length=s.aF.length:=by simp[uO]
  refine aA ?_;refine aU (fun w1 t=>Yw L s st hH i w1 (t.aCF 1 rfl hfl hok)) ?_;rw[show qC s st (i:Int)=runs s st i by simp[qC,bO,hlt]];refine aB ?_;rw[aNr];exact dW (s.aF.length - (i+1)) ⟨i+1,hlt,rfl,rfl,rfl,rfl⟩
 ·obtain rfl:i=s.aF.length:=by omega
  have aPr:Rd w [⟨w,fun b=>b < w.heap.size∧¬F b⟩] [HP.aE g1 4 (uO s st s.aF.length),rI L s st] L.t 0 (.slice L.A s.aF.length L.c):=Rd.tree 1 rfl hfl hok
  refine aA ?_;refine bK [(34,iv 0),(33,iv s.aF.length),(2,.slice (some ⟨g1,0,none⟩) s.aF.length s.aF.length),(0,.pointer (some ⟨L.t,0,none⟩))] ?_;refine eJ (fun m e R H=>∃i:Nat,i≤s.aF.length∧m=s.aF.length - i∧e=[(34,iv i),(33,iv s.aF.length),(2,.slice (some ⟨g1,0,none⟩) s.aF.length s.aF.length),(0,.pointer (some ⟨L.t,0,none⟩))]∧R=[⟨w,fun b=>b < w.heap.size∧¬F b⟩]∧H=[HP.aE g1 4 (uO s st s.aF.length),rI L s (qG s st i)]) s.aF.length ⟨0,by omega,rfl,rfl,rfl,by rw[aOx]⟩ fun m e R H hI=>?_;obtain⟨i,hi,rfl,rfl,rfl,rfl⟩:=hI;refine aA ?_;refine aG rfl (fun hlt=>?_) (fun hge=>?_)
  ·have hlt:i < s.aF.length:=by omega
   obtain⟨c,hc⟩:=get_some hlt;obtain⟨a,ha⟩:=get_some (l:=L.fa) (i:=i) (by omega);obtain⟨x,hx⟩:=get_some (l:=st) (i:=i) (by omega)
   have Wn:=aOz hH hok hi
   have hml:=aDr hok hi
   have Na:(qG s st i)[i]? =some x:=by rw[aO0 hok hlt];exact hx
   obtain⟨iL,iK⟩:=aDl hfl Wn
   have Wp:=hok.left x (List.mem_of_getElem? hx)
   have kL:(uO s st s.aF.length).length=s.aF.length:=by simp[uO]
   have hpq:(kJ s L.fa (qG s st i)).set i (sV c a (vM s st c x))=kJ s L.fa (qG s st (i+1)):=by rw[aHt hc ha (by omega),aOy hok hc hx]
   refine aJZ 1 rfl (by omega) fun g cs hA h1 h2 h3 h4=>?_;dsimp only[List.set];rw[hA]
   have hs:=Hz h2 iL iK (Qj hc ha Na)
   have hu:=wF.refl cs (i*11) 11
   have hrd:Rd w [⟨w,fun b=>b < w.heap.size∧¬F b⟩] [HP.aE g 224 cs,HP.aE g1 4 (uO s st s.aF.length),HP.many [HP.aE L.t 227 [.slice (some ⟨g,0,none⟩) s.aF.length L.c],cH,HP.bY (uH s L.fa) (uH.le (s:=s) (fa:=L.fa))]] L.t 0 (.slice (some ⟨g,0,none⟩) s.aF.length L.c):=aUj 2 0 rfl rfl rfl
   refine aA ?_;refine kd (dat i (i*11)) ?_;obtain⟨hsrc,hfit⟩:=hH.t.aF i c hc;obtain⟨kd,src,rate,mul,dv,lock⟩:=c;obtain⟨on,left⟩:=x;dsimp only at hfit hsrc Wp;dsimp only[sV] at hs
   have Wh:kd≠112∨on=false→kJ s L.fa (qG s st i)=kJ s L.fa (qG s st (i+1)):=fun hh=>by
    rw[←hpq]
    have:vM s st ⟨kd,src,rate,mul,dv,lock⟩ ⟨on,left⟩=⟨on,left⟩:=by
     unfold vM;rw[if_neg];rintro⟨h1,h2⟩;rcases hh with hh | hh
     ·exact hh h1
     ·rw[hh] at h2;cases h2
    rw[this,yH (Qj hc ha Na)]
   rcases hfit with⟨rfl,_⟩ | ⟨rfl,rZ,_⟩ | ⟨rfl,_⟩ | ⟨rfl,_⟩ | ⟨rfl,_⟩
   ·rw[Wh (.inl (by decide))] at h2;refine aA ?_;refine mK ?_;refine jC ?_;refine aA ?_;refine Bt 1 hA h1 h2 h3 h4 rfl ?_;exact dW (s.aF.length - (i+1)) ⟨i+1,hlt,rfl,rfl,rfl,rfl⟩
   ·cases on
    ·rw[Wh (.inr rfl)] at h2;refine aA ?_;refine mK ?_;refine jC ?_;refine aA ?_;refine Bt 1 hA h1 h2 h3 h4 rfl ?_;exact dW (s.aF.length - (i+1)) ⟨i+1,hlt,rfl,rfl,rfl,rfl⟩
    ·obtain⟨f,fs,hf⟩:∃(f:Nat) (fs:List Int),src=(f:Int)::fs:=by
      cases hs0:src with
      | nil=>rw[hs0] at rZ;simp at rZ
      | cons f fs=>exact⟨f.toNat,fs,by have:=(hsrc f (by rw[hs0];simp)).1;rw[Int.toNat_of_nonneg this]⟩
     have Nb:f < i:=by have:=(hsrc f (by rw[hf];simp)).2;omega
     subst hf
     have hrun:=aNs (s:=s) (st:=st) (j:=f) (by omega)
     have cE:Rd w [⟨w,fun b=>b < w.heap.size∧¬F b⟩] [HP.aE g 224 cs,HP.aE g1 4 (uO s st s.aF.length),HP.many [HP.aE L.t 227 [.slice (some ⟨g,0,none⟩) s.aF.length L.c],cH,HP.bY (uH s L.fa) (uH.le (s:=s) (fa:=L.fa))]] g1 f (.bool (runs s st f)):=Rd.aE 1 rfl hrun
     refine aA ?_;refine aU (fun w1 t=>Ss L s (qG s st i) i f _ fs w1 (t.aLv 0 2 rfl rfl hA h2 hfl Wn) hc rfl) ?_;refine aB ?_
     have Fh:vM s st ⟨112,(f:Int)::fs,rate,mul,dv,lock⟩ ⟨true,left⟩=if runs s st f=false then⟨true,lock⟩ else if 0 < left then⟨true,left - 1⟩ else⟨true,left⟩:=by
      simp[vM,Qd]
     rw[Fh] at hpq;cases yN:runs s st f
     ·rw[yN] at cE;rw[if_pos yN] at hpq
      have hs1:=hs.set 7 (iv lock) (by simp) (by omega)
      have vW:=hu.set 7 (iv lock) (by decide)
      have gL:=Fz (r':=sV ⟨112,(f:Int)::fs,rate,mul,dv,lock⟩ a ⟨true,lock⟩) h2 iL iK hlt (by omega) rfl hs1 vW
      rw[hpq] at gL;refine aA ?_;refine Bt 1 hA (by simpa using h1) gL h3 h4 rfl ?_;exact dW (s.aF.length - (i+1)) ⟨i+1,hlt,rfl,rfl,rfl,rfl⟩
     ·rw[yN] at cE;rw[if_neg (by rw[yN];decide)] at hpq;refine aA ?_;refine aG rfl (fun hp=>?_) (fun hp=>?_)
      ·rw[if_pos hp] at hpq
       have hs1:=hs.set 7 (iv (left - 1)) (by simp) (by omega)
       have vW:=hu.set 7 (iv (left - 1)) (by decide)
       have gL:=Fz (r':=sV ⟨112,(f:Int)::fs,rate,mul,dv,lock⟩ a ⟨true,left - 1⟩) h2 iL iK hlt (by omega) rfl hs1 vW
       rw[hpq] at gL;refine aA ?_;refine Bt 1 hA (by simpa using h1) gL h3 h4 rfl ?_;exact dW (s.aF.length - (i+1)) ⟨i+1,hlt,rfl,rfl,rfl,rfl⟩
      ·rw[if_neg hp,yH (Qj hc ha Na)] at hpq;rw[hpq] at h2;refine aA ?_;refine mK ?_;refine jC ?_;refine aA ?_;refine Bt 1 hA h1 h2 h3 h4 rfl ?_;exact dW (s.aF.length - (i+1)) ⟨i+1,hlt,rfl,rfl,rfl,rfl⟩
   ·rw[Wh (.inl (by decide))] at h2;refine aA ?_;refine mK ?_;refine jC ?_;refine aA ?_;refine Bt 1 hA h1 h2 h3 h4 rfl ?_;exact dW (s.aF.length - (i+1)) ⟨i+1,hlt,rfl,rfl,rfl,rfl⟩
   ·rw[Wh (.inl (by decide))] at h2;refine aA ?_;refine mK ?_;refine jC ?_;refine aA ?_;refine Bt 1 hA h1 h2 h3 h4 rfl ?_;exact dW (s.aF.length - (i+1)) ⟨i+1,hlt,rfl,rfl,rfl,rfl⟩
   ·rw[Wh (.inl (by decide))] at h2;refine aA ?_;refine mK ?_;refine jC ?_;refine aA ?_;refine Bt 1 hA h1 h2 h3 h4 rfl ?_;exact dW (s.aF.length - (i+1)) ⟨i+1,hlt,rfl,rfl,rfl,rfl⟩
  ·obtain rfl:i=s.aF.length:=by omega
   rw[aO1 hok];refine aA ?_;exact jZ 1 hF
end
section
section
variable{N:cF}{w0 w:World}{e:Env}{R:List Piece}{H:List HP}{K:Act→World→Prop}{L:RL}{s:aC}{st:List kH}
theorem aER(i:Nat)(hi:H[i]? =some (qQ L s st))(h:XK N w0 K e R (HP.map L.g (nY s st)::HP.aE L.t 277 [.map (some L.g)]::H.set i (HP.many [cH,cH]))):XK N w0 K e R H:=by
 have hlt:=Az hi
 refine tG i 0 hi rfl ?_;refine tG (i+1) 1 (by rw[List.getElem?_cons_succ,List.getElem?_set_self hlt]) rfl ?_
 simpa[List.set_cons_succ,List.set_set] using h
theorem Tm(i:Nat)(hi:H[i]? =some (HP.many [cH,cH]))(h:XK N w0 K e R (H.set i (qQ L s st))):XK N w0 K e R (HP.map L.g (nY s st)::HP.aE L.t 277 [.map (some L.g)]::H):=by
 have hlt:=Az hi
 refine tH (i+1) 1 (by rw[List.getElem?_cons_succ];exact hi) rfl ?_;dsimp only[List.set];refine tH i 0 (by rw[List.getElem?_set_self hlt]) rfl ?_
 simpa[List.set_set,qQ] using h
end
theorem aMs(L:RL)(s:aC)(st:List kH)(hok:Gm s st)(i:Int)(w:World)(F:Nat→Prop)(hp:(qQ L s st).sat F w)(hF:∀b,F b→b < w.heap.size):
  Cz 230 #[.pointer (some ⟨L.t,0,none⟩),iv i] w (Wr (iv (tX s st i).1) (qQ L s (tX s st i).2) w F):=by
 have hl:=hok.len
 cases hi:bO st.length i
 ·have hr:tX s st i=(4,st):=by simp[tX,hi]
  have hv:uY s st i=jG 0 ⟨0,false,false⟩:=by simp[uY,hi]
  rw[hr];refine dK func230 ntmps230 hp hF ?_;refine aA ?_;refine aU (fun w1 t=>Uz L s st i w1 (t.Qt 0 rfl)) ?_;rw[hi,hv];unfold jG;refine aA ?_;refine bU fun g1=>?_;refine aA ?_;exact cI 1 hF
 ·obtain⟨n,rfl⟩:∃n:Nat,i=n:=⟨i.toNat,by have:=of_decide_eq_true hi;omega⟩
  have hlt:n < st.length:=by have:=of_decide_eq_true hi;omega
  obtain⟨r,cE⟩:=get_some (l:=s.aT) (i:=n) (by omega);obtain⟨x,hx⟩:=get_some hlt
  have hrd:s.aT.getD n 0=r:=by rw[List.getD_eq_getElem?_getD,cE];rfl
  have hr:tX s st (n:Int)=(0,st.set n ⟨r,true,false⟩):=by simp[tX,hi,cE]
  have hv:uY s st (n:Int)=jG r x:=by simp[uY,hi,List.getD_eq_getElem?_getD,cE,hx]
  rw[hr];refine dK func230 ntmps230 hp hF ?_;refine aA ?_;refine aU (fun w1 t=>Uz L s st n w1 (t.Qt 0 rfl)) ?_;rw[hi,hv];unfold jG;refine aA ?_;refine bU fun g1=>?_;refine aA ?_;refine aER 1 rfl ?_;dsimp only[List.set];refine rF 6 (by kernel_rfl) (by kernel_rfl) ?_;refine bB 0 ?_;refine bB 1 ?_;refine bB 2 ?_;refine bB 3 ?_;refine bB 4 ?_;refine bB 5 ?_;refine cG 6 ?_;refine Ja (kt:=3) (et:=233) (kd:=.i64) (l:=nY s st) (v:=jG r ⟨r,true,false⟩) 0 (by kernel_rfl) (by kernel_rfl) rfl rfl rfl rfl ?_;rw[aDn hrd hlt];dsimp only[List.set];refine fA ?_;refine kG ?_;refine Tm 1 rfl ?_;refine aA ?_;exact cI 1 hF
theorem aMq(L:RL)(s:aC)(st:List kH)(hok:Gm s st)(i:Int)(w:World)(F:Nat→Prop)(hp:(qQ L s st).sat F w)(hF:∀b,F b→b < w.heap.size):
  Cz 229 #[.pointer (some ⟨L.t,0,none⟩),iv i] w (Wr (iv (vO st i).1) (qQ L s (vO st i).2) w F):=by
 have hl:=hok.len
 cases hi:bO st.length i
 ·have hr:vO st i=(4,st):=by simp[vO,hi]
  have hv:uY s st i=jG 0 ⟨0,false,false⟩:=by simp[uY,hi]
  rw[hr];refine dK func229 ntmps229 hp hF ?_;refine aA ?_;refine aU (fun w1 t=>Uz L s st i w1 (t.Qt 0 rfl)) ?_;rw[hi,hv];unfold jG;refine aA ?_;refine bU fun g1=>?_;refine aA ?_;exact cI 1 hF
 ·obtain⟨n,rfl⟩:∃n:Nat,i=n:=⟨i.toNat,by have:=of_decide_eq_true hi;omega⟩
  have hlt:n < st.length:=by have:=of_decide_eq_true hi;omega
  obtain⟨r,cE⟩:=get_some (l:=s.aT) (i:=n) (by omega);obtain⟨x,hx⟩:=get_some hlt
  have hrd:s.aT.getD n 0=r:=by rw[List.getD_eq_getElem?_getD,cE];rfl
  have hr:vO st (n:Int)=if x.held=false then(6,st) else(0,st.set n ⟨x.left,x.held,true⟩):=by simp[vO,hi,hx]
  have hv:uY s st (n:Int)=jG r x:=by simp[uY,hi,List.getD_eq_getElem?_getD,cE,hx]
  rw[hr];refine dK func229 ntmps229 hp hF ?_;refine aA ?_;refine aU (fun w1 t=>Uz L s st n w1 (t.Qt 0 rfl)) ?_;rw[hi,hv];obtain⟨left,held,wanted⟩:=x;unfold jG;refine aA ?_;refine bU fun g1=>?_;cases held
  ·refine aA ?_;exact cI 1 hF
  ·refine aA ?_;refine aER 1 rfl ?_;dsimp only[List.set];refine rF 6 (by kernel_rfl) (by kernel_rfl) ?_;refine bB 0 ?_;refine bB 1 ?_;refine bB 2 ?_;refine bB 3 ?_;refine bB 4 ?_;refine bB 5 ?_;refine cG 6 ?_;refine Ja (kt:=3) (et:=233) (kd:=.i64) (l:=nY s st) (v:=jG r ⟨left,true,true⟩) 0 (by kernel_rfl) (by kernel_rfl) rfl rfl rfl rfl ?_;rw[aDn hrd hlt];dsimp only[List.set];refine fA ?_;refine kG ?_;refine Tm 1 rfl ?_;refine aA ?_;exact cI 1 hF
end
section
theorem aOD{α:Type}(f:α→α)(st:List α){i:Nat}{x:α}(hx:st[i]? =some x)(hs:f x=x):(st.map f).take i++st.drop i=(st.map f).take (i+1)++st.drop (i+1):=by
 have h1:=aDo f st hx
 rw[hs,aGr (by rw[aDp f st (List.getElem?_eq_some_iff.1 hx).1];exact hx)] at h1;exact h1
theorem aMp(L:RL)(s:aC)(st:List kH)(hH:s.dJ)(hok:Gm s st)(w:World)(F:Nat→Prop)(hp:(qQ L s st).sat F w)(hF:∀b,F b→b < w.heap.size):
  Cz 61 #[.pointer (some ⟨L.t,0,none⟩)] w (fun y w'=>∃a:Option Addr×Nat×Nat,y=.returned (.slice a.1 a.2.1 a.2.2)∧True∧∃F',(qQ L s (Ep st)).sat F' w'∧iE w w' F F'):=by
 have hl:=hok.len
 have iK:=hH.t.nr
 refine dK func61 ntmps61 hp hF ?_
 have aDI:Rd w [⟨w,fun b=>b < w.heap.size∧¬F b⟩] [qQ L s st] L.t 0 (.map (some L.g)):=fun w1 t=>(t.Qt 0 rfl).r0.2
 refine aA ?_;refine kd (aRI (kt:=3) (et:=233) (l:=nY s st) (by kernel_rfl) rfl (fun w1 t=>(t.Qt 0 rfl).m)) ?_;rw[show(nY s st).length=st.length by simp[nY]];refine aA ?_;refine iP 3 1 ?_;refine bK [(14,iv 0),(13,iv st.length),(3,sn),(0,.pointer (some ⟨L.t,0,none⟩))] ?_;refine eJ (fun m e R H=>∃(i n:Nat) (A:Option Addr) (k:Nat) (xs:List Value),i≤st.length∧n≤i∧m=st.length - i∧e=[(14,iv i),(13,iv st.length),(3,.slice A n k),(0,.pointer (some ⟨L.t,0,none⟩))]∧R=[⟨w,fun b=>b < w.heap.size∧¬F b⟩]∧H=[HP.own 3 1 (.slice A n k) n xs,qQ L s ((st.map lP).take i++st.drop i)]) st.length ⟨0,0,none,0,[],by omega,by omega,rfl,rfl,rfl,by simp⟩ fun m e R H hI=>?_;obtain⟨i,n,A,k,xs,hi,hni,rfl,rfl,rfl,rfl⟩:=hI;refine aA ?_;refine aG rfl (fun hlt=>?_) (fun hge=>?_)
 ·have hlt:i < st.length:=by omega
  obtain⟨r,cE⟩:=get_some (l:=s.aT) (i:=i) (by omega);obtain⟨x,hx⟩:=get_some hlt
  have Wp:=hok.left x (List.mem_of_getElem? hx)
  have hrd:s.aT.getD i 0=r:=by rw[List.getD_eq_getElem?_getD,cE];rfl
  have hml:((st.map lP).take i++st.drop i).length=st.length:=by simp;omega
  have Na:((st.map lP).take i++st.drop i)[i]? =some x:=by rw[aDp _ st hlt];exact hx
  have hin:bO ((st.map lP).take i++st.drop i).length (i:Int)=true:=by rw[hml];exact decide_eq_true (by omega)
  have Df:nA (nY s ((st.map lP).take i++st.drop i)) (i:Int)=some (jG r x):=by
   rw[aH8,if_pos hin,Int.toNat_natCast,hrd,List.getD_eq_getElem?_getD,Na];rfl
  have iZ:oN (nY s ((st.map lP).take i++st.drop i)) (i:Int) (jG r (lP x))=nY s ((st.map lP).take (i+1)++st.drop (i+1)):=by
   rw[aDn hrd (by omega),aDo lP st hx]
  refine aER 1 rfl ?_;dsimp only[List.set];refine aA ?_;refine aAo (kt:=3) (et:=233) (kd:=.i64) (z:=jG 0 ⟨0,false,false⟩) (l:=nY s ((st.map lP).take i++st.drop i)) true (by kernel_rfl) (by kernel_rfl) aHI rfl rfl (fun w1 t=>t.map (i:=0) rfl) (by decide) ?_;simp only[if_true,Df,Option.getD_some,Option.isSome_some];obtain⟨left,held,wanted⟩:=x;dsimp only at Wp;dsimp only[jG];refine aA ?_;refine bU fun g1=>?_;cases held
  ·have hsame:lP ⟨left,false,wanted⟩=⟨left,false,wanted⟩:=rfl
   rw[aOD lP st hx hsame];refine aA ?_;refine aY [1,2,3,4] rfl (by decide) (fun _ h=>h) ?_;refine Tm 1 rfl ?_;exact dW (st.length - (i+1)) ⟨i+1,n,A,k,xs,hlt,by omega,rfl,rfl,rfl,rfl⟩
  ·refine aA ?_;refine aG rfl (fun hp=>?_) (fun hp=>?_)
   ·have Fh:lP ⟨left,true,wanted⟩=⟨left - 1,true,wanted⟩:=by simp[lP,hp]
    rw[Fh] at iZ;refine aA ?_;refine rF 6 (by kernel_rfl) (by kernel_rfl) ?_;refine bB 0 ?_;refine bB 1 ?_;refine bB 2 ?_;refine bB 3 ?_;refine bB 4 ?_;refine bB 5 ?_;refine cG 6 ?_;refine Ja (kt:=3) (et:=233) (kd:=.i64) (l:=nY s ((st.map lP).take i++st.drop i)) (v:=jG r ⟨left - 1,true,wanted⟩) 1 (by kernel_rfl) (by kernel_rfl) rfl rfl rfl rfl ?_;rw[iZ];dsimp only[List.set];refine fA ?_;refine kG ?_;refine aA ?_;refine aY [1,2,3,4] rfl (by decide) (fun _ h=>h) ?_;refine Tm 1 rfl ?_;exact dW (st.length - (i+1)) ⟨i+1,n,A,k,xs,hlt,by omega,rfl,rfl,rfl,rfl⟩
   ·cases wanted
    ·have Fh:lP ⟨left,true,false⟩=⟨left,true,false⟩:=by simp[lP,hp]
     rw[Fh] at iZ;refine aA ?_;refine rF 6 (by kernel_rfl) (by kernel_rfl) ?_;refine bB 0 ?_;refine bB 1 ?_;refine bB 2 ?_;refine bB 3 ?_;refine bB 4 ?_;refine bB 5 ?_;refine cG 6 ?_;refine Ja (kt:=3) (et:=233) (kd:=.i64) (l:=nY s ((st.map lP).take i++st.drop i)) (v:=jG r ⟨left,true,false⟩) 1 (by kernel_rfl) (by kernel_rfl) rfl rfl rfl rfl ?_;rw[iZ];dsimp only[List.set];refine fA ?_;refine kG ?_;refine aA ?_;refine aY [1,2,3,4] rfl (by decide) (fun _ h=>h) ?_;refine Tm 1 rfl ?_;exact dW (st.length - (i+1)) ⟨i+1,n,A,k,xs,hlt,by omega,rfl,rfl,rfl,rfl⟩
    ·have Fh:lP ⟨left,true,true⟩=⟨left,false,false⟩:=by simp[lP,hp]
     rw[Fh] at iZ;refine aA ?_;refine eH fun g2=>?_;refine gH 4 1 8 1 (el:=3) (by kernel_rfl) (by kernel_rfl) (by decide) rfl rfl rfl (nL 0 rfl rfl) (by simp[Value.oneCell']) rfl (by omega) (by omega) (by decide) fun A' k'=>?_;dsimp only[List.set];refine aA ?_;refine rF 6 (by kernel_rfl) (by kernel_rfl) ?_;refine bB 0 ?_;refine bB 1 ?_;refine bB 2 ?_;refine bB 3 ?_;refine bB 4 ?_;refine bB 5 ?_;refine cG 6 ?_;refine Ja (kt:=3) (et:=233) (kd:=.i64) (l:=nY s ((st.map lP).take i++st.drop i)) (v:=jG r ⟨left,false,false⟩) 2 (by kernel_rfl) (by kernel_rfl) rfl rfl rfl rfl ?_;rw[iZ];dsimp only[List.set];refine fA ?_;refine kG ?_;refine aA ?_;refine aY [2,3,4,5] rfl (by decide) (fun _ h=>h) ?_;refine Tm 1 rfl ?_;exact dW (st.length - (i+1)) ⟨i+1,n+1,A',k',_,hlt,by omega,rfl,rfl,rfl,rfl⟩
 ·obtain rfl:i=st.length:=by omega
  have xC:(st.map lP).take st.length++st.drop st.length=Ep st:=by
   rw[List.drop_eq_nil_of_le (by omega),List.append_nil,List.take_of_length_le (by simp)];rfl
  rw[xC];refine aA ?_;exact nS rfl rfl fun w1 t=>⟨(A,n,k),rfl,trivial,t.turns hF (by simp) (i:=1) rfl⟩
end
section
section
variable{N:cF}{w0 w:World}{e:Env}{R:List Piece}{H:List HP}{K:Act→World→Prop}{L:HL}{s:aC}{x:aM}
theorem rL(i:Nat){o:Nat}{v:Value}(hi:H[i]? =some (dR L s x))(hv:(Xf L s.aD.length)[o]? =some v):Rd w0 R H L.h o v:=fun w t=>by
 obtain⟨F,⟨G,g1,g2,_⟩,h2,_⟩:=t.chunk hi
 have:=(wD (g1 0 _ rfl).2).at_ (j:=o) hv
 rw[Nat.zero_add] at this;exact this.2
end
variable(L:HL)(s:aC)(x:aM)(w:World)
theorem aIv(hH:s.dJ)(aW:iU L s)(hok:cM s x)(i:Int)(on:Bool)(F:Nat→Prop)(hp:(dR L s x).sat F w)(hF:∀b,F b→b < w.heap.size):
  Cz 179 #[.pointer (some ⟨L.h,0,none⟩),iv i,.bool on] w (Wr (iv (lC s x.ck i on).1) (dR L s {x with ck:=(lC s x.ck i on).2}) w F):=by
 have sC:=hH.t.nd
 refine dK func179 ntmps179 hp hF ?_;refine aA ?_;refine aU (fun w1 t=>Dj L s x w1 (t.nF 0 rfl aW hok)) ?_;refine aA ?_;refine kd (bN rfl (rL 0 rfl rfl)) ?_;refine aA ?_;refine bF 0 1 ?_;refine dZ 0 (rI L.T s (lC s x.ck i on).2) (fun w1 F1 t h1 h2 h3=>aSy L.T s x.ck aW.fa hok.ck i on w1 F1 h1 h2) ?_;refine aA ?_;refine aP 0 1 ?_;exact cI 0 hF
theorem aIq(hH:s.dJ)(aW:iU L s)(hok:cM s x)(i:Int)(F:Nat→Prop)(hp:(dR L s x).sat F w)(hF:∀b,F b→b < w.heap.size):
  Cz 174 #[.pointer (some ⟨L.h,0,none⟩),iv i] w (Wr (iv (sN s x.dm i).1) (dR L s {x with dm:=(sN s x.dm i).2}) w F):=by
 have sC:=hH.t.nd
 refine dK func174 ntmps174 hp hF ?_;refine aA ?_;refine aU (fun w1 t=>Dj L s x w1 (t.nF 0 rfl aW hok)) ?_;refine aA ?_;refine kd (bN rfl (rL 0 rfl rfl)) ?_;refine aA ?_;refine bF 0 2 ?_;refine dZ 0 (wN L.G s (sN s x.dm i).2) (fun w1 F1 t h1 h2 h3=>aN1 L.G s x.dm hH hok.dm i w1 F1 h1 h2) ?_;refine aA ?_;refine aP 0 2 ?_;exact cI 0 hF
theorem aPR(hH:s.dJ)(aW:iU L s)(hok:cM s x)(i:Int)(keep:Bool)(F:Nat→Prop)(hp:(dR L s x).sat F w)(hF:∀b,F b→b < w.heap.size):
  Cz 178 #[.pointer (some ⟨L.h,0,none⟩),iv i,.bool keep] w (Wr (iv (tU s x.dm i keep).1) (dR L s {x with dm:=(tU s x.dm i keep).2}) w F):=by
 have sC:=hH.t.nd
 refine dK func178 ntmps178 hp hF ?_;refine aA ?_;refine aU (fun w1 t=>Dj L s x w1 (t.nF 0 rfl aW hok)) ?_;refine aA ?_;refine kd (bN rfl (rL 0 rfl rfl)) ?_;refine aA ?_;refine bF 0 2 ?_;refine dZ 0 (wN L.G s (tU s x.dm i keep).2) (fun w1 F1 t h1 h2 h3=>aN6 L.G s x.dm hok.dm (by omega) i keep w1 F1 h1 h2) ?_;refine aA ?_;refine aP 0 2 ?_;exact cI 0 hF
theorem aPO(hH:s.dJ)(aW:iU L s)(hok:cM s x)(i:Int)(F:Nat→Prop)(hp:(dR L s x).sat F w)(hF:∀b,F b→b < w.heap.size):
  Cz 182 #[.pointer (some ⟨L.h,0,none⟩),iv i] w (Wr (iv (vO x.ln i).1) (dR L s {x with ln:=(vO x.ln i).2}) w F):=by
 have sC:=hH.t.nd
 refine dK func182 ntmps182 hp hF ?_;refine aA ?_;refine aU (fun w1 t=>Dj L s x w1 (t.nF 0 rfl aW hok)) ?_;refine aA ?_;refine kd (bN rfl (rL 0 rfl rfl)) ?_;refine aA ?_;refine bF 0 3 ?_;refine dZ 0 (qQ L.R s (vO x.ln i).2) (fun w1 F1 t h1 h2 h3=>aMq L.R s x.ln hok.ln i w1 F1 h1 h2) ?_;refine aA ?_;refine aP 0 3 ?_;exact cI 0 hF
end
section
def Du(cJ:Int)(i:Nat):Bool:=decide (aBN (cJ.fdiv (2 ^ min i 32)) 1=1)
def wZ(x:aM)(cJ:Int)(n:Nat):List (bR×dB):=x.dv.mapIdx fun i p=>if i < n then(p.1,sP p.2 (decide (0 < iH x.wt i)) (Du cJ i)) else p
def Bm(k:Int)(d:bL)(f:bR):bR:=if k=115 then rR d f else if k=114 then zX d f else if k=108∨k=110 then tF d f else f
def tV(s:aC)(e:Int×Nat)(i:Nat)(p:bR×dB):bR×dB:=match s.aD[i]? with
 | some d=>if d.domain=(e.2:Int) then(Bm e.1 d p.1,p.2) else p
 | none=>p
def Ai(s:aC)(dv:List (bR×dB))(e:Int×Nat)(n:Nat):List (bR×dB):=dv.mapIdx fun i p=>if i < n then tV s e i p else p
def pS(s:aC)(dv:List (bR×dB))(e:Int×Nat):List (bR×dB):=Ai s dv e s.aD.length
def fW(s:aC)(x:aM)(cJ:Int):aM:=⟨lQ s x.ck,nK x.dm,Ep x.ln,(jX x.dm s.domains.length).foldl (pS s) (wZ x cJ s.aD.length),x.wt,x.aQ⟩
theorem Qo{α:Type}(l:List α)(f:Nat→α→α):(l.mapIdx fun i p=>if i < 0 then f i p else p)=l:=by
 refine List.ext_getElem? fun i=>?_;simp
theorem Qp{α:Type}{l:List α}{f:Nat→α→α}{n:Nat}{p:α}(hp:l[n]? =some p):(l.mapIdx fun i p=>if i < n then f i p else p).set n (f n p)=l.mapIdx fun i p=>if i < n+1 then f i p else p:=by
 refine List.ext_getElem? fun i=>?_
 have hlt:=(List.getElem?_eq_some_iff.1 hp).1
 rw[List.getElem?_set]
 by_cases he:n=i
 ·subst he;rw[if_pos rfl,if_pos (by simpa using hlt),List.getElem?_mapIdx,hp];simp
 ·rw[if_neg he,List.getElem?_mapIdx,List.getElem?_mapIdx];cases l[i]? with
  | none=>rfl
  | some q=>
   simp only[Option.map_some,Option.some.injEq]
   by_cases h:i < n
   ·rw[if_pos h,if_pos (by omega)]
   ·rw[if_neg h,if_neg (by omega)]
theorem Qq{α:Type}{l:List α}{f:Nat→α→α}{n:Nat}{p:α}(hp:l[n]? =some p):(l.mapIdx fun i p=>if i < n then f i p else p)[n]? =some p:=by
 rw[List.getElem?_mapIdx,hp];simp
theorem aB4{ds:List bL}{ls:List (FL×Nat)}{xs:List (bR×dB)}{i:Nat}{d:bL}{l:FL×Nat}{p:bR×dB}(hd:ds[i]? =some d)(hl:ls[i]? =some l)(hp:xs[i]? =some p):(zB ds ls xs)[i]? =some (Sh d (l,p)):=by
 have hq:(ls.zip xs)[i]? =some (l,p):=List.getElem?_zip_eq_some.2 ⟨hl,hp⟩
 rw[zB,List.getElem?_zipWith,hd,hq]
theorem aRu{ds:List bL}{ls:List (FL×Nat)}{xs:List (bR×dB)}{i:Nat}{d:bL}{l:FL×Nat}{p:bR×dB}(hd:ds[i]? =some d)(hl:ls[i]? =some l)(hp:xs[i]? =some p)(p':bR×dB):(zB ds ls xs).set i (Sh d (l,p'))=zB ds ls (xs.set i p'):=by
 refine List.ext_getElem? fun j=>?_
 have hlt:=(List.getElem?_eq_some_iff.1 (aB4 hd hl hp)).1
 rw[List.getElem?_set]
 by_cases he:i=j
 ·subst he;rw[if_pos rfl,if_pos hlt];exact(aB4 hd hl (List.getElem?_set_self (List.getElem?_eq_some_iff.1 hp).1)).symm
 ·rw[if_neg he];simp only[zB,List.getElem?_zipWith,List.zip,List.getElem?_set_ne he]
theorem aEt{ds:List bL}{ls:List (FL×Nat)}{i:Nat}{d:bL}{l:FL×Nat}(hd:ds[i]? =some d)(hl:ls[i]? =some l):(xG ds ls)[i]? =some (Kq d l):=by
 rw[xG,List.getElem?_zipWith,hd,hl]
theorem aEs{ds:List bL}{ls:List (FL×Nat)}:∀r∈xG ds ls,r.length=6:=fun r hr=>by
 obtain⟨i,hi⟩:=List.getElem?_of_mem hr;rw[xG,List.getElem?_zipWith] at hi;split at hi
 ·cases hi;rfl
 ·cases hi
theorem aLy{x:dB}(h:Cc x)(a b:Bool):Cc (sP x a b):=by
 unfold sP;unfold Cc at h⊢;split
 ·exact h
 ·split
  ·exact⟨(by show(0:Int)≤3;omega),(by show(3:Int)≤3;omega)⟩
  ·split
   ·exact h
   ·exact⟨(by show(0:Int)≤2;omega),(by show(2:Int)≤3;omega)⟩
theorem aLV{r:Rg}{p:Int×Int}(h1:0≤p.1∧p.1 < 4294967296)(h2:0≤p.2∧p.2 < 4294967296):0≤Jd r p∧Jd r p < 4294967296:=by
 unfold Jd;split<;>assumption
theorem aJi{d:bL}{f:bR}(k:Int)(hr:∀r∈d.aL,0≤r.reset∧r.reset≤6)(h:wP d f):wP d (Bm k d f):=by
 have hres:∀v∈d.aL.map (·.reset),0≤v∧v < 4294967296:=fun v hv=>by
  obtain⟨r,eI,rfl⟩:=List.mem_map.1 hv
  have:=hr r eI
  omega
 have h1:=h.now
 have h2:=h.saved
 unfold Bm;split
 ·refine⟨h1,by simp[rR];omega,h.u.1,fun v hv=>?_⟩;obtain⟨i,hi⟩:=List.getElem?_of_mem hv;simp only[rR,List.getElem?_zipWith] at hi;split at hi
  ·rename_i r p eI gK
   cases hi;obtain⟨Mx,hp3⟩:=List.getElem?_zip_eq_some.1 gK;exact aLV (h.u.1 _ (List.mem_of_getElem? Mx)) (h.u.2 _ (List.mem_of_getElem? hp3))
  ·cases hi
 ·split
  ·refine⟨by simp[zX];omega,h2,fun v hv=>?_,h.u.2⟩;obtain⟨i,hi⟩:=List.getElem?_of_mem hv;simp only[zX,List.getElem?_zipWith] at hi;split at hi
   ·rename_i r p eI gK
    cases hi;unfold Vb;split
    ·exact h.u.2 _ (List.mem_of_getElem? gK)
    ·have:=hr r (List.mem_of_getElem? eI)
     omega
   ·cases hi
  ·split
   ·exact⟨by simp[tF],h2,hres,h.u.2⟩
   ·exact h
theorem Vq{s:aC}{x:aM}(hH:s.dJ)(hok:cM s x){dv:List (bR×dB)}(hl:dv.length=x.dv.length)(h:∀(i:Nat) (d:bL) (p:bR×dB),s.aD[i]? =some d→dv[i]? =some p→wP d p.1∧Cc p.2):cM s {x with dv:=dv}:=⟨hok.ck,hok.dm,hok.ln,hl.trans hok.dv,h,hok.wt⟩
theorem aDq{s:aC}{x:aM}(hH:s.dJ)(hok:cM s x)(cJ:Int)(n:Nat):cM s {x with dv:=wZ x cJ n}:=Vq hH hok (by simp[wZ]) fun i d p hd hp=>by
 rw[wZ,List.getElem?_mapIdx] at hp;cases hq:x.dv[i]? with
 | none=>rw[hq] at hp;cases hp
 | some q=>
  rw[hq] at hp;obtain⟨h1,h2⟩:=hok.each i d q hd hq;simp only[Option.map_some,Option.some.injEq] at hp;subst hp;split
  ·exact⟨h1,aLy h2 _ _⟩
  ·exact⟨h1,h2⟩
theorem aH6{s:aC}{x:aM}(hH:s.dJ)(hok:cM s x)(e:Int×Nat)(n:Nat):cM s {x with dv:=Ai s x.dv e n}:=Vq hH hok (by simp[Ai]) fun i d p hd hp=>by
 rw[Ai,List.getElem?_mapIdx] at hp;cases hq:x.dv[i]? with
 | none=>rw[hq] at hp;cases hp
 | some q =>
  rw[hq] at hp;obtain⟨h1,h2⟩:=hok.each i d q hd hq;simp only[Option.map_some,Option.some.injEq] at hp;subst hp;split
  ·unfold tV;rw[hd];dsimp only;split
   ·exact⟨aJi _ (hH.t.aD i d hd).2.2.2.2.2.2.2.2.2.1 h1,h2⟩
   ·exact⟨h1,h2⟩
  ·exact⟨h1,h2⟩
theorem aEl{s:aC}(hH:s.dJ):∀(es:List (Int×Nat)) (x:aM),cM s x→cM s {x with dv:=es.foldl (pS s) x.dv}
 | [],x,h=>h
 | e::es,x,h=>aEl hH es {x with dv:=pS s x.dv e} (aH6 hH h e _)
theorem aOv{s:aC}{dv:List (bR×dB)}{e:Int×Nat}(h:¬(e.1=115∨e.1=114∨e.1=108∨e.1=110)):pS s dv e=dv:=by
 unfold pS Ai;refine List.ext_getElem? fun i=>?_;rw[List.getElem?_mapIdx];cases dv[i]? with
 | none=>rfl
 | some p =>
  simp only[Option.map_some,Option.some.injEq];split
  ·unfold tV;split
   ·split
    ·have:Bm e.1 (by assumption) p.1=p.1:=by
      unfold Bm;rw[if_neg (by omega),if_neg (by omega),if_neg (by omega)]
     rw[this]
    ·rfl
   ·rfl
  ·rfl
theorem aL0{s:aC}{st:List kH}(h:Gm s st):Gm s (Ep st):=by
 refine⟨by simp[Ep,h.len],fun x hx=>?_⟩;obtain⟨y,hy,rfl⟩:=List.mem_map.1 hx
 have:=h.left y hy
 unfold lP;split
 ·exact this
 ·split
  ·dsimp only;omega
  ·split
   ·exact this
   ·exact this
theorem aGa{s:aC}{x:aM}(hH:s.dJ)(hok:cM s x)(cJ:Int):cM s (fW s x cJ):=by
 have h1:=aEl hH (jX x.dm s.domains.length) _ (aDq hH hok cJ s.aD.length)
 exact⟨aCH hH hok.ck,aCG hok.dm,aL0 hok.ln,h1.dv,h1.each,hok.wt⟩
section
variable{N:cF}{w0 w:World}{e:Env}{R:List Piece}{H:List HP}{K:Act→World→Prop}{L:HL}{s:aC}{x:aM}
def aIu(L:HL)(s:aC)(x:aM):HP:=HP.many [HP.aE L.h 113 (Xf L s.aD.length),rI L.T s x.ck,wN L.G s x.dm,qQ L.R s x.ln,zO L.B (kK s) x.wt x.aQ,HP.own 106 6 (.slice L.A s.aD.length L.c) s.aD.length (xG s.aD L.ds).flatten,cH]
def aIT(L:HL)(s:aC)(x:aM)(i:Nat):HP:=HP.many ((zB s.aD L.ds x.dv).set i cH)
theorem Tb(j i:Nat){d:bL}{l:FL×Nat}{p:bR×dB}(hj:H[j]? =some (dR L s x))(hd:s.aD[i]? =some d)(hl:L.ds[i]? =some l)(hp:x.dv[i]? =some p)
  (k:XK N w0 K e R (HP.many [iF l.1 d p.1,vD l.2 p.2]::aIT L s x i::H.set j (aIu L s x))):XK N w0 K e R H:=by
 refine tG j 6 hj rfl ?_;refine tG 0 i rfl (aB4 hd hl hp) ?_;exact k
theorem Tn(j i:Nat){d:bL}{l:FL×Nat}{p p':bR×dB}(hj:H[j]? =some (aIu L s x))(hd:s.aD[i]? =some d)(hl:L.ds[i]? =some l)(hp:x.dv[i]? =some p)
  (k:XK N w0 K e R (H.set j (dR L s {x with dv:=x.dv.set i p'}))):XK N w0 K e R (HP.many [iF l.1 d p'.1,vD l.2 p'.2]::aIT L s x i::H):=by
 have hlt:=(List.getElem?_eq_some_iff.1 (aB4 hd hl hp)).1
 refine tH 0 i rfl (by rw[List.getElem?_set_self (by simpa using hlt)]) ?_;dsimp only[List.set];refine tH j 6 hj rfl ?_;rw[List.set_set,show HP.many [iF l.1 d p'.1,vD l.2 p'.2]=Sh d (l,p') from rfl,aRu hd hl hp p'];exact k
theorem Oh(j:Nat)(hj:H[j]? =some (dR L s x))(aW:iU L s)(hok:cM s x)(hn:0 < s.aD.length)(k:∀b off,L.A=some ⟨b,off,none⟩→XK N w0 K e R H):XK N w0 K e R H:=fun a w hr st=>by
 obtain⟨b,off,hA,_⟩:=(st.nF j hj aW hok).rows.2 hn;exact k b off hA a w hr st
theorem aR.dev(j:Nat){i b off o:Nat}{d:bL}{l:FL×Nat}(hj:H[j]? =some (dR L s x))(aW:iU L s)(hok:cM s x)(hA:L.A=some ⟨b,off,none⟩)(hd:s.aD[i]? =some d)(hl:L.ds[i]? =some l)(ho:o=off+i*6):aR w0 R H b o (Kq d l):=.of fun k v hv w st=>by
 obtain⟨b',off',sE,hr⟩:=aI.row (st.nF j hj aW hok).rows (rows:=xG s.aD L.ds) (fun r hr=>aEs r hr) (aEt hd hl) (List.getElem?_eq_some_iff.1 hd).1;rw[hA] at sE;cases sE;subst ho;exact(hr.2 k v hv)
end
end
section
section
variable{P:Program}{N:cF}{w0:World}{e:Env}{R:List Piece}{H:List HP}{Q:Exit→Act→World→Prop}{ops:Array Oper}{rest:List Oper}
variable{d:Nat}{ty:TypeId}{pos:String}{aH:Array Edge}
theorem zT{α:Type}(i:Nat){f:FuncId}{x:Operand}{args:List Operand}{fi ca vs:List Value}{tys:Array TypeId}{p:HP}(v:α→Value)(q:α→HP)(G:α→Prop)(hf:fH P f=true)(hx:e.ev x=some (.func (.func f) fi.toArray ca.toArray))(ha:e.fT args=some vs)(hi:H[i]? =some p)(hd:d < N.n)
  (hc:∀w F,St w0 R H w→p.sat F w→(∀b,F b→b < w.heap.size)→(∀q∈R,q.Le ⟨w,fun b=>b < w.heap.size∧¬F b⟩)→Calls P f (fi++vs++ca).toArray w fun y w'=>∃a,y=.returned (v a)∧G a∧∃F',(q a).sat F' w'∧iE w w' F F')
  (k:∀a,G a→XK N w0 (wpList P ops Q rest) ((d,v a)::e) R (H.set i (q a))):XK N w0 (wpList P ops Q (⟨some d,.call {callee:=.value x,args:=args.toArray,argTypes:=tys},ty,pos,aH,none⟩::rest)) e R H:=fun a w hr st=>wpList_plain rfl fun K hK=>by
 unfold fH at hf;cases hq:P.funcs[f]? with
 | none=>simp[hq] at hf
 | some fn =>
  simp[hq] at hf;obtain⟨gL,nR⟩:=hf
  have hrun:(execOp a.eval (⟨some d,.call {callee:=.value x,args:=args.toArray,argTypes:=tys},ty,pos,aH,none⟩:Oper)).run P w=.ok (.enter f (fi++vs++ca).toArray) w:=by
   cases hb:fn.body with
   | none=>simp[hb] at nR
   | some c=>simp[execOp,resolve,hr.ev hx,Deferred.ofValue,invoke,callFunc,hq,gL,hb,hr.fT ha]
  obtain⟨F,hp,hlt,hle,iZ⟩:=st.chunk hi;unfold Oper.wp;rw[hrun];refine(hc w F st hp hlt hle).mono fun y w' hy=>?_;obtain⟨a',rfl,hG,F',hs,ht⟩:=hy;exact hK _ _ (k a' hG _ _ (hr.put hd (v a')) (iZ w' F' (q a') hs ht))
end
end
section
section
variable{P:Program}{N:cF}{w0:World}{e:Env}{R:List Piece}{H:List HP}{d:Nat}{ty:TypeId}{pos:String}{aH:Array Edge}
def aI3(P:Program)(t:TypeId):Bool:=match P.underlying t with
 | some (.func ..)=>true
 | _=>false
theorem aMj(w:World)(n:Nat)(t:TypeId){f1 f2:Array TypeId}{f3:Bool}(hu:P.underlying t=some (.func f1 f2 f3)):(Op.equalIn (n+1) t .nilFunc .nilFunc).run P w=.ok true w:=by simp[Op.equalIn,run_underlying hu]
theorem aMl(w:World)(n:Nat)(t:TypeId){f1 f2:Array TypeId}{f3:Bool}(f:Fn)(fi ca:Array Value)(hu:P.underlying t=some (.func f1 f2 f3)):(Op.equalIn (n+1) t (.func f fi ca) .nilFunc).run P w=.ok false w:=by simp[Op.equalIn,run_underlying hu]
theorem aJg{x:Operand}{t u:TypeId}{v:Value}{b:Bool}(hx:e.ev x=some v)(hv:(v=.nilFunc∧b=true)∨(∃f a c,v=.func f a c)∧b=false)(ht:aI3 P t=true:=by kernel_rfl):bQ P N w0 e R H ⟨some d,.binOp .eql t x (.const .nilFunc) u,ty,pos,aH,none⟩ (.bool b):=iO fun a w hr=>by
 have h2:=hr.ev (show e.ev (.const .nilFunc)=some .nilFunc from rfl)
 unfold aI3 at ht;split at ht
 ·rename_i f1 f2 f3 hu
  rcases hv with⟨rfl,rfl⟩ | ⟨⟨f,fi,ca,rfl⟩,rfl⟩
  ·have h4:(Op.equal t .nilFunc .nilFunc).run P w=.ok true w:=aMj w 9999 t hu
   simp[execOp,hr.ev hx,h2,eqGuard,binOp,h4]
  ·have h4:(Op.equal t (.func f fi ca) .nilFunc).run P w=.ok false w:=aMl w 9999 t f fi ca hu
   simp[execOp,hr.ev hx,h2,eqGuard,binOp,h4]
 ·cases ht
end
def Ij(k:Int):Value:=if k=115 then .func (.func 113) #[] #[] else if k=114 then .func (.func 114) #[] #[] else if k=108∨k=110 then .func (.func 115) #[] #[] else .nilFunc
theorem aPS(k:Int)(w:World):Cz 60 #[.int .u8 k] w (Rt (Ij k) w):=by
 refine aN func60 ntmps60 ?_;refine aA ?_;refine aG rfl (fun h1=>?_) (fun h1=>?_)
 ·refine aA ?_;exact dG (by rw[Ij,if_pos h1])
 refine aA ?_;refine aG rfl (fun h2=>?_) (fun h2=>?_)
 ·refine aA ?_;exact dG (by rw[Ij,if_neg h1,if_pos h2])
 refine aA ?_;refine aG rfl (fun h3=>?_) (fun h3=>?_)
 ·refine aA ?_;refine aG rfl (fun _=>?_) (fun h=>absurd h3 h);refine aA ?_;exact dG (by rw[Ij,if_neg h1,if_neg h2,if_pos (.inl h3)])
 ·refine aA ?_;refine aG rfl (fun h4=>?_) (fun h4=>?_)
  ·refine aA ?_;exact dG (by rw[Ij,if_neg h1,if_neg h2,if_pos (.inr h4)])
  ·refine aA ?_;exact dG (by rw[Ij,if_neg h1,if_neg h2,if_neg (by omega)])
theorem aSb{k:Int}(hk:k=115∨k=114∨k=108∨k=110):∃f:FuncId,Ij k=.func (.func f) #[] #[]∧fH Tryz.prog f=true∧∀(L:FL) (d:bL) (x:bR) (hrl:d.aL.length≤100) (hok:wP d x) (w:World) (F:Nat→Prop) (hp:(iF L d x).sat F w) (hF:∀b,F b→b < w.heap.size),
  Cz f #[.pointer (some ⟨L.f,0,none⟩)] w (Wr (.tuple #[]) (iF L d (Bm k d x)) w F):=by
 rcases hk with rfl | rfl | rfl | rfl
 ·exact⟨_,rfl,(by kernel_rfl),aML⟩
 ·exact⟨_,rfl,(by kernel_rfl),aMM⟩
 ·exact⟨_,rfl,(by kernel_rfl),aAF⟩
 ·exact⟨_,rfl,(by kernel_rfl),aAF⟩
theorem aSP(L:BL)(ms:List Int)(ws:List (Option jD))(aQ:Int)(i:Nat)(hi:i < ms.length)(h0:iH ws i=0)(w:World)(hR:Iz w L ms ws aQ):
  Cz 108 #[.pointer (some ⟨L.b,0,none⟩),iv (i:Int)] w (Rt (.tuple #[.agg #[iv 0,.bool false,iv 0,.int .u32 0],.bool false]) w):=by
 have k1:=hR.r0.at_ (j:=1) rfl
 obtain⟨A,c,k2⟩:=hR.wt i hi;rw[h0] at k2
 have hin:bO ms.length (i:Int)=true:=decide_eq_true (by omega)
 refine aN func108 ntmps108 ?_;refine aA ?_;refine bU fun g1=>?_;refine aA ?_;refine aU (fun w1 t=>aBI L ms ws aQ i w1 (hR.below (t.below (by simp)))) ?_;rw[hin];refine aB ?_;exact xM (vs:=[iv 0,.bool false,iv 0,.int .u32 0]) rfl (by kernel_rfl) rfl rfl (aR.whole 0 rfl) rfl fun w1 t=>⟨rfl,t.below (by simp)⟩
theorem aPV(L:HL)(s:aC)(x:aM)(i:Nat)(hi:i < s.aD.length)(h0:iH x.wt i=0)(w:World)(hR:vE w L s x):
  Cz 55 #[.pointer (some ⟨L.h,0,none⟩),iv (i:Int)] w (Rt (.tuple #[.agg #[iv 0,iv 0,.bool false,.int .u32 0],.bool false]) w):=by
 have k3:=hR.r0.at_ (j:=3) rfl
 refine aN func55 ntmps55 ?_;refine aA ?_;refine bU fun g1=>?_;refine aA ?_;refine aU (fun w1 t=>aSP L.B (kK s) x.wt x.aQ i (by rw[He];exact hi) h0 w1 (hR.bus.below (t.below (by simp)))) ?_;refine aA ?_;refine bU fun g2=>?_;refine aB ?_;exact xM (vs:=[iv 0,iv 0,.bool false,.int .u32 0]) rfl (by kernel_rfl) rfl rfl (aR.whole 1 rfl) rfl fun w1 t=>⟨rfl,t.below (by simp)⟩
end
section
def zF(s:aC)(x:aM)(i:Nat):Bool:=match s.aD[i]? with
 | some d=>qC s x.ck d.clock&&(decide (rU x.dm d.domain=49)&& !Ba x.ln d.reset)
 | none=>false
def uN(x:aM)(i:Nat):Int:=((x.dv[i]?).map fun p=>qH p.2.at_).getD 0
theorem aCl{w0:World}{R:List Piece}{H:List HP}{b o:Nat}{vs:List Value}{v:Value}(j:Nat)(h:aR w0 R H b o vs)(hv:vs[j]? =some v):Rd w0 R H b (o+j) v:=fun w st=>h w st j v hv
section
variable(L:HL)(s:aC)(x:aM)(w:World)
theorem aIs(hH:s.dJ)(i:Int)(hR:vE w L s x):Cz 180 #[.pointer (some ⟨L.h,0,none⟩),iv i] w (Rt (.bool (qC s x.ck i)) w):=by
 have k0:=hR.r0.at_ (j:=0) rfl
 refine aN func180 ntmps180 ?_;refine aA ?_;refine aU (fun w1 t=>Dj L s x w1 (hR.below (t.below (by simp)))) ?_;refine aA ?_;refine aU (fun w1 t=>Yw L.T s x.ck hH i w1 (hR.tree.below (t.below (by simp)))) ?_;refine aA ?_;exact dG
theorem aPW(hH:s.dJ)(aW:iU L s)(hok:cM s x)(i:Nat)(hi:i < s.aD.length)(hR:vE w L s x):Cz 14 #[.pointer (some ⟨L.h,0,none⟩),iv (i:Int)] w (Rt (.bool (zF s x i)) w):=by
 have k0:=hR.r0.at_ (j:=0) rfl
 have k1:=hR.r0.at_ (j:=1) rfl
 have k2:=hR.r0.at_ (j:=2) rfl
 have k4:=hR.r0.at_ (j:=4) rfl
 have hls:=aW.ds
 obtain⟨d,dF⟩:=get_some hi;obtain⟨l,iS⟩:=get_some (l:=L.ds) (i:=i) (by omega);obtain⟨b,off,hA,hr⟩:=aI.row hR.rows (rows:=xG s.aD L.ds) (fun r hr=>aEs r hr) (aEt dF iS) hi
 have hin:bO s.aD.length (i:Int)=true:=decide_eq_true (by omega)
 have hal:zF s x i=(qC s x.ck d.clock&&(decide (rU x.dm d.domain=49)&& !Ba x.ln d.reset)):=by
  unfold zF;rw[dF]
 rw[hal];refine aN func14 ntmps14 ?_;refine aA ?_;refine aU (fun w1 t=>Rs L s x w1 i (hR.below (t.below (by simp)))) ?_;rw[hin];refine aA ?_;refine kd (dat i (off+i*6) (hx:=by rw[←hA];rfl)) ?_;refine aB ?_;refine bU fun g1=>?_;refine aA ?_;refine mK ?_;refine jB ?_;refine uA (fun w1 t=>Yw L.T s x.ck hH d.clock w1 (hR.tree.below (t.below (by simp)))) ?_;cases hrun:qC s x.ck d.clock
 ·refine jC ?_;refine aA ?_;exact dG
 ·refine jB ?_;refine uA (fun w1 t=>aHg L.G s x.dm hok.dm d.domain w1 (Dy.below hR.aEi (t.below (by simp)))) ?_;refine jB ?_;refine Og 32 rfl (fun hp=>?_) (fun hp=>?_)
  ·rw[decide_eq_true hp];refine jB ?_;refine uA (fun w1 t=>aG8 L.R s x.ln d.reset w1 (hR.lines.below (t.below (by simp)))) ?_;refine jC ?_;refine aA ?_;exact dG
  ·rw[decide_eq_false hp];refine jC ?_;refine aA ?_;exact dG
theorem aIr(aW:iU L s)(hok:cM s x)(i:Nat)(hi:i < s.aD.length)(fD:Tx w)(hR:vE w L s x):Cz 175 #[.pointer (some ⟨L.h,0,none⟩),iv (i:Int)] w (Rt (.int .u8 (uN x i)) w):=by
 have k4:=hR.r0.at_ (j:=4) rfl
 have hls:=aW.ds
 have jA:=hok.dv
 obtain⟨d,dF⟩:=get_some hi;obtain⟨l,iS⟩:=get_some (l:=L.ds) (i:=i) (by omega);obtain⟨p,gK⟩:=get_some (l:=x.dv) (i:=i) (by omega);obtain⟨b,off,hA,hr⟩:=aI.row hR.rows (rows:=xG s.aD L.ds) (fun r hr=>aEs r hr) (aEt dF iS) hi
 have k5:=hr.at_ (j:=5) rfl
 have hin:bO s.aD.length (i:Int)=true:=decide_eq_true (by omega)
 have hst:uN x i=qH p.2.at_:=by
  unfold uN;rw[gK];rfl
 rw[hst];refine aN func175 ntmps175 ?_;refine aA ?_;refine aU (fun w1 t=>Rs L s x w1 i (hR.below (t.below (by simp)))) ?_;rw[hin];refine aA ?_;refine kd (dat i (off+i*6) (hx:=by rw[←hA];rfl)) ?_;refine aA ?_;refine aU (fun w1 t=>aHb l.2 p.2 (hok.each i d p dF gK).2 w1 (fD.below (t.below (by simp))) ((hR.below (t.below (by simp))).each i d l p dF iS gK).2) ?_;refine aA ?_;exact dG
def Ip(x:aM)(i:Nat):aM:={x with dv:=match x.dv[i]? with | some p=>x.dv.set i (p.1,(sI p.2).2) | none=>x.dv}
def Ap(x:aM)(i:Nat):aM:={x with dv:=match x.dv[i]? with | some p=>x.dv.set i (p.1,(nO p.2).2) | none=>x.dv}
theorem aIw(hH:s.dJ)(aW:iU L s)(hok:cM s x)(i:Nat)(hi:i < s.aD.length)(F:Nat→Prop)(hp:(dR L s x).sat F w)(hF:∀b,F b→b < w.heap.size):
  Cz 226 #[.pointer (some ⟨L.h,0,none⟩),iv (i:Int)] w (fun y w'=>∃r:Int,y=.returned (iv r)∧True∧∃F',(dR L s (Ip x i)).sat F' w'∧iE w w' F F'):=by
 have hls:=aW.ds
 have jA:=hok.dv
 obtain⟨d,dF⟩:=get_some hi;obtain⟨l,iS⟩:=get_some (l:=L.ds) (i:=i) (by omega);obtain⟨p,gK⟩:=get_some (l:=x.dv) (i:=i) (by omega)
 have hin:bO s.aD.length (i:Int)=true:=decide_eq_true (by omega)
 have hX:Ip x i={x with dv:=x.dv.set i (p.1,(sI p.2).2)}:=by
  unfold Ip;rw[gK]
 rw[hX];refine dK func226 ntmps226 hp hF ?_;refine aA ?_;refine aU (fun w1 t=>Rs L s x w1 i (t.nF 0 rfl aW hok)) ?_;rw[hin];refine aA ?_;refine kd (bN rfl (rL 0 rfl rfl)) ?_;refine Oh 0 rfl aW hok (by omega) fun b off hA=>?_;refine aA ?_;refine kd (dat i (off+i*6) (hx:=by rw[←hA];rfl)) ?_;refine aA ?_;refine kd (bN rfl (aCl (vs:=Kq d l) 5 (aR.dev 0 rfl aW hok hA dF iS rfl) rfl)) ?_;refine Tb 0 i rfl dF iS gK ?_;dsimp only[List.set];refine bF 0 1 ?_;refine dZ 0 (vD l.2 (sI p.2).2) (fun w1 F1 t h1 h2 h3=>aNx h1 h2) ?_;refine aP 0 1 ?_;refine Tn 0 i rfl dF iS gK (p':=(p.1,(sI p.2).2)) ?_;dsimp only[List.set];refine aA ?_;exact nS rfl rfl fun w1 t=>⟨_,rfl,trivial,t.turns hF (by simp) (i:=0) rfl⟩
theorem aDW(hH:s.dJ)(aW:iU L s)(hok:cM s x)(i:Nat)(hi:i < s.aD.length)(F:Nat→Prop)(hp:(dR L s x).sat F w)(hF:∀b,F b→b < w.heap.size):
  Cz 176 #[.pointer (some ⟨L.h,0,none⟩),iv (i:Int)] w (fun y w'=>∃r:Int,y=.returned (iv r)∧True∧∃F',(dR L s (Ap x i)).sat F' w'∧iE w w' F F'):=by
 have hls:=aW.ds
 have jA:=hok.dv
 obtain⟨d,dF⟩:=get_some hi;obtain⟨l,iS⟩:=get_some (l:=L.ds) (i:=i) (by omega);obtain⟨p,gK⟩:=get_some (l:=x.dv) (i:=i) (by omega)
 have hin:bO s.aD.length (i:Int)=true:=decide_eq_true (by omega)
 have hX:Ap x i={x with dv:=x.dv.set i (p.1,(nO p.2).2)}:=by
  unfold Ap;rw[gK]
 rw[hX];refine dK func176 ntmps176 hp hF ?_;refine aA ?_;refine aU (fun w1 t=>Rs L s x w1 i (t.nF 0 rfl aW hok)) ?_;rw[hin];refine aA ?_;refine kd (bN rfl (rL 0 rfl rfl)) ?_;refine Oh 0 rfl aW hok (by omega) fun b off hA=>?_;refine aA ?_;refine kd (dat i (off+i*6) (hx:=by rw[←hA];rfl)) ?_;refine aA ?_;refine kd (bN rfl (aCl (vs:=Kq d l) 5 (aR.dev 0 rfl aW hok hA dF iS rfl) rfl)) ?_;refine Tb 0 i rfl dF iS gK ?_;dsimp only[List.set];refine bF 0 1 ?_;refine dZ 0 (vD l.2 (nO p.2).2) (fun w1 F1 t h1 h2 h3=>aNw h1 h2) ?_;refine aP 0 1 ?_;refine Tn 0 i rfl dF iS gK (p':=(p.1,(nO p.2).2)) ?_;dsimp only[List.set];refine aA ?_;exact nS rfl rfl fun w1 t=>⟨_,rfl,trivial,t.turns hF (by simp) (i:=0) rfl⟩
end
end
section
def aCj(l:List Int)(v:Value)(hs:List HP)(_:Piece):Prop:=∃A c,v=.slice A l.length c∧hs=[HP.own 23 1 (.slice A l.length c) l.length (qU l)]
theorem aMB(w0:Int)(A:Option Addr)(n c:Nat)(zs:List Int)(w:World)(hs:aI (all w) 1 A n (qU zs))(hn:n=zs.length)(hn2:n≤1000000):Cz 187 #[.int .u32 w0,.slice A n c] w (fun y w'=>(∃v hs q,y=.returned v∧q.w=w'∧aCj (w0::zs) v hs q∧kA w hs q)∧Below w.heap.size w w'):=by
 refine aN func187 ntmps187 ?_;refine aB ?_;refine aF7 1 4 (el:=23) (c:=n+1) (k0:=1) (uT:=.i64) (by kernel_rfl) (by kernel_rfl) rfl (by rw[Int.natCast_add];rfl) (by omega) (by omega) (by decide) fun g1=>?_;refine aB ?_;refine eH fun g2=>?_;refine gH 1 1 4 1 (n':=1) (el:=23) (by kernel_rfl) (by kernel_rfl) (by decide) rfl rfl rfl (nL 0 rfl rfl) (by simp[Value.oneCell']) rfl (by omega) (by omega) (by decide) fun A1 c1=>?_;dsimp only[List.set];refine aB ?_;refine gH 1 1 4 n (n':=n+1) (el:=23) (by kernel_rfl) (by kernel_rfl) (by decide) rfl rfl rfl (qW (by simp) hs) (Uk _) (by omega) (by omega) (by omega) (by decide) fun A2 c2=>?_;dsimp only[List.set];refine aB ?_;subst hn;refine aY [1] rfl (by decide) (fun _ h=>h) ?_;refine dO [] [] [0] (by simp) rfl (by decide) (by decide) fun q _ _ hfr=>?_;exact aS (h:=fun w1 t=>⟨_,_,⟨w1,q.Z⟩,rfl,rfl,⟨A2,c2,rfl,rfl⟩,t.newR (by simp) (by simp) (hfr (by simp) (by simp))⟩)
theorem aTb(w0 st st':Int)(hst:IntKind.u32.wrap st=st')(A:Option Addr)(n c:Nat)(zs:List Int)(w:World)(hs:aI (all w) 1 A n (qU zs))(hn:n=zs.length)(hn2:n≤1000):
  Cz 107 #[.int .u32 w0,.int .i32 st,.slice A n c] w (fun y w'=>(∃v hs q,y=.returned v∧q.w=w'∧aCj (w0::st'::zs) v hs q∧kA w hs q)∧Below w.heap.size w w'):=by
 subst hn;refine aN func107 ntmps107 ?_;refine aA ?_;refine Ek (ds:=.int .i32) (by kernel_rfl) (by kernel_rfl) rfl hst (by decide) ?_;refine eH fun g1=>?_;refine iY (aCj [w0,st']) (fun w1 t=>aMB w0 _ 1 1 [st'] w1 (t.rQ (i:=0) rfl rfl) rfl (by omega)) ?_;rintro _ _ q1 ⟨A1,c1,rfl,rfl⟩ _;dsimp only[List.cons_append,List.nil_append];refine aA ?_;refine gH 0 1 4 zs.length (n':=zs.length+2) (el:=23) (by kernel_rfl) (by kernel_rfl) (by decide) rfl rfl rfl (qW (by simp) hs) (Uk _) (by simp;omega) (by omega) (by omega) (by decide) fun A2 c2=>?_;dsimp only[List.set];refine aA ?_;refine aY [0] rfl (by decide) (R':=[all w]) (by simp) ?_;refine dO [] [] [0] (by simp) rfl (by decide) (by decide) fun q _ _ hfr=>?_;exact aS (h:=fun w1 t=>⟨_,_,⟨w1,q.Z⟩,rfl,rfl,⟨A2,c2,rfl,rfl⟩,t.newR (by simp) (by simp) (hfr (by simp) (by simp))⟩)
theorem Qw(i:Int)(w:World):Cz 163 #[iv i] w (Rt (.bool (bO 2 i)) w):=by
 refine aN func163 ntmps163 ?_;refine aA ?_;refine bX (t:=5) rfl (fun h=>?_) (fun h=>?_)
 ·refine aA ?_;refine jT (by simp) ?_;unfold bO
  congr 1
  simp;omega
 ·refine aA ?_;refine jT (by simp) ?_
  have:bO 2 i=false:=decide_eq_false (by omega)
  rw[this]
def Jk(p:Int):Int:=if p=48 then 0 else if p=49 then 1 else if p=116 then 2 else 3
theorem aQN(p:Int)(w:World):Cz 185 #[.int .u8 p] w (Rt (.int .u32 (Jk p)) w):=by
 refine aN func185 ntmps185 ?_;refine aA ?_;refine aG rfl (fun h=>?_) (fun h=>?_)
 ·refine aA ?_;exact dG (by rw[Jk,if_pos h])
 ·refine aA ?_;refine aG rfl (fun h1=>?_) (fun h1=>?_)
  ·refine aA ?_;exact dG (by rw[Jk,if_neg h,if_pos h1])
  ·refine aA ?_;refine aG rfl (fun h2=>?_) (fun h2=>?_)
   ·refine aA ?_;exact dG (by rw[Jk,if_neg h,if_neg h1,if_pos h2])
   ·refine aA ?_;exact dG (by rw[Jk,if_neg h,if_neg h1,if_neg h2])
end
section
structure gF where
 a1:AC
 a2:AC
 a3:AC
 a4:AC
 x1:AC
 x2:AC
 x3:AC
 y1:AC
 y2:AC
 y3:AC
 b0:AC
 b1:AC
structure bZ where
 x:bJ
 y:bJ
 h0:Int
 h1:Int
 w0:List Int
 w1:List Int
 last:Int
 at_:Int
 kind:Int
 id:Int
def tT(s:aC):bZ:=⟨dP s,dP s,0,0,[],[],1,-1,0,0⟩
def yG(a:AC)(n:Nat):Value:=.slice a.1 n a.2
def jW(h:Nat)(L:gF)(s:aC)(z:bZ):List Value:=[pt h,.slice L.a1.1 s.aF.length L.a1.2,.slice L.a2.1 s.domains.length L.a2.2,.slice L.a3.1 s.aT.length L.a3.2,.slice L.a4.1 s.aD.length L.a4.2,
 .slice L.x1.1 z.x.d.length L.x1.2,.slice L.x2.1 z.x.c.length L.x2.2,.slice L.x3.1 z.x.l.length L.x3.2,.slice L.y1.1 z.y.d.length L.y1.2,.slice L.y2.1 z.y.c.length L.y2.2,.slice L.y3.1 z.y.l.length L.y3.2,
 iv z.h0,.slice L.b0.1 z.w0.length L.b0.2,iv z.h1,.slice L.b1.1 z.w1.length L.b1.2,iv z.last,iv z.at_,.int .u8 z.kind,iv z.id]
def wI(L:gF)(s:aC)(p:Piece):Prop:=pW p s L.a1.1 s.aF.length L.a2.1 s.domains.length L.a3.1 s.aT.length L.a4.1 s.aD.length
theorem wI.le{L:gF}{s:aC}(p q:Piece)(hl:p.Le q)(h:wI L s p):wI L s q:=pW.le h hl
def rK(L:gF)(x y:bJ)(p:Piece):Prop:=aI p 1 L.x1.1 x.d.length (bE x.d)∧aI p 1 L.x2.1 x.c.length (bE x.c)∧aI p 1 L.x3.1 x.l.length (bE x.l)∧aI p 1 L.y1.1 y.d.length (bE y.d)∧aI p 1 L.y2.1 y.c.length (bE y.c)∧aI p 1 L.y3.1 y.l.length (bE y.l)
theorem rK.le{L:gF}{x y:bJ}(p q:Piece)(hl:p.Le q)(h:rK L x y p):rK L x y q:=⟨h.1.le hl,h.2.1.le hl,h.2.2.1.le hl,h.2.2.2.1.le hl,h.2.2.2.2.1.le hl,h.2.2.2.2.2.le hl⟩
def eR(a:AC)(l:List Int)(p:Piece):Prop:=aI p 1 a.1 l.length (qU l)
theorem eR.le{a:AC}{l:List Int}(p q:Piece)(hl:p.Le q)(h:eR a l p):eR a l q:=aI.le h hl
theorem vB.P{q:Piece}{x y:bJ}{v:Value}(h:vB q x y v):∃x1 x2 x3 y1 y2 y3:AC,v=.agg #[yG x1 x.d.length,yG x2 x.c.length,yG x3 x.l.length,yG y1 y.d.length,yG y2 y.c.length,yG y3 y.l.length]∧∀a1 a2 a3 a4 b0 b1:AC,rK ⟨a1,a2,a3,a4,x1,x2,x3,y1,y2,y3,b0,b1⟩ x y q:=by
 obtain⟨A1,k1,A2,k2,A3,k3,B1,m1,B2,m2,B3,m3,e,a1,a2,a3,b1,b2,b3⟩:=h;exact⟨(A1,k1),(A2,k2),(A3,k3),(B1,m1),(B2,m2),(B3,m3),e,fun _ _ _ _ _ _=>⟨a1,a2,a3,b1,b2,b3⟩⟩
def iQ(f h:Nat)(L:gF)(s:aC)(z:bZ):HP:=HP.many [HP.aE f 138 (jW h L s z),HP.bY (wI L s) (wI.le (L:=L) (s:=s)),HP.bY (rK L z.x z.y) (rK.le (L:=L) (x:=z.x) (y:=z.y)),HP.bY (eR L.b0 z.w0) (eR.le (a:=L.b0) (l:=z.w0)),HP.bY (eR L.b1 z.w1) (eR.le (a:=L.b1) (l:=z.w1))]
def Cf(f h:Nat)(s:aC)(z:bZ):HP:=HP.ex fun L:gF=>iQ f h L s z
structure Lo(w:World)(f h:Nat)(L:gF)(s:aC)(z:bZ):Prop where
 r0:eG w f 0 (jW h L s z)
 so:wI L s (all w)
 st:rK L z.x z.y (all w)
 b0:eR L.b0 z.w0 (all w)
 b1:eR L.b1 z.w1 (all w)
theorem aKB{f h:Nat}{L:gF}{s:aC}{z:bZ}{F:Nat→Prop}{w:World}(k:(iQ f h L s z).sat F w)(hF:∀b,F b→b < w.heap.size):Lo w f h L s z:=by
 obtain⟨G,g1,g2,_⟩:=k
 have hl:∀i,(⟨w,G i⟩:Piece).Le (all w):=fun i b hb=>⟨hF b (g2 i b hb),rfl⟩
 exact⟨wD (g1 0 _ rfl).2,wI.le _ _ (hl 1) (g1 1 _ rfl),rK.le _ _ (hl 2) (g1 2 _ rfl),eR.le _ _ (hl 3) (g1 3 _ rfl),eR.le _ _ (hl 4) (g1 4 _ rfl)⟩
theorem St.Gb{w0 w:World}{R:List Piece}{H:List HP}{f h:Nat}{L:gF}{s:aC}{z:bZ}(t:St w0 R H w)(i:Nat)(hi:H[i]? =some (iQ f h L s z)):Lo w f h L s z:=by
 obtain⟨F,h1,h2,_⟩:=t.chunk hi;exact aKB h1 h2
def aKA(h:Nat)(s:aC)(v:Value)(hs:List HP)(_:Piece):Prop:=∃f,v=.tuple #[pt f,iv 0]∧hs=[Cf f h s (tT s)]
theorem aB2{w:World}(a:AC)(ha:a=(none,0)):(HP.bY (eR a []) (eR.le (a:=a) (l:=[]))).sat (fun _=>False) w:=by
 subst ha;exact⟨rfl,fun h=>absurd h (by simp)⟩
theorem aQU(h:Nat)(s:aC)(hH:s.dJ)(A1 A2 A3 A4:Option Addr)(n1 k1 n2 k2 n3 k3 n4 k4:Nat)(w:World)(hW:fL w s A1 n1 A2 n2 A3 n3 A4 n4):
  Cz 35 #[pt h,.agg #[.slice A1 n1 k1,.slice A2 n2 k2,.slice A3 n3 k3,.slice A4 n4 k4]] w (fun y w'=>(∃v hs q,y=.returned v∧q.w=w'∧aKA h s v hs q∧kA w hs q)∧Below w.heap.size w w'):=by
 obtain rfl:=hW.nB;obtain rfl:=hW.nM;obtain rfl:=hW.pO;obtain rfl:=hW.nZ;refine aN func35 ntmps35 ?_;refine aA ?_;refine bA fun g1=>?_;refine aA ?_;refine aU (fun w1 t=>Sv s A1 A2 A3 A4 _ k1 _ k2 _ k3 _ k4 w1 (hW.le (t.started (by simp))) hH.t.Su) ?_;refine aA ?_;refine jM [1,3] ?_;refine bP 0 ?_;refine aJ 1 ?_;refine aJ 3 ?_;refine aO 2 ?_
 refine jQ [] (fun v w w'=>aCq s v w w') (fun w1 t=>aE6 s A1 A2 A3 A4 _ k1 _ k2 _ k3 _ k4 w1 (hW.le (t.started (by simp))) (fun d hd=>by
  obtain⟨j,hj⟩:=List.getElem?_of_mem hd
  have:=(hH.t.aD j d hj).2.2.2.2.2.2.2.2.1
  omega)) ?_
 rintro _ w1 q1 ⟨cs,rfl,hcs⟩ Dc _ tB
 have tB:=tB (by simp)
 obtain⟨B1,m1,j1,B2,m2,j2,B3,m3,j3,B4,m4,j4,rfl,hsp⟩:=wH.P hcs
 have hsp:=hsp.le Dc
 obtain⟨rfl,rfl,rfl,rfl⟩:=hsp.len;refine Ld (Φ:=wI ⟨(B1,j1),(B2,j2),(B3,j3),(B4,j4),(none,0),(none,0),(none,0),(none,0),(none,0),(none,0),(none,0),(none,0)⟩ s) (hm:=wI.le) tB (by simp[all]) hsp ?_;refine bM ?_;refine aO 4 ?_;refine jQ [] (fun v w w'=>vB (fresh w w') (dP s) (dP s) v) (fun w1 st=>aLH s A1 A2 A3 A4 k1 k2 k3 k4 w1 hH.t) ?_;rintro _ w2 q2 hst uX _ Kk
 have Kk:=Kk (by simp)
 obtain⟨x1,x2,x3,y1,y2,y3,rfl,Mr⟩:=hst.P
 have Mr:=rK.le _ _ uX (Mr (B1,j1) (B2,j2) (B3,j3) (B4,j4) (none,0) (none,0))
 refine Ld (Φ:=rK ⟨(B1,j1),(B2,j2),(B3,j3),(B4,j4),x1,x2,x3,y1,y2,y3,(none,0),(none,0)⟩ (dP s) (dP s)) (hm:=rK.le) Kk (by simp[all]) Mr ?_;refine bM ?_;refine aO 5 ?_;refine kd (gA rfl) ?_;refine cX ?_;refine aO 6 ?_;refine bA fun f=>?_;refine cX ?_;refine aO 7 ?_;refine bH ?_;refine cX ?_;refine fJ ?_;refine aA ?_;refine Bv (p:=HP.bY (eR (none,0) []) (eR.le (a:=(none,0)) (l:=[]))) (fun w=>aB2 _ rfl) ?_;refine Bv (p:=HP.bY (eR (none,0) []) (eR.le (a:=(none,0)) (l:=[]))) (fun w=>aB2 _ rfl) ?_;refine aY [2,4,3,0,1] rfl (by decide) (R':=[all w]) (by simp) ?_;refine nH ?_;refine uZ ?_;refine uZ ?_;refine uZ ?_;refine xL 0 (f:=fun L:gF=>iQ f h L s (tT s)) ⟨(B1,j1),(B2,j2),(B3,j3),(B4,j4),x1,x2,x3,y1,y2,y3,(none,0),(none,0)⟩ rfl ?_;dsimp only[List.set];refine dO [] [] [0] (by simp) rfl (by decide) (by decide) fun q _ _ hfr=>?_;exact eL rfl rfl rfl fun w1 t=>⟨⟨_,_,⟨w1,q.Z⟩,rfl,rfl,⟨f,rfl,rfl⟩,t.newR (by simp) (by simp) (hfr (by simp) (by simp))⟩,t.below (by simp)⟩
end
section
section
variable{N:cF}{w0 w:World}{e:Env}{R:List Piece}{H:List HP}{K:Act→World→Prop}{f h:Nat}{s:aC}{z:bZ}
theorem Zq(i:Nat)(hi:H[i]? =some (Cf f h s z))(k:∀L:gF,XK N w0 K e R (HP.aE f 138 (jW h L s z)::H.set i (HP.many [cH,HP.bY (wI L s) (wI.le (L:=L) (s:=s)),HP.bY (rK L z.x z.y) (rK.le (L:=L) (x:=z.x) (y:=z.y)),HP.bY (eR L.b0 z.w0) (eR.le (a:=L.b0) (l:=z.w0)),HP.bY (eR L.b1 z.w1) (eR.le (a:=L.b1) (l:=z.w1))]))):XK N w0 K e R H:=by
 have hlt:=Az hi
 refine aBW i hi fun L=>?_;refine tG i 0 (by rw[List.getElem?_set_self hlt];rfl) rfl ?_
 simpa[List.set_set] using k L
theorem Bu(L:gF)(i:Nat)(hi:H[i]? =some (HP.many [cH,HP.bY (wI L s) (wI.le (L:=L) (s:=s)),HP.bY (rK L z.x z.y) (rK.le (L:=L) (x:=z.x) (y:=z.y)),HP.bY (eR L.b0 z.w0) (eR.le (a:=L.b0) (l:=z.w0)),HP.bY (eR L.b1 z.w1) (eR.le (a:=L.b1) (l:=z.w1))]))(k:XK N w0 K e R (H.set i (Cf f h s z))):XK N w0 K e R (HP.aE f 138 (jW h L s z)::H):=by
 have hlt:=Az hi
 refine tH i 0 hi rfl ?_;refine xL i (f:=fun L:gF=>iQ f h L s z) L (by rw[List.getElem?_set_self hlt];rfl) ?_;rw[List.set_set];exact k
end
def nX(z:bZ)(a:Int)(l:List Int):Int×bZ:=
 if bO 2 a=false then(4,z) else if a=0 then(if z.h0≠0 then(7,z) else(0,{z with h0:=1,w0:=l})) else(if z.h1≠0 then(7,z) else(0,{z with h1:=1,w1:=l}))
theorem aQK(f h:Nat)(s:aC)(z:bZ)(a:Int)(A:Option Addr)(n c:Nat)(l:List Int)(w:World)(F:Nat→Prop)(hp:(Cf f h s z).sat F w)(hF:∀b,F b→b < w.heap.size)(hs:aI ⟨w,fun b=>b < w.heap.size∧¬F b⟩ 1 A n (qU l))(hn:n=l.length)(hn2:n≤1000000):
  Cz 94 #[pt f,iv a,.slice A n c] w (Wr (iv (nX z a l).1) (Cf f h s (nX z a l).2) w F):=by
 subst hn;cases hin:bO 2 a
 ·have hr:nX z a l=(4,z):=by simp[nX,hin]
  rw[hr];refine dK func94 ntmps94 hp hF ?_;refine aA ?_;refine aU (fun w1 t=>Qw a w1) ?_;rw[hin];refine aA ?_;exact cI 0 hF
 ·obtain rfl | rfl:a=0∨a=1:=by have:=of_decide_eq_true hin;omega
  ·refine dK func94 ntmps94 hp hF ?_;refine Zq 0 rfl fun L=>?_;dsimp only[List.set,jW];refine aA ?_;refine aU (fun w1 t=>Qw 0 w1) ?_;refine aA ?_;refine kd (gN 0 11) ?_;refine aA ?_;refine aG rfl (fun hb=>?_) (fun hb=>?_)
   ·have hr:nX z 0 l=(7,z):=by simp[nX,bO,hb]
    rw[hr];refine aA ?_;refine Bu L 0 rfl ?_;dsimp only[List.set];exact cI 0 hF
   ·have hr:nX z 0 l=(0,{z with h0:=1,w0:=l}):=by simp[nX,bO];simpa using hb
    rw[hr];refine aA ?_;refine jM [5,6] ?_;refine bP 0 ?_;refine bP 1 ?_;refine bP 2 ?_;refine aJ 5 ?_;refine aJ 6 ?_;refine aO 3 ?_;refine iY (aFv l.length (qU l)) (fun w1 t=>aJp A _ c _ w1 (hs.le (t.le (by simp))) (Uk _) hn2) ?_;rintro _ _ q1 ⟨An,cn,rfl,rfl⟩ _;dsimp only[List.cons_append,List.nil_append];refine bM ?_;refine aO 4 ?_;refine kd (gA rfl) ?_;refine bM ?_;refine aO 7 ?_;refine kd (gN 0 11) ?_;refine cX ?_;refine aO 8 ?_;refine rO 1 (t:=138) rfl rfl rfl (by kernel_rfl) (by simp[Value.cells,Value.oneCell']) (by simp[Value.cells]) ?_;dsimp only[List.set,Value.cells,iI];refine cX ?_;refine fJ ?_;refine aA ?_;refine Gj 0 (Φ:=eR (An,cn) l) (hm:=eR.le) rfl (fun p hp=>hp) ?_;refine bF 2 3 ?_;refine aY [1,2,3] rfl (by decide) (fun _ h=>h) ?_;refine aP 1 3 ?_;refine Bu (h:=h) (s:=s) (z:={z with h0:=1,w0:=l}) {L with b0:=(An,cn)} 0 rfl ?_;dsimp only[List.set];exact cI 0 hF
  ·refine dK func94 ntmps94 hp hF ?_;refine Zq 0 rfl fun L=>?_;dsimp only[List.set,jW];refine aA ?_;refine aU (fun w1 t=>Qw 1 w1) ?_;refine aA ?_;refine kd (gN 1 13) ?_;refine aA ?_;refine aG rfl (fun hb=>?_) (fun hb=>?_)
   ·have hr:nX z 1 l=(7,z):=by simp[nX,bO,hb]
    rw[hr];refine aA ?_;refine Bu L 0 rfl ?_;dsimp only[List.set];exact cI 0 hF
   ·have hr:nX z 1 l=(0,{z with h1:=1,w1:=l}):=by simp[nX,bO];simpa using hb
    rw[hr];refine aA ?_;refine jM [5,6] ?_;refine bP 0 ?_;refine bP 1 ?_;refine bP 2 ?_;refine aJ 5 ?_;refine aJ 6 ?_;refine aO 3 ?_;refine iY (aFv l.length (qU l)) (fun w1 t=>aJp A _ c _ w1 (hs.le (t.le (by simp))) (Uk _) hn2) ?_;rintro _ _ q1 ⟨An,cn,rfl,rfl⟩ _;dsimp only[List.cons_append,List.nil_append];refine bM ?_;refine aO 4 ?_;refine kd (gA rfl) ?_;refine bM ?_;refine aO 7 ?_;refine kd (gN 1 13) ?_;refine cX ?_;refine aO 8 ?_;refine rO 1 (t:=138) rfl rfl rfl (by kernel_rfl) (by simp[Value.cells,Value.oneCell']) (by simp[Value.cells]) ?_;dsimp only[List.set,Value.cells,iI];refine cX ?_;refine fJ ?_;refine aA ?_;refine Gj 0 (Φ:=eR (An,cn) l) (hm:=eR.le) rfl (fun p hp=>hp) ?_;refine bF 2 4 ?_;refine aY [1,2,3] rfl (by decide) (fun _ h=>h) ?_;refine aP 1 4 ?_;refine Bu (h:=h) (s:=s) (z:={z with h1:=1,w1:=l}) {L with b1:=(An,cn)} 0 rfl ?_;dsimp only[List.set];exact cI 0 hF
def oM(z:bZ)(a:Int):Option (List Int):=if a=0 then(if z.h0=2 then some z.w0 else none) else if a=1 then(if z.h1=2 then some z.w1 else none) else none
def oL(z:bZ)(a:Int):bZ:=if a=0 then(if z.h0=2 then {z with h0:=0,w0:=[]} else z) else if a=1 then(if z.h1=2 then {z with h1:=0,w1:=[]} else z) else z
def Vf(l:Option (List Int))(a:AC):Value:=match l with
 | some l=>.tuple #[.slice a.1 l.length a.2,.bool true]
 | none=>.tuple #[.slice none 0 0,.bool false]
def Ji(f h:Nat)(s:aC)(z:bZ)(l:List Int)(c:AC):HP:=HP.many [Cf f h s z,HP.bY (eR c l) (eR.le (a:=c) (l:=l))]
theorem aIA(f h:Nat)(s:aC)(z:bZ)(a:Int)(w:World)(F:Nat→Prop)(hp:(Cf f h s z).sat F w)(hF:∀b,F b→b < w.heap.size):
  Cz 95 #[pt f,iv a] w (fun y w'=>∃c:AC,y=.returned (Vf (oM z a) c)∧True∧∃F',(Ji f h s (oL z a) ((oM z a).getD []) c).sat F' w'∧iE w w' F F'):=by
 have Xa:∀w:World,(HP.bY (eR (none,0) []) (eR.le (a:=(none,0)) (l:=[]))).sat (fun _=>False) w:=fun w=>aB2 _ rfl
 cases hin:bO 2 a
 ·have h0:a≠0:=fun h=>by subst h;cases hin
  have h1:a≠1:=fun h=>by subst h;cases hin
  have hr:oM z a=none:=by simp[oM,h0,h1]
  have hz:oL z a=z:=by simp[oL,h0,h1]
  rw[hr,hz];unfold Ji;refine dK func95 ntmps95 hp hF ?_;refine aA ?_;refine aU (fun w1 t=>Qw a w1) ?_;rw[hin];refine aA ?_;refine Bv (p:=HP.bY (eR (none,0) []) (eR.le (a:=(none,0)) (l:=[]))) Xa ?_;refine aY [1,0] rfl (by decide) (fun _ h=>h) ?_;refine nH ?_;exact eL rfl rfl rfl fun w1 t=>⟨(none,0),rfl,trivial,t.turns hF (by simp) (i:=0) rfl⟩
 ·obtain rfl | rfl:a=0∨a=1:=by have:=of_decide_eq_true hin;omega
  ·refine dK func95 ntmps95 hp hF ?_;refine Zq 0 rfl fun L=>?_;dsimp only[List.set,jW];refine aA ?_;refine aU (fun w1 t=>Qw 0 w1) ?_;refine aA ?_;refine kd (gN 0 11) ?_;refine aA ?_;refine aG rfl (fun hb=>?_) (fun hb=>?_)
   ·have hr:oM z 0=none:=by simp[oM,hb]
    have hz:oL z 0=z:=by simp[oL,hb]
    rw[hr,hz];unfold Ji;dsimp only[Option.getD];refine aA ?_;refine Bu L 0 rfl ?_;dsimp only[List.set];refine Bv (p:=HP.bY (eR (none,0) []) (eR.le (a:=(none,0)) (l:=[]))) Xa ?_;refine aY [1,0] rfl (by decide) (fun _ h=>h) ?_;refine nH ?_;exact eL rfl rfl rfl fun w1 t=>⟨(none,0),rfl,trivial,t.turns hF (by simp) (i:=0) rfl⟩
   ·have eY:z.h0=2:=by simpa using hb
    have hr:oM z 0=some z.w0:=by simp[oM,eY]
    have hz:oL z 0={z with h0:=0,w0:=[]}:=by simp[oL,eY]
    rw[hr,hz];unfold Ji;dsimp only[Option.getD];refine aA ?_;refine kd (gN 0 11) ?_;refine aA ?_;refine kd (gA rfl) ?_;refine aA ?_;refine kd (gN 0 11) ?_;refine rO 0 (t:=138) rfl rfl rfl (by kernel_rfl) (by simp[Value.cells,Value.oneCell']) (by simp[Value.cells]) ?_;dsimp only[List.set,Value.cells,iI];refine aA ?_;refine bF 1 3 ?_;refine Bv (p:=HP.bY (eR (none,0) []) (eR.le (a:=(none,0)) (l:=[]))) Xa ?_;refine aY [0,2,3,1] rfl (by decide) (fun _ h=>h) ?_;refine aP 1 3 ?_;refine Bu (h:=h) (s:=s) (z:={z with h0:=0,w0:=[]}) {L with b0:=(none,0)} 0 rfl ?_;dsimp only[List.set];refine nH ?_;exact eL rfl rfl rfl fun w1 t=>⟨L.b0,rfl,trivial,t.turns hF (by simp) (i:=0) rfl⟩
  ·refine dK func95 ntmps95 hp hF ?_;refine Zq 0 rfl fun L=>?_;dsimp only[List.set,jW];refine aA ?_;refine aU (fun w1 t=>Qw 1 w1) ?_;refine aA ?_;refine kd (gN 1 13) ?_;refine aA ?_;refine aG rfl (fun hb=>?_) (fun hb=>?_)
   ·have hr:oM z 1=none:=by simp[oM,hb]
    have hz:oL z 1=z:=by simp[oL,hb]
    rw[hr,hz];unfold Ji;dsimp only[Option.getD];refine aA ?_;refine Bu L 0 rfl ?_;dsimp only[List.set];refine Bv (p:=HP.bY (eR (none,0) []) (eR.le (a:=(none,0)) (l:=[]))) Xa ?_;refine aY [1,0] rfl (by decide) (fun _ h=>h) ?_;refine nH ?_;exact eL rfl rfl rfl fun w1 t=>⟨(none,0),rfl,trivial,t.turns hF (by simp) (i:=0) rfl⟩
   ·have eY:z.h1=2:=by simpa using hb
    have hr:oM z 1=some z.w1:=by simp[oM,eY]
    have hz:oL z 1={z with h1:=0,w1:=[]}:=by simp[oL,eY]
    rw[hr,hz];unfold Ji;dsimp only[Option.getD];refine aA ?_;refine kd (gN 1 13) ?_;refine aA ?_;refine kd (gA rfl) ?_;refine aA ?_;refine kd (gN 1 13) ?_;refine rO 0 (t:=138) rfl rfl rfl (by kernel_rfl) (by simp[Value.cells,Value.oneCell']) (by simp[Value.cells]) ?_;dsimp only[List.set,Value.cells,iI];refine aA ?_;refine bF 1 4 ?_;refine Bv (p:=HP.bY (eR (none,0) []) (eR.le (a:=(none,0)) (l:=[]))) Xa ?_;refine aY [0,2,3,1] rfl (by decide) (fun _ h=>h) ?_;refine aP 1 4 ?_;refine Bu (h:=h) (s:=s) (z:={z with h1:=0,w1:=[]}) {L with b1:=(none,0)} 0 rfl ?_;dsimp only[List.set];refine nH ?_;exact eL rfl rfl rfl fun w1 t=>⟨L.b1,rfl,trivial,t.turns hF (by simp) (i:=0) rfl⟩
end
section
def Dq(c:eD)(r:Int):Int:=if c.kind=112 then(if 1099511627776 < r*c.mul / c.div then 1099511627776 else r*c.mul / c.div) else if c.kind=100 then r / c.div else r
def Nt(s:aC):Nat→Nat→Int
 | 0,_=>0
 | k + 1, i => match s.aF[i]? with
  | none=>0
  | some c=>if c.kind=111 then c.rate else Dq c (match c.src with
   | []=>0
   | f::_=>Nt s k f.toNat)
def sF(s:aC)(i:Nat):Int:=Nt s (i+1) i
def Jj(s:aC)(st:List eP)(i:Int):Int:=if qC s st i then sF s i.toNat else 0
theorem aRa{s:aC}(hf:Fits eD.fit s.aF):∀(c k:Nat),c < k→Nt s k c=Nt s (c+1) c:=by
 intro c
 induction c using Nat.strongRecOn with
 | _ c ih =>
  intro k hk;obtain⟨k,rfl⟩:=Nat.exists_eq_add_of_lt hk;rw[show c+k+1=(c+k)+1 from rfl];unfold Nt;cases hc:s.aF[c]? with
  | none=>rfl
  | some x =>
   dsimp only;cases hs:x.src with
   | nil=>rfl
   | cons f fs=>
    have hfit:=(hf c x hc).1 f (by rw[hs];simp)
    have h1:f.toNat < c:=by omega
    dsimp only;rw[ih f.toNat h1 (c+k) (by omega),ih f.toNat h1 c h1]
theorem aIL{s:aC}(hf:Fits eD.fit s.aF){i:Nat}{c:eD}(hc:s.aF[i]? =some c):sF s i=if c.kind=111 then c.rate else Dq c (match c.src with
  | []=>0
  | f::_=>sF s f.toNat):=by
 unfold sF;rw[Nt,hc];dsimp only;cases hs:c.src with
 | nil=>rfl
 | cons f fs=>
  have hfit:=(hf i c hc).1 f (by rw[hs];simp)
  dsimp only;rw[aRa hf f.toNat i (by omega)]
theorem aQZ{s:aC}(hf:Fits eD.fit s.aF):∀i:Nat,0≤sF s i∧sF s i≤1099511627776:=by
 intro i
 induction i using Nat.strongRecOn with
 | _ i ih =>
  cases hc:s.aF[i]? with
  | none=>unfold sF Nt;rw[hc];exact⟨Int.le_refl 0,by show(0:Int)≤1099511627776;omega⟩
  | some c =>
   rw[aIL hf hc];obtain⟨hsrc,hfit⟩:=hf i c hc
   have hr:0≤(match c.src with | []=>0 | f::_=>sF s f.toNat)∧(match c.src with | []=>0 | f::_=>sF s f.toNat)≤1099511627776:=by
    cases hs:c.src with
    | nil=>exact⟨Int.le_refl 0,by show(0:Int)≤1099511627776;omega⟩
    | cons f fs=>
     have:=hsrc f (by rw[hs];simp)
     exact ih f.toNat (by omega)
   generalize (match c.src with | []=>0 | f::_=>sF s f.toNat)=r at hr;rcases hfit with⟨hk,_,h1,h2,_⟩ | ⟨hk,_,_,h1,h2,h3,h4,_⟩ | ⟨hk,_,_,_,h1,h2,_⟩ | ⟨hk,_⟩ | ⟨hk,_⟩
   ·rw[if_pos hk];omega
   ·rw[if_neg (by omega),Dq,if_pos hk]
    have:0≤r*c.mul / c.div:=Int.ediv_nonneg (Int.mul_nonneg hr.1 (by omega)) (by omega)
    split<;>omega
   ·rw[if_neg (by omega),Dq,if_neg (by omega),if_pos hk]
    have h5:0≤r / c.div:=Int.ediv_nonneg hr.1 (by omega)
    have h6:r / c.div≤r:=Int.ediv_le_self _ hr.1
    omega
   ·rw[if_neg (by omega),Dq,if_neg (by omega),if_neg (by omega)];exact hr
   ·rw[if_neg (by omega),Dq,if_neg (by omega),if_neg (by omega)];exact hr
theorem aIM(n:Int)(h1:1≤n)(h2:n≤1000)(w:World):Cz 246 #[iv n] w (Rt (.bool true) w):=by
 refine aN func246 ntmps246 ?_;refine aA ?_;refine bX (t:=5) rfl (fun _=>?_) (fun h=>absurd h1 h);refine aA ?_;refine jT (by simp) ?_;rw[decide_eq_true h2]
theorem aLT(r m d:Int)(hr:0≤r∧r≤1099511627776)(hm:1≤m∧m≤8)(hd:1≤d∧d≤4)(w:World):Cz 243 #[.int .u64 r,iv m,iv d] w (Rt (.tuple #[.int .u64 (if 1099511627776 < r*m / d then 0 else r*m / d),iv (if 1099511627776 < r*m / d then 3 else 0)]) w):=by
 have hmul:0≤r*m∧r*m≤1099511627776*8:=⟨Int.mul_nonneg hr.1 (by omega),Int.mul_le_mul hr.2 hm.2 (by omega) (by omega)⟩
 have hq:0≤r*m / d∧r*m / d≤r*m:=⟨Int.ediv_nonneg hmul.1 (by omega),Int.ediv_le_self _ hmul.1⟩
 refine aN func243 ntmps243 ?_;refine aA ?_;refine bX (t:=11) rfl (fun h=>absurd h (by omega)) (fun _=>?_);refine aA ?_;refine aU (fun w1 t=>aIM m hm.1 (by omega) w1) ?_;refine aA ?_;refine aU (fun w1 t=>aIM d hd.1 (by omega) w1) ?_;refine aA ?_;refine Ek (ds:=.int .i64) (kd:=.u64) (by kernel_rfl) (by kernel_rfl) rfl (wrap_u64 (by omega)) (by decide) ?_;refine aKM rfl rfl (c:=r*m) (wrap_u64 (by omega)) (by decide) ?_;refine aA ?_;refine Ek (ds:=.int .i64) (kd:=.u64) (by kernel_rfl) (by kernel_rfl) rfl (wrap_u64 (by omega)) (by decide) ?_;refine aF6 rfl rfl (c:=r*m / d) (by omega) (by rw[Int.tdiv_eq_ediv_of_nonneg hmul.1];exact wrap_u64 (by omega)) (by decide) ?_;refine aA ?_;refine aG rfl (fun h=>?_) (fun h=>?_)
 ·rw[if_pos h,if_pos h];refine aA ?_;exact eL rfl rfl rfl fun w1 t=>⟨rfl,t.below (by simp)⟩
 ·rw[if_neg h,if_neg h];refine aA ?_;exact eL rfl rfl rfl fun w1 t=>⟨rfl,t.below (by simp)⟩
theorem aS0(L:TL)(s:aC)(st:List eP)(hH:s.dJ)(b1 b2:Nat):∀(i:Nat),i < s.aF.length→∀w,xN w L s st→fR w b1 0 (.pointer (some ⟨L.t,0,none⟩))→fR w b2 0 (.func (.func 242) #[] #[pt b1,pt b2])→
  Cz 242 #[iv (i:Int),pt b1,pt b2] w (Rt (.int .u64 (sF s i)) w):=by
 intro i
 induction i using Nat.strongRecOn with
 | _ i ih =>
  intro hlt w hR Ht eY;obtain⟨b,off,c,a,x,hc,hx,hA,hro,hs⟩:=hR.node hlt
  have Wz:=aIL hH.t.aF hc
  have h0:=hR.r0
  rw[hA] at h0
  have k0:=hro.at_ (j:=0) rfl
  have k2:=hro.at_ (j:=2) rfl
  have k3:=hro.at_ (j:=3) rfl
  have k4:=hro.at_ (j:=4) rfl
  have k10:=hro.at_ (j:=10) rfl
  have Ry:∀{w1},Below w.heap.size w w1→fR w1 b1 0 (.pointer (some ⟨L.t,0,none⟩)):=fun hb=>⟨Nat.lt_of_lt_of_le Ht.1 hb.size,(hb.cell (p:=⟨_,0,none⟩) Ht.1).trans Ht.2⟩
  have go2:∀{w1},Below w.heap.size w w1→fR w1 b2 0 (.func (.func 242) #[] #[pt b1,pt b2]):=fun hb=>⟨Nat.lt_of_lt_of_le eY.1 hb.size,(hb.cell (p:=⟨_,0,none⟩) eY.1).trans eY.2⟩
  obtain⟨hsrc,hfit⟩:=hH.t.aF i c hc;refine aN func242 ntmps242 ?_;refine aA ?_;refine kd (dat i (off+i*11)) ?_;rcases hfit with⟨hk,hs0,_⟩ | hfit
  ·rw[hk] at k0;rw[if_pos hk] at Wz;refine aA ?_;exact dG (by rw[Wz])
  obtain⟨f,fs,hf⟩:∃(f:Nat) (fs:List Int),c.src=(f:Int)::fs:=by
   cases hs0:c.src with
   | nil=>rw[hs0] at hfit;simp at hfit
   | cons f fs=>exact⟨f.toNat,fs,by have:=(hsrc f (by rw[hs0];simp)).1;rw[Int.toNat_of_nonneg this]⟩
  have Nb:f < i:=by have:=(hsrc f (by rw[hf];simp)).2;omega
  have pR:=aQZ hH.t.aF f
  have aBu:∀w1,Below w.heap.size w w1→Cz 90 #[.pointer (some ⟨L.t,0,none⟩),iv (i:Int)] w1 (Rt (iv (f:Int)) w1):=fun w1 hb=>Ss L s st i f c fs w1 (hR.below hb) hc hf
  have aBt:∀w1,Below w.heap.size w w1→Cz 242 #[iv (f:Int),pt b1,pt b2] w1 (Rt (.int .u64 (sF s f)) w1):=fun w1 hb=>ih f Nb (by omega) w1 (hR.below hb) (Ry hb) (go2 hb)
  rw[hf] at Wz
  have Dh:sF s i=if c.kind=111 then c.rate else Dq c (sF s f):=Wz
  clear Wz;rcases hfit with⟨hk,_,_,hm1,hm2,dF,Ru,_⟩ | ⟨hk,_,_,_,dF,Ru,_⟩ | ⟨hk,_⟩ | ⟨hk,_⟩
  ·rw[hk] at k0;rw[if_neg (by omega),Dq,if_pos hk] at Dh;refine aA ?_;refine mK ?_;refine jB ?_;refine uA (fun w1 t=>aBu w1 (t.below (by simp))) ?_;refine Iq (fi:=[]) (vs:=[iv (f:Int)]) (ca:=[pt b1,pt b2]) (fun w1 t=>aBt w1 (t.below (by simp))) ?_;refine jC ?_;refine aA ?_;refine mK ?_;refine jB ?_;refine uA (fun w1 t=>aLT _ c.mul c.div pR ⟨hm1,hm2⟩ ⟨dF,Ru⟩ w1) ?_;refine jC ?_;refine aA ?_
   by_cases hq:1099511627776 < sF s f*c.mul / c.div
   ·rw[if_pos hq] at Dh;rw[if_pos hq,if_pos hq];refine aA ?_;exact dG (by rw[Dh])
   ·rw[if_neg hq] at Dh;rw[if_neg hq,if_neg hq];refine aA ?_;exact dG (by rw[Dh])
  ·rw[hk] at k0;rw[if_neg (by omega),Dq,if_neg (by omega),if_pos hk] at Dh
   have hby:byF c=c.div:=by rw[byF,if_pos hk]
   rw[hby] at k10
   have hq:0≤sF s f / c.div∧sF s f / c.div≤sF s f:=⟨Int.ediv_nonneg pR.1 (by omega),Int.ediv_le_self _ pR.1⟩
   refine aA ?_;refine mK ?_;refine jB ?_;refine uA (fun w1 t=>aBu w1 (t.below (by simp))) ?_;refine Iq (fi:=[]) (vs:=[iv (f:Int)]) (ca:=[pt b1,pt b2]) (fun w1 t=>aBt w1 (t.below (by simp))) ?_;refine jC ?_;refine aA ?_;refine Ek (ds:=.int .i64) (kd:=.u64) (by kernel_rfl) (by kernel_rfl) rfl (wrap_u64 (by omega)) (by decide) ?_;refine aF6 rfl rfl (c:=sF s f / c.div) (by omega) (by rw[Int.tdiv_eq_ediv_of_nonneg pR.1];exact wrap_u64 (by omega)) (by decide) ?_;refine aA ?_;exact dG (by rw[Dh])
  ·rw[hk] at k0;rw[if_neg (by omega),Dq,if_neg (by omega),if_neg (by omega)] at Dh;refine aA ?_;refine mK ?_;refine jB ?_;refine uA (fun w1 t=>aBu w1 (t.below (by simp))) ?_;refine Iq (fi:=[]) (vs:=[iv (f:Int)]) (ca:=[pt b1,pt b2]) (fun w1 t=>aBt w1 (t.below (by simp))) ?_;refine jC ?_;refine aA ?_;exact dG (by rw[Dh])
  ·rw[hk] at k0;rw[if_neg (by omega),Dq,if_neg (by omega),if_neg (by omega)] at Dh;refine aA ?_;refine mK ?_;refine jB ?_;refine uA (fun w1 t=>aBu w1 (t.below (by simp))) ?_;refine Iq (fi:=[]) (vs:=[iv (f:Int)]) (ca:=[pt b1,pt b2]) (fun w1 t=>aBt w1 (t.below (by simp))) ?_;refine jC ?_;refine aA ?_;exact dG (by rw[Dh])
theorem aSx(L:TL)(s:aC)(st:List eP)(hH:s.dJ)(i:Int)(w:World)(hR:xN w L s st):
  Cz 232 #[.pointer (some ⟨L.t,0,none⟩),iv i] w (Rt (.int .u64 (Jj s st i)) w):=by
 unfold Jj;cases hr:qC s st i
 ·rw[if_neg (by decide)];refine aN func232 ntmps232 ?_;refine aA ?_;refine bA fun g1=>?_;refine aA ?_;refine aU (fun w1 t=>Yw L s st hH i w1 (hR.below (t.below (by simp)))) ?_;rw[hr];refine aA ?_;exact dG
 ·rw[if_pos rfl]
  have hi:bO s.aF.length i=true:=by
   unfold qC at hr;exact(Bool.and_eq_true _ _▸hr).1
  obtain⟨n,rfl⟩:∃n:Nat,i=n:=⟨i.toNat,by have:=of_decide_eq_true hi;omega⟩
  have hlt:n < s.aF.length:=by have:=of_decide_eq_true hi;omega
  refine aN func232 ntmps232 ?_;refine aA ?_;refine bA fun g1=>?_;refine aA ?_;refine aU (fun w1 t=>Yw L s st hH n w1 (hR.below (t.below (by simp)))) ?_;rw[hr];refine aA ?_;refine bU fun g2=>?_;refine aA ?_;refine kO (vf:=[]) (vc:=[pt g1,pt g2]) rfl rfl (by decide) ?_;refine aA ?_;refine aAZ (fi:=[]) (vs:=[iv (n:Int)]) (ca:=[pt g1,pt g2]) (fun w1 t=>aS0 L s st hH g1 g2 n hlt w1 (hR.below (t.below (by simp))) ((t.box (i:=1) rfl).at_ (j:=0) rfl) ((t.box (i:=0) rfl).at_ (j:=0) rfl)) ?_;refine aA ?_;exact dG
end
section
def pN(s:aC)(x:aM)(l:List Int):List Int:=
 let w:=l.headD 0
 if cO w 0 8=0 then[131072]
 else if cO w 10 8=16∧cO w 0 8=1 then[IntKind.u32.wrap (s.domains.length+s.aF.length*256+s.aT.length*65536+s.aD.length*16777216)]
 else if cO w 10 8=17∧cO w 0 8=5 then[Jk (rU x.dm (l.getD 1 0))]
 else if cO w 10 8=20∧cO w 0 8=6 then[IntKind.u32.wrap (Jj s x.ck (l.getD 1 0)),IntKind.u32.wrap (Jj s x.ck (l.getD 1 0) / 4294967296)] else[]
theorem aPP(L:HL)(s:aC)(x:aM)(w:World)(hH:s.dJ)(i:Int)(hR:vE w L s x):Cz 186 #[.pointer (some ⟨L.h,0,none⟩),iv i] w (Rt (.int .u64 (Jj s x.ck i)) w):=by
 have k0:=hR.r0.at_ (j:=0) rfl
 refine aN func186 ntmps186 ?_;refine aA ?_;refine aU (fun w1 t=>Dj L s x w1 (hR.below (t.below (by simp)))) ?_;refine aA ?_;refine aU (fun w1 t=>aSx L.T s x.ck hH i w1 (hR.tree.below (t.below (by simp)))) ?_;refine aA ?_;exact dG
theorem aJ1{α:Type}{cs vs:List α}{o:Nat}(hv:(cs.drop o).take vs.length=vs){j:Nat}{v:α}(hj:vs[j]? =some v):cs[o+j]? =some v:=by
 have hlt:=(List.getElem?_eq_some_iff.1 hj).1
 rw[←hv,List.getElem?_take_of_lt hlt,List.getElem?_drop] at hj;exact hj
theorem aQO(f:Nat)(L:gF)(s:aC)(z:bZ)(hL:HL)(x:aM)(hH:s.dJ)(sC:vG s x.dm)(A:Option Addr)(c:Nat)(v:Int)(l:List Int)(w:World)(hR:Lo w f hL.h L s z)(hh:vE w hL s x)(hs:aI (all w) 1 A (v::l).length (qU (v::l)))
  (hu:cO v 28 4=0) (mP:(cO v 10 8=17∧cO v 0 8=5)∨(cO v 10 8=20∧cO v 0 8=6)→∃i,l=[i]∧0≤i∧i < 4294967296):
  Cz 106 #[pt f,.slice A (v::l).length c] w (fun y w'=>(∃r,y=.returned r∧aCi (pN s x (v::l)) r w w')∧Below w.heap.size w w'):=by
 obtain⟨b,off,rfl,hro⟩:=aI.u32 hs (by simp)
 have k0:=hro 0 v rfl
 have hlen:(v::l).length=l.length+1:=rfl
 have hE:uM v=0:=by rw[uM,if_neg (by simp[hu])]
 have hU:Gs v=Hr (cO v 0 8) (cO v 8 2) (cO v 10 8) (cO v 18 10):=by rw[Gs,if_neg (by simp[hu])]
 have kf:=hR.r0.at_ (j:=0) rfl
 have k4:eG w f 1 [.slice L.a1.1 s.aF.length L.a1.2,.slice L.a2.1 s.domains.length L.a2.2,.slice L.a3.1 s.aT.length L.a3.2,.slice L.a4.1 s.aD.length L.a4.2]:=⟨hR.r0.1,fun j v hj=>by
  have:=hR.r0.2 (1+j) v (aJ1 rfl hj)
  rwa [Nat.zero_add] at this⟩
 have hnc:=hH.t.nc
 have hnd:=hH.t.nd
 have iK:=hH.t.nr
 have nD:=hH.t.nv
 refine aN func106 ntmps106 ?_;refine aB ?_;refine aU (fun w1 t=>aFX v w1) ?_;rw[hE,hU];dsimp only[Hr];refine aA ?_;refine bU fun g1=>?_;refine aA ?_;refine aG rfl (fun h1=>?_) (fun h1=>?_)
 ·have hm:pN s x (v::l)=[131072]:=if_pos (by simpa using h1)
  rw[hm];refine aA ?_;refine eH fun g2=>?_;refine aA ?_;refine dO [] [0] [] (by simp) rfl (by decide) (by decide) fun q hq _ hfr=>?_;obtain⟨F2,Cq,Ch⟩:=hq 0 _ (by simp) rfl
  have cS:=tI (Y:=q.Z) (sz:=1) (n:=1) (c:=1) Cq Ch rfl
  exact aS (h:=fun w1 st=>⟨_,rfl,_,_,rfl,aI.le cS (st.mH (by simp) (hfr (by simp) (by simp)))⟩)
 ·have n1:cO v 0 8≠0:=by simpa using h1
  refine aA ?_;refine bX (t:=26) rfl (fun h2=>?_) (fun h2=>?_)
  ·have p1:cO v 10 8=16:=by simpa using h2
   refine aA ?_;refine aG rfl (fun h3=>?_) (fun h3=>?_)
   ·have m1:cO v 0 8=1:=by simpa using h3
    have hm:pN s x (v::l)=[IntKind.u32.wrap (s.domains.length+s.aF.length*256+s.aT.length*65536+s.aD.length*16777216)]:=(if_neg n1).trans (if_pos ⟨p1,m1⟩)
    rw[hm];refine aA ?_;refine bU fun g2=>?_;refine aA ?_;refine Po rfl rfl (c:=s.aF.length*256) (by decide) (by show IntKind.i64.wrap ((s.aF.length:Int)*256)=_;exact iR (by omega)) (by decide) ?_;refine aA ?_;refine Po rfl rfl (c:=s.aT.length*65536) (by decide) (by show IntKind.i64.wrap ((s.aT.length:Int)*65536)=_;exact iR (by omega)) (by decide) ?_;refine aA ?_;refine Po rfl rfl (c:=s.aD.length*16777216) (by decide) (by show IntKind.i64.wrap ((s.aD.length:Int)*16777216)=_;exact iR (by omega)) (by decide) ?_;refine aA ?_;refine Ek (ds:=.int .i64) (kd:=.u32) (by kernel_rfl) (by kernel_rfl) rfl rfl (by decide) ?_;refine eH fun g3=>?_;refine aA ?_;refine dO [] [0] [] (by simp) rfl (by decide) (by decide) fun q hq _ hfr=>?_;obtain⟨F2,Cq,Ch⟩:=hq 0 _ (by simp) rfl
    have cS:=tI (Y:=q.Z) (sz:=1) (n:=1) (c:=1) Cq Ch rfl
    exact aS (h:=fun w1 st=>⟨_,rfl,_,_,rfl,aI.le cS (st.mH (by simp) (hfr (by simp) (by simp)))⟩)
   ·have m1:cO v 0 8≠1:=by simpa using h3
    have hm:pN s x (v::l)=[]:=(if_neg n1).trans ((if_neg fun h=>m1 h.2).trans ((if_neg fun h=>by have:=h.1;simp[p1] at this).trans (if_neg fun h=>by have:=h.1;simp[p1] at this)))
    rw[hm];refine aA ?_;refine bX (t:=60) rfl (fun h4=>absurd h4 (by simp[p1])) (fun _=>?_);refine aA ?_;refine bX (t:=80) rfl (fun h4=>absurd h4 (by simp[p1])) (fun _=>?_);refine aA ?_;exact aS (h:=fun _ _=>⟨_,rfl,_,_,rfl,rfl,fun h=>absurd h (by simp)⟩)
  ·have p1:cO v 10 8≠16:=by simpa using h2
   refine aA ?_;refine bX (t:=60) rfl (fun h3=>?_) (fun h3=>?_)
   ·have p2:cO v 10 8=17:=by simpa using h3
    refine aA ?_;refine aG rfl (fun h4=>?_) (fun h4=>?_)
    ·have m1:cO v 0 8=5:=by simpa using h4
     obtain⟨i,rfl,hi1,hi2⟩:=mP (.inl ⟨p2,m1⟩)
     have aP5:[v,i].length=2:=rfl
     have hm:pN s x [v,i]=[Jk (rU x.dm i)]:=(if_neg n1).trans ((if_neg fun h=>p1 h.1).trans (if_pos ⟨p2,m1⟩))
     have k1:=hro 1 i rfl
     rw[hm];refine aA ?_;refine jM [1,2,3,5,6,7] ?_;refine bP 0 ?_;refine bP 4 ?_;refine aJ 1 ?_;refine aJ 2 ?_;refine aJ 3 ?_;refine aJ 5 ?_ (dI:=dat (sz:=1) 1 (off+1));refine aJ 6 ?_;refine aJ 7 ?_ (dI:=Ku (ds:=.int .u32) (by kernel_rfl) (by kernel_rfl) rfl (iR (by omega)));refine aO 8 ?_;refine aU (fun w1 t=>aDV hL s x w1 sC i (hh.below (t.below (by simp)))) ?_;refine cX ?_;refine aO 9 ?_;refine aU (fun w1 t=>aQN _ w1) ?_;refine cX ?_;refine aO 10 ?_;refine eH fun g2=>?_;refine cX ?_;refine aO 11 ?_;refine bH ?_;refine cX ?_;refine fJ ?_;refine aA ?_;refine dO [] [0] [] (by simp) rfl (by decide) (by decide) fun q hq _ hfr=>?_;obtain⟨F2,Cq,Ch⟩:=hq 0 _ (by simp) rfl
     have cS:=tI (Y:=q.Z) (sz:=1) (n:=1) (c:=1) Cq Ch rfl
     exact aS (h:=fun w1 st=>⟨_,rfl,_,_,rfl,aI.le cS (st.mH (by simp) (hfr (by simp) (by simp)))⟩)
    ·have m1:cO v 0 8≠5:=by simpa using h4
     have hm:pN s x (v::l)=[]:=(if_neg n1).trans ((if_neg fun h=>p1 h.1).trans ((if_neg fun h=>m1 h.2).trans (if_neg fun h=>by have:=h.1;simp[p2] at this)))
     rw[hm];refine aA ?_;refine bX (t:=80) rfl (fun h4=>absurd h4 (by simp[p2])) (fun _=>?_);refine aA ?_;exact aS (h:=fun _ _=>⟨_,rfl,_,_,rfl,rfl,fun h=>absurd h (by simp)⟩)
   ·have p2:cO v 10 8≠17:=by simpa using h3
    refine aA ?_;refine bX (t:=80) rfl (fun h5=>?_) (fun h5=>?_)
    ·have p3:cO v 10 8=20:=by simpa using h5
     refine aA ?_;refine aG rfl (fun h6=>?_) (fun h6=>?_)
     ·have m1:cO v 0 8=6:=by simpa using h6
      obtain⟨i,rfl,hi1,hi2⟩:=mP (.inr ⟨p3,m1⟩)
      have aP5:[v,i].length=2:=rfl
      have hm:pN s x [v,i]=[IntKind.u32.wrap (Jj s x.ck i),IntKind.u32.wrap (Jj s x.ck i / 4294967296)]:=(if_neg n1).trans ((if_neg fun h=>p1 h.1).trans ((if_neg fun h=>p2 h.1).trans (if_pos ⟨p3,m1⟩)))
      have k1:=hro 1 i rfl
      rw[hm];refine aA ?_;refine jM [1,2,3,5,6,7] ?_;refine bP 0 ?_;refine bP 4 ?_;refine aJ 1 ?_;refine aJ 2 ?_;refine aJ 3 ?_;refine aJ 5 ?_ (dI:=dat (sz:=1) 1 (off+1));refine aJ 6 ?_;refine aJ 7 ?_ (dI:=Ku (ds:=.int .u32) (by kernel_rfl) (by kernel_rfl) rfl (iR (by omega)));refine aO 8 ?_;refine aU (fun w1 t=>aPP hL s x w1 hH i (hh.below (t.below (by simp)))) ?_;refine cX ?_;refine aO 9 ?_;refine bH ?_;refine cX ?_;refine fJ ?_;refine aA ?_;refine Ek (ds:=.int .u64) (kd:=.u32) (by kernel_rfl) (by kernel_rfl) rfl rfl (by decide) ?_;refine aA ?_;refine aKL rfl rfl (c:=Jj s x.ck i / 4294967296) (by decide) (by show Int.fdiv _ (2 ^ 32)=_;rw[Int.fdiv_eq_ediv_of_nonneg _ (by decide)];rfl) (by decide) ?_;refine Ek (ds:=.int .u64) (kd:=.u32) (by kernel_rfl) (by kernel_rfl) rfl rfl (by decide) ?_;refine eH fun g2=>?_;refine aA ?_;refine dO [] [0] [] (by simp) rfl (by decide) (by decide) fun q hq _ hfr=>?_;obtain⟨F2,Cq,Ch⟩:=hq 0 _ (by simp) rfl
      have cS:=tI (Y:=q.Z) (sz:=1) (n:=2) (c:=2) Cq Ch rfl
      exact aS (h:=fun w1 st=>⟨_,rfl,_,_,rfl,aI.le cS (st.mH (by simp) (hfr (by simp) (by simp)))⟩)
     ·have m1:cO v 0 8≠6:=by simpa using h6
      have hm:pN s x (v::l)=[]:=(if_neg n1).trans ((if_neg fun h=>p1 h.1).trans ((if_neg fun h=>p2 h.1).trans (if_neg fun h=>m1 h.2)))
      rw[hm];refine aA ?_;exact aS (h:=fun _ _=>⟨_,rfl,_,_,rfl,rfl,fun h=>absurd h (by simp)⟩)
    ·have p3:cO v 10 8≠20:=by simpa using h5
     have hm:pN s x (v::l)=[]:=(if_neg n1).trans ((if_neg fun h=>p1 h.1).trans ((if_neg fun h=>p2 h.1).trans (if_neg fun h=>p3 h.1)))
     rw[hm];refine aA ?_;exact aS (h:=fun _ _=>⟨_,rfl,_,_,rfl,rfl,fun h=>absurd h (by simp)⟩)
end
section
def gT(f:Nat)(hL:HL)(s:aC)(z:bZ)(x:aM):HP:=HP.many [Cf f hL.h s z,dR hL s x]
def kU(z:bZ)(a:Nat):List Int:=if a=0 then z.w0 else z.w1
def Dw(s:aC)(x:aM)(l:List Int)(st:Int):List Int:=l.headD 0::IntKind.u32.wrap st::(if st=0 then pN s x l else[])
def aDa(z:bZ)(a:Nat)(hs:Int)(l:List Int):bZ:=if a=0 then {z with h0:=hs,w0:=l} else {z with h1:=hs,w1:=l}
def wU(s:aC)(x:aM)(z:bZ)(a:Nat)(st:Int):bZ:=aDa z a 2 (Dw s x (kU z a) st)
structure uD(l:List Int):Prop where
 ne:∃v r,l=v::r∧cO v 28 4=0∧((cO v 10 8=17∧cO v 0 8=5)∨(cO v 10 8=20∧cO v 0 8=6)→∃i,r=[i]∧0≤i∧i < 4294967296)
theorem aH5(s:aC)(x:aM)(l:List Int):(pN s x l).length≤2:=by
 unfold pN;dsimp only;split
 ·simp
 ·split
  ·simp
  ·split
   ·simp
   ·split<;>simp
section
variable{N:cF}{w0 w:World}{e:Env}{R:List Piece}{H:List HP}{K:Act→World→Prop}{f h:Nat}{L:gF}{s:aC}{z:bZ}{v:Int}{r:List Int}
theorem eR.at_{a:AC}{w:World}(hb:eR a (v::r) (all w)):∃b off,a.1=some ⟨b,off,none⟩∧w.cell? ⟨b,off,none⟩=some (.int .u32 v):=by
 obtain⟨b,off,hA,hc⟩:=aI.u32 hb (by simp);exact⟨b,off,hA,by have:=(hc 0 v rfl).2;simpa using this⟩
end
section
variable{P:Program}{N:cF}{w0 w:World}{e:Env}{R:List Piece}{H:List HP}{K:Act→World→Prop}{f h:Nat}{L:gF}{s:aC}{z:bZ}{Q:Exit→Act→World→Prop}
theorem Rd.eZ(i:Nat){o:Nat}{v:Value}(hi:H[i]? =some (iQ f h L s z))(hv:(jW h L s z)[o]? =some v):Rd w0 R H f o v:=fun w t=>by
 have:=((t.Gb i hi).r0.at_ hv).2
 rwa [Nat.zero_add] at this
theorem aR.eZ(i:Nat){o:Nat}{vs:List Value}(hi:H[i]? =some (iQ f h L s z))(hv:((jW h L s z).drop o).take vs.length=vs):aR w0 R H f o vs:=.of fun _ _ hj=>Rd.eZ i hi (aJ1 hv hj)
end
def xI(L:gF)(b:Nat):AC:=if b=0 then L.b0 else L.b1
section
variable{h:Nat}{L:gF}{s:aC}{z:bZ}
theorem aID{b:Nat}(hb:b < 2):(jW h L s z)[12+b*2]? =some (.slice (xI L b).1 (kU z b).length (xI L b).2):=by
 obtain rfl | rfl:b=0∨b=1:=by omega
 ·rfl
 ·rfl
theorem Lo.box{w:World}{f:Nat}(k:Lo w f h L s z){b:Nat}(hb:b < 2):aI (all w) 1 (xI L b).1 (kU z b).length (qU (kU z b)):=by
 obtain rfl | rfl:b=0∨b=1:=by omega
 ·exact k.b0
 ·exact k.b1
theorem Lo.stR{w:World}{f:Nat}(k:Lo w f h L s z):vB (all w) z.x z.y (.agg #[.slice L.x1.1 z.x.d.length L.x1.2,.slice L.x2.1 z.x.c.length L.x2.2,.slice L.x3.1 z.x.l.length L.x3.2,.slice L.y1.1 z.y.d.length L.y1.2,.slice L.y2.1 z.y.c.length L.y2.2,.slice L.y3.1 z.y.l.length L.y3.2]):=
 ⟨_,_,_,_,_,_,_,_,_,_,_,_,rfl,k.st.1,k.st.2.1,k.st.2.2.1,k.st.2.2.2.1,k.st.2.2.2.2.1,k.st.2.2.2.2.2⟩
end
section
variable{N:cF}{w0 w:World}{e:Env}{R:List Piece}{H:List HP}{K:Act→World→Prop}{f h:Nat}{L:gF}{s:aC}{z:bZ}{v:Int}{r:List Int}
theorem aTJ{a:Nat}(ha:a < 2)(i:Nat)(hi:H[i]? =some (iQ f h L s z))(hw:kU z a=v::r)(k:∀b off,(xI L a).1=some ⟨b,off,none⟩→Rd w0 R H b off (.int .u32 v)→XK N w0 K e R H):XK N w0 K e R H:=fun a w hr st=>by
 obtain⟨b,off,hA,_⟩:=eR.at_ (hw▸(st.Gb i hi).box ha);refine k b off hA (fun w1 t=>?_) a w hr st;obtain⟨b',off',sE,hc⟩:=eR.at_ (hw▸(t.Gb i hi).box ha);rw[hA] at sE;cases sE;exact hc
end
theorem aEm(f:Nat)(hL:HL)(s:aC)(z:bZ)(x:aM)(hH:s.dJ)(aW:iU hL s)(hok:cM s x)(a:Nat)(ha:a < 2)(st:Int)(hst:st=0→uD (kU z a))(w:World)(F:Nat→Prop)(hp:(gT f hL s z x).sat F w)(hF:∀b,F b→b < w.heap.size):
  Cz 52 #[pt f,iv (a:Int),.int .i32 st] w (Wr (.tuple #[]) (gT f hL s (wU s x z a st) x) w F):=by
 unfold wU Dw;generalize hb:kU z a=l at hst⊢;refine dK func52 ntmps52 hp hF ?_;refine bF 0 0 ?_;refine lY 0 fun L=>?_;refine aA ?_;refine kd (gN a (11+a*2)) ?_;refine aA ?_;refine kd (bN rfl (Rd.eZ 0 rfl (v:=.slice (xI L a).1 l.length (xI L a).2) (by rw[show 11+a*2+1=12+a*2 by omega,←hb];exact aID ha))) ?_;refine aB ?_;refine On (α:=Unit) (fun _=>[(7,.int .u32 (l.headD 0)),(6,.slice (xI L a).1 l.length (xI L a).2),(2,.int .i32 st),(1,iv (a:Int)),(0,pt f)]) (fun _=>[iQ f hL.h L s z,HP.many [cH,dR hL s x]]) (fun _=>True) ?_ fun _ _=>?_
 ·refine aG rfl (fun h=>?_) (fun h=>?_)
  ·cases l with
   | nil=>simp at h
   | cons v r=>
    refine aTJ ha 0 rfl hb fun b off hA hrd=>?_;rw[hA];refine aB ?_;exact fY ()
  ·cases l with
   | nil=>
    refine aB ?_;exact fY ()
   | cons v r=>simp at h
 refine aB ?_;refine On (α:=AC) (fun q=>[(8,.slice q.1 (if st=0 then pN s x l else[]).length q.2),(7,.int .u32 (l.headD 0)),(2,.int .i32 st),(1,iv (a:Int)),(0,pt f)]) (fun q=>[HP.bY (eR q (if st=0 then pN s x l else[])) (eR.le (a:=q) (l:=if st=0 then pN s x l else[])),iQ f hL.h L s z,HP.many [cH,dR hL s x]]) (fun _=>True) ?_ fun q _=>?_
 ·refine aG rfl (fun h=>?_) (fun h=>?_)
  ·rw[if_pos h];obtain⟨v,r,rfl,hu,mP⟩:=(hst h).ne;refine bF 1 1 ?_;refine aB ?_
   refine jQ [] (fun v' w w'=>aCi (pN s x (v::r)) v' w w') (fun w1 t=>by
    have hf:=t.Gb 1 rfl
    have jV:=hf.box ha
    obtain⟨b,off,hA,_⟩:=eR.at_ (hb▸jV);rw[hb,hA] at jV
    have:=aQO f _ s z hL x hH hok.dm _ (xI L a).2 v r w1 hf (t.nF 0 rfl aW hok) jV hu mP
    rw[←hA] at this
    exact this) ?_
   rintro _ w3 q3 ⟨Am,cm,rfl,cS⟩ Jw _ hF3
   have cS:=cS.le Jw
   refine aP 1 1 ?_;refine Ld (Φ:=eR (Am,cm) (pN s x (v::r))) (hm:=eR.le) (hF3 (by simp)) (fun p hp b hb=>by simp at hp;subst hp;exact hb.1) cS ?_;refine aB ?_;exact fY (Am,cm)
  ·rw[if_neg h];refine Bv (p:=HP.bY (eR (none,0) []) (eR.le (a:=(none,0)) (l:=[]))) (fun w=>aB2 _ rfl) ?_;refine aB ?_;exact fY (none,0)
 have hml:(if st=0 then pN s x l else[]).length≤2:=by
  split
  ·exact aH5 s x l
  ·simp
 generalize hM:(if st=0 then pN s x l else[])=M at hml⊢;refine bF 1 0 ?_;refine jM [7,8] ?_;refine bP 0 ?_;refine bP 1 ?_;refine bP 2 ?_;refine bP 3 ?_;refine bP 4 ?_;refine aJ 7 ?_;refine aJ 8 ?_;refine aO 5 ?_;refine iY (aCj (l.headD 0::IntKind.u32.wrap st::M)) (fun w1 t=>aTb _ st _ rfl q.1 M.length q.2 M w1 (t.bY 1 rfl) rfl (by omega)) ?_;rintro _ _ q9 ⟨An,cn,rfl,rfl⟩ _;dsimp only[List.cons_append,List.nil_append];refine bM ?_;refine aO 6 ?_;refine kd (gA rfl) ?_;refine bM ?_;refine aO 9 ?_;refine kd (gN a (11+a*2)) ?_;refine cX ?_;refine aO 10 ?_;refine rO 1 (t:=138) rfl rfl rfl (by kernel_rfl) (by simp[Value.cells,Value.oneCell']) (by simp[Value.cells,jW];omega) ?_;dsimp only[List.set];refine cX ?_;refine fJ ?_;refine Gj 0 (Φ:=eR (An,cn) (l.headD 0::IntKind.u32.wrap st::M)) (hm:=eR.le) rfl (fun p hp=>hp) ?_;obtain rfl | rfl:a=0∨a=1:=by omega
 ·refine bF 3 3 ?_;refine aY [1,2,4,5] rfl (by decide) (R':=[⟨w,fun b=>b < w.heap.size∧¬F b⟩]) (by simp) ?_;refine aP 1 3 ?_;refine Bu (h:=hL.h) (s:=s) (z:={z with h0:=2,w0:=l.headD 0::IntKind.u32.wrap st::M}) {L with b0:=(An,cn)} 0 rfl ?_;dsimp only[List.set];refine aP 0 0 ?_;exact jZ 0 hF
 ·refine bF 3 4 ?_;refine aY [1,2,4,5] rfl (by decide) (R':=[⟨w,fun b=>b < w.heap.size∧¬F b⟩]) (by simp) ?_;refine aP 1 4 ?_;refine Bu (h:=hL.h) (s:=s) (z:={z with h1:=2,w1:=l.headD 0::IntKind.u32.wrap st::M}) {L with b1:=(An,cn)} 0 rfl ?_;dsimp only[List.set];refine aP 0 0 ?_;exact jZ 0 hF
end
section
def Bg(z:bZ)(a:Nat):Int:=if a=0 then z.h0 else z.h1
def sW(z:bZ):Option Nat:=if Bg z (1 - z.last).toNat=1 then some (1 - z.last).toNat else if Bg z z.last.toNat=1 then some z.last.toNat else none
def mB(s:aC)(x:aM):List Int:=(List.range s.aD.length).map fun i=>(iH x.wt i:Int)
theorem aQF(f:Nat)(hL:HL)(s:aC)(z:bZ)(x:aM)(hl:z.last=0∨z.last=1)(hn:sW z=none)(w:World)(F:Nat→Prop)(hp:(gT f hL s z x).sat F w)(hF:∀b,F b→b < w.heap.size):
  Cz 50 #[pt f] w (Wr (.bool false) (gT f hL s z x) w F):=by
 have hno:z.h0≠1∧z.h1≠1:=by
  unfold sW at hn;rcases hl with h | h<;>rw[h] at hn<;>simp[Bg] at hn<;>by_cases p:z.h0=1<;>by_cases q:z.h1=1<;>simp[p,q] at hn⊢
 refine dK func50 ntmps50 hp hF ?_;refine bF 0 0 ?_;refine Zq 0 rfl fun L=>?_;dsimp only[List.set,jW];rcases hl with hl | hl<;>rw[hl]
 ·refine aA ?_;refine kd (gN 1 13) ?_;refine aA ?_;refine aG rfl (fun _=>?_) (fun h=>absurd h (by simp[hno.2]));refine aA ?_;refine kd (gN 0 11) ?_;refine aA ?_;refine aG rfl (fun _=>?_) (fun h=>absurd h (by simp[hno.1]));refine aA ?_;rw[←hl];refine Bu (h:=hL.h) (s:=s) (z:=z) L 0 rfl ?_;dsimp only[List.set];refine aP 0 0 ?_;exact cI 0 hF
 ·refine aA ?_;refine kd (gN 0 11) ?_;refine aA ?_;refine aG rfl (fun _=>?_) (fun h=>absurd h (by simp[hno.1]));refine aA ?_;refine kd (gN 1 13) ?_;refine aA ?_;refine aG rfl (fun _=>?_) (fun h=>absurd h (by simp[hno.2]));refine aA ?_;rw[←hl];refine Bu (h:=hL.h) (s:=s) (z:=z) L 0 rfl ?_;dsimp only[List.set];refine aP 0 0 ?_;exact cI 0 hF
end
end Go.Proofs.YtdcdccmpcmjmhaaGreatDoor
