/- package rpm: what is wanted, and the steps to that. -/
import Derived.Test.YtdcdccmpcmjmhaaGreatDoorRpmNeedsK6
namespace Go.Proofs.YtdcdccmpcmjmhaaGreatDoor
set_option linter.all false
set_option maxHeartbeats 4000000
set_option maxRecDepth 20000
open Go.RowKit Go.Proofs.Tryz
section
def vJ(old l:List Bool)(n:Nat):List Bool:=l.mapIdx fun k b=>if k < n then(b||hasB old k) else b
section
variable{N:bZ}{w0:World}{e:Env}{R:List Piece}{H:List HP}{K:Act→World→Prop}{Φ:Piece→Prop}{hm:∀p q:Piece,p.Le q→Φ p→Φ q}{sz n b off:Nat}{A:Option Addr}{xs:List Value}
theorem aEM(i:Nat)(hi:H[i]? =some (HP.bT Φ hm))(Mg:∀p,Φ p→aI p sz A n xs)(hn:0 < n)(k:∀b off,A=some ⟨b,off,none⟩→XK N w0 K e R H):XK N w0 K e R H:=fun a w hr st=>by
 obtain⟨b,off,hA,_⟩:=(Mg _ (st.bT i hi)).2 hn;exact k b off hA a w hr st
theorem Rd.bT(i:Nat)(hi:H[i]? =some (HP.bT Φ hm))(Mg:∀p,Φ p→aI p sz A n xs)(hA:A=some ⟨b,off,none⟩)(hn:0 < n){j:Nat}{v:Value}(hv:xs[j]? =some v):Rd w0 R H b (off+j) v:=fun w st=>by
 obtain⟨b',off',rX,_,hc⟩:=(Mg _ (st.bT i hi)).2 hn;cases hA.symm.trans rX;exact hc j v hv
end
def dM(s:aD)(c:Cn):List Bool:=Ik (cQ s) (cQ s).length c
def kM(s:aD)(z:aW):bK:=⟨(eT s (dM s z.cn)).d,(eT s (dM s z.cn)).c,vJ z.wn.l (eT s (dM s z.cn)).l s.aT.length⟩
def lK(s:aD)(z:aW):aW:={z with steps:=allM s z.wn (kM s z),sent:=false,wn:=kM s z}
theorem aC6(s:aD)(act:List Bool):(eT s act).of s:=Ec s act _
theorem aLa(s:aD)(z:aW):(kM s z).of s:=by
 have h:=aC6 s (dM s z.cn)
 exact⟨h.d,h.c,by show(List.mapIdx _ _).length=_;rw[List.length_mapIdx];exact h.l⟩
theorem Jm(s:aD):(cQ s).length=s.aC.length:=by simp[cQ]
section
variable(g h f:Nat)(s:aD)(z:aW)(w:World)(F:Nat→Prop)
theorem aA3(hm:s.made)(hz:z.wn.of s)(hp:(gE g h f s z).sat F w)(hF:∀b,F b→b < w.heap.size):
  Cz 277 #[pt g] w (Wr (.tuple #[]) (gE g h f s (lK s z)) w F):=by
 have nB:=hm.nv
 have hnd:=hm.nd
 have hnc:=hm.nc
 have iJ:=hm.nr
 have iK:=Jm s
 have hno:∀l∈cQ s,(l.length:Int)≤1000:=fun l hl=>by
  obtain⟨i,hi⟩:=List.getElem?_of_mem hl;simp only[cQ,List.getElem?_map] at hi;cases hd:s.aC[i]? with
  | none=>rw[hd] at hi;cases hi
  | some d=>
   rw[hd] at hi;cases hi
   have:=(hm.aC i d hd).2.2.2.2.2.2.2.2.2.2.1
   show((d.fR.length:Nat):Int)≤1000
   omega
 have ho:fQ (cQ s)=(0,List.range (cQ s).length):=by rw[iK];exact(aDu hm).2.2
 have hal:(dM s z.cn).length=(cQ s).length:=aJC _ _ _
 refine dJ func277 ntmps277 hp hF ?_;generalize cK:(⟨w,fun b=>b < w.heap.size∧¬F b⟩:Piece)=R0;refine lV 0 fun L=>?_;refine bF 0 0 ?_;refine bF 1 4 ?_;refine bF 2 3 ?_;refine nG ?_;refine bF 2 1 ?_;refine bF 3 2 ?_;refine aY [2,0,1,3,4] rfl (by decide) (fun _ h=>h) ?_
 change XK _ _ _ _ _ [Ll L.gc L.gm L.nd.1 L.nd.2 (cQ s) z.cn,HP.bT (uW L z.wn) _,HP.bT (mT L s) _,_,_]
 generalize hM:HP.many [cG,cG,cG,cG,cG,HP.bT (oA L z.steps) (oA.le (L:=L) (l:=z.steps))]=M;refine cO ?_;refine aCa (fun e R H=>∃gt ga gb gc:Nat,e=[(2,pt gt),(0,pt g)]∧R=[R0]∧H=[HP.aE gt 116 [.slice (some ⟨ga,0,none⟩) (eT s (dM s z.cn)).d.length (eT s (dM s z.cn)).d.length,.slice (some ⟨gb,0,none⟩) (eT s (dM s z.cn)).c.length (eT s (dM s z.cn)).c.length,.slice (some ⟨gc,0,none⟩) (eT s (dM s z.cn)).l.length (eT s (dM s z.cn)).l.length],HP.many [HP.aE ga 4 (bE (eT s (dM s z.cn)).d),HP.aE gb 4 (bE (eT s (dM s z.cn)).c),HP.aE gc 4 (bE (eT s (dM s z.cn)).l)],Ll L.gc L.gm L.nd.1 L.nd.2 (cQ s) z.cn,HP.bT (uW L z.wn) (uW.le (L:=L) (x:=z.wn)),HP.bT (mT L s) (mT.le (L:=L) (s:=s)),HP.aE g 123 (kY h f L s z),M]) ?_ ?_
 ·refine Ob [1,2,3,5,6,7] ?_;refine bP 0 ?_ (hsub:=fun _ h=>h.cR);refine aJ 1 ?_ (hsub:=fun _ h=>h.cR);refine aJ 2 ?_ (hsub:=fun _ h=>h.cR);refine aJ 3 ?_ (hi:=rfl) (dI:=oZ rfl (Zy (vs:=[_,_,_,_]) 3 rfl rfl)) (hsub:=fun _ h=>h.cR);refine bP 4 ?_ (hsub:=fun _ h=>h.cR);refine aJ 5 ?_ (hsub:=fun _ h=>h.cR);refine aJ 6 ?_ (hsub:=fun _ h=>h.cR);refine aJ 7 ?_ (hsub:=fun _ h=>h.cR);refine La 8 10 rfl rfl (by kernel_rfl) ?_ ?_
  ·refine zI (α:=Nat) 0 (f:=30) (fi:=[]) (ca:=[]) (fun b=>.slice (some ⟨b,0,none⟩) (cQ s).length (cQ s).length) (fun b=>HP.many [Ll L.gc L.gm L.nd.1 L.nd.2 (cQ s) z.cn,HP.aE b 4 (bE (dM s z.cn))]) (fun _=>True) (by kernel_rfl) rfl rfl rfl (by decide) (fun w1 F1 t h1 h2 h3=>aJg L.gc L.gm L.nd.1 L.nd.2 (cQ s) z.cn _ rfl (by omega) hno ho w1 F1 h1 h2) ?_;rintro b _;dsimp only[List.set];refine bL ?_ (hS:=fun _ h=>h.cR);refine La 9 10 rfl rfl (by kernel_rfl) ?_ ?_
   ·refine bF 0 1 ?_
    refine iW (Zt (eT s (dM s z.cn))) (fun w1 t=>by
     have h1:=t.rN (i:=0) (sz:=1) (n:=(dM s z.cn).length) rfl (by simp[bE])
     have:=aAo (all w1) s L.a1.1 L.a2.1 L.a3.1 L.a4.1 _ L.a1.2 _ L.a2.2 _ L.a3.2 _ L.a4.2 (some ⟨b,0,none⟩) (cQ s).length (dM s z.cn) w1 (t.bT 3 rfl) hm (Piece.Le.refl _) h1
     rw[hal] at this
     exact this) ?_
    rintro _ _ q ⟨ga,gb,gc,px,rfl,rfl⟩ _;dsimp only[List.cons_append,List.nil_append];refine bL ?_ (hS:=fun _ h=>h.aZ.tail.tail.tail.cR);refine aM 10 ?_;refine bR fun gt=>?_;refine bL ?_ (hS:=fun _ h=>h.aZ.tail.tail.tail.tail.cR);refine aM 11 ?_;refine oM 0 rfl ?_;dsimp only[List.set];refine bL ?_ (hS:=fun _ h=>h.aZ.tail.tail.tail.tail.cR);refine fJ ?_;refine dW ?_;refine bF 4 0 ?_;refine aY [1,2,0,6,7,8,9] rfl (by decide) (R':=[R0]) (by simp) ?_;exact pG ⟨gt,ga,gb,gc,rfl,rfl,rfl⟩
   ·refine bR fun gt=>?_;refine bL ?_ (hS:=fun _ h=>h.tail.cR);refine aM 9 ?_;refine bF 1 1 ?_
    refine iW (Zt (eT s (dM s z.cn))) (fun w1 t=>by
     have h1:=t.rN (i:=0) (sz:=1) (n:=(dM s z.cn).length) rfl (by simp[bE])
     have:=aAo (all w1) s L.a1.1 L.a2.1 L.a3.1 L.a4.1 _ L.a1.2 _ L.a2.2 _ L.a3.2 _ L.a4.2 (some ⟨b,0,none⟩) (cQ s).length (dM s z.cn) w1 (t.bT 4 rfl) hm (Piece.Le.refl _) h1
     rw[hal] at this
     exact this) ?_
    rintro _ _ q ⟨ga,gb,gc,px,rfl,rfl⟩ _;dsimp only[List.cons_append,List.nil_append];refine bL ?_ (hS:=fun _ h=>h.aZ.tail.tail.tail.tail.cR);refine aM 11 ?_;refine oM 3 rfl ?_;dsimp only[List.set];refine bL ?_ (hS:=fun _ h=>h.aZ.tail.tail.tail.tail.cR);refine fJ ?_;refine dW ?_;refine bF 4 0 ?_;refine aY [4,1,0,6,7,8,9] rfl (by decide) (R':=[R0]) (by simp) ?_;exact pG ⟨gt,ga,gb,gc,rfl,rfl,rfl⟩
  ·refine bR fun gt=>?_;refine bL ?_ (hS:=fun _ h=>h.tail.cR);refine aM 8 ?_;refine zI (α:=Nat) 1 (f:=30) (fi:=[]) (ca:=[]) (fun b=>.slice (some ⟨b,0,none⟩) (cQ s).length (cQ s).length) (fun b=>HP.many [Ll L.gc L.gm L.nd.1 L.nd.2 (cQ s) z.cn,HP.aE b 4 (bE (dM s z.cn))]) (fun _=>True) (by kernel_rfl) rfl rfl rfl (by decide) (fun w1 F1 t h1 h2 h3=>aJg L.gc L.gm L.nd.1 L.nd.2 (cQ s) z.cn _ rfl (by omega) hno ho w1 F1 h1 h2) ?_;rintro b _;dsimp only[List.set];refine bL ?_ (hS:=fun _ h=>h.tail.cR);refine aM 9 ?_;refine bF 1 1 ?_
   refine iW (Zt (eT s (dM s z.cn))) (fun w1 t=>by
    have h1:=t.rN (i:=0) (sz:=1) (n:=(dM s z.cn).length) rfl (by simp[bE])
    have:=aAo (all w1) s L.a1.1 L.a2.1 L.a3.1 L.a4.1 _ L.a1.2 _ L.a2.2 _ L.a3.2 _ L.a4.2 (some ⟨b,0,none⟩) (cQ s).length (dM s z.cn) w1 (t.bT 4 rfl) hm (Piece.Le.refl _) h1
    rw[hal] at this
    exact this) ?_
   rintro _ _ q ⟨ga,gb,gc,px,rfl,rfl⟩ _;dsimp only[List.cons_append,List.nil_append];refine bL ?_ (hS:=fun _ h=>h.aZ.tail.tail.tail.tail.cR);refine aM 11 ?_;refine oM 3 rfl ?_;dsimp only[List.set];refine bL ?_ (hS:=fun _ h=>h.aZ.tail.tail.tail.tail.cR);refine fJ ?_;refine dW ?_;refine bF 4 0 ?_;refine aY [4,1,0,6,7,8,9] rfl (by decide) (R':=[R0]) (by simp) ?_;exact pG ⟨gt,ga,gb,gc,rfl,rfl,rfl⟩
 rintro _ _ _ ⟨gt,ga,gb,gc,rfl,rfl,rfl⟩
 have pO:(eT s (dM s z.cn)).l.length=(kM s z).l.length:=by
  show _=(List.mapIdx _ _).length
  rw[List.length_mapIdx]
 have vO:(eT s (dM s z.cn)).l.length=s.aT.length:=(aC6 s _).l
 have hzl:=hz.l
 rw[pO]
 have aUc:(kM s z).l.length=s.aT.length:=by rw[←pO];exact vO
 refine bF 1 2 ?_;refine bF 2 1 ?_;refine bF 3 0 ?_;refine aY [0,1,2,3,4,5,6,7,8,9] rfl (by decide) (fun _ h=>h) ?_;refine aA ?_
 have Fe:vJ z.wn.l (eT s (dM s z.cn)).l 0=(eT s (dM s z.cn)).l:=Qb _ _
 refine bJ [(21,iv 0),(20,iv z.wn.l.length),(19,.slice L.w3.1 z.wn.l.length L.w3.2),(2,pt gt),(0,pt g)] ?_;refine eI (fun m e R H=>∃i:Nat,i≤z.wn.l.length∧m=z.wn.l.length - i∧e=[(21,iv i),(20,iv z.wn.l.length),(19,.slice L.w3.1 z.wn.l.length L.w3.2),(2,pt gt),(0,pt g)]∧R=[R0]∧H=[HP.aE ga 4 (bE (eT s (dM s z.cn)).d),HP.aE gb 4 (bE (eT s (dM s z.cn)).c),HP.aE gc 4 (bE (vJ z.wn.l (eT s (dM s z.cn)).l i)),HP.aE gt 116 [.slice (some ⟨ga,0,none⟩) (eT s (dM s z.cn)).d.length (eT s (dM s z.cn)).d.length,.slice (some ⟨gb,0,none⟩) (eT s (dM s z.cn)).c.length (eT s (dM s z.cn)).c.length,.slice (some ⟨gc,0,none⟩) (kM s z).l.length (kM s z).l.length],HP.many [cG,cG,cG],Ll L.gc L.gm L.nd.1 L.nd.2 (cQ s) z.cn,HP.bT (uW L z.wn) (uW.le (L:=L) (x:=z.wn)),HP.bT (mT L s) (mT.le (L:=L) (s:=s)),HP.aE g 123 (kY h f L s z),M]) z.wn.l.length ⟨0,by omega,rfl,rfl,rfl,by rw[Fe]⟩ fun m e R H hI=>?_;obtain⟨i,hi,rfl,rfl,rfl,rfl⟩:=hI;refine aA ?_;refine aG rfl (fun hlt=>?_) (fun hge=>?_)
 ·have hlt:i < z.wn.l.length:=by omega
  obtain⟨b,hb⟩:=get_some hlt;obtain⟨c,hc⟩:=get_some (l:=(eT s (dM s z.cn)).l) (i:=i) (by omega)
  have fS:(vJ z.wn.l (eT s (dM s z.cn)).l i)[i]? =some c:=Qd hc
  have hstep:(vJ z.wn.l (eT s (dM s z.cn)).l i).set i (c||hasB z.wn.l i)=vJ z.wn.l (eT s (dM s z.cn)).l (i+1):=Qc (f:=fun k b=>b||hasB z.wn.l k) hc
  have hbB:hasB z.wn.l i=b:=by show z.wn.l[i]?.getD false=b;rw[hb];rfl
  rw[hbB] at hstep
  have eW:(vJ z.wn.l (eT s (dM s z.cn)).l i).length=s.aT.length:=by rw[vJ,List.length_mapIdx];exact vO
  refine aEM (A:=L.w3.1) (sz:=1) (n:=z.wn.l.length) (xs:=bE z.wn.l) 6 rfl (fun _ h=>h.2.2) (by omega) fun wb aKW hwA=>?_
  have hbc:(bE z.wn.l)[i]? =some (.bool b):=by simp[bE,hb]
  refine aA ?_;refine kd (dat i (aKW+i) (hx:=by rw[←hwA];rfl)) ?_;refine kd (bM rfl (Rd.bT 6 rfl (fun _ h=>h.2.2) hwA (by omega) hbc)) ?_;refine aA ?_;cases b
  ·rw[Bool.or_false,xY fS] at hstep;rw[hstep];refine aA ?_;exact dY (z.wn.l.length - (i+1)) ⟨i+1,hlt,rfl,rfl,rfl,rfl⟩
  ·rw[Bool.or_true] at hstep;refine aA ?_;refine kd (dat i i) ?_;refine fG rfl rfl ?_ (hs:=fB.mk 2 rfl cJ.h rfl (by simp[bE];omega));dsimp only[List.set];rw[aEA,hstep];refine aA ?_;exact dY (z.wn.l.length - (i+1)) ⟨i+1,hlt,rfl,rfl,rfl,rfl⟩
 obtain rfl:i=z.wn.l.length:=by omega
 rw[hzl];refine aA ?_;refine jL [3,4,5,7,8,9,10] ?_;refine bP 0 ?_;refine bP 1 ?_;refine bP 2 ?_;refine aJ 3 ?_;refine aJ 4 ?_;refine aJ 5 ?_ (hi:=rfl) (dI:=oZ rfl (Zy (vs:=[_,_,_,_]) 8 rfl rfl));refine bP 6 ?_;refine aJ 7 ?_;refine aJ 8 ?_;refine aJ 9 ?_ (hi:=rfl) (dI:=oZ rfl (Zy (vs:=[_,_,_]) 8 rfl rfl));refine aJ 10 ?_;refine aM 11 ?_;refine jP [] (aKf (allM s z.wn (kM s z))) (fun w1 t=>aL8 (q:=all w1) (qx:=all w1) (qy:=all w1) (t.bT 7 rfl) hm (Piece.Le.refl _) (x:=z.wn) (y:=kM s z) ⟨L.w1.1,L.w1.2,L.w2.1,L.w2.2,L.w3.1,L.w3.2,rfl,t.bT 6 rfl⟩ (Piece.Le.refl _) ⟨_,_,_,_,_,_,rfl,t.rN (i:=0) rfl (by simp[bE,kM]),t.rN (i:=1) rfl (by simp[bE,kM]),t.rN (i:=2) rfl (by simp[bE,kM])⟩ (Piece.Le.refl _)) ?_;rintro _ w1 q ⟨As,cs,rfl,hs,hsc⟩ hf _ hfr
 have hs:=hs.le hf
 refine cX ?_;refine aM 12 ?_;refine bH ?_;refine cX ?_;refine aM 13 ?_;refine bH ?_;refine cX ?_;refine aM 14 ?_;refine fG rfl rfl ?_ (hs:=fB.mk 8 rfl cJ.h rfl (of_decide_eq_true rfl));dsimp only[List.set];refine cX ?_;refine aM 15 ?_;refine bH ?_;refine cX ?_;refine aM 16 ?_;refine bH ?_;refine cX ?_;refine aM 17 ?_;refine fG rfl rfl ?_ (hs:=fB.mk 8 rfl cJ.h rfl (of_decide_eq_true rfl));dsimp only[List.set];refine cX ?_;refine fJ ?_
 refine Im (Φ:=oA {L with st:=(As,cs)} (allM s z.wn (kM s z))) (hm:=oA.le) (hfr (by simp)) (fun p hp b hb=>by
  simp at hp;subst hp;rw[←cK] at hb
  exact hb.1) ⟨hs,hsc⟩ ?_
 refine aA ?_;refine Qj 9 rfl ?_;dsimp only[List.set];refine aA ?_;obtain⟨L',hL'⟩:∃L':dN,L'={L with w1:=(some ⟨ga,0,none⟩,(eT s (dM s z.cn)).d.length),w2:=(some ⟨gb,0,none⟩,(eT s (dM s z.cn)).c.length),w3:=(some ⟨gc,0,none⟩,(kM s z).l.length),st:=(As,cs)}:=⟨_,rfl⟩
 refine aY [1,2,3,0,6,8,9] rfl (by decide) (fun _ h=>h) ?_;refine Zf ?_;refine Bh (q:=HP.bT (uW L' (kM s z)) (uW.le (L:=L') (x:=kM s z))) 0 rfl (fun F w hs=>?_) ?_
 ·obtain⟨G,k1,k2,_⟩:=hs;subst hL';exact⟨sW (c:=0) (k1 0 _ rfl) (fun b hb=>k2 0 b hb) (by simp[bE,kM]),sW (c:=0) (k1 1 _ rfl) (fun b hb=>k2 1 b hb) (by simp[bE,kM]),sW (c:=0) (k1 2 _ rfl) (fun b hb=>k2 2 b hb) (by simp[bE,kM])⟩
 dsimp only[List.set];refine bF 2 0 ?_;refine bF 3 1 ?_;refine aY [6,5,2,1,0,3] rfl (by decide) (fun _ h=>h) ?_;refine nG ?_;refine uV ?_;refine uV ?_;refine uV ?_;refine uV ?_;refine xB 0 (f:=fun L:dN=>fM g h f L s (lK s z)) L' (by subst hL';rfl) ?_;dsimp only[List.set];subst cK;exact jZ 0 hF
end
end
section
theorem pH{w0:World}{R:List Piece}{H:List HP}{g h f:Nat}{L:dN}{s:aD}{z:aW}(i:Nat){o:Nat}{v:Value}(hi:H[i]? =some (fM g h f L s z))(hv:(kY h f L s z)[o]? =some v):Rd w0 R H g o v:=fun w st=>by
 have:=(st.aCP i hi).r0.at_ hv
 rw[Nat.zero_add] at this;exact this.2
def T3(j:Nat):Prop:=j=0∨j=1∨j=2
theorem Ck{h f:Nat}{L:dN}{s:aD}{z:aW}{j k:Nat}{v:Value}(hj:T3 j)(hv:(tkC (z.tk j))[k]? =some v):(kY h f L s z)[10+13*j+k]? =some v:=by
 have hk:k < 13:=by
  have:=(List.getElem?_eq_some_iff.1 hv).1
  simpa[tkC] using this
 have hk2:k=0∨k=1∨k=2∨k=3∨k=4∨k=5∨k=6∨k=7∨k=8∨k=9∨k=10∨k=11∨k=12:=by omega
 rcases hj with rfl | rfl | rfl<;>rcases hk2 with rfl | rfl | rfl | rfl | rfl | rfl | rfl | rfl | rfl | rfl | rfl | rfl | rfl<;>exact hv
theorem aAt{t:rG}{i:Nat}(hi:i < 6):(tkC t)[7+i]? =some (iv (hG t i)):=by
 have h2:i=0∨i=1∨i=2∨i=3∨i=4∨i=5:=by omega
 rcases h2 with rfl | rfl | rfl | rfl | rfl | rfl<;>rfl
theorem aEb{t:rG}{i k:Nat}{v:Int}(hl:t.hs.length=6)(hi:i < 6):hG {t with hs:=t.hs.set i v} k=if i=k then v else hG t k:=by
 show(t.hs.set i v).getD k 0=_
 rw[List.getD_eq_getElem?_getD,List.getElem?_set];split
 ·rename_i e
  subst e;rw[if_pos (by omega)];rfl
 ·show _=t.hs.getD k 0
  rw[List.getD_eq_getElem?_getD]
theorem aG3{h f:Nat}{L:dN}{s:aD}{z:aW}{j i:Nat}{v:Int}(hj:T3 j)(hi:i < 6)(hl:(z.tk j).hs.length=6):(kY h f L s z).set (10+13*j+7+i) (iv v)=kY h f L s (z.jO j {z.tk j with hs:=(z.tk j).hs.set i v}):=by
 have hs:=fun k=>aEb (t:=z.tk j) (k:=k) (v:=v) hl hi
 have h2:i=0∨i=1∨i=2∨i=3∨i=4∨i=5:=by omega
 rcases hj with rfl | rfl | rfl<;>rcases h2 with rfl | rfl | rfl | rfl | rfl | rfl<;>simp[kY,aW.jO,aW.tk] at hs⊢ <;>simp[hs]
theorem aA6{h f:Nat}{L:dN}{s:aD}{z:aW}:(kY h f L s z).length=55:=rfl
structure aFk(t:rG):Prop where
 len:t.hs.length=6
 bd:∀i,0≤hG t i∧hG t i≤1000000
def pJ(t:rG)(i:Nat)(k:Int):rG:={t with hs:=t.hs.set i (hG t i+k)}
def Fh(s:aD)(z:aW)(j:Nat):Int×aW:=if(pE (cQ s).length z.cn (z.tk j).dev).1≠0 then((pE (cQ s).length z.cn (z.tk j).dev).1,z) else(0,lK s {z.jO j (pJ (z.tk j) (z.tk j).dev.toNat 1) with cn:=(pE (cQ s).length z.cn (z.tk j).dev).2})
def En(s:aD)(z:aW)(j:Nat):Int×aW:=if bN s.aC.length (z.tk j).dev=false then(4,z) else if hG (z.tk j) (z.tk j).dev.toNat=0 then(6,z) else if(qK (cQ s).length z.cn (z.tk j).dev).1≠0 then((qK (cQ s).length z.cn (z.tk j).dev).1,z) else(0,lK s {z.jO j (pJ (z.tk j) (z.tk j).dev.toNat (-1)) with cn:=(qK (cQ s).length z.cn (z.tk j).dev).2})
def Ef(s:aD)(z:aW):Int×aW:=if(tO z.cn).1≠0 then((tO z.cn).1,z) else(0,lK s {z with cn:=(tO z.cn).2})
def El(s:aD)(z:aW):Int×aW:=if(tP z.cn).1≠0 then((tP z.cn).1,z) else(0,lK s {z with cn:=(tP z.cn).2})
theorem aSz{n:Nat}{c:Cn}{d:Int}(h:(pE n c d).1≠0):(pE n c d).2=c:=by
 unfold pE at h⊢
 repeat' split
 all_goals first | rfl | (simp_all;done)
theorem aJs{n:Nat}{c:Cn}{d:Int}(h:(pE n c d).1=0):0≤d∧d < n:=by
 unfold pE at h;split at h
 ·simp at h
 ·split at h
  ·simp at h
  ·rename_i h1
   exact Decidable.not_not.1 h1
theorem aRO{n:Nat}{c:Cn}{d:Int}(h:(qK n c d).1≠0):(qK n c d).2=c:=by
 unfold qK at h⊢
 repeat' split
 all_goals first | rfl | (simp_all;done)
theorem aRM{c:Cn}(h:(tO c).1≠0):(tO c).2=c:=by
 unfold tO at h⊢;split
 ·rfl
 ·simp_all
theorem aRN{c:Cn}(h:(tP c).1≠0):(tP c).2=c:=by
 unfold tP at h⊢;split
 ·simp_all
 ·rfl
section
variable(g h f:Nat)(s:aD)(z:aW)(w:World)(F:Nat→Prop)
theorem aMp(hm:s.made)(hz:z.wn.of s)(a:Value)(hp:(gE g h f s z).sat F w)(hF:∀b,F b→b < w.heap.size):
  Cz 297 #[.agg #[],pt g,a] w (Wr (iv (Ef s z).1) (gE g h f s (Ef s z).2) w F):=by
 unfold Ef;refine dJ func297 ntmps297 hp hF ?_;refine aA ?_;refine bA fun g1=>?_;refine aA ?_;refine lV 1 fun L=>?_;refine kd (bM rfl (pH 1 rfl rfl)) ?_;refine bF 1 3 ?_;refine dU 0 (sZ L.gc L.gm (.slice L.nd.1 (cQ s).length L.nd.2) (tO z.cn).2) (fun w1 F1 t h1 h2 h3=>aRQ L.gc L.gm (cQ s).length L.nd.2 L.nd.1 z.cn w1 F1 h1 h2) ?_;refine aA ?_;refine aG rfl (fun he=>?_) (fun he=>?_)
 ·rw[if_pos he,aRM he];refine aA ?_;refine aN 1 3 ?_;refine fC 1 (fun L:dN=>fM g h f L s z) L ?_;exact cH 1 hF
 ·rw[if_neg he];refine aN 1 3 ?_;refine fC 1 (fun L:dN=>fM g h f L s {z with cn:=(tO z.cn).2}) L ?_;refine aA ?_;refine dU 1 (gE g h f s (lK s {z with cn:=(tO z.cn).2})) (fun w1 F1 t h1 h2 h3=>aA3 g h f s _ w1 F1 hm hz h1 h2) ?_;refine aA ?_;exact cH 1 hF
theorem aMs(hm:s.made)(hz:z.wn.of s)(a:Value)(hp:(gE g h f s z).sat F w)(hF:∀b,F b→b < w.heap.size):
  Cz 298 #[.agg #[],pt g,a] w (Wr (iv (El s z).1) (gE g h f s (El s z).2) w F):=by
 unfold El;refine dJ func298 ntmps298 hp hF ?_;refine aA ?_;refine bA fun g1=>?_;refine aA ?_;refine lV 1 fun L=>?_;refine kd (bM rfl (pH 1 rfl rfl)) ?_;refine bF 1 3 ?_;refine dU 0 (sZ L.gc L.gm (.slice L.nd.1 (cQ s).length L.nd.2) (tP z.cn).2) (fun w1 F1 t h1 h2 h3=>aRR L.gc L.gm (cQ s).length L.nd.2 L.nd.1 z.cn w1 F1 h1 h2) ?_;refine aA ?_;refine aG rfl (fun he=>?_) (fun he=>?_)
 ·rw[if_pos he,aRN he];refine aA ?_;refine aN 1 3 ?_;refine fC 1 (fun L:dN=>fM g h f L s z) L ?_;exact cH 1 hF
 ·rw[if_neg he];refine aN 1 3 ?_;refine fC 1 (fun L:dN=>fM g h f L s {z with cn:=(tP z.cn).2}) L ?_;refine aA ?_;refine dU 1 (gE g h f s (lK s {z with cn:=(tP z.cn).2})) (fun w1 F1 t h1 h2 h3=>aA3 g h f s _ w1 F1 hm hz h1 h2) ?_;refine aA ?_;exact cH 1 hF
theorem aMv(hm:s.made)(hz:z.wn.of s)(j:Nat)(hj:T3 j)(hk:aFk (z.tk j))(hp:(gE g h f s z).sat F w)(hF:∀b,F b→b < w.heap.size):
  Cz 276 #[.agg #[],pt g,.pointer (some ⟨g,10+13*j,none⟩)] w (Wr (iv (Fh s z j).1) (gE g h f s (Fh s z j).2) w F):=by
 have nB:=hm.nv
 have iK:=Jm s
 have hj2:j≤2:=by rcases hj with rfl | rfl | rfl<;>decide
 unfold Fh;refine dJ func276 ntmps276 hp hF ?_;refine aA ?_;refine bA fun g1=>?_;refine aA ?_;refine lV 1 fun L=>?_;refine kd (bM rfl (pH 1 rfl (Ck (k:=2) hj rfl))) ?_;refine aA ?_;refine kd (bM rfl (pH 1 rfl rfl)) ?_;refine bF 1 3 ?_;refine aA ?_;refine dU 0 (sZ L.gc L.gm (.slice L.nd.1 (cQ s).length L.nd.2) (pE (cQ s).length z.cn (z.tk j).dev).2) (fun w1 F1 t h1 h2 h3=>aRU L.gc L.gm (cQ s).length L.nd.2 L.nd.1 z.cn w1 F1 (z.tk j).dev h1 h2) ?_;refine aA ?_;refine aG rfl (fun he=>?_) (fun he=>?_)
 ·rw[if_pos he,aSz he];refine aA ?_;refine aN 1 3 ?_;refine fC 1 (fun L:dN=>fM g h f L s z) L ?_;exact cH 1 hF
 ·rw[if_neg he];obtain⟨Kb,dD⟩:=aJs (Decidable.not_not.1 he);obtain⟨dv,De⟩:∃n:Nat,(z.tk j).dev=(n:Int):=⟨(z.tk j).dev.toNat,by omega⟩
  have Ap:dv < 6:=by omega
  have hb0:=hk.bd dv
  refine aN 1 3 ?_;refine bF 1 0 ?_;generalize oY:(pE (cQ s).length z.cn (z.tk j).dev).2=c2
  have hcell:(kY h f L s z)[10+13*j+7+dv]? =some (iv (hG (z.tk j) dv)):=by
   rw[Nat.add_assoc];exact Ck hj (aAt Ap)
  have mK:pJ (z.tk j) (z.tk j).dev.toNat (1)={z.tk j with hs:=(z.tk j).hs.set dv (hG (z.tk j) dv+1)}:=by
   unfold pJ;rw[show(z.tk j).dev.toNat=dv by omega]
   all_goals rfl
  have iX:=aG3 (h:=h) (f:=f) (L:=L) (s:=s) (z:=z) (i:=dv) (v:=hG (z.tk j) dv+1) hj Ap hk.len
  rw[mK];refine aA ?_;refine jL [2,3,4,5,6,7,8] ?_;refine bP 0 ?_;refine bP 1 ?_;refine aJ 2 ?_;refine aJ 3 ?_;refine aJ 4 ?_ (hi:=rfl) (dI:=gN dv (10+13*j+7+dv) (hj:=De) (hlt:=Ap) (ho:=by omega));refine aJ 5 ?_ (hi:=rfl) (dI:=bM rfl (Rd.aE 0 rfl hcell));refine aJ 6 ?_;refine aJ 7 ?_;refine aJ 8 ?_;refine aM 9 ?_;refine kd (gN dv (10+13*j+7+dv) (hj:=De) (hlt:=Ap) (ho:=by omega)) ?_;refine cX ?_;refine aM 10 ?_;refine fG rfl rfl ?_ (hs:=fB.mk 0 rfl cJ.h rfl (by rw[aA6];omega));dsimp only[List.set];rw[iX];refine cX ?_;refine fJ ?_;refine aN 1 0 ?_;refine fC 1 (fun L:dN=>fM g h f L s {z.jO j {z.tk j with hs:=(z.tk j).hs.set dv (hG (z.tk j) dv+1)} with cn:=c2}) L ?_;refine aA ?_;refine dU 1 (gE g h f s (lK s {z.jO j {z.tk j with hs:=(z.tk j).hs.set dv (hG (z.tk j) dv+1)} with cn:=c2})) (fun w1 F1 t h1 h2 h3=>aA3 g h f s _ w1 F1 hm hz h1 h2) ?_;refine aA ?_;exact cH 1 hF
theorem aMt(hm:s.made)(hz:z.wn.of s)(j:Nat)(hj:T3 j)(hk:aFk (z.tk j))(hp:(gE g h f s z).sat F w)(hF:∀b,F b→b < w.heap.size):
  Cz 290 #[.agg #[],pt g,.pointer (some ⟨g,10+13*j,none⟩)] w (Wr (iv (En s z j).1) (gE g h f s (En s z j).2) w F):=by
 have nB:=hm.nv
 have iK:=Jm s
 have hj2:j≤2:=by rcases hj with rfl | rfl | rfl<;>decide
 unfold En;refine dJ func290 ntmps290 hp hF ?_;refine aA ?_;refine bA fun g1=>?_;refine aA ?_;refine lV 1 fun L=>?_;refine kd (bM rfl (pH 1 rfl (Ck (k:=2) hj rfl))) ?_;refine aA ?_;refine aU (fun w1 t=>aG1 g h f L s z w1 (z.tk j).dev (t.aCP 1 rfl)) ?_;cases hin:bN s.aC.length (z.tk j).dev
 ·refine aA ?_;refine fC 1 (fun L:dN=>fM g h f L s z) L ?_;exact cH 1 hF
 have Ak:=of_decide_eq_true hin
 obtain⟨dv,De⟩:∃n:Nat,(z.tk j).dev=(n:Int):=⟨(z.tk j).dev.toNat,by omega⟩
 have Ap:dv < 6:=by omega
 have hb0:=hk.bd dv
 have aPN:(kY h f L s z)[10+13*j+7+dv]? =some (iv (hG (z.tk j) dv)):=by
  rw[Nat.add_assoc];exact Ck hj (aAt Ap)
 rw[if_neg (by simp)];refine aA ?_;refine kd (gN dv (10+13*j+7+dv) (hj:=De) (hlt:=Ap) (ho:=by omega)) ?_;refine kd (bM rfl (pH 1 rfl aPN)) ?_;refine aA ?_
 have Qr:(z.tk j).dev.toNat=dv:=by omega
 refine aG rfl (fun h0=>?_) (fun h0=>?_)
 ·rw[if_pos (by rw[Qr];exact h0)];refine aA ?_;refine fC 1 (fun L:dN=>fM g h f L s z) L ?_;exact cH 1 hF
 rw[if_neg (by rw[Qr];exact h0)];refine aA ?_;refine kd (bM rfl (pH 1 rfl rfl)) ?_;refine bF 1 3 ?_;refine aA ?_;refine dU 0 (sZ L.gc L.gm (.slice L.nd.1 (cQ s).length L.nd.2) (qK (cQ s).length z.cn (z.tk j).dev).2) (fun w1 F1 t h1 h2 h3=>aRS L.gc L.gm (cQ s).length L.nd.2 L.nd.1 z.cn w1 F1 (z.tk j).dev h1 h2) ?_;refine aA ?_;refine aG rfl (fun he=>?_) (fun he=>?_)
 ·rw[if_pos he,aRO he];refine aA ?_;refine aN 1 3 ?_;refine fC 1 (fun L:dN=>fM g h f L s z) L ?_;exact cH 1 hF
 ·rw[if_neg he];refine aN 1 3 ?_;refine bF 1 0 ?_;generalize oY:(qK (cQ s).length z.cn (z.tk j).dev).2=c2
  have hcell:(kY h f L s z)[10+13*j+7+dv]? =some (iv (hG (z.tk j) dv)):=by
   rw[Nat.add_assoc];exact Ck hj (aAt Ap)
  have mK:pJ (z.tk j) (z.tk j).dev.toNat (-1)={z.tk j with hs:=(z.tk j).hs.set dv (hG (z.tk j) dv - 1)}:=by
   unfold pJ;rw[show(z.tk j).dev.toNat=dv by omega]
   all_goals rfl
  have iX:=aG3 (h:=h) (f:=f) (L:=L) (s:=s) (z:=z) (i:=dv) (v:=hG (z.tk j) dv - 1) hj Ap hk.len
  rw[mK];refine aA ?_;refine jL [2,3,4,5,6,7,8] ?_;refine bP 0 ?_;refine bP 1 ?_;refine aJ 2 ?_;refine aJ 3 ?_;refine aJ 4 ?_ (hi:=rfl) (dI:=gN dv (10+13*j+7+dv) (hj:=De) (hlt:=Ap) (ho:=by omega));refine aJ 5 ?_ (hi:=rfl) (dI:=bM rfl (Rd.aE 0 rfl hcell));refine aJ 6 ?_;refine aJ 7 ?_;refine aJ 8 ?_;refine aM 9 ?_;refine kd (gN dv (10+13*j+7+dv) (hj:=De) (hlt:=Ap) (ho:=by omega)) ?_;refine cX ?_;refine aM 10 ?_;refine fG rfl rfl ?_ (hs:=fB.mk 0 rfl cJ.h rfl (by rw[aA6];omega));dsimp only[List.set];rw[iX];refine cX ?_;refine fJ ?_;refine aN 1 0 ?_;refine fC 1 (fun L:dN=>fM g h f L s {z.jO j {z.tk j with hs:=(z.tk j).hs.set dv (hG (z.tk j) dv - 1)} with cn:=c2}) L ?_;refine aA ?_;refine dU 1 (gE g h f s (lK s {z.jO j {z.tk j with hs:=(z.tk j).hs.set dv (hG (z.tk j) dv - 1)} with cn:=c2})) (fun w1 F1 t h1 h2 h3=>aA3 g h f s _ w1 F1 hm hz h1 h2) ?_;refine aA ?_;exact cH 1 hF
end
end
section
def aTZ(d:bO)(vs:List Value):Prop:=∃A k A' n' k',vs=[iv d.clock,iv d.domain,iv d.reset,.int .u32 d.iT,.slice A d.aP.length k,.slice A' n' k']
structure aK6(s:aD)(rows:List (List Value)):Prop where
 row:∀(i:Nat) (d:bO),s.aC[i]? =some d→∃r,rows[i]? =some r∧aTZ d r
 len:∀r∈rows,r.length=6
def Is(L:dN)(s:aD)(rows:List (List Value))(p:Piece):Prop:=mT L s p∧aI p 6 L.a4.1 s.aC.length rows.flatten
theorem Is.le{L:dN}{s:aD}{rows:List (List Value)}(p q:Piece)(hl:p.Le q)(h:Is L s rows p):Is L s rows q:=⟨mT.le p q hl h.1,h.2.le hl⟩
theorem aCR{α:Type}{R:α→List Value→Prop}{sz:Nat}:∀{es:List α} {rs:List (List Value)},Rows R sz es rs→∀(i:Nat) (e:α),es[i]? =some e→∃r,rs[i]? =some r∧r.length=sz∧R e r
 | [],[],_,i,e,h=>by simp at h
 | a::es,r::rs,h,0,e,he=>by
  simp at he;subst he;exact⟨r,rfl,h.1,h.2.1⟩
 | a::es,r::rs,h,i+1,e,he=>aCR h.2.2 i e (by simpa using he)
section
variable{N:bZ}{w0:World}{e:Env}{R:List Piece}{H:List HP}{K:Act→World→Prop}{L:dN}{s:aD}
theorem aTr(i:Nat)(hi:H[i]? =some (HP.bT (mT L s) (mT.le (L:=L) (s:=s))))(k:∀rows,aK6 s rows→XK N w0 K e R (H.set i (HP.bT (Is L s rows) (Is.le (L:=L) (s:=s) (rows:=rows))))):XK N w0 K e R H:=fun a w hr st=>by
 obtain⟨F,h1,hlt,_,hk⟩:=st.chunk hi;obtain⟨rows,eH,iI,yD⟩:=(h1:mT L s ⟨w,F⟩).dev;refine k rows ⟨fun i d hd=>?_,fun r hr=>Rows.aBN eH r hr⟩ a w hr (hk w F _ (show Is L s rows ⟨w,F⟩ from⟨h1,yD⟩) ⟨rfl,rfl,rfl,Nat.le_refl _,fun b hb=>⟨.inl hb,hlt b hb⟩,fun _ _ _=>rfl⟩);obtain⟨r,h2,_,A,n,q,A',n',q',h3,h4,_⟩:=aCR eH i d hd;subst h4;exact⟨r,h2,A,q,A',n',q',h3⟩
theorem Rd.dev(i:Nat){rows:List (List Value)}{j k b off:Nat}{r:List Value}{v:Value}{hm:∀p q:Piece,p.Le q→Is L s rows p→Is L s rows q}(hi:H[i]? =some (HP.bT (Is L s rows) hm))(hq:aK6 s rows)(hA:L.a4.1=some ⟨b,off,none⟩)(hr:rows[j]? =some r)(hj:j < s.aC.length)(hv:r[k]? =some v):Rd w0 R H b (off+j*6+k) v:=by
 have hk:k < 6:=by
  have h1:=hq.len r (List.mem_of_getElem? hr)
  have:=(List.getElem?_eq_some_iff.1 hv).1
  omega
 have hf:=Rr (fun x=>x) 6 rows hq.len j k r hr hk
 have:=Rd.bT (w0:=w0) (R:=R) (xs:=rows.flatten) (j:=j*6+k) (v:=v) i hi (fun p h=>h.2) hA (by omega) (by simpa[hv] using hf)
 rwa [←Nat.add_assoc] at this
end
theorem aMw(g h f:Nat)(L:dN)(s:aD)(z:aW)(w:World)(d:Int)(hR:eC w g 0 (kY h f L s z)):Cz 67 #[pt g,iv d] w (Rt (.bool (bN s.aC.length d)) w):=by
 have k5:=hR.at_ (j:=5) rfl
 refine aL func67 ntmps67 ?_;refine aA ?_;refine bU (t:=7) rfl (fun h=>?_) (fun h=>?_)
 ·refine aA ?_;refine jY (by simp) ?_;unfold bN
  congr 1
  simp;omega
 ·refine aA ?_;refine jY (by simp) ?_
  have:bN s.aC.length d=false:=decide_eq_false (by omega)
  rw[this]
def Gm(s:aD)(d:Int):Int:=((s.aC[d.toNat]?).map fun d=>(d.aP.length:Int)).getD 0
def Ii(s:aD)(t:rG):Prop:=bN s.aC.length t.dev=false∨t.bY < 0∨Gm s t.dev≤t.bY
instance(s:aD)(t:rG):Decidable (Ii s t):=by unfold Ii;infer_instance
def Dk(s:aD)(x:aO)(z:aW)(j:Nat)(wr:Bool):Int×aW×aO:=
 if Ii s (z.tk j) then(4,z,x) else if hG (z.tk j) (z.tk j).dev.toNat=0∨z.cn.jX=true then(6,z,x)
 else if uF x (z.tk j).dev.toNat=114 then(0,{z with aR:=true,id:=x.aR},wP x (z.tk j).dev.toNat wr (z.tk j).bY (z.tk j).val) else(6,z,x)
def Ld(g f:Nat)(hL:HL)(s:aD)(z:aW)(x:aO):HP:=HP.many [gE g hL.h f s z,dS hL s x]
section
variable(g f:Nat)(hL:HL)(s:aD)(z:aW)(x:aO)(w:World)(F:Nat→Prop)
theorem aG4(hm:s.made)(aV:gX hL s)(hok:cF s x)(hw0:∀i:Nat,(x.wt[i]?).join=none)(lQ:0≤x.aR∧x.aR≤1000000000)(j:Nat)(hj:T3 j)(wr:Bool)(hp:(Ld g f hL s z x).sat F w)(hF:∀b,F b→b < w.heap.size)(eY:jS ⟨w,fun b=>b < w.heap.size∧¬F b⟩):
  Cz 291 #[.agg #[.bool wr],pt g,.pointer (some ⟨g,10+13*j,none⟩)] w (Wr (iv (Dk s x z j wr).1) (Ld g f hL s (Dk s x z j wr).2.1 (Dk s x z j wr).2.2) w F):=by
 have nB:=hm.nv
 have hH:=hm.dG
 have hj2:j≤2:=by rcases hj with rfl | rfl | rfl<;>decide
 unfold Dk;refine dJ func291 ntmps291 hp hF ?_;generalize cK:(⟨w,fun b=>b < w.heap.size∧¬F b⟩:Piece)=R0 at eY⊢;refine bF 0 1 ?_;refine bF 1 0 ?_;refine lV 0 fun L=>?_;refine aA ?_;refine bA fun g1=>?_;refine aA ?_;refine kd (oZ (vs:=[.int .u8 (z.tk j).kind,iv (z.tk j).dev,iv (z.tk j).bY,.int .u32 (z.tk j).val]) rfl (aQ.of fun k v hv=>pH 1 rfl ?_)) ?_
 ·have hk:k < 4:=by simpa using(List.getElem?_eq_some_iff.1 hv).1
  have h2:k=0∨k=1∨k=2∨k=3:=by omega
  have:=Ck (h:=hL.h) (f:=f) (L:=L) (s:=s) (z:=z) (j:=j) (k:=1+k) (v:=v) hj (by rcases h2 with rfl | rfl | rfl | rfl<;>exact hv)
  rwa [←Nat.add_assoc] at this
 refine bR fun g7=>?_;refine aA ?_;refine bF 2 1 ?_;refine bF 3 0 ?_
 have hj7:10+13*j+7 < 55:=by omega
 refine aTr 1 rfl fun rows hq=>?_;dsimp only[List.set];refine aEM (A:=L.a4.1) (sz:=6) (n:=s.aC.length) (xs:=rows.flatten) 1 rfl (fun _ h=>h.2) (by omega) fun b off hA=>?_;refine aA ?_;refine mG ?_;refine iZ ?_;refine tR (fun w1 t=>aMw g hL.h f L s z w1 (z.tk j).dev (uT (t.aE (i:=0) rfl))) ?_;cases hin:bN s.aC.length (z.tk j).dev
 ·refine jA ?_;rw[if_pos (show Ii s (z.tk j) from .inl hin)];refine aA ?_;refine Bh (q:=HP.bT (mT L s) (mT.le (L:=L) (s:=s))) 1 rfl (fun F w hs=>hs.1) ?_;dsimp only[List.set];refine aN 3 0 ?_;refine aN 2 1 ?_;refine fC 2 (fun L:dN=>fM g hL.h f L s z) L ?_;refine aY [2,3,4] rfl (by decide) (fun _ h=>h) ?_;refine aN 1 0 ?_;refine aN 0 1 ?_;subst cK;exact cH 0 hF
 ·have Ak:=of_decide_eq_true hin
  obtain⟨dv,De⟩:∃n:Nat,(z.tk j).dev=(n:Int):=⟨(z.tk j).dev.toNat,by omega⟩
  have Qr:(z.tk j).dev.toNat=dv:=by omega
  obtain⟨d,dD⟩:=get_some (l:=s.aC) (i:=dv) (by omega)
  have Ab:Gm s (z.tk j).dev=d.aP.length:=by
   unfold Gm;rw[Qr,dD];rfl
  obtain⟨r,hr,A,k,A',n',k',rfl⟩:=hq.row dv d dD;refine iZ ?_;refine Nx 26 rfl (fun hneg=>?_) (fun hnn=>?_)
  ·refine jA ?_;rw[if_pos (show Ii s (z.tk j) from .inr (.inl hneg))];refine aA ?_;refine Bh (q:=HP.bT (mT L s) (mT.le (L:=L) (s:=s))) 1 rfl (fun F w hs=>hs.1) ?_;dsimp only[List.set];refine aN 3 0 ?_;refine aN 2 1 ?_;refine fC 2 (fun L:dN=>fM g hL.h f L s z) L ?_;refine aY [2,3,4] rfl (by decide) (fun _ h=>h) ?_;refine aN 1 0 ?_;refine aN 0 1 ?_;subst cK;exact cH 0 hF
  ·refine iZ ?_;refine xA (dat dv (off+dv*6) (hx:=by rw[←hA];rfl) (hj:=De)) ?_;refine iZ ?_;refine xA (bM rfl (Rd.dev 1 rfl hq hA hr (by omega) rfl)) ?_;refine jA ?_;refine aA ?_;refine aG rfl (fun hge=>?_) (fun hlt=>?_)
   ·rw[if_pos (show Ii s (z.tk j) from .inr (.inr (by rw[Ab];exact hge)))];refine aA ?_;refine Bh (q:=HP.bT (mT L s) (mT.le (L:=L) (s:=s))) 1 rfl (fun F w hs=>hs.1) ?_;dsimp only[List.set];refine aN 3 0 ?_;refine aN 2 1 ?_;refine fC 2 (fun L:dN=>fM g hL.h f L s z) L ?_;refine aY [2,3,4] rfl (by decide) (fun _ h=>h) ?_;refine aN 1 0 ?_;refine aN 0 1 ?_;subst cK;exact cH 0 hF
   ·have aPt:¬Ii s (z.tk j):=by
     unfold Ii;rw[hin,Ab];rintro(h | h | h)
     ·cases h
     ·exact hnn h
     ·exact hlt h
    have hcell:(kY hL.h f L s z)[10+13*j+7+dv]? =some (iv (hG (z.tk j) dv)):=by
     rw[Nat.add_assoc];exact Ck hj (aAt (by omega))
    rw[if_neg aPt];refine Bh (q:=HP.bT (mT L s) (mT.le (L:=L) (s:=s))) 1 rfl (fun F w hs=>hs.1) ?_;dsimp only[List.set];refine aN 3 0 ?_;refine aN 2 1 ?_;refine aA ?_;refine mG ?_;refine iZ ?_;refine xA (gN dv (10+13*j+7+dv) (hj:=De) (hlt:=by omega) (ho:=by omega)) ?_;refine xA (bM rfl (pH 2 rfl hcell)) ?_;refine iZ ?_;refine Nx 51 rfl (fun h0=>?_) (fun h0=>?_)
    ·refine jA ?_;rw[if_pos (show hG (z.tk j) (z.tk j).dev.toNat=0∨z.cn.jX=true from .inl (by rw[Qr];exact h0))];refine aA ?_;refine fC 2 (fun L:dN=>fM g hL.h f L s z) L ?_;refine aY [2,3,4] rfl (by decide) (fun _ h=>h) ?_;refine aN 1 0 ?_;refine aN 0 1 ?_;subst cK;exact cH 0 hF
    ·refine iZ ?_;refine xA (bM rfl (pH 2 rfl rfl)) ?_;refine iZ ?_;refine tR (fun w1 t=>aRV L.gc z.cn.jX w1 ((t.aCP 2 rfl).cn.at_ (j:=2) rfl)) ?_;cases aUv:z.cn.jX
     ·refine jA ?_;refine aA ?_
      have aUn:=(List.getElem?_eq_some_iff.1 dD).1
      have hrl:=(hm.aC dv d dD).2.2.2.2.2.2.2.2.1
      have Ah:0≤(z.tk j).bY:=by omega
      have eH:(z.tk j).bY < d.aP.length:=by omega
      have hno:¬(hG (z.tk j) dv=0∨false=true):=by
       rintro(h | h)
       ·exact h0 h
       ·cases h
      rw[Qr,if_neg hno];refine aA ?_;refine aU (fun w1 t=>aS9 (z.tk j).dev (z.tk j).bY ⟨by omega,by omega⟩ ⟨Ah,by omega⟩ w1) ?_;refine aA ?_
      by_cases Db:uF x dv=114
      ·rw[if_pos Db];refine aY [3,0,1,2,4] rfl (by decide) (fun _ h=>h) ?_;refine Ob [1,2,3,5,6,7,8,11,12] ?_;refine bP 0 ?_ (hsub:=fun _ h=>h.cR);refine aJ 1 ?_ (hsub:=fun _ h=>h.cR);refine aJ 2 ?_ (hsub:=fun _ h=>h.cR);refine aJ 3 ?_ (hi:=rfl) (dI:=bM rfl (pH 3 rfl rfl)) (hsub:=fun _ h=>h.cR);refine bP 4 ?_ (hsub:=fun _ h=>h.cR);refine aJ 5 ?_ (hsub:=fun _ h=>h.cR);refine aJ 6 ?_ (hsub:=fun _ h=>h.cR);refine aJ 7 ?_ (hsub:=fun _ h=>h.cR);refine aJ 8 ?_ (hsub:=fun _ h=>h.cR);refine aM 9 ?_
       refine aAU (v:=.tuple #[iv x.aR,iv 0]) 0 (dS hL s (wP x dv wr (z.tk j).bY (z.tk j).val)) (fun w1 F1 t h1 h2 h3=>by
        have:=aIm hL s x w1 hH aV hok dv d dD (hw0 dv) nB.2 (z.tk j).bY ⟨Ah,by omega,eH⟩ wr (z.tk j).val lQ F1 h1 h2 (jS.le eY (h3 _ (by simp)))
        rw[if_pos Db,if_pos Db,←De] at this
        exact this) ?_
       dsimp only[List.set];refine bL ?_ (hS:=fun _ h=>h.cR);refine aM 10 ?_;refine bH ?_;refine bL ?_ (hS:=fun _ h=>h.cR);refine aJ 11 ?_ (hsub:=fun _ h=>h.cR);refine aJ 12 ?_ (hsub:=fun _ h=>h.cR);refine aM 13 ?_;refine bH ?_;refine bL ?_ (hS:=fun _ h=>h.cR);refine aM 14 ?_;refine bH ?_;refine bL ?_ (hS:=fun _ h=>h.cR);refine fJ ?_;refine aY [1,2,3,0,4] rfl (by decide) (fun _ h=>h) ?_;refine bF 2 0 ?_;refine aA ?_;refine fG rfl rfl ?_ (hs:=fB.mk 0 rfl cJ.h rfl (of_decide_eq_true rfl));dsimp only[List.set];refine aA ?_;refine fG rfl rfl ?_ (hs:=fB.mk 0 rfl cJ.h rfl (of_decide_eq_true rfl));dsimp only[List.set];refine aA ?_;refine aN 2 0 ?_;refine fC 2 (fun L:dN=>fM g hL.h f L s {z with aR:=true,id:=x.aR}) L ?_;refine aY [2,3,4] rfl (by decide) (fun _ h=>h) ?_;refine aN 1 0 ?_;refine aN 0 1 ?_;subst cK;exact cH 0 hF
      ·rw[if_neg Db];refine aY [3,0,1,2,4] rfl (by decide) (fun _ h=>h) ?_;refine Ob [1,2,3,5,6,7,8,11,12] ?_;refine bP 0 ?_ (hsub:=fun _ h=>h.cR);refine aJ 1 ?_ (hsub:=fun _ h=>h.cR);refine aJ 2 ?_ (hsub:=fun _ h=>h.cR);refine aJ 3 ?_ (hi:=rfl) (dI:=bM rfl (pH 3 rfl rfl)) (hsub:=fun _ h=>h.cR);refine bP 4 ?_ (hsub:=fun _ h=>h.cR);refine aJ 5 ?_ (hsub:=fun _ h=>h.cR);refine aJ 6 ?_ (hsub:=fun _ h=>h.cR);refine aJ 7 ?_ (hsub:=fun _ h=>h.cR);refine aJ 8 ?_ (hsub:=fun _ h=>h.cR);refine aM 9 ?_
       refine aAU (v:=.tuple #[iv 0,iv 6]) 0 (dS hL s x) (fun w1 F1 t h1 h2 h3=>by
        have:=aIm hL s x w1 hH aV hok dv d dD (hw0 dv) nB.2 (z.tk j).bY ⟨Ah,by omega,eH⟩ wr (z.tk j).val lQ F1 h1 h2 (jS.le eY (h3 _ (by simp)))
        rw[if_neg Db,if_neg Db,←De] at this
        exact this) ?_
       dsimp only[List.set];refine bL ?_ (hS:=fun _ h=>h.cR);refine aM 10 ?_;refine bH ?_;refine bL ?_ (hS:=fun _ h=>h.cR);refine aJ 11 ?_ (hsub:=fun _ h=>h.cR);refine aJ 12 ?_ (hsub:=fun _ h=>h.cR);refine aM 13 ?_;refine bH ?_;refine bL ?_ (hS:=fun _ h=>h.cR);refine aM 14 ?_;refine bH ?_;refine bL ?_ (hS:=fun _ h=>h.cR);refine fJ ?_;refine aY [1,2,3,0,4] rfl (by decide) (fun _ h=>h) ?_;refine aA ?_;refine fC 2 (fun L:dN=>fM g hL.h f L s z) L ?_;refine aY [2,3,4] rfl (by decide) (fun _ h=>h) ?_;refine aN 1 0 ?_;refine aN 0 1 ?_;subst cK;exact cH 0 hF
     ·refine jA ?_;rw[if_pos (.inr rfl)];refine aA ?_;refine fC 2 (fun L:dN=>fM g hL.h f L s z) L ?_;refine aY [2,3,4] rfl (by decide) (fun _ h=>h) ?_;refine aN 1 0 ?_;refine aN 0 1 ?_;subst cK;exact cH 0 hF
end
end
section
theorem aBv{P:Program}{fn:FuncId}{args:Array Value}{w:World}{p p' q:HP}{v:Value}{F:Nat→Prop}(h:∀F,p.sat F w→(∀b,F b→b < w.heap.size)→Calls P fn args w fun y w'=>y=.returned v∧∃F',p'.sat F' w'∧iE w w' F F')
  (hp:(HP.many [p,q]).sat F w) (hF:∀b,F b→b < w.heap.size):Calls P fn args w fun y w'=>y=.returned v∧∃F',(HP.many [p',q]).sat F' w'∧iE w w' F F':=by
 obtain⟨G,g1,g2,g3⟩:=hp
 have Ev:=g1 0 p rfl
 have Jt:=g1 1 q rfl
 refine(h (G 0) Ev fun b hb=>hF b (g2 0 b hb)).mono fun y w' ⟨hy,F',h1,ht⟩=>⟨hy,fun b=>F' b∨G 1 b,⟨fun i=>match i with | 0=>F' | 1=>G 1 | _=>fun _=>False,fun i r hr=>?_,fun i b hb=>?_,fun i j b hij hi hj=>?_⟩,⟨ht.os,ht.tape,ht.output,ht.size,fun b hb=>?_,fun b hb hn=>?_⟩⟩
 ·match i,hr with
  | 0,hr=>cases hr;exact h1
  | 1,hr=>cases hr;exact q.loc _ _ _ Jt fun b hb=>ht.old b (hF b (g2 1 b hb)) fun h0=>g3 0 1 b (by decide) h0 hb
  | i+2,hr=>simp at hr
 ·match i,hb with
  | 0,hb=>exact .inl hb
  | 1,hb=>exact .inr hb
  | i+2,hb=>exact hb.elim
 ·have key:∀b,F' b→G 1 b→False:=fun b h0 h2=>by
   rcases(ht.new b h0).1 with h3 | h3
   ·exact g3 0 1 b (by decide) h3 h2
   ·have:=hF b (g2 1 b h2)
    omega
  match i,j,hi,hj with
  | 0,0,_,_=>exact absurd rfl hij
  | 0,1,hi,hj=>exact key b hi hj
  | 1,0,hi,hj=>exact key b hj hi
  | 1,1,_,_=>exact absurd rfl hij
  | i+2,_,hi,_=>exact hi.elim
  | _,j+2,_,hj=>exact hj.elim
 ·rcases hb with hb | hb
  ·refine⟨?_,(ht.new b hb).2⟩;rcases(ht.new b hb).1 with h3 | h3
   ·exact .inl (g2 0 b h3)
   ·exact .inr h3
  ·exact⟨.inl (g2 1 b hb),Nat.lt_of_lt_of_le (hF b (g2 1 b hb)) ht.size⟩
 ·exact ht.old b hb fun h0=>hn (g2 0 b h0)
structure Tm(s:aD)(z:aW):Prop where
 wn:z.wn.of s
 hs:∀j,T3 j→aFk (z.tk j)
structure HwP(s:aD)(x:aO):Prop where
 ok:cF s x
 w0:∀i:Nat,(x.wt[i]?).join=none
 po:0≤x.aR∧x.aR≤1000000000
def qJ(s:aD)(x:aO)(z:aW)(j:Nat)(k:Int):Int×aW×aO:=
 if k=103 then((Fh s z j).1,(Fh s z j).2,x) else if k=112 then((En s z j).1,(En s z j).2,x) else if k=114 then Dk s x z j false else if k=119 then Dk s x z j true else if k=115 then((Ef s z).1,(Ef s z).2,x) else((El s z).1,(El s z).2,x)
theorem aQV{k:Int}(hk:tF k):∃(tx:TypeId) (u u':Value) (fn:FuncId),Nj k=.iface tx u∧(∀w,(method (Tryz.prog.types.size+Made.depth) tx u "catnap/rpm.begin").run Tryz.prog w=.ok (fn,u') w)∧fH Tryz.prog fn=true∧
  ∀(g f:Nat) (hL:HL) (s:aD) (z:aW) (x:aO) (w:World) (F:Nat→Prop) (j:Nat),s.made→gX hL s→HwP s x→Tm s z→T3 j→(Ld g f hL s z x).sat F w→(∀b,F b→b < w.heap.size)→jS ⟨w,fun b=>b < w.heap.size∧¬F b⟩→
   Cz fn #[u',pt g,.pointer (some ⟨g,10+13*j,none⟩)] w (Wr (iv (qJ s x z j k).1) (Ld g f hL s (qJ s x z j k).2.1 (qJ s x z j k).2.2) w F):=by
 rcases hk with rfl | rfl | rfl | rfl | rfl | rfl
 ·exact⟨_,_,.agg #[],276,rfl,fun w=>by kernel_rfl,(by kernel_rfl),fun g f hL s z x w F j hm aV hx hz hj hp hF _=>aBv (fun F h1 h2=>aMv g hL.h f s z w F hm hz.wn j hj (hz.hs j hj) h1 h2) hp hF⟩
 ·exact⟨_,_,.agg #[],290,rfl,fun w=>by kernel_rfl,(by kernel_rfl),fun g f hL s z x w F j hm aV hx hz hj hp hF _=>aBv (fun F h1 h2=>aMt g hL.h f s z w F hm hz.wn j hj (hz.hs j hj) h1 h2) hp hF⟩
 ·exact⟨_,_,.agg #[.bool false],291,rfl,fun w=>by kernel_rfl,(by kernel_rfl),fun g f hL s z x w F j hm aV hx hz hj hp hF eY=>aG4 g f hL s z x w F hm aV hx.ok hx.w0 hx.po j hj false hp hF eY⟩
 ·exact⟨_,_,.agg #[.bool true],291,rfl,fun w=>by kernel_rfl,(by kernel_rfl),fun g f hL s z x w F j hm aV hx hz hj hp hF eY=>aG4 g f hL s z x w F hm aV hx.ok hx.w0 hx.po j hj true hp hF eY⟩
 ·exact⟨_,_,.agg #[],297,rfl,fun w=>by kernel_rfl,(by kernel_rfl),fun g f hL s z x w F j hm aV hx hz hj hp hF _=>aBv (fun F h1 h2=>aMp g hL.h f s z w F hm hz.wn _ h1 h2) hp hF⟩
 ·exact⟨_,_,.agg #[],298,rfl,fun w=>by kernel_rfl,(by kernel_rfl),fun g f hL s z x w F j hm aV hx hz hj hp hF _=>aBv (fun F h1 h2=>aMs g hL.h f s z w F hm hz.wn _ h1 h2) hp hF⟩
theorem aIK(s:aD)(x:aO)(z:aW)(j:Nat)(k:Int):(qJ s x z j k).2.1.eW=z.eW:=by
 unfold qJ Fh En Ef El Dk
 repeat' split
 all_goals rfl
theorem aMx{h f:Nat}{L:dN}{s:aD}{z:aW}{j:Nat}{v:Int}(hj:T3 j):(kY h f L s z).set (10+13*j+0) (iv v)=kY h f L s (z.jO j {z.tk j with st:=v}):=by
 rcases hj with rfl | rfl | rfl<;>rfl
def kB(z:aW)(j:Nat):aW:={z.jO j {z.tk j with st:=2} with eW:=(j:Int)}
theorem aNT{z:aW}{j:Nat}(hj:T3 j):(kB z j).tk j={z.tk j with st:=2}:=by
 rcases hj with rfl | rfl | rfl<;>rfl
theorem aNU{s:aD}{z:aW}{j:Nat}(hj:T3 j)(h:Tm s z):Tm s (kB z j):=⟨h.wn,fun i hi=>by
 have h1:=h.hs i hi
 have h2:((kB z j).tk i).hs=(z.tk i).hs:=by
  rcases hj with rfl | rfl | rfl<;>rcases hi with rfl | rfl | rfl<;>rfl
 exact⟨by rw[h2];exact h1.len,fun k=>by
  have:=h1.bd k
  unfold hG at this⊢;rw[h2]
  exact this⟩⟩
def pF(s:aD)(x:aO)(z:aW)(j:Nat):aW×aO:=
 let r:=qJ s x (kB z j) j (z.tk j).kind
 if r.1≠0 then(kD r.2.1 j r.1 0,r.2.2) else if r.2.1.aR=false∧r.2.1.steps.length=0 then(kD r.2.1 j 0 0,r.2.2) else r.2
theorem aMy(g f:Nat)(hL:HL)(s:aD)(z:aW)(x:aO)(w:World)(F:Nat→Prop)(j:Nat)(hm:s.made)(aV:gX hL s)(hx:HwP s x)(hz:Tm s z)(hj:T3 j)(hk:tF (z.tk j).kind)(hp:(Ld g f hL s z x).sat F w)(hF:∀b,F b→b < w.heap.size)(eY:jS ⟨w,fun b=>b < w.heap.size∧¬F b⟩):
  Cz 47 #[pt g,iv (j:Int)] w (Wr (.tuple #[]) (Ld g f hL s (pF s x z j).1 (pF s x z j).2) w F):=by
 have hj2:j≤2:=by rcases hj with rfl | rfl | rfl<;>decide
 obtain⟨tx,u,u',fn,hy,hme,hcb,Au⟩:=aQV hk
 have mK:=aNU hj hz
 have hh:=aIK s x (kB z j) j (z.tk j).kind
 unfold pF;dsimp only;refine dJ func47 ntmps47 hp hF ?_;generalize cK:(⟨w,fun b=>b < w.heap.size∧¬F b⟩:Piece)=R0 at eY⊢;refine bF 0 0 ?_;refine lV 0 fun L=>?_;refine bF 0 0 ?_;refine aA ?_;refine fG rfl rfl ?_ (hs:=fB.mk 0 rfl cJ.h rfl (of_decide_eq_true rfl));dsimp only[List.set];rw[show(kY hL.h f L s z).set (0+49) (iv (j:Int))=kY hL.h f L s {z with eW:=(j:Int)} from rfl];refine aA ?_;refine kd (gN j (10+13*j) (ho:=by omega)) ?_;refine aA ?_;refine fG rfl rfl ?_ (hs:=fB.mk 0 rfl cJ.h rfl (by rw[aA6];omega));dsimp only[List.set];rw[aMx hj];refine aN 0 0 ?_
 change XK _ _ _ _ _ [fM g hL.h f L s (kB z j),HP.many [cG,dS hL s x]]
 refine aA ?_;refine kd (bM rfl (pH 0 rfl (Ck (k:=1) hj rfl))) ?_;rw[aNT hj];refine aU (fun w1 _=>aA5 (z.tk j).kind w1) ?_;rw[hy];refine fC 0 (fun L:dN=>fM g hL.h f L s (kB z j)) L ?_;refine aN 0 0 ?_;refine aA ?_;generalize hr:qJ s x (kB z j) j (z.tk j).kind=r at hh⊢
 refine aF6 0 (Ld g f hL s r.2.1 r.2.2) hcb rfl hme rfl rfl ⟨by decide,rfl⟩ (fun w1 F1 t h1 h2 h3=>by
  have:=Au g f hL s (kB z j) x w1 F1 j hm aV hx mK hj h1 h2 (jS.le eY (h3 _ (by simp)))
  rw[hr] at this
  exact this) ?_
 dsimp only[List.set];obtain⟨er,z2,x2⟩:=r;dsimp only at hh⊢;refine aA ?_;refine aG rfl (fun he=>?_) (fun he=>?_)
 ·rw[if_pos he];refine aA ?_;refine kd (fZ rfl) ?_;refine aA ?_;refine bF 0 0 ?_;refine dU 0 (gE g hL.h f s (kD z2 j er 0)) (fun w1 F1 t h1 h2 h3=>Jd g hL.h f s z2 w1 F1 j hh hj er 0 h1 h2) ?_;refine aN 0 0 ?_;refine aA ?_;subst cK;exact jZ 0 hF
 ·rw[if_neg he];refine bF 0 0 ?_;refine lV 0 fun L2=>?_;refine aA ?_;refine kd (bM rfl (pH 0 rfl rfl)) ?_;cases lQ:z2.aR
  ·refine aA ?_;refine kd (bM rfl (pH 0 rfl rfl)) ?_;refine aA ?_;refine fC 0 (fun L:dN=>fM g hL.h f L s z2) L2 ?_;refine aG rfl (fun hn=>?_) (fun hn=>?_)
   ·rw[if_pos ⟨rfl,Int.ofNat.inj hn⟩];refine aA ?_;refine kd (fZ rfl) ?_;refine aA ?_;refine dU 0 (gE g hL.h f s (kD z2 j 0 0)) (fun w1 F1 t h1 h2 h3=>Jd g hL.h f s z2 w1 F1 j hh hj 0 0 h1 h2) ?_;refine aN 0 0 ?_;subst cK;exact jZ 0 hF
   ·rw[if_neg (fun h=>hn (congrArg Int.ofNat h.2))];refine aA ?_;refine aN 0 0 ?_;subst cK;exact jZ 0 hF
  ·refine aA ?_;rw[if_neg (by simp)];refine fC 0 (fun L:dN=>fM g hL.h f L s z2) L2 ?_;refine aN 0 0 ?_;subst cK;exact jZ 0 hF
end
section
def aFe(g h f:Nat)(s:aD)(z:aW)(y:bX):HP:=HP.many [gE g h f s z,Bw f h s y]
def qA(p:cZ)(k:Int):List Int:=[(eA p.msg 0 p.pr k).1,p.id,p.v]
def Jb(a:List Int):Prop:=IntKind.i32.wrap (a.getD 1 0)=0∨IntKind.i32.wrap (a.getD 1 0)= -3
instance(a:List Int):Decidable (Jb a):=by unfold Jb;infer_instance
def sH(z:aW)(a:List Int):aW:=if Jb a then {z with sent:=false,steps:=z.steps.tail} else {z with sent:=false}
theorem aFY{z:aW}{a:List Int}(h:Jb a):sH z a={z with sent:=false,steps:=z.steps.tail}:=if_pos h
theorem aL0{z:aW}{a:List Int}(h:¬Jb a):sH z a={z with sent:=false}:=if_neg h
def qL(z:aW)(y:bX)(j:Nat):aW×bX:=
 if z.sent=true then
  match oK y 0 with
  | none=>(z,oJ y 0)
  | some a=>(if(sH z a).steps.length=0 then kD (sH z a) j 0 0 else sH z a,oJ y 0)
 else
  match z.steps with
  | []=>(z,y)
  | p::_=>if(nV y 0 (qA p z.many)).1=0 then({z with sent:=true,many:=(z.many+1) % 1024},(nV y 0 (qA p z.many)).2) else(z,(nV y 0 (qA p z.many)).2)
theorem aG2{h f:Nat}{L:dN}{s:aD}{z:aW}{p:cZ}{tl:List cZ}{A:Option Addr}{c:Nat}(hst:z.steps=p::tl):(kY h f L s z).set 50 (.slice A (z.steps.length - 1) c)=kY h f {L with st:=(A,c)} s {z with steps:=z.steps.tail}:=by
 obtain⟨cn,wn,t0,t1,t2,eW,steps,sent,aR,id,many⟩:=z;dsimp only at hst;subst hst;rfl
theorem aI.aRh{p:Piece}{sz n k:Nat}{A A':Option Addr}{xs:List Value}(h:aI p sz A n xs)(hk:k≤n)(hA:k < n→∀b off,A=some ⟨b,off,none⟩→A'=some ⟨b,off+k*sz,none⟩):aI p sz A' (n - k) (xs.drop (k*sz)):=by
 refine⟨by rw[List.length_drop,h.1,Nat.sub_mul],fun h0=>?_⟩;obtain⟨b,off,hA2,hz,hc⟩:=h.2 (by omega);refine⟨b,off+k*sz,hA (by omega) b off hA2,hz,fun j u hu=>?_⟩;rw[List.getElem?_drop] at hu;rw[Nat.add_assoc];exact hc _ u hu
theorem aJT{N:bZ}{w0:World}{e:Env}{R:List Piece}{H:List HP}{K:Act→World→Prop}(i:Nat){b:Nat}{t:TypeId}{cs cs':List Value}(hi:H[i]? =some (HP.aE b t cs))(he:cs=cs')(k:XK N w0 K e R (H.set i (HP.aE b t cs'))):XK N w0 K e R H:=by
 subst he;obtain⟨hlt,hx⟩:=List.getElem?_eq_some_iff.1 hi;rw[←hx,List.set_getElem_self hlt] at k;exact k
def Hw(L:dN):dN:={L with st:=(if L.st.2=1 then L.st.1 else L.st.1.map (·.add (1*4)),L.st.2 - 1)}
theorem oA.tail{L:dN}{p:cZ}{l tl:List cZ}{q:Piece}(hl:l=p::tl)(h:oA L l q):oA (Hw L) l.tail q:=by
 subst hl;obtain⟨h1,h2⟩:=h;simp only[List.length_cons] at h2;refine⟨h1.aRh (k:=1) (by simp) fun hlt b off hA=>?_,by simp only[List.tail_cons,Hw];omega⟩;simp only[List.length_cons] at hlt;unfold Hw;dsimp only;rw[if_neg (by omega),hA];rfl
section
variable(g h f:Nat)(s:aD)(z:aW)(y:bX)(w:World)(F:Nat→Prop)
theorem aM1(j:Nat)(hh:z.eW=(j:Int))(hj:T3 j)(hne:z.steps≠[])(hmy:0≤z.many∧z.many < 1024)(hpk:∀p∈z.steps,(eA p.msg 0 p.pr z.many).2=0)(hra:∀a,oK y 0=some a→2≤a.length)(hp:(aFe g h f s z y).sat F w)(hF:∀b,F b→b < w.heap.size):
  Cz 48 #[pt g] w (fun v w'=>v=.returned (.tuple #[])∧∃F',(aFe g h f s (qL z y j).1 (qL z y j).2).sat F' w'∧iE w w' F F'):=by
 obtain⟨p,tl,hst⟩:=List.exists_cons_of_ne_nil hne
 have Ew:z.steps.length=tl.length+1:=by rw[hst];rfl
 refine dJ func48 ntmps48 hp hF ?_;generalize cK:(⟨w,fun b=>b < w.heap.size∧¬F b⟩:Piece)=R0;refine bF 0 0 ?_;refine lV 0 fun L=>?_;refine bF 0 0 ?_;refine bF 1 5 ?_;refine bF 3 1 ?_;refine aA ?_;cases hse:z.sent
 ·have Xh:qL z y j=if(nV y 0 (qA p z.many)).1=0 then({z with sent:=true,many:=(z.many+1) % 1024},(nV y 0 (qA p z.many)).2) else(z,(nV y 0 (qA p z.many)).2):=by
   unfold qL;rw[if_neg (by rw[hse];simp),hst]
  rw[Xh]
  have aPj:=hpk p (by rw[hst];simp)
  have hfm:z.steps.flatMap cZ.cells=p.cells++tl.flatMap cZ.cells:=by rw[hst];rfl
  refine aA ?_;refine aEM (A:=L.st.1) (sz:=4) (n:=z.steps.length) (xs:=z.steps.flatMap cZ.cells) 1 rfl (fun _ h=>h.1) (by omega) fun b off hA=>?_;refine jL [1,2,3,4,5,7,8,9,12,13] ?_;refine bP 0 ?_;refine aJ 1 ?_;refine aJ 2 ?_;refine aJ 3 ?_;refine aJ 4 ?_ (hi:=rfl) (dI:=dat 0 off (hx:=by rw[←hA];rfl) (hj:=rfl));refine aJ 5 ?_ (hi:=rfl) (dI:=oZ rfl (aQ.of (vs:=p.cells) fun i v hv=>Rd.bT 1 rfl (fun _ h=>h.1) hA (by omega) (by rw[hfm,List.getElem?_append_left (List.getElem?_eq_some_iff.1 hv).1];exact hv)));refine bP 6 ?_;refine aJ 7 ?_;refine aJ 8 ?_;refine aJ 9 ?_;refine aM 10 ?_;refine jP [] (aCp (qA p z.many)) (fun w1 t=>aKV p.pr p.msg p.id p.v z.many w1 aPj) ?_;rintro _ w1 q1 ⟨Am,cm,rfl,hmw⟩ hf _ _
  have hmw:=hmw.le hf
  clear hf;refine bL ?_;refine aM 11 ?_;refine bH ?_;refine bL ?_;refine aJ 12 ?_;refine aJ 13 ?_;refine aM 14 ?_;refine bH ?_;refine bL ?_;refine aM 15 ?_;refine bH ?_;refine bL ?_;refine fJ ?_;refine aA ?_;refine dU 0 (Bw f h s (nV y 0 (qA p z.many)).2) (fun w1 F1 t h1 h2 h3=>aQ3 f h s y 0 Am _ cm (qA p z.many) w1 F1 h1 h2 (hmw.le (h3 _ (by simp))) rfl (by simp[qA])) ?_;refine aA ?_;refine aG rfl (fun h0=>?_) (fun h0=>?_)
  ·rw[if_pos h0];refine aA ?_;refine fG rfl rfl ?_ (hs:=fB.mk 2 rfl cJ.h rfl (of_decide_eq_true rfl));dsimp only[List.set];rw[show(kY h f L s z).set (0+51) (.bool true)=kY h f L s {z with sent:=true} from rfl];refine aA ?_;refine kd (Nn (i:=z.many) (j:=1) (c:=z.many+1) rfl rfl (iR (by omega))) ?_;refine kd (aIU (i:=z.many+1) (j:=1024) (c:=(z.many+1) % 1024) rfl rfl (by decide) (rem_in (by omega))) ?_;refine aA ?_;refine fG rfl rfl ?_ (hs:=fB.mk 2 rfl cJ.h rfl (of_decide_eq_true rfl));dsimp only[List.set];rw[show(kY h f L s {z with sent:=true}).set (0+54) (iv ((z.many+1) % 1024))=kY h f L s {z with sent:=true,many:=(z.many+1) % 1024} from rfl];refine aA ?_;refine aN 3 1 ?_;refine aN 1 5 ?_;refine aN 0 0 ?_;refine fC 0 (fun L:dN=>fM g h f L s {z with sent:=true,many:=(z.many+1) % 1024}) L ?_;refine aN 0 0 ?_;subst cK;exact jZ 0 hF
  ·rw[if_neg h0];refine aA ?_;refine aN 3 1 ?_;refine aN 1 5 ?_;refine aN 0 0 ?_;refine fC 0 (fun L:dN=>fM g h f L s z) L ?_;refine aN 0 0 ?_;subst cK;exact jZ 0 hF
 ·cases hr:oK y 0 with
  | none =>
   have Xh:qL z y j=(z,oJ y 0):=by
    unfold qL;rw[if_pos hse,hr]
   rw[Xh];refine aA ?_
   refine zI (α:=AC) 0 (f:=95) (fi:=[]) (ca:=[]) (fun c=>Uz none c) (fun c=>Jg f h s (oJ y 0) [] c) (fun _=>True) (by kernel_rfl) rfl rfl rfl (by decide) (fun w1 F1 t h1 h2 h3=>by
    have:=aI5 f h s y 0 w1 F1 h1 h2
    rw[hr] at this
    exact this) ?_
   rintro⟨Ar,cr⟩ _;dsimp only[List.set,Uz];refine bF 0 0 ?_;refine aY [0,2,3,4,5] rfl (by decide) (fun _ h=>h) ?_;refine aA ?_;refine aN 3 1 ?_;refine aN 1 5 ?_;refine aN 0 0 ?_;refine fC 0 (fun L:dN=>fM g h f L s z) L ?_;refine aN 0 0 ?_;subst cK;exact jZ 0 hF
  | some a =>
   have Xh:qL z y j=(if(sH z a).steps.length=0 then kD (sH z a) j 0 0 else sH z a,oJ y 0):=by
    unfold qL;rw[if_pos hse,hr]
   rw[Xh]
   have vU:=hra a hr
   have ha1:a[1]? =some (a.getD 1 0):=by rw[List.getD_eq_getElem?_getD,List.getElem?_eq_getElem (by omega)];rfl
   refine aA ?_
   refine zI (α:=AC) 0 (f:=95) (fi:=[]) (ca:=[]) (fun c=>Uz (some a) c) (fun c=>Jg f h s (oJ y 0) a c) (fun _=>True) (by kernel_rfl) rfl rfl rfl (by decide) (fun w1 F1 t h1 h2 h3=>by
    have:=aI5 f h s y 0 w1 F1 h1 h2
    rw[hr] at this
    exact this) ?_
   rintro⟨Ar,cr⟩ _;dsimp only[List.set,Uz];refine bF 0 0 ?_;refine bF 1 1 ?_;refine aY [1,3,4,5,6,0] rfl (by decide) (fun _ h=>h) ?_;refine aA ?_;refine fG rfl rfl ?_ (hs:=fB.mk 2 rfl cJ.h rfl (of_decide_eq_true rfl));dsimp only[List.set];refine aA ?_;refine aU (fun w1 t=>aLA Ar _ cr a _ w1 (t.bT 5 rfl) rfl vU ha1) ?_;generalize vQ:IntKind.i32.wrap (a.getD 1 0)=sv;rw[show(kY h f L s z).set (0+51) (.bool false)=kY h f L s {z with sent:=false} from rfl];refine aA ?_;refine bU (t:=73) rfl (fun h0=>?_) (fun h0=>?_)
   ·rw[aFY (show Jb a from .inl (vQ.trans h0))];refine aA ?_;refine kd (aIS (n:=z.steps.length) (l:=1) rfl rfl (by omega)) ?_;refine aA ?_;refine fG rfl rfl ?_ (hs:=fB.mk 2 rfl cJ.h rfl (of_decide_eq_true rfl));dsimp only[List.set];refine aJT 2 rfl (aG2 (z:={z with sent:=false}) hst) ?_;dsimp only[List.set];refine Bh (q:=HP.bT (oA (Hw L) z.steps.tail) (oA.le (L:=Hw L) (l:=z.steps.tail))) 1 rfl (fun F w hs=>oA.tail hst hs) ?_;dsimp only[List.set];refine aA ?_;refine aN 3 1 ?_;refine aN 1 5 ?_;refine aN 0 0 ?_;refine xB 0 (f:=fun L:dN=>fM g h f L s {z with sent:=false,steps:=z.steps.tail}) (Hw L) rfl ?_;dsimp only[List.set];refine aA ?_;refine aG rfl (fun hn=>?_) (fun hn=>?_)
    ·rw[if_pos (Int.ofNat.inj hn)];refine aA ?_;refine kd (fZ rfl) ?_;refine aA ?_;refine dU 0 (gE g h f s (kD {z with sent:=false,steps:=z.steps.tail} j 0 0)) (fun w1 F1 t h1 h2 h3=>Jd g h f s {z with sent:=false,steps:=z.steps.tail} w1 F1 j hh hj 0 0 h1 h2) ?_;refine aN 0 0 ?_;subst cK;exact jZ 0 hF
    ·rw[if_neg (fun h=>hn (congrArg Int.ofNat h))];refine aA ?_;refine aN 0 0 ?_;subst cK;exact jZ 0 hF
   ·refine aA ?_;refine aG rfl (fun h3=>?_) (fun h3=>?_)
    ·rw[aFY (show Jb a from .inr (vQ.trans h3))];refine aA ?_;refine kd (aIS (n:=z.steps.length) (l:=1) rfl rfl (by omega)) ?_;refine aA ?_;refine fG rfl rfl ?_ (hs:=fB.mk 2 rfl cJ.h rfl (of_decide_eq_true rfl));dsimp only[List.set];refine aJT 2 rfl (aG2 (z:={z with sent:=false}) hst) ?_;dsimp only[List.set];refine Bh (q:=HP.bT (oA (Hw L) z.steps.tail) (oA.le (L:=Hw L) (l:=z.steps.tail))) 1 rfl (fun F w hs=>oA.tail hst hs) ?_;dsimp only[List.set];refine aA ?_;refine aN 3 1 ?_;refine aN 1 5 ?_;refine aN 0 0 ?_;refine xB 0 (f:=fun L:dN=>fM g h f L s {z with sent:=false,steps:=z.steps.tail}) (Hw L) rfl ?_;dsimp only[List.set];refine aA ?_;refine aG rfl (fun hn=>?_) (fun hn=>?_)
     ·rw[if_pos (Int.ofNat.inj hn)];refine aA ?_;refine kd (fZ rfl) ?_;refine aA ?_;refine dU 0 (gE g h f s (kD {z with sent:=false,steps:=z.steps.tail} j 0 0)) (fun w1 F1 t h1 h2 h3=>Jd g h f s {z with sent:=false,steps:=z.steps.tail} w1 F1 j hh hj 0 0 h1 h2) ?_;refine aN 0 0 ?_;subst cK;exact jZ 0 hF
     ·rw[if_neg (fun h=>hn (congrArg Int.ofNat h))];refine aA ?_;refine aN 0 0 ?_;subst cK;exact jZ 0 hF
    ·rw[aL0 (show ¬Jb a from fun h=>h.elim (fun h=>h0 (vQ▸h)) (fun h=>h3 (vQ▸h)))];refine aA ?_;refine aN 3 1 ?_;refine aN 1 5 ?_;refine aN 0 0 ?_;refine fC 0 (fun L:dN=>fM g h f L s {z with sent:=false}) L ?_;refine aA ?_;refine aG rfl (fun hn=>?_) (fun hn=>?_)
     ·rw[if_pos (Int.ofNat.inj hn)];refine aA ?_;refine kd (fZ rfl) ?_;refine aA ?_;refine dU 0 (gE g h f s (kD {z with sent:=false} j 0 0)) (fun w1 F1 t h1 h2 h3=>Jd g h f s {z with sent:=false} w1 F1 j hh hj 0 0 h1 h2) ?_;refine aN 0 0 ?_;subst cK;exact jZ 0 hF
     ·rw[if_neg (fun h=>hn (congrArg Int.ofNat h))];refine aA ?_;refine aN 0 0 ?_;subst cK;exact jZ 0 hF
end
end
section
theorem Lx(w:World):CallsD Tryz.prog 46 #[] .returning w fun e u' w'=>e=.returned (.tuple #[])∧u'=.returning∧w'=w:=by
 refine callsD_of_wpS func46 rfl fun c₀ cs hu=>?_;apply wpS_region;simp[wpOpsS,go_sem,recoverD,hu,ntmps46,Exit.thenS];cases c₀;simp_all [bodyPostS,results,Tryz.results46]
def aCi(g f:Nat)(hL:HL)(s:aD)(z:aW)(y:bX)(x:aO):HP:=HP.many [gE g hL.h f s z,Bw f hL.h s y,dS hL s x]
structure aKk(s:aD)(z:aW)(y:bX):Prop where
 ok:Tm s z
 call:∀j,T3 j→(z.tk j).st=1→tF (z.tk j).kind
 work:∀j:Nat,T3 j→(z.tk j).st=2→z.eW=(j:Int)∧(z.aR=false→z.steps≠[])
 many:0≤z.many∧z.many < 1024
 pack:∀p∈z.steps,(eA p.msg 0 p.pr z.many).2=0
 ans:∀a,oK y 0=some a→2≤a.length
def Eh(s:aD)(z:aW)(y:bX)(x:aO)(t:Int):aW×bX×aO:=
 if bN 3 t=false then(z,y,x)
 else if(z.tk t.toNat).st=1 then(if z.eW < 0 then((pF s x z t.toNat).1,y,(pF s x z t.toNat).2) else(z,y,x))
 else if(z.tk t.toNat).st=2 then(if z.aR=false then((qL z y t.toNat).1,(qL z y t.toNat).2,x) else(z,y,x))
 else(z,y,x)
theorem aMq(g f:Nat)(hL:HL)(s:aD)(z:aW)(y:bX)(x:aO)(w:World)(F:Nat→Prop)(t:Int)(hm:s.made)(aV:gX hL s)(hx:z.eW < 0→HwP s x)(hz:aKk s z y)(hp:(aCi g f hL s z y x).sat F w)(hF:∀b,F b→b < w.heap.size)(eY:jS ⟨w,fun b=>b < w.heap.size∧¬F b⟩):
  Cz 19 #[pt g,iv t] w (fun v w'=>v=.returned (.tuple #[])∧∃F',(aCi g f hL s (Eh s z y x t).1 (Eh s z y x t).2.1 (Eh s z y x t).2.2).sat F' w'∧iE w w' F F'):=by
 unfold Eh;refine Zl (vs:=[pt g,iv t]) (p:=aCi g f hL s z y x) func19 rfl ntmps19 (by simp) hp hF ?_;generalize cK:(⟨w,fun b=>b < w.heap.size∧¬F b⟩:Piece)=R0 at eY⊢;refine aA ?_;refine Tv (f:=46) (fi:=[]) (ca:=[]) rfl ?_;refine aA ?_;refine aU (fun w1 _=>aA4 t w1) ?_;cases hin:bN 3 t
 ·refine aA ?_;subst cK;exact Bj (.inl rfl) (by kernel_rfl) Lx rfl fun w1 t=>⟨rfl,t.turns hF (by simp) (i:=0) rfl⟩
 ·obtain⟨j,rfl,hj⟩:=Qn hin
  have hj2:j≤2:=by rcases hj with rfl | rfl | rfl<;>decide
  rw[if_neg (by simp),Int.toNat_natCast];refine bF 0 0 ?_;refine lV 0 fun L=>?_;refine aA ?_;refine kd (gN j (10+13*j) (ho:=by omega)) ?_;refine aA ?_;refine kd (bM rfl (pH 0 rfl (Ck (k:=0) hj rfl))) ?_;refine aA ?_;refine aG rfl (fun h1=>?_) (fun h1=>?_)
  ·rw[if_pos h1];refine aA ?_;refine kd (bM rfl (pH 0 rfl rfl)) ?_;refine aA ?_;refine fC 0 (fun L:dN=>fM g hL.h f L s z) L ?_;refine aN 0 0 ?_;refine aG rfl (fun h2=>?_) (fun h2=>?_)
   ·rw[if_pos h2];refine bF 0 0 ?_;refine bF 1 2 ?_;refine aY [1,0,2] rfl (by decide) (fun _ h=>h) ?_;refine nG ?_;refine aA ?_;refine dU 0 (Ld g f hL s (pF s x z j).1 (pF s x z j).2) (fun w1 F1 t Xl Xk h3=>aMy g f hL s z x w1 F1 j hm aV (hx h2) hz.ok hj (hz.call j hj h1) Xl Xk (jS.le eY (h3 _ (by simp)))) ?_;refine bF 0 0 ?_;refine bF 1 1 ?_;refine aN 2 2 ?_;refine aN 1 0 ?_;refine aA ?_;subst cK;exact Bj (.inr rfl) (by kernel_rfl) Lx rfl fun w1 t=>⟨rfl,t.turns hF (by simp) (i:=1) rfl⟩
   ·rw[if_neg h2];refine aA ?_;subst cK;exact Bj (.inr rfl) (by kernel_rfl) Lx rfl fun w1 t=>⟨rfl,t.turns hF (by simp) (i:=0) rfl⟩
  ·rw[if_neg h1];refine aA ?_;refine aG rfl (fun h2=>?_) (fun h2=>?_)
   ·rw[if_pos h2];obtain⟨hh,hne⟩:=hz.work j hj h2;refine aA ?_;refine kd (bM rfl (pH 0 rfl rfl)) ?_;cases lQ:z.aR
    ·refine aA ?_;refine fC 0 (fun L:dN=>fM g hL.h f L s z) L ?_;refine aN 0 0 ?_;refine bF 0 0 ?_;refine bF 1 1 ?_;refine aY [1,0,2] rfl (by decide) (fun _ h=>h) ?_;refine nG ?_;refine aA ?_;refine dU 0 (aFe g hL.h f s (qL z y j).1 (qL z y j).2) (fun w1 F1 t Xl Xk h3=>aM1 g hL.h f s z y w1 F1 j hh hj (hne lQ) hz.many hz.pack hz.ans Xl Xk) ?_;refine bF 0 0 ?_;refine bF 1 1 ?_;refine aN 2 1 ?_;refine aN 1 0 ?_;refine aA ?_;subst cK;exact Bj (.inr rfl) (by kernel_rfl) Lx rfl fun w1 t=>⟨rfl,t.turns hF (by simp) (i:=1) rfl⟩
    ·refine aA ?_;refine fC 0 (fun L:dN=>fM g hL.h f L s z) L ?_;refine aN 0 0 ?_;subst cK;exact Bj (.inr rfl) (by kernel_rfl) Lx rfl fun w1 t=>⟨rfl,t.turns hF (by simp) (i:=0) rfl⟩
   ·rw[if_neg h2];refine aA ?_;refine fC 0 (fun L:dN=>fM g hL.h f L s z) L ?_;refine aN 0 0 ?_;subst cK;exact Bj (.inr rfl) (by kernel_rfl) Lx rfl fun w1 t=>⟨rfl,t.turns hF (by simp) (i:=0) rfl⟩
end
section
def Bf(z:aW)(a:mW):aW:=if z.aR=false then z else if a.id≠z.id then z else if a.dead=true then kD z z.eW.toNat 6 0 else kD z z.eW.toNat 0 a.val
def wZ(z:aW)(l:List mW):aW:=l.foldl Bf z
def Om(z:aW):Prop:=z.aR=true→∃j:Nat,z.eW=(j:Int)∧T3 j
theorem aSN{z:aW}{a:mW}(h:Om z):Om (Bf z a):=by
 unfold Bf;split
 ·exact h
 split
 ·exact h
 split
 ·intro h1;cases h1
 ·intro h1;cases h1
theorem aST{l:List mW}:∀{z:aW},Om z→Om (wZ z l):=by
 induction l with
 | nil=>exact fun h=>h
 | cons a l ih=>exact fun h=>ih (aSN h)
theorem aSS{z:aW}{l:List mW}{i:Nat}{a:mW}(h:l[i]? =some a):wZ z (l.take (i+1))=Bf (wZ z (l.take i)) a:=by
 obtain⟨hi,rfl⟩:=List.getElem?_eq_some_iff.1 h;unfold wZ;rw[List.take_succ_eq_append_getElem hi,List.foldl_append];rfl
theorem aSM{l:List mW}{i k:Nat}{a:mW}{v:Value}(h:l[i]? =some a)(hv:a.cells[k]? =some v):(l.flatMap mW.cells)[i*4+k]? =some v:=by
 induction l generalizing i with
 | nil=>simp at h
 | cons x l ih =>
  cases i with
  | zero=>
   simp at h;subst h;rw[Nat.zero_mul,Nat.zero_add,List.flatMap_cons,List.getElem?_append_left (List.getElem?_eq_some_iff.1 hv).1];exact hv
  | succ i=>
   rw[List.getElem?_cons_succ] at h;rw[List.flatMap_cons,show(i+1)*4+k=x.cells.length+(i*4+k) by simp[mW.cells];omega,List.getElem?_append_right (by omega),Nat.add_sub_cancel_left];exact ih h
theorem aM0(g h f:Nat)(s:aD)(z:aW)(w:World)(F:Nat→Prop)(A:Option Addr)(c:Nat)(l:List mW)(hl:l.length≤1000)(aPh:Om z)(hp:(gE g h f s z).sat F w)(hF:∀b,F b→b < w.heap.size)(hs:aI ⟨w,fun b=>b < w.heap.size∧¬F b⟩ 4 A l.length (l.flatMap mW.cells)):
  Cz 21 #[pt g,.slice A l.length c] w (fun v w'=>v=.returned (.tuple #[])∧∃F',(gE g h f s (wZ z l)).sat F' w'∧iE w w' F F'):=by
 refine dJ func21 ntmps21 hp hF ?_;generalize cK:(⟨w,fun b=>b < w.heap.size∧¬F b⟩:Piece)=R0 at hs⊢;refine aA ?_;refine bJ [(8,iv 0),(7,iv l.length),(6,.slice A l.length c),(0,pt g),(1,.slice A l.length c)] ?_;refine eI (fun m e R H=>∃i:Nat,i≤l.length∧m=l.length - i∧e=[(8,iv i),(7,iv l.length),(6,.slice A l.length c),(0,pt g),(1,.slice A l.length c)]∧R=[R0]∧H=[gE g h f s (wZ z (l.take i))]) l.length ⟨0,by omega,rfl,rfl,rfl,rfl⟩ fun m e R H hI=>?_;obtain⟨i,hi,rfl,rfl,rfl,rfl⟩:=hI;refine aA ?_;refine aG rfl (fun hlt=>?_) (fun hge=>?_)
 ·have hlt:i < l.length:=by omega
  obtain⟨a,ha⟩:=get_some hlt;obtain⟨b,off,rfl,gZ,hc⟩:=hs.2 (by omega)
  have dV:=aSS (z:=z) ha
  have aHW:Om (wZ z (l.take i)):=aST aPh
  generalize wZ z (l.take i)=zi at dV aHW⊢;obtain⟨So,Yx,Nt,Kw⟩:=a;refine aA ?_;refine kd (dat i (off+i*4)) ?_;refine kd (oZ rfl (aQ.of (vs:=[iv So,iv Yx,.bool Nt,.int .u32 Kw]) fun k v hv=>Rd.ro (p:=R0) (by simp) gZ (by rw[Nat.add_assoc];exact hc _ _ (aSM ha hv)))) ?_;refine bR fun g1=>?_;refine aA ?_;refine lV 1 fun L=>?_;refine mG ?_;refine iZ ?_;refine xA (bM rfl (pH 1 rfl rfl)) ?_;cases lQ:zi.aR
  ·have hst:Bf zi ⟨So,Yx,Nt,Kw⟩=zi:=if_pos lQ
   refine jA ?_;refine fC 1 (fun L:dN=>fM g h f L s zi) L ?_;refine aA ?_;refine aY [1] rfl (by decide) (fun _ h=>h) ?_;refine bJ [(8,iv (i+1:Nat)),(7,iv l.length),(6,.slice (some ⟨b,off,none⟩) l.length c),(0,pt g),(1,.slice (some ⟨b,off,none⟩) l.length c)] ?_;exact iC (l.length - (i+1)) (by omega) ⟨i+1,by omega,rfl,rfl,rfl,by rw[dV,hst];rfl⟩
  ·obtain⟨j,hj,hj3⟩:=aHW lQ
   have Fe:0≤zi.eW:=by omega
   have Mm:Bf zi ⟨So,Yx,Nt,Kw⟩=if So≠zi.id then zi else if Nt=true then kD zi zi.eW.toNat 6 0 else kD zi zi.eW.toNat 0 Kw:=if_neg (by rw[lQ];simp)
   refine iZ ?_;refine xA (bM rfl (pH 1 rfl rfl)) ?_;refine jA ?_;refine fC 1 (fun L:dN=>fM g h f L s zi) L ?_;refine aA ?_;refine aG rfl (fun hne=>?_) (fun hne=>?_)
   ·rw[if_pos hne] at Mm;refine aA ?_;refine aY [1] rfl (by decide) (fun _ h=>h) ?_;refine bJ [(8,iv (i+1:Nat)),(7,iv l.length),(6,.slice (some ⟨b,off,none⟩) l.length c),(0,pt g),(1,.slice (some ⟨b,off,none⟩) l.length c)] ?_;exact iC (l.length - (i+1)) (by omega) ⟨i+1,by omega,rfl,rfl,rfl,by rw[dV,Mm];rfl⟩
   ·rw[if_neg hne] at Mm;refine aA ?_;cases Nt
    ·refine aB ?_;refine dU 1 (gE g h f s (kD zi zi.eW.toNat 0 Kw)) (fun w1 F1 t h1 h2 h3=>Jd g h f s zi w1 F1 zi.eW.toNat (by omega) (by rw[hj,Int.toNat_natCast];exact hj3) 0 Kw h1 h2) ?_;refine aA ?_;refine aY [1] rfl (by decide) (fun _ h=>h) ?_;refine bJ [(8,iv (i+1:Nat)),(7,iv l.length),(6,.slice (some ⟨b,off,none⟩) l.length c),(0,pt g),(1,.slice (some ⟨b,off,none⟩) l.length c)] ?_;exact iC (l.length - (i+1)) (by omega) ⟨i+1,by omega,rfl,rfl,rfl,by rw[dV,Mm];rfl⟩
    ·refine aB ?_;refine dU 1 (gE g h f s (kD zi zi.eW.toNat 6 0)) (fun w1 F1 t h1 h2 h3=>Jd g h f s zi w1 F1 zi.eW.toNat (by omega) (by rw[hj,Int.toNat_natCast];exact hj3) 6 0 h1 h2) ?_;refine aA ?_;refine aY [1] rfl (by decide) (fun _ h=>h) ?_;refine bJ [(8,iv (i+1:Nat)),(7,iv l.length),(6,.slice (some ⟨b,off,none⟩) l.length c),(0,pt g),(1,.slice (some ⟨b,off,none⟩) l.length c)] ?_;exact iC (l.length - (i+1)) (by omega) ⟨i+1,by omega,rfl,rfl,rfl,by rw[dV,Mm];rfl⟩
 obtain rfl:i=l.length:=by omega
 rw[List.take_length];refine aA ?_;subst cK;exact jZ 0 hF
end
section
section
variable(s:aD)(A1 A2 A3 A4:Option Addr)(n1 k1 n2 k2 n3 k3 n4 k4:Nat)(w:World)
def aK7(s:aD)(v:Value)(hs:List HP)(_:Piece):Prop:=∃gc gm A k,v=.tuple #[pt gc,iv 0]∧hs=[Ll gc gm A k (cQ s) ⟨[],false⟩]
theorem aRT(hm:s.made)(hW:fE w s A1 n1 A2 n2 A3 n3 A4 n4):
  Cz 24 #[.agg #[.slice A1 n1 k1,.slice A2 n2 k2,.slice A3 n3 k3,.slice A4 n4 k4]] w (fun y w'=>(∃v hs q,y=.returned v∧q.w=w'∧aK7 s v hs q∧kA w hs q)∧Below w.heap.size w w'):=by
 obtain rfl:=hW.mZ;obtain rfl:=hW.nL;obtain rfl:=hW.pM;obtain rfl:=hW.nK;refine aL func24 ntmps24 ?_;refine aA ?_;refine bA fun g1=>?_;refine aA ?_;refine aU (fun w1 t=>Sk s A1 A2 A3 A4 _ k1 _ k2 _ k3 _ k4 w1 (hW.le (t.started (by simp))) (aAQ hm)) ?_;refine aA ?_;refine jP [] (wF (cQ s)) (fun w1 t=>aHp s A1 A2 A3 A4 _ k1 _ k2 _ k3 _ k4 w1 (hW.le (t.started (by simp)))) ?_;rintro _ w1 q1 ⟨Ag,cg,rfl,lD⟩ hf _ hfr
 have lD:=lD.le hf
 refine Im (Φ:=Dp Ag (cQ s)) (hm:=Dp.le) (hfr (by simp)) (by simp[all]) lD ?_;refine aAh (by decide) fun gm=>?_;refine kd (fZ rfl) ?_;refine bA fun g2=>?_;refine aA ?_;refine aY [0,1,2] rfl (by decide) (R':=[all w]) (by simp) ?_;refine nG ?_;refine nG ?_;refine dP [] [] [0] (by simp) rfl (by decide) (by decide) fun q _ _ hfr=>?_;exact eK rfl rfl rfl fun w1 t=>⟨⟨_,_,⟨w1,q.Z⟩,rfl,rfl,⟨g2,gm,Ag,cg,rfl,rfl⟩,t.newR (by simp) (by simp) (hfr (by simp) (by simp))⟩,t.below (by simp)⟩
def Jc(s:aD):aW:={rp0 s with wn:=eT s []}
def aKi(h f:Nat)(s:aD)(v:Value)(hs:List HP)(_:Piece):Prop:=∃g,v=.tuple #[pt g,iv 0]∧hs=[gE g h f s (Jc s)]
theorem aMn(h f:Nat)(hm:s.made)(hW:fE w s A1 n1 A2 n2 A3 n3 A4 n4):
  Cz 36 #[pt h,pt f,.agg #[.slice A1 n1 k1,.slice A2 n2 k2,.slice A3 n3 k3,.slice A4 n4 k4]] w (fun y w'=>(∃v hs q,y=.returned v∧q.w=w'∧aKi h f s v hs q∧kA w hs q)∧Below w.heap.size w w'):=by
 obtain rfl:=hW.mZ;obtain rfl:=hW.nL;obtain rfl:=hW.pM;obtain rfl:=hW.nK;refine aL func36 ntmps36 ?_;refine aA ?_;refine bA fun g1=>?_;refine aA ?_;refine iW (aK7 s) (fun w1 t=>aRT s A1 A2 A3 A4 _ k1 _ k2 _ k3 _ k4 w1 hm (hW.le (t.started (by simp)))) ?_;rintro _ _ q0 ⟨gc,gm,Ag,cg,rfl,rfl⟩ _;dsimp only[List.cons_append,List.nil_append];refine aY [0,1] rfl (by decide) (R':=[all w]) (by simp) ?_;refine aA ?_
 refine jP [] (fun v w w'=>aCo s v w w') (fun w1 t=>aE2 s A1 A2 A3 A4 _ k1 _ k2 _ k3 _ k4 w1 (hW.le (t.started (by simp))) (fun d hd=>by
  obtain⟨j,hj⟩:=List.getElem?_of_mem hd
  have:=(hm.aC j d hj).2.2.2.2.2.2.2.2.1
  omega)) ?_
 rintro _ w1 q1 ⟨cs,rfl,hcs⟩ Cq _ qH
 have qH:=qH (by simp)
 obtain⟨B1,m1,j1,B2,m2,j2,B3,m3,j3,B4,m4,j4,rfl,hsp⟩:=wB.P hcs
 have hsp:=hsp.le Cq
 obtain⟨rfl,rfl,rfl,rfl⟩:=hsp.len;refine Im (Φ:=mT ⟨(B1,j1),(B2,j2),(B3,j3),(B4,j4),gc,gm,(Ag,cg),(none,0),(none,0),(none,0),(none,0)⟩ s) (hm:=mT.le) qH (by simp[all]) hsp ?_;refine aA ?_;refine kd (fZ rfl) ?_;refine bA fun g=>?_;refine aA ?_;refine kd (oZ rfl (Zy (vs:=[_,_,_,_]) 0 rfl rfl)) ?_;refine iW (Zt (eT s [])) (fun w1 t=>aAo (all w1) s B1 B2 B3 B4 _ j1 _ j2 _ j3 _ j4 none 0 [] w1 (t.bT 1 rfl) hm (Piece.Le.refl _) (aI.nil _ _)) ?_;rintro _ _ q2 ⟨ga,gb,gd,px,rfl,rfl⟩ _;dsimp only[List.cons_append,List.nil_append];refine aA ?_;refine Qj 2 rfl ?_;dsimp only[List.set];refine aA ?_;obtain⟨L',hL'⟩:∃L':dN,L'=⟨(B1,j1),(B2,j2),(B3,j3),(B4,j4),gc,gm,(Ag,cg),(some ⟨ga,0,none⟩,(eT s []).d.length),(some ⟨gb,0,none⟩,(eT s []).c.length),(some ⟨gd,0,none⟩,(eT s []).l.length),(none,0)⟩:=⟨_,rfl⟩
 refine Bh (q:=HP.bT (uW L' (eT s [])) (uW.le (L:=L') (x:=eT s []))) 0 rfl (fun F w hs=>?_) ?_
 ·obtain⟨G,k1,k2,_⟩:=hs;subst hL';exact⟨sW (c:=0) (k1 0 _ rfl) (fun b hb=>k2 0 b hb) (by simp[bE]),sW (c:=0) (k1 1 _ rfl) (fun b hb=>k2 1 b hb) (by simp[bE]),sW (c:=0) (k1 2 _ rfl) (fun b hb=>k2 2 b hb) (by simp[bE])⟩
 dsimp only[List.set];refine Bm (p:=HP.bT (oA L' []) (oA.le (L:=L') (l:=[]))) (fun w=>by subst hL';exact⟨aI.nil _ _,Nat.le_refl _⟩) ?_;refine bF 5 0 ?_;refine bF 6 1 ?_;refine aY [5,6,3,1,0,2] rfl (by decide) (R':=[all w]) (by simp) ?_;refine nG ?_;refine uV ?_;refine uV ?_;refine uV ?_;refine uV ?_;refine xB 0 (f:=fun L:dN=>fM g h f L s (Jc s)) L' (by subst hL';rfl) ?_;dsimp only[List.set];refine dP [] [] [0] (by simp) rfl (by decide) (by decide) fun q _ _ hfr=>?_;exact eK rfl rfl rfl fun w1 t=>⟨⟨_,_,⟨w1,q.Z⟩,rfl,rfl,⟨g,rfl,rfl⟩,t.newR (by simp) (by simp) (hfr (by simp) (by simp))⟩,t.below (by simp)⟩
end
end
section
section
variable{s:aD}{x:aO}{z:bX}{b:Nat}{m:List Int}{k id:Int}
theorem aGM(hu:wA m)(h:(dZ s m).1=0):tU m:=by
 cases m with
 | nil=>exact absurd h (by show ¬((-10:Int)=0);decide)
 | cons w r =>
  unfold dZ at h;dsimp only at h;split at h
  ·exact absurd h (by decide)
  ·rename_i h1
   split at h
   ·exact absurd h (by decide)
   ·split at h
    ·exact absurd h (by decide)
    ·rename_i h3
     have hz:cM w 28 4=0:=by
      refine Classical.byContradiction fun hc=>h1 (.inl ?_);unfold uD;rw[if_pos hc];decide
     refine⟨⟨w,r,rfl,hz,fun hh=>?_⟩⟩
     have hp:eE w=cM w 10 8:=by rw[eE,if_neg (by simp[hz])]
     have hmm:eM w=cM w 0 8:=by rw[eM,if_neg (by simp[hz])]
     have hn:(eG (eE w) (eM w)).n=1:=by
      rw[hp,hmm];rcases hh with⟨a,b⟩ | ⟨a,b⟩<;>rw[a,b]<;>rfl
     rw[hn] at h3
     have h4:r.length=1:=by omega
     obtain⟨i,rfl⟩:=List.length_eq_one_iff.1 h4;exact⟨i,rfl,hu i (by simp)⟩
end
end
section
theorem aPz:([(4,17),(7,20),(4,22)]:List (Int×Int)).all (fun q=>(List.range 1024).all fun k=>aDR q.1 q.2 k)=true:=by decide+kernel
def Og(p:cZ):Prop:=(p.msg=4∧p.pr=17)∨(p.msg=7∧p.pr=20)∨(p.msg=4∧p.pr=22)
theorem aDQ{p:cZ}(h:Og p){k:Int}(h0:0≤k)(h1:k < 1024):(eA p.msg 0 p.pr k).2=0∧cM (eA p.msg 0 p.pr k).1 28 4=0∧cM (eA p.msg 0 p.pr k).1 0 8=p.msg∧cM (eA p.msg 0 p.pr k).1 8 2=0∧cM (eA p.msg 0 p.pr k).1 10 8=p.pr:=by
 have ha:=aPz
 rw[List.all_eq_true] at ha;obtain⟨n,rfl⟩:∃n:Nat,k=n:=⟨k.toNat,by omega⟩
 have key:aDR p.msg p.pr (n:Int)=true:=by
  have h2:=ha (p.msg,p.pr) (by
   obtain⟨pr,msg,id,v⟩:=p;dsimp only[Og] at h⊢
   rcases h with⟨rfl,rfl⟩ | ⟨rfl,rfl⟩ | ⟨rfl,rfl⟩<;>simp)
  rw[List.all_eq_true] at h2;exact h2 n (List.mem_range.2 (by omega))
 obtain⟨e1,e2,e3,e4,e5,_⟩:=of_decide_eq_true key;exact⟨e1,e2,e3,e4,e5⟩
theorem aN6(m t p k:Int):0≤(eA m t p k).1∧(eA m t p k).1 < 4294967296:=by
 unfold eA
 repeat' split
 all_goals first | exact aGT _ _ _ _ | exact⟨Int.le_refl 0,(by decide:(0:Int) < 4294967296)⟩
theorem aSX{s:aD}{x y:bK}:∀p∈allM s x y,Og p:=by
 intro p hp;unfold allM uU at hp;simp only[List.mem_append,jT,List.mem_map] at hp;rcases hp with⟨i,_,rfl⟩ | ⟨i,_,rfl⟩ | ⟨i,_,rfl⟩ | ⟨i,_,rfl⟩ | ⟨i,_,rfl⟩ | ⟨i,_,rfl⟩
 all_goals simp[Og]
theorem aSJ{s:aD}{x:aO}{l:List Int}{st:Int}(hl:wA l):wA (Di s x l st):=by
 have h0:0≤l.headD 0∧l.headD 0 < 4294967296:=by
  cases l with
  | nil=>exact⟨by decide,by decide⟩
  | cons a r=>exact hl a (by simp)
 have hm : wA (pL s x l) := by
  intro v hv;unfold pL at hv;dsimp only at hv;split at hv
  ·simp at hv;subst hv;decide
  ·split at hv
   ·simp at hv;subst hv;exact Pg _
   ·split at hv
    ·simp at hv;subst hv;unfold Ji
     repeat' split
     all_goals decide
    ·split at hv
     ·simp at hv;rcases hv with rfl | rfl<;>exact Pg _
     ·cases hv
 intro v hv;unfold Di at hv;rw[List.mem_cons,List.mem_cons] at hv;rcases hv with rfl | rfl | hv
 ·exact h0
 ·exact Pg _
 ·split at hv
  ·exact hm v hv
  ·cases hv
theorem aSK{s:aD}{x:aO}{l:List Int}{st:Int}:2≤(Di s x l st).length∧(Di s x l st).length≤4:=by
 have:=aHx s x l
 unfold Di;split<;>simp<;>omega
theorem aJc{s:aD}{x y:bK}{wt:List Int}{ag:Nat}{l:List Int}(hu:wA l):((jG s x y wt ag l).2.1=0∧((jG s x y wt ag l).1=0→tU l))∨((jG s x y wt ag l).1=0∧(jG s x y wt ag l).2=(dZ s l).2∧(dZ s l).1=0∧(jG s x y wt ag l).2.1≠0∧tU l∧Dq s (jG s x y wt ag l).2.1 (jG s x y wt ag l).2.2):=by
 unfold jG
 by_cases h:(dZ s l).1≠0∨(dZ s l).2.1=0∨pI (if ag=0 then x else y) (dZ s l).2.1 (dZ s l).2.2=decide (rP (dZ s l).2.1)
 ·rw[if_pos h];exact .inl ⟨rfl,fun h=>aGM hu h⟩
 ·rw[if_neg h]
  have h1:(dZ s l).1=0:=Classical.byContradiction fun hc=>h (.inl hc)
  have h2:(dZ s l).2.1≠0:=fun hc=>h (.inr (.inl hc))
  have hr:=aGM hu h1
  have hk:Dq s (dZ s l).2.1 (dZ s l).2.2:=by
   rcases aGN (s:=s) hu with⟨h0,_⟩ | ⟨_,hk,oU,hi1,_,_⟩
   ·exact absurd h0 h2
   ·refine⟨by unfold Vr at hk;omega,fun h99=>⟨oU,?_⟩⟩;rw[h99] at hi1
    simpa[tC,Ql] using hi1
  have no:∀e:Int,e≠0→e=0→tU l:=fun _ h k=>absurd k h
  by_cases ho:rP (dZ s l).2.1
  ·rw[if_pos ho];split
   ·exact .inl ⟨rfl,no _ (by decide)⟩
   ·exact .inr ⟨rfl,rfl,h1,h2,hr,hk⟩
  ·rw[if_neg ho];split
   ·exact .inl ⟨rfl,no _ (by decide)⟩
   ·split
    ·exact .inl ⟨rfl,no _ (by decide)⟩
    ·exact .inr ⟨rfl,rfl,h1,h2,hr,hk⟩
theorem aJI(s:aD)(x:aO)(k id:Int):(nF s x k id).1.wt=x.wt∧(nF s x k id).1.aR=x.aR:=by
 unfold nF Eo Kv Gl uH Kx
 repeat' split
 all_goals exact⟨rfl,rfl⟩
structure FwB(s:aD)(y:bX):Prop where
 fm:Ds s y
 ax:y.x.of s
 ay:y.y.of s
 h0:y.h0=0∨y.h0=1∨y.h0=2
 h1:y.h1=0∨y.h1=1∨y.h1=2
 r0:y.h0=2→2≤y.w0.length
 r1:y.h1=2→2≤y.w1.length
structure rJ(s:aD)(y:bX):Prop extends FwB s y where
 at_:y.at_= -1∨∃a:Nat,y.at_=(a:Int)∧a < 2∧Ay y a=1∧Dq s y.kind y.id∧tU (kT y a)
theorem rJ.step{s:aD}{x:aO}{y:bX}(h:rJ s y)(hx:cF s x):aCe s x y:=by
 refine⟨hx,h.fm,?_,fun _ a _ h1 h2=>?_,fun _ a _ h1=>?_⟩
 ·rcases h.at_ with h1 | ⟨a,h1,h2,_,h3,h4⟩
  ·exact .inl (by omega)
  ·exact .inr ⟨a,h1,h2,h3,h4⟩
 ·rcases aJc (s:=s) (x:=y.x) (y:=y.y) (wt:=lY s x) (ag:=a) (h.fm.box a).1 with⟨_,h3⟩ | ⟨_,_,_,h3,_⟩
  ·exact h3 h2
  ·exact absurd h1 h3
 ·rcases aJc (s:=s) (x:=y.x) (y:=y.y) (wt:=lY s x) (ag:=a) (h.fm.box a).1 with⟨h3,_⟩ | ⟨_,_,_,_,h4,h5⟩
  ·exact absurd h3 h1
  ·exact⟨h5,h4⟩
theorem aK2{s:aD}{x:aO}{y:bX}(h:FwB s y)(fS:y.at_= -1){a:Nat}(ha:a < 2)(st:Int):rJ s (wN s x y a st):=by
 have hb:=h.fm.box a
 have hu:=aSJ (s:=s) (x:=x) (st:=st) hb.1
 have hl:=aSK (s:=s) (x:=x) (l:=kT y a) (st:=st)
 have Hf:(Di s x (kT y a) st).length≤1000000:=Nat.le_trans hl.2 (by decide)
 unfold wN aCZ;split
 ·exact⟨⟨⟨h.fm.la,hu,h.fm.u1,Hf,h.fm.n1,h.fm.sx,h.fm.sy⟩,h.ax,h.ay,.inr (.inr rfl),h.h1,fun _=>hl.1,h.r1⟩,.inl fS⟩
 ·exact⟨⟨⟨h.fm.la,h.fm.u0,hu,h.fm.n0,Hf,h.fm.sx,h.fm.sy⟩,h.ax,h.ay,h.h0,.inr (.inr rfl),h.r0,fun _=>hl.1⟩,.inl fS⟩
theorem aGk{s:aD}{x:bK}(h:x.of s)(k id:Int):(kO x k id).of s:=by
 obtain⟨h1,h2,h3⟩:=aGl x k id;exact⟨h1.trans h.d,h2.trans h.c,h3.trans h.l⟩
theorem rJ.end_{s:aD}{y:bX}(h:rJ s y){a:Nat}(fS:y.at_=(a:Int))(ha:a < 2)(r:aO×Bool):rJ s (wV s y r):=by
 unfold wV;split
 ·rw[fS,Int.toNat_natCast];exact aK2 (y:={y with at_:= -1}) ⟨⟨h.fm.la,h.fm.u0,h.fm.u1,h.fm.n0,h.fm.n1,h.fm.sx,h.fm.sy⟩,h.ax,h.ay,h.h0,h.h1,h.r0,h.r1⟩ rfl ha 0
 ·exact h
theorem rJ.next{s:aD}{x:aO}{y:bX}(hH:s.dG)(h:rJ s y)(hx:cF s x):rJ s (kX s x y).1∧cF s (kX s x y).2∧(kX s x y).2.wt=x.wt∧(kX s x y).2.aR=x.aR:=by
 unfold kX;dsimp only;rcases h.at_ with fS | ⟨a,fS,ha,_⟩
 ·have hlt:y.at_ < 0:=by omega
  cases hn:sL y with
  | none=>
   have ht:mP s x y=(y,false):=by unfold mP;rw[hn]
   rw[ht,if_pos ⟨hlt,rfl⟩];exact⟨h,hx,rfl,rfl⟩
  | some a =>
   have ha:=aHo h.fm.la hn
   have Hi:Ay y a=1:=by
    unfold sL at hn;split at hn
    ·cases hn;assumption
    ·split at hn
     ·cases hn;assumption
     ·cases hn
   have hla:(a:Int)=0∨(a:Int)=1:=by omega
   have ht:mP s x y=wK s x y a:=by unfold mP;rw[hn]
   rw[ht]
   by_cases hd:(gA s x y a).2.1=0
   ·have e:wK s x y a=(wN s x {y with last:=a} a (gA s x y a).1,false):=by
     unfold wK;dsimp only;rw[if_pos hd]
    rw[e,if_pos ⟨hlt,rfl⟩];exact⟨aK2 (y:={y with last:=a}) ⟨⟨hla,h.fm.u0,h.fm.u1,h.fm.n0,h.fm.n1,h.fm.sx,h.fm.sy⟩,h.ax,h.ay,h.h0,h.h1,h.r0,h.r1⟩ fS ha _,hx,rfl,rfl⟩
   ·have e:wK s x y a=({y with last:=a,x:=jW y.x a (gA s x y a).2.1 (gA s x y a).2.2,y:=mN y.y a (gA s x y a).2.1 (gA s x y a).2.2,at_:=a,kind:=(gA s x y a).2.1,id:=(gA s x y a).2.2},true):=by
     unfold wK;dsimp only;rw[if_neg hd]
    rw[e,if_neg (by simp),if_pos hlt];dsimp only;obtain⟨hk,hr⟩:=(h.step hx).new hlt a hn hd
    have hax:(jW y.x a (gA s x y a).2.1 (gA s x y a).2.2).of s:=by
     unfold jW;split
     ·exact aGk h.ax _ _
     ·exact h.ax
    have hay:(mN y.y a (gA s x y a).2.1 (gA s x y a).2.2).of s:=by
     unfold mN;split
     ·exact h.ay
     ·exact aGk h.ay _ _
    obtain⟨w1,w2⟩:=aJI s x (gA s x y a).2.1 (gA s x y a).2.2
    exact⟨rJ.end_ (y:={y with last:=a,x:=jW y.x a (gA s x y a).2.1 (gA s x y a).2.2,y:=mN y.y a (gA s x y a).2.1 (gA s x y a).2.2,at_:=a,kind:=(gA s x y a).2.1,id:=(gA s x y a).2.2})
     ⟨⟨⟨hla,h.fm.u0,h.fm.u1,h.fm.n0,h.fm.n1,aRn h.fm.sx _ _ _,aRm h.fm.sy _ _ _⟩,hax,hay,h.h0,h.h1,h.r0,h.r1⟩,.inr ⟨a,rfl,ha,Hi,hk,hr⟩⟩ rfl ha _,aEI hH hx _ _,w1,w2⟩
 ·have hlt:¬y.at_ < 0:=by omega
  rw[if_neg (fun hh=>hlt hh.1),if_neg hlt];obtain⟨w1,w2⟩:=aJI s x y.kind y.id;exact⟨h.end_ fS ha _,aEI hH hx _ _,w1,w2⟩
theorem rJ.send{s:aD}{y:bX}(h:rJ s y)(a:Int){l:List Int}(hu:wA l)(hn:l.length≤1000000):rJ s (nV y a l).2:=by
 have fS:∀b:Nat,y.at_= -1∨(∃c:Nat,y.at_=(c:Int)∧c < 2∧Ay y c=1∧Dq s y.kind y.id∧tU (kT y c)):=fun _=>h.at_
 unfold nV;split
 ·exact h
 ·split
  ·split
   ·exact h
   ·rename_i Fe
    have Fe:y.h0=0:=Classical.byContradiction Fe
    refine⟨⟨⟨h.fm.la,hu,h.fm.u1,hn,h.fm.n1,h.fm.sx,h.fm.sy⟩,h.ax,h.ay,.inr (.inl rfl),h.h1,(fun h=>absurd (show(1:Int)=2 from h) (by decide)),h.r1⟩,?_⟩;rcases h.at_ with h1 | ⟨c,h1,h2,h3,h4,h5⟩
    ·exact .inl h1
    ·refine .inr ⟨c,h1,h2,?_⟩;obtain rfl | rfl:c=0∨c=1:=by omega
     ·exact absurd (Fe.symm.trans h3) (by decide)
     ·exact⟨h3,h4,h5⟩
  ·split
   ·exact h
   ·rename_i Fe
    have Fe:y.h1=0:=Classical.byContradiction Fe
    refine⟨⟨⟨h.fm.la,h.fm.u0,hu,h.fm.n0,hn,h.fm.sx,h.fm.sy⟩,h.ax,h.ay,h.h0,.inr (.inl rfl),h.r0,fun h=>absurd (show(1:Int)=2 from h) (by decide)⟩,?_⟩;rcases h.at_ with h1 | ⟨c,h1,h2,h3,h4,h5⟩
    ·exact .inl h1
    ·refine .inr ⟨c,h1,h2,?_⟩;obtain rfl | rfl:c=0∨c=1:=by omega
     ·exact⟨h3,h4,h5⟩
     ·exact absurd (Fe.symm.trans h3) (by decide)
theorem rJ.read{s:aD}{y:bX}(h:rJ s y)(a:Int):rJ s (oJ y a):=by
 unfold oJ;split
 ·split
  ·rename_i h2
   refine⟨⟨⟨h.fm.la,(fun _ hv=>by cases hv),h.fm.u1,Nat.zero_le _,h.fm.n1,h.fm.sx,h.fm.sy⟩,h.ax,h.ay,.inl rfl,h.h1,(fun h=>absurd (show(0:Int)=2 from h) (by decide)),h.r1⟩,?_⟩;rcases h.at_ with h1 | ⟨c,h1,hc,h3,h4,h5⟩
   ·exact .inl h1
   ·refine .inr ⟨c,h1,hc,?_⟩;obtain rfl | rfl:c=0∨c=1:=by omega
    ·exact absurd (h2.symm.trans h3) (by decide)
    ·exact⟨h3,h4,h5⟩
  ·exact h
 ·split
  ·split
   ·rename_i h2
    refine⟨⟨⟨h.fm.la,h.fm.u0,(fun _ hv=>by cases hv),h.fm.n0,Nat.zero_le _,h.fm.sx,h.fm.sy⟩,h.ax,h.ay,h.h0,.inl rfl,h.r0,fun h=>absurd (show(0:Int)=2 from h) (by decide)⟩,?_⟩;rcases h.at_ with h1 | ⟨c,h1,hc,h3,h4,h5⟩
    ·exact .inl h1
    ·refine .inr ⟨c,h1,hc,?_⟩;obtain rfl | rfl:c=0∨c=1:=by omega
     ·exact⟨h3,h4,h5⟩
     ·exact absurd (h2.symm.trans h3) (by decide)
   ·exact h
  ·exact h
theorem FwB.ans{s:aD}{y:bX}(h:FwB s y){b:Int}{a:List Int}(ha:oK y b=some a):2≤a.length:=by
 unfold oK at ha;split at ha
 ·split at ha
  ·cases ha;exact h.r0 (by assumption)
  ·cases ha
 ·split at ha
  ·split at ha
   ·cases ha;exact h.r1 (by assumption)
   ·cases ha
  ·cases ha
theorem aQC{s:aD}(hT:s.wQ):rJ s (tM s):=
 ⟨⟨⟨.inr rfl,(fun _ hv=>by simp[tM] at hv),(fun _ hv=>by simp[tM] at hv),by simp[tM],by simp[tM],aCs hT,aCs hT⟩,⟨by simp[tM,dQ],by simp[tM,dQ],by simp[tM,dQ]⟩,⟨by simp[tM,dQ],by simp[tM,dQ],by simp[tM,dQ]⟩,.inl rfl,.inl rfl,(fun h=>by simp[tM] at h),(fun h=>by simp[tM] at h)⟩,.inl rfl⟩
end
section
theorem Nd:∀(l:List (Int×Int)) (k v j:Int),eJ (xZ l k v) j=if j=k then v else eJ l j
 | [], k, v, j => by
  by_cases h:j=k
  ·subst h;simp[eJ,xZ]
  ·rw[if_neg h]
   have h2:¬k=j:=fun e=>h e.symm
   simp[eJ,xZ,h2]
 | (a, b) :: l, k, v, j => by
  have ih:=Nd l k v j
  unfold xZ
  by_cases Hl:a=k
  ·subst Hl;rw[if_pos rfl]
   by_cases h:j=a
   ·subst h;simp[eJ]
   ·have h2:¬a=j:=fun e=>h e.symm
    simp[eJ,h,h2]
  ·rw[if_neg Hl]
   by_cases haj:a=j
   ·subst haj;rw[if_neg Hl];simp[eJ]
   ·have e1:∀m,eJ ((a,b)::m) j=eJ m j:=fun m=>by simp[eJ,haj]
    rw[e1,e1,ih]
theorem nN(a b:Int){p:Prop}(h:a=b)(hn:a≠b:=by decide):p:=absurd h hn
theorem Gi{z:aW}{i j:Nat}{t:rG}(hi:T3 i)(hj:T3 j):(z.jO j t).tk i=if i=j then t else z.tk i:=by
 rcases hi with rfl | rfl | rfl<;>rcases hj with rfl | rfl | rfl<;>rfl
structure RwB(s:aD)(z:aW):Prop where
 wn:z.wn.of s
 len:∀j,T3 j→(z.tk j).hs.length=6
 nn:∀j,T3 j→∀i,0≤hG (z.tk j) i
 cnt:∀i:Nat,hG (z.tk 0) i+hG (z.tk 1) i+hG (z.tk 2) i=eJ z.cn.l (i:Int)
 c7:∀i:Nat,eJ z.cn.l (i:Int)≤7
 call:∀j,T3 j→(z.tk j).st=1→tF (z.tk j).kind
 st:∀j,T3 j→0≤(z.tk j).st∧(z.tk j).st≤3
 val:∀j,T3 j→0≤(z.tk j).val∧(z.tk j).val < 4294967296
 many:0≤z.many∧z.many < 1024
 Ei:∀p∈z.steps,Og p∧p.ok
def aTX(z:aW):Prop:=(z.eW= -1∧(∀j,T3 j→(z.tk j).st≠2)∧z.aR=false∧z.steps=[]∧z.sent=false)∨(∃j:Nat,T3 j∧z.eW=(j:Int)∧(∀i,T3 i→((z.tk i).st=2↔i=j))∧(z.aR=false→z.steps≠[]))
structure qN(s:aD)(z:aW):Prop extends RwB s z where
 eW:aTX z
theorem aQa{s:aD}{z:aW}(h:RwB s z){j:Nat}(hj:T3 j)(i:Nat):hG (z.tk j) i≤7:=by
 have h0:=h.nn 0 (.inl rfl) i
 have h1:=h.nn 1 (.inr (.inl rfl)) i
 have h2:=h.nn 2 (.inr (.inr rfl)) i
 have h3:=h.cnt i
 have h4:=h.c7 i
 rcases hj with rfl | rfl | rfl<;>omega
theorem RwB.rp{s:aD}{z:aW}(h:RwB s z):Tm s z:=⟨h.wn,fun j hj=>⟨h.len j hj,fun i=>⟨h.nn j hj i,by have:=aQa h hj i;omega⟩⟩⟩
theorem RwB.jO{s:aD}{z:aW}(h:RwB s z){j:Nat}(hj:T3 j){t:rG}(hh:t.hs=(z.tk j).hs)(hs:0≤t.st∧t.st≤3)(hv:0≤t.val∧t.val < 4294967296)(hc:t.st=1→tF t.kind):RwB s (z.jO j t):=by
 have hg:∀i,T3 i→((z.jO j t).tk i).hs=(z.tk i).hs:=fun i hi=>by
  rw[Gi hi hj];split
  ·rename_i e;subst e;exact hh
  ·rfl
 have hG':∀i,T3 i→∀k,hG ((z.jO j t).tk i) k=hG (z.tk i) k:=fun i hi k=>by unfold hG;rw[hg i hi]
 refine⟨h.wn,fun i hi=>by rw[hg i hi];exact h.len i hi,fun i hi k=>by rw[hG' i hi];exact h.nn i hi k,fun i=>?_,h.c7,fun i hi=>?_,fun i hi=>?_,fun i hi=>?_,h.many,h.Ei⟩
 ·rw[hG' 0 (.inl rfl),hG' 1 (.inr (.inl rfl)),hG' 2 (.inr (.inr rfl))];exact h.cnt i
 ·rw[Gi hi hj];split
  ·exact hc
  ·exact h.call i hi
 ·rw[Gi hi hj];split
  ·exact hs
  ·exact h.st i hi
 ·rw[Gi hi hj];split
  ·exact hv
  ·exact h.val i hi
theorem RwB.pJ{s:aD}{z:aW}(h:RwB s z){j:Nat}(hj:T3 j){d:Nat}(hd:d < 6){k:Int}{c:Cn}(hc:∀i:Nat,eJ c.l (i:Int)=if i=d then eJ z.cn.l (d:Int)+k else eJ z.cn.l (i:Int))(h0:0≤hG (z.tk j) d+k)(h7:eJ z.cn.l (d:Int)+k≤7):RwB s {z.jO j (pJ (z.tk j) d k) with cn:=c}:=by
 have ht:∀i,T3 i→({z.jO j (Go.Proofs.YtdcdccmpcmjmhaaGreatDoor.pJ (z.tk j) d k) with cn:=c}:aW).tk i=if i=j then Go.Proofs.YtdcdccmpcmjmhaaGreatDoor.pJ (z.tk j) d k else z.tk i:=fun i hi=>(show _=(z.jO j (Go.Proofs.YtdcdccmpcmjmhaaGreatDoor.pJ (z.tk j) d k)).tk i from rfl).trans (Gi hi hj)
 have hu:∀i,hG (Go.Proofs.YtdcdccmpcmjmhaaGreatDoor.pJ (z.tk j) d k) i=if d=i then hG (z.tk j) d+k else hG (z.tk j) i:=fun i=>aEb (h.len j hj) hd
 have hg:∀i,T3 i→∀n,hG (({z.jO j (Go.Proofs.YtdcdccmpcmjmhaaGreatDoor.pJ (z.tk j) d k) with cn:=c}:aW).tk i) n=hG (z.tk i) n+(if i=j∧n=d then k else 0):=fun i hi n=>by
  rw[ht i hi]
  by_cases e:i=j
  ·subst e;rw[if_pos rfl,hu]
   by_cases e2:d=n
   ·subst e2;simp
   ·rw[if_neg e2,if_neg (fun hh=>e2 hh.2.symm)];omega
  ·rw[if_neg e,if_neg (fun hh=>e hh.1)];omega
 refine⟨h.wn,fun i hi=>?_,fun i hi n=>?_,fun n=>?_,fun n=>?_,fun i hi=>?_,fun i hi=>?_,fun i hi=>?_,h.many,h.Ei⟩
 ·rw[ht i hi];split
  ·show((z.tk j).hs.set _ _).length=6
   rw[List.length_set];exact h.len j hj
  ·exact h.len i hi
 ·rw[hg i hi]
  have:=h.nn i hi n
  split
  ·rename_i e
   obtain⟨rfl,rfl⟩:=e;exact h0
  ·omega
 ·rw[hg 0 (.inl rfl),hg 1 (.inr (.inl rfl)),hg 2 (.inr (.inr rfl))]
  show _=eJ c.l (n:Int)
  rw[hc]
  have:=h.cnt n
  by_cases e:n=d
  ·subst e;rcases hj with rfl | rfl | rfl<;>simp<;>omega
  ·rw[if_neg e,if_neg (fun hh=>e hh.2),if_neg (fun hh=>e hh.2),if_neg (fun hh=>e hh.2)];omega
 ·show eJ c.l (n:Int)≤7
  rw[hc];split
  ·exact h7
  ·exact h.c7 n
 ·rw[ht i hi];split
  ·rename_i e;subst e;exact h.call _ hi
  ·exact h.call i hi
 ·rw[ht i hi];split
  ·rename_i e;subst e;exact h.st _ hi
  ·exact h.st i hi
 ·rw[ht i hi];split
  ·rename_i e;subst e;exact h.val _ hi
  ·exact h.val i hi
theorem aJt{n:Nat}{c:Cn}{d:Int}(h:(pE n c d).1=0)(h0:0≤eJ c.l d):c.jX=false∧0≤d∧d < n∧eJ c.l d < 7∧(pE n c d).2=⟨xZ c.l d (eJ c.l d+1),c.jX⟩:=by
 unfold pE at h⊢;split at h
 ·simp at h
 ·rename_i h1
  split at h
  ·simp at h
  ·rename_i h2
   split at h
   ·simp at h
   ·rename_i h3
    rw[if_neg h1,if_neg h2,if_neg h3,iR (by omega)];exact⟨by simpa using h1,by omega,by omega,by omega,rfl⟩
theorem aJd{n:Nat}{c:Cn}{d:Int}(h:(qK n c d).1=0)(h7:eJ c.l d≤7):c.jX=false∧0≤d∧d < n∧0 < eJ c.l d∧(qK n c d).2=⟨xZ c.l d (eJ c.l d - 1),c.jX⟩:=by
 unfold qK at h⊢;split at h
 ·simp at h
 ·rename_i h1
  split at h
  ·simp at h
  ·rename_i h2
   split at h
   ·simp at h
   ·rename_i h3
    rw[if_neg h1,if_neg h2,if_neg h3,iR (by omega)];exact⟨by simpa using h1,by omega,by omega,by omega,rfl⟩
theorem aCf{s:aD}{z:aW}(hm:s.made)(h:RwB s z):RwB s (lK s z):=
 ⟨aLa s z,h.len,h.nn,h.cnt,h.c7,h.call,h.st,h.val,h.many,fun p hp=>⟨aSX p hp,aSY hm _ _ p hp⟩⟩
theorem RwB.same{s:aD}{z:aW}(h:RwB s z)(c:Cn)(hc:c.l=z.cn.l):RwB s {z with cn:=c}:=
 ⟨h.wn,h.len,h.nn,fun i=>by show _=eJ c.l _;rw[hc];exact h.cnt i,fun i=>by show eJ c.l _≤7;rw[hc];exact h.c7 i,h.call,h.st,h.val,h.many,h.Ei⟩
structure aFq(s:aD)(z:aW)(x:aO)(r:Int×aW×aO):Prop where
 b:RwB s r.2.1
 st:∀i,(r.2.1.tk i).st=(z.tk i).st
 err:r.1≠0→r.2.1=z∧r.2.2=x
 x_:r.2.1.aR=false→r.2.2=x
 po:r.2.1.aR=true→z.aR=true∨∃(d:Nat) (wr:Bool) (rg v:Int) (dv:bO),s.aC[d]? =some dv∧0≤rg∧rg < dv.aP.length∧0≤v∧v < 4294967296∧r.2.1.id=x.aR∧r.2.2=wP x d wr rg v
theorem aQW{s:aD}(hm:s.made){z:aW}(h:RwB s z)(x:aO){j:Nat}(hj:T3 j)(k:Int):aFq s z x (qJ s x z j k):=by
 have hnd:=Jm s
 have nB:=hm.nv
 have same:∀e:Int,aFq s z x (e,z,x):=fun e=>⟨h,fun _=>rfl,fun _=>⟨rfl,rfl⟩,fun _=>rfl,fun hp=>.inl hp⟩
 have Lv:∀(d:Nat) (q:Int) (c:Cn) (i:Nat),((lK s {z.jO j (pJ (z.tk j) d q) with cn:=c}).tk i).st=(z.tk i).st:=fun d q c i=>by
  show((z.jO j (pJ (z.tk j) d q)).tk i).st=_
  rcases hj with rfl | rfl | rfl
  all_goals
   match i with
   | 0=>rfl
   | 1=>rfl
   | n+2=>rfl
 have acc : ∀ wr : Bool, aFq s z x (Dk s x z j wr) := fun wr => by
  unfold Dk;split
  ·exact same 4
  ·rename_i hb
   split
   ·exact same 6
   ·split
    ·refine⟨⟨h.wn,h.len,h.nn,h.cnt,h.c7,h.call,h.st,h.val,h.many,h.Ei⟩,fun _=>rfl,fun h=>absurd rfl h,(fun h=>by cases h),fun _=>.inr ?_⟩
     have h1:bN s.aC.length (z.tk j).dev=true:=by
      cases hh:bN s.aC.length (z.tk j).dev with
      | true=>rfl
      | false=>exact absurd (.inl hh) hb
     have h2:=of_decide_eq_true h1
     obtain⟨dv,tJ⟩:=get_some (l:=s.aC) (i:=(z.tk j).dev.toNat) (by omega)
     have h3:¬(z.tk j).bY < 0:=fun hh=>hb (.inr (.inl hh))
     have h4:¬Gm s (z.tk j).dev≤(z.tk j).bY:=fun hh=>hb (.inr (.inr hh))
     unfold Gm at h4;rw[tJ] at h4;simp only[Option.map_some,Option.getD_some] at h4;exact⟨_,wr,(z.tk j).bY,(z.tk j).val,dv,tJ,by omega,by omega,(h.val j hj).1,(h.val j hj).2,rfl,rfl⟩
    ·exact same 6
 unfold qJ;split
 ·unfold Fh;split
  ·exact same _
  ·rename_i h1
   have h1:(pE (cQ s).length z.cn (z.tk j).dev).1=0:=Classical.byContradiction h1
   have Kb:=aJs h1
   obtain⟨d,hd⟩:∃d:Nat,(z.tk j).dev=d:=⟨(z.tk j).dev.toNat,by omega⟩
   rw[hd] at h1 Kb⊢;obtain⟨_,_,h2,h3,h4⟩:=aJt h1 (by have:=h.cnt d;have:=h.nn 0 (.inl rfl) d;have:=h.nn 1 (.inr (.inl rfl)) d;have:=h.nn 2 (.inr (.inr rfl)) d;omega);rw[h4,Int.toNat_natCast];refine⟨aCf hm (h.pJ hj (by omega) (fun i=>?_) (by have:=h.nn j hj d;omega) (by omega)),Lv _ _ _,fun h=>absurd rfl h,fun _=>rfl,fun hp=>.inl hp⟩;dsimp only;rw[Nd]
   by_cases e:i=d
   ·subst e;simp
   ·rw[if_neg (by omega),if_neg e]
 ·split
  ·unfold En;split
   ·exact same _
   ·rename_i hin
    split
    ·exact same _
    ·rename_i h0
     split
     ·exact same _
     ·rename_i h1
      have h1:(qK (cQ s).length z.cn (z.tk j).dev).1=0:=Classical.byContradiction h1
      have hin:bN s.aC.length (z.tk j).dev=true:=by simpa using hin
      have hin:=of_decide_eq_true hin
      obtain⟨d,hd⟩:∃d:Nat,(z.tk j).dev=d:=⟨(z.tk j).dev.toNat,by omega⟩
      rw[hd] at h1 h0 hin⊢;rw[Int.toNat_natCast] at h0⊢;obtain⟨_,_,h2,h3,h4⟩:=aJd h1 (h.c7 d);rw[h4];refine⟨aCf hm (h.pJ hj (by omega) (fun i=>?_) (by have:=h.nn j hj d;omega) (by have:=h.c7 d;omega)),Lv _ _ _,fun h=>absurd rfl h,fun _=>rfl,fun hp=>.inl hp⟩;dsimp only;rw[Nd]
      by_cases e:i=d
      ·subst e;simp;omega
      ·rw[if_neg (by omega),if_neg e]
  ·split
   ·exact acc false
   ·split
    ·exact acc true
    ·split
     ·unfold Ef;split
      ·exact same _
      ·rename_i h1
       refine⟨aCf hm (h.same _ ?_),fun _=>rfl,fun h=>absurd rfl h,fun _=>rfl,fun hp=>.inl hp⟩;unfold tO;split<;>rfl
     ·unfold El;split
      ·exact same _
      ·refine⟨aCf hm (h.same _ ?_),fun _=>rfl,fun h=>absurd rfl h,fun _=>rfl,fun hp=>.inl hp⟩;unfold tP;split<;>rfl
theorem RwB.end_{s:aD}{z:aW}(h:RwB s z){j:Nat}(hj:T3 j)(h2:∀i,T3 i→(z.tk i).st=2→i=j)(e r:Int):qN s (kD z j e r):=by
 have h1:=h.jO hj (t:={z.tk j with st:=3,err:=e,res:=r}) rfl ⟨by show(0:Int)≤3;decide,by show(3:Int)≤3;decide⟩ (h.val j hj) (fun hh=>nN 3 1 hh)
 refine⟨⟨h1.wn,h1.len,h1.nn,h1.cnt,h1.c7,h1.call,h1.st,h1.val,h1.many,fun p hp=>by cases hp⟩,.inl ⟨rfl,fun i hi hst=>?_,rfl,rfl,rfl⟩⟩
 have hst:((z.jO j {z.tk j with st:=3,err:=e,res:=r}).tk i).st=2:=hst
 rw[Gi hi hj] at hst;split at hst
 ·exact nN 3 2 hst
 ·rename_i hne
  exact hne (h2 i hi hst)
theorem aNS{z:aW}{i j:Nat}(hi:T3 i)(hj:T3 j):(kB z j).tk i=if i=j then {z.tk j with st:=2} else z.tk i:=Gi hi hj
theorem aSC{s:aD}(hm:s.made){z:aW}(h:qN s z)(hh:z.eW < 0)(x:aO){j:Nat}(hj:T3 j):qN s (pF s x z j).1∧z.aR=false∧((pF s x z j).1.aR=false→(pF s x z j).2=x)∧((pF s x z j).1.aR=true→∃(d:Nat) (wr:Bool) (rg v:Int) (dv:bO),s.aC[d]? =some dv∧0≤rg∧rg < dv.aP.length∧0≤v∧v < 4294967296∧(pF s x z j).1.id=x.aR∧(pF s x z j).2=wP x d wr rg v):=by
 obtain⟨_,hno,lQ,hsp,hse⟩:z.eW= -1∧(∀j,T3 j→(z.tk j).st≠2)∧z.aR=false∧z.steps=[]∧z.sent=false:=by
  rcases h.eW with h1 | ⟨i,_,h1,_⟩
  ·exact h1
  ·omega
 have hb:RwB s (kB z j):=by
  have:=h.toRwB.jO hj (t:={z.tk j with st:=2}) rfl ⟨by show(0:Int)≤2;decide,by show(2:Int)≤3;decide⟩ (h.val j hj) (fun hh=>nN 2 1 hh)
  exact⟨this.wn,this.len,this.nn,this.cnt,this.c7,this.call,this.st,this.val,this.many,this.Ei⟩
 have h2:∀i,T3 i→(((kB z j).tk i).st=2↔i=j):=fun i hi=>by
  rw[aNS hi hj];split
  ·rename_i e;exact⟨fun _=>e,fun _=>rfl⟩
  ·rename_i e;exact⟨fun hh=>absurd hh (hno i hi),fun hh=>absurd hh e⟩
 have he:=aQW hm hb x hj (z.tk j).kind
 have hho:=aIK s x (kB z j) j (z.tk j).kind
 have aPg:(kB z j).aR=false:=lQ
 unfold pF;dsimp only;generalize qJ s x (kB z j) j (z.tk j).kind=r at he hho;split
 ·rename_i hne
  obtain⟨e1,e2⟩:=he.err hne;rw[e1,e2];exact⟨hb.end_ hj (fun i hi hst=>(h2 i hi).1 hst) _ _,lQ,fun _=>rfl,fun hp=>by cases hp⟩
 ·have h3:∀i,T3 i→((r.2.1.tk i).st=2↔i=j):=fun i hi=>by rw[he.st i];exact h2 i hi
  split
  ·rename_i hc
   exact⟨he.b.end_ hj (fun i hi hst=>(h3 i hi).1 hst) _ _,lQ,fun _=>he.x_ hc.1,fun hp=>by cases hp⟩
  ·rename_i hc
   refine⟨⟨he.b,.inr ⟨j,hj,hho,h3,fun hp hs=>hc ⟨hp,by rw[hs];rfl⟩⟩⟩,lQ,he.x_,fun hp=>?_⟩;rcases he.po hp with h4 | h4
   ·rw[aPg] at h4;cases h4
   ·exact h4
theorem aTe{s:aD}{z:aW}{y:bX}(h:qN s z)(hy:rJ s y){j:Nat}(hj:T3 j)(hst:(z.tk j).st=2)(lQ:z.aR=false):qN s (qL z y j).1∧rJ s (qL z y j).2∧(qL z y j).1.aR=false:=by
 obtain⟨hh,h2,hne⟩:z.eW=(j:Int)∧(∀i,T3 i→((z.tk i).st=2↔i=j))∧z.steps≠[]:=by
  rcases h.eW with⟨_,h1,_⟩ | ⟨i,hi,h1,h2,h3⟩
  ·exact absurd hst (h1 j hj)
  ·obtain rfl:=(h2 j hj).1 hst;exact⟨h1,h2,h3 lQ⟩
 unfold qL;split
 ·cases hr:oK y 0 with
  | none=>exact⟨h,hy.read 0,lQ⟩
  | some a =>
   dsimp only
   have hb:RwB s (sH z a):=by
    unfold sH;split
    ·exact⟨h.wn,h.len,h.nn,h.cnt,h.c7,h.call,h.st,h.val,h.many,fun p hp=>h.Ei p (List.mem_of_mem_tail hp)⟩
    ·exact⟨h.wn,h.len,h.nn,h.cnt,h.c7,h.call,h.st,h.val,h.many,h.Ei⟩
   have ht:∀i,(sH z a).tk i=z.tk i:=fun i=>by unfold sH;split<;>rfl
   have hhh:(sH z a).eW=z.eW:=by unfold sH;split<;>rfl
   have hpp:(sH z a).aR=z.aR:=by unfold sH;split<;>rfl
   split
   ·exact⟨hb.end_ hj (fun i hi hs=>by rw[ht] at hs;exact(h2 i hi).1 hs) _ _,hy.read 0,rfl⟩
   ·rename_i hl
    exact⟨⟨hb,.inr ⟨j,hj,hhh.trans hh,fun i hi=>by rw[ht];exact h2 i hi,fun _ hs=>hl (by rw[hs];rfl)⟩⟩,hy.read 0,hpp.trans lQ⟩
 ·cases hs:z.steps with
  | nil=>exact absurd hs hne
  | cons p tl =>
   dsimp only;obtain⟨hk,hok⟩:=h.Ei p (by rw[hs];simp)
   have hu:wA (qA p z.many):=fun v hv=>by
    simp only[qA,List.mem_cons,List.not_mem_nil,or_false] at hv;rcases hv with rfl | rfl | rfl
    ·exact aN6 _ _ _ _
    ·exact hok.id
    ·exact hok.v
   have zZ:=hy.send 0 hu (by simp[qA])
   split
   ·refine⟨⟨⟨h.wn,h.len,h.nn,h.cnt,h.c7,h.call,h.st,h.val,?_,fun q hq=>h.Ei q (by rw[hs];exact hq)⟩,.inr ⟨j,hj,hh,h2,fun _ hc=>by cases hc⟩⟩,zZ,lQ⟩
    have:=h.many
    show 0≤(z.many+1) % 1024∧(z.many+1) % 1024 < 1024
    omega
   ·exact⟨h,zZ,lQ⟩
theorem aLB{s:aD}{z:aW}(h:qN s z)(t k d r v:Int)(hv:0≤v∧v < 4294967296):qN s (vH z t k d r v).2∧(vH z t k d r v).2.aR=z.aR∧(vH z t k d r v).2.id=z.id:=by
 unfold vH;split
 ·exact⟨h,rfl,rfl⟩
 ·rename_i hin
  obtain⟨j,rfl,hj⟩:=Qn (t:=t) (by simpa using hin);rw[Int.toNat_natCast];split
  ·exact⟨h,rfl,rfl⟩
  ·rename_i h0
   have h0:(z.tk j).st=0:=Classical.byContradiction h0
   split
   ·exact⟨h,rfl,rfl⟩
   ·rename_i hk
    have hk:tF k:=Classical.byContradiction hk
    refine⟨⟨h.toRwB.jO hj rfl ⟨by show(0:Int)≤1;decide,by show(1:Int)≤3;decide⟩ hv (fun _=>hk),?_⟩,rfl,rfl⟩
    have key:∀i,T3 i→(((z.jO j {z.tk j with st:=1,kind:=k,dev:=d,bY:=r,val:=v}).tk i).st=2↔(z.tk i).st=2):=fun i hi=>by
     rw[Gi hi hj];split
     ·rename_i e;subst e
      rw[h0];exact⟨fun h=>nN 1 2 h,fun h=>nN 0 2 h⟩
     ·exact Iff.rfl
    rcases h.eW with⟨h1,h2,h3⟩ | ⟨i,hi,h1,h2,h3⟩
    ·exact .inl ⟨h1,fun i hi hs=>h2 i hi ((key i hi).1 hs),h3⟩
    ·exact .inr ⟨i,hi,h1,fun k hk=>(key k hk).trans (h2 k hk),h3⟩
theorem aRj{s:aD}{z:aW}(h:qN s z)(t:Int):qN s (nE z t).2∧(nE z t).2.aR=z.aR∧(nE z t).2.id=z.id:=by
 unfold nE;split
 ·exact⟨h,rfl,rfl⟩
 ·rename_i hin
  obtain⟨j,rfl,hj⟩:=Qn (t:=t) (by simpa using hin);rw[Int.toNat_natCast];split
  ·exact⟨h,rfl,rfl⟩
  ·rename_i h0
   have h0:(z.tk j).st=3:=Classical.byContradiction h0
   refine⟨⟨h.toRwB.jO hj rfl ⟨by show(0:Int)≤0;decide,by show(0:Int)≤3;decide⟩ ⟨by show(0:Int)≤0;decide,by show(0:Int) < 4294967296;decide⟩ (fun h=>nN 0 1 h),?_⟩,rfl,rfl⟩
   have key:∀i,T3 i→(((z.jO j {z.tk j with st:=0,kind:=0,dev:=0,bY:=0,val:=0,err:=0,res:=0}).tk i).st=2↔(z.tk i).st=2):=fun i hi=>by
    rw[Gi hi hj];split
    ·rename_i e;subst e
     rw[h0];exact⟨fun h=>nN 0 2 h,fun h=>nN 3 2 h⟩
    ·exact Iff.rfl
   rcases h.eW with⟨h1,h2,h3⟩ | ⟨i,hi,h1,h2,h3⟩
   ·exact .inl ⟨h1,fun i hi hs=>h2 i hi ((key i hi).1 hs),h3⟩
   ·exact .inr ⟨i,hi,h1,fun k hk=>(key k hk).trans (h2 k hk),h3⟩
theorem aSL{s:aD}{z:aW}(h:qN s z)(a:mW):qN s (Bf z a):=by
 unfold Bf;split
 ·exact h
 ·rename_i hp
  obtain⟨j,hj,hh,h2⟩:∃j:Nat,T3 j∧z.eW=(j:Int)∧∀i,T3 i→((z.tk i).st=2↔i=j):=by
   rcases h.eW with⟨_,_,h1,_⟩ | ⟨i,hi,h1,h2,_⟩
   ·exact absurd h1 hp
   ·exact⟨i,hi,h1,h2⟩
  have h3:∀e r,qN s (kD z z.eW.toNat e r):=fun e r=>by
   rw[hh,Int.toNat_natCast];exact h.toRwB.end_ hj (fun i hi hs=>(h2 i hi).1 hs) e r
  split
  ·exact h
  ·split
   ·exact h3 _ _
   ·exact h3 _ _
theorem aJ8{s:aD}:∀(l:List mW) {z:aW},qN s z→qN s (wZ z l)
 | [],_,h=>h
 | a::l,_,h=>aJ8 l (aSL h a)
theorem qN.po{s:aD}{z:aW}(h:qN s z):Om z:=fun hp=>by
 rcases h.eW with⟨_,_,h1,_⟩ | ⟨i,hi,h1,_⟩
 ·rw[h1] at hp;cases hp
 ·exact⟨i,h1,hi⟩
theorem qN.go{s:aD}{z:aW}{y:bX}(h:qN s z)(hy:FwB s y):aKk s z y:=by
 refine⟨h.rp,h.call,fun j hj hst=>?_,h.many,fun p hp=>(aDQ (h.Ei p hp).1 h.many.1 h.many.2).1,fun a ha=>hy.ans ha⟩;rcases h.eW with⟨_,h1,_⟩ | ⟨i,hi,h1,h2,h3⟩
 ·exact absurd hst (h1 j hj)
 ·obtain rfl:=(h2 j hj).1 hst;exact⟨h1,h3⟩
theorem aMu{s:aD}:qN s (Jc s):=by
 have ht:∀j,T3 j→(Jc s).tk j=Ph:=by rintro j (rfl | rfl | rfl)<;>rfl
 have h0:∀i,hG Ph i=0:=fun i=>by
  match i with
  | 0 | 1 | 2 | 3 | 4 | 5=>rfl
  | n+6=>rfl
 refine⟨⟨aC6 s [],fun j hj=>by rw[ht j hj];rfl,fun j hj i=>by rw[ht j hj,h0];decide,fun i=>?_,fun i=>?_,fun j hj h=>?_,fun j hj=>?_,fun j hj=>?_,⟨by show(0:Int)≤0;decide,by show(0:Int) < 1024;decide⟩,fun p hp=>by cases hp⟩,.inl ⟨rfl,fun j hj h=>?_,rfl,rfl,rfl⟩⟩
 ·rw[ht 0 (.inl rfl),ht 1 (.inr (.inl rfl)),ht 2 (.inr (.inr rfl)),h0];rfl
 ·show(0:Int)≤7
  decide
 ·rw[ht j hj] at h;exact nN 0 1 h
 ·rw[ht j hj];decide
 ·rw[ht j hj];decide
 ·rw[ht j hj] at h;exact nN 0 2 h
end
section
theorem aTT{w0:World}{R:List Piece}{H:List HP}{q:Piece}{A:Option Addr}{es:List (Int×Nat)}{j:Nat}{p:Int×Nat}(hq:q∈R)(hs:aI q 2 A es.length (es.flatMap Fo))(hj:es[j]? =some p):∃b off,A=some ⟨b,off,none⟩∧aQ w0 R H b (off+j*2) (Fo p):=by
 have hlt:=(List.getElem?_eq_some_iff.1 hj).1
 obtain⟨b,off,hA,hz,hc⟩:=aI.zN (rows:=es.map Fo) (sz:=2) (k:=j) (r:=Fo p) (n:=es.length) (by rw[←List.flatMap_def];exact hs) (fun r hr=>by
  obtain⟨x,_,rfl⟩:=List.mem_map.1 hr
  rfl) (by rw[List.getElem?_map,hj];rfl) hlt
 exact⟨b,off,hA,.of fun k v hv=>Rd.ro hq hz (hc k v hv)⟩
def iB(s:aD)(x:aO):Nat→aO×List mW
 | 0=>(x,[])
 | n+1=>((jK s (iB s x n).1 n).1,(iB s x n).2++(jK s (iB s x n).1 n).2.toList)
def oH(s:aD)(x:aO)(cY:Int):aO×List mW:=(iN s (iB s x s.aC.length).1 cY,(iB s x s.aC.length).2)
theorem Nr{s:aD}{x:aO}(hok:cF s x)(lB:Fz s x):∀n,cF s (iB s x n).1∧Fz s (iB s x n).1
 | 0=>⟨hok,lB⟩
 | n+1=>⟨aSQ (Nr hok lB n).1 (Nr hok lB n).2 n,aSO (Nr hok lB n).2 n⟩
theorem aEF{s:aD}{x:aO}:∀n,(iB s x n).2.length≤n
 | 0=>Nat.le_refl _
 | n+1=>by
  have:=aEF (s:=s) (x:=x) n
  show((iB s x n).2++_).length≤_
  rw[List.length_append];cases(jK s (iB s x n).1 n).2<;>simp<;>omega
theorem aBJ{s:aD}{x:aO}{i:Nat}(h:(x.wt[i]?).join=none):jK s x i=(x,none):=by
 unfold jK;rw[h]
theorem aEE{s:aD}{x:aO}{i:Nat}{t:jB}(hok:cF s x)(hi:i < s.aC.length)(h:(x.wt[i]?).join=some t):∃a,(jK s x i).2=some a∧(jK s x i).1.wt=x.wt.set i none:=by
 obtain⟨d,hd⟩:=get_some hi;obtain⟨p,hp⟩:=get_some (l:=x.dv) (i:=i) (by have:=hok.dv;omega);unfold jK;rw[h,hd,hp];dsimp only;split<;>exact⟨_,rfl,rfl⟩
theorem aSR{s:aD}{x:aO}(hok:cF s x)(i j:Nat)(h:j=i∨(x.wt[j]?).join=none):((jK s x i).1.wt[j]?).join=none:=by
 cases hq:(x.wt[i]?).join with
 | none=>
  rw[aBJ hq];rcases h with rfl | h
  ·exact hq
  ·exact h
 | some t =>
  have hlt:i < s.aC.length:=by
   have:=hok.wt
   rcases Nat.lt_or_ge i x.wt.length with h | h
   ·omega
   ·rw[List.getElem?_eq_none h] at hq;cases hq
  obtain⟨a,_,h2⟩:=aEE hok hlt hq;rw[h2];cases hj:((x.wt.set i none)[j]?).join with
  | none=>rfl
  | some t' =>
   have h3:=aCJ hj
   rcases h with rfl | h
   ·rw[List.getElem?_set] at hj;simp at hj;split at hj<;>cases hj
   ·rw[h] at h3;cases h3
theorem aJ7{s:aD}{x:aO}(hok:cF s x)(lB:Fz s x):∀n j,j < n→((iB s x n).1.wt[j]?).join=none
 | 0,_,h=>absurd h (by omega)
 | n+1,j,h=>aSR (Nr hok lB n).1 n j (by
  by_cases hj:j=n
  ·exact .inl hj
  ·exact .inr (aJ7 hok lB n j (by omega)))
theorem aJ4{s:aD}{x:aO}(hok:cF s x)(lB:Fz s x)(i:Nat):iQ (iB s x s.aC.length).1.wt i=0:=by
 have h:=(Nr hok lB s.aC.length).1.wt
 unfold iQ;rcases Nat.lt_or_ge i s.aC.length with hi | hi
 ·rw[aJ7 hok lB _ i hi];rfl
 ·rw[List.getElem?_eq_none (by omega)];rfl
theorem aP8(L:HL)(s:aD)(x0:aO)(w:World)(hH:s.dG)(aV:gX L s)(aDJ:cF s x0)(aHK:Fz s x0)(cY:Int)(hd:0≤cY∧cY < 4294967296)(F:Nat→Prop)(hp:(dS L s x0).sat F w)(hF:∀b,F b→b < w.heap.size):
  Cz 22 #[.pointer (some ⟨L.h,0,none⟩),.int .u32 cY] w (fun y w'=>∃a:Option Addr×Nat,y=.returned (.slice a.1 (oH s x0 cY).2.length a.2)∧True∧∃F',(HP.many [dS L s (oH s x0 cY).1,HP.own 143 4 (.slice a.1 (oH s x0 cY).2.length a.2) (oH s x0 cY).2.length ((oH s x0 cY).2.flatMap mW.cells)]).sat F' w'∧iE w w' F F'):=by
 have nB:=hH.t.nv
 have hnd:=hH.t.nd
 have hls:=aV.ds
 refine dJ func22 ntmps22 hp hF ?_;generalize cK:(⟨w,fun b=>b < w.heap.size∧¬F b⟩:Piece)=R0;refine aA ?_;refine aU (fun w1 t=>Cx L s x0 w1 (t.nD 0 rfl aV aDJ)) ?_;refine aA ?_;refine kd (bM rfl (rI 0 rfl rfl)) ?_;refine aA ?_;refine iO 143 4 ?_;refine bJ [(24,iv 0),(23,iv s.aC.length),(5,sn),(0,.pointer (some ⟨L.h,0,none⟩)),(1,.int .u32 cY)] ?_;refine eI (fun m e R H=>∃(i:Nat) (A:Option Addr) (c:Nat),i≤s.aC.length∧m=s.aC.length - i∧e=[(24,iv i),(23,iv s.aC.length),(5,.slice A (iB s x0 i).2.length c),(0,.pointer (some ⟨L.h,0,none⟩)),(1,.int .u32 cY)]∧R=[R0]∧H=[HP.own 143 4 (.slice A (iB s x0 i).2.length c) (iB s x0 i).2.length ((iB s x0 i).2.flatMap mW.cells),dS L s (iB s x0 i).1]) s.aC.length ⟨0,none,0,by omega,rfl,rfl,rfl,rfl⟩ fun m e R H hI=>?_;obtain⟨i,A0,c0,hi,rfl,rfl,rfl,rfl⟩:=hI;obtain⟨Ju,aAY⟩:=Nr aDJ aHK i
 have hlen:=aEF (s:=s) (x:=x0) i
 refine aA ?_;refine aG rfl (fun hlt=>?_) (fun hge=>?_)
 ·have hlt:i < s.aC.length:=by omega
  have dV:iB s x0 (i+1)=((jK s (iB s x0 i).1 i).1,(iB s x0 i).2++(jK s (iB s x0 i).1 i).2.toList):=rfl
  generalize hr:iB s x0 i=r at Ju aAY hlen dV⊢;obtain⟨xi,l⟩:=r;dsimp only at Ju aAY hlen dV⊢;cases hj:(xi.wt[i]?).join with
  | none=>
   rw[aBJ hj] at dV;refine aA ?_;refine aU (fun w1 t=>aPG L s xi i hlt (by unfold iQ;rw[hj];rfl) w1 (t.nD 1 rfl aV Ju)) ?_;refine aA ?_;refine bR fun g1=>?_;refine aA ?_;refine aY [1,2] rfl (by decide) (fun _ h=>h) ?_;refine bJ [(24,iv (i+1:Nat)),(23,iv s.aC.length),(5,.slice A0 l.length c0),(0,.pointer (some ⟨L.h,0,none⟩)),(1,.int .u32 cY)] ?_;exact iC (s.aC.length - (i+1)) (by omega) ⟨i+1,A0,c0,hlt,rfl,by rw[dV];simp,rfl,by rw[dV];simp⟩
  | some t=>
   obtain⟨d,dD⟩:=get_some hlt;obtain⟨a,ha,_⟩:=aEE Ju hlt hj;obtain⟨So,Yx,Nt,Kw⟩:=a;rw[ha] at dV;refine aA ?_;refine aAU (v:=.tuple #[.agg #[iv So,iv Yx,.bool Nt,.int .u32 Kw],.bool true]) 1 (dS L s (jK s xi i).1) (fun w1 F1 st h1 h2 h3=>aPF L s xi w1 hH aV Ju aAY i d dD t hj _ ha F1 h1 h2) ?_;dsimp only[List.set];refine aA ?_;refine bR fun g1=>?_;refine aA ?_;refine eL fun g4=>?_;refine aA ?_;refine gH 2 4 24 1 (n':=l.length+1) (el:=143) (by kernel_rfl) (by kernel_rfl) (by decide) rfl rfl rfl (nJ 0 rfl rfl) (by simp[Value.oneCell']) rfl (by omega) (by omega) (by decide) fun An cn=>?_;dsimp only[List.set];refine aA ?_;refine aY [2,3] rfl (by decide) (fun _ h=>h) ?_;refine bJ [(24,iv (i+1:Nat)),(23,iv s.aC.length),(5,.slice An (l.length+1) cn),(0,.pointer (some ⟨L.h,0,none⟩)),(1,.int .u32 cY)] ?_;exact iC (s.aC.length - (i+1)) (by omega) ⟨i+1,An,cn,hlt,rfl,by rw[dV];simp,rfl,by rw[dV];simp[mW.cells]⟩
 obtain rfl:i=s.aC.length:=by omega
 have lB:=aJ4 aDJ aHK
 have aDP:oH s x0 cY=(iN s (iB s x0 s.aC.length).1 cY,(iB s x0 s.aC.length).2):=rfl
 generalize hr:iB s x0 s.aC.length=r at Ju aAY hlen lB aDP⊢;obtain⟨x,l⟩:=r;dsimp only at Ju lB hlen aDP⊢;rw[aDP]
 have hok:=Ju
 have iY:=hok.dv
 refine aY [1,0] rfl (by decide) (fun _ h=>h) ?_;generalize hT:HP.own 143 4 (.slice A0 l.length c0) l.length (l.flatMap mW.cells)=T;generalize hTv:Value.slice A0 l.length c0=tv;refine aA ?_;refine kd (bM rfl (rI 0 rfl rfl)) ?_;refine aA ?_
 have Jt:zT x cY 0=x.dv:=Qb _ _
 refine bJ [(44,iv 0),(43,iv s.aC.length),(42,.slice L.A s.aC.length L.c),(5,tv),(0,.pointer (some ⟨L.h,0,none⟩)),(1,.int .u32 cY)] ?_;refine eI (fun m e R H=>∃i:Nat,i≤s.aC.length∧m=s.aC.length - i∧e=[(44,iv i),(43,iv s.aC.length),(42,.slice L.A s.aC.length L.c),(5,tv),(0,.pointer (some ⟨L.h,0,none⟩)),(1,.int .u32 cY)]∧R=[R0]∧H=[dS L s {x with dv:=zT x cY i},T]) s.aC.length ⟨0,by omega,rfl,rfl,rfl,by rw[Jt]⟩ fun m e R H hI=>?_;obtain⟨i,hi,rfl,rfl,rfl,rfl⟩:=hI
 have nP:=aDp hH hok cY i
 refine aA ?_;refine aG rfl (fun hlt=>?_) (fun hge=>?_)
 ·have hlt:i < s.aC.length:=by omega
  obtain⟨d,dD⟩:=get_some hlt;obtain⟨l,iS⟩:=get_some (l:=L.ds) (i:=i) (by omega);obtain⟨p,gK⟩:=get_some (l:=x.dv) (i:=i) (by omega)
  have lR:(zT x cY i)[i]? =some p:=Qd gK
  have hstep:(zT x cY i).set i (p.1,uE p.2 (decide (0 < iQ x.wt i)) (Hz cY i))=zT x cY (i+1):=Qc (f:=fun i p=>(p.1,uE p.2 (decide (0 < iQ x.wt i)) (Hz cY i))) gK
  have hw0:decide (0 < iQ x.wt i)=false:=by rw[lB i];rfl
  rw[hw0] at hstep;refine Ny 0 rfl aV nP (by omega) fun b off hA=>?_;refine aA ?_;refine kd (dat i (off+i*6) (hx:=by rw[←hA];rfl)) ?_;refine kd (oZ rfl (aQ.dev 0 rfl aV nP hA dD iS rfl)) ?_;refine bR fun g1=>?_;refine aA ?_;refine jL [0,1,3,4,5,11,12,13] ?_;refine bP 2 ?_;refine bP 6 ?_;refine bP 9 ?_;refine bP 10 ?_;refine aJ 0 ?_;refine aJ 1 ?_;refine aJ 3 ?_;refine aJ 4 ?_;refine aJ 5 ?_ (dI:=bM rfl (rI 1 rfl rfl));refine aJ 11 ?_ (dI:=aIT rfl rfl (c:=cY.fdiv (2 ^ min i 32)) (by omega) rfl);refine aJ 12 ?_ (dI:=aJa (c:=aBL (cY.fdiv (2 ^ min i 32)) 1) rfl rfl (fun _=>rfl) (by simp));refine aJ 13 ?_;refine aM 7 ?_;refine aU (fun w1 t=>aJv L.B (kJ s) x.wt x.aR i (by rw[Gq];exact hlt) w1 (t.nD 1 rfl aV nP).bus) ?_;refine bL ?_;refine aM 8 ?_;refine bH ?_;refine bL ?_;refine aM 14 ?_;refine Ss 1 i rfl dD iS lR ?_;dsimp only[List.set];refine bF 0 1 ?_;refine dU 0 (uZ l.2 (uE p.2 (decide ((iQ x.wt i:Int)>0)) (Hz cY i))) (fun w1 F1 t h1 h2 h3=>aNr _ _ h1 h2) ?_;refine aN 0 1 ?_;refine Tf 1 i rfl dD iS lR (p':=(p.1,uE p.2 (decide ((iQ x.wt i:Int)>0)) (Hz cY i))) ?_;dsimp only[List.set]
  have hw1:decide ((iQ x.wt i:Int)>0)=false:=by rw[lB i];rfl
  rw[hw1,hstep];refine cX ?_;refine fJ ?_;refine aA ?_;refine aY [1,2] rfl (by decide) (fun _ h=>h) ?_;exact dY (s.aC.length - (i+1)) ⟨i+1,hlt,rfl,rfl,rfl,rfl⟩
 obtain rfl:i=s.aC.length:=by omega
 have aDI:=aDp hH hok cY s.aC.length
 generalize tJ:zT x cY s.aC.length=Df at aDI⊢;refine aA ?_;refine kd (bM rfl (rI 0 rfl rfl)) ?_;refine aA ?_;refine bF 0 1 ?_;refine dU 0 (rF L.T s (lN s x.ck)) (fun w1 F1 t h1 h2 h3=>aSc L.T s x.ck hH aV.fa hok.ck w1 F1 h1 h2) ?_;refine aN 0 1 ?_
 change XK _ _ _ _ _ [dS L s {x with ck:=lN s x.ck,dv:=Df},T]
 refine aA ?_;refine kd (bM rfl (rI 0 rfl rfl)) ?_;refine aA ?_;refine bF 0 2 ?_;refine zI (α:=Option Addr×Nat) 0 (f:=59) (fi:=[]) (ca:=[]) (fun a=>.slice a.1 (lS x.dm s.domains.length).length a.2) (fun a=>HP.many [wE L.G s (oF x.dm),HP.own 151 2 (.slice a.1 (lS x.dm s.domains.length).length a.2) (lS x.dm s.domains.length).length ((lS x.dm s.domains.length).flatMap Fo)]) (fun _=>True) (by kernel_rfl) rfl rfl rfl (by decide) (fun w1 F1 t h1 h2 h3=>aNx L.G s x.dm hok.dm (by omega) w1 F1 h1 h2) ?_;rintro⟨Ae,ce⟩ _;dsimp only[List.set];refine bF 0 0 ?_;refine aN 1 2 ?_;refine bF 0 1 ?_;refine dP [] [0] [2,3] (by simp) rfl (by decide) (by decide) fun q hq _ hfr=>?_;obtain⟨F2,Cg,By⟩:=hq 0 _ (by simp) rfl
 have hev:aI q 2 Ae (lS x.dm s.domains.length).length ((lS x.dm s.domains.length).flatMap Fo):=aI.own ⟨F2,Cg,By⟩
 have mM:cF s {x with ck:=lN s x.ck,dm:=oF x.dm,dv:=Df}:=⟨aCF hH hok.ck,aCE hok.dm,hok.ln,aDI.dv,aDI.each,hok.wt⟩
 have hel:(lS x.dm s.domains.length).length≤1000:=Nat.le_trans (aII x.dm s.domains.length) (by omega)
 generalize hes:lS x.dm s.domains.length=es at hev hel⊢
 change XK _ _ _ _ _ [dS L s {x with ck:=lN s x.ck,dm:=oF x.dm,dv:=Df},T]
 refine aA ?_;refine bJ [(76,iv 0),(75,iv es.length),(74,.slice Ae es.length ce),(5,tv),(0,.pointer (some ⟨L.h,0,none⟩))] ?_;refine eI (fun m e R H=>∃j:Nat,j≤es.length∧m=es.length - j∧e=[(76,iv j),(75,iv es.length),(74,.slice Ae es.length ce),(5,tv),(0,.pointer (some ⟨L.h,0,none⟩))]∧R=[q,R0]∧H=[dS L s {x with ck:=lN s x.ck,dm:=oF x.dm,dv:=(es.take j).foldl (sP s) Df},T]) es.length ⟨0,by omega,rfl,rfl,rfl,rfl⟩ fun m e R H hI=>?_;obtain⟨j,hj,rfl,rfl,rfl,rfl⟩:=hI
 have Jv:cF s {x with ck:=lN s x.ck,dm:=oF x.dm,dv:=(es.take j).foldl (sP s) Df}:=aEh hH (es.take j) _ mM
 refine aA ?_;refine aG rfl (fun hlt=>?_) (fun hge=>?_)
 ·have hlt:j < es.length:=by omega
  obtain⟨p,gK⟩:=get_some hlt
  have dV:(es.take (j+1)).foldl (sP s) Df=sP s ((es.take j).foldl (sP s) Df) p:=by
   rw[List.take_add_one,gK,List.foldl_append];rfl
  generalize hx3:({x with ck:=lN s x.ck,dm:=oF x.dm,dv:=(es.take j).foldl (sP s) Df}:aO)=x3 at Jv
  have hx4:({x with ck:=lN s x.ck,dm:=oF x.dm,dv:=(es.take (j+1)).foldl (sP s) Df}:aO)={x3 with dv:=sP s x3.dv p}:=by rw[dV,←hx3]
  have aUo:=Jv.dv
  obtain⟨be,aNX,hAe,hrd⟩:=aTT (w0:=w) (R:=[q,R0]) (H:=[dS L s x3,T]) (by simp) hev gK;obtain⟨kn,dm⟩:=p;refine aA ?_;refine kd (dat j (aNX+j*2) (hx:=by rw[←hAe];rfl)) ?_;refine kd (oZ rfl hrd) ?_;refine bR fun g1=>?_;refine aA ?_;refine aU (fun w1 t=>aPD kn w1) ?_
  by_cases hk:kn=115∨kn=114∨kn=108∨kn=110
  ·obtain⟨f,Wv,hcb,Au⟩:=aRI hk;rw[Wv];refine aA ?_;refine kd (aIZ rfl (.inr ⟨⟨_,_,_,rfl⟩,rfl⟩)) ?_;refine aA ?_;refine kd (bM rfl (rI 1 rfl rfl)) ?_;refine aA ?_
   have hm0:Cm s x3.dv (kn,dm) 0=x3.dv:=Qb _ _
   refine bJ [(90,iv 0),(89,iv s.aC.length),(88,.slice L.A s.aC.length L.c),(13,.func (.func f) #[] #[]),(12,pt g1),(76,iv j),(75,iv es.length),(74,.slice Ae es.length ce),(5,tv),(0,.pointer (some ⟨L.h,0,none⟩))] ?_;refine eI (fun m e R H=>∃i:Nat,i≤s.aC.length∧m=s.aC.length - i∧e=[(90,iv i),(89,iv s.aC.length),(88,.slice L.A s.aC.length L.c),(13,.func (.func f) #[] #[]),(12,pt g1),(76,iv j),(75,iv es.length),(74,.slice Ae es.length ce),(5,tv),(0,.pointer (some ⟨L.h,0,none⟩))]∧R=[q,R0]∧H=[HP.aE g1 151 [.int .u8 kn,iv (dm:Int)],dS L s {x3 with dv:=Cm s x3.dv (kn,dm) i},T]) s.aC.length ⟨0,by omega,rfl,rfl,rfl,by rw[hm0];rfl⟩ fun m e R H hI=>?_;obtain⟨i,hi,rfl,rfl,rfl,rfl⟩:=hI
   have nP:=aHy hH Jv (kn,dm) i
   refine aA ?_;refine aG rfl (fun hlt=>?_) (fun hge=>?_)
   ·have hlt:i < s.aC.length:=by omega
    obtain⟨d,dD⟩:=get_some hlt;obtain⟨l,iS⟩:=get_some (l:=L.ds) (i:=i) (by omega);obtain⟨p,gK⟩:=get_some (l:=x3.dv) (i:=i) (by omega)
    have lR:(Cm s x3.dv (kn,dm) i)[i]? =some p:=Qd gK
    have hstep:(Cm s x3.dv (kn,dm) i).set i (Fs s (kn,dm) i p)=Cm s x3.dv (kn,dm) (i+1):=Qc (f:=Fs s (kn,dm)) gK
    have hfo:=(nP.each i d p dD lR).1
    refine Ny 1 rfl aV nP (by omega) fun b off hA=>?_;refine aA ?_;refine kd (dat i (off+i*6) (hx:=by rw[←hA];rfl)) ?_;refine kd (oZ rfl (aQ.dev 1 rfl aV nP hA dD iS rfl)) ?_;refine bR fun g2=>?_;refine aA ?_;refine aG rfl (fun he=>?_) (fun he=>?_)
    ·have nC:Fs s (kn,dm) i p=(Ic kn d p.1,p.2):=by
      unfold Fs;rw[dD];exact if_pos he
     refine aA ?_;refine Ss 2 i rfl dD iS lR ?_;dsimp only[List.set];refine bF 0 0 ?_;refine aAT 0 (fi:=[]) (ca:=[]) (iF l.1 d (Ic kn d p.1)) (fun w1 F1 t h1 h2 h3=>by simpa using Au l.1 d p.1 (by have:=(hH.t.aC i d dD).2.2.2.2.2.2.2.2.1;omega) hfo w1 F1 h1 h2) ?_ (hf:=hcb);dsimp only[List.set];refine aN 0 0 ?_;refine Tf 2 i rfl dD iS lR (p':=(Ic kn d p.1,p.2)) ?_;dsimp only[List.set];rw[←nC,hstep];refine aA ?_;refine aY [1,2,3] rfl (by decide) (fun _ h=>h) ?_;exact dY (s.aC.length - (i+1)) ⟨i+1,hlt,rfl,rfl,rfl,rfl⟩
    ·have nC:Fs s (kn,dm) i p=p:=by
      unfold Fs;rw[dD];exact if_neg he
     rw[nC,xY lR] at hstep;rw[hstep];refine aA ?_;refine aY [1,2,3] rfl (by decide) (fun _ h=>h) ?_;exact dY (s.aC.length - (i+1)) ⟨i+1,hlt,rfl,rfl,rfl,rfl⟩
   obtain rfl:i=s.aC.length:=by omega
   refine aA ?_;refine aY [1,2] rfl (by decide) (fun _ h=>h) ?_;refine bJ [(76,iv (j+1:Nat)),(75,iv es.length),(74,.slice Ae es.length ce),(5,tv),(0,.pointer (some ⟨L.h,0,none⟩))] ?_;exact iC (es.length - (j+1)) (by omega) ⟨j+1,by omega,rfl,rfl,rfl,by rw[hx4];rfl⟩
  ·have Wv:Ib kn=.nilFunc:=by
    rw[Ib,if_neg (by omega),if_neg (by omega),if_neg (by omega)]
   rw[Wv];refine aA ?_;refine kd (aIZ rfl (.inl ⟨rfl,rfl⟩)) ?_;refine aA ?_;refine aY [1,2] rfl (by decide) (fun _ h=>h) ?_;refine bJ [(76,iv (j+1:Nat)),(75,iv es.length),(74,.slice Ae es.length ce),(5,tv),(0,.pointer (some ⟨L.h,0,none⟩))] ?_;exact iC (es.length - (j+1)) (by omega) ⟨j+1,by omega,rfl,rfl,rfl,by rw[hx4,aOs hk,←hx3]⟩
 obtain rfl:j=es.length:=by omega
 rw[List.take_length];refine aA ?_;refine kd (bM rfl (rI 0 rfl rfl)) ?_;refine aA ?_;refine bF 0 3 ?_;refine zI (α:=Option Addr×Nat×Nat) 0 (f:=61) (fi:=[]) (ca:=[]) (fun a=>.slice a.1 a.2.1 a.2.2) (fun _=>qQ L.R s (Ee x.ln)) (fun _=>True) (by kernel_rfl) rfl rfl rfl (by decide) (fun w1 F1 t h1 h2 h3=>aMj L.R s x.ln hH hok.ln w1 F1 h1 h2) ?_;rintro _ _;dsimp only[List.set];refine aN 0 3 ?_
 change XK _ _ _ _ _ [dS L s {x with ck:=lN s x.ck,dm:=oF x.dm,ln:=Ee x.ln,dv:=es.foldl (sP s) Df},T]
 have wS:({x with ck:=lN s x.ck,dm:=oF x.dm,ln:=Ee x.ln,dv:=es.foldl (sP s) Df}:aO)=iN s x cY:=by rw[iN,tJ,hes]
 rw[wS];refine aA ?_;subst cK;subst hT;subst hTv;refine nG ?_;exact nR rfl rfl fun w1 t=>⟨(A0,c0),rfl,trivial,t.turns hF (by simp) (i:=0) rfl⟩
end
section
structure dR where
 z:aW
 y:bX
 x:aO
def dR.start(m:dR)(t k d r v:Int):dR:=⟨(vH m.z t k d r v).2,m.y,m.x⟩
def dR.done(m:dR)(t:Int):dR:=⟨(nE m.z t).2,m.y,m.x⟩
def dR.step(s:aD)(m:dR)(t:Int):dR:=⟨(Eh s m.z m.y m.x t).1,(Eh s m.z m.y m.x t).2.1,(Eh s m.z m.y m.x t).2.2⟩
def dR.eZ(s:aD)(m:dR):dR:=⟨m.z,(kX s m.x m.y).1,(kX s m.x m.y).2⟩
def dR.tick(s:aD)(m:dR)(cY:Int):dR:=⟨wZ m.z (oH s m.x cY).2,m.y,(oH s m.x cY).1⟩
structure eN(s:aD)(n:Nat)(m:dR):Prop where
 zM:qN s m.z
 fw:rJ s m.y
 hw:cF s m.x
 wt:Fz s m.x
 po:0≤m.x.aR∧m.x.aR≤n
 w0:m.z.aR=false→∀i:Nat,(m.x.wt[i]?).join=none
 w1:m.z.aR=true→∃(i:Nat) (t:jB),i < s.aC.length∧(m.x.wt[i]?).join=some t∧t.id=m.z.id∧∀k:Nat,k≠i→(m.x.wt[k]?).join=none
section
variable{s:aD}{n:Nat}{m:dR}
theorem eN.le{k:Nat}(h:eN s n m)(hk:n≤k):eN s k m:=⟨h.zM,h.fw,h.hw,h.wt,by have:=h.po;omega,h.w0,h.w1⟩
theorem eN.start(h:eN s n m)(t k d r v:Int)(hv:0≤v∧v < 4294967296):eN s n (m.start t k d r v):=by
 obtain⟨h1,h2,h3⟩:=aLB h.zM t k d r v hv;refine⟨h1,h.fw,h.hw,h.wt,h.po,fun hp=>h.w0 (h2.symm.trans hp),fun hp=>?_⟩
 have h4:=h.w1 (h2.symm.trans hp)
 rwa [←h3] at h4
theorem eN.done(h:eN s n m)(t:Int):eN s n (m.done t):=by
 obtain⟨h1,h2,h3⟩:=aRj h.zM t;refine⟨h1,h.fw,h.hw,h.wt,h.po,fun hp=>h.w0 (h2.symm.trans hp),fun hp=>?_⟩
 have h4:=h.w1 (h2.symm.trans hp)
 rwa [←h3] at h4
theorem eN.eZ(hm:s.made)(h:eN s n m):eN s n (m.eZ s):=by
 obtain⟨h1,h2,h3,h4⟩:=h.fw.next hm.dG h.hw;refine⟨h.zM,h1,h2,fun i d t hd ht=>h.wt i d t hd (by rw[←h3];exact ht),by rw[show(m.eZ s).x.aR=m.x.aR from h4];exact h.po,fun hp i=>?_,fun hp=>?_⟩
 ·show((kX s m.x m.y).2.wt[i]?).join=none
  rw[h3];exact h.w0 hp i
 ·show ∃i t,i < s.aC.length∧((kX s m.x m.y).2.wt[i]?).join=some t∧t.id=m.z.id∧∀k:Nat,k≠i→((kX s m.x m.y).2.wt[k]?).join=none
  rw[h3];exact h.w1 hp
theorem eN.idle(h:eN s n m)(hp:m.z.aR=false)(hn:n≤1000000000):HwP s m.x:=⟨h.hw,h.w0 hp,by have:=h.po;omega⟩
theorem eN.free(h:eN s n m)(hh:m.z.eW < 0):m.z.aR=false:=by
 rcases h.zM.eW with⟨_,_,h1,_⟩ | ⟨i,_,h1,_⟩
 ·exact h1
 ·omega
theorem eN.step(hm:s.made)(h:eN s n m)(t:Int):eN s (n+1) (m.step s t):=by
 have same:eN s (n+1) ⟨m.z,m.y,m.x⟩:=h.le (by omega)
 unfold dR.step Eh;split
 ·exact same
 ·rename_i hin
  obtain⟨j,rfl,hj⟩:=Qn (t:=t) (by simpa using hin);rw[Int.toNat_natCast];split
  ·split
   ·rename_i hh
    have hp:=h.free hh
    have hw0:=h.w0 hp
    obtain⟨h1,h2,h3,h4⟩:=aSC hm h.zM hh m.x hj;dsimp only;generalize pF s m.x m.z j=r at h1 h3 h4;obtain⟨z',x'⟩:=r;dsimp only at h1 h3 h4⊢;cases hp':z'.aR with
    | false=>
     cases h3 hp';exact⟨h1,h.fw,h.hw,h.wt,by have:=h.po;dsimp only;omega,fun _=>hw0,fun hc=>by dsimp only at hc;rw[hp'] at hc;cases hc⟩
    | true =>
     obtain⟨d,wr,rg,v,dv,tJ,r0,r1,v0,v1,hid,rfl⟩:=h4 hp'
     have hlt:=(List.getElem?_eq_some_iff.1 tJ).1
     have vO:=h.hw.wt
     have fS:∀k:Nat,(((m.x.wt.set d (some ⟨m.x.aR,wr,rg,v⟩))[k]?).join)=if k=d then some ⟨m.x.aR,wr,rg,v⟩ else none:=fun k=>by
      rw[List.getElem?_set]
      by_cases e:d=k
      ·subst e;rw[if_pos rfl,if_pos (by omega),if_pos rfl];rfl
      ·rw[if_neg e,if_neg (fun hh=>e hh.symm)];exact hw0 k
     refine⟨h1,h.fw,aAl h.hw d _ _,fun i e t he ht=>?_,?_,fun hc=>?_,fun _=>⟨d,⟨m.x.aR,wr,rg,v⟩,hlt,?_,hid.symm,fun k hk=>?_⟩⟩
     ·have Gv:((m.x.wt.set d (some ⟨m.x.aR,wr,rg,v⟩))[i]?).join=some t:=ht
      rw[fS] at Gv
      by_cases e1:i=d
      ·rw[if_pos e1] at Gv;cases Gv;rw[e1,tJ] at he;cases he;exact⟨r0,r1,v0,v1⟩
      ·rw[if_neg e1] at Gv;cases Gv
     ·have:=h.po
      show 0≤m.x.aR+1∧m.x.aR+1≤((n+1:Nat):Int)
      omega
     ·dsimp only at hc;rw[hp'] at hc;cases hc
     ·show((m.x.wt.set d (some ⟨m.x.aR,wr,rg,v⟩))[d]?).join=_
      rw[fS,if_pos rfl]
     ·show((m.x.wt.set d (some ⟨m.x.aR,wr,rg,v⟩))[k]?).join=_
      rw[fS,if_neg hk]
   ·exact same
  ·split
   ·rename_i hst
    split
    ·rename_i hp
     obtain⟨h1,h2,h3⟩:=aTe h.zM h.fw hj hst hp;exact⟨h1,h2,h.hw,h.wt,by have:=h.po;dsimp only;omega,fun _=>h.w0 hp,fun hc=>by dsimp only at hc;rw[h3] at hc;cases hc⟩
    ·exact same
   ·exact same
theorem aBK{x:aO}:∀n:Nat,(∀k,k < n→(x.wt[k]?).join=none)→iB s x n=(x,[])
 | 0,_=>rfl
 | n+1,h=>by
  have ih:=aBK n fun k hk=>h k (by omega)
  have hx:=aBJ (s:=s) (h n (by omega))
  show((jK s (iB s x n).1 n).1,(iB s x n).2++(jK s (iB s x n).1 n).2.toList)=_
  rw[ih];dsimp only;rw[hx];rfl
theorem aJ6{x:aO}(hok:cF s x){i:Nat}{t:jB}(hi:i < s.aC.length)(ht:(x.wt[i]?).join=some t)(ho:∀k:Nat,k≠i→(x.wt[k]?).join=none):
  ∃a,(jK s x i).2=some a∧a.id=t.id∧a.dev=i∧∀d,iB s x (i+1+d)=((jK s x i).1,[a]):=by
 obtain⟨a,ha,lB⟩:=aEE hok hi ht;refine⟨a,ha,?_,?_,fun d=>?_⟩
 ·obtain⟨d,hd⟩:=get_some hi;obtain⟨p,hp⟩:=get_some (l:=x.dv) (i:=i) (by have:=hok.dv;omega);unfold jK at ha;rw[ht,hd,hp] at ha;dsimp only at ha;split at ha<;>cases ha<;>rfl
 ·obtain⟨d,hd⟩:=get_some hi;obtain⟨p,hp⟩:=get_some (l:=x.dv) (i:=i) (by have:=hok.dv;omega);unfold jK at ha;rw[ht,hd,hp] at ha;dsimp only at ha;split at ha<;>cases ha<;>rfl
 ·induction d with
  | zero=>
   show((jK s (iB s x i).1 i).1,(iB s x i).2++(jK s (iB s x i).1 i).2.toList)=_
   rw[aBK i fun k hk=>ho k (by omega)];dsimp only;rw[ha];rfl
  | succ d ih =>
   show((jK s (iB s x (i+1+d)).1 (i+1+d)).1,(iB s x (i+1+d)).2++(jK s (iB s x (i+1+d)).1 (i+1+d)).2.toList)=_
   rw[ih];dsimp only
   have hx:jK s (jK s x i).1 (i+1+d)=((jK s x i).1,none):=aBJ (by
    rw[lB,List.getElem?_set,if_neg (by omega)]
    exact ho _ (by omega))
   rw[hx];rfl
theorem eN.ans(h:eN s n m)(cY:Int):(m.z.aR=false→(oH s m.x cY).2=[])∧(m.z.aR=true→∃a,(oH s m.x cY).2=[a]∧a.id=m.z.id):=by
 refine⟨fun hp=>?_,fun hp=>?_⟩
 ·show(iB s m.x s.aC.length).2=[]
  rw[aBK _ fun k _=>h.w0 hp k]
 ·obtain⟨i,t,hi,ht,hid,ho⟩:=h.w1 hp;obtain⟨a,_,ha,_,hn⟩:=aJ6 h.hw hi ht ho;obtain⟨d,hd⟩:∃d,s.aC.length=i+1+d:=⟨s.aC.length - (i+1),by omega⟩
  refine⟨a,?_,ha.trans hid⟩
  show(iB s m.x s.aC.length).2=[a]
  rw[hd,hn d]
theorem eN.aLv(h:eN s n m)(cY:Int):(m.tick s cY).z.aR=false:=by
 obtain⟨h1,h2⟩:=h.ans cY
 show(wZ m.z (oH s m.x cY).2).aR=false
 cases hp:m.z.aR with
 | false=>rw[h1 hp];exact hp
 | true=>
  obtain⟨a,h3,h4⟩:=h2 hp;rw[h3]
  show(Bf m.z a).aR=false
  unfold Bf;rw[if_neg (by rw[hp];simp),if_neg (fun hc=>hc h4)];split<;>rfl
theorem aSP(s:aD)(x:aO)(i:Nat):(jK s x i).1.aR=x.aR:=by
 unfold jK;split
 ·split<;>rfl
 ·rfl
theorem aJ5(s:aD)(x:aO):∀n,(iB s x n).1.aR=x.aR
 | 0=>rfl
 | n+1=>(aSP s _ n).trans (aJ5 s x n)
theorem eN.tick(hm:s.made)(h:eN s n m)(cY:Int):eN s n (m.tick s cY):=by
 obtain⟨a1,a2⟩:=Nr h.hw h.wt s.aC.length
 have hz:∀i:Nat,(((m.tick s cY).x.wt)[i]?).join=none:=fun i=>by
  have:=aJ4 h.hw h.wt i
  show((iB s m.x s.aC.length).1.wt[i]?).join=none
  unfold iQ at this;cases hh:((iB s m.x s.aC.length).1.wt[i]?).join with
  | none=>rfl
  | some t=>rw[hh] at this;simp at this
 refine⟨aJ8 _ h.zM,h.fw,aFU hm.dG a1 cY,(fun i d t _ ht=>by rw[hz i] at ht;cases ht),?_,fun _=>hz,fun hp=>by rw[h.aLv cY] at hp;cases hp⟩
 show 0≤(iB s m.x s.aC.length).1.aR∧(iB s m.x s.aC.length).1.aR≤n
 rw[aJ5];exact h.po
end
def Md(s:aD):dR:=⟨Jc s,tM s,hw0 s⟩
theorem aHB{s:aD}(hm:s.made):eN s 0 (Md s):=by
 have hx:=aHM hm.dG
 have hw:∀i:Nat,((hw0 s).wt[i]?).join=none:=fun i=>by
  show((s.aC.map fun _=>(none:Option jB))[i]?).join=none
  rw[List.getElem?_map];cases s.aC[i]? <;>rfl
 exact⟨aMu,aQC hm.wQ,hx,(fun i d t _ ht=>by
  have:=(hw i).symm.trans ht
  cases this),⟨Int.le_refl 0,Int.le_refl 0⟩,fun _=>hw,fun hp=>by cases hp⟩
theorem aBu{P:Program}{fn:FuncId}{args:Array Value}{w:World}{ps:List HP}(i:Nat){p p':HP}{v:Value}{F:Nat→Prop}(hi:ps[i]? =some p)(h:∀F0,p.sat F0 w→(∀b,F0 b→b < w.heap.size)→(∀b,F0 b→F b)→Calls P fn args w fun y w'=>y=.returned v∧∃F',p'.sat F' w'∧iE w w' F0 F')
  (hp:(HP.many ps).sat F w) (hF:∀b,F b→b < w.heap.size):Calls P fn args w fun y w'=>y=.returned v∧∃F',(HP.many (ps.set i p')).sat F' w'∧iE w w' F F':=by
 obtain⟨G,g1,g2,g3⟩:=hp
 have hlt:=(List.getElem?_eq_some_iff.1 hi).1
 refine(h (G i) (g1 i p hi) (fun b hb=>hF b (g2 i b hb)) (g2 i)).mono fun y w' ⟨hy,F',h1,ht⟩=>⟨hy,fun b=>F' b∨∃k,k≠i∧k < ps.length∧G k b,⟨fun k=>if k=i then F' else fun b=>k < ps.length∧G k b,fun k r hr=>?_,fun k b hb=>?_,fun j k b lC hj hk=>?_⟩,⟨ht.os,ht.tape,ht.output,ht.size,fun b hb=>?_,fun b hb hn=>?_⟩⟩
 ·by_cases e:i=k
  ·subst e;rw[List.getElem?_set_self hlt] at hr;cases hr
   simpa using h1
  ·rw[List.getElem?_set_ne e] at hr
   have hk:=(List.getElem?_eq_some_iff.1 hr).1
   simp only[if_neg (Ne.symm e)];rw[show(fun b=>k < ps.length∧G k b)=G k by funext b;simp[hk]];exact r.loc _ _ _ (g1 k r hr) fun b hb=>ht.old b (hF b (g2 k b hb)) fun h0=>g3 i k b e h0 hb
 ·dsimp only at hb;split at hb
  ·exact .inl hb
  ·exact .inr ⟨k,by assumption,hb.1,hb.2⟩
 ·have key:∀k b,k≠i→F' b→G k b→False:=fun k b hki h0 h2=>by
   rcases(ht.new b h0).1 with h3 | h3
   ·exact g3 i k b (Ne.symm hki) h3 h2
   ·have:=hF b (g2 k b h2)
    omega
  dsimp only at hj hk;split at hj<;>split at hk
  ·rename_i e1 e2;exact lC (e1.trans e2.symm)
  ·rename_i e1 e2;exact key k b e2 hj hk.2
  ·rename_i e1 e2;exact key j b e1 hk hj.2
  ·exact g3 j k b lC hj.2 hk.2
 ·rcases hb with hb | ⟨k,_,_,hb⟩
  ·refine⟨?_,(ht.new b hb).2⟩;rcases(ht.new b hb).1 with h3 | h3
   ·exact .inl (g2 i b h3)
   ·exact .inr h3
  ·exact⟨.inl (g2 k b hb),Nat.lt_of_lt_of_le (hF b (g2 k b hb)) ht.size⟩
 ·exact ht.old b hb fun h0=>hn (g2 i b h0)
theorem aOD{a b c:HP}{F:Nat→Prop}{w:World}(h:(HP.many [a,b,c]).sat F w):(HP.many [a,HP.many [b,c]]).sat F w:=by
 obtain⟨G,g1,g2,g3⟩:=h
 have h1:=g1 1 b rfl
 have h2:=g1 2 c rfl
 have key:∀k,k < 3→(fun b=>k < 3∧G k b)=G k:=fun k hk=>by funext b;simp[hk]
 refine⟨fun i=>match i with | 0=>G 0 | 1=>fun b=>G 1 b∨G 2 b | _=>fun _=>False,fun i p hi=>?_,fun i b hb=>?_,fun i j b hij hi hj=>?_⟩
 ·match i,hi with
  | 0,hi=>cases hi;exact g1 0 _ rfl
  | 1, hi =>
   cases hi;refine⟨fun i=>match i with | 0=>G 1 | 1=>G 2 | _=>fun _=>False,fun i p hi=>?_,fun i b hb=>?_,fun i j b hij hi hj=>?_⟩
   ·match i,hi with
    | 0,hi=>cases hi;exact h1
    | 1,hi=>cases hi;exact h2
    | i+2,hi=>simp at hi
   ·match i,hb with
    | 0,hb=>exact .inl hb
    | 1,hb=>exact .inr hb
    | i+2,hb=>exact hb.elim
   ·match i,j,hi,hj with
    | 0,0,_,_=>exact absurd rfl hij
    | 0,1,hi,hj=>exact g3 1 2 b (by decide) hi hj
    | 1,0,hi,hj=>exact g3 2 1 b (by decide) hi hj
    | 1,1,_,_=>exact absurd rfl hij
    | i+2,_,hi,_=>exact hi.elim
    | _,j+2,_,hj=>exact hj.elim
  | i+2,hi=>simp at hi
 ·match i,hb with
  | 0,hb=>exact g2 0 b hb
  | 1,hb=>rcases hb with hb | hb<;>exact g2 _ b hb
  | i+2,hb=>exact hb.elim
 ·match i,j,hi,hj with
  | 0,0,_,_=>exact absurd rfl hij
  | 0,1,hi,hj=>rcases hj with hj | hj<;>exact g3 _ _ b (by decide) hi hj
  | 1,0,hi,hj=>rcases hi with hi | hi<;>exact g3 _ _ b (by decide) hi hj
  | 1,1,_,_=>exact absurd rfl hij
  | i+2,_,hi,_=>exact hi.elim
  | _,j+2,_,hj=>exact hj.elim
theorem aOC{a b c:HP}{F:Nat→Prop}{w:World}(h:(HP.many [a,HP.many [b,c]]).sat F w):(HP.many [a,b,c]).sat F w:=by
 obtain⟨G,g1,g2,g3⟩:=h;obtain⟨I,i1,i2,i3⟩:=g1 1 _ rfl;refine⟨fun i=>match i with | 0=>G 0 | 1=>I 0 | 2=>I 1 | _=>fun _=>False,fun i p hi=>?_,fun i b hb=>?_,fun i j b hij hi hj=>?_⟩
 ·match i,hi with
  | 0,hi=>cases hi;exact g1 0 _ rfl
  | 1,hi=>cases hi;exact i1 0 _ rfl
  | 2,hi=>cases hi;exact i1 1 _ rfl
  | i+3,hi=>simp at hi
 ·match i,hb with
  | 0,hb=>exact g2 0 b hb
  | 1,hb=>exact g2 1 b (i2 0 b hb)
  | 2,hb=>exact g2 1 b (i2 1 b hb)
  | i+3,hb=>exact hb.elim
 ·match i,j,hi,hj with
  | 0,0,_,_ | 1,1,_,_ | 2,2,_,_=>exact absurd rfl hij
  | 0,1,hi,hj=>exact g3 0 1 b (by decide) hi (i2 0 b hj)
  | 0,2,hi,hj=>exact g3 0 1 b (by decide) hi (i2 1 b hj)
  | 1,0,hi,hj=>exact g3 0 1 b (by decide) hj (i2 0 b hi)
  | 2,0,hi,hj=>exact g3 0 1 b (by decide) hj (i2 1 b hi)
  | 1,2,hi,hj=>exact i3 0 1 b (by decide) hi hj
  | 2,1,hi,hj=>exact i3 0 1 b (by decide) hj hi
  | i+3,_,hi,_=>exact hi.elim
  | _,j+3,_,hj=>exact hj.elim
def mU(g f:Nat)(hL:HL)(s:aD)(m:dR):HP:=aCi g f hL s m.z m.y m.x
def aEZ(g f:Nat)(hL:HL)(s:aD)(m:dR)(l:List mW)(a:Option Addr×Nat):HP:=HP.many [mU g f hL s m,HP.own 143 4 (.slice a.1 l.length a.2) l.length (l.flatMap mW.cells)]
section
variable(g f:Nat)(hL:HL)(s:aD)(n:Nat)(m:dR)(w:World)(F:Nat→Prop)
theorem aO5(t k d r v:Int)(hp:(mU g f hL s m).sat F w)(hF:∀b,F b→b < w.heap.size):
  Cz 17 #[pt g,iv t,.agg #[.int .u8 k,iv d,iv r,.int .u32 v]] w (Wr (iv (vH m.z t k d r v).1) (mU g f hL s (m.start t k d r v)) w F):=
 aBu 0 rfl (fun F0 h1 h2 _=>aGz g hL.h f s m.z w F0 t k d r v h1 h2) hp hF
theorem aO7(t:Int)(hp:(mU g f hL s m).sat F w)(hF:∀b,F b→b < w.heap.size):
  Cz 23 #[pt g,iv t] w (Wr (.tuple #[.agg #[iv (nE m.z t).1.1,.int .u32 (nE m.z t).1.2.1],.bool (nE m.z t).1.2.2]) (mU g f hL s (m.done t)) w F):=
 aBu 0 rfl (fun F0 h1 h2 _=>aG0 g hL.h f s m.z w F0 t h1 h2) hp hF
theorem aO3(hm:s.made)(aV:gX hL s)(hok:eN s n m)(hn:n≤1000000000)(t:Int)(hp:(mU g f hL s m).sat F w)(hF:∀b,F b→b < w.heap.size)(eY:jS ⟨w,fun b=>b < w.heap.size∧¬F b⟩):
  Cz 19 #[pt g,iv t] w (Wr (.tuple #[]) (mU g f hL s (m.step s t)) w F):=
 aMq g f hL s m.z m.y m.x w F t hm aV (fun hh=>hok.idle (hok.free hh) hn) (hok.zM.go hok.fw.toFwB) hp hF eY
theorem aO6(hm:s.made)(aV:gX hL s)(hok:eN s n m)(hp:(mU g f hL s m).sat F w)(hF:∀b,F b→b < w.heap.size)(eY:jS ⟨w,fun b=>b < w.heap.size∧¬F b⟩):
  Cz 20 #[pt f] w (Wr (.tuple #[]) (mU g f hL s (m.eZ s)) w F):=
 (aBu 1 rfl (fun F0 h1 h2 h3=>aQ0 f hL s m.y m.x w hm.dG aV (hok.fw.step hok.hw) F0 h1 h2 (jS.le eY fun b hb=>⟨⟨hb.1,fun h0=>hb.2 (h3 b h0)⟩,rfl⟩)) (aOD hp) hF).mono fun _ _ ⟨hy,F',h1,h2⟩=>⟨hy,F',aOC h1,h2⟩
theorem aO2(hm:s.made)(aV:gX hL s)(hok:eN s n m)(cY:Int)(hd:0≤cY∧cY < 4294967296)(hp:(mU g f hL s m).sat F w)(hF:∀b,F b→b < w.heap.size):
  Cz 22 #[.pointer (some ⟨hL.h,0,none⟩),.int .u32 cY] w (fun y w'=>∃a:Option Addr×Nat,y=.returned (.slice a.1 (oH s m.x cY).2.length a.2)∧True∧∃F',(aEZ g f hL s ⟨m.z,m.y,(oH s m.x cY).1⟩ (oH s m.x cY).2 a).sat F' w'∧iE w w' F F'):=by
 obtain⟨G,g1,g2,g3⟩:=hp
 have hG:∀i b,G i b→b < w.heap.size:=fun i b hb=>hF b (g2 i b hb)
 have h0:=g1 0 _ rfl
 have h1:=g1 1 _ rfl
 refine(aP8 hL s m.x w hm.dG aV hok.hw hok.wt cY hd (G 2) (g1 2 _ rfl) (hG 2)).mono fun y w' ⟨a,hy,_,F',⟨I,i1,i2,i3⟩,ht⟩=>⟨a,hy,trivial,fun b=>F' b∨G 0 b∨G 1 b,⟨fun i=>match i with | 0=>fun b=>I 0 b∨G 0 b∨G 1 b | 1=>I 1 | _=>fun _=>False,fun i p hi=>?_,fun i b hb=>?_,fun i j b hij hi hj=>?_⟩,⟨ht.os,ht.tape,ht.output,ht.size,fun b hb=>?_,fun b hb hn=>?_⟩⟩
 ·have old:∀i,i≠2→∀b,G i b→w'.heap[b]? =w.heap[b]? :=fun i hi b hb=>ht.old b (hG i b hb) fun h=>g3 2 i b (Ne.symm hi) h hb
  have fr:∀i,i≠2→∀b,F' b→¬G i b:=fun i hi b hb hc=>by
   rcases(ht.new b hb).1 with h | h
   ·exact g3 2 i b (Ne.symm hi) h hc
   ·have:=hG i b hc
    omega
  match i,hi with
  | 0, hi =>
   cases hi;refine⟨fun i=>match i with | 0=>G 0 | 1=>G 1 | 2=>I 0 | _=>fun _=>False,fun i p hi=>?_,fun i b hb=>?_,fun i j b hij hi hj=>?_⟩
   ·match i,hi with
    | 0,hi=>cases hi;exact HP.loc _ _ _ _ h0 (old 0 (by decide))
    | 1,hi=>cases hi;exact HP.loc _ _ _ _ h1 (old 1 (by decide))
    | 2,hi=>cases hi;exact i1 0 _ rfl
    | i+3,hi=>simp at hi
   ·match i,hb with
    | 0,hb=>exact .inr (.inl hb)
    | 1,hb=>exact .inr (.inr hb)
    | 2,hb=>exact .inl hb
    | i+3,hb=>exact hb.elim
   ·match i,j,hi,hj with
    | 0,0,_,_ | 1,1,_,_ | 2,2,_,_=>exact absurd rfl hij
    | 0,1,hi,hj=>exact g3 0 1 b (by decide) hi hj
    | 1,0,hi,hj=>exact g3 1 0 b (by decide) hi hj
    | 0,2,hi,hj=>exact fr 0 (by decide) b (i2 0 b hj) hi
    | 2,0,hi,hj=>exact fr 0 (by decide) b (i2 0 b hi) hj
    | 1,2,hi,hj=>exact fr 1 (by decide) b (i2 0 b hj) hi
    | 2,1,hi,hj=>exact fr 1 (by decide) b (i2 0 b hi) hj
    | i+3,_,hi,_=>exact hi.elim
    | _,j+3,_,hj=>exact hj.elim
  | 1,hi=>cases hi;exact i1 1 _ rfl
  | i+2,hi=>simp at hi
 ·match i,hb with
  | 0,hb=>
   rcases hb with hb | hb
   ·exact .inl (i2 0 b hb)
   ·exact .inr hb
  | 1,hb=>exact .inl (i2 1 b hb)
  | i+2,hb=>exact hb.elim
 ·have fr:∀i,i≠2→∀b,F' b→¬G i b:=fun i hi b hb hc=>by
   rcases(ht.new b hb).1 with h | h
   ·exact g3 2 i b (Ne.symm hi) h hc
   ·have:=hG i b hc
    omega
  match i,j,hi,hj with
  | 0,0,_,_ | 1,1,_,_=>exact absurd rfl hij
  | 0,1,hi,hj=>
   rcases hi with hi | hi | hi
   ·exact i3 0 1 b (by decide) hi hj
   ·exact fr 0 (by decide) b (i2 1 b hj) hi
   ·exact fr 1 (by decide) b (i2 1 b hj) hi
  | 1,0,hi,hj=>
   rcases hj with hj | hj | hj
   ·exact i3 0 1 b (by decide) hj hi
   ·exact fr 0 (by decide) b (i2 1 b hi) hj
   ·exact fr 1 (by decide) b (i2 1 b hi) hj
  | i+2,_,hi,_=>exact hi.elim
  | _,j+2,_,hj=>exact hj.elim
 ·rcases hb with hb | hb | hb
  ·refine⟨?_,(ht.new b hb).2⟩;rcases(ht.new b hb).1 with h | h
   ·exact .inl (g2 2 b h)
   ·exact .inr h
  ·exact⟨.inl (g2 0 b hb),Nat.lt_of_lt_of_le (hG 0 b hb) ht.size⟩
  ·exact⟨.inl (g2 1 b hb),Nat.lt_of_lt_of_le (hG 1 b hb) ht.size⟩
 ·exact ht.old b hb fun h=>hn (g2 2 b h)
theorem aO8(hok:qN s m.z)(l:List mW)(hl:l.length≤1000)(a:Option Addr×Nat)(hp:(aEZ g f hL s m l a).sat F w)(hF:∀b,F b→b < w.heap.size):
  Cz 21 #[pt g,.slice a.1 l.length a.2] w (Wr (.tuple #[]) (mU g f hL s ⟨wZ m.z l,m.y,m.x⟩) w F):=by
 obtain⟨G,g1,g2,g3⟩:=hp
 have hG:∀i b,G i b→b < w.heap.size:=fun i b hb=>hF b (g2 i b hb)
 obtain⟨A,c,hv,hs⟩:=uY (Y:=G 1) (g1 1 _ rfl) (fun b hb=>hb)
 injection hv with Ml hv2 hv3
 subst Ml;refine(aBu 0 rfl (p':=gE g hL.h f s (wZ m.z l)) (v:=.tuple #[]) (fun F0 h1 h2 h3=>aM0 g hL.h f s m.z w F0 a.1 a.2 l hl hok.po h1 h2 (hs.le fun b hb=>⟨⟨hG 1 b hb,fun h0=>g3 0 1 b (by decide) (h3 b h0) hb⟩,rfl⟩)) (g1 0 _ rfl) (hG 0)).mono fun y w' ⟨hy,F',h1,ht⟩=>⟨hy,F',h1,⟨ht.os,ht.tape,ht.output,ht.size,fun b hb=>?_,fun b hb hn=>ht.old b hb fun h=>hn (g2 0 b h)⟩⟩
 refine⟨?_,(ht.new b hb).2⟩;rcases(ht.new b hb).1 with h | h
 ·exact .inl (g2 0 b h)
 ·exact .inr h
end
end
section
def Dr(s:aD)(X:bK)(p:cZ):Prop:=
 (∃i:Nat,p=⟨17,4,i,1⟩∧i < s.domains.length∧hasB X.d i=false∧∀d,s.domains[i]? =some d→0≤d.above→hasB X.d d.above.toNat=true)∨
 (∃i:Nat,p=⟨20,7,i,1⟩∧i < s.aF.length∧mH s i=true∧hasB X.c i=false∧∀j∈fU s i,j≠i→mH s j=true→hasB X.c j=true)∨
 (∃i:Nat,p=⟨22,4,i,0⟩∧i < s.aT.length∧hasB X.l i=false)∨
 (∃i:Nat,p=⟨20,7,i,0⟩∧i < s.aF.length∧mH s i=true∧hasB X.c i=true∧∀j:Nat,j≠i→hasB X.c j=true→i∉fU s j)∨
 (∃i:Nat,p=⟨17,4,i,mJ s i⟩∧i < s.domains.length∧hasB X.d i=true∧∀(j:Nat) d,s.domains[j]? =some d→d.above=(i:Int)→hasB X.d j=false)
section
variable{s:aD}{x y:bK}
theorem aTa(hm:s.made)(hx:x.cl s)(hy:y.cl s)(hxy:∀i,hasB x.l i=true→hasB y.l i=true){k:Nat}{p:cZ}(hk:(allM s x y)[k]? =some p):Dr s (((allM s x y).take k).foldl gP x) p:=by
 have jQ:=aQw (L:=(allM s x y).take k) hx.of
 unfold allM uU at hk jQ⊢;rcases Yu hk with⟨h1,h2⟩ | ⟨t1,h1,h2⟩
 ·
  obtain⟨i,hi,rfl,ht⟩:=Pn h1;rw[h2,ht,Ru] at jQ⊢
  have hmem:=zU.1 (List.mem_of_getElem? hi)
  have nO:=aAv (aAI s.domains.length x.d y.d) hi
  have nA:=zL.1 hmem.2
  have Aq:∀j,j < s.domains.length→hasB ((List.take k (eV (List.range s.domains.length) x.d y.d)).foldl (fun d (i:Nat)=>gY d (i:Int) true) x.d) j=if j∈List.take k (eV (List.range s.domains.length) x.d y.d) then true else hasB x.d j:=fun j hj=>has_fold _ _ _ _ (by rw[hx.of.d];exact hj)
  refine .inl ⟨i,rfl,hmem.1,?_,fun d hd h0=>?_⟩
  ·dsimp only;rw[Aq i hmem.1,if_neg (fun h=>by have:=((nO i).1 h).2;omega),nA.2]
  ·dsimp only
   have hfit:=(hm.domains i d hd).1
   have ha:d.above.toNat < s.domains.length:=by omega
   rw[Aq _ ha]
   have hya:=hy.up i d nA.1 hd h0
   split
   ·rfl
   ·rename_i hnot
    cases hxa:hasB x.d d.above.toNat with
    | true=>rfl
    | false=>exact absurd ((nO d.above.toNat).2 ⟨zU.2 ⟨ha,zL.2 ⟨hya,hxa⟩⟩,by omega⟩) hnot
 ·rcases Yu h1 with⟨h3,h4⟩ | ⟨t2,h3,h4⟩
  ·
   obtain⟨i,hi,rfl,ht⟩:=Pn h3;rw[h2,h4,ht,List.foldl_append,Ru,Xw] at jQ⊢
   have hmem:=zU.1 (List.mem_of_getElem? hi)
   have nO:=aAv (aAI s.aF.length x.c y.c) hi
   have nA:=zL.1 hmem.2
   have Aq:∀j,j < s.aF.length→hasB ((List.take t1 (eV (List.range s.aF.length) x.c y.c)).foldl (fun d (i:Nat)=>gY d (i:Int) true) x.c) j=if j∈List.take t1 (eV (List.range s.aF.length) x.c y.c) then true else hasB x.c j:=fun j hj=>has_fold _ _ _ _ (by rw[hx.of.c];exact hj)
   refine .inr (.inl ⟨i,rfl,hmem.1,hy.sw i nA.1,?_,fun j hj hji hjs=>?_⟩)
   rotate_left
   ·dsimp only
    have hjl:j < s.aF.length:=aB9 hj
    have hle:=aBA hm hj
    rw[Aq j hjl]
    have Mi:=hy.ch i j nA.1 hj hjs
    split
    ·rfl
    ·rename_i hnot
     cases yA:hasB x.c j with
     | true=>rfl
     | false=>exact absurd ((nO j).2 ⟨zU.2 ⟨hjl,zL.2 ⟨Mi,yA⟩⟩,by omega⟩) hnot
   dsimp only;rw[has_fold _ _ _ _ (by rw[hx.of.c];exact hmem.1),if_neg (fun h=>by have:=((nO i).1 h).2;omega),nA.2]
  ·rcases Yu h3 with⟨h5,h6⟩ | ⟨t3,h5,h6⟩
   ·
    obtain⟨i,hi,rfl,ht⟩:=Pn h5;rw[h2,h4,h6,ht,List.foldl_append,List.foldl_append,Ru,Xw,aBw] at jQ⊢
    have hmem:=zU.1 (List.mem_of_getElem? hi)
    have nO:=aAv (aAI s.aT.length x.l y.l) hi
    have nA:=zL.1 hmem.2
    refine .inr (.inr (.inl ⟨i,rfl,hmem.1,?_⟩));dsimp only;rw[has_fold _ _ _ _ (by rw[hx.of.l];exact hmem.1),if_neg (fun h=>by have:=((nO i).1 h).2;omega),nA.2]
   ·rcases Yu h5 with⟨h7,h8⟩ | ⟨t4,h7,h8⟩
    ·
     obtain⟨i,hi,rfl,ht⟩:=Pn h7;rw[h2,h4,h6,h8,ht,List.foldl_append,List.foldl_append,List.foldl_append,Ru,Xw,aBw,aEj] at jQ⊢
     have hmem:=zU.1 (List.mem_of_getElem? hi)
     have nO:=aAv (aAI s.aT.length y.l x.l) hi
     have nA:=zL.1 hmem.2
     exact absurd (hxy i nA.1) (by rw[nA.2];simp)
    ·rcases Yu h7 with⟨h9,h10⟩ | ⟨t5,h9,h10⟩
     ·
      obtain⟨i,hi,rfl,ht⟩:=Pn h9;rw[h2,h4,h6,h8,h10,ht,List.foldl_append,List.foldl_append,List.foldl_append,List.foldl_append,Ru,Xw,aBw,aEj,aIF] at jQ⊢
      have hmem:=Qa.1 (List.mem_of_getElem? hi)
      have Vy:=aFZ (aHw s.aF.length y.c x.c) hi
      have nA:=zL.1 hmem.2
      have Aq:∀j,j < s.aF.length→hasB ((List.take t4 (eV (List.range s.aF.length).reverse y.c x.c)).foldl (fun d (i:Nat)=>gY d (i:Int) false) ((eV (List.range s.aF.length) x.c y.c).foldl (fun d (i:Nat)=>gY d (i:Int) true) x.c)) j=if j∈List.take t4 (eV (List.range s.aF.length).reverse y.c x.c) then false else if j∈eV (List.range s.aF.length) x.c y.c then true else hasB x.c j:=fun j hj=>by
       rw[has_fold _ _ _ _ (by rw[aAD,hx.of.c];exact hj),has_fold _ _ _ _ (by rw[hx.of.c];exact hj)]
      refine .inr (.inr (.inr (.inl ⟨i,rfl,hmem.1,hx.sw i nA.1,?_,fun j hji hj kC=>?_⟩)))
      ·dsimp only;rw[Aq i hmem.1,if_neg (fun h=>by have:=((Vy i).1 h).2;omega)];split
       ·rfl
       ·exact nA.1
      ·dsimp only at hj
       have hjl:=Rk hj
       rw[aAD,aAD,hx.of.c] at hjl;rw[Aq j hjl] at hj
       have hle:=aBA hm kC
       have Mi:hasB y.c j=true:=by
        split at hj
        ·cases hj
        ·rename_i hnot
         split at hj
         ·rename_i mR;exact(zL.1 (zU.1 mR).2).1
         ·cases Mi:hasB y.c j with
          | true=>rfl
          | false=>exact absurd ((Vy j).2 ⟨Qa.2 ⟨hjl,zL.2 ⟨hj,Mi⟩⟩,by omega⟩) hnot
       have:=hy.ch j i Mi kC (hx.sw i nA.1)
       rw[nA.2] at this;cases this
     ·
      obtain⟨i,hi,rfl,ht⟩:=Pn h9;rw[h2,h4,h6,h8,h10,ht,List.foldl_append,List.foldl_append,List.foldl_append,List.foldl_append,List.foldl_append,Ru,Xw,aBw,aEj,aIF,aQH] at jQ⊢
      have hmem:=Qa.1 (List.mem_of_getElem? hi)
      have Vy:=aFZ (aHw s.domains.length y.d x.d) hi
      have nA:=zL.1 hmem.2
      have Aq:∀j,j < s.domains.length→hasB ((List.take t5 (eV (List.range s.domains.length).reverse y.d x.d)).foldl (fun d (i:Nat)=>gY d (i:Int) false) ((eV (List.range s.domains.length) x.d y.d).foldl (fun d (i:Nat)=>gY d (i:Int) true) x.d)) j=if j∈List.take t5 (eV (List.range s.domains.length).reverse y.d x.d) then false else if j∈eV (List.range s.domains.length) x.d y.d then true else hasB x.d j:=fun j hj=>by
       rw[has_fold _ _ _ _ (by rw[aAD,hx.of.d];exact hj),has_fold _ _ _ _ (by rw[hx.of.d];exact hj)]
      refine .inr (.inr (.inr (.inr ⟨i,rfl,hmem.1,?_,fun j d hd hab=>?_⟩)))
      ·dsimp only;rw[Aq i hmem.1,if_neg (fun h=>by have:=((Vy i).1 h).2;omega)];split
       ·rfl
       ·exact nA.1
      ·dsimp only
       have hjl:=(List.getElem?_eq_some_iff.1 hd).1
       have hfit:=(hm.domains j d hd).1
       rw[Aq j hjl];split
       ·rfl
       ·rename_i hnot
        have key:hasB y.d j=false:=by
         cases Mi:hasB y.d j with
         | false=>rfl
         | true=>
          have:=hy.up j d Mi hd (by omega)
          rw[show d.above.toNat=i by omega,nA.2] at this;cases this
        split
        ·rename_i mR
         have:=(zL.1 (zU.1 mR).2).1
         rw[key] at this;cases this
        ·cases yA:hasB x.d j with
         | false=>rfl
         | true=>exact absurd ((Vy j).2 ⟨Qa.2 ⟨hjl,zL.2 ⟨yA,key⟩⟩,by omega⟩) hnot
theorem aGb{i:Nat}(h:mH s i=true):qU s i:=by
 unfold mH at h;unfold qU kindOf;cases hc:s.aF[i]? with
 | none=>rw[hc] at h;cases h
 | some c=>rw[hc] at h;exact of_decide_eq_true h
theorem aKu{i:Nat}(h:qU s i):mH s i=true:=by
 unfold qU kindOf at h;unfold mH;cases hc:s.aF[i]? with
 | none=>rw[hc] at h;exact absurd h (by simp)
 | some c=>rw[hc] at h;exact decide_eq_true h
theorem Dr.goes(hm:s.made){X:bK}{p:cZ}(h:Dr s X p)(jQ:X.of s):Tq s X p 0:=by
 rcases h with⟨i,rfl,h1,h2,h3⟩ | ⟨i,rfl,h1,h2,h3,_⟩ | ⟨i,rfl,h1,h2⟩ | ⟨i,rfl,h1,h2,h3,h4⟩ | ⟨i,rfl,h1,h2,h3⟩
 ·exact aQf hm jQ (by decide) h1 h2 h3
 ·exact aQd hm jQ (by decide) h1 h2 h3
 ·exact aQc hm jQ (by decide) h1 h2
 ·exact aQe hm jQ (by decide) h1 h2 h3 h4
 ·exact aQg hm jQ (by decide) h1 h2 h3
section
variable{X:bK}{h:aO}
theorem aQk(hm:s.made)(hi:Inv s X none none none h){c:Nat}{ck:eF}(hc:s.aF[c]? =some ck)(lP:qU s c)(hsrc:∀j∈fU s c,j≠c→qU s j→hasB X.c j=true)(hh:hasB X.c c=false):∃x',xG s 99 c (8+1) h x'∧Inv s (wsC X c) none none none x':=by
 have hlt:=(List.getElem?_eq_some_iff.1 hc).1
 have hX:=hi.of
 have iA:c < X.c.length:=by rw[hX.c];exact hlt
 have iX:∀j,hasB (wsC X c).c j=if j=c then true else hasB X.c j:=fun j=>Rj iA j
 have hXc:hasB (wsC X c).c c=true:=by rw[iX,if_pos rfl]
 have hinv:Inv s (wsC X c) none (some c) none h:=by
  refine⟨hi.ok,hi.wt,⟨hX.d,by show(kQ _ _ _).length=_;rw[Ch];exact hX.c,hX.l⟩,hi.dom,fun i ci y rW hy hx hb=>?_,fun i hx j hj hsj=>?_,fun c' Hh i hx hne hmem=>?_,hi.tD,hi.qW⟩
  ·have hid:i≠c:=fun h=>hb (by rw[h])
   rw[iX,if_neg hid] at hx;exact hi.jJ i ci y rW hy hx (by simp)
  ·rw[iX]
   by_cases Ra:j=c
   ·rw[if_pos Ra]
   ·rw[if_neg Ra];rw[iX] at hx
    by_cases hic:i=c
    ·subst hic;exact hsrc j hj Ra hsj
    ·rw[if_neg hic] at hx;exact hi.rZ i hx j hj hsj
  ·cases Hh;rw[iX,if_neg hne] at hx
   have:=hi.rZ i hx c hmem lP
   rw[hh] at this;cases this
 obtain⟨y,hy⟩:=get_some (l:=h.ck) (i:=c) (by have:=hi.ok.ck.len;omega)
 have Qp:=hi.ok.ck.left y (List.mem_of_getElem? hy)
 exact aGw hm hc lP hXc (8+1) h y hinv hy (by omega)
def aFH(X:bK)(c:Nat):bK:=⟨X.d,kQ X.c c false,X.l⟩
theorem aQj(hm:s.made)(hi:Inv s X none none none h){c:Nat}{ck:eF}(hc:s.aF[c]? =some ck)(lP:qU s c)(hno:∀j:Nat,j≠c→hasB X.c j=true→c∉fU s j):∃x',xG s 111 c (8+1) h x'∧Inv s (aFH X c) none none none x':=by
 have hlt:=(List.getElem?_eq_some_iff.1 hc).1
 have hX:=hi.of
 have iA:c < X.c.length:=by rw[hX.c];exact hlt
 have iX:∀j,hasB (aFH X c).c j=if j=c then false else hasB X.c j:=fun j=>aIr iA j
 obtain⟨y,hy⟩:=get_some (l:=h.ck) (i:=c) (by have:=hi.ok.ck.len;omega)
 have hly:=(List.getElem?_eq_some_iff.1 hy).1
 have Qp:=hi.ok.ck.left y (List.mem_of_getElem? hy)
 have aBi:ck.kind=112∨ck.kind=103:=by rw[←Jo hc];exact lP
 have tI:(kZ s h.ck (c:Int) false).2=h.ck.set c (Gp ck y false):=by
  unfold kZ;rw[show bN s.aF.length (c:Int)=true from decide_eq_true (by omega)];simp only[Bool.true_eq_false,if_false,Int.toNat_natCast,hc,hy];rw[if_neg (by omega)]
 have yI:qS s (h.ck.set c (Gp ck y false)):=tI▸Vj hm.dG hi.ok.ck (c:Int) false
 refine⟨{h with ck:=h.ck.set c (Gp ck y false)},aA1 hi.ok (by unfold nF;rw[if_neg (by decide),if_neg (by decide),if_neg (by decide),if_neg (by decide),if_pos rfl,tI]),?_⟩;refine⟨⟨yI,hi.ok.dm,hi.ok.ln,hi.ok.dv,hi.ok.each,hi.ok.wt⟩,hi.wt,⟨hX.d,by show(kQ _ _ _).length=_;rw[Ch];exact hX.c,hX.l⟩,hi.dom,fun i ci y' rW hy' hx hb=>?_,fun i hx j hj hsj=>?_,(fun _ h=>by cases h),hi.tD,hi.qW⟩
 ·rw[iX] at hx
  by_cases hic:i=c
  ·rw[if_pos hic] at hx;cases hx
  ·rw[if_neg hic] at hx;dsimp only at hy';rw[List.getElem?_set_ne (Ne.symm hic)] at hy';exact hi.jJ i ci y' rW hy' hx (by simp)
 ·rw[iX] at hx⊢
  by_cases hic:i=c
  ·rw[if_pos hic] at hx;cases hx
  ·rw[if_neg hic] at hx;rw[if_neg (fun e:j=c=>hno i hic hx (e▸hj))];exact hi.rZ i hx j hj hsj
theorem aGr{k id:Int}:∀(n:Nat) {x x':aO},Zv s (fun x=>nF s x k id) n x x'→xG s k id n x x'
 | 0,_,_,h=>h.elim
 | n+1,x,x',⟨h0,.inl h⟩=>⟨h0,.inl h⟩
 | n+1,x,x',⟨h0,.inr ⟨x1,h1,h2,h3,h4⟩⟩=>⟨h0,.inr ⟨x1,h1,h2,h3,aGr n h4⟩⟩
theorem Dr.run(hm:s.made){p:cZ}(hg:Dr s X p)(hi:Inv s X none none none h):∃(N:Nat) (x':aO),N≤9∧xG s (uN p) p.id N h x'∧Inv s (gP X p) none none none x'∧Dq s (uN p) p.id:=by
 have hdone:=(hg.goes hm hi.of).done
 rcases hg with⟨i,rfl,h1,h2,h3⟩ | ⟨i,rfl,h1,h2,h3,h4⟩ | ⟨i,rfl,h1,h2⟩ | ⟨i,rfl,h1,h2,h3,h4⟩ | ⟨i,rfl,h1,h2,h3⟩
 ·obtain⟨d,hd⟩:=get_some h1
  have hfit:=(hm.domains i d hd).1
  obtain⟨x',r1,r2⟩:=aQh hm hi hd (by
   by_cases h0:0≤d.above
   ·exact .inr ⟨h0,h3 d hd h0⟩
   ·exact .inl (by omega)) h2
  exact⟨9,x',by omega,r1,hdone▸r2,⟨.inl rfl,fun h=>absurd h (by show ¬(117:Int)=99;decide)⟩⟩
 ·obtain⟨c,hc⟩:=get_some h1;obtain⟨x',r1,r2⟩:=aQk hm hi hc (aGb h2) (fun j hj hji hjs=>h4 j hj hji (aKu hjs)) h3;exact⟨9,x',by omega,r1,hdone▸r2,⟨.inr (.inl rfl),fun _=>⟨by show(0:Int)≤(i:Int);omega,by show(i:Int) < _;omega⟩⟩⟩
 ·obtain⟨x',r1,r2⟩:=aQi hm hi h1 h2;exact⟨9,x',by omega,r1,hdone▸r2,⟨.inr (.inr (.inl rfl)),fun h=>absurd h (by show ¬(114:Int)=99;decide)⟩⟩
 ·obtain⟨c,hc⟩:=get_some h1;obtain⟨x',r1,r2⟩:=aQj hm hi hc (aGb h2) h4;exact⟨9,x',by omega,r1,hdone▸r2,⟨.inr (.inr (.inr (.inr (.inr (.inl rfl))))),fun h=>absurd h (by show ¬(111:Int)=99;decide)⟩⟩
 ·obtain⟨d,hd⟩:=get_some h1
  have hk:uN ⟨17,4,i,mJ s i⟩=if d.ret then 107 else 100:=by
   simp only[uN,mJ,hd,Option.map_some,Option.getD_some];cases d.ret<;>simp
  have hk2:uN ⟨17,4,i,mJ s i⟩=100∨uN ⟨17,4,i,mJ s i⟩=107:=by
   rw[hk];split
   ·exact .inr rfl
   ·exact .inl rfl
  obtain⟨N,x',r0,r1,r2,_⟩:=aMg hm hd d.ret (fun h=>h) hi h2 h3;refine⟨N,x',by omega,aGr N ?_,?_,⟨by rcases hk2 with h | h<;>rw[h]<;>simp,fun h=>absurd h (by rcases hk2 with h | h<;>rw[h]<;>decide)⟩⟩
  ·have he:(fun x=>nF s x (uN ⟨17,4,i,mJ s i⟩) (i:Int))=fun x=>uH s x (i:Int) d.ret:=by
    funext x
    rw[hk];unfold nF;cases d.ret<;>simp
   show Zv s (fun x=>nF s x (uN ⟨17,4,i,mJ s i⟩) (i:Int)) N h x'
   rw[he];exact r1
  ·have:jW X 0 (uN ⟨17,4,i,mJ s i⟩) (i:Int)=Ty X i:=by
    rw[hk];cases d.ret<;>rfl
   rw[←hdone,show(cZ.mk 17 4 (i:Int) (mJ s i)).id=(i:Int) from rfl,this];exact r2
end
end
end
section
theorem aFm{q q2:Piece}{g:List (List Int)}{vs:List Value}{A:Option Addr}{n c:Nat}(h:Rows (qP (fF q)) 1 g (vs.map fun v=>[v]))(hl:q.Le q2)(h1:∃F,(HP.own 22 1 (.slice A n c) n vs).sat F q2.w∧∀b,F b→q2.Z b)(hn:n=g.length):mV q2 A n g:=by
 obtain⟨F,hs,hz⟩:=h1;refine⟨_,h.mono (fun _ _=>qP.mono (nU hl)),hn,?_⟩;rw[show(vs.map fun v=>[v]).flatten=vs by clear h hs;induction vs<;>simp_all];obtain⟨A',c',e,hS⟩:=uY (Y:=q2.Z) hs hz
 injection e with e1 e2 e3
 subst e1;exact hS
theorem aMR(s:aD)(A1 A2 A3 A4:Option Addr)(n1 k1 n2 k2 n3 k3 n4 k4:Nat)(w:World)(hW:fE w s A1 n1 A2 n2 A3 n3 A4 n4):
  Cz 215 #[.agg #[.slice A1 n1 k1,.slice A2 n2 k2,.slice A3 n3 k3,.slice A4 n4 k4]] w (fun y w'=>(∃v,y=.returned v∧wF (gO s) v w w')∧Below w.heap.size w w'):=by
 have hn:=hW.mZ
 have cS:=hW.small
 unfold aD.small at cS;obtain⟨hs1,fX,rU,tG,nX,oO⟩:=cS;refine aL func215 ntmps215 ?_;refine aB ?_;refine bA fun g1=>?_;refine aB ?_;refine bJ [(4,iv 0),(3,sn),(1,pt g1)] ?_;refine iO 22 1 ?_;refine dP [] [] [0,1] (by simp) rfl (by decide) (by decide) fun q0 _ _ Cu=>?_;refine aB ?_;refine eI (fun m e R H=>∃(k:Nat) (vs:List Value) (q:Piece) (Ag:Option Addr) (cg:Nat),k≤n1∧m=n1 - k∧qR w q∧Rows (qP (fF q)) 1 ((gO s).take k) (vs.map fun v=>[v])∧e=[(4,iv k),(3,.slice Ag k cg),(1,pt g1)]∧R=[q,all w]∧H=[HP.own 22 1 (.slice Ag k cg) k vs,HP.aE g1 30 [.slice A1 n1 k1,.slice A2 n2 k2,.slice A3 n3 k3,.slice A4 n4 k4]]) n1 ⟨0,[],_,none,0,by omega,rfl,Cu (by simp) (by simp),trivial,rfl,rfl,rfl⟩ fun m e R H hI=>?_;obtain⟨k,vs,q,Ag,cg,hk,rfl,qY,hrows,rfl,rfl,rfl⟩:=hI;refine aB ?_;refine aG rfl (fun h=>?_) (fun h=>?_)
 ·
  refine aB ?_
  have hkn:k < s.aF.length:=by omega
  obtain⟨e,he⟩:∃e,s.aF[k]? =some e:=⟨_,List.getElem?_eq_getElem hkn⟩
  obtain⟨b,off,r,rfl,hrl,hR,hro⟩:=hW.jJ.row he;obtain⟨Af,nf,kf,rfl,hnf,pN⟩:=hR
  have yH:(gO s)[k]? =some (e.src):=by simp[gO,he]
  refine aB ?_;refine Dw (el:=3) (sz:=1) (by kernel_rfl) (by kernel_rfl) (by decide) fun g4=>?_;refine Bn 0 1 0 rfl rfl (by omega) ?_;dsimp only[List.set];refine aA ?_;refine kd (dat k (off+k*6)) ?_;refine pZ (off:=1) (by kernel_rfl) rfl (by decide) ?_;refine jC (by kernel_rfl) rfl (Bs (by simp) (hro.at_ (j:=1) rfl)) (by decide) ?_;refine gH 0 1 8 nf (n':=nf) (el:=3) (by kernel_rfl) (by kernel_rfl) (by decide) rfl rfl rfl (qV (p:=all w) (by simp) pN) (by simp[aK,Value.oneCell']) (by omega) (by have:=nX e (List.mem_of_getElem? he);omega) (by have:=nX e (List.mem_of_getElem? he);omega) (by decide) fun A5 c5=>?_;dsimp only[List.set,List.nil_append];refine eL fun g3=>?_;refine gH 2 1 24 1 (n':=k+1) (el:=22) (by kernel_rfl) (by kernel_rfl) (by decide) rfl rfl rfl (nJ 0 rfl rfl) (by simp[Value.oneCell']) rfl (by omega) (by omega) (by decide) fun A6 c6=>?_;dsimp only[List.set];refine aB ?_;refine dP [q] [1] [2,3] (by simp) rfl (by decide) (by decide) fun q' mE hle Ey=>?_;obtain⟨Fg,Mo,Mh⟩:=mE 1 _ (by simp) rfl;obtain⟨A7,c7,e7,rR⟩:=uY (Y:=q'.Z) Mo Mh
  injection e7 with f1 f2 f3
  subst f1;exact dY (n1 - (k+1)) ⟨k+1,vs++[_],q',A6,c6,by omega,rfl,Ey (by simp) (by simpa using qY),Je hrows (hle q (by simp)) yH ⟨A5,nf,c5,rfl,hnf,rR⟩,rfl,rfl,rfl⟩
 ·
  refine aB ?_;obtain rfl:k=n1:=by omega
  rw[List.take_of_length_le (by simp[gO];omega)] at hrows;refine aB ?_;refine dP [q] [0] [] (by simp) rfl (by decide) (by decide) fun q2 hq hle hfr=>?_
  have kK:k=(gO s).length:=by simp[gO];omega
  exact aS (h:=fun w1 st=>⟨_,rfl,Ag,cg,by rw[←kK],by rw[←kK];exact(aFm hrows (hle q (by simp)) (hq 0 _ (by simp) rfl) kK).le (st.mF (by simp) (hfr (by simp) (by simpa using qY)))⟩)
theorem aMN(s:aD)(A1 A2 A3 A4:Option Addr)(n1 k1 n2 k2 n3 k3 n4 k4:Nat)(w:World)(hW:fE w s A1 n1 A2 n2 A3 n3 A4 n4):
  Cz 217 #[.agg #[.slice A1 n1 k1,.slice A2 n2 k2,.slice A3 n3 k3,.slice A4 n4 k4]] w (fun y w'=>(∃v,y=.returned v∧wF (gM s) v w w')∧Below w.heap.size w w'):=by
 have hn:=hW.nL
 have cS:=hW.small
 unfold aD.small at cS;obtain⟨hs1,fX,rU,tG,nX,oO⟩:=cS;refine aL func217 ntmps217 ?_;refine aB ?_;refine bA fun g1=>?_;refine aB ?_;refine bJ [(4,iv 0),(3,sn),(1,pt g1)] ?_;refine iO 22 1 ?_;refine dP [] [] [0,1] (by simp) rfl (by decide) (by decide) fun q0 _ _ Cu=>?_;refine aB ?_;refine eI (fun m e R H=>∃(k:Nat) (vs:List Value) (q:Piece) (Ag:Option Addr) (cg:Nat),k≤n2∧m=n2 - k∧qR w q∧Rows (qP (fF q)) 1 ((gM s).take k) (vs.map fun v=>[v])∧e=[(4,iv k),(3,.slice Ag k cg),(1,pt g1)]∧R=[q,all w]∧H=[HP.own 22 1 (.slice Ag k cg) k vs,HP.aE g1 30 [.slice A1 n1 k1,.slice A2 n2 k2,.slice A3 n3 k3,.slice A4 n4 k4]]) n2 ⟨0,[],_,none,0,by omega,rfl,Cu (by simp) (by simp),trivial,rfl,rfl,rfl⟩ fun m e R H hI=>?_;obtain⟨k,vs,q,Ag,cg,hk,rfl,qY,hrows,rfl,rfl,rfl⟩:=hI;refine aB ?_;refine aG rfl (fun h=>?_) (fun h=>?_)
 ·
  refine aB ?_
  have hkn:k < s.domains.length:=by omega
  obtain⟨e,he⟩:∃e,s.domains[k]? =some e:=⟨_,List.getElem?_eq_getElem hkn⟩
  obtain⟨b,off,r,rfl,hrl,hR,hro⟩:=hW.dom.row he;obtain rfl:=hR
  have yH:(gM s)[k]? =some (if e.above= -1 then[] else[e.above]):=by simp[gM,he]
  refine aA ?_;refine kd (dat k (off+k*3)) ?_;refine pZ (off:=0) (by kernel_rfl) rfl (by decide) ?_;refine jC (by kernel_rfl) rfl (Bs (by simp) (hro.at_ (j:=0) rfl)) (by decide) ?_;refine aAg rfl rfl (by decide) ?_;refine dO ?_;refine aG rfl (fun hab=>?_) (fun hab=>?_)
  ·
   refine iO 3 1 ?_;refine aA ?_;refine kd (dat k (off+k*3)) ?_;refine pZ (off:=0) (by kernel_rfl) rfl (by decide) ?_;refine jC (by kernel_rfl) rfl (Bs (by simp) (hro.at_ (j:=0) rfl)) (by decide) ?_;refine eL fun g2=>?_;refine gH 1 1 8 1 (n':=1) (v:=sn) (el:=3) (by kernel_rfl) (by kernel_rfl) (by decide) rfl rfl rfl (nJ 0 rfl rfl) (by simp[Value.oneCell']) rfl (by omega) (by omega) (by decide) fun A5 c5=>?_;dsimp only[List.set,List.nil_append];refine aB ?_;refine eL fun g3=>?_;refine gH 3 1 24 1 (n':=k+1) (el:=22) (by kernel_rfl) (by kernel_rfl) (by decide) rfl rfl rfl (nJ 0 rfl rfl) (by simp[Value.oneCell']) rfl (by omega) (by omega) (by decide) fun A6 c6=>?_;dsimp only[List.set];refine aB ?_;refine dP [q] [2] [3,4] (by simp) rfl (by decide) (by decide) fun q' mE hle Ey=>?_;obtain⟨Fg,Mo,Mh⟩:=mE 2 _ (by simp) rfl;obtain⟨A7,c7,e7,rR⟩:=uY (Y:=q'.Z) Mo Mh
   injection e7 with f1 f2 f3
   subst f1;exact dY (n2 - (k+1)) ⟨k+1,vs++[_],q',A6,c6,by omega,rfl,Ey (by simp) (by simpa using qY),Je hrows (hle q (by simp)) yH (by rw[if_neg hab];exact⟨A5,1,c5,rfl,rfl,rR⟩),rfl,rfl,rfl⟩
  ·
   refine aB ?_;refine eL fun g4=>?_;refine gH 1 1 24 1 (n':=k+1) (el:=22) (by kernel_rfl) (by kernel_rfl) (by decide) rfl rfl rfl (nJ 0 rfl rfl) (by simp[Value.oneCell']) rfl (by omega) (by omega) (by decide) fun A6 c6=>?_;dsimp only[List.set];refine aB ?_;exact dY (n2 - (k+1)) ⟨k+1,vs++[_],q,A6,c6,by omega,rfl,qY,Je hrows (fun b hb=>⟨hb,rfl⟩) yH (by rw[if_pos (Classical.not_not.1 hab)];exact⟨_,0,0,rfl,rfl,aI.nil _ 1⟩),rfl,rfl,rfl⟩
 ·
  refine aB ?_;obtain rfl:k=n2:=by omega
  rw[List.take_of_length_le (by simp[gM];omega)] at hrows;refine aB ?_;refine dP [q] [0] [] (by simp) rfl (by decide) (by decide) fun q2 hq hle hfr=>?_
  have kK:k=(gM s).length:=by simp[gM];omega
  exact aS (h:=fun w1 st=>⟨_,rfl,Ag,cg,by rw[←kK],by rw[←kK];exact(aFm hrows (hle q (by simp)) (hq 0 _ (by simp) rfl) kK).le (st.mF (by simp) (hfr (by simp) (by simpa using qY)))⟩)
end
section
def vX(n j:Nat):List Value:=(List.replicate j (Value.bool true))++List.replicate (n - j) (.bool false)
theorem aRp{n j:Nat}(h:j≤n):(vX n j).length=n:=by simp[vX];omega
theorem aIP{n j v:Nat}(h:v < j):(vX n j)[v]? =some (.bool true):=by
 rw[vX,List.getElem?_append_left (by simpa using h),List.getElem?_replicate,if_pos h]
theorem aRq{n j:Nat}(h:j < n):(vX n j)[j]? =some (.bool false):=by
 rw[vX,List.getElem?_append_right (by simp)];simp[List.getElem?_replicate];omega
theorem aRo{n j:Nat}(h:j < n):(vX n j).set j (.bool true)=vX n (j+1):=by
 unfold vX;rw[List.set_append_right _ _ (by simp),List.length_replicate,Nat.sub_self,show n - j=(n - (j+1))+1 by omega,List.replicate_succ,List.set_cons_zero,List.replicate_succ' (n:=j),List.append_assoc];rfl
theorem aI.aD3{w:World}{A:Option Addr}{n:Nat}{l:List Int}(h:aI (all w) 1 A n (aK l))(hn:0 < n):∃b off,A=some ⟨b,off,none⟩∧∀(i:Nat) (x:Int),l[i]? =some x→fK w b (off+i) (iv x):=by
 obtain⟨b,off,hA,hb,hc⟩:=h.2 hn;refine⟨b,off,hA,fun i x hx=>⟨hb,hc i _ ?_⟩⟩;simp only[aK,List.getElem?_map,hx,Option.map_some]
theorem aNl(j:Nat):aK (dL (List.range j))++[iv (j:Int)]=aK (dL (List.range (j+1))):=by
 rw[List.range_succ];simp[aK,dL]
def aGP(n:Nat)(v:Value)(w w':World):Prop:=∃A c,v=.slice A n c∧aI (fresh w w') 1 A n (aK (dL (List.range n)))
theorem aMM(A:Option Addr)(n c:Nat)(g:List (List Int))(w:World)(hg:mV (all w) A n g)(hn:n=g.length)(hn2:n≤100)(Ex:∀l∈g,l.length≤1000000)(aBh:∀(v:Nat) (l:List Int),g[v]? =some l→∀y∈l,0≤y∧y < (v:Int)):
  Cz 236 #[.slice A n c] w (fun y w'=>(∃v,y=.returned v∧aGP n v w w')∧Below w.heap.size w w'):=by
 refine aL func236 ntmps236 ?_;refine aB ?_;refine iO 3 1 ?_;refine lX 1 (n:=n) (el:=4) (z:=.bool false) (by kernel_rfl) (by kernel_rfl) rfl rfl rfl (by omega) (by omega) (by decide) fun g1=>?_;refine aB ?_;refine bJ [(5,.bool true),(4,.slice (some ⟨g1,0,none⟩) n n),(3,sn),(0,.slice A n c)] ?_;refine aB ?_;refine eI (fun m e R H=>∃(j:Nat) (mo:Bool) (Ao:Option Addr) (co:Nat),j≤n∧(mo=false→j=n)∧m=2*(n - j)+mo.toNat∧e=[(5,.bool mo),(4,.slice (some ⟨g1,0,none⟩) n n),(3,.slice Ao j co),(0,.slice A n c)]∧R=[all w]∧H=[HP.aE g1 4 (vX n j),HP.own 3 1 (.slice Ao j co) j (aK (dL (List.range j)))]) (2*n+1) ⟨0,true,none,0,by omega,(fun h=>by cases h),by simp,rfl,rfl,by simp[vX,aK,dL]⟩ fun m e R H hI=>?_;obtain⟨j,mo,Ao,co,hj,hmo,rfl,rfl,rfl,rfl⟩:=hI;refine aB ?_;refine pU rfl (fun h=>?_) (fun h=>?_)
 ·
  refine aB ?_;subst h;refine aB ?_;refine bJ [(6,iv 0),(5,.bool false),(4,.slice (some ⟨g1,0,none⟩) n n),(3,.slice Ao j co),(0,.slice A n c)] ?_;refine aB ?_;refine eI (fun m e R H=>∃(v:Nat) (mi:Bool) (jj:Nat) (Ao:Option Addr) (co:Nat),v≤n∧((mi=false∧jj=j∧v≤j)∨(mi=true∧jj=j+1∧j < n∧v=j+1))∧m=n - v∧e=[(6,iv v),(5,.bool mi),(4,.slice (some ⟨g1,0,none⟩) n n),(3,.slice Ao jj co),(0,.slice A n c)]∧R=[all w]∧H=[HP.aE g1 4 (vX n jj),HP.own 3 1 (.slice Ao jj co) jj (aK (dL (List.range jj)))]) n ⟨0,false,j,Ao,co,by omega,.inl ⟨rfl,rfl,by omega⟩,rfl,rfl,rfl,rfl⟩ fun m e R H hI=>?_;obtain⟨v,mi,jj,Ao,co,hv,hst,rfl,rfl,rfl,rfl⟩:=hI;refine cO ?_;refine Zn 20 (v < n∧mi=false) ?_ ?_
  ·skip
   refine aB ?_
   (first | refine bU (t:=17) rfl (fun hg=>?_) (fun hg=>?_) | refine sE (t:=17) rfl (fun hg=>?_) (fun hg=>?_))
   ·
    refine fO rfl rfl ?_;refine cP rfl (by decide) ?_;refine fO rfl rfl ?_;(first | refine Ln rfl (by decide) ?_ | refine zF rfl (by decide) ?_)
    (first | refine pW rfl rfl (by decide) ?_ | refine pY rfl rfl (by decide) ?_)
    refine dO ?_;exact Su
   ·
    refine fV rfl rfl rfl (by decide) ?_;refine fV rfl rfl rfl (by decide) ?_
    (first | refine pW rfl rfl (by decide) ?_ | refine pY rfl rfl (by decide) ?_)
    refine dO ?_;exact Su
  refine aG rfl (fun hin=>?_) (fun hin=>?_)
  ·
   refine lU ?_;refine dW ?_;refine cO ?_;refine sC ?_;refine cO ?_;obtain⟨Jp,hmf⟩:=hin
   obtain⟨hvj,hjj⟩:v≤j∧jj=j:=by
    rcases hst with⟨_,h2,h3⟩ | ⟨h1,_⟩
    ·exact⟨h3,h2⟩
    ·rw[hmf] at h1;cases h1
   subst hjj;subst hmf;clear hst;obtain⟨l,hl⟩:∃l,g[v]? =some l:=⟨g[v]'(by omega),List.getElem?_eq_getElem _⟩
   have hlt:=aBh v l hl
   have hlen:=Ex l (List.mem_of_getElem? hl)
   obtain⟨bG,oG,Al,kl,rfl,hcG,rT⟩:=hg.row hl
   have tJ:(vX n jj)[v]? =some (.bool (decide (¬v=jj))):=by
    by_cases aAZ:v=jj
    ·subst aAZ;rw[aRq Jp];simp
    ·rw[aIP (by omega)];simp[aAZ]
   refine eB ?_;refine cP rfl (by decide) ?_;refine cP rfl (by decide) ?_;refine kd (dat v v) ?_;refine jC (by kernel_rfl) rfl (Rd.aE 0 rfl tJ) (by decide) ?_;refine Ln rfl (by decide) ?_;rw[show decide (¬¬v=jj)=decide (v=jj) by simp];refine aB ?_;refine bJ [(8,iv 0),(7,.bool (decide (v=jj))),(6,iv v),(5,.bool false),(4,.slice (some ⟨g1,0,none⟩) n n),(3,.slice Ao jj co),(0,.slice (some ⟨bG,oG,none⟩) n c)] ?_;refine aB ?_;refine eI (fun m e R H=>∃(i:Nat) (rb:Bool),i≤l.length∧rb=decide (v=jj)∧m=l.length - i∧e=[(8,iv i),(7,.bool rb),(6,iv v),(5,.bool false),(4,.slice (some ⟨g1,0,none⟩) n n),(3,.slice Ao jj co),(0,.slice (some ⟨bG,oG,none⟩) n c)]∧R=[all w]∧H=[HP.aE g1 4 (vX n jj),HP.own 3 1 (.slice Ao jj co) jj (aK (dL (List.range jj)))]) l.length ⟨0,_,by omega,rfl,rfl,rfl,rfl,rfl⟩ fun m e R H hI=>?_;obtain⟨i,rb,hi,hrb,rfl,rfl,rfl,rfl⟩:=hI;refine aA ?_;refine kd (dat v (oG+v)) ?_;refine aB ?_;refine aG rfl (fun hil=>?_) (fun hil=>?_)
   ·
    refine aB ?_
    have aBj:i < l.length:=by have h':(i:Int) < (l.length:Int):=hil;omega
    obtain⟨y,hy⟩:∃y,l[i]? =some y:=⟨_,List.getElem?_eq_getElem aBj⟩
    have hyb:=hlt y (List.mem_of_getElem? hy)
    obtain⟨bI,oI,hAI,Mw⟩:=rT.aD3 (by omega);subst hAI
    have Kc:=Mw i y hy
    refine aB ?_;refine sE (t:=38) rfl (fun Wp=>?_) (fun Wp=>?_)
    ·
     have hdy:(vX n jj)[y.toNat]? =some (.bool true):=aIP (by omega)
     refine aA ?_;refine kd (dat v (oG+v)) ?_;refine aA ?_;refine kd (dat i (oI+i)) ?_;refine fO rfl rfl ?_;refine jC (by kernel_rfl) rfl (Bs (by simp) Kc) (by decide) ?_;refine fO rfl rfl ?_;refine kd (dat y.toNat y.toNat) ?_;refine fO rfl rfl ?_;refine jC (by kernel_rfl) rfl (Rd.aE 0 rfl hdy) (by decide) ?_
     (first | refine pW rfl rfl (by decide) ?_ | refine pY rfl rfl (by decide) ?_)
     refine fP rfl (by decide) ?_;refine dO ?_;refine eB ?_;refine cP rfl (by decide) ?_;refine zJ rfl rfl (iR (by omega)) (by decide) ?_;refine fP rfl (by decide) ?_;refine dO ?_;exact dY (l.length - (i+1)) ⟨i+1,true,by omega,by rw[←hrb,Wp],rfl,rfl,rfl,rfl⟩
    ·
     refine aB ?_;exact dY (l.length - (i+1)) ⟨i+1,false,by omega,by rw[←hrb,Wp],rfl,rfl,rfl,rfl⟩
   ·
    refine aB ?_;refine pU rfl (fun hrd=>?_) (fun hrd=>?_)
    ·
     refine aB ?_
     have aAZ:v=jj:=of_decide_eq_true (hrb▸hrd)
     subst aAZ;refine aB ?_;refine tA 0 rfl (by kernel_rfl) rfl rfl rfl (by rw[aRp (by omega)];omega) ?_;dsimp only[List.set];rw[aRo Jp];refine aB ?_;refine eL fun g2=>?_;refine gH 2 1 8 1 (n':=v+1) (el:=3) (by kernel_rfl) (by kernel_rfl) (by decide) rfl rfl rfl (nJ 0 rfl rfl) (by simp[Value.oneCell']) rfl (by omega) (by omega) (by decide) fun A9 c9=>?_;dsimp only[List.set];rw[aNl];refine aB ?_;exact dY (n - (v+1)) ⟨v+1,true,v+1,A9,c9,by omega,.inr ⟨rfl,rfl,Jp,rfl⟩,rfl,rfl,rfl,rfl⟩
    ·
     refine aB ?_;exact dY (n - (v+1)) ⟨v+1,false,jj,Ao,co,by omega,.inl ⟨rfl,rfl,by have hne:¬v=jj:=of_decide_eq_false (hrb▸hrd);omega⟩,rfl,rfl,rfl,rfl⟩
  ·
   refine aB ?_;rcases hst with⟨rfl,rfl,h3⟩ | ⟨rfl,rfl,h3,rfl⟩
   ·have hjn:jj=n:=by
     rcases Nat.lt_or_ge v n with h9 | h9
     ·exact absurd ⟨h9,rfl⟩ hin
     ·omega
    exact dY (2*(n - jj)+0) ⟨jj,false,Ao,co,by omega,(fun _=>hjn),by simp,rfl,rfl,rfl⟩ (hm:=by simp)
   ·exact dY (2*(n - (j+1))+1) ⟨j+1,true,Ao,co,by omega,(fun h=>by cases h),by simp,rfl,rfl,rfl⟩ (hm:=by simp;omega)
 ·
  refine aB ?_;obtain rfl:=hmo h;refine dP [] [1] [] (by simp) rfl (by decide) (by decide) fun q hq _ hfr=>?_;obtain⟨F1,sf1,zf1⟩:=hq 1 _ (by simp) rfl;obtain⟨A8,c8,e8,h8⟩:=uY (Y:=q.Z) sf1 zf1
  injection e8 with f1 f2 f3
  subst f1;exact aS (h:=fun w1 st=>⟨_,rfl,Ao,co,rfl,aI.le h8 (st.mF (by simp) (hfr (by simp) (by simp)))⟩)
end
section
theorem aCX(A:Option Addr)(n c:Nat)(g:List (List Int))(w:World)(hg:mV (all w) A n g)(hn:n=g.length)(hn2:n≤100)(Ex:∀l∈g,l.length≤1000000)(aBh:∀(v:Nat) (l:List Int),g[v]? =some l→∀y∈l,0≤y∧y < (v:Int)):
  Cz 214 #[.slice A n c] w (Rt (iv 0) w):=by
 refine aL func214 ntmps214 ?_;refine aB ?_;refine aG rfl (fun h=>absurd h (by omega)) (fun h=>?_)
 ·
  refine aB ?_;refine bJ [(3,iv 0),(0,.slice A n c)] ?_;refine aB ?_;refine eI (fun m e R H=>∃(v:Nat),v≤n∧m=n - v∧e=[(3,iv v),(0,.slice A n c)]∧R=[all w]∧H=[]) n ⟨0,by omega,rfl,rfl,rfl,rfl⟩ fun m e R H hI=>?_;obtain⟨v,hv,rfl,rfl,rfl,rfl⟩:=hI;refine aB ?_;refine aG rfl (fun hvl=>?_) (fun hvl=>?_)
  ·
   refine aB ?_
   have Jp:v < n:=by have h':(v:Int) < (n:Int):=hvl;omega
   obtain⟨l,hl⟩:∃l,g[v]? =some l:=⟨g[v]'(by omega),List.getElem?_eq_getElem _⟩
   have hlt:=aBh v l hl
   have hlen:=Ex l (List.mem_of_getElem? hl)
   obtain⟨bG,oG,Al,kl,rfl,hcG,rT⟩:=hg.row hl;refine aB ?_;refine bJ [(4,iv 0),(3,iv v),(0,.slice (some ⟨bG,oG,none⟩) n c)] ?_;refine aB ?_;refine eI (fun m e R H=>∃(i:Nat),i≤l.length∧m=l.length - i∧e=[(4,iv i),(3,iv v),(0,.slice (some ⟨bG,oG,none⟩) n c)]∧R=[all w]∧H=[]) l.length ⟨0,by omega,rfl,rfl,rfl,rfl⟩ fun m e R H hI=>?_;obtain⟨i,hi,rfl,rfl,rfl,rfl⟩:=hI;refine aA ?_;refine kd (dat v (oG+v)) ?_;refine aB ?_;refine aG rfl (fun hil=>?_) (fun hil=>?_)
   ·
    refine lU ?_;refine dW ?_;refine cO ?_;refine sC ?_
    have aBj:i < l.length:=by have h':(i:Int) < (l.length:Int):=hil;omega
    obtain⟨y,hy⟩:∃y,l[i]? =some y:=⟨_,List.getElem?_eq_getElem aBj⟩
    have hyb:=hlt y (List.mem_of_getElem? hy)
    obtain⟨bI,oI,hAI,Mw⟩:=rT.aD3 (by omega);subst hAI
    have Kc:=Mw i y hy
    refine Zn 42 (False) ?_ ?_
    ·skip
     refine aA ?_;refine kd (dat v (oG+v)) ?_;refine aA ?_;refine kd (dat i (oI+i)) ?_;refine aB ?_
     (first | refine bU (t:=31) rfl (fun hg=>?_) (fun hg=>?_) | refine sE (t:=31) rfl (fun hg=>?_) (fun hg=>?_))
     ·
      refine fV rfl rfl rfl (by decide) ?_;refine fV rfl rfl rfl (by decide) ?_;refine fV rfl rfl rfl (by decide) ?_;refine fV rfl rfl rfl (by decide) ?_;refine fV rfl rfl rfl (by decide) ?_;refine fV rfl rfl rfl (by decide) ?_;refine fV rfl rfl rfl (by decide) ?_;refine fV rfl rfl rfl (by decide) ?_;refine fV rfl rfl rfl (by decide) ?_;refine fV rfl rfl rfl (by decide) ?_
      (first | refine pW rfl rfl (by decide) ?_ | refine pY rfl rfl (by decide) ?_)
      refine dO ?_;exact Sv (by repeat (first | exact trivial | refine⟨rfl,?_⟩)) (by first | (exfalso;omega) | (refine Ro rfl ⟨fun hh=>?_,fun hh=>hh.elim⟩;omega) | (refine Xo rfl ?_;exact id))
     ·
      refine fO rfl rfl ?_;refine cP rfl (by decide) ?_;refine fO rfl rfl ?_;refine cP rfl (by decide) ?_;refine fO rfl rfl ?_;refine kd (dat v (oG+v)) ?_;refine aA ?_;refine kd (dat i (oI+i)) ?_;refine fO rfl rfl ?_;refine jC (by kernel_rfl) rfl (Bs (by simp) Kc) (by decide) ?_;refine fO rfl rfl ?_;refine cP rfl (by decide) ?_;refine fO rfl rfl ?_;refine Dx (el:=22) (by kernel_rfl) rfl (by decide) ?_;refine fO rfl rfl ?_;refine aF9 rfl rfl (by decide) ?_
      (first | refine pW rfl rfl (by decide) ?_ | refine pY rfl rfl (by decide) ?_)
      refine dO ?_;exact Sv (by repeat (first | exact trivial | refine⟨rfl,?_⟩)) (by first | (exfalso;omega) | (refine Ro rfl ⟨fun hh=>?_,fun hh=>hh.elim⟩;omega) | (refine Xo rfl ?_;exact id))
    refine pU rfl (fun h=>by simp at h) (fun _=>?_)
    ·
     refine aB ?_;exact dY (l.length - (i+1)) ⟨i+1,by omega,rfl,rfl,rfl,rfl⟩
   ·
    refine aB ?_;exact dY (n - (v+1)) ⟨v+1,by omega,rfl,rfl,rfl,rfl⟩
  ·
   refine aB ?_;refine jP [] (aGP n) (fun w1 st=>aMM _ n c g w1 (hg.le (jR (st.started (by simp)))) hn hn2 Ex aBh) ?_;rintro _ w1 q1 ⟨Ao,co,rfl,ho⟩ hf _ qH
   have ho:=ho.le hf
   clear hf;refine aB ?_;refine aG rfl (fun h=>absurd h (by omega)) (fun h=>?_)
   ·
    refine aB ?_;exact aS (h:=fun _ _=>rfl)
end
section
theorem aGL(v n:Int)(w:World):Cz 216 #[iv v,iv n] w (Rt (.bool (decide (0≤v∧v < n))) w):=by
 refine aL func216 ntmps216 ?_;refine aB ?_;refine bU (t:=7) rfl (fun hg=>?_) (fun hg=>?_)
 ·
  refine aB ?_;rw[show decide (0≤v∧v < n)=decide (v < n) from decide_eq_decide.2 ⟨fun h=>h.2,fun h=>⟨hg,h⟩⟩];exact aS (h:=fun _ _=>rfl)
 ·
  refine aB ?_;rw[show decide (0≤v∧v < n)=false from decide_eq_false (fun h=>hg h.1)];exact aS (h:=fun _ _=>rfl)
theorem aCV(v a b:Int)(w:World):Cz 158 #[iv v,iv a,iv b] w (Rt (.bool (decide (a≤v∧v≤b))) w):=by
 refine aL func158 ntmps158 ?_;refine aB ?_;refine bU (t:=10) rfl (fun hg=>?_) (fun hg=>?_)
 ·
  refine aB ?_;rw[show decide (a≤v∧v≤b)=decide (v≤b) from decide_eq_decide.2 ⟨fun h=>h.2,fun h=>⟨hg,h⟩⟩];exact aS (h:=fun _ _=>rfl)
 ·
  refine aB ?_;rw[show decide (a≤v∧v≤b)=false from decide_eq_false (fun h=>hg h.1)];exact aS (h:=fun _ _=>rfl)
set_option maxRecDepth 100000 in
theorem aMT(c:eF)(k0 nn:Nat)(As:Option Addr)(ns ks:Nat)(w:World)(hs:aI (all w) 1 As ns (aK c.src))(hns:ns=c.src.length)(hf:c.fit k0)(hk:k0≤nn)(hnn:nn≤1000):Cz 213 #[.agg #[.int .u8 c.kind,.slice As ns ks,.int .u64 c.rate,iv c.mul,iv c.div,iv c.lock],iv (nn:Int)] w (Rt (iv 0) w):=by
  have hk9:=hf.1
  have hc:(c.kind=111∧ns=0∧1≤c.rate∧c.rate≤1000000)∨(c.kind=112∧ns=1∧1≤c.mul∧c.mul≤8∧1≤c.div∧c.div≤4∧0≤c.lock∧c.lock≤3)∨(c.kind=100∧ns=1∧1≤c.div∧c.div≤8)∨(c.kind=103∧ns=1)∨(c.kind=109∧ns=2):=by
    rcases hf.2 with h | h | h | h | h
    · exact .inl ⟨h.1,by rw[hns,h.2.1];rfl,h.2.2.1,h.2.2.2.1⟩
    · omega
    · omega
    · omega
    · omega
  clear hf;obtain⟨kind,src,rate,mul,div,lock⟩:=c;dsimp only at hs hns hk9 hc⊢
  have win:∀v a b:Int,a≤v∧v≤b→∀w1,Cz 158 #[iv v,iv a,iv b] w1 (Rt (.bool true) w1):=fun v a b h w1=>by
    have:=aCV v a b w1
    rwa [decide_eq_true h] at this
  have inn:∀v:Int,v∈src→∀w1,Cz 216 #[iv v,iv (nn:Int)] w1 (Rt (.bool true) w1):=fun v h w1=>by
    have:=aGL v nn w1
    have h2:=hk9 v h
    rwa [decide_eq_true (by omega)] at this
  refine aL func213 ntmps213 ?_;refine aB ?_;refine bA fun g1=>?_;rcases hc with⟨rfl,rfl,h⟩ | ⟨rfl,rfl,h⟩ | ⟨rfl,rfl,h⟩ | ⟨rfl,rfl⟩ | ⟨rfl,rfl⟩
  all_goals
    refine aB ?_
  · refine Oa (fun i=>[(7,iv i),(5,_),(2,pt g1),(1,iv nn)]) 4 fun i hi=>?_
    refine aB ?_;refine bU (t:=68) rfl (fun h3=>by omega) (fun _=>?_);refine aB ?_;refine aG rfl (fun h3=>by omega) (fun _=>?_);refine aB ?_;exact dF
  rotate_left 3
  refine aU (fun w1 t=>win ((2:Nat):Int) 1 4 (by decide) w1) ?_;refine aB ?_
  rotate_left
  all_goals
    refine Oa (fun i=>[(7,iv i),(5,_),(2,pt g1),(1,iv nn)]) 4 fun i hi=>?_;refine aB ?_;refine aG rfl (fun h2=>?_) (fun h2=>?_)
    · obtain⟨f,hf⟩:=get_some (l:=src) (i:=i) (by omega)
      obtain⟨b,off,rfl,gZ,iA⟩:=hs.2 (by omega)
      have Mv:fK w b (off+i) (iv f):=⟨gZ,iA i _ (by simp[aK,hf])⟩
      refine aB ?_;refine aU (fun w1 t=>inn f (List.mem_of_getElem? hf) w1) ?_;refine aB ?_;exact jM ()
    refine aB ?_
  · refine aU (fun w1 t=>win mul 1 1000 (by omega) w1) ?_
    refine aB ?_;refine aU (fun w1 t=>win div 1 1000 (by omega) w1) ?_;refine aB ?_;refine aU (fun w1 t=>win lock 0 20 (by omega) w1) ?_;refine aB ?_;exact dF
  · refine aU (fun w1 t=>win div 1 1000 (by omega) w1) ?_
    refine aB ?_;exact dF
  all_goals exact dF
theorem aMQ(s:aD)(A1 A2 A3 A4:Option Addr)(n1 k1 n2 k2 n3 k3 n4 k4:Nat)(w:World)(hW:fE w s A1 n1 A2 n2 A3 n3 A4 n4)(hm:s.made):Cz 155 #[.agg #[.slice A1 n1 k1,.slice A2 n2 k2,.slice A3 n3 k3,.slice A4 n4 k4]] w (Rt (.bool true) w):=by
 have qG:=hW.mZ
 have hn2:=hW.nL
 have oQ:=hW.pM
 have qX:=hW.nK
 have hnc:=hm.nc
 have hnd:=hm.nd
 have iJ:=hm.nr
 have nB:=hm.nv
 have cS:=hW.small
 refine aL func155 ntmps155 ?_;refine aB ?_;refine bA fun g1=>?_;refine aB ?_;refine bU (t:=8) rfl (fun h=>by omega) (fun _=>?_);refine aB ?_;refine bU (t:=14) rfl (fun h=>by omega) (fun _=>?_);refine aB ?_;refine bU (t:=20) rfl (fun h=>by omega) (fun _=>?_);refine aB ?_;refine aG rfl (fun h=>by omega) (fun _=>?_);refine aB ?_;refine Oa (fun i=>[(3,iv i),(1,pt g1)]) n4 fun i hi=>?_;refine aB ?_;refine aG rfl (fun h=>?_) (fun h=>?_)
 ·obtain⟨d,hd⟩:∃d,s.aC[i]? =some d:=⟨_,List.getElem?_eq_getElem (by omega)⟩
  obtain⟨b,off,r,rfl,hrl,hR,hro⟩:=hW.dev.row hd;obtain⟨Ar,nr,kr,An,nn,kn,rfl,aHZ,aPm,Jq,hsn⟩:=hR;obtain⟨_,_,_,_,_,_,_,_,hd9,_,aPI,_⟩:=hm.aC i d hd
  have h4:=hro.at_ (j:=4) rfl
  have h5:=hro.at_ (j:=5) rfl
  refine aB ?_;refine bU (t:=41) rfl (fun h=>by omega) (fun _=>?_);refine aB ?_;refine aG rfl (fun h=>by omega) (fun _=>?_);refine aB ?_;exact jM ()
 ·refine aB ?_;exact dF
theorem Ux{v n:Int}(h:0≤v∧v < n)(w:World):Cz 216 #[iv v,iv n] w (Rt (.bool true) w):=by
 have:=aGL v n w
 rwa [decide_eq_true h] at this
theorem aGK{v a b:Int}(h:a≤v∧v≤b)(w:World):Cz 158 #[iv v,iv a,iv b] w (Rt (.bool true) w):=by
 have:=aCV v a b w
 rwa [decide_eq_true h] at this
theorem aMS(s:aD)(A1 A2 A3 A4:Option Addr)(n1 k1 n2 k2 n3 k3 n4 k4:Nat)(w:World)(hW:fE w s A1 n1 A2 n2 A3 n3 A4 n4)(hm:s.made):Cz 156 #[.agg #[.slice A1 n1 k1,.slice A2 n2 k2,.slice A3 n3 k3,.slice A4 n4 k4]] w (Rt (iv 0) w):=by
 have qG:=hW.mZ
 have hn2:=hW.nL
 have oQ:=hW.pM
 have qX:=hW.nK
 have hnc:=hm.nc
 have hnd:=hm.nd
 have iJ:=hm.nr
 have nB:=hm.nv
 have cS:=hW.small
 unfold aD.small at cS;obtain⟨hs1,fX,rU,tG,nX,oO⟩:=cS;refine aL func156 ntmps156 ?_;refine aB ?_;refine bA fun g1=>?_;refine aB ?_;refine Oa (fun i=>[(3,iv i),(1,pt g1)]) n1 fun i hi=>?_;refine aB ?_;refine aG rfl (fun h=>?_) (fun h=>?_)
 ·obtain⟨c,hc⟩:∃c,s.aF[i]? =some c:=⟨_,List.getElem?_eq_getElem (by omega)⟩
  obtain⟨b,off,r,rfl,hrl,hR,hro⟩:=hW.jJ.row hc;obtain⟨Af,nf,kf,rfl,hnf,pN⟩:=hR
  have hfit:=hm.aF i c hc
  refine aB ?_;refine aJV ?_;refine aM 8 ?_;refine aU (fun w1 st=>aMT c i n1 Af nf kf w1 (aI.le pN (jR (st.started (by simp)))) hnf hfit (by omega) (by omega)) ?_;refine bL ?_;refine rE 9 ?_;refine fJ ?_;refine aB ?_;exact jM ()
 ·refine aB ?_;refine jP [] (wF (gO s)) (fun w1 st=>aMR s A1 A2 A3 A4 n1 k1 n2 k2 n3 k3 n4 k4 w1 (hW.le (st.started (by simp)))) ?_;rintro _ w1 q1 ⟨Ag,cg,rfl,lD⟩ hf hle hfr
  have lD:=lD.le hf
  refine aB ?_
  refine aU (fun w1 st=>aCX Ag _ cg (gO s) w1 (lD.le (st.le (by simp))) rfl (by simp[gO];omega) (fun l hl=>by
   simp only[gO,List.mem_map] at hl;obtain⟨z,hz,rfl⟩:=hl
   have:=nX z hz;omega) (aH9 hm)) ?_
  refine aB ?_;exact dF
theorem aMO(s:aD)(A1 A2 A3 A4:Option Addr)(n1 k1 n2 k2 n3 k3 n4 k4:Nat)(w:World)(hW:fE w s A1 n1 A2 n2 A3 n3 A4 n4)(hm:s.made):Cz 157 #[.agg #[.slice A1 n1 k1,.slice A2 n2 k2,.slice A3 n3 k3,.slice A4 n4 k4]] w (Rt (iv 0) w):=by
 have qG:=hW.mZ
 have hn2:=hW.nL
 have oQ:=hW.pM
 have qX:=hW.nK
 have hnc:=hm.nc
 have hnd:=hm.nd
 have iJ:=hm.nr
 have nB:=hm.nv
 refine aL func157 ntmps157 ?_;refine aB ?_;refine bA fun g1=>?_;refine aB ?_;refine Oa (fun i=>[(3,iv i),(1,pt g1)]) n2 fun i hi=>?_;refine aB ?_;refine aG rfl (fun h=>?_) (fun h=>?_)
 ·obtain⟨d,hd⟩:∃d,s.domains[i]? =some d:=⟨_,List.getElem?_eq_getElem (by omega)⟩
  obtain⟨b,off,r,rfl,hrl,rfl,hro⟩:=hW.dom.row hd;obtain⟨dD,Ri,nC⟩:=hm.domains i d hd;refine aB ?_;refine bR fun g2=>?_;refine aB ?_;refine bU (t:=20) rfl (fun h2=>?_) (fun h2=>?_)
  ·refine aB ?_;refine aU (fun w1 _=>Ux (v:=d.above) (n:=(n2:Nat)) (by omega) w1) ?_;refine aB ?_;refine aU (fun w1 _=>aGK (v:=d.delay) (a:=0) (b:=20) (by omega) w1) ?_;refine aB ?_;exact jM ()
  ·refine aB ?_;refine aU (fun w1 _=>aGK (v:=d.delay) (a:=0) (b:=20) (by omega) w1) ?_;refine aB ?_;exact jM ()
 ·refine aB ?_;refine jP [] (wF (gM s)) (fun w1 st=>aMN s A1 A2 A3 A4 n1 k1 n2 k2 n3 k3 n4 k4 w1 (hW.le (st.started (by simp)))) ?_;rintro _ w1 q1 ⟨Ag,cg,rfl,lD⟩ hf hle hfr
  have lD:=lD.le hf
  refine aB ?_
  refine aU (fun w1 st=>aCX Ag _ cg (gM s) w1 (lD.le (st.le (by simp))) rfl (by simp[gM];omega) (fun l hl=>by
   simp only[gM,List.mem_map] at hl;obtain⟨z,_,rfl⟩:=hl
   split<;>simp) (aH7 hm)) ?_
  refine aB ?_;exact dF
theorem aCW(s:aD)(A1 A2 A3 A4:Option Addr)(n1 k1 n2 k2 n3 k3 n4 k4:Nat)(w:World)(hW:fE w s A1 n1 A2 n2 A3 n3 A4 n4):
  Cz 160 #[.agg #[.slice A1 n1 k1,.slice A2 n2 k2,.slice A3 n3 k3,.slice A4 n4 k4]] w (fun y w'=>(∃v,y=.returned v∧wF (cQ s) v w w')∧Below w.heap.size w w'):=by
 have hn:=hW.nK
 have cS:=hW.small
 unfold aD.small at cS;obtain⟨hs1,fX,rU,tG,nX,oO⟩:=cS;refine aL func160 ntmps160 ?_;refine cO ?_;refine eB ?_;refine bA fun g1=>?_;refine fP rfl (by decide) ?_;refine dO ?_;refine cO ?_;refine eB ?_;refine fP rfl (by decide) ?_;refine dO ?_;refine cO ?_;refine cO ?_;refine eB ?_;refine fP rfl (by decide) ?_;refine dO ?_;refine bJ [(4,iv 0),(3,sn),(1,pt g1)] ?_;refine iO 22 1 ?_;refine dP [] [] [0,1] (by simp) rfl (by decide) (by decide) fun q0 _ _ Cu=>?_;refine sC ?_;refine eI (fun m e R H=>∃(k:Nat) (vs:List Value) (q:Piece) (Ag:Option Addr) (cg:Nat),k≤n4∧m=n4 - k∧qR w q∧Rows (qP (fF q)) 1 ((cQ s).take k) (vs.map fun v=>[v])∧e=[(4,iv k),(3,.slice Ag k cg),(1,pt g1)]∧R=[q,all w]∧H=[HP.own 22 1 (.slice Ag k cg) k vs,HP.aE g1 30 [.slice A1 n1 k1,.slice A2 n2 k2,.slice A3 n3 k3,.slice A4 n4 k4]]) n4 ⟨0,[],_,none,0,by omega,rfl,Cu (by simp) (by simp),trivial,rfl,rfl,rfl⟩ fun m e R H hI=>?_;obtain⟨k,vs,q,Ag,cg,hk,rfl,qY,hrows,rfl,rfl,rfl⟩:=hI;refine cO ?_;refine cO ?_;refine eB ?_;refine cP rfl (by decide) ?_;refine pZ (off:=3) (by kernel_rfl) rfl (by decide) ?_;refine Dy rfl ?_;refine Dx (el:=38) (by kernel_rfl) rfl (by decide) ?_;refine Pa rfl rfl (by decide) ?_;refine dO ?_;refine aG rfl (fun h=>?_) (fun h=>?_)
 ·
  refine lU ?_;refine dW ?_;refine cO ?_;refine sC ?_
  have hkn:k < s.aC.length:=by omega
  obtain⟨e,he⟩:∃e,s.aC[k]? =some e:=⟨_,List.getElem?_eq_getElem hkn⟩
  obtain⟨b,off,r,rfl,hrl,hR,hro⟩:=hW.dev.row he;obtain⟨Ar,nr,kr,Af,nf,kf,rfl,aHZ,hnf,Jq,pN⟩:=hR
  have yH:(cQ s)[k]? =some (e.fR):=by simp[cQ,he]
  refine eB ?_;refine cP rfl (by decide) ?_;refine Dw (el:=3) (sz:=1) (by kernel_rfl) (by kernel_rfl) (by decide) fun g4=>?_;refine Bn 0 1 0 rfl rfl (by omega) ?_;dsimp only[List.set];refine pZ (off:=3) (by kernel_rfl) rfl (by decide) ?_;refine Dy rfl ?_;refine cP rfl (by decide) ?_;refine kd (dat k (off+k*6)) ?_;refine pZ (off:=5) (by kernel_rfl) rfl (by decide) ?_;refine jC (by kernel_rfl) rfl (Bs (by simp) (hro.at_ (j:=5) rfl)) (by decide) ?_;refine gH 0 1 8 nf (n':=nf) (el:=3) (by kernel_rfl) (by kernel_rfl) (by decide) rfl rfl rfl (qV (p:=all w) (by simp) pN) (by simp[aK,Value.oneCell']) (by omega) (by have:=oO e (List.mem_of_getElem? he);omega) (by have:=oO e (List.mem_of_getElem? he);omega) (by decide) fun A5 c5=>?_;dsimp only[List.set,List.nil_append];refine eL fun g3=>?_;refine gH 2 1 24 1 (n':=k+1) (el:=22) (by kernel_rfl) (by kernel_rfl) (by decide) rfl rfl rfl (nJ 0 rfl rfl) (by simp[Value.oneCell']) rfl (by omega) (by omega) (by decide) fun A6 c6=>?_;dsimp only[List.set];refine fP rfl (by decide) ?_;refine dO ?_;refine eB ?_;refine cP rfl (by decide) ?_;refine zJ rfl rfl (iR (by omega)) (by decide) ?_;refine fP rfl (by decide) ?_;refine dO ?_;refine dP [q] [1] [2,3] (by simp) rfl (by decide) (by decide) fun q' mE hle Ey=>?_;obtain⟨Fg,Mo,Mh⟩:=mE 1 _ (by simp) rfl;obtain⟨A7,c7,e7,rR⟩:=uY (Y:=q'.Z) Mo Mh
  injection e7 with f1 f2 f3
  subst f1;exact dY (n4 - (k+1)) ⟨k+1,vs++[_],q',A6,c6,by omega,rfl,Ey (by simp) (by simpa using qY),Je hrows (hle q (by simp)) yH ⟨A5,nf,c5,rfl,hnf,rR⟩,rfl,rfl,rfl⟩
 ·
  refine Zk ?_;refine dW ?_;refine cO ?_;obtain rfl:k=n4:=by omega
  rw[List.take_of_length_le (by simp[cQ];omega)] at hrows;refine eB ?_;refine cP rfl (by decide) ?_;refine fP rfl (by decide) ?_;refine dO ?_;refine Ky ?_;refine dW ?_;refine dP [q] [0] [] (by simp) rfl (by decide) (by decide) fun q2 hq hle hfr=>?_
  have kK:k=(cQ s).length:=by simp[cQ];omega
  exact aS (h:=fun w1 st=>⟨_,rfl,Ag,cg,by rw[←kK],by rw[←kK];exact(aFm hrows (hle q (by simp)) (hq 0 _ (by simp) rfl) kK).le (st.mF (by simp) (hfr (by simp) (by simpa using qY)))⟩)
theorem aMP(s:aD)(A1 A2 A3 A4:Option Addr)(n1 k1 n2 k2 n3 k3 n4 k4:Nat)(w:World)(hW:fE w s A1 n1 A2 n2 A3 n3 A4 n4)(hm:s.made):Cz 159 #[.agg #[.slice A1 n1 k1,.slice A2 n2 k2,.slice A3 n3 k3,.slice A4 n4 k4]] w (Rt (iv 0) w):=by
 have qG:=hW.mZ
 have hn2:=hW.nL
 have oQ:=hW.pM
 have qX:=hW.nK
 have hnc:=hm.nc
 have hnd:=hm.nd
 have iJ:=hm.nr
 have nB:=hm.nv
 have cS:=hW.small
 unfold aD.small at cS;obtain⟨hs1,fX,rU,tG,nX,oO⟩:=cS;refine aL func159 ntmps159 ?_;refine aB ?_;refine bA fun g1=>?_;refine aB ?_;refine Oa (fun i=>[(3,iv i),(1,pt g1)]) n4 fun i hi=>?_;refine aB ?_;refine aG rfl (fun h=>?_) (fun h=>?_)
 ·obtain⟨d,hd⟩:∃d,s.aC[i]? =some d:=⟨_,List.getElem?_eq_getElem (by omega)⟩
  obtain⟨b,off,r,rfl,hrl,hR,hro⟩:=hW.dev.row hd;obtain⟨Ar,nr,kr,An,nn,kn,rfl,aHZ,aPm,Jq,hsn⟩:=hR;obtain⟨dD,Ri,nC,hd4,hd5,Ap,hd7,hd8,hd9,aUq,aPI,aPH⟩:=hm.aC i d hd;refine aB ?_;refine bR fun g2=>?_;refine aB ?_;refine aU (fun w1 _=>Ux (v:=d.clock) (n:=(n1:Nat)) (by omega) w1) ?_;refine aB ?_;refine aU (fun w1 _=>Ux (v:=d.domain) (n:=(n2:Nat)) (by omega) w1) ?_;refine aB ?_;refine aU (fun w1 _=>Ux (v:=d.reset) (n:=(n3:Nat)) (by omega) w1) ?_;refine aB ?_;refine Oa (fun k=>[(5,iv k),(4,pt g2),(3,iv i),(1,pt g1)]) nn fun k hk=>?_;refine aB ?_;refine aG rfl (fun h2=>?_) (fun h2=>?_)
  ·obtain⟨y,hy⟩:∃y,d.fR[k]? =some y:=⟨_,List.getElem?_eq_getElem (by omega)⟩
   have hyb:=aPH y (List.mem_of_getElem? hy)
   obtain⟨bI,oI,rfl,Mw⟩:=aI.aD3 hsn (by omega)
   have Kc:=Mw k y hy
   refine aB ?_;refine aJV ?_;refine aM 8 ?_;refine aU (fun w1 _=>Ux (v:=y) (n:=(n4:Nat)) (by omega) w1) ?_;refine bL ?_;refine rE 9 ?_;refine fJ ?_;refine aB ?_;exact jM ()
  ·refine aB ?_;exact jM ()
 ·refine aB ?_;refine jP [] (wF (cQ s)) (fun w1 st=>aCW s A1 A2 A3 A4 n1 k1 n2 k2 n3 k3 n4 k4 w1 (hW.le (st.started (by simp)))) ?_;rintro _ w1 q1 ⟨Ag,cg,rfl,lD⟩ hf hle hfr
  have lD:=lD.le hf
  refine aB ?_
  refine aU (fun w1 st=>aCX Ag _ cg (cQ s) w1 (lD.le (st.le (by simp))) rfl (by simp[cQ];omega) (fun l hl=>by
   simp only[cQ,List.mem_map] at hl;obtain⟨z,hz,rfl⟩:=hl
   have:=oO z hz;omega) (aH6 hm)) ?_
  refine aB ?_;exact dF
theorem Uy(s:aD)(A1 A2 A3 A4:Option Addr)(n1 k1 n2 k2 n3 k3 n4 k4:Nat)(w:World)(hW:fE w s A1 n1 A2 n2 A3 n3 A4 n4)(hm:s.made):Cz 84 #[.agg #[.slice A1 n1 k1,.slice A2 n2 k2,.slice A3 n3 k3,.slice A4 n4 k4]] w (Rt (iv 0) w):=by
 have qG:=hW.mZ
 have hn2:=hW.nL
 have oQ:=hW.pM
 have qX:=hW.nK
 have hnc:=hm.nc
 have hnd:=hm.nd
 have iJ:=hm.nr
 have nB:=hm.nv
 refine aL func84 ntmps84 ?_;refine cO ?_;refine eB ?_;refine bA fun g1=>?_;refine fP rfl (by decide) ?_;refine dO ?_;refine cO ?_;refine cO ?_;refine eB ?_;refine Tu 4 rfl ?_;refine dH (fun w1 st=>aMQ s A1 A2 A3 A4 n1 k1 n2 k2 n3 k3 n4 k4 w1 (hW.le (st.started (by simp))) hm) ?_
 (first | refine Ln rfl (by decide) ?_ | refine zF rfl (by decide) ?_)
 refine dO ?_;refine aG rfl (fun h=>by first | exact absurd rfl h | cases h | (exfalso;omega)) (fun h=>?_)
 ·
  refine lU ?_;refine dW ?_;refine cO ?_;refine eB ?_;refine Tu 4 rfl ?_;refine dH (fun w1 st=>aMS s A1 A2 A3 A4 n1 k1 n2 k2 n3 k3 n4 k4 w1 (hW.le (st.started (by simp))) hm) ?_;refine fP rfl (by decide) ?_;refine dO ?_;refine cO ?_;refine cO ?_;refine eB ?_;refine cP rfl (by decide) ?_;refine aAg rfl rfl (by decide) ?_;refine dO ?_;refine aG rfl (fun h=>by first | exact absurd rfl h | cases h | (exfalso;omega)) (fun h=>?_)
  ·
   refine lU ?_;refine dW ?_;refine cO ?_;refine eB ?_;refine Tu 4 rfl ?_;refine dH (fun w1 st=>aMO s A1 A2 A3 A4 n1 k1 n2 k2 n3 k3 n4 k4 w1 (hW.le (st.started (by simp))) hm) ?_;refine fP rfl (by decide) ?_;refine dO ?_;refine cO ?_;refine cO ?_;refine eB ?_;refine cP rfl (by decide) ?_;refine aAg rfl rfl (by decide) ?_;refine dO ?_;refine aG rfl (fun h=>by first | exact absurd rfl h | cases h | (exfalso;omega)) (fun h=>?_)
   ·
    refine lU ?_;refine dW ?_;refine cO ?_;refine cO ?_;refine eB ?_;refine fP rfl (by decide) ?_;refine dO ?_;refine bJ [(4,iv 0),(1,pt g1)] ?_;refine sC ?_;refine eI (fun m e R H=>∃(i:Nat),i≤n3∧m=n3 - i∧e=[(4,iv i),(1,pt g1)]∧R=[all w]∧H=[HP.aE g1 30 [.slice A1 n1 k1,.slice A2 n2 k2,.slice A3 n3 k3,.slice A4 n4 k4]]) n3 ⟨0,by omega,rfl,rfl,rfl,rfl⟩ fun m e R H hI=>?_;obtain⟨i,hi,rfl,rfl,rfl,rfl⟩:=hI;refine cO ?_;refine cO ?_;refine eB ?_;refine cP rfl (by decide) ?_;refine pZ (off:=2) (by kernel_rfl) rfl (by decide) ?_;refine Dy rfl ?_;refine Dx (el:=88) (by kernel_rfl) rfl (by decide) ?_;refine Pa rfl rfl (by decide) ?_;refine dO ?_;refine aG rfl (fun hil=>?_) (fun hil=>?_)
    ·
     refine lU ?_;refine dW ?_;refine cO ?_;refine sC ?_;refine cO ?_;refine eB ?_;refine pZ (off:=2) (by kernel_rfl) rfl (by decide) ?_;refine Dy rfl ?_;refine cP rfl (by decide) ?_
     have aBj:i < n3:=by have h':(i:Int) < (n3:Int):=hil;omega
     obtain⟨r0,Ah⟩:∃r0,s.aT[i]? =some r0:=⟨_,List.getElem?_eq_getElem (by omega)⟩
     obtain⟨b,off,r,rfl,hrl,rfl,hro⟩:=hW.Cj.row Ah
     have hrb:=hm.aT r0 (List.mem_of_getElem? Ah)
     refine kd (dat (i) (off+i*1)) ?_;refine pZ (off:=0) (by kernel_rfl) rfl (by decide) ?_;refine jC (by kernel_rfl) rfl (Bs (by simp) (hro.at_ (j:=0) rfl)) (by decide) ?_;refine dH (fun w1 st=>aCV _ _ _ w1) ?_
     (first | refine Ln rfl (by decide) ?_ | refine zF rfl (by decide) ?_)
     refine dO ?_;refine aG rfl (fun h=>by first | exact absurd rfl h | cases h | (exfalso;omega)) (fun h=>?_)
     ·
      refine lU ?_;refine dW ?_;refine eB ?_;refine cP rfl (by decide) ?_;refine zJ rfl rfl (iR (by omega)) (by decide) ?_;refine fP rfl (by decide) ?_;refine dO ?_;exact dY (n3 - (i+1)) ⟨i+1,by omega,rfl,rfl,rfl,rfl⟩
    ·
     refine Zk ?_;refine dW ?_;refine cO ?_;refine eB ?_;refine Tu 4 rfl ?_;refine dH (fun w1 st=>aMP s A1 A2 A3 A4 n1 k1 n2 k2 n3 k3 n4 k4 w1 (hW.le (st.started (by simp))) hm) ?_;refine fP rfl (by decide) ?_;refine dO ?_;refine Ky ?_;refine dW ?_;exact aS (h:=fun _ _=>rfl)
end
section
def wD(v:Value):Prop:=∃(p:Option Addr) (e:Int),v=.tuple #[.pointer p,iv e]
theorem jN.aCT{α:Type}{w:World}{R:α→List Value→Prop}{t:TypeId}{sz n k:Nat}{A:Option Addr}{es:List α}{e:α}(h:jN (fF (all w)) R t sz A n es)(hk:es[k]? =some e):∃b off r,A=some ⟨b,off,none⟩∧R e r∧eC w b (off+k*sz) r:=by
 obtain⟨b,off,r,h1,h2,_,h3,h4⟩:=h.aG8 hk;exact⟨b,off,r,h1,h3,h2,fun j v hv=>h4 j v hv⟩
theorem aSb{s:aD}(hm:s.made){i:Nat}{c:eF}(hc:s.aF[i]? =some c):c.src.length≤2:=by
 rcases(hm.aF i c hc).2 with h | h | h | h | h
 ·rw[h.2.1];simp
 all_goals(have:=h.2.1;omega)
theorem aOR(l:List Int):∀v∈aK l,v.oneCell'=true:=fun v hv=>by
 simp[aK] at hv;obtain⟨_,_,rfl⟩:=hv;rfl
section
variable(s:aD)(A1 A2 A3 A4:Option Addr)(n1 k1 n2 k2 n3 k3 n4 k4:Nat)(w:World)(hW:fE w s A1 n1 A2 n2 A3 n3 A4 n4)(hm:s.made)
include hW hm
theorem aMW:Cz 80 #[.agg #[.slice A1 n1 k1,.slice A2 n2 k2,.slice A3 n3 k3,.slice A4 n4 k4]] w (fun y w'=>(∃v,y=.returned v∧wD v)∧Below w.heap.size w w'):=by
 have iJ:=hm.nr
 obtain⟨rr,cI,oQ,hst⟩:=hW.Cj
 have cI:=aCO cI
 subst cI;subst oQ;refine aL func80 ntmps80 ?_;refine aB ?_;refine bA fun g1=>?_;refine aB ?_;refine aU (fun w1 t=>Uy s A1 A2 A3 A4 n1 k1 n2 k2 _ k3 n4 k4 w1 (hW.le (t.started (by simp))) hm) ?_;refine aB ?_;refine bA fun g2=>?_;refine aB ?_;refine iO 3 1 ?_;refine iO 320 3 ?_;refine pT (α:=((Option Addr×Nat)×List Value)×(Option Addr×Nat)×List Value) (fun i _=>[(6,iv i),(5,pt g2),(1,pt g1)]) (fun i x=>[HP.own 320 3 (.slice x.1.1.1 i x.1.1.2) i x.1.2,HP.own 3 1 (.slice x.2.1.1 i x.2.1.2) i x.2.2,HP.aE g2 318 [.slice x.2.1.1 i x.2.1.2,.slice x.1.1.1 i x.1.1.2],HP.aE g1 30 [.slice A1 n1 k1,.slice A2 n2 k2,.slice A3 s.aT.length k3,.slice A4 n4 k4]]) (fun _ _=>True) s.aT.length (((none,0),[]),(none,0),[]) trivial fun i x hi _=>?_;obtain⟨⟨⟨L1,L2⟩,L3⟩,⟨⟨M1,M2⟩,M3⟩⟩:=x;dsimp only;refine aB ?_;refine aG rfl (fun hlt=>?_) (fun hge=>?_)
 ·have hlt:i < s.aT.length:=by omega
  obtain⟨c,hc⟩:=get_some hlt;obtain⟨b,off,rfl,hro⟩:=aI.row hst (fun r hr=>by obtain⟨q,_,rfl⟩:=List.mem_map.1 hr;rfl) (r:=[iv c]) (by rw[List.getElem?_map,hc];rfl) hlt
  have k0:=hro.at_ (j:=0) rfl
  simp only[Nat.mul_one] at k0;refine aB ?_;refine qM ?_;refine aM 11 ?_;refine eL fun g3=>?_;refine bL ?_;refine nZ [12,13,14,15] ?_;refine aB ?_;refine sN 2 fun A' k'=>?_;dsimp only[List.set];refine aB ?_;refine eL fun g4=>?_;refine aB ?_;refine sN 2 fun A'' k''=>?_;dsimp only[List.set];refine aB ?_;exact jM (((_,_),_),(_,_),_)
 ·refine aB ?_;exact eK rfl rfl rfl fun w1 t=>⟨⟨_,rfl,⟨_,_,rfl⟩⟩,t.below (by simp)⟩
theorem aMX:Cz 79 #[.agg #[.slice A1 n1 k1,.slice A2 n2 k2,.slice A3 n3 k3,.slice A4 n4 k4]] w (fun y w'=>(∃v,y=.returned v∧wD v)∧Below w.heap.size w w'):=by
 have hnd:=hm.nd
 obtain⟨rr,cI,hn2,hst⟩:=hW.dom
 have cI:=aEs cI
 subst cI;subst hn2;refine aL func79 ntmps79 ?_;refine aB ?_;refine bA fun g1=>?_;refine aB ?_;refine aU (fun w1 t=>Uy s A1 A2 A3 A4 _ k1 _ k2 _ k3 n4 k4 w1 (hW.le (t.started (by simp))) hm) ?_;refine aB ?_;refine Dw (el:=50) (sz:=3) (by kernel_rfl) (by kernel_rfl) (by decide) fun g=>?_;refine Bn 0 3 0 rfl rfl (by omega) ?_;dsimp only[List.set];refine aB ?_
 refine gH 0 3 24 s.domains.length (n':=s.domains.length) (el:=50) (by kernel_rfl) (by kernel_rfl) (by decide) rfl rfl rfl (qV (by simp) hst) (fun v hv=>by
  simp only[List.mem_flatten,List.mem_map] at hv;obtain⟨_,⟨d,_,rfl⟩,hv⟩:=hv;simp only[List.mem_cons,List.not_mem_nil,or_false] at hv
  rcases hv with rfl | rfl | rfl<;>rfl) (by omega) (by omega) (by omega) (by decide) fun A k=>?_
 dsimp only[List.set,List.nil_append];refine aB ?_;refine bA fun g2=>?_;refine aB ?_;refine iO 315 3 ?_;refine pT (α:=(Option Addr×Nat)×List Value) (fun i _=>[(6,iv i),(5,pt g2)]) (fun i x=>[HP.own 315 3 (.slice x.1.1 i x.1.2) i x.2,HP.aE g2 313 [.slice A s.domains.length k,.slice x.1.1 i x.1.2]]) (fun _ _=>True) s.domains.length ((none,0),[]) trivial fun i x hi _=>?_;obtain⟨⟨L1,L2⟩,L3⟩:=x;dsimp only;refine aB ?_;refine aG rfl (fun hlt=>?_) (fun hge=>?_)
 ·have hlt:i < s.domains.length:=by omega
  refine aB ?_;refine eL fun g4=>?_;refine aB ?_;refine sN 1 fun A'' k''=>?_;dsimp only[List.set];refine aB ?_;exact jM ((_,_),_)
 ·refine aB ?_;exact eK rfl rfl rfl fun w1 t=>⟨⟨_,rfl,⟨_,_,rfl⟩⟩,t.below (by simp)⟩
theorem aMY:Cz 78 #[.agg #[.slice A1 n1 k1,.slice A2 n2 k2,.slice A3 n3 k3,.slice A4 n4 k4]] w (fun y w'=>(∃v,y=.returned v∧wD v)∧Below w.heap.size w w'):=by
 have hnc:=hm.nc
 obtain rfl:=hW.mZ;refine aL func78 ntmps78 ?_;refine aB ?_;refine bA fun g1=>?_;refine aB ?_;refine aU (fun w1 t=>Uy s A1 A2 A3 A4 _ k1 _ k2 _ k3 n4 k4 w1 (hW.le (t.started (by simp))) hm) ?_;refine aB ?_;refine bA fun g2=>?_;refine aB ?_;refine iO 86 6 ?_;refine iO 310 5 ?_;refine pT (α:=((Option Addr×Nat)×List Value)×(Option Addr×Nat)×List Value) (fun i _=>[(6,iv i),(5,pt g2),(1,pt g1)]) (fun i x=>[HP.own 310 5 (.slice x.1.1.1 i x.1.1.2) i x.1.2,HP.own 86 6 (.slice x.2.1.1 i x.2.1.2) i x.2.2,HP.aE g2 308 [.slice x.2.1.1 i x.2.1.2,.slice x.1.1.1 i x.1.1.2],HP.aE g1 30 [.slice A1 s.aF.length k1,.slice A2 n2 k2,.slice A3 n3 k3,.slice A4 n4 k4]]) (fun _ _=>True) s.aF.length (((none,0),[]),(none,0),[]) trivial fun i x hi _=>?_;obtain⟨⟨⟨L1,L2⟩,L3⟩,⟨⟨M1,M2⟩,M3⟩⟩:=x;dsimp only;refine aB ?_;refine aG rfl (fun hlt=>?_) (fun hge=>?_)
 ·have hlt:i < s.aF.length:=by omega
  obtain⟨c,hc⟩:=get_some hlt;obtain⟨b,off,_,rfl,⟨AF,_,kF,rfl,rfl,hF⟩,hro⟩:=hW.jJ.aCT hc
  have fX:=aSb hm hc
  refine aB ?_;refine bR fun g3=>?_;refine aB ?_;refine Dw (el:=3) (sz:=1) (by kernel_rfl) (by kernel_rfl) (by decide) fun g=>?_;refine Bn 0 1 0 rfl rfl (by omega) ?_;dsimp only[List.set];refine aB ?_;refine gH 0 1 8 c.src.length (n':=c.src.length) (el:=3) (by kernel_rfl) (by kernel_rfl) (by decide) rfl rfl rfl (qV (by simp) hF) (aOR _) (by omega) (by omega) (by omega) (by decide) fun A k=>?_;dsimp only[List.set,List.nil_append];refine aB ?_;refine qM ?_;refine aM 6 ?_;refine eL fun g4=>?_;refine bL ?_;refine nZ [7,8,9,10] ?_;refine aB ?_;refine sN 4 fun A' k'=>?_;dsimp only[List.set];refine aB ?_;refine bR fun g5=>?_;refine aB ?_;refine Ta (α:=Int) (fun _=>[(8,pt g5),(6,iv i),(5,pt g2),(1,pt g1)]) (fun v=>[HP.aE g5 310 [.bool false,iv v,iv 0,iv 0,iv c.div],HP.own 310 5 (.slice L1 i L2) i L3,HP.own 86 6 (.slice A' (i+1) k') (i+1) (M3++[.int .u8 c.kind,.slice A c.src.length k,.int .u64 c.rate,iv c.mul,iv c.div,iv c.lock]),HP.aE g2 308 [.slice A' (i+1) k',.slice L1 i L2],HP.aE g1 30 [.slice (some ⟨b,off,none⟩) s.aF.length k1,.slice A2 n2 k2,.slice A3 n3 k3,.slice A4 n4 k4]]) (fun _=>True) ?_ fun v _=>?_
  ·refine aB ?_;refine aG rfl (fun _=>?_) (fun _=>?_)
   ·refine aB ?_;exact gB _
   ·refine aB ?_;exact gB _
  refine aB ?_;refine qM ?_;refine aM 6 ?_;refine eL fun g6=>?_;refine bL ?_;refine nZ [7,8,9,10] ?_;refine aB ?_;refine sN 2 fun A'' k''=>?_;dsimp only[List.set];refine aB ?_;exact jM (((_,_),_),(_,_),_)
 ·refine aB ?_;exact eK rfl rfl rfl fun w1 t=>⟨⟨_,rfl,⟨_,_,rfl⟩⟩,t.below (by simp)⟩
end
end
section
section
variable{N:bZ}{w0 w:World}{e:Env}{R:List Piece}{H:List HP}{Q:Exit→Act→World→Prop}{ops:Array Oper}{rest:List Oper}{pos:String}{ty:TypeId}{aH:Array Edge}{p:HP}
theorem aOM(i:Nat){x y:Operand}{s t:TypeId}{g o:Nat}{cs vs:List Value}(hi:H[i]? =some (HP.aE g t cs))(k:XK N w0 (wpList Tryz.prog ops Q rest) e R (H.set i (HP.aE g t (iH cs o vs))))(hx:e.ev x=some (.pointer (some ⟨g,o,none⟩)):=by rfl)(hy:e.ev y=some (.agg vs.toArray):=by rfl)(hs:(Tryz.prog.info? s).any (·.size==vs.length)=true:=by kernel_rfl)(h1:vs.all Value.oneCell'=true:=by rfl)(hl:decide (o+vs.length≤cs.length)=true:=by rfl):
  XK N w0 (wpList Tryz.prog ops Q (⟨none,.store s x y,ty,pos,aH,none⟩::rest)) e R H:=
 rL i hi hx hy hs (fun u hu=>List.all_eq_true.1 h1 u (by simpa[Value.cells] using hu)) (by simpa[Value.cells] using of_decide_eq_true hl) (by simpa[Value.cells] using k)
end
section
variable(s:aD)(A1 A2 A3 A4:Option Addr)(n1 k1 n2 k2 n3 k3 n4 k4:Nat)(w:World)(hm:s.made)
include hm
theorem aNd:Cz 85 #[.agg #[.slice A1 s.aF.length k1,.slice A2 s.domains.length k2,.slice A3 s.aT.length k3,.slice A4 n4 k4]] w (fun y w'=>(∃v,y=.returned v∧∃v1 v2 v3 v4 v5 v6:Value,v=.agg #[v1,v2,v3,v4,v5,v6])∧Below w.heap.size w w'):=by
 have hnc:=hm.nc
 have hnd:=hm.nd
 have iJ:=hm.nr
 refine aL func85 ntmps85 ?_;refine aB ?_;refine bA fun g1=>?_;refine bR fun g2=>?_;refine aB ?_;refine bR fun g3=>?_;refine aB ?_;refine pT (α:=(Value×Value×Value)×Value×Value×Value) (fun i _=>[(4,iv i),(3,pt g3),(2,pt g2),(1,pt g1)]) (fun i x=>[HP.aE g3 201 [x.1.1,x.1.2.1,x.1.2.2,x.2.1,x.2.2.1,x.2.2.2],HP.aE g2 201 [sn,sn,sn,sn,sn,sn],HP.aE g1 30 [.slice A1 s.aF.length k1,.slice A2 s.domains.length k2,.slice A3 s.aT.length k3,.slice A4 n4 k4]]) (fun _ x=>∀v∈[x.1.1,x.1.2.1,x.1.2.2,x.2.1,x.2.2.1,x.2.2.2],v.oneCell'=true) 2 ((sn,sn,sn),sn,sn,sn) (by simp[Value.oneCell']) fun i x hi hx=>?_;obtain⟨⟨a1,a2,a3⟩,a4,a5,a6⟩:=x;dsimp only at hx⊢;refine aB ?_;refine aG rfl (fun hlt=>?_) (fun hge=>?_)
 ·obtain rfl | rfl:i=0∨i=1:=by omega
  all_goals
   refine aB ?_;refine rB 15 (by kernel_rfl) (by kernel_rfl) ?_;refine bB 0 ?_;refine bB 1 ?_;refine bB 2 ?_;refine bB 3 ?_;refine bB 5 ?_;refine bB 6 ?_;refine bB 7 ?_;refine bB 9 ?_;refine bB 10 ?_;refine bB 11 ?_;refine bB 14 ?_;refine aCd (fuel:=3) [4,8,12] [[4,8,12]] (fun i=>match i with | 4=>⟨13,4,List.replicate s.domains.length (.bool false),fun g=>.slice (some ⟨g,0,none⟩) s.domains.length s.domains.length⟩ | 8=>⟨17,4,List.replicate s.aF.length (.bool false),fun g=>.slice (some ⟨g,0,none⟩) s.aF.length s.aF.length⟩ | _=>⟨21,4,List.replicate s.aT.length (.bool false),fun g=>.slice (some ⟨g,0,none⟩) s.aT.length s.aT.length⟩) (fun i hi=>?_) (by show[13,17,21].Nodup;decide) (by kernel_rfl) (fun _ h=>h) (fun sub hsub hex g=>?_)
   ·simp only[List.mem_cons,List.not_mem_nil,or_false] at hi;rcases hi with rfl | rfl | rfl
    ·exact uA.of rfl rfl rfl (zV 1 (el:=4) (z:=.bool false) (by kernel_rfl) (by kernel_rfl) rfl rfl rfl (by omega) (by omega)) (Nat.le_of_ble_eq_true rfl) rfl
    ·exact uA.of rfl rfl rfl (zV 1 (el:=4) (z:=.bool false) (by kernel_rfl) (by kernel_rfl) rfl rfl rfl (by omega) (by omega)) (Nat.le_of_ble_eq_true rfl) rfl
    ·exact uA.of rfl rfl rfl (zV 1 (el:=4) (z:=.bool false) (by kernel_rfl) (by kernel_rfl) rfl rfl rfl (by omega) (by omega)) (Nat.le_of_ble_eq_true rfl) rfl
   have fX:sub=[4,8,12]:=by simpa using hex
   subst fX;dsimp only[qZ,tH,kS,List.map,List.foldr,List.cons_append,List.nil_append,List.length_cons,List.length_nil,Nat.reduceAdd,Nat.reduceSub];refine bB 13 ?_ (hi:=rfl) (dI:=fZ rfl) (hsub:=fun _ h=>h.tail.tail.tail);refine cE 15 ?_;refine kz ?_;refine fA ?_;refine cE 16 ?_;refine aOM 3 rfl ?_;simp only[iH,List.set,Nat.reduceAdd,Nat.zero_add,List.take,List.drop,List.cons_append,List.nil_append,List.length_cons,List.length_nil];refine fA ?_;refine kG ?_;refine aB ?_;exact jM ((_,_,_),_,_,_) (hg:=by simp[Value.oneCell'] at hx⊢;simp[hx])
 ·refine aB ?_;refine oM 1 rfl ?_ (h1:=List.all_eq_true.2 hx);dsimp only[List.set];refine aB ?_;exact Nz (vs:=[a1,a2,a3,a4,a5,a6]) rfl (by kernel_rfl) rfl rfl (aQ.whole 1 rfl) fun w1 t=>⟨⟨_,rfl,_,_,_,_,_,_,rfl⟩,t.below (by simp)⟩
end
end
end Go.Proofs.YtdcdccmpcmjmhaaGreatDoor
