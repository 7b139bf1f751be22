/- package rpm: what is wanted, and the steps to that. -/
import Derived.Test.YtdcdccmpcmjmhaaGreatDoorRpmUsesK6
namespace Go.Proofs.YtdcdccmpcmjmhaaGreatDoor
set_option linter.all false
set_option maxHeartbeats 4000000
set_option maxRecDepth 20000
open Go.RowKit Go.Proofs.Tryz
section
def vN(old l:List Bool)(n:Nat):List Bool:=l.mapIdx fun k b=>if k < n then(b||hasB old k) else b
section
variable{N:cE}{w0:World}{e:Env}{R:List Piece}{H:List HP}{K:Act→World→Prop}{Φ:Piece→Prop}{hm:∀p q:Piece,p.Le q→Φ p→Φ q}{sz n b off:Nat}{A:Option Addr}{xs:List Value}
theorem aCc(i:Nat)(hi:H[i]? =some (HP.bR Φ hm))(Wh:∀p,Φ p→aI p sz A n xs)(hn:0 < n)(k:∀b off,A=some ⟨b,off,none⟩→XK N w0 K e R H):XK N w0 K e R H:=fun a w hr st=>by
 obtain⟨b,off,hA,_⟩:=(Wh _ (st.bR i hi)).2 hn;exact k b off hA a w hr st
theorem Rd.bR(i:Nat)(hi:H[i]? =some (HP.bR Φ hm))(Wh:∀p,Φ p→aI p sz A n xs)(hA:A=some ⟨b,off,none⟩)(hn:0 < n){j:Nat}{v:Value}(hv:xs[j]? =some v):Rd w0 R H b (off+j) v:=fun w st=>by
 obtain⟨b',off',sC,_,hc⟩:=(Wh _ (st.bR i hi)).2 hn;cases hA.symm.trans sC;exact hc j v hv
end
def dV(s:aD)(c:Cn):List Bool:=Ol (bP s) (bP s).length c
def kT(s:aD)(z:aV):bM:=⟨(eT s (dV s z.cn)).d,(eT s (dV s z.cn)).c,vN z.wn.l (eT s (dV s z.cn)).l s.aR.length⟩
def lQ(s:aD)(z:aV):aV:={z with steps:=allM s z.wn (kT s z),sent:=false,wn:=kT s z}
theorem aCG(s:aD)(act:List Bool):(eT s act).of s:=Er s act _
theorem aL5(s:aD)(z:aV):(kT s z).of s:=by
 have h:=aCG s (dV s z.cn)
 exact⟨h.d,h.c,by show(List.mapIdx _ _).length=_;rw[List.length_mapIdx];exact h.l⟩
theorem Fi(s:aD):(bP s).length=s.aC.length:=by simp[bP]
section
variable(g h f:Nat)(s:aD)(z:aV)(w:World)(F:Nat→Prop)
theorem aAG(hm:s.made)(hz:z.wn.of s)(hp:(gH g h f s z).sat F w)(hF:∀b,F b→b < w.heap.size):
  Cz 277 #[pt g] w (Wr (.tuple #[]) (gH g h f s (lQ s z)) w F):=by
 have lX:=hm.nv
 have hnd:=hm.nd
 have hnc:=hm.nc
 have iJ:=hm.nr
 have gB:=Fi s
 have hno:∀l∈bP s,(l.length:Int)≤1000:=fun l hl=>by
  obtain⟨i,hi⟩:=List.getElem?_of_mem hl;simp only[bP,List.getElem?_map] at hi;cases hd:s.aC[i]? with
  | none=>rw[hd] at hi;cases hi
  | some d=>
   rw[hd] at hi;cases hi
   have:=(hm.aC i d hd).2.2.2.2.2.2.2.2.2.2.1
   show((d.iS.length:Nat):Int)≤1000
   omega
 have ho:fS (bP s)=(0,List.range (bP s).length):=by rw[gB];exact(aBb hm).2.2
 have hal:(dV s z.cn).length=(bP s).length:=aKb _ _ _
 refine dJ func277 ntmps277 hp hF ?_;generalize cM:(⟨w,fun b=>b < w.heap.size∧¬F b⟩:Piece)=R0;refine mB 0 fun L=>?_;refine bF 0 0 ?_;refine bF 1 4 ?_;refine bF 2 3 ?_;refine nA ?_;refine bF 2 1 ?_;refine bF 3 2 ?_;refine aY [2,0,1,3,4] rfl (by decide) (fun _ h=>h) ?_
 change XK _ _ _ _ _ [lC L.gc L.gm L.nd.1 L.nd.2 (bP s) z.cn,HP.bR (uY L z.wn) _,HP.bR (kM L s) _,_,_]
 generalize hM:HP.many [cJ,cJ,cJ,cJ,cJ,HP.bR (oP L z.steps) (oP.le (L:=L) (l:=z.steps))]=M;refine cP ?_;refine aCj (fun e R H=>∃gt ga gb gc:Nat,e=[(2,pt gt),(0,pt g)]∧R=[R0]∧H=[HP.aE gt 116 [.slice (some ⟨ga,0,none⟩) (eT s (dV s z.cn)).d.length (eT s (dV s z.cn)).d.length,.slice (some ⟨gb,0,none⟩) (eT s (dV s z.cn)).c.length (eT s (dV s z.cn)).c.length,.slice (some ⟨gc,0,none⟩) (eT s (dV s z.cn)).l.length (eT s (dV s z.cn)).l.length],HP.many [HP.aE ga 4 (bE (eT s (dV s z.cn)).d),HP.aE gb 4 (bE (eT s (dV s z.cn)).c),HP.aE gc 4 (bE (eT s (dV s z.cn)).l)],lC L.gc L.gm L.nd.1 L.nd.2 (bP s) z.cn,HP.bR (uY L z.wn) (uY.le (L:=L) (x:=z.wn)),HP.bR (kM L s) (kM.le (L:=L) (s:=s)),HP.aE g 123 (kW h f L s z),M]) ?_ ?_
 ·refine Ou [1,2,3,5,6,7] ?_;refine bT 0 ?_ (hsub:=fun _ h=>h.cS);refine aJ 1 ?_ (hsub:=fun _ h=>h.cS);refine aJ 2 ?_ (hsub:=fun _ h=>h.cS);refine aJ 3 ?_ (hi:=rfl) (dH:=pM rfl (aAn (vs:=[_,_,_,_]) 3 rfl rfl)) (hsub:=fun _ h=>h.cS);refine bT 4 ?_ (hsub:=fun _ h=>h.cS);refine aJ 5 ?_ (hsub:=fun _ h=>h.cS);refine aJ 6 ?_ (hsub:=fun _ h=>h.cS);refine aJ 7 ?_ (hsub:=fun _ h=>h.cS);refine Ji 8 10 rfl rfl (by kernel_rfl) ?_ ?_
  ·refine xR (α:=Nat) 0 (f:=30) (fi:=[]) (ca:=[]) (fun b=>.slice (some ⟨b,0,none⟩) (bP s).length (bP s).length) (fun b=>HP.many [lC L.gc L.gm L.nd.1 L.nd.2 (bP s) z.cn,HP.aE b 4 (bE (dV s z.cn))]) (fun _=>True) (by kernel_rfl) rfl rfl rfl (by decide) (fun w1 F1 t h1 h2 h3=>aEH L.gc L.gm L.nd.1 L.nd.2 (bP s) z.cn _ rfl (by omega) hno ho w1 F1 h1 h2) ?_;rintro b _;dsimp only[List.set];refine bH ?_ (hS:=fun _ h=>h.cS);refine Ji 9 10 rfl rfl (by kernel_rfl) ?_ ?_
   ·refine bF 0 1 ?_
    refine iA (aAk (eT s (dV s z.cn))) (fun w1 t=>by
     have h1:=t.rU (i:=0) (sz:=1) (n:=(dV s z.cn).length) rfl (by simp[bE])
     have:=aA2 (all w1) s L.a1.1 L.a2.1 L.a3.1 L.a4.1 _ L.a1.2 _ L.a2.2 _ L.a3.2 _ L.a4.2 (some ⟨b,0,none⟩) (bP s).length (dV s z.cn) w1 (t.bR 3 rfl) hm (Piece.Le.refl _) h1
     rw[hal] at this
     exact this) ?_
    rintro _ _ q ⟨ga,gb,gc,px,rfl,rfl⟩ _;dsimp only[List.cons_append,List.nil_append];refine bH ?_ (hS:=fun _ h=>h.aZ.tail.tail.tail.cS);refine aL 10 ?_;refine bX fun gt=>?_;refine bH ?_ (hS:=fun _ h=>h.aZ.tail.tail.tail.tail.cS);refine aL 11 ?_;refine oL 0 rfl ?_;dsimp only[List.set];refine bH ?_ (hS:=fun _ h=>h.aZ.tail.tail.tail.tail.cS);refine fE ?_;refine dS ?_;refine bF 4 0 ?_;refine aY [1,2,0,6,7,8,9] rfl (by decide) (R':=[R0]) (by simp) ?_;exact pO ⟨gt,ga,gb,gc,rfl,rfl,rfl⟩
   ·refine bX fun gt=>?_;refine bH ?_ (hS:=fun _ h=>h.tail.cS);refine aL 9 ?_;refine bF 1 1 ?_
    refine iA (aAk (eT s (dV s z.cn))) (fun w1 t=>by
     have h1:=t.rU (i:=0) (sz:=1) (n:=(dV s z.cn).length) rfl (by simp[bE])
     have:=aA2 (all w1) s L.a1.1 L.a2.1 L.a3.1 L.a4.1 _ L.a1.2 _ L.a2.2 _ L.a3.2 _ L.a4.2 (some ⟨b,0,none⟩) (bP s).length (dV s z.cn) w1 (t.bR 4 rfl) hm (Piece.Le.refl _) h1
     rw[hal] at this
     exact this) ?_
    rintro _ _ q ⟨ga,gb,gc,px,rfl,rfl⟩ _;dsimp only[List.cons_append,List.nil_append];refine bH ?_ (hS:=fun _ h=>h.aZ.tail.tail.tail.tail.cS);refine aL 11 ?_;refine oL 3 rfl ?_;dsimp only[List.set];refine bH ?_ (hS:=fun _ h=>h.aZ.tail.tail.tail.tail.cS);refine fE ?_;refine dS ?_;refine bF 4 0 ?_;refine aY [4,1,0,6,7,8,9] rfl (by decide) (R':=[R0]) (by simp) ?_;exact pO ⟨gt,ga,gb,gc,rfl,rfl,rfl⟩
  ·refine bX fun gt=>?_;refine bH ?_ (hS:=fun _ h=>h.tail.cS);refine aL 8 ?_;refine xR (α:=Nat) 1 (f:=30) (fi:=[]) (ca:=[]) (fun b=>.slice (some ⟨b,0,none⟩) (bP s).length (bP s).length) (fun b=>HP.many [lC L.gc L.gm L.nd.1 L.nd.2 (bP s) z.cn,HP.aE b 4 (bE (dV s z.cn))]) (fun _=>True) (by kernel_rfl) rfl rfl rfl (by decide) (fun w1 F1 t h1 h2 h3=>aEH L.gc L.gm L.nd.1 L.nd.2 (bP s) z.cn _ rfl (by omega) hno ho w1 F1 h1 h2) ?_;rintro b _;dsimp only[List.set];refine bH ?_ (hS:=fun _ h=>h.tail.cS);refine aL 9 ?_;refine bF 1 1 ?_
   refine iA (aAk (eT s (dV s z.cn))) (fun w1 t=>by
    have h1:=t.rU (i:=0) (sz:=1) (n:=(dV s z.cn).length) rfl (by simp[bE])
    have:=aA2 (all w1) s L.a1.1 L.a2.1 L.a3.1 L.a4.1 _ L.a1.2 _ L.a2.2 _ L.a3.2 _ L.a4.2 (some ⟨b,0,none⟩) (bP s).length (dV s z.cn) w1 (t.bR 4 rfl) hm (Piece.Le.refl _) h1
    rw[hal] at this
    exact this) ?_
   rintro _ _ q ⟨ga,gb,gc,px,rfl,rfl⟩ _;dsimp only[List.cons_append,List.nil_append];refine bH ?_ (hS:=fun _ h=>h.aZ.tail.tail.tail.tail.cS);refine aL 11 ?_;refine oL 3 rfl ?_;dsimp only[List.set];refine bH ?_ (hS:=fun _ h=>h.aZ.tail.tail.tail.tail.cS);refine fE ?_;refine dS ?_;refine bF 4 0 ?_;refine aY [4,1,0,6,7,8,9] rfl (by decide) (R':=[R0]) (by simp) ?_;exact pO ⟨gt,ga,gb,gc,rfl,rfl,rfl⟩
 rintro _ _ _ ⟨gt,ga,gb,gc,rfl,rfl,rfl⟩
 have pW:(eT s (dV s z.cn)).l.length=(kT s z).l.length:=by
  show _=(List.mapIdx _ _).length
  rw[List.length_mapIdx]
 have vR:(eT s (dV s z.cn)).l.length=s.aR.length:=(aCG s _).l
 have hzl:=hz.l
 rw[pW]
 have aUT:(kT s z).l.length=s.aR.length:=by rw[←pW];exact vR
 refine bF 1 2 ?_;refine bF 2 1 ?_;refine bF 3 0 ?_;refine aY [0,1,2,3,4,5,6,7,8,9] rfl (by decide) (fun _ h=>h) ?_;refine aA ?_
 have Dp:vN z.wn.l (eT s (dV s z.cn)).l 0=(eT s (dV s z.cn)).l:=Qr _ _
 refine bL [(21,iv 0),(20,iv z.wn.l.length),(19,.slice L.w3.1 z.wn.l.length L.w3.2),(2,pt gt),(0,pt g)] ?_;refine eJ (fun m e R H=>∃i:Nat,i≤z.wn.l.length∧m=z.wn.l.length - i∧e=[(21,iv i),(20,iv z.wn.l.length),(19,.slice L.w3.1 z.wn.l.length L.w3.2),(2,pt gt),(0,pt g)]∧R=[R0]∧H=[HP.aE ga 4 (bE (eT s (dV s z.cn)).d),HP.aE gb 4 (bE (eT s (dV s z.cn)).c),HP.aE gc 4 (bE (vN z.wn.l (eT s (dV s z.cn)).l i)),HP.aE gt 116 [.slice (some ⟨ga,0,none⟩) (eT s (dV s z.cn)).d.length (eT s (dV s z.cn)).d.length,.slice (some ⟨gb,0,none⟩) (eT s (dV s z.cn)).c.length (eT s (dV s z.cn)).c.length,.slice (some ⟨gc,0,none⟩) (kT s z).l.length (kT s z).l.length],HP.many [cJ,cJ,cJ],lC L.gc L.gm L.nd.1 L.nd.2 (bP s) z.cn,HP.bR (uY L z.wn) (uY.le (L:=L) (x:=z.wn)),HP.bR (kM L s) (kM.le (L:=L) (s:=s)),HP.aE g 123 (kW h f L s z),M]) z.wn.l.length ⟨0,by omega,rfl,rfl,rfl,by rw[Dp]⟩ fun m e R H hI=>?_;obtain⟨i,hi,rfl,rfl,rfl,rfl⟩:=hI;refine aA ?_;refine aG rfl (fun hlt=>?_) (fun hge=>?_)
 ·have hlt:i < z.wn.l.length:=by omega
  obtain⟨b,hb⟩:=get_some hlt;obtain⟨c,hc⟩:=get_some (l:=(eT s (dV s z.cn)).l) (i:=i) (by omega)
  have fK:(vN z.wn.l (eT s (dV s z.cn)).l i)[i]? =some c:=Qt hc
  have hstep:(vN z.wn.l (eT s (dV s z.cn)).l i).set i (c||hasB z.wn.l i)=vN z.wn.l (eT s (dV s z.cn)).l (i+1):=Qs (f:=fun k b=>b||hasB z.wn.l k) hc
  have hbB:hasB z.wn.l i=b:=by show z.wn.l[i]?.getD false=b;rw[hb];rfl
  rw[hbB] at hstep
  have eW:(vN z.wn.l (eT s (dV s z.cn)).l i).length=s.aR.length:=by rw[vN,List.length_mapIdx];exact vR
  refine aCc (A:=L.w3.1) (sz:=1) (n:=z.wn.l.length) (xs:=bE z.wn.l) 6 rfl (fun _ h=>h.2.2) (by omega) fun wb aLz hwA=>?_
  have hbc:(bE z.wn.l)[i]? =some (.bool b):=by simp[bE,hb]
  refine aA ?_;refine kd (dat i (aLz+i) (hx:=by rw[←hwA];rfl)) ?_;refine kd (bN rfl (Rd.bR 6 rfl (fun _ h=>h.2.2) hwA (by omega) hbc)) ?_;refine aA ?_;cases b
  ·rw[Bool.or_false,yF fK] at hstep;rw[hstep];refine aA ?_;exact dZ (z.wn.l.length - (i+1)) ⟨i+1,hlt,rfl,rfl,rfl,rfl⟩
  ·rw[Bool.or_true] at hstep;refine aA ?_;refine kd (dat i i) ?_;refine fD rfl rfl ?_ (hs:=eN.mk 2 rfl cI.h rfl (by simp[bE];omega));dsimp only[List.set];rw[aEP,hstep];refine aA ?_;exact dZ (z.wn.l.length - (i+1)) ⟨i+1,hlt,rfl,rfl,rfl,rfl⟩
 obtain rfl:i=z.wn.l.length:=by omega
 rw[hzl];refine aA ?_;refine jO [3,4,5,7,8,9,10] ?_;refine bT 0 ?_;refine bT 1 ?_;refine bT 2 ?_;refine aJ 3 ?_;refine aJ 4 ?_;refine aJ 5 ?_ (hi:=rfl) (dH:=pM rfl (aAn (vs:=[_,_,_,_]) 8 rfl rfl));refine bT 6 ?_;refine aJ 7 ?_;refine aJ 8 ?_;refine aJ 9 ?_ (hi:=rfl) (dH:=pM rfl (aAn (vs:=[_,_,_]) 8 rfl rfl));refine aJ 10 ?_;refine aL 11 ?_;refine jR [] (aK5 (allM s z.wn (kT s z))) (fun w1 t=>aMg (q:=all w1) (qx:=all w1) (qy:=all w1) (t.bR 7 rfl) hm (Piece.Le.refl _) (x:=z.wn) (y:=kT s z) ⟨L.w1.1,L.w1.2,L.w2.1,L.w2.2,L.w3.1,L.w3.2,rfl,t.bR 6 rfl⟩ (Piece.Le.refl _) ⟨_,_,_,_,_,_,rfl,t.rU (i:=0) rfl (by simp[bE,kT]),t.rU (i:=1) rfl (by simp[bE,kT]),t.rU (i:=2) rfl (by simp[bE,kT])⟩ (Piece.Le.refl _)) ?_;rintro _ w1 q ⟨As,cs,rfl,hs,hsc⟩ hf _ hfr
 have hs:=hs.le hf
 refine cT ?_;refine aL 12 ?_;refine bK ?_;refine cT ?_;refine aL 13 ?_;refine bK ?_;refine cT ?_;refine aL 14 ?_;refine fD rfl rfl ?_ (hs:=eN.mk 8 rfl cI.h rfl (of_decide_eq_true rfl));dsimp only[List.set];refine cT ?_;refine aL 15 ?_;refine bK ?_;refine cT ?_;refine aL 16 ?_;refine bK ?_;refine cT ?_;refine aL 17 ?_;refine fD rfl rfl ?_ (hs:=eN.mk 8 rfl cI.h rfl (of_decide_eq_true rfl));dsimp only[List.set];refine cT ?_;refine fE ?_
 refine Jd (Φ:=oP {L with st:=(As,cs)} (allM s z.wn (kT s z))) (hm:=oP.le) (hfr (by simp)) (fun p hp b hb=>by
  simp at hp;subst hp;rw[←cM] at hb
  exact hb.1) ⟨hs,hsc⟩ ?_
 refine aA ?_;refine Qy 9 rfl ?_;dsimp only[List.set];refine aA ?_;obtain⟨L',hL'⟩:∃L':dK,L'={L with w1:=(some ⟨ga,0,none⟩,(eT s (dV s z.cn)).d.length),w2:=(some ⟨gb,0,none⟩,(eT s (dV s z.cn)).c.length),w3:=(some ⟨gc,0,none⟩,(kT s z).l.length),st:=(As,cs)}:=⟨_,rfl⟩
 refine aY [1,2,3,0,6,8,9] rfl (by decide) (fun _ h=>h) ?_;refine Zw ?_;refine Bp (q:=HP.bR (uY L' (kT s z)) (uY.le (L:=L') (x:=kT s z))) 0 rfl (fun F w hs=>?_) ?_
 ·obtain⟨G,k1,k2,_⟩:=hs;subst hL';exact⟨tE (c:=0) (k1 0 _ rfl) (fun b hb=>k2 0 b hb) (by simp[bE,kT]),tE (c:=0) (k1 1 _ rfl) (fun b hb=>k2 1 b hb) (by simp[bE,kT]),tE (c:=0) (k1 2 _ rfl) (fun b hb=>k2 2 b hb) (by simp[bE,kT])⟩
 dsimp only[List.set];refine bF 2 0 ?_;refine bF 3 1 ?_;refine aY [6,5,2,1,0,3] rfl (by decide) (fun _ h=>h) ?_;refine nA ?_;refine uX ?_;refine uX ?_;refine uX ?_;refine uX ?_;refine xI 0 (f:=fun L:dK=>fN g h f L s (lQ s z)) L' (by subst hL';rfl) ?_;dsimp only[List.set];subst cM;exact kC 0 hF
end
end
section
theorem pP{w0:World}{R:List Piece}{H:List HP}{g h f:Nat}{L:dK}{s:aD}{z:aV}(i:Nat){o:Nat}{v:Value}(hi:H[i]? =some (fN g h f L s z))(hv:(kW h f L s z)[o]? =some v):Rd w0 R H g o v:=fun w st=>by
 have:=(st.aCX i hi).r0.at_ hv
 rw[Nat.zero_add] at this;exact this.2
def T3(j:Nat):Prop:=j=0∨j=1∨j=2
theorem zR{h f:Nat}{L:dK}{s:aD}{z:aV}{j k:Nat}{v:Value}(hj:T3 j)(hv:(tkC (z.tk j))[k]? =some v):(kW h f L s z)[10+13*j+k]? =some v:=by
 have hk:k < 13:=by
  have:=(List.getElem?_eq_some_iff.1 hv).1
  simpa[tkC] using this
 have hk2:k=0∨k=1∨k=2∨k=3∨k=4∨k=5∨k=6∨k=7∨k=8∨k=9∨k=10∨k=11∨k=12:=by omega
 rcases hj with rfl | rfl | rfl<;>rcases hk2 with rfl | rfl | rfl | rfl | rfl | rfl | rfl | rfl | rfl | rfl | rfl | rfl | rfl<;>exact hv
theorem Us{t:oO}{i:Nat}(hi:i < 6):(tkC t)[7+i]? =some (iv (hG t i)):=by
 have h2:i=0∨i=1∨i=2∨i=3∨i=4∨i=5:=by omega
 rcases h2 with rfl | rfl | rfl | rfl | rfl | rfl<;>rfl
theorem aEl{t:oO}{i k:Nat}{v:Int}(hl:t.hs.length=6)(hi:i < 6):hG {t with hs:=t.hs.set i v} k=if i=k then v else hG t k:=by
 show(t.hs.set i v).getD k 0=_
 rw[List.getD_eq_getElem?_getD,List.getElem?_set];split
 ·rename_i e
  subst e;rw[if_pos (by omega)];rfl
 ·show _=t.hs.getD k 0
  rw[List.getD_eq_getElem?_getD]
theorem aGL{h f:Nat}{L:dK}{s:aD}{z:aV}{j i:Nat}{v:Int}(hj:T3 j)(hi:i < 6)(hl:(z.tk j).hs.length=6):(kW h f L s z).set (10+13*j+7+i) (iv v)=kW h f L s (z.jQ j {z.tk j with hs:=(z.tk j).hs.set i v}):=by
 have hs:=fun k=>aEl (t:=z.tk j) (k:=k) (v:=v) hl hi
 have h2:i=0∨i=1∨i=2∨i=3∨i=4∨i=5:=by omega
 rcases hj with rfl | rfl | rfl<;>rcases h2 with rfl | rfl | rfl | rfl | rfl | rfl<;>simp[kW,aV.jQ,aV.tk] at hs⊢ <;>simp[hs]
theorem aAI{h f:Nat}{L:dK}{s:aD}{z:aV}:(kW h f L s z).length=55:=rfl
structure aF0(t:oO):Prop where
 len:t.hs.length=6
 bd:∀i,0≤hG t i∧hG t i≤1000000
def mU(t:oO)(i:Nat)(k:Int):oO:={t with hs:=t.hs.set i (hG t i+k)}
def Ga(s:aD)(z:aV)(j:Nat):Int×aV:=if(nO (bP s).length z.cn (z.tk j).dev).1≠0 then((nO (bP s).length z.cn (z.tk j).dev).1,z) else(0,lQ s {z.jQ j (mU (z.tk j) (z.tk j).dev.toNat 1) with cn:=(nO (bP s).length z.cn (z.tk j).dev).2})
def Fe(s:aD)(z:aV)(j:Nat):Int×aV:=if bB s.aC.length (z.tk j).dev=false then(4,z) else if hG (z.tk j) (z.tk j).dev.toNat=0 then(6,z) else if(kA (bP s).length z.cn (z.tk j).dev).1≠0 then((kA (bP s).length z.cn (z.tk j).dev).1,z) else(0,lQ s {z.jQ j (mU (z.tk j) (z.tk j).dev.toNat (-1)) with cn:=(kA (bP s).length z.cn (z.tk j).dev).2})
def Eu(s:aD)(z:aV):Int×aV:=if(sE z.cn).1≠0 then((sE z.cn).1,z) else(0,lQ s {z with cn:=(sE z.cn).2})
def Fa(s:aD)(z:aV):Int×aV:=if(sF z.cn).1≠0 then((sF z.cn).1,z) else(0,lQ s {z with cn:=(sF z.cn).2})
theorem aJH{n:Nat}{c:Cn}{d:Int}(h:(nO n c d).1≠0):(nO n c d).2=c:=by
 unfold nO at h⊢
 repeat' split
 all_goals first | rfl | (simp_all;done)
theorem aJG{n:Nat}{c:Cn}{d:Int}(h:(nO n c d).1=0):0≤d∧d < n:=by
 unfold nO at h;split at h
 ·simp at h
 ·split at h
  ·simp at h
  ·rename_i h1
   exact Decidable.not_not.1 h1
theorem aEF{n:Nat}{c:Cn}{d:Int}(h:(kA n c d).1≠0):(kA n c d).2=c:=by
 unfold kA at h⊢
 repeat' split
 all_goals first | rfl | (simp_all;done)
theorem aS7{c:Cn}(h:(sE c).1≠0):(sE c).2=c:=by
 unfold sE at h⊢;split
 ·rfl
 ·simp_all
theorem aS8{c:Cn}(h:(sF c).1≠0):(sF c).2=c:=by
 unfold sF at h⊢;split
 ·simp_all
 ·rfl
section
variable(g h f:Nat)(s:aD)(z:aV)(w:World)(F:Nat→Prop)
theorem aMR(hm:s.made)(hz:z.wn.of s)(a:Value)(hp:(gH g h f s z).sat F w)(hF:∀b,F b→b < w.heap.size):
  Cz 297 #[.agg #[],pt g,a] w (Wr (iv (Eu s z).1) (gH g h f s (Eu s z).2) w F):=by
 unfold Eu;refine dJ func297 ntmps297 hp hF ?_;refine aA ?_;refine bA fun g1=>?_;refine aA ?_;refine mB 1 fun L=>?_;refine kd (bN rfl (pP 1 rfl rfl)) ?_;refine bF 1 3 ?_;refine dR 0 (nZ L.gc L.gm (.slice L.nd.1 (bP s).length L.nd.2) (sE z.cn).2) (fun w1 F1 t h1 h2 h3=>aJw L.gc L.gm (bP s).length L.nd.2 L.nd.1 z.cn w1 F1 h1 h2) ?_;refine aA ?_;refine aG rfl (fun he=>?_) (fun he=>?_)
 ·rw[if_pos he,aS7 he];refine aA ?_;refine aN 1 3 ?_;refine fA 1 (fun L:dK=>fN g h f L s z) L ?_;exact cG 1 hF
 ·rw[if_neg he];refine aN 1 3 ?_;refine fA 1 (fun L:dK=>fN g h f L s {z with cn:=(sE z.cn).2}) L ?_;refine aA ?_;refine dR 1 (gH g h f s (lQ s {z with cn:=(sE z.cn).2})) (fun w1 F1 t h1 h2 h3=>aAG g h f s _ w1 F1 hm hz h1 h2) ?_;refine aA ?_;exact cG 1 hF
theorem aMU(hm:s.made)(hz:z.wn.of s)(a:Value)(hp:(gH g h f s z).sat F w)(hF:∀b,F b→b < w.heap.size):
  Cz 298 #[.agg #[],pt g,a] w (Wr (iv (Fa s z).1) (gH g h f s (Fa s z).2) w F):=by
 unfold Fa;refine dJ func298 ntmps298 hp hF ?_;refine aA ?_;refine bA fun g1=>?_;refine aA ?_;refine mB 1 fun L=>?_;refine kd (bN rfl (pP 1 rfl rfl)) ?_;refine bF 1 3 ?_;refine dR 0 (nZ L.gc L.gm (.slice L.nd.1 (bP s).length L.nd.2) (sF z.cn).2) (fun w1 F1 t h1 h2 h3=>aJx L.gc L.gm (bP s).length L.nd.2 L.nd.1 z.cn w1 F1 h1 h2) ?_;refine aA ?_;refine aG rfl (fun he=>?_) (fun he=>?_)
 ·rw[if_pos he,aS8 he];refine aA ?_;refine aN 1 3 ?_;refine fA 1 (fun L:dK=>fN g h f L s z) L ?_;exact cG 1 hF
 ·rw[if_neg he];refine aN 1 3 ?_;refine fA 1 (fun L:dK=>fN g h f L s {z with cn:=(sF z.cn).2}) L ?_;refine aA ?_;refine dR 1 (gH g h f s (lQ s {z with cn:=(sF z.cn).2})) (fun w1 F1 t h1 h2 h3=>aAG g h f s _ w1 F1 hm hz h1 h2) ?_;refine aA ?_;exact cG 1 hF
theorem aMY(hm:s.made)(hz:z.wn.of s)(j:Nat)(hj:T3 j)(hk:aF0 (z.tk j))(hp:(gH g h f s z).sat F w)(hF:∀b,F b→b < w.heap.size):
  Cz 276 #[.agg #[],pt g,.pointer (some ⟨g,10+13*j,none⟩)] w (Wr (iv (Ga s z j).1) (gH g h f s (Ga s z j).2) w F):=by
 have lX:=hm.nv
 have gB:=Fi s
 have hj2:j≤2:=by rcases hj with rfl | rfl | rfl<;>decide
 unfold Ga;refine dJ func276 ntmps276 hp hF ?_;refine aA ?_;refine bA fun g1=>?_;refine aA ?_;refine mB 1 fun L=>?_;refine kd (bN rfl (pP 1 rfl (zR (k:=2) hj rfl))) ?_;refine aA ?_;refine kd (bN rfl (pP 1 rfl rfl)) ?_;refine bF 1 3 ?_;refine aA ?_;refine dR 0 (nZ L.gc L.gm (.slice L.nd.1 (bP s).length L.nd.2) (nO (bP s).length z.cn (z.tk j).dev).2) (fun w1 F1 t h1 h2 h3=>aJ1 L.gc L.gm (bP s).length L.nd.2 L.nd.1 z.cn w1 F1 (z.tk j).dev h1 h2) ?_;refine aA ?_;refine aG rfl (fun he=>?_) (fun he=>?_)
 ·rw[if_pos he,aJH he];refine aA ?_;refine aN 1 3 ?_;refine fA 1 (fun L:dK=>fN g h f L s z) L ?_;exact cG 1 hF
 ·rw[if_neg he];obtain⟨Kq,dF⟩:=aJG (Decidable.not_not.1 he);obtain⟨dv,Ds⟩:∃n:Nat,(z.tk j).dev=(n:Int):=⟨(z.tk j).dev.toNat,by omega⟩
  have Bc:dv < 6:=by omega
  have hb0:=hk.bd dv
  refine aN 1 3 ?_;refine bF 1 0 ?_;generalize qO:(nO (bP s).length z.cn (z.tk j).dev).2=c2
  have hcell:(kW h f L s z)[10+13*j+7+dv]? =some (iv (hG (z.tk j) dv)):=by
   rw[Nat.add_assoc];exact zR hj (Us Bc)
  have mP:mU (z.tk j) (z.tk j).dev.toNat (1)={z.tk j with hs:=(z.tk j).hs.set dv (hG (z.tk j) dv+1)}:=by
   unfold mU;rw[show(z.tk j).dev.toNat=dv by omega]
   all_goals rfl
  have iX:=aGL (h:=h) (f:=f) (L:=L) (s:=s) (z:=z) (i:=dv) (v:=hG (z.tk j) dv+1) hj Bc hk.len
  rw[mP];refine aA ?_;refine jO [2,3,4,5,6,7,8] ?_;refine bT 0 ?_;refine bT 1 ?_;refine aJ 2 ?_;refine aJ 3 ?_;refine aJ 4 ?_ (hi:=rfl) (dH:=fZ dv (10+13*j+7+dv) (hj:=Ds) (hlt:=Bc) (ho:=by omega));refine aJ 5 ?_ (hi:=rfl) (dH:=bN rfl (Rd.aE 0 rfl hcell));refine aJ 6 ?_;refine aJ 7 ?_;refine aJ 8 ?_;refine aL 9 ?_;refine kd (fZ dv (10+13*j+7+dv) (hj:=Ds) (hlt:=Bc) (ho:=by omega)) ?_;refine cT ?_;refine aL 10 ?_;refine fD rfl rfl ?_ (hs:=eN.mk 0 rfl cI.h rfl (by rw[aAI];omega));dsimp only[List.set];rw[iX];refine cT ?_;refine fE ?_;refine aN 1 0 ?_;refine fA 1 (fun L:dK=>fN g h f L s {z.jQ j {z.tk j with hs:=(z.tk j).hs.set dv (hG (z.tk j) dv+1)} with cn:=c2}) L ?_;refine aA ?_;refine dR 1 (gH g h f s (lQ s {z.jQ j {z.tk j with hs:=(z.tk j).hs.set dv (hG (z.tk j) dv+1)} with cn:=c2})) (fun w1 F1 t h1 h2 h3=>aAG g h f s _ w1 F1 hm hz h1 h2) ?_;refine aA ?_;exact cG 1 hF
theorem aMV(hm:s.made)(hz:z.wn.of s)(j:Nat)(hj:T3 j)(hk:aF0 (z.tk j))(hp:(gH g h f s z).sat F w)(hF:∀b,F b→b < w.heap.size):
  Cz 290 #[.agg #[],pt g,.pointer (some ⟨g,10+13*j,none⟩)] w (Wr (iv (Fe s z j).1) (gH g h f s (Fe s z j).2) w F):=by
 have lX:=hm.nv
 have gB:=Fi s
 have hj2:j≤2:=by rcases hj with rfl | rfl | rfl<;>decide
 unfold Fe;refine dJ func290 ntmps290 hp hF ?_;refine aA ?_;refine bA fun g1=>?_;refine aA ?_;refine mB 1 fun L=>?_;refine kd (bN rfl (pP 1 rfl (zR (k:=2) hj rfl))) ?_;refine aA ?_;refine aU (fun w1 t=>aCY g h f L s z w1 (z.tk j).dev (t.aCX 1 rfl)) ?_;cases hin:bB s.aC.length (z.tk j).dev
 ·refine aA ?_;refine fA 1 (fun L:dK=>fN g h f L s z) L ?_;exact cG 1 hF
 have Bb:=of_decide_eq_true hin
 obtain⟨dv,Ds⟩:∃n:Nat,(z.tk j).dev=(n:Int):=⟨(z.tk j).dev.toNat,by omega⟩
 have Bc:dv < 6:=by omega
 have hb0:=hk.bd dv
 have aQ8:(kW h f L s z)[10+13*j+7+dv]? =some (iv (hG (z.tk j) dv)):=by
  rw[Nat.add_assoc];exact zR hj (Us Bc)
 rw[if_neg (by simp)];refine aA ?_;refine kd (fZ dv (10+13*j+7+dv) (hj:=Ds) (hlt:=Bc) (ho:=by omega)) ?_;refine kd (bN rfl (pP 1 rfl aQ8)) ?_;refine aA ?_
 have Rj:(z.tk j).dev.toNat=dv:=by omega
 refine aG rfl (fun h0=>?_) (fun h0=>?_)
 ·rw[if_pos (by rw[Rj];exact h0)];refine aA ?_;refine fA 1 (fun L:dK=>fN g h f L s z) L ?_;exact cG 1 hF
 rw[if_neg (by rw[Rj];exact h0)];refine aA ?_;refine kd (bN rfl (pP 1 rfl rfl)) ?_;refine bF 1 3 ?_;refine aA ?_;refine dR 0 (nZ L.gc L.gm (.slice L.nd.1 (bP s).length L.nd.2) (kA (bP s).length z.cn (z.tk j).dev).2) (fun w1 F1 t h1 h2 h3=>aJy L.gc L.gm (bP s).length L.nd.2 L.nd.1 z.cn w1 F1 (z.tk j).dev h1 h2) ?_;refine aA ?_;refine aG rfl (fun he=>?_) (fun he=>?_)
 ·rw[if_pos he,aEF he];refine aA ?_;refine aN 1 3 ?_;refine fA 1 (fun L:dK=>fN g h f L s z) L ?_;exact cG 1 hF
 ·rw[if_neg he];refine aN 1 3 ?_;refine bF 1 0 ?_;generalize qO:(kA (bP s).length z.cn (z.tk j).dev).2=c2
  have hcell:(kW h f L s z)[10+13*j+7+dv]? =some (iv (hG (z.tk j) dv)):=by
   rw[Nat.add_assoc];exact zR hj (Us Bc)
  have mP:mU (z.tk j) (z.tk j).dev.toNat (-1)={z.tk j with hs:=(z.tk j).hs.set dv (hG (z.tk j) dv - 1)}:=by
   unfold mU;rw[show(z.tk j).dev.toNat=dv by omega]
   all_goals rfl
  have iX:=aGL (h:=h) (f:=f) (L:=L) (s:=s) (z:=z) (i:=dv) (v:=hG (z.tk j) dv - 1) hj Bc hk.len
  rw[mP];refine aA ?_;refine jO [2,3,4,5,6,7,8] ?_;refine bT 0 ?_;refine bT 1 ?_;refine aJ 2 ?_;refine aJ 3 ?_;refine aJ 4 ?_ (hi:=rfl) (dH:=fZ dv (10+13*j+7+dv) (hj:=Ds) (hlt:=Bc) (ho:=by omega));refine aJ 5 ?_ (hi:=rfl) (dH:=bN rfl (Rd.aE 0 rfl hcell));refine aJ 6 ?_;refine aJ 7 ?_;refine aJ 8 ?_;refine aL 9 ?_;refine kd (fZ dv (10+13*j+7+dv) (hj:=Ds) (hlt:=Bc) (ho:=by omega)) ?_;refine cT ?_;refine aL 10 ?_;refine fD rfl rfl ?_ (hs:=eN.mk 0 rfl cI.h rfl (by rw[aAI];omega));dsimp only[List.set];rw[iX];refine cT ?_;refine fE ?_;refine aN 1 0 ?_;refine fA 1 (fun L:dK=>fN g h f L s {z.jQ j {z.tk j with hs:=(z.tk j).hs.set dv (hG (z.tk j) dv - 1)} with cn:=c2}) L ?_;refine aA ?_;refine dR 1 (gH g h f s (lQ s {z.jQ j {z.tk j with hs:=(z.tk j).hs.set dv (hG (z.tk j) dv - 1)} with cn:=c2})) (fun w1 F1 t h1 h2 h3=>aAG g h f s _ w1 F1 hm hz h1 h2) ?_;refine aA ?_;exact cG 1 hF
end
end
section
def aUQ(d:bO)(vs:List Value):Prop:=∃A k A' n' k',vs=[iv d.clock,iv d.domain,iv d.reset,.int .u32 d.iU,.slice A d.aO.length k,.slice A' n' k']
structure aKZ(s:aD)(rows:List (List Value)):Prop where
 row:∀(i:Nat) (d:bO),s.aC[i]? =some d→∃r,rows[i]? =some r∧aUQ d r
 len:∀r∈rows,r.length=6
def qT(L:dK)(s:aD)(rows:List (List Value))(p:Piece):Prop:=kM L s p∧aI p 6 L.a4.1 s.aC.length rows.flatten
theorem qT.le{L:dK}{s:aD}{rows:List (List Value)}(p q:Piece)(hl:p.Le q)(h:qT L s rows p):qT L s rows q:=⟨kM.le p q hl h.1,h.2.le hl⟩
theorem aGP{α:Type}{R:α→List Value→Prop}{sz:Nat}:∀{es:List α} {rs:List (List Value)},Rows R sz es rs→∀(i:Nat) (e:α),es[i]? =some e→∃r,rs[i]? =some r∧r.length=sz∧R e r
 | [],[],_,i,e,h=>by simp at h
 | a::es,r::rs,h,0,e,he=>by
  simp at he;subst he;exact⟨r,rfl,h.1,h.2.1⟩
 | a::es,r::rs,h,i+1,e,he=>aGP h.2.2 i e (by simpa using he)
section
variable{N:cE}{w0:World}{e:Env}{R:List Piece}{H:List HP}{K:Act→World→Prop}{L:dK}{s:aD}
theorem aKu(i:Nat)(hi:H[i]? =some (HP.bR (kM L s) (kM.le (L:=L) (s:=s))))(k:∀rows,aKZ s rows→XK N w0 K e R (H.set i (HP.bR (qT L s rows) (qT.le (L:=L) (s:=s) (rows:=rows))))):XK N w0 K e R H:=fun a w hr st=>by
 obtain⟨F,h1,hlt,_,hk⟩:=st.chunk hi;obtain⟨rows,eH,iI,yK⟩:=(h1:kM L s ⟨w,F⟩).dev;refine k rows ⟨fun i d hd=>?_,fun r hr=>Rows.aEV eH r hr⟩ a w hr (hk w F _ (show qT L s rows ⟨w,F⟩ from⟨h1,yK⟩) ⟨rfl,rfl,rfl,Nat.le_refl _,fun b hb=>⟨.inl hb,hlt b hb⟩,fun _ _ _=>rfl⟩);obtain⟨r,h2,_,A,n,q,A',n',q',h3,h4,_⟩:=aGP eH i d hd;subst h4;exact⟨r,h2,A,q,A',n',q',h3⟩
theorem Rd.dev(i:Nat){rows:List (List Value)}{j k b off:Nat}{r:List Value}{v:Value}{hm:∀p q:Piece,p.Le q→qT L s rows p→qT L s rows q}(hi:H[i]? =some (HP.bR (qT L s rows) hm))(hq:aKZ s rows)(hA:L.a4.1=some ⟨b,off,none⟩)(hr:rows[j]? =some r)(hj:j < s.aC.length)(hv:r[k]? =some v):Rd w0 R H b (off+j*6+k) v:=by
 have hk:k < 6:=by
  have h1:=hq.len r (List.mem_of_getElem? hr)
  have:=(List.getElem?_eq_some_iff.1 hv).1
  omega
 have hf:=Nx (fun x=>x) 6 rows hq.len j k r hr hk
 have:=Rd.bR (w0:=w0) (R:=R) (xs:=rows.flatten) (j:=j*6+k) (v:=v) i hi (fun p h=>h.2) hA (by omega) (by simpa[hv] using hf)
 rwa [←Nat.add_assoc] at this
end
theorem aMZ(g h f:Nat)(L:dK)(s:aD)(z:aV)(w:World)(d:Int)(hR:eD w g 0 (kW h f L s z)):Cz 67 #[pt g,iv d] w (Rt (.bool (bB s.aC.length d)) w):=by
 have k5:=hR.at_ (j:=5) rfl
 refine aM func67 ntmps67 ?_;refine aA ?_;refine bQ (t:=7) rfl (fun h=>?_) (fun h=>?_)
 ·refine aA ?_;refine kB (by simp) ?_;unfold bB
  congr 1
  simp;omega
 ·refine aA ?_;refine kB (by simp) ?_
  have:bB s.aC.length d=false:=decide_eq_false (by omega)
  rw[this]
def vM(s:aD)(d:Int):Int:=((s.aC[d.toNat]?).map fun d=>(d.aO.length:Int)).getD 0
def Ja(s:aD)(t:oO):Prop:=bB s.aC.length t.dev=false∨t.bY < 0∨vM s t.dev≤t.bY
instance(s:aD)(t:oO):Decidable (Ja s t):=by unfold Ja;infer_instance
def Dy(s:aD)(x:aP)(z:aV)(j:Nat)(wr:Bool):Int×aV×aP:=
 if Ja s (z.tk j) then(4,z,x) else if hG (z.tk j) (z.tk j).dev.toNat=0∨z.cn.iZ=true then(6,z,x)
 else if uH x (z.tk j).dev.toNat=114 then(0,{z with aS:=true,id:=x.aS},wW x (z.tk j).dev.toNat wr (z.tk j).bY (z.tk j).val) else(6,z,x)
def Lw(g f:Nat)(hL:HL)(s:aD)(z:aV)(x:aP):HP:=HP.many [gH g hL.h f s z,dU hL s x]
section
variable(g f:Nat)(hL:HL)(s:aD)(z:aV)(x:aP)(w:World)(F:Nat→Prop)
theorem aGM(hm:s.made)(aW:iO hL s)(hok:cK s x)(hw0:∀i:Nat,(x.wt[i]?).join=none)(lV:0≤x.aS∧x.aS≤1000000000)(j:Nat)(hj:T3 j)(wr:Bool)(hp:(Lw g f hL s z x).sat F w)(hF:∀b,F b→b < w.heap.size)(fC:kQ ⟨w,fun b=>b < w.heap.size∧¬F b⟩):
  Cz 291 #[.agg #[.bool wr],pt g,.pointer (some ⟨g,10+13*j,none⟩)] w (Wr (iv (Dy s x z j wr).1) (Lw g f hL s (Dy s x z j wr).2.1 (Dy s x z j wr).2.2) w F):=by
 have lX:=hm.nv
 have hH:=hm.dI
 have hj2:j≤2:=by rcases hj with rfl | rfl | rfl<;>decide
 unfold Dy;refine dJ func291 ntmps291 hp hF ?_;generalize cM:(⟨w,fun b=>b < w.heap.size∧¬F b⟩:Piece)=R0 at fC⊢;refine bF 0 1 ?_;refine bF 1 0 ?_;refine mB 0 fun L=>?_;refine aA ?_;refine bA fun g1=>?_;refine aA ?_;refine kd (pM (vs:=[.int .u8 (z.tk j).kind,iv (z.tk j).dev,iv (z.tk j).bY,.int .u32 (z.tk j).val]) rfl (aQ.of fun k v hv=>pP 1 rfl ?_)) ?_
 ·have hk:k < 4:=by simpa using(List.getElem?_eq_some_iff.1 hv).1
  have h2:k=0∨k=1∨k=2∨k=3:=by omega
  have:=zR (h:=hL.h) (f:=f) (L:=L) (s:=s) (z:=z) (j:=j) (k:=1+k) (v:=v) hj (by rcases h2 with rfl | rfl | rfl | rfl<;>exact hv)
  rwa [←Nat.add_assoc] at this
 refine bX fun g7=>?_;refine aA ?_;refine bF 2 1 ?_;refine bF 3 0 ?_
 have hj7:10+13*j+7 < 55:=by omega
 refine aKu 1 rfl fun rows hq=>?_;dsimp only[List.set];refine aCc (A:=L.a4.1) (sz:=6) (n:=s.aC.length) (xs:=rows.flatten) 1 rfl (fun _ h=>h.2) (by omega) fun b off hA=>?_;refine aA ?_;refine mL ?_;refine jA ?_;refine tT (fun w1 t=>aMZ g hL.h f L s z w1 (z.tk j).dev (uV (t.aE (i:=0) rfl))) ?_;cases hin:bB s.aC.length (z.tk j).dev
 ·refine jB ?_;rw[if_pos (show Ja s (z.tk j) from .inl hin)];refine aA ?_;refine Bp (q:=HP.bR (kM L s) (kM.le (L:=L) (s:=s))) 1 rfl (fun F w hs=>hs.1) ?_;dsimp only[List.set];refine aN 3 0 ?_;refine aN 2 1 ?_;refine fA 2 (fun L:dK=>fN g hL.h f L s z) L ?_;refine aY [2,3,4] rfl (by decide) (fun _ h=>h) ?_;refine aN 1 0 ?_;refine aN 0 1 ?_;subst cM;exact cG 0 hF
 ·have Bb:=of_decide_eq_true hin
  obtain⟨dv,Ds⟩:∃n:Nat,(z.tk j).dev=(n:Int):=⟨(z.tk j).dev.toNat,by omega⟩
  have Rj:(z.tk j).dev.toNat=dv:=by omega
  obtain⟨d,dF⟩:=get_some (l:=s.aC) (i:=dv) (by omega)
  have Aq:vM s (z.tk j).dev=d.aO.length:=by
   unfold vM;rw[Rj,dF];rfl
  obtain⟨r,hr,A,k,A',n',k',rfl⟩:=hq.row dv d dF;refine jA ?_;refine Oo 26 rfl (fun hneg=>?_) (fun hnn=>?_)
  ·refine jB ?_;rw[if_pos (show Ja s (z.tk j) from .inr (.inl hneg))];refine aA ?_;refine Bp (q:=HP.bR (kM L s) (kM.le (L:=L) (s:=s))) 1 rfl (fun F w hs=>hs.1) ?_;dsimp only[List.set];refine aN 3 0 ?_;refine aN 2 1 ?_;refine fA 2 (fun L:dK=>fN g hL.h f L s z) L ?_;refine aY [2,3,4] rfl (by decide) (fun _ h=>h) ?_;refine aN 1 0 ?_;refine aN 0 1 ?_;subst cM;exact cG 0 hF
  ·refine jA ?_;refine xH (dat dv (off+dv*6) (hx:=by rw[←hA];rfl) (hj:=Ds)) ?_;refine jA ?_;refine xH (bN rfl (Rd.dev 1 rfl hq hA hr (by omega) rfl)) ?_;refine jB ?_;refine aA ?_;refine aG rfl (fun hge=>?_) (fun hlt=>?_)
   ·rw[if_pos (show Ja s (z.tk j) from .inr (.inr (by rw[Aq];exact hge)))];refine aA ?_;refine Bp (q:=HP.bR (kM L s) (kM.le (L:=L) (s:=s))) 1 rfl (fun F w hs=>hs.1) ?_;dsimp only[List.set];refine aN 3 0 ?_;refine aN 2 1 ?_;refine fA 2 (fun L:dK=>fN g hL.h f L s z) L ?_;refine aY [2,3,4] rfl (by decide) (fun _ h=>h) ?_;refine aN 1 0 ?_;refine aN 0 1 ?_;subst cM;exact cG 0 hF
   ·have aQe:¬Ja s (z.tk j):=by
     unfold Ja;rw[hin,Aq];rintro(h | h | h)
     ·cases h
     ·exact hnn h
     ·exact hlt h
    have hcell:(kW hL.h f L s z)[10+13*j+7+dv]? =some (iv (hG (z.tk j) dv)):=by
     rw[Nat.add_assoc];exact zR hj (Us (by omega))
    rw[if_neg aQe];refine Bp (q:=HP.bR (kM L s) (kM.le (L:=L) (s:=s))) 1 rfl (fun F w hs=>hs.1) ?_;dsimp only[List.set];refine aN 3 0 ?_;refine aN 2 1 ?_;refine aA ?_;refine mL ?_;refine jA ?_;refine xH (fZ dv (10+13*j+7+dv) (hj:=Ds) (hlt:=by omega) (ho:=by omega)) ?_;refine xH (bN rfl (pP 2 rfl hcell)) ?_;refine jA ?_;refine Oo 51 rfl (fun h0=>?_) (fun h0=>?_)
    ·refine jB ?_;rw[if_pos (show hG (z.tk j) (z.tk j).dev.toNat=0∨z.cn.iZ=true from .inl (by rw[Rj];exact h0))];refine aA ?_;refine fA 2 (fun L:dK=>fN g hL.h f L s z) L ?_;refine aY [2,3,4] rfl (by decide) (fun _ h=>h) ?_;refine aN 1 0 ?_;refine aN 0 1 ?_;subst cM;exact cG 0 hF
    ·refine jA ?_;refine xH (bN rfl (pP 2 rfl rfl)) ?_;refine jA ?_;refine tT (fun w1 t=>aJ3 L.gc z.cn.iZ w1 ((t.aCX 2 rfl).cn.at_ (j:=2) rfl)) ?_;cases aVm:z.cn.iZ
     ·refine jB ?_;refine aA ?_
      have aVe:=(List.getElem?_eq_some_iff.1 dF).1
      have hrl:=(hm.aC dv d dF).2.2.2.2.2.2.2.2.1
      have Au:0≤(z.tk j).bY:=by omega
      have eH:(z.tk j).bY < d.aO.length:=by omega
      have hno:¬(hG (z.tk j) dv=0∨false=true):=by
       rintro(h | h)
       ·exact h0 h
       ·cases h
      rw[Rj,if_neg hno];refine aA ?_;refine aU (fun w1 t=>aTy (z.tk j).dev (z.tk j).bY ⟨by omega,by omega⟩ ⟨Au,by omega⟩ w1) ?_;refine aA ?_
      by_cases Dn:uH x dv=114
      ·rw[if_pos Dn];refine aY [3,0,1,2,4] rfl (by decide) (fun _ h=>h) ?_;refine Ou [1,2,3,5,6,7,8,11,12] ?_;refine bT 0 ?_ (hsub:=fun _ h=>h.cS);refine aJ 1 ?_ (hsub:=fun _ h=>h.cS);refine aJ 2 ?_ (hsub:=fun _ h=>h.cS);refine aJ 3 ?_ (hi:=rfl) (dH:=bN rfl (pP 3 rfl rfl)) (hsub:=fun _ h=>h.cS);refine bT 4 ?_ (hsub:=fun _ h=>h.cS);refine aJ 5 ?_ (hsub:=fun _ h=>h.cS);refine aJ 6 ?_ (hsub:=fun _ h=>h.cS);refine aJ 7 ?_ (hsub:=fun _ h=>h.cS);refine aJ 8 ?_ (hsub:=fun _ h=>h.cS);refine aL 9 ?_
       refine Rb (v:=.tuple #[iv x.aS,iv 0]) 0 (dU hL s (wW x dv wr (z.tk j).bY (z.tk j).val)) (fun w1 F1 t h1 h2 h3=>by
        have:=aI4 hL s x w1 hH aW hok dv d dF (hw0 dv) lX.2 (z.tk j).bY ⟨Au,by omega,eH⟩ wr (z.tk j).val lV F1 h1 h2 (kQ.le fC (h3 _ (by simp)))
        rw[if_pos Dn,if_pos Dn,←Ds] at this
        exact this) ?_
       dsimp only[List.set];refine bH ?_ (hS:=fun _ h=>h.cS);refine aL 10 ?_;refine bK ?_;refine bH ?_ (hS:=fun _ h=>h.cS);refine aJ 11 ?_ (hsub:=fun _ h=>h.cS);refine aJ 12 ?_ (hsub:=fun _ h=>h.cS);refine aL 13 ?_;refine bK ?_;refine bH ?_ (hS:=fun _ h=>h.cS);refine aL 14 ?_;refine bK ?_;refine bH ?_ (hS:=fun _ h=>h.cS);refine fE ?_;refine aY [1,2,3,0,4] rfl (by decide) (fun _ h=>h) ?_;refine bF 2 0 ?_;refine aA ?_;refine fD rfl rfl ?_ (hs:=eN.mk 0 rfl cI.h rfl (of_decide_eq_true rfl));dsimp only[List.set];refine aA ?_;refine fD rfl rfl ?_ (hs:=eN.mk 0 rfl cI.h rfl (of_decide_eq_true rfl));dsimp only[List.set];refine aA ?_;refine aN 2 0 ?_;refine fA 2 (fun L:dK=>fN g hL.h f L s {z with aS:=true,id:=x.aS}) L ?_;refine aY [2,3,4] rfl (by decide) (fun _ h=>h) ?_;refine aN 1 0 ?_;refine aN 0 1 ?_;subst cM;exact cG 0 hF
      ·rw[if_neg Dn];refine aY [3,0,1,2,4] rfl (by decide) (fun _ h=>h) ?_;refine Ou [1,2,3,5,6,7,8,11,12] ?_;refine bT 0 ?_ (hsub:=fun _ h=>h.cS);refine aJ 1 ?_ (hsub:=fun _ h=>h.cS);refine aJ 2 ?_ (hsub:=fun _ h=>h.cS);refine aJ 3 ?_ (hi:=rfl) (dH:=bN rfl (pP 3 rfl rfl)) (hsub:=fun _ h=>h.cS);refine bT 4 ?_ (hsub:=fun _ h=>h.cS);refine aJ 5 ?_ (hsub:=fun _ h=>h.cS);refine aJ 6 ?_ (hsub:=fun _ h=>h.cS);refine aJ 7 ?_ (hsub:=fun _ h=>h.cS);refine aJ 8 ?_ (hsub:=fun _ h=>h.cS);refine aL 9 ?_
       refine Rb (v:=.tuple #[iv 0,iv 6]) 0 (dU hL s x) (fun w1 F1 t h1 h2 h3=>by
        have:=aI4 hL s x w1 hH aW hok dv d dF (hw0 dv) lX.2 (z.tk j).bY ⟨Au,by omega,eH⟩ wr (z.tk j).val lV F1 h1 h2 (kQ.le fC (h3 _ (by simp)))
        rw[if_neg Dn,if_neg Dn,←Ds] at this
        exact this) ?_
       dsimp only[List.set];refine bH ?_ (hS:=fun _ h=>h.cS);refine aL 10 ?_;refine bK ?_;refine bH ?_ (hS:=fun _ h=>h.cS);refine aJ 11 ?_ (hsub:=fun _ h=>h.cS);refine aJ 12 ?_ (hsub:=fun _ h=>h.cS);refine aL 13 ?_;refine bK ?_;refine bH ?_ (hS:=fun _ h=>h.cS);refine aL 14 ?_;refine bK ?_;refine bH ?_ (hS:=fun _ h=>h.cS);refine fE ?_;refine aY [1,2,3,0,4] rfl (by decide) (fun _ h=>h) ?_;refine aA ?_;refine fA 2 (fun L:dK=>fN g hL.h f L s z) L ?_;refine aY [2,3,4] rfl (by decide) (fun _ h=>h) ?_;refine aN 1 0 ?_;refine aN 0 1 ?_;subst cM;exact cG 0 hF
     ·refine jB ?_;rw[if_pos (.inr rfl)];refine aA ?_;refine fA 2 (fun L:dK=>fN g hL.h f L s z) L ?_;refine aY [2,3,4] rfl (by decide) (fun _ h=>h) ?_;refine aN 1 0 ?_;refine aN 0 1 ?_;subst cM;exact cG 0 hF
end
end
section
theorem aB4{P:Program}{fn:FuncId}{args:Array Value}{w:World}{p p' q:HP}{v:Value}{F:Nat→Prop}(h:∀F,p.sat F w→(∀b,F b→b < w.heap.size)→Calls P fn args w fun y w'=>y=.returned v∧∃F',p'.sat F' w'∧gX w w' F F')
  (hp:(HP.many [p,q]).sat F w) (hF:∀b,F b→b < w.heap.size):Calls P fn args w fun y w'=>y=.returned v∧∃F',(HP.many [p',q]).sat F' w'∧gX w w' F F':=by
 obtain⟨G,g1,g2,g3⟩:=hp
 have Fs:=g1 0 p rfl
 have Kj:=g1 1 q rfl
 refine(h (G 0) Fs fun b hb=>hF b (g2 0 b hb)).mono fun y w' ⟨hy,F',h1,ht⟩=>⟨hy,fun b=>F' b∨G 1 b,⟨fun i=>match i with | 0=>F' | 1=>G 1 | _=>fun _=>False,fun i r hr=>?_,fun i b hb=>?_,fun i j b hij hi hj=>?_⟩,⟨ht.os,ht.tape,ht.output,ht.size,fun b hb=>?_,fun b hb hn=>?_⟩⟩
 ·match i,hr with
  | 0,hr=>cases hr;exact h1
  | 1,hr=>cases hr;exact q.loc _ _ _ Kj fun b hb=>ht.old b (hF b (g2 1 b hb)) fun h0=>g3 0 1 b (by decide) h0 hb
  | i+2,hr=>simp at hr
 ·match i,hb with
  | 0,hb=>exact .inl hb
  | 1,hb=>exact .inr hb
  | i+2,hb=>exact hb.elim
 ·have key:∀b,F' b→G 1 b→False:=fun b h0 h2=>by
   rcases(ht.new b h0).1 with h3 | h3
   ·exact g3 0 1 b (by decide) h3 h2
   ·have:=hF b (g2 1 b h2)
    omega
  match i,j,hi,hj with
  | 0,0,_,_=>exact absurd rfl hij
  | 0,1,hi,hj=>exact key b hi hj
  | 1,0,hi,hj=>exact key b hj hi
  | 1,1,_,_=>exact absurd rfl hij
  | i+2,_,hi,_=>exact hi.elim
  | _,j+2,_,hj=>exact hj.elim
 ·rcases hb with hb | hb
  ·refine⟨?_,(ht.new b hb).2⟩;rcases(ht.new b hb).1 with h3 | h3
   ·exact .inl (g2 0 b h3)
   ·exact .inr h3
  ·exact⟨.inl (g2 1 b hb),Nat.lt_of_lt_of_le (hF b (g2 1 b hb)) ht.size⟩
 ·exact ht.old b hb fun h0=>hn (g2 0 b h0)
structure Tz(s:aD)(z:aV):Prop where
 wn:z.wn.of s
 hs:∀j,T3 j→aF0 (z.tk j)
structure HwP(s:aD)(x:aP):Prop where
 ok:cK s x
 w0:∀i:Nat,(x.wt[i]?).join=none
 po:0≤x.aS∧x.aS≤1000000000
def qR(s:aD)(x:aP)(z:aV)(j:Nat)(k:Int):Int×aV×aP:=
 if k=103 then((Ga s z j).1,(Ga s z j).2,x) else if k=112 then((Fe s z j).1,(Fe s z j).2,x) else if k=114 then Dy s x z j false else if k=119 then Dy s x z j true else if k=115 then((Eu s z).1,(Eu s z).2,x) else((Fa s z).1,(Fa s z).2,x)
theorem aRH{k:Int}(hk:pF k):∃(tx:TypeId) (u u':Value) (fn:FuncId),Ob k=.iface tx u∧(∀w,(method (Tryz.prog.types.size+Made.depth) tx u "catnap/rpm.begin").run Tryz.prog w=.ok (fn,u') w)∧fI Tryz.prog fn=true∧
  ∀(g f:Nat) (hL:HL) (s:aD) (z:aV) (x:aP) (w:World) (F:Nat→Prop) (j:Nat),s.made→iO hL s→HwP s x→Tz s z→T3 j→(Lw g f hL s z x).sat F w→(∀b,F b→b < w.heap.size)→kQ ⟨w,fun b=>b < w.heap.size∧¬F b⟩→
   Cz fn #[u',pt g,.pointer (some ⟨g,10+13*j,none⟩)] w (Wr (iv (qR s x z j k).1) (Lw g f hL s (qR s x z j k).2.1 (qR s x z j k).2.2) w F):=by
 rcases hk with rfl | rfl | rfl | rfl | rfl | rfl
 ·exact⟨_,_,.agg #[],276,rfl,fun w=>by kernel_rfl,(by kernel_rfl),fun g f hL s z x w F j hm aW hx hz hj hp hF _=>aB4 (fun F h1 h2=>aMY g hL.h f s z w F hm hz.wn j hj (hz.hs j hj) h1 h2) hp hF⟩
 ·exact⟨_,_,.agg #[],290,rfl,fun w=>by kernel_rfl,(by kernel_rfl),fun g f hL s z x w F j hm aW hx hz hj hp hF _=>aB4 (fun F h1 h2=>aMV g hL.h f s z w F hm hz.wn j hj (hz.hs j hj) h1 h2) hp hF⟩
 ·exact⟨_,_,.agg #[.bool false],291,rfl,fun w=>by kernel_rfl,(by kernel_rfl),fun g f hL s z x w F j hm aW hx hz hj hp hF fC=>aGM g f hL s z x w F hm aW hx.ok hx.w0 hx.po j hj false hp hF fC⟩
 ·exact⟨_,_,.agg #[.bool true],291,rfl,fun w=>by kernel_rfl,(by kernel_rfl),fun g f hL s z x w F j hm aW hx hz hj hp hF fC=>aGM g f hL s z x w F hm aW hx.ok hx.w0 hx.po j hj true hp hF fC⟩
 ·exact⟨_,_,.agg #[],297,rfl,fun w=>by kernel_rfl,(by kernel_rfl),fun g f hL s z x w F j hm aW hx hz hj hp hF _=>aB4 (fun F h1 h2=>aMR g hL.h f s z w F hm hz.wn _ h1 h2) hp hF⟩
 ·exact⟨_,_,.agg #[],298,rfl,fun w=>by kernel_rfl,(by kernel_rfl),fun g f hL s z x w F j hm aW hx hz hj hp hF _=>aB4 (fun F h1 h2=>aMU g hL.h f s z w F hm hz.wn _ h1 h2) hp hF⟩
theorem aJc(s:aD)(x:aP)(z:aV)(j:Nat)(k:Int):(qR s x z j k).2.1.eW=z.eW:=by
 unfold qR Ga Fe Eu Fa Dy
 repeat' split
 all_goals rfl
theorem aNb{h f:Nat}{L:dK}{s:aD}{z:aV}{j:Nat}{v:Int}(hj:T3 j):(kW h f L s z).set (10+13*j+0) (iv v)=kW h f L s (z.jQ j {z.tk j with st:=v}):=by
 rcases hj with rfl | rfl | rfl<;>rfl
def kD(z:aV)(j:Nat):aV:={z.jQ j {z.tk j with st:=2} with eW:=(j:Int)}
theorem aO7{z:aV}{j:Nat}(hj:T3 j):(kD z j).tk j={z.tk j with st:=2}:=by
 rcases hj with rfl | rfl | rfl<;>rfl
theorem aO8{s:aD}{z:aV}{j:Nat}(hj:T3 j)(h:Tz s z):Tz s (kD z j):=⟨h.wn,fun i hi=>by
 have h1:=h.hs i hi
 have h2:((kD z j).tk i).hs=(z.tk i).hs:=by
  rcases hj with rfl | rfl | rfl<;>rcases hi with rfl | rfl | rfl<;>rfl
 exact⟨by rw[h2];exact h1.len,fun k=>by
  have:=h1.bd k
  unfold hG at this⊢;rw[h2]
  exact this⟩⟩
def pN(s:aD)(x:aP)(z:aV)(j:Nat):aV×aP:=
 let r:=qR s x (kD z j) j (z.tk j).kind
 if r.1≠0 then(kE r.2.1 j r.1 0,r.2.2) else if r.2.1.aS=false∧r.2.1.steps.length=0 then(kE r.2.1 j 0 0,r.2.2) else r.2
theorem aNc(g f:Nat)(hL:HL)(s:aD)(z:aV)(x:aP)(w:World)(F:Nat→Prop)(j:Nat)(hm:s.made)(aW:iO hL s)(hx:HwP s x)(hz:Tz s z)(hj:T3 j)(hk:pF (z.tk j).kind)(hp:(Lw g f hL s z x).sat F w)(hF:∀b,F b→b < w.heap.size)(fC:kQ ⟨w,fun b=>b < w.heap.size∧¬F b⟩):
  Cz 47 #[pt g,iv (j:Int)] w (Wr (.tuple #[]) (Lw g f hL s (pN s x z j).1 (pN s x z j).2) w F):=by
 have hj2:j≤2:=by rcases hj with rfl | rfl | rfl<;>decide
 obtain⟨tx,u,u',fn,hy,hme,hcb,Be⟩:=aRH hk
 have mP:=aO8 hj hz
 have hh:=aJc s x (kD z j) j (z.tk j).kind
 unfold pN;dsimp only;refine dJ func47 ntmps47 hp hF ?_;generalize cM:(⟨w,fun b=>b < w.heap.size∧¬F b⟩:Piece)=R0 at fC⊢;refine bF 0 0 ?_;refine mB 0 fun L=>?_;refine bF 0 0 ?_;refine aA ?_;refine fD rfl rfl ?_ (hs:=eN.mk 0 rfl cI.h rfl (of_decide_eq_true rfl));dsimp only[List.set];rw[show(kW hL.h f L s z).set (0+49) (iv (j:Int))=kW hL.h f L s {z with eW:=(j:Int)} from rfl];refine aA ?_;refine kd (fZ j (10+13*j) (ho:=by omega)) ?_;refine aA ?_;refine fD rfl rfl ?_ (hs:=eN.mk 0 rfl cI.h rfl (by rw[aAI];omega));dsimp only[List.set];rw[aNb hj];refine aN 0 0 ?_
 change XK _ _ _ _ _ [fN g hL.h f L s (kD z j),HP.many [cJ,dU hL s x]]
 refine aA ?_;refine kd (bN rfl (pP 0 rfl (zR (k:=1) hj rfl))) ?_;rw[aO7 hj];refine aU (fun w1 _=>aAH (z.tk j).kind w1) ?_;rw[hy];refine fA 0 (fun L:dK=>fN g hL.h f L s (kD z j)) L ?_;refine aN 0 0 ?_;refine aA ?_;generalize hr:qR s x (kD z j) j (z.tk j).kind=r at hh⊢
 refine aFM 0 (Lw g f hL s r.2.1 r.2.2) hcb rfl hme rfl rfl ⟨by decide,rfl⟩ (fun w1 F1 t h1 h2 h3=>by
  have:=Be g f hL s (kD z j) x w1 F1 j hm aW hx mP hj h1 h2 (kQ.le fC (h3 _ (by simp)))
  rw[hr] at this
  exact this) ?_
 dsimp only[List.set];obtain⟨er,z2,x2⟩:=r;dsimp only at hh⊢;refine aA ?_;refine aG rfl (fun he=>?_) (fun he=>?_)
 ·rw[if_pos he];refine aA ?_;refine kd (fY rfl) ?_;refine aA ?_;refine bF 0 0 ?_;refine dR 0 (gH g hL.h f s (kE z2 j er 0)) (fun w1 F1 t h1 h2 h3=>Jr g hL.h f s z2 w1 F1 j hh hj er 0 h1 h2) ?_;refine aN 0 0 ?_;refine aA ?_;subst cM;exact kC 0 hF
 ·rw[if_neg he];refine bF 0 0 ?_;refine mB 0 fun L2=>?_;refine aA ?_;refine kd (bN rfl (pP 0 rfl rfl)) ?_;cases lV:z2.aS
  ·refine aA ?_;refine kd (bN rfl (pP 0 rfl rfl)) ?_;refine aA ?_;refine fA 0 (fun L:dK=>fN g hL.h f L s z2) L2 ?_;refine aG rfl (fun hn=>?_) (fun hn=>?_)
   ·rw[if_pos ⟨rfl,Int.ofNat.inj hn⟩];refine aA ?_;refine kd (fY rfl) ?_;refine aA ?_;refine dR 0 (gH g hL.h f s (kE z2 j 0 0)) (fun w1 F1 t h1 h2 h3=>Jr g hL.h f s z2 w1 F1 j hh hj 0 0 h1 h2) ?_;refine aN 0 0 ?_;subst cM;exact kC 0 hF
   ·rw[if_neg (fun h=>hn (congrArg Int.ofNat h.2))];refine aA ?_;refine aN 0 0 ?_;subst cM;exact kC 0 hF
  ·refine aA ?_;rw[if_neg (by simp)];refine fA 0 (fun L:dK=>fN g hL.h f L s z2) L2 ?_;refine aN 0 0 ?_;subst cM;exact kC 0 hF
end
section
def aFu(g h f:Nat)(s:aD)(z:aV)(y:bZ):HP:=HP.many [gH g h f s z,Cf f h s y]
def qH(p:dB)(k:Int):List Int:=[(eB p.msg 0 p.pr k).1,p.id,p.v]
def Jp(a:List Int):Prop:=IntKind.i32.wrap (a.getD 1 0)=0∨IntKind.i32.wrap (a.getD 1 0)= -3
instance(a:List Int):Decidable (Jp a):=by unfold Jp;infer_instance
def sP(z:aV)(a:List Int):aV:=if Jp a then {z with sent:=false,steps:=z.steps.tail} else {z with sent:=false}
theorem aGp{z:aV}{a:List Int}(h:Jp a):sP z a={z with sent:=false,steps:=z.steps.tail}:=if_pos h
theorem aLX{z:aV}{a:List Int}(h:¬Jp a):sP z a={z with sent:=false}:=if_neg h
def qS(z:aV)(y:bZ)(j:Nat):aV×bZ:=
 if z.sent=true then
  match oZ y 0 with
  | none=>(z,oY y 0)
  | some a=>(if(sP z a).steps.length=0 then kE (sP z a) j 0 0 else sP z a,oY y 0)
 else
  match z.steps with
  | []=>(z,y)
  | p::_=>if(oF y 0 (qH p z.many)).1=0 then({z with sent:=true,many:=(z.many+1) % 1024},(oF y 0 (qH p z.many)).2) else(z,(oF y 0 (qH p z.many)).2)
theorem aGK{h f:Nat}{L:dK}{s:aD}{z:aV}{p:dB}{tl:List dB}{A:Option Addr}{c:Nat}(hst:z.steps=p::tl):(kW h f L s z).set 50 (.slice A (z.steps.length - 1) c)=kW h f {L with st:=(A,c)} s {z with steps:=z.steps.tail}:=by
 obtain⟨cn,wn,t0,t1,t2,eW,steps,sent,aS,id,many⟩:=z;dsimp only at hst;subst hst;rfl
theorem aI.aRT{p:Piece}{sz n k:Nat}{A A':Option Addr}{xs:List Value}(h:aI p sz A n xs)(hk:k≤n)(hA:k < n→∀b off,A=some ⟨b,off,none⟩→A'=some ⟨b,off+k*sz,none⟩):aI p sz A' (n - k) (xs.drop (k*sz)):=by
 refine⟨by rw[List.length_drop,h.1,Nat.sub_mul],fun h0=>?_⟩;obtain⟨b,off,hA2,hz,hc⟩:=h.2 (by omega);refine⟨b,off+k*sz,hA (by omega) b off hA2,hz,fun j u hu=>?_⟩;rw[List.getElem?_drop] at hu;rw[Nat.add_assoc];exact hc _ u hu
theorem aKv{N:cE}{w0:World}{e:Env}{R:List Piece}{H:List HP}{K:Act→World→Prop}(i:Nat){b:Nat}{t:TypeId}{cs cs':List Value}(hi:H[i]? =some (HP.aE b t cs))(he:cs=cs')(k:XK N w0 K e R (H.set i (HP.aE b t cs'))):XK N w0 K e R H:=by
 subst he;obtain⟨hlt,hx⟩:=List.getElem?_eq_some_iff.1 hi;rw[←hx,List.set_getElem_self hlt] at k;exact k
def Iq(L:dK):dK:={L with st:=(if L.st.2=1 then L.st.1 else L.st.1.map (·.add (1*4)),L.st.2 - 1)}
theorem oP.tail{L:dK}{p:dB}{l tl:List dB}{q:Piece}(hl:l=p::tl)(h:oP L l q):oP (Iq L) l.tail q:=by
 subst hl;obtain⟨h1,h2⟩:=h;simp only[List.length_cons] at h2;refine⟨h1.aRT (k:=1) (by simp) fun hlt b off hA=>?_,by simp only[List.tail_cons,Iq];omega⟩;simp only[List.length_cons] at hlt;unfold Iq;dsimp only;rw[if_neg (by omega),hA];rfl
section
variable(g h f:Nat)(s:aD)(z:aV)(y:bZ)(w:World)(F:Nat→Prop)
theorem aNf(j:Nat)(hh:z.eW=(j:Int))(hj:T3 j)(hne:z.steps≠[])(hmy:0≤z.many∧z.many < 1024)(hpk:∀p∈z.steps,(eB p.msg 0 p.pr z.many).2=0)(hra:∀a,oZ y 0=some a→2≤a.length)(hp:(aFu g h f s z y).sat F w)(hF:∀b,F b→b < w.heap.size):
  Cz 48 #[pt g] w (fun v w'=>v=.returned (.tuple #[])∧∃F',(aFu g h f s (qS z y j).1 (qS z y j).2).sat F' w'∧gX w w' F F'):=by
 obtain⟨p,tl,hst⟩:=List.exists_cons_of_ne_nil hne
 have Ft:z.steps.length=tl.length+1:=by rw[hst];rfl
 refine dJ func48 ntmps48 hp hF ?_;generalize cM:(⟨w,fun b=>b < w.heap.size∧¬F b⟩:Piece)=R0;refine bF 0 0 ?_;refine mB 0 fun L=>?_;refine bF 0 0 ?_;refine bF 1 5 ?_;refine bF 3 1 ?_;refine aA ?_;cases hse:z.sent
 ·have Xx:qS z y j=if(oF y 0 (qH p z.many)).1=0 then({z with sent:=true,many:=(z.many+1) % 1024},(oF y 0 (qH p z.many)).2) else(z,(oF y 0 (qH p z.many)).2):=by
   unfold qS;rw[if_neg (by rw[hse];simp),hst]
  rw[Xx]
  have aPU:=hpk p (by rw[hst];simp)
  have hfm:z.steps.flatMap dB.cells=p.cells++tl.flatMap dB.cells:=by rw[hst];rfl
  refine aA ?_;refine aCc (A:=L.st.1) (sz:=4) (n:=z.steps.length) (xs:=z.steps.flatMap dB.cells) 1 rfl (fun _ h=>h.1) (by omega) fun b off hA=>?_;refine jO [1,2,3,4,5,7,8,9,12,13] ?_;refine bT 0 ?_;refine aJ 1 ?_;refine aJ 2 ?_;refine aJ 3 ?_;refine aJ 4 ?_ (hi:=rfl) (dH:=dat 0 off (hx:=by rw[←hA];rfl) (hj:=rfl));refine aJ 5 ?_ (hi:=rfl) (dH:=pM rfl (aQ.of (vs:=p.cells) fun i v hv=>Rd.bR 1 rfl (fun _ h=>h.1) hA (by omega) (by rw[hfm,List.getElem?_append_left (List.getElem?_eq_some_iff.1 hv).1];exact hv)));refine bT 6 ?_;refine aJ 7 ?_;refine aJ 8 ?_;refine aJ 9 ?_;refine aL 10 ?_;refine jR [] (aCz (qH p z.many)) (fun w1 t=>aLy p.pr p.msg p.id p.v z.many w1 aPU) ?_;rintro _ w1 q1 ⟨Am,cm,rfl,hmw⟩ hf _ _
  have hmw:=hmw.le hf
  clear hf;refine bH ?_;refine aL 11 ?_;refine bK ?_;refine bH ?_;refine aJ 12 ?_;refine aJ 13 ?_;refine aL 14 ?_;refine bK ?_;refine bH ?_;refine aL 15 ?_;refine bK ?_;refine bH ?_;refine fE ?_;refine aA ?_;refine dR 0 (Cf f h s (oF y 0 (qH p z.many)).2) (fun w1 F1 t h1 h2 h3=>aRp f h s y 0 Am _ cm (qH p z.many) w1 F1 h1 h2 (hmw.le (h3 _ (by simp))) rfl (by simp[qH])) ?_;refine aA ?_;refine aG rfl (fun h0=>?_) (fun h0=>?_)
  ·rw[if_pos h0];refine aA ?_;refine fD rfl rfl ?_ (hs:=eN.mk 2 rfl cI.h rfl (of_decide_eq_true rfl));dsimp only[List.set];rw[show(kW h f L s z).set (0+51) (.bool true)=kW h f L s {z with sent:=true} from rfl];refine aA ?_;refine kd (Oe (i:=z.many) (j:=1) (c:=z.many+1) rfl rfl (iR (by omega))) ?_;refine kd (aJm (i:=z.many+1) (j:=1024) (c:=(z.many+1) % 1024) rfl rfl (by decide) (rem_in (by omega))) ?_;refine aA ?_;refine fD rfl rfl ?_ (hs:=eN.mk 2 rfl cI.h rfl (of_decide_eq_true rfl));dsimp only[List.set];rw[show(kW h f L s {z with sent:=true}).set (0+54) (iv ((z.many+1) % 1024))=kW h f L s {z with sent:=true,many:=(z.many+1) % 1024} from rfl];refine aA ?_;refine aN 3 1 ?_;refine aN 1 5 ?_;refine aN 0 0 ?_;refine fA 0 (fun L:dK=>fN g h f L s {z with sent:=true,many:=(z.many+1) % 1024}) L ?_;refine aN 0 0 ?_;subst cM;exact kC 0 hF
  ·rw[if_neg h0];refine aA ?_;refine aN 3 1 ?_;refine aN 1 5 ?_;refine aN 0 0 ?_;refine fA 0 (fun L:dK=>fN g h f L s z) L ?_;refine aN 0 0 ?_;subst cM;exact kC 0 hF
 ·cases hr:oZ y 0 with
  | none =>
   have Xx:qS z y j=(z,oY y 0):=by
    unfold qS;rw[if_pos hse,hr]
   rw[Xx];refine aA ?_
   refine xR (α:=AC) 0 (f:=95) (fi:=[]) (ca:=[]) (fun c=>Vn none c) (fun c=>Ju f h s (oY y 0) [] c) (fun _=>True) (by kernel_rfl) rfl rfl rfl (by decide) (fun w1 F1 t h1 h2 h3=>by
    have:=aIN f h s y 0 w1 F1 h1 h2
    rw[hr] at this
    exact this) ?_
   rintro⟨Ar,cr⟩ _;dsimp only[List.set,Vn];refine bF 0 0 ?_;refine aY [0,2,3,4,5] rfl (by decide) (fun _ h=>h) ?_;refine aA ?_;refine aN 3 1 ?_;refine aN 1 5 ?_;refine aN 0 0 ?_;refine fA 0 (fun L:dK=>fN g h f L s z) L ?_;refine aN 0 0 ?_;subst cM;exact kC 0 hF
  | some a =>
   have Xx:qS z y j=(if(sP z a).steps.length=0 then kE (sP z a) j 0 0 else sP z a,oY y 0):=by
    unfold qS;rw[if_pos hse,hr]
   rw[Xx]
   have vY:=hra a hr
   have ha1:a[1]? =some (a.getD 1 0):=by rw[List.getD_eq_getElem?_getD,List.getElem?_eq_getElem (by omega)];rfl
   refine aA ?_
   refine xR (α:=AC) 0 (f:=95) (fi:=[]) (ca:=[]) (fun c=>Vn (some a) c) (fun c=>Ju f h s (oY y 0) a c) (fun _=>True) (by kernel_rfl) rfl rfl rfl (by decide) (fun w1 F1 t h1 h2 h3=>by
    have:=aIN f h s y 0 w1 F1 h1 h2
    rw[hr] at this
    exact this) ?_
   rintro⟨Ar,cr⟩ _;dsimp only[List.set,Vn];refine bF 0 0 ?_;refine bF 1 1 ?_;refine aY [1,3,4,5,6,0] rfl (by decide) (fun _ h=>h) ?_;refine aA ?_;refine fD rfl rfl ?_ (hs:=eN.mk 2 rfl cI.h rfl (of_decide_eq_true rfl));dsimp only[List.set];refine aA ?_;refine aU (fun w1 t=>aMi Ar _ cr a _ w1 (t.bR 5 rfl) rfl vY ha1) ?_;generalize vT:IntKind.i32.wrap (a.getD 1 0)=sv;rw[show(kW h f L s z).set (0+51) (.bool false)=kW h f L s {z with sent:=false} from rfl];refine aA ?_;refine bQ (t:=73) rfl (fun h0=>?_) (fun h0=>?_)
   ·rw[aGp (show Jp a from .inl (vT.trans h0))];refine aA ?_;refine kd (aJk (n:=z.steps.length) (l:=1) rfl rfl (by omega)) ?_;refine aA ?_;refine fD rfl rfl ?_ (hs:=eN.mk 2 rfl cI.h rfl (of_decide_eq_true rfl));dsimp only[List.set];refine aKv 2 rfl (aGK (z:={z with sent:=false}) hst) ?_;dsimp only[List.set];refine Bp (q:=HP.bR (oP (Iq L) z.steps.tail) (oP.le (L:=Iq L) (l:=z.steps.tail))) 1 rfl (fun F w hs=>oP.tail hst hs) ?_;dsimp only[List.set];refine aA ?_;refine aN 3 1 ?_;refine aN 1 5 ?_;refine aN 0 0 ?_;refine xI 0 (f:=fun L:dK=>fN g h f L s {z with sent:=false,steps:=z.steps.tail}) (Iq L) rfl ?_;dsimp only[List.set];refine aA ?_;refine aG rfl (fun hn=>?_) (fun hn=>?_)
    ·rw[if_pos (Int.ofNat.inj hn)];refine aA ?_;refine kd (fY rfl) ?_;refine aA ?_;refine dR 0 (gH g h f s (kE {z with sent:=false,steps:=z.steps.tail} j 0 0)) (fun w1 F1 t h1 h2 h3=>Jr g h f s {z with sent:=false,steps:=z.steps.tail} w1 F1 j hh hj 0 0 h1 h2) ?_;refine aN 0 0 ?_;subst cM;exact kC 0 hF
    ·rw[if_neg (fun h=>hn (congrArg Int.ofNat h))];refine aA ?_;refine aN 0 0 ?_;subst cM;exact kC 0 hF
   ·refine aA ?_;refine aG rfl (fun h3=>?_) (fun h3=>?_)
    ·rw[aGp (show Jp a from .inr (vT.trans h3))];refine aA ?_;refine kd (aJk (n:=z.steps.length) (l:=1) rfl rfl (by omega)) ?_;refine aA ?_;refine fD rfl rfl ?_ (hs:=eN.mk 2 rfl cI.h rfl (of_decide_eq_true rfl));dsimp only[List.set];refine aKv 2 rfl (aGK (z:={z with sent:=false}) hst) ?_;dsimp only[List.set];refine Bp (q:=HP.bR (oP (Iq L) z.steps.tail) (oP.le (L:=Iq L) (l:=z.steps.tail))) 1 rfl (fun F w hs=>oP.tail hst hs) ?_;dsimp only[List.set];refine aA ?_;refine aN 3 1 ?_;refine aN 1 5 ?_;refine aN 0 0 ?_;refine xI 0 (f:=fun L:dK=>fN g h f L s {z with sent:=false,steps:=z.steps.tail}) (Iq L) rfl ?_;dsimp only[List.set];refine aA ?_;refine aG rfl (fun hn=>?_) (fun hn=>?_)
     ·rw[if_pos (Int.ofNat.inj hn)];refine aA ?_;refine kd (fY rfl) ?_;refine aA ?_;refine dR 0 (gH g h f s (kE {z with sent:=false,steps:=z.steps.tail} j 0 0)) (fun w1 F1 t h1 h2 h3=>Jr g h f s {z with sent:=false,steps:=z.steps.tail} w1 F1 j hh hj 0 0 h1 h2) ?_;refine aN 0 0 ?_;subst cM;exact kC 0 hF
     ·rw[if_neg (fun h=>hn (congrArg Int.ofNat h))];refine aA ?_;refine aN 0 0 ?_;subst cM;exact kC 0 hF
    ·rw[aLX (show ¬Jp a from fun h=>h.elim (fun h=>h0 (vT▸h)) (fun h=>h3 (vT▸h)))];refine aA ?_;refine aN 3 1 ?_;refine aN 1 5 ?_;refine aN 0 0 ?_;refine fA 0 (fun L:dK=>fN g h f L s {z with sent:=false}) L ?_;refine aA ?_;refine aG rfl (fun hn=>?_) (fun hn=>?_)
     ·rw[if_pos (Int.ofNat.inj hn)];refine aA ?_;refine kd (fY rfl) ?_;refine aA ?_;refine dR 0 (gH g h f s (kE {z with sent:=false} j 0 0)) (fun w1 F1 t h1 h2 h3=>Jr g h f s {z with sent:=false} w1 F1 j hh hj 0 0 h1 h2) ?_;refine aN 0 0 ?_;subst cM;exact kC 0 hF
     ·rw[if_neg (fun h=>hn (congrArg Int.ofNat h))];refine aA ?_;refine aN 0 0 ?_;subst cM;exact kC 0 hF
end
end
section
theorem Mm(w:World):CallsD Tryz.prog 46 #[] .returning w fun e u' w'=>e=.returned (.tuple #[])∧u'=.returning∧w'=w:=by
 refine callsD_of_wpS func46 rfl fun c₀ cs hu=>?_;apply wpS_region;simp[wpOpsS,go_sem,recoverD,hu,ntmps46,Exit.thenS];cases c₀;simp_all [bodyPostS,results,Tryz.results46]
def aCt(g f:Nat)(hL:HL)(s:aD)(z:aV)(y:bZ)(x:aP):HP:=HP.many [gH g hL.h f s z,Cf f hL.h s y,dU hL s x]
structure aKA(s:aD)(z:aV)(y:bZ):Prop where
 ok:Tz s z
 call:∀j,T3 j→(z.tk j).st=1→pF (z.tk j).kind
 work:∀j:Nat,T3 j→(z.tk j).st=2→z.eW=(j:Int)∧(z.aS=false→z.steps≠[])
 many:0≤z.many∧z.many < 1024
 pack:∀p∈z.steps,(eB p.msg 0 p.pr z.many).2=0
 ans:∀a,oZ y 0=some a→2≤a.length
def Ew(s:aD)(z:aV)(y:bZ)(x:aP)(t:Int):aV×bZ×aP:=
 if bB 3 t=false then(z,y,x)
 else if(z.tk t.toNat).st=1 then(if z.eW < 0 then((pN s x z t.toNat).1,y,(pN s x z t.toNat).2) else(z,y,x))
 else if(z.tk t.toNat).st=2 then(if z.aS=false then((qS z y t.toNat).1,(qS z y t.toNat).2,x) else(z,y,x))
 else(z,y,x)
theorem aMS(g f:Nat)(hL:HL)(s:aD)(z:aV)(y:bZ)(x:aP)(w:World)(F:Nat→Prop)(t:Int)(hm:s.made)(aW:iO hL s)(hx:z.eW < 0→HwP s x)(hz:aKA s z y)(hp:(aCt g f hL s z y x).sat F w)(hF:∀b,F b→b < w.heap.size)(fC:kQ ⟨w,fun b=>b < w.heap.size∧¬F b⟩):
  Cz 19 #[pt g,iv t] w (fun v w'=>v=.returned (.tuple #[])∧∃F',(aCt g f hL s (Ew s z y x t).1 (Ew s z y x t).2.1 (Ew s z y x t).2.2).sat F' w'∧gX w w' F F'):=by
 unfold Ew;refine aAc (vs:=[pt g,iv t]) (p:=aCt g f hL s z y x) func19 rfl ntmps19 (by simp) hp hF ?_;generalize cM:(⟨w,fun b=>b < w.heap.size∧¬F b⟩:Piece)=R0 at fC⊢;refine aA ?_;refine Uj (f:=46) (fi:=[]) (ca:=[]) rfl ?_;refine aA ?_;refine aU (fun w1 _=>Vi t w1) ?_;cases hin:bB 3 t
 ·refine aA ?_;subst cM;exact Br (.inl rfl) (by kernel_rfl) Mm rfl fun w1 t=>⟨rfl,t.turns hF (by simp) (i:=0) rfl⟩
 ·obtain⟨j,rfl,hj⟩:=Mu hin
  have hj2:j≤2:=by rcases hj with rfl | rfl | rfl<;>decide
  rw[if_neg (by simp),Int.toNat_natCast];refine bF 0 0 ?_;refine mB 0 fun L=>?_;refine aA ?_;refine kd (fZ j (10+13*j) (ho:=by omega)) ?_;refine aA ?_;refine kd (bN rfl (pP 0 rfl (zR (k:=0) hj rfl))) ?_;refine aA ?_;refine aG rfl (fun h1=>?_) (fun h1=>?_)
  ·rw[if_pos h1];refine aA ?_;refine kd (bN rfl (pP 0 rfl rfl)) ?_;refine aA ?_;refine fA 0 (fun L:dK=>fN g hL.h f L s z) L ?_;refine aN 0 0 ?_;refine aG rfl (fun h2=>?_) (fun h2=>?_)
   ·rw[if_pos h2];refine bF 0 0 ?_;refine bF 1 2 ?_;refine aY [1,0,2] rfl (by decide) (fun _ h=>h) ?_;refine nA ?_;refine aA ?_;refine dR 0 (Lw g f hL s (pN s x z j).1 (pN s x z j).2) (fun w1 F1 t Yb Ya h3=>aNc g f hL s z x w1 F1 j hm aW (hx h2) hz.ok hj (hz.call j hj h1) Yb Ya (kQ.le fC (h3 _ (by simp)))) ?_;refine bF 0 0 ?_;refine bF 1 1 ?_;refine aN 2 2 ?_;refine aN 1 0 ?_;refine aA ?_;subst cM;exact Br (.inr rfl) (by kernel_rfl) Mm rfl fun w1 t=>⟨rfl,t.turns hF (by simp) (i:=1) rfl⟩
   ·rw[if_neg h2];refine aA ?_;subst cM;exact Br (.inr rfl) (by kernel_rfl) Mm rfl fun w1 t=>⟨rfl,t.turns hF (by simp) (i:=0) rfl⟩
  ·rw[if_neg h1];refine aA ?_;refine aG rfl (fun h2=>?_) (fun h2=>?_)
   ·rw[if_pos h2];obtain⟨hh,hne⟩:=hz.work j hj h2;refine aA ?_;refine kd (bN rfl (pP 0 rfl rfl)) ?_;cases lV:z.aS
    ·refine aA ?_;refine fA 0 (fun L:dK=>fN g hL.h f L s z) L ?_;refine aN 0 0 ?_;refine bF 0 0 ?_;refine bF 1 1 ?_;refine aY [1,0,2] rfl (by decide) (fun _ h=>h) ?_;refine nA ?_;refine aA ?_;refine dR 0 (aFu g hL.h f s (qS z y j).1 (qS z y j).2) (fun w1 F1 t Yb Ya h3=>aNf g hL.h f s z y w1 F1 j hh hj (hne lV) hz.many hz.pack hz.ans Yb Ya) ?_;refine bF 0 0 ?_;refine bF 1 1 ?_;refine aN 2 1 ?_;refine aN 1 0 ?_;refine aA ?_;subst cM;exact Br (.inr rfl) (by kernel_rfl) Mm rfl fun w1 t=>⟨rfl,t.turns hF (by simp) (i:=1) rfl⟩
    ·refine aA ?_;refine fA 0 (fun L:dK=>fN g hL.h f L s z) L ?_;refine aN 0 0 ?_;subst cM;exact Br (.inr rfl) (by kernel_rfl) Mm rfl fun w1 t=>⟨rfl,t.turns hF (by simp) (i:=0) rfl⟩
   ·rw[if_neg h2];refine aA ?_;refine fA 0 (fun L:dK=>fN g hL.h f L s z) L ?_;refine aN 0 0 ?_;subst cM;exact Br (.inr rfl) (by kernel_rfl) Mm rfl fun w1 t=>⟨rfl,t.turns hF (by simp) (i:=0) rfl⟩
end
section
def Bm(z:aV)(a:nE):aV:=if z.aS=false then z else if a.id≠z.id then z else if a.dead=true then kE z z.eW.toNat 6 0 else kE z z.eW.toNat 0 a.val
def xG(z:aV)(l:List nE):aV:=l.foldl Bm z
def Pf(z:aV):Prop:=z.aS=true→∃j:Nat,z.eW=(j:Int)∧T3 j
theorem aTE{z:aV}{a:nE}(h:Pf z):Pf (Bm z a):=by
 unfold Bm;split
 ·exact h
 split
 ·exact h
 split
 ·intro h1;cases h1
 ·intro h1;cases h1
theorem aTK{l:List nE}:∀{z:aV},Pf z→Pf (xG z l):=by
 induction l with
 | nil=>exact fun h=>h
 | cons a l ih=>exact fun h=>ih (aTE h)
theorem aTJ{z:aV}{l:List nE}{i:Nat}{a:nE}(h:l[i]? =some a):xG z (l.take (i+1))=Bm (xG z (l.take i)) a:=by
 obtain⟨hi,rfl⟩:=List.getElem?_eq_some_iff.1 h;unfold xG;rw[List.take_succ_eq_append_getElem hi,List.foldl_append];rfl
theorem aTD{l:List nE}{i k:Nat}{a:nE}{v:Value}(h:l[i]? =some a)(hv:a.cells[k]? =some v):(l.flatMap nE.cells)[i*4+k]? =some v:=by
 induction l generalizing i with
 | nil=>simp at h
 | cons x l ih =>
  cases i with
  | zero=>
   simp at h;subst h;rw[Nat.zero_mul,Nat.zero_add,List.flatMap_cons,List.getElem?_append_left (List.getElem?_eq_some_iff.1 hv).1];exact hv
  | succ i=>
   rw[List.getElem?_cons_succ] at h;rw[List.flatMap_cons,show(i+1)*4+k=x.cells.length+(i*4+k) by simp[nE.cells];omega,List.getElem?_append_right (by omega),Nat.add_sub_cancel_left];exact ih h
theorem aNe(g h f:Nat)(s:aD)(z:aV)(w:World)(F:Nat→Prop)(A:Option Addr)(c:Nat)(l:List nE)(hl:l.length≤1000)(aPS:Pf z)(hp:(gH g h f s z).sat F w)(hF:∀b,F b→b < w.heap.size)(hs:aI ⟨w,fun b=>b < w.heap.size∧¬F b⟩ 4 A l.length (l.flatMap nE.cells)):
  Cz 21 #[pt g,.slice A l.length c] w (fun v w'=>v=.returned (.tuple #[])∧∃F',(gH g h f s (xG z l)).sat F' w'∧gX w w' F F'):=by
 refine dJ func21 ntmps21 hp hF ?_;generalize cM:(⟨w,fun b=>b < w.heap.size∧¬F b⟩:Piece)=R0 at hs⊢;refine aA ?_;refine bL [(8,iv 0),(7,iv l.length),(6,.slice A l.length c),(0,pt g),(1,.slice A l.length c)] ?_;refine eJ (fun m e R H=>∃i:Nat,i≤l.length∧m=l.length - i∧e=[(8,iv i),(7,iv l.length),(6,.slice A l.length c),(0,pt g),(1,.slice A l.length c)]∧R=[R0]∧H=[gH g h f s (xG z (l.take i))]) l.length ⟨0,by omega,rfl,rfl,rfl,rfl⟩ fun m e R H hI=>?_;obtain⟨i,hi,rfl,rfl,rfl,rfl⟩:=hI;refine aA ?_;refine aG rfl (fun hlt=>?_) (fun hge=>?_)
 ·have hlt:i < l.length:=by omega
  obtain⟨a,ha⟩:=get_some hlt;obtain⟨b,off,rfl,gA,hc⟩:=hs.2 (by omega)
  have dW:=aTJ (z:=z) ha
  have aIl:Pf (xG z (l.take i)):=aTK aPS
  generalize xG z (l.take i)=zi at dW aIl⊢;obtain⟨Tf,Zn,Oj,Ll⟩:=a;refine aA ?_;refine kd (dat i (off+i*4)) ?_;refine kd (pM rfl (aQ.of (vs:=[iv Tf,iv Zn,.bool Oj,.int .u32 Ll]) fun k v hv=>Rd.ro (p:=R0) (by simp) gA (by rw[Nat.add_assoc];exact hc _ _ (aTD ha hv)))) ?_;refine bX fun g1=>?_;refine aA ?_;refine mB 1 fun L=>?_;refine mL ?_;refine jA ?_;refine xH (bN rfl (pP 1 rfl rfl)) ?_;cases lV:zi.aS
  ·have hst:Bm zi ⟨Tf,Zn,Oj,Ll⟩=zi:=if_pos lV
   refine jB ?_;refine fA 1 (fun L:dK=>fN g h f L s zi) L ?_;refine aA ?_;refine aY [1] rfl (by decide) (fun _ h=>h) ?_;refine bL [(8,iv (i+1:Nat)),(7,iv l.length),(6,.slice (some ⟨b,off,none⟩) l.length c),(0,pt g),(1,.slice (some ⟨b,off,none⟩) l.length c)] ?_;exact iD (l.length - (i+1)) (by omega) ⟨i+1,by omega,rfl,rfl,rfl,by rw[dW,hst];rfl⟩
  ·obtain⟨j,hj,hj3⟩:=aIl lV
   have Dp:0≤zi.eW:=by omega
   have Na:Bm zi ⟨Tf,Zn,Oj,Ll⟩=if Tf≠zi.id then zi else if Oj=true then kE zi zi.eW.toNat 6 0 else kE zi zi.eW.toNat 0 Ll:=if_neg (by rw[lV];simp)
   refine jA ?_;refine xH (bN rfl (pP 1 rfl rfl)) ?_;refine jB ?_;refine fA 1 (fun L:dK=>fN g h f L s zi) L ?_;refine aA ?_;refine aG rfl (fun hne=>?_) (fun hne=>?_)
   ·rw[if_pos hne] at Na;refine aA ?_;refine aY [1] rfl (by decide) (fun _ h=>h) ?_;refine bL [(8,iv (i+1:Nat)),(7,iv l.length),(6,.slice (some ⟨b,off,none⟩) l.length c),(0,pt g),(1,.slice (some ⟨b,off,none⟩) l.length c)] ?_;exact iD (l.length - (i+1)) (by omega) ⟨i+1,by omega,rfl,rfl,rfl,by rw[dW,Na];rfl⟩
   ·rw[if_neg hne] at Na;refine aA ?_;cases Oj
    ·refine aB ?_;refine dR 1 (gH g h f s (kE zi zi.eW.toNat 0 Ll)) (fun w1 F1 t h1 h2 h3=>Jr g h f s zi w1 F1 zi.eW.toNat (by omega) (by rw[hj,Int.toNat_natCast];exact hj3) 0 Ll h1 h2) ?_;refine aA ?_;refine aY [1] rfl (by decide) (fun _ h=>h) ?_;refine bL [(8,iv (i+1:Nat)),(7,iv l.length),(6,.slice (some ⟨b,off,none⟩) l.length c),(0,pt g),(1,.slice (some ⟨b,off,none⟩) l.length c)] ?_;exact iD (l.length - (i+1)) (by omega) ⟨i+1,by omega,rfl,rfl,rfl,by rw[dW,Na];rfl⟩
    ·refine aB ?_;refine dR 1 (gH g h f s (kE zi zi.eW.toNat 6 0)) (fun w1 F1 t h1 h2 h3=>Jr g h f s zi w1 F1 zi.eW.toNat (by omega) (by rw[hj,Int.toNat_natCast];exact hj3) 6 0 h1 h2) ?_;refine aA ?_;refine aY [1] rfl (by decide) (fun _ h=>h) ?_;refine bL [(8,iv (i+1:Nat)),(7,iv l.length),(6,.slice (some ⟨b,off,none⟩) l.length c),(0,pt g),(1,.slice (some ⟨b,off,none⟩) l.length c)] ?_;exact iD (l.length - (i+1)) (by omega) ⟨i+1,by omega,rfl,rfl,rfl,by rw[dW,Na];rfl⟩
 obtain rfl:i=l.length:=by omega
 rw[List.take_length];refine aA ?_;subst cM;exact kC 0 hF
end
section
section
variable(s:aD)(A1 A2 A3 A4:Option Addr)(n1 k1 n2 k2 n3 k3 n4 k4:Nat)(w:World)
def aF7(s:aD)(v:Value)(hs:List HP)(_:Piece):Prop:=∃gc gm A k,v=.tuple #[pt gc,iv 0]∧hs=[lC gc gm A k (bP s) ⟨[],false⟩]
theorem aJz(hm:s.made)(hW:fL w s A1 n1 A2 n2 A3 n3 A4 n4):
  Cz 24 #[.agg #[.slice A1 n1 k1,.slice A2 n2 k2,.slice A3 n3 k3,.slice A4 n4 k4]] w (fun y w'=>(∃v hs q,y=.returned v∧q.w=w'∧aF7 s v hs q∧jD w hs q)∧Below w.heap.size w w'):=by
 obtain rfl:=hW.nH;obtain rfl:=hW.nT;obtain rfl:=hW.pU;obtain rfl:=hW.oK;refine aM func24 ntmps24 ?_;refine aA ?_;refine bA fun g1=>?_;refine aA ?_;refine aU (fun w1 t=>Tb s A1 A2 A3 A4 _ k1 _ k2 _ k3 _ k4 w1 (hW.le (t.started (by simp))) (aBc hm)) ?_;refine aA ?_;refine jR [] (wN (bP s)) (fun w1 t=>aH4 s A1 A2 A3 A4 _ k1 _ k2 _ k3 _ k4 w1 (hW.le (t.started (by simp)))) ?_;rintro _ w1 q1 ⟨Ag,cg,rfl,lI⟩ hf _ hfr
 have lI:=lI.le hf
 refine Jd (Φ:=Ed Ag (bP s)) (hm:=Ed.le) (hfr (by simp)) (by simp[all]) lI ?_;refine aAv (by decide) fun gm=>?_;refine kd (fY rfl) ?_;refine bA fun g2=>?_;refine aA ?_;refine aY [0,1,2] rfl (by decide) (R':=[all w]) (by simp) ?_;refine nA ?_;refine nA ?_;refine dP [] [] [0] (by simp) rfl (by decide) (by decide) fun q _ _ hfr=>?_;exact eL rfl rfl rfl fun w1 t=>⟨⟨_,_,⟨w1,q.Z⟩,rfl,rfl,⟨g2,gm,Ag,cg,rfl,rfl⟩,t.newR (by simp) (by simp) (hfr (by simp) (by simp))⟩,t.below (by simp)⟩
def Jq(s:aD):aV:={rp0 s with wn:=eT s []}
def aK9(h f:Nat)(s:aD)(v:Value)(hs:List HP)(_:Piece):Prop:=∃g,v=.tuple #[pt g,iv 0]∧hs=[gH g h f s (Jq s)]
theorem aMQ(h f:Nat)(hm:s.made)(hW:fL w s A1 n1 A2 n2 A3 n3 A4 n4):
  Cz 36 #[pt h,pt f,.agg #[.slice A1 n1 k1,.slice A2 n2 k2,.slice A3 n3 k3,.slice A4 n4 k4]] w (fun y w'=>(∃v hs q,y=.returned v∧q.w=w'∧aK9 h f s v hs q∧jD w hs q)∧Below w.heap.size w w'):=by
 obtain rfl:=hW.nH;obtain rfl:=hW.nT;obtain rfl:=hW.pU;obtain rfl:=hW.oK;refine aM func36 ntmps36 ?_;refine aA ?_;refine bA fun g1=>?_;refine aA ?_;refine iA (aF7 s) (fun w1 t=>aJz s A1 A2 A3 A4 _ k1 _ k2 _ k3 _ k4 w1 hm (hW.le (t.started (by simp)))) ?_;rintro _ _ q0 ⟨gc,gm,Ag,cg,rfl,rfl⟩ _;dsimp only[List.cons_append,List.nil_append];refine aY [0,1] rfl (by decide) (R':=[all w]) (by simp) ?_;refine aA ?_
 refine jR [] (fun v w w'=>aCy s v w w') (fun w1 t=>aEG s A1 A2 A3 A4 _ k1 _ k2 _ k3 _ k4 w1 (hW.le (t.started (by simp))) (fun d hd=>by
  obtain⟨j,hj⟩:=List.getElem?_of_mem hd
  have:=(hm.aC j d hj).2.2.2.2.2.2.2.2.1
  omega)) ?_
 rintro _ w1 q1 ⟨cs,rfl,hcs⟩ Db _ qP
 have qP:=qP (by simp)
 obtain⟨B1,m1,j1,B2,m2,j2,B3,m3,j3,B4,m4,j4,rfl,hsp⟩:=wH.P hcs
 have hsp:=hsp.le Db
 obtain⟨rfl,rfl,rfl,rfl⟩:=hsp.len;refine Jd (Φ:=kM ⟨(B1,j1),(B2,j2),(B3,j3),(B4,j4),gc,gm,(Ag,cg),(none,0),(none,0),(none,0),(none,0)⟩ s) (hm:=kM.le) qP (by simp[all]) hsp ?_;refine aA ?_;refine kd (fY rfl) ?_;refine bA fun g=>?_;refine aA ?_;refine kd (pM rfl (aAn (vs:=[_,_,_,_]) 0 rfl rfl)) ?_;refine iA (aAk (eT s [])) (fun w1 t=>aA2 (all w1) s B1 B2 B3 B4 _ j1 _ j2 _ j3 _ j4 none 0 [] w1 (t.bR 1 rfl) hm (Piece.Le.refl _) (aI.nil _ _)) ?_;rintro _ _ q2 ⟨ga,gb,gd,px,rfl,rfl⟩ _;dsimp only[List.cons_append,List.nil_append];refine aA ?_;refine Qy 2 rfl ?_;dsimp only[List.set];refine aA ?_;obtain⟨L',hL'⟩:∃L':dK,L'=⟨(B1,j1),(B2,j2),(B3,j3),(B4,j4),gc,gm,(Ag,cg),(some ⟨ga,0,none⟩,(eT s []).d.length),(some ⟨gb,0,none⟩,(eT s []).c.length),(some ⟨gd,0,none⟩,(eT s []).l.length),(none,0)⟩:=⟨_,rfl⟩
 refine Bp (q:=HP.bR (uY L' (eT s [])) (uY.le (L:=L') (x:=eT s []))) 0 rfl (fun F w hs=>?_) ?_
 ·obtain⟨G,k1,k2,_⟩:=hs;subst hL';exact⟨tE (c:=0) (k1 0 _ rfl) (fun b hb=>k2 0 b hb) (by simp[bE]),tE (c:=0) (k1 1 _ rfl) (fun b hb=>k2 1 b hb) (by simp[bE]),tE (c:=0) (k1 2 _ rfl) (fun b hb=>k2 2 b hb) (by simp[bE])⟩
 dsimp only[List.set];refine Bu (p:=HP.bR (oP L' []) (oP.le (L:=L') (l:=[]))) (fun w=>by subst hL';exact⟨aI.nil _ _,Nat.le_refl _⟩) ?_;refine bF 5 0 ?_;refine bF 6 1 ?_;refine aY [5,6,3,1,0,2] rfl (by decide) (R':=[all w]) (by simp) ?_;refine nA ?_;refine uX ?_;refine uX ?_;refine uX ?_;refine uX ?_;refine xI 0 (f:=fun L:dK=>fN g h f L s (Jq s)) L' (by subst hL';rfl) ?_;dsimp only[List.set];refine dP [] [] [0] (by simp) rfl (by decide) (by decide) fun q _ _ hfr=>?_;exact eL rfl rfl rfl fun w1 t=>⟨⟨_,_,⟨w1,q.Z⟩,rfl,rfl,⟨g,rfl,rfl⟩,t.newR (by simp) (by simp) (hfr (by simp) (by simp))⟩,t.below (by simp)⟩
end
end
section
def Sd(s:aD)(z:aV)(t d:Int):Int:=if bB 3 t=false then 0 else if bB s.aC.length d=false then 0 else hG (z.tk t.toNat) d.toNat
theorem aMX(g h f:Nat)(L:dK)(s:aD)(z:aV)(w:World)(t d:Int)(lX:s.aC.length≤6)(hR:Ea w g h f L s z):Cz 33 #[pt g,iv t,iv d] w (Rt (iv (Sd s z t d)) w):=by
 unfold Sd;refine aM func33 ntmps33 ?_;refine aA ?_;refine aU (fun w1 _=>Vi t w1) ?_;cases hin:bB 3 t
 ·refine aA ?_;exact cY
 ·obtain⟨j,rfl,hj⟩:=Mu hin
  have hj2:j≤2:=by rcases hj with rfl | rfl | rfl<;>decide
  rw[if_neg (by simp),Int.toNat_natCast];refine aA ?_;refine aU (fun w1 t=>aCY g h f L s z w1 d (hR.below (t.started (by simp)))) ?_;cases hid:bB s.aC.length d
  ·refine aA ?_;exact cY
  ·have hd:=of_decide_eq_true hid
   obtain⟨dv,rfl⟩:∃n:Nat,d=(n:Int):=⟨d.toNat,by omega⟩
   have hcell:(kW h f L s z)[10+13*j+7+dv]? =some (iv (hG (z.tk j) dv)):=by
    rw[Nat.add_assoc];exact zR hj (Us (by omega))
   have k0:=hR.r0.at_ hcell
   rw[Nat.zero_add] at k0;rw[if_neg (by simp),Int.toNat_natCast];refine aA ?_;refine kd (fZ j (10+13*j) (ho:=by omega)) ?_;refine aA ?_;refine kd (fZ dv (10+13*j+7+dv) (hlt:=by omega) (ho:=by omega)) ?_;refine aA ?_;exact cY
end
section
section
variable{s:aD}{x:aP}{z:bZ}{b:Nat}{m:List Int}{k id:Int}
theorem aHe(hu:wG m)(h:(eA s m).1=0):tW m:=by
 cases m with
 | nil=>exact absurd h (by show ¬((-10:Int)=0);decide)
 | cons w r =>
  unfold eA at h;dsimp only at h;split at h
  ·exact absurd h (by decide)
  ·rename_i h1
   split at h
   ·exact absurd h (by decide)
   ·split at h
    ·exact absurd h (by decide)
    ·rename_i h3
     have hz:cN w 28 4=0:=by
      refine Classical.byContradiction fun hc=>h1 (.inl ?_);unfold uF;rw[if_pos hc];decide
     refine⟨⟨w,r,rfl,hz,fun hh=>?_⟩⟩
     have hp:eE w=cN w 10 8:=by rw[eE,if_neg (by simp[hz])]
     have Rq:eM w=cN w 0 8:=by rw[eM,if_neg (by simp[hz])]
     have hn:(eG (eE w) (eM w)).n=1:=by
      rw[hp,Rq];rcases hh with⟨a,b⟩ | ⟨a,b⟩<;>rw[a,b]<;>rfl
     rw[hn] at h3
     have h4:r.length=1:=by omega
     obtain⟨i,rfl⟩:=List.length_eq_one_iff.1 h4;exact⟨i,rfl,hu i (by simp)⟩
end
end
section
theorem aQl:([(4,17),(7,20),(4,22)]:List (Int×Int)).all (fun q=>(List.range 1024).all fun k=>aEb q.1 q.2 k)=true:=by decide+kernel
def Pa(p:dB):Prop:=(p.msg=4∧p.pr=17)∨(p.msg=7∧p.pr=20)∨(p.msg=4∧p.pr=22)
theorem aEa{p:dB}(h:Pa p){k:Int}(h0:0≤k)(h1:k < 1024):(eB p.msg 0 p.pr k).2=0∧cN (eB p.msg 0 p.pr k).1 28 4=0∧cN (eB p.msg 0 p.pr k).1 0 8=p.msg∧cN (eB p.msg 0 p.pr k).1 8 2=0∧cN (eB p.msg 0 p.pr k).1 10 8=p.pr:=by
 have ha:=aQl
 rw[List.all_eq_true] at ha;obtain⟨n,rfl⟩:∃n:Nat,k=n:=⟨k.toNat,by omega⟩
 have key:aEb p.msg p.pr (n:Int)=true:=by
  have h2:=ha (p.msg,p.pr) (by
   obtain⟨pr,msg,id,v⟩:=p;dsimp only[Pa] at h⊢
   rcases h with⟨rfl,rfl⟩ | ⟨rfl,rfl⟩ | ⟨rfl,rfl⟩<;>simp)
  rw[List.all_eq_true] at h2;exact h2 n (List.mem_range.2 (by omega))
 obtain⟨e1,e2,e3,e4,e5,_⟩:=of_decide_eq_true key;exact⟨e1,e2,e3,e4,e5⟩
theorem aOj(m t p k:Int):0≤(eB m t p k).1∧(eB m t p k).1 < 4294967296:=by
 unfold eB
 repeat' split
 all_goals first | exact aHk _ _ _ _ | exact⟨Int.le_refl 0,(by decide:(0:Int) < 4294967296)⟩
theorem aTO{s:aD}{x y:bM}:∀p∈allM s x y,Pa p:=by
 intro p hp;unfold allM uW at hp;simp only[List.mem_append,jW,List.mem_map] at hp;rcases hp with⟨i,_,rfl⟩ | ⟨i,_,rfl⟩ | ⟨i,_,rfl⟩ | ⟨i,_,rfl⟩ | ⟨i,_,rfl⟩ | ⟨i,_,rfl⟩
 all_goals simp[Pa]
theorem aTA{s:aD}{x:aP}{l:List Int}{st:Int}(hl:wG l):wG (Dx s x l st):=by
 have h0:0≤l.headD 0∧l.headD 0 < 4294967296:=by
  cases l with
  | nil=>exact⟨by decide,by decide⟩
  | cons a r=>exact hl a (by simp)
 have hm : wG (pT s x l) := by
  intro v hv;unfold pT at hv;dsimp only at hv;split at hv
  ·simp at hv;subst hv;decide
  ·split at hv
   ·simp at hv;subst hv;exact Pz _
   ·split at hv
    ·simp at hv;subst hv;unfold Jw
     repeat' split
     all_goals decide
    ·split at hv
     ·simp at hv;rcases hv with rfl | rfl<;>exact Pz _
     ·cases hv
 intro v hv;unfold Dx at hv;rw[List.mem_cons,List.mem_cons] at hv;rcases hv with rfl | rfl | hv
 ·exact h0
 ·exact Pz _
 ·split at hv
  ·exact hm v hv
  ·cases hv
theorem aTB{s:aD}{x:aP}{l:List Int}{st:Int}:2≤(Dx s x l st).length∧(Dx s x l st).length≤4:=by
 have:=aHB s x l
 unfold Dx;split<;>simp<;>omega
theorem aJu{s:aD}{x y:bM}{wt:List Int}{ag:Nat}{l:List Int}(hu:wG l):((jI s x y wt ag l).2.1=0∧((jI s x y wt ag l).1=0→tW l))∨((jI s x y wt ag l).1=0∧(jI s x y wt ag l).2=(eA s l).2∧(eA s l).1=0∧(jI s x y wt ag l).2.1≠0∧tW l∧Ee s (jI s x y wt ag l).2.1 (jI s x y wt ag l).2.2):=by
 unfold jI
 by_cases h:(eA s l).1≠0∨(eA s l).2.1=0∨pR (if ag=0 then x else y) (eA s l).2.1 (eA s l).2.2=decide (rY (eA s l).2.1)
 ·rw[if_pos h];exact .inl ⟨rfl,fun h=>aHe hu h⟩
 ·rw[if_neg h]
  have h1:(eA s l).1=0:=Classical.byContradiction fun hc=>h (.inl hc)
  have h2:(eA s l).2.1≠0:=fun hc=>h (.inr (.inl hc))
  have hr:=aHe hu h1
  have hk:Ee s (eA s l).2.1 (eA s l).2.2:=by
   rcases aHf (s:=s) hu with⟨h0,_⟩ | ⟨_,hk,pK,hi1,_,_⟩
   ·exact absurd h0 h2
   ·refine⟨by unfold Wf at hk;omega,fun h99=>⟨pK,?_⟩⟩;rw[h99] at hi1
    simpa[tJ,Rc] using hi1
  have no:∀e:Int,e≠0→e=0→tW l:=fun _ h k=>absurd k h
  by_cases ho:rY (eA s l).2.1
  ·rw[if_pos ho];split
   ·exact .inl ⟨rfl,no _ (by decide)⟩
   ·exact .inr ⟨rfl,rfl,h1,h2,hr,hk⟩
  ·rw[if_neg ho];split
   ·exact .inl ⟨rfl,no _ (by decide)⟩
   ·split
    ·exact .inl ⟨rfl,no _ (by decide)⟩
    ·exact .inr ⟨rfl,rfl,h1,h2,hr,hk⟩
theorem aKf(s:aD)(x:aP)(k id:Int):(nP s x k id).1.wt=x.wt∧(nP s x k id).1.aS=x.aS:=by
 unfold nP Fh Lj He uJ Lm
 repeat' split
 all_goals exact⟨rfl,rfl⟩
structure FwB(s:aD)(y:bZ):Prop where
 fm:Eg s y
 ax:y.x.of s
 ay:y.y.of s
 h0:y.h0=0∨y.h0=1∨y.h0=2
 h1:y.h1=0∨y.h1=1∨y.h1=2
 r0:y.h0=2→2≤y.w0.length
 r1:y.h1=2→2≤y.w1.length
structure rP(s:aD)(y:bZ):Prop extends FwB s y where
 at_:y.at_= -1∨∃a:Nat,y.at_=(a:Int)∧a < 2∧Bf y a=1∧Ee s y.kind y.id∧tW (kY y a)
theorem rP.step{s:aD}{x:aP}{y:bZ}(h:rP s y)(hx:cK s x):aCo s x y:=by
 refine⟨hx,h.fm,?_,fun _ a _ h1 h2=>?_,fun _ a _ h1=>?_⟩
 ·rcases h.at_ with h1 | ⟨a,h1,h2,_,h3,h4⟩
  ·exact .inl (by omega)
  ·exact .inr ⟨a,h1,h2,h3,h4⟩
 ·rcases aJu (s:=s) (x:=y.x) (y:=y.y) (wt:=mF s x) (ag:=a) (h.fm.box a).1 with⟨_,h3⟩ | ⟨_,_,_,h3,_⟩
  ·exact h3 h2
  ·exact absurd h1 h3
 ·rcases aJu (s:=s) (x:=y.x) (y:=y.y) (wt:=mF s x) (ag:=a) (h.fm.box a).1 with⟨h3,_⟩ | ⟨_,_,_,_,h4,h5⟩
  ·exact absurd h3 h1
  ·exact⟨h5,h4⟩
theorem aKV{s:aD}{x:aP}{y:bZ}(h:FwB s y)(fK:y.at_= -1){a:Nat}(ha:a < 2)(st:Int):rP s (wU s x y a st):=by
 have hb:=h.fm.box a
 have hu:=aTA (s:=s) (x:=x) (st:=st) hb.1
 have hl:=aTB (s:=s) (x:=x) (l:=kY y a) (st:=st)
 have Hw:(Dx s x (kY y a) st).length≤1000000:=Nat.le_trans hl.2 (by decide)
 unfold wU aDh;split
 ·exact⟨⟨⟨h.fm.la,hu,h.fm.u1,Hw,h.fm.n1,h.fm.sx,h.fm.sy⟩,h.ax,h.ay,.inr (.inr rfl),h.h1,fun _=>hl.1,h.r1⟩,.inl fK⟩
 ·exact⟨⟨⟨h.fm.la,h.fm.u0,hu,h.fm.n0,Hw,h.fm.sx,h.fm.sy⟩,h.ax,h.ay,h.h0,.inr (.inr rfl),h.r0,fun _=>hl.1⟩,.inl fK⟩
theorem aG3{s:aD}{x:bM}(h:x.of s)(k id:Int):(kU x k id).of s:=by
 obtain⟨h1,h2,h3⟩:=aG4 x k id;exact⟨h1.trans h.d,h2.trans h.c,h3.trans h.l⟩
theorem rP.end_{s:aD}{y:bZ}(h:rP s y){a:Nat}(fK:y.at_=(a:Int))(ha:a < 2)(r:aP×Bool):rP s (xD s y r):=by
 unfold xD;split
 ·rw[fK,Int.toNat_natCast];exact aKV (y:={y with at_:= -1}) ⟨⟨h.fm.la,h.fm.u0,h.fm.u1,h.fm.n0,h.fm.n1,h.fm.sx,h.fm.sy⟩,h.ax,h.ay,h.h0,h.h1,h.r0,h.r1⟩ rfl ha 0
 ·exact h
theorem rP.next{s:aD}{x:aP}{y:bZ}(hH:s.dI)(h:rP s y)(hx:cK s x):rP s (lD s x y).1∧cK s (lD s x y).2∧(lD s x y).2.wt=x.wt∧(lD s x y).2.aS=x.aS:=by
 unfold lD;dsimp only;rcases h.at_ with fK | ⟨a,fK,ha,_⟩
 ·have hlt:y.at_ < 0:=by omega
  cases hn:sW y with
  | none=>
   have ht:mV s x y=(y,false):=by unfold mV;rw[hn]
   rw[ht,if_pos ⟨hlt,rfl⟩];exact⟨h,hx,rfl,rfl⟩
  | some a =>
   have ha:=aH3 h.fm.la hn
   have Ib:Bf y a=1:=by
    unfold sW at hn;split at hn
    ·cases hn;assumption
    ·split at hn
     ·cases hn;assumption
     ·cases hn
   have hla:(a:Int)=0∨(a:Int)=1:=by omega
   have ht:mV s x y=wS s x y a:=by unfold mV;rw[hn]
   rw[ht]
   by_cases hd:(gE s x y a).2.1=0
   ·have e:wS s x y a=(wU s x {y with last:=a} a (gE s x y a).1,false):=by
     unfold wS;dsimp only;rw[if_pos hd]
    rw[e,if_pos ⟨hlt,rfl⟩];exact⟨aKV (y:={y with last:=a}) ⟨⟨hla,h.fm.u0,h.fm.u1,h.fm.n0,h.fm.n1,h.fm.sx,h.fm.sy⟩,h.ax,h.ay,h.h0,h.h1,h.r0,h.r1⟩ fK ha _,hx,rfl,rfl⟩
   ·have e:wS s x y a=({y with last:=a,x:=jZ y.x a (gE s x y a).2.1 (gE s x y a).2.2,y:=mS y.y a (gE s x y a).2.1 (gE s x y a).2.2,at_:=a,kind:=(gE s x y a).2.1,id:=(gE s x y a).2.2},true):=by
     unfold wS;dsimp only;rw[if_neg hd]
    rw[e,if_neg (by simp),if_pos hlt];dsimp only;obtain⟨hk,hr⟩:=(h.step hx).new hlt a hn hd
    have hax:(jZ y.x a (gE s x y a).2.1 (gE s x y a).2.2).of s:=by
     unfold jZ;split
     ·exact aG3 h.ax _ _
     ·exact h.ax
    have hay:(mS y.y a (gE s x y a).2.1 (gE s x y a).2.2).of s:=by
     unfold mS;split
     ·exact h.ay
     ·exact aG3 h.ay _ _
    obtain⟨w1,w2⟩:=aKf s x (gE s x y a).2.1 (gE s x y a).2.2
    exact⟨rP.end_ (y:={y with last:=a,x:=jZ y.x a (gE s x y a).2.1 (gE s x y a).2.2,y:=mS y.y a (gE s x y a).2.1 (gE s x y a).2.2,at_:=a,kind:=(gE s x y a).2.1,id:=(gE s x y a).2.2})
     ⟨⟨⟨hla,h.fm.u0,h.fm.u1,h.fm.n0,h.fm.n1,aRZ h.fm.sx _ _ _,aRY h.fm.sy _ _ _⟩,hax,hay,h.h0,h.h1,h.r0,h.r1⟩,.inr ⟨a,rfl,ha,Ib,hk,hr⟩⟩ rfl ha _,aEY hH hx _ _,w1,w2⟩
 ·have hlt:¬y.at_ < 0:=by omega
  rw[if_neg (fun hh=>hlt hh.1),if_neg hlt];obtain⟨w1,w2⟩:=aKf s x y.kind y.id;exact⟨h.end_ fK ha _,aEY hH hx _ _,w1,w2⟩
theorem rP.send{s:aD}{y:bZ}(h:rP s y)(a:Int){l:List Int}(hu:wG l)(hn:l.length≤1000000):rP s (oF y a l).2:=by
 have fK:∀b:Nat,y.at_= -1∨(∃c:Nat,y.at_=(c:Int)∧c < 2∧Bf y c=1∧Ee s y.kind y.id∧tW (kY y c)):=fun _=>h.at_
 unfold oF;split
 ·exact h
 ·split
  ·split
   ·exact h
   ·rename_i Dp
    have Dp:y.h0=0:=Classical.byContradiction Dp
    refine⟨⟨⟨h.fm.la,hu,h.fm.u1,hn,h.fm.n1,h.fm.sx,h.fm.sy⟩,h.ax,h.ay,.inr (.inl rfl),h.h1,(fun h=>absurd (show(1:Int)=2 from h) (by decide)),h.r1⟩,?_⟩;rcases h.at_ with h1 | ⟨c,h1,h2,h3,h4,h5⟩
    ·exact .inl h1
    ·refine .inr ⟨c,h1,h2,?_⟩;obtain rfl | rfl:c=0∨c=1:=by omega
     ·exact absurd (Dp.symm.trans h3) (by decide)
     ·exact⟨h3,h4,h5⟩
  ·split
   ·exact h
   ·rename_i Dp
    have Dp:y.h1=0:=Classical.byContradiction Dp
    refine⟨⟨⟨h.fm.la,h.fm.u0,hu,h.fm.n0,hn,h.fm.sx,h.fm.sy⟩,h.ax,h.ay,h.h0,.inr (.inl rfl),h.r0,fun h=>absurd (show(1:Int)=2 from h) (by decide)⟩,?_⟩;rcases h.at_ with h1 | ⟨c,h1,h2,h3,h4,h5⟩
    ·exact .inl h1
    ·refine .inr ⟨c,h1,h2,?_⟩;obtain rfl | rfl:c=0∨c=1:=by omega
     ·exact⟨h3,h4,h5⟩
     ·exact absurd (Dp.symm.trans h3) (by decide)
theorem rP.read{s:aD}{y:bZ}(h:rP s y)(a:Int):rP s (oY y a):=by
 unfold oY;split
 ·split
  ·rename_i h2
   refine⟨⟨⟨h.fm.la,(fun _ hv=>by cases hv),h.fm.u1,Nat.zero_le _,h.fm.n1,h.fm.sx,h.fm.sy⟩,h.ax,h.ay,.inl rfl,h.h1,(fun h=>absurd (show(0:Int)=2 from h) (by decide)),h.r1⟩,?_⟩;rcases h.at_ with h1 | ⟨c,h1,hc,h3,h4,h5⟩
   ·exact .inl h1
   ·refine .inr ⟨c,h1,hc,?_⟩;obtain rfl | rfl:c=0∨c=1:=by omega
    ·exact absurd (h2.symm.trans h3) (by decide)
    ·exact⟨h3,h4,h5⟩
  ·exact h
 ·split
  ·split
   ·rename_i h2
    refine⟨⟨⟨h.fm.la,h.fm.u0,(fun _ hv=>by cases hv),h.fm.n0,Nat.zero_le _,h.fm.sx,h.fm.sy⟩,h.ax,h.ay,h.h0,.inl rfl,h.r0,fun h=>absurd (show(0:Int)=2 from h) (by decide)⟩,?_⟩;rcases h.at_ with h1 | ⟨c,h1,hc,h3,h4,h5⟩
    ·exact .inl h1
    ·refine .inr ⟨c,h1,hc,?_⟩;obtain rfl | rfl:c=0∨c=1:=by omega
     ·exact⟨h3,h4,h5⟩
     ·exact absurd (h2.symm.trans h3) (by decide)
   ·exact h
  ·exact h
theorem FwB.ans{s:aD}{y:bZ}(h:FwB s y){b:Int}{a:List Int}(ha:oZ y b=some a):2≤a.length:=by
 unfold oZ at ha;split at ha
 ·split at ha
  ·cases ha;exact h.r0 (by assumption)
  ·cases ha
 ·split at ha
  ·split at ha
   ·cases ha;exact h.r1 (by assumption)
   ·cases ha
  ·cases ha
theorem aRy{s:aD}(hT:s.wX):rP s (tQ s):=
 ⟨⟨⟨.inr rfl,(fun _ hv=>by simp[tQ] at hv),(fun _ hv=>by simp[tQ] at hv),by simp[tQ],by simp[tQ],aC2 hT,aC2 hT⟩,⟨by simp[tQ,dQ],by simp[tQ,dQ],by simp[tQ,dQ]⟩,⟨by simp[tQ,dQ],by simp[tQ,dQ],by simp[tQ,dQ]⟩,.inl rfl,.inl rfl,(fun h=>by simp[tQ] at h),(fun h=>by simp[tQ] at h)⟩,.inl rfl⟩
end
section
theorem aEq:∀(l:List (Int×Int)) (k v j:Int),fX (Cr l k v) j=if j=k then v else fX l j
 | [], k, v, j => by
  by_cases h:j=k
  ·subst h;simp[fX,Cr]
  ·rw[if_neg h]
   have h2:¬k=j:=fun e=>h e.symm
   simp[fX,Cr,h2]
 | (a, b) :: l, k, v, j => by
  have ih:=aEq l k v j
  unfold Cr
  by_cases Ie:a=k
  ·subst Ie;rw[if_pos rfl]
   by_cases h:j=a
   ·subst h;simp[fX]
   ·have h2:¬a=j:=fun e=>h e.symm
    simp[fX,h,h2]
  ·rw[if_neg Ie]
   by_cases haj:a=j
   ·subst haj;rw[if_neg Ie];simp[fX]
   ·have e1:∀m,fX ((a,b)::m) j=fX m j:=fun m=>by simp[fX,haj]
    rw[e1,e1,ih]
theorem nN(a b:Int){p:Prop}(h:a=b)(hn:a≠b:=by decide):p:=absurd h hn
theorem Gx{z:aV}{i j:Nat}{t:oO}(hi:T3 i)(hj:T3 j):(z.jQ j t).tk i=if i=j then t else z.tk i:=by
 rcases hi with rfl | rfl | rfl<;>rcases hj with rfl | rfl | rfl<;>rfl
structure RwB(s:aD)(z:aV):Prop where
 wn:z.wn.of s
 len:∀j,T3 j→(z.tk j).hs.length=6
 nn:∀j,T3 j→∀i,0≤hG (z.tk j) i
 cnt:∀i:Nat,hG (z.tk 0) i+hG (z.tk 1) i+hG (z.tk 2) i=fX z.cn.l (i:Int)
 c7:∀i:Nat,fX z.cn.l (i:Int)≤7
 call:∀j,T3 j→(z.tk j).st=1→pF (z.tk j).kind
 st:∀j,T3 j→0≤(z.tk j).st∧(z.tk j).st≤3
 val:∀j,T3 j→0≤(z.tk j).val∧(z.tk j).val < 4294967296
 many:0≤z.many∧z.many < 1024
 Ex:∀p∈z.steps,Pa p∧p.ok
def aUO(z:aV):Prop:=(z.eW= -1∧(∀j,T3 j→(z.tk j).st≠2)∧z.aS=false∧z.steps=[]∧z.sent=false)∨(∃j:Nat,T3 j∧z.eW=(j:Int)∧(∀i,T3 i→((z.tk i).st=2↔i=j))∧(z.aS=false→z.steps≠[]))
structure qU(s:aD)(z:aV):Prop extends RwB s z where
 eW:aUO z
theorem aEm{s:aD}{z:aV}(h:RwB s z){j:Nat}(hj:T3 j)(i:Nat):hG (z.tk j) i≤7:=by
 have h0:=h.nn 0 (.inl rfl) i
 have h1:=h.nn 1 (.inr (.inl rfl)) i
 have h2:=h.nn 2 (.inr (.inr rfl)) i
 have h3:=h.cnt i
 have h4:=h.c7 i
 rcases hj with rfl | rfl | rfl<;>omega
theorem RwB.rp{s:aD}{z:aV}(h:RwB s z):Tz s z:=⟨h.wn,fun j hj=>⟨h.len j hj,fun i=>⟨h.nn j hj i,by have:=aEm h hj i;omega⟩⟩⟩
theorem RwB.jQ{s:aD}{z:aV}(h:RwB s z){j:Nat}(hj:T3 j){t:oO}(hh:t.hs=(z.tk j).hs)(hs:0≤t.st∧t.st≤3)(hv:0≤t.val∧t.val < 4294967296)(hc:t.st=1→pF t.kind):RwB s (z.jQ j t):=by
 have hg:∀i,T3 i→((z.jQ j t).tk i).hs=(z.tk i).hs:=fun i hi=>by
  rw[Gx hi hj];split
  ·rename_i e;subst e;exact hh
  ·rfl
 have hG':∀i,T3 i→∀k,hG ((z.jQ j t).tk i) k=hG (z.tk i) k:=fun i hi k=>by unfold hG;rw[hg i hi]
 refine⟨h.wn,fun i hi=>by rw[hg i hi];exact h.len i hi,fun i hi k=>by rw[hG' i hi];exact h.nn i hi k,fun i=>?_,h.c7,fun i hi=>?_,fun i hi=>?_,fun i hi=>?_,h.many,h.Ex⟩
 ·rw[hG' 0 (.inl rfl),hG' 1 (.inr (.inl rfl)),hG' 2 (.inr (.inr rfl))];exact h.cnt i
 ·rw[Gx hi hj];split
  ·exact hc
  ·exact h.call i hi
 ·rw[Gx hi hj];split
  ·exact hs
  ·exact h.st i hi
 ·rw[Gx hi hj];split
  ·exact hv
  ·exact h.val i hi
theorem RwB.mU{s:aD}{z:aV}(h:RwB s z){j:Nat}(hj:T3 j){d:Nat}(hd:d < 6){k:Int}{c:Cn}(hc:∀i:Nat,fX c.l (i:Int)=if i=d then fX z.cn.l (d:Int)+k else fX z.cn.l (i:Int))(h0:0≤hG (z.tk j) d+k)(h7:fX z.cn.l (d:Int)+k≤7):RwB s {z.jQ j (mU (z.tk j) d k) with cn:=c}:=by
 have ht:∀i,T3 i→({z.jQ j (Go.Proofs.YtdcdccmpcmjmhaaGreatDoor.mU (z.tk j) d k) with cn:=c}:aV).tk i=if i=j then Go.Proofs.YtdcdccmpcmjmhaaGreatDoor.mU (z.tk j) d k else z.tk i:=fun i hi=>(show _=(z.jQ j (Go.Proofs.YtdcdccmpcmjmhaaGreatDoor.mU (z.tk j) d k)).tk i from rfl).trans (Gx hi hj)
 have hu:∀i,hG (Go.Proofs.YtdcdccmpcmjmhaaGreatDoor.mU (z.tk j) d k) i=if d=i then hG (z.tk j) d+k else hG (z.tk j) i:=fun i=>aEl (h.len j hj) hd
 have hg:∀i,T3 i→∀n,hG (({z.jQ j (Go.Proofs.YtdcdccmpcmjmhaaGreatDoor.mU (z.tk j) d k) with cn:=c}:aV).tk i) n=hG (z.tk i) n+(if i=j∧n=d then k else 0):=fun i hi n=>by
  rw[ht i hi]
  by_cases e:i=j
  ·subst e;rw[if_pos rfl,hu]
   by_cases e2:d=n
   ·subst e2;simp
   ·rw[if_neg e2,if_neg (fun hh=>e2 hh.2.symm)];omega
  ·rw[if_neg e,if_neg (fun hh=>e hh.1)];omega
 refine⟨h.wn,fun i hi=>?_,fun i hi n=>?_,fun n=>?_,fun n=>?_,fun i hi=>?_,fun i hi=>?_,fun i hi=>?_,h.many,h.Ex⟩
 ·rw[ht i hi];split
  ·show((z.tk j).hs.set _ _).length=6
   rw[List.length_set];exact h.len j hj
  ·exact h.len i hi
 ·rw[hg i hi]
  have:=h.nn i hi n
  split
  ·rename_i e
   obtain⟨rfl,rfl⟩:=e;exact h0
  ·omega
 ·rw[hg 0 (.inl rfl),hg 1 (.inr (.inl rfl)),hg 2 (.inr (.inr rfl))]
  show _=fX c.l (n:Int)
  rw[hc]
  have:=h.cnt n
  by_cases e:n=d
  ·subst e;rcases hj with rfl | rfl | rfl<;>simp<;>omega
  ·rw[if_neg e,if_neg (fun hh=>e hh.2),if_neg (fun hh=>e hh.2),if_neg (fun hh=>e hh.2)];omega
 ·show fX c.l (n:Int)≤7
  rw[hc];split
  ·exact h7
  ·exact h.c7 n
 ·rw[ht i hi];split
  ·rename_i e;subst e;exact h.call _ hi
  ·exact h.call i hi
 ·rw[ht i hi];split
  ·rename_i e;subst e;exact h.st _ hi
  ·exact h.st i hi
 ·rw[ht i hi];split
  ·rename_i e;subst e;exact h.val _ hi
  ·exact h.val i hi
theorem aTm{n:Nat}{c:Cn}{d:Int}(h:(nO n c d).1=0)(h0:0≤fX c.l d):c.iZ=false∧0≤d∧d < n∧fX c.l d < 7∧(nO n c d).2=⟨Cr c.l d (fX c.l d+1),c.iZ⟩:=by
 unfold nO at h⊢;split at h
 ·simp at h
 ·rename_i h1
  split at h
  ·simp at h
  ·rename_i h2
   split at h
   ·simp at h
   ·rename_i h3
    rw[if_neg h1,if_neg h2,if_neg h3,iR (by omega)];exact⟨by simpa using h1,by omega,by omega,by omega,rfl⟩
theorem aS9{n:Nat}{c:Cn}{d:Int}(h:(kA n c d).1=0)(h7:fX c.l d≤7):c.iZ=false∧0≤d∧d < n∧0 < fX c.l d∧(kA n c d).2=⟨Cr c.l d (fX c.l d - 1),c.iZ⟩:=by
 unfold kA at h⊢;split at h
 ·simp at h
 ·rename_i h1
  split at h
  ·simp at h
  ·rename_i h2
   split at h
   ·simp at h
   ·rename_i h3
    rw[if_neg h1,if_neg h2,if_neg h3,iR (by omega)];exact⟨by simpa using h1,by omega,by omega,by omega,rfl⟩
theorem aCp{s:aD}{z:aV}(hm:s.made)(h:RwB s z):RwB s (lQ s z):=
 ⟨aL5 s z,h.len,h.nn,h.cnt,h.c7,h.call,h.st,h.val,h.many,fun p hp=>⟨aTO p hp,aTP hm _ _ p hp⟩⟩
theorem RwB.same{s:aD}{z:aV}(h:RwB s z)(c:Cn)(hc:c.l=z.cn.l):RwB s {z with cn:=c}:=
 ⟨h.wn,h.len,h.nn,fun i=>by show _=fX c.l _;rw[hc];exact h.cnt i,fun i=>by show fX c.l _≤7;rw[hc];exact h.c7 i,h.call,h.st,h.val,h.many,h.Ex⟩
structure aF5(s:aD)(z:aV)(x:aP)(r:Int×aV×aP):Prop where
 b:RwB s r.2.1
 st:∀i,(r.2.1.tk i).st=(z.tk i).st
 err:r.1≠0→r.2.1=z∧r.2.2=x
 x_:r.2.1.aS=false→r.2.2=x
 po:r.2.1.aS=true→z.aS=true∨∃(d:Nat) (wr:Bool) (rg v:Int) (dv:bO),s.aC[d]? =some dv∧0≤rg∧rg < dv.aO.length∧0≤v∧v < 4294967296∧r.2.1.id=x.aS∧r.2.2=wW x d wr rg v
theorem aRI{s:aD}(hm:s.made){z:aV}(h:RwB s z)(x:aP){j:Nat}(hj:T3 j)(k:Int):aF5 s z x (qR s x z j k):=by
 have hnd:=Fi s
 have lX:=hm.nv
 have same:∀e:Int,aF5 s z x (e,z,x):=fun e=>⟨h,fun _=>rfl,fun _=>⟨rfl,rfl⟩,fun _=>rfl,fun hp=>.inl hp⟩
 have Mk:∀(d:Nat) (q:Int) (c:Cn) (i:Nat),((lQ s {z.jQ j (mU (z.tk j) d q) with cn:=c}).tk i).st=(z.tk i).st:=fun d q c i=>by
  show((z.jQ j (mU (z.tk j) d q)).tk i).st=_
  rcases hj with rfl | rfl | rfl
  all_goals
   match i with
   | 0=>rfl
   | 1=>rfl
   | n+2=>rfl
 have acc : ∀ wr : Bool, aF5 s z x (Dy s x z j wr) := fun wr => by
  unfold Dy;split
  ·exact same 4
  ·rename_i hb
   split
   ·exact same 6
   ·split
    ·refine⟨⟨h.wn,h.len,h.nn,h.cnt,h.c7,h.call,h.st,h.val,h.many,h.Ex⟩,fun _=>rfl,fun h=>absurd rfl h,(fun h=>by cases h),fun _=>.inr ?_⟩
     have h1:bB s.aC.length (z.tk j).dev=true:=by
      cases hh:bB s.aC.length (z.tk j).dev with
      | true=>rfl
      | false=>exact absurd (.inl hh) hb
     have h2:=of_decide_eq_true h1
     obtain⟨dv,rI⟩:=get_some (l:=s.aC) (i:=(z.tk j).dev.toNat) (by omega)
     have h3:¬(z.tk j).bY < 0:=fun hh=>hb (.inr (.inl hh))
     have h4:¬vM s (z.tk j).dev≤(z.tk j).bY:=fun hh=>hb (.inr (.inr hh))
     unfold vM at h4;rw[rI] at h4;simp only[Option.map_some,Option.getD_some] at h4;exact⟨_,wr,(z.tk j).bY,(z.tk j).val,dv,rI,by omega,by omega,(h.val j hj).1,(h.val j hj).2,rfl,rfl⟩
    ·exact same 6
 unfold qR;split
 ·unfold Ga;split
  ·exact same _
  ·rename_i h1
   have h1:(nO (bP s).length z.cn (z.tk j).dev).1=0:=Classical.byContradiction h1
   have Kq:=aJG h1
   obtain⟨d,hd⟩:∃d:Nat,(z.tk j).dev=d:=⟨(z.tk j).dev.toNat,by omega⟩
   rw[hd] at h1 Kq⊢;obtain⟨_,_,h2,h3,h4⟩:=aTm h1 (by have:=h.cnt d;have:=h.nn 0 (.inl rfl) d;have:=h.nn 1 (.inr (.inl rfl)) d;have:=h.nn 2 (.inr (.inr rfl)) d;omega);rw[h4,Int.toNat_natCast];refine⟨aCp hm (h.mU hj (by omega) (fun i=>?_) (by have:=h.nn j hj d;omega) (by omega)),Mk _ _ _,fun h=>absurd rfl h,fun _=>rfl,fun hp=>.inl hp⟩;dsimp only;rw[aEq]
   by_cases e:i=d
   ·subst e;simp
   ·rw[if_neg (by omega),if_neg e]
 ·split
  ·unfold Fe;split
   ·exact same _
   ·rename_i hin
    split
    ·exact same _
    ·rename_i h0
     split
     ·exact same _
     ·rename_i h1
      have h1:(kA (bP s).length z.cn (z.tk j).dev).1=0:=Classical.byContradiction h1
      have hin:bB s.aC.length (z.tk j).dev=true:=by simpa using hin
      have hin:=of_decide_eq_true hin
      obtain⟨d,hd⟩:∃d:Nat,(z.tk j).dev=d:=⟨(z.tk j).dev.toNat,by omega⟩
      rw[hd] at h1 h0 hin⊢;rw[Int.toNat_natCast] at h0⊢;obtain⟨_,_,h2,h3,h4⟩:=aS9 h1 (h.c7 d);rw[h4];refine⟨aCp hm (h.mU hj (by omega) (fun i=>?_) (by have:=h.nn j hj d;omega) (by have:=h.c7 d;omega)),Mk _ _ _,fun h=>absurd rfl h,fun _=>rfl,fun hp=>.inl hp⟩;dsimp only;rw[aEq]
      by_cases e:i=d
      ·subst e;simp;omega
      ·rw[if_neg (by omega),if_neg e]
  ·split
   ·exact acc false
   ·split
    ·exact acc true
    ·split
     ·unfold Eu;split
      ·exact same _
      ·rename_i h1
       refine⟨aCp hm (h.same _ ?_),fun _=>rfl,fun h=>absurd rfl h,fun _=>rfl,fun hp=>.inl hp⟩;unfold sE;split<;>rfl
     ·unfold Fa;split
      ·exact same _
      ·refine⟨aCp hm (h.same _ ?_),fun _=>rfl,fun h=>absurd rfl h,fun _=>rfl,fun hp=>.inl hp⟩;unfold sF;split<;>rfl
theorem RwB.end_{s:aD}{z:aV}(h:RwB s z){j:Nat}(hj:T3 j)(h2:∀i,T3 i→(z.tk i).st=2→i=j)(e r:Int):qU s (kE z j e r):=by
 have h1:=h.jQ hj (t:={z.tk j with st:=3,err:=e,res:=r}) rfl ⟨by show(0:Int)≤3;decide,by show(3:Int)≤3;decide⟩ (h.val j hj) (fun hh=>nN 3 1 hh)
 refine⟨⟨h1.wn,h1.len,h1.nn,h1.cnt,h1.c7,h1.call,h1.st,h1.val,h1.many,fun p hp=>by cases hp⟩,.inl ⟨rfl,fun i hi hst=>?_,rfl,rfl,rfl⟩⟩
 have hst:((z.jQ j {z.tk j with st:=3,err:=e,res:=r}).tk i).st=2:=hst
 rw[Gx hi hj] at hst;split at hst
 ·exact nN 3 2 hst
 ·rename_i hne
  exact hne (h2 i hi hst)
theorem aO6{z:aV}{i j:Nat}(hi:T3 i)(hj:T3 j):(kD z j).tk i=if i=j then {z.tk j with st:=2} else z.tk i:=Gx hi hj
theorem aT1{s:aD}(hm:s.made){z:aV}(h:qU s z)(hh:z.eW < 0)(x:aP){j:Nat}(hj:T3 j):qU s (pN s x z j).1∧z.aS=false∧((pN s x z j).1.aS=false→(pN s x z j).2=x)∧((pN s x z j).1.aS=true→∃(d:Nat) (wr:Bool) (rg v:Int) (dv:bO),s.aC[d]? =some dv∧0≤rg∧rg < dv.aO.length∧0≤v∧v < 4294967296∧(pN s x z j).1.id=x.aS∧(pN s x z j).2=wW x d wr rg v):=by
 obtain⟨_,hno,lV,hsp,hse⟩:z.eW= -1∧(∀j,T3 j→(z.tk j).st≠2)∧z.aS=false∧z.steps=[]∧z.sent=false:=by
  rcases h.eW with h1 | ⟨i,_,h1,_⟩
  ·exact h1
  ·omega
 have hb:RwB s (kD z j):=by
  have:=h.toRwB.jQ hj (t:={z.tk j with st:=2}) rfl ⟨by show(0:Int)≤2;decide,by show(2:Int)≤3;decide⟩ (h.val j hj) (fun hh=>nN 2 1 hh)
  exact⟨this.wn,this.len,this.nn,this.cnt,this.c7,this.call,this.st,this.val,this.many,this.Ex⟩
 have h2:∀i,T3 i→(((kD z j).tk i).st=2↔i=j):=fun i hi=>by
  rw[aO6 hi hj];split
  ·rename_i e;exact⟨fun _=>e,fun _=>rfl⟩
  ·rename_i e;exact⟨fun hh=>absurd hh (hno i hi),fun hh=>absurd hh e⟩
 have he:=aRI hm hb x hj (z.tk j).kind
 have hho:=aJc s x (kD z j) j (z.tk j).kind
 have aPR:(kD z j).aS=false:=lV
 unfold pN;dsimp only;generalize qR s x (kD z j) j (z.tk j).kind=r at he hho;split
 ·rename_i hne
  obtain⟨e1,e2⟩:=he.err hne;rw[e1,e2];exact⟨hb.end_ hj (fun i hi hst=>(h2 i hi).1 hst) _ _,lV,fun _=>rfl,fun hp=>by cases hp⟩
 ·have h3:∀i,T3 i→((r.2.1.tk i).st=2↔i=j):=fun i hi=>by rw[he.st i];exact h2 i hi
  split
  ·rename_i hc
   exact⟨he.b.end_ hj (fun i hi hst=>(h3 i hi).1 hst) _ _,lV,fun _=>he.x_ hc.1,fun hp=>by cases hp⟩
  ·rename_i hc
   refine⟨⟨he.b,.inr ⟨j,hj,hho,h3,fun hp hs=>hc ⟨hp,by rw[hs];rfl⟩⟩⟩,lV,he.x_,fun hp=>?_⟩;rcases he.po hp with h4 | h4
   ·rw[aPR] at h4;cases h4
   ·exact h4
theorem aTW{s:aD}{z:aV}{y:bZ}(h:qU s z)(hy:rP s y){j:Nat}(hj:T3 j)(hst:(z.tk j).st=2)(lV:z.aS=false):qU s (qS z y j).1∧rP s (qS z y j).2∧(qS z y j).1.aS=false:=by
 obtain⟨hh,h2,hne⟩:z.eW=(j:Int)∧(∀i,T3 i→((z.tk i).st=2↔i=j))∧z.steps≠[]:=by
  rcases h.eW with⟨_,h1,_⟩ | ⟨i,hi,h1,h2,h3⟩
  ·exact absurd hst (h1 j hj)
  ·obtain rfl:=(h2 j hj).1 hst;exact⟨h1,h2,h3 lV⟩
 unfold qS;split
 ·cases hr:oZ y 0 with
  | none=>exact⟨h,hy.read 0,lV⟩
  | some a =>
   dsimp only
   have hb:RwB s (sP z a):=by
    unfold sP;split
    ·exact⟨h.wn,h.len,h.nn,h.cnt,h.c7,h.call,h.st,h.val,h.many,fun p hp=>h.Ex p (List.mem_of_mem_tail hp)⟩
    ·exact⟨h.wn,h.len,h.nn,h.cnt,h.c7,h.call,h.st,h.val,h.many,h.Ex⟩
   have ht:∀i,(sP z a).tk i=z.tk i:=fun i=>by unfold sP;split<;>rfl
   have hhh:(sP z a).eW=z.eW:=by unfold sP;split<;>rfl
   have hpp:(sP z a).aS=z.aS:=by unfold sP;split<;>rfl
   split
   ·exact⟨hb.end_ hj (fun i hi hs=>by rw[ht] at hs;exact(h2 i hi).1 hs) _ _,hy.read 0,rfl⟩
   ·rename_i hl
    exact⟨⟨hb,.inr ⟨j,hj,hhh.trans hh,fun i hi=>by rw[ht];exact h2 i hi,fun _ hs=>hl (by rw[hs];rfl)⟩⟩,hy.read 0,hpp.trans lV⟩
 ·cases hs:z.steps with
  | nil=>exact absurd hs hne
  | cons p tl =>
   dsimp only;obtain⟨hk,hok⟩:=h.Ex p (by rw[hs];simp)
   have hu:wG (qH p z.many):=fun v hv=>by
    simp only[qH,List.mem_cons,List.not_mem_nil,or_false] at hv;rcases hv with rfl | rfl | rfl
    ·exact aOj _ _ _ _
    ·exact hok.id
    ·exact hok.v
   have Ap:=hy.send 0 hu (by simp[qH])
   split
   ·refine⟨⟨⟨h.wn,h.len,h.nn,h.cnt,h.c7,h.call,h.st,h.val,?_,fun q hq=>h.Ex q (by rw[hs];exact hq)⟩,.inr ⟨j,hj,hh,h2,fun _ hc=>by cases hc⟩⟩,Ap,lV⟩
    have:=h.many
    show 0≤(z.many+1) % 1024∧(z.many+1) % 1024 < 1024
    omega
   ·exact⟨h,Ap,lV⟩
theorem aMj{s:aD}{z:aV}(h:qU s z)(t k d r v:Int)(hv:0≤v∧v < 4294967296):qU s (vK z t k d r v).2∧(vK z t k d r v).2.aS=z.aS∧(vK z t k d r v).2.id=z.id:=by
 unfold vK;split
 ·exact⟨h,rfl,rfl⟩
 ·rename_i hin
  obtain⟨j,rfl,hj⟩:=Mu (t:=t) (by simpa using hin);rw[Int.toNat_natCast];split
  ·exact⟨h,rfl,rfl⟩
  ·rename_i h0
   have h0:(z.tk j).st=0:=Classical.byContradiction h0
   split
   ·exact⟨h,rfl,rfl⟩
   ·rename_i hk
    have hk:pF k:=Classical.byContradiction hk
    refine⟨⟨h.toRwB.jQ hj rfl ⟨by show(0:Int)≤1;decide,by show(1:Int)≤3;decide⟩ hv (fun _=>hk),?_⟩,rfl,rfl⟩
    have key:∀i,T3 i→(((z.jQ j {z.tk j with st:=1,kind:=k,dev:=d,bY:=r,val:=v}).tk i).st=2↔(z.tk i).st=2):=fun i hi=>by
     rw[Gx hi hj];split
     ·rename_i e;subst e
      rw[h0];exact⟨fun h=>nN 1 2 h,fun h=>nN 0 2 h⟩
     ·exact Iff.rfl
    rcases h.eW with⟨h1,h2,h3⟩ | ⟨i,hi,h1,h2,h3⟩
    ·exact .inl ⟨h1,fun i hi hs=>h2 i hi ((key i hi).1 hs),h3⟩
    ·exact .inr ⟨i,hi,h1,fun k hk=>(key k hk).trans (h2 k hk),h3⟩
theorem aRV{s:aD}{z:aV}(h:qU s z)(t:Int):qU s (nM z t).2∧(nM z t).2.aS=z.aS∧(nM z t).2.id=z.id:=by
 unfold nM;split
 ·exact⟨h,rfl,rfl⟩
 ·rename_i hin
  obtain⟨j,rfl,hj⟩:=Mu (t:=t) (by simpa using hin);rw[Int.toNat_natCast];split
  ·exact⟨h,rfl,rfl⟩
  ·rename_i h0
   have h0:(z.tk j).st=3:=Classical.byContradiction h0
   refine⟨⟨h.toRwB.jQ hj rfl ⟨by show(0:Int)≤0;decide,by show(0:Int)≤3;decide⟩ ⟨by show(0:Int)≤0;decide,by show(0:Int) < 4294967296;decide⟩ (fun h=>nN 0 1 h),?_⟩,rfl,rfl⟩
   have key:∀i,T3 i→(((z.jQ j {z.tk j with st:=0,kind:=0,dev:=0,bY:=0,val:=0,err:=0,res:=0}).tk i).st=2↔(z.tk i).st=2):=fun i hi=>by
    rw[Gx hi hj];split
    ·rename_i e;subst e
     rw[h0];exact⟨fun h=>nN 0 2 h,fun h=>nN 3 2 h⟩
    ·exact Iff.rfl
   rcases h.eW with⟨h1,h2,h3⟩ | ⟨i,hi,h1,h2,h3⟩
   ·exact .inl ⟨h1,fun i hi hs=>h2 i hi ((key i hi).1 hs),h3⟩
   ·exact .inr ⟨i,hi,h1,fun k hk=>(key k hk).trans (h2 k hk),h3⟩
theorem aTC{s:aD}{z:aV}(h:qU s z)(a:nE):qU s (Bm z a):=by
 unfold Bm;split
 ·exact h
 ·rename_i hp
  obtain⟨j,hj,hh,h2⟩:∃j:Nat,T3 j∧z.eW=(j:Int)∧∀i,T3 i→((z.tk i).st=2↔i=j):=by
   rcases h.eW with⟨_,_,h1,_⟩ | ⟨i,hi,h1,h2,_⟩
   ·exact absurd h1 hp
   ·exact⟨i,hi,h1,h2⟩
  have h3:∀e r,qU s (kE z z.eW.toNat e r):=fun e r=>by
   rw[hh,Int.toNat_natCast];exact h.toRwB.end_ hj (fun i hi hs=>(h2 i hi).1 hs) e r
  split
  ·exact h
  ·split
   ·exact h3 _ _
   ·exact h3 _ _
theorem aJX{s:aD}:∀(l:List nE) {z:aV},qU s z→qU s (xG z l)
 | [],_,h=>h
 | a::l,_,h=>aJX l (aTC h a)
theorem qU.po{s:aD}{z:aV}(h:qU s z):Pf z:=fun hp=>by
 rcases h.eW with⟨_,_,h1,_⟩ | ⟨i,hi,h1,_⟩
 ·rw[h1] at hp;cases hp
 ·exact⟨i,h1,hi⟩
theorem qU.go{s:aD}{z:aV}{y:bZ}(h:qU s z)(hy:FwB s y):aKA s z y:=by
 refine⟨h.rp,h.call,fun j hj hst=>?_,h.many,fun p hp=>(aEa (h.Ex p hp).1 h.many.1 h.many.2).1,fun a ha=>hy.ans ha⟩;rcases h.eW with⟨_,h1,_⟩ | ⟨i,hi,h1,h2,h3⟩
 ·exact absurd hst (h1 j hj)
 ·obtain rfl:=(h2 j hj).1 hst;exact⟨h1,h3⟩
theorem aMW{s:aD}:qU s (Jq s):=by
 have ht:∀j,T3 j→(Jq s).tk j=Ut:=by rintro j (rfl | rfl | rfl)<;>rfl
 have h0:∀i,hG Ut i=0:=fun i=>by
  match i with
  | 0 | 1 | 2 | 3 | 4 | 5=>rfl
  | n+6=>rfl
 refine⟨⟨aCG s [],fun j hj=>by rw[ht j hj];rfl,fun j hj i=>by rw[ht j hj,h0];decide,fun i=>?_,fun i=>?_,fun j hj h=>?_,fun j hj=>?_,fun j hj=>?_,⟨by show(0:Int)≤0;decide,by show(0:Int) < 1024;decide⟩,fun p hp=>by cases hp⟩,.inl ⟨rfl,fun j hj h=>?_,rfl,rfl,rfl⟩⟩
 ·rw[ht 0 (.inl rfl),ht 1 (.inr (.inl rfl)),ht 2 (.inr (.inr rfl)),h0];rfl
 ·show(0:Int)≤7
  decide
 ·rw[ht j hj] at h;exact nN 0 1 h
 ·rw[ht j hj];decide
 ·rw[ht j hj];decide
 ·rw[ht j hj] at h;exact nN 0 2 h
end
section
theorem aUK{w0:World}{R:List Piece}{H:List HP}{q:Piece}{A:Option Addr}{es:List (Int×Nat)}{j:Nat}{p:Int×Nat}(hq:q∈R)(hs:aI q 2 A es.length (es.flatMap Gf))(hj:es[j]? =some p):∃b off,A=some ⟨b,off,none⟩∧aQ w0 R H b (off+j*2) (Gf p):=by
 have hlt:=(List.getElem?_eq_some_iff.1 hj).1
 obtain⟨b,off,hA,hz,hc⟩:=aI.zT (rows:=es.map Gf) (sz:=2) (k:=j) (r:=Gf p) (n:=es.length) (by rw[←List.flatMap_def];exact hs) (fun r hr=>by
  obtain⟨x,_,rfl⟩:=List.mem_map.1 hr
  rfl) (by rw[List.getElem?_map,hj];rfl) hlt
 exact⟨b,off,hA,.of fun k v hv=>Rd.ro hq hz (hc k v hv)⟩
def iC(s:aD)(x:aP):Nat→aP×List nE
 | 0=>(x,[])
 | n+1=>((jN s (iC s x n).1 n).1,(iC s x n).2++(jN s (iC s x n).1 n).2.toList)
def oX(s:aD)(x:aP)(cZ:Int):aP×List nE:=(iL s (iC s x s.aC.length).1 cZ,(iC s x s.aC.length).2)
theorem Oh{s:aD}{x:aP}(hok:cK s x)(lG:Gp s x):∀n,cK s (iC s x n).1∧Gp s (iC s x n).1
 | 0=>⟨hok,lG⟩
 | n+1=>⟨aTH (Oh hok lG n).1 (Oh hok lG n).2 n,aTF (Oh hok lG n).2 n⟩
theorem aEU{s:aD}{x:aP}:∀n,(iC s x n).2.length≤n
 | 0=>Nat.le_refl _
 | n+1=>by
  have:=aEU (s:=s) (x:=x) n
  show((iC s x n).2++_).length≤_
  rw[List.length_append];cases(jN s (iC s x n).1 n).2<;>simp<;>omega
theorem aBS{s:aD}{x:aP}{i:Nat}(h:(x.wt[i]?).join=none):jN s x i=(x,none):=by
 unfold jN;rw[h]
theorem aET{s:aD}{x:aP}{i:Nat}{t:jC}(hok:cK s x)(hi:i < s.aC.length)(h:(x.wt[i]?).join=some t):∃a,(jN s x i).2=some a∧(jN s x i).1.wt=x.wt.set i none:=by
 obtain⟨d,hd⟩:=get_some hi;obtain⟨p,hp⟩:=get_some (l:=x.dv) (i:=i) (by have:=hok.dv;omega);unfold jN;rw[h,hd,hp];dsimp only;split<;>exact⟨_,rfl,rfl⟩
theorem aTI{s:aD}{x:aP}(hok:cK s x)(i j:Nat)(h:j=i∨(x.wt[j]?).join=none):((jN s x i).1.wt[j]?).join=none:=by
 cases hq:(x.wt[i]?).join with
 | none=>
  rw[aBS hq];rcases h with rfl | h
  ·exact hq
  ·exact h
 | some t =>
  have hlt:i < s.aC.length:=by
   have:=hok.wt
   rcases Nat.lt_or_ge i x.wt.length with h | h
   ·omega
   ·rw[List.getElem?_eq_none h] at hq;cases hq
  obtain⟨a,_,h2⟩:=aET hok hlt hq;rw[h2];cases hj:((x.wt.set i none)[j]?).join with
  | none=>rfl
  | some t' =>
   have h3:=aCR hj
   rcases h with rfl | h
   ·rw[List.getElem?_set] at hj;simp at hj;split at hj<;>cases hj
   ·rw[h] at h3;cases h3
theorem aJW{s:aD}{x:aP}(hok:cK s x)(lG:Gp s x):∀n j,j < n→((iC s x n).1.wt[j]?).join=none
 | 0,_,h=>absurd h (by omega)
 | n+1,j,h=>aTI (Oh hok lG n).1 n j (by
  by_cases hj:j=n
  ·exact .inl hj
  ·exact .inr (aJW hok lG n j (by omega)))
theorem aJT{s:aD}{x:aP}(hok:cK s x)(lG:Gp s x)(i:Nat):iQ (iC s x s.aC.length).1.wt i=0:=by
 have h:=(Oh hok lG s.aC.length).1.wt
 unfold iQ;rcases Nat.lt_or_ge i s.aC.length with hi | hi
 ·rw[aJW hok lG _ i hi];rfl
 ·rw[List.getElem?_eq_none (by omega)];rfl
theorem aQt(L:HL)(s:aD)(x0:aP)(w:World)(hH:s.dI)(aW:iO L s)(aDT:cK s x0)(aHW:Gp s x0)(cZ:Int)(hd:0≤cZ∧cZ < 4294967296)(F:Nat→Prop)(hp:(dU L s x0).sat F w)(hF:∀b,F b→b < w.heap.size):
  Cz 22 #[.pointer (some ⟨L.h,0,none⟩),.int .u32 cZ] w (fun y w'=>∃a:Option Addr×Nat,y=.returned (.slice a.1 (oX s x0 cZ).2.length a.2)∧True∧∃F',(HP.many [dU L s (oX s x0 cZ).1,HP.own 143 4 (.slice a.1 (oX s x0 cZ).2.length a.2) (oX s x0 cZ).2.length ((oX s x0 cZ).2.flatMap nE.cells)]).sat F' w'∧gX w w' F F'):=by
 have lX:=hH.t.nv
 have hnd:=hH.t.nd
 have hls:=aW.ds
 refine dJ func22 ntmps22 hp hF ?_;generalize cM:(⟨w,fun b=>b < w.heap.size∧¬F b⟩:Piece)=R0;refine aA ?_;refine aU (fun w1 t=>Dj L s x0 w1 (t.nL 0 rfl aW aDT)) ?_;refine aA ?_;refine kd (bN rfl (rO 0 rfl rfl)) ?_;refine aA ?_;refine iN 143 4 ?_;refine bL [(24,iv 0),(23,iv s.aC.length),(5,sn),(0,.pointer (some ⟨L.h,0,none⟩)),(1,.int .u32 cZ)] ?_;refine eJ (fun m e R H=>∃(i:Nat) (A:Option Addr) (c:Nat),i≤s.aC.length∧m=s.aC.length - i∧e=[(24,iv i),(23,iv s.aC.length),(5,.slice A (iC s x0 i).2.length c),(0,.pointer (some ⟨L.h,0,none⟩)),(1,.int .u32 cZ)]∧R=[R0]∧H=[HP.own 143 4 (.slice A (iC s x0 i).2.length c) (iC s x0 i).2.length ((iC s x0 i).2.flatMap nE.cells),dU L s (iC s x0 i).1]) s.aC.length ⟨0,none,0,by omega,rfl,rfl,rfl,rfl⟩ fun m e R H hI=>?_;obtain⟨i,A0,c0,hi,rfl,rfl,rfl,rfl⟩:=hI;obtain⟨Kk,aBi⟩:=Oh aDT aHW i
 have hlen:=aEU (s:=s) (x:=x0) i
 refine aA ?_;refine aG rfl (fun hlt=>?_) (fun hge=>?_)
 ·have hlt:i < s.aC.length:=by omega
  have dW:iC s x0 (i+1)=((jN s (iC s x0 i).1 i).1,(iC s x0 i).2++(jN s (iC s x0 i).1 i).2.toList):=rfl
  generalize hr:iC s x0 i=r at Kk aBi hlen dW⊢;obtain⟨xi,l⟩:=r;dsimp only at Kk aBi hlen dW⊢;cases hj:(xi.wt[i]?).join with
  | none=>
   rw[aBS hj] at dW;refine aA ?_;refine aU (fun w1 t=>aQ1 L s xi i hlt (by unfold iQ;rw[hj];rfl) w1 (t.nL 1 rfl aW Kk)) ?_;refine aA ?_;refine bX fun g1=>?_;refine aA ?_;refine aY [1,2] rfl (by decide) (fun _ h=>h) ?_;refine bL [(24,iv (i+1:Nat)),(23,iv s.aC.length),(5,.slice A0 l.length c0),(0,.pointer (some ⟨L.h,0,none⟩)),(1,.int .u32 cZ)] ?_;exact iD (s.aC.length - (i+1)) (by omega) ⟨i+1,A0,c0,hlt,rfl,by rw[dW];simp,rfl,by rw[dW];simp⟩
  | some t=>
   obtain⟨d,dF⟩:=get_some hlt;obtain⟨a,ha,_⟩:=aET Kk hlt hj;obtain⟨Tf,Zn,Oj,Ll⟩:=a;rw[ha] at dW;refine aA ?_;refine Rb (v:=.tuple #[.agg #[iv Tf,iv Zn,.bool Oj,.int .u32 Ll],.bool true]) 1 (dU L s (jN s xi i).1) (fun w1 F1 st h1 h2 h3=>aQ0 L s xi w1 hH aW Kk aBi i d dF t hj _ ha F1 h1 h2) ?_;dsimp only[List.set];refine aA ?_;refine bX fun g1=>?_;refine aA ?_;refine eK fun g4=>?_;refine aA ?_;refine gJ 2 4 24 1 (n':=l.length+1) (el:=143) (by kernel_rfl) (by kernel_rfl) (by decide) rfl rfl rfl (nS 0 rfl rfl) (by simp[Value.oneCell']) rfl (by omega) (by omega) (by decide) fun An cn=>?_;dsimp only[List.set];refine aA ?_;refine aY [2,3] rfl (by decide) (fun _ h=>h) ?_;refine bL [(24,iv (i+1:Nat)),(23,iv s.aC.length),(5,.slice An (l.length+1) cn),(0,.pointer (some ⟨L.h,0,none⟩)),(1,.int .u32 cZ)] ?_;exact iD (s.aC.length - (i+1)) (by omega) ⟨i+1,An,cn,hlt,rfl,by rw[dW];simp,rfl,by rw[dW];simp[nE.cells]⟩
 obtain rfl:i=s.aC.length:=by omega
 have lG:=aJT aDT aHW
 have aDZ:oX s x0 cZ=(iL s (iC s x0 s.aC.length).1 cZ,(iC s x0 s.aC.length).2):=rfl
 generalize hr:iC s x0 s.aC.length=r at Kk aBi hlen lG aDZ⊢;obtain⟨x,l⟩:=r;dsimp only at Kk lG hlen aDZ⊢;rw[aDZ]
 have hok:=Kk
 have iY:=hok.dv
 refine aY [1,0] rfl (by decide) (fun _ h=>h) ?_;generalize hT:HP.own 143 4 (.slice A0 l.length c0) l.length (l.flatMap nE.cells)=T;generalize hTv:Value.slice A0 l.length c0=tv;refine aA ?_;refine kd (bN rfl (rO 0 rfl rfl)) ?_;refine aA ?_
 have Kj:zZ x cZ 0=x.dv:=Qr _ _
 refine bL [(44,iv 0),(43,iv s.aC.length),(42,.slice L.A s.aC.length L.c),(5,tv),(0,.pointer (some ⟨L.h,0,none⟩)),(1,.int .u32 cZ)] ?_;refine eJ (fun m e R H=>∃i:Nat,i≤s.aC.length∧m=s.aC.length - i∧e=[(44,iv i),(43,iv s.aC.length),(42,.slice L.A s.aC.length L.c),(5,tv),(0,.pointer (some ⟨L.h,0,none⟩)),(1,.int .u32 cZ)]∧R=[R0]∧H=[dU L s {x with dv:=zZ x cZ i},T]) s.aC.length ⟨0,by omega,rfl,rfl,rfl,by rw[Kj]⟩ fun m e R H hI=>?_;obtain⟨i,hi,rfl,rfl,rfl,rfl⟩:=hI
 have nW:=aDy hH hok cZ i
 refine aA ?_;refine aG rfl (fun hlt=>?_) (fun hge=>?_)
 ·have hlt:i < s.aC.length:=by omega
  obtain⟨d,dF⟩:=get_some hlt;obtain⟨l,iT⟩:=get_some (l:=L.ds) (i:=i) (by omega);obtain⟨p,gM⟩:=get_some (l:=x.dv) (i:=i) (by omega)
  have lW:(zZ x cZ i)[i]? =some p:=Qt gM
  have hstep:(zZ x cZ i).set i (p.1,uG p.2 (decide (0 < iQ x.wt i)) (Is cZ i))=zZ x cZ (i+1):=Qs (f:=fun i p=>(p.1,uG p.2 (decide (0 < iQ x.wt i)) (Is cZ i))) gM
  have hw0:decide (0 < iQ x.wt i)=false:=by rw[lG i];rfl
  rw[hw0] at hstep;refine Oq 0 rfl aW nW (by omega) fun b off hA=>?_;refine aA ?_;refine kd (dat i (off+i*6) (hx:=by rw[←hA];rfl)) ?_;refine kd (pM rfl (aQ.dev 0 rfl aW nW hA dF iT rfl)) ?_;refine bX fun g1=>?_;refine aA ?_;refine jO [0,1,3,4,5,11,12,13] ?_;refine bT 2 ?_;refine bT 6 ?_;refine bT 9 ?_;refine bT 10 ?_;refine aJ 0 ?_;refine aJ 1 ?_;refine aJ 3 ?_;refine aJ 4 ?_;refine aJ 5 ?_ (dH:=bN rfl (rO 1 rfl rfl));refine aJ 11 ?_ (dH:=aJl rfl rfl (c:=cZ.fdiv (2 ^ min i 32)) (by omega) rfl);refine aJ 12 ?_ (dH:=aJs (c:=aBU (cZ.fdiv (2 ^ min i 32)) 1) rfl rfl (fun _=>rfl) (by simp));refine aJ 13 ?_;refine aL 7 ?_;refine aU (fun w1 t=>aJK L.B (kK s) x.wt x.aS i (by rw[Hh];exact hlt) w1 (t.nL 1 rfl aW nW).bus) ?_;refine bH ?_;refine aL 8 ?_;refine bK ?_;refine bH ?_;refine aL 14 ?_;refine Tj 1 i rfl dF iT lW ?_;dsimp only[List.set];refine bF 0 1 ?_;refine dR 0 (vB l.2 (uG p.2 (decide ((iQ x.wt i:Int)>0)) (Is cZ i))) (fun w1 F1 t h1 h2 h3=>aNS _ _ h1 h2) ?_;refine aN 0 1 ?_;refine Tt 1 i rfl dF iT lW (p':=(p.1,uG p.2 (decide ((iQ x.wt i:Int)>0)) (Is cZ i))) ?_;dsimp only[List.set]
  have hw1:decide ((iQ x.wt i:Int)>0)=false:=by rw[lG i];rfl
  rw[hw1,hstep];refine cT ?_;refine fE ?_;refine aA ?_;refine aY [1,2] rfl (by decide) (fun _ h=>h) ?_;exact dZ (s.aC.length - (i+1)) ⟨i+1,hlt,rfl,rfl,rfl,rfl⟩
 obtain rfl:i=s.aC.length:=by omega
 have aDS:=aDy hH hok cZ s.aC.length
 generalize rI:zZ x cZ s.aC.length=Dt at aDS⊢;refine aA ?_;refine kd (bN rfl (rO 0 rfl rfl)) ?_;refine aA ?_;refine bF 0 1 ?_;refine dR 0 (rM L.T s (lS s x.ck)) (fun w1 F1 t h1 h2 h3=>aSP L.T s x.ck hH aW.fa hok.ck w1 F1 h1 h2) ?_;refine aN 0 1 ?_
 change XK _ _ _ _ _ [dU L s {x with ck:=lS s x.ck,dv:=Dt},T]
 refine aA ?_;refine kd (bN rfl (rO 0 rfl rfl)) ?_;refine aA ?_;refine bF 0 2 ?_;refine xR (α:=Option Addr×Nat) 0 (f:=59) (fi:=[]) (ca:=[]) (fun a=>.slice a.1 (lY x.dm s.domains.length).length a.2) (fun a=>HP.many [wM L.G s (oU x.dm),HP.own 151 2 (.slice a.1 (lY x.dm s.domains.length).length a.2) (lY x.dm s.domains.length).length ((lY x.dm s.domains.length).flatMap Gf)]) (fun _=>True) (by kernel_rfl) rfl rfl rfl (by decide) (fun w1 F1 t h1 h2 h3=>aOa L.G s x.dm hok.dm (by omega) w1 F1 h1 h2) ?_;rintro⟨Ae,ce⟩ _;dsimp only[List.set];refine bF 0 0 ?_;refine aN 1 2 ?_;refine bF 0 1 ?_;refine dP [] [0] [2,3] (by simp) rfl (by decide) (by decide) fun q hq _ hfr=>?_;obtain⟨F2,Cq,Ch⟩:=hq 0 _ (by simp) rfl
 have hev:aI q 2 Ae (lY x.dm s.domains.length).length ((lY x.dm s.domains.length).flatMap Gf):=aI.own ⟨F2,Cq,Ch⟩
 have mR:cK s {x with ck:=lS s x.ck,dm:=oU x.dm,dv:=Dt}:=⟨aCO hH hok.ck,aCN hok.dm,hok.ln,aDS.dv,aDS.each,hok.wt⟩
 have hel:(lY x.dm s.domains.length).length≤1000:=Nat.le_trans (aJa x.dm s.domains.length) (by omega)
 generalize hes:lY x.dm s.domains.length=es at hev hel⊢
 change XK _ _ _ _ _ [dU L s {x with ck:=lS s x.ck,dm:=oU x.dm,dv:=Dt},T]
 refine aA ?_;refine bL [(76,iv 0),(75,iv es.length),(74,.slice Ae es.length ce),(5,tv),(0,.pointer (some ⟨L.h,0,none⟩))] ?_;refine eJ (fun m e R H=>∃j:Nat,j≤es.length∧m=es.length - j∧e=[(76,iv j),(75,iv es.length),(74,.slice Ae es.length ce),(5,tv),(0,.pointer (some ⟨L.h,0,none⟩))]∧R=[q,R0]∧H=[dU L s {x with ck:=lS s x.ck,dm:=oU x.dm,dv:=(es.take j).foldl (tA s) Dt},T]) es.length ⟨0,by omega,rfl,rfl,rfl,rfl⟩ fun m e R H hI=>?_;obtain⟨j,hj,rfl,rfl,rfl,rfl⟩:=hI
 have Kl:cK s {x with ck:=lS s x.ck,dm:=oU x.dm,dv:=(es.take j).foldl (tA s) Dt}:=aEt hH (es.take j) _ mR
 refine aA ?_;refine aG rfl (fun hlt=>?_) (fun hge=>?_)
 ·have hlt:j < es.length:=by omega
  obtain⟨p,gM⟩:=get_some hlt
  have dW:(es.take (j+1)).foldl (tA s) Dt=tA s ((es.take j).foldl (tA s) Dt) p:=by
   rw[List.take_add_one,gM,List.foldl_append];rfl
  generalize hx3:({x with ck:=lS s x.ck,dm:=oU x.dm,dv:=(es.take j).foldl (tA s) Dt}:aP)=x3 at Kl
  have hx4:({x with ck:=lS s x.ck,dm:=oU x.dm,dv:=(es.take (j+1)).foldl (tA s) Dt}:aP)={x3 with dv:=tA s x3.dv p}:=by rw[dW,←hx3]
  have aVf:=Kl.dv
  obtain⟨be,aOB,hAe,hrd⟩:=aUK (w0:=w) (R:=[q,R0]) (H:=[dU L s x3,T]) (by simp) hev gM;obtain⟨kn,dm⟩:=p;refine aA ?_;refine kd (dat j (aOB+j*2) (hx:=by rw[←hAe];rfl)) ?_;refine kd (pM rfl hrd) ?_;refine bX fun g1=>?_;refine aA ?_;refine aU (fun w1 t=>aQy kn w1) ?_
  by_cases hk:kn=115∨kn=114∨kn=108∨kn=110
  ·obtain⟨f,Xm,hcb,Be⟩:=aS3 hk;rw[Xm];refine aA ?_;refine kd (aJr rfl (.inr ⟨⟨_,_,_,rfl⟩,rfl⟩)) ?_;refine aA ?_;refine kd (bN rfl (rO 1 rfl rfl)) ?_;refine aA ?_
   have hm0:Cw s x3.dv (kn,dm) 0=x3.dv:=Qr _ _
   refine bL [(90,iv 0),(89,iv s.aC.length),(88,.slice L.A s.aC.length L.c),(13,.func (.func f) #[] #[]),(12,pt g1),(76,iv j),(75,iv es.length),(74,.slice Ae es.length ce),(5,tv),(0,.pointer (some ⟨L.h,0,none⟩))] ?_;refine eJ (fun m e R H=>∃i:Nat,i≤s.aC.length∧m=s.aC.length - i∧e=[(90,iv i),(89,iv s.aC.length),(88,.slice L.A s.aC.length L.c),(13,.func (.func f) #[] #[]),(12,pt g1),(76,iv j),(75,iv es.length),(74,.slice Ae es.length ce),(5,tv),(0,.pointer (some ⟨L.h,0,none⟩))]∧R=[q,R0]∧H=[HP.aE g1 151 [.int .u8 kn,iv (dm:Int)],dU L s {x3 with dv:=Cw s x3.dv (kn,dm) i},T]) s.aC.length ⟨0,by omega,rfl,rfl,rfl,by rw[hm0];rfl⟩ fun m e R H hI=>?_;obtain⟨i,hi,rfl,rfl,rfl,rfl⟩:=hI
   have nW:=aHC hH Kl (kn,dm) i
   refine aA ?_;refine aG rfl (fun hlt=>?_) (fun hge=>?_)
   ·have hlt:i < s.aC.length:=by omega
    obtain⟨d,dF⟩:=get_some hlt;obtain⟨l,iT⟩:=get_some (l:=L.ds) (i:=i) (by omega);obtain⟨p,gM⟩:=get_some (l:=x3.dv) (i:=i) (by omega)
    have lW:(Cw s x3.dv (kn,dm) i)[i]? =some p:=Qt gM
    have hstep:(Cw s x3.dv (kn,dm) i).set i (Gi s (kn,dm) i p)=Cw s x3.dv (kn,dm) (i+1):=Qs (f:=Gi s (kn,dm)) gM
    have hfo:=(nW.each i d p dF lW).1
    refine Oq 1 rfl aW nW (by omega) fun b off hA=>?_;refine aA ?_;refine kd (dat i (off+i*6) (hx:=by rw[←hA];rfl)) ?_;refine kd (pM rfl (aQ.dev 1 rfl aW nW hA dF iT rfl)) ?_;refine bX fun g2=>?_;refine aA ?_;refine aG rfl (fun he=>?_) (fun he=>?_)
    ·have nK:Gi s (kn,dm) i p=(Iv kn d p.1,p.2):=by
      unfold Gi;rw[dF];exact if_pos he
     refine aA ?_;refine Tj 2 i rfl dF iT lW ?_;dsimp only[List.set];refine bF 0 0 ?_;refine aBf 0 (fi:=[]) (ca:=[]) (iF l.1 d (Iv kn d p.1)) (fun w1 F1 t h1 h2 h3=>by simpa using Be l.1 d p.1 (by have:=(hH.t.aC i d dF).2.2.2.2.2.2.2.2.1;omega) hfo w1 F1 h1 h2) ?_ (hf:=hcb);dsimp only[List.set];refine aN 0 0 ?_;refine Tt 2 i rfl dF iT lW (p':=(Iv kn d p.1,p.2)) ?_;dsimp only[List.set];rw[←nK,hstep];refine aA ?_;refine aY [1,2,3] rfl (by decide) (fun _ h=>h) ?_;exact dZ (s.aC.length - (i+1)) ⟨i+1,hlt,rfl,rfl,rfl,rfl⟩
    ·have nK:Gi s (kn,dm) i p=p:=by
      unfold Gi;rw[dF];exact if_neg he
     rw[nK,yF lW] at hstep;rw[hstep];refine aA ?_;refine aY [1,2,3] rfl (by decide) (fun _ h=>h) ?_;exact dZ (s.aC.length - (i+1)) ⟨i+1,hlt,rfl,rfl,rfl,rfl⟩
   obtain rfl:i=s.aC.length:=by omega
   refine aA ?_;refine aY [1,2] rfl (by decide) (fun _ h=>h) ?_;refine bL [(76,iv (j+1:Nat)),(75,iv es.length),(74,.slice Ae es.length ce),(5,tv),(0,.pointer (some ⟨L.h,0,none⟩))] ?_;exact iD (es.length - (j+1)) (by omega) ⟨j+1,by omega,rfl,rfl,rfl,by rw[hx4];rfl⟩
  ·have Xm:Iu kn=.nilFunc:=by
    rw[Iu,if_neg (by omega),if_neg (by omega),if_neg (by omega)]
   rw[Xm];refine aA ?_;refine kd (aJr rfl (.inl ⟨rfl,rfl⟩)) ?_;refine aA ?_;refine aY [1,2] rfl (by decide) (fun _ h=>h) ?_;refine bL [(76,iv (j+1:Nat)),(75,iv es.length),(74,.slice Ae es.length ce),(5,tv),(0,.pointer (some ⟨L.h,0,none⟩))] ?_;exact iD (es.length - (j+1)) (by omega) ⟨j+1,by omega,rfl,rfl,rfl,by rw[hx4,aOU hk,←hx3]⟩
 obtain rfl:j=es.length:=by omega
 rw[List.take_length];refine aA ?_;refine kd (bN rfl (rO 0 rfl rfl)) ?_;refine aA ?_;refine bF 0 3 ?_;refine xR (α:=Option Addr×Nat×Nat) 0 (f:=61) (fi:=[]) (ca:=[]) (fun a=>.slice a.1 a.2.1 a.2.2) (fun _=>qX L.R s (Et x.ln)) (fun _=>True) (by kernel_rfl) rfl rfl rfl (by decide) (fun w1 F1 t h1 h2 h3=>aML L.R s x.ln hH hok.ln w1 F1 h1 h2) ?_;rintro _ _;dsimp only[List.set];refine aN 0 3 ?_
 change XK _ _ _ _ _ [dU L s {x with ck:=lS s x.ck,dm:=oU x.dm,ln:=Et x.ln,dv:=es.foldl (tA s) Dt},T]
 have xA:({x with ck:=lS s x.ck,dm:=oU x.dm,ln:=Et x.ln,dv:=es.foldl (tA s) Dt}:aP)=iL s x cZ:=by rw[iL,rI,hes]
 rw[xA];refine aA ?_;subst cM;subst hT;subst hTv;refine nA ?_;exact mZ rfl rfl fun w1 t=>⟨(A0,c0),rfl,trivial,t.turns hF (by simp) (i:=0) rfl⟩
end
section
structure dN where
 z:aV
 y:bZ
 x:aP
def dN.start(m:dN)(t k d r v:Int):dN:=⟨(vK m.z t k d r v).2,m.y,m.x⟩
def dN.done(m:dN)(t:Int):dN:=⟨(nM m.z t).2,m.y,m.x⟩
def dN.step(s:aD)(m:dN)(t:Int):dN:=⟨(Ew s m.z m.y m.x t).1,(Ew s m.z m.y m.x t).2.1,(Ew s m.z m.y m.x t).2.2⟩
def dN.eY(s:aD)(m:dN):dN:=⟨m.z,(lD s m.x m.y).1,(lD s m.x m.y).2⟩
def dN.tick(s:aD)(m:dN)(cZ:Int):dN:=⟨xG m.z (oX s m.x cZ).2,m.y,(oX s m.x cZ).1⟩
structure fB(s:aD)(n:Nat)(m:dN):Prop where
 sQ:qU s m.z
 fw:rP s m.y
 hw:cK s m.x
 wt:Gp s m.x
 po:0≤m.x.aS∧m.x.aS≤n
 w0:m.z.aS=false→∀i:Nat,(m.x.wt[i]?).join=none
 w1:m.z.aS=true→∃(i:Nat) (t:jC),i < s.aC.length∧(m.x.wt[i]?).join=some t∧t.id=m.z.id∧∀k:Nat,k≠i→(m.x.wt[k]?).join=none
section
variable{s:aD}{n:Nat}{m:dN}
theorem fB.le{k:Nat}(h:fB s n m)(hk:n≤k):fB s k m:=⟨h.sQ,h.fw,h.hw,h.wt,by have:=h.po;omega,h.w0,h.w1⟩
theorem fB.start(h:fB s n m)(t k d r v:Int)(hv:0≤v∧v < 4294967296):fB s n (m.start t k d r v):=by
 obtain⟨h1,h2,h3⟩:=aMj h.sQ t k d r v hv;refine⟨h1,h.fw,h.hw,h.wt,h.po,fun hp=>h.w0 (h2.symm.trans hp),fun hp=>?_⟩
 have h4:=h.w1 (h2.symm.trans hp)
 rwa [←h3] at h4
theorem fB.done(h:fB s n m)(t:Int):fB s n (m.done t):=by
 obtain⟨h1,h2,h3⟩:=aRV h.sQ t;refine⟨h1,h.fw,h.hw,h.wt,h.po,fun hp=>h.w0 (h2.symm.trans hp),fun hp=>?_⟩
 have h4:=h.w1 (h2.symm.trans hp)
 rwa [←h3] at h4
theorem fB.eY(hm:s.made)(h:fB s n m):fB s n (m.eY s):=by
 obtain⟨h1,h2,h3,h4⟩:=h.fw.next hm.dI h.hw;refine⟨h.sQ,h1,h2,fun i d t hd ht=>h.wt i d t hd (by rw[←h3];exact ht),by rw[show(m.eY s).x.aS=m.x.aS from h4];exact h.po,fun hp i=>?_,fun hp=>?_⟩
 ·show((lD s m.x m.y).2.wt[i]?).join=none
  rw[h3];exact h.w0 hp i
 ·show ∃i t,i < s.aC.length∧((lD s m.x m.y).2.wt[i]?).join=some t∧t.id=m.z.id∧∀k:Nat,k≠i→((lD s m.x m.y).2.wt[k]?).join=none
  rw[h3];exact h.w1 hp
theorem fB.idle(h:fB s n m)(hp:m.z.aS=false)(hn:n≤1000000000):HwP s m.x:=⟨h.hw,h.w0 hp,by have:=h.po;omega⟩
theorem fB.free(h:fB s n m)(hh:m.z.eW < 0):m.z.aS=false:=by
 rcases h.sQ.eW with⟨_,_,h1,_⟩ | ⟨i,_,h1,_⟩
 ·exact h1
 ·omega
theorem fB.step(hm:s.made)(h:fB s n m)(t:Int):fB s (n+1) (m.step s t):=by
 have same:fB s (n+1) ⟨m.z,m.y,m.x⟩:=h.le (by omega)
 unfold dN.step Ew;split
 ·exact same
 ·rename_i hin
  obtain⟨j,rfl,hj⟩:=Mu (t:=t) (by simpa using hin);rw[Int.toNat_natCast];split
  ·split
   ·rename_i hh
    have hp:=h.free hh
    have hw0:=h.w0 hp
    obtain⟨h1,h2,h3,h4⟩:=aT1 hm h.sQ hh m.x hj;dsimp only;generalize pN s m.x m.z j=r at h1 h3 h4;obtain⟨z',x'⟩:=r;dsimp only at h1 h3 h4⊢;cases hp':z'.aS with
    | false=>
     cases h3 hp';exact⟨h1,h.fw,h.hw,h.wt,by have:=h.po;dsimp only;omega,fun _=>hw0,fun hc=>by dsimp only at hc;rw[hp'] at hc;cases hc⟩
    | true =>
     obtain⟨d,wr,rg,v,dv,rI,r0,r1,v0,v1,hid,rfl⟩:=h4 hp'
     have hlt:=(List.getElem?_eq_some_iff.1 rI).1
     have vR:=h.hw.wt
     have fK:∀k:Nat,(((m.x.wt.set d (some ⟨m.x.aS,wr,rg,v⟩))[k]?).join)=if k=d then some ⟨m.x.aS,wr,rg,v⟩ else none:=fun k=>by
      rw[List.getElem?_set]
      by_cases e:d=k
      ·subst e;rw[if_pos rfl,if_pos (by omega),if_pos rfl];rfl
      ·rw[if_neg e,if_neg (fun hh=>e hh.symm)];exact hw0 k
     refine⟨h1,h.fw,aAz h.hw d _ _,fun i e t he ht=>?_,?_,fun hc=>?_,fun _=>⟨d,⟨m.x.aS,wr,rg,v⟩,hlt,?_,hid.symm,fun k hk=>?_⟩⟩
     ·have Hp:((m.x.wt.set d (some ⟨m.x.aS,wr,rg,v⟩))[i]?).join=some t:=ht
      rw[fK] at Hp
      by_cases e1:i=d
      ·rw[if_pos e1] at Hp;cases Hp;rw[e1,rI] at he;cases he;exact⟨r0,r1,v0,v1⟩
      ·rw[if_neg e1] at Hp;cases Hp
     ·have:=h.po
      show 0≤m.x.aS+1∧m.x.aS+1≤((n+1:Nat):Int)
      omega
     ·dsimp only at hc;rw[hp'] at hc;cases hc
     ·show((m.x.wt.set d (some ⟨m.x.aS,wr,rg,v⟩))[d]?).join=_
      rw[fK,if_pos rfl]
     ·show((m.x.wt.set d (some ⟨m.x.aS,wr,rg,v⟩))[k]?).join=_
      rw[fK,if_neg hk]
   ·exact same
  ·split
   ·rename_i hst
    split
    ·rename_i hp
     obtain⟨h1,h2,h3⟩:=aTW h.sQ h.fw hj hst hp;exact⟨h1,h2,h.hw,h.wt,by have:=h.po;dsimp only;omega,fun _=>h.w0 hp,fun hc=>by dsimp only at hc;rw[h3] at hc;cases hc⟩
    ·exact same
   ·exact same
theorem aBT{x:aP}:∀n:Nat,(∀k,k < n→(x.wt[k]?).join=none)→iC s x n=(x,[])
 | 0,_=>rfl
 | n+1,h=>by
  have ih:=aBT n fun k hk=>h k (by omega)
  have hx:=aBS (s:=s) (h n (by omega))
  show((jN s (iC s x n).1 n).1,(iC s x n).2++(jN s (iC s x n).1 n).2.toList)=_
  rw[ih];dsimp only;rw[hx];rfl
theorem aJV{x:aP}(hok:cK s x){i:Nat}{t:jC}(hi:i < s.aC.length)(ht:(x.wt[i]?).join=some t)(ho:∀k:Nat,k≠i→(x.wt[k]?).join=none):
  ∃a,(jN s x i).2=some a∧a.id=t.id∧a.dev=i∧∀d,iC s x (i+1+d)=((jN s x i).1,[a]):=by
 obtain⟨a,ha,lG⟩:=aET hok hi ht;refine⟨a,ha,?_,?_,fun d=>?_⟩
 ·obtain⟨d,hd⟩:=get_some hi;obtain⟨p,hp⟩:=get_some (l:=x.dv) (i:=i) (by have:=hok.dv;omega);unfold jN at ha;rw[ht,hd,hp] at ha;dsimp only at ha;split at ha<;>cases ha<;>rfl
 ·obtain⟨d,hd⟩:=get_some hi;obtain⟨p,hp⟩:=get_some (l:=x.dv) (i:=i) (by have:=hok.dv;omega);unfold jN at ha;rw[ht,hd,hp] at ha;dsimp only at ha;split at ha<;>cases ha<;>rfl
 ·induction d with
  | zero=>
   show((jN s (iC s x i).1 i).1,(iC s x i).2++(jN s (iC s x i).1 i).2.toList)=_
   rw[aBT i fun k hk=>ho k (by omega)];dsimp only;rw[ha];rfl
  | succ d ih =>
   show((jN s (iC s x (i+1+d)).1 (i+1+d)).1,(iC s x (i+1+d)).2++(jN s (iC s x (i+1+d)).1 (i+1+d)).2.toList)=_
   rw[ih];dsimp only
   have hx:jN s (jN s x i).1 (i+1+d)=((jN s x i).1,none):=aBS (by
    rw[lG,List.getElem?_set,if_neg (by omega)]
    exact ho _ (by omega))
   rw[hx];rfl
theorem fB.ans(h:fB s n m)(cZ:Int):(m.z.aS=false→(oX s m.x cZ).2=[])∧(m.z.aS=true→∃a,(oX s m.x cZ).2=[a]∧a.id=m.z.id):=by
 refine⟨fun hp=>?_,fun hp=>?_⟩
 ·show(iC s m.x s.aC.length).2=[]
  rw[aBT _ fun k _=>h.w0 hp k]
 ·obtain⟨i,t,hi,ht,hid,ho⟩:=h.w1 hp;obtain⟨a,_,ha,_,hn⟩:=aJV h.hw hi ht ho;obtain⟨d,hd⟩:∃d,s.aC.length=i+1+d:=⟨s.aC.length - (i+1),by omega⟩
  refine⟨a,?_,ha.trans hid⟩
  show(iC s m.x s.aC.length).2=[a]
  rw[hd,hn d]
theorem fB.aLS(h:fB s n m)(cZ:Int):(m.tick s cZ).z.aS=false:=by
 obtain⟨h1,h2⟩:=h.ans cZ
 show(xG m.z (oX s m.x cZ).2).aS=false
 cases hp:m.z.aS with
 | false=>rw[h1 hp];exact hp
 | true=>
  obtain⟨a,h3,h4⟩:=h2 hp;rw[h3]
  show(Bm m.z a).aS=false
  unfold Bm;rw[if_neg (by rw[hp];simp),if_neg (fun hc=>hc h4)];split<;>rfl
theorem aTG(s:aD)(x:aP)(i:Nat):(jN s x i).1.aS=x.aS:=by
 unfold jN;split
 ·split<;>rfl
 ·rfl
theorem aJU(s:aD)(x:aP):∀n,(iC s x n).1.aS=x.aS
 | 0=>rfl
 | n+1=>(aTG s _ n).trans (aJU s x n)
theorem fB.tick(hm:s.made)(h:fB s n m)(cZ:Int):fB s n (m.tick s cZ):=by
 obtain⟨a1,a2⟩:=Oh h.hw h.wt s.aC.length
 have hz:∀i:Nat,(((m.tick s cZ).x.wt)[i]?).join=none:=fun i=>by
  have:=aJT h.hw h.wt i
  show((iC s m.x s.aC.length).1.wt[i]?).join=none
  unfold iQ at this;cases hh:((iC s m.x s.aC.length).1.wt[i]?).join with
  | none=>rfl
  | some t=>rw[hh] at this;simp at this
 refine⟨aJX _ h.sQ,h.fw,aGl hm.dI a1 cZ,(fun i d t _ ht=>by rw[hz i] at ht;cases ht),?_,fun _=>hz,fun hp=>by rw[h.aLS cZ] at hp;cases hp⟩
 show 0≤(iC s m.x s.aC.length).1.aS∧(iC s m.x s.aC.length).1.aS≤n
 rw[aJU];exact h.po
end
def Ms(s:aD):dN:=⟨Jq s,tQ s,hw0 s⟩
theorem aPx{s:aD}(hm:s.made):fB s 0 (Ms s):=by
 have hx:=aHY hm.dI
 have hw:∀i:Nat,((hw0 s).wt[i]?).join=none:=fun i=>by
  show((s.aC.map fun _=>(none:Option jC))[i]?).join=none
  rw[List.getElem?_map];cases s.aC[i]? <;>rfl
 exact⟨aMW,aRy hm.wX,hx,(fun i d t _ ht=>by
  have:=(hw i).symm.trans ht
  cases this),⟨Int.le_refl 0,Int.le_refl 0⟩,fun _=>hw,fun hp=>by cases hp⟩
theorem Ii{P:Program}{fn:FuncId}{args:Array Value}{w:World}{ps:List HP}(i:Nat){p p':HP}{v:Value}{F:Nat→Prop}(hi:ps[i]? =some p)(h:∀F0,p.sat F0 w→(∀b,F0 b→b < w.heap.size)→(∀b,F0 b→F b)→Calls P fn args w fun y w'=>y=.returned v∧∃F',p'.sat F' w'∧gX w w' F0 F')
  (hp:(HP.many ps).sat F w) (hF:∀b,F b→b < w.heap.size):Calls P fn args w fun y w'=>y=.returned v∧∃F',(HP.many (ps.set i p')).sat F' w'∧gX w w' F F':=by
 obtain⟨G,g1,g2,g3⟩:=hp
 have hlt:=(List.getElem?_eq_some_iff.1 hi).1
 refine(h (G i) (g1 i p hi) (fun b hb=>hF b (g2 i b hb)) (g2 i)).mono fun y w' ⟨hy,F',h1,ht⟩=>⟨hy,fun b=>F' b∨∃k,k≠i∧k < ps.length∧G k b,⟨fun k=>if k=i then F' else fun b=>k < ps.length∧G k b,fun k r hr=>?_,fun k b hb=>?_,fun j k b lH hj hk=>?_⟩,⟨ht.os,ht.tape,ht.output,ht.size,fun b hb=>?_,fun b hb hn=>?_⟩⟩
 ·by_cases e:i=k
  ·subst e;rw[List.getElem?_set_self hlt] at hr;cases hr
   simpa using h1
  ·rw[List.getElem?_set_ne e] at hr
   have hk:=(List.getElem?_eq_some_iff.1 hr).1
   simp only[if_neg (Ne.symm e)];rw[show(fun b=>k < ps.length∧G k b)=G k by funext b;simp[hk]];exact r.loc _ _ _ (g1 k r hr) fun b hb=>ht.old b (hF b (g2 k b hb)) fun h0=>g3 i k b e h0 hb
 ·dsimp only at hb;split at hb
  ·exact .inl hb
  ·exact .inr ⟨k,by assumption,hb.1,hb.2⟩
 ·have key:∀k b,k≠i→F' b→G k b→False:=fun k b hki h0 h2=>by
   rcases(ht.new b h0).1 with h3 | h3
   ·exact g3 i k b (Ne.symm hki) h3 h2
   ·have:=hF b (g2 k b h2)
    omega
  dsimp only at hj hk;split at hj<;>split at hk
  ·rename_i e1 e2;exact lH (e1.trans e2.symm)
  ·rename_i e1 e2;exact key k b e2 hj hk.2
  ·rename_i e1 e2;exact key j b e1 hk hj.2
  ·exact g3 j k b lH hj.2 hk.2
 ·rcases hb with hb | ⟨k,_,_,hb⟩
  ·refine⟨?_,(ht.new b hb).2⟩;rcases(ht.new b hb).1 with h3 | h3
   ·exact .inl (g2 i b h3)
   ·exact .inr h3
  ·exact⟨.inl (g2 k b hb),Nat.lt_of_lt_of_le (hF b (g2 k b hb)) ht.size⟩
 ·exact ht.old b hb fun h0=>hn (g2 i b h0)
theorem aPt{a b c:HP}{F:Nat→Prop}{w:World}(h:(HP.many [a,b,c]).sat F w):(HP.many [a,HP.many [b,c]]).sat F w:=by
 obtain⟨G,g1,g2,g3⟩:=h
 have h1:=g1 1 b rfl
 have h2:=g1 2 c rfl
 have key:∀k,k < 3→(fun b=>k < 3∧G k b)=G k:=fun k hk=>by funext b;simp[hk]
 refine⟨fun i=>match i with | 0=>G 0 | 1=>fun b=>G 1 b∨G 2 b | _=>fun _=>False,fun i p hi=>?_,fun i b hb=>?_,fun i j b hij hi hj=>?_⟩
 ·match i,hi with
  | 0,hi=>cases hi;exact g1 0 _ rfl
  | 1, hi =>
   cases hi;refine⟨fun i=>match i with | 0=>G 1 | 1=>G 2 | _=>fun _=>False,fun i p hi=>?_,fun i b hb=>?_,fun i j b hij hi hj=>?_⟩
   ·match i,hi with
    | 0,hi=>cases hi;exact h1
    | 1,hi=>cases hi;exact h2
    | i+2,hi=>simp at hi
   ·match i,hb with
    | 0,hb=>exact .inl hb
    | 1,hb=>exact .inr hb
    | i+2,hb=>exact hb.elim
   ·match i,j,hi,hj with
    | 0,0,_,_=>exact absurd rfl hij
    | 0,1,hi,hj=>exact g3 1 2 b (by decide) hi hj
    | 1,0,hi,hj=>exact g3 2 1 b (by decide) hi hj
    | 1,1,_,_=>exact absurd rfl hij
    | i+2,_,hi,_=>exact hi.elim
    | _,j+2,_,hj=>exact hj.elim
  | i+2,hi=>simp at hi
 ·match i,hb with
  | 0,hb=>exact g2 0 b hb
  | 1,hb=>rcases hb with hb | hb<;>exact g2 _ b hb
  | i+2,hb=>exact hb.elim
 ·match i,j,hi,hj with
  | 0,0,_,_=>exact absurd rfl hij
  | 0,1,hi,hj=>rcases hj with hj | hj<;>exact g3 _ _ b (by decide) hi hj
  | 1,0,hi,hj=>rcases hi with hi | hi<;>exact g3 _ _ b (by decide) hi hj
  | 1,1,_,_=>exact absurd rfl hij
  | i+2,_,hi,_=>exact hi.elim
  | _,j+2,_,hj=>exact hj.elim
theorem aPs{a b c:HP}{F:Nat→Prop}{w:World}(h:(HP.many [a,HP.many [b,c]]).sat F w):(HP.many [a,b,c]).sat F w:=by
 obtain⟨G,g1,g2,g3⟩:=h;obtain⟨I,i1,i2,i3⟩:=g1 1 _ rfl;refine⟨fun i=>match i with | 0=>G 0 | 1=>I 0 | 2=>I 1 | _=>fun _=>False,fun i p hi=>?_,fun i b hb=>?_,fun i j b hij hi hj=>?_⟩
 ·match i,hi with
  | 0,hi=>cases hi;exact g1 0 _ rfl
  | 1,hi=>cases hi;exact i1 0 _ rfl
  | 2,hi=>cases hi;exact i1 1 _ rfl
  | i+3,hi=>simp at hi
 ·match i,hb with
  | 0,hb=>exact g2 0 b hb
  | 1,hb=>exact g2 1 b (i2 0 b hb)
  | 2,hb=>exact g2 1 b (i2 1 b hb)
  | i+3,hb=>exact hb.elim
 ·match i,j,hi,hj with
  | 0,0,_,_ | 1,1,_,_ | 2,2,_,_=>exact absurd rfl hij
  | 0,1,hi,hj=>exact g3 0 1 b (by decide) hi (i2 0 b hj)
  | 0,2,hi,hj=>exact g3 0 1 b (by decide) hi (i2 1 b hj)
  | 1,0,hi,hj=>exact g3 0 1 b (by decide) hj (i2 0 b hi)
  | 2,0,hi,hj=>exact g3 0 1 b (by decide) hj (i2 1 b hi)
  | 1,2,hi,hj=>exact i3 0 1 b (by decide) hi hj
  | 2,1,hi,hj=>exact i3 0 1 b (by decide) hj hi
  | i+3,_,hi,_=>exact hi.elim
  | _,j+3,_,hj=>exact hj.elim
def jV(g f:Nat)(hL:HL)(s:aD)(m:dN):HP:=aCt g f hL s m.z m.y m.x
def aFo(g f:Nat)(hL:HL)(s:aD)(m:dN)(l:List nE)(a:Option Addr×Nat):HP:=HP.many [jV g f hL s m,HP.own 143 4 (.slice a.1 l.length a.2) l.length (l.flatMap nE.cells)]
theorem St.mac{w0 w:World}{R:List Piece}{H:List HP}{g f:Nat}{hL:HL}{s:aD}{m:dN}(t:St w0 R H w)(i:Nat)(hi:H[i]? =some (jV g f hL s m)):∃L,Ea w g hL.h f L s m.z:=by
 obtain⟨F,h1,h2,_⟩:=t.chunk hi;obtain⟨G,g1,g2,_⟩:=h1;obtain⟨L,hL⟩:=g1 0 _ rfl;exact⟨L,aCq hL fun b hb=>h2 b (g2 0 b hb)⟩
section
variable(g f:Nat)(hL:HL)(s:aD)(n:Nat)(m:dN)(w:World)(F:Nat→Prop)
theorem aPh(t k d r v:Int)(hp:(jV g f hL s m).sat F w)(hF:∀b,F b→b < w.heap.size):
  Cz 17 #[pt g,iv t,.agg #[.int .u8 k,iv d,iv r,.int .u32 v]] w (Wr (iv (vK m.z t k d r v).1) (jV g f hL s (m.start t k d r v)) w F):=
 Ii 0 rfl (fun F0 h1 h2 _=>aGI g hL.h f s m.z w F0 t k d r v h1 h2) hp hF
theorem aPk(t:Int)(hp:(jV g f hL s m).sat F w)(hF:∀b,F b→b < w.heap.size):
  Cz 23 #[pt g,iv t] w (Wr (.tuple #[.agg #[iv (nM m.z t).1.1,.int .u32 (nM m.z t).1.2.1],.bool (nM m.z t).1.2.2]) (jV g f hL s (m.done t)) w F):=
 Ii 0 rfl (fun F0 h1 h2 _=>aGJ g hL.h f s m.z w F0 t h1 h2) hp hF
theorem aPf(hm:s.made)(aW:iO hL s)(hok:fB s n m)(hn:n≤1000000000)(t:Int)(hp:(jV g f hL s m).sat F w)(hF:∀b,F b→b < w.heap.size)(fC:kQ ⟨w,fun b=>b < w.heap.size∧¬F b⟩):
  Cz 19 #[pt g,iv t] w (Wr (.tuple #[]) (jV g f hL s (m.step s t)) w F):=
 aMS g f hL s m.z m.y m.x w F t hm aW (fun hh=>hok.idle (hok.free hh) hn) (hok.sQ.go hok.fw.toFwB) hp hF fC
theorem aPj(hm:s.made)(aW:iO hL s)(hok:fB s n m)(hp:(jV g f hL s m).sat F w)(hF:∀b,F b→b < w.heap.size)(fC:kQ ⟨w,fun b=>b < w.heap.size∧¬F b⟩):
  Cz 20 #[pt f] w (Wr (.tuple #[]) (jV g f hL s (m.eY s)) w F):=
 (Ii 1 rfl (fun F0 h1 h2 h3=>aRm f hL s m.y m.x w hm.dI aW (hok.fw.step hok.hw) F0 h1 h2 (kQ.le fC fun b hb=>⟨⟨hb.1,fun h0=>hb.2 (h3 b h0)⟩,rfl⟩)) (aPt hp) hF).mono fun _ _ ⟨hy,F',h1,h2⟩=>⟨hy,F',aPs h1,h2⟩
theorem aPe(hm:s.made)(aW:iO hL s)(hok:fB s n m)(cZ:Int)(hd:0≤cZ∧cZ < 4294967296)(hp:(jV g f hL s m).sat F w)(hF:∀b,F b→b < w.heap.size):
  Cz 22 #[.pointer (some ⟨hL.h,0,none⟩),.int .u32 cZ] w (fun y w'=>∃a:Option Addr×Nat,y=.returned (.slice a.1 (oX s m.x cZ).2.length a.2)∧True∧∃F',(aFo g f hL s ⟨m.z,m.y,(oX s m.x cZ).1⟩ (oX s m.x cZ).2 a).sat F' w'∧gX w w' F F'):=by
 obtain⟨G,g1,g2,g3⟩:=hp
 have hG:∀i b,G i b→b < w.heap.size:=fun i b hb=>hF b (g2 i b hb)
 have h0:=g1 0 _ rfl
 have h1:=g1 1 _ rfl
 refine(aQt hL s m.x w hm.dI aW hok.hw hok.wt cZ hd (G 2) (g1 2 _ rfl) (hG 2)).mono fun y w' ⟨a,hy,_,F',⟨I,i1,i2,i3⟩,ht⟩=>⟨a,hy,trivial,fun b=>F' b∨G 0 b∨G 1 b,⟨fun i=>match i with | 0=>fun b=>I 0 b∨G 0 b∨G 1 b | 1=>I 1 | _=>fun _=>False,fun i p hi=>?_,fun i b hb=>?_,fun i j b hij hi hj=>?_⟩,⟨ht.os,ht.tape,ht.output,ht.size,fun b hb=>?_,fun b hb hn=>?_⟩⟩
 ·have old:∀i,i≠2→∀b,G i b→w'.heap[b]? =w.heap[b]? :=fun i hi b hb=>ht.old b (hG i b hb) fun h=>g3 2 i b (Ne.symm hi) h hb
  have fr:∀i,i≠2→∀b,F' b→¬G i b:=fun i hi b hb hc=>by
   rcases(ht.new b hb).1 with h | h
   ·exact g3 2 i b (Ne.symm hi) h hc
   ·have:=hG i b hc
    omega
  match i,hi with
  | 0, hi =>
   cases hi;refine⟨fun i=>match i with | 0=>G 0 | 1=>G 1 | 2=>I 0 | _=>fun _=>False,fun i p hi=>?_,fun i b hb=>?_,fun i j b hij hi hj=>?_⟩
   ·match i,hi with
    | 0,hi=>cases hi;exact HP.loc _ _ _ _ h0 (old 0 (by decide))
    | 1,hi=>cases hi;exact HP.loc _ _ _ _ h1 (old 1 (by decide))
    | 2,hi=>cases hi;exact i1 0 _ rfl
    | i+3,hi=>simp at hi
   ·match i,hb with
    | 0,hb=>exact .inr (.inl hb)
    | 1,hb=>exact .inr (.inr hb)
    | 2,hb=>exact .inl hb
    | i+3,hb=>exact hb.elim
   ·match i,j,hi,hj with
    | 0,0,_,_ | 1,1,_,_ | 2,2,_,_=>exact absurd rfl hij
    | 0,1,hi,hj=>exact g3 0 1 b (by decide) hi hj
    | 1,0,hi,hj=>exact g3 1 0 b (by decide) hi hj
    | 0,2,hi,hj=>exact fr 0 (by decide) b (i2 0 b hj) hi
    | 2,0,hi,hj=>exact fr 0 (by decide) b (i2 0 b hi) hj
    | 1,2,hi,hj=>exact fr 1 (by decide) b (i2 0 b hj) hi
    | 2,1,hi,hj=>exact fr 1 (by decide) b (i2 0 b hi) hj
    | i+3,_,hi,_=>exact hi.elim
    | _,j+3,_,hj=>exact hj.elim
  | 1,hi=>cases hi;exact i1 1 _ rfl
  | i+2,hi=>simp at hi
 ·match i,hb with
  | 0,hb=>
   rcases hb with hb | hb
   ·exact .inl (i2 0 b hb)
   ·exact .inr hb
  | 1,hb=>exact .inl (i2 1 b hb)
  | i+2,hb=>exact hb.elim
 ·have fr:∀i,i≠2→∀b,F' b→¬G i b:=fun i hi b hb hc=>by
   rcases(ht.new b hb).1 with h | h
   ·exact g3 2 i b (Ne.symm hi) h hc
   ·have:=hG i b hc
    omega
  match i,j,hi,hj with
  | 0,0,_,_ | 1,1,_,_=>exact absurd rfl hij
  | 0,1,hi,hj=>
   rcases hi with hi | hi | hi
   ·exact i3 0 1 b (by decide) hi hj
   ·exact fr 0 (by decide) b (i2 1 b hj) hi
   ·exact fr 1 (by decide) b (i2 1 b hj) hi
  | 1,0,hi,hj=>
   rcases hj with hj | hj | hj
   ·exact i3 0 1 b (by decide) hj hi
   ·exact fr 0 (by decide) b (i2 1 b hi) hj
   ·exact fr 1 (by decide) b (i2 1 b hi) hj
  | i+2,_,hi,_=>exact hi.elim
  | _,j+2,_,hj=>exact hj.elim
 ·rcases hb with hb | hb | hb
  ·refine⟨?_,(ht.new b hb).2⟩;rcases(ht.new b hb).1 with h | h
   ·exact .inl (g2 2 b h)
   ·exact .inr h
  ·exact⟨.inl (g2 0 b hb),Nat.lt_of_lt_of_le (hG 0 b hb) ht.size⟩
  ·exact⟨.inl (g2 1 b hb),Nat.lt_of_lt_of_le (hG 1 b hb) ht.size⟩
 ·exact ht.old b hb fun h=>hn (g2 2 b h)
theorem aPm(hok:qU s m.z)(l:List nE)(hl:l.length≤1000)(a:Option Addr×Nat)(hp:(aFo g f hL s m l a).sat F w)(hF:∀b,F b→b < w.heap.size):
  Cz 21 #[pt g,.slice a.1 l.length a.2] w (Wr (.tuple #[]) (jV g f hL s ⟨xG m.z l,m.y,m.x⟩) w F):=by
 obtain⟨G,g1,g2,g3⟩:=hp
 have hG:∀i b,G i b→b < w.heap.size:=fun i b hb=>hF b (g2 i b hb)
 obtain⟨A,c,hv,hs⟩:=vA (Y:=G 1) (g1 1 _ rfl) (fun b hb=>hb)
 injection hv with Mz hv2 hv3
 subst Mz;refine(Ii 0 rfl (p':=gH g hL.h f s (xG m.z l)) (v:=.tuple #[]) (fun F0 h1 h2 h3=>aNe g hL.h f s m.z w F0 a.1 a.2 l hl hok.po h1 h2 (hs.le fun b hb=>⟨⟨hG 1 b hb,fun h0=>g3 0 1 b (by decide) (h3 b h0) hb⟩,rfl⟩)) (g1 0 _ rfl) (hG 0)).mono fun y w' ⟨hy,F',h1,ht⟩=>⟨hy,F',h1,⟨ht.os,ht.tape,ht.output,ht.size,fun b hb=>?_,fun b hb hn=>ht.old b hb fun h=>hn (g2 0 b h)⟩⟩
 refine⟨?_,(ht.new b hb).2⟩;rcases(ht.new b hb).1 with h | h
 ·exact .inl (g2 0 b h)
 ·exact .inr h
end
end
section
def Ef(s:aD)(X:bM)(p:dB):Prop:=
 (∃i:Nat,p=⟨17,4,i,1⟩∧i < s.domains.length∧hasB X.d i=false∧∀d,s.domains[i]? =some d→0≤d.above→hasB X.d d.above.toNat=true)∨
 (∃i:Nat,p=⟨20,7,i,1⟩∧i < s.aF.length∧mM s i=true∧hasB X.c i=false∧∀j∈fU s i,j≠i→mM s j=true→hasB X.c j=true)∨
 (∃i:Nat,p=⟨22,4,i,0⟩∧i < s.aR.length∧hasB X.l i=false)∨
 (∃i:Nat,p=⟨20,7,i,0⟩∧i < s.aF.length∧mM s i=true∧hasB X.c i=true∧∀j:Nat,j≠i→hasB X.c j=true→i∉fU s j)∨
 (∃i:Nat,p=⟨17,4,i,mO s i⟩∧i < s.domains.length∧hasB X.d i=true∧∀(j:Nat) d,s.domains[j]? =some d→d.above=(i:Int)→hasB X.d j=false)
section
variable{s:aD}{x y:bM}
theorem aTR(hm:s.made)(hx:x.cl s)(hy:y.cl s)(hxy:∀i,hasB x.l i=true→hasB y.l i=true){k:Nat}{p:dB}(hk:(allM s x y)[k]? =some p):Ef s (((allM s x y).take k).foldl gQ x) p:=by
 have jS:=aRi (L:=(allM s x y).take k) hx.of
 unfold allM uW at hk jS⊢;rcases Zk hk with⟨h1,h2⟩ | ⟨t1,h1,h2⟩
 ·
  obtain⟨i,hi,rfl,ht⟩:=Qd h1;rw[h2,ht,Si] at jS⊢
  have hmem:=Ab.1 (List.mem_of_getElem? hi)
  have nV:=aA9 (aAU s.domains.length x.d y.d) hi
  have nI:=zQ.1 hmem.2
  have Bd:∀j,j < s.domains.length→hasB ((List.take k (eV (List.range s.domains.length) x.d y.d)).foldl (fun d (i:Nat)=>gZ d (i:Int) true) x.d) j=if j∈List.take k (eV (List.range s.domains.length) x.d y.d) then true else hasB x.d j:=fun j hj=>has_fold _ _ _ _ (by rw[hx.of.d];exact hj)
  refine .inl ⟨i,rfl,hmem.1,?_,fun d hd h0=>?_⟩
  ·dsimp only;rw[Bd i hmem.1,if_neg (fun h=>by have:=((nV i).1 h).2;omega),nI.2]
  ·dsimp only
   have hfit:=(hm.domains i d hd).1
   have ha:d.above.toNat < s.domains.length:=by omega
   rw[Bd _ ha]
   have hya:=hy.up i d nI.1 hd h0
   split
   ·rfl
   ·rename_i hnot
    cases hxa:hasB x.d d.above.toNat with
    | true=>rfl
    | false=>exact absurd ((nV d.above.toNat).2 ⟨Ab.2 ⟨ha,zQ.2 ⟨hya,hxa⟩⟩,by omega⟩) hnot
 ·rcases Zk h1 with⟨h3,h4⟩ | ⟨t2,h3,h4⟩
  ·
   obtain⟨i,hi,rfl,ht⟩:=Qd h3;rw[h2,h4,ht,List.foldl_append,Si,Ym] at jS⊢
   have hmem:=Ab.1 (List.mem_of_getElem? hi)
   have nV:=aA9 (aAU s.aF.length x.c y.c) hi
   have nI:=zQ.1 hmem.2
   have Bd:∀j,j < s.aF.length→hasB ((List.take t1 (eV (List.range s.aF.length) x.c y.c)).foldl (fun d (i:Nat)=>gZ d (i:Int) true) x.c) j=if j∈List.take t1 (eV (List.range s.aF.length) x.c y.c) then true else hasB x.c j:=fun j hj=>has_fold _ _ _ _ (by rw[hx.of.c];exact hj)
   refine .inr (.inl ⟨i,rfl,hmem.1,hy.sw i nI.1,?_,fun j hj hji hjs=>?_⟩)
   rotate_left
   ·dsimp only
    have hjl:j < s.aF.length:=aBH hj
    have hle:=aBI hm hj
    rw[Bd j hjl]
    have Mx:=hy.ch i j nI.1 hj hjs
    split
    ·rfl
    ·rename_i hnot
     cases yH:hasB x.c j with
     | true=>rfl
     | false=>exact absurd ((nV j).2 ⟨Ab.2 ⟨hjl,zQ.2 ⟨Mx,yH⟩⟩,by omega⟩) hnot
   dsimp only;rw[has_fold _ _ _ _ (by rw[hx.of.c];exact hmem.1),if_neg (fun h=>by have:=((nV i).1 h).2;omega),nI.2]
  ·rcases Zk h3 with⟨h5,h6⟩ | ⟨t3,h5,h6⟩
   ·
    obtain⟨i,hi,rfl,ht⟩:=Qd h5;rw[h2,h4,h6,ht,List.foldl_append,List.foldl_append,Si,Ym,aB5] at jS⊢
    have hmem:=Ab.1 (List.mem_of_getElem? hi)
    have nV:=aA9 (aAU s.aR.length x.l y.l) hi
    have nI:=zQ.1 hmem.2
    refine .inr (.inr (.inl ⟨i,rfl,hmem.1,?_⟩));dsimp only;rw[has_fold _ _ _ _ (by rw[hx.of.l];exact hmem.1),if_neg (fun h=>by have:=((nV i).1 h).2;omega),nI.2]
   ·rcases Zk h5 with⟨h7,h8⟩ | ⟨t4,h7,h8⟩
    ·
     obtain⟨i,hi,rfl,ht⟩:=Qd h7;rw[h2,h4,h6,h8,ht,List.foldl_append,List.foldl_append,List.foldl_append,Si,Ym,aB5,aEw] at jS⊢
     have hmem:=Ab.1 (List.mem_of_getElem? hi)
     have nV:=aA9 (aAU s.aR.length y.l x.l) hi
     have nI:=zQ.1 hmem.2
     exact absurd (hxy i nI.1) (by rw[nI.2];simp)
    ·rcases Zk h7 with⟨h9,h10⟩ | ⟨t5,h9,h10⟩
     ·
      obtain⟨i,hi,rfl,ht⟩:=Qd h9;rw[h2,h4,h6,h8,h10,ht,List.foldl_append,List.foldl_append,List.foldl_append,List.foldl_append,Si,Ym,aB5,aEw,aIX] at jS⊢
      have hmem:=Qq.1 (List.mem_of_getElem? hi)
      have Wo:=aGq (aHA s.aF.length y.c x.c) hi
      have nI:=zQ.1 hmem.2
      have Bd:∀j,j < s.aF.length→hasB ((List.take t4 (eV (List.range s.aF.length).reverse y.c x.c)).foldl (fun d (i:Nat)=>gZ d (i:Int) false) ((eV (List.range s.aF.length) x.c y.c).foldl (fun d (i:Nat)=>gZ d (i:Int) true) x.c)) j=if j∈List.take t4 (eV (List.range s.aF.length).reverse y.c x.c) then false else if j∈eV (List.range s.aF.length) x.c y.c then true else hasB x.c j:=fun j hj=>by
       rw[has_fold _ _ _ _ (by rw[aAP,hx.of.c];exact hj),has_fold _ _ _ _ (by rw[hx.of.c];exact hj)]
      refine .inr (.inr (.inr (.inl ⟨i,rfl,hmem.1,hx.sw i nI.1,?_,fun j hji hj jT=>?_⟩)))
      ·dsimp only;rw[Bd i hmem.1,if_neg (fun h=>by have:=((Wo i).1 h).2;omega)];split
       ·rfl
       ·exact nI.1
      ·dsimp only at hj
       have hjl:=Sb hj
       rw[aAP,aAP,hx.of.c] at hjl;rw[Bd j hjl] at hj
       have hle:=aBI hm jT
       have Mx:hasB y.c j=true:=by
        split at hj
        ·cases hj
        ·rename_i hnot
         split at hj
         ·rename_i mX;exact(zQ.1 (Ab.1 mX).2).1
         ·cases Mx:hasB y.c j with
          | true=>rfl
          | false=>exact absurd ((Wo j).2 ⟨Qq.2 ⟨hjl,zQ.2 ⟨hj,Mx⟩⟩,by omega⟩) hnot
       have:=hy.ch j i Mx jT (hx.sw i nI.1)
       rw[nI.2] at this;cases this
     ·
      obtain⟨i,hi,rfl,ht⟩:=Qd h9;rw[h2,h4,h6,h8,h10,ht,List.foldl_append,List.foldl_append,List.foldl_append,List.foldl_append,List.foldl_append,Si,Ym,aB5,aEw,aIX,aR3] at jS⊢
      have hmem:=Qq.1 (List.mem_of_getElem? hi)
      have Wo:=aGq (aHA s.domains.length y.d x.d) hi
      have nI:=zQ.1 hmem.2
      have Bd:∀j,j < s.domains.length→hasB ((List.take t5 (eV (List.range s.domains.length).reverse y.d x.d)).foldl (fun d (i:Nat)=>gZ d (i:Int) false) ((eV (List.range s.domains.length) x.d y.d).foldl (fun d (i:Nat)=>gZ d (i:Int) true) x.d)) j=if j∈List.take t5 (eV (List.range s.domains.length).reverse y.d x.d) then false else if j∈eV (List.range s.domains.length) x.d y.d then true else hasB x.d j:=fun j hj=>by
       rw[has_fold _ _ _ _ (by rw[aAP,hx.of.d];exact hj),has_fold _ _ _ _ (by rw[hx.of.d];exact hj)]
      refine .inr (.inr (.inr (.inr ⟨i,rfl,hmem.1,?_,fun j d hd hab=>?_⟩)))
      ·dsimp only;rw[Bd i hmem.1,if_neg (fun h=>by have:=((Wo i).1 h).2;omega)];split
       ·rfl
       ·exact nI.1
      ·dsimp only
       have hjl:=(List.getElem?_eq_some_iff.1 hd).1
       have hfit:=(hm.domains j d hd).1
       rw[Bd j hjl];split
       ·rfl
       ·rename_i hnot
        have key:hasB y.d j=false:=by
         cases Mx:hasB y.d j with
         | false=>rfl
         | true=>
          have:=hy.up j d Mx hd (by omega)
          rw[show d.above.toNat=i by omega,nI.2] at this;cases this
        split
        ·rename_i mX
         have:=(zQ.1 (Ab.1 mX).2).1
         rw[key] at this;cases this
        ·cases yH:hasB x.d j with
         | false=>rfl
         | true=>exact absurd ((Wo j).2 ⟨Qq.2 ⟨hjl,zQ.2 ⟨yH,key⟩⟩,by omega⟩) hnot
theorem aGs{i:Nat}(h:mM s i=true):rB s i:=by
 unfold mM at h;unfold rB kindOf;cases hc:s.aF[i]? with
 | none=>rw[hc] at h;cases h
 | some c=>rw[hc] at h;exact of_decide_eq_true h
theorem aKM{i:Nat}(h:rB s i):mM s i=true:=by
 unfold rB kindOf at h;unfold mM;cases hc:s.aF[i]? with
 | none=>rw[hc] at h;exact absurd h (by simp)
 | some c=>rw[hc] at h;exact decide_eq_true h
theorem Ef.goes(hm:s.made){X:bM}{p:dB}(h:Ef s X p)(jS:X.of s):Ud s X p 0:=by
 rcases h with⟨i,rfl,h1,h2,h3⟩ | ⟨i,rfl,h1,h2,h3,_⟩ | ⟨i,rfl,h1,h2⟩ | ⟨i,rfl,h1,h2,h3,h4⟩ | ⟨i,rfl,h1,h2,h3⟩
 ·exact aQR hm jS (by decide) h1 h2 h3
 ·exact aQP hm jS (by decide) h1 h2 h3
 ·exact aQO hm jS (by decide) h1 h2
 ·exact aQQ hm jS (by decide) h1 h2 h3 h4
 ·exact aQS hm jS (by decide) h1 h2 h3
section
variable{X:bM}{h:aP}
theorem aQW(hm:s.made)(hi:Inv s X none none none h){c:Nat}{ck:eF}(hc:s.aF[c]? =some ck)(lU:rB s c)(hsrc:∀j∈fU s c,j≠c→rB s j→hasB X.c j=true)(hh:hasB X.c c=false):∃x',xN s 99 c (8+1) h x'∧Inv s (wsC X c) none none none x':=by
 have hlt:=(List.getElem?_eq_some_iff.1 hc).1
 have hX:=hi.of
 have iB:c < X.c.length:=by rw[hX.c];exact hlt
 have iX:∀j,hasB (wsC X c).c j=if j=c then true else hasB X.c j:=fun j=>Sa iB j
 have hXc:hasB (wsC X c).c c=true:=by rw[iX,if_pos rfl]
 have hinv:Inv s (wsC X c) none (some c) none h:=by
  refine⟨hi.ok,hi.wt,⟨hX.d,by show(kV _ _ _).length=_;rw[Cs];exact hX.c,hX.l⟩,hi.dom,fun i ci y sB hy hx hb=>?_,fun i hx j hj hsj=>?_,fun c' Ia i hx hne hmem=>?_,hi.tK,hi.rF⟩
  ·have hid:i≠c:=fun h=>hb (by rw[h])
   rw[iX,if_neg hid] at hx;exact hi.jM i ci y sB hy hx (by simp)
  ·rw[iX]
   by_cases Ru:j=c
   ·rw[if_pos Ru]
   ·rw[if_neg Ru];rw[iX] at hx
    by_cases hic:i=c
    ·subst hic;exact hsrc j hj Ru hsj
    ·rw[if_neg hic] at hx;exact hi.sG i hx j hj hsj
  ·cases Ia;rw[iX,if_neg hne] at hx
   have:=hi.sG i hx c hmem lU
   rw[hh] at this;cases this
 obtain⟨y,hy⟩:=get_some (l:=h.ck) (i:=c) (by have:=hi.ok.ck.len;omega)
 have hyl:=hi.ok.ck.left y (List.mem_of_getElem? hy)
 exact aGF hm hc lU hXc (8+1) h y hinv hy (by omega)
def aFX(X:bM)(c:Nat):bM:=⟨X.d,kV X.c c false,X.l⟩
theorem aQV(hm:s.made)(hi:Inv s X none none none h){c:Nat}{ck:eF}(hc:s.aF[c]? =some ck)(lU:rB s c)(hno:∀j:Nat,j≠c→hasB X.c j=true→c∉fU s j):∃x',xN s 111 c (8+1) h x'∧Inv s (aFX X c) none none none x':=by
 have hlt:=(List.getElem?_eq_some_iff.1 hc).1
 have hX:=hi.of
 have iB:c < X.c.length:=by rw[hX.c];exact hlt
 have iX:∀j,hasB (aFX X c).c j=if j=c then false else hasB X.c j:=fun j=>aIA iB j
 obtain⟨y,hy⟩:=get_some (l:=h.ck) (i:=c) (by have:=hi.ok.ck.len;omega)
 have hly:=(List.getElem?_eq_some_iff.1 hy).1
 have hyl:=hi.ok.ck.left y (List.mem_of_getElem? hy)
 have aBs:ck.kind=112∨ck.kind=103:=by rw[←Kc hc];exact lU
 have tO:(lE s h.ck (c:Int) false).2=h.ck.set c (Hg ck y false):=by
  unfold lE;rw[show bB s.aF.length (c:Int)=true from decide_eq_true (by omega)];simp only[Bool.true_eq_false,if_false,Int.toNat_natCast,hc,hy];rw[if_neg (by omega)]
 have yP:qZ s (h.ck.set c (Hg ck y false)):=tO▸Vx hm.dI hi.ok.ck (c:Int) false
 refine⟨{h with ck:=h.ck.set c (Hg ck y false)},aAE hi.ok (by unfold nP;rw[if_neg (by decide),if_neg (by decide),if_neg (by decide),if_neg (by decide),if_pos rfl,tO]),?_⟩;refine⟨⟨yP,hi.ok.dm,hi.ok.ln,hi.ok.dv,hi.ok.each,hi.ok.wt⟩,hi.wt,⟨hX.d,by show(kV _ _ _).length=_;rw[Cs];exact hX.c,hX.l⟩,hi.dom,fun i ci y' sB hy' hx hb=>?_,fun i hx j hj hsj=>?_,(fun _ h=>by cases h),hi.tK,hi.rF⟩
 ·rw[iX] at hx
  by_cases hic:i=c
  ·rw[if_pos hic] at hx;cases hx
  ·rw[if_neg hic] at hx;dsimp only at hy';rw[List.getElem?_set_ne (Ne.symm hic)] at hy';exact hi.jM i ci y' sB hy' hx (by simp)
 ·rw[iX] at hx⊢
  by_cases hic:i=c
  ·rw[if_pos hic] at hx;cases hx
  ·rw[if_neg hic] at hx;rw[if_neg (fun e:j=c=>hno i hic hx (e▸hj))];exact hi.sG i hx j hj hsj
theorem aGA{k id:Int}:∀(n:Nat) {x x':aP},aAl s (fun x=>nP s x k id) n x x'→xN s k id n x x'
 | 0,_,_,h=>h.elim
 | n+1,x,x',⟨h0,.inl h⟩=>⟨h0,.inl h⟩
 | n+1,x,x',⟨h0,.inr ⟨x1,h1,h2,h3,h4⟩⟩=>⟨h0,.inr ⟨x1,h1,h2,h3,aGA n h4⟩⟩
theorem Ef.run(hm:s.made){p:dB}(hg:Ef s X p)(hi:Inv s X none none none h):∃(N:Nat) (x':aP),N≤9∧xN s (uP p) p.id N h x'∧Inv s (gQ X p) none none none x'∧Ee s (uP p) p.id:=by
 have hdone:=(hg.goes hm hi.of).done
 rcases hg with⟨i,rfl,h1,h2,h3⟩ | ⟨i,rfl,h1,h2,h3,h4⟩ | ⟨i,rfl,h1,h2⟩ | ⟨i,rfl,h1,h2,h3,h4⟩ | ⟨i,rfl,h1,h2,h3⟩
 ·obtain⟨d,hd⟩:=get_some h1
  have hfit:=(hm.domains i d hd).1
  obtain⟨x',r1,r2⟩:=aQT hm hi hd (by
   by_cases h0:0≤d.above
   ·exact .inr ⟨h0,h3 d hd h0⟩
   ·exact .inl (by omega)) h2
  exact⟨9,x',by omega,r1,hdone▸r2,⟨.inl rfl,fun h=>absurd h (by show ¬(117:Int)=99;decide)⟩⟩
 ·obtain⟨c,hc⟩:=get_some h1;obtain⟨x',r1,r2⟩:=aQW hm hi hc (aGs h2) (fun j hj hji hjs=>h4 j hj hji (aKM hjs)) h3;exact⟨9,x',by omega,r1,hdone▸r2,⟨.inr (.inl rfl),fun _=>⟨by show(0:Int)≤(i:Int);omega,by show(i:Int) < _;omega⟩⟩⟩
 ·obtain⟨x',r1,r2⟩:=aQU hm hi h1 h2;exact⟨9,x',by omega,r1,hdone▸r2,⟨.inr (.inr (.inl rfl)),fun h=>absurd h (by show ¬(114:Int)=99;decide)⟩⟩
 ·obtain⟨c,hc⟩:=get_some h1;obtain⟨x',r1,r2⟩:=aQV hm hi hc (aGs h2) h4;exact⟨9,x',by omega,r1,hdone▸r2,⟨.inr (.inr (.inr (.inr (.inr (.inl rfl))))),fun h=>absurd h (by show ¬(111:Int)=99;decide)⟩⟩
 ·obtain⟨d,hd⟩:=get_some h1
  have hk:uP ⟨17,4,i,mO s i⟩=if d.ret then 107 else 100:=by
   simp only[uP,mO,hd,Option.map_some,Option.getD_some];cases d.ret<;>simp
  have hk2:uP ⟨17,4,i,mO s i⟩=100∨uP ⟨17,4,i,mO s i⟩=107:=by
   rw[hk];split
   ·exact .inr rfl
   ·exact .inl rfl
  obtain⟨N,x',r0,r1,r2,_⟩:=aMI hm hd d.ret (fun h=>h) hi h2 h3;refine⟨N,x',by omega,aGA N ?_,?_,⟨by rcases hk2 with h | h<;>rw[h]<;>simp,fun h=>absurd h (by rcases hk2 with h | h<;>rw[h]<;>decide)⟩⟩
  ·have he:(fun x=>nP s x (uP ⟨17,4,i,mO s i⟩) (i:Int))=fun x=>uJ s x (i:Int) d.ret:=by
    funext x
    rw[hk];unfold nP;cases d.ret<;>simp
   show aAl s (fun x=>nP s x (uP ⟨17,4,i,mO s i⟩) (i:Int)) N h x'
   rw[he];exact r1
  ·have:jZ X 0 (uP ⟨17,4,i,mO s i⟩) (i:Int)=Um X i:=by
    rw[hk];cases d.ret<;>rfl
   rw[←hdone,show(dB.mk 17 4 (i:Int) (mO s i)).id=(i:Int) from rfl,this];exact r2
end
end
end
section
theorem aF1{q q2:Piece}{g:List (List Int)}{vs:List Value}{A:Option Addr}{n c:Nat}(h:Rows (qW (fH q)) 1 g (vs.map fun v=>[v]))(hl:q.Le q2)(h1:∃F,(HP.own 22 1 (.slice A n c) n vs).sat F q2.w∧∀b,F b→q2.Z b)(hn:n=g.length):nD q2 A n g:=by
 obtain⟨F,hs,hz⟩:=h1;refine⟨_,h.mono (fun _ _=>qW.mono (oB hl)),hn,?_⟩;rw[show(vs.map fun v=>[v]).flatten=vs by clear h hs;induction vs<;>simp_all];obtain⟨A',c',e,hS⟩:=vA (Y:=q2.Z) hs hz
 injection e with e1 e2 e3
 subst e1;exact hS
theorem aN2(s:aD)(A1 A2 A3 A4:Option Addr)(n1 k1 n2 k2 n3 k3 n4 k4:Nat)(w:World)(hW:fL w s A1 n1 A2 n2 A3 n3 A4 n4):
  Cz 215 #[.agg #[.slice A1 n1 k1,.slice A2 n2 k2,.slice A3 n3 k3,.slice A4 n4 k4]] w (fun y w'=>(∃v,y=.returned v∧wN (gP s) v w w')∧Below w.heap.size w w'):=by
 have hn:=hW.nH
 have cR:=hW.small
 unfold aD.small at cR;obtain⟨hs1,fW,sA,tM,oM,pG⟩:=cR;refine aM func215 ntmps215 ?_;refine aB ?_;refine bA fun g1=>?_;refine aB ?_;refine bL [(4,iv 0),(3,sn),(1,pt g1)] ?_;refine iN 22 1 ?_;refine dP [] [] [0,1] (by simp) rfl (by decide) (by decide) fun q0 _ _ Dg=>?_;refine aB ?_;refine eJ (fun m e R H=>∃(k:Nat) (vs:List Value) (q:Piece) (Ag:Option Addr) (cg:Nat),k≤n1∧m=n1 - k∧qY w q∧Rows (qW (fH q)) 1 ((gP s).take k) (vs.map fun v=>[v])∧e=[(4,iv k),(3,.slice Ag k cg),(1,pt g1)]∧R=[q,all w]∧H=[HP.own 22 1 (.slice Ag k cg) k vs,HP.aE g1 30 [.slice A1 n1 k1,.slice A2 n2 k2,.slice A3 n3 k3,.slice A4 n4 k4]]) n1 ⟨0,[],_,none,0,by omega,rfl,Dg (by simp) (by simp),trivial,rfl,rfl,rfl⟩ fun m e R H hI=>?_;obtain⟨k,vs,q,Ag,cg,hk,rfl,rH,hrows,rfl,rfl,rfl⟩:=hI;refine aB ?_;refine aG rfl (fun h=>?_) (fun h=>?_)
 ·
  refine aB ?_
  have hkn:k < s.aF.length:=by omega
  obtain⟨e,he⟩:∃e,s.aF[k]? =some e:=⟨_,List.getElem?_eq_getElem hkn⟩
  obtain⟨b,off,r,rfl,hrl,hR,hro⟩:=hW.jM.row he;obtain⟨Af,nf,kf,rfl,hnf,pV⟩:=hR
  have yO:(gP s)[k]? =some (e.src):=by simp[gP,he]
  refine aB ?_;refine Ek (el:=3) (sz:=1) (by kernel_rfl) (by kernel_rfl) (by decide) fun g4=>?_;refine Bv 0 1 0 rfl rfl (by omega) ?_;dsimp only[List.set];refine aA ?_;refine kd (dat k (off+k*6)) ?_;refine qG (off:=1) (by kernel_rfl) rfl (by decide) ?_;refine jE (by kernel_rfl) rfl (Ca (by simp) (hro.at_ (j:=1) rfl)) (by decide) ?_;refine gJ 0 1 8 nf (n':=nf) (el:=3) (by kernel_rfl) (by kernel_rfl) (by decide) rfl rfl rfl (rE (p:=all w) (by simp) pV) (by simp[aK,Value.oneCell']) (by omega) (by have:=oM e (List.mem_of_getElem? he);omega) (by have:=oM e (List.mem_of_getElem? he);omega) (by decide) fun A5 c5=>?_;dsimp only[List.set,List.nil_append];refine eK fun g3=>?_;refine gJ 2 1 24 1 (n':=k+1) (el:=22) (by kernel_rfl) (by kernel_rfl) (by decide) rfl rfl rfl (nS 0 rfl rfl) (by simp[Value.oneCell']) rfl (by omega) (by omega) (by decide) fun A6 c6=>?_;dsimp only[List.set];refine aB ?_;refine dP [q] [1] [2,3] (by simp) rfl (by decide) (by decide) fun q' mJ hle Fv=>?_;obtain⟨Fg,Nc,Mw⟩:=mJ 1 _ (by simp) rfl;obtain⟨A7,c7,e7,wZ⟩:=vA (Y:=q'.Z) Nc Mw
  injection e7 with f1 f2 f3
  subst f1;exact dZ (n1 - (k+1)) ⟨k+1,vs++[_],q',A6,c6,by omega,rfl,Fv (by simp) (by simpa using rH),Js hrows (hle q (by simp)) yO ⟨A5,nf,c5,rfl,hnf,wZ⟩,rfl,rfl,rfl⟩
 ·
  refine aB ?_;obtain rfl:k=n1:=by omega
  rw[List.take_of_length_le (by simp[gP];omega)] at hrows;refine aB ?_;refine dP [q] [0] [] (by simp) rfl (by decide) (by decide) fun q2 hq hle hfr=>?_
  have kL:k=(gP s).length:=by simp[gP];omega
  exact aT (h:=fun w1 st=>⟨_,rfl,Ag,cg,by rw[←kL],by rw[←kL];exact(aF1 hrows (hle q (by simp)) (hq 0 _ (by simp) rfl) kL).le (st.mK (by simp) (hfr (by simp) (by simpa using rH)))⟩)
theorem aNy(s:aD)(A1 A2 A3 A4:Option Addr)(n1 k1 n2 k2 n3 k3 n4 k4:Nat)(w:World)(hW:fL w s A1 n1 A2 n2 A3 n3 A4 n4):
  Cz 217 #[.agg #[.slice A1 n1 k1,.slice A2 n2 k2,.slice A3 n3 k3,.slice A4 n4 k4]] w (fun y w'=>(∃v,y=.returned v∧wN (gO s) v w w')∧Below w.heap.size w w'):=by
 have hn:=hW.nT
 have cR:=hW.small
 unfold aD.small at cR;obtain⟨hs1,fW,sA,tM,oM,pG⟩:=cR;refine aM func217 ntmps217 ?_;refine aB ?_;refine bA fun g1=>?_;refine aB ?_;refine bL [(4,iv 0),(3,sn),(1,pt g1)] ?_;refine iN 22 1 ?_;refine dP [] [] [0,1] (by simp) rfl (by decide) (by decide) fun q0 _ _ Dg=>?_;refine aB ?_;refine eJ (fun m e R H=>∃(k:Nat) (vs:List Value) (q:Piece) (Ag:Option Addr) (cg:Nat),k≤n2∧m=n2 - k∧qY w q∧Rows (qW (fH q)) 1 ((gO s).take k) (vs.map fun v=>[v])∧e=[(4,iv k),(3,.slice Ag k cg),(1,pt g1)]∧R=[q,all w]∧H=[HP.own 22 1 (.slice Ag k cg) k vs,HP.aE g1 30 [.slice A1 n1 k1,.slice A2 n2 k2,.slice A3 n3 k3,.slice A4 n4 k4]]) n2 ⟨0,[],_,none,0,by omega,rfl,Dg (by simp) (by simp),trivial,rfl,rfl,rfl⟩ fun m e R H hI=>?_;obtain⟨k,vs,q,Ag,cg,hk,rfl,rH,hrows,rfl,rfl,rfl⟩:=hI;refine aB ?_;refine aG rfl (fun h=>?_) (fun h=>?_)
 ·
  refine aB ?_
  have hkn:k < s.domains.length:=by omega
  obtain⟨e,he⟩:∃e,s.domains[k]? =some e:=⟨_,List.getElem?_eq_getElem hkn⟩
  obtain⟨b,off,r,rfl,hrl,hR,hro⟩:=hW.dom.row he;obtain rfl:=hR
  have yO:(gO s)[k]? =some (if e.above= -1 then[] else[e.above]):=by simp[gO,he]
  refine aA ?_;refine kd (dat k (off+k*3)) ?_;refine qG (off:=0) (by kernel_rfl) rfl (by decide) ?_;refine jE (by kernel_rfl) rfl (Ca (by simp) (hro.at_ (j:=0) rfl)) (by decide) ?_;refine aAu rfl rfl (by decide) ?_;refine dO ?_;refine aG rfl (fun hab=>?_) (fun hab=>?_)
  ·
   refine iN 3 1 ?_;refine aA ?_;refine kd (dat k (off+k*3)) ?_;refine qG (off:=0) (by kernel_rfl) rfl (by decide) ?_;refine jE (by kernel_rfl) rfl (Ca (by simp) (hro.at_ (j:=0) rfl)) (by decide) ?_;refine eK fun g2=>?_;refine gJ 1 1 8 1 (n':=1) (v:=sn) (el:=3) (by kernel_rfl) (by kernel_rfl) (by decide) rfl rfl rfl (nS 0 rfl rfl) (by simp[Value.oneCell']) rfl (by omega) (by omega) (by decide) fun A5 c5=>?_;dsimp only[List.set,List.nil_append];refine aB ?_;refine eK fun g3=>?_;refine gJ 3 1 24 1 (n':=k+1) (el:=22) (by kernel_rfl) (by kernel_rfl) (by decide) rfl rfl rfl (nS 0 rfl rfl) (by simp[Value.oneCell']) rfl (by omega) (by omega) (by decide) fun A6 c6=>?_;dsimp only[List.set];refine aB ?_;refine dP [q] [2] [3,4] (by simp) rfl (by decide) (by decide) fun q' mJ hle Fv=>?_;obtain⟨Fg,Nc,Mw⟩:=mJ 2 _ (by simp) rfl;obtain⟨A7,c7,e7,wZ⟩:=vA (Y:=q'.Z) Nc Mw
   injection e7 with f1 f2 f3
   subst f1;exact dZ (n2 - (k+1)) ⟨k+1,vs++[_],q',A6,c6,by omega,rfl,Fv (by simp) (by simpa using rH),Js hrows (hle q (by simp)) yO (by rw[if_neg hab];exact⟨A5,1,c5,rfl,rfl,wZ⟩),rfl,rfl,rfl⟩
  ·
   refine aB ?_;refine eK fun g4=>?_;refine gJ 1 1 24 1 (n':=k+1) (el:=22) (by kernel_rfl) (by kernel_rfl) (by decide) rfl rfl rfl (nS 0 rfl rfl) (by simp[Value.oneCell']) rfl (by omega) (by omega) (by decide) fun A6 c6=>?_;dsimp only[List.set];refine aB ?_;exact dZ (n2 - (k+1)) ⟨k+1,vs++[_],q,A6,c6,by omega,rfl,rH,Js hrows (fun b hb=>⟨hb,rfl⟩) yO (by rw[if_pos (Classical.not_not.1 hab)];exact⟨_,0,0,rfl,rfl,aI.nil _ 1⟩),rfl,rfl,rfl⟩
 ·
  refine aB ?_;obtain rfl:k=n2:=by omega
  rw[List.take_of_length_le (by simp[gO];omega)] at hrows;refine aB ?_;refine dP [q] [0] [] (by simp) rfl (by decide) (by decide) fun q2 hq hle hfr=>?_
  have kL:k=(gO s).length:=by simp[gO];omega
  exact aT (h:=fun w1 st=>⟨_,rfl,Ag,cg,by rw[←kL],by rw[←kL];exact(aF1 hrows (hle q (by simp)) (hq 0 _ (by simp) rfl) kL).le (st.mK (by simp) (hfr (by simp) (by simpa using rH)))⟩)
end
section
def wB(n j:Nat):List Value:=(List.replicate j (Value.bool true))++List.replicate (n - j) (.bool false)
theorem aSb{n j:Nat}(h:j≤n):(wB n j).length=n:=by simp[wB];omega
theorem aJh{n j v:Nat}(h:v < j):(wB n j)[v]? =some (.bool true):=by
 rw[wB,List.getElem?_append_left (by simpa using h),List.getElem?_replicate,if_pos h]
theorem aSc{n j:Nat}(h:j < n):(wB n j)[j]? =some (.bool false):=by
 rw[wB,List.getElem?_append_right (by simp)];simp[List.getElem?_replicate];omega
theorem aSa{n j:Nat}(h:j < n):(wB n j).set j (.bool true)=wB n (j+1):=by
 unfold wB;rw[List.set_append_right _ _ (by simp),List.length_replicate,Nat.sub_self,show n - j=(n - (j+1))+1 by omega,List.replicate_succ,List.set_cons_zero,List.replicate_succ' (n:=j),List.append_assoc];rfl
theorem aI.aDB{w:World}{A:Option Addr}{n:Nat}{l:List Int}(h:aI (all w) 1 A n (aK l))(hn:0 < n):∃b off,A=some ⟨b,off,none⟩∧∀(i:Nat) (x:Int),l[i]? =some x→fQ w b (off+i) (iv x):=by
 obtain⟨b,off,hA,hb,hc⟩:=h.2 hn;refine⟨b,off,hA,fun i x hx=>⟨hb,hc i _ ?_⟩⟩;simp only[aK,List.getElem?_map,hx,Option.map_some]
theorem aNM(j:Nat):aK (dM (List.range j))++[iv (j:Int)]=aK (dM (List.range (j+1))):=by
 rw[List.range_succ];simp[aK,dM]
def aHh(n:Nat)(v:Value)(w w':World):Prop:=∃A c,v=.slice A n c∧aI (fresh w w') 1 A n (aK (dM (List.range n)))
theorem aNx(A:Option Addr)(n c:Nat)(g:List (List Int))(w:World)(hg:nD (all w) A n g)(hn:n=g.length)(hn2:n≤100)(Fu:∀l∈g,l.length≤1000000)(aBr:∀(v:Nat) (l:List Int),g[v]? =some l→∀y∈l,0≤y∧y < (v:Int)):
  Cz 236 #[.slice A n c] w (fun y w'=>(∃v,y=.returned v∧aHh n v w w')∧Below w.heap.size w w'):=by
 refine aM func236 ntmps236 ?_;refine aB ?_;refine iN 3 1 ?_;refine lO 1 (n:=n) (el:=4) (z:=.bool false) (by kernel_rfl) (by kernel_rfl) rfl rfl rfl (by omega) (by omega) (by decide) fun g1=>?_;refine aB ?_;refine bL [(5,.bool true),(4,.slice (some ⟨g1,0,none⟩) n n),(3,sn),(0,.slice A n c)] ?_;refine aB ?_;refine eJ (fun m e R H=>∃(j:Nat) (mo:Bool) (Ao:Option Addr) (co:Nat),j≤n∧(mo=false→j=n)∧m=2*(n - j)+mo.toNat∧e=[(5,.bool mo),(4,.slice (some ⟨g1,0,none⟩) n n),(3,.slice Ao j co),(0,.slice A n c)]∧R=[all w]∧H=[HP.aE g1 4 (wB n j),HP.own 3 1 (.slice Ao j co) j (aK (dM (List.range j)))]) (2*n+1) ⟨0,true,none,0,by omega,(fun h=>by cases h),by simp,rfl,rfl,by simp[wB,aK,dM]⟩ fun m e R H hI=>?_;obtain⟨j,mo,Ao,co,hj,hmo,rfl,rfl,rfl,rfl⟩:=hI;refine aB ?_;refine qD rfl (fun h=>?_) (fun h=>?_)
 ·
  refine aB ?_;subst h;refine aB ?_;refine bL [(6,iv 0),(5,.bool false),(4,.slice (some ⟨g1,0,none⟩) n n),(3,.slice Ao j co),(0,.slice A n c)] ?_;refine aB ?_;refine eJ (fun m e R H=>∃(v:Nat) (mi:Bool) (jj:Nat) (Ao:Option Addr) (co:Nat),v≤n∧((mi=false∧jj=j∧v≤j)∨(mi=true∧jj=j+1∧j < n∧v=j+1))∧m=n - v∧e=[(6,iv v),(5,.bool mi),(4,.slice (some ⟨g1,0,none⟩) n n),(3,.slice Ao jj co),(0,.slice A n c)]∧R=[all w]∧H=[HP.aE g1 4 (wB n jj),HP.own 3 1 (.slice Ao jj co) jj (aK (dM (List.range jj)))]) n ⟨0,false,j,Ao,co,by omega,.inl ⟨rfl,rfl,by omega⟩,rfl,rfl,rfl,rfl⟩ fun m e R H hI=>?_;obtain⟨v,mi,jj,Ao,co,hv,hst,rfl,rfl,rfl,rfl⟩:=hI;refine cP ?_;refine aAf 20 (v < n∧mi=false) ?_ ?_
  ·skip
   refine aB ?_
   (first | refine bQ (t:=17) rfl (fun hg=>?_) (fun hg=>?_) | refine sM (t:=17) rfl (fun hg=>?_) (fun hg=>?_))
   ·
    refine fG rfl rfl ?_;refine cQ rfl (by decide) ?_;refine fG rfl rfl ?_;(first | refine Md rfl (by decide) ?_ | refine zL rfl (by decide) ?_)
    (first | refine qE rfl rfl (by decide) ?_ | refine qF rfl rfl (by decide) ?_)
    refine dO ?_;exact Tk
   ·
    refine fR rfl rfl rfl (by decide) ?_;refine fR rfl rfl rfl (by decide) ?_
    (first | refine qE rfl rfl (by decide) ?_ | refine qF rfl rfl (by decide) ?_)
    refine dO ?_;exact Tk
  refine aG rfl (fun hin=>?_) (fun hin=>?_)
  ·
   refine mA ?_;refine dS ?_;refine cP ?_;refine sJ ?_;refine cP ?_;obtain⟨Kf,hmf⟩:=hin
   obtain⟨hvj,hjj⟩:v≤j∧jj=j:=by
    rcases hst with⟨_,h2,h3⟩ | ⟨h1,_⟩
    ·exact⟨h3,h2⟩
    ·rw[hmf] at h1;cases h1
   subst hjj;subst hmf;clear hst;obtain⟨l,hl⟩:∃l,g[v]? =some l:=⟨g[v]'(by omega),List.getElem?_eq_getElem _⟩
   have hlt:=aBr v l hl
   have hlen:=Fu l (List.mem_of_getElem? hl)
   obtain⟨bG,oG,Al,kl,rfl,hcG,qN⟩:=hg.row hl
   have rI:(wB n jj)[v]? =some (.bool (decide (¬v=jj))):=by
    by_cases aBj:v=jj
    ·subst aBj;rw[aSc Kf];simp
    ·rw[aJh (by omega)];simp[aBj]
   refine eC ?_;refine cQ rfl (by decide) ?_;refine cQ rfl (by decide) ?_;refine kd (dat v v) ?_;refine jE (by kernel_rfl) rfl (Rd.aE 0 rfl rI) (by decide) ?_;refine Md rfl (by decide) ?_;rw[show decide (¬¬v=jj)=decide (v=jj) by simp];refine aB ?_;refine bL [(8,iv 0),(7,.bool (decide (v=jj))),(6,iv v),(5,.bool false),(4,.slice (some ⟨g1,0,none⟩) n n),(3,.slice Ao jj co),(0,.slice (some ⟨bG,oG,none⟩) n c)] ?_;refine aB ?_;refine eJ (fun m e R H=>∃(i:Nat) (rb:Bool),i≤l.length∧rb=decide (v=jj)∧m=l.length - i∧e=[(8,iv i),(7,.bool rb),(6,iv v),(5,.bool false),(4,.slice (some ⟨g1,0,none⟩) n n),(3,.slice Ao jj co),(0,.slice (some ⟨bG,oG,none⟩) n c)]∧R=[all w]∧H=[HP.aE g1 4 (wB n jj),HP.own 3 1 (.slice Ao jj co) jj (aK (dM (List.range jj)))]) l.length ⟨0,_,by omega,rfl,rfl,rfl,rfl,rfl⟩ fun m e R H hI=>?_;obtain⟨i,rb,hi,hrb,rfl,rfl,rfl,rfl⟩:=hI;refine aA ?_;refine kd (dat v (oG+v)) ?_;refine aB ?_;refine aG rfl (fun hil=>?_) (fun hil=>?_)
   ·
    refine aB ?_
    have aBt:i < l.length:=by have h':(i:Int) < (l.length:Int):=hil;omega
    obtain⟨y,hy⟩:∃y,l[i]? =some y:=⟨_,List.getElem?_eq_getElem aBt⟩
    have hyb:=hlt y (List.mem_of_getElem? hy)
    obtain⟨bI,oI,hAI,Nn⟩:=qN.aDB (by omega);subst hAI
    have Kr:=Nn i y hy
    refine aB ?_;refine sM (t:=38) rfl (fun Xh=>?_) (fun Xh=>?_)
    ·
     have hdy:(wB n jj)[y.toNat]? =some (.bool true):=aJh (by omega)
     refine aA ?_;refine kd (dat v (oG+v)) ?_;refine aA ?_;refine kd (dat i (oI+i)) ?_;refine fG rfl rfl ?_;refine jE (by kernel_rfl) rfl (Ca (by simp) Kr) (by decide) ?_;refine fG rfl rfl ?_;refine kd (dat y.toNat y.toNat) ?_;refine fG rfl rfl ?_;refine jE (by kernel_rfl) rfl (Rd.aE 0 rfl hdy) (by decide) ?_
     (first | refine qE rfl rfl (by decide) ?_ | refine qF rfl rfl (by decide) ?_)
     refine fP rfl (by decide) ?_;refine dO ?_;refine eC ?_;refine cQ rfl (by decide) ?_;refine zO rfl rfl (iR (by omega)) (by decide) ?_;refine fP rfl (by decide) ?_;refine dO ?_;exact dZ (l.length - (i+1)) ⟨i+1,true,by omega,by rw[←hrb,Xh],rfl,rfl,rfl,rfl⟩
    ·
     refine aB ?_;exact dZ (l.length - (i+1)) ⟨i+1,false,by omega,by rw[←hrb,Xh],rfl,rfl,rfl,rfl⟩
   ·
    refine aB ?_;refine qD rfl (fun hrd=>?_) (fun hrd=>?_)
    ·
     refine aB ?_
     have aBj:v=jj:=of_decide_eq_true (hrb▸hrd)
     subst aBj;refine aB ?_;refine tH 0 rfl (by kernel_rfl) rfl rfl rfl (by rw[aSb (by omega)];omega) ?_;dsimp only[List.set];rw[aSa Kf];refine aB ?_;refine eK fun g2=>?_;refine gJ 2 1 8 1 (n':=v+1) (el:=3) (by kernel_rfl) (by kernel_rfl) (by decide) rfl rfl rfl (nS 0 rfl rfl) (by simp[Value.oneCell']) rfl (by omega) (by omega) (by decide) fun A9 c9=>?_;dsimp only[List.set];rw[aNM];refine aB ?_;exact dZ (n - (v+1)) ⟨v+1,true,v+1,A9,c9,by omega,.inr ⟨rfl,rfl,Kf,rfl⟩,rfl,rfl,rfl,rfl⟩
    ·
     refine aB ?_;exact dZ (n - (v+1)) ⟨v+1,false,jj,Ao,co,by omega,.inl ⟨rfl,rfl,by have hne:¬v=jj:=of_decide_eq_false (hrb▸hrd);omega⟩,rfl,rfl,rfl,rfl⟩
  ·
   refine aB ?_;rcases hst with⟨rfl,rfl,h3⟩ | ⟨rfl,rfl,h3,rfl⟩
   ·have hjn:jj=n:=by
     rcases Nat.lt_or_ge v n with h9 | h9
     ·exact absurd ⟨h9,rfl⟩ hin
     ·omega
    exact dZ (2*(n - jj)+0) ⟨jj,false,Ao,co,by omega,(fun _=>hjn),by simp,rfl,rfl,rfl⟩ (hm:=by simp)
   ·exact dZ (2*(n - (j+1))+1) ⟨j+1,true,Ao,co,by omega,(fun h=>by cases h),by simp,rfl,rfl,rfl⟩ (hm:=by simp;omega)
 ·
  refine aB ?_;obtain rfl:=hmo h;refine dP [] [1] [] (by simp) rfl (by decide) (by decide) fun q hq _ hfr=>?_;obtain⟨F1,sf1,zf1⟩:=hq 1 _ (by simp) rfl;obtain⟨A8,c8,e8,h8⟩:=vA (Y:=q.Z) sf1 zf1
  injection e8 with f1 f2 f3
  subst f1;exact aT (h:=fun w1 st=>⟨_,rfl,Ao,co,rfl,aI.le h8 (st.mK (by simp) (hfr (by simp) (by simp)))⟩)
end
section
theorem aDf(A:Option Addr)(n c:Nat)(g:List (List Int))(w:World)(hg:nD (all w) A n g)(hn:n=g.length)(hn2:n≤100)(Fu:∀l∈g,l.length≤1000000)(aBr:∀(v:Nat) (l:List Int),g[v]? =some l→∀y∈l,0≤y∧y < (v:Int)):
  Cz 214 #[.slice A n c] w (Rt (iv 0) w):=by
 refine aM func214 ntmps214 ?_;refine aB ?_;refine aG rfl (fun h=>absurd h (by omega)) (fun h=>?_)
 ·
  refine aB ?_;refine bL [(3,iv 0),(0,.slice A n c)] ?_;refine aB ?_;refine eJ (fun m e R H=>∃(v:Nat),v≤n∧m=n - v∧e=[(3,iv v),(0,.slice A n c)]∧R=[all w]∧H=[]) n ⟨0,by omega,rfl,rfl,rfl,rfl⟩ fun m e R H hI=>?_;obtain⟨v,hv,rfl,rfl,rfl,rfl⟩:=hI;refine aB ?_;refine aG rfl (fun hvl=>?_) (fun hvl=>?_)
  ·
   refine aB ?_
   have Kf:v < n:=by have h':(v:Int) < (n:Int):=hvl;omega
   obtain⟨l,hl⟩:∃l,g[v]? =some l:=⟨g[v]'(by omega),List.getElem?_eq_getElem _⟩
   have hlt:=aBr v l hl
   have hlen:=Fu l (List.mem_of_getElem? hl)
   obtain⟨bG,oG,Al,kl,rfl,hcG,qN⟩:=hg.row hl;refine aB ?_;refine bL [(4,iv 0),(3,iv v),(0,.slice (some ⟨bG,oG,none⟩) n c)] ?_;refine aB ?_;refine eJ (fun m e R H=>∃(i:Nat),i≤l.length∧m=l.length - i∧e=[(4,iv i),(3,iv v),(0,.slice (some ⟨bG,oG,none⟩) n c)]∧R=[all w]∧H=[]) l.length ⟨0,by omega,rfl,rfl,rfl,rfl⟩ fun m e R H hI=>?_;obtain⟨i,hi,rfl,rfl,rfl,rfl⟩:=hI;refine aA ?_;refine kd (dat v (oG+v)) ?_;refine aB ?_;refine aG rfl (fun hil=>?_) (fun hil=>?_)
   ·
    refine mA ?_;refine dS ?_;refine cP ?_;refine sJ ?_
    have aBt:i < l.length:=by have h':(i:Int) < (l.length:Int):=hil;omega
    obtain⟨y,hy⟩:∃y,l[i]? =some y:=⟨_,List.getElem?_eq_getElem aBt⟩
    have hyb:=hlt y (List.mem_of_getElem? hy)
    obtain⟨bI,oI,hAI,Nn⟩:=qN.aDB (by omega);subst hAI
    have Kr:=Nn i y hy
    refine aAf 42 (False) ?_ ?_
    ·skip
     refine aA ?_;refine kd (dat v (oG+v)) ?_;refine aA ?_;refine kd (dat i (oI+i)) ?_;refine aB ?_
     (first | refine bQ (t:=31) rfl (fun hg=>?_) (fun hg=>?_) | refine sM (t:=31) rfl (fun hg=>?_) (fun hg=>?_))
     ·
      refine fR rfl rfl rfl (by decide) ?_;refine fR rfl rfl rfl (by decide) ?_;refine fR rfl rfl rfl (by decide) ?_;refine fR rfl rfl rfl (by decide) ?_;refine fR rfl rfl rfl (by decide) ?_;refine fR rfl rfl rfl (by decide) ?_;refine fR rfl rfl rfl (by decide) ?_;refine fR rfl rfl rfl (by decide) ?_;refine fR rfl rfl rfl (by decide) ?_;refine fR rfl rfl rfl (by decide) ?_
      (first | refine qE rfl rfl (by decide) ?_ | refine qF rfl rfl (by decide) ?_)
      refine dO ?_;exact Tm (by repeat (first | exact trivial | refine⟨rfl,?_⟩)) (by first | (exfalso;omega) | (refine Sf rfl ⟨fun hh=>?_,fun hh=>hh.elim⟩;omega) | (refine Ye rfl ?_;exact id))
     ·
      refine fG rfl rfl ?_;refine cQ rfl (by decide) ?_;refine fG rfl rfl ?_;refine cQ rfl (by decide) ?_;refine fG rfl rfl ?_;refine kd (dat v (oG+v)) ?_;refine aA ?_;refine kd (dat i (oI+i)) ?_;refine fG rfl rfl ?_;refine jE (by kernel_rfl) rfl (Ca (by simp) Kr) (by decide) ?_;refine fG rfl rfl ?_;refine cQ rfl (by decide) ?_;refine fG rfl rfl ?_;refine El (el:=22) (by kernel_rfl) rfl (by decide) ?_;refine fG rfl rfl ?_;refine aFP rfl rfl (by decide) ?_
      (first | refine qE rfl rfl (by decide) ?_ | refine qF rfl rfl (by decide) ?_)
      refine dO ?_;exact Tm (by repeat (first | exact trivial | refine⟨rfl,?_⟩)) (by first | (exfalso;omega) | (refine Sf rfl ⟨fun hh=>?_,fun hh=>hh.elim⟩;omega) | (refine Ye rfl ?_;exact id))
    refine qD rfl (fun h=>by simp at h) (fun _=>?_)
    ·
     refine aB ?_;exact dZ (l.length - (i+1)) ⟨i+1,by omega,rfl,rfl,rfl,rfl⟩
   ·
    refine aB ?_;exact dZ (n - (v+1)) ⟨v+1,by omega,rfl,rfl,rfl,rfl⟩
  ·
   refine aB ?_;refine jR [] (aHh n) (fun w1 st=>aNx _ n c g w1 (hg.le (jU (st.started (by simp)))) hn hn2 Fu aBr) ?_;rintro _ w1 q1 ⟨Ao,co,rfl,ho⟩ hf _ qP
   have ho:=ho.le hf
   clear hf;refine aB ?_;refine aG rfl (fun h=>absurd h (by omega)) (fun h=>?_)
   ·
    refine aB ?_;exact aT (h:=fun _ _=>rfl)
end
section
theorem aHd(v n:Int)(w:World):Cz 216 #[iv v,iv n] w (Rt (.bool (decide (0≤v∧v < n))) w):=by
 refine aM func216 ntmps216 ?_;refine aB ?_;refine bQ (t:=7) rfl (fun hg=>?_) (fun hg=>?_)
 ·
  refine aB ?_;rw[show decide (0≤v∧v < n)=decide (v < n) from decide_eq_decide.2 ⟨fun h=>h.2,fun h=>⟨hg,h⟩⟩];exact aT (h:=fun _ _=>rfl)
 ·
  refine aB ?_;rw[show decide (0≤v∧v < n)=false from decide_eq_false (fun h=>hg h.1)];exact aT (h:=fun _ _=>rfl)
theorem aDd(v a b:Int)(w:World):Cz 158 #[iv v,iv a,iv b] w (Rt (.bool (decide (a≤v∧v≤b))) w):=by
 refine aM func158 ntmps158 ?_;refine aB ?_;refine bQ (t:=10) rfl (fun hg=>?_) (fun hg=>?_)
 ·
  refine aB ?_;rw[show decide (a≤v∧v≤b)=decide (v≤b) from decide_eq_decide.2 ⟨fun h=>h.2,fun h=>⟨hg,h⟩⟩];exact aT (h:=fun _ _=>rfl)
 ·
  refine aB ?_;rw[show decide (a≤v∧v≤b)=false from decide_eq_false (fun h=>hg h.1)];exact aT (h:=fun _ _=>rfl)
set_option maxRecDepth 100000 in
theorem aN4(c:eF)(k0 nn:Nat)(As:Option Addr)(ns ks:Nat)(w:World)(hs:aI (all w) 1 As ns (aK c.src))(hns:ns=c.src.length)(hf:c.fit k0)(hk:k0≤nn)(hnn:nn≤1000):Cz 213 #[.agg #[.int .u8 c.kind,.slice As ns ks,.int .u64 c.rate,iv c.mul,iv c.div,iv c.lock],iv (nn:Int)] w (Rt (iv 0) w):=by
  have hk9:=hf.1
  have hc:(c.kind=111∧ns=0∧1≤c.rate∧c.rate≤1000000)∨(c.kind=112∧ns=1∧1≤c.mul∧c.mul≤8∧1≤c.div∧c.div≤4∧0≤c.lock∧c.lock≤3)∨(c.kind=100∧ns=1∧1≤c.div∧c.div≤8)∨(c.kind=103∧ns=1)∨(c.kind=109∧ns=2):=by
    rcases hf.2 with h | h | h | h | h
    · exact .inl ⟨h.1,by rw[hns,h.2.1];rfl,h.2.2.1,h.2.2.2.1⟩
    · omega
    · omega
    · omega
    · omega
  clear hf;obtain⟨kind,src,rate,mul,div,lock⟩:=c;dsimp only at hs hns hk9 hc⊢
  have win:∀v a b:Int,a≤v∧v≤b→∀w1,Cz 158 #[iv v,iv a,iv b] w1 (Rt (.bool true) w1):=fun v a b h w1=>by
    have:=aDd v a b w1
    rwa [decide_eq_true h] at this
  have inn:∀v:Int,v∈src→∀w1,Cz 216 #[iv v,iv (nn:Int)] w1 (Rt (.bool true) w1):=fun v h w1=>by
    have:=aHd v nn w1
    have h2:=hk9 v h
    rwa [decide_eq_true (by omega)] at this
  refine aM func213 ntmps213 ?_;refine aB ?_;refine bA fun g1=>?_;rcases hc with⟨rfl,rfl,h⟩ | ⟨rfl,rfl,h⟩ | ⟨rfl,rfl,h⟩ | ⟨rfl,rfl⟩ | ⟨rfl,rfl⟩
  all_goals
    refine aB ?_
  · refine Ot (fun i=>[(7,iv i),(5,_),(2,pt g1),(1,iv nn)]) 4 fun i hi=>?_
    refine aB ?_;refine bQ (t:=68) rfl (fun h3=>by omega) (fun _=>?_);refine aB ?_;refine aG rfl (fun h3=>by omega) (fun _=>?_);refine aB ?_;exact cY
  rotate_left 3
  refine aU (fun w1 t=>win ((2:Nat):Int) 1 4 (by decide) w1) ?_;refine aB ?_
  rotate_left
  all_goals
    refine Ot (fun i=>[(7,iv i),(5,_),(2,pt g1),(1,iv nn)]) 4 fun i hi=>?_;refine aB ?_;refine aG rfl (fun h2=>?_) (fun h2=>?_)
    · obtain⟨f,hf⟩:=get_some (l:=src) (i:=i) (by omega)
      obtain⟨b,off,rfl,gA,iB⟩:=hs.2 (by omega)
      have Nl:fQ w b (off+i) (iv f):=⟨gA,iB i _ (by simp[aK,hf])⟩
      refine aB ?_;refine aU (fun w1 t=>inn f (List.mem_of_getElem? hf) w1) ?_;refine aB ?_;exact jJ ()
    refine aB ?_
  · refine aU (fun w1 t=>win mul 1 1000 (by omega) w1) ?_
    refine aB ?_;refine aU (fun w1 t=>win div 1 1000 (by omega) w1) ?_;refine aB ?_;refine aU (fun w1 t=>win lock 0 20 (by omega) w1) ?_;refine aB ?_;exact cY
  · refine aU (fun w1 t=>win div 1 1000 (by omega) w1) ?_
    refine aB ?_;exact cY
  all_goals exact cY
theorem aN1(s:aD)(A1 A2 A3 A4:Option Addr)(n1 k1 n2 k2 n3 k3 n4 k4:Nat)(w:World)(hW:fL w s A1 n1 A2 n2 A3 n3 A4 n4)(hm:s.made):Cz 155 #[.agg #[.slice A1 n1 k1,.slice A2 n2 k2,.slice A3 n3 k3,.slice A4 n4 k4]] w (Rt (.bool true) w):=by
 have pJ:=hW.nH
 have hn2:=hW.nT
 have pI:=hW.pU
 have rG:=hW.oK
 have hnc:=hm.nc
 have hnd:=hm.nd
 have iJ:=hm.nr
 have lX:=hm.nv
 have cR:=hW.small
 refine aM func155 ntmps155 ?_;refine aB ?_;refine bA fun g1=>?_;refine aB ?_;refine bQ (t:=8) rfl (fun h=>by omega) (fun _=>?_);refine aB ?_;refine bQ (t:=14) rfl (fun h=>by omega) (fun _=>?_);refine aB ?_;refine bQ (t:=20) rfl (fun h=>by omega) (fun _=>?_);refine aB ?_;refine aG rfl (fun h=>by omega) (fun _=>?_);refine aB ?_;refine Ot (fun i=>[(3,iv i),(1,pt g1)]) n4 fun i hi=>?_;refine aB ?_;refine aG rfl (fun h=>?_) (fun h=>?_)
 ·obtain⟨d,hd⟩:∃d,s.aC[i]? =some d:=⟨_,List.getElem?_eq_getElem (by omega)⟩
  obtain⟨b,off,r,rfl,hrl,hR,hro⟩:=hW.dev.row hd;obtain⟨Ar,nr,kr,An,nn,kn,rfl,aIo,aPX,Kg,hsn⟩:=hR;obtain⟨_,_,_,_,_,_,_,_,hd9,_,aQ3,_⟩:=hm.aC i d hd
  have h4:=hro.at_ (j:=4) rfl
  have h5:=hro.at_ (j:=5) rfl
  refine aB ?_;refine bQ (t:=41) rfl (fun h=>by omega) (fun _=>?_);refine aB ?_;refine aG rfl (fun h=>by omega) (fun _=>?_);refine aB ?_;exact jJ ()
 ·refine aB ?_;exact cY
theorem Vl{v n:Int}(h:0≤v∧v < n)(w:World):Cz 216 #[iv v,iv n] w (Rt (.bool true) w):=by
 have:=aHd v n w
 rwa [decide_eq_true h] at this
theorem aHc{v a b:Int}(h:a≤v∧v≤b)(w:World):Cz 158 #[iv v,iv a,iv b] w (Rt (.bool true) w):=by
 have:=aDd v a b w
 rwa [decide_eq_true h] at this
theorem aN3(s:aD)(A1 A2 A3 A4:Option Addr)(n1 k1 n2 k2 n3 k3 n4 k4:Nat)(w:World)(hW:fL w s A1 n1 A2 n2 A3 n3 A4 n4)(hm:s.made):Cz 156 #[.agg #[.slice A1 n1 k1,.slice A2 n2 k2,.slice A3 n3 k3,.slice A4 n4 k4]] w (Rt (iv 0) w):=by
 have pJ:=hW.nH
 have hn2:=hW.nT
 have pI:=hW.pU
 have rG:=hW.oK
 have hnc:=hm.nc
 have hnd:=hm.nd
 have iJ:=hm.nr
 have lX:=hm.nv
 have cR:=hW.small
 unfold aD.small at cR;obtain⟨hs1,fW,sA,tM,oM,pG⟩:=cR;refine aM func156 ntmps156 ?_;refine aB ?_;refine bA fun g1=>?_;refine aB ?_;refine Ot (fun i=>[(3,iv i),(1,pt g1)]) n1 fun i hi=>?_;refine aB ?_;refine aG rfl (fun h=>?_) (fun h=>?_)
 ·obtain⟨c,hc⟩:∃c,s.aF[i]? =some c:=⟨_,List.getElem?_eq_getElem (by omega)⟩
  obtain⟨b,off,r,rfl,hrl,hR,hro⟩:=hW.jM.row hc;obtain⟨Af,nf,kf,rfl,hnf,pV⟩:=hR
  have hfit:=hm.aF i c hc
  refine aB ?_;refine aAd ?_;refine aL 8 ?_;refine aU (fun w1 st=>aN4 c i n1 Af nf kf w1 (aI.le pV (jU (st.started (by simp)))) hnf hfit (by omega) (by omega)) ?_;refine bH ?_;refine nB 9 ?_;refine fE ?_;refine aB ?_;exact jJ ()
 ·refine aB ?_;refine jR [] (wN (gP s)) (fun w1 st=>aN2 s A1 A2 A3 A4 n1 k1 n2 k2 n3 k3 n4 k4 w1 (hW.le (st.started (by simp)))) ?_;rintro _ w1 q1 ⟨Ag,cg,rfl,lI⟩ hf hle hfr
  have lI:=lI.le hf
  refine aB ?_
  refine aU (fun w1 st=>aDf Ag _ cg (gP s) w1 (lI.le (st.le (by simp))) rfl (by simp[gP];omega) (fun l hl=>by
   simp only[gP,List.mem_map] at hl;obtain⟨z,hz,rfl⟩:=hl
   have:=oM z hz;omega) (aHM hm)) ?_
  refine aB ?_;exact cY
theorem aNz(s:aD)(A1 A2 A3 A4:Option Addr)(n1 k1 n2 k2 n3 k3 n4 k4:Nat)(w:World)(hW:fL w s A1 n1 A2 n2 A3 n3 A4 n4)(hm:s.made):Cz 157 #[.agg #[.slice A1 n1 k1,.slice A2 n2 k2,.slice A3 n3 k3,.slice A4 n4 k4]] w (Rt (iv 0) w):=by
 have pJ:=hW.nH
 have hn2:=hW.nT
 have pI:=hW.pU
 have rG:=hW.oK
 have hnc:=hm.nc
 have hnd:=hm.nd
 have iJ:=hm.nr
 have lX:=hm.nv
 refine aM func157 ntmps157 ?_;refine aB ?_;refine bA fun g1=>?_;refine aB ?_;refine Ot (fun i=>[(3,iv i),(1,pt g1)]) n2 fun i hi=>?_;refine aB ?_;refine aG rfl (fun h=>?_) (fun h=>?_)
 ·obtain⟨d,hd⟩:∃d,s.domains[i]? =some d:=⟨_,List.getElem?_eq_getElem (by omega)⟩
  obtain⟨b,off,r,rfl,hrl,rfl,hro⟩:=hW.dom.row hd;obtain⟨dF,Rz,nK⟩:=hm.domains i d hd;refine aB ?_;refine bX fun g2=>?_;refine aB ?_;refine bQ (t:=20) rfl (fun h2=>?_) (fun h2=>?_)
  ·refine aB ?_;refine aU (fun w1 _=>Vl (v:=d.above) (n:=(n2:Nat)) (by omega) w1) ?_;refine aB ?_;refine aU (fun w1 _=>aHc (v:=d.delay) (a:=0) (b:=20) (by omega) w1) ?_;refine aB ?_;exact jJ ()
  ·refine aB ?_;refine aU (fun w1 _=>aHc (v:=d.delay) (a:=0) (b:=20) (by omega) w1) ?_;refine aB ?_;exact jJ ()
 ·refine aB ?_;refine jR [] (wN (gO s)) (fun w1 st=>aNy s A1 A2 A3 A4 n1 k1 n2 k2 n3 k3 n4 k4 w1 (hW.le (st.started (by simp)))) ?_;rintro _ w1 q1 ⟨Ag,cg,rfl,lI⟩ hf hle hfr
  have lI:=lI.le hf
  refine aB ?_
  refine aU (fun w1 st=>aDf Ag _ cg (gO s) w1 (lI.le (st.le (by simp))) rfl (by simp[gO];omega) (fun l hl=>by
   simp only[gO,List.mem_map] at hl;obtain⟨z,_,rfl⟩:=hl
   split<;>simp) (aHK hm)) ?_
  refine aB ?_;exact cY
theorem aDe(s:aD)(A1 A2 A3 A4:Option Addr)(n1 k1 n2 k2 n3 k3 n4 k4:Nat)(w:World)(hW:fL w s A1 n1 A2 n2 A3 n3 A4 n4):
  Cz 160 #[.agg #[.slice A1 n1 k1,.slice A2 n2 k2,.slice A3 n3 k3,.slice A4 n4 k4]] w (fun y w'=>(∃v,y=.returned v∧wN (bP s) v w w')∧Below w.heap.size w w'):=by
 have hn:=hW.oK
 have cR:=hW.small
 unfold aD.small at cR;obtain⟨hs1,fW,sA,tM,oM,pG⟩:=cR;refine aM func160 ntmps160 ?_;refine cP ?_;refine eC ?_;refine bA fun g1=>?_;refine fP rfl (by decide) ?_;refine dO ?_;refine cP ?_;refine eC ?_;refine fP rfl (by decide) ?_;refine dO ?_;refine cP ?_;refine cP ?_;refine eC ?_;refine fP rfl (by decide) ?_;refine dO ?_;refine bL [(4,iv 0),(3,sn),(1,pt g1)] ?_;refine iN 22 1 ?_;refine dP [] [] [0,1] (by simp) rfl (by decide) (by decide) fun q0 _ _ Dg=>?_;refine sJ ?_;refine eJ (fun m e R H=>∃(k:Nat) (vs:List Value) (q:Piece) (Ag:Option Addr) (cg:Nat),k≤n4∧m=n4 - k∧qY w q∧Rows (qW (fH q)) 1 ((bP s).take k) (vs.map fun v=>[v])∧e=[(4,iv k),(3,.slice Ag k cg),(1,pt g1)]∧R=[q,all w]∧H=[HP.own 22 1 (.slice Ag k cg) k vs,HP.aE g1 30 [.slice A1 n1 k1,.slice A2 n2 k2,.slice A3 n3 k3,.slice A4 n4 k4]]) n4 ⟨0,[],_,none,0,by omega,rfl,Dg (by simp) (by simp),trivial,rfl,rfl,rfl⟩ fun m e R H hI=>?_;obtain⟨k,vs,q,Ag,cg,hk,rfl,rH,hrows,rfl,rfl,rfl⟩:=hI;refine cP ?_;refine cP ?_;refine eC ?_;refine cQ rfl (by decide) ?_;refine qG (off:=3) (by kernel_rfl) rfl (by decide) ?_;refine Em rfl ?_;refine El (el:=38) (by kernel_rfl) rfl (by decide) ?_;refine Pt rfl rfl (by decide) ?_;refine dO ?_;refine aG rfl (fun h=>?_) (fun h=>?_)
 ·
  refine mA ?_;refine dS ?_;refine cP ?_;refine sJ ?_
  have hkn:k < s.aC.length:=by omega
  obtain⟨e,he⟩:∃e,s.aC[k]? =some e:=⟨_,List.getElem?_eq_getElem hkn⟩
  obtain⟨b,off,r,rfl,hrl,hR,hro⟩:=hW.dev.row he;obtain⟨Ar,nr,kr,Af,nf,kf,rfl,aIo,hnf,Kg,pV⟩:=hR
  have yO:(bP s)[k]? =some (e.iS):=by simp[bP,he]
  refine eC ?_;refine cQ rfl (by decide) ?_;refine Ek (el:=3) (sz:=1) (by kernel_rfl) (by kernel_rfl) (by decide) fun g4=>?_;refine Bv 0 1 0 rfl rfl (by omega) ?_;dsimp only[List.set];refine qG (off:=3) (by kernel_rfl) rfl (by decide) ?_;refine Em rfl ?_;refine cQ rfl (by decide) ?_;refine kd (dat k (off+k*6)) ?_;refine qG (off:=5) (by kernel_rfl) rfl (by decide) ?_;refine jE (by kernel_rfl) rfl (Ca (by simp) (hro.at_ (j:=5) rfl)) (by decide) ?_;refine gJ 0 1 8 nf (n':=nf) (el:=3) (by kernel_rfl) (by kernel_rfl) (by decide) rfl rfl rfl (rE (p:=all w) (by simp) pV) (by simp[aK,Value.oneCell']) (by omega) (by have:=pG e (List.mem_of_getElem? he);omega) (by have:=pG e (List.mem_of_getElem? he);omega) (by decide) fun A5 c5=>?_;dsimp only[List.set,List.nil_append];refine eK fun g3=>?_;refine gJ 2 1 24 1 (n':=k+1) (el:=22) (by kernel_rfl) (by kernel_rfl) (by decide) rfl rfl rfl (nS 0 rfl rfl) (by simp[Value.oneCell']) rfl (by omega) (by omega) (by decide) fun A6 c6=>?_;dsimp only[List.set];refine fP rfl (by decide) ?_;refine dO ?_;refine eC ?_;refine cQ rfl (by decide) ?_;refine zO rfl rfl (iR (by omega)) (by decide) ?_;refine fP rfl (by decide) ?_;refine dO ?_;refine dP [q] [1] [2,3] (by simp) rfl (by decide) (by decide) fun q' mJ hle Fv=>?_;obtain⟨Fg,Nc,Mw⟩:=mJ 1 _ (by simp) rfl;obtain⟨A7,c7,e7,wZ⟩:=vA (Y:=q'.Z) Nc Mw
  injection e7 with f1 f2 f3
  subst f1;exact dZ (n4 - (k+1)) ⟨k+1,vs++[_],q',A6,c6,by omega,rfl,Fv (by simp) (by simpa using rH),Js hrows (hle q (by simp)) yO ⟨A5,nf,c5,rfl,hnf,wZ⟩,rfl,rfl,rfl⟩
 ·
  refine aAb ?_;refine dS ?_;refine cP ?_;obtain rfl:k=n4:=by omega
  rw[List.take_of_length_le (by simp[bP];omega)] at hrows;refine eC ?_;refine cQ rfl (by decide) ?_;refine fP rfl (by decide) ?_;refine dO ?_;refine Lp ?_;refine dS ?_;refine dP [q] [0] [] (by simp) rfl (by decide) (by decide) fun q2 hq hle hfr=>?_
  have kL:k=(bP s).length:=by simp[bP];omega
  exact aT (h:=fun w1 st=>⟨_,rfl,Ag,cg,by rw[←kL],by rw[←kL];exact(aF1 hrows (hle q (by simp)) (hq 0 _ (by simp) rfl) kL).le (st.mK (by simp) (hfr (by simp) (by simpa using rH)))⟩)
theorem aN0(s:aD)(A1 A2 A3 A4:Option Addr)(n1 k1 n2 k2 n3 k3 n4 k4:Nat)(w:World)(hW:fL w s A1 n1 A2 n2 A3 n3 A4 n4)(hm:s.made):Cz 159 #[.agg #[.slice A1 n1 k1,.slice A2 n2 k2,.slice A3 n3 k3,.slice A4 n4 k4]] w (Rt (iv 0) w):=by
 have pJ:=hW.nH
 have hn2:=hW.nT
 have pI:=hW.pU
 have rG:=hW.oK
 have hnc:=hm.nc
 have hnd:=hm.nd
 have iJ:=hm.nr
 have lX:=hm.nv
 have cR:=hW.small
 unfold aD.small at cR;obtain⟨hs1,fW,sA,tM,oM,pG⟩:=cR;refine aM func159 ntmps159 ?_;refine aB ?_;refine bA fun g1=>?_;refine aB ?_;refine Ot (fun i=>[(3,iv i),(1,pt g1)]) n4 fun i hi=>?_;refine aB ?_;refine aG rfl (fun h=>?_) (fun h=>?_)
 ·obtain⟨d,hd⟩:∃d,s.aC[i]? =some d:=⟨_,List.getElem?_eq_getElem (by omega)⟩
  obtain⟨b,off,r,rfl,hrl,hR,hro⟩:=hW.dev.row hd;obtain⟨Ar,nr,kr,An,nn,kn,rfl,aIo,aPX,Kg,hsn⟩:=hR;obtain⟨dF,Rz,nK,hd4,hd5,Bc,hd7,hd8,hd9,aVh,aQ3,aQ2⟩:=hm.aC i d hd;refine aB ?_;refine bX fun g2=>?_;refine aB ?_;refine aU (fun w1 _=>Vl (v:=d.clock) (n:=(n1:Nat)) (by omega) w1) ?_;refine aB ?_;refine aU (fun w1 _=>Vl (v:=d.domain) (n:=(n2:Nat)) (by omega) w1) ?_;refine aB ?_;refine aU (fun w1 _=>Vl (v:=d.reset) (n:=(n3:Nat)) (by omega) w1) ?_;refine aB ?_;refine Ot (fun k=>[(5,iv k),(4,pt g2),(3,iv i),(1,pt g1)]) nn fun k hk=>?_;refine aB ?_;refine aG rfl (fun h2=>?_) (fun h2=>?_)
  ·obtain⟨y,hy⟩:∃y,d.iS[k]? =some y:=⟨_,List.getElem?_eq_getElem (by omega)⟩
   have hyb:=aQ2 y (List.mem_of_getElem? hy)
   obtain⟨bI,oI,rfl,Nn⟩:=aI.aDB hsn (by omega)
   have Kr:=Nn k y hy
   refine aB ?_;refine aAd ?_;refine aL 8 ?_;refine aU (fun w1 _=>Vl (v:=y) (n:=(n4:Nat)) (by omega) w1) ?_;refine bH ?_;refine nB 9 ?_;refine fE ?_;refine aB ?_;exact jJ ()
  ·refine aB ?_;exact jJ ()
 ·refine aB ?_;refine jR [] (wN (bP s)) (fun w1 st=>aDe s A1 A2 A3 A4 n1 k1 n2 k2 n3 k3 n4 k4 w1 (hW.le (st.started (by simp)))) ?_;rintro _ w1 q1 ⟨Ag,cg,rfl,lI⟩ hf hle hfr
  have lI:=lI.le hf
  refine aB ?_
  refine aU (fun w1 st=>aDf Ag _ cg (bP s) w1 (lI.le (st.le (by simp))) rfl (by simp[bP];omega) (fun l hl=>by
   simp only[bP,List.mem_map] at hl;obtain⟨z,hz,rfl⟩:=hl
   have:=pG z hz;omega) (aHJ hm)) ?_
  refine aB ?_;exact cY
theorem Vm(s:aD)(A1 A2 A3 A4:Option Addr)(n1 k1 n2 k2 n3 k3 n4 k4:Nat)(w:World)(hW:fL w s A1 n1 A2 n2 A3 n3 A4 n4)(hm:s.made):Cz 84 #[.agg #[.slice A1 n1 k1,.slice A2 n2 k2,.slice A3 n3 k3,.slice A4 n4 k4]] w (Rt (iv 0) w):=by
 have pJ:=hW.nH
 have hn2:=hW.nT
 have pI:=hW.pU
 have rG:=hW.oK
 have hnc:=hm.nc
 have hnd:=hm.nd
 have iJ:=hm.nr
 have lX:=hm.nv
 refine aM func84 ntmps84 ?_;refine cP ?_;refine eC ?_;refine bA fun g1=>?_;refine fP rfl (by decide) ?_;refine dO ?_;refine cP ?_;refine cP ?_;refine eC ?_;refine Ui 4 rfl ?_;refine dG (fun w1 st=>aN1 s A1 A2 A3 A4 n1 k1 n2 k2 n3 k3 n4 k4 w1 (hW.le (st.started (by simp))) hm) ?_
 (first | refine Md rfl (by decide) ?_ | refine zL rfl (by decide) ?_)
 refine dO ?_;refine aG rfl (fun h=>by first | exact absurd rfl h | cases h | (exfalso;omega)) (fun h=>?_)
 ·
  refine mA ?_;refine dS ?_;refine cP ?_;refine eC ?_;refine Ui 4 rfl ?_;refine dG (fun w1 st=>aN3 s A1 A2 A3 A4 n1 k1 n2 k2 n3 k3 n4 k4 w1 (hW.le (st.started (by simp))) hm) ?_;refine fP rfl (by decide) ?_;refine dO ?_;refine cP ?_;refine cP ?_;refine eC ?_;refine cQ rfl (by decide) ?_;refine aAu rfl rfl (by decide) ?_;refine dO ?_;refine aG rfl (fun h=>by first | exact absurd rfl h | cases h | (exfalso;omega)) (fun h=>?_)
  ·
   refine mA ?_;refine dS ?_;refine cP ?_;refine eC ?_;refine Ui 4 rfl ?_;refine dG (fun w1 st=>aNz s A1 A2 A3 A4 n1 k1 n2 k2 n3 k3 n4 k4 w1 (hW.le (st.started (by simp))) hm) ?_;refine fP rfl (by decide) ?_;refine dO ?_;refine cP ?_;refine cP ?_;refine eC ?_;refine cQ rfl (by decide) ?_;refine aAu rfl rfl (by decide) ?_;refine dO ?_;refine aG rfl (fun h=>by first | exact absurd rfl h | cases h | (exfalso;omega)) (fun h=>?_)
   ·
    refine mA ?_;refine dS ?_;refine cP ?_;refine cP ?_;refine eC ?_;refine fP rfl (by decide) ?_;refine dO ?_;refine bL [(4,iv 0),(1,pt g1)] ?_;refine sJ ?_;refine eJ (fun m e R H=>∃(i:Nat),i≤n3∧m=n3 - i∧e=[(4,iv i),(1,pt g1)]∧R=[all w]∧H=[HP.aE g1 30 [.slice A1 n1 k1,.slice A2 n2 k2,.slice A3 n3 k3,.slice A4 n4 k4]]) n3 ⟨0,by omega,rfl,rfl,rfl,rfl⟩ fun m e R H hI=>?_;obtain⟨i,hi,rfl,rfl,rfl,rfl⟩:=hI;refine cP ?_;refine cP ?_;refine eC ?_;refine cQ rfl (by decide) ?_;refine qG (off:=2) (by kernel_rfl) rfl (by decide) ?_;refine Em rfl ?_;refine El (el:=88) (by kernel_rfl) rfl (by decide) ?_;refine Pt rfl rfl (by decide) ?_;refine dO ?_;refine aG rfl (fun hil=>?_) (fun hil=>?_)
    ·
     refine mA ?_;refine dS ?_;refine cP ?_;refine sJ ?_;refine cP ?_;refine eC ?_;refine qG (off:=2) (by kernel_rfl) rfl (by decide) ?_;refine Em rfl ?_;refine cQ rfl (by decide) ?_
     have aBt:i < n3:=by have h':(i:Int) < (n3:Int):=hil;omega
     obtain⟨r0,Au⟩:∃r0,s.aR[i]? =some r0:=⟨_,List.getElem?_eq_getElem (by omega)⟩
     obtain⟨b,off,r,rfl,hrl,rfl,hro⟩:=hW.Cu.row Au
     have hrb:=hm.aR r0 (List.mem_of_getElem? Au)
     refine kd (dat (i) (off+i*1)) ?_;refine qG (off:=0) (by kernel_rfl) rfl (by decide) ?_;refine jE (by kernel_rfl) rfl (Ca (by simp) (hro.at_ (j:=0) rfl)) (by decide) ?_;refine dG (fun w1 st=>aDd _ _ _ w1) ?_
     (first | refine Md rfl (by decide) ?_ | refine zL rfl (by decide) ?_)
     refine dO ?_;refine aG rfl (fun h=>by first | exact absurd rfl h | cases h | (exfalso;omega)) (fun h=>?_)
     ·
      refine mA ?_;refine dS ?_;refine eC ?_;refine cQ rfl (by decide) ?_;refine zO rfl rfl (iR (by omega)) (by decide) ?_;refine fP rfl (by decide) ?_;refine dO ?_;exact dZ (n3 - (i+1)) ⟨i+1,by omega,rfl,rfl,rfl,rfl⟩
    ·
     refine aAb ?_;refine dS ?_;refine cP ?_;refine eC ?_;refine Ui 4 rfl ?_;refine dG (fun w1 st=>aN0 s A1 A2 A3 A4 n1 k1 n2 k2 n3 k3 n4 k4 w1 (hW.le (st.started (by simp))) hm) ?_;refine fP rfl (by decide) ?_;refine dO ?_;refine Lp ?_;refine dS ?_;exact aT (h:=fun _ _=>rfl)
end
section
def wJ(v:Value):Prop:=∃(p:Option Addr) (e:Int),v=.tuple #[.pointer p,iv e]
theorem jP.aDb{α:Type}{w:World}{R:α→List Value→Prop}{t:TypeId}{sz n k:Nat}{A:Option Addr}{es:List α}{e:α}(h:jP (fH (all w)) R t sz A n es)(hk:es[k]? =some e):∃b off r,A=some ⟨b,off,none⟩∧R e r∧eD w b (off+k*sz) r:=by
 obtain⟨b,off,r,h1,h2,_,h3,h4⟩:=h.aGR hk;exact⟨b,off,r,h1,h3,h2,fun j v hv=>h4 j v hv⟩
theorem aSO{s:aD}(hm:s.made){i:Nat}{c:eF}(hc:s.aF[i]? =some c):c.src.length≤2:=by
 rcases(hm.aF i c hc).2 with h | h | h | h | h
 ·rw[h.2.1];simp
 all_goals(have:=h.2.1;omega)
theorem aPB(l:List Int):∀v∈aK l,v.oneCell'=true:=fun v hv=>by
 simp[aK] at hv;obtain⟨_,_,rfl⟩:=hv;rfl
section
variable(s:aD)(A1 A2 A3 A4:Option Addr)(n1 k1 n2 k2 n3 k3 n4 k4:Nat)(w:World)(hW:fL w s A1 n1 A2 n2 A3 n3 A4 n4)(hm:s.made)
include hW hm
theorem aN7:Cz 80 #[.agg #[.slice A1 n1 k1,.slice A2 n2 k2,.slice A3 n3 k3,.slice A4 n4 k4]] w (fun y w'=>(∃v,y=.returned v∧wJ v)∧Below w.heap.size w w'):=by
 have iJ:=hm.nr
 obtain⟨rr,cF,pI,hst⟩:=hW.Cu
 have cF:=aCW cF
 subst cF;subst pI;refine aM func80 ntmps80 ?_;refine aB ?_;refine bA fun g1=>?_;refine aB ?_;refine aU (fun w1 t=>Vm s A1 A2 A3 A4 n1 k1 n2 k2 _ k3 n4 k4 w1 (hW.le (t.started (by simp))) hm) ?_;refine aB ?_;refine bA fun g2=>?_;refine aB ?_;refine iN 3 1 ?_;refine iN 320 3 ?_;refine qB (α:=((Option Addr×Nat)×List Value)×(Option Addr×Nat)×List Value) (fun i _=>[(6,iv i),(5,pt g2),(1,pt g1)]) (fun i x=>[HP.own 320 3 (.slice x.1.1.1 i x.1.1.2) i x.1.2,HP.own 3 1 (.slice x.2.1.1 i x.2.1.2) i x.2.2,HP.aE g2 318 [.slice x.2.1.1 i x.2.1.2,.slice x.1.1.1 i x.1.1.2],HP.aE g1 30 [.slice A1 n1 k1,.slice A2 n2 k2,.slice A3 s.aR.length k3,.slice A4 n4 k4]]) (fun _ _=>True) s.aR.length (((none,0),[]),(none,0),[]) trivial fun i x hi _=>?_;obtain⟨⟨⟨L1,L2⟩,L3⟩,⟨⟨M1,M2⟩,M3⟩⟩:=x;dsimp only;refine aB ?_;refine aG rfl (fun hlt=>?_) (fun hge=>?_)
 ·have hlt:i < s.aR.length:=by omega
  obtain⟨c,hc⟩:=get_some hlt;obtain⟨b,off,rfl,hro⟩:=aI.row hst (fun r hr=>by obtain⟨q,_,rfl⟩:=List.mem_map.1 hr;rfl) (r:=[iv c]) (by rw[List.getElem?_map,hc];rfl) hlt
  have k0:=hro.at_ (j:=0) rfl
  simp only[Nat.mul_one] at k0;refine aB ?_;refine qC ?_;refine aL 11 ?_;refine eK fun g3=>?_;refine bH ?_;refine nQ [12,13,14,15] ?_;refine aB ?_;refine sY 2 fun A' k'=>?_;dsimp only[List.set];refine aB ?_;refine eK fun g4=>?_;refine aB ?_;refine sY 2 fun A'' k''=>?_;dsimp only[List.set];refine aB ?_;exact jJ (((_,_),_),(_,_),_)
 ·refine aB ?_;exact eL rfl rfl rfl fun w1 t=>⟨⟨_,rfl,⟨_,_,rfl⟩⟩,t.below (by simp)⟩
theorem aN8:Cz 79 #[.agg #[.slice A1 n1 k1,.slice A2 n2 k2,.slice A3 n3 k3,.slice A4 n4 k4]] w (fun y w'=>(∃v,y=.returned v∧wJ v)∧Below w.heap.size w w'):=by
 have hnd:=hm.nd
 obtain⟨rr,cF,hn2,hst⟩:=hW.dom
 have cF:=aE5 cF
 subst cF;subst hn2;refine aM func79 ntmps79 ?_;refine aB ?_;refine bA fun g1=>?_;refine aB ?_;refine aU (fun w1 t=>Vm s A1 A2 A3 A4 _ k1 _ k2 _ k3 n4 k4 w1 (hW.le (t.started (by simp))) hm) ?_;refine aB ?_;refine Ek (el:=50) (sz:=3) (by kernel_rfl) (by kernel_rfl) (by decide) fun g=>?_;refine Bv 0 3 0 rfl rfl (by omega) ?_;dsimp only[List.set];refine aB ?_
 refine gJ 0 3 24 s.domains.length (n':=s.domains.length) (el:=50) (by kernel_rfl) (by kernel_rfl) (by decide) rfl rfl rfl (rE (by simp) hst) (fun v hv=>by
  simp only[List.mem_flatten,List.mem_map] at hv;obtain⟨_,⟨d,_,rfl⟩,hv⟩:=hv;simp only[List.mem_cons,List.not_mem_nil,or_false] at hv
  rcases hv with rfl | rfl | rfl<;>rfl) (by omega) (by omega) (by omega) (by decide) fun A k=>?_
 dsimp only[List.set,List.nil_append];refine aB ?_;refine bA fun g2=>?_;refine aB ?_;refine iN 315 3 ?_;refine qB (α:=(Option Addr×Nat)×List Value) (fun i _=>[(6,iv i),(5,pt g2)]) (fun i x=>[HP.own 315 3 (.slice x.1.1 i x.1.2) i x.2,HP.aE g2 313 [.slice A s.domains.length k,.slice x.1.1 i x.1.2]]) (fun _ _=>True) s.domains.length ((none,0),[]) trivial fun i x hi _=>?_;obtain⟨⟨L1,L2⟩,L3⟩:=x;dsimp only;refine aB ?_;refine aG rfl (fun hlt=>?_) (fun hge=>?_)
 ·have hlt:i < s.domains.length:=by omega
  refine aB ?_;refine eK fun g4=>?_;refine aB ?_;refine sY 1 fun A'' k''=>?_;dsimp only[List.set];refine aB ?_;exact jJ ((_,_),_)
 ·refine aB ?_;exact eL rfl rfl rfl fun w1 t=>⟨⟨_,rfl,⟨_,_,rfl⟩⟩,t.below (by simp)⟩
theorem aN9:Cz 78 #[.agg #[.slice A1 n1 k1,.slice A2 n2 k2,.slice A3 n3 k3,.slice A4 n4 k4]] w (fun y w'=>(∃v,y=.returned v∧wJ v)∧Below w.heap.size w w'):=by
 have hnc:=hm.nc
 obtain rfl:=hW.nH;refine aM func78 ntmps78 ?_;refine aB ?_;refine bA fun g1=>?_;refine aB ?_;refine aU (fun w1 t=>Vm s A1 A2 A3 A4 _ k1 _ k2 _ k3 n4 k4 w1 (hW.le (t.started (by simp))) hm) ?_;refine aB ?_;refine bA fun g2=>?_;refine aB ?_;refine iN 86 6 ?_;refine iN 310 5 ?_;refine qB (α:=((Option Addr×Nat)×List Value)×(Option Addr×Nat)×List Value) (fun i _=>[(6,iv i),(5,pt g2),(1,pt g1)]) (fun i x=>[HP.own 310 5 (.slice x.1.1.1 i x.1.1.2) i x.1.2,HP.own 86 6 (.slice x.2.1.1 i x.2.1.2) i x.2.2,HP.aE g2 308 [.slice x.2.1.1 i x.2.1.2,.slice x.1.1.1 i x.1.1.2],HP.aE g1 30 [.slice A1 s.aF.length k1,.slice A2 n2 k2,.slice A3 n3 k3,.slice A4 n4 k4]]) (fun _ _=>True) s.aF.length (((none,0),[]),(none,0),[]) trivial fun i x hi _=>?_;obtain⟨⟨⟨L1,L2⟩,L3⟩,⟨⟨M1,M2⟩,M3⟩⟩:=x;dsimp only;refine aB ?_;refine aG rfl (fun hlt=>?_) (fun hge=>?_)
 ·have hlt:i < s.aF.length:=by omega
  obtain⟨c,hc⟩:=get_some hlt;obtain⟨b,off,_,rfl,⟨AF,_,kF,rfl,rfl,hF⟩,hro⟩:=hW.jM.aDb hc
  have fW:=aSO hm hc
  refine aB ?_;refine bX fun g3=>?_;refine aB ?_;refine Ek (el:=3) (sz:=1) (by kernel_rfl) (by kernel_rfl) (by decide) fun g=>?_;refine Bv 0 1 0 rfl rfl (by omega) ?_;dsimp only[List.set];refine aB ?_;refine gJ 0 1 8 c.src.length (n':=c.src.length) (el:=3) (by kernel_rfl) (by kernel_rfl) (by decide) rfl rfl rfl (rE (by simp) hF) (aPB _) (by omega) (by omega) (by omega) (by decide) fun A k=>?_;dsimp only[List.set,List.nil_append];refine aB ?_;refine qC ?_;refine aL 6 ?_;refine eK fun g4=>?_;refine bH ?_;refine nQ [7,8,9,10] ?_;refine aB ?_;refine sY 4 fun A' k'=>?_;dsimp only[List.set];refine aB ?_;refine bX fun g5=>?_;refine aB ?_;refine Lr (α:=Int) (fun _=>[(8,pt g5),(6,iv i),(5,pt g2),(1,pt g1)]) (fun v=>[HP.aE g5 310 [.bool false,iv v,iv 0,iv 0,iv c.div],HP.own 310 5 (.slice L1 i L2) i L3,HP.own 86 6 (.slice A' (i+1) k') (i+1) (M3++[.int .u8 c.kind,.slice A c.src.length k,.int .u64 c.rate,iv c.mul,iv c.div,iv c.lock]),HP.aE g2 308 [.slice A' (i+1) k',.slice L1 i L2],HP.aE g1 30 [.slice (some ⟨b,off,none⟩) s.aF.length k1,.slice A2 n2 k2,.slice A3 n3 k3,.slice A4 n4 k4]]) (fun _=>True) ?_ fun v _=>?_
  ·refine aB ?_;refine aG rfl (fun _=>?_) (fun _=>?_)
   ·refine aB ?_;exact eI _
   ·refine aB ?_;exact eI _
  refine aB ?_;refine qC ?_;refine aL 6 ?_;refine eK fun g6=>?_;refine bH ?_;refine nQ [7,8,9,10] ?_;refine aB ?_;refine sY 2 fun A'' k''=>?_;dsimp only[List.set];refine aB ?_;exact jJ (((_,_),_),(_,_),_)
 ·refine aB ?_;exact eL rfl rfl rfl fun w1 t=>⟨⟨_,rfl,⟨_,_,rfl⟩⟩,t.below (by simp)⟩
end
end
end Go.Proofs.YtdcdccmpcmjmhaaGreatDoor
