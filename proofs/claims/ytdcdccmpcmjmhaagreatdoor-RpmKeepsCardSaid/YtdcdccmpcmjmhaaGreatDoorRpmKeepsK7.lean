/- package rpm: what is wanted, and the steps to that. -/
import Derived.Test.YtdcdccmpcmjmhaaGreatDoorRpmKeepsK6
namespace Go.Proofs.YtdcdccmpcmjmhaaGreatDoor
set_option linter.all false
set_option maxHeartbeats 4000000
set_option maxRecDepth 20000
open Go.RowKit Go.Proofs.Tryz
section
def vP(old l:List Bool)(n:Nat):List Bool:=l.mapIdx fun k b=>if k < n then(b||hasB old k) else b
section
variable{N:cF}{w0:World}{e:Env}{R:List Piece}{H:List HP}{K:Act→World→Prop}{Φ:Piece→Prop}{hm:∀p q:Piece,p.Le q→Φ p→Φ q}{sz n b off:Nat}{A:Option Addr}{xs:List Value}
theorem aEP(i:Nat)(hi:H[i]? =some (HP.bY Φ hm))(Vz:∀p,Φ p→aI p sz A n xs)(hn:0 < n)(k:∀b off,A=some ⟨b,off,none⟩→XK N w0 K e R H):XK N w0 K e R H:=fun a w hr st=>by
 obtain⟨b,off,hA,_⟩:=(Vz _ (st.bY i hi)).2 hn;exact k b off hA a w hr st
theorem Rd.bY(i:Nat)(hi:H[i]? =some (HP.bY Φ hm))(Vz:∀p,Φ p→aI p sz A n xs)(hA:A=some ⟨b,off,none⟩)(hn:0 < n){j:Nat}{v:Value}(hv:xs[j]? =some v):Rd w0 R H b (off+j) v:=fun w st=>by
 obtain⟨b',off',sE,_,hc⟩:=(Vz _ (st.bY i hi)).2 hn;cases hA.symm.trans sE;exact hc j v hv
end
def eK(s:aC)(c:Cn):List Bool:=Lb (cZ s) (cZ s).length c
def kI(s:aC)(z:aV):bJ:=⟨(eT s (eK s z.cn)).d,(eT s (eK s z.cn)).c,vP z.wn.l (eT s (eK s z.cn)).l s.aT.length⟩
def lO(s:aC)(z:aV):aV:={z with steps:=allM s z.wn (kI s z),sent:=false,wn:=kI s z}
theorem aC8(s:aC)(act:List Bool):(eT s act).of s:=En s act _
theorem aLg(s:aC)(z:aV):(kI s z).of s:=by
 have h:=aC8 s (eK s z.cn)
 exact⟨h.d,h.c,by show(List.mapIdx _ _).length=_;rw[List.length_mapIdx];exact h.l⟩
theorem Qk(s:aC):(cZ s).length=s.aD.length:=by simp[cZ]
section
variable(g h f:Nat)(s:aC)(z:aV)(w:World)(F:Nat→Prop)
theorem aA8(hm:s.made)(hz:z.wn.of s)(hp:(gE g h f s z).sat F w)(hF:∀b,F b→b < w.heap.size):
  Cz 277 #[pt g] w (Wr (.tuple #[]) (gE g h f s (lO s z)) w F):=by
 have nD:=hm.nv
 have hnd:=hm.nd
 have hnc:=hm.nc
 have iK:=hm.nr
 have iL:=Qk s
 have hno:∀l∈cZ s,(l.length:Int)≤1000:=fun l hl=>by
  obtain⟨i,hi⟩:=List.getElem?_of_mem hl;simp only[cZ,List.getElem?_map] at hi;cases hd:s.aD[i]? with
  | none=>rw[hd] at hi;cases hi
  | some d=>
   rw[hd] at hi;cases hi
   have:=(hm.aD i d hd).2.2.2.2.2.2.2.2.2.2.1
   show((d.iX.length:Nat):Int)≤1000
   omega
 have ho:fS (cZ s)=(0,List.range (cZ s).length):=by rw[iL];exact(aDv hm).2.2
 have hal:(eK s z.cn).length=(cZ s).length:=aT0 _ _ _
 refine dK func277 ntmps277 hp hF ?_;generalize cN:(⟨w,fun b=>b < w.heap.size∧¬F b⟩:Piece)=R0;refine lY 0 fun L=>?_;refine bF 0 0 ?_;refine bF 1 4 ?_;refine bF 2 3 ?_;refine nH ?_;refine bF 2 1 ?_;refine bF 3 2 ?_;refine aY [2,0,1,3,4] rfl (by decide) (fun _ h=>h) ?_
 change XK _ _ _ _ _ [Lr L.gc L.gm L.nd.1 L.nd.2 (cZ s) z.cn,HP.bY (vA L z.wn) _,HP.bY (mW L s) _,_,_]
 generalize hM:HP.many [cH,cH,cH,cH,cH,HP.bY (oH L z.steps) (oH.le (L:=L) (l:=z.steps))]=M;refine cP ?_;refine aCb (fun e R H=>∃gt ga gb gc:Nat,e=[(2,pt gt),(0,pt g)]∧R=[R0]∧H=[HP.aE gt 116 [.slice (some ⟨ga,0,none⟩) (eT s (eK s z.cn)).d.length (eT s (eK s z.cn)).d.length,.slice (some ⟨gb,0,none⟩) (eT s (eK s z.cn)).c.length (eT s (eK s z.cn)).c.length,.slice (some ⟨gc,0,none⟩) (eT s (eK s z.cn)).l.length (eT s (eK s z.cn)).l.length],HP.many [HP.aE ga 4 (bE (eT s (eK s z.cn)).d),HP.aE gb 4 (bE (eT s (eK s z.cn)).c),HP.aE gc 4 (bE (eT s (eK s z.cn)).l)],Lr L.gc L.gm L.nd.1 L.nd.2 (cZ s) z.cn,HP.bY (vA L z.wn) (vA.le (L:=L) (x:=z.wn)),HP.bY (mW L s) (mW.le (L:=L) (s:=s)),HP.aE g 123 (lA h f L s z),M]) ?_ ?_
 ·refine Om [1,2,3,5,6,7] ?_;refine bP 0 ?_ (hsub:=fun _ h=>h.cR);refine aJ 1 ?_ (hsub:=fun _ h=>h.cR);refine aJ 2 ?_ (hsub:=fun _ h=>h.cR);refine aJ 3 ?_ (hi:=rfl) (dI:=oZ rfl (aAf (vs:=[_,_,_,_]) 3 rfl rfl)) (hsub:=fun _ h=>h.cR);refine bP 4 ?_ (hsub:=fun _ h=>h.cR);refine aJ 5 ?_ (hsub:=fun _ h=>h.cR);refine aJ 6 ?_ (hsub:=fun _ h=>h.cR);refine aJ 7 ?_ (hsub:=fun _ h=>h.cR);refine Lg 8 10 rfl rfl (by kernel_rfl) ?_ ?_
  ·refine zT (α:=Nat) 0 (f:=30) (fi:=[]) (ca:=[]) (fun b=>.slice (some ⟨b,0,none⟩) (cZ s).length (cZ s).length) (fun b=>HP.many [Lr L.gc L.gm L.nd.1 L.nd.2 (cZ s) z.cn,HP.aE b 4 (bE (eK s z.cn))]) (fun _=>True) (by kernel_rfl) rfl rfl rfl (by decide) (fun w1 F1 t h1 h2 h3=>aJn L.gc L.gm L.nd.1 L.nd.2 (cZ s) z.cn _ rfl (by omega) hno ho w1 F1 h1 h2) ?_;rintro b _;dsimp only[List.set];refine bM ?_ (hS:=fun _ h=>h.cR);refine Lg 9 10 rfl rfl (by kernel_rfl) ?_ ?_
   ·refine bF 0 1 ?_
    refine iY (aAc (eT s (eK s z.cn))) (fun w1 t=>by
     have h1:=t.rQ (i:=0) (sz:=1) (n:=(eK s z.cn).length) rfl (by simp[bE])
     have:=aAu (all w1) s L.a1.1 L.a2.1 L.a3.1 L.a4.1 _ L.a1.2 _ L.a2.2 _ L.a3.2 _ L.a4.2 (some ⟨b,0,none⟩) (cZ s).length (eK s z.cn) w1 (t.bY 3 rfl) hm (Piece.Le.refl _) h1
     rw[hal] at this
     exact this) ?_
    rintro _ _ q ⟨ga,gb,gc,px,rfl,rfl⟩ _;dsimp only[List.cons_append,List.nil_append];refine bM ?_ (hS:=fun _ h=>h.aZ.tail.tail.tail.cR);refine aO 10 ?_;refine bU fun gt=>?_;refine bM ?_ (hS:=fun _ h=>h.aZ.tail.tail.tail.tail.cR);refine aO 11 ?_;refine oO 0 rfl ?_;dsimp only[List.set];refine bM ?_ (hS:=fun _ h=>h.aZ.tail.tail.tail.tail.cR);refine fJ ?_;refine dV ?_;refine bF 4 0 ?_;refine aY [1,2,0,6,7,8,9] rfl (by decide) (R':=[R0]) (by simp) ?_;exact pG ⟨gt,ga,gb,gc,rfl,rfl,rfl⟩
   ·refine bU fun gt=>?_;refine bM ?_ (hS:=fun _ h=>h.tail.cR);refine aO 9 ?_;refine bF 1 1 ?_
    refine iY (aAc (eT s (eK s z.cn))) (fun w1 t=>by
     have h1:=t.rQ (i:=0) (sz:=1) (n:=(eK s z.cn).length) rfl (by simp[bE])
     have:=aAu (all w1) s L.a1.1 L.a2.1 L.a3.1 L.a4.1 _ L.a1.2 _ L.a2.2 _ L.a3.2 _ L.a4.2 (some ⟨b,0,none⟩) (cZ s).length (eK s z.cn) w1 (t.bY 4 rfl) hm (Piece.Le.refl _) h1
     rw[hal] at this
     exact this) ?_
    rintro _ _ q ⟨ga,gb,gc,px,rfl,rfl⟩ _;dsimp only[List.cons_append,List.nil_append];refine bM ?_ (hS:=fun _ h=>h.aZ.tail.tail.tail.tail.cR);refine aO 11 ?_;refine oO 3 rfl ?_;dsimp only[List.set];refine bM ?_ (hS:=fun _ h=>h.aZ.tail.tail.tail.tail.cR);refine fJ ?_;refine dV ?_;refine bF 4 0 ?_;refine aY [4,1,0,6,7,8,9] rfl (by decide) (R':=[R0]) (by simp) ?_;exact pG ⟨gt,ga,gb,gc,rfl,rfl,rfl⟩
  ·refine bU fun gt=>?_;refine bM ?_ (hS:=fun _ h=>h.tail.cR);refine aO 8 ?_;refine zT (α:=Nat) 1 (f:=30) (fi:=[]) (ca:=[]) (fun b=>.slice (some ⟨b,0,none⟩) (cZ s).length (cZ s).length) (fun b=>HP.many [Lr L.gc L.gm L.nd.1 L.nd.2 (cZ s) z.cn,HP.aE b 4 (bE (eK s z.cn))]) (fun _=>True) (by kernel_rfl) rfl rfl rfl (by decide) (fun w1 F1 t h1 h2 h3=>aJn L.gc L.gm L.nd.1 L.nd.2 (cZ s) z.cn _ rfl (by omega) hno ho w1 F1 h1 h2) ?_;rintro b _;dsimp only[List.set];refine bM ?_ (hS:=fun _ h=>h.tail.cR);refine aO 9 ?_;refine bF 1 1 ?_
   refine iY (aAc (eT s (eK s z.cn))) (fun w1 t=>by
    have h1:=t.rQ (i:=0) (sz:=1) (n:=(eK s z.cn).length) rfl (by simp[bE])
    have:=aAu (all w1) s L.a1.1 L.a2.1 L.a3.1 L.a4.1 _ L.a1.2 _ L.a2.2 _ L.a3.2 _ L.a4.2 (some ⟨b,0,none⟩) (cZ s).length (eK s z.cn) w1 (t.bY 4 rfl) hm (Piece.Le.refl _) h1
    rw[hal] at this
    exact this) ?_
   rintro _ _ q ⟨ga,gb,gc,px,rfl,rfl⟩ _;dsimp only[List.cons_append,List.nil_append];refine bM ?_ (hS:=fun _ h=>h.aZ.tail.tail.tail.tail.cR);refine aO 11 ?_;refine oO 3 rfl ?_;dsimp only[List.set];refine bM ?_ (hS:=fun _ h=>h.aZ.tail.tail.tail.tail.cR);refine fJ ?_;refine dV ?_;refine bF 4 0 ?_;refine aY [4,1,0,6,7,8,9] rfl (by decide) (R':=[R0]) (by simp) ?_;exact pG ⟨gt,ga,gb,gc,rfl,rfl,rfl⟩
 rintro _ _ _ ⟨gt,ga,gb,gc,rfl,rfl,rfl⟩
 have pQ:(eT s (eK s z.cn)).l.length=(kI s z).l.length:=by
  show _=(List.mapIdx _ _).length
  rw[List.length_mapIdx]
 have vV:(eT s (eK s z.cn)).l.length=s.aT.length:=(aC8 s _).l
 have hzl:=hz.l
 rw[pQ]
 have aUx:(kI s z).l.length=s.aT.length:=by rw[←pQ];exact vV
 refine bF 1 2 ?_;refine bF 2 1 ?_;refine bF 3 0 ?_;refine aY [0,1,2,3,4,5,6,7,8,9] rfl (by decide) (fun _ h=>h) ?_;refine aA ?_
 have Fv:vP z.wn.l (eT s (eK s z.cn)).l 0=(eT s (eK s z.cn)).l:=Qo _ _
 refine bK [(21,iv 0),(20,iv z.wn.l.length),(19,.slice L.w3.1 z.wn.l.length L.w3.2),(2,pt gt),(0,pt g)] ?_;refine eJ (fun m e R H=>∃i:Nat,i≤z.wn.l.length∧m=z.wn.l.length - i∧e=[(21,iv i),(20,iv z.wn.l.length),(19,.slice L.w3.1 z.wn.l.length L.w3.2),(2,pt gt),(0,pt g)]∧R=[R0]∧H=[HP.aE ga 4 (bE (eT s (eK s z.cn)).d),HP.aE gb 4 (bE (eT s (eK s z.cn)).c),HP.aE gc 4 (bE (vP z.wn.l (eT s (eK s z.cn)).l i)),HP.aE gt 116 [.slice (some ⟨ga,0,none⟩) (eT s (eK s z.cn)).d.length (eT s (eK s z.cn)).d.length,.slice (some ⟨gb,0,none⟩) (eT s (eK s z.cn)).c.length (eT s (eK s z.cn)).c.length,.slice (some ⟨gc,0,none⟩) (kI s z).l.length (kI s z).l.length],HP.many [cH,cH,cH],Lr L.gc L.gm L.nd.1 L.nd.2 (cZ s) z.cn,HP.bY (vA L z.wn) (vA.le (L:=L) (x:=z.wn)),HP.bY (mW L s) (mW.le (L:=L) (s:=s)),HP.aE g 123 (lA h f L s z),M]) z.wn.l.length ⟨0,by omega,rfl,rfl,rfl,by rw[Fv]⟩ fun m e R H hI=>?_;obtain⟨i,hi,rfl,rfl,rfl,rfl⟩:=hI;refine aA ?_;refine aG rfl (fun hlt=>?_) (fun hge=>?_)
 ·have hlt:i < z.wn.l.length:=by omega
  obtain⟨b,hb⟩:=get_some hlt;obtain⟨c,hc⟩:=get_some (l:=(eT s (eK s z.cn)).l) (i:=i) (by omega)
  have fK:(vP z.wn.l (eT s (eK s z.cn)).l i)[i]? =some c:=Qq hc
  have hstep:(vP z.wn.l (eT s (eK s z.cn)).l i).set i (c||hasB z.wn.l i)=vP z.wn.l (eT s (eK s z.cn)).l (i+1):=Qp (f:=fun k b=>b||hasB z.wn.l k) hc
  have hbB:hasB z.wn.l i=b:=by show z.wn.l[i]?.getD false=b;rw[hb];rfl
  rw[hbB] at hstep
  have eX:(vP z.wn.l (eT s (eK s z.cn)).l i).length=s.aT.length:=by rw[vP,List.length_mapIdx];exact vV
  refine aEP (A:=L.w3.1) (sz:=1) (n:=z.wn.l.length) (xs:=bE z.wn.l) 6 rfl (fun _ h=>h.2.2) (by omega) fun wb aLd hwA=>?_
  have hbc:(bE z.wn.l)[i]? =some (.bool b):=by simp[bE,hb]
  refine aA ?_;refine kd (dat i (aLd+i) (hx:=by rw[←hwA];rfl)) ?_;refine kd (bN rfl (Rd.bY 6 rfl (fun _ h=>h.2.2) hwA (by omega) hbc)) ?_;refine aA ?_;cases b
  ·rw[Bool.or_false,yH fK] at hstep;rw[hstep];refine aA ?_;exact dW (z.wn.l.length - (i+1)) ⟨i+1,hlt,rfl,rfl,rfl,rfl⟩
  ·rw[Bool.or_true] at hstep;refine aA ?_;refine kd (dat i i) ?_;refine fG rfl rfl ?_ (hs:=fB.mk 2 rfl cK.h rfl (by simp[bE];omega));dsimp only[List.set];rw[aEE,hstep];refine aA ?_;exact dW (z.wn.l.length - (i+1)) ⟨i+1,hlt,rfl,rfl,rfl,rfl⟩
 obtain rfl:i=z.wn.l.length:=by omega
 rw[hzl];refine aA ?_;refine jM [3,4,5,7,8,9,10] ?_;refine bP 0 ?_;refine bP 1 ?_;refine bP 2 ?_;refine aJ 3 ?_;refine aJ 4 ?_;refine aJ 5 ?_ (hi:=rfl) (dI:=oZ rfl (aAf (vs:=[_,_,_,_]) 8 rfl rfl));refine bP 6 ?_;refine aJ 7 ?_;refine aJ 8 ?_;refine aJ 9 ?_ (hi:=rfl) (dI:=oZ rfl (aAf (vs:=[_,_,_]) 8 rfl rfl));refine aJ 10 ?_;refine aO 11 ?_;refine jQ [] (aKl (allM s z.wn (kI s z))) (fun w1 t=>aLD (q:=all w1) (qx:=all w1) (qy:=all w1) (t.bY 7 rfl) hm (Piece.Le.refl _) (x:=z.wn) (y:=kI s z) ⟨L.w1.1,L.w1.2,L.w2.1,L.w2.2,L.w3.1,L.w3.2,rfl,t.bY 6 rfl⟩ (Piece.Le.refl _) ⟨_,_,_,_,_,_,rfl,t.rQ (i:=0) rfl (by simp[bE,kI]),t.rQ (i:=1) rfl (by simp[bE,kI]),t.rQ (i:=2) rfl (by simp[bE,kI])⟩ (Piece.Le.refl _)) ?_;rintro _ w1 q ⟨As,cs,rfl,hs,hsc⟩ hf _ hfr
 have hs:=hs.le hf
 refine cX ?_;refine aO 12 ?_;refine bH ?_;refine cX ?_;refine aO 13 ?_;refine bH ?_;refine cX ?_;refine aO 14 ?_;refine fG rfl rfl ?_ (hs:=fB.mk 8 rfl cK.h rfl (of_decide_eq_true rfl));dsimp only[List.set];refine cX ?_;refine aO 15 ?_;refine bH ?_;refine cX ?_;refine aO 16 ?_;refine bH ?_;refine cX ?_;refine aO 17 ?_;refine fG rfl rfl ?_ (hs:=fB.mk 8 rfl cK.h rfl (of_decide_eq_true rfl));dsimp only[List.set];refine cX ?_;refine fJ ?_
 refine Ld (Φ:=oH {L with st:=(As,cs)} (allM s z.wn (kI s z))) (hm:=oH.le) (hfr (by simp)) (fun p hp b hb=>by
  simp at hp;subst hp;rw[←cN] at hb
  exact hb.1) ⟨hs,hsc⟩ ?_
 refine aA ?_;refine Qv 9 rfl ?_;dsimp only[List.set];refine aA ?_;obtain⟨L',hL'⟩:∃L':dM,L'={L with w1:=(some ⟨ga,0,none⟩,(eT s (eK s z.cn)).d.length),w2:=(some ⟨gb,0,none⟩,(eT s (eK s z.cn)).c.length),w3:=(some ⟨gc,0,none⟩,(kI s z).l.length),st:=(As,cs)}:=⟨_,rfl⟩
 refine aY [1,2,3,0,6,8,9] rfl (by decide) (fun _ h=>h) ?_;refine Zo ?_;refine Bq (q:=HP.bY (vA L' (kI s z)) (vA.le (L:=L') (x:=kI s z))) 0 rfl (fun F w hs=>?_) ?_
 ·obtain⟨G,k1,k2,_⟩:=hs;subst hL';exact⟨tI (c:=0) (k1 0 _ rfl) (fun b hb=>k2 0 b hb) (by simp[bE,kI]),tI (c:=0) (k1 1 _ rfl) (fun b hb=>k2 1 b hb) (by simp[bE,kI]),tI (c:=0) (k1 2 _ rfl) (fun b hb=>k2 2 b hb) (by simp[bE,kI])⟩
 dsimp only[List.set];refine bF 2 0 ?_;refine bF 3 1 ?_;refine aY [6,5,2,1,0,3] rfl (by decide) (fun _ h=>h) ?_;refine nH ?_;refine uZ ?_;refine uZ ?_;refine uZ ?_;refine uZ ?_;refine xL 0 (f:=fun L:dM=>fN g h f L s (lO s z)) L' (by subst hL';rfl) ?_;dsimp only[List.set];subst cN;exact jZ 0 hF
end
end
section
theorem pJ{w0:World}{R:List Piece}{H:List HP}{g h f:Nat}{L:dM}{s:aC}{z:aV}(i:Nat){o:Nat}{v:Value}(hi:H[i]? =some (fN g h f L s z))(hv:(lA h f L s z)[o]? =some v):Rd w0 R H g o v:=fun w st=>by
 have:=(st.aCQ i hi).r0.at_ hv
 rw[Nat.zero_add] at this;exact this.2
def T3(j:Nat):Prop:=j=0∨j=1∨j=2
theorem Cu{h f:Nat}{L:dM}{s:aC}{z:aV}{j k:Nat}{v:Value}(hj:T3 j)(hv:(tkC (z.tk j))[k]? =some v):(lA h f L s z)[10+13*j+k]? =some v:=by
 have hk:k < 13:=by
  have:=(List.getElem?_eq_some_iff.1 hv).1
  simpa[tkC] using this
 have hk2:k=0∨k=1∨k=2∨k=3∨k=4∨k=5∨k=6∨k=7∨k=8∨k=9∨k=10∨k=11∨k=12:=by omega
 rcases hj with rfl | rfl | rfl<;>rcases hk2 with rfl | rfl | rfl | rfl | rfl | rfl | rfl | rfl | rfl | rfl | rfl | rfl | rfl<;>exact hv
theorem aAz{t:rJ}{i:Nat}(hi:i < 6):(tkC t)[7+i]? =some (iv (hG t i)):=by
 have h2:i=0∨i=1∨i=2∨i=3∨i=4∨i=5:=by omega
 rcases h2 with rfl | rfl | rfl | rfl | rfl | rfl<;>rfl
theorem aEf{t:rJ}{i k:Nat}{v:Int}(hl:t.hs.length=6)(hi:i < 6):hG {t with hs:=t.hs.set i v} k=if i=k then v else hG t k:=by
 show(t.hs.set i v).getD k 0=_
 rw[List.getD_eq_getElem?_getD,List.getElem?_set];split
 ·rename_i e
  subst e;rw[if_pos (by omega)];rfl
 ·show _=t.hs.getD k 0
  rw[List.getD_eq_getElem?_getD]
theorem aGD{h f:Nat}{L:dM}{s:aC}{z:aV}{j i:Nat}{v:Int}(hj:T3 j)(hi:i < 6)(hl:(z.tk j).hs.length=6):(lA h f L s z).set (10+13*j+7+i) (iv v)=lA h f L s (z.jP j {z.tk j with hs:=(z.tk j).hs.set i v}):=by
 have hs:=fun k=>aEf (t:=z.tk j) (k:=k) (v:=v) hl hi
 have h2:i=0∨i=1∨i=2∨i=3∨i=4∨i=5:=by omega
 rcases hj with rfl | rfl | rfl<;>rcases h2 with rfl | rfl | rfl | rfl | rfl | rfl<;>simp[lA,aV.jP,aV.tk] at hs⊢ <;>simp[hs]
theorem aAB{h f:Nat}{L:dM}{s:aC}{z:aV}:(lA h f L s z).length=55:=rfl
structure aFo(t:rJ):Prop where
 len:t.hs.length=6
 bd:∀i,0≤hG t i∧hG t i≤1000000
def pL(t:rJ)(i:Nat)(k:Int):rJ:={t with hs:=t.hs.set i (hG t i+k)}
def Fw(s:aC)(z:aV)(j:Nat):Int×aV:=if(pE (cZ s).length z.cn (z.tk j).dev).1≠0 then((pE (cZ s).length z.cn (z.tk j).dev).1,z) else(0,lO s {z.jP j (pL (z.tk j) (z.tk j).dev.toNat 1) with cn:=(pE (cZ s).length z.cn (z.tk j).dev).2})
def Ez(s:aC)(z:aV)(j:Nat):Int×aV:=if bO s.aD.length (z.tk j).dev=false then(4,z) else if hG (z.tk j) (z.tk j).dev.toNat=0 then(6,z) else if(qL (cZ s).length z.cn (z.tk j).dev).1≠0 then((qL (cZ s).length z.cn (z.tk j).dev).1,z) else(0,lO s {z.jP j (pL (z.tk j) (z.tk j).dev.toNat (-1)) with cn:=(qL (cZ s).length z.cn (z.tk j).dev).2})
def Er(s:aC)(z:aV):Int×aV:=if(tD z.cn).1≠0 then((tD z.cn).1,z) else(0,lO s {z with cn:=(tD z.cn).2})
def Ex(s:aC)(z:aV):Int×aV:=if(tE z.cn).1≠0 then((tE z.cn).1,z) else(0,lO s {z with cn:=(tE z.cn).2})
theorem aSI{n:Nat}{c:Cn}{d:Int}(h:(pE n c d).1≠0):(pE n c d).2=c:=by
 unfold pE at h⊢
 repeat' split
 all_goals first | rfl | (simp_all;done)
theorem aJz{n:Nat}{c:Cn}{d:Int}(h:(pE n c d).1=0):0≤d∧d < n:=by
 unfold pE at h;split at h
 ·simp at h
 ·split at h
  ·simp at h
  ·rename_i h1
   exact Decidable.not_not.1 h1
theorem aSh{n:Nat}{c:Cn}{d:Int}(h:(qL n c d).1≠0):(qL n c d).2=c:=by
 unfold qL at h⊢
 repeat' split
 all_goals first | rfl | (simp_all;done)
theorem aSf{c:Cn}(h:(tD c).1≠0):(tD c).2=c:=by
 unfold tD at h⊢;split
 ·rfl
 ·simp_all
theorem aSg{c:Cn}(h:(tE c).1≠0):(tE c).2=c:=by
 unfold tE at h⊢;split
 ·simp_all
 ·rfl
section
variable(g h f:Nat)(s:aC)(z:aV)(w:World)(F:Nat→Prop)
theorem aMv(hm:s.made)(hz:z.wn.of s)(a:Value)(hp:(gE g h f s z).sat F w)(hF:∀b,F b→b < w.heap.size):
  Cz 297 #[.agg #[],pt g,a] w (Wr (iv (Er s z).1) (gE g h f s (Er s z).2) w F):=by
 unfold Er;refine dK func297 ntmps297 hp hF ?_;refine aA ?_;refine bA fun g1=>?_;refine aA ?_;refine lY 1 fun L=>?_;refine kd (bN rfl (pJ 1 rfl rfl)) ?_;refine bF 1 3 ?_;refine dZ 0 (tK L.gc L.gm (.slice L.nd.1 (cZ s).length L.nd.2) (tD z.cn).2) (fun w1 F1 t h1 h2 h3=>aSj L.gc L.gm (cZ s).length L.nd.2 L.nd.1 z.cn w1 F1 h1 h2) ?_;refine aA ?_;refine aG rfl (fun he=>?_) (fun he=>?_)
 ·rw[if_pos he,aSf he];refine aA ?_;refine aP 1 3 ?_;refine fC 1 (fun L:dM=>fN g h f L s z) L ?_;exact cI 1 hF
 ·rw[if_neg he];refine aP 1 3 ?_;refine fC 1 (fun L:dM=>fN g h f L s {z with cn:=(tD z.cn).2}) L ?_;refine aA ?_;refine dZ 1 (gE g h f s (lO s {z with cn:=(tD z.cn).2})) (fun w1 F1 t h1 h2 h3=>aA8 g h f s _ w1 F1 hm hz h1 h2) ?_;refine aA ?_;exact cI 1 hF
theorem aMy(hm:s.made)(hz:z.wn.of s)(a:Value)(hp:(gE g h f s z).sat F w)(hF:∀b,F b→b < w.heap.size):
  Cz 298 #[.agg #[],pt g,a] w (Wr (iv (Ex s z).1) (gE g h f s (Ex s z).2) w F):=by
 unfold Ex;refine dK func298 ntmps298 hp hF ?_;refine aA ?_;refine bA fun g1=>?_;refine aA ?_;refine lY 1 fun L=>?_;refine kd (bN rfl (pJ 1 rfl rfl)) ?_;refine bF 1 3 ?_;refine dZ 0 (tK L.gc L.gm (.slice L.nd.1 (cZ s).length L.nd.2) (tE z.cn).2) (fun w1 F1 t h1 h2 h3=>aSk L.gc L.gm (cZ s).length L.nd.2 L.nd.1 z.cn w1 F1 h1 h2) ?_;refine aA ?_;refine aG rfl (fun he=>?_) (fun he=>?_)
 ·rw[if_pos he,aSg he];refine aA ?_;refine aP 1 3 ?_;refine fC 1 (fun L:dM=>fN g h f L s z) L ?_;exact cI 1 hF
 ·rw[if_neg he];refine aP 1 3 ?_;refine fC 1 (fun L:dM=>fN g h f L s {z with cn:=(tE z.cn).2}) L ?_;refine aA ?_;refine dZ 1 (gE g h f s (lO s {z with cn:=(tE z.cn).2})) (fun w1 F1 t h1 h2 h3=>aA8 g h f s _ w1 F1 hm hz h1 h2) ?_;refine aA ?_;exact cI 1 hF
theorem aM1(hm:s.made)(hz:z.wn.of s)(j:Nat)(hj:T3 j)(hk:aFo (z.tk j))(hp:(gE g h f s z).sat F w)(hF:∀b,F b→b < w.heap.size):
  Cz 276 #[.agg #[],pt g,.pointer (some ⟨g,10+13*j,none⟩)] w (Wr (iv (Fw s z j).1) (gE g h f s (Fw s z j).2) w F):=by
 have nD:=hm.nv
 have iL:=Qk s
 have hj2:j≤2:=by rcases hj with rfl | rfl | rfl<;>decide
 unfold Fw;refine dK func276 ntmps276 hp hF ?_;refine aA ?_;refine bA fun g1=>?_;refine aA ?_;refine lY 1 fun L=>?_;refine kd (bN rfl (pJ 1 rfl (Cu (k:=2) hj rfl))) ?_;refine aA ?_;refine kd (bN rfl (pJ 1 rfl rfl)) ?_;refine bF 1 3 ?_;refine aA ?_;refine dZ 0 (tK L.gc L.gm (.slice L.nd.1 (cZ s).length L.nd.2) (pE (cZ s).length z.cn (z.tk j).dev).2) (fun w1 F1 t h1 h2 h3=>aSn L.gc L.gm (cZ s).length L.nd.2 L.nd.1 z.cn w1 F1 (z.tk j).dev h1 h2) ?_;refine aA ?_;refine aG rfl (fun he=>?_) (fun he=>?_)
 ·rw[if_pos he,aSI he];refine aA ?_;refine aP 1 3 ?_;refine fC 1 (fun L:dM=>fN g h f L s z) L ?_;exact cI 1 hF
 ·rw[if_neg he];obtain⟨Kf,dF⟩:=aJz (Decidable.not_not.1 he);obtain⟨dv,Dr⟩:∃n:Nat,(z.tk j).dev=(n:Int):=⟨(z.tk j).dev.toNat,by omega⟩
  have Bc:dv < 6:=by omega
  have hb0:=hk.bd dv
  refine aP 1 3 ?_;refine bF 1 0 ?_;generalize oB:(pE (cZ s).length z.cn (z.tk j).dev).2=c2
  have hcell:(lA h f L s z)[10+13*j+7+dv]? =some (iv (hG (z.tk j) dv)):=by
   rw[Nat.add_assoc];exact Cu hj (aAz Bc)
  have mN:pL (z.tk j) (z.tk j).dev.toNat (1)={z.tk j with hs:=(z.tk j).hs.set dv (hG (z.tk j) dv+1)}:=by
   unfold pL;rw[show(z.tk j).dev.toNat=dv by omega]
   all_goals rfl
  have iZ:=aGD (h:=h) (f:=f) (L:=L) (s:=s) (z:=z) (i:=dv) (v:=hG (z.tk j) dv+1) hj Bc hk.len
  rw[mN];refine aA ?_;refine jM [2,3,4,5,6,7,8] ?_;refine bP 0 ?_;refine bP 1 ?_;refine aJ 2 ?_;refine aJ 3 ?_;refine aJ 4 ?_ (hi:=rfl) (dI:=gN dv (10+13*j+7+dv) (hj:=Dr) (hlt:=Bc) (ho:=by omega));refine aJ 5 ?_ (hi:=rfl) (dI:=bN rfl (Rd.aE 0 rfl hcell));refine aJ 6 ?_;refine aJ 7 ?_;refine aJ 8 ?_;refine aO 9 ?_;refine kd (gN dv (10+13*j+7+dv) (hj:=Dr) (hlt:=Bc) (ho:=by omega)) ?_;refine cX ?_;refine aO 10 ?_;refine fG rfl rfl ?_ (hs:=fB.mk 0 rfl cK.h rfl (by rw[aAB];omega));dsimp only[List.set];rw[iZ];refine cX ?_;refine fJ ?_;refine aP 1 0 ?_;refine fC 1 (fun L:dM=>fN g h f L s {z.jP j {z.tk j with hs:=(z.tk j).hs.set dv (hG (z.tk j) dv+1)} with cn:=c2}) L ?_;refine aA ?_;refine dZ 1 (gE g h f s (lO s {z.jP j {z.tk j with hs:=(z.tk j).hs.set dv (hG (z.tk j) dv+1)} with cn:=c2})) (fun w1 F1 t h1 h2 h3=>aA8 g h f s _ w1 F1 hm hz h1 h2) ?_;refine aA ?_;exact cI 1 hF
theorem aMz(hm:s.made)(hz:z.wn.of s)(j:Nat)(hj:T3 j)(hk:aFo (z.tk j))(hp:(gE g h f s z).sat F w)(hF:∀b,F b→b < w.heap.size):
  Cz 290 #[.agg #[],pt g,.pointer (some ⟨g,10+13*j,none⟩)] w (Wr (iv (Ez s z j).1) (gE g h f s (Ez s z j).2) w F):=by
 have nD:=hm.nv
 have iL:=Qk s
 have hj2:j≤2:=by rcases hj with rfl | rfl | rfl<;>decide
 unfold Ez;refine dK func290 ntmps290 hp hF ?_;refine aA ?_;refine bA fun g1=>?_;refine aA ?_;refine lY 1 fun L=>?_;refine kd (bN rfl (pJ 1 rfl (Cu (k:=2) hj rfl))) ?_;refine aA ?_;refine aU (fun w1 t=>aGB g h f L s z w1 (z.tk j).dev (t.aCQ 1 rfl)) ?_;cases hin:bO s.aD.length (z.tk j).dev
 ·refine aA ?_;refine fC 1 (fun L:dM=>fN g h f L s z) L ?_;exact cI 1 hF
 have Bb:=of_decide_eq_true hin
 obtain⟨dv,Dr⟩:∃n:Nat,(z.tk j).dev=(n:Int):=⟨(z.tk j).dev.toNat,by omega⟩
 have Bc:dv < 6:=by omega
 have hb0:=hk.bd dv
 have aQd:(lA h f L s z)[10+13*j+7+dv]? =some (iv (hG (z.tk j) dv)):=by
  rw[Nat.add_assoc];exact Cu hj (aAz Bc)
 rw[if_neg (by simp)];refine aA ?_;refine kd (gN dv (10+13*j+7+dv) (hj:=Dr) (hlt:=Bc) (ho:=by omega)) ?_;refine kd (bN rfl (pJ 1 rfl aQd)) ?_;refine aA ?_
 have Rc:(z.tk j).dev.toNat=dv:=by omega
 refine aG rfl (fun h0=>?_) (fun h0=>?_)
 ·rw[if_pos (by rw[Rc];exact h0)];refine aA ?_;refine fC 1 (fun L:dM=>fN g h f L s z) L ?_;exact cI 1 hF
 rw[if_neg (by rw[Rc];exact h0)];refine aA ?_;refine kd (bN rfl (pJ 1 rfl rfl)) ?_;refine bF 1 3 ?_;refine aA ?_;refine dZ 0 (tK L.gc L.gm (.slice L.nd.1 (cZ s).length L.nd.2) (qL (cZ s).length z.cn (z.tk j).dev).2) (fun w1 F1 t h1 h2 h3=>aSl L.gc L.gm (cZ s).length L.nd.2 L.nd.1 z.cn w1 F1 (z.tk j).dev h1 h2) ?_;refine aA ?_;refine aG rfl (fun he=>?_) (fun he=>?_)
 ·rw[if_pos he,aSh he];refine aA ?_;refine aP 1 3 ?_;refine fC 1 (fun L:dM=>fN g h f L s z) L ?_;exact cI 1 hF
 ·rw[if_neg he];refine aP 1 3 ?_;refine bF 1 0 ?_;generalize oB:(qL (cZ s).length z.cn (z.tk j).dev).2=c2
  have hcell:(lA h f L s z)[10+13*j+7+dv]? =some (iv (hG (z.tk j) dv)):=by
   rw[Nat.add_assoc];exact Cu hj (aAz Bc)
  have mN:pL (z.tk j) (z.tk j).dev.toNat (-1)={z.tk j with hs:=(z.tk j).hs.set dv (hG (z.tk j) dv - 1)}:=by
   unfold pL;rw[show(z.tk j).dev.toNat=dv by omega]
   all_goals rfl
  have iZ:=aGD (h:=h) (f:=f) (L:=L) (s:=s) (z:=z) (i:=dv) (v:=hG (z.tk j) dv - 1) hj Bc hk.len
  rw[mN];refine aA ?_;refine jM [2,3,4,5,6,7,8] ?_;refine bP 0 ?_;refine bP 1 ?_;refine aJ 2 ?_;refine aJ 3 ?_;refine aJ 4 ?_ (hi:=rfl) (dI:=gN dv (10+13*j+7+dv) (hj:=Dr) (hlt:=Bc) (ho:=by omega));refine aJ 5 ?_ (hi:=rfl) (dI:=bN rfl (Rd.aE 0 rfl hcell));refine aJ 6 ?_;refine aJ 7 ?_;refine aJ 8 ?_;refine aO 9 ?_;refine kd (gN dv (10+13*j+7+dv) (hj:=Dr) (hlt:=Bc) (ho:=by omega)) ?_;refine cX ?_;refine aO 10 ?_;refine fG rfl rfl ?_ (hs:=fB.mk 0 rfl cK.h rfl (by rw[aAB];omega));dsimp only[List.set];rw[iZ];refine cX ?_;refine fJ ?_;refine aP 1 0 ?_;refine fC 1 (fun L:dM=>fN g h f L s {z.jP j {z.tk j with hs:=(z.tk j).hs.set dv (hG (z.tk j) dv - 1)} with cn:=c2}) L ?_;refine aA ?_;refine dZ 1 (gE g h f s (lO s {z.jP j {z.tk j with hs:=(z.tk j).hs.set dv (hG (z.tk j) dv - 1)} with cn:=c2})) (fun w1 F1 t h1 h2 h3=>aA8 g h f s _ w1 F1 hm hz h1 h2) ?_;refine aA ?_;exact cI 1 hF
end
end
section
def aUu(d:bL)(vs:List Value):Prop:=∃A k A' n' k',vs=[iv d.clock,iv d.domain,iv d.reset,.int .u32 d.iT,.slice A d.aL.length k,.slice A' n' k']
structure aKD(s:aC)(rows:List (List Value)):Prop where
 row:∀(i:Nat) (d:bL),s.aD[i]? =some d→∃r,rows[i]? =some r∧aUu d r
 len:∀r∈rows,r.length=6
def Iv(L:dM)(s:aC)(rows:List (List Value))(p:Piece):Prop:=mW L s p∧aI p 6 L.a4.1 s.aD.length rows.flatten
theorem Iv.le{L:dM}{s:aC}{rows:List (List Value)}(p q:Piece)(hl:p.Le q)(h:Iv L s rows p):Iv L s rows q:=⟨mW.le p q hl h.1,h.2.le hl⟩
theorem aAC{α:Type}{R:α→List Value→Prop}{sz:Nat}:∀{es:List α} {rs:List (List Value)},Rows R sz es rs→∀(i:Nat) (e:α),es[i]? =some e→∃r,rs[i]? =some r∧r.length=sz∧R e r
 | [],[],_,i,e,h=>by simp at h
 | a::es,r::rs,h,0,e,he=>by
  simp at he;subst he;exact⟨r,rfl,h.1,h.2.1⟩
 | a::es,r::rs,h,i+1,e,he=>aAC h.2.2 i e (by simpa using he)
section
variable{N:cF}{w0:World}{e:Env}{R:List Piece}{H:List HP}{K:Act→World→Prop}{L:dM}{s:aC}
theorem aTB(i:Nat)(hi:H[i]? =some (HP.bY (mW L s) (mW.le (L:=L) (s:=s))))(k:∀rows,aKD s rows→XK N w0 K e R (H.set i (HP.bY (Iv L s rows) (Iv.le (L:=L) (s:=s) (rows:=rows))))):XK N w0 K e R H:=fun a w hr st=>by
 obtain⟨F,h1,hlt,_,hk⟩:=st.chunk hi;obtain⟨rows,eI,iJ,yO⟩:=(h1:mW L s ⟨w,F⟩).dev;refine k rows ⟨fun i d hd=>?_,fun r hr=>Rows.Ze eI r hr⟩ a w hr (hk w F _ (show Iv L s rows ⟨w,F⟩ from⟨h1,yO⟩) ⟨rfl,rfl,rfl,Nat.le_refl _,fun b hb=>⟨.inl hb,hlt b hb⟩,fun _ _ _=>rfl⟩);obtain⟨r,h2,_,A,n,q,A',n',q',h3,h4,_⟩:=aAC eI i d hd;subst h4;exact⟨r,h2,A,q,A',n',q',h3⟩
theorem Rd.dev(i:Nat){rows:List (List Value)}{j k b off:Nat}{r:List Value}{v:Value}{hm:∀p q:Piece,p.Le q→Iv L s rows p→Iv L s rows q}(hi:H[i]? =some (HP.bY (Iv L s rows) hm))(hq:aKD s rows)(hA:L.a4.1=some ⟨b,off,none⟩)(hr:rows[j]? =some r)(hj:j < s.aD.length)(hv:r[k]? =some v):Rd w0 R H b (off+j*6+k) v:=by
 have hk:k < 6:=by
  have h1:=hq.len r (List.mem_of_getElem? hr)
  have:=(List.getElem?_eq_some_iff.1 hv).1
  omega
 have hf:=Nq (fun x=>x) 6 rows hq.len j k r hr hk
 have:=Rd.bY (w0:=w0) (R:=R) (xs:=rows.flatten) (j:=j*6+k) (v:=v) i hi (fun p h=>h.2) hA (by omega) (by simpa[hv] using hf)
 rwa [←Nat.add_assoc] at this
end
theorem aM2(g h f:Nat)(L:dM)(s:aC)(z:aV)(w:World)(d:Int)(hR:eG w g 0 (lA h f L s z)):Cz 67 #[pt g,iv d] w (Rt (.bool (bO s.aD.length d)) w):=by
 have k5:=hR.at_ (j:=5) rfl
 refine aN func67 ntmps67 ?_;refine aA ?_;refine bX (t:=7) rfl (fun h=>?_) (fun h=>?_)
 ·refine aA ?_;refine jT (by simp) ?_;unfold bO
  congr 1
  simp;omega
 ·refine aA ?_;refine jT (by simp) ?_
  have:bO s.aD.length d=false:=decide_eq_false (by omega)
  rw[this]
def yL(s:aC)(d:Int):Int:=((s.aD[d.toNat]?).map fun d=>(d.aL.length:Int)).getD 0
def Io(s:aC)(t:rJ):Prop:=bO s.aD.length t.dev=false∨t.bT < 0∨yL s t.dev≤t.bT
instance(s:aC)(t:rJ):Decidable (Io s t):=by unfold Io;infer_instance
def Dx(s:aC)(x:aM)(z:aV)(j:Nat)(wr:Bool):Int×aV×aM:=
 if Io s (z.tk j) then(4,z,x) else if hG (z.tk j) (z.tk j).dev.toNat=0∨z.cn.iA=true then(6,z,x)
 else if uN x (z.tk j).dev.toNat=114 then(0,{z with aQ:=true,id:=x.aQ},wX x (z.tk j).dev.toNat wr (z.tk j).bT (z.tk j).val) else(6,z,x)
def Lj(g f:Nat)(hL:HL)(s:aC)(z:aV)(x:aM):HP:=HP.many [gE g hL.h f s z,dR hL s x]
section
variable(g f:Nat)(hL:HL)(s:aC)(z:aV)(x:aM)(w:World)(F:Nat→Prop)
theorem aGE(hm:s.made)(aW:iU hL s)(hok:cM s x)(hw0:∀i:Nat,(x.wt[i]?).join=none)(lU:0≤x.aQ∧x.aQ≤1000000000)(j:Nat)(hj:T3 j)(wr:Bool)(hp:(Lj g f hL s z x).sat F w)(hF:∀b,F b→b < w.heap.size)(fD:kM ⟨w,fun b=>b < w.heap.size∧¬F b⟩):
  Cz 291 #[.agg #[.bool wr],pt g,.pointer (some ⟨g,10+13*j,none⟩)] w (Wr (iv (Dx s x z j wr).1) (Lj g f hL s (Dx s x z j wr).2.1 (Dx s x z j wr).2.2) w F):=by
 have nD:=hm.nv
 have hH:=hm.dJ
 have hj2:j≤2:=by rcases hj with rfl | rfl | rfl<;>decide
 unfold Dx;refine dK func291 ntmps291 hp hF ?_;generalize cN:(⟨w,fun b=>b < w.heap.size∧¬F b⟩:Piece)=R0 at fD⊢;refine bF 0 1 ?_;refine bF 1 0 ?_;refine lY 0 fun L=>?_;refine aA ?_;refine bA fun g1=>?_;refine aA ?_;refine kd (oZ (vs:=[.int .u8 (z.tk j).kind,iv (z.tk j).dev,iv (z.tk j).bT,.int .u32 (z.tk j).val]) rfl (aR.of fun k v hv=>pJ 1 rfl ?_)) ?_
 ·have hk:k < 4:=by simpa using(List.getElem?_eq_some_iff.1 hv).1
  have h2:k=0∨k=1∨k=2∨k=3:=by omega
  have:=Cu (h:=hL.h) (f:=f) (L:=L) (s:=s) (z:=z) (j:=j) (k:=1+k) (v:=v) hj (by rcases h2 with rfl | rfl | rfl | rfl<;>exact hv)
  rwa [←Nat.add_assoc] at this
 refine bU fun g7=>?_;refine aA ?_;refine bF 2 1 ?_;refine bF 3 0 ?_
 have hj7:10+13*j+7 < 55:=by omega
 refine aTB 1 rfl fun rows hq=>?_;dsimp only[List.set];refine aEP (A:=L.a4.1) (sz:=6) (n:=s.aD.length) (xs:=rows.flatten) 1 rfl (fun _ h=>h.2) (by omega) fun b off hA=>?_;refine aA ?_;refine mK ?_;refine jB ?_;refine uA (fun w1 t=>aM2 g hL.h f L s z w1 (z.tk j).dev (wD (t.aE (i:=0) rfl))) ?_;cases hin:bO s.aD.length (z.tk j).dev
 ·refine jC ?_;rw[if_pos (show Io s (z.tk j) from .inl hin)];refine aA ?_;refine Bq (q:=HP.bY (mW L s) (mW.le (L:=L) (s:=s))) 1 rfl (fun F w hs=>hs.1) ?_;dsimp only[List.set];refine aP 3 0 ?_;refine aP 2 1 ?_;refine fC 2 (fun L:dM=>fN g hL.h f L s z) L ?_;refine aY [2,3,4] rfl (by decide) (fun _ h=>h) ?_;refine aP 1 0 ?_;refine aP 0 1 ?_;subst cN;exact cI 0 hF
 ·have Bb:=of_decide_eq_true hin
  obtain⟨dv,Dr⟩:∃n:Nat,(z.tk j).dev=(n:Int):=⟨(z.tk j).dev.toNat,by omega⟩
  have Rc:(z.tk j).dev.toNat=dv:=by omega
  obtain⟨d,dF⟩:=get_some (l:=s.aD) (i:=dv) (by omega)
  have uW:yL s (z.tk j).dev=d.aL.length:=by
   unfold yL;rw[Rc,dF];rfl
  obtain⟨r,hr,A,k,A',n',k',rfl⟩:=hq.row dv d dF;refine jB ?_;refine Og 26 rfl (fun hneg=>?_) (fun hnn=>?_)
  ·refine jC ?_;rw[if_pos (show Io s (z.tk j) from .inr (.inl hneg))];refine aA ?_;refine Bq (q:=HP.bY (mW L s) (mW.le (L:=L) (s:=s))) 1 rfl (fun F w hs=>hs.1) ?_;dsimp only[List.set];refine aP 3 0 ?_;refine aP 2 1 ?_;refine fC 2 (fun L:dM=>fN g hL.h f L s z) L ?_;refine aY [2,3,4] rfl (by decide) (fun _ h=>h) ?_;refine aP 1 0 ?_;refine aP 0 1 ?_;subst cN;exact cI 0 hF
  ·refine jB ?_;refine xK (dat dv (off+dv*6) (hx:=by rw[←hA];rfl) (hj:=Dr)) ?_;refine jB ?_;refine xK (bN rfl (Rd.dev 1 rfl hq hA hr (by omega) rfl)) ?_;refine jC ?_;refine aA ?_;refine aG rfl (fun hge=>?_) (fun hlt=>?_)
   ·rw[if_pos (show Io s (z.tk j) from .inr (.inr (by rw[uW];exact hge)))];refine aA ?_;refine Bq (q:=HP.bY (mW L s) (mW.le (L:=L) (s:=s))) 1 rfl (fun F w hs=>hs.1) ?_;dsimp only[List.set];refine aP 3 0 ?_;refine aP 2 1 ?_;refine fC 2 (fun L:dM=>fN g hL.h f L s z) L ?_;refine aY [2,3,4] rfl (by decide) (fun _ h=>h) ?_;refine aP 1 0 ?_;refine aP 0 1 ?_;subst cN;exact cI 0 hF
   ·have aP9:¬Io s (z.tk j):=by
     unfold Io;rw[hin,uW];rintro(h | h | h)
     ·cases h
     ·exact hnn h
     ·exact hlt h
    have hcell:(lA hL.h f L s z)[10+13*j+7+dv]? =some (iv (hG (z.tk j) dv)):=by
     rw[Nat.add_assoc];exact Cu hj (aAz (by omega))
    rw[if_neg aP9];refine Bq (q:=HP.bY (mW L s) (mW.le (L:=L) (s:=s))) 1 rfl (fun F w hs=>hs.1) ?_;dsimp only[List.set];refine aP 3 0 ?_;refine aP 2 1 ?_;refine aA ?_;refine mK ?_;refine jB ?_;refine xK (gN dv (10+13*j+7+dv) (hj:=Dr) (hlt:=by omega) (ho:=by omega)) ?_;refine xK (bN rfl (pJ 2 rfl hcell)) ?_;refine jB ?_;refine Og 51 rfl (fun h0=>?_) (fun h0=>?_)
    ·refine jC ?_;rw[if_pos (show hG (z.tk j) (z.tk j).dev.toNat=0∨z.cn.iA=true from .inl (by rw[Rc];exact h0))];refine aA ?_;refine fC 2 (fun L:dM=>fN g hL.h f L s z) L ?_;refine aY [2,3,4] rfl (by decide) (fun _ h=>h) ?_;refine aP 1 0 ?_;refine aP 0 1 ?_;subst cN;exact cI 0 hF
    ·refine jB ?_;refine xK (bN rfl (pJ 2 rfl rfl)) ?_;refine jB ?_;refine uA (fun w1 t=>aSo L.gc z.cn.iA w1 ((t.aCQ 2 rfl).cn.at_ (j:=2) rfl)) ?_;cases aUE:z.cn.iA
     ·refine jC ?_;refine aA ?_
      have aU6:=(List.getElem?_eq_some_iff.1 dF).1
      have hrl:=(hm.aD dv d dF).2.2.2.2.2.2.2.2.1
      have Ay:0≤(z.tk j).bT:=by omega
      have eI:(z.tk j).bT < d.aL.length:=by omega
      have hno:¬(hG (z.tk j) dv=0∨false=true):=by
       rintro(h | h)
       ·exact h0 h
       ·cases h
      rw[Rc,if_neg hno];refine aA ?_;refine aU (fun w1 t=>aSS (z.tk j).dev (z.tk j).bT ⟨by omega,by omega⟩ ⟨Ay,by omega⟩ w1) ?_;refine aA ?_
      by_cases Dn:uN x dv=114
      ·rw[if_pos Dn];refine aY [3,0,1,2,4] rfl (by decide) (fun _ h=>h) ?_;refine Om [1,2,3,5,6,7,8,11,12] ?_;refine bP 0 ?_ (hsub:=fun _ h=>h.cR);refine aJ 1 ?_ (hsub:=fun _ h=>h.cR);refine aJ 2 ?_ (hsub:=fun _ h=>h.cR);refine aJ 3 ?_ (hi:=rfl) (dI:=bN rfl (pJ 3 rfl rfl)) (hsub:=fun _ h=>h.cR);refine bP 4 ?_ (hsub:=fun _ h=>h.cR);refine aJ 5 ?_ (hsub:=fun _ h=>h.cR);refine aJ 6 ?_ (hsub:=fun _ h=>h.cR);refine aJ 7 ?_ (hsub:=fun _ h=>h.cR);refine aJ 8 ?_ (hsub:=fun _ h=>h.cR);refine aO 9 ?_
       refine aAY (v:=.tuple #[iv x.aQ,iv 0]) 0 (dR hL s (wX x dv wr (z.tk j).bT (z.tk j).val)) (fun w1 F1 t h1 h2 h3=>by
        have:=aIt hL s x w1 hH aW hok dv d dF (hw0 dv) nD.2 (z.tk j).bT ⟨Ay,by omega,eI⟩ wr (z.tk j).val lU F1 h1 h2 (kM.le fD (h3 _ (by simp)))
        rw[if_pos Dn,if_pos Dn,←Dr] at this
        exact this) ?_
       dsimp only[List.set];refine bM ?_ (hS:=fun _ h=>h.cR);refine aO 10 ?_;refine bH ?_;refine bM ?_ (hS:=fun _ h=>h.cR);refine aJ 11 ?_ (hsub:=fun _ h=>h.cR);refine aJ 12 ?_ (hsub:=fun _ h=>h.cR);refine aO 13 ?_;refine bH ?_;refine bM ?_ (hS:=fun _ h=>h.cR);refine aO 14 ?_;refine bH ?_;refine bM ?_ (hS:=fun _ h=>h.cR);refine fJ ?_;refine aY [1,2,3,0,4] rfl (by decide) (fun _ h=>h) ?_;refine bF 2 0 ?_;refine aA ?_;refine fG rfl rfl ?_ (hs:=fB.mk 0 rfl cK.h rfl (of_decide_eq_true rfl));dsimp only[List.set];refine aA ?_;refine fG rfl rfl ?_ (hs:=fB.mk 0 rfl cK.h rfl (of_decide_eq_true rfl));dsimp only[List.set];refine aA ?_;refine aP 2 0 ?_;refine fC 2 (fun L:dM=>fN g hL.h f L s {z with aQ:=true,id:=x.aQ}) L ?_;refine aY [2,3,4] rfl (by decide) (fun _ h=>h) ?_;refine aP 1 0 ?_;refine aP 0 1 ?_;subst cN;exact cI 0 hF
      ·rw[if_neg Dn];refine aY [3,0,1,2,4] rfl (by decide) (fun _ h=>h) ?_;refine Om [1,2,3,5,6,7,8,11,12] ?_;refine bP 0 ?_ (hsub:=fun _ h=>h.cR);refine aJ 1 ?_ (hsub:=fun _ h=>h.cR);refine aJ 2 ?_ (hsub:=fun _ h=>h.cR);refine aJ 3 ?_ (hi:=rfl) (dI:=bN rfl (pJ 3 rfl rfl)) (hsub:=fun _ h=>h.cR);refine bP 4 ?_ (hsub:=fun _ h=>h.cR);refine aJ 5 ?_ (hsub:=fun _ h=>h.cR);refine aJ 6 ?_ (hsub:=fun _ h=>h.cR);refine aJ 7 ?_ (hsub:=fun _ h=>h.cR);refine aJ 8 ?_ (hsub:=fun _ h=>h.cR);refine aO 9 ?_
       refine aAY (v:=.tuple #[iv 0,iv 6]) 0 (dR hL s x) (fun w1 F1 t h1 h2 h3=>by
        have:=aIt hL s x w1 hH aW hok dv d dF (hw0 dv) nD.2 (z.tk j).bT ⟨Ay,by omega,eI⟩ wr (z.tk j).val lU F1 h1 h2 (kM.le fD (h3 _ (by simp)))
        rw[if_neg Dn,if_neg Dn,←Dr] at this
        exact this) ?_
       dsimp only[List.set];refine bM ?_ (hS:=fun _ h=>h.cR);refine aO 10 ?_;refine bH ?_;refine bM ?_ (hS:=fun _ h=>h.cR);refine aJ 11 ?_ (hsub:=fun _ h=>h.cR);refine aJ 12 ?_ (hsub:=fun _ h=>h.cR);refine aO 13 ?_;refine bH ?_;refine bM ?_ (hS:=fun _ h=>h.cR);refine aO 14 ?_;refine bH ?_;refine bM ?_ (hS:=fun _ h=>h.cR);refine fJ ?_;refine aY [1,2,3,0,4] rfl (by decide) (fun _ h=>h) ?_;refine aA ?_;refine fC 2 (fun L:dM=>fN g hL.h f L s z) L ?_;refine aY [2,3,4] rfl (by decide) (fun _ h=>h) ?_;refine aP 1 0 ?_;refine aP 0 1 ?_;subst cN;exact cI 0 hF
     ·refine jC ?_;rw[if_pos (.inr rfl)];refine aA ?_;refine fC 2 (fun L:dM=>fN g hL.h f L s z) L ?_;refine aY [2,3,4] rfl (by decide) (fun _ h=>h) ?_;refine aP 1 0 ?_;refine aP 0 1 ?_;subst cN;exact cI 0 hF
end
end
section
theorem aBz{P:Program}{fn:FuncId}{args:Array Value}{w:World}{p p' q:HP}{v:Value}{F:Nat→Prop}(h:∀F,p.sat F w→(∀b,F b→b < w.heap.size)→Calls P fn args w fun y w'=>y=.returned v∧∃F',p'.sat F' w'∧iE w w' F F')
  (hp:(HP.many [p,q]).sat F w) (hF:∀b,F b→b < w.heap.size):Calls P fn args w fun y w'=>y=.returned v∧∃F',(HP.many [p',q]).sat F' w'∧iE w w' F F':=by
 obtain⟨G,g1,g2,g3⟩:=hp
 have Fk:=g1 0 p rfl
 have Jy:=g1 1 q rfl
 refine(h (G 0) Fk fun b hb=>hF b (g2 0 b hb)).mono fun y w' ⟨hy,F',h1,ht⟩=>⟨hy,fun b=>F' b∨G 1 b,⟨fun i=>match i with | 0=>F' | 1=>G 1 | _=>fun _=>False,fun i r hr=>?_,fun i b hb=>?_,fun i j b hij hi hj=>?_⟩,⟨ht.os,ht.tape,ht.output,ht.size,fun b hb=>?_,fun b hb hn=>?_⟩⟩
 ·match i,hr with
  | 0,hr=>cases hr;exact h1
  | 1,hr=>cases hr;exact q.loc _ _ _ Jy fun b hb=>ht.old b (hF b (g2 1 b hb)) fun h0=>g3 0 1 b (by decide) h0 hb
  | i+2,hr=>simp at hr
 ·match i,hb with
  | 0,hb=>exact .inl hb
  | 1,hb=>exact .inr hb
  | i+2,hb=>exact hb.elim
 ·have key:∀b,F' b→G 1 b→False:=fun b h0 h2=>by
   rcases(ht.new b h0).1 with h3 | h3
   ·exact g3 0 1 b (by decide) h3 h2
   ·have:=hF b (g2 1 b h2)
    omega
  match i,j,hi,hj with
  | 0,0,_,_=>exact absurd rfl hij
  | 0,1,hi,hj=>exact key b hi hj
  | 1,0,hi,hj=>exact key b hj hi
  | 1,1,_,_=>exact absurd rfl hij
  | i+2,_,hi,_=>exact hi.elim
  | _,j+2,_,hj=>exact hj.elim
 ·rcases hb with hb | hb
  ·refine⟨?_,(ht.new b hb).2⟩;rcases(ht.new b hb).1 with h3 | h3
   ·exact .inl (g2 0 b h3)
   ·exact .inr h3
  ·exact⟨.inl (g2 1 b hb),Nat.lt_of_lt_of_le (hF b (g2 1 b hb)) ht.size⟩
 ·exact ht.old b hb fun h0=>hn (g2 0 b h0)
structure Ts(s:aC)(z:aV):Prop where
 wn:z.wn.of s
 hs:∀j,T3 j→aFo (z.tk j)
structure HwP(s:aC)(x:aM):Prop where
 ok:cM s x
 w0:∀i:Nat,(x.wt[i]?).join=none
 po:0≤x.aQ∧x.aQ≤1000000000
def qK(s:aC)(x:aM)(z:aV)(j:Nat)(k:Int):Int×aV×aM:=
 if k=103 then((Fw s z j).1,(Fw s z j).2,x) else if k=112 then((Ez s z j).1,(Ez s z j).2,x) else if k=114 then Dx s x z j false else if k=119 then Dx s x z j true else if k=115 then((Er s z).1,(Er s z).2,x) else((Ex s z).1,(Ex s z).2,x)
theorem aRm{k:Int}(hk:sZ k):∃(tx:TypeId) (u u':Value) (fn:FuncId),Nv k=.iface tx u∧(∀w,(method (Tryz.prog.types.size+Made.depth) tx u "catnap/rpm.begin").run Tryz.prog w=.ok (fn,u') w)∧fH Tryz.prog fn=true∧
  ∀(g f:Nat) (hL:HL) (s:aC) (z:aV) (x:aM) (w:World) (F:Nat→Prop) (j:Nat),s.made→iU hL s→HwP s x→Ts s z→T3 j→(Lj g f hL s z x).sat F w→(∀b,F b→b < w.heap.size)→kM ⟨w,fun b=>b < w.heap.size∧¬F b⟩→
   Cz fn #[u',pt g,.pointer (some ⟨g,10+13*j,none⟩)] w (Wr (iv (qK s x z j k).1) (Lj g f hL s (qK s x z j k).2.1 (qK s x z j k).2.2) w F):=by
 rcases hk with rfl | rfl | rfl | rfl | rfl | rfl
 ·exact⟨_,_,.agg #[],276,rfl,fun w=>by kernel_rfl,(by kernel_rfl),fun g f hL s z x w F j hm aW hx hz hj hp hF _=>aBz (fun F h1 h2=>aM1 g hL.h f s z w F hm hz.wn j hj (hz.hs j hj) h1 h2) hp hF⟩
 ·exact⟨_,_,.agg #[],290,rfl,fun w=>by kernel_rfl,(by kernel_rfl),fun g f hL s z x w F j hm aW hx hz hj hp hF _=>aBz (fun F h1 h2=>aMz g hL.h f s z w F hm hz.wn j hj (hz.hs j hj) h1 h2) hp hF⟩
 ·exact⟨_,_,.agg #[.bool false],291,rfl,fun w=>by kernel_rfl,(by kernel_rfl),fun g f hL s z x w F j hm aW hx hz hj hp hF fD=>aGE g f hL s z x w F hm aW hx.ok hx.w0 hx.po j hj false hp hF fD⟩
 ·exact⟨_,_,.agg #[.bool true],291,rfl,fun w=>by kernel_rfl,(by kernel_rfl),fun g f hL s z x w F j hm aW hx hz hj hp hF fD=>aGE g f hL s z x w F hm aW hx.ok hx.w0 hx.po j hj true hp hF fD⟩
 ·exact⟨_,_,.agg #[],297,rfl,fun w=>by kernel_rfl,(by kernel_rfl),fun g f hL s z x w F j hm aW hx hz hj hp hF _=>aBz (fun F h1 h2=>aMv g hL.h f s z w F hm hz.wn _ h1 h2) hp hF⟩
 ·exact⟨_,_,.agg #[],298,rfl,fun w=>by kernel_rfl,(by kernel_rfl),fun g f hL s z x w F j hm aW hx hz hj hp hF _=>aBz (fun F h1 h2=>aMy g hL.h f s z w F hm hz.wn _ h1 h2) hp hF⟩
theorem aIQ(s:aC)(x:aM)(z:aV)(j:Nat)(k:Int):(qK s x z j k).2.1.eX=z.eX:=by
 unfold qK Fw Ez Er Ex Dx
 repeat' split
 all_goals rfl
theorem aM3{h f:Nat}{L:dM}{s:aC}{z:aV}{j:Nat}{v:Int}(hj:T3 j):(lA h f L s z).set (10+13*j+0) (iv v)=lA h f L s (z.jP j {z.tk j with st:=v}):=by
 rcases hj with rfl | rfl | rfl<;>rfl
def kB(z:aV)(j:Nat):aV:={z.jP j {z.tk j with st:=2} with eX:=(j:Int)}
theorem aNY{z:aV}{j:Nat}(hj:T3 j):(kB z j).tk j={z.tk j with st:=2}:=by
 rcases hj with rfl | rfl | rfl<;>rfl
theorem aNZ{s:aC}{z:aV}{j:Nat}(hj:T3 j)(h:Ts s z):Ts s (kB z j):=⟨h.wn,fun i hi=>by
 have h1:=h.hs i hi
 have h2:((kB z j).tk i).hs=(z.tk i).hs:=by
  rcases hj with rfl | rfl | rfl<;>rcases hi with rfl | rfl | rfl<;>rfl
 exact⟨by rw[h2];exact h1.len,fun k=>by
  have:=h1.bd k
  unfold hG at this⊢;rw[h2]
  exact this⟩⟩
def pF(s:aC)(x:aM)(z:aV)(j:Nat):aV×aM:=
 let r:=qK s x (kB z j) j (z.tk j).kind
 if r.1≠0 then(kD r.2.1 j r.1 0,r.2.2) else if r.2.1.aQ=false∧r.2.1.steps.length=0 then(kD r.2.1 j 0 0,r.2.2) else r.2
theorem aM4(g f:Nat)(hL:HL)(s:aC)(z:aV)(x:aM)(w:World)(F:Nat→Prop)(j:Nat)(hm:s.made)(aW:iU hL s)(hx:HwP s x)(hz:Ts s z)(hj:T3 j)(hk:sZ (z.tk j).kind)(hp:(Lj g f hL s z x).sat F w)(hF:∀b,F b→b < w.heap.size)(fD:kM ⟨w,fun b=>b < w.heap.size∧¬F b⟩):
  Cz 47 #[pt g,iv (j:Int)] w (Wr (.tuple #[]) (Lj g f hL s (pF s x z j).1 (pF s x z j).2) w F):=by
 have hj2:j≤2:=by rcases hj with rfl | rfl | rfl<;>decide
 obtain⟨tx,u,u',fn,hy,hme,hcb,Be⟩:=aRm hk
 have mN:=aNZ hj hz
 have hh:=aIQ s x (kB z j) j (z.tk j).kind
 unfold pF;dsimp only;refine dK func47 ntmps47 hp hF ?_;generalize cN:(⟨w,fun b=>b < w.heap.size∧¬F b⟩:Piece)=R0 at fD⊢;refine bF 0 0 ?_;refine lY 0 fun L=>?_;refine bF 0 0 ?_;refine aA ?_;refine fG rfl rfl ?_ (hs:=fB.mk 0 rfl cK.h rfl (of_decide_eq_true rfl));dsimp only[List.set];rw[show(lA hL.h f L s z).set (0+49) (iv (j:Int))=lA hL.h f L s {z with eX:=(j:Int)} from rfl];refine aA ?_;refine kd (gN j (10+13*j) (ho:=by omega)) ?_;refine aA ?_;refine fG rfl rfl ?_ (hs:=fB.mk 0 rfl cK.h rfl (by rw[aAB];omega));dsimp only[List.set];rw[aM3 hj];refine aP 0 0 ?_
 change XK _ _ _ _ _ [fN g hL.h f L s (kB z j),HP.many [cH,dR hL s x]]
 refine aA ?_;refine kd (bN rfl (pJ 0 rfl (Cu (k:=1) hj rfl))) ?_;rw[aNY hj];refine aU (fun w1 _=>aAA (z.tk j).kind w1) ?_;rw[hy];refine fC 0 (fun L:dM=>fN g hL.h f L s (kB z j)) L ?_;refine aP 0 0 ?_;refine aA ?_;generalize hr:qK s x (kB z j) j (z.tk j).kind=r at hh⊢
 refine aF9 0 (Lj g f hL s r.2.1 r.2.2) hcb rfl hme rfl rfl ⟨by decide,rfl⟩ (fun w1 F1 t h1 h2 h3=>by
  have:=Be g f hL s (kB z j) x w1 F1 j hm aW hx mN hj h1 h2 (kM.le fD (h3 _ (by simp)))
  rw[hr] at this
  exact this) ?_
 dsimp only[List.set];obtain⟨er,z2,x2⟩:=r;dsimp only at hh⊢;refine aA ?_;refine aG rfl (fun he=>?_) (fun he=>?_)
 ·rw[if_pos he];refine aA ?_;refine kd (gA rfl) ?_;refine aA ?_;refine bF 0 0 ?_;refine dZ 0 (gE g hL.h f s (kD z2 j er 0)) (fun w1 F1 t h1 h2 h3=>Jg g hL.h f s z2 w1 F1 j hh hj er 0 h1 h2) ?_;refine aP 0 0 ?_;refine aA ?_;subst cN;exact jZ 0 hF
 ·rw[if_neg he];refine bF 0 0 ?_;refine lY 0 fun L2=>?_;refine aA ?_;refine kd (bN rfl (pJ 0 rfl rfl)) ?_;cases lU:z2.aQ
  ·refine aA ?_;refine kd (bN rfl (pJ 0 rfl rfl)) ?_;refine aA ?_;refine fC 0 (fun L:dM=>fN g hL.h f L s z2) L2 ?_;refine aG rfl (fun hn=>?_) (fun hn=>?_)
   ·rw[if_pos ⟨rfl,Int.ofNat.inj hn⟩];refine aA ?_;refine kd (gA rfl) ?_;refine aA ?_;refine dZ 0 (gE g hL.h f s (kD z2 j 0 0)) (fun w1 F1 t h1 h2 h3=>Jg g hL.h f s z2 w1 F1 j hh hj 0 0 h1 h2) ?_;refine aP 0 0 ?_;subst cN;exact jZ 0 hF
   ·rw[if_neg (fun h=>hn (congrArg Int.ofNat h.2))];refine aA ?_;refine aP 0 0 ?_;subst cN;exact jZ 0 hF
  ·refine aA ?_;rw[if_neg (by simp)];refine fC 0 (fun L:dM=>fN g hL.h f L s z2) L2 ?_;refine aP 0 0 ?_;subst cN;exact jZ 0 hF
end
section
def aFi(g h f:Nat)(s:aC)(z:aV)(y:bZ):HP:=HP.many [gE g h f s z,Cf f h s y]
def qB(p:cY)(k:Int):List Int:=[(dY p.msg 0 p.pr k).1,p.id,p.v]
def Je(a:List Int):Prop:=IntKind.i32.wrap (a.getD 1 0)=0∨IntKind.i32.wrap (a.getD 1 0)= -3
instance(a:List Int):Decidable (Je a):=by unfold Je;infer_instance
def sQ(z:aV)(a:List Int):aV:=if Je a then {z with sent:=false,steps:=z.steps.tail} else {z with sent:=false}
theorem aGf{z:aV}{a:List Int}(h:Je a):sQ z a={z with sent:=false,steps:=z.steps.tail}:=if_pos h
theorem aL4{z:aV}{a:List Int}(h:¬Je a):sQ z a={z with sent:=false}:=if_neg h
def qM(z:aV)(y:bZ)(j:Nat):aV×bZ:=
 if z.sent=true then
  match oM y 0 with
  | none=>(z,oL y 0)
  | some a=>(if(sQ z a).steps.length=0 then kD (sQ z a) j 0 0 else sQ z a,oL y 0)
 else
  match z.steps with
  | []=>(z,y)
  | p::_=>if(nX y 0 (qB p z.many)).1=0 then({z with sent:=true,many:=(z.many+1) % 1024},(nX y 0 (qB p z.many)).2) else(z,(nX y 0 (qB p z.many)).2)
theorem aGC{h f:Nat}{L:dM}{s:aC}{z:aV}{p:cY}{tl:List cY}{A:Option Addr}{c:Nat}(hst:z.steps=p::tl):(lA h f L s z).set 50 (.slice A (z.steps.length - 1) c)=lA h f {L with st:=(A,c)} s {z with steps:=z.steps.tail}:=by
 obtain⟨cn,wn,t0,t1,t2,eX,steps,sent,aQ,id,many⟩:=z;dsimp only at hst;subst hst;rfl
theorem aI.aRz{p:Piece}{sz n k:Nat}{A A':Option Addr}{xs:List Value}(h:aI p sz A n xs)(hk:k≤n)(hA:k < n→∀b off,A=some ⟨b,off,none⟩→A'=some ⟨b,off+k*sz,none⟩):aI p sz A' (n - k) (xs.drop (k*sz)):=by
 refine⟨by rw[List.length_drop,h.1,Nat.sub_mul],fun h0=>?_⟩;obtain⟨b,off,hA2,hz,hc⟩:=h.2 (by omega);refine⟨b,off+k*sz,hA (by omega) b off hA2,hz,fun j u hu=>?_⟩;rw[List.getElem?_drop] at hu;rw[Nat.add_assoc];exact hc _ u hu
theorem aKa{N:cF}{w0:World}{e:Env}{R:List Piece}{H:List HP}{K:Act→World→Prop}(i:Nat){b:Nat}{t:TypeId}{cs cs':List Value}(hi:H[i]? =some (HP.aE b t cs))(he:cs=cs')(k:XK N w0 K e R (H.set i (HP.aE b t cs'))):XK N w0 K e R H:=by
 subst he;obtain⟨hlt,hx⟩:=List.getElem?_eq_some_iff.1 hi;rw[←hx,List.set_getElem_self hlt] at k;exact k
def Ig(L:dM):dM:={L with st:=(if L.st.2=1 then L.st.1 else L.st.1.map (·.add (1*4)),L.st.2 - 1)}
theorem oH.tail{L:dM}{p:cY}{l tl:List cY}{q:Piece}(hl:l=p::tl)(h:oH L l q):oH (Ig L) l.tail q:=by
 subst hl;obtain⟨h1,h2⟩:=h;simp only[List.length_cons] at h2;refine⟨h1.aRz (k:=1) (by simp) fun hlt b off hA=>?_,by simp only[List.tail_cons,Ig];omega⟩;simp only[List.length_cons] at hlt;unfold Ig;dsimp only;rw[if_neg (by omega),hA];rfl
section
variable(g h f:Nat)(s:aC)(z:aV)(y:bZ)(w:World)(F:Nat→Prop)
theorem aM7(j:Nat)(hh:z.eX=(j:Int))(hj:T3 j)(hne:z.steps≠[])(hmy:0≤z.many∧z.many < 1024)(hpk:∀p∈z.steps,(dY p.msg 0 p.pr z.many).2=0)(hra:∀a,oM y 0=some a→2≤a.length)(hp:(aFi g h f s z y).sat F w)(hF:∀b,F b→b < w.heap.size):
  Cz 48 #[pt g] w (fun v w'=>v=.returned (.tuple #[])∧∃F',(aFi g h f s (qM z y j).1 (qM z y j).2).sat F' w'∧iE w w' F F'):=by
 obtain⟨p,tl,hst⟩:=List.exists_cons_of_ne_nil hne
 have Fm:z.steps.length=tl.length+1:=by rw[hst];rfl
 refine dK func48 ntmps48 hp hF ?_;generalize cN:(⟨w,fun b=>b < w.heap.size∧¬F b⟩:Piece)=R0;refine bF 0 0 ?_;refine lY 0 fun L=>?_;refine bF 0 0 ?_;refine bF 1 5 ?_;refine bF 3 1 ?_;refine aA ?_;cases hse:z.sent
 ·have Xo:qM z y j=if(nX y 0 (qB p z.many)).1=0 then({z with sent:=true,many:=(z.many+1) % 1024},(nX y 0 (qB p z.many)).2) else(z,(nX y 0 (qB p z.many)).2):=by
   unfold qM;rw[if_neg (by rw[hse];simp),hst]
  rw[Xo]
  have aPw:=hpk p (by rw[hst];simp)
  have hfm:z.steps.flatMap cY.cells=p.cells++tl.flatMap cY.cells:=by rw[hst];rfl
  refine aA ?_;refine aEP (A:=L.st.1) (sz:=4) (n:=z.steps.length) (xs:=z.steps.flatMap cY.cells) 1 rfl (fun _ h=>h.1) (by omega) fun b off hA=>?_;refine jM [1,2,3,4,5,7,8,9,12,13] ?_;refine bP 0 ?_;refine aJ 1 ?_;refine aJ 2 ?_;refine aJ 3 ?_;refine aJ 4 ?_ (hi:=rfl) (dI:=dat 0 off (hx:=by rw[←hA];rfl) (hj:=rfl));refine aJ 5 ?_ (hi:=rfl) (dI:=oZ rfl (aR.of (vs:=p.cells) fun i v hv=>Rd.bY 1 rfl (fun _ h=>h.1) hA (by omega) (by rw[hfm,List.getElem?_append_left (List.getElem?_eq_some_iff.1 hv).1];exact hv)));refine bP 6 ?_;refine aJ 7 ?_;refine aJ 8 ?_;refine aJ 9 ?_;refine aO 10 ?_;refine jQ [] (aCr (qB p z.many)) (fun w1 t=>aLc p.pr p.msg p.id p.v z.many w1 aPw) ?_;rintro _ w1 q1 ⟨Am,cm,rfl,hmw⟩ hf _ _
  have hmw:=hmw.le hf
  clear hf;refine bM ?_;refine aO 11 ?_;refine bH ?_;refine bM ?_;refine aJ 12 ?_;refine aJ 13 ?_;refine aO 14 ?_;refine bH ?_;refine bM ?_;refine aO 15 ?_;refine bH ?_;refine bM ?_;refine fJ ?_;refine aA ?_;refine dZ 0 (Cf f h s (nX y 0 (qB p z.many)).2) (fun w1 F1 t h1 h2 h3=>aQK f h s y 0 Am _ cm (qB p z.many) w1 F1 h1 h2 (hmw.le (h3 _ (by simp))) rfl (by simp[qB])) ?_;refine aA ?_;refine aG rfl (fun h0=>?_) (fun h0=>?_)
  ·rw[if_pos h0];refine aA ?_;refine fG rfl rfl ?_ (hs:=fB.mk 2 rfl cK.h rfl (of_decide_eq_true rfl));dsimp only[List.set];rw[show(lA h f L s z).set (0+51) (.bool true)=lA h f L s {z with sent:=true} from rfl];refine aA ?_;refine kd (Ny (i:=z.many) (j:=1) (c:=z.many+1) rfl rfl (iR (by omega))) ?_;refine kd (aJb (i:=z.many+1) (j:=1024) (c:=(z.many+1) % 1024) rfl rfl (by decide) (rem_in (by omega))) ?_;refine aA ?_;refine fG rfl rfl ?_ (hs:=fB.mk 2 rfl cK.h rfl (of_decide_eq_true rfl));dsimp only[List.set];rw[show(lA h f L s {z with sent:=true}).set (0+54) (iv ((z.many+1) % 1024))=lA h f L s {z with sent:=true,many:=(z.many+1) % 1024} from rfl];refine aA ?_;refine aP 3 1 ?_;refine aP 1 5 ?_;refine aP 0 0 ?_;refine fC 0 (fun L:dM=>fN g h f L s {z with sent:=true,many:=(z.many+1) % 1024}) L ?_;refine aP 0 0 ?_;subst cN;exact jZ 0 hF
  ·rw[if_neg h0];refine aA ?_;refine aP 3 1 ?_;refine aP 1 5 ?_;refine aP 0 0 ?_;refine fC 0 (fun L:dM=>fN g h f L s z) L ?_;refine aP 0 0 ?_;subst cN;exact jZ 0 hF
 ·cases hr:oM y 0 with
  | none =>
   have Xo:qM z y j=(z,oL y 0):=by
    unfold qM;rw[if_pos hse,hr]
   rw[Xo];refine aA ?_
   refine zT (α:=AC) 0 (f:=95) (fi:=[]) (ca:=[]) (fun c=>Vf none c) (fun c=>Ji f h s (oL y 0) [] c) (fun _=>True) (by kernel_rfl) rfl rfl rfl (by decide) (fun w1 F1 t h1 h2 h3=>by
    have:=aIA f h s y 0 w1 F1 h1 h2
    rw[hr] at this
    exact this) ?_
   rintro⟨Ar,cr⟩ _;dsimp only[List.set,Vf];refine bF 0 0 ?_;refine aY [0,2,3,4,5] rfl (by decide) (fun _ h=>h) ?_;refine aA ?_;refine aP 3 1 ?_;refine aP 1 5 ?_;refine aP 0 0 ?_;refine fC 0 (fun L:dM=>fN g h f L s z) L ?_;refine aP 0 0 ?_;subst cN;exact jZ 0 hF
  | some a =>
   have Xo:qM z y j=(if(sQ z a).steps.length=0 then kD (sQ z a) j 0 0 else sQ z a,oL y 0):=by
    unfold qM;rw[if_pos hse,hr]
   rw[Xo]
   have tA:=hra a hr
   have ha1:a[1]? =some (a.getD 1 0):=by rw[List.getD_eq_getElem?_getD,List.getElem?_eq_getElem (by omega)];rfl
   refine aA ?_
   refine zT (α:=AC) 0 (f:=95) (fi:=[]) (ca:=[]) (fun c=>Vf (some a) c) (fun c=>Ji f h s (oL y 0) a c) (fun _=>True) (by kernel_rfl) rfl rfl rfl (by decide) (fun w1 F1 t h1 h2 h3=>by
    have:=aIA f h s y 0 w1 F1 h1 h2
    rw[hr] at this
    exact this) ?_
   rintro⟨Ar,cr⟩ _;dsimp only[List.set,Vf];refine bF 0 0 ?_;refine bF 1 1 ?_;refine aY [1,3,4,5,6,0] rfl (by decide) (fun _ h=>h) ?_;refine aA ?_;refine fG rfl rfl ?_ (hs:=fB.mk 2 rfl cK.h rfl (of_decide_eq_true rfl));dsimp only[List.set];refine aA ?_;refine aU (fun w1 t=>aLF Ar _ cr a _ w1 (t.bY 5 rfl) rfl tA ha1) ?_;generalize vX:IntKind.i32.wrap (a.getD 1 0)=sv;rw[show(lA h f L s z).set (0+51) (.bool false)=lA h f L s {z with sent:=false} from rfl];refine aA ?_;refine bX (t:=73) rfl (fun h0=>?_) (fun h0=>?_)
   ·rw[aGf (show Je a from .inl (vX.trans h0))];refine aA ?_;refine kd (aIZ (n:=z.steps.length) (l:=1) rfl rfl (by omega)) ?_;refine aA ?_;refine fG rfl rfl ?_ (hs:=fB.mk 2 rfl cK.h rfl (of_decide_eq_true rfl));dsimp only[List.set];refine aKa 2 rfl (aGC (z:={z with sent:=false}) hst) ?_;dsimp only[List.set];refine Bq (q:=HP.bY (oH (Ig L) z.steps.tail) (oH.le (L:=Ig L) (l:=z.steps.tail))) 1 rfl (fun F w hs=>oH.tail hst hs) ?_;dsimp only[List.set];refine aA ?_;refine aP 3 1 ?_;refine aP 1 5 ?_;refine aP 0 0 ?_;refine xL 0 (f:=fun L:dM=>fN g h f L s {z with sent:=false,steps:=z.steps.tail}) (Ig L) rfl ?_;dsimp only[List.set];refine aA ?_;refine aG rfl (fun hn=>?_) (fun hn=>?_)
    ·rw[if_pos (Int.ofNat.inj hn)];refine aA ?_;refine kd (gA rfl) ?_;refine aA ?_;refine dZ 0 (gE g h f s (kD {z with sent:=false,steps:=z.steps.tail} j 0 0)) (fun w1 F1 t h1 h2 h3=>Jg g h f s {z with sent:=false,steps:=z.steps.tail} w1 F1 j hh hj 0 0 h1 h2) ?_;refine aP 0 0 ?_;subst cN;exact jZ 0 hF
    ·rw[if_neg (fun h=>hn (congrArg Int.ofNat h))];refine aA ?_;refine aP 0 0 ?_;subst cN;exact jZ 0 hF
   ·refine aA ?_;refine aG rfl (fun h3=>?_) (fun h3=>?_)
    ·rw[aGf (show Je a from .inr (vX.trans h3))];refine aA ?_;refine kd (aIZ (n:=z.steps.length) (l:=1) rfl rfl (by omega)) ?_;refine aA ?_;refine fG rfl rfl ?_ (hs:=fB.mk 2 rfl cK.h rfl (of_decide_eq_true rfl));dsimp only[List.set];refine aKa 2 rfl (aGC (z:={z with sent:=false}) hst) ?_;dsimp only[List.set];refine Bq (q:=HP.bY (oH (Ig L) z.steps.tail) (oH.le (L:=Ig L) (l:=z.steps.tail))) 1 rfl (fun F w hs=>oH.tail hst hs) ?_;dsimp only[List.set];refine aA ?_;refine aP 3 1 ?_;refine aP 1 5 ?_;refine aP 0 0 ?_;refine xL 0 (f:=fun L:dM=>fN g h f L s {z with sent:=false,steps:=z.steps.tail}) (Ig L) rfl ?_;dsimp only[List.set];refine aA ?_;refine aG rfl (fun hn=>?_) (fun hn=>?_)
     ·rw[if_pos (Int.ofNat.inj hn)];refine aA ?_;refine kd (gA rfl) ?_;refine aA ?_;refine dZ 0 (gE g h f s (kD {z with sent:=false,steps:=z.steps.tail} j 0 0)) (fun w1 F1 t h1 h2 h3=>Jg g h f s {z with sent:=false,steps:=z.steps.tail} w1 F1 j hh hj 0 0 h1 h2) ?_;refine aP 0 0 ?_;subst cN;exact jZ 0 hF
     ·rw[if_neg (fun h=>hn (congrArg Int.ofNat h))];refine aA ?_;refine aP 0 0 ?_;subst cN;exact jZ 0 hF
    ·rw[aL4 (show ¬Je a from fun h=>h.elim (fun h=>h0 (vX▸h)) (fun h=>h3 (vX▸h)))];refine aA ?_;refine aP 3 1 ?_;refine aP 1 5 ?_;refine aP 0 0 ?_;refine fC 0 (fun L:dM=>fN g h f L s {z with sent:=false}) L ?_;refine aA ?_;refine aG rfl (fun hn=>?_) (fun hn=>?_)
     ·rw[if_pos (Int.ofNat.inj hn)];refine aA ?_;refine kd (gA rfl) ?_;refine aA ?_;refine dZ 0 (gE g h f s (kD {z with sent:=false} j 0 0)) (fun w1 F1 t h1 h2 h3=>Jg g h f s {z with sent:=false} w1 F1 j hh hj 0 0 h1 h2) ?_;refine aP 0 0 ?_;subst cN;exact jZ 0 hF
     ·rw[if_neg (fun h=>hn (congrArg Int.ofNat h))];refine aA ?_;refine aP 0 0 ?_;subst cN;exact jZ 0 hF
end
end
section
theorem Mc(w:World):CallsD Tryz.prog 46 #[] .returning w fun e u' w'=>e=.returned (.tuple #[])∧u'=.returning∧w'=w:=by
 refine callsD_of_wpS func46 rfl fun c₀ cs hu=>?_;apply wpS_region;simp[wpOpsS,go_sem,recoverD,hu,ntmps46,Exit.thenS];cases c₀;simp_all [bodyPostS,results,Tryz.results46]
def aCk(g f:Nat)(hL:HL)(s:aC)(z:aV)(y:bZ)(x:aM):HP:=HP.many [gE g hL.h f s z,Cf f hL.h s y,dR hL s x]
structure aKq(s:aC)(z:aV)(y:bZ):Prop where
 ok:Ts s z
 call:∀j,T3 j→(z.tk j).st=1→sZ (z.tk j).kind
 work:∀j:Nat,T3 j→(z.tk j).st=2→z.eX=(j:Int)∧(z.aQ=false→z.steps≠[])
 many:0≤z.many∧z.many < 1024
 pack:∀p∈z.steps,(dY p.msg 0 p.pr z.many).2=0
 ans:∀a,oM y 0=some a→2≤a.length
def Et(s:aC)(z:aV)(y:bZ)(x:aM)(t:Int):aV×bZ×aM:=
 if bO 3 t=false then(z,y,x)
 else if(z.tk t.toNat).st=1 then(if z.eX < 0 then((pF s x z t.toNat).1,y,(pF s x z t.toNat).2) else(z,y,x))
 else if(z.tk t.toNat).st=2 then(if z.aQ=false then((qM z y t.toNat).1,(qM z y t.toNat).2,x) else(z,y,x))
 else(z,y,x)
theorem aMw(g f:Nat)(hL:HL)(s:aC)(z:aV)(y:bZ)(x:aM)(w:World)(F:Nat→Prop)(t:Int)(hm:s.made)(aW:iU hL s)(hx:z.eX < 0→HwP s x)(hz:aKq s z y)(hp:(aCk g f hL s z y x).sat F w)(hF:∀b,F b→b < w.heap.size)(fD:kM ⟨w,fun b=>b < w.heap.size∧¬F b⟩):
  Cz 19 #[pt g,iv t] w (fun v w'=>v=.returned (.tuple #[])∧∃F',(aCk g f hL s (Et s z y x t).1 (Et s z y x t).2.1 (Et s z y x t).2.2).sat F' w'∧iE w w' F F'):=by
 unfold Et;refine Zu (vs:=[pt g,iv t]) (p:=aCk g f hL s z y x) func19 rfl ntmps19 (by simp) hp hF ?_;generalize cN:(⟨w,fun b=>b < w.heap.size∧¬F b⟩:Piece)=R0 at fD⊢;refine aA ?_;refine Ud (f:=46) (fi:=[]) (ca:=[]) rfl ?_;refine aA ?_;refine aU (fun w1 _=>aA9 t w1) ?_;cases hin:bO 3 t
 ·refine aA ?_;subst cN;exact Bs (.inl rfl) (by kernel_rfl) Mc rfl fun w1 t=>⟨rfl,t.turns hF (by simp) (i:=0) rfl⟩
 ·obtain⟨j,rfl,hj⟩:=Qz hin
  have hj2:j≤2:=by rcases hj with rfl | rfl | rfl<;>decide
  rw[if_neg (by simp),Int.toNat_natCast];refine bF 0 0 ?_;refine lY 0 fun L=>?_;refine aA ?_;refine kd (gN j (10+13*j) (ho:=by omega)) ?_;refine aA ?_;refine kd (bN rfl (pJ 0 rfl (Cu (k:=0) hj rfl))) ?_;refine aA ?_;refine aG rfl (fun h1=>?_) (fun h1=>?_)
  ·rw[if_pos h1];refine aA ?_;refine kd (bN rfl (pJ 0 rfl rfl)) ?_;refine aA ?_;refine fC 0 (fun L:dM=>fN g hL.h f L s z) L ?_;refine aP 0 0 ?_;refine aG rfl (fun h2=>?_) (fun h2=>?_)
   ·rw[if_pos h2];refine bF 0 0 ?_;refine bF 1 2 ?_;refine aY [1,0,2] rfl (by decide) (fun _ h=>h) ?_;refine nH ?_;refine aA ?_;refine dZ 0 (Lj g f hL s (pF s x z j).1 (pF s x z j).2) (fun w1 F1 t Xs Xr h3=>aM4 g f hL s z x w1 F1 j hm aW (hx h2) hz.ok hj (hz.call j hj h1) Xs Xr (kM.le fD (h3 _ (by simp)))) ?_;refine bF 0 0 ?_;refine bF 1 1 ?_;refine aP 2 2 ?_;refine aP 1 0 ?_;refine aA ?_;subst cN;exact Bs (.inr rfl) (by kernel_rfl) Mc rfl fun w1 t=>⟨rfl,t.turns hF (by simp) (i:=1) rfl⟩
   ·rw[if_neg h2];refine aA ?_;subst cN;exact Bs (.inr rfl) (by kernel_rfl) Mc rfl fun w1 t=>⟨rfl,t.turns hF (by simp) (i:=0) rfl⟩
  ·rw[if_neg h1];refine aA ?_;refine aG rfl (fun h2=>?_) (fun h2=>?_)
   ·rw[if_pos h2];obtain⟨hh,hne⟩:=hz.work j hj h2;refine aA ?_;refine kd (bN rfl (pJ 0 rfl rfl)) ?_;cases lU:z.aQ
    ·refine aA ?_;refine fC 0 (fun L:dM=>fN g hL.h f L s z) L ?_;refine aP 0 0 ?_;refine bF 0 0 ?_;refine bF 1 1 ?_;refine aY [1,0,2] rfl (by decide) (fun _ h=>h) ?_;refine nH ?_;refine aA ?_;refine dZ 0 (aFi g hL.h f s (qM z y j).1 (qM z y j).2) (fun w1 F1 t Xs Xr h3=>aM7 g hL.h f s z y w1 F1 j hh hj (hne lU) hz.many hz.pack hz.ans Xs Xr) ?_;refine bF 0 0 ?_;refine bF 1 1 ?_;refine aP 2 1 ?_;refine aP 1 0 ?_;refine aA ?_;subst cN;exact Bs (.inr rfl) (by kernel_rfl) Mc rfl fun w1 t=>⟨rfl,t.turns hF (by simp) (i:=1) rfl⟩
    ·refine aA ?_;refine fC 0 (fun L:dM=>fN g hL.h f L s z) L ?_;refine aP 0 0 ?_;subst cN;exact Bs (.inr rfl) (by kernel_rfl) Mc rfl fun w1 t=>⟨rfl,t.turns hF (by simp) (i:=0) rfl⟩
   ·rw[if_neg h2];refine aA ?_;refine fC 0 (fun L:dM=>fN g hL.h f L s z) L ?_;refine aP 0 0 ?_;subst cN;exact Bs (.inr rfl) (by kernel_rfl) Mc rfl fun w1 t=>⟨rfl,t.turns hF (by simp) (i:=0) rfl⟩
end
section
def Bo(z:aV)(a:mY):aV:=if z.aQ=false then z else if a.id≠z.id then z else if a.dead=true then kD z z.eX.toNat 6 0 else kD z z.eX.toNat 0 a.val
def xJ(z:aV)(l:List mY):aV:=l.foldl Bo z
def Pb(z:aV):Prop:=z.aQ=true→∃j:Nat,z.eX=(j:Int)∧T3 j
theorem aTg{z:aV}{a:mY}(h:Pb z):Pb (Bo z a):=by
 unfold Bo;split
 ·exact h
 split
 ·exact h
 split
 ·intro h1;cases h1
 ·intro h1;cases h1
theorem aTm{l:List mY}:∀{z:aV},Pb z→Pb (xJ z l):=by
 induction l with
 | nil=>exact fun h=>h
 | cons a l ih=>exact fun h=>ih (aTg h)
theorem aTl{z:aV}{l:List mY}{i:Nat}{a:mY}(h:l[i]? =some a):xJ z (l.take (i+1))=Bo (xJ z (l.take i)) a:=by
 obtain⟨hi,rfl⟩:=List.getElem?_eq_some_iff.1 h;unfold xJ;rw[List.take_succ_eq_append_getElem hi,List.foldl_append];rfl
theorem aTf{l:List mY}{i k:Nat}{a:mY}{v:Value}(h:l[i]? =some a)(hv:a.cells[k]? =some v):(l.flatMap mY.cells)[i*4+k]? =some v:=by
 induction l generalizing i with
 | nil=>simp at h
 | cons x l ih =>
  cases i with
  | zero=>
   simp at h;subst h;rw[Nat.zero_mul,Nat.zero_add,List.flatMap_cons,List.getElem?_append_left (List.getElem?_eq_some_iff.1 hv).1];exact hv
  | succ i=>
   rw[List.getElem?_cons_succ] at h;rw[List.flatMap_cons,show(i+1)*4+k=x.cells.length+(i*4+k) by simp[mY.cells];omega,List.getElem?_append_right (by omega),Nat.add_sub_cancel_left];exact ih h
theorem aM6(g h f:Nat)(s:aC)(z:aV)(w:World)(F:Nat→Prop)(A:Option Addr)(c:Nat)(l:List mY)(hl:l.length≤1000)(aPu:Pb z)(hp:(gE g h f s z).sat F w)(hF:∀b,F b→b < w.heap.size)(hs:aI ⟨w,fun b=>b < w.heap.size∧¬F b⟩ 4 A l.length (l.flatMap mY.cells)):
  Cz 21 #[pt g,.slice A l.length c] w (fun v w'=>v=.returned (.tuple #[])∧∃F',(gE g h f s (xJ z l)).sat F' w'∧iE w w' F F'):=by
 refine dK func21 ntmps21 hp hF ?_;generalize cN:(⟨w,fun b=>b < w.heap.size∧¬F b⟩:Piece)=R0 at hs⊢;refine aA ?_;refine bK [(8,iv 0),(7,iv l.length),(6,.slice A l.length c),(0,pt g),(1,.slice A l.length c)] ?_;refine eJ (fun m e R H=>∃i:Nat,i≤l.length∧m=l.length - i∧e=[(8,iv i),(7,iv l.length),(6,.slice A l.length c),(0,pt g),(1,.slice A l.length c)]∧R=[R0]∧H=[gE g h f s (xJ z (l.take i))]) l.length ⟨0,by omega,rfl,rfl,rfl,rfl⟩ fun m e R H hI=>?_;obtain⟨i,hi,rfl,rfl,rfl,rfl⟩:=hI;refine aA ?_;refine aG rfl (fun hlt=>?_) (fun hge=>?_)
 ·have hlt:i < l.length:=by omega
  obtain⟨a,ha⟩:=get_some hlt;obtain⟨b,off,rfl,gY,hc⟩:=hs.2 (by omega)
  have dS:=aTl (z:=z) ha
  have aId:Pb (xJ z (l.take i)):=aTm aPu
  generalize xJ z (l.take i)=zi at dS aId⊢;obtain⟨Sy,Zf,Od,Ky⟩:=a;refine aA ?_;refine kd (dat i (off+i*4)) ?_;refine kd (oZ rfl (aR.of (vs:=[iv Sy,iv Zf,.bool Od,.int .u32 Ky]) fun k v hv=>Rd.ro (p:=R0) (by simp) gY (by rw[Nat.add_assoc];exact hc _ _ (aTf ha hv)))) ?_;refine bU fun g1=>?_;refine aA ?_;refine lY 1 fun L=>?_;refine mK ?_;refine jB ?_;refine xK (bN rfl (pJ 1 rfl rfl)) ?_;cases lU:zi.aQ
  ·have hst:Bo zi ⟨Sy,Zf,Od,Ky⟩=zi:=if_pos lU
   refine jC ?_;refine fC 1 (fun L:dM=>fN g h f L s zi) L ?_;refine aA ?_;refine aY [1] rfl (by decide) (fun _ h=>h) ?_;refine bK [(8,iv (i+1:Nat)),(7,iv l.length),(6,.slice (some ⟨b,off,none⟩) l.length c),(0,pt g),(1,.slice (some ⟨b,off,none⟩) l.length c)] ?_;exact iC (l.length - (i+1)) (by omega) ⟨i+1,by omega,rfl,rfl,rfl,by rw[dS,hst];rfl⟩
  ·obtain⟨j,hj,hj3⟩:=aId lU
   have Fv:0≤zi.eX:=by omega
   have Mq:Bo zi ⟨Sy,Zf,Od,Ky⟩=if Sy≠zi.id then zi else if Od=true then kD zi zi.eX.toNat 6 0 else kD zi zi.eX.toNat 0 Ky:=if_neg (by rw[lU];simp)
   refine jB ?_;refine xK (bN rfl (pJ 1 rfl rfl)) ?_;refine jC ?_;refine fC 1 (fun L:dM=>fN g h f L s zi) L ?_;refine aA ?_;refine aG rfl (fun hne=>?_) (fun hne=>?_)
   ·rw[if_pos hne] at Mq;refine aA ?_;refine aY [1] rfl (by decide) (fun _ h=>h) ?_;refine bK [(8,iv (i+1:Nat)),(7,iv l.length),(6,.slice (some ⟨b,off,none⟩) l.length c),(0,pt g),(1,.slice (some ⟨b,off,none⟩) l.length c)] ?_;exact iC (l.length - (i+1)) (by omega) ⟨i+1,by omega,rfl,rfl,rfl,by rw[dS,Mq];rfl⟩
   ·rw[if_neg hne] at Mq;refine aA ?_;cases Od
    ·refine aB ?_;refine dZ 1 (gE g h f s (kD zi zi.eX.toNat 0 Ky)) (fun w1 F1 t h1 h2 h3=>Jg g h f s zi w1 F1 zi.eX.toNat (by omega) (by rw[hj,Int.toNat_natCast];exact hj3) 0 Ky h1 h2) ?_;refine aA ?_;refine aY [1] rfl (by decide) (fun _ h=>h) ?_;refine bK [(8,iv (i+1:Nat)),(7,iv l.length),(6,.slice (some ⟨b,off,none⟩) l.length c),(0,pt g),(1,.slice (some ⟨b,off,none⟩) l.length c)] ?_;exact iC (l.length - (i+1)) (by omega) ⟨i+1,by omega,rfl,rfl,rfl,by rw[dS,Mq];rfl⟩
    ·refine aB ?_;refine dZ 1 (gE g h f s (kD zi zi.eX.toNat 6 0)) (fun w1 F1 t h1 h2 h3=>Jg g h f s zi w1 F1 zi.eX.toNat (by omega) (by rw[hj,Int.toNat_natCast];exact hj3) 6 0 h1 h2) ?_;refine aA ?_;refine aY [1] rfl (by decide) (fun _ h=>h) ?_;refine bK [(8,iv (i+1:Nat)),(7,iv l.length),(6,.slice (some ⟨b,off,none⟩) l.length c),(0,pt g),(1,.slice (some ⟨b,off,none⟩) l.length c)] ?_;exact iC (l.length - (i+1)) (by omega) ⟨i+1,by omega,rfl,rfl,rfl,by rw[dS,Mq];rfl⟩
 obtain rfl:i=l.length:=by omega
 rw[List.take_length];refine aA ?_;subst cN;exact jZ 0 hF
end
section
section
variable(s:aC)(A1 A2 A3 A4:Option Addr)(n1 k1 n2 k2 n3 k3 n4 k4:Nat)(w:World)
def aKE(s:aC)(v:Value)(hs:List HP)(_:Piece):Prop:=∃gc gm A k,v=.tuple #[pt gc,iv 0]∧hs=[Lr gc gm A k (cZ s) ⟨[],false⟩]
theorem aSm(hm:s.made)(hW:fL w s A1 n1 A2 n2 A3 n3 A4 n4):
  Cz 24 #[.agg #[.slice A1 n1 k1,.slice A2 n2 k2,.slice A3 n3 k3,.slice A4 n4 k4]] w (fun y w'=>(∃v hs q,y=.returned v∧q.w=w'∧aKE s v hs q∧kA w hs q)∧Below w.heap.size w w'):=by
 obtain rfl:=hW.nB;obtain rfl:=hW.nM;obtain rfl:=hW.pO;obtain rfl:=hW.nZ;refine aN func24 ntmps24 ?_;refine aA ?_;refine bA fun g1=>?_;refine aA ?_;refine aU (fun w1 t=>Sv s A1 A2 A3 A4 _ k1 _ k2 _ k3 _ k4 w1 (hW.le (t.started (by simp))) (aAU hm)) ?_;refine aA ?_;refine jQ [] (wO (cZ s)) (fun w1 t=>aHy s A1 A2 A3 A4 _ k1 _ k2 _ k3 _ k4 w1 (hW.le (t.started (by simp)))) ?_;rintro _ w1 q1 ⟨Ag,cg,rfl,lH⟩ hf _ hfr
 have lH:=lH.le hf
 refine Ld (Φ:=Ea Ag (cZ s)) (hm:=Ea.le) (hfr (by simp)) (by simp[all]) lH ?_;refine aAn (by decide) fun gm=>?_;refine kd (gA rfl) ?_;refine bA fun g2=>?_;refine aA ?_;refine aY [0,1,2] rfl (by decide) (R':=[all w]) (by simp) ?_;refine nH ?_;refine nH ?_;refine dO [] [] [0] (by simp) rfl (by decide) (by decide) fun q _ _ hfr=>?_;exact eL rfl rfl rfl fun w1 t=>⟨⟨_,_,⟨w1,q.Z⟩,rfl,rfl,⟨g2,gm,Ag,cg,rfl,rfl⟩,t.newR (by simp) (by simp) (hfr (by simp) (by simp))⟩,t.below (by simp)⟩
def Jf(s:aC):aV:={rp0 s with wn:=eT s []}
def aKo(h f:Nat)(s:aC)(v:Value)(hs:List HP)(_:Piece):Prop:=∃g,v=.tuple #[pt g,iv 0]∧hs=[gE g h f s (Jf s)]
theorem aMt(h f:Nat)(hm:s.made)(hW:fL w s A1 n1 A2 n2 A3 n3 A4 n4):
  Cz 36 #[pt h,pt f,.agg #[.slice A1 n1 k1,.slice A2 n2 k2,.slice A3 n3 k3,.slice A4 n4 k4]] w (fun y w'=>(∃v hs q,y=.returned v∧q.w=w'∧aKo h f s v hs q∧kA w hs q)∧Below w.heap.size w w'):=by
 obtain rfl:=hW.nB;obtain rfl:=hW.nM;obtain rfl:=hW.pO;obtain rfl:=hW.nZ;refine aN func36 ntmps36 ?_;refine aA ?_;refine bA fun g1=>?_;refine aA ?_;refine iY (aKE s) (fun w1 t=>aSm s A1 A2 A3 A4 _ k1 _ k2 _ k3 _ k4 w1 hm (hW.le (t.started (by simp)))) ?_;rintro _ _ q0 ⟨gc,gm,Ag,cg,rfl,rfl⟩ _;dsimp only[List.cons_append,List.nil_append];refine aY [0,1] rfl (by decide) (R':=[all w]) (by simp) ?_;refine aA ?_
 refine jQ [] (fun v w w'=>aCq s v w w') (fun w1 t=>aE6 s A1 A2 A3 A4 _ k1 _ k2 _ k3 _ k4 w1 (hW.le (t.started (by simp))) (fun d hd=>by
  obtain⟨j,hj⟩:=List.getElem?_of_mem hd
  have:=(hm.aD j d hj).2.2.2.2.2.2.2.2.1
  omega)) ?_
 rintro _ w1 q1 ⟨cs,rfl,hcs⟩ Dc _ tB
 have tB:=tB (by simp)
 obtain⟨B1,m1,j1,B2,m2,j2,B3,m3,j3,B4,m4,j4,rfl,hsp⟩:=wH.P hcs
 have hsp:=hsp.le Dc
 obtain⟨rfl,rfl,rfl,rfl⟩:=hsp.len;refine Ld (Φ:=mW ⟨(B1,j1),(B2,j2),(B3,j3),(B4,j4),gc,gm,(Ag,cg),(none,0),(none,0),(none,0),(none,0)⟩ s) (hm:=mW.le) tB (by simp[all]) hsp ?_;refine aA ?_;refine kd (gA rfl) ?_;refine bA fun g=>?_;refine aA ?_;refine kd (oZ rfl (aAf (vs:=[_,_,_,_]) 0 rfl rfl)) ?_;refine iY (aAc (eT s [])) (fun w1 t=>aAu (all w1) s B1 B2 B3 B4 _ j1 _ j2 _ j3 _ j4 none 0 [] w1 (t.bY 1 rfl) hm (Piece.Le.refl _) (aI.nil _ _)) ?_;rintro _ _ q2 ⟨ga,gb,gd,px,rfl,rfl⟩ _;dsimp only[List.cons_append,List.nil_append];refine aA ?_;refine Qv 2 rfl ?_;dsimp only[List.set];refine aA ?_;obtain⟨L',hL'⟩:∃L':dM,L'=⟨(B1,j1),(B2,j2),(B3,j3),(B4,j4),gc,gm,(Ag,cg),(some ⟨ga,0,none⟩,(eT s []).d.length),(some ⟨gb,0,none⟩,(eT s []).c.length),(some ⟨gd,0,none⟩,(eT s []).l.length),(none,0)⟩:=⟨_,rfl⟩
 refine Bq (q:=HP.bY (vA L' (eT s [])) (vA.le (L:=L') (x:=eT s []))) 0 rfl (fun F w hs=>?_) ?_
 ·obtain⟨G,k1,k2,_⟩:=hs;subst hL';exact⟨tI (c:=0) (k1 0 _ rfl) (fun b hb=>k2 0 b hb) (by simp[bE]),tI (c:=0) (k1 1 _ rfl) (fun b hb=>k2 1 b hb) (by simp[bE]),tI (c:=0) (k1 2 _ rfl) (fun b hb=>k2 2 b hb) (by simp[bE])⟩
 dsimp only[List.set];refine Bv (p:=HP.bY (oH L' []) (oH.le (L:=L') (l:=[]))) (fun w=>by subst hL';exact⟨aI.nil _ _,Nat.le_refl _⟩) ?_;refine bF 5 0 ?_;refine bF 6 1 ?_;refine aY [5,6,3,1,0,2] rfl (by decide) (R':=[all w]) (by simp) ?_;refine nH ?_;refine uZ ?_;refine uZ ?_;refine uZ ?_;refine uZ ?_;refine xL 0 (f:=fun L:dM=>fN g h f L s (Jf s)) L' (by subst hL';rfl) ?_;dsimp only[List.set];refine dO [] [] [0] (by simp) rfl (by decide) (by decide) fun q _ _ hfr=>?_;exact eL rfl rfl rfl fun w1 t=>⟨⟨_,_,⟨w1,q.Z⟩,rfl,rfl,⟨g,rfl,rfl⟩,t.newR (by simp) (by simp) (hfr (by simp) (by simp))⟩,t.below (by simp)⟩
end
end
section
section
variable{s:aC}{x:aM}{z:bZ}{b:Nat}{m:List Int}{k id:Int}
theorem aGW(hu:wG m)(h:(dX s m).1=0):uD m:=by
 cases m with
 | nil=>exact absurd h (by show ¬((-10:Int)=0);decide)
 | cons w r =>
  unfold dX at h;dsimp only at h;split at h
  ·exact absurd h (by decide)
  ·rename_i h1
   split at h
   ·exact absurd h (by decide)
   ·split at h
    ·exact absurd h (by decide)
    ·rename_i h3
     have hz:cO w 28 4=0:=by
      refine Classical.byContradiction fun hc=>h1 (.inl ?_);unfold uM;rw[if_pos hc];decide
     refine⟨⟨w,r,rfl,hz,fun hh=>?_⟩⟩
     have hp:eC w=cO w 10 8:=by rw[eC,if_neg (by simp[hz])]
     have hmm:eM w=cO w 0 8:=by rw[eM,if_neg (by simp[hz])]
     have hn:(eF (eC w) (eM w)).n=1:=by
      rw[hp,hmm];rcases hh with⟨a,b⟩ | ⟨a,b⟩<;>rw[a,b]<;>rfl
     rw[hn] at h3
     have h4:r.length=1:=by omega
     obtain⟨i,rfl⟩:=List.length_eq_one_iff.1 h4;exact⟨i,rfl,hu i (by simp)⟩
end
end
section
theorem aPF:([(4,17),(7,20),(4,22)]:List (Int×Int)).all (fun q=>(List.range 1024).all fun k=>aDT q.1 q.2 k)=true:=by decide+kernel
def Ov(p:cY):Prop:=(p.msg=4∧p.pr=17)∨(p.msg=7∧p.pr=20)∨(p.msg=4∧p.pr=22)
theorem aDS{p:cY}(h:Ov p){k:Int}(h0:0≤k)(h1:k < 1024):(dY p.msg 0 p.pr k).2=0∧cO (dY p.msg 0 p.pr k).1 28 4=0∧cO (dY p.msg 0 p.pr k).1 0 8=p.msg∧cO (dY p.msg 0 p.pr k).1 8 2=0∧cO (dY p.msg 0 p.pr k).1 10 8=p.pr:=by
 have ha:=aPF
 rw[List.all_eq_true] at ha;obtain⟨n,rfl⟩:∃n:Nat,k=n:=⟨k.toNat,by omega⟩
 have key:aDT p.msg p.pr (n:Int)=true:=by
  have h2:=ha (p.msg,p.pr) (by
   obtain⟨pr,msg,id,v⟩:=p;dsimp only[Ov] at h⊢
   rcases h with⟨rfl,rfl⟩ | ⟨rfl,rfl⟩ | ⟨rfl,rfl⟩<;>simp)
  rw[List.all_eq_true] at h2;exact h2 n (List.mem_range.2 (by omega))
 obtain⟨e1,e2,e3,e4,e5,_⟩:=of_decide_eq_true key;exact⟨e1,e2,e3,e4,e5⟩
theorem aNB(m t p k:Int):0≤(dY m t p k).1∧(dY m t p k).1 < 4294967296:=by
 unfold dY
 repeat' split
 all_goals first | exact aHc _ _ _ _ | exact⟨Int.le_refl 0,(by decide:(0:Int) < 4294967296)⟩
theorem aTq{s:aC}{x y:bJ}:∀p∈allM s x y,Ov p:=by
 intro p hp;unfold allM tY at hp;simp only[List.mem_append,jO,List.mem_map] at hp;rcases hp with⟨i,_,rfl⟩ | ⟨i,_,rfl⟩ | ⟨i,_,rfl⟩ | ⟨i,_,rfl⟩ | ⟨i,_,rfl⟩ | ⟨i,_,rfl⟩
 all_goals simp[Ov]
theorem aTc{s:aC}{x:aM}{l:List Int}{st:Int}(hl:wG l):wG (Dw s x l st):=by
 have h0:0≤l.headD 0∧l.headD 0 < 4294967296:=by
  cases l with
  | nil=>exact⟨by decide,by decide⟩
  | cons a r=>exact hl a (by simp)
 have hm : wG (pN s x l) := by
  intro v hv;unfold pN at hv;dsimp only at hv;split at hv
  ·simp at hv;subst hv;decide
  ·split at hv
   ·simp at hv;subst hv;exact Pw _
   ·split at hv
    ·simp at hv;subst hv;unfold Jk
     repeat' split
     all_goals decide
    ·split at hv
     ·simp at hv;rcases hv with rfl | rfl<;>exact Pw _
     ·cases hv
 intro v hv;unfold Dw at hv;rw[List.mem_cons,List.mem_cons] at hv;rcases hv with rfl | rfl | hv
 ·exact h0
 ·exact Pw _
 ·split at hv
  ·exact hm v hv
  ·cases hv
theorem aTd{s:aC}{x:aM}{l:List Int}{st:Int}:2≤(Dw s x l st).length∧(Dw s x l st).length≤4:=by
 have:=aH5 s x l
 unfold Dw;split<;>simp<;>omega
theorem aJj{s:aC}{x y:bJ}{wt:List Int}{ag:Nat}{l:List Int}(hu:wG l):((jH s x y wt ag l).2.1=0∧((jH s x y wt ag l).1=0→uD l))∨((jH s x y wt ag l).1=0∧(jH s x y wt ag l).2=(dX s l).2∧(dX s l).1=0∧(jH s x y wt ag l).2.1≠0∧uD l∧Eb s (jH s x y wt ag l).2.1 (jH s x y wt ag l).2.2):=by
 unfold jH
 by_cases h:(dX s l).1≠0∨(dX s l).2.1=0∨pK (if ag=0 then x else y) (dX s l).2.1 (dX s l).2.2=decide (rW (dX s l).2.1)
 ·rw[if_pos h];exact .inl ⟨rfl,fun h=>aGW hu h⟩
 ·rw[if_neg h]
  have h1:(dX s l).1=0:=Classical.byContradiction fun hc=>h (.inl hc)
  have h2:(dX s l).2.1≠0:=fun hc=>h (.inr (.inl hc))
  have hr:=aGW hu h1
  have hk:Eb s (dX s l).2.1 (dX s l).2.2:=by
   rcases aGX (s:=s) hu with⟨h0,_⟩ | ⟨_,hk,oX,hi1,_,_⟩
   ·exact absurd h0 h2
   ·refine⟨by unfold Vy at hk;omega,fun h99=>⟨oX,?_⟩⟩;rw[h99] at hi1
    simpa[tN,Qx] using hi1
  have no:∀e:Int,e≠0→e=0→uD l:=fun _ h k=>absurd k h
  by_cases ho:rW (dX s l).2.1
  ·rw[if_pos ho];split
   ·exact .inl ⟨rfl,no _ (by decide)⟩
   ·exact .inr ⟨rfl,rfl,h1,h2,hr,hk⟩
  ·rw[if_neg ho];split
   ·exact .inl ⟨rfl,no _ (by decide)⟩
   ·split
    ·exact .inl ⟨rfl,no _ (by decide)⟩
    ·exact .inr ⟨rfl,rfl,h1,h2,hr,hk⟩
theorem aJO(s:aC)(x:aM)(k id:Int):(mJ s x k id).1.wt=x.wt∧(mJ s x k id).1.aQ=x.aQ:=by
 unfold mJ wW Kx yK qE Kz
 repeat' split
 all_goals exact⟨rfl,rfl⟩
structure FwB(s:aC)(y:bZ):Prop where
 fm:Ed s y
 ax:y.x.of s
 ay:y.y.of s
 h0:y.h0=0∨y.h0=1∨y.h0=2
 h1:y.h1=0∨y.h1=1∨y.h1=2
 r0:y.h0=2→2≤y.w0.length
 r1:y.h1=2→2≤y.w1.length
structure rM(s:aC)(y:bZ):Prop extends FwB s y where
 at_:y.at_= -1∨∃a:Nat,y.at_=(a:Int)∧a < 2∧Bg y a=1∧Eb s y.kind y.id∧uD (kU y a)
theorem rM.step{s:aC}{x:aM}{y:bZ}(h:rM s y)(hx:cM s x):aCg s x y:=by
 refine⟨hx,h.fm,?_,fun _ a _ h1 h2=>?_,fun _ a _ h1=>?_⟩
 ·rcases h.at_ with h1 | ⟨a,h1,h2,_,h3,h4⟩
  ·exact .inl (by omega)
  ·exact .inr ⟨a,h1,h2,h3,h4⟩
 ·rcases aJj (s:=s) (x:=y.x) (y:=y.y) (wt:=mB s x) (ag:=a) (h.fm.box a).1 with⟨_,h3⟩ | ⟨_,_,_,h3,_⟩
  ·exact h3 h2
  ·exact absurd h1 h3
 ·rcases aJj (s:=s) (x:=y.x) (y:=y.y) (wt:=mB s x) (ag:=a) (h.fm.box a).1 with⟨h3,_⟩ | ⟨_,_,_,_,h4,h5⟩
  ·exact absurd h3 h1
  ·exact⟨h5,h4⟩
theorem aK9{s:aC}{x:aM}{y:bZ}(h:FwB s y)(fK:y.at_= -1){a:Nat}(ha:a < 2)(st:Int):rM s (wU s x y a st):=by
 have hb:=h.fm.box a
 have hu:=aTc (s:=s) (x:=x) (st:=st) hb.1
 have hl:=aTd (s:=s) (x:=x) (l:=kU y a) (st:=st)
 have Hq:(Dw s x (kU y a) st).length≤1000000:=Nat.le_trans hl.2 (by decide)
 unfold wU aDa;split
 ·exact⟨⟨⟨h.fm.la,hu,h.fm.u1,Hq,h.fm.n1,h.fm.sx,h.fm.sy⟩,h.ax,h.ay,.inr (.inr rfl),h.h1,fun _=>hl.1,h.r1⟩,.inl fK⟩
 ·exact⟨⟨⟨h.fm.la,h.fm.u0,hu,h.fm.n0,Hq,h.fm.sx,h.fm.sy⟩,h.ax,h.ay,h.h0,.inr (.inr rfl),h.r0,fun _=>hl.1⟩,.inl fK⟩
theorem aGt{s:aC}{x:bJ}(h:x.of s)(k id:Int):(kQ x k id).of s:=by
 obtain⟨h1,h2,h3⟩:=aGu x k id;exact⟨h1.trans h.d,h2.trans h.c,h3.trans h.l⟩
theorem rM.end_{s:aC}{y:bZ}(h:rM s y){a:Nat}(fK:y.at_=(a:Int))(ha:a < 2)(r:aM×Bool):rM s (xF s y r):=by
 unfold xF;split
 ·rw[fK,Int.toNat_natCast];exact aK9 (y:={y with at_:= -1}) ⟨⟨h.fm.la,h.fm.u0,h.fm.u1,h.fm.n0,h.fm.n1,h.fm.sx,h.fm.sy⟩,h.ax,h.ay,h.h0,h.h1,h.r0,h.r1⟩ rfl ha 0
 ·exact h
theorem rM.next{s:aC}{x:aM}{y:bZ}(hH:s.dJ)(h:rM s y)(hx:cM s x):rM s (kZ s x y).1∧cM s (kZ s x y).2∧(kZ s x y).2.wt=x.wt∧(kZ s x y).2.aQ=x.aQ:=by
 unfold kZ;dsimp only;rcases h.at_ with fK | ⟨a,fK,ha,_⟩
 ·have hlt:y.at_ < 0:=by omega
  cases hn:sW y with
  | none=>
   have ht:mT s x y=(y,false):=by unfold mT;rw[hn]
   rw[ht,if_pos ⟨hlt,rfl⟩];exact⟨h,hx,rfl,rfl⟩
  | some a =>
   have ha:=aHx h.fm.la hn
   have Ht:Bg y a=1:=by
    unfold sW at hn;split at hn
    ·cases hn;assumption
    ·split at hn
     ·cases hn;assumption
     ·cases hn
   have hla:(a:Int)=0∨(a:Int)=1:=by omega
   have ht:mT s x y=wT s x y a:=by unfold mT;rw[hn]
   rw[ht]
   by_cases hd:(gB s x y a).2.1=0
   ·have e:wT s x y a=(wU s x {y with last:=a} a (gB s x y a).1,false):=by
     unfold wT;dsimp only;rw[if_pos hd]
    rw[e,if_pos ⟨hlt,rfl⟩];exact⟨aK9 (y:={y with last:=a}) ⟨⟨hla,h.fm.u0,h.fm.u1,h.fm.n0,h.fm.n1,h.fm.sx,h.fm.sy⟩,h.ax,h.ay,h.h0,h.h1,h.r0,h.r1⟩ fK ha _,hx,rfl,rfl⟩
   ·have e:wT s x y a=({y with last:=a,x:=jY y.x a (gB s x y a).2.1 (gB s x y a).2.2,y:=mR y.y a (gB s x y a).2.1 (gB s x y a).2.2,at_:=a,kind:=(gB s x y a).2.1,id:=(gB s x y a).2.2},true):=by
     unfold wT;dsimp only;rw[if_neg hd]
    rw[e,if_neg (by simp),if_pos hlt];dsimp only;obtain⟨hk,hr⟩:=(h.step hx).new hlt a hn hd
    have hax:(jY y.x a (gB s x y a).2.1 (gB s x y a).2.2).of s:=by
     unfold jY;split
     ·exact aGt h.ax _ _
     ·exact h.ax
    have hay:(mR y.y a (gB s x y a).2.1 (gB s x y a).2.2).of s:=by
     unfold mR;split
     ·exact h.ay
     ·exact aGt h.ay _ _
    obtain⟨w1,w2⟩:=aJO s x (gB s x y a).2.1 (gB s x y a).2.2
    exact⟨rM.end_ (y:={y with last:=a,x:=jY y.x a (gB s x y a).2.1 (gB s x y a).2.2,y:=mR y.y a (gB s x y a).2.1 (gB s x y a).2.2,at_:=a,kind:=(gB s x y a).2.1,id:=(gB s x y a).2.2})
     ⟨⟨⟨hla,h.fm.u0,h.fm.u1,h.fm.n0,h.fm.n1,aR5 h.fm.sx _ _ _,aR4 h.fm.sy _ _ _⟩,hax,hay,h.h0,h.h1,h.r0,h.r1⟩,.inr ⟨a,rfl,ha,Ht,hk,hr⟩⟩ rfl ha _,aEL hH hx _ _,w1,w2⟩
 ·have hlt:¬y.at_ < 0:=by omega
  rw[if_neg (fun hh=>hlt hh.1),if_neg hlt];obtain⟨w1,w2⟩:=aJO s x y.kind y.id;exact⟨h.end_ fK ha _,aEL hH hx _ _,w1,w2⟩
theorem rM.send{s:aC}{y:bZ}(h:rM s y)(a:Int){l:List Int}(hu:wG l)(hn:l.length≤1000000):rM s (nX y a l).2:=by
 have fK:∀b:Nat,y.at_= -1∨(∃c:Nat,y.at_=(c:Int)∧c < 2∧Bg y c=1∧Eb s y.kind y.id∧uD (kU y c)):=fun _=>h.at_
 unfold nX;split
 ·exact h
 ·split
  ·split
   ·exact h
   ·rename_i Fv
    have Fv:y.h0=0:=Classical.byContradiction Fv
    refine⟨⟨⟨h.fm.la,hu,h.fm.u1,hn,h.fm.n1,h.fm.sx,h.fm.sy⟩,h.ax,h.ay,.inr (.inl rfl),h.h1,(fun h=>absurd (show(1:Int)=2 from h) (by decide)),h.r1⟩,?_⟩;rcases h.at_ with h1 | ⟨c,h1,h2,h3,h4,h5⟩
    ·exact .inl h1
    ·refine .inr ⟨c,h1,h2,?_⟩;obtain rfl | rfl:c=0∨c=1:=by omega
     ·exact absurd (Fv.symm.trans h3) (by decide)
     ·exact⟨h3,h4,h5⟩
  ·split
   ·exact h
   ·rename_i Fv
    have Fv:y.h1=0:=Classical.byContradiction Fv
    refine⟨⟨⟨h.fm.la,h.fm.u0,hu,h.fm.n0,hn,h.fm.sx,h.fm.sy⟩,h.ax,h.ay,h.h0,.inr (.inl rfl),h.r0,fun h=>absurd (show(1:Int)=2 from h) (by decide)⟩,?_⟩;rcases h.at_ with h1 | ⟨c,h1,h2,h3,h4,h5⟩
    ·exact .inl h1
    ·refine .inr ⟨c,h1,h2,?_⟩;obtain rfl | rfl:c=0∨c=1:=by omega
     ·exact⟨h3,h4,h5⟩
     ·exact absurd (Fv.symm.trans h3) (by decide)
theorem rM.read{s:aC}{y:bZ}(h:rM s y)(a:Int):rM s (oL y a):=by
 unfold oL;split
 ·split
  ·rename_i h2
   refine⟨⟨⟨h.fm.la,(fun _ hv=>by cases hv),h.fm.u1,Nat.zero_le _,h.fm.n1,h.fm.sx,h.fm.sy⟩,h.ax,h.ay,.inl rfl,h.h1,(fun h=>absurd (show(0:Int)=2 from h) (by decide)),h.r1⟩,?_⟩;rcases h.at_ with h1 | ⟨c,h1,hc,h3,h4,h5⟩
   ·exact .inl h1
   ·refine .inr ⟨c,h1,hc,?_⟩;obtain rfl | rfl:c=0∨c=1:=by omega
    ·exact absurd (h2.symm.trans h3) (by decide)
    ·exact⟨h3,h4,h5⟩
  ·exact h
 ·split
  ·split
   ·rename_i h2
    refine⟨⟨⟨h.fm.la,h.fm.u0,(fun _ hv=>by cases hv),h.fm.n0,Nat.zero_le _,h.fm.sx,h.fm.sy⟩,h.ax,h.ay,h.h0,.inl rfl,h.r0,fun h=>absurd (show(0:Int)=2 from h) (by decide)⟩,?_⟩;rcases h.at_ with h1 | ⟨c,h1,hc,h3,h4,h5⟩
    ·exact .inl h1
    ·refine .inr ⟨c,h1,hc,?_⟩;obtain rfl | rfl:c=0∨c=1:=by omega
     ·exact⟨h3,h4,h5⟩
     ·exact absurd (h2.symm.trans h3) (by decide)
   ·exact h
  ·exact h
theorem FwB.ans{s:aC}{y:bZ}(h:FwB s y){b:Int}{a:List Int}(ha:oM y b=some a):2≤a.length:=by
 unfold oM at ha;split at ha
 ·split at ha
  ·cases ha;exact h.r0 (by assumption)
  ·cases ha
 ·split at ha
  ·split at ha
   ·cases ha;exact h.r1 (by assumption)
   ·cases ha
  ·cases ha
theorem aQT{s:aC}(hT:s.wY):rM s (tT s):=
 ⟨⟨⟨.inr rfl,(fun _ hv=>by simp[tT] at hv),(fun _ hv=>by simp[tT] at hv),by simp[tT],by simp[tT],aCu hT,aCu hT⟩,⟨by simp[tT,dP],by simp[tT,dP],by simp[tT,dP]⟩,⟨by simp[tT,dP],by simp[tT,dP],by simp[tT,dP]⟩,.inl rfl,.inl rfl,(fun h=>by simp[tT] at h),(fun h=>by simp[tT] at h)⟩,.inl rfl⟩
end
section
theorem Nn:∀(l:List (Int×Int)) (k v j:Int),fE (yI l k v) j=if j=k then v else fE l j
 | [], k, v, j => by
  by_cases h:j=k
  ·subst h;simp[fE,yI]
  ·rw[if_neg h]
   have h2:¬k=j:=fun e=>h e.symm
   simp[fE,yI,h2]
 | (a, b) :: l, k, v, j => by
  have ih:=Nn l k v j
  unfold yI
  by_cases Hv:a=k
  ·subst Hv;rw[if_pos rfl]
   by_cases h:j=a
   ·subst h;simp[fE]
   ·have h2:¬a=j:=fun e=>h e.symm
    simp[fE,h,h2]
  ·rw[if_neg Hv]
   by_cases haj:a=j
   ·subst haj;rw[if_neg Hv];simp[fE]
   ·have e1:∀m,fE ((a,b)::m) j=fE m j:=fun m=>by simp[fE,haj]
    rw[e1,e1,ih]
theorem nN(a b:Int){p:Prop}(h:a=b)(hn:a≠b:=by decide):p:=absurd h hn
theorem Gv{z:aV}{i j:Nat}{t:rJ}(hi:T3 i)(hj:T3 j):(z.jP j t).tk i=if i=j then t else z.tk i:=by
 rcases hi with rfl | rfl | rfl<;>rcases hj with rfl | rfl | rfl<;>rfl
structure RwB(s:aC)(z:aV):Prop where
 wn:z.wn.of s
 len:∀j,T3 j→(z.tk j).hs.length=6
 nn:∀j,T3 j→∀i,0≤hG (z.tk j) i
 cnt:∀i:Nat,hG (z.tk 0) i+hG (z.tk 1) i+hG (z.tk 2) i=fE z.cn.l (i:Int)
 c7:∀i:Nat,fE z.cn.l (i:Int)≤7
 call:∀j,T3 j→(z.tk j).st=1→sZ (z.tk j).kind
 st:∀j,T3 j→0≤(z.tk j).st∧(z.tk j).st≤3
 val:∀j,T3 j→0≤(z.tk j).val∧(z.tk j).val < 4294967296
 many:0≤z.many∧z.many < 1024
 Eu:∀p∈z.steps,Ov p∧p.ok
def aUr(z:aV):Prop:=(z.eX= -1∧(∀j,T3 j→(z.tk j).st≠2)∧z.aQ=false∧z.steps=[]∧z.sent=false)∨(∃j:Nat,T3 j∧z.eX=(j:Int)∧(∀i,T3 i→((z.tk i).st=2↔i=j))∧(z.aQ=false→z.steps≠[]))
structure qO(s:aC)(z:aV):Prop extends RwB s z where
 eX:aUr z
theorem aQr{s:aC}{z:aV}(h:RwB s z){j:Nat}(hj:T3 j)(i:Nat):hG (z.tk j) i≤7:=by
 have h0:=h.nn 0 (.inl rfl) i
 have h1:=h.nn 1 (.inr (.inl rfl)) i
 have h2:=h.nn 2 (.inr (.inr rfl)) i
 have h3:=h.cnt i
 have h4:=h.c7 i
 rcases hj with rfl | rfl | rfl<;>omega
theorem RwB.rp{s:aC}{z:aV}(h:RwB s z):Ts s z:=⟨h.wn,fun j hj=>⟨h.len j hj,fun i=>⟨h.nn j hj i,by have:=aQr h hj i;omega⟩⟩⟩
theorem RwB.jP{s:aC}{z:aV}(h:RwB s z){j:Nat}(hj:T3 j){t:rJ}(hh:t.hs=(z.tk j).hs)(hs:0≤t.st∧t.st≤3)(hv:0≤t.val∧t.val < 4294967296)(hc:t.st=1→sZ t.kind):RwB s (z.jP j t):=by
 have hg:∀i,T3 i→((z.jP j t).tk i).hs=(z.tk i).hs:=fun i hi=>by
  rw[Gv hi hj];split
  ·rename_i e;subst e;exact hh
  ·rfl
 have hG':∀i,T3 i→∀k,hG ((z.jP j t).tk i) k=hG (z.tk i) k:=fun i hi k=>by unfold hG;rw[hg i hi]
 refine⟨h.wn,fun i hi=>by rw[hg i hi];exact h.len i hi,fun i hi k=>by rw[hG' i hi];exact h.nn i hi k,fun i=>?_,h.c7,fun i hi=>?_,fun i hi=>?_,fun i hi=>?_,h.many,h.Eu⟩
 ·rw[hG' 0 (.inl rfl),hG' 1 (.inr (.inl rfl)),hG' 2 (.inr (.inr rfl))];exact h.cnt i
 ·rw[Gv hi hj];split
  ·exact hc
  ·exact h.call i hi
 ·rw[Gv hi hj];split
  ·exact hs
  ·exact h.st i hi
 ·rw[Gv hi hj];split
  ·exact hv
  ·exact h.val i hi
theorem RwB.pL{s:aC}{z:aV}(h:RwB s z){j:Nat}(hj:T3 j){d:Nat}(hd:d < 6){k:Int}{c:Cn}(hc:∀i:Nat,fE c.l (i:Int)=if i=d then fE z.cn.l (d:Int)+k else fE z.cn.l (i:Int))(h0:0≤hG (z.tk j) d+k)(h7:fE z.cn.l (d:Int)+k≤7):RwB s {z.jP j (pL (z.tk j) d k) with cn:=c}:=by
 have ht:∀i,T3 i→({z.jP j (Go.Proofs.YtdcdccmpcmjmhaaGreatDoor.pL (z.tk j) d k) with cn:=c}:aV).tk i=if i=j then Go.Proofs.YtdcdccmpcmjmhaaGreatDoor.pL (z.tk j) d k else z.tk i:=fun i hi=>(show _=(z.jP j (Go.Proofs.YtdcdccmpcmjmhaaGreatDoor.pL (z.tk j) d k)).tk i from rfl).trans (Gv hi hj)
 have hu:∀i,hG (Go.Proofs.YtdcdccmpcmjmhaaGreatDoor.pL (z.tk j) d k) i=if d=i then hG (z.tk j) d+k else hG (z.tk j) i:=fun i=>aEf (h.len j hj) hd
 have hg:∀i,T3 i→∀n,hG (({z.jP j (Go.Proofs.YtdcdccmpcmjmhaaGreatDoor.pL (z.tk j) d k) with cn:=c}:aV).tk i) n=hG (z.tk i) n+(if i=j∧n=d then k else 0):=fun i hi n=>by
  rw[ht i hi]
  by_cases e:i=j
  ·subst e;rw[if_pos rfl,hu]
   by_cases e2:d=n
   ·subst e2;simp
   ·rw[if_neg e2,if_neg (fun hh=>e2 hh.2.symm)];omega
  ·rw[if_neg e,if_neg (fun hh=>e hh.1)];omega
 refine⟨h.wn,fun i hi=>?_,fun i hi n=>?_,fun n=>?_,fun n=>?_,fun i hi=>?_,fun i hi=>?_,fun i hi=>?_,h.many,h.Eu⟩
 ·rw[ht i hi];split
  ·show((z.tk j).hs.set _ _).length=6
   rw[List.length_set];exact h.len j hj
  ·exact h.len i hi
 ·rw[hg i hi]
  have:=h.nn i hi n
  split
  ·rename_i e
   obtain⟨rfl,rfl⟩:=e;exact h0
  ·omega
 ·rw[hg 0 (.inl rfl),hg 1 (.inr (.inl rfl)),hg 2 (.inr (.inr rfl))]
  show _=fE c.l (n:Int)
  rw[hc]
  have:=h.cnt n
  by_cases e:n=d
  ·subst e;rcases hj with rfl | rfl | rfl<;>simp<;>omega
  ·rw[if_neg e,if_neg (fun hh=>e hh.2),if_neg (fun hh=>e hh.2),if_neg (fun hh=>e hh.2)];omega
 ·show fE c.l (n:Int)≤7
  rw[hc];split
  ·exact h7
  ·exact h.c7 n
 ·rw[ht i hi];split
  ·rename_i e;subst e;exact h.call _ hi
  ·exact h.call i hi
 ·rw[ht i hi];split
  ·rename_i e;subst e;exact h.st _ hi
  ·exact h.st i hi
 ·rw[ht i hi];split
  ·rename_i e;subst e;exact h.val _ hi
  ·exact h.val i hi
theorem aJ0{n:Nat}{c:Cn}{d:Int}(h:(pE n c d).1=0)(h0:0≤fE c.l d):c.iA=false∧0≤d∧d < n∧fE c.l d < 7∧(pE n c d).2=⟨yI c.l d (fE c.l d+1),c.iA⟩:=by
 unfold pE at h⊢;split at h
 ·simp at h
 ·rename_i h1
  split at h
  ·simp at h
  ·rename_i h2
   split at h
   ·simp at h
   ·rename_i h3
    rw[if_neg h1,if_neg h2,if_neg h3,iR (by omega)];exact⟨by simpa using h1,by omega,by omega,by omega,rfl⟩
theorem aJk{n:Nat}{c:Cn}{d:Int}(h:(qL n c d).1=0)(h7:fE c.l d≤7):c.iA=false∧0≤d∧d < n∧0 < fE c.l d∧(qL n c d).2=⟨yI c.l d (fE c.l d - 1),c.iA⟩:=by
 unfold qL at h⊢;split at h
 ·simp at h
 ·rename_i h1
  split at h
  ·simp at h
  ·rename_i h2
   split at h
   ·simp at h
   ·rename_i h3
    rw[if_neg h1,if_neg h2,if_neg h3,iR (by omega)];exact⟨by simpa using h1,by omega,by omega,by omega,rfl⟩
theorem aCh{s:aC}{z:aV}(hm:s.made)(h:RwB s z):RwB s (lO s z):=
 ⟨aLg s z,h.len,h.nn,h.cnt,h.c7,h.call,h.st,h.val,h.many,fun p hp=>⟨aTq p hp,aTr hm _ _ p hp⟩⟩
theorem RwB.same{s:aC}{z:aV}(h:RwB s z)(c:Cn)(hc:c.l=z.cn.l):RwB s {z with cn:=c}:=
 ⟨h.wn,h.len,h.nn,fun i=>by show _=fE c.l _;rw[hc];exact h.cnt i,fun i=>by show fE c.l _≤7;rw[hc];exact h.c7 i,h.call,h.st,h.val,h.many,h.Eu⟩
structure aFt(s:aC)(z:aV)(x:aM)(r:Int×aV×aM):Prop where
 b:RwB s r.2.1
 st:∀i,(r.2.1.tk i).st=(z.tk i).st
 err:r.1≠0→r.2.1=z∧r.2.2=x
 x_:r.2.1.aQ=false→r.2.2=x
 po:r.2.1.aQ=true→z.aQ=true∨∃(d:Nat) (wr:Bool) (rg v:Int) (dv:bL),s.aD[d]? =some dv∧0≤rg∧rg < dv.aL.length∧0≤v∧v < 4294967296∧r.2.1.id=x.aQ∧r.2.2=wX x d wr rg v
theorem aRn{s:aC}(hm:s.made){z:aV}(h:RwB s z)(x:aM){j:Nat}(hj:T3 j)(k:Int):aFt s z x (qK s x z j k):=by
 have hnd:=Qk s
 have nD:=hm.nv
 have same:∀e:Int,aFt s z x (e,z,x):=fun e=>⟨h,fun _=>rfl,fun _=>⟨rfl,rfl⟩,fun _=>rfl,fun hp=>.inl hp⟩
 have Mb:∀(d:Nat) (q:Int) (c:Cn) (i:Nat),((lO s {z.jP j (pL (z.tk j) d q) with cn:=c}).tk i).st=(z.tk i).st:=fun d q c i=>by
  show((z.jP j (pL (z.tk j) d q)).tk i).st=_
  rcases hj with rfl | rfl | rfl
  all_goals
   match i with
   | 0=>rfl
   | 1=>rfl
   | n+2=>rfl
 have acc : ∀ wr : Bool, aFt s z x (Dx s x z j wr) := fun wr => by
  unfold Dx;split
  ·exact same 4
  ·rename_i hb
   split
   ·exact same 6
   ·split
    ·refine⟨⟨h.wn,h.len,h.nn,h.cnt,h.c7,h.call,h.st,h.val,h.many,h.Eu⟩,fun _=>rfl,fun h=>absurd rfl h,(fun h=>by cases h),fun _=>.inr ?_⟩
     have h1:bO s.aD.length (z.tk j).dev=true:=by
      cases hh:bO s.aD.length (z.tk j).dev with
      | true=>rfl
      | false=>exact absurd (.inl hh) hb
     have h2:=of_decide_eq_true h1
     obtain⟨dv,tS⟩:=get_some (l:=s.aD) (i:=(z.tk j).dev.toNat) (by omega)
     have h3:¬(z.tk j).bT < 0:=fun hh=>hb (.inr (.inl hh))
     have h4:¬yL s (z.tk j).dev≤(z.tk j).bT:=fun hh=>hb (.inr (.inr hh))
     unfold yL at h4;rw[tS] at h4;simp only[Option.map_some,Option.getD_some] at h4;exact⟨_,wr,(z.tk j).bT,(z.tk j).val,dv,tS,by omega,by omega,(h.val j hj).1,(h.val j hj).2,rfl,rfl⟩
    ·exact same 6
 unfold qK;split
 ·unfold Fw;split
  ·exact same _
  ·rename_i h1
   have h1:(pE (cZ s).length z.cn (z.tk j).dev).1=0:=Classical.byContradiction h1
   have Kf:=aJz h1
   obtain⟨d,hd⟩:∃d:Nat,(z.tk j).dev=d:=⟨(z.tk j).dev.toNat,by omega⟩
   rw[hd] at h1 Kf⊢;obtain⟨_,_,h2,h3,h4⟩:=aJ0 h1 (by have:=h.cnt d;have:=h.nn 0 (.inl rfl) d;have:=h.nn 1 (.inr (.inl rfl)) d;have:=h.nn 2 (.inr (.inr rfl)) d;omega);rw[h4,Int.toNat_natCast];refine⟨aCh hm (h.pL hj (by omega) (fun i=>?_) (by have:=h.nn j hj d;omega) (by omega)),Mb _ _ _,fun h=>absurd rfl h,fun _=>rfl,fun hp=>.inl hp⟩;dsimp only;rw[Nn]
   by_cases e:i=d
   ·subst e;simp
   ·rw[if_neg (by omega),if_neg e]
 ·split
  ·unfold Ez;split
   ·exact same _
   ·rename_i hin
    split
    ·exact same _
    ·rename_i h0
     split
     ·exact same _
     ·rename_i h1
      have h1:(qL (cZ s).length z.cn (z.tk j).dev).1=0:=Classical.byContradiction h1
      have hin:bO s.aD.length (z.tk j).dev=true:=by simpa using hin
      have hin:=of_decide_eq_true hin
      obtain⟨d,hd⟩:∃d:Nat,(z.tk j).dev=d:=⟨(z.tk j).dev.toNat,by omega⟩
      rw[hd] at h1 h0 hin⊢;rw[Int.toNat_natCast] at h0⊢;obtain⟨_,_,h2,h3,h4⟩:=aJk h1 (h.c7 d);rw[h4];refine⟨aCh hm (h.pL hj (by omega) (fun i=>?_) (by have:=h.nn j hj d;omega) (by have:=h.c7 d;omega)),Mb _ _ _,fun h=>absurd rfl h,fun _=>rfl,fun hp=>.inl hp⟩;dsimp only;rw[Nn]
      by_cases e:i=d
      ·subst e;simp;omega
      ·rw[if_neg (by omega),if_neg e]
  ·split
   ·exact acc false
   ·split
    ·exact acc true
    ·split
     ·unfold Er;split
      ·exact same _
      ·rename_i h1
       refine⟨aCh hm (h.same _ ?_),fun _=>rfl,fun h=>absurd rfl h,fun _=>rfl,fun hp=>.inl hp⟩;unfold tD;split<;>rfl
     ·unfold Ex;split
      ·exact same _
      ·refine⟨aCh hm (h.same _ ?_),fun _=>rfl,fun h=>absurd rfl h,fun _=>rfl,fun hp=>.inl hp⟩;unfold tE;split<;>rfl
theorem RwB.end_{s:aC}{z:aV}(h:RwB s z){j:Nat}(hj:T3 j)(h2:∀i,T3 i→(z.tk i).st=2→i=j)(e r:Int):qO s (kD z j e r):=by
 have h1:=h.jP hj (t:={z.tk j with st:=3,err:=e,res:=r}) rfl ⟨by show(0:Int)≤3;decide,by show(3:Int)≤3;decide⟩ (h.val j hj) (fun hh=>nN 3 1 hh)
 refine⟨⟨h1.wn,h1.len,h1.nn,h1.cnt,h1.c7,h1.call,h1.st,h1.val,h1.many,fun p hp=>by cases hp⟩,.inl ⟨rfl,fun i hi hst=>?_,rfl,rfl,rfl⟩⟩
 have hst:((z.jP j {z.tk j with st:=3,err:=e,res:=r}).tk i).st=2:=hst
 rw[Gv hi hj] at hst;split at hst
 ·exact nN 3 2 hst
 ·rename_i hne
  exact hne (h2 i hi hst)
theorem aNX{z:aV}{i j:Nat}(hi:T3 i)(hj:T3 j):(kB z j).tk i=if i=j then {z.tk j with st:=2} else z.tk i:=Gv hi hj
theorem aSV{s:aC}(hm:s.made){z:aV}(h:qO s z)(hh:z.eX < 0)(x:aM){j:Nat}(hj:T3 j):qO s (pF s x z j).1∧z.aQ=false∧((pF s x z j).1.aQ=false→(pF s x z j).2=x)∧((pF s x z j).1.aQ=true→∃(d:Nat) (wr:Bool) (rg v:Int) (dv:bL),s.aD[d]? =some dv∧0≤rg∧rg < dv.aL.length∧0≤v∧v < 4294967296∧(pF s x z j).1.id=x.aQ∧(pF s x z j).2=wX x d wr rg v):=by
 obtain⟨_,hno,lU,hsp,hse⟩:z.eX= -1∧(∀j,T3 j→(z.tk j).st≠2)∧z.aQ=false∧z.steps=[]∧z.sent=false:=by
  rcases h.eX with h1 | ⟨i,_,h1,_⟩
  ·exact h1
  ·omega
 have hb:RwB s (kB z j):=by
  have:=h.toRwB.jP hj (t:={z.tk j with st:=2}) rfl ⟨by show(0:Int)≤2;decide,by show(2:Int)≤3;decide⟩ (h.val j hj) (fun hh=>nN 2 1 hh)
  exact⟨this.wn,this.len,this.nn,this.cnt,this.c7,this.call,this.st,this.val,this.many,this.Eu⟩
 have h2:∀i,T3 i→(((kB z j).tk i).st=2↔i=j):=fun i hi=>by
  rw[aNX hi hj];split
  ·rename_i e;exact⟨fun _=>e,fun _=>rfl⟩
  ·rename_i e;exact⟨fun hh=>absurd hh (hno i hi),fun hh=>absurd hh e⟩
 have he:=aRn hm hb x hj (z.tk j).kind
 have hho:=aIQ s x (kB z j) j (z.tk j).kind
 have aPt:(kB z j).aQ=false:=lU
 unfold pF;dsimp only;generalize qK s x (kB z j) j (z.tk j).kind=r at he hho;split
 ·rename_i hne
  obtain⟨e1,e2⟩:=he.err hne;rw[e1,e2];exact⟨hb.end_ hj (fun i hi hst=>(h2 i hi).1 hst) _ _,lU,fun _=>rfl,fun hp=>by cases hp⟩
 ·have h3:∀i,T3 i→((r.2.1.tk i).st=2↔i=j):=fun i hi=>by rw[he.st i];exact h2 i hi
  split
  ·rename_i hc
   exact⟨he.b.end_ hj (fun i hi hst=>(h3 i hi).1 hst) _ _,lU,fun _=>he.x_ hc.1,fun hp=>by cases hp⟩
  ·rename_i hc
   refine⟨⟨he.b,.inr ⟨j,hj,hho,h3,fun hp hs=>hc ⟨hp,by rw[hs];rfl⟩⟩⟩,lU,he.x_,fun hp=>?_⟩;rcases he.po hp with h4 | h4
   ·rw[aPt] at h4;cases h4
   ·exact h4
theorem aTy{s:aC}{z:aV}{y:bZ}(h:qO s z)(hy:rM s y){j:Nat}(hj:T3 j)(hst:(z.tk j).st=2)(lU:z.aQ=false):qO s (qM z y j).1∧rM s (qM z y j).2∧(qM z y j).1.aQ=false:=by
 obtain⟨hh,h2,hne⟩:z.eX=(j:Int)∧(∀i,T3 i→((z.tk i).st=2↔i=j))∧z.steps≠[]:=by
  rcases h.eX with⟨_,h1,_⟩ | ⟨i,hi,h1,h2,h3⟩
  ·exact absurd hst (h1 j hj)
  ·obtain rfl:=(h2 j hj).1 hst;exact⟨h1,h2,h3 lU⟩
 unfold qM;split
 ·cases hr:oM y 0 with
  | none=>exact⟨h,hy.read 0,lU⟩
  | some a =>
   dsimp only
   have hb:RwB s (sQ z a):=by
    unfold sQ;split
    ·exact⟨h.wn,h.len,h.nn,h.cnt,h.c7,h.call,h.st,h.val,h.many,fun p hp=>h.Eu p (List.mem_of_mem_tail hp)⟩
    ·exact⟨h.wn,h.len,h.nn,h.cnt,h.c7,h.call,h.st,h.val,h.many,h.Eu⟩
   have ht:∀i,(sQ z a).tk i=z.tk i:=fun i=>by unfold sQ;split<;>rfl
   have hhh:(sQ z a).eX=z.eX:=by unfold sQ;split<;>rfl
   have hpp:(sQ z a).aQ=z.aQ:=by unfold sQ;split<;>rfl
   split
   ·exact⟨hb.end_ hj (fun i hi hs=>by rw[ht] at hs;exact(h2 i hi).1 hs) _ _,hy.read 0,rfl⟩
   ·rename_i hl
    exact⟨⟨hb,.inr ⟨j,hj,hhh.trans hh,fun i hi=>by rw[ht];exact h2 i hi,fun _ hs=>hl (by rw[hs];rfl)⟩⟩,hy.read 0,hpp.trans lU⟩
 ·cases hs:z.steps with
  | nil=>exact absurd hs hne
  | cons p tl =>
   dsimp only;obtain⟨hk,hok⟩:=h.Eu p (by rw[hs];simp)
   have hu:wG (qB p z.many):=fun v hv=>by
    simp only[qB,List.mem_cons,List.not_mem_nil,or_false] at hv;rcases hv with rfl | rfl | rfl
    ·exact aNB _ _ _ _
    ·exact hok.id
    ·exact hok.v
   have Au:=hy.send 0 hu (by simp[qB])
   split
   ·refine⟨⟨⟨h.wn,h.len,h.nn,h.cnt,h.c7,h.call,h.st,h.val,?_,fun q hq=>h.Eu q (by rw[hs];exact hq)⟩,.inr ⟨j,hj,hh,h2,fun _ hc=>by cases hc⟩⟩,Au,lU⟩
    have:=h.many
    show 0≤(z.many+1) % 1024∧(z.many+1) % 1024 < 1024
    omega
   ·exact⟨h,Au,lU⟩
theorem aLG{s:aC}{z:aV}(h:qO s z)(t k d r v:Int)(hv:0≤v∧v < 4294967296):qO s (vN z t k d r v).2∧(vN z t k d r v).2.aQ=z.aQ∧(vN z t k d r v).2.id=z.id:=by
 unfold vN;split
 ·exact⟨h,rfl,rfl⟩
 ·rename_i hin
  obtain⟨j,rfl,hj⟩:=Qz (t:=t) (by simpa using hin);rw[Int.toNat_natCast];split
  ·exact⟨h,rfl,rfl⟩
  ·rename_i h0
   have h0:(z.tk j).st=0:=Classical.byContradiction h0
   split
   ·exact⟨h,rfl,rfl⟩
   ·rename_i hk
    have hk:sZ k:=Classical.byContradiction hk
    refine⟨⟨h.toRwB.jP hj rfl ⟨by show(0:Int)≤1;decide,by show(1:Int)≤3;decide⟩ hv (fun _=>hk),?_⟩,rfl,rfl⟩
    have key:∀i,T3 i→(((z.jP j {z.tk j with st:=1,kind:=k,dev:=d,bT:=r,val:=v}).tk i).st=2↔(z.tk i).st=2):=fun i hi=>by
     rw[Gv hi hj];split
     ·rename_i e;subst e
      rw[h0];exact⟨fun h=>nN 1 2 h,fun h=>nN 0 2 h⟩
     ·exact Iff.rfl
    rcases h.eX with⟨h1,h2,h3⟩ | ⟨i,hi,h1,h2,h3⟩
    ·exact .inl ⟨h1,fun i hi hs=>h2 i hi ((key i hi).1 hs),h3⟩
    ·exact .inr ⟨i,hi,h1,fun k hk=>(key k hk).trans (h2 k hk),h3⟩
theorem aR1{s:aC}{z:aV}(h:qO s z)(t:Int):qO s (nG z t).2∧(nG z t).2.aQ=z.aQ∧(nG z t).2.id=z.id:=by
 unfold nG;split
 ·exact⟨h,rfl,rfl⟩
 ·rename_i hin
  obtain⟨j,rfl,hj⟩:=Qz (t:=t) (by simpa using hin);rw[Int.toNat_natCast];split
  ·exact⟨h,rfl,rfl⟩
  ·rename_i h0
   have h0:(z.tk j).st=3:=Classical.byContradiction h0
   refine⟨⟨h.toRwB.jP hj rfl ⟨by show(0:Int)≤0;decide,by show(0:Int)≤3;decide⟩ ⟨by show(0:Int)≤0;decide,by show(0:Int) < 4294967296;decide⟩ (fun h=>nN 0 1 h),?_⟩,rfl,rfl⟩
   have key:∀i,T3 i→(((z.jP j {z.tk j with st:=0,kind:=0,dev:=0,bT:=0,val:=0,err:=0,res:=0}).tk i).st=2↔(z.tk i).st=2):=fun i hi=>by
    rw[Gv hi hj];split
    ·rename_i e;subst e
     rw[h0];exact⟨fun h=>nN 0 2 h,fun h=>nN 3 2 h⟩
    ·exact Iff.rfl
   rcases h.eX with⟨h1,h2,h3⟩ | ⟨i,hi,h1,h2,h3⟩
   ·exact .inl ⟨h1,fun i hi hs=>h2 i hi ((key i hi).1 hs),h3⟩
   ·exact .inr ⟨i,hi,h1,fun k hk=>(key k hk).trans (h2 k hk),h3⟩
theorem aTe{s:aC}{z:aV}(h:qO s z)(a:mY):qO s (Bo z a):=by
 unfold Bo;split
 ·exact h
 ·rename_i hp
  obtain⟨j,hj,hh,h2⟩:∃j:Nat,T3 j∧z.eX=(j:Int)∧∀i,T3 i→((z.tk i).st=2↔i=j):=by
   rcases h.eX with⟨_,_,h1,_⟩ | ⟨i,hi,h1,h2,_⟩
   ·exact absurd h1 hp
   ·exact⟨i,hi,h1,h2⟩
  have h3:∀e r,qO s (kD z z.eX.toNat e r):=fun e r=>by
   rw[hh,Int.toNat_natCast];exact h.toRwB.end_ hj (fun i hi hs=>(h2 i hi).1 hs) e r
  split
  ·exact h
  ·split
   ·exact h3 _ _
   ·exact h3 _ _
theorem aJF{s:aC}:∀(l:List mY) {z:aV},qO s z→qO s (xJ z l)
 | [],_,h=>h
 | a::l,_,h=>aJF l (aTe h a)
theorem qO.po{s:aC}{z:aV}(h:qO s z):Pb z:=fun hp=>by
 rcases h.eX with⟨_,_,h1,_⟩ | ⟨i,hi,h1,_⟩
 ·rw[h1] at hp;cases hp
 ·exact⟨i,h1,hi⟩
theorem qO.go{s:aC}{z:aV}{y:bZ}(h:qO s z)(hy:FwB s y):aKq s z y:=by
 refine⟨h.rp,h.call,fun j hj hst=>?_,h.many,fun p hp=>(aDS (h.Eu p hp).1 h.many.1 h.many.2).1,fun a ha=>hy.ans ha⟩;rcases h.eX with⟨_,h1,_⟩ | ⟨i,hi,h1,h2,h3⟩
 ·exact absurd hst (h1 j hj)
 ·obtain rfl:=(h2 j hj).1 hst;exact⟨h1,h3⟩
theorem aM0{s:aC}:qO s (Jf s):=by
 have ht:∀j,T3 j→(Jf s).tk j=Px:=by rintro j (rfl | rfl | rfl)<;>rfl
 have h0:∀i,hG Px i=0:=fun i=>by
  match i with
  | 0 | 1 | 2 | 3 | 4 | 5=>rfl
  | n+6=>rfl
 refine⟨⟨aC8 s [],fun j hj=>by rw[ht j hj];rfl,fun j hj i=>by rw[ht j hj,h0];decide,fun i=>?_,fun i=>?_,fun j hj h=>?_,fun j hj=>?_,fun j hj=>?_,⟨by show(0:Int)≤0;decide,by show(0:Int) < 1024;decide⟩,fun p hp=>by cases hp⟩,.inl ⟨rfl,fun j hj h=>?_,rfl,rfl,rfl⟩⟩
 ·rw[ht 0 (.inl rfl),ht 1 (.inr (.inl rfl)),ht 2 (.inr (.inr rfl)),h0];rfl
 ·show(0:Int)≤7
  decide
 ·rw[ht j hj] at h;exact nN 0 1 h
 ·rw[ht j hj];decide
 ·rw[ht j hj];decide
 ·rw[ht j hj] at h;exact nN 0 2 h
end
section
theorem aUn{w0:World}{R:List Piece}{H:List HP}{q:Piece}{A:Option Addr}{es:List (Int×Nat)}{j:Nat}{p:Int×Nat}(hq:q∈R)(hs:aI q 2 A es.length (es.flatMap Gc))(hj:es[j]? =some p):∃b off,A=some ⟨b,off,none⟩∧aR w0 R H b (off+j*2) (Gc p):=by
 have hlt:=(List.getElem?_eq_some_iff.1 hj).1
 obtain⟨b,off,hA,hz,hc⟩:=aI.zW (rows:=es.map Gc) (sz:=2) (k:=j) (r:=Gc p) (n:=es.length) (by rw[←List.flatMap_def];exact hs) (fun r hr=>by
  obtain⟨x,_,rfl⟩:=List.mem_map.1 hr
  rfl) (by rw[List.getElem?_map,hj];rfl) hlt
 exact⟨b,off,hA,.of fun k v hv=>Rd.ro hq hz (hc k v hv)⟩
def iB(s:aC)(x:aM):Nat→aM×List mY
 | 0=>(x,[])
 | n+1=>((jL s (iB s x n).1 n).1,(iB s x n).2++(jL s (iB s x n).1 n).2.toList)
def oK(s:aC)(x:aM)(cJ:Int):aM×List mY:=(fW s (iB s x s.aD.length).1 cJ,(iB s x s.aD.length).2)
theorem Oc{s:aC}{x:aM}(hok:cM s x)(lE:Gl s x):∀n,cM s (iB s x n).1∧Gl s (iB s x n).1
 | 0=>⟨hok,lE⟩
 | n+1=>⟨aTj (Oc hok lE n).1 (Oc hok lE n).2 n,aTh (Oc hok lE n).2 n⟩
theorem aEJ{s:aC}{x:aM}:∀n,(iB s x n).2.length≤n
 | 0=>Nat.le_refl _
 | n+1=>by
  have:=aEJ (s:=s) (x:=x) n
  show((iB s x n).2++_).length≤_
  rw[List.length_append];cases(jL s (iB s x n).1 n).2<;>simp<;>omega
theorem aBL{s:aC}{x:aM}{i:Nat}(h:(x.wt[i]?).join=none):jL s x i=(x,none):=by
 unfold jL;rw[h]
theorem aEI{s:aC}{x:aM}{i:Nat}{t:jD}(hok:cM s x)(hi:i < s.aD.length)(h:(x.wt[i]?).join=some t):∃a,(jL s x i).2=some a∧(jL s x i).1.wt=x.wt.set i none:=by
 obtain⟨d,hd⟩:=get_some hi;obtain⟨p,hp⟩:=get_some (l:=x.dv) (i:=i) (by have:=hok.dv;omega);unfold jL;rw[h,hd,hp];dsimp only;split<;>exact⟨_,rfl,rfl⟩
theorem aTk{s:aC}{x:aM}(hok:cM s x)(i j:Nat)(h:j=i∨(x.wt[j]?).join=none):((jL s x i).1.wt[j]?).join=none:=by
 cases hq:(x.wt[i]?).join with
 | none=>
  rw[aBL hq];rcases h with rfl | h
  ·exact hq
  ·exact h
 | some t =>
  have hlt:i < s.aD.length:=by
   have:=hok.wt
   rcases Nat.lt_or_ge i x.wt.length with h | h
   ·omega
   ·rw[List.getElem?_eq_none h] at hq;cases hq
  obtain⟨a,_,h2⟩:=aEI hok hlt hq;rw[h2];cases hj:((x.wt.set i none)[j]?).join with
  | none=>rfl
  | some t' =>
   have h3:=aCK hj
   rcases h with rfl | h
   ·rw[List.getElem?_set] at hj;simp at hj;split at hj<;>cases hj
   ·rw[h] at h3;cases h3
theorem aJE{s:aC}{x:aM}(hok:cM s x)(lE:Gl s x):∀n j,j < n→((iB s x n).1.wt[j]?).join=none
 | 0,_,h=>absurd h (by omega)
 | n+1,j,h=>aTk (Oc hok lE n).1 n j (by
  by_cases hj:j=n
  ·exact .inl hj
  ·exact .inr (aJE hok lE n j (by omega)))
theorem aJB{s:aC}{x:aM}(hok:cM s x)(lE:Gl s x)(i:Nat):iH (iB s x s.aD.length).1.wt i=0:=by
 have h:=(Oc hok lE s.aD.length).1.wt
 unfold iH;rcases Nat.lt_or_ge i s.aD.length with hi | hi
 ·rw[aJE hok lE _ i hi];rfl
 ·rw[List.getElem?_eq_none (by omega)];rfl
theorem aPN(L:HL)(s:aC)(x0:aM)(w:World)(hH:s.dJ)(aW:iU L s)(aDL:cM s x0)(aHP:Gl s x0)(cJ:Int)(hd:0≤cJ∧cJ < 4294967296)(F:Nat→Prop)(hp:(dR L s x0).sat F w)(hF:∀b,F b→b < w.heap.size):
  Cz 22 #[.pointer (some ⟨L.h,0,none⟩),.int .u32 cJ] w (fun y w'=>∃a:Option Addr×Nat,y=.returned (.slice a.1 (oK s x0 cJ).2.length a.2)∧True∧∃F',(HP.many [dR L s (oK s x0 cJ).1,HP.own 143 4 (.slice a.1 (oK s x0 cJ).2.length a.2) (oK s x0 cJ).2.length ((oK s x0 cJ).2.flatMap mY.cells)]).sat F' w'∧iE w w' F F'):=by
 have nD:=hH.t.nv
 have hnd:=hH.t.nd
 have hls:=aW.ds
 refine dK func22 ntmps22 hp hF ?_;generalize cN:(⟨w,fun b=>b < w.heap.size∧¬F b⟩:Piece)=R0;refine aA ?_;refine aU (fun w1 t=>Dj L s x0 w1 (t.nF 0 rfl aW aDL)) ?_;refine aA ?_;refine kd (bN rfl (rL 0 rfl rfl)) ?_;refine aA ?_;refine iP 143 4 ?_;refine bK [(24,iv 0),(23,iv s.aD.length),(5,sn),(0,.pointer (some ⟨L.h,0,none⟩)),(1,.int .u32 cJ)] ?_;refine eJ (fun m e R H=>∃(i:Nat) (A:Option Addr) (c:Nat),i≤s.aD.length∧m=s.aD.length - i∧e=[(24,iv i),(23,iv s.aD.length),(5,.slice A (iB s x0 i).2.length c),(0,.pointer (some ⟨L.h,0,none⟩)),(1,.int .u32 cJ)]∧R=[R0]∧H=[HP.own 143 4 (.slice A (iB s x0 i).2.length c) (iB s x0 i).2.length ((iB s x0 i).2.flatMap mY.cells),dR L s (iB s x0 i).1]) s.aD.length ⟨0,none,0,by omega,rfl,rfl,rfl,rfl⟩ fun m e R H hI=>?_;obtain⟨i,A0,c0,hi,rfl,rfl,rfl,rfl⟩:=hI;obtain⟨Jz,aBc⟩:=Oc aDL aHP i
 have hlen:=aEJ (s:=s) (x:=x0) i
 refine aA ?_;refine aG rfl (fun hlt=>?_) (fun hge=>?_)
 ·have hlt:i < s.aD.length:=by omega
  have dS:iB s x0 (i+1)=((jL s (iB s x0 i).1 i).1,(iB s x0 i).2++(jL s (iB s x0 i).1 i).2.toList):=rfl
  generalize hr:iB s x0 i=r at Jz aBc hlen dS⊢;obtain⟨xi,l⟩:=r;dsimp only at Jz aBc hlen dS⊢;cases hj:(xi.wt[i]?).join with
  | none=>
   rw[aBL hj] at dS;refine aA ?_;refine aU (fun w1 t=>aPV L s xi i hlt (by unfold iH;rw[hj];rfl) w1 (t.nF 1 rfl aW Jz)) ?_;refine aA ?_;refine bU fun g1=>?_;refine aA ?_;refine aY [1,2] rfl (by decide) (fun _ h=>h) ?_;refine bK [(24,iv (i+1:Nat)),(23,iv s.aD.length),(5,.slice A0 l.length c0),(0,.pointer (some ⟨L.h,0,none⟩)),(1,.int .u32 cJ)] ?_;exact iC (s.aD.length - (i+1)) (by omega) ⟨i+1,A0,c0,hlt,rfl,by rw[dS];simp,rfl,by rw[dS];simp⟩
  | some t=>
   obtain⟨d,dF⟩:=get_some hlt;obtain⟨a,ha,_⟩:=aEI Jz hlt hj;obtain⟨Sy,Zf,Od,Ky⟩:=a;rw[ha] at dS;refine aA ?_;refine aAY (v:=.tuple #[.agg #[iv Sy,iv Zf,.bool Od,.int .u32 Ky],.bool true]) 1 (dR L s (jL s xi i).1) (fun w1 F1 st h1 h2 h3=>aPU L s xi w1 hH aW Jz aBc i d dF t hj _ ha F1 h1 h2) ?_;dsimp only[List.set];refine aA ?_;refine bU fun g1=>?_;refine aA ?_;refine eH fun g4=>?_;refine aA ?_;refine gH 2 4 24 1 (n':=l.length+1) (el:=143) (by kernel_rfl) (by kernel_rfl) (by decide) rfl rfl rfl (nL 0 rfl rfl) (by simp[Value.oneCell']) rfl (by omega) (by omega) (by decide) fun An cn=>?_;dsimp only[List.set];refine aA ?_;refine aY [2,3] rfl (by decide) (fun _ h=>h) ?_;refine bK [(24,iv (i+1:Nat)),(23,iv s.aD.length),(5,.slice An (l.length+1) cn),(0,.pointer (some ⟨L.h,0,none⟩)),(1,.int .u32 cJ)] ?_;exact iC (s.aD.length - (i+1)) (by omega) ⟨i+1,An,cn,hlt,rfl,by rw[dS];simp,rfl,by rw[dS];simp[mY.cells]⟩
 obtain rfl:i=s.aD.length:=by omega
 have lE:=aJB aDL aHP
 have aDR:oK s x0 cJ=(fW s (iB s x0 s.aD.length).1 cJ,(iB s x0 s.aD.length).2):=rfl
 generalize hr:iB s x0 s.aD.length=r at Jz aBc hlen lE aDR⊢;obtain⟨x,l⟩:=r;dsimp only at Jz lE hlen aDR⊢;rw[aDR]
 have hok:=Jz
 have jA:=hok.dv
 refine aY [1,0] rfl (by decide) (fun _ h=>h) ?_;generalize hT:HP.own 143 4 (.slice A0 l.length c0) l.length (l.flatMap mY.cells)=T;generalize hTv:Value.slice A0 l.length c0=tv;refine aA ?_;refine kd (bN rfl (rL 0 rfl rfl)) ?_;refine aA ?_
 have Jy:wZ x cJ 0=x.dv:=Qo _ _
 refine bK [(44,iv 0),(43,iv s.aD.length),(42,.slice L.A s.aD.length L.c),(5,tv),(0,.pointer (some ⟨L.h,0,none⟩)),(1,.int .u32 cJ)] ?_;refine eJ (fun m e R H=>∃i:Nat,i≤s.aD.length∧m=s.aD.length - i∧e=[(44,iv i),(43,iv s.aD.length),(42,.slice L.A s.aD.length L.c),(5,tv),(0,.pointer (some ⟨L.h,0,none⟩)),(1,.int .u32 cJ)]∧R=[R0]∧H=[dR L s {x with dv:=wZ x cJ i},T]) s.aD.length ⟨0,by omega,rfl,rfl,rfl,by rw[Jy]⟩ fun m e R H hI=>?_;obtain⟨i,hi,rfl,rfl,rfl,rfl⟩:=hI
 have nQ:=aDq hH hok cJ i
 refine aA ?_;refine aG rfl (fun hlt=>?_) (fun hge=>?_)
 ·have hlt:i < s.aD.length:=by omega
  obtain⟨d,dF⟩:=get_some hlt;obtain⟨l,iS⟩:=get_some (l:=L.ds) (i:=i) (by omega);obtain⟨p,gK⟩:=get_some (l:=x.dv) (i:=i) (by omega)
  have lV:(wZ x cJ i)[i]? =some p:=Qq gK
  have hstep:(wZ x cJ i).set i (p.1,sP p.2 (decide (0 < iH x.wt i)) (Du cJ i))=wZ x cJ (i+1):=Qp (f:=fun i p=>(p.1,sP p.2 (decide (0 < iH x.wt i)) (Du cJ i))) gK
  have hw0:decide (0 < iH x.wt i)=false:=by rw[lE i];rfl
  rw[hw0] at hstep;refine Oh 0 rfl aW nQ (by omega) fun b off hA=>?_;refine aA ?_;refine kd (dat i (off+i*6) (hx:=by rw[←hA];rfl)) ?_;refine kd (oZ rfl (aR.dev 0 rfl aW nQ hA dF iS rfl)) ?_;refine bU fun g1=>?_;refine aA ?_;refine jM [0,1,3,4,5,11,12,13] ?_;refine bP 2 ?_;refine bP 6 ?_;refine bP 9 ?_;refine bP 10 ?_;refine aJ 0 ?_;refine aJ 1 ?_;refine aJ 3 ?_;refine aJ 4 ?_;refine aJ 5 ?_ (dI:=bN rfl (rL 1 rfl rfl));refine aJ 11 ?_ (dI:=aJa rfl rfl (c:=cJ.fdiv (2 ^ min i 32)) (by omega) rfl);refine aJ 12 ?_ (dI:=aJh (c:=aBN (cJ.fdiv (2 ^ min i 32)) 1) rfl rfl (fun _=>rfl) (by simp));refine aJ 13 ?_;refine aO 7 ?_;refine aU (fun w1 t=>aJ2 L.B (kK s) x.wt x.aQ i (by rw[He];exact hlt) w1 (t.nF 1 rfl aW nQ).bus) ?_;refine bM ?_;refine aO 8 ?_;refine bH ?_;refine bM ?_;refine aO 14 ?_;refine Tb 1 i rfl dF iS lV ?_;dsimp only[List.set];refine bF 0 1 ?_;refine dZ 0 (vD l.2 (sP p.2 (decide ((iH x.wt i:Int)>0)) (Du cJ i))) (fun w1 F1 t h1 h2 h3=>aNv _ _ h1 h2) ?_;refine aP 0 1 ?_;refine Tn 1 i rfl dF iS lV (p':=(p.1,sP p.2 (decide ((iH x.wt i:Int)>0)) (Du cJ i))) ?_;dsimp only[List.set]
  have hw1:decide ((iH x.wt i:Int)>0)=false:=by rw[lE i];rfl
  rw[hw1,hstep];refine cX ?_;refine fJ ?_;refine aA ?_;refine aY [1,2] rfl (by decide) (fun _ h=>h) ?_;exact dW (s.aD.length - (i+1)) ⟨i+1,hlt,rfl,rfl,rfl,rfl⟩
 obtain rfl:i=s.aD.length:=by omega
 have aDK:=aDq hH hok cJ s.aD.length
 generalize tS:wZ x cJ s.aD.length=Ds at aDK⊢;refine aA ?_;refine kd (bN rfl (rL 0 rfl rfl)) ?_;refine aA ?_;refine bF 0 1 ?_;refine dZ 0 (rI L.T s (lQ s x.ck)) (fun w1 F1 t h1 h2 h3=>aSv L.T s x.ck hH aW.fa hok.ck w1 F1 h1 h2) ?_;refine aP 0 1 ?_
 change XK _ _ _ _ _ [dR L s {x with ck:=lQ s x.ck,dv:=Ds},T]
 refine aA ?_;refine kd (bN rfl (rL 0 rfl rfl)) ?_;refine aA ?_;refine bF 0 2 ?_;refine zT (α:=Option Addr×Nat) 0 (f:=59) (fi:=[]) (ca:=[]) (fun a=>.slice a.1 (jX x.dm s.domains.length).length a.2) (fun a=>HP.many [wN L.G s (nK x.dm),HP.own 151 2 (.slice a.1 (jX x.dm s.domains.length).length a.2) (jX x.dm s.domains.length).length ((jX x.dm s.domains.length).flatMap Gc)]) (fun _=>True) (by kernel_rfl) rfl rfl rfl (by decide) (fun w1 F1 t h1 h2 h3=>aN2 L.G s x.dm hok.dm (by omega) w1 F1 h1 h2) ?_;rintro⟨Ae,ce⟩ _;dsimp only[List.set];refine bF 0 0 ?_;refine aP 1 2 ?_;refine bF 0 1 ?_;refine dO [] [0] [2,3] (by simp) rfl (by decide) (by decide) fun q hq _ hfr=>?_;obtain⟨F2,Cq,Ch⟩:=hq 0 _ (by simp) rfl
 have hev:aI q 2 Ae (jX x.dm s.domains.length).length ((jX x.dm s.domains.length).flatMap Gc):=aI.own ⟨F2,Cq,Ch⟩
 have mQ:cM s {x with ck:=lQ s x.ck,dm:=nK x.dm,dv:=Ds}:=⟨aCH hH hok.ck,aCG hok.dm,hok.ln,aDK.dv,aDK.each,hok.wt⟩
 have hel:(jX x.dm s.domains.length).length≤1000:=Nat.le_trans (aIO x.dm s.domains.length) (by omega)
 generalize hes:jX x.dm s.domains.length=es at hev hel⊢
 change XK _ _ _ _ _ [dR L s {x with ck:=lQ s x.ck,dm:=nK x.dm,dv:=Ds},T]
 refine aA ?_;refine bK [(76,iv 0),(75,iv es.length),(74,.slice Ae es.length ce),(5,tv),(0,.pointer (some ⟨L.h,0,none⟩))] ?_;refine eJ (fun m e R H=>∃j:Nat,j≤es.length∧m=es.length - j∧e=[(76,iv j),(75,iv es.length),(74,.slice Ae es.length ce),(5,tv),(0,.pointer (some ⟨L.h,0,none⟩))]∧R=[q,R0]∧H=[dR L s {x with ck:=lQ s x.ck,dm:=nK x.dm,dv:=(es.take j).foldl (pS s) Ds},T]) es.length ⟨0,by omega,rfl,rfl,rfl,rfl⟩ fun m e R H hI=>?_;obtain⟨j,hj,rfl,rfl,rfl,rfl⟩:=hI
 have Ka:cM s {x with ck:=lQ s x.ck,dm:=nK x.dm,dv:=(es.take j).foldl (pS s) Ds}:=aEl hH (es.take j) _ mQ
 refine aA ?_;refine aG rfl (fun hlt=>?_) (fun hge=>?_)
 ·have hlt:j < es.length:=by omega
  obtain⟨p,gK⟩:=get_some hlt
  have dS:(es.take (j+1)).foldl (pS s) Ds=pS s ((es.take j).foldl (pS s) Ds) p:=by
   rw[List.take_add_one,gK,List.foldl_append];rfl
  generalize hx3:({x with ck:=lQ s x.ck,dm:=nK x.dm,dv:=(es.take j).foldl (pS s) Ds}:aM)=x3 at Ka
  have hx4:({x with ck:=lQ s x.ck,dm:=nK x.dm,dv:=(es.take (j+1)).foldl (pS s) Ds}:aM)={x3 with dv:=pS s x3.dv p}:=by rw[dS,←hx3]
  have aU7:=Ka.dv
  obtain⟨be,aOc,hAe,hrd⟩:=aUn (w0:=w) (R:=[q,R0]) (H:=[dR L s x3,T]) (by simp) hev gK;obtain⟨kn,dm⟩:=p;refine aA ?_;refine kd (dat j (aOc+j*2) (hx:=by rw[←hAe];rfl)) ?_;refine kd (oZ rfl hrd) ?_;refine bU fun g1=>?_;refine aA ?_;refine aU (fun w1 t=>aPS kn w1) ?_
  by_cases hk:kn=115∨kn=114∨kn=108∨kn=110
  ·obtain⟨f,Xc,hcb,Be⟩:=aSb hk;rw[Xc];refine aA ?_;refine kd (aJg rfl (.inr ⟨⟨_,_,_,rfl⟩,rfl⟩)) ?_;refine aA ?_;refine kd (bN rfl (rL 1 rfl rfl)) ?_;refine aA ?_
   have hm0:Ai s x3.dv (kn,dm) 0=x3.dv:=Qo _ _
   refine bK [(90,iv 0),(89,iv s.aD.length),(88,.slice L.A s.aD.length L.c),(13,.func (.func f) #[] #[]),(12,pt g1),(76,iv j),(75,iv es.length),(74,.slice Ae es.length ce),(5,tv),(0,.pointer (some ⟨L.h,0,none⟩))] ?_;refine eJ (fun m e R H=>∃i:Nat,i≤s.aD.length∧m=s.aD.length - i∧e=[(90,iv i),(89,iv s.aD.length),(88,.slice L.A s.aD.length L.c),(13,.func (.func f) #[] #[]),(12,pt g1),(76,iv j),(75,iv es.length),(74,.slice Ae es.length ce),(5,tv),(0,.pointer (some ⟨L.h,0,none⟩))]∧R=[q,R0]∧H=[HP.aE g1 151 [.int .u8 kn,iv (dm:Int)],dR L s {x3 with dv:=Ai s x3.dv (kn,dm) i},T]) s.aD.length ⟨0,by omega,rfl,rfl,rfl,by rw[hm0];rfl⟩ fun m e R H hI=>?_;obtain⟨i,hi,rfl,rfl,rfl,rfl⟩:=hI
   have nQ:=aH6 hH Ka (kn,dm) i
   refine aA ?_;refine aG rfl (fun hlt=>?_) (fun hge=>?_)
   ·have hlt:i < s.aD.length:=by omega
    obtain⟨d,dF⟩:=get_some hlt;obtain⟨l,iS⟩:=get_some (l:=L.ds) (i:=i) (by omega);obtain⟨p,gK⟩:=get_some (l:=x3.dv) (i:=i) (by omega)
    have lV:(Ai s x3.dv (kn,dm) i)[i]? =some p:=Qq gK
    have hstep:(Ai s x3.dv (kn,dm) i).set i (tV s (kn,dm) i p)=Ai s x3.dv (kn,dm) (i+1):=Qp (f:=tV s (kn,dm)) gK
    have hfo:=(nQ.each i d p dF lV).1
    refine Oh 1 rfl aW nQ (by omega) fun b off hA=>?_;refine aA ?_;refine kd (dat i (off+i*6) (hx:=by rw[←hA];rfl)) ?_;refine kd (oZ rfl (aR.dev 1 rfl aW nQ hA dF iS rfl)) ?_;refine bU fun g2=>?_;refine aA ?_;refine aG rfl (fun he=>?_) (fun he=>?_)
    ·have nE:tV s (kn,dm) i p=(Bm kn d p.1,p.2):=by
      unfold tV;rw[dF];exact if_pos he
     refine aA ?_;refine Tb 2 i rfl dF iS lV ?_;dsimp only[List.set];refine bF 0 0 ?_;refine aAX 0 (fi:=[]) (ca:=[]) (iF l.1 d (Bm kn d p.1)) (fun w1 F1 t h1 h2 h3=>by simpa using Be l.1 d p.1 (by have:=(hH.t.aD i d dF).2.2.2.2.2.2.2.2.1;omega) hfo w1 F1 h1 h2) ?_ (hf:=hcb);dsimp only[List.set];refine aP 0 0 ?_;refine Tn 2 i rfl dF iS lV (p':=(Bm kn d p.1,p.2)) ?_;dsimp only[List.set];rw[←nE,hstep];refine aA ?_;refine aY [1,2,3] rfl (by decide) (fun _ h=>h) ?_;exact dW (s.aD.length - (i+1)) ⟨i+1,hlt,rfl,rfl,rfl,rfl⟩
    ·have nE:tV s (kn,dm) i p=p:=by
      unfold tV;rw[dF];exact if_neg he
     rw[nE,yH lV] at hstep;rw[hstep];refine aA ?_;refine aY [1,2,3] rfl (by decide) (fun _ h=>h) ?_;exact dW (s.aD.length - (i+1)) ⟨i+1,hlt,rfl,rfl,rfl,rfl⟩
   obtain rfl:i=s.aD.length:=by omega
   refine aA ?_;refine aY [1,2] rfl (by decide) (fun _ h=>h) ?_;refine bK [(76,iv (j+1:Nat)),(75,iv es.length),(74,.slice Ae es.length ce),(5,tv),(0,.pointer (some ⟨L.h,0,none⟩))] ?_;exact iC (es.length - (j+1)) (by omega) ⟨j+1,by omega,rfl,rfl,rfl,by rw[hx4];rfl⟩
  ·have Xc:Ij kn=.nilFunc:=by
    rw[Ij,if_neg (by omega),if_neg (by omega),if_neg (by omega)]
   rw[Xc];refine aA ?_;refine kd (aJg rfl (.inl ⟨rfl,rfl⟩)) ?_;refine aA ?_;refine aY [1,2] rfl (by decide) (fun _ h=>h) ?_;refine bK [(76,iv (j+1:Nat)),(75,iv es.length),(74,.slice Ae es.length ce),(5,tv),(0,.pointer (some ⟨L.h,0,none⟩))] ?_;exact iC (es.length - (j+1)) (by omega) ⟨j+1,by omega,rfl,rfl,rfl,by rw[hx4,aOv hk,←hx3]⟩
 obtain rfl:j=es.length:=by omega
 rw[List.take_length];refine aA ?_;refine kd (bN rfl (rL 0 rfl rfl)) ?_;refine aA ?_;refine bF 0 3 ?_;refine zT (α:=Option Addr×Nat×Nat) 0 (f:=61) (fi:=[]) (ca:=[]) (fun a=>.slice a.1 a.2.1 a.2.2) (fun _=>qQ L.R s (Ep x.ln)) (fun _=>True) (by kernel_rfl) rfl rfl rfl (by decide) (fun w1 F1 t h1 h2 h3=>aMp L.R s x.ln hH hok.ln w1 F1 h1 h2) ?_;rintro _ _;dsimp only[List.set];refine aP 0 3 ?_
 change XK _ _ _ _ _ [dR L s {x with ck:=lQ s x.ck,dm:=nK x.dm,ln:=Ep x.ln,dv:=es.foldl (pS s) Ds},T]
 have xC:({x with ck:=lQ s x.ck,dm:=nK x.dm,ln:=Ep x.ln,dv:=es.foldl (pS s) Ds}:aM)=fW s x cJ:=by rw[fW,tS,hes]
 rw[xC];refine aA ?_;subst cN;subst hT;subst hTv;refine nH ?_;exact nS rfl rfl fun w1 t=>⟨(A0,c0),rfl,trivial,t.turns hF (by simp) (i:=0) rfl⟩
end
section
structure dQ where
 z:aV
 y:bZ
 x:aM
def dQ.start(m:dQ)(t k d r v:Int):dQ:=⟨(vN m.z t k d r v).2,m.y,m.x⟩
def dQ.done(m:dQ)(t:Int):dQ:=⟨(nG m.z t).2,m.y,m.x⟩
def dQ.step(s:aC)(m:dQ)(t:Int):dQ:=⟨(Et s m.z m.y m.x t).1,(Et s m.z m.y m.x t).2.1,(Et s m.z m.y m.x t).2.2⟩
def dQ.eZ(s:aC)(m:dQ):dQ:=⟨m.z,(kZ s m.x m.y).1,(kZ s m.x m.y).2⟩
def dQ.tick(s:aC)(m:dQ)(cJ:Int):dQ:=⟨xJ m.z (oK s m.x cJ).2,m.y,(oK s m.x cJ).1⟩
structure eO(s:aC)(n:Nat)(m:dQ):Prop where
 yJ:qO s m.z
 fw:rM s m.y
 hw:cM s m.x
 wt:Gl s m.x
 po:0≤m.x.aQ∧m.x.aQ≤n
 w0:m.z.aQ=false→∀i:Nat,(m.x.wt[i]?).join=none
 w1:m.z.aQ=true→∃(i:Nat) (t:jD),i < s.aD.length∧(m.x.wt[i]?).join=some t∧t.id=m.z.id∧∀k:Nat,k≠i→(m.x.wt[k]?).join=none
section
variable{s:aC}{n:Nat}{m:dQ}
theorem eO.le{k:Nat}(h:eO s n m)(hk:n≤k):eO s k m:=⟨h.yJ,h.fw,h.hw,h.wt,by have:=h.po;omega,h.w0,h.w1⟩
theorem eO.start(h:eO s n m)(t k d r v:Int)(hv:0≤v∧v < 4294967296):eO s n (m.start t k d r v):=by
 obtain⟨h1,h2,h3⟩:=aLG h.yJ t k d r v hv;refine⟨h1,h.fw,h.hw,h.wt,h.po,fun hp=>h.w0 (h2.symm.trans hp),fun hp=>?_⟩
 have h4:=h.w1 (h2.symm.trans hp)
 rwa [←h3] at h4
theorem eO.done(h:eO s n m)(t:Int):eO s n (m.done t):=by
 obtain⟨h1,h2,h3⟩:=aR1 h.yJ t;refine⟨h1,h.fw,h.hw,h.wt,h.po,fun hp=>h.w0 (h2.symm.trans hp),fun hp=>?_⟩
 have h4:=h.w1 (h2.symm.trans hp)
 rwa [←h3] at h4
theorem eO.eZ(hm:s.made)(h:eO s n m):eO s n (m.eZ s):=by
 obtain⟨h1,h2,h3,h4⟩:=h.fw.next hm.dJ h.hw;refine⟨h.yJ,h1,h2,fun i d t hd ht=>h.wt i d t hd (by rw[←h3];exact ht),by rw[show(m.eZ s).x.aQ=m.x.aQ from h4];exact h.po,fun hp i=>?_,fun hp=>?_⟩
 ·show((kZ s m.x m.y).2.wt[i]?).join=none
  rw[h3];exact h.w0 hp i
 ·show ∃i t,i < s.aD.length∧((kZ s m.x m.y).2.wt[i]?).join=some t∧t.id=m.z.id∧∀k:Nat,k≠i→((kZ s m.x m.y).2.wt[k]?).join=none
  rw[h3];exact h.w1 hp
theorem eO.idle(h:eO s n m)(hp:m.z.aQ=false)(hn:n≤1000000000):HwP s m.x:=⟨h.hw,h.w0 hp,by have:=h.po;omega⟩
theorem eO.free(h:eO s n m)(hh:m.z.eX < 0):m.z.aQ=false:=by
 rcases h.yJ.eX with⟨_,_,h1,_⟩ | ⟨i,_,h1,_⟩
 ·exact h1
 ·omega
theorem eO.step(hm:s.made)(h:eO s n m)(t:Int):eO s (n+1) (m.step s t):=by
 have same:eO s (n+1) ⟨m.z,m.y,m.x⟩:=h.le (by omega)
 unfold dQ.step Et;split
 ·exact same
 ·rename_i hin
  obtain⟨j,rfl,hj⟩:=Qz (t:=t) (by simpa using hin);rw[Int.toNat_natCast];split
  ·split
   ·rename_i hh
    have hp:=h.free hh
    have hw0:=h.w0 hp
    obtain⟨h1,h2,h3,h4⟩:=aSV hm h.yJ hh m.x hj;dsimp only;generalize pF s m.x m.z j=r at h1 h3 h4;obtain⟨z',x'⟩:=r;dsimp only at h1 h3 h4⊢;cases hp':z'.aQ with
    | false=>
     cases h3 hp';exact⟨h1,h.fw,h.hw,h.wt,by have:=h.po;dsimp only;omega,fun _=>hw0,fun hc=>by dsimp only at hc;rw[hp'] at hc;cases hc⟩
    | true =>
     obtain⟨d,wr,rg,v,dv,tS,r0,r1,v0,v1,hid,rfl⟩:=h4 hp'
     have hlt:=(List.getElem?_eq_some_iff.1 tS).1
     have vV:=h.hw.wt
     have fK:∀k:Nat,(((m.x.wt.set d (some ⟨m.x.aQ,wr,rg,v⟩))[k]?).join)=if k=d then some ⟨m.x.aQ,wr,rg,v⟩ else none:=fun k=>by
      rw[List.getElem?_set]
      by_cases e:d=k
      ·subst e;rw[if_pos rfl,if_pos (by omega),if_pos rfl];rfl
      ·rw[if_neg e,if_neg (fun hh=>e hh.symm)];exact hw0 k
     refine⟨h1,h.fw,aAr h.hw d _ _,fun i e t he ht=>?_,?_,fun hc=>?_,fun _=>⟨d,⟨m.x.aQ,wr,rg,v⟩,hlt,?_,hid.symm,fun k hk=>?_⟩⟩
     ·have Hh:((m.x.wt.set d (some ⟨m.x.aQ,wr,rg,v⟩))[i]?).join=some t:=ht
      rw[fK] at Hh
      by_cases e1:i=d
      ·rw[if_pos e1] at Hh;cases Hh;rw[e1,tS] at he;cases he;exact⟨r0,r1,v0,v1⟩
      ·rw[if_neg e1] at Hh;cases Hh
     ·have:=h.po
      show 0≤m.x.aQ+1∧m.x.aQ+1≤((n+1:Nat):Int)
      omega
     ·dsimp only at hc;rw[hp'] at hc;cases hc
     ·show((m.x.wt.set d (some ⟨m.x.aQ,wr,rg,v⟩))[d]?).join=_
      rw[fK,if_pos rfl]
     ·show((m.x.wt.set d (some ⟨m.x.aQ,wr,rg,v⟩))[k]?).join=_
      rw[fK,if_neg hk]
   ·exact same
  ·split
   ·rename_i hst
    split
    ·rename_i hp
     obtain⟨h1,h2,h3⟩:=aTy h.yJ h.fw hj hst hp;exact⟨h1,h2,h.hw,h.wt,by have:=h.po;dsimp only;omega,fun _=>h.w0 hp,fun hc=>by dsimp only at hc;rw[h3] at hc;cases hc⟩
    ·exact same
   ·exact same
theorem aBM{x:aM}:∀n:Nat,(∀k,k < n→(x.wt[k]?).join=none)→iB s x n=(x,[])
 | 0,_=>rfl
 | n+1,h=>by
  have ih:=aBM n fun k hk=>h k (by omega)
  have hx:=aBL (s:=s) (h n (by omega))
  show((jL s (iB s x n).1 n).1,(iB s x n).2++(jL s (iB s x n).1 n).2.toList)=_
  rw[ih];dsimp only;rw[hx];rfl
theorem aJD{x:aM}(hok:cM s x){i:Nat}{t:jD}(hi:i < s.aD.length)(ht:(x.wt[i]?).join=some t)(ho:∀k:Nat,k≠i→(x.wt[k]?).join=none):
  ∃a,(jL s x i).2=some a∧a.id=t.id∧a.dev=i∧∀d,iB s x (i+1+d)=((jL s x i).1,[a]):=by
 obtain⟨a,ha,lE⟩:=aEI hok hi ht;refine⟨a,ha,?_,?_,fun d=>?_⟩
 ·obtain⟨d,hd⟩:=get_some hi;obtain⟨p,hp⟩:=get_some (l:=x.dv) (i:=i) (by have:=hok.dv;omega);unfold jL at ha;rw[ht,hd,hp] at ha;dsimp only at ha;split at ha<;>cases ha<;>rfl
 ·obtain⟨d,hd⟩:=get_some hi;obtain⟨p,hp⟩:=get_some (l:=x.dv) (i:=i) (by have:=hok.dv;omega);unfold jL at ha;rw[ht,hd,hp] at ha;dsimp only at ha;split at ha<;>cases ha<;>rfl
 ·induction d with
  | zero=>
   show((jL s (iB s x i).1 i).1,(iB s x i).2++(jL s (iB s x i).1 i).2.toList)=_
   rw[aBM i fun k hk=>ho k (by omega)];dsimp only;rw[ha];rfl
  | succ d ih =>
   show((jL s (iB s x (i+1+d)).1 (i+1+d)).1,(iB s x (i+1+d)).2++(jL s (iB s x (i+1+d)).1 (i+1+d)).2.toList)=_
   rw[ih];dsimp only
   have hx:jL s (jL s x i).1 (i+1+d)=((jL s x i).1,none):=aBL (by
    rw[lE,List.getElem?_set,if_neg (by omega)]
    exact ho _ (by omega))
   rw[hx];rfl
theorem eO.ans(h:eO s n m)(cJ:Int):(m.z.aQ=false→(oK s m.x cJ).2=[])∧(m.z.aQ=true→∃a,(oK s m.x cJ).2=[a]∧a.id=m.z.id):=by
 refine⟨fun hp=>?_,fun hp=>?_⟩
 ·show(iB s m.x s.aD.length).2=[]
  rw[aBM _ fun k _=>h.w0 hp k]
 ·obtain⟨i,t,hi,ht,hid,ho⟩:=h.w1 hp;obtain⟨a,_,ha,_,hn⟩:=aJD h.hw hi ht ho;obtain⟨d,hd⟩:∃d,s.aD.length=i+1+d:=⟨s.aD.length - (i+1),by omega⟩
  refine⟨a,?_,ha.trans hid⟩
  show(iB s m.x s.aD.length).2=[a]
  rw[hd,hn d]
theorem eO.aLz(h:eO s n m)(cJ:Int):(m.tick s cJ).z.aQ=false:=by
 obtain⟨h1,h2⟩:=h.ans cJ
 show(xJ m.z (oK s m.x cJ).2).aQ=false
 cases hp:m.z.aQ with
 | false=>rw[h1 hp];exact hp
 | true=>
  obtain⟨a,h3,h4⟩:=h2 hp;rw[h3]
  show(Bo m.z a).aQ=false
  unfold Bo;rw[if_neg (by rw[hp];simp),if_neg (fun hc=>hc h4)];split<;>rfl
theorem aTi(s:aC)(x:aM)(i:Nat):(jL s x i).1.aQ=x.aQ:=by
 unfold jL;split
 ·split<;>rfl
 ·rfl
theorem aJC(s:aC)(x:aM):∀n,(iB s x n).1.aQ=x.aQ
 | 0=>rfl
 | n+1=>(aTi s _ n).trans (aJC s x n)
theorem eO.tick(hm:s.made)(h:eO s n m)(cJ:Int):eO s n (m.tick s cJ):=by
 obtain⟨a1,a2⟩:=Oc h.hw h.wt s.aD.length
 have hz:∀i:Nat,(((m.tick s cJ).x.wt)[i]?).join=none:=fun i=>by
  have:=aJB h.hw h.wt i
  show((iB s m.x s.aD.length).1.wt[i]?).join=none
  unfold iH at this;cases hh:((iB s m.x s.aD.length).1.wt[i]?).join with
  | none=>rfl
  | some t=>rw[hh] at this;simp at this
 refine⟨aJF _ h.yJ,h.fw,aGa hm.dJ a1 cJ,(fun i d t _ ht=>by rw[hz i] at ht;cases ht),?_,fun _=>hz,fun hp=>by rw[h.aLz cJ] at hp;cases hp⟩
 show 0≤(iB s m.x s.aD.length).1.aQ∧(iB s m.x s.aD.length).1.aQ≤n
 rw[aJC];exact h.po
end
def Jq(s:aC):dQ:=⟨Jf s,tT s,hw0 s⟩
theorem aOI{s:aC}(hm:s.made):eO s 0 (Jq s):=by
 have hx:=aHR hm.dJ
 have hw:∀i:Nat,((hw0 s).wt[i]?).join=none:=fun i=>by
  show((s.aD.map fun _=>(none:Option jD))[i]?).join=none
  rw[List.getElem?_map];cases s.aD[i]? <;>rfl
 exact⟨aM0,aQT hm.wY,hx,(fun i d t _ ht=>by
  have:=(hw i).symm.trans ht
  cases this),⟨Int.le_refl 0,Int.le_refl 0⟩,fun _=>hw,fun hp=>by cases hp⟩
theorem aBy{P:Program}{fn:FuncId}{args:Array Value}{w:World}{ps:List HP}(i:Nat){p p':HP}{v:Value}{F:Nat→Prop}(hi:ps[i]? =some p)(h:∀F0,p.sat F0 w→(∀b,F0 b→b < w.heap.size)→(∀b,F0 b→F b)→Calls P fn args w fun y w'=>y=.returned v∧∃F',p'.sat F' w'∧iE w w' F0 F')
  (hp:(HP.many ps).sat F w) (hF:∀b,F b→b < w.heap.size):Calls P fn args w fun y w'=>y=.returned v∧∃F',(HP.many (ps.set i p')).sat F' w'∧iE w w' F F':=by
 obtain⟨G,g1,g2,g3⟩:=hp
 have hlt:=(List.getElem?_eq_some_iff.1 hi).1
 refine(h (G i) (g1 i p hi) (fun b hb=>hF b (g2 i b hb)) (g2 i)).mono fun y w' ⟨hy,F',h1,ht⟩=>⟨hy,fun b=>F' b∨∃k,k≠i∧k < ps.length∧G k b,⟨fun k=>if k=i then F' else fun b=>k < ps.length∧G k b,fun k r hr=>?_,fun k b hb=>?_,fun j k b lG hj hk=>?_⟩,⟨ht.os,ht.tape,ht.output,ht.size,fun b hb=>?_,fun b hb hn=>?_⟩⟩
 ·by_cases e:i=k
  ·subst e;rw[List.getElem?_set_self hlt] at hr;cases hr
   simpa using h1
  ·rw[List.getElem?_set_ne e] at hr
   have hk:=(List.getElem?_eq_some_iff.1 hr).1
   simp only[if_neg (Ne.symm e)];rw[show(fun b=>k < ps.length∧G k b)=G k by funext b;simp[hk]];exact r.loc _ _ _ (g1 k r hr) fun b hb=>ht.old b (hF b (g2 k b hb)) fun h0=>g3 i k b e h0 hb
 ·dsimp only at hb;split at hb
  ·exact .inl hb
  ·exact .inr ⟨k,by assumption,hb.1,hb.2⟩
 ·have key:∀k b,k≠i→F' b→G k b→False:=fun k b hki h0 h2=>by
   rcases(ht.new b h0).1 with h3 | h3
   ·exact g3 i k b (Ne.symm hki) h3 h2
   ·have:=hF b (g2 k b h2)
    omega
  dsimp only at hj hk;split at hj<;>split at hk
  ·rename_i e1 e2;exact lG (e1.trans e2.symm)
  ·rename_i e1 e2;exact key k b e2 hj hk.2
  ·rename_i e1 e2;exact key j b e1 hk hj.2
  ·exact g3 j k b lG hj.2 hk.2
 ·rcases hb with hb | ⟨k,_,_,hb⟩
  ·refine⟨?_,(ht.new b hb).2⟩;rcases(ht.new b hb).1 with h3 | h3
   ·exact .inl (g2 i b h3)
   ·exact .inr h3
  ·exact⟨.inl (g2 k b hb),Nat.lt_of_lt_of_le (hF b (g2 k b hb)) ht.size⟩
 ·exact ht.old b hb fun h0=>hn (g2 i b h0)
theorem aOF{a b c:HP}{F:Nat→Prop}{w:World}(h:(HP.many [a,b,c]).sat F w):(HP.many [a,HP.many [b,c]]).sat F w:=by
 obtain⟨G,g1,g2,g3⟩:=h
 have h1:=g1 1 b rfl
 have h2:=g1 2 c rfl
 have key:∀k,k < 3→(fun b=>k < 3∧G k b)=G k:=fun k hk=>by funext b;simp[hk]
 refine⟨fun i=>match i with | 0=>G 0 | 1=>fun b=>G 1 b∨G 2 b | _=>fun _=>False,fun i p hi=>?_,fun i b hb=>?_,fun i j b hij hi hj=>?_⟩
 ·match i,hi with
  | 0,hi=>cases hi;exact g1 0 _ rfl
  | 1, hi =>
   cases hi;refine⟨fun i=>match i with | 0=>G 1 | 1=>G 2 | _=>fun _=>False,fun i p hi=>?_,fun i b hb=>?_,fun i j b hij hi hj=>?_⟩
   ·match i,hi with
    | 0,hi=>cases hi;exact h1
    | 1,hi=>cases hi;exact h2
    | i+2,hi=>simp at hi
   ·match i,hb with
    | 0,hb=>exact .inl hb
    | 1,hb=>exact .inr hb
    | i+2,hb=>exact hb.elim
   ·match i,j,hi,hj with
    | 0,0,_,_=>exact absurd rfl hij
    | 0,1,hi,hj=>exact g3 1 2 b (by decide) hi hj
    | 1,0,hi,hj=>exact g3 2 1 b (by decide) hi hj
    | 1,1,_,_=>exact absurd rfl hij
    | i+2,_,hi,_=>exact hi.elim
    | _,j+2,_,hj=>exact hj.elim
  | i+2,hi=>simp at hi
 ·match i,hb with
  | 0,hb=>exact g2 0 b hb
  | 1,hb=>rcases hb with hb | hb<;>exact g2 _ b hb
  | i+2,hb=>exact hb.elim
 ·match i,j,hi,hj with
  | 0,0,_,_=>exact absurd rfl hij
  | 0,1,hi,hj=>rcases hj with hj | hj<;>exact g3 _ _ b (by decide) hi hj
  | 1,0,hi,hj=>rcases hi with hi | hi<;>exact g3 _ _ b (by decide) hi hj
  | 1,1,_,_=>exact absurd rfl hij
  | i+2,_,hi,_=>exact hi.elim
  | _,j+2,_,hj=>exact hj.elim
theorem aOE{a b c:HP}{F:Nat→Prop}{w:World}(h:(HP.many [a,HP.many [b,c]]).sat F w):(HP.many [a,b,c]).sat F w:=by
 obtain⟨G,g1,g2,g3⟩:=h;obtain⟨I,i1,i2,i3⟩:=g1 1 _ rfl;refine⟨fun i=>match i with | 0=>G 0 | 1=>I 0 | 2=>I 1 | _=>fun _=>False,fun i p hi=>?_,fun i b hb=>?_,fun i j b hij hi hj=>?_⟩
 ·match i,hi with
  | 0,hi=>cases hi;exact g1 0 _ rfl
  | 1,hi=>cases hi;exact i1 0 _ rfl
  | 2,hi=>cases hi;exact i1 1 _ rfl
  | i+3,hi=>simp at hi
 ·match i,hb with
  | 0,hb=>exact g2 0 b hb
  | 1,hb=>exact g2 1 b (i2 0 b hb)
  | 2,hb=>exact g2 1 b (i2 1 b hb)
  | i+3,hb=>exact hb.elim
 ·match i,j,hi,hj with
  | 0,0,_,_ | 1,1,_,_ | 2,2,_,_=>exact absurd rfl hij
  | 0,1,hi,hj=>exact g3 0 1 b (by decide) hi (i2 0 b hj)
  | 0,2,hi,hj=>exact g3 0 1 b (by decide) hi (i2 1 b hj)
  | 1,0,hi,hj=>exact g3 0 1 b (by decide) hj (i2 0 b hi)
  | 2,0,hi,hj=>exact g3 0 1 b (by decide) hj (i2 1 b hi)
  | 1,2,hi,hj=>exact i3 0 1 b (by decide) hi hj
  | 2,1,hi,hj=>exact i3 0 1 b (by decide) hj hi
  | i+3,_,hi,_=>exact hi.elim
  | _,j+3,_,hj=>exact hj.elim
def nU(g f:Nat)(hL:HL)(s:aC)(m:dQ):HP:=aCk g f hL s m.z m.y m.x
def aFd(g f:Nat)(hL:HL)(s:aC)(m:dQ)(l:List mY)(a:Option Addr×Nat):HP:=HP.many [nU g f hL s m,HP.own 143 4 (.slice a.1 l.length a.2) l.length (l.flatMap mY.cells)]
section
variable(g f:Nat)(hL:HL)(s:aC)(n:Nat)(m:dQ)(w:World)(F:Nat→Prop)
theorem aO8(t k d r v:Int)(hp:(nU g f hL s m).sat F w)(hF:∀b,F b→b < w.heap.size):
  Cz 17 #[pt g,iv t,.agg #[.int .u8 k,iv d,iv r,.int .u32 v]] w (Wr (iv (vN m.z t k d r v).1) (nU g f hL s (m.start t k d r v)) w F):=
 aBy 0 rfl (fun F0 h1 h2 _=>aG9 g hL.h f s m.z w F0 t k d r v h1 h2) hp hF
theorem aOA(t:Int)(hp:(nU g f hL s m).sat F w)(hF:∀b,F b→b < w.heap.size):
  Cz 23 #[pt g,iv t] w (Wr (.tuple #[.agg #[iv (nG m.z t).1.1,.int .u32 (nG m.z t).1.2.1],.bool (nG m.z t).1.2.2]) (nU g f hL s (m.done t)) w F):=
 aBy 0 rfl (fun F0 h1 h2 _=>aGA g hL.h f s m.z w F0 t h1 h2) hp hF
theorem aO6(hm:s.made)(aW:iU hL s)(hok:eO s n m)(hn:n≤1000000000)(t:Int)(hp:(nU g f hL s m).sat F w)(hF:∀b,F b→b < w.heap.size)(fD:kM ⟨w,fun b=>b < w.heap.size∧¬F b⟩):
  Cz 19 #[pt g,iv t] w (Wr (.tuple #[]) (nU g f hL s (m.step s t)) w F):=
 aMw g f hL s m.z m.y m.x w F t hm aW (fun hh=>hok.idle (hok.free hh) hn) (hok.yJ.go hok.fw.toFwB) hp hF fD
theorem aO9(hm:s.made)(aW:iU hL s)(hok:eO s n m)(hp:(nU g f hL s m).sat F w)(hF:∀b,F b→b < w.heap.size)(fD:kM ⟨w,fun b=>b < w.heap.size∧¬F b⟩):
  Cz 20 #[pt f] w (Wr (.tuple #[]) (nU g f hL s (m.eZ s)) w F):=
 (aBy 1 rfl (fun F0 h1 h2 h3=>aQH f hL s m.y m.x w hm.dJ aW (hok.fw.step hok.hw) F0 h1 h2 (kM.le fD fun b hb=>⟨⟨hb.1,fun h0=>hb.2 (h3 b h0)⟩,rfl⟩)) (aOF hp) hF).mono fun _ _ ⟨hy,F',h1,h2⟩=>⟨hy,F',aOE h1,h2⟩
theorem aO5(hm:s.made)(aW:iU hL s)(hok:eO s n m)(cJ:Int)(hd:0≤cJ∧cJ < 4294967296)(hp:(nU g f hL s m).sat F w)(hF:∀b,F b→b < w.heap.size):
  Cz 22 #[.pointer (some ⟨hL.h,0,none⟩),.int .u32 cJ] w (fun y w'=>∃a:Option Addr×Nat,y=.returned (.slice a.1 (oK s m.x cJ).2.length a.2)∧True∧∃F',(aFd g f hL s ⟨m.z,m.y,(oK s m.x cJ).1⟩ (oK s m.x cJ).2 a).sat F' w'∧iE w w' F F'):=by
 obtain⟨G,g1,g2,g3⟩:=hp
 have hG:∀i b,G i b→b < w.heap.size:=fun i b hb=>hF b (g2 i b hb)
 have h0:=g1 0 _ rfl
 have h1:=g1 1 _ rfl
 refine(aPN hL s m.x w hm.dJ aW hok.hw hok.wt cJ hd (G 2) (g1 2 _ rfl) (hG 2)).mono fun y w' ⟨a,hy,_,F',⟨I,i1,i2,i3⟩,ht⟩=>⟨a,hy,trivial,fun b=>F' b∨G 0 b∨G 1 b,⟨fun i=>match i with | 0=>fun b=>I 0 b∨G 0 b∨G 1 b | 1=>I 1 | _=>fun _=>False,fun i p hi=>?_,fun i b hb=>?_,fun i j b hij hi hj=>?_⟩,⟨ht.os,ht.tape,ht.output,ht.size,fun b hb=>?_,fun b hb hn=>?_⟩⟩
 ·have old:∀i,i≠2→∀b,G i b→w'.heap[b]? =w.heap[b]? :=fun i hi b hb=>ht.old b (hG i b hb) fun h=>g3 2 i b (Ne.symm hi) h hb
  have fr:∀i,i≠2→∀b,F' b→¬G i b:=fun i hi b hb hc=>by
   rcases(ht.new b hb).1 with h | h
   ·exact g3 2 i b (Ne.symm hi) h hc
   ·have:=hG i b hc
    omega
  match i,hi with
  | 0, hi =>
   cases hi;refine⟨fun i=>match i with | 0=>G 0 | 1=>G 1 | 2=>I 0 | _=>fun _=>False,fun i p hi=>?_,fun i b hb=>?_,fun i j b hij hi hj=>?_⟩
   ·match i,hi with
    | 0,hi=>cases hi;exact HP.loc _ _ _ _ h0 (old 0 (by decide))
    | 1,hi=>cases hi;exact HP.loc _ _ _ _ h1 (old 1 (by decide))
    | 2,hi=>cases hi;exact i1 0 _ rfl
    | i+3,hi=>simp at hi
   ·match i,hb with
    | 0,hb=>exact .inr (.inl hb)
    | 1,hb=>exact .inr (.inr hb)
    | 2,hb=>exact .inl hb
    | i+3,hb=>exact hb.elim
   ·match i,j,hi,hj with
    | 0,0,_,_ | 1,1,_,_ | 2,2,_,_=>exact absurd rfl hij
    | 0,1,hi,hj=>exact g3 0 1 b (by decide) hi hj
    | 1,0,hi,hj=>exact g3 1 0 b (by decide) hi hj
    | 0,2,hi,hj=>exact fr 0 (by decide) b (i2 0 b hj) hi
    | 2,0,hi,hj=>exact fr 0 (by decide) b (i2 0 b hi) hj
    | 1,2,hi,hj=>exact fr 1 (by decide) b (i2 0 b hj) hi
    | 2,1,hi,hj=>exact fr 1 (by decide) b (i2 0 b hi) hj
    | i+3,_,hi,_=>exact hi.elim
    | _,j+3,_,hj=>exact hj.elim
  | 1,hi=>cases hi;exact i1 1 _ rfl
  | i+2,hi=>simp at hi
 ·match i,hb with
  | 0,hb=>
   rcases hb with hb | hb
   ·exact .inl (i2 0 b hb)
   ·exact .inr hb
  | 1,hb=>exact .inl (i2 1 b hb)
  | i+2,hb=>exact hb.elim
 ·have fr:∀i,i≠2→∀b,F' b→¬G i b:=fun i hi b hb hc=>by
   rcases(ht.new b hb).1 with h | h
   ·exact g3 2 i b (Ne.symm hi) h hc
   ·have:=hG i b hc
    omega
  match i,j,hi,hj with
  | 0,0,_,_ | 1,1,_,_=>exact absurd rfl hij
  | 0,1,hi,hj=>
   rcases hi with hi | hi | hi
   ·exact i3 0 1 b (by decide) hi hj
   ·exact fr 0 (by decide) b (i2 1 b hj) hi
   ·exact fr 1 (by decide) b (i2 1 b hj) hi
  | 1,0,hi,hj=>
   rcases hj with hj | hj | hj
   ·exact i3 0 1 b (by decide) hj hi
   ·exact fr 0 (by decide) b (i2 1 b hi) hj
   ·exact fr 1 (by decide) b (i2 1 b hi) hj
  | i+2,_,hi,_=>exact hi.elim
  | _,j+2,_,hj=>exact hj.elim
 ·rcases hb with hb | hb | hb
  ·refine⟨?_,(ht.new b hb).2⟩;rcases(ht.new b hb).1 with h | h
   ·exact .inl (g2 2 b h)
   ·exact .inr h
  ·exact⟨.inl (g2 0 b hb),Nat.lt_of_lt_of_le (hG 0 b hb) ht.size⟩
  ·exact⟨.inl (g2 1 b hb),Nat.lt_of_lt_of_le (hG 1 b hb) ht.size⟩
 ·exact ht.old b hb fun h=>hn (g2 2 b h)
theorem aOB(hok:qO s m.z)(l:List mY)(hl:l.length≤1000)(a:Option Addr×Nat)(hp:(aFd g f hL s m l a).sat F w)(hF:∀b,F b→b < w.heap.size):
  Cz 21 #[pt g,.slice a.1 l.length a.2] w (Wr (.tuple #[]) (nU g f hL s ⟨xJ m.z l,m.y,m.x⟩) w F):=by
 obtain⟨G,g1,g2,g3⟩:=hp
 have hG:∀i b,G i b→b < w.heap.size:=fun i b hb=>hF b (g2 i b hb)
 obtain⟨A,c,hv,hs⟩:=vC (Y:=G 1) (g1 1 _ rfl) (fun b hb=>hb)
 injection hv with Mp hv2 hv3
 subst Mp;refine(aBy 0 rfl (p':=gE g hL.h f s (xJ m.z l)) (v:=.tuple #[]) (fun F0 h1 h2 h3=>aM6 g hL.h f s m.z w F0 a.1 a.2 l hl hok.po h1 h2 (hs.le fun b hb=>⟨⟨hG 1 b hb,fun h0=>g3 0 1 b (by decide) (h3 b h0) hb⟩,rfl⟩)) (g1 0 _ rfl) (hG 0)).mono fun y w' ⟨hy,F',h1,ht⟩=>⟨hy,F',h1,⟨ht.os,ht.tape,ht.output,ht.size,fun b hb=>?_,fun b hb hn=>ht.old b hb fun h=>hn (g2 0 b h)⟩⟩
 refine⟨?_,(ht.new b hb).2⟩;rcases(ht.new b hb).1 with h | h
 ·exact .inl (g2 0 b h)
 ·exact .inr h
end
end
section
def Ec(s:aC)(X:bJ)(p:cY):Prop:=
 (∃i:Nat,p=⟨17,4,i,1⟩∧i < s.domains.length∧hasB X.d i=false∧∀d,s.domains[i]? =some d→0≤d.above→hasB X.d d.above.toNat=true)∨
 (∃i:Nat,p=⟨20,7,i,1⟩∧i < s.aF.length∧mL s i=true∧hasB X.c i=false∧∀j∈fU s i,j≠i→mL s j=true→hasB X.c j=true)∨
 (∃i:Nat,p=⟨22,4,i,0⟩∧i < s.aT.length∧hasB X.l i=false)∨
 (∃i:Nat,p=⟨20,7,i,0⟩∧i < s.aF.length∧mL s i=true∧hasB X.c i=true∧∀j:Nat,j≠i→hasB X.c j=true→i∉fU s j)∨
 (∃i:Nat,p=⟨17,4,i,lB s i⟩∧i < s.domains.length∧hasB X.d i=true∧∀(j:Nat) d,s.domains[j]? =some d→d.above=(i:Int)→hasB X.d j=false)
section
variable{s:aC}{x y:bJ}
theorem aTu(hm:s.made)(hx:x.cl s)(hy:y.cl s)(hxy:∀i,hasB x.l i=true→hasB y.l i=true){k:Nat}{p:cY}(hk:(allM s x y)[k]? =some p):Ec s (((allM s x y).take k).foldl gP x) p:=by
 have jR:=aQD (L:=(allM s x y).take k) hx.of
 unfold allM tY at hk jR⊢;rcases Zb hk with⟨h1,h2⟩ | ⟨t1,h1,h2⟩
 ·
  obtain⟨i,hi,rfl,ht⟩:=Qb h1;rw[h2,ht,Sc] at jR⊢
  have hmem:=xA.1 (List.mem_of_getElem? hi)
  have nP:=aA1 (aAN s.domains.length x.d y.d) hi
  have nC:=vL.1 hmem.2
  have Bd:∀j,j < s.domains.length→hasB ((List.take k (eW (List.range s.domains.length) x.d y.d)).foldl (fun d (i:Nat)=>gX d (i:Int) true) x.d) j=if j∈List.take k (eW (List.range s.domains.length) x.d y.d) then true else hasB x.d j:=fun j hj=>has_fold _ _ _ _ (by rw[hx.of.d];exact hj)
  refine .inl ⟨i,rfl,hmem.1,?_,fun d hd h0=>?_⟩
  ·dsimp only;rw[Bd i hmem.1,if_neg (fun h=>by have:=((nP i).1 h).2;omega),nC.2]
  ·dsimp only
   have hfit:=(hm.domains i d hd).1
   have ha:d.above.toNat < s.domains.length:=by omega
   rw[Bd _ ha]
   have hya:=hy.up i d nC.1 hd h0
   split
   ·rfl
   ·rename_i hnot
    cases hxa:hasB x.d d.above.toNat with
    | true=>rfl
    | false=>exact absurd ((nP d.above.toNat).2 ⟨xA.2 ⟨ha,vL.2 ⟨hya,hxa⟩⟩,by omega⟩) hnot
 ·rcases Zb h1 with⟨h3,h4⟩ | ⟨t2,h3,h4⟩
  ·
   obtain⟨i,hi,rfl,ht⟩:=Qb h3;rw[h2,h4,ht,List.foldl_append,Sc,Yd] at jR⊢
   have hmem:=xA.1 (List.mem_of_getElem? hi)
   have nP:=aA1 (aAN s.aF.length x.c y.c) hi
   have nC:=vL.1 hmem.2
   have Bd:∀j,j < s.aF.length→hasB ((List.take t1 (eW (List.range s.aF.length) x.c y.c)).foldl (fun d (i:Nat)=>gX d (i:Int) true) x.c) j=if j∈List.take t1 (eW (List.range s.aF.length) x.c y.c) then true else hasB x.c j:=fun j hj=>has_fold _ _ _ _ (by rw[hx.of.c];exact hj)
   refine .inr (.inl ⟨i,rfl,hmem.1,hy.sw i nC.1,?_,fun j hj hji hjs=>?_⟩)
   rotate_left
   ·dsimp only
    have hjl:j < s.aF.length:=aBC hj
    have hle:=aBD hm hj
    rw[Bd j hjl]
    have Mn:=hy.ch i j nC.1 hj hjs
    split
    ·rfl
    ·rename_i hnot
     cases yM:hasB x.c j with
     | true=>rfl
     | false=>exact absurd ((nP j).2 ⟨xA.2 ⟨hjl,vL.2 ⟨Mn,yM⟩⟩,by omega⟩) hnot
   dsimp only;rw[has_fold _ _ _ _ (by rw[hx.of.c];exact hmem.1),if_neg (fun h=>by have:=((nP i).1 h).2;omega),nC.2]
  ·rcases Zb h3 with⟨h5,h6⟩ | ⟨t3,h5,h6⟩
   ·
    obtain⟨i,hi,rfl,ht⟩:=Qb h5;rw[h2,h4,h6,ht,List.foldl_append,List.foldl_append,Sc,Yd,aB0] at jR⊢
    have hmem:=xA.1 (List.mem_of_getElem? hi)
    have nP:=aA1 (aAN s.aT.length x.l y.l) hi
    have nC:=vL.1 hmem.2
    refine .inr (.inr (.inl ⟨i,rfl,hmem.1,?_⟩));dsimp only;rw[has_fold _ _ _ _ (by rw[hx.of.l];exact hmem.1),if_neg (fun h=>by have:=((nP i).1 h).2;omega),nC.2]
   ·rcases Zb h5 with⟨h7,h8⟩ | ⟨t4,h7,h8⟩
    ·
     obtain⟨i,hi,rfl,ht⟩:=Qb h7;rw[h2,h4,h6,h8,ht,List.foldl_append,List.foldl_append,List.foldl_append,Sc,Yd,aB0,aEn] at jR⊢
     have hmem:=xA.1 (List.mem_of_getElem? hi)
     have nP:=aA1 (aAN s.aT.length y.l x.l) hi
     have nC:=vL.1 hmem.2
     exact absurd (hxy i nC.1) (by rw[nC.2];simp)
    ·rcases Zb h7 with⟨h9,h10⟩ | ⟨t5,h9,h10⟩
     ·
      obtain⟨i,hi,rfl,ht⟩:=Qb h9;rw[h2,h4,h6,h8,h10,ht,List.foldl_append,List.foldl_append,List.foldl_append,List.foldl_append,Sc,Yd,aB0,aEn,aIK] at jR⊢
      have hmem:=Jo.1 (List.mem_of_getElem? hi)
      have Wg:=aGg (aH4 s.aF.length y.c x.c) hi
      have nC:=vL.1 hmem.2
      have Bd:∀j,j < s.aF.length→hasB ((List.take t4 (eW (List.range s.aF.length).reverse y.c x.c)).foldl (fun d (i:Nat)=>gX d (i:Int) false) ((eW (List.range s.aF.length) x.c y.c).foldl (fun d (i:Nat)=>gX d (i:Int) true) x.c)) j=if j∈List.take t4 (eW (List.range s.aF.length).reverse y.c x.c) then false else if j∈eW (List.range s.aF.length) x.c y.c then true else hasB x.c j:=fun j hj=>by
       rw[has_fold _ _ _ _ (by rw[aAI,hx.of.c];exact hj),has_fold _ _ _ _ (by rw[hx.of.c];exact hj)]
      refine .inr (.inr (.inr (.inl ⟨i,rfl,hmem.1,hx.sw i nC.1,?_,fun j hji hj kC=>?_⟩)))
      ·dsimp only;rw[Bd i hmem.1,if_neg (fun h=>by have:=((Wg i).1 h).2;omega)];split
       ·rfl
       ·exact nC.1
      ·dsimp only at hj
       have hjl:=Rw hj
       rw[aAI,aAI,hx.of.c] at hjl;rw[Bd j hjl] at hj
       have hle:=aBD hm kC
       have Mn:hasB y.c j=true:=by
        split at hj
        ·cases hj
        ·rename_i hnot
         split at hj
         ·rename_i lS;exact(vL.1 (xA.1 lS).2).1
         ·cases Mn:hasB y.c j with
          | true=>rfl
          | false=>exact absurd ((Wg j).2 ⟨Jo.2 ⟨hjl,vL.2 ⟨hj,Mn⟩⟩,by omega⟩) hnot
       have:=hy.ch j i Mn kC (hx.sw i nC.1)
       rw[nC.2] at this;cases this
     ·
      obtain⟨i,hi,rfl,ht⟩:=Qb h9;rw[h2,h4,h6,h8,h10,ht,List.foldl_append,List.foldl_append,List.foldl_append,List.foldl_append,List.foldl_append,Sc,Yd,aB0,aEn,aIK,aQY] at jR⊢
      have hmem:=Jo.1 (List.mem_of_getElem? hi)
      have Wg:=aGg (aH4 s.domains.length y.d x.d) hi
      have nC:=vL.1 hmem.2
      have Bd:∀j,j < s.domains.length→hasB ((List.take t5 (eW (List.range s.domains.length).reverse y.d x.d)).foldl (fun d (i:Nat)=>gX d (i:Int) false) ((eW (List.range s.domains.length) x.d y.d).foldl (fun d (i:Nat)=>gX d (i:Int) true) x.d)) j=if j∈List.take t5 (eW (List.range s.domains.length).reverse y.d x.d) then false else if j∈eW (List.range s.domains.length) x.d y.d then true else hasB x.d j:=fun j hj=>by
       rw[has_fold _ _ _ _ (by rw[aAI,hx.of.d];exact hj),has_fold _ _ _ _ (by rw[hx.of.d];exact hj)]
      refine .inr (.inr (.inr (.inr ⟨i,rfl,hmem.1,?_,fun j d hd hab=>?_⟩)))
      ·dsimp only;rw[Bd i hmem.1,if_neg (fun h=>by have:=((Wg i).1 h).2;omega)];split
       ·rfl
       ·exact nC.1
      ·dsimp only
       have hjl:=(List.getElem?_eq_some_iff.1 hd).1
       have hfit:=(hm.domains j d hd).1
       rw[Bd j hjl];split
       ·rfl
       ·rename_i hnot
        have key:hasB y.d j=false:=by
         cases Mn:hasB y.d j with
         | false=>rfl
         | true=>
          have:=hy.up j d Mn hd (by omega)
          rw[show d.above.toNat=i by omega,nC.2] at this;cases this
        split
        ·rename_i lS
         have:=(vL.1 (xA.1 lS).2).1
         rw[key] at this;cases this
        ·cases yM:hasB x.d j with
         | false=>rfl
         | true=>exact absurd ((Wg j).2 ⟨Jo.2 ⟨hjl,vL.2 ⟨yM,key⟩⟩,by omega⟩) hnot
theorem aGi{i:Nat}(h:mL s i=true):qV s i:=by
 unfold mL at h;unfold qV kindOf;cases hc:s.aF[i]? with
 | none=>rw[hc] at h;cases h
 | some c=>rw[hc] at h;exact of_decide_eq_true h
theorem aK1{i:Nat}(h:qV s i):mL s i=true:=by
 unfold qV kindOf at h;unfold mL;cases hc:s.aF[i]? with
 | none=>rw[hc] at h;exact absurd h (by simp)
 | some c=>rw[hc] at h;exact decide_eq_true h
theorem Ec.goes(hm:s.made){X:bJ}{p:cY}(h:Ec s X p)(jR:X.of s):Ty s X p 0:=by
 rcases h with⟨i,rfl,h1,h2,h3⟩ | ⟨i,rfl,h1,h2,h3,_⟩ | ⟨i,rfl,h1,h2⟩ | ⟨i,rfl,h1,h2,h3,h4⟩ | ⟨i,rfl,h1,h2,h3⟩
 ·exact aQw hm jR (by decide) h1 h2 h3
 ·exact aQu hm jR (by decide) h1 h2 h3
 ·exact aQt hm jR (by decide) h1 h2
 ·exact aQv hm jR (by decide) h1 h2 h3 h4
 ·exact aQx hm jR (by decide) h1 h2 h3
section
variable{X:bJ}{h:aM}
theorem aQ1(hm:s.made)(hi:Inv s X none none none h){c:Nat}{ck:eD}(hc:s.aF[c]? =some ck)(lT:qV s c)(hsrc:∀j∈fU s c,j≠c→qV s j→hasB X.c j=true)(hh:hasB X.c c=false):∃x',wJ s 99 c (8+1) h x'∧Inv s (wsC X c) none none none x':=by
 have hlt:=(List.getElem?_eq_some_iff.1 hc).1
 have hX:=hi.of
 have gZ:c < X.c.length:=by rw[hX.c];exact hlt
 have iZ:∀j,hasB (wsC X c).c j=if j=c then true else hasB X.c j:=fun j=>Rv gZ j
 have hXc:hasB (wsC X c).c c=true:=by rw[iZ,if_pos rfl]
 have hinv:Inv s (wsC X c) none (some c) none h:=by
  refine⟨hi.ok,hi.wt,⟨hX.d,by show(kS _ _ _).length=_;rw[Cr];exact hX.c,hX.l⟩,hi.dom,fun i ci y sD hy hx hb=>?_,fun i hx j hj hsj=>?_,fun c' Bf i hx hne hmem=>?_,hi.tO,hi.qX⟩
  ·have hid:i≠c:=fun h=>hb (by rw[h])
   rw[iZ,if_neg hid] at hx;exact hi.jK i ci y sD hy hx (by simp)
  ·rw[iZ]
   by_cases Rn:j=c
   ·rw[if_pos Rn]
   ·rw[if_neg Rn];rw[iZ] at hx
    by_cases hic:i=c
    ·subst hic;exact hsrc j hj Rn hsj
    ·rw[if_neg hic] at hx;exact hi.sG i hx j hj hsj
  ·cases Bf;rw[iZ,if_neg hne] at hx
   have:=hi.sG i hx c hmem lT
   rw[hh] at this;cases this
 obtain⟨y,hy⟩:=get_some (l:=h.ck) (i:=c) (by have:=hi.ok.ck.len;omega)
 have hyl:=hi.ok.ck.left y (List.mem_of_getElem? hy)
 exact aG6 hm hc lT hXc (8+1) h y hinv hy (by omega)
def aFK(X:bJ)(c:Nat):bJ:=⟨X.d,kS X.c c false,X.l⟩
theorem aQ0(hm:s.made)(hi:Inv s X none none none h){c:Nat}{ck:eD}(hc:s.aF[c]? =some ck)(lT:qV s c)(hno:∀j:Nat,j≠c→hasB X.c j=true→c∉fU s j):∃x',wJ s 111 c (8+1) h x'∧Inv s (aFK X c) none none none x':=by
 have hlt:=(List.getElem?_eq_some_iff.1 hc).1
 have hX:=hi.of
 have gZ:c < X.c.length:=by rw[hX.c];exact hlt
 have iZ:∀j,hasB (aFK X c).c j=if j=c then false else hasB X.c j:=fun j=>aIy gZ j
 obtain⟨y,hy⟩:=get_some (l:=h.ck) (i:=c) (by have:=hi.ok.ck.len;omega)
 have hly:=(List.getElem?_eq_some_iff.1 hy).1
 have hyl:=hi.ok.ck.left y (List.mem_of_getElem? hy)
 have aBm:ck.kind=112∨ck.kind=103:=by rw[←Jr hc];exact lT
 have sB:(lC s h.ck (c:Int) false).2=h.ck.set c (Gz ck y false):=by
  unfold lC;rw[show bO s.aF.length (c:Int)=true from decide_eq_true (by omega)];simp only[Bool.true_eq_false,if_false,Int.toNat_natCast,hc,hy];rw[if_neg (by omega)]
 have yT:qS s (h.ck.set c (Gz ck y false)):=sB▸Vp hm.dJ hi.ok.ck (c:Int) false
 refine⟨{h with ck:=h.ck.set c (Gz ck y false)},aA6 hi.ok (by unfold mJ;rw[if_neg (by decide),if_neg (by decide),if_neg (by decide),if_neg (by decide),if_pos rfl,sB]),?_⟩;refine⟨⟨yT,hi.ok.dm,hi.ok.ln,hi.ok.dv,hi.ok.each,hi.ok.wt⟩,hi.wt,⟨hX.d,by show(kS _ _ _).length=_;rw[Cr];exact hX.c,hX.l⟩,hi.dom,fun i ci y' sD hy' hx hb=>?_,fun i hx j hj hsj=>?_,(fun _ h=>by cases h),hi.tO,hi.qX⟩
 ·rw[iZ] at hx
  by_cases hic:i=c
  ·rw[if_pos hic] at hx;cases hx
  ·rw[if_neg hic] at hx;dsimp only at hy';rw[List.getElem?_set_ne (Ne.symm hic)] at hy';exact hi.jK i ci y' sD hy' hx (by simp)
 ·rw[iZ] at hx⊢
  by_cases hic:i=c
  ·rw[if_pos hic] at hx;cases hx
  ·rw[if_neg hic] at hx;rw[if_neg (fun e:j=c=>hno i hic hx (e▸hj))];exact hi.sG i hx j hj hsj
theorem aG1{k id:Int}:∀(n:Nat) {x x':aM},aAd s (fun x=>mJ s x k id) n x x'→wJ s k id n x x'
 | 0,_,_,h=>h.elim
 | n+1,x,x',⟨h0,.inl h⟩=>⟨h0,.inl h⟩
 | n+1,x,x',⟨h0,.inr ⟨x1,h1,h2,h3,h4⟩⟩=>⟨h0,.inr ⟨x1,h1,h2,h3,aG1 n h4⟩⟩
theorem Ec.run(hm:s.made){p:cY}(hg:Ec s X p)(hi:Inv s X none none none h):∃(N:Nat) (x':aM),N≤9∧wJ s (qY p) p.id N h x'∧Inv s (gP X p) none none none x'∧Eb s (qY p) p.id:=by
 have hdone:=(hg.goes hm hi.of).done
 rcases hg with⟨i,rfl,h1,h2,h3⟩ | ⟨i,rfl,h1,h2,h3,h4⟩ | ⟨i,rfl,h1,h2⟩ | ⟨i,rfl,h1,h2,h3,h4⟩ | ⟨i,rfl,h1,h2,h3⟩
 ·obtain⟨d,hd⟩:=get_some h1
  have hfit:=(hm.domains i d hd).1
  obtain⟨x',r1,r2⟩:=aQy hm hi hd (by
   by_cases h0:0≤d.above
   ·exact .inr ⟨h0,h3 d hd h0⟩
   ·exact .inl (by omega)) h2
  exact⟨9,x',by omega,r1,hdone▸r2,⟨.inl rfl,fun h=>absurd h (by show ¬(117:Int)=99;decide)⟩⟩
 ·obtain⟨c,hc⟩:=get_some h1;obtain⟨x',r1,r2⟩:=aQ1 hm hi hc (aGi h2) (fun j hj hji hjs=>h4 j hj hji (aK1 hjs)) h3;exact⟨9,x',by omega,r1,hdone▸r2,⟨.inr (.inl rfl),fun _=>⟨by show(0:Int)≤(i:Int);omega,by show(i:Int) < _;omega⟩⟩⟩
 ·obtain⟨x',r1,r2⟩:=aQz hm hi h1 h2;exact⟨9,x',by omega,r1,hdone▸r2,⟨.inr (.inr (.inl rfl)),fun h=>absurd h (by show ¬(114:Int)=99;decide)⟩⟩
 ·obtain⟨c,hc⟩:=get_some h1;obtain⟨x',r1,r2⟩:=aQ0 hm hi hc (aGi h2) h4;exact⟨9,x',by omega,r1,hdone▸r2,⟨.inr (.inr (.inr (.inr (.inr (.inl rfl))))),fun h=>absurd h (by show ¬(111:Int)=99;decide)⟩⟩
 ·obtain⟨d,hd⟩:=get_some h1
  have hk:qY ⟨17,4,i,lB s i⟩=if d.ret then 107 else 100:=by
   simp only[qY,lB,hd,Option.map_some,Option.getD_some];cases d.ret<;>simp
  have hk2:qY ⟨17,4,i,lB s i⟩=100∨qY ⟨17,4,i,lB s i⟩=107:=by
   rw[hk];split
   ·exact .inr rfl
   ·exact .inl rfl
  obtain⟨N,x',r0,r1,r2,_⟩:=aMm hm hd d.ret (fun h=>h) hi h2 h3;refine⟨N,x',by omega,aG1 N ?_,?_,⟨by rcases hk2 with h | h<;>rw[h]<;>simp,fun h=>absurd h (by rcases hk2 with h | h<;>rw[h]<;>decide)⟩⟩
  ·have he:(fun x=>mJ s x (qY ⟨17,4,i,lB s i⟩) (i:Int))=fun x=>qE s x (i:Int) d.ret:=by
    funext x
    rw[hk];unfold mJ;cases d.ret<;>simp
   show aAd s (fun x=>mJ s x (qY ⟨17,4,i,lB s i⟩) (i:Int)) N h x'
   rw[he];exact r1
  ·have:jY X 0 (qY ⟨17,4,i,lB s i⟩) (i:Int)=Ug X i:=by
    rw[hk];cases d.ret<;>rfl
   rw[←hdone,show(cY.mk 17 4 (i:Int) (lB s i)).id=(i:Int) from rfl,this];exact r2
end
end
end
section
theorem aFp{q q2:Piece}{g:List (List Int)}{vs:List Value}{A:Option Addr}{n c:Nat}(h:Rows (qP (fF q)) 1 g (vs.map fun v=>[v]))(hl:q.Le q2)(h1:∃F,(HP.own 22 1 (.slice A n c) n vs).sat F q2.w∧∀b,F b→q2.Z b)(hn:n=g.length):mX q2 A n g:=by
 obtain⟨F,hs,hz⟩:=h1;refine⟨_,h.mono (fun _ _=>qP.mono (nW hl)),hn,?_⟩;rw[show(vs.map fun v=>[v]).flatten=vs by clear h hs;induction vs<;>simp_all];obtain⟨A',c',e,hS⟩:=vC (Y:=q2.Z) hs hz
 injection e with e1 e2 e3
 subst e1;exact hS
theorem aMV(s:aC)(A1 A2 A3 A4:Option Addr)(n1 k1 n2 k2 n3 k3 n4 k4:Nat)(w:World)(hW:fL w s A1 n1 A2 n2 A3 n3 A4 n4):
  Cz 215 #[.agg #[.slice A1 n1 k1,.slice A2 n2 k2,.slice A3 n3 k3,.slice A4 n4 k4]] w (fun y w'=>(∃v,y=.returned v∧wO (gO s) v w w')∧Below w.heap.size w w'):=by
 have hn:=hW.nB
 have cS:=hW.small
 unfold aC.small at cS;obtain⟨hs1,fX,sA,tQ,oA,oQ⟩:=cS;refine aN func215 ntmps215 ?_;refine aB ?_;refine bA fun g1=>?_;refine aB ?_;refine bK [(4,iv 0),(3,sn),(1,pt g1)] ?_;refine iP 22 1 ?_;refine dO [] [] [0,1] (by simp) rfl (by decide) (by decide) fun q0 _ _ Dg=>?_;refine aB ?_;refine eJ (fun m e R H=>∃(k:Nat) (vs:List Value) (q:Piece) (Ag:Option Addr) (cg:Nat),k≤n1∧m=n1 - k∧qR w q∧Rows (qP (fF q)) 1 ((gO s).take k) (vs.map fun v=>[v])∧e=[(4,iv k),(3,.slice Ag k cg),(1,pt g1)]∧R=[q,all w]∧H=[HP.own 22 1 (.slice Ag k cg) k vs,HP.aE g1 30 [.slice A1 n1 k1,.slice A2 n2 k2,.slice A3 n3 k3,.slice A4 n4 k4]]) n1 ⟨0,[],_,none,0,by omega,rfl,Dg (by simp) (by simp),trivial,rfl,rfl,rfl⟩ fun m e R H hI=>?_;obtain⟨k,vs,q,Ag,cg,hk,rfl,rA,hrows,rfl,rfl,rfl⟩:=hI;refine aB ?_;refine aG rfl (fun h=>?_) (fun h=>?_)
 ·
  refine aB ?_
  have hkn:k < s.aF.length:=by omega
  obtain⟨e,he⟩:∃e,s.aF[k]? =some e:=⟨_,List.getElem?_eq_getElem hkn⟩
  obtain⟨b,off,r,rfl,hrl,hR,hro⟩:=hW.jK.row he;obtain⟨Af,nf,kf,rfl,hnf,pP⟩:=hR
  have yS:(gO s)[k]? =some (e.src):=by simp[gO,he]
  refine aB ?_;refine Eh (el:=3) (sz:=1) (by kernel_rfl) (by kernel_rfl) (by decide) fun g4=>?_;refine Bw 0 1 0 rfl rfl (by omega) ?_;dsimp only[List.set];refine aA ?_;refine kd (dat k (off+k*6)) ?_;refine qA (off:=1) (by kernel_rfl) rfl (by decide) ?_;refine jE (by kernel_rfl) rfl (Cb (by simp) (hro.at_ (j:=1) rfl)) (by decide) ?_;refine gH 0 1 8 nf (n':=nf) (el:=3) (by kernel_rfl) (by kernel_rfl) (by decide) rfl rfl rfl (qW (p:=all w) (by simp) pP) (by simp[aK,Value.oneCell']) (by omega) (by have:=oA e (List.mem_of_getElem? he);omega) (by have:=oA e (List.mem_of_getElem? he);omega) (by decide) fun A5 c5=>?_;dsimp only[List.set,List.nil_append];refine eH fun g3=>?_;refine gH 2 1 24 1 (n':=k+1) (el:=22) (by kernel_rfl) (by kernel_rfl) (by decide) rfl rfl rfl (nL 0 rfl rfl) (by simp[Value.oneCell']) rfl (by omega) (by omega) (by decide) fun A6 c6=>?_;dsimp only[List.set];refine aB ?_;refine dO [q] [1] [2,3] (by simp) rfl (by decide) (by decide) fun q' lF hle Fp=>?_;obtain⟨Fg,Ms,Ml⟩:=lF 1 _ (by simp) rfl;obtain⟨A7,c7,e7,Db⟩:=vC (Y:=q'.Z) Ms Ml
  injection e7 with f1 f2 f3
  subst f1;exact dW (n1 - (k+1)) ⟨k+1,vs++[_],q',A6,c6,by omega,rfl,Fp (by simp) (by simpa using rA),Jh hrows (hle q (by simp)) yS ⟨A5,nf,c5,rfl,hnf,Db⟩,rfl,rfl,rfl⟩
 ·
  refine aB ?_;obtain rfl:k=n1:=by omega
  rw[List.take_of_length_le (by simp[gO];omega)] at hrows;refine aB ?_;refine dO [q] [0] [] (by simp) rfl (by decide) (by decide) fun q2 hq hle hfr=>?_
  have kL:k=(gO s).length:=by simp[gO];omega
  exact aS (h:=fun w1 st=>⟨_,rfl,Ag,cg,by rw[←kL],by rw[←kL];exact(aFp hrows (hle q (by simp)) (hq 0 _ (by simp) rfl) kL).le (st.mH (by simp) (hfr (by simp) (by simpa using rA)))⟩)
theorem aMR(s:aC)(A1 A2 A3 A4:Option Addr)(n1 k1 n2 k2 n3 k3 n4 k4:Nat)(w:World)(hW:fL w s A1 n1 A2 n2 A3 n3 A4 n4):
  Cz 217 #[.agg #[.slice A1 n1 k1,.slice A2 n2 k2,.slice A3 n3 k3,.slice A4 n4 k4]] w (fun y w'=>(∃v,y=.returned v∧wO (gM s) v w w')∧Below w.heap.size w w'):=by
 have hn:=hW.nM
 have cS:=hW.small
 unfold aC.small at cS;obtain⟨hs1,fX,sA,tQ,oA,oQ⟩:=cS;refine aN func217 ntmps217 ?_;refine aB ?_;refine bA fun g1=>?_;refine aB ?_;refine bK [(4,iv 0),(3,sn),(1,pt g1)] ?_;refine iP 22 1 ?_;refine dO [] [] [0,1] (by simp) rfl (by decide) (by decide) fun q0 _ _ Dg=>?_;refine aB ?_;refine eJ (fun m e R H=>∃(k:Nat) (vs:List Value) (q:Piece) (Ag:Option Addr) (cg:Nat),k≤n2∧m=n2 - k∧qR w q∧Rows (qP (fF q)) 1 ((gM s).take k) (vs.map fun v=>[v])∧e=[(4,iv k),(3,.slice Ag k cg),(1,pt g1)]∧R=[q,all w]∧H=[HP.own 22 1 (.slice Ag k cg) k vs,HP.aE g1 30 [.slice A1 n1 k1,.slice A2 n2 k2,.slice A3 n3 k3,.slice A4 n4 k4]]) n2 ⟨0,[],_,none,0,by omega,rfl,Dg (by simp) (by simp),trivial,rfl,rfl,rfl⟩ fun m e R H hI=>?_;obtain⟨k,vs,q,Ag,cg,hk,rfl,rA,hrows,rfl,rfl,rfl⟩:=hI;refine aB ?_;refine aG rfl (fun h=>?_) (fun h=>?_)
 ·
  refine aB ?_
  have hkn:k < s.domains.length:=by omega
  obtain⟨e,he⟩:∃e,s.domains[k]? =some e:=⟨_,List.getElem?_eq_getElem hkn⟩
  obtain⟨b,off,r,rfl,hrl,hR,hro⟩:=hW.dom.row he;obtain rfl:=hR
  have yS:(gM s)[k]? =some (if e.above= -1 then[] else[e.above]):=by simp[gM,he]
  refine aA ?_;refine kd (dat k (off+k*3)) ?_;refine qA (off:=0) (by kernel_rfl) rfl (by decide) ?_;refine jE (by kernel_rfl) rfl (Cb (by simp) (hro.at_ (j:=0) rfl)) (by decide) ?_;refine aAm rfl rfl (by decide) ?_;refine dN ?_;refine aG rfl (fun hab=>?_) (fun hab=>?_)
  ·
   refine iP 3 1 ?_;refine aA ?_;refine kd (dat k (off+k*3)) ?_;refine qA (off:=0) (by kernel_rfl) rfl (by decide) ?_;refine jE (by kernel_rfl) rfl (Cb (by simp) (hro.at_ (j:=0) rfl)) (by decide) ?_;refine eH fun g2=>?_;refine gH 1 1 8 1 (n':=1) (v:=sn) (el:=3) (by kernel_rfl) (by kernel_rfl) (by decide) rfl rfl rfl (nL 0 rfl rfl) (by simp[Value.oneCell']) rfl (by omega) (by omega) (by decide) fun A5 c5=>?_;dsimp only[List.set,List.nil_append];refine aB ?_;refine eH fun g3=>?_;refine gH 3 1 24 1 (n':=k+1) (el:=22) (by kernel_rfl) (by kernel_rfl) (by decide) rfl rfl rfl (nL 0 rfl rfl) (by simp[Value.oneCell']) rfl (by omega) (by omega) (by decide) fun A6 c6=>?_;dsimp only[List.set];refine aB ?_;refine dO [q] [2] [3,4] (by simp) rfl (by decide) (by decide) fun q' lF hle Fp=>?_;obtain⟨Fg,Ms,Ml⟩:=lF 2 _ (by simp) rfl;obtain⟨A7,c7,e7,Db⟩:=vC (Y:=q'.Z) Ms Ml
   injection e7 with f1 f2 f3
   subst f1;exact dW (n2 - (k+1)) ⟨k+1,vs++[_],q',A6,c6,by omega,rfl,Fp (by simp) (by simpa using rA),Jh hrows (hle q (by simp)) yS (by rw[if_neg hab];exact⟨A5,1,c5,rfl,rfl,Db⟩),rfl,rfl,rfl⟩
  ·
   refine aB ?_;refine eH fun g4=>?_;refine gH 1 1 24 1 (n':=k+1) (el:=22) (by kernel_rfl) (by kernel_rfl) (by decide) rfl rfl rfl (nL 0 rfl rfl) (by simp[Value.oneCell']) rfl (by omega) (by omega) (by decide) fun A6 c6=>?_;dsimp only[List.set];refine aB ?_;exact dW (n2 - (k+1)) ⟨k+1,vs++[_],q,A6,c6,by omega,rfl,rA,Jh hrows (fun b hb=>⟨hb,rfl⟩) yS (by rw[if_pos (Classical.not_not.1 hab)];exact⟨_,0,0,rfl,rfl,aI.nil _ 1⟩),rfl,rfl,rfl⟩
 ·
  refine aB ?_;obtain rfl:k=n2:=by omega
  rw[List.take_of_length_le (by simp[gM];omega)] at hrows;refine aB ?_;refine dO [q] [0] [] (by simp) rfl (by decide) (by decide) fun q2 hq hle hfr=>?_
  have kL:k=(gM s).length:=by simp[gM];omega
  exact aS (h:=fun w1 st=>⟨_,rfl,Ag,cg,by rw[←kL],by rw[←kL];exact(aFp hrows (hle q (by simp)) (hq 0 _ (by simp) rfl) kL).le (st.mH (by simp) (hfr (by simp) (by simpa using rA)))⟩)
end
section
def wC(n j:Nat):List Value:=(List.replicate j (Value.bool true))++List.replicate (n - j) (.bool false)
theorem aR7{n j:Nat}(h:j≤n):(wC n j).length=n:=by simp[wC];omega
theorem aIW{n j v:Nat}(h:v < j):(wC n j)[v]? =some (.bool true):=by
 rw[wC,List.getElem?_append_left (by simpa using h),List.getElem?_replicate,if_pos h]
theorem aR8{n j:Nat}(h:j < n):(wC n j)[j]? =some (.bool false):=by
 rw[wC,List.getElem?_append_right (by simp)];simp[List.getElem?_replicate];omega
theorem aR6{n j:Nat}(h:j < n):(wC n j).set j (.bool true)=wC n (j+1):=by
 unfold wC;rw[List.set_append_right _ _ (by simp),List.length_replicate,Nat.sub_self,show n - j=(n - (j+1))+1 by omega,List.replicate_succ,List.set_cons_zero,List.replicate_succ' (n:=j),List.append_assoc];rfl
theorem aI.aD5{w:World}{A:Option Addr}{n:Nat}{l:List Int}(h:aI (all w) 1 A n (aK l))(hn:0 < n):∃b off,A=some ⟨b,off,none⟩∧∀(i:Nat) (x:Int),l[i]? =some x→fR w b (off+i) (iv x):=by
 obtain⟨b,off,hA,hb,hc⟩:=h.2 hn;refine⟨b,off,hA,fun i x hx=>⟨hb,hc i _ ?_⟩⟩;simp only[aK,List.getElem?_map,hx,Option.map_some]
theorem aNp(j:Nat):aK (dL (List.range j))++[iv (j:Int)]=aK (dL (List.range (j+1))):=by
 rw[List.range_succ];simp[aK,dL]
def aGZ(n:Nat)(v:Value)(w w':World):Prop:=∃A c,v=.slice A n c∧aI (fresh w w') 1 A n (aK (dL (List.range n)))
theorem aMQ(A:Option Addr)(n c:Nat)(g:List (List Int))(w:World)(hg:mX (all w) A n g)(hn:n=g.length)(hn2:n≤100)(Fo:∀l∈g,l.length≤1000000)(aBl:∀(v:Nat) (l:List Int),g[v]? =some l→∀y∈l,0≤y∧y < (v:Int)):
  Cz 236 #[.slice A n c] w (fun y w'=>(∃v,y=.returned v∧aGZ n v w w')∧Below w.heap.size w w'):=by
 refine aN func236 ntmps236 ?_;refine aB ?_;refine iP 3 1 ?_;refine mA 1 (n:=n) (el:=4) (z:=.bool false) (by kernel_rfl) (by kernel_rfl) rfl rfl rfl (by omega) (by omega) (by decide) fun g1=>?_;refine aB ?_;refine bK [(5,.bool true),(4,.slice (some ⟨g1,0,none⟩) n n),(3,sn),(0,.slice A n c)] ?_;refine aB ?_;refine eJ (fun m e R H=>∃(j:Nat) (mo:Bool) (Ao:Option Addr) (co:Nat),j≤n∧(mo=false→j=n)∧m=2*(n - j)+mo.toNat∧e=[(5,.bool mo),(4,.slice (some ⟨g1,0,none⟩) n n),(3,.slice Ao j co),(0,.slice A n c)]∧R=[all w]∧H=[HP.aE g1 4 (wC n j),HP.own 3 1 (.slice Ao j co) j (aK (dL (List.range j)))]) (2*n+1) ⟨0,true,none,0,by omega,(fun h=>by cases h),by simp,rfl,rfl,by simp[wC,aK,dL]⟩ fun m e R H hI=>?_;obtain⟨j,mo,Ao,co,hj,hmo,rfl,rfl,rfl,rfl⟩:=hI;refine aB ?_;refine pV rfl (fun h=>?_) (fun h=>?_)
 ·
  refine aB ?_;subst h;refine aB ?_;refine bK [(6,iv 0),(5,.bool false),(4,.slice (some ⟨g1,0,none⟩) n n),(3,.slice Ao j co),(0,.slice A n c)] ?_;refine aB ?_;refine eJ (fun m e R H=>∃(v:Nat) (mi:Bool) (jj:Nat) (Ao:Option Addr) (co:Nat),v≤n∧((mi=false∧jj=j∧v≤j)∨(mi=true∧jj=j+1∧j < n∧v=j+1))∧m=n - v∧e=[(6,iv v),(5,.bool mi),(4,.slice (some ⟨g1,0,none⟩) n n),(3,.slice Ao jj co),(0,.slice A n c)]∧R=[all w]∧H=[HP.aE g1 4 (wC n jj),HP.own 3 1 (.slice Ao jj co) jj (aK (dL (List.range jj)))]) n ⟨0,false,j,Ao,co,by omega,.inl ⟨rfl,rfl,by omega⟩,rfl,rfl,rfl,rfl⟩ fun m e R H hI=>?_;obtain⟨v,mi,jj,Ao,co,hv,hst,rfl,rfl,rfl,rfl⟩:=hI;refine cP ?_;refine Zw 20 (v < n∧mi=false) ?_ ?_
  ·skip
   refine aB ?_
   (first | refine bX (t:=17) rfl (fun hg=>?_) (fun hg=>?_) | refine sL (t:=17) rfl (fun hg=>?_) (fun hg=>?_))
   ·
    refine fP rfl rfl ?_;refine cQ rfl (by decide) ?_;refine fP rfl rfl ?_;(first | refine Lu rfl (by decide) ?_ | refine zP rfl (by decide) ?_)
    (first | refine pY rfl rfl (by decide) ?_ | refine pZ rfl rfl (by decide) ?_)
    refine dN ?_;exact Te
   ·
    refine fV rfl rfl rfl (by decide) ?_;refine fV rfl rfl rfl (by decide) ?_
    (first | refine pY rfl rfl (by decide) ?_ | refine pZ rfl rfl (by decide) ?_)
    refine dN ?_;exact Te
  refine aG rfl (fun hin=>?_) (fun hin=>?_)
  ·
   refine lX ?_;refine dV ?_;refine cP ?_;refine sJ ?_;refine cP ?_;obtain⟨Js,hmf⟩:=hin
   obtain⟨hvj,hjj⟩:v≤j∧jj=j:=by
    rcases hst with⟨_,h2,h3⟩ | ⟨h1,_⟩
    ·exact⟨h3,h2⟩
    ·rw[hmf] at h1;cases h1
   subst hjj;subst hmf;clear hst;obtain⟨l,hl⟩:∃l,g[v]? =some l:=⟨g[v]'(by omega),List.getElem?_eq_getElem _⟩
   have hlt:=aBl v l hl
   have hlen:=Fo l (List.mem_of_getElem? hl)
   obtain⟨bG,oG,Al,kl,rfl,hcG,rZ⟩:=hg.row hl
   have tS:(wC n jj)[v]? =some (.bool (decide (¬v=jj))):=by
    by_cases aBd:v=jj
    ·subst aBd;rw[aR8 Js];simp
    ·rw[aIW (by omega)];simp[aBd]
   refine eA ?_;refine cQ rfl (by decide) ?_;refine cQ rfl (by decide) ?_;refine kd (dat v v) ?_;refine jE (by kernel_rfl) rfl (Rd.aE 0 rfl tS) (by decide) ?_;refine Lu rfl (by decide) ?_;rw[show decide (¬¬v=jj)=decide (v=jj) by simp];refine aB ?_;refine bK [(8,iv 0),(7,.bool (decide (v=jj))),(6,iv v),(5,.bool false),(4,.slice (some ⟨g1,0,none⟩) n n),(3,.slice Ao jj co),(0,.slice (some ⟨bG,oG,none⟩) n c)] ?_;refine aB ?_;refine eJ (fun m e R H=>∃(i:Nat) (rb:Bool),i≤l.length∧rb=decide (v=jj)∧m=l.length - i∧e=[(8,iv i),(7,.bool rb),(6,iv v),(5,.bool false),(4,.slice (some ⟨g1,0,none⟩) n n),(3,.slice Ao jj co),(0,.slice (some ⟨bG,oG,none⟩) n c)]∧R=[all w]∧H=[HP.aE g1 4 (wC n jj),HP.own 3 1 (.slice Ao jj co) jj (aK (dL (List.range jj)))]) l.length ⟨0,_,by omega,rfl,rfl,rfl,rfl,rfl⟩ fun m e R H hI=>?_;obtain⟨i,rb,hi,hrb,rfl,rfl,rfl,rfl⟩:=hI;refine aA ?_;refine kd (dat v (oG+v)) ?_;refine aB ?_;refine aG rfl (fun hil=>?_) (fun hil=>?_)
   ·
    refine aB ?_
    have aBn:i < l.length:=by have h':(i:Int) < (l.length:Int):=hil;omega
    obtain⟨y,hy⟩:∃y,l[i]? =some y:=⟨_,List.getElem?_eq_getElem aBn⟩
    have hyb:=hlt y (List.mem_of_getElem? hy)
    obtain⟨bI,oI,hAI,Nd⟩:=rZ.aD5 (by omega);subst hAI
    have Kg:=Nd i y hy
    refine aB ?_;refine sL (t:=38) rfl (fun Wx=>?_) (fun Wx=>?_)
    ·
     have hdy:(wC n jj)[y.toNat]? =some (.bool true):=aIW (by omega)
     refine aA ?_;refine kd (dat v (oG+v)) ?_;refine aA ?_;refine kd (dat i (oI+i)) ?_;refine fP rfl rfl ?_;refine jE (by kernel_rfl) rfl (Cb (by simp) Kg) (by decide) ?_;refine fP rfl rfl ?_;refine kd (dat y.toNat y.toNat) ?_;refine fP rfl rfl ?_;refine jE (by kernel_rfl) rfl (Rd.aE 0 rfl hdy) (by decide) ?_
     (first | refine pY rfl rfl (by decide) ?_ | refine pZ rfl rfl (by decide) ?_)
     refine fQ rfl (by decide) ?_;refine dN ?_;refine eA ?_;refine cQ rfl (by decide) ?_;refine zU rfl rfl (iR (by omega)) (by decide) ?_;refine fQ rfl (by decide) ?_;refine dN ?_;exact dW (l.length - (i+1)) ⟨i+1,true,by omega,by rw[←hrb,Wx],rfl,rfl,rfl,rfl⟩
    ·
     refine aB ?_;exact dW (l.length - (i+1)) ⟨i+1,false,by omega,by rw[←hrb,Wx],rfl,rfl,rfl,rfl⟩
   ·
    refine aB ?_;refine pV rfl (fun hrd=>?_) (fun hrd=>?_)
    ·
     refine aB ?_
     have aBd:v=jj:=of_decide_eq_true (hrb▸hrd)
     subst aBd;refine aB ?_;refine tL 0 rfl (by kernel_rfl) rfl rfl rfl (by rw[aR7 (by omega)];omega) ?_;dsimp only[List.set];rw[aR6 Js];refine aB ?_;refine eH fun g2=>?_;refine gH 2 1 8 1 (n':=v+1) (el:=3) (by kernel_rfl) (by kernel_rfl) (by decide) rfl rfl rfl (nL 0 rfl rfl) (by simp[Value.oneCell']) rfl (by omega) (by omega) (by decide) fun A9 c9=>?_;dsimp only[List.set];rw[aNp];refine aB ?_;exact dW (n - (v+1)) ⟨v+1,true,v+1,A9,c9,by omega,.inr ⟨rfl,rfl,Js,rfl⟩,rfl,rfl,rfl,rfl⟩
    ·
     refine aB ?_;exact dW (n - (v+1)) ⟨v+1,false,jj,Ao,co,by omega,.inl ⟨rfl,rfl,by have hne:¬v=jj:=of_decide_eq_false (hrb▸hrd);omega⟩,rfl,rfl,rfl,rfl⟩
  ·
   refine aB ?_;rcases hst with⟨rfl,rfl,h3⟩ | ⟨rfl,rfl,h3,rfl⟩
   ·have hjn:jj=n:=by
     rcases Nat.lt_or_ge v n with h9 | h9
     ·exact absurd ⟨h9,rfl⟩ hin
     ·omega
    exact dW (2*(n - jj)+0) ⟨jj,false,Ao,co,by omega,(fun _=>hjn),by simp,rfl,rfl,rfl⟩ (hm:=by simp)
   ·exact dW (2*(n - (j+1))+1) ⟨j+1,true,Ao,co,by omega,(fun h=>by cases h),by simp,rfl,rfl,rfl⟩ (hm:=by simp;omega)
 ·
  refine aB ?_;obtain rfl:=hmo h;refine dO [] [1] [] (by simp) rfl (by decide) (by decide) fun q hq _ hfr=>?_;obtain⟨F1,sf1,zf1⟩:=hq 1 _ (by simp) rfl;obtain⟨A8,c8,e8,h8⟩:=vC (Y:=q.Z) sf1 zf1
  injection e8 with f1 f2 f3
  subst f1;exact aS (h:=fun w1 st=>⟨_,rfl,Ao,co,rfl,aI.le h8 (st.mH (by simp) (hfr (by simp) (by simp)))⟩)
end
section
theorem aCY(A:Option Addr)(n c:Nat)(g:List (List Int))(w:World)(hg:mX (all w) A n g)(hn:n=g.length)(hn2:n≤100)(Fo:∀l∈g,l.length≤1000000)(aBl:∀(v:Nat) (l:List Int),g[v]? =some l→∀y∈l,0≤y∧y < (v:Int)):
  Cz 214 #[.slice A n c] w (Rt (iv 0) w):=by
 refine aN func214 ntmps214 ?_;refine aB ?_;refine aG rfl (fun h=>absurd h (by omega)) (fun h=>?_)
 ·
  refine aB ?_;refine bK [(3,iv 0),(0,.slice A n c)] ?_;refine aB ?_;refine eJ (fun m e R H=>∃(v:Nat),v≤n∧m=n - v∧e=[(3,iv v),(0,.slice A n c)]∧R=[all w]∧H=[]) n ⟨0,by omega,rfl,rfl,rfl,rfl⟩ fun m e R H hI=>?_;obtain⟨v,hv,rfl,rfl,rfl,rfl⟩:=hI;refine aB ?_;refine aG rfl (fun hvl=>?_) (fun hvl=>?_)
  ·
   refine aB ?_
   have Js:v < n:=by have h':(v:Int) < (n:Int):=hvl;omega
   obtain⟨l,hl⟩:∃l,g[v]? =some l:=⟨g[v]'(by omega),List.getElem?_eq_getElem _⟩
   have hlt:=aBl v l hl
   have hlen:=Fo l (List.mem_of_getElem? hl)
   obtain⟨bG,oG,Al,kl,rfl,hcG,rZ⟩:=hg.row hl;refine aB ?_;refine bK [(4,iv 0),(3,iv v),(0,.slice (some ⟨bG,oG,none⟩) n c)] ?_;refine aB ?_;refine eJ (fun m e R H=>∃(i:Nat),i≤l.length∧m=l.length - i∧e=[(4,iv i),(3,iv v),(0,.slice (some ⟨bG,oG,none⟩) n c)]∧R=[all w]∧H=[]) l.length ⟨0,by omega,rfl,rfl,rfl,rfl⟩ fun m e R H hI=>?_;obtain⟨i,hi,rfl,rfl,rfl,rfl⟩:=hI;refine aA ?_;refine kd (dat v (oG+v)) ?_;refine aB ?_;refine aG rfl (fun hil=>?_) (fun hil=>?_)
   ·
    refine lX ?_;refine dV ?_;refine cP ?_;refine sJ ?_
    have aBn:i < l.length:=by have h':(i:Int) < (l.length:Int):=hil;omega
    obtain⟨y,hy⟩:∃y,l[i]? =some y:=⟨_,List.getElem?_eq_getElem aBn⟩
    have hyb:=hlt y (List.mem_of_getElem? hy)
    obtain⟨bI,oI,hAI,Nd⟩:=rZ.aD5 (by omega);subst hAI
    have Kg:=Nd i y hy
    refine Zw 42 (False) ?_ ?_
    ·skip
     refine aA ?_;refine kd (dat v (oG+v)) ?_;refine aA ?_;refine kd (dat i (oI+i)) ?_;refine aB ?_
     (first | refine bX (t:=31) rfl (fun hg=>?_) (fun hg=>?_) | refine sL (t:=31) rfl (fun hg=>?_) (fun hg=>?_))
     ·
      refine fV rfl rfl rfl (by decide) ?_;refine fV rfl rfl rfl (by decide) ?_;refine fV rfl rfl rfl (by decide) ?_;refine fV rfl rfl rfl (by decide) ?_;refine fV rfl rfl rfl (by decide) ?_;refine fV rfl rfl rfl (by decide) ?_;refine fV rfl rfl rfl (by decide) ?_;refine fV rfl rfl rfl (by decide) ?_;refine fV rfl rfl rfl (by decide) ?_;refine fV rfl rfl rfl (by decide) ?_
      (first | refine pY rfl rfl (by decide) ?_ | refine pZ rfl rfl (by decide) ?_)
      refine dN ?_;exact Tf (by repeat (first | exact trivial | refine⟨rfl,?_⟩)) (by first | (exfalso;omega) | (refine Rz rfl ⟨fun hh=>?_,fun hh=>hh.elim⟩;omega) | (refine Xv rfl ?_;exact id))
     ·
      refine fP rfl rfl ?_;refine cQ rfl (by decide) ?_;refine fP rfl rfl ?_;refine cQ rfl (by decide) ?_;refine fP rfl rfl ?_;refine kd (dat v (oG+v)) ?_;refine aA ?_;refine kd (dat i (oI+i)) ?_;refine fP rfl rfl ?_;refine jE (by kernel_rfl) rfl (Cb (by simp) Kg) (by decide) ?_;refine fP rfl rfl ?_;refine cQ rfl (by decide) ?_;refine fP rfl rfl ?_;refine Ei (el:=22) (by kernel_rfl) rfl (by decide) ?_;refine fP rfl rfl ?_;refine aFC rfl rfl (by decide) ?_
      (first | refine pY rfl rfl (by decide) ?_ | refine pZ rfl rfl (by decide) ?_)
      refine dN ?_;exact Tf (by repeat (first | exact trivial | refine⟨rfl,?_⟩)) (by first | (exfalso;omega) | (refine Rz rfl ⟨fun hh=>?_,fun hh=>hh.elim⟩;omega) | (refine Xv rfl ?_;exact id))
    refine pV rfl (fun h=>by simp at h) (fun _=>?_)
    ·
     refine aB ?_;exact dW (l.length - (i+1)) ⟨i+1,by omega,rfl,rfl,rfl,rfl⟩
   ·
    refine aB ?_;exact dW (n - (v+1)) ⟨v+1,by omega,rfl,rfl,rfl,rfl⟩
  ·
   refine aB ?_;refine jQ [] (aGZ n) (fun w1 st=>aMQ _ n c g w1 (hg.le (jS (st.started (by simp)))) hn hn2 Fo aBl) ?_;rintro _ w1 q1 ⟨Ao,co,rfl,ho⟩ hf _ tB
   have ho:=ho.le hf
   clear hf;refine aB ?_;refine aG rfl (fun h=>absurd h (by omega)) (fun h=>?_)
   ·
    refine aB ?_;exact aS (h:=fun _ _=>rfl)
end
section
theorem aGV(v n:Int)(w:World):Cz 216 #[iv v,iv n] w (Rt (.bool (decide (0≤v∧v < n))) w):=by
 refine aN func216 ntmps216 ?_;refine aB ?_;refine bX (t:=7) rfl (fun hg=>?_) (fun hg=>?_)
 ·
  refine aB ?_;rw[show decide (0≤v∧v < n)=decide (v < n) from decide_eq_decide.2 ⟨fun h=>h.2,fun h=>⟨hg,h⟩⟩];exact aS (h:=fun _ _=>rfl)
 ·
  refine aB ?_;rw[show decide (0≤v∧v < n)=false from decide_eq_false (fun h=>hg h.1)];exact aS (h:=fun _ _=>rfl)
theorem aCW(v a b:Int)(w:World):Cz 158 #[iv v,iv a,iv b] w (Rt (.bool (decide (a≤v∧v≤b))) w):=by
 refine aN func158 ntmps158 ?_;refine aB ?_;refine bX (t:=10) rfl (fun hg=>?_) (fun hg=>?_)
 ·
  refine aB ?_;rw[show decide (a≤v∧v≤b)=decide (v≤b) from decide_eq_decide.2 ⟨fun h=>h.2,fun h=>⟨hg,h⟩⟩];exact aS (h:=fun _ _=>rfl)
 ·
  refine aB ?_;rw[show decide (a≤v∧v≤b)=false from decide_eq_false (fun h=>hg h.1)];exact aS (h:=fun _ _=>rfl)
set_option maxRecDepth 100000 in
theorem aMX(c:eD)(k0 nn:Nat)(As:Option Addr)(ns ks:Nat)(w:World)(hs:aI (all w) 1 As ns (aK c.src))(hns:ns=c.src.length)(hf:c.fit k0)(hk:k0≤nn)(hnn:nn≤1000):Cz 213 #[.agg #[.int .u8 c.kind,.slice As ns ks,.int .u64 c.rate,iv c.mul,iv c.div,iv c.lock],iv (nn:Int)] w (Rt (iv 0) w):=by
  have hk9:=hf.1
  have hc:(c.kind=111∧ns=0∧1≤c.rate∧c.rate≤1000000)∨(c.kind=112∧ns=1∧1≤c.mul∧c.mul≤8∧1≤c.div∧c.div≤4∧0≤c.lock∧c.lock≤3)∨(c.kind=100∧ns=1∧1≤c.div∧c.div≤8)∨(c.kind=103∧ns=1)∨(c.kind=109∧ns=2):=by
    rcases hf.2 with h | h | h | h | h
    · exact .inl ⟨h.1,by rw[hns,h.2.1];rfl,h.2.2.1,h.2.2.2.1⟩
    · omega
    · omega
    · omega
    · omega
  clear hf;obtain⟨kind,src,rate,mul,div,lock⟩:=c;dsimp only at hs hns hk9 hc⊢
  have win:∀v a b:Int,a≤v∧v≤b→∀w1,Cz 158 #[iv v,iv a,iv b] w1 (Rt (.bool true) w1):=fun v a b h w1=>by
    have:=aCW v a b w1
    rwa [decide_eq_true h] at this
  have inn:∀v:Int,v∈src→∀w1,Cz 216 #[iv v,iv (nn:Int)] w1 (Rt (.bool true) w1):=fun v h w1=>by
    have:=aGV v nn w1
    have h2:=hk9 v h
    rwa [decide_eq_true (by omega)] at this
  refine aN func213 ntmps213 ?_;refine aB ?_;refine bA fun g1=>?_;rcases hc with⟨rfl,rfl,h⟩ | ⟨rfl,rfl,h⟩ | ⟨rfl,rfl,h⟩ | ⟨rfl,rfl⟩ | ⟨rfl,rfl⟩
  all_goals
    refine aB ?_
  · refine Ol (fun i=>[(7,iv i),(5,_),(2,pt g1),(1,iv nn)]) 4 fun i hi=>?_
    refine aB ?_;refine bX (t:=68) rfl (fun h3=>by omega) (fun _=>?_);refine aB ?_;refine aG rfl (fun h3=>by omega) (fun _=>?_);refine aB ?_;exact dG
  rotate_left 3
  refine aU (fun w1 t=>win ((2:Nat):Int) 1 4 (by decide) w1) ?_;refine aB ?_
  rotate_left
  all_goals
    refine Ol (fun i=>[(7,iv i),(5,_),(2,pt g1),(1,iv nn)]) 4 fun i hi=>?_;refine aB ?_;refine aG rfl (fun h2=>?_) (fun h2=>?_)
    · obtain⟨f,hf⟩:=get_some (l:=src) (i:=i) (by omega)
      obtain⟨b,off,rfl,gY,gZ⟩:=hs.2 (by omega)
      have Nc:fR w b (off+i) (iv f):=⟨gY,gZ i _ (by simp[aK,hf])⟩
      refine aB ?_;refine aU (fun w1 t=>inn f (List.mem_of_getElem? hf) w1) ?_;refine aB ?_;exact jU ()
    refine aB ?_
  · refine aU (fun w1 t=>win mul 1 1000 (by omega) w1) ?_
    refine aB ?_;refine aU (fun w1 t=>win div 1 1000 (by omega) w1) ?_;refine aB ?_;refine aU (fun w1 t=>win lock 0 20 (by omega) w1) ?_;refine aB ?_;exact dG
  · refine aU (fun w1 t=>win div 1 1000 (by omega) w1) ?_
    refine aB ?_;exact dG
  all_goals exact dG
theorem aMU(s:aC)(A1 A2 A3 A4:Option Addr)(n1 k1 n2 k2 n3 k3 n4 k4:Nat)(w:World)(hW:fL w s A1 n1 A2 n2 A3 n3 A4 n4)(hm:s.made):Cz 155 #[.agg #[.slice A1 n1 k1,.slice A2 n2 k2,.slice A3 n3 k3,.slice A4 n4 k4]] w (Rt (.bool true) w):=by
 have qI:=hW.nB
 have hn2:=hW.nM
 have oU:=hW.pO
 have qZ:=hW.nZ
 have hnc:=hm.nc
 have hnd:=hm.nd
 have iK:=hm.nr
 have nD:=hm.nv
 have cS:=hW.small
 refine aN func155 ntmps155 ?_;refine aB ?_;refine bA fun g1=>?_;refine aB ?_;refine bX (t:=8) rfl (fun h=>by omega) (fun _=>?_);refine aB ?_;refine bX (t:=14) rfl (fun h=>by omega) (fun _=>?_);refine aB ?_;refine bX (t:=20) rfl (fun h=>by omega) (fun _=>?_);refine aB ?_;refine aG rfl (fun h=>by omega) (fun _=>?_);refine aB ?_;refine Ol (fun i=>[(3,iv i),(1,pt g1)]) n4 fun i hi=>?_;refine aB ?_;refine aG rfl (fun h=>?_) (fun h=>?_)
 ·obtain⟨d,hd⟩:∃d,s.aD[i]? =some d:=⟨_,List.getElem?_eq_getElem (by omega)⟩
  obtain⟨b,off,r,rfl,hrl,hR,hro⟩:=hW.dev.row hd;obtain⟨Ar,nr,kr,An,nn,kn,rfl,aIg,aP0,Jt,hsn⟩:=hR;obtain⟨_,_,_,_,_,_,_,_,hd9,_,aPY,_⟩:=hm.aD i d hd
  have h4:=hro.at_ (j:=4) rfl
  have h5:=hro.at_ (j:=5) rfl
  refine aB ?_;refine bX (t:=41) rfl (fun h=>by omega) (fun _=>?_);refine aB ?_;refine aG rfl (fun h=>by omega) (fun _=>?_);refine aB ?_;exact jU ()
 ·refine aB ?_;exact dG
theorem Vd{v n:Int}(h:0≤v∧v < n)(w:World):Cz 216 #[iv v,iv n] w (Rt (.bool true) w):=by
 have:=aGV v n w
 rwa [decide_eq_true h] at this
theorem aGU{v a b:Int}(h:a≤v∧v≤b)(w:World):Cz 158 #[iv v,iv a,iv b] w (Rt (.bool true) w):=by
 have:=aCW v a b w
 rwa [decide_eq_true h] at this
theorem aMW(s:aC)(A1 A2 A3 A4:Option Addr)(n1 k1 n2 k2 n3 k3 n4 k4:Nat)(w:World)(hW:fL w s A1 n1 A2 n2 A3 n3 A4 n4)(hm:s.made):Cz 156 #[.agg #[.slice A1 n1 k1,.slice A2 n2 k2,.slice A3 n3 k3,.slice A4 n4 k4]] w (Rt (iv 0) w):=by
 have qI:=hW.nB
 have hn2:=hW.nM
 have oU:=hW.pO
 have qZ:=hW.nZ
 have hnc:=hm.nc
 have hnd:=hm.nd
 have iK:=hm.nr
 have nD:=hm.nv
 have cS:=hW.small
 unfold aC.small at cS;obtain⟨hs1,fX,sA,tQ,oA,oQ⟩:=cS;refine aN func156 ntmps156 ?_;refine aB ?_;refine bA fun g1=>?_;refine aB ?_;refine Ol (fun i=>[(3,iv i),(1,pt g1)]) n1 fun i hi=>?_;refine aB ?_;refine aG rfl (fun h=>?_) (fun h=>?_)
 ·obtain⟨c,hc⟩:∃c,s.aF[i]? =some c:=⟨_,List.getElem?_eq_getElem (by omega)⟩
  obtain⟨b,off,r,rfl,hrl,hR,hro⟩:=hW.jK.row hc;obtain⟨Af,nf,kf,rfl,hnf,pP⟩:=hR
  have hfit:=hm.aF i c hc
  refine aB ?_;refine aKc ?_;refine aO 8 ?_;refine aU (fun w1 st=>aMX c i n1 Af nf kf w1 (aI.le pP (jS (st.started (by simp)))) hnf hfit (by omega) (by omega)) ?_;refine bM ?_;refine rH 9 ?_;refine fJ ?_;refine aB ?_;exact jU ()
 ·refine aB ?_;refine jQ [] (wO (gO s)) (fun w1 st=>aMV s A1 A2 A3 A4 n1 k1 n2 k2 n3 k3 n4 k4 w1 (hW.le (st.started (by simp)))) ?_;rintro _ w1 q1 ⟨Ag,cg,rfl,lH⟩ hf hle hfr
  have lH:=lH.le hf
  refine aB ?_
  refine aU (fun w1 st=>aCY Ag _ cg (gO s) w1 (lH.le (st.le (by simp))) rfl (by simp[gO];omega) (fun l hl=>by
   simp only[gO,List.mem_map] at hl;obtain⟨z,hz,rfl⟩:=hl
   have:=oA z hz;omega) (aHF hm)) ?_
  refine aB ?_;exact dG
theorem aMS(s:aC)(A1 A2 A3 A4:Option Addr)(n1 k1 n2 k2 n3 k3 n4 k4:Nat)(w:World)(hW:fL w s A1 n1 A2 n2 A3 n3 A4 n4)(hm:s.made):Cz 157 #[.agg #[.slice A1 n1 k1,.slice A2 n2 k2,.slice A3 n3 k3,.slice A4 n4 k4]] w (Rt (iv 0) w):=by
 have qI:=hW.nB
 have hn2:=hW.nM
 have oU:=hW.pO
 have qZ:=hW.nZ
 have hnc:=hm.nc
 have hnd:=hm.nd
 have iK:=hm.nr
 have nD:=hm.nv
 refine aN func157 ntmps157 ?_;refine aB ?_;refine bA fun g1=>?_;refine aB ?_;refine Ol (fun i=>[(3,iv i),(1,pt g1)]) n2 fun i hi=>?_;refine aB ?_;refine aG rfl (fun h=>?_) (fun h=>?_)
 ·obtain⟨d,hd⟩:∃d,s.domains[i]? =some d:=⟨_,List.getElem?_eq_getElem (by omega)⟩
  obtain⟨b,off,r,rfl,hrl,rfl,hro⟩:=hW.dom.row hd;obtain⟨dF,Ru,nE⟩:=hm.domains i d hd;refine aB ?_;refine bU fun g2=>?_;refine aB ?_;refine bX (t:=20) rfl (fun h2=>?_) (fun h2=>?_)
  ·refine aB ?_;refine aU (fun w1 _=>Vd (v:=d.above) (n:=(n2:Nat)) (by omega) w1) ?_;refine aB ?_;refine aU (fun w1 _=>aGU (v:=d.delay) (a:=0) (b:=20) (by omega) w1) ?_;refine aB ?_;exact jU ()
  ·refine aB ?_;refine aU (fun w1 _=>aGU (v:=d.delay) (a:=0) (b:=20) (by omega) w1) ?_;refine aB ?_;exact jU ()
 ·refine aB ?_;refine jQ [] (wO (gM s)) (fun w1 st=>aMR s A1 A2 A3 A4 n1 k1 n2 k2 n3 k3 n4 k4 w1 (hW.le (st.started (by simp)))) ?_;rintro _ w1 q1 ⟨Ag,cg,rfl,lH⟩ hf hle hfr
  have lH:=lH.le hf
  refine aB ?_
  refine aU (fun w1 st=>aCY Ag _ cg (gM s) w1 (lH.le (st.le (by simp))) rfl (by simp[gM];omega) (fun l hl=>by
   simp only[gM,List.mem_map] at hl;obtain⟨z,_,rfl⟩:=hl
   split<;>simp) (aHD hm)) ?_
  refine aB ?_;exact dG
theorem aCX(s:aC)(A1 A2 A3 A4:Option Addr)(n1 k1 n2 k2 n3 k3 n4 k4:Nat)(w:World)(hW:fL w s A1 n1 A2 n2 A3 n3 A4 n4):
  Cz 160 #[.agg #[.slice A1 n1 k1,.slice A2 n2 k2,.slice A3 n3 k3,.slice A4 n4 k4]] w (fun y w'=>(∃v,y=.returned v∧wO (cZ s) v w w')∧Below w.heap.size w w'):=by
 have hn:=hW.nZ
 have cS:=hW.small
 unfold aC.small at cS;obtain⟨hs1,fX,sA,tQ,oA,oQ⟩:=cS;refine aN func160 ntmps160 ?_;refine cP ?_;refine eA ?_;refine bA fun g1=>?_;refine fQ rfl (by decide) ?_;refine dN ?_;refine cP ?_;refine eA ?_;refine fQ rfl (by decide) ?_;refine dN ?_;refine cP ?_;refine cP ?_;refine eA ?_;refine fQ rfl (by decide) ?_;refine dN ?_;refine bK [(4,iv 0),(3,sn),(1,pt g1)] ?_;refine iP 22 1 ?_;refine dO [] [] [0,1] (by simp) rfl (by decide) (by decide) fun q0 _ _ Dg=>?_;refine sJ ?_;refine eJ (fun m e R H=>∃(k:Nat) (vs:List Value) (q:Piece) (Ag:Option Addr) (cg:Nat),k≤n4∧m=n4 - k∧qR w q∧Rows (qP (fF q)) 1 ((cZ s).take k) (vs.map fun v=>[v])∧e=[(4,iv k),(3,.slice Ag k cg),(1,pt g1)]∧R=[q,all w]∧H=[HP.own 22 1 (.slice Ag k cg) k vs,HP.aE g1 30 [.slice A1 n1 k1,.slice A2 n2 k2,.slice A3 n3 k3,.slice A4 n4 k4]]) n4 ⟨0,[],_,none,0,by omega,rfl,Dg (by simp) (by simp),trivial,rfl,rfl,rfl⟩ fun m e R H hI=>?_;obtain⟨k,vs,q,Ag,cg,hk,rfl,rA,hrows,rfl,rfl,rfl⟩:=hI;refine cP ?_;refine cP ?_;refine eA ?_;refine cQ rfl (by decide) ?_;refine qA (off:=3) (by kernel_rfl) rfl (by decide) ?_;refine Ej rfl ?_;refine Ei (el:=38) (by kernel_rfl) rfl (by decide) ?_;refine Pp rfl rfl (by decide) ?_;refine dN ?_;refine aG rfl (fun h=>?_) (fun h=>?_)
 ·
  refine lX ?_;refine dV ?_;refine cP ?_;refine sJ ?_
  have hkn:k < s.aD.length:=by omega
  obtain⟨e,he⟩:∃e,s.aD[k]? =some e:=⟨_,List.getElem?_eq_getElem hkn⟩
  obtain⟨b,off,r,rfl,hrl,hR,hro⟩:=hW.dev.row he;obtain⟨Ar,nr,kr,Af,nf,kf,rfl,aIg,hnf,Jt,pP⟩:=hR
  have yS:(cZ s)[k]? =some (e.iX):=by simp[cZ,he]
  refine eA ?_;refine cQ rfl (by decide) ?_;refine Eh (el:=3) (sz:=1) (by kernel_rfl) (by kernel_rfl) (by decide) fun g4=>?_;refine Bw 0 1 0 rfl rfl (by omega) ?_;dsimp only[List.set];refine qA (off:=3) (by kernel_rfl) rfl (by decide) ?_;refine Ej rfl ?_;refine cQ rfl (by decide) ?_;refine kd (dat k (off+k*6)) ?_;refine qA (off:=5) (by kernel_rfl) rfl (by decide) ?_;refine jE (by kernel_rfl) rfl (Cb (by simp) (hro.at_ (j:=5) rfl)) (by decide) ?_;refine gH 0 1 8 nf (n':=nf) (el:=3) (by kernel_rfl) (by kernel_rfl) (by decide) rfl rfl rfl (qW (p:=all w) (by simp) pP) (by simp[aK,Value.oneCell']) (by omega) (by have:=oQ e (List.mem_of_getElem? he);omega) (by have:=oQ e (List.mem_of_getElem? he);omega) (by decide) fun A5 c5=>?_;dsimp only[List.set,List.nil_append];refine eH fun g3=>?_;refine gH 2 1 24 1 (n':=k+1) (el:=22) (by kernel_rfl) (by kernel_rfl) (by decide) rfl rfl rfl (nL 0 rfl rfl) (by simp[Value.oneCell']) rfl (by omega) (by omega) (by decide) fun A6 c6=>?_;dsimp only[List.set];refine fQ rfl (by decide) ?_;refine dN ?_;refine eA ?_;refine cQ rfl (by decide) ?_;refine zU rfl rfl (iR (by omega)) (by decide) ?_;refine fQ rfl (by decide) ?_;refine dN ?_;refine dO [q] [1] [2,3] (by simp) rfl (by decide) (by decide) fun q' lF hle Fp=>?_;obtain⟨Fg,Ms,Ml⟩:=lF 1 _ (by simp) rfl;obtain⟨A7,c7,e7,Db⟩:=vC (Y:=q'.Z) Ms Ml
  injection e7 with f1 f2 f3
  subst f1;exact dW (n4 - (k+1)) ⟨k+1,vs++[_],q',A6,c6,by omega,rfl,Fp (by simp) (by simpa using rA),Jh hrows (hle q (by simp)) yS ⟨A5,nf,c5,rfl,hnf,Db⟩,rfl,rfl,rfl⟩
 ·
  refine Zt ?_;refine dV ?_;refine cP ?_;obtain rfl:k=n4:=by omega
  rw[List.take_of_length_le (by simp[cZ];omega)] at hrows;refine eA ?_;refine cQ rfl (by decide) ?_;refine fQ rfl (by decide) ?_;refine dN ?_;refine Lc ?_;refine dV ?_;refine dO [q] [0] [] (by simp) rfl (by decide) (by decide) fun q2 hq hle hfr=>?_
  have kL:k=(cZ s).length:=by simp[cZ];omega
  exact aS (h:=fun w1 st=>⟨_,rfl,Ag,cg,by rw[←kL],by rw[←kL];exact(aFp hrows (hle q (by simp)) (hq 0 _ (by simp) rfl) kL).le (st.mH (by simp) (hfr (by simp) (by simpa using rA)))⟩)
theorem aMT(s:aC)(A1 A2 A3 A4:Option Addr)(n1 k1 n2 k2 n3 k3 n4 k4:Nat)(w:World)(hW:fL w s A1 n1 A2 n2 A3 n3 A4 n4)(hm:s.made):Cz 159 #[.agg #[.slice A1 n1 k1,.slice A2 n2 k2,.slice A3 n3 k3,.slice A4 n4 k4]] w (Rt (iv 0) w):=by
 have qI:=hW.nB
 have hn2:=hW.nM
 have oU:=hW.pO
 have qZ:=hW.nZ
 have hnc:=hm.nc
 have hnd:=hm.nd
 have iK:=hm.nr
 have nD:=hm.nv
 have cS:=hW.small
 unfold aC.small at cS;obtain⟨hs1,fX,sA,tQ,oA,oQ⟩:=cS;refine aN func159 ntmps159 ?_;refine aB ?_;refine bA fun g1=>?_;refine aB ?_;refine Ol (fun i=>[(3,iv i),(1,pt g1)]) n4 fun i hi=>?_;refine aB ?_;refine aG rfl (fun h=>?_) (fun h=>?_)
 ·obtain⟨d,hd⟩:∃d,s.aD[i]? =some d:=⟨_,List.getElem?_eq_getElem (by omega)⟩
  obtain⟨b,off,r,rfl,hrl,hR,hro⟩:=hW.dev.row hd;obtain⟨Ar,nr,kr,An,nn,kn,rfl,aIg,aP0,Jt,hsn⟩:=hR;obtain⟨dF,Ru,nE,hd4,hd5,Bc,hd7,hd8,hd9,aU9,aPY,aPX⟩:=hm.aD i d hd;refine aB ?_;refine bU fun g2=>?_;refine aB ?_;refine aU (fun w1 _=>Vd (v:=d.clock) (n:=(n1:Nat)) (by omega) w1) ?_;refine aB ?_;refine aU (fun w1 _=>Vd (v:=d.domain) (n:=(n2:Nat)) (by omega) w1) ?_;refine aB ?_;refine aU (fun w1 _=>Vd (v:=d.reset) (n:=(n3:Nat)) (by omega) w1) ?_;refine aB ?_;refine Ol (fun k=>[(5,iv k),(4,pt g2),(3,iv i),(1,pt g1)]) nn fun k hk=>?_;refine aB ?_;refine aG rfl (fun h2=>?_) (fun h2=>?_)
  ·obtain⟨y,hy⟩:∃y,d.iX[k]? =some y:=⟨_,List.getElem?_eq_getElem (by omega)⟩
   have hyb:=aPX y (List.mem_of_getElem? hy)
   obtain⟨bI,oI,rfl,Nd⟩:=aI.aD5 hsn (by omega)
   have Kg:=Nd k y hy
   refine aB ?_;refine aKc ?_;refine aO 8 ?_;refine aU (fun w1 _=>Vd (v:=y) (n:=(n4:Nat)) (by omega) w1) ?_;refine bM ?_;refine rH 9 ?_;refine fJ ?_;refine aB ?_;exact jU ()
  ·refine aB ?_;exact jU ()
 ·refine aB ?_;refine jQ [] (wO (cZ s)) (fun w1 st=>aCX s A1 A2 A3 A4 n1 k1 n2 k2 n3 k3 n4 k4 w1 (hW.le (st.started (by simp)))) ?_;rintro _ w1 q1 ⟨Ag,cg,rfl,lH⟩ hf hle hfr
  have lH:=lH.le hf
  refine aB ?_
  refine aU (fun w1 st=>aCY Ag _ cg (cZ s) w1 (lH.le (st.le (by simp))) rfl (by simp[cZ];omega) (fun l hl=>by
   simp only[cZ,List.mem_map] at hl;obtain⟨z,hz,rfl⟩:=hl
   have:=oQ z hz;omega) (aHC hm)) ?_
  refine aB ?_;exact dG
theorem Ve(s:aC)(A1 A2 A3 A4:Option Addr)(n1 k1 n2 k2 n3 k3 n4 k4:Nat)(w:World)(hW:fL w s A1 n1 A2 n2 A3 n3 A4 n4)(hm:s.made):Cz 84 #[.agg #[.slice A1 n1 k1,.slice A2 n2 k2,.slice A3 n3 k3,.slice A4 n4 k4]] w (Rt (iv 0) w):=by
 have qI:=hW.nB
 have hn2:=hW.nM
 have oU:=hW.pO
 have qZ:=hW.nZ
 have hnc:=hm.nc
 have hnd:=hm.nd
 have iK:=hm.nr
 have nD:=hm.nv
 refine aN func84 ntmps84 ?_;refine cP ?_;refine eA ?_;refine bA fun g1=>?_;refine fQ rfl (by decide) ?_;refine dN ?_;refine cP ?_;refine cP ?_;refine eA ?_;refine Uc 4 rfl ?_;refine dH (fun w1 st=>aMU s A1 A2 A3 A4 n1 k1 n2 k2 n3 k3 n4 k4 w1 (hW.le (st.started (by simp))) hm) ?_
 (first | refine Lu rfl (by decide) ?_ | refine zP rfl (by decide) ?_)
 refine dN ?_;refine aG rfl (fun h=>by first | exact absurd rfl h | cases h | (exfalso;omega)) (fun h=>?_)
 ·
  refine lX ?_;refine dV ?_;refine cP ?_;refine eA ?_;refine Uc 4 rfl ?_;refine dH (fun w1 st=>aMW s A1 A2 A3 A4 n1 k1 n2 k2 n3 k3 n4 k4 w1 (hW.le (st.started (by simp))) hm) ?_;refine fQ rfl (by decide) ?_;refine dN ?_;refine cP ?_;refine cP ?_;refine eA ?_;refine cQ rfl (by decide) ?_;refine aAm rfl rfl (by decide) ?_;refine dN ?_;refine aG rfl (fun h=>by first | exact absurd rfl h | cases h | (exfalso;omega)) (fun h=>?_)
  ·
   refine lX ?_;refine dV ?_;refine cP ?_;refine eA ?_;refine Uc 4 rfl ?_;refine dH (fun w1 st=>aMS s A1 A2 A3 A4 n1 k1 n2 k2 n3 k3 n4 k4 w1 (hW.le (st.started (by simp))) hm) ?_;refine fQ rfl (by decide) ?_;refine dN ?_;refine cP ?_;refine cP ?_;refine eA ?_;refine cQ rfl (by decide) ?_;refine aAm rfl rfl (by decide) ?_;refine dN ?_;refine aG rfl (fun h=>by first | exact absurd rfl h | cases h | (exfalso;omega)) (fun h=>?_)
   ·
    refine lX ?_;refine dV ?_;refine cP ?_;refine cP ?_;refine eA ?_;refine fQ rfl (by decide) ?_;refine dN ?_;refine bK [(4,iv 0),(1,pt g1)] ?_;refine sJ ?_;refine eJ (fun m e R H=>∃(i:Nat),i≤n3∧m=n3 - i∧e=[(4,iv i),(1,pt g1)]∧R=[all w]∧H=[HP.aE g1 30 [.slice A1 n1 k1,.slice A2 n2 k2,.slice A3 n3 k3,.slice A4 n4 k4]]) n3 ⟨0,by omega,rfl,rfl,rfl,rfl⟩ fun m e R H hI=>?_;obtain⟨i,hi,rfl,rfl,rfl,rfl⟩:=hI;refine cP ?_;refine cP ?_;refine eA ?_;refine cQ rfl (by decide) ?_;refine qA (off:=2) (by kernel_rfl) rfl (by decide) ?_;refine Ej rfl ?_;refine Ei (el:=88) (by kernel_rfl) rfl (by decide) ?_;refine Pp rfl rfl (by decide) ?_;refine dN ?_;refine aG rfl (fun hil=>?_) (fun hil=>?_)
    ·
     refine lX ?_;refine dV ?_;refine cP ?_;refine sJ ?_;refine cP ?_;refine eA ?_;refine qA (off:=2) (by kernel_rfl) rfl (by decide) ?_;refine Ej rfl ?_;refine cQ rfl (by decide) ?_
     have aBn:i < n3:=by have h':(i:Int) < (n3:Int):=hil;omega
     obtain⟨r0,Ay⟩:∃r0,s.aT[i]? =some r0:=⟨_,List.getElem?_eq_getElem (by omega)⟩
     obtain⟨b,off,r,rfl,hrl,rfl,hro⟩:=hW.Ct.row Ay
     have hrb:=hm.aT r0 (List.mem_of_getElem? Ay)
     refine kd (dat (i) (off+i*1)) ?_;refine qA (off:=0) (by kernel_rfl) rfl (by decide) ?_;refine jE (by kernel_rfl) rfl (Cb (by simp) (hro.at_ (j:=0) rfl)) (by decide) ?_;refine dH (fun w1 st=>aCW _ _ _ w1) ?_
     (first | refine Lu rfl (by decide) ?_ | refine zP rfl (by decide) ?_)
     refine dN ?_;refine aG rfl (fun h=>by first | exact absurd rfl h | cases h | (exfalso;omega)) (fun h=>?_)
     ·
      refine lX ?_;refine dV ?_;refine eA ?_;refine cQ rfl (by decide) ?_;refine zU rfl rfl (iR (by omega)) (by decide) ?_;refine fQ rfl (by decide) ?_;refine dN ?_;exact dW (n3 - (i+1)) ⟨i+1,by omega,rfl,rfl,rfl,rfl⟩
    ·
     refine Zt ?_;refine dV ?_;refine cP ?_;refine eA ?_;refine Uc 4 rfl ?_;refine dH (fun w1 st=>aMT s A1 A2 A3 A4 n1 k1 n2 k2 n3 k3 n4 k4 w1 (hW.le (st.started (by simp))) hm) ?_;refine fQ rfl (by decide) ?_;refine dN ?_;refine Lc ?_;refine dV ?_;exact aS (h:=fun _ _=>rfl)
end
section
def wK(v:Value):Prop:=∃(p:Option Addr) (e:Int),v=.tuple #[.pointer p,iv e]
theorem jN.aCT{α:Type}{w:World}{R:α→List Value→Prop}{t:TypeId}{sz n k:Nat}{A:Option Addr}{es:List α}{e:α}(h:jN (fF (all w)) R t sz A n es)(hk:es[k]? =some e):∃b off r,A=some ⟨b,off,none⟩∧R e r∧eG w b (off+k*sz) r:=by
 obtain⟨b,off,r,h1,h2,_,h3,h4⟩:=h.aGI hk;exact⟨b,off,r,h1,h3,h2,fun j v hv=>h4 j v hv⟩
theorem aSu{s:aC}(hm:s.made){i:Nat}{c:eD}(hc:s.aF[i]? =some c):c.src.length≤2:=by
 rcases(hm.aF i c hc).2 with h | h | h | h | h
 ·rw[h.2.1];simp
 all_goals(have:=h.2.1;omega)
theorem aOZ(l:List Int):∀v∈aK l,v.oneCell'=true:=fun v hv=>by
 simp[aK] at hv;obtain⟨_,_,rfl⟩:=hv;rfl
section
variable(s:aC)(A1 A2 A3 A4:Option Addr)(n1 k1 n2 k2 n3 k3 n4 k4:Nat)(w:World)(hW:fL w s A1 n1 A2 n2 A3 n3 A4 n4)(hm:s.made)
include hW hm
theorem aNa:Cz 80 #[.agg #[.slice A1 n1 k1,.slice A2 n2 k2,.slice A3 n3 k3,.slice A4 n4 k4]] w (fun y w'=>(∃v,y=.returned v∧wK v)∧Below w.heap.size w w'):=by
 have iK:=hm.nr
 obtain⟨rr,cE,oU,hst⟩:=hW.Ct
 have cE:=aCP cE
 subst cE;subst oU;refine aN func80 ntmps80 ?_;refine aB ?_;refine bA fun g1=>?_;refine aB ?_;refine aU (fun w1 t=>Ve s A1 A2 A3 A4 n1 k1 n2 k2 _ k3 n4 k4 w1 (hW.le (t.started (by simp))) hm) ?_;refine aB ?_;refine bA fun g2=>?_;refine aB ?_;refine iP 3 1 ?_;refine iP 320 3 ?_;refine qN (α:=((Option Addr×Nat)×List Value)×(Option Addr×Nat)×List Value) (fun i _=>[(6,iv i),(5,pt g2),(1,pt g1)]) (fun i x=>[HP.own 320 3 (.slice x.1.1.1 i x.1.1.2) i x.1.2,HP.own 3 1 (.slice x.2.1.1 i x.2.1.2) i x.2.2,HP.aE g2 318 [.slice x.2.1.1 i x.2.1.2,.slice x.1.1.1 i x.1.1.2],HP.aE g1 30 [.slice A1 n1 k1,.slice A2 n2 k2,.slice A3 s.aT.length k3,.slice A4 n4 k4]]) (fun _ _=>True) s.aT.length (((none,0),[]),(none,0),[]) trivial fun i x hi _=>?_;obtain⟨⟨⟨L1,L2⟩,L3⟩,⟨⟨M1,M2⟩,M3⟩⟩:=x;dsimp only;refine aB ?_;refine aG rfl (fun hlt=>?_) (fun hge=>?_)
 ·have hlt:i < s.aT.length:=by omega
  obtain⟨c,hc⟩:=get_some hlt;obtain⟨b,off,rfl,hro⟩:=aI.row hst (fun r hr=>by obtain⟨q,_,rfl⟩:=List.mem_map.1 hr;rfl) (r:=[iv c]) (by rw[List.getElem?_map,hc];rfl) hlt
  have k0:=hro.at_ (j:=0) rfl
  simp only[Nat.mul_one] at k0;refine aB ?_;refine rG ?_;refine aO 11 ?_;refine eH fun g3=>?_;refine bM ?_;refine pH [12,13,14,15] ?_;refine aB ?_;refine sY 2 fun A' k'=>?_;dsimp only[List.set];refine aB ?_;refine eH fun g4=>?_;refine aB ?_;refine sY 2 fun A'' k''=>?_;dsimp only[List.set];refine aB ?_;exact jU (((_,_),_),(_,_),_)
 ·refine aB ?_;exact eL rfl rfl rfl fun w1 t=>⟨⟨_,rfl,⟨_,_,rfl⟩⟩,t.below (by simp)⟩
theorem aNb:Cz 79 #[.agg #[.slice A1 n1 k1,.slice A2 n2 k2,.slice A3 n3 k3,.slice A4 n4 k4]] w (fun y w'=>(∃v,y=.returned v∧wK v)∧Below w.heap.size w w'):=by
 have hnd:=hm.nd
 obtain⟨rr,cE,hn2,hst⟩:=hW.dom
 have cE:=aEw cE
 subst cE;subst hn2;refine aN func79 ntmps79 ?_;refine aB ?_;refine bA fun g1=>?_;refine aB ?_;refine aU (fun w1 t=>Ve s A1 A2 A3 A4 _ k1 _ k2 _ k3 n4 k4 w1 (hW.le (t.started (by simp))) hm) ?_;refine aB ?_;refine Eh (el:=50) (sz:=3) (by kernel_rfl) (by kernel_rfl) (by decide) fun g=>?_;refine Bw 0 3 0 rfl rfl (by omega) ?_;dsimp only[List.set];refine aB ?_
 refine gH 0 3 24 s.domains.length (n':=s.domains.length) (el:=50) (by kernel_rfl) (by kernel_rfl) (by decide) rfl rfl rfl (qW (by simp) hst) (fun v hv=>by
  simp only[List.mem_flatten,List.mem_map] at hv;obtain⟨_,⟨d,_,rfl⟩,hv⟩:=hv;simp only[List.mem_cons,List.not_mem_nil,or_false] at hv
  rcases hv with rfl | rfl | rfl<;>rfl) (by omega) (by omega) (by omega) (by decide) fun A k=>?_
 dsimp only[List.set,List.nil_append];refine aB ?_;refine bA fun g2=>?_;refine aB ?_;refine iP 315 3 ?_;refine qN (α:=(Option Addr×Nat)×List Value) (fun i _=>[(6,iv i),(5,pt g2)]) (fun i x=>[HP.own 315 3 (.slice x.1.1 i x.1.2) i x.2,HP.aE g2 313 [.slice A s.domains.length k,.slice x.1.1 i x.1.2]]) (fun _ _=>True) s.domains.length ((none,0),[]) trivial fun i x hi _=>?_;obtain⟨⟨L1,L2⟩,L3⟩:=x;dsimp only;refine aB ?_;refine aG rfl (fun hlt=>?_) (fun hge=>?_)
 ·have hlt:i < s.domains.length:=by omega
  refine aB ?_;refine eH fun g4=>?_;refine aB ?_;refine sY 1 fun A'' k''=>?_;dsimp only[List.set];refine aB ?_;exact jU ((_,_),_)
 ·refine aB ?_;exact eL rfl rfl rfl fun w1 t=>⟨⟨_,rfl,⟨_,_,rfl⟩⟩,t.below (by simp)⟩
theorem aNc:Cz 78 #[.agg #[.slice A1 n1 k1,.slice A2 n2 k2,.slice A3 n3 k3,.slice A4 n4 k4]] w (fun y w'=>(∃v,y=.returned v∧wK v)∧Below w.heap.size w w'):=by
 have hnc:=hm.nc
 obtain rfl:=hW.nB;refine aN func78 ntmps78 ?_;refine aB ?_;refine bA fun g1=>?_;refine aB ?_;refine aU (fun w1 t=>Ve s A1 A2 A3 A4 _ k1 _ k2 _ k3 n4 k4 w1 (hW.le (t.started (by simp))) hm) ?_;refine aB ?_;refine bA fun g2=>?_;refine aB ?_;refine iP 86 6 ?_;refine iP 310 5 ?_;refine qN (α:=((Option Addr×Nat)×List Value)×(Option Addr×Nat)×List Value) (fun i _=>[(6,iv i),(5,pt g2),(1,pt g1)]) (fun i x=>[HP.own 310 5 (.slice x.1.1.1 i x.1.1.2) i x.1.2,HP.own 86 6 (.slice x.2.1.1 i x.2.1.2) i x.2.2,HP.aE g2 308 [.slice x.2.1.1 i x.2.1.2,.slice x.1.1.1 i x.1.1.2],HP.aE g1 30 [.slice A1 s.aF.length k1,.slice A2 n2 k2,.slice A3 n3 k3,.slice A4 n4 k4]]) (fun _ _=>True) s.aF.length (((none,0),[]),(none,0),[]) trivial fun i x hi _=>?_;obtain⟨⟨⟨L1,L2⟩,L3⟩,⟨⟨M1,M2⟩,M3⟩⟩:=x;dsimp only;refine aB ?_;refine aG rfl (fun hlt=>?_) (fun hge=>?_)
 ·have hlt:i < s.aF.length:=by omega
  obtain⟨c,hc⟩:=get_some hlt;obtain⟨b,off,_,rfl,⟨AF,_,kF,rfl,rfl,hF⟩,hro⟩:=hW.jK.aCT hc
  have fX:=aSu hm hc
  refine aB ?_;refine bU fun g3=>?_;refine aB ?_;refine Eh (el:=3) (sz:=1) (by kernel_rfl) (by kernel_rfl) (by decide) fun g=>?_;refine Bw 0 1 0 rfl rfl (by omega) ?_;dsimp only[List.set];refine aB ?_;refine gH 0 1 8 c.src.length (n':=c.src.length) (el:=3) (by kernel_rfl) (by kernel_rfl) (by decide) rfl rfl rfl (qW (by simp) hF) (aOZ _) (by omega) (by omega) (by omega) (by decide) fun A k=>?_;dsimp only[List.set,List.nil_append];refine aB ?_;refine rG ?_;refine aO 6 ?_;refine eH fun g4=>?_;refine bM ?_;refine pH [7,8,9,10] ?_;refine aB ?_;refine sY 4 fun A' k'=>?_;dsimp only[List.set];refine aB ?_;refine bU fun g5=>?_;refine aB ?_;refine On (α:=Int) (fun _=>[(8,pt g5),(6,iv i),(5,pt g2),(1,pt g1)]) (fun v=>[HP.aE g5 310 [.bool false,iv v,iv 0,iv 0,iv c.div],HP.own 310 5 (.slice L1 i L2) i L3,HP.own 86 6 (.slice A' (i+1) k') (i+1) (M3++[.int .u8 c.kind,.slice A c.src.length k,.int .u64 c.rate,iv c.mul,iv c.div,iv c.lock]),HP.aE g2 308 [.slice A' (i+1) k',.slice L1 i L2],HP.aE g1 30 [.slice (some ⟨b,off,none⟩) s.aF.length k1,.slice A2 n2 k2,.slice A3 n3 k3,.slice A4 n4 k4]]) (fun _=>True) ?_ fun v _=>?_
  ·refine aB ?_;refine aG rfl (fun _=>?_) (fun _=>?_)
   ·refine aB ?_;exact fY _
   ·refine aB ?_;exact fY _
  refine aB ?_;refine rG ?_;refine aO 6 ?_;refine eH fun g6=>?_;refine bM ?_;refine pH [7,8,9,10] ?_;refine aB ?_;refine sY 2 fun A'' k''=>?_;dsimp only[List.set];refine aB ?_;exact jU (((_,_),_),(_,_),_)
 ·refine aB ?_;exact eL rfl rfl rfl fun w1 t=>⟨⟨_,rfl,⟨_,_,rfl⟩⟩,t.below (by simp)⟩
end
end
section
section
variable{N:cF}{w0 w:World}{e:Env}{R:List Piece}{H:List HP}{Q:Exit→Act→World→Prop}{ops:Array Oper}{rest:List Oper}{pos:String}{ty:TypeId}{aH:Array Edge}{p:HP}
theorem aOQ(i:Nat){x y:Operand}{s t:TypeId}{g o:Nat}{cs vs:List Value}(hi:H[i]? =some (HP.aE g t cs))(k:XK N w0 (wpList Tryz.prog ops Q rest) e R (H.set i (HP.aE g t (iI cs o vs))))(hx:e.ev x=some (.pointer (some ⟨g,o,none⟩)):=by rfl)(hy:e.ev y=some (.agg vs.toArray):=by rfl)(hs:(Tryz.prog.info? s).any (·.size==vs.length)=true:=by kernel_rfl)(h1:vs.all Value.oneCell'=true:=by rfl)(hl:decide (o+vs.length≤cs.length)=true:=by rfl):
  XK N w0 (wpList Tryz.prog ops Q (⟨none,.store s x y,ty,pos,aH,none⟩::rest)) e R H:=
 rO i hi hx hy hs (fun u hu=>List.all_eq_true.1 h1 u (by simpa[Value.cells] using hu)) (by simpa[Value.cells] using of_decide_eq_true hl) (by simpa[Value.cells] using k)
end
section
variable(s:aC)(A1 A2 A3 A4:Option Addr)(n1 k1 n2 k2 n3 k3 n4 k4:Nat)(w:World)(hm:s.made)
include hm
theorem aNh:Cz 85 #[.agg #[.slice A1 s.aF.length k1,.slice A2 s.domains.length k2,.slice A3 s.aT.length k3,.slice A4 n4 k4]] w (fun y w'=>(∃v,y=.returned v∧∃v1 v2 v3 v4 v5 v6:Value,v=.agg #[v1,v2,v3,v4,v5,v6])∧Below w.heap.size w w'):=by
 have hnc:=hm.nc
 have hnd:=hm.nd
 have iK:=hm.nr
 refine aN func85 ntmps85 ?_;refine aB ?_;refine bA fun g1=>?_;refine bU fun g2=>?_;refine aB ?_;refine bU fun g3=>?_;refine aB ?_;refine qN (α:=(Value×Value×Value)×Value×Value×Value) (fun i _=>[(4,iv i),(3,pt g3),(2,pt g2),(1,pt g1)]) (fun i x=>[HP.aE g3 201 [x.1.1,x.1.2.1,x.1.2.2,x.2.1,x.2.2.1,x.2.2.2],HP.aE g2 201 [sn,sn,sn,sn,sn,sn],HP.aE g1 30 [.slice A1 s.aF.length k1,.slice A2 s.domains.length k2,.slice A3 s.aT.length k3,.slice A4 n4 k4]]) (fun _ x=>∀v∈[x.1.1,x.1.2.1,x.1.2.2,x.2.1,x.2.2.1,x.2.2.2],v.oneCell'=true) 2 ((sn,sn,sn),sn,sn,sn) (by simp[Value.oneCell']) fun i x hi hx=>?_;obtain⟨⟨a1,a2,a3⟩,a4,a5,a6⟩:=x;dsimp only at hx⊢;refine aB ?_;refine aG rfl (fun hlt=>?_) (fun hge=>?_)
 ·obtain rfl | rfl:i=0∨i=1:=by omega
  all_goals
   refine aB ?_;refine rF 15 (by kernel_rfl) (by kernel_rfl) ?_;refine bB 0 ?_;refine bB 1 ?_;refine bB 2 ?_;refine bB 3 ?_;refine bB 5 ?_;refine bB 6 ?_;refine bB 7 ?_;refine bB 9 ?_;refine bB 10 ?_;refine bB 11 ?_;refine bB 14 ?_;refine aCe (fuel:=3) [4,8,12] [[4,8,12]] (fun i=>match i with | 4=>⟨13,4,List.replicate s.domains.length (.bool false),fun g=>.slice (some ⟨g,0,none⟩) s.domains.length s.domains.length⟩ | 8=>⟨17,4,List.replicate s.aF.length (.bool false),fun g=>.slice (some ⟨g,0,none⟩) s.aF.length s.aF.length⟩ | _=>⟨21,4,List.replicate s.aT.length (.bool false),fun g=>.slice (some ⟨g,0,none⟩) s.aT.length s.aT.length⟩) (fun i hi=>?_) (by show[13,17,21].Nodup;decide) (by kernel_rfl) (fun _ h=>h) (fun sub hsub hex g=>?_)
   ·simp only[List.mem_cons,List.not_mem_nil,or_false] at hi;rcases hi with rfl | rfl | rfl
    ·exact uJ.of rfl rfl rfl (Aj 1 (el:=4) (z:=.bool false) (by kernel_rfl) (by kernel_rfl) rfl rfl rfl (by omega) (by omega)) (Nat.le_of_ble_eq_true rfl) rfl
    ·exact uJ.of rfl rfl rfl (Aj 1 (el:=4) (z:=.bool false) (by kernel_rfl) (by kernel_rfl) rfl rfl rfl (by omega) (by omega)) (Nat.le_of_ble_eq_true rfl) rfl
    ·exact uJ.of rfl rfl rfl (Aj 1 (el:=4) (z:=.bool false) (by kernel_rfl) (by kernel_rfl) rfl rfl rfl (by omega) (by omega)) (Nat.le_of_ble_eq_true rfl) rfl
   have fX:sub=[4,8,12]:=by simpa using hex
   subst fX;dsimp only[rB,tR,kT,List.map,List.foldr,List.cons_append,List.nil_append,List.length_cons,List.length_nil,Nat.reduceAdd,Nat.reduceSub];refine bB 13 ?_ (hi:=rfl) (dI:=gA rfl) (hsub:=fun _ h=>h.tail.tail.tail);refine cG 15 ?_;refine kz ?_;refine fA ?_;refine cG 16 ?_;refine aOQ 3 rfl ?_;simp only[iI,List.set,Nat.reduceAdd,Nat.zero_add,List.take,List.drop,List.cons_append,List.nil_append,List.length_cons,List.length_nil];refine fA ?_;refine kG ?_;refine aB ?_;exact jU ((_,_,_),_,_,_) (hg:=by simp[Value.oneCell'] at hx⊢;simp[hx])
 ·refine aB ?_;refine oO 1 rfl ?_ (h1:=List.all_eq_true.2 hx);dsimp only[List.set];refine aB ?_;exact Oj (vs:=[a1,a2,a3,a4,a5,a6]) rfl (by kernel_rfl) rfl rfl (aR.whole 1 rfl) fun w1 t=>⟨⟨_,rfl,_,_,_,_,_,_,rfl⟩,t.below (by simp)⟩
end
end
end Go.Proofs.YtdcdccmpcmjmhaaGreatDoor
