/- package firm: take. -/
import Derived.Tactics2
import Derived.Test.YtdcdccmpcmjmhaaGreatDoorRpmKeepsK5
namespace Go.Proofs.YtdcdccmpcmjmhaaGreatDoor
set_option linter.all false
set_option maxHeartbeats 4000000
set_option maxRecDepth 20000
open Go.RowKit Go.Proofs.Tryz
section
section
variable{h:Nat}{L:gF}{s:aC}{z:bZ}
theorem aIC{b:Nat}(hb:b < 2):(jW h L s z)[11+b*2]? =some (iv (Bg z b)):=by
 obtain rfl | rfl:b=0∨b=1:=by omega
 ·rfl
 ·rfl
end
structure Ed(s:aC)(z:bZ):Prop where
 la:z.last=0∨z.last=1
 u0:wG z.w0
 u1:wG z.w1
 n0:z.w0.length≤1000000
 n1:z.w1.length≤1000000
 sx:z.x.sm
 sy:z.y.sm
theorem Ed.box{s:aC}{z:bZ}(h:Ed s z)(b:Nat):wG (kU z b)∧(kU z b).length≤1000000:=by
 unfold kU;split
 ·exact⟨h.u0,h.n0⟩
 ·exact⟨h.u1,h.n1⟩
def gB(s:aC)(x:aM)(z:bZ)(a:Nat):Int×Int×Int:=jH s z.x z.y (mB s x) a (kU z a)
def wT(s:aC)(x:aM)(z:bZ)(a:Nat):bZ×Bool:=
 let d:=gB s x z a
 if d.2.1=0 then(wU s x {z with last:=a} a d.1,false)
 else({z with last:=a,x:=jY z.x a d.2.1 d.2.2,y:=mR z.y a d.2.1 d.2.2,at_:=a,kind:=d.2.1,id:=d.2.2},true)
def mT(s:aC)(x:aM)(z:bZ):bZ×Bool:=match sW z with
 | none=>(z,false)
 | some a=>wT s x z a
theorem aI8(f:Nat)(hL:HL)(s:aC)(z:bZ)(x:aM)(hH:s.dJ)(aW:iU hL s)(hok:cM s x)(hz:Ed s z)(l a:Nat)(hl:z.last=(l:Int))(iS:l≤1)(ha:a < 2)(hab:(Bg z (1 - l)=1∧a=1 - l)∨(Bg z (1 - l)≠1∧a=l))(h1:Bg z a=1)
  (hst:(gB s x z a).2.1=0→(gB s x z a).1=0→uD (kU z a)) (w:World) (F:Nat→Prop) (hp:(gT f hL s z x).sat F w) (hF:∀b,F b→b < w.heap.size):
  Cz 50 #[pt f] w (Wr (.bool (wT s x z a).2) (gT f hL s (wT s x z a).1 x) w F):=by
 have nD:=hH.t.nv
 unfold wT;generalize hdz:gB s x z a=dz at hst⊢;obtain⟨st,k,id⟩:=dz;dsimp only at hst⊢;obtain⟨hbu,hbn⟩:=hz.box a;refine dK func50 ntmps50 hp hF ?_;refine bF 0 0 ?_;refine lY 0 fun L=>?_
 have aIx:(jW hL.h L s z)[15]? =some (iv (l:Int)):=by rw[←hl];rfl
 refine cP ?_;refine eA ?_;refine bH ?_;refine dN ?_;refine cP ?_;refine eA ?_;refine bH ?_;refine bH ?_;refine bH ?_;refine kd (bN rfl (Rd.eZ 0 rfl aIx)) ?_;refine kd (Nw rfl rfl (c:=((1 - l:Nat):Int)) (by rw[show(1:Int) - (l:Int)=((1 - l:Nat):Int) by omega];exact iR (by omega))) ?_;refine bH ?_;refine dN ?_;refine Tj (fun e R H=>e=[(3,iv (a:Int)),(0,pt f)]∧R=[⟨w,fun b=>b < w.heap.size∧¬F b⟩]∧H=[iQ f hL.h L s z,HP.many [cH,dR hL s x]]) ?_ ?_
 ·refine cP ?_;refine eA ?_;refine bH ?_;refine bH ?_;refine bH ?_;refine bH ?_;refine kd (gN (1 - l) (11+(1 - l)*2)) ?_;refine bH ?_;refine kd (bN rfl (Rd.eZ 0 rfl (aIC (by omega)))) ?_;refine bH ?_;refine dN ?_;rcases hab with⟨h2,rfl⟩ | ⟨h2,rfl⟩
  ·refine aG rfl (fun h=>absurd h2 h) (fun _=>?_);refine lX ?_;refine dV ?_;exact pG ⟨rfl,rfl,rfl⟩
  ·refine aG rfl (fun _=>?_) (fun h=>absurd h2 h);refine eA ?_;refine bH ?_;refine bH ?_;refine bH ?_;refine kd (bN rfl (Rd.eZ 0 rfl aIx)) ?_;refine bH ?_;refine dN ?_;exact pG ⟨rfl,rfl,rfl⟩
 rintro _ _ _ ⟨rfl,rfl,rfl⟩;refine aA ?_;refine kd (gN a (11+a*2)) ?_;refine aA ?_;refine kd (bN rfl (Rd.eZ 0 rfl (aIC ha))) ?_;refine aA ?_;refine aG rfl (fun h=>absurd h1 h) (fun _=>?_);refine aA ?_;refine bF 0 0 ?_;refine fG rfl rfl ?_ (hs:=fB.mk 0 rfl cK.h rfl (by simp[jW]));dsimp only[List.set];rw[show(jW hL.h L s z).set (0+15) (iv (a:Int))=jW hL.h L s {z with last:=(a:Int)} from rfl];refine aP 0 0 ?_
 change XK _ _ _ _ _ [iQ f hL.h L s {z with last:=(a:Int)},HP.many [cH,dR hL s x]]
 generalize mN:({z with last:=(a:Int)}:bZ)=z1
 have e1:z1.x=z.x:=by rw[←mN]
 have e2:z1.y=z.y:=by rw[←mN]
 have e3:kU z1 a=kU z a:=by rw[←mN];rfl
 refine aA ?_;refine kd (bN rfl (Rd.eZ 0 rfl rfl)) ?_;refine aA ?_;refine mA (n:=s.aD.length) 8 (el:=3) (z:=iv 0) (by kernel_rfl) (by kernel_rfl) rfl rfl rfl (by omega) (by omega) (by decide) fun gm=>?_;refine aA ?_;refine bF 2 1 ?_
 rw[show List.replicate s.aD.length (Value.int .i64 0)=aK (lD (mB s x) ((mB s x).map fun _=>0) 0) by
  rw[Vr];refine List.ext_getElem? fun j=>?_;simp only[aK,mB,List.map_map,List.getElem?_replicate,List.getElem?_map]
  by_cases h:j < s.aD.length
  ·rw[if_pos h,List.getElem?_range h];rfl
  ·rw[if_neg h,List.getElem?_eq_none (by simp;omega)];rfl]
 refine bK [(46,iv 0),(45,iv s.aD.length),(4,.slice (some ⟨gm,0,none⟩) s.aD.length s.aD.length),(3,iv (a:Int)),(0,pt f)] ?_
 have vV:(mB s x).length=s.aD.length:=by simp[mB]
 refine eJ (fun m e R H=>∃i:Nat,i≤s.aD.length∧m=s.aD.length - i∧e=[(46,iv i),(45,iv s.aD.length),(4,.slice (some ⟨gm,0,none⟩) s.aD.length s.aD.length),(3,iv (a:Int)),(0,pt f)]∧R=[⟨w,fun b=>b < w.heap.size∧¬F b⟩]∧H=[dR hL s x,HP.aE gm 3 (aK (lD (mB s x) ((mB s x).map fun _=>0) i)),iQ f hL.h L s z1,HP.many [cH,cH]]) s.aD.length ⟨0,by omega,rfl,rfl,rfl,rfl⟩ fun m e R H hI=>?_;obtain⟨i,hi,rfl,rfl,rfl,rfl⟩:=hI
 have Wo:=Vt (vs:=mB s x) (old:=(mB s x).map fun _=>0) (n:=s.aD.length) vV (by simp[mB]) hi
 have gZ:(aK (lD (mB s x) ((mB s x).map fun _=>0) i)).length=s.aD.length:=by simp[aK,Wo]
 refine aA ?_;refine aG rfl (fun hlt=>?_) (fun hge=>?_)
 ·have hlt:i < s.aD.length:=by omega
  have hwi:(mB s x)[i]? =some (iH x.wt i:Int):=by simp[mB,hlt]
  have iZ:(aK (lD (mB s x) ((mB s x).map fun _=>0) i)).set i (iv (iH x.wt i:Nat))=aK (lD (mB s x) ((mB s x).map fun _=>0) (i+1)):=by
   rw[←Vs (by simp) hwi,aK,aK,List.map_set]
  refine aA ?_;refine kd (bN rfl (Rd.eZ 2 rfl rfl)) ?_;refine aA ?_;refine aU (fun w1 t=>aPM hL s x w1 i hlt (t.nF 0 rfl aW hok)) ?_;refine aA ?_;refine kd (dat i i) ?_;refine fG rfl rfl ?_;dsimp only[List.set];rw[iZ];refine aA ?_;exact dW (s.aD.length - (i+1)) ⟨i+1,hlt,rfl,rfl,rfl,rfl⟩
 obtain rfl:i=s.aD.length:=by omega
 rw[Vu vV (by simp[mB])];refine aP 2 1 ?_;refine aA ?_;refine aCb (fun e R H=>∃g7:Nat,e=[(7,pt g7),(6,.int .i32 st),(3,iv (a:Int)),(0,pt f)]∧R=[⟨w,fun b=>b < w.heap.size∧¬F b⟩]∧H=[HP.aE g7 136 [.int .u8 k,iv id],iQ f hL.h L s z1,HP.many [cH,dR hL s x]]) ?_ ?_
 ·refine jM [1,2,3,5,6,7,12,13,14,15,16,19,20] ?_;refine bP 0 ?_;refine bP 4 ?_;refine bP 8 ?_;refine bP 9 ?_;refine bP 10 ?_;refine bP 11 ?_;refine aJ 1 ?_;refine aJ 2 ?_;refine aJ 3 ?_ (dI:=oZ rfl (aR.eZ 1 rfl (vs:=[.slice L.a1.1 s.aF.length L.a1.2,.slice L.a2.1 s.domains.length L.a2.2,.slice L.a3.1 s.aT.length L.a3.2,.slice L.a4.1 s.aD.length L.a4.2]) rfl));refine aJ 5 ?_;refine aJ 6 ?_;refine aJ 7 ?_ (dI:=oZ rfl (aR.eZ 1 rfl (vs:=[.slice L.x1.1 z1.x.d.length L.x1.2,.slice L.x2.1 z1.x.c.length L.x2.2,.slice L.x3.1 z1.x.l.length L.x3.2,.slice L.y1.1 z1.y.d.length L.y1.2,.slice L.y2.1 z1.y.c.length L.y2.2,.slice L.y3.1 z1.y.l.length L.y3.2]) rfl));refine aJ 12 ?_;refine aJ 13 ?_;refine aJ 14 ?_ (dI:=gN (sz:=2) a (11+a*2));refine aJ 15 ?_;refine aJ 16 ?_ (dI:=bN rfl (Rd.eZ 1 rfl (v:=.slice (xI L a).1 (kU z1 a).length (xI L a).2) (by rw[show 11+a*2+1=12+a*2 by omega];exact aID ha)))
  have Be:∀H:List HP,H[H.length - 2]? =some (iQ f hL.h L s z1)→(H.length=3∨H.length=4)→H[H.length - 3]? =some (HP.aE gm 3 (aK (mB s x)))→∀w1,St w [⟨w,fun b=>b < w.heap.size∧¬F b⟩] H w1→Cz 98 #[.agg #[.slice L.a1.1 s.aF.length L.a1.2,.slice L.a2.1 s.domains.length L.a2.2,.slice L.a3.1 s.aT.length L.a3.2,.slice L.a4.1 s.aD.length L.a4.2],.agg #[.slice L.x1.1 z1.x.d.length L.x1.2,.slice L.x2.1 z1.x.c.length L.x2.2,.slice L.x3.1 z1.x.l.length L.x3.2,.slice L.y1.1 z1.y.d.length L.y1.2,.slice L.y2.1 z1.y.c.length L.y2.2,.slice L.y3.1 z1.y.l.length L.y3.2],.slice (some ⟨gm,0,none⟩) s.aD.length s.aD.length,iv (a:Int),.slice (xI L a).1 (kU z1 a).length (xI L a).2] w1 (Rt (aEK (st,k,id)) w1):=fun H h2 _ h3 w1 t=>by
   have kf:=t.Gb _ h2
   have:=aSc (all w1) (all w1) s _ _ _ _ _ L.a1.2 _ L.a2.2 _ L.a3.2 _ L.a4.2 _ _ _ _ _ _ _ L.x1.2 _ L.x2.2 _ L.x3.2 _ L.y1.2 _ L.y2.2 _ L.y3.2 z1.x z1.y (some ⟨gm,0,none⟩) s.aD.length s.aD.length (mB s x) a _ _ (xI L a).2 (kU z1 a) w1 kf.so hH.t (Piece.Le.refl _) kf.stR (Piece.Le.refl _) (t.rQ h3 (by simp[aK,vV])) vV.symm ha (kf.box ha) rfl (by rw[e3];exact hbn) (by rw[e3];exact hbu)
   rw[show jH s z1.x z1.y (mB s x) a (kU z1 a)=(st,k,id) by rw[e1,e2,e3];exact hdz] at this;exact this
  refine Lg 17 21 rfl rfl (by kernel_rfl) ?_ ?_
  ·refine aU (fun w1 t=>Be _ rfl (.inl rfl) rfl w1 t) ?_;refine bM ?_;refine bP 18 ?_;refine aJ 19 ?_;refine aJ 20 ?_;refine aO 21 ?_;refine bU fun g7=>?_;refine bM ?_;refine aO 22 ?_;refine bH ?_;refine bM ?_;refine aO 23 ?_;refine oO 0 rfl ?_;dsimp only[List.set];refine cX ?_;refine fJ ?_;refine dV ?_;refine aY [0,2,3] rfl (by decide) (fun _ h=>h) ?_;exact pG ⟨g7,rfl,rfl,rfl⟩
  ·refine bU fun g7=>?_;refine bM ?_;refine aO 17 ?_;refine aU (fun w1 t=>Be _ rfl (.inr rfl) rfl w1 t) ?_;refine bM ?_;refine bP 18 ?_;refine aJ 19 ?_;refine aJ 20 ?_;refine aO 22 ?_;refine bH ?_;refine bM ?_;refine aO 23 ?_;refine oO 0 rfl ?_;dsimp only[List.set];refine cX ?_;refine fJ ?_;refine dV ?_;refine aY [0,2,3] rfl (by decide) (fun _ h=>h) ?_;exact pG ⟨g7,rfl,rfl,rfl⟩
 rintro _ _ _ ⟨g7,rfl,rfl,rfl⟩;refine aA ?_;refine aG rfl (fun hk=>?_) (fun hk=>?_)
 ·have hk:k=0:=hk
  rw[if_pos hk];refine fC 1 (fun L:gF=>iQ f hL.h L s z1) L ?_;refine aY [1,0,2] rfl (by decide) (fun _ h=>h) ?_;refine aP 1 0 ?_;refine aA ?_;refine dZ 1 (gT f hL s (wU s x z1 a st) x) (fun w1 F1 t h1 h2 h3=>aEm f hL s z1 x hH aW hok a ha st (fun h0=>by rw[e3];exact hst hk h0) w1 F1 h1 h2) ?_;refine aA ?_;exact cI 1 hF
 ·rw[if_neg hk];rw[show({z with last:=(a:Int),x:=jY z.x a k id,y:=mR z.y a k id,at_:=(a:Int),kind:=k,id:=id}:bZ)={z1 with x:=jY z1.x a k id,y:=mR z1.y a k id,at_:=(a:Int),kind:=k,id:=id} by rw[←mN]];refine aA ?_;refine jM [2,3,4,6] ?_;refine bP 0 ?_;refine bP 1 ?_;refine bP 5 ?_;refine aJ 2 ?_;refine aJ 3 ?_;refine aJ 4 ?_ (dI:=oZ rfl (aR.eZ 1 rfl (vs:=[.slice L.x1.1 z1.x.d.length L.x1.2,.slice L.x2.1 z1.x.c.length L.x2.2,.slice L.x3.1 z1.x.l.length L.x3.2,.slice L.y1.1 z1.y.d.length L.y1.2,.slice L.y2.1 z1.y.c.length L.y2.2,.slice L.y3.1 z1.y.l.length L.y3.2]) rfl));refine aJ 6 ?_;refine aO 7 ?_
  refine jQ [] (fun v w w'=>vB (fresh w w') (jY z1.x a k id) (mR z1.y a k id) v) (fun w1 t=>by
   have kf:=t.Gb 1 rfl
   exact aR3 (all w1) _ _ _ _ _ _ L.x1.2 L.x2.2 L.x3.2 L.y1.2 L.y2.2 L.y3.2 z1.x z1.y a k id w1 (Piece.Le.refl _) ha (by rw[e1];exact hz.sx) (by rw[e2];exact hz.sy) kf.st.1 kf.st.2.1 kf.st.2.2.1 kf.st.2.2.2.1 kf.st.2.2.2.2.1 kf.st.2.2.2.2.2) ?_
  rintro _ w2 q2 aPl uX _ Kk
  have Kk:=Kk (by simp)
  obtain⟨x1,x2,x3,y1,y2,y3,rfl,Mr⟩:=aPl.P
  have Mr:=rK.le _ _ uX (Mr L.a1 L.a2 L.a3 L.a4 L.b0 L.b1)
  refine Ld (Φ:=rK ⟨L.a1,L.a2,L.a3,L.a4,x1,x2,x3,y1,y2,y3,L.b0,L.b1⟩ (jY z1.x a k id) (mR z1.y a k id)) (hm:=rK.le) Kk (fun p hp b hb=>by simp at hp;subst hp;exact hb.1) Mr ?_;refine cX ?_;refine aO 8 ?_;refine bH ?_;refine cX ?_;refine aO 9 ?_;refine bH ?_;refine cX ?_;refine aO 10 ?_;refine bF 2 0 ?_;refine rO 0 (t:=138) rfl rfl rfl (by kernel_rfl) (by simp[Value.cells,Value.oneCell',yG]) (by simp[Value.cells,jW]) ?_;dsimp only[List.set];rw[show iI (jW hL.h L s z1) (0+5) (Value.agg #[yG x1 (jY z1.x a k id).d.length,yG x2 (jY z1.x a k id).c.length,yG x3 (jY z1.x a k id).l.length,yG y1 (mR z1.y a k id).d.length,yG y2 (mR z1.y a k id).c.length,yG y3 (mR z1.y a k id).l.length]).cells.toList=jW hL.h ⟨L.a1,L.a2,L.a3,L.a4,x1,x2,x3,y1,y2,y3,L.b0,L.b1⟩ s {z1 with x:=jY z1.x a k id,y:=mR z1.y a k id} from rfl];refine cX ?_;refine fJ ?_;refine dV ?_;refine bF 3 2 ?_;refine aY [1,2,3,4,5] rfl (by decide) (R':=[⟨w,fun b=>b < w.heap.size∧¬F b⟩]) (by simp) ?_;refine aY [1,0,2,3,4] rfl (by decide) (fun _ h=>h) ?_;refine aP 2 2 ?_;generalize oP:({z1 with x:=jY z1.x a k id,y:=mR z1.y a k id}:bZ)=z2;rw[show({z1 with x:=jY z1.x a k id,y:=mR z1.y a k id,at_:=(a:Int),kind:=k,id:=id}:bZ)={z2 with at_:=(a:Int),kind:=k,id:=id} by rw[←oP]];generalize hL2:(⟨L.a1,L.a2,L.a3,L.a4,x1,x2,x3,y1,y2,y3,L.b0,L.b1⟩:gF)=L2;refine cP ?_;refine aCb (fun e R H=>e=[(0,pt f)]∧R=[⟨w,fun b=>b < w.heap.size∧¬F b⟩]∧H=[HP.aE f 138 (jW hL.h L2 s {z2 with at_:=(a:Int),kind:=k,id:=id}),HP.aE g7 136 [.int .u8 k,iv id],HP.many [cH,HP.bY (wI L s) (wI.le (L:=L) (s:=s)),HP.bY (rK L2 (jY z1.x a k id) (mR z1.y a k id)) (rK.le (L:=L2) (x:=jY z1.x a k id) (y:=mR z1.y a k id)),HP.bY (eR L.b0 z1.w0) (eR.le (a:=L.b0) (l:=z1.w0)),HP.bY (eR L.b1 z1.w1) (eR.le (a:=L.b1) (l:=z1.w1))],HP.many [cH,dR hL s x]]) ?_ ?_
  ·refine jM [] ?_;refine bP 0 ?_;refine bP 1 ?_;refine bP 2 ?_
   repeat' (first
    | (refine fJ ?_;refine dV ?_;exact pG ⟨rfl,rfl,rfl⟩)
    | refine Lg 3 4 rfl rfl (by decide+kernel) ?_ ?_
    | refine Lg 3 5 rfl rfl (by decide+kernel) ?_ ?_
    | refine Lg 3 6 rfl rfl (by decide+kernel) ?_ ?_
    | refine aO 3 ?_
    | refine aO 4 ?_
    | refine aO 5 ?_
    | refine aO 6 ?_
    | refine aO 7 ?_
    | refine aO 8 ?_
    | refine aO 9 ?_
    | refine cX ?_
    | refine bH ?_
    | (refine fG rfl rfl ?_ (hs:=fB.mk 0 rfl cK.h rfl (by simp[jW]));dsimp only[List.set];rw[show(jW hL.h L2 s z2).set (0+16) (iv (a:Int))=jW hL.h L2 s {z2 with at_:=(a:Int)} from rfl])
    | (refine rO 0 (t:=138) rfl rfl rfl (by kernel_rfl) (by simp[Value.cells,Value.oneCell']) (by simp[Value.cells,jW]) ?_;dsimp only[List.set];rw[show iI (jW hL.h L2 s {z2 with at_:=(a:Int)}) (0+17) (Value.agg #[.int .u8 k,iv id]).cells.toList=jW hL.h L2 s {z2 with at_:=(a:Int),kind:=k,id:=id} from rfl]))
  rintro _ _ _ ⟨rfl,rfl,rfl⟩;refine aP 1 0 ?_;subst hL2;subst oP;refine xL 1 (f:=fun L:gF=>iQ f hL.h L s {({z1 with x:=jY z1.x a k id,y:=mR z1.y a k id}:bZ) with at_:=(a:Int),kind:=k,id:=id}) ⟨L.a1,L.a2,L.a3,L.a4,x1,x2,x3,y1,y2,y3,L.b0,L.b1⟩ rfl ?_;dsimp only[List.set];refine aY [1,0,2] rfl (by decide) (fun _ h=>h) ?_;refine aP 1 0 ?_;refine aA ?_;exact cI 1 hF
theorem aI9(f:Nat)(hL:HL)(s:aC)(z:bZ)(x:aM)(hH:s.dJ)(aW:iU hL s)(hok:cM s x)(hz:Ed s z)(hst:∀a,sW z=some a→(gB s x z a).2.1=0→(gB s x z a).1=0→uD (kU z a))(w:World)(F:Nat→Prop)(hp:(gT f hL s z x).sat F w)(hF:∀b,F b→b < w.heap.size):
  Cz 50 #[pt f] w (Wr (.bool (mT s x z).2) (gT f hL s (mT s x z).1 x) w F):=by
 unfold mT;cases hn:sW z with
 | none=>exact aQF f hL s z x hz.la hn w F hp hF
 | some a =>
  obtain⟨l,hl,iS⟩:∃l:Nat,z.last=(l:Int)∧l≤1:=by
   rcases hz.la with h | h
   ·exact⟨0,h,by omega⟩
   ·exact⟨1,h,by omega⟩
  have hn2:=hn
  unfold sW at hn;rw[show(1 - z.last).toNat=1 - l by omega,show z.last.toNat=l by omega] at hn
  by_cases h2:Bg z (1 - l)=1
  ·rw[if_pos h2] at hn;obtain rfl:=Option.some.inj hn;exact aI8 f hL s z x hH aW hok hz l _ hl iS (by omega) (.inl ⟨h2,rfl⟩) h2 (hst _ hn2) w F hp hF
  ·rw[if_neg h2] at hn
   by_cases h3:Bg z l=1
   ·rw[if_pos h3] at hn;obtain rfl:=Option.some.inj hn;exact aI8 f hL s z x hH aW hok hz l _ hl iS (by omega) (.inr ⟨h2,rfl⟩) h3 (hst _ hn2) w F hp hF
   ·rw[if_neg h3] at hn;cases hn
end
section
section
variable{P:Program}{N:cF}{w0 w:World}{K:Act→World→Prop}{e:Env}{R:List Piece}{H H':List HP}
theorem Zu{nn:Nat}{F:Nat→Prop}{p:HP}{f:FuncId}{fn:Func}{c:Code}{vs:List Value}{Post:Ending→World→Prop}(hf:P.funcs[f]? =some fn)(hb:fn.body=some c)(hN:fn.ntmps=nn)(hl:vs.length≤nn)(hp:p.sat F w)(hF:∀b,F b→b < w.heap.size)
  (h:XK ⟨nn,[]⟩ w (c.wp P (bodyPostD P fn Post)) (Gi 0 vs) [⟨w,fun b=>b < w.heap.size∧¬F b⟩] [p]):Calls P f vs.toArray w Post:=by
 refine calls_of_wp_defers hf hb (h _ _ ⟨?_,rfl,fun t v hv=>?_⟩ (aFe hp hF))
 ·simp;omega
 ·obtain⟨_,h2⟩:=Za vs 0 t v hv;rw[Nat.sub_zero] at h2
  have hlt:t < vs.length:=by
   rcases Nat.lt_or_ge t vs.length with h | h
   ·exact h
   ·rw[List.getElem?_eq_none h] at h2;cases h2
  rw[Array.getElem?_append_left (by simpa using hlt)]
  simpa using h2
theorem Bs{nn:Nat}{f:FuncId}{fi ca:List Value}{fn:Func}{Post:Ending→World→Prop}{x:Exit}(hx:x=.ret∨x=.normal)(hf:fH P f=true)
  (gZ:∀w,CallsD P f (fi++ca).toArray .returning w fun y u' w'=>y=.returned (.tuple #[])∧u'=.returning∧w'=w) (hr:fn.results=#[])
  (h:∀w,St w0 R H w→Post (.returned (.tuple #[])) w):XK ⟨nn,[Kv f fi ca]⟩ w0 (bodyPostD P fn Post x) e R H:=by
 have key:XK ⟨nn,[Kv f fi ca]⟩ w0 (bodyPostD P fn Post .ret) e R H:=aT9 (H':=H) hf (fun w1 st=>(gZ w1).mono fun y u' w' h=>by
  obtain⟨h1,h2,rfl⟩:=h
  exact⟨⟨_,h1⟩,h2,st⟩) fun a w1 _ st=>⟨.tuple #[],results_none hr _ _ _,h w1 st⟩
 rcases hx with rfl | rfl
 ·exact key
 ·exact key
end
theorem Ya(w:World):CallsD Tryz.prog 49 #[] .returning w fun e u' w'=>e=.returned (.tuple #[])∧u'=.returning∧w'=w:=by
 refine callsD_of_wpS func49 rfl fun c₀ cs hu=>?_;apply wpS_region;simp[wpOpsS,go_sem,recoverD,hu,ntmps49,Exit.thenS];cases c₀;simp_all [bodyPostS,results,Tryz.results49]
section
variable{N:cF}{w0 w:World}{e:Env}{R:List Piece}{H:List HP}{K:Act→World→Prop}{f:Nat}{hL:HL}{s:aC}{z:bZ}{x:aM}
theorem Iw(i:Nat){o:Nat}{v:Value}(hi:H[i]? =some (gT f hL s z x))(hv:∀L,(jW hL.h L s z)[o]? =some v):Rd w0 R H f o v:=fun w t=>by
 obtain⟨F,⟨G,g1,g2,_⟩,h2,_⟩:=t.chunk hi;obtain⟨L,hL'⟩:=g1 0 _ rfl
 have:=((aKB hL' fun b hb=>h2 b (g2 0 b hb)).r0.at_ (hv L)).2
 rwa [Nat.zero_add] at this
end
theorem aQJ(f:Nat)(hL:HL)(s:aC)(z:bZ)(x:aM)(hH:s.dJ)(aW:iU hL s)(hok:cM s x)(hz:Ed s z)(hst:∀a,sW z=some a→(gB s x z a).2.1=0→(gB s x z a).1=0→uD (kU z a))(fK:z.at_ < 0)(hno:(mT s x z).2=false)(w:World)(F:Nat→Prop)(hp:(gT f hL s z x).sat F w)(hF:∀b,F b→b < w.heap.size):
  Cz 20 #[pt f] w (Wr (.tuple #[]) (gT f hL s (mT s x z).1 x) w F):=by
 refine Zu (vs:=[pt f]) (p:=gT f hL s z x) func20 rfl ntmps20 (by simp) hp hF ?_;refine aA ?_;refine Ud (f:=49) (fi:=[]) (ca:=[]) rfl ?_;refine aA ?_;refine kd (bN rfl (Iw 0 rfl fun _=>rfl)) ?_;refine aA ?_;refine bX (t:=8) rfl (fun _=>?_) (fun h=>absurd fK h);refine aA ?_;refine dZ 0 (gT f hL s (mT s x z).1 x) (fun w1 F1 t h1 h2 h3=>aI9 f hL s z x hH aW hok hz hst w1 F1 h1 h2) ?_;rw[hno];refine aA ?_;exact Bs (.inl rfl) (by kernel_rfl) Ya rfl fun w1 t=>⟨rfl,t.turns hF (by simp) (i:=0) rfl⟩
end
section
section
variable{s:aC}{x:aM}{l:Int}{b:Nat}{m a:List Int}
end
theorem Vp{s:aC}{st:List eP}(hH:s.dJ)(h:qS s st)(i:Int)(b:Bool):qS s (lC s st i b).2:=by
 unfold lC;split
 ·exact h
 ·split
  ·rename_i c x hc hx
   split
   ·exact h
   ·refine⟨by simp[h.len],fun y hy=>?_⟩;rcases List.mem_or_eq_of_mem_set hy with hy | rfl
    ·exact h.left y hy
    ·have h1:=(hH.t.aF i.toNat c hc).2
     have h2:=h.left x (List.mem_of_getElem? hx)
     unfold Gz;dsimp only;split
     ·omega
     ·exact h2
  ·exact h
theorem aFW{s:aC}{st:List eV}(hH:s.dJ)(h:vG s st)(i:Int):vG s (sN s st i).2:=by
 unfold sN;split
 ·exact h
 ·split
  ·rename_i c x hc hx
   split
   ·exact h
   ·have h1:=(hH.domains i.toNat c hc).2
    refine⟨by simp[h.len],fun y hy=>?_,fun y hy=>?_⟩
    ·rcases List.mem_or_eq_of_mem_set hy with hy | rfl
     ·exact h.left y hy
     ·exact h1
    ·rcases List.mem_or_eq_of_mem_set hy with hy | rfl
     ·exact h.phase y hy
     ·exact⟨by show(0:Int)≤114;omega,by show(114:Int) < 256;omega⟩
  ·exact h
end
section
def kM(p:Piece):Prop:=∀(i:Nat) (v:Int),[(114:Int),97,115,100][i]? =some v→p.Z 0∧p.w.cell? ⟨0,i,none⟩=some (.int .u8 v)
theorem kM.at_{p:Piece}{w:World}(h:kM p)(hl:p.Le (all w)):Tx w:=fun i v hv=>by
 obtain⟨h1,h2⟩:=h i v hv;obtain⟨h3,h4⟩:=hl 0 h1;refine⟨h3,?_⟩;rw[←h2];exact World.cell?_of_block h4
theorem kM.le{p q:Piece}(h:kM p)(hl:p.Le q):kM q:=fun i v hv=>by
 obtain⟨h1,h2⟩:=h i v hv;obtain⟨h3,h4⟩:=hl 0 h1;exact⟨h3,(World.cell?_of_block h4).trans h2⟩
def Cw(s:aC)(d:Int)(k:Nat)(p:bR×dB):bR×dB:=match s.aD[k]? with
 | some dv=>if dv.domain=d then(p.1,(nO p.2).2) else p
 | none=>p
def rY(s:aC)(x:aM)(d:Int)(n:Nat):List (bR×dB):=x.dv.mapIdx fun k p=>if k < n then Cw s d k p else p
def wW(s:aC)(x:aM)(d:Int):aM×Bool:=
 if rU x.dm d=48∨rU x.dm d=116 then({x with dm:=(sN s x.dm d).2},false)
 else if rU x.dm d=49 then({x with dv:=rY s x d s.aD.length},true) else(x,false)
def Kx(s:aC)(x:aM)(c:Nat):aM×Bool:=
 ({x with ck:=(lC s x.ck c true).2},qC s (lC s x.ck c true).2 c||(decide ((fU s c).length < 2)|| !qC s (lC s x.ck c true).2 ((fU s c).getD 1 0:Nat)))
def yK(x:aM)(i:Int):aM×Bool:=if Ba x.ln i then({x with ln:=(vO x.ln i).2},false) else(x,true)
theorem aHJ{x:dB}(h:Cc x):Cc (nO x).2:=by
 unfold nO;split
 ·exact h
 ·exact⟨by show(0:Int)≤0;omega,by show(0:Int)≤3;omega⟩
theorem aD1{s:aC}{x:aM}(hH:s.dJ)(hok:cM s x)(d:Int)(n:Nat):cM s {x with dv:=rY s x d n}:=Vq hH hok (by simp[rY]) fun i e p hd hp=>by
 rw[rY,List.getElem?_mapIdx] at hp;cases hq:x.dv[i]? with
 | none=>rw[hq] at hp;cases hp
 | some q =>
  rw[hq] at hp;obtain⟨h1,h2⟩:=hok.each i e q hd hq;simp only[Option.map_some,Option.some.injEq] at hp;subst hp;split
  ·unfold Cw;rw[hd];dsimp only;split
   ·exact⟨h1,aHJ h2⟩
   ·exact⟨h1,h2⟩
  ·exact⟨h1,h2⟩
section
variable{N:cF}{w0 w:World}{e:Env}{R:List Piece}{H:List HP}{Q:Exit→Act→World→Prop}{ops:Array Oper}{rest:List Oper}{K:Act→World→Prop}
variable{d:Nat}{ty:TypeId}{pos:String}{aH:Array Edge}{f h:Nat}{L:gF}{s:aC}{z:bZ}
theorem aF8(n:Nat)(Φ:List Value→Prop){x:Operand}{t:TypeId}{b o:Nat}[hT:nI t n](hx:e.ev x=some (.pointer (some ⟨b,o,none⟩)))(h:∀w,St w0 R H w→∃vs,eG w b o vs∧vs.length=n∧Φ vs)(k:∀vs,Φ vs→XK N w0 (wpList Tryz.prog ops Q rest) ((d,.agg vs.toArray)::e) R H)(hd:d < N.n:=by decide):
  XK N w0 (wpList Tryz.prog ops Q (⟨some d,.load t x,ty,pos,aH,none⟩::rest)) e R H:=vJ rfl fun a w hr st=>by
 obtain⟨vs,h1,h2,h3⟩:=h w st;exact⟨.agg vs.toArray,w,aJd (N:=N) (w0:=w) (R:=[all w]) (H:=[]) (d:=d) (ty:=ty) (pos:=pos) (aH:=aH) n hT.h hx (zJ (by simp) h1) h2 a w hr (St.start w),k vs h3 _ _ (hr.put hd _) st⟩
theorem aJW(j:Nat)(hj:H[j]? =some (iQ f h L s z))(hn:0 < s.aD.length)(k:∀b off,L.a4.1=some ⟨b,off,none⟩→XK N w0 K e R H):XK N w0 K e R H:=fun a w hr st=>by
 obtain⟨b,off,r,hA,_⟩:=jN.row (st.Gb j hj).so.dev (List.getElem?_eq_getElem hn);exact k b off hA a w hr st
def aFu(d:bL)(vs:List Value):Prop:=∃A n k A' n' k',vs=[iv d.clock,iv d.domain,iv d.reset,.int .u32 d.iT,.slice A n k,.slice A' n' k']
theorem aIF{i b off:Nat}{d:bL}(kf:Lo w f h L s z)(hA:L.a4.1=some ⟨b,off,none⟩)(hd:s.aD[i]? =some d):∃vs,eG w b (off+i*6) vs∧vs.length=6∧aFu d vs:=by
 obtain⟨b',off',r,sE,hl,⟨A,n,k,A',n',k',he,_⟩,hro⟩:=jN.row kf.so.dev hd;rw[hA] at sE;cases sE;exact⟨r,hro,hl,A,n,k,A',n',k',he⟩
end
variable(f:Nat)(hL:HL)(s:aC)(z:bZ)(x:aM)(w:World)
theorem aQM(hH:s.dJ)(aW:iU hL s)(hok:cM s x)(d:Int)(F:Nat→Prop)(hp:(gT f hL s z x).sat F w)(hF:∀b,F b→b < w.heap.size)(fD:kM ⟨w,fun b=>b < w.heap.size∧¬F b⟩):
  Cz 100 #[pt f,iv d] w (Wr (.bool (wW s x d).2) (gT f hL s z (wW s x d).1) w F):=by
 have nD:=hH.t.nv
 have jA:=hok.dv
 refine dK func100 ntmps100 hp hF ?_;generalize cN:(⟨w,fun b=>b < w.heap.size∧¬F b⟩:Piece)=R0 at fD⊢;refine bF 0 0 ?_;refine lY 0 fun L=>?_;refine bF 1 1 ?_;refine aA ?_;refine kd (bN rfl (Rd.eZ 1 rfl rfl)) ?_;refine aA ?_;refine aU (fun w1 t=>aDV hL s x w1 hok.dm d (t.nF 0 rfl aW hok)) ?_;unfold wW;generalize mP:rU x.dm d=ph
 by_cases h48:ph=48
 ·subst h48;rw[if_pos (.inl rfl)];refine aA ?_;refine kd (bN rfl (Rd.eZ 1 rfl rfl)) ?_;refine aA ?_;refine dZ 0 (dR hL s {x with dm:=(sN s x.dm d).2}) (fun w1 F1 t h1 h2 h3=>aIq hL s x w1 hH aW hok d F1 h1 h2) ?_;refine aA ?_;refine aP 1 1 ?_;refine fC 0 (fun L:gF=>iQ f hL.h L s z) L ?_;refine aP 0 0 ?_;subst cN;exact cI 0 hF
 by_cases Xu:ph=116
 ·subst Xu;rw[if_pos (.inr rfl)];refine aA ?_;refine kd (bN rfl (Rd.eZ 1 rfl rfl)) ?_;refine aA ?_;refine dZ 0 (dR hL s {x with dm:=(sN s x.dm d).2}) (fun w1 F1 t h1 h2 h3=>aIq hL s x w1 hH aW hok d F1 h1 h2) ?_;refine aA ?_;refine aP 1 1 ?_;refine fC 0 (fun L:gF=>iQ f hL.h L s z) L ?_;refine aP 0 0 ?_;subst cN;exact cI 0 hF
 rw[if_neg (by omega)]
 by_cases xD:ph=49
 ·subst xD;rw[if_pos rfl];refine aA ?_;refine kd (bN rfl (Rd.eZ 1 rfl rfl)) ?_;refine aA ?_
  have hm0:rY s x d 0=x.dv:=Qo _ _
  refine bK [(31,iv (0)),(30,iv s.aD.length),(29,.slice L.a4.1 s.aD.length L.a4.2),(0,pt f),(1,iv d)] ?_;refine eJ (fun m e R H=>∃i:Nat,i≤s.aD.length∧m=s.aD.length - i∧e=[(31,iv (i:Int)),(30,iv s.aD.length),(29,.slice L.a4.1 s.aD.length L.a4.2),(0,pt f),(1,iv d)]∧R=[R0]∧H=[dR hL s {x with dv:=rY s x d i},iQ f hL.h L s z,HP.many [cH,cH]]) s.aD.length ⟨0,by omega,rfl,rfl,rfl,by rw[hm0]⟩ fun m e R H hI=>?_;obtain⟨i,hi,rfl,rfl,rfl,rfl⟩:=hI
  have nQ:=aD1 hH hok d i
  refine aA ?_;refine aG rfl (fun hlt=>?_) (fun hge=>?_)
  ·have hlt:i < s.aD.length:=by omega
   obtain⟨dv,dF⟩:=get_some hlt;obtain⟨p,gK⟩:=get_some (l:=x.dv) (i:=i) (by omega)
   have lV:(rY s x d i)[i]? =some p:=Qq gK
   have hstep:(rY s x d i).set i (Cw s d i p)=rY s x d (i+1):=Qp (f:=Cw s d) gK
   obtain⟨q1,q2⟩:=(nQ.each i dv p dF lV).2;refine aJW 1 rfl (by omega) fun b off hA=>?_;refine aA ?_;refine kd (dat i (off+i*6) (hx:=by rw[←hA];rfl)) ?_;refine aF8 6 (aFu dv) rfl (fun w1 t=>aIF (t.Gb 1 rfl) hA dF) ?_;rintro _ ⟨A,n,k,A',n',k',rfl⟩;refine bU fun g1=>?_;refine aA ?_;refine aG rfl (fun he=>?_) (fun he=>?_)
   ·have nE:Cw s d i p=p:=by
     unfold Cw;rw[dF];exact if_neg he
    rw[nE,yH lV] at hstep;rw[hstep];refine aA ?_;refine aY [1,2,3] rfl (by decide) (fun _ h=>h) ?_;exact dW (s.aD.length - (i+1)) ⟨i+1,hlt,rfl,rfl,rfl,rfl⟩
   ·have he:dv.domain=d:=by simpa using he
    have nE:Cw s d i p=(p.1,(nO p.2).2):=by
     unfold Cw;rw[dF];exact if_pos he
    have hst:uN {x with dv:=rY s x d i} i=qH p.2.at_:=by
     unfold uN;dsimp only;rw[lV];rfl
    refine aA ?_;refine kd (bN rfl (Rd.eZ 2 rfl rfl)) ?_;refine aA ?_;refine aU (fun w1 t=>aIr hL s _ w1 aW nQ i hlt (fD.at_ (t.le (by simp))) (t.nF 1 rfl aW nQ)) ?_;rw[hst]
    by_cases ha:p.2.at_=2∨p.2.at_=3
    ·have hlf:qH p.2.at_=115∨qH p.2.at_=100:=by
      rcases ha with ha | ha<;>rw[ha]
      ·exact .inl rfl
      ·exact .inr rfl
     rcases hlf with hlf | hlf<;>rw[hlf]
     all_goals
      refine aA ?_;refine kd (bN rfl (Rd.eZ 2 rfl rfl)) ?_;refine aA ?_;refine zT (α:=Int) 1 (f:=176) (fi:=[]) (ca:=[]) (fun r=>iv r) (fun _=>dR hL s (Ap {x with dv:=rY s x d i} i)) (fun _=>True) (by kernel_rfl) rfl rfl rfl (by decide) (fun w1 F1 t h1 h2 h3=>aDW hL s _ w1 hH aW nQ i hlt F1 h1 h2) ?_;rintro _ _;dsimp only[List.set]
      have hX:Ap {x with dv:=rY s x d i} i={x with dv:=rY s x d (i+1)}:=by
       unfold Ap;dsimp only;rw[lV,←hstep,nE]
      rw[hX];refine aA ?_;refine aY [1,2,3] rfl (by decide) (fun _ h=>h) ?_;exact dW (s.aD.length - (i+1)) ⟨i+1,hlt,rfl,rfl,rfl,rfl⟩
    ·have hq:(nO p.2).2=p.2:=by
      unfold nO;rw[if_pos (by omega)]
     have hlf:qH p.2.at_=114∨qH p.2.at_=97:=by
      have:p.2.at_=0∨p.2.at_=1:=by omega
      rcases this with ha | ha<;>rw[ha]
      ·exact .inl rfl
      ·exact .inr rfl
     rw[nE,hq,yH lV] at hstep;rcases hlf with hlf | hlf<;>rw[hlf,hstep]
     all_goals
      refine aA ?_;refine aY [1,2,3] rfl (by decide) (fun _ h=>h) ?_;exact dW (s.aD.length - (i+1)) ⟨i+1,hlt,rfl,rfl,rfl,rfl⟩
  obtain rfl:i=s.aD.length:=by omega
  refine aA ?_;refine aP 1 1 ?_;refine fC 0 (fun L:gF=>iQ f hL.h L s z) L ?_;refine aP 0 0 ?_;subst cN;exact cI 0 hF
 ·rw[if_neg xD];refine aA ?_;refine aG rfl (fun h=>absurd h h48) (fun _=>?_);refine aA ?_;refine aG rfl (fun h=>absurd h Xu) (fun _=>?_);refine aA ?_;refine aG rfl (fun h=>absurd h xD) (fun _=>?_);refine aA ?_;refine aP 1 1 ?_;refine fC 0 (fun L:gF=>iQ f hL.h L s z) L ?_;refine aP 0 0 ?_;subst cN;exact cI 0 hF
theorem aQL(hH:s.dJ)(aW:iU hL s)(hok:cM s x)(i:Int)(F:Nat→Prop)(hp:(gT f hL s z x).sat F w)(hF:∀b,F b→b < w.heap.size):
  Cz 104 #[pt f,iv i] w (Wr (.bool (yK x i).2) (gT f hL s z (yK x i).1) w F):=by
 refine dK func104 ntmps104 hp hF ?_;generalize cN:(⟨w,fun b=>b < w.heap.size∧¬F b⟩:Piece)=R0;refine bF 0 0 ?_;refine lY 0 fun L=>?_;refine bF 1 1 ?_;refine aA ?_;refine kd (bN rfl (Rd.eZ 1 rfl rfl)) ?_;refine aA ?_;refine aU (fun w1 t=>aPQ hL s x w1 i (t.nF 0 rfl aW hok)) ?_;unfold yK;cases hh:Ba x.ln i
 ·refine aA ?_;refine aP 1 1 ?_;refine fC 0 (fun L:gF=>iQ f hL.h L s z) L ?_;refine aP 0 0 ?_;subst cN;exact cI 0 hF
 ·refine aA ?_;refine kd (bN rfl (Rd.eZ 1 rfl rfl)) ?_;refine aA ?_;refine dZ 0 (dR hL s {x with ln:=(vO x.ln i).2}) (fun w1 F1 t h1 h2 h3=>aPO hL s x w1 hH aW hok i F1 h1 h2) ?_;refine aA ?_;refine aP 1 1 ?_;refine fC 0 (fun L:gF=>iQ f hL.h L s z) L ?_;refine aP 0 0 ?_;subst cN;exact cI 0 hF
theorem aQQ(hH:s.dJ)(aW:iU hL s)(hok:cM s x)(c:Nat)(hc:c < s.aF.length)(F:Nat→Prop)(hp:(gT f hL s z x).sat F w)(hF:∀b,F b→b < w.heap.size):
  Cz 102 #[pt f,iv (c:Int)] w (Wr (.bool (Kx s x c).2) (gT f hL s z (Kx s x c).1) w F):=by
 refine dK func102 ntmps102 hp hF ?_;generalize cN:(⟨w,fun b=>b < w.heap.size∧¬F b⟩:Piece)=R0;refine bF 0 0 ?_;refine lY 0 fun L=>?_;refine bF 1 1 ?_;refine aA ?_;refine kd (bN rfl (Rd.eZ 1 rfl rfl)) ?_;refine aA ?_;refine dZ 0 (dR hL s {x with ck:=(lC s x.ck c true).2}) (fun w1 F1 t h1 h2 h3=>aIv hL s x w1 hH aW hok c true F1 h1 h2) ?_
 have mQ:cM s {x with ck:=(lC s x.ck c true).2}:=⟨Vp hH hok.ck _ _,hok.dm,hok.ln,hok.dv,hok.each,hok.wt⟩
 unfold Kx;generalize vU:({x with ck:=(lC s x.ck c true).2}:aM)=x2 at mQ⊢
 have yT:(lC s x.ck c true).2=x2.ck:=by rw[←vU]
 rw[yT];refine aA ?_;refine kd (bN rfl (Rd.eZ 1 rfl rfl)) ?_;refine aA ?_;refine aU (fun w1 t=>aIs hL s x2 w1 hH c (t.nF 0 rfl aW mQ)) ?_;cases hr:qC s x2.ck c
 ·refine aA ?_;refine kd (oZ rfl (aR.eZ 1 rfl (vs:=[.slice L.a1.1 s.aF.length L.a1.2,.slice L.a2.1 s.domains.length L.a2.2,.slice L.a3.1 s.aT.length L.a3.2,.slice L.a4.1 s.aD.length L.a4.2]) rfl)) ?_;refine aA ?_;refine jQ [] (Iy (fU s c)) (fun w1 t=>aBA (all w1) s _ _ _ _ _ L.a1.2 _ L.a2.2 _ L.a3.2 _ L.a4.2 c w1 (t.Gb 1 rfl).so hH.t (Piece.Le.refl _) hc) ?_;rintro _ w1 qm ⟨Ac,cc,rfl,gZ⟩ hf _ _
  have gZ:=gZ.le hf
  clear hf;refine aA ?_;rcases kC:fU s c with _ | ⟨c0,_ | ⟨c1,cr⟩⟩
  ·refine mK ?_;refine jC ?_;refine aA ?_;refine aP 1 1 ?_;refine fC 0 (fun L:gF=>iQ f hL.h L s z) L ?_;refine aP 0 0 ?_;subst cN;exact cI 0 hF
  ·refine mK ?_;refine jC ?_;refine aA ?_;refine aP 1 1 ?_;refine fC 0 (fun L:gF=>iQ f hL.h L s z) L ?_;refine aP 0 0 ?_;subst cN;exact cI 0 hF
  ·rw[kC] at gZ;obtain⟨b,off,hA,hb,oB⟩:=gZ.2 (by simp)
   have r1:Rd w [qm,R0] [dR hL s x2,iQ f hL.h L s z,HP.many [cH,cH]] b (off+1) (iv (c1:Int)):=Rd.ro (p:=qm) (by simp) hb (oB 1 _ rfl)
   have hlen:decide ((c0::c1::cr).length < 2)=false:=by simp
   rw[hlen];refine mK ?_;refine jB ?_;refine Og 27 rfl (fun h=>absurd h (by simp;omega)) (fun _=>?_);refine jB ?_;refine xK (bN rfl (Rd.eZ 1 rfl rfl)) ?_;refine jB ?_;refine xK (dat 1 (off+1) (hx:=by rw[←hA];rfl) (hlt:=by simp)) ?_;refine jB ?_;refine uA (fun w1 t=>aIs hL s x2 w1 hH c1 (t.nF 0 rfl aW mQ)) ?_;refine jC ?_;refine aA ?_;refine aP 1 1 ?_;refine fC 0 (fun L:gF=>iQ f hL.h L s z) L ?_;refine aP 0 0 ?_;subst cN;exact cI 0 hF
 ·refine aA ?_;refine aP 1 1 ?_;refine fC 0 (fun L:gF=>iQ f hL.h L s z) L ?_;refine aP 0 0 ?_;subst cN;exact cI 0 hF
end
section
def Ih(k:Int):Value:=
 if k=117 then .func (.func 100) #[] #[] else if k=100∨k=107 then .func (.func 101) #[] #[]
 else if k=99 then .func (.func 102) #[] #[] else if k=111 then .func (.func 103) #[] #[]
 else if k=114 then .func (.func 104) #[] #[] else .func (.func 105) #[] #[]
theorem aIY(k:Int)(w:World):Cz 51 #[.int .u8 k] w (Rt (Ih k) w):=by
 refine aN func51 ntmps51 ?_;refine aA ?_;refine aG rfl (fun h1=>?_) (fun h1=>?_)
 ·refine aA ?_;exact dG (by rw[Ih,if_pos h1])
 refine aA ?_;refine aG rfl (fun h2=>?_) (fun h2=>?_)
 ·refine aA ?_;refine aG rfl (fun _=>?_) (fun h=>absurd h2 h);refine aA ?_;exact dG (by rw[Ih,if_neg h1,if_pos (.inl h2)])
 refine aA ?_;refine aG rfl (fun h3=>?_) (fun h3=>?_)
 ·refine aA ?_;exact dG (by rw[Ih,if_neg h1,if_pos (.inr h3)])
 have h23:¬(k=100∨k=107):=by omega
 refine aA ?_;refine aG rfl (fun h4=>?_) (fun h4=>?_)
 ·refine aA ?_;exact dG (by rw[Ih,if_neg h1,if_neg h23,if_pos h4])
 refine aA ?_;refine aG rfl (fun h5=>?_) (fun h5=>?_)
 ·refine aA ?_;exact dG (by rw[Ih,if_neg h1,if_neg h23,if_neg h4,if_pos h5])
 refine aA ?_;refine aG rfl (fun h6=>?_) (fun h6=>?_)
 ·refine aA ?_;exact dG (by rw[Ih,if_neg h1,if_neg h23,if_neg h4,if_neg h5,if_pos h6])
 refine aA ?_;exact dG (by rw[Ih,if_neg h1,if_neg h23,if_neg h4,if_neg h5,if_neg h6])
theorem aDz{P:Program}{fn:Func}{R:Ending→World→Prop}(hr:fn.results=#[]){t1 t2:Array Value}:∀(ds:List Deferred) (u:FrameMode) (w:World),Leaves P fn t1 R ds u w→Leaves P fn t2 R ds u w
 | [],.returning,w,h=>by
  obtain⟨v,h1,h2⟩:=h;rw[results_none hr] at h1;cases h1;exact⟨_,results_none hr _ _ _,h2⟩
 | [],.panicking _,_,h=>h
 | [],.run,_,h=>h
 | d::ds,u,w,h=>by
  obtain⟨h1,fv,cap,f,args,h2,h3,h4⟩:=h;refine⟨h1,fv,cap,f,args,h2,h3,h4.mono fun y u' w' hy=>?_⟩;cases y with
  | returned v=>exact aDz hr ds _ _ hy
  | panicked c=>exact aDz hr ds _ _ hy
  | outgrown=>exact hy
theorem mU{P:Program}{fn:Func}{R:Ending→World→Prop}{c:List PanicEntry}{a:Act}{d:Option Nat}{v:Value}{w:World}(hr:fn.results=#[])(h:bodyPostD P fn R (.panic c) (a.put d v) w):bodyPostD P fn R (.panic c) a w:=by
 have hd:(a.put d v).defers=a.defers:=by cases d<;>rfl
 have h2:Leaves P fn (a.put d v).tmps R (a.put d v).defers (.panicking c) w:=h
 rw[hd] at h2;exact aDz hr _ _ _ h2
def aFz(f:Nat)(hL:HL)(s:aC)(z:bZ)(x:aM)(r:aM×Bool):Prop:=
 ∃fn:FuncId,Ih z.kind=.func (.func fn) #[] #[]∧fH Tryz.prog fn=true∧cM s r.1∧∀(w:World) (F:Nat→Prop),(gT f hL s z x).sat F w→(∀b,F b→b < w.heap.size)→kM ⟨w,fun b=>b < w.heap.size∧¬F b⟩→
  Cz fn #[pt f,iv z.id] w (Wr (.bool r.2) (gT f hL s z r.1) w F)
def xF(s:aC)(z:bZ)(r:aM×Bool):bZ:=if r.2 then wU s r.1 {z with at_:= -1} z.at_.toNat 0 else z
section
variable(f:Nat)(hL:HL)(s:aC)(z:bZ)(x:aM)(w:World)
theorem aQI(hH:s.dJ)(aW:iU hL s)(hok:cM s x)(hz:Ed s z)(a:Nat)(ha:z.at_=(a:Int))(tA:a < 2)(r:aM×Bool)(hact:aFz f hL s z x r)(Fi:uD (kU z a))(F:Nat→Prop)(hp:(gT f hL s z x).sat F w)(hF:∀b,F b→b < w.heap.size)(fD:kM ⟨w,fun b=>b < w.heap.size∧¬F b⟩):
  Cz 20 #[pt f] w (Wr (.tuple #[]) (gT f hL s (xF s z r) r.1) w F):=by
 obtain⟨fn,dI,hcb,Wm,Be⟩:=hact;refine Zu (vs:=[pt f]) (p:=gT f hL s z x) func20 rfl ntmps20 (by simp) hp hF ?_;generalize cN:(⟨w,fun b=>b < w.heap.size∧¬F b⟩:Piece)=R0 at fD⊢;refine aA ?_;refine Ud (f:=49) (fi:=[]) (ca:=[]) rfl ?_;refine aA ?_;refine kd (bN rfl (Iw 0 rfl fun _=>rfl)) ?_;refine aA ?_;refine bX (t:=8) rfl (fun h=>absurd h (by omega)) (fun _=>?_);refine aA ?_;refine jM [1,2,3,4,8,9,10,11] ?_;refine bP 0 ?_ (hQ:=fun _ _ _ h=>mU rfl h);refine bP 6 ?_ (hQ:=fun _ _ _ h=>mU rfl h);refine bP 7 ?_ (hQ:=fun _ _ _ h=>mU rfl h);refine aJ 1 ?_ (hQ:=fun _ _ _ h=>mU rfl h);refine aJ 2 ?_ (hQ:=fun _ _ _ h=>mU rfl h);refine aJ 3 ?_ (hQ:=fun _ _ _ h=>mU rfl h);refine aJ 4 ?_ (hQ:=fun _ _ _ h=>mU rfl h) (dI:=bN rfl (Iw 0 rfl fun _=>rfl));refine aJ 8 ?_ (hQ:=fun _ _ _ h=>mU rfl h);refine aJ 9 ?_ (hQ:=fun _ _ _ h=>mU rfl h);refine aJ 10 ?_ (hQ:=fun _ _ _ h=>mU rfl h);refine aJ 11 ?_ (hQ:=fun _ _ _ h=>mU rfl h) (dI:=bN rfl (Iw 0 rfl fun _=>rfl));refine aO 5 ?_;refine aU (fun w1 t=>aIY z.kind w1) ?_;rw[dI];refine bM ?_;refine aO 12 ?_;refine aAX 0 (fi:=[]) (ca:=[]) (gT f hL s z r.1) (fun w1 F1 t h1 h2 h3=>by simpa using Be w1 F1 h1 h2 (kM.le fD (h3 _ (by simp)))) ?_ (hf:=hcb);dsimp only[List.set];refine cX ?_;refine fJ ?_;refine aA ?_;obtain⟨x',b⟩:=r;dsimp only at Wm⊢;cases b
 ·refine aA ?_;subst cN;exact Bs (.inr rfl) (by kernel_rfl) Ya rfl fun w1 t=>⟨rfl,t.turns hF (by simp) (i:=0) rfl⟩
 ·refine aA ?_;refine kd (bN rfl (Iw 0 rfl fun _=>rfl)) ?_;refine aA ?_;refine bF 0 0 ?_;refine lY 0 fun L=>?_;refine bF 0 0 ?_;refine fG rfl rfl ?_ (hs:=fB.mk 0 rfl cK.h rfl (by simp[jW]));dsimp only[List.set];rw[show(jW hL.h L s z).set (0+16) (iv (-1))=jW hL.h L s {z with at_:= -1} from rfl];refine aP 0 0 ?_;refine fC 0 (fun L:gF=>iQ f hL.h L s {z with at_:= -1}) L ?_;refine aP 0 0 ?_;refine aA ?_;rw[ha];refine dZ 0 (gT f hL s (wU s x' {z with at_:= -1} a 0) x') (fun w1 F1 t h1 h2 h3=>aEm f hL s {z with at_:= -1} x' hH aW Wm a tA 0 (fun _=>Fi) w1 F1 h1 h2) ?_;refine aA ?_
  have hend:xF s z (x',true)=wU s x' {z with at_:= -1} a 0:=by
   unfold xF;rw[if_pos rfl,ha];rfl
  rw[hend];subst cN;exact Bs (.inr rfl) (by kernel_rfl) Ya rfl fun w1 t=>⟨rfl,t.turns hF (by simp) (i:=0) rfl⟩
end
end
section
def Da(s:aC)(d:Int)(k:Nat)(p:bR×dB):bR×dB:=match s.aD[k]? with
 | some dv=>if dv.domain=d then(p.1,if p.2.at_=3 then(nO p.2).2 else if p.2.at_=0 then(sI p.2).2 else p.2) else p
 | none=>p
def iN(s:aC)(x:aM)(d:Int)(n:Nat):List (bR×dB):=x.dv.mapIdx fun k p=>if k < n then Da s d k p else p
def Qg(s:aC)(x:aM)(d:Int)(k:Nat):Bool:=match s.aD[k]?,x.dv[k]? with
 | some dv,some p=> !decide (dv.domain=d)||decide (p.2.at_=2)
 | _,_=>true
def Cy(s:aC)(x:aM)(d:Int)(n:Nat):Bool:=(List.range n).all (Qg s x d)
theorem aPh(s:aC)(x:aM)(d:Int)(n:Nat):Cy s x d (n+1)=(Cy s x d n&&Qg s x d n):=by simp[Cy,List.range_succ]
theorem aSX{x:dB}(h:Cc x):Cc (sI x).2:=by
 unfold sI;split
 ·exact h
 ·exact⟨by show(0:Int)≤1;omega,by show(1:Int)≤3;omega⟩
theorem aBe{s:aC}{x:aM}(hH:s.dJ)(hok:cM s x)(d:Int)(n:Nat):cM s {x with dv:=iN s x d n}:=Vq hH hok (by simp[iN]) fun i e p hd hp=>by
 rw[iN,List.getElem?_mapIdx] at hp;cases hq:x.dv[i]? with
 | none=>rw[hq] at hp;cases hp
 | some q =>
  rw[hq] at hp;obtain⟨h1,h2⟩:=hok.each i e q hd hq;simp only[Option.map_some,Option.some.injEq] at hp;subst hp;split
  ·unfold Da;rw[hd];dsimp only;split
   ·refine⟨h1,?_⟩;dsimp only;split
    ·exact aHJ h2
    ·split
     ·exact aSX h2
     ·exact h2
   ·exact⟨h1,h2⟩
  ·exact⟨h1,h2⟩
variable(f:Nat)(hL:HL)(s:aC)(z:bZ)(x:aM)(w:World)
theorem aQP(hH:s.dJ)(aW:iU hL s)(hok:cM s x)(d:Int)(F:Nat→Prop)(hp:(gT f hL s z x).sat F w)(hF:∀b,F b→b < w.heap.size)(fD:kM ⟨w,fun b=>b < w.heap.size∧¬F b⟩):
  Cz 177 #[pt f,iv d] w (Wr (.bool (Cy s x d s.aD.length)) (gT f hL s z {x with dv:=iN s x d s.aD.length}) w F):=by
 have nD:=hH.t.nv
 have jA:=hok.dv
 refine dK func177 ntmps177 hp hF ?_;generalize cN:(⟨w,fun b=>b < w.heap.size∧¬F b⟩:Piece)=R0 at fD⊢;refine bF 0 0 ?_;refine lY 0 fun L=>?_;refine bF 1 1 ?_;refine aA ?_;refine kd (bN rfl (Rd.eZ 1 rfl rfl)) ?_;refine aA ?_
 have hm0:iN s x d 0=x.dv:=Qo _ _
 refine bK [(15,iv (0)),(14,iv s.aD.length),(13,.slice L.a4.1 s.aD.length L.a4.2),(5,.bool true),(0,pt f),(1,iv d)] ?_;refine eJ (fun m e R H=>∃(i:Nat) (b:Bool),i≤s.aD.length∧m=s.aD.length - i∧b=Cy s x d i∧e=[(15,iv (i:Int)),(14,iv s.aD.length),(13,.slice L.a4.1 s.aD.length L.a4.2),(5,.bool b),(0,pt f),(1,iv d)]∧R=[R0]∧H=[dR hL s {x with dv:=iN s x d i},iQ f hL.h L s z,HP.many [cH,cH]]) s.aD.length ⟨0,true,by omega,rfl,rfl,rfl,rfl,by rw[hm0]⟩ fun m e R H hI=>?_;obtain⟨i,b0,hi,rfl,hb0,rfl,rfl,rfl⟩:=hI
 have nQ:=aBe hH hok d i
 refine aA ?_;refine aG rfl (fun hlt=>?_) (fun hge=>?_)
 ·have hlt:i < s.aD.length:=by omega
  obtain⟨dv,dF⟩:=get_some hlt;obtain⟨p,gK⟩:=get_some (l:=x.dv) (i:=i) (by omega)
  have lV:(iN s x d i)[i]? =some p:=Qq gK
  have hstep:(iN s x d i).set i (Da s d i p)=iN s x d (i+1):=Qp (f:=Da s d) gK
  have dS:=aPh s x d i
  have Wk:Qg s x d i=(!decide (dv.domain=d)||decide (p.2.at_=2)):=by
   unfold Qg;rw[dF,gK]
  rw[Wk,←hb0] at dS;obtain⟨q1,q2⟩:=(nQ.each i dv p dF lV).2;refine aJW 1 rfl (by omega) fun b off hA=>?_;refine aA ?_;refine kd (dat i (off+i*6) (hx:=by rw[←hA];rfl)) ?_;refine aF8 6 (aFu dv) rfl (fun w1 t=>aIF (t.Gb 1 rfl) hA dF) ?_;rintro _ ⟨A,n,k,A',n',k',rfl⟩;refine bU fun g1=>?_;refine aA ?_;refine aG rfl (fun he=>?_) (fun he=>?_)
  ·have nE:Da s d i p=p:=by
    unfold Da;rw[dF];exact if_neg he
   rw[nE,yH lV] at hstep;rw[hstep];refine aA ?_;refine aY [1,2,3] rfl (by decide) (fun _ h=>h) ?_;refine bK [(15,iv ((i+1:Nat):Int)),(14,iv s.aD.length),(13,.slice L.a4.1 s.aD.length L.a4.2),(5,.bool b0),(0,pt f),(1,iv d)] ?_;exact iC (s.aD.length - (i+1)) (by omega) ⟨i+1,b0,hlt,rfl,by rw[dS,decide_eq_false he];simp,rfl,rfl,rfl⟩
  ·have he:dv.domain=d:=by simpa using he
   rw[decide_eq_true he] at dS
   have hst:uN {x with dv:=iN s x d i} i=qH p.2.at_:=by
    unfold uN;dsimp only;rw[lV];rfl
   have nE:Da s d i p=(p.1,if p.2.at_=3 then(nO p.2).2 else if p.2.at_=0 then(sI p.2).2 else p.2):=by
    unfold Da;rw[dF];exact if_pos he
   refine aA ?_;refine kd (bN rfl (Rd.eZ 2 rfl rfl)) ?_;refine aA ?_;refine aU (fun w1 t=>aIr hL s _ w1 aW nQ i hlt (fD.at_ (t.le (by simp))) (t.nF 1 rfl aW nQ)) ?_;rw[hst]
   have hq4:p.2.at_=0∨p.2.at_=1∨p.2.at_=2∨p.2.at_=3:=by omega
   rcases hq4 with ha | ha | ha | ha<;>rw[ha] at nE dS⊢ <;>cases b0
   ·rw[show qH 0=114 from rfl];refine aA ?_;refine kd (bN rfl (Rd.eZ 2 rfl rfl)) ?_;refine aA ?_;refine zT (α:=Int) 1 (f:=226) (fi:=[]) (ca:=[]) (fun r=>iv r) (fun _=>dR hL s (Ip {x with dv:=iN s x d i} i)) (fun _=>True) (by kernel_rfl) rfl rfl rfl (by decide) (fun w1 F1 t h1 h2 h3=>aIw hL s _ w1 hH aW nQ i hlt F1 h1 h2) ?_;rintro _ _;dsimp only[List.set]
    have hX:Ip {x with dv:=iN s x d i} i={x with dv:=iN s x d (i+1)}:=by
     unfold Ip;dsimp only;rw[lV,←hstep,nE];rfl
    rw[hX];refine aA ?_;refine aY [1,2,3] rfl (by decide) (fun _ h=>h) ?_;refine bK [(15,iv ((i+1:Nat):Int)),(14,iv s.aD.length),(13,.slice L.a4.1 s.aD.length L.a4.2),(5,.bool false),(0,pt f),(1,iv d)] ?_;exact iC (s.aD.length - (i+1)) (by omega) ⟨i+1,false,hlt,rfl,by rw[dS];rfl,rfl,rfl,rfl⟩
   ·rw[show qH 0=114 from rfl];refine aA ?_;refine kd (bN rfl (Rd.eZ 2 rfl rfl)) ?_;refine aA ?_;refine zT (α:=Int) 1 (f:=226) (fi:=[]) (ca:=[]) (fun r=>iv r) (fun _=>dR hL s (Ip {x with dv:=iN s x d i} i)) (fun _=>True) (by kernel_rfl) rfl rfl rfl (by decide) (fun w1 F1 t h1 h2 h3=>aIw hL s _ w1 hH aW nQ i hlt F1 h1 h2) ?_;rintro _ _;dsimp only[List.set]
    have hX:Ip {x with dv:=iN s x d i} i={x with dv:=iN s x d (i+1)}:=by
     unfold Ip;dsimp only;rw[lV,←hstep,nE];rfl
    rw[hX];refine aA ?_;refine aY [1,2,3] rfl (by decide) (fun _ h=>h) ?_;refine bK [(15,iv ((i+1:Nat):Int)),(14,iv s.aD.length),(13,.slice L.a4.1 s.aD.length L.a4.2),(5,.bool false),(0,pt f),(1,iv d)] ?_;exact iC (s.aD.length - (i+1)) (by omega) ⟨i+1,false,hlt,rfl,by rw[dS];rfl,rfl,rfl,rfl⟩
   ·rw[show qH 1=97 from rfl];rw[nE,show(if(1:Int)=3 then(nO p.2).2 else if(1:Int)=0 then(sI p.2).2 else p.2)=p.2 from rfl,yH lV] at hstep;rw[hstep];refine aA ?_;refine aY [1,2,3] rfl (by decide) (fun _ h=>h) ?_;refine bK [(15,iv ((i+1:Nat):Int)),(14,iv s.aD.length),(13,.slice L.a4.1 s.aD.length L.a4.2),(5,.bool false),(0,pt f),(1,iv d)] ?_;exact iC (s.aD.length - (i+1)) (by omega) ⟨i+1,false,hlt,rfl,by rw[dS];rfl,rfl,rfl,rfl⟩
   ·rw[show qH 1=97 from rfl];rw[nE,show(if(1:Int)=3 then(nO p.2).2 else if(1:Int)=0 then(sI p.2).2 else p.2)=p.2 from rfl,yH lV] at hstep;rw[hstep];refine aA ?_;refine aY [1,2,3] rfl (by decide) (fun _ h=>h) ?_;refine bK [(15,iv ((i+1:Nat):Int)),(14,iv s.aD.length),(13,.slice L.a4.1 s.aD.length L.a4.2),(5,.bool false),(0,pt f),(1,iv d)] ?_;exact iC (s.aD.length - (i+1)) (by omega) ⟨i+1,false,hlt,rfl,by rw[dS];rfl,rfl,rfl,rfl⟩
   ·rw[show qH 2=115 from rfl];rw[nE,show(if(2:Int)=3 then(nO p.2).2 else if(2:Int)=0 then(sI p.2).2 else p.2)=p.2 from rfl,yH lV] at hstep;rw[hstep];refine aA ?_;refine aY [1,2,3] rfl (by decide) (fun _ h=>h) ?_;refine bK [(15,iv ((i+1:Nat):Int)),(14,iv s.aD.length),(13,.slice L.a4.1 s.aD.length L.a4.2),(5,.bool false),(0,pt f),(1,iv d)] ?_;exact iC (s.aD.length - (i+1)) (by omega) ⟨i+1,false,hlt,rfl,by rw[dS];rfl,rfl,rfl,rfl⟩
   ·rw[show qH 2=115 from rfl];rw[nE,show(if(2:Int)=3 then(nO p.2).2 else if(2:Int)=0 then(sI p.2).2 else p.2)=p.2 from rfl,yH lV] at hstep;rw[hstep];refine aA ?_;refine aY [1,2,3] rfl (by decide) (fun _ h=>h) ?_;refine bK [(15,iv ((i+1:Nat):Int)),(14,iv s.aD.length),(13,.slice L.a4.1 s.aD.length L.a4.2),(5,.bool true),(0,pt f),(1,iv d)] ?_;exact iC (s.aD.length - (i+1)) (by omega) ⟨i+1,true,hlt,rfl,by rw[dS];rfl,rfl,rfl,rfl⟩
   ·rw[show qH 3=100 from rfl];refine aA ?_;refine kd (bN rfl (Rd.eZ 2 rfl rfl)) ?_;refine aA ?_;refine zT (α:=Int) 1 (f:=176) (fi:=[]) (ca:=[]) (fun r=>iv r) (fun _=>dR hL s (Ap {x with dv:=iN s x d i} i)) (fun _=>True) (by kernel_rfl) rfl rfl rfl (by decide) (fun w1 F1 t h1 h2 h3=>aDW hL s _ w1 hH aW nQ i hlt F1 h1 h2) ?_;rintro _ _;dsimp only[List.set]
    have hX:Ap {x with dv:=iN s x d i} i={x with dv:=iN s x d (i+1)}:=by
     unfold Ap;dsimp only;rw[lV,←hstep,nE];rfl
    rw[hX];refine aA ?_;refine aY [1,2,3] rfl (by decide) (fun _ h=>h) ?_;refine bK [(15,iv ((i+1:Nat):Int)),(14,iv s.aD.length),(13,.slice L.a4.1 s.aD.length L.a4.2),(5,.bool false),(0,pt f),(1,iv d)] ?_;exact iC (s.aD.length - (i+1)) (by omega) ⟨i+1,false,hlt,rfl,by rw[dS];rfl,rfl,rfl,rfl⟩
   ·rw[show qH 3=100 from rfl];refine aA ?_;refine kd (bN rfl (Rd.eZ 2 rfl rfl)) ?_;refine aA ?_;refine zT (α:=Int) 1 (f:=176) (fi:=[]) (ca:=[]) (fun r=>iv r) (fun _=>dR hL s (Ap {x with dv:=iN s x d i} i)) (fun _=>True) (by kernel_rfl) rfl rfl rfl (by decide) (fun w1 F1 t h1 h2 h3=>aDW hL s _ w1 hH aW nQ i hlt F1 h1 h2) ?_;rintro _ _;dsimp only[List.set]
    have hX:Ap {x with dv:=iN s x d i} i={x with dv:=iN s x d (i+1)}:=by
     unfold Ap;dsimp only;rw[lV,←hstep,nE];rfl
    rw[hX];refine aA ?_;refine aY [1,2,3] rfl (by decide) (fun _ h=>h) ?_;refine bK [(15,iv ((i+1:Nat):Int)),(14,iv s.aD.length),(13,.slice L.a4.1 s.aD.length L.a4.2),(5,.bool false),(0,pt f),(1,iv d)] ?_;exact iC (s.aD.length - (i+1)) (by omega) ⟨i+1,false,hlt,rfl,by rw[dS];rfl,rfl,rfl,rfl⟩
 obtain rfl:i=s.aD.length:=by omega
 rw[←hb0];refine aA ?_;refine aP 1 1 ?_;refine fC 0 (fun L:gF=>iQ f hL.h L s z) L ?_;refine aP 0 0 ?_;subst cN;exact cI 0 hF
theorem aQR(hH:s.dJ)(aW:iU hL s)(hok:cM s x)(c:Int)(F:Nat→Prop)(hp:(gT f hL s z x).sat F w)(hF:∀b,F b→b < w.heap.size):
  Cz 103 #[pt f,iv c] w (Wr (.bool true) (gT f hL s z {x with ck:=(lC s x.ck c false).2}) w F):=by
 refine dK func103 ntmps103 hp hF ?_;generalize cN:(⟨w,fun b=>b < w.heap.size∧¬F b⟩:Piece)=R0;refine bF 0 0 ?_;refine lY 0 fun L=>?_;refine bF 1 1 ?_;refine aA ?_;refine kd (bN rfl (Rd.eZ 1 rfl rfl)) ?_;refine aA ?_;refine dZ 0 (dR hL s {x with ck:=(lC s x.ck c false).2}) (fun w1 F1 t h1 h2 h3=>aIv hL s x w1 hH aW hok c false F1 h1 h2) ?_;refine aA ?_;refine aP 1 1 ?_;refine fC 0 (fun L:gF=>iQ f hL.h L s z) L ?_;refine aP 0 0 ?_;subst cN;exact cI 0 hF
def qE(s:aC)(x:aM)(d:Int)(keep:Bool):aM×Bool:=
 if rU x.dm d=49 then(if Cy s x d s.aD.length then {x with dv:=iN s x d s.aD.length,dm:=(tU s x.dm d keep).2} else {x with dv:=iN s x d s.aD.length},false)
 else if rU x.dm d=48∨rU x.dm d=116 then(x,true) else(x,false)
theorem aIB(hH:s.dJ)(aW:iU hL s)(hok:cM s x)(d:Int)(F:Nat→Prop)(hp:(gT f hL s z x).sat F w)(hF:∀b,F b→b < w.heap.size)(fD:kM ⟨w,fun b=>b < w.heap.size∧¬F b⟩):
  Cz 101 #[pt f,iv d] w (Wr (.bool (qE s x d (decide (z.kind=107))).2) (gT f hL s z (qE s x d (decide (z.kind=107))).1) w F):=by
 refine dK func101 ntmps101 hp hF ?_;generalize cN:(⟨w,fun b=>b < w.heap.size∧¬F b⟩:Piece)=R0 at fD⊢;refine bF 0 0 ?_;refine lY 0 fun L=>?_;refine bF 1 1 ?_;refine aA ?_;refine kd (bN rfl (Rd.eZ 1 rfl rfl)) ?_;refine aA ?_;refine aU (fun w1 t=>aDV hL s x w1 hok.dm d (t.nF 0 rfl aW hok)) ?_;unfold qE;generalize mP:rU x.dm d=ph
 by_cases xD:ph=49
 ·subst xD;rw[if_pos rfl];refine aP 1 1 ?_;refine fC 0 (fun L:gF=>iQ f hL.h L s z) L ?_;refine aP 0 0 ?_;refine aA ?_;refine dZ 0 (gT f hL s z {x with dv:=iN s x d s.aD.length}) (fun w1 F1 t h1 h2 h3=>aQP f hL s z x w1 hH aW hok d F1 h1 h2 (kM.le fD (h3 _ (by simp)))) ?_
  have mQ:=aBe hH hok d s.aD.length
  cases hb:Cy s x d s.aD.length
  ·refine aA ?_;subst cN;exact cI 0 hF
  ·refine aA ?_;refine bF 0 0 ?_;refine lY 0 fun L2=>?_;refine bF 1 1 ?_;refine jM [1,2,3,6,7,8,9,10] ?_;refine bP 0 ?_;refine bP 4 ?_;refine bP 5 ?_;refine aJ 1 ?_;refine aJ 2 ?_;refine aJ 3 ?_ (dI:=bN rfl (Rd.eZ 1 rfl rfl));refine aJ 6 ?_;refine aJ 7 ?_;refine aJ 8 ?_;refine aJ 9 ?_ (dI:=bN rfl (Rd.eZ 1 rfl rfl));refine aJ 10 ?_;refine aO 11 ?_;refine dZ 0 (dR hL s {x with dv:=iN s x d s.aD.length,dm:=(tU s x.dm d (decide (z.kind=107))).2}) (fun w1 F1 t h1 h2 h3=>aPR hL s _ w1 hH aW mQ d _ F1 h1 h2) ?_;refine cX ?_;refine fJ ?_;refine aA ?_;refine aP 1 1 ?_;refine fC 0 (fun L:gF=>iQ f hL.h L s z) L2 ?_;refine aP 0 0 ?_;subst cN;exact cI 0 hF
 ·rw[if_neg xD]
  by_cases h48:ph=48
  ·subst h48;rw[if_pos (.inl rfl)];refine aA ?_;refine aP 1 1 ?_;refine fC 0 (fun L:gF=>iQ f hL.h L s z) L ?_;refine aP 0 0 ?_;subst cN;exact cI 0 hF
  by_cases Xu:ph=116
  ·subst Xu;rw[if_pos (.inr rfl)];refine aA ?_;refine aP 1 1 ?_;refine fC 0 (fun L:gF=>iQ f hL.h L s z) L ?_;refine aP 0 0 ?_;subst cN;exact cI 0 hF
  rw[if_neg (by omega)];refine aA ?_;refine aG rfl (fun h=>absurd h xD) (fun _=>?_);refine aA ?_;refine aG rfl (fun h=>absurd h h48) (fun _=>?_);refine aA ?_;refine aG rfl (fun h=>absurd h Xu) (fun _=>?_);refine aA ?_;refine aP 1 1 ?_;refine fC 0 (fun L:gF=>iQ f hL.h L s z) L ?_;refine aP 0 0 ?_;subst cN;exact cI 0 hF
end
section
def Kw(s:aC)(i:Int)(k:Nat)(p:bR×dB):bR×dB:=match s.aD[k]? with
 | some d=>if d.reset=i then(tF d p.1,p.2) else p
 | none=>p
def Il(s:aC)(dv:List (bR×dB))(i:Int)(n:Nat):List (bR×dB):=dv.mapIdx fun k p=>if k < n then Kw s i k p else p
def Kz(s:aC)(x:aM)(i:Int):aM:=if bO x.ln.length i then {x with ln:=(tX s x.ln i).2,dv:=Il s x.dv i s.aD.length} else x
theorem aJ8{s:aC}{st:List kH}(hH:s.dJ)(h:Gm s st)(i:Int):Gm s (tX s st i).2:=by
 unfold tX;split
 ·exact h
 ·refine⟨by simp[h.len],fun y hy=>?_⟩;rcases List.mem_or_eq_of_mem_set hy with hy | rfl
  ·exact h.left y hy
  ·cases hq:s.aT[i.toNat]? with
   | none=>simp
   | some r=>
    have:=hH.aT r (List.mem_of_getElem? hq)
    simpa using this
theorem aS2{d:bL}{f:bR}(hr:∀r∈d.aL,0≤r.reset∧r.reset≤6)(h:wP d f):wP d (tF d f):=aJi 108 hr h
theorem aJo{s:aC}{x:aM}(hH:s.dJ)(hok:cM s x)(i:Int)(n:Nat):cM s {x with dv:=Il s x.dv i n}:=Vq hH hok (by simp[Il]) fun k d p hd hp=>by
 rw[Il,List.getElem?_mapIdx] at hp;cases hq:x.dv[k]? with
 | none=>rw[hq] at hp;cases hp
 | some q =>
  rw[hq] at hp;obtain⟨h1,h2⟩:=hok.each k d q hd hq;simp only[Option.map_some,Option.some.injEq] at hp;subst hp;split
  ·unfold Kw;rw[hd];dsimp only;split
   ·exact⟨aS2 (hH.t.aD k d hd).2.2.2.2.2.2.2.2.2.1 h1,h2⟩
   ·exact⟨h1,h2⟩
  ·exact⟨h1,h2⟩
theorem aSW{s:aC}{x:aM}(hH:s.dJ)(hok:cM s x)(i:Int):cM s (Kz s x i):=by
 unfold Kz;split
 ·have h:=aJo hH hok i s.aD.length
  exact⟨hok.ck,hok.dm,aJ8 hH hok.ln i,h.dv,h.each,hok.wt⟩
 ·exact hok
section
variable(L:HL)(s:aC)(x:aM)(w:World)
theorem aPT(hH:s.dJ)(aW:iU L s)(hok:cM s x)(i:Int)(F:Nat→Prop)(hp:(dR L s x).sat F w)(hF:∀b,F b→b < w.heap.size):
  Cz 183 #[.pointer (some ⟨L.h,0,none⟩),iv i] w (Wr (iv (tX s x.ln i).1) (dR L s (Kz s x i)) w F):=by
 have nD:=hH.t.nv
 have hls:=aW.ds
 refine dK func183 ntmps183 hp hF ?_;generalize cN:(⟨w,fun b=>b < w.heap.size∧¬F b⟩:Piece)=R0;refine aA ?_;refine aU (fun w1 t=>Dj L s x w1 (t.nF 0 rfl aW hok)) ?_;refine aA ?_;refine kd (bN rfl (rL 0 rfl rfl)) ?_;refine aA ?_;refine bF 0 3 ?_;refine dZ 0 (qQ L.R s (tX s x.ln i).2) (fun w1 F1 t h1 h2 h3=>aMs L.R s x.ln hok.ln i w1 F1 h1 h2) ?_;refine aP 0 3 ?_;unfold Kz;cases hin:bO x.ln.length i
 ·have e:tX s x.ln i=(4,x.ln):=by
   unfold tX;rw[if_pos hin]
  rw[e];refine aA ?_;subst cN;exact cI 0 hF
 ·have e1:(tX s x.ln i).1=0:=by
   unfold tX;rw[if_neg (by simp[hin])]
  rw[e1,if_pos rfl]
  have mQ:cM s {x with ln:=(tX s x.ln i).2}:=⟨hok.ck,hok.dm,aJ8 hH hok.ln i,hok.dv,hok.each,hok.wt⟩
  generalize Hq:(tX s x.ln i).2=ln2 at mQ⊢
  change XK _ _ _ _ _ [dR L s {x with ln:=ln2}]
  have jA:=hok.dv
  refine aA ?_;refine kd (bN rfl (rL 0 rfl rfl)) ?_;refine aA ?_
  have hm0:Il s x.dv i 0=x.dv:=Qo _ _
  refine bK [(25,iv 0),(24,iv s.aD.length),(23,.slice L.A s.aD.length L.c),(1,iv i)] ?_;refine eJ (fun m e R H=>∃k:Nat,k≤s.aD.length∧m=s.aD.length - k∧e=[(25,iv k),(24,iv s.aD.length),(23,.slice L.A s.aD.length L.c),(1,iv i)]∧R=[R0]∧H=[dR L s {x with ln:=ln2,dv:=Il s x.dv i k}]) s.aD.length ⟨0,by omega,rfl,rfl,rfl,by rw[hm0]⟩ fun m e R H hI=>?_;obtain⟨k,hk,rfl,rfl,rfl,rfl⟩:=hI
  have nQ:=aJo hH mQ i k
  dsimp only at nQ;refine aA ?_;refine aG rfl (fun hlt=>?_) (fun hge=>?_)
  ·have hlt:k < s.aD.length:=by omega
   obtain⟨d,dF⟩:=get_some hlt;obtain⟨l,iS⟩:=get_some (l:=L.ds) (i:=k) (by omega);obtain⟨p,gK⟩:=get_some (l:=x.dv) (i:=k) (by omega)
   have lV:(Il s x.dv i k)[k]? =some p:=Qq gK
   have hstep:(Il s x.dv i k).set k (Kw s i k p)=Il s x.dv i (k+1):=Qp (f:=Kw s i) gK
   have hfo:=(nQ.each k d p dF lV).1
   refine Oh 0 rfl aW nQ (by omega) fun b off hA=>?_;refine aA ?_;refine kd (dat k (off+k*6) (hx:=by rw[←hA];rfl)) ?_;refine kd (oZ rfl (aR.dev 0 rfl aW nQ hA dF iS rfl)) ?_;refine bU fun g2=>?_;refine aA ?_;refine aG rfl (fun he=>?_) (fun he=>?_)
   ·have nE:Kw s i k p=(tF d p.1,p.2):=by
     unfold Kw;rw[dF];exact if_pos he
    refine aA ?_;refine Tb 1 k rfl dF iS lV ?_;dsimp only[List.set];refine bF 0 0 ?_;refine dZ 0 (iF l.1 d (tF d p.1)) (fun w1 F1 t h1 h2 h3=>aAF l.1 d p.1 (by have:=(hH.t.aD k d dF).2.2.2.2.2.2.2.2.1;omega) hfo w1 F1 h1 h2) ?_;refine aP 0 0 ?_;refine Tn 1 k rfl dF iS lV (p':=(tF d p.1,p.2)) ?_;dsimp only[List.set];rw[←nE,hstep];refine aA ?_;refine aY [1] rfl (by decide) (fun _ h=>h) ?_;exact dW (s.aD.length - (k+1)) ⟨k+1,hlt,rfl,rfl,rfl,rfl⟩
   ·have nE:Kw s i k p=p:=by
     unfold Kw;rw[dF];exact if_neg he
    rw[nE,yH lV] at hstep;rw[hstep];refine aA ?_;refine aY [1] rfl (by decide) (fun _ h=>h) ?_;exact dW (s.aD.length - (k+1)) ⟨k+1,hlt,rfl,rfl,rfl,rfl⟩
  obtain rfl:k=s.aD.length:=by omega
  refine aA ?_;subst cN;exact cI 0 hF
end
theorem aQS(f:Nat)(hL:HL)(s:aC)(z:bZ)(x:aM)(w:World)(hH:s.dJ)(aW:iU hL s)(hok:cM s x)(c:Int)(F:Nat→Prop)(hp:(gT f hL s z x).sat F w)(hF:∀b,F b→b < w.heap.size):
  Cz 105 #[pt f,iv c] w (Wr (.bool true) (gT f hL s z (Kz s x c)) w F):=by
 refine dK func105 ntmps105 hp hF ?_;generalize cN:(⟨w,fun b=>b < w.heap.size∧¬F b⟩:Piece)=R0;refine bF 0 0 ?_;refine lY 0 fun L=>?_;refine bF 1 1 ?_;refine aA ?_;refine kd (bN rfl (Rd.eZ 1 rfl rfl)) ?_;refine aA ?_;refine dZ 0 (dR hL s (Kz s x c)) (fun w1 F1 t h1 h2 h3=>aPT hL s x w1 hH aW hok c F1 h1 h2) ?_;refine aA ?_;refine aP 1 1 ?_;refine fC 0 (fun L:gF=>iQ f hL.h L s z) L ?_;refine aP 0 0 ?_;subst cN;exact cI 0 hF
end
section
def mJ(s:aC)(x:aM)(k id:Int):aM×Bool:=if k=117 then wW s x id else if k=99 then Kx s x id.toNat else if k=114 then yK x id else if k=100∨k=107 then qE s x id (decide (k=107)) else if k=111 then({x with ck:=(lC s x.ck id false).2},true) else if k=97 then(Kz s x id,true) else(x,false)
structure Eb(s:aC)(k id:Int):Prop where
 kd:k=117∨k=99∨k=114∨k=100∨k=107∨k=111∨k=97
 c:k=99→0≤id∧id < (s.aF.length:Int)
theorem aGR{s:aC}{st:List kH}(h:Gm s st)(i:Int):Gm s (vO st i).2:=by
 unfold vO;split
 ·exact h
 ·split
  ·rename_i x hx
   split
   ·exact h
   ·refine⟨by simp[h.len],fun y hy=>?_⟩;rcases List.mem_or_eq_of_mem_set hy with hy | rfl
    ·exact h.left y hy
    ·exact h.left x (List.mem_of_getElem? hx)
  ·exact h
theorem aR0{s:aC}{st:List eV}(h:vG s st)(d:Int)(keep:Bool):vG s (tU s st d keep).2:=by
 unfold tU;split
 ·exact h
 ·split
  ·rename_i c y hc hy
   split
   ·exact h
   ·split
    ·exact h
    ·split
     ·exact h
     ·refine⟨by simp[h.len],fun z hz=>?_,fun z hz=>?_⟩
      ·rcases List.mem_or_eq_of_mem_set hz with hz | rfl
       ·exact h.left z hz
       ·exact h.left y (List.mem_of_getElem? hy)
      ·rcases List.mem_or_eq_of_mem_set hz with hz | rfl
       ·exact h.phase z hz
       ·exact⟨by show(0:Int)≤99;omega,by show(99:Int) < 256;omega⟩
  ·exact h
theorem aN4{s:aC}{x:aM}(hH:s.dJ)(hok:cM s x)(d:Int)(keep:Bool):cM s (qE s x d keep).1:=by
 have h1:=aBe hH hok d s.aD.length
 unfold qE;split
 ·dsimp only;split
  ·exact⟨hok.ck,aR0 hok.dm _ _,hok.ln,h1.dv,h1.each,hok.wt⟩
  ·exact h1
 ·split
  ·exact hok
  ·exact hok
theorem aEL{s:aC}{x:aM}(hH:s.dJ)(hok:cM s x)(k id:Int):cM s (mJ s x k id).1:=by
 unfold mJ;split
 ·unfold wW;split
  ·exact⟨hok.ck,aFW hH hok.dm _,hok.ln,hok.dv,hok.each,hok.wt⟩
  ·split
   ·exact aD1 hH hok _ _
   ·exact hok
 ·split
  ·exact⟨Vp hH hok.ck _ _,hok.dm,hok.ln,hok.dv,hok.each,hok.wt⟩
  ·split
   ·unfold yK;split
    ·exact⟨hok.ck,hok.dm,aGR hok.ln _,hok.dv,hok.each,hok.wt⟩
    ·exact hok
   ·split
    ·exact aN4 hH hok _ _
    ·split
     ·exact⟨Vp hH hok.ck _ _,hok.dm,hok.ln,hok.dv,hok.each,hok.wt⟩
     ·split
      ·exact aSW hH hok _
      ·exact hok
section
variable(f:Nat)(hL:HL)(s:aC)(z:bZ)(x:aM)(w:World)
theorem aJK(hH:s.dJ)(aW:iU hL s)(hok:cM s x)(hk:Eb s z.kind z.id):aFz f hL s z x (mJ s x z.kind z.id):=by
 have mQ:=aEL hH hok z.kind z.id
 rcases hk.kd with h | h | h | h | h | h | h
 ·refine⟨_,by rw[h];rfl,(by kernel_rfl),mQ,fun w F hp hF fD=>?_⟩;rw[h];exact aQM f hL s z x w hH aW hok z.id F hp hF fD
 ·refine⟨_,by rw[h];rfl,(by kernel_rfl),mQ,fun w F hp hF fD=>?_⟩;obtain⟨h0,h1⟩:=hk.c h;obtain⟨c,hc⟩:∃c:Nat,z.id=c:=⟨z.id.toNat,by omega⟩
  rw[h,hc];exact aQQ f hL s z x w hH aW hok c (by omega) F hp hF
 ·refine⟨_,by rw[h];rfl,(by kernel_rfl),mQ,fun w F hp hF fD=>?_⟩;rw[h];exact aQL f hL s z x w hH aW hok z.id F hp hF
 ·refine⟨_,by rw[h];rfl,(by kernel_rfl),mQ,fun w F hp hF fD=>?_⟩
  have:=aIB f hL s z x w hH aW hok z.id F hp hF fD
  rw[h] at this⊢;exact this
 ·refine⟨_,by rw[h];rfl,(by kernel_rfl),mQ,fun w F hp hF fD=>?_⟩
  have:=aIB f hL s z x w hH aW hok z.id F hp hF fD
  rw[h] at this⊢;exact this
 ·refine⟨_,by rw[h];rfl,(by kernel_rfl),mQ,fun w F hp hF fD=>?_⟩;rw[h];exact aQR f hL s z x w hH aW hok z.id F hp hF
 ·refine⟨_,by rw[h];rfl,(by kernel_rfl),mQ,fun w F hp hF fD=>?_⟩;rw[h];exact aQS f hL s z x w hH aW hok z.id F hp hF
theorem aQG(z0:bZ)(hH:s.dJ)(aW:iU hL s)(hok:cM s x)(hz:Ed s z0)(fK:z0.at_ < 0)(mO:mT s x z0=(z,true))(hst:∀a,sW z0=some a→(gB s x z0 a).2.1=0→(gB s x z0 a).1=0→uD (kU z0 a))(a:Nat)(ha:z.at_=(a:Int))(tA:a < 2)(r:aM×Bool)(hact:aFz f hL s z x r)(Fi:uD (kU z a))(F:Nat→Prop)(hp:(gT f hL s z0 x).sat F w)(hF:∀b,F b→b < w.heap.size)(fD:kM ⟨w,fun b=>b < w.heap.size∧¬F b⟩):
  Cz 20 #[pt f] w (Wr (.tuple #[]) (gT f hL s (xF s z r) r.1) w F):=by
 obtain⟨fn,dI,hcb,Wm,Be⟩:=hact;refine Zu (vs:=[pt f]) (p:=gT f hL s z0 x) func20 rfl ntmps20 (by simp) hp hF ?_;generalize cN:(⟨w,fun b=>b < w.heap.size∧¬F b⟩:Piece)=R0 at fD⊢;refine aA ?_;refine Ud (f:=49) (fi:=[]) (ca:=[]) rfl ?_;refine aA ?_;refine kd (bN rfl (Iw 0 rfl fun _=>rfl)) ?_;refine aA ?_;refine bX (t:=8) rfl (fun _=>?_) (fun h=>absurd fK h);refine aA ?_
 refine dZ 0 (gT f hL s z x) (fun w1 F1 t h1 h2 h3=>by
  have:=aI9 f hL s z0 x hH aW hok hz hst w1 F1 h1 h2
  rw[mO] at this
  exact this) ?_
 refine aA ?_;refine jM [1,2,3,4,8,9,10,11] ?_;refine bP 0 ?_ (hQ:=fun _ _ _ h=>mU rfl h);refine bP 6 ?_ (hQ:=fun _ _ _ h=>mU rfl h);refine bP 7 ?_ (hQ:=fun _ _ _ h=>mU rfl h);refine aJ 1 ?_ (hQ:=fun _ _ _ h=>mU rfl h);refine aJ 2 ?_ (hQ:=fun _ _ _ h=>mU rfl h);refine aJ 3 ?_ (hQ:=fun _ _ _ h=>mU rfl h);refine aJ 4 ?_ (hQ:=fun _ _ _ h=>mU rfl h) (dI:=bN rfl (Iw 0 rfl fun _=>rfl));refine aJ 8 ?_ (hQ:=fun _ _ _ h=>mU rfl h);refine aJ 9 ?_ (hQ:=fun _ _ _ h=>mU rfl h);refine aJ 10 ?_ (hQ:=fun _ _ _ h=>mU rfl h);refine aJ 11 ?_ (hQ:=fun _ _ _ h=>mU rfl h) (dI:=bN rfl (Iw 0 rfl fun _=>rfl));refine aO 5 ?_;refine aU (fun w1 t=>aIY z.kind w1) ?_;rw[dI];refine bM ?_;refine aO 12 ?_;refine aAX 0 (fi:=[]) (ca:=[]) (gT f hL s z r.1) (fun w1 F1 t h1 h2 h3=>by simpa using Be w1 F1 h1 h2 (kM.le fD (h3 _ (by simp)))) ?_ (hf:=hcb);dsimp only[List.set];refine cX ?_;refine fJ ?_;refine aA ?_;obtain⟨x',b⟩:=r;dsimp only at Wm⊢;cases b
 ·refine aA ?_;subst cN;exact Bs (.inr rfl) (by kernel_rfl) Ya rfl fun w1 t=>⟨rfl,t.turns hF (by simp) (i:=0) rfl⟩
 ·refine aA ?_;refine kd (bN rfl (Iw 0 rfl fun _=>rfl)) ?_;refine aA ?_;refine bF 0 0 ?_;refine lY 0 fun L=>?_;refine bF 0 0 ?_;refine fG rfl rfl ?_ (hs:=fB.mk 0 rfl cK.h rfl (by simp[jW]));dsimp only[List.set];rw[show(jW hL.h L s z).set (0+16) (iv (-1))=jW hL.h L s {z with at_:= -1} from rfl];refine aP 0 0 ?_;refine fC 0 (fun L:gF=>iQ f hL.h L s {z with at_:= -1}) L ?_;refine aP 0 0 ?_;refine aA ?_;rw[ha];refine dZ 0 (gT f hL s (wU s x' {z with at_:= -1} a 0) x') (fun w1 F1 t h1 h2 h3=>aEm f hL s {z with at_:= -1} x' hH aW Wm a tA 0 (fun _=>Fi) w1 F1 h1 h2) ?_;refine aA ?_
  have hend:xF s z (x',true)=wU s x' {z with at_:= -1} a 0:=by
   unfold xF;rw[if_pos rfl,ha];rfl
  rw[hend];subst cN;exact Bs (.inr rfl) (by kernel_rfl) Ya rfl fun w1 t=>⟨rfl,t.turns hF (by simp) (i:=0) rfl⟩
def kZ(s:aC)(x:aM)(z:bZ):bZ×aM:=
 let t:=mT s x z
 let z1:=if z.at_ < 0 then t.1 else z
 if z.at_ < 0∧t.2=false then(t.1,x) else(xF s z1 (mJ s x z1.kind z1.id),(mJ s x z1.kind z1.id).1)
structure aCg(s:aC)(x:aM)(z:bZ):Prop where
 hok:cM s x
 fm:Ed s z
 at_:z.at_ < 0∨(∃a:Nat,z.at_=(a:Int)∧a < 2∧Eb s z.kind z.id∧uD (kU z a))
 ask:z.at_ < 0→∀a,sW z=some a→(gB s x z a).2.1=0→(gB s x z a).1=0→uD (kU z a)
 new:z.at_ < 0→∀a,sW z=some a→(gB s x z a).2.1≠0→Eb s (gB s x z a).2.1 (gB s x z a).2.2∧uD (kU z a)
theorem aHx{z:bZ}{a:Nat}(h:z.last=0∨z.last=1)(hn:sW z=some a):a < 2:=by
 unfold sW at hn;split at hn
 ·cases hn;omega
 ·split at hn
  ·cases hn;omega
  ·cases hn
theorem aQH(hH:s.dJ)(aW:iU hL s)(h:aCg s x z)(F:Nat→Prop)(hp:(gT f hL s z x).sat F w)(hF:∀b,F b→b < w.heap.size)(fD:kM ⟨w,fun b=>b < w.heap.size∧¬F b⟩):
  Cz 20 #[pt f] w (Wr (.tuple #[]) (gT f hL s (kZ s x z).1 (kZ s x z).2) w F):=by
 unfold kZ;dsimp only
 by_cases fK:z.at_ < 0
 ·cases mO:(mT s x z).2
  ·rw[if_pos ⟨fK,rfl⟩];exact aQJ f hL s z x hH aW h.hok h.fm (h.ask fK) fK mO w F hp hF
  ·rw[if_neg (by simp),if_pos fK]
   have mN:mT s x z=((mT s x z).1,true):=Prod.ext rfl mO
   have aQe:∃a,sW z=some a∧(gB s x z a).2.1≠0∧(mT s x z).1=(wT s x z a).1:=by
    unfold mT at mO⊢;cases hn:sW z with
    | none=>rw[hn] at mO;cases mO
    | some a=>
     rw[hn] at mO;refine⟨a,rfl,fun h0=>?_,rfl⟩;unfold wT at mO;dsimp only at mO;rw[if_pos h0] at mO;cases mO
   obtain⟨a,hn,hd,he⟩:=aQe
   have ha:=aHx h.fm.la hn
   obtain⟨hk,Fi⟩:=h.new fK a hn hd
   have e:(wT s x z a).1={z with last:=a,x:=jY z.x a (gB s x z a).2.1 (gB s x z a).2.2,y:=mR z.y a (gB s x z a).2.1 (gB s x z a).2.2,at_:=a,kind:=(gB s x z a).2.1,id:=(gB s x z a).2.2}:=by
    unfold wT;dsimp only;rw[if_neg hd]
   rw[e] at he
   have hb:kU (mT s x z).1 a=kU z a:=by rw[he];rfl
   have h1:(mT s x z).1.at_=(a:Int):=by rw[he]
   have h2:(mT s x z).1.kind=(gB s x z a).2.1:=by rw[he]
   have h3:(mT s x z).1.id=(gB s x z a).2.2:=by rw[he]
   exact aQG f hL s (mT s x z).1 x w z hH aW h.hok h.fm fK mN (h.ask fK) a h1 ha _ (aJK f hL s (mT s x z).1 x hH aW h.hok (by rw[h2,h3];exact hk)) (by rw[hb];exact Fi) F hp hF fD
 ·rw[if_neg (fun hh=>fK hh.1),if_neg fK];rcases h.at_ with h1 | ⟨a,ha,tA,hk,Fi⟩
  ·exact absurd h1 fK
  ·exact aQI f hL s z x w hH aW h.hok h.fm a ha tA _ (aJK f hL s z x hH aW h.hok hk) Fi F hp hF fD
end
end
section
def Tq(s:aC):Nat→bZ→aM→List Int→bZ→aM→Prop
 | 0,_,_,_,_,_=>False
 | n + 1, z, x, a, z', x' => aCg s x z ∧ ((oM (kZ s x z).1 0 = some a ∧ z' = oL (kZ s x z).1 0 ∧ x' = (kZ s x z).2) ∨
   (oM (kZ s x z).1 0=none∧cM s (kZ s x z).2∧(∀i,iH (kZ s x z).2.wt i=0)∧Tq s n (oL (kZ s x z).1 0) (fW s (kZ s x z).2 0) a z' x'))
theorem aLF(A:Option Addr)(n c:Nat)(l:List Int)(st:Int)(w:World)(hs:aI (all w) 1 A n (qU l))(hn:n=l.length)(h2:2≤n)(h1:l[1]? =some st):
  Cz 96 #[.slice A n c] w (Rt (.tuple #[.int .i32 (IntKind.i32.wrap st),iv 0]) w):=by
 subst hn;obtain⟨b,off,rfl,hr⟩:=aI.u32 hs (by omega)
 have k1:=hr 1 st h1
 refine aN func96 ntmps96 ?_;refine aA ?_;refine aG rfl (fun h=>absurd h (by omega)) (fun _=>?_);refine aA ?_;refine kd (dat 1 (off+1)) ?_;refine aA ?_;refine kd (Ku (ds:=.int .u32) (kd:=.i32) (c:=IntKind.i32.wrap st) (by kernel_rfl) (by kernel_rfl) rfl rfl) ?_;refine aA ?_;exact eL rfl rfl rfl fun w1 t=>⟨rfl,t.below (by simp)⟩
end
section
structure Inv(s:aC)(X:bJ)(bd bc bl:Option Nat)(x:aM):Prop where
 ok:cM s x
 wt:∀i,iH x.wt i=0
 of:X.of s
 dom:∀i m,x.dm[i]? =some m→bd≠some i→(hasB X.d i=true→m.phase=49)∧(hasB X.d i=false→m.phase=48∨m.phase=116)
 jK:∀i c y,s.aF[i]? =some c→x.ck[i]? =some y→hasB X.c i=true→bc≠some i→y.on=true∧(c.kind=112→y.left=0)
 sG:∀i,hasB X.c i=true→∀j∈fU s i,qV s j→hasB X.c j=true
 Ab:∀c,bc=some c→∀i,hasB X.c i=true→i≠c→c∉fU s i
 tO:∀i y,x.ln[i]? =some y→hasB X.l i=true→bl≠some i→y.held=false
 qX:∀(i:Nat) (p:bR×dB) (d:bL),x.dv[i]? =some p→s.aD[i]? =some d→(p.2.at_=0∨p.2.at_=2∨p.2.at_=1∧bd=some d.domain.toNat)∧(hasB X.d d.domain.toNat=true→bd≠some d.domain.toNat→p.2.at_=0)
theorem aGb{m:eV}(h:m.phase=49∨m.phase=48∨m.phase=116):(eE m).2=m:=by
 unfold eE;rw[if_neg (by omega),if_neg (by omega),if_neg (by omega)]
theorem aJx(s:aC):∀(k c:Nat),∀j∈lJ s k c,j < s.aF.length
 | 0,c,j,h=>by simp[lJ] at h
 | k + 1, c, j, h => by
  unfold lJ at h;cases hc:s.aF[c]? with
  | none=>rw[hc] at h;simp at h
  | some x =>
   rw[hc] at h;dsimp only at h;rcases List.mem_cons.1 h with rfl | h
   ·exact(List.getElem?_eq_some_iff.1 hc).1
   ·cases hs:x.src with
    | nil=>rw[hs] at h;simp at h
    | cons f fs=>rw[hs] at h;exact aJx s k _ j h
theorem aBC{s:aC}{i j:Nat}(h:j∈fU s i):j < s.aF.length:=aJx s _ _ j h
theorem Jr{s:aC}{i:Nat}{c:eD}(h:s.aF[i]? =some c):kindOf s i=c.kind:=by
 unfold kindOf;rw[h];rfl
section
variable{s:aC}{X:bJ}{bd bc bl:Option Nat}{x:aM}
theorem Inv.up(h:Inv s X bd bc bl x){i j:Nat}(hi:hasB X.c i=true)(hj:j∈fU s i)(hb:bc≠some j):Pv s x.ck j=true:=by
 have hlt:=aBC hj
 obtain⟨c,hc⟩:=get_some hlt;obtain⟨y,hy⟩:=get_some (l:=x.ck) (i:=j) (by have:=h.ok.ck.len;omega);unfold Pv;rw[hc,hy];dsimp only;unfold rP
 by_cases h1:c.kind=112
 ·rw[if_pos h1];obtain⟨h2,h3⟩:=h.jK j c y hc hy (h.sG i hi j hj (.inl (by rw[Jr hc];exact h1))) hb;rw[h2,h3 h1];rfl
 ·rw[if_neg h1]
  by_cases h4:c.kind=103
  ·rw[if_pos h4];exact(h.jK j c y hc hy (h.sG i hi j hj (.inr (by rw[Jr hc];exact h4))) hb).1
  ·rw[if_neg h4]
theorem Inv.src(hm:s.made)(h:Inv s X bd bc bl x){i f:Nat}{c:eD}{fs:List Int}(hc:s.aF[i]? =some c)(hs:c.src=(f:Int)::fs)(hi:hasB X.c i=true)(hb:∀j,bc=some j→j∉fU s f):runs s x.ck f=true:=by
 have kC:=Yy hm.aF hc
 rw[hs] at kC;dsimp only at kC;unfold runs;rw[List.all_eq_true];intro j hj;refine h.up hi (j:=j) (by rw[kC];exact List.mem_cons_of_mem _ (by simpa using hj)) fun hbj=>hb j hbj hj
theorem aGl(hm:s.made){i:Nat}{c:eD}(hc:s.aF[i]? =some c)(lT:qV s i):∃(f:Nat) (fs:List Int),c.src=(f:Int)::fs∧f < i:=by
 have hfit:=hm.aF i c hc
 have hk:=Jr hc
 unfold qV at lT;rw[hk] at lT;obtain⟨h1,h2⟩:=hfit;cases hs:c.src with
 | nil=>
  exfalso;rw[hs] at h2;simp at h2;omega
 | cons f fs=>
  have:=h1 f (by rw[hs];simp)
  exact⟨f.toNat,fs,by rw[Int.toNat_of_nonneg this.1],by omega⟩
theorem Inv.aOk(hm:s.made)(h:Inv s X bd bc bl x){i f:Nat}{c:eD}{fs:List Int}(hc:s.aF[i]? =some c)(hs:c.src=(f:Int)::fs)(hf:f < i)(hi:hasB X.c i=true):∀j,bc=some j→j∉fU s f:=fun j hj hmem=>by
 have hle:=aBD hm hmem
 have kC:=Yy hm.aF hc
 rw[hs] at kC;dsimp only at kC;refine h.Ab j hj i hi (by omega) ?_;rw[kC];exact List.mem_cons_of_mem _ (by simpa using hmem)
theorem aOt{cJ:Int}{n i:Nat}{p':bR×dB}(h:(wZ x cJ n)[i]? =some p'):∃p,x.dv[i]? =some p∧(p.2.at_≠1→p'.2=p.2)∧(i < n→p'.2=sP p.2 (decide (0 < iH x.wt i)) (Du cJ i)):=by
 rw[wZ,List.getElem?_mapIdx] at h;cases hq:x.dv[i]? with
 | none=>rw[hq] at h;cases h
 | some q =>
  rw[hq] at h;simp only[Option.map_some,Option.some.injEq] at h;refine⟨q,rfl,fun h0=>?_,fun h0=>?_⟩
  ·subst h;split
   ·unfold sP;rw[if_pos h0]
   ·rfl
  ·subst h;rw[if_pos h0]
theorem aRw{dv:List (bR×dB)}{e:Int×Nat}{i:Nat}{p':bR×dB}(h:(pS s dv e)[i]? =some p'):∃p,dv[i]? =some p∧p'.2=p.2:=by
 rw[pS,Ai,List.getElem?_mapIdx] at h;cases hq:dv[i]? with
 | none=>rw[hq] at h;cases h
 | some q =>
  rw[hq] at h;simp only[Option.map_some,Option.some.injEq] at h;refine⟨q,rfl,?_⟩;subst h;split
  ·unfold tV;split
   ·split<;>rfl
   ·rfl
  ·rfl
theorem aI7:∀(es:List (Int×Nat)) (dv:List (bR×dB)) (i:Nat) (p':bR×dB),(es.foldl (pS s) dv)[i]? =some p'→∃p,dv[i]? =some p∧p'.2=p.2
 | [],_,_,p',h=>⟨p',h,rfl⟩
 | e::es,dv,i,p',h=>by
  obtain⟨p1,h1,h2⟩:=aI7 es _ i p' h;obtain⟨p,h3,h4⟩:=aRw h1;exact⟨p,h3,h2.trans h4⟩
theorem aA0{cJ:Int}{i:Nat}{p':bR×dB}(h:(fW s x cJ).dv[i]? =some p'):∃p,x.dv[i]? =some p∧(p.2.at_≠1→p'.2=p.2)∧(i < s.aD.length→p'.2=sP p.2 (decide (0 < iH x.wt i)) (Du cJ i)):=by
 obtain⟨p1,h1,h2⟩:=aI7 _ _ i p' h;obtain⟨p,h3,h4,h5⟩:=aOt h1;exact⟨p,h3,fun h0=>h2.trans (h4 h0),fun h0=>h2.trans (h5 h0)⟩
theorem aRZ(i:Nat):Du 0 i=false:=by
 unfold Du;simp;decide+kernel
theorem aFZ(lE:∀i,iH x.wt i=0){i:Nat}{p':bR×dB}(hi:i < s.aD.length)(h:(fW s x 0).dv[i]? =some p'):∃p,x.dv[i]? =some p∧(p.2.at_≠1→p'.2=p.2)∧(p.2.at_=1→p'.2.at_=2):=by
 obtain⟨p,h1,h2,h3⟩:=aA0 h;refine⟨p,h1,h2,fun h0=>?_⟩;rw[h3 hi,lE,aRZ];unfold sP;rw[if_neg (by omega),if_neg (by simp),if_neg (by simp)]
theorem aL3{st:List eP}{i:Nat}{c:eD}{y:eP}(hc:s.aF[i]? =some c)(hy:st[i]? =some y):(lQ s st)[i]? =some (vM s st c y):=by
 rw[lQ,List.getElem?_zipWith,hc,hy]
theorem aL2{st:List eP}{i:Nat}{c:eD}{y':eP}(hc:s.aF[i]? =some c)(hy:(lQ s st)[i]? =some y'):∃y,st[i]? =some y∧y'=vM s st c y:=by
 rw[lQ,List.getElem?_zipWith,hc] at hy;cases hq:st[i]? with
 | none=>rw[hq] at hy;cases hy
 | some y=>rw[hq] at hy;cases hy;exact⟨y,rfl,rfl⟩
theorem Inv.tick(hm:s.made)(h:Inv s X bd bc bl x):Inv s X bd bc bl (fW s x 0):=by
 refine⟨aGa hm.dJ h.ok 0,h.wt,h.of,fun i m hi hb=>?_,fun i c y hc hy hi hb=>?_,h.sG,h.Ab,fun i y hy hi hb=>?_,fun i p d hp hd=>?_⟩
 ·simp only[fW,nK,List.getElem?_map] at hi;cases hq:x.dm[i]? with
  | none=>rw[hq] at hi;cases hi
  | some m0 =>
   rw[hq] at hi;simp only[Option.map_some,Option.some.injEq] at hi;obtain⟨h1,h2⟩:=h.dom i m0 hq hb
   have hr:m0.phase=49∨m0.phase=48∨m0.phase=116:=by
    cases hX:hasB X.d i
    ·exact .inr (h2 hX)
    ·exact .inl (h1 hX)
   rw[aGb hr] at hi;subst hi;exact⟨h1,h2⟩
 ·obtain⟨y0,hy0,rfl⟩:=aL2 hc hy;obtain⟨h1,h2⟩:=h.jK i c y0 hc hy0 hi hb;unfold vM
  by_cases hk:c.kind=112
  ·obtain⟨f,fs,hs,hf⟩:=aGl hm hc (.inl (by rw[Jr hc];exact hk))
   have hr:=h.src hm hc hs hi (h.aOk hm hc hs hf hi)
   have pP:Qd c=f:=by
    unfold Qd;rw[hs];simp
   rw[if_pos ⟨hk,h1⟩,pP,hr,if_neg (by simp),if_neg (by have:=h2 hk;omega)];exact⟨h1,h2⟩
  ·rw[if_neg (by simp[hk])];exact⟨h1,h2⟩
 ·simp only[fW,Ep,List.getElem?_map] at hy;cases hq:x.ln[i]? with
  | none=>rw[hq] at hy;cases hy
  | some y0=>
   rw[hq] at hy;simp only[Option.map_some,Option.some.injEq] at hy
   have h1:=h.tO i y0 hq hi hb
   subst hy;unfold lP;rw[if_pos h1];exact h1
 ·obtain⟨p0,h0,h1,h1'⟩:=aFZ h.wt (List.getElem?_eq_some_iff.1 hd).1 hp;obtain⟨h2,h3⟩:=h.qX i p0 d h0 hd
  by_cases h4:p0.2.at_=1
  ·refine⟨.inr (.inl (h1' h4)),fun h5 h6=>?_⟩
   have:=h3 h5 h6
   omega
  ·rw[h1 h4];exact⟨h2,h3⟩
end
end
section
def vI(s:aC)(X:bJ)(m:List Int)(k id:Int):bZ:=⟨X,dP s,1,0,m,[],0,0,k,id⟩
def rN(s:aC)(X:bJ)(l k id:Int):bZ:=⟨X,dP s,0,0,[],[],l,-1,k,id⟩
structure Plain(m:List Int):Prop where
 u:wG m
 n:m.length≤1000000
 rep:uD m
 more:∀(s:aC) (x:aM),Dw s x m 0=[m.headD 0,IntKind.u32.wrap 0]
section
variable{s:aC}{X:bJ}{x:aM}{m:List Int}{k id:Int}
theorem aF3(hm:s.made)(hX:X.of s)(hp:Plain m):Ed s (vI s X m k id):=by
 have h1:=hm.nc
 have h2:=hm.nd
 have h3:=hm.nr
 refine⟨.inl rfl,hp.u,by simp[vI,wG],hp.n,by simp[vI],⟨?_,?_,?_⟩,aCu hm.wY⟩
 ·show X.d.length≤_
  rw[hX.d];omega
 ·show X.c.length≤_
  rw[hX.c];omega
 ·show X.l.length≤_
  rw[hX.l];omega
theorem aF2(hm:s.made)(hX:X.of s)(hp:Plain m)(hok:cM s x)(hk:Eb s k id):aCg s x (vI s X m k id):=
 ⟨hok,aF3 hm hX hp,.inr ⟨0,rfl,by omega,hk,hp.rep⟩,fun h=>absurd h (by show ¬(0:Int) < 0;decide),fun h=>absurd h (by show ¬(0:Int) < 0;decide)⟩
theorem aCJ:kZ s x (vI s X m k id)=(xF s (vI s X m k id) (mJ s x k id),(mJ s x k id).1):=by
 unfold kZ;dsimp only;rw[if_neg (by rintro⟨h,_⟩;exact absurd h (by show ¬(0:Int) < 0;decide)),if_neg (by show ¬(0:Int) < 0;decide)];rfl
end
def wJ(s:aC)(k id:Int):Nat→aM→aM→Prop
 | 0,_,_=>False
 | n+1,x,x'=>cM s x∧(mJ s x k id=(x',true)∨∃x1,mJ s x k id=(x1,false)∧cM s x1∧(∀i,iH x1.wt i=0)∧wJ s k id n (fW s x1 0) x')
theorem aA6{s:aC}{x x':aM}{k id:Int}{n:Nat}(hok:cM s x)(hr:mJ s x k id=(x',true)):wJ s k id (n+1) x x':=⟨hok,.inl hr⟩
theorem aA5{s:aC}{x x1 x':aM}{k id:Int}{n:Nat}(hok:cM s x)(hr:mJ s x k id=(x1,false))(Mz:cM s x1)(lE:∀i,iH x1.wt i=0)(h:wJ s k id n (fW s x1 0) x'):wJ s k id (n+1) x x':=⟨hok,.inr ⟨x1,hr,Mz,lE,h⟩⟩
theorem aGp{s:aC}{X:bJ}{m:List Int}{k id:Int}(hm:s.made)(hX:X.of s)(hp:Plain m)(hk:Eb s k id):∀(n:Nat) {x x':aM},wJ s k id n x x'→Tq s n (vI s X m k id) x [m.headD 0,IntKind.u32.wrap 0] (rN s X 0 k id) x'
 | 0,_,_,h=>h.elim
 | n + 1, x, x', ⟨hok, .inl hr⟩ => by
  refine⟨aF2 hm hX hp hok hk,.inl ?_⟩;rw[aCJ,hr]
  have he:xF s (vI s X m k id) (x',true)={vI s X m k id with at_:= -1,h0:=2,w0:=[m.headD 0,IntKind.u32.wrap 0]}:=by
   unfold xF;rw[if_pos rfl]
   show wU s x' {vI s X m k id with at_:= -1} 0 0=_
   unfold wU
   show aDa _ 0 2 (Dw s x' m 0)=_
   rw[hp.more];rfl
  rw[he];exact⟨rfl,rfl,rfl⟩
 | n + 1, x, x', ⟨hok, .inr ⟨x1, hr, Mz, lE, h⟩⟩ => by
  refine⟨aF2 hm hX hp hok hk,.inr ?_⟩;rw[aCJ,hr]
  have he:xF s (vI s X m k id) (x1,false)=vI s X m k id:=by
   unfold xF;rw[if_neg (by simp)]
  rw[he];exact⟨rfl,Mz,lE,aGp hm hX hp hk n h⟩
theorem Vn{st:List eV}{d:Nat}{y:eV}(hy:st[d]? =some y):rU st (d:Int)=y.phase:=by
 have hlt:=(List.getElem?_eq_some_iff.1 hy).1
 unfold rU;rw[if_pos (show bO st.length (d:Int)=true from decide_eq_true (by omega)),Int.toNat_natCast,hy];rfl
def Ah(y:eV):Nat:=if y.phase=49 then 0 else if y.phase=104 then 1 else if y.phase=114 then 2+y.left.toNat else 7
theorem aH0(l:Int)(a b:Bool):Ah ⟨114,l,a,b⟩=2+l.toNat:=rfl
theorem aH1(l:Int)(a b:Bool):Ah ⟨104,l,a,b⟩=1:=rfl
theorem aOp(l:Int)(a b:Bool):Ah ⟨49,l,a,b⟩=0:=rfl
section
variable{s:aC}{X:bJ}
theorem aOO{x:aM}{D:Int}{n i:Nat}{p':bR×dB}{d:bL}(hd:s.aD[i]? =some d)(h:(rY s x D n)[i]? =some p'):∃p,x.dv[i]? =some p∧p'.2=if i < n∧d.domain=D then(nO p.2).2 else p.2:=by
 rw[rY,List.getElem?_mapIdx] at h;cases hq:x.dv[i]? with
 | none=>rw[hq] at h;cases h
 | some q =>
  rw[hq] at h;simp only[Option.map_some,Option.some.injEq] at h;refine⟨q,rfl,?_⟩;subst h
  by_cases h1:i < n
  ·rw[if_pos h1];unfold Cw;rw[hd];dsimp only
   by_cases h2:d.domain=D
   ·rw[if_pos h2,if_pos ⟨h1,h2⟩]
   ·rw[if_neg h2,if_neg fun h=>h2 h.2]
  ·rw[if_neg h1,if_neg fun h=>h1 h.1]
theorem aCO(hm : s.made){d : Nat}{c : Dom}(hc : s.domains[d]? = some c)(hX : hasB X.d d = true)(hab : c.above = -1 ∨ (0 ≤ c.above ∧ hasB X.d c.above.toNat = true)) :
  ∀(n:Nat) (x:aM) (y:eV),Inv s X (some d) none none x→(∀(i:Nat) (p:bR×dB),x.dv[i]? =some p→p.2.at_≠1)→x.dm[d]? =some y→(y.phase=49∨y.phase=104∨y.phase=114∨y.phase=48∨y.phase=116)→Ah y < n→
   ∃x',wJ s 117 d n x x'∧Inv s X none none none x'
 | 0,_,_,_,_,_,_,h=>absurd h (by omega)
 | n + 1, x, y, hi, hno, hy, mP, Rj => by
  have aIh:∀x1:aM,x1.dv=x.dv→∀(i:Nat) (p:bR×dB),(fW s x1 0).dv[i]? =some p→p.2.at_≠1:=fun x1 he i p hp=>by
   obtain⟨p0,h0,h1,_⟩:=aA0 hp
   have h2:=hno i p0 (by rw[←he];exact h0)
   rw[h1 h2];exact h2
  have hlt:=(List.getElem?_eq_some_iff.1 hy).1
  have hl:=hi.ok.dm.left y (List.mem_of_getElem? hy)
  have hact:mJ s x 117 d=wW s x d:=rfl
  have Wl:=Vn hy
  have aBg:∀x1:aM,∀y1:eV,x1.dm[d]? =some y1→(fW s x1 0).dm[d]? =some (eE y1).2:=fun x1 y1 h1=>by
   simp only[fW,nK,List.getElem?_map,h1,Option.map_some]
  by_cases xD:y.phase=49
  ·refine⟨{x with dv:=rY s x d s.aD.length},aA6 hi.ok ?_,?_⟩
   ·rw[hact,wW,Wl,if_neg (by omega),if_pos xD]
   ·refine⟨aD1 hm.dJ hi.ok _ _,hi.wt,hi.of,fun i m' hi' _=>?_,hi.jK,hi.sG,hi.Ab,hi.tO,fun i p' dd hp' eB=>?_⟩
    by_cases hid:i=d
    ·subst hid;cases hy.symm.trans hi';exact⟨fun _=>xD,fun h=>by rw[hX] at h;cases h⟩
    ·exact hi.dom i m' hi' (by simp[Ne.symm hid])
    ·have aDM:=(List.getElem?_eq_some_iff.1 eB).1
     obtain⟨p0,h0,h1⟩:=aOO eB hp';obtain⟨h2,h3⟩:=hi.qX i p0 dd h0 eB;rw[h1]
     by_cases hD:dd.domain=(d:Int)
     ·rw[if_pos ⟨aDM,hD⟩]
      have h4:(nO p0.2).2.at_=0:=by
       unfold nO;rcases h2 with h | h | h
       ·rw[if_pos (by omega)];exact h
       ·rw[if_neg (by omega)]
       ·exact absurd h.1 (hno i p0 h0)
      exact⟨.inl h4,fun _ _=>h4⟩
     ·rw[if_neg fun h=>hD h.2]
      have sC:=(hm.aD i dd eB).2.2.1
      refine⟨by have:=hno i p0 h0;omega,fun h4 _=>h3 h4 fun h5=>hD ?_⟩
      have h5:=Option.some.inj h5
      omega
  ·by_cases hdn:y.phase=48∨y.phase=116
   ·have lS:(sN s x.dm d).2=x.dm.set d ⟨114,c.delay,decide (y.phase=116),y.keep⟩:=by
     unfold sN;rw[show bO x.dm.length (d:Int)=true from decide_eq_true (by omega)];simp only[Bool.true_eq_false,if_false,Int.toNat_natCast,hc,hy]
     have h1:Ge y=true:=decide_eq_true hdn
     have h2:Of x.dm c.above=true:=by
      unfold Of;rcases hab with h | ⟨h0,h1⟩
      ·rw[h];rfl
      ·have hfit:=(hm.domains d c hc).1
       have hal:c.above.toNat < x.dm.length:=by omega
       obtain⟨ya,hya⟩:=get_some hal
       have:=(hi.dom _ ya hya (by simp;omega)).1 h1
       rw[hya];simp[this]
     rw[h1,h2];simp
    have Ni:mJ s x 117 d=({x with dm:=x.dm.set d ⟨114,c.delay,decide (y.phase=116),y.keep⟩},false):=by
     rw[hact,wW,Wl,if_pos hdn,lS]
    have aU8:=(hm.domains d c hc).2
    have hinv:Inv s X (some d) none none {x with dm:=x.dm.set d ⟨114,c.delay,decide (y.phase=116),y.keep⟩}:=by
     refine⟨?_,hi.wt,hi.of,fun i m' hi' hb=>?_,hi.jK,hi.sG,hi.Ab,hi.tO,hi.qX⟩
     ·have:=aFW hm.dJ hi.ok.dm d
      rw[lS] at this;exact⟨hi.ok.ck,this,hi.ok.ln,hi.ok.dv,hi.ok.each,hi.ok.wt⟩
     ·have hid:d≠i:=fun h=>hb (by rw[h])
      rw[List.getElem?_set_ne hid] at hi';exact hi.dom i m' hi' hb
    have hy1:({x with dm:=x.dm.set d ⟨114,c.delay,decide (y.phase=116),y.keep⟩}:aM).dm[d]? =some ⟨114,c.delay,decide (y.phase=116),y.keep⟩:=List.getElem?_set_self hlt
    have hmy:Ah y=7:=by
     unfold Ah;rw[if_neg xD,if_neg (by omega),if_neg (by omega)]
    obtain⟨x',h1,h2⟩:=aCO hm hc hX hab n _ _ (hinv.tick hm) (aIh _ rfl) (aBg _ _ hy1) (by
     unfold eE;rw[if_pos rfl];split
     ·right;right;left;rfl
     ·right;left;rfl) (by
     unfold eE;rw[if_pos rfl];split
     ·rw[aH0];dsimp only;omega
     ·rw[aH1]
      omega)
    exact⟨x',aA5 hi.ok Ni hinv.ok hinv.wt h1,h2⟩
   ·have Ni:mJ s x 117 d=(x,false):=by
     rw[hact,wW,Wl,if_neg hdn,if_neg xD]
    have Jv:y.phase=104∨y.phase=114:=by omega
    obtain⟨x',h1,h2⟩:=aCO hm hc hX hab n _ _ (hi.tick hm) (aIh _ rfl) (aBg _ _ hy) (by
     unfold eE;rcases Jv with h | h
     ·rw[if_neg (by omega),if_pos h];left;rfl
     ·rw[if_pos h];split
      ·right;right;left;rfl
      ·right;left;rfl) (by
     unfold eE;rcases Jv with h | h
     ·rw[if_neg (by omega),if_pos h]
      have:Ah y=1:=by
       unfold Ah;rw[if_neg xD,if_pos h]
      rw[aOp];omega
     ·have hmy:Ah y=2+y.left.toNat:=by
       unfold Ah;rw[if_neg xD,if_neg (by omega),if_pos h]
      rw[if_pos h];split
      ·rw[aH0];omega
      ·rw[aH1]
       omega)
    exact⟨x',aA5 hi.ok Ni hi.ok hi.wt h1,h2⟩
theorem aG3(hm:s.made){r:Nat}(hr:r < s.aT.length):
  ∀(n:Nat) (x:aM) (y:kH),Inv s X none none (some r) x→x.ln[r]? =some y→(if y.held then y.left.toNat+1 else 0) < n→
   ∃x',wJ s 114 r n x x'∧Inv s X none none none x'
 | 0,_,_,_,_,h=>absurd h (by omega)
 | n + 1, x, y, hi, hy, Rj => by
  have hlt:=(List.getElem?_eq_some_iff.1 hy).1
  have hl:=hi.ok.ln.left y (List.mem_of_getElem? hy)
  have hact:mJ s x 114 r=yK x r:=rfl
  have hin:bO x.ln.length (r:Int)=true:=decide_eq_true (by omega)
  have aBo:Ba x.ln r=y.held:=by
   unfold Ba;rw[hin,Int.toNat_natCast,hy];rfl
  cases hh:y.held
  ·refine⟨x,aA6 hi.ok ?_,?_⟩
   ·rw[hact,yK,aBo,hh];rfl
   ·refine⟨hi.ok,hi.wt,hi.of,hi.dom,hi.jK,hi.sG,hi.Ab,fun i y' hi' hx _=>?_,hi.qX⟩
    by_cases hid:i=r
    ·subst hid;cases hy.symm.trans hi';exact hh
    ·exact hi.tO i y' hi' hx (by simp[Ne.symm hid])
  ·rw [hh] at Rj;simp only[if_true] at Rj
   have aIb:(vO x.ln r).2=x.ln.set r ⟨y.left,true,true⟩:=by
    unfold vO;rw[hin];simp only[Bool.true_eq_false,if_false,Int.toNat_natCast,hy,hh]
   have Ni:mJ s x 114 r=({x with ln:=x.ln.set r ⟨y.left,true,true⟩},false):=by
    rw[hact,yK,aBo,hh,if_pos rfl,aIb]
   have hinv:Inv s X none none (some r) {x with ln:=x.ln.set r ⟨y.left,true,true⟩}:=by
    refine⟨?_,hi.wt,hi.of,hi.dom,hi.jK,hi.sG,hi.Ab,fun i y' hi' hx hb=>?_,hi.qX⟩
    ·have:=aGR hi.ok.ln r
     rw[aIb] at this;exact⟨hi.ok.ck,hi.ok.dm,this,hi.ok.dv,hi.ok.each,hi.ok.wt⟩
    ·have hid:r≠i:=fun h=>hb (by rw[h])
     rw[List.getElem?_set_ne hid] at hi';exact hi.tO i y' hi' hx hb
   have hy1:(fW s {x with ln:=x.ln.set r ⟨y.left,true,true⟩} 0).ln[r]? =some (lP ⟨y.left,true,true⟩):=by
    simp only[fW,Ep,List.getElem?_map,List.getElem?_set_self hlt,Option.map_some]
   obtain⟨x',h1,h2⟩:=aG3 hm hr n _ _ (hinv.tick hm) hy1 (by
    by_cases h0:0 < y.left
    ·have ht:lP ⟨y.left,true,true⟩=⟨y.left - 1,true,true⟩:=by
      unfold lP;rw[if_neg (by simp),if_pos h0]
     rw[ht]
     show(y.left - 1).toNat+1 < n
     omega
    ·have ht:lP ⟨y.left,true,true⟩=⟨y.left,false,false⟩:=by
      unfold lP;rw[if_neg (by simp),if_neg h0,if_pos rfl]
     rw[ht]
     show 0 < n
     omega)
   exact⟨x',aA5 hi.ok Ni hinv.ok hinv.wt h1,h2⟩
end
end
section
section
variable{s:aC}{X:bJ}
theorem aG6(hm:s.made){c:Nat}{ck:eD}(hc:s.aF[c]? =some ck)(lT:qV s c)(hX:hasB X.c c=true):
  ∀(n:Nat) (x:aM) (y:eP),Inv s X none (some c) none x→x.ck[c]? =some y→y.left.toNat < n→
   ∃x',wJ s 99 c n x x'∧Inv s X none none none x'
 | 0,_,_,_,_,h=>absurd h (by omega)
 | n + 1, x, y, hi, hy, Rj => by
  have hlt:=(List.getElem?_eq_some_iff.1 hc).1
  have Wp:=(List.getElem?_eq_some_iff.1 hy).1
  have hl:=hi.ok.ck.left y (List.mem_of_getElem? hy)
  have aBm:ck.kind=112∨ck.kind=103:=by rw[←Jr hc];exact lT
  obtain⟨f,fs,hs,hf⟩:=aGl hm hc lT
  have kC:=Yy hm.aF hc
  rw[hs] at kC;dsimp only at kC;rw[Int.toNat_natCast] at kC
  have aP1:c∉fU s f:=fun h=>by have:=aBD hm h;omega
  have sB:(lC s x.ck c true).2=x.ck.set c ⟨true,y.left⟩:=by
   unfold lC;rw[show bO s.aF.length (c:Int)=true from decide_eq_true (by omega)];simp only[Bool.true_eq_false,if_false,Int.toNat_natCast,hc,hy];rw[if_neg (by omega)];simp[Gz]
  have hinv:Inv s X none (some c) none {x with ck:=x.ck.set c ⟨true,y.left⟩}:=by
   refine⟨?_,hi.wt,hi.of,hi.dom,fun i ci yi sD Wc hx hb=>?_,hi.sG,hi.Ab,hi.tO,hi.qX⟩
   ·have:=Vp hm.dJ hi.ok.ck (c:Int) true
    rw[sB] at this;exact⟨this,hi.ok.dm,hi.ok.ln,hi.ok.dv,hi.ok.each,hi.ok.wt⟩
   ·have hid:c≠i:=fun h=>hb (by rw[h])
    rw[List.getElem?_set_ne hid] at Wc;exact hi.jK i ci yi sD Wc hx hb
  have Au:(x.ck.set c ⟨true,y.left⟩)[c]? =some ⟨true,y.left⟩:=List.getElem?_set_self Wp
  have yN:runs s (x.ck.set c ⟨true,y.left⟩) f=true:=hinv.src hm hc hs hX (fun j hj=>by cases hj;exact aP1)
  have hrc:qC s (x.ck.set c ⟨true,y.left⟩) c=rP ck ⟨true,y.left⟩:=by
   unfold qC;rw[show bO s.aF.length (c:Int)=true from decide_eq_true (by omega),Int.toNat_natCast,aGz hm.aF hc Au,hs];dsimp only;rw[Int.toNat_natCast,yN];simp
  have hact:mJ s x 99 c=Kx s x c:=rfl
  by_cases lS:rP ck ⟨true,y.left⟩=true
  ·refine⟨{x with ck:=x.ck.set c ⟨true,y.left⟩},aA6 hi.ok ?_,?_⟩
   ·rw[hact,Kx,sB,hrc,lS];rfl
   ·refine⟨hinv.ok,hi.wt,hi.of,hi.dom,fun i ci yi sD Wc hx _=>?_,hi.sG,(fun _ h=>by cases h),hi.tO,hi.qX⟩
    by_cases hid:i=c
    ·subst hid;cases hc.symm.trans sD;cases Au.symm.trans Wc;refine⟨rfl,fun aEg=>?_⟩;unfold rP at lS;rw[if_pos aEg] at lS
     simpa using lS
    ·exact hinv.jK i ci yi sD Wc hx (by simp[Ne.symm hid])
  ·have aEg:ck.kind=112∧y.left≠0:=by
    unfold rP at lS;rcases aBm with h | h
    ·rw[if_pos h] at lS;exact⟨h,by simpa using lS⟩
    ·rw[if_neg (by omega),if_pos h] at lS;exact absurd rfl lS
   have aPi:rP ck ⟨true,y.left⟩=false:=by simpa using lS
   obtain⟨cf,Nc⟩:=get_some (l:=s.aF) (i:=f) (by omega)
   have aQc:=Yy hm.aF Nc
   have Ni:mJ s x 99 c=({x with ck:=x.ck.set c ⟨true,y.left⟩},false):=by
    rw[hact,Kx,sB,hrc,aPi,kC,aQc]
    have h1:qC s (x.ck.set c ⟨true,y.left⟩) (f:Int)=true:=by
     unfold qC;rw[show bO s.aF.length (f:Int)=true from decide_eq_true (by omega),Int.toNat_natCast,yN];rfl
    simp[h1]
   have pP:Qd ck=f:=by
    unfold Qd;rw[hs];simp
   have Ra:(fW s {x with ck:=x.ck.set c ⟨true,y.left⟩} 0).ck[c]? =some ⟨true,y.left - 1⟩:=by
    show(lQ s (x.ck.set c ⟨true,y.left⟩))[c]? =_
    rw[aL3 hc Au];unfold vM;rw[if_pos ⟨aEg.1,rfl⟩,pP,yN,if_neg (by simp),if_pos (by show 0 < y.left;omega)]
   obtain⟨x',h1,h2⟩:=aG6 hm hc lT hX n _ _ (hinv.tick hm) Ra (by dsimp only;omega);exact⟨x',aA5 hi.ok Ni hinv.ok hinv.wt h1,h2⟩
end
section
variable{s:aC}{X:bJ}{m:List Int}
def Cg(s:aC)(X:bJ)(l k id:Int)(m:List Int):bZ:=⟨X,dP s,1,0,m,[],l,-1,k,id⟩
theorem aKI{l k id:Int}:nX (rN s X l k id) 0 m=(0,Cg s X l k id m):=by simp[nX,bO,rN,Cg]
theorem aCt{l k id:Int}(hl:l=0∨l=1):sW (Cg s X l k id m)=some 0:=by
 rcases hl with rfl | rfl<;>rfl
theorem aKJ{l k id:Int}(hm:s.made)(hX:X.of s)(hp:Plain m)(hl:l=0∨l=1):Ed s (Cg s X l k id m):=by
 obtain⟨h1,h2,h3,h4,h5,h6,h7⟩:=aF3 (k:=k) (id:=id) hm hX hp;exact⟨hl,h2,h3,h4,h5,h6,h7⟩
theorem aLP{n:Nat}{x x':aM}{l k0 i0 k id:Int}{a:List Int}{z':bZ}(hm:s.made)(hX:X.of s)(hp:Plain m)(hl:l=0∨l=1)(hok:cM s x)(aDU:jH s X (dP s) (mB s x) 0 m=(0,k,id))(Kc:k≠0)(hk:Eb s k id)
  (h:Tq s (n+1) (vI s (jY X 0 k id) m k id) x a z' x'):Tq s (n+1) (Cg s X l k0 i0 m) x a z' x':=by
 have hd:gB s x (Cg s X l k0 i0 m) 0=(0,k,id):=aDU
 have mO:mT s x (Cg s X l k0 i0 m)=(vI s (jY X 0 k id) m k id,true):=by
  unfold mT;rw[aCt hl];dsimp only;unfold wT;dsimp only;rw[hd,if_neg Kc];rfl
 have hst:kZ s x (Cg s X l k0 i0 m)=kZ s x (vI s (jY X 0 k id) m k id):=by
  rw[aCJ];unfold kZ;dsimp only;rw[mO,if_neg (by simp),if_pos (show(Cg s X l k0 i0 m).at_ < 0 from(by show(-1:Int) < 0;decide))];rfl
 obtain⟨_,h2⟩:=h;refine⟨⟨hok,aKJ hm hX hp hl,.inl (by show(-1:Int) < 0;decide),fun _ a ha h0=>?_,fun _ a ha h0=>?_⟩,?_⟩
 ·rw[aCt hl] at ha;cases ha;rw[hd] at h0;exact absurd h0 Kc
 ·rw[aCt hl] at ha;cases ha;rw[hd];exact⟨hk,hp.rep⟩
 ·rw[hst];exact h2
structure aFn(m p tk:Int):Prop where
 pk:(dY m 0 p tk).2=0
 un:uM (dY m 0 p tk).1=0
 ty:Fu (dY m 0 p tk).1=0
 pr:eC (dY m 0 p tk).1=p
 ms:eM (dY m 0 p tk).1=m
 z4:cO (dY m 0 p tk).1 28 4=0
 zp:cO (dY m 0 p tk).1 10 8=p
 zm:cO (dY m 0 p tk).1 0 8=m
theorem aNW{m p tk i v:Int}(h:aFn m p tk)(hmp:m=4∨m=7)(hi:0≤i∧i < 4294967296)(hv:0≤v∧v < 4294967296):Plain [(dY m 0 p tk).1,i,v]:=by
 refine⟨fun y hy=>?_,by simp,⟨⟨_,_,rfl,h.z4,fun hh=>?_⟩⟩,fun s x=>?_⟩
 ·simp at hy;rcases hy with rfl | rfl | rfl
  ·exact aN9 _ _ _ _
  ·exact hi
  ·exact hv
 ·rw[h.zp,h.zm] at hh;omega
 ·unfold Dw pN;simp only[List.headD_cons,h.zp,h.zm];rw[if_pos trivial,if_neg (by omega),if_neg (by omega),if_neg (by omega),if_neg (by omega)]
theorem Rv{l:List Bool}{i:Nat}(hi:i < l.length)(j:Nat):hasB (kS l i true) j=if j=i then true else hasB l j:=by
 rw[kS,if_pos ⟨by omega,by omega⟩,Int.toNat_natCast,Fs,Fs,List.getElem?_set]
 by_cases h:i=j
 ·subst h;rw[if_pos rfl,if_pos hi,if_pos rfl];rfl
 ·rw[if_neg h,if_neg (Ne.symm h)]
end
end
section
section
variable{s:aC}{X:bJ}{x:aM}{l k0 i0:Int}
def Uh(X:bJ)(d:Nat):bJ:=⟨kS X.d d true,X.c,X.l⟩
def wsC(X:bJ)(c:Nat):bJ:=⟨X.d,kS X.c c true,X.l⟩
def wsL(X:bJ)(r:Nat):bJ:=⟨X.d,X.c,kS X.l r true⟩
theorem Inv.rest(hi:Inv s X none none none x):∀(i:Nat) (p:bR×dB),x.dv[i]? =some p→p.2.at_≠1:=fun i p hp=>by
 obtain⟨d,hd⟩:=get_some (l:=s.aD) (i:=i) (by have:=(List.getElem?_eq_some_iff.1 hp).1;have:=hi.ok.dv;omega)
 have:=(hi.qX i p d hp hd).1
 simp at this;omega
theorem aQy(hm:s.made)(hi:Inv s X none none none x){d:Nat}{c:Dom}(hc:s.domains[d]? =some c)(hab:c.above= -1∨(0≤c.above∧hasB X.d c.above.toNat=true))(hh:hasB X.d d=false):∃x',wJ s 117 d (8+1) x x'∧Inv s (Uh X d) none none none x':=by
 have hlt:=(List.getElem?_eq_some_iff.1 hc).1
 have hX:=hi.of
 have jA:d < X.d.length:=by rw[hX.d];exact hlt
 have hXd:hasB (Uh X d).d d=true:=by
  show hasB (kS X.d d true) d=true
  rw[Rv jA,if_pos rfl]
 have hfit:=(hm.domains d c hc).1
 have aQp:c.above= -1∨(0≤c.above∧hasB (Uh X d).d c.above.toNat=true):=by
  rcases hab with h | ⟨h0,h3⟩
  ·exact .inl h
  ·refine .inr ⟨h0,?_⟩
   show hasB (kS X.d d true) _=true
   rw[Rv jA,if_neg (by omega)];exact h3
 have hinv:Inv s (Uh X d) (some d) none none x:=by
  refine⟨hi.ok,hi.wt,⟨by show(kS _ _ _).length=_;rw[Cr];exact hX.d,hX.c,hX.l⟩,fun i m' hi' hb=>?_,hi.jK,hi.sG,(fun _ h=>by cases h),hi.tO,fun i p dd hp' eB=>?_⟩
  have hid:i≠d:=fun h=>hb (by rw[h])
  have:hasB (Uh X d).d i=hasB X.d i:=by
   show hasB (kS X.d d true) i=_
   rw[Rv jA,if_neg hid]
  rw[this];exact hi.dom i m' hi' (by simp)
  ·obtain⟨h2,h3⟩:=hi.qX i p dd hp' eB;refine⟨by simp at h2;omega,fun h4 h5=>h3 ?_ (by simp)⟩
   have h6:dd.domain.toNat≠d:=fun h=>h5 (by rw[h])
   have h7:hasB (kS X.d d true) dd.domain.toNat=true:=h4
   rw[Rv jA,if_neg h6] at h7;exact h7
 obtain⟨y,hy⟩:=get_some (l:=x.dm) (i:=d) (by have:=hi.ok.dm.len;omega)
 have mP:=(hi.dom d y hy (by simp)).2 hh
 have Rj:Ah y < 8+1:=by
  unfold Ah;rw[if_neg (by omega),if_neg (by omega),if_neg (by omega)];omega
 exact aCO hm hc hXd aQp (8+1) x y hinv (hi.rest) hy (by omega) Rj
theorem aQz(hm:s.made)(hi:Inv s X none none none x){r:Nat}(hlt:r < s.aT.length)(hh:hasB X.l r=false):∃x',wJ s 114 r (8+1) x x'∧Inv s (wsL X r) none none none x':=by
 have hX:=hi.of
 have gZ:r < X.l.length:=by rw[hX.l];exact hlt
 have iZ:∀j,hasB (wsL X r).l j=if j=r then true else hasB X.l j:=fun j=>Rv gZ j
 have hinv:Inv s (wsL X r) none none (some r) x:=by
  refine⟨hi.ok,hi.wt,⟨hX.d,hX.c,by show(kS _ _ _).length=_;rw[Cr];exact hX.l⟩,hi.dom,hi.jK,hi.sG,(fun _ h=>by cases h),fun i y hy hx hb=>?_,hi.qX⟩
  have hid:i≠r:=fun h=>hb (by rw[h])
  rw[iZ,if_neg hid] at hx;exact hi.tO i y hy hx (by simp)
 obtain⟨y,hy⟩:=get_some (l:=x.ln) (i:=r) (by have:=hi.ok.ln.len;omega)
 have hyl:=hi.ok.ln.left y (List.mem_of_getElem? hy)
 exact aG3 hm hlt (8+1) x y hinv hy (by split<;>omega)
theorem aOY(hm:s.made):Inv s (dP s) none none none (hw0 s):=by
 have h0:∀(n i:Nat),hasB (List.replicate n false) i=false:=fun n i=>by
  rw[Fs,List.getElem?_replicate];split<;>rfl
 refine⟨aHR hm.dJ,fun i=>?_,⟨by simp[dP],by simp[dP],by simp[dP]⟩,fun i m hi' _=>⟨fun h=>?_,fun _=>?_⟩,fun i c y _ _ h _=>?_,fun i h=>?_,(fun _ h=>by cases h),fun i y _ h _=>?_,fun i p d hp _=>?_⟩
 ·unfold iH hw0;simp only[List.getElem?_map];cases s.aD[i]? <;>rfl
 ·rw[show hasB (dP s).d i=false from h0 _ _] at h;cases h
 ·simp only[hw0,List.getElem?_map] at hi';cases hq:s.domains[i]? with
  | none=>rw[hq] at hi';cases hi'
  | some q=>rw[hq] at hi';cases hi';exact .inl rfl
 ·rw[show hasB (dP s).c i=false from h0 _ _] at h;cases h
 ·rw[show hasB (dP s).c i=false from h0 _ _] at h;cases h
 ·rw[show hasB (dP s).l i=false from h0 _ _] at h;cases h
 ·have h1:p.2.at_=0:=by
   simp only[hw0,List.getElem?_map] at hp;cases hq:s.aD[i]? with
   | none=>rw[hq] at hp;cases hp
   | some q=>rw[hq] at hp;cases hp;rfl
  exact⟨.inl h1,fun _ _=>h1⟩
end
end
section
theorem Inv.alive{s:aC}{X:bJ}{x:aM}(hm:s.made)(hi:Inv s X none none none x){i:Nat}{d:bL}(hd:s.aD[i]? =some d)(h1:hasB X.d d.domain.toNat=true)(h2:∀j∈fU s d.clock.toNat,qV s j→hasB X.c j=true)(h3:hasB X.l d.reset.toNat=true):zF s x i=true:=by
 have hf:=hm.aD i d hd
 obtain⟨f1,f2,f3,f4,f5,f6,_⟩:=hf
 have hrun:qC s x.ck d.clock=true:=by
  unfold qC;rw[show bO s.aF.length d.clock=true from decide_eq_true (by omega)];unfold runs;rw[Bool.true_and,List.all_eq_true];intro j hj
  have hlt:=aBC hj
  obtain⟨c,hc⟩:=get_some hlt;obtain⟨y,hy⟩:=get_some (l:=x.ck) (i:=j) (by have:=hi.ok.ck.len;omega);unfold Pv;rw[hc,hy];dsimp only;unfold rP
  by_cases k1:c.kind=112
  ·rw[if_pos k1];obtain⟨k2,k3⟩:=hi.jK j c y hc hy (h2 j hj (.inl (by rw[Jr hc];exact k1))) (by simp);rw[k2,k3 k1];rfl
  ·rw[if_neg k1]
   by_cases k4:c.kind=103
   ·rw[if_pos k4];exact(hi.jK j c y hc hy (h2 j hj (.inr (by rw[Jr hc];exact k4))) (by simp)).1
   ·rw[if_neg k4]
 obtain⟨m,hmm⟩:=get_some (l:=x.dm) (i:=d.domain.toNat) (by have:=hi.ok.dm.len;omega)
 have mP:rU x.dm d.domain=49:=by
  have:=Vn hmm
  rw[show((d.domain.toNat:Nat):Int)=d.domain by omega] at this;rw[this];exact(hi.dom _ m hmm (by simp)).1 h1
 obtain⟨y,hy⟩:=get_some (l:=x.ln) (i:=d.reset.toNat) (by have:=hi.ok.ln.len;omega)
 have aBo:Ba x.ln d.reset=false:=by
  unfold Ba;rw[show bO x.ln.length d.reset=true from decide_eq_true (by have:=hi.ok.ln.len;omega),hy];exact hi.tO _ y hy h3 (by simp)
 unfold zF;rw[hd];dsimp only;rw[hrun,mP,aBo];rfl
theorem Inv.state{s:aC}{X:bJ}{x:aM}(hi:Inv s X none none none x){i:Nat}{d:bL}(hd:s.aD[i]? =some d)(h1:hasB X.d d.domain.toNat=true):uN x i=114:=by
 have hlt:=(List.getElem?_eq_some_iff.1 hd).1
 obtain⟨p,hp⟩:=get_some (l:=x.dv) (i:=i) (by have:=hi.ok.dv;omega);unfold uN;rw[hp]
 show qH p.2.at_=114
 rw[(hi.qX i p d hp hd).2 h1 (by simp)];rfl
end
section
def aAd(s:aC)(A:aM→aM×Bool):Nat→aM→aM→Prop
 | 0,_,_=>False
 | n+1,x,x'=>cM s x∧(A x=(x',true)∨∃x1,A x=(x1,false)∧cM s x1∧(∀i,iH x1.wt i=0)∧aAd s A n (fW s x1 0) x')
def Ug(X:bJ)(d:Nat):bJ:=⟨kS X.d d false,X.c,X.l⟩
section
variable{s:aC}{X:bJ}{x:aM}{D:Nat}
theorem aIy{l:List Bool}{i:Nat}(hi:i < l.length)(j:Nat):hasB (kS l i false) j=if j=i then false else hasB l j:=by
 rw[kS,if_pos ⟨by omega,by omega⟩,Int.toNat_natCast,Fs,Fs,List.getElem?_set]
 by_cases h:i=j
 ·subst h;rw[if_pos rfl,if_pos hi,if_pos rfl];rfl
 ·rw[if_neg h,if_neg (Ne.symm h)]
theorem aD9{x:aM}{D:Int}{n i:Nat}{p':bR×dB}{d:bL}(hd:s.aD[i]? =some d)(h:(iN s x D n)[i]? =some p'):∃p,x.dv[i]? =some p∧p'.2=if i < n∧d.domain=D then(if p.2.at_=3 then(nO p.2).2 else if p.2.at_=0 then(sI p.2).2 else p.2) else p.2:=by
 rw[iN,List.getElem?_mapIdx] at h;cases hq:x.dv[i]? with
 | none=>rw[hq] at h;cases h
 | some q =>
  rw[hq] at h;simp only[Option.map_some,Option.some.injEq] at h;refine⟨q,rfl,?_⟩;subst h
  by_cases h1:i < n
  ·rw[if_pos h1];unfold Da;rw[hd];dsimp only
   by_cases h2:d.domain=D
   ·rw[if_pos h2,if_pos (show i < n∧d.domain=D from⟨h1,h2⟩)]
   ·rw[if_neg h2,if_neg fun h=>h2 h.2]
  ·rw[if_neg h1,if_neg fun h=>h1 h.1]
theorem Inv.aHT(hm:s.made)(hi:Inv s X (some D) none none x):Inv s X (some D) none none {x with dv:=iN s x D s.aD.length}:=by
 refine⟨aBe hm.dJ hi.ok _ _,hi.wt,hi.of,hi.dom,hi.jK,hi.sG,hi.Ab,hi.tO,fun i p' dd hp' eB=>?_⟩
 have aDM:=(List.getElem?_eq_some_iff.1 eB).1
 obtain⟨p0,h0,h1⟩:=aD9 eB hp';obtain⟨h2,h3⟩:=hi.qX i p0 dd h0 eB;rw[h1]
 by_cases hD:dd.domain=(D:Int)
 ·rw[if_pos ⟨aDM,hD⟩]
  have hDn:dd.domain.toNat=D:=by omega
  refine⟨?_,fun _ h=>absurd (by rw[hDn]) h⟩;rw[if_neg (by omega)];split
  ·rename_i h4
   refine .inr (.inr ⟨?_,by rw[hDn]⟩);unfold sI;rw[if_neg (by omega)]
  ·exact h2
 ·rw[if_neg fun h=>hD h.2];exact⟨h2,h3⟩
theorem Inv.begin(hi:Inv s X none none none x)(D:Nat):Inv s X (some D) none none x:=
 ⟨hi.ok,hi.wt,hi.of,fun i m h _=>hi.dom i m h (by simp),hi.jK,hi.sG,hi.Ab,hi.tO,fun i p d hp hd=>by
  obtain⟨h1,h2⟩:=hi.qX i p d hp hd;refine⟨?_,fun h3 _=>h2 h3 (by simp)⟩;simp at h1
  omega⟩
theorem Inv.off(hi:Inv s X (some D) none none x)(hD:D < s.domains.length)(mP:∀y,x.dm[D]? =some y→y.phase=48∨y.phase=116)(hno:∀(i:Nat) (p:bR×dB),x.dv[i]? =some p→p.2.at_≠1):Inv s (Ug X D) none none none x:=by
 have hX:=hi.of
 have jA:D < X.d.length:=by rw[hX.d];exact hD
 have iZ:∀j,hasB (Ug X D).d j=if j=D then false else hasB X.d j:=fun j=>aIy jA j
 refine⟨hi.ok,hi.wt,⟨by show(kS _ _ _).length=_;rw[Cr];exact hX.d,hX.c,hX.l⟩,fun i m hm' _=>?_,hi.jK,hi.sG,hi.Ab,hi.tO,fun i p d hp hd=>?_⟩
 ·rw[iZ]
  by_cases h:i=D
  ·subst h;rw[if_pos rfl];exact⟨(fun h=>by cases h),fun _=>mP m hm'⟩
  ·rw[if_neg h];exact hi.dom i m hm' fun h'=>h (Option.some.inj h').symm
 ·obtain⟨h1,h2⟩:=hi.qX i p d hp hd
  have h3:=hno i p hp
  refine⟨by omega,fun h4 _=>?_⟩;rw[iZ] at h4
  by_cases h:d.domain.toNat=D
  ·rw[if_pos h] at h4;cases h4
  ·rw[if_neg h] at h4;exact h2 h4 fun h'=>h (Option.some.inj h').symm
theorem Inv.down(hm:s.made)(hi:Inv s X (some D) none none x){y:eV}(hy:x.dm[D]? =some y)(keep:Bool):Inv s X (some D) none none {x with dm:=x.dm.set D ⟨99,y.left,y.kept,keep⟩}:=by
 have hlt:=(List.getElem?_eq_some_iff.1 hy).1
 refine⟨⟨hi.ok.ck,⟨by simp[hi.ok.dm.len],fun z hz=>?_,fun z hz=>?_⟩,hi.ok.ln,hi.ok.dv,hi.ok.each,hi.ok.wt⟩,hi.wt,hi.of,fun i m' hi' hb=>?_,hi.jK,hi.sG,hi.Ab,hi.tO,hi.qX⟩
 ·rcases List.mem_or_eq_of_mem_set hz with hz | rfl
  ·exact hi.ok.dm.left z hz
  ·exact hi.ok.dm.left y (List.mem_of_getElem? hy)
 ·rcases List.mem_or_eq_of_mem_set hz with hz | rfl
  ·exact hi.ok.dm.phase z hz
  ·exact⟨by show(0:Int)≤99;omega,by show(99:Int) < 256;omega⟩
 ·have hid:D≠i:=fun h=>hb (by rw[h])
  rw[List.getElem?_set_ne hid] at hi';exact hi.dom i m' hi' hb
theorem aHa{n:Nat}:Cy s x (D:Int) n=true↔∀(i:Nat) (p:bR×dB) (d:bL),i < n→x.dv[i]? =some p→s.aD[i]? =some d→d.domain=(D:Int)→p.2.at_=2:=by
 unfold Cy;rw[List.all_eq_true];constructor
 ·intro h i p d hi hp hd hD
  have:=h i (List.mem_range.2 hi)
  unfold Qg at this;rw[hd,hp] at this
  simpa[hD] using this
 ·intro h i hi
  have hi:=List.mem_range.1 hi
  unfold Qg;split
  ·rename_i d p hd hp
   by_cases hD:d.domain=(D:Int)
   ·rw[h i p d hi hp hd hD];simp
   ·simp[hD]
  ·rfl
theorem aOl(hm:s.made)(hi:Inv s X (some D) none none x)(hno:∀(j:Nat) (cj:Dom),s.domains[j]? =some cj→cj.above=(D:Int)→hasB X.d j=false):Ft s x.dm (D:Int)=false:=by
 unfold Ft;rw[Bool.eq_false_iff];intro h;rw[List.any_eq_true] at h;obtain⟨b,hb,h1⟩:=h;obtain⟨j,hj⟩:=List.getElem?_of_mem hb;rw[List.getElem?_zipWith] at hj;cases hc:s.domains[j]? with
 | none=>rw[hc] at hj;simp at hj
 | some cj =>
  cases hy:x.dm[j]? with
  | none=>rw[hc,hy] at hj;simp at hj
  | some yj=>
   rw[hc,hy] at hj;simp only[Option.some.injEq] at hj;subst hj;unfold Hu at h1;simp only[id_eq,Bool.and_eq_true,decide_eq_true_eq,Bool.not_eq_true'] at h1
   have hlt:=(hm.domains j cj hc).1
   have h2:=(hi.dom j yj hy (by simp;omega)).2 (hno j cj hc h1.1)
   have h3:=h1.2
   unfold Ge at h3;simp at h3;omega
theorem aG4(hm:s.made){c:Dom}(hc:s.domains[D]? =some c)(keep:Bool)(hkeep:keep=true→c.ret=true)(hi:Inv s X (some D) none none x)(hno:∀(j:Nat) (cj:Dom),s.domains[j]? =some cj→cj.above=(D:Int)→hasB X.d j=false){y:eV}(hy:x.dm[D]? =some y)(mP:y.phase=49)(hq:Cy s x (D:Int) s.aD.length=true)(h1:∀(i:Nat) (p:bR×dB),x.dv[i]? =some p→p.2.at_≠1):
  ∃x',aAd s (fun x=>qE s x (D:Int) keep) 2 x x'∧Inv s (Ug X D) none none none x'∧∀(i:Nat) (p:bR×dB) (d:bL),x'.dv[i]? =some p→s.aD[i]? =some d→d.domain=(D:Int)→p.2.at_=2:=by
 have hlt:=(List.getElem?_eq_some_iff.1 hy).1
 have hlD:=(List.getElem?_eq_some_iff.1 hc).1
 have Wl:=Vn hy
 have aPJ:(tU s x.dm (D:Int) keep).2=x.dm.set D ⟨99,y.left,y.kept,keep⟩:=by
  unfold tU;rw[show bO x.dm.length (D:Int)=true from decide_eq_true (by omega)];simp only[Bool.true_eq_false,if_false,Int.toNat_natCast,hc,hy];rw[if_neg (by omega),if_neg (fun h=>by rw[hkeep h.1] at h;simp at h),aOl hm hi hno];simp
 have hA:qE s x (D:Int) keep=({x with dv:=iN s x (D:Int) s.aD.length,dm:=x.dm.set D ⟨99,y.left,y.kept,keep⟩},false):=by
  unfold qE;rw[Wl,if_pos mP,hq,aPJ];simp
 have hi1:=hi.aHT hm
 have hi2:Inv s X (some D) none none {x with dv:=iN s x (D:Int) s.aD.length,dm:=x.dm.set D ⟨99,y.left,y.kept,keep⟩}:=hi1.down hm hy keep
 have hi3:=hi2.tick hm
 have uX:∀(i:Nat) (p:bR×dB) (d:bL),(iN s x (D:Int) s.aD.length)[i]? =some p→s.aD[i]? =some d→p.2.at_≠1∧(d.domain=(D:Int)→p.2.at_=2):=fun i p d hp hd=>by
  have Kb:=(List.getElem?_eq_some_iff.1 hd).1
  obtain⟨p0,h0,h2⟩:=aD9 hd hp
  by_cases hD:d.domain=(D:Int)
  ·have h3:=aHa.1 hq i p0 d Kb h0 hd hD
   rw[h2,if_pos (show i < s.aD.length∧d.domain=(D:Int) from⟨Kb,hD⟩),if_neg (by omega),if_neg (by omega)];exact⟨by omega,fun _=>h3⟩
  ·rw[h2,if_neg fun h=>hD h.2];exact⟨h1 i p0 h0,fun h=>absurd h hD⟩
 generalize vU:({x with dv:=iN s x (D:Int) s.aD.length,dm:=x.dm.set D ⟨99,y.left,y.kept,keep⟩}:aM)=x2 at hA hi2 hi3
 have Xc:x2.dv=iN s x (D:Int) s.aD.length:=by rw[←vU]
 have Au:x2.dm[D]? =some ⟨99,y.left,y.kept,keep⟩:=by
  rw[←vU];exact List.getElem?_set_self hlt
 have Ra:(fW s x2 0).dm[D]? =some (eE ⟨99,y.left,y.kept,keep⟩).2:=by simp only[fW,nK,List.getElem?_map,Au,Option.map_some]
 have aIe:(eE ⟨99,y.left,y.kept,keep⟩).2.phase=48∨(eE ⟨99,y.left,y.kept,keep⟩).2.phase=116:=by
  unfold eE;cases keep
  ·exact .inl rfl
  ·exact .inr rfl
 have Jw:∀(i:Nat) (p:bR×dB),(fW s x2 0).dv[i]? =some p→p.2.at_≠1∧∀d:bL,s.aD[i]? =some d→d.domain=(D:Int)→p.2.at_=2:=fun i p hp=>by
  obtain⟨p0,h0,h2,_⟩:=aA0 hp;rw[Xc] at h0
  obtain⟨d,hd⟩:=get_some (l:=s.aD) (i:=i) (by
   have:=(List.getElem?_eq_some_iff.1 h0).1
   have:=hi.ok.dv
   simp[iN] at *
   omega)
  obtain⟨h3,h4⟩:=uX i p0 d h0 hd;rw[h2 h3]
  exact⟨h3,fun d' hd' hD=>by
   cases hd.symm.trans hd'
   exact h4 hD⟩
 have hA3:qE s (fW s x2 0) (D:Int) keep=(fW s x2 0,true):=by
  unfold qE;rw[Vn Ra,if_neg (by omega),if_pos aIe]
 refine⟨fW s x2 0,⟨hi.ok,.inr ⟨x2,hA,hi2.ok,hi2.wt,hi3.ok,.inl hA3⟩⟩,hi3.off hlD (fun z hz=>?_) (fun i p hp=>(Jw i p hp).1),fun i p d hp hd hD=>(Jw i p hp).2 d hd hD⟩;cases Ra.symm.trans hz;exact aIe
theorem aMm(hm:s.made){c:Dom}(hc:s.domains[D]? =some c)(keep:Bool)(hkeep:keep=true→c.ret=true)(hi:Inv s X none none none x)(hX:hasB X.d D=true)(hno:∀(j:Nat) (cj:Dom),s.domains[j]? =some cj→cj.above=(D:Int)→hasB X.d j=false):
  ∃(N:Nat) (x':aM),N≤3∧aAd s (fun x=>qE s x (D:Int) keep) N x x'∧Inv s (Ug X D) none none none x'∧∀(i:Nat) (p:bR×dB) (d:bL),x'.dv[i]? =some p→s.aD[i]? =some d→d.domain=(D:Int)→p.2.at_=2:=by
 have hlD:=(List.getElem?_eq_some_iff.1 hc).1
 obtain⟨y,hy⟩:=get_some (l:=x.dm) (i:=D) (by have:=hi.ok.dm.len;omega)
 have mP:=(hi.dom D y hy (by simp)).1 hX
 have hb:=hi.begin D
 cases hq:Cy s x (D:Int) s.aD.length
 ·have hA:qE s x (D:Int) keep=({x with dv:=iN s x (D:Int) s.aD.length},false):=by
   unfold qE;rw[Vn hy,if_pos mP,hq];simp
  have hi1:=hb.aHT hm
  have hi2:=hi1.tick hm
  have Au:(fW s {x with dv:=iN s x (D:Int) s.aD.length} 0).dm[D]? =some y:=by
   simp only[fW,nK,List.getElem?_map,hy,Option.map_some];rw[aGb (.inl mP)]
  have Jw:∀(i:Nat) (p:bR×dB),(fW s {x with dv:=iN s x (D:Int) s.aD.length} 0).dv[i]? =some p→p.2.at_≠1∧∀d:bL,s.aD[i]? =some d→d.domain=(D:Int)→p.2.at_=2:=fun i p hp=>by
   have Kb:i < s.aD.length:=by
    obtain⟨p0,h0,_⟩:=aA0 hp
    have:=(List.getElem?_eq_some_iff.1 h0).1
    have:=hi1.ok.dv
    dsimp only at *;omega
   obtain⟨p0,h0,h2,h3⟩:=aFZ hi1.wt Kb hp;obtain⟨d,hd⟩:=get_some Kb;obtain⟨p1,h4,h5⟩:=aD9 hd h0;obtain⟨h6,h7⟩:=hi.qX i p1 d h4 hd
   have h8:=hi.rest i p1 h4
   by_cases hD:d.domain=(D:Int)
   ·have hDn:d.domain.toNat=D:=by omega
    have h9:=h7 (by rw[hDn];exact hX) (by simp)
    rw[if_pos (show i < s.aD.length∧d.domain=(D:Int) from⟨Kb,hD⟩),if_neg (by omega),if_pos h9] at h5
    have h10:p0.2.at_=1:=by
     rw[h5];unfold sI;rw[if_neg (by omega)]
    have h11:=h3 h10
    exact⟨by omega,fun _ _ _=>h11⟩
   ·rw[if_neg fun h=>hD h.2] at h5
    have h10:p0.2.at_≠1:=by rw[h5];exact h8
    rw[h2 h10]
    exact⟨h10,fun d' hd' Xq=>by
     cases hd.symm.trans hd'
     exact absurd Xq hD⟩
  obtain⟨x',h1,h2,h3⟩:=aG4 hm hc keep hkeep hi2 hno Au mP (aHa.2 fun i p d _ hp hd hD=>(Jw i p hp).2 d hd hD) (fun i p hp=>(Jw i p hp).1);exact⟨3,x',by omega,⟨hi.ok,.inr ⟨_,hA,hi1.ok,hi1.wt,h1⟩⟩,h2,h3⟩
 ·obtain⟨x',h1,h2,h3⟩:=aG4 hm hc keep hkeep hb hno hy mP hq hi.rest;exact⟨2,x',by omega,h1,h2,h3⟩
end
end
section
section
variable{P:Program}{ops:Array Oper}{Q:Exit→Act→World→Prop}{N:cF}{w0:World}{e e':Env}{R R':List Piece}{H H':List HP}{rest:List Oper}{d:Nat}{ty:TypeId}{pos:String}{aH:Array Edge}
def isIface(P:Program)(t:TypeId):Bool:=match P.underlying t with
 | some (.interface _)=>true
 | _=>false
def aHv(P:Program)(t:TypeId):Bool:=match P.underlying t with
 | some (.interface _)=>false
 | some _=>true
 | none=>false
theorem Sk{x:Operand}{t:TypeId}{v:Value}(hx:e.ev x=some v)(ht:aHv P t=true:=by kernel_rfl):bQ P N w0 e R H ⟨some d,.makeInterface t x,ty,pos,aH,none⟩ (.iface t v):=iO fun a w hr=>by
 unfold aHv at ht;cases hu:P.underlying t with
 | none=>rw[hu] at ht;cases ht
 | some u=>cases u<;>first | (rw[hu] at ht;cases ht;done) | simp[execOp,hr.ev hx,Instr.makeInterface,run_underlying hu]
theorem aMk(w:World)(n:Nat)(t:TypeId){f:Array (String×TypeId)}(hu:P.underlying t=some (.interface f)):(Op.equalIn (n+1) t .nilIface .nilIface).run P w=.ok true w:=by simp[Op.equalIn,run_underlying hu]
theorem aMh(w:World)(n:Nat)(t:TypeId){f:Array (String×TypeId)}(u:TypeId)(v:Value)(hu:P.underlying t=some (.interface f)):(Op.equalIn (n+1) t (.iface u v) .nilIface).run P w=.ok false w:=by simp[Op.equalIn,run_underlying hu]
theorem aJe{x:Operand}{t u:TypeId}{v:Value}{b:Bool}(hx:e.ev x=some v)(hv:(v=.nilIface∧b=true)∨(∃u y,v=.iface u y)∧b=false)(ht:isIface P t=true:=by kernel_rfl):bQ P N w0 e R H ⟨some d,.binOp .eql t x (.const .nilIface) u,ty,pos,aH,none⟩ (.bool b):=iO fun a w hr=>by
 have h2:=hr.ev (show e.ev (.const .nilIface)=some .nilIface from rfl)
 unfold isIface at ht;split at ht
 ·rename_i f1 hu
  rcases hv with⟨rfl,rfl⟩ | ⟨⟨u,y,rfl⟩,rfl⟩
  ·have h4:(Op.equal t .nilIface .nilIface).run P w=.ok true w:=aMk w 9999 t hu
   simp[execOp,hr.ev hx,h2,eqGuard,binOp,h4]
  ·have h4:(Op.equal t (.iface u y) .nilIface).run P w=.ok false w:=aMh w 9999 t u y hu
   simp[execOp,hr.ev hx,h2,eqGuard,binOp,h4]
 ·cases ht
theorem aF9(i:Nat){dst:Option Nat}{e':Env}{f:FuncId}{x:Operand}{name:String}{args:List Operand}{vs:List Value}{tys:Array TypeId}{tx:TypeId}{u u':Value}{p:HP}{v:Value}(q:HP)(hf:fH P f=true)(hx:e.ev x=some (.iface tx u))(hm:∀w,(method (P.types.size+Made.depth) tx u name).run P w=.ok (f,u') w)(ha:e.fT args=some vs)(hi:H[i]? =some p)
  (hd:match dst with | some d=>d < N.n∧e'=(d,v)::e | none=>e'=e)
  (hc:∀w F,St w0 R H w→p.sat F w→(∀b,F b→b < w.heap.size)→(∀q∈R,q.Le ⟨w,fun b=>b < w.heap.size∧¬F b⟩)→Calls P f (u'::vs).toArray w fun y w'=>y=.returned v∧∃F',q.sat F' w'∧iE w w' F F')
  (k:XK N w0 (wpList P ops Q rest) e' R (H.set i q)):XK N w0 (wpList P ops Q (⟨dst,.call {callee:=.invoke x name,args:=args.toArray,argTypes:=tys},ty,pos,aH,none⟩::rest)) e R H:=fun a w hr st=>wpList_plain rfl fun K hK=>by
 unfold fH at hf;cases hq:P.funcs[f]? with
 | none=>simp[hq] at hf
 | some fn =>
  simp[hq] at hf;obtain⟨gL,nR⟩:=hf
  have hrun:(execOp a.eval (⟨dst,.call {callee:=.invoke x name,args:=args.toArray,argTypes:=tys},ty,pos,aH,none⟩:Oper)).run P w=.ok (.enter f (u'::vs).toArray) w:=by
   cases hb:fn.body with
   | none=>simp[hb] at nR
   | some c=>
    have h0:(#[Value.iface tx u]++(args.toArray.map a.eval))[0]? =some (.iface tx u):=by simp[Array.getElem?_append]
    simp[execOp,resolve,hr.ev hx,invoke,callMethod,hm,callFunc,hq,gL,hb,hr.fT ha]
  obtain⟨Z,F,hz,cE,hs,dD,eB⟩:=st.ex;unfold Oper.wp;rw[hrun];refine(hc w (F i) st (hs i p hi) (fun b hb=>(dD i b hb).2) (fun q hq b hb=>⟨⟨hz b (cE q hq b hb).1,fun pR=>(dD i b pR).1 (cE q hq b hb).1⟩,(cE q hq b hb).2⟩)).mono fun y w' ⟨hy,F',lF,ht⟩=>?_;subst hy
  have st':St w0 R (H.set i q) w':=by
   have hlt:i < H.length:=by
    rcases Nat.lt_or_ge i H.length with h | h
    ·exact h
    ·rw[List.getElem?_eq_none h] at hi;cases hi
   refine⟨ht.os.trans st.os,ht.tape.trans st.tape,ht.output.trans st.output,Nat.le_trans st.size ht.size,Z,fun j=>if j=i then F' else F j,fun b h=>Nat.lt_of_lt_of_le (hz b h) ht.size,fun p hp b h=>?_,fun j r hj=>?_,fun j b h=>?_,fun j k b lG h=>?_⟩
   ·exact⟨(cE p hp b h).1,(ht.old b (hz b (cE p hp b h).1) (fun pR=>(dD i b pR).1 (cE p hp b h).1)).trans (cE p hp b h).2⟩
   ·rw[List.getElem?_set] at hj;split at hj
    ·rename_i e;subst e
     first | (rw[if_pos hlt] at hj;cases hj) | cases hj
     simpa using lF
    ·rename_i e
     simp only[if_neg (Ne.symm e)];exact r.loc _ _ _ (hs j r hj) (fun b hb=>ht.old b (dD j b hb).2 (eB j i b (Ne.symm e) hb))
   ·dsimp only at h;split at h
    ·refine⟨fun gY=>?_,(ht.new b h).2⟩;rcases(ht.new b h).1 with h | h
     ·exact(dD i b h).1 gY
     ·have:=hz b gY;omega
    ·exact⟨(dD j b h).1,Nat.lt_of_lt_of_le (dD j b h).2 ht.size⟩
   ·dsimp only at h⊢;split at h<;>split
    ·rename_i h1 h2;omega
    ·rename_i e1 e2
     intro hk;rcases(ht.new b h).1 with h | h
     ·exact eB i k b (by omega) h hk
     ·have:=(dD k b hk).2;omega
    ·rename_i e1 e2
     intro hk;rcases(ht.new b hk).1 with hk | hk
     ·exact eB j i b (by omega) h hk
     ·have:=(dD j b h).2;omega
    ·exact eB j k b lG h
  cases dst with
  | none=>dsimp only at hd;subst hd;exact hK _ _ (k _ _ hr st')
  | some d=>dsimp only at hd;obtain⟨hd,rfl⟩:=hd;exact hK _ _ (k _ _ (hr.put hd v) st')
end
end
section
structure Cn where
 l:List (Int×Int)
 iA:Bool
def pE(nd:Nat)(c:Cn)(dev:Int):Int×Cn:=if c.iA then(6,c) else if ¬(0≤dev∧dev < nd) then(4,c) else if 7≤fE c.l dev then(8,c) else(0,⟨yI c.l dev (IntKind.i64.wrap (fE c.l dev+1)),c.iA⟩)
def qL(nd:Nat)(c:Cn)(dev:Int):Int×Cn:=if c.iA then(6,c) else if ¬(0≤dev∧dev < nd) then(4,c) else if fE c.l dev≤0 then(6,c) else(0,⟨yI c.l dev (IntKind.i64.wrap (fE c.l dev - 1)),c.iA⟩)
def tD(c:Cn):Int×Cn:=if c.iA then(6,c) else(0,⟨c.l,true⟩)
def tE(c:Cn):Int×Cn:=if c.iA then(0,⟨c.l,false⟩) else(6,c)
def tK(gc gm:Nat)(v:Value)(c:Cn):HP:=HP.many [HP.aE gc 160 [v,.map (some gm),.bool c.iA],HP.map gm (xH c.l)]
section
variable{N:cF}{w0:World}{e:Env}{R:List Piece}{H:List HP}{Q:Exit→Act→World→Prop}{ops:Array Oper}{rest:List Oper}{d:Nat}{ty:TypeId}{pos:String}{aH:Array Edge}
theorem Vx{x y:Operand}(i:Nat){r:Nat}{l:List (Int×Int)}{k:Int}(hi:H[i]? =some (HP.map r (xH l)))(kk:XK N w0 (wpList Tryz.prog ops Q rest) ((d,iv (fE l k))::e) R H)(hx:e.ev x=some (.map (some r)):=by rfl)(hy:e.ev y=some (iv k):=by rfl)(hd:d < N.n:=by decide):
  XK N w0 (wpList Tryz.prog ops Q (⟨some d,.lookup 158 x y false,ty,pos,aH,none⟩::rest)) e R H:=by
 refine aAo (kt:=3) (et:=3) (kd:=.i64) (z:=iv 0) (l:=xH l) false (by kernel_rfl) (by kernel_rfl) (by kernel_rfl) hx hy (fun w1 st=>st.map hi) hd ?_;simp only[Bool.false_eq_true,if_false,aH9];exact kk
theorem aHK{x y u:Operand}(i:Nat){r:Nat}{l:List (Int×Int)}{k v:Int}(hi:H[i]? =some (HP.map r (xH l)))(kk:XK N w0 (wpList Tryz.prog ops Q rest) e R (H.set i (HP.map r (xH (yI l k v)))))(hx:e.ev x=some (.map (some r)):=by rfl)(hy:e.ev y=some (iv k):=by rfl)(hu:e.ev u=some (iv v):=by rfl):
  XK N w0 (wpList Tryz.prog ops Q (⟨none,.mapUpdate 158 x y u,ty,pos,aH,none⟩::rest)) e R H:=by
 refine Ja (kt:=3) (et:=3) (kd:=.i64) (l:=xH l) i (by kernel_rfl) (by kernel_rfl) hi hx hy hu ?_;rw[aH3];exact kk
end
theorem aJm(gc n k:Nat)(A:Option Addr)(dev:Int)(w:World)(h0:fR w gc 0 (.slice A n k)):
  Cz 64 #[pt gc,iv dev] w (Rt (.bool (bO n dev)) w):=by
 refine aN func64 ntmps64 ?_;refine aA ?_;refine bX (t:=7) rfl (fun h=>?_) (fun h=>?_)
 ·refine aA ?_;refine jT (by simp) ?_;unfold bO
  congr 1
  simp;omega
 ·refine aA ?_;refine jT (by simp) ?_
  have:bO n dev=false:=decide_eq_false (by omega)
  rw[this]
section
variable(gc gm n k:Nat)(A:Option Addr)(c:Cn)(w:World)(F:Nat→Prop)
theorem aSn(dev:Int)(hp:(tK gc gm (.slice A n k) c).sat F w)(hF:∀b,F b→b < w.heap.size):
  Cz 25 #[pt gc,iv dev] w (Wr (iv (pE n c dev).1) (tK gc gm (.slice A n k) (pE n c dev).2) w F):=by
 refine dK func25 ntmps25 hp hF ?_;obtain⟨l,iA⟩:=c;unfold tK pE;dsimp only;refine bF 0 0 ?_;refine bF 1 1 ?_;cases iA
 ·refine aA ?_;refine aU (fun w1 t=>aJm gc n k A dev w1 ((wD (t.aE (i:=1) rfl)).at_ (j:=0) rfl)) ?_
  by_cases hin:0≤dev∧dev < (n:Int)
  ·rw[show bO n dev=true from decide_eq_true hin,if_neg (by simp),if_neg (by simpa using hin)];refine aA ?_;refine Vx 0 rfl ?_;refine dV ?_;refine aA ?_;refine aG rfl (fun h7=>?_) (fun h7=>?_)
   ·rw[if_pos (by omega)];refine aA ?_;refine aP 1 1 ?_;refine aP 0 0 ?_;exact cI 0 hF
   ·rw[if_neg (by omega)];refine aA ?_;refine Vx 0 rfl ?_;refine kd (Ny rfl rfl rfl) ?_;refine aHK 0 rfl ?_;dsimp only[List.set];refine aA ?_;refine aP 1 1 ?_;refine aP 0 0 ?_;exact cI 0 hF
  ·rw[show bO n dev=false from decide_eq_false hin,if_neg (by simp),if_pos (by simpa using hin)];refine aA ?_;refine aP 1 1 ?_;refine aP 0 0 ?_;exact cI 0 hF
 ·rw[if_pos rfl];refine aA ?_;refine aP 1 1 ?_;refine aP 0 0 ?_;exact cI 0 hF
theorem aSl(dev:Int)(hp:(tK gc gm (.slice A n k) c).sat F w)(hF:∀b,F b→b < w.heap.size):
  Cz 28 #[pt gc,iv dev] w (Wr (iv (qL n c dev).1) (tK gc gm (.slice A n k) (qL n c dev).2) w F):=by
 refine dK func28 ntmps28 hp hF ?_;obtain⟨l,iA⟩:=c;unfold tK qL;dsimp only;refine bF 0 0 ?_;refine bF 1 1 ?_;cases iA
 ·refine aA ?_;refine aU (fun w1 t=>aJm gc n k A dev w1 ((wD (t.aE (i:=1) rfl)).at_ (j:=0) rfl)) ?_
  by_cases hin:0≤dev∧dev < (n:Int)
  ·rw[show bO n dev=true from decide_eq_true hin,if_neg (by simp),if_neg (by simpa using hin)];refine aA ?_;refine Vx 0 rfl ?_;refine dV ?_;refine aA ?_;refine aG rfl (fun h7=>?_) (fun h7=>?_)
   ·rw[if_pos (by omega)];refine aA ?_;refine aP 1 1 ?_;refine aP 0 0 ?_;exact cI 0 hF
   ·rw[if_neg (by omega)];refine aA ?_;refine Vx 0 rfl ?_;refine kd (Nw rfl rfl rfl) ?_;refine aHK 0 rfl ?_;dsimp only[List.set];refine aA ?_;refine aP 1 1 ?_;refine aP 0 0 ?_;exact cI 0 hF
  ·rw[show bO n dev=false from decide_eq_false hin,if_neg (by simp),if_pos (by simpa using hin)];refine aA ?_;refine aP 1 1 ?_;refine aP 0 0 ?_;exact cI 0 hF
 ·rw[if_pos rfl];refine aA ?_;refine aP 1 1 ?_;refine aP 0 0 ?_;exact cI 0 hF
theorem aSj(hp:(tK gc gm (.slice A n k) c).sat F w)(hF:∀b,F b→b < w.heap.size):
  Cz 26 #[pt gc] w (Wr (iv (tD c).1) (tK gc gm (.slice A n k) (tD c).2) w F):=by
 refine dK func26 ntmps26 hp hF ?_;obtain⟨l,iA⟩:=c;unfold tK tD;dsimp only;refine bF 0 0 ?_;cases iA
 ·refine aA ?_;refine aP 0 0 ?_;exact cI 0 hF
 ·refine aA ?_;refine aP 0 0 ?_;exact cI 0 hF
theorem aSk(hp:(tK gc gm (.slice A n k) c).sat F w)(hF:∀b,F b→b < w.heap.size):
  Cz 27 #[pt gc] w (Wr (iv (tE c).1) (tK gc gm (.slice A n k) (tE c).2) w F):=by
 refine dK func27 ntmps27 hp hF ?_;obtain⟨l,iA⟩:=c;unfold tK tE;dsimp only;refine bF 0 0 ?_;cases iA
 ·refine aA ?_;refine aP 0 0 ?_;exact cI 0 hF
 ·refine aA ?_;refine aP 0 0 ?_;exact cI 0 hF
end
theorem aSo(gc:Nat)(b:Bool)(w:World)(h2:fR w gc 2 (.bool b)):Cz 29 #[pt gc] w (Rt (.bool b) w):=by
 refine aN func29 ntmps29 ?_;refine aA ?_;exact dG
end
section
theorem aSZ{P:Program}{w:World}{t ty e:TypeId}{i:TypeInfo}(ht:P.underlying t=some (.slice e))(hi:P.info? e=some i)(A:Option Addr)(x:Value){m c:Nat}{B:Option Addr}(hx:x=.slice B m c)(hm:0 < m)(hb:m*i.bytes≤140737488355328):
  (Builtin.append_ #[t,t] ty #[.slice A 0 0,x]).run P w=(Builtin.append_ #[t,t] ty #[sn,x]).run P w:=by
 subst hx
 have h0:¬0+m≤0:=by omega
 have hn:Builtin.nextslicecap (0+m) 0=m:=by
  unfold Builtin.nextslicecap;rw[Nat.zero_add];simp;omega
 have hcap:¬(Builtin.nextslicecap (0+m) 0*i.bytes>2 ^ 48):=by
  rw[hn];omega
 have hm0:¬m=0:=by omega
 have oB:¬(281474976710656 < Builtin.nextslicecap m 0*i.bytes):=by
  rw[←Nat.zero_add m]
  simpa using hcap
 cases A with
 | none=>rfl
 | some a=>simp[Builtin.append_,run_underlying ht,sizeOf,typeInfo,hi,Builtin.lenOf,Builtin.firstCells,h0,hcap,hm0,oB,loadCells,loadCellsFrom]
section
variable{P:Program}{ops:Array Oper}{Q:Exit→Act→World→Prop}{N:cF}{w0:World}{e e':Env}{R R':List Piece}{H H':List HP}{rest:List Oper}{d:Nat}{ty:TypeId}{pos:String}{aH:Array Edge}
theorem aKX(sz bytes m:Nat){x y:Operand}{t el:TypeId}{c':Nat}{A0 A:Option Addr}{news:List Value}(ht:P.underlying t=some (.slice el))(hT:(P.info? el).map (fun i=>(i.zero.map (fun z=>z.cells.size),i.size,i.bytes))=some (some sz,sz,bytes))(hpos:0 < sz)
  (hx:e.ev x=some (.slice A0 0 0)) (hy:e.ev y=some (.slice A m c')) (hs:∀w,St w0 R H w→∃B,Sl w B sz A m news) (h1:∀u∈news,u.oneCell'=true) (hm:0 < m) (h63:(m:Int)≤9223372036854775807) (hbytes:m*bytes≤140737488355328) (hd:d < N.n)
  (k:∀A' k',XK N w0 (wpList P ops Q rest) ((d,.slice A' m k')::e) R (HP.own el sz (.slice A' m k') m news::H)):
  XK N w0 (wpList P ops Q (⟨some d,.call {callee:=.builtin .append,args:=#[x,y],argTypes:=#[t,t]},ty,pos,aH,none⟩::rest)) e R H:=by
 obtain⟨ti,z,nC,hz,hsz,hby,hzs⟩:=aD8 hT;refine vJ rfl fun a w hr st=>?_;obtain⟨B,rZ⟩:=hs w st;obtain⟨v',w',hrun,h2,h3,h4⟩:=aG7 (P:=P) w w.heap.size t ty el ti z sz bytes ht nC hz hsz hby hzs hpos (sn) 0 [] (World.ownsRow_nil _ _ _ _) B A m c' news rZ h1 (by unfold maxLen;omega) (by simpa using hbytes) (Nat.le_refl _);rw[Nat.zero_add,List.nil_append] at h2;obtain⟨A',k',rfl,_⟩:=aHl h2;rw[←aSZ ht nC A0 (.slice A m c') rfl hm (by rw[hby];exact hbytes)] at hrun
 have hb:Below w.heap.size w w':=⟨h3.os,h3.tape,h3.output,h3.size,fun b hb=>h3.block b hb (fun he=>by cases he)⟩
 refine⟨_,w',by simp only[execOp,resolve,invoke,builtin,hr.ev hx,hr.ev hy,List.map_toArray,List.map_cons,List.map_nil,Sem.run_bind,Sem.run_pure,Result.andThen_ok,hrun],k A' k' _ _ (hr.put hd _) (st.new hb ⟨fun g hg=>?_,?_⟩)⟩
 ·have:=h2.lt _ hg
  exact this
 ·exact⟨h2.1,h2.2.imp id fun⟨g,cap,cur,e1,_,e3⟩=>⟨g,cap,cur,e1,Nat.zero_le _,e3⟩⟩
end
section
variable{N:cF}{w0:World}{e:Env}{R:List Piece}{H:List HP}{d:Nat}{ty:TypeId}{pos:String}{aH:Array Edge}
theorem aRE{x lo hi mx:Operand}{t el:TypeId}{A:Option Addr}{n c l h m sz:Nat}{kl kh km:IntKind}[hT:kY t el sz](hx:e.ev x=some (.slice A n c))(hl:e.ev lo=some (.int kl (l:Int)))(hh:e.ev hi=some (.int kh (h:Int)))(hm:e.ev mx=some (.int km (m:Int)))(h1:l≤h)(h2:h≤m)(h3:m≤c):
  bQ Tryz.prog N w0 e R H ⟨some d,.slice t x (some lo) (some hi) (some mx),ty,pos,aH,none⟩ (.slice (if m=l then A else A.map (·.add (l*sz))) (h - l) (m - l)):=iO fun a w hr=>by
 obtain⟨i0,oX,hz⟩:=Option.map_eq_some_iff.1 hT.s;simp[execOp,hr.ev hx,hr.ev hl,hr.ev hh,hr.ev hm,Instr.sliceAt,Instr.slice,Instr.sliceBounds,run_sliceBound,run_underlying hT.h,sizeOf,typeInfo,oX,hz,h1,h2,h3]
theorem aIZ{x lo:Operand}{t el:TypeId}{A:Option Addr}{n c l sz:Nat}{kl:IntKind}[hT:kY t el sz](hx:e.ev x=some (.slice A n c))(hl:e.ev lo=some (.int kl (l:Int)))(h1:l≤n):
  bQ Tryz.prog N w0 e R H ⟨some d,.slice t x (some lo) none none,ty,pos,aH,none⟩ (.slice (if c=l then A else A.map (·.add (l*sz))) (n - l) (c - l)):=iO fun a w hr=>by
 obtain⟨i0,oX,hz⟩:=Option.map_eq_some_iff.1 hT.s;simp[execOp,hr.ev hx,hr.ev hl,Instr.sliceAt,Instr.slice,Instr.sliceBounds,run_sliceBound,run_underlying hT.h,sizeOf,typeInfo,oX,hz,h1]
theorem aT6{K:Act→World→Prop}(i:Nat){n sz:Nat}{t:TypeId}{v:Value}{xs:List Value}(hi:H[i]? =some (HP.own t sz v n xs))(hn:0 < n)(h:∀g c,v=.slice (some ⟨g,0,none⟩) n c→n≤c→XK N w0 K e R H):XK N w0 K e R H:=fun a w hr st=>by
 obtain⟨_,h2⟩:=st.own hi;rcases h2 with⟨_,h3⟩ | ⟨g',cap,cur,hv,_,_,h3,_⟩
 ·omega
 ·exact h g' cap hv h3 a w hr st
theorem aTC{K:Act→World→Prop}(j i:Nat){p:Prop}{ps:List HP}(hj:H[j]? =some (HP.many ps))(hi:ps[i]? =some (Ph p))(h:p→XK N w0 K e R H):XK N w0 K e R H:=fun a w hr st=>by
 obtain⟨F,hF⟩:=(st.take hj hi).sat (i:=0) rfl;exact h hF a w hr st
end
def wL(g n:Nat)(vs:List Value)(ws:List (Option jD)):List HP:=HP.aE g 267 vs::Ph (vs.length=n)::(List.range n).map fun i=>QH (vs.getD i undef) (ws[i]?).join
theorem aLo{g n i:Nat}{vs:List Value}{ws:List (Option jD)}(hi:i < n):(wL g n vs ws)[i+2]? =some (QH (vs.getD i undef) (ws[i]?).join):=by
 unfold wL;rw[List.getElem?_cons_succ,List.getElem?_cons_succ,List.getElem?_map,List.getElem?_range hi];rfl
theorem aLp{g n i:Nat}{vs:List Value}{ws:List (Option jD)}{v:Value}{q:Option jD}(hi:i < n)(hv:vs.length=n)(hw:ws.length=n):
  (((((wL g n vs ws).set 0 cH).set (i+2) cH).set (i+2) (QH v q)).set 0 (HP.aE g 267 (vs.set i v)))=wL g n (vs.set i v) (ws.set i q):=by
 refine List.ext_getElem? fun k=>?_
 match k with
 | 0=>rfl
 | 1=>
  show some (Ph (vs.length=n))=some (Ph ((vs.set i v).length=n))
  rw[List.length_set]
 | k + 2 =>
  unfold wL;simp only[List.set_cons_zero,List.set_cons_succ,List.getElem?_cons_succ,List.set_set,List.getElem?_map];rw[List.getElem?_set]
  by_cases h:i=k
  ·subst h;rw[if_pos rfl,if_pos (by simpa using hi),List.getElem?_range hi];simp only[Option.map_some];rw[List.getD_eq_getElem?_getD,List.getElem?_set_self (by omega),List.getElem?_set_self (by omega)];rfl
  ·rw[if_neg h,List.getElem?_map];cases hr:(List.range n)[k]? with
   | none=>rfl
   | some j=>
    obtain⟨_,rfl⟩:=List.getElem?_eq_some_iff.1 hr;simp only[List.getElem_range,Option.map_some];rw[List.getD_eq_getElem?_getD,List.getD_eq_getElem?_getD,List.getElem?_set_ne h,List.getElem?_set_ne h]
section
variable{N:cF}{w0:World}{e:Env}{R:List Piece}{H:List HP}{K:Act→World→Prop}{L:BL}{ms:List Int}{ws:List (Option jD)}{aQ:Int}
def Yz(L:BL)(ms:List Int)(aQ:Int):List Value:=[.slice (some ⟨L.gr,0,none⟩) ms.length ms.length,.slice (some ⟨L.gw,0,none⟩) ms.length ms.length,iv aQ]
def aFT(L:BL)(ms:List Int)(ws:List (Option jD))(vs:List Value)(i:Nat):HP:=HP.many (((wL L.gw ms.length vs ws).set 0 cH).set (i+2) cH)
theorem aJY(j i:Nat)(hj:H[j]? =some (zO L ms ws aQ))(hi:i < ms.length)(h:∀vs:List Value,vs.length=ms.length→
      XK N w0 K e R (QH (vs.getD i undef) (ws[i]?).join::HP.aE L.gw 267 vs::aFT L ms ws vs i::HP.aE L.b 270 (Yz L ms aQ)::H.set j (HP.many [cH,HP.aE L.gr 3 (aK ms),cH]))):XK N w0 K e R H:=by
  have hlt:=(List.getElem?_eq_some_iff.1 hj).1
  refine tG j 0 hj rfl ?_;refine tG (j+1) 2 (by rw[List.getElem?_cons_succ,List.getElem?_set_self hlt]) rfl ?_;refine aBW 0 rfl fun vs=>?_;refine aTC 0 1 rfl rfl fun hv=>?_;refine tG 0 0 rfl rfl ?_;refine tG 1 (i+2) rfl (p:=QH (vs.getD i undef) (ws[i]?).join) ?_ ?_
  · show((wL L.gw ms.length vs ws).set 0 cH)[i+2]? =_
    rw[List.getElem?_set_ne (by omega),aLo hi]
  · have h:=h vs hv
    simp only[List.set_cons_succ,List.set_cons_zero,List.set_set];exact h
theorem aKd(j i:Nat){vs:List Value}{v:Value}{q:Option jD}(hj:H[j]? =some (HP.many [cH,HP.aE L.gr 3 (aK ms),cH]))(hi:i < ms.length)(hv:vs.length=ms.length)(hw:ws.length=ms.length)
  (h:XK N w0 K e R (H.set j (zO L ms (ws.set i q) aQ))):XK N w0 K e R (QH v q::HP.aE L.gw 267 (vs.set i v)::aFT L ms ws vs i::HP.aE L.b 270 (Yz L ms aQ)::H):=by
 have hlt:=(List.getElem?_eq_some_iff.1 hj).1
 have hlen:(wL L.gw ms.length vs ws).length=ms.length+2:=by simp[wL]
 refine tH 1 (i+2) rfl ?_ ?_
 ·rw[List.getElem?_set_self (by simp[hlen];omega)]
 dsimp only[List.set];refine tH 0 0 rfl ?_ ?_
 ·rw[List.set_set,List.getElem?_set_ne (by omega),List.getElem?_set_self (by simp[hlen])]
 rw[aLp hi hv hw];dsimp only[List.set];refine xL 0 (f:=fun vs:List Value=>HP.many (wL L.gw ms.length vs (ws.set i q))) (vs.set i v) rfl ?_;dsimp only[List.set];refine tH (j+1) 2 (by rw[List.getElem?_cons_succ];exact hj) rfl ?_;dsimp only[List.set];refine tH j 0 (by rw[List.getElem?_set_self hlt]) rfl ?_;rw[List.set_set];exact h
end
theorem aSO(L:BL)(ms:List Int)(ws:List (Option jD))(aQ:Int)(i:Nat)(hi:i < ms.length)(hw:ws.length=ms.length)(t:jD)(ht:(ws[i]?).join=some t)(w:World)(F:Nat→Prop)(hp:(zO L ms ws aQ).sat F w)(hF:∀b,F b→b < w.heap.size):
  Cz 108 #[.pointer (some ⟨L.b,0,none⟩),iv (i:Int)] w (Wr (.tuple #[.agg #[iv t.id,.bool t.wr,iv t.bT,.int .u32 t.val],.bool true]) (zO L ms (ws.set i none) aQ) w F):=by
 have hin:bO ms.length (i:Int)=true:=decide_eq_true (by omega)
 refine dK func108 ntmps108 hp hF ?_;generalize cN:(⟨w,fun b=>b < w.heap.size∧¬F b⟩:Piece)=R0;refine aA ?_;refine bU fun g1=>?_;refine aA ?_;refine aU (fun w1 st=>aBI L ms ws aQ i w1 (st.aJ4 1 rfl)) ?_;rw[hin];refine aJY 1 i rfl hi fun vs hv=>?_;rw[ht];dsimp only[List.set];refine aT6 0 rfl (by decide) fun g c hg hc=>?_
 have We:vs[i]? =some (.slice (some ⟨g,0,none⟩) 1 c):=by
  obtain⟨v,h1⟩:=get_some (l:=vs) (i:=i) (by omega);rw[List.getD_eq_getElem?_getD,h1] at hg;rw[h1];exact congrArg some hg
 rw[hg];refine aA ?_;refine kd (dat i i) ?_;refine aA ?_;refine kd (bN rfl (Rd.aE 1 rfl We)) ?_;refine aA ?_;refine kd (dat i i) ?_;refine aA ?_;refine kd (bN rfl (Rd.aE 1 rfl We)) ?_;refine aA ?_;refine jM [1,2,3,7,9,10,11] ?_;refine bP 0 ?_;refine aJ 1 ?_;refine aJ 2 ?_;refine aJ 3 ?_;refine bP 4 ?_;refine bP 5 ?_;refine bP 6 ?_;refine aJ 7 ?_;refine bP 8 ?_;refine aJ 9 ?_;refine aJ 10 ?_ (hi:=rfl) (dI:=aRE (l:=1) (h:=1) (m:=1) rfl rfl rfl rfl (by omega) (by omega) hc);refine aJ 11 ?_ (hi:=rfl) (dI:=dat i i);refine aO 12 ?_;refine fG rfl rfl ?_ (hs:=fB.mk 1 rfl cK.h rfl (by omega));dsimp only[List.set];refine cX ?_;refine fJ ?_;refine aA ?_;refine kd (dat 0 0) ?_;refine kd (oZ rfl (aR.of fun j v hv=>by rw[Nat.zero_add];exact Rd.own 0 rfl hv)) ?_;refine oO 4 rfl ?_;dsimp only[List.set];refine aA ?_;refine Bq (q:=QH (.slice (some ⟨g,0,none⟩) 0 0) none) 0 rfl (fun _ _ _=>⟨_,rfl⟩) ?_;refine aKd 1 i rfl hi hv hw ?_;dsimp only[List.set];subst cN;exact xM (vs:=[iv t.id,.bool t.wr,iv t.bT,.int .u32 t.val]) rfl (by kernel_rfl) rfl rfl (aR.whole 0 rfl) rfl fun w1 st=>⟨rfl,st.turns hF (by simp) (i:=1) rfl⟩
end
section
theorem aBH(w0 low many:Int)(w:World)(hok:okF low many)(hr:0≤cO w0 low many∧cO w0 low many < 4294967296):
  Cz 296 #[.int .u32 w0,iv low,iv many] w (Rt (iv (cO w0 low many)) w):=by
 refine aN func296 ntmps296 ?_;refine aA ?_;refine aU (fun w1 t=>aI2 w0 low many w1 hok) ?_;refine aA ?_;refine kd (Ku (ds:=.int .u32) (kd:=.i64) (c:=cO w0 low many) (by kernel_rfl) (by kernel_rfl) rfl (iR (by omega))) ?_;refine aA ?_;exact dG
theorem aBx(w low many:Int):0≤cO w low many∧cO w low many < 4294967296:=Pw _
theorem aJ3(a dev bT:Int)(h0:cO a 0 2=0)(h1:cO a 24 8=0)(h2:cO a 16 8=dev)(h3:cO a 2 14=bT)(w:World):
  Cz 294 #[.int .u32 a] w (Rt (.tuple #[iv dev,iv bT]) w):=by
 refine aN func294 ntmps294 ?_;refine aA ?_;refine aU (fun w1 t=>aBH a 0 2 w1 (by unfold okF;omega) (aBx _ _ _)) ?_;rw[h0];refine aA ?_;refine aU (fun w1 t=>aBH a 24 8 w1 (by unfold okF;omega) (aBx _ _ _)) ?_;rw[h1];refine aA ?_;refine aU (fun w1 t=>aBH a 16 8 w1 (by unfold okF;omega) (aBx _ _ _)) ?_;rw[h2];refine aA ?_;refine aU (fun w1 t=>aBH a 2 14 w1 (by unfold okF;omega) (aBx _ _ _)) ?_;rw[h3];refine aA ?_;exact eL rfl rfl rfl fun w1 t=>⟨rfl,t.below (by simp)⟩
def Sz(dev bT:Int):Int:=(zY (zY 0 16 8 dev).1 2 14 bT).1
structure aUv(dev bT:Int):Prop where
 p1:(zY 0 16 8 dev).2=0
 p2:(zY (zY 0 16 8 dev).1 2 14 bT).2=0
 z0:cO (Sz dev bT) 0 2=0
 z1:cO (Sz dev bT) 24 8=0
 z2:cO (Sz dev bT) 16 8=dev
 z3:cO (Sz dev bT) 2 14=bT
theorem aJH{dev bT:Int}(h1:0≤dev∧dev < 4)(h2:0≤bT∧bT < 4):aUv dev bT:=by
 have hd:dev=0∨dev=1∨dev=2∨dev=3:=by omega
 have hr:bT=0∨bT=1∨bT=2∨bT=3:=by omega
 rcases hd with rfl | rfl | rfl | rfl<;>rcases hr with rfl | rfl | rfl | rfl<;>exact⟨by decide+kernel,by decide+kernel,by decide+kernel,by decide+kernel,by decide+kernel,by decide+kernel⟩
theorem aSS(dev bT:Int)(hd:0≤dev∧dev < 4)(hr:0≤bT∧bT < 4)(w:World):
  Cz 292 #[iv dev,iv bT] w (Rt (.tuple #[.int .u32 (Sz dev bT),iv 0]) w):=by
 have ha:=aJH hd hr
 refine aN func292 ntmps292 ?_;refine aA ?_;refine bX (t:=10) rfl (fun h=>absurd h (by omega)) (fun _=>?_);refine aA ?_;refine bX (t:=14) rfl (fun h=>absurd h (by omega)) (fun _=>?_);refine aA ?_;refine bX (t:=18) rfl (fun h=>absurd h (by omega)) (fun _=>?_);refine aA ?_;refine aG rfl (fun h=>absurd h (by omega)) (fun _=>?_);refine aA ?_;refine kd (Ku (ds:=.int .i64) (kd:=.u32) (c:=dev) (by kernel_rfl) (by kernel_rfl) rfl (wrap_u32 (by omega))) ?_;refine aU (fun w1 t=>aCZ 0 16 8 dev w1 (by unfold okF;omega)) ?_;rw[ha.p1];refine aA ?_;refine kd (Ku (ds:=.int .i64) (kd:=.u32) (c:=bT) (by kernel_rfl) (by kernel_rfl) rfl (wrap_u32 (by omega))) ?_;refine aU (fun w1 t=>aCZ _ 2 14 bT w1 (by unfold okF;omega)) ?_;rw[ha.p2];refine aA ?_;exact eL rfl rfl rfl fun w1 t=>⟨rfl,t.below (by simp)⟩
theorem aSQ(L:BL)(ms:List Int)(ws:List (Option jD))(aQ:Int)(i:Nat)(hi:i < ms.length)(hml:ms.length≤6)(hw:ws.length=ms.length)(h0:(ws[i]?).join=none)(a bT:Int)(z0:cO a 0 2=0)(z1:cO a 24 8=0)(z2:cO a 16 8=i)(z3:cO a 2 14=bT)(m:Int)(hm:ms[i]? =some m)(hr:0≤bT∧bT < m)(b:Bool)(v:Int)(lU:0≤aQ∧aQ≤1000000000)(w:World)(F:Nat→Prop)(hp:(zO L ms ws aQ).sat F w)(hF:∀b,F b→b < w.heap.size):
  Cz 295 #[.pointer (some ⟨L.b,0,none⟩),.int .u32 a,.bool b,.int .u32 v] w (Wr (.tuple #[iv aQ,iv 0]) (zO L ms (ws.set i (some ⟨aQ,b,bT,v⟩)) (aQ+1)) w F):=by
 have hin:bO ms.length (i:Int)=true:=decide_eq_true (by omega)
 have hmi:(aK ms)[i]? =some (iv m):=by simp[aK,hm]
 refine dK func295 ntmps295 hp hF ?_;generalize cN:(⟨w,fun b=>b < w.heap.size∧¬F b⟩:Piece)=R0;refine aA ?_;refine aU (fun w1 t=>aJ3 a i bT z0 z1 z2 z3 w1) ?_;refine aA ?_;refine aU (fun w1 st=>aBI L ms ws aQ i w1 (st.aJ4 0 rfl)) ?_;rw[hin];refine aJY 0 i rfl hi fun vs hv=>?_;rw[h0];dsimp only[List.set];refine bF 4 1 ?_;refine aTD (p:=∃A,vs.getD i undef=.slice A 0 0) 1 rfl fun⟨A,hA⟩=>?_
 have We:vs[i]? =some (.slice A 0 0):=by
  obtain⟨u,h1⟩:=get_some (l:=vs) (i:=i) (by omega);rw[List.getD_eq_getElem?_getD,h1] at hA;rw[h1];exact congrArg some hA
 refine aA ?_;refine bX (t:=26) rfl (fun h=>absurd h (by omega)) (fun _=>?_);refine aA ?_;refine kd (dat i i) ?_;refine aA ?_;refine kd (bN rfl (Rd.aE 0 rfl hmi)) ?_;refine aA ?_;refine aG rfl (fun h=>absurd h (by omega)) (fun _=>?_);refine aA ?_;refine kd (dat i i) ?_;refine aA ?_;refine kd (bN rfl (Rd.aE 2 rfl We)) ?_;refine aA ?_;refine fG rfl rfl ?_ (hs:=fB.mk 4 rfl cK.h rfl (by simp[Yz]));dsimp only[List.set];rw[show(Yz L ms aQ).set (0+2) (iv (aQ+1))=Yz L ms (aQ+1) from rfl];refine aA ?_;refine jM [1,2,3,6,7,8,10,11] ?_;refine bP 0 ?_;refine aJ 1 ?_;refine aJ 2 ?_;refine aJ 3 ?_;refine bP 4 ?_;refine bP 5 ?_;refine aJ 6 ?_;refine aJ 7 ?_;refine aJ 8 ?_;refine bP 9 ?_;refine aJ 10 ?_ (hi:=rfl) (dI:=dat i i);refine aJ 11 ?_ (hi:=rfl) (dI:=bN rfl (Rd.aE 2 rfl We));refine bP 12 ?_;refine bP 13 ?_;refine bP 14 ?_;refine bP 15 ?_;refine aO 16 ?_;refine kd (gA rfl) ?_;refine bM ?_;refine aO 17 ?_;refine eH fun g4=>?_;refine bM ?_;refine aO 18 ?_;refine aKX 4 32 1 (el:=259) (by kernel_rfl) (by kernel_rfl) (by decide) rfl rfl (nL 0 rfl rfl) (by simp[Value.oneCell']) (by decide) (by decide) (by decide) (by decide) fun An cn=>?_;refine bM ?_;refine aO 19 ?_;refine kd (dat i i) ?_;refine cX ?_;refine aO 20 ?_;refine fG rfl rfl ?_ (hs:=fB.mk 4 rfl cK.h rfl (by omega));dsimp only[List.set];refine cX ?_;refine fJ ?_;refine aA ?_;refine aY [2,0,4,5,6,7] rfl (by decide) (fun _ h=>h) ?_;refine aP 4 1 ?_;refine aKd (v:=.slice An 1 cn) (q:=some ⟨aQ,b,bT,v⟩) 0 i rfl hi hv hw ?_;dsimp only[List.set];subst cN;exact eL rfl rfl rfl fun w1 st=>⟨rfl,st.turns hF (by simp) (i:=0) rfl⟩
end
section
structure mY where
 id:Int
 dev:Int
 dead:Bool
 val:Int
def mY.cells(a:mY):List Value:=[iv a.id,iv a.dev,.bool a.dead,.int .u32 a.val]
def Gl(s:aC)(x:aM):Prop:=∀(i:Nat) (d:bL) (t:jD),s.aD[i]? =some d→(x.wt[i]?).join=some t→0≤t.bT∧t.bT < d.aL.length∧0≤t.val∧t.val < 4294967296
def wX(x:aM)(i:Nat)(wr:Bool)(bT v:Int):aM:={x with wt:=x.wt.set i (some ⟨x.aQ,wr,bT,v⟩),aQ:=x.aQ+1}
def uL(p:bR×dB)(t:jD):bR×dB:=if t.wr then(⟨p.1.now.set t.bT.toNat t.val,p.1.saved,p.1.kept⟩,p.2) else p
def jL(s:aC)(x:aM)(i:Nat):aM×Option mY:=match(x.wt[i]?).join,s.aD[i]?,x.dv[i]? with
 | some t,some d,some p=>if zF s x i then({x with wt:=x.wt.set i none,dv:=x.dv.set i (uL p t)},some ⟨t.id,i,false,p.1.now.getD t.bT.toNat 0⟩) else({x with wt:=x.wt.set i none},some ⟨t.id,i,true,d.iT⟩)
 | _,_,_=>(x,none)
section
variable{s:aC}{x:aM}
theorem aAr(hok:cM s x)(i:Nat)(q:Option jD)(po:Int):cM s {x with wt:=x.wt.set i q,aQ:=po}:=⟨hok.ck,hok.dm,hok.ln,hok.dv,hok.each,by show(x.wt.set i q).length=_;rw[List.length_set];exact hok.wt⟩
theorem aCz{d:bL}{p:bR×dB}{t:jD}(hp:wP d p.1)(hv:0≤t.val∧t.val < 4294967296):wP d (uL p t).1:=by
 unfold uL;split
 ·refine⟨by simp[hp.now],hp.saved,fun v h=>?_,hp.u.2⟩;rcases List.mem_or_eq_of_mem_set h with h | rfl
  ·exact hp.u.1 v h
  ·exact hv
 ·exact hp
theorem aRr(hok:cM s x){i:Nat}{d:bL}{p:bR×dB}(hd:s.aD[i]? =some d)(h:wP d p.1∧Cc p.2)(wt:List (Option jD))(hw:wt.length=s.aD.length)(po:Int):cM s {x with dv:=x.dv.set i p,wt:=wt,aQ:=po}:=
 ⟨hok.ck,hok.dm,hok.ln,by simp[hok.dv],fun j d' p' hd' hp'=>by
  by_cases hij:i=j
  ·subst hij
   have hlt:i < x.dv.length:=by simpa using(List.getElem?_eq_some_iff.1 hp').1
   rw[List.getElem?_set_self hlt] at hp';cases hp';cases hd.symm.trans hd';exact h
  ·rw[List.getElem?_set_ne hij] at hp'
   exact hok.each j d' p' hd' hp',hw⟩
theorem aTj(hok:cM s x)(lE:Gl s x)(i:Nat):cM s (jL s x i).1:=by
 unfold jL;split
 ·rename_i t d p ht hd hp
  obtain⟨h1,h2⟩:=hok.each i d p hd hp;split
  ·exact aRr hok hd ⟨aCz h1 (lE i d t hd ht).2.2,by unfold uL;split<;>exact h2⟩ _ (by simp[hok.wt]) _
  ·exact aAr hok i none _
 ·exact hok
theorem aCK{ws:List (Option jD)}{i j:Nat}{t:jD}(h:((ws.set i none)[j]?).join=some t):(ws[j]?).join=some t:=by
 by_cases hij:i=j
 ·subst hij;rw[List.getElem?_set] at h;simp at h;split at h<;>cases h
 ·rwa [List.getElem?_set_ne hij] at h
theorem aTh(lE:Gl s x)(i:Nat):Gl s (jL s x i).1:=by
 unfold jL;split
 ·split
  ·exact fun j d t hd ht=>lE j d t hd (aCK ht)
  ·exact fun j d t hd ht=>lE j d t hd (aCK ht)
 ·exact lE
end
section
variable(L:HL)(s:aC)(x:aM)(w:World)
theorem aIt(hH:s.dJ)(aW:iU L s)(hok:cM s x)(i:Nat)(d:bL)(dF:s.aD[i]? =some d)(h0:(x.wt[i]?).join=none)(jA:s.aD.length≤4)(bT:Int)(hr:0≤bT∧bT < 4∧bT < d.aL.length)(b:Bool)(v:Int)(lU:0≤x.aQ∧x.aQ≤1000000000)(F:Nat→Prop)(hp:(dR L s x).sat F w)(hF:∀b,F b→b < w.heap.size)(fD:kM ⟨w,fun b=>b < w.heap.size∧¬F b⟩):
  Cz 293 #[.pointer (some ⟨L.h,0,none⟩),.int .u32 (Sz i bT),.bool b,.int .u32 v] w (Wr (if uN x i=114 then .tuple #[iv x.aQ,iv 0] else .tuple #[iv 0,iv 6]) (dR L s (if uN x i=114 then wX x i b bT v else x)) w F):=by
 have hls:=aW.ds
 have hxl:=hok.dv
 have vV:=hok.wt
 have hi:=(List.getElem?_eq_some_iff.1 dF).1
 obtain⟨l,iS⟩:=get_some (l:=L.ds) (i:=i) (by omega);obtain⟨p,gK⟩:=get_some (l:=x.dv) (i:=i) (by omega)
 have hin:bO s.aD.length (i:Int)=true:=decide_eq_true (by omega)
 have ha:=aJH (dev:=i) (bT:=bT) ⟨by omega,by omega⟩ ⟨hr.1,hr.2.1⟩
 have hst:uN x i=qH p.2.at_:=by
  unfold uN;rw[gK];rfl
 rw[hst];refine dK func293 ntmps293 hp hF ?_;generalize cN:(⟨w,fun b=>b < w.heap.size∧¬F b⟩:Piece)=R0 at fD⊢;refine aA ?_;refine aU (fun w1 t=>aJ3 _ i bT ha.z0 ha.z1 ha.z2 ha.z3 w1) ?_;refine aA ?_;refine aU (fun w1 t=>Rs L s x w1 i (t.nF 0 rfl aW hok)) ?_;rw[hin];refine Oh 0 rfl aW hok (by omega) fun b0 off hA=>?_;refine aA ?_;refine bX (t:=25) rfl (fun h=>absurd h (by omega)) (fun _=>?_);refine aA ?_;refine kd (bN rfl (rL 0 rfl rfl)) ?_;refine aA ?_;refine kd (dat i (off+i*6) (hx:=by rw[←hA];rfl)) ?_;refine aA ?_;refine kd (bN rfl (aCl (vs:=Kq d l) 4 (aR.dev 0 rfl aW hok hA dF iS rfl) rfl)) ?_;refine aA ?_;refine aU (fun w1 t=>Vc l.1 d p.1 w1 ((t.nF 0 rfl aW hok).each i d l p dF iS gK).1) ?_;refine aA ?_;refine aG rfl (fun h=>absurd h (by omega)) (fun _=>?_);refine aA ?_;refine kd (bN rfl (rL 0 rfl rfl)) ?_;refine aA ?_;refine kd (dat i (off+i*6) (hx:=by rw[←hA];rfl)) ?_;refine aA ?_;refine kd (bN rfl (aCl (vs:=Kq d l) 5 (aR.dev 0 rfl aW hok hA dF iS rfl) rfl)) ?_;refine aA ?_;refine aU (fun w1 t=>aHb l.2 p.2 (hok.each i d p dF gK).2 w1 (fD.at_ (t.le (by simp))) ((t.nF 0 rfl aW hok).each i d l p dF iS gK).2) ?_;refine aA ?_
 by_cases Dn:qH p.2.at_=114
 ·rw[Dn,if_pos rfl,if_pos rfl];refine aA ?_;refine kd (bN rfl (rL 0 rfl rfl)) ?_;refine aA ?_;refine bF 0 4 ?_;refine dZ 0 (zO L.B (kK s) (x.wt.set i (some ⟨x.aQ,b,bT,v⟩)) (x.aQ+1)) (fun w1 F1 t h1 h2 h3=>aSQ L.B (kK s) x.wt x.aQ i (by rw[He];exact hi) (by rw[He];omega) (by rw[He];exact vV) h0 _ bT ha.z0 ha.z1 ha.z2 ha.z3 d.aL.length (by simp[kK,dF]) ⟨hr.1,hr.2.2⟩ b v lU w1 F1 h1 h2) ?_;refine aP 0 4 ?_;refine aA ?_;subst cN;exact eL rfl rfl rfl fun w1 t=>⟨rfl,t.turns hF (by simp) (i:=0) rfl⟩
 ·rw[if_neg Dn,if_neg Dn];refine aG rfl (fun _=>?_) (fun h=>absurd h (by simpa using Dn));refine aA ?_;subst cN;exact eL rfl rfl rfl fun w1 t=>⟨rfl,t.turns hF (by simp) (i:=0) rfl⟩
theorem aPU(hH:s.dJ)(aW:iU L s)(hok:cM s x)(lE:Gl s x)(i:Nat)(d:bL)(dF:s.aD[i]? =some d)(t:jD)(ht:(x.wt[i]?).join=some t)(a:mY)(hx:(jL s x i).2=some a)(F:Nat→Prop)(hp:(dR L s x).sat F w)(hF:∀b,F b→b < w.heap.size):
  Cz 55 #[.pointer (some ⟨L.h,0,none⟩),iv (i:Int)] w (Wr (.tuple #[.agg a.cells.toArray,.bool true]) (dR L s (jL s x i).1) w F):=by
 have hls:=aW.ds
 have hxl:=hok.dv
 have vV:=hok.wt
 have hi:=(List.getElem?_eq_some_iff.1 dF).1
 obtain⟨l,iS⟩:=get_some (l:=L.ds) (i:=i) (by omega);obtain⟨p,gK⟩:=get_some (l:=x.dv) (i:=i) (by omega);obtain⟨hfo,hqo⟩:=hok.each i d p dF gK;obtain⟨r1,r2,r3,r4⟩:=lE i d t dF ht
 have mQ:cM s {x with wt:=x.wt.set i none}:=aAr hok i none _
 have hwr:=aCz (t:=t) hfo ⟨r3,r4⟩
 obtain⟨rn,ern⟩:∃n:Nat,t.bT=(n:Int):=⟨t.bT.toNat,by omega⟩
 have iL:=hfo.now
 obtain⟨rv,Rh⟩:=get_some (l:=p.1.now) (i:=rn) (by omega)
 have hal:zF s {x with wt:=x.wt.set i none} i=zF s x i:=rfl
 have hX:jL s x i=if zF s x i then({x with wt:=x.wt.set i none,dv:=x.dv.set i (uL p t)},some ⟨t.id,i,false,rv⟩) else({x with wt:=x.wt.set i none},some ⟨t.id,i,true,d.iT⟩):=by
  unfold jL;rw[ht,dF,gK];dsimp only;rw[ern,Int.toNat_natCast,List.getD_eq_getElem?_getD,Rh];rfl
 rw[hX] at hx⊢;refine dK func55 ntmps55 hp hF ?_;generalize cN:(⟨w,fun b=>b < w.heap.size∧¬F b⟩:Piece)=R0;refine aA ?_;refine bU fun g1=>?_;refine aA ?_;refine kd (bN rfl (rL 1 rfl rfl)) ?_;refine aA ?_;refine bF 1 4 ?_;refine dZ 0 (zO L.B (kK s) (x.wt.set i none) x.aQ) (fun w1 F1 st h1 h2 h3=>aSO L.B (kK s) x.wt x.aQ i (by rw[He];exact hi) (by rw[He];exact vV) t ht w1 F1 h1 h2) ?_;refine aP 1 4 ?_
 change XK _ _ _ _ _ [_,dR L s {x with wt:=x.wt.set i none}]
 generalize vU:({x with wt:=x.wt.set i none}:aM)=x2 at mQ hal⊢
 have Mx:x2.dv[i]? =some p:=by rw[←vU];exact gK
 refine aA ?_;refine bU fun g2=>?_;refine Oh 2 rfl aW mQ (by omega) fun b off hA=>?_;refine aA ?_;refine kd (bN rfl (rL 2 rfl rfl)) ?_;refine aA ?_;refine kd (dat i (off+i*6) (hx:=by rw[←hA];rfl)) ?_;refine kd (oZ rfl (aR.dev 2 rfl aW mQ hA dF iS rfl)) ?_;refine bU fun g3=>?_;refine aA ?_;refine aU (fun w1 st=>aPW L s x2 w1 hH aW mQ i hi (st.nF 3 rfl aW mQ)) ?_;rw[hal];cases hb:zF s x i
 ·rw[hb] at hx;simp at hx;subst hx;refine aA ?_;refine kd (gA rfl) ?_;refine aA ?_;subst cN;exact xM (vs:=[iv t.id,iv i,.bool true,.int .u32 d.iT]) rfl (by kernel_rfl) rfl rfl (aR.whole 2 rfl) rfl fun w1 st=>⟨rfl,st.turns hF (by simp) (i:=3) rfl⟩
 ·rw[hb] at hx;simp at hx;subst hx;refine aA ?_;rw[ern];refine aU (fun w1 st=>aMN l.1 d p.1 rn rv hfo.now Rh w1 ((st.nF 3 rfl aW mQ).each i d l p dF iS Mx).1) ?_;refine aA ?_
  have Wi:t.bT.toNat=rn:=by omega
  cases hw:t.wr
  ·have hwf:uL p t=p:=by
    unfold uL;rw[hw];rfl
   have hxx:({x with wt:=x.wt.set i none,dv:=x.dv.set i p}:aM)=x2:=by
    rw[yH gK];exact vU
   rw[hwf,hxx];refine aA ?_;refine kd (gA rfl) ?_;refine aA ?_;subst cN;exact xM (vs:=[iv t.id,iv i,.bool false,.int .u32 rv]) rfl (by kernel_rfl) rfl rfl (aR.whole 2 rfl) rfl fun w1 st=>⟨rfl,st.turns hF (by simp) (i:=3) rfl⟩
  ·have hwf:uL p t=(⟨p.1.now.set rn t.val,p.1.saved,p.1.kept⟩,p.2):=by
    unfold uL;rw[hw,Wi];rfl
   rw[hwf];refine aA ?_;refine Tb 3 i rfl dF iS Mx ?_;dsimp only[List.set];refine bF 0 0 ?_;refine dZ 0 (iF l.1 d ⟨p.1.now.set rn t.val,p.1.saved,p.1.kept⟩) (fun w1 F1 st h1 h2 h3=>aMK l.1 d p.1 rn t.val hfo.now (by omega) w1 F1 h1 h2) ?_;refine aP 0 0 ?_;refine Tn 3 i rfl dF iS Mx (p':=(⟨p.1.now.set rn t.val,p.1.saved,p.1.kept⟩,p.2)) ?_;dsimp only[List.set];refine aA ?_;refine kd (gA rfl) ?_;refine aA ?_;subst cN;subst vU;exact xM (vs:=[iv t.id,iv i,.bool false,.int .u32 rv]) rfl (by kernel_rfl) rfl rfl (aR.whole 2 rfl) rfl fun w1 st=>⟨rfl,st.turns hF (by simp) (i:=3) rfl⟩
end
end
section
structure rJ where
 st:Int
 kind:Int
 dev:Int
 bT:Int
 val:Int
 err:Int
 res:Int
 hs:List Int
def Px:rJ:=⟨0,0,0,0,0,0,0,[0,0,0,0,0,0]⟩
def hG(t:rJ)(i:Nat):Int:=t.hs.getD i 0
structure aV where
 cn:Cn
 wn:bJ
 t0:rJ
 t1:rJ
 t2:rJ
 eX:Int
 steps:List cY
 sent:Bool
 aQ:Bool
 id:Int
 many:Int
def rp0(s:aC):aV:=⟨⟨[],false⟩,dP s,Px,Px,Px,-1,[],false,false,0,0⟩
def aV.tk(z:aV):Nat→rJ
 | 0=>z.t0
 | 1=>z.t1
 | _=>z.t2
def aV.jP(z:aV)(j:Nat)(t:rJ):aV:={z with t0:=if j=0 then t else z.t0,t1:=if j=1 then t else z.t1,t2:=if j=2 then t else z.t2}
structure dM where
 a1:AC
 a2:AC
 a3:AC
 a4:AC
 gc:Nat
 gm:Nat
 nd:AC
 w1:AC
 w2:AC
 w3:AC
 st:AC
def tkC(t:rJ):List Value:=[iv t.st,.int .u8 t.kind,iv t.dev,iv t.bT,.int .u32 t.val,iv t.err,.int .u32 t.res,iv (hG t 0),iv (hG t 1),iv (hG t 2),iv (hG t 3),iv (hG t 4),iv (hG t 5)]
def lA(h f:Nat)(L:dM)(s:aC)(z:aV):List Value:=
  [pt h,pt f,.slice L.a1.1 s.aF.length L.a1.2,.slice L.a2.1 s.domains.length L.a2.2,.slice L.a3.1 s.aT.length L.a3.2,.slice L.a4.1 s.aD.length L.a4.2,.pointer (some ⟨L.gc,0,none⟩),.slice L.w1.1 z.wn.d.length L.w1.2,.slice L.w2.1 z.wn.c.length L.w2.2,.slice L.w3.1 z.wn.l.length L.w3.2,
   iv z.t0.st,.int .u8 z.t0.kind,iv z.t0.dev,iv z.t0.bT,.int .u32 z.t0.val,iv z.t0.err,.int .u32 z.t0.res,iv (hG z.t0 0),iv (hG z.t0 1),iv (hG z.t0 2),iv (hG z.t0 3),iv (hG z.t0 4),iv (hG z.t0 5),
   iv z.t1.st,.int .u8 z.t1.kind,iv z.t1.dev,iv z.t1.bT,.int .u32 z.t1.val,iv z.t1.err,.int .u32 z.t1.res,iv (hG z.t1 0),iv (hG z.t1 1),iv (hG z.t1 2),iv (hG z.t1 3),iv (hG z.t1 4),iv (hG z.t1 5),
   iv z.t2.st,.int .u8 z.t2.kind,iv z.t2.dev,iv z.t2.bT,.int .u32 z.t2.val,iv z.t2.err,.int .u32 z.t2.res,iv (hG z.t2 0),iv (hG z.t2 1),iv (hG z.t2 2),iv (hG z.t2 3),iv (hG z.t2 4),iv (hG z.t2 5),
   iv z.eX,.slice L.st.1 z.steps.length L.st.2,.bool z.sent,.bool z.aQ,iv z.id,iv z.many]
def mW(L:dM)(s:aC)(p:Piece):Prop:=pW p s L.a1.1 s.aF.length L.a2.1 s.domains.length L.a3.1 s.aT.length L.a4.1 s.aD.length
theorem mW.le{L:dM}{s:aC}(p q:Piece)(hl:p.Le q)(h:mW L s p):mW L s q:=pW.le h hl
def vA(L:dM)(x:bJ)(p:Piece):Prop:=aI p 1 L.w1.1 x.d.length (bE x.d)∧aI p 1 L.w2.1 x.c.length (bE x.c)∧aI p 1 L.w3.1 x.l.length (bE x.l)
theorem vA.le{L:dM}{x:bJ}(p q:Piece)(hl:p.Le q)(h:vA L x p):vA L x q:=⟨h.1.le hl,h.2.1.le hl,h.2.2.le hl⟩
def Pe(L:dM)(s:aC)(p:Piece):Prop:=mX p L.nd.1 (cZ s).length (cZ s)
theorem Pe.le{L:dM}{s:aC}(p q:Piece)(hl:p.Le q)(h:Pe L s p):Pe L s q:=mX.le h hl
def oH(L:dM)(l:List cY)(p:Piece):Prop:=aI p 4 L.st.1 l.length (l.flatMap cY.cells)∧l.length≤L.st.2
theorem oH.le{L:dM}{l:List cY}(p q:Piece)(hl:p.Le q)(h:oH L l p):oH L l q:=⟨h.1.le hl,h.2⟩
def fN(g h f:Nat)(L:dM)(s:aC)(z:aV):HP:=HP.many [HP.aE g 123 (lA h f L s z),HP.bY (mW L s) (mW.le (L:=L) (s:=s)),HP.bY (vA L z.wn) (vA.le (L:=L) (x:=z.wn)),tK L.gc L.gm (.slice L.nd.1 (cZ s).length L.nd.2) z.cn,HP.bY (Pe L s) (Pe.le (L:=L) (s:=s)),HP.bY (oH L z.steps) (oH.le (L:=L) (l:=z.steps))]
def gE(g h f:Nat)(s:aC)(z:aV):HP:=HP.ex fun L:dM=>fN g h f L s z
structure Oz(w:World)(g h f:Nat)(L:dM)(s:aC)(z:aV):Prop where
 r0:eG w g 0 (lA h f L s z)
 so:mW L s (all w)
 wn:vA L z.wn (all w)
 cn:eG w L.gc 0 [.slice L.nd.1 (cZ s).length L.nd.2,.map (some L.gm),.bool z.cn.iA]
 nd:Pe L s (all w)
 sp:oH L z.steps (all w)
theorem Oz.below{w w':World}{g h f:Nat}{L:dM}{s:aC}{z:aV}(k:Oz w g h f L s z)(hb:Below w.heap.size w w'):Oz w' g h f L s z:=
 ⟨k.r0.below hb,k.so.le _ _ (jS hb),k.wn.le _ _ (jS hb),k.cn.below hb,k.nd.le _ _ (jS hb),k.sp.le _ _ (jS hb)⟩
theorem aKp{g h f:Nat}{L:dM}{s:aC}{z:aV}{F:Nat→Prop}{w:World}(k:(fN g h f L s z).sat F w)(hF:∀b,F b→b < w.heap.size):Oz w g h f L s z:=by
 obtain⟨G,g1,g2,_⟩:=k
 have hl:∀i,(⟨w,G i⟩:Piece).Le (all w):=fun i b hb=>⟨hF b (g2 i b hb),rfl⟩
 obtain⟨G',k1,_,_⟩:=g1 3 _ rfl;exact⟨wD (g1 0 _ rfl).2,mW.le _ _ (hl 1) (g1 1 _ rfl),vA.le _ _ (hl 2) (g1 2 _ rfl),wD (k1 0 _ rfl).2,Pe.le _ _ (hl 4) (g1 4 _ rfl),oH.le _ _ (hl 5) (g1 5 _ rfl)⟩
theorem St.aCQ{w0 w:World}{R:List Piece}{H:List HP}{g h f:Nat}{L:dM}{s:aC}{z:aV}(t:St w0 R H w)(i:Nat)(hi:H[i]? =some (fN g h f L s z)):Oz w g h f L s z:=by
 obtain⟨F,h1,h2,_⟩:=t.chunk hi;exact aKp h1 h2
theorem aA9(t:Int)(w:World):Cz 44 #[iv t] w (Rt (.bool (bO 3 t)) w):=by
 refine aN func44 ntmps44 ?_;refine aA ?_;refine bX (t:=5) rfl (fun h=>?_) (fun h=>?_)
 ·refine aA ?_;refine jT (by simp) ?_;unfold bO
  congr 1
  simp;omega
 ·refine aA ?_;refine jT (by simp) ?_
  have:bO 3 t=false:=decide_eq_false (by omega)
  rw[this]
theorem Qz{t:Int}(h:bO 3 t=true):∃j:Nat,t=(j:Int)∧(j=0∨j=1∨j=2):=by
 have:=of_decide_eq_true h
 exact⟨t.toNat,by omega,by omega⟩
section
variable(g h f:Nat)(L:dM)(s:aC)(z:aV)(w:World)
theorem aGB(d:Int)(hR:Oz w g h f L s z):Cz 67 #[pt g,iv d] w (Rt (.bool (bO s.aD.length d)) w):=by
 have k5:=hR.r0.at_ (j:=5) rfl
 refine aN func67 ntmps67 ?_;refine aA ?_;refine bX (t:=7) rfl (fun h=>?_) (fun h=>?_)
 ·refine aA ?_;refine jT (by simp) ?_;unfold bO
  congr 1
  simp;omega
 ·refine aA ?_;refine jT (by simp) ?_
  have:bO s.aD.length d=false:=decide_eq_false (by omega)
  rw[this]
end
end
section
section
variable{N:cF}{w0:World}{e:Env}{R:List Piece}{H:List HP}{Q:Exit→Act→World→Prop}{ops:Array Oper}{rest:List Oper}{pos:String}{ty:TypeId}{aH:Array Edge}
theorem Qv(i:Nat){x y:Operand}{s t:TypeId}{g o:Nat}{cs vs:List Value}(hi:H[i]? =some (HP.aE g t cs))(k:XK N w0 (wpList Tryz.prog ops Q rest) e R (H.set i (HP.aE g t (iI cs o vs))))(hx:e.ev x=some (.pointer (some ⟨g,o,none⟩)):=by rfl)(hy:e.ev y=some (.agg vs.toArray):=by rfl)(hs:(Tryz.prog.info? s).any (·.size==vs.length)=true:=by kernel_rfl)(h1:vs.all Value.oneCell'=true:=by rfl)(hl:decide (o+vs.length≤cs.length)=true:=by rfl):
  XK N w0 (wpList Tryz.prog ops Q (⟨none,.store s x y,ty,pos,aH,none⟩::rest)) e R H:=
 rO i hi hx hy hs (fun u hu=>List.all_eq_true.1 h1 u (by simpa[Value.cells] using hu)) (by simpa[Value.cells] using of_decide_eq_true hl) (by simpa[Value.cells] using k)
end
section
variable{P:Program}{N:cF}{w0 w:World}{e:Env}{R:List Piece}{H:List HP}{p:HP}{Q:Exit→Act→World→Prop}
theorem St.cR(st:St w0 R (p::H) w):St w0 R (cH::H) w:=st.xZ (i:=0) (p:=p) rfl (Nat.le_refl _) rfl rfl rfl fun F _ hlt=>⟨F,trivial,fun b hb=>⟨.inl hb,hlt b hb⟩,fun _ _ _=>rfl⟩
theorem Om(Z:List Nat){id:Nat}{l:List Oper}(h:XB P N w0 l.toArray Q R (cH::H) Z l.length (Array.replicate l.length false) e R (p::H))(hm:P.follows .mixedOrders=true:=by kernel_rfl)(hc:Region.noSelect l.toArray=true:=by kernel_rfl):XK N w0 ((Code.region id l.toArray true).wp P Q) e R (p::H):=fun a w hr st=>by
 have:=h ⟨Down.start _ _,hc⟩ a w.drew hr st.drew
 refine wp_region_any hm (aC2 (S:=St w0 R (cH::H)) (Z:=Z) _ _ _ _ ?_)
 simpa using this
end
def Nv(k:Int):Value:=if k=103 then .iface 237 (.agg #[]) else if k=112 then .iface 238 (.agg #[]) else if k=114 then .iface 240 (.agg #[.bool false]) else if k=119 then .iface 240 (.agg #[.bool true]) else if k=115 then .iface 241 (.agg #[]) else if k=109 then .iface 242 (.agg #[]) else .nilIface
def sZ(k:Int):Prop:=k=103∨k=112∨k=114∨k=119∨k=115∨k=109
instance(k:Int):Decidable (sZ k):=by unfold sZ;infer_instance
theorem aAA(k:Int)(w:World):Cz 45 #[.int .u8 k] w (Rt (Nv k) w):=by
 unfold Nv;refine aN func45 ntmps45 ?_;refine aA ?_;refine aG rfl (fun h0=>?_) (fun h0=>?_)
 ·rw[if_pos h0];refine aB ?_;refine kd (Sk rfl) ?_;refine aA ?_;exact dG
 rw[if_neg h0];refine aA ?_;refine aG rfl (fun h1=>?_) (fun h1=>?_)
 ·rw[if_pos h1];refine aB ?_;refine kd (Sk rfl) ?_;refine aA ?_;exact dG
 rw[if_neg h1];refine aA ?_;refine aG rfl (fun h2=>?_) (fun h2=>?_)
 ·rw[if_pos h2];refine aB ?_;refine kd (Sk rfl) ?_;refine aA ?_;exact dG
 rw[if_neg h2];refine aA ?_;refine aG rfl (fun h3=>?_) (fun h3=>?_)
 ·rw[if_pos h3];refine aB ?_;refine kd (Sk rfl) ?_;refine aA ?_;exact dG
 rw[if_neg h3];refine aA ?_;refine aG rfl (fun h4=>?_) (fun h4=>?_)
 ·rw[if_pos h4];refine aB ?_;refine kd (Sk rfl) ?_;refine aA ?_;exact dG
 rw[if_neg h4];refine aA ?_;refine aG rfl (fun h5=>?_) (fun h5=>?_)
 ·rw[if_pos h5];refine aB ?_;refine kd (Sk rfl) ?_;refine aA ?_;exact dG
 rw[if_neg h5];refine aA ?_;exact dG
theorem aRl{k:Int}(h:¬sZ k):Nv k=.nilIface:=by
 unfold sZ at h;unfold Nv;rw[if_neg (by omega),if_neg (by omega),if_neg (by omega),if_neg (by omega),if_neg (by omega),if_neg (by omega)]
theorem aRk{k:Int}(h:sZ k):∃u y,Nv k=.iface u y:=by
 rcases h with rfl | rfl | rfl | rfl | rfl | rfl<;>exact⟨_,_,rfl⟩
def vN(z:aV)(t kind dev bT val:Int):Int×aV:=if bO 3 t=false then(4,z) else if(z.tk t.toNat).st≠0 then(7,z) else if ¬sZ kind then(1,z) else(0,z.jP t.toNat {z.tk t.toNat with st:=1,kind:=kind,dev:=dev,bT:=bT,val:=val})
section
variable(g h f:Nat)(s:aC)(z:aV)(w:World)(F:Nat→Prop)
theorem aG9(t kind dev bT val:Int)(hp:(gE g h f s z).sat F w)(hF:∀b,F b→b < w.heap.size):
  Cz 17 #[pt g,iv t,.agg #[.int .u8 kind,iv dev,iv bT,.int .u32 val]] w (Wr (iv (vN z t kind dev bT val).1) (gE g h f s (vN z t kind dev bT val).2) w F):=by
 unfold vN;refine dK func17 ntmps17 hp hF ?_;refine aA ?_;refine bA fun g1=>?_;refine aA ?_;refine aU (fun w1 _=>aA9 t w1) ?_;cases hin:bO 3 t
 ·refine aA ?_;exact cI 1 hF
 ·rw [if_neg (by simp)];obtain⟨j,rfl,hj⟩:=Qz hin;rw[Int.toNat_natCast];refine lY 1 fun L=>?_;refine bF 1 0 ?_
  by_cases hst:(z.tk j).st=0
  ·rw[if_neg (by simpa using hst)]
   by_cases hk:sZ kind
   ·rw[if_neg (by simpa using hk)];obtain⟨u,y,hy⟩:=aRk hk;obtain⟨z',hz⟩:∃z',z'=z.jP j {z.tk j with st:=1,kind:=kind,dev:=dev,bT:=bT,val:=val}:=⟨_,rfl⟩
    rw[←hz];rcases hj with rfl | rfl | rfl
    all_goals
     refine aA ?_;refine kd (gN _ _ (ho:=rfl)) ?_;refine aA ?_;refine aG rfl (fun h1=>absurd hst h1) (fun _=>?_);refine aA ?_;refine aU (fun w1 _=>aAA kind w1) ?_;rw[hy];refine aA ?_;refine kd (aJe rfl (.inr ⟨⟨_,_,rfl⟩,rfl⟩)) ?_;refine aA ?_;refine kd (gN _ _ (ho:=rfl)) ?_;refine aA ?_;refine Om [2] ?_;refine bP 0 ?_ (hsub:=fun _ h=>h.cR);refine bP 1 ?_ (hsub:=fun _ h=>h.cR);refine aJ 2 ?_ (hsub:=fun _ h=>h.cR);refine aO 3 ?_;refine bH ?_;refine bM ?_ (hS:=fun _ h=>h.cR);refine aO 4 ?_;refine bH ?_;refine bM ?_ (hS:=fun _ h=>h.cR);refine aO 5 ?_;refine fG rfl rfl ?_ (hs:=fB.mk 0 rfl cK.h rfl (of_decide_eq_true rfl));dsimp only[List.set];refine bM ?_ (hS:=fun _ h=>h.cR);refine aO 6 ?_;refine bH ?_;refine bM ?_ (hS:=fun _ h=>h.cR);refine aO 7 ?_;refine bH ?_;refine bM ?_ (hS:=fun _ h=>h.cR);refine aO 8 ?_;refine Qv 0 rfl ?_;dsimp only[List.set];refine bM ?_ (hS:=fun _ h=>h.cR);refine fJ ?_;refine aA ?_;refine aP 1 0 ?_;refine xL 1 (f:=fun L:dM=>fN g h f L s z') L (by subst hz;rfl) ?_;dsimp only[List.set];exact cI 1 hF
   ·rw[if_pos (by simpa using hk)];rcases hj with rfl | rfl | rfl
    all_goals
     refine aA ?_;refine kd (gN _ _ (ho:=rfl)) ?_;refine aA ?_;refine aG rfl (fun h1=>absurd hst h1) (fun _=>?_);refine aA ?_;refine aU (fun w1 _=>aAA kind w1) ?_;rw[aRl hk];refine aA ?_;refine kd (aJe rfl (.inl ⟨rfl,rfl⟩)) ?_;refine aA ?_;refine aP 1 0 ?_;refine fC 1 (fun L:dM=>fN g h f L s z) L ?_;exact cI 1 hF
  ·rw[if_pos hst];rcases hj with rfl | rfl | rfl
   all_goals
    refine aA ?_;refine kd (gN _ _ (ho:=rfl)) ?_;refine aA ?_;refine aG rfl (fun _=>?_) (fun h1=>absurd (Decidable.not_not.1 h1) hst);refine aA ?_;refine aP 1 0 ?_;refine fC 1 (fun L:dM=>fN g h f L s z) L ?_;exact cI 1 hF
end
end
section
section
variable{N:cF}{w0:World}{e:Env}{R:List Piece}{H:List HP}{K:Act→World→Prop}
theorem aAf(i:Nat){b o:Nat}{t:TypeId}{cs vs:List Value}(hi:H[i]? =some (HP.aE b t cs))(hv:(cs.drop o).take vs.length=vs):aR w0 R H b o vs:=aR.aE i hi fun j v hj=>by
 rw[←hv,List.getElem?_take] at hj;split at hj
 ·rw[List.getElem?_drop] at hj;exact hj
 ·cases hj
theorem aT3(j i:Nat){ps:List HP}{p q:HP}(hj:H[j]? =some (HP.many ps))(hi:ps[i]? =some p)(hq:∀F w,p.sat F w→q.sat F w)(k:XK N w0 K e R (H.set j (HP.many (ps.set i q)))):XK N w0 K e R H:=by
 have hlt:=(List.getElem?_eq_some_iff.1 hj).1
 have Kb:=(List.getElem?_eq_some_iff.1 hi).1
 refine tG j i hj hi ?_;refine Bq 0 rfl hq ?_;refine tH j i (by rw[List.getElem?_set_self hlt]) (by rw[List.getElem?_set_self Kb]) ?_;rw[List.set_set,List.set_set];exact k
end
def kD(z:aV)(j:Nat)(err res:Int):aV:={z.jP j {z.tk j with st:=3,err:=err,res:=res} with eX:= -1,steps:=[],sent:=false,aQ:=false}
def nG(z:aV)(t:Int):(Int×Int×Bool)×aV:=if bO 3 t=false then((0,0,false),z) else if(z.tk t.toNat).st≠3 then((0,0,false),z) else(((z.tk t.toNat).err,(z.tk t.toNat).res,true),z.jP t.toNat {z.tk t.toNat with st:=0,kind:=0,dev:=0,bT:=0,val:=0,err:=0,res:=0})
section
variable(g h f:Nat)(s:aC)(z:aV)(w:World)(F:Nat→Prop)
theorem Jg(j:Nat)(eX:z.eX=(j:Int))(hj:j=0∨j=1∨j=2)(err res:Int)(hp:(gE g h f s z).sat F w)(hF:∀b,F b→b < w.heap.size):
  Cz 53 #[pt g,.agg #[iv err,.int .u32 res]] w (Wr (.tuple #[]) (gE g h f s (kD z j err res)) w F):=by
 refine dK func53 ntmps53 hp hF ?_;obtain⟨z',hz⟩:∃z',z'=kD z j err res:=⟨_,rfl⟩
 rw[←hz];refine lY 0 fun L=>?_;refine bF 0 0 ?_;rcases hj with rfl | rfl | rfl
 all_goals
  refine aA ?_;refine bA fun g1=>?_;refine aY [1,0,2] rfl (by decide) (fun _ h=>h) ?_;refine aA ?_;refine mK ?_;refine jB ?_;refine xK (gN _ _ (hj:=eX) (ho:=rfl)) ?_;refine jC ?_;refine aA ?_;refine Om [2] ?_;refine bP 0 ?_ (hsub:=fun _ h=>h.cR);refine bP 1 ?_ (hsub:=fun _ h=>h.cR);refine aJ 2 ?_ (hsub:=fun _ h=>h.cR);refine aO 3 ?_;refine bH ?_;refine bM ?_ (hS:=fun _ h=>h.cR);refine aO 4 ?_;refine bH ?_;refine bM ?_ (hS:=fun _ h=>h.cR);refine aO 5 ?_;refine fG rfl rfl ?_ (hs:=fB.mk 0 rfl cK.h rfl (of_decide_eq_true rfl));dsimp only[List.set];refine bM ?_ (hS:=fun _ h=>h.cR);refine aO 6 ?_;refine bH ?_;refine bM ?_ (hS:=fun _ h=>h.cR);refine aO 7 ?_;refine bH ?_;refine bM ?_ (hS:=fun _ h=>h.cR);refine aO 8 ?_;refine Qv 0 rfl ?_;dsimp only[List.set];refine bM ?_ (hS:=fun _ h=>h.cR);refine fJ ?_;refine aA ?_;refine fG rfl rfl ?_ (hs:=fB.mk 0 rfl cK.h rfl (of_decide_eq_true rfl));dsimp only[List.set];refine aA ?_;refine fG rfl rfl ?_ (hs:=fB.mk 0 rfl cK.h rfl (of_decide_eq_true rfl));dsimp only[List.set];refine aA ?_;refine fG rfl rfl ?_ (hs:=fB.mk 0 rfl cK.h rfl (of_decide_eq_true rfl));dsimp only[List.set];refine aA ?_;refine fG rfl rfl ?_ (hs:=fB.mk 0 rfl cK.h rfl (of_decide_eq_true rfl));dsimp only[List.set];refine aA ?_;refine aP 1 0 ?_;refine aT3 (q:=HP.bY (oH {L with st:=(none,0)} []) (oH.le (L:={L with st:=(none,0)}) (l:=[]))) 1 5 rfl rfl (fun F w _=>⟨aI.nil _ _,Nat.le_refl _⟩) ?_;dsimp only[List.set];refine xL 1 (f:=fun L:dM=>fN g h f L s z') {L with st:=(none,0)} (by subst hz;rfl) ?_;dsimp only[List.set];exact jZ 1 hF
theorem aGA(t:Int)(hp:(gE g h f s z).sat F w)(hF:∀b,F b→b < w.heap.size):
  Cz 23 #[pt g,iv t] w (Wr (.tuple #[.agg #[iv (nG z t).1.1,.int .u32 (nG z t).1.2.1],.bool (nG z t).1.2.2]) (gE g h f s (nG z t).2) w F):=by
 unfold nG;refine dK func23 ntmps23 hp hF ?_;refine aA ?_;refine bU fun g1=>?_;refine aA ?_;refine aU (fun w1 _=>aA9 t w1) ?_;cases hin:bO 3 t
 ·refine aA ?_;refine kd (gA rfl) ?_;refine aA ?_;exact xM (vs:=[iv 0,.int .u32 0]) rfl (by kernel_rfl) rfl rfl (aR.whole 0 rfl) rfl fun w1 t=>⟨rfl,t.turns hF (by simp) (i:=1) rfl⟩
 ·rw[if_neg (by simp)];obtain⟨j,rfl,hj⟩:=Qz hin;rw[Int.toNat_natCast];refine lY 1 fun L=>?_;refine bF 1 0 ?_
  by_cases hst:(z.tk j).st=3
  ·rw[if_neg (by simpa using hst)];obtain⟨z',hz⟩:∃z',z'=z.jP j {z.tk j with st:=0,kind:=0,dev:=0,bT:=0,val:=0,err:=0,res:=0}:=⟨_,rfl⟩
   rw[←hz];rcases hj with rfl | rfl | rfl
   all_goals
    refine aA ?_;refine kd (gN _ _ (ho:=rfl)) ?_;refine aA ?_;refine aG rfl (fun h1=>absurd hst h1) (fun _=>?_);refine aA ?_;refine kd (gN _ _ (ho:=rfl)) ?_;refine aA ?_;refine kd (oZ rfl (aAf (vs:=[_,_]) 0 rfl rfl)) ?_;refine bU fun g2=>?_;refine aA ?_;refine kd (gA rfl) ?_;refine kd (gA rfl) ?_;refine aA ?_;refine fG rfl rfl ?_ (hs:=fB.mk 1 rfl cK.h rfl (of_decide_eq_true rfl));dsimp only[List.set];refine aA ?_;refine Qv 1 rfl ?_;dsimp only[List.set];refine aA ?_;refine Qv 1 rfl ?_;dsimp only[List.set];refine aA ?_;refine aY [1,0,2,3] rfl (by decide) (fun _ h=>h) ?_;refine aP 2 0 ?_;refine xL 2 (f:=fun L:dM=>fN g h f L s z') L (by subst hz;rfl) ?_;dsimp only[List.set];exact xM (vs:=[_,_]) rfl (by kernel_rfl) rfl rfl (aR.whole 1 rfl) rfl fun w1 t=>⟨rfl,t.turns hF (by simp) (i:=2) rfl⟩
  ·rw[if_pos hst];rcases hj with rfl | rfl | rfl
   all_goals
    refine aA ?_;refine kd (gN _ _ (ho:=rfl)) ?_;refine aA ?_;refine aG rfl (fun _=>?_) (fun h1=>absurd (Decidable.not_not.1 h1) hst);refine aA ?_;refine kd (gA rfl) ?_;refine aA ?_;refine aP 1 0 ?_;refine fC 1 (fun L:dM=>fN g h f L s z) L ?_;exact xM (vs:=[iv 0,.int .u32 0]) rfl (by kernel_rfl) rfl rfl (aR.whole 0 rfl) rfl fun w1 t=>⟨rfl,t.turns hF (by simp) (i:=1) rfl⟩
end
end
section
def La(ks:List Int)(v:Int):List Int:=if ks.contains v then ks else ks++[v]
def Lx(g:List (List Int))(ks:List Int)(i:Nat):List Int:=if ks.contains (i:Int) then(g.getD i []).foldl La ks else ks
def Mi(g:List (List Int))(v:Int)(n:Nat):Nat→List Int
 | 0=>[v]
 | k+1=>Lx g (Mi g v n k) (n - 1 - k)
def uP(ks:List Int)(v:Int)(n:Nat):List Nat:=(List.range n).filter fun u:Nat=>decide (¬(u:Int)=v)&&ks.contains (u:Int)
def Bp(g:List (List Int))(v:Int)(n:Nat):List Nat:=uP (Mi g v n n) v n
theorem aHq(ks:List Int)(v:Int)(n:Nat):(uP ks v n).length≤n:=Nat.le_trans (List.length_filter_le _ _) (by simp)
theorem aNL(ks:List Int)(v:Int)(n:Nat):uP ks v (n+1)=if(decide (¬(n:Int)=v)&&ks.contains (n:Int))=true then uP ks v n++[n] else uP ks v n:=by
 unfold uP;rw[List.range_succ,List.filter_append];simp only[List.filter_cons,List.filter_nil];split<;>simp
theorem aNN(A:Option Addr)(n c:Nat)(g:List (List Int))(v:Int)(w:World)(hg:mX (all w) A n g)(hn:n=g.length)(hn2:n≤100)(hlen:∀l∈g,(l.length:Int)≤9223372036854775806)(hv:0≤v∧v < n)(ho:fS g=(0,List.range n)):
  Cz 141 #[.slice A n c,iv v] w (fun y w'=>(∃x,y=.returned x∧Tw g x w w')∧Below w.heap.size w w'):=by
 refine aN func141 ntmps141 ?_;refine aA ?_;refine jQ [] (Tw g) (fun w1 st=>(aAK A n c g w1 (hg.le (st.le (by simp))) hn (by omega) hlen).mono fun y w' h=>h.aDf) ?_;rintro _ w1 q ⟨A',m,c',rfl,hm,hs⟩ hf _ hfr
 have hs:=hs.le hf
 rw[ho] at hs hm;rw[ho];dsimp only at hs hm⊢;refine aA ?_;refine bX (t:=18) rfl (fun h=>absurd h (by omega)) (fun _=>?_);refine aA ?_;refine aG rfl (fun h=>absurd h (by omega)) (fun _=>?_);refine aA ?_;exact eL rfl rfl rfl fun w1 t=>⟨⟨_,rfl,A',m,c',by rw[ho];rfl,by rw[ho];exact hm,by rw[ho];exact hs.le (t.mH (by simp) (hfr (by simp)))⟩,t.below (by simp)⟩
theorem aNK(q:Piece)(r:Nat)(ks:List Int)(A:Option Addr)(n c:Nat)(v:Int)(w:World)(hn2:n≤100)(hm:xQ w r (mG ks))(hq:q.Le (all w))(hs:aI q 1 A n (aK (dL (List.range n)))):
  Cz 144 #[.slice A n c,.map (some r),iv v] w (Tr (Iy (uP ks v n)) w):=by
 refine aN func144 ntmps144 ?_;refine Br q (by simp) hq ?_;refine aA ?_;refine iP 3 1 ?_;refine bK [(12,iv 0),(11,iv n),(10,.slice A n c),(7,sn),(1,.map (some r)),(2,iv v)] ?_;refine eJ (fun m e R H=>∃(i:Nat) (B:Option Addr) (k:Nat),i≤n∧m=n - i∧e=[(12,iv i),(11,iv n),(10,.slice A n c),(7,.slice B (uP ks v i).length k),(1,.map (some r)),(2,iv v)]∧R=[q,all w]∧H=[HP.own 3 1 (.slice B (uP ks v i).length k) (uP ks v i).length (aK (dL (uP ks v i)))]) n ⟨0,none,0,by omega,rfl,rfl,rfl,rfl⟩ fun m e R H hI=>?_;obtain⟨i,B,k,hi,rfl,rfl,rfl,rfl⟩:=hI
 have pQ:=aHq ks v i
 have dS:=aNL ks v i
 generalize hl:uP ks v i=l at pQ dS⊢;refine aA ?_;refine aG rfl (fun hlt=>?_) (fun hge=>?_)
 ·have hlt:i < n:=by omega
  obtain⟨b,off,hA,hz,hc⟩:=hs.2 (by omega)
  have sD:=hc i (iv (i:Int)) (by simp[aK,dL,hlt])
  refine aA ?_;refine kd (dat i (off+i) (hx:=by rw[←hA];rfl)) ?_;refine aA ?_;refine kd (bN rfl (Rd.ro (p:=q) (by simp) hz sD)) ?_;refine aA ?_;refine bX (t:=19) rfl (fun hv=>?_) (fun hv=>?_)
  ·refine aA ?_;refine aU (fun w1 t=>aAR r i ks w1 (hm.below (t.below (by simp)))) ?_;rw[decide_eq_true hv,Bool.true_and] at dS;cases hk:ks.contains (i:Int)
   ·rw[hk,if_neg (by simp)] at dS;refine aA ?_;refine bK [(12,iv (i+1:Nat)),(11,iv n),(10,.slice A n c),(7,.slice B l.length k),(1,.map (some r)),(2,iv v)] ?_;exact iC (n - (i+1)) (by omega) ⟨i+1,B,k,hlt,rfl,by rw[dS],rfl,by rw[dS]⟩
   ·rw[hk,if_pos rfl] at dS;refine aA ?_;refine eH fun g4=>?_;refine gH 1 1 8 1 (n':=l.length+1) (el:=3) (by kernel_rfl) (by kernel_rfl) (by decide) rfl rfl rfl (nL 0 rfl rfl) (by simp[Value.oneCell']) rfl (by omega) (by omega) (by decide) fun An cn=>?_;dsimp only[List.set];refine aA ?_;refine aY [1] rfl (by decide) (fun _ h=>h) ?_;refine bK [(12,iv (i+1:Nat)),(11,iv n),(10,.slice A n c),(7,.slice An (l.length+1) cn),(1,.map (some r)),(2,iv v)] ?_;exact iC (n - (i+1)) (by omega) ⟨i+1,An,cn,hlt,rfl,by rw[dS];simp,rfl,by rw[dS];simp[aK,dL]⟩
  ·rw[decide_eq_false hv,Bool.false_and,if_neg (by simp)] at dS;refine aA ?_;refine bK [(12,iv (i+1:Nat)),(11,iv n),(10,.slice A n c),(7,.slice B l.length k),(1,.map (some r)),(2,iv v)] ?_;exact iC (n - (i+1)) (by omega) ⟨i+1,B,k,hlt,rfl,by rw[dS],rfl,by rw[dS]⟩
 ·obtain rfl:i=n:=by omega
  subst hl;refine aA ?_;refine dO [] [0] [] (by simp) rfl (by decide) (by decide) fun q2 uX _ hfr=>?_
  have h2:aI q2 1 B (uP ks v i).length (aK (dL (uP ks v i))):=aI.own (uX 0 _ (by simp) rfl)
  exact aS (h:=fun w1 t=>⟨_,rfl,B,k,rfl,h2.le (t.mH (by simp) (hfr (by simp) (by simp)))⟩)
theorem aQ7(q0:Piece)(A:Option Addr)(n c:Nat)(g:List (List Int))(v:Nat)(w:World)(Jy:q0.Le (all w))(hg:mX q0 A n g)(hn:n=g.length)(hn2:n≤100)(hlen:∀l∈g,(l.length:Int)≤1000)(hv:v < n)(ho:fS g=(0,List.range n)):
  Cz 65 #[.slice A n c,iv (v:Int)] w (Tr (fun x w w'=>∃A' c',x=.tuple #[.slice A' (Bp g v n).length c',iv 0]∧aI (fresh w w') 1 A' (Bp g v n).length (aK (dL (Bp g v n)))) w):=by
 refine aN func65 ntmps65 ?_;refine Br q0 (by simp) Jy ?_;refine aA ?_;refine jQ [] (Tw g) (fun w1 st=>aNN A n c g v w1 (hg.le (st.le (by simp))) hn hn2 (fun l hl=>by have:=hlen l hl;omega) (by omega) ho) ?_;rintro _ w1 q ⟨A',m,c',rfl,hm,hs⟩ hf _ _
 have hs:=hs.le hf
 rw[ho] at hs hm;rw[ho];dsimp only at hs hm⊢;obtain rfl:m=n:=by simpa using hm
 refine aA ?_;refine aAn (by decide) fun r=>?_;refine aA ?_;refine dZ 0 (HP.map r (mG [(v:Int)])) (fun w1 F1 t h1 h2 h3=>aAS r v [] w1 F1 h1 h2) ?_;refine aA ?_;refine aY [0] rfl (by decide) (R':=[q,q0,all w]) (by simp) ?_;refine bK [(9,iv ((m:Int) - 1)),(6,.slice A' m c'),(8,.map (some r)),(0,.slice A m c),(1,iv (v:Int))] ?_;refine eJ (fun k e R H=>k≤m∧e=[(9,iv ((k:Int) - 1)),(6,.slice A' m c'),(8,.map (some r)),(0,.slice A m c),(1,iv (v:Int))]∧R=[q,q0,all w]∧H=[HP.map r (mG (Mi g v m (m - k)))]) m ⟨Nat.le_refl _,rfl,rfl,by rw[Nat.sub_self];rfl⟩ fun k e R H hI=>?_;obtain⟨hk,rfl,rfl,rfl⟩:=hI;refine aA ?_;refine aG rfl (fun hge=>?_) (fun hlt=>?_)
 ·obtain⟨k,rfl⟩:∃j,k=j+1:=⟨k - 1,by omega⟩
  have hkm:k < m:=by omega
  obtain⟨row,hrow⟩:=get_some (l:=g) (i:=k) (by omega)
  have dS:Mi g v m (m - k)=Lx g (Mi g v m (m - (k+1))) k:=by
   rw[show m - k=(m - (k+1))+1 by omega]
   show Lx g _ (m - 1 - (m - (k+1)))=_
   rw[show m - 1 - (m - (k+1))=k by omega]
  generalize hks:Mi g v m (m - (k+1))=ks at dS⊢;obtain⟨b,off,sE,hz,hc⟩:=hs.2 (by omega)
  have yT:=hc k (iv (k:Int)) (by simp[aK,dL,hkm])
  obtain⟨gb,aQs,gr,hA,hgz,kL,⟨RA,rn,rk,rfl,Wi,Mu⟩,Ww⟩:=jN.aGI hg hrow
  have hrl:=hlen row (List.mem_of_getElem? hrow)
  have hrd:=Ww 0 _ rfl
  subst Wi;refine aA ?_;refine kd (dat k (off+k) (hx:=by rw[←sE];rfl)) ?_;refine kd (bN rfl (Rd.ro (p:=q) (by simp) hz yT)) ?_;refine aU (fun w1 t=>aAR r k ks w1 (t.map (i:=0) rfl)) ?_;cases hkc:ks.contains (k:Int)
  ·have h2:Lx g ks k=ks:=by unfold Lx;rw[hkc];rfl
   rw[h2] at dS;refine aA ?_;refine bK [(9,iv (((k+1:Nat):Int) - 1 - 1)),(6,.slice A' m c'),(8,.map (some r)),(0,.slice A m c),(1,iv (v:Int))] ?_;exact iC k (by omega) ⟨by omega,by rw[show(((k+1:Nat):Int) - 1 - 1)=(k:Int) - 1 by omega],rfl,by rw[dS]⟩
  ·have h2:Lx g ks k=row.foldl La ks:=by
    unfold Lx;rw[hkc,if_pos rfl,List.getD_eq_getElem?_getD,hrow];rfl
   rw[h2] at dS;refine aA ?_;refine kd (dat k (off+k) (hx:=by rw[←sE];rfl)) ?_;refine kd (bN rfl (Rd.ro (p:=q) (by simp) hz yT)) ?_;refine kd (dat k (aQs+k*1) (hx:=by rw[←hA];rfl)) ?_;refine kd (bN rfl (Rd.ro (p:=q0) (by simp) hgz hrd)) ?_;refine aA ?_;refine bK [(47,iv 0),(46,iv row.length),(45,.slice RA row.length rk),(9,iv (((k+1:Nat):Int) - 1)),(6,.slice A' m c'),(8,.map (some r)),(0,.slice A m c),(1,iv (v:Int))] ?_;refine eJ (fun u e R H=>∃i:Nat,i≤row.length∧u=row.length - i∧e=[(47,iv i),(46,iv row.length),(45,.slice RA row.length rk),(9,iv (((k+1:Nat):Int) - 1)),(6,.slice A' m c'),(8,.map (some r)),(0,.slice A m c),(1,iv (v:Int))]∧R=[q,q0,all w]∧H=[HP.map r (mG ((row.take i).foldl La ks))]) row.length ⟨0,by omega,rfl,rfl,rfl,rfl⟩ fun u e R H hI=>?_;obtain⟨i,hi,rfl,rfl,rfl,rfl⟩:=hI;refine aA ?_;refine aG rfl (fun vZ=>?_) (fun aPB=>?_)
   ·have vZ:i < row.length:=by omega
    obtain⟨y,hy⟩:=get_some vZ;obtain⟨rb,aMC,hRA,hrz,hrc⟩:=(show aI q0 1 RA row.length (aK row) from Mu).2 (by omega)
    have Kg:=hrc i (iv y) (by simp[aK,hy])
    have fX:(row.take (i+1)).foldl La ks=La ((row.take i).foldl La ks) y:=by
     rw[List.take_add_one,hy,List.foldl_append];rfl
    generalize hk2:(row.take i).foldl La ks=ks2 at fX⊢;refine aA ?_;refine kd (dat i (aMC+i) (hx:=by rw[←hRA];rfl)) ?_;refine aA ?_;refine kd (bN rfl (Rd.ro (p:=q0) (by simp) hrz Kg)) ?_;refine aA ?_;refine dZ 0 (HP.map r (mG (La ks2 y))) (fun w1 F1 t h1 h2 h3=>aAS r y ks2 w1 F1 h1 h2) ?_;refine aA ?_;refine bK [(47,iv (i+1:Nat)),(46,iv row.length),(45,.slice RA row.length rk),(9,iv (((k+1:Nat):Int) - 1)),(6,.slice A' m c'),(8,.map (some r)),(0,.slice A m c),(1,iv (v:Int))] ?_;exact iC (row.length - (i+1)) (by omega) ⟨i+1,vZ,rfl,rfl,rfl,by rw[fX]⟩
   ·obtain rfl:i=row.length:=by omega
    rw[List.take_length,←dS];refine aA ?_;refine bK [(9,iv (((k+1:Nat):Int) - 1 - 1)),(6,.slice A' m c'),(8,.map (some r)),(0,.slice A m c),(1,iv (v:Int))] ?_;exact iC k (by omega) ⟨by omega,by rw[show(((k+1:Nat):Int) - 1 - 1)=(k:Int) - 1 by omega],rfl,rfl⟩
 ·obtain rfl:k=0:=by omega
  rw[Nat.sub_zero];refine aA ?_;refine jQ [] (Iy (Bp g v m)) (fun w1 t=>aNK q r _ A' m c' v w1 hn2 (t.map (i:=0) rfl) (t.le (by simp)) hs) ?_;rintro _ w1 q2 ⟨B,kb,rfl,hb⟩ nR _ hfr;refine aA ?_;exact eL rfl rfl rfl fun w1 t=>⟨⟨_,rfl,B,kb,rfl,(hb.le nR).le (t.mH (by simp) (hfr (by simp)))⟩,t.below (by simp)⟩
end
section
def tZ(g:List (List Int))(c:Cn)(n:Nat):Nat→List Bool
 | 0=>List.replicate n false
 | i+1=>if fE c.l (i:Int)≤0 then tZ g c n i else(Bp g (i:Int) n).foldl (fun l u=>l.set u true) ((tZ g c n i).set i true)
def Lb(g:List (List Int))(n:Nat)(c:Cn):List Bool:=if c.iA then List.replicate n false else tZ g c n n
theorem aCM:∀(us:List Nat) (l:List Bool),(us.foldl (fun l u=>l.set u true) l).length=l.length
 | [],l=>rfl
 | u::us,l=>by
  rw[List.foldl_cons,aCM us];simp
theorem Zg(g:List (List Int))(c:Cn)(n:Nat):∀i,(tZ g c n i).length=n
 | 0=>by simp[tZ]
 | i + 1 => by
  unfold tZ;split
  ·exact Zg g c n i
  ·rw[aCM,List.length_set];exact Zg g c n i
theorem aT0(g:List (List Int))(n:Nat)(c:Cn):(Lb g n c).length=n:=by
 unfold Lb;split
 ·simp
 ·exact Zg g c n n
def Ea(A:Option Addr)(g:List (List Int))(p:Piece):Prop:=mX p A g.length g
theorem Ea.le{A:Option Addr}{g:List (List Int)}(p q:Piece)(hl:p.Le q)(h:Ea A g p):Ea A g q:=mX.le h hl
def Lr(gc gm:Nat)(A:Option Addr)(k:Nat)(g:List (List Int))(c:Cn):HP:=HP.many [tK gc gm (.slice A g.length k) c,HP.bY (Ea A g) (Ea.le (A:=A) (g:=g))]
theorem aEE{l:List Bool}{i:Nat}{b:Bool}:(bE l).set i (.bool b)=bE (l.set i b):=by simp[bE,List.map_set]
theorem aNM{ks:List Int}{v:Int}{n u:Nat}(h:u∈uP ks v n):u < n:=by
 unfold uP at h;exact List.mem_range.1 (List.mem_filter.1 h).1
theorem aJn(gc gm:Nat)(A:Option Addr)(k:Nat)(g:List (List Int))(c:Cn)(n:Nat)(hn:n=g.length)(hn2:n≤100)(hlen:∀l∈g,(l.length:Int)≤1000)(ho:fS g=(0,List.range n))(w:World)(F:Nat→Prop)(hp:(Lr gc gm A k g c).sat F w)(hF:∀b,F b→b < w.heap.size):
  Cz 30 #[pt gc] w (fun y w'=>∃b:Nat,y=.returned (.slice (some ⟨b,0,none⟩) n n)∧True∧∃F',(HP.many [Lr gc gm A k g c,HP.aE b 4 (bE (Lb g n c))]).sat F' w'∧iE w w' F F'):=by
 refine dK func30 ntmps30 hp hF ?_;generalize cN:(⟨w,fun b=>b < w.heap.size∧¬F b⟩:Piece)=R0;obtain⟨cl,iA⟩:=c;refine bF 0 1 ?_;refine bF 1 0 ?_;refine bF 0 0 ?_;refine bF 1 1 ?_;subst hn;refine aB ?_;refine mA (n:=g.length) 1 (el:=4) (z:=.bool false) (by kernel_rfl) (by kernel_rfl) rfl rfl rfl (by omega) (by omega) (by decide) fun gl=>?_;rw[show List.replicate g.length (Value.bool false)=bE (List.replicate g.length false) from by simp[bE]];unfold Lb;cases iA
 ·dsimp only;refine aB ?_;refine bK [(22,iv 0),(21,iv g.length),(3,.slice (some ⟨gl,0,none⟩) g.length g.length),(0,pt gc)] ?_;refine eJ (fun m e R H=>∃i:Nat,i≤g.length∧m=g.length - i∧e=[(22,iv i),(21,iv g.length),(3,.slice (some ⟨gl,0,none⟩) g.length g.length),(0,pt gc)]∧R=[R0]∧H=[HP.aE gl 4 (bE (tZ g ⟨cl,false⟩ g.length i)),HP.map gm (xH cl),HP.aE gc 160 [.slice A g.length k,.map (some gm),.bool false],HP.many [cH,cH],HP.bY (Ea A g) (Ea.le (A:=A) (g:=g)),HP.many [cH,cH]]) g.length ⟨0,by omega,rfl,rfl,rfl,rfl⟩ fun m e R H hI=>?_;obtain⟨i,hi,rfl,rfl,rfl,rfl⟩:=hI
  have hal:=Zg g ⟨cl,false⟩ g.length i
  have dS:tZ g ⟨cl,false⟩ g.length (i+1)=if fE cl (i:Int)≤0 then tZ g ⟨cl,false⟩ g.length i else(Bp g (i:Int) g.length).foldl (fun l u=>l.set u true) ((tZ g ⟨cl,false⟩ g.length i).set i true):=rfl
  generalize hl:tZ g ⟨cl,false⟩ g.length i=l at hal dS⊢;refine aB ?_;refine aG rfl (fun hlt=>?_) (fun hge=>?_)
  ·have hlt:i < g.length:=by omega
   refine aB ?_;refine Vx 1 rfl ?_;refine aB ?_;refine aG rfl (fun h0=>?_) (fun h0=>?_)
   ·rw[if_pos h0] at dS;refine aB ?_;exact dW (g.length - (i+1)) ⟨i+1,hlt,rfl,rfl,rfl,by rw[dS]⟩
   ·rw[if_neg h0] at dS;refine aB ?_;refine fG rfl rfl ?_ (hs:=fB.mk 0 rfl cK.h rfl (by simp[bE];omega));dsimp only[List.set];rw[aEE];refine aB ?_;refine jQ [] (fun x w w'=>∃A' c',x=.tuple #[.slice A' (Bp g (i:Int) g.length).length c',iv 0]∧aI (fresh w w') 1 A' (Bp g (i:Int) g.length).length (aK (dL (Bp g (i:Int) g.length)))) (fun w1 t=>aQ7 (all w1) A g.length k g i w1 (Piece.Le.refl _) (t.bY 4 rfl) rfl hn2 hlen hlt ho) ?_;rintro _ w1 q ⟨B,kb,rfl,hb⟩ hf _ _
    have hb:=hb.le hf
    have Rb:=aHq (Mi g (i:Int) g.length g.length) (i:Int) g.length
    have hum:∀u∈Bp g (i:Int) g.length,u < g.length:=fun u hu=>aNM hu
    change (Bp g (i:Int) g.length).length≤_ at Rb
    generalize hus:Bp g (i:Int) g.length=us at dS hb Rb hum⊢;refine aB ?_;refine bK [(46,iv 0),(45,iv us.length),(44,.slice B us.length kb),(22,iv i),(21,iv g.length),(3,.slice (some ⟨gl,0,none⟩) g.length g.length),(0,pt gc)] ?_;refine eJ (fun m e R H=>∃j:Nat,j≤us.length∧m=us.length - j∧e=[(46,iv j),(45,iv us.length),(44,.slice B us.length kb),(22,iv i),(21,iv g.length),(3,.slice (some ⟨gl,0,none⟩) g.length g.length),(0,pt gc)]∧R=[q,R0]∧H=[HP.aE gl 4 (bE ((us.take j).foldl (fun l u=>l.set u true) (l.set i true))),HP.map gm (xH cl),HP.aE gc 160 [.slice A g.length k,.map (some gm),.bool false],HP.many [cH,cH],HP.bY (Ea A g) (Ea.le (A:=A) (g:=g)),HP.many [cH,cH]]) us.length ⟨0,by omega,rfl,rfl,rfl,rfl⟩ fun m e R H hI=>?_;obtain⟨j,hj,rfl,rfl,rfl,rfl⟩:=hI;refine aB ?_;refine aG rfl (fun vZ=>?_) (fun aPB=>?_)
    ·have vZ:j < us.length:=by omega
     obtain⟨u,hu⟩:=get_some vZ
     have hun:=hum u (List.mem_of_getElem? hu)
     obtain⟨b,off,hB,hz,hc⟩:=hb.2 (by omega)
     have hcu:=hc j (iv (u:Int)) (by simp[aK,dL,hu])
     have fX:(us.take (j+1)).foldl (fun l u=>l.set u true) (l.set i true)=((us.take j).foldl (fun l u=>l.set u true) (l.set i true)).set u true:=by
      rw[List.take_add_one,hu,List.foldl_append];rfl
     have Hq:((us.take j).foldl (fun l u=>l.set u true) (l.set i true)).length=g.length:=by rw[aCM,List.length_set];exact hal
     generalize hl3:(us.take j).foldl (fun l u=>l.set u true) (l.set i true)=l3 at fX Hq⊢;refine aB ?_;refine kd (dat j (off+j) (hx:=by rw[←hB];rfl)) ?_;refine aA ?_;refine kd (bN rfl (Rd.ro (p:=q) (by simp) hz hcu)) ?_;refine aA ?_;refine kd (dat u u) ?_;refine fG rfl rfl ?_ (hs:=fB.mk 0 rfl cK.h rfl (by simp[bE];omega));dsimp only[List.set];rw[aEE,←fX];refine aB ?_;exact dW (us.length - (j+1)) ⟨j+1,vZ,rfl,rfl,rfl,rfl⟩
    ·obtain rfl:j=us.length:=by omega
     rw[List.take_length,←dS];refine aB ?_;refine aY [0,1,2,3,4,5] rfl (by decide) (R':=[R0]) (by simp) ?_;exact dW (g.length - (i+1)) ⟨i+1,hlt,rfl,rfl,rfl,rfl⟩
  ·obtain rfl:i=g.length:=by omega
   subst hl;refine aB ?_;refine aY [1,2,3,4,5,0] rfl (by decide) (fun _ h=>h) ?_;refine aP 1 1 ?_;refine aP 0 0 ?_;refine aP 1 0 ?_;refine aP 0 1 ?_;refine nH ?_;subst cN;exact nS rfl rfl fun w1 t=>⟨gl,rfl,trivial,t.turns hF (by simp) (i:=0) rfl⟩
 ·dsimp only;refine aB ?_;refine aY [1,2,3,4,5,0] rfl (by decide) (fun _ h=>h) ?_;refine aP 1 1 ?_;refine aP 0 0 ?_;refine aP 1 0 ?_;refine aP 0 1 ?_;refine nH ?_;subst cN;exact nS rfl rfl fun w1 t=>⟨gl,rfl,trivial,t.turns hF (by simp) (i:=0) rfl⟩
end
section
set_option maxHeartbeats 8000000
def aAc(x:bJ)(v:Value)(hs:List HP)(_:Piece):Prop:=∃(g1 g2 g3:Nat) (p:HP),v=.agg #[.slice (some ⟨g1,0,none⟩) x.d.length x.d.length,.slice (some ⟨g2,0,none⟩) x.c.length x.c.length,.slice (some ⟨g3,0,none⟩) x.l.length x.l.length]∧hs=[HP.many [HP.aE g1 4 (bE x.d),HP.aE g2 4 (bE x.c),HP.aE g3 4 (bE x.l)],p]
theorem aAu(q:Piece)(s:aC)(A1 A2 A3 A4:Option Addr)(n1 k1 n2 k2 n3 k3 n4 k4:Nat)(Aa:Option Addr)(ca:Nat)(act:List Bool)(w:World)(oF:pW q s A1 n1 A2 n2 A3 n3 A4 n4)(hm:s.made)(hq:q.Le (all w))(hact:aI (all w) 1 Aa act.length (bE act)):
  Cz 77 #[.agg #[.slice A1 n1 k1,.slice A2 n2 k2,.slice A3 n3 k3,.slice A4 n4 k4],.slice Aa act.length ca] w (fun y w'=>(∃v hs q,y=.returned v∧q.w=w'∧aAc (eT s act) v hs q∧kA w hs q)∧Below w.heap.size w w'):=by
 obtain⟨rfl,rfl,rfl,rfl⟩:=oF.len;refine aN func77 ntmps77 ?_;refine Br q (by simp) hq ?_
 have hn9:=hm.nc
 have qZ:=hm.nd
 have oU:=hm.nr
 have nD:=hm.nv
 refine aB ?_;refine bA fun g1=>?_;refine bU fun g2=>?_;refine aB ?_;refine dH (fun w1 st=>aB8 s A1 A2 A3 A4 _ k1 _ k2 _ k3 _ k4 w1 (oF.W (st.le (by simp)) (Vw hm))) ?_;rw[aAU hm];refine aAm rfl rfl (by decide) ?_;refine dN ?_;refine aG rfl (fun h=>absurd rfl h) (fun h=>?_)
 ·
  refine lX ?_;refine dV ?_;refine Tj (fun e R H=>∃ga gb gc gw,e=[(5,pt gw),(4,pt g2),(2,pt g1),(1,.slice Aa act.length ca)]∧R=[q,all w]∧H=[HP.aE gw 116 [.slice (some ⟨ga,0,none⟩) s.domains.length s.domains.length,.slice (some ⟨gb,0,none⟩) s.aF.length s.aF.length,.slice (some ⟨gc,0,none⟩) s.aT.length s.aT.length],HP.aE ga 4 (bE (dP s).d),HP.aE gb 4 (bE (dP s).c),HP.aE gc 4 (bE (dP s).l),HP.aE g2 116 [sn,sn,sn],HP.aE g1 30 [.slice A1 s.aF.length k1,.slice A2 s.domains.length k2,.slice A3 s.aT.length k3,.slice A4 s.aD.length k4]]) ?_ ?_
  ·
   refine rF 14 (by kernel_rfl) (by kernel_rfl) ?_;refine gD 0 rfl rfl rfl (Gf (off:=1) (by kernel_rfl) rfl) ?_;refine gD 1 rfl rfl rfl (Kt rfl) ?_;refine gD 2 rfl rfl rfl (Nx (el:=50) (by kernel_rfl) rfl) ?_;refine gD 4 rfl rfl rfl (Gf (off:=0) (by kernel_rfl) rfl) ?_;refine gD 5 rfl rfl rfl (Kt rfl) ?_;refine gD 6 rfl rfl rfl (Nx (el:=86) (by kernel_rfl) rfl) ?_;refine gD 8 rfl rfl rfl (Gf (off:=2) (by kernel_rfl) rfl) ?_;refine gD 9 rfl rfl rfl (Kt rfl) ?_;refine gD 10 rfl rfl rfl (Nx (el:=88) (by kernel_rfl) rfl) ?_;refine aCe (fuel:=2) [3,7,11,13] [[3,7,11],[3,7,11,13]] (fun i=>match i with | 3=>⟨19,4,List.replicate s.domains.length (.bool false),fun g=>.slice (some ⟨g,0,none⟩) s.domains.length s.domains.length⟩ | 7=>⟨23,4,List.replicate s.aF.length (.bool false),fun g=>.slice (some ⟨g,0,none⟩) s.aF.length s.aF.length⟩ | 11=>⟨27,4,List.replicate s.aT.length (.bool false),fun g=>.slice (some ⟨g,0,none⟩) s.aT.length s.aT.length⟩ | _=>⟨5,116,[sn,sn,sn],fun g=>pt g⟩) (fun i hi=>?_) (by show[19,23,27,5].Nodup;decide) (by kernel_rfl) (fun _ h=>h) (fun sub hsub hex g=>?_)
   ·simp only[List.mem_cons,List.not_mem_nil,or_false] at hi;rcases hi with rfl | rfl | rfl | rfl
    ·exact uJ.of rfl rfl rfl (Aj 1 (el:=4) (z:=.bool false) (by kernel_rfl) (by kernel_rfl) rfl rfl rfl (by omega) (by omega)) (Nat.le_of_ble_eq_true rfl) rfl
    ·exact uJ.of rfl rfl rfl (Aj 1 (el:=4) (z:=.bool false) (by kernel_rfl) (by kernel_rfl) rfl rfl rfl (by omega) (by omega)) (Nat.le_of_ble_eq_true rfl) rfl
    ·exact uJ.of rfl rfl rfl (Aj 1 (el:=4) (z:=.bool false) (by kernel_rfl) (by kernel_rfl) rfl rfl rfl (by omega) (by omega)) (Nat.le_of_ble_eq_true rfl) rfl
    ·exact uJ.of rfl rfl rfl (aHB (iG (by kernel_rfl))) (Nat.le_of_ble_eq_true rfl) rfl
   have fX:sub=[3,7,11]∨sub=[3,7,11,13]:=by simpa using hex
   have er:∀n:Nat,List.replicate n (Value.bool false)=bE (List.replicate n false):=fun n=>by simp[bE]
   rcases fX with rfl | rfl
   ·dsimp only[rB,tR,kT,List.map,List.foldr,List.cons_append,List.nil_append,List.length_cons,List.length_nil,Nat.reduceAdd,Nat.reduceSub];refine fM 12 rfl rfl rfl (by decide) (lW (zs:=[sn,sn,sn]) (L:=[(0,1),(1,1),(2,1)]) (iG (by kernel_rfl)) (by kernel_rfl) rfl (by simp[fI,gI,Value.cells];rfl)) (by kernel_rfl) (fun _ _ _ h=>h) (fun _ h=>h.tail.tail.tail) ?_;refine cG 13 ?_;refine bU fun g6=>?_;refine iD ?_;refine gQ ?_;refine kX (fun _ h=>h.tail.tail.tail.tail) ?_;refine cG 14 ?_;refine uK rfl rfl ?_;simp only[iI,Value.cells,List.set,List.take,List.drop,List.nil_append,List.append_nil,List.length_cons,List.length_nil,List.cons_append,Nat.reduceAdd];refine fA ?_;refine kG ?_;refine dV ?_;exact aY [0,1,2,3,4,5] rfl (by decide) (by simp) (bK [(5,pt g6),(4,pt g2),(2,pt g1),(1,.slice Aa act.length ca)] (Zs ⟨g 3,g 7,g 11,g6,rfl,rfl,by simp only[er,dP]⟩))
   ·dsimp only[rB,tR,kT,List.map,List.foldr,List.cons_append,List.nil_append,List.length_cons,List.length_nil,Nat.reduceAdd,Nat.reduceSub];refine fM 12 rfl rfl rfl (by decide) (lW (zs:=[sn,sn,sn]) (L:=[(0,1),(1,1),(2,1)]) (iG (by kernel_rfl)) (by kernel_rfl) rfl (by simp[fI,gI,Value.cells];rfl)) (by kernel_rfl) (fun _ _ _ h=>h) (fun _ h=>h.tail.tail.tail.tail) ?_;refine cG 14 ?_;refine uK rfl rfl ?_;simp only[iI,Value.cells,List.set,List.take,List.drop,List.nil_append,List.append_nil,List.length_cons,List.length_nil,List.cons_append,Nat.reduceAdd];refine fA ?_;refine kG ?_;refine dV ?_;exact aY [3,0,1,2,4,5] rfl (by decide) (by simp) (bK [(5,.pointer (some ⟨g 13,0,none⟩)),(4,pt g2),(2,pt g1),(1,.slice Aa act.length ca)] (Zs ⟨g 3,g 7,g 11,g 13,rfl,rfl,by simp only[er,dP]⟩))
  rintro _ _ _ ⟨ga,gb,gc,gw,rfl,rfl,rfl⟩;refine aB ?_;refine bK [(32,iv 0),(31,iv s.aD.length),(30,.slice A4 s.aD.length k4),(5,pt gw),(4,pt g2),(2,pt g1),(1,.slice Aa act.length ca)] ?_;refine aB ?_;refine eJ (fun m e R H=>∃(j:Nat),j≤s.aD.length∧m=s.aD.length - j∧e=[(32,iv j),(31,iv s.aD.length),(30,.slice A4 s.aD.length k4),(5,pt gw),(4,pt g2),(2,pt g1),(1,.slice Aa act.length ca)]∧R=[q,all w]∧H=[HP.aE gw 116 [.slice (some ⟨ga,0,none⟩) s.domains.length s.domains.length,.slice (some ⟨gb,0,none⟩) s.aF.length s.aF.length,.slice (some ⟨gc,0,none⟩) s.aT.length s.aT.length],HP.aE ga 4 (bE (iM s act j).d),HP.aE gb 4 (bE (iM s act j).c),HP.aE gc 4 (bE (iM s act j).l),HP.aE g2 116 [sn,sn,sn],HP.aE g1 30 [.slice A1 s.aF.length k1,.slice A2 s.domains.length k2,.slice A3 s.aT.length k3,.slice A4 s.aD.length k4]]) s.aD.length ⟨0,by omega,rfl,rfl,rfl,rfl⟩ fun m e R H hI=>?_;obtain⟨j,hj,rfl,rfl,rfl,rfl⟩:=hI;refine aB ?_;refine aG rfl (fun h=>?_) (fun h=>?_)
  ·
   refine lX ?_;refine dV ?_;refine cP ?_;refine sJ ?_;refine cP ?_
   have hjl:j < s.aD.length:=by have h':(j:Int) < (s.aD.length:Int):=h;omega
   obtain⟨x,hx⟩:∃x,s.aD[j]? =some x:=⟨_,List.getElem?_eq_getElem hjl⟩
   obtain⟨hx1,vU,hx3,hx4,hx5,hx6,_⟩:=hm.aD j x hx;obtain⟨bV,oV,rV,rfl,hzV,_,hR,Xh⟩:=oF.dev.zW hx;obtain⟨Ar,nr,kr,An,nn,kn,rfl,_⟩:=hR
   have Mo:=En s act j
   obtain⟨xc,hxc⟩:∃xc:Nat,x.clock=(xc:Int):=⟨x.clock.toNat,by omega⟩
   obtain⟨xd,hxd⟩:∃xd:Nat,x.domain=(xd:Int):=⟨x.domain.toNat,by omega⟩
   obtain⟨xr,hxr⟩:∃xr:Nat,x.reset=(xr:Int):=⟨x.reset.toNat,by omega⟩
   have Hp:hasB act j=true→iM s act (j+1)=⟨sU (Eo s xd) (iM s act j).d,sU ((fU s xc).filter (mL s)) (iM s act j).c,gX (iM s act j).l (xr:Int) true⟩:=fun ha=>by
    rw[Ui hx ha,Pq,hxd,hxc,hxr];rfl
   rw[hxc,hxd,hxr] at Xh;generalize hwj:iM s act j=wj at *;refine eA ?_;refine cQ rfl (by decide) ?_;refine kd (dat (j) (oV+j*6)) ?_;refine zQ 6 (by kernel_rfl) rfl (aR.of (vs:=[iv (xc:Int),iv (xd:Int),iv (xr:Int),.int .u32 x.iT,.slice Ar nr kr,.slice An nn kn]) fun f v hf=>Rd.ro (p:=q) (by simp) hzV (Xh f v hf)) rfl (by decide) ?_;refine bU fun g7=>?_;refine fQ rfl (by decide) ?_;refine uK rfl rfl ?_;simp only[iI,Value.cells,List.set,List.take,List.drop,List.nil_append,List.append_nil,List.length_cons,List.length_nil,List.cons_append,Nat.reduceAdd];refine aB ?_;refine dH (fun w1 st=>aDZ Aa act.length ca j act w1 (hact.le (st.le (by simp))) rfl (by omega)) ?_;refine aB ?_;refine pV rfl (fun h=>?_) (fun h=>?_)
   ·
    refine aB ?_
    have hno:hasB act j=false:=by simpa using h
    exact aY [1,2,3,4,5,6] rfl (by decide) (by simp) (bK [(32,iv ((j:Int)+1)),(31,iv s.aD.length),(30,.slice (some ⟨bV,oV,none⟩) s.aD.length k4),(5,pt gw),(4,pt g2),(2,pt g1),(1,.slice Aa act.length ca)] (iC (s.aD.length - (j+1)) (by omega) ⟨j+1,by omega,rfl,rfl,rfl,by rw[Pr hno,hwj]⟩))
   ·
    have hyes:hasB act j=true:=by simpa using h
    have Hp:=Hp hyes
    refine aB ?_;refine bK [(8,iv (xd:Int)),(7,pt g7),(32,iv j),(31,iv s.aD.length),(30,.slice (some ⟨bV,oV,none⟩) s.aD.length k4),(5,pt gw),(4,pt g2),(2,pt g1),(1,.slice Aa act.length ca)] ?_;refine aB ?_;refine eJ (fun m e R H=>∃(cur:Int) (rest:List Nat) (d:List Bool),m=rest.length∧Bz s cur rest∧d.length=s.domains.length∧sU rest d=sU (Eo s xd) wj.d∧e=[(8,iv cur),(7,pt g7),(32,iv j),(31,iv s.aD.length),(30,.slice (some ⟨bV,oV,none⟩) s.aD.length k4),(5,pt gw),(4,pt g2),(2,pt g1),(1,.slice Aa act.length ca)]∧R=[q,all w]∧H=[HP.aE g7 38 [iv (xc:Int),iv (xd:Int),iv (xr:Int),.int .u32 x.iT,.slice Ar nr kr,.slice An nn kn],HP.aE gw 116 [.slice (some ⟨ga,0,none⟩) s.domains.length s.domains.length,.slice (some ⟨gb,0,none⟩) s.aF.length s.aF.length,.slice (some ⟨gc,0,none⟩) s.aT.length s.aT.length],HP.aE ga 4 (bE d),HP.aE gb 4 (bE wj.c),HP.aE gc 4 (bE wj.l),HP.aE g2 116 [sn,sn,sn],HP.aE g1 30 [.slice A1 s.aF.length k1,.slice A2 s.domains.length k2,.slice A3 s.aT.length k3,.slice (some ⟨bV,oV,none⟩) s.aD.length k4]]) (Eo s xd).length ⟨_,Eo s xd,wj.d,rfl,aAw hm (by omega),Mo.d,rfl,rfl,rfl,rfl⟩ fun m e R H hI=>?_;obtain⟨cur,rest,d,rfl,Wf,jA,hpd,rfl,rfl,rfl⟩:=hI;refine aB ?_;refine aG rfl (fun h=>?_) (fun h=>?_)
    ·
     refine aB ?_
     obtain⟨i,r,rfl⟩:∃i r,rest=i::r:=by
      cases rest with
      | nil=>exact absurd Wf h
      | cons i r=>exact⟨i,r,rfl⟩
     obtain⟨rfl,dm,sC,Wf⟩:=Wf
     have hil:=(List.getElem?_eq_some_iff.1 sC).1
     refine aB ?_;refine tL 2 rfl (by kernel_rfl) rfl rfl rfl (by rw[aEG];omega) ?_;dsimp only[List.set];rw[aEF,show d.set i true=gX d (i:Int) true by simp[gX]];refine dN ?_;obtain⟨bD,oD,rD,rfl,Wb,_,rfl,Nf⟩:=oF.dom.zW sC;refine eA ?_;refine qA (off:=1) (by kernel_rfl) rfl (by decide) ?_;refine Ej rfl ?_;refine cQ rfl (by decide) ?_;refine kd (dat (i) (oD+i*3)) ?_;refine qA (off:=0) (by kernel_rfl) rfl (by decide) ?_;refine jE (by kernel_rfl) rfl (Rd.ro (p:=q) (by simp) Wb (Nf 0 _ rfl)) (by decide) ?_;refine fQ rfl (by decide) ?_;refine dN ?_;exact bK [(8,iv dm.above),(7,pt g7),(32,iv j),(31,iv s.aD.length),(30,.slice (some ⟨bV,oV,none⟩) s.aD.length k4),(5,pt gw),(4,pt g2),(2,pt g1),(1,.slice Aa act.length ca)] (iC r.length (by simp) ⟨dm.above,r,gX d (i:Int) true,rfl,Wf,by rw[Mf];exact jA,by rw[←hpd];rfl,rfl,rfl,rfl⟩)
    ·
     refine aB ?_
     obtain rfl:rest=[]:=by
      cases rest with
      | nil=>rfl
      | cons i r=>exact absurd (show cur= -1 from Classical.not_not.1 h) (by have:=Wf.1;omega)
     have hpd:d=sU (Eo s xd) wj.d:=hpd
     refine aB ?_;refine jQ [] (Iy (fU s xc)) (fun w1 st=>aBA q s A1 A2 A3 (some ⟨bV,oV,none⟩) _ k1 _ k2 _ k3 _ k4 xc w1 oF hm.wY (st.le (by simp)) (by omega)) ?_;rintro _ w1 qc ⟨Ac,cc,rfl,hsc⟩ hf _ _
     have hsc:=hsc.le hf
     have hcin:=fun i (hi:i∈fU s xc)=>aEA s _ _ i hi
     have gZ:(fU s xc).length≤s.aF.length:=aBB s _ _
     clear hf;generalize kC:fU s xc=ch at *;refine aB ?_;refine bK [(60,iv 0),(59,iv ch.length),(58,.slice Ac ch.length cc),(7,pt g7),(32,iv j),(31,iv s.aD.length),(30,.slice (some ⟨bV,oV,none⟩) s.aD.length k4),(5,pt gw),(4,pt g2),(2,pt g1),(1,.slice Aa act.length ca)] ?_;refine aB ?_;refine eJ (fun m e R H=>∃(k:Nat),k≤ch.length∧m=ch.length - k∧e=[(60,iv k),(59,iv ch.length),(58,.slice Ac ch.length cc),(7,pt g7),(32,iv j),(31,iv s.aD.length),(30,.slice (some ⟨bV,oV,none⟩) s.aD.length k4),(5,pt gw),(4,pt g2),(2,pt g1),(1,.slice Aa act.length ca)]∧R=[qc,q,all w]∧H=[HP.aE g7 38 [iv (xc:Int),iv (xd:Int),iv (xr:Int),.int .u32 x.iT,.slice Ar nr kr,.slice An nn kn],HP.aE gw 116 [.slice (some ⟨ga,0,none⟩) s.domains.length s.domains.length,.slice (some ⟨gb,0,none⟩) s.aF.length s.aF.length,.slice (some ⟨gc,0,none⟩) s.aT.length s.aT.length],HP.aE ga 4 (bE d),HP.aE gb 4 (bE (sU ((ch.take k).filter (mL s)) wj.c)),HP.aE gc 4 (bE wj.l),HP.aE g2 116 [sn,sn,sn],HP.aE g1 30 [.slice A1 s.aF.length k1,.slice A2 s.domains.length k2,.slice A3 s.aT.length k3,.slice (some ⟨bV,oV,none⟩) s.aD.length k4]]) ch.length ⟨0,by omega,rfl,rfl,rfl,rfl⟩ fun m e R H hI=>?_;obtain⟨k,hk,rfl,rfl,rfl,rfl⟩:=hI;refine aB ?_;refine aG rfl (fun h=>?_) (fun h=>?_)
     ·
      refine lX ?_;refine dV ?_;refine cP ?_;refine sJ ?_;refine cP ?_
      have Wq:k < ch.length:=by have h':(k:Int) < (ch.length:Int):=h;omega
      obtain⟨ci,sD⟩:∃ci,ch[k]? =some ci:=⟨_,List.getElem?_eq_getElem Wq⟩
      have aQb:=hcin ci (List.mem_of_getElem? sD)
      obtain⟨ck,yT⟩:∃ck,s.aF[ci]? =some ck:=⟨_,List.getElem?_eq_getElem aQb⟩
      obtain⟨bI,oI,rfl,hzI,Nd⟩:=hsc.2 (by omega);obtain⟨bC,oC,rC,rfl,hzC,_,hR2,hcC⟩:=oF.jK.zW yT;obtain⟨As,ns,ks,rfl,_⟩:=hR2
      have mO:(ch.take (k+1)).filter (mL s)=(ch.take k).filter (mL s)++(if mL s ci then[ci] else[]):=by
       rw[List.take_add_one,sD,List.filter_append];cases lT:mL s ci<;>simp[lT]
      have aHU:mL s ci=decide (ck.kind=112∨ck.kind=103):=by unfold mL;rw[yT]
      have aUA:(sU ((ch.take k).filter (mL s)) wj.c).length=s.aF.length:=by rw[aDb];exact Mo.c
      refine eA ?_;refine kd (dat (k) (oI+k)) ?_;refine jE (by kernel_rfl) rfl (Rd.ro (p:=qc) (by simp) hzI (Nd k _ (aOo sD))) (by decide) ?_;refine fQ rfl (by decide) ?_;refine dN ?_;refine cP ?_;refine eA ?_;refine qA (off:=0) (by kernel_rfl) rfl (by decide) ?_;refine Ej rfl ?_;refine cQ rfl (by decide) ?_;refine kd (dat (ci) (oC+ci*6)) ?_;refine qA (off:=0) (by kernel_rfl) rfl (by decide) ?_;refine jE (by kernel_rfl) rfl (Rd.ro (p:=q) (by simp) hzC (hcC 0 _ rfl)) (by decide) ?_;refine fQ rfl (by decide) ?_;refine dN ?_;refine Zw 75 (ck.kind=112∨ck.kind=103) ?_ ?_
      ·skip
       refine aB ?_;refine bX (t:=72) rfl (fun hg=>?_) (fun hg=>?_)
       ·
        refine fV rfl rfl rfl (by decide) ?_;refine fV rfl rfl rfl (by decide) ?_
        (first | refine pY rfl rfl (by decide) ?_ | refine pZ rfl rfl (by decide) ?_)
        refine dN ?_;exact Te
       ·
        refine fP rfl rfl ?_;refine cQ rfl (by decide) ?_;refine fP rfl rfl ?_;refine aFD rfl rfl (by decide) ?_
        (first | refine pY rfl rfl (by decide) ?_ | refine pZ rfl rfl (by decide) ?_)
        refine dN ?_;exact Te
      refine aG rfl (fun Rk=>?_) (fun Rk=>?_)
      ·
       refine aB ?_;refine tL 3 rfl (by kernel_rfl) rfl rfl rfl (by rw[aEG];omega) ?_;dsimp only[List.set];rw[aEF,show(sU ((ch.take k).filter (mL s)) wj.c).set ci true=sU ((ch.take (k+1)).filter (mL s)) wj.c by rw[mO,aHU,decide_eq_true Rk];simp[sU,gX,List.foldl_append]];refine aB ?_;exact bK [(60,iv ((k:Int)+1)),(59,iv ch.length),(58,.slice (some ⟨bI,oI,none⟩) ch.length cc),(7,pt g7),(32,iv j),(31,iv s.aD.length),(30,.slice (some ⟨bV,oV,none⟩) s.aD.length k4),(5,pt gw),(4,pt g2),(2,pt g1),(1,.slice Aa act.length ca)] (iC (ch.length - (k+1)) (by omega) ⟨k+1,by omega,rfl,rfl,rfl,rfl⟩)
      ·
       refine aB ?_;exact bK [(60,iv ((k:Int)+1)),(59,iv ch.length),(58,.slice (some ⟨bI,oI,none⟩) ch.length cc),(7,pt g7),(32,iv j),(31,iv s.aD.length),(30,.slice (some ⟨bV,oV,none⟩) s.aD.length k4),(5,pt gw),(4,pt g2),(2,pt g1),(1,.slice Aa act.length ca)] (iC (ch.length - (k+1)) (by omega) ⟨k+1,by omega,rfl,rfl,rfl,by rw[mO,aHU,decide_eq_false Rk];simp⟩)
     ·
      refine aB ?_
      have hke:k=ch.length:=by have h':¬(k:Int) < (ch.length:Int):=h;omega
      rw[hke,List.take_length]
      have pQ:=Mo.l
      refine aB ?_;refine tL 4 rfl (by kernel_rfl) rfl rfl rfl (by rw[aEG];omega) ?_;dsimp only[List.set];rw[aEF,show wj.l.set xr true=gX wj.l (xr:Int) true by simp[gX]];refine aB ?_;exact aY [1,2,3,4,5,6] rfl (by decide) (R':=[q,all w]) (by simp) (bK [(32,iv ((j:Int)+1)),(31,iv s.aD.length),(30,.slice (some ⟨bV,oV,none⟩) s.aD.length k4),(5,pt gw),(4,pt g2),(2,pt g1),(1,.slice Aa act.length ca)] (iC (s.aD.length - (j+1)) (by omega) ⟨j+1,by omega,rfl,rfl,rfl,by rw[Hp,hpd]⟩))
  ·
   refine aB ?_;refine uK rfl rfl ?_;simp only[iI,Value.cells,List.set,List.take,List.drop,List.nil_append,List.append_nil,List.length_cons,List.length_nil,List.cons_append,Nat.reduceAdd];refine aB ?_
   have hje:j=s.aD.length:=by have h':¬(j:Int) < (s.aD.length:Int):=h;omega
   have Mo:=En s act j
   have hww:eT s act=iM s act j:=by rw[hje];rfl
   generalize iM s act j=wj at *;refine aY [1,2,3,4] rfl (by decide) (R':=[q,all w]) (by simp) ?_;refine Zo ?_;refine dO [] [] [0,1] (by simp) rfl (by decide) (by decide) fun qf _ _ hfr=>?_
   exact Oj rfl (by kernel_rfl) rfl rfl (aR.whole 1 rfl) fun w1 st=>⟨⟨_,_,⟨w1,qf.Z⟩,rfl,rfl,by
    rw[hww]
    exact⟨ga,gb,gc,_,by rw[Mo.d,Mo.c,Mo.l],rfl⟩,st.newR (by simp) (by simp) (hfr (by simp) (by simp))⟩,st.below (by simp)⟩
end
end Go.Proofs.YtdcdccmpcmjmhaaGreatDoor
