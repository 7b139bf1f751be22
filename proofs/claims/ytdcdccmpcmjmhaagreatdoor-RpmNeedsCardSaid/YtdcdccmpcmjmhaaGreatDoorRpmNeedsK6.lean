/- package firm: take. -/
import Derived.Tactics2
import Derived.Test.YtdcdccmpcmjmhaaGreatDoorRpmNeedsK5
namespace Go.Proofs.YtdcdccmpcmjmhaaGreatDoor
set_option linter.all false
set_option maxHeartbeats 4000000
set_option maxRecDepth 20000
open Go.RowKit Go.Proofs.Tryz
section
section
variable{h:Nat}{L:gF}{s:aD}{z:bX}
theorem aI7{b:Nat}(hb:b < 2):(jV h L s z)[11+b*2]? =some (iv (Ay z b)):=by
 obtain rfl | rfl:b=0∨b=1:=by omega
 ·rfl
 ·rfl
end
structure Ds(s:aD)(z:bX):Prop where
 la:z.last=0∨z.last=1
 u0:wA z.w0
 u1:wA z.w1
 n0:z.w0.length≤1000000
 n1:z.w1.length≤1000000
 sx:z.x.sm
 sy:z.y.sm
theorem Ds.box{s:aD}{z:bX}(h:Ds s z)(b:Nat):wA (kT z b)∧(kT z b).length≤1000000:=by
 unfold kT;split
 ·exact⟨h.u0,h.n0⟩
 ·exact⟨h.u1,h.n1⟩
def gA(s:aD)(x:aO)(z:bX)(a:Nat):Int×Int×Int:=jG s z.x z.y (lY s x) a (kT z a)
def wK(s:aD)(x:aO)(z:bX)(a:Nat):bX×Bool:=
 let d:=gA s x z a
 if d.2.1=0 then(wN s x {z with last:=a} a d.1,false)
 else({z with last:=a,x:=jW z.x a d.2.1 d.2.2,y:=mN z.y a d.2.1 d.2.2,at_:=a,kind:=d.2.1,id:=d.2.2},true)
def mP(s:aD)(x:aO)(z:bX):bX×Bool:=match sL z with
 | none=>(z,false)
 | some a=>wK s x z a
theorem aI3(f:Nat)(hL:HL)(s:aD)(z:bX)(x:aO)(hH:s.dG)(aV:gX hL s)(hok:cF s x)(hz:Ds s z)(l a:Nat)(hl:z.last=(l:Int))(iS:l≤1)(ha:a < 2)(hab:(Ay z (1 - l)=1∧a=1 - l)∨(Ay z (1 - l)≠1∧a=l))(h1:Ay z a=1)
  (hst:(gA s x z a).2.1=0→(gA s x z a).1=0→tU (kT z a)) (w:World) (F:Nat→Prop) (hp:(gT f hL s z x).sat F w) (hF:∀b,F b→b < w.heap.size):
  Cz 50 #[pt f] w (Wr (.bool (wK s x z a).2) (gT f hL s (wK s x z a).1 x) w F):=by
 have nB:=hH.t.nv
 unfold wK;generalize hdz:gA s x z a=dz at hst⊢;obtain⟨st,k,id⟩:=dz;dsimp only at hst⊢;obtain⟨hbu,hbn⟩:=hz.box a;refine dJ func50 ntmps50 hp hF ?_;refine bF 0 0 ?_;refine lV 0 fun L=>?_
 have aIq:(jV hL.h L s z)[15]? =some (iv (l:Int)):=by rw[←hl];rfl
 refine cO ?_;refine eB ?_;refine bH ?_;refine dO ?_;refine cO ?_;refine eB ?_;refine bH ?_;refine bH ?_;refine bH ?_;refine kd (bM rfl (Rd.eZ 0 rfl aIq)) ?_;refine kd (Nk rfl rfl (c:=((1 - l:Nat):Int)) (by rw[show(1:Int) - (l:Int)=((1 - l:Nat):Int) by omega];exact iR (by omega))) ?_;refine bH ?_;refine dO ?_;refine Sz (fun e R H=>e=[(3,iv (a:Int)),(0,pt f)]∧R=[⟨w,fun b=>b < w.heap.size∧¬F b⟩]∧H=[iP f hL.h L s z,HP.many [cG,dS hL s x]]) ?_ ?_
 ·refine cO ?_;refine eB ?_;refine bH ?_;refine bH ?_;refine bH ?_;refine bH ?_;refine kd (gN (1 - l) (11+(1 - l)*2)) ?_;refine bH ?_;refine kd (bM rfl (Rd.eZ 0 rfl (aI7 (by omega)))) ?_;refine bH ?_;refine dO ?_;rcases hab with⟨h2,rfl⟩ | ⟨h2,rfl⟩
  ·refine aG rfl (fun h=>absurd h2 h) (fun _=>?_);refine lU ?_;refine dW ?_;exact pG ⟨rfl,rfl,rfl⟩
  ·refine aG rfl (fun _=>?_) (fun h=>absurd h2 h);refine eB ?_;refine bH ?_;refine bH ?_;refine bH ?_;refine kd (bM rfl (Rd.eZ 0 rfl aIq)) ?_;refine bH ?_;refine dO ?_;exact pG ⟨rfl,rfl,rfl⟩
 rintro _ _ _ ⟨rfl,rfl,rfl⟩;refine aA ?_;refine kd (gN a (11+a*2)) ?_;refine aA ?_;refine kd (bM rfl (Rd.eZ 0 rfl (aI7 ha))) ?_;refine aA ?_;refine aG rfl (fun h=>absurd h1 h) (fun _=>?_);refine aA ?_;refine bF 0 0 ?_;refine fG rfl rfl ?_ (hs:=fB.mk 0 rfl cJ.h rfl (by simp[jV]));dsimp only[List.set];rw[show(jV hL.h L s z).set (0+15) (iv (a:Int))=jV hL.h L s {z with last:=(a:Int)} from rfl];refine aN 0 0 ?_
 change XK _ _ _ _ _ [iP f hL.h L s {z with last:=(a:Int)},HP.many [cG,dS hL s x]]
 generalize mK:({z with last:=(a:Int)}:bX)=z1
 have e1:z1.x=z.x:=by rw[←mK]
 have e2:z1.y=z.y:=by rw[←mK]
 have e3:kT z1 a=kT z a:=by rw[←mK];rfl
 refine aA ?_;refine kd (bM rfl (Rd.eZ 0 rfl rfl)) ?_;refine aA ?_;refine lX (n:=s.aC.length) 8 (el:=3) (z:=iv 0) (by kernel_rfl) (by kernel_rfl) rfl rfl rfl (by omega) (by omega) (by decide) fun gm=>?_;refine aA ?_;refine bF 2 1 ?_
 rw[show List.replicate s.aC.length (Value.int .i64 0)=aK (lA (lY s x) ((lY s x).map fun _=>0) 0) by
  rw[Vl];refine List.ext_getElem? fun j=>?_;simp only[aK,lY,List.map_map,List.getElem?_replicate,List.getElem?_map]
  by_cases h:j < s.aC.length
  ·rw[if_pos h,List.getElem?_range h];rfl
  ·rw[if_neg h,List.getElem?_eq_none (by simp;omega)];rfl]
 refine bJ [(46,iv 0),(45,iv s.aC.length),(4,.slice (some ⟨gm,0,none⟩) s.aC.length s.aC.length),(3,iv (a:Int)),(0,pt f)] ?_
 have vO:(lY s x).length=s.aC.length:=by simp[lY]
 refine eI (fun m e R H=>∃i:Nat,i≤s.aC.length∧m=s.aC.length - i∧e=[(46,iv i),(45,iv s.aC.length),(4,.slice (some ⟨gm,0,none⟩) s.aC.length s.aC.length),(3,iv (a:Int)),(0,pt f)]∧R=[⟨w,fun b=>b < w.heap.size∧¬F b⟩]∧H=[dS hL s x,HP.aE gm 3 (aK (lA (lY s x) ((lY s x).map fun _=>0) i)),iP f hL.h L s z1,HP.many [cG,cG]]) s.aC.length ⟨0,by omega,rfl,rfl,rfl,rfl⟩ fun m e R H hI=>?_;obtain⟨i,hi,rfl,rfl,rfl,rfl⟩:=hI
 have Wh:=Vn (vs:=lY s x) (old:=(lY s x).map fun _=>0) (n:=s.aC.length) vO (by simp[lY]) hi
 have iA:(aK (lA (lY s x) ((lY s x).map fun _=>0) i)).length=s.aC.length:=by simp[aK,Wh]
 refine aA ?_;refine aG rfl (fun hlt=>?_) (fun hge=>?_)
 ·have hlt:i < s.aC.length:=by omega
  have hwi:(lY s x)[i]? =some (iQ x.wt i:Int):=by simp[lY,hlt]
  have iX:(aK (lA (lY s x) ((lY s x).map fun _=>0) i)).set i (iv (iQ x.wt i:Nat))=aK (lA (lY s x) ((lY s x).map fun _=>0) (i+1)):=by
   rw[←Vm (by simp) hwi,aK,aK,List.map_set]
  refine aA ?_;refine kd (bM rfl (Rd.eZ 2 rfl rfl)) ?_;refine aA ?_;refine aU (fun w1 t=>aP7 hL s x w1 i hlt (t.nD 0 rfl aV hok)) ?_;refine aA ?_;refine kd (dat i i) ?_;refine fG rfl rfl ?_;dsimp only[List.set];rw[iX];refine aA ?_;exact dY (s.aC.length - (i+1)) ⟨i+1,hlt,rfl,rfl,rfl,rfl⟩
 obtain rfl:i=s.aC.length:=by omega
 rw[Vo vO (by simp[lY])];refine aN 2 1 ?_;refine aA ?_;refine aCa (fun e R H=>∃g7:Nat,e=[(7,pt g7),(6,.int .i32 st),(3,iv (a:Int)),(0,pt f)]∧R=[⟨w,fun b=>b < w.heap.size∧¬F b⟩]∧H=[HP.aE g7 136 [.int .u8 k,iv id],iP f hL.h L s z1,HP.many [cG,dS hL s x]]) ?_ ?_
 ·refine jL [1,2,3,5,6,7,12,13,14,15,16,19,20] ?_;refine bP 0 ?_;refine bP 4 ?_;refine bP 8 ?_;refine bP 9 ?_;refine bP 10 ?_;refine bP 11 ?_;refine aJ 1 ?_;refine aJ 2 ?_;refine aJ 3 ?_ (dI:=oZ rfl (aQ.eZ 1 rfl (vs:=[.slice L.a1.1 s.aF.length L.a1.2,.slice L.a2.1 s.domains.length L.a2.2,.slice L.a3.1 s.aT.length L.a3.2,.slice L.a4.1 s.aC.length L.a4.2]) rfl));refine aJ 5 ?_;refine aJ 6 ?_;refine aJ 7 ?_ (dI:=oZ rfl (aQ.eZ 1 rfl (vs:=[.slice L.x1.1 z1.x.d.length L.x1.2,.slice L.x2.1 z1.x.c.length L.x2.2,.slice L.x3.1 z1.x.l.length L.x3.2,.slice L.y1.1 z1.y.d.length L.y1.2,.slice L.y2.1 z1.y.c.length L.y2.2,.slice L.y3.1 z1.y.l.length L.y3.2]) rfl));refine aJ 12 ?_;refine aJ 13 ?_;refine aJ 14 ?_ (dI:=gN (sz:=2) a (11+a*2));refine aJ 15 ?_;refine aJ 16 ?_ (dI:=bM rfl (Rd.eZ 1 rfl (v:=.slice (wY L a).1 (kT z1 a).length (wY L a).2) (by rw[show 11+a*2+1=12+a*2 by omega];exact aI8 ha)))
  have Au:∀H:List HP,H[H.length - 2]? =some (iP f hL.h L s z1)→(H.length=3∨H.length=4)→H[H.length - 3]? =some (HP.aE gm 3 (aK (lY s x)))→∀w1,St w [⟨w,fun b=>b < w.heap.size∧¬F b⟩] H w1→Cz 98 #[.agg #[.slice L.a1.1 s.aF.length L.a1.2,.slice L.a2.1 s.domains.length L.a2.2,.slice L.a3.1 s.aT.length L.a3.2,.slice L.a4.1 s.aC.length L.a4.2],.agg #[.slice L.x1.1 z1.x.d.length L.x1.2,.slice L.x2.1 z1.x.c.length L.x2.2,.slice L.x3.1 z1.x.l.length L.x3.2,.slice L.y1.1 z1.y.d.length L.y1.2,.slice L.y2.1 z1.y.c.length L.y2.2,.slice L.y3.1 z1.y.l.length L.y3.2],.slice (some ⟨gm,0,none⟩) s.aC.length s.aC.length,iv (a:Int),.slice (wY L a).1 (kT z1 a).length (wY L a).2] w1 (Rt (aEH (st,k,id)) w1):=fun H h2 _ h3 w1 t=>by
   have kf:=t.Fm _ h2
   have:=aRJ (all w1) (all w1) s _ _ _ _ _ L.a1.2 _ L.a2.2 _ L.a3.2 _ L.a4.2 _ _ _ _ _ _ _ L.x1.2 _ L.x2.2 _ L.x3.2 _ L.y1.2 _ L.y2.2 _ L.y3.2 z1.x z1.y (some ⟨gm,0,none⟩) s.aC.length s.aC.length (lY s x) a _ _ (wY L a).2 (kT z1 a) w1 kf.so hH.t (Piece.Le.refl _) kf.stR (Piece.Le.refl _) (t.rN h3 (by simp[aK,vO])) vO.symm ha (kf.box ha) rfl (by rw[e3];exact hbn) (by rw[e3];exact hbu)
   rw[show jG s z1.x z1.y (lY s x) a (kT z1 a)=(st,k,id) by rw[e1,e2,e3];exact hdz] at this;exact this
  refine La 17 21 rfl rfl (by kernel_rfl) ?_ ?_
  ·refine aU (fun w1 t=>Au _ rfl (.inl rfl) rfl w1 t) ?_;refine bL ?_;refine bP 18 ?_;refine aJ 19 ?_;refine aJ 20 ?_;refine aM 21 ?_;refine bR fun g7=>?_;refine bL ?_;refine aM 22 ?_;refine bH ?_;refine bL ?_;refine aM 23 ?_;refine oM 0 rfl ?_;dsimp only[List.set];refine cX ?_;refine fJ ?_;refine dW ?_;refine aY [0,2,3] rfl (by decide) (fun _ h=>h) ?_;exact pG ⟨g7,rfl,rfl,rfl⟩
  ·refine bR fun g7=>?_;refine bL ?_;refine aM 17 ?_;refine aU (fun w1 t=>Au _ rfl (.inr rfl) rfl w1 t) ?_;refine bL ?_;refine bP 18 ?_;refine aJ 19 ?_;refine aJ 20 ?_;refine aM 22 ?_;refine bH ?_;refine bL ?_;refine aM 23 ?_;refine oM 0 rfl ?_;dsimp only[List.set];refine cX ?_;refine fJ ?_;refine dW ?_;refine aY [0,2,3] rfl (by decide) (fun _ h=>h) ?_;exact pG ⟨g7,rfl,rfl,rfl⟩
 rintro _ _ _ ⟨g7,rfl,rfl,rfl⟩;refine aA ?_;refine aG rfl (fun hk=>?_) (fun hk=>?_)
 ·have hk:k=0:=hk
  rw[if_pos hk];refine fC 1 (fun L:gF=>iP f hL.h L s z1) L ?_;refine aY [1,0,2] rfl (by decide) (fun _ h=>h) ?_;refine aN 1 0 ?_;refine aA ?_;refine dU 1 (gT f hL s (wN s x z1 a st) x) (fun w1 F1 t h1 h2 h3=>aEi f hL s z1 x hH aV hok a ha st (fun h0=>by rw[e3];exact hst hk h0) w1 F1 h1 h2) ?_;refine aA ?_;exact cH 1 hF
 ·rw[if_neg hk];rw[show({z with last:=(a:Int),x:=jW z.x a k id,y:=mN z.y a k id,at_:=(a:Int),kind:=k,id:=id}:bX)={z1 with x:=jW z1.x a k id,y:=mN z1.y a k id,at_:=(a:Int),kind:=k,id:=id} by rw[←mK]];refine aA ?_;refine jL [2,3,4,6] ?_;refine bP 0 ?_;refine bP 1 ?_;refine bP 5 ?_;refine aJ 2 ?_;refine aJ 3 ?_;refine aJ 4 ?_ (dI:=oZ rfl (aQ.eZ 1 rfl (vs:=[.slice L.x1.1 z1.x.d.length L.x1.2,.slice L.x2.1 z1.x.c.length L.x2.2,.slice L.x3.1 z1.x.l.length L.x3.2,.slice L.y1.1 z1.y.d.length L.y1.2,.slice L.y2.1 z1.y.c.length L.y2.2,.slice L.y3.1 z1.y.l.length L.y3.2]) rfl));refine aJ 6 ?_;refine aM 7 ?_
  refine jP [] (fun v w w'=>uX (fresh w w') (jW z1.x a k id) (mN z1.y a k id) v) (fun w1 t=>by
   have kf:=t.Fm 1 rfl
   exact aRl (all w1) _ _ _ _ _ _ L.x1.2 L.x2.2 L.x3.2 L.y1.2 L.y2.2 L.y3.2 z1.x z1.y a k id w1 (Piece.Le.refl _) ha (by rw[e1];exact hz.sx) (by rw[e2];exact hz.sy) kf.st.1 kf.st.2.1 kf.st.2.2.1 kf.st.2.2.2.1 kf.st.2.2.2.2.1 kf.st.2.2.2.2.2) ?_
  rintro _ w2 q2 aPd uR _ Kh
  have Kh:=Kh (by simp)
  obtain⟨x1,x2,x3,y1,y2,y3,rfl,Mn⟩:=aPd.P
  have Mn:=rH.le _ _ uR (Mn L.a1 L.a2 L.a3 L.a4 L.b0 L.b1)
  refine Im (Φ:=rH ⟨L.a1,L.a2,L.a3,L.a4,x1,x2,x3,y1,y2,y3,L.b0,L.b1⟩ (jW z1.x a k id) (mN z1.y a k id)) (hm:=rH.le) Kh (fun p hp b hb=>by simp at hp;subst hp;exact hb.1) Mn ?_;refine cX ?_;refine aM 8 ?_;refine bH ?_;refine cX ?_;refine aM 9 ?_;refine bH ?_;refine cX ?_;refine aM 10 ?_;refine bF 2 0 ?_;refine rL 0 (t:=138) rfl rfl rfl (by kernel_rfl) (by simp[Value.cells,Value.oneCell',xX]) (by simp[Value.cells,jV]) ?_;dsimp only[List.set];rw[show iH (jV hL.h L s z1) (0+5) (Value.agg #[xX x1 (jW z1.x a k id).d.length,xX x2 (jW z1.x a k id).c.length,xX x3 (jW z1.x a k id).l.length,xX y1 (mN z1.y a k id).d.length,xX y2 (mN z1.y a k id).c.length,xX y3 (mN z1.y a k id).l.length]).cells.toList=jV hL.h ⟨L.a1,L.a2,L.a3,L.a4,x1,x2,x3,y1,y2,y3,L.b0,L.b1⟩ s {z1 with x:=jW z1.x a k id,y:=mN z1.y a k id} from rfl];refine cX ?_;refine fJ ?_;refine dW ?_;refine bF 3 2 ?_;refine aY [1,2,3,4,5] rfl (by decide) (R':=[⟨w,fun b=>b < w.heap.size∧¬F b⟩]) (by simp) ?_;refine aY [1,0,2,3,4] rfl (by decide) (fun _ h=>h) ?_;refine aN 2 2 ?_;generalize oN:({z1 with x:=jW z1.x a k id,y:=mN z1.y a k id}:bX)=z2;rw[show({z1 with x:=jW z1.x a k id,y:=mN z1.y a k id,at_:=(a:Int),kind:=k,id:=id}:bX)={z2 with at_:=(a:Int),kind:=k,id:=id} by rw[←oN]];generalize hL2:(⟨L.a1,L.a2,L.a3,L.a4,x1,x2,x3,y1,y2,y3,L.b0,L.b1⟩:gF)=L2;refine cO ?_;refine aCa (fun e R H=>e=[(0,pt f)]∧R=[⟨w,fun b=>b < w.heap.size∧¬F b⟩]∧H=[HP.aE f 138 (jV hL.h L2 s {z2 with at_:=(a:Int),kind:=k,id:=id}),HP.aE g7 136 [.int .u8 k,iv id],HP.many [cG,HP.bT (wC L s) (wC.le (L:=L) (s:=s)),HP.bT (rH L2 (jW z1.x a k id) (mN z1.y a k id)) (rH.le (L:=L2) (x:=jW z1.x a k id) (y:=mN z1.y a k id)),HP.bT (eR L.b0 z1.w0) (eR.le (a:=L.b0) (l:=z1.w0)),HP.bT (eR L.b1 z1.w1) (eR.le (a:=L.b1) (l:=z1.w1))],HP.many [cG,dS hL s x]]) ?_ ?_
  ·refine jL [] ?_;refine bP 0 ?_;refine bP 1 ?_;refine bP 2 ?_
   repeat' (first
    | (refine fJ ?_;refine dW ?_;exact pG ⟨rfl,rfl,rfl⟩)
    | refine La 3 4 rfl rfl (by decide+kernel) ?_ ?_
    | refine La 3 5 rfl rfl (by decide+kernel) ?_ ?_
    | refine La 3 6 rfl rfl (by decide+kernel) ?_ ?_
    | refine aM 3 ?_
    | refine aM 4 ?_
    | refine aM 5 ?_
    | refine aM 6 ?_
    | refine aM 7 ?_
    | refine aM 8 ?_
    | refine aM 9 ?_
    | refine cX ?_
    | refine bH ?_
    | (refine fG rfl rfl ?_ (hs:=fB.mk 0 rfl cJ.h rfl (by simp[jV]));dsimp only[List.set];rw[show(jV hL.h L2 s z2).set (0+16) (iv (a:Int))=jV hL.h L2 s {z2 with at_:=(a:Int)} from rfl])
    | (refine rL 0 (t:=138) rfl rfl rfl (by kernel_rfl) (by simp[Value.cells,Value.oneCell']) (by simp[Value.cells,jV]) ?_;dsimp only[List.set];rw[show iH (jV hL.h L2 s {z2 with at_:=(a:Int)}) (0+17) (Value.agg #[.int .u8 k,iv id]).cells.toList=jV hL.h L2 s {z2 with at_:=(a:Int),kind:=k,id:=id} from rfl]))
  rintro _ _ _ ⟨rfl,rfl,rfl⟩;refine aN 1 0 ?_;subst hL2;subst oN;refine xB 1 (f:=fun L:gF=>iP f hL.h L s {({z1 with x:=jW z1.x a k id,y:=mN z1.y a k id}:bX) with at_:=(a:Int),kind:=k,id:=id}) ⟨L.a1,L.a2,L.a3,L.a4,x1,x2,x3,y1,y2,y3,L.b0,L.b1⟩ rfl ?_;dsimp only[List.set];refine aY [1,0,2] rfl (by decide) (fun _ h=>h) ?_;refine aN 1 0 ?_;refine aA ?_;exact cH 1 hF
theorem aI4(f:Nat)(hL:HL)(s:aD)(z:bX)(x:aO)(hH:s.dG)(aV:gX hL s)(hok:cF s x)(hz:Ds s z)(hst:∀a,sL z=some a→(gA s x z a).2.1=0→(gA s x z a).1=0→tU (kT z a))(w:World)(F:Nat→Prop)(hp:(gT f hL s z x).sat F w)(hF:∀b,F b→b < w.heap.size):
  Cz 50 #[pt f] w (Wr (.bool (mP s x z).2) (gT f hL s (mP s x z).1 x) w F):=by
 unfold mP;cases hn:sL z with
 | none=>exact aQy f hL s z x hz.la hn w F hp hF
 | some a =>
  obtain⟨l,hl,iS⟩:∃l:Nat,z.last=(l:Int)∧l≤1:=by
   rcases hz.la with h | h
   ·exact⟨0,h,by omega⟩
   ·exact⟨1,h,by omega⟩
  have hn2:=hn
  unfold sL at hn;rw[show(1 - z.last).toNat=1 - l by omega,show z.last.toNat=l by omega] at hn
  by_cases h2:Ay z (1 - l)=1
  ·rw[if_pos h2] at hn;obtain rfl:=Option.some.inj hn;exact aI3 f hL s z x hH aV hok hz l _ hl iS (by omega) (.inl ⟨h2,rfl⟩) h2 (hst _ hn2) w F hp hF
  ·rw[if_neg h2] at hn
   by_cases h3:Ay z l=1
   ·rw[if_pos h3] at hn;obtain rfl:=Option.some.inj hn;exact aI3 f hL s z x hH aV hok hz l _ hl iS (by omega) (.inr ⟨h2,rfl⟩) h3 (hst _ hn2) w F hp hF
   ·rw[if_neg h3] at hn;cases hn
end
section
section
variable{P:Program}{N:bZ}{w0 w:World}{K:Act→World→Prop}{e:Env}{R:List Piece}{H H':List HP}
theorem Zl{nn:Nat}{F:Nat→Prop}{p:HP}{f:FuncId}{fn:Func}{c:Code}{vs:List Value}{Post:Ending→World→Prop}(hf:P.funcs[f]? =some fn)(hb:fn.body=some c)(hN:fn.ntmps=nn)(hl:vs.length≤nn)(hp:p.sat F w)(hF:∀b,F b→b < w.heap.size)
  (h:XK ⟨nn,[]⟩ w (c.wp P (bodyPostD P fn Post)) (Fw 0 vs) [⟨w,fun b=>b < w.heap.size∧¬F b⟩] [p]):Calls P f vs.toArray w Post:=by
 refine calls_of_wp_defers hf hb (h _ _ ⟨?_,rfl,fun t v hv=>?_⟩ (aFa hp hF))
 ·simp;omega
 ·obtain⟨_,h2⟩:=Yt vs 0 t v hv;rw[Nat.sub_zero] at h2
  have hlt:t < vs.length:=by
   rcases Nat.lt_or_ge t vs.length with h | h
   ·exact h
   ·rw[List.getElem?_eq_none h] at h2;cases h2
  rw[Array.getElem?_append_left (by simpa using hlt)]
  simpa using h2
theorem Bj{nn:Nat}{f:FuncId}{fi ca:List Value}{fn:Func}{Post:Ending→World→Prop}{x:Exit}(hx:x=.ret∨x=.normal)(hf:fH P f=true)
  (iA:∀w,CallsD P f (fi++ca).toArray .returning w fun y u' w'=>y=.returned (.tuple #[])∧u'=.returning∧w'=w) (hr:fn.results=#[])
  (h:∀w,St w0 R H w→Post (.returned (.tuple #[])) w):XK ⟨nn,[Kt f fi ca]⟩ w0 (bodyPostD P fn Post x) e R H:=by
 have key:XK ⟨nn,[Kt f fi ca]⟩ w0 (bodyPostD P fn Post .ret) e R H:=aTp (H':=H) hf (fun w1 st=>(iA w1).mono fun y u' w' h=>by
  obtain⟨h1,h2,rfl⟩:=h
  exact⟨⟨_,h1⟩,h2,st⟩) fun a w1 _ st=>⟨.tuple #[],results_none hr _ _ _,h w1 st⟩
 rcases hx with rfl | rfl
 ·exact key
 ·exact key
end
theorem Xt(w:World):CallsD Tryz.prog 49 #[] .returning w fun e u' w'=>e=.returned (.tuple #[])∧u'=.returning∧w'=w:=by
 refine callsD_of_wpS func49 rfl fun c₀ cs hu=>?_;apply wpS_region;simp[wpOpsS,go_sem,recoverD,hu,ntmps49,Exit.thenS];cases c₀;simp_all [bodyPostS,results,Tryz.results49]
section
variable{N:bZ}{w0 w:World}{e:Env}{R:List Piece}{H:List HP}{K:Act→World→Prop}{f:Nat}{hL:HL}{s:aD}{z:bX}{x:aO}
theorem Iu(i:Nat){o:Nat}{v:Value}(hi:H[i]? =some (gT f hL s z x))(hv:∀L,(jV hL.h L s z)[o]? =some v):Rd w0 R H f o v:=fun w t=>by
 obtain⟨F,⟨G,g1,g2,_⟩,h2,_⟩:=t.chunk hi;obtain⟨L,hL'⟩:=g1 0 _ rfl
 have:=((aK4 hL' fun b hb=>h2 b (g2 0 b hb)).r0.at_ (hv L)).2
 rwa [Nat.zero_add] at this
end
theorem aQ2(f:Nat)(hL:HL)(s:aD)(z:bX)(x:aO)(hH:s.dG)(aV:gX hL s)(hok:cF s x)(hz:Ds s z)(hst:∀a,sL z=some a→(gA s x z a).2.1=0→(gA s x z a).1=0→tU (kT z a))(fS:z.at_ < 0)(hno:(mP s x z).2=false)(w:World)(F:Nat→Prop)(hp:(gT f hL s z x).sat F w)(hF:∀b,F b→b < w.heap.size):
  Cz 20 #[pt f] w (Wr (.tuple #[]) (gT f hL s (mP s x z).1 x) w F):=by
 refine Zl (vs:=[pt f]) (p:=gT f hL s z x) func20 rfl ntmps20 (by simp) hp hF ?_;refine aA ?_;refine Tv (f:=49) (fi:=[]) (ca:=[]) rfl ?_;refine aA ?_;refine kd (bM rfl (Iu 0 rfl fun _=>rfl)) ?_;refine aA ?_;refine bU (t:=8) rfl (fun _=>?_) (fun h=>absurd fS h);refine aA ?_;refine dU 0 (gT f hL s (mP s x z).1 x) (fun w1 F1 t h1 h2 h3=>aI4 f hL s z x hH aV hok hz hst w1 F1 h1 h2) ?_;rw[hno];refine aA ?_;exact Bj (.inl rfl) (by kernel_rfl) Xt rfl fun w1 t=>⟨rfl,t.turns hF (by simp) (i:=0) rfl⟩
end
section
section
variable{s:aD}{x:aO}{l:Int}{b:Nat}{m a:List Int}
end
theorem Vj{s:aD}{st:List eP}(hH:s.dG)(h:qS s st)(i:Int)(b:Bool):qS s (kZ s st i b).2:=by
 unfold kZ;split
 ·exact h
 ·split
  ·rename_i c x hc hx
   split
   ·exact h
   ·refine⟨by simp[h.len],fun y hy=>?_⟩;rcases List.mem_or_eq_of_mem_set hy with hy | rfl
    ·exact h.left y hy
    ·have h1:=(hH.t.aF i.toNat c hc).2
     have h2:=h.left x (List.mem_of_getElem? hx)
     unfold Gp;dsimp only;split
     ·omega
     ·exact h2
  ·exact h
theorem aFQ{s:aD}{st:List fD}(hH:s.dG)(h:vB s st)(i:Int):vB s (uC s st i).2:=by
 unfold uC;split
 ·exact h
 ·split
  ·rename_i c x hc hx
   split
   ·exact h
   ·have h1:=(hH.domains i.toNat c hc).2
    refine⟨by simp[h.len],fun y hy=>?_,fun y hy=>?_⟩
    ·rcases List.mem_or_eq_of_mem_set hy with hy | rfl
     ·exact h.left y hy
     ·exact h1
    ·rcases List.mem_or_eq_of_mem_set hy with hy | rfl
     ·exact h.phase y hy
     ·exact⟨by show(0:Int)≤114;omega,by show(114:Int) < 256;omega⟩
  ·exact h
end
section
def jS(p:Piece):Prop:=∀(i:Nat) (v:Int),[(114:Int),97,115,100][i]? =some v→p.Z 0∧p.w.cell? ⟨0,i,none⟩=some (.int .u8 v)
theorem jS.at_{p:Piece}{w:World}(h:jS p)(hl:p.Le (all w)):Tp w:=fun i v hv=>by
 obtain⟨h1,h2⟩:=h i v hv;obtain⟨h3,h4⟩:=hl 0 h1;refine⟨h3,?_⟩;rw[←h2];exact World.cell?_of_block h4
theorem jS.le{p q:Piece}(h:jS p)(hl:p.Le q):jS q:=fun i v hv=>by
 obtain⟨h1,h2⟩:=h i v hv;obtain⟨h3,h4⟩:=hl 0 h1;exact⟨h3,(World.cell?_of_block h4).trans h2⟩
def Gs(s:aD)(d:Int)(k:Nat)(p:cN×dK):cN×dK:=match s.aC[k]? with
 | some dv=>if dv.domain=d then(p.1,(nM p.2).2) else p
 | none=>p
def uM(s:aD)(x:aO)(d:Int)(n:Nat):List (cN×dK):=x.dv.mapIdx fun k p=>if k < n then Gs s d k p else p
def Eo(s:aD)(x:aO)(d:Int):aO×Bool:=
 if qD x.dm d=48∨qD x.dm d=116 then({x with dm:=(uC s x.dm d).2},false)
 else if qD x.dm d=49 then({x with dv:=uM s x d s.aC.length},true) else(x,false)
def Kv(s:aD)(x:aO)(c:Nat):aO×Bool:=
 ({x with ck:=(kZ s x.ck c true).2},qB s (kZ s x.ck c true).2 c||(decide ((fU s c).length < 2)|| !qB s (kZ s x.ck c true).2 ((fU s c).getD 1 0:Nat)))
def Gl(x:aO)(i:Int):aO×Bool:=if Aj x.ln i then({x with ln:=(vI x.ln i).2},false) else(x,true)
theorem aHE{x:dK}(h:Bt x):Bt (nM x).2:=by
 unfold nM;split
 ·exact h
 ·exact⟨by show(0:Int)≤0;omega,by show(0:Int)≤3;omega⟩
theorem aD0{s:aD}{x:aO}(hH:s.dG)(hok:cF s x)(d:Int)(n:Nat):cF s {x with dv:=uM s x d n}:=Vk hH hok (by simp[uM]) fun i e p hd hp=>by
 rw[uM,List.getElem?_mapIdx] at hp;cases hq:x.dv[i]? with
 | none=>rw[hq] at hp;cases hp
 | some q =>
  rw[hq] at hp;obtain⟨h1,h2⟩:=hok.each i e q hd hq;simp only[Option.map_some,Option.some.injEq] at hp;subst hp;split
  ·unfold Gs;rw[hd];dsimp only;split
   ·exact⟨h1,aHE h2⟩
   ·exact⟨h1,h2⟩
  ·exact⟨h1,h2⟩
section
variable{N:bZ}{w0 w:World}{e:Env}{R:List Piece}{H:List HP}{Q:Exit→Act→World→Prop}{ops:Array Oper}{rest:List Oper}{K:Act→World→Prop}
variable{d:Nat}{ty:TypeId}{pos:String}{aH:Array Edge}{f h:Nat}{L:gF}{s:aD}{z:bX}
theorem aF5(n:Nat)(Φ:List Value→Prop){x:Operand}{t:TypeId}{b o:Nat}[hT:nH t n](hx:e.ev x=some (.pointer (some ⟨b,o,none⟩)))(h:∀w,St w0 R H w→∃vs,eC w b o vs∧vs.length=n∧Φ vs)(k:∀vs,Φ vs→XK N w0 (wpList Tryz.prog ops Q rest) ((d,.agg vs.toArray)::e) R H)(hd:d < N.n:=by decide):
  XK N w0 (wpList Tryz.prog ops Q (⟨some d,.load t x,ty,pos,aH,none⟩::rest)) e R H:=vE rfl fun a w hr st=>by
 obtain⟨vs,h1,h2,h3⟩:=h w st;exact⟨.agg vs.toArray,w,aIW (N:=N) (w0:=w) (R:=[all w]) (H:=[]) (d:=d) (ty:=ty) (pos:=pos) (aH:=aH) n hT.h hx (yX (by simp) h1) h2 a w hr (St.start w),k vs h3 _ _ (hr.put hd _) st⟩
theorem aJP(j:Nat)(hj:H[j]? =some (iP f h L s z))(hn:0 < s.aC.length)(k:∀b off,L.a4.1=some ⟨b,off,none⟩→XK N w0 K e R H):XK N w0 K e R H:=fun a w hr st=>by
 obtain⟨b,off,r,hA,_⟩:=jN.row (st.Fm j hj).so.dev (List.getElem?_eq_getElem hn);exact k b off hA a w hr st
def aFr(d:bO)(vs:List Value):Prop:=∃A n k A' n' k',vs=[iv d.clock,iv d.domain,iv d.reset,.int .u32 d.iT,.slice A n k,.slice A' n' k']
theorem aIA{i b off:Nat}{d:bO}(kf:Li w f h L s z)(hA:L.a4.1=some ⟨b,off,none⟩)(hd:s.aC[i]? =some d):∃vs,eC w b (off+i*6) vs∧vs.length=6∧aFr d vs:=by
 obtain⟨b',off',r,rX,hl,⟨A,n,k,A',n',k',he,_⟩,hro⟩:=jN.row kf.so.dev hd;rw[hA] at rX;cases rX;exact⟨r,hro,hl,A,n,k,A',n',k',he⟩
end
variable(f:Nat)(hL:HL)(s:aD)(z:bX)(x:aO)(w:World)
theorem aQ5(hH:s.dG)(aV:gX hL s)(hok:cF s x)(d:Int)(F:Nat→Prop)(hp:(gT f hL s z x).sat F w)(hF:∀b,F b→b < w.heap.size)(eY:jS ⟨w,fun b=>b < w.heap.size∧¬F b⟩):
  Cz 100 #[pt f,iv d] w (Wr (.bool (Eo s x d).2) (gT f hL s z (Eo s x d).1) w F):=by
 have nB:=hH.t.nv
 have iY:=hok.dv
 refine dJ func100 ntmps100 hp hF ?_;generalize cK:(⟨w,fun b=>b < w.heap.size∧¬F b⟩:Piece)=R0 at eY⊢;refine bF 0 0 ?_;refine lV 0 fun L=>?_;refine bF 1 1 ?_;refine aA ?_;refine kd (bM rfl (Rd.eZ 1 rfl rfl)) ?_;refine aA ?_;refine aU (fun w1 t=>aDT hL s x w1 hok.dm d (t.nD 0 rfl aV hok)) ?_;unfold Eo;generalize oP:qD x.dm d=ph
 by_cases h48:ph=48
 ·subst h48;rw[if_pos (.inl rfl)];refine aA ?_;refine kd (bM rfl (Rd.eZ 1 rfl rfl)) ?_;refine aA ?_;refine dU 0 (dS hL s {x with dm:=(uC s x.dm d).2}) (fun w1 F1 t h1 h2 h3=>aIj hL s x w1 hH aV hok d F1 h1 h2) ?_;refine aA ?_;refine aN 1 1 ?_;refine fC 0 (fun L:gF=>iP f hL.h L s z) L ?_;refine aN 0 0 ?_;subst cK;exact cH 0 hF
 by_cases Xn:ph=116
 ·subst Xn;rw[if_pos (.inr rfl)];refine aA ?_;refine kd (bM rfl (Rd.eZ 1 rfl rfl)) ?_;refine aA ?_;refine dU 0 (dS hL s {x with dm:=(uC s x.dm d).2}) (fun w1 F1 t h1 h2 h3=>aIj hL s x w1 hH aV hok d F1 h1 h2) ?_;refine aA ?_;refine aN 1 1 ?_;refine fC 0 (fun L:gF=>iP f hL.h L s z) L ?_;refine aN 0 0 ?_;subst cK;exact cH 0 hF
 rw[if_neg (by omega)]
 by_cases wT:ph=49
 ·subst wT;rw[if_pos rfl];refine aA ?_;refine kd (bM rfl (Rd.eZ 1 rfl rfl)) ?_;refine aA ?_
  have hm0:uM s x d 0=x.dv:=Qb _ _
  refine bJ [(31,iv (0)),(30,iv s.aC.length),(29,.slice L.a4.1 s.aC.length L.a4.2),(0,pt f),(1,iv d)] ?_;refine eI (fun m e R H=>∃i:Nat,i≤s.aC.length∧m=s.aC.length - i∧e=[(31,iv (i:Int)),(30,iv s.aC.length),(29,.slice L.a4.1 s.aC.length L.a4.2),(0,pt f),(1,iv d)]∧R=[R0]∧H=[dS hL s {x with dv:=uM s x d i},iP f hL.h L s z,HP.many [cG,cG]]) s.aC.length ⟨0,by omega,rfl,rfl,rfl,by rw[hm0]⟩ fun m e R H hI=>?_;obtain⟨i,hi,rfl,rfl,rfl,rfl⟩:=hI
  have nP:=aD0 hH hok d i
  refine aA ?_;refine aG rfl (fun hlt=>?_) (fun hge=>?_)
  ·have hlt:i < s.aC.length:=by omega
   obtain⟨dv,dD⟩:=get_some hlt;obtain⟨p,gK⟩:=get_some (l:=x.dv) (i:=i) (by omega)
   have lR:(uM s x d i)[i]? =some p:=Qd gK
   have hstep:(uM s x d i).set i (Gs s d i p)=uM s x d (i+1):=Qc (f:=Gs s d) gK
   obtain⟨q1,q2⟩:=(nP.each i dv p dD lR).2;refine aJP 1 rfl (by omega) fun b off hA=>?_;refine aA ?_;refine kd (dat i (off+i*6) (hx:=by rw[←hA];rfl)) ?_;refine aF5 6 (aFr dv) rfl (fun w1 t=>aIA (t.Fm 1 rfl) hA dD) ?_;rintro _ ⟨A,n,k,A',n',k',rfl⟩;refine bR fun g1=>?_;refine aA ?_;refine aG rfl (fun he=>?_) (fun he=>?_)
   ·have nC:Gs s d i p=p:=by
     unfold Gs;rw[dD];exact if_neg he
    rw[nC,xY lR] at hstep;rw[hstep];refine aA ?_;refine aY [1,2,3] rfl (by decide) (fun _ h=>h) ?_;exact dY (s.aC.length - (i+1)) ⟨i+1,hlt,rfl,rfl,rfl,rfl⟩
   ·have he:dv.domain=d:=by simpa using he
    have nC:Gs s d i p=(p.1,(nM p.2).2):=by
     unfold Gs;rw[dD];exact if_pos he
    have hst:uF {x with dv:=uM s x d i} i=qF p.2.at_:=by
     unfold uF;dsimp only;rw[lR];rfl
    refine aA ?_;refine kd (bM rfl (Rd.eZ 2 rfl rfl)) ?_;refine aA ?_;refine aU (fun w1 t=>aIk hL s _ w1 aV nP i hlt (eY.at_ (t.le (by simp))) (t.nD 1 rfl aV nP)) ?_;rw[hst]
    by_cases ha:p.2.at_=2∨p.2.at_=3
    ·have hlf:qF p.2.at_=115∨qF p.2.at_=100:=by
      rcases ha with ha | ha<;>rw[ha]
      ·exact .inl rfl
      ·exact .inr rfl
     rcases hlf with hlf | hlf<;>rw[hlf]
     all_goals
      refine aA ?_;refine kd (bM rfl (Rd.eZ 2 rfl rfl)) ?_;refine aA ?_;refine zI (α:=Int) 1 (f:=176) (fi:=[]) (ca:=[]) (fun r=>iv r) (fun _=>dS hL s (zX {x with dv:=uM s x d i} i)) (fun _=>True) (by kernel_rfl) rfl rfl rfl (by decide) (fun w1 F1 t h1 h2 h3=>aDU hL s _ w1 hH aV nP i hlt F1 h1 h2) ?_;rintro _ _;dsimp only[List.set]
      have hX:zX {x with dv:=uM s x d i} i={x with dv:=uM s x d (i+1)}:=by
       unfold zX;dsimp only;rw[lR,←hstep,nC]
      rw[hX];refine aA ?_;refine aY [1,2,3] rfl (by decide) (fun _ h=>h) ?_;exact dY (s.aC.length - (i+1)) ⟨i+1,hlt,rfl,rfl,rfl,rfl⟩
    ·have hq:(nM p.2).2=p.2:=by
      unfold nM;rw[if_pos (by omega)]
     have hlf:qF p.2.at_=114∨qF p.2.at_=97:=by
      have:p.2.at_=0∨p.2.at_=1:=by omega
      rcases this with ha | ha<;>rw[ha]
      ·exact .inl rfl
      ·exact .inr rfl
     rw[nC,hq,xY lR] at hstep;rcases hlf with hlf | hlf<;>rw[hlf,hstep]
     all_goals
      refine aA ?_;refine aY [1,2,3] rfl (by decide) (fun _ h=>h) ?_;exact dY (s.aC.length - (i+1)) ⟨i+1,hlt,rfl,rfl,rfl,rfl⟩
  obtain rfl:i=s.aC.length:=by omega
  refine aA ?_;refine aN 1 1 ?_;refine fC 0 (fun L:gF=>iP f hL.h L s z) L ?_;refine aN 0 0 ?_;subst cK;exact cH 0 hF
 ·rw[if_neg wT];refine aA ?_;refine aG rfl (fun h=>absurd h h48) (fun _=>?_);refine aA ?_;refine aG rfl (fun h=>absurd h Xn) (fun _=>?_);refine aA ?_;refine aG rfl (fun h=>absurd h wT) (fun _=>?_);refine aA ?_;refine aN 1 1 ?_;refine fC 0 (fun L:gF=>iP f hL.h L s z) L ?_;refine aN 0 0 ?_;subst cK;exact cH 0 hF
theorem aQ4(hH:s.dG)(aV:gX hL s)(hok:cF s x)(i:Int)(F:Nat→Prop)(hp:(gT f hL s z x).sat F w)(hF:∀b,F b→b < w.heap.size):
  Cz 104 #[pt f,iv i] w (Wr (.bool (Gl x i).2) (gT f hL s z (Gl x i).1) w F):=by
 refine dJ func104 ntmps104 hp hF ?_;generalize cK:(⟨w,fun b=>b < w.heap.size∧¬F b⟩:Piece)=R0;refine bF 0 0 ?_;refine lV 0 fun L=>?_;refine bF 1 1 ?_;refine aA ?_;refine kd (bM rfl (Rd.eZ 1 rfl rfl)) ?_;refine aA ?_;refine aU (fun w1 t=>aPB hL s x w1 i (t.nD 0 rfl aV hok)) ?_;unfold Gl;cases hh:Aj x.ln i
 ·refine aA ?_;refine aN 1 1 ?_;refine fC 0 (fun L:gF=>iP f hL.h L s z) L ?_;refine aN 0 0 ?_;subst cK;exact cH 0 hF
 ·refine aA ?_;refine kd (bM rfl (Rd.eZ 1 rfl rfl)) ?_;refine aA ?_;refine dU 0 (dS hL s {x with ln:=(vI x.ln i).2}) (fun w1 F1 t h1 h2 h3=>aP9 hL s x w1 hH aV hok i F1 h1 h2) ?_;refine aA ?_;refine aN 1 1 ?_;refine fC 0 (fun L:gF=>iP f hL.h L s z) L ?_;refine aN 0 0 ?_;subst cK;exact cH 0 hF
theorem aQ9(hH:s.dG)(aV:gX hL s)(hok:cF s x)(c:Nat)(hc:c < s.aF.length)(F:Nat→Prop)(hp:(gT f hL s z x).sat F w)(hF:∀b,F b→b < w.heap.size):
  Cz 102 #[pt f,iv (c:Int)] w (Wr (.bool (Kv s x c).2) (gT f hL s z (Kv s x c).1) w F):=by
 refine dJ func102 ntmps102 hp hF ?_;generalize cK:(⟨w,fun b=>b < w.heap.size∧¬F b⟩:Piece)=R0;refine bF 0 0 ?_;refine lV 0 fun L=>?_;refine bF 1 1 ?_;refine aA ?_;refine kd (bM rfl (Rd.eZ 1 rfl rfl)) ?_;refine aA ?_;refine dU 0 (dS hL s {x with ck:=(kZ s x.ck c true).2}) (fun w1 F1 t h1 h2 h3=>aIo hL s x w1 hH aV hok c true F1 h1 h2) ?_
 have mM:cF s {x with ck:=(kZ s x.ck c true).2}:=⟨Vj hH hok.ck _ _,hok.dm,hok.ln,hok.dv,hok.each,hok.wt⟩
 unfold Kv;generalize yB:({x with ck:=(kZ s x.ck c true).2}:aO)=x2 at mM⊢
 have yI:(kZ s x.ck c true).2=x2.ck:=by rw[←yB]
 rw[yI];refine aA ?_;refine kd (bM rfl (Rd.eZ 1 rfl rfl)) ?_;refine aA ?_;refine aU (fun w1 t=>aIl hL s x2 w1 hH c (t.nD 0 rfl aV mM)) ?_;cases hr:qB s x2.ck c
 ·refine aA ?_;refine kd (oZ rfl (aQ.eZ 1 rfl (vs:=[.slice L.a1.1 s.aF.length L.a1.2,.slice L.a2.1 s.domains.length L.a2.2,.slice L.a3.1 s.aT.length L.a3.2,.slice L.a4.1 s.aC.length L.a4.2]) rfl)) ?_;refine aA ?_;refine jP [] (Iv (fU s c)) (fun w1 t=>aB7 (all w1) s _ _ _ _ _ L.a1.2 _ L.a2.2 _ L.a3.2 _ L.a4.2 c w1 (t.Fm 1 rfl).so hH.t (Piece.Le.refl _) hc) ?_;rintro _ w1 qm ⟨Ac,cc,rfl,iA⟩ hf _ _
  have iA:=iA.le hf
  clear hf;refine aA ?_;rcases kC:fU s c with _ | ⟨c0,_ | ⟨c1,cr⟩⟩
  ·refine mG ?_;refine jA ?_;refine aA ?_;refine aN 1 1 ?_;refine fC 0 (fun L:gF=>iP f hL.h L s z) L ?_;refine aN 0 0 ?_;subst cK;exact cH 0 hF
  ·refine mG ?_;refine jA ?_;refine aA ?_;refine aN 1 1 ?_;refine fC 0 (fun L:gF=>iP f hL.h L s z) L ?_;refine aN 0 0 ?_;subst cK;exact cH 0 hF
  ·rw[kC] at iA;obtain⟨b,off,hA,hb,oY⟩:=iA.2 (by simp)
   have r1:Rd w [qm,R0] [dS hL s x2,iP f hL.h L s z,HP.many [cG,cG]] b (off+1) (iv (c1:Int)):=Rd.ro (p:=qm) (by simp) hb (oY 1 _ rfl)
   have hlen:decide ((c0::c1::cr).length < 2)=false:=by simp
   rw[hlen];refine mG ?_;refine iZ ?_;refine Nx 27 rfl (fun h=>absurd h (by simp;omega)) (fun _=>?_);refine iZ ?_;refine xA (bM rfl (Rd.eZ 1 rfl rfl)) ?_;refine iZ ?_;refine xA (dat 1 (off+1) (hx:=by rw[←hA];rfl) (hlt:=by simp)) ?_;refine iZ ?_;refine tR (fun w1 t=>aIl hL s x2 w1 hH c1 (t.nD 0 rfl aV mM)) ?_;refine jA ?_;refine aA ?_;refine aN 1 1 ?_;refine fC 0 (fun L:gF=>iP f hL.h L s z) L ?_;refine aN 0 0 ?_;subst cK;exact cH 0 hF
 ·refine aA ?_;refine aN 1 1 ?_;refine fC 0 (fun L:gF=>iP f hL.h L s z) L ?_;refine aN 0 0 ?_;subst cK;exact cH 0 hF
end
section
def Hy(k:Int):Value:=
 if k=117 then .func (.func 100) #[] #[] else if k=100∨k=107 then .func (.func 101) #[] #[]
 else if k=99 then .func (.func 102) #[] #[] else if k=111 then .func (.func 103) #[] #[]
 else if k=114 then .func (.func 104) #[] #[] else .func (.func 105) #[] #[]
theorem aIR(k:Int)(w:World):Cz 51 #[.int .u8 k] w (Rt (Hy k) w):=by
 refine aL func51 ntmps51 ?_;refine aA ?_;refine aG rfl (fun h1=>?_) (fun h1=>?_)
 ·refine aA ?_;exact dF (by rw[Hy,if_pos h1])
 refine aA ?_;refine aG rfl (fun h2=>?_) (fun h2=>?_)
 ·refine aA ?_;refine aG rfl (fun _=>?_) (fun h=>absurd h2 h);refine aA ?_;exact dF (by rw[Hy,if_neg h1,if_pos (.inl h2)])
 refine aA ?_;refine aG rfl (fun h3=>?_) (fun h3=>?_)
 ·refine aA ?_;exact dF (by rw[Hy,if_neg h1,if_pos (.inr h3)])
 have h23:¬(k=100∨k=107):=by omega
 refine aA ?_;refine aG rfl (fun h4=>?_) (fun h4=>?_)
 ·refine aA ?_;exact dF (by rw[Hy,if_neg h1,if_neg h23,if_pos h4])
 refine aA ?_;refine aG rfl (fun h5=>?_) (fun h5=>?_)
 ·refine aA ?_;exact dF (by rw[Hy,if_neg h1,if_neg h23,if_neg h4,if_pos h5])
 refine aA ?_;refine aG rfl (fun h6=>?_) (fun h6=>?_)
 ·refine aA ?_;exact dF (by rw[Hy,if_neg h1,if_neg h23,if_neg h4,if_neg h5,if_pos h6])
 refine aA ?_;exact dF (by rw[Hy,if_neg h1,if_neg h23,if_neg h4,if_neg h5,if_neg h6])
theorem aDy{P:Program}{fn:Func}{R:Ending→World→Prop}(hr:fn.results=#[]){t1 t2:Array Value}:∀(ds:List Deferred) (u:FrameMode) (w:World),Leaves P fn t1 R ds u w→Leaves P fn t2 R ds u w
 | [],.returning,w,h=>by
  obtain⟨v,h1,h2⟩:=h;rw[results_none hr] at h1;cases h1;exact⟨_,results_none hr _ _ _,h2⟩
 | [],.panicking _,_,h=>h
 | [],.run,_,h=>h
 | d::ds,u,w,h=>by
  obtain⟨h1,fv,cap,f,args,h2,h3,h4⟩:=h;refine⟨h1,fv,cap,f,args,h2,h3,h4.mono fun y u' w' hy=>?_⟩;cases y with
  | returned v=>exact aDy hr ds _ _ hy
  | panicked c=>exact aDy hr ds _ _ hy
  | outgrown=>exact hy
theorem mQ{P:Program}{fn:Func}{R:Ending→World→Prop}{c:List PanicEntry}{a:Act}{d:Option Nat}{v:Value}{w:World}(hr:fn.results=#[])(h:bodyPostD P fn R (.panic c) (a.put d v) w):bodyPostD P fn R (.panic c) a w:=by
 have hd:(a.put d v).defers=a.defers:=by cases d<;>rfl
 have h2:Leaves P fn (a.put d v).tmps R (a.put d v).defers (.panicking c) w:=h
 rw[hd] at h2;exact aDy hr _ _ _ h2
def aFw(f:Nat)(hL:HL)(s:aD)(z:bX)(x:aO)(r:aO×Bool):Prop:=
 ∃fn:FuncId,Hy z.kind=.func (.func fn) #[] #[]∧fH Tryz.prog fn=true∧cF s r.1∧∀(w:World) (F:Nat→Prop),(gT f hL s z x).sat F w→(∀b,F b→b < w.heap.size)→jS ⟨w,fun b=>b < w.heap.size∧¬F b⟩→
  Cz fn #[pt f,iv z.id] w (Wr (.bool r.2) (gT f hL s z r.1) w F)
def wV(s:aD)(z:bX)(r:aO×Bool):bX:=if r.2 then wN s r.1 {z with at_:= -1} z.at_.toNat 0 else z
section
variable(f:Nat)(hL:HL)(s:aD)(z:bX)(x:aO)(w:World)
theorem aQ1(hH:s.dG)(aV:gX hL s)(hok:cF s x)(hz:Ds s z)(a:Nat)(ha:z.at_=(a:Int))(vU:a < 2)(r:aO×Bool)(hact:aFw f hL s z x r)(Et:tU (kT z a))(F:Nat→Prop)(hp:(gT f hL s z x).sat F w)(hF:∀b,F b→b < w.heap.size)(eY:jS ⟨w,fun b=>b < w.heap.size∧¬F b⟩):
  Cz 20 #[pt f] w (Wr (.tuple #[]) (gT f hL s (wV s z r) r.1) w F):=by
 obtain⟨fn,dI,hcb,Wf,Au⟩:=hact;refine Zl (vs:=[pt f]) (p:=gT f hL s z x) func20 rfl ntmps20 (by simp) hp hF ?_;generalize cK:(⟨w,fun b=>b < w.heap.size∧¬F b⟩:Piece)=R0 at eY⊢;refine aA ?_;refine Tv (f:=49) (fi:=[]) (ca:=[]) rfl ?_;refine aA ?_;refine kd (bM rfl (Iu 0 rfl fun _=>rfl)) ?_;refine aA ?_;refine bU (t:=8) rfl (fun h=>absurd h (by omega)) (fun _=>?_);refine aA ?_;refine jL [1,2,3,4,8,9,10,11] ?_;refine bP 0 ?_ (hQ:=fun _ _ _ h=>mQ rfl h);refine bP 6 ?_ (hQ:=fun _ _ _ h=>mQ rfl h);refine bP 7 ?_ (hQ:=fun _ _ _ h=>mQ rfl h);refine aJ 1 ?_ (hQ:=fun _ _ _ h=>mQ rfl h);refine aJ 2 ?_ (hQ:=fun _ _ _ h=>mQ rfl h);refine aJ 3 ?_ (hQ:=fun _ _ _ h=>mQ rfl h);refine aJ 4 ?_ (hQ:=fun _ _ _ h=>mQ rfl h) (dI:=bM rfl (Iu 0 rfl fun _=>rfl));refine aJ 8 ?_ (hQ:=fun _ _ _ h=>mQ rfl h);refine aJ 9 ?_ (hQ:=fun _ _ _ h=>mQ rfl h);refine aJ 10 ?_ (hQ:=fun _ _ _ h=>mQ rfl h);refine aJ 11 ?_ (hQ:=fun _ _ _ h=>mQ rfl h) (dI:=bM rfl (Iu 0 rfl fun _=>rfl));refine aM 5 ?_;refine aU (fun w1 t=>aIR z.kind w1) ?_;rw[dI];refine bL ?_;refine aM 12 ?_;refine aAT 0 (fi:=[]) (ca:=[]) (gT f hL s z r.1) (fun w1 F1 t h1 h2 h3=>by simpa using Au w1 F1 h1 h2 (jS.le eY (h3 _ (by simp)))) ?_ (hf:=hcb);dsimp only[List.set];refine cX ?_;refine fJ ?_;refine aA ?_;obtain⟨x',b⟩:=r;dsimp only at Wf⊢;cases b
 ·refine aA ?_;subst cK;exact Bj (.inr rfl) (by kernel_rfl) Xt rfl fun w1 t=>⟨rfl,t.turns hF (by simp) (i:=0) rfl⟩
 ·refine aA ?_;refine kd (bM rfl (Iu 0 rfl fun _=>rfl)) ?_;refine aA ?_;refine bF 0 0 ?_;refine lV 0 fun L=>?_;refine bF 0 0 ?_;refine fG rfl rfl ?_ (hs:=fB.mk 0 rfl cJ.h rfl (by simp[jV]));dsimp only[List.set];rw[show(jV hL.h L s z).set (0+16) (iv (-1))=jV hL.h L s {z with at_:= -1} from rfl];refine aN 0 0 ?_;refine fC 0 (fun L:gF=>iP f hL.h L s {z with at_:= -1}) L ?_;refine aN 0 0 ?_;refine aA ?_;rw[ha];refine dU 0 (gT f hL s (wN s x' {z with at_:= -1} a 0) x') (fun w1 F1 t h1 h2 h3=>aEi f hL s {z with at_:= -1} x' hH aV Wf a vU 0 (fun _=>Et) w1 F1 h1 h2) ?_;refine aA ?_
  have hend:wV s z (x',true)=wN s x' {z with at_:= -1} a 0:=by
   unfold wV;rw[if_pos rfl,ha];rfl
  rw[hend];subst cK;exact Bj (.inr rfl) (by kernel_rfl) Xt rfl fun w1 t=>⟨rfl,t.turns hF (by simp) (i:=0) rfl⟩
end
end
section
def Gu(s:aD)(d:Int)(k:Nat)(p:cN×dK):cN×dK:=match s.aC[k]? with
 | some dv=>if dv.domain=d then(p.1,if p.2.at_=3 then(nM p.2).2 else if p.2.at_=0 then(sB p.2).2 else p.2) else p
 | none=>p
def jF(s:aD)(x:aO)(d:Int)(n:Nat):List (cN×dK):=x.dv.mapIdx fun k p=>if k < n then Gu s d k p else p
def Pt(s:aD)(x:aO)(d:Int)(k:Nat):Bool:=match s.aC[k]?,x.dv[k]? with
 | some dv,some p=> !decide (dv.domain=d)||decide (p.2.at_=2)
 | _,_=>true
def Cp(s:aD)(x:aO)(d:Int)(n:Nat):Bool:=(List.range n).all (Pt s x d)
theorem aOZ(s:aD)(x:aO)(d:Int)(n:Nat):Cp s x d (n+1)=(Cp s x d n&&Pt s x d n):=by simp[Cp,List.range_succ]
theorem aSE{x:dK}(h:Bt x):Bt (sB x).2:=by
 unfold sB;split
 ·exact h
 ·exact⟨by show(0:Int)≤1;omega,by show(1:Int)≤3;omega⟩
theorem aBa{s:aD}{x:aO}(hH:s.dG)(hok:cF s x)(d:Int)(n:Nat):cF s {x with dv:=jF s x d n}:=Vk hH hok (by simp[jF]) fun i e p hd hp=>by
 rw[jF,List.getElem?_mapIdx] at hp;cases hq:x.dv[i]? with
 | none=>rw[hq] at hp;cases hp
 | some q =>
  rw[hq] at hp;obtain⟨h1,h2⟩:=hok.each i e q hd hq;simp only[Option.map_some,Option.some.injEq] at hp;subst hp;split
  ·unfold Gu;rw[hd];dsimp only;split
   ·refine⟨h1,?_⟩;dsimp only;split
    ·exact aHE h2
    ·split
     ·exact aSE h2
     ·exact h2
   ·exact⟨h1,h2⟩
  ·exact⟨h1,h2⟩
variable(f:Nat)(hL:HL)(s:aD)(z:bX)(x:aO)(w:World)
theorem aQ8(hH:s.dG)(aV:gX hL s)(hok:cF s x)(d:Int)(F:Nat→Prop)(hp:(gT f hL s z x).sat F w)(hF:∀b,F b→b < w.heap.size)(eY:jS ⟨w,fun b=>b < w.heap.size∧¬F b⟩):
  Cz 177 #[pt f,iv d] w (Wr (.bool (Cp s x d s.aC.length)) (gT f hL s z {x with dv:=jF s x d s.aC.length}) w F):=by
 have nB:=hH.t.nv
 have iY:=hok.dv
 refine dJ func177 ntmps177 hp hF ?_;generalize cK:(⟨w,fun b=>b < w.heap.size∧¬F b⟩:Piece)=R0 at eY⊢;refine bF 0 0 ?_;refine lV 0 fun L=>?_;refine bF 1 1 ?_;refine aA ?_;refine kd (bM rfl (Rd.eZ 1 rfl rfl)) ?_;refine aA ?_
 have hm0:jF s x d 0=x.dv:=Qb _ _
 refine bJ [(15,iv (0)),(14,iv s.aC.length),(13,.slice L.a4.1 s.aC.length L.a4.2),(5,.bool true),(0,pt f),(1,iv d)] ?_;refine eI (fun m e R H=>∃(i:Nat) (b:Bool),i≤s.aC.length∧m=s.aC.length - i∧b=Cp s x d i∧e=[(15,iv (i:Int)),(14,iv s.aC.length),(13,.slice L.a4.1 s.aC.length L.a4.2),(5,.bool b),(0,pt f),(1,iv d)]∧R=[R0]∧H=[dS hL s {x with dv:=jF s x d i},iP f hL.h L s z,HP.many [cG,cG]]) s.aC.length ⟨0,true,by omega,rfl,rfl,rfl,rfl,by rw[hm0]⟩ fun m e R H hI=>?_;obtain⟨i,b0,hi,rfl,hb0,rfl,rfl,rfl⟩:=hI
 have nP:=aBa hH hok d i
 refine aA ?_;refine aG rfl (fun hlt=>?_) (fun hge=>?_)
 ·have hlt:i < s.aC.length:=by omega
  obtain⟨dv,dD⟩:=get_some hlt;obtain⟨p,gK⟩:=get_some (l:=x.dv) (i:=i) (by omega)
  have lR:(jF s x d i)[i]? =some p:=Qd gK
  have hstep:(jF s x d i).set i (Gu s d i p)=jF s x d (i+1):=Qc (f:=Gu s d) gK
  have dV:=aOZ s x d i
  have Wd:Pt s x d i=(!decide (dv.domain=d)||decide (p.2.at_=2)):=by
   unfold Pt;rw[dD,gK]
  rw[Wd,←hb0] at dV;obtain⟨q1,q2⟩:=(nP.each i dv p dD lR).2;refine aJP 1 rfl (by omega) fun b off hA=>?_;refine aA ?_;refine kd (dat i (off+i*6) (hx:=by rw[←hA];rfl)) ?_;refine aF5 6 (aFr dv) rfl (fun w1 t=>aIA (t.Fm 1 rfl) hA dD) ?_;rintro _ ⟨A,n,k,A',n',k',rfl⟩;refine bR fun g1=>?_;refine aA ?_;refine aG rfl (fun he=>?_) (fun he=>?_)
  ·have nC:Gu s d i p=p:=by
    unfold Gu;rw[dD];exact if_neg he
   rw[nC,xY lR] at hstep;rw[hstep];refine aA ?_;refine aY [1,2,3] rfl (by decide) (fun _ h=>h) ?_;refine bJ [(15,iv ((i+1:Nat):Int)),(14,iv s.aC.length),(13,.slice L.a4.1 s.aC.length L.a4.2),(5,.bool b0),(0,pt f),(1,iv d)] ?_;exact iC (s.aC.length - (i+1)) (by omega) ⟨i+1,b0,hlt,rfl,by rw[dV,decide_eq_false he];simp,rfl,rfl,rfl⟩
  ·have he:dv.domain=d:=by simpa using he
   rw[decide_eq_true he] at dV
   have hst:uF {x with dv:=jF s x d i} i=qF p.2.at_:=by
    unfold uF;dsimp only;rw[lR];rfl
   have nC:Gu s d i p=(p.1,if p.2.at_=3 then(nM p.2).2 else if p.2.at_=0 then(sB p.2).2 else p.2):=by
    unfold Gu;rw[dD];exact if_pos he
   refine aA ?_;refine kd (bM rfl (Rd.eZ 2 rfl rfl)) ?_;refine aA ?_;refine aU (fun w1 t=>aIk hL s _ w1 aV nP i hlt (eY.at_ (t.le (by simp))) (t.nD 1 rfl aV nP)) ?_;rw[hst]
   have hq4:p.2.at_=0∨p.2.at_=1∨p.2.at_=2∨p.2.at_=3:=by omega
   rcases hq4 with ha | ha | ha | ha<;>rw[ha] at nC dV⊢ <;>cases b0
   ·rw[show qF 0=114 from rfl];refine aA ?_;refine kd (bM rfl (Rd.eZ 2 rfl rfl)) ?_;refine aA ?_;refine zI (α:=Int) 1 (f:=226) (fi:=[]) (ca:=[]) (fun r=>iv r) (fun _=>dS hL s (Ij {x with dv:=jF s x d i} i)) (fun _=>True) (by kernel_rfl) rfl rfl rfl (by decide) (fun w1 F1 t h1 h2 h3=>aIp hL s _ w1 hH aV nP i hlt F1 h1 h2) ?_;rintro _ _;dsimp only[List.set]
    have hX:Ij {x with dv:=jF s x d i} i={x with dv:=jF s x d (i+1)}:=by
     unfold Ij;dsimp only;rw[lR,←hstep,nC];rfl
    rw[hX];refine aA ?_;refine aY [1,2,3] rfl (by decide) (fun _ h=>h) ?_;refine bJ [(15,iv ((i+1:Nat):Int)),(14,iv s.aC.length),(13,.slice L.a4.1 s.aC.length L.a4.2),(5,.bool false),(0,pt f),(1,iv d)] ?_;exact iC (s.aC.length - (i+1)) (by omega) ⟨i+1,false,hlt,rfl,by rw[dV];rfl,rfl,rfl,rfl⟩
   ·rw[show qF 0=114 from rfl];refine aA ?_;refine kd (bM rfl (Rd.eZ 2 rfl rfl)) ?_;refine aA ?_;refine zI (α:=Int) 1 (f:=226) (fi:=[]) (ca:=[]) (fun r=>iv r) (fun _=>dS hL s (Ij {x with dv:=jF s x d i} i)) (fun _=>True) (by kernel_rfl) rfl rfl rfl (by decide) (fun w1 F1 t h1 h2 h3=>aIp hL s _ w1 hH aV nP i hlt F1 h1 h2) ?_;rintro _ _;dsimp only[List.set]
    have hX:Ij {x with dv:=jF s x d i} i={x with dv:=jF s x d (i+1)}:=by
     unfold Ij;dsimp only;rw[lR,←hstep,nC];rfl
    rw[hX];refine aA ?_;refine aY [1,2,3] rfl (by decide) (fun _ h=>h) ?_;refine bJ [(15,iv ((i+1:Nat):Int)),(14,iv s.aC.length),(13,.slice L.a4.1 s.aC.length L.a4.2),(5,.bool false),(0,pt f),(1,iv d)] ?_;exact iC (s.aC.length - (i+1)) (by omega) ⟨i+1,false,hlt,rfl,by rw[dV];rfl,rfl,rfl,rfl⟩
   ·rw[show qF 1=97 from rfl];rw[nC,show(if(1:Int)=3 then(nM p.2).2 else if(1:Int)=0 then(sB p.2).2 else p.2)=p.2 from rfl,xY lR] at hstep;rw[hstep];refine aA ?_;refine aY [1,2,3] rfl (by decide) (fun _ h=>h) ?_;refine bJ [(15,iv ((i+1:Nat):Int)),(14,iv s.aC.length),(13,.slice L.a4.1 s.aC.length L.a4.2),(5,.bool false),(0,pt f),(1,iv d)] ?_;exact iC (s.aC.length - (i+1)) (by omega) ⟨i+1,false,hlt,rfl,by rw[dV];rfl,rfl,rfl,rfl⟩
   ·rw[show qF 1=97 from rfl];rw[nC,show(if(1:Int)=3 then(nM p.2).2 else if(1:Int)=0 then(sB p.2).2 else p.2)=p.2 from rfl,xY lR] at hstep;rw[hstep];refine aA ?_;refine aY [1,2,3] rfl (by decide) (fun _ h=>h) ?_;refine bJ [(15,iv ((i+1:Nat):Int)),(14,iv s.aC.length),(13,.slice L.a4.1 s.aC.length L.a4.2),(5,.bool false),(0,pt f),(1,iv d)] ?_;exact iC (s.aC.length - (i+1)) (by omega) ⟨i+1,false,hlt,rfl,by rw[dV];rfl,rfl,rfl,rfl⟩
   ·rw[show qF 2=115 from rfl];rw[nC,show(if(2:Int)=3 then(nM p.2).2 else if(2:Int)=0 then(sB p.2).2 else p.2)=p.2 from rfl,xY lR] at hstep;rw[hstep];refine aA ?_;refine aY [1,2,3] rfl (by decide) (fun _ h=>h) ?_;refine bJ [(15,iv ((i+1:Nat):Int)),(14,iv s.aC.length),(13,.slice L.a4.1 s.aC.length L.a4.2),(5,.bool false),(0,pt f),(1,iv d)] ?_;exact iC (s.aC.length - (i+1)) (by omega) ⟨i+1,false,hlt,rfl,by rw[dV];rfl,rfl,rfl,rfl⟩
   ·rw[show qF 2=115 from rfl];rw[nC,show(if(2:Int)=3 then(nM p.2).2 else if(2:Int)=0 then(sB p.2).2 else p.2)=p.2 from rfl,xY lR] at hstep;rw[hstep];refine aA ?_;refine aY [1,2,3] rfl (by decide) (fun _ h=>h) ?_;refine bJ [(15,iv ((i+1:Nat):Int)),(14,iv s.aC.length),(13,.slice L.a4.1 s.aC.length L.a4.2),(5,.bool true),(0,pt f),(1,iv d)] ?_;exact iC (s.aC.length - (i+1)) (by omega) ⟨i+1,true,hlt,rfl,by rw[dV];rfl,rfl,rfl,rfl⟩
   ·rw[show qF 3=100 from rfl];refine aA ?_;refine kd (bM rfl (Rd.eZ 2 rfl rfl)) ?_;refine aA ?_;refine zI (α:=Int) 1 (f:=176) (fi:=[]) (ca:=[]) (fun r=>iv r) (fun _=>dS hL s (zX {x with dv:=jF s x d i} i)) (fun _=>True) (by kernel_rfl) rfl rfl rfl (by decide) (fun w1 F1 t h1 h2 h3=>aDU hL s _ w1 hH aV nP i hlt F1 h1 h2) ?_;rintro _ _;dsimp only[List.set]
    have hX:zX {x with dv:=jF s x d i} i={x with dv:=jF s x d (i+1)}:=by
     unfold zX;dsimp only;rw[lR,←hstep,nC];rfl
    rw[hX];refine aA ?_;refine aY [1,2,3] rfl (by decide) (fun _ h=>h) ?_;refine bJ [(15,iv ((i+1:Nat):Int)),(14,iv s.aC.length),(13,.slice L.a4.1 s.aC.length L.a4.2),(5,.bool false),(0,pt f),(1,iv d)] ?_;exact iC (s.aC.length - (i+1)) (by omega) ⟨i+1,false,hlt,rfl,by rw[dV];rfl,rfl,rfl,rfl⟩
   ·rw[show qF 3=100 from rfl];refine aA ?_;refine kd (bM rfl (Rd.eZ 2 rfl rfl)) ?_;refine aA ?_;refine zI (α:=Int) 1 (f:=176) (fi:=[]) (ca:=[]) (fun r=>iv r) (fun _=>dS hL s (zX {x with dv:=jF s x d i} i)) (fun _=>True) (by kernel_rfl) rfl rfl rfl (by decide) (fun w1 F1 t h1 h2 h3=>aDU hL s _ w1 hH aV nP i hlt F1 h1 h2) ?_;rintro _ _;dsimp only[List.set]
    have hX:zX {x with dv:=jF s x d i} i={x with dv:=jF s x d (i+1)}:=by
     unfold zX;dsimp only;rw[lR,←hstep,nC];rfl
    rw[hX];refine aA ?_;refine aY [1,2,3] rfl (by decide) (fun _ h=>h) ?_;refine bJ [(15,iv ((i+1:Nat):Int)),(14,iv s.aC.length),(13,.slice L.a4.1 s.aC.length L.a4.2),(5,.bool false),(0,pt f),(1,iv d)] ?_;exact iC (s.aC.length - (i+1)) (by omega) ⟨i+1,false,hlt,rfl,by rw[dV];rfl,rfl,rfl,rfl⟩
 obtain rfl:i=s.aC.length:=by omega
 rw[←hb0];refine aA ?_;refine aN 1 1 ?_;refine fC 0 (fun L:gF=>iP f hL.h L s z) L ?_;refine aN 0 0 ?_;subst cK;exact cH 0 hF
theorem aQA(hH:s.dG)(aV:gX hL s)(hok:cF s x)(c:Int)(F:Nat→Prop)(hp:(gT f hL s z x).sat F w)(hF:∀b,F b→b < w.heap.size):
  Cz 103 #[pt f,iv c] w (Wr (.bool true) (gT f hL s z {x with ck:=(kZ s x.ck c false).2}) w F):=by
 refine dJ func103 ntmps103 hp hF ?_;generalize cK:(⟨w,fun b=>b < w.heap.size∧¬F b⟩:Piece)=R0;refine bF 0 0 ?_;refine lV 0 fun L=>?_;refine bF 1 1 ?_;refine aA ?_;refine kd (bM rfl (Rd.eZ 1 rfl rfl)) ?_;refine aA ?_;refine dU 0 (dS hL s {x with ck:=(kZ s x.ck c false).2}) (fun w1 F1 t h1 h2 h3=>aIo hL s x w1 hH aV hok c false F1 h1 h2) ?_;refine aA ?_;refine aN 1 1 ?_;refine fC 0 (fun L:gF=>iP f hL.h L s z) L ?_;refine aN 0 0 ?_;subst cK;exact cH 0 hF
def uH(s:aD)(x:aO)(d:Int)(keep:Bool):aO×Bool:=
 if qD x.dm d=49 then(if Cp s x d s.aC.length then {x with dv:=jF s x d s.aC.length,dm:=(vW s x.dm d keep).2} else {x with dv:=jF s x d s.aC.length},false)
 else if qD x.dm d=48∨qD x.dm d=116 then(x,true) else(x,false)
theorem aI6(hH:s.dG)(aV:gX hL s)(hok:cF s x)(d:Int)(F:Nat→Prop)(hp:(gT f hL s z x).sat F w)(hF:∀b,F b→b < w.heap.size)(eY:jS ⟨w,fun b=>b < w.heap.size∧¬F b⟩):
  Cz 101 #[pt f,iv d] w (Wr (.bool (uH s x d (decide (z.kind=107))).2) (gT f hL s z (uH s x d (decide (z.kind=107))).1) w F):=by
 refine dJ func101 ntmps101 hp hF ?_;generalize cK:(⟨w,fun b=>b < w.heap.size∧¬F b⟩:Piece)=R0 at eY⊢;refine bF 0 0 ?_;refine lV 0 fun L=>?_;refine bF 1 1 ?_;refine aA ?_;refine kd (bM rfl (Rd.eZ 1 rfl rfl)) ?_;refine aA ?_;refine aU (fun w1 t=>aDT hL s x w1 hok.dm d (t.nD 0 rfl aV hok)) ?_;unfold uH;generalize oP:qD x.dm d=ph
 by_cases wT:ph=49
 ·subst wT;rw[if_pos rfl];refine aN 1 1 ?_;refine fC 0 (fun L:gF=>iP f hL.h L s z) L ?_;refine aN 0 0 ?_;refine aA ?_;refine dU 0 (gT f hL s z {x with dv:=jF s x d s.aC.length}) (fun w1 F1 t h1 h2 h3=>aQ8 f hL s z x w1 hH aV hok d F1 h1 h2 (jS.le eY (h3 _ (by simp)))) ?_
  have mM:=aBa hH hok d s.aC.length
  cases hb:Cp s x d s.aC.length
  ·refine aA ?_;subst cK;exact cH 0 hF
  ·refine aA ?_;refine bF 0 0 ?_;refine lV 0 fun L2=>?_;refine bF 1 1 ?_;refine jL [1,2,3,6,7,8,9,10] ?_;refine bP 0 ?_;refine bP 4 ?_;refine bP 5 ?_;refine aJ 1 ?_;refine aJ 2 ?_;refine aJ 3 ?_ (dI:=bM rfl (Rd.eZ 1 rfl rfl));refine aJ 6 ?_;refine aJ 7 ?_;refine aJ 8 ?_;refine aJ 9 ?_ (dI:=bM rfl (Rd.eZ 1 rfl rfl));refine aJ 10 ?_;refine aM 11 ?_;refine dU 0 (dS hL s {x with dv:=jF s x d s.aC.length,dm:=(vW s x.dm d (decide (z.kind=107))).2}) (fun w1 F1 t h1 h2 h3=>aPC hL s _ w1 hH aV mM d _ F1 h1 h2) ?_;refine cX ?_;refine fJ ?_;refine aA ?_;refine aN 1 1 ?_;refine fC 0 (fun L:gF=>iP f hL.h L s z) L2 ?_;refine aN 0 0 ?_;subst cK;exact cH 0 hF
 ·rw[if_neg wT]
  by_cases h48:ph=48
  ·subst h48;rw[if_pos (.inl rfl)];refine aA ?_;refine aN 1 1 ?_;refine fC 0 (fun L:gF=>iP f hL.h L s z) L ?_;refine aN 0 0 ?_;subst cK;exact cH 0 hF
  by_cases Xn:ph=116
  ·subst Xn;rw[if_pos (.inr rfl)];refine aA ?_;refine aN 1 1 ?_;refine fC 0 (fun L:gF=>iP f hL.h L s z) L ?_;refine aN 0 0 ?_;subst cK;exact cH 0 hF
  rw[if_neg (by omega)];refine aA ?_;refine aG rfl (fun h=>absurd h wT) (fun _=>?_);refine aA ?_;refine aG rfl (fun h=>absurd h h48) (fun _=>?_);refine aA ?_;refine aG rfl (fun h=>absurd h Xn) (fun _=>?_);refine aA ?_;refine aN 1 1 ?_;refine fC 0 (fun L:gF=>iP f hL.h L s z) L ?_;refine aN 0 0 ?_;subst cK;exact cH 0 hF
end
section
def Ku(s:aD)(i:Int)(k:Nat)(p:cN×dK):cN×dK:=match s.aC[k]? with
 | some d=>if d.reset=i then(Fu d p.1,p.2) else p
 | none=>p
def Ig(s:aD)(dv:List (cN×dK))(i:Int)(n:Nat):List (cN×dK):=dv.mapIdx fun k p=>if k < n then Ku s i k p else p
def Kx(s:aD)(x:aO)(i:Int):aO:=if bN x.ln.length i then {x with ln:=(tQ s x.ln i).2,dv:=Ig s x.dv i s.aC.length} else x
theorem aJ1{s:aD}{st:List kH}(hH:s.dG)(h:Ga s st)(i:Int):Ga s (tQ s st i).2:=by
 unfold tQ;split
 ·exact h
 ·refine⟨by simp[h.len],fun y hy=>?_⟩;rcases List.mem_or_eq_of_mem_set hy with hy | rfl
  ·exact h.left y hy
  ·cases hq:s.aT[i.toNat]? with
   | none=>simp
   | some r=>
    have:=hH.aT r (List.mem_of_getElem? hq)
    simpa using this
theorem aSj{d:bO}{f:cN}(hr:∀r∈d.aP,0≤r.reset∧r.reset≤6)(h:zA d f):zA d (Fu d f):=aJb 108 hr h
theorem aJh{s:aD}{x:aO}(hH:s.dG)(hok:cF s x)(i:Int)(n:Nat):cF s {x with dv:=Ig s x.dv i n}:=Vk hH hok (by simp[Ig]) fun k d p hd hp=>by
 rw[Ig,List.getElem?_mapIdx] at hp;cases hq:x.dv[k]? with
 | none=>rw[hq] at hp;cases hp
 | some q =>
  rw[hq] at hp;obtain⟨h1,h2⟩:=hok.each k d q hd hq;simp only[Option.map_some,Option.some.injEq] at hp;subst hp;split
  ·unfold Ku;rw[hd];dsimp only;split
   ·exact⟨aSj (hH.t.aC k d hd).2.2.2.2.2.2.2.2.2.1 h1,h2⟩
   ·exact⟨h1,h2⟩
  ·exact⟨h1,h2⟩
theorem aSD{s:aD}{x:aO}(hH:s.dG)(hok:cF s x)(i:Int):cF s (Kx s x i):=by
 unfold Kx;split
 ·have h:=aJh hH hok i s.aC.length
  exact⟨hok.ck,hok.dm,aJ1 hH hok.ln i,h.dv,h.each,hok.wt⟩
 ·exact hok
section
variable(L:HL)(s:aD)(x:aO)(w:World)
theorem aPE(hH:s.dG)(aV:gX L s)(hok:cF s x)(i:Int)(F:Nat→Prop)(hp:(dS L s x).sat F w)(hF:∀b,F b→b < w.heap.size):
  Cz 183 #[.pointer (some ⟨L.h,0,none⟩),iv i] w (Wr (iv (tQ s x.ln i).1) (dS L s (Kx s x i)) w F):=by
 have nB:=hH.t.nv
 have hls:=aV.ds
 refine dJ func183 ntmps183 hp hF ?_;generalize cK:(⟨w,fun b=>b < w.heap.size∧¬F b⟩:Piece)=R0;refine aA ?_;refine aU (fun w1 t=>Cx L s x w1 (t.nD 0 rfl aV hok)) ?_;refine aA ?_;refine kd (bM rfl (rI 0 rfl rfl)) ?_;refine aA ?_;refine bF 0 3 ?_;refine dU 0 (qQ L.R s (tQ s x.ln i).2) (fun w1 F1 t h1 h2 h3=>aMm L.R s x.ln hok.ln i w1 F1 h1 h2) ?_;refine aN 0 3 ?_;unfold Kx;cases hin:bN x.ln.length i
 ·have e:tQ s x.ln i=(4,x.ln):=by
   unfold tQ;rw[if_pos hin]
  rw[e];refine aA ?_;subst cK;exact cH 0 hF
 ·have e1:(tQ s x.ln i).1=0:=by
   unfold tQ;rw[if_neg (by simp[hin])]
  rw[e1,if_pos rfl]
  have mM:cF s {x with ln:=(tQ s x.ln i).2}:=⟨hok.ck,hok.dm,aJ1 hH hok.ln i,hok.dv,hok.each,hok.wt⟩
  generalize Hf:(tQ s x.ln i).2=ln2 at mM⊢
  change XK _ _ _ _ _ [dS L s {x with ln:=ln2}]
  have iY:=hok.dv
  refine aA ?_;refine kd (bM rfl (rI 0 rfl rfl)) ?_;refine aA ?_
  have hm0:Ig s x.dv i 0=x.dv:=Qb _ _
  refine bJ [(25,iv 0),(24,iv s.aC.length),(23,.slice L.A s.aC.length L.c),(1,iv i)] ?_;refine eI (fun m e R H=>∃k:Nat,k≤s.aC.length∧m=s.aC.length - k∧e=[(25,iv k),(24,iv s.aC.length),(23,.slice L.A s.aC.length L.c),(1,iv i)]∧R=[R0]∧H=[dS L s {x with ln:=ln2,dv:=Ig s x.dv i k}]) s.aC.length ⟨0,by omega,rfl,rfl,rfl,by rw[hm0]⟩ fun m e R H hI=>?_;obtain⟨k,hk,rfl,rfl,rfl,rfl⟩:=hI
  have nP:=aJh hH mM i k
  dsimp only at nP;refine aA ?_;refine aG rfl (fun hlt=>?_) (fun hge=>?_)
  ·have hlt:k < s.aC.length:=by omega
   obtain⟨d,dD⟩:=get_some hlt;obtain⟨l,iS⟩:=get_some (l:=L.ds) (i:=k) (by omega);obtain⟨p,gK⟩:=get_some (l:=x.dv) (i:=k) (by omega)
   have lR:(Ig s x.dv i k)[k]? =some p:=Qd gK
   have hstep:(Ig s x.dv i k).set k (Ku s i k p)=Ig s x.dv i (k+1):=Qc (f:=Ku s i) gK
   have hfo:=(nP.each k d p dD lR).1
   refine Ny 0 rfl aV nP (by omega) fun b off hA=>?_;refine aA ?_;refine kd (dat k (off+k*6) (hx:=by rw[←hA];rfl)) ?_;refine kd (oZ rfl (aQ.dev 0 rfl aV nP hA dD iS rfl)) ?_;refine bR fun g2=>?_;refine aA ?_;refine aG rfl (fun he=>?_) (fun he=>?_)
   ·have nC:Ku s i k p=(Fu d p.1,p.2):=by
     unfold Ku;rw[dD];exact if_pos he
    refine aA ?_;refine Ss 1 k rfl dD iS lR ?_;dsimp only[List.set];refine bF 0 0 ?_;refine dU 0 (iF l.1 d (Fu d p.1)) (fun w1 F1 t h1 h2 h3=>aAA l.1 d p.1 (by have:=(hH.t.aC k d dD).2.2.2.2.2.2.2.2.1;omega) hfo w1 F1 h1 h2) ?_;refine aN 0 0 ?_;refine Tf 1 k rfl dD iS lR (p':=(Fu d p.1,p.2)) ?_;dsimp only[List.set];rw[←nC,hstep];refine aA ?_;refine aY [1] rfl (by decide) (fun _ h=>h) ?_;exact dY (s.aC.length - (k+1)) ⟨k+1,hlt,rfl,rfl,rfl,rfl⟩
   ·have nC:Ku s i k p=p:=by
     unfold Ku;rw[dD];exact if_neg he
    rw[nC,xY lR] at hstep;rw[hstep];refine aA ?_;refine aY [1] rfl (by decide) (fun _ h=>h) ?_;exact dY (s.aC.length - (k+1)) ⟨k+1,hlt,rfl,rfl,rfl,rfl⟩
  obtain rfl:k=s.aC.length:=by omega
  refine aA ?_;subst cK;exact cH 0 hF
end
theorem aQB(f:Nat)(hL:HL)(s:aD)(z:bX)(x:aO)(w:World)(hH:s.dG)(aV:gX hL s)(hok:cF s x)(c:Int)(F:Nat→Prop)(hp:(gT f hL s z x).sat F w)(hF:∀b,F b→b < w.heap.size):
  Cz 105 #[pt f,iv c] w (Wr (.bool true) (gT f hL s z (Kx s x c)) w F):=by
 refine dJ func105 ntmps105 hp hF ?_;generalize cK:(⟨w,fun b=>b < w.heap.size∧¬F b⟩:Piece)=R0;refine bF 0 0 ?_;refine lV 0 fun L=>?_;refine bF 1 1 ?_;refine aA ?_;refine kd (bM rfl (Rd.eZ 1 rfl rfl)) ?_;refine aA ?_;refine dU 0 (dS hL s (Kx s x c)) (fun w1 F1 t h1 h2 h3=>aPE hL s x w1 hH aV hok c F1 h1 h2) ?_;refine aA ?_;refine aN 1 1 ?_;refine fC 0 (fun L:gF=>iP f hL.h L s z) L ?_;refine aN 0 0 ?_;subst cK;exact cH 0 hF
end
section
def nF(s:aD)(x:aO)(k id:Int):aO×Bool:=if k=117 then Eo s x id else if k=99 then Kv s x id.toNat else if k=114 then Gl x id else if k=100∨k=107 then uH s x id (decide (k=107)) else if k=111 then({x with ck:=(kZ s x.ck id false).2},true) else if k=97 then(Kx s x id,true) else(x,false)
structure Dq(s:aD)(k id:Int):Prop where
 kd:k=117∨k=99∨k=114∨k=100∨k=107∨k=111∨k=97
 c:k=99→0≤id∧id < (s.aF.length:Int)
theorem aGH{s:aD}{st:List kH}(h:Ga s st)(i:Int):Ga s (vI st i).2:=by
 unfold vI;split
 ·exact h
 ·split
  ·rename_i x hx
   split
   ·exact h
   ·refine⟨by simp[h.len],fun y hy=>?_⟩;rcases List.mem_or_eq_of_mem_set hy with hy | rfl
    ·exact h.left y hy
    ·exact h.left x (List.mem_of_getElem? hx)
  ·exact h
theorem aRi{s:aD}{st:List fD}(h:vB s st)(d:Int)(keep:Bool):vB s (vW s st d keep).2:=by
 unfold vW;split
 ·exact h
 ·split
  ·rename_i c y hc hy
   split
   ·exact h
   ·split
    ·exact h
    ·split
     ·exact h
     ·refine⟨by simp[h.len],fun z hz=>?_,fun z hz=>?_⟩
      ·rcases List.mem_or_eq_of_mem_set hz with hz | rfl
       ·exact h.left z hz
       ·exact h.left y (List.mem_of_getElem? hy)
      ·rcases List.mem_or_eq_of_mem_set hz with hz | rfl
       ·exact h.phase z hz
       ·exact⟨by show(0:Int)≤99;omega,by show(99:Int) < 256;omega⟩
  ·exact h
theorem aNz{s:aD}{x:aO}(hH:s.dG)(hok:cF s x)(d:Int)(keep:Bool):cF s (uH s x d keep).1:=by
 have h1:=aBa hH hok d s.aC.length
 unfold uH;split
 ·dsimp only;split
  ·exact⟨hok.ck,aRi hok.dm _ _,hok.ln,h1.dv,h1.each,hok.wt⟩
  ·exact h1
 ·split
  ·exact hok
  ·exact hok
theorem aEI{s:aD}{x:aO}(hH:s.dG)(hok:cF s x)(k id:Int):cF s (nF s x k id).1:=by
 unfold nF;split
 ·unfold Eo;split
  ·exact⟨hok.ck,aFQ hH hok.dm _,hok.ln,hok.dv,hok.each,hok.wt⟩
  ·split
   ·exact aD0 hH hok _ _
   ·exact hok
 ·split
  ·exact⟨Vj hH hok.ck _ _,hok.dm,hok.ln,hok.dv,hok.each,hok.wt⟩
  ·split
   ·unfold Gl;split
    ·exact⟨hok.ck,hok.dm,aGH hok.ln _,hok.dv,hok.each,hok.wt⟩
    ·exact hok
   ·split
    ·exact aNz hH hok _ _
    ·split
     ·exact⟨Vj hH hok.ck _ _,hok.dm,hok.ln,hok.dv,hok.each,hok.wt⟩
     ·split
      ·exact aSD hH hok _
      ·exact hok
section
variable(f:Nat)(hL:HL)(s:aD)(z:bX)(x:aO)(w:World)
theorem aJD(hH:s.dG)(aV:gX hL s)(hok:cF s x)(hk:Dq s z.kind z.id):aFw f hL s z x (nF s x z.kind z.id):=by
 have mM:=aEI hH hok z.kind z.id
 rcases hk.kd with h | h | h | h | h | h | h
 ·refine⟨_,by rw[h];rfl,(by kernel_rfl),mM,fun w F hp hF eY=>?_⟩;rw[h];exact aQ5 f hL s z x w hH aV hok z.id F hp hF eY
 ·refine⟨_,by rw[h];rfl,(by kernel_rfl),mM,fun w F hp hF eY=>?_⟩;obtain⟨h0,h1⟩:=hk.c h;obtain⟨c,hc⟩:∃c:Nat,z.id=c:=⟨z.id.toNat,by omega⟩
  rw[h,hc];exact aQ9 f hL s z x w hH aV hok c (by omega) F hp hF
 ·refine⟨_,by rw[h];rfl,(by kernel_rfl),mM,fun w F hp hF eY=>?_⟩;rw[h];exact aQ4 f hL s z x w hH aV hok z.id F hp hF
 ·refine⟨_,by rw[h];rfl,(by kernel_rfl),mM,fun w F hp hF eY=>?_⟩
  have:=aI6 f hL s z x w hH aV hok z.id F hp hF eY
  rw[h] at this⊢;exact this
 ·refine⟨_,by rw[h];rfl,(by kernel_rfl),mM,fun w F hp hF eY=>?_⟩
  have:=aI6 f hL s z x w hH aV hok z.id F hp hF eY
  rw[h] at this⊢;exact this
 ·refine⟨_,by rw[h];rfl,(by kernel_rfl),mM,fun w F hp hF eY=>?_⟩;rw[h];exact aQA f hL s z x w hH aV hok z.id F hp hF
 ·refine⟨_,by rw[h];rfl,(by kernel_rfl),mM,fun w F hp hF eY=>?_⟩;rw[h];exact aQB f hL s z x w hH aV hok z.id F hp hF
theorem aQz(z0:bX)(hH:s.dG)(aV:gX hL s)(hok:cF s x)(hz:Ds s z0)(fS:z0.at_ < 0)(mL:mP s x z0=(z,true))(hst:∀a,sL z0=some a→(gA s x z0 a).2.1=0→(gA s x z0 a).1=0→tU (kT z0 a))(a:Nat)(ha:z.at_=(a:Int))(vU:a < 2)(r:aO×Bool)(hact:aFw f hL s z x r)(Et:tU (kT z a))(F:Nat→Prop)(hp:(gT f hL s z0 x).sat F w)(hF:∀b,F b→b < w.heap.size)(eY:jS ⟨w,fun b=>b < w.heap.size∧¬F b⟩):
  Cz 20 #[pt f] w (Wr (.tuple #[]) (gT f hL s (wV s z r) r.1) w F):=by
 obtain⟨fn,dI,hcb,Wf,Au⟩:=hact;refine Zl (vs:=[pt f]) (p:=gT f hL s z0 x) func20 rfl ntmps20 (by simp) hp hF ?_;generalize cK:(⟨w,fun b=>b < w.heap.size∧¬F b⟩:Piece)=R0 at eY⊢;refine aA ?_;refine Tv (f:=49) (fi:=[]) (ca:=[]) rfl ?_;refine aA ?_;refine kd (bM rfl (Iu 0 rfl fun _=>rfl)) ?_;refine aA ?_;refine bU (t:=8) rfl (fun _=>?_) (fun h=>absurd fS h);refine aA ?_
 refine dU 0 (gT f hL s z x) (fun w1 F1 t h1 h2 h3=>by
  have:=aI4 f hL s z0 x hH aV hok hz hst w1 F1 h1 h2
  rw[mL] at this
  exact this) ?_
 refine aA ?_;refine jL [1,2,3,4,8,9,10,11] ?_;refine bP 0 ?_ (hQ:=fun _ _ _ h=>mQ rfl h);refine bP 6 ?_ (hQ:=fun _ _ _ h=>mQ rfl h);refine bP 7 ?_ (hQ:=fun _ _ _ h=>mQ rfl h);refine aJ 1 ?_ (hQ:=fun _ _ _ h=>mQ rfl h);refine aJ 2 ?_ (hQ:=fun _ _ _ h=>mQ rfl h);refine aJ 3 ?_ (hQ:=fun _ _ _ h=>mQ rfl h);refine aJ 4 ?_ (hQ:=fun _ _ _ h=>mQ rfl h) (dI:=bM rfl (Iu 0 rfl fun _=>rfl));refine aJ 8 ?_ (hQ:=fun _ _ _ h=>mQ rfl h);refine aJ 9 ?_ (hQ:=fun _ _ _ h=>mQ rfl h);refine aJ 10 ?_ (hQ:=fun _ _ _ h=>mQ rfl h);refine aJ 11 ?_ (hQ:=fun _ _ _ h=>mQ rfl h) (dI:=bM rfl (Iu 0 rfl fun _=>rfl));refine aM 5 ?_;refine aU (fun w1 t=>aIR z.kind w1) ?_;rw[dI];refine bL ?_;refine aM 12 ?_;refine aAT 0 (fi:=[]) (ca:=[]) (gT f hL s z r.1) (fun w1 F1 t h1 h2 h3=>by simpa using Au w1 F1 h1 h2 (jS.le eY (h3 _ (by simp)))) ?_ (hf:=hcb);dsimp only[List.set];refine cX ?_;refine fJ ?_;refine aA ?_;obtain⟨x',b⟩:=r;dsimp only at Wf⊢;cases b
 ·refine aA ?_;subst cK;exact Bj (.inr rfl) (by kernel_rfl) Xt rfl fun w1 t=>⟨rfl,t.turns hF (by simp) (i:=0) rfl⟩
 ·refine aA ?_;refine kd (bM rfl (Iu 0 rfl fun _=>rfl)) ?_;refine aA ?_;refine bF 0 0 ?_;refine lV 0 fun L=>?_;refine bF 0 0 ?_;refine fG rfl rfl ?_ (hs:=fB.mk 0 rfl cJ.h rfl (by simp[jV]));dsimp only[List.set];rw[show(jV hL.h L s z).set (0+16) (iv (-1))=jV hL.h L s {z with at_:= -1} from rfl];refine aN 0 0 ?_;refine fC 0 (fun L:gF=>iP f hL.h L s {z with at_:= -1}) L ?_;refine aN 0 0 ?_;refine aA ?_;rw[ha];refine dU 0 (gT f hL s (wN s x' {z with at_:= -1} a 0) x') (fun w1 F1 t h1 h2 h3=>aEi f hL s {z with at_:= -1} x' hH aV Wf a vU 0 (fun _=>Et) w1 F1 h1 h2) ?_;refine aA ?_
  have hend:wV s z (x',true)=wN s x' {z with at_:= -1} a 0:=by
   unfold wV;rw[if_pos rfl,ha];rfl
  rw[hend];subst cK;exact Bj (.inr rfl) (by kernel_rfl) Xt rfl fun w1 t=>⟨rfl,t.turns hF (by simp) (i:=0) rfl⟩
def kX(s:aD)(x:aO)(z:bX):bX×aO:=
 let t:=mP s x z
 let z1:=if z.at_ < 0 then t.1 else z
 if z.at_ < 0∧t.2=false then(t.1,x) else(wV s z1 (nF s x z1.kind z1.id),(nF s x z1.kind z1.id).1)
structure aCe(s:aD)(x:aO)(z:bX):Prop where
 hok:cF s x
 fm:Ds s z
 at_:z.at_ < 0∨(∃a:Nat,z.at_=(a:Int)∧a < 2∧Dq s z.kind z.id∧tU (kT z a))
 ask:z.at_ < 0→∀a,sL z=some a→(gA s x z a).2.1=0→(gA s x z a).1=0→tU (kT z a)
 new:z.at_ < 0→∀a,sL z=some a→(gA s x z a).2.1≠0→Dq s (gA s x z a).2.1 (gA s x z a).2.2∧tU (kT z a)
theorem aHo{z:bX}{a:Nat}(h:z.last=0∨z.last=1)(hn:sL z=some a):a < 2:=by
 unfold sL at hn;split at hn
 ·cases hn;omega
 ·split at hn
  ·cases hn;omega
  ·cases hn
theorem aQ0(hH:s.dG)(aV:gX hL s)(h:aCe s x z)(F:Nat→Prop)(hp:(gT f hL s z x).sat F w)(hF:∀b,F b→b < w.heap.size)(eY:jS ⟨w,fun b=>b < w.heap.size∧¬F b⟩):
  Cz 20 #[pt f] w (Wr (.tuple #[]) (gT f hL s (kX s x z).1 (kX s x z).2) w F):=by
 unfold kX;dsimp only
 by_cases fS:z.at_ < 0
 ·cases mL:(mP s x z).2
  ·rw[if_pos ⟨fS,rfl⟩];exact aQ2 f hL s z x hH aV h.hok h.fm (h.ask fS) fS mL w F hp hF
  ·rw[if_neg (by simp),if_pos fS]
   have mK:mP s x z=((mP s x z).1,true):=Prod.ext rfl mL
   have aPO:∃a,sL z=some a∧(gA s x z a).2.1≠0∧(mP s x z).1=(wK s x z a).1:=by
    unfold mP at mL⊢;cases hn:sL z with
    | none=>rw[hn] at mL;cases mL
    | some a=>
     rw[hn] at mL;refine⟨a,rfl,fun h0=>?_,rfl⟩;unfold wK at mL;dsimp only at mL;rw[if_pos h0] at mL;cases mL
   obtain⟨a,hn,hd,he⟩:=aPO
   have ha:=aHo h.fm.la hn
   obtain⟨hk,Et⟩:=h.new fS a hn hd
   have e:(wK s x z a).1={z with last:=a,x:=jW z.x a (gA s x z a).2.1 (gA s x z a).2.2,y:=mN z.y a (gA s x z a).2.1 (gA s x z a).2.2,at_:=a,kind:=(gA s x z a).2.1,id:=(gA s x z a).2.2}:=by
    unfold wK;dsimp only;rw[if_neg hd]
   rw[e] at he
   have hb:kT (mP s x z).1 a=kT z a:=by rw[he];rfl
   have h1:(mP s x z).1.at_=(a:Int):=by rw[he]
   have h2:(mP s x z).1.kind=(gA s x z a).2.1:=by rw[he]
   have h3:(mP s x z).1.id=(gA s x z a).2.2:=by rw[he]
   exact aQz f hL s (mP s x z).1 x w z hH aV h.hok h.fm fS mK (h.ask fS) a h1 ha _ (aJD f hL s (mP s x z).1 x hH aV h.hok (by rw[h2,h3];exact hk)) (by rw[hb];exact Et) F hp hF eY
 ·rw[if_neg (fun hh=>fS hh.1),if_neg fS];rcases h.at_ with h1 | ⟨a,ha,vU,hk,Et⟩
  ·exact absurd h1 fS
  ·exact aQ1 f hL s z x w hH aV h.hok h.fm a ha vU _ (aJD f hL s z x hH aV h.hok hk) Et F hp hF eY
end
end
section
def Ti(s:aD):Nat→bX→aO→List Int→bX→aO→Prop
 | 0,_,_,_,_,_=>False
 | n + 1, z, x, a, z', x' => aCe s x z ∧ ((oK (kX s x z).1 0 = some a ∧ z' = oJ (kX s x z).1 0 ∧ x' = (kX s x z).2) ∨
   (oK (kX s x z).1 0=none∧cF s (kX s x z).2∧(∀i,iQ (kX s x z).2.wt i=0)∧Ti s n (oJ (kX s x z).1 0) (iN s (kX s x z).2 0) a z' x'))
theorem aLA(A:Option Addr)(n c:Nat)(l:List Int)(st:Int)(w:World)(hs:aI (all w) 1 A n (qT l))(hn:n=l.length)(h2:2≤n)(h1:l[1]? =some st):
  Cz 96 #[.slice A n c] w (Rt (.tuple #[.int .i32 (IntKind.i32.wrap st),iv 0]) w):=by
 subst hn;obtain⟨b,off,rfl,hr⟩:=aI.u32 hs (by omega)
 have k1:=hr 1 st h1
 refine aL func96 ntmps96 ?_;refine aA ?_;refine aG rfl (fun h=>absurd h (by omega)) (fun _=>?_);refine aA ?_;refine kd (dat 1 (off+1)) ?_;refine aA ?_;refine kd (Ks (ds:=.int .u32) (kd:=.i32) (c:=IntKind.i32.wrap st) (by kernel_rfl) (by kernel_rfl) rfl rfl) ?_;refine aA ?_;exact eK rfl rfl rfl fun w1 t=>⟨rfl,t.below (by simp)⟩
end
section
structure Inv(s:aD)(X:bK)(bd bc bl:Option Nat)(x:aO):Prop where
 ok:cF s x
 wt:∀i,iQ x.wt i=0
 of:X.of s
 dom:∀i m,x.dm[i]? =some m→bd≠some i→(hasB X.d i=true→m.phase=49)∧(hasB X.d i=false→m.phase=48∨m.phase=116)
 jJ:∀i c y,s.aF[i]? =some c→x.ck[i]? =some y→hasB X.c i=true→bc≠some i→y.on=true∧(c.kind=112→y.left=0)
 rZ:∀i,hasB X.c i=true→∀j∈fU s i,qU s j→hasB X.c j=true
 zQ:∀c,bc=some c→∀i,hasB X.c i=true→i≠c→c∉fU s i
 tD:∀i y,x.ln[i]? =some y→hasB X.l i=true→bl≠some i→y.held=false
 qW:∀(i:Nat) (p:cN×dK) (d:bO),x.dv[i]? =some p→s.aC[i]? =some d→(p.2.at_=0∨p.2.at_=2∨p.2.at_=1∧bd=some d.domain.toNat)∧(hasB X.d d.domain.toNat=true→bd≠some d.domain.toNat→p.2.at_=0)
theorem aFV{m:fD}(h:m.phase=49∨m.phase=48∨m.phase=116):(fW m).2=m:=by
 unfold fW;rw[if_neg (by omega),if_neg (by omega),if_neg (by omega)]
theorem aJq(s:aD):∀(k c:Nat),∀j∈lF s k c,j < s.aF.length
 | 0,c,j,h=>by simp[lF] at h
 | k + 1, c, j, h => by
  unfold lF at h;cases hc:s.aF[c]? with
  | none=>rw[hc] at h;simp at h
  | some x =>
   rw[hc] at h;dsimp only at h;rcases List.mem_cons.1 h with rfl | h
   ·exact(List.getElem?_eq_some_iff.1 hc).1
   ·cases hs:x.src with
    | nil=>rw[hs] at h;simp at h
    | cons f fs=>rw[hs] at h;exact aJq s k _ j h
theorem aB9{s:aD}{i j:Nat}(h:j∈fU s i):j < s.aF.length:=aJq s _ _ j h
theorem Jo{s:aD}{i:Nat}{c:eF}(h:s.aF[i]? =some c):kindOf s i=c.kind:=by
 unfold kindOf;rw[h];rfl
section
variable{s:aD}{X:bK}{bd bc bl:Option Nat}{x:aO}
theorem Inv.up(h:Inv s X bd bc bl x){i j:Nat}(hi:hasB X.c i=true)(hj:j∈fU s i)(hb:bc≠some j):Pf s x.ck j=true:=by
 have hlt:=aB9 hj
 obtain⟨c,hc⟩:=get_some hlt;obtain⟨y,hy⟩:=get_some (l:=x.ck) (i:=j) (by have:=h.ok.ck.len;omega);unfold Pf;rw[hc,hy];dsimp only;unfold rM
 by_cases h1:c.kind=112
 ·rw[if_pos h1];obtain⟨h2,h3⟩:=h.jJ j c y hc hy (h.rZ i hi j hj (.inl (by rw[Jo hc];exact h1))) hb;rw[h2,h3 h1];rfl
 ·rw[if_neg h1]
  by_cases h4:c.kind=103
  ·rw[if_pos h4];exact(h.jJ j c y hc hy (h.rZ i hi j hj (.inr (by rw[Jo hc];exact h4))) hb).1
  ·rw[if_neg h4]
theorem Inv.src(hm:s.made)(h:Inv s X bd bc bl x){i f:Nat}{c:eF}{fs:List Int}(hc:s.aF[i]? =some c)(hs:c.src=(f:Int)::fs)(hi:hasB X.c i=true)(hb:∀j,bc=some j→j∉fU s f):runs s x.ck f=true:=by
 have kC:=Yr hm.aF hc
 rw[hs] at kC;dsimp only at kC;unfold runs;rw[List.all_eq_true];intro j hj;refine h.up hi (j:=j) (by rw[kC];exact List.mem_cons_of_mem _ (by simpa using hj)) fun hbj=>hb j hbj hj
theorem aGd(hm:s.made){i:Nat}{c:eF}(hc:s.aF[i]? =some c)(lP:qU s i):∃(f:Nat) (fs:List Int),c.src=(f:Int)::fs∧f < i:=by
 have hfit:=hm.aF i c hc
 have hk:=Jo hc
 unfold qU at lP;rw[hk] at lP;obtain⟨h1,h2⟩:=hfit;cases hs:c.src with
 | nil=>
  exfalso;rw[hs] at h2;simp at h2;omega
 | cons f fs=>
  have:=h1 f (by rw[hs];simp)
  exact⟨f.toNat,fs,by rw[Int.toNat_of_nonneg this.1],by omega⟩
theorem Inv.aOf(hm:s.made)(h:Inv s X bd bc bl x){i f:Nat}{c:eF}{fs:List Int}(hc:s.aF[i]? =some c)(hs:c.src=(f:Int)::fs)(hf:f < i)(hi:hasB X.c i=true):∀j,bc=some j→j∉fU s f:=fun j hj hmem=>by
 have hle:=aBA hm hmem
 have kC:=Yr hm.aF hc
 rw[hs] at kC;dsimp only at kC;refine h.zQ j hj i hi (by omega) ?_;rw[kC];exact List.mem_cons_of_mem _ (by simpa using hmem)
theorem aOq{cY:Int}{n i:Nat}{p':cN×dK}(h:(zT x cY n)[i]? =some p'):∃p,x.dv[i]? =some p∧(p.2.at_≠1→p'.2=p.2)∧(i < n→p'.2=uE p.2 (decide (0 < iQ x.wt i)) (Hz cY i)):=by
 rw[zT,List.getElem?_mapIdx] at h;cases hq:x.dv[i]? with
 | none=>rw[hq] at h;cases h
 | some q =>
  rw[hq] at h;simp only[Option.map_some,Option.some.injEq] at h;refine⟨q,rfl,fun h0=>?_,fun h0=>?_⟩
  ·subst h;split
   ·unfold uE;rw[if_pos h0]
   ·rfl
  ·subst h;rw[if_pos h0]
theorem aRe{dv:List (cN×dK)}{e:Int×Nat}{i:Nat}{p':cN×dK}(h:(sP s dv e)[i]? =some p'):∃p,dv[i]? =some p∧p'.2=p.2:=by
 rw[sP,Cm,List.getElem?_mapIdx] at h;cases hq:dv[i]? with
 | none=>rw[hq] at h;cases h
 | some q =>
  rw[hq] at h;simp only[Option.map_some,Option.some.injEq] at h;refine⟨q,rfl,?_⟩;subst h;split
  ·unfold Fs;split
   ·split<;>rfl
   ·rfl
  ·rfl
theorem aI2:∀(es:List (Int×Nat)) (dv:List (cN×dK)) (i:Nat) (p':cN×dK),(es.foldl (sP s) dv)[i]? =some p'→∃p,dv[i]? =some p∧p'.2=p.2
 | [],_,_,p',h=>⟨p',h,rfl⟩
 | e::es,dv,i,p',h=>by
  obtain⟨p1,h1,h2⟩:=aI2 es _ i p' h;obtain⟨p,h3,h4⟩:=aRe h1;exact⟨p,h3,h2.trans h4⟩
theorem aAu{cY:Int}{i:Nat}{p':cN×dK}(h:(iN s x cY).dv[i]? =some p'):∃p,x.dv[i]? =some p∧(p.2.at_≠1→p'.2=p.2)∧(i < s.aC.length→p'.2=uE p.2 (decide (0 < iQ x.wt i)) (Hz cY i)):=by
 obtain⟨p1,h1,h2⟩:=aI2 _ _ i p' h;obtain⟨p,h3,h4,h5⟩:=aOq h1;exact⟨p,h3,fun h0=>h2.trans (h4 h0),fun h0=>h2.trans (h5 h0)⟩
theorem aRG(i:Nat):Hz 0 i=false:=by
 unfold Hz;simp;decide+kernel
theorem aFT(lB:∀i,iQ x.wt i=0){i:Nat}{p':cN×dK}(hi:i < s.aC.length)(h:(iN s x 0).dv[i]? =some p'):∃p,x.dv[i]? =some p∧(p.2.at_≠1→p'.2=p.2)∧(p.2.at_=1→p'.2.at_=2):=by
 obtain⟨p,h1,h2,h3⟩:=aAu h;refine⟨p,h1,h2,fun h0=>?_⟩;rw[h3 hi,lB,aRG];unfold uE;rw[if_neg (by omega),if_neg (by simp),if_neg (by simp)]
theorem aLz{st:List eP}{i:Nat}{c:eF}{y:eP}(hc:s.aF[i]? =some c)(hy:st[i]? =some y):(lN s st)[i]? =some (vG s st c y):=by
 rw[lN,List.getElem?_zipWith,hc,hy]
theorem aLy{st:List eP}{i:Nat}{c:eF}{y':eP}(hc:s.aF[i]? =some c)(hy:(lN s st)[i]? =some y'):∃y,st[i]? =some y∧y'=vG s st c y:=by
 rw[lN,List.getElem?_zipWith,hc] at hy;cases hq:st[i]? with
 | none=>rw[hq] at hy;cases hy
 | some y=>rw[hq] at hy;cases hy;exact⟨y,rfl,rfl⟩
theorem Inv.tick(hm:s.made)(h:Inv s X bd bc bl x):Inv s X bd bc bl (iN s x 0):=by
 refine⟨aFU hm.dG h.ok 0,h.wt,h.of,fun i m hi hb=>?_,fun i c y hc hy hi hb=>?_,h.rZ,h.zQ,fun i y hy hi hb=>?_,fun i p d hp hd=>?_⟩
 ·simp only[iN,oF,List.getElem?_map] at hi;cases hq:x.dm[i]? with
  | none=>rw[hq] at hi;cases hi
  | some m0 =>
   rw[hq] at hi;simp only[Option.map_some,Option.some.injEq] at hi;obtain⟨h1,h2⟩:=h.dom i m0 hq hb
   have hr:m0.phase=49∨m0.phase=48∨m0.phase=116:=by
    cases hX:hasB X.d i
    ·exact .inr (h2 hX)
    ·exact .inl (h1 hX)
   rw[aFV hr] at hi;subst hi;exact⟨h1,h2⟩
 ·obtain⟨y0,hy0,rfl⟩:=aLy hc hy;obtain⟨h1,h2⟩:=h.jJ i c y0 hc hy0 hi hb;unfold vG
  by_cases hk:c.kind=112
  ·obtain⟨f,fs,hs,hf⟩:=aGd hm hc (.inl (by rw[Jo hc];exact hk))
   have hr:=h.src hm hc hs hi (h.aOf hm hc hs hf hi)
   have pN:Pp c=f:=by
    unfold Pp;rw[hs];simp
   rw[if_pos ⟨hk,h1⟩,pN,hr,if_neg (by simp),if_neg (by have:=h2 hk;omega)];exact⟨h1,h2⟩
  ·rw[if_neg (by simp[hk])];exact⟨h1,h2⟩
 ·simp only[iN,Ee,List.getElem?_map] at hy;cases hq:x.ln[i]? with
  | none=>rw[hq] at hy;cases hy
  | some y0=>
   rw[hq] at hy;simp only[Option.map_some,Option.some.injEq] at hy
   have h1:=h.tD i y0 hq hi hb
   subst hy;unfold lM;rw[if_pos h1];exact h1
 ·obtain⟨p0,h0,h1,h1'⟩:=aFT h.wt (List.getElem?_eq_some_iff.1 hd).1 hp;obtain⟨h2,h3⟩:=h.qW i p0 d h0 hd
  by_cases h4:p0.2.at_=1
  ·refine⟨.inr (.inl (h1' h4)),fun h5 h6=>?_⟩
   have:=h3 h5 h6
   omega
  ·rw[h1 h4];exact⟨h2,h3⟩
end
end
section
def vD(s:aD)(X:bK)(m:List Int)(k id:Int):bX:=⟨X,dQ s,1,0,m,[],0,0,k,id⟩
def rK(s:aD)(X:bK)(l k id:Int):bX:=⟨X,dQ s,0,0,[],[],l,-1,k,id⟩
structure Plain(m:List Int):Prop where
 u:wA m
 n:m.length≤1000000
 rep:tU m
 more:∀(s:aD) (x:aO),Di s x m 0=[m.headD 0,IntKind.u32.wrap 0]
section
variable{s:aD}{X:bK}{x:aO}{m:List Int}{k id:Int}
theorem aF0(hm:s.made)(hX:X.of s)(hp:Plain m):Ds s (vD s X m k id):=by
 have h1:=hm.nc
 have h2:=hm.nd
 have h3:=hm.nr
 refine⟨.inl rfl,hp.u,by simp[vD,wA],hp.n,by simp[vD],⟨?_,?_,?_⟩,aCs hm.wQ⟩
 ·show X.d.length≤_
  rw[hX.d];omega
 ·show X.c.length≤_
  rw[hX.c];omega
 ·show X.l.length≤_
  rw[hX.l];omega
theorem aFz(hm:s.made)(hX:X.of s)(hp:Plain m)(hok:cF s x)(hk:Dq s k id):aCe s x (vD s X m k id):=
 ⟨hok,aF0 hm hX hp,.inr ⟨0,rfl,by omega,hk,hp.rep⟩,fun h=>absurd h (by show ¬(0:Int) < 0;decide),fun h=>absurd h (by show ¬(0:Int) < 0;decide)⟩
theorem aCH:kX s x (vD s X m k id)=(wV s (vD s X m k id) (nF s x k id),(nF s x k id).1):=by
 unfold kX;dsimp only;rw[if_neg (by rintro⟨h,_⟩;exact absurd h (by show ¬(0:Int) < 0;decide)),if_neg (by show ¬(0:Int) < 0;decide)];rfl
end
def xG(s:aD)(k id:Int):Nat→aO→aO→Prop
 | 0,_,_=>False
 | n+1,x,x'=>cF s x∧(nF s x k id=(x',true)∨∃x1,nF s x k id=(x1,false)∧cF s x1∧(∀i,iQ x1.wt i=0)∧xG s k id n (iN s x1 0) x')
theorem aA1{s:aD}{x x':aO}{k id:Int}{n:Nat}(hok:cF s x)(hr:nF s x k id=(x',true)):xG s k id (n+1) x x':=⟨hok,.inl hr⟩
theorem aA0{s:aD}{x x1 x':aO}{k id:Int}{n:Nat}(hok:cF s x)(hr:nF s x k id=(x1,false))(Mt:cF s x1)(lB:∀i,iQ x1.wt i=0)(h:xG s k id n (iN s x1 0) x'):xG s k id (n+1) x x':=⟨hok,.inr ⟨x1,hr,Mt,lB,h⟩⟩
theorem aGh{s:aD}{X:bK}{m:List Int}{k id:Int}(hm:s.made)(hX:X.of s)(hp:Plain m)(hk:Dq s k id):∀(n:Nat) {x x':aO},xG s k id n x x'→Ti s n (vD s X m k id) x [m.headD 0,IntKind.u32.wrap 0] (rK s X 0 k id) x'
 | 0,_,_,h=>h.elim
 | n + 1, x, x', ⟨hok, .inl hr⟩ => by
  refine⟨aFz hm hX hp hok hk,.inl ?_⟩;rw[aCH,hr]
  have he:wV s (vD s X m k id) (x',true)={vD s X m k id with at_:= -1,h0:=2,w0:=[m.headD 0,IntKind.u32.wrap 0]}:=by
   unfold wV;rw[if_pos rfl]
   show wN s x' {vD s X m k id with at_:= -1} 0 0=_
   unfold wN
   show aCZ _ 0 2 (Di s x' m 0)=_
   rw[hp.more];rfl
  rw[he];exact⟨rfl,rfl,rfl⟩
 | n + 1, x, x', ⟨hok, .inr ⟨x1, hr, Mt, lB, h⟩⟩ => by
  refine⟨aFz hm hX hp hok hk,.inr ?_⟩;rw[aCH,hr]
  have he:wV s (vD s X m k id) (x1,false)=vD s X m k id:=by
   unfold wV;rw[if_neg (by simp)]
  rw[he];exact⟨rfl,Mt,lB,aGh hm hX hp hk n h⟩
theorem Vh{st:List fD}{d:Nat}{y:fD}(hy:st[d]? =some y):qD st (d:Int)=y.phase:=by
 have hlt:=(List.getElem?_eq_some_iff.1 hy).1
 unfold qD;rw[if_pos (show bN st.length (d:Int)=true from decide_eq_true (by omega)),Int.toNat_natCast,hy];rfl
def zR(y:fD):Nat:=if y.phase=49 then 0 else if y.phase=104 then 1 else if y.phase=114 then 2+y.left.toNat else 7
theorem aHs(l:Int)(a b:Bool):zR ⟨114,l,a,b⟩=2+l.toNat:=rfl
theorem aHt(l:Int)(a b:Bool):zR ⟨104,l,a,b⟩=1:=rfl
theorem aOm(l:Int)(a b:Bool):zR ⟨49,l,a,b⟩=0:=rfl
section
variable{s:aD}{X:bK}
theorem aOK{x:aO}{D:Int}{n i:Nat}{p':cN×dK}{d:bO}(hd:s.aC[i]? =some d)(h:(uM s x D n)[i]? =some p'):∃p,x.dv[i]? =some p∧p'.2=if i < n∧d.domain=D then(nM p.2).2 else p.2:=by
 rw[uM,List.getElem?_mapIdx] at h;cases hq:x.dv[i]? with
 | none=>rw[hq] at h;cases h
 | some q =>
  rw[hq] at h;simp only[Option.map_some,Option.some.injEq] at h;refine⟨q,rfl,?_⟩;subst h
  by_cases h1:i < n
  ·rw[if_pos h1];unfold Gs;rw[hd];dsimp only
   by_cases h2:d.domain=D
   ·rw[if_pos h2,if_pos ⟨h1,h2⟩]
   ·rw[if_neg h2,if_neg fun h=>h2 h.2]
  ·rw[if_neg h1,if_neg fun h=>h1 h.1]
theorem aCN(hm : s.made){d : Nat}{c : Dom}(hc : s.domains[d]? = some c)(hX : hasB X.d d = true)(hab : c.above = -1 ∨ (0 ≤ c.above ∧ hasB X.d c.above.toNat = true)) :
  ∀(n:Nat) (x:aO) (y:fD),Inv s X (some d) none none x→(∀(i:Nat) (p:cN×dK),x.dv[i]? =some p→p.2.at_≠1)→x.dm[d]? =some y→(y.phase=49∨y.phase=104∨y.phase=114∨y.phase=48∨y.phase=116)→zR y < n→
   ∃x',xG s 117 d n x x'∧Inv s X none none none x'
 | 0,_,_,_,_,_,_,h=>absurd h (by omega)
 | n + 1, x, y, hi, hno, hy, oP, Qx => by
  have aIa:∀x1:aO,x1.dv=x.dv→∀(i:Nat) (p:cN×dK),(iN s x1 0).dv[i]? =some p→p.2.at_≠1:=fun x1 he i p hp=>by
   obtain⟨p0,h0,h1,_⟩:=aAu hp
   have h2:=hno i p0 (by rw[←he];exact h0)
   rw[h1 h2];exact h2
  have hlt:=(List.getElem?_eq_some_iff.1 hy).1
  have hl:=hi.ok.dm.left y (List.mem_of_getElem? hy)
  have hact:nF s x 117 d=Eo s x d:=rfl
  have We:=Vh hy
  have aBc:∀x1:aO,∀y1:fD,x1.dm[d]? =some y1→(iN s x1 0).dm[d]? =some (fW y1).2:=fun x1 y1 h1=>by
   simp only[iN,oF,List.getElem?_map,h1,Option.map_some]
  by_cases wT:y.phase=49
  ·refine⟨{x with dv:=uM s x d s.aC.length},aA1 hi.ok ?_,?_⟩
   ·rw[hact,Eo,We,if_neg (by omega),if_pos wT]
   ·refine⟨aD0 hm.dG hi.ok _ _,hi.wt,hi.of,fun i m' hi' _=>?_,hi.jJ,hi.rZ,hi.zQ,hi.tD,fun i p' dd hp' eD=>?_⟩
    by_cases hid:i=d
    ·subst hid;cases hy.symm.trans hi';exact⟨fun _=>wT,fun h=>by rw[hX] at h;cases h⟩
    ·exact hi.dom i m' hi' (by simp[Ne.symm hid])
    ·have aDK:=(List.getElem?_eq_some_iff.1 eD).1
     obtain⟨p0,h0,h1⟩:=aOK eD hp';obtain⟨h2,h3⟩:=hi.qW i p0 dd h0 eD;rw[h1]
     by_cases hD:dd.domain=(d:Int)
     ·rw[if_pos ⟨aDK,hD⟩]
      have h4:(nM p0.2).2.at_=0:=by
       unfold nM;rcases h2 with h | h | h
       ·rw[if_pos (by omega)];exact h
       ·rw[if_neg (by omega)]
       ·exact absurd h.1 (hno i p0 h0)
      exact⟨.inl h4,fun _ _=>h4⟩
     ·rw[if_neg fun h=>hD h.2]
      have tK:=(hm.aC i dd eD).2.2.1
      refine⟨by have:=hno i p0 h0;omega,fun h4 _=>h3 h4 fun h5=>hD ?_⟩
      have h5:=Option.some.inj h5
      omega
  ·by_cases hdn:y.phase=48∨y.phase=116
   ·have mR:(uC s x.dm d).2=x.dm.set d ⟨114,c.delay,decide (y.phase=116),y.keep⟩:=by
     unfold uC;rw[show bN x.dm.length (d:Int)=true from decide_eq_true (by omega)];simp only[Bool.true_eq_false,if_false,Int.toNat_natCast,hc,hy]
     have h1:Kn y=true:=decide_eq_true hdn
     have h2:Nw x.dm c.above=true:=by
      unfold Nw;rcases hab with h | ⟨h0,h1⟩
      ·rw[h];rfl
      ·have hfit:=(hm.domains d c hc).1
       have hal:c.above.toNat < x.dm.length:=by omega
       obtain⟨ya,hya⟩:=get_some hal
       have:=(hi.dom _ ya hya (by simp;omega)).1 h1
       rw[hya];simp[this]
     rw[h1,h2];simp
    have Mz:nF s x 117 d=({x with dm:=x.dm.set d ⟨114,c.delay,decide (y.phase=116),y.keep⟩},false):=by
     rw[hact,Eo,We,if_pos hdn,mR]
    have aUp:=(hm.domains d c hc).2
    have hinv:Inv s X (some d) none none {x with dm:=x.dm.set d ⟨114,c.delay,decide (y.phase=116),y.keep⟩}:=by
     refine⟨?_,hi.wt,hi.of,fun i m' hi' hb=>?_,hi.jJ,hi.rZ,hi.zQ,hi.tD,hi.qW⟩
     ·have:=aFQ hm.dG hi.ok.dm d
      rw[mR] at this;exact⟨hi.ok.ck,this,hi.ok.ln,hi.ok.dv,hi.ok.each,hi.ok.wt⟩
     ·have hid:d≠i:=fun h=>hb (by rw[h])
      rw[List.getElem?_set_ne hid] at hi';exact hi.dom i m' hi' hb
    have hy1:({x with dm:=x.dm.set d ⟨114,c.delay,decide (y.phase=116),y.keep⟩}:aO).dm[d]? =some ⟨114,c.delay,decide (y.phase=116),y.keep⟩:=List.getElem?_set_self hlt
    have hmy:zR y=7:=by
     unfold zR;rw[if_neg wT,if_neg (by omega),if_neg (by omega)]
    obtain⟨x',h1,h2⟩:=aCN hm hc hX hab n _ _ (hinv.tick hm) (aIa _ rfl) (aBc _ _ hy1) (by
     unfold fW;rw[if_pos rfl];split
     ·right;right;left;rfl
     ·right;left;rfl) (by
     unfold fW;rw[if_pos rfl];split
     ·rw[aHs];dsimp only;omega
     ·rw[aHt]
      omega)
    exact⟨x',aA0 hi.ok Mz hinv.ok hinv.wt h1,h2⟩
   ·have Mz:nF s x 117 d=(x,false):=by
     rw[hact,Eo,We,if_neg hdn,if_neg wT]
    have Qv:y.phase=104∨y.phase=114:=by omega
    obtain⟨x',h1,h2⟩:=aCN hm hc hX hab n _ _ (hi.tick hm) (aIa _ rfl) (aBc _ _ hy) (by
     unfold fW;rcases Qv with h | h
     ·rw[if_neg (by omega),if_pos h];left;rfl
     ·rw[if_pos h];split
      ·right;right;left;rfl
      ·right;left;rfl) (by
     unfold fW;rcases Qv with h | h
     ·rw[if_neg (by omega),if_pos h]
      have:zR y=1:=by
       unfold zR;rw[if_neg wT,if_pos h]
      rw[aOm];omega
     ·have hmy:zR y=2+y.left.toNat:=by
       unfold zR;rw[if_neg wT,if_neg (by omega),if_pos h]
      rw[if_pos h];split
      ·rw[aHs];omega
      ·rw[aHt]
       omega)
    exact⟨x',aA0 hi.ok Mz hi.ok hi.wt h1,h2⟩
theorem aGt(hm:s.made){r:Nat}(hr:r < s.aT.length):
  ∀(n:Nat) (x:aO) (y:kH),Inv s X none none (some r) x→x.ln[r]? =some y→(if y.held then y.left.toNat+1 else 0) < n→
   ∃x',xG s 114 r n x x'∧Inv s X none none none x'
 | 0,_,_,_,_,h=>absurd h (by omega)
 | n + 1, x, y, hi, hy, Qx => by
  have hlt:=(List.getElem?_eq_some_iff.1 hy).1
  have hl:=hi.ok.ln.left y (List.mem_of_getElem? hy)
  have hact:nF s x 114 r=Gl x r:=rfl
  have hin:bN x.ln.length (r:Int)=true:=decide_eq_true (by omega)
  have aBk:Aj x.ln r=y.held:=by
   unfold Aj;rw[hin,Int.toNat_natCast,hy];rfl
  cases hh:y.held
  ·refine⟨x,aA1 hi.ok ?_,?_⟩
   ·rw[hact,Gl,aBk,hh];rfl
   ·refine⟨hi.ok,hi.wt,hi.of,hi.dom,hi.jJ,hi.rZ,hi.zQ,fun i y' hi' hx _=>?_,hi.qW⟩
    by_cases hid:i=r
    ·subst hid;cases hy.symm.trans hi';exact hh
    ·exact hi.tD i y' hi' hx (by simp[Ne.symm hid])
  ·rw [hh] at Qx;simp only[if_true] at Qx
   have aHV:(vI x.ln r).2=x.ln.set r ⟨y.left,true,true⟩:=by
    unfold vI;rw[hin];simp only[Bool.true_eq_false,if_false,Int.toNat_natCast,hy,hh]
   have Mz:nF s x 114 r=({x with ln:=x.ln.set r ⟨y.left,true,true⟩},false):=by
    rw[hact,Gl,aBk,hh,if_pos rfl,aHV]
   have hinv:Inv s X none none (some r) {x with ln:=x.ln.set r ⟨y.left,true,true⟩}:=by
    refine⟨?_,hi.wt,hi.of,hi.dom,hi.jJ,hi.rZ,hi.zQ,fun i y' hi' hx hb=>?_,hi.qW⟩
    ·have:=aGH hi.ok.ln r
     rw[aHV] at this;exact⟨hi.ok.ck,hi.ok.dm,this,hi.ok.dv,hi.ok.each,hi.ok.wt⟩
    ·have hid:r≠i:=fun h=>hb (by rw[h])
     rw[List.getElem?_set_ne hid] at hi';exact hi.tD i y' hi' hx hb
   have hy1:(iN s {x with ln:=x.ln.set r ⟨y.left,true,true⟩} 0).ln[r]? =some (lM ⟨y.left,true,true⟩):=by
    simp only[iN,Ee,List.getElem?_map,List.getElem?_set_self hlt,Option.map_some]
   obtain⟨x',h1,h2⟩:=aGt hm hr n _ _ (hinv.tick hm) hy1 (by
    by_cases h0:0 < y.left
    ·have ht:lM ⟨y.left,true,true⟩=⟨y.left - 1,true,true⟩:=by
      unfold lM;rw[if_neg (by simp),if_pos h0]
     rw[ht]
     show(y.left - 1).toNat+1 < n
     omega
    ·have ht:lM ⟨y.left,true,true⟩=⟨y.left,false,false⟩:=by
      unfold lM;rw[if_neg (by simp),if_neg h0,if_pos rfl]
     rw[ht]
     show 0 < n
     omega)
   exact⟨x',aA0 hi.ok Mz hinv.ok hinv.wt h1,h2⟩
end
end
section
section
variable{s:aD}{X:bK}
theorem aGw(hm:s.made){c:Nat}{ck:eF}(hc:s.aF[c]? =some ck)(lP:qU s c)(hX:hasB X.c c=true):
  ∀(n:Nat) (x:aO) (y:eP),Inv s X none (some c) none x→x.ck[c]? =some y→y.left.toNat < n→
   ∃x',xG s 99 c n x x'∧Inv s X none none none x'
 | 0,_,_,_,_,h=>absurd h (by omega)
 | n + 1, x, y, hi, hy, Qx => by
  have hlt:=(List.getElem?_eq_some_iff.1 hc).1
  have Wi:=(List.getElem?_eq_some_iff.1 hy).1
  have hl:=hi.ok.ck.left y (List.mem_of_getElem? hy)
  have aBi:ck.kind=112∨ck.kind=103:=by rw[←Jo hc];exact lP
  obtain⟨f,fs,hs,hf⟩:=aGd hm hc lP
  have kC:=Yr hm.aF hc
  rw[hs] at kC;dsimp only at kC;rw[Int.toNat_natCast] at kC
  have aPn:c∉fU s f:=fun h=>by have:=aBA hm h;omega
  have tI:(kZ s x.ck c true).2=x.ck.set c ⟨true,y.left⟩:=by
   unfold kZ;rw[show bN s.aF.length (c:Int)=true from decide_eq_true (by omega)];simp only[Bool.true_eq_false,if_false,Int.toNat_natCast,hc,hy];rw[if_neg (by omega)];simp[Gp]
  have hinv:Inv s X none (some c) none {x with ck:=x.ck.set c ⟨true,y.left⟩}:=by
   refine⟨?_,hi.wt,hi.of,hi.dom,fun i ci yi rW Vu hx hb=>?_,hi.rZ,hi.zQ,hi.tD,hi.qW⟩
   ·have:=Vj hm.dG hi.ok.ck (c:Int) true
    rw[tI] at this;exact⟨this,hi.ok.dm,hi.ok.ln,hi.ok.dv,hi.ok.each,hi.ok.wt⟩
   ·have hid:c≠i:=fun h=>hb (by rw[h])
    rw[List.getElem?_set_ne hid] at Vu;exact hi.jJ i ci yi rW Vu hx hb
  have zZ:(x.ck.set c ⟨true,y.left⟩)[c]? =some ⟨true,y.left⟩:=List.getElem?_set_self Wi
  have yC:runs s (x.ck.set c ⟨true,y.left⟩) f=true:=hinv.src hm hc hs hX (fun j hj=>by cases hj;exact aPn)
  have hrc:qB s (x.ck.set c ⟨true,y.left⟩) c=rM ck ⟨true,y.left⟩:=by
   unfold qB;rw[show bN s.aF.length (c:Int)=true from decide_eq_true (by omega),Int.toNat_natCast,aGq hm.aF hc zZ,hs];dsimp only;rw[Int.toNat_natCast,yC];simp
  have hact:nF s x 99 c=Kv s x c:=rfl
  by_cases mR:rM ck ⟨true,y.left⟩=true
  ·refine⟨{x with ck:=x.ck.set c ⟨true,y.left⟩},aA1 hi.ok ?_,?_⟩
   ·rw[hact,Kv,tI,hrc,mR];rfl
   ·refine⟨hinv.ok,hi.wt,hi.of,hi.dom,fun i ci yi rW Vu hx _=>?_,hi.rZ,(fun _ h=>by cases h),hi.tD,hi.qW⟩
    by_cases hid:i=c
    ·subst hid;cases hc.symm.trans rW;cases zZ.symm.trans Vu;refine⟨rfl,fun aEc=>?_⟩;unfold rM at mR;rw[if_pos aEc] at mR
     simpa using mR
    ·exact hinv.jJ i ci yi rW Vu hx (by simp[Ne.symm hid])
  ·have aEc:ck.kind=112∧y.left≠0:=by
    unfold rM at mR;rcases aBi with h | h
    ·rw[if_pos h] at mR;exact⟨h,by simpa using mR⟩
    ·rw[if_neg (by omega),if_pos h] at mR;exact absurd rfl mR
   have aPa:rM ck ⟨true,y.left⟩=false:=by simpa using mR
   obtain⟨cf,Mv⟩:=get_some (l:=s.aF) (i:=f) (by omega)
   have aPM:=Yr hm.aF Mv
   have Mz:nF s x 99 c=({x with ck:=x.ck.set c ⟨true,y.left⟩},false):=by
    rw[hact,Kv,tI,hrc,aPa,kC,aPM]
    have h1:qB s (x.ck.set c ⟨true,y.left⟩) (f:Int)=true:=by
     unfold qB;rw[show bN s.aF.length (f:Int)=true from decide_eq_true (by omega),Int.toNat_natCast,yC];rfl
    simp[h1]
   have pN:Pp ck=f:=by
    unfold Pp;rw[hs];simp
   have Mj:(iN s {x with ck:=x.ck.set c ⟨true,y.left⟩} 0).ck[c]? =some ⟨true,y.left - 1⟩:=by
    show(lN s (x.ck.set c ⟨true,y.left⟩))[c]? =_
    rw[aLz hc zZ];unfold vG;rw[if_pos ⟨aEc.1,rfl⟩,pN,yC,if_neg (by simp),if_pos (by show 0 < y.left;omega)]
   obtain⟨x',h1,h2⟩:=aGw hm hc lP hX n _ _ (hinv.tick hm) Mj (by dsimp only;omega);exact⟨x',aA0 hi.ok Mz hinv.ok hinv.wt h1,h2⟩
end
section
variable{s:aD}{X:bK}{m:List Int}
def Bx(s:aD)(X:bK)(l k id:Int)(m:List Int):bX:=⟨X,dQ s,1,0,m,[],l,-1,k,id⟩
theorem aKB{l k id:Int}:nV (rK s X l k id) 0 m=(0,Bx s X l k id m):=by simp[nV,bN,rK,Bx]
theorem aCr{l k id:Int}(hl:l=0∨l=1):sL (Bx s X l k id m)=some 0:=by
 rcases hl with rfl | rfl<;>rfl
theorem aKC{l k id:Int}(hm:s.made)(hX:X.of s)(hp:Plain m)(hl:l=0∨l=1):Ds s (Bx s X l k id m):=by
 obtain⟨h1,h2,h3,h4,h5,h6,h7⟩:=aF0 (k:=k) (id:=id) hm hX hp;exact⟨hl,h2,h3,h4,h5,h6,h7⟩
theorem aLK{n:Nat}{x x':aO}{l k0 i0 k id:Int}{a:List Int}{z':bX}(hm:s.made)(hX:X.of s)(hp:Plain m)(hl:l=0∨l=1)(hok:cF s x)(aDS:jG s X (dQ s) (lY s x) 0 m=(0,k,id))(Jy:k≠0)(hk:Dq s k id)
  (h:Ti s (n+1) (vD s (jW X 0 k id) m k id) x a z' x'):Ti s (n+1) (Bx s X l k0 i0 m) x a z' x':=by
 have hd:gA s x (Bx s X l k0 i0 m) 0=(0,k,id):=aDS
 have mL:mP s x (Bx s X l k0 i0 m)=(vD s (jW X 0 k id) m k id,true):=by
  unfold mP;rw[aCr hl];dsimp only;unfold wK;dsimp only;rw[hd,if_neg Jy];rfl
 have hst:kX s x (Bx s X l k0 i0 m)=kX s x (vD s (jW X 0 k id) m k id):=by
  rw[aCH];unfold kX;dsimp only;rw[mL,if_neg (by simp),if_pos (show(Bx s X l k0 i0 m).at_ < 0 from(by show(-1:Int) < 0;decide))];rfl
 obtain⟨_,h2⟩:=h;refine⟨⟨hok,aKC hm hX hp hl,.inl (by show(-1:Int) < 0;decide),fun _ a ha h0=>?_,fun _ a ha h0=>?_⟩,?_⟩
 ·rw[aCr hl] at ha;cases ha;rw[hd] at h0;exact absurd h0 Jy
 ·rw[aCr hl] at ha;cases ha;rw[hd];exact⟨hk,hp.rep⟩
 ·rw[hst];exact h2
structure aFj(m p tk:Int):Prop where
 pk:(eA m 0 p tk).2=0
 un:uD (eA m 0 p tk).1=0
 ty:Fb (eA m 0 p tk).1=0
 pr:eE (eA m 0 p tk).1=p
 ms:eM (eA m 0 p tk).1=m
 z4:cM (eA m 0 p tk).1 28 4=0
 zp:cM (eA m 0 p tk).1 10 8=p
 zm:cM (eA m 0 p tk).1 0 8=m
theorem aNR{m p tk i v:Int}(h:aFj m p tk)(hmp:m=4∨m=7)(hi:0≤i∧i < 4294967296)(hv:0≤v∧v < 4294967296):Plain [(eA m 0 p tk).1,i,v]:=by
 refine⟨fun y hy=>?_,by simp,⟨⟨_,_,rfl,h.z4,fun hh=>?_⟩⟩,fun s x=>?_⟩
 ·simp at hy;rcases hy with rfl | rfl | rfl
  ·exact aN4 _ _ _ _
  ·exact hi
  ·exact hv
 ·rw[h.zp,h.zm] at hh;omega
 ·unfold Di pL;simp only[List.headD_cons,h.zp,h.zm];rw[if_pos trivial,if_neg (by omega),if_neg (by omega),if_neg (by omega),if_neg (by omega)]
theorem Rj{l:List Bool}{i:Nat}(hi:i < l.length)(j:Nat):hasB (kQ l i true) j=if j=i then true else hasB l j:=by
 rw[kQ,if_pos ⟨by omega,by omega⟩,Int.toNat_natCast,tL,tL,List.getElem?_set]
 by_cases h:i=j
 ·subst h;rw[if_pos rfl,if_pos hi,if_pos rfl];rfl
 ·rw[if_neg h,if_neg (Ne.symm h)]
end
end
section
section
variable{s:aD}{X:bK}{x:aO}{l k0 i0:Int}
def Tz(X:bK)(d:Nat):bK:=⟨kQ X.d d true,X.c,X.l⟩
def wsC(X:bK)(c:Nat):bK:=⟨X.d,kQ X.c c true,X.l⟩
def wsL(X:bK)(r:Nat):bK:=⟨X.d,X.c,kQ X.l r true⟩
theorem Inv.rest(hi:Inv s X none none none x):∀(i:Nat) (p:cN×dK),x.dv[i]? =some p→p.2.at_≠1:=fun i p hp=>by
 obtain⟨d,hd⟩:=get_some (l:=s.aC) (i:=i) (by have:=(List.getElem?_eq_some_iff.1 hp).1;have:=hi.ok.dv;omega)
 have:=(hi.qW i p d hp hd).1
 simp at this;omega
theorem aQh(hm:s.made)(hi:Inv s X none none none x){d:Nat}{c:Dom}(hc:s.domains[d]? =some c)(hab:c.above= -1∨(0≤c.above∧hasB X.d c.above.toNat=true))(hh:hasB X.d d=false):∃x',xG s 117 d (8+1) x x'∧Inv s (Tz X d) none none none x':=by
 have hlt:=(List.getElem?_eq_some_iff.1 hc).1
 have hX:=hi.of
 have iY:d < X.d.length:=by rw[hX.d];exact hlt
 have hXd:hasB (Tz X d).d d=true:=by
  show hasB (kQ X.d d true) d=true
  rw[Rj iY,if_pos rfl]
 have hfit:=(hm.domains d c hc).1
 have aPY:c.above= -1∨(0≤c.above∧hasB (Tz X d).d c.above.toNat=true):=by
  rcases hab with h | ⟨h0,h3⟩
  ·exact .inl h
  ·refine .inr ⟨h0,?_⟩
   show hasB (kQ X.d d true) _=true
   rw[Rj iY,if_neg (by omega)];exact h3
 have hinv:Inv s (Tz X d) (some d) none none x:=by
  refine⟨hi.ok,hi.wt,⟨by show(kQ _ _ _).length=_;rw[Ch];exact hX.d,hX.c,hX.l⟩,fun i m' hi' hb=>?_,hi.jJ,hi.rZ,(fun _ h=>by cases h),hi.tD,fun i p dd hp' eD=>?_⟩
  have hid:i≠d:=fun h=>hb (by rw[h])
  have:hasB (Tz X d).d i=hasB X.d i:=by
   show hasB (kQ X.d d true) i=_
   rw[Rj iY,if_neg hid]
  rw[this];exact hi.dom i m' hi' (by simp)
  ·obtain⟨h2,h3⟩:=hi.qW i p dd hp' eD;refine⟨by simp at h2;omega,fun h4 h5=>h3 ?_ (by simp)⟩
   have h6:dd.domain.toNat≠d:=fun h=>h5 (by rw[h])
   have h7:hasB (kQ X.d d true) dd.domain.toNat=true:=h4
   rw[Rj iY,if_neg h6] at h7;exact h7
 obtain⟨y,hy⟩:=get_some (l:=x.dm) (i:=d) (by have:=hi.ok.dm.len;omega)
 have oP:=(hi.dom d y hy (by simp)).2 hh
 have Qx:zR y < 8+1:=by
  unfold zR;rw[if_neg (by omega),if_neg (by omega),if_neg (by omega)];omega
 exact aCN hm hc hXd aPY (8+1) x y hinv (hi.rest) hy (by omega) Qx
theorem aQi(hm:s.made)(hi:Inv s X none none none x){r:Nat}(hlt:r < s.aT.length)(hh:hasB X.l r=false):∃x',xG s 114 r (8+1) x x'∧Inv s (wsL X r) none none none x':=by
 have hX:=hi.of
 have iA:r < X.l.length:=by rw[hX.l];exact hlt
 have iX:∀j,hasB (wsL X r).l j=if j=r then true else hasB X.l j:=fun j=>Rj iA j
 have hinv:Inv s (wsL X r) none none (some r) x:=by
  refine⟨hi.ok,hi.wt,⟨hX.d,hX.c,by show(kQ _ _ _).length=_;rw[Ch];exact hX.l⟩,hi.dom,hi.jJ,hi.rZ,(fun _ h=>by cases h),fun i y hy hx hb=>?_,hi.qW⟩
  have hid:i≠r:=fun h=>hb (by rw[h])
  rw[iX,if_neg hid] at hx;exact hi.tD i y hy hx (by simp)
 obtain⟨y,hy⟩:=get_some (l:=x.ln) (i:=r) (by have:=hi.ok.ln.len;omega)
 have Qp:=hi.ok.ln.left y (List.mem_of_getElem? hy)
 exact aGt hm hlt (8+1) x y hinv hy (by split<;>omega)
theorem aOQ(hm:s.made):Inv s (dQ s) none none none (hw0 s):=by
 have h0:∀(n i:Nat),hasB (List.replicate n false) i=false:=fun n i=>by
  rw[tL,List.getElem?_replicate];split<;>rfl
 refine⟨aHM hm.dG,fun i=>?_,⟨by simp[dQ],by simp[dQ],by simp[dQ]⟩,fun i m hi' _=>⟨fun h=>?_,fun _=>?_⟩,fun i c y _ _ h _=>?_,fun i h=>?_,(fun _ h=>by cases h),fun i y _ h _=>?_,fun i p d hp _=>?_⟩
 ·unfold iQ hw0;simp only[List.getElem?_map];cases s.aC[i]? <;>rfl
 ·rw[show hasB (dQ s).d i=false from h0 _ _] at h;cases h
 ·simp only[hw0,List.getElem?_map] at hi';cases hq:s.domains[i]? with
  | none=>rw[hq] at hi';cases hi'
  | some q=>rw[hq] at hi';cases hi';exact .inl rfl
 ·rw[show hasB (dQ s).c i=false from h0 _ _] at h;cases h
 ·rw[show hasB (dQ s).c i=false from h0 _ _] at h;cases h
 ·rw[show hasB (dQ s).l i=false from h0 _ _] at h;cases h
 ·have h1:p.2.at_=0:=by
   simp only[hw0,List.getElem?_map] at hp;cases hq:s.aC[i]? with
   | none=>rw[hq] at hp;cases hp
   | some q=>rw[hq] at hp;cases hp;rfl
  exact⟨.inl h1,fun _ _=>h1⟩
end
end
section
theorem Inv.alive{s:aD}{X:bK}{x:aO}(hm:s.made)(hi:Inv s X none none none x){i:Nat}{d:bO}(hd:s.aC[i]? =some d)(h1:hasB X.d d.domain.toNat=true)(h2:∀j∈fU s d.clock.toNat,qU s j→hasB X.c j=true)(h3:hasB X.l d.reset.toNat=true):sQ s x i=true:=by
 have hf:=hm.aC i d hd
 obtain⟨f1,f2,f3,f4,f5,f6,_⟩:=hf
 have hrun:qB s x.ck d.clock=true:=by
  unfold qB;rw[show bN s.aF.length d.clock=true from decide_eq_true (by omega)];unfold runs;rw[Bool.true_and,List.all_eq_true];intro j hj
  have hlt:=aB9 hj
  obtain⟨c,hc⟩:=get_some hlt;obtain⟨y,hy⟩:=get_some (l:=x.ck) (i:=j) (by have:=hi.ok.ck.len;omega);unfold Pf;rw[hc,hy];dsimp only;unfold rM
  by_cases k1:c.kind=112
  ·rw[if_pos k1];obtain⟨k2,k3⟩:=hi.jJ j c y hc hy (h2 j hj (.inl (by rw[Jo hc];exact k1))) (by simp);rw[k2,k3 k1];rfl
  ·rw[if_neg k1]
   by_cases k4:c.kind=103
   ·rw[if_pos k4];exact(hi.jJ j c y hc hy (h2 j hj (.inr (by rw[Jo hc];exact k4))) (by simp)).1
   ·rw[if_neg k4]
 obtain⟨m,hmm⟩:=get_some (l:=x.dm) (i:=d.domain.toNat) (by have:=hi.ok.dm.len;omega)
 have oP:qD x.dm d.domain=49:=by
  have:=Vh hmm
  rw[show((d.domain.toNat:Nat):Int)=d.domain by omega] at this;rw[this];exact(hi.dom _ m hmm (by simp)).1 h1
 obtain⟨y,hy⟩:=get_some (l:=x.ln) (i:=d.reset.toNat) (by have:=hi.ok.ln.len;omega)
 have aBk:Aj x.ln d.reset=false:=by
  unfold Aj;rw[show bN x.ln.length d.reset=true from decide_eq_true (by have:=hi.ok.ln.len;omega),hy];exact hi.tD _ y hy h3 (by simp)
 unfold sQ;rw[hd];dsimp only;rw[hrun,oP,aBk];rfl
theorem Inv.state{s:aD}{X:bK}{x:aO}(hi:Inv s X none none none x){i:Nat}{d:bO}(hd:s.aC[i]? =some d)(h1:hasB X.d d.domain.toNat=true):uF x i=114:=by
 have hlt:=(List.getElem?_eq_some_iff.1 hd).1
 obtain⟨p,hp⟩:=get_some (l:=x.dv) (i:=i) (by have:=hi.ok.dv;omega);unfold uF;rw[hp]
 show qF p.2.at_=114
 rw[(hi.qW i p d hp hd).2 h1 (by simp)];rfl
end
section
def Zv(s:aD)(A:aO→aO×Bool):Nat→aO→aO→Prop
 | 0,_,_=>False
 | n+1,x,x'=>cF s x∧(A x=(x',true)∨∃x1,A x=(x1,false)∧cF s x1∧(∀i,iQ x1.wt i=0)∧Zv s A n (iN s x1 0) x')
def Ty(X:bK)(d:Nat):bK:=⟨kQ X.d d false,X.c,X.l⟩
section
variable{s:aD}{X:bK}{x:aO}{D:Nat}
theorem aIr{l:List Bool}{i:Nat}(hi:i < l.length)(j:Nat):hasB (kQ l i false) j=if j=i then false else hasB l j:=by
 rw[kQ,if_pos ⟨by omega,by omega⟩,Int.toNat_natCast,tL,tL,List.getElem?_set]
 by_cases h:i=j
 ·subst h;rw[if_pos rfl,if_pos hi,if_pos rfl];rfl
 ·rw[if_neg h,if_neg (Ne.symm h)]
theorem aD7{x:aO}{D:Int}{n i:Nat}{p':cN×dK}{d:bO}(hd:s.aC[i]? =some d)(h:(jF s x D n)[i]? =some p'):∃p,x.dv[i]? =some p∧p'.2=if i < n∧d.domain=D then(if p.2.at_=3 then(nM p.2).2 else if p.2.at_=0 then(sB p.2).2 else p.2) else p.2:=by
 rw[jF,List.getElem?_mapIdx] at h;cases hq:x.dv[i]? with
 | none=>rw[hq] at h;cases h
 | some q =>
  rw[hq] at h;simp only[Option.map_some,Option.some.injEq] at h;refine⟨q,rfl,?_⟩;subst h
  by_cases h1:i < n
  ·rw[if_pos h1];unfold Gu;rw[hd];dsimp only
   by_cases h2:d.domain=D
   ·rw[if_pos h2,if_pos (show i < n∧d.domain=D from⟨h1,h2⟩)]
   ·rw[if_neg h2,if_neg fun h=>h2 h.2]
  ·rw[if_neg h1,if_neg fun h=>h1 h.1]
theorem Inv.aHN(hm:s.made)(hi:Inv s X (some D) none none x):Inv s X (some D) none none {x with dv:=jF s x D s.aC.length}:=by
 refine⟨aBa hm.dG hi.ok _ _,hi.wt,hi.of,hi.dom,hi.jJ,hi.rZ,hi.zQ,hi.tD,fun i p' dd hp' eD=>?_⟩
 have aDK:=(List.getElem?_eq_some_iff.1 eD).1
 obtain⟨p0,h0,h1⟩:=aD7 eD hp';obtain⟨h2,h3⟩:=hi.qW i p0 dd h0 eD;rw[h1]
 by_cases hD:dd.domain=(D:Int)
 ·rw[if_pos ⟨aDK,hD⟩]
  have hDn:dd.domain.toNat=D:=by omega
  refine⟨?_,fun _ h=>absurd (by rw[hDn]) h⟩;rw[if_neg (by omega)];split
  ·rename_i h4
   refine .inr (.inr ⟨?_,by rw[hDn]⟩);unfold sB;rw[if_neg (by omega)]
  ·exact h2
 ·rw[if_neg fun h=>hD h.2];exact⟨h2,h3⟩
theorem Inv.begin(hi:Inv s X none none none x)(D:Nat):Inv s X (some D) none none x:=
 ⟨hi.ok,hi.wt,hi.of,fun i m h _=>hi.dom i m h (by simp),hi.jJ,hi.rZ,hi.zQ,hi.tD,fun i p d hp hd=>by
  obtain⟨h1,h2⟩:=hi.qW i p d hp hd;refine⟨?_,fun h3 _=>h2 h3 (by simp)⟩;simp at h1
  omega⟩
theorem Inv.off(hi:Inv s X (some D) none none x)(hD:D < s.domains.length)(oP:∀y,x.dm[D]? =some y→y.phase=48∨y.phase=116)(hno:∀(i:Nat) (p:cN×dK),x.dv[i]? =some p→p.2.at_≠1):Inv s (Ty X D) none none none x:=by
 have hX:=hi.of
 have iY:D < X.d.length:=by rw[hX.d];exact hD
 have iX:∀j,hasB (Ty X D).d j=if j=D then false else hasB X.d j:=fun j=>aIr iY j
 refine⟨hi.ok,hi.wt,⟨by show(kQ _ _ _).length=_;rw[Ch];exact hX.d,hX.c,hX.l⟩,fun i m hm' _=>?_,hi.jJ,hi.rZ,hi.zQ,hi.tD,fun i p d hp hd=>?_⟩
 ·rw[iX]
  by_cases h:i=D
  ·subst h;rw[if_pos rfl];exact⟨(fun h=>by cases h),fun _=>oP m hm'⟩
  ·rw[if_neg h];exact hi.dom i m hm' fun h'=>h (Option.some.inj h').symm
 ·obtain⟨h1,h2⟩:=hi.qW i p d hp hd
  have h3:=hno i p hp
  refine⟨by omega,fun h4 _=>?_⟩;rw[iX] at h4
  by_cases h:d.domain.toNat=D
  ·rw[if_pos h] at h4;cases h4
  ·rw[if_neg h] at h4;exact h2 h4 fun h'=>h (Option.some.inj h').symm
theorem Inv.down(hm:s.made)(hi:Inv s X (some D) none none x){y:fD}(hy:x.dm[D]? =some y)(keep:Bool):Inv s X (some D) none none {x with dm:=x.dm.set D ⟨99,y.left,y.kept,keep⟩}:=by
 have hlt:=(List.getElem?_eq_some_iff.1 hy).1
 refine⟨⟨hi.ok.ck,⟨by simp[hi.ok.dm.len],fun z hz=>?_,fun z hz=>?_⟩,hi.ok.ln,hi.ok.dv,hi.ok.each,hi.ok.wt⟩,hi.wt,hi.of,fun i m' hi' hb=>?_,hi.jJ,hi.rZ,hi.zQ,hi.tD,hi.qW⟩
 ·rcases List.mem_or_eq_of_mem_set hz with hz | rfl
  ·exact hi.ok.dm.left z hz
  ·exact hi.ok.dm.left y (List.mem_of_getElem? hy)
 ·rcases List.mem_or_eq_of_mem_set hz with hz | rfl
  ·exact hi.ok.dm.phase z hz
  ·exact⟨by show(0:Int)≤99;omega,by show(99:Int) < 256;omega⟩
 ·have hid:D≠i:=fun h=>hb (by rw[h])
  rw[List.getElem?_set_ne hid] at hi';exact hi.dom i m' hi' hb
theorem aGQ{n:Nat}:Cp s x (D:Int) n=true↔∀(i:Nat) (p:cN×dK) (d:bO),i < n→x.dv[i]? =some p→s.aC[i]? =some d→d.domain=(D:Int)→p.2.at_=2:=by
 unfold Cp;rw[List.all_eq_true];constructor
 ·intro h i p d hi hp hd hD
  have:=h i (List.mem_range.2 hi)
  unfold Pt at this;rw[hd,hp] at this
  simpa[hD] using this
 ·intro h i hi
  have hi:=List.mem_range.1 hi
  unfold Pt;split
  ·rename_i d p hd hp
   by_cases hD:d.domain=(D:Int)
   ·rw[h i p d hi hp hd hD];simp
   ·simp[hD]
  ·rfl
theorem aOg(hm:s.made)(hi:Inv s X (some D) none none x)(hno:∀(j:Nat) (cj:Dom),s.domains[j]? =some cj→cj.above=(D:Int)→hasB X.d j=false):Fa s x.dm (D:Int)=false:=by
 unfold Fa;rw[Bool.eq_false_iff];intro h;rw[List.any_eq_true] at h;obtain⟨b,hb,h1⟩:=h;obtain⟨j,hj⟩:=List.getElem?_of_mem hb;rw[List.getElem?_zipWith] at hj;cases hc:s.domains[j]? with
 | none=>rw[hc] at hj;simp at hj
 | some cj =>
  cases hy:x.dm[j]? with
  | none=>rw[hc,hy] at hj;simp at hj
  | some yj=>
   rw[hc,hy] at hj;simp only[Option.some.injEq] at hj;subst hj;unfold Hj at h1;simp only[id_eq,Bool.and_eq_true,decide_eq_true_eq,Bool.not_eq_true'] at h1
   have hlt:=(hm.domains j cj hc).1
   have h2:=(hi.dom j yj hy (by simp;omega)).2 (hno j cj hc h1.1)
   have h3:=h1.2
   unfold Kn at h3;simp at h3;omega
theorem aGu(hm:s.made){c:Dom}(hc:s.domains[D]? =some c)(keep:Bool)(hkeep:keep=true→c.ret=true)(hi:Inv s X (some D) none none x)(hno:∀(j:Nat) (cj:Dom),s.domains[j]? =some cj→cj.above=(D:Int)→hasB X.d j=false){y:fD}(hy:x.dm[D]? =some y)(oP:y.phase=49)(hq:Cp s x (D:Int) s.aC.length=true)(h1:∀(i:Nat) (p:cN×dK),x.dv[i]? =some p→p.2.at_≠1):
  ∃x',Zv s (fun x=>uH s x (D:Int) keep) 2 x x'∧Inv s (Ty X D) none none none x'∧∀(i:Nat) (p:cN×dK) (d:bO),x'.dv[i]? =some p→s.aC[i]? =some d→d.domain=(D:Int)→p.2.at_=2:=by
 have hlt:=(List.getElem?_eq_some_iff.1 hy).1
 have hlD:=(List.getElem?_eq_some_iff.1 hc).1
 have We:=Vh hy
 have aP3:(vW s x.dm (D:Int) keep).2=x.dm.set D ⟨99,y.left,y.kept,keep⟩:=by
  unfold vW;rw[show bN x.dm.length (D:Int)=true from decide_eq_true (by omega)];simp only[Bool.true_eq_false,if_false,Int.toNat_natCast,hc,hy];rw[if_neg (by omega),if_neg (fun h=>by rw[hkeep h.1] at h;simp at h),aOg hm hi hno];simp
 have hA:uH s x (D:Int) keep=({x with dv:=jF s x (D:Int) s.aC.length,dm:=x.dm.set D ⟨99,y.left,y.kept,keep⟩},false):=by
  unfold uH;rw[We,if_pos oP,hq,aP3];simp
 have hi1:=hi.aHN hm
 have hi2:Inv s X (some D) none none {x with dv:=jF s x (D:Int) s.aC.length,dm:=x.dm.set D ⟨99,y.left,y.kept,keep⟩}:=hi1.down hm hy keep
 have hi3:=hi2.tick hm
 have uR:∀(i:Nat) (p:cN×dK) (d:bO),(jF s x (D:Int) s.aC.length)[i]? =some p→s.aC[i]? =some d→p.2.at_≠1∧(d.domain=(D:Int)→p.2.at_=2):=fun i p d hp hd=>by
  have Jw:=(List.getElem?_eq_some_iff.1 hd).1
  obtain⟨p0,h0,h2⟩:=aD7 hd hp
  by_cases hD:d.domain=(D:Int)
  ·have h3:=aGQ.1 hq i p0 d Jw h0 hd hD
   rw[h2,if_pos (show i < s.aC.length∧d.domain=(D:Int) from⟨Jw,hD⟩),if_neg (by omega),if_neg (by omega)];exact⟨by omega,fun _=>h3⟩
  ·rw[h2,if_neg fun h=>hD h.2];exact⟨h1 i p0 h0,fun h=>absurd h hD⟩
 generalize yB:({x with dv:=jF s x (D:Int) s.aC.length,dm:=x.dm.set D ⟨99,y.left,y.kept,keep⟩}:aO)=x2 at hA hi2 hi3
 have Wv:x2.dv=jF s x (D:Int) s.aC.length:=by rw[←yB]
 have zZ:x2.dm[D]? =some ⟨99,y.left,y.kept,keep⟩:=by
  rw[←yB];exact List.getElem?_set_self hlt
 have Mj:(iN s x2 0).dm[D]? =some (fW ⟨99,y.left,y.kept,keep⟩).2:=by simp only[iN,oF,List.getElem?_map,zZ,Option.map_some]
 have aHX:(fW ⟨99,y.left,y.kept,keep⟩).2.phase=48∨(fW ⟨99,y.left,y.kept,keep⟩).2.phase=116:=by
  unfold fW;cases keep
  ·exact .inl rfl
  ·exact .inr rfl
 have Js:∀(i:Nat) (p:cN×dK),(iN s x2 0).dv[i]? =some p→p.2.at_≠1∧∀d:bO,s.aC[i]? =some d→d.domain=(D:Int)→p.2.at_=2:=fun i p hp=>by
  obtain⟨p0,h0,h2,_⟩:=aAu hp;rw[Wv] at h0
  obtain⟨d,hd⟩:=get_some (l:=s.aC) (i:=i) (by
   have:=(List.getElem?_eq_some_iff.1 h0).1
   have:=hi.ok.dv
   simp[jF] at *
   omega)
  obtain⟨h3,h4⟩:=uR i p0 d h0 hd;rw[h2 h3]
  exact⟨h3,fun d' hd' hD=>by
   cases hd.symm.trans hd'
   exact h4 hD⟩
 have hA3:uH s (iN s x2 0) (D:Int) keep=(iN s x2 0,true):=by
  unfold uH;rw[Vh Mj,if_neg (by omega),if_pos aHX]
 refine⟨iN s x2 0,⟨hi.ok,.inr ⟨x2,hA,hi2.ok,hi2.wt,hi3.ok,.inl hA3⟩⟩,hi3.off hlD (fun z hz=>?_) (fun i p hp=>(Js i p hp).1),fun i p d hp hd hD=>(Js i p hp).2 d hd hD⟩;cases Mj.symm.trans hz;exact aHX
theorem aMg(hm:s.made){c:Dom}(hc:s.domains[D]? =some c)(keep:Bool)(hkeep:keep=true→c.ret=true)(hi:Inv s X none none none x)(hX:hasB X.d D=true)(hno:∀(j:Nat) (cj:Dom),s.domains[j]? =some cj→cj.above=(D:Int)→hasB X.d j=false):
  ∃(N:Nat) (x':aO),N≤3∧Zv s (fun x=>uH s x (D:Int) keep) N x x'∧Inv s (Ty X D) none none none x'∧∀(i:Nat) (p:cN×dK) (d:bO),x'.dv[i]? =some p→s.aC[i]? =some d→d.domain=(D:Int)→p.2.at_=2:=by
 have hlD:=(List.getElem?_eq_some_iff.1 hc).1
 obtain⟨y,hy⟩:=get_some (l:=x.dm) (i:=D) (by have:=hi.ok.dm.len;omega)
 have oP:=(hi.dom D y hy (by simp)).1 hX
 have hb:=hi.begin D
 cases hq:Cp s x (D:Int) s.aC.length
 ·have hA:uH s x (D:Int) keep=({x with dv:=jF s x (D:Int) s.aC.length},false):=by
   unfold uH;rw[Vh hy,if_pos oP,hq];simp
  have hi1:=hb.aHN hm
  have hi2:=hi1.tick hm
  have zZ:(iN s {x with dv:=jF s x (D:Int) s.aC.length} 0).dm[D]? =some y:=by
   simp only[iN,oF,List.getElem?_map,hy,Option.map_some];rw[aFV (.inl oP)]
  have Js:∀(i:Nat) (p:cN×dK),(iN s {x with dv:=jF s x (D:Int) s.aC.length} 0).dv[i]? =some p→p.2.at_≠1∧∀d:bO,s.aC[i]? =some d→d.domain=(D:Int)→p.2.at_=2:=fun i p hp=>by
   have Jw:i < s.aC.length:=by
    obtain⟨p0,h0,_⟩:=aAu hp
    have:=(List.getElem?_eq_some_iff.1 h0).1
    have:=hi1.ok.dv
    dsimp only at *;omega
   obtain⟨p0,h0,h2,h3⟩:=aFT hi1.wt Jw hp;obtain⟨d,hd⟩:=get_some Jw;obtain⟨p1,h4,h5⟩:=aD7 hd h0;obtain⟨h6,h7⟩:=hi.qW i p1 d h4 hd
   have h8:=hi.rest i p1 h4
   by_cases hD:d.domain=(D:Int)
   ·have hDn:d.domain.toNat=D:=by omega
    have h9:=h7 (by rw[hDn];exact hX) (by simp)
    rw[if_pos (show i < s.aC.length∧d.domain=(D:Int) from⟨Jw,hD⟩),if_neg (by omega),if_pos h9] at h5
    have h10:p0.2.at_=1:=by
     rw[h5];unfold sB;rw[if_neg (by omega)]
    have h11:=h3 h10
    exact⟨by omega,fun _ _ _=>h11⟩
   ·rw[if_neg fun h=>hD h.2] at h5
    have h10:p0.2.at_≠1:=by rw[h5];exact h8
    rw[h2 h10]
    exact⟨h10,fun d' hd' Xj=>by
     cases hd.symm.trans hd'
     exact absurd Xj hD⟩
  obtain⟨x',h1,h2,h3⟩:=aGu hm hc keep hkeep hi2 hno zZ oP (aGQ.2 fun i p d _ hp hd hD=>(Js i p hp).2 d hd hD) (fun i p hp=>(Js i p hp).1);exact⟨3,x',by omega,⟨hi.ok,.inr ⟨_,hA,hi1.ok,hi1.wt,h1⟩⟩,h2,h3⟩
 ·obtain⟨x',h1,h2,h3⟩:=aGu hm hc keep hkeep hb hno hy oP hq hi.rest;exact⟨2,x',by omega,h1,h2,h3⟩
end
end
section
section
variable{P:Program}{ops:Array Oper}{Q:Exit→Act→World→Prop}{N:bZ}{w0:World}{e e':Env}{R R':List Piece}{H H':List HP}{rest:List Oper}{d:Nat}{ty:TypeId}{pos:String}{aH:Array Edge}
def isIface(P:Program)(t:TypeId):Bool:=match P.underlying t with
 | some (.interface _)=>true
 | _=>false
def aHm(P:Program)(t:TypeId):Bool:=match P.underlying t with
 | some (.interface _)=>false
 | some _=>true
 | none=>false
theorem Sc{x:Operand}{t:TypeId}{v:Value}(hx:e.ev x=some v)(ht:aHm P t=true:=by kernel_rfl):bQ P N w0 e R H ⟨some d,.makeInterface t x,ty,pos,aH,none⟩ (.iface t v):=iL fun a w hr=>by
 unfold aHm at ht;cases hu:P.underlying t with
 | none=>rw[hu] at ht;cases ht
 | some u=>cases u<;>first | (rw[hu] at ht;cases ht;done) | simp[execOp,hr.ev hx,Instr.makeInterface,run_underlying hu]
theorem aMe(w:World)(n:Nat)(t:TypeId){f:Array (String×TypeId)}(hu:P.underlying t=some (.interface f)):(Op.equalIn (n+1) t .nilIface .nilIface).run P w=.ok true w:=by simp[Op.equalIn,run_underlying hu]
theorem aMb(w:World)(n:Nat)(t:TypeId){f:Array (String×TypeId)}(u:TypeId)(v:Value)(hu:P.underlying t=some (.interface f)):(Op.equalIn (n+1) t (.iface u v) .nilIface).run P w=.ok false w:=by simp[Op.equalIn,run_underlying hu]
theorem aIX{x:Operand}{t u:TypeId}{v:Value}{b:Bool}(hx:e.ev x=some v)(hv:(v=.nilIface∧b=true)∨(∃u y,v=.iface u y)∧b=false)(ht:isIface P t=true:=by kernel_rfl):bQ P N w0 e R H ⟨some d,.binOp .eql t x (.const .nilIface) u,ty,pos,aH,none⟩ (.bool b):=iL fun a w hr=>by
 have h2:=hr.ev (show e.ev (.const .nilIface)=some .nilIface from rfl)
 unfold isIface at ht;split at ht
 ·rename_i f1 hu
  rcases hv with⟨rfl,rfl⟩ | ⟨⟨u,y,rfl⟩,rfl⟩
  ·have h4:(Op.equal t .nilIface .nilIface).run P w=.ok true w:=aMe w 9999 t hu
   simp[execOp,hr.ev hx,h2,eqGuard,binOp,h4]
  ·have h4:(Op.equal t (.iface u y) .nilIface).run P w=.ok false w:=aMb w 9999 t u y hu
   simp[execOp,hr.ev hx,h2,eqGuard,binOp,h4]
 ·cases ht
theorem aF6(i:Nat){dst:Option Nat}{e':Env}{f:FuncId}{x:Operand}{name:String}{args:List Operand}{vs:List Value}{tys:Array TypeId}{tx:TypeId}{u u':Value}{p:HP}{v:Value}(q:HP)(hf:fH P f=true)(hx:e.ev x=some (.iface tx u))(hm:∀w,(method (P.types.size+Made.depth) tx u name).run P w=.ok (f,u') w)(ha:e.fT args=some vs)(hi:H[i]? =some p)
  (hd:match dst with | some d=>d < N.n∧e'=(d,v)::e | none=>e'=e)
  (hc:∀w F,St w0 R H w→p.sat F w→(∀b,F b→b < w.heap.size)→(∀q∈R,q.Le ⟨w,fun b=>b < w.heap.size∧¬F b⟩)→Calls P f (u'::vs).toArray w fun y w'=>y=.returned v∧∃F',q.sat F' w'∧iE w w' F F')
  (k:XK N w0 (wpList P ops Q rest) e' R (H.set i q)):XK N w0 (wpList P ops Q (⟨dst,.call {callee:=.invoke x name,args:=args.toArray,argTypes:=tys},ty,pos,aH,none⟩::rest)) e R H:=fun a w hr st=>wpList_plain rfl fun K hK=>by
 unfold fH at hf;cases hq:P.funcs[f]? with
 | none=>simp[hq] at hf
 | some fn =>
  simp[hq] at hf;obtain⟨gL,nQ⟩:=hf
  have hrun:(execOp a.eval (⟨dst,.call {callee:=.invoke x name,args:=args.toArray,argTypes:=tys},ty,pos,aH,none⟩:Oper)).run P w=.ok (.enter f (u'::vs).toArray) w:=by
   cases hb:fn.body with
   | none=>simp[hb] at nQ
   | some c=>
    have h0:(#[Value.iface tx u]++(args.toArray.map a.eval))[0]? =some (.iface tx u):=by simp[Array.getElem?_append]
    simp[execOp,resolve,hr.ev hx,invoke,callMethod,hm,callFunc,hq,gL,hb,hr.fT ha]
  obtain⟨Z,F,hz,cI,hs,dB,eD⟩:=st.ex;unfold Oper.wp;rw[hrun];refine(hc w (F i) st (hs i p hi) (fun b hb=>(dB i b hb).2) (fun q hq b hb=>⟨⟨hz b (cI q hq b hb).1,fun pP=>(dB i b pP).1 (cI q hq b hb).1⟩,(cI q hq b hb).2⟩)).mono fun y w' ⟨hy,F',mE,ht⟩=>?_;subst hy
  have st':St w0 R (H.set i q) w':=by
   have hlt:i < H.length:=by
    rcases Nat.lt_or_ge i H.length with h | h
    ·exact h
    ·rw[List.getElem?_eq_none h] at hi;cases hi
   refine⟨ht.os.trans st.os,ht.tape.trans st.tape,ht.output.trans st.output,Nat.le_trans st.size ht.size,Z,fun j=>if j=i then F' else F j,fun b h=>Nat.lt_of_lt_of_le (hz b h) ht.size,fun p hp b h=>?_,fun j r hj=>?_,fun j b h=>?_,fun j k b lC h=>?_⟩
   ·exact⟨(cI p hp b h).1,(ht.old b (hz b (cI p hp b h).1) (fun pP=>(dB i b pP).1 (cI p hp b h).1)).trans (cI p hp b h).2⟩
   ·rw[List.getElem?_set] at hj;split at hj
    ·rename_i e;subst e
     first | (rw[if_pos hlt] at hj;cases hj) | cases hj
     simpa using mE
    ·rename_i e
     simp only[if_neg (Ne.symm e)];exact r.loc _ _ _ (hs j r hj) (fun b hb=>ht.old b (dB j b hb).2 (eD j i b (Ne.symm e) hb))
   ·dsimp only at h;split at h
    ·refine⟨fun gZ=>?_,(ht.new b h).2⟩;rcases(ht.new b h).1 with h | h
     ·exact(dB i b h).1 gZ
     ·have:=hz b gZ;omega
    ·exact⟨(dB j b h).1,Nat.lt_of_lt_of_le (dB j b h).2 ht.size⟩
   ·dsimp only at h⊢;split at h<;>split
    ·rename_i h1 h2;omega
    ·rename_i e1 e2
     intro hk;rcases(ht.new b h).1 with h | h
     ·exact eD i k b (by omega) h hk
     ·have:=(dB k b hk).2;omega
    ·rename_i e1 e2
     intro hk;rcases(ht.new b hk).1 with hk | hk
     ·exact eD j i b (by omega) h hk
     ·have:=(dB j b h).2;omega
    ·exact eD j k b lC h
  cases dst with
  | none=>dsimp only at hd;subst hd;exact hK _ _ (k _ _ hr st')
  | some d=>dsimp only at hd;obtain⟨hd,rfl⟩:=hd;exact hK _ _ (k _ _ (hr.put hd v) st')
end
end
section
structure Cn where
 l:List (Int×Int)
 jX:Bool
def pE(nd:Nat)(c:Cn)(dev:Int):Int×Cn:=if c.jX then(6,c) else if ¬(0≤dev∧dev < nd) then(4,c) else if 7≤eJ c.l dev then(8,c) else(0,⟨xZ c.l dev (IntKind.i64.wrap (eJ c.l dev+1)),c.jX⟩)
def qK(nd:Nat)(c:Cn)(dev:Int):Int×Cn:=if c.jX then(6,c) else if ¬(0≤dev∧dev < nd) then(4,c) else if eJ c.l dev≤0 then(6,c) else(0,⟨xZ c.l dev (IntKind.i64.wrap (eJ c.l dev - 1)),c.jX⟩)
def tO(c:Cn):Int×Cn:=if c.jX then(6,c) else(0,⟨c.l,true⟩)
def tP(c:Cn):Int×Cn:=if c.jX then(0,⟨c.l,false⟩) else(6,c)
def sZ(gc gm:Nat)(v:Value)(c:Cn):HP:=HP.many [HP.aE gc 160 [v,.map (some gm),.bool c.jX],HP.map gm (wX c.l)]
section
variable{N:bZ}{w0:World}{e:Env}{R:List Piece}{H:List HP}{Q:Exit→Act→World→Prop}{ops:Array Oper}{rest:List Oper}{d:Nat}{ty:TypeId}{pos:String}{aH:Array Edge}
theorem Vq{x y:Operand}(i:Nat){r:Nat}{l:List (Int×Int)}{k:Int}(hi:H[i]? =some (HP.map r (wX l)))(kk:XK N w0 (wpList Tryz.prog ops Q rest) ((d,iv (eJ l k))::e) R H)(hx:e.ev x=some (.map (some r)):=by rfl)(hy:e.ev y=some (iv k):=by rfl)(hd:d < N.n:=by decide):
  XK N w0 (wpList Tryz.prog ops Q (⟨some d,.lookup 158 x y false,ty,pos,aH,none⟩::rest)) e R H:=by
 refine aAi (kt:=3) (et:=3) (kd:=.i64) (z:=iv 0) (l:=wX l) false (by kernel_rfl) (by kernel_rfl) (by kernel_rfl) hx hy (fun w1 st=>st.map hi) hd ?_;simp only[Bool.false_eq_true,if_false,aH1];exact kk
theorem aHF{x y u:Operand}(i:Nat){r:Nat}{l:List (Int×Int)}{k v:Int}(hi:H[i]? =some (HP.map r (wX l)))(kk:XK N w0 (wpList Tryz.prog ops Q rest) e R (H.set i (HP.map r (wX (xZ l k v)))))(hx:e.ev x=some (.map (some r)):=by rfl)(hy:e.ev y=some (iv k):=by rfl)(hu:e.ev u=some (iv v):=by rfl):
  XK N w0 (wpList Tryz.prog ops Q (⟨none,.mapUpdate 158 x y u,ty,pos,aH,none⟩::rest)) e R H:=by
 refine Iy (kt:=3) (et:=3) (kd:=.i64) (l:=wX l) i (by kernel_rfl) (by kernel_rfl) hi hx hy hu ?_;rw[aHv];exact kk
end
theorem aJf(gc n k:Nat)(A:Option Addr)(dev:Int)(w:World)(h0:fK w gc 0 (.slice A n k)):
  Cz 64 #[pt gc,iv dev] w (Rt (.bool (bN n dev)) w):=by
 refine aL func64 ntmps64 ?_;refine aA ?_;refine bU (t:=7) rfl (fun h=>?_) (fun h=>?_)
 ·refine aA ?_;refine jY (by simp) ?_;unfold bN
  congr 1
  simp;omega
 ·refine aA ?_;refine jY (by simp) ?_
  have:bN n dev=false:=decide_eq_false (by omega)
  rw[this]
section
variable(gc gm n k:Nat)(A:Option Addr)(c:Cn)(w:World)(F:Nat→Prop)
theorem aRU(dev:Int)(hp:(sZ gc gm (.slice A n k) c).sat F w)(hF:∀b,F b→b < w.heap.size):
  Cz 25 #[pt gc,iv dev] w (Wr (iv (pE n c dev).1) (sZ gc gm (.slice A n k) (pE n c dev).2) w F):=by
 refine dJ func25 ntmps25 hp hF ?_;obtain⟨l,jX⟩:=c;unfold sZ pE;dsimp only;refine bF 0 0 ?_;refine bF 1 1 ?_;cases jX
 ·refine aA ?_;refine aU (fun w1 t=>aJf gc n k A dev w1 ((uT (t.aE (i:=1) rfl)).at_ (j:=0) rfl)) ?_
  by_cases hin:0≤dev∧dev < (n:Int)
  ·rw[show bN n dev=true from decide_eq_true hin,if_neg (by simp),if_neg (by simpa using hin)];refine aA ?_;refine Vq 0 rfl ?_;refine dW ?_;refine aA ?_;refine aG rfl (fun h7=>?_) (fun h7=>?_)
   ·rw[if_pos (by omega)];refine aA ?_;refine aN 1 1 ?_;refine aN 0 0 ?_;exact cH 0 hF
   ·rw[if_neg (by omega)];refine aA ?_;refine Vq 0 rfl ?_;refine kd (Nn rfl rfl rfl) ?_;refine aHF 0 rfl ?_;dsimp only[List.set];refine aA ?_;refine aN 1 1 ?_;refine aN 0 0 ?_;exact cH 0 hF
  ·rw[show bN n dev=false from decide_eq_false hin,if_neg (by simp),if_pos (by simpa using hin)];refine aA ?_;refine aN 1 1 ?_;refine aN 0 0 ?_;exact cH 0 hF
 ·rw[if_pos rfl];refine aA ?_;refine aN 1 1 ?_;refine aN 0 0 ?_;exact cH 0 hF
theorem aRS(dev:Int)(hp:(sZ gc gm (.slice A n k) c).sat F w)(hF:∀b,F b→b < w.heap.size):
  Cz 28 #[pt gc,iv dev] w (Wr (iv (qK n c dev).1) (sZ gc gm (.slice A n k) (qK n c dev).2) w F):=by
 refine dJ func28 ntmps28 hp hF ?_;obtain⟨l,jX⟩:=c;unfold sZ qK;dsimp only;refine bF 0 0 ?_;refine bF 1 1 ?_;cases jX
 ·refine aA ?_;refine aU (fun w1 t=>aJf gc n k A dev w1 ((uT (t.aE (i:=1) rfl)).at_ (j:=0) rfl)) ?_
  by_cases hin:0≤dev∧dev < (n:Int)
  ·rw[show bN n dev=true from decide_eq_true hin,if_neg (by simp),if_neg (by simpa using hin)];refine aA ?_;refine Vq 0 rfl ?_;refine dW ?_;refine aA ?_;refine aG rfl (fun h7=>?_) (fun h7=>?_)
   ·rw[if_pos (by omega)];refine aA ?_;refine aN 1 1 ?_;refine aN 0 0 ?_;exact cH 0 hF
   ·rw[if_neg (by omega)];refine aA ?_;refine Vq 0 rfl ?_;refine kd (Nk rfl rfl rfl) ?_;refine aHF 0 rfl ?_;dsimp only[List.set];refine aA ?_;refine aN 1 1 ?_;refine aN 0 0 ?_;exact cH 0 hF
  ·rw[show bN n dev=false from decide_eq_false hin,if_neg (by simp),if_pos (by simpa using hin)];refine aA ?_;refine aN 1 1 ?_;refine aN 0 0 ?_;exact cH 0 hF
 ·rw[if_pos rfl];refine aA ?_;refine aN 1 1 ?_;refine aN 0 0 ?_;exact cH 0 hF
theorem aRQ(hp:(sZ gc gm (.slice A n k) c).sat F w)(hF:∀b,F b→b < w.heap.size):
  Cz 26 #[pt gc] w (Wr (iv (tO c).1) (sZ gc gm (.slice A n k) (tO c).2) w F):=by
 refine dJ func26 ntmps26 hp hF ?_;obtain⟨l,jX⟩:=c;unfold sZ tO;dsimp only;refine bF 0 0 ?_;cases jX
 ·refine aA ?_;refine aN 0 0 ?_;exact cH 0 hF
 ·refine aA ?_;refine aN 0 0 ?_;exact cH 0 hF
theorem aRR(hp:(sZ gc gm (.slice A n k) c).sat F w)(hF:∀b,F b→b < w.heap.size):
  Cz 27 #[pt gc] w (Wr (iv (tP c).1) (sZ gc gm (.slice A n k) (tP c).2) w F):=by
 refine dJ func27 ntmps27 hp hF ?_;obtain⟨l,jX⟩:=c;unfold sZ tP;dsimp only;refine bF 0 0 ?_;cases jX
 ·refine aA ?_;refine aN 0 0 ?_;exact cH 0 hF
 ·refine aA ?_;refine aN 0 0 ?_;exact cH 0 hF
end
theorem aRV(gc:Nat)(b:Bool)(w:World)(h2:fK w gc 2 (.bool b)):Cz 29 #[pt gc] w (Rt (.bool b) w):=by
 refine aL func29 ntmps29 ?_;refine aA ?_;exact dF
end
section
theorem aSG{P:Program}{w:World}{t ty e:TypeId}{i:TypeInfo}(ht:P.underlying t=some (.slice e))(hi:P.info? e=some i)(A:Option Addr)(x:Value){m c:Nat}{B:Option Addr}(hx:x=.slice B m c)(hm:0 < m)(hb:m*i.bytes≤140737488355328):
  (Builtin.append_ #[t,t] ty #[.slice A 0 0,x]).run P w=(Builtin.append_ #[t,t] ty #[sn,x]).run P w:=by
 subst hx
 have h0:¬0+m≤0:=by omega
 have hn:Builtin.nextslicecap (0+m) 0=m:=by
  unfold Builtin.nextslicecap;rw[Nat.zero_add];simp;omega
 have hcap:¬(Builtin.nextslicecap (0+m) 0*i.bytes>2 ^ 48):=by
  rw[hn];omega
 have hm0:¬m=0:=by omega
 have oY:¬(281474976710656 < Builtin.nextslicecap m 0*i.bytes):=by
  rw[←Nat.zero_add m]
  simpa using hcap
 cases A with
 | none=>rfl
 | some a=>simp[Builtin.append_,run_underlying ht,sizeOf,typeInfo,hi,Builtin.lenOf,Builtin.firstCells,h0,hcap,hm0,oY,loadCells,loadCellsFrom]
section
variable{P:Program}{ops:Array Oper}{Q:Exit→Act→World→Prop}{N:bZ}{w0:World}{e e':Env}{R R':List Piece}{H H':List HP}{rest:List Oper}{d:Nat}{ty:TypeId}{pos:String}{aH:Array Edge}
theorem aKQ(sz bytes m:Nat){x y:Operand}{t el:TypeId}{c':Nat}{A0 A:Option Addr}{news:List Value}(ht:P.underlying t=some (.slice el))(hT:(P.info? el).map (fun i=>(i.zero.map (fun z=>z.cells.size),i.size,i.bytes))=some (some sz,sz,bytes))(hpos:0 < sz)
  (hx:e.ev x=some (.slice A0 0 0)) (hy:e.ev y=some (.slice A m c')) (hs:∀w,St w0 R H w→∃B,Sl w B sz A m news) (h1:∀u∈news,u.oneCell'=true) (hm:0 < m) (h63:(m:Int)≤9223372036854775807) (hbytes:m*bytes≤140737488355328) (hd:d < N.n)
  (k:∀A' k',XK N w0 (wpList P ops Q rest) ((d,.slice A' m k')::e) R (HP.own el sz (.slice A' m k') m news::H)):
  XK N w0 (wpList P ops Q (⟨some d,.call {callee:=.builtin .append,args:=#[x,y],argTypes:=#[t,t]},ty,pos,aH,none⟩::rest)) e R H:=by
 obtain⟨ti,z,nA,hz,hsz,hby,hzs⟩:=aD6 hT;refine vE rfl fun a w hr st=>?_;obtain⟨B,rT⟩:=hs w st;obtain⟨v',w',hrun,h2,h3,h4⟩:=aGx (P:=P) w w.heap.size t ty el ti z sz bytes ht nA hz hsz hby hzs hpos (sn) 0 [] (World.ownsRow_nil _ _ _ _) B A m c' news rT h1 (by unfold maxLen;omega) (by simpa using hbytes) (Nat.le_refl _);rw[Nat.zero_add,List.nil_append] at h2;obtain⟨A',k',rfl,_⟩:=aHc h2;rw[←aSG ht nA A0 (.slice A m c') rfl hm (by rw[hby];exact hbytes)] at hrun
 have hb:Below w.heap.size w w':=⟨h3.os,h3.tape,h3.output,h3.size,fun b hb=>h3.block b hb (fun he=>by cases he)⟩
 refine⟨_,w',by simp only[execOp,resolve,invoke,builtin,hr.ev hx,hr.ev hy,List.map_toArray,List.map_cons,List.map_nil,Sem.run_bind,Sem.run_pure,Result.andThen_ok,hrun],k A' k' _ _ (hr.put hd _) (st.new hb ⟨fun g hg=>?_,?_⟩)⟩
 ·have:=h2.lt _ hg
  exact this
 ·exact⟨h2.1,h2.2.imp id fun⟨g,cap,cur,e1,_,e3⟩=>⟨g,cap,cur,e1,Nat.zero_le _,e3⟩⟩
end
section
variable{N:bZ}{w0:World}{e:Env}{R:List Piece}{H:List HP}{d:Nat}{ty:TypeId}{pos:String}{aH:Array Edge}
theorem aRv{x lo hi mx:Operand}{t el:TypeId}{A:Option Addr}{n c l h m sz:Nat}{kl kh km:IntKind}[hT:lH t el sz](hx:e.ev x=some (.slice A n c))(hl:e.ev lo=some (.int kl (l:Int)))(hh:e.ev hi=some (.int kh (h:Int)))(hm:e.ev mx=some (.int km (m:Int)))(h1:l≤h)(h2:h≤m)(h3:m≤c):
  bQ Tryz.prog N w0 e R H ⟨some d,.slice t x (some lo) (some hi) (some mx),ty,pos,aH,none⟩ (.slice (if m=l then A else A.map (·.add (l*sz))) (h - l) (m - l)):=iL fun a w hr=>by
 obtain⟨i0,oU,hz⟩:=Option.map_eq_some_iff.1 hT.s;simp[execOp,hr.ev hx,hr.ev hl,hr.ev hh,hr.ev hm,Instr.sliceAt,Instr.slice,Instr.sliceBounds,run_sliceBound,run_underlying hT.h,sizeOf,typeInfo,oU,hz,h1,h2,h3]
theorem aIS{x lo:Operand}{t el:TypeId}{A:Option Addr}{n c l sz:Nat}{kl:IntKind}[hT:lH t el sz](hx:e.ev x=some (.slice A n c))(hl:e.ev lo=some (.int kl (l:Int)))(h1:l≤n):
  bQ Tryz.prog N w0 e R H ⟨some d,.slice t x (some lo) none none,ty,pos,aH,none⟩ (.slice (if c=l then A else A.map (·.add (l*sz))) (n - l) (c - l)):=iL fun a w hr=>by
 obtain⟨i0,oU,hz⟩:=Option.map_eq_some_iff.1 hT.s;simp[execOp,hr.ev hx,hr.ev hl,Instr.sliceAt,Instr.slice,Instr.sliceBounds,run_sliceBound,run_underlying hT.h,sizeOf,typeInfo,oU,hz,h1]
theorem aTm{K:Act→World→Prop}(i:Nat){n sz:Nat}{t:TypeId}{v:Value}{xs:List Value}(hi:H[i]? =some (HP.own t sz v n xs))(hn:0 < n)(h:∀g c,v=.slice (some ⟨g,0,none⟩) n c→n≤c→XK N w0 K e R H):XK N w0 K e R H:=fun a w hr st=>by
 obtain⟨_,h2⟩:=st.own hi;rcases h2 with⟨_,h3⟩ | ⟨g',cap,cur,hv,_,_,h3,_⟩
 ·omega
 ·exact h g' cap hv h3 a w hr st
theorem aTs{K:Act→World→Prop}(j i:Nat){p:Prop}{ps:List HP}(hj:H[j]? =some (HP.many ps))(hi:ps[i]? =some (Ou p))(h:p→XK N w0 K e R H):XK N w0 K e R H:=fun a w hr st=>by
 obtain⟨F,hF⟩:=(st.take hj hi).sat (i:=0) rfl;exact h hF a w hr st
end
def wL(g n:Nat)(vs:List Value)(ws:List (Option jB)):List HP:=HP.aE g 267 vs::Ou (vs.length=n)::(List.range n).map fun i=>QH (vs.getD i undef) (ws[i]?).join
theorem aLj{g n i:Nat}{vs:List Value}{ws:List (Option jB)}(hi:i < n):(wL g n vs ws)[i+2]? =some (QH (vs.getD i undef) (ws[i]?).join):=by
 unfold wL;rw[List.getElem?_cons_succ,List.getElem?_cons_succ,List.getElem?_map,List.getElem?_range hi];rfl
theorem aLk{g n i:Nat}{vs:List Value}{ws:List (Option jB)}{v:Value}{q:Option jB}(hi:i < n)(hv:vs.length=n)(hw:ws.length=n):
  (((((wL g n vs ws).set 0 cG).set (i+2) cG).set (i+2) (QH v q)).set 0 (HP.aE g 267 (vs.set i v)))=wL g n (vs.set i v) (ws.set i q):=by
 refine List.ext_getElem? fun k=>?_
 match k with
 | 0=>rfl
 | 1=>
  show some (Ou (vs.length=n))=some (Ou ((vs.set i v).length=n))
  rw[List.length_set]
 | k + 2 =>
  unfold wL;simp only[List.set_cons_zero,List.set_cons_succ,List.getElem?_cons_succ,List.set_set,List.getElem?_map];rw[List.getElem?_set]
  by_cases h:i=k
  ·subst h;rw[if_pos rfl,if_pos (by simpa using hi),List.getElem?_range hi];simp only[Option.map_some];rw[List.getD_eq_getElem?_getD,List.getElem?_set_self (by omega),List.getElem?_set_self (by omega)];rfl
  ·rw[if_neg h,List.getElem?_map];cases hr:(List.range n)[k]? with
   | none=>rfl
   | some j=>
    obtain⟨_,rfl⟩:=List.getElem?_eq_some_iff.1 hr;simp only[List.getElem_range,Option.map_some];rw[List.getD_eq_getElem?_getD,List.getD_eq_getElem?_getD,List.getElem?_set_ne h,List.getElem?_set_ne h]
section
variable{N:bZ}{w0:World}{e:Env}{R:List Piece}{H:List HP}{K:Act→World→Prop}{L:BL}{ms:List Int}{ws:List (Option jB)}{aR:Int}
def Ys(L:BL)(ms:List Int)(aR:Int):List Value:=[.slice (some ⟨L.gr,0,none⟩) ms.length ms.length,.slice (some ⟨L.gw,0,none⟩) ms.length ms.length,iv aR]
def aFO(L:BL)(ms:List Int)(ws:List (Option jB))(vs:List Value)(i:Nat):HP:=HP.many (((wL L.gw ms.length vs ws).set 0 cG).set (i+2) cG)
theorem aJR(j i:Nat)(hj:H[j]? =some (zE L ms ws aR))(hi:i < ms.length)(h:∀vs:List Value,vs.length=ms.length→
      XK N w0 K e R (QH (vs.getD i undef) (ws[i]?).join::HP.aE L.gw 267 vs::aFO L ms ws vs i::HP.aE L.b 270 (Ys L ms aR)::H.set j (HP.many [cG,HP.aE L.gr 3 (aK ms),cG]))):XK N w0 K e R H:=by
  have hlt:=(List.getElem?_eq_some_iff.1 hj).1
  refine sU j 0 hj rfl ?_;refine sU (j+1) 2 (by rw[List.getElem?_cons_succ,List.getElem?_set_self hlt]) rfl ?_;refine aBV 0 rfl fun vs=>?_;refine aTs 0 1 rfl rfl fun hv=>?_;refine sU 0 0 rfl rfl ?_;refine sU 1 (i+2) rfl (p:=QH (vs.getD i undef) (ws[i]?).join) ?_ ?_
  · show((wL L.gw ms.length vs ws).set 0 cG)[i+2]? =_
    rw[List.getElem?_set_ne (by omega),aLj hi]
  · have h:=h vs hv
    simp only[List.set_cons_succ,List.set_cons_zero,List.set_set];exact h
theorem aJX(j i:Nat){vs:List Value}{v:Value}{q:Option jB}(hj:H[j]? =some (HP.many [cG,HP.aE L.gr 3 (aK ms),cG]))(hi:i < ms.length)(hv:vs.length=ms.length)(hw:ws.length=ms.length)
  (h:XK N w0 K e R (H.set j (zE L ms (ws.set i q) aR))):XK N w0 K e R (QH v q::HP.aE L.gw 267 (vs.set i v)::aFO L ms ws vs i::HP.aE L.b 270 (Ys L ms aR)::H):=by
 have hlt:=(List.getElem?_eq_some_iff.1 hj).1
 have hlen:(wL L.gw ms.length vs ws).length=ms.length+2:=by simp[wL]
 refine sV 1 (i+2) rfl ?_ ?_
 ·rw[List.getElem?_set_self (by simp[hlen];omega)]
 dsimp only[List.set];refine sV 0 0 rfl ?_ ?_
 ·rw[List.set_set,List.getElem?_set_ne (by omega),List.getElem?_set_self (by simp[hlen])]
 rw[aLk hi hv hw];dsimp only[List.set];refine xB 0 (f:=fun vs:List Value=>HP.many (wL L.gw ms.length vs (ws.set i q))) (vs.set i v) rfl ?_;dsimp only[List.set];refine sV (j+1) 2 (by rw[List.getElem?_cons_succ];exact hj) rfl ?_;dsimp only[List.set];refine sV j 0 (by rw[List.getElem?_set_self hlt]) rfl ?_;rw[List.set_set];exact h
end
theorem aS5(L:BL)(ms:List Int)(ws:List (Option jB))(aR:Int)(i:Nat)(hi:i < ms.length)(hw:ws.length=ms.length)(t:jB)(ht:(ws[i]?).join=some t)(w:World)(F:Nat→Prop)(hp:(zE L ms ws aR).sat F w)(hF:∀b,F b→b < w.heap.size):
  Cz 108 #[.pointer (some ⟨L.b,0,none⟩),iv (i:Int)] w (Wr (.tuple #[.agg #[iv t.id,.bool t.wr,iv t.bY,.int .u32 t.val],.bool true]) (zE L ms (ws.set i none) aR) w F):=by
 have hin:bN ms.length (i:Int)=true:=decide_eq_true (by omega)
 refine dJ func108 ntmps108 hp hF ?_;generalize cK:(⟨w,fun b=>b < w.heap.size∧¬F b⟩:Piece)=R0;refine aA ?_;refine bR fun g1=>?_;refine aA ?_;refine aU (fun w1 st=>aBG L ms ws aR i w1 (st.aJx 1 rfl)) ?_;rw[hin];refine aJR 1 i rfl hi fun vs hv=>?_;rw[ht];dsimp only[List.set];refine aTm 0 rfl (by decide) fun g c hg hc=>?_
 have Vw:vs[i]? =some (.slice (some ⟨g,0,none⟩) 1 c):=by
  obtain⟨v,h1⟩:=get_some (l:=vs) (i:=i) (by omega);rw[List.getD_eq_getElem?_getD,h1] at hg;rw[h1];exact congrArg some hg
 rw[hg];refine aA ?_;refine kd (dat i i) ?_;refine aA ?_;refine kd (bM rfl (Rd.aE 1 rfl Vw)) ?_;refine aA ?_;refine kd (dat i i) ?_;refine aA ?_;refine kd (bM rfl (Rd.aE 1 rfl Vw)) ?_;refine aA ?_;refine jL [1,2,3,7,9,10,11] ?_;refine bP 0 ?_;refine aJ 1 ?_;refine aJ 2 ?_;refine aJ 3 ?_;refine bP 4 ?_;refine bP 5 ?_;refine bP 6 ?_;refine aJ 7 ?_;refine bP 8 ?_;refine aJ 9 ?_;refine aJ 10 ?_ (hi:=rfl) (dI:=aRv (l:=1) (h:=1) (m:=1) rfl rfl rfl rfl (by omega) (by omega) hc);refine aJ 11 ?_ (hi:=rfl) (dI:=dat i i);refine aM 12 ?_;refine fG rfl rfl ?_ (hs:=fB.mk 1 rfl cJ.h rfl (by omega));dsimp only[List.set];refine cX ?_;refine fJ ?_;refine aA ?_;refine kd (dat 0 0) ?_;refine kd (oZ rfl (aQ.of fun j v hv=>by rw[Nat.zero_add];exact Rd.own 0 rfl hv)) ?_;refine oM 4 rfl ?_;dsimp only[List.set];refine aA ?_;refine Bh (q:=QH (.slice (some ⟨g,0,none⟩) 0 0) none) 0 rfl (fun _ _ _=>⟨_,rfl⟩) ?_;refine aJX 1 i rfl hi hv hw ?_;dsimp only[List.set];subst cK;exact xC (vs:=[iv t.id,.bool t.wr,iv t.bY,.int .u32 t.val]) rfl (by kernel_rfl) rfl rfl (aQ.whole 0 rfl) rfl fun w1 st=>⟨rfl,st.turns hF (by simp) (i:=1) rfl⟩
end
section
theorem aBF(w0 low many:Int)(w:World)(hok:okF low many)(hr:0≤cM w0 low many∧cM w0 low many < 4294967296):
  Cz 296 #[.int .u32 w0,iv low,iv many] w (Rt (iv (cM w0 low many)) w):=by
 refine aL func296 ntmps296 ?_;refine aA ?_;refine aU (fun w1 t=>aIv w0 low many w1 hok) ?_;refine aA ?_;refine kd (Ks (ds:=.int .u32) (kd:=.i64) (c:=cM w0 low many) (by kernel_rfl) (by kernel_rfl) rfl (iR (by omega))) ?_;refine aA ?_;exact dF
theorem aBt(w low many:Int):0≤cM w low many∧cM w low many < 4294967296:=Pg _
theorem aJw(a dev bY:Int)(h0:cM a 0 2=0)(h1:cM a 24 8=0)(h2:cM a 16 8=dev)(h3:cM a 2 14=bY)(w:World):
  Cz 294 #[.int .u32 a] w (Rt (.tuple #[iv dev,iv bY]) w):=by
 refine aL func294 ntmps294 ?_;refine aA ?_;refine aU (fun w1 t=>aBF a 0 2 w1 (by unfold okF;omega) (aBt _ _ _)) ?_;rw[h0];refine aA ?_;refine aU (fun w1 t=>aBF a 24 8 w1 (by unfold okF;omega) (aBt _ _ _)) ?_;rw[h1];refine aA ?_;refine aU (fun w1 t=>aBF a 16 8 w1 (by unfold okF;omega) (aBt _ _ _)) ?_;rw[h2];refine aA ?_;refine aU (fun w1 t=>aBF a 2 14 w1 (by unfold okF;omega) (aBt _ _ _)) ?_;rw[h3];refine aA ?_;exact eK rfl rfl rfl fun w1 t=>⟨rfl,t.below (by simp)⟩
def Sq(dev bY:Int):Int:=(zO (zO 0 16 8 dev).1 2 14 bY).1
structure aUa(dev bY:Int):Prop where
 p1:(zO 0 16 8 dev).2=0
 p2:(zO (zO 0 16 8 dev).1 2 14 bY).2=0
 z0:cM (Sq dev bY) 0 2=0
 z1:cM (Sq dev bY) 24 8=0
 z2:cM (Sq dev bY) 16 8=dev
 z3:cM (Sq dev bY) 2 14=bY
theorem aJA{dev bY:Int}(h1:0≤dev∧dev < 4)(h2:0≤bY∧bY < 4):aUa dev bY:=by
 have hd:dev=0∨dev=1∨dev=2∨dev=3:=by omega
 have hr:bY=0∨bY=1∨bY=2∨bY=3:=by omega
 rcases hd with rfl | rfl | rfl | rfl<;>rcases hr with rfl | rfl | rfl | rfl<;>exact⟨by decide+kernel,by decide+kernel,by decide+kernel,by decide+kernel,by decide+kernel,by decide+kernel⟩
theorem aS9(dev bY:Int)(hd:0≤dev∧dev < 4)(hr:0≤bY∧bY < 4)(w:World):
  Cz 292 #[iv dev,iv bY] w (Rt (.tuple #[.int .u32 (Sq dev bY),iv 0]) w):=by
 have ha:=aJA hd hr
 refine aL func292 ntmps292 ?_;refine aA ?_;refine bU (t:=10) rfl (fun h=>absurd h (by omega)) (fun _=>?_);refine aA ?_;refine bU (t:=14) rfl (fun h=>absurd h (by omega)) (fun _=>?_);refine aA ?_;refine bU (t:=18) rfl (fun h=>absurd h (by omega)) (fun _=>?_);refine aA ?_;refine aG rfl (fun h=>absurd h (by omega)) (fun _=>?_);refine aA ?_;refine kd (Ks (ds:=.int .i64) (kd:=.u32) (c:=dev) (by kernel_rfl) (by kernel_rfl) rfl (wrap_u32 (by omega))) ?_;refine aU (fun w1 t=>aCY 0 16 8 dev w1 (by unfold okF;omega)) ?_;rw[ha.p1];refine aA ?_;refine kd (Ks (ds:=.int .i64) (kd:=.u32) (c:=bY) (by kernel_rfl) (by kernel_rfl) rfl (wrap_u32 (by omega))) ?_;refine aU (fun w1 t=>aCY _ 2 14 bY w1 (by unfold okF;omega)) ?_;rw[ha.p2];refine aA ?_;exact eK rfl rfl rfl fun w1 t=>⟨rfl,t.below (by simp)⟩
theorem aS7(L:BL)(ms:List Int)(ws:List (Option jB))(aR:Int)(i:Nat)(hi:i < ms.length)(hml:ms.length≤6)(hw:ws.length=ms.length)(h0:(ws[i]?).join=none)(a bY:Int)(z0:cM a 0 2=0)(z1:cM a 24 8=0)(z2:cM a 16 8=i)(z3:cM a 2 14=bY)(m:Int)(hm:ms[i]? =some m)(hr:0≤bY∧bY < m)(b:Bool)(v:Int)(lQ:0≤aR∧aR≤1000000000)(w:World)(F:Nat→Prop)(hp:(zE L ms ws aR).sat F w)(hF:∀b,F b→b < w.heap.size):
  Cz 295 #[.pointer (some ⟨L.b,0,none⟩),.int .u32 a,.bool b,.int .u32 v] w (Wr (.tuple #[iv aR,iv 0]) (zE L ms (ws.set i (some ⟨aR,b,bY,v⟩)) (aR+1)) w F):=by
 have hin:bN ms.length (i:Int)=true:=decide_eq_true (by omega)
 have hmi:(aK ms)[i]? =some (iv m):=by simp[aK,hm]
 refine dJ func295 ntmps295 hp hF ?_;generalize cK:(⟨w,fun b=>b < w.heap.size∧¬F b⟩:Piece)=R0;refine aA ?_;refine aU (fun w1 t=>aJw a i bY z0 z1 z2 z3 w1) ?_;refine aA ?_;refine aU (fun w1 st=>aBG L ms ws aR i w1 (st.aJx 0 rfl)) ?_;rw[hin];refine aJR 0 i rfl hi fun vs hv=>?_;rw[h0];dsimp only[List.set];refine bF 4 1 ?_;refine aTt (p:=∃A,vs.getD i undef=.slice A 0 0) 1 rfl fun⟨A,hA⟩=>?_
 have Vw:vs[i]? =some (.slice A 0 0):=by
  obtain⟨u,h1⟩:=get_some (l:=vs) (i:=i) (by omega);rw[List.getD_eq_getElem?_getD,h1] at hA;rw[h1];exact congrArg some hA
 refine aA ?_;refine bU (t:=26) rfl (fun h=>absurd h (by omega)) (fun _=>?_);refine aA ?_;refine kd (dat i i) ?_;refine aA ?_;refine kd (bM rfl (Rd.aE 0 rfl hmi)) ?_;refine aA ?_;refine aG rfl (fun h=>absurd h (by omega)) (fun _=>?_);refine aA ?_;refine kd (dat i i) ?_;refine aA ?_;refine kd (bM rfl (Rd.aE 2 rfl Vw)) ?_;refine aA ?_;refine fG rfl rfl ?_ (hs:=fB.mk 4 rfl cJ.h rfl (by simp[Ys]));dsimp only[List.set];rw[show(Ys L ms aR).set (0+2) (iv (aR+1))=Ys L ms (aR+1) from rfl];refine aA ?_;refine jL [1,2,3,6,7,8,10,11] ?_;refine bP 0 ?_;refine aJ 1 ?_;refine aJ 2 ?_;refine aJ 3 ?_;refine bP 4 ?_;refine bP 5 ?_;refine aJ 6 ?_;refine aJ 7 ?_;refine aJ 8 ?_;refine bP 9 ?_;refine aJ 10 ?_ (hi:=rfl) (dI:=dat i i);refine aJ 11 ?_ (hi:=rfl) (dI:=bM rfl (Rd.aE 2 rfl Vw));refine bP 12 ?_;refine bP 13 ?_;refine bP 14 ?_;refine bP 15 ?_;refine aM 16 ?_;refine kd (fZ rfl) ?_;refine bL ?_;refine aM 17 ?_;refine eL fun g4=>?_;refine bL ?_;refine aM 18 ?_;refine aKQ 4 32 1 (el:=259) (by kernel_rfl) (by kernel_rfl) (by decide) rfl rfl (nJ 0 rfl rfl) (by simp[Value.oneCell']) (by decide) (by decide) (by decide) (by decide) fun An cn=>?_;refine bL ?_;refine aM 19 ?_;refine kd (dat i i) ?_;refine cX ?_;refine aM 20 ?_;refine fG rfl rfl ?_ (hs:=fB.mk 4 rfl cJ.h rfl (by omega));dsimp only[List.set];refine cX ?_;refine fJ ?_;refine aA ?_;refine aY [2,0,4,5,6,7] rfl (by decide) (fun _ h=>h) ?_;refine aN 4 1 ?_;refine aJX (v:=.slice An 1 cn) (q:=some ⟨aR,b,bY,v⟩) 0 i rfl hi hv hw ?_;dsimp only[List.set];subst cK;exact eK rfl rfl rfl fun w1 st=>⟨rfl,st.turns hF (by simp) (i:=0) rfl⟩
end
section
structure mW where
 id:Int
 dev:Int
 dead:Bool
 val:Int
def mW.cells(a:mW):List Value:=[iv a.id,iv a.dev,.bool a.dead,.int .u32 a.val]
def Fz(s:aD)(x:aO):Prop:=∀(i:Nat) (d:bO) (t:jB),s.aC[i]? =some d→(x.wt[i]?).join=some t→0≤t.bY∧t.bY < d.aP.length∧0≤t.val∧t.val < 4294967296
def wP(x:aO)(i:Nat)(wr:Bool)(bY v:Int):aO:={x with wt:=x.wt.set i (some ⟨x.aR,wr,bY,v⟩),aR:=x.aR+1}
def wG(p:cN×dK)(t:jB):cN×dK:=if t.wr then(⟨p.1.now.set t.bY.toNat t.val,p.1.saved,p.1.kept⟩,p.2) else p
def jK(s:aD)(x:aO)(i:Nat):aO×Option mW:=match(x.wt[i]?).join,s.aC[i]?,x.dv[i]? with
 | some t,some d,some p=>if sQ s x i then({x with wt:=x.wt.set i none,dv:=x.dv.set i (wG p t)},some ⟨t.id,i,false,p.1.now.getD t.bY.toNat 0⟩) else({x with wt:=x.wt.set i none},some ⟨t.id,i,true,d.iT⟩)
 | _,_,_=>(x,none)
section
variable{s:aD}{x:aO}
theorem aAl(hok:cF s x)(i:Nat)(q:Option jB)(po:Int):cF s {x with wt:=x.wt.set i q,aR:=po}:=⟨hok.ck,hok.dm,hok.ln,hok.dv,hok.each,by show(x.wt.set i q).length=_;rw[List.length_set];exact hok.wt⟩
theorem aCx{d:bO}{p:cN×dK}{t:jB}(hp:zA d p.1)(hv:0≤t.val∧t.val < 4294967296):zA d (wG p t).1:=by
 unfold wG;split
 ·refine⟨by simp[hp.now],hp.saved,fun v h=>?_,hp.u.2⟩;rcases List.mem_or_eq_of_mem_set h with h | rfl
  ·exact hp.u.1 v h
  ·exact hv
 ·exact hp
theorem aRa(hok:cF s x){i:Nat}{d:bO}{p:cN×dK}(hd:s.aC[i]? =some d)(h:zA d p.1∧Bt p.2)(wt:List (Option jB))(hw:wt.length=s.aC.length)(po:Int):cF s {x with dv:=x.dv.set i p,wt:=wt,aR:=po}:=
 ⟨hok.ck,hok.dm,hok.ln,by simp[hok.dv],fun j d' p' hd' hp'=>by
  by_cases hij:i=j
  ·subst hij
   have hlt:i < x.dv.length:=by simpa using(List.getElem?_eq_some_iff.1 hp').1
   rw[List.getElem?_set_self hlt] at hp';cases hp';cases hd.symm.trans hd';exact h
  ·rw[List.getElem?_set_ne hij] at hp'
   exact hok.each j d' p' hd' hp',hw⟩
theorem aSQ(hok:cF s x)(lB:Fz s x)(i:Nat):cF s (jK s x i).1:=by
 unfold jK;split
 ·rename_i t d p ht hd hp
  obtain⟨h1,h2⟩:=hok.each i d p hd hp;split
  ·exact aRa hok hd ⟨aCx h1 (lB i d t hd ht).2.2,by unfold wG;split<;>exact h2⟩ _ (by simp[hok.wt]) _
  ·exact aAl hok i none _
 ·exact hok
theorem aCJ{ws:List (Option jB)}{i j:Nat}{t:jB}(h:((ws.set i none)[j]?).join=some t):(ws[j]?).join=some t:=by
 by_cases hij:i=j
 ·subst hij;rw[List.getElem?_set] at h;simp at h;split at h<;>cases h
 ·rwa [List.getElem?_set_ne hij] at h
theorem aSO(lB:Fz s x)(i:Nat):Fz s (jK s x i).1:=by
 unfold jK;split
 ·split
  ·exact fun j d t hd ht=>lB j d t hd (aCJ ht)
  ·exact fun j d t hd ht=>lB j d t hd (aCJ ht)
 ·exact lB
end
section
variable(L:HL)(s:aD)(x:aO)(w:World)
theorem aIm(hH:s.dG)(aV:gX L s)(hok:cF s x)(i:Nat)(d:bO)(dD:s.aC[i]? =some d)(h0:(x.wt[i]?).join=none)(iY:s.aC.length≤4)(bY:Int)(hr:0≤bY∧bY < 4∧bY < d.aP.length)(b:Bool)(v:Int)(lQ:0≤x.aR∧x.aR≤1000000000)(F:Nat→Prop)(hp:(dS L s x).sat F w)(hF:∀b,F b→b < w.heap.size)(eY:jS ⟨w,fun b=>b < w.heap.size∧¬F b⟩):
  Cz 293 #[.pointer (some ⟨L.h,0,none⟩),.int .u32 (Sq i bY),.bool b,.int .u32 v] w (Wr (if uF x i=114 then .tuple #[iv x.aR,iv 0] else .tuple #[iv 0,iv 6]) (dS L s (if uF x i=114 then wP x i b bY v else x)) w F):=by
 have hls:=aV.ds
 have hxl:=hok.dv
 have vO:=hok.wt
 have hi:=(List.getElem?_eq_some_iff.1 dD).1
 obtain⟨l,iS⟩:=get_some (l:=L.ds) (i:=i) (by omega);obtain⟨p,gK⟩:=get_some (l:=x.dv) (i:=i) (by omega)
 have hin:bN s.aC.length (i:Int)=true:=decide_eq_true (by omega)
 have ha:=aJA (dev:=i) (bY:=bY) ⟨by omega,by omega⟩ ⟨hr.1,hr.2.1⟩
 have hst:uF x i=qF p.2.at_:=by
  unfold uF;rw[gK];rfl
 rw[hst];refine dJ func293 ntmps293 hp hF ?_;generalize cK:(⟨w,fun b=>b < w.heap.size∧¬F b⟩:Piece)=R0 at eY⊢;refine aA ?_;refine aU (fun w1 t=>aJw _ i bY ha.z0 ha.z1 ha.z2 ha.z3 w1) ?_;refine aA ?_;refine aU (fun w1 t=>Rh L s x w1 i (t.nD 0 rfl aV hok)) ?_;rw[hin];refine Ny 0 rfl aV hok (by omega) fun b0 off hA=>?_;refine aA ?_;refine bU (t:=25) rfl (fun h=>absurd h (by omega)) (fun _=>?_);refine aA ?_;refine kd (bM rfl (rI 0 rfl rfl)) ?_;refine aA ?_;refine kd (dat i (off+i*6) (hx:=by rw[←hA];rfl)) ?_;refine aA ?_;refine kd (bM rfl (aCj (vs:=Km d l) 4 (aQ.dev 0 rfl aV hok hA dD iS rfl) rfl)) ?_;refine aA ?_;refine aU (fun w1 t=>Uw l.1 d p.1 w1 ((t.nD 0 rfl aV hok).each i d l p dD iS gK).1) ?_;refine aA ?_;refine aG rfl (fun h=>absurd h (by omega)) (fun _=>?_);refine aA ?_;refine kd (bM rfl (rI 0 rfl rfl)) ?_;refine aA ?_;refine kd (dat i (off+i*6) (hx:=by rw[←hA];rfl)) ?_;refine aA ?_;refine kd (bM rfl (aCj (vs:=Km d l) 5 (aQ.dev 0 rfl aV hok hA dD iS rfl) rfl)) ?_;refine aA ?_;refine aU (fun w1 t=>aGR l.2 p.2 (hok.each i d p dD gK).2 w1 (eY.at_ (t.le (by simp))) ((t.nD 0 rfl aV hok).each i d l p dD iS gK).2) ?_;refine aA ?_
 by_cases Db:qF p.2.at_=114
 ·rw[Db,if_pos rfl,if_pos rfl];refine aA ?_;refine kd (bM rfl (rI 0 rfl rfl)) ?_;refine aA ?_;refine bF 0 4 ?_;refine dU 0 (zE L.B (kJ s) (x.wt.set i (some ⟨x.aR,b,bY,v⟩)) (x.aR+1)) (fun w1 F1 t h1 h2 h3=>aS7 L.B (kJ s) x.wt x.aR i (by rw[Gq];exact hi) (by rw[Gq];omega) (by rw[Gq];exact vO) h0 _ bY ha.z0 ha.z1 ha.z2 ha.z3 d.aP.length (by simp[kJ,dD]) ⟨hr.1,hr.2.2⟩ b v lQ w1 F1 h1 h2) ?_;refine aN 0 4 ?_;refine aA ?_;subst cK;exact eK rfl rfl rfl fun w1 t=>⟨rfl,t.turns hF (by simp) (i:=0) rfl⟩
 ·rw[if_neg Db,if_neg Db];refine aG rfl (fun _=>?_) (fun h=>absurd h (by simpa using Db));refine aA ?_;subst cK;exact eK rfl rfl rfl fun w1 t=>⟨rfl,t.turns hF (by simp) (i:=0) rfl⟩
theorem aPF(hH:s.dG)(aV:gX L s)(hok:cF s x)(lB:Fz s x)(i:Nat)(d:bO)(dD:s.aC[i]? =some d)(t:jB)(ht:(x.wt[i]?).join=some t)(a:mW)(hx:(jK s x i).2=some a)(F:Nat→Prop)(hp:(dS L s x).sat F w)(hF:∀b,F b→b < w.heap.size):
  Cz 55 #[.pointer (some ⟨L.h,0,none⟩),iv (i:Int)] w (Wr (.tuple #[.agg a.cells.toArray,.bool true]) (dS L s (jK s x i).1) w F):=by
 have hls:=aV.ds
 have hxl:=hok.dv
 have vO:=hok.wt
 have hi:=(List.getElem?_eq_some_iff.1 dD).1
 obtain⟨l,iS⟩:=get_some (l:=L.ds) (i:=i) (by omega);obtain⟨p,gK⟩:=get_some (l:=x.dv) (i:=i) (by omega);obtain⟨hfo,hqo⟩:=hok.each i d p dD gK;obtain⟨r1,r2,r3,r4⟩:=lB i d t dD ht
 have mM:cF s {x with wt:=x.wt.set i none}:=aAl hok i none _
 have hwr:=aCx (t:=t) hfo ⟨r3,r4⟩
 obtain⟨rn,ern⟩:∃n:Nat,t.bY=(n:Int):=⟨t.bY.toNat,by omega⟩
 have iK:=hfo.now
 obtain⟨rv,Qu⟩:=get_some (l:=p.1.now) (i:=rn) (by omega)
 have hal:sQ s {x with wt:=x.wt.set i none} i=sQ s x i:=rfl
 have hX:jK s x i=if sQ s x i then({x with wt:=x.wt.set i none,dv:=x.dv.set i (wG p t)},some ⟨t.id,i,false,rv⟩) else({x with wt:=x.wt.set i none},some ⟨t.id,i,true,d.iT⟩):=by
  unfold jK;rw[ht,dD,gK];dsimp only;rw[ern,Int.toNat_natCast,List.getD_eq_getElem?_getD,Qu];rfl
 rw[hX] at hx⊢;refine dJ func55 ntmps55 hp hF ?_;generalize cK:(⟨w,fun b=>b < w.heap.size∧¬F b⟩:Piece)=R0;refine aA ?_;refine bR fun g1=>?_;refine aA ?_;refine kd (bM rfl (rI 1 rfl rfl)) ?_;refine aA ?_;refine bF 1 4 ?_;refine dU 0 (zE L.B (kJ s) (x.wt.set i none) x.aR) (fun w1 F1 st h1 h2 h3=>aS5 L.B (kJ s) x.wt x.aR i (by rw[Gq];exact hi) (by rw[Gq];exact vO) t ht w1 F1 h1 h2) ?_;refine aN 1 4 ?_
 change XK _ _ _ _ _ [_,dS L s {x with wt:=x.wt.set i none}]
 generalize yB:({x with wt:=x.wt.set i none}:aO)=x2 at mM hal⊢
 have Mr:x2.dv[i]? =some p:=by rw[←yB];exact gK
 refine aA ?_;refine bR fun g2=>?_;refine Ny 2 rfl aV mM (by omega) fun b off hA=>?_;refine aA ?_;refine kd (bM rfl (rI 2 rfl rfl)) ?_;refine aA ?_;refine kd (dat i (off+i*6) (hx:=by rw[←hA];rfl)) ?_;refine kd (oZ rfl (aQ.dev 2 rfl aV mM hA dD iS rfl)) ?_;refine bR fun g3=>?_;refine aA ?_;refine aU (fun w1 st=>aDV L s x2 w1 hH aV mM i hi (st.nD 3 rfl aV mM)) ?_;rw[hal];cases hb:sQ s x i
 ·rw[hb] at hx;simp at hx;subst hx;refine aA ?_;refine kd (fZ rfl) ?_;refine aA ?_;subst cK;exact xC (vs:=[iv t.id,iv i,.bool true,.int .u32 d.iT]) rfl (by kernel_rfl) rfl rfl (aQ.whole 2 rfl) rfl fun w1 st=>⟨rfl,st.turns hF (by simp) (i:=3) rfl⟩
 ·rw[hb] at hx;simp at hx;subst hx;refine aA ?_;rw[ern];refine aU (fun w1 st=>aMJ l.1 d p.1 rn rv hfo.now Qu w1 ((st.nD 3 rfl aV mM).each i d l p dD iS Mr).1) ?_;refine aA ?_
  have Wb:t.bY.toNat=rn:=by omega
  cases hw:t.wr
  ·have hwf:wG p t=p:=by
    unfold wG;rw[hw];rfl
   have hxx:({x with wt:=x.wt.set i none,dv:=x.dv.set i p}:aO)=x2:=by
    rw[xY gK];exact yB
   rw[hwf,hxx];refine aA ?_;refine kd (fZ rfl) ?_;refine aA ?_;subst cK;exact xC (vs:=[iv t.id,iv i,.bool false,.int .u32 rv]) rfl (by kernel_rfl) rfl rfl (aQ.whole 2 rfl) rfl fun w1 st=>⟨rfl,st.turns hF (by simp) (i:=3) rfl⟩
  ·have hwf:wG p t=(⟨p.1.now.set rn t.val,p.1.saved,p.1.kept⟩,p.2):=by
    unfold wG;rw[hw,Wb];rfl
   rw[hwf];refine aA ?_;refine Ss 3 i rfl dD iS Mr ?_;dsimp only[List.set];refine bF 0 0 ?_;refine dU 0 (iF l.1 d ⟨p.1.now.set rn t.val,p.1.saved,p.1.kept⟩) (fun w1 F1 st h1 h2 h3=>aMG l.1 d p.1 rn t.val hfo.now (by omega) w1 F1 h1 h2) ?_;refine aN 0 0 ?_;refine Tf 3 i rfl dD iS Mr (p':=(⟨p.1.now.set rn t.val,p.1.saved,p.1.kept⟩,p.2)) ?_;dsimp only[List.set];refine aA ?_;refine kd (fZ rfl) ?_;refine aA ?_;subst cK;subst yB;exact xC (vs:=[iv t.id,iv i,.bool false,.int .u32 rv]) rfl (by kernel_rfl) rfl rfl (aQ.whole 2 rfl) rfl fun w1 st=>⟨rfl,st.turns hF (by simp) (i:=3) rfl⟩
end
end
section
structure rG where
 st:Int
 kind:Int
 dev:Int
 bY:Int
 val:Int
 err:Int
 res:Int
 hs:List Int
def Ph:rG:=⟨0,0,0,0,0,0,0,[0,0,0,0,0,0]⟩
def hG(t:rG)(i:Nat):Int:=t.hs.getD i 0
structure aW where
 cn:Cn
 wn:bK
 t0:rG
 t1:rG
 t2:rG
 eW:Int
 steps:List cZ
 sent:Bool
 aR:Bool
 id:Int
 many:Int
def rp0(s:aD):aW:=⟨⟨[],false⟩,dQ s,Ph,Ph,Ph,-1,[],false,false,0,0⟩
def aW.tk(z:aW):Nat→rG
 | 0=>z.t0
 | 1=>z.t1
 | _=>z.t2
def aW.jO(z:aW)(j:Nat)(t:rG):aW:={z with t0:=if j=0 then t else z.t0,t1:=if j=1 then t else z.t1,t2:=if j=2 then t else z.t2}
structure dN where
 a1:AC
 a2:AC
 a3:AC
 a4:AC
 gc:Nat
 gm:Nat
 nd:AC
 w1:AC
 w2:AC
 w3:AC
 st:AC
def tkC(t:rG):List Value:=[iv t.st,.int .u8 t.kind,iv t.dev,iv t.bY,.int .u32 t.val,iv t.err,.int .u32 t.res,iv (hG t 0),iv (hG t 1),iv (hG t 2),iv (hG t 3),iv (hG t 4),iv (hG t 5)]
def kY(h f:Nat)(L:dN)(s:aD)(z:aW):List Value:=
  [pt h,pt f,.slice L.a1.1 s.aF.length L.a1.2,.slice L.a2.1 s.domains.length L.a2.2,.slice L.a3.1 s.aT.length L.a3.2,.slice L.a4.1 s.aC.length L.a4.2,.pointer (some ⟨L.gc,0,none⟩),.slice L.w1.1 z.wn.d.length L.w1.2,.slice L.w2.1 z.wn.c.length L.w2.2,.slice L.w3.1 z.wn.l.length L.w3.2,
   iv z.t0.st,.int .u8 z.t0.kind,iv z.t0.dev,iv z.t0.bY,.int .u32 z.t0.val,iv z.t0.err,.int .u32 z.t0.res,iv (hG z.t0 0),iv (hG z.t0 1),iv (hG z.t0 2),iv (hG z.t0 3),iv (hG z.t0 4),iv (hG z.t0 5),
   iv z.t1.st,.int .u8 z.t1.kind,iv z.t1.dev,iv z.t1.bY,.int .u32 z.t1.val,iv z.t1.err,.int .u32 z.t1.res,iv (hG z.t1 0),iv (hG z.t1 1),iv (hG z.t1 2),iv (hG z.t1 3),iv (hG z.t1 4),iv (hG z.t1 5),
   iv z.t2.st,.int .u8 z.t2.kind,iv z.t2.dev,iv z.t2.bY,.int .u32 z.t2.val,iv z.t2.err,.int .u32 z.t2.res,iv (hG z.t2 0),iv (hG z.t2 1),iv (hG z.t2 2),iv (hG z.t2 3),iv (hG z.t2 4),iv (hG z.t2 5),
   iv z.eW,.slice L.st.1 z.steps.length L.st.2,.bool z.sent,.bool z.aR,iv z.id,iv z.many]
def mT(L:dN)(s:aD)(p:Piece):Prop:=pV p s L.a1.1 s.aF.length L.a2.1 s.domains.length L.a3.1 s.aT.length L.a4.1 s.aC.length
theorem mT.le{L:dN}{s:aD}(p q:Piece)(hl:p.Le q)(h:mT L s p):mT L s q:=pV.le h hl
def uW(L:dN)(x:bK)(p:Piece):Prop:=aI p 1 L.w1.1 x.d.length (bE x.d)∧aI p 1 L.w2.1 x.c.length (bE x.c)∧aI p 1 L.w3.1 x.l.length (bE x.l)
theorem uW.le{L:dN}{x:bK}(p q:Piece)(hl:p.Le q)(h:uW L x p):uW L x q:=⟨h.1.le hl,h.2.1.le hl,h.2.2.le hl⟩
def Oq(L:dN)(s:aD)(p:Piece):Prop:=mV p L.nd.1 (cQ s).length (cQ s)
theorem Oq.le{L:dN}{s:aD}(p q:Piece)(hl:p.Le q)(h:Oq L s p):Oq L s q:=mV.le h hl
def oA(L:dN)(l:List cZ)(p:Piece):Prop:=aI p 4 L.st.1 l.length (l.flatMap cZ.cells)∧l.length≤L.st.2
theorem oA.le{L:dN}{l:List cZ}(p q:Piece)(hl:p.Le q)(h:oA L l p):oA L l q:=⟨h.1.le hl,h.2⟩
def fM(g h f:Nat)(L:dN)(s:aD)(z:aW):HP:=HP.many [HP.aE g 123 (kY h f L s z),HP.bT (mT L s) (mT.le (L:=L) (s:=s)),HP.bT (uW L z.wn) (uW.le (L:=L) (x:=z.wn)),sZ L.gc L.gm (.slice L.nd.1 (cQ s).length L.nd.2) z.cn,HP.bT (Oq L s) (Oq.le (L:=L) (s:=s)),HP.bT (oA L z.steps) (oA.le (L:=L) (l:=z.steps))]
def gE(g h f:Nat)(s:aD)(z:aW):HP:=HP.ex fun L:dN=>fM g h f L s z
structure Oj(w:World)(g h f:Nat)(L:dN)(s:aD)(z:aW):Prop where
 r0:eC w g 0 (kY h f L s z)
 so:mT L s (all w)
 wn:uW L z.wn (all w)
 cn:eC w L.gc 0 [.slice L.nd.1 (cQ s).length L.nd.2,.map (some L.gm),.bool z.cn.jX]
 nd:Oq L s (all w)
 sp:oA L z.steps (all w)
theorem Oj.below{w w':World}{g h f:Nat}{L:dN}{s:aD}{z:aW}(k:Oj w g h f L s z)(hb:Below w.heap.size w w'):Oj w' g h f L s z:=
 ⟨k.r0.below hb,k.so.le _ _ (jR hb),k.wn.le _ _ (jR hb),k.cn.below hb,k.nd.le _ _ (jR hb),k.sp.le _ _ (jR hb)⟩
theorem aKj{g h f:Nat}{L:dN}{s:aD}{z:aW}{F:Nat→Prop}{w:World}(k:(fM g h f L s z).sat F w)(hF:∀b,F b→b < w.heap.size):Oj w g h f L s z:=by
 obtain⟨G,g1,g2,_⟩:=k
 have hl:∀i,(⟨w,G i⟩:Piece).Le (all w):=fun i b hb=>⟨hF b (g2 i b hb),rfl⟩
 obtain⟨G',k1,_,_⟩:=g1 3 _ rfl;exact⟨uT (g1 0 _ rfl).2,mT.le _ _ (hl 1) (g1 1 _ rfl),uW.le _ _ (hl 2) (g1 2 _ rfl),uT (k1 0 _ rfl).2,Oq.le _ _ (hl 4) (g1 4 _ rfl),oA.le _ _ (hl 5) (g1 5 _ rfl)⟩
theorem St.aCP{w0 w:World}{R:List Piece}{H:List HP}{g h f:Nat}{L:dN}{s:aD}{z:aW}(t:St w0 R H w)(i:Nat)(hi:H[i]? =some (fM g h f L s z)):Oj w g h f L s z:=by
 obtain⟨F,h1,h2,_⟩:=t.chunk hi;exact aKj h1 h2
theorem aA4(t:Int)(w:World):Cz 44 #[iv t] w (Rt (.bool (bN 3 t)) w):=by
 refine aL func44 ntmps44 ?_;refine aA ?_;refine bU (t:=5) rfl (fun h=>?_) (fun h=>?_)
 ·refine aA ?_;refine jY (by simp) ?_;unfold bN
  congr 1
  simp;omega
 ·refine aA ?_;refine jY (by simp) ?_
  have:bN 3 t=false:=decide_eq_false (by omega)
  rw[this]
theorem Qn{t:Int}(h:bN 3 t=true):∃j:Nat,t=(j:Int)∧(j=0∨j=1∨j=2):=by
 have:=of_decide_eq_true h
 exact⟨t.toNat,by omega,by omega⟩
section
variable(g h f:Nat)(L:dN)(s:aD)(z:aW)(w:World)
theorem aG1(d:Int)(hR:Oj w g h f L s z):Cz 67 #[pt g,iv d] w (Rt (.bool (bN s.aC.length d)) w):=by
 have k5:=hR.r0.at_ (j:=5) rfl
 refine aL func67 ntmps67 ?_;refine aA ?_;refine bU (t:=7) rfl (fun h=>?_) (fun h=>?_)
 ·refine aA ?_;refine jY (by simp) ?_;unfold bN
  congr 1
  simp;omega
 ·refine aA ?_;refine jY (by simp) ?_
  have:bN s.aC.length d=false:=decide_eq_false (by omega)
  rw[this]
end
end
section
section
variable{N:bZ}{w0:World}{e:Env}{R:List Piece}{H:List HP}{Q:Exit→Act→World→Prop}{ops:Array Oper}{rest:List Oper}{pos:String}{ty:TypeId}{aH:Array Edge}
theorem Qj(i:Nat){x y:Operand}{s t:TypeId}{g o:Nat}{cs vs:List Value}(hi:H[i]? =some (HP.aE g t cs))(k:XK N w0 (wpList Tryz.prog ops Q rest) e R (H.set i (HP.aE g t (iH cs o vs))))(hx:e.ev x=some (.pointer (some ⟨g,o,none⟩)):=by rfl)(hy:e.ev y=some (.agg vs.toArray):=by rfl)(hs:(Tryz.prog.info? s).any (·.size==vs.length)=true:=by kernel_rfl)(h1:vs.all Value.oneCell'=true:=by rfl)(hl:decide (o+vs.length≤cs.length)=true:=by rfl):
  XK N w0 (wpList Tryz.prog ops Q (⟨none,.store s x y,ty,pos,aH,none⟩::rest)) e R H:=
 rL i hi hx hy hs (fun u hu=>List.all_eq_true.1 h1 u (by simpa[Value.cells] using hu)) (by simpa[Value.cells] using of_decide_eq_true hl) (by simpa[Value.cells] using k)
end
section
variable{P:Program}{N:bZ}{w0 w:World}{e:Env}{R:List Piece}{H:List HP}{p:HP}{Q:Exit→Act→World→Prop}
theorem St.cR(st:St w0 R (p::H) w):St w0 R (cG::H) w:=st.xP (i:=0) (p:=p) rfl (Nat.le_refl _) rfl rfl rfl fun F _ hlt=>⟨F,trivial,fun b hb=>⟨.inl hb,hlt b hb⟩,fun _ _ _=>rfl⟩
theorem Ob(Z:List Nat){id:Nat}{l:List Oper}(h:XB P N w0 l.toArray Q R (cG::H) Z l.length (Array.replicate l.length false) e R (p::H))(hm:P.follows .mixedOrders=true:=by kernel_rfl)(hc:Region.noSelect l.toArray=true:=by kernel_rfl):XK N w0 ((Code.region id l.toArray true).wp P Q) e R (p::H):=fun a w hr st=>by
 have:=h ⟨Down.start _ _,hc⟩ a w.drew hr st.drew
 refine wp_region_any hm (aC0 (S:=St w0 R (cG::H)) (Z:=Z) _ _ _ _ ?_)
 simpa using this
end
def Nj(k:Int):Value:=if k=103 then .iface 237 (.agg #[]) else if k=112 then .iface 238 (.agg #[]) else if k=114 then .iface 240 (.agg #[.bool false]) else if k=119 then .iface 240 (.agg #[.bool true]) else if k=115 then .iface 241 (.agg #[]) else if k=109 then .iface 242 (.agg #[]) else .nilIface
def tF(k:Int):Prop:=k=103∨k=112∨k=114∨k=119∨k=115∨k=109
instance(k:Int):Decidable (tF k):=by unfold tF;infer_instance
theorem aA5(k:Int)(w:World):Cz 45 #[.int .u8 k] w (Rt (Nj k) w):=by
 unfold Nj;refine aL func45 ntmps45 ?_;refine aA ?_;refine aG rfl (fun h0=>?_) (fun h0=>?_)
 ·rw[if_pos h0];refine aB ?_;refine kd (Sc rfl) ?_;refine aA ?_;exact dF
 rw[if_neg h0];refine aA ?_;refine aG rfl (fun h1=>?_) (fun h1=>?_)
 ·rw[if_pos h1];refine aB ?_;refine kd (Sc rfl) ?_;refine aA ?_;exact dF
 rw[if_neg h1];refine aA ?_;refine aG rfl (fun h2=>?_) (fun h2=>?_)
 ·rw[if_pos h2];refine aB ?_;refine kd (Sc rfl) ?_;refine aA ?_;exact dF
 rw[if_neg h2];refine aA ?_;refine aG rfl (fun h3=>?_) (fun h3=>?_)
 ·rw[if_pos h3];refine aB ?_;refine kd (Sc rfl) ?_;refine aA ?_;exact dF
 rw[if_neg h3];refine aA ?_;refine aG rfl (fun h4=>?_) (fun h4=>?_)
 ·rw[if_pos h4];refine aB ?_;refine kd (Sc rfl) ?_;refine aA ?_;exact dF
 rw[if_neg h4];refine aA ?_;refine aG rfl (fun h5=>?_) (fun h5=>?_)
 ·rw[if_pos h5];refine aB ?_;refine kd (Sc rfl) ?_;refine aA ?_;exact dF
 rw[if_neg h5];refine aA ?_;exact dF
theorem aQU{k:Int}(h:¬tF k):Nj k=.nilIface:=by
 unfold tF at h;unfold Nj;rw[if_neg (by omega),if_neg (by omega),if_neg (by omega),if_neg (by omega),if_neg (by omega),if_neg (by omega)]
theorem aQT{k:Int}(h:tF k):∃u y,Nj k=.iface u y:=by
 rcases h with rfl | rfl | rfl | rfl | rfl | rfl<;>exact⟨_,_,rfl⟩
def vH(z:aW)(t kind dev bY val:Int):Int×aW:=if bN 3 t=false then(4,z) else if(z.tk t.toNat).st≠0 then(7,z) else if ¬tF kind then(1,z) else(0,z.jO t.toNat {z.tk t.toNat with st:=1,kind:=kind,dev:=dev,bY:=bY,val:=val})
section
variable(g h f:Nat)(s:aD)(z:aW)(w:World)(F:Nat→Prop)
theorem aGz(t kind dev bY val:Int)(hp:(gE g h f s z).sat F w)(hF:∀b,F b→b < w.heap.size):
  Cz 17 #[pt g,iv t,.agg #[.int .u8 kind,iv dev,iv bY,.int .u32 val]] w (Wr (iv (vH z t kind dev bY val).1) (gE g h f s (vH z t kind dev bY val).2) w F):=by
 unfold vH;refine dJ func17 ntmps17 hp hF ?_;refine aA ?_;refine bA fun g1=>?_;refine aA ?_;refine aU (fun w1 _=>aA4 t w1) ?_;cases hin:bN 3 t
 ·refine aA ?_;exact cH 1 hF
 ·rw [if_neg (by simp)];obtain⟨j,rfl,hj⟩:=Qn hin;rw[Int.toNat_natCast];refine lV 1 fun L=>?_;refine bF 1 0 ?_
  by_cases hst:(z.tk j).st=0
  ·rw[if_neg (by simpa using hst)]
   by_cases hk:tF kind
   ·rw[if_neg (by simpa using hk)];obtain⟨u,y,hy⟩:=aQT hk;obtain⟨z',hz⟩:∃z',z'=z.jO j {z.tk j with st:=1,kind:=kind,dev:=dev,bY:=bY,val:=val}:=⟨_,rfl⟩
    rw[←hz];rcases hj with rfl | rfl | rfl
    all_goals
     refine aA ?_;refine kd (gN _ _ (ho:=rfl)) ?_;refine aA ?_;refine aG rfl (fun h1=>absurd hst h1) (fun _=>?_);refine aA ?_;refine aU (fun w1 _=>aA5 kind w1) ?_;rw[hy];refine aA ?_;refine kd (aIX rfl (.inr ⟨⟨_,_,rfl⟩,rfl⟩)) ?_;refine aA ?_;refine kd (gN _ _ (ho:=rfl)) ?_;refine aA ?_;refine Ob [2] ?_;refine bP 0 ?_ (hsub:=fun _ h=>h.cR);refine bP 1 ?_ (hsub:=fun _ h=>h.cR);refine aJ 2 ?_ (hsub:=fun _ h=>h.cR);refine aM 3 ?_;refine bH ?_;refine bL ?_ (hS:=fun _ h=>h.cR);refine aM 4 ?_;refine bH ?_;refine bL ?_ (hS:=fun _ h=>h.cR);refine aM 5 ?_;refine fG rfl rfl ?_ (hs:=fB.mk 0 rfl cJ.h rfl (of_decide_eq_true rfl));dsimp only[List.set];refine bL ?_ (hS:=fun _ h=>h.cR);refine aM 6 ?_;refine bH ?_;refine bL ?_ (hS:=fun _ h=>h.cR);refine aM 7 ?_;refine bH ?_;refine bL ?_ (hS:=fun _ h=>h.cR);refine aM 8 ?_;refine Qj 0 rfl ?_;dsimp only[List.set];refine bL ?_ (hS:=fun _ h=>h.cR);refine fJ ?_;refine aA ?_;refine aN 1 0 ?_;refine xB 1 (f:=fun L:dN=>fM g h f L s z') L (by subst hz;rfl) ?_;dsimp only[List.set];exact cH 1 hF
   ·rw[if_pos (by simpa using hk)];rcases hj with rfl | rfl | rfl
    all_goals
     refine aA ?_;refine kd (gN _ _ (ho:=rfl)) ?_;refine aA ?_;refine aG rfl (fun h1=>absurd hst h1) (fun _=>?_);refine aA ?_;refine aU (fun w1 _=>aA5 kind w1) ?_;rw[aQU hk];refine aA ?_;refine kd (aIX rfl (.inl ⟨rfl,rfl⟩)) ?_;refine aA ?_;refine aN 1 0 ?_;refine fC 1 (fun L:dN=>fM g h f L s z) L ?_;exact cH 1 hF
  ·rw[if_pos hst];rcases hj with rfl | rfl | rfl
   all_goals
    refine aA ?_;refine kd (gN _ _ (ho:=rfl)) ?_;refine aA ?_;refine aG rfl (fun _=>?_) (fun h1=>absurd (Decidable.not_not.1 h1) hst);refine aA ?_;refine aN 1 0 ?_;refine fC 1 (fun L:dN=>fM g h f L s z) L ?_;exact cH 1 hF
end
end
section
section
variable{N:bZ}{w0:World}{e:Env}{R:List Piece}{H:List HP}{K:Act→World→Prop}
theorem Zy(i:Nat){b o:Nat}{t:TypeId}{cs vs:List Value}(hi:H[i]? =some (HP.aE b t cs))(hv:(cs.drop o).take vs.length=vs):aQ w0 R H b o vs:=aQ.aE i hi fun j v hj=>by
 rw[←hv,List.getElem?_take] at hj;split at hj
 ·rw[List.getElem?_drop] at hj;exact hj
 ·cases hj
theorem aTj(j i:Nat){ps:List HP}{p q:HP}(hj:H[j]? =some (HP.many ps))(hi:ps[i]? =some p)(hq:∀F w,p.sat F w→q.sat F w)(k:XK N w0 K e R (H.set j (HP.many (ps.set i q)))):XK N w0 K e R H:=by
 have hlt:=(List.getElem?_eq_some_iff.1 hj).1
 have Jw:=(List.getElem?_eq_some_iff.1 hi).1
 refine sU j i hj hi ?_;refine Bh 0 rfl hq ?_;refine sV j i (by rw[List.getElem?_set_self hlt]) (by rw[List.getElem?_set_self Jw]) ?_;rw[List.set_set,List.set_set];exact k
end
def kD(z:aW)(j:Nat)(err res:Int):aW:={z.jO j {z.tk j with st:=3,err:=err,res:=res} with eW:= -1,steps:=[],sent:=false,aR:=false}
def nE(z:aW)(t:Int):(Int×Int×Bool)×aW:=if bN 3 t=false then((0,0,false),z) else if(z.tk t.toNat).st≠3 then((0,0,false),z) else(((z.tk t.toNat).err,(z.tk t.toNat).res,true),z.jO t.toNat {z.tk t.toNat with st:=0,kind:=0,dev:=0,bY:=0,val:=0,err:=0,res:=0})
section
variable(g h f:Nat)(s:aD)(z:aW)(w:World)(F:Nat→Prop)
theorem Jd(j:Nat)(eW:z.eW=(j:Int))(hj:j=0∨j=1∨j=2)(err res:Int)(hp:(gE g h f s z).sat F w)(hF:∀b,F b→b < w.heap.size):
  Cz 53 #[pt g,.agg #[iv err,.int .u32 res]] w (Wr (.tuple #[]) (gE g h f s (kD z j err res)) w F):=by
 refine dJ func53 ntmps53 hp hF ?_;obtain⟨z',hz⟩:∃z',z'=kD z j err res:=⟨_,rfl⟩
 rw[←hz];refine lV 0 fun L=>?_;refine bF 0 0 ?_;rcases hj with rfl | rfl | rfl
 all_goals
  refine aA ?_;refine bA fun g1=>?_;refine aY [1,0,2] rfl (by decide) (fun _ h=>h) ?_;refine aA ?_;refine mG ?_;refine iZ ?_;refine xA (gN _ _ (hj:=eW) (ho:=rfl)) ?_;refine jA ?_;refine aA ?_;refine Ob [2] ?_;refine bP 0 ?_ (hsub:=fun _ h=>h.cR);refine bP 1 ?_ (hsub:=fun _ h=>h.cR);refine aJ 2 ?_ (hsub:=fun _ h=>h.cR);refine aM 3 ?_;refine bH ?_;refine bL ?_ (hS:=fun _ h=>h.cR);refine aM 4 ?_;refine bH ?_;refine bL ?_ (hS:=fun _ h=>h.cR);refine aM 5 ?_;refine fG rfl rfl ?_ (hs:=fB.mk 0 rfl cJ.h rfl (of_decide_eq_true rfl));dsimp only[List.set];refine bL ?_ (hS:=fun _ h=>h.cR);refine aM 6 ?_;refine bH ?_;refine bL ?_ (hS:=fun _ h=>h.cR);refine aM 7 ?_;refine bH ?_;refine bL ?_ (hS:=fun _ h=>h.cR);refine aM 8 ?_;refine Qj 0 rfl ?_;dsimp only[List.set];refine bL ?_ (hS:=fun _ h=>h.cR);refine fJ ?_;refine aA ?_;refine fG rfl rfl ?_ (hs:=fB.mk 0 rfl cJ.h rfl (of_decide_eq_true rfl));dsimp only[List.set];refine aA ?_;refine fG rfl rfl ?_ (hs:=fB.mk 0 rfl cJ.h rfl (of_decide_eq_true rfl));dsimp only[List.set];refine aA ?_;refine fG rfl rfl ?_ (hs:=fB.mk 0 rfl cJ.h rfl (of_decide_eq_true rfl));dsimp only[List.set];refine aA ?_;refine fG rfl rfl ?_ (hs:=fB.mk 0 rfl cJ.h rfl (of_decide_eq_true rfl));dsimp only[List.set];refine aA ?_;refine aN 1 0 ?_;refine aTj (q:=HP.bT (oA {L with st:=(none,0)} []) (oA.le (L:={L with st:=(none,0)}) (l:=[]))) 1 5 rfl rfl (fun F w _=>⟨aI.nil _ _,Nat.le_refl _⟩) ?_;dsimp only[List.set];refine xB 1 (f:=fun L:dN=>fM g h f L s z') {L with st:=(none,0)} (by subst hz;rfl) ?_;dsimp only[List.set];exact jZ 1 hF
theorem aG0(t:Int)(hp:(gE g h f s z).sat F w)(hF:∀b,F b→b < w.heap.size):
  Cz 23 #[pt g,iv t] w (Wr (.tuple #[.agg #[iv (nE z t).1.1,.int .u32 (nE z t).1.2.1],.bool (nE z t).1.2.2]) (gE g h f s (nE z t).2) w F):=by
 unfold nE;refine dJ func23 ntmps23 hp hF ?_;refine aA ?_;refine bR fun g1=>?_;refine aA ?_;refine aU (fun w1 _=>aA4 t w1) ?_;cases hin:bN 3 t
 ·refine aA ?_;refine kd (fZ rfl) ?_;refine aA ?_;exact xC (vs:=[iv 0,.int .u32 0]) rfl (by kernel_rfl) rfl rfl (aQ.whole 0 rfl) rfl fun w1 t=>⟨rfl,t.turns hF (by simp) (i:=1) rfl⟩
 ·rw[if_neg (by simp)];obtain⟨j,rfl,hj⟩:=Qn hin;rw[Int.toNat_natCast];refine lV 1 fun L=>?_;refine bF 1 0 ?_
  by_cases hst:(z.tk j).st=3
  ·rw[if_neg (by simpa using hst)];obtain⟨z',hz⟩:∃z',z'=z.jO j {z.tk j with st:=0,kind:=0,dev:=0,bY:=0,val:=0,err:=0,res:=0}:=⟨_,rfl⟩
   rw[←hz];rcases hj with rfl | rfl | rfl
   all_goals
    refine aA ?_;refine kd (gN _ _ (ho:=rfl)) ?_;refine aA ?_;refine aG rfl (fun h1=>absurd hst h1) (fun _=>?_);refine aA ?_;refine kd (gN _ _ (ho:=rfl)) ?_;refine aA ?_;refine kd (oZ rfl (Zy (vs:=[_,_]) 0 rfl rfl)) ?_;refine bR fun g2=>?_;refine aA ?_;refine kd (fZ rfl) ?_;refine kd (fZ rfl) ?_;refine aA ?_;refine fG rfl rfl ?_ (hs:=fB.mk 1 rfl cJ.h rfl (of_decide_eq_true rfl));dsimp only[List.set];refine aA ?_;refine Qj 1 rfl ?_;dsimp only[List.set];refine aA ?_;refine Qj 1 rfl ?_;dsimp only[List.set];refine aA ?_;refine aY [1,0,2,3] rfl (by decide) (fun _ h=>h) ?_;refine aN 2 0 ?_;refine xB 2 (f:=fun L:dN=>fM g h f L s z') L (by subst hz;rfl) ?_;dsimp only[List.set];exact xC (vs:=[_,_]) rfl (by kernel_rfl) rfl rfl (aQ.whole 1 rfl) rfl fun w1 t=>⟨rfl,t.turns hF (by simp) (i:=2) rfl⟩
  ·rw[if_pos hst];rcases hj with rfl | rfl | rfl
   all_goals
    refine aA ?_;refine kd (gN _ _ (ho:=rfl)) ?_;refine aA ?_;refine aG rfl (fun _=>?_) (fun h1=>absurd (Decidable.not_not.1 h1) hst);refine aA ?_;refine kd (fZ rfl) ?_;refine aA ?_;refine aN 1 0 ?_;refine fC 1 (fun L:dN=>fM g h f L s z) L ?_;exact xC (vs:=[iv 0,.int .u32 0]) rfl (by kernel_rfl) rfl rfl (aQ.whole 0 rfl) rfl fun w1 t=>⟨rfl,t.turns hF (by simp) (i:=1) rfl⟩
end
end
section
def Dj(ks:List Int)(v:Int):List Int:=if ks.contains v then ks else ks++[v]
def Ge(g:List (List Int))(ks:List Int)(i:Nat):List Int:=if ks.contains (i:Int) then(g.getD i []).foldl Dj ks else ks
def vM(g:List (List Int))(v:Int)(n:Nat):Nat→List Int
 | 0=>[v]
 | k+1=>Ge g (vM g v n k) (n - 1 - k)
def uI(ks:List Int)(v:Int)(n:Nat):List Nat:=(List.range n).filter fun u:Nat=>decide (¬(u:Int)=v)&&ks.contains (u:Int)
def Bg(g:List (List Int))(v:Int)(n:Nat):List Nat:=uI (vM g v n n) v n
theorem aHh(ks:List Int)(v:Int)(n:Nat):(uI ks v n).length≤n:=Nat.le_trans (List.length_filter_le _ _) (by simp)
theorem aNG(ks:List Int)(v:Int)(n:Nat):uI ks v (n+1)=if(decide (¬(n:Int)=v)&&ks.contains (n:Int))=true then uI ks v n++[n] else uI ks v n:=by
 unfold uI;rw[List.range_succ,List.filter_append];simp only[List.filter_cons,List.filter_nil];split<;>simp
theorem aNI(A:Option Addr)(n c:Nat)(g:List (List Int))(v:Int)(w:World)(hg:mV (all w) A n g)(hn:n=g.length)(hn2:n≤100)(hlen:∀l∈g,(l.length:Int)≤9223372036854775806)(hv:0≤v∧v < n)(ho:fQ g=(0,List.range n)):
  Cz 141 #[.slice A n c,iv v] w (fun y w'=>(∃x,y=.returned x∧To g x w w')∧Below w.heap.size w w'):=by
 refine aL func141 ntmps141 ?_;refine aA ?_;refine jP [] (To g) (fun w1 st=>(aAF A n c g w1 (hg.le (st.le (by simp))) hn (by omega) hlen).mono fun y w' h=>h.aDe) ?_;rintro _ w1 q ⟨A',m,c',rfl,hm,hs⟩ hf _ hfr
 have hs:=hs.le hf
 rw[ho] at hs hm;rw[ho];dsimp only at hs hm⊢;refine aA ?_;refine bU (t:=18) rfl (fun h=>absurd h (by omega)) (fun _=>?_);refine aA ?_;refine aG rfl (fun h=>absurd h (by omega)) (fun _=>?_);refine aA ?_;exact eK rfl rfl rfl fun w1 t=>⟨⟨_,rfl,A',m,c',by rw[ho];rfl,by rw[ho];exact hm,by rw[ho];exact hs.le (t.mF (by simp) (hfr (by simp)))⟩,t.below (by simp)⟩
theorem aNF(q:Piece)(r:Nat)(ks:List Int)(A:Option Addr)(n c:Nat)(v:Int)(w:World)(hn2:n≤100)(hm:xH w r (mB ks))(hq:q.Le (all w))(hs:aI q 1 A n (aK (dL (List.range n)))):
  Cz 144 #[.slice A n c,.map (some r),iv v] w (Tk (Iv (uI ks v n)) w):=by
 refine aL func144 ntmps144 ?_;refine Bi q (by simp) hq ?_;refine aA ?_;refine iO 3 1 ?_;refine bJ [(12,iv 0),(11,iv n),(10,.slice A n c),(7,sn),(1,.map (some r)),(2,iv v)] ?_;refine eI (fun m e R H=>∃(i:Nat) (B:Option Addr) (k:Nat),i≤n∧m=n - i∧e=[(12,iv i),(11,iv n),(10,.slice A n c),(7,.slice B (uI ks v i).length k),(1,.map (some r)),(2,iv v)]∧R=[q,all w]∧H=[HP.own 3 1 (.slice B (uI ks v i).length k) (uI ks v i).length (aK (dL (uI ks v i)))]) n ⟨0,none,0,by omega,rfl,rfl,rfl,rfl⟩ fun m e R H hI=>?_;obtain⟨i,B,k,hi,rfl,rfl,rfl,rfl⟩:=hI
 have pO:=aHh ks v i
 have dV:=aNG ks v i
 generalize hl:uI ks v i=l at pO dV⊢;refine aA ?_;refine aG rfl (fun hlt=>?_) (fun hge=>?_)
 ·have hlt:i < n:=by omega
  obtain⟨b,off,hA,hz,hc⟩:=hs.2 (by omega)
  have rW:=hc i (iv (i:Int)) (by simp[aK,dL,hlt])
  refine aA ?_;refine kd (dat i (off+i) (hx:=by rw[←hA];rfl)) ?_;refine aA ?_;refine kd (bM rfl (Rd.ro (p:=q) (by simp) hz rW)) ?_;refine aA ?_;refine bU (t:=19) rfl (fun hv=>?_) (fun hv=>?_)
  ·refine aA ?_;refine aU (fun w1 t=>aAN r i ks w1 (hm.below (t.below (by simp)))) ?_;rw[decide_eq_true hv,Bool.true_and] at dV;cases hk:ks.contains (i:Int)
   ·rw[hk,if_neg (by simp)] at dV;refine aA ?_;refine bJ [(12,iv (i+1:Nat)),(11,iv n),(10,.slice A n c),(7,.slice B l.length k),(1,.map (some r)),(2,iv v)] ?_;exact iC (n - (i+1)) (by omega) ⟨i+1,B,k,hlt,rfl,by rw[dV],rfl,by rw[dV]⟩
   ·rw[hk,if_pos rfl] at dV;refine aA ?_;refine eL fun g4=>?_;refine gH 1 1 8 1 (n':=l.length+1) (el:=3) (by kernel_rfl) (by kernel_rfl) (by decide) rfl rfl rfl (nJ 0 rfl rfl) (by simp[Value.oneCell']) rfl (by omega) (by omega) (by decide) fun An cn=>?_;dsimp only[List.set];refine aA ?_;refine aY [1] rfl (by decide) (fun _ h=>h) ?_;refine bJ [(12,iv (i+1:Nat)),(11,iv n),(10,.slice A n c),(7,.slice An (l.length+1) cn),(1,.map (some r)),(2,iv v)] ?_;exact iC (n - (i+1)) (by omega) ⟨i+1,An,cn,hlt,rfl,by rw[dV];simp,rfl,by rw[dV];simp[aK,dL]⟩
  ·rw[decide_eq_false hv,Bool.false_and,if_neg (by simp)] at dV;refine aA ?_;refine bJ [(12,iv (i+1:Nat)),(11,iv n),(10,.slice A n c),(7,.slice B l.length k),(1,.map (some r)),(2,iv v)] ?_;exact iC (n - (i+1)) (by omega) ⟨i+1,B,k,hlt,rfl,by rw[dV],rfl,by rw[dV]⟩
 ·obtain rfl:i=n:=by omega
  subst hl;refine aA ?_;refine dP [] [0] [] (by simp) rfl (by decide) (by decide) fun q2 uR _ hfr=>?_
  have h2:aI q2 1 B (uI ks v i).length (aK (dL (uI ks v i))):=aI.own (uR 0 _ (by simp) rfl)
  exact aS (h:=fun w1 t=>⟨_,rfl,B,k,rfl,h2.le (t.mF (by simp) (hfr (by simp) (by simp)))⟩)
theorem aQq(q0:Piece)(A:Option Addr)(n c:Nat)(g:List (List Int))(v:Nat)(w:World)(Jt:q0.Le (all w))(hg:mV q0 A n g)(hn:n=g.length)(hn2:n≤100)(hlen:∀l∈g,(l.length:Int)≤1000)(hv:v < n)(ho:fQ g=(0,List.range n)):
  Cz 65 #[.slice A n c,iv (v:Int)] w (Tk (fun x w w'=>∃A' c',x=.tuple #[.slice A' (Bg g v n).length c',iv 0]∧aI (fresh w w') 1 A' (Bg g v n).length (aK (dL (Bg g v n)))) w):=by
 refine aL func65 ntmps65 ?_;refine Bi q0 (by simp) Jt ?_;refine aA ?_;refine jP [] (To g) (fun w1 st=>aNI A n c g v w1 (hg.le (st.le (by simp))) hn hn2 (fun l hl=>by have:=hlen l hl;omega) (by omega) ho) ?_;rintro _ w1 q ⟨A',m,c',rfl,hm,hs⟩ hf _ _
 have hs:=hs.le hf
 rw[ho] at hs hm;rw[ho];dsimp only at hs hm⊢;obtain rfl:m=n:=by simpa using hm
 refine aA ?_;refine aAh (by decide) fun r=>?_;refine aA ?_;refine dU 0 (HP.map r (mB [(v:Int)])) (fun w1 F1 t h1 h2 h3=>aAO r v [] w1 F1 h1 h2) ?_;refine aA ?_;refine aY [0] rfl (by decide) (R':=[q,q0,all w]) (by simp) ?_;refine bJ [(9,iv ((m:Int) - 1)),(6,.slice A' m c'),(8,.map (some r)),(0,.slice A m c),(1,iv (v:Int))] ?_;refine eI (fun k e R H=>k≤m∧e=[(9,iv ((k:Int) - 1)),(6,.slice A' m c'),(8,.map (some r)),(0,.slice A m c),(1,iv (v:Int))]∧R=[q,q0,all w]∧H=[HP.map r (mB (vM g v m (m - k)))]) m ⟨Nat.le_refl _,rfl,rfl,by rw[Nat.sub_self];rfl⟩ fun k e R H hI=>?_;obtain⟨hk,rfl,rfl,rfl⟩:=hI;refine aA ?_;refine aG rfl (fun hge=>?_) (fun hlt=>?_)
 ·obtain⟨k,rfl⟩:∃j,k=j+1:=⟨k - 1,by omega⟩
  have hkm:k < m:=by omega
  obtain⟨row,hrow⟩:=get_some (l:=g) (i:=k) (by omega)
  have dV:vM g v m (m - k)=Ge g (vM g v m (m - (k+1))) k:=by
   rw[show m - k=(m - (k+1))+1 by omega]
   show Ge g _ (m - 1 - (m - (k+1)))=_
   rw[show m - 1 - (m - (k+1))=k by omega]
  generalize hks:vM g v m (m - (k+1))=ks at dV⊢;obtain⟨b,off,rX,hz,hc⟩:=hs.2 (by omega)
  have yI:=hc k (iv (k:Int)) (by simp[aK,dL,hkm])
  obtain⟨gb,aQb,gr,hA,hgz,kK,⟨RA,rn,rk,rfl,Wb,Wa⟩,Wo⟩:=jN.aG8 hg hrow
  have hrl:=hlen row (List.mem_of_getElem? hrow)
  have hrd:=Wo 0 _ rfl
  subst Wb;refine aA ?_;refine kd (dat k (off+k) (hx:=by rw[←rX];rfl)) ?_;refine kd (bM rfl (Rd.ro (p:=q) (by simp) hz yI)) ?_;refine aU (fun w1 t=>aAN r k ks w1 (t.map (i:=0) rfl)) ?_;cases hkc:ks.contains (k:Int)
  ·have h2:Ge g ks k=ks:=by unfold Ge;rw[hkc];rfl
   rw[h2] at dV;refine aA ?_;refine bJ [(9,iv (((k+1:Nat):Int) - 1 - 1)),(6,.slice A' m c'),(8,.map (some r)),(0,.slice A m c),(1,iv (v:Int))] ?_;exact iC k (by omega) ⟨by omega,by rw[show(((k+1:Nat):Int) - 1 - 1)=(k:Int) - 1 by omega],rfl,by rw[dV]⟩
  ·have h2:Ge g ks k=row.foldl Dj ks:=by
    unfold Ge;rw[hkc,if_pos rfl,List.getD_eq_getElem?_getD,hrow];rfl
   rw[h2] at dV;refine aA ?_;refine kd (dat k (off+k) (hx:=by rw[←rX];rfl)) ?_;refine kd (bM rfl (Rd.ro (p:=q) (by simp) hz yI)) ?_;refine kd (dat k (aQb+k*1) (hx:=by rw[←hA];rfl)) ?_;refine kd (bM rfl (Rd.ro (p:=q0) (by simp) hgz hrd)) ?_;refine aA ?_;refine bJ [(47,iv 0),(46,iv row.length),(45,.slice RA row.length rk),(9,iv (((k+1:Nat):Int) - 1)),(6,.slice A' m c'),(8,.map (some r)),(0,.slice A m c),(1,iv (v:Int))] ?_;refine eI (fun u e R H=>∃i:Nat,i≤row.length∧u=row.length - i∧e=[(47,iv i),(46,iv row.length),(45,.slice RA row.length rk),(9,iv (((k+1:Nat):Int) - 1)),(6,.slice A' m c'),(8,.map (some r)),(0,.slice A m c),(1,iv (v:Int))]∧R=[q,q0,all w]∧H=[HP.map r (mB ((row.take i).foldl Dj ks))]) row.length ⟨0,by omega,rfl,rfl,rfl,rfl⟩ fun u e R H hI=>?_;obtain⟨i,hi,rfl,rfl,rfl,rfl⟩:=hI;refine aA ?_;refine aG rfl (fun vS=>?_) (fun aPv=>?_)
   ·have vS:i < row.length:=by omega
    obtain⟨y,hy⟩:=get_some vS;obtain⟨rb,aM6,hRA,hrz,hrc⟩:=(show aI q0 1 RA row.length (aK row) from Wa).2 (by omega)
    have Kc:=hrc i (iv y) (by simp[aK,hy])
    have fX:(row.take (i+1)).foldl Dj ks=Dj ((row.take i).foldl Dj ks) y:=by
     rw[List.take_add_one,hy,List.foldl_append];rfl
    generalize hk2:(row.take i).foldl Dj ks=ks2 at fX⊢;refine aA ?_;refine kd (dat i (aM6+i) (hx:=by rw[←hRA];rfl)) ?_;refine aA ?_;refine kd (bM rfl (Rd.ro (p:=q0) (by simp) hrz Kc)) ?_;refine aA ?_;refine dU 0 (HP.map r (mB (Dj ks2 y))) (fun w1 F1 t h1 h2 h3=>aAO r y ks2 w1 F1 h1 h2) ?_;refine aA ?_;refine bJ [(47,iv (i+1:Nat)),(46,iv row.length),(45,.slice RA row.length rk),(9,iv (((k+1:Nat):Int) - 1)),(6,.slice A' m c'),(8,.map (some r)),(0,.slice A m c),(1,iv (v:Int))] ?_;exact iC (row.length - (i+1)) (by omega) ⟨i+1,vS,rfl,rfl,rfl,by rw[fX]⟩
   ·obtain rfl:i=row.length:=by omega
    rw[List.take_length,←dV];refine aA ?_;refine bJ [(9,iv (((k+1:Nat):Int) - 1 - 1)),(6,.slice A' m c'),(8,.map (some r)),(0,.slice A m c),(1,iv (v:Int))] ?_;exact iC k (by omega) ⟨by omega,by rw[show(((k+1:Nat):Int) - 1 - 1)=(k:Int) - 1 by omega],rfl,rfl⟩
 ·obtain rfl:k=0:=by omega
  rw[Nat.sub_zero];refine aA ?_;refine jP [] (Iv (Bg g v m)) (fun w1 t=>aNF q r _ A' m c' v w1 hn2 (t.map (i:=0) rfl) (t.le (by simp)) hs) ?_;rintro _ w1 q2 ⟨B,kb,rfl,hb⟩ nQ _ hfr;refine aA ?_;exact eK rfl rfl rfl fun w1 t=>⟨⟨_,rfl,B,kb,rfl,(hb.le nQ).le (t.mF (by simp) (hfr (by simp)))⟩,t.below (by simp)⟩
end
section
def pR(g:List (List Int))(c:Cn)(n:Nat):Nat→List Bool
 | 0=>List.replicate n false
 | i+1=>if eJ c.l (i:Int)≤0 then pR g c n i else(Bg g (i:Int) n).foldl (fun l u=>l.set u true) ((pR g c n i).set i true)
def Ik(g:List (List Int))(n:Nat)(c:Cn):List Bool:=if c.jX then List.replicate n false else pR g c n n
theorem aCL:∀(us:List Nat) (l:List Bool),(us.foldl (fun l u=>l.set u true) l).length=l.length
 | [],l=>rfl
 | u::us,l=>by
  rw[List.foldl_cons,aCL us];simp
theorem Nv(g:List (List Int))(c:Cn)(n:Nat):∀i,(pR g c n i).length=n
 | 0=>by simp[pR]
 | i + 1 => by
  unfold pR;split
  ·exact Nv g c n i
  ·rw[aCL,List.length_set];exact Nv g c n i
theorem aJC(g:List (List Int))(n:Nat)(c:Cn):(Ik g n c).length=n:=by
 unfold Ik;split
 ·simp
 ·exact Nv g c n n
def Dp(A:Option Addr)(g:List (List Int))(p:Piece):Prop:=mV p A g.length g
theorem Dp.le{A:Option Addr}{g:List (List Int)}(p q:Piece)(hl:p.Le q)(h:Dp A g p):Dp A g q:=mV.le h hl
def Ll(gc gm:Nat)(A:Option Addr)(k:Nat)(g:List (List Int))(c:Cn):HP:=HP.many [sZ gc gm (.slice A g.length k) c,HP.bT (Dp A g) (Dp.le (A:=A) (g:=g))]
theorem aEA{l:List Bool}{i:Nat}{b:Bool}:(bE l).set i (.bool b)=bE (l.set i b):=by simp[bE,List.map_set]
theorem aNH{ks:List Int}{v:Int}{n u:Nat}(h:u∈uI ks v n):u < n:=by
 unfold uI at h;exact List.mem_range.1 (List.mem_filter.1 h).1
theorem aJg(gc gm:Nat)(A:Option Addr)(k:Nat)(g:List (List Int))(c:Cn)(n:Nat)(hn:n=g.length)(hn2:n≤100)(hlen:∀l∈g,(l.length:Int)≤1000)(ho:fQ g=(0,List.range n))(w:World)(F:Nat→Prop)(hp:(Ll gc gm A k g c).sat F w)(hF:∀b,F b→b < w.heap.size):
  Cz 30 #[pt gc] w (fun y w'=>∃b:Nat,y=.returned (.slice (some ⟨b,0,none⟩) n n)∧True∧∃F',(HP.many [Ll gc gm A k g c,HP.aE b 4 (bE (Ik g n c))]).sat F' w'∧iE w w' F F'):=by
 refine dJ func30 ntmps30 hp hF ?_;generalize cK:(⟨w,fun b=>b < w.heap.size∧¬F b⟩:Piece)=R0;obtain⟨cl,jX⟩:=c;refine bF 0 1 ?_;refine bF 1 0 ?_;refine bF 0 0 ?_;refine bF 1 1 ?_;subst hn;refine aB ?_;refine lX (n:=g.length) 1 (el:=4) (z:=.bool false) (by kernel_rfl) (by kernel_rfl) rfl rfl rfl (by omega) (by omega) (by decide) fun gl=>?_;rw[show List.replicate g.length (Value.bool false)=bE (List.replicate g.length false) from by simp[bE]];unfold Ik;cases jX
 ·dsimp only;refine aB ?_;refine bJ [(22,iv 0),(21,iv g.length),(3,.slice (some ⟨gl,0,none⟩) g.length g.length),(0,pt gc)] ?_;refine eI (fun m e R H=>∃i:Nat,i≤g.length∧m=g.length - i∧e=[(22,iv i),(21,iv g.length),(3,.slice (some ⟨gl,0,none⟩) g.length g.length),(0,pt gc)]∧R=[R0]∧H=[HP.aE gl 4 (bE (pR g ⟨cl,false⟩ g.length i)),HP.map gm (wX cl),HP.aE gc 160 [.slice A g.length k,.map (some gm),.bool false],HP.many [cG,cG],HP.bT (Dp A g) (Dp.le (A:=A) (g:=g)),HP.many [cG,cG]]) g.length ⟨0,by omega,rfl,rfl,rfl,rfl⟩ fun m e R H hI=>?_;obtain⟨i,hi,rfl,rfl,rfl,rfl⟩:=hI
  have hal:=Nv g ⟨cl,false⟩ g.length i
  have dV:pR g ⟨cl,false⟩ g.length (i+1)=if eJ cl (i:Int)≤0 then pR g ⟨cl,false⟩ g.length i else(Bg g (i:Int) g.length).foldl (fun l u=>l.set u true) ((pR g ⟨cl,false⟩ g.length i).set i true):=rfl
  generalize hl:pR g ⟨cl,false⟩ g.length i=l at hal dV⊢;refine aB ?_;refine aG rfl (fun hlt=>?_) (fun hge=>?_)
  ·have hlt:i < g.length:=by omega
   refine aB ?_;refine Vq 1 rfl ?_;refine aB ?_;refine aG rfl (fun h0=>?_) (fun h0=>?_)
   ·rw[if_pos h0] at dV;refine aB ?_;exact dY (g.length - (i+1)) ⟨i+1,hlt,rfl,rfl,rfl,by rw[dV]⟩
   ·rw[if_neg h0] at dV;refine aB ?_;refine fG rfl rfl ?_ (hs:=fB.mk 0 rfl cJ.h rfl (by simp[bE];omega));dsimp only[List.set];rw[aEA];refine aB ?_;refine jP [] (fun x w w'=>∃A' c',x=.tuple #[.slice A' (Bg g (i:Int) g.length).length c',iv 0]∧aI (fresh w w') 1 A' (Bg g (i:Int) g.length).length (aK (dL (Bg g (i:Int) g.length)))) (fun w1 t=>aQq (all w1) A g.length k g i w1 (Piece.Le.refl _) (t.bT 4 rfl) rfl hn2 hlen hlt ho) ?_;rintro _ w1 q ⟨B,kb,rfl,hb⟩ hf _ _
    have hb:=hb.le hf
    have Qq:=aHh (vM g (i:Int) g.length g.length) (i:Int) g.length
    have hum:∀u∈Bg g (i:Int) g.length,u < g.length:=fun u hu=>aNH hu
    change (Bg g (i:Int) g.length).length≤_ at Qq
    generalize hus:Bg g (i:Int) g.length=us at dV hb Qq hum⊢;refine aB ?_;refine bJ [(46,iv 0),(45,iv us.length),(44,.slice B us.length kb),(22,iv i),(21,iv g.length),(3,.slice (some ⟨gl,0,none⟩) g.length g.length),(0,pt gc)] ?_;refine eI (fun m e R H=>∃j:Nat,j≤us.length∧m=us.length - j∧e=[(46,iv j),(45,iv us.length),(44,.slice B us.length kb),(22,iv i),(21,iv g.length),(3,.slice (some ⟨gl,0,none⟩) g.length g.length),(0,pt gc)]∧R=[q,R0]∧H=[HP.aE gl 4 (bE ((us.take j).foldl (fun l u=>l.set u true) (l.set i true))),HP.map gm (wX cl),HP.aE gc 160 [.slice A g.length k,.map (some gm),.bool false],HP.many [cG,cG],HP.bT (Dp A g) (Dp.le (A:=A) (g:=g)),HP.many [cG,cG]]) us.length ⟨0,by omega,rfl,rfl,rfl,rfl⟩ fun m e R H hI=>?_;obtain⟨j,hj,rfl,rfl,rfl,rfl⟩:=hI;refine aB ?_;refine aG rfl (fun vS=>?_) (fun aPv=>?_)
    ·have vS:j < us.length:=by omega
     obtain⟨u,hu⟩:=get_some vS
     have hun:=hum u (List.mem_of_getElem? hu)
     obtain⟨b,off,hB,hz,hc⟩:=hb.2 (by omega)
     have hcu:=hc j (iv (u:Int)) (by simp[aK,dL,hu])
     have fX:(us.take (j+1)).foldl (fun l u=>l.set u true) (l.set i true)=((us.take j).foldl (fun l u=>l.set u true) (l.set i true)).set u true:=by
      rw[List.take_add_one,hu,List.foldl_append];rfl
     have Hf:((us.take j).foldl (fun l u=>l.set u true) (l.set i true)).length=g.length:=by rw[aCL,List.length_set];exact hal
     generalize hl3:(us.take j).foldl (fun l u=>l.set u true) (l.set i true)=l3 at fX Hf⊢;refine aB ?_;refine kd (dat j (off+j) (hx:=by rw[←hB];rfl)) ?_;refine aA ?_;refine kd (bM rfl (Rd.ro (p:=q) (by simp) hz hcu)) ?_;refine aA ?_;refine kd (dat u u) ?_;refine fG rfl rfl ?_ (hs:=fB.mk 0 rfl cJ.h rfl (by simp[bE];omega));dsimp only[List.set];rw[aEA,←fX];refine aB ?_;exact dY (us.length - (j+1)) ⟨j+1,vS,rfl,rfl,rfl,rfl⟩
    ·obtain rfl:j=us.length:=by omega
     rw[List.take_length,←dV];refine aB ?_;refine aY [0,1,2,3,4,5] rfl (by decide) (R':=[R0]) (by simp) ?_;exact dY (g.length - (i+1)) ⟨i+1,hlt,rfl,rfl,rfl,rfl⟩
  ·obtain rfl:i=g.length:=by omega
   subst hl;refine aB ?_;refine aY [1,2,3,4,5,0] rfl (by decide) (fun _ h=>h) ?_;refine aN 1 1 ?_;refine aN 0 0 ?_;refine aN 1 0 ?_;refine aN 0 1 ?_;refine nG ?_;subst cK;exact nR rfl rfl fun w1 t=>⟨gl,rfl,trivial,t.turns hF (by simp) (i:=0) rfl⟩
 ·dsimp only;refine aB ?_;refine aY [1,2,3,4,5,0] rfl (by decide) (fun _ h=>h) ?_;refine aN 1 1 ?_;refine aN 0 0 ?_;refine aN 1 0 ?_;refine aN 0 1 ?_;refine nG ?_;subst cK;exact nR rfl rfl fun w1 t=>⟨gl,rfl,trivial,t.turns hF (by simp) (i:=0) rfl⟩
end
section
set_option maxHeartbeats 8000000
def Zt(x:bK)(v:Value)(hs:List HP)(_:Piece):Prop:=∃(g1 g2 g3:Nat) (p:HP),v=.agg #[.slice (some ⟨g1,0,none⟩) x.d.length x.d.length,.slice (some ⟨g2,0,none⟩) x.c.length x.c.length,.slice (some ⟨g3,0,none⟩) x.l.length x.l.length]∧hs=[HP.many [HP.aE g1 4 (bE x.d),HP.aE g2 4 (bE x.c),HP.aE g3 4 (bE x.l)],p]
theorem aAo(q:Piece)(s:aD)(A1 A2 A3 A4:Option Addr)(n1 k1 n2 k2 n3 k3 n4 k4:Nat)(Aa:Option Addr)(ca:Nat)(act:List Bool)(w:World)(nY:pV q s A1 n1 A2 n2 A3 n3 A4 n4)(hm:s.made)(hq:q.Le (all w))(hact:aI (all w) 1 Aa act.length (bE act)):
  Cz 77 #[.agg #[.slice A1 n1 k1,.slice A2 n2 k2,.slice A3 n3 k3,.slice A4 n4 k4],.slice Aa act.length ca] w (fun y w'=>(∃v hs q,y=.returned v∧q.w=w'∧Zt (eT s act) v hs q∧kA w hs q)∧Below w.heap.size w w'):=by
 obtain⟨rfl,rfl,rfl,rfl⟩:=nY.len;refine aL func77 ntmps77 ?_;refine Bi q (by simp) hq ?_
 have hn9:=hm.nc
 have qX:=hm.nd
 have oQ:=hm.nr
 have nB:=hm.nv
 refine aB ?_;refine bA fun g1=>?_;refine bR fun g2=>?_;refine aB ?_;refine dH (fun w1 st=>aB5 s A1 A2 A3 A4 _ k1 _ k2 _ k3 _ k4 w1 (nY.W (st.le (by simp)) (Qf hm))) ?_;rw[aAQ hm];refine aAg rfl rfl (by decide) ?_;refine dO ?_;refine aG rfl (fun h=>absurd rfl h) (fun h=>?_)
 ·
  refine lU ?_;refine dW ?_;refine Sz (fun e R H=>∃ga gb gc gw,e=[(5,pt gw),(4,pt g2),(2,pt g1),(1,.slice Aa act.length ca)]∧R=[q,all w]∧H=[HP.aE gw 116 [.slice (some ⟨ga,0,none⟩) s.domains.length s.domains.length,.slice (some ⟨gb,0,none⟩) s.aF.length s.aF.length,.slice (some ⟨gc,0,none⟩) s.aT.length s.aT.length],HP.aE ga 4 (bE (dQ s).d),HP.aE gb 4 (bE (dQ s).c),HP.aE gc 4 (bE (dQ s).l),HP.aE g2 116 [sn,sn,sn],HP.aE g1 30 [.slice A1 s.aF.length k1,.slice A2 s.domains.length k2,.slice A3 s.aT.length k3,.slice A4 s.aC.length k4]]) ?_ ?_
  ·
   refine rB 14 (by kernel_rfl) (by kernel_rfl) ?_;refine gD 0 rfl rfl rfl (Fq (off:=1) (by kernel_rfl) rfl) ?_;refine gD 1 rfl rfl rfl (Kr rfl) ?_;refine gD 2 rfl rfl rfl (Nl (el:=50) (by kernel_rfl) rfl) ?_;refine gD 4 rfl rfl rfl (Fq (off:=0) (by kernel_rfl) rfl) ?_;refine gD 5 rfl rfl rfl (Kr rfl) ?_;refine gD 6 rfl rfl rfl (Nl (el:=86) (by kernel_rfl) rfl) ?_;refine gD 8 rfl rfl rfl (Fq (off:=2) (by kernel_rfl) rfl) ?_;refine gD 9 rfl rfl rfl (Kr rfl) ?_;refine gD 10 rfl rfl rfl (Nl (el:=88) (by kernel_rfl) rfl) ?_;refine aCd (fuel:=2) [3,7,11,13] [[3,7,11],[3,7,11,13]] (fun i=>match i with | 3=>⟨19,4,List.replicate s.domains.length (.bool false),fun g=>.slice (some ⟨g,0,none⟩) s.domains.length s.domains.length⟩ | 7=>⟨23,4,List.replicate s.aF.length (.bool false),fun g=>.slice (some ⟨g,0,none⟩) s.aF.length s.aF.length⟩ | 11=>⟨27,4,List.replicate s.aT.length (.bool false),fun g=>.slice (some ⟨g,0,none⟩) s.aT.length s.aT.length⟩ | _=>⟨5,116,[sn,sn,sn],fun g=>pt g⟩) (fun i hi=>?_) (by show[19,23,27,5].Nodup;decide) (by kernel_rfl) (fun _ h=>h) (fun sub hsub hex g=>?_)
   ·simp only[List.mem_cons,List.not_mem_nil,or_false] at hi;rcases hi with rfl | rfl | rfl | rfl
    ·exact uA.of rfl rfl rfl (zV 1 (el:=4) (z:=.bool false) (by kernel_rfl) (by kernel_rfl) rfl rfl rfl (by omega) (by omega)) (Nat.le_of_ble_eq_true rfl) rfl
    ·exact uA.of rfl rfl rfl (zV 1 (el:=4) (z:=.bool false) (by kernel_rfl) (by kernel_rfl) rfl rfl rfl (by omega) (by omega)) (Nat.le_of_ble_eq_true rfl) rfl
    ·exact uA.of rfl rfl rfl (zV 1 (el:=4) (z:=.bool false) (by kernel_rfl) (by kernel_rfl) rfl rfl rfl (by omega) (by omega)) (Nat.le_of_ble_eq_true rfl) rfl
    ·exact uA.of rfl rfl rfl (aH5 (iG (by kernel_rfl))) (Nat.le_of_ble_eq_true rfl) rfl
   have fX:sub=[3,7,11]∨sub=[3,7,11,13]:=by simpa using hex
   have er:∀n:Nat,List.replicate n (Value.bool false)=bE (List.replicate n false):=fun n=>by simp[bE]
   rcases fX with rfl | rfl
   ·dsimp only[qZ,tH,kS,List.map,List.foldr,List.cons_append,List.nil_append,List.length_cons,List.length_nil,Nat.reduceAdd,Nat.reduceSub];refine fL 12 rfl rfl rfl (by decide) (lT (zs:=[sn,sn,sn]) (L:=[(0,1),(1,1),(2,1)]) (iG (by kernel_rfl)) (by kernel_rfl) rfl (by simp[fI,gI,Value.cells];rfl)) (by kernel_rfl) (fun _ _ _ h=>h) (fun _ h=>h.tail.tail.tail) ?_;refine cE 13 ?_;refine bR fun g6=>?_;refine iD ?_;refine gQ ?_;refine kW (fun _ h=>h.tail.tail.tail.tail) ?_;refine cE 14 ?_;refine uB rfl rfl ?_;simp only[iH,Value.cells,List.set,List.take,List.drop,List.nil_append,List.append_nil,List.length_cons,List.length_nil,List.cons_append,Nat.reduceAdd];refine fA ?_;refine kG ?_;refine dW ?_;exact aY [0,1,2,3,4,5] rfl (by decide) (by simp) (bJ [(5,pt g6),(4,pt g2),(2,pt g1),(1,.slice Aa act.length ca)] (Zj ⟨g 3,g 7,g 11,g6,rfl,rfl,by simp only[er,dQ]⟩))
   ·dsimp only[qZ,tH,kS,List.map,List.foldr,List.cons_append,List.nil_append,List.length_cons,List.length_nil,Nat.reduceAdd,Nat.reduceSub];refine fL 12 rfl rfl rfl (by decide) (lT (zs:=[sn,sn,sn]) (L:=[(0,1),(1,1),(2,1)]) (iG (by kernel_rfl)) (by kernel_rfl) rfl (by simp[fI,gI,Value.cells];rfl)) (by kernel_rfl) (fun _ _ _ h=>h) (fun _ h=>h.tail.tail.tail.tail) ?_;refine cE 14 ?_;refine uB rfl rfl ?_;simp only[iH,Value.cells,List.set,List.take,List.drop,List.nil_append,List.append_nil,List.length_cons,List.length_nil,List.cons_append,Nat.reduceAdd];refine fA ?_;refine kG ?_;refine dW ?_;exact aY [3,0,1,2,4,5] rfl (by decide) (by simp) (bJ [(5,.pointer (some ⟨g 13,0,none⟩)),(4,pt g2),(2,pt g1),(1,.slice Aa act.length ca)] (Zj ⟨g 3,g 7,g 11,g 13,rfl,rfl,by simp only[er,dQ]⟩))
  rintro _ _ _ ⟨ga,gb,gc,gw,rfl,rfl,rfl⟩;refine aB ?_;refine bJ [(32,iv 0),(31,iv s.aC.length),(30,.slice A4 s.aC.length k4),(5,pt gw),(4,pt g2),(2,pt g1),(1,.slice Aa act.length ca)] ?_;refine aB ?_;refine eI (fun m e R H=>∃(j:Nat),j≤s.aC.length∧m=s.aC.length - j∧e=[(32,iv j),(31,iv s.aC.length),(30,.slice A4 s.aC.length k4),(5,pt gw),(4,pt g2),(2,pt g1),(1,.slice Aa act.length ca)]∧R=[q,all w]∧H=[HP.aE gw 116 [.slice (some ⟨ga,0,none⟩) s.domains.length s.domains.length,.slice (some ⟨gb,0,none⟩) s.aF.length s.aF.length,.slice (some ⟨gc,0,none⟩) s.aT.length s.aT.length],HP.aE ga 4 (bE (iM s act j).d),HP.aE gb 4 (bE (iM s act j).c),HP.aE gc 4 (bE (iM s act j).l),HP.aE g2 116 [sn,sn,sn],HP.aE g1 30 [.slice A1 s.aF.length k1,.slice A2 s.domains.length k2,.slice A3 s.aT.length k3,.slice A4 s.aC.length k4]]) s.aC.length ⟨0,by omega,rfl,rfl,rfl,rfl⟩ fun m e R H hI=>?_;obtain⟨j,hj,rfl,rfl,rfl,rfl⟩:=hI;refine aB ?_;refine aG rfl (fun h=>?_) (fun h=>?_)
  ·
   refine lU ?_;refine dW ?_;refine cO ?_;refine sC ?_;refine cO ?_
   have hjl:j < s.aC.length:=by have h':(j:Int) < (s.aC.length:Int):=h;omega
   obtain⟨x,hx⟩:∃x,s.aC[j]? =some x:=⟨_,List.getElem?_eq_getElem hjl⟩
   obtain⟨hx1,yB,hx3,hx4,hx5,hx6,_⟩:=hm.aC j x hx;obtain⟨bV,oV,rV,rfl,hzV,_,hR,Xa⟩:=nY.dev.zN hx;obtain⟨Ar,nr,kr,An,nn,kn,rfl,_⟩:=hR
   have Mk:=Ec s act j
   obtain⟨xc,hxc⟩:∃xc:Nat,x.clock=(xc:Int):=⟨x.clock.toNat,by omega⟩
   obtain⟨xd,hxd⟩:∃xd:Nat,x.domain=(xd:Int):=⟨x.domain.toNat,by omega⟩
   obtain⟨xr,hxr⟩:∃xr:Nat,x.reset=(xr:Int):=⟨x.reset.toNat,by omega⟩
   have He:hasB act j=true→iM s act (j+1)=⟨sI (Ed s xd) (iM s act j).d,sI ((fU s xc).filter (mH s)) (iM s act j).c,gY (iM s act j).l (xr:Int) true⟩:=fun ha=>by
    rw[Ua hx ha,Pb,hxd,hxc,hxr];rfl
   rw[hxc,hxd,hxr] at Xa;generalize hwj:iM s act j=wj at *;refine eB ?_;refine cP rfl (by decide) ?_;refine kd (dat (j) (oV+j*6)) ?_;refine zG 6 (by kernel_rfl) rfl (aQ.of (vs:=[iv (xc:Int),iv (xd:Int),iv (xr:Int),.int .u32 x.iT,.slice Ar nr kr,.slice An nn kn]) fun f v hf=>Rd.ro (p:=q) (by simp) hzV (Xa f v hf)) rfl (by decide) ?_;refine bR fun g7=>?_;refine fP rfl (by decide) ?_;refine uB rfl rfl ?_;simp only[iH,Value.cells,List.set,List.take,List.drop,List.nil_append,List.append_nil,List.length_cons,List.length_nil,List.cons_append,Nat.reduceAdd];refine aB ?_;refine dH (fun w1 st=>aDX Aa act.length ca j act w1 (hact.le (st.le (by simp))) rfl (by omega)) ?_;refine aB ?_;refine pU rfl (fun h=>?_) (fun h=>?_)
   ·
    refine aB ?_
    have hno:hasB act j=false:=by simpa using h
    exact aY [1,2,3,4,5,6] rfl (by decide) (by simp) (bJ [(32,iv ((j:Int)+1)),(31,iv s.aC.length),(30,.slice (some ⟨bV,oV,none⟩) s.aC.length k4),(5,pt gw),(4,pt g2),(2,pt g1),(1,.slice Aa act.length ca)] (iC (s.aC.length - (j+1)) (by omega) ⟨j+1,by omega,rfl,rfl,rfl,by rw[Pc hno,hwj]⟩))
   ·
    have hyes:hasB act j=true:=by simpa using h
    have He:=He hyes
    refine aB ?_;refine bJ [(8,iv (xd:Int)),(7,pt g7),(32,iv j),(31,iv s.aC.length),(30,.slice (some ⟨bV,oV,none⟩) s.aC.length k4),(5,pt gw),(4,pt g2),(2,pt g1),(1,.slice Aa act.length ca)] ?_;refine aB ?_;refine eI (fun m e R H=>∃(cur:Int) (rest:List Nat) (d:List Bool),m=rest.length∧Bq s cur rest∧d.length=s.domains.length∧sI rest d=sI (Ed s xd) wj.d∧e=[(8,iv cur),(7,pt g7),(32,iv j),(31,iv s.aC.length),(30,.slice (some ⟨bV,oV,none⟩) s.aC.length k4),(5,pt gw),(4,pt g2),(2,pt g1),(1,.slice Aa act.length ca)]∧R=[q,all w]∧H=[HP.aE g7 38 [iv (xc:Int),iv (xd:Int),iv (xr:Int),.int .u32 x.iT,.slice Ar nr kr,.slice An nn kn],HP.aE gw 116 [.slice (some ⟨ga,0,none⟩) s.domains.length s.domains.length,.slice (some ⟨gb,0,none⟩) s.aF.length s.aF.length,.slice (some ⟨gc,0,none⟩) s.aT.length s.aT.length],HP.aE ga 4 (bE d),HP.aE gb 4 (bE wj.c),HP.aE gc 4 (bE wj.l),HP.aE g2 116 [sn,sn,sn],HP.aE g1 30 [.slice A1 s.aF.length k1,.slice A2 s.domains.length k2,.slice A3 s.aT.length k3,.slice (some ⟨bV,oV,none⟩) s.aC.length k4]]) (Ed s xd).length ⟨_,Ed s xd,wj.d,rfl,aAq hm (by omega),Mk.d,rfl,rfl,rfl,rfl⟩ fun m e R H hI=>?_;obtain⟨cur,rest,d,rfl,Vx,iY,hpd,rfl,rfl,rfl⟩:=hI;refine aB ?_;refine aG rfl (fun h=>?_) (fun h=>?_)
    ·
     refine aB ?_
     obtain⟨i,r,rfl⟩:∃i r,rest=i::r:=by
      cases rest with
      | nil=>exact absurd Vx h
      | cons i r=>exact⟨i,r,rfl⟩
     obtain⟨rfl,dm,tK,Vx⟩:=Vx
     have hil:=(List.getElem?_eq_some_iff.1 tK).1
     refine aB ?_;refine tA 2 rfl (by kernel_rfl) rfl rfl rfl (by rw[aEC];omega) ?_;dsimp only[List.set];rw[aEB,show d.set i true=gY d (i:Int) true by simp[gY]];refine dO ?_;obtain⟨bD,oD,rD,rfl,Vt,_,rfl,Mx⟩:=nY.dom.zN tK;refine eB ?_;refine pZ (off:=1) (by kernel_rfl) rfl (by decide) ?_;refine Dy rfl ?_;refine cP rfl (by decide) ?_;refine kd (dat (i) (oD+i*3)) ?_;refine pZ (off:=0) (by kernel_rfl) rfl (by decide) ?_;refine jC (by kernel_rfl) rfl (Rd.ro (p:=q) (by simp) Vt (Mx 0 _ rfl)) (by decide) ?_;refine fP rfl (by decide) ?_;refine dO ?_;exact bJ [(8,iv dm.above),(7,pt g7),(32,iv j),(31,iv s.aC.length),(30,.slice (some ⟨bV,oV,none⟩) s.aC.length k4),(5,pt gw),(4,pt g2),(2,pt g1),(1,.slice Aa act.length ca)] (iC r.length (by simp) ⟨dm.above,r,gY d (i:Int) true,rfl,Vx,by rw[Ma];exact iY,by rw[←hpd];rfl,rfl,rfl,rfl⟩)
    ·
     refine aB ?_
     obtain rfl:rest=[]:=by
      cases rest with
      | nil=>rfl
      | cons i r=>exact absurd (show cur= -1 from Classical.not_not.1 h) (by have:=Vx.1;omega)
     have hpd:d=sI (Ed s xd) wj.d:=hpd
     refine aB ?_;refine jP [] (Iv (fU s xc)) (fun w1 st=>aB7 q s A1 A2 A3 (some ⟨bV,oV,none⟩) _ k1 _ k2 _ k3 _ k4 xc w1 nY hm.wQ (st.le (by simp)) (by omega)) ?_;rintro _ w1 qc ⟨Ac,cc,rfl,hsc⟩ hf _ _
     have hsc:=hsc.le hf
     have hcin:=fun i (hi:i∈fU s xc)=>aE6 s _ _ i hi
     have iA:(fU s xc).length≤s.aF.length:=aB8 s _ _
     clear hf;generalize kC:fU s xc=ch at *;refine aB ?_;refine bJ [(60,iv 0),(59,iv ch.length),(58,.slice Ac ch.length cc),(7,pt g7),(32,iv j),(31,iv s.aC.length),(30,.slice (some ⟨bV,oV,none⟩) s.aC.length k4),(5,pt gw),(4,pt g2),(2,pt g1),(1,.slice Aa act.length ca)] ?_;refine aB ?_;refine eI (fun m e R H=>∃(k:Nat),k≤ch.length∧m=ch.length - k∧e=[(60,iv k),(59,iv ch.length),(58,.slice Ac ch.length cc),(7,pt g7),(32,iv j),(31,iv s.aC.length),(30,.slice (some ⟨bV,oV,none⟩) s.aC.length k4),(5,pt gw),(4,pt g2),(2,pt g1),(1,.slice Aa act.length ca)]∧R=[qc,q,all w]∧H=[HP.aE g7 38 [iv (xc:Int),iv (xd:Int),iv (xr:Int),.int .u32 x.iT,.slice Ar nr kr,.slice An nn kn],HP.aE gw 116 [.slice (some ⟨ga,0,none⟩) s.domains.length s.domains.length,.slice (some ⟨gb,0,none⟩) s.aF.length s.aF.length,.slice (some ⟨gc,0,none⟩) s.aT.length s.aT.length],HP.aE ga 4 (bE d),HP.aE gb 4 (bE (sI ((ch.take k).filter (mH s)) wj.c)),HP.aE gc 4 (bE wj.l),HP.aE g2 116 [sn,sn,sn],HP.aE g1 30 [.slice A1 s.aF.length k1,.slice A2 s.domains.length k2,.slice A3 s.aT.length k3,.slice (some ⟨bV,oV,none⟩) s.aC.length k4]]) ch.length ⟨0,by omega,rfl,rfl,rfl,rfl⟩ fun m e R H hI=>?_;obtain⟨k,hk,rfl,rfl,rfl,rfl⟩:=hI;refine aB ?_;refine aG rfl (fun h=>?_) (fun h=>?_)
     ·
      refine lU ?_;refine dW ?_;refine cO ?_;refine sC ?_;refine cO ?_
      have Wj:k < ch.length:=by have h':(k:Int) < (ch.length:Int):=h;omega
      obtain⟨ci,rW⟩:∃ci,ch[k]? =some ci:=⟨_,List.getElem?_eq_getElem Wj⟩
      have aPL:=hcin ci (List.mem_of_getElem? rW)
      obtain⟨ck,yI⟩:∃ck,s.aF[ci]? =some ck:=⟨_,List.getElem?_eq_getElem aPL⟩
      obtain⟨bI,oI,rfl,hzI,Mw⟩:=hsc.2 (by omega);obtain⟨bC,oC,rC,rfl,hzC,_,hR2,hcC⟩:=nY.jJ.zN yI;obtain⟨As,ns,ks,rfl,_⟩:=hR2
      have mL:(ch.take (k+1)).filter (mH s)=(ch.take k).filter (mH s)++(if mH s ci then[ci] else[]):=by
       rw[List.take_add_one,rW,List.filter_append];cases lP:mH s ci<;>simp[lP]
      have aHO:mH s ci=decide (ck.kind=112∨ck.kind=103):=by unfold mH;rw[yI]
      have aUr:(sI ((ch.take k).filter (mH s)) wj.c).length=s.aF.length:=by rw[aDa];exact Mk.c
      refine eB ?_;refine kd (dat (k) (oI+k)) ?_;refine jC (by kernel_rfl) rfl (Rd.ro (p:=qc) (by simp) hzI (Mw k _ (aOl rW))) (by decide) ?_;refine fP rfl (by decide) ?_;refine dO ?_;refine cO ?_;refine eB ?_;refine pZ (off:=0) (by kernel_rfl) rfl (by decide) ?_;refine Dy rfl ?_;refine cP rfl (by decide) ?_;refine kd (dat (ci) (oC+ci*6)) ?_;refine pZ (off:=0) (by kernel_rfl) rfl (by decide) ?_;refine jC (by kernel_rfl) rfl (Rd.ro (p:=q) (by simp) hzC (hcC 0 _ rfl)) (by decide) ?_;refine fP rfl (by decide) ?_;refine dO ?_;refine Zn 75 (ck.kind=112∨ck.kind=103) ?_ ?_
      ·skip
       refine aB ?_;refine bU (t:=72) rfl (fun hg=>?_) (fun hg=>?_)
       ·
        refine fV rfl rfl rfl (by decide) ?_;refine fV rfl rfl rfl (by decide) ?_
        (first | refine pW rfl rfl (by decide) ?_ | refine pY rfl rfl (by decide) ?_)
        refine dO ?_;exact Su
       ·
        refine fO rfl rfl ?_;refine cP rfl (by decide) ?_;refine fO rfl rfl ?_;refine aFA rfl rfl (by decide) ?_
        (first | refine pW rfl rfl (by decide) ?_ | refine pY rfl rfl (by decide) ?_)
        refine dO ?_;exact Su
      refine aG rfl (fun Qy=>?_) (fun Qy=>?_)
      ·
       refine aB ?_;refine tA 3 rfl (by kernel_rfl) rfl rfl rfl (by rw[aEC];omega) ?_;dsimp only[List.set];rw[aEB,show(sI ((ch.take k).filter (mH s)) wj.c).set ci true=sI ((ch.take (k+1)).filter (mH s)) wj.c by rw[mL,aHO,decide_eq_true Qy];simp[sI,gY,List.foldl_append]];refine aB ?_;exact bJ [(60,iv ((k:Int)+1)),(59,iv ch.length),(58,.slice (some ⟨bI,oI,none⟩) ch.length cc),(7,pt g7),(32,iv j),(31,iv s.aC.length),(30,.slice (some ⟨bV,oV,none⟩) s.aC.length k4),(5,pt gw),(4,pt g2),(2,pt g1),(1,.slice Aa act.length ca)] (iC (ch.length - (k+1)) (by omega) ⟨k+1,by omega,rfl,rfl,rfl,rfl⟩)
      ·
       refine aB ?_;exact bJ [(60,iv ((k:Int)+1)),(59,iv ch.length),(58,.slice (some ⟨bI,oI,none⟩) ch.length cc),(7,pt g7),(32,iv j),(31,iv s.aC.length),(30,.slice (some ⟨bV,oV,none⟩) s.aC.length k4),(5,pt gw),(4,pt g2),(2,pt g1),(1,.slice Aa act.length ca)] (iC (ch.length - (k+1)) (by omega) ⟨k+1,by omega,rfl,rfl,rfl,by rw[mL,aHO,decide_eq_false Qy];simp⟩)
     ·
      refine aB ?_
      have hke:k=ch.length:=by have h':¬(k:Int) < (ch.length:Int):=h;omega
      rw[hke,List.take_length]
      have pO:=Mk.l
      refine aB ?_;refine tA 4 rfl (by kernel_rfl) rfl rfl rfl (by rw[aEC];omega) ?_;dsimp only[List.set];rw[aEB,show wj.l.set xr true=gY wj.l (xr:Int) true by simp[gY]];refine aB ?_;exact aY [1,2,3,4,5,6] rfl (by decide) (R':=[q,all w]) (by simp) (bJ [(32,iv ((j:Int)+1)),(31,iv s.aC.length),(30,.slice (some ⟨bV,oV,none⟩) s.aC.length k4),(5,pt gw),(4,pt g2),(2,pt g1),(1,.slice Aa act.length ca)] (iC (s.aC.length - (j+1)) (by omega) ⟨j+1,by omega,rfl,rfl,rfl,by rw[He,hpd]⟩))
  ·
   refine aB ?_;refine uB rfl rfl ?_;simp only[iH,Value.cells,List.set,List.take,List.drop,List.nil_append,List.append_nil,List.length_cons,List.length_nil,List.cons_append,Nat.reduceAdd];refine aB ?_
   have hje:j=s.aC.length:=by have h':¬(j:Int) < (s.aC.length:Int):=h;omega
   have Mk:=Ec s act j
   have hww:eT s act=iM s act j:=by rw[hje];rfl
   generalize iM s act j=wj at *;refine aY [1,2,3,4] rfl (by decide) (R':=[q,all w]) (by simp) ?_;refine Zf ?_;refine dP [] [] [0,1] (by simp) rfl (by decide) (by decide) fun qf _ _ hfr=>?_
   exact Nz rfl (by kernel_rfl) rfl rfl (aQ.whole 1 rfl) fun w1 st=>⟨⟨_,_,⟨w1,qf.Z⟩,rfl,rfl,by
    rw[hww]
    exact⟨ga,gb,gc,_,by rw[Mk.d,Mk.c,Mk.l],rfl⟩,st.newR (by simp) (by simp) (hfr (by simp) (by simp))⟩,st.below (by simp)⟩
end
end Go.Proofs.YtdcdccmpcmjmhaaGreatDoor
