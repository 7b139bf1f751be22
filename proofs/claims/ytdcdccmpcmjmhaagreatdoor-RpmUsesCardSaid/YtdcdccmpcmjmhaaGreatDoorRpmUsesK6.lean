/- package firm: take. -/
import Derived.Tactics2
import Derived.Test.YtdcdccmpcmjmhaaGreatDoorRpmUsesK5
namespace Go.Proofs.YtdcdccmpcmjmhaaGreatDoor
set_option linter.all false
set_option maxHeartbeats 4000000
set_option maxRecDepth 20000
open Go.RowKit Go.Proofs.Tryz
section
section
variable{h:Nat}{L:gI}{s:aD}{z:bZ}
theorem aIP{b:Nat}(hb:b < 2):(jY h L s z)[11+b*2]? =some (iv (Bf z b)):=by
 obtain rfl | rfl:b=0∨b=1:=by omega
 ·rfl
 ·rfl
end
structure Eg(s:aD)(z:bZ):Prop where
 la:z.last=0∨z.last=1
 u0:wG z.w0
 u1:wG z.w1
 n0:z.w0.length≤1000000
 n1:z.w1.length≤1000000
 sx:z.x.sm
 sy:z.y.sm
theorem Eg.box{s:aD}{z:bZ}(h:Eg s z)(b:Nat):wG (kY z b)∧(kY z b).length≤1000000:=by
 unfold kY;split
 ·exact⟨h.u0,h.n0⟩
 ·exact⟨h.u1,h.n1⟩
def gE(s:aD)(x:aP)(z:bZ)(a:Nat):Int×Int×Int:=jI s z.x z.y (mF s x) a (kY z a)
def wS(s:aD)(x:aP)(z:bZ)(a:Nat):bZ×Bool:=
 let d:=gE s x z a
 if d.2.1=0 then(wU s x {z with last:=a} a d.1,false)
 else({z with last:=a,x:=jZ z.x a d.2.1 d.2.2,y:=mS z.y a d.2.1 d.2.2,at_:=a,kind:=d.2.1,id:=d.2.2},true)
def mV(s:aD)(x:aP)(z:bZ):bZ×Bool:=match sW z with
 | none=>(z,false)
 | some a=>wS s x z a
theorem aIL(f:Nat)(hL:HL)(s:aD)(z:bZ)(x:aP)(hH:s.dI)(aW:iO hL s)(hok:cK s x)(hz:Eg s z)(l a:Nat)(hl:z.last=(l:Int))(iT:l≤1)(ha:a < 2)(hab:(Bf z (1 - l)=1∧a=1 - l)∨(Bf z (1 - l)≠1∧a=l))(h1:Bf z a=1)
  (hst:(gE s x z a).2.1=0→(gE s x z a).1=0→tW (kY z a)) (w:World) (F:Nat→Prop) (hp:(gY f hL s z x).sat F w) (hF:∀b,F b→b < w.heap.size):
  Cz 50 #[pt f] w (Wr (.bool (wS s x z a).2) (gY f hL s (wS s x z a).1 x) w F):=by
 have lX:=hH.t.nv
 unfold wS;generalize hdz:gE s x z a=dz at hst⊢;obtain⟨st,k,id⟩:=dz;dsimp only at hst⊢;obtain⟨hbu,hbn⟩:=hz.box a;refine dJ func50 ntmps50 hp hF ?_;refine bF 0 0 ?_;refine mB 0 fun L=>?_
 have aI9:(jY hL.h L s z)[15]? =some (iv (l:Int)):=by rw[←hl];rfl
 refine cP ?_;refine eC ?_;refine bK ?_;refine dO ?_;refine cP ?_;refine eC ?_;refine bK ?_;refine bK ?_;refine bK ?_;refine kd (bN rfl (Rd.eY 0 rfl aI9)) ?_;refine kd (Oc rfl rfl (c:=((1 - l:Nat):Int)) (by rw[show(1:Int) - (l:Int)=((1 - l:Nat):Int) by omega];exact iR (by omega))) ?_;refine bK ?_;refine dO ?_;refine Tq (fun e R H=>e=[(3,iv (a:Int)),(0,pt f)]∧R=[⟨w,fun b=>b < w.heap.size∧¬F b⟩]∧H=[iP f hL.h L s z,HP.many [cJ,dU hL s x]]) ?_ ?_
 ·refine cP ?_;refine eC ?_;refine bK ?_;refine bK ?_;refine bK ?_;refine bK ?_;refine kd (fZ (1 - l) (11+(1 - l)*2)) ?_;refine bK ?_;refine kd (bN rfl (Rd.eY 0 rfl (aIP (by omega)))) ?_;refine bK ?_;refine dO ?_;rcases hab with⟨h2,rfl⟩ | ⟨h2,rfl⟩
  ·refine aG rfl (fun h=>absurd h2 h) (fun _=>?_);refine mA ?_;refine dS ?_;exact pO ⟨rfl,rfl,rfl⟩
  ·refine aG rfl (fun _=>?_) (fun h=>absurd h2 h);refine eC ?_;refine bK ?_;refine bK ?_;refine bK ?_;refine kd (bN rfl (Rd.eY 0 rfl aI9)) ?_;refine bK ?_;refine dO ?_;exact pO ⟨rfl,rfl,rfl⟩
 rintro _ _ _ ⟨rfl,rfl,rfl⟩;refine aA ?_;refine kd (fZ a (11+a*2)) ?_;refine aA ?_;refine kd (bN rfl (Rd.eY 0 rfl (aIP ha))) ?_;refine aA ?_;refine aG rfl (fun h=>absurd h1 h) (fun _=>?_);refine aA ?_;refine bF 0 0 ?_;refine fD rfl rfl ?_ (hs:=eN.mk 0 rfl cI.h rfl (by simp[jY]));dsimp only[List.set];rw[show(jY hL.h L s z).set (0+15) (iv (a:Int))=jY hL.h L s {z with last:=(a:Int)} from rfl];refine aN 0 0 ?_
 change XK _ _ _ _ _ [iP f hL.h L s {z with last:=(a:Int)},HP.many [cJ,dU hL s x]]
 generalize mP:({z with last:=(a:Int)}:bZ)=z1
 have e1:z1.x=z.x:=by rw[←mP]
 have e2:z1.y=z.y:=by rw[←mP]
 have e3:kY z1 a=kY z a:=by rw[←mP];rfl
 refine aA ?_;refine kd (bN rfl (Rd.eY 0 rfl rfl)) ?_;refine aA ?_;refine lO (n:=s.aC.length) 8 (el:=3) (z:=iv 0) (by kernel_rfl) (by kernel_rfl) rfl rfl rfl (by omega) (by omega) (by decide) fun gm=>?_;refine aA ?_;refine bF 2 1 ?_
 rw[show List.replicate s.aC.length (Value.int .i64 0)=aK (lF (mF s x) ((mF s x).map fun _=>0) 0) by
  rw[Vz];refine List.ext_getElem? fun j=>?_;simp only[aK,mF,List.map_map,List.getElem?_replicate,List.getElem?_map]
  by_cases h:j < s.aC.length
  ·rw[if_pos h,List.getElem?_range h];rfl
  ·rw[if_neg h,List.getElem?_eq_none (by simp;omega)];rfl]
 refine bL [(46,iv 0),(45,iv s.aC.length),(4,.slice (some ⟨gm,0,none⟩) s.aC.length s.aC.length),(3,iv (a:Int)),(0,pt f)] ?_
 have vR:(mF s x).length=s.aC.length:=by simp[mF]
 refine eJ (fun m e R H=>∃i:Nat,i≤s.aC.length∧m=s.aC.length - i∧e=[(46,iv i),(45,iv s.aC.length),(4,.slice (some ⟨gm,0,none⟩) s.aC.length s.aC.length),(3,iv (a:Int)),(0,pt f)]∧R=[⟨w,fun b=>b < w.heap.size∧¬F b⟩]∧H=[dU hL s x,HP.aE gm 3 (aK (lF (mF s x) ((mF s x).map fun _=>0) i)),iP f hL.h L s z1,HP.many [cJ,cJ]]) s.aC.length ⟨0,by omega,rfl,rfl,rfl,rfl⟩ fun m e R H hI=>?_;obtain⟨i,hi,rfl,rfl,rfl,rfl⟩:=hI
 have Wy:=Wb (vs:=mF s x) (old:=(mF s x).map fun _=>0) (n:=s.aC.length) vR (by simp[mF]) hi
 have iB:(aK (lF (mF s x) ((mF s x).map fun _=>0) i)).length=s.aC.length:=by simp[aK,Wy]
 refine aA ?_;refine aG rfl (fun hlt=>?_) (fun hge=>?_)
 ·have hlt:i < s.aC.length:=by omega
  have hwi:(mF s x)[i]? =some (iQ x.wt i:Int):=by simp[mF,hlt]
  have iX:(aK (lF (mF s x) ((mF s x).map fun _=>0) i)).set i (iv (iQ x.wt i:Nat))=aK (lF (mF s x) ((mF s x).map fun _=>0) (i+1)):=by
   rw[←Wa (by simp) hwi,aK,aK,List.map_set]
  refine aA ?_;refine kd (bN rfl (Rd.eY 2 rfl rfl)) ?_;refine aA ?_;refine aU (fun w1 t=>aQs hL s x w1 i hlt (t.nL 0 rfl aW hok)) ?_;refine aA ?_;refine kd (dat i i) ?_;refine fD rfl rfl ?_;dsimp only[List.set];rw[iX];refine aA ?_;exact dZ (s.aC.length - (i+1)) ⟨i+1,hlt,rfl,rfl,rfl,rfl⟩
 obtain rfl:i=s.aC.length:=by omega
 rw[Wc vR (by simp[mF])];refine aN 2 1 ?_;refine aA ?_;refine aCj (fun e R H=>∃g7:Nat,e=[(7,pt g7),(6,.int .i32 st),(3,iv (a:Int)),(0,pt f)]∧R=[⟨w,fun b=>b < w.heap.size∧¬F b⟩]∧H=[HP.aE g7 136 [.int .u8 k,iv id],iP f hL.h L s z1,HP.many [cJ,dU hL s x]]) ?_ ?_
 ·refine jO [1,2,3,5,6,7,12,13,14,15,16,19,20] ?_;refine bT 0 ?_;refine bT 4 ?_;refine bT 8 ?_;refine bT 9 ?_;refine bT 10 ?_;refine bT 11 ?_;refine aJ 1 ?_;refine aJ 2 ?_;refine aJ 3 ?_ (dH:=pM rfl (aQ.eY 1 rfl (vs:=[.slice L.a1.1 s.aF.length L.a1.2,.slice L.a2.1 s.domains.length L.a2.2,.slice L.a3.1 s.aR.length L.a3.2,.slice L.a4.1 s.aC.length L.a4.2]) rfl));refine aJ 5 ?_;refine aJ 6 ?_;refine aJ 7 ?_ (dH:=pM rfl (aQ.eY 1 rfl (vs:=[.slice L.x1.1 z1.x.d.length L.x1.2,.slice L.x2.1 z1.x.c.length L.x2.2,.slice L.x3.1 z1.x.l.length L.x3.2,.slice L.y1.1 z1.y.d.length L.y1.2,.slice L.y2.1 z1.y.c.length L.y2.2,.slice L.y3.1 z1.y.l.length L.y3.2]) rfl));refine aJ 12 ?_;refine aJ 13 ?_;refine aJ 14 ?_ (dH:=fZ (sz:=2) a (11+a*2));refine aJ 15 ?_;refine aJ 16 ?_ (dH:=bN rfl (Rd.eY 1 rfl (v:=.slice (xF L a).1 (kY z1 a).length (xF L a).2) (by rw[show 11+a*2+1=12+a*2 by omega];exact aIQ ha)))
  have Be:∀H:List HP,H[H.length - 2]? =some (iP f hL.h L s z1)→(H.length=3∨H.length=4)→H[H.length - 3]? =some (HP.aE gm 3 (aK (mF s x)))→∀w1,St w [⟨w,fun b=>b < w.heap.size∧¬F b⟩] H w1→Cz 98 #[.agg #[.slice L.a1.1 s.aF.length L.a1.2,.slice L.a2.1 s.domains.length L.a2.2,.slice L.a3.1 s.aR.length L.a3.2,.slice L.a4.1 s.aC.length L.a4.2],.agg #[.slice L.x1.1 z1.x.d.length L.x1.2,.slice L.x2.1 z1.x.c.length L.x2.2,.slice L.x3.1 z1.x.l.length L.x3.2,.slice L.y1.1 z1.y.d.length L.y1.2,.slice L.y2.1 z1.y.c.length L.y2.2,.slice L.y3.1 z1.y.l.length L.y3.2],.slice (some ⟨gm,0,none⟩) s.aC.length s.aC.length,iv (a:Int),.slice (xF L a).1 (kY z1 a).length (xF L a).2] w1 (Rt (aEX (st,k,id)) w1):=fun H h2 _ h3 w1 t=>by
   have kf:=t.Ge _ h2
   have:=aS4 (all w1) (all w1) s _ _ _ _ _ L.a1.2 _ L.a2.2 _ L.a3.2 _ L.a4.2 _ _ _ _ _ _ _ L.x1.2 _ L.x2.2 _ L.x3.2 _ L.y1.2 _ L.y2.2 _ L.y3.2 z1.x z1.y (some ⟨gm,0,none⟩) s.aC.length s.aC.length (mF s x) a _ _ (xF L a).2 (kY z1 a) w1 kf.so hH.t (Piece.Le.refl _) kf.stR (Piece.Le.refl _) (t.rU h3 (by simp[aK,vR])) vR.symm ha (kf.box ha) rfl (by rw[e3];exact hbn) (by rw[e3];exact hbu)
   rw[show jI s z1.x z1.y (mF s x) a (kY z1 a)=(st,k,id) by rw[e1,e2,e3];exact hdz] at this;exact this
  refine Ji 17 21 rfl rfl (by kernel_rfl) ?_ ?_
  ·refine aU (fun w1 t=>Be _ rfl (.inl rfl) rfl w1 t) ?_;refine bH ?_;refine bT 18 ?_;refine aJ 19 ?_;refine aJ 20 ?_;refine aL 21 ?_;refine bX fun g7=>?_;refine bH ?_;refine aL 22 ?_;refine bK ?_;refine bH ?_;refine aL 23 ?_;refine oL 0 rfl ?_;dsimp only[List.set];refine cT ?_;refine fE ?_;refine dS ?_;refine aY [0,2,3] rfl (by decide) (fun _ h=>h) ?_;exact pO ⟨g7,rfl,rfl,rfl⟩
  ·refine bX fun g7=>?_;refine bH ?_;refine aL 17 ?_;refine aU (fun w1 t=>Be _ rfl (.inr rfl) rfl w1 t) ?_;refine bH ?_;refine bT 18 ?_;refine aJ 19 ?_;refine aJ 20 ?_;refine aL 22 ?_;refine bK ?_;refine bH ?_;refine aL 23 ?_;refine oL 0 rfl ?_;dsimp only[List.set];refine cT ?_;refine fE ?_;refine dS ?_;refine aY [0,2,3] rfl (by decide) (fun _ h=>h) ?_;exact pO ⟨g7,rfl,rfl,rfl⟩
 rintro _ _ _ ⟨g7,rfl,rfl,rfl⟩;refine aA ?_;refine aG rfl (fun hk=>?_) (fun hk=>?_)
 ·have hk:k=0:=hk
  rw[if_pos hk];refine fA 1 (fun L:gI=>iP f hL.h L s z1) L ?_;refine aY [1,0,2] rfl (by decide) (fun _ h=>h) ?_;refine aN 1 0 ?_;refine aA ?_;refine dR 1 (gY f hL s (wU s x z1 a st) x) (fun w1 F1 t h1 h2 h3=>aEu f hL s z1 x hH aW hok a ha st (fun h0=>by rw[e3];exact hst hk h0) w1 F1 h1 h2) ?_;refine aA ?_;exact cG 1 hF
 ·rw[if_neg hk];rw[show({z with last:=(a:Int),x:=jZ z.x a k id,y:=mS z.y a k id,at_:=(a:Int),kind:=k,id:=id}:bZ)={z1 with x:=jZ z1.x a k id,y:=mS z1.y a k id,at_:=(a:Int),kind:=k,id:=id} by rw[←mP]];refine aA ?_;refine jO [2,3,4,6] ?_;refine bT 0 ?_;refine bT 1 ?_;refine bT 5 ?_;refine aJ 2 ?_;refine aJ 3 ?_;refine aJ 4 ?_ (dH:=pM rfl (aQ.eY 1 rfl (vs:=[.slice L.x1.1 z1.x.d.length L.x1.2,.slice L.x2.1 z1.x.c.length L.x2.2,.slice L.x3.1 z1.x.l.length L.x3.2,.slice L.y1.1 z1.y.d.length L.y1.2,.slice L.y2.1 z1.y.c.length L.y2.2,.slice L.y3.1 z1.y.l.length L.y3.2]) rfl));refine aJ 6 ?_;refine aL 7 ?_
  refine jR [] (fun v w w'=>uZ (fresh w w') (jZ z1.x a k id) (mS z1.y a k id) v) (fun w1 t=>by
   have kf:=t.Ge 1 rfl
   exact aRX (all w1) _ _ _ _ _ _ L.x1.2 L.x2.2 L.x3.2 L.y1.2 L.y2.2 L.y3.2 z1.x z1.y a k id w1 (Piece.Le.refl _) ha (by rw[e1];exact hz.sx) (by rw[e2];exact hz.sy) kf.st.1 kf.st.2.1 kf.st.2.2.1 kf.st.2.2.2.1 kf.st.2.2.2.2.1 kf.st.2.2.2.2.2) ?_
  rintro _ w2 q2 aPM uT _ Kv
  have Kv:=Kv (by simp)
  obtain⟨x1,x2,x3,y1,y2,y3,rfl,Nb⟩:=aPM.P
  have Nb:=rN.le _ _ uT (Nb L.a1 L.a2 L.a3 L.a4 L.b0 L.b1)
  refine Jd (Φ:=rN ⟨L.a1,L.a2,L.a3,L.a4,x1,x2,x3,y1,y2,y3,L.b0,L.b1⟩ (jZ z1.x a k id) (mS z1.y a k id)) (hm:=rN.le) Kv (fun p hp b hb=>by simp at hp;subst hp;exact hb.1) Nb ?_;refine cT ?_;refine aL 8 ?_;refine bK ?_;refine cT ?_;refine aL 9 ?_;refine bK ?_;refine cT ?_;refine aL 10 ?_;refine bF 2 0 ?_;refine rR 0 (t:=138) rfl rfl rfl (by kernel_rfl) (by simp[Value.cells,Value.oneCell',yE]) (by simp[Value.cells,jY]) ?_;dsimp only[List.set];rw[show iH (jY hL.h L s z1) (0+5) (Value.agg #[yE x1 (jZ z1.x a k id).d.length,yE x2 (jZ z1.x a k id).c.length,yE x3 (jZ z1.x a k id).l.length,yE y1 (mS z1.y a k id).d.length,yE y2 (mS z1.y a k id).c.length,yE y3 (mS z1.y a k id).l.length]).cells.toList=jY hL.h ⟨L.a1,L.a2,L.a3,L.a4,x1,x2,x3,y1,y2,y3,L.b0,L.b1⟩ s {z1 with x:=jZ z1.x a k id,y:=mS z1.y a k id} from rfl];refine cT ?_;refine fE ?_;refine dS ?_;refine bF 3 2 ?_;refine aY [1,2,3,4,5] rfl (by decide) (R':=[⟨w,fun b=>b < w.heap.size∧¬F b⟩]) (by simp) ?_;refine aY [1,0,2,3,4] rfl (by decide) (fun _ h=>h) ?_;refine aN 2 2 ?_;generalize qM:({z1 with x:=jZ z1.x a k id,y:=mS z1.y a k id}:bZ)=z2;rw[show({z1 with x:=jZ z1.x a k id,y:=mS z1.y a k id,at_:=(a:Int),kind:=k,id:=id}:bZ)={z2 with at_:=(a:Int),kind:=k,id:=id} by rw[←qM]];generalize hL2:(⟨L.a1,L.a2,L.a3,L.a4,x1,x2,x3,y1,y2,y3,L.b0,L.b1⟩:gI)=L2;refine cP ?_;refine aCj (fun e R H=>e=[(0,pt f)]∧R=[⟨w,fun b=>b < w.heap.size∧¬F b⟩]∧H=[HP.aE f 138 (jY hL.h L2 s {z2 with at_:=(a:Int),kind:=k,id:=id}),HP.aE g7 136 [.int .u8 k,iv id],HP.many [cJ,HP.bR (wI L s) (wI.le (L:=L) (s:=s)),HP.bR (rN L2 (jZ z1.x a k id) (mS z1.y a k id)) (rN.le (L:=L2) (x:=jZ z1.x a k id) (y:=mS z1.y a k id)),HP.bR (eR L.b0 z1.w0) (eR.le (a:=L.b0) (l:=z1.w0)),HP.bR (eR L.b1 z1.w1) (eR.le (a:=L.b1) (l:=z1.w1))],HP.many [cJ,dU hL s x]]) ?_ ?_
  ·refine jO [] ?_;refine bT 0 ?_;refine bT 1 ?_;refine bT 2 ?_
   repeat' (first
    | (refine fE ?_;refine dS ?_;exact pO ⟨rfl,rfl,rfl⟩)
    | refine Ji 3 4 rfl rfl (by decide+kernel) ?_ ?_
    | refine Ji 3 5 rfl rfl (by decide+kernel) ?_ ?_
    | refine Ji 3 6 rfl rfl (by decide+kernel) ?_ ?_
    | refine aL 3 ?_
    | refine aL 4 ?_
    | refine aL 5 ?_
    | refine aL 6 ?_
    | refine aL 7 ?_
    | refine aL 8 ?_
    | refine aL 9 ?_
    | refine cT ?_
    | refine bK ?_
    | (refine fD rfl rfl ?_ (hs:=eN.mk 0 rfl cI.h rfl (by simp[jY]));dsimp only[List.set];rw[show(jY hL.h L2 s z2).set (0+16) (iv (a:Int))=jY hL.h L2 s {z2 with at_:=(a:Int)} from rfl])
    | (refine rR 0 (t:=138) rfl rfl rfl (by kernel_rfl) (by simp[Value.cells,Value.oneCell']) (by simp[Value.cells,jY]) ?_;dsimp only[List.set];rw[show iH (jY hL.h L2 s {z2 with at_:=(a:Int)}) (0+17) (Value.agg #[.int .u8 k,iv id]).cells.toList=jY hL.h L2 s {z2 with at_:=(a:Int),kind:=k,id:=id} from rfl]))
  rintro _ _ _ ⟨rfl,rfl,rfl⟩;refine aN 1 0 ?_;subst hL2;subst qM;refine xI 1 (f:=fun L:gI=>iP f hL.h L s {({z1 with x:=jZ z1.x a k id,y:=mS z1.y a k id}:bZ) with at_:=(a:Int),kind:=k,id:=id}) ⟨L.a1,L.a2,L.a3,L.a4,x1,x2,x3,y1,y2,y3,L.b0,L.b1⟩ rfl ?_;dsimp only[List.set];refine aY [1,0,2] rfl (by decide) (fun _ h=>h) ?_;refine aN 1 0 ?_;refine aA ?_;exact cG 1 hF
theorem aIM(f:Nat)(hL:HL)(s:aD)(z:bZ)(x:aP)(hH:s.dI)(aW:iO hL s)(hok:cK s x)(hz:Eg s z)(hst:∀a,sW z=some a→(gE s x z a).2.1=0→(gE s x z a).1=0→tW (kY z a))(w:World)(F:Nat→Prop)(hp:(gY f hL s z x).sat F w)(hF:∀b,F b→b < w.heap.size):
  Cz 50 #[pt f] w (Wr (.bool (mV s x z).2) (gY f hL s (mV s x z).1 x) w F):=by
 unfold mV;cases hn:sW z with
 | none=>exact aRk f hL s z x hz.la hn w F hp hF
 | some a =>
  obtain⟨l,hl,iT⟩:∃l:Nat,z.last=(l:Int)∧l≤1:=by
   rcases hz.la with h | h
   ·exact⟨0,h,by omega⟩
   ·exact⟨1,h,by omega⟩
  have hn2:=hn
  unfold sW at hn;rw[show(1 - z.last).toNat=1 - l by omega,show z.last.toNat=l by omega] at hn
  by_cases h2:Bf z (1 - l)=1
  ·rw[if_pos h2] at hn;obtain rfl:=Option.some.inj hn;exact aIL f hL s z x hH aW hok hz l _ hl iT (by omega) (.inl ⟨h2,rfl⟩) h2 (hst _ hn2) w F hp hF
  ·rw[if_neg h2] at hn
   by_cases h3:Bf z l=1
   ·rw[if_pos h3] at hn;obtain rfl:=Option.some.inj hn;exact aIL f hL s z x hH aW hok hz l _ hl iT (by omega) (.inr ⟨h2,rfl⟩) h3 (hst _ hn2) w F hp hF
   ·rw[if_neg h3] at hn;cases hn
end
section
section
variable{P:Program}{N:cE}{w0 w:World}{K:Act→World→Prop}{e:Env}{R:List Piece}{H H':List HP}
theorem aAc{nn:Nat}{F:Nat→Prop}{p:HP}{f:FuncId}{fn:Func}{c:Code}{vs:List Value}{Post:Ending→World→Prop}(hf:P.funcs[f]? =some fn)(hb:fn.body=some c)(hN:fn.ntmps=nn)(hl:vs.length≤nn)(hp:p.sat F w)(hF:∀b,F b→b < w.heap.size)
  (h:XK ⟨nn,[]⟩ w (c.wp P (bodyPostD P fn Post)) (Gm 0 vs) [⟨w,fun b=>b < w.heap.size∧¬F b⟩] [p]):Calls P f vs.toArray w Post:=by
 refine calls_of_wp_defers hf hb (h _ _ ⟨?_,rfl,fun t v hv=>?_⟩ (aFp hp hF))
 ·simp;omega
 ·obtain⟨_,h2⟩:=Zj vs 0 t v hv;rw[Nat.sub_zero] at h2
  have hlt:t < vs.length:=by
   rcases Nat.lt_or_ge t vs.length with h | h
   ·exact h
   ·rw[List.getElem?_eq_none h] at h2;cases h2
  rw[Array.getElem?_append_left (by simpa using hlt)]
  simpa using h2
theorem Br{nn:Nat}{f:FuncId}{fi ca:List Value}{fn:Func}{Post:Ending→World→Prop}{x:Exit}(hx:x=.ret∨x=.normal)(hf:fI P f=true)
  (iB:∀w,CallsD P f (fi++ca).toArray .returning w fun y u' w'=>y=.returned (.tuple #[])∧u'=.returning∧w'=w) (hr:fn.results=#[])
  (h:∀w,St w0 R H w→Post (.returned (.tuple #[])) w):XK ⟨nn,[Lh f fi ca]⟩ w0 (bodyPostD P fn Post x) e R H:=by
 have key:XK ⟨nn,[Lh f fi ca]⟩ w0 (bodyPostD P fn Post .ret) e R H:=aUh (H':=H) hf (fun w1 st=>(iB w1).mono fun y u' w' h=>by
  obtain⟨h1,h2,rfl⟩:=h
  exact⟨⟨_,h1⟩,h2,st⟩) fun a w1 _ st=>⟨.tuple #[],results_none hr _ _ _,h w1 st⟩
 rcases hx with rfl | rfl
 ·exact key
 ·exact key
end
theorem Yj(w:World):CallsD Tryz.prog 49 #[] .returning w fun e u' w'=>e=.returned (.tuple #[])∧u'=.returning∧w'=w:=by
 refine callsD_of_wpS func49 rfl fun c₀ cs hu=>?_;apply wpS_region;simp[wpOpsS,go_sem,recoverD,hu,ntmps49,Exit.thenS];cases c₀;simp_all [bodyPostS,results,Tryz.results49]
section
variable{N:cE}{w0 w:World}{e:Env}{R:List Piece}{H:List HP}{K:Act→World→Prop}{f:Nat}{hL:HL}{s:aD}{z:bZ}{x:aP}
theorem Jj(i:Nat){o:Nat}{v:Value}(hi:H[i]? =some (gY f hL s z x))(hv:∀L,(jY hL.h L s z)[o]? =some v):Rd w0 R H f o v:=fun w t=>by
 obtain⟨F,⟨G,g1,g2,_⟩,h2,_⟩:=t.chunk hi;obtain⟨L,hL'⟩:=g1 0 _ rfl
 have:=((aKX hL' fun b hb=>h2 b (g2 0 b hb)).r0.at_ (hv L)).2
 rwa [Nat.zero_add] at this
end
theorem aRo(f:Nat)(hL:HL)(s:aD)(z:bZ)(x:aP)(hH:s.dI)(aW:iO hL s)(hok:cK s x)(hz:Eg s z)(hst:∀a,sW z=some a→(gE s x z a).2.1=0→(gE s x z a).1=0→tW (kY z a))(fK:z.at_ < 0)(hno:(mV s x z).2=false)(w:World)(F:Nat→Prop)(hp:(gY f hL s z x).sat F w)(hF:∀b,F b→b < w.heap.size):
  Cz 20 #[pt f] w (Wr (.tuple #[]) (gY f hL s (mV s x z).1 x) w F):=by
 refine aAc (vs:=[pt f]) (p:=gY f hL s z x) func20 rfl ntmps20 (by simp) hp hF ?_;refine aA ?_;refine Uj (f:=49) (fi:=[]) (ca:=[]) rfl ?_;refine aA ?_;refine kd (bN rfl (Jj 0 rfl fun _=>rfl)) ?_;refine aA ?_;refine bQ (t:=8) rfl (fun _=>?_) (fun h=>absurd fK h);refine aA ?_;refine dR 0 (gY f hL s (mV s x z).1 x) (fun w1 F1 t h1 h2 h3=>aIM f hL s z x hH aW hok hz hst w1 F1 h1 h2) ?_;rw[hno];refine aA ?_;exact Br (.inl rfl) (by kernel_rfl) Yj rfl fun w1 t=>⟨rfl,t.turns hF (by simp) (i:=0) rfl⟩
end
section
section
variable{s:aD}{x:aP}{l:Int}{b:Nat}{m a:List Int}
end
theorem Vx{s:aD}{st:List eP}(hH:s.dI)(h:qZ s st)(i:Int)(b:Bool):qZ s (lE s st i b).2:=by
 unfold lE;split
 ·exact h
 ·split
  ·rename_i c x hc hx
   split
   ·exact h
   ·refine⟨by simp[h.len],fun y hy=>?_⟩;rcases List.mem_or_eq_of_mem_set hy with hy | rfl
    ·exact h.left y hy
    ·have h1:=(hH.t.aF i.toNat c hc).2
     have h2:=h.left x (List.mem_of_getElem? hx)
     unfold Hg;dsimp only;split
     ·omega
     ·exact h2
  ·exact h
theorem aGh{s:aD}{st:List fF}(hH:s.dI)(h:vE s st)(i:Int):vE s (uE s st i).2:=by
 unfold uE;split
 ·exact h
 ·split
  ·rename_i c x hc hx
   split
   ·exact h
   ·have h1:=(hH.domains i.toNat c hc).2
    refine⟨by simp[h.len],fun y hy=>?_,fun y hy=>?_⟩
    ·rcases List.mem_or_eq_of_mem_set hy with hy | rfl
     ·exact h.left y hy
     ·exact h1
    ·rcases List.mem_or_eq_of_mem_set hy with hy | rfl
     ·exact h.phase y hy
     ·exact⟨by show(0:Int)≤114;omega,by show(114:Int) < 256;omega⟩
  ·exact h
end
section
def kQ(p:Piece):Prop:=∀(i:Nat) (v:Int),[(114:Int),97,115,100][i]? =some v→p.Z 0∧p.w.cell? ⟨0,i,none⟩=some (.int .u8 v)
theorem kQ.at_{p:Piece}{w:World}(h:kQ p)(hl:p.Le (all w)):Uc w:=fun i v hv=>by
 obtain⟨h1,h2⟩:=h i v hv;obtain⟨h3,h4⟩:=hl 0 h1;refine⟨h3,?_⟩;rw[←h2];exact World.cell?_of_block h4
theorem kQ.le{p q:Piece}(h:kQ p)(hl:p.Le q):kQ q:=fun i v hv=>by
 obtain⟨h1,h2⟩:=h i v hv;obtain⟨h3,h4⟩:=hl 0 h1;exact⟨h3,(World.cell?_of_block h4).trans h2⟩
def Hj(s:aD)(d:Int)(k:Nat)(p:cO×dL):cO×dL:=match s.aC[k]? with
 | some dv=>if dv.domain=d then(p.1,(nU p.2).2) else p
 | none=>p
def uO(s:aD)(x:aP)(d:Int)(n:Nat):List (cO×dL):=x.dv.mapIdx fun k p=>if k < n then Hj s d k p else p
def Fh(s:aD)(x:aP)(d:Int):aP×Bool:=
 if rX x.dm d=48∨rX x.dm d=116 then({x with dm:=(uE s x.dm d).2},false)
 else if rX x.dm d=49 then({x with dv:=uO s x d s.aC.length},true) else(x,false)
def Lj(s:aD)(x:aP)(c:Nat):aP×Bool:=
 ({x with ck:=(lE s x.ck c true).2},qI s (lE s x.ck c true).2 c||(decide ((fU s c).length < 2)|| !qI s (lE s x.ck c true).2 ((fU s c).getD 1 0:Nat)))
def He(x:aP)(i:Int):aP×Bool:=if Ba x.ln i then({x with ln:=(vL x.ln i).2},false) else(x,true)
theorem aHQ{x:dL}(h:Cb x):Cb (nU x).2:=by
 unfold nU;split
 ·exact h
 ·exact⟨by show(0:Int)≤0;omega,by show(0:Int)≤3;omega⟩
theorem aD8{s:aD}{x:aP}(hH:s.dI)(hok:cK s x)(d:Int)(n:Nat):cK s {x with dv:=uO s x d n}:=Vy hH hok (by simp[uO]) fun i e p hd hp=>by
 rw[uO,List.getElem?_mapIdx] at hp;cases hq:x.dv[i]? with
 | none=>rw[hq] at hp;cases hp
 | some q =>
  rw[hq] at hp;obtain⟨h1,h2⟩:=hok.each i e q hd hq;simp only[Option.map_some,Option.some.injEq] at hp;subst hp;split
  ·unfold Hj;rw[hd];dsimp only;split
   ·exact⟨h1,aHQ h2⟩
   ·exact⟨h1,h2⟩
  ·exact⟨h1,h2⟩
section
variable{N:cE}{w0 w:World}{e:Env}{R:List Piece}{H:List HP}{Q:Exit→Act→World→Prop}{ops:Array Oper}{rest:List Oper}{K:Act→World→Prop}
variable{d:Nat}{ty:TypeId}{pos:String}{aH:Array Edge}{f h:Nat}{L:gI}{s:aD}{z:bZ}
theorem aFL(n:Nat)(Φ:List Value→Prop){x:Operand}{t:TypeId}{b o:Nat}[hT:nC t n](hx:e.ev x=some (.pointer (some ⟨b,o,none⟩)))(h:∀w,St w0 R H w→∃vs,eD w b o vs∧vs.length=n∧Φ vs)(k:∀vs,Φ vs→XK N w0 (wpList Tryz.prog ops Q rest) ((d,.agg vs.toArray)::e) R H)(hd:d < N.n:=by decide):
  XK N w0 (wpList Tryz.prog ops Q (⟨some d,.load t x,ty,pos,aH,none⟩::rest)) e R H:=vH rfl fun a w hr st=>by
 obtain⟨vs,h1,h2,h3⟩:=h w st;exact⟨.agg vs.toArray,w,aJo (N:=N) (w0:=w) (R:=[all w]) (H:=[]) (d:=d) (ty:=ty) (pos:=pos) (aH:=aH) n hT.h hx (zE (by simp) h1) h2 a w hr (St.start w),k vs h3 _ _ (hr.put hd _) st⟩
theorem aKq(j:Nat)(hj:H[j]? =some (iP f h L s z))(hn:0 < s.aC.length)(k:∀b off,L.a4.1=some ⟨b,off,none⟩→XK N w0 K e R H):XK N w0 K e R H:=fun a w hr st=>by
 obtain⟨b,off,r,hA,_⟩:=jP.row (st.Ge j hj).so.dev (List.getElem?_eq_getElem hn);exact k b off hA a w hr st
def aF6(d:bO)(vs:List Value):Prop:=∃A n k A' n' k',vs=[iv d.clock,iv d.domain,iv d.reset,.int .u32 d.iU,.slice A n k,.slice A' n' k']
theorem aIS{i b off:Nat}{d:bO}(kf:Ma w f h L s z)(hA:L.a4.1=some ⟨b,off,none⟩)(hd:s.aC[i]? =some d):∃vs,eD w b (off+i*6) vs∧vs.length=6∧aF6 d vs:=by
 obtain⟨b',off',r,sC,hl,⟨A,n,k,A',n',k',he,_⟩,hro⟩:=jP.row kf.so.dev hd;rw[hA] at sC;cases sC;exact⟨r,hro,hl,A,n,k,A',n',k',he⟩
end
variable(f:Nat)(hL:HL)(s:aD)(z:bZ)(x:aP)(w:World)
theorem aRr(hH:s.dI)(aW:iO hL s)(hok:cK s x)(d:Int)(F:Nat→Prop)(hp:(gY f hL s z x).sat F w)(hF:∀b,F b→b < w.heap.size)(fC:kQ ⟨w,fun b=>b < w.heap.size∧¬F b⟩):
  Cz 100 #[pt f,iv d] w (Wr (.bool (Fh s x d).2) (gY f hL s z (Fh s x d).1) w F):=by
 have lX:=hH.t.nv
 have iY:=hok.dv
 refine dJ func100 ntmps100 hp hF ?_;generalize cM:(⟨w,fun b=>b < w.heap.size∧¬F b⟩:Piece)=R0 at fC⊢;refine bF 0 0 ?_;refine mB 0 fun L=>?_;refine bF 1 1 ?_;refine aA ?_;refine kd (bN rfl (Rd.eY 1 rfl rfl)) ?_;refine aA ?_;refine aU (fun w1 t=>aEd hL s x w1 hok.dm d (t.nL 0 rfl aW hok)) ?_;unfold Fh;generalize pH:rX x.dm d=ph
 by_cases h48:ph=48
 ·subst h48;rw[if_pos (.inl rfl)];refine aA ?_;refine kd (bN rfl (Rd.eY 1 rfl rfl)) ?_;refine aA ?_;refine dR 0 (dU hL s {x with dm:=(uE s x.dm d).2}) (fun w1 F1 t h1 h2 h3=>aI1 hL s x w1 hH aW hok d F1 h1 h2) ?_;refine aA ?_;refine aN 1 1 ?_;refine fA 0 (fun L:gI=>iP f hL.h L s z) L ?_;refine aN 0 0 ?_;subst cM;exact cG 0 hF
 by_cases Yd:ph=116
 ·subst Yd;rw[if_pos (.inr rfl)];refine aA ?_;refine kd (bN rfl (Rd.eY 1 rfl rfl)) ?_;refine aA ?_;refine dR 0 (dU hL s {x with dm:=(uE s x.dm d).2}) (fun w1 F1 t h1 h2 h3=>aI1 hL s x w1 hH aW hok d F1 h1 h2) ?_;refine aA ?_;refine aN 1 1 ?_;refine fA 0 (fun L:gI=>iP f hL.h L s z) L ?_;refine aN 0 0 ?_;subst cM;exact cG 0 hF
 rw[if_neg (by omega)]
 by_cases xB:ph=49
 ·subst xB;rw[if_pos rfl];refine aA ?_;refine kd (bN rfl (Rd.eY 1 rfl rfl)) ?_;refine aA ?_
  have hm0:uO s x d 0=x.dv:=Qr _ _
  refine bL [(31,iv (0)),(30,iv s.aC.length),(29,.slice L.a4.1 s.aC.length L.a4.2),(0,pt f),(1,iv d)] ?_;refine eJ (fun m e R H=>∃i:Nat,i≤s.aC.length∧m=s.aC.length - i∧e=[(31,iv (i:Int)),(30,iv s.aC.length),(29,.slice L.a4.1 s.aC.length L.a4.2),(0,pt f),(1,iv d)]∧R=[R0]∧H=[dU hL s {x with dv:=uO s x d i},iP f hL.h L s z,HP.many [cJ,cJ]]) s.aC.length ⟨0,by omega,rfl,rfl,rfl,by rw[hm0]⟩ fun m e R H hI=>?_;obtain⟨i,hi,rfl,rfl,rfl,rfl⟩:=hI
  have nW:=aD8 hH hok d i
  refine aA ?_;refine aG rfl (fun hlt=>?_) (fun hge=>?_)
  ·have hlt:i < s.aC.length:=by omega
   obtain⟨dv,dF⟩:=get_some hlt;obtain⟨p,gM⟩:=get_some (l:=x.dv) (i:=i) (by omega)
   have lW:(uO s x d i)[i]? =some p:=Qt gM
   have hstep:(uO s x d i).set i (Hj s d i p)=uO s x d (i+1):=Qs (f:=Hj s d) gM
   obtain⟨q1,q2⟩:=(nW.each i dv p dF lW).2;refine aKq 1 rfl (by omega) fun b off hA=>?_;refine aA ?_;refine kd (dat i (off+i*6) (hx:=by rw[←hA];rfl)) ?_;refine aFL 6 (aF6 dv) rfl (fun w1 t=>aIS (t.Ge 1 rfl) hA dF) ?_;rintro _ ⟨A,n,k,A',n',k',rfl⟩;refine bX fun g1=>?_;refine aA ?_;refine aG rfl (fun he=>?_) (fun he=>?_)
   ·have nK:Hj s d i p=p:=by
     unfold Hj;rw[dF];exact if_neg he
    rw[nK,yF lW] at hstep;rw[hstep];refine aA ?_;refine aY [1,2,3] rfl (by decide) (fun _ h=>h) ?_;exact dZ (s.aC.length - (i+1)) ⟨i+1,hlt,rfl,rfl,rfl,rfl⟩
   ·have he:dv.domain=d:=by simpa using he
    have nK:Hj s d i p=(p.1,(nU p.2).2):=by
     unfold Hj;rw[dF];exact if_pos he
    have hst:uH {x with dv:=uO s x d i} i=qL p.2.at_:=by
     unfold uH;dsimp only;rw[lW];rfl
    refine aA ?_;refine kd (bN rfl (Rd.eY 2 rfl rfl)) ?_;refine aA ?_;refine aU (fun w1 t=>aI2 hL s _ w1 aW nW i hlt (fC.at_ (t.le (by simp))) (t.nL 1 rfl aW nW)) ?_;rw[hst]
    by_cases ha:p.2.at_=2∨p.2.at_=3
    ·have hlf:qL p.2.at_=115∨qL p.2.at_=100:=by
      rcases ha with ha | ha<;>rw[ha]
      ·exact .inl rfl
      ·exact .inr rfl
     rcases hlf with hlf | hlf<;>rw[hlf]
     all_goals
      refine aA ?_;refine kd (bN rfl (Rd.eY 2 rfl rfl)) ?_;refine aA ?_;refine xR (α:=Int) 1 (f:=176) (fi:=[]) (ca:=[]) (fun r=>iv r) (fun _=>dU hL s (Aj {x with dv:=uO s x d i} i)) (fun _=>True) (by kernel_rfl) rfl rfl rfl (by decide) (fun w1 F1 t h1 h2 h3=>aEe hL s _ w1 hH aW nW i hlt F1 h1 h2) ?_;rintro _ _;dsimp only[List.set]
      have hX:Aj {x with dv:=uO s x d i} i={x with dv:=uO s x d (i+1)}:=by
       unfold Aj;dsimp only;rw[lW,←hstep,nK]
      rw[hX];refine aA ?_;refine aY [1,2,3] rfl (by decide) (fun _ h=>h) ?_;exact dZ (s.aC.length - (i+1)) ⟨i+1,hlt,rfl,rfl,rfl,rfl⟩
    ·have hq:(nU p.2).2=p.2:=by
      unfold nU;rw[if_pos (by omega)]
     have hlf:qL p.2.at_=114∨qL p.2.at_=97:=by
      have:p.2.at_=0∨p.2.at_=1:=by omega
      rcases this with ha | ha<;>rw[ha]
      ·exact .inl rfl
      ·exact .inr rfl
     rw[nK,hq,yF lW] at hstep;rcases hlf with hlf | hlf<;>rw[hlf,hstep]
     all_goals
      refine aA ?_;refine aY [1,2,3] rfl (by decide) (fun _ h=>h) ?_;exact dZ (s.aC.length - (i+1)) ⟨i+1,hlt,rfl,rfl,rfl,rfl⟩
  obtain rfl:i=s.aC.length:=by omega
  refine aA ?_;refine aN 1 1 ?_;refine fA 0 (fun L:gI=>iP f hL.h L s z) L ?_;refine aN 0 0 ?_;subst cM;exact cG 0 hF
 ·rw[if_neg xB];refine aA ?_;refine aG rfl (fun h=>absurd h h48) (fun _=>?_);refine aA ?_;refine aG rfl (fun h=>absurd h Yd) (fun _=>?_);refine aA ?_;refine aG rfl (fun h=>absurd h xB) (fun _=>?_);refine aA ?_;refine aN 1 1 ?_;refine fA 0 (fun L:gI=>iP f hL.h L s z) L ?_;refine aN 0 0 ?_;subst cM;exact cG 0 hF
theorem aRq(hH:s.dI)(aW:iO hL s)(hok:cK s x)(i:Int)(F:Nat→Prop)(hp:(gY f hL s z x).sat F w)(hF:∀b,F b→b < w.heap.size):
  Cz 104 #[pt f,iv i] w (Wr (.bool (He x i).2) (gY f hL s z (He x i).1) w F):=by
 refine dJ func104 ntmps104 hp hF ?_;generalize cM:(⟨w,fun b=>b < w.heap.size∧¬F b⟩:Piece)=R0;refine bF 0 0 ?_;refine mB 0 fun L=>?_;refine bF 1 1 ?_;refine aA ?_;refine kd (bN rfl (Rd.eY 1 rfl rfl)) ?_;refine aA ?_;refine aU (fun w1 t=>aQw hL s x w1 i (t.nL 0 rfl aW hok)) ?_;unfold He;cases hh:Ba x.ln i
 ·refine aA ?_;refine aN 1 1 ?_;refine fA 0 (fun L:gI=>iP f hL.h L s z) L ?_;refine aN 0 0 ?_;subst cM;exact cG 0 hF
 ·refine aA ?_;refine kd (bN rfl (Rd.eY 1 rfl rfl)) ?_;refine aA ?_;refine dR 0 (dU hL s {x with ln:=(vL x.ln i).2}) (fun w1 F1 t h1 h2 h3=>aQu hL s x w1 hH aW hok i F1 h1 h2) ?_;refine aA ?_;refine aN 1 1 ?_;refine fA 0 (fun L:gI=>iP f hL.h L s z) L ?_;refine aN 0 0 ?_;subst cM;exact cG 0 hF
theorem aRv(hH:s.dI)(aW:iO hL s)(hok:cK s x)(c:Nat)(hc:c < s.aF.length)(F:Nat→Prop)(hp:(gY f hL s z x).sat F w)(hF:∀b,F b→b < w.heap.size):
  Cz 102 #[pt f,iv (c:Int)] w (Wr (.bool (Lj s x c).2) (gY f hL s z (Lj s x c).1) w F):=by
 refine dJ func102 ntmps102 hp hF ?_;generalize cM:(⟨w,fun b=>b < w.heap.size∧¬F b⟩:Piece)=R0;refine bF 0 0 ?_;refine mB 0 fun L=>?_;refine bF 1 1 ?_;refine aA ?_;refine kd (bN rfl (Rd.eY 1 rfl rfl)) ?_;refine aA ?_;refine dR 0 (dU hL s {x with ck:=(lE s x.ck c true).2}) (fun w1 F1 t h1 h2 h3=>aI6 hL s x w1 hH aW hok c true F1 h1 h2) ?_
 have mR:cK s {x with ck:=(lE s x.ck c true).2}:=⟨Vx hH hok.ck _ _,hok.dm,hok.ln,hok.dv,hok.each,hok.wt⟩
 unfold Lj;generalize yI:({x with ck:=(lE s x.ck c true).2}:aP)=x2 at mR⊢
 have yP:(lE s x.ck c true).2=x2.ck:=by rw[←yI]
 rw[yP];refine aA ?_;refine kd (bN rfl (Rd.eY 1 rfl rfl)) ?_;refine aA ?_;refine aU (fun w1 t=>aI3 hL s x2 w1 hH c (t.nL 0 rfl aW mR)) ?_;cases hr:qI s x2.ck c
 ·refine aA ?_;refine kd (pM rfl (aQ.eY 1 rfl (vs:=[.slice L.a1.1 s.aF.length L.a1.2,.slice L.a2.1 s.domains.length L.a2.2,.slice L.a3.1 s.aR.length L.a3.2,.slice L.a4.1 s.aC.length L.a4.2]) rfl)) ?_;refine aA ?_;refine jR [] (Jk (fU s c)) (fun w1 t=>aBF (all w1) s _ _ _ _ _ L.a1.2 _ L.a2.2 _ L.a3.2 _ L.a4.2 c w1 (t.Ge 1 rfl).so hH.t (Piece.Le.refl _) hc) ?_;rintro _ w1 qm ⟨Ac,cc,rfl,iB⟩ hf _ _
  have iB:=iB.le hf
  clear hf;refine aA ?_;rcases jT:fU s c with _ | ⟨c0,_ | ⟨c1,cr⟩⟩
  ·refine mL ?_;refine jB ?_;refine aA ?_;refine aN 1 1 ?_;refine fA 0 (fun L:gI=>iP f hL.h L s z) L ?_;refine aN 0 0 ?_;subst cM;exact cG 0 hF
  ·refine mL ?_;refine jB ?_;refine aA ?_;refine aN 1 1 ?_;refine fA 0 (fun L:gI=>iP f hL.h L s z) L ?_;refine aN 0 0 ?_;subst cM;exact cG 0 hF
  ·rw[jT] at iB;obtain⟨b,off,hA,hb,qO⟩:=iB.2 (by simp)
   have r1:Rd w [qm,R0] [dU hL s x2,iP f hL.h L s z,HP.many [cJ,cJ]] b (off+1) (iv (c1:Int)):=Rd.ro (p:=qm) (by simp) hb (qO 1 _ rfl)
   have hlen:decide ((c0::c1::cr).length < 2)=false:=by simp
   rw[hlen];refine mL ?_;refine jA ?_;refine Oo 27 rfl (fun h=>absurd h (by simp;omega)) (fun _=>?_);refine jA ?_;refine xH (bN rfl (Rd.eY 1 rfl rfl)) ?_;refine jA ?_;refine xH (dat 1 (off+1) (hx:=by rw[←hA];rfl) (hlt:=by simp)) ?_;refine jA ?_;refine tT (fun w1 t=>aI3 hL s x2 w1 hH c1 (t.nL 0 rfl aW mR)) ?_;refine jB ?_;refine aA ?_;refine aN 1 1 ?_;refine fA 0 (fun L:gI=>iP f hL.h L s z) L ?_;refine aN 0 0 ?_;subst cM;exact cG 0 hF
 ·refine aA ?_;refine aN 1 1 ?_;refine fA 0 (fun L:gI=>iP f hL.h L s z) L ?_;refine aN 0 0 ?_;subst cM;exact cG 0 hF
end
section
def Ir(k:Int):Value:=
 if k=117 then .func (.func 100) #[] #[] else if k=100∨k=107 then .func (.func 101) #[] #[]
 else if k=99 then .func (.func 102) #[] #[] else if k=111 then .func (.func 103) #[] #[]
 else if k=114 then .func (.func 104) #[] #[] else .func (.func 105) #[] #[]
theorem aJj(k:Int)(w:World):Cz 51 #[.int .u8 k] w (Rt (Ir k) w):=by
 refine aM func51 ntmps51 ?_;refine aA ?_;refine aG rfl (fun h1=>?_) (fun h1=>?_)
 ·refine aA ?_;exact cY (by rw[Ir,if_pos h1])
 refine aA ?_;refine aG rfl (fun h2=>?_) (fun h2=>?_)
 ·refine aA ?_;refine aG rfl (fun _=>?_) (fun h=>absurd h2 h);refine aA ?_;exact cY (by rw[Ir,if_neg h1,if_pos (.inl h2)])
 refine aA ?_;refine aG rfl (fun h3=>?_) (fun h3=>?_)
 ·refine aA ?_;exact cY (by rw[Ir,if_neg h1,if_pos (.inr h3)])
 have h23:¬(k=100∨k=107):=by omega
 refine aA ?_;refine aG rfl (fun h4=>?_) (fun h4=>?_)
 ·refine aA ?_;exact cY (by rw[Ir,if_neg h1,if_neg h23,if_pos h4])
 refine aA ?_;refine aG rfl (fun h5=>?_) (fun h5=>?_)
 ·refine aA ?_;exact cY (by rw[Ir,if_neg h1,if_neg h23,if_neg h4,if_pos h5])
 refine aA ?_;refine aG rfl (fun h6=>?_) (fun h6=>?_)
 ·refine aA ?_;exact cY (by rw[Ir,if_neg h1,if_neg h23,if_neg h4,if_neg h5,if_pos h6])
 refine aA ?_;exact cY (by rw[Ir,if_neg h1,if_neg h23,if_neg h4,if_neg h5,if_neg h6])
theorem aD6{P:Program}{fn:Func}{R:Ending→World→Prop}(hr:fn.results=#[]){t1 t2:Array Value}:∀(ds:List Deferred) (u:FrameMode) (w:World),Leaves P fn t1 R ds u w→Leaves P fn t2 R ds u w
 | [],.returning,w,h=>by
  obtain⟨v,h1,h2⟩:=h;rw[results_none hr] at h1;cases h1;exact⟨_,results_none hr _ _ _,h2⟩
 | [],.panicking _,_,h=>h
 | [],.run,_,h=>h
 | d::ds,u,w,h=>by
  obtain⟨h1,fv,cap,f,args,h2,h3,h4⟩:=h;refine⟨h1,fv,cap,f,args,h2,h3,h4.mono fun y u' w' hy=>?_⟩;cases y with
  | returned v=>exact aD6 hr ds _ _ hy
  | panicked c=>exact aD6 hr ds _ _ hy
  | outgrown=>exact hy
theorem mW{P:Program}{fn:Func}{R:Ending→World→Prop}{c:List PanicEntry}{a:Act}{d:Option Nat}{v:Value}{w:World}(hr:fn.results=#[])(h:bodyPostD P fn R (.panic c) (a.put d v) w):bodyPostD P fn R (.panic c) a w:=by
 have hd:(a.put d v).defers=a.defers:=by cases d<;>rfl
 have h2:Leaves P fn (a.put d v).tmps R (a.put d v).defers (.panicking c) w:=h
 rw[hd] at h2;exact aD6 hr _ _ _ h2
def aFC(f:Nat)(hL:HL)(s:aD)(z:bZ)(x:aP)(r:aP×Bool):Prop:=
 ∃fn:FuncId,Ir z.kind=.func (.func fn) #[] #[]∧fI Tryz.prog fn=true∧cK s r.1∧∀(w:World) (F:Nat→Prop),(gY f hL s z x).sat F w→(∀b,F b→b < w.heap.size)→kQ ⟨w,fun b=>b < w.heap.size∧¬F b⟩→
  Cz fn #[pt f,iv z.id] w (Wr (.bool r.2) (gY f hL s z r.1) w F)
def xD(s:aD)(z:bZ)(r:aP×Bool):bZ:=if r.2 then wU s r.1 {z with at_:= -1} z.at_.toNat 0 else z
section
variable(f:Nat)(hL:HL)(s:aD)(z:bZ)(x:aP)(w:World)
theorem aRn(hH:s.dI)(aW:iO hL s)(hok:cK s x)(hz:Eg s z)(a:Nat)(ha:z.at_=(a:Int))(vY:a < 2)(r:aP×Bool)(hact:aFC f hL s z x r)(Fp:tW (kY z a))(F:Nat→Prop)(hp:(gY f hL s z x).sat F w)(hF:∀b,F b→b < w.heap.size)(fC:kQ ⟨w,fun b=>b < w.heap.size∧¬F b⟩):
  Cz 20 #[pt f] w (Wr (.tuple #[]) (gY f hL s (xD s z r) r.1) w F):=by
 obtain⟨fn,dH,hcb,Ww,Be⟩:=hact;refine aAc (vs:=[pt f]) (p:=gY f hL s z x) func20 rfl ntmps20 (by simp) hp hF ?_;generalize cM:(⟨w,fun b=>b < w.heap.size∧¬F b⟩:Piece)=R0 at fC⊢;refine aA ?_;refine Uj (f:=49) (fi:=[]) (ca:=[]) rfl ?_;refine aA ?_;refine kd (bN rfl (Jj 0 rfl fun _=>rfl)) ?_;refine aA ?_;refine bQ (t:=8) rfl (fun h=>absurd h (by omega)) (fun _=>?_);refine aA ?_;refine jO [1,2,3,4,8,9,10,11] ?_;refine bT 0 ?_ (hQ:=fun _ _ _ h=>mW rfl h);refine bT 6 ?_ (hQ:=fun _ _ _ h=>mW rfl h);refine bT 7 ?_ (hQ:=fun _ _ _ h=>mW rfl h);refine aJ 1 ?_ (hQ:=fun _ _ _ h=>mW rfl h);refine aJ 2 ?_ (hQ:=fun _ _ _ h=>mW rfl h);refine aJ 3 ?_ (hQ:=fun _ _ _ h=>mW rfl h);refine aJ 4 ?_ (hQ:=fun _ _ _ h=>mW rfl h) (dH:=bN rfl (Jj 0 rfl fun _=>rfl));refine aJ 8 ?_ (hQ:=fun _ _ _ h=>mW rfl h);refine aJ 9 ?_ (hQ:=fun _ _ _ h=>mW rfl h);refine aJ 10 ?_ (hQ:=fun _ _ _ h=>mW rfl h);refine aJ 11 ?_ (hQ:=fun _ _ _ h=>mW rfl h) (dH:=bN rfl (Jj 0 rfl fun _=>rfl));refine aL 5 ?_;refine aU (fun w1 t=>aJj z.kind w1) ?_;rw[dH];refine bH ?_;refine aL 12 ?_;refine aBf 0 (fi:=[]) (ca:=[]) (gY f hL s z r.1) (fun w1 F1 t h1 h2 h3=>by simpa using Be w1 F1 h1 h2 (kQ.le fC (h3 _ (by simp)))) ?_ (hf:=hcb);dsimp only[List.set];refine cT ?_;refine fE ?_;refine aA ?_;obtain⟨x',b⟩:=r;dsimp only at Ww⊢;cases b
 ·refine aA ?_;subst cM;exact Br (.inr rfl) (by kernel_rfl) Yj rfl fun w1 t=>⟨rfl,t.turns hF (by simp) (i:=0) rfl⟩
 ·refine aA ?_;refine kd (bN rfl (Jj 0 rfl fun _=>rfl)) ?_;refine aA ?_;refine bF 0 0 ?_;refine mB 0 fun L=>?_;refine bF 0 0 ?_;refine fD rfl rfl ?_ (hs:=eN.mk 0 rfl cI.h rfl (by simp[jY]));dsimp only[List.set];rw[show(jY hL.h L s z).set (0+16) (iv (-1))=jY hL.h L s {z with at_:= -1} from rfl];refine aN 0 0 ?_;refine fA 0 (fun L:gI=>iP f hL.h L s {z with at_:= -1}) L ?_;refine aN 0 0 ?_;refine aA ?_;rw[ha];refine dR 0 (gY f hL s (wU s x' {z with at_:= -1} a 0) x') (fun w1 F1 t h1 h2 h3=>aEu f hL s {z with at_:= -1} x' hH aW Ww a vY 0 (fun _=>Fp) w1 F1 h1 h2) ?_;refine aA ?_
  have hend:xD s z (x',true)=wU s x' {z with at_:= -1} a 0:=by
   unfold xD;rw[if_pos rfl,ha];rfl
  rw[hend];subst cM;exact Br (.inr rfl) (by kernel_rfl) Yj rfl fun w1 t=>⟨rfl,t.turns hF (by simp) (i:=0) rfl⟩
end
end
section
def Ho(s:aD)(d:Int)(k:Nat)(p:cO×dL):cO×dL:=match s.aC[k]? with
 | some dv=>if dv.domain=d then(p.1,if p.2.at_=3 then(nU p.2).2 else if p.2.at_=0 then(sI p.2).2 else p.2) else p
 | none=>p
def jH(s:aD)(x:aP)(d:Int)(n:Nat):List (cO×dL):=x.dv.mapIdx fun k p=>if k < n then Ho s d k p else p
def Qi(s:aD)(x:aP)(d:Int)(k:Nat):Bool:=match s.aC[k]?,x.dv[k]? with
 | some dv,some p=> !decide (dv.domain=d)||decide (p.2.at_=2)
 | _,_=>true
def Cy(s:aD)(x:aP)(d:Int)(n:Nat):Bool:=(List.range n).all (Qi s x d)
theorem aPI(s:aD)(x:aP)(d:Int)(n:Nat):Cy s x d (n+1)=(Cy s x d n&&Qi s x d n):=by simp[Cy,List.range_succ]
theorem aT4{x:dL}(h:Cb x):Cb (sI x).2:=by
 unfold sI;split
 ·exact h
 ·exact⟨by show(0:Int)≤1;omega,by show(1:Int)≤3;omega⟩
theorem aBk{s:aD}{x:aP}(hH:s.dI)(hok:cK s x)(d:Int)(n:Nat):cK s {x with dv:=jH s x d n}:=Vy hH hok (by simp[jH]) fun i e p hd hp=>by
 rw[jH,List.getElem?_mapIdx] at hp;cases hq:x.dv[i]? with
 | none=>rw[hq] at hp;cases hp
 | some q =>
  rw[hq] at hp;obtain⟨h1,h2⟩:=hok.each i e q hd hq;simp only[Option.map_some,Option.some.injEq] at hp;subst hp;split
  ·unfold Ho;rw[hd];dsimp only;split
   ·refine⟨h1,?_⟩;dsimp only;split
    ·exact aHQ h2
    ·split
     ·exact aT4 h2
     ·exact h2
   ·exact⟨h1,h2⟩
  ·exact⟨h1,h2⟩
variable(f:Nat)(hL:HL)(s:aD)(z:bZ)(x:aP)(w:World)
theorem aRu(hH:s.dI)(aW:iO hL s)(hok:cK s x)(d:Int)(F:Nat→Prop)(hp:(gY f hL s z x).sat F w)(hF:∀b,F b→b < w.heap.size)(fC:kQ ⟨w,fun b=>b < w.heap.size∧¬F b⟩):
  Cz 177 #[pt f,iv d] w (Wr (.bool (Cy s x d s.aC.length)) (gY f hL s z {x with dv:=jH s x d s.aC.length}) w F):=by
 have lX:=hH.t.nv
 have iY:=hok.dv
 refine dJ func177 ntmps177 hp hF ?_;generalize cM:(⟨w,fun b=>b < w.heap.size∧¬F b⟩:Piece)=R0 at fC⊢;refine bF 0 0 ?_;refine mB 0 fun L=>?_;refine bF 1 1 ?_;refine aA ?_;refine kd (bN rfl (Rd.eY 1 rfl rfl)) ?_;refine aA ?_
 have hm0:jH s x d 0=x.dv:=Qr _ _
 refine bL [(15,iv (0)),(14,iv s.aC.length),(13,.slice L.a4.1 s.aC.length L.a4.2),(5,.bool true),(0,pt f),(1,iv d)] ?_;refine eJ (fun m e R H=>∃(i:Nat) (b:Bool),i≤s.aC.length∧m=s.aC.length - i∧b=Cy s x d i∧e=[(15,iv (i:Int)),(14,iv s.aC.length),(13,.slice L.a4.1 s.aC.length L.a4.2),(5,.bool b),(0,pt f),(1,iv d)]∧R=[R0]∧H=[dU hL s {x with dv:=jH s x d i},iP f hL.h L s z,HP.many [cJ,cJ]]) s.aC.length ⟨0,true,by omega,rfl,rfl,rfl,rfl,by rw[hm0]⟩ fun m e R H hI=>?_;obtain⟨i,b0,hi,rfl,hb0,rfl,rfl,rfl⟩:=hI
 have nW:=aBk hH hok d i
 refine aA ?_;refine aG rfl (fun hlt=>?_) (fun hge=>?_)
 ·have hlt:i < s.aC.length:=by omega
  obtain⟨dv,dF⟩:=get_some hlt;obtain⟨p,gM⟩:=get_some (l:=x.dv) (i:=i) (by omega)
  have lW:(jH s x d i)[i]? =some p:=Qt gM
  have hstep:(jH s x d i).set i (Ho s d i p)=jH s x d (i+1):=Qs (f:=Ho s d) gM
  have dW:=aPI s x d i
  have Wu:Qi s x d i=(!decide (dv.domain=d)||decide (p.2.at_=2)):=by
   unfold Qi;rw[dF,gM]
  rw[Wu,←hb0] at dW;obtain⟨q1,q2⟩:=(nW.each i dv p dF lW).2;refine aKq 1 rfl (by omega) fun b off hA=>?_;refine aA ?_;refine kd (dat i (off+i*6) (hx:=by rw[←hA];rfl)) ?_;refine aFL 6 (aF6 dv) rfl (fun w1 t=>aIS (t.Ge 1 rfl) hA dF) ?_;rintro _ ⟨A,n,k,A',n',k',rfl⟩;refine bX fun g1=>?_;refine aA ?_;refine aG rfl (fun he=>?_) (fun he=>?_)
  ·have nK:Ho s d i p=p:=by
    unfold Ho;rw[dF];exact if_neg he
   rw[nK,yF lW] at hstep;rw[hstep];refine aA ?_;refine aY [1,2,3] rfl (by decide) (fun _ h=>h) ?_;refine bL [(15,iv ((i+1:Nat):Int)),(14,iv s.aC.length),(13,.slice L.a4.1 s.aC.length L.a4.2),(5,.bool b0),(0,pt f),(1,iv d)] ?_;exact iD (s.aC.length - (i+1)) (by omega) ⟨i+1,b0,hlt,rfl,by rw[dW,decide_eq_false he];simp,rfl,rfl,rfl⟩
  ·have he:dv.domain=d:=by simpa using he
   rw[decide_eq_true he] at dW
   have hst:uH {x with dv:=jH s x d i} i=qL p.2.at_:=by
    unfold uH;dsimp only;rw[lW];rfl
   have nK:Ho s d i p=(p.1,if p.2.at_=3 then(nU p.2).2 else if p.2.at_=0 then(sI p.2).2 else p.2):=by
    unfold Ho;rw[dF];exact if_pos he
   refine aA ?_;refine kd (bN rfl (Rd.eY 2 rfl rfl)) ?_;refine aA ?_;refine aU (fun w1 t=>aI2 hL s _ w1 aW nW i hlt (fC.at_ (t.le (by simp))) (t.nL 1 rfl aW nW)) ?_;rw[hst]
   have hq4:p.2.at_=0∨p.2.at_=1∨p.2.at_=2∨p.2.at_=3:=by omega
   rcases hq4 with ha | ha | ha | ha<;>rw[ha] at nK dW⊢ <;>cases b0
   ·rw[show qL 0=114 from rfl];refine aA ?_;refine kd (bN rfl (Rd.eY 2 rfl rfl)) ?_;refine aA ?_;refine xR (α:=Int) 1 (f:=226) (fi:=[]) (ca:=[]) (fun r=>iv r) (fun _=>dU hL s (Jb {x with dv:=jH s x d i} i)) (fun _=>True) (by kernel_rfl) rfl rfl rfl (by decide) (fun w1 F1 t h1 h2 h3=>aI7 hL s _ w1 hH aW nW i hlt F1 h1 h2) ?_;rintro _ _;dsimp only[List.set]
    have hX:Jb {x with dv:=jH s x d i} i={x with dv:=jH s x d (i+1)}:=by
     unfold Jb;dsimp only;rw[lW,←hstep,nK];rfl
    rw[hX];refine aA ?_;refine aY [1,2,3] rfl (by decide) (fun _ h=>h) ?_;refine bL [(15,iv ((i+1:Nat):Int)),(14,iv s.aC.length),(13,.slice L.a4.1 s.aC.length L.a4.2),(5,.bool false),(0,pt f),(1,iv d)] ?_;exact iD (s.aC.length - (i+1)) (by omega) ⟨i+1,false,hlt,rfl,by rw[dW];rfl,rfl,rfl,rfl⟩
   ·rw[show qL 0=114 from rfl];refine aA ?_;refine kd (bN rfl (Rd.eY 2 rfl rfl)) ?_;refine aA ?_;refine xR (α:=Int) 1 (f:=226) (fi:=[]) (ca:=[]) (fun r=>iv r) (fun _=>dU hL s (Jb {x with dv:=jH s x d i} i)) (fun _=>True) (by kernel_rfl) rfl rfl rfl (by decide) (fun w1 F1 t h1 h2 h3=>aI7 hL s _ w1 hH aW nW i hlt F1 h1 h2) ?_;rintro _ _;dsimp only[List.set]
    have hX:Jb {x with dv:=jH s x d i} i={x with dv:=jH s x d (i+1)}:=by
     unfold Jb;dsimp only;rw[lW,←hstep,nK];rfl
    rw[hX];refine aA ?_;refine aY [1,2,3] rfl (by decide) (fun _ h=>h) ?_;refine bL [(15,iv ((i+1:Nat):Int)),(14,iv s.aC.length),(13,.slice L.a4.1 s.aC.length L.a4.2),(5,.bool false),(0,pt f),(1,iv d)] ?_;exact iD (s.aC.length - (i+1)) (by omega) ⟨i+1,false,hlt,rfl,by rw[dW];rfl,rfl,rfl,rfl⟩
   ·rw[show qL 1=97 from rfl];rw[nK,show(if(1:Int)=3 then(nU p.2).2 else if(1:Int)=0 then(sI p.2).2 else p.2)=p.2 from rfl,yF lW] at hstep;rw[hstep];refine aA ?_;refine aY [1,2,3] rfl (by decide) (fun _ h=>h) ?_;refine bL [(15,iv ((i+1:Nat):Int)),(14,iv s.aC.length),(13,.slice L.a4.1 s.aC.length L.a4.2),(5,.bool false),(0,pt f),(1,iv d)] ?_;exact iD (s.aC.length - (i+1)) (by omega) ⟨i+1,false,hlt,rfl,by rw[dW];rfl,rfl,rfl,rfl⟩
   ·rw[show qL 1=97 from rfl];rw[nK,show(if(1:Int)=3 then(nU p.2).2 else if(1:Int)=0 then(sI p.2).2 else p.2)=p.2 from rfl,yF lW] at hstep;rw[hstep];refine aA ?_;refine aY [1,2,3] rfl (by decide) (fun _ h=>h) ?_;refine bL [(15,iv ((i+1:Nat):Int)),(14,iv s.aC.length),(13,.slice L.a4.1 s.aC.length L.a4.2),(5,.bool false),(0,pt f),(1,iv d)] ?_;exact iD (s.aC.length - (i+1)) (by omega) ⟨i+1,false,hlt,rfl,by rw[dW];rfl,rfl,rfl,rfl⟩
   ·rw[show qL 2=115 from rfl];rw[nK,show(if(2:Int)=3 then(nU p.2).2 else if(2:Int)=0 then(sI p.2).2 else p.2)=p.2 from rfl,yF lW] at hstep;rw[hstep];refine aA ?_;refine aY [1,2,3] rfl (by decide) (fun _ h=>h) ?_;refine bL [(15,iv ((i+1:Nat):Int)),(14,iv s.aC.length),(13,.slice L.a4.1 s.aC.length L.a4.2),(5,.bool false),(0,pt f),(1,iv d)] ?_;exact iD (s.aC.length - (i+1)) (by omega) ⟨i+1,false,hlt,rfl,by rw[dW];rfl,rfl,rfl,rfl⟩
   ·rw[show qL 2=115 from rfl];rw[nK,show(if(2:Int)=3 then(nU p.2).2 else if(2:Int)=0 then(sI p.2).2 else p.2)=p.2 from rfl,yF lW] at hstep;rw[hstep];refine aA ?_;refine aY [1,2,3] rfl (by decide) (fun _ h=>h) ?_;refine bL [(15,iv ((i+1:Nat):Int)),(14,iv s.aC.length),(13,.slice L.a4.1 s.aC.length L.a4.2),(5,.bool true),(0,pt f),(1,iv d)] ?_;exact iD (s.aC.length - (i+1)) (by omega) ⟨i+1,true,hlt,rfl,by rw[dW];rfl,rfl,rfl,rfl⟩
   ·rw[show qL 3=100 from rfl];refine aA ?_;refine kd (bN rfl (Rd.eY 2 rfl rfl)) ?_;refine aA ?_;refine xR (α:=Int) 1 (f:=176) (fi:=[]) (ca:=[]) (fun r=>iv r) (fun _=>dU hL s (Aj {x with dv:=jH s x d i} i)) (fun _=>True) (by kernel_rfl) rfl rfl rfl (by decide) (fun w1 F1 t h1 h2 h3=>aEe hL s _ w1 hH aW nW i hlt F1 h1 h2) ?_;rintro _ _;dsimp only[List.set]
    have hX:Aj {x with dv:=jH s x d i} i={x with dv:=jH s x d (i+1)}:=by
     unfold Aj;dsimp only;rw[lW,←hstep,nK];rfl
    rw[hX];refine aA ?_;refine aY [1,2,3] rfl (by decide) (fun _ h=>h) ?_;refine bL [(15,iv ((i+1:Nat):Int)),(14,iv s.aC.length),(13,.slice L.a4.1 s.aC.length L.a4.2),(5,.bool false),(0,pt f),(1,iv d)] ?_;exact iD (s.aC.length - (i+1)) (by omega) ⟨i+1,false,hlt,rfl,by rw[dW];rfl,rfl,rfl,rfl⟩
   ·rw[show qL 3=100 from rfl];refine aA ?_;refine kd (bN rfl (Rd.eY 2 rfl rfl)) ?_;refine aA ?_;refine xR (α:=Int) 1 (f:=176) (fi:=[]) (ca:=[]) (fun r=>iv r) (fun _=>dU hL s (Aj {x with dv:=jH s x d i} i)) (fun _=>True) (by kernel_rfl) rfl rfl rfl (by decide) (fun w1 F1 t h1 h2 h3=>aEe hL s _ w1 hH aW nW i hlt F1 h1 h2) ?_;rintro _ _;dsimp only[List.set]
    have hX:Aj {x with dv:=jH s x d i} i={x with dv:=jH s x d (i+1)}:=by
     unfold Aj;dsimp only;rw[lW,←hstep,nK];rfl
    rw[hX];refine aA ?_;refine aY [1,2,3] rfl (by decide) (fun _ h=>h) ?_;refine bL [(15,iv ((i+1:Nat):Int)),(14,iv s.aC.length),(13,.slice L.a4.1 s.aC.length L.a4.2),(5,.bool false),(0,pt f),(1,iv d)] ?_;exact iD (s.aC.length - (i+1)) (by omega) ⟨i+1,false,hlt,rfl,by rw[dW];rfl,rfl,rfl,rfl⟩
 obtain rfl:i=s.aC.length:=by omega
 rw[←hb0];refine aA ?_;refine aN 1 1 ?_;refine fA 0 (fun L:gI=>iP f hL.h L s z) L ?_;refine aN 0 0 ?_;subst cM;exact cG 0 hF
theorem aRw(hH:s.dI)(aW:iO hL s)(hok:cK s x)(c:Int)(F:Nat→Prop)(hp:(gY f hL s z x).sat F w)(hF:∀b,F b→b < w.heap.size):
  Cz 103 #[pt f,iv c] w (Wr (.bool true) (gY f hL s z {x with ck:=(lE s x.ck c false).2}) w F):=by
 refine dJ func103 ntmps103 hp hF ?_;generalize cM:(⟨w,fun b=>b < w.heap.size∧¬F b⟩:Piece)=R0;refine bF 0 0 ?_;refine mB 0 fun L=>?_;refine bF 1 1 ?_;refine aA ?_;refine kd (bN rfl (Rd.eY 1 rfl rfl)) ?_;refine aA ?_;refine dR 0 (dU hL s {x with ck:=(lE s x.ck c false).2}) (fun w1 F1 t h1 h2 h3=>aI6 hL s x w1 hH aW hok c false F1 h1 h2) ?_;refine aA ?_;refine aN 1 1 ?_;refine fA 0 (fun L:gI=>iP f hL.h L s z) L ?_;refine aN 0 0 ?_;subst cM;exact cG 0 hF
def uJ(s:aD)(x:aP)(d:Int)(keep:Bool):aP×Bool:=
 if rX x.dm d=49 then(if Cy s x d s.aC.length then {x with dv:=jH s x d s.aC.length,dm:=(wA s x.dm d keep).2} else {x with dv:=jH s x d s.aC.length},false)
 else if rX x.dm d=48∨rX x.dm d=116 then(x,true) else(x,false)
theorem aIO(hH:s.dI)(aW:iO hL s)(hok:cK s x)(d:Int)(F:Nat→Prop)(hp:(gY f hL s z x).sat F w)(hF:∀b,F b→b < w.heap.size)(fC:kQ ⟨w,fun b=>b < w.heap.size∧¬F b⟩):
  Cz 101 #[pt f,iv d] w (Wr (.bool (uJ s x d (decide (z.kind=107))).2) (gY f hL s z (uJ s x d (decide (z.kind=107))).1) w F):=by
 refine dJ func101 ntmps101 hp hF ?_;generalize cM:(⟨w,fun b=>b < w.heap.size∧¬F b⟩:Piece)=R0 at fC⊢;refine bF 0 0 ?_;refine mB 0 fun L=>?_;refine bF 1 1 ?_;refine aA ?_;refine kd (bN rfl (Rd.eY 1 rfl rfl)) ?_;refine aA ?_;refine aU (fun w1 t=>aEd hL s x w1 hok.dm d (t.nL 0 rfl aW hok)) ?_;unfold uJ;generalize pH:rX x.dm d=ph
 by_cases xB:ph=49
 ·subst xB;rw[if_pos rfl];refine aN 1 1 ?_;refine fA 0 (fun L:gI=>iP f hL.h L s z) L ?_;refine aN 0 0 ?_;refine aA ?_;refine dR 0 (gY f hL s z {x with dv:=jH s x d s.aC.length}) (fun w1 F1 t h1 h2 h3=>aRu f hL s z x w1 hH aW hok d F1 h1 h2 (kQ.le fC (h3 _ (by simp)))) ?_
  have mR:=aBk hH hok d s.aC.length
  cases hb:Cy s x d s.aC.length
  ·refine aA ?_;subst cM;exact cG 0 hF
  ·refine aA ?_;refine bF 0 0 ?_;refine mB 0 fun L2=>?_;refine bF 1 1 ?_;refine jO [1,2,3,6,7,8,9,10] ?_;refine bT 0 ?_;refine bT 4 ?_;refine bT 5 ?_;refine aJ 1 ?_;refine aJ 2 ?_;refine aJ 3 ?_ (dH:=bN rfl (Rd.eY 1 rfl rfl));refine aJ 6 ?_;refine aJ 7 ?_;refine aJ 8 ?_;refine aJ 9 ?_ (dH:=bN rfl (Rd.eY 1 rfl rfl));refine aJ 10 ?_;refine aL 11 ?_;refine dR 0 (dU hL s {x with dv:=jH s x d s.aC.length,dm:=(wA s x.dm d (decide (z.kind=107))).2}) (fun w1 F1 t h1 h2 h3=>aQx hL s _ w1 hH aW mR d _ F1 h1 h2) ?_;refine cT ?_;refine fE ?_;refine aA ?_;refine aN 1 1 ?_;refine fA 0 (fun L:gI=>iP f hL.h L s z) L2 ?_;refine aN 0 0 ?_;subst cM;exact cG 0 hF
 ·rw[if_neg xB]
  by_cases h48:ph=48
  ·subst h48;rw[if_pos (.inl rfl)];refine aA ?_;refine aN 1 1 ?_;refine fA 0 (fun L:gI=>iP f hL.h L s z) L ?_;refine aN 0 0 ?_;subst cM;exact cG 0 hF
  by_cases Yd:ph=116
  ·subst Yd;rw[if_pos (.inr rfl)];refine aA ?_;refine aN 1 1 ?_;refine fA 0 (fun L:gI=>iP f hL.h L s z) L ?_;refine aN 0 0 ?_;subst cM;exact cG 0 hF
  rw[if_neg (by omega)];refine aA ?_;refine aG rfl (fun h=>absurd h xB) (fun _=>?_);refine aA ?_;refine aG rfl (fun h=>absurd h h48) (fun _=>?_);refine aA ?_;refine aG rfl (fun h=>absurd h Yd) (fun _=>?_);refine aA ?_;refine aN 1 1 ?_;refine fA 0 (fun L:gI=>iP f hL.h L s z) L ?_;refine aN 0 0 ?_;subst cM;exact cG 0 hF
end
section
def Li(s:aD)(i:Int)(k:Nat)(p:cO×dL):cO×dL:=match s.aC[k]? with
 | some d=>if d.reset=i then(Gk d p.1,p.2) else p
 | none=>p
def Iy(s:aD)(dv:List (cO×dL))(i:Int)(n:Nat):List (cO×dL):=dv.mapIdx fun k p=>if k < n then Li s i k p else p
def Lm(s:aD)(x:aP)(i:Int):aP:=if bB x.ln.length i then {x with ln:=(tS s x.ln i).2,dv:=Iy s x.dv i s.aC.length} else x
theorem aJQ{s:aD}{st:List kI}(hH:s.dI)(h:Gq s st)(i:Int):Gq s (tS s st i).2:=by
 unfold tS;split
 ·exact h
 ·refine⟨by simp[h.len],fun y hy=>?_⟩;rcases List.mem_or_eq_of_mem_set hy with hy | rfl
  ·exact h.left y hy
  ·cases hq:s.aR[i.toNat]? with
   | none=>simp
   | some r=>
    have:=hH.aR r (List.mem_of_getElem? hq)
    simpa using this
theorem aSW{d:bO}{f:cO}(hr:∀r∈d.aO,0≤r.reset∧r.reset≤6)(h:zG d f):zG d (Gk d f):=aJt 108 hr h
theorem aJ5{s:aD}{x:aP}(hH:s.dI)(hok:cK s x)(i:Int)(n:Nat):cK s {x with dv:=Iy s x.dv i n}:=Vy hH hok (by simp[Iy]) fun k d p hd hp=>by
 rw[Iy,List.getElem?_mapIdx] at hp;cases hq:x.dv[k]? with
 | none=>rw[hq] at hp;cases hp
 | some q =>
  rw[hq] at hp;obtain⟨h1,h2⟩:=hok.each k d q hd hq;simp only[Option.map_some,Option.some.injEq] at hp;subst hp;split
  ·unfold Li;rw[hd];dsimp only;split
   ·exact⟨aSW (hH.t.aC k d hd).2.2.2.2.2.2.2.2.2.1 h1,h2⟩
   ·exact⟨h1,h2⟩
  ·exact⟨h1,h2⟩
theorem aT3{s:aD}{x:aP}(hH:s.dI)(hok:cK s x)(i:Int):cK s (Lm s x i):=by
 unfold Lm;split
 ·have h:=aJ5 hH hok i s.aC.length
  exact⟨hok.ck,hok.dm,aJQ hH hok.ln i,h.dv,h.each,hok.wt⟩
 ·exact hok
section
variable(L:HL)(s:aD)(x:aP)(w:World)
theorem aQz(hH:s.dI)(aW:iO L s)(hok:cK s x)(i:Int)(F:Nat→Prop)(hp:(dU L s x).sat F w)(hF:∀b,F b→b < w.heap.size):
  Cz 183 #[.pointer (some ⟨L.h,0,none⟩),iv i] w (Wr (iv (tS s x.ln i).1) (dU L s (Lm s x i)) w F):=by
 have lX:=hH.t.nv
 have hls:=aW.ds
 refine dJ func183 ntmps183 hp hF ?_;generalize cM:(⟨w,fun b=>b < w.heap.size∧¬F b⟩:Piece)=R0;refine aA ?_;refine aU (fun w1 t=>Dj L s x w1 (t.nL 0 rfl aW hok)) ?_;refine aA ?_;refine kd (bN rfl (rO 0 rfl rfl)) ?_;refine aA ?_;refine bF 0 3 ?_;refine dR 0 (qX L.R s (tS s x.ln i).2) (fun w1 F1 t h1 h2 h3=>aMO L.R s x.ln hok.ln i w1 F1 h1 h2) ?_;refine aN 0 3 ?_;unfold Lm;cases hin:bB x.ln.length i
 ·have e:tS s x.ln i=(4,x.ln):=by
   unfold tS;rw[if_pos hin]
  rw[e];refine aA ?_;subst cM;exact cG 0 hF
 ·have e1:(tS s x.ln i).1=0:=by
   unfold tS;rw[if_neg (by simp[hin])]
  rw[e1,if_pos rfl]
  have mR:cK s {x with ln:=(tS s x.ln i).2}:=⟨hok.ck,hok.dm,aJQ hH hok.ln i,hok.dv,hok.each,hok.wt⟩
  generalize Hw:(tS s x.ln i).2=ln2 at mR⊢
  change XK _ _ _ _ _ [dU L s {x with ln:=ln2}]
  have iY:=hok.dv
  refine aA ?_;refine kd (bN rfl (rO 0 rfl rfl)) ?_;refine aA ?_
  have hm0:Iy s x.dv i 0=x.dv:=Qr _ _
  refine bL [(25,iv 0),(24,iv s.aC.length),(23,.slice L.A s.aC.length L.c),(1,iv i)] ?_;refine eJ (fun m e R H=>∃k:Nat,k≤s.aC.length∧m=s.aC.length - k∧e=[(25,iv k),(24,iv s.aC.length),(23,.slice L.A s.aC.length L.c),(1,iv i)]∧R=[R0]∧H=[dU L s {x with ln:=ln2,dv:=Iy s x.dv i k}]) s.aC.length ⟨0,by omega,rfl,rfl,rfl,by rw[hm0]⟩ fun m e R H hI=>?_;obtain⟨k,hk,rfl,rfl,rfl,rfl⟩:=hI
  have nW:=aJ5 hH mR i k
  dsimp only at nW;refine aA ?_;refine aG rfl (fun hlt=>?_) (fun hge=>?_)
  ·have hlt:k < s.aC.length:=by omega
   obtain⟨d,dF⟩:=get_some hlt;obtain⟨l,iT⟩:=get_some (l:=L.ds) (i:=k) (by omega);obtain⟨p,gM⟩:=get_some (l:=x.dv) (i:=k) (by omega)
   have lW:(Iy s x.dv i k)[k]? =some p:=Qt gM
   have hstep:(Iy s x.dv i k).set k (Li s i k p)=Iy s x.dv i (k+1):=Qs (f:=Li s i) gM
   have hfo:=(nW.each k d p dF lW).1
   refine Oq 0 rfl aW nW (by omega) fun b off hA=>?_;refine aA ?_;refine kd (dat k (off+k*6) (hx:=by rw[←hA];rfl)) ?_;refine kd (pM rfl (aQ.dev 0 rfl aW nW hA dF iT rfl)) ?_;refine bX fun g2=>?_;refine aA ?_;refine aG rfl (fun he=>?_) (fun he=>?_)
   ·have nK:Li s i k p=(Gk d p.1,p.2):=by
     unfold Li;rw[dF];exact if_pos he
    refine aA ?_;refine Tj 1 k rfl dF iT lW ?_;dsimp only[List.set];refine bF 0 0 ?_;refine dR 0 (iF l.1 d (Gk d p.1)) (fun w1 F1 t h1 h2 h3=>aAM l.1 d p.1 (by have:=(hH.t.aC k d dF).2.2.2.2.2.2.2.2.1;omega) hfo w1 F1 h1 h2) ?_;refine aN 0 0 ?_;refine Tt 1 k rfl dF iT lW (p':=(Gk d p.1,p.2)) ?_;dsimp only[List.set];rw[←nK,hstep];refine aA ?_;refine aY [1] rfl (by decide) (fun _ h=>h) ?_;exact dZ (s.aC.length - (k+1)) ⟨k+1,hlt,rfl,rfl,rfl,rfl⟩
   ·have nK:Li s i k p=p:=by
     unfold Li;rw[dF];exact if_neg he
    rw[nK,yF lW] at hstep;rw[hstep];refine aA ?_;refine aY [1] rfl (by decide) (fun _ h=>h) ?_;exact dZ (s.aC.length - (k+1)) ⟨k+1,hlt,rfl,rfl,rfl,rfl⟩
  obtain rfl:k=s.aC.length:=by omega
  refine aA ?_;subst cM;exact cG 0 hF
end
theorem aRx(f:Nat)(hL:HL)(s:aD)(z:bZ)(x:aP)(w:World)(hH:s.dI)(aW:iO hL s)(hok:cK s x)(c:Int)(F:Nat→Prop)(hp:(gY f hL s z x).sat F w)(hF:∀b,F b→b < w.heap.size):
  Cz 105 #[pt f,iv c] w (Wr (.bool true) (gY f hL s z (Lm s x c)) w F):=by
 refine dJ func105 ntmps105 hp hF ?_;generalize cM:(⟨w,fun b=>b < w.heap.size∧¬F b⟩:Piece)=R0;refine bF 0 0 ?_;refine mB 0 fun L=>?_;refine bF 1 1 ?_;refine aA ?_;refine kd (bN rfl (Rd.eY 1 rfl rfl)) ?_;refine aA ?_;refine dR 0 (dU hL s (Lm s x c)) (fun w1 F1 t h1 h2 h3=>aQz hL s x w1 hH aW hok c F1 h1 h2) ?_;refine aA ?_;refine aN 1 1 ?_;refine fA 0 (fun L:gI=>iP f hL.h L s z) L ?_;refine aN 0 0 ?_;subst cM;exact cG 0 hF
end
section
def nP(s:aD)(x:aP)(k id:Int):aP×Bool:=if k=117 then Fh s x id else if k=99 then Lj s x id.toNat else if k=114 then He x id else if k=100∨k=107 then uJ s x id (decide (k=107)) else if k=111 then({x with ck:=(lE s x.ck id false).2},true) else if k=97 then(Lm s x id,true) else(x,false)
structure Ee(s:aD)(k id:Int):Prop where
 kd:k=117∨k=99∨k=114∨k=100∨k=107∨k=111∨k=97
 c:k=99→0≤id∧id < (s.aF.length:Int)
theorem aGZ{s:aD}{st:List kI}(h:Gq s st)(i:Int):Gq s (vL st i).2:=by
 unfold vL;split
 ·exact h
 ·split
  ·rename_i x hx
   split
   ·exact h
   ·refine⟨by simp[h.len],fun y hy=>?_⟩;rcases List.mem_or_eq_of_mem_set hy with hy | rfl
    ·exact h.left y hy
    ·exact h.left x (List.mem_of_getElem? hx)
  ·exact h
theorem aRU{s:aD}{st:List fF}(h:vE s st)(d:Int)(keep:Bool):vE s (wA s st d keep).2:=by
 unfold wA;split
 ·exact h
 ·split
  ·rename_i c y hc hy
   split
   ·exact h
   ·split
    ·exact h
    ·split
     ·exact h
     ·refine⟨by simp[h.len],fun z hz=>?_,fun z hz=>?_⟩
      ·rcases List.mem_or_eq_of_mem_set hz with hz | rfl
       ·exact h.left z hz
       ·exact h.left y (List.mem_of_getElem? hy)
      ·rcases List.mem_or_eq_of_mem_set hz with hz | rfl
       ·exact h.phase z hz
       ·exact⟨by show(0:Int)≤99;omega,by show(99:Int) < 256;omega⟩
  ·exact h
theorem aOc{s:aD}{x:aP}(hH:s.dI)(hok:cK s x)(d:Int)(keep:Bool):cK s (uJ s x d keep).1:=by
 have h1:=aBk hH hok d s.aC.length
 unfold uJ;split
 ·dsimp only;split
  ·exact⟨hok.ck,aRU hok.dm _ _,hok.ln,h1.dv,h1.each,hok.wt⟩
  ·exact h1
 ·split
  ·exact hok
  ·exact hok
theorem aEY{s:aD}{x:aP}(hH:s.dI)(hok:cK s x)(k id:Int):cK s (nP s x k id).1:=by
 unfold nP;split
 ·unfold Fh;split
  ·exact⟨hok.ck,aGh hH hok.dm _,hok.ln,hok.dv,hok.each,hok.wt⟩
  ·split
   ·exact aD8 hH hok _ _
   ·exact hok
 ·split
  ·exact⟨Vx hH hok.ck _ _,hok.dm,hok.ln,hok.dv,hok.each,hok.wt⟩
  ·split
   ·unfold He;split
    ·exact⟨hok.ck,hok.dm,aGZ hok.ln _,hok.dv,hok.each,hok.wt⟩
    ·exact hok
   ·split
    ·exact aOc hH hok _ _
    ·split
     ·exact⟨Vx hH hok.ck _ _,hok.dm,hok.ln,hok.dv,hok.each,hok.wt⟩
     ·split
      ·exact aT3 hH hok _
      ·exact hok
section
variable(f:Nat)(hL:HL)(s:aD)(z:bZ)(x:aP)(w:World)
theorem aKc(hH:s.dI)(aW:iO hL s)(hok:cK s x)(hk:Ee s z.kind z.id):aFC f hL s z x (nP s x z.kind z.id):=by
 have mR:=aEY hH hok z.kind z.id
 rcases hk.kd with h | h | h | h | h | h | h
 ·refine⟨_,by rw[h];rfl,(by kernel_rfl),mR,fun w F hp hF fC=>?_⟩;rw[h];exact aRr f hL s z x w hH aW hok z.id F hp hF fC
 ·refine⟨_,by rw[h];rfl,(by kernel_rfl),mR,fun w F hp hF fC=>?_⟩;obtain⟨h0,h1⟩:=hk.c h;obtain⟨c,hc⟩:∃c:Nat,z.id=c:=⟨z.id.toNat,by omega⟩
  rw[h,hc];exact aRv f hL s z x w hH aW hok c (by omega) F hp hF
 ·refine⟨_,by rw[h];rfl,(by kernel_rfl),mR,fun w F hp hF fC=>?_⟩;rw[h];exact aRq f hL s z x w hH aW hok z.id F hp hF
 ·refine⟨_,by rw[h];rfl,(by kernel_rfl),mR,fun w F hp hF fC=>?_⟩
  have:=aIO f hL s z x w hH aW hok z.id F hp hF fC
  rw[h] at this⊢;exact this
 ·refine⟨_,by rw[h];rfl,(by kernel_rfl),mR,fun w F hp hF fC=>?_⟩
  have:=aIO f hL s z x w hH aW hok z.id F hp hF fC
  rw[h] at this⊢;exact this
 ·refine⟨_,by rw[h];rfl,(by kernel_rfl),mR,fun w F hp hF fC=>?_⟩;rw[h];exact aRw f hL s z x w hH aW hok z.id F hp hF
 ·refine⟨_,by rw[h];rfl,(by kernel_rfl),mR,fun w F hp hF fC=>?_⟩;rw[h];exact aRx f hL s z x w hH aW hok z.id F hp hF
theorem aRl(z0:bZ)(hH:s.dI)(aW:iO hL s)(hok:cK s x)(hz:Eg s z0)(fK:z0.at_ < 0)(mQ:mV s x z0=(z,true))(hst:∀a,sW z0=some a→(gE s x z0 a).2.1=0→(gE s x z0 a).1=0→tW (kY z0 a))(a:Nat)(ha:z.at_=(a:Int))(vY:a < 2)(r:aP×Bool)(hact:aFC f hL s z x r)(Fp:tW (kY z a))(F:Nat→Prop)(hp:(gY f hL s z0 x).sat F w)(hF:∀b,F b→b < w.heap.size)(fC:kQ ⟨w,fun b=>b < w.heap.size∧¬F b⟩):
  Cz 20 #[pt f] w (Wr (.tuple #[]) (gY f hL s (xD s z r) r.1) w F):=by
 obtain⟨fn,dH,hcb,Ww,Be⟩:=hact;refine aAc (vs:=[pt f]) (p:=gY f hL s z0 x) func20 rfl ntmps20 (by simp) hp hF ?_;generalize cM:(⟨w,fun b=>b < w.heap.size∧¬F b⟩:Piece)=R0 at fC⊢;refine aA ?_;refine Uj (f:=49) (fi:=[]) (ca:=[]) rfl ?_;refine aA ?_;refine kd (bN rfl (Jj 0 rfl fun _=>rfl)) ?_;refine aA ?_;refine bQ (t:=8) rfl (fun _=>?_) (fun h=>absurd fK h);refine aA ?_
 refine dR 0 (gY f hL s z x) (fun w1 F1 t h1 h2 h3=>by
  have:=aIM f hL s z0 x hH aW hok hz hst w1 F1 h1 h2
  rw[mQ] at this
  exact this) ?_
 refine aA ?_;refine jO [1,2,3,4,8,9,10,11] ?_;refine bT 0 ?_ (hQ:=fun _ _ _ h=>mW rfl h);refine bT 6 ?_ (hQ:=fun _ _ _ h=>mW rfl h);refine bT 7 ?_ (hQ:=fun _ _ _ h=>mW rfl h);refine aJ 1 ?_ (hQ:=fun _ _ _ h=>mW rfl h);refine aJ 2 ?_ (hQ:=fun _ _ _ h=>mW rfl h);refine aJ 3 ?_ (hQ:=fun _ _ _ h=>mW rfl h);refine aJ 4 ?_ (hQ:=fun _ _ _ h=>mW rfl h) (dH:=bN rfl (Jj 0 rfl fun _=>rfl));refine aJ 8 ?_ (hQ:=fun _ _ _ h=>mW rfl h);refine aJ 9 ?_ (hQ:=fun _ _ _ h=>mW rfl h);refine aJ 10 ?_ (hQ:=fun _ _ _ h=>mW rfl h);refine aJ 11 ?_ (hQ:=fun _ _ _ h=>mW rfl h) (dH:=bN rfl (Jj 0 rfl fun _=>rfl));refine aL 5 ?_;refine aU (fun w1 t=>aJj z.kind w1) ?_;rw[dH];refine bH ?_;refine aL 12 ?_;refine aBf 0 (fi:=[]) (ca:=[]) (gY f hL s z r.1) (fun w1 F1 t h1 h2 h3=>by simpa using Be w1 F1 h1 h2 (kQ.le fC (h3 _ (by simp)))) ?_ (hf:=hcb);dsimp only[List.set];refine cT ?_;refine fE ?_;refine aA ?_;obtain⟨x',b⟩:=r;dsimp only at Ww⊢;cases b
 ·refine aA ?_;subst cM;exact Br (.inr rfl) (by kernel_rfl) Yj rfl fun w1 t=>⟨rfl,t.turns hF (by simp) (i:=0) rfl⟩
 ·refine aA ?_;refine kd (bN rfl (Jj 0 rfl fun _=>rfl)) ?_;refine aA ?_;refine bF 0 0 ?_;refine mB 0 fun L=>?_;refine bF 0 0 ?_;refine fD rfl rfl ?_ (hs:=eN.mk 0 rfl cI.h rfl (by simp[jY]));dsimp only[List.set];rw[show(jY hL.h L s z).set (0+16) (iv (-1))=jY hL.h L s {z with at_:= -1} from rfl];refine aN 0 0 ?_;refine fA 0 (fun L:gI=>iP f hL.h L s {z with at_:= -1}) L ?_;refine aN 0 0 ?_;refine aA ?_;rw[ha];refine dR 0 (gY f hL s (wU s x' {z with at_:= -1} a 0) x') (fun w1 F1 t h1 h2 h3=>aEu f hL s {z with at_:= -1} x' hH aW Ww a vY 0 (fun _=>Fp) w1 F1 h1 h2) ?_;refine aA ?_
  have hend:xD s z (x',true)=wU s x' {z with at_:= -1} a 0:=by
   unfold xD;rw[if_pos rfl,ha];rfl
  rw[hend];subst cM;exact Br (.inr rfl) (by kernel_rfl) Yj rfl fun w1 t=>⟨rfl,t.turns hF (by simp) (i:=0) rfl⟩
def lD(s:aD)(x:aP)(z:bZ):bZ×aP:=
 let t:=mV s x z
 let z1:=if z.at_ < 0 then t.1 else z
 if z.at_ < 0∧t.2=false then(t.1,x) else(xD s z1 (nP s x z1.kind z1.id),(nP s x z1.kind z1.id).1)
structure aCo(s:aD)(x:aP)(z:bZ):Prop where
 hok:cK s x
 fm:Eg s z
 at_:z.at_ < 0∨(∃a:Nat,z.at_=(a:Int)∧a < 2∧Ee s z.kind z.id∧tW (kY z a))
 ask:z.at_ < 0→∀a,sW z=some a→(gE s x z a).2.1=0→(gE s x z a).1=0→tW (kY z a)
 new:z.at_ < 0→∀a,sW z=some a→(gE s x z a).2.1≠0→Ee s (gE s x z a).2.1 (gE s x z a).2.2∧tW (kY z a)
theorem aH3{z:bZ}{a:Nat}(h:z.last=0∨z.last=1)(hn:sW z=some a):a < 2:=by
 unfold sW at hn;split at hn
 ·cases hn;omega
 ·split at hn
  ·cases hn;omega
  ·cases hn
theorem aRm(hH:s.dI)(aW:iO hL s)(h:aCo s x z)(F:Nat→Prop)(hp:(gY f hL s z x).sat F w)(hF:∀b,F b→b < w.heap.size)(fC:kQ ⟨w,fun b=>b < w.heap.size∧¬F b⟩):
  Cz 20 #[pt f] w (Wr (.tuple #[]) (gY f hL s (lD s x z).1 (lD s x z).2) w F):=by
 unfold lD;dsimp only
 by_cases fK:z.at_ < 0
 ·cases mQ:(mV s x z).2
  ·rw[if_pos ⟨fK,rfl⟩];exact aRo f hL s z x hH aW h.hok h.fm (h.ask fK) fK mQ w F hp hF
  ·rw[if_neg (by simp),if_pos fK]
   have mP:mV s x z=((mV s x z).1,true):=Prod.ext rfl mQ
   have aQ9:∃a,sW z=some a∧(gE s x z a).2.1≠0∧(mV s x z).1=(wS s x z a).1:=by
    unfold mV at mQ⊢;cases hn:sW z with
    | none=>rw[hn] at mQ;cases mQ
    | some a=>
     rw[hn] at mQ;refine⟨a,rfl,fun h0=>?_,rfl⟩;unfold wS at mQ;dsimp only at mQ;rw[if_pos h0] at mQ;cases mQ
   obtain⟨a,hn,hd,he⟩:=aQ9
   have ha:=aH3 h.fm.la hn
   obtain⟨hk,Fp⟩:=h.new fK a hn hd
   have e:(wS s x z a).1={z with last:=a,x:=jZ z.x a (gE s x z a).2.1 (gE s x z a).2.2,y:=mS z.y a (gE s x z a).2.1 (gE s x z a).2.2,at_:=a,kind:=(gE s x z a).2.1,id:=(gE s x z a).2.2}:=by
    unfold wS;dsimp only;rw[if_neg hd]
   rw[e] at he
   have hb:kY (mV s x z).1 a=kY z a:=by rw[he];rfl
   have h1:(mV s x z).1.at_=(a:Int):=by rw[he]
   have h2:(mV s x z).1.kind=(gE s x z a).2.1:=by rw[he]
   have h3:(mV s x z).1.id=(gE s x z a).2.2:=by rw[he]
   exact aRl f hL s (mV s x z).1 x w z hH aW h.hok h.fm fK mP (h.ask fK) a h1 ha _ (aKc f hL s (mV s x z).1 x hH aW h.hok (by rw[h2,h3];exact hk)) (by rw[hb];exact Fp) F hp hF fC
 ·rw[if_neg (fun hh=>fK hh.1),if_neg fK];rcases h.at_ with h1 | ⟨a,ha,vY,hk,Fp⟩
  ·exact absurd h1 fK
  ·exact aRn f hL s z x w hH aW h.hok h.fm a ha vY _ (aKc f hL s z x hH aW h.hok hk) Fp F hp hF fC
end
end
section
def Tw(s:aD):Nat→bZ→aP→List Int→bZ→aP→Prop
 | 0,_,_,_,_,_=>False
 | n + 1, z, x, a, z', x' => aCo s x z ∧ ((oZ (lD s x z).1 0 = some a ∧ z' = oY (lD s x z).1 0 ∧ x' = (lD s x z).2) ∨
   (oZ (lD s x z).1 0=none∧cK s (lD s x z).2∧(∀i,iQ (lD s x z).2.wt i=0)∧Tw s n (oY (lD s x z).1 0) (iL s (lD s x z).2 0) a z' x'))
theorem aMi(A:Option Addr)(n c:Nat)(l:List Int)(st:Int)(w:World)(hs:aI (all w) 1 A n (rA l))(hn:n=l.length)(h2:2≤n)(h1:l[1]? =some st):
  Cz 96 #[.slice A n c] w (Rt (.tuple #[.int .i32 (IntKind.i32.wrap st),iv 0]) w):=by
 subst hn;obtain⟨b,off,rfl,hr⟩:=aI.u32 hs (by omega)
 have k1:=hr 1 st h1
 refine aM func96 ntmps96 ?_;refine aA ?_;refine aG rfl (fun h=>absurd h (by omega)) (fun _=>?_);refine aA ?_;refine kd (dat 1 (off+1)) ?_;refine aA ?_;refine kd (Lg (ds:=.int .u32) (kd:=.i32) (c:=IntKind.i32.wrap st) (by kernel_rfl) (by kernel_rfl) rfl rfl) ?_;refine aA ?_;exact eL rfl rfl rfl fun w1 t=>⟨rfl,t.below (by simp)⟩
end
section
structure Inv(s:aD)(X:bM)(bd bc bl:Option Nat)(x:aP):Prop where
 ok:cK s x
 wt:∀i,iQ x.wt i=0
 of:X.of s
 dom:∀i m,x.dm[i]? =some m→bd≠some i→(hasB X.d i=true→m.phase=49)∧(hasB X.d i=false→m.phase=48∨m.phase=116)
 jM:∀i c y,s.aF[i]? =some c→x.ck[i]? =some y→hasB X.c i=true→bc≠some i→y.on=true∧(c.kind=112→y.left=0)
 sG:∀i,hasB X.c i=true→∀j∈fU s i,rB s j→hasB X.c j=true
 zX:∀c,bc=some c→∀i,hasB X.c i=true→i≠c→c∉fU s i
 tK:∀i y,x.ln[i]? =some y→hasB X.l i=true→bl≠some i→y.held=false
 rF:∀(i:Nat) (p:cO×dL) (d:bO),x.dv[i]? =some p→s.aC[i]? =some d→(p.2.at_=0∨p.2.at_=2∨p.2.at_=1∧bd=some d.domain.toNat)∧(hasB X.d d.domain.toNat=true→bd≠some d.domain.toNat→p.2.at_=0)
theorem aGm{m:fF}(h:m.phase=49∨m.phase=48∨m.phase=116):(fV m).2=m:=by
 unfold fV;rw[if_neg (by omega),if_neg (by omega),if_neg (by omega)]
theorem aJE(s:aD):∀(k c:Nat),∀j∈lK s k c,j < s.aF.length
 | 0,c,j,h=>by simp[lK] at h
 | k + 1, c, j, h => by
  unfold lK at h;cases hc:s.aF[c]? with
  | none=>rw[hc] at h;simp at h
  | some x =>
   rw[hc] at h;dsimp only at h;rcases List.mem_cons.1 h with rfl | h
   ·exact(List.getElem?_eq_some_iff.1 hc).1
   ·cases hs:x.src with
    | nil=>rw[hs] at h;simp at h
    | cons f fs=>rw[hs] at h;exact aJE s k _ j h
theorem aBH{s:aD}{i j:Nat}(h:j∈fU s i):j < s.aF.length:=aJE s _ _ j h
theorem Kc{s:aD}{i:Nat}{c:eF}(h:s.aF[i]? =some c):kindOf s i=c.kind:=by
 unfold kindOf;rw[h];rfl
section
variable{s:aD}{X:bM}{bd bc bl:Option Nat}{x:aP}
theorem Inv.up(h:Inv s X bd bc bl x){i j:Nat}(hi:hasB X.c i=true)(hj:j∈fU s i)(hb:bc≠some j):Py s x.ck j=true:=by
 have hlt:=aBH hj
 obtain⟨c,hc⟩:=get_some hlt;obtain⟨y,hy⟩:=get_some (l:=x.ck) (i:=j) (by have:=h.ok.ck.len;omega);unfold Py;rw[hc,hy];dsimp only;unfold rT
 by_cases h1:c.kind=112
 ·rw[if_pos h1];obtain⟨h2,h3⟩:=h.jM j c y hc hy (h.sG i hi j hj (.inl (by rw[Kc hc];exact h1))) hb;rw[h2,h3 h1];rfl
 ·rw[if_neg h1]
  by_cases h4:c.kind=103
  ·rw[if_pos h4];exact(h.jM j c y hc hy (h.sG i hi j hj (.inr (by rw[Kc hc];exact h4))) hb).1
  ·rw[if_neg h4]
theorem Inv.src(hm:s.made)(h:Inv s X bd bc bl x){i f:Nat}{c:eF}{fs:List Int}(hc:s.aF[i]? =some c)(hs:c.src=(f:Int)::fs)(hi:hasB X.c i=true)(hb:∀j,bc=some j→j∉fU s f):runs s x.ck f=true:=by
 have jT:=Zh hm.aF hc
 rw[hs] at jT;dsimp only at jT;unfold runs;rw[List.all_eq_true];intro j hj;refine h.up hi (j:=j) (by rw[jT];exact List.mem_cons_of_mem _ (by simpa using hj)) fun hbj=>hb j hbj hj
theorem aGv(hm:s.made){i:Nat}{c:eF}(hc:s.aF[i]? =some c)(lU:rB s i):∃(f:Nat) (fs:List Int),c.src=(f:Int)::fs∧f < i:=by
 have hfit:=hm.aF i c hc
 have hk:=Kc hc
 unfold rB at lU;rw[hk] at lU;obtain⟨h1,h2⟩:=hfit;cases hs:c.src with
 | nil=>
  exfalso;rw[hs] at h2;simp at h2;omega
 | cons f fs=>
  have:=h1 f (by rw[hs];simp)
  exact⟨f.toNat,fs,by rw[Int.toNat_of_nonneg this.1],by omega⟩
theorem Inv.aOJ(hm:s.made)(h:Inv s X bd bc bl x){i f:Nat}{c:eF}{fs:List Int}(hc:s.aF[i]? =some c)(hs:c.src=(f:Int)::fs)(hf:f < i)(hi:hasB X.c i=true):∀j,bc=some j→j∉fU s f:=fun j hj hmem=>by
 have hle:=aBI hm hmem
 have jT:=Zh hm.aF hc
 rw[hs] at jT;dsimp only at jT;refine h.zX j hj i hi (by omega) ?_;rw[jT];exact List.mem_cons_of_mem _ (by simpa using hmem)
theorem aOS{cZ:Int}{n i:Nat}{p':cO×dL}(h:(zZ x cZ n)[i]? =some p'):∃p,x.dv[i]? =some p∧(p.2.at_≠1→p'.2=p.2)∧(i < n→p'.2=uG p.2 (decide (0 < iQ x.wt i)) (Is cZ i)):=by
 rw[zZ,List.getElem?_mapIdx] at h;cases hq:x.dv[i]? with
 | none=>rw[hq] at h;cases h
 | some q =>
  rw[hq] at h;simp only[Option.map_some,Option.some.injEq] at h;refine⟨q,rfl,fun h0=>?_,fun h0=>?_⟩
  ·subst h;split
   ·unfold uG;rw[if_pos h0]
   ·rfl
  ·subst h;rw[if_pos h0]
theorem aRQ{dv:List (cO×dL)}{e:Int×Nat}{i:Nat}{p':cO×dL}(h:(tA s dv e)[i]? =some p'):∃p,dv[i]? =some p∧p'.2=p.2:=by
 rw[tA,Cw,List.getElem?_mapIdx] at h;cases hq:dv[i]? with
 | none=>rw[hq] at h;cases h
 | some q =>
  rw[hq] at h;simp only[Option.map_some,Option.some.injEq] at h;refine⟨q,rfl,?_⟩;subst h;split
  ·unfold Gi;split
   ·split<;>rfl
   ·rfl
  ·rfl
theorem aIK:∀(es:List (Int×Nat)) (dv:List (cO×dL)) (i:Nat) (p':cO×dL),(es.foldl (tA s) dv)[i]? =some p'→∃p,dv[i]? =some p∧p'.2=p.2
 | [],_,_,p',h=>⟨p',h,rfl⟩
 | e::es,dv,i,p',h=>by
  obtain⟨p1,h1,h2⟩:=aIK es _ i p' h;obtain⟨p,h3,h4⟩:=aRQ h1;exact⟨p,h3,h2.trans h4⟩
theorem aA8{cZ:Int}{i:Nat}{p':cO×dL}(h:(iL s x cZ).dv[i]? =some p'):∃p,x.dv[i]? =some p∧(p.2.at_≠1→p'.2=p.2)∧(i < s.aC.length→p'.2=uG p.2 (decide (0 < iQ x.wt i)) (Is cZ i)):=by
 obtain⟨p1,h1,h2⟩:=aIK _ _ i p' h;obtain⟨p,h3,h4,h5⟩:=aOS h1;exact⟨p,h3,fun h0=>h2.trans (h4 h0),fun h0=>h2.trans (h5 h0)⟩
theorem aS1(i:Nat):Is 0 i=false:=by
 unfold Is;simp;decide+kernel
theorem aGk(lG:∀i,iQ x.wt i=0){i:Nat}{p':cO×dL}(hi:i < s.aC.length)(h:(iL s x 0).dv[i]? =some p'):∃p,x.dv[i]? =some p∧(p.2.at_≠1→p'.2=p.2)∧(p.2.at_=1→p'.2.at_=2):=by
 obtain⟨p,h1,h2,h3⟩:=aA8 h;refine⟨p,h1,h2,fun h0=>?_⟩;rw[h3 hi,lG,aS1];unfold uG;rw[if_neg (by omega),if_neg (by simp),if_neg (by simp)]
theorem aLW{st:List eP}{i:Nat}{c:eF}{y:eP}(hc:s.aF[i]? =some c)(hy:st[i]? =some y):(lS s st)[i]? =some (vJ s st c y):=by
 rw[lS,List.getElem?_zipWith,hc,hy]
theorem aLV{st:List eP}{i:Nat}{c:eF}{y':eP}(hc:s.aF[i]? =some c)(hy:(lS s st)[i]? =some y'):∃y,st[i]? =some y∧y'=vJ s st c y:=by
 rw[lS,List.getElem?_zipWith,hc] at hy;cases hq:st[i]? with
 | none=>rw[hq] at hy;cases hy
 | some y=>rw[hq] at hy;cases hy;exact⟨y,rfl,rfl⟩
theorem Inv.tick(hm:s.made)(h:Inv s X bd bc bl x):Inv s X bd bc bl (iL s x 0):=by
 refine⟨aGl hm.dI h.ok 0,h.wt,h.of,fun i m hi hb=>?_,fun i c y hc hy hi hb=>?_,h.sG,h.zX,fun i y hy hi hb=>?_,fun i p d hp hd=>?_⟩
 ·simp only[iL,oU,List.getElem?_map] at hi;cases hq:x.dm[i]? with
  | none=>rw[hq] at hi;cases hi
  | some m0 =>
   rw[hq] at hi;simp only[Option.map_some,Option.some.injEq] at hi;obtain⟨h1,h2⟩:=h.dom i m0 hq hb
   have hr:m0.phase=49∨m0.phase=48∨m0.phase=116:=by
    cases hX:hasB X.d i
    ·exact .inr (h2 hX)
    ·exact .inl (h1 hX)
   rw[aGm hr] at hi;subst hi;exact⟨h1,h2⟩
 ·obtain⟨y0,hy0,rfl⟩:=aLV hc hy;obtain⟨h1,h2⟩:=h.jM i c y0 hc hy0 hi hb;unfold vJ
  by_cases hk:c.kind=112
  ·obtain⟨f,fs,hs,hf⟩:=aGv hm hc (.inl (by rw[Kc hc];exact hk))
   have hr:=h.src hm hc hs hi (h.aOJ hm hc hs hf hi)
   have pV:Qf c=f:=by
    unfold Qf;rw[hs];simp
   rw[if_pos ⟨hk,h1⟩,pV,hr,if_neg (by simp),if_neg (by have:=h2 hk;omega)];exact⟨h1,h2⟩
  ·rw[if_neg (by simp[hk])];exact⟨h1,h2⟩
 ·simp only[iL,Et,List.getElem?_map] at hy;cases hq:x.ln[i]? with
  | none=>rw[hq] at hy;cases hy
  | some y0=>
   rw[hq] at hy;simp only[Option.map_some,Option.some.injEq] at hy
   have h1:=h.tK i y0 hq hi hb
   subst hy;unfold lR;rw[if_pos h1];exact h1
 ·obtain⟨p0,h0,h1,h1'⟩:=aGk h.wt (List.getElem?_eq_some_iff.1 hd).1 hp;obtain⟨h2,h3⟩:=h.rF i p0 d h0 hd
  by_cases h4:p0.2.at_=1
  ·refine⟨.inr (.inl (h1' h4)),fun h5 h6=>?_⟩
   have:=h3 h5 h6
   omega
  ·rw[h1 h4];exact⟨h2,h3⟩
end
end
section
def vG(s:aD)(X:bM)(m:List Int)(k id:Int):bZ:=⟨X,dQ s,1,0,m,[],0,0,k,id⟩
def rQ(s:aD)(X:bM)(l k id:Int):bZ:=⟨X,dQ s,0,0,[],[],l,-1,k,id⟩
structure Plain(m:List Int):Prop where
 u:wG m
 n:m.length≤1000000
 rep:tW m
 more:∀(s:aD) (x:aP),Dx s x m 0=[m.headD 0,IntKind.u32.wrap 0]
section
variable{s:aD}{X:bM}{x:aP}{m:List Int}{k id:Int}
theorem aFG(hm:s.made)(hX:X.of s)(hp:Plain m):Eg s (vG s X m k id):=by
 have h1:=hm.nc
 have h2:=hm.nd
 have h3:=hm.nr
 refine⟨.inl rfl,hp.u,by simp[vG,wG],hp.n,by simp[vG],⟨?_,?_,?_⟩,aC2 hm.wX⟩
 ·show X.d.length≤_
  rw[hX.d];omega
 ·show X.c.length≤_
  rw[hX.c];omega
 ·show X.l.length≤_
  rw[hX.l];omega
theorem aFF(hm:s.made)(hX:X.of s)(hp:Plain m)(hok:cK s x)(hk:Ee s k id):aCo s x (vG s X m k id):=
 ⟨hok,aFG hm hX hp,.inr ⟨0,rfl,by omega,hk,hp.rep⟩,fun h=>absurd h (by show ¬(0:Int) < 0;decide),fun h=>absurd h (by show ¬(0:Int) < 0;decide)⟩
theorem aCQ:lD s x (vG s X m k id)=(xD s (vG s X m k id) (nP s x k id),(nP s x k id).1):=by
 unfold lD;dsimp only;rw[if_neg (by rintro⟨h,_⟩;exact absurd h (by show ¬(0:Int) < 0;decide)),if_neg (by show ¬(0:Int) < 0;decide)];rfl
end
def xN(s:aD)(k id:Int):Nat→aP→aP→Prop
 | 0,_,_=>False
 | n+1,x,x'=>cK s x∧(nP s x k id=(x',true)∨∃x1,nP s x k id=(x1,false)∧cK s x1∧(∀i,iQ x1.wt i=0)∧xN s k id n (iL s x1 0) x')
theorem aAE{s:aD}{x x':aP}{k id:Int}{n:Nat}(hok:cK s x)(hr:nP s x k id=(x',true)):xN s k id (n+1) x x':=⟨hok,.inl hr⟩
theorem aAD{s:aD}{x x1 x':aP}{k id:Int}{n:Nat}(hok:cK s x)(hr:nP s x k id=(x1,false))(Ni:cK s x1)(lG:∀i,iQ x1.wt i=0)(h:xN s k id n (iL s x1 0) x'):xN s k id (n+1) x x':=⟨hok,.inr ⟨x1,hr,Ni,lG,h⟩⟩
theorem aGz{s:aD}{X:bM}{m:List Int}{k id:Int}(hm:s.made)(hX:X.of s)(hp:Plain m)(hk:Ee s k id):∀(n:Nat) {x x':aP},xN s k id n x x'→Tw s n (vG s X m k id) x [m.headD 0,IntKind.u32.wrap 0] (rQ s X 0 k id) x'
 | 0,_,_,h=>h.elim
 | n + 1, x, x', ⟨hok, .inl hr⟩ => by
  refine⟨aFF hm hX hp hok hk,.inl ?_⟩;rw[aCQ,hr]
  have he:xD s (vG s X m k id) (x',true)={vG s X m k id with at_:= -1,h0:=2,w0:=[m.headD 0,IntKind.u32.wrap 0]}:=by
   unfold xD;rw[if_pos rfl]
   show wU s x' {vG s X m k id with at_:= -1} 0 0=_
   unfold wU
   show aDh _ 0 2 (Dx s x' m 0)=_
   rw[hp.more];rfl
  rw[he];exact⟨rfl,rfl,rfl⟩
 | n + 1, x, x', ⟨hok, .inr ⟨x1, hr, Ni, lG, h⟩⟩ => by
  refine⟨aFF hm hX hp hok hk,.inr ?_⟩;rw[aCQ,hr]
  have he:xD s (vG s X m k id) (x1,false)=vG s X m k id:=by
   unfold xD;rw[if_neg (by simp)]
  rw[he];exact⟨rfl,Ni,lG,aGz hm hX hp hk n h⟩
theorem Vv{st:List fF}{d:Nat}{y:fF}(hy:st[d]? =some y):rX st (d:Int)=y.phase:=by
 have hlt:=(List.getElem?_eq_some_iff.1 hy).1
 unfold rX;rw[if_pos (show bB st.length (d:Int)=true from decide_eq_true (by omega)),Int.toNat_natCast,hy];rfl
def zY(y:fF):Nat:=if y.phase=49 then 0 else if y.phase=104 then 1 else if y.phase=114 then 2+y.left.toNat else 7
theorem aH6(l:Int)(a b:Bool):zY ⟨114,l,a,b⟩=2+l.toNat:=rfl
theorem aH7(l:Int)(a b:Bool):zY ⟨104,l,a,b⟩=1:=rfl
theorem aOO(l:Int)(a b:Bool):zY ⟨49,l,a,b⟩=0:=rfl
section
variable{s:aD}{X:bM}
theorem aP2{x:aP}{D:Int}{n i:Nat}{p':cO×dL}{d:bO}(hd:s.aC[i]? =some d)(h:(uO s x D n)[i]? =some p'):∃p,x.dv[i]? =some p∧p'.2=if i < n∧d.domain=D then(nU p.2).2 else p.2:=by
 rw[uO,List.getElem?_mapIdx] at h;cases hq:x.dv[i]? with
 | none=>rw[hq] at h;cases h
 | some q =>
  rw[hq] at h;simp only[Option.map_some,Option.some.injEq] at h;refine⟨q,rfl,?_⟩;subst h
  by_cases h1:i < n
  ·rw[if_pos h1];unfold Hj;rw[hd];dsimp only
   by_cases h2:d.domain=D
   ·rw[if_pos h2,if_pos ⟨h1,h2⟩]
   ·rw[if_neg h2,if_neg fun h=>h2 h.2]
  ·rw[if_neg h1,if_neg fun h=>h1 h.1]
theorem aCV(hm : s.made){d : Nat}{c : Dom}(hc : s.domains[d]? = some c)(hX : hasB X.d d = true)(hab : c.above = -1 ∨ (0 ≤ c.above ∧ hasB X.d c.above.toNat = true)) :
  ∀(n:Nat) (x:aP) (y:fF),Inv s X (some d) none none x→(∀(i:Nat) (p:cO×dL),x.dv[i]? =some p→p.2.at_≠1)→x.dm[d]? =some y→(y.phase=49∨y.phase=104∨y.phase=114∨y.phase=48∨y.phase=116)→zY y < n→
   ∃x',xN s 117 d n x x'∧Inv s X none none none x'
 | 0,_,_,_,_,_,_,h=>absurd h (by omega)
 | n + 1, x, y, hi, hno, hy, pH, Rp => by
  have aIp:∀x1:aP,x1.dv=x.dv→∀(i:Nat) (p:cO×dL),(iL s x1 0).dv[i]? =some p→p.2.at_≠1:=fun x1 he i p hp=>by
   obtain⟨p0,h0,h1,_⟩:=aA8 hp
   have h2:=hno i p0 (by rw[←he];exact h0)
   rw[h1 h2];exact h2
  have hlt:=(List.getElem?_eq_some_iff.1 hy).1
  have hl:=hi.ok.dm.left y (List.mem_of_getElem? hy)
  have hact:nP s x 117 d=Fh s x d:=rfl
  have Wv:=Vv hy
  have aBm:∀x1:aP,∀y1:fF,x1.dm[d]? =some y1→(iL s x1 0).dm[d]? =some (fV y1).2:=fun x1 y1 h1=>by
   simp only[iL,oU,List.getElem?_map,h1,Option.map_some]
  by_cases xB:y.phase=49
  ·refine⟨{x with dv:=uO s x d s.aC.length},aAE hi.ok ?_,?_⟩
   ·rw[hact,Fh,Wv,if_neg (by omega),if_pos xB]
   ·refine⟨aD8 hm.dI hi.ok _ _,hi.wt,hi.of,fun i m' hi' _=>?_,hi.jM,hi.sG,hi.zX,hi.tK,fun i p' dd hp' dY=>?_⟩
    by_cases hid:i=d
    ·subst hid;cases hy.symm.trans hi';exact⟨fun _=>xB,fun h=>by rw[hX] at h;cases h⟩
    ·exact hi.dom i m' hi' (by simp[Ne.symm hid])
    ·have aDU:=(List.getElem?_eq_some_iff.1 dY).1
     obtain⟨p0,h0,h1⟩:=aP2 dY hp';obtain⟨h2,h3⟩:=hi.rF i p0 dd h0 dY;rw[h1]
     by_cases hD:dd.domain=(d:Int)
     ·rw[if_pos ⟨aDU,hD⟩]
      have h4:(nU p0.2).2.at_=0:=by
       unfold nU;rcases h2 with h | h | h
       ·rw[if_pos (by omega)];exact h
       ·rw[if_neg (by omega)]
       ·exact absurd h.1 (hno i p0 h0)
      exact⟨.inl h4,fun _ _=>h4⟩
     ·rw[if_neg fun h=>hD h.2]
      have tP:=(hm.aC i dd dY).2.2.1
      refine⟨by have:=hno i p0 h0;omega,fun h4 _=>h3 h4 fun h5=>hD ?_⟩
      have h5:=Option.some.inj h5
      omega
  ·by_cases hdn:y.phase=48∨y.phase=116
   ·have mX:(uE s x.dm d).2=x.dm.set d ⟨114,c.delay,decide (y.phase=116),y.keep⟩:=by
     unfold uE;rw[show bB x.dm.length (d:Int)=true from decide_eq_true (by omega)];simp only[Bool.true_eq_false,if_false,Int.toNat_natCast,hc,hy]
     have h1:Lb y=true:=decide_eq_true hdn
     have h2:On x.dm c.above=true:=by
      unfold On;rcases hab with h | ⟨h0,h1⟩
      ·rw[h];rfl
      ·have hfit:=(hm.domains d c hc).1
       have hal:c.above.toNat < x.dm.length:=by omega
       obtain⟨ya,hya⟩:=get_some hal
       have:=(hi.dom _ ya hya (by simp;omega)).1 h1
       rw[hya];simp[this]
     rw[h1,h2];simp
    have Nr:nP s x 117 d=({x with dm:=x.dm.set d ⟨114,c.delay,decide (y.phase=116),y.keep⟩},false):=by
     rw[hact,Fh,Wv,if_pos hdn,mX]
    have aVg:=(hm.domains d c hc).2
    have hinv:Inv s X (some d) none none {x with dm:=x.dm.set d ⟨114,c.delay,decide (y.phase=116),y.keep⟩}:=by
     refine⟨?_,hi.wt,hi.of,fun i m' hi' hb=>?_,hi.jM,hi.sG,hi.zX,hi.tK,hi.rF⟩
     ·have:=aGh hm.dI hi.ok.dm d
      rw[mX] at this;exact⟨hi.ok.ck,this,hi.ok.ln,hi.ok.dv,hi.ok.each,hi.ok.wt⟩
     ·have hid:d≠i:=fun h=>hb (by rw[h])
      rw[List.getElem?_set_ne hid] at hi';exact hi.dom i m' hi' hb
    have hy1:({x with dm:=x.dm.set d ⟨114,c.delay,decide (y.phase=116),y.keep⟩}:aP).dm[d]? =some ⟨114,c.delay,decide (y.phase=116),y.keep⟩:=List.getElem?_set_self hlt
    have hmy:zY y=7:=by
     unfold zY;rw[if_neg xB,if_neg (by omega),if_neg (by omega)]
    obtain⟨x',h1,h2⟩:=aCV hm hc hX hab n _ _ (hinv.tick hm) (aIp _ rfl) (aBm _ _ hy1) (by
     unfold fV;rw[if_pos rfl];split
     ·right;right;left;rfl
     ·right;left;rfl) (by
     unfold fV;rw[if_pos rfl];split
     ·rw[aH6];dsimp only;omega
     ·rw[aH7]
      omega)
    exact⟨x',aAD hi.ok Nr hinv.ok hinv.wt h1,h2⟩
   ·have Nr:nP s x 117 d=(x,false):=by
     rw[hact,Fh,Wv,if_neg hdn,if_neg xB]
    have Da:y.phase=104∨y.phase=114:=by omega
    obtain⟨x',h1,h2⟩:=aCV hm hc hX hab n _ _ (hi.tick hm) (aIp _ rfl) (aBm _ _ hy) (by
     unfold fV;rcases Da with h | h
     ·rw[if_neg (by omega),if_pos h];left;rfl
     ·rw[if_pos h];split
      ·right;right;left;rfl
      ·right;left;rfl) (by
     unfold fV;rcases Da with h | h
     ·rw[if_neg (by omega),if_pos h]
      have:zY y=1:=by
       unfold zY;rw[if_neg xB,if_pos h]
      rw[aOO];omega
     ·have hmy:zY y=2+y.left.toNat:=by
       unfold zY;rw[if_neg xB,if_neg (by omega),if_pos h]
      rw[if_pos h];split
      ·rw[aH6];omega
      ·rw[aH7]
       omega)
    exact⟨x',aAD hi.ok Nr hi.ok hi.wt h1,h2⟩
theorem aGC(hm:s.made){r:Nat}(hr:r < s.aR.length):
  ∀(n:Nat) (x:aP) (y:kI),Inv s X none none (some r) x→x.ln[r]? =some y→(if y.held then y.left.toNat+1 else 0) < n→
   ∃x',xN s 114 r n x x'∧Inv s X none none none x'
 | 0,_,_,_,_,h=>absurd h (by omega)
 | n + 1, x, y, hi, hy, Rp => by
  have hlt:=(List.getElem?_eq_some_iff.1 hy).1
  have hl:=hi.ok.ln.left y (List.mem_of_getElem? hy)
  have hact:nP s x 114 r=He x r:=rfl
  have hin:bB x.ln.length (r:Int)=true:=decide_eq_true (by omega)
  have vW:Ba x.ln r=y.held:=by
   unfold Ba;rw[hin,Int.toNat_natCast,hy];rfl
  cases hh:y.held
  ·refine⟨x,aAE hi.ok ?_,?_⟩
   ·rw[hact,He,vW,hh];rfl
   ·refine⟨hi.ok,hi.wt,hi.of,hi.dom,hi.jM,hi.sG,hi.zX,fun i y' hi' hx _=>?_,hi.rF⟩
    by_cases hid:i=r
    ·subst hid;cases hy.symm.trans hi';exact hh
    ·exact hi.tK i y' hi' hx (by simp[Ne.symm hid])
  ·rw [hh] at Rp;simp only[if_true] at Rp
   have aIj:(vL x.ln r).2=x.ln.set r ⟨y.left,true,true⟩:=by
    unfold vL;rw[hin];simp only[Bool.true_eq_false,if_false,Int.toNat_natCast,hy,hh]
   have Nr:nP s x 114 r=({x with ln:=x.ln.set r ⟨y.left,true,true⟩},false):=by
    rw[hact,He,vW,hh,if_pos rfl,aIj]
   have hinv:Inv s X none none (some r) {x with ln:=x.ln.set r ⟨y.left,true,true⟩}:=by
    refine⟨?_,hi.wt,hi.of,hi.dom,hi.jM,hi.sG,hi.zX,fun i y' hi' hx hb=>?_,hi.rF⟩
    ·have:=aGZ hi.ok.ln r
     rw[aIj] at this;exact⟨hi.ok.ck,hi.ok.dm,this,hi.ok.dv,hi.ok.each,hi.ok.wt⟩
    ·have hid:r≠i:=fun h=>hb (by rw[h])
     rw[List.getElem?_set_ne hid] at hi';exact hi.tK i y' hi' hx hb
   have hy1:(iL s {x with ln:=x.ln.set r ⟨y.left,true,true⟩} 0).ln[r]? =some (lR ⟨y.left,true,true⟩):=by
    simp only[iL,Et,List.getElem?_map,List.getElem?_set_self hlt,Option.map_some]
   obtain⟨x',h1,h2⟩:=aGC hm hr n _ _ (hinv.tick hm) hy1 (by
    by_cases h0:0 < y.left
    ·have ht:lR ⟨y.left,true,true⟩=⟨y.left - 1,true,true⟩:=by
      unfold lR;rw[if_neg (by simp),if_pos h0]
     rw[ht]
     show(y.left - 1).toNat+1 < n
     omega
    ·have ht:lR ⟨y.left,true,true⟩=⟨y.left,false,false⟩:=by
      unfold lR;rw[if_neg (by simp),if_neg h0,if_pos rfl]
     rw[ht]
     show 0 < n
     omega)
   exact⟨x',aAD hi.ok Nr hinv.ok hinv.wt h1,h2⟩
end
end
section
section
variable{s:aD}{X:bM}
theorem aGF(hm:s.made){c:Nat}{ck:eF}(hc:s.aF[c]? =some ck)(lU:rB s c)(hX:hasB X.c c=true):
  ∀(n:Nat) (x:aP) (y:eP),Inv s X none (some c) none x→x.ck[c]? =some y→y.left.toNat < n→
   ∃x',xN s 99 c n x x'∧Inv s X none none none x'
 | 0,_,_,_,_,h=>absurd h (by omega)
 | n + 1, x, y, hi, hy, Rp => by
  have hlt:=(List.getElem?_eq_some_iff.1 hc).1
  have Xa:=(List.getElem?_eq_some_iff.1 hy).1
  have hl:=hi.ok.ck.left y (List.mem_of_getElem? hy)
  have aBs:ck.kind=112∨ck.kind=103:=by rw[←Kc hc];exact lU
  obtain⟨f,fs,hs,hf⟩:=aGv hm hc lU
  have jT:=Zh hm.aF hc
  rw[hs] at jT;dsimp only at jT;rw[Int.toNat_natCast] at jT
  have aPY:c∉fU s f:=fun h=>by have:=aBI hm h;omega
  have tO:(lE s x.ck c true).2=x.ck.set c ⟨true,y.left⟩:=by
   unfold lE;rw[show bB s.aF.length (c:Int)=true from decide_eq_true (by omega)];simp only[Bool.true_eq_false,if_false,Int.toNat_natCast,hc,hy];rw[if_neg (by omega)];simp[Hg]
  have hinv:Inv s X none (some c) none {x with ck:=x.ck.set c ⟨true,y.left⟩}:=by
   refine⟨?_,hi.wt,hi.of,hi.dom,fun i ci yi sB Wk hx hb=>?_,hi.sG,hi.zX,hi.tK,hi.rF⟩
   ·have:=Vx hm.dI hi.ok.ck (c:Int) true
    rw[tO] at this;exact⟨this,hi.ok.dm,hi.ok.ln,hi.ok.dv,hi.ok.each,hi.ok.wt⟩
   ·have hid:c≠i:=fun h=>hb (by rw[h])
    rw[List.getElem?_set_ne hid] at Wk;exact hi.jM i ci yi sB Wk hx hb
  have Ap:(x.ck.set c ⟨true,y.left⟩)[c]? =some ⟨true,y.left⟩:=List.getElem?_set_self Xa
  have yJ:runs s (x.ck.set c ⟨true,y.left⟩) f=true:=hinv.src hm hc hs hX (fun j hj=>by cases hj;exact aPY)
  have hrc:qI s (x.ck.set c ⟨true,y.left⟩) c=rT ck ⟨true,y.left⟩:=by
   unfold qI;rw[show bB s.aF.length (c:Int)=true from decide_eq_true (by omega),Int.toNat_natCast,aG9 hm.aF hc Ap,hs];dsimp only;rw[Int.toNat_natCast,yJ];simp
  have hact:nP s x 99 c=Lj s x c:=rfl
  by_cases mX:rT ck ⟨true,y.left⟩=true
  ·refine⟨{x with ck:=x.ck.set c ⟨true,y.left⟩},aAE hi.ok ?_,?_⟩
   ·rw[hact,Lj,tO,hrc,mX];rfl
   ·refine⟨hinv.ok,hi.wt,hi.of,hi.dom,fun i ci yi sB Wk hx _=>?_,hi.sG,(fun _ h=>by cases h),hi.tK,hi.rF⟩
    by_cases hid:i=c
    ·subst hid;cases hc.symm.trans sB;cases Ap.symm.trans Wk;refine⟨rfl,fun aEn=>?_⟩;unfold rT at mX;rw[if_pos aEn] at mX
     simpa using mX
    ·exact hinv.jM i ci yi sB Wk hx (by simp[Ne.symm hid])
  ·have aEn:ck.kind=112∧y.left≠0:=by
    unfold rT at mX;rcases aBs with h | h
    ·rw[if_pos h] at mX;exact⟨h,by simpa using mX⟩
    ·rw[if_neg (by omega),if_pos h] at mX;exact absurd rfl mX
   have aPJ:rT ck ⟨true,y.left⟩=false:=by simpa using mX
   obtain⟨cf,Nl⟩:=get_some (l:=s.aF) (i:=f) (by omega)
   have aQ7:=Zh hm.aF Nl
   have Nr:nP s x 99 c=({x with ck:=x.ck.set c ⟨true,y.left⟩},false):=by
    rw[hact,Lj,tO,hrc,aPJ,jT,aQ7]
    have h1:qI s (x.ck.set c ⟨true,y.left⟩) (f:Int)=true:=by
     unfold qI;rw[show bB s.aF.length (f:Int)=true from decide_eq_true (by omega),Int.toNat_natCast,yJ];rfl
    simp[h1]
   have pV:Qf ck=f:=by
    unfold Qf;rw[hs];simp
   have Rh:(iL s {x with ck:=x.ck.set c ⟨true,y.left⟩} 0).ck[c]? =some ⟨true,y.left - 1⟩:=by
    show(lS s (x.ck.set c ⟨true,y.left⟩))[c]? =_
    rw[aLW hc Ap];unfold vJ;rw[if_pos ⟨aEn.1,rfl⟩,pV,yJ,if_neg (by simp),if_pos (by show 0 < y.left;omega)]
   obtain⟨x',h1,h2⟩:=aGF hm hc lU hX n _ _ (hinv.tick hm) Rh (by dsimp only;omega);exact⟨x',aAD hi.ok Nr hinv.ok hinv.wt h1,h2⟩
end
section
variable{s:aD}{X:bM}{m:List Int}
def Cg(s:aD)(X:bM)(l k id:Int)(m:List Int):bZ:=⟨X,dQ s,1,0,m,[],l,-1,k,id⟩
theorem aLe{l k id:Int}:oF (rQ s X l k id) 0 m=(0,Cg s X l k id m):=by simp[oF,bB,rQ,Cg]
theorem aC1{l k id:Int}(hl:l=0∨l=1):sW (Cg s X l k id m)=some 0:=by
 rcases hl with rfl | rfl<;>rfl
theorem aLf{l k id:Int}(hm:s.made)(hX:X.of s)(hp:Plain m)(hl:l=0∨l=1):Eg s (Cg s X l k id m):=by
 obtain⟨h1,h2,h3,h4,h5,h6,h7⟩:=aFG (k:=k) (id:=id) hm hX hp;exact⟨hl,h2,h3,h4,h5,h6,h7⟩
theorem aMv{n:Nat}{x x':aP}{l k0 i0 k id:Int}{a:List Int}{z':bZ}(hm:s.made)(hX:X.of s)(hp:Plain m)(hl:l=0∨l=1)(hok:cK s x)(aEc:jI s X (dQ s) (mF s x) 0 m=(0,k,id))(Kn:k≠0)(hk:Ee s k id)
  (h:Tw s (n+1) (vG s (jZ X 0 k id) m k id) x a z' x'):Tw s (n+1) (Cg s X l k0 i0 m) x a z' x':=by
 have hd:gE s x (Cg s X l k0 i0 m) 0=(0,k,id):=aEc
 have mQ:mV s x (Cg s X l k0 i0 m)=(vG s (jZ X 0 k id) m k id,true):=by
  unfold mV;rw[aC1 hl];dsimp only;unfold wS;dsimp only;rw[hd,if_neg Kn];rfl
 have hst:lD s x (Cg s X l k0 i0 m)=lD s x (vG s (jZ X 0 k id) m k id):=by
  rw[aCQ];unfold lD;dsimp only;rw[mQ,if_neg (by simp),if_pos (show(Cg s X l k0 i0 m).at_ < 0 from(by show(-1:Int) < 0;decide))];rfl
 obtain⟨_,h2⟩:=h;refine⟨⟨hok,aLf hm hX hp hl,.inl (by show(-1:Int) < 0;decide),fun _ a ha h0=>?_,fun _ a ha h0=>?_⟩,?_⟩
 ·rw[aC1 hl] at ha;cases ha;rw[hd] at h0;exact absurd h0 Kn
 ·rw[aC1 hl] at ha;cases ha;rw[hd];exact⟨hk,hp.rep⟩
 ·rw[hst];exact h2
structure aFz(m p tk:Int):Prop where
 pk:(eB m 0 p tk).2=0
 un:uF (eB m 0 p tk).1=0
 ty:Fz (eB m 0 p tk).1=0
 pr:eE (eB m 0 p tk).1=p
 ms:eM (eB m 0 p tk).1=m
 z4:cN (eB m 0 p tk).1 28 4=0
 zp:cN (eB m 0 p tk).1 10 8=p
 zm:cN (eB m 0 p tk).1 0 8=m
theorem aO5{m p tk i v:Int}(h:aFz m p tk)(hmp:m=4∨m=7)(hi:0≤i∧i < 4294967296)(hv:0≤v∧v < 4294967296):Plain [(eB m 0 p tk).1,i,v]:=by
 refine⟨fun y hy=>?_,by simp,⟨⟨_,_,rfl,h.z4,fun hh=>?_⟩⟩,fun s x=>?_⟩
 ·simp at hy;rcases hy with rfl | rfl | rfl
  ·exact aOh _ _ _ _
  ·exact hi
  ·exact hv
 ·rw[h.zp,h.zm] at hh;omega
 ·unfold Dx pT;simp only[List.headD_cons,h.zp,h.zm];rw[if_pos trivial,if_neg (by omega),if_neg (by omega),if_neg (by omega),if_neg (by omega)]
theorem Sa{l:List Bool}{i:Nat}(hi:i < l.length)(j:Nat):hasB (kV l i true) j=if j=i then true else hasB l j:=by
 rw[kV,if_pos ⟨by omega,by omega⟩,Int.toNat_natCast,Dk,Dk,List.getElem?_set]
 by_cases h:i=j
 ·subst h;rw[if_pos rfl,if_pos hi,if_pos rfl];rfl
 ·rw[if_neg h,if_neg (Ne.symm h)]
end
end
section
section
variable{s:aD}{X:bM}{x:aP}{l k0 i0:Int}
def Un(X:bM)(d:Nat):bM:=⟨kV X.d d true,X.c,X.l⟩
def wsC(X:bM)(c:Nat):bM:=⟨X.d,kV X.c c true,X.l⟩
def wsL(X:bM)(r:Nat):bM:=⟨X.d,X.c,kV X.l r true⟩
theorem Inv.rest(hi:Inv s X none none none x):∀(i:Nat) (p:cO×dL),x.dv[i]? =some p→p.2.at_≠1:=fun i p hp=>by
 obtain⟨d,hd⟩:=get_some (l:=s.aC) (i:=i) (by have:=(List.getElem?_eq_some_iff.1 hp).1;have:=hi.ok.dv;omega)
 have:=(hi.rF i p d hp hd).1
 simp at this;omega
theorem aQT(hm:s.made)(hi:Inv s X none none none x){d:Nat}{c:Dom}(hc:s.domains[d]? =some c)(hab:c.above= -1∨(0≤c.above∧hasB X.d c.above.toNat=true))(hh:hasB X.d d=false):∃x',xN s 117 d (8+1) x x'∧Inv s (Un X d) none none none x':=by
 have hlt:=(List.getElem?_eq_some_iff.1 hc).1
 have hX:=hi.of
 have iY:d < X.d.length:=by rw[hX.d];exact hlt
 have hXd:hasB (Un X d).d d=true:=by
  show hasB (kV X.d d true) d=true
  rw[Sa iY,if_pos rfl]
 have hfit:=(hm.domains d c hc).1
 have aQL:c.above= -1∨(0≤c.above∧hasB (Un X d).d c.above.toNat=true):=by
  rcases hab with h | ⟨h0,h3⟩
  ·exact .inl h
  ·refine .inr ⟨h0,?_⟩
   show hasB (kV X.d d true) _=true
   rw[Sa iY,if_neg (by omega)];exact h3
 have hinv:Inv s (Un X d) (some d) none none x:=by
  refine⟨hi.ok,hi.wt,⟨by show(kV _ _ _).length=_;rw[Cs];exact hX.d,hX.c,hX.l⟩,fun i m' hi' hb=>?_,hi.jM,hi.sG,(fun _ h=>by cases h),hi.tK,fun i p dd hp' dY=>?_⟩
  have hid:i≠d:=fun h=>hb (by rw[h])
  have:hasB (Un X d).d i=hasB X.d i:=by
   show hasB (kV X.d d true) i=_
   rw[Sa iY,if_neg hid]
  rw[this];exact hi.dom i m' hi' (by simp)
  ·obtain⟨h2,h3⟩:=hi.rF i p dd hp' dY;refine⟨by simp at h2;omega,fun h4 h5=>h3 ?_ (by simp)⟩
   have h6:dd.domain.toNat≠d:=fun h=>h5 (by rw[h])
   have h7:hasB (kV X.d d true) dd.domain.toNat=true:=h4
   rw[Sa iY,if_neg h6] at h7;exact h7
 obtain⟨y,hy⟩:=get_some (l:=x.dm) (i:=d) (by have:=hi.ok.dm.len;omega)
 have pH:=(hi.dom d y hy (by simp)).2 hh
 have Rp:zY y < 8+1:=by
  unfold zY;rw[if_neg (by omega),if_neg (by omega),if_neg (by omega)];omega
 exact aCV hm hc hXd aQL (8+1) x y hinv (hi.rest) hy (by omega) Rp
theorem aQU(hm:s.made)(hi:Inv s X none none none x){r:Nat}(hlt:r < s.aR.length)(hh:hasB X.l r=false):∃x',xN s 114 r (8+1) x x'∧Inv s (wsL X r) none none none x':=by
 have hX:=hi.of
 have iB:r < X.l.length:=by rw[hX.l];exact hlt
 have iX:∀j,hasB (wsL X r).l j=if j=r then true else hasB X.l j:=fun j=>Sa iB j
 have hinv:Inv s (wsL X r) none none (some r) x:=by
  refine⟨hi.ok,hi.wt,⟨hX.d,hX.c,by show(kV _ _ _).length=_;rw[Cs];exact hX.l⟩,hi.dom,hi.jM,hi.sG,(fun _ h=>by cases h),fun i y hy hx hb=>?_,hi.rF⟩
  have hid:i≠r:=fun h=>hb (by rw[h])
  rw[iX,if_neg hid] at hx;exact hi.tK i y hy hx (by simp)
 obtain⟨y,hy⟩:=get_some (l:=x.ln) (i:=r) (by have:=hi.ok.ln.len;omega)
 have hyl:=hi.ok.ln.left y (List.mem_of_getElem? hy)
 exact aGC hm hlt (8+1) x y hinv hy (by split<;>omega)
theorem aPA(hm:s.made):Inv s (dQ s) none none none (hw0 s):=by
 have h0:∀(n i:Nat),hasB (List.replicate n false) i=false:=fun n i=>by
  rw[Dk,List.getElem?_replicate];split<;>rfl
 refine⟨aHY hm.dI,fun i=>?_,⟨by simp[dQ],by simp[dQ],by simp[dQ]⟩,fun i m hi' _=>⟨fun h=>?_,fun _=>?_⟩,fun i c y _ _ h _=>?_,fun i h=>?_,(fun _ h=>by cases h),fun i y _ h _=>?_,fun i p d hp _=>?_⟩
 ·unfold iQ hw0;simp only[List.getElem?_map];cases s.aC[i]? <;>rfl
 ·rw[show hasB (dQ s).d i=false from h0 _ _] at h;cases h
 ·simp only[hw0,List.getElem?_map] at hi';cases hq:s.domains[i]? with
  | none=>rw[hq] at hi';cases hi'
  | some q=>rw[hq] at hi';cases hi';exact .inl rfl
 ·rw[show hasB (dQ s).c i=false from h0 _ _] at h;cases h
 ·rw[show hasB (dQ s).c i=false from h0 _ _] at h;cases h
 ·rw[show hasB (dQ s).l i=false from h0 _ _] at h;cases h
 ·have h1:p.2.at_=0:=by
   simp only[hw0,List.getElem?_map] at hp;cases hq:s.aC[i]? with
   | none=>rw[hq] at hp;cases hp
   | some q=>rw[hq] at hp;cases hp;rfl
  exact⟨.inl h1,fun _ _=>h1⟩
end
end
section
theorem Inv.alive{s:aD}{X:bM}{x:aP}(hm:s.made)(hi:Inv s X none none none x){i:Nat}{d:bO}(hd:s.aC[i]? =some d)(h1:hasB X.d d.domain.toNat=true)(h2:∀j∈fU s d.clock.toNat,rB s j→hasB X.c j=true)(h3:hasB X.l d.reset.toNat=true):wD s x i=true:=by
 have hf:=hm.aC i d hd
 obtain⟨f1,f2,f3,f4,f5,f6,_⟩:=hf
 have hrun:qI s x.ck d.clock=true:=by
  unfold qI;rw[show bB s.aF.length d.clock=true from decide_eq_true (by omega)];unfold runs;rw[Bool.true_and,List.all_eq_true];intro j hj
  have hlt:=aBH hj
  obtain⟨c,hc⟩:=get_some hlt;obtain⟨y,hy⟩:=get_some (l:=x.ck) (i:=j) (by have:=hi.ok.ck.len;omega);unfold Py;rw[hc,hy];dsimp only;unfold rT
  by_cases k1:c.kind=112
  ·rw[if_pos k1];obtain⟨k2,k3⟩:=hi.jM j c y hc hy (h2 j hj (.inl (by rw[Kc hc];exact k1))) (by simp);rw[k2,k3 k1];rfl
  ·rw[if_neg k1]
   by_cases k4:c.kind=103
   ·rw[if_pos k4];exact(hi.jM j c y hc hy (h2 j hj (.inr (by rw[Kc hc];exact k4))) (by simp)).1
   ·rw[if_neg k4]
 obtain⟨m,Rq⟩:=get_some (l:=x.dm) (i:=d.domain.toNat) (by have:=hi.ok.dm.len;omega)
 have pH:rX x.dm d.domain=49:=by
  have:=Vv Rq
  rw[show((d.domain.toNat:Nat):Int)=d.domain by omega] at this;rw[this];exact(hi.dom _ m Rq (by simp)).1 h1
 obtain⟨y,hy⟩:=get_some (l:=x.ln) (i:=d.reset.toNat) (by have:=hi.ok.ln.len;omega)
 have vW:Ba x.ln d.reset=false:=by
  unfold Ba;rw[show bB x.ln.length d.reset=true from decide_eq_true (by have:=hi.ok.ln.len;omega),hy];exact hi.tK _ y hy h3 (by simp)
 unfold wD;rw[hd];dsimp only;rw[hrun,pH,vW];rfl
theorem Inv.state{s:aD}{X:bM}{x:aP}(hi:Inv s X none none none x){i:Nat}{d:bO}(hd:s.aC[i]? =some d)(h1:hasB X.d d.domain.toNat=true):uH x i=114:=by
 have hlt:=(List.getElem?_eq_some_iff.1 hd).1
 obtain⟨p,hp⟩:=get_some (l:=x.dv) (i:=i) (by have:=hi.ok.dv;omega);unfold uH;rw[hp]
 show qL p.2.at_=114
 rw[(hi.rF i p d hp hd).2 h1 (by simp)];rfl
end
section
def aAl(s:aD)(A:aP→aP×Bool):Nat→aP→aP→Prop
 | 0,_,_=>False
 | n+1,x,x'=>cK s x∧(A x=(x',true)∨∃x1,A x=(x1,false)∧cK s x1∧(∀i,iQ x1.wt i=0)∧aAl s A n (iL s x1 0) x')
def Um(X:bM)(d:Nat):bM:=⟨kV X.d d false,X.c,X.l⟩
section
variable{s:aD}{X:bM}{x:aP}{D:Nat}
theorem aIA{l:List Bool}{i:Nat}(hi:i < l.length)(j:Nat):hasB (kV l i false) j=if j=i then false else hasB l j:=by
 rw[kV,if_pos ⟨by omega,by omega⟩,Int.toNat_natCast,Dk,Dk,List.getElem?_set]
 by_cases h:i=j
 ·subst h;rw[if_pos rfl,if_pos hi,if_pos rfl];rfl
 ·rw[if_neg h,if_neg (Ne.symm h)]
theorem aDF{x:aP}{D:Int}{n i:Nat}{p':cO×dL}{d:bO}(hd:s.aC[i]? =some d)(h:(jH s x D n)[i]? =some p'):∃p,x.dv[i]? =some p∧p'.2=if i < n∧d.domain=D then(if p.2.at_=3 then(nU p.2).2 else if p.2.at_=0 then(sI p.2).2 else p.2) else p.2:=by
 rw[jH,List.getElem?_mapIdx] at h;cases hq:x.dv[i]? with
 | none=>rw[hq] at h;cases h
 | some q =>
  rw[hq] at h;simp only[Option.map_some,Option.some.injEq] at h;refine⟨q,rfl,?_⟩;subst h
  by_cases h1:i < n
  ·rw[if_pos h1];unfold Ho;rw[hd];dsimp only
   by_cases h2:d.domain=D
   ·rw[if_pos h2,if_pos (show i < n∧d.domain=D from⟨h1,h2⟩)]
   ·rw[if_neg h2,if_neg fun h=>h2 h.2]
  ·rw[if_neg h1,if_neg fun h=>h1 h.1]
theorem Inv.aHZ(hm:s.made)(hi:Inv s X (some D) none none x):Inv s X (some D) none none {x with dv:=jH s x D s.aC.length}:=by
 refine⟨aBk hm.dI hi.ok _ _,hi.wt,hi.of,hi.dom,hi.jM,hi.sG,hi.zX,hi.tK,fun i p' dd hp' dY=>?_⟩
 have aDU:=(List.getElem?_eq_some_iff.1 dY).1
 obtain⟨p0,h0,h1⟩:=aDF dY hp';obtain⟨h2,h3⟩:=hi.rF i p0 dd h0 dY;rw[h1]
 by_cases hD:dd.domain=(D:Int)
 ·rw[if_pos ⟨aDU,hD⟩]
  have hDn:dd.domain.toNat=D:=by omega
  refine⟨?_,fun _ h=>absurd (by rw[hDn]) h⟩;rw[if_neg (by omega)];split
  ·rename_i h4
   refine .inr (.inr ⟨?_,by rw[hDn]⟩);unfold sI;rw[if_neg (by omega)]
  ·exact h2
 ·rw[if_neg fun h=>hD h.2];exact⟨h2,h3⟩
theorem Inv.begin(hi:Inv s X none none none x)(D:Nat):Inv s X (some D) none none x:=
 ⟨hi.ok,hi.wt,hi.of,fun i m h _=>hi.dom i m h (by simp),hi.jM,hi.sG,hi.zX,hi.tK,fun i p d hp hd=>by
  obtain⟨h1,h2⟩:=hi.rF i p d hp hd;refine⟨?_,fun h3 _=>h2 h3 (by simp)⟩;simp at h1
  omega⟩
theorem Inv.off(hi:Inv s X (some D) none none x)(hD:D < s.domains.length)(pH:∀y,x.dm[D]? =some y→y.phase=48∨y.phase=116)(hno:∀(i:Nat) (p:cO×dL),x.dv[i]? =some p→p.2.at_≠1):Inv s (Um X D) none none none x:=by
 have hX:=hi.of
 have iY:D < X.d.length:=by rw[hX.d];exact hD
 have iX:∀j,hasB (Um X D).d j=if j=D then false else hasB X.d j:=fun j=>aIA iY j
 refine⟨hi.ok,hi.wt,⟨by show(kV _ _ _).length=_;rw[Cs];exact hX.d,hX.c,hX.l⟩,fun i m hm' _=>?_,hi.jM,hi.sG,hi.zX,hi.tK,fun i p d hp hd=>?_⟩
 ·rw[iX]
  by_cases h:i=D
  ·subst h;rw[if_pos rfl];exact⟨(fun h=>by cases h),fun _=>pH m hm'⟩
  ·rw[if_neg h];exact hi.dom i m hm' fun h'=>h (Option.some.inj h').symm
 ·obtain⟨h1,h2⟩:=hi.rF i p d hp hd
  have h3:=hno i p hp
  refine⟨by omega,fun h4 _=>?_⟩;rw[iX] at h4
  by_cases h:d.domain.toNat=D
  ·rw[if_pos h] at h4;cases h4
  ·rw[if_neg h] at h4;exact h2 h4 fun h'=>h (Option.some.inj h').symm
theorem Inv.down(hm:s.made)(hi:Inv s X (some D) none none x){y:fF}(hy:x.dm[D]? =some y)(keep:Bool):Inv s X (some D) none none {x with dm:=x.dm.set D ⟨99,y.left,y.kept,keep⟩}:=by
 have hlt:=(List.getElem?_eq_some_iff.1 hy).1
 refine⟨⟨hi.ok.ck,⟨by simp[hi.ok.dm.len],fun z hz=>?_,fun z hz=>?_⟩,hi.ok.ln,hi.ok.dv,hi.ok.each,hi.ok.wt⟩,hi.wt,hi.of,fun i m' hi' hb=>?_,hi.jM,hi.sG,hi.zX,hi.tK,hi.rF⟩
 ·rcases List.mem_or_eq_of_mem_set hz with hz | rfl
  ·exact hi.ok.dm.left z hz
  ·exact hi.ok.dm.left y (List.mem_of_getElem? hy)
 ·rcases List.mem_or_eq_of_mem_set hz with hz | rfl
  ·exact hi.ok.dm.phase z hz
  ·exact⟨by show(0:Int)≤99;omega,by show(99:Int) < 256;omega⟩
 ·have hid:D≠i:=fun h=>hb (by rw[h])
  rw[List.getElem?_set_ne hid] at hi';exact hi.dom i m' hi' hb
theorem aHi{n:Nat}:Cy s x (D:Int) n=true↔∀(i:Nat) (p:cO×dL) (d:bO),i < n→x.dv[i]? =some p→s.aC[i]? =some d→d.domain=(D:Int)→p.2.at_=2:=by
 unfold Cy;rw[List.all_eq_true];constructor
 ·intro h i p d hi hp hd hD
  have:=h i (List.mem_range.2 hi)
  unfold Qi at this;rw[hd,hp] at this
  simpa[hD] using this
 ·intro h i hi
  have hi:=List.mem_range.1 hi
  unfold Qi;split
  ·rename_i d p hd hp
   by_cases hD:d.domain=(D:Int)
   ·rw[h i p d hi hp hd hD];simp
   ·simp[hD]
  ·rfl
theorem aOK(hm:s.made)(hi:Inv s X (some D) none none x)(hno:∀(j:Nat) (cj:Dom),s.domains[j]? =some cj→cj.above=(D:Int)→hasB X.d j=false):Fy s x.dm (D:Int)=false:=by
 unfold Fy;rw[Bool.eq_false_iff];intro h;rw[List.any_eq_true] at h;obtain⟨b,hb,h1⟩:=h;obtain⟨j,hj⟩:=List.getElem?_of_mem hb;rw[List.getElem?_zipWith] at hj;cases hc:s.domains[j]? with
 | none=>rw[hc] at hj;simp at hj
 | some cj =>
  cases hy:x.dm[j]? with
  | none=>rw[hc,hy] at hj;simp at hj
  | some yj=>
   rw[hc,hy] at hj;simp only[Option.some.injEq] at hj;subst hj;unfold Ic at h1;simp only[id_eq,Bool.and_eq_true,decide_eq_true_eq,Bool.not_eq_true'] at h1
   have hlt:=(hm.domains j cj hc).1
   have h2:=(hi.dom j yj hy (by simp;omega)).2 (hno j cj hc h1.1)
   have h3:=h1.2
   unfold Lb at h3;simp at h3;omega
theorem aGD(hm:s.made){c:Dom}(hc:s.domains[D]? =some c)(keep:Bool)(hkeep:keep=true→c.ret=true)(hi:Inv s X (some D) none none x)(hno:∀(j:Nat) (cj:Dom),s.domains[j]? =some cj→cj.above=(D:Int)→hasB X.d j=false){y:fF}(hy:x.dm[D]? =some y)(pH:y.phase=49)(hq:Cy s x (D:Int) s.aC.length=true)(h1:∀(i:Nat) (p:cO×dL),x.dv[i]? =some p→p.2.at_≠1):
  ∃x',aAl s (fun x=>uJ s x (D:Int) keep) 2 x x'∧Inv s (Um X D) none none none x'∧∀(i:Nat) (p:cO×dL) (d:bO),x'.dv[i]? =some p→s.aC[i]? =some d→d.domain=(D:Int)→p.2.at_=2:=by
 have hlt:=(List.getElem?_eq_some_iff.1 hy).1
 have hlD:=(List.getElem?_eq_some_iff.1 hc).1
 have Wv:=Vv hy
 have aQp:(wA s x.dm (D:Int) keep).2=x.dm.set D ⟨99,y.left,y.kept,keep⟩:=by
  unfold wA;rw[show bB x.dm.length (D:Int)=true from decide_eq_true (by omega)];simp only[Bool.true_eq_false,if_false,Int.toNat_natCast,hc,hy];rw[if_neg (by omega),if_neg (fun h=>by rw[hkeep h.1] at h;simp at h),aOK hm hi hno];simp
 have hA:uJ s x (D:Int) keep=({x with dv:=jH s x (D:Int) s.aC.length,dm:=x.dm.set D ⟨99,y.left,y.kept,keep⟩},false):=by
  unfold uJ;rw[Wv,if_pos pH,hq,aQp];simp
 have hi1:=hi.aHZ hm
 have hi2:Inv s X (some D) none none {x with dv:=jH s x (D:Int) s.aC.length,dm:=x.dm.set D ⟨99,y.left,y.kept,keep⟩}:=hi1.down hm hy keep
 have hi3:=hi2.tick hm
 have uT:∀(i:Nat) (p:cO×dL) (d:bO),(jH s x (D:Int) s.aC.length)[i]? =some p→s.aC[i]? =some d→p.2.at_≠1∧(d.domain=(D:Int)→p.2.at_=2):=fun i p d hp hd=>by
  have Km:=(List.getElem?_eq_some_iff.1 hd).1
  obtain⟨p0,h0,h2⟩:=aDF hd hp
  by_cases hD:d.domain=(D:Int)
  ·have h3:=aHi.1 hq i p0 d Km h0 hd hD
   rw[h2,if_pos (show i < s.aC.length∧d.domain=(D:Int) from⟨Km,hD⟩),if_neg (by omega),if_neg (by omega)];exact⟨by omega,fun _=>h3⟩
  ·rw[h2,if_neg fun h=>hD h.2];exact⟨h1 i p0 h0,fun h=>absurd h hD⟩
 generalize yI:({x with dv:=jH s x (D:Int) s.aC.length,dm:=x.dm.set D ⟨99,y.left,y.kept,keep⟩}:aP)=x2 at hA hi2 hi3
 have Xm:x2.dv=jH s x (D:Int) s.aC.length:=by rw[←yI]
 have Ap:x2.dm[D]? =some ⟨99,y.left,y.kept,keep⟩:=by
  rw[←yI];exact List.getElem?_set_self hlt
 have Rh:(iL s x2 0).dm[D]? =some (fV ⟨99,y.left,y.kept,keep⟩).2:=by simp only[iL,oU,List.getElem?_map,Ap,Option.map_some]
 have aIm:(fV ⟨99,y.left,y.kept,keep⟩).2.phase=48∨(fV ⟨99,y.left,y.kept,keep⟩).2.phase=116:=by
  unfold fV;cases keep
  ·exact .inl rfl
  ·exact .inr rfl
 have Ki:∀(i:Nat) (p:cO×dL),(iL s x2 0).dv[i]? =some p→p.2.at_≠1∧∀d:bO,s.aC[i]? =some d→d.domain=(D:Int)→p.2.at_=2:=fun i p hp=>by
  obtain⟨p0,h0,h2,_⟩:=aA8 hp;rw[Xm] at h0
  obtain⟨d,hd⟩:=get_some (l:=s.aC) (i:=i) (by
   have:=(List.getElem?_eq_some_iff.1 h0).1
   have:=hi.ok.dv
   simp[jH] at *
   omega)
  obtain⟨h3,h4⟩:=uT i p0 d h0 hd;rw[h2 h3]
  exact⟨h3,fun d' hd' hD=>by
   cases hd.symm.trans hd'
   exact h4 hD⟩
 have hA3:uJ s (iL s x2 0) (D:Int) keep=(iL s x2 0,true):=by
  unfold uJ;rw[Vv Rh,if_neg (by omega),if_pos aIm]
 refine⟨iL s x2 0,⟨hi.ok,.inr ⟨x2,hA,hi2.ok,hi2.wt,hi3.ok,.inl hA3⟩⟩,hi3.off hlD (fun z hz=>?_) (fun i p hp=>(Ki i p hp).1),fun i p d hp hd hD=>(Ki i p hp).2 d hd hD⟩;cases Rh.symm.trans hz;exact aIm
theorem aMI(hm:s.made){c:Dom}(hc:s.domains[D]? =some c)(keep:Bool)(hkeep:keep=true→c.ret=true)(hi:Inv s X none none none x)(hX:hasB X.d D=true)(hno:∀(j:Nat) (cj:Dom),s.domains[j]? =some cj→cj.above=(D:Int)→hasB X.d j=false):
  ∃(N:Nat) (x':aP),N≤3∧aAl s (fun x=>uJ s x (D:Int) keep) N x x'∧Inv s (Um X D) none none none x'∧∀(i:Nat) (p:cO×dL) (d:bO),x'.dv[i]? =some p→s.aC[i]? =some d→d.domain=(D:Int)→p.2.at_=2:=by
 have hlD:=(List.getElem?_eq_some_iff.1 hc).1
 obtain⟨y,hy⟩:=get_some (l:=x.dm) (i:=D) (by have:=hi.ok.dm.len;omega)
 have pH:=(hi.dom D y hy (by simp)).1 hX
 have hb:=hi.begin D
 cases hq:Cy s x (D:Int) s.aC.length
 ·have hA:uJ s x (D:Int) keep=({x with dv:=jH s x (D:Int) s.aC.length},false):=by
   unfold uJ;rw[Vv hy,if_pos pH,hq];simp
  have hi1:=hb.aHZ hm
  have hi2:=hi1.tick hm
  have Ap:(iL s {x with dv:=jH s x (D:Int) s.aC.length} 0).dm[D]? =some y:=by
   simp only[iL,oU,List.getElem?_map,hy,Option.map_some];rw[aGm (.inl pH)]
  have Ki:∀(i:Nat) (p:cO×dL),(iL s {x with dv:=jH s x (D:Int) s.aC.length} 0).dv[i]? =some p→p.2.at_≠1∧∀d:bO,s.aC[i]? =some d→d.domain=(D:Int)→p.2.at_=2:=fun i p hp=>by
   have Km:i < s.aC.length:=by
    obtain⟨p0,h0,_⟩:=aA8 hp
    have:=(List.getElem?_eq_some_iff.1 h0).1
    have:=hi1.ok.dv
    dsimp only at *;omega
   obtain⟨p0,h0,h2,h3⟩:=aGk hi1.wt Km hp;obtain⟨d,hd⟩:=get_some Km;obtain⟨p1,h4,h5⟩:=aDF hd h0;obtain⟨h6,h7⟩:=hi.rF i p1 d h4 hd
   have h8:=hi.rest i p1 h4
   by_cases hD:d.domain=(D:Int)
   ·have hDn:d.domain.toNat=D:=by omega
    have h9:=h7 (by rw[hDn];exact hX) (by simp)
    rw[if_pos (show i < s.aC.length∧d.domain=(D:Int) from⟨Km,hD⟩),if_neg (by omega),if_pos h9] at h5
    have h10:p0.2.at_=1:=by
     rw[h5];unfold sI;rw[if_neg (by omega)]
    have h11:=h3 h10
    exact⟨by omega,fun _ _ _=>h11⟩
   ·rw[if_neg fun h=>hD h.2] at h5
    have h10:p0.2.at_≠1:=by rw[h5];exact h8
    rw[h2 h10]
    exact⟨h10,fun d' hd' Xz=>by
     cases hd.symm.trans hd'
     exact absurd Xz hD⟩
  obtain⟨x',h1,h2,h3⟩:=aGD hm hc keep hkeep hi2 hno Ap pH (aHi.2 fun i p d _ hp hd hD=>(Ki i p hp).2 d hd hD) (fun i p hp=>(Ki i p hp).1);exact⟨3,x',by omega,⟨hi.ok,.inr ⟨_,hA,hi1.ok,hi1.wt,h1⟩⟩,h2,h3⟩
 ·obtain⟨x',h1,h2,h3⟩:=aGD hm hc keep hkeep hb hno hy pH hq hi.rest;exact⟨2,x',by omega,h1,h2,h3⟩
end
end
section
section
variable{P:Program}{ops:Array Oper}{Q:Exit→Act→World→Prop}{N:cE}{w0:World}{e e':Env}{R R':List Piece}{H H':List HP}{rest:List Oper}{d:Nat}{ty:TypeId}{pos:String}{aH:Array Edge}
def isIface(P:Program)(t:TypeId):Bool:=match P.underlying t with
 | some (.interface _)=>true
 | _=>false
def aH1(P:Program)(t:TypeId):Bool:=match P.underlying t with
 | some (.interface _)=>false
 | some _=>true
 | none=>false
theorem Ss{x:Operand}{t:TypeId}{v:Value}(hx:e.ev x=some v)(ht:aH1 P t=true:=by kernel_rfl):bU P N w0 e R H ⟨some d,.makeInterface t x,ty,pos,aH,none⟩ (.iface t v):=iM fun a w hr=>by
 unfold aH1 at ht;cases hu:P.underlying t with
 | none=>rw[hu] at ht;cases ht
 | some u=>cases u<;>first | (rw[hu] at ht;cases ht;done) | simp[execOp,hr.ev hx,Instr.makeInterface,run_underlying hu]
theorem aMG(w:World)(n:Nat)(t:TypeId){f:Array (String×TypeId)}(hu:P.underlying t=some (.interface f)):(Op.equalIn (n+1) t .nilIface .nilIface).run P w=.ok true w:=by simp[Op.equalIn,run_underlying hu]
theorem aMD(w:World)(n:Nat)(t:TypeId){f:Array (String×TypeId)}(u:TypeId)(v:Value)(hu:P.underlying t=some (.interface f)):(Op.equalIn (n+1) t (.iface u v) .nilIface).run P w=.ok false w:=by simp[Op.equalIn,run_underlying hu]
theorem aJp{x:Operand}{t u:TypeId}{v:Value}{b:Bool}(hx:e.ev x=some v)(hv:(v=.nilIface∧b=true)∨(∃u y,v=.iface u y)∧b=false)(ht:isIface P t=true:=by kernel_rfl):bU P N w0 e R H ⟨some d,.binOp .eql t x (.const .nilIface) u,ty,pos,aH,none⟩ (.bool b):=iM fun a w hr=>by
 have h2:=hr.ev (show e.ev (.const .nilIface)=some .nilIface from rfl)
 unfold isIface at ht;split at ht
 ·rename_i f1 hu
  rcases hv with⟨rfl,rfl⟩ | ⟨⟨u,y,rfl⟩,rfl⟩
  ·have h4:(Op.equal t .nilIface .nilIface).run P w=.ok true w:=aMG w 9999 t hu
   simp[execOp,hr.ev hx,h2,eqGuard,binOp,h4]
  ·have h4:(Op.equal t (.iface u y) .nilIface).run P w=.ok false w:=aMD w 9999 t u y hu
   simp[execOp,hr.ev hx,h2,eqGuard,binOp,h4]
 ·cases ht
theorem aFM(i:Nat){dst:Option Nat}{e':Env}{f:FuncId}{x:Operand}{name:String}{args:List Operand}{vs:List Value}{tys:Array TypeId}{tx:TypeId}{u u':Value}{p:HP}{v:Value}(q:HP)(hf:fI P f=true)(hx:e.ev x=some (.iface tx u))(hm:∀w,(method (P.types.size+Made.depth) tx u name).run P w=.ok (f,u') w)(ha:e.fT args=some vs)(hi:H[i]? =some p)
  (hd:match dst with | some d=>d < N.n∧e'=(d,v)::e | none=>e'=e)
  (hc:∀w F,St w0 R H w→p.sat F w→(∀b,F b→b < w.heap.size)→(∀q∈R,q.Le ⟨w,fun b=>b < w.heap.size∧¬F b⟩)→Calls P f (u'::vs).toArray w fun y w'=>y=.returned v∧∃F',q.sat F' w'∧gX w w' F F')
  (k:XK N w0 (wpList P ops Q rest) e' R (H.set i q)):XK N w0 (wpList P ops Q (⟨dst,.call {callee:=.invoke x name,args:=args.toArray,argTypes:=tys},ty,pos,aH,none⟩::rest)) e R H:=fun a w hr st=>wpList_plain rfl fun K hK=>by
 unfold fI at hf;cases hq:P.funcs[f]? with
 | none=>simp[hq] at hf
 | some fn =>
  simp[hq] at hf;obtain⟨gN,nX⟩:=hf
  have hrun:(execOp a.eval (⟨dst,.call {callee:=.invoke x name,args:=args.toArray,argTypes:=tys},ty,pos,aH,none⟩:Oper)).run P w=.ok (.enter f (u'::vs).toArray) w:=by
   cases hb:fn.body with
   | none=>simp[hb] at nX
   | some c=>
    have h0:(#[Value.iface tx u]++(args.toArray.map a.eval))[0]? =some (.iface tx u):=by simp[Array.getElem?_append]
    simp[execOp,resolve,hr.ev hx,invoke,callMethod,hm,callFunc,hq,gN,hb,hr.fT ha]
  obtain⟨Z,F,hz,cF,hs,dD,dY⟩:=st.ex;unfold Oper.wp;rw[hrun];refine(hc w (F i) st (hs i p hi) (fun b hb=>(dD i b hb).2) (fun q hq b hb=>⟨⟨hz b (cF q hq b hb).1,fun pY=>(dD i b pY).1 (cF q hq b hb).1⟩,(cF q hq b hb).2⟩)).mono fun y w' ⟨hy,F',mJ,ht⟩=>?_;subst hy
  have st':St w0 R (H.set i q) w':=by
   have hlt:i < H.length:=by
    rcases Nat.lt_or_ge i H.length with h | h
    ·exact h
    ·rw[List.getElem?_eq_none h] at hi;cases hi
   refine⟨ht.os.trans st.os,ht.tape.trans st.tape,ht.output.trans st.output,Nat.le_trans st.size ht.size,Z,fun j=>if j=i then F' else F j,fun b h=>Nat.lt_of_lt_of_le (hz b h) ht.size,fun p hp b h=>?_,fun j r hj=>?_,fun j b h=>?_,fun j k b lH h=>?_⟩
   ·exact⟨(cF p hp b h).1,(ht.old b (hz b (cF p hp b h).1) (fun pY=>(dD i b pY).1 (cF p hp b h).1)).trans (cF p hp b h).2⟩
   ·rw[List.getElem?_set] at hj;split at hj
    ·rename_i e;subst e
     first | (rw[if_pos hlt] at hj;cases hj) | cases hj
     simpa using mJ
    ·rename_i e
     simp only[if_neg (Ne.symm e)];exact r.loc _ _ _ (hs j r hj) (fun b hb=>ht.old b (dD j b hb).2 (dY j i b (Ne.symm e) hb))
   ·dsimp only at h;split at h
    ·refine⟨fun gA=>?_,(ht.new b h).2⟩;rcases(ht.new b h).1 with h | h
     ·exact(dD i b h).1 gA
     ·have:=hz b gA;omega
    ·exact⟨(dD j b h).1,Nat.lt_of_lt_of_le (dD j b h).2 ht.size⟩
   ·dsimp only at h⊢;split at h<;>split
    ·rename_i h1 h2;omega
    ·rename_i e1 e2
     intro hk;rcases(ht.new b h).1 with h | h
     ·exact dY i k b (by omega) h hk
     ·have:=(dD k b hk).2;omega
    ·rename_i e1 e2
     intro hk;rcases(ht.new b hk).1 with hk | hk
     ·exact dY j i b (by omega) h hk
     ·have:=(dD j b h).2;omega
    ·exact dY j k b lH h
  cases dst with
  | none=>dsimp only at hd;subst hd;exact hK _ _ (k _ _ hr st')
  | some d=>dsimp only at hd;obtain⟨hd,rfl⟩:=hd;exact hK _ _ (k _ _ (hr.put hd v) st')
end
end
section
structure Cn where
 l:List (Int×Int)
 iZ:Bool
def nO(nd:Nat)(c:Cn)(dev:Int):Int×Cn:=if c.iZ then(6,c) else if ¬(0≤dev∧dev < nd) then(4,c) else if 7≤fX c.l dev then(8,c) else(0,⟨Cr c.l dev (IntKind.i64.wrap (fX c.l dev+1)),c.iZ⟩)
def kA(nd:Nat)(c:Cn)(dev:Int):Int×Cn:=if c.iZ then(6,c) else if ¬(0≤dev∧dev < nd) then(4,c) else if fX c.l dev≤0 then(6,c) else(0,⟨Cr c.l dev (IntKind.i64.wrap (fX c.l dev - 1)),c.iZ⟩)
def sE(c:Cn):Int×Cn:=if c.iZ then(6,c) else(0,⟨c.l,true⟩)
def sF(c:Cn):Int×Cn:=if c.iZ then(0,⟨c.l,false⟩) else(6,c)
def nZ(gc gm:Nat)(v:Value)(c:Cn):HP:=HP.many [HP.aE gc 160 [v,.map (some gm),.bool c.iZ],HP.map gm (tB c.l)]
section
variable{N:cE}{w0:World}{e:Env}{R:List Piece}{H:List HP}{Q:Exit→Act→World→Prop}{ops:Array Oper}{rest:List Oper}{d:Nat}{ty:TypeId}{pos:String}{aH:Array Edge}
theorem Ra{x y:Operand}(i:Nat){r:Nat}{l:List (Int×Int)}{k:Int}(hi:H[i]? =some (HP.map r (tB l)))(kk:XK N w0 (wpList Tryz.prog ops Q rest) ((d,iv (fX l k))::e) R H)(hx:e.ev x=some (.map (some r)):=by rfl)(hy:e.ev y=some (iv k):=by rfl)(hd:d < N.n:=by decide):
  XK N w0 (wpList Tryz.prog ops Q (⟨some d,.lookup 158 x y false,ty,pos,aH,none⟩::rest)) e R H:=by
 refine aAw (kt:=3) (et:=3) (kd:=.i64) (z:=iv 0) (l:=tB l) false (by kernel_rfl) (by kernel_rfl) (by kernel_rfl) hx hy (fun w1 st=>st.map hi) hd ?_;simp only[Bool.false_eq_true,if_false,aHF];exact kk
theorem aHR{x y u:Operand}(i:Nat){r:Nat}{l:List (Int×Int)}{k v:Int}(hi:H[i]? =some (HP.map r (tB l)))(kk:XK N w0 (wpList Tryz.prog ops Q rest) e R (H.set i (HP.map r (tB (Cr l k v)))))(hx:e.ev x=some (.map (some r)):=by rfl)(hy:e.ev y=some (iv k):=by rfl)(hu:e.ev u=some (iv v):=by rfl):
  XK N w0 (wpList Tryz.prog ops Q (⟨none,.mapUpdate 158 x y u,ty,pos,aH,none⟩::rest)) e R H:=by
 refine Jm (kt:=3) (et:=3) (kd:=.i64) (l:=tB l) i (by kernel_rfl) (by kernel_rfl) hi hx hy hu ?_;rw[aH9];exact kk
end
theorem aJ0(gc n k:Nat)(A:Option Addr)(dev:Int)(w:World)(h0:fQ w gc 0 (.slice A n k)):
  Cz 64 #[pt gc,iv dev] w (Rt (.bool (bB n dev)) w):=by
 refine aM func64 ntmps64 ?_;refine aA ?_;refine bQ (t:=7) rfl (fun h=>?_) (fun h=>?_)
 ·refine aA ?_;refine kB (by simp) ?_;unfold bB
  congr 1
  simp;omega
 ·refine aA ?_;refine kB (by simp) ?_
  have:bB n dev=false:=decide_eq_false (by omega)
  rw[this]
section
variable(gc gm n k:Nat)(A:Option Addr)(c:Cn)(w:World)(F:Nat→Prop)
theorem aJ1(dev:Int)(hp:(nZ gc gm (.slice A n k) c).sat F w)(hF:∀b,F b→b < w.heap.size):
  Cz 25 #[pt gc,iv dev] w (Wr (iv (nO n c dev).1) (nZ gc gm (.slice A n k) (nO n c dev).2) w F):=by
 refine dJ func25 ntmps25 hp hF ?_;obtain⟨l,iZ⟩:=c;unfold nZ nO;dsimp only;refine bF 0 0 ?_;refine bF 1 1 ?_;cases iZ
 ·refine aA ?_;refine aU (fun w1 t=>aJ0 gc n k A dev w1 ((uV (t.aE (i:=1) rfl)).at_ (j:=0) rfl)) ?_
  by_cases hin:0≤dev∧dev < (n:Int)
  ·rw[show bB n dev=true from decide_eq_true hin,if_neg (by simp),if_neg (by simpa using hin)];refine aA ?_;refine Ra 0 rfl ?_;refine dS ?_;refine aA ?_;refine aG rfl (fun h7=>?_) (fun h7=>?_)
   ·rw[if_pos (by omega)];refine aA ?_;refine aN 1 1 ?_;refine aN 0 0 ?_;exact cG 0 hF
   ·rw[if_neg (by omega)];refine aA ?_;refine Ra 0 rfl ?_;refine kd (Oe rfl rfl rfl) ?_;refine aHR 0 rfl ?_;dsimp only[List.set];refine aA ?_;refine aN 1 1 ?_;refine aN 0 0 ?_;exact cG 0 hF
  ·rw[show bB n dev=false from decide_eq_false hin,if_neg (by simp),if_pos (by simpa using hin)];refine aA ?_;refine aN 1 1 ?_;refine aN 0 0 ?_;exact cG 0 hF
 ·rw[if_pos rfl];refine aA ?_;refine aN 1 1 ?_;refine aN 0 0 ?_;exact cG 0 hF
theorem aJy(dev:Int)(hp:(nZ gc gm (.slice A n k) c).sat F w)(hF:∀b,F b→b < w.heap.size):
  Cz 28 #[pt gc,iv dev] w (Wr (iv (kA n c dev).1) (nZ gc gm (.slice A n k) (kA n c dev).2) w F):=by
 refine dJ func28 ntmps28 hp hF ?_;obtain⟨l,iZ⟩:=c;unfold nZ kA;dsimp only;refine bF 0 0 ?_;refine bF 1 1 ?_;cases iZ
 ·refine aA ?_;refine aU (fun w1 t=>aJ0 gc n k A dev w1 ((uV (t.aE (i:=1) rfl)).at_ (j:=0) rfl)) ?_
  by_cases hin:0≤dev∧dev < (n:Int)
  ·rw[show bB n dev=true from decide_eq_true hin,if_neg (by simp),if_neg (by simpa using hin)];refine aA ?_;refine Ra 0 rfl ?_;refine dS ?_;refine aA ?_;refine aG rfl (fun h7=>?_) (fun h7=>?_)
   ·rw[if_pos (by omega)];refine aA ?_;refine aN 1 1 ?_;refine aN 0 0 ?_;exact cG 0 hF
   ·rw[if_neg (by omega)];refine aA ?_;refine Ra 0 rfl ?_;refine kd (Oc rfl rfl rfl) ?_;refine aHR 0 rfl ?_;dsimp only[List.set];refine aA ?_;refine aN 1 1 ?_;refine aN 0 0 ?_;exact cG 0 hF
  ·rw[show bB n dev=false from decide_eq_false hin,if_neg (by simp),if_pos (by simpa using hin)];refine aA ?_;refine aN 1 1 ?_;refine aN 0 0 ?_;exact cG 0 hF
 ·rw[if_pos rfl];refine aA ?_;refine aN 1 1 ?_;refine aN 0 0 ?_;exact cG 0 hF
theorem aJw(hp:(nZ gc gm (.slice A n k) c).sat F w)(hF:∀b,F b→b < w.heap.size):
  Cz 26 #[pt gc] w (Wr (iv (sE c).1) (nZ gc gm (.slice A n k) (sE c).2) w F):=by
 refine dJ func26 ntmps26 hp hF ?_;obtain⟨l,iZ⟩:=c;unfold nZ sE;dsimp only;refine bF 0 0 ?_;cases iZ
 ·refine aA ?_;refine aN 0 0 ?_;exact cG 0 hF
 ·refine aA ?_;refine aN 0 0 ?_;exact cG 0 hF
theorem aJx(hp:(nZ gc gm (.slice A n k) c).sat F w)(hF:∀b,F b→b < w.heap.size):
  Cz 27 #[pt gc] w (Wr (iv (sF c).1) (nZ gc gm (.slice A n k) (sF c).2) w F):=by
 refine dJ func27 ntmps27 hp hF ?_;obtain⟨l,iZ⟩:=c;unfold nZ sF;dsimp only;refine bF 0 0 ?_;cases iZ
 ·refine aA ?_;refine aN 0 0 ?_;exact cG 0 hF
 ·refine aA ?_;refine aN 0 0 ?_;exact cG 0 hF
end
theorem aJ3(gc:Nat)(b:Bool)(w:World)(h2:fQ w gc 2 (.bool b)):Cz 29 #[pt gc] w (Rt (.bool b) w):=by
 refine aM func29 ntmps29 ?_;refine aA ?_;exact cY
theorem aSB(gc gm:Nat)(v:Value)(c:Cn)(dev:Int)(w:World)(F:Nat→Prop)(hp:(nZ gc gm v c).sat F w)(hF:∀b,F b→b < w.heap.size):
  Cz 32 #[pt gc,iv dev] w (Wr (iv (fX c.l dev)) (nZ gc gm v c) w F):=by
 refine dJ func32 ntmps32 hp hF ?_;unfold nZ;refine bF 0 0 ?_;refine bF 1 1 ?_;refine aA ?_;refine Ra 0 rfl ?_;refine dS ?_;refine aA ?_;refine aN 1 1 ?_;refine aN 0 0 ?_;exact cG 0 hF
end
section
theorem aT7{P:Program}{w:World}{t ty e:TypeId}{i:TypeInfo}(ht:P.underlying t=some (.slice e))(hi:P.info? e=some i)(A:Option Addr)(x:Value){m c:Nat}{B:Option Addr}(hx:x=.slice B m c)(hm:0 < m)(hb:m*i.bytes≤140737488355328):
  (Builtin.append_ #[t,t] ty #[.slice A 0 0,x]).run P w=(Builtin.append_ #[t,t] ty #[sn,x]).run P w:=by
 subst hx
 have h0:¬0+m≤0:=by omega
 have hn:Builtin.nextslicecap (0+m) 0=m:=by
  unfold Builtin.nextslicecap;rw[Nat.zero_add];simp;omega
 have hcap:¬(Builtin.nextslicecap (0+m) 0*i.bytes>2 ^ 48):=by
  rw[hn];omega
 have hm0:¬m=0:=by omega
 have qO:¬(281474976710656 < Builtin.nextslicecap m 0*i.bytes):=by
  rw[←Nat.zero_add m]
  simpa using hcap
 cases A with
 | none=>rfl
 | some a=>simp[Builtin.append_,run_underlying ht,sizeOf,typeInfo,hi,Builtin.lenOf,Builtin.firstCells,h0,hcap,hm0,qO,loadCells,loadCellsFrom]
section
variable{P:Program}{ops:Array Oper}{Q:Exit→Act→World→Prop}{N:cE}{w0:World}{e e':Env}{R R':List Piece}{H H':List HP}{rest:List Oper}{d:Nat}{ty:TypeId}{pos:String}{aH:Array Edge}
theorem aLt(sz bytes m:Nat){x y:Operand}{t el:TypeId}{c':Nat}{A0 A:Option Addr}{news:List Value}(ht:P.underlying t=some (.slice el))(hT:(P.info? el).map (fun i=>(i.zero.map (fun z=>z.cells.size),i.size,i.bytes))=some (some sz,sz,bytes))(hpos:0 < sz)
  (hx:e.ev x=some (.slice A0 0 0)) (hy:e.ev y=some (.slice A m c')) (hs:∀w,St w0 R H w→∃B,Sl w B sz A m news) (h1:∀u∈news,u.oneCell'=true) (hm:0 < m) (h63:(m:Int)≤9223372036854775807) (hbytes:m*bytes≤140737488355328) (hd:d < N.n)
  (k:∀A' k',XK N w0 (wpList P ops Q rest) ((d,.slice A' m k')::e) R (HP.own el sz (.slice A' m k') m news::H)):
  XK N w0 (wpList P ops Q (⟨some d,.call {callee:=.builtin .append,args:=#[x,y],argTypes:=#[t,t]},ty,pos,aH,none⟩::rest)) e R H:=by
 obtain⟨ti,z,nI,hz,hsz,hby,hzs⟩:=aDE hT;refine vH rfl fun a w hr st=>?_;obtain⟨B,qN⟩:=hs w st;obtain⟨v',w',hrun,h2,h3,h4⟩:=aGG (P:=P) w w.heap.size t ty el ti z sz bytes ht nI hz hsz hby hzs hpos (sn) 0 [] (World.ownsRow_nil _ _ _ _) B A m c' news qN h1 (by unfold maxLen;omega) (by simpa using hbytes) (Nat.le_refl _);rw[Nat.zero_add,List.nil_append] at h2;obtain⟨A',k',rfl,_⟩:=aHr h2;rw[←aT7 ht nI A0 (.slice A m c') rfl hm (by rw[hby];exact hbytes)] at hrun
 have hb:Below w.heap.size w w':=⟨h3.os,h3.tape,h3.output,h3.size,fun b hb=>h3.block b hb (fun he=>by cases he)⟩
 refine⟨_,w',by simp only[execOp,resolve,invoke,builtin,hr.ev hx,hr.ev hy,List.map_toArray,List.map_cons,List.map_nil,Sem.run_bind,Sem.run_pure,Result.andThen_ok,hrun],k A' k' _ _ (hr.put hd _) (st.new hb ⟨fun g hg=>?_,?_⟩)⟩
 ·have:=h2.lt _ hg
  exact this
 ·exact⟨h2.1,h2.2.imp id fun⟨g,cap,cur,e1,_,e3⟩=>⟨g,cap,cur,e1,Nat.zero_le _,e3⟩⟩
end
section
variable{N:cE}{w0:World}{e:Env}{R:List Piece}{H:List HP}{d:Nat}{ty:TypeId}{pos:String}{aH:Array Edge}
theorem aSh{x lo hi mx:Operand}{t el:TypeId}{A:Option Addr}{n c l h m sz:Nat}{kl kh km:IntKind}[hT:kO t el sz](hx:e.ev x=some (.slice A n c))(hl:e.ev lo=some (.int kl (l:Int)))(hh:e.ev hi=some (.int kh (h:Int)))(hm:e.ev mx=some (.int km (m:Int)))(h1:l≤h)(h2:h≤m)(h3:m≤c):
  bU Tryz.prog N w0 e R H ⟨some d,.slice t x (some lo) (some hi) (some mx),ty,pos,aH,none⟩ (.slice (if m=l then A else A.map (·.add (l*sz))) (h - l) (m - l)):=iM fun a w hr=>by
 obtain⟨i0,pK,hz⟩:=Option.map_eq_some_iff.1 hT.s;simp[execOp,hr.ev hx,hr.ev hl,hr.ev hh,hr.ev hm,Instr.sliceAt,Instr.slice,Instr.sliceBounds,run_sliceBound,run_underlying hT.h,sizeOf,typeInfo,pK,hz,h1,h2,h3]
theorem aJk{x lo:Operand}{t el:TypeId}{A:Option Addr}{n c l sz:Nat}{kl:IntKind}[hT:kO t el sz](hx:e.ev x=some (.slice A n c))(hl:e.ev lo=some (.int kl (l:Int)))(h1:l≤n):
  bU Tryz.prog N w0 e R H ⟨some d,.slice t x (some lo) none none,ty,pos,aH,none⟩ (.slice (if c=l then A else A.map (·.add (l*sz))) (n - l) (c - l)):=iM fun a w hr=>by
 obtain⟨i0,pK,hz⟩:=Option.map_eq_some_iff.1 hT.s;simp[execOp,hr.ev hx,hr.ev hl,Instr.sliceAt,Instr.slice,Instr.sliceBounds,run_sliceBound,run_underlying hT.h,sizeOf,typeInfo,pK,hz,h1]
theorem aUe{K:Act→World→Prop}(i:Nat){n sz:Nat}{t:TypeId}{v:Value}{xs:List Value}(hi:H[i]? =some (HP.own t sz v n xs))(hn:0 < n)(h:∀g c,v=.slice (some ⟨g,0,none⟩) n c→n≤c→XK N w0 K e R H):XK N w0 K e R H:=fun a w hr st=>by
 obtain⟨_,h2⟩:=st.own hi;rcases h2 with⟨_,h3⟩ | ⟨g',cap,cur,hv,_,_,h3,_⟩
 ·omega
 ·exact h g' cap hv h3 a w hr st
theorem aUj{K:Act→World→Prop}(j i:Nat){p:Prop}{ps:List HP}(hj:H[j]? =some (HP.many ps))(hi:ps[i]? =some (Pm p))(h:p→XK N w0 K e R H):XK N w0 K e R H:=fun a w hr st=>by
 obtain⟨F,hF⟩:=(st.take hj hi).sat (i:=0) rfl;exact h hF a w hr st
end
def wL(g n:Nat)(vs:List Value)(ws:List (Option jC)):List HP:=HP.aE g 267 vs::Pm (vs.length=n)::(List.range n).map fun i=>QH (vs.getD i undef) (ws[i]?).join
theorem aLE{g n i:Nat}{vs:List Value}{ws:List (Option jC)}(hi:i < n):(wL g n vs ws)[i+2]? =some (QH (vs.getD i undef) (ws[i]?).join):=by
 unfold wL;rw[List.getElem?_cons_succ,List.getElem?_cons_succ,List.getElem?_map,List.getElem?_range hi];rfl
theorem aLF{g n i:Nat}{vs:List Value}{ws:List (Option jC)}{v:Value}{q:Option jC}(hi:i < n)(hv:vs.length=n)(hw:ws.length=n):
  (((((wL g n vs ws).set 0 cJ).set (i+2) cJ).set (i+2) (QH v q)).set 0 (HP.aE g 267 (vs.set i v)))=wL g n (vs.set i v) (ws.set i q):=by
 refine List.ext_getElem? fun k=>?_
 match k with
 | 0=>rfl
 | 1=>
  show some (Pm (vs.length=n))=some (Pm ((vs.set i v).length=n))
  rw[List.length_set]
 | k + 2 =>
  unfold wL;simp only[List.set_cons_zero,List.set_cons_succ,List.getElem?_cons_succ,List.set_set,List.getElem?_map];rw[List.getElem?_set]
  by_cases h:i=k
  ·subst h;rw[if_pos rfl,if_pos (by simpa using hi),List.getElem?_range hi];simp only[Option.map_some];rw[List.getD_eq_getElem?_getD,List.getElem?_set_self (by omega),List.getElem?_set_self (by omega)];rfl
  ·rw[if_neg h,List.getElem?_map];cases hr:(List.range n)[k]? with
   | none=>rfl
   | some j=>
    obtain⟨_,rfl⟩:=List.getElem?_eq_some_iff.1 hr;simp only[List.getElem_range,Option.map_some];rw[List.getD_eq_getElem?_getD,List.getD_eq_getElem?_getD,List.getElem?_set_ne h,List.getElem?_set_ne h]
section
variable{N:cE}{w0:World}{e:Env}{R:List Piece}{H:List HP}{K:Act→World→Prop}{L:BL}{ms:List Int}{ws:List (Option jC)}{aS:Int}
def Zi(L:BL)(ms:List Int)(aS:Int):List Value:=[.slice (some ⟨L.gr,0,none⟩) ms.length ms.length,.slice (some ⟨L.gw,0,none⟩) ms.length ms.length,iv aS]
def aGf(L:BL)(ms:List Int)(ws:List (Option jC))(vs:List Value)(i:Nat):HP:=HP.many (((wL L.gw ms.length vs ws).set 0 cJ).set (i+2) cJ)
theorem aKs(j i:Nat)(hj:H[j]? =some (zK L ms ws aS))(hi:i < ms.length)(h:∀vs:List Value,vs.length=ms.length→
      XK N w0 K e R (QH (vs.getD i undef) (ws[i]?).join::HP.aE L.gw 267 vs::aGf L ms ws vs i::HP.aE L.b 270 (Zi L ms aS)::H.set j (HP.many [cJ,HP.aE L.gr 3 (aK ms),cJ]))):XK N w0 K e R H:=by
  have hlt:=(List.getElem?_eq_some_iff.1 hj).1
  refine tC j 0 hj rfl ?_;refine tC (j+1) 2 (by rw[List.getElem?_cons_succ,List.getElem?_set_self hlt]) rfl ?_;refine aCe 0 rfl fun vs=>?_;refine aUj 0 1 rfl rfl fun hv=>?_;refine tC 0 0 rfl rfl ?_;refine tC 1 (i+2) rfl (p:=QH (vs.getD i undef) (ws[i]?).join) ?_ ?_
  · show((wL L.gw ms.length vs ws).set 0 cJ)[i+2]? =_
    rw[List.getElem?_set_ne (by omega),aLE hi]
  · have h:=h vs hv
    simp only[List.set_cons_succ,List.set_cons_zero,List.set_set];exact h
theorem aKx(j i:Nat){vs:List Value}{v:Value}{q:Option jC}(hj:H[j]? =some (HP.many [cJ,HP.aE L.gr 3 (aK ms),cJ]))(hi:i < ms.length)(hv:vs.length=ms.length)(hw:ws.length=ms.length)
  (h:XK N w0 K e R (H.set j (zK L ms (ws.set i q) aS))):XK N w0 K e R (QH v q::HP.aE L.gw 267 (vs.set i v)::aGf L ms ws vs i::HP.aE L.b 270 (Zi L ms aS)::H):=by
 have hlt:=(List.getElem?_eq_some_iff.1 hj).1
 have hlen:(wL L.gw ms.length vs ws).length=ms.length+2:=by simp[wL]
 refine tD 1 (i+2) rfl ?_ ?_
 ·rw[List.getElem?_set_self (by simp[hlen];omega)]
 dsimp only[List.set];refine tD 0 0 rfl ?_ ?_
 ·rw[List.set_set,List.getElem?_set_ne (by omega),List.getElem?_set_self (by simp[hlen])]
 rw[aLF hi hv hw];dsimp only[List.set];refine xI 0 (f:=fun vs:List Value=>HP.many (wL L.gw ms.length vs (ws.set i q))) (vs.set i v) rfl ?_;dsimp only[List.set];refine tD (j+1) 2 (by rw[List.getElem?_cons_succ];exact hj) rfl ?_;dsimp only[List.set];refine tD j 0 (by rw[List.getElem?_set_self hlt]) rfl ?_;rw[List.set_set];exact h
end
theorem aTu(L:BL)(ms:List Int)(ws:List (Option jC))(aS:Int)(i:Nat)(hi:i < ms.length)(hw:ws.length=ms.length)(t:jC)(ht:(ws[i]?).join=some t)(w:World)(F:Nat→Prop)(hp:(zK L ms ws aS).sat F w)(hF:∀b,F b→b < w.heap.size):
  Cz 108 #[.pointer (some ⟨L.b,0,none⟩),iv (i:Int)] w (Wr (.tuple #[.agg #[iv t.id,.bool t.wr,iv t.bY,.int .u32 t.val],.bool true]) (zK L ms (ws.set i none) aS) w F):=by
 have hin:bB ms.length (i:Int)=true:=decide_eq_true (by omega)
 refine dJ func108 ntmps108 hp hF ?_;generalize cM:(⟨w,fun b=>b < w.heap.size∧¬F b⟩:Piece)=R0;refine aA ?_;refine bX fun g1=>?_;refine aA ?_;refine aU (fun w1 st=>aBP L ms ws aS i w1 (st.aJM 1 rfl)) ?_;rw[hin];refine aKs 1 i rfl hi fun vs hv=>?_;rw[ht];dsimp only[List.set];refine aUe 0 rfl (by decide) fun g c hg hc=>?_
 have Wm:vs[i]? =some (.slice (some ⟨g,0,none⟩) 1 c):=by
  obtain⟨v,h1⟩:=get_some (l:=vs) (i:=i) (by omega);rw[List.getD_eq_getElem?_getD,h1] at hg;rw[h1];exact congrArg some hg
 rw[hg];refine aA ?_;refine kd (dat i i) ?_;refine aA ?_;refine kd (bN rfl (Rd.aE 1 rfl Wm)) ?_;refine aA ?_;refine kd (dat i i) ?_;refine aA ?_;refine kd (bN rfl (Rd.aE 1 rfl Wm)) ?_;refine aA ?_;refine jO [1,2,3,7,9,10,11] ?_;refine bT 0 ?_;refine aJ 1 ?_;refine aJ 2 ?_;refine aJ 3 ?_;refine bT 4 ?_;refine bT 5 ?_;refine bT 6 ?_;refine aJ 7 ?_;refine bT 8 ?_;refine aJ 9 ?_;refine aJ 10 ?_ (hi:=rfl) (dH:=aSh (l:=1) (h:=1) (m:=1) rfl rfl rfl rfl (by omega) (by omega) hc);refine aJ 11 ?_ (hi:=rfl) (dH:=dat i i);refine aL 12 ?_;refine fD rfl rfl ?_ (hs:=eN.mk 1 rfl cI.h rfl (by omega));dsimp only[List.set];refine cT ?_;refine fE ?_;refine aA ?_;refine kd (dat 0 0) ?_;refine kd (pM rfl (aQ.of fun j v hv=>by rw[Nat.zero_add];exact Rd.own 0 rfl hv)) ?_;refine oL 4 rfl ?_;dsimp only[List.set];refine aA ?_;refine Bp (q:=QH (.slice (some ⟨g,0,none⟩) 0 0) none) 0 rfl (fun _ _ _=>⟨_,rfl⟩) ?_;refine aKx 1 i rfl hi hv hw ?_;dsimp only[List.set];subst cM;exact xJ (vs:=[iv t.id,.bool t.wr,iv t.bY,.int .u32 t.val]) rfl (by kernel_rfl) rfl rfl (aQ.whole 0 rfl) rfl fun w1 st=>⟨rfl,st.turns hF (by simp) (i:=1) rfl⟩
end
section
theorem aBO(w0 low many:Int)(w:World)(hok:okF low many)(hr:0≤cN w0 low many∧cN w0 low many < 4294967296):
  Cz 296 #[.int .u32 w0,iv low,iv many] w (Rt (iv (cN w0 low many)) w):=by
 refine aM func296 ntmps296 ?_;refine aA ?_;refine aU (fun w1 t=>aIF w0 low many w1 hok) ?_;refine aA ?_;refine kd (Lg (ds:=.int .u32) (kd:=.i64) (c:=cN w0 low many) (by kernel_rfl) (by kernel_rfl) rfl (iR (by omega))) ?_;refine aA ?_;exact cY
theorem aB3(w low many:Int):0≤cN w low many∧cN w low many < 4294967296:=Pz _
theorem aJL(a dev bY:Int)(h0:cN a 0 2=0)(h1:cN a 24 8=0)(h2:cN a 16 8=dev)(h3:cN a 2 14=bY)(w:World):
  Cz 294 #[.int .u32 a] w (Rt (.tuple #[iv dev,iv bY]) w):=by
 refine aM func294 ntmps294 ?_;refine aA ?_;refine aU (fun w1 t=>aBO a 0 2 w1 (by unfold okF;omega) (aB3 _ _ _)) ?_;rw[h0];refine aA ?_;refine aU (fun w1 t=>aBO a 24 8 w1 (by unfold okF;omega) (aB3 _ _ _)) ?_;rw[h1];refine aA ?_;refine aU (fun w1 t=>aBO a 16 8 w1 (by unfold okF;omega) (aB3 _ _ _)) ?_;rw[h2];refine aA ?_;refine aU (fun w1 t=>aBO a 2 14 w1 (by unfold okF;omega) (aB3 _ _ _)) ?_;rw[h3];refine aA ?_;exact eL rfl rfl rfl fun w1 t=>⟨rfl,t.below (by simp)⟩
def Tg(dev bY:Int):Int:=(zU (zU 0 16 8 dev).1 2 14 bY).1
structure aUR(dev bY:Int):Prop where
 p1:(zU 0 16 8 dev).2=0
 p2:(zU (zU 0 16 8 dev).1 2 14 bY).2=0
 z0:cN (Tg dev bY) 0 2=0
 z1:cN (Tg dev bY) 24 8=0
 z2:cN (Tg dev bY) 16 8=dev
 z3:cN (Tg dev bY) 2 14=bY
theorem aJZ{dev bY:Int}(h1:0≤dev∧dev < 4)(h2:0≤bY∧bY < 4):aUR dev bY:=by
 have hd:dev=0∨dev=1∨dev=2∨dev=3:=by omega
 have hr:bY=0∨bY=1∨bY=2∨bY=3:=by omega
 rcases hd with rfl | rfl | rfl | rfl<;>rcases hr with rfl | rfl | rfl | rfl<;>exact⟨by decide+kernel,by decide+kernel,by decide+kernel,by decide+kernel,by decide+kernel,by decide+kernel⟩
theorem aTy(dev bY:Int)(hd:0≤dev∧dev < 4)(hr:0≤bY∧bY < 4)(w:World):
  Cz 292 #[iv dev,iv bY] w (Rt (.tuple #[.int .u32 (Tg dev bY),iv 0]) w):=by
 have ha:=aJZ hd hr
 refine aM func292 ntmps292 ?_;refine aA ?_;refine bQ (t:=10) rfl (fun h=>absurd h (by omega)) (fun _=>?_);refine aA ?_;refine bQ (t:=14) rfl (fun h=>absurd h (by omega)) (fun _=>?_);refine aA ?_;refine bQ (t:=18) rfl (fun h=>absurd h (by omega)) (fun _=>?_);refine aA ?_;refine aG rfl (fun h=>absurd h (by omega)) (fun _=>?_);refine aA ?_;refine kd (Lg (ds:=.int .i64) (kd:=.u32) (c:=dev) (by kernel_rfl) (by kernel_rfl) rfl (wrap_u32 (by omega))) ?_;refine aU (fun w1 t=>aDg 0 16 8 dev w1 (by unfold okF;omega)) ?_;rw[ha.p1];refine aA ?_;refine kd (Lg (ds:=.int .i64) (kd:=.u32) (c:=bY) (by kernel_rfl) (by kernel_rfl) rfl (wrap_u32 (by omega))) ?_;refine aU (fun w1 t=>aDg _ 2 14 bY w1 (by unfold okF;omega)) ?_;rw[ha.p2];refine aA ?_;exact eL rfl rfl rfl fun w1 t=>⟨rfl,t.below (by simp)⟩
theorem aTw(L:BL)(ms:List Int)(ws:List (Option jC))(aS:Int)(i:Nat)(hi:i < ms.length)(hml:ms.length≤6)(hw:ws.length=ms.length)(h0:(ws[i]?).join=none)(a bY:Int)(z0:cN a 0 2=0)(z1:cN a 24 8=0)(z2:cN a 16 8=i)(z3:cN a 2 14=bY)(m:Int)(hm:ms[i]? =some m)(hr:0≤bY∧bY < m)(b:Bool)(v:Int)(lV:0≤aS∧aS≤1000000000)(w:World)(F:Nat→Prop)(hp:(zK L ms ws aS).sat F w)(hF:∀b,F b→b < w.heap.size):
  Cz 295 #[.pointer (some ⟨L.b,0,none⟩),.int .u32 a,.bool b,.int .u32 v] w (Wr (.tuple #[iv aS,iv 0]) (zK L ms (ws.set i (some ⟨aS,b,bY,v⟩)) (aS+1)) w F):=by
 have hin:bB ms.length (i:Int)=true:=decide_eq_true (by omega)
 have hmi:(aK ms)[i]? =some (iv m):=by simp[aK,hm]
 refine dJ func295 ntmps295 hp hF ?_;generalize cM:(⟨w,fun b=>b < w.heap.size∧¬F b⟩:Piece)=R0;refine aA ?_;refine aU (fun w1 t=>aJL a i bY z0 z1 z2 z3 w1) ?_;refine aA ?_;refine aU (fun w1 st=>aBP L ms ws aS i w1 (st.aJM 0 rfl)) ?_;rw[hin];refine aKs 0 i rfl hi fun vs hv=>?_;rw[h0];dsimp only[List.set];refine bF 4 1 ?_;refine aUk (p:=∃A,vs.getD i undef=.slice A 0 0) 1 rfl fun⟨A,hA⟩=>?_
 have Wm:vs[i]? =some (.slice A 0 0):=by
  obtain⟨u,h1⟩:=get_some (l:=vs) (i:=i) (by omega);rw[List.getD_eq_getElem?_getD,h1] at hA;rw[h1];exact congrArg some hA
 refine aA ?_;refine bQ (t:=26) rfl (fun h=>absurd h (by omega)) (fun _=>?_);refine aA ?_;refine kd (dat i i) ?_;refine aA ?_;refine kd (bN rfl (Rd.aE 0 rfl hmi)) ?_;refine aA ?_;refine aG rfl (fun h=>absurd h (by omega)) (fun _=>?_);refine aA ?_;refine kd (dat i i) ?_;refine aA ?_;refine kd (bN rfl (Rd.aE 2 rfl Wm)) ?_;refine aA ?_;refine fD rfl rfl ?_ (hs:=eN.mk 4 rfl cI.h rfl (by simp[Zi]));dsimp only[List.set];rw[show(Zi L ms aS).set (0+2) (iv (aS+1))=Zi L ms (aS+1) from rfl];refine aA ?_;refine jO [1,2,3,6,7,8,10,11] ?_;refine bT 0 ?_;refine aJ 1 ?_;refine aJ 2 ?_;refine aJ 3 ?_;refine bT 4 ?_;refine bT 5 ?_;refine aJ 6 ?_;refine aJ 7 ?_;refine aJ 8 ?_;refine bT 9 ?_;refine aJ 10 ?_ (hi:=rfl) (dH:=dat i i);refine aJ 11 ?_ (hi:=rfl) (dH:=bN rfl (Rd.aE 2 rfl Wm));refine bT 12 ?_;refine bT 13 ?_;refine bT 14 ?_;refine bT 15 ?_;refine aL 16 ?_;refine kd (fY rfl) ?_;refine bH ?_;refine aL 17 ?_;refine eK fun g4=>?_;refine bH ?_;refine aL 18 ?_;refine aLt 4 32 1 (el:=259) (by kernel_rfl) (by kernel_rfl) (by decide) rfl rfl (nS 0 rfl rfl) (by simp[Value.oneCell']) (by decide) (by decide) (by decide) (by decide) fun An cn=>?_;refine bH ?_;refine aL 19 ?_;refine kd (dat i i) ?_;refine cT ?_;refine aL 20 ?_;refine fD rfl rfl ?_ (hs:=eN.mk 4 rfl cI.h rfl (by omega));dsimp only[List.set];refine cT ?_;refine fE ?_;refine aA ?_;refine aY [2,0,4,5,6,7] rfl (by decide) (fun _ h=>h) ?_;refine aN 4 1 ?_;refine aKx (v:=.slice An 1 cn) (q:=some ⟨aS,b,bY,v⟩) 0 i rfl hi hv hw ?_;dsimp only[List.set];subst cM;exact eL rfl rfl rfl fun w1 st=>⟨rfl,st.turns hF (by simp) (i:=0) rfl⟩
end
section
structure nE where
 id:Int
 dev:Int
 dead:Bool
 val:Int
def nE.cells(a:nE):List Value:=[iv a.id,iv a.dev,.bool a.dead,.int .u32 a.val]
def Gp(s:aD)(x:aP):Prop:=∀(i:Nat) (d:bO) (t:jC),s.aC[i]? =some d→(x.wt[i]?).join=some t→0≤t.bY∧t.bY < d.aO.length∧0≤t.val∧t.val < 4294967296
def wW(x:aP)(i:Nat)(wr:Bool)(bY v:Int):aP:={x with wt:=x.wt.set i (some ⟨x.aS,wr,bY,v⟩),aS:=x.aS+1}
def wO(p:cO×dL)(t:jC):cO×dL:=if t.wr then(⟨p.1.now.set t.bY.toNat t.val,p.1.saved,p.1.kept⟩,p.2) else p
def jN(s:aD)(x:aP)(i:Nat):aP×Option nE:=match(x.wt[i]?).join,s.aC[i]?,x.dv[i]? with
 | some t,some d,some p=>if wD s x i then({x with wt:=x.wt.set i none,dv:=x.dv.set i (wO p t)},some ⟨t.id,i,false,p.1.now.getD t.bY.toNat 0⟩) else({x with wt:=x.wt.set i none},some ⟨t.id,i,true,d.iU⟩)
 | _,_,_=>(x,none)
section
variable{s:aD}{x:aP}
theorem aAz(hok:cK s x)(i:Nat)(q:Option jC)(po:Int):cK s {x with wt:=x.wt.set i q,aS:=po}:=⟨hok.ck,hok.dm,hok.ln,hok.dv,hok.each,by show(x.wt.set i q).length=_;rw[List.length_set];exact hok.wt⟩
theorem aC7{d:bO}{p:cO×dL}{t:jC}(hp:zG d p.1)(hv:0≤t.val∧t.val < 4294967296):zG d (wO p t).1:=by
 unfold wO;split
 ·refine⟨by simp[hp.now],hp.saved,fun v h=>?_,hp.u.2⟩;rcases List.mem_or_eq_of_mem_set h with h | rfl
  ·exact hp.u.1 v h
  ·exact hv
 ·exact hp
theorem aRM(hok:cK s x){i:Nat}{d:bO}{p:cO×dL}(hd:s.aC[i]? =some d)(h:zG d p.1∧Cb p.2)(wt:List (Option jC))(hw:wt.length=s.aC.length)(po:Int):cK s {x with dv:=x.dv.set i p,wt:=wt,aS:=po}:=
 ⟨hok.ck,hok.dm,hok.ln,by simp[hok.dv],fun j d' p' hd' hp'=>by
  by_cases hij:i=j
  ·subst hij
   have hlt:i < x.dv.length:=by simpa using(List.getElem?_eq_some_iff.1 hp').1
   rw[List.getElem?_set_self hlt] at hp';cases hp';cases hd.symm.trans hd';exact h
  ·rw[List.getElem?_set_ne hij] at hp'
   exact hok.each j d' p' hd' hp',hw⟩
theorem aTH(hok:cK s x)(lG:Gp s x)(i:Nat):cK s (jN s x i).1:=by
 unfold jN;split
 ·rename_i t d p ht hd hp
  obtain⟨h1,h2⟩:=hok.each i d p hd hp;split
  ·exact aRM hok hd ⟨aC7 h1 (lG i d t hd ht).2.2,by unfold wO;split<;>exact h2⟩ _ (by simp[hok.wt]) _
  ·exact aAz hok i none _
 ·exact hok
theorem aCR{ws:List (Option jC)}{i j:Nat}{t:jC}(h:((ws.set i none)[j]?).join=some t):(ws[j]?).join=some t:=by
 by_cases hij:i=j
 ·subst hij;rw[List.getElem?_set] at h;simp at h;split at h<;>cases h
 ·rwa [List.getElem?_set_ne hij] at h
theorem aTF(lG:Gp s x)(i:Nat):Gp s (jN s x i).1:=by
 unfold jN;split
 ·split
  ·exact fun j d t hd ht=>lG j d t hd (aCR ht)
  ·exact fun j d t hd ht=>lG j d t hd (aCR ht)
 ·exact lG
end
section
variable(L:HL)(s:aD)(x:aP)(w:World)
theorem aI4(hH:s.dI)(aW:iO L s)(hok:cK s x)(i:Nat)(d:bO)(dF:s.aC[i]? =some d)(h0:(x.wt[i]?).join=none)(iY:s.aC.length≤4)(bY:Int)(hr:0≤bY∧bY < 4∧bY < d.aO.length)(b:Bool)(v:Int)(lV:0≤x.aS∧x.aS≤1000000000)(F:Nat→Prop)(hp:(dU L s x).sat F w)(hF:∀b,F b→b < w.heap.size)(fC:kQ ⟨w,fun b=>b < w.heap.size∧¬F b⟩):
  Cz 293 #[.pointer (some ⟨L.h,0,none⟩),.int .u32 (Tg i bY),.bool b,.int .u32 v] w (Wr (if uH x i=114 then .tuple #[iv x.aS,iv 0] else .tuple #[iv 0,iv 6]) (dU L s (if uH x i=114 then wW x i b bY v else x)) w F):=by
 have hls:=aW.ds
 have hxl:=hok.dv
 have vR:=hok.wt
 have hi:=(List.getElem?_eq_some_iff.1 dF).1
 obtain⟨l,iT⟩:=get_some (l:=L.ds) (i:=i) (by omega);obtain⟨p,gM⟩:=get_some (l:=x.dv) (i:=i) (by omega)
 have hin:bB s.aC.length (i:Int)=true:=decide_eq_true (by omega)
 have ha:=aJZ (dev:=i) (bY:=bY) ⟨by omega,by omega⟩ ⟨hr.1,hr.2.1⟩
 have hst:uH x i=qL p.2.at_:=by
  unfold uH;rw[gM];rfl
 rw[hst];refine dJ func293 ntmps293 hp hF ?_;generalize cM:(⟨w,fun b=>b < w.heap.size∧¬F b⟩:Piece)=R0 at fC⊢;refine aA ?_;refine aU (fun w1 t=>aJL _ i bY ha.z0 ha.z1 ha.z2 ha.z3 w1) ?_;refine aA ?_;refine aU (fun w1 t=>Ry L s x w1 i (t.nL 0 rfl aW hok)) ?_;rw[hin];refine Oq 0 rfl aW hok (by omega) fun b0 off hA=>?_;refine aA ?_;refine bQ (t:=25) rfl (fun h=>absurd h (by omega)) (fun _=>?_);refine aA ?_;refine kd (bN rfl (rO 0 rfl rfl)) ?_;refine aA ?_;refine kd (dat i (off+i*6) (hx:=by rw[←hA];rfl)) ?_;refine aA ?_;refine kd (bN rfl (aCu (vs:=La d l) 4 (aQ.dev 0 rfl aW hok hA dF iT rfl) rfl)) ?_;refine aA ?_;refine aU (fun w1 t=>Vk l.1 d p.1 w1 ((t.nL 0 rfl aW hok).each i d l p dF iT gM).1) ?_;refine aA ?_;refine aG rfl (fun h=>absurd h (by omega)) (fun _=>?_);refine aA ?_;refine kd (bN rfl (rO 0 rfl rfl)) ?_;refine aA ?_;refine kd (dat i (off+i*6) (hx:=by rw[←hA];rfl)) ?_;refine aA ?_;refine kd (bN rfl (aCu (vs:=La d l) 5 (aQ.dev 0 rfl aW hok hA dF iT rfl) rfl)) ?_;refine aA ?_;refine aU (fun w1 t=>aHj l.2 p.2 (hok.each i d p dF gM).2 w1 (fC.at_ (t.le (by simp))) ((t.nL 0 rfl aW hok).each i d l p dF iT gM).2) ?_;refine aA ?_
 by_cases Dn:qL p.2.at_=114
 ·rw[Dn,if_pos rfl,if_pos rfl];refine aA ?_;refine kd (bN rfl (rO 0 rfl rfl)) ?_;refine aA ?_;refine bF 0 4 ?_;refine dR 0 (zK L.B (kK s) (x.wt.set i (some ⟨x.aS,b,bY,v⟩)) (x.aS+1)) (fun w1 F1 t h1 h2 h3=>aTw L.B (kK s) x.wt x.aS i (by rw[Hh];exact hi) (by rw[Hh];omega) (by rw[Hh];exact vR) h0 _ bY ha.z0 ha.z1 ha.z2 ha.z3 d.aO.length (by simp[kK,dF]) ⟨hr.1,hr.2.2⟩ b v lV w1 F1 h1 h2) ?_;refine aN 0 4 ?_;refine aA ?_;subst cM;exact eL rfl rfl rfl fun w1 t=>⟨rfl,t.turns hF (by simp) (i:=0) rfl⟩
 ·rw[if_neg Dn,if_neg Dn];refine aG rfl (fun _=>?_) (fun h=>absurd h (by simpa using Dn));refine aA ?_;subst cM;exact eL rfl rfl rfl fun w1 t=>⟨rfl,t.turns hF (by simp) (i:=0) rfl⟩
theorem aQ0(hH:s.dI)(aW:iO L s)(hok:cK s x)(lG:Gp s x)(i:Nat)(d:bO)(dF:s.aC[i]? =some d)(t:jC)(ht:(x.wt[i]?).join=some t)(a:nE)(hx:(jN s x i).2=some a)(F:Nat→Prop)(hp:(dU L s x).sat F w)(hF:∀b,F b→b < w.heap.size):
  Cz 55 #[.pointer (some ⟨L.h,0,none⟩),iv (i:Int)] w (Wr (.tuple #[.agg a.cells.toArray,.bool true]) (dU L s (jN s x i).1) w F):=by
 have hls:=aW.ds
 have hxl:=hok.dv
 have vR:=hok.wt
 have hi:=(List.getElem?_eq_some_iff.1 dF).1
 obtain⟨l,iT⟩:=get_some (l:=L.ds) (i:=i) (by omega);obtain⟨p,gM⟩:=get_some (l:=x.dv) (i:=i) (by omega);obtain⟨hfo,hqo⟩:=hok.each i d p dF gM;obtain⟨r1,r2,r3,r4⟩:=lG i d t dF ht
 have mR:cK s {x with wt:=x.wt.set i none}:=aAz hok i none _
 have hwr:=aC7 (t:=t) hfo ⟨r3,r4⟩
 obtain⟨rn,ern⟩:∃n:Nat,t.bY=(n:Int):=⟨t.bY.toNat,by omega⟩
 have gB:=hfo.now
 obtain⟨rv,Rn⟩:=get_some (l:=p.1.now) (i:=rn) (by omega)
 have hal:wD s {x with wt:=x.wt.set i none} i=wD s x i:=rfl
 have hX:jN s x i=if wD s x i then({x with wt:=x.wt.set i none,dv:=x.dv.set i (wO p t)},some ⟨t.id,i,false,rv⟩) else({x with wt:=x.wt.set i none},some ⟨t.id,i,true,d.iU⟩):=by
  unfold jN;rw[ht,dF,gM];dsimp only;rw[ern,Int.toNat_natCast,List.getD_eq_getElem?_getD,Rn];rfl
 rw[hX] at hx⊢;refine dJ func55 ntmps55 hp hF ?_;generalize cM:(⟨w,fun b=>b < w.heap.size∧¬F b⟩:Piece)=R0;refine aA ?_;refine bX fun g1=>?_;refine aA ?_;refine kd (bN rfl (rO 1 rfl rfl)) ?_;refine aA ?_;refine bF 1 4 ?_;refine dR 0 (zK L.B (kK s) (x.wt.set i none) x.aS) (fun w1 F1 st h1 h2 h3=>aTu L.B (kK s) x.wt x.aS i (by rw[Hh];exact hi) (by rw[Hh];exact vR) t ht w1 F1 h1 h2) ?_;refine aN 1 4 ?_
 change XK _ _ _ _ _ [_,dU L s {x with wt:=x.wt.set i none}]
 generalize yI:({x with wt:=x.wt.set i none}:aP)=x2 at mR hal⊢
 have Ng:x2.dv[i]? =some p:=by rw[←yI];exact gM
 refine aA ?_;refine bX fun g2=>?_;refine Oq 2 rfl aW mR (by omega) fun b off hA=>?_;refine aA ?_;refine kd (bN rfl (rO 2 rfl rfl)) ?_;refine aA ?_;refine kd (dat i (off+i*6) (hx:=by rw[←hA];rfl)) ?_;refine kd (pM rfl (aQ.dev 2 rfl aW mR hA dF iT rfl)) ?_;refine bX fun g3=>?_;refine aA ?_;refine aU (fun w1 st=>aI8 L s x2 w1 hH aW mR i hi (st.nL 3 rfl aW mR)) ?_;rw[hal];cases hb:wD s x i
 ·rw[hb] at hx;simp at hx;subst hx;refine aA ?_;refine kd (fY rfl) ?_;refine aA ?_;subst cM;exact xJ (vs:=[iv t.id,iv i,.bool true,.int .u32 d.iU]) rfl (by kernel_rfl) rfl rfl (aQ.whole 2 rfl) rfl fun w1 st=>⟨rfl,st.turns hF (by simp) (i:=3) rfl⟩
 ·rw[hb] at hx;simp at hx;subst hx;refine aA ?_;rw[ern];refine aU (fun w1 st=>aNu l.1 d p.1 rn rv hfo.now Rn w1 ((st.nL 3 rfl aW mR).each i d l p dF iT Ng).1) ?_;refine aA ?_
  have Ws:t.bY.toNat=rn:=by omega
  cases hw:t.wr
  ·have hwf:wO p t=p:=by
    unfold wO;rw[hw];rfl
   have hxx:({x with wt:=x.wt.set i none,dv:=x.dv.set i p}:aP)=x2:=by
    rw[yF gM];exact yI
   rw[hwf,hxx];refine aA ?_;refine kd (fY rfl) ?_;refine aA ?_;subst cM;exact xJ (vs:=[iv t.id,iv i,.bool false,.int .u32 rv]) rfl (by kernel_rfl) rfl rfl (aQ.whole 2 rfl) rfl fun w1 st=>⟨rfl,st.turns hF (by simp) (i:=3) rfl⟩
  ·have hwf:wO p t=(⟨p.1.now.set rn t.val,p.1.saved,p.1.kept⟩,p.2):=by
    unfold wO;rw[hw,Ws];rfl
   rw[hwf];refine aA ?_;refine Tj 3 i rfl dF iT Ng ?_;dsimp only[List.set];refine bF 0 0 ?_;refine dR 0 (iF l.1 d ⟨p.1.now.set rn t.val,p.1.saved,p.1.kept⟩) (fun w1 F1 st h1 h2 h3=>aNr l.1 d p.1 rn t.val hfo.now (by omega) w1 F1 h1 h2) ?_;refine aN 0 0 ?_;refine Tt 3 i rfl dF iT Ng (p':=(⟨p.1.now.set rn t.val,p.1.saved,p.1.kept⟩,p.2)) ?_;dsimp only[List.set];refine aA ?_;refine kd (fY rfl) ?_;refine aA ?_;subst cM;subst yI;exact xJ (vs:=[iv t.id,iv i,.bool false,.int .u32 rv]) rfl (by kernel_rfl) rfl rfl (aQ.whole 2 rfl) rfl fun w1 st=>⟨rfl,st.turns hF (by simp) (i:=3) rfl⟩
end
end
section
structure oO where
 st:Int
 kind:Int
 dev:Int
 bY:Int
 val:Int
 err:Int
 res:Int
 hs:List Int
def Ut:oO:=⟨0,0,0,0,0,0,0,[0,0,0,0,0,0]⟩
def hG(t:oO)(i:Nat):Int:=t.hs.getD i 0
structure aV where
 cn:Cn
 wn:bM
 t0:oO
 t1:oO
 t2:oO
 eW:Int
 steps:List dB
 sent:Bool
 aS:Bool
 id:Int
 many:Int
def rp0(s:aD):aV:=⟨⟨[],false⟩,dQ s,Ut,Ut,Ut,-1,[],false,false,0,0⟩
def aV.tk(z:aV):Nat→oO
 | 0=>z.t0
 | 1=>z.t1
 | _=>z.t2
def aV.jQ(z:aV)(j:Nat)(t:oO):aV:={z with t0:=if j=0 then t else z.t0,t1:=if j=1 then t else z.t1,t2:=if j=2 then t else z.t2}
structure dK where
 a1:AC
 a2:AC
 a3:AC
 a4:AC
 gc:Nat
 gm:Nat
 nd:AC
 w1:AC
 w2:AC
 w3:AC
 st:AC
def tkC(t:oO):List Value:=[iv t.st,.int .u8 t.kind,iv t.dev,iv t.bY,.int .u32 t.val,iv t.err,.int .u32 t.res,iv (hG t 0),iv (hG t 1),iv (hG t 2),iv (hG t 3),iv (hG t 4),iv (hG t 5)]
def kW(h f:Nat)(L:dK)(s:aD)(z:aV):List Value:=
  [pt h,pt f,.slice L.a1.1 s.aF.length L.a1.2,.slice L.a2.1 s.domains.length L.a2.2,.slice L.a3.1 s.aR.length L.a3.2,.slice L.a4.1 s.aC.length L.a4.2,.pointer (some ⟨L.gc,0,none⟩),.slice L.w1.1 z.wn.d.length L.w1.2,.slice L.w2.1 z.wn.c.length L.w2.2,.slice L.w3.1 z.wn.l.length L.w3.2,
   iv z.t0.st,.int .u8 z.t0.kind,iv z.t0.dev,iv z.t0.bY,.int .u32 z.t0.val,iv z.t0.err,.int .u32 z.t0.res,iv (hG z.t0 0),iv (hG z.t0 1),iv (hG z.t0 2),iv (hG z.t0 3),iv (hG z.t0 4),iv (hG z.t0 5),
   iv z.t1.st,.int .u8 z.t1.kind,iv z.t1.dev,iv z.t1.bY,.int .u32 z.t1.val,iv z.t1.err,.int .u32 z.t1.res,iv (hG z.t1 0),iv (hG z.t1 1),iv (hG z.t1 2),iv (hG z.t1 3),iv (hG z.t1 4),iv (hG z.t1 5),
   iv z.t2.st,.int .u8 z.t2.kind,iv z.t2.dev,iv z.t2.bY,.int .u32 z.t2.val,iv z.t2.err,.int .u32 z.t2.res,iv (hG z.t2 0),iv (hG z.t2 1),iv (hG z.t2 2),iv (hG z.t2 3),iv (hG z.t2 4),iv (hG z.t2 5),
   iv z.eW,.slice L.st.1 z.steps.length L.st.2,.bool z.sent,.bool z.aS,iv z.id,iv z.many]
def kM(L:dK)(s:aD)(p:Piece):Prop:=sL p s L.a1.1 s.aF.length L.a2.1 s.domains.length L.a3.1 s.aR.length L.a4.1 s.aC.length
theorem kM.le{L:dK}{s:aD}(p q:Piece)(hl:p.Le q)(h:kM L s p):kM L s q:=sL.le h hl
def uY(L:dK)(x:bM)(p:Piece):Prop:=aI p 1 L.w1.1 x.d.length (bE x.d)∧aI p 1 L.w2.1 x.c.length (bE x.c)∧aI p 1 L.w3.1 x.l.length (bE x.l)
theorem uY.le{L:dK}{x:bM}(p q:Piece)(hl:p.Le q)(h:uY L x p):uY L x q:=⟨h.1.le hl,h.2.1.le hl,h.2.2.le hl⟩
def Pj(L:dK)(s:aD)(p:Piece):Prop:=nD p L.nd.1 (bP s).length (bP s)
theorem Pj.le{L:dK}{s:aD}(p q:Piece)(hl:p.Le q)(h:Pj L s p):Pj L s q:=nD.le h hl
def oP(L:dK)(l:List dB)(p:Piece):Prop:=aI p 4 L.st.1 l.length (l.flatMap dB.cells)∧l.length≤L.st.2
theorem oP.le{L:dK}{l:List dB}(p q:Piece)(hl:p.Le q)(h:oP L l p):oP L l q:=⟨h.1.le hl,h.2⟩
def fN(g h f:Nat)(L:dK)(s:aD)(z:aV):HP:=HP.many [HP.aE g 123 (kW h f L s z),HP.bR (kM L s) (kM.le (L:=L) (s:=s)),HP.bR (uY L z.wn) (uY.le (L:=L) (x:=z.wn)),nZ L.gc L.gm (.slice L.nd.1 (bP s).length L.nd.2) z.cn,HP.bR (Pj L s) (Pj.le (L:=L) (s:=s)),HP.bR (oP L z.steps) (oP.le (L:=L) (l:=z.steps))]
def gH(g h f:Nat)(s:aD)(z:aV):HP:=HP.ex fun L:dK=>fN g h f L s z
structure Ea(w:World)(g h f:Nat)(L:dK)(s:aD)(z:aV):Prop where
 r0:eD w g 0 (kW h f L s z)
 so:kM L s (all w)
 wn:uY L z.wn (all w)
 cn:eD w L.gc 0 [.slice L.nd.1 (bP s).length L.nd.2,.map (some L.gm),.bool z.cn.iZ]
 nd:Pj L s (all w)
 sp:oP L z.steps (all w)
theorem Ea.below{w w':World}{g h f:Nat}{L:dK}{s:aD}{z:aV}(k:Ea w g h f L s z)(hb:Below w.heap.size w w'):Ea w' g h f L s z:=
 ⟨k.r0.below hb,k.so.le _ _ (jU hb),k.wn.le _ _ (jU hb),k.cn.below hb,k.nd.le _ _ (jU hb),k.sp.le _ _ (jU hb)⟩
theorem aCq{g h f:Nat}{L:dK}{s:aD}{z:aV}{F:Nat→Prop}{w:World}(k:(fN g h f L s z).sat F w)(hF:∀b,F b→b < w.heap.size):Ea w g h f L s z:=by
 obtain⟨G,g1,g2,_⟩:=k
 have hl:∀i,(⟨w,G i⟩:Piece).Le (all w):=fun i b hb=>⟨hF b (g2 i b hb),rfl⟩
 obtain⟨G',k1,_,_⟩:=g1 3 _ rfl;exact⟨uV (g1 0 _ rfl).2,kM.le _ _ (hl 1) (g1 1 _ rfl),uY.le _ _ (hl 2) (g1 2 _ rfl),uV (k1 0 _ rfl).2,Pj.le _ _ (hl 4) (g1 4 _ rfl),oP.le _ _ (hl 5) (g1 5 _ rfl)⟩
theorem St.aCX{w0 w:World}{R:List Piece}{H:List HP}{g h f:Nat}{L:dK}{s:aD}{z:aV}(t:St w0 R H w)(i:Nat)(hi:H[i]? =some (fN g h f L s z)):Ea w g h f L s z:=by
 obtain⟨F,h1,h2,_⟩:=t.chunk hi;exact aCq h1 h2
theorem Vi(t:Int)(w:World):Cz 44 #[iv t] w (Rt (.bool (bB 3 t)) w):=by
 refine aM func44 ntmps44 ?_;refine aA ?_;refine bQ (t:=5) rfl (fun h=>?_) (fun h=>?_)
 ·refine aA ?_;refine kB (by simp) ?_;unfold bB
  congr 1
  simp;omega
 ·refine aA ?_;refine kB (by simp) ?_
  have:bB 3 t=false:=decide_eq_false (by omega)
  rw[this]
theorem Mu{t:Int}(h:bB 3 t=true):∃j:Nat,t=(j:Int)∧(j=0∨j=1∨j=2):=by
 have:=of_decide_eq_true h
 exact⟨t.toNat,by omega,by omega⟩
section
variable(g h f:Nat)(L:dK)(s:aD)(z:aV)(w:World)
theorem aCY(d:Int)(hR:Ea w g h f L s z):Cz 67 #[pt g,iv d] w (Rt (.bool (bB s.aC.length d)) w):=by
 have k5:=hR.r0.at_ (j:=5) rfl
 refine aM func67 ntmps67 ?_;refine aA ?_;refine bQ (t:=7) rfl (fun h=>?_) (fun h=>?_)
 ·refine aA ?_;refine kB (by simp) ?_;unfold bB
  congr 1
  simp;omega
 ·refine aA ?_;refine kB (by simp) ?_
  have:bB s.aC.length d=false:=decide_eq_false (by omega)
  rw[this]
end
end
section
section
variable{N:cE}{w0:World}{e:Env}{R:List Piece}{H:List HP}{Q:Exit→Act→World→Prop}{ops:Array Oper}{rest:List Oper}{pos:String}{ty:TypeId}{aH:Array Edge}
theorem Qy(i:Nat){x y:Operand}{s t:TypeId}{g o:Nat}{cs vs:List Value}(hi:H[i]? =some (HP.aE g t cs))(k:XK N w0 (wpList Tryz.prog ops Q rest) e R (H.set i (HP.aE g t (iH cs o vs))))(hx:e.ev x=some (.pointer (some ⟨g,o,none⟩)):=by rfl)(hy:e.ev y=some (.agg vs.toArray):=by rfl)(hs:(Tryz.prog.info? s).any (·.size==vs.length)=true:=by kernel_rfl)(h1:vs.all Value.oneCell'=true:=by rfl)(hl:decide (o+vs.length≤cs.length)=true:=by rfl):
  XK N w0 (wpList Tryz.prog ops Q (⟨none,.store s x y,ty,pos,aH,none⟩::rest)) e R H:=
 rR i hi hx hy hs (fun u hu=>List.all_eq_true.1 h1 u (by simpa[Value.cells] using hu)) (by simpa[Value.cells] using of_decide_eq_true hl) (by simpa[Value.cells] using k)
end
section
variable{P:Program}{N:cE}{w0 w:World}{e:Env}{R:List Piece}{H:List HP}{p:HP}{Q:Exit→Act→World→Prop}
theorem St.cS(st:St w0 R (p::H) w):St w0 R (cJ::H) w:=st.xX (i:=0) (p:=p) rfl (Nat.le_refl _) rfl rfl rfl fun F _ hlt=>⟨F,trivial,fun b hb=>⟨.inl hb,hlt b hb⟩,fun _ _ _=>rfl⟩
theorem Ou(Z:List Nat){id:Nat}{l:List Oper}(h:XB P N w0 l.toArray Q R (cJ::H) Z l.length (Array.replicate l.length false) e R (p::H))(hm:P.follows .mixedOrders=true:=by kernel_rfl)(hc:Region.noSelect l.toArray=true:=by kernel_rfl):XK N w0 ((Code.region id l.toArray true).wp P Q) e R (p::H):=fun a w hr st=>by
 have:=h ⟨Down.start _ _,hc⟩ a w.drew hr st.drew
 refine wp_region_any hm (aCA (S:=St w0 R (cJ::H)) (Z:=Z) _ _ _ _ ?_)
 simpa using this
end
def Ob(k:Int):Value:=if k=103 then .iface 237 (.agg #[]) else if k=112 then .iface 238 (.agg #[]) else if k=114 then .iface 240 (.agg #[.bool false]) else if k=119 then .iface 240 (.agg #[.bool true]) else if k=115 then .iface 241 (.agg #[]) else if k=109 then .iface 242 (.agg #[]) else .nilIface
def pF(k:Int):Prop:=k=103∨k=112∨k=114∨k=119∨k=115∨k=109
instance(k:Int):Decidable (pF k):=by unfold pF;infer_instance
theorem aAH(k:Int)(w:World):Cz 45 #[.int .u8 k] w (Rt (Ob k) w):=by
 unfold Ob;refine aM func45 ntmps45 ?_;refine aA ?_;refine aG rfl (fun h0=>?_) (fun h0=>?_)
 ·rw[if_pos h0];refine aB ?_;refine kd (Ss rfl) ?_;refine aA ?_;exact cY
 rw[if_neg h0];refine aA ?_;refine aG rfl (fun h1=>?_) (fun h1=>?_)
 ·rw[if_pos h1];refine aB ?_;refine kd (Ss rfl) ?_;refine aA ?_;exact cY
 rw[if_neg h1];refine aA ?_;refine aG rfl (fun h2=>?_) (fun h2=>?_)
 ·rw[if_pos h2];refine aB ?_;refine kd (Ss rfl) ?_;refine aA ?_;exact cY
 rw[if_neg h2];refine aA ?_;refine aG rfl (fun h3=>?_) (fun h3=>?_)
 ·rw[if_pos h3];refine aB ?_;refine kd (Ss rfl) ?_;refine aA ?_;exact cY
 rw[if_neg h3];refine aA ?_;refine aG rfl (fun h4=>?_) (fun h4=>?_)
 ·rw[if_pos h4];refine aB ?_;refine kd (Ss rfl) ?_;refine aA ?_;exact cY
 rw[if_neg h4];refine aA ?_;refine aG rfl (fun h5=>?_) (fun h5=>?_)
 ·rw[if_pos h5];refine aB ?_;refine kd (Ss rfl) ?_;refine aA ?_;exact cY
 rw[if_neg h5];refine aA ?_;exact cY
theorem aRG{k:Int}(h:¬pF k):Ob k=.nilIface:=by
 unfold pF at h;unfold Ob;rw[if_neg (by omega),if_neg (by omega),if_neg (by omega),if_neg (by omega),if_neg (by omega),if_neg (by omega)]
theorem aRF{k:Int}(h:pF k):∃u y,Ob k=.iface u y:=by
 rcases h with rfl | rfl | rfl | rfl | rfl | rfl<;>exact⟨_,_,rfl⟩
def vK(z:aV)(t kind dev bY val:Int):Int×aV:=if bB 3 t=false then(4,z) else if(z.tk t.toNat).st≠0 then(7,z) else if ¬pF kind then(1,z) else(0,z.jQ t.toNat {z.tk t.toNat with st:=1,kind:=kind,dev:=dev,bY:=bY,val:=val})
section
variable(g h f:Nat)(s:aD)(z:aV)(w:World)(F:Nat→Prop)
theorem aGI(t kind dev bY val:Int)(hp:(gH g h f s z).sat F w)(hF:∀b,F b→b < w.heap.size):
  Cz 17 #[pt g,iv t,.agg #[.int .u8 kind,iv dev,iv bY,.int .u32 val]] w (Wr (iv (vK z t kind dev bY val).1) (gH g h f s (vK z t kind dev bY val).2) w F):=by
 unfold vK;refine dJ func17 ntmps17 hp hF ?_;refine aA ?_;refine bA fun g1=>?_;refine aA ?_;refine aU (fun w1 _=>Vi t w1) ?_;cases hin:bB 3 t
 ·refine aA ?_;exact cG 1 hF
 ·rw [if_neg (by simp)];obtain⟨j,rfl,hj⟩:=Mu hin;rw[Int.toNat_natCast];refine mB 1 fun L=>?_;refine bF 1 0 ?_
  by_cases hst:(z.tk j).st=0
  ·rw[if_neg (by simpa using hst)]
   by_cases hk:pF kind
   ·rw[if_neg (by simpa using hk)];obtain⟨u,y,hy⟩:=aRF hk;obtain⟨z',hz⟩:∃z',z'=z.jQ j {z.tk j with st:=1,kind:=kind,dev:=dev,bY:=bY,val:=val}:=⟨_,rfl⟩
    rw[←hz];rcases hj with rfl | rfl | rfl
    all_goals
     refine aA ?_;refine kd (fZ _ _ (ho:=rfl)) ?_;refine aA ?_;refine aG rfl (fun h1=>absurd hst h1) (fun _=>?_);refine aA ?_;refine aU (fun w1 _=>aAH kind w1) ?_;rw[hy];refine aA ?_;refine kd (aJp rfl (.inr ⟨⟨_,_,rfl⟩,rfl⟩)) ?_;refine aA ?_;refine kd (fZ _ _ (ho:=rfl)) ?_;refine aA ?_;refine Ou [2] ?_;refine bT 0 ?_ (hsub:=fun _ h=>h.cS);refine bT 1 ?_ (hsub:=fun _ h=>h.cS);refine aJ 2 ?_ (hsub:=fun _ h=>h.cS);refine aL 3 ?_;refine bK ?_;refine bH ?_ (hS:=fun _ h=>h.cS);refine aL 4 ?_;refine bK ?_;refine bH ?_ (hS:=fun _ h=>h.cS);refine aL 5 ?_;refine fD rfl rfl ?_ (hs:=eN.mk 0 rfl cI.h rfl (of_decide_eq_true rfl));dsimp only[List.set];refine bH ?_ (hS:=fun _ h=>h.cS);refine aL 6 ?_;refine bK ?_;refine bH ?_ (hS:=fun _ h=>h.cS);refine aL 7 ?_;refine bK ?_;refine bH ?_ (hS:=fun _ h=>h.cS);refine aL 8 ?_;refine Qy 0 rfl ?_;dsimp only[List.set];refine bH ?_ (hS:=fun _ h=>h.cS);refine fE ?_;refine aA ?_;refine aN 1 0 ?_;refine xI 1 (f:=fun L:dK=>fN g h f L s z') L (by subst hz;rfl) ?_;dsimp only[List.set];exact cG 1 hF
   ·rw[if_pos (by simpa using hk)];rcases hj with rfl | rfl | rfl
    all_goals
     refine aA ?_;refine kd (fZ _ _ (ho:=rfl)) ?_;refine aA ?_;refine aG rfl (fun h1=>absurd hst h1) (fun _=>?_);refine aA ?_;refine aU (fun w1 _=>aAH kind w1) ?_;rw[aRG hk];refine aA ?_;refine kd (aJp rfl (.inl ⟨rfl,rfl⟩)) ?_;refine aA ?_;refine aN 1 0 ?_;refine fA 1 (fun L:dK=>fN g h f L s z) L ?_;exact cG 1 hF
  ·rw[if_pos hst];rcases hj with rfl | rfl | rfl
   all_goals
    refine aA ?_;refine kd (fZ _ _ (ho:=rfl)) ?_;refine aA ?_;refine aG rfl (fun _=>?_) (fun h1=>absurd (Decidable.not_not.1 h1) hst);refine aA ?_;refine aN 1 0 ?_;refine fA 1 (fun L:dK=>fN g h f L s z) L ?_;exact cG 1 hF
end
end
section
section
variable{N:cE}{w0:World}{e:Env}{R:List Piece}{H:List HP}{K:Act→World→Prop}
theorem aAn(i:Nat){b o:Nat}{t:TypeId}{cs vs:List Value}(hi:H[i]? =some (HP.aE b t cs))(hv:(cs.drop o).take vs.length=vs):aQ w0 R H b o vs:=aQ.aE i hi fun j v hj=>by
 rw[←hv,List.getElem?_take] at hj;split at hj
 ·rw[List.getElem?_drop] at hj;exact hj
 ·cases hj
theorem aUb(j i:Nat){ps:List HP}{p q:HP}(hj:H[j]? =some (HP.many ps))(hi:ps[i]? =some p)(hq:∀F w,p.sat F w→q.sat F w)(k:XK N w0 K e R (H.set j (HP.many (ps.set i q)))):XK N w0 K e R H:=by
 have hlt:=(List.getElem?_eq_some_iff.1 hj).1
 have Km:=(List.getElem?_eq_some_iff.1 hi).1
 refine tC j i hj hi ?_;refine Bp 0 rfl hq ?_;refine tD j i (by rw[List.getElem?_set_self hlt]) (by rw[List.getElem?_set_self Km]) ?_;rw[List.set_set,List.set_set];exact k
end
def kE(z:aV)(j:Nat)(err res:Int):aV:={z.jQ j {z.tk j with st:=3,err:=err,res:=res} with eW:= -1,steps:=[],sent:=false,aS:=false}
def nM(z:aV)(t:Int):(Int×Int×Bool)×aV:=if bB 3 t=false then((0,0,false),z) else if(z.tk t.toNat).st≠3 then((0,0,false),z) else(((z.tk t.toNat).err,(z.tk t.toNat).res,true),z.jQ t.toNat {z.tk t.toNat with st:=0,kind:=0,dev:=0,bY:=0,val:=0,err:=0,res:=0})
section
variable(g h f:Nat)(s:aD)(z:aV)(w:World)(F:Nat→Prop)
theorem Jr(j:Nat)(eW:z.eW=(j:Int))(hj:j=0∨j=1∨j=2)(err res:Int)(hp:(gH g h f s z).sat F w)(hF:∀b,F b→b < w.heap.size):
  Cz 53 #[pt g,.agg #[iv err,.int .u32 res]] w (Wr (.tuple #[]) (gH g h f s (kE z j err res)) w F):=by
 refine dJ func53 ntmps53 hp hF ?_;obtain⟨z',hz⟩:∃z',z'=kE z j err res:=⟨_,rfl⟩
 rw[←hz];refine mB 0 fun L=>?_;refine bF 0 0 ?_;rcases hj with rfl | rfl | rfl
 all_goals
  refine aA ?_;refine bA fun g1=>?_;refine aY [1,0,2] rfl (by decide) (fun _ h=>h) ?_;refine aA ?_;refine mL ?_;refine jA ?_;refine xH (fZ _ _ (hj:=eW) (ho:=rfl)) ?_;refine jB ?_;refine aA ?_;refine Ou [2] ?_;refine bT 0 ?_ (hsub:=fun _ h=>h.cS);refine bT 1 ?_ (hsub:=fun _ h=>h.cS);refine aJ 2 ?_ (hsub:=fun _ h=>h.cS);refine aL 3 ?_;refine bK ?_;refine bH ?_ (hS:=fun _ h=>h.cS);refine aL 4 ?_;refine bK ?_;refine bH ?_ (hS:=fun _ h=>h.cS);refine aL 5 ?_;refine fD rfl rfl ?_ (hs:=eN.mk 0 rfl cI.h rfl (of_decide_eq_true rfl));dsimp only[List.set];refine bH ?_ (hS:=fun _ h=>h.cS);refine aL 6 ?_;refine bK ?_;refine bH ?_ (hS:=fun _ h=>h.cS);refine aL 7 ?_;refine bK ?_;refine bH ?_ (hS:=fun _ h=>h.cS);refine aL 8 ?_;refine Qy 0 rfl ?_;dsimp only[List.set];refine bH ?_ (hS:=fun _ h=>h.cS);refine fE ?_;refine aA ?_;refine fD rfl rfl ?_ (hs:=eN.mk 0 rfl cI.h rfl (of_decide_eq_true rfl));dsimp only[List.set];refine aA ?_;refine fD rfl rfl ?_ (hs:=eN.mk 0 rfl cI.h rfl (of_decide_eq_true rfl));dsimp only[List.set];refine aA ?_;refine fD rfl rfl ?_ (hs:=eN.mk 0 rfl cI.h rfl (of_decide_eq_true rfl));dsimp only[List.set];refine aA ?_;refine fD rfl rfl ?_ (hs:=eN.mk 0 rfl cI.h rfl (of_decide_eq_true rfl));dsimp only[List.set];refine aA ?_;refine aN 1 0 ?_;refine aUb (q:=HP.bR (oP {L with st:=(none,0)} []) (oP.le (L:={L with st:=(none,0)}) (l:=[]))) 1 5 rfl rfl (fun F w _=>⟨aI.nil _ _,Nat.le_refl _⟩) ?_;dsimp only[List.set];refine xI 1 (f:=fun L:dK=>fN g h f L s z') {L with st:=(none,0)} (by subst hz;rfl) ?_;dsimp only[List.set];exact kC 1 hF
theorem aGJ(t:Int)(hp:(gH g h f s z).sat F w)(hF:∀b,F b→b < w.heap.size):
  Cz 23 #[pt g,iv t] w (Wr (.tuple #[.agg #[iv (nM z t).1.1,.int .u32 (nM z t).1.2.1],.bool (nM z t).1.2.2]) (gH g h f s (nM z t).2) w F):=by
 unfold nM;refine dJ func23 ntmps23 hp hF ?_;refine aA ?_;refine bX fun g1=>?_;refine aA ?_;refine aU (fun w1 _=>Vi t w1) ?_;cases hin:bB 3 t
 ·refine aA ?_;refine kd (fY rfl) ?_;refine aA ?_;exact xJ (vs:=[iv 0,.int .u32 0]) rfl (by kernel_rfl) rfl rfl (aQ.whole 0 rfl) rfl fun w1 t=>⟨rfl,t.turns hF (by simp) (i:=1) rfl⟩
 ·rw[if_neg (by simp)];obtain⟨j,rfl,hj⟩:=Mu hin;rw[Int.toNat_natCast];refine mB 1 fun L=>?_;refine bF 1 0 ?_
  by_cases hst:(z.tk j).st=3
  ·rw[if_neg (by simpa using hst)];obtain⟨z',hz⟩:∃z',z'=z.jQ j {z.tk j with st:=0,kind:=0,dev:=0,bY:=0,val:=0,err:=0,res:=0}:=⟨_,rfl⟩
   rw[←hz];rcases hj with rfl | rfl | rfl
   all_goals
    refine aA ?_;refine kd (fZ _ _ (ho:=rfl)) ?_;refine aA ?_;refine aG rfl (fun h1=>absurd hst h1) (fun _=>?_);refine aA ?_;refine kd (fZ _ _ (ho:=rfl)) ?_;refine aA ?_;refine kd (pM rfl (aAn (vs:=[_,_]) 0 rfl rfl)) ?_;refine bX fun g2=>?_;refine aA ?_;refine kd (fY rfl) ?_;refine kd (fY rfl) ?_;refine aA ?_;refine fD rfl rfl ?_ (hs:=eN.mk 1 rfl cI.h rfl (of_decide_eq_true rfl));dsimp only[List.set];refine aA ?_;refine Qy 1 rfl ?_;dsimp only[List.set];refine aA ?_;refine Qy 1 rfl ?_;dsimp only[List.set];refine aA ?_;refine aY [1,0,2,3] rfl (by decide) (fun _ h=>h) ?_;refine aN 2 0 ?_;refine xI 2 (f:=fun L:dK=>fN g h f L s z') L (by subst hz;rfl) ?_;dsimp only[List.set];exact xJ (vs:=[_,_]) rfl (by kernel_rfl) rfl rfl (aQ.whole 1 rfl) rfl fun w1 t=>⟨rfl,t.turns hF (by simp) (i:=2) rfl⟩
  ·rw[if_pos hst];rcases hj with rfl | rfl | rfl
   all_goals
    refine aA ?_;refine kd (fZ _ _ (ho:=rfl)) ?_;refine aA ?_;refine aG rfl (fun _=>?_) (fun h1=>absurd (Decidable.not_not.1 h1) hst);refine aA ?_;refine kd (fY rfl) ?_;refine aA ?_;refine aN 1 0 ?_;refine fA 1 (fun L:dK=>fN g h f L s z) L ?_;exact xJ (vs:=[iv 0,.int .u32 0]) rfl (by kernel_rfl) rfl rfl (aQ.whole 0 rfl) rfl fun w1 t=>⟨rfl,t.turns hF (by simp) (i:=1) rfl⟩
end
end
section
def Ln(ks:List Int)(v:Int):List Int:=if ks.contains v then ks else ks++[v]
def Mg(g:List (List Int))(ks:List Int)(i:Nat):List Int:=if ks.contains (i:Int) then(g.getD i []).foldl Ln ks else ks
def Mr(g:List (List Int))(v:Int)(n:Nat):Nat→List Int
 | 0=>[v]
 | k+1=>Mg g (Mr g v n k) (n - 1 - k)
def uK(ks:List Int)(v:Int)(n:Nat):List Nat:=(List.range n).filter fun u:Nat=>decide (¬(u:Int)=v)&&ks.contains (u:Int)
def Bo(g:List (List Int))(v:Int)(n:Nat):List Nat:=uK (Mr g v n n) v n
theorem aHw(ks:List Int)(v:Int)(n:Nat):(uK ks v n).length≤n:=Nat.le_trans (List.length_filter_le _ _) (by simp)
theorem aOt(ks:List Int)(v:Int)(n:Nat):uK ks v (n+1)=if(decide (¬(n:Int)=v)&&ks.contains (n:Int))=true then uK ks v n++[n] else uK ks v n:=by
 unfold uK;rw[List.range_succ,List.filter_append];simp only[List.filter_cons,List.filter_nil];split<;>simp
theorem aOv(A:Option Addr)(n c:Nat)(g:List (List Int))(v:Int)(w:World)(hg:nD (all w) A n g)(hn:n=g.length)(hn2:n≤100)(hlen:∀l∈g,(l.length:Int)≤9223372036854775806)(hv:0≤v∧v < n)(ho:fS g=(0,List.range n)):
  Cz 141 #[.slice A n c,iv v] w (fun y w'=>(∃x,y=.returned x∧Ub g x w w')∧Below w.heap.size w w'):=by
 refine aM func141 ntmps141 ?_;refine aA ?_;refine jR [] (Ub g) (fun w1 st=>(aAR A n c g w1 (hg.le (st.le (by simp))) hn (by omega) hlen).mono fun y w' h=>h.aDn) ?_;rintro _ w1 q ⟨A',m,c',rfl,hm,hs⟩ hf _ hfr
 have hs:=hs.le hf
 rw[ho] at hs hm;rw[ho];dsimp only at hs hm⊢;refine aA ?_;refine bQ (t:=18) rfl (fun h=>absurd h (by omega)) (fun _=>?_);refine aA ?_;refine aG rfl (fun h=>absurd h (by omega)) (fun _=>?_);refine aA ?_;exact eL rfl rfl rfl fun w1 t=>⟨⟨_,rfl,A',m,c',by rw[ho];rfl,by rw[ho];exact hm,by rw[ho];exact hs.le (t.mK (by simp) (hfr (by simp)))⟩,t.below (by simp)⟩
theorem aOs(q:Piece)(r:Nat)(ks:List Int)(A:Option Addr)(n c:Nat)(v:Int)(w:World)(hn2:n≤100)(hm:tF w r (mI ks))(hq:q.Le (all w))(hs:aI q 1 A n (aK (dM (List.range n)))):
  Cz 144 #[.slice A n c,.map (some r),iv v] w (Ty (Jk (uK ks v n)) w):=by
 refine aM func144 ntmps144 ?_;refine Bq q (by simp) hq ?_;refine aA ?_;refine iN 3 1 ?_;refine bL [(12,iv 0),(11,iv n),(10,.slice A n c),(7,sn),(1,.map (some r)),(2,iv v)] ?_;refine eJ (fun m e R H=>∃(i:Nat) (B:Option Addr) (k:Nat),i≤n∧m=n - i∧e=[(12,iv i),(11,iv n),(10,.slice A n c),(7,.slice B (uK ks v i).length k),(1,.map (some r)),(2,iv v)]∧R=[q,all w]∧H=[HP.own 3 1 (.slice B (uK ks v i).length k) (uK ks v i).length (aK (dM (uK ks v i)))]) n ⟨0,none,0,by omega,rfl,rfl,rfl,rfl⟩ fun m e R H hI=>?_;obtain⟨i,B,k,hi,rfl,rfl,rfl,rfl⟩:=hI
 have pW:=aHw ks v i
 have dW:=aOt ks v i
 generalize hl:uK ks v i=l at pW dW⊢;refine aA ?_;refine aG rfl (fun hlt=>?_) (fun hge=>?_)
 ·have hlt:i < n:=by omega
  obtain⟨b,off,hA,hz,hc⟩:=hs.2 (by omega)
  have sB:=hc i (iv (i:Int)) (by simp[aK,dM,hlt])
  refine aA ?_;refine kd (dat i (off+i) (hx:=by rw[←hA];rfl)) ?_;refine aA ?_;refine kd (bN rfl (Rd.ro (p:=q) (by simp) hz sB)) ?_;refine aA ?_;refine bQ (t:=19) rfl (fun hv=>?_) (fun hv=>?_)
  ·refine aA ?_;refine aU (fun w1 t=>aAY r i ks w1 (hm.below (t.below (by simp)))) ?_;rw[decide_eq_true hv,Bool.true_and] at dW;cases hk:ks.contains (i:Int)
   ·rw[hk,if_neg (by simp)] at dW;refine aA ?_;refine bL [(12,iv (i+1:Nat)),(11,iv n),(10,.slice A n c),(7,.slice B l.length k),(1,.map (some r)),(2,iv v)] ?_;exact iD (n - (i+1)) (by omega) ⟨i+1,B,k,hlt,rfl,by rw[dW],rfl,by rw[dW]⟩
   ·rw[hk,if_pos rfl] at dW;refine aA ?_;refine eK fun g4=>?_;refine gJ 1 1 8 1 (n':=l.length+1) (el:=3) (by kernel_rfl) (by kernel_rfl) (by decide) rfl rfl rfl (nS 0 rfl rfl) (by simp[Value.oneCell']) rfl (by omega) (by omega) (by decide) fun An cn=>?_;dsimp only[List.set];refine aA ?_;refine aY [1] rfl (by decide) (fun _ h=>h) ?_;refine bL [(12,iv (i+1:Nat)),(11,iv n),(10,.slice A n c),(7,.slice An (l.length+1) cn),(1,.map (some r)),(2,iv v)] ?_;exact iD (n - (i+1)) (by omega) ⟨i+1,An,cn,hlt,rfl,by rw[dW];simp,rfl,by rw[dW];simp[aK,dM]⟩
  ·rw[decide_eq_false hv,Bool.false_and,if_neg (by simp)] at dW;refine aA ?_;refine bL [(12,iv (i+1:Nat)),(11,iv n),(10,.slice A n c),(7,.slice B l.length k),(1,.map (some r)),(2,iv v)] ?_;exact iD (n - (i+1)) (by omega) ⟨i+1,B,k,hlt,rfl,by rw[dW],rfl,by rw[dW]⟩
 ·obtain rfl:i=n:=by omega
  subst hl;refine aA ?_;refine dP [] [0] [] (by simp) rfl (by decide) (by decide) fun q2 uT _ hfr=>?_
  have h2:aI q2 1 B (uK ks v i).length (aK (dM (uK ks v i))):=aI.own (uT 0 _ (by simp) rfl)
  exact aT (h:=fun w1 t=>⟨_,rfl,B,k,rfl,h2.le (t.mK (by simp) (hfr (by simp) (by simp)))⟩)
theorem aRc(q0:Piece)(A:Option Addr)(n c:Nat)(g:List (List Int))(v:Nat)(w:World)(Kj:q0.Le (all w))(hg:nD q0 A n g)(hn:n=g.length)(hn2:n≤100)(hlen:∀l∈g,(l.length:Int)≤1000)(hv:v < n)(ho:fS g=(0,List.range n)):
  Cz 65 #[.slice A n c,iv (v:Int)] w (Ty (fun x w w'=>∃A' c',x=.tuple #[.slice A' (Bo g v n).length c',iv 0]∧aI (fresh w w') 1 A' (Bo g v n).length (aK (dM (Bo g v n)))) w):=by
 refine aM func65 ntmps65 ?_;refine Bq q0 (by simp) Kj ?_;refine aA ?_;refine jR [] (Ub g) (fun w1 st=>aOv A n c g v w1 (hg.le (st.le (by simp))) hn hn2 (fun l hl=>by have:=hlen l hl;omega) (by omega) ho) ?_;rintro _ w1 q ⟨A',m,c',rfl,hm,hs⟩ hf _ _
 have hs:=hs.le hf
 rw[ho] at hs hm;rw[ho];dsimp only at hs hm⊢;obtain rfl:m=n:=by simpa using hm
 refine aA ?_;refine aAv (by decide) fun r=>?_;refine aA ?_;refine dR 0 (HP.map r (mI [(v:Int)])) (fun w1 F1 t h1 h2 h3=>aAZ r v [] w1 F1 h1 h2) ?_;refine aA ?_;refine aY [0] rfl (by decide) (R':=[q,q0,all w]) (by simp) ?_;refine bL [(9,iv ((m:Int) - 1)),(6,.slice A' m c'),(8,.map (some r)),(0,.slice A m c),(1,iv (v:Int))] ?_;refine eJ (fun k e R H=>k≤m∧e=[(9,iv ((k:Int) - 1)),(6,.slice A' m c'),(8,.map (some r)),(0,.slice A m c),(1,iv (v:Int))]∧R=[q,q0,all w]∧H=[HP.map r (mI (Mr g v m (m - k)))]) m ⟨Nat.le_refl _,rfl,rfl,by rw[Nat.sub_self];rfl⟩ fun k e R H hI=>?_;obtain⟨hk,rfl,rfl,rfl⟩:=hI;refine aA ?_;refine aG rfl (fun hge=>?_) (fun hlt=>?_)
 ·obtain⟨k,rfl⟩:∃j,k=j+1:=⟨k - 1,by omega⟩
  have hkm:k < m:=by omega
  obtain⟨row,hrow⟩:=get_some (l:=g) (i:=k) (by omega)
  have dW:Mr g v m (m - k)=Mg g (Mr g v m (m - (k+1))) k:=by
   rw[show m - k=(m - (k+1))+1 by omega]
   show Mg g _ (m - 1 - (m - (k+1)))=_
   rw[show m - 1 - (m - (k+1))=k by omega]
  generalize hks:Mr g v m (m - (k+1))=ks at dW⊢;obtain⟨b,off,sC,hz,hc⟩:=hs.2 (by omega)
  have yP:=hc k (iv (k:Int)) (by simp[aK,dM,hkm])
  obtain⟨gb,aQN,gr,hA,hgz,kL,⟨RA,rn,rk,rfl,Ws,Wq⟩,Xg⟩:=jP.aGR hg hrow
  have hrl:=hlen row (List.mem_of_getElem? hrow)
  have hrd:=Xg 0 _ rfl
  subst Ws;refine aA ?_;refine kd (dat k (off+k) (hx:=by rw[←sC];rfl)) ?_;refine kd (bN rfl (Rd.ro (p:=q) (by simp) hz yP)) ?_;refine aU (fun w1 t=>aAY r k ks w1 (t.map (i:=0) rfl)) ?_;cases hkc:ks.contains (k:Int)
  ·have h2:Mg g ks k=ks:=by unfold Mg;rw[hkc];rfl
   rw[h2] at dW;refine aA ?_;refine bL [(9,iv (((k+1:Nat):Int) - 1 - 1)),(6,.slice A' m c'),(8,.map (some r)),(0,.slice A m c),(1,iv (v:Int))] ?_;exact iD k (by omega) ⟨by omega,by rw[show(((k+1:Nat):Int) - 1 - 1)=(k:Int) - 1 by omega],rfl,by rw[dW]⟩
  ·have h2:Mg g ks k=row.foldl Ln ks:=by
    unfold Mg;rw[hkc,if_pos rfl,List.getD_eq_getElem?_getD,hrow];rfl
   rw[h2] at dW;refine aA ?_;refine kd (dat k (off+k) (hx:=by rw[←sC];rfl)) ?_;refine kd (bN rfl (Rd.ro (p:=q) (by simp) hz yP)) ?_;refine kd (dat k (aQN+k*1) (hx:=by rw[←hA];rfl)) ?_;refine kd (bN rfl (Rd.ro (p:=q0) (by simp) hgz hrd)) ?_;refine aA ?_;refine bL [(47,iv 0),(46,iv row.length),(45,.slice RA row.length rk),(9,iv (((k+1:Nat):Int) - 1)),(6,.slice A' m c'),(8,.map (some r)),(0,.slice A m c),(1,iv (v:Int))] ?_;refine eJ (fun u e R H=>∃i:Nat,i≤row.length∧u=row.length - i∧e=[(47,iv i),(46,iv row.length),(45,.slice RA row.length rk),(9,iv (((k+1:Nat):Int) - 1)),(6,.slice A' m c'),(8,.map (some r)),(0,.slice A m c),(1,iv (v:Int))]∧R=[q,q0,all w]∧H=[HP.map r (mI ((row.take i).foldl Ln ks))]) row.length ⟨0,by omega,rfl,rfl,rfl,rfl⟩ fun u e R H hI=>?_;obtain⟨i,hi,rfl,rfl,rfl,rfl⟩:=hI;refine aA ?_;refine aG rfl (fun vV=>?_) (fun aIx=>?_)
   ·have vV:i < row.length:=by omega
    obtain⟨y,hy⟩:=get_some vV;obtain⟨rb,aNk,hRA,hrz,hrc⟩:=(show aI q0 1 RA row.length (aK row) from Wq).2 (by omega)
    have Kr:=hrc i (iv y) (by simp[aK,hy])
    have fW:(row.take (i+1)).foldl Ln ks=Ln ((row.take i).foldl Ln ks) y:=by
     rw[List.take_add_one,hy,List.foldl_append];rfl
    generalize hk2:(row.take i).foldl Ln ks=ks2 at fW⊢;refine aA ?_;refine kd (dat i (aNk+i) (hx:=by rw[←hRA];rfl)) ?_;refine aA ?_;refine kd (bN rfl (Rd.ro (p:=q0) (by simp) hrz Kr)) ?_;refine aA ?_;refine dR 0 (HP.map r (mI (Ln ks2 y))) (fun w1 F1 t h1 h2 h3=>aAZ r y ks2 w1 F1 h1 h2) ?_;refine aA ?_;refine bL [(47,iv (i+1:Nat)),(46,iv row.length),(45,.slice RA row.length rk),(9,iv (((k+1:Nat):Int) - 1)),(6,.slice A' m c'),(8,.map (some r)),(0,.slice A m c),(1,iv (v:Int))] ?_;exact iD (row.length - (i+1)) (by omega) ⟨i+1,vV,rfl,rfl,rfl,by rw[fW]⟩
   ·obtain rfl:i=row.length:=by omega
    rw[List.take_length,←dW];refine aA ?_;refine bL [(9,iv (((k+1:Nat):Int) - 1 - 1)),(6,.slice A' m c'),(8,.map (some r)),(0,.slice A m c),(1,iv (v:Int))] ?_;exact iD k (by omega) ⟨by omega,by rw[show(((k+1:Nat):Int) - 1 - 1)=(k:Int) - 1 by omega],rfl,rfl⟩
 ·obtain rfl:k=0:=by omega
  rw[Nat.sub_zero];refine aA ?_;refine jR [] (Jk (Bo g v m)) (fun w1 t=>aOs q r _ A' m c' v w1 hn2 (t.map (i:=0) rfl) (t.le (by simp)) hs) ?_;rintro _ w1 q2 ⟨B,kb,rfl,hb⟩ nX _ hfr;refine aA ?_;exact eL rfl rfl rfl fun w1 t=>⟨⟨_,rfl,B,kb,rfl,(hb.le nX).le (t.mK (by simp) (hfr (by simp)))⟩,t.below (by simp)⟩
end
section
def wE(g:List (List Int))(c:Cn)(n:Nat):Nat→List Bool
 | 0=>List.replicate n false
 | i+1=>if fX c.l (i:Int)≤0 then wE g c n i else(Bo g (i:Int) n).foldl (fun l u=>l.set u true) ((wE g c n i).set i true)
def Ol(g:List (List Int))(n:Nat)(c:Cn):List Bool:=if c.iZ then List.replicate n false else wE g c n n
theorem aCT:∀(us:List Nat) (l:List Bool),(us.foldl (fun l u=>l.set u true) l).length=l.length
 | [],l=>rfl
 | u::us,l=>by
  rw[List.foldl_cons,aCT us];simp
theorem Zo(g:List (List Int))(c:Cn)(n:Nat):∀i,(wE g c n i).length=n
 | 0=>by simp[wE]
 | i + 1 => by
  unfold wE;split
  ·exact Zo g c n i
  ·rw[aCT,List.length_set];exact Zo g c n i
theorem aKb(g:List (List Int))(n:Nat)(c:Cn):(Ol g n c).length=n:=by
 unfold Ol;split
 ·simp
 ·exact Zo g c n n
def Ed(A:Option Addr)(g:List (List Int))(p:Piece):Prop:=nD p A g.length g
theorem Ed.le{A:Option Addr}{g:List (List Int)}(p q:Piece)(hl:p.Le q)(h:Ed A g p):Ed A g q:=nD.le h hl
def lC(gc gm:Nat)(A:Option Addr)(k:Nat)(g:List (List Int))(c:Cn):HP:=HP.many [nZ gc gm (.slice A g.length k) c,HP.bR (Ed A g) (Ed.le (A:=A) (g:=g))]
theorem aEP{l:List Bool}{i:Nat}{b:Bool}:(bE l).set i (.bool b)=bE (l.set i b):=by simp[bE,List.map_set]
theorem aOu{ks:List Int}{v:Int}{n u:Nat}(h:u∈uK ks v n):u < n:=by
 unfold uK at h;exact List.mem_range.1 (List.mem_filter.1 h).1
theorem aEH(gc gm:Nat)(A:Option Addr)(k:Nat)(g:List (List Int))(c:Cn)(n:Nat)(hn:n=g.length)(hn2:n≤100)(hlen:∀l∈g,(l.length:Int)≤1000)(ho:fS g=(0,List.range n))(w:World)(F:Nat→Prop)(hp:(lC gc gm A k g c).sat F w)(hF:∀b,F b→b < w.heap.size):
  Cz 30 #[pt gc] w (fun y w'=>∃b:Nat,y=.returned (.slice (some ⟨b,0,none⟩) n n)∧True∧∃F',(HP.many [lC gc gm A k g c,HP.aE b 4 (bE (Ol g n c))]).sat F' w'∧gX w w' F F'):=by
 refine dJ func30 ntmps30 hp hF ?_;generalize cM:(⟨w,fun b=>b < w.heap.size∧¬F b⟩:Piece)=R0;obtain⟨cl,iZ⟩:=c;refine bF 0 1 ?_;refine bF 1 0 ?_;refine bF 0 0 ?_;refine bF 1 1 ?_;subst hn;refine aB ?_;refine lO (n:=g.length) 1 (el:=4) (z:=.bool false) (by kernel_rfl) (by kernel_rfl) rfl rfl rfl (by omega) (by omega) (by decide) fun gl=>?_;rw[show List.replicate g.length (Value.bool false)=bE (List.replicate g.length false) from by simp[bE]];unfold Ol;cases iZ
 ·dsimp only;refine aB ?_;refine bL [(22,iv 0),(21,iv g.length),(3,.slice (some ⟨gl,0,none⟩) g.length g.length),(0,pt gc)] ?_;refine eJ (fun m e R H=>∃i:Nat,i≤g.length∧m=g.length - i∧e=[(22,iv i),(21,iv g.length),(3,.slice (some ⟨gl,0,none⟩) g.length g.length),(0,pt gc)]∧R=[R0]∧H=[HP.aE gl 4 (bE (wE g ⟨cl,false⟩ g.length i)),HP.map gm (tB cl),HP.aE gc 160 [.slice A g.length k,.map (some gm),.bool false],HP.many [cJ,cJ],HP.bR (Ed A g) (Ed.le (A:=A) (g:=g)),HP.many [cJ,cJ]]) g.length ⟨0,by omega,rfl,rfl,rfl,rfl⟩ fun m e R H hI=>?_;obtain⟨i,hi,rfl,rfl,rfl,rfl⟩:=hI
  have hal:=Zo g ⟨cl,false⟩ g.length i
  have dW:wE g ⟨cl,false⟩ g.length (i+1)=if fX cl (i:Int)≤0 then wE g ⟨cl,false⟩ g.length i else(Bo g (i:Int) g.length).foldl (fun l u=>l.set u true) ((wE g ⟨cl,false⟩ g.length i).set i true):=rfl
  generalize hl:wE g ⟨cl,false⟩ g.length i=l at hal dW⊢;refine aB ?_;refine aG rfl (fun hlt=>?_) (fun hge=>?_)
  ·have hlt:i < g.length:=by omega
   refine aB ?_;refine Ra 1 rfl ?_;refine aB ?_;refine aG rfl (fun h0=>?_) (fun h0=>?_)
   ·rw[if_pos h0] at dW;refine aB ?_;exact dZ (g.length - (i+1)) ⟨i+1,hlt,rfl,rfl,rfl,by rw[dW]⟩
   ·rw[if_neg h0] at dW;refine aB ?_;refine fD rfl rfl ?_ (hs:=eN.mk 0 rfl cI.h rfl (by simp[bE];omega));dsimp only[List.set];rw[aEP];refine aB ?_;refine jR [] (fun x w w'=>∃A' c',x=.tuple #[.slice A' (Bo g (i:Int) g.length).length c',iv 0]∧aI (fresh w w') 1 A' (Bo g (i:Int) g.length).length (aK (dM (Bo g (i:Int) g.length)))) (fun w1 t=>aRc (all w1) A g.length k g i w1 (Piece.Le.refl _) (t.bR 4 rfl) rfl hn2 hlen hlt ho) ?_;rintro _ w1 q ⟨B,kb,rfl,hb⟩ hf _ _
    have hb:=hb.le hf
    have Ri:=aHw (Mr g (i:Int) g.length g.length) (i:Int) g.length
    have hum:∀u∈Bo g (i:Int) g.length,u < g.length:=fun u hu=>aOu hu
    change (Bo g (i:Int) g.length).length≤_ at Ri
    generalize hus:Bo g (i:Int) g.length=us at dW hb Ri hum⊢;refine aB ?_;refine bL [(46,iv 0),(45,iv us.length),(44,.slice B us.length kb),(22,iv i),(21,iv g.length),(3,.slice (some ⟨gl,0,none⟩) g.length g.length),(0,pt gc)] ?_;refine eJ (fun m e R H=>∃j:Nat,j≤us.length∧m=us.length - j∧e=[(46,iv j),(45,iv us.length),(44,.slice B us.length kb),(22,iv i),(21,iv g.length),(3,.slice (some ⟨gl,0,none⟩) g.length g.length),(0,pt gc)]∧R=[q,R0]∧H=[HP.aE gl 4 (bE ((us.take j).foldl (fun l u=>l.set u true) (l.set i true))),HP.map gm (tB cl),HP.aE gc 160 [.slice A g.length k,.map (some gm),.bool false],HP.many [cJ,cJ],HP.bR (Ed A g) (Ed.le (A:=A) (g:=g)),HP.many [cJ,cJ]]) us.length ⟨0,by omega,rfl,rfl,rfl,rfl⟩ fun m e R H hI=>?_;obtain⟨j,hj,rfl,rfl,rfl,rfl⟩:=hI;refine aB ?_;refine aG rfl (fun vV=>?_) (fun aIx=>?_)
    ·have vV:j < us.length:=by omega
     obtain⟨u,hu⟩:=get_some vV
     have hun:=hum u (List.mem_of_getElem? hu)
     obtain⟨b,off,hB,hz,hc⟩:=hb.2 (by omega)
     have hcu:=hc j (iv (u:Int)) (by simp[aK,dM,hu])
     have fW:(us.take (j+1)).foldl (fun l u=>l.set u true) (l.set i true)=((us.take j).foldl (fun l u=>l.set u true) (l.set i true)).set u true:=by
      rw[List.take_add_one,hu,List.foldl_append];rfl
     have Hw:((us.take j).foldl (fun l u=>l.set u true) (l.set i true)).length=g.length:=by rw[aCT,List.length_set];exact hal
     generalize hl3:(us.take j).foldl (fun l u=>l.set u true) (l.set i true)=l3 at fW Hw⊢;refine aB ?_;refine kd (dat j (off+j) (hx:=by rw[←hB];rfl)) ?_;refine aA ?_;refine kd (bN rfl (Rd.ro (p:=q) (by simp) hz hcu)) ?_;refine aA ?_;refine kd (dat u u) ?_;refine fD rfl rfl ?_ (hs:=eN.mk 0 rfl cI.h rfl (by simp[bE];omega));dsimp only[List.set];rw[aEP,←fW];refine aB ?_;exact dZ (us.length - (j+1)) ⟨j+1,vV,rfl,rfl,rfl,rfl⟩
    ·obtain rfl:j=us.length:=by omega
     rw[List.take_length,←dW];refine aB ?_;refine aY [0,1,2,3,4,5] rfl (by decide) (R':=[R0]) (by simp) ?_;exact dZ (g.length - (i+1)) ⟨i+1,hlt,rfl,rfl,rfl,rfl⟩
  ·obtain rfl:i=g.length:=by omega
   subst hl;refine aB ?_;refine aY [1,2,3,4,5,0] rfl (by decide) (fun _ h=>h) ?_;refine aN 1 1 ?_;refine aN 0 0 ?_;refine aN 1 0 ?_;refine aN 0 1 ?_;refine nA ?_;subst cM;exact mZ rfl rfl fun w1 t=>⟨gl,rfl,trivial,t.turns hF (by simp) (i:=0) rfl⟩
 ·dsimp only;refine aB ?_;refine aY [1,2,3,4,5,0] rfl (by decide) (fun _ h=>h) ?_;refine aN 1 1 ?_;refine aN 0 0 ?_;refine aN 1 0 ?_;refine aN 0 1 ?_;refine nA ?_;subst cM;exact mZ rfl rfl fun w1 t=>⟨gl,rfl,trivial,t.turns hF (by simp) (i:=0) rfl⟩
end
section
set_option maxHeartbeats 8000000
def aAk(x:bM)(v:Value)(hs:List HP)(_:Piece):Prop:=∃(g1 g2 g3:Nat) (p:HP),v=.agg #[.slice (some ⟨g1,0,none⟩) x.d.length x.d.length,.slice (some ⟨g2,0,none⟩) x.c.length x.c.length,.slice (some ⟨g3,0,none⟩) x.l.length x.l.length]∧hs=[HP.many [HP.aE g1 4 (bE x.d),HP.aE g2 4 (bE x.c),HP.aE g3 4 (bE x.l)],p]
theorem aA2(q:Piece)(s:aD)(A1 A2 A3 A4:Option Addr)(n1 k1 n2 k2 n3 k3 n4 k4:Nat)(Aa:Option Addr)(ca:Nat)(act:List Bool)(w:World)(oN:sL q s A1 n1 A2 n2 A3 n3 A4 n4)(hm:s.made)(hq:q.Le (all w))(hact:aI (all w) 1 Aa act.length (bE act)):
  Cz 77 #[.agg #[.slice A1 n1 k1,.slice A2 n2 k2,.slice A3 n3 k3,.slice A4 n4 k4],.slice Aa act.length ca] w (fun y w'=>(∃v hs q,y=.returned v∧q.w=w'∧aAk (eT s act) v hs q∧jD w hs q)∧Below w.heap.size w w'):=by
 obtain⟨rfl,rfl,rfl,rfl⟩:=oN.len;refine aM func77 ntmps77 ?_;refine Bq q (by simp) hq ?_
 have hn9:=hm.nc
 have rG:=hm.nd
 have pI:=hm.nr
 have lX:=hm.nv
 refine aB ?_;refine bA fun g1=>?_;refine bX fun g2=>?_;refine aB ?_;refine dG (fun w1 st=>aBD s A1 A2 A3 A4 _ k1 _ k2 _ k3 _ k4 w1 (oN.W (st.le (by simp)) (We hm))) ?_;rw[aBc hm];refine aAu rfl rfl (by decide) ?_;refine dO ?_;refine aG rfl (fun h=>absurd rfl h) (fun h=>?_)
 ·
  refine mA ?_;refine dS ?_;refine Tq (fun e R H=>∃ga gb gc gw,e=[(5,pt gw),(4,pt g2),(2,pt g1),(1,.slice Aa act.length ca)]∧R=[q,all w]∧H=[HP.aE gw 116 [.slice (some ⟨ga,0,none⟩) s.domains.length s.domains.length,.slice (some ⟨gb,0,none⟩) s.aF.length s.aF.length,.slice (some ⟨gc,0,none⟩) s.aR.length s.aR.length],HP.aE ga 4 (bE (dQ s).d),HP.aE gb 4 (bE (dQ s).c),HP.aE gc 4 (bE (dQ s).l),HP.aE g2 116 [sn,sn,sn],HP.aE g1 30 [.slice A1 s.aF.length k1,.slice A2 s.domains.length k2,.slice A3 s.aR.length k3,.slice A4 s.aC.length k4]]) ?_ ?_
  ·
   refine rL 14 (by kernel_rfl) (by kernel_rfl) ?_;refine gF 0 rfl rfl rfl (Gh (off:=1) (by kernel_rfl) rfl) ?_;refine gF 1 rfl rfl rfl (Lf rfl) ?_;refine gF 2 rfl rfl rfl (Od (el:=50) (by kernel_rfl) rfl) ?_;refine gF 4 rfl rfl rfl (Gh (off:=0) (by kernel_rfl) rfl) ?_;refine gF 5 rfl rfl rfl (Lf rfl) ?_;refine gF 6 rfl rfl rfl (Od (el:=86) (by kernel_rfl) rfl) ?_;refine gF 8 rfl rfl rfl (Gh (off:=2) (by kernel_rfl) rfl) ?_;refine gF 9 rfl rfl rfl (Lf rfl) ?_;refine gF 10 rfl rfl rfl (Od (el:=88) (by kernel_rfl) rfl) ?_;refine aCn (fuel:=2) [3,7,11,13] [[3,7,11],[3,7,11,13]] (fun i=>match i with | 3=>⟨19,4,List.replicate s.domains.length (.bool false),fun g=>.slice (some ⟨g,0,none⟩) s.domains.length s.domains.length⟩ | 7=>⟨23,4,List.replicate s.aF.length (.bool false),fun g=>.slice (some ⟨g,0,none⟩) s.aF.length s.aF.length⟩ | 11=>⟨27,4,List.replicate s.aR.length (.bool false),fun g=>.slice (some ⟨g,0,none⟩) s.aR.length s.aR.length⟩ | _=>⟨5,116,[sn,sn,sn],fun g=>pt g⟩) (fun i hi=>?_) (by show[19,23,27,5].Nodup;decide) (by kernel_rfl) (fun _ h=>h) (fun sub hsub hex g=>?_)
   ·simp only[List.mem_cons,List.not_mem_nil,or_false] at hi;rcases hi with rfl | rfl | rfl | rfl
    ·exact uC.of rfl rfl rfl (Ah 1 (el:=4) (z:=.bool false) (by kernel_rfl) (by kernel_rfl) rfl rfl rfl (by omega) (by omega)) (Nat.le_of_ble_eq_true rfl) rfl
    ·exact uC.of rfl rfl rfl (Ah 1 (el:=4) (z:=.bool false) (by kernel_rfl) (by kernel_rfl) rfl rfl rfl (by omega) (by omega)) (Nat.le_of_ble_eq_true rfl) rfl
    ·exact uC.of rfl rfl rfl (Ah 1 (el:=4) (z:=.bool false) (by kernel_rfl) (by kernel_rfl) rfl rfl rfl (by omega) (by omega)) (Nat.le_of_ble_eq_true rfl) rfl
    ·exact uC.of rfl rfl rfl (aHI (iG (by kernel_rfl))) (Nat.le_of_ble_eq_true rfl) rfl
   have fW:sub=[3,7,11]∨sub=[3,7,11,13]:=by simpa using hex
   have er:∀n:Nat,List.replicate n (Value.bool false)=bE (List.replicate n false):=fun n=>by simp[bE]
   rcases fW with rfl | rfl
   ·dsimp only[rJ,tN,kX,List.map,List.foldr,List.cons_append,List.nil_append,List.length_cons,List.length_nil,Nat.reduceAdd,Nat.reduceSub];refine fM 12 rfl rfl rfl (by decide) (lZ (zs:=[sn,sn,sn]) (L:=[(0,1),(1,1),(2,1)]) (iG (by kernel_rfl)) (by kernel_rfl) rfl (by simp[fJ,gK,Value.cells];rfl)) (by kernel_rfl) (fun _ _ _ h=>h) (fun _ h=>h.tail.tail.tail) ?_;refine cH 13 ?_;refine bX fun g6=>?_;refine iE ?_;refine gT ?_;refine lB (fun _ h=>h.tail.tail.tail.tail) ?_;refine cH 14 ?_;refine uD rfl rfl ?_;simp only[iH,Value.cells,List.set,List.take,List.drop,List.nil_append,List.append_nil,List.length_cons,List.length_nil,List.cons_append,Nat.reduceAdd];refine eZ ?_;refine kH ?_;refine dS ?_;exact aY [0,1,2,3,4,5] rfl (by decide) (by simp) (bL [(5,pt g6),(4,pt g2),(2,pt g1),(1,.slice Aa act.length ca)] (aAa ⟨g 3,g 7,g 11,g6,rfl,rfl,by simp only[er,dQ]⟩))
   ·dsimp only[rJ,tN,kX,List.map,List.foldr,List.cons_append,List.nil_append,List.length_cons,List.length_nil,Nat.reduceAdd,Nat.reduceSub];refine fM 12 rfl rfl rfl (by decide) (lZ (zs:=[sn,sn,sn]) (L:=[(0,1),(1,1),(2,1)]) (iG (by kernel_rfl)) (by kernel_rfl) rfl (by simp[fJ,gK,Value.cells];rfl)) (by kernel_rfl) (fun _ _ _ h=>h) (fun _ h=>h.tail.tail.tail.tail) ?_;refine cH 14 ?_;refine uD rfl rfl ?_;simp only[iH,Value.cells,List.set,List.take,List.drop,List.nil_append,List.append_nil,List.length_cons,List.length_nil,List.cons_append,Nat.reduceAdd];refine eZ ?_;refine kH ?_;refine dS ?_;exact aY [3,0,1,2,4,5] rfl (by decide) (by simp) (bL [(5,.pointer (some ⟨g 13,0,none⟩)),(4,pt g2),(2,pt g1),(1,.slice Aa act.length ca)] (aAa ⟨g 3,g 7,g 11,g 13,rfl,rfl,by simp only[er,dQ]⟩))
  rintro _ _ _ ⟨ga,gb,gc,gw,rfl,rfl,rfl⟩;refine aB ?_;refine bL [(32,iv 0),(31,iv s.aC.length),(30,.slice A4 s.aC.length k4),(5,pt gw),(4,pt g2),(2,pt g1),(1,.slice Aa act.length ca)] ?_;refine aB ?_;refine eJ (fun m e R H=>∃(j:Nat),j≤s.aC.length∧m=s.aC.length - j∧e=[(32,iv j),(31,iv s.aC.length),(30,.slice A4 s.aC.length k4),(5,pt gw),(4,pt g2),(2,pt g1),(1,.slice Aa act.length ca)]∧R=[q,all w]∧H=[HP.aE gw 116 [.slice (some ⟨ga,0,none⟩) s.domains.length s.domains.length,.slice (some ⟨gb,0,none⟩) s.aF.length s.aF.length,.slice (some ⟨gc,0,none⟩) s.aR.length s.aR.length],HP.aE ga 4 (bE (iK s act j).d),HP.aE gb 4 (bE (iK s act j).c),HP.aE gc 4 (bE (iK s act j).l),HP.aE g2 116 [sn,sn,sn],HP.aE g1 30 [.slice A1 s.aF.length k1,.slice A2 s.domains.length k2,.slice A3 s.aR.length k3,.slice A4 s.aC.length k4]]) s.aC.length ⟨0,by omega,rfl,rfl,rfl,rfl⟩ fun m e R H hI=>?_;obtain⟨j,hj,rfl,rfl,rfl,rfl⟩:=hI;refine aB ?_;refine aG rfl (fun h=>?_) (fun h=>?_)
  ·
   refine mA ?_;refine dS ?_;refine cP ?_;refine sJ ?_;refine cP ?_
   have hjl:j < s.aC.length:=by have h':(j:Int) < (s.aC.length:Int):=h;omega
   obtain⟨x,hx⟩:∃x,s.aC[j]? =some x:=⟨_,List.getElem?_eq_getElem hjl⟩
   obtain⟨hx1,yI,hx3,hx4,hx5,hx6,_⟩:=hm.aC j x hx;obtain⟨bV,oV,rV,rfl,hzV,_,hR,Xr⟩:=oN.dev.zT hx;obtain⟨Ar,nr,kr,An,nn,kn,rfl,_⟩:=hR
   have My:=Er s act j
   obtain⟨xc,hxc⟩:∃xc:Nat,x.clock=(xc:Int):=⟨x.clock.toNat,by omega⟩
   obtain⟨xd,hxd⟩:∃xd:Nat,x.domain=(xd:Int):=⟨x.domain.toNat,by omega⟩
   obtain⟨xr,hxr⟩:∃xr:Nat,x.reset=(xr:Int):=⟨x.reset.toNat,by omega⟩
   have Hv:hasB act j=true→iK s act (j+1)=⟨sU (Es s xd) (iK s act j).d,sU ((fU s xc).filter (mM s)) (iK s act j).c,gZ (iK s act j).l (xr:Int) true⟩:=fun ha=>by
    rw[Uo hx ha,Pu,hxd,hxc,hxr];rfl
   rw[hxc,hxd,hxr] at Xr;generalize hwj:iK s act j=wj at *;refine eC ?_;refine cQ rfl (by decide) ?_;refine kd (dat (j) (oV+j*6)) ?_;refine zM 6 (by kernel_rfl) rfl (aQ.of (vs:=[iv (xc:Int),iv (xd:Int),iv (xr:Int),.int .u32 x.iU,.slice Ar nr kr,.slice An nn kn]) fun f v hf=>Rd.ro (p:=q) (by simp) hzV (Xr f v hf)) rfl (by decide) ?_;refine bX fun g7=>?_;refine fP rfl (by decide) ?_;refine uD rfl rfl ?_;simp only[iH,Value.cells,List.set,List.take,List.drop,List.nil_append,List.append_nil,List.length_cons,List.length_nil,List.cons_append,Nat.reduceAdd];refine aB ?_;refine dG (fun w1 st=>aEg Aa act.length ca j act w1 (hact.le (st.le (by simp))) rfl (by omega)) ?_;refine aB ?_;refine qD rfl (fun h=>?_) (fun h=>?_)
   ·
    refine aB ?_
    have hno:hasB act j=false:=by simpa using h
    exact aY [1,2,3,4,5,6] rfl (by decide) (by simp) (bL [(32,iv ((j:Int)+1)),(31,iv s.aC.length),(30,.slice (some ⟨bV,oV,none⟩) s.aC.length k4),(5,pt gw),(4,pt g2),(2,pt g1),(1,.slice Aa act.length ca)] (iD (s.aC.length - (j+1)) (by omega) ⟨j+1,by omega,rfl,rfl,rfl,by rw[Pv hno,hwj]⟩))
   ·
    have hyes:hasB act j=true:=by simpa using h
    have Hv:=Hv hyes
    refine aB ?_;refine bL [(8,iv (xd:Int)),(7,pt g7),(32,iv j),(31,iv s.aC.length),(30,.slice (some ⟨bV,oV,none⟩) s.aC.length k4),(5,pt gw),(4,pt g2),(2,pt g1),(1,.slice Aa act.length ca)] ?_;refine aB ?_;refine eJ (fun m e R H=>∃(cur:Int) (rest:List Nat) (d:List Bool),m=rest.length∧By s cur rest∧d.length=s.domains.length∧sU rest d=sU (Es s xd) wj.d∧e=[(8,iv cur),(7,pt g7),(32,iv j),(31,iv s.aC.length),(30,.slice (some ⟨bV,oV,none⟩) s.aC.length k4),(5,pt gw),(4,pt g2),(2,pt g1),(1,.slice Aa act.length ca)]∧R=[q,all w]∧H=[HP.aE g7 38 [iv (xc:Int),iv (xd:Int),iv (xr:Int),.int .u32 x.iU,.slice Ar nr kr,.slice An nn kn],HP.aE gw 116 [.slice (some ⟨ga,0,none⟩) s.domains.length s.domains.length,.slice (some ⟨gb,0,none⟩) s.aF.length s.aF.length,.slice (some ⟨gc,0,none⟩) s.aR.length s.aR.length],HP.aE ga 4 (bE d),HP.aE gb 4 (bE wj.c),HP.aE gc 4 (bE wj.l),HP.aE g2 116 [sn,sn,sn],HP.aE g1 30 [.slice A1 s.aF.length k1,.slice A2 s.domains.length k2,.slice A3 s.aR.length k3,.slice (some ⟨bV,oV,none⟩) s.aC.length k4]]) (Es s xd).length ⟨_,Es s xd,wj.d,rfl,aA5 hm (by omega),My.d,rfl,rfl,rfl,rfl⟩ fun m e R H hI=>?_;obtain⟨cur,rest,d,rfl,Wn,iY,hpd,rfl,rfl,rfl⟩:=hI;refine aB ?_;refine aG rfl (fun h=>?_) (fun h=>?_)
    ·
     refine aB ?_
     obtain⟨i,r,rfl⟩:∃i r,rest=i::r:=by
      cases rest with
      | nil=>exact absurd Wn h
      | cons i r=>exact⟨i,r,rfl⟩
     obtain⟨rfl,dm,tP,Wn⟩:=Wn
     have hil:=(List.getElem?_eq_some_iff.1 tP).1
     refine aB ?_;refine tH 2 rfl (by kernel_rfl) rfl rfl rfl (by rw[aER];omega) ?_;dsimp only[List.set];rw[aEQ,show d.set i true=gZ d (i:Int) true by simp[gZ]];refine dO ?_;obtain⟨bD,oD,rD,rfl,Wj,_,rfl,Np⟩:=oN.dom.zT tP;refine eC ?_;refine qG (off:=1) (by kernel_rfl) rfl (by decide) ?_;refine Em rfl ?_;refine cQ rfl (by decide) ?_;refine kd (dat (i) (oD+i*3)) ?_;refine qG (off:=0) (by kernel_rfl) rfl (by decide) ?_;refine jE (by kernel_rfl) rfl (Rd.ro (p:=q) (by simp) Wj (Np 0 _ rfl)) (by decide) ?_;refine fP rfl (by decide) ?_;refine dO ?_;exact bL [(8,iv dm.above),(7,pt g7),(32,iv j),(31,iv s.aC.length),(30,.slice (some ⟨bV,oV,none⟩) s.aC.length k4),(5,pt gw),(4,pt g2),(2,pt g1),(1,.slice Aa act.length ca)] (iD r.length (by simp) ⟨dm.above,r,gZ d (i:Int) true,rfl,Wn,by rw[Mp];exact iY,by rw[←hpd];rfl,rfl,rfl,rfl⟩)
    ·
     refine aB ?_
     obtain rfl:rest=[]:=by
      cases rest with
      | nil=>rfl
      | cons i r=>exact absurd (show cur= -1 from Classical.not_not.1 h) (by have:=Wn.1;omega)
     have hpd:d=sU (Es s xd) wj.d:=hpd
     refine aB ?_;refine jR [] (Jk (fU s xc)) (fun w1 st=>aBF q s A1 A2 A3 (some ⟨bV,oV,none⟩) _ k1 _ k2 _ k3 _ k4 xc w1 oN hm.wX (st.le (by simp)) (by omega)) ?_;rintro _ w1 qc ⟨Ac,cc,rfl,hsc⟩ hf _ _
     have hsc:=hsc.le hf
     have hcin:=fun i (hi:i∈fU s xc)=>aEL s _ _ i hi
     have iB:(fU s xc).length≤s.aF.length:=aBG s _ _
     clear hf;generalize jT:fU s xc=ch at *;refine aB ?_;refine bL [(60,iv 0),(59,iv ch.length),(58,.slice Ac ch.length cc),(7,pt g7),(32,iv j),(31,iv s.aC.length),(30,.slice (some ⟨bV,oV,none⟩) s.aC.length k4),(5,pt gw),(4,pt g2),(2,pt g1),(1,.slice Aa act.length ca)] ?_;refine aB ?_;refine eJ (fun m e R H=>∃(k:Nat),k≤ch.length∧m=ch.length - k∧e=[(60,iv k),(59,iv ch.length),(58,.slice Ac ch.length cc),(7,pt g7),(32,iv j),(31,iv s.aC.length),(30,.slice (some ⟨bV,oV,none⟩) s.aC.length k4),(5,pt gw),(4,pt g2),(2,pt g1),(1,.slice Aa act.length ca)]∧R=[qc,q,all w]∧H=[HP.aE g7 38 [iv (xc:Int),iv (xd:Int),iv (xr:Int),.int .u32 x.iU,.slice Ar nr kr,.slice An nn kn],HP.aE gw 116 [.slice (some ⟨ga,0,none⟩) s.domains.length s.domains.length,.slice (some ⟨gb,0,none⟩) s.aF.length s.aF.length,.slice (some ⟨gc,0,none⟩) s.aR.length s.aR.length],HP.aE ga 4 (bE d),HP.aE gb 4 (bE (sU ((ch.take k).filter (mM s)) wj.c)),HP.aE gc 4 (bE wj.l),HP.aE g2 116 [sn,sn,sn],HP.aE g1 30 [.slice A1 s.aF.length k1,.slice A2 s.domains.length k2,.slice A3 s.aR.length k3,.slice (some ⟨bV,oV,none⟩) s.aC.length k4]]) ch.length ⟨0,by omega,rfl,rfl,rfl,rfl⟩ fun m e R H hI=>?_;obtain⟨k,hk,rfl,rfl,rfl,rfl⟩:=hI;refine aB ?_;refine aG rfl (fun h=>?_) (fun h=>?_)
     ·
      refine mA ?_;refine dS ?_;refine cP ?_;refine sJ ?_;refine cP ?_
      have Xb:k < ch.length:=by have h':(k:Int) < (ch.length:Int):=h;omega
      obtain⟨ci,sB⟩:∃ci,ch[k]? =some ci:=⟨_,List.getElem?_eq_getElem Xb⟩
      have aQ6:=hcin ci (List.mem_of_getElem? sB)
      obtain⟨ck,yP⟩:∃ck,s.aF[ci]? =some ck:=⟨_,List.getElem?_eq_getElem aQ6⟩
      obtain⟨bI,oI,rfl,hzI,Nn⟩:=hsc.2 (by omega);obtain⟨bC,oC,rC,rfl,hzC,_,hR2,hcC⟩:=oN.jM.zT yP;obtain⟨As,ns,ks,rfl,_⟩:=hR2
      have mQ:(ch.take (k+1)).filter (mM s)=(ch.take k).filter (mM s)++(if mM s ci then[ci] else[]):=by
       rw[List.take_add_one,sB,List.filter_append];cases lU:mM s ci<;>simp[lU]
      have aIa:mM s ci=decide (ck.kind=112∨ck.kind=103):=by unfold mM;rw[yP]
      have aVi:(sU ((ch.take k).filter (mM s)) wj.c).length=s.aF.length:=by rw[aDi];exact My.c
      refine eC ?_;refine kd (dat (k) (oI+k)) ?_;refine jE (by kernel_rfl) rfl (Rd.ro (p:=qc) (by simp) hzI (Nn k _ (aON sB))) (by decide) ?_;refine fP rfl (by decide) ?_;refine dO ?_;refine cP ?_;refine eC ?_;refine qG (off:=0) (by kernel_rfl) rfl (by decide) ?_;refine Em rfl ?_;refine cQ rfl (by decide) ?_;refine kd (dat (ci) (oC+ci*6)) ?_;refine qG (off:=0) (by kernel_rfl) rfl (by decide) ?_;refine jE (by kernel_rfl) rfl (Rd.ro (p:=q) (by simp) hzC (hcC 0 _ rfl)) (by decide) ?_;refine fP rfl (by decide) ?_;refine dO ?_;refine aAf 75 (ck.kind=112∨ck.kind=103) ?_ ?_
      ·skip
       refine aB ?_;refine bQ (t:=72) rfl (fun hg=>?_) (fun hg=>?_)
       ·
        refine fR rfl rfl rfl (by decide) ?_;refine fR rfl rfl rfl (by decide) ?_
        (first | refine qE rfl rfl (by decide) ?_ | refine qF rfl rfl (by decide) ?_)
        refine dO ?_;exact Tk
       ·
        refine fG rfl rfl ?_;refine cQ rfl (by decide) ?_;refine fG rfl rfl ?_;refine aFQ rfl rfl (by decide) ?_
        (first | refine qE rfl rfl (by decide) ?_ | refine qF rfl rfl (by decide) ?_)
        refine dO ?_;exact Tk
      refine aG rfl (fun Rr=>?_) (fun Rr=>?_)
      ·
       refine aB ?_;refine tH 3 rfl (by kernel_rfl) rfl rfl rfl (by rw[aER];omega) ?_;dsimp only[List.set];rw[aEQ,show(sU ((ch.take k).filter (mM s)) wj.c).set ci true=sU ((ch.take (k+1)).filter (mM s)) wj.c by rw[mQ,aIa,decide_eq_true Rr];simp[sU,gZ,List.foldl_append]];refine aB ?_;exact bL [(60,iv ((k:Int)+1)),(59,iv ch.length),(58,.slice (some ⟨bI,oI,none⟩) ch.length cc),(7,pt g7),(32,iv j),(31,iv s.aC.length),(30,.slice (some ⟨bV,oV,none⟩) s.aC.length k4),(5,pt gw),(4,pt g2),(2,pt g1),(1,.slice Aa act.length ca)] (iD (ch.length - (k+1)) (by omega) ⟨k+1,by omega,rfl,rfl,rfl,rfl⟩)
      ·
       refine aB ?_;exact bL [(60,iv ((k:Int)+1)),(59,iv ch.length),(58,.slice (some ⟨bI,oI,none⟩) ch.length cc),(7,pt g7),(32,iv j),(31,iv s.aC.length),(30,.slice (some ⟨bV,oV,none⟩) s.aC.length k4),(5,pt gw),(4,pt g2),(2,pt g1),(1,.slice Aa act.length ca)] (iD (ch.length - (k+1)) (by omega) ⟨k+1,by omega,rfl,rfl,rfl,by rw[mQ,aIa,decide_eq_false Rr];simp⟩)
     ·
      refine aB ?_
      have hke:k=ch.length:=by have h':¬(k:Int) < (ch.length:Int):=h;omega
      rw[hke,List.take_length]
      have pW:=My.l
      refine aB ?_;refine tH 4 rfl (by kernel_rfl) rfl rfl rfl (by rw[aER];omega) ?_;dsimp only[List.set];rw[aEQ,show wj.l.set xr true=gZ wj.l (xr:Int) true by simp[gZ]];refine aB ?_;exact aY [1,2,3,4,5,6] rfl (by decide) (R':=[q,all w]) (by simp) (bL [(32,iv ((j:Int)+1)),(31,iv s.aC.length),(30,.slice (some ⟨bV,oV,none⟩) s.aC.length k4),(5,pt gw),(4,pt g2),(2,pt g1),(1,.slice Aa act.length ca)] (iD (s.aC.length - (j+1)) (by omega) ⟨j+1,by omega,rfl,rfl,rfl,by rw[Hv,hpd]⟩))
  ·
   refine aB ?_;refine uD rfl rfl ?_;simp only[iH,Value.cells,List.set,List.take,List.drop,List.nil_append,List.append_nil,List.length_cons,List.length_nil,List.cons_append,Nat.reduceAdd];refine aB ?_
   have hje:j=s.aC.length:=by have h':¬(j:Int) < (s.aC.length:Int):=h;omega
   have My:=Er s act j
   have hww:eT s act=iK s act j:=by rw[hje];rfl
   generalize iK s act j=wj at *;refine aY [1,2,3,4] rfl (by decide) (R':=[q,all w]) (by simp) ?_;refine Zw ?_;refine dP [] [] [0,1] (by simp) rfl (by decide) (by decide) fun qf _ _ hfr=>?_
   exact Lo rfl (by kernel_rfl) rfl rfl (aQ.whole 1 rfl) fun w1 st=>⟨⟨_,_,⟨w1,qf.Z⟩,rfl,rfl,by
    rw[hww]
    exact⟨ga,gb,gc,_,by rw[My.d,My.c,My.l],rfl⟩,st.newR (by simp) (by simp) (hfr (by simp) (by simp))⟩,st.below (by simp)⟩
end
end Go.Proofs.YtdcdccmpcmjmhaaGreatDoor
