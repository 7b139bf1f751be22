/- package firm: take. -/
import Derived.Tactics2
import Derived.Test.YtdcdccmpcmjmhaaGreatDoorRpmHandlesK5
namespace Go.Proofs.YtdcdccmpcmjmhaaGreatDoor
set_option linter.all false
set_option maxHeartbeats 4000000
set_option maxRecDepth 20000
open Go.RowKit Go.Proofs.Tryz
section
def Bc(z:bY)(a:Nat):Int:=if a=0 then z.h0 else z.h1
def sP(z:bY):Option Nat:=if Bc z (1 - z.last).toNat=1 then some (1 - z.last).toNat else if Bc z z.last.toNat=1 then some z.last.toNat else none
def mB(s:aC)(x:aO):List Int:=(List.range s.aD.length).map fun i=>(iS x.wt i:Int)
theorem aQG(f:Nat)(hL:HL)(s:aC)(z:bY)(x:aO)(hl:z.last=0∨z.last=1)(hn:sP z=none)(w:World)(F:Nat→Prop)(hp:(fD f hL s z x).sat F w)(hF:∀b,F b→b < w.heap.size):
  Cz 50 #[pt f] w (Wr (.bool false) (fD f hL s z x) w F):=by
 have hno:z.h0≠1∧z.h1≠1:=by
  unfold sP at hn;rcases hl with h | h<;>rw[h] at hn<;>simp[Bc] at hn<;>by_cases p:z.h0=1<;>by_cases q:z.h1=1<;>simp[p,q] at hn⊢
 refine dB func50 ntmps50 hp hF ?_;refine aZ 0 0 ?_;refine Zv 0 rfl fun L=>?_;dsimp only[List.set,dS];rcases hl with hl | hl<;>rw[hl]
 ·refine aA ?_;refine kd (fB 1 13) ?_;refine aA ?_;refine aG rfl (fun _=>?_) (fun h=>absurd h (by simp[hno.2]));refine aA ?_;refine kd (fB 0 11) ?_;refine aA ?_;refine aG rfl (fun _=>?_) (fun h=>absurd h (by simp[hno.1]));refine aA ?_;rw[←hl];refine vA (h:=hL.h) (s:=s) (z:=z) L 0 rfl ?_;dsimp only[List.set];refine aM 0 0 ?_;exact cI 0 hF
 ·refine aA ?_;refine kd (fB 0 11) ?_;refine aA ?_;refine aG rfl (fun _=>?_) (fun h=>absurd h (by simp[hno.1]));refine aA ?_;refine kd (fB 1 13) ?_;refine aA ?_;refine aG rfl (fun _=>?_) (fun h=>absurd h (by simp[hno.2]));refine aA ?_;rw[←hl];refine vA (h:=hL.h) (s:=s) (z:=z) L 0 rfl ?_;dsimp only[List.set];refine aM 0 0 ?_;exact cI 0 hF
end
section
section
variable{P:Program}{N:cH}{w0 w:World}{e:Env}{R:List Piece}{H:List HP}{K:Act→World→Prop}{f h:Nat}{L:iI}{s:aC}{z:bY}{Q:Exit→Act→World→Prop}
theorem Rd.fA(i:Nat){o:Nat}{v:Value}(hi:H[i]? =some (iW f h L s z))(hv:(dS h L s z)[o]? =some v):Rd w0 R H f o v:=fun w t=>by
 have:=((t.yR i hi).r0.at_ hv).2
 rwa [Nat.zero_add] at this
theorem aQ.fA(i:Nat){o:Nat}{vs:List Value}(hi:H[i]? =some (iW f h L s z))(hv:((dS h L s z).drop o).take vs.length=vs):aQ w0 R H f o vs:=.of fun _ _ hj=>Rd.fA i hi (aJw hv hj)
end
def Ld(L:iI)(b:Nat):AC:=if b=0 then L.b0 else L.b1
section
variable{h:Nat}{L:iI}{s:aC}{z:bY}
theorem aIB{b:Nat}(hb:b < 2):(dS h L s z)[11+b*2]? =some (iv (Bc z b)):=by
 obtain rfl | rfl:b=0∨b=1:=by omega
 ·rfl
 ·rfl
theorem aQY{b:Nat}(hb:b < 2):(dS h L s z)[12+b*2]? =some (.slice (Ld L b).1 (jV z b).length (Ld L b).2):=by
 obtain rfl | rfl:b=0∨b=1:=by omega
 ·rfl
 ·rfl
theorem Gg.box{w:World}{f:Nat}(k:Gg w f h L s z){b:Nat}(hb:b < 2):aI (all w) 1 (Ld L b).1 (jV z b).length (qX (jV z b)):=by
 obtain rfl | rfl:b=0∨b=1:=by omega
 ·exact k.b0
 ·exact k.b1
theorem Gg.stR{w:World}{f:Nat}(k:Gg w f h L s z):vC (all w) z.x z.y (.agg #[.slice L.x1.1 z.x.d.length L.x1.2,.slice L.x2.1 z.x.c.length L.x2.2,.slice L.x3.1 z.x.l.length L.x3.2,.slice L.y1.1 z.y.d.length L.y1.2,.slice L.y2.1 z.y.c.length L.y2.2,.slice L.y3.1 z.y.l.length L.y3.2]):=
 ⟨_,_,_,_,_,_,_,_,_,_,_,_,rfl,k.st.1,k.st.2.1,k.st.2.2.1,k.st.2.2.2.1,k.st.2.2.2.2.1,k.st.2.2.2.2.2⟩
end
structure Dy(s:aC)(z:bY):Prop where
 la:z.last=0∨z.last=1
 u0:wH z.w0
 u1:wH z.w1
 n0:z.w0.length≤1000000
 n1:z.w1.length≤1000000
 sx:z.x.sm
 sy:z.y.sm
theorem Dy.box{s:aC}{z:bY}(h:Dy s z)(b:Nat):wH (jV z b)∧(jV z b).length≤1000000:=by
 unfold jV;split
 ·exact⟨h.u0,h.n0⟩
 ·exact⟨h.u1,h.n1⟩
def gI(s:aC)(x:aO)(z:bY)(a:Nat):Int×Int×Int:=jK s z.x z.y (mB s x) a (jV z a)
def wS(s:aC)(x:aO)(z:bY)(a:Nat):bY×Bool:=
 let d:=gI s x z a
 if d.2.1=0 then(lC s x {z with last:=a} a d.1,false)
 else({z with last:=a,x:=jZ z.x a d.2.1 d.2.2,y:=mT z.y a d.2.1 d.2.2,at_:=a,kind:=d.2.1,id:=d.2.2},true)
def mW(s:aC)(x:aO)(z:bY):bY×Bool:=match sP z with
 | none=>(z,false)
 | some a=>wS s x z a
theorem aI6(f:Nat)(hL:HL)(s:aC)(z:bY)(x:aO)(hH:s.cX)(aV:gE hL s)(hok:cF s x)(hz:Dy s z)(l a:Nat)(hl:z.last=(l:Int))(iU:l≤1)(ha:a < 2)(hab:(Bc z (1 - l)=1∧a=1 - l)∨(Bc z (1 - l)≠1∧a=l))(h1:Bc z a=1)
  (hst:(gI s x z a).2.1=0→(gI s x z a).1=0→tW (jV z a)) (w:World) (F:Nat→Prop) (hp:(fD f hL s z x).sat F w) (hF:∀b,F b→b < w.heap.size):
  Cz 50 #[pt f] w (Wr (.bool (wS s x z a).2) (fD f hL s (wS s x z a).1 x) w F):=by
 have mK:=hH.t.nv
 unfold wS;generalize hdz:gI s x z a=dz at hst⊢;obtain⟨st,k,id⟩:=dz;dsimp only at hst⊢;obtain⟨hbu,hbn⟩:=hz.box a;refine dB func50 ntmps50 hp hF ?_;refine aZ 0 0 ?_;refine kB 0 fun L=>?_
 have aIs:(dS hL.h L s z)[15]? =some (iv (l:Int)):=by rw[←hl];rfl
 refine cQ ?_;refine eD ?_;refine bA ?_;refine dO ?_;refine cQ ?_;refine eD ?_;refine bA ?_;refine bA ?_;refine bA ?_;refine kd (bP rfl (Rd.fA 0 rfl aIs)) ?_;refine kd (Nr rfl rfl (c:=((1 - l:Nat):Int)) (by rw[show(1:Int) - (l:Int)=((1 - l:Nat):Int) by omega];exact iT (by omega))) ?_;refine bA ?_;refine dO ?_;refine Tk (fun e R H=>e=[(3,iv (a:Int)),(0,pt f)]∧R=[⟨w,fun b=>b < w.heap.size∧¬F b⟩]∧H=[iW f hL.h L s z,HP.many [cM,dY hL s x]]) ?_ ?_
 ·refine cQ ?_;refine eD ?_;refine bA ?_;refine bA ?_;refine bA ?_;refine bA ?_;refine kd (fB (1 - l) (11+(1 - l)*2)) ?_;refine bA ?_;refine kd (bP rfl (Rd.fA 0 rfl (aIB (by omega)))) ?_;refine bA ?_;refine dO ?_;rcases hab with⟨h2,rfl⟩ | ⟨h2,rfl⟩
  ·refine aG rfl (fun h=>absurd h2 h) (fun _=>?_);refine lY ?_;refine dN ?_;exact nP ⟨rfl,rfl,rfl⟩
  ·refine aG rfl (fun _=>?_) (fun h=>absurd h2 h);refine eD ?_;refine bA ?_;refine bA ?_;refine bA ?_;refine kd (bP rfl (Rd.fA 0 rfl aIs)) ?_;refine bA ?_;refine dO ?_;exact nP ⟨rfl,rfl,rfl⟩
 rintro _ _ _ ⟨rfl,rfl,rfl⟩;refine aA ?_;refine kd (fB a (11+a*2)) ?_;refine aA ?_;refine kd (bP rfl (Rd.fA 0 rfl (aIB ha))) ?_;refine aA ?_;refine aG rfl (fun h=>absurd h1 h) (fun _=>?_);refine aA ?_;refine aZ 0 0 ?_;refine fF rfl rfl ?_ (hs:=eO.mk 0 rfl cG.h rfl (by simp[dS]));dsimp only[List.set];rw[show(dS hL.h L s z).set (0+15) (iv (a:Int))=dS hL.h L s {z with last:=(a:Int)} from rfl];refine aM 0 0 ?_
 change XK _ _ _ _ _ [iW f hL.h L s {z with last:=(a:Int)},HP.many [cM,dY hL s x]]
 generalize mQ:({z with last:=(a:Int)}:bY)=z1
 have e1:z1.x=z.x:=by rw[←mQ]
 have e2:z1.y=z.y:=by rw[←mQ]
 have e3:jV z1 a=jV z a:=by rw[←mQ];rfl
 refine aA ?_;refine kd (bP rfl (Rd.fA 0 rfl rfl)) ?_;refine aA ?_;refine mA (n:=s.aD.length) 8 (el:=3) (z:=iv 0) (by kernel_rfl) (by kernel_rfl) rfl rfl rfl (by omega) (by omega) (by decide) fun gm=>?_;refine aA ?_;refine aZ 2 1 ?_
 rw[show List.replicate s.aD.length (Value.int .i64 0)=aL (lE (mB s x) ((mB s x).map fun _=>0) 0) by
  rw[Vu];refine List.ext_getElem? fun j=>?_;simp only[aL,mB,List.map_map,List.getElem?_replicate,List.getElem?_map]
  by_cases h:j < s.aD.length
  ·rw[if_pos h,List.getElem?_range h];rfl
  ·rw[if_neg h,List.getElem?_eq_none (by simp;omega)];rfl]
 refine bL [(46,iv 0),(45,iv s.aD.length),(4,.slice (some ⟨gm,0,none⟩) s.aD.length s.aD.length),(3,iv (a:Int)),(0,pt f)] ?_
 have vT:(mB s x).length=s.aD.length:=by simp[mB]
 refine eJ (fun m e R H=>∃i:Nat,i≤s.aD.length∧m=s.aD.length - i∧e=[(46,iv i),(45,iv s.aD.length),(4,.slice (some ⟨gm,0,none⟩) s.aD.length s.aD.length),(3,iv (a:Int)),(0,pt f)]∧R=[⟨w,fun b=>b < w.heap.size∧¬F b⟩]∧H=[dY hL s x,HP.aE gm 3 (aL (lE (mB s x) ((mB s x).map fun _=>0) i)),iW f hL.h L s z1,HP.many [cM,cM]]) s.aD.length ⟨0,by omega,rfl,rfl,rfl,rfl⟩ fun m e R H hI=>?_;obtain⟨i,hi,rfl,rfl,rfl,rfl⟩:=hI
 have Wu:=Vw (vs:=mB s x) (old:=(mB s x).map fun _=>0) (n:=s.aD.length) vT (by simp[mB]) hi
 have iD:(aL (lE (mB s x) ((mB s x).map fun _=>0) i)).length=s.aD.length:=by simp[aL,Wu]
 refine aA ?_;refine aG rfl (fun hlt=>?_) (fun hge=>?_)
 ·have hlt:i < s.aD.length:=by omega
  have hwi:(mB s x)[i]? =some (iS x.wt i:Int):=by simp[mB,hlt]
  have jA:(aL (lE (mB s x) ((mB s x).map fun _=>0) i)).set i (iv (iS x.wt i:Nat))=aL (lE (mB s x) ((mB s x).map fun _=>0) (i+1)):=by
   rw[←Vv (by simp) hwi,aL,aL,List.map_set]
  refine aA ?_;refine kd (bP rfl (Rd.fA 2 rfl rfl)) ?_;refine aA ?_;refine aU (fun w1 t=>aPO hL s x w1 i hlt (t.mY 0 rfl aV hok)) ?_;refine aA ?_;refine kd (dat i i) ?_;refine fF rfl rfl ?_;dsimp only[List.set];rw[jA];refine aA ?_;exact dX (s.aD.length - (i+1)) ⟨i+1,hlt,rfl,rfl,rfl,rfl⟩
 obtain rfl:i=s.aD.length:=by omega
 rw[Vx vT (by simp[mB])];refine aM 2 1 ?_;refine aA ?_;refine aCh (fun e R H=>∃g7:Nat,e=[(7,pt g7),(6,.int .i32 st),(3,iv (a:Int)),(0,pt f)]∧R=[⟨w,fun b=>b < w.heap.size∧¬F b⟩]∧H=[HP.aE g7 136 [.int .u8 k,iv id],iW f hL.h L s z1,HP.many [cM,dY hL s x]]) ?_ ?_
 ·refine iO [1,2,3,5,6,7,12,13,14,15,16,19,20] ?_;refine bH 0 ?_;refine bH 4 ?_;refine bH 8 ?_;refine bH 9 ?_;refine bH 10 ?_;refine bH 11 ?_;refine aK 1 ?_;refine aK 2 ?_;refine aK 3 ?_ (dD:=pL rfl (aQ.fA 1 rfl (vs:=[.slice L.a1.1 s.aF.length L.a1.2,.slice L.a2.1 s.domains.length L.a2.2,.slice L.a3.1 s.aR.length L.a3.2,.slice L.a4.1 s.aD.length L.a4.2]) rfl));refine aK 5 ?_;refine aK 6 ?_;refine aK 7 ?_ (dD:=pL rfl (aQ.fA 1 rfl (vs:=[.slice L.x1.1 z1.x.d.length L.x1.2,.slice L.x2.1 z1.x.c.length L.x2.2,.slice L.x3.1 z1.x.l.length L.x3.2,.slice L.y1.1 z1.y.d.length L.y1.2,.slice L.y2.1 z1.y.c.length L.y2.2,.slice L.y3.1 z1.y.l.length L.y3.2]) rfl));refine aK 12 ?_;refine aK 13 ?_;refine aK 14 ?_ (dD:=fB (sz:=2) a (11+a*2));refine aK 15 ?_;refine aK 16 ?_ (dD:=bP rfl (Rd.fA 1 rfl (v:=.slice (Ld L a).1 (jV z1 a).length (Ld L a).2) (by rw[show 11+a*2+1=12+a*2 by omega];exact aQY ha)))
  have Bb:∀H:List HP,H[H.length - 2]? =some (iW f hL.h L s z1)→(H.length=3∨H.length=4)→H[H.length - 3]? =some (HP.aE gm 3 (aL (mB s x)))→∀w1,St w [⟨w,fun b=>b < w.heap.size∧¬F b⟩] H w1→Cz 98 #[.agg #[.slice L.a1.1 s.aF.length L.a1.2,.slice L.a2.1 s.domains.length L.a2.2,.slice L.a3.1 s.aR.length L.a3.2,.slice L.a4.1 s.aD.length L.a4.2],.agg #[.slice L.x1.1 z1.x.d.length L.x1.2,.slice L.x2.1 z1.x.c.length L.x2.2,.slice L.x3.1 z1.x.l.length L.x3.2,.slice L.y1.1 z1.y.d.length L.y1.2,.slice L.y2.1 z1.y.c.length L.y2.2,.slice L.y3.1 z1.y.l.length L.y3.2],.slice (some ⟨gm,0,none⟩) s.aD.length s.aD.length,iv (a:Int),.slice (Ld L a).1 (jV z1 a).length (Ld L a).2] w1 (Rt (aEM (st,k,id)) w1):=fun H h2 _ h3 w1 t=>by
   have kf:=t.yR _ h2
   have:=aSh (all w1) (all w1) s _ _ _ _ _ L.a1.2 _ L.a2.2 _ L.a3.2 _ L.a4.2 _ _ _ _ _ _ _ L.x1.2 _ L.x2.2 _ L.x3.2 _ L.y1.2 _ L.y2.2 _ L.y3.2 z1.x z1.y (some ⟨gm,0,none⟩) s.aD.length s.aD.length (mB s x) a _ _ (Ld L a).2 (jV z1 a) w1 kf.so hH.t (Piece.Le.refl _) kf.stR (Piece.Le.refl _) (t.rT h3 (by simp[aL,vT])) vT.symm ha (kf.box ha) rfl (by rw[e3];exact hbn) (by rw[e3];exact hbu)
   rw[show jK s z1.x z1.y (mB s x) a (jV z1 a)=(st,k,id) by rw[e1,e2,e3];exact hdz] at this;exact this
  refine Ja 17 21 rfl rfl (by kernel_rfl) ?_ ?_
  ·refine aU (fun w1 t=>Bb _ rfl (.inl rfl) rfl w1 t) ?_;refine bB ?_;refine bH 18 ?_;refine aK 19 ?_;refine aK 20 ?_;refine aJ 21 ?_;refine bT fun g7=>?_;refine bB ?_;refine aJ 22 ?_;refine bA ?_;refine bB ?_;refine aJ 23 ?_;refine oL 0 rfl ?_;dsimp only[List.set];refine bO ?_;refine eN ?_;refine dN ?_;refine aY [0,2,3] rfl (by decide) (fun _ h=>h) ?_;exact nP ⟨g7,rfl,rfl,rfl⟩
  ·refine bT fun g7=>?_;refine bB ?_;refine aJ 17 ?_;refine aU (fun w1 t=>Bb _ rfl (.inr rfl) rfl w1 t) ?_;refine bB ?_;refine bH 18 ?_;refine aK 19 ?_;refine aK 20 ?_;refine aJ 22 ?_;refine bA ?_;refine bB ?_;refine aJ 23 ?_;refine oL 0 rfl ?_;dsimp only[List.set];refine bO ?_;refine eN ?_;refine dN ?_;refine aY [0,2,3] rfl (by decide) (fun _ h=>h) ?_;exact nP ⟨g7,rfl,rfl,rfl⟩
 rintro _ _ _ ⟨g7,rfl,rfl,rfl⟩;refine aA ?_;refine aG rfl (fun hk=>?_) (fun hk=>?_)
 ·have hk:k=0:=hk
  rw[if_pos hk];refine fC 1 (fun L:iI=>iW f hL.h L s z1) L ?_;refine aY [1,0,2] rfl (by decide) (fun _ h=>h) ?_;refine aM 1 0 ?_;refine aA ?_;refine eC 1 (fD f hL s (lC s x z1 a st) x) (fun w1 F1 t h1 h2 h3=>aEj f hL s z1 x hH aV hok a ha st (fun h0=>by rw[e3];exact hst hk h0) w1 F1 h1 h2) ?_;refine aA ?_;exact cI 1 hF
 ·rw[if_neg hk];rw[show({z with last:=(a:Int),x:=jZ z.x a k id,y:=mT z.y a k id,at_:=(a:Int),kind:=k,id:=id}:bY)={z1 with x:=jZ z1.x a k id,y:=mT z1.y a k id,at_:=(a:Int),kind:=k,id:=id} by rw[←mQ]];refine aA ?_;refine iO [2,3,4,6] ?_;refine bH 0 ?_;refine bH 1 ?_;refine bH 5 ?_;refine aK 2 ?_;refine aK 3 ?_;refine aK 4 ?_ (dD:=pL rfl (aQ.fA 1 rfl (vs:=[.slice L.x1.1 z1.x.d.length L.x1.2,.slice L.x2.1 z1.x.c.length L.x2.2,.slice L.x3.1 z1.x.l.length L.x3.2,.slice L.y1.1 z1.y.d.length L.y1.2,.slice L.y2.1 z1.y.c.length L.y2.2,.slice L.y3.1 z1.y.l.length L.y3.2]) rfl));refine aK 6 ?_;refine aJ 7 ?_
  refine jS [] (fun v w w'=>vC (fresh w w') (jZ z1.x a k id) (mT z1.y a k id) v) (fun w1 t=>by
   have kf:=t.yR 1 rfl
   exact aR9 (all w1) _ _ _ _ _ _ L.x1.2 L.x2.2 L.x3.2 L.y1.2 L.y2.2 L.y3.2 z1.x z1.y a k id w1 (Piece.Le.refl _) ha (by rw[e1];exact hz.sx) (by rw[e2];exact hz.sy) kf.st.1 kf.st.2.1 kf.st.2.2.1 kf.st.2.2.2.1 kf.st.2.2.2.2.1 kf.st.2.2.2.2.2) ?_
  rintro _ w2 q2 aPu uU _ Ko
  have Ko:=Ko (by simp)
  obtain⟨x1,x2,x3,y1,y2,y3,rfl,Mr⟩:=aPu.P
  have Mr:=rL.le _ _ uU (Mr L.a1 L.a2 L.a3 L.a4 L.b0 L.b1)
  refine Of (Φ:=rL ⟨L.a1,L.a2,L.a3,L.a4,x1,x2,x3,y1,y2,y3,L.b0,L.b1⟩ (jZ z1.x a k id) (mT z1.y a k id)) (hm:=rL.le) Ko (fun p hp b hb=>by simp at hp;subst hp;exact hb.1) Mr ?_;refine bO ?_;refine aJ 8 ?_;refine bA ?_;refine bO ?_;refine aJ 9 ?_;refine bA ?_;refine bO ?_;refine aJ 10 ?_;refine aZ 2 0 ?_;refine mU 0 (t:=138) rfl rfl rfl (by kernel_rfl) (by simp[Value.cells,Value.oneCell',yB]) (by simp[Value.cells,dS]) ?_;dsimp only[List.set];rw[show fJ (dS hL.h L s z1) (0+5) (Value.agg #[yB x1 (jZ z1.x a k id).d.length,yB x2 (jZ z1.x a k id).c.length,yB x3 (jZ z1.x a k id).l.length,yB y1 (mT z1.y a k id).d.length,yB y2 (mT z1.y a k id).c.length,yB y3 (mT z1.y a k id).l.length]).cells.toList=dS hL.h ⟨L.a1,L.a2,L.a3,L.a4,x1,x2,x3,y1,y2,y3,L.b0,L.b1⟩ s {z1 with x:=jZ z1.x a k id,y:=mT z1.y a k id} from rfl];refine bO ?_;refine eN ?_;refine dN ?_;refine aZ 3 2 ?_;refine aY [1,2,3,4,5] rfl (by decide) (R':=[⟨w,fun b=>b < w.heap.size∧¬F b⟩]) (by simp) ?_;refine aY [1,0,2,3,4] rfl (by decide) (fun _ h=>h) ?_;refine aM 2 2 ?_;generalize qL:({z1 with x:=jZ z1.x a k id,y:=mT z1.y a k id}:bY)=z2;rw[show({z1 with x:=jZ z1.x a k id,y:=mT z1.y a k id,at_:=(a:Int),kind:=k,id:=id}:bY)={z2 with at_:=(a:Int),kind:=k,id:=id} by rw[←qL]];generalize hL2:(⟨L.a1,L.a2,L.a3,L.a4,x1,x2,x3,y1,y2,y3,L.b0,L.b1⟩:iI)=L2;refine cQ ?_;refine aCh (fun e R H=>e=[(0,pt f)]∧R=[⟨w,fun b=>b < w.heap.size∧¬F b⟩]∧H=[HP.aE f 138 (dS hL.h L2 s {z2 with at_:=(a:Int),kind:=k,id:=id}),HP.aE g7 136 [.int .u8 k,iv id],HP.many [cM,HP.cE (wI L s) (wI.le (L:=L) (s:=s)),HP.cE (rL L2 (jZ z1.x a k id) (mT z1.y a k id)) (rL.le (L:=L2) (x:=jZ z1.x a k id) (y:=mT z1.y a k id)),HP.cE (eA L.b0 z1.w0) (eA.le (a:=L.b0) (l:=z1.w0)),HP.cE (eA L.b1 z1.w1) (eA.le (a:=L.b1) (l:=z1.w1))],HP.many [cM,dY hL s x]]) ?_ ?_
  ·refine iO [] ?_;refine bH 0 ?_;refine bH 1 ?_;refine bH 2 ?_;refine Ja 3 4 rfl rfl (by kernel_rfl) ?_ ?_
   ·refine bA ?_;refine bO ?_;refine aJ 4 ?_;refine bA ?_;refine bO ?_;refine aJ 5 ?_;refine bA ?_;refine bO ?_;refine aJ 6 ?_;refine fF rfl rfl ?_ (hs:=eO.mk 0 rfl cG.h rfl (by simp[dS]));dsimp only[List.set];rw[show(dS hL.h L2 s z2).set (0+16) (iv (a:Int))=dS hL.h L2 s {z2 with at_:=(a:Int)} from rfl];refine bO ?_;refine aJ 7 ?_;refine bA ?_;refine bO ?_;refine aJ 8 ?_;refine bA ?_;refine bO ?_;refine aJ 9 ?_;refine mU 0 (t:=138) rfl rfl rfl (by kernel_rfl) (by simp[Value.cells,Value.oneCell']) (by simp[Value.cells,dS]) ?_;dsimp only[List.set];rw[show fJ (dS hL.h L2 s {z2 with at_:=(a:Int)}) (0+17) (Value.agg #[.int .u8 k,iv id]).cells.toList=dS hL.h L2 s {z2 with at_:=(a:Int),kind:=k,id:=id} from rfl];refine bO ?_;refine eN ?_;refine dN ?_;exact nP ⟨rfl,rfl,rfl⟩
   ·refine bA ?_;refine bO ?_;refine Ja 3 5 rfl rfl (by kernel_rfl) ?_ ?_
    ·refine bA ?_;refine bO ?_;refine aJ 5 ?_;refine bA ?_;refine bO ?_;refine aJ 6 ?_;refine fF rfl rfl ?_ (hs:=eO.mk 0 rfl cG.h rfl (by simp[dS]));dsimp only[List.set];rw[show(dS hL.h L2 s z2).set (0+16) (iv (a:Int))=dS hL.h L2 s {z2 with at_:=(a:Int)} from rfl];refine bO ?_;refine aJ 7 ?_;refine bA ?_;refine bO ?_;refine aJ 8 ?_;refine bA ?_;refine bO ?_;refine aJ 9 ?_;refine mU 0 (t:=138) rfl rfl rfl (by kernel_rfl) (by simp[Value.cells,Value.oneCell']) (by simp[Value.cells,dS]) ?_;dsimp only[List.set];rw[show fJ (dS hL.h L2 s {z2 with at_:=(a:Int)}) (0+17) (Value.agg #[.int .u8 k,iv id]).cells.toList=dS hL.h L2 s {z2 with at_:=(a:Int),kind:=k,id:=id} from rfl];refine bO ?_;refine eN ?_;refine dN ?_;exact nP ⟨rfl,rfl,rfl⟩
    ·refine bA ?_;refine bO ?_;refine Ja 3 6 rfl rfl (by kernel_rfl) ?_ ?_
     ·refine bA ?_;refine bO ?_;refine aJ 6 ?_;refine fF rfl rfl ?_ (hs:=eO.mk 0 rfl cG.h rfl (by simp[dS]));dsimp only[List.set];rw[show(dS hL.h L2 s z2).set (0+16) (iv (a:Int))=dS hL.h L2 s {z2 with at_:=(a:Int)} from rfl];refine bO ?_;refine aJ 7 ?_;refine bA ?_;refine bO ?_;refine aJ 8 ?_;refine bA ?_;refine bO ?_;refine aJ 9 ?_;refine mU 0 (t:=138) rfl rfl rfl (by kernel_rfl) (by simp[Value.cells,Value.oneCell']) (by simp[Value.cells,dS]) ?_;dsimp only[List.set];rw[show fJ (dS hL.h L2 s {z2 with at_:=(a:Int)}) (0+17) (Value.agg #[.int .u8 k,iv id]).cells.toList=dS hL.h L2 s {z2 with at_:=(a:Int),kind:=k,id:=id} from rfl];refine bO ?_;refine eN ?_;refine dN ?_;exact nP ⟨rfl,rfl,rfl⟩
     ·refine fF rfl rfl ?_ (hs:=eO.mk 0 rfl cG.h rfl (by simp[dS]));dsimp only[List.set];rw[show(dS hL.h L2 s z2).set (0+16) (iv (a:Int))=dS hL.h L2 s {z2 with at_:=(a:Int)} from rfl];refine bO ?_;refine aJ 3 ?_;refine bA ?_;refine bO ?_;refine aJ 7 ?_;refine bA ?_;refine bO ?_;refine aJ 8 ?_;refine bA ?_;refine bO ?_;refine aJ 9 ?_;refine mU 0 (t:=138) rfl rfl rfl (by kernel_rfl) (by simp[Value.cells,Value.oneCell']) (by simp[Value.cells,dS]) ?_;dsimp only[List.set];rw[show fJ (dS hL.h L2 s {z2 with at_:=(a:Int)}) (0+17) (Value.agg #[.int .u8 k,iv id]).cells.toList=dS hL.h L2 s {z2 with at_:=(a:Int),kind:=k,id:=id} from rfl];refine bO ?_;refine eN ?_;refine dN ?_;exact nP ⟨rfl,rfl,rfl⟩
  rintro _ _ _ ⟨rfl,rfl,rfl⟩;refine aM 1 0 ?_;subst hL2;subst qL;refine xG 1 (f:=fun L:iI=>iW f hL.h L s {({z1 with x:=jZ z1.x a k id,y:=mT z1.y a k id}:bY) with at_:=(a:Int),kind:=k,id:=id}) ⟨L.a1,L.a2,L.a3,L.a4,x1,x2,x3,y1,y2,y3,L.b0,L.b1⟩ rfl ?_;dsimp only[List.set];refine aY [1,0,2] rfl (by decide) (fun _ h=>h) ?_;refine aM 1 0 ?_;refine aA ?_;exact cI 1 hF
theorem aI7(f:Nat)(hL:HL)(s:aC)(z:bY)(x:aO)(hH:s.cX)(aV:gE hL s)(hok:cF s x)(hz:Dy s z)(hst:∀a,sP z=some a→(gI s x z a).2.1=0→(gI s x z a).1=0→tW (jV z a))(w:World)(F:Nat→Prop)(hp:(fD f hL s z x).sat F w)(hF:∀b,F b→b < w.heap.size):
  Cz 50 #[pt f] w (Wr (.bool (mW s x z).2) (fD f hL s (mW s x z).1 x) w F):=by
 unfold mW;cases hn:sP z with
 | none=>exact aQG f hL s z x hz.la hn w F hp hF
 | some a =>
  obtain⟨l,hl,iU⟩:∃l:Nat,z.last=(l:Int)∧l≤1:=by
   rcases hz.la with h | h
   ·exact⟨0,h,by omega⟩
   ·exact⟨1,h,by omega⟩
  have hn2:=hn
  unfold sP at hn;rw[show(1 - z.last).toNat=1 - l by omega,show z.last.toNat=l by omega] at hn
  by_cases h2:Bc z (1 - l)=1
  ·rw[if_pos h2] at hn;obtain rfl:=Option.some.inj hn;exact aI6 f hL s z x hH aV hok hz l _ hl iU (by omega) (.inl ⟨h2,rfl⟩) h2 (hst _ hn2) w F hp hF
  ·rw[if_neg h2] at hn
   by_cases h3:Bc z l=1
   ·rw[if_pos h3] at hn;obtain rfl:=Option.some.inj hn;exact aI6 f hL s z x hH aV hok hz l _ hl iU (by omega) (.inr ⟨h2,rfl⟩) h3 (hst _ hn2) w F hp hF
   ·rw[if_neg h3] at hn;cases hn
end
section
section
variable{P:Program}{N:cH}{w0 w:World}{K:Act→World→Prop}{e:Env}{R:List Piece}{H H':List HP}
theorem Zz{nn:Nat}{F:Nat→Prop}{p:HP}{f:FuncId}{fn:Func}{c:Code}{vs:List Value}{Post:Ending→World→Prop}(hf:P.funcs[f]? =some fn)(hb:fn.body=some c)(hN:fn.ntmps=nn)(hl:vs.length≤nn)(hp:p.sat F w)(hF:∀b,F b→b < w.heap.size)
  (h:XK ⟨nn,[]⟩ w (c.wp P (bodyPostD P fn Post)) (Gc 0 vs) [⟨w,fun b=>b < w.heap.size∧¬F b⟩] [p]):Calls P f vs.toArray w Post:=by
 refine calls_of_wp_defers hf hb (h _ _ ⟨?_,rfl,fun t v hv=>?_⟩ (aFf hp hF))
 ·simp;omega
 ·obtain⟨_,h2⟩:=Zf vs 0 t v hv;rw[Nat.sub_zero] at h2
  have hlt:t < vs.length:=by
   rcases Nat.lt_or_ge t vs.length with h | h
   ·exact h
   ·rw[List.getElem?_eq_none h] at h2;cases h2
  rw[Array.getElem?_append_left (by simpa using hlt)]
  simpa using h2
theorem Bo{nn:Nat}{f:FuncId}{fi ca:List Value}{fn:Func}{Post:Ending→World→Prop}{x:Exit}(hx:x=.ret∨x=.normal)(hf:fI P f=true)
  (iD:∀w,CallsD P f (fi++ca).toArray .returning w fun y u' w'=>y=.returned (.tuple #[])∧u'=.returning∧w'=w) (hr:fn.results=#[])
  (h:∀w,St w0 R H w→Post (.returned (.tuple #[])) w):XK ⟨nn,[La f fi ca]⟩ w0 (bodyPostD P fn Post x) e R H:=by
 have key:XK ⟨nn,[La f fi ca]⟩ w0 (bodyPostD P fn Post .ret) e R H:=aTM (H':=H) hf (fun w1 st=>(iD w1).mono fun y u' w' h=>by
  obtain⟨h1,h2,rfl⟩:=h
  exact⟨⟨_,h1⟩,h2,st⟩) fun a w1 _ st=>⟨.tuple #[],results_none hr _ _ _,h w1 st⟩
 rcases hx with rfl | rfl
 ·exact key
 ·exact key
end
theorem Yf(w:World):CallsD Tryz.prog 49 #[] .returning w fun e u' w'=>e=.returned (.tuple #[])∧u'=.returning∧w'=w:=by
 refine callsD_of_wpS func49 rfl fun c₀ cs hu=>?_;apply wpS_region;simp[wpOpsS,go_sem,recoverD,hu,ntmps49,Exit.thenS];cases c₀;simp_all [bodyPostS,results,Tryz.results49]
section
variable{N:cH}{w0 w:World}{e:Env}{R:List Piece}{H:List HP}{K:Act→World→Prop}{f:Nat}{hL:HL}{s:aC}{z:bY}{x:aO}
theorem Jd(i:Nat){o:Nat}{v:Value}(hi:H[i]? =some (fD f hL s z x))(hv:∀L,(dS hL.h L s z)[o]? =some v):Rd w0 R H f o v:=fun w t=>by
 obtain⟨F,⟨G,g1,g2,_⟩,h2,_⟩:=t.chunk hi;obtain⟨L,hL'⟩:=g1 0 _ rfl
 have:=((aKA hL' fun b hb=>h2 b (g2 0 b hb)).r0.at_ (hv L)).2
 rwa [Nat.zero_add] at this
end
theorem aQK(f:Nat)(hL:HL)(s:aC)(z:bY)(x:aO)(hH:s.cX)(aV:gE hL s)(hok:cF s x)(hz:Dy s z)(hst:∀a,sP z=some a→(gI s x z a).2.1=0→(gI s x z a).1=0→tW (jV z a))(fN:z.at_ < 0)(hno:(mW s x z).2=false)(w:World)(F:Nat→Prop)(hp:(fD f hL s z x).sat F w)(hF:∀b,F b→b < w.heap.size):
  Cz 20 #[pt f] w (Wr (.tuple #[]) (fD f hL s (mW s x z).1 x) w F):=by
 refine Zz (vs:=[pt f]) (p:=fD f hL s z x) func20 rfl ntmps20 (by simp) hp hF ?_;refine aA ?_;refine Ud (f:=49) (fi:=[]) (ca:=[]) rfl ?_;refine aA ?_;refine kd (bP rfl (Jd 0 rfl fun _=>rfl)) ?_;refine aA ?_;refine bU (t:=8) rfl (fun _=>?_) (fun h=>absurd fN h);refine aA ?_;refine eC 0 (fD f hL s (mW s x z).1 x) (fun w1 F1 t h1 h2 h3=>aI7 f hL s z x hH aV hok hz hst w1 F1 h1 h2) ?_;rw[hno];refine aA ?_;exact Bo (.inl rfl) (by kernel_rfl) Yf rfl fun w1 t=>⟨rfl,t.turns hF (by simp) (i:=0) rfl⟩
end
section
section
variable{s:aC}{x:aO}{l:Int}{b:Nat}{m a:List Int}
end
theorem Vs{s:aC}{st:List eS}(hH:s.cX)(h:qW s st)(i:Int)(b:Bool):qW s (lD s st i b).2:=by
 unfold lD;split
 ·exact h
 ·split
  ·rename_i c x hc hx
   split
   ·exact h
   ·refine⟨by simp[h.len],fun y hy=>?_⟩;rcases List.mem_or_eq_of_mem_set hy with hy | rfl
    ·exact h.left y hy
    ·have h1:=(hH.t.aF i.toNat c hc).2
     have h2:=h.left x (List.mem_of_getElem? hx)
     unfold Gw;dsimp only;split
     ·omega
     ·exact h2
  ·exact h
theorem aFV{s:aC}{st:List fH}(hH:s.cX)(h:vG s st)(i:Int):vG s (uF s st i).2:=by
 unfold uF;split
 ·exact h
 ·split
  ·rename_i c x hc hx
   split
   ·exact h
   ·have h1:=(hH.domains i.toNat c hc).2
    refine⟨by simp[h.len],fun y hy=>?_,fun y hy=>?_⟩
    ·rcases List.mem_or_eq_of_mem_set hy with hy | rfl
     ·exact h.left y hy
     ·exact h1
    ·rcases List.mem_or_eq_of_mem_set hy with hy | rfl
     ·exact h.phase y hy
     ·exact⟨by show(0:Int)≤114;omega,by show(114:Int) < 256;omega⟩
  ·exact h
end
section
def kQ(p:Piece):Prop:=∀(i:Nat) (v:Int),[(114:Int),97,115,100][i]? =some v→p.Z 0∧p.w.cell? ⟨0,i,none⟩=some (.int .u8 v)
theorem kQ.at_{p:Piece}{w:World}(h:kQ p)(hl:p.Le (all w)):Tx w:=fun i v hv=>by
 obtain⟨h1,h2⟩:=h i v hv;obtain⟨h3,h4⟩:=hl 0 h1;refine⟨h3,?_⟩;rw[←h2];exact World.cell?_of_block h4
theorem kQ.le{p q:Piece}(h:kQ p)(hl:p.Le q):kQ q:=fun i v hv=>by
 obtain⟨h1,h2⟩:=h i v hv;obtain⟨h3,h4⟩:=hl 0 h1;exact⟨h3,(World.cell?_of_block h4).trans h2⟩
def Gz(s:aC)(d:Int)(k:Nat)(p:cO×dL):cO×dL:=match s.aD[k]? with
 | some dv=>if dv.domain=d then(p.1,(nU p.2).2) else p
 | none=>p
def uP(s:aC)(x:aO)(d:Int)(n:Nat):List (cO×dL):=x.dv.mapIdx fun k p=>if k < n then Gz s d k p else p
def Eu(s:aC)(x:aO)(d:Int):aO×Bool:=
 if rW x.dm d=48∨rW x.dm d=116 then({x with dm:=(uF s x.dm d).2},false)
 else if rW x.dm d=49 then({x with dv:=uP s x d s.aD.length},true) else(x,false)
def Lc(s:aC)(x:aO)(c:Nat):aO×Bool:=
 ({x with ck:=(lD s x.ck c true).2},qG s (lD s x.ck c true).2 c||(decide ((fZ s c).length < 2)|| !qG s (lD s x.ck c true).2 ((fZ s c).getD 1 0:Nat)))
def Gs(x:aO)(i:Int):aO×Bool:=if Au x.ln i then({x with ln:=(vO x.ln i).2},false) else(x,true)
theorem aHF{x:dL}(h:Bw x):Bw (nU x).2:=by
 unfold nU;split
 ·exact h
 ·exact⟨by show(0:Int)≤0;omega,by show(0:Int)≤3;omega⟩
theorem aD2{s:aC}{x:aO}(hH:s.cX)(hok:cF s x)(d:Int)(n:Nat):cF s {x with dv:=uP s x d n}:=Vt hH hok (by simp[uP]) fun i e p hd hp=>by
 rw[uP,List.getElem?_mapIdx] at hp;cases hq:x.dv[i]? with
 | none=>rw[hq] at hp;cases hp
 | some q =>
  rw[hq] at hp;obtain⟨h1,h2⟩:=hok.each i e q hd hq;simp only[Option.map_some,Option.some.injEq] at hp;subst hp;split
  ·unfold Gz;rw[hd];dsimp only;split
   ·exact⟨h1,aHF h2⟩
   ·exact⟨h1,h2⟩
  ·exact⟨h1,h2⟩
section
variable{N:cH}{w0 w:World}{e:Env}{R:List Piece}{H:List HP}{Q:Exit→Act→World→Prop}{ops:Array Oper}{rest:List Oper}{K:Act→World→Prop}
variable{d:Nat}{ty:TypeId}{pos:String}{aH:Array Edge}{f h:Nat}{L:iI}{s:aC}{z:bY}
theorem aFA(n:Nat)(Φ:List Value→Prop){x:Operand}{t:TypeId}{b o:Nat}[hT:nE t n](hx:e.ev x=some (.pointer (some ⟨b,o,none⟩)))(h:∀w,St w0 R H w→∃vs,eE w b o vs∧vs.length=n∧Φ vs)(k:∀vs,Φ vs→XK N w0 (wpList Tryz.prog ops Q rest) ((d,.agg vs.toArray)::e) R H)(hd:d < N.n:=by decide):
  XK N w0 (wpList Tryz.prog ops Q (⟨some d,.load t x,ty,pos,aH,none⟩::rest)) e R H:=vJ rfl fun a w hr st=>by
 obtain⟨vs,h1,h2,h3⟩:=h w st;exact⟨.agg vs.toArray,w,aIZ (N:=N) (w0:=w) (R:=[all w]) (H:=[]) (d:=d) (ty:=ty) (pos:=pos) (aH:=aH) n hT.h hx (zC (by simp) h1) h2 a w hr (St.start w),k vs h3 _ _ (hr.put hd _) st⟩
theorem aJT(j:Nat)(hj:H[j]? =some (iW f h L s z))(hn:0 < s.aD.length)(k:∀b off,L.a4.1=some ⟨b,off,none⟩→XK N w0 K e R H):XK N w0 K e R H:=fun a w hr st=>by
 obtain⟨b,off,r,hA,_⟩:=jQ.row (st.yR j hj).so.dev (List.getElem?_eq_getElem hn);exact k b off hA a w hr st
def aFx(d:bQ)(vs:List Value):Prop:=∃A n k A' n' k',vs=[iv d.clock,iv d.domain,iv d.reset,.int .u32 d.iV,.slice A n k,.slice A' n' k']
theorem aID{i b off:Nat}{d:bQ}(kf:Gg w f h L s z)(hA:L.a4.1=some ⟨b,off,none⟩)(hd:s.aD[i]? =some d):∃vs,eE w b (off+i*6) vs∧vs.length=6∧aFx d vs:=by
 obtain⟨b',off',r,pW,hl,⟨A,n,k,A',n',k',he,_⟩,hro⟩:=jQ.row kf.so.dev hd;rw[hA] at pW;cases pW;exact⟨r,hro,hl,A,n,k,A',n',k',he⟩
end
variable(f:Nat)(hL:HL)(s:aC)(z:bY)(x:aO)(w:World)
theorem aQT(hH:s.cX)(aV:gE hL s)(hok:cF s x)(d:Int)(F:Nat→Prop)(hp:(fD f hL s z x).sat F w)(hF:∀b,F b→b < w.heap.size)(fG:kQ ⟨w,fun b=>b < w.heap.size∧¬F b⟩):
  Cz 100 #[pt f,iv d] w (Wr (.bool (Eu s x d).2) (fD f hL s z (Eu s x d).1) w F):=by
 have mK:=hH.t.nv
 have jB:=hok.dv
 refine dB func100 ntmps100 hp hF ?_;generalize cN:(⟨w,fun b=>b < w.heap.size∧¬F b⟩:Piece)=R0 at fG⊢;refine aZ 0 0 ?_;refine kB 0 fun L=>?_;refine aZ 1 1 ?_;refine aA ?_;refine kd (bP rfl (Rd.fA 1 rfl rfl)) ?_;refine aA ?_;refine aU (fun w1 t=>aDV hL s x w1 hok.dm d (t.mY 0 rfl aV hok)) ?_;unfold Eu;generalize mJ:rW x.dm d=ph
 by_cases h48:ph=48
 ·subst h48;rw[if_pos (.inl rfl)];refine aA ?_;refine kd (bP rfl (Rd.fA 1 rfl rfl)) ?_;refine aA ?_;refine eC 0 (dY hL s {x with dm:=(uF s x.dm d).2}) (fun w1 F1 t h1 h2 h3=>aIl hL s x w1 hH aV hok d F1 h1 h2) ?_;refine aA ?_;refine aM 1 1 ?_;refine fC 0 (fun L:iI=>iW f hL.h L s z) L ?_;refine aM 0 0 ?_;subst cN;exact cI 0 hF
 by_cases Xz:ph=116
 ·subst Xz;rw[if_pos (.inr rfl)];refine aA ?_;refine kd (bP rfl (Rd.fA 1 rfl rfl)) ?_;refine aA ?_;refine eC 0 (dY hL s {x with dm:=(uF s x.dm d).2}) (fun w1 F1 t h1 h2 h3=>aIl hL s x w1 hH aV hok d F1 h1 h2) ?_;refine aA ?_;refine aM 1 1 ?_;refine fC 0 (fun L:iI=>iW f hL.h L s z) L ?_;refine aM 0 0 ?_;subst cN;exact cI 0 hF
 rw[if_neg (by omega)]
 by_cases xA:ph=49
 ·subst xA;rw[if_pos rfl];refine aA ?_;refine kd (bP rfl (Rd.fA 1 rfl rfl)) ?_;refine aA ?_
  have hm0:uP s x d 0=x.dv:=Qn _ _
  refine bL [(31,iv (0)),(30,iv s.aD.length),(29,.slice L.a4.1 s.aD.length L.a4.2),(0,pt f),(1,iv d)] ?_;refine eJ (fun m e R H=>∃i:Nat,i≤s.aD.length∧m=s.aD.length - i∧e=[(31,iv (i:Int)),(30,iv s.aD.length),(29,.slice L.a4.1 s.aD.length L.a4.2),(0,pt f),(1,iv d)]∧R=[R0]∧H=[dY hL s {x with dv:=uP s x d i},iW f hL.h L s z,HP.many [cM,cM]]) s.aD.length ⟨0,by omega,rfl,rfl,rfl,by rw[hm0]⟩ fun m e R H hI=>?_;obtain⟨i,hi,rfl,rfl,rfl,rfl⟩:=hI
  have nW:=aD2 hH hok d i
  refine aA ?_;refine aG rfl (fun hlt=>?_) (fun hge=>?_)
  ·have hlt:i < s.aD.length:=by omega
   obtain⟨dv,dI⟩:=get_some hlt;obtain⟨p,gP⟩:=get_some (l:=x.dv) (i:=i) (by omega)
   have lV:(uP s x d i)[i]? =some p:=Qp gP
   have hstep:(uP s x d i).set i (Gz s d i p)=uP s x d (i+1):=Qo (f:=Gz s d) gP
   obtain⟨q1,q2⟩:=(nW.each i dv p dI lV).2;refine aJT 1 rfl (by omega) fun b off hA=>?_;refine aA ?_;refine kd (dat i (off+i*6) (hx:=by rw[←hA];rfl)) ?_;refine aFA 6 (aFx dv) rfl (fun w1 t=>aID (t.yR 1 rfl) hA dI) ?_;rintro _ ⟨A,n,k,A',n',k',rfl⟩;refine bT fun g1=>?_;refine aA ?_;refine aG rfl (fun he=>?_) (fun he=>?_)
   ·have nL:Gz s d i p=p:=by
     unfold Gz;rw[dI];exact if_neg he
    rw[nL,yC lV] at hstep;rw[hstep];refine aA ?_;refine aY [1,2,3] rfl (by decide) (fun _ h=>h) ?_;exact dX (s.aD.length - (i+1)) ⟨i+1,hlt,rfl,rfl,rfl,rfl⟩
   ·have he:dv.domain=d:=by simpa using he
    have nL:Gz s d i p=(p.1,(nU p.2).2):=by
     unfold Gz;rw[dI];exact if_pos he
    have hst:uI {x with dv:=uP s x d i} i=qJ p.2.at_:=by
     unfold uI;dsimp only;rw[lV];rfl
    refine aA ?_;refine kd (bP rfl (Rd.fA 2 rfl rfl)) ?_;refine aA ?_;refine aU (fun w1 t=>aIm hL s _ w1 aV nW i hlt (fG.at_ (t.le (by simp))) (t.mY 1 rfl aV nW)) ?_;rw[hst]
    by_cases ha:p.2.at_=2∨p.2.at_=3
    ·have hlf:qJ p.2.at_=115∨qJ p.2.at_=100:=by
      rcases ha with ha | ha<;>rw[ha]
      ·exact .inl rfl
      ·exact .inr rfl
     rcases hlf with hlf | hlf<;>rw[hlf]
     all_goals
      refine aA ?_;refine kd (bP rfl (Rd.fA 2 rfl rfl)) ?_;refine aA ?_;refine zM (α:=Int) 1 (f:=176) (fi:=[]) (ca:=[]) (fun r=>iv r) (fun _=>dY hL s (Ah {x with dv:=uP s x d i} i)) (fun _=>True) (by kernel_rfl) rfl rfl rfl (by decide) (fun w1 F1 t h1 h2 h3=>aDW hL s _ w1 hH aV nW i hlt F1 h1 h2) ?_;rintro _ _;dsimp only[List.set]
      have hX:Ah {x with dv:=uP s x d i} i={x with dv:=uP s x d (i+1)}:=by
       unfold Ah;dsimp only;rw[lV,←hstep,nL]
      rw[hX];refine aA ?_;refine aY [1,2,3] rfl (by decide) (fun _ h=>h) ?_;exact dX (s.aD.length - (i+1)) ⟨i+1,hlt,rfl,rfl,rfl,rfl⟩
    ·have hq:(nU p.2).2=p.2:=by
      unfold nU;rw[if_pos (by omega)]
     have hlf:qJ p.2.at_=114∨qJ p.2.at_=97:=by
      have:p.2.at_=0∨p.2.at_=1:=by omega
      rcases this with ha | ha<;>rw[ha]
      ·exact .inl rfl
      ·exact .inr rfl
     rw[nL,hq,yC lV] at hstep;rcases hlf with hlf | hlf<;>rw[hlf,hstep]
     all_goals
      refine aA ?_;refine aY [1,2,3] rfl (by decide) (fun _ h=>h) ?_;exact dX (s.aD.length - (i+1)) ⟨i+1,hlt,rfl,rfl,rfl,rfl⟩
  obtain rfl:i=s.aD.length:=by omega
  refine aA ?_;refine aM 1 1 ?_;refine fC 0 (fun L:iI=>iW f hL.h L s z) L ?_;refine aM 0 0 ?_;subst cN;exact cI 0 hF
 ·rw[if_neg xA];refine aA ?_;refine aG rfl (fun h=>absurd h h48) (fun _=>?_);refine aA ?_;refine aG rfl (fun h=>absurd h Xz) (fun _=>?_);refine aA ?_;refine aG rfl (fun h=>absurd h xA) (fun _=>?_);refine aA ?_;refine aM 1 1 ?_;refine fC 0 (fun L:iI=>iW f hL.h L s z) L ?_;refine aM 0 0 ?_;subst cN;exact cI 0 hF
theorem aQS(hH:s.cX)(aV:gE hL s)(hok:cF s x)(i:Int)(F:Nat→Prop)(hp:(fD f hL s z x).sat F w)(hF:∀b,F b→b < w.heap.size):
  Cz 104 #[pt f,iv i] w (Wr (.bool (Gs x i).2) (fD f hL s z (Gs x i).1) w F):=by
 refine dB func104 ntmps104 hp hF ?_;generalize cN:(⟨w,fun b=>b < w.heap.size∧¬F b⟩:Piece)=R0;refine aZ 0 0 ?_;refine kB 0 fun L=>?_;refine aZ 1 1 ?_;refine aA ?_;refine kd (bP rfl (Rd.fA 1 rfl rfl)) ?_;refine aA ?_;refine aU (fun w1 t=>aPS hL s x w1 i (t.mY 0 rfl aV hok)) ?_;unfold Gs;cases hh:Au x.ln i
 ·refine aA ?_;refine aM 1 1 ?_;refine fC 0 (fun L:iI=>iW f hL.h L s z) L ?_;refine aM 0 0 ?_;subst cN;exact cI 0 hF
 ·refine aA ?_;refine kd (bP rfl (Rd.fA 1 rfl rfl)) ?_;refine aA ?_;refine eC 0 (dY hL s {x with ln:=(vO x.ln i).2}) (fun w1 F1 t h1 h2 h3=>aPQ hL s x w1 hH aV hok i F1 h1 h2) ?_;refine aA ?_;refine aM 1 1 ?_;refine fC 0 (fun L:iI=>iW f hL.h L s z) L ?_;refine aM 0 0 ?_;subst cN;exact cI 0 hF
theorem aQW(hH:s.cX)(aV:gE hL s)(hok:cF s x)(c:Nat)(hc:c < s.aF.length)(F:Nat→Prop)(hp:(fD f hL s z x).sat F w)(hF:∀b,F b→b < w.heap.size):
  Cz 102 #[pt f,iv (c:Int)] w (Wr (.bool (Lc s x c).2) (fD f hL s z (Lc s x c).1) w F):=by
 refine dB func102 ntmps102 hp hF ?_;generalize cN:(⟨w,fun b=>b < w.heap.size∧¬F b⟩:Piece)=R0;refine aZ 0 0 ?_;refine kB 0 fun L=>?_;refine aZ 1 1 ?_;refine aA ?_;refine kd (bP rfl (Rd.fA 1 rfl rfl)) ?_;refine aA ?_;refine eC 0 (dY hL s {x with ck:=(lD s x.ck c true).2}) (fun w1 F1 t h1 h2 h3=>aIq hL s x w1 hH aV hok c true F1 h1 h2) ?_
 have mS:cF s {x with ck:=(lD s x.ck c true).2}:=⟨Vs hH hok.ck _ _,hok.dm,hok.ln,hok.dv,hok.each,hok.wt⟩
 unfold Lc;generalize tG:({x with ck:=(lD s x.ck c true).2}:aO)=x2 at mS⊢
 have yL:(lD s x.ck c true).2=x2.ck:=by rw[←tG]
 rw[yL];refine aA ?_;refine kd (bP rfl (Rd.fA 1 rfl rfl)) ?_;refine aA ?_;refine aU (fun w1 t=>aIn hL s x2 w1 hH c (t.mY 0 rfl aV mS)) ?_;cases hr:qG s x2.ck c
 ·refine aA ?_;refine kd (pL rfl (aQ.fA 1 rfl (vs:=[.slice L.a1.1 s.aF.length L.a1.2,.slice L.a2.1 s.domains.length L.a2.2,.slice L.a3.1 s.aR.length L.a3.2,.slice L.a4.1 s.aD.length L.a4.2]) rfl)) ?_;refine aA ?_;refine jS [] (Jf (fZ s c)) (fun w1 t=>aBF (all w1) s _ _ _ _ _ L.a1.2 _ L.a2.2 _ L.a3.2 _ L.a4.2 c w1 (t.yR 1 rfl).so hH.t (Piece.Le.refl _) hc) ?_;rintro _ w1 qm ⟨Ac,cc,rfl,iD⟩ hf _ _
  have iD:=iD.le hf
  clear hf;refine aA ?_;rcases jU:fZ s c with _ | ⟨c0,_ | ⟨c1,cr⟩⟩
  ·refine mM ?_;refine jD ?_;refine aA ?_;refine aM 1 1 ?_;refine fC 0 (fun L:iI=>iW f hL.h L s z) L ?_;refine aM 0 0 ?_;subst cN;exact cI 0 hF
  ·refine mM ?_;refine jD ?_;refine aA ?_;refine aM 1 1 ?_;refine fC 0 (fun L:iI=>iW f hL.h L s z) L ?_;refine aM 0 0 ?_;subst cN;exact cI 0 hF
  ·rw[jU] at iD;obtain⟨b,off,hA,hb,qN⟩:=iD.2 (by simp)
   have r1:Rd w [qm,R0] [dY hL s x2,iW f hL.h L s z,HP.many [cM,cM]] b (off+1) (iv (c1:Int)):=Rd.ro (p:=qm) (by simp) hb (qN 1 _ rfl)
   have hlen:decide ((c0::c1::cr).length < 2)=false:=by simp
   rw[hlen];refine mM ?_;refine jC ?_;refine Od 27 rfl (fun h=>absurd h (by simp;omega)) (fun _=>?_);refine jC ?_;refine xF (bP rfl (Rd.fA 1 rfl rfl)) ?_;refine jC ?_;refine xF (dat 1 (off+1) (hx:=by rw[←hA];rfl) (hlt:=by simp)) ?_;refine jC ?_;refine tT (fun w1 t=>aIn hL s x2 w1 hH c1 (t.mY 0 rfl aV mS)) ?_;refine jD ?_;refine aA ?_;refine aM 1 1 ?_;refine fC 0 (fun L:iI=>iW f hL.h L s z) L ?_;refine aM 0 0 ?_;subst cN;exact cI 0 hF
 ·refine aA ?_;refine aM 1 1 ?_;refine fC 0 (fun L:iI=>iW f hL.h L s z) L ?_;refine aM 0 0 ?_;subst cN;exact cI 0 hF
end
section
def Ij(k:Int):Value:=
 if k=117 then .func (.func 100) #[] #[] else if k=100∨k=107 then .func (.func 101) #[] #[]
 else if k=99 then .func (.func 102) #[] #[] else if k=111 then .func (.func 103) #[] #[]
 else if k=114 then .func (.func 104) #[] #[] else .func (.func 105) #[] #[]
theorem aIU(k:Int)(w:World):Cz 51 #[.int .u8 k] w (Rt (Ij k) w):=by
 refine aN func51 ntmps51 ?_;refine aA ?_;refine aG rfl (fun h1=>?_) (fun h1=>?_)
 ·refine aA ?_;exact cZ (by rw[Ij,if_pos h1])
 refine aA ?_;refine aG rfl (fun h2=>?_) (fun h2=>?_)
 ·refine aA ?_;refine aG rfl (fun _=>?_) (fun h=>absurd h2 h);refine aA ?_;exact cZ (by rw[Ij,if_neg h1,if_pos (.inl h2)])
 refine aA ?_;refine aG rfl (fun h3=>?_) (fun h3=>?_)
 ·refine aA ?_;exact cZ (by rw[Ij,if_neg h1,if_pos (.inr h3)])
 have h23:¬(k=100∨k=107):=by omega
 refine aA ?_;refine aG rfl (fun h4=>?_) (fun h4=>?_)
 ·refine aA ?_;exact cZ (by rw[Ij,if_neg h1,if_neg h23,if_pos h4])
 refine aA ?_;refine aG rfl (fun h5=>?_) (fun h5=>?_)
 ·refine aA ?_;exact cZ (by rw[Ij,if_neg h1,if_neg h23,if_neg h4,if_pos h5])
 refine aA ?_;refine aG rfl (fun h6=>?_) (fun h6=>?_)
 ·refine aA ?_;exact cZ (by rw[Ij,if_neg h1,if_neg h23,if_neg h4,if_neg h5,if_pos h6])
 refine aA ?_;exact cZ (by rw[Ij,if_neg h1,if_neg h23,if_neg h4,if_neg h5,if_neg h6])
theorem aD0{P:Program}{fn:Func}{R:Ending→World→Prop}(hr:fn.results=#[]){t1 t2:Array Value}:∀(ds:List Deferred) (u:FrameMode) (w:World),Leaves P fn t1 R ds u w→Leaves P fn t2 R ds u w
 | [],.returning,w,h=>by
  obtain⟨v,h1,h2⟩:=h;rw[results_none hr] at h1;cases h1;exact⟨_,results_none hr _ _ _,h2⟩
 | [],.panicking _,_,h=>h
 | [],.run,_,h=>h
 | d::ds,u,w,h=>by
  obtain⟨h1,fv,cap,f,args,h2,h3,h4⟩:=h;refine⟨h1,fv,cap,f,args,h2,h3,h4.mono fun y u' w' hy=>?_⟩;cases y with
  | returned v=>exact aD0 hr ds _ _ hy
  | panicked c=>exact aD0 hr ds _ _ hy
  | outgrown=>exact hy
theorem mG{P:Program}{fn:Func}{R:Ending→World→Prop}{c:List PanicEntry}{a:Act}{d:Option Nat}{v:Value}{w:World}(hr:fn.results=#[])(h:bodyPostD P fn R (.panic c) (a.put d v) w):bodyPostD P fn R (.panic c) a w:=by
 have hd:(a.put d v).defers=a.defers:=by cases d<;>rfl
 have h2:Leaves P fn (a.put d v).tmps R (a.put d v).defers (.panicking c) w:=h
 rw[hd] at h2;exact aD0 hr _ _ _ h2
def aF1(f:Nat)(hL:HL)(s:aC)(z:bY)(x:aO)(r:aO×Bool):Prop:=
 ∃fn:FuncId,Ij z.kind=.func (.func fn) #[] #[]∧fI Tryz.prog fn=true∧cF s r.1∧∀(w:World) (F:Nat→Prop),(fD f hL s z x).sat F w→(∀b,F b→b < w.heap.size)→kQ ⟨w,fun b=>b < w.heap.size∧¬F b⟩→
  Cz fn #[pt f,iv z.id] w (Wr (.bool r.2) (fD f hL s z r.1) w F)
def xC(s:aC)(z:bY)(r:aO×Bool):bY:=if r.2 then lC s r.1 {z with at_:= -1} z.at_.toNat 0 else z
section
variable(f:Nat)(hL:HL)(s:aC)(z:bY)(x:aO)(w:World)
theorem aQJ(hH:s.cX)(aV:gE hL s)(hok:cF s x)(hz:Dy s z)(a:Nat)(ha:z.at_=(a:Int))(vZ:a < 2)(r:aO×Bool)(hact:aF1 f hL s z x r)(Ey:tW (jV z a))(F:Nat→Prop)(hp:(fD f hL s z x).sat F w)(hF:∀b,F b→b < w.heap.size)(fG:kQ ⟨w,fun b=>b < w.heap.size∧¬F b⟩):
  Cz 20 #[pt f] w (Wr (.tuple #[]) (fD f hL s (xC s z r) r.1) w F):=by
 obtain⟨fn,dD,hcb,Ws,Bb⟩:=hact;refine Zz (vs:=[pt f]) (p:=fD f hL s z x) func20 rfl ntmps20 (by simp) hp hF ?_;generalize cN:(⟨w,fun b=>b < w.heap.size∧¬F b⟩:Piece)=R0 at fG⊢;refine aA ?_;refine Ud (f:=49) (fi:=[]) (ca:=[]) rfl ?_;refine aA ?_;refine kd (bP rfl (Jd 0 rfl fun _=>rfl)) ?_;refine aA ?_;refine bU (t:=8) rfl (fun h=>absurd h (by omega)) (fun _=>?_);refine aA ?_;refine iO [1,2,3,4,8,9,10,11] ?_;refine bH 0 ?_ (hQ:=fun _ _ _ h=>mG rfl h);refine bH 6 ?_ (hQ:=fun _ _ _ h=>mG rfl h);refine bH 7 ?_ (hQ:=fun _ _ _ h=>mG rfl h);refine aK 1 ?_ (hQ:=fun _ _ _ h=>mG rfl h);refine aK 2 ?_ (hQ:=fun _ _ _ h=>mG rfl h);refine aK 3 ?_ (hQ:=fun _ _ _ h=>mG rfl h);refine aK 4 ?_ (hQ:=fun _ _ _ h=>mG rfl h) (dD:=bP rfl (Jd 0 rfl fun _=>rfl));refine aK 8 ?_ (hQ:=fun _ _ _ h=>mG rfl h);refine aK 9 ?_ (hQ:=fun _ _ _ h=>mG rfl h);refine aK 10 ?_ (hQ:=fun _ _ _ h=>mG rfl h);refine aK 11 ?_ (hQ:=fun _ _ _ h=>mG rfl h) (dD:=bP rfl (Jd 0 rfl fun _=>rfl));refine aJ 5 ?_;refine aU (fun w1 t=>aIU z.kind w1) ?_;rw[dD];refine bB ?_;refine aJ 12 ?_;refine aBc 0 (fi:=[]) (ca:=[]) (fD f hL s z r.1) (fun w1 F1 t h1 h2 h3=>by simpa using Bb w1 F1 h1 h2 (kQ.le fG (h3 _ (by simp)))) ?_ (hf:=hcb);dsimp only[List.set];refine bO ?_;refine eN ?_;refine aA ?_;obtain⟨x',b⟩:=r;dsimp only at Ws⊢;cases b
 ·refine aA ?_;subst cN;exact Bo (.inr rfl) (by kernel_rfl) Yf rfl fun w1 t=>⟨rfl,t.turns hF (by simp) (i:=0) rfl⟩
 ·refine aA ?_;refine kd (bP rfl (Jd 0 rfl fun _=>rfl)) ?_;refine aA ?_;refine aZ 0 0 ?_;refine kB 0 fun L=>?_;refine aZ 0 0 ?_;refine fF rfl rfl ?_ (hs:=eO.mk 0 rfl cG.h rfl (by simp[dS]));dsimp only[List.set];rw[show(dS hL.h L s z).set (0+16) (iv (-1))=dS hL.h L s {z with at_:= -1} from rfl];refine aM 0 0 ?_;refine fC 0 (fun L:iI=>iW f hL.h L s {z with at_:= -1}) L ?_;refine aM 0 0 ?_;refine aA ?_;rw[ha];refine eC 0 (fD f hL s (lC s x' {z with at_:= -1} a 0) x') (fun w1 F1 t h1 h2 h3=>aEj f hL s {z with at_:= -1} x' hH aV Ws a vZ 0 (fun _=>Ey) w1 F1 h1 h2) ?_;refine aA ?_
  have hend:xC s z (x',true)=lC s x' {z with at_:= -1} a 0:=by
   unfold xC;rw[if_pos rfl,ha];rfl
  rw[hend];subst cN;exact Bo (.inr rfl) (by kernel_rfl) Yf rfl fun w1 t=>⟨rfl,t.turns hF (by simp) (i:=0) rfl⟩
end
end
section
def Hf(s:aC)(d:Int)(k:Nat)(p:cO×dL):cO×dL:=match s.aD[k]? with
 | some dv=>if dv.domain=d then(p.1,if p.2.at_=3 then(nU p.2).2 else if p.2.at_=0 then(sE p.2).2 else p.2) else p
 | none=>p
def jJ(s:aC)(x:aO)(d:Int)(n:Nat):List (cO×dL):=x.dv.mapIdx fun k p=>if k < n then Hf s d k p else p
def Qc(s:aC)(x:aO)(d:Int)(k:Nat):Bool:=match s.aD[k]?,x.dv[k]? with
 | some dv,some p=> !decide (dv.domain=d)||decide (p.2.at_=2)
 | _,_=>true
def Cs(s:aC)(x:aO)(d:Int)(n:Nat):Bool:=(List.range n).all (Qc s x d)
theorem aPq(s:aC)(x:aO)(d:Int)(n:Nat):Cs s x d (n+1)=(Cs s x d n&&Qc s x d n):=by simp[Cs,List.range_succ]
theorem aTk{x:dL}(h:Bw x):Bw (sE x).2:=by
 unfold sE;split
 ·exact h
 ·exact⟨by show(0:Int)≤1;omega,by show(1:Int)≤3;omega⟩
theorem aBi{s:aC}{x:aO}(hH:s.cX)(hok:cF s x)(d:Int)(n:Nat):cF s {x with dv:=jJ s x d n}:=Vt hH hok (by simp[jJ]) fun i e p hd hp=>by
 rw[jJ,List.getElem?_mapIdx] at hp;cases hq:x.dv[i]? with
 | none=>rw[hq] at hp;cases hp
 | some q =>
  rw[hq] at hp;obtain⟨h1,h2⟩:=hok.each i e q hd hq;simp only[Option.map_some,Option.some.injEq] at hp;subst hp;split
  ·unfold Hf;rw[hd];dsimp only;split
   ·refine⟨h1,?_⟩;dsimp only;split
    ·exact aHF h2
    ·split
     ·exact aTk h2
     ·exact h2
   ·exact⟨h1,h2⟩
  ·exact⟨h1,h2⟩
variable(f:Nat)(hL:HL)(s:aC)(z:bY)(x:aO)(w:World)
theorem aQV(hH:s.cX)(aV:gE hL s)(hok:cF s x)(d:Int)(F:Nat→Prop)(hp:(fD f hL s z x).sat F w)(hF:∀b,F b→b < w.heap.size)(fG:kQ ⟨w,fun b=>b < w.heap.size∧¬F b⟩):
  Cz 177 #[pt f,iv d] w (Wr (.bool (Cs s x d s.aD.length)) (fD f hL s z {x with dv:=jJ s x d s.aD.length}) w F):=by
 have mK:=hH.t.nv
 have jB:=hok.dv
 refine dB func177 ntmps177 hp hF ?_;generalize cN:(⟨w,fun b=>b < w.heap.size∧¬F b⟩:Piece)=R0 at fG⊢;refine aZ 0 0 ?_;refine kB 0 fun L=>?_;refine aZ 1 1 ?_;refine aA ?_;refine kd (bP rfl (Rd.fA 1 rfl rfl)) ?_;refine aA ?_
 have hm0:jJ s x d 0=x.dv:=Qn _ _
 refine bL [(15,iv (0)),(14,iv s.aD.length),(13,.slice L.a4.1 s.aD.length L.a4.2),(5,.bool true),(0,pt f),(1,iv d)] ?_;refine eJ (fun m e R H=>∃(i:Nat) (b:Bool),i≤s.aD.length∧m=s.aD.length - i∧b=Cs s x d i∧e=[(15,iv (i:Int)),(14,iv s.aD.length),(13,.slice L.a4.1 s.aD.length L.a4.2),(5,.bool b),(0,pt f),(1,iv d)]∧R=[R0]∧H=[dY hL s {x with dv:=jJ s x d i},iW f hL.h L s z,HP.many [cM,cM]]) s.aD.length ⟨0,true,by omega,rfl,rfl,rfl,rfl,by rw[hm0]⟩ fun m e R H hI=>?_;obtain⟨i,b0,hi,rfl,hb0,rfl,rfl,rfl⟩:=hI
 have nW:=aBi hH hok d i
 refine aA ?_;refine aG rfl (fun hlt=>?_) (fun hge=>?_)
 ·have hlt:i < s.aD.length:=by omega
  obtain⟨dv,dI⟩:=get_some hlt;obtain⟨p,gP⟩:=get_some (l:=x.dv) (i:=i) (by omega)
  have lV:(jJ s x d i)[i]? =some p:=Qp gP
  have hstep:(jJ s x d i).set i (Hf s d i p)=jJ s x d (i+1):=Qo (f:=Hf s d) gP
  have dU:=aPq s x d i
  have Wp:Qc s x d i=(!decide (dv.domain=d)||decide (p.2.at_=2)):=by
   unfold Qc;rw[dI,gP]
  rw[Wp,←hb0] at dU;obtain⟨q1,q2⟩:=(nW.each i dv p dI lV).2;refine aJT 1 rfl (by omega) fun b off hA=>?_;refine aA ?_;refine kd (dat i (off+i*6) (hx:=by rw[←hA];rfl)) ?_;refine aFA 6 (aFx dv) rfl (fun w1 t=>aID (t.yR 1 rfl) hA dI) ?_;rintro _ ⟨A,n,k,A',n',k',rfl⟩;refine bT fun g1=>?_;refine aA ?_;refine aG rfl (fun he=>?_) (fun he=>?_)
  ·have nL:Hf s d i p=p:=by
    unfold Hf;rw[dI];exact if_neg he
   rw[nL,yC lV] at hstep;rw[hstep];refine aA ?_;refine aY [1,2,3] rfl (by decide) (fun _ h=>h) ?_;refine bL [(15,iv ((i+1:Nat):Int)),(14,iv s.aD.length),(13,.slice L.a4.1 s.aD.length L.a4.2),(5,.bool b0),(0,pt f),(1,iv d)] ?_;exact iF (s.aD.length - (i+1)) (by omega) ⟨i+1,b0,hlt,rfl,by rw[dU,decide_eq_false he];simp,rfl,rfl,rfl⟩
  ·have he:dv.domain=d:=by simpa using he
   rw[decide_eq_true he] at dU
   have hst:uI {x with dv:=jJ s x d i} i=qJ p.2.at_:=by
    unfold uI;dsimp only;rw[lV];rfl
   have nL:Hf s d i p=(p.1,if p.2.at_=3 then(nU p.2).2 else if p.2.at_=0 then(sE p.2).2 else p.2):=by
    unfold Hf;rw[dI];exact if_pos he
   refine aA ?_;refine kd (bP rfl (Rd.fA 2 rfl rfl)) ?_;refine aA ?_;refine aU (fun w1 t=>aIm hL s _ w1 aV nW i hlt (fG.at_ (t.le (by simp))) (t.mY 1 rfl aV nW)) ?_;rw[hst]
   have hq4:p.2.at_=0∨p.2.at_=1∨p.2.at_=2∨p.2.at_=3:=by omega
   rcases hq4 with ha | ha | ha | ha<;>rw[ha] at nL dU⊢ <;>cases b0
   ·rw[show qJ 0=114 from rfl];refine aA ?_;refine kd (bP rfl (Rd.fA 2 rfl rfl)) ?_;refine aA ?_;refine zM (α:=Int) 1 (f:=226) (fi:=[]) (ca:=[]) (fun r=>iv r) (fun _=>dY hL s (It {x with dv:=jJ s x d i} i)) (fun _=>True) (by kernel_rfl) rfl rfl rfl (by decide) (fun w1 F1 t h1 h2 h3=>aIr hL s _ w1 hH aV nW i hlt F1 h1 h2) ?_;rintro _ _;dsimp only[List.set]
    have hX:It {x with dv:=jJ s x d i} i={x with dv:=jJ s x d (i+1)}:=by
     unfold It;dsimp only;rw[lV,←hstep,nL];rfl
    rw[hX];refine aA ?_;refine aY [1,2,3] rfl (by decide) (fun _ h=>h) ?_;refine bL [(15,iv ((i+1:Nat):Int)),(14,iv s.aD.length),(13,.slice L.a4.1 s.aD.length L.a4.2),(5,.bool false),(0,pt f),(1,iv d)] ?_;exact iF (s.aD.length - (i+1)) (by omega) ⟨i+1,false,hlt,rfl,by rw[dU];rfl,rfl,rfl,rfl⟩
   ·rw[show qJ 0=114 from rfl];refine aA ?_;refine kd (bP rfl (Rd.fA 2 rfl rfl)) ?_;refine aA ?_;refine zM (α:=Int) 1 (f:=226) (fi:=[]) (ca:=[]) (fun r=>iv r) (fun _=>dY hL s (It {x with dv:=jJ s x d i} i)) (fun _=>True) (by kernel_rfl) rfl rfl rfl (by decide) (fun w1 F1 t h1 h2 h3=>aIr hL s _ w1 hH aV nW i hlt F1 h1 h2) ?_;rintro _ _;dsimp only[List.set]
    have hX:It {x with dv:=jJ s x d i} i={x with dv:=jJ s x d (i+1)}:=by
     unfold It;dsimp only;rw[lV,←hstep,nL];rfl
    rw[hX];refine aA ?_;refine aY [1,2,3] rfl (by decide) (fun _ h=>h) ?_;refine bL [(15,iv ((i+1:Nat):Int)),(14,iv s.aD.length),(13,.slice L.a4.1 s.aD.length L.a4.2),(5,.bool false),(0,pt f),(1,iv d)] ?_;exact iF (s.aD.length - (i+1)) (by omega) ⟨i+1,false,hlt,rfl,by rw[dU];rfl,rfl,rfl,rfl⟩
   ·rw[show qJ 1=97 from rfl];rw[nL,show(if(1:Int)=3 then(nU p.2).2 else if(1:Int)=0 then(sE p.2).2 else p.2)=p.2 from rfl,yC lV] at hstep;rw[hstep];refine aA ?_;refine aY [1,2,3] rfl (by decide) (fun _ h=>h) ?_;refine bL [(15,iv ((i+1:Nat):Int)),(14,iv s.aD.length),(13,.slice L.a4.1 s.aD.length L.a4.2),(5,.bool false),(0,pt f),(1,iv d)] ?_;exact iF (s.aD.length - (i+1)) (by omega) ⟨i+1,false,hlt,rfl,by rw[dU];rfl,rfl,rfl,rfl⟩
   ·rw[show qJ 1=97 from rfl];rw[nL,show(if(1:Int)=3 then(nU p.2).2 else if(1:Int)=0 then(sE p.2).2 else p.2)=p.2 from rfl,yC lV] at hstep;rw[hstep];refine aA ?_;refine aY [1,2,3] rfl (by decide) (fun _ h=>h) ?_;refine bL [(15,iv ((i+1:Nat):Int)),(14,iv s.aD.length),(13,.slice L.a4.1 s.aD.length L.a4.2),(5,.bool false),(0,pt f),(1,iv d)] ?_;exact iF (s.aD.length - (i+1)) (by omega) ⟨i+1,false,hlt,rfl,by rw[dU];rfl,rfl,rfl,rfl⟩
   ·rw[show qJ 2=115 from rfl];rw[nL,show(if(2:Int)=3 then(nU p.2).2 else if(2:Int)=0 then(sE p.2).2 else p.2)=p.2 from rfl,yC lV] at hstep;rw[hstep];refine aA ?_;refine aY [1,2,3] rfl (by decide) (fun _ h=>h) ?_;refine bL [(15,iv ((i+1:Nat):Int)),(14,iv s.aD.length),(13,.slice L.a4.1 s.aD.length L.a4.2),(5,.bool false),(0,pt f),(1,iv d)] ?_;exact iF (s.aD.length - (i+1)) (by omega) ⟨i+1,false,hlt,rfl,by rw[dU];rfl,rfl,rfl,rfl⟩
   ·rw[show qJ 2=115 from rfl];rw[nL,show(if(2:Int)=3 then(nU p.2).2 else if(2:Int)=0 then(sE p.2).2 else p.2)=p.2 from rfl,yC lV] at hstep;rw[hstep];refine aA ?_;refine aY [1,2,3] rfl (by decide) (fun _ h=>h) ?_;refine bL [(15,iv ((i+1:Nat):Int)),(14,iv s.aD.length),(13,.slice L.a4.1 s.aD.length L.a4.2),(5,.bool true),(0,pt f),(1,iv d)] ?_;exact iF (s.aD.length - (i+1)) (by omega) ⟨i+1,true,hlt,rfl,by rw[dU];rfl,rfl,rfl,rfl⟩
   ·rw[show qJ 3=100 from rfl];refine aA ?_;refine kd (bP rfl (Rd.fA 2 rfl rfl)) ?_;refine aA ?_;refine zM (α:=Int) 1 (f:=176) (fi:=[]) (ca:=[]) (fun r=>iv r) (fun _=>dY hL s (Ah {x with dv:=jJ s x d i} i)) (fun _=>True) (by kernel_rfl) rfl rfl rfl (by decide) (fun w1 F1 t h1 h2 h3=>aDW hL s _ w1 hH aV nW i hlt F1 h1 h2) ?_;rintro _ _;dsimp only[List.set]
    have hX:Ah {x with dv:=jJ s x d i} i={x with dv:=jJ s x d (i+1)}:=by
     unfold Ah;dsimp only;rw[lV,←hstep,nL];rfl
    rw[hX];refine aA ?_;refine aY [1,2,3] rfl (by decide) (fun _ h=>h) ?_;refine bL [(15,iv ((i+1:Nat):Int)),(14,iv s.aD.length),(13,.slice L.a4.1 s.aD.length L.a4.2),(5,.bool false),(0,pt f),(1,iv d)] ?_;exact iF (s.aD.length - (i+1)) (by omega) ⟨i+1,false,hlt,rfl,by rw[dU];rfl,rfl,rfl,rfl⟩
   ·rw[show qJ 3=100 from rfl];refine aA ?_;refine kd (bP rfl (Rd.fA 2 rfl rfl)) ?_;refine aA ?_;refine zM (α:=Int) 1 (f:=176) (fi:=[]) (ca:=[]) (fun r=>iv r) (fun _=>dY hL s (Ah {x with dv:=jJ s x d i} i)) (fun _=>True) (by kernel_rfl) rfl rfl rfl (by decide) (fun w1 F1 t h1 h2 h3=>aDW hL s _ w1 hH aV nW i hlt F1 h1 h2) ?_;rintro _ _;dsimp only[List.set]
    have hX:Ah {x with dv:=jJ s x d i} i={x with dv:=jJ s x d (i+1)}:=by
     unfold Ah;dsimp only;rw[lV,←hstep,nL];rfl
    rw[hX];refine aA ?_;refine aY [1,2,3] rfl (by decide) (fun _ h=>h) ?_;refine bL [(15,iv ((i+1:Nat):Int)),(14,iv s.aD.length),(13,.slice L.a4.1 s.aD.length L.a4.2),(5,.bool false),(0,pt f),(1,iv d)] ?_;exact iF (s.aD.length - (i+1)) (by omega) ⟨i+1,false,hlt,rfl,by rw[dU];rfl,rfl,rfl,rfl⟩
 obtain rfl:i=s.aD.length:=by omega
 rw[←hb0];refine aA ?_;refine aM 1 1 ?_;refine fC 0 (fun L:iI=>iW f hL.h L s z) L ?_;refine aM 0 0 ?_;subst cN;exact cI 0 hF
theorem aQX(hH:s.cX)(aV:gE hL s)(hok:cF s x)(c:Int)(F:Nat→Prop)(hp:(fD f hL s z x).sat F w)(hF:∀b,F b→b < w.heap.size):
  Cz 103 #[pt f,iv c] w (Wr (.bool true) (fD f hL s z {x with ck:=(lD s x.ck c false).2}) w F):=by
 refine dB func103 ntmps103 hp hF ?_;generalize cN:(⟨w,fun b=>b < w.heap.size∧¬F b⟩:Piece)=R0;refine aZ 0 0 ?_;refine kB 0 fun L=>?_;refine aZ 1 1 ?_;refine aA ?_;refine kd (bP rfl (Rd.fA 1 rfl rfl)) ?_;refine aA ?_;refine eC 0 (dY hL s {x with ck:=(lD s x.ck c false).2}) (fun w1 F1 t h1 h2 h3=>aIq hL s x w1 hH aV hok c false F1 h1 h2) ?_;refine aA ?_;refine aM 1 1 ?_;refine fC 0 (fun L:iI=>iW f hL.h L s z) L ?_;refine aM 0 0 ?_;subst cN;exact cI 0 hF
def uK(s:aC)(x:aO)(d:Int)(keep:Bool):aO×Bool:=
 if rW x.dm d=49 then(if Cs s x d s.aD.length then {x with dv:=jJ s x d s.aD.length,dm:=(wB s x.dm d keep).2} else {x with dv:=jJ s x d s.aD.length},false)
 else if rW x.dm d=48∨rW x.dm d=116 then(x,true) else(x,false)
theorem aI9(hH:s.cX)(aV:gE hL s)(hok:cF s x)(d:Int)(F:Nat→Prop)(hp:(fD f hL s z x).sat F w)(hF:∀b,F b→b < w.heap.size)(fG:kQ ⟨w,fun b=>b < w.heap.size∧¬F b⟩):
  Cz 101 #[pt f,iv d] w (Wr (.bool (uK s x d (decide (z.kind=107))).2) (fD f hL s z (uK s x d (decide (z.kind=107))).1) w F):=by
 refine dB func101 ntmps101 hp hF ?_;generalize cN:(⟨w,fun b=>b < w.heap.size∧¬F b⟩:Piece)=R0 at fG⊢;refine aZ 0 0 ?_;refine kB 0 fun L=>?_;refine aZ 1 1 ?_;refine aA ?_;refine kd (bP rfl (Rd.fA 1 rfl rfl)) ?_;refine aA ?_;refine aU (fun w1 t=>aDV hL s x w1 hok.dm d (t.mY 0 rfl aV hok)) ?_;unfold uK;generalize mJ:rW x.dm d=ph
 by_cases xA:ph=49
 ·subst xA;rw[if_pos rfl];refine aM 1 1 ?_;refine fC 0 (fun L:iI=>iW f hL.h L s z) L ?_;refine aM 0 0 ?_;refine aA ?_;refine eC 0 (fD f hL s z {x with dv:=jJ s x d s.aD.length}) (fun w1 F1 t h1 h2 h3=>aQV f hL s z x w1 hH aV hok d F1 h1 h2 (kQ.le fG (h3 _ (by simp)))) ?_
  have mS:=aBi hH hok d s.aD.length
  cases hb:Cs s x d s.aD.length
  ·refine aA ?_;subst cN;exact cI 0 hF
  ·refine aA ?_;refine aZ 0 0 ?_;refine kB 0 fun L2=>?_;refine aZ 1 1 ?_;refine iO [1,2,3,6,7,8,9,10] ?_;refine bH 0 ?_;refine bH 4 ?_;refine bH 5 ?_;refine aK 1 ?_;refine aK 2 ?_;refine aK 3 ?_ (dD:=bP rfl (Rd.fA 1 rfl rfl));refine aK 6 ?_;refine aK 7 ?_;refine aK 8 ?_;refine aK 9 ?_ (dD:=bP rfl (Rd.fA 1 rfl rfl));refine aK 10 ?_;refine aJ 11 ?_;refine eC 0 (dY hL s {x with dv:=jJ s x d s.aD.length,dm:=(wB s x.dm d (decide (z.kind=107))).2}) (fun w1 F1 t h1 h2 h3=>aPT hL s _ w1 hH aV mS d _ F1 h1 h2) ?_;refine bO ?_;refine eN ?_;refine aA ?_;refine aM 1 1 ?_;refine fC 0 (fun L:iI=>iW f hL.h L s z) L2 ?_;refine aM 0 0 ?_;subst cN;exact cI 0 hF
 ·rw[if_neg xA]
  by_cases h48:ph=48
  ·subst h48;rw[if_pos (.inl rfl)];refine aA ?_;refine aM 1 1 ?_;refine fC 0 (fun L:iI=>iW f hL.h L s z) L ?_;refine aM 0 0 ?_;subst cN;exact cI 0 hF
  by_cases Xz:ph=116
  ·subst Xz;rw[if_pos (.inr rfl)];refine aA ?_;refine aM 1 1 ?_;refine fC 0 (fun L:iI=>iW f hL.h L s z) L ?_;refine aM 0 0 ?_;subst cN;exact cI 0 hF
  rw[if_neg (by omega)];refine aA ?_;refine aG rfl (fun h=>absurd h xA) (fun _=>?_);refine aA ?_;refine aG rfl (fun h=>absurd h h48) (fun _=>?_);refine aA ?_;refine aG rfl (fun h=>absurd h Xz) (fun _=>?_);refine aA ?_;refine aM 1 1 ?_;refine fC 0 (fun L:iI=>iW f hL.h L s z) L ?_;refine aM 0 0 ?_;subst cN;exact cI 0 hF
end
section
def Lb(s:aC)(i:Int)(k:Nat)(p:cO×dL):cO×dL:=match s.aD[k]? with
 | some d=>if d.reset=i then(Ga d p.1,p.2) else p
 | none=>p
def Iq(s:aC)(dv:List (cO×dL))(i:Int)(n:Nat):List (cO×dL):=dv.mapIdx fun k p=>if k < n then Lb s i k p else p
def Lg(s:aC)(x:aO)(i:Int):aO:=if bN x.ln.length i then {x with ln:=(tS s x.ln i).2,dv:=Iq s x.dv i s.aD.length} else x
theorem aJ4{s:aC}{st:List kJ}(hH:s.cX)(h:Gf s st)(i:Int):Gf s (tS s st i).2:=by
 unfold tS;split
 ·exact h
 ·refine⟨by simp[h.len],fun y hy=>?_⟩;rcases List.mem_or_eq_of_mem_set hy with hy | rfl
  ·exact h.left y hy
  ·cases hq:s.aR[i.toNat]? with
   | none=>simp
   | some r=>
    have:=hH.aR r (List.mem_of_getElem? hq)
    simpa using this
theorem aSB{d:bQ}{f:cO}(hr:∀r∈d.aP,0≤r.reset∧r.reset≤6)(h:zE d f):zE d (Ga d f):=aJe 108 hr h
theorem aJk{s:aC}{x:aO}(hH:s.cX)(hok:cF s x)(i:Int)(n:Nat):cF s {x with dv:=Iq s x.dv i n}:=Vt hH hok (by simp[Iq]) fun k d p hd hp=>by
 rw[Iq,List.getElem?_mapIdx] at hp;cases hq:x.dv[k]? with
 | none=>rw[hq] at hp;cases hp
 | some q =>
  rw[hq] at hp;obtain⟨h1,h2⟩:=hok.each k d q hd hq;simp only[Option.map_some,Option.some.injEq] at hp;subst hp;split
  ·unfold Lb;rw[hd];dsimp only;split
   ·exact⟨aSB (hH.t.aD k d hd).2.2.2.2.2.2.2.2.2.1 h1,h2⟩
   ·exact⟨h1,h2⟩
  ·exact⟨h1,h2⟩
theorem aTj{s:aC}{x:aO}(hH:s.cX)(hok:cF s x)(i:Int):cF s (Lg s x i):=by
 unfold Lg;split
 ·have h:=aJk hH hok i s.aD.length
  exact⟨hok.ck,hok.dm,aJ4 hH hok.ln i,h.dv,h.each,hok.wt⟩
 ·exact hok
section
variable(L:HL)(s:aC)(x:aO)(w:World)
theorem aPV(hH:s.cX)(aV:gE L s)(hok:cF s x)(i:Int)(F:Nat→Prop)(hp:(dY L s x).sat F w)(hF:∀b,F b→b < w.heap.size):
  Cz 183 #[.pointer (some ⟨L.h,0,none⟩),iv i] w (Wr (iv (tS s x.ln i).1) (dY L s (Lg s x i)) w F):=by
 have mK:=hH.t.nv
 have hls:=aV.ds
 refine dB func183 ntmps183 hp hF ?_;generalize cN:(⟨w,fun b=>b < w.heap.size∧¬F b⟩:Piece)=R0;refine aA ?_;refine aU (fun w1 t=>Dc L s x w1 (t.mY 0 rfl aV hok)) ?_;refine aA ?_;refine kd (bP rfl (rN 0 rfl rfl)) ?_;refine aA ?_;refine aZ 0 3 ?_;refine eC 0 (qU L.R s (tS s x.ln i).2) (fun w1 F1 t h1 h2 h3=>aMz L.R s x.ln hok.ln i w1 F1 h1 h2) ?_;refine aM 0 3 ?_;unfold Lg;cases hin:bN x.ln.length i
 ·have e:tS s x.ln i=(4,x.ln):=by
   unfold tS;rw[if_pos hin]
  rw[e];refine aA ?_;subst cN;exact cI 0 hF
 ·have e1:(tS s x.ln i).1=0:=by
   unfold tS;rw[if_neg (by simp[hin])]
  rw[e1,if_pos rfl]
  have mS:cF s {x with ln:=(tS s x.ln i).2}:=⟨hok.ck,hok.dm,aJ4 hH hok.ln i,hok.dv,hok.each,hok.wt⟩
  generalize Hr:(tS s x.ln i).2=ln2 at mS⊢
  change XK _ _ _ _ _ [dY L s {x with ln:=ln2}]
  have jB:=hok.dv
  refine aA ?_;refine kd (bP rfl (rN 0 rfl rfl)) ?_;refine aA ?_
  have hm0:Iq s x.dv i 0=x.dv:=Qn _ _
  refine bL [(25,iv 0),(24,iv s.aD.length),(23,.slice L.A s.aD.length L.c),(1,iv i)] ?_;refine eJ (fun m e R H=>∃k:Nat,k≤s.aD.length∧m=s.aD.length - k∧e=[(25,iv k),(24,iv s.aD.length),(23,.slice L.A s.aD.length L.c),(1,iv i)]∧R=[R0]∧H=[dY L s {x with ln:=ln2,dv:=Iq s x.dv i k}]) s.aD.length ⟨0,by omega,rfl,rfl,rfl,by rw[hm0]⟩ fun m e R H hI=>?_;obtain⟨k,hk,rfl,rfl,rfl,rfl⟩:=hI
  have nW:=aJk hH mS i k
  dsimp only at nW;refine aA ?_;refine aG rfl (fun hlt=>?_) (fun hge=>?_)
  ·have hlt:k < s.aD.length:=by omega
   obtain⟨d,dI⟩:=get_some hlt;obtain⟨l,iU⟩:=get_some (l:=L.ds) (i:=k) (by omega);obtain⟨p,gP⟩:=get_some (l:=x.dv) (i:=k) (by omega)
   have lV:(Iq s x.dv i k)[k]? =some p:=Qp gP
   have hstep:(Iq s x.dv i k).set k (Lb s i k p)=Iq s x.dv i (k+1):=Qo (f:=Lb s i) gP
   have hfo:=(nW.each k d p dI lV).1
   refine Oe 0 rfl aV nW (by omega) fun b off hA=>?_;refine aA ?_;refine kd (dat k (off+k*6) (hx:=by rw[←hA];rfl)) ?_;refine kd (pL rfl (aQ.dev 0 rfl aV nW hA dI iU rfl)) ?_;refine bT fun g2=>?_;refine aA ?_;refine aG rfl (fun he=>?_) (fun he=>?_)
   ·have nL:Lb s i k p=(Ga d p.1,p.2):=by
     unfold Lb;rw[dI];exact if_pos he
    refine aA ?_;refine Te 1 k rfl dI iU lV ?_;dsimp only[List.set];refine aZ 0 0 ?_;refine eC 0 (iJ l.1 d (Ga d p.1)) (fun w1 F1 t h1 h2 h3=>aAJ l.1 d p.1 (by have:=(hH.t.aD k d dI).2.2.2.2.2.2.2.2.1;omega) hfo w1 F1 h1 h2) ?_;refine aM 0 0 ?_;refine To 1 k rfl dI iU lV (p':=(Ga d p.1,p.2)) ?_;dsimp only[List.set];rw[←nL,hstep];refine aA ?_;refine aY [1] rfl (by decide) (fun _ h=>h) ?_;exact dX (s.aD.length - (k+1)) ⟨k+1,hlt,rfl,rfl,rfl,rfl⟩
   ·have nL:Lb s i k p=p:=by
     unfold Lb;rw[dI];exact if_neg he
    rw[nL,yC lV] at hstep;rw[hstep];refine aA ?_;refine aY [1] rfl (by decide) (fun _ h=>h) ?_;exact dX (s.aD.length - (k+1)) ⟨k+1,hlt,rfl,rfl,rfl,rfl⟩
  obtain rfl:k=s.aD.length:=by omega
  refine aA ?_;subst cN;exact cI 0 hF
end
theorem aQZ(f:Nat)(hL:HL)(s:aC)(z:bY)(x:aO)(w:World)(hH:s.cX)(aV:gE hL s)(hok:cF s x)(c:Int)(F:Nat→Prop)(hp:(fD f hL s z x).sat F w)(hF:∀b,F b→b < w.heap.size):
  Cz 105 #[pt f,iv c] w (Wr (.bool true) (fD f hL s z (Lg s x c)) w F):=by
 refine dB func105 ntmps105 hp hF ?_;generalize cN:(⟨w,fun b=>b < w.heap.size∧¬F b⟩:Piece)=R0;refine aZ 0 0 ?_;refine kB 0 fun L=>?_;refine aZ 1 1 ?_;refine aA ?_;refine kd (bP rfl (Rd.fA 1 rfl rfl)) ?_;refine aA ?_;refine eC 0 (dY hL s (Lg s x c)) (fun w1 F1 t h1 h2 h3=>aPV hL s x w1 hH aV hok c F1 h1 h2) ?_;refine aA ?_;refine aM 1 1 ?_;refine fC 0 (fun L:iI=>iW f hL.h L s z) L ?_;refine aM 0 0 ?_;subst cN;exact cI 0 hF
end
section
def nO(s:aC)(x:aO)(k id:Int):aO×Bool:=if k=117 then Eu s x id else if k=99 then Lc s x id.toNat else if k=114 then Gs x id else if k=100∨k=107 then uK s x id (decide (k=107)) else if k=111 then({x with ck:=(lD s x.ck id false).2},true) else if k=97 then(Lg s x id,true) else(x,false)
structure Dw(s:aC)(k id:Int):Prop where
 kd:k=117∨k=99∨k=114∨k=100∨k=107∨k=111∨k=97
 c:k=99→0≤id∧id < (s.aF.length:Int)
theorem aGO{s:aC}{st:List kJ}(h:Gf s st)(i:Int):Gf s (vO st i).2:=by
 unfold vO;split
 ·exact h
 ·split
  ·rename_i x hx
   split
   ·exact h
   ·refine⟨by simp[h.len],fun y hy=>?_⟩;rcases List.mem_or_eq_of_mem_set hy with hy | rfl
    ·exact h.left y hy
    ·exact h.left x (List.mem_of_getElem? hx)
  ·exact h
theorem aR6{s:aC}{st:List fH}(h:vG s st)(d:Int)(keep:Bool):vG s (wB s st d keep).2:=by
 unfold wB;split
 ·exact h
 ·split
  ·rename_i c y hc hy
   split
   ·exact h
   ·split
    ·exact h
    ·split
     ·exact h
     ·refine⟨by simp[h.len],fun z hz=>?_,fun z hz=>?_⟩
      ·rcases List.mem_or_eq_of_mem_set hz with hz | rfl
       ·exact h.left z hz
       ·exact h.left y (List.mem_of_getElem? hy)
      ·rcases List.mem_or_eq_of_mem_set hz with hz | rfl
       ·exact h.phase z hz
       ·exact⟨by show(0:Int)≤99;omega,by show(99:Int) < 256;omega⟩
  ·exact h
theorem aNC{s:aC}{x:aO}(hH:s.cX)(hok:cF s x)(d:Int)(keep:Bool):cF s (uK s x d keep).1:=by
 have h1:=aBi hH hok d s.aD.length
 unfold uK;split
 ·dsimp only;split
  ·exact⟨hok.ck,aR6 hok.dm _ _,hok.ln,h1.dv,h1.each,hok.wt⟩
  ·exact h1
 ·split
  ·exact hok
  ·exact hok
theorem aEN{s:aC}{x:aO}(hH:s.cX)(hok:cF s x)(k id:Int):cF s (nO s x k id).1:=by
 unfold nO;split
 ·unfold Eu;split
  ·exact⟨hok.ck,aFV hH hok.dm _,hok.ln,hok.dv,hok.each,hok.wt⟩
  ·split
   ·exact aD2 hH hok _ _
   ·exact hok
 ·split
  ·exact⟨Vs hH hok.ck _ _,hok.dm,hok.ln,hok.dv,hok.each,hok.wt⟩
  ·split
   ·unfold Gs;split
    ·exact⟨hok.ck,hok.dm,aGO hok.ln _,hok.dv,hok.each,hok.wt⟩
    ·exact hok
   ·split
    ·exact aNC hH hok _ _
    ·split
     ·exact⟨Vs hH hok.ck _ _,hok.dm,hok.ln,hok.dv,hok.each,hok.wt⟩
     ·split
      ·exact aTj hH hok _
      ·exact hok
section
variable(f:Nat)(hL:HL)(s:aC)(z:bY)(x:aO)(w:World)
theorem aJF(hH:s.cX)(aV:gE hL s)(hok:cF s x)(hk:Dw s z.kind z.id):aF1 f hL s z x (nO s x z.kind z.id):=by
 have mS:=aEN hH hok z.kind z.id
 rcases hk.kd with h | h | h | h | h | h | h
 ·refine⟨_,by rw[h];rfl,(by kernel_rfl),mS,fun w F hp hF fG=>?_⟩;rw[h];exact aQT f hL s z x w hH aV hok z.id F hp hF fG
 ·refine⟨_,by rw[h];rfl,(by kernel_rfl),mS,fun w F hp hF fG=>?_⟩;obtain⟨h0,h1⟩:=hk.c h;obtain⟨c,hc⟩:∃c:Nat,z.id=c:=⟨z.id.toNat,by omega⟩
  rw[h,hc];exact aQW f hL s z x w hH aV hok c (by omega) F hp hF
 ·refine⟨_,by rw[h];rfl,(by kernel_rfl),mS,fun w F hp hF fG=>?_⟩;rw[h];exact aQS f hL s z x w hH aV hok z.id F hp hF
 ·refine⟨_,by rw[h];rfl,(by kernel_rfl),mS,fun w F hp hF fG=>?_⟩
  have:=aI9 f hL s z x w hH aV hok z.id F hp hF fG
  rw[h] at this⊢;exact this
 ·refine⟨_,by rw[h];rfl,(by kernel_rfl),mS,fun w F hp hF fG=>?_⟩
  have:=aI9 f hL s z x w hH aV hok z.id F hp hF fG
  rw[h] at this⊢;exact this
 ·refine⟨_,by rw[h];rfl,(by kernel_rfl),mS,fun w F hp hF fG=>?_⟩;rw[h];exact aQX f hL s z x w hH aV hok z.id F hp hF
 ·refine⟨_,by rw[h];rfl,(by kernel_rfl),mS,fun w F hp hF fG=>?_⟩;rw[h];exact aQZ f hL s z x w hH aV hok z.id F hp hF
theorem aQH(z0:bY)(hH:s.cX)(aV:gE hL s)(hok:cF s x)(hz:Dy s z0)(fN:z0.at_ < 0)(mR:mW s x z0=(z,true))(hst:∀a,sP z0=some a→(gI s x z0 a).2.1=0→(gI s x z0 a).1=0→tW (jV z0 a))(a:Nat)(ha:z.at_=(a:Int))(vZ:a < 2)(r:aO×Bool)(hact:aF1 f hL s z x r)(Ey:tW (jV z a))(F:Nat→Prop)(hp:(fD f hL s z0 x).sat F w)(hF:∀b,F b→b < w.heap.size)(fG:kQ ⟨w,fun b=>b < w.heap.size∧¬F b⟩):
  Cz 20 #[pt f] w (Wr (.tuple #[]) (fD f hL s (xC s z r) r.1) w F):=by
 obtain⟨fn,dD,hcb,Ws,Bb⟩:=hact;refine Zz (vs:=[pt f]) (p:=fD f hL s z0 x) func20 rfl ntmps20 (by simp) hp hF ?_;generalize cN:(⟨w,fun b=>b < w.heap.size∧¬F b⟩:Piece)=R0 at fG⊢;refine aA ?_;refine Ud (f:=49) (fi:=[]) (ca:=[]) rfl ?_;refine aA ?_;refine kd (bP rfl (Jd 0 rfl fun _=>rfl)) ?_;refine aA ?_;refine bU (t:=8) rfl (fun _=>?_) (fun h=>absurd fN h);refine aA ?_
 refine eC 0 (fD f hL s z x) (fun w1 F1 t h1 h2 h3=>by
  have:=aI7 f hL s z0 x hH aV hok hz hst w1 F1 h1 h2
  rw[mR] at this
  exact this) ?_
 refine aA ?_;refine iO [1,2,3,4,8,9,10,11] ?_;refine bH 0 ?_ (hQ:=fun _ _ _ h=>mG rfl h);refine bH 6 ?_ (hQ:=fun _ _ _ h=>mG rfl h);refine bH 7 ?_ (hQ:=fun _ _ _ h=>mG rfl h);refine aK 1 ?_ (hQ:=fun _ _ _ h=>mG rfl h);refine aK 2 ?_ (hQ:=fun _ _ _ h=>mG rfl h);refine aK 3 ?_ (hQ:=fun _ _ _ h=>mG rfl h);refine aK 4 ?_ (hQ:=fun _ _ _ h=>mG rfl h) (dD:=bP rfl (Jd 0 rfl fun _=>rfl));refine aK 8 ?_ (hQ:=fun _ _ _ h=>mG rfl h);refine aK 9 ?_ (hQ:=fun _ _ _ h=>mG rfl h);refine aK 10 ?_ (hQ:=fun _ _ _ h=>mG rfl h);refine aK 11 ?_ (hQ:=fun _ _ _ h=>mG rfl h) (dD:=bP rfl (Jd 0 rfl fun _=>rfl));refine aJ 5 ?_;refine aU (fun w1 t=>aIU z.kind w1) ?_;rw[dD];refine bB ?_;refine aJ 12 ?_;refine aBc 0 (fi:=[]) (ca:=[]) (fD f hL s z r.1) (fun w1 F1 t h1 h2 h3=>by simpa using Bb w1 F1 h1 h2 (kQ.le fG (h3 _ (by simp)))) ?_ (hf:=hcb);dsimp only[List.set];refine bO ?_;refine eN ?_;refine aA ?_;obtain⟨x',b⟩:=r;dsimp only at Ws⊢;cases b
 ·refine aA ?_;subst cN;exact Bo (.inr rfl) (by kernel_rfl) Yf rfl fun w1 t=>⟨rfl,t.turns hF (by simp) (i:=0) rfl⟩
 ·refine aA ?_;refine kd (bP rfl (Jd 0 rfl fun _=>rfl)) ?_;refine aA ?_;refine aZ 0 0 ?_;refine kB 0 fun L=>?_;refine aZ 0 0 ?_;refine fF rfl rfl ?_ (hs:=eO.mk 0 rfl cG.h rfl (by simp[dS]));dsimp only[List.set];rw[show(dS hL.h L s z).set (0+16) (iv (-1))=dS hL.h L s {z with at_:= -1} from rfl];refine aM 0 0 ?_;refine fC 0 (fun L:iI=>iW f hL.h L s {z with at_:= -1}) L ?_;refine aM 0 0 ?_;refine aA ?_;rw[ha];refine eC 0 (fD f hL s (lC s x' {z with at_:= -1} a 0) x') (fun w1 F1 t h1 h2 h3=>aEj f hL s {z with at_:= -1} x' hH aV Ws a vZ 0 (fun _=>Ey) w1 F1 h1 h2) ?_;refine aA ?_
  have hend:xC s z (x',true)=lC s x' {z with at_:= -1} a 0:=by
   unfold xC;rw[if_pos rfl,ha];rfl
  rw[hend];subst cN;exact Bo (.inr rfl) (by kernel_rfl) Yf rfl fun w1 t=>⟨rfl,t.turns hF (by simp) (i:=0) rfl⟩
def lB(s:aC)(x:aO)(z:bY):bY×aO:=
 let t:=mW s x z
 let z1:=if z.at_ < 0 then t.1 else z
 if z.at_ < 0∧t.2=false then(t.1,x) else(xC s z1 (nO s x z1.kind z1.id),(nO s x z1.kind z1.id).1)
structure aCm(s:aC)(x:aO)(z:bY):Prop where
 hok:cF s x
 fm:Dy s z
 at_:z.at_ < 0∨(∃a:Nat,z.at_=(a:Int)∧a < 2∧Dw s z.kind z.id∧tW (jV z a))
 ask:z.at_ < 0→∀a,sP z=some a→(gI s x z a).2.1=0→(gI s x z a).1=0→tW (jV z a)
 new:z.at_ < 0→∀a,sP z=some a→(gI s x z a).2.1≠0→Dw s (gI s x z a).2.1 (gI s x z a).2.2∧tW (jV z a)
theorem aHs{z:bY}{a:Nat}(h:z.last=0∨z.last=1)(hn:sP z=some a):a < 2:=by
 unfold sP at hn;split at hn
 ·cases hn;omega
 ·split at hn
  ·cases hn;omega
  ·cases hn
theorem aQI(hH:s.cX)(aV:gE hL s)(h:aCm s x z)(F:Nat→Prop)(hp:(fD f hL s z x).sat F w)(hF:∀b,F b→b < w.heap.size)(fG:kQ ⟨w,fun b=>b < w.heap.size∧¬F b⟩):
  Cz 20 #[pt f] w (Wr (.tuple #[]) (fD f hL s (lB s x z).1 (lB s x z).2) w F):=by
 unfold lB;dsimp only
 by_cases fN:z.at_ < 0
 ·cases mR:(mW s x z).2
  ·rw[if_pos ⟨fN,rfl⟩];exact aQK f hL s z x hH aV h.hok h.fm (h.ask fN) fN mR w F hp hF
  ·rw[if_neg (by simp),if_pos fN]
   have mQ:mW s x z=((mW s x z).1,true):=Prod.ext rfl mR
   have aQg:∃a,sP z=some a∧(gI s x z a).2.1≠0∧(mW s x z).1=(wS s x z a).1:=by
    unfold mW at mR⊢;cases hn:sP z with
    | none=>rw[hn] at mR;cases mR
    | some a=>
     rw[hn] at mR;refine⟨a,rfl,fun h0=>?_,rfl⟩;unfold wS at mR;dsimp only at mR;rw[if_pos h0] at mR;cases mR
   obtain⟨a,hn,hd,he⟩:=aQg
   have ha:=aHs h.fm.la hn
   obtain⟨hk,Ey⟩:=h.new fN a hn hd
   have e:(wS s x z a).1={z with last:=a,x:=jZ z.x a (gI s x z a).2.1 (gI s x z a).2.2,y:=mT z.y a (gI s x z a).2.1 (gI s x z a).2.2,at_:=a,kind:=(gI s x z a).2.1,id:=(gI s x z a).2.2}:=by
    unfold wS;dsimp only;rw[if_neg hd]
   rw[e] at he
   have hb:jV (mW s x z).1 a=jV z a:=by rw[he];rfl
   have h1:(mW s x z).1.at_=(a:Int):=by rw[he]
   have h2:(mW s x z).1.kind=(gI s x z a).2.1:=by rw[he]
   have h3:(mW s x z).1.id=(gI s x z a).2.2:=by rw[he]
   exact aQH f hL s (mW s x z).1 x w z hH aV h.hok h.fm fN mQ (h.ask fN) a h1 ha _ (aJF f hL s (mW s x z).1 x hH aV h.hok (by rw[h2,h3];exact hk)) (by rw[hb];exact Ey) F hp hF fG
 ·rw[if_neg (fun hh=>fN hh.1),if_neg fN];rcases h.at_ with h1 | ⟨a,ha,vZ,hk,Ey⟩
  ·exact absurd h1 fN
  ·exact aQJ f hL s z x w hH aV h.hok h.fm a ha vZ _ (aJF f hL s z x hH aV h.hok hk) Ey F hp hF fG
end
end
section
def Tr(s:aC):Nat→bY→aO→List Int→bY→aO→Prop
 | 0,_,_,_,_,_=>False
 | n + 1, z, x, a, z', x' => aCm s x z ∧ ((oZ (lB s x z).1 0 = some a ∧ z' = oY (lB s x z).1 0 ∧ x' = (lB s x z).2) ∨
   (oZ (lB s x z).1 0=none∧cF s (lB s x z).2∧(∀i,iS (lB s x z).2.wt i=0)∧Tr s n (oY (lB s x z).1 0) (iQ s (lB s x z).2 0) a z' x'))
theorem aLK(A:Option Addr)(n c:Nat)(l:List Int)(st:Int)(w:World)(hs:aI (all w) 1 A n (qX l))(hn:n=l.length)(h2:2≤n)(h1:l[1]? =some st):
  Cz 96 #[.slice A n c] w (Rt (.tuple #[.int .i32 (IntKind.i32.wrap st),iv 0]) w):=by
 subst hn;obtain⟨b,off,rfl,hr⟩:=aI.u32 hs (by omega)
 have k1:=hr 1 st h1
 refine aN func96 ntmps96 ?_;refine aA ?_;refine aG rfl (fun h=>absurd h (by omega)) (fun _=>?_);refine aA ?_;refine kd (dat 1 (off+1)) ?_;refine aA ?_;refine kd (Kz (ds:=.int .u32) (kd:=.i32) (c:=IntKind.i32.wrap st) (by kernel_rfl) (by kernel_rfl) rfl rfl) ?_;refine aA ?_;exact eL rfl rfl rfl fun w1 t=>⟨rfl,t.below (by simp)⟩
end
section
structure Inv(s:aC)(X:bM)(bd bc bl:Option Nat)(x:aO):Prop where
 ok:cF s x
 wt:∀i,iS x.wt i=0
 of:X.of s
 dom:∀i m,x.dm[i]? =some m→bd≠some i→(hasB X.d i=true→m.phase=49)∧(hasB X.d i=false→m.phase=48∨m.phase=116)
 jO:∀i c y,s.aF[i]? =some c→x.ck[i]? =some y→hasB X.c i=true→bc≠some i→y.on=true∧(c.kind=112→y.left=0)
 sD:∀i,hasB X.c i=true→∀j∈fZ s i,qY s j→hasB X.c j=true
 zV:∀c,bc=some c→∀i,hasB X.c i=true→i≠c→c∉fZ s i
 tE:∀i y,x.ln[i]? =some y→hasB X.l i=true→bl≠some i→y.held=false
 rA:∀(i:Nat) (p:cO×dL) (d:bQ),x.dv[i]? =some p→s.aD[i]? =some d→(p.2.at_=0∨p.2.at_=2∨p.2.at_=1∧bd=some d.domain.toNat)∧(hasB X.d d.domain.toNat=true→bd≠some d.domain.toNat→p.2.at_=0)
theorem aGa{m:fH}(h:m.phase=49∨m.phase=48∨m.phase=116):(gA m).2=m:=by
 unfold gA;rw[if_neg (by omega),if_neg (by omega),if_neg (by omega)]
theorem aJt(s:aC):∀(k c:Nat),∀j∈lK s k c,j < s.aF.length
 | 0,c,j,h=>by simp[lK] at h
 | k + 1, c, j, h => by
  unfold lK at h;cases hc:s.aF[c]? with
  | none=>rw[hc] at h;simp at h
  | some x =>
   rw[hc] at h;dsimp only at h;rcases List.mem_cons.1 h with rfl | h
   ·exact(List.getElem?_eq_some_iff.1 hc).1
   ·cases hs:x.src with
    | nil=>rw[hs] at h;simp at h
    | cons f fs=>rw[hs] at h;exact aJt s k _ j h
theorem aBH{s:aC}{i j:Nat}(h:j∈fZ s i):j < s.aF.length:=aJt s _ _ j h
theorem Jv{s:aC}{i:Nat}{c:eG}(h:s.aF[i]? =some c):kindOf s i=c.kind:=by
 unfold kindOf;rw[h];rfl
section
variable{s:aC}{X:bM}{bd bc bl:Option Nat}{x:aO}
theorem Inv.up(h:Inv s X bd bc bl x){i j:Nat}(hi:hasB X.c i=true)(hj:j∈fZ s i)(hb:bc≠some j):Pr s x.ck j=true:=by
 have hlt:=aBH hj
 obtain⟨c,hc⟩:=get_some hlt;obtain⟨y,hy⟩:=get_some (l:=x.ck) (i:=j) (by have:=h.ok.ck.len;omega);unfold Pr;rw[hc,hy];dsimp only;unfold rR
 by_cases h1:c.kind=112
 ·rw[if_pos h1];obtain⟨h2,h3⟩:=h.jO j c y hc hy (h.sD i hi j hj (.inl (by rw[Jv hc];exact h1))) hb;rw[h2,h3 h1];rfl
 ·rw[if_neg h1]
  by_cases h4:c.kind=103
  ·rw[if_pos h4];exact(h.jO j c y hc hy (h.sD i hi j hj (.inr (by rw[Jv hc];exact h4))) hb).1
  ·rw[if_neg h4]
theorem Inv.src(hm:s.made)(h:Inv s X bd bc bl x){i f:Nat}{c:eG}{fs:List Int}(hc:s.aF[i]? =some c)(hs:c.src=(f:Int)::fs)(hi:hasB X.c i=true)(hb:∀j,bc=some j→j∉fZ s f):runs s x.ck f=true:=by
 have jU:=Zd hm.aF hc
 rw[hs] at jU;dsimp only at jU;unfold runs;rw[List.all_eq_true];intro j hj;refine h.up hi (j:=j) (by rw[jU];exact List.mem_cons_of_mem _ (by simpa using hj)) fun hbj=>hb j hbj hj
theorem aGj(hm:s.made){i:Nat}{c:eG}(hc:s.aF[i]? =some c)(lT:qY s i):∃(f:Nat) (fs:List Int),c.src=(f:Int)::fs∧f < i:=by
 have hfit:=hm.aF i c hc
 have hk:=Jv hc
 unfold qY at lT;rw[hk] at lT;obtain⟨h1,h2⟩:=hfit;cases hs:c.src with
 | nil=>
  exfalso;rw[hs] at h2;simp at h2;omega
 | cons f fs=>
  have:=h1 f (by rw[hs];simp)
  exact⟨f.toNat,fs,by rw[Int.toNat_of_nonneg this.1],by omega⟩
theorem Inv.aOt(hm:s.made)(h:Inv s X bd bc bl x){i f:Nat}{c:eG}{fs:List Int}(hc:s.aF[i]? =some c)(hs:c.src=(f:Int)::fs)(hf:f < i)(hi:hasB X.c i=true):∀j,bc=some j→j∉fZ s f:=fun j hj hmem=>by
 have hle:=aBI hm hmem
 have jU:=Zd hm.aF hc
 rw[hs] at jU;dsimp only at jU;refine h.zV j hj i hi (by omega) ?_;rw[jU];exact List.mem_cons_of_mem _ (by simpa using hmem)
theorem aO2{dF:Int}{n i:Nat}{p':cO×dL}(h:(zX x dF n)[i]? =some p'):∃p,x.dv[i]? =some p∧(p.2.at_≠1→p'.2=p.2)∧(i < n→p'.2=uH p.2 (decide (0 < iS x.wt i)) (Ik dF i)):=by
 rw[zX,List.getElem?_mapIdx] at h;cases hq:x.dv[i]? with
 | none=>rw[hq] at h;cases h
 | some q =>
  rw[hq] at h;simp only[Option.map_some,Option.some.injEq] at h;refine⟨q,rfl,fun h0=>?_,fun h0=>?_⟩
  ·subst h;split
   ·unfold uH;rw[if_pos h0]
   ·rfl
  ·subst h;rw[if_pos h0]
theorem aR2{dv:List (cO×dL)}{e:Int×Nat}{i:Nat}{p':cO×dL}(h:(sW s dv e)[i]? =some p'):∃p,dv[i]? =some p∧p'.2=p.2:=by
 rw[sW,Cq,List.getElem?_mapIdx] at h;cases hq:dv[i]? with
 | none=>rw[hq] at h;cases h
 | some q =>
  rw[hq] at h;simp only[Option.map_some,Option.some.injEq] at h;refine⟨q,rfl,?_⟩;subst h;split
  ·unfold Fy;split
   ·split<;>rfl
   ·rfl
  ·rfl
theorem aI5:∀(es:List (Int×Nat)) (dv:List (cO×dL)) (i:Nat) (p':cO×dL),(es.foldl (sW s) dv)[i]? =some p'→∃p,dv[i]? =some p∧p'.2=p.2
 | [],_,_,p',h=>⟨p',h,rfl⟩
 | e::es,dv,i,p',h=>by
  obtain⟨p1,h1,h2⟩:=aI5 es _ i p' h;obtain⟨p,h3,h4⟩:=aR2 h1;exact⟨p,h3,h2.trans h4⟩
theorem aA5{dF:Int}{i:Nat}{p':cO×dL}(h:(iQ s x dF).dv[i]? =some p'):∃p,x.dv[i]? =some p∧(p.2.at_≠1→p'.2=p.2)∧(i < s.aD.length→p'.2=uH p.2 (decide (0 < iS x.wt i)) (Ik dF i)):=by
 obtain⟨p1,h1,h2⟩:=aI5 _ _ i p' h;obtain⟨p,h3,h4,h5⟩:=aO2 h1;exact⟨p,h3,fun h0=>h2.trans (h4 h0),fun h0=>h2.trans (h5 h0)⟩
theorem aSe(i:Nat):Ik 0 i=false:=by
 unfold Ik;simp;decide+kernel
theorem aFY(lF:∀i,iS x.wt i=0){i:Nat}{p':cO×dL}(hi:i < s.aD.length)(h:(iQ s x 0).dv[i]? =some p'):∃p,x.dv[i]? =some p∧(p.2.at_≠1→p'.2=p.2)∧(p.2.at_=1→p'.2.at_=2):=by
 obtain⟨p,h1,h2,h3⟩:=aA5 h;refine⟨p,h1,h2,fun h0=>?_⟩;rw[h3 hi,lF,aSe];unfold uH;rw[if_neg (by omega),if_neg (by simp),if_neg (by simp)]
theorem aL8{st:List eS}{i:Nat}{c:eG}{y:eS}(hc:s.aF[i]? =some c)(hy:st[i]? =some y):(lR s st)[i]? =some (vM s st c y):=by
 rw[lR,List.getElem?_zipWith,hc,hy]
theorem aL7{st:List eS}{i:Nat}{c:eG}{y':eS}(hc:s.aF[i]? =some c)(hy:(lR s st)[i]? =some y'):∃y,st[i]? =some y∧y'=vM s st c y:=by
 rw[lR,List.getElem?_zipWith,hc] at hy;cases hq:st[i]? with
 | none=>rw[hq] at hy;cases hy
 | some y=>rw[hq] at hy;cases hy;exact⟨y,rfl,rfl⟩
theorem Inv.tick(hm:s.made)(h:Inv s X bd bc bl x):Inv s X bd bc bl (iQ s x 0):=by
 refine⟨aFZ hm.cX h.ok 0,h.wt,h.of,fun i m hi hb=>?_,fun i c y hc hy hi hb=>?_,h.sD,h.zV,fun i y hy hi hb=>?_,fun i p d hp hd=>?_⟩
 ·simp only[iQ,oU,List.getElem?_map] at hi;cases hq:x.dm[i]? with
  | none=>rw[hq] at hi;cases hi
  | some m0 =>
   rw[hq] at hi;simp only[Option.map_some,Option.some.injEq] at hi;obtain⟨h1,h2⟩:=h.dom i m0 hq hb
   have hr:m0.phase=49∨m0.phase=48∨m0.phase=116:=by
    cases hX:hasB X.d i
    ·exact .inr (h2 hX)
    ·exact .inl (h1 hX)
   rw[aGa hr] at hi;subst hi;exact⟨h1,h2⟩
 ·obtain⟨y0,hy0,rfl⟩:=aL7 hc hy;obtain⟨h1,h2⟩:=h.jO i c y0 hc hy0 hi hb;unfold vM
  by_cases hk:c.kind=112
  ·obtain⟨f,fs,hs,hf⟩:=aGj hm hc (.inl (by rw[Jv hc];exact hk))
   have hr:=h.src hm hc hs hi (h.aOt hm hc hs hf hi)
   have pT:Pz c=f:=by
    unfold Pz;rw[hs];simp
   rw[if_pos ⟨hk,h1⟩,pT,hr,if_neg (by simp),if_neg (by have:=h2 hk;omega)];exact⟨h1,h2⟩
  ·rw[if_neg (by simp[hk])];exact⟨h1,h2⟩
 ·simp only[iQ,Ej,List.getElem?_map] at hy;cases hq:x.ln[i]? with
  | none=>rw[hq] at hy;cases hy
  | some y0=>
   rw[hq] at hy;simp only[Option.map_some,Option.some.injEq] at hy
   have h1:=h.tE i y0 hq hi hb
   subst hy;unfold lQ;rw[if_pos h1];exact h1
 ·obtain⟨p0,h0,h1,h1'⟩:=aFY h.wt (List.getElem?_eq_some_iff.1 hd).1 hp;obtain⟨h2,h3⟩:=h.rA i p0 d h0 hd
  by_cases h4:p0.2.at_=1
  ·refine⟨.inr (.inl (h1' h4)),fun h5 h6=>?_⟩
   have:=h3 h5 h6
   omega
  ·rw[h1 h4];exact⟨h2,h3⟩
end
end
section
def vI(s:aC)(X:bM)(m:List Int)(k id:Int):bY:=⟨X,dQ s,1,0,m,[],0,0,k,id⟩
def rP(s:aC)(X:bM)(l k id:Int):bY:=⟨X,dQ s,0,0,[],[],l,-1,k,id⟩
structure Plain(m:List Int):Prop where
 u:wH m
 n:m.length≤1000000
 rep:tW m
 more:∀(s:aC) (x:aO),uX s x m 0=[m.headD 0,IntKind.u32.wrap 0]
section
variable{s:aC}{X:bM}{x:aO}{m:List Int}{k id:Int}
theorem aF5(hm:s.made)(hX:X.of s)(hp:Plain m):Dy s (vI s X m k id):=by
 have h1:=hm.nc
 have h2:=hm.nd
 have h3:=hm.nr
 refine⟨.inl rfl,hp.u,by simp[vI,wH],hp.n,by simp[vI],⟨?_,?_,?_⟩,aCx hm.wX⟩
 ·show X.d.length≤_
  rw[hX.d];omega
 ·show X.c.length≤_
  rw[hX.c];omega
 ·show X.l.length≤_
  rw[hX.l];omega
theorem aF4(hm:s.made)(hX:X.of s)(hp:Plain m)(hok:cF s x)(hk:Dw s k id):aCm s x (vI s X m k id):=
 ⟨hok,aF5 hm hX hp,.inr ⟨0,rfl,by omega,hk,hp.rep⟩,fun h=>absurd h (by show ¬(0:Int) < 0;decide),fun h=>absurd h (by show ¬(0:Int) < 0;decide)⟩
theorem aCL:lB s x (vI s X m k id)=(xC s (vI s X m k id) (nO s x k id),(nO s x k id).1):=by
 unfold lB;dsimp only;rw[if_neg (by rintro⟨h,_⟩;exact absurd h (by show ¬(0:Int) < 0;decide)),if_neg (by show ¬(0:Int) < 0;decide)];rfl
end
def xL(s:aC)(k id:Int):Nat→aO→aO→Prop
 | 0,_,_=>False
 | n+1,x,x'=>cF s x∧(nO s x k id=(x',true)∨∃x1,nO s x k id=(x1,false)∧cF s x1∧(∀i,iS x1.wt i=0)∧xL s k id n (iQ s x1 0) x')
theorem aAB{s:aC}{x x':aO}{k id:Int}{n:Nat}(hok:cF s x)(hr:nO s x k id=(x',true)):xL s k id (n+1) x x':=⟨hok,.inl hr⟩
theorem aAA{s:aC}{x x1 x':aO}{k id:Int}{n:Nat}(hok:cF s x)(hr:nO s x k id=(x1,false))(Mx:cF s x1)(lF:∀i,iS x1.wt i=0)(h:xL s k id n (iQ s x1 0) x'):xL s k id (n+1) x x':=⟨hok,.inr ⟨x1,hr,Mx,lF,h⟩⟩
theorem aGn{s:aC}{X:bM}{m:List Int}{k id:Int}(hm:s.made)(hX:X.of s)(hp:Plain m)(hk:Dw s k id):∀(n:Nat) {x x':aO},xL s k id n x x'→Tr s n (vI s X m k id) x [m.headD 0,IntKind.u32.wrap 0] (rP s X 0 k id) x'
 | 0,_,_,h=>h.elim
 | n + 1, x, x', ⟨hok, .inl hr⟩ => by
  refine⟨aF4 hm hX hp hok hk,.inl ?_⟩;rw[aCL,hr]
  have he:xC s (vI s X m k id) (x',true)={vI s X m k id with at_:= -1,h0:=2,w0:=[m.headD 0,IntKind.u32.wrap 0]}:=by
   unfold xC;rw[if_pos rfl]
   show lC s x' {vI s X m k id with at_:= -1} 0 0=_
   unfold lC
   show Gu _ 0 2 (uX s x' m 0)=_
   rw[hp.more];rfl
  rw[he];exact⟨rfl,rfl,rfl⟩
 | n + 1, x, x', ⟨hok, .inr ⟨x1, hr, Mx, lF, h⟩⟩ => by
  refine⟨aF4 hm hX hp hok hk,.inr ?_⟩;rw[aCL,hr]
  have he:xC s (vI s X m k id) (x1,false)=vI s X m k id:=by
   unfold xC;rw[if_neg (by simp)]
  rw[he];exact⟨rfl,Mx,lF,aGn hm hX hp hk n h⟩
theorem Vq{st:List fH}{d:Nat}{y:fH}(hy:st[d]? =some y):rW st (d:Int)=y.phase:=by
 have hlt:=(List.getElem?_eq_some_iff.1 hy).1
 unfold rW;rw[if_pos (show bN st.length (d:Int)=true from decide_eq_true (by omega)),Int.toNat_natCast,hy];rfl
def zW(y:fH):Nat:=if y.phase=49 then 0 else if y.phase=104 then 1 else if y.phase=114 then 2+y.left.toNat else 7
theorem aHv(l:Int)(a b:Bool):zW ⟨114,l,a,b⟩=2+l.toNat:=rfl
theorem aHw(l:Int)(a b:Bool):zW ⟨104,l,a,b⟩=1:=rfl
theorem aOy(l:Int)(a b:Bool):zW ⟨49,l,a,b⟩=0:=rfl
section
variable{s:aC}{X:bM}
theorem aOZ{x:aO}{D:Int}{n i:Nat}{p':cO×dL}{d:bQ}(hd:s.aD[i]? =some d)(h:(uP s x D n)[i]? =some p'):∃p,x.dv[i]? =some p∧p'.2=if i < n∧d.domain=D then(nU p.2).2 else p.2:=by
 rw[uP,List.getElem?_mapIdx] at h;cases hq:x.dv[i]? with
 | none=>rw[hq] at h;cases h
 | some q =>
  rw[hq] at h;simp only[Option.map_some,Option.some.injEq] at h;refine⟨q,rfl,?_⟩;subst h
  by_cases h1:i < n
  ·rw[if_pos h1];unfold Gz;rw[hd];dsimp only
   by_cases h2:d.domain=D
   ·rw[if_pos h2,if_pos ⟨h1,h2⟩]
   ·rw[if_neg h2,if_neg fun h=>h2 h.2]
  ·rw[if_neg h1,if_neg fun h=>h1 h.1]
theorem aCQ(hm : s.made){d : Nat}{c : Dom}(hc : s.domains[d]? = some c)(hX : hasB X.d d = true)(hab : c.above = -1 ∨ (0 ≤ c.above ∧ hasB X.d c.above.toNat = true)) :
  ∀(n:Nat) (x:aO) (y:fH),Inv s X (some d) none none x→(∀(i:Nat) (p:cO×dL),x.dv[i]? =some p→p.2.at_≠1)→x.dm[d]? =some y→(y.phase=49∨y.phase=104∨y.phase=114∨y.phase=48∨y.phase=116)→zW y < n→
   ∃x',xL s 117 d n x x'∧Inv s X none none none x'
 | 0,_,_,_,_,_,_,h=>absurd h (by omega)
 | n + 1, x, y, hi, hno, hy, mJ, Rj => by
  have aIb:∀x1:aO,x1.dv=x.dv→∀(i:Nat) (p:cO×dL),(iQ s x1 0).dv[i]? =some p→p.2.at_≠1:=fun x1 he i p hp=>by
   obtain⟨p0,h0,h1,_⟩:=aA5 hp
   have h2:=hno i p0 (by rw[←he];exact h0)
   rw[h1 h2];exact h2
  have hlt:=(List.getElem?_eq_some_iff.1 hy).1
  have hl:=hi.ok.dm.left y (List.mem_of_getElem? hy)
  have hact:nO s x 117 d=Eu s x d:=rfl
  have Wq:=Vq hy
  have aBk:∀x1:aO,∀y1:fH,x1.dm[d]? =some y1→(iQ s x1 0).dm[d]? =some (gA y1).2:=fun x1 y1 h1=>by
   simp only[iQ,oU,List.getElem?_map,h1,Option.map_some]
  by_cases xA:y.phase=49
  ·refine⟨{x with dv:=uP s x d s.aD.length},aAB hi.ok ?_,?_⟩
   ·rw[hact,Eu,Wq,if_neg (by omega),if_pos xA]
   ·refine⟨aD2 hm.cX hi.ok _ _,hi.wt,hi.of,fun i m' hi' _=>?_,hi.jO,hi.sD,hi.zV,hi.tE,fun i p' dd hp' dR=>?_⟩
    by_cases hid:i=d
    ·subst hid;cases hy.symm.trans hi';exact⟨fun _=>xA,fun h=>by rw[hX] at h;cases h⟩
    ·exact hi.dom i m' hi' (by simp[Ne.symm hid])
    ·have aDM:=(List.getElem?_eq_some_iff.1 dR).1
     obtain⟨p0,h0,h1⟩:=aOZ dR hp';obtain⟨h2,h3⟩:=hi.rA i p0 dd h0 dR;rw[h1]
     by_cases hD:dd.domain=(d:Int)
     ·rw[if_pos ⟨aDM,hD⟩]
      have h4:(nU p0.2).2.at_=0:=by
       unfold nU;rcases h2 with h | h | h
       ·rw[if_pos (by omega)];exact h
       ·rw[if_neg (by omega)]
       ·exact absurd h.1 (hno i p0 h0)
      exact⟨.inl h4,fun _ _=>h4⟩
     ·rw[if_neg fun h=>hD h.2]
      have tM:=(hm.aD i dd dR).2.2.1
      refine⟨by have:=hno i p0 h0;omega,fun h4 _=>h3 h4 fun h5=>hD ?_⟩
      have h5:=Option.some.inj h5
      omega
  ·by_cases hdn:y.phase=48∨y.phase=116
   ·have mX:(uF s x.dm d).2=x.dm.set d ⟨114,c.delay,decide (y.phase=116),y.keep⟩:=by
     unfold uF;rw[show bN x.dm.length (d:Int)=true from decide_eq_true (by omega)];simp only[Bool.true_eq_false,if_false,Int.toNat_natCast,hc,hy]
     have h1:Kv y=true:=decide_eq_true hdn
     have h2:Oc x.dm c.above=true:=by
      unfold Oc;rcases hab with h | ⟨h0,h1⟩
      ·rw[h];rfl
      ·have hfit:=(hm.domains d c hc).1
       have hal:c.above.toNat < x.dm.length:=by omega
       obtain⟨ya,hya⟩:=get_some hal
       have:=(hi.dom _ ya hya (by simp;omega)).1 h1
       rw[hya];simp[this]
     rw[h1,h2];simp
    have Nf:nO s x 117 d=({x with dm:=x.dm.set d ⟨114,c.delay,decide (y.phase=116),y.keep⟩},false):=by
     rw[hact,Eu,Wq,if_pos hdn,mX]
    have aUS:=(hm.domains d c hc).2
    have hinv:Inv s X (some d) none none {x with dm:=x.dm.set d ⟨114,c.delay,decide (y.phase=116),y.keep⟩}:=by
     refine⟨?_,hi.wt,hi.of,fun i m' hi' hb=>?_,hi.jO,hi.sD,hi.zV,hi.tE,hi.rA⟩
     ·have:=aFV hm.cX hi.ok.dm d
      rw[mX] at this;exact⟨hi.ok.ck,this,hi.ok.ln,hi.ok.dv,hi.ok.each,hi.ok.wt⟩
     ·have hid:d≠i:=fun h=>hb (by rw[h])
      rw[List.getElem?_set_ne hid] at hi';exact hi.dom i m' hi' hb
    have hy1:({x with dm:=x.dm.set d ⟨114,c.delay,decide (y.phase=116),y.keep⟩}:aO).dm[d]? =some ⟨114,c.delay,decide (y.phase=116),y.keep⟩:=List.getElem?_set_self hlt
    have hmy:zW y=7:=by
     unfold zW;rw[if_neg xA,if_neg (by omega),if_neg (by omega)]
    obtain⟨x',h1,h2⟩:=aCQ hm hc hX hab n _ _ (hinv.tick hm) (aIb _ rfl) (aBk _ _ hy1) (by
     unfold gA;rw[if_pos rfl];split
     ·right;right;left;rfl
     ·right;left;rfl) (by
     unfold gA;rw[if_pos rfl];split
     ·rw[aHv];dsimp only;omega
     ·rw[aHw]
      omega)
    exact⟨x',aAA hi.ok Nf hinv.ok hinv.wt h1,h2⟩
   ·have Nf:nO s x 117 d=(x,false):=by
     rw[hact,Eu,Wq,if_neg hdn,if_neg xA]
    have Cu:y.phase=104∨y.phase=114:=by omega
    obtain⟨x',h1,h2⟩:=aCQ hm hc hX hab n _ _ (hi.tick hm) (aIb _ rfl) (aBk _ _ hy) (by
     unfold gA;rcases Cu with h | h
     ·rw[if_neg (by omega),if_pos h];left;rfl
     ·rw[if_pos h];split
      ·right;right;left;rfl
      ·right;left;rfl) (by
     unfold gA;rcases Cu with h | h
     ·rw[if_neg (by omega),if_pos h]
      have:zW y=1:=by
       unfold zW;rw[if_neg xA,if_pos h]
      rw[aOy];omega
     ·have hmy:zW y=2+y.left.toNat:=by
       unfold zW;rw[if_neg xA,if_neg (by omega),if_pos h]
      rw[if_pos h];split
      ·rw[aHv];omega
      ·rw[aHw]
       omega)
    exact⟨x',aAA hi.ok Nf hi.ok hi.wt h1,h2⟩
theorem aG0(hm:s.made){r:Nat}(hr:r < s.aR.length):
  ∀(n:Nat) (x:aO) (y:kJ),Inv s X none none (some r) x→x.ln[r]? =some y→(if y.held then y.left.toNat+1 else 0) < n→
   ∃x',xL s 114 r n x x'∧Inv s X none none none x'
 | 0,_,_,_,_,h=>absurd h (by omega)
 | n + 1, x, y, hi, hy, Rj => by
  have hlt:=(List.getElem?_eq_some_iff.1 hy).1
  have hl:=hi.ok.ln.left y (List.mem_of_getElem? hy)
  have hact:nO s x 114 r=Gs x r:=rfl
  have hin:bN x.ln.length (r:Int)=true:=decide_eq_true (by omega)
  have aBs:Au x.ln r=y.held:=by
   unfold Au;rw[hin,Int.toNat_natCast,hy];rfl
  cases hh:y.held
  ·refine⟨x,aAB hi.ok ?_,?_⟩
   ·rw[hact,Gs,aBs,hh];rfl
   ·refine⟨hi.ok,hi.wt,hi.of,hi.dom,hi.jO,hi.sD,hi.zV,fun i y' hi' hx _=>?_,hi.rA⟩
    by_cases hid:i=r
    ·subst hid;cases hy.symm.trans hi';exact hh
    ·exact hi.tE i y' hi' hx (by simp[Ne.symm hid])
  ·rw [hh] at Rj;simp only[if_true] at Rj
   have aHW:(vO x.ln r).2=x.ln.set r ⟨y.left,true,true⟩:=by
    unfold vO;rw[hin];simp only[Bool.true_eq_false,if_false,Int.toNat_natCast,hy,hh]
   have Nf:nO s x 114 r=({x with ln:=x.ln.set r ⟨y.left,true,true⟩},false):=by
    rw[hact,Gs,aBs,hh,if_pos rfl,aHW]
   have hinv:Inv s X none none (some r) {x with ln:=x.ln.set r ⟨y.left,true,true⟩}:=by
    refine⟨?_,hi.wt,hi.of,hi.dom,hi.jO,hi.sD,hi.zV,fun i y' hi' hx hb=>?_,hi.rA⟩
    ·have:=aGO hi.ok.ln r
     rw[aHW] at this;exact⟨hi.ok.ck,hi.ok.dm,this,hi.ok.dv,hi.ok.each,hi.ok.wt⟩
    ·have hid:r≠i:=fun h=>hb (by rw[h])
     rw[List.getElem?_set_ne hid] at hi';exact hi.tE i y' hi' hx hb
   have hy1:(iQ s {x with ln:=x.ln.set r ⟨y.left,true,true⟩} 0).ln[r]? =some (lQ ⟨y.left,true,true⟩):=by
    simp only[iQ,Ej,List.getElem?_map,List.getElem?_set_self hlt,Option.map_some]
   obtain⟨x',h1,h2⟩:=aG0 hm hr n _ _ (hinv.tick hm) hy1 (by
    by_cases h0:0 < y.left
    ·have ht:lQ ⟨y.left,true,true⟩=⟨y.left - 1,true,true⟩:=by
      unfold lQ;rw[if_neg (by simp),if_pos h0]
     rw[ht]
     show(y.left - 1).toNat+1 < n
     omega
    ·have ht:lQ ⟨y.left,true,true⟩=⟨y.left,false,false⟩:=by
      unfold lQ;rw[if_neg (by simp),if_neg h0,if_pos rfl]
     rw[ht]
     show 0 < n
     omega)
   exact⟨x',aAA hi.ok Nf hinv.ok hinv.wt h1,h2⟩
end
end
section
section
variable{s:aC}{X:bM}
theorem aG3(hm:s.made){c:Nat}{ck:eG}(hc:s.aF[c]? =some ck)(lT:qY s c)(hX:hasB X.c c=true):
  ∀(n:Nat) (x:aO) (y:eS),Inv s X none (some c) none x→x.ck[c]? =some y→y.left.toNat < n→
   ∃x',xL s 99 c n x x'∧Inv s X none none none x'
 | 0,_,_,_,_,h=>absurd h (by omega)
 | n + 1, x, y, hi, hy, Rj => by
  have hlt:=(List.getElem?_eq_some_iff.1 hc).1
  have Ww:=(List.getElem?_eq_some_iff.1 hy).1
  have hl:=hi.ok.ck.left y (List.mem_of_getElem? hy)
  have aBq:ck.kind=112∨ck.kind=103:=by rw[←Jv hc];exact lT
  obtain⟨f,fs,hs,hf⟩:=aGj hm hc lT
  have jU:=Zd hm.aF hc
  rw[hs] at jU;dsimp only at jU;rw[Int.toNat_natCast] at jU
  have aP5:c∉fZ s f:=fun h=>by have:=aBI hm h;omega
  have tK:(lD s x.ck c true).2=x.ck.set c ⟨true,y.left⟩:=by
   unfold lD;rw[show bN s.aF.length (c:Int)=true from decide_eq_true (by omega)];simp only[Bool.true_eq_false,if_false,Int.toNat_natCast,hc,hy];rw[if_neg (by omega)];simp[Gw]
  have hinv:Inv s X none (some c) none {x with ck:=x.ck.set c ⟨true,y.left⟩}:=by
   refine⟨?_,hi.wt,hi.of,hi.dom,fun i ci yi sA Wg hx hb=>?_,hi.sD,hi.zV,hi.tE,hi.rA⟩
   ·have:=Vs hm.cX hi.ok.ck (c:Int) true
    rw[tK] at this;exact⟨this,hi.ok.dm,hi.ok.ln,hi.ok.dv,hi.ok.each,hi.ok.wt⟩
   ·have hid:c≠i:=fun h=>hb (by rw[h])
    rw[List.getElem?_set_ne hid] at Wg;exact hi.jO i ci yi sA Wg hx hb
  have Aj:(x.ck.set c ⟨true,y.left⟩)[c]? =some ⟨true,y.left⟩:=List.getElem?_set_self Ww
  have yG:runs s (x.ck.set c ⟨true,y.left⟩) f=true:=hinv.src hm hc hs hX (fun j hj=>by cases hj;exact aP5)
  have hrc:qG s (x.ck.set c ⟨true,y.left⟩) c=rR ck ⟨true,y.left⟩:=by
   unfold qG;rw[show bN s.aF.length (c:Int)=true from decide_eq_true (by omega),Int.toNat_natCast,aGx hm.aF hc Aj,hs];dsimp only;rw[Int.toNat_natCast,yG];simp
  have hact:nO s x 99 c=Lc s x c:=rfl
  by_cases mX:rR ck ⟨true,y.left⟩=true
  ·refine⟨{x with ck:=x.ck.set c ⟨true,y.left⟩},aAB hi.ok ?_,?_⟩
   ·rw[hact,Lc,tK,hrc,mX];rfl
   ·refine⟨hinv.ok,hi.wt,hi.of,hi.dom,fun i ci yi sA Wg hx _=>?_,hi.sD,(fun _ h=>by cases h),hi.tE,hi.rA⟩
    by_cases hid:i=c
    ·subst hid;cases hc.symm.trans sA;cases Aj.symm.trans Wg;refine⟨rfl,fun aEc=>?_⟩;unfold rR at mX;rw[if_pos aEc] at mX
     simpa using mX
    ·exact hinv.jO i ci yi sA Wg hx (by simp[Ne.symm hid])
  ·have aEc:ck.kind=112∧y.left≠0:=by
    unfold rR at mX;rcases aBq with h | h
    ·rw[if_pos h] at mX;exact⟨h,by simpa using mX⟩
    ·rw[if_neg (by omega),if_pos h] at mX;exact absurd rfl mX
   have aPr:rR ck ⟨true,y.left⟩=false:=by simpa using mX
   obtain⟨cf,Na⟩:=get_some (l:=s.aF) (i:=f) (by omega)
   have aQe:=Zd hm.aF Na
   have Nf:nO s x 99 c=({x with ck:=x.ck.set c ⟨true,y.left⟩},false):=by
    rw[hact,Lc,tK,hrc,aPr,jU,aQe]
    have h1:qG s (x.ck.set c ⟨true,y.left⟩) (f:Int)=true:=by
     unfold qG;rw[show bN s.aF.length (f:Int)=true from decide_eq_true (by omega),Int.toNat_natCast,yG];rfl
    simp[h1]
   have pT:Pz ck=f:=by
    unfold Pz;rw[hs];simp
   have Ra:(iQ s {x with ck:=x.ck.set c ⟨true,y.left⟩} 0).ck[c]? =some ⟨true,y.left - 1⟩:=by
    show(lR s (x.ck.set c ⟨true,y.left⟩))[c]? =_
    rw[aL8 hc Aj];unfold vM;rw[if_pos ⟨aEc.1,rfl⟩,pT,yG,if_neg (by simp),if_pos (by show 0 < y.left;omega)]
   obtain⟨x',h1,h2⟩:=aG3 hm hc lT hX n _ _ (hinv.tick hm) Ra (by dsimp only;omega);exact⟨x',aAA hi.ok Nf hinv.ok hinv.wt h1,h2⟩
end
section
variable{s:aC}{X:bM}{m:List Int}
def Ca(s:aC)(X:bM)(l k id:Int)(m:List Int):bY:=⟨X,dQ s,1,0,m,[],l,-1,k,id⟩
theorem aKJ{l k id:Int}:oH (rP s X l k id) 0 m=(0,Ca s X l k id m):=by simp[oH,bN,rP,Ca]
theorem aCw{l k id:Int}(hl:l=0∨l=1):sP (Ca s X l k id m)=some 0:=by
 rcases hl with rfl | rfl<;>rfl
theorem aKK{l k id:Int}(hm:s.made)(hX:X.of s)(hp:Plain m)(hl:l=0∨l=1):Dy s (Ca s X l k id m):=by
 obtain⟨h1,h2,h3,h4,h5,h6,h7⟩:=aF5 (k:=k) (id:=id) hm hX hp;exact⟨hl,h2,h3,h4,h5,h6,h7⟩
theorem aLW{n:Nat}{x x':aO}{l k0 i0 k id:Int}{a:List Int}{z':bY}(hm:s.made)(hX:X.of s)(hp:Plain m)(hl:l=0∨l=1)(hok:cF s x)(aDU:jK s X (dQ s) (mB s x) 0 m=(0,k,id))(Kh:k≠0)(hk:Dw s k id)
  (h:Tr s (n+1) (vI s (jZ X 0 k id) m k id) x a z' x'):Tr s (n+1) (Ca s X l k0 i0 m) x a z' x':=by
 have hd:gI s x (Ca s X l k0 i0 m) 0=(0,k,id):=aDU
 have mR:mW s x (Ca s X l k0 i0 m)=(vI s (jZ X 0 k id) m k id,true):=by
  unfold mW;rw[aCw hl];dsimp only;unfold wS;dsimp only;rw[hd,if_neg Kh];rfl
 have hst:lB s x (Ca s X l k0 i0 m)=lB s x (vI s (jZ X 0 k id) m k id):=by
  rw[aCL];unfold lB;dsimp only;rw[mR,if_neg (by simp),if_pos (show(Ca s X l k0 i0 m).at_ < 0 from(by show(-1:Int) < 0;decide))];rfl
 obtain⟨_,h2⟩:=h;refine⟨⟨hok,aKK hm hX hp hl,.inl (by show(-1:Int) < 0;decide),fun _ a ha h0=>?_,fun _ a ha h0=>?_⟩,?_⟩
 ·rw[aCw hl] at ha;cases ha;rw[hd] at h0;exact absurd h0 Kh
 ·rw[aCw hl] at ha;cases ha;rw[hd];exact⟨hk,hp.rep⟩
 ·rw[hst];exact h2
structure aFp(m p tk:Int):Prop where
 pk:(eB m 0 p tk).2=0
 un:uG (eB m 0 p tk).1=0
 ty:Fo (eB m 0 p tk).1=0
 pr:eF (eB m 0 p tk).1=p
 ms:eM (eB m 0 p tk).1=m
 z4:bZ (eB m 0 p tk).1 28 4=0
 zp:bZ (eB m 0 p tk).1 10 8=p
 zm:bZ (eB m 0 p tk).1 0 8=m
theorem aOf{m p tk i v:Int}(h:aFp m p tk)(hmp:m=4∨m=7)(hi:0≤i∧i < 4294967296)(hv:0≤v∧v < 4294967296):Plain [(eB m 0 p tk).1,i,v]:=by
 refine⟨fun y hy=>?_,by simp,⟨⟨_,_,rfl,h.z4,fun hh=>?_⟩⟩,fun s x=>?_⟩
 ·simp at hy;rcases hy with rfl | rfl | rfl
  ·exact aNH _ _ _ _
  ·exact hi
  ·exact hv
 ·rw[h.zp,h.zm] at hh;omega
 ·unfold uX mH;simp only[List.headD_cons,h.zp,h.zm];rw[if_pos trivial,if_neg (by omega),if_neg (by omega),if_neg (by omega),if_neg (by omega)]
theorem Rw{l:List Bool}{i:Nat}(hi:i < l.length)(j:Nat):hasB (kV l i true) j=if j=i then true else hasB l j:=by
 rw[kV,if_pos ⟨by omega,by omega⟩,Int.toNat_natCast,Fk,Fk,List.getElem?_set]
 by_cases h:i=j
 ·subst h;rw[if_pos rfl,if_pos hi,if_pos rfl];rfl
 ·rw[if_neg h,if_neg (Ne.symm h)]
end
end
section
section
variable{s:aC}{X:bM}{x:aO}{l k0 i0:Int}
def Uh(X:bM)(d:Nat):bM:=⟨kV X.d d true,X.c,X.l⟩
def wsC(X:bM)(c:Nat):bM:=⟨X.d,kV X.c c true,X.l⟩
def wsL(X:bM)(r:Nat):bM:=⟨X.d,X.c,kV X.l r true⟩
theorem Inv.rest(hi:Inv s X none none none x):∀(i:Nat) (p:cO×dL),x.dv[i]? =some p→p.2.at_≠1:=fun i p hp=>by
 obtain⟨d,hd⟩:=get_some (l:=s.aD) (i:=i) (by have:=(List.getElem?_eq_some_iff.1 hp).1;have:=hi.ok.dv;omega)
 have:=(hi.rA i p d hp hd).1
 simp at this;omega
theorem aQz(hm:s.made)(hi:Inv s X none none none x){d:Nat}{c:Dom}(hc:s.domains[d]? =some c)(hab:c.above= -1∨(0≤c.above∧hasB X.d c.above.toNat=true))(hh:hasB X.d d=false):∃x',xL s 117 d (8+1) x x'∧Inv s (Uh X d) none none none x':=by
 have hlt:=(List.getElem?_eq_some_iff.1 hc).1
 have hX:=hi.of
 have jB:d < X.d.length:=by rw[hX.d];exact hlt
 have hXd:hasB (Uh X d).d d=true:=by
  show hasB (kV X.d d true) d=true
  rw[Rw jB,if_pos rfl]
 have hfit:=(hm.domains d c hc).1
 have aQr:c.above= -1∨(0≤c.above∧hasB (Uh X d).d c.above.toNat=true):=by
  rcases hab with h | ⟨h0,h3⟩
  ·exact .inl h
  ·refine .inr ⟨h0,?_⟩
   show hasB (kV X.d d true) _=true
   rw[Rw jB,if_neg (by omega)];exact h3
 have hinv:Inv s (Uh X d) (some d) none none x:=by
  refine⟨hi.ok,hi.wt,⟨by show(kV _ _ _).length=_;rw[Cl];exact hX.d,hX.c,hX.l⟩,fun i m' hi' hb=>?_,hi.jO,hi.sD,(fun _ h=>by cases h),hi.tE,fun i p dd hp' dR=>?_⟩
  have hid:i≠d:=fun h=>hb (by rw[h])
  have:hasB (Uh X d).d i=hasB X.d i:=by
   show hasB (kV X.d d true) i=_
   rw[Rw jB,if_neg hid]
  rw[this];exact hi.dom i m' hi' (by simp)
  ·obtain⟨h2,h3⟩:=hi.rA i p dd hp' dR;refine⟨by simp at h2;omega,fun h4 h5=>h3 ?_ (by simp)⟩
   have h6:dd.domain.toNat≠d:=fun h=>h5 (by rw[h])
   have h7:hasB (kV X.d d true) dd.domain.toNat=true:=h4
   rw[Rw jB,if_neg h6] at h7;exact h7
 obtain⟨y,hy⟩:=get_some (l:=x.dm) (i:=d) (by have:=hi.ok.dm.len;omega)
 have mJ:=(hi.dom d y hy (by simp)).2 hh
 have Rj:zW y < 8+1:=by
  unfold zW;rw[if_neg (by omega),if_neg (by omega),if_neg (by omega)];omega
 exact aCQ hm hc hXd aQr (8+1) x y hinv (hi.rest) hy (by omega) Rj
theorem aQ0(hm:s.made)(hi:Inv s X none none none x){r:Nat}(hlt:r < s.aR.length)(hh:hasB X.l r=false):∃x',xL s 114 r (8+1) x x'∧Inv s (wsL X r) none none none x':=by
 have hX:=hi.of
 have iD:r < X.l.length:=by rw[hX.l];exact hlt
 have jA:∀j,hasB (wsL X r).l j=if j=r then true else hasB X.l j:=fun j=>Rw iD j
 have hinv:Inv s (wsL X r) none none (some r) x:=by
  refine⟨hi.ok,hi.wt,⟨hX.d,hX.c,by show(kV _ _ _).length=_;rw[Cl];exact hX.l⟩,hi.dom,hi.jO,hi.sD,(fun _ h=>by cases h),fun i y hy hx hb=>?_,hi.rA⟩
  have hid:i≠r:=fun h=>hb (by rw[h])
  rw[jA,if_neg hid] at hx;exact hi.tE i y hy hx (by simp)
 obtain⟨y,hy⟩:=get_some (l:=x.ln) (i:=r) (by have:=hi.ok.ln.len;omega)
 have hyl:=hi.ok.ln.left y (List.mem_of_getElem? hy)
 exact aG0 hm hlt (8+1) x y hinv hy (by split<;>omega)
theorem aPh(hm:s.made):Inv s (dQ s) none none none (hw0 s):=by
 have h0:∀(n i:Nat),hasB (List.replicate n false) i=false:=fun n i=>by
  rw[Fk,List.getElem?_replicate];split<;>rfl
 refine⟨aHN hm.cX,fun i=>?_,⟨by simp[dQ],by simp[dQ],by simp[dQ]⟩,fun i m hi' _=>⟨fun h=>?_,fun _=>?_⟩,fun i c y _ _ h _=>?_,fun i h=>?_,(fun _ h=>by cases h),fun i y _ h _=>?_,fun i p d hp _=>?_⟩
 ·unfold iS hw0;simp only[List.getElem?_map];cases s.aD[i]? <;>rfl
 ·rw[show hasB (dQ s).d i=false from h0 _ _] at h;cases h
 ·simp only[hw0,List.getElem?_map] at hi';cases hq:s.domains[i]? with
  | none=>rw[hq] at hi';cases hi'
  | some q=>rw[hq] at hi';cases hi';exact .inl rfl
 ·rw[show hasB (dQ s).c i=false from h0 _ _] at h;cases h
 ·rw[show hasB (dQ s).c i=false from h0 _ _] at h;cases h
 ·rw[show hasB (dQ s).l i=false from h0 _ _] at h;cases h
 ·have h1:p.2.at_=0:=by
   simp only[hw0,List.getElem?_map] at hp;cases hq:s.aD[i]? with
   | none=>rw[hq] at hp;cases hp
   | some q=>rw[hq] at hp;cases hp;rfl
  exact⟨.inl h1,fun _ _=>h1⟩
end
end
section
theorem Inv.alive{s:aC}{X:bM}{x:aO}(hm:s.made)(hi:Inv s X none none none x){i:Nat}{d:bQ}(hd:s.aD[i]? =some d)(h1:hasB X.d d.domain.toNat=true)(h2:∀j∈fZ s d.clock.toNat,qY s j→hasB X.c j=true)(h3:hasB X.l d.reset.toNat=true):yY s x i=true:=by
 have hf:=hm.aD i d hd
 obtain⟨f1,f2,f3,f4,f5,f6,_⟩:=hf
 have hrun:qG s x.ck d.clock=true:=by
  unfold qG;rw[show bN s.aF.length d.clock=true from decide_eq_true (by omega)];unfold runs;rw[Bool.true_and,List.all_eq_true];intro j hj
  have hlt:=aBH hj
  obtain⟨c,hc⟩:=get_some hlt;obtain⟨y,hy⟩:=get_some (l:=x.ck) (i:=j) (by have:=hi.ok.ck.len;omega);unfold Pr;rw[hc,hy];dsimp only;unfold rR
  by_cases k1:c.kind=112
  ·rw[if_pos k1];obtain⟨k2,k3⟩:=hi.jO j c y hc hy (h2 j hj (.inl (by rw[Jv hc];exact k1))) (by simp);rw[k2,k3 k1];rfl
  ·rw[if_neg k1]
   by_cases k4:c.kind=103
   ·rw[if_pos k4];exact(hi.jO j c y hc hy (h2 j hj (.inr (by rw[Jv hc];exact k4))) (by simp)).1
   ·rw[if_neg k4]
 obtain⟨m,Rk⟩:=get_some (l:=x.dm) (i:=d.domain.toNat) (by have:=hi.ok.dm.len;omega)
 have mJ:rW x.dm d.domain=49:=by
  have:=Vq Rk
  rw[show((d.domain.toNat:Nat):Int)=d.domain by omega] at this;rw[this];exact(hi.dom _ m Rk (by simp)).1 h1
 obtain⟨y,hy⟩:=get_some (l:=x.ln) (i:=d.reset.toNat) (by have:=hi.ok.ln.len;omega)
 have aBs:Au x.ln d.reset=false:=by
  unfold Au;rw[show bN x.ln.length d.reset=true from decide_eq_true (by have:=hi.ok.ln.len;omega),hy];exact hi.tE _ y hy h3 (by simp)
 unfold yY;rw[hd];dsimp only;rw[hrun,mJ,aBs];rfl
theorem Inv.state{s:aC}{X:bM}{x:aO}(hi:Inv s X none none none x){i:Nat}{d:bQ}(hd:s.aD[i]? =some d)(h1:hasB X.d d.domain.toNat=true):uI x i=114:=by
 have hlt:=(List.getElem?_eq_some_iff.1 hd).1
 obtain⟨p,hp⟩:=get_some (l:=x.dv) (i:=i) (by have:=hi.ok.dv;omega);unfold uI;rw[hp]
 show qJ p.2.at_=114
 rw[(hi.rA i p d hp hd).2 h1 (by simp)];rfl
end
section
def aAh(s:aC)(A:aO→aO×Bool):Nat→aO→aO→Prop
 | 0,_,_=>False
 | n+1,x,x'=>cF s x∧(A x=(x',true)∨∃x1,A x=(x1,false)∧cF s x1∧(∀i,iS x1.wt i=0)∧aAh s A n (iQ s x1 0) x')
def Ug(X:bM)(d:Nat):bM:=⟨kV X.d d false,X.c,X.l⟩
section
variable{s:aC}{X:bM}{x:aO}{D:Nat}
theorem aIt{l:List Bool}{i:Nat}(hi:i < l.length)(j:Nat):hasB (kV l i false) j=if j=i then false else hasB l j:=by
 rw[kV,if_pos ⟨by omega,by omega⟩,Int.toNat_natCast,Fk,Fk,List.getElem?_set]
 by_cases h:i=j
 ·subst h;rw[if_pos rfl,if_pos hi,if_pos rfl];rfl
 ·rw[if_neg h,if_neg (Ne.symm h)]
theorem aD9{x:aO}{D:Int}{n i:Nat}{p':cO×dL}{d:bQ}(hd:s.aD[i]? =some d)(h:(jJ s x D n)[i]? =some p'):∃p,x.dv[i]? =some p∧p'.2=if i < n∧d.domain=D then(if p.2.at_=3 then(nU p.2).2 else if p.2.at_=0 then(sE p.2).2 else p.2) else p.2:=by
 rw[jJ,List.getElem?_mapIdx] at h;cases hq:x.dv[i]? with
 | none=>rw[hq] at h;cases h
 | some q =>
  rw[hq] at h;simp only[Option.map_some,Option.some.injEq] at h;refine⟨q,rfl,?_⟩;subst h
  by_cases h1:i < n
  ·rw[if_pos h1];unfold Hf;rw[hd];dsimp only
   by_cases h2:d.domain=D
   ·rw[if_pos h2,if_pos (show i < n∧d.domain=D from⟨h1,h2⟩)]
   ·rw[if_neg h2,if_neg fun h=>h2 h.2]
  ·rw[if_neg h1,if_neg fun h=>h1 h.1]
theorem Inv.aHO(hm:s.made)(hi:Inv s X (some D) none none x):Inv s X (some D) none none {x with dv:=jJ s x D s.aD.length}:=by
 refine⟨aBi hm.cX hi.ok _ _,hi.wt,hi.of,hi.dom,hi.jO,hi.sD,hi.zV,hi.tE,fun i p' dd hp' dR=>?_⟩
 have aDM:=(List.getElem?_eq_some_iff.1 dR).1
 obtain⟨p0,h0,h1⟩:=aD9 dR hp';obtain⟨h2,h3⟩:=hi.rA i p0 dd h0 dR;rw[h1]
 by_cases hD:dd.domain=(D:Int)
 ·rw[if_pos ⟨aDM,hD⟩]
  have hDn:dd.domain.toNat=D:=by omega
  refine⟨?_,fun _ h=>absurd (by rw[hDn]) h⟩;rw[if_neg (by omega)];split
  ·rename_i h4
   refine .inr (.inr ⟨?_,by rw[hDn]⟩);unfold sE;rw[if_neg (by omega)]
  ·exact h2
 ·rw[if_neg fun h=>hD h.2];exact⟨h2,h3⟩
theorem Inv.begin(hi:Inv s X none none none x)(D:Nat):Inv s X (some D) none none x:=
 ⟨hi.ok,hi.wt,hi.of,fun i m h _=>hi.dom i m h (by simp),hi.jO,hi.sD,hi.zV,hi.tE,fun i p d hp hd=>by
  obtain⟨h1,h2⟩:=hi.rA i p d hp hd;refine⟨?_,fun h3 _=>h2 h3 (by simp)⟩;simp at h1
  omega⟩
theorem Inv.off(hi:Inv s X (some D) none none x)(hD:D < s.domains.length)(mJ:∀y,x.dm[D]? =some y→y.phase=48∨y.phase=116)(hno:∀(i:Nat) (p:cO×dL),x.dv[i]? =some p→p.2.at_≠1):Inv s (Ug X D) none none none x:=by
 have hX:=hi.of
 have jB:D < X.d.length:=by rw[hX.d];exact hD
 have jA:∀j,hasB (Ug X D).d j=if j=D then false else hasB X.d j:=fun j=>aIt jB j
 refine⟨hi.ok,hi.wt,⟨by show(kV _ _ _).length=_;rw[Cl];exact hX.d,hX.c,hX.l⟩,fun i m hm' _=>?_,hi.jO,hi.sD,hi.zV,hi.tE,fun i p d hp hd=>?_⟩
 ·rw[jA]
  by_cases h:i=D
  ·subst h;rw[if_pos rfl];exact⟨(fun h=>by cases h),fun _=>mJ m hm'⟩
  ·rw[if_neg h];exact hi.dom i m hm' fun h'=>h (Option.some.inj h').symm
 ·obtain⟨h1,h2⟩:=hi.rA i p d hp hd
  have h3:=hno i p hp
  refine⟨by omega,fun h4 _=>?_⟩;rw[jA] at h4
  by_cases h:d.domain.toNat=D
  ·rw[if_pos h] at h4;cases h4
  ·rw[if_neg h] at h4;exact h2 h4 fun h'=>h (Option.some.inj h').symm
theorem Inv.down(hm:s.made)(hi:Inv s X (some D) none none x){y:fH}(hy:x.dm[D]? =some y)(keep:Bool):Inv s X (some D) none none {x with dm:=x.dm.set D ⟨99,y.left,y.kept,keep⟩}:=by
 have hlt:=(List.getElem?_eq_some_iff.1 hy).1
 refine⟨⟨hi.ok.ck,⟨by simp[hi.ok.dm.len],fun z hz=>?_,fun z hz=>?_⟩,hi.ok.ln,hi.ok.dv,hi.ok.each,hi.ok.wt⟩,hi.wt,hi.of,fun i m' hi' hb=>?_,hi.jO,hi.sD,hi.zV,hi.tE,hi.rA⟩
 ·rcases List.mem_or_eq_of_mem_set hz with hz | rfl
  ·exact hi.ok.dm.left z hz
  ·exact hi.ok.dm.left y (List.mem_of_getElem? hy)
 ·rcases List.mem_or_eq_of_mem_set hz with hz | rfl
  ·exact hi.ok.dm.phase z hz
  ·exact⟨by show(0:Int)≤99;omega,by show(99:Int) < 256;omega⟩
 ·have hid:D≠i:=fun h=>hb (by rw[h])
  rw[List.getElem?_set_ne hid] at hi';exact hi.dom i m' hi' hb
theorem aGX{n:Nat}:Cs s x (D:Int) n=true↔∀(i:Nat) (p:cO×dL) (d:bQ),i < n→x.dv[i]? =some p→s.aD[i]? =some d→d.domain=(D:Int)→p.2.at_=2:=by
 unfold Cs;rw[List.all_eq_true];constructor
 ·intro h i p d hi hp hd hD
  have:=h i (List.mem_range.2 hi)
  unfold Qc at this;rw[hd,hp] at this
  simpa[hD] using this
 ·intro h i hi
  have hi:=List.mem_range.1 hi
  unfold Qc;split
  ·rename_i d p hd hp
   by_cases hD:d.domain=(D:Int)
   ·rw[h i p d hi hp hd hD];simp
   ·simp[hD]
  ·rfl
theorem aOu(hm:s.made)(hi:Inv s X (some D) none none x)(hno:∀(j:Nat) (cj:Dom),s.domains[j]? =some cj→cj.above=(D:Int)→hasB X.d j=false):Fm s x.dm (D:Int)=false:=by
 unfold Fm;rw[Bool.eq_false_iff];intro h;rw[List.any_eq_true] at h;obtain⟨b,hb,h1⟩:=h;obtain⟨j,hj⟩:=List.getElem?_of_mem hb;rw[List.getElem?_zipWith] at hj;cases hc:s.domains[j]? with
 | none=>rw[hc] at hj;simp at hj
 | some cj =>
  cases hy:x.dm[j]? with
  | none=>rw[hc,hy] at hj;simp at hj
  | some yj=>
   rw[hc,hy] at hj;simp only[Option.some.injEq] at hj;subst hj;unfold Hw at h1;simp only[id_eq,Bool.and_eq_true,decide_eq_true_eq,Bool.not_eq_true'] at h1
   have hlt:=(hm.domains j cj hc).1
   have h2:=(hi.dom j yj hy (by simp;omega)).2 (hno j cj hc h1.1)
   have h3:=h1.2
   unfold Kv at h3;simp at h3;omega
theorem aG1(hm:s.made){c:Dom}(hc:s.domains[D]? =some c)(keep:Bool)(hkeep:keep=true→c.ret=true)(hi:Inv s X (some D) none none x)(hno:∀(j:Nat) (cj:Dom),s.domains[j]? =some cj→cj.above=(D:Int)→hasB X.d j=false){y:fH}(hy:x.dm[D]? =some y)(mJ:y.phase=49)(hq:Cs s x (D:Int) s.aD.length=true)(h1:∀(i:Nat) (p:cO×dL),x.dv[i]? =some p→p.2.at_≠1):
  ∃x',aAh s (fun x=>uK s x (D:Int) keep) 2 x x'∧Inv s (Ug X D) none none none x'∧∀(i:Nat) (p:cO×dL) (d:bQ),x'.dv[i]? =some p→s.aD[i]? =some d→d.domain=(D:Int)→p.2.at_=2:=by
 have hlt:=(List.getElem?_eq_some_iff.1 hy).1
 have hlD:=(List.getElem?_eq_some_iff.1 hc).1
 have Wq:=Vq hy
 have aPL:(wB s x.dm (D:Int) keep).2=x.dm.set D ⟨99,y.left,y.kept,keep⟩:=by
  unfold wB;rw[show bN x.dm.length (D:Int)=true from decide_eq_true (by omega)];simp only[Bool.true_eq_false,if_false,Int.toNat_natCast,hc,hy];rw[if_neg (by omega),if_neg (fun h=>by rw[hkeep h.1] at h;simp at h),aOu hm hi hno];simp
 have hA:uK s x (D:Int) keep=({x with dv:=jJ s x (D:Int) s.aD.length,dm:=x.dm.set D ⟨99,y.left,y.kept,keep⟩},false):=by
  unfold uK;rw[Wq,if_pos mJ,hq,aPL];simp
 have hi1:=hi.aHO hm
 have hi2:Inv s X (some D) none none {x with dv:=jJ s x (D:Int) s.aD.length,dm:=x.dm.set D ⟨99,y.left,y.kept,keep⟩}:=hi1.down hm hy keep
 have hi3:=hi2.tick hm
 have uU:∀(i:Nat) (p:cO×dL) (d:bQ),(jJ s x (D:Int) s.aD.length)[i]? =some p→s.aD[i]? =some d→p.2.at_≠1∧(d.domain=(D:Int)→p.2.at_=2):=fun i p d hp hd=>by
  have Kg:=(List.getElem?_eq_some_iff.1 hd).1
  obtain⟨p0,h0,h2⟩:=aD9 hd hp
  by_cases hD:d.domain=(D:Int)
  ·have h3:=aGX.1 hq i p0 d Kg h0 hd hD
   rw[h2,if_pos (show i < s.aD.length∧d.domain=(D:Int) from⟨Kg,hD⟩),if_neg (by omega),if_neg (by omega)];exact⟨by omega,fun _=>h3⟩
  ·rw[h2,if_neg fun h=>hD h.2];exact⟨h1 i p0 h0,fun h=>absurd h hD⟩
 generalize tG:({x with dv:=jJ s x (D:Int) s.aD.length,dm:=x.dm.set D ⟨99,y.left,y.kept,keep⟩}:aO)=x2 at hA hi2 hi3
 have Xi:x2.dv=jJ s x (D:Int) s.aD.length:=by rw[←tG]
 have Aj:x2.dm[D]? =some ⟨99,y.left,y.kept,keep⟩:=by
  rw[←tG];exact List.getElem?_set_self hlt
 have Ra:(iQ s x2 0).dm[D]? =some (gA ⟨99,y.left,y.kept,keep⟩).2:=by simp only[iQ,oU,List.getElem?_map,Aj,Option.map_some]
 have aHY:(gA ⟨99,y.left,y.kept,keep⟩).2.phase=48∨(gA ⟨99,y.left,y.kept,keep⟩).2.phase=116:=by
  unfold gA;cases keep
  ·exact .inl rfl
  ·exact .inr rfl
 have Ez:∀(i:Nat) (p:cO×dL),(iQ s x2 0).dv[i]? =some p→p.2.at_≠1∧∀d:bQ,s.aD[i]? =some d→d.domain=(D:Int)→p.2.at_=2:=fun i p hp=>by
  obtain⟨p0,h0,h2,_⟩:=aA5 hp;rw[Xi] at h0
  obtain⟨d,hd⟩:=get_some (l:=s.aD) (i:=i) (by
   have:=(List.getElem?_eq_some_iff.1 h0).1
   have:=hi.ok.dv
   simp[jJ] at *
   omega)
  obtain⟨h3,h4⟩:=uU i p0 d h0 hd;rw[h2 h3]
  exact⟨h3,fun d' hd' hD=>by
   cases hd.symm.trans hd'
   exact h4 hD⟩
 have hA3:uK s (iQ s x2 0) (D:Int) keep=(iQ s x2 0,true):=by
  unfold uK;rw[Vq Ra,if_neg (by omega),if_pos aHY]
 refine⟨iQ s x2 0,⟨hi.ok,.inr ⟨x2,hA,hi2.ok,hi2.wt,hi3.ok,.inl hA3⟩⟩,hi3.off hlD (fun z hz=>?_) (fun i p hp=>(Ez i p hp).1),fun i p d hp hd hD=>(Ez i p hp).2 d hd hD⟩;cases Ra.symm.trans hz;exact aHY
theorem aMt(hm:s.made){c:Dom}(hc:s.domains[D]? =some c)(keep:Bool)(hkeep:keep=true→c.ret=true)(hi:Inv s X none none none x)(hX:hasB X.d D=true)(hno:∀(j:Nat) (cj:Dom),s.domains[j]? =some cj→cj.above=(D:Int)→hasB X.d j=false):
  ∃(N:Nat) (x':aO),N≤3∧aAh s (fun x=>uK s x (D:Int) keep) N x x'∧Inv s (Ug X D) none none none x'∧∀(i:Nat) (p:cO×dL) (d:bQ),x'.dv[i]? =some p→s.aD[i]? =some d→d.domain=(D:Int)→p.2.at_=2:=by
 have hlD:=(List.getElem?_eq_some_iff.1 hc).1
 obtain⟨y,hy⟩:=get_some (l:=x.dm) (i:=D) (by have:=hi.ok.dm.len;omega)
 have mJ:=(hi.dom D y hy (by simp)).1 hX
 have hb:=hi.begin D
 cases hq:Cs s x (D:Int) s.aD.length
 ·have hA:uK s x (D:Int) keep=({x with dv:=jJ s x (D:Int) s.aD.length},false):=by
   unfold uK;rw[Vq hy,if_pos mJ,hq];simp
  have hi1:=hb.aHO hm
  have hi2:=hi1.tick hm
  have Aj:(iQ s {x with dv:=jJ s x (D:Int) s.aD.length} 0).dm[D]? =some y:=by
   simp only[iQ,oU,List.getElem?_map,hy,Option.map_some];rw[aGa (.inl mJ)]
  have Ez:∀(i:Nat) (p:cO×dL),(iQ s {x with dv:=jJ s x (D:Int) s.aD.length} 0).dv[i]? =some p→p.2.at_≠1∧∀d:bQ,s.aD[i]? =some d→d.domain=(D:Int)→p.2.at_=2:=fun i p hp=>by
   have Kg:i < s.aD.length:=by
    obtain⟨p0,h0,_⟩:=aA5 hp
    have:=(List.getElem?_eq_some_iff.1 h0).1
    have:=hi1.ok.dv
    dsimp only at *;omega
   obtain⟨p0,h0,h2,h3⟩:=aFY hi1.wt Kg hp;obtain⟨d,hd⟩:=get_some Kg;obtain⟨p1,h4,h5⟩:=aD9 hd h0;obtain⟨h6,h7⟩:=hi.rA i p1 d h4 hd
   have h8:=hi.rest i p1 h4
   by_cases hD:d.domain=(D:Int)
   ·have hDn:d.domain.toNat=D:=by omega
    have h9:=h7 (by rw[hDn];exact hX) (by simp)
    rw[if_pos (show i < s.aD.length∧d.domain=(D:Int) from⟨Kg,hD⟩),if_neg (by omega),if_pos h9] at h5
    have h10:p0.2.at_=1:=by
     rw[h5];unfold sE;rw[if_neg (by omega)]
    have h11:=h3 h10
    exact⟨by omega,fun _ _ _=>h11⟩
   ·rw[if_neg fun h=>hD h.2] at h5
    have h10:p0.2.at_≠1:=by rw[h5];exact h8
    rw[h2 h10]
    exact⟨h10,fun d' hd' Xv=>by
     cases hd.symm.trans hd'
     exact absurd Xv hD⟩
  obtain⟨x',h1,h2,h3⟩:=aG1 hm hc keep hkeep hi2 hno Aj mJ (aGX.2 fun i p d _ hp hd hD=>(Ez i p hp).2 d hd hD) (fun i p hp=>(Ez i p hp).1);exact⟨3,x',by omega,⟨hi.ok,.inr ⟨_,hA,hi1.ok,hi1.wt,h1⟩⟩,h2,h3⟩
 ·obtain⟨x',h1,h2,h3⟩:=aG1 hm hc keep hkeep hb hno hy mJ hq hi.rest;exact⟨2,x',by omega,h1,h2,h3⟩
end
end
section
section
variable{P:Program}{ops:Array Oper}{Q:Exit→Act→World→Prop}{N:cH}{w0:World}{e e':Env}{R R':List Piece}{H H':List HP}{rest:List Oper}{d:Nat}{ty:TypeId}{pos:String}{aH:Array Edge}
def isIface(P:Program)(t:TypeId):Bool:=match P.underlying t with
 | some (.interface _)=>true
 | _=>false
def aHq(P:Program)(t:TypeId):Bool:=match P.underlying t with
 | some (.interface _)=>false
 | some _=>true
 | none=>false
theorem Sm{x:Operand}{t:TypeId}{v:Value}(hx:e.ev x=some v)(ht:aHq P t=true:=by kernel_rfl):bR P N w0 e R H ⟨some d,.makeInterface t x,ty,pos,aH,none⟩ (.iface t v):=iN fun a w hr=>by
 unfold aHq at ht;cases hu:P.underlying t with
 | none=>rw[hu] at ht;cases ht
 | some u=>cases u<;>first | (rw[hu] at ht;cases ht;done) | simp[execOp,hr.ev hx,Instr.makeInterface,run_underlying hu]
theorem aMr(w:World)(n:Nat)(t:TypeId){f:Array (String×TypeId)}(hu:P.underlying t=some (.interface f)):(Op.equalIn (n+1) t .nilIface .nilIface).run P w=.ok true w:=by simp[Op.equalIn,run_underlying hu]
theorem aMo(w:World)(n:Nat)(t:TypeId){f:Array (String×TypeId)}(u:TypeId)(v:Value)(hu:P.underlying t=some (.interface f)):(Op.equalIn (n+1) t (.iface u v) .nilIface).run P w=.ok false w:=by simp[Op.equalIn,run_underlying hu]
theorem aJa{x:Operand}{t u:TypeId}{v:Value}{b:Bool}(hx:e.ev x=some v)(hv:(v=.nilIface∧b=true)∨(∃u y,v=.iface u y)∧b=false)(ht:isIface P t=true:=by kernel_rfl):bR P N w0 e R H ⟨some d,.binOp .eql t x (.const .nilIface) u,ty,pos,aH,none⟩ (.bool b):=iN fun a w hr=>by
 have h2:=hr.ev (show e.ev (.const .nilIface)=some .nilIface from rfl)
 unfold isIface at ht;split at ht
 ·rename_i f1 hu
  rcases hv with⟨rfl,rfl⟩ | ⟨⟨u,y,rfl⟩,rfl⟩
  ·have h4:(Op.equal t .nilIface .nilIface).run P w=.ok true w:=aMr w 9999 t hu
   simp[execOp,hr.ev hx,h2,eqGuard,binOp,h4]
  ·have h4:(Op.equal t (.iface u y) .nilIface).run P w=.ok false w:=aMo w 9999 t u y hu
   simp[execOp,hr.ev hx,h2,eqGuard,binOp,h4]
 ·cases ht
theorem aFB(i:Nat){dst:Option Nat}{e':Env}{f:FuncId}{x:Operand}{name:String}{args:List Operand}{vs:List Value}{tys:Array TypeId}{tx:TypeId}{u u':Value}{p:HP}{v:Value}(q:HP)(hf:fI P f=true)(hx:e.ev x=some (.iface tx u))(hm:∀w,(method (P.types.size+Made.depth) tx u name).run P w=.ok (f,u') w)(ha:e.fY args=some vs)(hi:H[i]? =some p)
  (hd:match dst with | some d=>d < N.n∧e'=(d,v)::e | none=>e'=e)
  (hc:∀w F,St w0 R H w→p.sat F w→(∀b,F b→b < w.heap.size)→(∀q∈R,q.Le ⟨w,fun b=>b < w.heap.size∧¬F b⟩)→Calls P f (u'::vs).toArray w fun y w'=>y=.returned v∧∃F',q.sat F' w'∧iH w w' F F')
  (k:XK N w0 (wpList P ops Q rest) e' R (H.set i q)):XK N w0 (wpList P ops Q (⟨dst,.call {callee:=.invoke x name,args:=args.toArray,argTypes:=tys},ty,pos,aH,none⟩::rest)) e R H:=fun a w hr st=>wpList_plain rfl fun K hK=>by
 unfold fI at hf;cases hq:P.funcs[f]? with
 | none=>simp[hq] at hf
 | some fn =>
  simp[hq] at hf;obtain⟨gQ,nX⟩:=hf
  have hrun:(execOp a.eval (⟨dst,.call {callee:=.invoke x name,args:=args.toArray,argTypes:=tys},ty,pos,aH,none⟩:Oper)).run P w=.ok (.enter f (u'::vs).toArray) w:=by
   cases hb:fn.body with
   | none=>simp[hb] at nX
   | some c=>
    have h0:(#[Value.iface tx u]++(args.toArray.map a.eval))[0]? =some (.iface tx u):=by simp[Array.getElem?_append]
    simp[execOp,resolve,hr.ev hx,invoke,callMethod,hm,callFunc,hq,gQ,hb,hr.fY ha]
  obtain⟨Z,F,hz,cK,hs,dH,dR⟩:=st.ex;unfold Oper.wp;rw[hrun];refine(hc w (F i) st (hs i p hi) (fun b hb=>(dH i b hb).2) (fun q hq b hb=>⟨⟨hz b (cK q hq b hb).1,fun pV=>(dH i b pV).1 (cK q hq b hb).1⟩,(cK q hq b hb).2⟩)).mono fun y w' ⟨hy,F',mI,ht⟩=>?_;subst hy
  have st':St w0 R (H.set i q) w':=by
   have hlt:i < H.length:=by
    rcases Nat.lt_or_ge i H.length with h | h
    ·exact h
    ·rw[List.getElem?_eq_none h] at hi;cases hi
   refine⟨ht.os.trans st.os,ht.tape.trans st.tape,ht.output.trans st.output,Nat.le_trans st.size ht.size,Z,fun j=>if j=i then F' else F j,fun b h=>Nat.lt_of_lt_of_le (hz b h) ht.size,fun p hp b h=>?_,fun j r hj=>?_,fun j b h=>?_,fun j k b lG h=>?_⟩
   ·exact⟨(cK p hp b h).1,(ht.old b (hz b (cK p hp b h).1) (fun pV=>(dH i b pV).1 (cK p hp b h).1)).trans (cK p hp b h).2⟩
   ·rw[List.getElem?_set] at hj;split at hj
    ·rename_i e;subst e
     first | (rw[if_pos hlt] at hj;cases hj) | cases hj
     simpa using mI
    ·rename_i e
     simp only[if_neg (Ne.symm e)];exact r.loc _ _ _ (hs j r hj) (fun b hb=>ht.old b (dH j b hb).2 (dR j i b (Ne.symm e) hb))
   ·dsimp only at h;split at h
    ·refine⟨fun gF=>?_,(ht.new b h).2⟩;rcases(ht.new b h).1 with h | h
     ·exact(dH i b h).1 gF
     ·have:=hz b gF;omega
    ·exact⟨(dH j b h).1,Nat.lt_of_lt_of_le (dH j b h).2 ht.size⟩
   ·dsimp only at h⊢;split at h<;>split
    ·rename_i h1 h2;omega
    ·rename_i e1 e2
     intro hk;rcases(ht.new b h).1 with h | h
     ·exact dR i k b (by omega) h hk
     ·have:=(dH k b hk).2;omega
    ·rename_i e1 e2
     intro hk;rcases(ht.new b hk).1 with hk | hk
     ·exact dR j i b (by omega) h hk
     ·have:=(dH j b h).2;omega
    ·exact dR j k b lG h
  cases dst with
  | none=>dsimp only at hd;subst hd;exact hK _ _ (k _ _ hr st')
  | some d=>dsimp only at hd;obtain⟨hd,rfl⟩:=hd;exact hK _ _ (k _ _ (hr.put hd v) st')
end
end
section
structure Cn where
 l:List (Int×Int)
 gJ:Bool
def qQ(nd:Nat)(c:Cn)(dev:Int):Int×Cn:=if c.gJ then(6,c) else if ¬(0≤dev∧dev < nd) then(4,c) else if 7≤gT c.l dev then(8,c) else(0,⟨Ck c.l dev (IntKind.i64.wrap (gT c.l dev+1)),c.gJ⟩)
def nY(nd:Nat)(c:Cn)(dev:Int):Int×Cn:=if c.gJ then(6,c) else if ¬(0≤dev∧dev < nd) then(4,c) else if gT c.l dev≤0 then(6,c) else(0,⟨Ck c.l dev (IntKind.i64.wrap (gT c.l dev - 1)),c.gJ⟩)
def tQ(c:Cn):Int×Cn:=if c.gJ then(6,c) else(0,⟨c.l,true⟩)
def tR(c:Cn):Int×Cn:=if c.gJ then(0,⟨c.l,false⟩) else(6,c)
def nQ(gc gm:Nat)(v:Value)(c:Cn):HP:=HP.many [HP.aE gc 160 [v,.map (some gm),.bool c.gJ],HP.map gm (sC c.l)]
section
variable{N:cH}{w0:World}{e:Env}{R:List Piece}{H:List HP}{Q:Exit→Act→World→Prop}{ops:Array Oper}{rest:List Oper}{d:Nat}{ty:TypeId}{pos:String}{aH:Array Edge}
theorem Qw{x y:Operand}(i:Nat){r:Nat}{l:List (Int×Int)}{k:Int}(hi:H[i]? =some (HP.map r (sC l)))(kk:XK N w0 (wpList Tryz.prog ops Q rest) ((d,iv (gT l k))::e) R H)(hx:e.ev x=some (.map (some r)):=by rfl)(hy:e.ev y=some (iv k):=by rfl)(hd:d < N.n:=by decide):
  XK N w0 (wpList Tryz.prog ops Q (⟨some d,.lookup 158 x y false,ty,pos,aH,none⟩::rest)) e R H:=by
 refine aAt (kt:=3) (et:=3) (kd:=.i64) (z:=iv 0) (l:=sC l) false (by kernel_rfl) (by kernel_rfl) (by kernel_rfl) hx hy (fun w1 st=>st.map hi) hd ?_;simp only[Bool.false_eq_true,if_false,aH3];exact kk
theorem aHG{x y u:Operand}(i:Nat){r:Nat}{l:List (Int×Int)}{k v:Int}(hi:H[i]? =some (HP.map r (sC l)))(kk:XK N w0 (wpList Tryz.prog ops Q rest) e R (H.set i (HP.map r (sC (Ck l k v)))))(hx:e.ev x=some (.map (some r)):=by rfl)(hy:e.ev y=some (iv k):=by rfl)(hu:e.ev u=some (iv v):=by rfl):
  XK N w0 (wpList Tryz.prog ops Q (⟨none,.mapUpdate 158 x y u,ty,pos,aH,none⟩::rest)) e R H:=by
 refine Jh (kt:=3) (et:=3) (kd:=.i64) (l:=sC l) i (by kernel_rfl) (by kernel_rfl) hi hx hy hu ?_;rw[aHy];exact kk
end
theorem aJh(gc n k:Nat)(A:Option Addr)(dev:Int)(w:World)(h0:fO w gc 0 (.slice A n k)):
  Cz 64 #[pt gc,iv dev] w (Rt (.bool (bN n dev)) w):=by
 refine aN func64 ntmps64 ?_;refine aA ?_;refine bU (t:=7) rfl (fun h=>?_) (fun h=>?_)
 ·refine aA ?_;refine kA (by simp) ?_;unfold bN
  congr 1
  simp;omega
 ·refine aA ?_;refine kA (by simp) ?_
  have:bN n dev=false:=decide_eq_false (by omega)
  rw[this]
section
variable(gc gm n k:Nat)(A:Option Addr)(c:Cn)(w:World)(F:Nat→Prop)
theorem aSt(dev:Int)(hp:(nQ gc gm (.slice A n k) c).sat F w)(hF:∀b,F b→b < w.heap.size):
  Cz 25 #[pt gc,iv dev] w (Wr (iv (qQ n c dev).1) (nQ gc gm (.slice A n k) (qQ n c dev).2) w F):=by
 refine dB func25 ntmps25 hp hF ?_;obtain⟨l,gJ⟩:=c;unfold nQ qQ;dsimp only;refine aZ 0 0 ?_;refine aZ 1 1 ?_;cases gJ
 ·refine aA ?_;refine aU (fun w1 t=>aJh gc n k A dev w1 ((uW (t.aE (i:=1) rfl)).at_ (j:=0) rfl)) ?_
  by_cases hin:0≤dev∧dev < (n:Int)
  ·rw[show bN n dev=true from decide_eq_true hin,if_neg (by simp),if_neg (by simpa using hin)];refine aA ?_;refine Qw 0 rfl ?_;refine dN ?_;refine aA ?_;refine aG rfl (fun h7=>?_) (fun h7=>?_)
   ·rw[if_pos (by omega)];refine aA ?_;refine aM 1 1 ?_;refine aM 0 0 ?_;exact cI 0 hF
   ·rw[if_neg (by omega)];refine aA ?_;refine Qw 0 rfl ?_;refine kd (Nu rfl rfl rfl) ?_;refine aHG 0 rfl ?_;dsimp only[List.set];refine aA ?_;refine aM 1 1 ?_;refine aM 0 0 ?_;exact cI 0 hF
  ·rw[show bN n dev=false from decide_eq_false hin,if_neg (by simp),if_pos (by simpa using hin)];refine aA ?_;refine aM 1 1 ?_;refine aM 0 0 ?_;exact cI 0 hF
 ·rw[if_pos rfl];refine aA ?_;refine aM 1 1 ?_;refine aM 0 0 ?_;exact cI 0 hF
theorem aSr(dev:Int)(hp:(nQ gc gm (.slice A n k) c).sat F w)(hF:∀b,F b→b < w.heap.size):
  Cz 28 #[pt gc,iv dev] w (Wr (iv (nY n c dev).1) (nQ gc gm (.slice A n k) (nY n c dev).2) w F):=by
 refine dB func28 ntmps28 hp hF ?_;obtain⟨l,gJ⟩:=c;unfold nQ nY;dsimp only;refine aZ 0 0 ?_;refine aZ 1 1 ?_;cases gJ
 ·refine aA ?_;refine aU (fun w1 t=>aJh gc n k A dev w1 ((uW (t.aE (i:=1) rfl)).at_ (j:=0) rfl)) ?_
  by_cases hin:0≤dev∧dev < (n:Int)
  ·rw[show bN n dev=true from decide_eq_true hin,if_neg (by simp),if_neg (by simpa using hin)];refine aA ?_;refine Qw 0 rfl ?_;refine dN ?_;refine aA ?_;refine aG rfl (fun h7=>?_) (fun h7=>?_)
   ·rw[if_pos (by omega)];refine aA ?_;refine aM 1 1 ?_;refine aM 0 0 ?_;exact cI 0 hF
   ·rw[if_neg (by omega)];refine aA ?_;refine Qw 0 rfl ?_;refine kd (Nr rfl rfl rfl) ?_;refine aHG 0 rfl ?_;dsimp only[List.set];refine aA ?_;refine aM 1 1 ?_;refine aM 0 0 ?_;exact cI 0 hF
  ·rw[show bN n dev=false from decide_eq_false hin,if_neg (by simp),if_pos (by simpa using hin)];refine aA ?_;refine aM 1 1 ?_;refine aM 0 0 ?_;exact cI 0 hF
 ·rw[if_pos rfl];refine aA ?_;refine aM 1 1 ?_;refine aM 0 0 ?_;exact cI 0 hF
theorem aSp(hp:(nQ gc gm (.slice A n k) c).sat F w)(hF:∀b,F b→b < w.heap.size):
  Cz 26 #[pt gc] w (Wr (iv (tQ c).1) (nQ gc gm (.slice A n k) (tQ c).2) w F):=by
 refine dB func26 ntmps26 hp hF ?_;obtain⟨l,gJ⟩:=c;unfold nQ tQ;dsimp only;refine aZ 0 0 ?_;cases gJ
 ·refine aA ?_;refine aM 0 0 ?_;exact cI 0 hF
 ·refine aA ?_;refine aM 0 0 ?_;exact cI 0 hF
theorem aSq(hp:(nQ gc gm (.slice A n k) c).sat F w)(hF:∀b,F b→b < w.heap.size):
  Cz 27 #[pt gc] w (Wr (iv (tR c).1) (nQ gc gm (.slice A n k) (tR c).2) w F):=by
 refine dB func27 ntmps27 hp hF ?_;obtain⟨l,gJ⟩:=c;unfold nQ tR;dsimp only;refine aZ 0 0 ?_;cases gJ
 ·refine aA ?_;refine aM 0 0 ?_;exact cI 0 hF
 ·refine aA ?_;refine aM 0 0 ?_;exact cI 0 hF
end
theorem aJi(gc:Nat)(b:Bool)(w:World)(h2:fO w gc 2 (.bool b)):Cz 29 #[pt gc] w (Rt (.bool b) w):=by
 refine aN func29 ntmps29 ?_;refine aA ?_;exact cZ
theorem aSv(gc gm:Nat)(v:Value)(c:Cn)(dev:Int)(w:World)(F:Nat→Prop)(hp:(nQ gc gm v c).sat F w)(hF:∀b,F b→b < w.heap.size):
  Cz 32 #[pt gc,iv dev] w (Wr (iv (gT c.l dev)) (nQ gc gm v c) w F):=by
 refine dB func32 ntmps32 hp hF ?_;unfold nQ;refine aZ 0 0 ?_;refine aZ 1 1 ?_;refine aA ?_;refine Qw 0 rfl ?_;refine dN ?_;refine aA ?_;refine aM 1 1 ?_;refine aM 0 0 ?_;exact cI 0 hF
end
section
theorem aTn{P:Program}{w:World}{t ty e:TypeId}{i:TypeInfo}(ht:P.underlying t=some (.slice e))(hi:P.info? e=some i)(A:Option Addr)(x:Value){m c:Nat}{B:Option Addr}(hx:x=.slice B m c)(hm:0 < m)(hb:m*i.bytes≤140737488355328):
  (Builtin.append_ #[t,t] ty #[.slice A 0 0,x]).run P w=(Builtin.append_ #[t,t] ty #[sn,x]).run P w:=by
 subst hx
 have h0:¬0+m≤0:=by omega
 have hn:Builtin.nextslicecap (0+m) 0=m:=by
  unfold Builtin.nextslicecap;rw[Nat.zero_add];simp;omega
 have hcap:¬(Builtin.nextslicecap (0+m) 0*i.bytes>2 ^ 48):=by
  rw[hn];omega
 have hm0:¬m=0:=by omega
 have qN:¬(281474976710656 < Builtin.nextslicecap m 0*i.bytes):=by
  rw[←Nat.zero_add m]
  simpa using hcap
 cases A with
 | none=>rfl
 | some a=>simp[Builtin.append_,run_underlying ht,sizeOf,typeInfo,hi,Builtin.lenOf,Builtin.firstCells,h0,hcap,hm0,qN,loadCells,loadCellsFrom]
section
variable{P:Program}{ops:Array Oper}{Q:Exit→Act→World→Prop}{N:cH}{w0:World}{e e':Env}{R R':List Piece}{H H':List HP}{rest:List Oper}{d:Nat}{ty:TypeId}{pos:String}{aH:Array Edge}
theorem aKY(sz bytes m:Nat){x y:Operand}{t el:TypeId}{c':Nat}{A0 A:Option Addr}{news:List Value}(ht:P.underlying t=some (.slice el))(hT:(P.info? el).map (fun i=>(i.zero.map (fun z=>z.cells.size),i.size,i.bytes))=some (some sz,sz,bytes))(hpos:0 < sz)
  (hx:e.ev x=some (.slice A0 0 0)) (hy:e.ev y=some (.slice A m c')) (hs:∀w,St w0 R H w→∃B,Sl w B sz A m news) (h1:∀u∈news,u.oneCell'=true) (hm:0 < m) (h63:(m:Int)≤9223372036854775807) (hbytes:m*bytes≤140737488355328) (hd:d < N.n)
  (k:∀A' k',XK N w0 (wpList P ops Q rest) ((d,.slice A' m k')::e) R (HP.own el sz (.slice A' m k') m news::H)):
  XK N w0 (wpList P ops Q (⟨some d,.call {callee:=.builtin .append,args:=#[x,y],argTypes:=#[t,t]},ty,pos,aH,none⟩::rest)) e R H:=by
 obtain⟨ti,z,nK,hz,hsz,hby,hzs⟩:=aD8 hT;refine vJ rfl fun a w hr st=>?_;obtain⟨B,qM⟩:=hs w st;obtain⟨v',w',hrun,h2,h3,h4⟩:=aG4 (P:=P) w w.heap.size t ty el ti z sz bytes ht nK hz hsz hby hzs hpos (sn) 0 [] (World.ownsRow_nil _ _ _ _) B A m c' news qM h1 (by unfold maxLen;omega) (by simpa using hbytes) (Nat.le_refl _);rw[Nat.zero_add,List.nil_append] at h2;obtain⟨A',k',rfl,_⟩:=aHg h2;rw[←aTn ht nK A0 (.slice A m c') rfl hm (by rw[hby];exact hbytes)] at hrun
 have hb:Below w.heap.size w w':=⟨h3.os,h3.tape,h3.output,h3.size,fun b hb=>h3.block b hb (fun he=>by cases he)⟩
 refine⟨_,w',by simp only[execOp,resolve,invoke,builtin,hr.ev hx,hr.ev hy,List.map_toArray,List.map_cons,List.map_nil,Sem.run_bind,Sem.run_pure,Result.andThen_ok,hrun],k A' k' _ _ (hr.put hd _) (st.new hb ⟨fun g hg=>?_,?_⟩)⟩
 ·have:=h2.lt _ hg
  exact this
 ·exact⟨h2.1,h2.2.imp id fun⟨g,cap,cur,e1,_,e3⟩=>⟨g,cap,cur,e1,Nat.zero_le _,e3⟩⟩
end
section
variable{N:cH}{w0:World}{e:Env}{R:List Piece}{H:List HP}{d:Nat}{ty:TypeId}{pos:String}{aH:Array Edge}
theorem aRJ{x lo hi mx:Operand}{t el:TypeId}{A:Option Addr}{n c l h m sz:Nat}{kl kh km:IntKind}[hT:kO t el sz](hx:e.ev x=some (.slice A n c))(hl:e.ev lo=some (.int kl (l:Int)))(hh:e.ev hi=some (.int kh (h:Int)))(hm:e.ev mx=some (.int km (m:Int)))(h1:l≤h)(h2:h≤m)(h3:m≤c):
  bR Tryz.prog N w0 e R H ⟨some d,.slice t x (some lo) (some hi) (some mx),ty,pos,aH,none⟩ (.slice (if m=l then A else A.map (·.add (l*sz))) (h - l) (m - l)):=iN fun a w hr=>by
 obtain⟨i0,pI,hz⟩:=Option.map_eq_some_iff.1 hT.s;simp[execOp,hr.ev hx,hr.ev hl,hr.ev hh,hr.ev hm,Instr.sliceAt,Instr.slice,Instr.sliceBounds,run_sliceBound,run_underlying hT.h,sizeOf,typeInfo,pI,hz,h1,h2,h3]
theorem aIV{x lo:Operand}{t el:TypeId}{A:Option Addr}{n c l sz:Nat}{kl:IntKind}[hT:kO t el sz](hx:e.ev x=some (.slice A n c))(hl:e.ev lo=some (.int kl (l:Int)))(h1:l≤n):
  bR Tryz.prog N w0 e R H ⟨some d,.slice t x (some lo) none none,ty,pos,aH,none⟩ (.slice (if c=l then A else A.map (·.add (l*sz))) (n - l) (c - l)):=iN fun a w hr=>by
 obtain⟨i0,pI,hz⟩:=Option.map_eq_some_iff.1 hT.s;simp[execOp,hr.ev hx,hr.ev hl,Instr.sliceAt,Instr.slice,Instr.sliceBounds,run_sliceBound,run_underlying hT.h,sizeOf,typeInfo,pI,hz,h1]
theorem aTJ{K:Act→World→Prop}(i:Nat){n sz:Nat}{t:TypeId}{v:Value}{xs:List Value}(hi:H[i]? =some (HP.own t sz v n xs))(hn:0 < n)(h:∀g c,v=.slice (some ⟨g,0,none⟩) n c→n≤c→XK N w0 K e R H):XK N w0 K e R H:=fun a w hr st=>by
 obtain⟨_,h2⟩:=st.own hi;rcases h2 with⟨_,h3⟩ | ⟨g',cap,cur,hv,_,_,h3,_⟩
 ·omega
 ·exact h g' cap hv h3 a w hr st
theorem aTP{K:Act→World→Prop}(j i:Nat){p:Prop}{ps:List HP}(hj:H[j]? =some (HP.many ps))(hi:ps[i]? =some (Pc p))(h:p→XK N w0 K e R H):XK N w0 K e R H:=fun a w hr st=>by
 obtain⟨F,hF⟩:=(st.take hj hi).sat (i:=0) rfl;exact h hF a w hr st
end
def wL(g n:Nat)(vs:List Value)(ws:List (Option jF)):List HP:=HP.aE g 267 vs::Pc (vs.length=n)::(List.range n).map fun i=>QH (vs.getD i undef) (ws[i]?).join
theorem aLr{g n i:Nat}{vs:List Value}{ws:List (Option jF)}(hi:i < n):(wL g n vs ws)[i+2]? =some (QH (vs.getD i undef) (ws[i]?).join):=by
 unfold wL;rw[List.getElem?_cons_succ,List.getElem?_cons_succ,List.getElem?_map,List.getElem?_range hi];rfl
theorem aLs{g n i:Nat}{vs:List Value}{ws:List (Option jF)}{v:Value}{q:Option jF}(hi:i < n)(hv:vs.length=n)(hw:ws.length=n):
  (((((wL g n vs ws).set 0 cM).set (i+2) cM).set (i+2) (QH v q)).set 0 (HP.aE g 267 (vs.set i v)))=wL g n (vs.set i v) (ws.set i q):=by
 refine List.ext_getElem? fun k=>?_
 match k with
 | 0=>rfl
 | 1=>
  show some (Pc (vs.length=n))=some (Pc ((vs.set i v).length=n))
  rw[List.length_set]
 | k + 2 =>
  unfold wL;simp only[List.set_cons_zero,List.set_cons_succ,List.getElem?_cons_succ,List.set_set,List.getElem?_map];rw[List.getElem?_set]
  by_cases h:i=k
  ·subst h;rw[if_pos rfl,if_pos (by simpa using hi),List.getElem?_range hi];simp only[Option.map_some];rw[List.getD_eq_getElem?_getD,List.getElem?_set_self (by omega),List.getElem?_set_self (by omega)];rfl
  ·rw[if_neg h,List.getElem?_map];cases hr:(List.range n)[k]? with
   | none=>rfl
   | some j=>
    obtain⟨_,rfl⟩:=List.getElem?_eq_some_iff.1 hr;simp only[List.getElem_range,Option.map_some];rw[List.getD_eq_getElem?_getD,List.getD_eq_getElem?_getD,List.getElem?_set_ne h,List.getElem?_set_ne h]
section
variable{N:cH}{w0:World}{e:Env}{R:List Piece}{H:List HP}{K:Act→World→Prop}{L:BL}{ms:List Int}{ws:List (Option jF)}{aS:Int}
def Ze(L:BL)(ms:List Int)(aS:Int):List Value:=[.slice (some ⟨L.gr,0,none⟩) ms.length ms.length,.slice (some ⟨L.gw,0,none⟩) ms.length ms.length,iv aS]
def aFT(L:BL)(ms:List Int)(ws:List (Option jF))(vs:List Value)(i:Nat):HP:=HP.many (((wL L.gw ms.length vs ws).set 0 cM).set (i+2) cM)
theorem aJV(j i:Nat)(hj:H[j]? =some (zI L ms ws aS))(hi:i < ms.length)(h:∀vs:List Value,vs.length=ms.length→
      XK N w0 K e R (QH (vs.getD i undef) (ws[i]?).join::HP.aE L.gw 267 vs::aFT L ms ws vs i::HP.aE L.b 270 (Ze L ms aS)::H.set j (HP.many [cM,HP.aE L.gr 3 (aL ms),cM]))):XK N w0 K e R H:=by
  have hlt:=(List.getElem?_eq_some_iff.1 hj).1
  refine oO j 0 hj rfl ?_;refine oO (j+1) 2 (by rw[List.getElem?_cons_succ,List.getElem?_set_self hlt]) rfl ?_;refine aCb 0 rfl fun vs=>?_;refine aTP 0 1 rfl rfl fun hv=>?_;refine oO 0 0 rfl rfl ?_;refine oO 1 (i+2) rfl (p:=QH (vs.getD i undef) (ws[i]?).join) ?_ ?_
  · show((wL L.gw ms.length vs ws).set 0 cM)[i+2]? =_
    rw[List.getElem?_set_ne (by omega),aLr hi]
  · have h:=h vs hv
    simp only[List.set_cons_succ,List.set_cons_zero,List.set_set];exact h
theorem aJZ(j i:Nat){vs:List Value}{v:Value}{q:Option jF}(hj:H[j]? =some (HP.many [cM,HP.aE L.gr 3 (aL ms),cM]))(hi:i < ms.length)(hv:vs.length=ms.length)(hw:ws.length=ms.length)
  (h:XK N w0 K e R (H.set j (zI L ms (ws.set i q) aS))):XK N w0 K e R (QH v q::HP.aE L.gw 267 (vs.set i v)::aFT L ms ws vs i::HP.aE L.b 270 (Ze L ms aS)::H):=by
 have hlt:=(List.getElem?_eq_some_iff.1 hj).1
 have hlen:(wL L.gw ms.length vs ws).length=ms.length+2:=by simp[wL]
 refine sX 1 (i+2) rfl ?_ ?_
 ·rw[List.getElem?_set_self (by simp[hlen];omega)]
 dsimp only[List.set];refine sX 0 0 rfl ?_ ?_
 ·rw[List.set_set,List.getElem?_set_ne (by omega),List.getElem?_set_self (by simp[hlen])]
 rw[aLs hi hv hw];dsimp only[List.set];refine xG 0 (f:=fun vs:List Value=>HP.many (wL L.gw ms.length vs (ws.set i q))) (vs.set i v) rfl ?_;dsimp only[List.set];refine sX (j+1) 2 (by rw[List.getElem?_cons_succ];exact hj) rfl ?_;dsimp only[List.set];refine sX j 0 (by rw[List.getElem?_set_self hlt]) rfl ?_;rw[List.set_set];exact h
end
theorem aTa(L:BL)(ms:List Int)(ws:List (Option jF))(aS:Int)(i:Nat)(hi:i < ms.length)(hw:ws.length=ms.length)(t:jF)(ht:(ws[i]?).join=some t)(w:World)(F:Nat→Prop)(hp:(zI L ms ws aS).sat F w)(hF:∀b,F b→b < w.heap.size):
  Cz 108 #[.pointer (some ⟨L.b,0,none⟩),iv (i:Int)] w (Wr (.tuple #[.agg #[iv t.id,.bool t.wr,iv t.bX,.int .u32 t.val],.bool true]) (zI L ms (ws.set i none) aS) w F):=by
 have hin:bN ms.length (i:Int)=true:=decide_eq_true (by omega)
 refine dB func108 ntmps108 hp hF ?_;generalize cN:(⟨w,fun b=>b < w.heap.size∧¬F b⟩:Piece)=R0;refine aA ?_;refine bT fun g1=>?_;refine aA ?_;refine aU (fun w1 st=>aBO L ms ws aS i w1 (st.aJ0 1 rfl)) ?_;rw[hin];refine aJV 1 i rfl hi fun vs hv=>?_;rw[ht];dsimp only[List.set];refine aTJ 0 rfl (by decide) fun g c hg hc=>?_
 have Wi:vs[i]? =some (.slice (some ⟨g,0,none⟩) 1 c):=by
  obtain⟨v,h1⟩:=get_some (l:=vs) (i:=i) (by omega);rw[List.getD_eq_getElem?_getD,h1] at hg;rw[h1];exact congrArg some hg
 rw[hg];refine aA ?_;refine kd (dat i i) ?_;refine aA ?_;refine kd (bP rfl (Rd.aE 1 rfl Wi)) ?_;refine aA ?_;refine kd (dat i i) ?_;refine aA ?_;refine kd (bP rfl (Rd.aE 1 rfl Wi)) ?_;refine aA ?_;refine iO [1,2,3,7,9,10,11] ?_;refine bH 0 ?_;refine aK 1 ?_;refine aK 2 ?_;refine aK 3 ?_;refine bH 4 ?_;refine bH 5 ?_;refine bH 6 ?_;refine aK 7 ?_;refine bH 8 ?_;refine aK 9 ?_;refine aK 10 ?_ (hi:=rfl) (dD:=aRJ (l:=1) (h:=1) (m:=1) rfl rfl rfl rfl (by omega) (by omega) hc);refine aK 11 ?_ (hi:=rfl) (dD:=dat i i);refine aJ 12 ?_;refine fF rfl rfl ?_ (hs:=eO.mk 1 rfl cG.h rfl (by omega));dsimp only[List.set];refine bO ?_;refine eN ?_;refine aA ?_;refine kd (dat 0 0) ?_;refine kd (pL rfl (aQ.of fun j v hv=>by rw[Nat.zero_add];exact Rd.own 0 rfl hv)) ?_;refine oL 4 rfl ?_;dsimp only[List.set];refine aA ?_;refine Bm (q:=QH (.slice (some ⟨g,0,none⟩) 0 0) none) 0 rfl (fun _ _ _=>⟨_,rfl⟩) ?_;refine aJZ 1 i rfl hi hv hw ?_;dsimp only[List.set];subst cN;exact xH (vs:=[iv t.id,.bool t.wr,iv t.bX,.int .u32 t.val]) rfl (by kernel_rfl) rfl rfl (aQ.whole 0 rfl) rfl fun w1 st=>⟨rfl,st.turns hF (by simp) (i:=1) rfl⟩
end
section
theorem aBN(w0 low many:Int)(w:World)(hok:okF low many)(hr:0≤bZ w0 low many∧bZ w0 low many < 4294967296):
  Cz 296 #[.int .u32 w0,iv low,iv many] w (Rt (iv (bZ w0 low many)) w):=by
 refine aN func296 ntmps296 ?_;refine aA ?_;refine aU (fun w1 t=>aI0 w0 low many w1 hok) ?_;refine aA ?_;refine kd (Kz (ds:=.int .u32) (kd:=.i64) (c:=bZ w0 low many) (by kernel_rfl) (by kernel_rfl) rfl (iT (by omega))) ?_;refine aA ?_;exact cZ
theorem aB3(w low many:Int):0≤bZ w low many∧bZ w low many < 4294967296:=Pt _
theorem aJz(a dev bX:Int)(h0:bZ a 0 2=0)(h1:bZ a 24 8=0)(h2:bZ a 16 8=dev)(h3:bZ a 2 14=bX)(w:World):
  Cz 294 #[.int .u32 a] w (Rt (.tuple #[iv dev,iv bX]) w):=by
 refine aN func294 ntmps294 ?_;refine aA ?_;refine aU (fun w1 t=>aBN a 0 2 w1 (by unfold okF;omega) (aB3 _ _ _)) ?_;rw[h0];refine aA ?_;refine aU (fun w1 t=>aBN a 24 8 w1 (by unfold okF;omega) (aB3 _ _ _)) ?_;rw[h1];refine aA ?_;refine aU (fun w1 t=>aBN a 16 8 w1 (by unfold okF;omega) (aB3 _ _ _)) ?_;rw[h2];refine aA ?_;refine aU (fun w1 t=>aBN a 2 14 w1 (by unfold okF;omega) (aB3 _ _ _)) ?_;rw[h3];refine aA ?_;exact eL rfl rfl rfl fun w1 t=>⟨rfl,t.below (by simp)⟩
def Ta(dev bX:Int):Int:=(zT (zT 0 16 8 dev).1 2 14 bX).1
structure aU8(dev bX:Int):Prop where
 p1:(zT 0 16 8 dev).2=0
 p2:(zT (zT 0 16 8 dev).1 2 14 bX).2=0
 z0:bZ (Ta dev bX) 0 2=0
 z1:bZ (Ta dev bX) 24 8=0
 z2:bZ (Ta dev bX) 16 8=dev
 z3:bZ (Ta dev bX) 2 14=bX
theorem aJD{dev bX:Int}(h1:0≤dev∧dev < 4)(h2:0≤bX∧bX < 4):aU8 dev bX:=by
 have hd:dev=0∨dev=1∨dev=2∨dev=3:=by omega
 have hr:bX=0∨bX=1∨bX=2∨bX=3:=by omega
 rcases hd with rfl | rfl | rfl | rfl<;>rcases hr with rfl | rfl | rfl | rfl<;>exact⟨by decide+kernel,by decide+kernel,by decide+kernel,by decide+kernel,by decide+kernel,by decide+kernel⟩
theorem aTe(dev bX:Int)(hd:0≤dev∧dev < 4)(hr:0≤bX∧bX < 4)(w:World):
  Cz 292 #[iv dev,iv bX] w (Rt (.tuple #[.int .u32 (Ta dev bX),iv 0]) w):=by
 have ha:=aJD hd hr
 refine aN func292 ntmps292 ?_;refine aA ?_;refine bU (t:=10) rfl (fun h=>absurd h (by omega)) (fun _=>?_);refine aA ?_;refine bU (t:=14) rfl (fun h=>absurd h (by omega)) (fun _=>?_);refine aA ?_;refine bU (t:=18) rfl (fun h=>absurd h (by omega)) (fun _=>?_);refine aA ?_;refine aG rfl (fun h=>absurd h (by omega)) (fun _=>?_);refine aA ?_;refine kd (Kz (ds:=.int .i64) (kd:=.u32) (c:=dev) (by kernel_rfl) (by kernel_rfl) rfl (wrap_u32 (by omega))) ?_;refine aU (fun w1 t=>aDb 0 16 8 dev w1 (by unfold okF;omega)) ?_;rw[ha.p1];refine aA ?_;refine kd (Kz (ds:=.int .i64) (kd:=.u32) (c:=bX) (by kernel_rfl) (by kernel_rfl) rfl (wrap_u32 (by omega))) ?_;refine aU (fun w1 t=>aDb _ 2 14 bX w1 (by unfold okF;omega)) ?_;rw[ha.p2];refine aA ?_;exact eL rfl rfl rfl fun w1 t=>⟨rfl,t.below (by simp)⟩
theorem aTc(L:BL)(ms:List Int)(ws:List (Option jF))(aS:Int)(i:Nat)(hi:i < ms.length)(hml:ms.length≤6)(hw:ws.length=ms.length)(h0:(ws[i]?).join=none)(a bX:Int)(z0:bZ a 0 2=0)(z1:bZ a 24 8=0)(z2:bZ a 16 8=i)(z3:bZ a 2 14=bX)(m:Int)(hm:ms[i]? =some m)(hr:0≤bX∧bX < m)(b:Bool)(v:Int)(lU:0≤aS∧aS≤1000000000)(w:World)(F:Nat→Prop)(hp:(zI L ms ws aS).sat F w)(hF:∀b,F b→b < w.heap.size):
  Cz 295 #[.pointer (some ⟨L.b,0,none⟩),.int .u32 a,.bool b,.int .u32 v] w (Wr (.tuple #[iv aS,iv 0]) (zI L ms (ws.set i (some ⟨aS,b,bX,v⟩)) (aS+1)) w F):=by
 have hin:bN ms.length (i:Int)=true:=decide_eq_true (by omega)
 have hmi:(aL ms)[i]? =some (iv m):=by simp[aL,hm]
 refine dB func295 ntmps295 hp hF ?_;generalize cN:(⟨w,fun b=>b < w.heap.size∧¬F b⟩:Piece)=R0;refine aA ?_;refine aU (fun w1 t=>aJz a i bX z0 z1 z2 z3 w1) ?_;refine aA ?_;refine aU (fun w1 st=>aBO L ms ws aS i w1 (st.aJ0 0 rfl)) ?_;rw[hin];refine aJV 0 i rfl hi fun vs hv=>?_;rw[h0];dsimp only[List.set];refine aZ 4 1 ?_;refine aTQ (p:=∃A,vs.getD i undef=.slice A 0 0) 1 rfl fun⟨A,hA⟩=>?_
 have Wi:vs[i]? =some (.slice A 0 0):=by
  obtain⟨u,h1⟩:=get_some (l:=vs) (i:=i) (by omega);rw[List.getD_eq_getElem?_getD,h1] at hA;rw[h1];exact congrArg some hA
 refine aA ?_;refine bU (t:=26) rfl (fun h=>absurd h (by omega)) (fun _=>?_);refine aA ?_;refine kd (dat i i) ?_;refine aA ?_;refine kd (bP rfl (Rd.aE 0 rfl hmi)) ?_;refine aA ?_;refine aG rfl (fun h=>absurd h (by omega)) (fun _=>?_);refine aA ?_;refine kd (dat i i) ?_;refine aA ?_;refine kd (bP rfl (Rd.aE 2 rfl Wi)) ?_;refine aA ?_;refine fF rfl rfl ?_ (hs:=eO.mk 4 rfl cG.h rfl (by simp[Ze]));dsimp only[List.set];rw[show(Ze L ms aS).set (0+2) (iv (aS+1))=Ze L ms (aS+1) from rfl];refine aA ?_;refine iO [1,2,3,6,7,8,10,11] ?_;refine bH 0 ?_;refine aK 1 ?_;refine aK 2 ?_;refine aK 3 ?_;refine bH 4 ?_;refine bH 5 ?_;refine aK 6 ?_;refine aK 7 ?_;refine aK 8 ?_;refine bH 9 ?_;refine aK 10 ?_ (hi:=rfl) (dD:=dat i i);refine aK 11 ?_ (hi:=rfl) (dD:=bP rfl (Rd.aE 2 rfl Wi));refine bH 12 ?_;refine bH 13 ?_;refine bH 14 ?_;refine bH 15 ?_;refine aJ 16 ?_;refine kd (fL rfl) ?_;refine bB ?_;refine aJ 17 ?_;refine eK fun g4=>?_;refine bB ?_;refine aJ 18 ?_;refine aKY 4 32 1 (el:=259) (by kernel_rfl) (by kernel_rfl) (by decide) rfl rfl (nS 0 rfl rfl) (by simp[Value.oneCell']) (by decide) (by decide) (by decide) (by decide) fun An cn=>?_;refine bB ?_;refine aJ 19 ?_;refine kd (dat i i) ?_;refine bO ?_;refine aJ 20 ?_;refine fF rfl rfl ?_ (hs:=eO.mk 4 rfl cG.h rfl (by omega));dsimp only[List.set];refine bO ?_;refine eN ?_;refine aA ?_;refine aY [2,0,4,5,6,7] rfl (by decide) (fun _ h=>h) ?_;refine aM 4 1 ?_;refine aJZ (v:=.slice An 1 cn) (q:=some ⟨aS,b,bX,v⟩) 0 i rfl hi hv hw ?_;dsimp only[List.set];subst cN;exact eL rfl rfl rfl fun w1 st=>⟨rfl,st.turns hF (by simp) (i:=0) rfl⟩
end
section
structure nG where
 id:Int
 dev:Int
 dead:Bool
 val:Int
def nG.cells(a:nG):List Value:=[iv a.id,iv a.dev,.bool a.dead,.int .u32 a.val]
def Ge(s:aC)(x:aO):Prop:=∀(i:Nat) (d:bQ) (t:jF),s.aD[i]? =some d→(x.wt[i]?).join=some t→0≤t.bX∧t.bX < d.aP.length∧0≤t.val∧t.val < 4294967296
def wW(x:aO)(i:Nat)(wr:Bool)(bX v:Int):aO:={x with wt:=x.wt.set i (some ⟨x.aS,wr,bX,v⟩),aS:=x.aS+1}
def wO(p:cO×dL)(t:jF):cO×dL:=if t.wr then(⟨p.1.now.set t.bX.toNat t.val,p.1.saved,p.1.kept⟩,p.2) else p
def jP(s:aC)(x:aO)(i:Nat):aO×Option nG:=match(x.wt[i]?).join,s.aD[i]?,x.dv[i]? with
 | some t,some d,some p=>if yY s x i then({x with wt:=x.wt.set i none,dv:=x.dv.set i (wO p t)},some ⟨t.id,i,false,p.1.now.getD t.bX.toNat 0⟩) else({x with wt:=x.wt.set i none},some ⟨t.id,i,true,d.iV⟩)
 | _,_,_=>(x,none)
section
variable{s:aC}{x:aO}
theorem aAw(hok:cF s x)(i:Nat)(q:Option jF)(po:Int):cF s {x with wt:=x.wt.set i q,aS:=po}:=⟨hok.ck,hok.dm,hok.ln,hok.dv,hok.each,by show(x.wt.set i q).length=_;rw[List.length_set];exact hok.wt⟩
theorem aC3{d:bQ}{p:cO×dL}{t:jF}(hp:zE d p.1)(hv:0≤t.val∧t.val < 4294967296):zE d (wO p t).1:=by
 unfold wO;split
 ·refine⟨by simp[hp.now],hp.saved,fun v h=>?_,hp.u.2⟩;rcases List.mem_or_eq_of_mem_set h with h | rfl
  ·exact hp.u.1 v h
  ·exact hv
 ·exact hp
theorem aRy(hok:cF s x){i:Nat}{d:bQ}{p:cO×dL}(hd:s.aD[i]? =some d)(h:zE d p.1∧Bw p.2)(wt:List (Option jF))(hw:wt.length=s.aD.length)(po:Int):cF s {x with dv:=x.dv.set i p,wt:=wt,aS:=po}:=
 ⟨hok.ck,hok.dm,hok.ln,by simp[hok.dv],fun j d' p' hd' hp'=>by
  by_cases hij:i=j
  ·subst hij
   have hlt:i < x.dv.length:=by simpa using(List.getElem?_eq_some_iff.1 hp').1
   rw[List.getElem?_set_self hlt] at hp';cases hp';cases hd.symm.trans hd';exact h
  ·rw[List.getElem?_set_ne hij] at hp'
   exact hok.each j d' p' hd' hp',hw⟩
theorem aTw(hok:cF s x)(lF:Ge s x)(i:Nat):cF s (jP s x i).1:=by
 unfold jP;split
 ·rename_i t d p ht hd hp
  obtain⟨h1,h2⟩:=hok.each i d p hd hp;split
  ·exact aRy hok hd ⟨aC3 h1 (lF i d t hd ht).2.2,by unfold wO;split<;>exact h2⟩ _ (by simp[hok.wt]) _
  ·exact aAw hok i none _
 ·exact hok
theorem aCM{ws:List (Option jF)}{i j:Nat}{t:jF}(h:((ws.set i none)[j]?).join=some t):(ws[j]?).join=some t:=by
 by_cases hij:i=j
 ·subst hij;rw[List.getElem?_set] at h;simp at h;split at h<;>cases h
 ·rwa [List.getElem?_set_ne hij] at h
theorem aTu(lF:Ge s x)(i:Nat):Ge s (jP s x i).1:=by
 unfold jP;split
 ·split
  ·exact fun j d t hd ht=>lF j d t hd (aCM ht)
  ·exact fun j d t hd ht=>lF j d t hd (aCM ht)
 ·exact lF
end
section
variable(L:HL)(s:aC)(x:aO)(w:World)
theorem aIo(hH:s.cX)(aV:gE L s)(hok:cF s x)(i:Nat)(d:bQ)(dI:s.aD[i]? =some d)(h0:(x.wt[i]?).join=none)(jB:s.aD.length≤4)(bX:Int)(hr:0≤bX∧bX < 4∧bX < d.aP.length)(b:Bool)(v:Int)(lU:0≤x.aS∧x.aS≤1000000000)(F:Nat→Prop)(hp:(dY L s x).sat F w)(hF:∀b,F b→b < w.heap.size)(fG:kQ ⟨w,fun b=>b < w.heap.size∧¬F b⟩):
  Cz 293 #[.pointer (some ⟨L.h,0,none⟩),.int .u32 (Ta i bX),.bool b,.int .u32 v] w (Wr (if uI x i=114 then .tuple #[iv x.aS,iv 0] else .tuple #[iv 0,iv 6]) (dY L s (if uI x i=114 then wW x i b bX v else x)) w F):=by
 have hls:=aV.ds
 have hxl:=hok.dv
 have vT:=hok.wt
 have hi:=(List.getElem?_eq_some_iff.1 dI).1
 obtain⟨l,iU⟩:=get_some (l:=L.ds) (i:=i) (by omega);obtain⟨p,gP⟩:=get_some (l:=x.dv) (i:=i) (by omega)
 have hin:bN s.aD.length (i:Int)=true:=decide_eq_true (by omega)
 have ha:=aJD (dev:=i) (bX:=bX) ⟨by omega,by omega⟩ ⟨hr.1,hr.2.1⟩
 have hst:uI x i=qJ p.2.at_:=by
  unfold uI;rw[gP];rfl
 rw[hst];refine dB func293 ntmps293 hp hF ?_;generalize cN:(⟨w,fun b=>b < w.heap.size∧¬F b⟩:Piece)=R0 at fG⊢;refine aA ?_;refine aU (fun w1 t=>aJz _ i bX ha.z0 ha.z1 ha.z2 ha.z3 w1) ?_;refine aA ?_;refine aU (fun w1 t=>Ru L s x w1 i (t.mY 0 rfl aV hok)) ?_;rw[hin];refine Oe 0 rfl aV hok (by omega) fun b0 off hA=>?_;refine aA ?_;refine bU (t:=25) rfl (fun h=>absurd h (by omega)) (fun _=>?_);refine aA ?_;refine kd (bP rfl (rN 0 rfl rfl)) ?_;refine aA ?_;refine kd (dat i (off+i*6) (hx:=by rw[←hA];rfl)) ?_;refine aA ?_;refine kd (bP rfl (aCq (vs:=Ku d l) 4 (aQ.dev 0 rfl aV hok hA dI iU rfl) rfl)) ?_;refine aA ?_;refine aU (fun w1 t=>Vf l.1 d p.1 w1 ((t.mY 0 rfl aV hok).each i d l p dI iU gP).1) ?_;refine aA ?_;refine aG rfl (fun h=>absurd h (by omega)) (fun _=>?_);refine aA ?_;refine kd (bP rfl (rN 0 rfl rfl)) ?_;refine aA ?_;refine kd (dat i (off+i*6) (hx:=by rw[←hA];rfl)) ?_;refine aA ?_;refine kd (bP rfl (aCq (vs:=Ku d l) 5 (aQ.dev 0 rfl aV hok hA dI iU rfl) rfl)) ?_;refine aA ?_;refine aU (fun w1 t=>aGY l.2 p.2 (hok.each i d p dI gP).2 w1 (fG.at_ (t.le (by simp))) ((t.mY 0 rfl aV hok).each i d l p dI iU gP).2) ?_;refine aA ?_
 by_cases Df:qJ p.2.at_=114
 ·rw[Df,if_pos rfl,if_pos rfl];refine aA ?_;refine kd (bP rfl (rN 0 rfl rfl)) ?_;refine aA ?_;refine aZ 0 4 ?_;refine eC 0 (zI L.B (kL s) (x.wt.set i (some ⟨x.aS,b,bX,v⟩)) (x.aS+1)) (fun w1 F1 t h1 h2 h3=>aTc L.B (kL s) x.wt x.aS i (by rw[Gx];exact hi) (by rw[Gx];omega) (by rw[Gx];exact vT) h0 _ bX ha.z0 ha.z1 ha.z2 ha.z3 d.aP.length (by simp[kL,dI]) ⟨hr.1,hr.2.2⟩ b v lU w1 F1 h1 h2) ?_;refine aM 0 4 ?_;refine aA ?_;subst cN;exact eL rfl rfl rfl fun w1 t=>⟨rfl,t.turns hF (by simp) (i:=0) rfl⟩
 ·rw[if_neg Df,if_neg Df];refine aG rfl (fun _=>?_) (fun h=>absurd h (by simpa using Df));refine aA ?_;subst cN;exact eL rfl rfl rfl fun w1 t=>⟨rfl,t.turns hF (by simp) (i:=0) rfl⟩
theorem aPW(hH:s.cX)(aV:gE L s)(hok:cF s x)(lF:Ge s x)(i:Nat)(d:bQ)(dI:s.aD[i]? =some d)(t:jF)(ht:(x.wt[i]?).join=some t)(a:nG)(hx:(jP s x i).2=some a)(F:Nat→Prop)(hp:(dY L s x).sat F w)(hF:∀b,F b→b < w.heap.size):
  Cz 55 #[.pointer (some ⟨L.h,0,none⟩),iv (i:Int)] w (Wr (.tuple #[.agg a.cells.toArray,.bool true]) (dY L s (jP s x i).1) w F):=by
 have hls:=aV.ds
 have hxl:=hok.dv
 have vT:=hok.wt
 have hi:=(List.getElem?_eq_some_iff.1 dI).1
 obtain⟨l,iU⟩:=get_some (l:=L.ds) (i:=i) (by omega);obtain⟨p,gP⟩:=get_some (l:=x.dv) (i:=i) (by omega);obtain⟨hfo,hqo⟩:=hok.each i d p dI gP;obtain⟨r1,r2,r3,r4⟩:=lF i d t dI ht
 have mS:cF s {x with wt:=x.wt.set i none}:=aAw hok i none _
 have hwr:=aC3 (t:=t) hfo ⟨r3,r4⟩
 obtain⟨rn,ern⟩:∃n:Nat,t.bX=(n:Int):=⟨t.bX.toNat,by omega⟩
 have iM:=hfo.now
 obtain⟨rv,Rh⟩:=get_some (l:=p.1.now) (i:=rn) (by omega)
 have hal:yY s {x with wt:=x.wt.set i none} i=yY s x i:=rfl
 have hX:jP s x i=if yY s x i then({x with wt:=x.wt.set i none,dv:=x.dv.set i (wO p t)},some ⟨t.id,i,false,rv⟩) else({x with wt:=x.wt.set i none},some ⟨t.id,i,true,d.iV⟩):=by
  unfold jP;rw[ht,dI,gP];dsimp only;rw[ern,Int.toNat_natCast,List.getD_eq_getElem?_getD,Rh];rfl
 rw[hX] at hx⊢;refine dB func55 ntmps55 hp hF ?_;generalize cN:(⟨w,fun b=>b < w.heap.size∧¬F b⟩:Piece)=R0;refine aA ?_;refine bT fun g1=>?_;refine aA ?_;refine kd (bP rfl (rN 1 rfl rfl)) ?_;refine aA ?_;refine aZ 1 4 ?_;refine eC 0 (zI L.B (kL s) (x.wt.set i none) x.aS) (fun w1 F1 st h1 h2 h3=>aTa L.B (kL s) x.wt x.aS i (by rw[Gx];exact hi) (by rw[Gx];exact vT) t ht w1 F1 h1 h2) ?_;refine aM 1 4 ?_
 change XK _ _ _ _ _ [_,dY L s {x with wt:=x.wt.set i none}]
 generalize tG:({x with wt:=x.wt.set i none}:aO)=x2 at mS hal⊢
 have Mv:x2.dv[i]? =some p:=by rw[←tG];exact gP
 refine aA ?_;refine bT fun g2=>?_;refine Oe 2 rfl aV mS (by omega) fun b off hA=>?_;refine aA ?_;refine kd (bP rfl (rN 2 rfl rfl)) ?_;refine aA ?_;refine kd (dat i (off+i*6) (hx:=by rw[←hA];rfl)) ?_;refine kd (pL rfl (aQ.dev 2 rfl aV mS hA dI iU rfl)) ?_;refine bT fun g3=>?_;refine aA ?_;refine aU (fun w1 st=>aPY L s x2 w1 hH aV mS i hi (st.mY 3 rfl aV mS)) ?_;rw[hal];cases hb:yY s x i
 ·rw[hb] at hx;simp at hx;subst hx;refine aA ?_;refine kd (fL rfl) ?_;refine aA ?_;subst cN;exact xH (vs:=[iv t.id,iv i,.bool true,.int .u32 d.iV]) rfl (by kernel_rfl) rfl rfl (aQ.whole 2 rfl) rfl fun w1 st=>⟨rfl,st.turns hF (by simp) (i:=3) rfl⟩
 ·rw[hb] at hx;simp at hx;subst hx;refine aA ?_;rw[ern];refine aU (fun w1 st=>aMU l.1 d p.1 rn rv hfo.now Rh w1 ((st.mY 3 rfl aV mS).each i d l p dI iU Mv).1) ?_;refine aA ?_
  have Wn:t.bX.toNat=rn:=by omega
  cases hw:t.wr
  ·have hwf:wO p t=p:=by
    unfold wO;rw[hw];rfl
   have hxx:({x with wt:=x.wt.set i none,dv:=x.dv.set i p}:aO)=x2:=by
    rw[yC gP];exact tG
   rw[hwf,hxx];refine aA ?_;refine kd (fL rfl) ?_;refine aA ?_;subst cN;exact xH (vs:=[iv t.id,iv i,.bool false,.int .u32 rv]) rfl (by kernel_rfl) rfl rfl (aQ.whole 2 rfl) rfl fun w1 st=>⟨rfl,st.turns hF (by simp) (i:=3) rfl⟩
  ·have hwf:wO p t=(⟨p.1.now.set rn t.val,p.1.saved,p.1.kept⟩,p.2):=by
    unfold wO;rw[hw,Wn];rfl
   rw[hwf];refine aA ?_;refine Te 3 i rfl dI iU Mv ?_;dsimp only[List.set];refine aZ 0 0 ?_;refine eC 0 (iJ l.1 d ⟨p.1.now.set rn t.val,p.1.saved,p.1.kept⟩) (fun w1 F1 st h1 h2 h3=>aMR l.1 d p.1 rn t.val hfo.now (by omega) w1 F1 h1 h2) ?_;refine aM 0 0 ?_;refine To 3 i rfl dI iU Mv (p':=(⟨p.1.now.set rn t.val,p.1.saved,p.1.kept⟩,p.2)) ?_;dsimp only[List.set];refine aA ?_;refine kd (fL rfl) ?_;refine aA ?_;subst cN;subst tG;exact xH (vs:=[iv t.id,iv i,.bool false,.int .u32 rv]) rfl (by kernel_rfl) rfl rfl (aQ.whole 2 rfl) rfl fun w1 st=>⟨rfl,st.turns hF (by simp) (i:=3) rfl⟩
end
end
section
structure rK where
 st:Int
 kind:Int
 dev:Int
 bX:Int
 val:Int
 err:Int
 res:Int
 hs:List Int
def Um:rK:=⟨0,0,0,0,0,0,0,[0,0,0,0,0,0]⟩
def hG(t:rK)(i:Nat):Int:=t.hs.getD i 0
structure aW where
 cn:Cn
 wn:bM
 t0:rK
 t1:rK
 t2:rK
 eX:Int
 steps:List dG
 sent:Bool
 aS:Bool
 id:Int
 many:Int
def rp0(s:aC):aW:=⟨⟨[],false⟩,dQ s,Um,Um,Um,-1,[],false,false,0,0⟩
def aW.tk(z:aW):Nat→rK
 | 0=>z.t0
 | 1=>z.t1
 | _=>z.t2
def aW.jR(z:aW)(j:Nat)(t:rK):aW:={z with t0:=if j=0 then t else z.t0,t1:=if j=1 then t else z.t1,t2:=if j=2 then t else z.t2}
structure dK where
 a1:AC
 a2:AC
 a3:AC
 a4:AC
 gc:Nat
 gm:Nat
 nd:AC
 w1:AC
 w2:AC
 w3:AC
 st:AC
def tkC(t:rK):List Value:=[iv t.st,.int .u8 t.kind,iv t.dev,iv t.bX,.int .u32 t.val,iv t.err,.int .u32 t.res,iv (hG t 0),iv (hG t 1),iv (hG t 2),iv (hG t 3),iv (hG t 4),iv (hG t 5)]
def kW(h f:Nat)(L:dK)(s:aC)(z:aW):List Value:=
  [pt h,pt f,.slice L.a1.1 s.aF.length L.a1.2,.slice L.a2.1 s.domains.length L.a2.2,.slice L.a3.1 s.aR.length L.a3.2,.slice L.a4.1 s.aD.length L.a4.2,.pointer (some ⟨L.gc,0,none⟩),.slice L.w1.1 z.wn.d.length L.w1.2,.slice L.w2.1 z.wn.c.length L.w2.2,.slice L.w3.1 z.wn.l.length L.w3.2,
   iv z.t0.st,.int .u8 z.t0.kind,iv z.t0.dev,iv z.t0.bX,.int .u32 z.t0.val,iv z.t0.err,.int .u32 z.t0.res,iv (hG z.t0 0),iv (hG z.t0 1),iv (hG z.t0 2),iv (hG z.t0 3),iv (hG z.t0 4),iv (hG z.t0 5),
   iv z.t1.st,.int .u8 z.t1.kind,iv z.t1.dev,iv z.t1.bX,.int .u32 z.t1.val,iv z.t1.err,.int .u32 z.t1.res,iv (hG z.t1 0),iv (hG z.t1 1),iv (hG z.t1 2),iv (hG z.t1 3),iv (hG z.t1 4),iv (hG z.t1 5),
   iv z.t2.st,.int .u8 z.t2.kind,iv z.t2.dev,iv z.t2.bX,.int .u32 z.t2.val,iv z.t2.err,.int .u32 z.t2.res,iv (hG z.t2 0),iv (hG z.t2 1),iv (hG z.t2 2),iv (hG z.t2 3),iv (hG z.t2 4),iv (hG z.t2 5),
   iv z.eX,.slice L.st.1 z.steps.length L.st.2,.bool z.sent,.bool z.aS,iv z.id,iv z.many]
def nD(L:dK)(s:aC)(p:Piece):Prop:=sY p s L.a1.1 s.aF.length L.a2.1 s.domains.length L.a3.1 s.aR.length L.a4.1 s.aD.length
theorem nD.le{L:dK}{s:aC}(p q:Piece)(hl:p.Le q)(h:nD L s p):nD L s q:=sY.le h hl
def vB(L:dK)(x:bM)(p:Piece):Prop:=aI p 1 L.w1.1 x.d.length (bK x.d)∧aI p 1 L.w2.1 x.c.length (bK x.c)∧aI p 1 L.w3.1 x.l.length (bK x.l)
theorem vB.le{L:dK}{x:bM}(p q:Piece)(hl:p.Le q)(h:vB L x p):vB L x q:=⟨h.1.le hl,h.2.1.le hl,h.2.2.le hl⟩
def Pa(L:dK)(s:aC)(p:Piece):Prop:=nF p L.nd.1 (cY s).length (cY s)
theorem Pa.le{L:dK}{s:aC}(p q:Piece)(hl:p.Le q)(h:Pa L s p):Pa L s q:=nF.le h hl
def oP(L:dK)(l:List dG)(p:Piece):Prop:=aI p 4 L.st.1 l.length (l.flatMap dG.cells)∧l.length≤L.st.2
theorem oP.le{L:dK}{l:List dG}(p q:Piece)(hl:p.Le q)(h:oP L l p):oP L l q:=⟨h.1.le hl,h.2⟩
def fT(g h f:Nat)(L:dK)(s:aC)(z:aW):HP:=HP.many [HP.aE g 123 (kW h f L s z),HP.cE (nD L s) (nD.le (L:=L) (s:=s)),HP.cE (vB L z.wn) (vB.le (L:=L) (x:=z.wn)),nQ L.gc L.gm (.slice L.nd.1 (cY s).length L.nd.2) z.cn,HP.cE (Pa L s) (Pa.le (L:=L) (s:=s)),HP.cE (oP L z.steps) (oP.le (L:=L) (l:=z.steps))]
def gL(g h f:Nat)(s:aC)(z:aW):HP:=HP.ex fun L:dK=>fT g h f L s z
structure Ds(w:World)(g h f:Nat)(L:dK)(s:aC)(z:aW):Prop where
 r0:eE w g 0 (kW h f L s z)
 so:nD L s (all w)
 wn:vB L z.wn (all w)
 cn:eE w L.gc 0 [.slice L.nd.1 (cY s).length L.nd.2,.map (some L.gm),.bool z.cn.gJ]
 nd:Pa L s (all w)
 sp:oP L z.steps (all w)
theorem Ds.below{w w':World}{g h f:Nat}{L:dK}{s:aC}{z:aW}(k:Ds w g h f L s z)(hb:Below w.heap.size w w'):Ds w' g h f L s z:=
 ⟨k.r0.below hb,k.so.le _ _ (jW hb),k.wn.le _ _ (jW hb),k.cn.below hb,k.nd.le _ _ (jW hb),k.sp.le _ _ (jW hb)⟩
theorem aCo{g h f:Nat}{L:dK}{s:aC}{z:aW}{F:Nat→Prop}{w:World}(k:(fT g h f L s z).sat F w)(hF:∀b,F b→b < w.heap.size):Ds w g h f L s z:=by
 obtain⟨G,g1,g2,_⟩:=k
 have hl:∀i,(⟨w,G i⟩:Piece).Le (all w):=fun i b hb=>⟨hF b (g2 i b hb),rfl⟩
 obtain⟨G',k1,_,_⟩:=g1 3 _ rfl;exact⟨uW (g1 0 _ rfl).2,nD.le _ _ (hl 1) (g1 1 _ rfl),vB.le _ _ (hl 2) (g1 2 _ rfl),uW (k1 0 _ rfl).2,Pa.le _ _ (hl 4) (g1 4 _ rfl),oP.le _ _ (hl 5) (g1 5 _ rfl)⟩
theorem St.aCS{w0 w:World}{R:List Piece}{H:List HP}{g h f:Nat}{L:dK}{s:aC}{z:aW}(t:St w0 R H w)(i:Nat)(hi:H[i]? =some (fT g h f L s z)):Ds w g h f L s z:=by
 obtain⟨F,h1,h2,_⟩:=t.chunk hi;exact aCo h1 h2
theorem Vd(t:Int)(w:World):Cz 44 #[iv t] w (Rt (.bool (bN 3 t)) w):=by
 refine aN func44 ntmps44 ?_;refine aA ?_;refine bU (t:=5) rfl (fun h=>?_) (fun h=>?_)
 ·refine aA ?_;refine kA (by simp) ?_;unfold bN
  congr 1
  simp;omega
 ·refine aA ?_;refine kA (by simp) ?_
  have:bN 3 t=false:=decide_eq_false (by omega)
  rw[this]
theorem Jy{t:Int}(h:bN 3 t=true):∃j:Nat,t=(j:Int)∧(j=0∨j=1∨j=2):=by
 have:=of_decide_eq_true h
 exact⟨t.toNat,by omega,by omega⟩
section
variable(g h f:Nat)(L:dK)(s:aC)(z:aW)(w:World)
theorem aCT(d:Int)(hR:Ds w g h f L s z):Cz 67 #[pt g,iv d] w (Rt (.bool (bN s.aD.length d)) w):=by
 have k5:=hR.r0.at_ (j:=5) rfl
 refine aN func67 ntmps67 ?_;refine aA ?_;refine bU (t:=7) rfl (fun h=>?_) (fun h=>?_)
 ·refine aA ?_;refine kA (by simp) ?_;unfold bN
  congr 1
  simp;omega
 ·refine aA ?_;refine kA (by simp) ?_
  have:bN s.aD.length d=false:=decide_eq_false (by omega)
  rw[this]
end
end
section
section
variable{N:cH}{w0:World}{e:Env}{R:List Piece}{H:List HP}{Q:Exit→Act→World→Prop}{ops:Array Oper}{rest:List Oper}{pos:String}{ty:TypeId}{aH:Array Edge}
theorem Qu(i:Nat){x y:Operand}{s t:TypeId}{g o:Nat}{cs vs:List Value}(hi:H[i]? =some (HP.aE g t cs))(k:XK N w0 (wpList Tryz.prog ops Q rest) e R (H.set i (HP.aE g t (fJ cs o vs))))(hx:e.ev x=some (.pointer (some ⟨g,o,none⟩)):=by rfl)(hy:e.ev y=some (.agg vs.toArray):=by rfl)(hs:(Tryz.prog.info? s).any (·.size==vs.length)=true:=by kernel_rfl)(h1:vs.all Value.oneCell'=true:=by rfl)(hl:decide (o+vs.length≤cs.length)=true:=by rfl):
  XK N w0 (wpList Tryz.prog ops Q (⟨none,.store s x y,ty,pos,aH,none⟩::rest)) e R H:=
 mU i hi hx hy hs (fun u hu=>List.all_eq_true.1 h1 u (by simpa[Value.cells] using hu)) (by simpa[Value.cells] using of_decide_eq_true hl) (by simpa[Value.cells] using k)
end
section
variable{P:Program}{N:cH}{w0 w:World}{e:Env}{R:List Piece}{H:List HP}{p:HP}{Q:Exit→Act→World→Prop}
theorem St.cT(st:St w0 R (p::H) w):St w0 R (cM::H) w:=st.xU (i:=0) (p:=p) rfl (Nat.le_refl _) rfl rfl rfl fun F _ hlt=>⟨F,trivial,fun b hb=>⟨.inl hb,hlt b hb⟩,fun _ _ _=>rfl⟩
theorem Oh(Z:List Nat){id:Nat}{l:List Oper}(h:XB P N w0 l.toArray Q R (cM::H) Z l.length (Array.replicate l.length false) e R (p::H))(hm:P.follows .mixedOrders=true:=by kernel_rfl)(hc:Region.noSelect l.toArray=true:=by kernel_rfl):XK N w0 ((Code.region id l.toArray true).wp P Q) e R (p::H):=fun a w hr st=>by
 have:=h ⟨Down.start _ _,hc⟩ a w.drew hr st.drew
 refine wp_region_any hm (aC6 (S:=St w0 R (cM::H)) (Z:=Z) _ _ _ _ ?_)
 simpa using this
end
def Nq(k:Int):Value:=if k=103 then .iface 237 (.agg #[]) else if k=112 then .iface 238 (.agg #[]) else if k=114 then .iface 240 (.agg #[.bool false]) else if k=119 then .iface 240 (.agg #[.bool true]) else if k=115 then .iface 241 (.agg #[]) else if k=109 then .iface 242 (.agg #[]) else .nilIface
def qK(k:Int):Prop:=k=103∨k=112∨k=114∨k=119∨k=115∨k=109
instance(k:Int):Decidable (qK k):=by unfold qK;infer_instance
theorem aAE(k:Int)(w:World):Cz 45 #[.int .u8 k] w (Rt (Nq k) w):=by
 unfold Nq;refine aN func45 ntmps45 ?_;refine aA ?_;refine aG rfl (fun h0=>?_) (fun h0=>?_)
 ·rw[if_pos h0];refine aB ?_;refine kd (Sm rfl) ?_;refine aA ?_;exact cZ
 rw[if_neg h0];refine aA ?_;refine aG rfl (fun h1=>?_) (fun h1=>?_)
 ·rw[if_pos h1];refine aB ?_;refine kd (Sm rfl) ?_;refine aA ?_;exact cZ
 rw[if_neg h1];refine aA ?_;refine aG rfl (fun h2=>?_) (fun h2=>?_)
 ·rw[if_pos h2];refine aB ?_;refine kd (Sm rfl) ?_;refine aA ?_;exact cZ
 rw[if_neg h2];refine aA ?_;refine aG rfl (fun h3=>?_) (fun h3=>?_)
 ·rw[if_pos h3];refine aB ?_;refine kd (Sm rfl) ?_;refine aA ?_;exact cZ
 rw[if_neg h3];refine aA ?_;refine aG rfl (fun h4=>?_) (fun h4=>?_)
 ·rw[if_pos h4];refine aB ?_;refine kd (Sm rfl) ?_;refine aA ?_;exact cZ
 rw[if_neg h4];refine aA ?_;refine aG rfl (fun h5=>?_) (fun h5=>?_)
 ·rw[if_pos h5];refine aB ?_;refine kd (Sm rfl) ?_;refine aA ?_;exact cZ
 rw[if_neg h5];refine aA ?_;exact cZ
theorem aRs{k:Int}(h:¬qK k):Nq k=.nilIface:=by
 unfold qK at h;unfold Nq;rw[if_neg (by omega),if_neg (by omega),if_neg (by omega),if_neg (by omega),if_neg (by omega),if_neg (by omega)]
theorem aRr{k:Int}(h:qK k):∃u y,Nq k=.iface u y:=by
 rcases h with rfl | rfl | rfl | rfl | rfl | rfl<;>exact⟨_,_,rfl⟩
def vN(z:aW)(t kind dev bX val:Int):Int×aW:=if bN 3 t=false then(4,z) else if(z.tk t.toNat).st≠0 then(7,z) else if ¬qK kind then(1,z) else(0,z.jR t.toNat {z.tk t.toNat with st:=1,kind:=kind,dev:=dev,bX:=bX,val:=val})
section
variable(g h f:Nat)(s:aC)(z:aW)(w:World)(F:Nat→Prop)
theorem aG6(t kind dev bX val:Int)(hp:(gL g h f s z).sat F w)(hF:∀b,F b→b < w.heap.size):
  Cz 17 #[pt g,iv t,.agg #[.int .u8 kind,iv dev,iv bX,.int .u32 val]] w (Wr (iv (vN z t kind dev bX val).1) (gL g h f s (vN z t kind dev bX val).2) w F):=by
 unfold vN;refine dB func17 ntmps17 hp hF ?_;refine aA ?_;refine bF fun g1=>?_;refine aA ?_;refine aU (fun w1 _=>Vd t w1) ?_;cases hin:bN 3 t
 ·refine aA ?_;exact cI 1 hF
 ·rw [if_neg (by simp)];obtain⟨j,rfl,hj⟩:=Jy hin;rw[Int.toNat_natCast];refine kB 1 fun L=>?_;refine aZ 1 0 ?_
  by_cases hst:(z.tk j).st=0
  ·rw[if_neg (by simpa using hst)]
   by_cases hk:qK kind
   ·rw[if_neg (by simpa using hk)];obtain⟨u,y,hy⟩:=aRr hk;obtain⟨z',hz⟩:∃z',z'=z.jR j {z.tk j with st:=1,kind:=kind,dev:=dev,bX:=bX,val:=val}:=⟨_,rfl⟩
    rw[←hz];rcases hj with rfl | rfl | rfl
    all_goals
     refine aA ?_;refine kd (fB _ _ (ho:=rfl)) ?_;refine aA ?_;refine aG rfl (fun h1=>absurd hst h1) (fun _=>?_);refine aA ?_;refine aU (fun w1 _=>aAE kind w1) ?_;rw[hy];refine aA ?_;refine kd (aJa rfl (.inr ⟨⟨_,_,rfl⟩,rfl⟩)) ?_;refine aA ?_;refine kd (fB _ _ (ho:=rfl)) ?_;refine aA ?_;refine Oh [2] ?_;refine bH 0 ?_ (hsub:=fun _ h=>h.cT);refine bH 1 ?_ (hsub:=fun _ h=>h.cT);refine aK 2 ?_ (hsub:=fun _ h=>h.cT);refine aJ 3 ?_;refine bA ?_;refine bB ?_ (hS:=fun _ h=>h.cT);refine aJ 4 ?_;refine bA ?_;refine bB ?_ (hS:=fun _ h=>h.cT);refine aJ 5 ?_;refine fF rfl rfl ?_ (hs:=eO.mk 0 rfl cG.h rfl (of_decide_eq_true rfl));dsimp only[List.set];refine bB ?_ (hS:=fun _ h=>h.cT);refine aJ 6 ?_;refine bA ?_;refine bB ?_ (hS:=fun _ h=>h.cT);refine aJ 7 ?_;refine bA ?_;refine bB ?_ (hS:=fun _ h=>h.cT);refine aJ 8 ?_;refine Qu 0 rfl ?_;dsimp only[List.set];refine bB ?_ (hS:=fun _ h=>h.cT);refine eN ?_;refine aA ?_;refine aM 1 0 ?_;refine xG 1 (f:=fun L:dK=>fT g h f L s z') L (by subst hz;rfl) ?_;dsimp only[List.set];exact cI 1 hF
   ·rw[if_pos (by simpa using hk)];rcases hj with rfl | rfl | rfl
    all_goals
     refine aA ?_;refine kd (fB _ _ (ho:=rfl)) ?_;refine aA ?_;refine aG rfl (fun h1=>absurd hst h1) (fun _=>?_);refine aA ?_;refine aU (fun w1 _=>aAE kind w1) ?_;rw[aRs hk];refine aA ?_;refine kd (aJa rfl (.inl ⟨rfl,rfl⟩)) ?_;refine aA ?_;refine aM 1 0 ?_;refine fC 1 (fun L:dK=>fT g h f L s z) L ?_;exact cI 1 hF
  ·rw[if_pos hst];rcases hj with rfl | rfl | rfl
   all_goals
    refine aA ?_;refine kd (fB _ _ (ho:=rfl)) ?_;refine aA ?_;refine aG rfl (fun _=>?_) (fun h1=>absurd (Decidable.not_not.1 h1) hst);refine aA ?_;refine aM 1 0 ?_;refine fC 1 (fun L:dK=>fT g h f L s z) L ?_;exact cI 1 hF
end
end
section
section
variable{N:cH}{w0:World}{e:Env}{R:List Piece}{H:List HP}{K:Act→World→Prop}
theorem aAk(i:Nat){b o:Nat}{t:TypeId}{cs vs:List Value}(hi:H[i]? =some (HP.aE b t cs))(hv:(cs.drop o).take vs.length=vs):aQ w0 R H b o vs:=aQ.aE i hi fun j v hj=>by
 rw[←hv,List.getElem?_take] at hj;split at hj
 ·rw[List.getElem?_drop] at hj;exact hj
 ·cases hj
theorem aTG(j i:Nat){ps:List HP}{p q:HP}(hj:H[j]? =some (HP.many ps))(hi:ps[i]? =some p)(hq:∀F w,p.sat F w→q.sat F w)(k:XK N w0 K e R (H.set j (HP.many (ps.set i q)))):XK N w0 K e R H:=by
 have hlt:=(List.getElem?_eq_some_iff.1 hj).1
 have Kg:=(List.getElem?_eq_some_iff.1 hi).1
 refine oO j i hj hi ?_;refine Bm 0 rfl hq ?_;refine sX j i (by rw[List.getElem?_set_self hlt]) (by rw[List.getElem?_set_self Kg]) ?_;rw[List.set_set,List.set_set];exact k
end
def kE(z:aW)(j:Nat)(err res:Int):aW:={z.jR j {z.tk j with st:=3,err:=err,res:=res} with eX:= -1,steps:=[],sent:=false,aS:=false}
def nM(z:aW)(t:Int):(Int×Int×Bool)×aW:=if bN 3 t=false then((0,0,false),z) else if(z.tk t.toNat).st≠3 then((0,0,false),z) else(((z.tk t.toNat).err,(z.tk t.toNat).res,true),z.jR t.toNat {z.tk t.toNat with st:=0,kind:=0,dev:=0,bX:=0,val:=0,err:=0,res:=0})
section
variable(g h f:Nat)(s:aC)(z:aW)(w:World)(F:Nat→Prop)
theorem Jl(j:Nat)(eX:z.eX=(j:Int))(hj:j=0∨j=1∨j=2)(err res:Int)(hp:(gL g h f s z).sat F w)(hF:∀b,F b→b < w.heap.size):
  Cz 53 #[pt g,.agg #[iv err,.int .u32 res]] w (Wr (.tuple #[]) (gL g h f s (kE z j err res)) w F):=by
 refine dB func53 ntmps53 hp hF ?_;obtain⟨z',hz⟩:∃z',z'=kE z j err res:=⟨_,rfl⟩
 rw[←hz];refine kB 0 fun L=>?_;refine aZ 0 0 ?_;rcases hj with rfl | rfl | rfl
 all_goals
  refine aA ?_;refine bF fun g1=>?_;refine aY [1,0,2] rfl (by decide) (fun _ h=>h) ?_;refine aA ?_;refine mM ?_;refine jC ?_;refine xF (fB _ _ (hj:=eX) (ho:=rfl)) ?_;refine jD ?_;refine aA ?_;refine Oh [2] ?_;refine bH 0 ?_ (hsub:=fun _ h=>h.cT);refine bH 1 ?_ (hsub:=fun _ h=>h.cT);refine aK 2 ?_ (hsub:=fun _ h=>h.cT);refine aJ 3 ?_;refine bA ?_;refine bB ?_ (hS:=fun _ h=>h.cT);refine aJ 4 ?_;refine bA ?_;refine bB ?_ (hS:=fun _ h=>h.cT);refine aJ 5 ?_;refine fF rfl rfl ?_ (hs:=eO.mk 0 rfl cG.h rfl (of_decide_eq_true rfl));dsimp only[List.set];refine bB ?_ (hS:=fun _ h=>h.cT);refine aJ 6 ?_;refine bA ?_;refine bB ?_ (hS:=fun _ h=>h.cT);refine aJ 7 ?_;refine bA ?_;refine bB ?_ (hS:=fun _ h=>h.cT);refine aJ 8 ?_;refine Qu 0 rfl ?_;dsimp only[List.set];refine bB ?_ (hS:=fun _ h=>h.cT);refine eN ?_;refine aA ?_;refine fF rfl rfl ?_ (hs:=eO.mk 0 rfl cG.h rfl (of_decide_eq_true rfl));dsimp only[List.set];refine aA ?_;refine fF rfl rfl ?_ (hs:=eO.mk 0 rfl cG.h rfl (of_decide_eq_true rfl));dsimp only[List.set];refine aA ?_;refine fF rfl rfl ?_ (hs:=eO.mk 0 rfl cG.h rfl (of_decide_eq_true rfl));dsimp only[List.set];refine aA ?_;refine fF rfl rfl ?_ (hs:=eO.mk 0 rfl cG.h rfl (of_decide_eq_true rfl));dsimp only[List.set];refine aA ?_;refine aM 1 0 ?_;refine aTG (q:=HP.cE (oP {L with st:=(none,0)} []) (oP.le (L:={L with st:=(none,0)}) (l:=[]))) 1 5 rfl rfl (fun F w _=>⟨aI.nil _ _,Nat.le_refl _⟩) ?_;dsimp only[List.set];refine xG 1 (f:=fun L:dK=>fT g h f L s z') {L with st:=(none,0)} (by subst hz;rfl) ?_;dsimp only[List.set];exact jE 1 hF
theorem aG8(t:Int)(hp:(gL g h f s z).sat F w)(hF:∀b,F b→b < w.heap.size):
  Cz 23 #[pt g,iv t] w (Wr (.tuple #[.agg #[iv (nM z t).1.1,.int .u32 (nM z t).1.2.1],.bool (nM z t).1.2.2]) (gL g h f s (nM z t).2) w F):=by
 unfold nM;refine dB func23 ntmps23 hp hF ?_;refine aA ?_;refine bT fun g1=>?_;refine aA ?_;refine aU (fun w1 _=>Vd t w1) ?_;cases hin:bN 3 t
 ·refine aA ?_;refine kd (fL rfl) ?_;refine aA ?_;exact xH (vs:=[iv 0,.int .u32 0]) rfl (by kernel_rfl) rfl rfl (aQ.whole 0 rfl) rfl fun w1 t=>⟨rfl,t.turns hF (by simp) (i:=1) rfl⟩
 ·rw[if_neg (by simp)];obtain⟨j,rfl,hj⟩:=Jy hin;rw[Int.toNat_natCast];refine kB 1 fun L=>?_;refine aZ 1 0 ?_
  by_cases hst:(z.tk j).st=3
  ·rw[if_neg (by simpa using hst)];obtain⟨z',hz⟩:∃z',z'=z.jR j {z.tk j with st:=0,kind:=0,dev:=0,bX:=0,val:=0,err:=0,res:=0}:=⟨_,rfl⟩
   rw[←hz];rcases hj with rfl | rfl | rfl
   all_goals
    refine aA ?_;refine kd (fB _ _ (ho:=rfl)) ?_;refine aA ?_;refine aG rfl (fun h1=>absurd hst h1) (fun _=>?_);refine aA ?_;refine kd (fB _ _ (ho:=rfl)) ?_;refine aA ?_;refine kd (pL rfl (aAk (vs:=[_,_]) 0 rfl rfl)) ?_;refine bT fun g2=>?_;refine aA ?_;refine kd (fL rfl) ?_;refine kd (fL rfl) ?_;refine aA ?_;refine fF rfl rfl ?_ (hs:=eO.mk 1 rfl cG.h rfl (of_decide_eq_true rfl));dsimp only[List.set];refine aA ?_;refine Qu 1 rfl ?_;dsimp only[List.set];refine aA ?_;refine Qu 1 rfl ?_;dsimp only[List.set];refine aA ?_;refine aY [1,0,2,3] rfl (by decide) (fun _ h=>h) ?_;refine aM 2 0 ?_;refine xG 2 (f:=fun L:dK=>fT g h f L s z') L (by subst hz;rfl) ?_;dsimp only[List.set];exact xH (vs:=[_,_]) rfl (by kernel_rfl) rfl rfl (aQ.whole 1 rfl) rfl fun w1 t=>⟨rfl,t.turns hF (by simp) (i:=2) rfl⟩
  ·rw[if_pos hst];rcases hj with rfl | rfl | rfl
   all_goals
    refine aA ?_;refine kd (fB _ _ (ho:=rfl)) ?_;refine aA ?_;refine aG rfl (fun _=>?_) (fun h1=>absurd (Decidable.not_not.1 h1) hst);refine aA ?_;refine kd (fL rfl) ?_;refine aA ?_;refine aM 1 0 ?_;refine fC 1 (fun L:dK=>fT g h f L s z) L ?_;exact xH (vs:=[iv 0,.int .u32 0]) rfl (by kernel_rfl) rfl rfl (aQ.whole 0 rfl) rfl fun w1 t=>⟨rfl,t.turns hF (by simp) (i:=1) rfl⟩
end
end
section
def Lh(ks:List Int)(v:Int):List Int:=if ks.contains v then ks else ks++[v]
def Lx(g:List (List Int))(ks:List Int)(i:Nat):List Int:=if ks.contains (i:Int) then(g.getD i []).foldl Lh ks else ks
def Mj(g:List (List Int))(v:Int)(n:Nat):Nat→List Int
 | 0=>[v]
 | k+1=>Lx g (Mj g v n k) (n - 1 - k)
def uL(ks:List Int)(v:Int)(n:Nat):List Nat:=(List.range n).filter fun u:Nat=>decide (¬(u:Int)=v)&&ks.contains (u:Int)
def Bl(g:List (List Int))(v:Int)(n:Nat):List Nat:=uL (Mj g v n n) v n
theorem aHl(ks:List Int)(v:Int)(n:Nat):(uL ks v n).length≤n:=Nat.le_trans (List.length_filter_le _ _) (by simp)
theorem aNT(ks:List Int)(v:Int)(n:Nat):uL ks v (n+1)=if(decide (¬(n:Int)=v)&&ks.contains (n:Int))=true then uL ks v n++[n] else uL ks v n:=by
 unfold uL;rw[List.range_succ,List.filter_append];simp only[List.filter_cons,List.filter_nil];split<;>simp
theorem aNV(A:Option Addr)(n c:Nat)(g:List (List Int))(v:Int)(w:World)(hg:nF (all w) A n g)(hn:n=g.length)(hn2:n≤100)(hlen:∀l∈g,(l.length:Int)≤9223372036854775806)(hv:0≤v∧v < n)(ho:fX g=(0,List.range n)):
  Cz 141 #[.slice A n c,iv v] w (fun y w'=>(∃x,y=.returned x∧Tw g x w w')∧Below w.heap.size w w'):=by
 refine aN func141 ntmps141 ?_;refine aA ?_;refine jS [] (Tw g) (fun w1 st=>(aAP A n c g w1 (hg.le (st.le (by simp))) hn (by omega) hlen).mono fun y w' h=>h.aDg) ?_;rintro _ w1 q ⟨A',m,c',rfl,hm,hs⟩ hf _ hfr
 have hs:=hs.le hf
 rw[ho] at hs hm;rw[ho];dsimp only at hs hm⊢;refine aA ?_;refine bU (t:=18) rfl (fun h=>absurd h (by omega)) (fun _=>?_);refine aA ?_;refine aG rfl (fun h=>absurd h (by omega)) (fun _=>?_);refine aA ?_;exact eL rfl rfl rfl fun w1 t=>⟨⟨_,rfl,A',m,c',by rw[ho];rfl,by rw[ho];exact hm,by rw[ho];exact hs.le (t.mL (by simp) (hfr (by simp)))⟩,t.below (by simp)⟩
theorem aNS(q:Piece)(r:Nat)(ks:List Int)(A:Option Addr)(n c:Nat)(v:Int)(w:World)(hn2:n≤100)(hm:sH w r (mF ks))(hq:q.Le (all w))(hs:aI q 1 A n (aL (dM (List.range n)))):
  Cz 144 #[.slice A n c,.map (some r),iv v] w (Tt (Jf (uL ks v n)) w):=by
 refine aN func144 ntmps144 ?_;refine Bn q (by simp) hq ?_;refine aA ?_;refine iR 3 1 ?_;refine bL [(12,iv 0),(11,iv n),(10,.slice A n c),(7,sn),(1,.map (some r)),(2,iv v)] ?_;refine eJ (fun m e R H=>∃(i:Nat) (B:Option Addr) (k:Nat),i≤n∧m=n - i∧e=[(12,iv i),(11,iv n),(10,.slice A n c),(7,.slice B (uL ks v i).length k),(1,.map (some r)),(2,iv v)]∧R=[q,all w]∧H=[HP.own 3 1 (.slice B (uL ks v i).length k) (uL ks v i).length (aL (dM (uL ks v i)))]) n ⟨0,none,0,by omega,rfl,rfl,rfl,rfl⟩ fun m e R H hI=>?_;obtain⟨i,B,k,hi,rfl,rfl,rfl,rfl⟩:=hI
 have pU:=aHl ks v i
 have dU:=aNT ks v i
 generalize hl:uL ks v i=l at pU dU⊢;refine aA ?_;refine aG rfl (fun hlt=>?_) (fun hge=>?_)
 ·have hlt:i < n:=by omega
  obtain⟨b,off,hA,hz,hc⟩:=hs.2 (by omega)
  have sA:=hc i (iv (i:Int)) (by simp[aL,dM,hlt])
  refine aA ?_;refine kd (dat i (off+i) (hx:=by rw[←hA];rfl)) ?_;refine aA ?_;refine kd (bP rfl (Rd.ro (p:=q) (by simp) hz sA)) ?_;refine aA ?_;refine bU (t:=19) rfl (fun hv=>?_) (fun hv=>?_)
  ·refine aA ?_;refine aU (fun w1 t=>aAW r i ks w1 (hm.below (t.below (by simp)))) ?_;rw[decide_eq_true hv,Bool.true_and] at dU;cases hk:ks.contains (i:Int)
   ·rw[hk,if_neg (by simp)] at dU;refine aA ?_;refine bL [(12,iv (i+1:Nat)),(11,iv n),(10,.slice A n c),(7,.slice B l.length k),(1,.map (some r)),(2,iv v)] ?_;exact iF (n - (i+1)) (by omega) ⟨i+1,B,k,hlt,rfl,by rw[dU],rfl,by rw[dU]⟩
   ·rw[hk,if_pos rfl] at dU;refine aA ?_;refine eK fun g4=>?_;refine gM 1 1 8 1 (n':=l.length+1) (el:=3) (by kernel_rfl) (by kernel_rfl) (by decide) rfl rfl rfl (nS 0 rfl rfl) (by simp[Value.oneCell']) rfl (by omega) (by omega) (by decide) fun An cn=>?_;dsimp only[List.set];refine aA ?_;refine aY [1] rfl (by decide) (fun _ h=>h) ?_;refine bL [(12,iv (i+1:Nat)),(11,iv n),(10,.slice A n c),(7,.slice An (l.length+1) cn),(1,.map (some r)),(2,iv v)] ?_;exact iF (n - (i+1)) (by omega) ⟨i+1,An,cn,hlt,rfl,by rw[dU];simp,rfl,by rw[dU];simp[aL,dM]⟩
  ·rw[decide_eq_false hv,Bool.false_and,if_neg (by simp)] at dU;refine aA ?_;refine bL [(12,iv (i+1:Nat)),(11,iv n),(10,.slice A n c),(7,.slice B l.length k),(1,.map (some r)),(2,iv v)] ?_;exact iF (n - (i+1)) (by omega) ⟨i+1,B,k,hlt,rfl,by rw[dU],rfl,by rw[dU]⟩
 ·obtain rfl:i=n:=by omega
  subst hl;refine aA ?_;refine dP [] [0] [] (by simp) rfl (by decide) (by decide) fun q2 uU _ hfr=>?_
  have h2:aI q2 1 B (uL ks v i).length (aL (dM (uL ks v i))):=aI.own (uU 0 _ (by simp) rfl)
  exact aT (h:=fun w1 t=>⟨_,rfl,B,k,rfl,h2.le (t.mL (by simp) (hfr (by simp) (by simp)))⟩)
theorem aQ8(q0:Piece)(A:Option Addr)(n c:Nat)(g:List (List Int))(v:Nat)(w:World)(Kc:q0.Le (all w))(hg:nF q0 A n g)(hn:n=g.length)(hn2:n≤100)(hlen:∀l∈g,(l.length:Int)≤1000)(hv:v < n)(ho:fX g=(0,List.range n)):
  Cz 65 #[.slice A n c,iv (v:Int)] w (Tt (fun x w w'=>∃A' c',x=.tuple #[.slice A' (Bl g v n).length c',iv 0]∧aI (fresh w w') 1 A' (Bl g v n).length (aL (dM (Bl g v n)))) w):=by
 refine aN func65 ntmps65 ?_;refine Bn q0 (by simp) Kc ?_;refine aA ?_;refine jS [] (Tw g) (fun w1 st=>aNV A n c g v w1 (hg.le (st.le (by simp))) hn hn2 (fun l hl=>by have:=hlen l hl;omega) (by omega) ho) ?_;rintro _ w1 q ⟨A',m,c',rfl,hm,hs⟩ hf _ _
 have hs:=hs.le hf
 rw[ho] at hs hm;rw[ho];dsimp only at hs hm⊢;obtain rfl:m=n:=by simpa using hm
 refine aA ?_;refine aAs (by decide) fun r=>?_;refine aA ?_;refine eC 0 (HP.map r (mF [(v:Int)])) (fun w1 F1 t h1 h2 h3=>aAX r v [] w1 F1 h1 h2) ?_;refine aA ?_;refine aY [0] rfl (by decide) (R':=[q,q0,all w]) (by simp) ?_;refine bL [(9,iv ((m:Int) - 1)),(6,.slice A' m c'),(8,.map (some r)),(0,.slice A m c),(1,iv (v:Int))] ?_;refine eJ (fun k e R H=>k≤m∧e=[(9,iv ((k:Int) - 1)),(6,.slice A' m c'),(8,.map (some r)),(0,.slice A m c),(1,iv (v:Int))]∧R=[q,q0,all w]∧H=[HP.map r (mF (Mj g v m (m - k)))]) m ⟨Nat.le_refl _,rfl,rfl,by rw[Nat.sub_self];rfl⟩ fun k e R H hI=>?_;obtain⟨hk,rfl,rfl,rfl⟩:=hI;refine aA ?_;refine aG rfl (fun hge=>?_) (fun hlt=>?_)
 ·obtain⟨k,rfl⟩:∃j,k=j+1:=⟨k - 1,by omega⟩
  have hkm:k < m:=by omega
  obtain⟨row,hrow⟩:=get_some (l:=g) (i:=k) (by omega)
  have dU:Mj g v m (m - k)=Lx g (Mj g v m (m - (k+1))) k:=by
   rw[show m - k=(m - (k+1))+1 by omega]
   show Lx g _ (m - 1 - (m - (k+1)))=_
   rw[show m - 1 - (m - (k+1))=k by omega]
  generalize hks:Mj g v m (m - (k+1))=ks at dU⊢;obtain⟨b,off,pW,hz,hc⟩:=hs.2 (by omega)
  have yL:=hc k (iv (k:Int)) (by simp[aL,dM,hkm])
  obtain⟨gb,aQt,gr,hA,hgz,kM,⟨RA,rn,rk,rfl,Wn,Wm⟩,Xc⟩:=jQ.aGG hg hrow
  have hrl:=hlen row (List.mem_of_getElem? hrow)
  have hrd:=Xc 0 _ rfl
  subst Wn;refine aA ?_;refine kd (dat k (off+k) (hx:=by rw[←pW];rfl)) ?_;refine kd (bP rfl (Rd.ro (p:=q) (by simp) hz yL)) ?_;refine aU (fun w1 t=>aAW r k ks w1 (t.map (i:=0) rfl)) ?_;cases hkc:ks.contains (k:Int)
  ·have h2:Lx g ks k=ks:=by unfold Lx;rw[hkc];rfl
   rw[h2] at dU;refine aA ?_;refine bL [(9,iv (((k+1:Nat):Int) - 1 - 1)),(6,.slice A' m c'),(8,.map (some r)),(0,.slice A m c),(1,iv (v:Int))] ?_;exact iF k (by omega) ⟨by omega,by rw[show(((k+1:Nat):Int) - 1 - 1)=(k:Int) - 1 by omega],rfl,by rw[dU]⟩
  ·have h2:Lx g ks k=row.foldl Lh ks:=by
    unfold Lx;rw[hkc,if_pos rfl,List.getD_eq_getElem?_getD,hrow];rfl
   rw[h2] at dU;refine aA ?_;refine kd (dat k (off+k) (hx:=by rw[←pW];rfl)) ?_;refine kd (bP rfl (Rd.ro (p:=q) (by simp) hz yL)) ?_;refine kd (dat k (aQt+k*1) (hx:=by rw[←hA];rfl)) ?_;refine kd (bP rfl (Rd.ro (p:=q0) (by simp) hgz hrd)) ?_;refine aA ?_;refine bL [(47,iv 0),(46,iv row.length),(45,.slice RA row.length rk),(9,iv (((k+1:Nat):Int) - 1)),(6,.slice A' m c'),(8,.map (some r)),(0,.slice A m c),(1,iv (v:Int))] ?_;refine eJ (fun u e R H=>∃i:Nat,i≤row.length∧u=row.length - i∧e=[(47,iv i),(46,iv row.length),(45,.slice RA row.length rk),(9,iv (((k+1:Nat):Int) - 1)),(6,.slice A' m c'),(8,.map (some r)),(0,.slice A m c),(1,iv (v:Int))]∧R=[q,q0,all w]∧H=[HP.map r (mF ((row.take i).foldl Lh ks))]) row.length ⟨0,by omega,rfl,rfl,rfl,rfl⟩ fun u e R H hI=>?_;obtain⟨i,hi,rfl,rfl,rfl,rfl⟩:=hI;refine aA ?_;refine aG rfl (fun vX=>?_) (fun aIj=>?_)
   ·have vX:i < row.length:=by omega
    obtain⟨y,hy⟩:=get_some vX;obtain⟨rb,aMK,hRA,hrz,hrc⟩:=(show aI q0 1 RA row.length (aL row) from Wm).2 (by omega)
    have Kk:=hrc i (iv y) (by simp[aL,hy])
    have gB:(row.take (i+1)).foldl Lh ks=Lh ((row.take i).foldl Lh ks) y:=by
     rw[List.take_add_one,hy,List.foldl_append];rfl
    generalize hk2:(row.take i).foldl Lh ks=ks2 at gB⊢;refine aA ?_;refine kd (dat i (aMK+i) (hx:=by rw[←hRA];rfl)) ?_;refine aA ?_;refine kd (bP rfl (Rd.ro (p:=q0) (by simp) hrz Kk)) ?_;refine aA ?_;refine eC 0 (HP.map r (mF (Lh ks2 y))) (fun w1 F1 t h1 h2 h3=>aAX r y ks2 w1 F1 h1 h2) ?_;refine aA ?_;refine bL [(47,iv (i+1:Nat)),(46,iv row.length),(45,.slice RA row.length rk),(9,iv (((k+1:Nat):Int) - 1)),(6,.slice A' m c'),(8,.map (some r)),(0,.slice A m c),(1,iv (v:Int))] ?_;exact iF (row.length - (i+1)) (by omega) ⟨i+1,vX,rfl,rfl,rfl,by rw[gB]⟩
   ·obtain rfl:i=row.length:=by omega
    rw[List.take_length,←dU];refine aA ?_;refine bL [(9,iv (((k+1:Nat):Int) - 1 - 1)),(6,.slice A' m c'),(8,.map (some r)),(0,.slice A m c),(1,iv (v:Int))] ?_;exact iF k (by omega) ⟨by omega,by rw[show(((k+1:Nat):Int) - 1 - 1)=(k:Int) - 1 by omega],rfl,rfl⟩
 ·obtain rfl:k=0:=by omega
  rw[Nat.sub_zero];refine aA ?_;refine jS [] (Jf (Bl g v m)) (fun w1 t=>aNS q r _ A' m c' v w1 hn2 (t.map (i:=0) rfl) (t.le (by simp)) hs) ?_;rintro _ w1 q2 ⟨B,kb,rfl,hb⟩ nX _ hfr;refine aA ?_;exact eL rfl rfl rfl fun w1 t=>⟨⟨_,rfl,B,kb,rfl,(hb.le nX).le (t.mL (by simp) (hfr (by simp)))⟩,t.below (by simp)⟩
end
section
def wE(g:List (List Int))(c:Cn)(n:Nat):Nat→List Bool
 | 0=>List.replicate n false
 | i+1=>if gT c.l (i:Int)≤0 then wE g c n i else(Bl g (i:Int) n).foldl (fun l u=>l.set u true) ((wE g c n i).set i true)
def Oa(g:List (List Int))(n:Nat)(c:Cn):List Bool:=if c.gJ then List.replicate n false else wE g c n n
theorem aCO:∀(us:List Nat) (l:List Bool),(us.foldl (fun l u=>l.set u true) l).length=l.length
 | [],l=>rfl
 | u::us,l=>by
  rw[List.foldl_cons,aCO us];simp
theorem Zk(g:List (List Int))(c:Cn)(n:Nat):∀i,(wE g c n i).length=n
 | 0=>by simp[wE]
 | i + 1 => by
  unfold wE;split
  ·exact Zk g c n i
  ·rw[aCO,List.length_set];exact Zk g c n i
theorem aTB(g:List (List Int))(n:Nat)(c:Cn):(Oa g n c).length=n:=by
 unfold Oa;split
 ·simp
 ·exact Zk g c n n
def Dv(A:Option Addr)(g:List (List Int))(p:Piece):Prop:=nF p A g.length g
theorem Dv.le{A:Option Addr}{g:List (List Int)}(p q:Piece)(hl:p.Le q)(h:Dv A g p):Dv A g q:=nF.le h hl
def Lt(gc gm:Nat)(A:Option Addr)(k:Nat)(g:List (List Int))(c:Cn):HP:=HP.many [nQ gc gm (.slice A g.length k) c,HP.cE (Dv A g) (Dv.le (A:=A) (g:=g))]
theorem St.cE{w0 w:World}{R:List Piece}{H:List HP}{Φ:Piece→Prop}{hm:∀p q:Piece,p.Le q→Φ p→Φ q}(t:St w0 R H w)(i:Nat)(hi:H[i]? =some (HP.cE Φ hm)):Φ (all w):=by
 obtain⟨F,h1,h2,_⟩:=t.chunk hi;exact hm ⟨w,F⟩ (all w) (fun b hb=>⟨h2 b hb,rfl⟩) h1
theorem aEE{l:List Bool}{i:Nat}{b:Bool}:(bK l).set i (.bool b)=bK (l.set i b):=by simp[bK,List.map_set]
theorem aNU{ks:List Int}{v:Int}{n u:Nat}(h:u∈uL ks v n):u < n:=by
 unfold uL at h;exact List.mem_range.1 (List.mem_filter.1 h).1
theorem aJj(gc gm:Nat)(A:Option Addr)(k:Nat)(g:List (List Int))(c:Cn)(n:Nat)(hn:n=g.length)(hn2:n≤100)(hlen:∀l∈g,(l.length:Int)≤1000)(ho:fX g=(0,List.range n))(w:World)(F:Nat→Prop)(hp:(Lt gc gm A k g c).sat F w)(hF:∀b,F b→b < w.heap.size):
  Cz 30 #[pt gc] w (fun y w'=>∃b:Nat,y=.returned (.slice (some ⟨b,0,none⟩) n n)∧True∧∃F',(HP.many [Lt gc gm A k g c,HP.aE b 4 (bK (Oa g n c))]).sat F' w'∧iH w w' F F'):=by
 refine dB func30 ntmps30 hp hF ?_;generalize cN:(⟨w,fun b=>b < w.heap.size∧¬F b⟩:Piece)=R0;obtain⟨cl,gJ⟩:=c;refine aZ 0 1 ?_;refine aZ 1 0 ?_;refine aZ 0 0 ?_;refine aZ 1 1 ?_;subst hn;refine aB ?_;refine mA (n:=g.length) 1 (el:=4) (z:=.bool false) (by kernel_rfl) (by kernel_rfl) rfl rfl rfl (by omega) (by omega) (by decide) fun gl=>?_;rw[show List.replicate g.length (Value.bool false)=bK (List.replicate g.length false) from by simp[bK]];unfold Oa;cases gJ
 ·dsimp only;refine aB ?_;refine bL [(22,iv 0),(21,iv g.length),(3,.slice (some ⟨gl,0,none⟩) g.length g.length),(0,pt gc)] ?_;refine eJ (fun m e R H=>∃i:Nat,i≤g.length∧m=g.length - i∧e=[(22,iv i),(21,iv g.length),(3,.slice (some ⟨gl,0,none⟩) g.length g.length),(0,pt gc)]∧R=[R0]∧H=[HP.aE gl 4 (bK (wE g ⟨cl,false⟩ g.length i)),HP.map gm (sC cl),HP.aE gc 160 [.slice A g.length k,.map (some gm),.bool false],HP.many [cM,cM],HP.cE (Dv A g) (Dv.le (A:=A) (g:=g)),HP.many [cM,cM]]) g.length ⟨0,by omega,rfl,rfl,rfl,rfl⟩ fun m e R H hI=>?_;obtain⟨i,hi,rfl,rfl,rfl,rfl⟩:=hI
  have hal:=Zk g ⟨cl,false⟩ g.length i
  have dU:wE g ⟨cl,false⟩ g.length (i+1)=if gT cl (i:Int)≤0 then wE g ⟨cl,false⟩ g.length i else(Bl g (i:Int) g.length).foldl (fun l u=>l.set u true) ((wE g ⟨cl,false⟩ g.length i).set i true):=rfl
  generalize hl:wE g ⟨cl,false⟩ g.length i=l at hal dU⊢;refine aB ?_;refine aG rfl (fun hlt=>?_) (fun hge=>?_)
  ·have hlt:i < g.length:=by omega
   refine aB ?_;refine Qw 1 rfl ?_;refine aB ?_;refine aG rfl (fun h0=>?_) (fun h0=>?_)
   ·rw[if_pos h0] at dU;refine aB ?_;exact dX (g.length - (i+1)) ⟨i+1,hlt,rfl,rfl,rfl,by rw[dU]⟩
   ·rw[if_neg h0] at dU;refine aB ?_;refine fF rfl rfl ?_ (hs:=eO.mk 0 rfl cG.h rfl (by simp[bK];omega));dsimp only[List.set];rw[aEE];refine aB ?_;refine jS [] (fun x w w'=>∃A' c',x=.tuple #[.slice A' (Bl g (i:Int) g.length).length c',iv 0]∧aI (fresh w w') 1 A' (Bl g (i:Int) g.length).length (aL (dM (Bl g (i:Int) g.length)))) (fun w1 t=>aQ8 (all w1) A g.length k g i w1 (Piece.Le.refl _) (t.cE 4 rfl) rfl hn2 hlen hlt ho) ?_;rintro _ w1 q ⟨B,kb,rfl,hb⟩ hf _ _
    have hb:=hb.le hf
    have Rb:=aHl (Mj g (i:Int) g.length g.length) (i:Int) g.length
    have hum:∀u∈Bl g (i:Int) g.length,u < g.length:=fun u hu=>aNU hu
    change (Bl g (i:Int) g.length).length≤_ at Rb
    generalize hus:Bl g (i:Int) g.length=us at dU hb Rb hum⊢;refine aB ?_;refine bL [(46,iv 0),(45,iv us.length),(44,.slice B us.length kb),(22,iv i),(21,iv g.length),(3,.slice (some ⟨gl,0,none⟩) g.length g.length),(0,pt gc)] ?_;refine eJ (fun m e R H=>∃j:Nat,j≤us.length∧m=us.length - j∧e=[(46,iv j),(45,iv us.length),(44,.slice B us.length kb),(22,iv i),(21,iv g.length),(3,.slice (some ⟨gl,0,none⟩) g.length g.length),(0,pt gc)]∧R=[q,R0]∧H=[HP.aE gl 4 (bK ((us.take j).foldl (fun l u=>l.set u true) (l.set i true))),HP.map gm (sC cl),HP.aE gc 160 [.slice A g.length k,.map (some gm),.bool false],HP.many [cM,cM],HP.cE (Dv A g) (Dv.le (A:=A) (g:=g)),HP.many [cM,cM]]) us.length ⟨0,by omega,rfl,rfl,rfl,rfl⟩ fun m e R H hI=>?_;obtain⟨j,hj,rfl,rfl,rfl,rfl⟩:=hI;refine aB ?_;refine aG rfl (fun vX=>?_) (fun aIj=>?_)
    ·have vX:j < us.length:=by omega
     obtain⟨u,hu⟩:=get_some vX
     have hun:=hum u (List.mem_of_getElem? hu)
     obtain⟨b,off,hB,hz,hc⟩:=hb.2 (by omega)
     have hcu:=hc j (iv (u:Int)) (by simp[aL,dM,hu])
     have gB:(us.take (j+1)).foldl (fun l u=>l.set u true) (l.set i true)=((us.take j).foldl (fun l u=>l.set u true) (l.set i true)).set u true:=by
      rw[List.take_add_one,hu,List.foldl_append];rfl
     have Hr:((us.take j).foldl (fun l u=>l.set u true) (l.set i true)).length=g.length:=by rw[aCO,List.length_set];exact hal
     generalize hl3:(us.take j).foldl (fun l u=>l.set u true) (l.set i true)=l3 at gB Hr⊢;refine aB ?_;refine kd (dat j (off+j) (hx:=by rw[←hB];rfl)) ?_;refine aA ?_;refine kd (bP rfl (Rd.ro (p:=q) (by simp) hz hcu)) ?_;refine aA ?_;refine kd (dat u u) ?_;refine fF rfl rfl ?_ (hs:=eO.mk 0 rfl cG.h rfl (by simp[bK];omega));dsimp only[List.set];rw[aEE,←gB];refine aB ?_;exact dX (us.length - (j+1)) ⟨j+1,vX,rfl,rfl,rfl,rfl⟩
    ·obtain rfl:j=us.length:=by omega
     rw[List.take_length,←dU];refine aB ?_;refine aY [0,1,2,3,4,5] rfl (by decide) (R':=[R0]) (by simp) ?_;exact dX (g.length - (i+1)) ⟨i+1,hlt,rfl,rfl,rfl,rfl⟩
  ·obtain rfl:i=g.length:=by omega
   subst hl;refine aB ?_;refine aY [1,2,3,4,5,0] rfl (by decide) (fun _ h=>h) ?_;refine aM 1 1 ?_;refine aM 0 0 ?_;refine aM 1 0 ?_;refine aM 0 1 ?_;refine nB ?_;subst cN;exact nA rfl rfl fun w1 t=>⟨gl,rfl,trivial,t.turns hF (by simp) (i:=0) rfl⟩
 ·dsimp only;refine aB ?_;refine aY [1,2,3,4,5,0] rfl (by decide) (fun _ h=>h) ?_;refine aM 1 1 ?_;refine aM 0 0 ?_;refine aM 1 0 ?_;refine aM 0 1 ?_;refine nB ?_;subst cN;exact nA rfl rfl fun w1 t=>⟨gl,rfl,trivial,t.turns hF (by simp) (i:=0) rfl⟩
end
end Go.Proofs.YtdcdccmpcmjmhaaGreatDoor
