/- package table: what is wished then. -/
import Derived.Tactics2
import Derived.Test.YtdcdccmpcmjmhaaGreatDoorRpmOneK5
namespace Go.Proofs.YtdcdccmpcmjmhaaGreatDoor
set_option linter.all false
open Go.RowKit
section
set_option maxHeartbeats 4000000
set_option maxRecDepth 20000
def Uj(P:Program)(c:Code)(Q:Exit→Act→World→Prop):Nat→Act→World→Prop
 | 0=>fun _ _=>False
 | n+1=>c.wp P (Exit.then (Uj P c Q n) Q)
section
variable{P:Program}{N:bO}{w0:World}{e:Env}{R:List Piece}{H:List HP}{Q:Exit→Act→World→Prop}{c:Code}{n:Nat}
theorem XK.rounds(n:Nat)(h:XK N w0 (Uj P c Q n) e R H):XK N w0 ((Code.loop c).wp P Q) e R H:=fun a w hr st=>by
 refine Zs (Uj P c Q) n (h a w hr st) fun n a w hI=>?_
 cases n with
 | zero=>exact absurd hI (fun h=>h)
 | succ n=>
  refine wp_mono hI fun x a' w' hq=>?_
  cases x with
  | normal=>exact⟨n,Nat.lt_succ_self n,hq⟩
  | _=>exact hq
theorem XK.Tp{y:Code}{x:Code}(M:Env→List Piece→List HP→Prop)(h:XK N w0 (x.wp P (Exit.then (fun a' w'=>∃e' R' H',M e' R' H'∧dM N e' a'∧St w0 R' H' w') Q)) e R H)
  (hy:∀e' R' H',M e' R' H'→XK N w0 (y.wp P Q) e' R' H'):XK N w0 (x.wp P (Exit.then (y.wp P Q) Q)) e R H:=fun a w hr st=>
 wp_mono (h a w hr st) fun x a' w' hq=>by
  cases x with
  | normal=>
   obtain⟨e',R',H',hm,hr',st'⟩:=hq
   exact hy e' R' H' hm a' w' hr' st'
  | _=>exact hq
theorem XK.rnd(h:XK N w0 (c.wp P (Exit.then (Uj P c Q n) Q)) e R H):XK N w0 (Uj P c Q (n+1)) e R H:=h
end
theorem aEZ(x y:dJ)(ag:Nat)(k id:Int):(cS x ag k id).d.length=x.d.length∧(cS x ag k id).c.length=x.c.length∧(cS x ag k id).l.length=x.l.length∧(cR y ag k id).d.length=y.d.length∧(cR y ag k id).c.length=y.c.length∧(cR y ag k id).l.length=y.l.length:=by
 have h:∀z:dJ,(eD z k id).d.length=z.d.length∧(eD z k id).c.length=z.c.length∧(eD z k id).l.length=z.l.length:=fun z=>by
  unfold eD
  split
  ·exact⟨Kt _ _ _,rfl,rfl⟩
  ·split
   ·exact⟨rfl,Kt _ _ _,rfl⟩
   ·split
    ·exact⟨rfl,rfl,Kt _ _ _⟩
    ·exact⟨rfl,rfl,rfl⟩
 unfold cS cR
 split
 ·exact⟨(h x).1,(h x).2.1,(h x).2.2,rfl,rfl,rfl⟩
 ·exact⟨rfl,rfl,rfl,(h y).1,(h y).2.1,(h y).2.2⟩
theorem aMI(qx:Piece)(X1 X2 X3 Y1 Y2 Y3:Option Addr)(tU tT tS tQ tP tO:Nat)(x y:dJ)(ag:Nat)(k id:Int)(w:World)(Cj:qx.Le (all w))(hag:ag < 2)(hbx:x.sm)(hby:y.sm)(s0:aE qx 1 X1 x.d.length (aP x.d))(s1:aE qx 1 X2 x.c.length (aP x.c))(s2:aE qx 1 X3 x.l.length (aP x.l))(s3:aE qx 1 Y1 y.d.length (aP y.d))(s4:aE qx 1 Y2 y.c.length (aP y.c))(s5:aE qx 1 Y3 y.l.length (aP y.l)):
  Calls Tryz.prog 99 #[.agg #[.slice X1 x.d.length tU,.slice X2 x.c.length tT,.slice X3 x.l.length tS,.slice Y1 y.d.length tQ,.slice Y2 y.c.length tP,.slice Y3 y.l.length tO],iv (ag:Int),.agg #[.int .u8 k,iv id]] w (Ob (fun v w w'=>qW (fresh w w') (cS x ag k id) (cR y ag k id) v) w):=by
 obtain⟨h0,h1,h2⟩:=hbx
 obtain⟨h3,h4,h5⟩:=hby
 refine XK.en Tryz.func99 Tryz.ntmps99 ?_
 refine XK.piece qx (by simp) Cj ?_
 refine XK.go ?_
 refine aS fun g1=>?_
 refine aS fun g2=>?_
 refine bB fun g3=>?_
 refine XK.go ?_
 refine bB fun g4=>?_
 refine XK.go ?_
 refine XK.rounds 3 ?_
 refine XK.rnd ?_
 refine XK.go ?_
 refine aC0 0 (len:=2) (n:=3) (by kernel_rfl) rfl rfl rfl (by decide) rfl (by decide) ?_
 refine bB fun g5=>?_
 refine XK.go ?_
 refine XK.eU [1,2,4,5,7,8,11] ?_
 refine XB.mv 0 ?_
 refine XB.q 1 ?_
 refine XB.q 2 ?_
 refine XB.q 4 ?_
 refine XB.q 5 ?_
 refine XB.q 7 ?_
 refine XB.q 8 ?_
 refine XB.q 11 ?_
 refine XB.next 3 rfl (by kernel_rfl) ?_
 refine fB (Ke x.d.length (aP x.d)) (fun w1 st=>Np _ _ _ _ w1 (s0.le (st.le (by simp))) (Nw _) (by have:=h0;omega)) ?_
 rintro _ _ q0 ⟨B0,c0,rfl,rfl⟩ _
 dsimp only[List.cons_append,List.nil_append]
 refine XB.bk ?_ (hS:=fun _ h=>h.aK.tail)
 refine XB.next 6 rfl (by kernel_rfl) ?_
 refine fB (Ke x.c.length (aP x.c)) (fun w1 st=>Np _ _ _ _ w1 (s1.le (st.le (by simp))) (Nw _) (by have:=h1;omega)) ?_
 rintro _ _ q1 ⟨B1,c1,rfl,rfl⟩ _
 dsimp only[List.cons_append,List.nil_append]
 refine XB.bk ?_ (hS:=fun _ h=>h.aK.aK.tail.tail)
 refine XB.next 9 rfl (by kernel_rfl) ?_
 refine fB (Ke x.l.length (aP x.l)) (fun w1 st=>Np _ _ _ _ w1 (s2.le (st.le (by simp))) (Nw _) (by have:=h2;omega)) ?_
 rintro _ _ q2 ⟨B2,c2,rfl,rfl⟩ _
 dsimp only[List.cons_append,List.nil_append]
 refine XB.bk ?_ (hS:=fun _ h=>h.aK.aK.aK.tail.tail.tail)
 refine XB.next 10 rfl (by kernel_rfl) ?_
 refine kd (eM rfl) ?_
 refine XB.bk ?_ (hS:=fun _ h=>h.aK.aK.aK.tail.tail.tail)
 refine XB.next 12 rfl (by kernel_rfl) ?_
 refine kd (dX (sz:=3) 0 0) ?_
 refine XB.bt ?_
 refine XB.next 13 rfl (by kernel_rfl) ?_
 refine pY rfl rfl ?_;simp only[eE,Value.cells,List.set,List.take,List.drop,List.nil_append,List.append_nil,List.length_cons,List.length_nil,List.cons_append,Nat.reduceAdd]
 refine XB.bt ?_
 refine XB.done (by kernel_rfl) ?_
 refine XK.go ?_
 refine XK.weak [2,1,0,4,5,6,7] rfl (by decide) (R':=[qx,all w]) (by simp) ?_
 refine XK.rnd ?_
 refine XK.go ?_
 refine aC0 1 (len:=2) (n:=3) (by kernel_rfl) rfl rfl rfl (by decide) rfl (by decide) ?_
 refine bB fun g6=>?_
 refine XK.go ?_
 refine XK.eU [1,2,4,5,7,8,11] ?_
 refine XB.mv 0 ?_
 refine XB.q 1 ?_
 refine XB.q 2 ?_
 refine XB.q 4 ?_
 refine XB.q 5 ?_
 refine XB.q 7 ?_
 refine XB.q 8 ?_
 refine XB.q 11 ?_
 refine XB.next 3 rfl (by kernel_rfl) ?_
 refine fB (Ke y.d.length (aP y.d)) (fun w1 st=>Np _ _ _ _ w1 (s3.le (st.le (by simp))) (Nw _) (by have:=h3;omega)) ?_
 rintro _ _ q3 ⟨B3,c3,rfl,rfl⟩ _
 dsimp only[List.cons_append,List.nil_append]
 refine XB.bk ?_ (hS:=fun _ h=>h.aK.tail)
 refine XB.next 6 rfl (by kernel_rfl) ?_
 refine fB (Ke y.c.length (aP y.c)) (fun w1 st=>Np _ _ _ _ w1 (s4.le (st.le (by simp))) (Nw _) (by have:=h4;omega)) ?_
 rintro _ _ q4 ⟨B4,c4,rfl,rfl⟩ _
 dsimp only[List.cons_append,List.nil_append]
 refine XB.bk ?_ (hS:=fun _ h=>h.aK.aK.tail.tail)
 refine XB.next 9 rfl (by kernel_rfl) ?_
 refine fB (Ke y.l.length (aP y.l)) (fun w1 st=>Np _ _ _ _ w1 (s5.le (st.le (by simp))) (Nw _) (by have:=h5;omega)) ?_
 rintro _ _ q5 ⟨B5,c5,rfl,rfl⟩ _
 dsimp only[List.cons_append,List.nil_append]
 refine XB.bk ?_ (hS:=fun _ h=>h.aK.aK.aK.tail.tail.tail)
 refine XB.next 10 rfl (by kernel_rfl) ?_
 refine kd (eM rfl) ?_
 refine XB.bk ?_ (hS:=fun _ h=>h.aK.aK.aK.tail.tail.tail)
 refine XB.next 12 rfl (by kernel_rfl) ?_
 refine kd (dX (sz:=3) 1 3) ?_
 refine XB.bt ?_
 refine XB.next 13 rfl (by kernel_rfl) ?_
 refine pY rfl rfl ?_;simp only[eE,Value.cells,List.set,List.take,List.drop,List.nil_append,List.append_nil,List.length_cons,List.length_nil,List.cons_append,Nat.reduceAdd]
 refine XB.bt ?_
 refine XB.done (by kernel_rfl) ?_
 refine XK.go ?_
 refine XK.weak [4,5,6,2,1,0,9,7,8] rfl (by decide) (R':=[qx,all w]) (by simp) ?_
 refine XK.rnd ?_
 refine XK.go ?_
 refine aW (t:=33) rfl (fun h=>absurd h (by omega)) (fun _=>?_)
 refine XK.go ?_
 refine XK.if_ rfl (fun h=>absurd h (by omega)) (fun _=>?_)
 refine XK.go ?_
 obtain rfl | rfl:ag=0∨ag=1:=by omega
 ·refine XK.eU [1,2,3,4] ?_
  refine XB.mv 0 ?_
  refine XB.q 1 ?_
  refine XB.q 2 ?_ (cY:=dX (sz:=3) 0 0)
  refine XB.q 3 ?_
  refine XB.q 4 ?_
  refine XB.next 5 rfl (by kernel_rfl) ?_
  refine aJ (fun w1 t=>aAP g4 0 k (.slice B0 x.d.length c0) (.slice B1 x.c.length c1) (.slice B2 x.l.length c2) w1 (by simpa using(t.box (i:=7) rfl).at_ (j:=0) rfl) (by simpa using(t.box (i:=7) rfl).at_ (j:=1) rfl) (by simpa using(t.box (i:=7) rfl).at_ (j:=2) rfl)) ?_
  refine XB.bt ?_
  refine XB.next 6 rfl (by kernel_rfl) ?_
  refine bA ?_
  refine XB.bt ?_
  refine XB.done (by kernel_rfl) ?_
  refine XK.norm ?_
  refine XK.weak [0,1,2,3,4,5,6,7,8] rfl (by decide) (fun _ h=>h) ?_
  refine XK.aT [(10,dZ k (.slice B0 x.d.length c0) (.slice B1 x.c.length c1) (.slice B2 x.l.length c2)),(7,pt g4),(6,pt g3),(5,pt g2)] ?_
  refine XK.Tp (fun e R H=>e=[(7,pt g4),(6,pt g3)]∧R=[qx,all w]∧∃x2 y2:dJ,x2=cS x 0 k id∧y2=cR y 0 k id∧H=[HP.own 4 1 (.slice B0 x.d.length c0) x.d.length (aP x2.d),HP.own 4 1 (.slice B1 x.c.length c1) x.c.length (aP x2.c),HP.own 4 1 (.slice B2 x.l.length c2) x.l.length (aP x2.l),HP.own 4 1 (.slice B3 y.d.length c3) y.d.length (aP y2.d),HP.own 4 1 (.slice B4 y.c.length c4) y.c.length (aP y2.c),HP.own 4 1 (.slice B5 y.l.length c5) y.l.length (aP y2.l),HP.aB g2 136 [.int .u8 k,iv id],HP.aB g4 130 [.slice B0 x.d.length c0,.slice B1 x.c.length c1,.slice B2 x.l.length c2,.slice B3 y.d.length c3,.slice B4 y.c.length c4,.slice B5 y.l.length c5],HP.aB g3 130 [sn,sn,sn,sn,sn,sn]]) ?_ ?_
  ·by_cases k0:k=117∨k=100∨k=107
   ·rw[show dZ k (.slice B0 x.d.length c0) (.slice B1 x.c.length c1) (.slice B2 x.l.length c2)=.slice B0 x.d.length c0 by rw[dZ,if_pos k0]]
    refine XK.go ?_
    refine aW (t:=47) rfl (fun hid=>?_) (fun hid=>?_)
    ·refine XK.go ?_
     refine XK.if_ rfl (fun lY=>?_) (fun lY=>?_)
     ·have hin:0≤id∧id < (x.d.length:Int):=⟨hid,lY⟩
      have e1:cS x 0 k id=⟨kJ x.d id (decide (iM k)),x.c,x.l⟩:=by simp[cS,eD,k0]
      have e2:cR y 0 k id=y:=by simp[cR,eD,k0]
      refine XK.Hp 0 rfl (by omega) ?_
      rintro⟨gb,rfl⟩
      refine XK.xX 0 rfl fun cs fK hct hnc yL=>?_
      dsimp only[List.set]
      have yK:cs.take x.d.length=aP x.d:=by simpa using hct
      have Ir:cs.length=c0:=by simpa using fK
      refine XK.eU [1,2,3,4] ?_
      refine XB.mv 0 ?_
      refine XB.q 1 ?_
      refine XB.q 2 ?_
      refine XB.q 3 ?_
      refine XB.q 4 ?_
      refine XB.next 5 rfl (by kernel_rfl) ?_
      refine aJ (fun w1 t=>Eo k w1) ?_
      refine XB.bk ?_
      refine XB.next 6 rfl (by kernel_rfl) ?_
      refine kd (dat id.toNat id.toNat) ?_
      refine XB.bt ?_
      refine XB.next 7 rfl (by kernel_rfl) ?_
      refine dL rfl rfl ?_
      dsimp only[List.set]
      refine XB.bt ?_
      refine XB.done (by kernel_rfl) ?_
      refine XK.go ?_
      refine XK.wT 0 (n:=x.d.length) (c:=c0) (sz:=1) (xs:=aP (kJ x.d id (decide (iM k)))) rfl (by simpa using fK) (by rw[Nat.mul_one,←Nv _ hin,←yK,List.take_set]) hnc yL ?_
      dsimp only[List.set]
      exact XK.me ⟨rfl,rfl,⟨kJ x.d id (decide (iM k)),x.c,x.l⟩,y,e1.symm,e2.symm,rfl⟩
     ·have hin:¬(0≤id∧id < (x.d.length:Int)):=fun h=>lY h.2
      have e1:cS x 0 k id=x:=by simp[cS,eD,k0,lI _ hin]
      have e2:cR y 0 k id=y:=by simp[cR,eD,k0,lI _ hin]
      refine XK.go ?_
      exact XK.me ⟨rfl,rfl,x,y,e1.symm,e2.symm,rfl⟩
    ·have hin:¬(0≤id∧id < (x.d.length:Int)):=fun h=>hid h.1
     have e1:cS x 0 k id=x:=by simp[cS,eD,k0,lI _ hin]
     have e2:cR y 0 k id=y:=by simp[cR,eD,k0,lI _ hin]
     refine XK.go ?_
     exact XK.me ⟨rfl,rfl,x,y,e1.symm,e2.symm,rfl⟩
   by_cases k1:k=99∨k=111
   ·rw[show dZ k (.slice B0 x.d.length c0) (.slice B1 x.c.length c1) (.slice B2 x.l.length c2)=.slice B1 x.c.length c1 by rw[dZ,if_neg k0,if_pos k1]]
    refine XK.go ?_
    refine aW (t:=47) rfl (fun hid=>?_) (fun hid=>?_)
    ·refine XK.go ?_
     refine XK.if_ rfl (fun lY=>?_) (fun lY=>?_)
     ·have hin:0≤id∧id < (x.c.length:Int):=⟨hid,lY⟩
      have e1:cS x 0 k id=⟨x.d,kJ x.c id (decide (iM k)),x.l⟩:=by simp[cS,eD,k0,k1]
      have e2:cR y 0 k id=y:=by simp[cR,eD,k0,k1]
      refine XK.Hp 1 rfl (by omega) ?_
      rintro⟨gb,rfl⟩
      refine XK.xX 1 rfl fun cs fK hct hnc yL=>?_
      dsimp only[List.set]
      have yK:cs.take x.c.length=aP x.c:=by simpa using hct
      have Ir:cs.length=c1:=by simpa using fK
      refine XK.eU [1,2,3,4] ?_
      refine XB.mv 0 ?_
      refine XB.q 1 ?_
      refine XB.q 2 ?_
      refine XB.q 3 ?_
      refine XB.q 4 ?_
      refine XB.next 5 rfl (by kernel_rfl) ?_
      refine aJ (fun w1 t=>Eo k w1) ?_
      refine XB.bk ?_
      refine XB.next 6 rfl (by kernel_rfl) ?_
      refine kd (dat id.toNat id.toNat) ?_
      refine XB.bt ?_
      refine XB.next 7 rfl (by kernel_rfl) ?_
      refine dL rfl rfl ?_
      dsimp only[List.set]
      refine XB.bt ?_
      refine XB.done (by kernel_rfl) ?_
      refine XK.go ?_
      refine XK.wT 1 (n:=x.c.length) (c:=c1) (sz:=1) (xs:=aP (kJ x.c id (decide (iM k)))) rfl (by simpa using fK) (by rw[Nat.mul_one,←Nv _ hin,←yK,List.take_set]) hnc yL ?_
      dsimp only[List.set]
      exact XK.me ⟨rfl,rfl,⟨x.d,kJ x.c id (decide (iM k)),x.l⟩,y,e1.symm,e2.symm,rfl⟩
     ·have hin:¬(0≤id∧id < (x.c.length:Int)):=fun h=>lY h.2
      have e1:cS x 0 k id=x:=by simp[cS,eD,k0,k1,lI _ hin]
      have e2:cR y 0 k id=y:=by simp[cR,eD,k0,k1,lI _ hin]
      refine XK.go ?_
      exact XK.me ⟨rfl,rfl,x,y,e1.symm,e2.symm,rfl⟩
    ·have hin:¬(0≤id∧id < (x.c.length:Int)):=fun h=>hid h.1
     have e1:cS x 0 k id=x:=by simp[cS,eD,k0,k1,lI _ hin]
     have e2:cR y 0 k id=y:=by simp[cR,eD,k0,k1,lI _ hin]
     refine XK.go ?_
     exact XK.me ⟨rfl,rfl,x,y,e1.symm,e2.symm,rfl⟩
   by_cases k2:k=114∨k=97
   ·rw[show dZ k (.slice B0 x.d.length c0) (.slice B1 x.c.length c1) (.slice B2 x.l.length c2)=.slice B2 x.l.length c2 by rw[dZ,if_neg k0,if_neg k1,if_pos k2]]
    refine XK.go ?_
    refine aW (t:=47) rfl (fun hid=>?_) (fun hid=>?_)
    ·refine XK.go ?_
     refine XK.if_ rfl (fun lY=>?_) (fun lY=>?_)
     ·have hin:0≤id∧id < (x.l.length:Int):=⟨hid,lY⟩
      have e1:cS x 0 k id=⟨x.d,x.c,kJ x.l id (decide (iM k))⟩:=by simp[cS,eD,k0,k1,k2]
      have e2:cR y 0 k id=y:=by simp[cR,eD,k0,k1,k2]
      refine XK.Hp 2 rfl (by omega) ?_
      rintro⟨gb,rfl⟩
      refine XK.xX 2 rfl fun cs fK hct hnc yL=>?_
      dsimp only[List.set]
      have yK:cs.take x.l.length=aP x.l:=by simpa using hct
      have Ir:cs.length=c2:=by simpa using fK
      refine XK.eU [1,2,3,4] ?_
      refine XB.mv 0 ?_
      refine XB.q 1 ?_
      refine XB.q 2 ?_
      refine XB.q 3 ?_
      refine XB.q 4 ?_
      refine XB.next 5 rfl (by kernel_rfl) ?_
      refine aJ (fun w1 t=>Eo k w1) ?_
      refine XB.bk ?_
      refine XB.next 6 rfl (by kernel_rfl) ?_
      refine kd (dat id.toNat id.toNat) ?_
      refine XB.bt ?_
      refine XB.next 7 rfl (by kernel_rfl) ?_
      refine dL rfl rfl ?_
      dsimp only[List.set]
      refine XB.bt ?_
      refine XB.done (by kernel_rfl) ?_
      refine XK.go ?_
      refine XK.wT 2 (n:=x.l.length) (c:=c2) (sz:=1) (xs:=aP (kJ x.l id (decide (iM k)))) rfl (by simpa using fK) (by rw[Nat.mul_one,←Nv _ hin,←yK,List.take_set]) hnc yL ?_
      dsimp only[List.set]
      exact XK.me ⟨rfl,rfl,⟨x.d,x.c,kJ x.l id (decide (iM k))⟩,y,e1.symm,e2.symm,rfl⟩
     ·have hin:¬(0≤id∧id < (x.l.length:Int)):=fun h=>lY h.2
      have e1:cS x 0 k id=x:=by simp[cS,eD,k0,k1,k2,lI _ hin]
      have e2:cR y 0 k id=y:=by simp[cR,eD,k0,k1,k2,lI _ hin]
      refine XK.go ?_
      exact XK.me ⟨rfl,rfl,x,y,e1.symm,e2.symm,rfl⟩
    ·have hin:¬(0≤id∧id < (x.l.length:Int)):=fun h=>hid h.1
     have e1:cS x 0 k id=x:=by simp[cS,eD,k0,k1,k2,lI _ hin]
     have e2:cR y 0 k id=y:=by simp[cR,eD,k0,k1,k2,lI _ hin]
     refine XK.go ?_
     exact XK.me ⟨rfl,rfl,x,y,e1.symm,e2.symm,rfl⟩
   rw[show dZ k (.slice B0 x.d.length c0) (.slice B1 x.c.length c1) (.slice B2 x.l.length c2)=sn by rw[dZ,if_neg k0,if_neg k1,if_neg k2]]
   have e1:cS x 0 k id=x:=by simp[cS,eD,k0,k1,k2]
   have e2:cR y 0 k id=y:=by simp[cR,eD,k0,k1,k2]
   refine XK.go ?_
   refine aW (t:=47) rfl (fun hid=>?_) (fun hid=>?_)
   ·refine XK.go ?_
    refine XK.if_ rfl (fun h=>absurd h (by omega)) (fun _=>?_)
    refine XK.go ?_
    exact XK.me ⟨rfl,rfl,x,y,e1.symm,e2.symm,rfl⟩
   ·refine XK.go ?_
    exact XK.me ⟨rfl,rfl,x,y,e1.symm,e2.symm,rfl⟩
  ·rintro _ _ _ ⟨rfl,rfl,x2,y2,rQ,zX,rfl⟩
   refine XK.weak [7,8,0,1,2,3,4,5] rfl (by decide) (fun _ h=>h) ?_
   refine XK.go ?_
   refine XK.still [] [2,3,4,5,6,7] [0,1] (by simp) rfl (by decide) (by decide) fun q hq _ hfr=>?_
   obtain⟨F0,sf0,Zl⟩:=hq 2 _ (by simp) rfl
   have hs0:=aE.own (q:=q) ⟨F0,sf0,Zl⟩
   obtain⟨F1,Pg,Oj⟩:=hq 3 _ (by simp) rfl
   have hs1:=aE.own (q:=q) ⟨F1,Pg,Oj⟩
   obtain⟨F2,rL,rG⟩:=hq 4 _ (by simp) rfl
   have eL:=aE.own (q:=q) ⟨F2,rL,rG⟩
   obtain⟨F3,sf3,Zk⟩:=hq 5 _ (by simp) rfl
   have lV:=aE.own (q:=q) ⟨F3,sf3,Zk⟩
   obtain⟨F4,sf4,Zj⟩:=hq 6 _ (by simp) rfl
   have mW:=aE.own (q:=q) ⟨F4,sf4,Zj⟩
   obtain⟨F5,sf5,Zi⟩:=hq 7 _ (by simp) rfl
   have jT:=aE.own (q:=q) ⟨F5,sf5,Zi⟩
   refine XK.By rfl (n:=6) (vs:=[.slice B0 x.d.length c0,.slice B1 x.c.length c1,.slice B2 x.l.length c2,.slice B3 y.d.length c3,.slice B4 y.c.length c4,.slice B5 y.l.length c5]) (by kernel_rfl) rfl rfl (aH.whole 1 rfl) fun w1 st=>⟨⟨_,rfl,?_⟩,st.below (by simp)⟩
   have hle:=st.jD (by simp) (hfr (by simp) (by simp))
   have l1:x2.d.length=x.d.length∧x2.c.length=x.c.length∧x2.l.length=x.l.length∧y2.d.length=y.d.length∧y2.c.length=y.c.length∧y2.l.length=y.l.length:=by
    rw[rQ,zX]
    exact aEZ x y _ k id
   rw[←rQ,←zX]
   obtain⟨l1,l2,l3,l4,l5,l6⟩:=l1
   refine⟨B0,c0,B1,c1,B2,c2,B3,c3,B4,c4,B5,c5,?_,?_,?_,?_,?_,?_,?_⟩
   ·rw[l1,l2,l3,l4,l5,l6]
   ·rw[l1];exact hs0.le hle
   ·rw[l2];exact hs1.le hle
   ·rw[l3];exact eL.le hle
   ·rw[l4];exact lV.le hle
   ·rw[l5];exact mW.le hle
   ·rw[l6];exact jT.le hle
 ·refine XK.eU [1,2,3,4] ?_
  refine XB.mv 0 ?_
  refine XB.q 1 ?_
  refine XB.q 2 ?_ (cY:=dX (sz:=3) 1 3)
  refine XB.q 3 ?_
  refine XB.q 4 ?_
  refine XB.next 5 rfl (by kernel_rfl) ?_
  refine aJ (fun w1 t=>aAP g4 3 k (.slice B3 y.d.length c3) (.slice B4 y.c.length c4) (.slice B5 y.l.length c5) w1 (by simpa using(t.box (i:=7) rfl).at_ (j:=3) rfl) (by simpa using(t.box (i:=7) rfl).at_ (j:=4) rfl) (by simpa using(t.box (i:=7) rfl).at_ (j:=5) rfl)) ?_
  refine XB.bt ?_
  refine XB.next 6 rfl (by kernel_rfl) ?_
  refine bA ?_
  refine XB.bt ?_
  refine XB.done (by kernel_rfl) ?_
  refine XK.norm ?_
  refine XK.weak [0,1,2,3,4,5,6,7,8] rfl (by decide) (fun _ h=>h) ?_
  refine XK.aT [(10,dZ k (.slice B3 y.d.length c3) (.slice B4 y.c.length c4) (.slice B5 y.l.length c5)),(7,pt g4),(6,pt g3),(5,pt g2)] ?_
  refine XK.Tp (fun e R H=>e=[(7,pt g4),(6,pt g3)]∧R=[qx,all w]∧∃x2 y2:dJ,x2=cS x 1 k id∧y2=cR y 1 k id∧H=[HP.own 4 1 (.slice B0 x.d.length c0) x.d.length (aP x2.d),HP.own 4 1 (.slice B1 x.c.length c1) x.c.length (aP x2.c),HP.own 4 1 (.slice B2 x.l.length c2) x.l.length (aP x2.l),HP.own 4 1 (.slice B3 y.d.length c3) y.d.length (aP y2.d),HP.own 4 1 (.slice B4 y.c.length c4) y.c.length (aP y2.c),HP.own 4 1 (.slice B5 y.l.length c5) y.l.length (aP y2.l),HP.aB g2 136 [.int .u8 k,iv id],HP.aB g4 130 [.slice B0 x.d.length c0,.slice B1 x.c.length c1,.slice B2 x.l.length c2,.slice B3 y.d.length c3,.slice B4 y.c.length c4,.slice B5 y.l.length c5],HP.aB g3 130 [sn,sn,sn,sn,sn,sn]]) ?_ ?_
  ·by_cases k0:k=117∨k=100∨k=107
   ·rw[show dZ k (.slice B3 y.d.length c3) (.slice B4 y.c.length c4) (.slice B5 y.l.length c5)=.slice B3 y.d.length c3 by rw[dZ,if_pos k0]]
    refine XK.go ?_
    refine aW (t:=47) rfl (fun hid=>?_) (fun hid=>?_)
    ·refine XK.go ?_
     refine XK.if_ rfl (fun lY=>?_) (fun lY=>?_)
     ·have hin:0≤id∧id < (y.d.length:Int):=⟨hid,lY⟩
      have e1:cS x 1 k id=x:=by simp[cS,eD,k0]
      have e2:cR y 1 k id=⟨kJ y.d id (decide (iM k)),y.c,y.l⟩:=by simp[cR,eD,k0]
      refine XK.Hp 3 rfl (by omega) ?_
      rintro⟨gb,rfl⟩
      refine XK.xX 3 rfl fun cs fK hct hnc yL=>?_
      dsimp only[List.set]
      have yK:cs.take y.d.length=aP y.d:=by simpa using hct
      have Ir:cs.length=c3:=by simpa using fK
      refine XK.eU [1,2,3,4] ?_
      refine XB.mv 0 ?_
      refine XB.q 1 ?_
      refine XB.q 2 ?_
      refine XB.q 3 ?_
      refine XB.q 4 ?_
      refine XB.next 5 rfl (by kernel_rfl) ?_
      refine aJ (fun w1 t=>Eo k w1) ?_
      refine XB.bk ?_
      refine XB.next 6 rfl (by kernel_rfl) ?_
      refine kd (dat id.toNat id.toNat) ?_
      refine XB.bt ?_
      refine XB.next 7 rfl (by kernel_rfl) ?_
      refine dL rfl rfl ?_
      dsimp only[List.set]
      refine XB.bt ?_
      refine XB.done (by kernel_rfl) ?_
      refine XK.go ?_
      refine XK.wT 3 (n:=y.d.length) (c:=c3) (sz:=1) (xs:=aP (kJ y.d id (decide (iM k)))) rfl (by simpa using fK) (by rw[Nat.mul_one,←Nv _ hin,←yK,List.take_set]) hnc yL ?_
      dsimp only[List.set]
      exact XK.me ⟨rfl,rfl,x,⟨kJ y.d id (decide (iM k)),y.c,y.l⟩,e1.symm,e2.symm,rfl⟩
     ·have hin:¬(0≤id∧id < (y.d.length:Int)):=fun h=>lY h.2
      have e1:cS x 1 k id=x:=by simp[cS,eD,k0,lI _ hin]
      have e2:cR y 1 k id=y:=by simp[cR,eD,k0,lI _ hin]
      refine XK.go ?_
      exact XK.me ⟨rfl,rfl,x,y,e1.symm,e2.symm,rfl⟩
    ·have hin:¬(0≤id∧id < (y.d.length:Int)):=fun h=>hid h.1
     have e1:cS x 1 k id=x:=by simp[cS,eD,k0,lI _ hin]
     have e2:cR y 1 k id=y:=by simp[cR,eD,k0,lI _ hin]
     refine XK.go ?_
     exact XK.me ⟨rfl,rfl,x,y,e1.symm,e2.symm,rfl⟩
   by_cases k1:k=99∨k=111
   ·rw[show dZ k (.slice B3 y.d.length c3) (.slice B4 y.c.length c4) (.slice B5 y.l.length c5)=.slice B4 y.c.length c4 by rw[dZ,if_neg k0,if_pos k1]]
    refine XK.go ?_
    refine aW (t:=47) rfl (fun hid=>?_) (fun hid=>?_)
    ·refine XK.go ?_
     refine XK.if_ rfl (fun lY=>?_) (fun lY=>?_)
     ·have hin:0≤id∧id < (y.c.length:Int):=⟨hid,lY⟩
      have e1:cS x 1 k id=x:=by simp[cS,eD,k0,k1]
      have e2:cR y 1 k id=⟨y.d,kJ y.c id (decide (iM k)),y.l⟩:=by simp[cR,eD,k0,k1]
      refine XK.Hp 4 rfl (by omega) ?_
      rintro⟨gb,rfl⟩
      refine XK.xX 4 rfl fun cs fK hct hnc yL=>?_
      dsimp only[List.set]
      have yK:cs.take y.c.length=aP y.c:=by simpa using hct
      have Ir:cs.length=c4:=by simpa using fK
      refine XK.eU [1,2,3,4] ?_
      refine XB.mv 0 ?_
      refine XB.q 1 ?_
      refine XB.q 2 ?_
      refine XB.q 3 ?_
      refine XB.q 4 ?_
      refine XB.next 5 rfl (by kernel_rfl) ?_
      refine aJ (fun w1 t=>Eo k w1) ?_
      refine XB.bk ?_
      refine XB.next 6 rfl (by kernel_rfl) ?_
      refine kd (dat id.toNat id.toNat) ?_
      refine XB.bt ?_
      refine XB.next 7 rfl (by kernel_rfl) ?_
      refine dL rfl rfl ?_
      dsimp only[List.set]
      refine XB.bt ?_
      refine XB.done (by kernel_rfl) ?_
      refine XK.go ?_
      refine XK.wT 4 (n:=y.c.length) (c:=c4) (sz:=1) (xs:=aP (kJ y.c id (decide (iM k)))) rfl (by simpa using fK) (by rw[Nat.mul_one,←Nv _ hin,←yK,List.take_set]) hnc yL ?_
      dsimp only[List.set]
      exact XK.me ⟨rfl,rfl,x,⟨y.d,kJ y.c id (decide (iM k)),y.l⟩,e1.symm,e2.symm,rfl⟩
     ·have hin:¬(0≤id∧id < (y.c.length:Int)):=fun h=>lY h.2
      have e1:cS x 1 k id=x:=by simp[cS,eD,k0,k1,lI _ hin]
      have e2:cR y 1 k id=y:=by simp[cR,eD,k0,k1,lI _ hin]
      refine XK.go ?_
      exact XK.me ⟨rfl,rfl,x,y,e1.symm,e2.symm,rfl⟩
    ·have hin:¬(0≤id∧id < (y.c.length:Int)):=fun h=>hid h.1
     have e1:cS x 1 k id=x:=by simp[cS,eD,k0,k1,lI _ hin]
     have e2:cR y 1 k id=y:=by simp[cR,eD,k0,k1,lI _ hin]
     refine XK.go ?_
     exact XK.me ⟨rfl,rfl,x,y,e1.symm,e2.symm,rfl⟩
   by_cases k2:k=114∨k=97
   ·rw[show dZ k (.slice B3 y.d.length c3) (.slice B4 y.c.length c4) (.slice B5 y.l.length c5)=.slice B5 y.l.length c5 by rw[dZ,if_neg k0,if_neg k1,if_pos k2]]
    refine XK.go ?_
    refine aW (t:=47) rfl (fun hid=>?_) (fun hid=>?_)
    ·refine XK.go ?_
     refine XK.if_ rfl (fun lY=>?_) (fun lY=>?_)
     ·have hin:0≤id∧id < (y.l.length:Int):=⟨hid,lY⟩
      have e1:cS x 1 k id=x:=by simp[cS,eD,k0,k1,k2]
      have e2:cR y 1 k id=⟨y.d,y.c,kJ y.l id (decide (iM k))⟩:=by simp[cR,eD,k0,k1,k2]
      refine XK.Hp 5 rfl (by omega) ?_
      rintro⟨gb,rfl⟩
      refine XK.xX 5 rfl fun cs fK hct hnc yL=>?_
      dsimp only[List.set]
      have yK:cs.take y.l.length=aP y.l:=by simpa using hct
      have Ir:cs.length=c5:=by simpa using fK
      refine XK.eU [1,2,3,4] ?_
      refine XB.mv 0 ?_
      refine XB.q 1 ?_
      refine XB.q 2 ?_
      refine XB.q 3 ?_
      refine XB.q 4 ?_
      refine XB.next 5 rfl (by kernel_rfl) ?_
      refine aJ (fun w1 t=>Eo k w1) ?_
      refine XB.bk ?_
      refine XB.next 6 rfl (by kernel_rfl) ?_
      refine kd (dat id.toNat id.toNat) ?_
      refine XB.bt ?_
      refine XB.next 7 rfl (by kernel_rfl) ?_
      refine dL rfl rfl ?_
      dsimp only[List.set]
      refine XB.bt ?_
      refine XB.done (by kernel_rfl) ?_
      refine XK.go ?_
      refine XK.wT 5 (n:=y.l.length) (c:=c5) (sz:=1) (xs:=aP (kJ y.l id (decide (iM k)))) rfl (by simpa using fK) (by rw[Nat.mul_one,←Nv _ hin,←yK,List.take_set]) hnc yL ?_
      dsimp only[List.set]
      exact XK.me ⟨rfl,rfl,x,⟨y.d,y.c,kJ y.l id (decide (iM k))⟩,e1.symm,e2.symm,rfl⟩
     ·have hin:¬(0≤id∧id < (y.l.length:Int)):=fun h=>lY h.2
      have e1:cS x 1 k id=x:=by simp[cS,eD,k0,k1,k2,lI _ hin]
      have e2:cR y 1 k id=y:=by simp[cR,eD,k0,k1,k2,lI _ hin]
      refine XK.go ?_
      exact XK.me ⟨rfl,rfl,x,y,e1.symm,e2.symm,rfl⟩
    ·have hin:¬(0≤id∧id < (y.l.length:Int)):=fun h=>hid h.1
     have e1:cS x 1 k id=x:=by simp[cS,eD,k0,k1,k2,lI _ hin]
     have e2:cR y 1 k id=y:=by simp[cR,eD,k0,k1,k2,lI _ hin]
     refine XK.go ?_
     exact XK.me ⟨rfl,rfl,x,y,e1.symm,e2.symm,rfl⟩
   rw[show dZ k (.slice B3 y.d.length c3) (.slice B4 y.c.length c4) (.slice B5 y.l.length c5)=sn by rw[dZ,if_neg k0,if_neg k1,if_neg k2]]
   have e1:cS x 1 k id=x:=by simp[cS,eD,k0,k1,k2]
   have e2:cR y 1 k id=y:=by simp[cR,eD,k0,k1,k2]
   refine XK.go ?_
   refine aW (t:=47) rfl (fun hid=>?_) (fun hid=>?_)
   ·refine XK.go ?_
    refine XK.if_ rfl (fun h=>absurd h (by omega)) (fun _=>?_)
    refine XK.go ?_
    exact XK.me ⟨rfl,rfl,x,y,e1.symm,e2.symm,rfl⟩
   ·refine XK.go ?_
    exact XK.me ⟨rfl,rfl,x,y,e1.symm,e2.symm,rfl⟩
  ·rintro _ _ _ ⟨rfl,rfl,x2,y2,rQ,zX,rfl⟩
   refine XK.weak [7,8,0,1,2,3,4,5] rfl (by decide) (fun _ h=>h) ?_
   refine XK.go ?_
   refine XK.still [] [2,3,4,5,6,7] [0,1] (by simp) rfl (by decide) (by decide) fun q hq _ hfr=>?_
   obtain⟨F0,sf0,Zl⟩:=hq 2 _ (by simp) rfl
   have hs0:=aE.own (q:=q) ⟨F0,sf0,Zl⟩
   obtain⟨F1,Pg,Oj⟩:=hq 3 _ (by simp) rfl
   have hs1:=aE.own (q:=q) ⟨F1,Pg,Oj⟩
   obtain⟨F2,rL,rG⟩:=hq 4 _ (by simp) rfl
   have eL:=aE.own (q:=q) ⟨F2,rL,rG⟩
   obtain⟨F3,sf3,Zk⟩:=hq 5 _ (by simp) rfl
   have lV:=aE.own (q:=q) ⟨F3,sf3,Zk⟩
   obtain⟨F4,sf4,Zj⟩:=hq 6 _ (by simp) rfl
   have mW:=aE.own (q:=q) ⟨F4,sf4,Zj⟩
   obtain⟨F5,sf5,Zi⟩:=hq 7 _ (by simp) rfl
   have jT:=aE.own (q:=q) ⟨F5,sf5,Zi⟩
   refine XK.By rfl (n:=6) (vs:=[.slice B0 x.d.length c0,.slice B1 x.c.length c1,.slice B2 x.l.length c2,.slice B3 y.d.length c3,.slice B4 y.c.length c4,.slice B5 y.l.length c5]) (by kernel_rfl) rfl rfl (aH.whole 1 rfl) fun w1 st=>⟨⟨_,rfl,?_⟩,st.below (by simp)⟩
   have hle:=st.jD (by simp) (hfr (by simp) (by simp))
   have l1:x2.d.length=x.d.length∧x2.c.length=x.c.length∧x2.l.length=x.l.length∧y2.d.length=y.d.length∧y2.c.length=y.c.length∧y2.l.length=y.l.length:=by
    rw[rQ,zX]
    exact aEZ x y _ k id
   rw[←rQ,←zX]
   obtain⟨l1,l2,l3,l4,l5,l6⟩:=l1
   refine⟨B0,c0,B1,c1,B2,c2,B3,c3,B4,c4,B5,c5,?_,?_,?_,?_,?_,?_,?_⟩
   ·rw[l1,l2,l3,l4,l5,l6]
   ·rw[l1];exact hs0.le hle
   ·rw[l2];exact hs1.le hle
   ·rw[l3];exact eL.le hle
   ·rw[l4];exact lV.le hle
   ·rw[l5];exact mW.le hle
   ·rw[l6];exact jT.le hle
end
section
set_option maxHeartbeats 4000000
set_option maxRecDepth 20000
section
variable{P:Program}{N:bO}{w0 w:World}{e:Env}{R:List Piece}{H:List HP}{K:Act→World→Prop}{f h:Nat}{L:fS}{s:aA}{z:bP}{Q:Exit→Act→World→Prop}
theorem Rd.fL(i:Nat){o:Nat}{v:Value}(hi:H[i]? =some (fT f h L s z))(hv:(cN h L s z)[o]? =some v):Rd w0 R H f o v:=fun w t=>by
 have:=((t.uV i hi).r0.at_ hv).2
 rwa [Nat.zero_add] at this
theorem aH.fL(i:Nat){o:Nat}{vs:List Value}(hi:H[i]? =some (fT f h L s z))(hv:((cN h L s z).drop o).take vs.length=vs):aH w0 R H f o vs:=.of fun _ _ hj=>Rd.fL i hi (aF1 hv hj)
end
def Gd(L:fS)(b:Nat):AC:=if b=0 then L.b0 else L.b1
section
variable{h:Nat}{L:fS}{s:aA}{z:bP}
theorem aEK{b:Nat}(hb:b < 2):(cN h L s z)[11+b*2]? =some (iv (wN z b)):=by
 obtain rfl | rfl:b=0∨b=1:=by omega
 ·rfl
 ·rfl
theorem aMe{b:Nat}(hb:b < 2):(cN h L s z)[12+b*2]? =some (.slice (Gd L b).1 (gP z b).length (Gd L b).2):=by
 obtain rfl | rfl:b=0∨b=1:=by omega
 ·rfl
 ·rfl
theorem Bp.box{w:World}{f:Nat}(k:Bp w f h L s z){b:Nat}(hb:b < 2):aE (all w) 1 (Gd L b).1 (gP z b).length (nF (gP z b)):=by
 obtain rfl | rfl:b=0∨b=1:=by omega
 ·exact k.b0
 ·exact k.b1
theorem Bp.stR{w:World}{f:Nat}(k:Bp w f h L s z):qW (all w) z.x z.y (.agg #[.slice L.x1.1 z.x.d.length L.x1.2,.slice L.x2.1 z.x.c.length L.x2.2,.slice L.x3.1 z.x.l.length L.x3.2,.slice L.y1.1 z.y.d.length L.y1.2,.slice L.y2.1 z.y.c.length L.y2.2,.slice L.y3.1 z.y.l.length L.y3.2]):=
 ⟨_,_,_,_,_,_,_,_,_,_,_,_,rfl,k.st.1,k.st.2.1,k.st.2.2.1,k.st.2.2.2.1,k.st.2.2.2.2.1,k.st.2.2.2.2.2⟩
end
structure Dt(s:aA)(z:bP):Prop where
 la:z.last=0∨z.last=1
 u0:vF z.w0
 u1:vF z.w1
 n0:z.w0.length≤1000000
 n1:z.w1.length≤1000000
 sx:z.x.sm
 sy:z.y.sm
theorem Dt.box{s:aA}{z:bP}(h:Dt s z)(b:Nat):vF (gP z b)∧(gP z b).length≤1000000:=by
 unfold gP
 split
 ·exact⟨h.u0,h.n0⟩
 ·exact⟨h.u1,h.n1⟩
def fN(s:aA)(x:aO)(z:bP)(a:Nat):Int×Int×Int:=mY s z.x z.y (kT s x) a (gP z a)
def uB(s:aA)(x:aO)(z:bP)(a:Nat):bP×Bool:=
 let d:=fN s x z a
 if d.2.1=0 then(jM s x {z with last:=a} a d.1,false)
 else({z with last:=a,x:=cS z.x a d.2.1 d.2.2,y:=cR z.y a d.2.1 d.2.2,at_:=a,kind:=d.2.1,id:=d.2.2},true)
def lR(s:aA)(x:aO)(z:bP):bP×Bool:=match qH z with
 | none=>(z,false)
 | some a=>uB s x z a
theorem aEF(f:Nat)(hL:HL)(s:aA)(z:bP)(x:aO)(hH:s.cI)(aM:fF hL s)(hok:bR s x)(hz:Dt s z)(l a:Nat)(hl:z.last=(l:Int))(gA:l≤1)(ha:a < 2)(hab:(wN z (1 - l)=1∧a=1 - l)∨(wN z (1 - l)≠1∧a=l))(h1:wN z a=1)
  (hst:(fN s x z a).2.1=0→(fN s x z a).1=0→qX (gP z a)) (w:World) (F:Nat→Prop) (hp:(dU f hL s z x).sat F w) (hF:∀b,F b→b < w.heap.size):
  Calls Tryz.prog 50 #[pt f] w (fun y w'=>y=.returned (.bool (uB s x z a).2)∧∃F',(dU f hL s (uB s x z a).1 x).sat F' w'∧aV w w' F F'):=by
 have lD:=hH.t.nv
 unfold uB
 generalize hdz:fN s x z a=dz at hst⊢
 obtain⟨st,k,id⟩:=dz
 dsimp only at hst⊢
 obtain⟨Xw,hbn⟩:=hz.box a
 refine XK.bY Tryz.func50 Tryz.ntmps50 hp hF ?_
 refine XK.tk 0 0 ?_
 refine XK.ox 0 fun L=>?_
 have aE6:(cN hL.h L s z)[15]? =some (iv (l:Int)):=by rw[←hl];rfl
 refine XK.seq ?_
 refine XK.region ?_
 refine bA ?_
 refine XK.aY ?_
 refine XK.seq ?_
 refine XK.region ?_
 refine bA ?_
 refine bA ?_
 refine bA ?_
 refine kd (aX rfl (Rd.fL 0 rfl aE6)) ?_
 refine kd (Jh rfl rfl (c:=((1 - l:Nat):Int)) (by rw[show(1:Int) - (l:Int)=((1 - l:Nat):Int) by omega];exact eR (by omega))) ?_
 refine bA ?_
 refine XK.aY ?_
 refine XK.cut (fun e R H=>e=[(3,iv (a:Int)),(0,pt f)]∧R=[⟨w,fun b=>b < w.heap.size∧¬F b⟩]∧H=[fT f hL.h L s z,HP.many [HP.emp,cP hL s x]]) ?_ ?_
 ·refine XK.seq ?_
  refine XK.region ?_
  refine bA ?_
  refine bA ?_
  refine bA ?_
  refine bA ?_
  refine kd (dX (1 - l) (11+(1 - l)*2)) ?_
  refine bA ?_
  refine kd (aX rfl (Rd.fL 0 rfl (aEK (by omega)))) ?_
  refine bA ?_
  refine XK.aY ?_
  rcases hab with⟨h2,rfl⟩ | ⟨h2,rfl⟩
  ·refine XK.if_ rfl (fun h=>absurd h2 h) (fun _=>?_)
   refine XK.skip ?_
   refine XK.norm ?_
   exact XK.me ⟨rfl,rfl,rfl⟩
  ·refine XK.if_ rfl (fun _=>?_) (fun h=>absurd h2 h)
   refine XK.region ?_
   refine bA ?_
   refine bA ?_
   refine bA ?_
   refine kd (aX rfl (Rd.fL 0 rfl aE6)) ?_
   refine bA ?_
   refine XK.aY ?_
   exact XK.me ⟨rfl,rfl,rfl⟩
 rintro _ _ _ ⟨rfl,rfl,rfl⟩
 refine XK.go ?_
 refine kd (dX a (11+a*2)) ?_
 refine XK.go ?_
 refine kd (aX rfl (Rd.fL 0 rfl (aEK ha))) ?_
 refine XK.go ?_
 refine XK.if_ rfl (fun h=>absurd h1 h) (fun _=>?_)
 refine XK.go ?_
 refine XK.tk 0 0 ?_
 refine dL rfl rfl ?_ (hs:=dK.mk 0 rfl bL.h rfl (by simp[cN]))
 dsimp only[List.set]
 rw[show(cN hL.h L s z).set (0+15) (iv (a:Int))=cN hL.h L s {z with last:=(a:Int)} from rfl]
 refine XK.gv 0 0 ?_
 change XK _ _ _ _ _ [fT f hL.h L s {z with last:=(a:Int)},HP.many [HP.emp,cP hL s x]]
 generalize jS:({z with last:=(a:Int)}:bP)=z1
 have e1:z1.x=z.x:=by rw[←jS]
 have e2:z1.y=z.y:=by rw[←jS]
 have e3:gP z1 a=gP z a:=by rw[←jS];rfl
 refine XK.go ?_
 refine kd (aX rfl (Rd.fL 0 rfl rfl)) ?_
 refine XK.go ?_
 refine jG (n:=s.aC.length) 8 (el:=3) (z:=iv 0) (by kernel_rfl) (by kernel_rfl) rfl rfl rfl (by omega) (by omega) (by decide) fun gm=>?_
 refine XK.go ?_
 refine XK.tk 2 1 ?_
 rw[show List.replicate s.aC.length (Value.int .i64 0)=aG (iS (kT s x) ((kT s x).map fun _=>0) 0) by
  rw[Qi]
  refine List.ext_getElem? fun j=>?_
  simp only[aG,kT,List.map_map,List.getElem?_replicate,List.getElem?_map]
  by_cases h:j < s.aC.length
  ·rw[if_pos h,List.getElem?_range h];rfl
  ·rw[if_neg h,List.getElem?_eq_none (by simp;omega)];rfl]
 refine XK.aT [(46,iv 0),(45,iv s.aC.length),(4,.slice (some ⟨gm,0,none⟩) s.aC.length s.aC.length),(3,iv (a:Int)),(0,pt f)] ?_
 have uO:(kT s x).length=s.aC.length:=by simp[kT]
 refine XK.loop (fun m e R H=>∃i:Nat,i≤s.aC.length∧m=s.aC.length - i∧e=[(46,iv i),(45,iv s.aC.length),(4,.slice (some ⟨gm,0,none⟩) s.aC.length s.aC.length),(3,iv (a:Int)),(0,pt f)]∧R=[⟨w,fun b=>b < w.heap.size∧¬F b⟩]∧H=[cP hL s x,HP.aB gm 3 (aG (iS (kT s x) ((kT s x).map fun _=>0) i)),fT f hL.h L s z1,HP.many [HP.emp,HP.emp]]) s.aC.length ⟨0,by omega,rfl,rfl,rfl,rfl⟩ fun m e R H hI=>?_
 obtain⟨i,hi,rfl,rfl,rfl,rfl⟩:=hI
 have Rh:=Qk (vs:=kT s x) (old:=(kT s x).map fun _=>0) (n:=s.aC.length) uO (by simp[kT]) hi
 have fK:(aG (iS (kT s x) ((kT s x).map fun _=>0) i)).length=s.aC.length:=by simp[aG,Rh]
 refine XK.go ?_
 refine XK.if_ rfl (fun hlt=>?_) (fun hge=>?_)
 ·have hlt:i < s.aC.length:=by omega
  have hwi:(kT s x)[i]? =some (nE x.wt i:Int):=by simp[kT,hlt]
  have lA:(aG (iS (kT s x) ((kT s x).map fun _=>0) i)).set i (iv (nE x.wt i:Nat))=aG (iS (kT s x) ((kT s x).map fun _=>0) (i+1)):=by
   rw[←Qj (by simp) hwi,aG,aG,List.map_set]
  refine XK.go ?_
  refine kd (aX rfl (Rd.fL 2 rfl rfl)) ?_
  refine XK.go ?_
  refine aJ (fun w1 t=>aLi hL s x w1 i hlt (t.kB 0 rfl aM hok)) ?_
  refine XK.go ?_
  refine kd (dat i i) ?_
  refine dL rfl rfl ?_
  dsimp only[List.set]
  rw[lA]
  refine XK.go ?_
  exact XK.rd (s.aC.length - (i+1)) ⟨i+1,hlt,rfl,rfl,rfl,rfl⟩
 obtain rfl:i=s.aC.length:=by omega
 rw[Ql uO (by simp[kT])]
 refine XK.gv 2 1 ?_
 refine XK.go ?_
 refine XK.Tp (fun e R H=>∃g7:Nat,e=[(7,pt g7),(6,.int .i32 st),(3,iv (a:Int)),(0,pt f)]∧R=[⟨w,fun b=>b < w.heap.size∧¬F b⟩]∧H=[HP.aB g7 136 [.int .u8 k,iv id],fT f hL.h L s z1,HP.many [HP.emp,cP hL s x]]) ?_ ?_
 ·refine XK.eU [1,2,3,5,6,7,12,13,14,15,16,19,20] ?_
  refine XB.mv 0 ?_
  refine XB.mv 4 ?_
  refine XB.mv 8 ?_
  refine XB.mv 9 ?_
  refine XB.mv 10 ?_
  refine XB.mv 11 ?_
  refine XB.q 1 ?_
  refine XB.q 2 ?_
  refine XB.q 3 ?_ (cY:=mE rfl (aH.fL 1 rfl (vs:=[.slice L.a1.1 s.aD.length L.a1.2,.slice L.a2.1 s.domains.length L.a2.2,.slice L.a3.1 s.aL.length L.a3.2,.slice L.a4.1 s.aC.length L.a4.2]) rfl))
  refine XB.q 5 ?_
  refine XB.q 6 ?_
  refine XB.q 7 ?_ (cY:=mE rfl (aH.fL 1 rfl (vs:=[.slice L.x1.1 z1.x.d.length L.x1.2,.slice L.x2.1 z1.x.c.length L.x2.2,.slice L.x3.1 z1.x.l.length L.x3.2,.slice L.y1.1 z1.y.d.length L.y1.2,.slice L.y2.1 z1.y.c.length L.y2.2,.slice L.y3.1 z1.y.l.length L.y3.2]) rfl))
  refine XB.q 12 ?_
  refine XB.q 13 ?_
  refine XB.q 14 ?_ (cY:=dX (sz:=2) a (11+a*2))
  refine XB.q 15 ?_
  refine XB.q 16 ?_ (cY:=aX rfl (Rd.fL 1 rfl (v:=.slice (Gd L a).1 (gP z1 a).length (Gd L a).2) (by rw[show 11+a*2+1=12+a*2 by omega];exact aMe ha)))
  have wM:∀H:List HP,H[H.length - 2]? =some (fT f hL.h L s z1)→(H.length=3∨H.length=4)→H[H.length - 3]? =some (HP.aB gm 3 (aG (kT s x)))→∀w1,St w [⟨w,fun b=>b < w.heap.size∧¬F b⟩] H w1→Calls Tryz.prog 98 #[.agg #[.slice L.a1.1 s.aD.length L.a1.2,.slice L.a2.1 s.domains.length L.a2.2,.slice L.a3.1 s.aL.length L.a3.2,.slice L.a4.1 s.aC.length L.a4.2],.agg #[.slice L.x1.1 z1.x.d.length L.x1.2,.slice L.x2.1 z1.x.c.length L.x2.2,.slice L.x3.1 z1.x.l.length L.x3.2,.slice L.y1.1 z1.y.d.length L.y1.2,.slice L.y2.1 z1.y.c.length L.y2.2,.slice L.y3.1 z1.y.l.length L.y3.2],.slice (some ⟨gm,0,none⟩) s.aC.length s.aC.length,iv (a:Int),.slice (Gd L a).1 (gP z1 a).length (Gd L a).2] w1 (Rt (aBZ (st,k,id)) w1):=fun H h2 _ h3 w1 t=>by
   have kf:=t.uV _ h2
   have:=aNp (all w1) (all w1) s _ _ _ _ _ L.a1.2 _ L.a2.2 _ L.a3.2 _ L.a4.2 _ _ _ _ _ _ _ L.x1.2 _ L.x2.2 _ L.x3.2 _ L.y1.2 _ L.y2.2 _ L.y3.2 z1.x z1.y (some ⟨gm,0,none⟩) s.aC.length s.aC.length (kT s x) a _ _ (Gd L a).2 (gP z1 a) w1 kf.so hH.t (Piece.Le.refl _) kf.stR (Piece.Le.refl _) (t.nX h3 (by simp[aG,uO])) uO.symm ha (kf.box ha) rfl (by rw[e3];exact hbn) (by rw[e3];exact Xw)
   rw[show mY s z1.x z1.y (kT s x) a (gP z1 a)=(st,k,id) by rw[e1,e2,e3];exact hdz] at this
   exact this
  refine XB.either 17 21 rfl rfl (by kernel_rfl) ?_ ?_
  ·refine aJ (fun w1 t=>wM _ rfl (.inl rfl) rfl w1 t) ?_
   refine XB.bk ?_
   refine XB.mv 18 ?_
   refine XB.q 19 ?_
   refine XB.q 20 ?_
   refine XB.next 21 rfl (by kernel_rfl) ?_
   refine bB fun g7=>?_
   refine XB.bk ?_
   refine XB.next 22 rfl (by kernel_rfl) ?_
   refine bA ?_
   refine XB.bk ?_
   refine XB.next 23 rfl (by kernel_rfl) ?_
   refine lM 0 rfl ?_
   dsimp only[List.set]
   refine XB.bt ?_
   refine XB.done (by kernel_rfl) ?_
   refine XK.norm ?_
   refine XK.weak [0,2,3] rfl (by decide) (fun _ h=>h) ?_
   exact XK.me ⟨g7,rfl,rfl,rfl⟩
  ·refine bB fun g7=>?_
   refine XB.bk ?_
   refine XB.next 17 rfl (by kernel_rfl) ?_
   refine aJ (fun w1 t=>wM _ rfl (.inr rfl) rfl w1 t) ?_
   refine XB.bk ?_
   refine XB.mv 18 ?_
   refine XB.q 19 ?_
   refine XB.q 20 ?_
   refine XB.next 22 rfl (by kernel_rfl) ?_
   refine bA ?_
   refine XB.bk ?_
   refine XB.next 23 rfl (by kernel_rfl) ?_
   refine lM 0 rfl ?_
   dsimp only[List.set]
   refine XB.bt ?_
   refine XB.done (by kernel_rfl) ?_
   refine XK.norm ?_
   refine XK.weak [0,2,3] rfl (by decide) (fun _ h=>h) ?_
   exact XK.me ⟨g7,rfl,rfl,rfl⟩
 rintro _ _ _ ⟨g7,rfl,rfl,rfl⟩
 refine XK.go ?_
 refine XK.if_ rfl (fun hk=>?_) (fun hk=>?_)
 ·have hk:k=0:=hk
  rw[if_pos hk]
  refine XK.te 1 (fun L:fS=>fT f hL.h L s z1) L ?_
  refine XK.weak [1,0,2] rfl (by decide) (fun _ h=>h) ?_
  refine XK.gv 1 0 ?_
  refine XK.go ?_
  refine cX 1 (dU f hL s (jM s x z1 a st) x) (fun w1 F1 t h1 h2 h3=>aB2 f hL s z1 x hH aM hok a ha st (fun h0=>by rw[e3];exact hst hk h0) w1 F1 h1 h2) ?_
  dsimp only[List.set]
  refine XK.go ?_
  exact XK.rT 1 hF
 ·rw[if_neg hk]
  rw[show({z with last:=(a:Int),x:=cS z.x a k id,y:=cR z.y a k id,at_:=(a:Int),kind:=k,id:=id}:bP)={z1 with x:=cS z1.x a k id,y:=cR z1.y a k id,at_:=(a:Int),kind:=k,id:=id} by rw[←jS]]
  refine XK.go ?_
  refine XK.eU [2,3,4,6] ?_
  refine XB.mv 0 ?_
  refine XB.mv 1 ?_
  refine XB.mv 5 ?_
  refine XB.q 2 ?_
  refine XB.q 3 ?_
  refine XB.q 4 ?_ (cY:=mE rfl (aH.fL 1 rfl (vs:=[.slice L.x1.1 z1.x.d.length L.x1.2,.slice L.x2.1 z1.x.c.length L.x2.2,.slice L.x3.1 z1.x.l.length L.x3.2,.slice L.y1.1 z1.y.d.length L.y1.2,.slice L.y2.1 z1.y.c.length L.y2.2,.slice L.y3.1 z1.y.l.length L.y3.2]) rfl))
  refine XB.q 6 ?_
  refine XB.next 7 rfl (by kernel_rfl) ?_
  refine gO [] (fun v w w'=>qW (fresh w w') (cS z1.x a k id) (cR z1.y a k id) v) (fun w1 t=>by
   have kf:=t.uV 1 rfl
   exact aMI (all w1) _ _ _ _ _ _ L.x1.2 L.x2.2 L.x3.2 L.y1.2 L.y2.2 L.y3.2 z1.x z1.y a k id w1 (Piece.Le.refl _) ha (by rw[e1];exact hz.sx) (by rw[e2];exact hz.sy) kf.st.1 kf.st.2.1 kf.st.2.2.1 kf.st.2.2.2.1 kf.st.2.2.2.2.1 kf.st.2.2.2.2.2) ?_
  rintro _ w2 q2 aKJ tD _ Fq
  have Fq:=Fq (by simp)
  obtain⟨x1,x2,x3,y1,y2,y3,rfl,Ie⟩:=aKJ.P
  have Ie:=nR.le _ _ tD (Ie L.a1 L.a2 L.a3 L.a4 L.b0 L.b1)
  refine XK.Ho (Φ:=nR ⟨L.a1,L.a2,L.a3,L.a4,x1,x2,x3,y1,y2,y3,L.b0,L.b1⟩ (cS z1.x a k id) (cR z1.y a k id)) (hm:=nR.le) Fq (fun p hp b hb=>by simp at hp;subst hp;exact hb.1) Ie ?_
  refine XB.bt ?_
  refine XB.next 8 rfl (by kernel_rfl) ?_
  refine bA ?_
  refine XB.bt ?_
  refine XB.next 9 rfl (by kernel_rfl) ?_
  refine bA ?_
  refine XB.bt ?_
  refine XB.next 10 rfl (by kernel_rfl) ?_
  refine XK.tk 2 0 ?_
  refine jV 0 (t:=138) rfl rfl rfl (by kernel_rfl) (by simp[Value.cells,Value.oneCell',uG]) (by simp[Value.cells,cN]) ?_
  dsimp only[List.set]
  rw[show eE (cN hL.h L s z1) (0+5) (Value.agg #[uG x1 (cS z1.x a k id).d.length,uG x2 (cS z1.x a k id).c.length,uG x3 (cS z1.x a k id).l.length,uG y1 (cR z1.y a k id).d.length,uG y2 (cR z1.y a k id).c.length,uG y3 (cR z1.y a k id).l.length]).cells.toList=cN hL.h ⟨L.a1,L.a2,L.a3,L.a4,x1,x2,x3,y1,y2,y3,L.b0,L.b1⟩ s {z1 with x:=cS z1.x a k id,y:=cR z1.y a k id} from rfl]
  refine XB.bt ?_
  refine XB.done (by kernel_rfl) ?_
  refine XK.norm ?_
  refine XK.tk 3 2 ?_
  refine XK.weak [1,2,3,4,5] rfl (by decide) (R':=[⟨w,fun b=>b < w.heap.size∧¬F b⟩]) (by simp) ?_
  refine XK.weak [1,0,2,3,4] rfl (by decide) (fun _ h=>h) ?_
  refine XK.gv 2 2 ?_
  generalize nI:({z1 with x:=cS z1.x a k id,y:=cR z1.y a k id}:bP)=z2
  rw[show({z1 with x:=cS z1.x a k id,y:=cR z1.y a k id,at_:=(a:Int),kind:=k,id:=id}:bP)={z2 with at_:=(a:Int),kind:=k,id:=id} by rw[←nI]]
  generalize hL2:(⟨L.a1,L.a2,L.a3,L.a4,x1,x2,x3,y1,y2,y3,L.b0,L.b1⟩:fS)=L2
  refine XK.seq ?_
  refine XK.Tp (fun e R H=>e=[(0,pt f)]∧R=[⟨w,fun b=>b < w.heap.size∧¬F b⟩]∧H=[HP.aB f 138 (cN hL.h L2 s {z2 with at_:=(a:Int),kind:=k,id:=id}),HP.aB g7 136 [.int .u8 k,iv id],HP.many [HP.emp,HP.bH (sI L s) (sI.le (L:=L) (s:=s)),HP.bH (nR L2 (cS z1.x a k id) (cR z1.y a k id)) (nR.le (L:=L2) (x:=cS z1.x a k id) (y:=cR z1.y a k id)),HP.bH (cT L.b0 z1.w0) (cT.le (a:=L.b0) (l:=z1.w0)),HP.bH (cT L.b1 z1.w1) (cT.le (a:=L.b1) (l:=z1.w1))],HP.many [HP.emp,cP hL s x]]) ?_ ?_
  ·refine XK.eU [] ?_
   refine XB.mv 0 ?_
   refine XB.mv 1 ?_
   refine XB.mv 2 ?_
   refine XB.either 3 4 rfl rfl (by kernel_rfl) ?_ ?_
   ·refine bA ?_
    refine XB.bt ?_
    refine XB.next 4 rfl (by kernel_rfl) ?_
    refine bA ?_
    refine XB.bt ?_
    refine XB.next 5 rfl (by kernel_rfl) ?_
    refine bA ?_
    refine XB.bt ?_
    refine XB.next 6 rfl (by kernel_rfl) ?_
    refine dL rfl rfl ?_ (hs:=dK.mk 0 rfl bL.h rfl (by simp[cN]))
    dsimp only[List.set]
    rw[show(cN hL.h L2 s z2).set (0+16) (iv (a:Int))=cN hL.h L2 s {z2 with at_:=(a:Int)} from rfl]
    refine XB.bt ?_
    refine XB.next 7 rfl (by kernel_rfl) ?_
    refine bA ?_
    refine XB.bt ?_
    refine XB.next 8 rfl (by kernel_rfl) ?_
    refine bA ?_
    refine XB.bt ?_
    refine XB.next 9 rfl (by kernel_rfl) ?_
    refine jV 0 (t:=138) rfl rfl rfl (by kernel_rfl) (by simp[Value.cells,Value.oneCell']) (by simp[Value.cells,cN]) ?_
    dsimp only[List.set]
    rw[show eE (cN hL.h L2 s {z2 with at_:=(a:Int)}) (0+17) (Value.agg #[.int .u8 k,iv id]).cells.toList=cN hL.h L2 s {z2 with at_:=(a:Int),kind:=k,id:=id} from rfl]
    refine XB.bt ?_
    refine XB.done (by kernel_rfl) ?_
    refine XK.norm ?_
    exact XK.me ⟨rfl,rfl,rfl⟩
   ·refine bA ?_
    refine XB.bt ?_
    refine XB.either 3 5 rfl rfl (by kernel_rfl) ?_ ?_
    ·refine bA ?_
     refine XB.bt ?_
     refine XB.next 5 rfl (by kernel_rfl) ?_
     refine bA ?_
     refine XB.bt ?_
     refine XB.next 6 rfl (by kernel_rfl) ?_
     refine dL rfl rfl ?_ (hs:=dK.mk 0 rfl bL.h rfl (by simp[cN]))
     dsimp only[List.set]
     rw[show(cN hL.h L2 s z2).set (0+16) (iv (a:Int))=cN hL.h L2 s {z2 with at_:=(a:Int)} from rfl]
     refine XB.bt ?_
     refine XB.next 7 rfl (by kernel_rfl) ?_
     refine bA ?_
     refine XB.bt ?_
     refine XB.next 8 rfl (by kernel_rfl) ?_
     refine bA ?_
     refine XB.bt ?_
     refine XB.next 9 rfl (by kernel_rfl) ?_
     refine jV 0 (t:=138) rfl rfl rfl (by kernel_rfl) (by simp[Value.cells,Value.oneCell']) (by simp[Value.cells,cN]) ?_
     dsimp only[List.set]
     rw[show eE (cN hL.h L2 s {z2 with at_:=(a:Int)}) (0+17) (Value.agg #[.int .u8 k,iv id]).cells.toList=cN hL.h L2 s {z2 with at_:=(a:Int),kind:=k,id:=id} from rfl]
     refine XB.bt ?_
     refine XB.done (by kernel_rfl) ?_
     refine XK.norm ?_
     exact XK.me ⟨rfl,rfl,rfl⟩
    ·refine bA ?_
     refine XB.bt ?_
     refine XB.either 3 6 rfl rfl (by kernel_rfl) ?_ ?_
     ·refine bA ?_
      refine XB.bt ?_
      refine XB.next 6 rfl (by kernel_rfl) ?_
      refine dL rfl rfl ?_ (hs:=dK.mk 0 rfl bL.h rfl (by simp[cN]))
      dsimp only[List.set]
      rw[show(cN hL.h L2 s z2).set (0+16) (iv (a:Int))=cN hL.h L2 s {z2 with at_:=(a:Int)} from rfl]
      refine XB.bt ?_
      refine XB.next 7 rfl (by kernel_rfl) ?_
      refine bA ?_
      refine XB.bt ?_
      refine XB.next 8 rfl (by kernel_rfl) ?_
      refine bA ?_
      refine XB.bt ?_
      refine XB.next 9 rfl (by kernel_rfl) ?_
      refine jV 0 (t:=138) rfl rfl rfl (by kernel_rfl) (by simp[Value.cells,Value.oneCell']) (by simp[Value.cells,cN]) ?_
      dsimp only[List.set]
      rw[show eE (cN hL.h L2 s {z2 with at_:=(a:Int)}) (0+17) (Value.agg #[.int .u8 k,iv id]).cells.toList=cN hL.h L2 s {z2 with at_:=(a:Int),kind:=k,id:=id} from rfl]
      refine XB.bt ?_
      refine XB.done (by kernel_rfl) ?_
      refine XK.norm ?_
      exact XK.me ⟨rfl,rfl,rfl⟩
     ·refine dL rfl rfl ?_ (hs:=dK.mk 0 rfl bL.h rfl (by simp[cN]))
      dsimp only[List.set]
      rw[show(cN hL.h L2 s z2).set (0+16) (iv (a:Int))=cN hL.h L2 s {z2 with at_:=(a:Int)} from rfl]
      refine XB.bt ?_
      refine XB.next 3 rfl (by kernel_rfl) ?_
      refine bA ?_
      refine XB.bt ?_
      refine XB.next 7 rfl (by kernel_rfl) ?_
      refine bA ?_
      refine XB.bt ?_
      refine XB.next 8 rfl (by kernel_rfl) ?_
      refine bA ?_
      refine XB.bt ?_
      refine XB.next 9 rfl (by kernel_rfl) ?_
      refine jV 0 (t:=138) rfl rfl rfl (by kernel_rfl) (by simp[Value.cells,Value.oneCell']) (by simp[Value.cells,cN]) ?_
      dsimp only[List.set]
      rw[show eE (cN hL.h L2 s {z2 with at_:=(a:Int)}) (0+17) (Value.agg #[.int .u8 k,iv id]).cells.toList=cN hL.h L2 s {z2 with at_:=(a:Int),kind:=k,id:=id} from rfl]
      refine XB.bt ?_
      refine XB.done (by kernel_rfl) ?_
      refine XK.norm ?_
      exact XK.me ⟨rfl,rfl,rfl⟩
  rintro _ _ _ ⟨rfl,rfl,rfl⟩
  refine XK.gv 1 0 ?_
  subst hL2
  subst nI
  refine XK.sV 1 (f:=fun L:fS=>fT f hL.h L s {({z1 with x:=cS z1.x a k id,y:=cR z1.y a k id}:bP) with at_:=(a:Int),kind:=k,id:=id}) ⟨L.a1,L.a2,L.a3,L.a4,x1,x2,x3,y1,y2,y3,L.b0,L.b1⟩ rfl ?_
  dsimp only[List.set]
  refine XK.weak [1,0,2] rfl (by decide) (fun _ h=>h) ?_
  refine XK.gv 1 0 ?_
  refine XK.go ?_
  exact XK.rT 1 hF
theorem aEG(f:Nat)(hL:HL)(s:aA)(z:bP)(x:aO)(hH:s.cI)(aM:fF hL s)(hok:bR s x)(hz:Dt s z)(hst:∀a,qH z=some a→(fN s x z a).2.1=0→(fN s x z a).1=0→qX (gP z a))(w:World)(F:Nat→Prop)(hp:(dU f hL s z x).sat F w)(hF:∀b,F b→b < w.heap.size):
  Calls Tryz.prog 50 #[pt f] w (fun y w'=>y=.returned (.bool (lR s x z).2)∧∃F',(dU f hL s (lR s x z).1 x).sat F' w'∧aV w w' F F'):=by
 unfold lR
 cases hn:qH z with
 | none=>exact aLM f hL s z x hz.la hn w F hp hF
 | some a =>
  obtain⟨l,hl,gA⟩:∃l:Nat,z.last=(l:Int)∧l≤1:=by
   rcases hz.la with h | h
   ·exact⟨0,h,by omega⟩
   ·exact⟨1,h,by omega⟩
  have hn2:=hn
  unfold qH at hn
  rw[show(1 - z.last).toNat=1 - l by omega,show z.last.toNat=l by omega] at hn
  by_cases h2:wN z (1 - l)=1
  ·rw[if_pos h2] at hn
   obtain rfl:=Option.some.inj hn
   exact aEF f hL s z x hH aM hok hz l _ hl gA (by omega) (.inl ⟨h2,rfl⟩) h2 (hst _ hn2) w F hp hF
  ·rw[if_neg h2] at hn
   by_cases h3:wN z l=1
   ·rw[if_pos h3] at hn
    obtain rfl:=Option.some.inj hn
    exact aEF f hL s z x hH aM hok hz l _ hl gA (by omega) (.inr ⟨h2,rfl⟩) h3 (hst _ hn2) w F hp hF
   ·rw[if_neg h3] at hn
    cases hn
end
section
set_option maxHeartbeats 4000000
set_option maxRecDepth 20000
section
variable{P:Program}{N:bO}{w0 w:World}{K:Act→World→Prop}{e:Env}{R:List Piece}{H H':List HP}
theorem XK.Ss{nn:Nat}{F:Nat→Prop}{p:HP}{f:FuncId}{fn:Func}{c:Code}{vs:List Value}{Post:Ending→World→Prop}(hf:P.funcs[f]? =some fn)(hb:fn.body=some c)(hN:fn.ntmps=nn)(hl:vs.length≤nn)(hp:p.sat F w)(hF:∀b,F b→b < w.heap.size)
  (h:XK ⟨nn,[]⟩ w (c.wp P (bodyPostD P fn Post)) (Bh 0 vs) [⟨w,fun b=>b < w.heap.size∧¬F b⟩] [p]):Calls P f vs.toArray w Post:=by
 refine calls_of_wp_defers hf hb (h _ _ ⟨?_,rfl,fun t v hv=>?_⟩ (St.aAi hp hF))
 ·simp;omega
 ·obtain⟨_,h2⟩:=Tx vs 0 t v hv
  rw[Nat.sub_zero] at h2
  have hlt:t < vs.length:=by
   rcases Nat.lt_or_ge t vs.length with h | h
   ·exact h
   ·rw[List.getElem?_eq_none h] at h2;cases h2
  rw[Array.getElem?_append_left (by simpa using hlt)]
  simpa using h2
theorem XK.wE{nn:Nat}{f:FuncId}{fi ca:List Value}{fn:Func}{Post:Ending→World→Prop}{x:Exit}(hx:x=.ret∨x=.normal)(hf:eG P f=true)
  (fK:∀w,CallsD P f (fi++ca).toArray .returning w fun y u' w'=>y=.returned (.tuple #[])∧u'=.returning∧w'=w) (hr:fn.results=#[])
  (h:∀w,St w0 R H w→Post (.returned (.tuple #[])) w):XK ⟨nn,[Gb f fi ca]⟩ w0 (bodyPostD P fn Post x) e R H:=by
 have key:XK ⟨nn,[Gb f fi ca]⟩ w0 (bodyPostD P fn Post .ret) e R H:=XK.aK0 (H':=H) hf (fun w1 st=>(fK w1).mono fun y u' w' h=>by
  obtain⟨h1,h2,rfl⟩:=h
  exact⟨⟨_,h1⟩,h2,st⟩) fun a w1 _ st=>⟨.tuple #[],results_none hr _ _ _,h w1 st⟩
 rcases hx with rfl | rfl
 ·exact key
 ·exact key
end
theorem So(w:World):CallsD Tryz.prog 49 #[] .returning w fun e u' w'=>e=.returned (.tuple #[])∧u'=.returning∧w'=w:=by
 refine callsD_of_wpS Tryz.func49 rfl fun c₀ cs hu=>?_
 apply wpS_region
 simp[wpOpsS,go_sem,recoverD,hu,Tryz.ntmps49,Exit.thenS]
 cases c₀
 simp_all [bodyPostS,results,Tryz.results49]
section
variable{N:bO}{w0 w:World}{e:Env}{R:List Piece}{H:List HP}{K:Act→World→Prop}{f:Nat}{hL:HL}{s:aA}{z:bP}{x:aO}
theorem Rd.Cc(i:Nat){o:Nat}{v:Value}(hi:H[i]? =some (dU f hL s z x))(hv:∀L,(cN hL.h L s z)[o]? =some v):Rd w0 R H f o v:=fun w t=>by
 obtain⟨F,⟨G,g1,g2,_⟩,h2,_⟩:=t.chunk hi
 obtain⟨L,hL'⟩:=g1 0 _ rfl
 have:=((fT.reads hL' fun b hb=>h2 b (g2 0 b hb)).r0.at_ (hv L)).2
 rwa [Nat.zero_add] at this
end
theorem aLQ(f:Nat)(hL:HL)(s:aA)(z:bP)(x:aO)(hH:s.cI)(aM:fF hL s)(hok:bR s x)(hz:Dt s z)(hst:∀a,qH z=some a→(fN s x z a).2.1=0→(fN s x z a).1=0→qX (gP z a))(eX:z.at_ < 0)(hno:(lR s x z).2=false)(w:World)(F:Nat→Prop)(hp:(dU f hL s z x).sat F w)(hF:∀b,F b→b < w.heap.size):
  Calls Tryz.prog 20 #[pt f] w (fun y w'=>y=.returned (.tuple #[])∧∃F',(dU f hL s (lR s x z).1 x).sat F' w'∧aV w w' F F'):=by
 refine XK.Ss (vs:=[pt f]) (p:=dU f hL s z x) Tryz.func20 rfl Tryz.ntmps20 (by simp) hp hF ?_
 refine XK.go ?_
 refine Ol (f:=49) (fi:=[]) (ca:=[]) rfl ?_
 refine XK.go ?_
 refine kd (aX rfl (Rd.Cc 0 rfl fun _=>rfl)) ?_
 refine XK.go ?_
 refine aW (t:=8) rfl (fun _=>?_) (fun h=>absurd eX h)
 refine XK.go ?_
 refine cX 0 (dU f hL s (lR s x z).1 x) (fun w1 F1 t h1 h2 h3=>aEG f hL s z x hH aM hok hz hst w1 F1 h1 h2) ?_
 dsimp only[List.set]
 rw[hno]
 refine XK.go ?_
 exact XK.wE (.inl rfl) (by kernel_rfl) So rfl fun w1 t=>⟨rfl,t.turns hF (by simp) (i:=0) rfl⟩
end
section
set_option maxHeartbeats 4000000
set_option maxRecDepth 20000
def aEy(m p k:Int):Bool:=decide ((iR m 0 p k).2=0∧bJ (iR m 0 p k).1 28 4=0∧bJ (iR m 0 p k).1 0 8=m∧bJ (iR m 0 p k).1 8 2=0∧bJ (iR m 0 p k).1 10 8=p∧bJ (iR m 0 p k).1 18 10=k)
end
section
set_option maxHeartbeats 4000000
set_option maxRecDepth 20000
theorem aJ3(a b:Int):0≤Vw a b∧Vw a b < 4294967296:=Km _
theorem aJa(w low many v:Int):0≤(gE w low many v).1∧(gE w low many v).1 < 4294967296:=by
 unfold gE
 split
 ·exact⟨by decide,by decide⟩
 ·split
  ·exact⟨by decide,by decide⟩
  ·unfold wB
   split
   ·exact⟨by decide,by decide⟩
   ·exact aJ3 _ _
end
section
set_option maxHeartbeats 4000000
set_option maxRecDepth 20000
section
variable{s:aA}{x:aO}{l:Int}{b:Nat}{m a:List Int}
end
theorem aA7{s:aA}{st:List dY}(hH:s.cI)(h:nT s st)(i:Int)(b:Bool):nT s (jY s st i b).2:=by
 unfold jY
 split
 ·exact h
 ·split
  ·rename_i c x hc hx
   split
   ·exact h
   ·refine⟨by simp[h.len],fun y hy=>?_⟩
    rcases List.mem_or_eq_of_mem_set hy with hy | rfl
    ·exact h.left y hy
    ·have h1:=(hH.t.aD i.toNat c hc).2
     have h2:=h.left x (List.mem_of_getElem? hx)
     unfold Qg
     dsimp only
     split
     ·omega
     ·exact h2
  ·exact h
theorem aGT{s:aA}{st:List eZ}(hH:s.cI)(h:rA s st)(i:Int):rA s (sU s st i).2:=by
 unfold sU
 split
 ·exact h
 ·split
  ·rename_i c x hc hx
   split
   ·exact h
   ·have h1:=(hH.domains i.toNat c hc).2
    refine⟨by simp[h.len],fun y hy=>?_,fun y hy=>?_⟩
    ·rcases List.mem_or_eq_of_mem_set hy with hy | rfl
     ·exact h.left y hy
     ·exact h1
    ·rcases List.mem_or_eq_of_mem_set hy with hy | rfl
     ·exact h.phase y hy
     ·exact⟨by show(0:Int)≤114;omega,by show(114:Int) < 256;omega⟩
  ·exact h
end
section
set_option maxHeartbeats 4000000
set_option maxRecDepth 20000
def iZ(p:Piece):Prop:=∀(i:Nat) (v:Int),[(114:Int),97,115,100][i]? =some v→p.Z 0∧p.w.cell? ⟨0,i,none⟩=some (.int .u8 v)
theorem iZ.at_{p:Piece}{w:World}(h:iZ p)(hl:p.Le (all w)):Of w:=fun i v hv=>by
 obtain⟨h1,h2⟩:=h i v hv
 obtain⟨h3,h4⟩:=hl 0 h1
 refine⟨h3,?_⟩
 rw[←h2]
 exact World.cell?_of_block h4
theorem iZ.le{p q:Piece}(h:iZ p)(hl:p.Le q):iZ q:=fun i v hv=>by
 obtain⟨h1,h2⟩:=h i v hv
 obtain⟨h3,h4⟩:=hl 0 h1
 exact⟨h3,(World.cell?_of_block h4).trans h2⟩
def Et(s:aA)(d:Int)(k:Nat)(p:dB×eJ):dB×eJ:=match s.aC[k]? with
 | some dv=>if dv.domain=d then(p.1,(mU p.2).2) else p
 | none=>p
def uM(s:aA)(x:aO)(d:Int)(n:Nat):List (dB×eJ):=x.dv.mapIdx fun k p=>if k < n then Et s d k p else p
def Ky(s:aA)(x:aO)(d:Int):aO×Bool:=
 if qB x.dm d=48∨qB x.dm d=116 then({x with dm:=(sU s x.dm d).2},false)
 else if qB x.dm d=49 then({x with dv:=uM s x d s.aC.length},true) else(x,false)
def Tu(s:aA)(x:aO)(c:Nat):aO×Bool:=
 ({x with ck:=(jY s x.ck c true).2},rM s (jY s x.ck c true).2 c||(decide ((kQ s c).length < 2)|| !rM s (jY s x.ck c true).2 ((kQ s c).getD 1 0:Nat)))
def Ku(x:aO)(i:Int):aO×Bool:=if Fh x.ln i then({x with ln:=(uI x.ln i).2},false) else(x,true)
theorem aDY{x:eJ}(h:xC x):xC (mU x).2:=by
 unfold mU
 split
 ·exact h
 ·exact⟨by show(0:Int)≤0;omega,by show(0:Int)≤3;omega⟩
theorem aDZ{s:aA}{x:aO}(hH:s.cI)(hok:bR s x)(d:Int)(n:Nat):bR s {x with dv:=uM s x d n}:=Qh hH hok (by simp[uM]) fun i e p hd hp=>by
 rw[uM,List.getElem?_mapIdx] at hp
 cases hq:x.dv[i]? with
 | none=>rw[hq] at hp;cases hp
 | some q =>
  rw[hq] at hp
  obtain⟨h1,h2⟩:=hok.each i e q hd hq
  simp only[Option.map_some,Option.some.injEq] at hp
  subst hp
  split
  ·unfold Et
   rw[hd]
   dsimp only
   split
   ·exact⟨h1,aDY h2⟩
   ·exact⟨h1,h2⟩
  ·exact⟨h1,h2⟩
section
variable{N:bO}{w0 w:World}{e:Env}{R:List Piece}{H:List HP}{Q:Exit→Act→World→Prop}{ops:Array Oper}{rest:List Oper}{K:Act→World→Prop}
variable{d:Nat}{ty:TypeId}{pos:String}{aF:Array Edge}{f h:Nat}{L:fS}{s:aA}{z:bP}
theorem aCy(n:Nat)(Φ:List Value→Prop){x:Operand}{t:TypeId}{b o:Nat}[hT:kG t n](hx:e.ev x=some (.pointer (some ⟨b,o,none⟩)))(h:∀w,St w0 R H w→∃vs,cZ w b o vs∧vs.length=n∧Φ vs)(k:∀vs,Φ vs→XK N w0 (wpList Tryz.prog ops Q rest) ((d,.agg vs.toArray)::e) R H)(hd:d < N.n:=by decide):
  XK N w0 (wpList Tryz.prog ops Q (⟨some d,.load t x,ty,pos,aF,none⟩::rest)) e R H:=rH rfl fun a w hr st=>by
 obtain⟨vs,h1,h2,h3⟩:=h w st
 exact⟨.agg vs.toArray,w,aFh (N:=N) (w0:=w) (R:=[all w]) (H:=[]) (d:=d) (ty:=ty) (pos:=pos) (aF:=aF) n hT.h hx (aH.jP (by simp) h1) h2 a w hr (St.start w),k vs h3 _ _ (hr.put hd _) st⟩
theorem XK.aCM(j:Nat)(hj:H[j]? =some (fT f h L s z))(hn:0 < s.aC.length)(k:∀b off,L.a4.1=some ⟨b,off,none⟩→XK N w0 K e R H):XK N w0 K e R H:=fun a w hr st=>by
 obtain⟨b,off,r,hA,_⟩:=gM.row (st.uV j hj).so.dev (List.getElem?_eq_getElem hn)
 exact k b off hA a w hr st
def aCn(d:bK)(vs:List Value):Prop:=∃A n k A' n' k',vs=[iv d.clock,iv d.domain,iv d.reset,.int .u32 d.gB,.slice A n k,.slice A' n' k']
theorem aEM{i b off:Nat}{d:bK}(kf:Bp w f h L s z)(hA:L.a4.1=some ⟨b,off,none⟩)(hd:s.aC[i]? =some d):∃vs,cZ w b (off+i*6) vs∧vs.length=6∧aCn d vs:=by
 obtain⟨b',off',r,mO,hl,⟨A,n,k,A',n',k',he,_⟩,hro⟩:=gM.row kf.so.dev hd
 rw[hA] at mO
 cases mO
 exact⟨r,hro,hl,A,n,k,A',n',k',he⟩
end
variable(f:Nat)(hL:HL)(s:aA)(z:bP)(x:aO)(w:World)
theorem aLZ(hH:s.cI)(aM:fF hL s)(hok:bR s x)(d:Int)(F:Nat→Prop)(hp:(dU f hL s z x).sat F w)(hF:∀b,F b→b < w.heap.size)(eB:iZ ⟨w,fun b=>b < w.heap.size∧¬F b⟩):
  Calls Tryz.prog 100 #[pt f,iv d] w (fun y w'=>y=.returned (.bool (Ky s x d).2)∧∃F',(dU f hL s z (Ky s x d).1).sat F' w'∧aV w w' F F'):=by
 have lD:=hH.t.nv
 have kA:=hok.dv
 refine XK.bY Tryz.func100 Tryz.ntmps100 hp hF ?_
 generalize bN:(⟨w,fun b=>b < w.heap.size∧¬F b⟩:Piece)=R0 at eB⊢
 refine XK.tk 0 0 ?_
 refine XK.ox 0 fun L=>?_
 refine XK.tk 1 1 ?_
 refine XK.go ?_
 refine kd (aX rfl (Rd.fL 1 rfl rfl)) ?_
 refine XK.go ?_
 refine aJ (fun w1 t=>aBp hL s x w1 hok.dm d (t.kB 0 rfl aM hok)) ?_
 unfold Ky
 generalize qL:qB x.dm d=ph
 by_cases h48:ph=48
 ·subst h48
  rw[if_pos (.inl rfl)]
  refine XK.go ?_
  refine kd (aX rfl (Rd.fL 1 rfl rfl)) ?_
  refine XK.go ?_
  refine cX 0 (cP hL s {x with dm:=(sU s x.dm d).2}) (fun w1 F1 t h1 h2 h3=>aEz hL s x w1 hH aM hok d F1 h1 h2) ?_
  dsimp only[List.set]
  refine XK.go ?_
  refine XK.gv 1 1 ?_
  refine XK.te 0 (fun L:fS=>fT f hL.h L s z) L ?_
  refine XK.gv 0 0 ?_
  subst bN
  exact XK.rT 0 hF
 by_cases Sk:ph=116
 ·subst Sk
  rw[if_pos (.inr rfl)]
  refine XK.go ?_
  refine kd (aX rfl (Rd.fL 1 rfl rfl)) ?_
  refine XK.go ?_
  refine cX 0 (cP hL s {x with dm:=(sU s x.dm d).2}) (fun w1 F1 t h1 h2 h3=>aEz hL s x w1 hH aM hok d F1 h1 h2) ?_
  dsimp only[List.set]
  refine XK.go ?_
  refine XK.gv 1 1 ?_
  refine XK.te 0 (fun L:fS=>fT f hL.h L s z) L ?_
  refine XK.gv 0 0 ?_
  subst bN
  exact XK.rT 0 hF
 rw[if_neg (by omega)]
 by_cases Iw:ph=49
 ·subst Iw
  rw[if_pos rfl]
  refine XK.go ?_
  refine kd (aX rfl (Rd.fL 1 rfl rfl)) ?_
  refine XK.go ?_
  have hm0:uM s x d 0=x.dv:=Li _ _
  refine XK.aT [(31,iv (0)),(30,iv s.aC.length),(29,.slice L.a4.1 s.aC.length L.a4.2),(0,pt f),(1,iv d)] ?_
  refine XK.loop (fun m e R H=>∃i:Nat,i≤s.aC.length∧m=s.aC.length - i∧e=[(31,iv (i:Int)),(30,iv s.aC.length),(29,.slice L.a4.1 s.aC.length L.a4.2),(0,pt f),(1,iv d)]∧R=[R0]∧H=[cP hL s {x with dv:=uM s x d i},fT f hL.h L s z,HP.many [HP.emp,HP.emp]]) s.aC.length ⟨0,by omega,rfl,rfl,rfl,by rw[hm0]⟩ fun m e R H hI=>?_
  obtain⟨i,hi,rfl,rfl,rfl,rfl⟩:=hI
  have lC:=aDZ hH hok d i
  refine XK.go ?_
  refine XK.if_ rfl (fun hlt=>?_) (fun hge=>?_)
  ·have hlt:i < s.aC.length:=by omega
   obtain⟨dv,cF⟩:=get_some hlt
   obtain⟨p,fI⟩:=get_some (l:=x.dv) (i:=i) (by omega)
   have jC:(uM s x d i)[i]? =some p:=Ll fI
   have hstep:(uM s x d i).set i (Et s d i p)=uM s x d (i+1):=Lj (f:=Et s d) fI
   obtain⟨q1,q2⟩:=(lC.each i dv p cF jC).2
   refine XK.aCM 1 rfl (by omega) fun b off hA=>?_
   refine XK.go ?_
   refine kd (dat i (off+i*6) (hx:=by rw[←hA];rfl)) ?_
   refine aCy 6 (aCn dv) rfl (fun w1 t=>aEM (t.uV 1 rfl) hA cF) ?_
   rintro _ ⟨A,n,k,A',n',k',rfl⟩
   refine bB fun g1=>?_
   refine XK.go ?_
   refine XK.if_ rfl (fun he=>?_) (fun he=>?_)
   ·have kO:Et s d i p=p:=by
     unfold Et
     rw[cF]
     exact if_neg he
    rw[kO,uH jC] at hstep
    rw[hstep]
    refine XK.go ?_
    refine XK.weak [1,2,3] rfl (by decide) (fun _ h=>h) ?_
    exact XK.rd (s.aC.length - (i+1)) ⟨i+1,hlt,rfl,rfl,rfl,rfl⟩
   ·have he:dv.domain=d:=by simpa using he
    have kO:Et s d i p=(p.1,(mU p.2).2):=by
     unfold Et
     rw[cF]
     exact if_pos he
    have hst:uE {x with dv:=uM s x d i} i=nH p.2.at_:=by
     unfold uE
     dsimp only
     rw[jC]
     rfl
    refine XK.go ?_
    refine kd (aX rfl (Rd.fL 2 rfl rfl)) ?_
    refine XK.go ?_
    refine aJ (fun w1 t=>aE0 hL s _ w1 aM lC i hlt (eB.at_ (t.le (by simp))) (t.kB 1 rfl aM lC)) ?_
    rw[hst]
    by_cases ha:p.2.at_=2∨p.2.at_=3
    ·have hlf:nH p.2.at_=115∨nH p.2.at_=100:=by
      rcases ha with ha | ha<;>rw[ha]
      ·exact .inl rfl
      ·exact .inr rfl
     rcases hlf with hlf | hlf<;>rw[hlf]
     all_goals
      refine XK.go ?_
      refine kd (aX rfl (Rd.fL 2 rfl rfl)) ?_
      refine XK.go ?_
      refine vP (α:=Int) 1 (f:=176) (fi:=[]) (ca:=[]) (fun r=>iv r) (fun _=>cP hL s (wD {x with dv:=uM s x d i} i)) (fun _=>True) (by kernel_rfl) rfl rfl rfl (by decide) (fun w1 F1 t h1 h2 h3=>aBq hL s _ w1 hH aM lC i hlt F1 h1 h2) ?_
      rintro _ _
      dsimp only[List.set]
      have hX:wD {x with dv:=uM s x d i} i={x with dv:=uM s x d (i+1)}:=by
       unfold wD
       dsimp only
       rw[jC,←hstep,kO]
      rw[hX]
      refine XK.go ?_
      refine XK.weak [1,2,3] rfl (by decide) (fun _ h=>h) ?_
      exact XK.rd (s.aC.length - (i+1)) ⟨i+1,hlt,rfl,rfl,rfl,rfl⟩
    ·have hq:(mU p.2).2=p.2:=by
      unfold mU
      rw[if_pos (by omega)]
     have hlf:nH p.2.at_=114∨nH p.2.at_=97:=by
      have:p.2.at_=0∨p.2.at_=1:=by omega
      rcases this with ha | ha<;>rw[ha]
      ·exact .inl rfl
      ·exact .inr rfl
     rw[kO,hq,uH jC] at hstep
     rcases hlf with hlf | hlf<;>rw[hlf,hstep]
     all_goals
      refine XK.go ?_
      refine XK.weak [1,2,3] rfl (by decide) (fun _ h=>h) ?_
      exact XK.rd (s.aC.length - (i+1)) ⟨i+1,hlt,rfl,rfl,rfl,rfl⟩
  obtain rfl:i=s.aC.length:=by omega
  refine XK.go ?_
  refine XK.gv 1 1 ?_
  refine XK.te 0 (fun L:fS=>fT f hL.h L s z) L ?_
  refine XK.gv 0 0 ?_
  subst bN
  exact XK.rT 0 hF
 ·rw[if_neg Iw]
  refine XK.go ?_
  refine XK.if_ rfl (fun h=>absurd h h48) (fun _=>?_)
  refine XK.go ?_
  refine XK.if_ rfl (fun h=>absurd h Sk) (fun _=>?_)
  refine XK.go ?_
  refine XK.if_ rfl (fun h=>absurd h Iw) (fun _=>?_)
  refine XK.go ?_
  refine XK.gv 1 1 ?_
  refine XK.te 0 (fun L:fS=>fT f hL.h L s z) L ?_
  refine XK.gv 0 0 ?_
  subst bN
  exact XK.rT 0 hF
theorem aLY(hH:s.cI)(aM:fF hL s)(hok:bR s x)(i:Int)(F:Nat→Prop)(hp:(dU f hL s z x).sat F w)(hF:∀b,F b→b < w.heap.size):
  Calls Tryz.prog 104 #[pt f,iv i] w (fun y w'=>y=.returned (.bool (Ku x i).2)∧∃F',(dU f hL s z (Ku x i).1).sat F' w'∧aV w w' F F'):=by
 refine XK.bY Tryz.func104 Tryz.ntmps104 hp hF ?_
 generalize bN:(⟨w,fun b=>b < w.heap.size∧¬F b⟩:Piece)=R0
 refine XK.tk 0 0 ?_
 refine XK.ox 0 fun L=>?_
 refine XK.tk 1 1 ?_
 refine XK.go ?_
 refine kd (aX rfl (Rd.fL 1 rfl rfl)) ?_
 refine XK.go ?_
 refine aJ (fun w1 t=>aLm hL s x w1 i (t.kB 0 rfl aM hok)) ?_
 unfold Ku
 cases hh:Fh x.ln i
 ·refine XK.go ?_
  refine XK.gv 1 1 ?_
  refine XK.te 0 (fun L:fS=>fT f hL.h L s z) L ?_
  refine XK.gv 0 0 ?_
  subst bN
  exact XK.rT 0 hF
 ·refine XK.go ?_
  refine kd (aX rfl (Rd.fL 1 rfl rfl)) ?_
  refine XK.go ?_
  refine cX 0 (cP hL s {x with ln:=(uI x.ln i).2}) (fun w1 F1 t h1 h2 h3=>aLk hL s x w1 hH aM hok i F1 h1 h2) ?_
  dsimp only[List.set]
  refine XK.go ?_
  refine XK.gv 1 1 ?_
  refine XK.te 0 (fun L:fS=>fT f hL.h L s z) L ?_
  refine XK.gv 0 0 ?_
  subst bN
  exact XK.rT 0 hF
theorem aMc(hH:s.cI)(aM:fF hL s)(hok:bR s x)(c:Nat)(hc:c < s.aD.length)(F:Nat→Prop)(hp:(dU f hL s z x).sat F w)(hF:∀b,F b→b < w.heap.size):
  Calls Tryz.prog 102 #[pt f,iv (c:Int)] w (fun y w'=>y=.returned (.bool (Tu s x c).2)∧∃F',(dU f hL s z (Tu s x c).1).sat F' w'∧aV w w' F F'):=by
 refine XK.bY Tryz.func102 Tryz.ntmps102 hp hF ?_
 generalize bN:(⟨w,fun b=>b < w.heap.size∧¬F b⟩:Piece)=R0
 refine XK.tk 0 0 ?_
 refine XK.ox 0 fun L=>?_
 refine XK.tk 1 1 ?_
 refine XK.go ?_
 refine kd (aX rfl (Rd.fL 1 rfl rfl)) ?_
 refine XK.go ?_
 refine cX 0 (cP hL s {x with ck:=(jY s x.ck c true).2}) (fun w1 F1 t h1 h2 h3=>aE4 hL s x w1 hH aM hok c true F1 h1 h2) ?_
 dsimp only[List.set]
 have iO:bR s {x with ck:=(jY s x.ck c true).2}:=⟨aA7 hH hok.ck _ _,hok.dm,hok.ln,hok.dv,hok.each,hok.wt⟩
 unfold Tu
 generalize rQ:({x with ck:=(jY s x.ck c true).2}:aO)=x2 at iO⊢
 have yM:(jY s x.ck c true).2=x2.ck:=by rw[←rQ]
 rw[yM]
 refine XK.go ?_
 refine kd (aX rfl (Rd.fL 1 rfl rfl)) ?_
 refine XK.go ?_
 refine aJ (fun w1 t=>aE1 hL s x2 w1 hH c (t.kB 0 rfl aM iO)) ?_
 cases hr:rM s x2.ck c
 ·refine XK.go ?_
  refine kd (mE rfl (aH.fL 1 rfl (vs:=[.slice L.a1.1 s.aD.length L.a1.2,.slice L.a2.1 s.domains.length L.a2.2,.slice L.a3.1 s.aL.length L.a3.2,.slice L.a4.1 s.aC.length L.a4.2]) rfl)) ?_
  refine XK.go ?_
  refine gO [] (Ds (kQ s c)) (fun w1 t=>Yn (all w1) s _ _ _ _ _ L.a1.2 _ L.a2.2 _ L.a3.2 _ L.a4.2 c w1 (t.uV 1 rfl).so hH.t (Piece.Le.refl _) hc) ?_
  rintro _ w1 qm ⟨Ac,cc,rfl,fK⟩ hf _ _
  have fK:=fK.le hf
  clear hf
  refine XK.go ?_
  rcases nL:kQ s c with _ | ⟨c0,_ | ⟨c1,cr⟩⟩
  ·refine XK.jO ?_
   refine XQ.end_ ?_
   refine XK.go ?_
   refine XK.gv 1 1 ?_
   refine XK.te 0 (fun L:fS=>fT f hL.h L s z) L ?_
   refine XK.gv 0 0 ?_
   subst bN
   exact XK.rT 0 hF
  ·refine XK.jO ?_
   refine XQ.end_ ?_
   refine XK.go ?_
   refine XK.gv 1 1 ?_
   refine XK.te 0 (fun L:fS=>fT f hL.h L s z) L ?_
   refine XK.gv 0 0 ?_
   subst bN
   exact XK.rT 0 hF
  ·rw[nL] at fK
   obtain⟨b,off,hA,hb,mX⟩:=fK.2 (by simp)
   have r1:Rd w [qm,R0] [cP hL s x2,fT f hL.h L s z,HP.many [HP.emp,HP.emp]] b (off+1) (iv (c1:Int)):=Rd.ro (p:=qm) (by simp) hb (mX 1 _ rfl)
   have hlen:decide ((c0::c1::cr).length < 2)=false:=by simp
   rw[hlen]
   refine XK.jO ?_
   refine XQ.go ?_
   refine XQ.split 27 rfl (fun h=>absurd h (by simp;omega)) (fun _=>?_)
   refine XQ.go ?_
   refine XQ.kd (aX rfl (Rd.fL 1 rfl rfl)) ?_
   refine XQ.go ?_
   refine XQ.kd (dat 1 (off+1) (hx:=by rw[←hA];rfl) (hlt:=by simp)) ?_
   refine XQ.go ?_
   refine XQ.call (fun w1 t=>aE1 hL s x2 w1 hH c1 (t.kB 0 rfl aM iO)) ?_
   refine XQ.end_ ?_
   refine XK.go ?_
   refine XK.gv 1 1 ?_
   refine XK.te 0 (fun L:fS=>fT f hL.h L s z) L ?_
   refine XK.gv 0 0 ?_
   subst bN
   exact XK.rT 0 hF
 ·refine XK.go ?_
  refine XK.gv 1 1 ?_
  refine XK.te 0 (fun L:fS=>fT f hL.h L s z) L ?_
  refine XK.gv 0 0 ?_
  subst bN
  exact XK.rT 0 hF
end
section
set_option maxHeartbeats 4000000
set_option maxRecDepth 20000
structure kH where
 id:Int
 dev:Int
 dead:Bool
 val:Int
def kH.cells(a:kH):List Value:=[iv a.id,iv a.dev,.bool a.dead,.int .u32 a.val]
def Bi(s:aA)(x:aO):Prop:=∀(i:Nat) (d:bK) (t:gK),s.aC[i]? =some d→(x.wt[i]?).join=some t→0≤t.bF∧t.bF < d.aI.length∧0≤t.val∧t.val < 4294967296
def Qb(x:aO)(i:Nat)(wr:Bool)(bF v:Int):aO:={x with wt:=x.wt.set i (some ⟨x.aQ,wr,bF,v⟩),aQ:=x.aQ+1}
def Bs(p:dB×eJ)(t:gK):dB×eJ:=if t.wr then(⟨p.1.now.set t.bF.toNat t.val,p.1.saved,p.1.kept⟩,p.2) else p
def gZ(s:aA)(x:aO)(i:Nat):aO×Option kH:=match(x.wt[i]?).join,s.aC[i]?,x.dv[i]? with
 | some t,some d,some p=>if Gh s x i then({x with wt:=x.wt.set i none,dv:=x.dv.set i (Bs p t)},some ⟨t.id,i,false,p.1.now.getD t.bF.toNat 0⟩) else({x with wt:=x.wt.set i none},some ⟨t.id,i,true,d.gB⟩)
 | _,_,_=>(x,none)
section
variable{s:aA}{x:aO}
theorem Zr(hok:bR s x)(i:Nat)(q:Option gK)(po:Int):bR s {x with wt:=x.wt.set i q,aQ:=po}:=⟨hok.ck,hok.dm,hok.ln,hok.dv,hok.each,by show(x.wt.set i q).length=_;rw[List.length_set];exact hok.wt⟩
theorem aCA{d:bK}{p:dB×eJ}{t:gK}(hp:vJ d p.1)(hv:0≤t.val∧t.val < 4294967296):vJ d (Bs p t).1:=by
 unfold Bs
 split
 ·refine⟨by simp[hp.now],hp.saved,fun v h=>?_,hp.u.2⟩
  rcases List.mem_or_eq_of_mem_set h with h | rfl
  ·exact hp.u.1 v h
  ·exact hv
 ·exact hp
theorem aM6(hok:bR s x){i:Nat}{d:bK}{p:dB×eJ}(hd:s.aC[i]? =some d)(h:vJ d p.1∧xC p.2)(wt:List (Option gK))(hw:wt.length=s.aC.length)(po:Int):bR s {x with dv:=x.dv.set i p,wt:=wt,aQ:=po}:=
 ⟨hok.ck,hok.dm,hok.ln,by simp[hok.dv],fun j d' p' hd' hp'=>by
  by_cases hij:i=j
  ·subst hij
   have hlt:i < x.dv.length:=by simpa using(List.getElem?_eq_some_iff.1 hp').1
   rw[List.getElem?_set_self hlt] at hp'
   cases hp'
   cases hd.symm.trans hd'
   exact h
  ·rw[List.getElem?_set_ne hij] at hp'
   exact hok.each j d' p' hd' hp',hw⟩
theorem aO2(hok:bR s x)(kZ:Bi s x)(i:Nat):bR s (gZ s x i).1:=by
 unfold gZ
 split
 ·rename_i t d p ht hd hp
  obtain⟨h1,h2⟩:=hok.each i d p hd hp
  split
  ·exact aM6 hok hd ⟨aCA h1 (kZ i d t hd ht).2.2,by unfold Bs;split<;>exact h2⟩ _ (by simp[hok.wt]) _
  ·exact Zr hok i none _
 ·exact hok
theorem aAj{ws:List (Option gK)}{i j:Nat}{t:gK}(h:((ws.set i none)[j]?).join=some t):(ws[j]?).join=some t:=by
 by_cases hij:i=j
 ·subst hij
  rw[List.getElem?_set] at h
  simp at h
  split at h<;>cases h
 ·rwa [List.getElem?_set_ne hij] at h
theorem aO0(kZ:Bi s x)(i:Nat):Bi s (gZ s x i).1:=by
 unfold gZ
 split
 ·split
  ·exact fun j d t hd ht=>kZ j d t hd (aAj ht)
  ·exact fun j d t hd ht=>kZ j d t hd (aAj ht)
 ·exact kZ
end
section
variable(L:HL)(s:aA)(x:aO)(w:World)
theorem aE2(hH:s.cI)(aM:fF L s)(hok:bR s x)(i:Nat)(d:bK)(cF:s.aC[i]? =some d)(h0:(x.wt[i]?).join=none)(kA:s.aC.length≤4)(bF:Int)(hr:0≤bF∧bF < 4∧bF < d.aI.length)(b:Bool)(v:Int)(lB:0≤x.aQ∧x.aQ≤1000000000)(F:Nat→Prop)(hp:(cP L s x).sat F w)(hF:∀b,F b→b < w.heap.size)(eB:iZ ⟨w,fun b=>b < w.heap.size∧¬F b⟩):
  Calls Tryz.prog 293 #[.pointer (some ⟨L.h,0,none⟩),.int .u32 (Oa i bF),.bool b,.int .u32 v] w (fun y w'=>y=.returned (if uE x i=114 then .tuple #[iv x.aQ,iv 0] else .tuple #[iv 0,iv 6])∧∃F',(cP L s (if uE x i=114 then Qb x i b bF v else x)).sat F' w'∧aV w w' F F'):=by
 have hls:=aM.ds
 have hxl:=hok.dv
 have uO:=hok.wt
 have hi:=(List.getElem?_eq_some_iff.1 cF).1
 obtain⟨l,gA⟩:=get_some (l:=L.ds) (i:=i) (by omega)
 obtain⟨p,fI⟩:=get_some (l:=x.dv) (i:=i) (by omega)
 have hin:bE s.aC.length (i:Int)=true:=decide_eq_true (by omega)
 have ha:=aFM (dev:=i) (bF:=bF) ⟨by omega,by omega⟩ ⟨hr.1,hr.2.1⟩
 have hst:uE x i=nH p.2.at_:=by
  unfold uE
  rw[fI]
  rfl
 rw[hst]
 refine XK.bY Tryz.func293 Tryz.ntmps293 hp hF ?_
 generalize bN:(⟨w,fun b=>b < w.heap.size∧¬F b⟩:Piece)=R0 at eB⊢
 refine XK.go ?_
 refine aJ (fun w1 t=>aF6 _ i bF ha.z0 ha.z1 ha.z2 ha.z3 w1) ?_
 refine XK.go ?_
 refine aJ (fun w1 t=>Mn L s x w1 i (t.kB 0 rfl aM hok)) ?_
 rw[hin]
 refine XK.rows 0 rfl aM hok (by omega) fun b0 off hA=>?_
 refine XK.go ?_
 refine aW (t:=25) rfl (fun h=>absurd h (by omega)) (fun _=>?_)
 refine XK.go ?_
 refine kd (aX rfl (Rd.hard 0 rfl rfl)) ?_
 refine XK.go ?_
 refine kd (dat i (off+i*6) (hx:=by rw[←hA];rfl)) ?_
 refine XK.go ?_
 refine kd (aX rfl (Rd.Vy (vs:=Fw d l) 4 (aH.dev 0 rfl aM hok hA cF gA rfl) rfl)) ?_
 refine XK.go ?_
 refine aJ (fun w1 t=>Pp l.1 d p.1 w1 ((t.kB 0 rfl aM hok).each i d l p cF gA fI).1) ?_
 refine XK.go ?_
 refine XK.if_ rfl (fun h=>absurd h (by omega)) (fun _=>?_)
 refine XK.go ?_
 refine kd (aX rfl (Rd.hard 0 rfl rfl)) ?_
 refine XK.go ?_
 refine kd (dat i (off+i*6) (hx:=by rw[←hA];rfl)) ?_
 refine XK.go ?_
 refine kd (aX rfl (Rd.Vy (vs:=Fw d l) 5 (aH.dev 0 rfl aM hok hA cF gA rfl) rfl)) ?_
 refine XK.go ?_
 refine aJ (fun w1 t=>aDu l.2 p.2 (hok.each i d p cF fI).2 w1 (eB.at_ (t.le (by simp))) ((t.kB 0 rfl aM hok).each i d l p cF gA fI).2) ?_
 refine XK.go ?_
 by_cases yR:nH p.2.at_=114
 ·rw[yR,if_pos rfl,if_pos rfl]
  refine XK.go ?_
  refine kd (aX rfl (Rd.hard 0 rfl rfl)) ?_
  refine XK.go ?_
  refine XK.tk 0 4 ?_
  refine cX 0 (rB L.B (iF s) (x.wt.set i (some ⟨x.aQ,b,bF,v⟩)) (x.aQ+1)) (fun w1 F1 t h1 h2 h3=>aOj L.B (iF s) x.wt x.aQ i (by rw[Ca];exact hi) (by rw[Ca];omega) (by rw[Ca];exact uO) h0 _ bF ha.z0 ha.z1 ha.z2 ha.z3 d.aI.length (by simp[iF,cF]) ⟨hr.1,hr.2.2⟩ b v lB w1 F1 h1 h2) ?_
  dsimp only[List.set]
  refine XK.gv 0 4 ?_
  refine XK.go ?_
  subst bN
  exact XK.dG rfl rfl rfl fun w1 t=>⟨rfl,t.turns hF (by simp) (i:=0) rfl⟩
 ·rw[if_neg yR,if_neg yR]
  refine XK.if_ rfl (fun _=>?_) (fun h=>absurd h (by simpa using yR))
  refine XK.go ?_
  subst bN
  exact XK.dG rfl rfl rfl fun w1 t=>⟨rfl,t.turns hF (by simp) (i:=0) rfl⟩
theorem aLq(hH:s.cI)(aM:fF L s)(hok:bR s x)(kZ:Bi s x)(i:Nat)(d:bK)(cF:s.aC[i]? =some d)(t:gK)(ht:(x.wt[i]?).join=some t)(a:kH)(hx:(gZ s x i).2=some a)(F:Nat→Prop)(hp:(cP L s x).sat F w)(hF:∀b,F b→b < w.heap.size):
  Calls Tryz.prog 55 #[.pointer (some ⟨L.h,0,none⟩),iv (i:Int)] w (fun y w'=>y=.returned (.tuple #[.agg a.cells.toArray,.bool true])∧∃F',(cP L s (gZ s x i).1).sat F' w'∧aV w w' F F'):=by
 have hls:=aM.ds
 have hxl:=hok.dv
 have uO:=hok.wt
 have hi:=(List.getElem?_eq_some_iff.1 cF).1
 obtain⟨l,gA⟩:=get_some (l:=L.ds) (i:=i) (by omega)
 obtain⟨p,fI⟩:=get_some (l:=x.dv) (i:=i) (by omega)
 obtain⟨hfo,hqo⟩:=hok.each i d p cF fI
 obtain⟨r1,r2,r3,r4⟩:=kZ i d t cF ht
 have iO:bR s {x with wt:=x.wt.set i none}:=Zr hok i none _
 have hwr:=aCA (t:=t) hfo ⟨r3,r4⟩
 obtain⟨rn,ern⟩:∃n:Nat,t.bF=(n:Int):=⟨t.bF.toNat,by omega⟩
 have fV:=hfo.now
 obtain⟨rv,Mg⟩:=get_some (l:=p.1.now) (i:=rn) (by omega)
 have hal:Gh s {x with wt:=x.wt.set i none} i=Gh s x i:=rfl
 have hX:gZ s x i=if Gh s x i then({x with wt:=x.wt.set i none,dv:=x.dv.set i (Bs p t)},some ⟨t.id,i,false,rv⟩) else({x with wt:=x.wt.set i none},some ⟨t.id,i,true,d.gB⟩):=by
  unfold gZ
  rw[ht,cF,fI]
  dsimp only
  rw[ern,Int.toNat_natCast,List.getD_eq_getElem?_getD,Mg]
  rfl
 rw[hX] at hx⊢
 refine XK.bY Tryz.func55 Tryz.ntmps55 hp hF ?_
 generalize bN:(⟨w,fun b=>b < w.heap.size∧¬F b⟩:Piece)=R0
 refine XK.go ?_
 refine bB fun g1=>?_
 refine XK.go ?_
 refine kd (aX rfl (Rd.hard 1 rfl rfl)) ?_
 refine XK.go ?_
 refine XK.tk 1 4 ?_
 refine cX 0 (rB L.B (iF s) (x.wt.set i none) x.aQ) (fun w1 F1 st h1 h2 h3=>aOh L.B (iF s) x.wt x.aQ i (by rw[Ca];exact hi) (by rw[Ca];exact uO) t ht w1 F1 h1 h2) ?_
 dsimp only[List.set]
 refine XK.gv 1 4 ?_
 change XK _ _ _ _ _ [_,cP L s {x with wt:=x.wt.set i none}]
 generalize rQ:({x with wt:=x.wt.set i none}:aO)=x2 at iO hal⊢
 have Cm:x2.dv[i]? =some p:=by rw[←rQ];exact fI
 refine XK.go ?_
 refine bB fun g2=>?_
 refine XK.rows 2 rfl aM iO (by omega) fun b off hA=>?_
 refine XK.go ?_
 refine kd (aX rfl (Rd.hard 2 rfl rfl)) ?_
 refine XK.go ?_
 refine kd (dat i (off+i*6) (hx:=by rw[←hA];rfl)) ?_
 refine kd (mE rfl (aH.dev 2 rfl aM iO hA cF gA rfl)) ?_
 refine bB fun g3=>?_
 refine XK.go ?_
 refine aJ (fun w1 st=>aLs L s x2 w1 hH aM iO i hi (st.kB 3 rfl aM iO)) ?_
 rw[hal]
 cases hb:Gh s x i
 ·rw[hb] at hx
  simp at hx
  subst hx
  refine XK.go ?_
  refine kd (eM rfl) ?_
  refine XK.go ?_
  subst bN
  exact XK.wA (vs:=[iv t.id,iv i,.bool true,.int .u32 d.gB]) rfl (by kernel_rfl) rfl rfl (aH.whole 2 rfl) rfl fun w1 st=>⟨rfl,st.turns hF (by simp) (i:=3) rfl⟩
 ·rw[hb] at hx
  simp at hx
  subst hx
  refine XK.go ?_
  rw[ern]
  refine aJ (fun w1 st=>aIz l.1 d p.1 rn rv hfo.now Mg w1 ((st.kB 3 rfl aM iO).each i d l p cF gA Cm).1) ?_
  refine XK.go ?_
  have Ra:t.bF.toNat=rn:=by omega
  cases hw:t.wr
  ·have hwf:Bs p t=p:=by
    unfold Bs
    rw[hw]
    rfl
   have hxx:({x with wt:=x.wt.set i none,dv:=x.dv.set i p}:aO)=x2:=by
    rw[uH fI]
    exact rQ
   rw[hwf,hxx]
   refine XK.go ?_
   refine kd (eM rfl) ?_
   refine XK.go ?_
   subst bN
   exact XK.wA (vs:=[iv t.id,iv i,.bool false,.int .u32 rv]) rfl (by kernel_rfl) rfl rfl (aH.whole 2 rfl) rfl fun w1 st=>⟨rfl,st.turns hF (by simp) (i:=3) rfl⟩
  ·have hwf:Bs p t=(⟨p.1.now.set rn t.val,p.1.saved,p.1.kept⟩,p.2):=by
    unfold Bs
    rw[hw,Ra]
    rfl
   rw[hwf]
   refine XK.go ?_
   refine XK.Kz 3 i rfl cF gA Cm ?_
   dsimp only[List.set]
   refine XK.tk 0 0 ?_
   refine cX 0 (eP l.1 d ⟨p.1.now.set rn t.val,p.1.saved,p.1.kept⟩) (fun w1 F1 st h1 h2 h3=>aIw l.1 d p.1 rn t.val hfo.now (by omega) w1 F1 h1 h2) ?_
   dsimp only[List.set]
   refine XK.gv 0 0 ?_
   refine XK.Nn 3 i rfl cF gA Cm (p':=(⟨p.1.now.set rn t.val,p.1.saved,p.1.kept⟩,p.2)) ?_
   dsimp only[List.set]
   refine XK.go ?_
   refine kd (eM rfl) ?_
   refine XK.go ?_
   subst bN
   subst rQ
   exact XK.wA (vs:=[iv t.id,iv i,.bool false,.int .u32 rv]) rfl (by kernel_rfl) rfl rfl (aH.whole 2 rfl) rfl fun w1 st=>⟨rfl,st.turns hF (by simp) (i:=3) rfl⟩
end
end
section
set_option maxHeartbeats 4000000
set_option maxRecDepth 20000
structure pR where
 st:Int
 kind:Int
 dev:Int
 bF:Int
 val:Int
 err:Int
 res:Int
 hs:List Int
def Ot:pR:=⟨0,0,0,0,0,0,0,[0,0,0,0,0,0]⟩
def hG(t:pR)(i:Nat):Int:=t.hs.getD i 0
structure aU where
 cn:Cn
 wn:dJ
 t0:pR
 t1:pR
 t2:pR
 cH:Int
 steps:List eH
 sent:Bool
 aQ:Bool
 id:Int
 many:Int
def rp0(s:aA):aU:=⟨⟨[],false⟩,iB s,Ot,Ot,Ot,-1,[],false,false,0,0⟩
def aU.tk(z:aU):Nat→pR
 | 0=>z.t0
 | 1=>z.t1
 | _=>z.t2
def aU.iC(z:aU)(j:Nat)(t:pR):aU:={z with t0:=if j=0 then t else z.t0,t1:=if j=1 then t else z.t1,t2:=if j=2 then t else z.t2}
structure cK where
 a1:AC
 a2:AC
 a3:AC
 a4:AC
 gc:Nat
 gm:Nat
 nd:AC
 w1:AC
 w2:AC
 w3:AC
 st:AC
def tkC(t:pR):List Value:=[iv t.st,.int .u8 t.kind,iv t.dev,iv t.bF,.int .u32 t.val,iv t.err,.int .u32 t.res,iv (hG t 0),iv (hG t 1),iv (hG t 2),iv (hG t 3),iv (hG t 4),iv (hG t 5)]
def iQ(h f:Nat)(L:cK)(s:aA)(z:aU):List Value:=
  [pt h,pt f,.slice L.a1.1 s.aD.length L.a1.2,.slice L.a2.1 s.domains.length L.a2.2,.slice L.a3.1 s.aL.length L.a3.2,.slice L.a4.1 s.aC.length L.a4.2,.pointer (some ⟨L.gc,0,none⟩),.slice L.w1.1 z.wn.d.length L.w1.2,.slice L.w2.1 z.wn.c.length L.w2.2,.slice L.w3.1 z.wn.l.length L.w3.2,
   iv z.t0.st,.int .u8 z.t0.kind,iv z.t0.dev,iv z.t0.bF,.int .u32 z.t0.val,iv z.t0.err,.int .u32 z.t0.res,iv (hG z.t0 0),iv (hG z.t0 1),iv (hG z.t0 2),iv (hG z.t0 3),iv (hG z.t0 4),iv (hG z.t0 5),
   iv z.t1.st,.int .u8 z.t1.kind,iv z.t1.dev,iv z.t1.bF,.int .u32 z.t1.val,iv z.t1.err,.int .u32 z.t1.res,iv (hG z.t1 0),iv (hG z.t1 1),iv (hG z.t1 2),iv (hG z.t1 3),iv (hG z.t1 4),iv (hG z.t1 5),
   iv z.t2.st,.int .u8 z.t2.kind,iv z.t2.dev,iv z.t2.bF,.int .u32 z.t2.val,iv z.t2.err,.int .u32 z.t2.res,iv (hG z.t2 0),iv (hG z.t2 1),iv (hG z.t2 2),iv (hG z.t2 3),iv (hG z.t2 4),iv (hG z.t2 5),
   iv z.cH,.slice L.st.1 z.steps.length L.st.2,.bool z.sent,.bool z.aQ,iv z.id,iv z.many]
def kE(L:cK)(s:aA)(p:Piece):Prop:=oX p s L.a1.1 s.aD.length L.a2.1 s.domains.length L.a3.1 s.aL.length L.a4.1 s.aC.length
theorem kE.le{L:cK}{s:aA}(p q:Piece)(hl:p.Le q)(h:kE L s p):kE L s q:=oX.le h hl
def qV(L:cK)(x:dJ)(p:Piece):Prop:=aE p 1 L.w1.1 x.d.length (aP x.d)∧aE p 1 L.w2.1 x.c.length (aP x.c)∧aE p 1 L.w3.1 x.l.length (aP x.l)
theorem qV.le{L:cK}{x:dJ}(p q:Piece)(hl:p.Le q)(h:qV L x p):qV L x q:=⟨h.1.le hl,h.2.1.le hl,h.2.2.le hl⟩
def Jz(L:cK)(s:aA)(p:Piece):Prop:=iA p L.nd.1 (bX s).length (bX s)
theorem Jz.le{L:cK}{s:aA}(p q:Piece)(hl:p.Le q)(h:Jz L s p):Jz L s q:=iA.le h hl
def lO(L:cK)(l:List eH)(p:Piece):Prop:=aE p 4 L.st.1 l.length (l.flatMap eH.cells)∧l.length≤L.st.2
theorem lO.le{L:cK}{l:List eH}(p q:Piece)(hl:p.Le q)(h:lO L l p):lO L l q:=⟨h.1.le hl,h.2⟩
def eC(g h f:Nat)(L:cK)(s:aA)(z:aU):HP:=HP.many [HP.aB g 123 (iQ h f L s z),HP.bH (kE L s) (kE.le (L:=L) (s:=s)),HP.bH (qV L z.wn) (qV.le (L:=L) (x:=z.wn)),oZ L.gc L.gm (.slice L.nd.1 (bX s).length L.nd.2) z.cn,HP.bH (Jz L s) (Jz.le (L:=L) (s:=s)),HP.bH (lO L z.steps) (lO.le (L:=L) (l:=z.steps))]
def fE(g h f:Nat)(s:aA)(z:aU):HP:=HP.ex fun L:cK=>eC g h f L s z
structure Bj(w:World)(g h f:Nat)(L:cK)(s:aA)(z:aU):Prop where
 r0:cZ w g 0 (iQ h f L s z)
 so:kE L s (all w)
 wn:qV L z.wn (all w)
 cn:cZ w L.gc 0 [.slice L.nd.1 (bX s).length L.nd.2,.map (some L.gm),.bool z.cn.kD]
 nd:Jz L s (all w)
 sp:lO L z.steps (all w)
theorem Bj.below{w w':World}{g h f:Nat}{L:cK}{s:aA}{z:aU}(k:Bj w g h f L s z)(hb:Below w.heap.size w w'):Bj w' g h f L s z:=
 ⟨k.r0.below hb,k.so.le _ _ (gQ hb),k.wn.le _ _ (gQ hb),k.cn.below hb,k.nd.le _ _ (gQ hb),k.sp.le _ _ (gQ hb)⟩
theorem eC.reads{g h f:Nat}{L:cK}{s:aA}{z:aU}{F:Nat→Prop}{w:World}(k:(eC g h f L s z).sat F w)(hF:∀b,F b→b < w.heap.size):Bj w g h f L s z:=by
 obtain⟨G,g1,g2,_⟩:=k
 have hl:∀i,(⟨w,G i⟩:Piece).Le (all w):=fun i b hb=>⟨hF b (g2 i b hb),rfl⟩
 obtain⟨G',k1,_,_⟩:=g1 3 _ rfl
 exact⟨sD (g1 0 _ rfl).2,kE.le _ _ (hl 1) (g1 1 _ rfl),qV.le _ _ (hl 2) (g1 2 _ rfl),sD (k1 0 _ rfl).2,Jz.le _ _ (hl 4) (g1 4 _ rfl),lO.le _ _ (hl 5) (g1 5 _ rfl)⟩
theorem St.aAn{w0 w:World}{R:List Piece}{H:List HP}{g h f:Nat}{L:cK}{s:aA}{z:aU}(t:St w0 R H w)(i:Nat)(hi:H[i]? =some (eC g h f L s z)):Bj w g h f L s z:=by
 obtain⟨F,h1,h2,_⟩:=t.chunk hi
 exact eC.reads h1 h2
theorem Pm(t:Int)(w:World):Calls Tryz.prog 44 #[iv t] w (Rt (.bool (bE 3 t)) w):=by
 refine XK.en Tryz.func44 Tryz.ntmps44 ?_
 refine XK.go ?_
 refine aW (t:=5) rfl (fun h=>?_) (fun h=>?_)
 ·refine XK.go ?_
  refine XK.gN (by simp) ?_
  unfold bE
  congr 1
  simp;omega
 ·refine XK.go ?_
  refine XK.gN (by simp) ?_
  have:bE 3 t=false:=decide_eq_false (by omega)
  rw[this]
theorem Ev{t:Int}(h:bE 3 t=true):∃j:Nat,t=(j:Int)∧(j=0∨j=1∨j=2):=by
 have:=of_decide_eq_true h
 exact⟨t.toNat,by omega,by omega⟩
section
variable(g h f:Nat)(L:cK)(s:aA)(z:aU)(w:World)
theorem aCZ(d:Int)(hR:Bj w g h f L s z):Calls Tryz.prog 67 #[pt g,iv d] w (Rt (.bool (bE s.aC.length d)) w):=by
 have k5:=hR.r0.at_ (j:=5) rfl
 refine XK.en Tryz.func67 Tryz.ntmps67 ?_
 refine XK.go ?_
 refine aW (t:=7) rfl (fun h=>?_) (fun h=>?_)
 ·refine XK.go ?_
  refine XK.gN (by simp) ?_
  unfold bE
  congr 1
  simp;omega
 ·refine XK.go ?_
  refine XK.gN (by simp) ?_
  have:bE s.aC.length d=false:=decide_eq_false (by omega)
  rw[this]
def oU(z:aU)(t:Int):Bool:=bE 3 t&&decide ((z.tk t.toNat).st≠0)
theorem aIc(t:Int)(hR:Bj w g h f L s z):Calls Tryz.prog 16 #[pt g,iv t] w (Rt (.bool (oU z t)) w):=by
 have k0:=hR.r0.at_ (j:=10) rfl
 have k1:=hR.r0.at_ (j:=23) rfl
 have k2:=hR.r0.at_ (j:=36) rfl
 unfold oU
 refine XK.en Tryz.func16 Tryz.ntmps16 ?_
 refine XK.go ?_
 refine aJ (fun w1 _=>Pm t w1) ?_
 cases hin:bE 3 t
 ·refine XK.go ?_
  exact XK.rE
 ·obtain⟨j,rfl,hj⟩:=Ev hin
  rcases hj with rfl | rfl | rfl
  all_goals
   refine XK.go ?_
   refine kd (dX _ _ (ho:=rfl)) ?_
   refine XK.go ?_
   refine XK.gN (by simp) ?_
   simp[aU.tk]
theorem aHY(hR:Bj w g h f L s z):Calls Tryz.prog 15 #[pt g] w (Rt (iv z.cH) w):=by
 have k0:=hR.r0.at_ (j:=49) rfl
 refine XK.en Tryz.func15 Tryz.ntmps15 ?_
 refine XK.go ?_
 exact XK.rE
end
end
section
set_option maxHeartbeats 4000000
set_option maxRecDepth 20000
section
variable{N:bO}{w0:World}{e:Env}{R:List Piece}{H:List HP}{Q:Exit→Act→World→Prop}{ops:Array Oper}{rest:List Oper}{pos:String}{ty:TypeId}{aF:Array Edge}
theorem Lr(i:Nat){x y:Operand}{s t:TypeId}{g o:Nat}{cs vs:List Value}(hi:H[i]? =some (HP.aB g t cs))(k:XK N w0 (wpList Tryz.prog ops Q rest) e R (H.set i (HP.aB g t (eE cs o vs))))(hx:e.ev x=some (.pointer (some ⟨g,o,none⟩)):=by rfl)(hy:e.ev y=some (.agg vs.toArray):=by rfl)(hs:(Tryz.prog.info? s).any (·.size==vs.length)=true:=by kernel_rfl)(h1:vs.all Value.oneCell'=true:=by rfl)(hl:decide (o+vs.length≤cs.length)=true:=by rfl):
  XK N w0 (wpList Tryz.prog ops Q (⟨none,.store s x y,ty,pos,aF,none⟩::rest)) e R H:=
 jV i hi hx hy hs (fun u hu=>List.all_eq_true.1 h1 u (by simpa[Value.cells] using hu)) (by simpa[Value.cells] using of_decide_eq_true hl) (by simpa[Value.cells] using k)
end
section
variable{P:Program}{N:bO}{w0 w:World}{e:Env}{R:List Piece}{H:List HP}{p:HP}{Q:Exit→Act→World→Prop}
theorem St.bU(st:St w0 R (p::H) w):St w0 R (HP.emp::H) w:=st.tX (i:=0) (p:=p) rfl (Nat.le_refl _) rfl rfl rfl fun F _ hlt=>⟨F,trivial,fun b hb=>⟨.inl hb,hlt b hb⟩,fun _ _ _=>rfl⟩
theorem XK.Nb(Z:List Nat){id:Nat}{l:List Oper}(h:XB P N w0 l.toArray Q R (HP.emp::H) Z l.length (Array.replicate l.length false) e R (p::H))(hm:P.follows .mixedOrders=true:=by kernel_rfl)(hc:Region.noSelect l.toArray=true:=by kernel_rfl):XK N w0 ((Code.region id l.toArray true).wp P Q) e R (p::H):=fun a w hr st=>by
 have:=h ⟨Down.start _ _,hc⟩ a w.drew hr st.drew
 refine wp_region_any hm (Zu (S:=St w0 R (HP.emp::H)) (Z:=Z) _ _ _ _ ?_)
 simpa using this
end
def Jg(k:Int):Value:=if k=103 then .iface 237 (.agg #[]) else if k=112 then .iface 238 (.agg #[]) else if k=114 then .iface 240 (.agg #[.bool false]) else if k=119 then .iface 240 (.agg #[.bool true]) else if k=115 then .iface 241 (.agg #[]) else if k=109 then .iface 242 (.agg #[]) else .nilIface
def uN(k:Int):Prop:=k=103∨k=112∨k=114∨k=119∨k=115∨k=109
instance(k:Int):Decidable (uN k):=by unfold uN;infer_instance
theorem Vk(k:Int)(w:World):Calls Tryz.prog 45 #[.int .u8 k] w (Rt (Jg k) w):=by
 unfold Jg
 refine XK.en Tryz.func45 Tryz.ntmps45 ?_
 refine XK.go ?_
 refine XK.if_ rfl (fun h0=>?_) (fun h0=>?_)
 ·rw[if_pos h0]
  refine XK.gw ?_
  refine kd (Ng rfl) ?_
  refine XK.go ?_
  exact XK.rE
 rw[if_neg h0]
 refine XK.go ?_
 refine XK.if_ rfl (fun h1=>?_) (fun h1=>?_)
 ·rw[if_pos h1]
  refine XK.gw ?_
  refine kd (Ng rfl) ?_
  refine XK.go ?_
  exact XK.rE
 rw[if_neg h1]
 refine XK.go ?_
 refine XK.if_ rfl (fun h2=>?_) (fun h2=>?_)
 ·rw[if_pos h2]
  refine XK.gw ?_
  refine kd (Ng rfl) ?_
  refine XK.go ?_
  exact XK.rE
 rw[if_neg h2]
 refine XK.go ?_
 refine XK.if_ rfl (fun h3=>?_) (fun h3=>?_)
 ·rw[if_pos h3]
  refine XK.gw ?_
  refine kd (Ng rfl) ?_
  refine XK.go ?_
  exact XK.rE
 rw[if_neg h3]
 refine XK.go ?_
 refine XK.if_ rfl (fun h4=>?_) (fun h4=>?_)
 ·rw[if_pos h4]
  refine XK.gw ?_
  refine kd (Ng rfl) ?_
  refine XK.go ?_
  exact XK.rE
 rw[if_neg h4]
 refine XK.go ?_
 refine XK.if_ rfl (fun h5=>?_) (fun h5=>?_)
 ·rw[if_pos h5]
  refine XK.gw ?_
  refine kd (Ng rfl) ?_
  refine XK.go ?_
  exact XK.rE
 rw[if_neg h5]
 refine XK.go ?_
 exact XK.rE
theorem aM0{k:Int}(h:¬uN k):Jg k=.nilIface:=by
 unfold uN at h
 unfold Jg
 rw[if_neg (by omega),if_neg (by omega),if_neg (by omega),if_neg (by omega),if_neg (by omega),if_neg (by omega)]
theorem aMz{k:Int}(h:uN k):∃u y,Jg k=.iface u y:=by
 rcases h with rfl | rfl | rfl | rfl | rfl | rfl<;>exact⟨_,_,rfl⟩
def sW(z:aU)(t kind dev bF val:Int):Int×aU:=if bE 3 t=false then(4,z) else if(z.tk t.toNat).st≠0 then(7,z) else if ¬uN kind then(1,z) else(0,z.iC t.toNat {z.tk t.toNat with st:=1,kind:=kind,dev:=dev,bF:=bF,val:=val})
section
variable(g h f:Nat)(s:aA)(z:aU)(w:World)(F:Nat→Prop)
theorem aCX(t kind dev bF val:Int)(hp:(fE g h f s z).sat F w)(hF:∀b,F b→b < w.heap.size):
  Calls Tryz.prog 17 #[pt g,iv t,.agg #[.int .u8 kind,iv dev,iv bF,.int .u32 val]] w (fun y w'=>y=.returned (iv (sW z t kind dev bF val).1)∧∃F',(fE g h f s (sW z t kind dev bF val).2).sat F' w'∧aV w w' F F'):=by
 unfold sW
 refine XK.bY Tryz.func17 Tryz.ntmps17 hp hF ?_
 refine XK.go ?_
 refine aS fun g1=>?_
 refine XK.go ?_
 refine aJ (fun w1 _=>Pm t w1) ?_
 cases hin:bE 3 t
 ·refine XK.go ?_
  exact XK.rT 1 hF
 ·rw [if_neg (by simp)]
  obtain⟨j,rfl,hj⟩:=Ev hin
  rw[Int.toNat_natCast]
  refine XK.ox 1 fun L=>?_
  refine XK.tk 1 0 ?_
  by_cases hst:(z.tk j).st=0
  ·rw[if_neg (by simpa using hst)]
   by_cases hk:uN kind
   ·rw[if_neg (by simpa using hk)]
    obtain⟨u,y,hy⟩:=aMz hk
    obtain⟨z',hz⟩:∃z',z'=z.iC j {z.tk j with st:=1,kind:=kind,dev:=dev,bF:=bF,val:=val}:=⟨_,rfl⟩
    rw[←hz]
    rcases hj with rfl | rfl | rfl
    all_goals
     refine XK.go ?_
     refine kd (dX _ _ (ho:=rfl)) ?_
     refine XK.go ?_
     refine XK.if_ rfl (fun h1=>absurd hst h1) (fun _=>?_)
     refine XK.go ?_
     refine aJ (fun w1 _=>Vk kind w1) ?_
     rw[hy]
     refine XK.go ?_
     refine kd (aFi rfl (.inr ⟨⟨_,_,rfl⟩,rfl⟩)) ?_
     refine XK.go ?_
     refine kd (dX _ _ (ho:=rfl)) ?_
     refine XK.go ?_
     refine XK.Nb [2] ?_
     refine XB.mv 0 ?_ (hsub:=fun _ h=>h.bU)
     refine XB.mv 1 ?_ (hsub:=fun _ h=>h.bU)
     refine XB.q 2 ?_ (hsub:=fun _ h=>h.bU)
     refine XB.next 3 rfl (by kernel_rfl) ?_
     refine bA ?_
     refine XB.bk ?_ (hS:=fun _ h=>h.bU)
     refine XB.next 4 rfl (by kernel_rfl) ?_
     refine bA ?_
     refine XB.bk ?_ (hS:=fun _ h=>h.bU)
     refine XB.next 5 rfl (by kernel_rfl) ?_
     refine dL rfl rfl ?_ (hs:=dK.mk 0 rfl bL.h rfl (of_decide_eq_true rfl))
     dsimp only[List.set]
     refine XB.bk ?_ (hS:=fun _ h=>h.bU)
     refine XB.next 6 rfl (by kernel_rfl) ?_
     refine bA ?_
     refine XB.bk ?_ (hS:=fun _ h=>h.bU)
     refine XB.next 7 rfl (by kernel_rfl) ?_
     refine bA ?_
     refine XB.bk ?_ (hS:=fun _ h=>h.bU)
     refine XB.next 8 rfl (by kernel_rfl) ?_
     refine Lr 0 rfl ?_
     dsimp only[List.set]
     refine XB.bk ?_ (hS:=fun _ h=>h.bU)
     refine XB.done (by kernel_rfl) ?_
     refine XK.go ?_
     refine XK.gv 1 0 ?_
     refine XK.sV 1 (f:=fun L:cK=>eC g h f L s z') L (by subst hz;rfl) ?_
     dsimp only[List.set]
     exact XK.rT 1 hF
   ·rw[if_pos (by simpa using hk)]
    rcases hj with rfl | rfl | rfl
    all_goals
     refine XK.go ?_
     refine kd (dX _ _ (ho:=rfl)) ?_
     refine XK.go ?_
     refine XK.if_ rfl (fun h1=>absurd hst h1) (fun _=>?_)
     refine XK.go ?_
     refine aJ (fun w1 _=>Vk kind w1) ?_
     rw[aM0 hk]
     refine XK.go ?_
     refine kd (aFi rfl (.inl ⟨rfl,rfl⟩)) ?_
     refine XK.go ?_
     refine XK.gv 1 0 ?_
     refine XK.te 1 (fun L:cK=>eC g h f L s z) L ?_
     exact XK.rT 1 hF
  ·rw[if_pos hst]
   rcases hj with rfl | rfl | rfl
   all_goals
    refine XK.go ?_
    refine kd (dX _ _ (ho:=rfl)) ?_
    refine XK.go ?_
    refine XK.if_ rfl (fun _=>?_) (fun h1=>absurd (Decidable.not_not.1 h1) hst)
    refine XK.go ?_
    refine XK.gv 1 0 ?_
    refine XK.te 1 (fun L:cK=>eC g h f L s z) L ?_
    exact XK.rT 1 hF
end
end
section
set_option maxHeartbeats 4000000
set_option maxRecDepth 20000
section
variable{N:bO}{w0:World}{e:Env}{R:List Piece}{H:List HP}{K:Act→World→Prop}
theorem aH.mid(i:Nat){b o:Nat}{t:TypeId}{cs vs:List Value}(hi:H[i]? =some (HP.aB b t cs))(hv:(cs.drop o).take vs.length=vs):aH w0 R H b o vs:=aH.aB i hi fun j v hj=>by
 rw[←hv,List.getElem?_take] at hj
 split at hj
 ·rw[List.getElem?_drop] at hj
  exact hj
 ·cases hj
theorem XK.aIq(j i:Nat){ps:List HP}{p q:HP}(hj:H[j]? =some (HP.many ps))(hi:ps[i]? =some p)(hq:∀F w,p.sat F w→q.sat F w)(k:XK N w0 K e R (H.set j (HP.many (ps.set i q)))):XK N w0 K e R H:=by
 have hlt:=(List.getElem?_eq_some_iff.1 hj).1
 have hli:=(List.getElem?_eq_some_iff.1 hi).1
 refine XK.take j i hj hi ?_
 refine XK.reuse 0 rfl hq ?_
 refine XK.nM j i (by rw[List.getElem?_set_self hlt]) (by rw[List.getElem?_set_self hli]) ?_
 rw[List.set_set,List.set_set]
 exact k
end
def kC(z:aU)(j:Nat)(err res:Int):aU:={z.iC j {z.tk j with st:=3,err:=err,res:=res} with cH:= -1,steps:=[],sent:=false,aQ:=false}
def mB(z:aU)(t:Int):(Int×Int×Bool)×aU:=if bE 3 t=false then((0,0,false),z) else if(z.tk t.toNat).st≠3 then((0,0,false),z) else(((z.tk t.toNat).err,(z.tk t.toNat).res,true),z.iC t.toNat {z.tk t.toNat with st:=0,kind:=0,dev:=0,bF:=0,val:=0,err:=0,res:=0})
section
variable(g h f:Nat)(s:aA)(z:aU)(w:World)(F:Nat→Prop)
theorem Ef(j:Nat)(cH:z.cH=(j:Int))(hj:j=0∨j=1∨j=2)(err res:Int)(hp:(fE g h f s z).sat F w)(hF:∀b,F b→b < w.heap.size):
  Calls Tryz.prog 53 #[pt g,.agg #[iv err,.int .u32 res]] w (fun y w'=>y=.returned (.tuple #[])∧∃F',(fE g h f s (kC z j err res)).sat F' w'∧aV w w' F F'):=by
 refine XK.bY Tryz.func53 Tryz.ntmps53 hp hF ?_
 obtain⟨z',hz⟩:∃z',z'=kC z j err res:=⟨_,rfl⟩
 rw[←hz]
 refine XK.ox 0 fun L=>?_
 refine XK.tk 0 0 ?_
 rcases hj with rfl | rfl | rfl
 all_goals
  refine XK.go ?_
  refine aS fun g1=>?_
  refine XK.weak [1,0,2] rfl (by decide) (fun _ h=>h) ?_
  refine XK.go ?_
  refine XK.jO ?_
  refine XQ.go ?_
  refine XQ.kd (dX _ _ (hj:=cH) (ho:=rfl)) ?_
  refine XQ.end_ ?_
  refine XK.go ?_
  refine XK.Nb [2] ?_
  refine XB.mv 0 ?_ (hsub:=fun _ h=>h.bU)
  refine XB.mv 1 ?_ (hsub:=fun _ h=>h.bU)
  refine XB.q 2 ?_ (hsub:=fun _ h=>h.bU)
  refine XB.next 3 rfl (by kernel_rfl) ?_
  refine bA ?_
  refine XB.bk ?_ (hS:=fun _ h=>h.bU)
  refine XB.next 4 rfl (by kernel_rfl) ?_
  refine bA ?_
  refine XB.bk ?_ (hS:=fun _ h=>h.bU)
  refine XB.next 5 rfl (by kernel_rfl) ?_
  refine dL rfl rfl ?_ (hs:=dK.mk 0 rfl bL.h rfl (of_decide_eq_true rfl))
  dsimp only[List.set]
  refine XB.bk ?_ (hS:=fun _ h=>h.bU)
  refine XB.next 6 rfl (by kernel_rfl) ?_
  refine bA ?_
  refine XB.bk ?_ (hS:=fun _ h=>h.bU)
  refine XB.next 7 rfl (by kernel_rfl) ?_
  refine bA ?_
  refine XB.bk ?_ (hS:=fun _ h=>h.bU)
  refine XB.next 8 rfl (by kernel_rfl) ?_
  refine Lr 0 rfl ?_
  dsimp only[List.set]
  refine XB.bk ?_ (hS:=fun _ h=>h.bU)
  refine XB.done (by kernel_rfl) ?_
  refine XK.go ?_
  refine dL rfl rfl ?_ (hs:=dK.mk 0 rfl bL.h rfl (of_decide_eq_true rfl))
  dsimp only[List.set]
  refine XK.go ?_
  refine dL rfl rfl ?_ (hs:=dK.mk 0 rfl bL.h rfl (of_decide_eq_true rfl))
  dsimp only[List.set]
  refine XK.go ?_
  refine dL rfl rfl ?_ (hs:=dK.mk 0 rfl bL.h rfl (of_decide_eq_true rfl))
  dsimp only[List.set]
  refine XK.go ?_
  refine dL rfl rfl ?_ (hs:=dK.mk 0 rfl bL.h rfl (of_decide_eq_true rfl))
  dsimp only[List.set]
  refine XK.go ?_
  refine XK.gv 1 0 ?_
  refine XK.aIq (q:=HP.bH (lO {L with st:=(none,0)} []) (lO.le (L:={L with st:=(none,0)}) (l:=[]))) 1 5 rfl rfl (fun F w _=>⟨aE.nil _ _,Nat.le_refl _⟩) ?_
  dsimp only[List.set]
  refine XK.sV 1 (f:=fun L:cK=>eC g h f L s z') {L with st:=(none,0)} (by subst hz;rfl) ?_
  dsimp only[List.set]
  exact XK.r0 1 hF
theorem aCY(t:Int)(hp:(fE g h f s z).sat F w)(hF:∀b,F b→b < w.heap.size):
  Calls Tryz.prog 23 #[pt g,iv t] w (fun y w'=>y=.returned (.tuple #[.agg #[iv (mB z t).1.1,.int .u32 (mB z t).1.2.1],.bool (mB z t).1.2.2])∧∃F',(fE g h f s (mB z t).2).sat F' w'∧aV w w' F F'):=by
 unfold mB
 refine XK.bY Tryz.func23 Tryz.ntmps23 hp hF ?_
 refine XK.go ?_
 refine bB fun g1=>?_
 refine XK.go ?_
 refine aJ (fun w1 _=>Pm t w1) ?_
 cases hin:bE 3 t
 ·refine XK.go ?_
  refine kd (eM rfl) ?_
  refine XK.go ?_
  exact XK.wA (vs:=[iv 0,.int .u32 0]) rfl (by kernel_rfl) rfl rfl (aH.whole 0 rfl) rfl fun w1 t=>⟨rfl,t.turns hF (by simp) (i:=1) rfl⟩
 ·rw[if_neg (by simp)]
  obtain⟨j,rfl,hj⟩:=Ev hin
  rw[Int.toNat_natCast]
  refine XK.ox 1 fun L=>?_
  refine XK.tk 1 0 ?_
  by_cases hst:(z.tk j).st=3
  ·rw[if_neg (by simpa using hst)]
   obtain⟨z',hz⟩:∃z',z'=z.iC j {z.tk j with st:=0,kind:=0,dev:=0,bF:=0,val:=0,err:=0,res:=0}:=⟨_,rfl⟩
   rw[←hz]
   rcases hj with rfl | rfl | rfl
   all_goals
    refine XK.go ?_
    refine kd (dX _ _ (ho:=rfl)) ?_
    refine XK.go ?_
    refine XK.if_ rfl (fun h1=>absurd hst h1) (fun _=>?_)
    refine XK.go ?_
    refine kd (dX _ _ (ho:=rfl)) ?_
    refine XK.go ?_
    refine kd (mE rfl (aH.mid (vs:=[_,_]) 0 rfl rfl)) ?_
    refine bB fun g2=>?_
    refine XK.go ?_
    refine kd (eM rfl) ?_
    refine kd (eM rfl) ?_
    refine XK.go ?_
    refine dL rfl rfl ?_ (hs:=dK.mk 1 rfl bL.h rfl (of_decide_eq_true rfl))
    dsimp only[List.set]
    refine XK.go ?_
    refine Lr 1 rfl ?_
    dsimp only[List.set]
    refine XK.go ?_
    refine Lr 1 rfl ?_
    dsimp only[List.set]
    refine XK.go ?_
    refine XK.weak [1,0,2,3] rfl (by decide) (fun _ h=>h) ?_
    refine XK.gv 2 0 ?_
    refine XK.sV 2 (f:=fun L:cK=>eC g h f L s z') L (by subst hz;rfl) ?_
    dsimp only[List.set]
    exact XK.wA (vs:=[_,_]) rfl (by kernel_rfl) rfl rfl (aH.whole 1 rfl) rfl fun w1 t=>⟨rfl,t.turns hF (by simp) (i:=2) rfl⟩
  ·rw[if_pos hst]
   rcases hj with rfl | rfl | rfl
   all_goals
    refine XK.go ?_
    refine kd (dX _ _ (ho:=rfl)) ?_
    refine XK.go ?_
    refine XK.if_ rfl (fun _=>?_) (fun h1=>absurd (Decidable.not_not.1 h1) hst)
    refine XK.go ?_
    refine kd (eM rfl) ?_
    refine XK.go ?_
    refine XK.gv 1 0 ?_
    refine XK.te 1 (fun L:cK=>eC g h f L s z) L ?_
    exact XK.wA (vs:=[iv 0,.int .u32 0]) rfl (by kernel_rfl) rfl rfl (aH.whole 0 rfl) rfl fun w1 t=>⟨rfl,t.turns hF (by simp) (i:=1) rfl⟩
end
end
section
set_option maxHeartbeats 4000000
set_option maxRecDepth 20000
def Gi(ks:List Int)(v:Int):List Int:=if ks.contains v then ks else ks++[v]
def Gx(g:List (List Int))(ks:List Int)(i:Nat):List Int:=if ks.contains (i:Int) then(g.getD i []).foldl Gi ks else ks
def Ht(g:List (List Int))(v:Int)(n:Nat):Nat→List Int
 | 0=>[v]
 | k+1=>Gx g (Ht g v n k) (n - 1 - k)
def qC(ks:List Int)(v:Int)(n:Nat):List Nat:=(List.range n).filter fun u:Nat=>decide (¬(u:Int)=v)&&ks.contains (u:Int)
def wZ(g:List (List Int))(v:Int)(n:Nat):List Nat:=qC (Ht g v n n) v n
theorem aD3(ks:List Int)(v:Int)(n:Nat):(qC ks v n).length≤n:=Nat.le_trans (List.length_filter_le _ _) (by simp)
theorem aJv(ks:List Int)(v:Int)(n:Nat):qC ks v (n+1)=if(decide (¬(n:Int)=v)&&ks.contains (n:Int))=true then qC ks v n++[n] else qC ks v n:=by
 unfold qC
 rw[List.range_succ,List.filter_append]
 simp only[List.filter_cons,List.filter_nil]
 split<;>simp
theorem aJx(A:Option Addr)(n c:Nat)(g:List (List Int))(v:Int)(w:World)(hg:iA (all w) A n g)(hn:n=g.length)(hn2:n≤100)(hlen:∀l∈g,(l.length:Int)≤9223372036854775806)(hv:0≤v∧v < n)(ho:eT g=(0,List.range n)):
  Calls Tryz.prog 141 #[.slice A n c,iv v] w (fun y w'=>(∃x,y=.returned x∧Oe g x w w')∧Below w.heap.size w w'):=by
 refine XK.en Tryz.func141 Tryz.ntmps141 ?_
 refine XK.go ?_
 refine gO [] (Oe g) (fun w1 st=>(Vv A n c g w1 (hg.le (st.le (by simp))) hn (by omega) hlen).mono fun y w' h=>h.aA3) ?_
 rintro _ w1 q ⟨A',m,c',rfl,hm,hs⟩ hf _ hfr
 have hs:=hs.le hf
 rw[ho] at hs hm
 rw[ho]
 dsimp only at hs hm⊢
 refine XK.go ?_
 refine aW (t:=18) rfl (fun h=>absurd h (by omega)) (fun _=>?_)
 refine XK.go ?_
 refine XK.if_ rfl (fun h=>absurd h (by omega)) (fun _=>?_)
 refine XK.go ?_
 exact XK.dG rfl rfl rfl fun w1 t=>⟨⟨_,rfl,A',m,c',by rw[ho];rfl,by rw[ho];exact hm,by rw[ho];exact hs.le (t.jD (by simp) (hfr (by simp)))⟩,t.below (by simp)⟩
theorem aJu(q:Piece)(r:Nat)(ks:List Int)(A:Option Addr)(n c:Nat)(v:Int)(w:World)(hn2:n≤100)(hm:tN w r (jL ks))(hq:q.Le (all w))(hs:aE q 1 A n (aG (cJ (List.range n)))):
  Calls Tryz.prog 144 #[.slice A n c,.map (some r),iv v] w (Ob (Ds (qC ks v n)) w):=by
 refine XK.en Tryz.func144 Tryz.ntmps144 ?_
 refine XK.piece q (by simp) hq ?_
 refine XK.go ?_
 refine XK.fY 3 1 ?_
 refine XK.aT [(12,iv 0),(11,iv n),(10,.slice A n c),(7,sn),(1,.map (some r)),(2,iv v)] ?_
 refine XK.loop (fun m e R H=>∃(i:Nat) (B:Option Addr) (k:Nat),i≤n∧m=n - i∧e=[(12,iv i),(11,iv n),(10,.slice A n c),(7,.slice B (qC ks v i).length k),(1,.map (some r)),(2,iv v)]∧R=[q,all w]∧H=[HP.own 3 1 (.slice B (qC ks v i).length k) (qC ks v i).length (aG (cJ (qC ks v i)))]) n ⟨0,none,0,by omega,rfl,rfl,rfl,rfl⟩ fun m e R H hI=>?_
 obtain⟨i,B,k,hi,rfl,rfl,rfl,rfl⟩:=hI
 have mM:=aD3 ks v i
 have cQ:=aJv ks v i
 generalize hl:qC ks v i=l at mM cQ⊢
 refine XK.go ?_
 refine XK.if_ rfl (fun hlt=>?_) (fun hge=>?_)
 ·have hlt:i < n:=by omega
  obtain⟨b,off,hA,hz,hc⟩:=hs.2 (by omega)
  have Ay:=hc i (iv (i:Int)) (by simp[aG,cJ,hlt])
  refine XK.go ?_
  refine kd (dat i (off+i) (hx:=by rw[←hA];rfl)) ?_
  refine XK.go ?_
  refine kd (aX rfl (Rd.ro (p:=q) (by simp) hz Ay)) ?_
  refine XK.go ?_
  refine aW (t:=19) rfl (fun hv=>?_) (fun hv=>?_)
  ·refine XK.go ?_
   refine aJ (fun w1 t=>Wd r i ks w1 (hm.below (t.below (by simp)))) ?_
   rw[decide_eq_true hv,Bool.true_and] at cQ
   cases hk:ks.contains (i:Int)
   ·rw[hk,if_neg (by simp)] at cQ
    refine XK.go ?_
    refine XK.aT [(12,iv (i+1:Nat)),(11,iv n),(10,.slice A n c),(7,.slice B l.length k),(1,.map (some r)),(2,iv v)] ?_
    exact XK.round (n - (i+1)) (by omega) ⟨i+1,B,k,hlt,rfl,by rw[cQ],rfl,by rw[cQ]⟩
   ·rw[hk,if_pos rfl] at cQ
    refine XK.go ?_
    refine dF fun g4=>?_
    refine fG 1 1 8 1 (n':=l.length+1) (el:=3) (by kernel_rfl) (by kernel_rfl) (by decide) rfl rfl rfl (kX 0 rfl rfl) (by simp[Value.oneCell']) rfl (by omega) (by omega) (by decide) fun An cn=>?_
    dsimp only[List.set]
    refine XK.go ?_
    refine XK.weak [1] rfl (by decide) (fun _ h=>h) ?_
    refine XK.aT [(12,iv (i+1:Nat)),(11,iv n),(10,.slice A n c),(7,.slice An (l.length+1) cn),(1,.map (some r)),(2,iv v)] ?_
    exact XK.round (n - (i+1)) (by omega) ⟨i+1,An,cn,hlt,rfl,by rw[cQ];simp,rfl,by rw[cQ];simp[aG,cJ]⟩
  ·rw[decide_eq_false hv,Bool.false_and,if_neg (by simp)] at cQ
   refine XK.go ?_
   refine XK.aT [(12,iv (i+1:Nat)),(11,iv n),(10,.slice A n c),(7,.slice B l.length k),(1,.map (some r)),(2,iv v)] ?_
   exact XK.round (n - (i+1)) (by omega) ⟨i+1,B,k,hlt,rfl,by rw[cQ],rfl,by rw[cQ]⟩
 ·obtain rfl:i=n:=by omega
  subst hl
  refine XK.go ?_
  refine XK.still [] [0] [] (by simp) rfl (by decide) (by decide) fun q2 tD _ hfr=>?_
  have h2:aE q2 1 B (qC ks v i).length (aG (cJ (qC ks v i))):=aE.own (tD 0 _ (by simp) rfl)
  exact XK.rX (h:=fun w1 t=>⟨_,rfl,B,k,rfl,h2.le (t.jD (by simp) (hfr (by simp) (by simp)))⟩)
theorem aLG(q0:Piece)(A:Option Addr)(n c:Nat)(g:List (List Int))(v:Nat)(w:World)(Ez:q0.Le (all w))(hg:iA q0 A n g)(hn:n=g.length)(hn2:n≤100)(hlen:∀l∈g,(l.length:Int)≤1000)(hv:v < n)(ho:eT g=(0,List.range n)):
  Calls Tryz.prog 65 #[.slice A n c,iv (v:Int)] w (Ob (fun x w w'=>∃A' c',x=.tuple #[.slice A' (wZ g v n).length c',iv 0]∧aE (fresh w w') 1 A' (wZ g v n).length (aG (cJ (wZ g v n)))) w):=by
 refine XK.en Tryz.func65 Tryz.ntmps65 ?_
 refine XK.piece q0 (by simp) Ez ?_
 refine XK.go ?_
 refine gO [] (Oe g) (fun w1 st=>aJx A n c g v w1 (hg.le (st.le (by simp))) hn hn2 (fun l hl=>by have:=hlen l hl;omega) (by omega) ho) ?_
 rintro _ w1 q ⟨A',m,c',rfl,hm,hs⟩ hf _ _
 have hs:=hs.le hf
 rw[ho] at hs hm
 rw[ho]
 dsimp only at hs hm⊢
 obtain rfl:m=n:=by simpa using hm
 refine XK.go ?_
 refine Us (by decide) fun r=>?_
 refine XK.go ?_
 refine cX 0 (HP.map r (jL [(v:Int)])) (fun w1 F1 t h1 h2 h3=>We r v [] w1 F1 h1 h2) ?_
 dsimp only[List.set]
 refine XK.go ?_
 refine XK.weak [0] rfl (by decide) (R':=[q,q0,all w]) (by simp) ?_
 refine XK.aT [(9,iv ((m:Int) - 1)),(6,.slice A' m c'),(8,.map (some r)),(0,.slice A m c),(1,iv (v:Int))] ?_
 refine XK.loop (fun k e R H=>k≤m∧e=[(9,iv ((k:Int) - 1)),(6,.slice A' m c'),(8,.map (some r)),(0,.slice A m c),(1,iv (v:Int))]∧R=[q,q0,all w]∧H=[HP.map r (jL (Ht g v m (m - k)))]) m ⟨Nat.le_refl _,rfl,rfl,by rw[Nat.sub_self];rfl⟩ fun k e R H hI=>?_
 obtain⟨hk,rfl,rfl,rfl⟩:=hI
 refine XK.go ?_
 refine XK.if_ rfl (fun hge=>?_) (fun hlt=>?_)
 ·obtain⟨k,rfl⟩:∃j,k=j+1:=⟨k - 1,by omega⟩
  have hkm:k < m:=by omega
  obtain⟨row,hrow⟩:=get_some (l:=g) (i:=k) (by omega)
  have cQ:Ht g v m (m - k)=Gx g (Ht g v m (m - (k+1))) k:=by
   rw[show m - k=(m - (k+1))+1 by omega]
   show Gx g _ (m - 1 - (m - (k+1)))=_
   rw[show m - 1 - (m - (k+1))=k by omega]
  generalize hks:Ht g v m (m - (k+1))=ks at cQ⊢
  obtain⟨b,off,mO,hz,hc⟩:=hs.2 (by omega)
  have yM:=hc k (iv (k:Int)) (by simp[aG,cJ,hkm])
  obtain⟨gb,aLB,gr,hA,hgz,iG,⟨RA,rn,rk,rfl,Ra,Qz⟩,Rp⟩:=gM.aDh hg hrow
  have hrl:=hlen row (List.mem_of_getElem? hrow)
  have hrd:=Rp 0 _ rfl
  subst Ra
  refine XK.go ?_
  refine kd (dat k (off+k) (hx:=by rw[←mO];rfl)) ?_
  refine kd (aX rfl (Rd.ro (p:=q) (by simp) hz yM)) ?_
  refine aJ (fun w1 t=>Wd r k ks w1 (t.map (i:=0) rfl)) ?_
  cases hkc:ks.contains (k:Int)
  ·have h2:Gx g ks k=ks:=by unfold Gx;rw[hkc];rfl
   rw[h2] at cQ
   refine XK.go ?_
   refine XK.aT [(9,iv (((k+1:Nat):Int) - 1 - 1)),(6,.slice A' m c'),(8,.map (some r)),(0,.slice A m c),(1,iv (v:Int))] ?_
   exact XK.round k (by omega) ⟨by omega,by rw[show(((k+1:Nat):Int) - 1 - 1)=(k:Int) - 1 by omega],rfl,by rw[cQ]⟩
  ·have h2:Gx g ks k=row.foldl Gi ks:=by
    unfold Gx
    rw[hkc,if_pos rfl,List.getD_eq_getElem?_getD,hrow]
    rfl
   rw[h2] at cQ
   refine XK.go ?_
   refine kd (dat k (off+k) (hx:=by rw[←mO];rfl)) ?_
   refine kd (aX rfl (Rd.ro (p:=q) (by simp) hz yM)) ?_
   refine kd (dat k (aLB+k*1) (hx:=by rw[←hA];rfl)) ?_
   refine kd (aX rfl (Rd.ro (p:=q0) (by simp) hgz hrd)) ?_
   refine XK.go ?_
   refine XK.aT [(47,iv 0),(46,iv row.length),(45,.slice RA row.length rk),(9,iv (((k+1:Nat):Int) - 1)),(6,.slice A' m c'),(8,.map (some r)),(0,.slice A m c),(1,iv (v:Int))] ?_
   refine XK.loop (fun u e R H=>∃i:Nat,i≤row.length∧u=row.length - i∧e=[(47,iv i),(46,iv row.length),(45,.slice RA row.length rk),(9,iv (((k+1:Nat):Int) - 1)),(6,.slice A' m c'),(8,.map (some r)),(0,.slice A m c),(1,iv (v:Int))]∧R=[q,q0,all w]∧H=[HP.map r (jL ((row.take i).foldl Gi ks))]) row.length ⟨0,by omega,rfl,rfl,rfl,rfl⟩ fun u e R H hI=>?_
   obtain⟨i,hi,rfl,rfl,rfl,rfl⟩:=hI
   refine XK.go ?_
   refine XK.if_ rfl (fun rY=>?_) (fun aEw=>?_)
   ·have rY:i < row.length:=by omega
    obtain⟨y,hy⟩:=get_some rY
    obtain⟨rb,aIm,hRA,hrz,hrc⟩:=(show aE q0 1 RA row.length (aG row) from Qz).2 (by omega)
    have Fj:=hrc i (iv y) (by simp[aG,hy])
    have eL:(row.take (i+1)).foldl Gi ks=Gi ((row.take i).foldl Gi ks) y:=by
     rw[List.take_add_one,hy,List.foldl_append]
     rfl
    generalize hk2:(row.take i).foldl Gi ks=ks2 at eL⊢
    refine XK.go ?_
    refine kd (dat i (aIm+i) (hx:=by rw[←hRA];rfl)) ?_
    refine XK.go ?_
    refine kd (aX rfl (Rd.ro (p:=q0) (by simp) hrz Fj)) ?_
    refine XK.go ?_
    refine cX 0 (HP.map r (jL (Gi ks2 y))) (fun w1 F1 t h1 h2 h3=>We r y ks2 w1 F1 h1 h2) ?_
    dsimp only[List.set]
    refine XK.go ?_
    refine XK.aT [(47,iv (i+1:Nat)),(46,iv row.length),(45,.slice RA row.length rk),(9,iv (((k+1:Nat):Int) - 1)),(6,.slice A' m c'),(8,.map (some r)),(0,.slice A m c),(1,iv (v:Int))] ?_
    exact XK.round (row.length - (i+1)) (by omega) ⟨i+1,rY,rfl,rfl,rfl,by rw[eL]⟩
   ·obtain rfl:i=row.length:=by omega
    rw[List.take_length,←cQ]
    refine XK.go ?_
    refine XK.aT [(9,iv (((k+1:Nat):Int) - 1 - 1)),(6,.slice A' m c'),(8,.map (some r)),(0,.slice A m c),(1,iv (v:Int))] ?_
    exact XK.round k (by omega) ⟨by omega,by rw[show(((k+1:Nat):Int) - 1 - 1)=(k:Int) - 1 by omega],rfl,rfl⟩
 ·obtain rfl:k=0:=by omega
  rw[Nat.sub_zero]
  refine XK.go ?_
  refine gO [] (Ds (wZ g v m)) (fun w1 t=>aJu q r _ A' m c' v w1 hn2 (t.map (i:=0) rfl) (t.le (by simp)) hs) ?_
  rintro _ w1 q2 ⟨B,kb,rfl,hb⟩ jZ _ hfr
  refine XK.go ?_
  exact XK.dG rfl rfl rfl fun w1 t=>⟨⟨_,rfl,B,kb,rfl,(hb.le jZ).le (t.jD (by simp) (hfr (by simp)))⟩,t.below (by simp)⟩
end
section
set_option maxHeartbeats 4000000
set_option maxRecDepth 20000
def zA(g:List (List Int))(c:Cn)(n:Nat):Nat→List Bool
 | 0=>List.replicate n false
 | i+1=>if gY c.l (i:Int)≤0 then zA g c n i else(wZ g (i:Int) n).foldl (fun l u=>l.set u true) ((zA g c n i).set i true)
def Ub(g:List (List Int))(n:Nat)(c:Cn):List Bool:=if c.kD then List.replicate n false else zA g c n n
theorem aAl:∀(us:List Nat) (l:List Bool),(us.foldl (fun l u=>l.set u true) l).length=l.length
 | [],l=>rfl
 | u::us,l=>by
  rw[List.foldl_cons,aAl us]
  simp
theorem Za(g:List (List Int))(c:Cn)(n:Nat):∀i,(zA g c n i).length=n
 | 0=>by simp[zA]
 | i + 1 => by
  unfold zA
  split
  ·exact Za g c n i
  ·rw[aAl,List.length_set]
   exact Za g c n i
theorem aOG(g:List (List Int))(n:Nat)(c:Cn):(Ub g n c).length=n:=by
 unfold Ub
 split
 ·simp
 ·exact Za g c n n
def zE(A:Option Addr)(g:List (List Int))(p:Piece):Prop:=iA p A g.length g
theorem zE.le{A:Option Addr}{g:List (List Int)}(p q:Piece)(hl:p.Le q)(h:zE A g p):zE A g q:=iA.le h hl
def Gu(gc gm:Nat)(A:Option Addr)(k:Nat)(g:List (List Int))(c:Cn):HP:=HP.many [oZ gc gm (.slice A g.length k) c,HP.bH (zE A g) (zE.le (A:=A) (g:=g))]
theorem St.bH{w0 w:World}{R:List Piece}{H:List HP}{Φ:Piece→Prop}{hm:∀p q:Piece,p.Le q→Φ p→Φ q}(t:St w0 R H w)(i:Nat)(hi:H[i]? =some (HP.bH Φ hm)):Φ (all w):=by
 obtain⟨F,h1,h2,_⟩:=t.chunk hi
 exact hm ⟨w,F⟩ (all w) (fun b hb=>⟨h2 b hb,rfl⟩) h1
theorem aBO{l:List Bool}{i:Nat}{b:Bool}:(aP l).set i (.bool b)=aP (l.set i b):=by simp[aP,List.map_set]
theorem aJw{ks:List Int}{v:Int}{n u:Nat}(h:u∈qC ks v n):u < n:=by
 unfold qC at h
 exact List.mem_range.1 (List.mem_filter.1 h).1
theorem aFq(gc gm:Nat)(A:Option Addr)(k:Nat)(g:List (List Int))(c:Cn)(n:Nat)(hn:n=g.length)(hn2:n≤100)(hlen:∀l∈g,(l.length:Int)≤1000)(ho:eT g=(0,List.range n))(w:World)(F:Nat→Prop)(hp:(Gu gc gm A k g c).sat F w)(hF:∀b,F b→b < w.heap.size):
  Calls Tryz.prog 30 #[pt gc] w (fun y w'=>∃b:Nat,y=.returned (.slice (some ⟨b,0,none⟩) n n)∧True∧∃F',(HP.many [Gu gc gm A k g c,HP.aB b 4 (aP (Ub g n c))]).sat F' w'∧aV w w' F F'):=by
 refine XK.bY Tryz.func30 Tryz.ntmps30 hp hF ?_
 generalize bN:(⟨w,fun b=>b < w.heap.size∧¬F b⟩:Piece)=R0
 obtain⟨cl,kD⟩:=c
 refine XK.tk 0 1 ?_
 refine XK.tk 1 0 ?_
 refine XK.tk 0 0 ?_
 refine XK.tk 1 1 ?_
 subst hn
 refine XK.gw ?_
 refine jG (n:=g.length) 1 (el:=4) (z:=.bool false) (by kernel_rfl) (by kernel_rfl) rfl rfl rfl (by omega) (by omega) (by decide) fun gl=>?_
 rw[show List.replicate g.length (Value.bool false)=aP (List.replicate g.length false) from by simp[aP]]
 unfold Ub
 cases kD
 ·dsimp only
  refine XK.gw ?_
  refine XK.aT [(22,iv 0),(21,iv g.length),(3,.slice (some ⟨gl,0,none⟩) g.length g.length),(0,pt gc)] ?_
  refine XK.loop (fun m e R H=>∃i:Nat,i≤g.length∧m=g.length - i∧e=[(22,iv i),(21,iv g.length),(3,.slice (some ⟨gl,0,none⟩) g.length g.length),(0,pt gc)]∧R=[R0]∧H=[HP.aB gl 4 (aP (zA g ⟨cl,false⟩ g.length i)),HP.map gm (tH cl),HP.aB gc 160 [.slice A g.length k,.map (some gm),.bool false],HP.many [HP.emp,HP.emp],HP.bH (zE A g) (zE.le (A:=A) (g:=g)),HP.many [HP.emp,HP.emp]]) g.length ⟨0,by omega,rfl,rfl,rfl,rfl⟩ fun m e R H hI=>?_
  obtain⟨i,hi,rfl,rfl,rfl,rfl⟩:=hI
  have hal:=Za g ⟨cl,false⟩ g.length i
  have cQ:zA g ⟨cl,false⟩ g.length (i+1)=if gY cl (i:Int)≤0 then zA g ⟨cl,false⟩ g.length i else(wZ g (i:Int) g.length).foldl (fun l u=>l.set u true) ((zA g ⟨cl,false⟩ g.length i).set i true):=rfl
  generalize hl:zA g ⟨cl,false⟩ g.length i=l at hal cQ⊢
  refine XK.gw ?_
  refine XK.if_ rfl (fun hlt=>?_) (fun hge=>?_)
  ·have hlt:i < g.length:=by omega
   refine XK.gw ?_
   refine Qp 1 rfl ?_
   refine XK.gw ?_
   refine XK.if_ rfl (fun h0=>?_) (fun h0=>?_)
   ·rw[if_pos h0] at cQ
    refine XK.gw ?_
    exact XK.rd (g.length - (i+1)) ⟨i+1,hlt,rfl,rfl,rfl,by rw[cQ]⟩
   ·rw[if_neg h0] at cQ
    refine XK.gw ?_
    refine dL rfl rfl ?_ (hs:=dK.mk 0 rfl bL.h rfl (by simp[aP];omega))
    dsimp only[List.set]
    rw[aBO]
    refine XK.gw ?_
    refine gO [] (fun x w w'=>∃A' c',x=.tuple #[.slice A' (wZ g (i:Int) g.length).length c',iv 0]∧aE (fresh w w') 1 A' (wZ g (i:Int) g.length).length (aG (cJ (wZ g (i:Int) g.length)))) (fun w1 t=>aLG (all w1) A g.length k g i w1 (Piece.Le.refl _) (t.bH 4 rfl) rfl hn2 hlen hlt ho) ?_
    rintro _ w1 q ⟨B,kb,rfl,hb⟩ hf _ _
    have hb:=hb.le hf
    have Mb:=aD3 (Ht g (i:Int) g.length g.length) (i:Int) g.length
    have hum:∀u∈wZ g (i:Int) g.length,u < g.length:=fun u hu=>aJw hu
    change (wZ g (i:Int) g.length).length≤_ at Mb
    generalize hus:wZ g (i:Int) g.length=us at cQ hb Mb hum⊢
    refine XK.gw ?_
    refine XK.aT [(46,iv 0),(45,iv us.length),(44,.slice B us.length kb),(22,iv i),(21,iv g.length),(3,.slice (some ⟨gl,0,none⟩) g.length g.length),(0,pt gc)] ?_
    refine XK.loop (fun m e R H=>∃j:Nat,j≤us.length∧m=us.length - j∧e=[(46,iv j),(45,iv us.length),(44,.slice B us.length kb),(22,iv i),(21,iv g.length),(3,.slice (some ⟨gl,0,none⟩) g.length g.length),(0,pt gc)]∧R=[q,R0]∧H=[HP.aB gl 4 (aP ((us.take j).foldl (fun l u=>l.set u true) (l.set i true))),HP.map gm (tH cl),HP.aB gc 160 [.slice A g.length k,.map (some gm),.bool false],HP.many [HP.emp,HP.emp],HP.bH (zE A g) (zE.le (A:=A) (g:=g)),HP.many [HP.emp,HP.emp]]) us.length ⟨0,by omega,rfl,rfl,rfl,rfl⟩ fun m e R H hI=>?_
    obtain⟨j,hj,rfl,rfl,rfl,rfl⟩:=hI
    refine XK.gw ?_
    refine XK.if_ rfl (fun rY=>?_) (fun aEw=>?_)
    ·have rY:j < us.length:=by omega
     obtain⟨u,hu⟩:=get_some rY
     have hun:=hum u (List.mem_of_getElem? hu)
     obtain⟨b,off,hB,hz,hc⟩:=hb.2 (by omega)
     have Xr:=hc j (iv (u:Int)) (by simp[aG,cJ,hu])
     have eL:(us.take (j+1)).foldl (fun l u=>l.set u true) (l.set i true)=((us.take j).foldl (fun l u=>l.set u true) (l.set i true)).set u true:=by
      rw[List.take_add_one,hu,List.foldl_append]
      rfl
     have Cp:((us.take j).foldl (fun l u=>l.set u true) (l.set i true)).length=g.length:=by rw[aAl,List.length_set];exact hal
     generalize hl3:(us.take j).foldl (fun l u=>l.set u true) (l.set i true)=l3 at eL Cp⊢
     refine XK.gw ?_
     refine kd (dat j (off+j) (hx:=by rw[←hB];rfl)) ?_
     refine XK.go ?_
     refine kd (aX rfl (Rd.ro (p:=q) (by simp) hz Xr)) ?_
     refine XK.go ?_
     refine kd (dat u u) ?_
     refine dL rfl rfl ?_ (hs:=dK.mk 0 rfl bL.h rfl (by simp[aP];omega))
     dsimp only[List.set]
     rw[aBO,←eL]
     refine XK.gw ?_
     exact XK.rd (us.length - (j+1)) ⟨j+1,rY,rfl,rfl,rfl,rfl⟩
    ·obtain rfl:j=us.length:=by omega
     rw[List.take_length,←cQ]
     refine XK.gw ?_
     refine XK.weak [0,1,2,3,4,5] rfl (by decide) (R':=[R0]) (by simp) ?_
     exact XK.rd (g.length - (i+1)) ⟨i+1,hlt,rfl,rfl,rfl,rfl⟩
  ·obtain rfl:i=g.length:=by omega
   subst hl
   refine XK.gw ?_
   refine XK.weak [1,2,3,4,5,0] rfl (by decide) (fun _ h=>h) ?_
   refine XK.gv 1 1 ?_
   refine XK.gv 0 0 ?_
   refine XK.gv 1 0 ?_
   refine XK.gv 0 1 ?_
   refine XK.pair ?_
   subst bN
   exact XK.jQ rfl rfl fun w1 t=>⟨gl,rfl,trivial,t.turns hF (by simp) (i:=0) rfl⟩
 ·dsimp only
  refine XK.gw ?_
  refine XK.weak [1,2,3,4,5,0] rfl (by decide) (fun _ h=>h) ?_
  refine XK.gv 1 1 ?_
  refine XK.gv 0 0 ?_
  refine XK.gv 1 0 ?_
  refine XK.gv 0 1 ?_
  refine XK.pair ?_
  subst bN
  exact XK.jQ rfl rfl fun w1 t=>⟨gl,rfl,trivial,t.turns hF (by simp) (i:=0) rfl⟩
end
section
set_option maxHeartbeats 4000000
set_option maxRecDepth 20000
set_option maxHeartbeats 8000000
def Ue(x:dJ)(v:Value)(hs:List HP)(_:Piece):Prop:=∃(g1 g2 g3:Nat) (p:HP),v=.agg #[.slice (some ⟨g1,0,none⟩) x.d.length x.d.length,.slice (some ⟨g2,0,none⟩) x.c.length x.c.length,.slice (some ⟨g3,0,none⟩) x.l.length x.l.length]∧hs=[HP.many [HP.aB g1 4 (aP x.d),HP.aB g2 4 (aP x.c),HP.aB g3 4 (aP x.l)],p]
theorem Ux(q:Piece)(s:aA)(A1 A2 A3 A4:Option Addr)(n1 k1 n2 k2 n3 k3 n4 k4:Nat)(Aa:Option Addr)(ca:Nat)(act:List Bool)(w:World)(lN:oX q s A1 n1 A2 n2 A3 n3 A4 n4)(hm:s.made)(hq:q.Le (all w))(hact:aE (all w) 1 Aa act.length (aP act)):
  Calls Tryz.prog 77 #[.agg #[.slice A1 n1 k1,.slice A2 n2 k2,.slice A3 n3 k3,.slice A4 n4 k4],.slice Aa act.length ca] w (fun y w'=>(∃v hs q,y=.returned v∧q.w=w'∧Ue (fP s act) v hs q∧iY w hs q)∧Below w.heap.size w w'):=by
 obtain⟨rfl,rfl,rfl,rfl⟩:=lN.len
 refine XK.en Tryz.func77 Tryz.ntmps77 ?_
 refine XK.piece q (by simp) hq ?_
 have hn9:=hm.nc
 have nJ:=hm.nd
 have lW:=hm.nr
 have lD:=hm.nv
 refine XK.seq ?_
 refine XK.region ?_
 refine aS fun g1=>?_
 refine bB fun g2=>?_
 refine XK.aY ?_
 refine XK.seq ?_
 refine XK.seq ?_
 refine XK.region ?_
 refine sN 4 rfl ?_
 refine cG (fun w1 st=>Yl s A1 A2 A3 A4 _ k1 _ k2 _ k3 _ k4 w1 (lN.W (st.le (by simp)) (Qo hm))) ?_
 rw[Wg hm]
 refine Kj rfl rfl (by decide) ?_
 refine XK.aY ?_
 refine XK.if_ rfl (fun h=>absurd rfl h) (fun h=>?_)
 ·
  refine XK.skip ?_
  refine XK.norm ?_
  refine XK.cut (fun e R H=>∃ga gb gc gw,e=[(5,pt gw),(4,pt g2),(2,pt g1),(1,.slice Aa act.length ca)]∧R=[q,all w]∧H=[HP.aB gw 116 [.slice (some ⟨ga,0,none⟩) s.domains.length s.domains.length,.slice (some ⟨gb,0,none⟩) s.aD.length s.aD.length,.slice (some ⟨gc,0,none⟩) s.aL.length s.aL.length],HP.aB ga 4 (aP (iB s).d),HP.aB gb 4 (aP (iB s).c),HP.aB gc 4 (aP (iB s).l),HP.aB g2 116 [sn,sn,sn],HP.aB g1 30 [.slice A1 s.aD.length k1,.slice A2 s.domains.length k2,.slice A3 s.aL.length k3,.slice A4 s.aC.length k4]]) ?_ ?_
  ·
   refine XK.draw 14 (by kernel_rfl) (by kernel_rfl) ?_
   refine XA.dA 0 rfl rfl rfl (mQ (off:=1) (by kernel_rfl) rfl) ?_
   refine XA.dA 1 rfl rfl rfl (Fz rfl) ?_
   refine XA.dA 2 rfl rfl rfl (Ji (el:=50) (by kernel_rfl) rfl) ?_
   refine XA.dA 4 rfl rfl rfl (mQ (off:=0) (by kernel_rfl) rfl) ?_
   refine XA.dA 5 rfl rfl rfl (Fz rfl) ?_
   refine XA.dA 6 rfl rfl rfl (Ji (el:=86) (by kernel_rfl) rfl) ?_
   refine XA.dA 8 rfl rfl rfl (mQ (off:=2) (by kernel_rfl) rfl) ?_
   refine XA.dA 9 rfl rfl rfl (Fz rfl) ?_
   refine XA.dA 10 rfl rfl rfl (Ji (el:=88) (by kernel_rfl) rfl) ?_
   refine XA.Yx (fuel:=2) [3,7,11,13] [[3,7,11],[3,7,11,13]] (fun i=>match i with | 3=>⟨19,4,List.replicate s.domains.length (.bool false),fun g=>.slice (some ⟨g,0,none⟩) s.domains.length s.domains.length⟩ | 7=>⟨23,4,List.replicate s.aD.length (.bool false),fun g=>.slice (some ⟨g,0,none⟩) s.aD.length s.aD.length⟩ | 11=>⟨27,4,List.replicate s.aL.length (.bool false),fun g=>.slice (some ⟨g,0,none⟩) s.aL.length s.aL.length⟩ | _=>⟨5,116,[sn,sn,sn],fun g=>pt g⟩) (fun i hi=>?_) (by show[19,23,27,5].Nodup;decide) (by kernel_rfl) (fun _ h=>h) (fun sub hsub hex g=>?_)
   ·simp only[List.mem_cons,List.not_mem_nil,or_false] at hi
    rcases hi with rfl | rfl | rfl | rfl
    ·exact pW.of rfl rfl rfl (wC 1 (el:=4) (z:=.bool false) (by kernel_rfl) (by kernel_rfl) rfl rfl rfl (by omega) (by omega)) (Nat.le_of_ble_eq_true rfl) rfl
    ·exact pW.of rfl rfl rfl (wC 1 (el:=4) (z:=.bool false) (by kernel_rfl) (by kernel_rfl) rfl rfl rfl (by omega) (by omega)) (Nat.le_of_ble_eq_true rfl) rfl
    ·exact pW.of rfl rfl rfl (wC 1 (el:=4) (z:=.bool false) (by kernel_rfl) (by kernel_rfl) rfl rfl rfl (by omega) (by omega)) (Nat.le_of_ble_eq_true rfl) rfl
    ·exact pW.of rfl rfl rfl (aDP (dN (by kernel_rfl))) (Nat.le_of_ble_eq_true rfl) rfl
   have eL:sub=[3,7,11]∨sub=[3,7,11,13]:=by simpa using hex
   have er:∀n:Nat,List.replicate n (Value.bool false)=aP (List.replicate n false):=fun n=>by simp[aP]
   rcases eL with rfl | rfl
   ·dsimp only[nO,pK,iN,List.map,List.foldr,List.cons_append,List.nil_append,List.length_cons,List.length_nil,Nat.reduceAdd,Nat.reduceSub]
    refine XA.dR 12 rfl rfl rfl (by decide) (jF (zs:=[sn,sn,sn]) (L:=[(0,1),(1,1),(2,1)]) (dN (by kernel_rfl)) (by kernel_rfl) rfl (by simp[eF,fH,Value.cells];rfl)) (by kernel_rfl) (fun _ _ _ h=>h) (fun _ h=>h.tail.tail.tail) ?_
    refine XA.next 13 rfl (by kernel_rfl) ?_
    refine bB fun g6=>?_
    refine XK.nil ?_;refine XK.dD ?_;refine XA.back (fun _ h=>h.tail.tail.tail.tail) ?_
    refine XA.next 14 rfl (by kernel_rfl) ?_
    refine pY rfl rfl ?_;simp only[eE,Value.cells,List.set,List.take,List.drop,List.nil_append,List.append_nil,List.length_cons,List.length_nil,List.cons_append,Nat.reduceAdd]
    refine XA.bt ?_
    refine XA.done (by kernel_rfl) ?_
    refine XK.norm ?_
    exact XK.weak [0,1,2,3,4,5] rfl (by decide) (by simp) (XK.aT [(5,pt g6),(4,pt g2),(2,pt g1),(1,.slice Aa act.length ca)] (XK.meet ⟨g 3,g 7,g 11,g6,rfl,rfl,by simp only[er,iB]⟩))
   ·dsimp only[nO,pK,iN,List.map,List.foldr,List.cons_append,List.nil_append,List.length_cons,List.length_nil,Nat.reduceAdd,Nat.reduceSub]
    refine XA.dR 12 rfl rfl rfl (by decide) (jF (zs:=[sn,sn,sn]) (L:=[(0,1),(1,1),(2,1)]) (dN (by kernel_rfl)) (by kernel_rfl) rfl (by simp[eF,fH,Value.cells];rfl)) (by kernel_rfl) (fun _ _ _ h=>h) (fun _ h=>h.tail.tail.tail.tail) ?_
    refine XA.next 14 rfl (by kernel_rfl) ?_
    refine pY rfl rfl ?_;simp only[eE,Value.cells,List.set,List.take,List.drop,List.nil_append,List.append_nil,List.length_cons,List.length_nil,List.cons_append,Nat.reduceAdd]
    refine XA.bt ?_
    refine XA.done (by kernel_rfl) ?_
    refine XK.norm ?_
    exact XK.weak [3,0,1,2,4,5] rfl (by decide) (by simp) (XK.aT [(5,.pointer (some ⟨g 13,0,none⟩)),(4,pt g2),(2,pt g1),(1,.slice Aa act.length ca)] (XK.meet ⟨g 3,g 7,g 11,g 13,rfl,rfl,by simp only[er,iB]⟩))
  rintro _ _ _ ⟨ga,gb,gc,gw,rfl,rfl,rfl⟩
  refine XK.seq ?_
  refine XK.seq ?_
  refine XK.region ?_
  refine jH (off:=3) (by kernel_rfl) rfl (by decide) ?_
  refine oL rfl ?_
  refine pF (el:=38) (by kernel_rfl) rfl (by decide) ?_
  refine aR rfl (by decide) ?_
  refine XK.aY ?_
  refine XK.aT [(32,iv 0),(31,iv s.aC.length),(30,.slice A4 s.aC.length k4),(5,pt gw),(4,pt g2),(2,pt g1),(1,.slice Aa act.length ca)] ?_
  refine XK.block ?_
  refine XK.loop (fun m e R H=>∃(j:Nat),j≤s.aC.length∧m=s.aC.length - j∧e=[(32,iv j),(31,iv s.aC.length),(30,.slice A4 s.aC.length k4),(5,pt gw),(4,pt g2),(2,pt g1),(1,.slice Aa act.length ca)]∧R=[q,all w]∧H=[HP.aB gw 116 [.slice (some ⟨ga,0,none⟩) s.domains.length s.domains.length,.slice (some ⟨gb,0,none⟩) s.aD.length s.aD.length,.slice (some ⟨gc,0,none⟩) s.aL.length s.aL.length],HP.aB ga 4 (aP (lQ s act j).d),HP.aB gb 4 (aP (lQ s act j).c),HP.aB gc 4 (aP (lQ s act j).l),HP.aB g2 116 [sn,sn,sn],HP.aB g1 30 [.slice A1 s.aD.length k1,.slice A2 s.domains.length k2,.slice A3 s.aL.length k3,.slice A4 s.aC.length k4]]) s.aC.length ⟨0,by omega,rfl,rfl,rfl,rfl⟩ fun m e R H hI=>?_
  obtain⟨j,hj,rfl,rfl,rfl,rfl⟩:=hI
  refine XK.seq ?_
  refine XK.region ?_
  refine xN rfl rfl (by decide) ?_
  refine XK.aY ?_
  refine XK.seq ?_
  refine XK.if_ rfl (fun h=>?_) (fun h=>?_)
  ·
   refine XK.skip ?_
   refine XK.norm ?_
   refine XK.seq ?_
   refine XK.block ?_
   refine XK.seq ?_
   have hjl:j < s.aC.length:=by have h':(j:Int) < (s.aC.length:Int):=h;omega
   obtain⟨x,hx⟩:∃x,s.aC[j]? =some x:=⟨_,List.getElem?_eq_getElem hjl⟩
   obtain⟨hx1,rQ,hx3,Wt,hx5,hx6,_⟩:=hm.aC j x hx
   obtain⟨bV,oV,rV,rfl,hzV,_,hR,Sb⟩:=lN.dev.vY hx
   obtain⟨Ar,nr,kr,An,nn,kn,rfl,_⟩:=hR
   have Hy:=Uy s act j
   obtain⟨xc,Ws⟩:∃xc:Nat,x.clock=(xc:Int):=⟨x.clock.toNat,by omega⟩
   obtain⟨xd,hxd⟩:∃xd:Nat,x.domain=(xd:Int):=⟨x.domain.toNat,by omega⟩
   obtain⟨xr,hxr⟩:∃xr:Nat,x.reset=(xr:Int):=⟨x.reset.toNat,by omega⟩
   have Co:hasB act j=true→lQ s act (j+1)=⟨tA (Gw s xd) (lQ s act j).d,tA ((kQ s xc).filter (vV s)) (lQ s act j).c,xW (lQ s act j).l (xr:Int) true⟩:=fun ha=>by
    rw[aGF hx ha,Kk,hxd,Ws,hxr];rfl
   rw[Ws,hxd,hxr] at Sb
   generalize hwj:lQ s act j=wj at *
   refine XK.region ?_
   refine aR rfl (by decide) ?_
   refine kd (dat (j) (oV+j*6)) ?_
   refine vN 6 (by kernel_rfl) rfl (aH.of (vs:=[iv (xc:Int),iv (xd:Int),iv (xr:Int),.int .u32 x.gB,.slice Ar nr kr,.slice An nn kn]) fun f v hf=>Rd.ro (p:=q) (by simp) hzV (Sb f v hf)) rfl (by decide) ?_
   refine bB fun g7=>?_
   refine cM rfl (by decide) ?_
   refine pY rfl rfl ?_;simp only[eE,Value.cells,List.set,List.take,List.drop,List.nil_append,List.append_nil,List.length_cons,List.length_nil,List.cons_append,Nat.reduceAdd]
   refine XK.aY ?_
   refine XK.seq ?_
   refine XK.seq ?_
   refine XK.region ?_
   refine aR rfl (by decide) ?_
   refine aR rfl (by decide) ?_
   refine cG (fun w1 st=>aBs Aa act.length ca j act w1 (hact.le (st.le (by simp))) rfl (by omega)) ?_
   (first | refine Dv rfl (by decide) ?_ | refine tR rfl (by decide) ?_)
   refine XK.aY ?_
   refine XK.cond rfl (fun h=>?_) (fun h=>?_)
   ·
    refine XK.exit ?_
    refine XK.norm ?_
    refine XK.region ?_
    refine nD rfl rfl (eR (by omega)) (by decide) ?_
    refine aR rfl (by decide) ?_
    refine XK.aY ?_
    have hno:hasB act j=false:=by simpa using h
    exact XK.weak [1,2,3,4,5,6] rfl (by decide) (by simp) (XK.aT [(32,iv ((j:Int)+1)),(31,iv s.aC.length),(30,.slice (some ⟨bV,oV,none⟩) s.aC.length k4),(5,pt gw),(4,pt g2),(2,pt g1),(1,.slice Aa act.length ca)] (XK.round (s.aC.length - (j+1)) (by omega) ⟨j+1,by omega,rfl,rfl,rfl,by rw[aGE hno,hwj]⟩))
   ·
    have hyes:hasB act j=true:=by simpa using h
    have Co:=Co hyes
    refine XK.skip ?_
    refine XK.norm ?_
    refine XK.seq ?_
    refine XK.seq ?_
    refine XK.region ?_
    refine jH (off:=1) (by kernel_rfl) rfl (by decide) ?_
    refine oL rfl ?_
    refine cM rfl (by decide) ?_
    refine XK.aY ?_
    refine XK.aT [(8,iv (xd:Int)),(7,pt g7),(32,iv j),(31,iv s.aC.length),(30,.slice (some ⟨bV,oV,none⟩) s.aC.length k4),(5,pt gw),(4,pt g2),(2,pt g1),(1,.slice Aa act.length ca)] ?_
    refine XK.block ?_
    refine XK.loop (fun m e R H=>∃(cur:Int) (rest:List Nat) (d:List Bool),m=rest.length∧Uf s cur rest∧d.length=s.domains.length∧tA rest d=tA (Gw s xd) wj.d∧e=[(8,iv cur),(7,pt g7),(32,iv j),(31,iv s.aC.length),(30,.slice (some ⟨bV,oV,none⟩) s.aC.length k4),(5,pt gw),(4,pt g2),(2,pt g1),(1,.slice Aa act.length ca)]∧R=[q,all w]∧H=[HP.aB g7 38 [iv (xc:Int),iv (xd:Int),iv (xr:Int),.int .u32 x.gB,.slice Ar nr kr,.slice An nn kn],HP.aB gw 116 [.slice (some ⟨ga,0,none⟩) s.domains.length s.domains.length,.slice (some ⟨gb,0,none⟩) s.aD.length s.aD.length,.slice (some ⟨gc,0,none⟩) s.aL.length s.aL.length],HP.aB ga 4 (aP d),HP.aB gb 4 (aP wj.c),HP.aB gc 4 (aP wj.l),HP.aB g2 116 [sn,sn,sn],HP.aB g1 30 [.slice A1 s.aD.length k1,.slice A2 s.domains.length k2,.slice A3 s.aL.length k3,.slice (some ⟨bV,oV,none⟩) s.aC.length k4]]) (Gw s xd).length ⟨_,Gw s xd,wj.d,rfl,aGS hm (by omega),Hy.d,rfl,rfl,rfl,rfl⟩ fun m e R H hI=>?_
    obtain⟨cur,rest,d,rfl,Qx,kA,Xi,rfl,rfl,rfl⟩:=hI
    refine XK.seq ?_
    refine XK.seq ?_
    refine XK.region ?_
    refine aR rfl (by decide) ?_
    refine Kj rfl rfl (by decide) ?_
    refine XK.aY ?_
    refine XK.if_ rfl (fun h=>?_) (fun h=>?_)
    ·
     refine XK.skip ?_
     refine XK.norm ?_
     refine XK.seq ?_
     obtain⟨i,r,rfl⟩:∃i r,rest=i::r:=by
      cases rest with
      | nil=>exact absurd Qx h
      | cons i r=>exact⟨i,r,rfl⟩
     obtain⟨rfl,dm,qM,Qx⟩:=Qx
     have hil:=(List.getElem?_eq_some_iff.1 qM).1
     refine XK.block ?_
     refine XK.region ?_
     refine jH (off:=0) (by kernel_rfl) rfl (by decide) ?_
     refine oL rfl ?_
     refine aR rfl (by decide) ?_
     refine kd (dat (i) (i)) ?_
     refine pE 2 rfl (by kernel_rfl) rfl rfl rfl (by rw[aBQ];omega) ?_
     dsimp only[List.set]
     rw[aBP,show d.set i true=xW d (i:Int) true by simp[xW]]
     refine XK.aY ?_
     obtain⟨bD,oD,rD,rfl,Qu,_,rfl,It⟩:=lN.dom.vY qM
     refine XK.region ?_
     refine jH (off:=1) (by kernel_rfl) rfl (by decide) ?_
     refine oL rfl ?_
     refine aR rfl (by decide) ?_
     refine kd (dat (i) (oD+i*3)) ?_
     refine jH (off:=0) (by kernel_rfl) rfl (by decide) ?_
     refine fX (by kernel_rfl) rfl (Rd.ro (p:=q) (by simp) Qu (It 0 _ rfl)) (by decide) ?_
     refine cM rfl (by decide) ?_
     refine XK.aY ?_
     exact XK.aT [(8,iv dm.above),(7,pt g7),(32,iv j),(31,iv s.aC.length),(30,.slice (some ⟨bV,oV,none⟩) s.aC.length k4),(5,pt gw),(4,pt g2),(2,pt g1),(1,.slice Aa act.length ca)] (XK.round r.length (by simp) ⟨dm.above,r,xW d (i:Int) true,rfl,Qx,by rw[aAw];exact kA,by rw[←Xi];rfl,rfl,rfl,rfl⟩)
    ·
     refine XK.exit ?_
     refine XK.norm ?_
     refine XK.seq ?_
     refine XK.seq ?_
     obtain rfl:rest=[]:=by
      cases rest with
      | nil=>rfl
      | cons i r=>exact absurd (show cur= -1 from Classical.not_not.1 h) (by have:=Qx.1;omega)
     have Xi:d=tA (Gw s xd) wj.d:=Xi
     refine XK.region ?_
     refine sN 4 rfl ?_
     refine jH (off:=0) (by kernel_rfl) rfl (by decide) ?_
     refine oL rfl ?_
     refine gO [] (Ds (kQ s xc)) (fun w1 st=>Yn q s A1 A2 A3 (some ⟨bV,oV,none⟩) _ k1 _ k2 _ k3 _ k4 xc w1 lN hm.uL (st.le (by simp)) (by omega)) ?_
     rintro _ w1 qc ⟨Ac,cc,rfl,hsc⟩ hf _ _
     have hsc:=hsc.le hf
     have hcin:=fun i (hi:i∈kQ s xc)=>aFz s _ _ i hi
     have fK:(kQ s xc).length≤s.aD.length:=Yo s _ _
     clear hf
     generalize nL:kQ s xc=ch at *
     refine pF (el:=3) (by kernel_rfl) rfl (by decide) ?_
     refine aR rfl (by decide) ?_
     refine XK.aY ?_
     refine XK.aT [(60,iv 0),(59,iv ch.length),(58,.slice Ac ch.length cc),(7,pt g7),(32,iv j),(31,iv s.aC.length),(30,.slice (some ⟨bV,oV,none⟩) s.aC.length k4),(5,pt gw),(4,pt g2),(2,pt g1),(1,.slice Aa act.length ca)] ?_
     refine XK.block ?_
     refine XK.loop (fun m e R H=>∃(k:Nat),k≤ch.length∧m=ch.length - k∧e=[(60,iv k),(59,iv ch.length),(58,.slice Ac ch.length cc),(7,pt g7),(32,iv j),(31,iv s.aC.length),(30,.slice (some ⟨bV,oV,none⟩) s.aC.length k4),(5,pt gw),(4,pt g2),(2,pt g1),(1,.slice Aa act.length ca)]∧R=[qc,q,all w]∧H=[HP.aB g7 38 [iv (xc:Int),iv (xd:Int),iv (xr:Int),.int .u32 x.gB,.slice Ar nr kr,.slice An nn kn],HP.aB gw 116 [.slice (some ⟨ga,0,none⟩) s.domains.length s.domains.length,.slice (some ⟨gb,0,none⟩) s.aD.length s.aD.length,.slice (some ⟨gc,0,none⟩) s.aL.length s.aL.length],HP.aB ga 4 (aP d),HP.aB gb 4 (aP (tA ((ch.take k).filter (vV s)) wj.c)),HP.aB gc 4 (aP wj.l),HP.aB g2 116 [sn,sn,sn],HP.aB g1 30 [.slice A1 s.aD.length k1,.slice A2 s.domains.length k2,.slice A3 s.aL.length k3,.slice (some ⟨bV,oV,none⟩) s.aC.length k4]]) ch.length ⟨0,by omega,rfl,rfl,rfl,rfl⟩ fun m e R H hI=>?_
     obtain⟨k,hk,rfl,rfl,rfl,rfl⟩:=hI
     refine XK.seq ?_
     refine XK.region ?_
     refine xN rfl rfl (by decide) ?_
     refine XK.aY ?_
     refine XK.seq ?_
     refine XK.if_ rfl (fun h=>?_) (fun h=>?_)
     ·
      refine XK.skip ?_
      refine XK.norm ?_
      refine XK.seq ?_
      refine XK.block ?_
      refine XK.seq ?_
      have Rj:k < ch.length:=by have h':(k:Int) < (ch.length:Int):=h;omega
      obtain⟨ci,Ay⟩:∃ci,ch[k]? =some ci:=⟨_,List.getElem?_eq_getElem Rj⟩
      have aLx:=hcin ci (List.mem_of_getElem? Ay)
      obtain⟨ck,yM⟩:∃ck,s.aD[ci]? =some ck:=⟨_,List.getElem?_eq_getElem aLx⟩
      obtain⟨bI,oI,rfl,hzI,Is⟩:=hsc.2 (by omega)
      obtain⟨bC,oC,rC,rfl,Wo,_,hR2,Xv⟩:=lN.qP.vY yM
      obtain⟨As,ns,ks,rfl,_⟩:=hR2
      have oF:(ch.take (k+1)).filter (vV s)=(ch.take k).filter (vV s)++(if vV s ci then[ci] else[]):=by
       rw[List.take_add_one,Ay,List.filter_append]
       cases zY:vV s ci<;>simp[zY]
      have aEg:vV s ci=decide (ck.kind=112∨ck.kind=103):=by unfold vV;rw[yM]
      have aPh:(tA ((ch.take k).filter (vV s)) wj.c).length=s.aD.length:=by rw[aAx];exact Hy.c
      refine XK.region ?_
      refine kd (dat (k) (oI+k)) ?_
      refine fX (by kernel_rfl) rfl (Rd.ro (p:=qc) (by simp) hzI (Is k _ (aJR Ay))) (by decide) ?_
      refine cM rfl (by decide) ?_
      refine XK.aY ?_
      refine XK.seq ?_
      refine XK.region ?_
      refine jH (off:=0) (by kernel_rfl) rfl (by decide) ?_
      refine oL rfl ?_
      refine aR rfl (by decide) ?_
      refine kd (dat (ci) (oC+ci*6)) ?_
      refine jH (off:=0) (by kernel_rfl) rfl (by decide) ?_
      refine fX (by kernel_rfl) rfl (Rd.ro (p:=q) (by simp) Wo (Xv 0 _ rfl)) (by decide) ?_
      refine cM rfl (by decide) ?_
      refine XK.aY ?_
      refine XK.Tq 75 (ck.kind=112∨ck.kind=103) ?_ ?_
      ·skip
       refine XK.region ?_
       refine aR rfl (by decide) ?_
       refine Zp rfl rfl (by decide) ?_
       refine aR rfl (by decide) ?_
       refine aW (t:=72) rfl (fun hg=>?_) (fun hg=>?_)
       ·
        refine dS rfl rfl rfl (by decide) ?_
        refine dS rfl rfl rfl (by decide) ?_
        (first | refine mH rfl rfl (by decide) ?_ | refine mI rfl rfl (by decide) ?_)
        refine XK.aY ?_
        exact XK.Lg
       ·
        refine dW rfl rfl ?_;refine aR rfl (by decide) ?_
        refine dW rfl rfl ?_;refine Zp rfl rfl (by decide) ?_
        (first | refine mH rfl rfl (by decide) ?_ | refine mI rfl rfl (by decide) ?_)
        refine XK.aY ?_
        exact XK.Lg
      refine XK.if_ rfl (fun hkd=>?_) (fun hkd=>?_)
      ·
       refine XK.region ?_
       refine jH (off:=1) (by kernel_rfl) rfl (by decide) ?_
       refine oL rfl ?_
       refine aR rfl (by decide) ?_
       refine kd (dat (ci) (ci)) ?_
       refine pE 3 rfl (by kernel_rfl) rfl rfl rfl (by rw[aBQ];omega) ?_
       dsimp only[List.set]
       rw[aBP,show(tA ((ch.take k).filter (vV s)) wj.c).set ci true=tA ((ch.take (k+1)).filter (vV s)) wj.c by rw[oF,aEg,decide_eq_true hkd];simp[tA,xW,List.foldl_append]]
       refine XK.aY ?_
       refine XK.region ?_
       refine nD rfl rfl (eR (by omega)) (by decide) ?_
       refine aR rfl (by decide) ?_
       refine XK.aY ?_
       exact XK.aT [(60,iv ((k:Int)+1)),(59,iv ch.length),(58,.slice (some ⟨bI,oI,none⟩) ch.length cc),(7,pt g7),(32,iv j),(31,iv s.aC.length),(30,.slice (some ⟨bV,oV,none⟩) s.aC.length k4),(5,pt gw),(4,pt g2),(2,pt g1),(1,.slice Aa act.length ca)] (XK.round (ch.length - (k+1)) (by omega) ⟨k+1,by omega,rfl,rfl,rfl,rfl⟩)
      ·
       refine XK.skip ?_
       refine XK.norm ?_
       refine XK.region ?_
       refine nD rfl rfl (eR (by omega)) (by decide) ?_
       refine aR rfl (by decide) ?_
       refine XK.aY ?_
       exact XK.aT [(60,iv ((k:Int)+1)),(59,iv ch.length),(58,.slice (some ⟨bI,oI,none⟩) ch.length cc),(7,pt g7),(32,iv j),(31,iv s.aC.length),(30,.slice (some ⟨bV,oV,none⟩) s.aC.length k4),(5,pt gw),(4,pt g2),(2,pt g1),(1,.slice Aa act.length ca)] (XK.round (ch.length - (k+1)) (by omega) ⟨k+1,by omega,rfl,rfl,rfl,by rw[oF,aEg,decide_eq_false hkd];simp⟩)
     ·
      refine XK.exit ?_
      refine XK.norm ?_
      have hke:k=ch.length:=by have h':¬(k:Int) < (ch.length:Int):=h;omega
      rw[hke,List.take_length]
      have mM:=Hy.l
      refine XK.region ?_
      refine jH (off:=2) (by kernel_rfl) rfl (by decide) ?_
      refine oL rfl ?_
      refine jH (off:=2) (by kernel_rfl) rfl (by decide) ?_
      refine oL rfl ?_
      refine kd (dat (xr) (xr)) ?_
      refine pE 4 rfl (by kernel_rfl) rfl rfl rfl (by rw[aBQ];omega) ?_
      dsimp only[List.set]
      rw[aBP,show wj.l.set xr true=xW wj.l (xr:Int) true by simp[xW]]
      refine XK.aY ?_
      refine XK.region ?_
      refine nD rfl rfl (eR (by omega)) (by decide) ?_
      refine aR rfl (by decide) ?_
      refine XK.aY ?_
      exact XK.weak [1,2,3,4,5,6] rfl (by decide) (R':=[q,all w]) (by simp) (XK.aT [(32,iv ((j:Int)+1)),(31,iv s.aC.length),(30,.slice (some ⟨bV,oV,none⟩) s.aC.length k4),(5,pt gw),(4,pt g2),(2,pt g1),(1,.slice Aa act.length ca)] (XK.round (s.aC.length - (j+1)) (by omega) ⟨j+1,by omega,rfl,rfl,rfl,by rw[Co,Xi]⟩))
  ·
   refine XK.exit ?_
   refine XK.norm ?_
   refine XK.seq ?_
   refine XK.region ?_
   refine sN 3 rfl ?_
   refine pY rfl rfl ?_;simp only[eE,Value.cells,List.set,List.take,List.drop,List.nil_append,List.append_nil,List.length_cons,List.length_nil,List.cons_append,Nat.reduceAdd]
   refine XK.aY ?_
   refine XK.ret ?_
   refine XK.norm ?_
   have hje:j=s.aC.length:=by have h':¬(j:Int) < (s.aC.length:Int):=h;omega
   have Hy:=Uy s act j
   have hww:fP s act=lQ s act j:=by rw[hje];rfl
   generalize lQ s act j=wj at *
   refine XK.weak [1,2,3,4] rfl (by decide) (R':=[q,all w]) (by simp) ?_
   refine XK.three ?_
   refine XK.still [] [] [0,1] (by simp) rfl (by decide) (by decide) fun qf _ _ hfr=>?_
   exact XK.By rfl (by kernel_rfl) rfl rfl (aH.whole 1 rfl) fun w1 st=>⟨⟨_,_,⟨w1,qf.Z⟩,rfl,rfl,by
    rw[hww]
    exact⟨ga,gb,gc,_,by rw[Hy.d,Hy.c,Hy.l],rfl⟩,st.newR (by simp) (by simp) (hfr (by simp) (by simp))⟩,st.below (by simp)⟩
end
section
set_option maxHeartbeats 4000000
set_option maxRecDepth 20000
def En(old l:List Bool)(n:Nat):List Bool:=l.mapIdx fun k b=>if k < n then(b||hasB old k) else b
section
variable{N:bO}{w0:World}{e:Env}{R:List Piece}{H:List HP}{K:Act→World→Prop}{Φ:Piece→Prop}{hm:∀p q:Piece,p.Le q→Φ p→Φ q}{sz n b off:Nat}{A:Option Addr}{xs:List Value}
theorem XK.aA2(i:Nat)(hi:H[i]? =some (HP.bH Φ hm))(Qs:∀p,Φ p→aE p sz A n xs)(hn:0 < n)(k:∀b off,A=some ⟨b,off,none⟩→XK N w0 K e R H):XK N w0 K e R H:=fun a w hr st=>by
 obtain⟨b,off,hA,_⟩:=(Qs _ (st.bH i hi)).2 hn
 exact k b off hA a w hr st
theorem Rd.bH(i:Nat)(hi:H[i]? =some (HP.bH Φ hm))(Qs:∀p,Φ p→aE p sz A n xs)(hA:A=some ⟨b,off,none⟩)(hn:0 < n){j:Nat}{v:Value}(hv:xs[j]? =some v):Rd w0 R H b (off+j) v:=fun w st=>by
 obtain⟨b',off',mO,_,hc⟩:=(Qs _ (st.bH i hi)).2 hn
 cases hA.symm.trans mO
 exact hc j v hv
end
def fQ(s:aA)(c:Cn):List Bool:=Ub (bX s) (bX s).length c
def nV(s:aA)(z:aU):dJ:=⟨(fP s (fQ s z.cn)).d,(fP s (fQ s z.cn)).c,En z.wn.l (fP s (fQ s z.cn)).l s.aL.length⟩
def vQ(s:aA)(z:aU):aU:={z with steps:=allM s z.wn (nV s z),sent:=false,wn:=nV s z}
theorem Zy(s:aA)(act:List Bool):(fP s act).of s:=Uy s act _
theorem aGD(s:aA)(z:aU):(nV s z).of s:=by
 have h:=Zy s (fQ s z.cn)
 exact⟨h.d,h.c,by show(List.mapIdx _ _).length=_;rw[List.length_mapIdx];exact h.l⟩
theorem Vz(s:aA):(bX s).length=s.aC.length:=by simp[bX]
section
variable(g h f:Nat)(s:aA)(z:aU)(w:World)(F:Nat→Prop)
theorem Vj(hm:s.made)(hz:z.wn.of s)(hp:(fE g h f s z).sat F w)(hF:∀b,F b→b < w.heap.size):
  Calls Tryz.prog 277 #[pt g] w (fun y w'=>y=.returned (.tuple #[])∧∃F',(fE g h f s (vQ s z)).sat F' w'∧aV w w' F F'):=by
 have lD:=hm.nv
 have hnd:=hm.nd
 have hnc:=hm.nc
 have fU:=hm.nr
 have fV:=Vz s
 have hno:∀l∈bX s,(l.length:Int)≤1000:=fun l hl=>by
  obtain⟨i,hi⟩:=List.getElem?_of_mem hl
  simp only[bX,List.getElem?_map] at hi
  cases hd:s.aC[i]? with
  | none=>rw[hd] at hi;cases hi
  | some d=>
   rw[hd] at hi
   cases hi
   have:=(hm.aC i d hd).2.2.2.2.2.2.2.2.2.2.1
   show((d.gH.length:Nat):Int)≤1000
   omega
 have ho:eT (bX s)=(0,List.range (bX s).length):=by rw[fV];exact(aAM hm).2.2
 have hal:(fQ s z.cn).length=(bX s).length:=aOG _ _ _
 refine XK.bY Tryz.func277 Tryz.ntmps277 hp hF ?_
 generalize bN:(⟨w,fun b=>b < w.heap.size∧¬F b⟩:Piece)=R0
 refine XK.ox 0 fun L=>?_
 refine XK.tk 0 0 ?_
 refine XK.tk 1 4 ?_
 refine XK.tk 2 3 ?_
 refine XK.pair ?_
 refine XK.tk 2 1 ?_
 refine XK.tk 3 2 ?_
 refine XK.weak [2,0,1,3,4] rfl (by decide) (fun _ h=>h) ?_
 change XK _ _ _ _ _ [Gu L.gc L.gm L.nd.1 L.nd.2 (bX s) z.cn,HP.bH (qV L z.wn) _,HP.bH (kE L s) _,_,_]
 generalize hM:HP.many [HP.emp,HP.emp,HP.emp,HP.emp,HP.emp,HP.bH (lO L z.steps) (lO.le (L:=L) (l:=z.steps))]=M
 refine XK.seq ?_
 refine XK.Tp (fun e R H=>∃gt ga gb gc:Nat,e=[(2,pt gt),(0,pt g)]∧R=[R0]∧H=[HP.aB gt 116 [.slice (some ⟨ga,0,none⟩) (fP s (fQ s z.cn)).d.length (fP s (fQ s z.cn)).d.length,.slice (some ⟨gb,0,none⟩) (fP s (fQ s z.cn)).c.length (fP s (fQ s z.cn)).c.length,.slice (some ⟨gc,0,none⟩) (fP s (fQ s z.cn)).l.length (fP s (fQ s z.cn)).l.length],HP.many [HP.aB ga 4 (aP (fP s (fQ s z.cn)).d),HP.aB gb 4 (aP (fP s (fQ s z.cn)).c),HP.aB gc 4 (aP (fP s (fQ s z.cn)).l)],Gu L.gc L.gm L.nd.1 L.nd.2 (bX s) z.cn,HP.bH (qV L z.wn) (qV.le (L:=L) (x:=z.wn)),HP.bH (kE L s) (kE.le (L:=L) (s:=s)),HP.aB g 123 (iQ h f L s z),M]) ?_ ?_
 ·refine XK.Nb [1,2,3,5,6,7] ?_
  refine XB.mv 0 ?_ (hsub:=fun _ h=>h.bU)
  refine XB.q 1 ?_ (hsub:=fun _ h=>h.bU)
  refine XB.q 2 ?_ (hsub:=fun _ h=>h.bU)
  refine XB.q 3 ?_ (hi:=rfl) (cY:=mE rfl (aH.mid (vs:=[_,_,_,_]) 3 rfl rfl)) (hsub:=fun _ h=>h.bU)
  refine XB.mv 4 ?_ (hsub:=fun _ h=>h.bU)
  refine XB.q 5 ?_ (hsub:=fun _ h=>h.bU)
  refine XB.q 6 ?_ (hsub:=fun _ h=>h.bU)
  refine XB.q 7 ?_ (hsub:=fun _ h=>h.bU)
  refine XB.either 8 10 rfl rfl (by kernel_rfl) ?_ ?_
  ·refine vP (α:=Nat) 0 (f:=30) (fi:=[]) (ca:=[]) (fun b=>.slice (some ⟨b,0,none⟩) (bX s).length (bX s).length) (fun b=>HP.many [Gu L.gc L.gm L.nd.1 L.nd.2 (bX s) z.cn,HP.aB b 4 (aP (fQ s z.cn))]) (fun _=>True) (by kernel_rfl) rfl rfl rfl (by decide) (fun w1 F1 t h1 h2 h3=>aFq L.gc L.gm L.nd.1 L.nd.2 (bX s) z.cn _ rfl (by omega) hno ho w1 F1 h1 h2) ?_
   rintro b _
   dsimp only[List.set]
   refine XB.bk ?_ (hS:=fun _ h=>h.bU)
   refine XB.either 9 10 rfl rfl (by kernel_rfl) ?_ ?_
   ·refine XK.tk 0 1 ?_
    refine fB (Ue (fP s (fQ s z.cn))) (fun w1 t=>by
     have h1:=t.nX (i:=0) (sz:=1) (n:=(fQ s z.cn).length) rfl (by simp[aP])
     have:=Ux (all w1) s L.a1.1 L.a2.1 L.a3.1 L.a4.1 _ L.a1.2 _ L.a2.2 _ L.a3.2 _ L.a4.2 (some ⟨b,0,none⟩) (bX s).length (fQ s z.cn) w1 (t.bH 3 rfl) hm (Piece.Le.refl _) h1
     rw[hal] at this
     exact this) ?_
    rintro _ _ q ⟨ga,gb,gc,px,rfl,rfl⟩ _
    dsimp only[List.cons_append,List.nil_append]
    refine XB.bk ?_ (hS:=fun _ h=>h.aK.tail.tail.tail.bU)
    refine XB.next 10 rfl (by kernel_rfl) ?_
    refine bB fun gt=>?_
    refine XB.bk ?_ (hS:=fun _ h=>h.aK.tail.tail.tail.tail.bU)
    refine XB.next 11 rfl (by kernel_rfl) ?_
    refine lM 0 rfl ?_
    dsimp only[List.set]
    refine XB.bk ?_ (hS:=fun _ h=>h.aK.tail.tail.tail.tail.bU)
    refine XB.done (by kernel_rfl) ?_
    refine XK.norm ?_
    refine XK.tk 4 0 ?_
    refine XK.weak [1,2,0,6,7,8,9] rfl (by decide) (R':=[R0]) (by simp) ?_
    exact XK.me ⟨gt,ga,gb,gc,rfl,rfl,rfl⟩
   ·refine bB fun gt=>?_
    refine XB.bk ?_ (hS:=fun _ h=>h.tail.bU)
    refine XB.next 9 rfl (by kernel_rfl) ?_
    refine XK.tk 1 1 ?_
    refine fB (Ue (fP s (fQ s z.cn))) (fun w1 t=>by
     have h1:=t.nX (i:=0) (sz:=1) (n:=(fQ s z.cn).length) rfl (by simp[aP])
     have:=Ux (all w1) s L.a1.1 L.a2.1 L.a3.1 L.a4.1 _ L.a1.2 _ L.a2.2 _ L.a3.2 _ L.a4.2 (some ⟨b,0,none⟩) (bX s).length (fQ s z.cn) w1 (t.bH 4 rfl) hm (Piece.Le.refl _) h1
     rw[hal] at this
     exact this) ?_
    rintro _ _ q ⟨ga,gb,gc,px,rfl,rfl⟩ _
    dsimp only[List.cons_append,List.nil_append]
    refine XB.bk ?_ (hS:=fun _ h=>h.aK.tail.tail.tail.tail.bU)
    refine XB.next 11 rfl (by kernel_rfl) ?_
    refine lM 3 rfl ?_
    dsimp only[List.set]
    refine XB.bk ?_ (hS:=fun _ h=>h.aK.tail.tail.tail.tail.bU)
    refine XB.done (by kernel_rfl) ?_
    refine XK.norm ?_
    refine XK.tk 4 0 ?_
    refine XK.weak [4,1,0,6,7,8,9] rfl (by decide) (R':=[R0]) (by simp) ?_
    exact XK.me ⟨gt,ga,gb,gc,rfl,rfl,rfl⟩
  ·refine bB fun gt=>?_
   refine XB.bk ?_ (hS:=fun _ h=>h.tail.bU)
   refine XB.next 8 rfl (by kernel_rfl) ?_
   refine vP (α:=Nat) 1 (f:=30) (fi:=[]) (ca:=[]) (fun b=>.slice (some ⟨b,0,none⟩) (bX s).length (bX s).length) (fun b=>HP.many [Gu L.gc L.gm L.nd.1 L.nd.2 (bX s) z.cn,HP.aB b 4 (aP (fQ s z.cn))]) (fun _=>True) (by kernel_rfl) rfl rfl rfl (by decide) (fun w1 F1 t h1 h2 h3=>aFq L.gc L.gm L.nd.1 L.nd.2 (bX s) z.cn _ rfl (by omega) hno ho w1 F1 h1 h2) ?_
   rintro b _
   dsimp only[List.set]
   refine XB.bk ?_ (hS:=fun _ h=>h.tail.bU)
   refine XB.next 9 rfl (by kernel_rfl) ?_
   refine XK.tk 1 1 ?_
   refine fB (Ue (fP s (fQ s z.cn))) (fun w1 t=>by
    have h1:=t.nX (i:=0) (sz:=1) (n:=(fQ s z.cn).length) rfl (by simp[aP])
    have:=Ux (all w1) s L.a1.1 L.a2.1 L.a3.1 L.a4.1 _ L.a1.2 _ L.a2.2 _ L.a3.2 _ L.a4.2 (some ⟨b,0,none⟩) (bX s).length (fQ s z.cn) w1 (t.bH 4 rfl) hm (Piece.Le.refl _) h1
    rw[hal] at this
    exact this) ?_
   rintro _ _ q ⟨ga,gb,gc,px,rfl,rfl⟩ _
   dsimp only[List.cons_append,List.nil_append]
   refine XB.bk ?_ (hS:=fun _ h=>h.aK.tail.tail.tail.tail.bU)
   refine XB.next 11 rfl (by kernel_rfl) ?_
   refine lM 3 rfl ?_
   dsimp only[List.set]
   refine XB.bk ?_ (hS:=fun _ h=>h.aK.tail.tail.tail.tail.bU)
   refine XB.done (by kernel_rfl) ?_
   refine XK.norm ?_
   refine XK.tk 4 0 ?_
   refine XK.weak [4,1,0,6,7,8,9] rfl (by decide) (R':=[R0]) (by simp) ?_
   exact XK.me ⟨gt,ga,gb,gc,rfl,rfl,rfl⟩
 rintro _ _ _ ⟨gt,ga,gb,gc,rfl,rfl,rfl⟩
 have mM:(fP s (fQ s z.cn)).l.length=(nV s z).l.length:=by
  show _=(List.mapIdx _ _).length
  rw[List.length_mapIdx]
 have uO:(fP s (fQ s z.cn)).l.length=s.aL.length:=(Zy s _).l
 have hzl:=hz.l
 rw[mM]
 have aOS:(nV s z).l.length=s.aL.length:=by rw[←mM];exact uO
 refine XK.tk 1 2 ?_
 refine XK.tk 2 1 ?_
 refine XK.tk 3 0 ?_
 refine XK.weak [0,1,2,3,4,5,6,7,8,9] rfl (by decide) (fun _ h=>h) ?_
 refine XK.go ?_
 have Az:En z.wn.l (fP s (fQ s z.cn)).l 0=(fP s (fQ s z.cn)).l:=Li _ _
 refine XK.aT [(21,iv 0),(20,iv z.wn.l.length),(19,.slice L.w3.1 z.wn.l.length L.w3.2),(2,pt gt),(0,pt g)] ?_
 refine XK.loop (fun m e R H=>∃i:Nat,i≤z.wn.l.length∧m=z.wn.l.length - i∧e=[(21,iv i),(20,iv z.wn.l.length),(19,.slice L.w3.1 z.wn.l.length L.w3.2),(2,pt gt),(0,pt g)]∧R=[R0]∧H=[HP.aB ga 4 (aP (fP s (fQ s z.cn)).d),HP.aB gb 4 (aP (fP s (fQ s z.cn)).c),HP.aB gc 4 (aP (En z.wn.l (fP s (fQ s z.cn)).l i)),HP.aB gt 116 [.slice (some ⟨ga,0,none⟩) (fP s (fQ s z.cn)).d.length (fP s (fQ s z.cn)).d.length,.slice (some ⟨gb,0,none⟩) (fP s (fQ s z.cn)).c.length (fP s (fQ s z.cn)).c.length,.slice (some ⟨gc,0,none⟩) (nV s z).l.length (nV s z).l.length],HP.many [HP.emp,HP.emp,HP.emp],Gu L.gc L.gm L.nd.1 L.nd.2 (bX s) z.cn,HP.bH (qV L z.wn) (qV.le (L:=L) (x:=z.wn)),HP.bH (kE L s) (kE.le (L:=L) (s:=s)),HP.aB g 123 (iQ h f L s z),M]) z.wn.l.length ⟨0,by omega,rfl,rfl,rfl,by rw[Az]⟩ fun m e R H hI=>?_
 obtain⟨i,hi,rfl,rfl,rfl,rfl⟩:=hI
 refine XK.go ?_
 refine XK.if_ rfl (fun hlt=>?_) (fun hge=>?_)
 ·have hlt:i < z.wn.l.length:=by omega
  obtain⟨b,hb⟩:=get_some hlt
  obtain⟨c,hc⟩:=get_some (l:=(fP s (fQ s z.cn)).l) (i:=i) (by omega)
  have eX:(En z.wn.l (fP s (fQ s z.cn)).l i)[i]? =some c:=Ll hc
  have hstep:(En z.wn.l (fP s (fQ s z.cn)).l i).set i (c||hasB z.wn.l i)=En z.wn.l (fP s (fQ s z.cn)).l (i+1):=Lj (f:=fun k b=>b||hasB z.wn.l k) hc
  have hbB:hasB z.wn.l i=b:=by show z.wn.l[i]?.getD false=b;rw[hb];rfl
  rw[hbB] at hstep
  have cH:(En z.wn.l (fP s (fQ s z.cn)).l i).length=s.aL.length:=by rw[En,List.length_mapIdx];exact uO
  refine XK.aA2 (A:=L.w3.1) (sz:=1) (n:=z.wn.l.length) (xs:=aP z.wn.l) 6 rfl (fun _ h=>h.2.2) (by omega) fun wb aGC hwA=>?_
  have hbc:(aP z.wn.l)[i]? =some (.bool b):=by simp[aP,hb]
  refine XK.go ?_
  refine kd (dat i (aGC+i) (hx:=by rw[←hwA];rfl)) ?_
  refine kd (aX rfl (Rd.bH 6 rfl (fun _ h=>h.2.2) hwA (by omega) hbc)) ?_
  refine XK.go ?_
  cases b
  ·rw[Bool.or_false,uH eX] at hstep
   rw[hstep]
   refine XK.go ?_
   exact XK.rd (z.wn.l.length - (i+1)) ⟨i+1,hlt,rfl,rfl,rfl,rfl⟩
  ·rw[Bool.or_true] at hstep
   refine XK.go ?_
   refine kd (dat i i) ?_
   refine dL rfl rfl ?_ (hs:=dK.mk 2 rfl bL.h rfl (by simp[aP];omega))
   dsimp only[List.set]
   rw[aBO,hstep]
   refine XK.go ?_
   exact XK.rd (z.wn.l.length - (i+1)) ⟨i+1,hlt,rfl,rfl,rfl,rfl⟩
 obtain rfl:i=z.wn.l.length:=by omega
 rw[hzl]
 refine XK.go ?_
 refine XK.eU [3,4,5,7,8,9,10] ?_
 refine XB.mv 0 ?_
 refine XB.mv 1 ?_
 refine XB.mv 2 ?_
 refine XB.q 3 ?_
 refine XB.q 4 ?_
 refine XB.q 5 ?_ (hi:=rfl) (cY:=mE rfl (aH.mid (vs:=[_,_,_,_]) 8 rfl rfl))
 refine XB.mv 6 ?_
 refine XB.q 7 ?_
 refine XB.q 8 ?_
 refine XB.q 9 ?_ (hi:=rfl) (cY:=mE rfl (aH.mid (vs:=[_,_,_]) 8 rfl rfl))
 refine XB.q 10 ?_
 refine XB.next 11 rfl (by kernel_rfl) ?_
 refine gO [] (aFV (allM s z.wn (nV s z))) (fun w1 t=>aHm (q:=all w1) (qx:=all w1) (qy:=all w1) (t.bH 7 rfl) hm (Piece.Le.refl _) (x:=z.wn) (y:=nV s z) ⟨L.w1.1,L.w1.2,L.w2.1,L.w2.2,L.w3.1,L.w3.2,rfl,t.bH 6 rfl⟩ (Piece.Le.refl _) ⟨_,_,_,_,_,_,rfl,t.nX (i:=0) rfl (by simp[aP,nV]),t.nX (i:=1) rfl (by simp[aP,nV]),t.nX (i:=2) rfl (by simp[aP,nV])⟩ (Piece.Le.refl _)) ?_
 rintro _ w1 q ⟨As,cs,rfl,hs,hsc⟩ hf _ hfr
 have hs:=hs.le hf
 refine XB.bt ?_
 refine XB.next 12 rfl (by kernel_rfl) ?_
 refine bA ?_
 refine XB.bt ?_
 refine XB.next 13 rfl (by kernel_rfl) ?_
 refine bA ?_
 refine XB.bt ?_
 refine XB.next 14 rfl (by kernel_rfl) ?_
 refine dL rfl rfl ?_ (hs:=dK.mk 8 rfl bL.h rfl (of_decide_eq_true rfl))
 dsimp only[List.set]
 refine XB.bt ?_
 refine XB.next 15 rfl (by kernel_rfl) ?_
 refine bA ?_
 refine XB.bt ?_
 refine XB.next 16 rfl (by kernel_rfl) ?_
 refine bA ?_
 refine XB.bt ?_
 refine XB.next 17 rfl (by kernel_rfl) ?_
 refine dL rfl rfl ?_ (hs:=dK.mk 8 rfl bL.h rfl (of_decide_eq_true rfl))
 dsimp only[List.set]
 refine XB.bt ?_
 refine XB.done (by kernel_rfl) ?_
 refine XK.Ho (Φ:=lO {L with st:=(As,cs)} (allM s z.wn (nV s z))) (hm:=lO.le) (hfr (by simp)) (fun p hp b hb=>by
  simp at hp
  subst hp
  rw[←bN] at hb
  exact hb.1) ⟨hs,hsc⟩ ?_
 refine XK.go ?_
 refine Lr 9 rfl ?_
 dsimp only[List.set]
 refine XK.go ?_
 obtain⟨L',hL'⟩:∃L':cK,L'={L with w1:=(some ⟨ga,0,none⟩,(fP s (fQ s z.cn)).d.length),w2:=(some ⟨gb,0,none⟩,(fP s (fQ s z.cn)).c.length),w3:=(some ⟨gc,0,none⟩,(nV s z).l.length),st:=(As,cs)}:=⟨_,rfl⟩
 refine XK.weak [1,2,3,0,6,8,9] rfl (by decide) (fun _ h=>h) ?_
 refine XK.three ?_
 refine XK.reuse (q:=HP.bH (qV L' (nV s z)) (qV.le (L:=L') (x:=nV s z))) 0 rfl (fun F w hs=>?_) ?_
 ·obtain⟨G,k1,k2,_⟩:=hs
  subst hL'
  exact⟨aE.fZ (c:=0) (k1 0 _ rfl) (fun b hb=>k2 0 b hb) (by simp[aP,nV]),aE.fZ (c:=0) (k1 1 _ rfl) (fun b hb=>k2 1 b hb) (by simp[aP,nV]),aE.fZ (c:=0) (k1 2 _ rfl) (fun b hb=>k2 2 b hb) (by simp[aP,nV])⟩
 dsimp only[List.set]
 refine XK.tk 2 0 ?_
 refine XK.tk 3 1 ?_
 refine XK.weak [6,5,2,1,0,3] rfl (by decide) (fun _ h=>h) ?_
 refine XK.pair ?_
 refine XK.more ?_
 refine XK.more ?_
 refine XK.more ?_
 refine XK.more ?_
 refine XK.sV 0 (f:=fun L:cK=>eC g h f L s (vQ s z)) L' (by subst hL';rfl) ?_
 dsimp only[List.set]
 subst bN
 exact XK.r0 0 hF
end
end
section
set_option maxHeartbeats 4000000
set_option maxRecDepth 20000
theorem Rd.lS{w0:World}{R:List Piece}{H:List HP}{g h f:Nat}{L:cK}{s:aA}{z:aU}(i:Nat){o:Nat}{v:Value}(hi:H[i]? =some (eC g h f L s z))(hv:(iQ h f L s z)[o]? =some v):Rd w0 R H g o v:=fun w st=>by
 have:=(st.aAn i hi).r0.at_ hv
 rw[Nat.zero_add] at this
 exact this.2
def T3(j:Nat):Prop:=j=0∨j=1∨j=2
theorem xT{h f:Nat}{L:cK}{s:aA}{z:aU}{j k:Nat}{v:Value}(hj:T3 j)(hv:(tkC (z.tk j))[k]? =some v):(iQ h f L s z)[10+13*j+k]? =some v:=by
 have hk:k < 13:=by
  have:=(List.getElem?_eq_some_iff.1 hv).1
  simpa[tkC] using this
 have hk2:k=0∨k=1∨k=2∨k=3∨k=4∨k=5∨k=6∨k=7∨k=8∨k=9∨k=10∨k=11∨k=12:=by omega
 rcases hj with rfl | rfl | rfl<;>rcases hk2 with rfl | rfl | rfl | rfl | rfl | rfl | rfl | rfl | rfl | rfl | rfl | rfl | rfl<;>exact hv
theorem Vb{t:pR}{i:Nat}(hi:i < 6):(tkC t)[7+i]? =some (iv (hG t i)):=by
 have h2:i=0∨i=1∨i=2∨i=3∨i=4∨i=5:=by omega
 rcases h2 with rfl | rfl | rfl | rfl | rfl | rfl<;>rfl
theorem aE9{t:pR}{i k:Nat}{v:Int}(hl:t.hs.length=6)(hi:i < 6):hG {t with hs:=t.hs.set i v} k=if i=k then v else hG t k:=by
 show(t.hs.set i v).getD k 0=_
 rw[List.getD_eq_getElem?_getD,List.getElem?_set]
 split
 ·rename_i e
  subst e
  rw[if_pos (by omega)]
  rfl
 ·show _=t.hs.getD k 0
  rw[List.getD_eq_getElem?_getD]
theorem aDb{h f:Nat}{L:cK}{s:aA}{z:aU}{j i:Nat}{v:Int}(hj:T3 j)(hi:i < 6)(hl:(z.tk j).hs.length=6):(iQ h f L s z).set (10+13*j+7+i) (iv v)=iQ h f L s (z.iC j {z.tk j with hs:=(z.tk j).hs.set i v}):=by
 have hs:=fun k=>aE9 (t:=z.tk j) (k:=k) (v:=v) hl hi
 have h2:i=0∨i=1∨i=2∨i=3∨i=4∨i=5:=by omega
 rcases hj with rfl | rfl | rfl<;>rcases h2 with rfl | rfl | rfl | rfl | rfl | rfl<;>simp[iQ,aU.iC,aU.tk] at hs⊢ <;>simp[hs]
theorem Vl{h f:Nat}{L:cK}{s:aA}{z:aU}:(iQ h f L s z).length=55:=rfl
structure aCj(t:pR):Prop where
 len:t.hs.length=6
 bd:∀i,0≤hG t i∧hG t i≤1000000
def pG(t:pR)(i:Nat)(k:Int):pR:={t with hs:=t.hs.set i (hG t i+k)}
def Iz(s:aA)(z:aU)(j:Nat):Int×aU:=if(pP (bX s).length z.cn (z.tk j).dev).1≠0 then((pP (bX s).length z.cn (z.tk j).dev).1,z) else(0,vQ s {z.iC j (pG (z.tk j) (z.tk j).dev.toNat 1) with cn:=(pP (bX s).length z.cn (z.tk j).dev).2})
def Hj(s:aA)(z:aU)(j:Nat):Int×aU:=if bE s.aC.length (z.tk j).dev=false then(4,z) else if hG (z.tk j) (z.tk j).dev.toNat=0 then(6,z) else if(sC (bX s).length z.cn (z.tk j).dev).1≠0 then((sC (bX s).length z.cn (z.tk j).dev).1,z) else(0,vQ s {z.iC j (pG (z.tk j) (z.tk j).dev.toNat (-1)) with cn:=(sC (bX s).length z.cn (z.tk j).dev).2})
def He(s:aA)(z:aU):Int×aU:=if(vB z.cn).1≠0 then((vB z.cn).1,z) else(0,vQ s {z with cn:=(vB z.cn).2})
def Hi(s:aA)(z:aU):Int×aU:=if(vC z.cn).1≠0 then((vC z.cn).1,z) else(0,vQ s {z with cn:=(vC z.cn).2})
theorem aNX{n:Nat}{c:Cn}{d:Int}(h:(pP n c d).1≠0):(pP n c d).2=c:=by
 unfold pP at h⊢
 repeat' split
 all_goals first | rfl | (simp_all;done)
theorem aF0{n:Nat}{c:Cn}{d:Int}(h:(pP n c d).1=0):0≤d∧d < n:=by
 unfold pP at h
 split at h
 ·simp at h
 ·split at h
  ·simp at h
  ·rename_i h1
   exact Decidable.not_not.1 h1
theorem aNt{n:Nat}{c:Cn}{d:Int}(h:(sC n c d).1≠0):(sC n c d).2=c:=by
 unfold sC at h⊢
 repeat' split
 all_goals first | rfl | (simp_all;done)
theorem aNr{c:Cn}(h:(vB c).1≠0):(vB c).2=c:=by
 unfold vB at h⊢
 split
 ·rfl
 ·simp_all
theorem aNs{c:Cn}(h:(vC c).1≠0):(vC c).2=c:=by
 unfold vC at h⊢
 split
 ·simp_all
 ·rfl
section
variable(g h f:Nat)(s:aA)(z:aU)(w:World)(F:Nat→Prop)
theorem aHS(hm:s.made)(hz:z.wn.of s)(a:Value)(hp:(fE g h f s z).sat F w)(hF:∀b,F b→b < w.heap.size):
  Calls Tryz.prog 297 #[.agg #[],pt g,a] w (fun y w'=>y=.returned (iv (He s z).1)∧∃F',(fE g h f s (He s z).2).sat F' w'∧aV w w' F F'):=by
 unfold He
 refine XK.bY Tryz.func297 Tryz.ntmps297 hp hF ?_
 refine XK.go ?_
 refine aS fun g1=>?_
 refine XK.go ?_
 refine XK.ox 1 fun L=>?_
 refine kd (aX rfl (Rd.lS 1 rfl rfl)) ?_
 refine XK.tk 1 3 ?_
 refine cX 0 (oZ L.gc L.gm (.slice L.nd.1 (bX s).length L.nd.2) (vB z.cn).2) (fun w1 F1 t h1 h2 h3=>aNw L.gc L.gm (bX s).length L.nd.2 L.nd.1 z.cn w1 F1 h1 h2) ?_
 dsimp only[List.set]
 refine XK.go ?_
 refine XK.if_ rfl (fun he=>?_) (fun he=>?_)
 ·rw[if_pos he,aNr he]
  refine XK.go ?_
  refine XK.gv 1 3 ?_
  refine XK.te 1 (fun L:cK=>eC g h f L s z) L ?_
  exact XK.rT 1 hF
 ·rw[if_neg he]
  refine XK.gv 1 3 ?_
  refine XK.te 1 (fun L:cK=>eC g h f L s {z with cn:=(vB z.cn).2}) L ?_
  refine XK.go ?_
  refine cX 1 (fE g h f s (vQ s {z with cn:=(vB z.cn).2})) (fun w1 F1 t h1 h2 h3=>Vj g h f s _ w1 F1 hm hz h1 h2) ?_
  dsimp only[List.set]
  refine XK.go ?_
  exact XK.rT 1 hF
theorem aHV(hm:s.made)(hz:z.wn.of s)(a:Value)(hp:(fE g h f s z).sat F w)(hF:∀b,F b→b < w.heap.size):
  Calls Tryz.prog 298 #[.agg #[],pt g,a] w (fun y w'=>y=.returned (iv (Hi s z).1)∧∃F',(fE g h f s (Hi s z).2).sat F' w'∧aV w w' F F'):=by
 unfold Hi
 refine XK.bY Tryz.func298 Tryz.ntmps298 hp hF ?_
 refine XK.go ?_
 refine aS fun g1=>?_
 refine XK.go ?_
 refine XK.ox 1 fun L=>?_
 refine kd (aX rfl (Rd.lS 1 rfl rfl)) ?_
 refine XK.tk 1 3 ?_
 refine cX 0 (oZ L.gc L.gm (.slice L.nd.1 (bX s).length L.nd.2) (vC z.cn).2) (fun w1 F1 t h1 h2 h3=>aNx L.gc L.gm (bX s).length L.nd.2 L.nd.1 z.cn w1 F1 h1 h2) ?_
 dsimp only[List.set]
 refine XK.go ?_
 refine XK.if_ rfl (fun he=>?_) (fun he=>?_)
 ·rw[if_pos he,aNs he]
  refine XK.go ?_
  refine XK.gv 1 3 ?_
  refine XK.te 1 (fun L:cK=>eC g h f L s z) L ?_
  exact XK.rT 1 hF
 ·rw[if_neg he]
  refine XK.gv 1 3 ?_
  refine XK.te 1 (fun L:cK=>eC g h f L s {z with cn:=(vC z.cn).2}) L ?_
  refine XK.go ?_
  refine cX 1 (fE g h f s (vQ s {z with cn:=(vC z.cn).2})) (fun w1 F1 t h1 h2 h3=>Vj g h f s _ w1 F1 hm hz h1 h2) ?_
  dsimp only[List.set]
  refine XK.go ?_
  exact XK.rT 1 hF
theorem aHZ(hm:s.made)(hz:z.wn.of s)(j:Nat)(hj:T3 j)(hk:aCj (z.tk j))(hp:(fE g h f s z).sat F w)(hF:∀b,F b→b < w.heap.size):
  Calls Tryz.prog 276 #[.agg #[],pt g,.pointer (some ⟨g,10+13*j,none⟩)] w (fun y w'=>y=.returned (iv (Iz s z j).1)∧∃F',(fE g h f s (Iz s z j).2).sat F' w'∧aV w w' F F'):=by
 have lD:=hm.nv
 have fV:=Vz s
 have hj2:j≤2:=by rcases hj with rfl | rfl | rfl<;>decide
 unfold Iz
 refine XK.bY Tryz.func276 Tryz.ntmps276 hp hF ?_
 refine XK.go ?_
 refine aS fun g1=>?_
 refine XK.go ?_
 refine XK.ox 1 fun L=>?_
 refine kd (aX rfl (Rd.lS 1 rfl (xT (k:=2) hj rfl))) ?_
 refine XK.go ?_
 refine kd (aX rfl (Rd.lS 1 rfl rfl)) ?_
 refine XK.tk 1 3 ?_
 refine XK.go ?_
 refine cX 0 (oZ L.gc L.gm (.slice L.nd.1 (bX s).length L.nd.2) (pP (bX s).length z.cn (z.tk j).dev).2) (fun w1 F1 t h1 h2 h3=>aN0 L.gc L.gm (bX s).length L.nd.2 L.nd.1 z.cn w1 F1 (z.tk j).dev h1 h2) ?_
 dsimp only[List.set]
 refine XK.go ?_
 refine XK.if_ rfl (fun he=>?_) (fun he=>?_)
 ·rw[if_pos he,aNX he]
  refine XK.go ?_
  refine XK.gv 1 3 ?_
  refine XK.te 1 (fun L:cK=>eC g h f L s z) L ?_
  exact XK.rT 1 hF
 ·rw[if_neg he]
  obtain⟨Fi,cF⟩:=aF0 (Decidable.not_not.1 he)
  obtain⟨dv,yU⟩:∃n:Nat,(z.tk j).dev=(n:Int):=⟨(z.tk j).dev.toNat,by omega⟩
  have wK:dv < 6:=by omega
  have hb0:=hk.bd dv
  refine XK.gv 1 3 ?_
  refine XK.tk 1 0 ?_
  generalize mX:(pP (bX s).length z.cn (z.tk j).dev).2=c2
  have hcell:(iQ h f L s z)[10+13*j+7+dv]? =some (iv (hG (z.tk j) dv)):=by
   rw[Nat.add_assoc]
   exact xT hj (Vb wK)
  have jS:pG (z.tk j) (z.tk j).dev.toNat (1)={z.tk j with hs:=(z.tk j).hs.set dv (hG (z.tk j) dv+1)}:=by
   unfold pG
   rw[show(z.tk j).dev.toNat=dv by omega]
   all_goals rfl
  have lA:=aDb (h:=h) (f:=f) (L:=L) (s:=s) (z:=z) (i:=dv) (v:=hG (z.tk j) dv+1) hj wK hk.len
  rw[jS]
  refine XK.go ?_
  refine XK.eU [2,3,4,5,6,7,8] ?_
  refine XB.mv 0 ?_
  refine XB.mv 1 ?_
  refine XB.q 2 ?_
  refine XB.q 3 ?_
  refine XB.q 4 ?_ (hi:=rfl) (cY:=dX dv (10+13*j+7+dv) (hj:=yU) (hlt:=wK) (ho:=by omega))
  refine XB.q 5 ?_ (hi:=rfl) (cY:=aX rfl (Rd.aB 0 rfl hcell))
  refine XB.q 6 ?_
  refine XB.q 7 ?_
  refine XB.q 8 ?_
  refine XB.next 9 rfl (by kernel_rfl) ?_
  refine kd (dX dv (10+13*j+7+dv) (hj:=yU) (hlt:=wK) (ho:=by omega)) ?_
  refine XB.bt ?_
  refine XB.next 10 rfl (by kernel_rfl) ?_
  refine dL rfl rfl ?_ (hs:=dK.mk 0 rfl bL.h rfl (by rw[Vl];omega))
  dsimp only[List.set]
  rw[lA]
  refine XB.bt ?_
  refine XB.done (by kernel_rfl) ?_
  refine XK.gv 1 0 ?_
  refine XK.te 1 (fun L:cK=>eC g h f L s {z.iC j {z.tk j with hs:=(z.tk j).hs.set dv (hG (z.tk j) dv+1)} with cn:=c2}) L ?_
  refine XK.go ?_
  refine cX 1 (fE g h f s (vQ s {z.iC j {z.tk j with hs:=(z.tk j).hs.set dv (hG (z.tk j) dv+1)} with cn:=c2})) (fun w1 F1 t h1 h2 h3=>Vj g h f s _ w1 F1 hm hz h1 h2) ?_
  dsimp only[List.set]
  refine XK.go ?_
  exact XK.rT 1 hF
theorem aHW(hm:s.made)(hz:z.wn.of s)(j:Nat)(hj:T3 j)(hk:aCj (z.tk j))(hp:(fE g h f s z).sat F w)(hF:∀b,F b→b < w.heap.size):
  Calls Tryz.prog 290 #[.agg #[],pt g,.pointer (some ⟨g,10+13*j,none⟩)] w (fun y w'=>y=.returned (iv (Hj s z j).1)∧∃F',(fE g h f s (Hj s z j).2).sat F' w'∧aV w w' F F'):=by
 have lD:=hm.nv
 have fV:=Vz s
 have hj2:j≤2:=by rcases hj with rfl | rfl | rfl<;>decide
 unfold Hj
 refine XK.bY Tryz.func290 Tryz.ntmps290 hp hF ?_
 refine XK.go ?_
 refine aS fun g1=>?_
 refine XK.go ?_
 refine XK.ox 1 fun L=>?_
 refine kd (aX rfl (Rd.lS 1 rfl (xT (k:=2) hj rfl))) ?_
 refine XK.go ?_
 refine aJ (fun w1 t=>aCZ g h f L s z w1 (z.tk j).dev (t.aAn 1 rfl)) ?_
 cases hin:bE s.aC.length (z.tk j).dev
 ·refine XK.go ?_
  refine XK.te 1 (fun L:cK=>eC g h f L s z) L ?_
  exact XK.rT 1 hF
 have wJ:=of_decide_eq_true hin
 obtain⟨dv,yU⟩:∃n:Nat,(z.tk j).dev=(n:Int):=⟨(z.tk j).dev.toNat,by omega⟩
 have wK:dv < 6:=by omega
 have hb0:=hk.bd dv
 have aLy:(iQ h f L s z)[10+13*j+7+dv]? =some (iv (hG (z.tk j) dv)):=by
  rw[Nat.add_assoc]
  exact xT hj (Vb wK)
 rw[if_neg (by simp)]
 refine XK.go ?_
 refine kd (dX dv (10+13*j+7+dv) (hj:=yU) (hlt:=wK) (ho:=by omega)) ?_
 refine kd (aX rfl (Rd.lS 1 rfl aLy)) ?_
 refine XK.go ?_
 have Mc:(z.tk j).dev.toNat=dv:=by omega
 refine XK.if_ rfl (fun h0=>?_) (fun h0=>?_)
 ·rw[if_pos (by rw[Mc];exact h0)]
  refine XK.go ?_
  refine XK.te 1 (fun L:cK=>eC g h f L s z) L ?_
  exact XK.rT 1 hF
 rw[if_neg (by rw[Mc];exact h0)]
 refine XK.go ?_
 refine kd (aX rfl (Rd.lS 1 rfl rfl)) ?_
 refine XK.tk 1 3 ?_
 refine XK.go ?_
 refine cX 0 (oZ L.gc L.gm (.slice L.nd.1 (bX s).length L.nd.2) (sC (bX s).length z.cn (z.tk j).dev).2) (fun w1 F1 t h1 h2 h3=>aNy L.gc L.gm (bX s).length L.nd.2 L.nd.1 z.cn w1 F1 (z.tk j).dev h1 h2) ?_
 dsimp only[List.set]
 refine XK.go ?_
 refine XK.if_ rfl (fun he=>?_) (fun he=>?_)
 ·rw[if_pos he,aNt he]
  refine XK.go ?_
  refine XK.gv 1 3 ?_
  refine XK.te 1 (fun L:cK=>eC g h f L s z) L ?_
  exact XK.rT 1 hF
 ·rw[if_neg he]
  refine XK.gv 1 3 ?_
  refine XK.tk 1 0 ?_
  generalize mX:(sC (bX s).length z.cn (z.tk j).dev).2=c2
  have hcell:(iQ h f L s z)[10+13*j+7+dv]? =some (iv (hG (z.tk j) dv)):=by
   rw[Nat.add_assoc]
   exact xT hj (Vb wK)
  have jS:pG (z.tk j) (z.tk j).dev.toNat (-1)={z.tk j with hs:=(z.tk j).hs.set dv (hG (z.tk j) dv - 1)}:=by
   unfold pG
   rw[show(z.tk j).dev.toNat=dv by omega]
   all_goals rfl
  have lA:=aDb (h:=h) (f:=f) (L:=L) (s:=s) (z:=z) (i:=dv) (v:=hG (z.tk j) dv - 1) hj wK hk.len
  rw[jS]
  refine XK.go ?_
  refine XK.eU [2,3,4,5,6,7,8] ?_
  refine XB.mv 0 ?_
  refine XB.mv 1 ?_
  refine XB.q 2 ?_
  refine XB.q 3 ?_
  refine XB.q 4 ?_ (hi:=rfl) (cY:=dX dv (10+13*j+7+dv) (hj:=yU) (hlt:=wK) (ho:=by omega))
  refine XB.q 5 ?_ (hi:=rfl) (cY:=aX rfl (Rd.aB 0 rfl hcell))
  refine XB.q 6 ?_
  refine XB.q 7 ?_
  refine XB.q 8 ?_
  refine XB.next 9 rfl (by kernel_rfl) ?_
  refine kd (dX dv (10+13*j+7+dv) (hj:=yU) (hlt:=wK) (ho:=by omega)) ?_
  refine XB.bt ?_
  refine XB.next 10 rfl (by kernel_rfl) ?_
  refine dL rfl rfl ?_ (hs:=dK.mk 0 rfl bL.h rfl (by rw[Vl];omega))
  dsimp only[List.set]
  rw[lA]
  refine XB.bt ?_
  refine XB.done (by kernel_rfl) ?_
  refine XK.gv 1 0 ?_
  refine XK.te 1 (fun L:cK=>eC g h f L s {z.iC j {z.tk j with hs:=(z.tk j).hs.set dv (hG (z.tk j) dv - 1)} with cn:=c2}) L ?_
  refine XK.go ?_
  refine cX 1 (fE g h f s (vQ s {z.iC j {z.tk j with hs:=(z.tk j).hs.set dv (hG (z.tk j) dv - 1)} with cn:=c2})) (fun w1 F1 t h1 h2 h3=>Vj g h f s _ w1 F1 hm hz h1 h2) ?_
  dsimp only[List.set]
  refine XK.go ?_
  exact XK.rT 1 hF
end
end
section
set_option maxHeartbeats 4000000
set_option maxRecDepth 20000
def aOP(d:bK)(vs:List Value):Prop:=∃A k A' n' k',vs=[iv d.clock,iv d.domain,iv d.reset,.int .u32 d.gB,.slice A d.aI.length k,.slice A' n' k']
structure aGp(s:aA)(rows:List (List Value)):Prop where
 row:∀(i:Nat) (d:bK),s.aC[i]? =some d→∃r,rows[i]? =some r∧aOP d r
 len:∀r∈rows,r.length=6
def Dq(L:cK)(s:aA)(rows:List (List Value))(p:Piece):Prop:=kE L s p∧aE p 6 L.a4.1 s.aC.length rows.flatten
theorem Dq.le{L:cK}{s:aA}{rows:List (List Value)}(p q:Piece)(hl:p.Le q)(h:Dq L s rows p):Dq L s rows q:=⟨kE.le p q hl h.1,h.2.le hl⟩
theorem aDf{α:Type}{R:α→List Value→Prop}{sz:Nat}:∀{es:List α} {rs:List (List Value)},Rows R sz es rs→∀(i:Nat) (e:α),es[i]? =some e→∃r,rs[i]? =some r∧r.length=sz∧R e r
 | [],[],_,i,e,h=>by simp at h
 | a::es,r::rs,h,0,e,he=>by
  simp at he
  subst he
  exact⟨r,rfl,h.1,h.2.1⟩
 | a::es,r::rs,h,i+1,e,he=>aDf h.2.2 i e (by simpa using he)
section
variable{N:bO}{w0:World}{e:Env}{R:List Piece}{H:List HP}{K:Act→World→Prop}{L:cK}{s:aA}
theorem XK.aMh(i:Nat)(hi:H[i]? =some (HP.bH (kE L s) (kE.le (L:=L) (s:=s))))(k:∀rows,aGp s rows→XK N w0 K e R (H.set i (HP.bH (Dq L s rows) (Dq.le (L:=L) (s:=s) (rows:=rows))))):XK N w0 K e R H:=fun a w hr st=>by
 obtain⟨F,h1,hlt,_,hk⟩:=st.chunk hi
 obtain⟨rows,dH,eW,pJ⟩:=(h1:kE L s ⟨w,F⟩).dev
 refine k rows ⟨fun i d hd=>?_,fun r hr=>Rows.aBX dH r hr⟩ a w hr (hk w F _ (show Dq L s rows ⟨w,F⟩ from⟨h1,pJ⟩) ⟨rfl,rfl,rfl,Nat.le_refl _,fun b hb=>⟨.inl hb,hlt b hb⟩,fun _ _ _=>rfl⟩)
 obtain⟨r,h2,_,A,n,q,A',n',q',h3,h4,_⟩:=aDf dH i d hd
 subst h4
 exact⟨r,h2,A,q,A',n',q',h3⟩
theorem Rd.dev(i:Nat){rows:List (List Value)}{j k b off:Nat}{r:List Value}{v:Value}{hm:∀p q:Piece,p.Le q→Dq L s rows p→Dq L s rows q}(hi:H[i]? =some (HP.bH (Dq L s rows) hm))(hq:aGp s rows)(hA:L.a4.1=some ⟨b,off,none⟩)(hr:rows[j]? =some r)(hj:j < s.aC.length)(hv:r[k]? =some v):Rd w0 R H b (off+j*6+k) v:=by
 have hk:k < 6:=by
  have h1:=hq.len r (List.mem_of_getElem? hr)
  have:=(List.getElem?_eq_some_iff.1 hv).1
  omega
 have hf:=Jc (fun x=>x) 6 rows hq.len j k r hr hk
 have:=Rd.bH (w0:=w0) (R:=R) (xs:=rows.flatten) (j:=j*6+k) (v:=v) i hi (fun p h=>h.2) hA (by omega) (by simpa[hv] using hf)
 rwa [←Nat.add_assoc] at this
end
theorem aIa(g h f:Nat)(L:cK)(s:aA)(z:aU)(w:World)(d:Int)(hR:cZ w g 0 (iQ h f L s z)):Calls Tryz.prog 67 #[pt g,iv d] w (Rt (.bool (bE s.aC.length d)) w):=by
 have k5:=hR.at_ (j:=5) rfl
 refine XK.en Tryz.func67 Tryz.ntmps67 ?_
 refine XK.go ?_
 refine aW (t:=7) rfl (fun h=>?_) (fun h=>?_)
 ·refine XK.go ?_
  refine XK.gN (by simp) ?_
  unfold bE
  congr 1
  simp;omega
 ·refine XK.go ?_
  refine XK.gN (by simp) ?_
  have:bE s.aC.length d=false:=decide_eq_false (by omega)
  rw[this]
def Pq(s:aA)(d:Int):Int:=((s.aC[d.toNat]?).map fun d=>(d.aI.length:Int)).getD 0
def Ge(s:aA)(t:pR):Prop:=bE s.aC.length t.dev=false∨t.bF < 0∨Pq s t.dev≤t.bF
instance(s:aA)(t:pR):Decidable (Ge s t):=by unfold Ge;infer_instance
def Dp(s:aA)(x:aO)(z:aU)(j:Nat)(wr:Bool):Int×aU×aO:=
 if Ge s (z.tk j) then(4,z,x) else if hG (z.tk j) (z.tk j).dev.toNat=0∨z.cn.kD=true then(6,z,x)
 else if uE x (z.tk j).dev.toNat=114 then(0,{z with aQ:=true,id:=x.aQ},Qb x (z.tk j).dev.toNat wr (z.tk j).bF (z.tk j).val) else(6,z,x)
def Gl(g f:Nat)(hL:HL)(s:aA)(z:aU)(x:aO):HP:=HP.many [fE g hL.h f s z,cP hL s x]
section
variable(g f:Nat)(hL:HL)(s:aA)(z:aU)(x:aO)(w:World)(F:Nat→Prop)
theorem aDc(hm:s.made)(aM:fF hL s)(hok:bR s x)(hw0:∀i:Nat,(x.wt[i]?).join=none)(lB:0≤x.aQ∧x.aQ≤1000000000)(j:Nat)(hj:T3 j)(wr:Bool)(hp:(Gl g f hL s z x).sat F w)(hF:∀b,F b→b < w.heap.size)(eB:iZ ⟨w,fun b=>b < w.heap.size∧¬F b⟩):
  Calls Tryz.prog 291 #[.agg #[.bool wr],pt g,.pointer (some ⟨g,10+13*j,none⟩)] w (fun y w'=>y=.returned (iv (Dp s x z j wr).1)∧∃F',(Gl g f hL s (Dp s x z j wr).2.1 (Dp s x z j wr).2.2).sat F' w'∧aV w w' F F'):=by
 have lD:=hm.nv
 have hH:=hm.cI
 have hj2:j≤2:=by rcases hj with rfl | rfl | rfl<;>decide
 unfold Dp
 refine XK.bY Tryz.func291 Tryz.ntmps291 hp hF ?_
 generalize bN:(⟨w,fun b=>b < w.heap.size∧¬F b⟩:Piece)=R0 at eB⊢
 refine XK.tk 0 1 ?_
 refine XK.tk 1 0 ?_
 refine XK.ox 0 fun L=>?_
 refine XK.go ?_
 refine aS fun g1=>?_
 refine XK.go ?_
 refine kd (mE (vs:=[.int .u8 (z.tk j).kind,iv (z.tk j).dev,iv (z.tk j).bF,.int .u32 (z.tk j).val]) rfl (aH.of fun k v hv=>Rd.lS 1 rfl ?_)) ?_
 ·have hk:k < 4:=by simpa using(List.getElem?_eq_some_iff.1 hv).1
  have h2:k=0∨k=1∨k=2∨k=3:=by omega
  have:=xT (h:=hL.h) (f:=f) (L:=L) (s:=s) (z:=z) (j:=j) (k:=1+k) (v:=v) hj (by rcases h2 with rfl | rfl | rfl | rfl<;>exact hv)
  rwa [←Nat.add_assoc] at this
 refine bB fun g7=>?_
 refine XK.go ?_
 refine XK.tk 2 1 ?_
 refine XK.tk 3 0 ?_
 have hj7:10+13*j+7 < 55:=by omega
 refine XK.aMh 1 rfl fun rows hq=>?_
 dsimp only[List.set]
 refine XK.aA2 (A:=L.a4.1) (sz:=6) (n:=s.aC.length) (xs:=rows.flatten) 1 rfl (fun _ h=>h.2) (by omega) fun b off hA=>?_
 refine XK.go ?_
 refine XK.jO ?_
 refine XQ.go ?_
 refine XQ.call (fun w1 t=>aIa g hL.h f L s z w1 (z.tk j).dev (sD (t.aB (i:=0) rfl))) ?_
 cases hin:bE s.aC.length (z.tk j).dev
 ·refine XQ.end_ ?_
  rw[if_pos (show Ge s (z.tk j) from .inl hin)]
  refine XK.go ?_
  refine XK.reuse (q:=HP.bH (kE L s) (kE.le (L:=L) (s:=s))) 1 rfl (fun F w hs=>hs.1) ?_
  dsimp only[List.set]
  refine XK.gv 3 0 ?_
  refine XK.gv 2 1 ?_
  refine XK.te 2 (fun L:cK=>eC g hL.h f L s z) L ?_
  refine XK.weak [2,3,4] rfl (by decide) (fun _ h=>h) ?_
  refine XK.gv 1 0 ?_
  refine XK.gv 0 1 ?_
  subst bN
  exact XK.rT 0 hF
 ·have wJ:=of_decide_eq_true hin
  obtain⟨dv,yU⟩:∃n:Nat,(z.tk j).dev=(n:Int):=⟨(z.tk j).dev.toNat,by omega⟩
  have Mc:(z.tk j).dev.toNat=dv:=by omega
  obtain⟨d,cF⟩:=get_some (l:=s.aC) (i:=dv) (by omega)
  have wG:Pq s (z.tk j).dev=d.aI.length:=by
   unfold Pq
   rw[Mc,cF]
   rfl
  obtain⟨r,hr,A,k,A',n',k',rfl⟩:=hq.row dv d cF
  refine XQ.go ?_
  refine XQ.split 26 rfl (fun hneg=>?_) (fun hnn=>?_)
  ·refine XQ.end_ ?_
   rw[if_pos (show Ge s (z.tk j) from .inr (.inl hneg))]
   refine XK.go ?_
   refine XK.reuse (q:=HP.bH (kE L s) (kE.le (L:=L) (s:=s))) 1 rfl (fun F w hs=>hs.1) ?_
   dsimp only[List.set]
   refine XK.gv 3 0 ?_
   refine XK.gv 2 1 ?_
   refine XK.te 2 (fun L:cK=>eC g hL.h f L s z) L ?_
   refine XK.weak [2,3,4] rfl (by decide) (fun _ h=>h) ?_
   refine XK.gv 1 0 ?_
   refine XK.gv 0 1 ?_
   subst bN
   exact XK.rT 0 hF
  ·refine XQ.go ?_
   refine XQ.kd (dat dv (off+dv*6) (hx:=by rw[←hA];rfl) (hj:=yU)) ?_
   refine XQ.go ?_
   refine XQ.kd (aX rfl (Rd.dev 1 rfl hq hA hr (by omega) rfl)) ?_
   refine XQ.end_ ?_
   refine XK.go ?_
   refine XK.if_ rfl (fun hge=>?_) (fun hlt=>?_)
   ·rw[if_pos (show Ge s (z.tk j) from .inr (.inr (by rw[wG];exact hge)))]
    refine XK.go ?_
    refine XK.reuse (q:=HP.bH (kE L s) (kE.le (L:=L) (s:=s))) 1 rfl (fun F w hs=>hs.1) ?_
    dsimp only[List.set]
    refine XK.gv 3 0 ?_
    refine XK.gv 2 1 ?_
    refine XK.te 2 (fun L:cK=>eC g hL.h f L s z) L ?_
    refine XK.weak [2,3,4] rfl (by decide) (fun _ h=>h) ?_
    refine XK.gv 1 0 ?_
    refine XK.gv 0 1 ?_
    subst bN
    exact XK.rT 0 hF
   ·have aKZ:¬Ge s (z.tk j):=by
     unfold Ge
     rw[hin,wG]
     rintro(h | h | h)
     ·cases h
     ·exact hnn h
     ·exact hlt h
    have hcell:(iQ hL.h f L s z)[10+13*j+7+dv]? =some (iv (hG (z.tk j) dv)):=by
     rw[Nat.add_assoc]
     exact xT hj (Vb (by omega))
    rw[if_neg aKZ]
    refine XK.reuse (q:=HP.bH (kE L s) (kE.le (L:=L) (s:=s))) 1 rfl (fun F w hs=>hs.1) ?_
    dsimp only[List.set]
    refine XK.gv 3 0 ?_
    refine XK.gv 2 1 ?_
    refine XK.go ?_
    refine XK.jO ?_
    refine XQ.go ?_
    refine XQ.kd (dX dv (10+13*j+7+dv) (hj:=yU) (hlt:=by omega) (ho:=by omega)) ?_
    refine XQ.kd (aX rfl (Rd.lS 2 rfl hcell)) ?_
    refine XQ.go ?_
    refine XQ.split 51 rfl (fun h0=>?_) (fun h0=>?_)
    ·refine XQ.end_ ?_
     rw[if_pos (show hG (z.tk j) (z.tk j).dev.toNat=0∨z.cn.kD=true from .inl (by rw[Mc];exact h0))]
     refine XK.go ?_
     refine XK.te 2 (fun L:cK=>eC g hL.h f L s z) L ?_
     refine XK.weak [2,3,4] rfl (by decide) (fun _ h=>h) ?_
     refine XK.gv 1 0 ?_
     refine XK.gv 0 1 ?_
     subst bN
     exact XK.rT 0 hF
    ·refine XQ.go ?_
     refine XQ.kd (aX rfl (Rd.lS 2 rfl rfl)) ?_
     refine XQ.go ?_
     refine XQ.call (fun w1 t=>aN1 L.gc z.cn.kD w1 ((t.aAn 2 rfl).cn.at_ (j:=2) rfl)) ?_
     cases aPl:z.cn.kD
     ·refine XQ.end_ ?_
      refine XK.go ?_
      have aPe:=(List.getElem?_eq_some_iff.1 cF).1
      have hrl:=(hm.aC dv d cF).2.2.2.2.2.2.2.2.1
      have Ab:0≤(z.tk j).bF:=by omega
      have dH:(z.tk j).bF < d.aI.length:=by omega
      have hno:¬(hG (z.tk j) dv=0∨false=true):=by
       rintro(h | h)
       ·exact h0 h
       ·cases h
      rw[Mc,if_neg hno]
      refine XK.go ?_
      refine aJ (fun w1 t=>aOl (z.tk j).dev (z.tk j).bF ⟨by omega,by omega⟩ ⟨Ab,by omega⟩ w1) ?_
      refine XK.go ?_
      by_cases yR:uE x dv=114
      ·rw[if_pos yR]
       refine XK.weak [3,0,1,2,4] rfl (by decide) (fun _ h=>h) ?_
       refine XK.Nb [1,2,3,5,6,7,8,11,12] ?_
       refine XB.mv 0 ?_ (hsub:=fun _ h=>h.bU)
       refine XB.q 1 ?_ (hsub:=fun _ h=>h.bU)
       refine XB.q 2 ?_ (hsub:=fun _ h=>h.bU)
       refine XB.q 3 ?_ (hi:=rfl) (cY:=aX rfl (Rd.lS 3 rfl rfl)) (hsub:=fun _ h=>h.bU)
       refine XB.mv 4 ?_ (hsub:=fun _ h=>h.bU)
       refine XB.q 5 ?_ (hsub:=fun _ h=>h.bU)
       refine XB.q 6 ?_ (hsub:=fun _ h=>h.bU)
       refine XB.q 7 ?_ (hsub:=fun _ h=>h.bU)
       refine XB.q 8 ?_ (hsub:=fun _ h=>h.bU)
       refine XB.next 9 rfl (by kernel_rfl) ?_
       refine cX (v:=.tuple #[iv x.aQ,iv 0]) 0 (cP hL s (Qb x dv wr (z.tk j).bF (z.tk j).val)) (fun w1 F1 t h1 h2 h3=>by
        have:=aE2 hL s x w1 hH aM hok dv d cF (hw0 dv) lD.2 (z.tk j).bF ⟨Ab,by omega,dH⟩ wr (z.tk j).val lB F1 h1 h2 (iZ.le eB (h3 _ (by simp)))
        rw[if_pos yR,if_pos yR,←yU] at this
        exact this) ?_
       dsimp only[List.set]
       refine XB.bk ?_ (hS:=fun _ h=>h.bU)
       refine XB.next 10 rfl (by kernel_rfl) ?_
       refine bA ?_
       refine XB.bk ?_ (hS:=fun _ h=>h.bU)
       refine XB.q 11 ?_ (hsub:=fun _ h=>h.bU)
       refine XB.q 12 ?_ (hsub:=fun _ h=>h.bU)
       refine XB.next 13 rfl (by kernel_rfl) ?_
       refine bA ?_
       refine XB.bk ?_ (hS:=fun _ h=>h.bU)
       refine XB.next 14 rfl (by kernel_rfl) ?_
       refine bA ?_
       refine XB.bk ?_ (hS:=fun _ h=>h.bU)
       refine XB.done (by kernel_rfl) ?_
       refine XK.weak [1,2,3,0,4] rfl (by decide) (fun _ h=>h) ?_
       refine XK.tk 2 0 ?_
       refine XK.go ?_
       refine dL rfl rfl ?_ (hs:=dK.mk 0 rfl bL.h rfl (of_decide_eq_true rfl))
       dsimp only[List.set]
       refine XK.go ?_
       refine dL rfl rfl ?_ (hs:=dK.mk 0 rfl bL.h rfl (of_decide_eq_true rfl))
       dsimp only[List.set]
       refine XK.go ?_
       refine XK.gv 2 0 ?_
       refine XK.te 2 (fun L:cK=>eC g hL.h f L s {z with aQ:=true,id:=x.aQ}) L ?_
       refine XK.weak [2,3,4] rfl (by decide) (fun _ h=>h) ?_
       refine XK.gv 1 0 ?_
       refine XK.gv 0 1 ?_
       subst bN
       exact XK.rT 0 hF
      ·rw[if_neg yR]
       refine XK.weak [3,0,1,2,4] rfl (by decide) (fun _ h=>h) ?_
       refine XK.Nb [1,2,3,5,6,7,8,11,12] ?_
       refine XB.mv 0 ?_ (hsub:=fun _ h=>h.bU)
       refine XB.q 1 ?_ (hsub:=fun _ h=>h.bU)
       refine XB.q 2 ?_ (hsub:=fun _ h=>h.bU)
       refine XB.q 3 ?_ (hi:=rfl) (cY:=aX rfl (Rd.lS 3 rfl rfl)) (hsub:=fun _ h=>h.bU)
       refine XB.mv 4 ?_ (hsub:=fun _ h=>h.bU)
       refine XB.q 5 ?_ (hsub:=fun _ h=>h.bU)
       refine XB.q 6 ?_ (hsub:=fun _ h=>h.bU)
       refine XB.q 7 ?_ (hsub:=fun _ h=>h.bU)
       refine XB.q 8 ?_ (hsub:=fun _ h=>h.bU)
       refine XB.next 9 rfl (by kernel_rfl) ?_
       refine cX (v:=.tuple #[iv 0,iv 6]) 0 (cP hL s x) (fun w1 F1 t h1 h2 h3=>by
        have:=aE2 hL s x w1 hH aM hok dv d cF (hw0 dv) lD.2 (z.tk j).bF ⟨Ab,by omega,dH⟩ wr (z.tk j).val lB F1 h1 h2 (iZ.le eB (h3 _ (by simp)))
        rw[if_neg yR,if_neg yR,←yU] at this
        exact this) ?_
       dsimp only[List.set]
       refine XB.bk ?_ (hS:=fun _ h=>h.bU)
       refine XB.next 10 rfl (by kernel_rfl) ?_
       refine bA ?_
       refine XB.bk ?_ (hS:=fun _ h=>h.bU)
       refine XB.q 11 ?_ (hsub:=fun _ h=>h.bU)
       refine XB.q 12 ?_ (hsub:=fun _ h=>h.bU)
       refine XB.next 13 rfl (by kernel_rfl) ?_
       refine bA ?_
       refine XB.bk ?_ (hS:=fun _ h=>h.bU)
       refine XB.next 14 rfl (by kernel_rfl) ?_
       refine bA ?_
       refine XB.bk ?_ (hS:=fun _ h=>h.bU)
       refine XB.done (by kernel_rfl) ?_
       refine XK.weak [1,2,3,0,4] rfl (by decide) (fun _ h=>h) ?_
       refine XK.go ?_
       refine XK.te 2 (fun L:cK=>eC g hL.h f L s z) L ?_
       refine XK.weak [2,3,4] rfl (by decide) (fun _ h=>h) ?_
       refine XK.gv 1 0 ?_
       refine XK.gv 0 1 ?_
       subst bN
       exact XK.rT 0 hF
     ·refine XQ.end_ ?_
      rw[if_pos (.inr rfl)]
      refine XK.go ?_
      refine XK.te 2 (fun L:cK=>eC g hL.h f L s z) L ?_
      refine XK.weak [2,3,4] rfl (by decide) (fun _ h=>h) ?_
      refine XK.gv 1 0 ?_
      refine XK.gv 0 1 ?_
      subst bN
      exact XK.rT 0 hF
end
end
section
set_option maxHeartbeats 4000000
set_option maxRecDepth 20000
theorem Yd{P:Program}{fn:FuncId}{args:Array Value}{w:World}{p p' q:HP}{v:Value}{F:Nat→Prop}(h:∀F,p.sat F w→(∀b,F b→b < w.heap.size)→Calls P fn args w fun y w'=>y=.returned v∧∃F',p'.sat F' w'∧aV w w' F F')
  (hp:(HP.many [p,q]).sat F w) (hF:∀b,F b→b < w.heap.size):Calls P fn args w fun y w'=>y=.returned v∧∃F',(HP.many [p',q]).sat F' w'∧aV w w' F F':=by
 obtain⟨G,g1,g2,g3⟩:=hp
 have Ai:=g1 0 p rfl
 have Ez:=g1 1 q rfl
 refine(h (G 0) Ai fun b hb=>hF b (g2 0 b hb)).mono fun y w' ⟨hy,F',h1,ht⟩=>⟨hy,fun b=>F' b∨G 1 b,⟨fun i=>match i with | 0=>F' | 1=>G 1 | _=>fun _=>False,fun i r hr=>?_,fun i b hb=>?_,fun i j b hij hi hj=>?_⟩,⟨ht.os,ht.tape,ht.output,ht.size,fun b hb=>?_,fun b hb hn=>?_⟩⟩
 ·match i,hr with
  | 0,hr=>cases hr;exact h1
  | 1,hr=>cases hr;exact q.loc _ _ _ Ez fun b hb=>ht.old b (hF b (g2 1 b hb)) fun h0=>g3 0 1 b (by decide) h0 hb
  | i+2,hr=>simp at hr
 ·match i,hb with
  | 0,hb=>exact .inl hb
  | 1,hb=>exact .inr hb
  | i+2,hb=>exact hb.elim
 ·have key:∀b,F' b→G 1 b→False:=fun b h0 h2=>by
   rcases(ht.new b h0).1 with h3 | h3
   ·exact g3 0 1 b (by decide) h3 h2
   ·have:=hF b (g2 1 b h2)
    omega
  match i,j,hi,hj with
  | 0,0,_,_=>exact absurd rfl hij
  | 0,1,hi,hj=>exact key b hi hj
  | 1,0,hi,hj=>exact key b hj hi
  | 1,1,_,_=>exact absurd rfl hij
  | i+2,_,hi,_=>exact hi.elim
  | _,j+2,_,hj=>exact hj.elim
 ·rcases hb with hb | hb
  ·refine⟨?_,(ht.new b hb).2⟩
   rcases(ht.new b hb).1 with h3 | h3
   ·exact .inl (g2 0 b h3)
   ·exact .inr h3
  ·exact⟨.inl (g2 1 b hb),Nat.lt_of_lt_of_le (hF b (g2 1 b hb)) ht.size⟩
 ·exact ht.old b hb fun h0=>hn (g2 0 b h0)
structure Oc(s:aA)(z:aU):Prop where
 wn:z.wn.of s
 hs:∀j,T3 j→aCj (z.tk j)
structure Zd(s:aA)(x:aO):Prop where
 ok:bR s x
 w0:∀i:Nat,(x.wt[i]?).join=none
 po:0≤x.aQ∧x.aQ≤1000000000
def Bd(s:aA)(x:aO)(z:aU)(j:Nat)(k:Int):Int×aU×aO:=
 if k=103 then((Iz s z j).1,(Iz s z j).2,x) else if k=112 then((Hj s z j).1,(Hj s z j).2,x) else if k=114 then Dp s x z j false else if k=119 then Dp s x z j true else if k=115 then((He s z).1,(He s z).2,x) else((Hi s z).1,(Hi s z).2,x)
theorem aM1{k:Int}(hk:uN k):∃(tx:TypeId) (u u':Value) (fn:FuncId),Jg k=.iface tx u∧(∀w,(method (Tryz.prog.types.size+Made.depth) tx u "catnap/rpm.begin").run Tryz.prog w=.ok (fn,u') w)∧eG Tryz.prog fn=true∧
  ∀(g f:Nat) (hL:HL) (s:aA) (z:aU) (x:aO) (w:World) (F:Nat→Prop) (j:Nat),s.made→fF hL s→Zd s x→Oc s z→T3 j→(Gl g f hL s z x).sat F w→(∀b,F b→b < w.heap.size)→iZ ⟨w,fun b=>b < w.heap.size∧¬F b⟩→
   Calls Tryz.prog fn #[u',pt g,.pointer (some ⟨g,10+13*j,none⟩)] w (fun y w'=>y=.returned (iv (Bd s x z j k).1)∧∃F',(Gl g f hL s (Bd s x z j k).2.1 (Bd s x z j k).2.2).sat F' w'∧aV w w' F F'):=by
 rcases hk with rfl | rfl | rfl | rfl | rfl | rfl
 ·exact⟨_,_,.agg #[],276,rfl,fun w=>by kernel_rfl,(by kernel_rfl),fun g f hL s z x w F j hm aM hx hz hj hp hF _=>Yd (fun F h1 h2=>aHZ g hL.h f s z w F hm hz.wn j hj (hz.hs j hj) h1 h2) hp hF⟩
 ·exact⟨_,_,.agg #[],290,rfl,fun w=>by kernel_rfl,(by kernel_rfl),fun g f hL s z x w F j hm aM hx hz hj hp hF _=>Yd (fun F h1 h2=>aHW g hL.h f s z w F hm hz.wn j hj (hz.hs j hj) h1 h2) hp hF⟩
 ·exact⟨_,_,.agg #[.bool false],291,rfl,fun w=>by kernel_rfl,(by kernel_rfl),fun g f hL s z x w F j hm aM hx hz hj hp hF eB=>aDc g f hL s z x w F hm aM hx.ok hx.w0 hx.po j hj false hp hF eB⟩
 ·exact⟨_,_,.agg #[.bool true],291,rfl,fun w=>by kernel_rfl,(by kernel_rfl),fun g f hL s z x w F j hm aM hx hz hj hp hF eB=>aDc g f hL s z x w F hm aM hx.ok hx.w0 hx.po j hj true hp hF eB⟩
 ·exact⟨_,_,.agg #[],297,rfl,fun w=>by kernel_rfl,(by kernel_rfl),fun g f hL s z x w F j hm aM hx hz hj hp hF _=>Yd (fun F h1 h2=>aHS g hL.h f s z w F hm hz.wn _ h1 h2) hp hF⟩
 ·exact⟨_,_,.agg #[],298,rfl,fun w=>by kernel_rfl,(by kernel_rfl),fun g f hL s z x w F j hm aM hx hz hj hp hF _=>Yd (fun F h1 h2=>aHV g hL.h f s z w F hm hz.wn _ h1 h2) hp hF⟩
theorem aEV(s:aA)(x:aO)(z:aU)(j:Nat)(k:Int):(Bd s x z j k).2.1.cH=z.cH:=by
 unfold Bd Iz Hj He Hi Dp
 repeat' split
 all_goals rfl
theorem aIb{h f:Nat}{L:cK}{s:aA}{z:aU}{j:Nat}{v:Int}(hj:T3 j):(iQ h f L s z).set (10+13*j+0) (iv v)=iQ h f L s (z.iC j {z.tk j with st:=v}):=by
 rcases hj with rfl | rfl | rfl<;>rfl
def jA(z:aU)(j:Nat):aU:={z.iC j {z.tk j with st:=2} with cH:=(j:Int)}
theorem aJ7{z:aU}{j:Nat}(hj:T3 j):(jA z j).tk j={z.tk j with st:=2}:=by
 rcases hj with rfl | rfl | rfl<;>rfl
theorem aJ8{s:aA}{z:aU}{j:Nat}(hj:T3 j)(h:Oc s z):Oc s (jA z j):=⟨h.wn,fun i hi=>by
 have h1:=h.hs i hi
 have h2:((jA z j).tk i).hs=(z.tk i).hs:=by
  rcases hj with rfl | rfl | rfl<;>rcases hi with rfl | rfl | rfl<;>rfl
 exact⟨by rw[h2];exact h1.len,fun k=>by
  have:=h1.bd k
  unfold hG at this⊢
  rw[h2]
  exact this⟩⟩
def sE(s:aA)(x:aO)(z:aU)(j:Nat):aU×aO:=
 let r:=Bd s x (jA z j) j (z.tk j).kind
 if r.1≠0 then(kC r.2.1 j r.1 0,r.2.2) else if r.2.1.aQ=false∧r.2.1.steps.length=0 then(kC r.2.1 j 0 0,r.2.2) else r.2
theorem aId(g f:Nat)(hL:HL)(s:aA)(z:aU)(x:aO)(w:World)(F:Nat→Prop)(j:Nat)(hm:s.made)(aM:fF hL s)(hx:Zd s x)(hz:Oc s z)(hj:T3 j)(hk:uN (z.tk j).kind)(hp:(Gl g f hL s z x).sat F w)(hF:∀b,F b→b < w.heap.size)(eB:iZ ⟨w,fun b=>b < w.heap.size∧¬F b⟩):
  Calls Tryz.prog 47 #[pt g,iv (j:Int)] w (fun y w'=>y=.returned (.tuple #[])∧∃F',(Gl g f hL s (sE s x z j).1 (sE s x z j).2).sat F' w'∧aV w w' F F'):=by
 have hj2:j≤2:=by rcases hj with rfl | rfl | rfl<;>decide
 obtain⟨tx,u,u',fn,hy,hme,hcb,wM⟩:=aM1 hk
 have jS:=aJ8 hj hz
 have hh:=aEV s x (jA z j) j (z.tk j).kind
 unfold sE
 dsimp only
 refine XK.bY Tryz.func47 Tryz.ntmps47 hp hF ?_
 generalize bN:(⟨w,fun b=>b < w.heap.size∧¬F b⟩:Piece)=R0 at eB⊢
 refine XK.tk 0 0 ?_
 refine XK.ox 0 fun L=>?_
 refine XK.tk 0 0 ?_
 refine XK.go ?_
 refine dL rfl rfl ?_ (hs:=dK.mk 0 rfl bL.h rfl (of_decide_eq_true rfl))
 dsimp only[List.set]
 rw[show(iQ hL.h f L s z).set (0+49) (iv (j:Int))=iQ hL.h f L s {z with cH:=(j:Int)} from rfl]
 refine XK.go ?_
 refine kd (dX j (10+13*j) (ho:=by omega)) ?_
 refine XK.go ?_
 refine dL rfl rfl ?_ (hs:=dK.mk 0 rfl bL.h rfl (by rw[Vl];omega))
 dsimp only[List.set]
 rw[aIb hj]
 refine XK.gv 0 0 ?_
 change XK _ _ _ _ _ [eC g hL.h f L s (jA z j),HP.many [HP.emp,cP hL s x]]
 refine XK.go ?_
 refine kd (aX rfl (Rd.lS 0 rfl (xT (k:=1) hj rfl))) ?_
 rw[aJ7 hj]
 refine aJ (fun w1 _=>Vk (z.tk j).kind w1) ?_
 rw[hy]
 refine XK.te 0 (fun L:cK=>eC g hL.h f L s (jA z j)) L ?_
 refine XK.gv 0 0 ?_
 refine XK.go ?_
 generalize hr:Bd s x (jA z j) j (z.tk j).kind=r at hh⊢
 refine aCz 0 (Gl g f hL s r.2.1 r.2.2) hcb rfl hme rfl rfl ⟨by decide,rfl⟩ (fun w1 F1 t h1 h2 h3=>by
  have:=wM g f hL s (jA z j) x w1 F1 j hm aM hx jS hj h1 h2 (iZ.le eB (h3 _ (by simp)))
  rw[hr] at this
  exact this) ?_
 dsimp only[List.set]
 obtain⟨er,z2,x2⟩:=r
 dsimp only at hh⊢
 refine XK.go ?_
 refine XK.if_ rfl (fun he=>?_) (fun he=>?_)
 ·rw[if_pos he]
  refine XK.go ?_
  refine kd (eM rfl) ?_
  refine XK.go ?_
  refine XK.tk 0 0 ?_
  refine cX 0 (fE g hL.h f s (kC z2 j er 0)) (fun w1 F1 t h1 h2 h3=>Ef g hL.h f s z2 w1 F1 j hh hj er 0 h1 h2) ?_
  dsimp only[List.set]
  refine XK.gv 0 0 ?_
  refine XK.go ?_
  subst bN
  exact XK.r0 0 hF
 ·rw[if_neg he]
  refine XK.tk 0 0 ?_
  refine XK.ox 0 fun L2=>?_
  refine XK.go ?_
  refine kd (aX rfl (Rd.lS 0 rfl rfl)) ?_
  cases lB:z2.aQ
  ·refine XK.go ?_
   refine kd (aX rfl (Rd.lS 0 rfl rfl)) ?_
   refine XK.go ?_
   refine XK.te 0 (fun L:cK=>eC g hL.h f L s z2) L2 ?_
   refine XK.if_ rfl (fun hn=>?_) (fun hn=>?_)
   ·rw[if_pos ⟨rfl,Int.ofNat.inj hn⟩]
    refine XK.go ?_
    refine kd (eM rfl) ?_
    refine XK.go ?_
    refine cX 0 (fE g hL.h f s (kC z2 j 0 0)) (fun w1 F1 t h1 h2 h3=>Ef g hL.h f s z2 w1 F1 j hh hj 0 0 h1 h2) ?_
    dsimp only[List.set]
    refine XK.gv 0 0 ?_
    subst bN
    exact XK.r0 0 hF
   ·rw[if_neg (fun h=>hn (congrArg Int.ofNat h.2))]
    refine XK.go ?_
    refine XK.gv 0 0 ?_
    subst bN
    exact XK.r0 0 hF
  ·refine XK.go ?_
   rw[if_neg (by simp)]
   refine XK.te 0 (fun L:cK=>eC g hL.h f L s z2) L2 ?_
   refine XK.gv 0 0 ?_
   subst bN
   exact XK.r0 0 hF
end
section
set_option maxHeartbeats 4000000
set_option maxRecDepth 20000
def Dd(k:Int):Value:=
 if k=117 then .func (.func 100) #[] #[] else if k=100∨k=107 then .func (.func 101) #[] #[]
 else if k=99 then .func (.func 102) #[] #[] else if k=111 then .func (.func 103) #[] #[]
 else if k=114 then .func (.func 104) #[] #[] else .func (.func 105) #[] #[]
theorem aFc(k:Int)(w:World):Calls Tryz.prog 51 #[.int .u8 k] w (Rt (Dd k) w):=by
 refine XK.en Tryz.func51 Tryz.ntmps51 ?_
 refine XK.go ?_
 refine XK.if_ rfl (fun h1=>?_) (fun h1=>?_)
 ·refine XK.go ?_
  exact XK.rE (by rw[Dd,if_pos h1])
 refine XK.go ?_
 refine XK.if_ rfl (fun h2=>?_) (fun h2=>?_)
 ·refine XK.go ?_
  refine XK.if_ rfl (fun _=>?_) (fun h=>absurd h2 h)
  refine XK.go ?_
  exact XK.rE (by rw[Dd,if_neg h1,if_pos (.inl h2)])
 refine XK.go ?_
 refine XK.if_ rfl (fun h3=>?_) (fun h3=>?_)
 ·refine XK.go ?_
  exact XK.rE (by rw[Dd,if_neg h1,if_pos (.inr h3)])
 have h23:¬(k=100∨k=107):=by omega
 refine XK.go ?_
 refine XK.if_ rfl (fun h4=>?_) (fun h4=>?_)
 ·refine XK.go ?_
  exact XK.rE (by rw[Dd,if_neg h1,if_neg h23,if_pos h4])
 refine XK.go ?_
 refine XK.if_ rfl (fun h5=>?_) (fun h5=>?_)
 ·refine XK.go ?_
  exact XK.rE (by rw[Dd,if_neg h1,if_neg h23,if_neg h4,if_pos h5])
 refine XK.go ?_
 refine XK.if_ rfl (fun h6=>?_) (fun h6=>?_)
 ·refine XK.go ?_
  exact XK.rE (by rw[Dd,if_neg h1,if_neg h23,if_neg h4,if_neg h5,if_pos h6])
 refine XK.go ?_
 exact XK.rE (by rw[Dd,if_neg h1,if_neg h23,if_neg h4,if_neg h5,if_neg h6])
theorem aAQ{P:Program}{fn:Func}{R:Ending→World→Prop}(hr:fn.results=#[]){t1 t2:Array Value}:∀(ds:List Deferred) (u:FrameMode) (w:World),Leaves P fn t1 R ds u w→Leaves P fn t2 R ds u w
 | [],.returning,w,h=>by
  obtain⟨v,h1,h2⟩:=h
  rw[results_none hr] at h1
  cases h1
  exact⟨_,results_none hr _ _ _,h2⟩
 | [],.panicking _,_,h=>h
 | [],.run,_,h=>h
 | d::ds,u,w,h=>by
  obtain⟨h1,fv,cap,f,args,h2,h3,h4⟩:=h
  refine⟨h1,fv,cap,f,args,h2,h3,h4.mono fun y u' w' hy=>?_⟩
  cases y with
  | returned v=>exact aAQ hr ds _ _ hy
  | panicked c=>exact aAQ hr ds _ _ hy
  | outgrown=>exact hy
theorem jX{P:Program}{fn:Func}{R:Ending→World→Prop}{c:List PanicEntry}{a:Act}{d:Option Nat}{v:Value}{w:World}(hr:fn.results=#[])(h:bodyPostD P fn R (.panic c) (a.put d v) w):bodyPostD P fn R (.panic c) a w:=by
 have hd:(a.put d v).defers=a.defers:=by cases d<;>rfl
 have h2:Leaves P fn (a.put d v).tmps R (a.put d v).defers (.panicking c) w:=h
 rw[hd] at h2
 exact aAQ hr _ _ _ h2
def aCr(f:Nat)(hL:HL)(s:aA)(z:bP)(x:aO)(r:aO×Bool):Prop:=
 ∃fn:FuncId,Dd z.kind=.func (.func fn) #[] #[]∧eG Tryz.prog fn=true∧bR s r.1∧∀(w:World) (F:Nat→Prop),(dU f hL s z x).sat F w→(∀b,F b→b < w.heap.size)→iZ ⟨w,fun b=>b < w.heap.size∧¬F b⟩→
  Calls Tryz.prog fn #[pt f,iv z.id] w (fun y w'=>y=.returned (.bool r.2)∧∃F',(dU f hL s z r.1).sat F' w'∧aV w w' F F')
def Cz(s:aA)(z:bP)(r:aO×Bool):bP:=if r.2 then jM s r.1 {z with at_:= -1} z.at_.toNat 0 else z
section
variable(f:Nat)(hL:HL)(s:aA)(z:bP)(x:aO)(w:World)
theorem aLP(hH:s.cI)(aM:fF hL s)(hok:bR s x)(hz:Dt s z)(a:Nat)(ha:z.at_=(a:Int))(yO:a < 2)(r:aO×Bool)(hact:aCr f hL s z x r)(zZ:qX (gP z a))(F:Nat→Prop)(hp:(dU f hL s z x).sat F w)(hF:∀b,F b→b < w.heap.size)(eB:iZ ⟨w,fun b=>b < w.heap.size∧¬F b⟩):
  Calls Tryz.prog 20 #[pt f] w (fun y w'=>y=.returned (.tuple #[])∧∃F',(dU f hL s (Cz s z r) r.1).sat F' w'∧aV w w' F F'):=by
 obtain⟨fn,cY,hcb,Rf,wM⟩:=hact
 refine XK.Ss (vs:=[pt f]) (p:=dU f hL s z x) Tryz.func20 rfl Tryz.ntmps20 (by simp) hp hF ?_
 generalize bN:(⟨w,fun b=>b < w.heap.size∧¬F b⟩:Piece)=R0 at eB⊢
 refine XK.go ?_
 refine Ol (f:=49) (fi:=[]) (ca:=[]) rfl ?_
 refine XK.go ?_
 refine kd (aX rfl (Rd.Cc 0 rfl fun _=>rfl)) ?_
 refine XK.go ?_
 refine aW (t:=8) rfl (fun h=>absurd h (by omega)) (fun _=>?_)
 refine XK.go ?_
 refine XK.eU [1,2,3,4,8,9,10,11] ?_
 refine XB.mv 0 ?_ (hQ:=fun _ _ _ h=>jX rfl h)
 refine XB.mv 6 ?_ (hQ:=fun _ _ _ h=>jX rfl h)
 refine XB.mv 7 ?_ (hQ:=fun _ _ _ h=>jX rfl h)
 refine XB.q 1 ?_ (hQ:=fun _ _ _ h=>jX rfl h)
 refine XB.q 2 ?_ (hQ:=fun _ _ _ h=>jX rfl h)
 refine XB.q 3 ?_ (hQ:=fun _ _ _ h=>jX rfl h)
 refine XB.q 4 ?_ (hQ:=fun _ _ _ h=>jX rfl h) (cY:=aX rfl (Rd.Cc 0 rfl fun _=>rfl))
 refine XB.q 8 ?_ (hQ:=fun _ _ _ h=>jX rfl h)
 refine XB.q 9 ?_ (hQ:=fun _ _ _ h=>jX rfl h)
 refine XB.q 10 ?_ (hQ:=fun _ _ _ h=>jX rfl h)
 refine XB.q 11 ?_ (hQ:=fun _ _ _ h=>jX rfl h) (cY:=aX rfl (Rd.Cc 0 rfl fun _=>rfl))
 refine XB.next 5 rfl (by kernel_rfl) ?_
 refine aJ (fun w1 t=>aFc z.kind w1) ?_
 rw[cY]
 refine XB.bk ?_
 refine XB.next 12 rfl (by kernel_rfl) ?_
 refine Wk 0 (fi:=[]) (ca:=[]) (dU f hL s z r.1) (fun w1 F1 t h1 h2 h3=>by simpa using wM w1 F1 h1 h2 (iZ.le eB (h3 _ (by simp)))) ?_ (hf:=hcb)
 dsimp only[List.set]
 refine XB.bt ?_
 refine XB.done (by kernel_rfl) ?_
 refine XK.go ?_
 obtain⟨x',b⟩:=r
 dsimp only at Rf⊢
 cases b
 ·refine XK.go ?_
  subst bN
  exact XK.wE (.inr rfl) (by kernel_rfl) So rfl fun w1 t=>⟨rfl,t.turns hF (by simp) (i:=0) rfl⟩
 ·refine XK.go ?_
  refine kd (aX rfl (Rd.Cc 0 rfl fun _=>rfl)) ?_
  refine XK.go ?_
  refine XK.tk 0 0 ?_
  refine XK.ox 0 fun L=>?_
  refine XK.tk 0 0 ?_
  refine dL rfl rfl ?_ (hs:=dK.mk 0 rfl bL.h rfl (by simp[cN]))
  dsimp only[List.set]
  rw[show(cN hL.h L s z).set (0+16) (iv (-1))=cN hL.h L s {z with at_:= -1} from rfl]
  refine XK.gv 0 0 ?_
  refine XK.te 0 (fun L:fS=>fT f hL.h L s {z with at_:= -1}) L ?_
  refine XK.gv 0 0 ?_
  refine XK.go ?_
  rw[ha]
  refine cX 0 (dU f hL s (jM s x' {z with at_:= -1} a 0) x') (fun w1 F1 t h1 h2 h3=>aB2 f hL s {z with at_:= -1} x' hH aM Rf a yO 0 (fun _=>zZ) w1 F1 h1 h2) ?_
  dsimp only[List.set]
  refine XK.go ?_
  have hend:Cz s z (x',true)=jM s x' {z with at_:= -1} a 0:=by
   unfold Cz
   rw[if_pos rfl,ha]
   rfl
  rw[hend]
  subst bN
  exact XK.wE (.inr rfl) (by kernel_rfl) So rfl fun w1 t=>⟨rfl,t.turns hF (by simp) (i:=0) rfl⟩
end
end
section
set_option maxHeartbeats 4000000
set_option maxRecDepth 20000
def Ex(s:aA)(d:Int)(k:Nat)(p:dB×eJ):dB×eJ:=match s.aC[k]? with
 | some dv=>if dv.domain=d then(p.1,if p.2.at_=3 then(mU p.2).2 else if p.2.at_=0 then(qR p.2).2 else p.2) else p
 | none=>p
def kM(s:aA)(x:aO)(d:Int)(n:Nat):List (dB×eJ):=x.dv.mapIdx fun k p=>if k < n then Ex s d k p else p
def Vq(s:aA)(x:aO)(d:Int)(k:Nat):Bool:=match s.aC[k]?,x.dv[k]? with
 | some dv,some p=> !decide (dv.domain=d)||decide (p.2.at_=2)
 | _,_=>true
def Ia(s:aA)(x:aO)(d:Int)(n:Nat):Bool:=(List.range n).all (Vq s x d)
theorem aKH(s:aA)(x:aO)(d:Int)(n:Nat):Ia s x d (n+1)=(Ia s x d n&&Vq s x d n):=by simp[Ia,List.range_succ]
theorem aOq{x:eJ}(h:xC x):xC (qR x).2:=by
 unfold qR
 split
 ·exact h
 ·exact⟨by show(0:Int)≤1;omega,by show(1:Int)≤3;omega⟩
theorem aAY{s:aA}{x:aO}(hH:s.cI)(hok:bR s x)(d:Int)(n:Nat):bR s {x with dv:=kM s x d n}:=Qh hH hok (by simp[kM]) fun i e p hd hp=>by
 rw[kM,List.getElem?_mapIdx] at hp
 cases hq:x.dv[i]? with
 | none=>rw[hq] at hp;cases hp
 | some q =>
  rw[hq] at hp
  obtain⟨h1,h2⟩:=hok.each i e q hd hq
  simp only[Option.map_some,Option.some.injEq] at hp
  subst hp
  split
  ·unfold Ex
   rw[hd]
   dsimp only
   split
   ·refine⟨h1,?_⟩
    dsimp only
    split
    ·exact aDY h2
    ·split
     ·exact aOq h2
     ·exact h2
   ·exact⟨h1,h2⟩
  ·exact⟨h1,h2⟩
variable(f:Nat)(hL:HL)(s:aA)(z:bP)(x:aO)(w:World)
theorem aMb(hH:s.cI)(aM:fF hL s)(hok:bR s x)(d:Int)(F:Nat→Prop)(hp:(dU f hL s z x).sat F w)(hF:∀b,F b→b < w.heap.size)(eB:iZ ⟨w,fun b=>b < w.heap.size∧¬F b⟩):
  Calls Tryz.prog 177 #[pt f,iv d] w (fun y w'=>y=.returned (.bool (Ia s x d s.aC.length))∧∃F',(dU f hL s z {x with dv:=kM s x d s.aC.length}).sat F' w'∧aV w w' F F'):=by
 have lD:=hH.t.nv
 have kA:=hok.dv
 refine XK.bY Tryz.func177 Tryz.ntmps177 hp hF ?_
 generalize bN:(⟨w,fun b=>b < w.heap.size∧¬F b⟩:Piece)=R0 at eB⊢
 refine XK.tk 0 0 ?_
 refine XK.ox 0 fun L=>?_
 refine XK.tk 1 1 ?_
 refine XK.go ?_
 refine kd (aX rfl (Rd.fL 1 rfl rfl)) ?_
 refine XK.go ?_
 have hm0:kM s x d 0=x.dv:=Li _ _
 refine XK.aT [(15,iv (0)),(14,iv s.aC.length),(13,.slice L.a4.1 s.aC.length L.a4.2),(5,.bool true),(0,pt f),(1,iv d)] ?_
 refine XK.loop (fun m e R H=>∃(i:Nat) (b:Bool),i≤s.aC.length∧m=s.aC.length - i∧b=Ia s x d i∧e=[(15,iv (i:Int)),(14,iv s.aC.length),(13,.slice L.a4.1 s.aC.length L.a4.2),(5,.bool b),(0,pt f),(1,iv d)]∧R=[R0]∧H=[cP hL s {x with dv:=kM s x d i},fT f hL.h L s z,HP.many [HP.emp,HP.emp]]) s.aC.length ⟨0,true,by omega,rfl,rfl,rfl,rfl,by rw[hm0]⟩ fun m e R H hI=>?_
 obtain⟨i,b0,hi,rfl,hb0,rfl,rfl,rfl⟩:=hI
 have lC:=aAY hH hok d i
 refine XK.go ?_
 refine XK.if_ rfl (fun hlt=>?_) (fun hge=>?_)
 ·have hlt:i < s.aC.length:=by omega
  obtain⟨dv,cF⟩:=get_some hlt
  obtain⟨p,fI⟩:=get_some (l:=x.dv) (i:=i) (by omega)
  have jC:(kM s x d i)[i]? =some p:=Ll fI
  have hstep:(kM s x d i).set i (Ex s d i p)=kM s x d (i+1):=Lj (f:=Ex s d) fI
  have cQ:=aKH s x d i
  have Re:Vq s x d i=(!decide (dv.domain=d)||decide (p.2.at_=2)):=by
   unfold Vq
   rw[cF,fI]
  rw[Re,←hb0] at cQ
  obtain⟨q1,q2⟩:=(lC.each i dv p cF jC).2
  refine XK.aCM 1 rfl (by omega) fun b off hA=>?_
  refine XK.go ?_
  refine kd (dat i (off+i*6) (hx:=by rw[←hA];rfl)) ?_
  refine aCy 6 (aCn dv) rfl (fun w1 t=>aEM (t.uV 1 rfl) hA cF) ?_
  rintro _ ⟨A,n,k,A',n',k',rfl⟩
  refine bB fun g1=>?_
  refine XK.go ?_
  refine XK.if_ rfl (fun he=>?_) (fun he=>?_)
  ·have kO:Ex s d i p=p:=by
    unfold Ex
    rw[cF]
    exact if_neg he
   rw[kO,uH jC] at hstep
   rw[hstep]
   refine XK.go ?_
   refine XK.weak [1,2,3] rfl (by decide) (fun _ h=>h) ?_
   refine XK.aT [(15,iv ((i+1:Nat):Int)),(14,iv s.aC.length),(13,.slice L.a4.1 s.aC.length L.a4.2),(5,.bool b0),(0,pt f),(1,iv d)] ?_
   exact XK.round (s.aC.length - (i+1)) (by omega) ⟨i+1,b0,hlt,rfl,by rw[cQ,decide_eq_false he];simp,rfl,rfl,rfl⟩
  ·have he:dv.domain=d:=by simpa using he
   rw[decide_eq_true he] at cQ
   have hst:uE {x with dv:=kM s x d i} i=nH p.2.at_:=by
    unfold uE
    dsimp only
    rw[jC]
    rfl
   have kO:Ex s d i p=(p.1,if p.2.at_=3 then(mU p.2).2 else if p.2.at_=0 then(qR p.2).2 else p.2):=by
    unfold Ex
    rw[cF]
    exact if_pos he
   refine XK.go ?_
   refine kd (aX rfl (Rd.fL 2 rfl rfl)) ?_
   refine XK.go ?_
   refine aJ (fun w1 t=>aE0 hL s _ w1 aM lC i hlt (eB.at_ (t.le (by simp))) (t.kB 1 rfl aM lC)) ?_
   rw[hst]
   have hq4:p.2.at_=0∨p.2.at_=1∨p.2.at_=2∨p.2.at_=3:=by omega
   rcases hq4 with ha | ha | ha | ha<;>rw[ha] at kO cQ⊢ <;>cases b0
   ·rw[show nH 0=114 from rfl]
    refine XK.go ?_
    refine kd (aX rfl (Rd.fL 2 rfl rfl)) ?_
    refine XK.go ?_
    refine vP (α:=Int) 1 (f:=226) (fi:=[]) (ca:=[]) (fun r=>iv r) (fun _=>cP hL s (Dm {x with dv:=kM s x d i} i)) (fun _=>True) (by kernel_rfl) rfl rfl rfl (by decide) (fun w1 F1 t h1 h2 h3=>aE5 hL s _ w1 hH aM lC i hlt F1 h1 h2) ?_
    rintro _ _
    dsimp only[List.set]
    have hX:Dm {x with dv:=kM s x d i} i={x with dv:=kM s x d (i+1)}:=by
     unfold Dm
     dsimp only
     rw[jC,←hstep,kO]
     rfl
    rw[hX]
    refine XK.go ?_
    refine XK.weak [1,2,3] rfl (by decide) (fun _ h=>h) ?_
    refine XK.aT [(15,iv ((i+1:Nat):Int)),(14,iv s.aC.length),(13,.slice L.a4.1 s.aC.length L.a4.2),(5,.bool false),(0,pt f),(1,iv d)] ?_
    exact XK.round (s.aC.length - (i+1)) (by omega) ⟨i+1,false,hlt,rfl,by rw[cQ];rfl,rfl,rfl,rfl⟩
   ·rw[show nH 0=114 from rfl]
    refine XK.go ?_
    refine kd (aX rfl (Rd.fL 2 rfl rfl)) ?_
    refine XK.go ?_
    refine vP (α:=Int) 1 (f:=226) (fi:=[]) (ca:=[]) (fun r=>iv r) (fun _=>cP hL s (Dm {x with dv:=kM s x d i} i)) (fun _=>True) (by kernel_rfl) rfl rfl rfl (by decide) (fun w1 F1 t h1 h2 h3=>aE5 hL s _ w1 hH aM lC i hlt F1 h1 h2) ?_
    rintro _ _
    dsimp only[List.set]
    have hX:Dm {x with dv:=kM s x d i} i={x with dv:=kM s x d (i+1)}:=by
     unfold Dm
     dsimp only
     rw[jC,←hstep,kO]
     rfl
    rw[hX]
    refine XK.go ?_
    refine XK.weak [1,2,3] rfl (by decide) (fun _ h=>h) ?_
    refine XK.aT [(15,iv ((i+1:Nat):Int)),(14,iv s.aC.length),(13,.slice L.a4.1 s.aC.length L.a4.2),(5,.bool false),(0,pt f),(1,iv d)] ?_
    exact XK.round (s.aC.length - (i+1)) (by omega) ⟨i+1,false,hlt,rfl,by rw[cQ];rfl,rfl,rfl,rfl⟩
   ·rw[show nH 1=97 from rfl]
    rw[kO,show(if(1:Int)=3 then(mU p.2).2 else if(1:Int)=0 then(qR p.2).2 else p.2)=p.2 from rfl,uH jC] at hstep
    rw[hstep]
    refine XK.go ?_
    refine XK.weak [1,2,3] rfl (by decide) (fun _ h=>h) ?_
    refine XK.aT [(15,iv ((i+1:Nat):Int)),(14,iv s.aC.length),(13,.slice L.a4.1 s.aC.length L.a4.2),(5,.bool false),(0,pt f),(1,iv d)] ?_
    exact XK.round (s.aC.length - (i+1)) (by omega) ⟨i+1,false,hlt,rfl,by rw[cQ];rfl,rfl,rfl,rfl⟩
   ·rw[show nH 1=97 from rfl]
    rw[kO,show(if(1:Int)=3 then(mU p.2).2 else if(1:Int)=0 then(qR p.2).2 else p.2)=p.2 from rfl,uH jC] at hstep
    rw[hstep]
    refine XK.go ?_
    refine XK.weak [1,2,3] rfl (by decide) (fun _ h=>h) ?_
    refine XK.aT [(15,iv ((i+1:Nat):Int)),(14,iv s.aC.length),(13,.slice L.a4.1 s.aC.length L.a4.2),(5,.bool false),(0,pt f),(1,iv d)] ?_
    exact XK.round (s.aC.length - (i+1)) (by omega) ⟨i+1,false,hlt,rfl,by rw[cQ];rfl,rfl,rfl,rfl⟩
   ·rw[show nH 2=115 from rfl]
    rw[kO,show(if(2:Int)=3 then(mU p.2).2 else if(2:Int)=0 then(qR p.2).2 else p.2)=p.2 from rfl,uH jC] at hstep
    rw[hstep]
    refine XK.go ?_
    refine XK.weak [1,2,3] rfl (by decide) (fun _ h=>h) ?_
    refine XK.aT [(15,iv ((i+1:Nat):Int)),(14,iv s.aC.length),(13,.slice L.a4.1 s.aC.length L.a4.2),(5,.bool false),(0,pt f),(1,iv d)] ?_
    exact XK.round (s.aC.length - (i+1)) (by omega) ⟨i+1,false,hlt,rfl,by rw[cQ];rfl,rfl,rfl,rfl⟩
   ·rw[show nH 2=115 from rfl]
    rw[kO,show(if(2:Int)=3 then(mU p.2).2 else if(2:Int)=0 then(qR p.2).2 else p.2)=p.2 from rfl,uH jC] at hstep
    rw[hstep]
    refine XK.go ?_
    refine XK.weak [1,2,3] rfl (by decide) (fun _ h=>h) ?_
    refine XK.aT [(15,iv ((i+1:Nat):Int)),(14,iv s.aC.length),(13,.slice L.a4.1 s.aC.length L.a4.2),(5,.bool true),(0,pt f),(1,iv d)] ?_
    exact XK.round (s.aC.length - (i+1)) (by omega) ⟨i+1,true,hlt,rfl,by rw[cQ];rfl,rfl,rfl,rfl⟩
   ·rw[show nH 3=100 from rfl]
    refine XK.go ?_
    refine kd (aX rfl (Rd.fL 2 rfl rfl)) ?_
    refine XK.go ?_
    refine vP (α:=Int) 1 (f:=176) (fi:=[]) (ca:=[]) (fun r=>iv r) (fun _=>cP hL s (wD {x with dv:=kM s x d i} i)) (fun _=>True) (by kernel_rfl) rfl rfl rfl (by decide) (fun w1 F1 t h1 h2 h3=>aBq hL s _ w1 hH aM lC i hlt F1 h1 h2) ?_
    rintro _ _
    dsimp only[List.set]
    have hX:wD {x with dv:=kM s x d i} i={x with dv:=kM s x d (i+1)}:=by
     unfold wD
     dsimp only
     rw[jC,←hstep,kO]
     rfl
    rw[hX]
    refine XK.go ?_
    refine XK.weak [1,2,3] rfl (by decide) (fun _ h=>h) ?_
    refine XK.aT [(15,iv ((i+1:Nat):Int)),(14,iv s.aC.length),(13,.slice L.a4.1 s.aC.length L.a4.2),(5,.bool false),(0,pt f),(1,iv d)] ?_
    exact XK.round (s.aC.length - (i+1)) (by omega) ⟨i+1,false,hlt,rfl,by rw[cQ];rfl,rfl,rfl,rfl⟩
   ·rw[show nH 3=100 from rfl]
    refine XK.go ?_
    refine kd (aX rfl (Rd.fL 2 rfl rfl)) ?_
    refine XK.go ?_
    refine vP (α:=Int) 1 (f:=176) (fi:=[]) (ca:=[]) (fun r=>iv r) (fun _=>cP hL s (wD {x with dv:=kM s x d i} i)) (fun _=>True) (by kernel_rfl) rfl rfl rfl (by decide) (fun w1 F1 t h1 h2 h3=>aBq hL s _ w1 hH aM lC i hlt F1 h1 h2) ?_
    rintro _ _
    dsimp only[List.set]
    have hX:wD {x with dv:=kM s x d i} i={x with dv:=kM s x d (i+1)}:=by
     unfold wD
     dsimp only
     rw[jC,←hstep,kO]
     rfl
    rw[hX]
    refine XK.go ?_
    refine XK.weak [1,2,3] rfl (by decide) (fun _ h=>h) ?_
    refine XK.aT [(15,iv ((i+1:Nat):Int)),(14,iv s.aC.length),(13,.slice L.a4.1 s.aC.length L.a4.2),(5,.bool false),(0,pt f),(1,iv d)] ?_
    exact XK.round (s.aC.length - (i+1)) (by omega) ⟨i+1,false,hlt,rfl,by rw[cQ];rfl,rfl,rfl,rfl⟩
 obtain rfl:i=s.aC.length:=by omega
 rw[←hb0]
 refine XK.go ?_
 refine XK.gv 1 1 ?_
 refine XK.te 0 (fun L:fS=>fT f hL.h L s z) L ?_
 refine XK.gv 0 0 ?_
 subst bN
 exact XK.rT 0 hF
theorem aMd(hH:s.cI)(aM:fF hL s)(hok:bR s x)(c:Int)(F:Nat→Prop)(hp:(dU f hL s z x).sat F w)(hF:∀b,F b→b < w.heap.size):
  Calls Tryz.prog 103 #[pt f,iv c] w (fun y w'=>y=.returned (.bool true)∧∃F',(dU f hL s z {x with ck:=(jY s x.ck c false).2}).sat F' w'∧aV w w' F F'):=by
 refine XK.bY Tryz.func103 Tryz.ntmps103 hp hF ?_
 generalize bN:(⟨w,fun b=>b < w.heap.size∧¬F b⟩:Piece)=R0
 refine XK.tk 0 0 ?_
 refine XK.ox 0 fun L=>?_
 refine XK.tk 1 1 ?_
 refine XK.go ?_
 refine kd (aX rfl (Rd.fL 1 rfl rfl)) ?_
 refine XK.go ?_
 refine cX 0 (cP hL s {x with ck:=(jY s x.ck c false).2}) (fun w1 F1 t h1 h2 h3=>aE4 hL s x w1 hH aM hok c false F1 h1 h2) ?_
 dsimp only[List.set]
 refine XK.go ?_
 refine XK.gv 1 1 ?_
 refine XK.te 0 (fun L:fS=>fT f hL.h L s z) L ?_
 refine XK.gv 0 0 ?_
 subst bN
 exact XK.rT 0 hF
def Hl(s:aA)(x:aO)(d:Int)(keep:Bool):aO×Bool:=
 if qB x.dm d=49 then(if Ia s x d s.aC.length then {x with dv:=kM s x d s.aC.length,dm:=(uZ s x.dm d keep).2} else {x with dv:=kM s x d s.aC.length},false)
 else if qB x.dm d=48∨qB x.dm d=116 then(x,true) else(x,false)
theorem aEI(hH:s.cI)(aM:fF hL s)(hok:bR s x)(d:Int)(F:Nat→Prop)(hp:(dU f hL s z x).sat F w)(hF:∀b,F b→b < w.heap.size)(eB:iZ ⟨w,fun b=>b < w.heap.size∧¬F b⟩):
  Calls Tryz.prog 101 #[pt f,iv d] w (fun y w'=>y=.returned (.bool (Hl s x d (decide (z.kind=107))).2)∧∃F',(dU f hL s z (Hl s x d (decide (z.kind=107))).1).sat F' w'∧aV w w' F F'):=by
 refine XK.bY Tryz.func101 Tryz.ntmps101 hp hF ?_
 generalize bN:(⟨w,fun b=>b < w.heap.size∧¬F b⟩:Piece)=R0 at eB⊢
 refine XK.tk 0 0 ?_
 refine XK.ox 0 fun L=>?_
 refine XK.tk 1 1 ?_
 refine XK.go ?_
 refine kd (aX rfl (Rd.fL 1 rfl rfl)) ?_
 refine XK.go ?_
 refine aJ (fun w1 t=>aBp hL s x w1 hok.dm d (t.kB 0 rfl aM hok)) ?_
 unfold Hl
 generalize qL:qB x.dm d=ph
 by_cases Iw:ph=49
 ·subst Iw
  rw[if_pos rfl]
  refine XK.gv 1 1 ?_
  refine XK.te 0 (fun L:fS=>fT f hL.h L s z) L ?_
  refine XK.gv 0 0 ?_
  refine XK.go ?_
  refine cX 0 (dU f hL s z {x with dv:=kM s x d s.aC.length}) (fun w1 F1 t h1 h2 h3=>aMb f hL s z x w1 hH aM hok d F1 h1 h2 (iZ.le eB (h3 _ (by simp)))) ?_
  dsimp only[List.set]
  have iO:=aAY hH hok d s.aC.length
  cases hb:Ia s x d s.aC.length
  ·refine XK.go ?_
   subst bN
   exact XK.rT 0 hF
  ·refine XK.go ?_
   refine XK.tk 0 0 ?_
   refine XK.ox 0 fun L2=>?_
   refine XK.tk 1 1 ?_
   refine XK.eU [1,2,3,6,7,8,9,10] ?_
   refine XB.mv 0 ?_
   refine XB.mv 4 ?_
   refine XB.mv 5 ?_
   refine XB.q 1 ?_
   refine XB.q 2 ?_
   refine XB.q 3 ?_ (cY:=aX rfl (Rd.fL 1 rfl rfl))
   refine XB.q 6 ?_
   refine XB.q 7 ?_
   refine XB.q 8 ?_
   refine XB.q 9 ?_ (cY:=aX rfl (Rd.fL 1 rfl rfl))
   refine XB.q 10 ?_
   refine XB.next 11 rfl (by kernel_rfl) ?_
   refine cX 0 (cP hL s {x with dv:=kM s x d s.aC.length,dm:=(uZ s x.dm d (decide (z.kind=107))).2}) (fun w1 F1 t h1 h2 h3=>aLn hL s _ w1 hH aM iO d _ F1 h1 h2) ?_
   dsimp only[List.set]
   refine XB.bt ?_
   refine XB.done (by kernel_rfl) ?_
   refine XK.go ?_
   refine XK.gv 1 1 ?_
   refine XK.te 0 (fun L:fS=>fT f hL.h L s z) L2 ?_
   refine XK.gv 0 0 ?_
   subst bN
   exact XK.rT 0 hF
 ·rw[if_neg Iw]
  by_cases h48:ph=48
  ·subst h48
   rw[if_pos (.inl rfl)]
   refine XK.go ?_
   refine XK.gv 1 1 ?_
   refine XK.te 0 (fun L:fS=>fT f hL.h L s z) L ?_
   refine XK.gv 0 0 ?_
   subst bN
   exact XK.rT 0 hF
  by_cases Sk:ph=116
  ·subst Sk
   rw[if_pos (.inr rfl)]
   refine XK.go ?_
   refine XK.gv 1 1 ?_
   refine XK.te 0 (fun L:fS=>fT f hL.h L s z) L ?_
   refine XK.gv 0 0 ?_
   subst bN
   exact XK.rT 0 hF
  rw[if_neg (by omega)]
  refine XK.go ?_
  refine XK.if_ rfl (fun h=>absurd h Iw) (fun _=>?_)
  refine XK.go ?_
  refine XK.if_ rfl (fun h=>absurd h h48) (fun _=>?_)
  refine XK.go ?_
  refine XK.if_ rfl (fun h=>absurd h Sk) (fun _=>?_)
  refine XK.go ?_
  refine XK.gv 1 1 ?_
  refine XK.te 0 (fun L:fS=>fT f hL.h L s z) L ?_
  refine XK.gv 0 0 ?_
  subst bN
  exact XK.rT 0 hF
end
end Go.Proofs.YtdcdccmpcmjmhaaGreatDoor
