/- package regs: Clear, Save, Restore, Read, Write. -/
import Derived.Test.YtkgekojkboingaaGreatDoorWorldTwiceK3
namespace Go.Proofs.YtkgekojkboingaaGreatDoor
set_option linter.all false
set_option maxHeartbeats 4000000
set_option maxRecDepth 20000
open Go.RowKit Go.Proofs.Tryz
section
theorem aPa(w:World)(q:Piece):(⟨w,fun _=>False⟩:Piece).Le q:=fun _ h=>h.elim
theorem aQx(i:Nat)(r:Rg)(w:World):
  Cz 198 #[iv (i:Int),.agg r.cells.toArray] w (Rt (.int .u32 r.reset) w):=by
 refine aO func198 ntmps198 ?_;refine aA ?_;refine bN fun g1=>?_;dsimp only[Value.cells,Rg.cells];refine aA ?_;exact dF
theorem Zt(L:FL)(d:cH)(x:dW)(hrl:d.aS.length≤100)(hok:xS d x)(w:World)(F:Nat→Prop)(hp:(gT L d x).sat F w)(hF:∀b,F b→b < w.heap.size):
  Cz 160 #[.pointer (some ⟨L.f,0,none⟩)] w (Wr (.tuple #[]) (gT L d (Dw d x)) w F):=by
 refine cS func160 ntmps160 hp hF ?_;refine aA ?_
 refine bT 0 (gT L d ⟨d.aS.map (·.reset),x.saved,x.kept⟩) (fun w1 G t hG wW hle=>by
  have:=aF3 L d x hrl 198 (by kernel_rfl) [] ⟨w1,fun _=>False⟩ (d.aS.map (·.reset)) (by simp) hok.now (fun i r v hr hv now w2 F2 _ _ _=>by
   rw[List.getElem?_map,hr] at hv;cases hv
   exact aQx i r w2) w1 G hG wW (aPa _ _)
  exact this) ?_
 refine Xy 0 rfl ?_;dsimp only[List.set,Iz];refine aA ?_;refine Yb (x:=Dw d x) 0 rfl ?_;exact fA 0 hF
theorem aLw(L:FL)(d:cH)(x:dW)(g1 i:Nat)(r:Rg)(v:Int)(hr:d.aS[i]? =some r)(hv:x.saved[i]? =some v)(w:World)(hR:Ce w L d x)(h1:fK w g1 0 (.pointer (some ⟨L.f,0,none⟩))):
  Cz 215 #[iv (i:Int),.agg r.cells.toArray,pt g1] w (Rt (.int .u32 (Zr x.kept r v)) w):=by
 have hlt:=(List.getElem?_eq_some_iff.1 hr).1
 have k3:=hR.r0.at_ (j:=3) rfl
 have k2:=hR.r0.at_ (j:=2) rfl
 have kv:=hR.saved.at_ (aBE hv)
 rw[Nat.zero_add] at kv;obtain⟨rs,kp⟩:=r;cases hk:x.kept
 ·rw[hk] at k3;refine aO func215 ntmps215 ?_;refine aA ?_;refine bN fun g2=>?_;dsimp only[Value.cells,Rg.cells];refine aA ?_;exact dF
 ·rw[hk] at k3;cases kp
  ·refine aO func215 ntmps215 ?_;refine aA ?_;refine bN fun g2=>?_;dsimp only[Value.cells,Rg.cells];refine aA ?_;exact dF
  ·refine aO func215 ntmps215 ?_;refine aA ?_;refine bN fun g2=>?_;dsimp only[Value.cells,Rg.cells];refine aB ?_;exact dF
theorem aL1(L:FL)(d:cH)(x:dW)(hrl:d.aS.length≤100)(hok:xS d x)(w:World)(F:Nat→Prop)(hp:(gT L d x).sat F w)(hF:∀b,F b→b < w.heap.size):
  Cz 196 #[.pointer (some ⟨L.f,0,none⟩)] w (Wr (.tuple #[]) (gT L d (Hw d x)) w F):=by
 have qZ:=hok.saved
 refine cS func196 ntmps196 hp hF ?_;refine aA ?_;refine bN fun g1=>?_;refine aA ?_;refine jY (vf:=[]) (vc:=[pt g1]) rfl rfl (by decide) ?_;refine dB [⟨w,fun b=>b < w.heap.size∧¬F b⟩] [0] [1] (by simp) rfl (by decide) (by decide) fun q hq hLe _=>?_;obtain⟨F1,s1,z1⟩:=hq 0 _ (by simp) rfl
 refine bT 0 (gT L d (Hw d x)) (fun w1 G t hG wW hle=>by
  have:=aF3 L d x hrl 215 (by kernel_rfl) [pt g1] q (Hw d x).now (by simp[Hw];omega) hok.now (fun i r v hr hv now w2 F2 a1 a2 a3=>by
   have hlt:=(List.getElem?_eq_some_iff.1 hr).1
   obtain⟨u,hu⟩:=get_some (l:=x.saved) (i:=i) (by omega)
   have he:v=Zr x.kept r u:=by
    rw[Hw,List.getElem?_zipWith,hr,hu] at hv;cases hv;rfl
   subst he;obtain⟨b1,b2⟩:=a3 g1 (z1 _ s1.1)
   exact aLw L d ⟨now,x.saved,x.kept⟩ g1 i r u hr hu w2 (Ym a1 a2) ⟨b1,(World.cell?_of_block (w:=q.w) b2).trans (by rw[s1.2.cell];rfl)⟩) w1 G hG wW (hle q (by simp))
  exact this) ?_
 refine aA ?_;exact fA 0 hF
theorem aKC(p:Piece)(L:FL)(d:cH)(x:dW)(g1 i:Nat)(r:Rg)(v u:Int)(hr:d.aS[i]? =some r)(hv:x.now[i]? =some v)(hu:x.saved[i]? =some u)(qH:x.saved.length=d.aS.length)
  (h1:p.Z g1∧p.w.cell? ⟨g1,0,none⟩=some (.pointer (some ⟨L.f,0,none⟩))) (w:World) (F:Nat→Prop) (hp:(gT L d x).sat F w) (hF:∀b,F b→b < w.heap.size) (Ft:p.Le ⟨w,fun b=>b < w.heap.size∧¬F b⟩):
  Cz 214 #[iv (i:Int),.agg r.cells.toArray,pt g1] w (Wr (.tuple #[]) (gT L d ⟨x.now,x.saved.set i (Kt r (v,u)),x.kept⟩) w F):=by
 have hlt:=(List.getElem?_eq_some_iff.1 hr).1
 obtain⟨c1,e1⟩:=Ft g1 h1.1
 have k1:w.cell? ⟨g1,0,none⟩=some (.pointer (some ⟨L.f,0,none⟩)):=(World.cell?_of_block (w:=p.w) e1).trans h1.2
 obtain⟨rs,kp⟩:=r;cases kp
 ·have hsame:x.saved.set i (Kt ⟨rs,false⟩ (v,u))=x.saved:=aFd hu
  rw[hsame];refine cS func214 ntmps214 hp hF ?_;refine aA ?_;refine bN fun g2=>?_;dsimp only[Value.cells,Rg.cells];refine aA ?_;exact fA 1 hF
 ·refine cS func214 ntmps214 hp hF ?_;refine aA ?_;refine bN fun g2=>?_;dsimp only[Value.cells,Rg.cells];refine aA ?_;refine Xy 1 rfl ?_;dsimp only[List.set,Iz]
  have Pf:=Zf x.now
  have qZ:=Zf x.saved
  have r1:Rd w [⟨w,fun b=>b < w.heap.size∧¬F b⟩] [HP.aE L.gs 37 (mI x.saved),HP.aE L.gn 37 (mI x.now),HP.aE L.f 264 [.slice L.A d.aS.length L.c,.slice (some ⟨L.gn,0,none⟩) d.aS.length d.aS.length,.slice (some ⟨L.gs,0,none⟩) d.aS.length d.aS.length,.bool x.kept],HP.aE g2 95 [.int .u32 rs,.bool true],HP.many [bU,bU,bU,HP.bR (rL d L.A) (rL.le (d:=d) (A:=L.A))]] g1 0 (.pointer (some ⟨L.f,0,none⟩)):=Rd.ro (List.mem_singleton.2 rfl) c1 k1
  have r2:Rd w [⟨w,fun b=>b < w.heap.size∧¬F b⟩] [HP.aE L.gs 37 (mI x.saved),HP.aE L.gn 37 (mI x.now),HP.aE L.f 264 [.slice L.A d.aS.length L.c,.slice (some ⟨L.gn,0,none⟩) d.aS.length d.aS.length,.slice (some ⟨L.gs,0,none⟩) d.aS.length d.aS.length,.bool x.kept],HP.aE g2 95 [.int .u32 rs,.bool true],HP.many [bU,bU,bU,HP.bR (rL d L.A) (rL.le (d:=d) (A:=L.A))]] L.gn i (.int .u32 v):=Rd.aE 1 rfl (aBE hv)
  refine qM 12 (by kernel_rfl) (by kernel_rfl) ?_;refine bP 0 ?_;refine bP 1 ?_;refine bP 2 ?_;refine bP 3 ?_;refine bP 4 ?_;refine bP 5 ?_;refine bP 6 ?_;refine bP 7 ?_;refine bP 8 ?_;refine bP 9 ?_;refine bP 10 ?_ (cK:=dat (sz:=1) i i);refine bP 11 ?_;refine cJ 12 ?_;refine kd (dat i i) ?_;refine eS ?_;refine cJ 13 ?_;refine eO rfl rfl ?_;dsimp only[List.set];rw[aBD];refine eS ?_;refine kK ?_;refine aA ?_;refine aT [0,1,2,4] rfl (by decide) (fun _ h=>h) ?_;refine Yb (x:=⟨x.now,x.saved.set i v,x.kept⟩) 0 rfl ?_;exact fA 0 hF
theorem aL0(L:FL)(d:cH)(x:dW)(hrl:d.aS.length≤100)(hok:xS d x)(w:World)(F:Nat→Prop)(hp:(gT L d x).sat F w)(hF:∀b,F b→b < w.heap.size):
  Cz 195 #[.pointer (some ⟨L.f,0,none⟩)] w (Wr (.tuple #[]) (gT L d (uT d x)) w F):=by
 have qZ:=hok.saved
 have fN:=hok.now
 have hvl:(uT d x).saved.length=d.aS.length:=by simp[uT];omega
 refine cS func195 ntmps195 hp hF ?_;refine aA ?_;refine bN fun g1=>?_;refine aA ?_;refine jY (vf:=[]) (vc:=[pt g1]) rfl rfl (by decide) ?_;refine dB [⟨w,fun b=>b < w.heap.size∧¬F b⟩] [0] [1] (by simp) rfl (by decide) (by decide) fun q hq hLe _=>?_;obtain⟨F1,s1,z1⟩:=hq 0 _ (by simp) rfl
 refine bT 0 (gT L d ⟨x.now,(uT d x).saved,x.kept⟩) (fun w1 G t hG wW hle=>by
  have key:=aF2 q (fun i=>gT L d ⟨x.now,kG (uT d x).saved x.saved i,x.kept⟩) L d hrl 214 (by kernel_rfl) [pt g1]
   (fun i _ w F h1 h2=>⟨_,Ym h1 h2⟩) (fun i r hr w2 F2' h1 h2 h3=>by
    have hlt:=(List.getElem?_eq_some_iff.1 hr).1
    obtain⟨v,hv⟩:=get_some (l:=x.now) (i:=i) (by omega);obtain⟨u,hu⟩:=get_some (l:=x.saved) (i:=i) (by omega)
    have hs:(uT d x).saved[i]? =some (Kt r (v,u)):=by
     rw[uT,List.getElem?_zipWith,hr,(List.getElem?_zip_eq_some (z:=(v,u))).2 ⟨hv,hu⟩]
    have:=aKC q L d ⟨x.now,kG (uT d x).saved x.saved i,x.kept⟩ g1 i r v u hr hv (aMD (by omega) (by omega) hu) (Uj hvl qZ (by omega))
     ⟨z1 _ s1.1,by rw[s1.2.cell];rfl⟩ w2 F2' h1 h2 h3
    try dsimp only at this
    rw[Ui (by omega) hs] at this
    exact this) w1 G (by show(gT L d ⟨x.now,kG (uT d x).saved x.saved 0,x.kept⟩).sat G w1;rw[Uh];exact hG) wW (hle q (by simp))
  try dsimp only at key
  rw[Uk hvl qZ] at key
  exact key) ?_
 refine Xy 0 rfl ?_;dsimp only[List.set,Iz]
 have r1:∀H,Rd w [q,⟨w,fun b=>b < w.heap.size∧¬F b⟩] H g1 0 (.pointer (some ⟨L.f,0,none⟩)):=fun H=>Rd.ro (by simp:q∈_) (z1 _ s1.1) (by rw[s1.2.cell];rfl)
 have r1:=r1 [HP.aE L.gs 37 (mI (uT d x).saved),HP.aE L.gn 37 (mI x.now),HP.aE L.f 264 [.slice L.A d.aS.length L.c,.slice (some ⟨L.gn,0,none⟩) d.aS.length d.aS.length,.slice (some ⟨L.gs,0,none⟩) d.aS.length d.aS.length,.bool x.kept],HP.many [bU,bU,bU,HP.bR (rL d L.A) (rL.le (d:=d) (A:=L.A))]]
 refine aA ?_;refine Yb (x:=uT d x) 0 rfl ?_;exact fA 0 hF
theorem aL2(L:FL)(d:cH)(x:dW)(i:Nat)(v:Int)(qH:x.now.length=d.aS.length)(hv:x.now[i]? =some v)(w:World)(hR:Ce w L d x):
  Cz 191 #[.pointer (some ⟨L.f,0,none⟩),iv (i:Int)] w (Rt (.tuple #[.int .u32 v,iv 0]) w):=by
 have hlt:i < d.aS.length:=by have:=(List.getElem?_eq_some_iff.1 hv).1;omega
 have k1:=hR.r0.at_ (j:=1) rfl
 have kv:=hR.now.at_ (aBE hv)
 rw[Nat.zero_add] at kv;refine aO func191 ntmps191 ?_;refine aA ?_;refine bX (t:=8) rfl (fun h=>absurd h (by omega)) (fun _=>?_);refine aA ?_;refine aQ (fun w1 t=>Tu L d x w1 (hR.below (t.below (by simp)))) ?_;refine aA ?_;refine aG rfl (fun h=>absurd h (by omega)) (fun _=>?_);refine aB ?_;exact fT rfl rfl rfl fun w1 t=>⟨rfl,t.below (by simp)⟩
theorem aLz(L:FL)(d:cH)(x:dW)(i:Nat)(v:Int)(qH:x.now.length=d.aS.length)(hlt:i < d.aS.length)(w:World)(F:Nat→Prop)(hp:(gT L d x).sat F w)(hF:∀b,F b→b < w.heap.size):
  Cz 192 #[.pointer (some ⟨L.f,0,none⟩),iv (i:Int),.int .u32 v] w (Wr (iv 0) (gT L d ⟨x.now.set i v,x.saved,x.kept⟩) w F):=by
 refine cS func192 ntmps192 hp hF ?_;refine aA ?_;refine bX (t:=9) rfl (fun h=>absurd h (by omega)) (fun _=>?_);refine aA ?_;refine aQ (fun w1 t=>Tu L d x w1 (t.aDl 0 rfl)) ?_;refine aA ?_;refine aG rfl (fun h=>absurd h (by omega)) (fun _=>?_);refine Xy 0 rfl ?_;dsimp only[List.set,Iz]
 have Pf:=Zf x.now
 refine aB ?_;rw[aBD];refine aA ?_;refine Yb (x:=⟨x.now.set i v,x.saved,x.kept⟩) 0 rfl ?_;exact bO 0 hF
end
section
def aIM(n:Nat)(xs:List Value)(v:Value)(hs:List HP)(_:Piece):Prop:=∃A c,v=.slice A n c∧hs=[HP.own 86 6 (.slice A n c) n xs]
theorem aMd(A:Option Addr)(n c:Nat)(xs:List Value)(w:World)(hs:aH (all w) 6 A n xs)(h1:∀u∈xs,u.oneCell'=true)(hn:n≤1000000):
  Cz 161 #[.slice A n c] w (fun y w'=>(∃v hs q,y=.returned v∧q.w=w'∧aIM n xs v hs q∧fV w hs q)∧Below w.heap.size w w'):=by
 refine aO func161 ntmps161 ?_;refine aA ?_;refine lI 86 6 ?_;refine gZ 0 6 64 n (n':=n) (v:=sn) (el:=86) (by kernel_rfl) (by kernel_rfl) (by decide) rfl rfl rfl (rY (by simp) hs) h1 (by omega) (by omega) (by omega) (by decide) fun A' k'=>?_;dsimp only[List.set,List.nil_append];refine aA ?_;refine dB [] [] [0] (by simp) rfl (by decide) (by decide) fun q _ _ hfr=>?_;exact aP (h:=fun w1 st=>⟨_,_,⟨w1,q.Z⟩,rfl,rfl,⟨_,_,rfl,rfl⟩,st.newR (by simp) (by simp) (hfr (by simp) (by simp))⟩)
def aIK(n:Nat)(xs:List Value)(v:Value)(hs:List HP)(_:Piece):Prop:=∃A c,v=.slice A n c∧hs=[HP.own 88 3 (.slice A n c) n xs]
theorem aMb(A:Option Addr)(n c:Nat)(xs:List Value)(w:World)(hs:aH (all w) 3 A n xs)(h1:∀u∈xs,u.oneCell'=true)(hn:n≤1000000):
  Cz 162 #[.slice A n c] w (fun y w'=>(∃v hs q,y=.returned v∧q.w=w'∧aIK n xs v hs q∧fV w hs q)∧Below w.heap.size w w'):=by
 refine aO func162 ntmps162 ?_;refine aA ?_;refine lI 88 3 ?_;refine gZ 0 3 24 n (n':=n) (v:=sn) (el:=88) (by kernel_rfl) (by kernel_rfl) (by decide) rfl rfl rfl (rY (by simp) hs) h1 (by omega) (by omega) (by omega) (by decide) fun A' k'=>?_;dsimp only[List.set,List.nil_append];refine aA ?_;refine dB [] [] [0] (by simp) rfl (by decide) (by decide) fun q _ _ hfr=>?_;exact aP (h:=fun w1 st=>⟨_,_,⟨w1,q.Z⟩,rfl,rfl,⟨_,_,rfl,rfl⟩,st.newR (by simp) (by simp) (hfr (by simp) (by simp))⟩)
def aII(n:Nat)(xs:List Value)(v:Value)(hs:List HP)(_:Piece):Prop:=∃A c,v=.slice A n c∧hs=[HP.own 90 1 (.slice A n c) n xs]
theorem aLZ(A:Option Addr)(n c:Nat)(xs:List Value)(w:World)(hs:aH (all w) 1 A n xs)(h1:∀u∈xs,u.oneCell'=true)(hn:n≤1000000):
  Cz 163 #[.slice A n c] w (fun y w'=>(∃v hs q,y=.returned v∧q.w=w'∧aII n xs v hs q∧fV w hs q)∧Below w.heap.size w w'):=by
 refine aO func163 ntmps163 ?_;refine aA ?_;refine lI 90 1 ?_;refine gZ 0 1 8 n (n':=n) (v:=sn) (el:=90) (by kernel_rfl) (by kernel_rfl) (by decide) rfl rfl rfl (rY (by simp) hs) h1 (by omega) (by omega) (by omega) (by decide) fun A' k'=>?_;dsimp only[List.set,List.nil_append];refine aA ?_;refine dB [] [] [0] (by simp) rfl (by decide) (by decide) fun q _ _ hfr=>?_;exact aP (h:=fun w1 st=>⟨_,_,⟨w1,q.Z⟩,rfl,rfl,⟨_,_,rfl,rfl⟩,st.newR (by simp) (by simp) (hfr (by simp) (by simp))⟩)
def aIL(n:Nat)(xs:List Value)(v:Value)(hs:List HP)(_:Piece):Prop:=∃A c,v=.slice A n c∧hs=[HP.own 93 6 (.slice A n c) n xs]
theorem aMc(A:Option Addr)(n c:Nat)(xs:List Value)(w:World)(hs:aH (all w) 6 A n xs)(h1:∀u∈xs,u.oneCell'=true)(hn:n≤1000000):
  Cz 164 #[.slice A n c] w (fun y w'=>(∃v hs q,y=.returned v∧q.w=w'∧aIL n xs v hs q∧fV w hs q)∧Below w.heap.size w w'):=by
 refine aO func164 ntmps164 ?_;refine aA ?_;refine lI 93 6 ?_;refine gZ 0 6 80 n (n':=n) (v:=sn) (el:=93) (by kernel_rfl) (by kernel_rfl) (by decide) rfl rfl rfl (rY (by simp) hs) h1 (by omega) (by omega) (by omega) (by decide) fun A' k'=>?_;dsimp only[List.set,List.nil_append];refine aA ?_;refine dB [] [] [0] (by simp) rfl (by decide) (by decide) fun q _ _ hfr=>?_;exact aP (h:=fun w1 st=>⟨_,_,⟨w1,q.Z⟩,rfl,rfl,⟨_,_,rfl,rfl⟩,st.newR (by simp) (by simp) (hfr (by simp) (by simp))⟩)
def aEm(n:Nat)(xs:List Value)(v:Value)(hs:List HP)(_:Piece):Prop:=∃A c,v=.slice A n c∧hs=[HP.own 3 1 (.slice A n c) n xs]
theorem aFH(A:Option Addr)(n c:Nat)(xs:List Value)(w:World)(hs:aH (all w) 1 A n xs)(h1:∀u∈xs,u.oneCell'=true)(hn:n≤1000000):
  Cz 121 #[.slice A n c] w (fun y w'=>(∃v hs q,y=.returned v∧q.w=w'∧aEm n xs v hs q∧fV w hs q)∧Below w.heap.size w w'):=by
 refine aO func121 ntmps121 ?_;refine aA ?_;refine lI 3 1 ?_;refine gZ 0 1 8 n (n':=n) (v:=sn) (el:=3) (by kernel_rfl) (by kernel_rfl) (by decide) rfl rfl rfl (rY (by simp) hs) h1 (by omega) (by omega) (by omega) (by decide) fun A' k'=>?_;dsimp only[List.set,List.nil_append];refine aA ?_;refine dB [] [] [0] (by simp) rfl (by decide) (by decide) fun q _ _ hfr=>?_;exact aP (h:=fun w1 st=>⟨_,_,⟨w1,q.Z⟩,rfl,rfl,⟨_,_,rfl,rfl⟩,st.newR (by simp) (by simp) (hfr (by simp) (by simp))⟩)
def aIJ(n:Nat)(xs:List Value)(v:Value)(hs:List HP)(_:Piece):Prop:=∃A c,v=.slice A n c∧hs=[HP.own 95 2 (.slice A n c) n xs]
theorem aMa(A:Option Addr)(n c:Nat)(xs:List Value)(w:World)(hs:aH (all w) 2 A n xs)(h1:∀u∈xs,u.oneCell'=true)(hn:n≤1000000):
  Cz 165 #[.slice A n c] w (fun y w'=>(∃v hs q,y=.returned v∧q.w=w'∧aIJ n xs v hs q∧fV w hs q)∧Below w.heap.size w w'):=by
 refine aO func165 ntmps165 ?_;refine aA ?_;refine lI 95 2 ?_;refine gZ 0 2 8 n (n':=n) (v:=sn) (el:=95) (by kernel_rfl) (by kernel_rfl) (by decide) rfl rfl rfl (rY (by simp) hs) h1 (by omega) (by omega) (by omega) (by decide) fun A' k'=>?_;dsimp only[List.set,List.nil_append];refine aA ?_;refine dB [] [] [0] (by simp) rfl (by decide) (by decide) fun q _ _ hfr=>?_;exact aP (h:=fun w1 st=>⟨_,_,⟨w1,q.Z⟩,rfl,rfl,⟨_,_,rfl,rfl⟩,st.newR (by simp) (by simp) (hfr (by simp) (by simp))⟩)
end
section
structure Jv(p:Piece)(s:aC)(A1:Option Addr)(n1:Nat)(A2:Option Addr)(n2:Nat)(A3:Option Addr)(n3:Nat)(A4:Option Addr)(n4:Nat):Prop where
 uG:jW (fI p) (qS (fI p)) 86 6 A1 n1 s.aF
 dom:jW (fI p) tH 88 3 A2 n2 s.domains
 zW:jW (fI p) xO 90 1 A3 n3 s.aY
 dev:jW (fI p) (pX (fI p)) 93 6 A4 n4 s.aD
section
variable{p q:Piece}{w:World}{s:aC}{A1 A2 A3 A4:Option Addr}{n1 n2 n3 n4:Nat}
theorem Jv.le(h:Jv p s A1 n1 A2 n2 A3 n3 A4 n4)(hl:p.Le q):Jv q s A1 n1 A2 n2 A3 n3 A4 n4:=
 ⟨h.uG.mono (kF hl) (fun _ _=>qS.mono (kF hl)),h.dom.mono (kF hl) (fun _ _ h=>h),h.zW.mono (kF hl) (fun _ _ h=>h),h.dev.mono (kF hl) (fun _ _=>pX.mono (kF hl))⟩
theorem Jv.W(h:Jv p s A1 n1 A2 n2 A3 n3 A4 n4)(hl:p.Le (all w))(hs:s.small):iE w s A1 n1 A2 n2 A3 n3 A4 n4:=⟨(h.le hl).uG,(h.le hl).dom,(h.le hl).zW,(h.le hl).dev,hs⟩
theorem Jv.len(h:Jv p s A1 n1 A2 n2 A3 n3 A4 n4):n1=s.aF.length∧n2=s.domains.length∧n3=s.aY.length∧n4=s.aD.length:=by
 obtain⟨⟨_,_,h1,_⟩,⟨_,_,h2,_⟩,⟨_,_,h3,_⟩,⟨_,_,h4,_⟩⟩:=h;exact⟨h1,h2,h3,h4⟩
theorem uL.Q{cs:Array Value}(h:uL (fI p) s cs):∃A1 n1 k1 A2 n2 k2 A3 n3 k3 A4 n4 k4,cs=#[.slice A1 n1 k1,.slice A2 n2 k2,.slice A3 n3 k3,.slice A4 n4 k4]∧Jv p s A1 n1 A2 n2 A3 n3 A4 n4:=by
 obtain⟨A1,n1,k1,A2,n2,k2,A3,n3,k3,A4,n4,k4,h0,h1,h2,h3,h4⟩:=h;exact⟨A1,n1,k1,A2,n2,k2,A3,n3,k3,A4,n4,k4,h0,h1,h2,h3,h4⟩
end
theorem aSs{α:Type}{p:Piece}{R:α→List Value→Prop}{t:TypeId}{sz n:Nat}{A:Option Addr}{es:List α}(h:jW (fI p) R t sz A n es){k:Nat}{e:α}(hk:es[k]? =some e):
  ∃b off r,A=some ⟨b,off,none⟩∧p.Z b∧r.length=sz∧R e r∧∀f u,r[f]? =some u→p.w.cell? ⟨b,off+k*sz+f,none⟩=some u:=by
 obtain⟨rows,h1,h2,h3⟩:=h
 have hlt:k < n:=by
  rw[h2];rcases Nat.lt_or_ge k es.length with h | h
  ·exact h
  ·rw[List.getElem?_eq_none h] at hk;cases hk
 obtain⟨b,off,hA,hb,hc⟩:=aH.at_ h3 hlt;obtain⟨r,h4,h5,h6⟩:=h1.get hk;refine⟨b,off,r,hA,hb,h4,h5,fun f u hu=>hc f u ?_⟩
 have hf:f < sz:=by
  rw[←h4];rcases Nat.lt_or_ge f r.length with h | h
  ·exact h
  ·rw[List.getElem?_eq_none h] at hu;cases hu
 rw[h6 f hf,hu]
end
section
theorem nM{N:cE}{w0:World}{e:Env}{R:List Piece}{H:List HP}{K:Act→World→Prop}{p:HP}(hp:∀w,p.sat (fun _=>False) w)(h:XK N w0 K e R (p::H)):XK N w0 K e R H:=fun a w hr st=>
 h a w hr (st.new (w':=w) (Below.refl _ _) (by
  rw[show(fresh w w).Z=fun _=>False from by funext b;simp only[fresh,eq_iff_iff,iff_false];omega]
  exact hp w))
abbrev AC:=Option Addr×Nat
def yU(c:eU)(a:AC):List Value:=[.int .u8 c.kind,.slice a.1 c.src.length a.2,.int .u64 c.rate,iv c.mul,iv c.div,iv c.lock]
def yT(d:cH)(p:AC×AC):List Value:=[iv d.clock,iv d.domain,iv d.reset,.int .u32 d.iJ,.slice p.1.1 d.aS.length p.1.2,.slice p.2.1 d.iX.length p.2.2]
def Ra(s:aC)(fa:List AC):List (List Value):=List.zipWith yU s.aF fa
def Qv(s:aC)(da:List (AC×AC)):List (List Value):=List.zipWith yT s.aD da
section
variable{α β:Type}{f:α→β→List Value}{sz:Nat}
theorem Yr{es:List α}{bs:List β}(hl:bs.length=es.length)(hf:∀e a,(f e a).length=sz):(List.zipWith f es bs).length=es.length∧∀r∈List.zipWith f es bs,r.length=sz:=by
 refine⟨by simp;omega,fun r hr=>?_⟩;obtain⟨j,hj⟩:=List.getElem?_of_mem hr;rw[List.getElem?_zipWith] at hj;split at hj<;>cases hj
 exact hf _ _
theorem Sm{es:List α}{bs:List β}{i:Nat}{e:α}{a:β}(he:es[i]? =some e)(ha:bs[i]? =some a):(List.zipWith f es bs)[i]? =some (f e a):=by rw[List.getElem?_zipWith,he,ha]
theorem aE0{es:List α}{bs:List β}{i:Nat}{e:α}{a:β}(he:es[i]? =some e)(hi:i < bs.length):(List.zipWith f es bs).set i (f e a)=List.zipWith f es (bs.set i a):=by
 refine List.ext_getElem? fun j=>?_;rw[List.getElem?_set]
 by_cases hj:i=j
 ·subst hj
  have h1:=(List.getElem?_eq_some_iff.1 he).1
  rw[if_pos rfl,Sm he (List.getElem?_set_self hi),if_pos (by simp;omega)]
 ·rw[if_neg hj,List.getElem?_zipWith,List.getElem?_zipWith,List.getElem?_set_ne hj]
theorem aE1{es:List α}{bs:List β}(hf:∀e a,∀u∈f e a,u.oneCell'=true):∀u∈(List.zipWith f es bs).flatten,u.oneCell'=true:=fun u hu=>by
 obtain⟨r,hr,hu⟩:=List.mem_flatten.1 hu;obtain⟨j,hj⟩:=List.getElem?_of_mem hr;rw[List.getElem?_zipWith] at hj;split at hj<;>cases hj
 exact hf _ _ u hu
end
theorem aQv(c:eU)(a:AC):∀u∈yU c a,u.oneCell'=true:=by simp[yU,Value.oneCell']
theorem aPP(d:cH)(p:AC×AC):∀u∈yT d p,u.oneCell'=true:=by simp[yT,Value.oneCell']
theorem aD1{S:tC}:∀{cl:List eU} {rs:List (List Value)},Rows (qS S) 6 cl rs→∃fa:List AC,fa.length=cl.length∧rs=List.zipWith yU cl fa∧∀(i:Nat) (c:eU) (a:AC),cl[i]? =some c→fa[i]? =some a→S 3 1 a.1 c.src.length (aN c.src)
 | [],[],_=>⟨[],rfl,rfl,fun i c a h=>by simp at h⟩
 | e::es,r::rs,h=>by
  obtain⟨_,⟨A,n,k,hr,hn,hS⟩,h3⟩:=h;obtain⟨fa,h4,h5,h6⟩:=aD1 h3;subst hn;refine⟨(A,k)::fa,by simp[h4],by rw[hr,h5];rfl,fun i c a hc ha=>?_⟩;cases i with
  | zero=>simp at hc ha;subst hc;subst ha;exact hS
  | succ i=>exact h6 i c a (by simpa using hc) (by simpa using ha)
theorem aFx{S:tC}:∀{cl:List eU} {fa:List AC},fa.length=cl.length→(∀(i:Nat) (c:eU) (a:AC),cl[i]? =some c→fa[i]? =some a→S 3 1 a.1 c.src.length (aN c.src))→Rows (qS S) 6 cl (List.zipWith yU cl fa)
 | [],[],_,_=>trivial
 | c::cl,a::fa,hl,h=>⟨rfl,⟨a.1,_,a.2,rfl,rfl,h 0 c a rfl rfl⟩,aFx (by simpa using hl) fun i c' a' hc ha=>h (i+1) c' a' (by simpa using hc) (by simpa using ha)⟩
theorem aDu{S:tC}:∀{cl:List cH} {rs:List (List Value)},Rows (pX S) 6 cl rs→∃da:List (AC×AC),da.length=cl.length∧rs=List.zipWith yT cl da∧∀(i:Nat) (d:cH) (p:AC×AC),cl[i]? =some d→da[i]? =some p→S 95 2 p.1.1 d.aS.length (d.aS.flatMap Rg.cells)∧S 3 1 p.2.1 d.iX.length (aN d.iX)
 | [],[],_=>⟨[],rfl,rfl,fun i c a h=>by simp at h⟩
 | e::es,r::rs,h=>by
  obtain⟨_,⟨A,n,k,A',n',k',hr,hn,hn',hS,hS'⟩,h3⟩:=h;obtain⟨da,h4,h5,h6⟩:=aDu h3;subst hn;subst hn';refine⟨((A,k),(A',k'))::da,by simp[h4],by rw[hr,h5];rfl,fun i d p hc ha=>?_⟩;cases i with
  | zero=>simp at hc ha;subst hc;subst ha;exact⟨hS,hS'⟩
  | succ i=>exact h6 i d p (by simpa using hc) (by simpa using ha)
theorem aFw{S:tC}:∀{cl:List cH} {da:List (AC×AC)},da.length=cl.length→(∀(i:Nat) (d:cH) (p:AC×AC),cl[i]? =some d→da[i]? =some p→S 95 2 p.1.1 d.aS.length (d.aS.flatMap Rg.cells)∧S 3 1 p.2.1 d.iX.length (aN d.iX))→Rows (pX S) 6 cl (List.zipWith yT cl da)
 | [],[],_,_=>trivial
 | c::cl,a::da,hl,h=>⟨rfl,⟨a.1.1,_,a.1.2,a.2.1,_,a.2.2,rfl,rfl,rfl,(h 0 c a rfl rfl).1,(h 0 c a rfl rfl).2⟩,aFw (by simpa using hl) fun i c' a' hc ha=>h (i+1) c' a' (by simpa using hc) (by simpa using ha)⟩
theorem aP0{es:List Dom}{rs:List (List Value)}(h:Rows tH 3 es rs):∀u∈rs.flatten,u.oneCell'=true:=fun u hu=>by
 obtain⟨r,hr,hu⟩:=List.mem_flatten.1 hu;obtain⟨j,hj⟩:=List.getElem?_of_mem hr;obtain⟨e,_,_,hR⟩:=h.at_ hj;unfold tH at hR;subst hR;simp only[List.mem_cons,List.not_mem_nil,or_false] at hu;rcases hu with rfl | rfl | rfl<;>rfl
theorem aKT{es:List Int}{rs:List (List Value)}(h:Rows xO 1 es rs):∀u∈rs.flatten,u.oneCell'=true:=fun u hu=>by
 obtain⟨r,hr,hu⟩:=List.mem_flatten.1 hu;obtain⟨j,hj⟩:=List.getElem?_of_mem hr;obtain⟨e,_,_,hR⟩:=h.at_ hj;unfold xO at hR;subst hR;simp only[List.mem_cons,List.not_mem_nil,or_false] at hu;subst hu;rfl
def xU(s:aC)(fa:List AC)(i:Nat)(p:Piece):Prop:=∀(j:Nat) (c:eU) (a:AC),j < i→s.aF[j]? =some c→fa[j]? =some a→aH p 1 a.1 c.src.length (aN c.src)
theorem xU.le{s:aC}{fa:List AC}{i:Nat}(p q:Piece)(hl:p.Le q)(h:xU s fa i p):xU s fa i q:=fun j c a hj hc ha=>(h j c a hj hc ha).le hl
def Cf(s:aC)(da:List (AC×AC))(i:Nat)(p:Piece):Prop:=∀(j:Nat) (d:cH) (a:AC×AC),j < i→s.aD[j]? =some d→da[j]? =some a→aH p 2 a.1.1 d.aS.length (d.aS.flatMap Rg.cells)∧aH p 1 a.2.1 d.iX.length (aN d.iX)
theorem Cf.le{s:aC}{da:List (AC×AC)}{i:Nat}(p q:Piece)(hl:p.Le q)(h:Cf s da i p):Cf s da i q:=fun j c a hj hc ha=>⟨(h j c a hj hc ha).1.le hl,(h j c a hj hc ha).2.le hl⟩
end
section
theorem Og{l:List Rg}:∀u∈l.flatMap Rg.cells,u.oneCell'=true:=fun u hu=>by
 obtain⟨r,_,hu⟩:=List.mem_flatMap.1 hu;simp only[Rg.cells,List.mem_cons,List.not_mem_nil,or_false] at hu;rcases hu with rfl | rfl<;>rfl
def aBy(s:aC)(v:Value)(w w':World):Prop:=∃cs,v=.agg cs∧uL (fI (fresh w w')) s cs
theorem aDz(s:aC)(A1 A2 A3 A4:Option Addr)(n1 k1 n2 k2 n3 k3 n4 k4:Nat)(w:World)(hW:iE w s A1 n1 A2 n2 A3 n3 A4 n4)(Uw:∀d∈s.aD,d.aS.length≤1000000):
  Cz 106 #[.agg #[.slice A1 n1 k1,.slice A2 n2 k2,.slice A3 n3 k3,.slice A4 n4 k4]] w (fun y w'=>(∃v,y=.returned v∧aBy s v w w')∧Below w.heap.size w w'):=by
 obtain⟨rc,hrc,qG,hsc⟩:=hW.uG;obtain⟨rd,hrd,hn2,Pm⟩:=hW.dom;obtain⟨rr,cQ,sL,hst⟩:=hW.zW;obtain⟨rv,Pn,tZ,tW⟩:=hW.dev;obtain⟨Ja,aNH,rfl,aNI⟩:=aD1 hrc;obtain⟨Gl,aNM,rfl,aNN⟩:=aDu Pn;obtain⟨sm1,sm2,sm3,sm4,sm5,sm6⟩:=hW.small;subst qG;subst hn2;subst sL;subst tZ
 have ho1:=aE1 (es:=s.aF) (bs:=Ja) aQv
 have ho4:=aE1 (es:=s.aD) (bs:=Gl) aPP
 refine aO func106 ntmps106 ?_;refine eA ?_;refine fU ?_;refine bN fun g1=>?_;refine bY fun g2=>?_;refine fB ?_;refine Ru (fun e R H=>∃C j1 D j2 E j3 V j4 g3,e=[(3,pt g3),(2,pt g2)]∧R=[all w]∧H=[HP.own 86 6 (.slice C s.aF.length j1) s.aF.length (Ra s Ja).flatten,HP.own 93 6 (.slice V s.aD.length j4) s.aD.length (Qv s Gl).flatten,HP.own 88 3 (.slice D s.domains.length j2) s.domains.length rd.flatten,HP.own 90 1 (.slice E s.aY.length j3) s.aY.length rr.flatten,HP.aE g3 30 [.slice C s.aF.length j1,.slice D s.domains.length j2,.slice E s.aY.length j3,.slice V s.aD.length j4],HP.aE g2 30 [sn,sn,sn,sn]]) ?_ ?_
 ·refine qM 14 (by kernel_rfl) (by kernel_rfl) ?_;refine bP 0 ?_;refine bP 1 ?_;refine bP 3 ?_;refine bP 4 ?_;refine bP 6 ?_;refine bP 7 ?_;refine bP 9 ?_;refine bP 10 ?_;refine aI2 (j:=13) 3 30 [sn,sn,sn,sn] fun M=>?_;refine Rz 2 13 rfl rfl (gY (by kernel_rfl)) (by decide) (by kernel_rfl) (by kernel_rfl) (fun _ h=>h) (fun M=>?_);refine Sr (f:=161) (fi:=[]) (ca:=[]) (by kernel_rfl) (Qj M rfl rfl) (Qi M rfl rfl) (by decide) (aIM s.aF.length (Ra s Ja).flatten) (fun w1 st=>aMd A1 _ k1 _ w1 (hsc.le (st.le (by simp))) ho1 sm1) ?_;rintro _ _ q1 ⟨C,j1,rfl,rfl⟩ _;dsimp only[List.cons_append,List.nil_append];refine aBc ?_;refine gX ?_;refine gQ ?_;refine Yd (by decide) rfl (fun _ h=>h.bB.tail) ?_;refine Rz 5 13 rfl rfl (gY (by kernel_rfl)) (by decide) (by kernel_rfl) (by kernel_rfl) (fun _ h=>h.bB.tail) (fun M=>?_);refine Sr (f:=162) (fi:=[]) (ca:=[]) (by kernel_rfl) (Qj M rfl rfl) (Qi M rfl rfl) (by decide) (aIK s.domains.length rd.flatten) (fun w1 st=>aMb A2 _ k2 _ w1 (Pm.le (st.le (by simp))) (aP0 hrd) sm2) ?_;rintro _ _ q2 ⟨D,j2,rfl,rfl⟩ _;dsimp only[List.cons_append,List.nil_append];refine aBc ?_;refine gX ?_;refine gQ ?_;refine Yd (by decide) rfl (fun _ h=>h.bB.tail.bB.tail) ?_;refine Rz 8 13 rfl rfl (gY (by kernel_rfl)) (by decide) (by kernel_rfl) (by kernel_rfl) (fun _ h=>h.bB.tail.bB.tail) (fun M=>?_);refine Sr (f:=163) (fi:=[]) (ca:=[]) (by kernel_rfl) (Qj M rfl rfl) (Qi M rfl rfl) (by decide) (aII s.aY.length rr.flatten) (fun w1 st=>aLZ A3 _ k3 _ w1 (hst.le (st.le (by simp))) (aKT cQ) sm3) ?_;rintro _ _ q3 ⟨E,j3,rfl,rfl⟩ _;dsimp only[List.cons_append,List.nil_append];refine aBc ?_;refine gX ?_;refine gQ ?_;refine Yd (by decide) rfl (fun _ h=>h.bB.tail.bB.tail.bB.tail) ?_;refine Rz 11 13 rfl rfl (gY (by kernel_rfl)) (by decide) (by kernel_rfl) (by kernel_rfl) (fun _ h=>h.bB.tail.bB.tail.bB.tail) (fun M=>?_);refine Sr (f:=164) (fi:=[]) (ca:=[]) (by kernel_rfl) (Qj M rfl rfl) (Qi M rfl rfl) (by decide) (aIL s.aD.length (Qv s Gl).flatten) (fun w1 st=>aMc A4 _ k4 _ w1 (tW.le (st.le (by simp))) ho4 sm4) ?_;rintro _ _ q4 ⟨V,j4,rfl,rfl⟩ _;dsimp only[List.cons_append,List.nil_append];refine aBc ?_;refine gX ?_;refine gQ ?_;refine Yd (by decide) rfl (fun _ h=>h.bB.tail.bB.tail.bB.tail.bB.tail) ?_;cases M with
  | none=>
   dsimp only[uD,wU,yI,Dn];refine fG 12 rfl rfl rfl (by decide) (kQ (zs:=[sn,sn,sn,sn]) (L:=[(0,1),(1,1),(2,1),(3,1)]) (gY (by kernel_rfl)) (by kernel_rfl) rfl (by simp[eZ,gD,Value.cells];rfl)) (by kernel_rfl) (fun _ _ _ h=>h) (fun _ h=>h.bB.tail.bB.tail.bB.tail.bB.tail) ?_;refine cJ 13 ?_;refine bY fun g3=>?_;refine gX ?_;refine gQ ?_;refine kL (fun _ h=>h.tail.bB.tail.bB.tail.bB.tail.bB.tail) ?_;refine cJ 14 ?_;refine lP 0 rfl ?_;dsimp only[List.set];refine eS ?_;refine kK ?_;refine eJ ?_;exact aT [4,1,3,2,0,5] rfl (by decide) (by simp) (bM [(3,pt g3),(2,pt g2)] (Xz ⟨C,j1,D,j2,E,j3,V,j4,g3,rfl,rfl,rfl⟩))
  | some g3=>
   dsimp only[uD,wU,yI,Dn];refine fG 12 rfl rfl rfl (by decide) (kQ (zs:=[sn,sn,sn,sn]) (L:=[(0,1),(1,1),(2,1),(3,1)]) (gY (by kernel_rfl)) (by kernel_rfl) rfl (by simp[eZ,gD,Value.cells];rfl)) (by kernel_rfl) (fun _ _ _ h=>h) (fun _ h=>h.tail.bB.tail.bB.tail.bB.tail.bB.tail) ?_;refine cJ 14 ?_;refine lP 0 rfl ?_;dsimp only[List.set];refine eS ?_;refine kK ?_;refine eJ ?_;exact aT [4,1,3,2,0,5] rfl (by decide) (by simp) (bM [(3,pt g3),(2,pt g2)] (Xz ⟨C,j1,D,j2,E,j3,V,j4,g3,rfl,rfl,rfl⟩))
 rintro _ _ _ ⟨C,j1,D,j2,E,j3,V,j4,g3,rfl,rfl,rfl⟩;refine nM (p:=HP.bR (xU s Ja 0) (xU.le (s:=s) (fa:=Ja) (i:=0))) (fun w1 j c a hj=>absurd hj (by omega)) ?_;refine aA ?_;refine bM [(23,iv 0),(22,iv s.aF.length),(3,pt g3),(2,pt g2)] ?_;refine eT (fun m e R H=>∃(i:Nat) (fa:List AC),i≤s.aF.length∧fa.length=s.aF.length∧(∀j,i≤j→fa[j]? =Ja[j]?)∧m=s.aF.length - i∧e=[(23,iv i),(22,iv s.aF.length),(3,pt g3),(2,pt g2)]∧R=[all w]∧H=[HP.bR (xU s fa i) (xU.le (s:=s) (fa:=fa) (i:=i)),HP.own 86 6 (.slice C s.aF.length j1) s.aF.length (Ra s fa).flatten,HP.own 93 6 (.slice V s.aD.length j4) s.aD.length (Qv s Gl).flatten,HP.own 88 3 (.slice D s.domains.length j2) s.domains.length rd.flatten,HP.own 90 1 (.slice E s.aY.length j3) s.aY.length rr.flatten,HP.aE g3 30 [.slice C s.aF.length j1,.slice D s.domains.length j2,.slice E s.aY.length j3,.slice V s.aD.length j4],HP.aE g2 30 [sn,sn,sn,sn]]) s.aF.length ⟨0,Ja,by omega,aNH,fun _ _=>rfl,rfl,rfl,rfl,rfl⟩ fun m e R H hI=>?_;obtain⟨i,fa,hi,hfl,hsame,rfl,rfl,rfl,rfl⟩:=hI;refine aA ?_;refine aG rfl (fun hlt=>?_) (fun hge=>?_)
 ·have hlt:i < s.aF.length:=by omega
  obtain⟨c,hc⟩:=get_some hlt;obtain⟨a,ha⟩:=get_some (l:=fa) (i:=i) (by omega)
  have ha0:Ja[i]? =some a:=by rw[←hsame i (Nat.le_refl _)];exact ha
  have aNG:=aNI i c a hc ha0
  have hcs:=sm5 c (List.mem_of_getElem? hc)
  refine aT [1,0,2,3,4,5,6] rfl (by decide) (fun _ h=>h) ?_;refine aBe 0 rfl (by omega) fun gC hC=>?_;subst hC;refine Ec 0 rfl fun cs h1 h2 h3 h4=>?_;dsimp only[List.set];obtain⟨fN,gN⟩:=Yr (f:=yU) (es:=s.aF) (bs:=fa) (sz:=6) hfl (fun _ _=>rfl)
  have hs:=Bj h2 fN gN (Sm hc ha)
  refine aA ?_;refine qM 10 (by kernel_rfl) (by kernel_rfl) ?_;refine bP 0 ?_;refine bP 1 ?_;refine bP 2 ?_;refine bP 3 ?_;refine bP 4 ?_;refine bP 5 ?_;refine bP 6 ?_ (cK:=dat (sz:=6) i (i*6));refine bP 7 ?_;refine bP 8 ?_;refine cJ 9 ?_;refine dS (aEm c.src.length (aN c.src)) (fun w1 st=>aFH a.1 _ a.2 _ w1 (aH.le aNG (st.le (by simp))) (Pd _) hcs) ?_;rintro _ _ q ⟨Af,kf,rfl,rfl⟩ _;dsimp only[List.cons_append,List.nil_append];refine mT ?_;refine cJ 10 ?_;refine kd (dat i (i*6)) ?_;refine eS ?_;refine cJ 11 ?_;refine bE ?_;refine eS ?_;refine cJ 12 ?_;refine eO rfl rfl ?_;dsimp only[List.set];refine eS ?_;refine kK ?_
  have hs1:=hs.set 1 (.slice Af c.src.length kf) (by simp[yU]) (by omega)
  have tU:=(rJ.refl cs (i*6) 6).set 1 (.slice Af c.src.length kf) (by decide)
  have hf:=yQ (r':=yU c (Af,kf)) h2 fN gN hlt (by omega) rfl hs1 tU
  rw[show(Ra s fa).set i (yU c (Af,kf))=Ra s (fa.set i (Af,kf)) from aE0 hc (by omega)] at hf;refine By 1 (n:=s.aF.length) (c:=j1) (sz:=6) rfl (by simpa using h1) hf h3 h4 ?_;dsimp only[List.set];refine xM 0 (Φ:=fun p=>aH p 1 Af c.src.length (aN c.src)) (hm:=fun p q hl h=>aH.le h hl) rfl (fun p h=>h) ?_;dsimp only[List.set];refine aT [0,2,1,3,4,5,6,7] rfl (by decide) (fun _ h=>h) ?_
  refine Jr (X:=xU s (fa.set i (Af,kf)) (i+1)) (h3:=xU.le) (fun p h1 h2 j c' a' hj Mc Bg=>by
   rcases Nat.lt_or_ge j i with h | h
   ·rw[List.getElem?_set_ne (by omega)] at Bg;exact h2 j c' a' h Mc Bg
   ·obtain rfl:j=i:=by omega
    rw[hc] at Mc;cases Mc;rw[List.getElem?_set_self (by omega)] at Bg;cases Bg
    exact h1) ?_
  refine aA ?_;refine bM [(23,iv (i+1:Nat)),(22,iv s.aF.length),(3,pt g3),(2,pt g2)] ?_;refine nU (R':=[all w]) (by simp) ?_;exact gR (s.aF.length - (i+1)) (by omega) ⟨i+1,fa.set i (Af,kf),hlt,by simpa using hfl,fun j hj=>by rw[List.getElem?_set_ne (by omega)];exact hsame j (by omega),rfl,rfl,rfl,rfl⟩
 ·obtain rfl:i=s.aF.length:=by omega
  refine nM (p:=HP.bR (Cf s Gl 0) (Cf.le (s:=s) (da:=Gl) (i:=0))) (fun w1 j d a hj=>absurd hj (by omega)) ?_;refine aA ?_;refine bM [(42,iv 0),(41,iv s.aD.length),(3,pt g3),(2,pt g2)] ?_;refine eT (fun m e R H=>∃(i:Nat) (da:List (AC×AC)),i≤s.aD.length∧da.length=s.aD.length∧(∀j,i≤j→da[j]? =Gl[j]?)∧m=s.aD.length - i∧e=[(42,iv i),(41,iv s.aD.length),(3,pt g3),(2,pt g2)]∧R=[all w]∧H=[HP.bR (Cf s da i) (Cf.le (s:=s) (da:=da) (i:=i)),HP.bR (xU s fa s.aF.length) (xU.le (s:=s) (fa:=fa) (i:=s.aF.length)),HP.own 86 6 (.slice C s.aF.length j1) s.aF.length (Ra s fa).flatten,HP.own 93 6 (.slice V s.aD.length j4) s.aD.length (Qv s da).flatten,HP.own 88 3 (.slice D s.domains.length j2) s.domains.length rd.flatten,HP.own 90 1 (.slice E s.aY.length j3) s.aY.length rr.flatten,HP.aE g3 30 [.slice C s.aF.length j1,.slice D s.domains.length j2,.slice E s.aY.length j3,.slice V s.aD.length j4],HP.aE g2 30 [sn,sn,sn,sn]]) s.aD.length ⟨0,Gl,by omega,aNM,fun _ _=>rfl,rfl,rfl,rfl,rfl⟩ fun m e R H hI=>?_;obtain⟨i,da,hi,lB,aGu,rfl,rfl,rfl,rfl⟩:=hI;refine aA ?_;refine aG rfl (fun hlt=>?_) (fun hge=>?_)
  ·have hlt:i < s.aD.length:=by omega
   obtain⟨d,hd⟩:=get_some hlt;obtain⟨⟨a1,a2⟩,ha⟩:=get_some (l:=da) (i:=i) (by omega)
   have ha0:Gl[i]? =some (a1,a2):=by rw[←aGu i (Nat.le_refl _)];exact ha
   obtain⟨aCF,aG4⟩:=aNN i d _ hd ha0
   have dN:=Uw d (List.mem_of_getElem? hd)
   have fJ:=sm6 d (List.mem_of_getElem? hd)
   refine aT [3,0,1,2,4,5,6,7] rfl (by decide) (fun _ h=>h) ?_;refine aBe 0 rfl (by omega) fun gV hV=>?_;subst hV;refine Ec 0 rfl fun cs h1 h2 h3 h4=>?_;dsimp only[List.set];obtain⟨fN,gN⟩:=Yr (f:=yT) (es:=s.aD) (bs:=da) (sz:=6) lB (fun _ _=>rfl)
   have hs:=Bj h2 fN gN (Sm hd ha)
   refine aA ?_;refine kd (dat i (i*6)) ?_;refine aA ?_;refine iZ [3,4,5,8,9,10] ?_;refine bJ 0 ?_;refine bJ 1 ?_;refine bJ 2 ?_;refine bJ 7 ?_;refine aK 3 ?_;refine aK 4 ?_;refine aK 5 ?_;refine aK 8 ?_;refine aK 9 ?_;refine aK 10 ?_;refine aL 6 ?_;refine dS (aIJ d.aS.length (d.aS.flatMap Rg.cells)) (fun w1 st=>aMa a1.1 _ a1.2 _ w1 (aH.le aCF (st.le (by simp))) Og dN) ?_;rintro _ _ q1 ⟨Ag,kg,rfl,rfl⟩ _;dsimp only[List.cons_append,List.nil_append];refine bA ?_;refine aL 11 ?_;refine dS (aEm d.iX.length (aN d.iX)) (fun w1 st=>aFH a2.1 _ a2.2 _ w1 (aH.le aG4 (st.le (by simp))) (Pd _) fJ) ?_;rintro _ _ q2 ⟨An,kn,rfl,rfl⟩ _;dsimp only[List.cons_append,List.nil_append];refine bA ?_ (hS:=fun _ h=>h.bB.tail.bB.tail);refine aL 12 ?_;refine bE ?_;refine bA ?_ (hS:=fun _ h=>h.bB.tail.bB.tail);refine aL 13 ?_;refine bE ?_;refine bA ?_ (hS:=fun _ h=>h.bB.tail.bB.tail);refine aL 14 ?_;refine eO rfl rfl ?_;dsimp only[List.set];refine cG ?_;refine aL 15 ?_;refine bE ?_;refine cG ?_;refine aL 16 ?_;refine bE ?_;refine cG ?_;refine aL 17 ?_;refine eO rfl rfl ?_;dsimp only[List.set];refine cG ?_;refine dX ?_
   have hs1:=(hs.set 4 (.slice Ag d.aS.length kg) (by simp[yT]) (by omega)).set 5 (.slice An d.iX.length kn) (by simp[yT]) (by simp;omega)
   have tU:=((rJ.refl cs (i*6) 6).set 4 (.slice Ag d.aS.length kg) (by decide)).set 5 (.slice An d.iX.length kn) (by decide)
   have hf:=yQ (r':=yT d ((Ag,kg),(An,kn))) h2 fN gN hlt (by omega) rfl hs1 tU
   rw[show(Qv s da).set i (yT d ((Ag,kg),(An,kn)))=Qv s (da.set i ((Ag,kg),(An,kn))) from aE0 hd (by omega)] at hf;refine By 2 (n:=s.aD.length) (c:=j4) (sz:=6) rfl (by simpa using h1) hf h3 h4 ?_;dsimp only[List.set];refine xM 0 (Φ:=fun p=>aH p 1 An d.iX.length (aN d.iX)) (hm:=fun p q hl h=>aH.le h hl) rfl (fun p h=>h) ?_;refine xM 1 (Φ:=fun p=>aH p 2 Ag d.aS.length (d.aS.flatMap Rg.cells)) (hm:=fun p q hl h=>aH.le h hl) rfl (fun p h=>h) ?_;dsimp only[List.set];refine Jr (X:=fun p=>aH p 1 An d.iX.length (aN d.iX)∧aH p 2 Ag d.aS.length (d.aS.flatMap Rg.cells)) (h3:=fun p q hl h=>⟨aH.le h.1 hl,aH.le h.2 hl⟩) (fun p h1 h2=>⟨h1,h2⟩) ?_;refine aT [0,2,3,4,1,5,6,7,8] rfl (by decide) (fun _ h=>h) ?_
   refine Jr (X:=Cf s (da.set i ((Ag,kg),(An,kn))) (i+1)) (h3:=Cf.le) (fun p h1 h2 j d' a' hj hd' Bg=>by
    rcases Nat.lt_or_ge j i with h | h
    ·rw[List.getElem?_set_ne (by omega)] at Bg;exact h2 j d' a' h hd' Bg
    ·obtain rfl:j=i:=by omega
     rw[hd] at hd';cases hd';rw[List.getElem?_set_self (by omega)] at Bg;cases Bg
     exact⟨h1.2,h1.1⟩) ?_
   refine aA ?_;refine bM [(42,iv (i+1:Nat)),(41,iv s.aD.length),(3,pt g3),(2,pt g2)] ?_;refine nU (R':=[all w]) (by simp) ?_;exact gR (s.aD.length - (i+1)) (by omega) ⟨i+1,da.set i ((Ag,kg),(An,kn)),hlt,by simpa using lB,fun j hj=>by rw[List.getElem?_set_ne (by omega)];exact aGu j (by omega),rfl,rfl,rfl,rfl⟩
  ·obtain rfl:i=s.aD.length:=by omega
   refine aT [6,7,0,1,2,3,4,5] rfl (by decide) (fun _ h=>h) ?_;refine aA ?_;refine dB [] [2,3,4,5,6,7] [1] (by simp) rfl (by decide) (by decide) fun q hq _ hfr=>?_;obtain⟨F0,s0,z0⟩:=hq 2 _ (by simp) rfl;obtain⟨F1,s1,z1⟩:=hq 3 _ (by simp) rfl
   have e0:Cf s da s.aD.length q:=Cf.le ⟨q.w,F0⟩ q (fun b hb=>⟨z0 b hb,rfl⟩) s0
   have e1:xU s fa s.aF.length q:=xU.le ⟨q.w,F1⟩ q (fun b hb=>⟨z1 b hb,rfl⟩) s1
   have e2:=aH.own (hq 4 _ (by simp) rfl)
   have e3:=aH.own (hq 5 _ (by simp) rfl)
   have e4:=aH.own (hq 6 _ (by simp) rfl)
   have e5:=aH.own (hq 7 _ (by simp) rfl)
   have hS:uL (fI q) s #[.slice C s.aF.length j1,.slice D s.domains.length j2,.slice E s.aY.length j3,.slice V s.aD.length j4]:=
    ⟨C,_,j1,D,_,j2,E,_,j3,V,_,j4,rfl,⟨_,aFx hfl (fun i c a hc ha=>e1 i c a (List.getElem?_eq_some_iff.1 hc).1 hc ha),rfl,e2⟩,⟨rd,hrd,rfl,e4⟩,⟨rr,cQ,rfl,e5⟩,⟨_,aFw lB (fun i d p hd hp=>e0 i d p (List.getElem?_eq_some_iff.1 hd).1 hd hp),rfl,e3⟩⟩
   exact Gu (vs:=[.slice C s.aF.length j1,.slice D s.domains.length j2,.slice E s.aY.length j3,.slice V s.aD.length j4]) rfl (by kernel_rfl) rfl rfl (by first | assumption | exact aM.whole 0 rfl | exact aM.whole 1 rfl | exact aM.whole 2 rfl | exact aM.whole 3 rfl | exact aM.whole 4 rfl | exact aM.whole 5 rfl | exact aM.whole 6 rfl | exact aM.whole 7 rfl | exact aM.whole 8 rfl | exact xQ (by simp) (by assumption)) fun w1 t=>⟨⟨_,rfl,_,rfl,hS.mono (kF (t.mQ (by simp) (hfr (by simp) (by simp))))⟩,t.below (by simp)⟩
end
section
section
variable{P:Program}{N:cE}{w0 w:World}{K:Act→World→Prop}{e:Env}{R:List Piece}{H H':List HP}
theorem Xv{p : HP}{ps : List HP}(h : XK N w0 K e R (HP.many (ps ++ [p]) :: H)) : XK N w0 K e R (p :: HP.many ps :: H) := fun a w hr st => by
  obtain⟨Z,F,hz,cQ,hs,cY,eP⟩:=st.ex;obtain⟨G,hG1,hG2,hG3⟩:=hs 1 _ rfl;refine h a w hr ⟨st.os,st.tape,st.output,st.size,Z,fun j=>match j with | 0=>fun b=>F 0 b∨F 1 b | j+1=>F (j+2),hz,cQ,fun j r hj=>?_,fun j b hb=>?_,fun j k b kH hj hk=>?_⟩
  · cases j with
    | zero =>
      simp at hj;subst hj;refine⟨fun i b=>if i < ps.length then G i b else i=ps.length∧F 0 b,fun i r hi=>?_,fun i b hb=>?_,fun i k b hik h1 h2=>?_⟩
      · rcases Nat.lt_or_ge i ps.length with hl | hl
        · rw[List.getElem?_append_left hl] at hi
          show r.sat (fun b=>if i < ps.length then G i b else i=ps.length∧F 0 b) w
          rw[show(fun b=>if i < ps.length then G i b else i=ps.length∧F 0 b)=G i by funext b;rw[if_pos hl]];exact hG1 i r hi
        · rw[List.getElem?_append_right hl] at hi
          have h0:=wV hi
          have hil:i=ps.length:=by simp at h0;omega
          subst hil;simp at hi;subst hi
          show p.sat (fun b=>if ps.length < ps.length then G ps.length b else ps.length=ps.length∧F 0 b) w
          rw[show(fun b=>if ps.length < ps.length then G ps.length b else ps.length=ps.length∧F 0 b)=F 0 by funext b;simp];exact hs 0 _ rfl
      · dsimp only at hb
        split at hb
        · exact .inr (hG2 i b hb)
        · exact .inl hb.2
      · dsimp only at h1 h2
        split at h1<;>split at h2
        · exact hG3 i k b hik h1 h2
        · exact eP 1 0 b (by omega) (hG2 i b h1) h2.2
        · exact eP 0 1 b (by omega) h1.2 (hG2 k b h2)
        · omega
    | succ j=>exact hs (j+2) r (by simpa using hj)
  · cases j with
    | zero=>rcases hb with hb | hb<;>exact cY _ b hb
    | succ j=>exact cY _ b hb
  · cases j with
    | zero => cases k with
      | zero=>exact kH rfl
      | succ k => rcases hj with hj | hj
                  · exact eP 0 (k+2) b (by omega) hj hk
                  · exact eP 1 (k+2) b (by omega) hj hk
    | succ j => cases k with
      | zero => rcases hk with hk | hk
                · exact eP 0 (j+2) b (by omega) hk hj
                · exact eP 1 (j+2) b (by omega) hk hj
      | succ k=>exact eP (j+2) (k+2) b (by omega) hj hk
end
theorem vK{N:cE}{w0:World}{e:Env}{R:List Piece}{H:List HP}{K:Act→World→Prop}{p q r:HP}(h:XK N w0 K e R (HP.many [p,q,r]::H)):XK N w0 K e R (p::q::r::H):=by
 refine mS ?_;refine fun a w hr st=>?_
 refine(Xv (ps:=[p,q]) (p:=r) h) a w hr (st.weak (fun _ h=>h) (fun i=>match i with
  | 0=>1
  | 1=>0
  | i+2=>i+2) (fun i j _ _ he=>by
   match i,j with
   | 0,0=>rfl
   | 0,1=>simp at he
   | 0,j+2=>simp at he
   | 1,0=>simp at he
   | 1,1=>rfl
   | 1,j+2=>simp at he
   | i+2,0=>simp at he
   | i+2,1=>simp at he
   | i+2,j+2=>simpa using he) (fun i p hi=>by
   match i,hi with
   | 0,hi=>simpa using hi
   | 1,hi=>simpa using hi
   | i+2,hi=>simpa using hi))
end
section
theorem aRK{N:cE}{w0:World}{e:Env}{R:List Piece}{H:List HP}{K:Act→World→Prop}{p q r s:HP}(h:XK N w0 K e R (HP.many [p,q,r,s]::H)):XK N w0 K e R (p::q::r::s::H):=by
 refine mS ?_;refine fun a w hr st=>?_
 have swap:∀{x y:HP} {H:List HP} {w:World},St w0 R (x::y::H) w→St w0 R (y::x::H) w:=fun st=>st.weak (fun _ h=>h) (fun i=>match i with
  | 0=>1
  | 1=>0
  | i+2=>i+2) (fun i j _ _ he=>by
   match i,j with
   | 0,0=>rfl
   | 0,1=>simp at he
   | 0,j+2=>simp at he
   | 1,0=>simp at he
   | 1,1=>rfl
   | 1,j+2=>simp at he
   | i+2,0=>simp at he
   | i+2,1=>simp at he
   | i+2,j+2=>simpa using he) (fun i p hi=>by
   match i,hi with
   | 0,hi=>simpa using hi
   | 1,hi=>simpa using hi
   | i+2,hi=>simpa using hi)
 refine(Xv (ps:=[p,q]) (p:=r) (H:=s::H) (fun a w hr st=>?_)) a w hr (swap st);exact(Xv (ps:=[p,q,r]) (p:=s) h) a w hr (swap st)
def aJa(d:cH)(v:Value)(hs:List HP)(_:Piece):Prop:=∃L:FL,v=.tuple #[.pointer (some ⟨L.f,0,none⟩),iv 0]∧hs=[gT L d (Dp d)]
theorem Cr(l:List Rg):List.replicate l.length (Value.int .u32 0)=mI (l.map fun _=>0):=by
 refine List.ext_getElem? fun j=>?_;simp only[mI,List.map_map,List.getElem?_replicate,List.getElem?_map]
 by_cases h:j < l.length
 ·rw[if_pos h,List.getElem?_eq_getElem h];rfl
 ·rw[if_neg h,List.getElem?_eq_none (by omega)];rfl
theorem aL3(d:cH)(hrl:d.aS.length≤8)(cQ:∀r∈d.aS,0≤r.reset∧r.reset < 4294967296)(A:Option Addr)(c:Nat)(w:World)(hs:aH (all w) 2 A d.aS.length (d.aS.flatMap Rg.cells)):
  Cz 102 #[.slice A d.aS.length c] w (fun y w'=>(∃v hs q,y=.returned v∧q.w=w'∧aJa d v hs q∧fV w hs q)∧Below w.heap.size w w'):=by
 refine aO func102 ntmps102 ?_;refine eA ?_;refine fU ?_;refine bE ?_;refine bE ?_;refine fB ?_;refine eA ?_;refine eA ?_;refine fU ?_;refine bE ?_;refine bE ?_;refine bE ?_;refine aB ?_;refine aG rfl (fun h=>absurd h (by omega)) (fun _=>?_);refine nV ?_;refine eJ ?_;refine Ru (fun e R H=>∃B j gn gs g3,e=[(4,pt g3)]∧R=[all w]∧H=[HP.aE g3 264 [.slice B d.aS.length j,.slice (some ⟨gn,0,none⟩) d.aS.length d.aS.length,.slice (some ⟨gs,0,none⟩) d.aS.length d.aS.length,.bool false],HP.aE gn 37 (mI (d.aS.map fun _=>0)),HP.aE gs 37 (mI (d.aS.map fun _=>0)),HP.own 95 2 (.slice B d.aS.length j) d.aS.length (d.aS.flatMap Rg.cells)]) ?_ ?_
 ·refine qM 8 (by kernel_rfl) (by kernel_rfl) ?_;refine bP 0 ?_;refine bP 2 ?_;refine bP 3 ?_;refine bP 5 ?_;refine bP 6 ?_;refine aSl 1 4 7 rfl rfl rfl (by kernel_rfl) ?_ ?_ ?_
  ·skip
   refine dS (Sj d.aS.length (d.aS.flatMap Rg.cells)) (fun w1 st=>Xf A _ c _ w1 (hs.le (st.le (by simp))) Og (by omega)) ?_;rintro _ _ q ⟨B,j,rfl,rfl⟩ _;dsimp only[List.cons_append,List.nil_append];refine mT ?_ (hS:=(fun _ h=>h.bB.tail));refine Ju 4 7 rfl rfl (by kernel_rfl) ?_ ?_
   ·skip
    refine lU (n:=d.aS.length) 4 (el:=37) (z:=.int .u32 0) (by kernel_rfl) (by kernel_rfl) rfl rfl rfl (by omega) (by omega) (by decide) fun gn=>?_;rw[Cr d.aS];refine mT ?_ (hS:=(fun _ h=>h.tail.bB.tail));refine cJ 7 ?_;refine lU (n:=d.aS.length) 4 (el:=37) (z:=.int .u32 0) (by kernel_rfl) (by kernel_rfl) rfl rfl rfl (by omega) (by omega) (by decide) fun gs=>?_;rw[Cr d.aS];refine mT ?_ (hS:=(fun _ h=>h.tail.tail.bB.tail));refine cJ 8 ?_;refine kd (iI rfl) ?_;refine eS ?_;refine cJ 9 ?_;refine bN fun g3=>?_;refine eS ?_;refine cJ 10 ?_;refine bE ?_;refine eS ?_;refine kK ?_;refine eJ ?_;exact nL ⟨B,j,gn,gs,g3,rfl,rfl,rfl⟩
   ·skip
    refine lU (n:=d.aS.length) 4 (el:=37) (z:=.int .u32 0) (by kernel_rfl) (by kernel_rfl) rfl rfl rfl (by omega) (by omega) (by decide) fun gs=>?_;rw[Cr d.aS];refine mT ?_ (hS:=(fun _ h=>h.tail.bB.tail));refine cJ 4 ?_;refine lU (n:=d.aS.length) 4 (el:=37) (z:=.int .u32 0) (by kernel_rfl) (by kernel_rfl) rfl rfl rfl (by omega) (by omega) (by decide) fun gn=>?_;rw[Cr d.aS];refine mT ?_ (hS:=(fun _ h=>h.tail.tail.bB.tail));refine cJ 8 ?_;refine kd (iI rfl) ?_;refine eS ?_;refine cJ 9 ?_;refine bN fun g3=>?_;refine eS ?_;refine cJ 10 ?_;refine bE ?_;refine eS ?_;refine kK ?_;refine eJ ?_;exact nL ⟨B,j,gn,gs,g3,rfl,rfl,rfl⟩
  ·skip
   refine lU (n:=d.aS.length) 4 (el:=37) (z:=.int .u32 0) (by kernel_rfl) (by kernel_rfl) rfl rfl rfl (by omega) (by omega) (by decide) fun gn=>?_;rw[Cr d.aS];refine mT ?_ (hS:=(fun _ h=>h.tail));refine Ju 1 7 rfl rfl (by kernel_rfl) ?_ ?_
   ·skip
    refine dS (Sj d.aS.length (d.aS.flatMap Rg.cells)) (fun w1 st=>Xf A _ c _ w1 (hs.le (st.le (by simp))) Og (by omega)) ?_;rintro _ _ q ⟨B,j,rfl,rfl⟩ _;dsimp only[List.cons_append,List.nil_append];refine mT ?_ (hS:=(fun _ h=>h.bB.tail.tail));refine cJ 7 ?_;refine lU (n:=d.aS.length) 4 (el:=37) (z:=.int .u32 0) (by kernel_rfl) (by kernel_rfl) rfl rfl rfl (by omega) (by omega) (by decide) fun gs=>?_;rw[Cr d.aS];refine mT ?_ (hS:=(fun _ h=>h.tail.bB.tail.tail));refine cJ 8 ?_;refine kd (iI rfl) ?_;refine eS ?_;refine cJ 9 ?_;refine bN fun g3=>?_;refine eS ?_;refine cJ 10 ?_;refine bE ?_;refine eS ?_;refine kK ?_;refine eJ ?_;exact nL ⟨B,j,gn,gs,g3,rfl,rfl,rfl⟩
   ·skip
    refine lU (n:=d.aS.length) 4 (el:=37) (z:=.int .u32 0) (by kernel_rfl) (by kernel_rfl) rfl rfl rfl (by omega) (by omega) (by decide) fun gs=>?_;rw[Cr d.aS];refine mT ?_ (hS:=(fun _ h=>h.tail.tail));refine cJ 1 ?_;refine dS (Sj d.aS.length (d.aS.flatMap Rg.cells)) (fun w1 st=>Xf A _ c _ w1 (hs.le (st.le (by simp))) Og (by omega)) ?_;rintro _ _ q ⟨B,j,rfl,rfl⟩ _;dsimp only[List.cons_append,List.nil_append];refine mT ?_ (hS:=(fun _ h=>h.bB.tail.tail.tail));refine cJ 8 ?_;refine kd (iI rfl) ?_;refine eS ?_;refine cJ 9 ?_;refine bN fun g3=>?_;refine eS ?_;refine cJ 10 ?_;refine bE ?_;refine eS ?_;refine kK ?_;refine eJ ?_;exact nL ⟨B,j,gn,gs,g3,rfl,rfl,rfl⟩
  ·skip
   refine lU (n:=d.aS.length) 4 (el:=37) (z:=.int .u32 0) (by kernel_rfl) (by kernel_rfl) rfl rfl rfl (by omega) (by omega) (by decide) fun gs=>?_;rw[Cr d.aS];refine mT ?_ (hS:=(fun _ h=>h.tail));refine Ju 1 4 rfl rfl (by kernel_rfl) ?_ ?_
   ·skip
    refine dS (Sj d.aS.length (d.aS.flatMap Rg.cells)) (fun w1 st=>Xf A _ c _ w1 (hs.le (st.le (by simp))) Og (by omega)) ?_;rintro _ _ q ⟨B,j,rfl,rfl⟩ _;dsimp only[List.cons_append,List.nil_append];refine mT ?_ (hS:=(fun _ h=>h.bB.tail.tail));refine cJ 4 ?_;refine lU (n:=d.aS.length) 4 (el:=37) (z:=.int .u32 0) (by kernel_rfl) (by kernel_rfl) rfl rfl rfl (by omega) (by omega) (by decide) fun gn=>?_;rw[Cr d.aS];refine mT ?_ (hS:=(fun _ h=>h.tail.bB.tail.tail));refine cJ 8 ?_;refine kd (iI rfl) ?_;refine eS ?_;refine cJ 9 ?_;refine bN fun g3=>?_;refine eS ?_;refine cJ 10 ?_;refine bE ?_;refine eS ?_;refine kK ?_;refine eJ ?_;exact nL ⟨B,j,gn,gs,g3,rfl,rfl,rfl⟩
   ·skip
    refine lU (n:=d.aS.length) 4 (el:=37) (z:=.int .u32 0) (by kernel_rfl) (by kernel_rfl) rfl rfl rfl (by omega) (by omega) (by decide) fun gn=>?_;rw[Cr d.aS];refine mT ?_ (hS:=(fun _ h=>h.tail.tail));refine cJ 1 ?_;refine dS (Sj d.aS.length (d.aS.flatMap Rg.cells)) (fun w1 st=>Xf A _ c _ w1 (hs.le (st.le (by simp))) Og (by omega)) ?_;rintro _ _ q ⟨B,j,rfl,rfl⟩ _;dsimp only[List.cons_append,List.nil_append];refine mT ?_ (hS:=(fun _ h=>h.bB.tail.tail.tail));refine cJ 8 ?_;refine kd (iI rfl) ?_;refine eS ?_;refine cJ 9 ?_;refine bN fun g3=>?_;refine eS ?_;refine cJ 10 ?_;refine bE ?_;refine eS ?_;refine kK ?_;refine eJ ?_;exact nL ⟨B,j,gn,gs,g3,rfl,rfl,rfl⟩
 rintro _ _ _ ⟨B,j,gn,gs,g3,rfl,rfl,rfl⟩;refine xM 3 (Φ:=rL d B) (hm:=rL.le (d:=d) (A:=B)) rfl (fun p h=>h) ?_;dsimp only[List.set];refine aRK ?_;refine aB ?_
 refine bT 0 (gT ⟨g3,gn,gs,B,j⟩ d (Dw d ⟨d.aS.map fun _=>0,d.aS.map fun _=>0,false⟩)) (fun w1 G t hG wW hle=>Zt ⟨g3,gn,gs,B,j⟩ d ⟨d.aS.map fun _=>0,d.aS.map fun _=>0,false⟩ (by omega) ⟨by simp,by simp,fun v hv=>by
  obtain⟨r,hr,rfl⟩:=List.mem_map.1 hv;decide,fun v hv=>by
  obtain⟨r,hr,rfl⟩:=List.mem_map.1 hv
  decide⟩ w1 G hG wW) ?_
 refine aB ?_;refine dB [] [] [0] (by simp) rfl (by decide) (by decide) fun q _ _ hfr=>?_;exact fT rfl rfl rfl fun w1 t=>⟨⟨_,_,⟨w1,q.Z⟩,rfl,rfl,⟨⟨g3,gn,gs,B,j⟩,rfl,rfl⟩,t.newR (by simp) (by simp) (hfr (by simp) (by simp))⟩,t.below (by simp)⟩
theorem aLE(w:World):
  Cz 104 #[] w (fun y w'=>(∃v hs q,y=.returned v∧q.w=w'∧(∃g,v=pt g∧hs=[HP.aE g 266 [iv 0,iv 0]])∧fV w hs q)∧Below w.heap.size w w'):=by
 refine aO func104 ntmps104 ?_;refine aA ?_;refine kd (iI rfl) ?_;refine bN fun g=>?_;refine aA ?_;refine dB [] [] [0] (by simp) rfl (by decide) (by decide) fun q _ _ hfr=>?_;exact aP (h:=fun w1 t=>⟨_,_,⟨w1,q.Z⟩,rfl,rfl,⟨g,rfl,rfl⟩,t.newR (by simp) (by simp) (hfr (by simp) (by simp))⟩)
end
section
def Se(x:fD):List Value:=[iv x.at_,iv x.denied]
def tE(g:Nat)(x:fD):HP:=HP.aE g 266 (Se x)
def Sh(w:World):Prop:=∀i v,[(114:Int),97,115,100][i]? =some v→fK w 0 i (.int .u8 v)
theorem Sh.below{w w':World}(h:Sh w)(hb:Below w.heap.size w w'):Sh w':=fun i v hv=>
 ⟨Nat.lt_of_lt_of_le (h i v hv).1 hb.size,(hb.cell (p:=⟨0,i,none⟩) (h i v hv).1).trans (h i v hv).2⟩
theorem aF6(g:Nat)(x:fD)(hx:zG x)(w:World)(hL:Sh w)(hR:dP w g 0 (Se x)):
  Cz 205 #[pt g] w (Rt (.int .u8 (oU x.at_)) w):=by
 have k0:=hR.at_ (j:=0) rfl
 obtain⟨h1,h2⟩:=hx;obtain⟨i,hi⟩:∃i:Nat,x.at_=i:=⟨x.at_.toNat,by omega⟩
 have hv:[(114:Int),97,115,100][i]? =some (oU x.at_):=by
  have:i=0∨i=1∨i=2∨i=3:=by omega
  rcases this with rfl | rfl | rfl | rfl<;>rw[hi]<;>rfl
 have k1:=hL i _ hv
 have hlt:i < 4:=by omega
 rw[hi] at k0 k1⊢;refine aO func205 ntmps205 ?_;refine aA ?_;refine kd (fF i i) ?_;refine aA ?_;exact dF
section
variable{g:Nat}{x:fD}{w:World}{F:Nat→Prop}
theorem aLH(hp:(tE g x).sat F w)(hF:∀b,F b→b < w.heap.size):
  Cz 219 #[pt g] w (Wr (iv (sV x).1) (tE g (sV x).2) w F):=by
 refine cS func219 ntmps219 hp hF ?_;dsimp only[tE,Se];refine aA ?_;refine aG rfl (fun h=>?_) (fun h=>?_)
 ·have hr:sV x=(6,x):=if_pos (by simpa using h)
  rw[hr];refine aA ?_;exact bO 0 hF
 ·have hr:sV x=(0,⟨1,x.denied⟩):=if_neg (by simpa using h)
  rw[hr];refine aA ?_;exact bO 0 hF
theorem aLG(hp:(tE g x).sat F w)(hF:∀b,F b→b < w.heap.size):
  Cz 206 #[pt g] w (Wr (iv (oF x).1) (tE g (oF x).2) w F):=by
 refine cS func206 ntmps206 hp hF ?_;dsimp only[tE,Se];refine aA ?_;refine bX (t:=11) rfl (fun h2=>?_) (fun h2=>?_)
 ·refine aA ?_;refine aG rfl (fun h=>?_) (fun h=>?_)
  ·have hr:oF x=(6,x):=if_pos ⟨by simpa using h2,by simpa using h⟩
   rw[hr];refine aA ?_;exact bO 0 hF
  ·have hr:oF x=(0,⟨0,x.denied⟩):=if_neg fun h3=>h3.2 (by simpa using h)
   rw[hr];refine aA ?_;exact bO 0 hF
 ·have hr:oF x=(0,⟨0,x.denied⟩):=if_neg fun h3=>h3.1 (by simpa using h2)
  rw[hr];refine aA ?_;exact bO 0 hF
theorem aLF(Mu bG:Bool)(hp:(tE g x).sat F w)(hF:∀b,F b→b < w.heap.size):
  Cz 152 #[pt g,.bool Mu,.bool bG] w (Wr (.tuple #[]) (tE g (yD x Mu bG)) w F):=by
 refine cS func152 ntmps152 hp hF ?_;dsimp only[tE,Se];refine aA ?_;refine aG rfl (fun h=>?_) (fun h=>?_)
 ·have hr:yD x Mu bG=x:=if_pos (by simpa using h)
  rw[hr];refine aA ?_;exact fA 0 hF
 ·have h1:¬x.at_≠1:=by simpa using h
  cases bG
  ·cases Mu
   ·have hr:yD x false false=⟨2,0⟩:=(if_neg h1).trans ((if_neg (by decide)).trans (if_neg (by decide)))
    rw[hr];refine aA ?_;exact fA 0 hF
   ·have hr:yD x true false=x:=(if_neg h1).trans ((if_neg (by decide)).trans (if_pos rfl))
    rw[hr];refine aA ?_;exact fA 0 hF
  ·have hr:yD x Mu true=⟨3,IntKind.i64.wrap (x.denied+1)⟩:=(if_neg h1).trans (if_pos rfl)
   rw[hr];refine aA ?_;refine El rfl rfl rfl (by decide) ?_;refine aA ?_;exact fA 0 hF
end
end
section
structure TL where
 t:Nat
 A:Option Addr
 c:Nat
 fa:List (Option Addr×Nat)
def qC(c:eU)(a:Option Addr×Nat)(x:eN):List Value:=[.int .u8 c.kind,.slice a.1 c.src.length a.2,.int .u64 c.rate,iv c.mul,iv c.div,iv c.lock,.bool x.on,iv x.left,iv 0,iv 0,iv (byF c)]
def jS(s:aC)(fa:List (Option Addr×Nat))(st:List eN):List (List Value):=List.zipWith (fun c p=>qC c p.1 p.2) s.aF (fa.zip st)
structure vL(w:World)(L:TL)(s:aC)(st:List eN):Prop where
 r0:fK w L.t 0 (.slice L.A s.aF.length L.c)
 row:aH (all w) 11 L.A s.aF.length (jS s L.fa st).flatten
 qI:∀(i:Nat) (c:eU) (a:Option Addr×Nat),s.aF[i]? =some c→L.fa[i]? =some a→aH (all w) 1 a.1 c.src.length (aN c.src)
 fl:L.fa.length=s.aF.length
 ok:pK s st
theorem vL.below{w w':World}{L:TL}{s:aC}{st:List eN}(h:vL w L s st)(hb:Below w.heap.size w w'):vL w' L s st:=
 ⟨⟨Nat.lt_of_lt_of_le h.r0.1 hb.size,(hb.cell (p:=⟨_,0,none⟩) h.r0.1).trans h.r0.2⟩,h.row.le (kR hb),fun i c a hc ha=>(h.qI i c a hc ha).le (kR hb),h.fl,h.ok⟩
theorem vL.node{w:World}{L:TL}{s:aC}{st:List eN}(h:vL w L s st){i:Nat}(hi:i < s.aF.length):
  ∃b off c a x,s.aF[i]? =some c∧st[i]? =some x∧L.A=some ⟨b,off,none⟩∧dP w b (off+i*11) (qC c a x)∧aH (all w) 1 a.1 c.src.length (aN c.src):=by
 obtain⟨c,hc⟩:=get_some hi;obtain⟨a,ha⟩:=get_some (l:=L.fa) (i:=i) (by rw[h.fl];exact hi);obtain⟨x,hx⟩:=get_some (l:=st) (i:=i) (by rw[h.ok.len];exact hi)
 have hr:(jS s L.fa st)[i]? =some (qC c a x):=by
  rw[jS,List.getElem?_zipWith,hc,(List.getElem?_zip_eq_some (z:=(a,x))).2 ⟨ha,hx⟩]
 obtain⟨b,off,hA,hro⟩:=aH.row h.row (fun r hr=>by
  obtain⟨j,hj⟩:=List.getElem?_of_mem hr;rw[jS,List.getElem?_zipWith] at hj;split at hj<;>cases hj
  rfl) hr hi
 exact⟨b,off,c,a,x,hc,hx,hA,hro,h.qI i c a hc ha⟩
def rP(s:aC)(fa:List (Option Addr×Nat))(p:Piece):Prop:=∀(i:Nat) (c:eU) (a:Option Addr×Nat),s.aF[i]? =some c→fa[i]? =some a→aH p 1 a.1 c.src.length (aN c.src)
theorem rP.le{s:aC}{fa:List (Option Addr×Nat)}(p q:Piece)(hl:p.Le q)(h:rP s fa p):rP s fa q:=fun i c a hc ha=>(h i c a hc ha).le hl
def pG(L:TL)(s:aC)(st:List eN):HP:=HP.many [HP.aE L.t 249 [.slice L.A s.aF.length L.c],HP.own 251 11 (.slice L.A s.aF.length L.c) s.aF.length (jS s L.fa st).flatten,HP.bR (rP s L.fa) (rP.le (s:=s) (fa:=L.fa))]
theorem aI5{L:TL}{s:aC}{st:List eN}{F:Nat→Prop}{w:World}(h:(pG L s st).sat F w)(hF:∀b,F b→b < w.heap.size)(hfl:L.fa.length=s.aF.length)(hok:pK s st):vL w L s st:=by
 obtain⟨G,g1,g2,_⟩:=h
 have h0:=g1 0 _ rfl
 have h1:=g1 1 _ rfl
 have h2:=g1 2 _ rfl
 have hl:∀i b,G i b→b < w.heap.size:=fun i b hb=>hF b (g2 i b hb)
 obtain⟨A',c',he,hs⟩:=zF (Y:=fun b=>b < w.heap.size) h1 (hl 1)
 injection he with he
 subst he;exact⟨⟨h0.2.lt,by rw[h0.2.cell];rfl⟩,hs,fun i c a hc ha=>(h2 i c a hc ha).le (fun b hb=>⟨hl 2 b hb,rfl⟩),hfl,hok⟩
theorem aHG(t n c b off i:Nat)(w:World)(h0:fK w t 0 (.slice (some ⟨b,off,none⟩) n c))(hi:i < n):
  Cz 185 #[pt t,iv (i:Int)] w (Rt (.pointer (some ⟨b,off+i*11,none⟩)) w):=by
 refine aO func185 ntmps185 ?_;refine aA ?_;refine bX (t:=11) rfl (fun h=>absurd h (by omega)) (fun _=>?_);refine aA ?_;refine aG rfl (fun h=>absurd h (by omega)) (fun _=>?_);refine aA ?_;refine kd (dat i (off+i*11)) ?_;refine aA ?_;exact dF
theorem aHF(t n c:Nat)(A:Option Addr)(i:Int)(w:World)(h0:fK w t 0 (.slice A n c))(hi:bZ n i=false):
  Cz 185 #[pt t,iv i] w (Rt (.pointer none) w):=by
 have hi:=of_decide_eq_false hi
 refine aO func185 ntmps185 ?_;refine aA ?_;refine bX (t:=11) rfl (fun h=>?_) (fun h=>?_)
 ·refine aA ?_;exact dF
 ·refine aA ?_;refine aG rfl (fun h=>?_) (fun h=>absurd hi (by omega));refine aA ?_;exact dF
theorem Rb(L:TL)(s:aC)(st:List eN)(i f:Nat)(c:eU)(fs:List Int)(w:World)(hR:vL w L s st)(hi:s.aF[i]? =some c)(hf:c.src=(f:Int)::fs):
  Cz 187 #[.pointer (some ⟨L.t,0,none⟩),iv (i:Int)] w (Rt (iv (f:Int)) w):=by
 have hlt:i < s.aF.length:=(List.getElem?_eq_some_iff.1 hi).1
 obtain⟨b,off,c',a,x,hc,hx,hA,hro,hs⟩:=hR.node hlt;obtain rfl:c=c':=by rw[hi] at hc;exact Option.some.inj hc
 have h0:=hR.r0
 rw[hA] at h0
 have h1:=hro.at_ (j:=1) rfl
 have h8:=hro.at_ (j:=8) rfl
 rw[hf] at h1 hs;obtain⟨b2,o2,Qd,oY,mZ⟩:=hs.2 (by simp);rw[Qd] at h1
 have h2:fK w b2 o2 (iv (f:Int)):=⟨oY,mZ 0 _ rfl⟩
 refine aO func187 ntmps187 ?_;refine aA ?_;refine kd (dat i (off+i*11)) ?_;refine aA ?_;refine lJ ?_;refine jD ?_;refine sY (dat 0 o2 (hlt:=by simp)) ?_;refine iY ?_;refine aA ?_;exact dF
theorem aQq(L:TL)(s:aC)(st:List eN)(hH:s.dJ)(b1 b2:Nat):∀(i:Nat),i < s.aF.length→∀w,vL w L s st→fK w b1 0 (.pointer (some ⟨L.t,0,none⟩))→fK w b2 0 (.func (.func 186) #[] #[pt b1,pt b2])→
  Cz 186 #[iv (i:Int),pt b1,pt b2] w (Rt (.bool (runs s st i)) w):=by
 intro i
 induction i using Nat.strongRecOn with
 | _ i ih =>
  intro hlt w hR Bd dZ;obtain⟨b,off,c,a,x,hc,hx,hA,hro,hs⟩:=hR.node hlt
  have hrun:=aKE hH.t.aF hc hx
  have h0:=hR.r0
  rw[hA] at h0
  have k0:=hro.at_ (j:=0) rfl
  have k6:=hro.at_ (j:=6) rfl
  have k7:=hro.at_ (j:=7) rfl
  have Qe:∀{w1},Below w.heap.size w w1→fK w1 b1 0 (.pointer (some ⟨L.t,0,none⟩)):=fun hb=>⟨Nat.lt_of_lt_of_le Bd.1 hb.size,(hb.cell (p:=⟨_,0,none⟩) Bd.1).trans Bd.2⟩
  have go2:∀{w1},Below w.heap.size w w1→fK w1 b2 0 (.func (.func 186) #[] #[pt b1,pt b2]):=fun hb=>⟨Nat.lt_of_lt_of_le dZ.1 hb.size,(hb.cell (p:=⟨_,0,none⟩) dZ.1).trans dZ.2⟩
  obtain⟨hsrc,hfit⟩:=hH.t.aF i c hc;refine aO func186 ntmps186 ?_;refine aA ?_;refine kd (dat i (off+i*11)) ?_;rcases hfit with⟨hk,hs0,_⟩ | hfit
  ·rw[hk] at k0;refine aA ?_;refine iS (by simp) ?_;rw[hrun,hs0];simp[yC,hk]
  obtain⟨f,fs,hf⟩:∃(f:Nat) (fs:List Int),c.src=(f:Int)::fs:=by
   cases hs0:c.src with
   | nil=>rw[hs0] at hfit;simp at hfit
   | cons f fs=>exact⟨f.toNat,fs,by have:=(hsrc f (by rw[hs0];simp)).1;rw[Int.toNat_of_nonneg this]⟩
  have Lz:f < i:=by have:=(hsrc f (by rw[hf];simp)).2;omega
  have Lr:runs s st i=(yC c x&&runs s st f):=by rw[hrun,hf];rfl
  clear hrun;rcases hfit with⟨hk,_⟩ | ⟨hk,_⟩ | ⟨hk,_⟩ | ⟨hk,_⟩
  ·rw[hk] at k0;cases De:x.on
   ·rw[De] at k6;refine aA ?_;refine lJ ?_;refine iY ?_;refine aA ?_;refine iS (by simp) ?_;rw[Lr];simp[yC,hk,De]
   ·rw[De] at k6;refine aA ?_;refine lJ ?_;refine jD ?_;refine Eb 32 rfl (fun h=>?_) (fun h=>?_)
    ·refine jD ?_;refine rG (fun w1 lE=>Rb L s st i f c fs w1 (hR.below (lE.below (by simp))) hc hf) ?_;refine jD ?_;refine Gt (fi:=[]) (vs:=[iv (f:Int)]) (ca:=[pt b1,pt b2]) (fun w1 lE=>ih f Lz (by omega) w1 (hR.below (lE.below (by simp))) (Qe (lE.below (by simp))) (go2 (lE.below (by simp)))) ?_;refine iY ?_;refine aA ?_;refine iS (by simp) ?_;rw[Lr];simp[yC,hk,De,h]
    ·refine iY ?_;refine aA ?_;refine iS (by simp) ?_;rw[Lr];simp[yC,hk,De,h]
  ·rw[hk] at k0;refine aA ?_;refine lJ ?_;refine jD ?_;refine rG (fun w1 lE=>Rb L s st i f c fs w1 (hR.below (lE.below (by simp))) hc hf) ?_;refine Gt (fi:=[]) (vs:=[iv (f:Int)]) (ca:=[pt b1,pt b2]) (fun w1 lE=>ih f Lz (by omega) w1 (hR.below (lE.below (by simp))) (Qe (lE.below (by simp))) (go2 (lE.below (by simp)))) ?_;refine iY ?_;refine aA ?_;refine iS (by simp) ?_;rw[Lr];simp[yC,hk]
  ·rw[hk] at k0;cases De:x.on
   ·rw[De] at k6;refine aA ?_;refine lJ ?_;refine iY ?_;refine aA ?_;refine iS (by simp) ?_;rw[Lr];simp[yC,hk,De]
   ·rw[De] at k6;refine aA ?_;refine lJ ?_;refine jD ?_;refine rG (fun w1 lE=>Rb L s st i f c fs w1 (hR.below (lE.below (by simp))) hc hf) ?_;refine jD ?_;refine Gt (fi:=[]) (vs:=[iv (f:Int)]) (ca:=[pt b1,pt b2]) (fun w1 lE=>ih f Lz (by omega) w1 (hR.below (lE.below (by simp))) (Qe (lE.below (by simp))) (go2 (lE.below (by simp)))) ?_;refine iY ?_;refine aA ?_;refine iS (by simp) ?_;rw[Lr];simp[yC,hk,De]
  ·rw[hk] at k0;refine aA ?_;refine lJ ?_;refine jD ?_;refine rG (fun w1 lE=>Rb L s st i f c fs w1 (hR.below (lE.below (by simp))) hc hf) ?_;refine Gt (fi:=[]) (vs:=[iv (f:Int)]) (ca:=[pt b1,pt b2]) (fun w1 lE=>ih f Lz (by omega) w1 (hR.below (lE.below (by simp))) (Qe (lE.below (by simp))) (go2 (lE.below (by simp)))) ?_;refine iY ?_;refine aA ?_;refine iS (by simp) ?_;rw[Lr];simp[yC,hk]
end
section
section
variable{N:cE}{w0 w:World}{e:Env}{R:List Piece}{H:List HP}{K:Act→World→Prop}{L:TL}{s:aC}{st:List eN}
theorem St.aBG(t:St w0 R H w)(i:Nat)(hi:H[i]? =some (pG L s st))(hfl:L.fa.length=s.aF.length)(hok:pK s st):vL w L s st:=by
 obtain⟨F,h1,h2,_⟩:=t.chunk hi;exact aI5 h1 h2 hfl hok
theorem Rd.tree(i:Nat)(hi:H[i]? =some (pG L s st))(hfl:L.fa.length=s.aF.length)(hok:pK s st):Rd w0 R H L.t 0 (.slice L.A s.aF.length L.c):=fun w t=>(t.aBG i hi hfl hok).r0.2
theorem aCk(hfl:L.fa.length=s.aF.length)(hok:pK s st):(jS s L.fa st).length=s.aF.length∧∀r∈jS s L.fa st,r.length=11:=by
 have:=hok.len
 refine⟨by simp[jS];omega,fun r hr=>?_⟩;obtain⟨j,hj⟩:=List.getElem?_of_mem hr;rw[jS,List.getElem?_zipWith] at hj;split at hj<;>cases hj
 rfl
theorem On{i:Nat}{c:eU}{a:Option Addr×Nat}{x:eN}(hc:s.aF[i]? =some c)(ha:L.fa[i]? =some a)(hx:st[i]? =some x):(jS s L.fa st)[i]? =some (qC c a x):=by
 rw[jS,List.getElem?_zipWith,hc,(List.getElem?_zip_eq_some (z:=(a,x))).2 ⟨ha,hx⟩]
theorem aFL{i:Nat}{c:eU}{a:Option Addr×Nat}{x:eN}(hc:s.aF[i]? =some c)(ha:L.fa[i]? =some a)(hi:i < st.length):(jS s L.fa st).set i (qC c a x)=jS s L.fa (st.set i x):=by
 refine List.ext_getElem? fun j=>?_;rw[List.getElem?_set]
 by_cases he:i=j
 ·subst he;rw[if_pos rfl,On hc ha (x:=x) (by rw[List.getElem?_set_self hi])];rw[if_pos]
  have h1:=(List.getElem?_eq_some_iff.1 hc).1
  have h2:=(List.getElem?_eq_some_iff.1 ha).1
  simp[jS];omega
 ·rw[if_neg he,jS,jS,List.getElem?_zipWith,List.getElem?_zipWith]
  have hz:(L.fa.zip st)[j]? =(L.fa.zip (st.set i x))[j]? :=by
   rw[List.zip_eq_zipWith,List.zip_eq_zipWith,List.getElem?_zipWith,List.getElem?_zipWith,List.getElem?_set_ne he]
  rw[hz]
theorem St.aJY{g:Nat}{cs:List Value}(t:St w0 R H w)(i j:Nat)(hi:H[i]? =some (HP.aE g 251 cs))(hj:H[j]? =some (HP.many [HP.aE L.t 249 [.slice (some ⟨g,0,none⟩) s.aF.length L.c],bU,HP.bR (rP s L.fa) (rP.le (s:=s) (fa:=L.fa))]))(hA:L.A=some ⟨g,0,none⟩)(h2:cs.take (s.aF.length*11)=(jS s L.fa st).flatten)(hfl:L.fa.length=s.aF.length)(hok:pK s st):vL w L s st:=by
 obtain⟨fN,gN⟩:=aCk hfl hok
 have hb:=t.aE hi
 obtain⟨F,⟨G,g1,g2,_⟩,hlt,_⟩:=t.chunk hj
 have h0:=g1 0 _ rfl
 have aN6:=g1 2 _ rfl
 refine⟨⟨h0.2.lt,by rw[h0.2.cell,hA];rfl⟩,⟨by rw[Kv _ gN,fN],fun _=>⟨g,0,hA,hb.lt,fun k u hu=>?_⟩⟩,fun k c a hc ha=>(aN6 k c a hc ha).le (fun b hbG=>⟨hlt b (g2 2 b hbG),rfl⟩),hfl,hok⟩;rw[←h2] at hu;rw[Nat.zero_add]
 show w.cell? _=_
 rw[hb.cell]
 have hk:k < s.aF.length*11:=by
  rcases Nat.lt_or_ge k (s.aF.length*11) with h | h
  ·exact h
  ·rw[List.getElem?_eq_none (by rw[List.length_take];omega)] at hu;cases hu
 rw[List.getElem?_take_of_lt hk] at hu
 simpa using hu
theorem aIr(i:Nat)(hi:H[i]? =some (pG L s st))(hn:0 < s.aF.length)(h:∀g cs,L.A=some ⟨g,0,none⟩→cs.length=L.c*11→cs.take (s.aF.length*11)=(jS s L.fa st).flatten→s.aF.length≤L.c→L.c≤maxLen→
  XK N w0 K e R (HP.aE g 251 cs::H.set i (HP.many [HP.aE L.t 249 [.slice L.A s.aF.length L.c],bU,HP.bR (rP s L.fa) (rP.le (s:=s) (fa:=L.fa))]))):XK N w0 K e R H:=by
 refine qJ i 1 hi rfl ?_;refine aBe 0 rfl hn fun g hA=>?_;dsimp only[List.set];rw[hA];refine Ec 0 rfl fun cs h1 h2 h3 h4=>?_
 have:=h g cs hA h1 h2 h3 h4
 rw[hA] at this;exact this
theorem yZ(i:Nat){g:Nat}{cs:List Value}{st':List eN}(hA:L.A=some ⟨g,0,none⟩)(h1:cs.length=L.c*11)(h2:cs.take (s.aF.length*11)=(jS s L.fa st').flatten)(h3:s.aF.length≤L.c)(h4:L.c≤maxLen)
  (hi:H[i]? =some (HP.many [HP.aE L.t 249 [.slice (some ⟨g,0,none⟩) s.aF.length L.c],bU,HP.bR (rP s L.fa) (rP.le (s:=s) (fa:=L.fa))]))
  (h:XK N w0 K e R (H.set i (pG L s st'))):XK N w0 K e R (HP.aE g 251 cs::H):=by
 refine By 0 (n:=s.aF.length) (c:=L.c) (sz:=11) rfl h1 h2 h3 h4 ?_;dsimp only[List.set];rw[←hA] at hi⊢;exact qL i 1 hi rfl h
end
theorem Xg(L:TL)(s:aC)(st:List eN)(hH:s.dJ)(i:Int)(w:World)(hR:vL w L s st):
  Cz 147 #[.pointer (some ⟨L.t,0,none⟩),iv i] w (Rt (.bool (tN s st i)) w):=by
 cases hi:bZ s.aF.length i
 ·refine aO func147 ntmps147 ?_;refine aA ?_;refine bN fun g1=>?_;refine aA ?_;refine aQ (fun w1 t=>aHF L.t s.aF.length L.c L.A i w1 ((hR.below (t.below (by simp))).r0) hi) ?_;refine aA ?_;refine iS (by simp) ?_;simp[tN,hi]
 ·obtain⟨n,rfl⟩:∃n:Nat,i=n:=⟨i.toNat,by have:=of_decide_eq_true hi;omega⟩
  have hlt:n < s.aF.length:=by have:=of_decide_eq_true hi;omega
  obtain⟨b,off,c,a,x,hc,hx,hA,_⟩:=hR.node hlt;refine aO func147 ntmps147 ?_;refine aA ?_;refine bN fun g1=>?_;refine aA ?_;refine aQ (fun w1 t=>aHG L.t s.aF.length L.c b off n w1 (by rw[←hA];exact(hR.below (t.below (by simp))).r0) hlt) ?_;refine aA ?_;refine bY fun g2=>?_;refine aA ?_;refine jY (vf:=[]) (vc:=[pt g1,pt g2]) rfl rfl (by decide) ?_;refine aA ?_;refine aAr (fi:=[]) (vs:=[iv (n:Int)]) (ca:=[pt g1,pt g2]) (fun w1 t=>aQq L s st hH g1 g2 n hlt w1 (hR.below (t.below (by simp))) ((t.box (i:=1) rfl).at_ (j:=0) rfl) ((t.box (i:=0) rfl).at_ (j:=0) rfl)) ?_;refine aA ?_;refine iS (by simp) ?_;simp[tN,hi]
theorem aQs(L:TL)(s:aC)(st:List eN)(hfl:L.fa.length=s.aF.length)(hok:pK s st)(i:Int)(on:Bool)(w:World)(F:Nat→Prop)(hp:(pG L s st).sat F w)(hF:∀b,F b→b < w.heap.size):
  Cz 209 #[.pointer (some ⟨L.t,0,none⟩),iv i,.bool on] w (Wr (iv (lN s st i on).1) (pG L s (lN s st i on).2) w F):=by
 cases hi:bZ s.aF.length i
 ·have hr:lN s st i on=(4,st):=by simp[lN,hi]
  rw[hr];refine cS func209 ntmps209 hp hF ?_;refine aA ?_;refine aQ (fun w1 t=>aHF L.t s.aF.length L.c L.A i w1 ((t.aBG 0 rfl hfl hok).r0) hi) ?_;refine aA ?_;exact bO 0 hF
 ·obtain⟨n,rfl⟩:∃n:Nat,i=n:=⟨i.toNat,by have:=of_decide_eq_true hi;omega⟩
  have hlt:n < s.aF.length:=by have:=of_decide_eq_true hi;omega
  have hl:=hok.len
  obtain⟨c,hc⟩:=get_some hlt;obtain⟨a,ha⟩:=get_some (l:=L.fa) (i:=n) (by omega);obtain⟨x,hx⟩:=get_some (l:=st) (i:=n) (by omega);obtain⟨fN,gN⟩:=aCk hfl hok;refine cS func209 ntmps209 hp hF ?_;refine aIr 0 rfl (by omega) fun g cs hA h1 h2 h3 h4=>?_;dsimp only[List.set];rw[hA]
  have hs:=Bj h2 fN gN (On hc ha hx)
  have hlen:n*11+11≤cs.length:=by omega
  refine aX 1 0 ?_;refine aA ?_;refine aQ (fun w1 t=>aHG L.t s.aF.length L.c g 0 n w1 ((t.box (i:=0) rfl).at_ (j:=0) rfl) hlt) ?_;refine aJ 1 0 ?_;rw[Nat.zero_add];refine aA ?_
  have hpq:∀x':eN,(jS s L.fa st).set n (qC c a x')=jS s L.fa (st.set n x'):=fun x'=>aFL hc ha (by omega)
  refine bX (t:=19) rfl (fun hk=>?_) (fun hk=>?_)
  ·refine aA ?_;refine aG rfl (fun hg=>?_) (fun hg=>?_)
   ·have hr:lN s st (n:Int) on=(1,st):=by simp[lN,hi,hc,hx,hk,hg]
    rw[hr];refine aA ?_;refine yZ 0 hA h1 h2 h3 h4 rfl ?_;exact bO 0 hF
   ·have hg:c.kind=103:=Classical.not_not.1 hg
    have hr:lN s st (n:Int) on=(0,st.set n ⟨on,x.left⟩):=by simp[lN,hi,hc,hx,hg,Uf]
    rw[hr]
    have hs1:=hs.set 6 (.bool on) (by simp[qC]) (by omega)
    have tU:=(rJ.refl cs (n*11) 11).set 6 (.bool on) (by decide)
    have gH:=yQ (r':=qC c a ⟨on,x.left⟩) h2 fN gN hlt (by omega) rfl hs1 tU
    rw[hpq] at gH;refine aA ?_;refine bX (t:=37) rfl (fun h=>absurd h hk) (fun _=>?_);refine aA ?_;refine yZ 0 hA (by simpa using h1) gH h3 h4 rfl ?_;exact bO 0 hF
  ·have hk:c.kind=112:=Classical.not_not.1 hk
   have hs1:=hs.set 6 (.bool on) (by simp[qC]) (by omega)
   have tU:=(rJ.refl cs (n*11) 11).set 6 (.bool on) (by decide)
   cases on
   ·have hr:lN s st (n:Int) false=(0,st.set n ⟨false,c.lock⟩):=by simp[lN,hi,hc,hx,hk,Uf]
    rw[hr];refine aA ?_;refine bX (t:=37) rfl (fun _=>?_) (fun h=>absurd hk h)
    have iH:=hs1.set 7 (iv c.lock) (by simp[qC]) (by simp;omega)
    have hu2:=tU.set 7 (iv c.lock) (by decide)
    have gH:=yQ (r':=qC c a ⟨false,c.lock⟩) h2 fN gN hlt (by omega) rfl iH hu2
    rw[hpq] at gH;refine aA ?_;refine yZ 0 hA (by simpa using h1) gH h3 h4 rfl ?_;exact bO 0 hF
   ·have hr:lN s st (n:Int) true=(0,st.set n ⟨true,x.left⟩):=by simp[lN,hi,hc,hx,hk,Uf]
    rw[hr]
    have gH:=yQ (r':=qC c a ⟨true,x.left⟩) h2 fN gN hlt (by omega) rfl hs1 tU
    rw[hpq] at gH;refine aA ?_;refine bX (t:=37) rfl (fun _=>?_) (fun h=>absurd hk h);refine aA ?_;refine yZ 0 hA (by simpa using h1) gH h3 h4 rfl ?_;exact bO 0 hF
end
section
theorem aH.uU{p:Piece}{sz n:Nat}{A:Option Addr}{rows:List (List Value)}(h:aH p sz A n rows.flatten)(hl:∀r∈rows,r.length=sz){k:Nat}{r:List Value}(hk:rows[k]? =some r)(hn:k < n):
  ∃b off,A=some ⟨b,off,none⟩∧p.Z b∧∀j u,r[j]? =some u→p.w.cell? ⟨b,off+k*sz+j,none⟩=some u:=by
 obtain⟨b,off,hA,hz,hc⟩:=aH.at_ h hn;refine⟨b,off,hA,hz,fun j u hu=>hc j u ?_⟩
 have hj:j < sz:=by
  rw[←hl r (List.mem_of_getElem? hk)];exact(List.getElem?_eq_some_iff.1 hu).1
 rw[Qh rows hl k j r hk hj,hu]
theorem aSw{w0:World}{R:List Piece}{H:List HP}{p:Piece}{b o:Nat}{vs:List Value}(hp:p∈R)(hz:p.Z b)(h:∀j u,vs[j]? =some u→p.w.cell? ⟨b,o+j,none⟩=some u):aM w0 R H b o vs:=.of fun j v hj=>Rd.ro hp hz (h j v hj)
theorem Re(s:aC)(A1 A2 A3 A4:Option Addr)(n1 k1 n2 k2 n3 k3 n4 k4:Nat)(w:World)(hW:iE w s A1 n1 A2 n2 A3 n3 A4 n4)(aCU:Xi s=0):
  Cz 27 #[.agg #[.slice A1 n1 k1,.slice A2 n2 k2,.slice A3 n3 k3,.slice A4 n4 k4]] w (Rt (iv 0) w):=by
 have:=aAK s A1 A2 A3 A4 n1 k1 n2 k2 n3 k3 n4 k4 w hW
 rw[aCU] at this;exact this
def aI4(s:aC)(v:Value)(hs:List HP)(_:Piece):Prop:=∃L:TL,v=.tuple #[.pointer (some ⟨L.t,0,none⟩),iv 0]∧hs=[pG L s (s.aF.map xK)]∧L.fa.length=s.aF.length
theorem aQt(s:aC)(hH:s.dJ)(A1 A2 A3 A4:Option Addr)(n1 k1 n2 k2 n3 k3 n4 k4:Nat)(w:World)(hW:iE w s A1 n1 A2 n2 A3 n3 A4 n4):
  Cz 99 #[.agg #[.slice A1 n1 k1,.slice A2 n2 k2,.slice A3 n3 k3,.slice A4 n4 k4]] w (fun y w'=>(∃v hs q,y=.returned v∧q.w=w'∧aI4 s v hs q∧fV w hs q)∧Below w.heap.size w w'):=by
 have hnc:=hH.t.nc
 have Uw:∀d∈s.aD,d.aS.length≤1000000:=fun d hd=>by
  obtain⟨i,hi⟩:=List.getElem?_of_mem hd
  have:=hH.t.aD i d hi
  unfold cH.fit at this;omega
 refine aO func99 ntmps99 ?_;refine aB ?_;refine bN fun g1=>?_;refine aB ?_;refine aQ (fun w1 t=>Re s A1 A2 A3 A4 n1 k1 n2 k2 n3 k3 n4 k4 w1 (hW.le (t.started (by simp))) hH.t.Rc) ?_;refine aB ?_;refine bN fun g2=>?_;refine aB ?_;refine kA [] (aBy s) (fun w1 t=>aDz s A1 A2 A3 A4 n1 k1 n2 k2 n3 k3 n4 k4 w1 (hW.le (t.started (by simp))) Uw) ?_;rintro _ w1 q1 ⟨cs1,rfl,hS⟩ gH _ aCO
 have aCO:=aCO (by simp)
 obtain⟨B1,m1,j1,B2,m2,j2,B3,m3,j3,B4,m4,j4,rfl,hSQ⟩:=(hS.mono (kF gH)).Q;clear gH hS;obtain⟨rc,hrc,hm1,hsc⟩:=hSQ.uG;obtain⟨fa,hfl,rfl,hfa⟩:=aD1 hrc;subst hm1;obtain⟨jF,hcr⟩:=Yr (f:=yU) (es:=s.aF) (bs:=fa) (sz:=6) hfl (fun _ _=>rfl)
 have hl0:(s.aF.map xK).length=s.aF.length:=by simp
 refine kd (aP9 (off:=0) (cs:=[.slice B1 s.aF.length j1,.slice B2 m2 j2,.slice B3 m3 j3,.slice B4 m4 j4]) (by kernel_rfl) rfl rfl) ?_;refine aB ?_;refine lI 251 11 ?_;refine bM [(20,iv 0),(19,iv s.aF.length),(18,.slice B1 s.aF.length j1),(5,pt g2)] ?_;refine eT (fun m e R H=>∃(i:Nat) (A:Option Addr) (k:Nat),i≤s.aF.length∧m=s.aF.length - i∧e=[(20,iv i),(19,iv s.aF.length),(18,.slice B1 s.aF.length j1),(5,pt g2)]∧R=[q1,all w]∧H=[HP.own 251 11 (.slice A i k) i ((jS s fa (s.aF.map xK)).take i).flatten,HP.aE g2 249 [.slice A i k],HP.aE g1 30 [.slice A1 n1 k1,.slice A2 n2 k2,.slice A3 n3 k3,.slice A4 n4 k4]]) s.aF.length ⟨0,none,0,by omega,rfl,rfl,rfl,by simp⟩ fun m e R H hI=>?_;obtain⟨i,A,k,hi,rfl,rfl,rfl,rfl⟩:=hI;refine aB ?_;refine aG rfl (fun hlt=>?_) (fun hge=>?_)
 ·have hlt:i < s.aF.length:=by omega
  obtain⟨c,hc⟩:=get_some hlt;obtain⟨a,ha⟩:=get_some (l:=fa) (i:=i) (by omega);obtain⟨b,off,hB,hz,hcell⟩:=aH.uU hsc hcr (Sm hc ha) hlt;subst hB
  have hrow:(jS s fa (s.aF.map xK))[i]? =some (qC c a (xK c)):=On (L:=⟨0,none,0,fa⟩) hc ha (by rw[List.getElem?_map,hc];rfl)
  have cX:((jS s fa (s.aF.map xK)).take (i+1)).flatten=((jS s fa (s.aF.map xK)).take i).flatten++qC c a (xK c):=by
   rw[List.take_succ,hrow,List.flatten_append];simp
  have Uz:∀H,aM w [q1,all w] H b (off+i*6) (yU c a):=fun H=>aSw (by simp) hz hcell
  have aS6:=Uz [HP.own 251 11 (.slice A i k) i ((jS s fa (s.aF.map xK)).take i).flatten,HP.aE g2 249 [.slice A i k],HP.aE g1 30 [.slice A1 n1 k1,.slice A2 n2 k2,.slice A3 n3 k3,.slice A4 n4 k4]]
  refine aA ?_;refine kd (dat i (off+i*6)) ?_;refine aB ?_;refine bY fun g3=>?_;obtain⟨kdx,src,rate,mul,dv,lock⟩:=c;dsimp only[yU];refine aB ?_;refine bY fun g4=>?_
  have hfit:=(hH.t.aF i _ hc).2
  dsimp only at hfit;rcases hfit with⟨rfl,_⟩ | ⟨rfl,_⟩ | ⟨rfl,_⟩ | ⟨rfl,_⟩ | ⟨rfl,_⟩
  ·skip
   refine aA ?_;refine iZ [2,3,4,5] ?_;refine bJ 0 ?_;refine bJ 1 ?_;refine aK 2 ?_;refine aK 3 ?_;refine aK 4 ?_;refine aK 5 ?_;refine aL 6 ?_;refine eG fun g5=>?_;refine bA ?_;refine aL 7 ?_;refine gZ 3 11 104 1 (el:=251) (by kernel_rfl) (by kernel_rfl) (by decide) rfl rfl rfl (lW 0 rfl rfl) (by simp[Value.oneCell']) rfl (by omega) (by omega) (by decide) fun A' k'=>?_;dsimp only[List.set];refine cG ?_;refine aL 8 ?_;refine bE ?_;refine cG ?_;refine aL 9 ?_;refine bE ?_;refine cG ?_;refine aL 10 ?_;refine eO rfl rfl ?_;dsimp only[List.set];refine cG ?_;refine dX ?_;refine aA ?_;refine aT [3,4,5] rfl (by decide) (fun _ h=>h) ?_;exact eR (s.aF.length - (i+1)) ⟨i+1,A',k',hlt,rfl,rfl,rfl,by rw[cX]⟩
  ·skip
   refine aA ?_;refine iZ [2,3,4,5] ?_;refine bJ 0 ?_;refine bJ 1 ?_;refine aK 2 ?_;refine aK 3 ?_;refine aK 4 ?_;refine aK 5 ?_;refine aL 6 ?_;refine eG fun g5=>?_;refine bA ?_;refine aL 7 ?_;refine gZ 3 11 104 1 (el:=251) (by kernel_rfl) (by kernel_rfl) (by decide) rfl rfl rfl (lW 0 rfl rfl) (by simp[Value.oneCell']) rfl (by omega) (by omega) (by decide) fun A' k'=>?_;dsimp only[List.set];refine cG ?_;refine aL 8 ?_;refine bE ?_;refine cG ?_;refine aL 9 ?_;refine bE ?_;refine cG ?_;refine aL 10 ?_;refine eO rfl rfl ?_;dsimp only[List.set];refine cG ?_;refine dX ?_;refine aA ?_;refine aT [3,4,5] rfl (by decide) (fun _ h=>h) ?_;exact eR (s.aF.length - (i+1)) ⟨i+1,A',k',hlt,rfl,rfl,rfl,by rw[cX]⟩
  ·skip
   refine aA ?_;refine iZ [2,3,4,5] ?_;refine bJ 0 ?_;refine bJ 1 ?_;refine aK 2 ?_;refine aK 3 ?_;refine aK 4 ?_;refine aK 5 ?_;refine aL 6 ?_;refine eG fun g5=>?_;refine bA ?_;refine aL 7 ?_;refine gZ 3 11 104 1 (el:=251) (by kernel_rfl) (by kernel_rfl) (by decide) rfl rfl rfl (lW 0 rfl rfl) (by simp[Value.oneCell']) rfl (by omega) (by omega) (by decide) fun A' k'=>?_;dsimp only[List.set];refine cG ?_;refine aL 8 ?_;refine bE ?_;refine cG ?_;refine aL 9 ?_;refine bE ?_;refine cG ?_;refine aL 10 ?_;refine eO rfl rfl ?_;dsimp only[List.set];refine cG ?_;refine dX ?_;refine aA ?_;refine aT [3,4,5] rfl (by decide) (fun _ h=>h) ?_;exact eR (s.aF.length - (i+1)) ⟨i+1,A',k',hlt,rfl,rfl,rfl,by rw[cX]⟩
  ·skip
   refine aA ?_;refine iZ [2,3,4,5] ?_;refine bJ 0 ?_;refine bJ 1 ?_;refine aK 2 ?_;refine aK 3 ?_;refine aK 4 ?_;refine aK 5 ?_;refine aL 6 ?_;refine eG fun g5=>?_;refine bA ?_;refine aL 7 ?_;refine gZ 3 11 104 1 (el:=251) (by kernel_rfl) (by kernel_rfl) (by decide) rfl rfl rfl (lW 0 rfl rfl) (by simp[Value.oneCell']) rfl (by omega) (by omega) (by decide) fun A' k'=>?_;dsimp only[List.set];refine cG ?_;refine aL 8 ?_;refine bE ?_;refine cG ?_;refine aL 9 ?_;refine bE ?_;refine cG ?_;refine aL 10 ?_;refine eO rfl rfl ?_;dsimp only[List.set];refine cG ?_;refine dX ?_;refine aA ?_;refine aT [3,4,5] rfl (by decide) (fun _ h=>h) ?_;exact eR (s.aF.length - (i+1)) ⟨i+1,A',k',hlt,rfl,rfl,rfl,by rw[cX]⟩
  ·skip
   refine aA ?_;refine iZ [2,3,4,5] ?_;refine bJ 0 ?_;refine bJ 1 ?_;refine aK 2 ?_;refine aK 3 ?_;refine aK 4 ?_;refine aK 5 ?_;refine aL 6 ?_;refine eG fun g5=>?_;refine bA ?_;refine aL 7 ?_;refine gZ 3 11 104 1 (el:=251) (by kernel_rfl) (by kernel_rfl) (by decide) rfl rfl rfl (lW 0 rfl rfl) (by simp[Value.oneCell']) rfl (by omega) (by omega) (by decide) fun A' k'=>?_;dsimp only[List.set];refine cG ?_;refine aL 8 ?_;refine bE ?_;refine cG ?_;refine aL 9 ?_;refine bE ?_;refine cG ?_;refine aL 10 ?_;refine eO rfl rfl ?_;dsimp only[List.set];refine cG ?_;refine dX ?_;refine aA ?_;refine aT [3,4,5] rfl (by decide) (fun _ h=>h) ?_;exact eR (s.aF.length - (i+1)) ⟨i+1,A',k',hlt,rfl,rfl,rfl,by rw[cX]⟩
 ·obtain rfl:i=s.aF.length:=by omega
  refine aB ?_
  have hfull:(jS s fa (s.aF.map xK)).take s.aF.length=jS s fa (s.aF.map xK):=List.take_of_length_le (by simp[jS];omega)
  rw[hfull];refine aT [1,0] rfl (by decide) (fun _ h=>h) ?_;refine Jq aCO (by simp[all]) (Φ:=rP s fa) (hm:=rP.le (s:=s) (fa:=fa)) (fun i c a hc ha=>hfa i c a hc ha) ?_;refine aT [1,2,0] rfl (by decide) (fun _ h=>h) ?_;refine vK ?_;refine dB [] [] [0] (by simp) rfl (by decide) (by decide) fun q _ _ hfr=>?_;exact fT rfl rfl rfl fun w1 t=>⟨⟨_,_,⟨w1,q.Z⟩,rfl,rfl,⟨⟨g2,A,k,fa⟩,rfl,rfl,hfl⟩,t.newR (by simp) (by simp) (hfr (by simp) (by simp))⟩,t.below (by simp)⟩
end
section
def iR(r:Int)(x:jX):Value:=.agg #[iv r,iv x.left,.bool x.held,.bool x.wanted]
def Ld(s:aC)(st:List jX)(i:Nat):Int×Value:=((i:Int),iR (s.aY.getD i 0) (st.getD i qD))
def mX(s:aC)(st:List jX):List (Int×Value):=(List.range st.length).map (Ld s st)
theorem aGa(f:Nat→Value)(n:Nat)(i:Int):lY ((List.range n).map fun j:Nat=>((j:Int),f j)) i=if bZ n i then some (f i.toNat) else none:=by
 induction n with
 | zero=>
  have:bZ 0 i=false:=decide_eq_false (by omega)
  rw[this];rfl
 | succ n ih =>
  have h0:lY ((List.range (n+1)).map fun j:Nat=>((j:Int),f j)) i=(lY ((List.range n).map fun j:Nat=>((j:Int),f j)) i).or (lY [((n:Int),f n)] i):=by
   rw[List.range_succ,List.map_append];unfold lY;rw[List.find?_append];cases List.find? (fun p=>decide (p.1=i)) ((List.range n).map fun j:Nat=>((j:Int),f j))<;>rfl
  rw[h0,ih]
  by_cases h1:bZ n i=true
  ·have:bZ (n+1) i=true:=by have:=of_decide_eq_true h1;exact decide_eq_true (by omega)
   rw[if_pos h1,if_pos this];rfl
  ·have hf:bZ n i=false:=by simpa using h1
   have:=of_decide_eq_false hf
   rw[if_neg h1,Ot]
   by_cases h2:(n:Int)=i
   ·subst h2
    have:bZ (n+1) (n:Int)=true:=decide_eq_true (by omega)
    rw[if_pos rfl,if_pos this];rfl
   ·have h3:bZ (n+1) i=false:=decide_eq_false (by omega)
    rw[if_neg h2,h3];rfl
theorem aMB(f : Nat → Value)(n i : Nat)(v : Value)(hi : i < n) : nH ((List.range n).map fun j : Nat => ((j : Int), f j)) (i : Int) v = (List.range n).map fun j : Nat => ((j : Int), if j = i then v else f j) := by
  have key:∀(l:List Nat),i∈l→l.Nodup→nH (l.map fun j:Nat=>((j:Int),f j)) (i:Int) v=l.map fun j:Nat=>((j:Int),if j=i then v else f j):=by
    intro l
    induction l with
    | nil=>intro h;simp at h
    | cons a l ih =>
      intro h hn;rw[List.map_cons,nH,List.map_cons]
      by_cases ha:(a:Int)=(i:Int)
      · have Bg:a=i:=by omega
        subst Bg;rw[if_pos rfl,if_pos rfl]
        congr 1
        refine List.map_congr_left fun j hj=>?_;rw[if_neg (fun he:j=a=>(List.nodup_cons.1 hn).1 (he▸hj))]
      · rw[if_neg ha,if_neg (by omega)]
        congr 1
        exact ih (by rcases List.mem_cons.1 h with h | h
                     · omega
                     · exact h) (List.nodup_cons.1 hn).2
  exact key _ (List.mem_range.2 hi) List.nodup_range
theorem aGb{s:aC}{st:List jX}(i:Int):lY (mX s st) i=if bZ st.length i then some (iR (s.aY.getD i.toNat 0) (st.getD i.toNat qD)) else none:=aGa (fun j=>iR (s.aY.getD j 0) (st.getD j qD)) st.length i
theorem aCm{s:aC}{st:List jX}{i:Nat}{x:jX}{r:Int}(hr:s.aY.getD i 0=r)(hi:i < st.length):nH (mX s st) (i:Int) (iR r x)=mX s (st.set i x):=by
 have:=aMB (fun j=>iR (s.aY.getD j 0) (st.getD j qD)) st.length i (iR r x) hi
 refine this.trans ?_;unfold mX;rw[List.length_set];refine List.map_congr_left fun j hj=>?_;unfold Ld
 congr 1
 by_cases he:j=i
 ·subst he;rw[if_pos rfl,←hr,List.getD_eq_getElem?_getD (l:=st.set j x),List.getElem?_set_self hi];rfl
 ·rw[if_neg he,List.getD_eq_getElem?_getD (l:=st.set i x),List.getElem?_set_ne (Ne.symm he),List.getD_eq_getElem?_getD (l:=st)]
structure RL where
 t:Nat
 g:Nat
def oL(L:RL)(s:aC)(st:List jX):HP:=HP.many [HP.aE L.t 259 [.map (some L.g)],HP.map L.g (mX s st)]
structure Ka(w:World)(L:RL)(s:aC)(st:List jX):Prop where
 r0:fK w L.t 0 (.map (some L.g))
 m:vN w L.g (mX s st)
theorem Ka.below{w w':World}{L:RL}{s:aC}{st:List jX}(h:Ka w L s st)(hb:Below w.heap.size w w'):Ka w' L s st:=
 ⟨⟨Nat.lt_of_lt_of_le h.r0.1 hb.size,(hb.cell (p:=⟨_,0,none⟩) h.r0.1).trans h.r0.2⟩,h.m.below hb⟩
section
variable{N:cE}{w0 w:World}{e:Env}{R:List Piece}{H:List HP}{K:Act→World→Prop}{L:RL}{s:aC}{st:List jX}
theorem aIP{F:Nat→Prop}(h:(oL L s st).sat F w):Ka w L s st:=by
 obtain⟨G,g1,g2,_⟩:=h
 have h0:=g1 0 _ rfl
 exact⟨⟨h0.2.lt,by rw[h0.2.cell];rfl⟩,(g1 1 _ rfl).2⟩
theorem St.Pa(t:St w0 R H w)(i:Nat)(hi:H[i]? =some (oL L s st)):Ka w L s st:=by
 obtain⟨F,h1,h2,_⟩:=t.chunk hi;exact aIP h1
end
theorem aGj:(Tryz.prog.info? 261).bind (·.zero)=some (iR 0 ⟨0,false,false⟩):=by kernel_rfl
def sP(s:aC)(st:List jX)(i:Int):Value:=if bZ st.length i then iR (s.aY.getD i.toNat 0) (st.getD i.toNat qD) else iR 0 ⟨0,false,false⟩
theorem aOL(s:aC)(st:List jX)(i:Int):∃r x,sP s st i=iR r x:=by
 unfold sP;split
 ·exact⟨_,_,rfl⟩
 ·exact⟨_,_,rfl⟩
theorem Tq(L:RL)(s:aC)(st:List jX)(i:Int)(w:World)(hR:Ka w L s st):
  Cz 189 #[.pointer (some ⟨L.t,0,none⟩),iv i] w (Rt (.tuple #[sP s st i,.bool (bZ st.length i)]) w):=by
 have h0:=hR.r0
 obtain⟨r,x,hv⟩:=aOL s st i
 have hm:=aGb (s:=s) (st:=st) i
 have hz:(lY (mX s st) i).getD (iR 0 ⟨0,false,false⟩)=iR r x:=by
  rw[hm,←hv,sP];split<;>rfl
 have hb:(lY (mX s st) i).isSome=bZ st.length i:=by
  rw[hm];split
  ·rename_i h;rw[h];rfl
  ·rename_i h;simp at h;rw[h];rfl
 rw[hv];refine aO func189 ntmps189 ?_;refine aA ?_;refine bY fun g1=>?_;refine aA ?_;refine Yx (kt:=3) (et:=261) (kd:=.i64) (z:=iR 0 ⟨0,false,false⟩) (l:=mX s st) true (by kernel_rfl) (by kernel_rfl) aGj rfl rfl (fun w1 t=>(hR.below (t.below (by simp))).m) (by decide) ?_;simp only[if_true];rw[hz,hb];refine aA ?_;refine bY fun g2=>?_;unfold iR;refine aA ?_;exact yX rfl (by kernel_rfl) rfl rfl (by first | assumption | exact aM.whole 0 rfl | exact aM.whole 1 rfl | exact aM.whole 2 rfl | exact aM.whole 3 rfl | exact aM.whole 4 rfl | exact aM.whole 5 rfl | exact aM.whole 6 rfl | exact aM.whole 7 rfl | exact aM.whole 8 rfl | exact xQ (by simp) (by assumption)) rfl fun w1 t=>⟨rfl,t.below (by simp)⟩
theorem aFs(L:RL)(s:aC)(st:List jX)(i:Int)(w:World)(hR:Ka w L s st):
  Cz 149 #[.pointer (some ⟨L.t,0,none⟩),iv i] w (Rt (.bool (Ip st i)) w):=by
 refine aO func149 ntmps149 ?_;refine aA ?_;refine aQ (fun w1 t=>Tq L s st i w1 (hR.below (t.below (by simp)))) ?_;refine aA ?_;refine bY fun g2=>?_;cases hi:bZ st.length i
 ·have hv:sP s st i=iR 0 ⟨0,false,false⟩:=by simp[sP,hi]
  rw[hv];unfold iR;refine aA ?_;refine iS (by simp) ?_;simp[Ip,hi]
 ·have hv:sP s st i=iR (s.aY.getD i.toNat 0) (st.getD i.toNat qD):=by simp[sP,hi]
  rw[hv];unfold iR;refine aA ?_;refine iS (by simp) ?_
  have:i.toNat < st.length:=by have:=of_decide_eq_true hi;omega
  simp[Ip,hi,List.getElem?_eq_getElem this]
end
section
theorem aHs:∀{cl:List Dom} {rs:List (List Value)},Rows tH 3 cl rs→rs=cl.map fun d=>[iv d.above,iv d.delay,.bool d.ret]
 | [],[],_=>rfl
 | e::es,r::rs,h=>by
  have h1:r=[iv e.above,iv e.delay,.bool e.ret]:=h.2.1
  rw[h1,aHs h.2.2];rfl
theorem aFr:∀{cl:List Int} {rs:List (List Value)},Rows xO 1 cl rs→rs=cl.map fun d=>[iv d]
 | [],[],_=>rfl
 | e::es,r::rs,h=>by
  have h1:r=[iv e]:=h.2.1
  rw[h1,aFr h.2.2];rfl
def aIX(s:aC)(v:Value)(hs:List HP)(_:Piece):Prop:=∃L:GL,v=.tuple #[.pointer (some ⟨L.t,0,none⟩),iv 0]∧hs=[uN L s (s.domains.map fun _=>xG)]
theorem aLS(s:aC)(hH:s.dJ)(A1 A2 A3 A4:Option Addr)(n1 k1 n2 k2 n3 k3 n4 k4:Nat)(w:World)(hW:iE w s A1 n1 A2 n2 A3 n3 A4 n4):
  Cz 100 #[.agg #[.slice A1 n1 k1,.slice A2 n2 k2,.slice A3 n3 k3,.slice A4 n4 k4]] w (fun y w'=>(∃v hs q,y=.returned v∧q.w=w'∧aIX s v hs q∧fV w hs q)∧Below w.heap.size w w'):=by
 have hnd:=hH.t.nd
 obtain⟨rd,hrd,hn2,Pm⟩:=hW.dom
 have hrd:=aHs hrd
 subst hrd;subst hn2
 have lB:(s.domains.map fun _=>xG).length=s.domains.length:=by simp
 refine aO func100 ntmps100 ?_;refine aA ?_;refine bN fun g1=>?_;refine aA ?_;refine aQ (fun w1 t=>Re s A1 A2 A3 A4 n1 k1 _ k2 n3 k3 n4 k4 w1 (hW.le (t.started (by simp))) hH.t.Rc) ?_;refine aA ?_;refine kd (iI rfl) ?_;refine bN fun g2=>?_;refine aA ?_;refine lI 256 7 ?_;refine bM [(18,iv 0),(17,iv s.domains.length),(16,.slice A2 s.domains.length k2),(5,pt g2)] ?_;refine eT (fun m e R H=>∃(i:Nat) (A:Option Addr) (k:Nat),i≤s.domains.length∧m=s.domains.length - i∧e=[(18,iv i),(17,iv s.domains.length),(16,.slice A2 s.domains.length k2),(5,pt g2)]∧R=[all w]∧H=[HP.own 256 7 (.slice A i k) i ((pE s (s.domains.map fun _=>xG)).take i).flatten,HP.aE g2 254 [.slice A i k],HP.aE g1 30 [.slice A1 n1 k1,.slice A2 s.domains.length k2,.slice A3 n3 k3,.slice A4 n4 k4]]) s.domains.length ⟨0,none,0,by omega,rfl,rfl,rfl,by simp⟩ fun m e R H hI=>?_;obtain⟨i,A,k,hi,rfl,rfl,rfl,rfl⟩:=hI;refine aA ?_;refine aG rfl (fun hlt=>?_) (fun hge=>?_)
 ·have hlt:i < s.domains.length:=by omega
  obtain⟨c,hc⟩:=get_some hlt;obtain⟨b,off,hB,hro⟩:=aH.row Pm (fun r hr=>by obtain⟨q,_,rfl⟩:=List.mem_map.1 hr;rfl) (r:=[iv c.above,iv c.delay,.bool c.ret]) (by rw[List.getElem?_map,hc];rfl) hlt;subst hB
  have hrow:(pE s (s.domains.map fun _=>xG))[i]? =some (nS c xG):=Je hc (by rw[List.getElem?_map,hc];rfl)
  have cX:((pE s (s.domains.map fun _=>xG)).take (i+1)).flatten=((pE s (s.domains.map fun _=>xG)).take i).flatten++nS c xG:=by
   rw[List.take_succ,hrow,List.flatten_append];simp
  refine aA ?_;refine kd (dat i (off+i*3)) ?_;refine aA ?_;refine bY fun g3=>?_;refine aA ?_;refine iZ [2,3,4,5,6] ?_;refine bJ 0 ?_;refine bJ 1 ?_;refine aK 2 ?_;refine aK 3 ?_;refine aK 4 ?_;refine aK 5 ?_;refine aK 6 ?_ (cK:=kQ (zs:=[iv 0,iv 0,.bool false,.int .u8 0,iv 0,.bool false,.bool false]) (L:=[(0,3),(3,1),(4,1),(5,1),(6,1)]) (gY (by kernel_rfl)) (by kernel_rfl) rfl (by simp[eZ,gD,Value.cells];rfl));refine aL 7 ?_;refine eG fun g5=>?_;refine bA ?_;refine aL 8 ?_;refine gZ 2 7 48 1 (el:=256) (by kernel_rfl) (by kernel_rfl) (by decide) rfl rfl rfl (lW 0 rfl rfl) (by simp[Value.oneCell']) rfl (by omega) (by omega) (by decide) fun A' k'=>?_;dsimp only[List.set];refine cG ?_;refine aL 9 ?_;refine bE ?_;refine cG ?_;refine aL 10 ?_;refine bE ?_;refine cG ?_;refine aL 11 ?_;refine eO rfl rfl ?_;dsimp only[List.set];refine cG ?_;refine dX ?_;refine aA ?_;refine aT [2,3,4] rfl (by decide) (fun _ h=>h) ?_;exact eR (s.domains.length - (i+1)) ⟨i+1,A',k',hlt,rfl,rfl,rfl,by rw[cX]⟩
 ·obtain rfl:i=s.domains.length:=by omega
  refine aA ?_
  have hfull:(pE s (s.domains.map fun _=>xG)).take s.domains.length=pE s (s.domains.map fun _=>xG):=List.take_of_length_le (by simp[pE])
  rw[hfull];refine aT [1,0] rfl (by decide) (fun _ h=>h) ?_;refine mS ?_;refine dB [] [] [0] (by simp) rfl (by decide) (by decide) fun q _ _ hfr=>?_;exact fT rfl rfl rfl fun w1 t=>⟨⟨_,_,⟨w1,q.Z⟩,rfl,rfl,⟨⟨g2,A,k⟩,rfl,rfl⟩,t.newR (by simp) (by simp) (hfr (by simp) (by simp))⟩,t.below (by simp)⟩
theorem aJn{N:cE}{w0:World}{e:Env}{R:List Piece}{H:List HP}{Q:Exit→Act→World→Prop}{ops:Array Oper}{rest:List Oper}{d:Nat}{ty:TypeId}{pos:String}{aI:Array Edge}{x:Operand}{n:Int}{t kt et:TypeId}(ht:Tryz.prog.underlying t=some (.map kt et))(hx:e.ev x=some (iv n))(hd:d < N.n)(k:∀g,XK N w0 (wpList Tryz.prog ops Q rest) ((d,.map (some g))::e) R (HP.map g []::H)):XK N w0 (wpList Tryz.prog ops Q (⟨some d,.makeMap t (some x),ty,pos,aI,none⟩::rest)) e R H:=
 rT rfl fun a w hr st=>⟨.map (some w.heap.size),w.alloc (.map #[] 0),by simp[execOp,Instr.makeMap,hr.ev hx,run_underlying ht,asInt,asIntOf],k w.heap.size _ _ (hr.put hd _) (st.new (Rm w _) ⟨⟨Nat.le_refl _,by simp⟩,#[],0,heap_alloc_new w _,rfl⟩)⟩
def aIO(s:aC)(v:Value)(hs:List HP)(_:Piece):Prop:=∃L:RL,v=.tuple #[.pointer (some ⟨L.t,0,none⟩),iv 0]∧hs=[oL L s (s.aY.map fun _=>qD)]
theorem aMA(l:List (Int×Value))(k:Int)(v:Value)(h:lY l k=none):nH l k v=l++[(k,v)]:=by
 induction l with
 | nil=>rfl
 | cons p l ih =>
  obtain⟨a,b⟩:=p;rw[Ot] at h;rw[nH];split at h
  ·cases h
  ·rename_i hne
   rw[if_neg hne,ih h];rfl
theorem aKW(s:aC)(hH:s.dJ)(A1 A2 A3 A4:Option Addr)(n1 k1 n2 k2 n3 k3 n4 k4:Nat)(w:World)(hW:iE w s A1 n1 A2 n2 A3 n3 A4 n4):
  Cz 101 #[.agg #[.slice A1 n1 k1,.slice A2 n2 k2,.slice A3 n3 k3,.slice A4 n4 k4]] w (fun y w'=>(∃v hs q,y=.returned v∧q.w=w'∧aIO s v hs q∧fV w hs q)∧Below w.heap.size w w'):=by
 have gN:=hH.t.nr
 obtain⟨rr,cQ,sL,hst⟩:=hW.zW
 have cQ:=aFr cQ
 subst cQ;subst sL
 have nQ:(s.aY.map fun _=>qD).length=s.aY.length:=by simp
 refine aO func101 ntmps101 ?_;refine aA ?_;refine bN fun g1=>?_;refine aA ?_;refine aQ (fun w1 t=>Re s A1 A2 A3 A4 n1 k1 n2 k2 _ k3 n4 k4 w1 (hW.le (t.started (by simp))) hH.t.Rc) ?_;refine aA ?_;refine aJn (kt:=3) (et:=261) (by kernel_rfl) rfl (by decide) fun gm=>?_;refine kd (iI rfl) ?_;refine bN fun g2=>?_;refine aA ?_;refine bM [(22,iv 0),(21,iv s.aY.length),(20,.slice A3 s.aY.length k3),(5,pt g2)] ?_;refine eT (fun m e R H=>∃i:Nat,i≤s.aY.length∧m=s.aY.length - i∧e=[(22,iv i),(21,iv s.aY.length),(20,.slice A3 s.aY.length k3),(5,pt g2)]∧R=[all w]∧H=[HP.aE g2 259 [.map (some gm)],HP.map gm ((List.range i).map (Ld s (s.aY.map fun _=>qD))),HP.aE g1 30 [.slice A1 n1 k1,.slice A2 n2 k2,.slice A3 s.aY.length k3,.slice A4 n4 k4]]) s.aY.length ⟨0,by omega,rfl,rfl,rfl,rfl⟩ fun m e R H hI=>?_;obtain⟨i,hi,rfl,rfl,rfl,rfl⟩:=hI;refine aA ?_;refine aG rfl (fun hlt=>?_) (fun hge=>?_)
 ·have hlt:i < s.aY.length:=by omega
  obtain⟨c,hc⟩:=get_some hlt;obtain⟨b,off,hB,hro⟩:=aH.row hst (fun r hr=>by obtain⟨q,_,rfl⟩:=List.mem_map.1 hr;rfl) (r:=[iv c]) (by rw[List.getElem?_map,hc];rfl) hlt;subst hB
  have lF:nH ((List.range i).map (Ld s (s.aY.map fun _=>qD))) (i:Int) (iR c qD)=(List.range (i+1)).map (Ld s (s.aY.map fun _=>qD)):=by
   rw[aMA _ _ _ (by
    have:=aGa (fun j=>iR (s.aY.getD j 0) ((s.aY.map fun _=>qD).getD j qD)) i (i:Int)
    rw[if_neg (by simp[bZ])] at this
    exact this),List.range_succ,List.map_append]
   congr 1
   simp[Ld,List.getD_eq_getElem?_getD,hc]
  refine aA ?_;refine kd (dat i (off+i*1)) ?_;refine aA ?_;refine bY fun g3=>?_;refine aA ?_;refine iZ [1,2,3,5,6,7] ?_;refine bJ 0 ?_;refine aK 1 ?_;refine aK 2 ?_;refine aK 3 ?_;refine bJ 4 ?_;refine aK 5 ?_;refine aK 6 ?_;refine aK 7 ?_ (cK:=kQ (zs:=[iv 0,iv 0,.bool false,.bool false]) (L:=[(0,1),(1,1),(2,1),(3,1)]) (gY (by kernel_rfl)) (by kernel_rfl) rfl (by simp[eZ,gD,Value.cells];rfl));refine aL 8 ?_;refine Hl (kt:=3) (et:=261) (kd:=.i64) (l:=(List.range i).map (Ld s (s.aY.map fun _=>qD))) (v:=iR c qD) 2 (by kernel_rfl) (by kernel_rfl) rfl rfl rfl rfl ?_;rw[lF];dsimp only[List.set];refine cG ?_;refine dX ?_;refine aA ?_;refine aT [1,2,3] rfl (by decide) (fun _ h=>h) ?_;exact eR (s.aY.length - (i+1)) ⟨i+1,hlt,rfl,rfl,rfl,rfl⟩
 ·obtain rfl:i=s.aY.length:=by omega
  refine aA ?_;refine mS ?_;refine dB [] [] [0] (by simp) rfl (by decide) (by decide) fun q _ _ hfr=>?_;exact fT rfl rfl rfl fun w1 t=>⟨⟨_,_,⟨w1,q.Z⟩,rfl,rfl,⟨⟨g2,gm⟩,rfl,by simp[oL,mX]⟩,t.newR (by simp) (by simp) (hfr (by simp) (by simp))⟩,t.below (by simp)⟩
end
section
structure jA where
 id:Int
 wr:Bool
 cF:Int
 val:Int
def jA.cells(t:jA):List Value:=[iv t.id,.bool t.wr,iv t.cF,.int .u32 t.val]
def QH(v:Value):Option jA→HP
 | none=>Nk (∃A,v=.slice A 0 0)
 | some t=>HP.own 306 4 v 1 t.cells
structure BL where
 b:Nat
 gr:Nat
 gw:Nat
def oN(ws:List (Option jA))(i:Nat):Nat:=if((ws[i]?).join).isSome then 1 else 0
def aEb(g n:Nat)(ws:List (Option jA)):HP:=HP.ex fun vs:List Value=>HP.many (HP.aE g 311 vs::Nk (vs.length=n)::(List.range n).map fun i=>QH (vs.getD i undef) (ws[i]?).join)
def xV(L:BL)(ms:List Int)(ws:List (Option jA))(aZ:Int):HP:=HP.many [HP.aE L.b 269 [.slice (some ⟨L.gr,0,none⟩) ms.length ms.length,.slice (some ⟨L.gw,0,none⟩) ms.length ms.length,iv aZ],HP.aE L.gr 3 (aN ms),aEb L.gw ms.length ws]
structure Hj(w:World)(L:BL)(ms:List Int)(ws:List (Option jA))(aZ:Int):Prop where
 r0:dP w L.b 0 [.slice (some ⟨L.gr,0,none⟩) ms.length ms.length,.slice (some ⟨L.gw,0,none⟩) ms.length ms.length,iv aZ]
 rg:dP w L.gr 0 (aN ms)
 wt:∀i,i < ms.length→∃A c,fK w L.gw i (.slice A (oN ws i) c)
theorem Hj.below{w w':World}{L:BL}{ms:List Int}{ws:List (Option jA)}{aZ:Int}(h:Hj w L ms ws aZ)(hb:Below w.heap.size w w'):Hj w' L ms ws aZ:=
 ⟨h.r0.below hb,h.rg.below hb,fun i hi=>by
  obtain⟨A,c,h1,h2⟩:=h.wt i hi
  exact⟨A,c,Nat.lt_of_lt_of_le h1 hb.size,(hb.cell (p:=⟨_,i,none⟩) h1).trans h2⟩⟩
theorem aJg{L:BL}{ms:List Int}{ws:List (Option jA)}{aZ:Int}{F:Nat→Prop}{w:World}(h:(xV L ms ws aZ).sat F w):Hj w L ms ws aZ:=by
 obtain⟨G,g1,g2,_⟩:=h;refine⟨uI (g1 0 _ rfl).2,uI (g1 1 _ rfl).2,fun i hi=>?_⟩;obtain⟨vs,G',k1,_,_⟩:=g1 2 _ rfl
 have hb:=uI (k1 0 _ rfl).2
 have hl:vs.length=ms.length:=k1 1 _ rfl
 obtain⟨v,hv⟩:=get_some (l:=vs) (i:=i) (by omega)
 have hq:=k1 (i+2) (QH (vs.getD i undef) (ws[i]?).join) (by
  rw[List.getElem?_cons_succ,List.getElem?_cons_succ,List.getElem?_map,List.getElem?_range hi];rfl)
 rw[List.getD_eq_getElem?_getD,hv] at hq
 have hc:=hb.at_ hv
 rw[Nat.zero_add] at hc;unfold oN;cases hj:(ws[i]?).join with
 | none=>
  rw[hj] at hq;obtain⟨A,hA⟩:∃A,v=.slice A 0 0:=hq;subst hA;exact⟨A,0,hc⟩
 | some t=>
  rw[hj] at hq;obtain⟨A,c,hA,_⟩:=zF (Y:=fun _=>True) hq (fun _ _=>trivial)
  have hA:v=.slice A 1 c:=hA
  subst hA;exact⟨A,c,hc⟩
section
variable{N:cE}{w0 w:World}{e:Env}{R:List Piece}{H:List HP}{K:Act→World→Prop}{L:BL}{ms:List Int}{ws:List (Option jA)}{aZ:Int}
theorem St.aHM(t:St w0 R H w)(i:Nat)(hi:H[i]? =some (xV L ms ws aZ)):Hj w L ms ws aZ:=by
 obtain⟨F,h1,h2,_⟩:=t.chunk hi;exact aJg h1
end
theorem aAR(L:BL)(ms:List Int)(ws:List (Option jA))(aZ:Int)(i:Int)(w:World)(hR:Hj w L ms ws aZ):
  Cz 193 #[.pointer (some ⟨L.b,0,none⟩),iv i] w (Rt (.bool (bZ ms.length i)) w):=by
 have k0:=hR.r0.at_ (j:=0) rfl
 refine aO func193 ntmps193 ?_;refine aA ?_;refine bX (t:=11) rfl (fun h=>?_) (fun h=>?_)
 ·refine aA ?_;refine iS (by simp) ?_;unfold bZ
  congr 1
  simp;omega
 ·refine aA ?_;refine iS (by simp) ?_
  have:bZ ms.length i=false:=decide_eq_false (by omega)
  rw[this]
theorem aHK(L:BL)(ms:List Int)(ws:List (Option jA))(aZ:Int)(i:Nat)(hi:i < ms.length)(w:World)(hR:Hj w L ms ws aZ):
  Cz 153 #[.pointer (some ⟨L.b,0,none⟩),iv (i:Int)] w (Rt (iv (oN ws i:Nat)) w):=by
 have k1:=hR.r0.at_ (j:=1) rfl
 obtain⟨A,c,hw⟩:=hR.wt i hi
 have hin:bZ ms.length (i:Int)=true:=decide_eq_true (by omega)
 refine aO func153 ntmps153 ?_;refine aA ?_;refine aQ (fun w1 t=>aAR L ms ws aZ i w1 (hR.below (t.below (by simp)))) ?_;rw[hin];refine aB ?_;exact dF
def aJf(ms:List Int)(v:Value)(hs:List HP)(_:Piece):Prop:=∃L:BL,v=.tuple #[.pointer (some ⟨L.b,0,none⟩),iv 0]∧hs=[xV L ms (ms.map fun _=>none) 0]
theorem aJM{N:cE}{w0:World}{e:Env}{R:List Piece}{H:List HP}{K:Act→World→Prop}{g n:Nat}{β:Type}(l:List β)(hl:l.length=n)(i:Nat)(hi:H[i]? =some (HP.aE g 311 (List.replicate n (sn))))(h:XK N w0 K e R (H.set i (aEb g n (l.map fun _=>none)))):XK N w0 K e R H:=by
 refine oJ (q:=aEb g n (l.map fun _=>none)) i hi (fun F w hs=>⟨List.replicate n (sn),fun k b=>k=0∧F b,fun k p hk=>?_,fun k b h=>h.2,fun k j b hkj h1 h2=>by have:=h1.1;have:=h2.1;omega⟩) h
 match k,hk with
 | 0,hk=>
  simp at hk;subst hk
  show(HP.aE g 311 (List.replicate n (sn))).sat (fun b=>0=0∧F b) w
  rw[show(fun b=>0=0∧F b)=F by funext b;simp];exact hs
 | 1,hk=>cases hk;show(List.replicate n (Value.slice none 0 0)).length=n;simp
 | k + 2, hk =>
  rw[List.getElem?_cons_succ,List.getElem?_cons_succ,List.getElem?_map] at hk;cases hr:(List.range n)[k]? with
  | none=>rw[hr] at hk;cases hk
  | some j =>
   rw[hr] at hk
   have hj:j < n:=List.mem_range.1 (List.mem_of_getElem? hr)
   have:((l.map fun _=>(none:Option jA))[j]?).join=none:=by
    rw[List.getElem?_map];cases l[j]? <;>rfl
   simp only[Option.map_some,Option.some.injEq,this] at hk;subst hk;refine⟨none,?_⟩;rw[List.getD_eq_getElem?_getD,List.getElem?_replicate,if_pos hj];rfl
theorem aQP(ms:List Int)(hml:ms.length≤6)(hm:∀m∈ms,0≤m∧m≤8)(A:Option Addr)(c:Nat)(w:World)(hs:aH (all w) 1 A ms.length (aN ms)):
  Cz 105 #[.slice A ms.length c] w (fun y w'=>(∃v hs q,y=.returned v∧q.w=w'∧aJf ms v hs q∧fV w hs q)∧Below w.heap.size w w'):=by
 refine aO func105 ntmps105 ?_;refine eA ?_;refine fU ?_;refine bE ?_;refine bE ?_;refine fB ?_;refine eA ?_;refine eA ?_;refine fU ?_;refine bE ?_;refine bE ?_;refine bE ?_;refine aB ?_;refine aG rfl (fun h=>absurd h (by omega)) (fun _=>?_);refine nV ?_;refine eJ ?_;refine Ru (fun e R H=>∃gr gw g3,e=[(4,pt g3),(0,.slice A ms.length c)]∧R=[all w]∧H=[HP.aE g3 269 [.slice (some ⟨gr,0,none⟩) ms.length ms.length,.slice (some ⟨gw,0,none⟩) ms.length ms.length,iv 0],HP.aE gr 3 (List.replicate ms.length (iv 0)),HP.aE gw 311 (List.replicate ms.length (sn))]) ?_ ?_
 ·refine qM 6 (by kernel_rfl) (by kernel_rfl) ?_;refine bP 0 ?_;refine bP 1 ?_;refine bP 3 ?_;refine bP 4 ?_;refine Ju 2 5 rfl rfl (by kernel_rfl) ?_ ?_
  ·refine lU (n:=ms.length) 8 (el:=3) (z:=iv 0) (by kernel_rfl) (by kernel_rfl) rfl rfl rfl (by omega) (by omega) (by decide) fun gr=>?_;refine mT ?_;refine cJ 5 ?_;refine lU (n:=ms.length) 24 (el:=311) (z:=sn) (by kernel_rfl) (by kernel_rfl) rfl rfl rfl (by omega) (by omega) (by decide) fun gw=>?_;refine mT ?_;refine cJ 6 ?_;refine kd (iI rfl) ?_;refine eS ?_;refine cJ 7 ?_;refine bN fun g3=>?_;refine eS ?_;refine cJ 8 ?_;refine bE ?_;refine eS ?_;refine kK ?_;refine eJ ?_;exact nL ⟨gr,gw,g3,rfl,rfl,rfl⟩
  ·refine lU (n:=ms.length) 24 (el:=311) (z:=sn) (by kernel_rfl) (by kernel_rfl) rfl rfl rfl (by omega) (by omega) (by decide) fun gw=>?_;refine mT ?_;refine cJ 2 ?_;refine lU (n:=ms.length) 8 (el:=3) (z:=iv 0) (by kernel_rfl) (by kernel_rfl) rfl rfl rfl (by omega) (by omega) (by decide) fun gr=>?_;refine mT ?_;refine cJ 6 ?_;refine kd (iI rfl) ?_;refine eS ?_;refine cJ 7 ?_;refine bN fun g3=>?_;refine eS ?_;refine cJ 8 ?_;refine bE ?_;refine eS ?_;refine kK ?_;refine eJ ?_;exact nL ⟨gr,gw,g3,rfl,rfl,rfl⟩
 rintro _ _ _ ⟨gr,gw,g3,rfl,rfl,rfl⟩;refine aB ?_;refine bM [(20,iv 0),(19,iv ms.length),(18,.slice A ms.length c),(4,pt g3)] ?_
 refine eT (fun m e R H=>∃i:Nat,i≤ms.length∧m=ms.length - i∧e=[(20,iv i),(19,iv ms.length),(18,.slice A ms.length c),(4,pt g3)]∧R=[all w]∧H=[HP.aE g3 269 [.slice (some ⟨gr,0,none⟩) ms.length ms.length,.slice (some ⟨gw,0,none⟩) ms.length ms.length,iv 0],HP.aE gr 3 (aN (kG ms (ms.map fun _=>0) i)),HP.aE gw 311 (List.replicate ms.length (sn))]) ms.length ⟨0,by omega,rfl,rfl,rfl,by
  rw[Uh]
  have:List.replicate ms.length (Value.int .i64 0)=aN (ms.map fun _=>0):=by
   refine List.ext_getElem? fun j=>?_;simp only[aN,List.map_map,List.getElem?_replicate,List.getElem?_map]
   by_cases h:j < ms.length
   ·rw[if_pos h,List.getElem?_eq_getElem h];rfl
   ·rw[if_neg h,List.getElem?_eq_none (by omega)];rfl
  rw[this]⟩ fun m e R H hI=>?_
 obtain⟨i,hi,rfl,rfl,rfl,rfl⟩:=hI
 have Vg:=Uj (vs:=ms) (old:=ms.map fun _=>0) (n:=ms.length) rfl (by simp) hi
 refine aB ?_;refine aG rfl (fun hlt=>?_) (fun hge=>?_)
 ·have hlt:i < ms.length:=by omega
  obtain⟨v,hv⟩:=get_some hlt
  have hvb:=hm v (List.mem_of_getElem? hv)
  obtain⟨b,off,hB,hz,hc⟩:=hs.2 (by omega);subst hB
  have hro:fK w b (off+i) (iv v):=⟨hz,hc i _ (by simp[aN,hv])⟩
  have jF:(aN (kG ms (ms.map fun _=>0) i)).length=ms.length:=by simp[aN,Vg]
  have lF:(aN (kG ms (ms.map fun _=>0) i)).set i (iv v)=aN (kG ms (ms.map fun _=>0) (i+1)):=by
   rw[←Ui (by simp) hv,aN,aN,List.map_set]
  refine aA ?_;refine kd (dat i (off+i)) ?_;refine aB ?_;refine bX (t:=27) rfl (fun h=>absurd h (by omega)) (fun _=>?_);refine aB ?_;refine aG rfl (fun h=>absurd h (by omega)) (fun _=>?_);refine aB ?_;rw[lF];refine aB ?_;exact eR (ms.length - (i+1)) ⟨i+1,hlt,rfl,rfl,rfl,rfl⟩
 ·obtain rfl:i=ms.length:=by omega
  rw[Uk rfl (by simp)];refine aB ?_;refine aJM ms rfl 2 rfl ?_;dsimp only[List.set];refine vK ?_;refine dB [] [] [0] (by simp) rfl (by decide) (by decide) fun q _ _ hfr=>?_;exact fT rfl rfl rfl fun w1 t=>⟨⟨_,_,⟨w1,q.Z⟩,rfl,rfl,⟨⟨g3,gr,gw⟩,rfl,rfl⟩,t.newR (by simp) (by simp) (hfr (by simp) (by simp))⟩,t.below (by simp)⟩
end
section
structure aU where
 ck:List eN
 dm:List fW
 ln:List jX
 dv:List (dW×fD)
 wt:List (Option jA)
 aZ:Int
def hw0(s:aC):aU:=⟨s.aF.map xK,s.domains.map fun _=>xG,s.aY.map fun _=>qD,s.aD.map fun d=>(Dp d,Oi),s.aD.map fun _=>none,0⟩
structure HL where
 h:Nat
 T:TL
 G:GL
 R:RL
 B:BL
 A:Option Addr
 c:Nat
 ds:List (FL×Nat)
def Jd(d:cH)(l:FL×Nat):List Value:=[iv d.clock,iv d.domain,iv d.reset,.int .u32 d.iJ,.pointer (some ⟨l.1.f,0,none⟩),.pointer (some ⟨l.2,0,none⟩)]
def vG(ds:List cH)(ls:List (FL×Nat)):List (List Value):=List.zipWith Jd ds ls
def Qq(d:cH)(p:(FL×Nat)×(dW×fD)):HP:=HP.many [gT p.1.1 d p.2.1,tE p.1.2 p.2.2]
def xE(ds:List cH)(ls:List (FL×Nat))(xs:List (dW×fD)):List HP:=List.zipWith Qq ds (ls.zip xs)
def jT(s:aC):List Int:=s.aD.map fun d=>(d.aS.length:Int)
def Vv(L:HL)(n:Nat):List Value:=[.pointer (some ⟨L.T.t,0,none⟩),.pointer (some ⟨L.G.t,0,none⟩),.pointer (some ⟨L.R.t,0,none⟩),.pointer (some ⟨L.B.b,0,none⟩),.slice L.A n L.c]
def dM(L:HL)(s:aC)(x:aU):HP:=HP.many [HP.aE L.h 203 (Vv L s.aD.length),pG L.T s x.ck,uN L.G s x.dm,oL L.R s x.ln,xV L.B (jT s) x.wt x.aZ,HP.own 210 6 (.slice L.A s.aD.length L.c) s.aD.length (vG s.aD L.ds).flatten,HP.many (xE s.aD L.ds x.dv)]
def aIQ(s:aC)(v:Value)(hs:List HP)(_:Piece):Prop:=∃L:HL,v=.tuple #[.pointer (some ⟨L.h,0,none⟩),iv 0]∧hs=[dM L s (hw0 s)]∧L.T.fa.length=s.aF.length∧L.ds.length=s.aD.length
theorem Fb(s:aC):(jT s).length=s.aD.length:=by simp[jT]
theorem aPl{ds:List cH}{i:Nat}{d:cH}(hd:ds[i]? =some d){ls:List (FL×Nat)}(hl:ls.length=i)(l:FL×Nat):xE (ds.take (i+1)) (ls++[l]) ((ds.take (i+1)).map fun d=>(Dp d,Oi))=xE (ds.take i) ls ((ds.take i).map fun d=>(Dp d,Oi))++[Qq d (l,(Dp d,Oi))]:=by
 have hlt:i < ds.length:=wV hd
 rw[List.take_succ,hd,Option.toList_some,List.map_append];unfold xE;rw[List.zip_append (by simp;omega),List.zipWith_append (by simp;omega)];rfl
theorem aPk{ds:List cH}{i:Nat}{d:cH}(hd:ds[i]? =some d){ls:List (FL×Nat)}(hl:ls.length=i)(l:FL×Nat):(vG (ds.take (i+1)) (ls++[l])).flatten=(vG (ds.take i) ls).flatten++Jd d l:=by
 have hlt:i < ds.length:=wV hd
 rw[List.take_succ,hd,Option.toList_some];unfold vG;rw[List.zipWith_append (by simp;omega),List.flatten_append];simp
theorem qK{N:cE}{w0:World}{e:Env}{R:List Piece}{H:List HP}{K:Act→World→Prop}{p:HP}{ps:List HP}(h:XK N w0 K e R (HP.many (ps++[p])::H)):XK N w0 K e R (HP.many ps::p::H):=fun a w hr st=>
 (Xv (ps:=ps) (p:=p) h) a w hr (st.weak (fun _ h=>h) (fun i=>match i with
  | 0=>1
  | 1=>0
  | i+2=>i+2) (fun i j _ _ he=>by
   match i,j with
   | 0,0=>rfl
   | 0,1=>simp at he
   | 0,j+2=>simp at he
   | 1,0=>simp at he
   | 1,1=>rfl
   | 1,j+2=>simp at he
   | i+2,0=>simp at he
   | i+2,1=>simp at he
   | i+2,j+2=>simpa using he) (fun i p hi=>by
   match i,hi with
   | 0,hi=>simpa using hi
   | 1,hi=>simpa using hi
   | i+2,hi=>simpa using hi))
theorem aRI{N:cE}{w0:World}{e:Env}{R:List Piece}{H:List HP}{K:Act→World→Prop}(h:XK N w0 K e R (HP.many []::H)):XK N w0 K e R H:=nM (p:=HP.many []) (fun w=>⟨fun _ _=>False,fun i p hp=>by simp at hp,fun _ _ h=>h,fun _ _ _ _ h=>h.elim⟩) h
theorem aOg(s:aC)(hH:s.dJ)(A1 A2 A3 A4:Option Addr)(n1 k1 n2 k2 n3 k3 n4 k4:Nat)(w:World)(hW:iE w s A1 n1 A2 n2 A3 n3 A4 n4):
  Cz 48 #[.agg #[.slice A1 n1 k1,.slice A2 n2 k2,.slice A3 n3 k3,.slice A4 n4 k4]] w (fun y w'=>(∃v hs q,y=.returned v∧q.w=w'∧aIQ s v hs q∧fV w hs q)∧Below w.heap.size w w'):=by
 have qF:=hH.t.nv
 obtain⟨rv,Pn,tZ,tW⟩:=hW.dev;obtain⟨da,lB,rfl,hda⟩:=aDu Pn;subst tZ;refine aO func48 ntmps48 ?_;refine aB ?_;refine bN fun g1=>?_;refine aB ?_;refine aQ (fun w1 t=>Re s A1 A2 A3 A4 n1 k1 n2 k2 n3 k3 _ k4 w1 (hW.le (t.started (by simp))) hH.t.Rc) ?_;refine aB ?_;refine dS (aI4 s) (fun w1 t=>aQt s hH A1 A2 A3 A4 n1 k1 n2 k2 n3 k3 _ k4 w1 (hW.le (t.started (by simp)))) ?_;rintro _ _ q1 ⟨LT,rfl,rfl,hfa⟩ _;dsimp only[List.cons_append,List.nil_append];refine aB ?_;refine dS (aIX s) (fun w1 t=>aLS s hH A1 A2 A3 A4 n1 k1 n2 k2 n3 k3 _ k4 w1 (hW.le (t.started (by simp)))) ?_;rintro _ _ q2 ⟨LG,rfl,rfl⟩ _;dsimp only[List.cons_append,List.nil_append];refine aB ?_;refine dS (aIO s) (fun w1 t=>aKW s hH A1 A2 A3 A4 n1 k1 n2 k2 n3 k3 _ k4 w1 (hW.le (t.started (by simp)))) ?_;rintro _ _ q3 ⟨LR,rfl,rfl⟩ _;dsimp only[List.cons_append,List.nil_append];refine aB ?_;refine bN fun g2=>?_;refine aB ?_;refine lU (n:=s.aD.length) 8 (el:=3) (z:=iv 0) (by kernel_rfl) (by kernel_rfl) rfl rfl rfl (by omega) (by omega) (by decide) fun gm=>?_;refine aB ?_;refine lI 210 6 ?_;refine aRI ?_;refine aT [0,1,2,3,4,5,6] rfl (by decide) (R':=[all w]) (by simp) ?_;refine bM [(56,iv 0),(55,iv s.aD.length),(54,.slice A4 s.aD.length k4),(10,.slice (some ⟨gm,0,none⟩) s.aD.length s.aD.length),(9,pt g2)] ?_;refine eT (fun m e R H=>∃(i:Nat) (A:Option Addr) (c:Nat) (ls:List (FL×Nat)),i≤s.aD.length∧ls.length=i∧m=s.aD.length - i∧e=[(56,iv i),(55,iv s.aD.length),(54,.slice A4 s.aD.length k4),(10,.slice (some ⟨gm,0,none⟩) s.aD.length s.aD.length),(9,pt g2)]∧R=[all w]∧H=[HP.many (xE (s.aD.take i) ls ((s.aD.take i).map fun d=>(Dp d,Oi))),HP.own 210 6 (.slice A i c) i (vG (s.aD.take i) ls).flatten,HP.aE gm 3 (aN (kG (jT s) ((jT s).map fun _=>0) i)),HP.aE g2 203 [.pointer (some ⟨LT.t,0,none⟩),.pointer (some ⟨LG.t,0,none⟩),.pointer (some ⟨LR.t,0,none⟩),.pointer none,.slice A i c],oL LR s (hw0 s).ln,uN LG s (hw0 s).dm,pG LT s (hw0 s).ck]) s.aD.length ⟨0,none,0,[],by omega,rfl,rfl,rfl,rfl,?_⟩ fun m e R H hI=>?_
 ·have:List.replicate s.aD.length (Value.int .i64 0)=aN (kG (jT s) ((jT s).map fun _=>0) 0):=by
   rw[Uh];refine List.ext_getElem? fun j=>?_;simp only[aN,jT,List.map_map,List.getElem?_replicate,List.getElem?_map]
   by_cases h:j < s.aD.length
   ·rw[if_pos h,List.getElem?_eq_getElem h];rfl
   ·rw[if_neg h,List.getElem?_eq_none (by omega)];rfl
  rw[this];rfl
 obtain⟨i,A,c,ls,hi,nQ,rfl,rfl,rfl,rfl⟩:=hI
 have hml:=Fb s
 have Vg:=Uj (vs:=jT s) (old:=(jT s).map fun _=>0) (n:=s.aD.length) hml (by simp[jT]) hi
 refine aB ?_;refine aG rfl (fun hlt=>?_) (fun hge=>?_)
 ·have hlt:i < s.aD.length:=by omega
  obtain⟨d,hd⟩:=get_some hlt;obtain⟨⟨a1,a2⟩,ha⟩:=get_some (l:=da) (i:=i) (by omega);obtain⟨aCF,aG4⟩:=hda i d _ hd ha
  have hfit:=hH.t.aD i d hd
  obtain⟨b,off,hB,hro⟩:=aH.row tW (Yr (f:=yT) (es:=s.aD) (bs:=da) (sz:=6) lB (fun _ _=>rfl)).2 (Sm (f:=yT) hd ha) hlt;subst hB;refine aA ?_;refine kd (dat i (off+i*6)) ?_;refine aB ?_;refine bY fun g3=>?_
  have hmi:(jT s)[i]? =some (d.aS.length:Int):=by rw[jT,List.getElem?_map,hd];rfl
  have jF:(aN (kG (jT s) ((jT s).map fun _=>0) i)).length=s.aD.length:=by simp[aN,Vg]
  have lF:(aN (kG (jT s) ((jT s).map fun _=>0) i)).set i (iv d.aS.length)=aN (kG (jT s) ((jT s).map fun _=>0) (i+1)):=by
   rw[←Ui (by simp) hmi,aN,aN,List.map_set]
  refine aB ?_;refine dS (aJa d) (fun w1 t=>aL3 d (by have:=hfit.2.2.2.2.2.2.2.2.1;omega) (fun r hr=>by have:=hfit.2.2.2.2.2.2.2.2.2.1 r hr;omega) a1.1 a1.2 w1 (aH.le aCF (t.le (by simp)))) ?_;rintro _ _ q1 ⟨LF,rfl,rfl⟩ _;dsimp only[List.cons_append,List.nil_append];refine aB ?_;refine aQ (fun w1 t=>Tu LF d (Dp d) w1 (t.aDl 0 rfl)) ?_;refine aB ?_;rw[lF];refine aA ?_;refine iZ [2,3,4,5,6,7,8,9,10,11,12] ?_;refine bJ 0 ?_;refine bJ 1 ?_;refine bJ 13 ?_;refine aK 2 ?_;refine aK 3 ?_;refine aK 4 ?_;refine aK 5 ?_;refine aK 6 ?_;refine aK 7 ?_;refine aK 8 ?_;refine aK 9 ?_;refine aK 10 ?_;refine aK 11 ?_;refine aK 12 ?_;refine aL 14 ?_;refine dS (fun v hs _=>∃g,v=pt g∧hs=[HP.aE g 266 [iv 0,iv 0]]) (fun w1 t=>aLE w1) ?_;rintro _ _ q2 ⟨gq,rfl,rfl⟩ _;dsimp only[List.cons_append,List.nil_append];refine bA ?_;refine aL 15 ?_;refine kd (iI rfl) ?_;refine bA ?_;refine aL 16 ?_;refine eG fun g4=>?_;refine bA ?_ (hS:=fun _ h=>h.tail.bB.tail);refine aL 17 ?_;refine gZ 5 6 48 1 (n':=i+1) (el:=210) (by kernel_rfl) (by kernel_rfl) (by decide) rfl rfl rfl (lW 0 rfl rfl) (by simp[Value.oneCell']) rfl (by omega) (by omega) (by decide) fun An cn=>?_;dsimp only[List.set];refine cG ?_;refine aL 18 ?_;refine bE ?_;refine cG ?_;refine aL 19 ?_;refine bE ?_;refine cG ?_;refine aL 20 ?_;refine eO rfl rfl ?_;dsimp only[List.set];refine cG ?_;refine dX ?_;refine aA ?_;refine aT [2,1,4,5,6,7,8,9,10] rfl (by decide) (R':=[all w]) (by simp) ?_;refine mS ?_;refine Xv ?_;refine bM [(56,iv (i+1:Nat)),(55,iv s.aD.length),(54,.slice (some ⟨b,off,none⟩) s.aD.length k4),(10,.slice (some ⟨gm,0,none⟩) s.aD.length s.aD.length),(9,pt g2)] ?_;exact gR (s.aD.length - (i+1)) (by omega) ⟨i+1,An,cn,ls++[(LF,gq)],hlt,by simp;omega,rfl,rfl,rfl,by rw[aPl hd nQ,aPk hd nQ];rfl⟩
 ·obtain rfl:i=s.aD.length:=by omega
  rw[Uk hml (by simp[jT])];rw[List.take_length];refine aB ?_
  refine dS (aJf (jT s)) (fun w1 t=>by
   have:=aQP (jT s) (by omega) (fun m hm=>by
    obtain⟨d,hd,rfl⟩:=List.mem_map.1 hm;obtain⟨j,hj⟩:=List.getElem?_of_mem hd
    have:=(hH.t.aD j d hj).2.2.2.2.2.2.2.2.1
    omega) (some ⟨gm,0,none⟩) s.aD.length w1
   rw[hml] at this
   exact this (t.uS (i:=2) rfl (by simp[aN,hml]))) ?_
  rintro _ _ q1 ⟨LB,rfl,rfl⟩ _;dsimp only[List.cons_append,List.nil_append];refine aB ?_;refine aT [4,7,6,5,0,2,1] rfl (by decide) (R':=[all w]) (by simp) ?_;refine mS ?_;refine qK ?_;refine qK ?_;refine qK ?_;refine qK ?_;refine qK ?_;dsimp only[List.cons_append,List.nil_append];refine dB [] [] [0] (by simp) rfl (by decide) (by decide) fun q _ _ hfr=>?_;exact fT rfl rfl rfl fun w1 t=>⟨⟨_,_,⟨w1,q.Z⟩,rfl,rfl,⟨⟨g2,LT,LG,LR,LB,A,c,ls⟩,rfl,by simp[dM,Vv,hw0,jT,Function.comp_def],hfa,nQ⟩,t.newR (by simp) (by simp) (hfr (by simp) (by simp))⟩,t.below (by simp)⟩
end
section
structure cT(s:aC)(x:aU):Prop where
 ck:pK s x.ck
 dm:tI s x.dm
 ln:Ef s x.ln
 dv:x.dv.length=s.aD.length
 each:∀(i:Nat) (d:cH) (p:dW×fD),s.aD[i]? =some d→x.dv[i]? =some p→xS d p.1∧zG p.2
 wt:x.wt.length=s.aD.length
structure gB(L:HL)(s:aC):Prop where
 fa:L.T.fa.length=s.aF.length
 ds:L.ds.length=s.aD.length
structure tG(w:World)(L:HL)(s:aC)(x:aU):Prop where
 r0:dP w L.h 0 (Vv L s.aD.length)
 tree:vL w L.T s x.ck
 aDb:aIW w L.G s x.dm
 lines:Ka w L.R s x.ln
 bus:Hj w L.B (jT s) x.wt x.aZ
 rows:aH (all w) 6 L.A s.aD.length (vG s.aD L.ds).flatten
 each:∀(i:Nat) (d:cH) (l:FL×Nat) (p:dW×fD),s.aD[i]? =some d→L.ds[i]? =some l→x.dv[i]? =some p→Ce w l.1 d p.1∧dP w l.2 0 (Se p.2)
theorem tG.below{w w':World}{L:HL}{s:aC}{x:aU}(h:tG w L s x)(hb:Below w.heap.size w w'):tG w' L s x:=
 ⟨h.r0.below hb,h.tree.below hb,Bz.below h.aDb hb,h.lines.below hb,h.bus.below hb,h.rows.le (kR hb),fun i d l p h1 h2 h3=>⟨(h.each i d l p h1 h2 h3).1.below hb,(h.each i d l p h1 h2 h3).2.below hb⟩⟩
theorem aIR{L:HL}{s:aC}{x:aU}{F:Nat→Prop}{w:World}(h:(dM L s x).sat F w)(hF:∀b,F b→b < w.heap.size)(hL:gB L s)(hok:cT s x):tG w L s x:=by
 obtain⟨G,g1,g2,_⟩:=h
 have hl:∀i b,G i b→b < w.heap.size:=fun i b hb=>hF b (g2 i b hb)
 obtain⟨A',c',he,hs⟩:=zF (Y:=fun b=>b < w.heap.size) (g1 5 _ rfl) (hl 5)
 injection he with he
 subst he;refine⟨uI (g1 0 _ rfl).2,aI5 (g1 1 _ rfl) (hl 1) hL.fa hok.ck,aIH (g1 2 _ rfl) (hl 2),aIP (g1 3 _ rfl),aJg (g1 4 _ rfl),hs,fun i d l p h1 h2 h3=>?_⟩;obtain⟨G',k1,k2,_⟩:=g1 6 _ rfl
 have hz:(xE s.aD L.ds x.dv)[i]? =some (Qq d (l,p)):=by
  have hq:(L.ds.zip x.dv)[i]? =some (l,p):=List.getElem?_zip_eq_some.2 ⟨h2,h3⟩
  rw[xE,List.getElem?_zipWith,h1,hq]
 have hj:∀b,G' i b→b < w.heap.size:=fun b hb=>hl 6 b (k2 i b hb)
 obtain⟨G2,m1,m2,_⟩:=k1 i _ hz;exact⟨Ym (m1 0 _ rfl) (fun b hb=>hj b (m2 0 b hb)),uI (m1 1 _ rfl).2⟩
section
variable{N:cE}{w0 w:World}{e:Env}{R:List Piece}{H:List HP}{K:Act→World→Prop}{L:HL}{s:aC}{x:aU}
theorem St.mB(t:St w0 R H w)(i:Nat)(hi:H[i]? =some (dM L s x))(hL:gB L s)(hok:cT s x):tG w L s x:=by
 obtain⟨F,h1,h2,_⟩:=t.chunk hi;exact aIR h1 h2 hL hok
end
section
variable(L:HL)(s:aC)(x:aU)(w:World)
theorem Ba(hR:tG w L s x):Cz 150 #[.pointer (some ⟨L.h,0,none⟩)] w (Rt (.bool true) w):=by
 have k0:=hR.r0.at_ (j:=0) rfl
 have k1:=hR.r0.at_ (j:=1) rfl
 have k2:=hR.r0.at_ (j:=2) rfl
 have k3:=hR.r0.at_ (j:=3) rfl
 refine aO func150 ntmps150 ?_;refine aA ?_;exact dF
theorem Px(i:Int)(hR:tG w L s x):Cz 146 #[.pointer (some ⟨L.h,0,none⟩),iv i] w (Rt (.bool (bZ s.aD.length i)) w):=by
 have k0:=hR.r0.at_ (j:=4) rfl
 refine aO func146 ntmps146 ?_;refine aA ?_;refine aQ (fun w1 t=>Ba L s x w1 (hR.below (t.below (by simp)))) ?_;refine aA ?_;refine bX (t:=11) rfl (fun h=>?_) (fun h=>?_)
 ·refine aA ?_;refine iS (by simp) ?_;unfold bZ
  congr 1
  simp;omega
 ·refine aA ?_;refine iS (by simp) ?_
  have:bZ s.aD.length i=false:=decide_eq_false (by omega)
  rw[this]
theorem aNO(i:Nat)(hi:i < s.aD.length)(hR:tG w L s x):Cz 136 #[.pointer (some ⟨L.h,0,none⟩),iv (i:Int)] w (Rt (iv (oN x.wt i:Nat)) w):=by
 have k0:=hR.r0.at_ (j:=3) rfl
 have hin:bZ s.aD.length (i:Int)=true:=decide_eq_true (by omega)
 refine aO func136 ntmps136 ?_;refine aA ?_;refine aQ (fun w1 t=>Px L s x w1 i (hR.below (t.below (by simp)))) ?_;rw[hin];refine aA ?_;refine aQ (fun w1 t=>aHK L.B (jT s) x.wt x.aZ i (by rw[Fb];exact hi) w1 (hR.bus.below (t.below (by simp)))) ?_;refine aA ?_;exact dF
theorem aCS(hok:tI s x.dm)(i:Int)(hR:tG w L s x):Cz 172 #[.pointer (some ⟨L.h,0,none⟩),iv i] w (Rt (.int .u8 (sA x.dm i)) w):=by
 have k0:=hR.r0.at_ (j:=1) rfl
 refine aO func172 ntmps172 ?_;refine aA ?_;refine aQ (fun w1 t=>Ba L s x w1 (hR.below (t.below (by simp)))) ?_;refine aA ?_;refine aQ (fun w1 t=>aF9 L.G s x.dm hok i w1 (Bz.below hR.aDb (t.below (by simp)))) ?_;refine aA ?_;exact dF
theorem aNS(i:Int)(hR:tG w L s x):Cz 180 #[.pointer (some ⟨L.h,0,none⟩),iv i] w (Rt (.bool (Ip x.ln i)) w):=by
 have k0:=hR.r0.at_ (j:=2) rfl
 refine aO func180 ntmps180 ?_;refine aA ?_;refine aQ (fun w1 t=>Ba L s x w1 (hR.below (t.below (by simp)))) ?_;refine aA ?_;refine aQ (fun w1 t=>aFs L.R s x.ln i w1 (hR.lines.below (t.below (by simp)))) ?_;refine aA ?_;exact dF
end
end
section
theorem aNx{s:aC}(h:s.dJ):cT s (hw0 s):=by
 refine⟨⟨by simp[hw0],fun x hx=>?_⟩,⟨by simp[hw0],fun x hx=>?_,fun x hx=>?_⟩,⟨by simp[hw0],fun x hx=>?_⟩,by simp[hw0],fun i d p hd hp=>?_,by simp[hw0]⟩
 ·obtain⟨c,hc,rfl⟩:=List.mem_map.1 hx;obtain⟨i,hi⟩:=List.getElem?_of_mem hc
  have:=(h.t.aF i c hi).2
  unfold xK;dsimp only;split
  ·omega
  ·omega
 ·obtain⟨c,hc,rfl⟩:=List.mem_map.1 hx;simp[xG]
 ·obtain⟨c,hc,rfl⟩:=List.mem_map.1 hx;simp[xG]
 ·obtain⟨c,hc,rfl⟩:=List.mem_map.1 hx;simp[qD]
 ·simp only[hw0,List.getElem?_map,hd,Option.map_some] at hp;cases hp
  have hf:=h.t.aD i d hd
  refine⟨⟨by simp[Dp],by simp[Dp],fun v hv=>?_,fun v hv=>?_⟩,by simp[zG,Oi]⟩
  ·obtain⟨r,hr,rfl⟩:=List.mem_map.1 hv
   have:=hf.2.2.2.2.2.2.2.2.2.1 r hr
   omega
  ·simp only[Dp,List.mem_map] at hv;obtain⟨r,_,rfl⟩:=hv;omega
theorem aE2{s:aC}(h:s.wP):(jK s).sm:=by
 have h1:=h.nc
 have h2:=h.nd
 have h3:=h.nr
 exact⟨by simp[jK];omega,by simp[jK];omega,by simp[jK];omega⟩
def nP:aC:=⟨[],[],[],[]⟩
theorem aKv:nP.small:=⟨by decide,by decide,by decide,by decide,(fun c hc=>by cases hc),(fun c hc=>by cases hc)⟩
theorem aKw(w:World):iE w nP none 0 none 0 none 0 none 0:=
 ⟨⟨[],trivial,rfl,aH.nil _ _⟩,⟨[],trivial,rfl,aH.nil _ _⟩,⟨[],trivial,rfl,aH.nil _ _⟩,⟨[],trivial,rfl,aH.nil _ _⟩,aKv⟩
end
section
theorem wK{α:Type}{l:List α}{i:Nat}{x:α}(h:l[i]? =some x):l.set i x=l:=by
 refine List.ext_getElem? fun j=>?_;rw[List.getElem?_set]
 by_cases he:i=j
 ·subst he;rw[if_pos rfl,if_pos (List.getElem?_eq_some_iff.1 h).1,h]
 ·rw[if_neg he]
def rZ(s:aC)(st:List eN)(i:Nat):List Value:=(List.range s.aF.length).map fun j=>.bool (decide (j < i)&&runs s st j)
theorem aLA(s:aC)(st:List eN):List.replicate s.aF.length (Value.bool false)=rZ s st 0:=by
 refine List.ext_getElem? fun j=>?_;rw[rZ,List.getElem?_replicate,List.getElem?_map]
 by_cases hl:j < s.aF.length
 ·rw[List.getElem?_range hl];simp[hl]
 ·rw[List.getElem?_eq_none (l:=List.range s.aF.length) (by simp;omega)];simp[hl]
theorem aLB(s:aC)(st:List eN)(i:Nat):(rZ s st i).set i (.bool (runs s st i))=rZ s st (i+1):=by
 refine List.ext_getElem? fun j=>?_;simp only[rZ,List.getElem?_set,List.getElem?_map,List.length_map,List.length_range]
 by_cases he:i=j
 ·subst he
  by_cases hl:i < s.aF.length
  ·rw[if_pos rfl,if_pos hl,List.getElem?_range hl];simp
  ·rw[if_pos rfl,if_neg hl,List.getElem?_eq_none (by simp;omega)];rfl
 ·rw[if_neg he]
  by_cases hl:j < s.aF.length
  ·rw[List.getElem?_range hl]
   have:decide (j < i)=decide (j < i+1):=by simp;omega
   simp[this]
  ·rw[List.getElem?_eq_none (by simp;omega)];rfl
theorem aLC{s:aC}{st:List eN}{j:Nat}(h:j < s.aF.length):(rZ s st s.aF.length)[j]? =some (.bool (runs s st j)):=by
 simp[rZ,h]
def oB(s:aC)(st:List eN)(i:Nat):List eN:=(mJ s st).take i++st.drop i
theorem aMG(s:aC)(st:List eN):oB s st 0=st:=by simp[oB]
theorem aMK{s:aC}{st:List eN}(hok:pK s st):oB s st s.aF.length=mJ s st:=by
 have hl:=hok.len
 rw[oB,List.drop_eq_nil_of_le (by omega),List.append_nil,List.take_of_length_le (by simp[mJ];omega)]
theorem aMJ{s:aC}{st:List eN}(hok:pK s st){i:Nat}(hi:i < s.aF.length):(oB s st i)[i]? =st[i]? :=by
 have hl:=hok.len
 have:((mJ s st).take i).length=i:=by simp[mJ];omega
 rw[oB,List.getElem?_append_right (by omega),this,Nat.sub_self,List.getElem?_drop,Nat.add_zero]
theorem aCr{s:aC}{st:List eN}(hok:pK s st){i:Nat}(hi:i≤s.aF.length):(oB s st i).length=s.aF.length:=by
 have hl:=hok.len
 simp[oB,mJ];omega
theorem aMH{s:aC}{st:List eN}(hok:pK s st){i:Nat}{c:eU}{x:eN}(hc:s.aF[i]? =some c)(hx:st[i]? =some x):(oB s st i).set i (zT s st c x)=oB s st (i+1):=by
 have hl:=hok.len
 have hi:=(List.getElem?_eq_some_iff.1 hc).1
 have ht:(mJ s st)[i]? =some (zT s st c x):=by rw[mJ,List.getElem?_zipWith,hc,hx]
 have sI:(mJ s st).length=s.aF.length:=by simp[mJ];omega
 refine List.ext_getElem? fun j=>?_;rw[List.getElem?_set]
 by_cases he:i=j
 ·subst he;rw[if_pos rfl,if_pos (by rw[aCr hok (by omega)];exact hi),oB,List.getElem?_append_left (by rw[List.length_take];omega),List.getElem?_take_of_lt (by omega),ht]
 ·rw[if_neg he,oB,oB];rcases Nat.lt_or_ge j i with hj | hj
  ·rw[List.getElem?_append_left (by rw[List.length_take];omega),List.getElem?_append_left (by rw[List.length_take];omega),List.getElem?_take_of_lt hj,List.getElem?_take_of_lt (by omega)]
  ·rw[List.getElem?_append_right (by rw[List.length_take];omega),List.getElem?_append_right (by rw[List.length_take];omega),List.getElem?_drop,List.getElem?_drop,List.length_take,List.length_take]
   congr 1
   omega
theorem aKa{s:aC}{st:List eN}(hH:s.dJ)(hok:pK s st){i:Nat}{c:eU}{x:eN}(hc:s.aF[i]? =some c)(hx:x∈st):0≤(zT s st c x).left∧(zT s st c x).left≤3:=by
 have h1:=hok.left x hx
 have h2:=(hH.t.aF i c hc).2
 have h3:0≤c.lock∧c.lock≤3:=by omega
 unfold zT;split
 ·split
  ·exact h3
  ·split
   ·dsimp only;omega
   ·exact h1
 ·exact h1
theorem aBI{s:aC}{st:List eN}(hH:s.dJ)(hok:pK s st):pK s (mJ s st):=by
 have hl:=hok.len
 refine⟨by simp[mJ];omega,fun x hx=>?_⟩;obtain⟨j,hj⟩:=List.getElem?_of_mem hx;rw[mJ,List.getElem?_zipWith] at hj;cases hc:s.aF[j]? with
 | none=>rw[hc] at hj;cases hj
 | some c =>
  cases hy:st[j]? with
  | none=>rw[hc,hy] at hj;cases hj
  | some y=>
   rw[hc,hy] at hj;cases hj;exact aKa hH hok hc (List.mem_of_getElem? hy)
theorem aMI{s:aC}{st:List eN}(hH:s.dJ)(hok:pK s st){i:Nat}(hi:i≤s.aF.length):pK s (oB s st i):=⟨aCr hok hi,fun x hx=>by
 rcases List.mem_append.1 hx with h | h
 ·exact(aBI hH hok).left x (List.mem_of_mem_take h)
 ·exact hok.left x (List.mem_of_mem_drop h)⟩
theorem aQp(L:TL)(s:aC)(st:List eN)(hH:s.dJ)(hfl:L.fa.length=s.aF.length)(hok:pK s st)(w:World)(F:Nat→Prop)(hp:(pG L s st).sat F w)(hF:∀b,F b→b < w.heap.size):
  Cz 154 #[.pointer (some ⟨L.t,0,none⟩)] w (Wr (.tuple #[]) (pG L s (mJ s st)) w F):=by
 have hnc:=hH.t.nc
 have hl:=hok.len
 refine cS func154 ntmps154 hp hF ?_
 have aCH:Rd w [⟨w,fun b=>b < w.heap.size∧¬F b⟩] [pG L s st] L.t 0 (.slice L.A s.aF.length L.c):=Rd.tree 0 rfl hfl hok
 refine aA ?_;refine lU (n:=s.aF.length) 1 (el:=4) (z:=.bool false) (by kernel_rfl) (by kernel_rfl) rfl rfl rfl (by omega) (by omega) (by decide) fun g1=>?_
 have aS9:Rd w [⟨w,fun b=>b < w.heap.size∧¬F b⟩] [HP.aE g1 4 (List.replicate s.aF.length (.bool false)),pG L s st] L.t 0 (.slice L.A s.aF.length L.c):=Rd.tree 1 rfl hfl hok
 refine aA ?_;rw[aLA s st];refine bM [(19,iv 0),(18,iv s.aF.length),(2,.slice (some ⟨g1,0,none⟩) s.aF.length s.aF.length),(0,.pointer (some ⟨L.t,0,none⟩))] ?_;refine eT (fun m e R H=>∃i:Nat,i≤s.aF.length∧m=s.aF.length - i∧e=[(19,iv i),(18,iv s.aF.length),(2,.slice (some ⟨g1,0,none⟩) s.aF.length s.aF.length),(0,.pointer (some ⟨L.t,0,none⟩))]∧R=[⟨w,fun b=>b < w.heap.size∧¬F b⟩]∧H=[HP.aE g1 4 (rZ s st i),pG L s st]) s.aF.length ⟨0,by omega,rfl,rfl,rfl,rfl⟩ fun m e R H hI=>?_;obtain⟨i,hi,rfl,rfl,rfl,rfl⟩:=hI;refine aA ?_;refine aG rfl (fun hlt=>?_) (fun hge=>?_)
 ·have hlt:i < s.aF.length:=by omega
  have oG:(rZ s st i).length=s.aF.length:=by simp[rZ]
  refine aA ?_;refine aQ (fun w1 t=>Xg L s st hH i w1 (t.aBG 1 rfl hfl hok)) ?_;rw[show tN s st (i:Int)=runs s st i by simp[tN,bZ,hlt]];refine aB ?_;rw[aLB];exact eR (s.aF.length - (i+1)) ⟨i+1,hlt,rfl,rfl,rfl,rfl⟩
 ·obtain rfl:i=s.aF.length:=by omega
  have aS8:Rd w [⟨w,fun b=>b < w.heap.size∧¬F b⟩] [HP.aE g1 4 (rZ s st s.aF.length),pG L s st] L.t 0 (.slice L.A s.aF.length L.c):=Rd.tree 1 rfl hfl hok
  refine aA ?_;refine bM [(34,iv 0),(33,iv s.aF.length),(2,.slice (some ⟨g1,0,none⟩) s.aF.length s.aF.length),(0,.pointer (some ⟨L.t,0,none⟩))] ?_;refine eT (fun m e R H=>∃i:Nat,i≤s.aF.length∧m=s.aF.length - i∧e=[(34,iv i),(33,iv s.aF.length),(2,.slice (some ⟨g1,0,none⟩) s.aF.length s.aF.length),(0,.pointer (some ⟨L.t,0,none⟩))]∧R=[⟨w,fun b=>b < w.heap.size∧¬F b⟩]∧H=[HP.aE g1 4 (rZ s st s.aF.length),pG L s (oB s st i)]) s.aF.length ⟨0,by omega,rfl,rfl,rfl,by rw[aMG]⟩ fun m e R H hI=>?_;obtain⟨i,hi,rfl,rfl,rfl,rfl⟩:=hI;refine aA ?_;refine aG rfl (fun hlt=>?_) (fun hge=>?_)
  ·have hlt:i < s.aF.length:=by omega
   obtain⟨c,hc⟩:=get_some hlt;obtain⟨a,ha⟩:=get_some (l:=L.fa) (i:=i) (by omega);obtain⟨x,hx⟩:=get_some (l:=st) (i:=i) (by omega)
   have Ve:=aMI hH hok hi
   have hml:=aCr hok hi
   have Lw:(oB s st i)[i]? =some x:=by rw[aMJ hok hlt];exact hx
   obtain⟨fN,gN⟩:=aCk hfl Ve
   have hlx:=hok.left x (List.mem_of_getElem? hx)
   have oG:(rZ s st s.aF.length).length=s.aF.length:=by simp[rZ]
   have hpq:(jS s L.fa (oB s st i)).set i (qC c a (zT s st c x))=jS s L.fa (oB s st (i+1)):=by rw[aFL hc ha (by omega),aMH hok hc hx]
   refine aIr 1 rfl (by omega) fun g cs hA h1 h2 h3 h4=>?_;dsimp only[List.set];rw[hA]
   have hs:=Bj h2 fN gN (On hc ha Lw)
   have hu:=rJ.refl cs (i*11) 11
   have hrd:Rd w [⟨w,fun b=>b < w.heap.size∧¬F b⟩] [HP.aE g 251 cs,HP.aE g1 4 (rZ s st s.aF.length),HP.many [HP.aE L.t 249 [.slice (some ⟨g,0,none⟩) s.aF.length L.c],bU,HP.bR (rP s L.fa) (rP.le (s:=s) (fa:=L.fa))]] L.t 0 (.slice (some ⟨g,0,none⟩) s.aF.length L.c):=aSt 2 0 rfl rfl rfl
   refine aA ?_;refine kd (dat i (i*11)) ?_;obtain⟨hsrc,hfit⟩:=hH.t.aF i c hc;obtain⟨kd,src,rate,mul,dv,lock⟩:=c;obtain⟨on,left⟩:=x;dsimp only at hfit hsrc hlx;dsimp only[qC] at hs
   have Uv:kd≠112∨on=false→jS s L.fa (oB s st i)=jS s L.fa (oB s st (i+1)):=fun hh=>by
    rw[←hpq]
    have:zT s st ⟨kd,src,rate,mul,dv,lock⟩ ⟨on,left⟩=⟨on,left⟩:=by
     unfold zT;rw[if_neg];rintro⟨h1,h2⟩;rcases hh with hh | hh
     ·exact hh h1
     ·rw[hh] at h2;cases h2
    rw[this,wK (On hc ha Lw)]
   rcases hfit with⟨rfl,_⟩ | ⟨rfl,qZ,_⟩ | ⟨rfl,_⟩ | ⟨rfl,_⟩ | ⟨rfl,_⟩
   ·rw[Uv (.inl (by decide))] at h2;refine aA ?_;refine lJ ?_;refine iY ?_;refine aA ?_;refine yZ 1 hA h1 h2 h3 h4 rfl ?_;exact eR (s.aF.length - (i+1)) ⟨i+1,hlt,rfl,rfl,rfl,rfl⟩
   ·cases on
    ·rw[Uv (.inr rfl)] at h2;refine aA ?_;refine lJ ?_;refine iY ?_;refine aA ?_;refine yZ 1 hA h1 h2 h3 h4 rfl ?_;exact eR (s.aF.length - (i+1)) ⟨i+1,hlt,rfl,rfl,rfl,rfl⟩
    ·obtain⟨f,fs,hf⟩:∃(f:Nat) (fs:List Int),src=(f:Int)::fs:=by
      cases hs0:src with
      | nil=>rw[hs0] at qZ;simp at qZ
      | cons f fs=>exact⟨f.toNat,fs,by have:=(hsrc f (by rw[hs0];simp)).1;rw[Int.toNat_of_nonneg this]⟩
     have Lz:f < i:=by have:=(hsrc f (by rw[hf];simp)).2;omega
     subst hf
     have hrun:=aLC (s:=s) (st:=st) (j:=f) (by omega)
     have cQ:Rd w [⟨w,fun b=>b < w.heap.size∧¬F b⟩] [HP.aE g 251 cs,HP.aE g1 4 (rZ s st s.aF.length),HP.many [HP.aE L.t 249 [.slice (some ⟨g,0,none⟩) s.aF.length L.c],bU,HP.bR (rP s L.fa) (rP.le (s:=s) (fa:=L.fa))]] g1 f (.bool (runs s st f)):=Rd.aE 1 rfl hrun
     refine aA ?_;refine aQ (fun w1 t=>Rb L s (oB s st i) i f _ fs w1 (t.aJY 0 2 rfl rfl hA h2 hfl Ve) hc rfl) ?_;refine aB ?_
     have sJ:zT s st ⟨112,(f:Int)::fs,rate,mul,dv,lock⟩ ⟨true,left⟩=if runs s st f=false then⟨true,lock⟩ else if 0 < left then⟨true,left - 1⟩ else⟨true,left⟩:=by
      simp[zT,aEW]
     rw[sJ] at hpq;cases Fm:runs s st f
     ·rw[Fm] at cQ;rw[if_pos Fm] at hpq
      have hs1:=hs.set 7 (iv lock) (by simp) (by omega)
      have tU:=hu.set 7 (iv lock) (by decide)
      have gH:=yQ (r':=qC ⟨112,(f:Int)::fs,rate,mul,dv,lock⟩ a ⟨true,lock⟩) h2 fN gN hlt (by omega) rfl hs1 tU
      rw[hpq] at gH;refine aA ?_;refine yZ 1 hA (by simpa using h1) gH h3 h4 rfl ?_;exact eR (s.aF.length - (i+1)) ⟨i+1,hlt,rfl,rfl,rfl,rfl⟩
     ·rw[Fm] at cQ;rw[if_neg (by rw[Fm];decide)] at hpq;refine aA ?_;refine aG rfl (fun hp=>?_) (fun hp=>?_)
      ·rw[if_pos hp] at hpq
       have hs1:=hs.set 7 (iv (left - 1)) (by simp) (by omega)
       have tU:=hu.set 7 (iv (left - 1)) (by decide)
       have gH:=yQ (r':=qC ⟨112,(f:Int)::fs,rate,mul,dv,lock⟩ a ⟨true,left - 1⟩) h2 fN gN hlt (by omega) rfl hs1 tU
       rw[hpq] at gH;refine aA ?_;refine yZ 1 hA (by simpa using h1) gH h3 h4 rfl ?_;exact eR (s.aF.length - (i+1)) ⟨i+1,hlt,rfl,rfl,rfl,rfl⟩
      ·rw[if_neg hp,wK (On hc ha Lw)] at hpq;rw[hpq] at h2;refine aA ?_;refine lJ ?_;refine iY ?_;refine aA ?_;refine yZ 1 hA h1 h2 h3 h4 rfl ?_;exact eR (s.aF.length - (i+1)) ⟨i+1,hlt,rfl,rfl,rfl,rfl⟩
   ·rw[Uv (.inl (by decide))] at h2;refine aA ?_;refine lJ ?_;refine iY ?_;refine aA ?_;refine yZ 1 hA h1 h2 h3 h4 rfl ?_;exact eR (s.aF.length - (i+1)) ⟨i+1,hlt,rfl,rfl,rfl,rfl⟩
   ·rw[Uv (.inl (by decide))] at h2;refine aA ?_;refine lJ ?_;refine iY ?_;refine aA ?_;refine yZ 1 hA h1 h2 h3 h4 rfl ?_;exact eR (s.aF.length - (i+1)) ⟨i+1,hlt,rfl,rfl,rfl,rfl⟩
   ·rw[Uv (.inl (by decide))] at h2;refine aA ?_;refine lJ ?_;refine iY ?_;refine aA ?_;refine yZ 1 hA h1 h2 h3 h4 rfl ?_;exact eR (s.aF.length - (i+1)) ⟨i+1,hlt,rfl,rfl,rfl,rfl⟩
  ·obtain rfl:i=s.aF.length:=by omega
   rw[aMK hok];refine aA ?_;exact fA 1 hF
end
section
section
variable{N:cE}{w0 w:World}{e:Env}{R:List Piece}{H:List HP}{K:Act→World→Prop}{L:RL}{s:aC}{st:List jX}
theorem aDO(i:Nat)(hi:H[i]? =some (oL L s st))(h:XK N w0 K e R (HP.map L.g (mX s st)::HP.aE L.t 259 [.map (some L.g)]::H.set i (HP.many [bU,bU]))):XK N w0 K e R H:=by
 have hlt:=wV hi
 refine qJ i 0 hi rfl ?_;refine qJ (i+1) 1 (by rw[List.getElem?_cons_succ,List.getElem?_set_self hlt]) rfl ?_
 simpa[List.set_cons_succ,List.set_set] using h
theorem Rw(i:Nat)(hi:H[i]? =some (HP.many [bU,bU]))(h:XK N w0 K e R (H.set i (oL L s st))):XK N w0 K e R (HP.map L.g (mX s st)::HP.aE L.t 259 [.map (some L.g)]::H):=by
 have hlt:=wV hi
 refine qL (i+1) 1 (by rw[List.getElem?_cons_succ];exact hi) rfl ?_;dsimp only[List.set];refine qL i 0 (by rw[List.getElem?_set_self hlt]) rfl ?_
 simpa[List.set_set,oL] using h
end
theorem aKX(L:RL)(s:aC)(st:List jX)(hok:Ef s st)(i:Int)(w:World)(F:Nat→Prop)(hp:(oL L s st).sat F w)(hF:∀b,F b→b < w.heap.size):
  Cz 211 #[.pointer (some ⟨L.t,0,none⟩),iv i] w (Wr (iv (rF s st i).1) (oL L s (rF s st i).2) w F):=by
 have hl:=hok.len
 cases hi:bZ st.length i
 ·have hr:rF s st i=(4,st):=by simp[rF,hi]
  have hv:sP s st i=iR 0 ⟨0,false,false⟩:=by simp[sP,hi]
  rw[hr];refine cS func211 ntmps211 hp hF ?_;refine aA ?_;refine aQ (fun w1 t=>Tq L s st i w1 (t.Pa 0 rfl)) ?_;rw[hi,hv];unfold iR;refine aA ?_;refine bY fun g1=>?_;refine aA ?_;exact bO 1 hF
 ·obtain⟨n,rfl⟩:∃n:Nat,i=n:=⟨i.toNat,by have:=of_decide_eq_true hi;omega⟩
  have hlt:n < st.length:=by have:=of_decide_eq_true hi;omega
  obtain⟨r,cQ⟩:=get_some (l:=s.aY) (i:=n) (by omega);obtain⟨x,hx⟩:=get_some hlt
  have hrd:s.aY.getD n 0=r:=by rw[List.getD_eq_getElem?_getD,cQ];rfl
  have hr:rF s st (n:Int)=(0,st.set n ⟨r,true,false⟩):=by simp[rF,hi,cQ]
  have hv:sP s st (n:Int)=iR r x:=by simp[sP,hi,List.getD_eq_getElem?_getD,cQ,hx]
  rw[hr];refine cS func211 ntmps211 hp hF ?_;refine aA ?_;refine aQ (fun w1 t=>Tq L s st n w1 (t.Pa 0 rfl)) ?_;rw[hi,hv];unfold iR;refine aA ?_;refine bY fun g1=>?_;refine aA ?_;refine aDO 1 rfl ?_;dsimp only[List.set];refine qM 6 (by kernel_rfl) (by kernel_rfl) ?_;refine bP 0 ?_;refine bP 1 ?_;refine bP 2 ?_;refine bP 3 ?_;refine bP 4 ?_;refine bP 5 ?_;refine cJ 6 ?_;refine Hl (kt:=3) (et:=261) (kd:=.i64) (l:=mX s st) (v:=iR r ⟨r,true,false⟩) 0 (by kernel_rfl) (by kernel_rfl) rfl rfl rfl rfl ?_;rw[aCm hrd hlt];dsimp only[List.set];refine eS ?_;refine kK ?_;refine Rw 1 rfl ?_;refine aA ?_;exact bO 1 hF
theorem aKV(L:RL)(s:aC)(st:List jX)(hok:Ef s st)(i:Int)(w:World)(F:Nat→Prop)(hp:(oL L s st).sat F w)(hF:∀b,F b→b < w.heap.size):
  Cz 210 #[.pointer (some ⟨L.t,0,none⟩),iv i] w (Wr (iv (wM st i).1) (oL L s (wM st i).2) w F):=by
 have hl:=hok.len
 cases hi:bZ st.length i
 ·have hr:wM st i=(4,st):=by simp[wM,hi]
  have hv:sP s st i=iR 0 ⟨0,false,false⟩:=by simp[sP,hi]
  rw[hr];refine cS func210 ntmps210 hp hF ?_;refine aA ?_;refine aQ (fun w1 t=>Tq L s st i w1 (t.Pa 0 rfl)) ?_;rw[hi,hv];unfold iR;refine aA ?_;refine bY fun g1=>?_;refine aA ?_;exact bO 1 hF
 ·obtain⟨n,rfl⟩:∃n:Nat,i=n:=⟨i.toNat,by have:=of_decide_eq_true hi;omega⟩
  have hlt:n < st.length:=by have:=of_decide_eq_true hi;omega
  obtain⟨r,cQ⟩:=get_some (l:=s.aY) (i:=n) (by omega);obtain⟨x,hx⟩:=get_some hlt
  have hrd:s.aY.getD n 0=r:=by rw[List.getD_eq_getElem?_getD,cQ];rfl
  have hr:wM st (n:Int)=if x.held=false then(6,st) else(0,st.set n ⟨x.left,x.held,true⟩):=by simp[wM,hi,hx]
  have hv:sP s st (n:Int)=iR r x:=by simp[sP,hi,List.getD_eq_getElem?_getD,cQ,hx]
  rw[hr];refine cS func210 ntmps210 hp hF ?_;refine aA ?_;refine aQ (fun w1 t=>Tq L s st n w1 (t.Pa 0 rfl)) ?_;rw[hi,hv];obtain⟨left,held,wanted⟩:=x;unfold iR;refine aA ?_;refine bY fun g1=>?_;cases held
  ·refine aA ?_;exact bO 1 hF
  ·refine aA ?_;refine aDO 1 rfl ?_;dsimp only[List.set];refine qM 6 (by kernel_rfl) (by kernel_rfl) ?_;refine bP 0 ?_;refine bP 1 ?_;refine bP 2 ?_;refine bP 3 ?_;refine bP 4 ?_;refine bP 5 ?_;refine cJ 6 ?_;refine Hl (kt:=3) (et:=261) (kd:=.i64) (l:=mX s st) (v:=iR r ⟨left,true,true⟩) 0 (by kernel_rfl) (by kernel_rfl) rfl rfl rfl rfl ?_;rw[aCm hrd hlt];dsimp only[List.set];refine eS ?_;refine kK ?_;refine Rw 1 rfl ?_;refine aA ?_;exact bO 1 hF
end
section
theorem aMX{α:Type}(f:α→α)(st:List α){i:Nat}{x:α}(hx:st[i]? =some x)(hs:f x=x):(st.map f).take i++st.drop i=(st.map f).take (i+1)++st.drop (i+1):=by
 have h1:=aCo f st hx
 rw[hs,aFd (by rw[aCp f st (List.getElem?_eq_some_iff.1 hx).1];exact hx)] at h1;exact h1
theorem aKU(L:RL)(s:aC)(st:List jX)(hH:s.dJ)(hok:Ef s st)(w:World)(F:Nat→Prop)(hp:(oL L s st).sat F w)(hF:∀b,F b→b < w.heap.size):
  Cz 157 #[.pointer (some ⟨L.t,0,none⟩)] w (fun y w'=>∃a:Option Addr×Nat×Nat,y=.returned (.slice a.1 a.2.1 a.2.2)∧True∧∃F',(oL L s (Hq st)).sat F' w'∧iD w w' F F'):=by
 have hl:=hok.len
 have gN:=hH.t.nr
 refine cS func157 ntmps157 hp hF ?_
 have aCH:Rd w [⟨w,fun b=>b < w.heap.size∧¬F b⟩] [oL L s st] L.t 0 (.map (some L.g)):=fun w1 t=>(t.Pa 0 rfl).r0.2
 refine aA ?_;refine kd (aP6 (kt:=3) (et:=261) (l:=mX s st) (by kernel_rfl) rfl (fun w1 t=>(t.Pa 0 rfl).m)) ?_;rw[show(mX s st).length=st.length by simp[mX]];refine aA ?_;refine lI 3 1 ?_;refine bM [(14,iv 0),(13,iv st.length),(3,sn),(0,.pointer (some ⟨L.t,0,none⟩))] ?_;refine eT (fun m e R H=>∃(i n:Nat) (A:Option Addr) (k:Nat) (xs:List Value),i≤st.length∧n≤i∧m=st.length - i∧e=[(14,iv i),(13,iv st.length),(3,.slice A n k),(0,.pointer (some ⟨L.t,0,none⟩))]∧R=[⟨w,fun b=>b < w.heap.size∧¬F b⟩]∧H=[HP.own 3 1 (.slice A n k) n xs,oL L s ((st.map mV).take i++st.drop i)]) st.length ⟨0,0,none,0,[],by omega,by omega,rfl,rfl,rfl,by simp⟩ fun m e R H hI=>?_;obtain⟨i,n,A,k,xs,hi,hni,rfl,rfl,rfl,rfl⟩:=hI;refine aA ?_;refine aG rfl (fun hlt=>?_) (fun hge=>?_)
 ·have hlt:i < st.length:=by omega
  obtain⟨r,cQ⟩:=get_some (l:=s.aY) (i:=i) (by omega);obtain⟨x,hx⟩:=get_some hlt
  have hlx:=hok.left x (List.mem_of_getElem? hx)
  have hrd:s.aY.getD i 0=r:=by rw[List.getD_eq_getElem?_getD,cQ];rfl
  have hml:((st.map mV).take i++st.drop i).length=st.length:=by simp;omega
  have Lw:((st.map mV).take i++st.drop i)[i]? =some x:=by rw[aCp _ st hlt];exact hx
  have hin:bZ ((st.map mV).take i++st.drop i).length (i:Int)=true:=by rw[hml];exact decide_eq_true (by omega)
  have Au:lY (mX s ((st.map mV).take i++st.drop i)) (i:Int)=some (iR r x):=by
   rw[aGb,if_pos hin,Int.toNat_natCast,hrd,List.getD_eq_getElem?_getD,Lw];rfl
  have lF:nH (mX s ((st.map mV).take i++st.drop i)) (i:Int) (iR r (mV x))=mX s ((st.map mV).take (i+1)++st.drop (i+1)):=by
   rw[aCm hrd (by omega),aCo mV st hx]
  refine aDO 1 rfl ?_;dsimp only[List.set];refine aA ?_;refine Yx (kt:=3) (et:=261) (kd:=.i64) (z:=iR 0 ⟨0,false,false⟩) (l:=mX s ((st.map mV).take i++st.drop i)) true (by kernel_rfl) (by kernel_rfl) aGj rfl rfl (fun w1 t=>t.map (i:=0) rfl) (by decide) ?_;simp only[if_true,Au,Option.getD_some,Option.isSome_some];obtain⟨left,held,wanted⟩:=x;dsimp only at hlx;dsimp only[iR];refine aA ?_;refine bY fun g1=>?_;cases held
  ·have hsame:mV ⟨left,false,wanted⟩=⟨left,false,wanted⟩:=rfl
   rw[aMX mV st hx hsame];refine aA ?_;refine aT [1,2,3,4] rfl (by decide) (fun _ h=>h) ?_;refine Rw 1 rfl ?_;exact eR (st.length - (i+1)) ⟨i+1,n,A,k,xs,hlt,by omega,rfl,rfl,rfl,rfl⟩
  ·refine aA ?_;refine aG rfl (fun hp=>?_) (fun hp=>?_)
   ·have sJ:mV ⟨left,true,wanted⟩=⟨left - 1,true,wanted⟩:=by simp[mV,hp]
    rw[sJ] at lF;refine aA ?_;refine qM 6 (by kernel_rfl) (by kernel_rfl) ?_;refine bP 0 ?_;refine bP 1 ?_;refine bP 2 ?_;refine bP 3 ?_;refine bP 4 ?_;refine bP 5 ?_;refine cJ 6 ?_;refine Hl (kt:=3) (et:=261) (kd:=.i64) (l:=mX s ((st.map mV).take i++st.drop i)) (v:=iR r ⟨left - 1,true,wanted⟩) 1 (by kernel_rfl) (by kernel_rfl) rfl rfl rfl rfl ?_;rw[lF];dsimp only[List.set];refine eS ?_;refine kK ?_;refine aA ?_;refine aT [1,2,3,4] rfl (by decide) (fun _ h=>h) ?_;refine Rw 1 rfl ?_;exact eR (st.length - (i+1)) ⟨i+1,n,A,k,xs,hlt,by omega,rfl,rfl,rfl,rfl⟩
   ·cases wanted
    ·have sJ:mV ⟨left,true,false⟩=⟨left,true,false⟩:=by simp[mV,hp]
     rw[sJ] at lF;refine aA ?_;refine qM 6 (by kernel_rfl) (by kernel_rfl) ?_;refine bP 0 ?_;refine bP 1 ?_;refine bP 2 ?_;refine bP 3 ?_;refine bP 4 ?_;refine bP 5 ?_;refine cJ 6 ?_;refine Hl (kt:=3) (et:=261) (kd:=.i64) (l:=mX s ((st.map mV).take i++st.drop i)) (v:=iR r ⟨left,true,false⟩) 1 (by kernel_rfl) (by kernel_rfl) rfl rfl rfl rfl ?_;rw[lF];dsimp only[List.set];refine eS ?_;refine kK ?_;refine aA ?_;refine aT [1,2,3,4] rfl (by decide) (fun _ h=>h) ?_;refine Rw 1 rfl ?_;exact eR (st.length - (i+1)) ⟨i+1,n,A,k,xs,hlt,by omega,rfl,rfl,rfl,rfl⟩
    ·have sJ:mV ⟨left,true,true⟩=⟨left,false,false⟩:=by simp[mV,hp]
     rw[sJ] at lF;refine aA ?_;refine eG fun g2=>?_;refine gZ 4 1 8 1 (el:=3) (by kernel_rfl) (by kernel_rfl) (by decide) rfl rfl rfl (lW 0 rfl rfl) (by simp[Value.oneCell']) rfl (by omega) (by omega) (by decide) fun A' k'=>?_;dsimp only[List.set];refine aA ?_;refine qM 6 (by kernel_rfl) (by kernel_rfl) ?_;refine bP 0 ?_;refine bP 1 ?_;refine bP 2 ?_;refine bP 3 ?_;refine bP 4 ?_;refine bP 5 ?_;refine cJ 6 ?_;refine Hl (kt:=3) (et:=261) (kd:=.i64) (l:=mX s ((st.map mV).take i++st.drop i)) (v:=iR r ⟨left,false,false⟩) 2 (by kernel_rfl) (by kernel_rfl) rfl rfl rfl rfl ?_;rw[lF];dsimp only[List.set];refine eS ?_;refine kK ?_;refine aA ?_;refine aT [2,3,4,5] rfl (by decide) (fun _ h=>h) ?_;refine Rw 1 rfl ?_;exact eR (st.length - (i+1)) ⟨i+1,n+1,A',k',_,hlt,by omega,rfl,rfl,rfl,rfl⟩
 ·obtain rfl:i=st.length:=by omega
  have vE:(st.map mV).take st.length++st.drop st.length=Hq st:=by
   rw[List.drop_eq_nil_of_le (by omega),List.append_nil,List.take_of_length_le (by simp)];rfl
  rw[vE];refine aA ?_;exact mF rfl rfl fun w1 t=>⟨(A,n,k),rfl,trivial,t.turns hF (by simp) (i:=1) rfl⟩
end
section
section
variable{N:cE}{w0 w:World}{e:Env}{R:List Piece}{H:List HP}{K:Act→World→Prop}{L:HL}{s:aC}{x:aU}
theorem pJ(i:Nat){o:Nat}{v:Value}(hi:H[i]? =some (dM L s x))(hv:(Vv L s.aD.length)[o]? =some v):Rd w0 R H L.h o v:=fun w t=>by
 obtain⟨F,⟨G,g1,g2,_⟩,h2,_⟩:=t.chunk hi
 have:=(uI (g1 0 _ rfl).2).at_ (j:=o) hv
 rw[Nat.zero_add] at this;exact this.2
end
variable(L:HL)(s:aC)(x:aU)(w:World)
theorem aGH(hH:s.dJ)(aR:gB L s)(hok:cT s x)(i:Int)(on:Bool)(F:Nat→Prop)(hp:(dM L s x).sat F w)(hF:∀b,F b→b < w.heap.size):
  Cz 178 #[.pointer (some ⟨L.h,0,none⟩),iv i,.bool on] w (Wr (iv (lN s x.ck i on).1) (dM L s {x with ck:=(lN s x.ck i on).2}) w F):=by
 have sM:=hH.t.nd
 refine cS func178 ntmps178 hp hF ?_;refine aA ?_;refine aQ (fun w1 t=>Ba L s x w1 (t.mB 0 rfl aR hok)) ?_;refine aA ?_;refine kd (bH rfl (pJ 0 rfl rfl)) ?_;refine aA ?_;refine aX 0 1 ?_;refine bT 0 (pG L.T s (lN s x.ck i on).2) (fun w1 F1 t h1 h2 h3=>aQs L.T s x.ck aR.fa hok.ck i on w1 F1 h1 h2) ?_;refine aA ?_;refine aJ 0 1 ?_;exact bO 0 hF
theorem aGC(hH:s.dJ)(aR:gB L s)(hok:cT s x)(i:Int)(F:Nat→Prop)(hp:(dM L s x).sat F w)(hF:∀b,F b→b < w.heap.size):
  Cz 173 #[.pointer (some ⟨L.h,0,none⟩),iv i] w (Wr (iv (uR s x.dm i).1) (dM L s {x with dm:=(uR s x.dm i).2}) w F):=by
 have sM:=hH.t.nd
 refine cS func173 ntmps173 hp hF ?_;refine aA ?_;refine aQ (fun w1 t=>Ba L s x w1 (t.mB 0 rfl aR hok)) ?_;refine aA ?_;refine kd (bH rfl (pJ 0 rfl rfl)) ?_;refine aA ?_;refine aX 0 2 ?_;refine bT 0 (uN L.G s (uR s x.dm i).2) (fun w1 F1 t h1 h2 h3=>aLO L.G s x.dm hH hok.dm i w1 F1 h1 h2) ?_;refine aA ?_;refine aJ 0 2 ?_;exact bO 0 hF
theorem aNT(hH:s.dJ)(aR:gB L s)(hok:cT s x)(i:Int)(keep:Bool)(F:Nat→Prop)(hp:(dM L s x).sat F w)(hF:∀b,F b→b < w.heap.size):
  Cz 177 #[.pointer (some ⟨L.h,0,none⟩),iv i,.bool keep] w (Wr (iv (xF s x.dm i keep).1) (dM L s {x with dm:=(xF s x.dm i keep).2}) w F):=by
 have sM:=hH.t.nd
 refine cS func177 ntmps177 hp hF ?_;refine aA ?_;refine aQ (fun w1 t=>Ba L s x w1 (t.mB 0 rfl aR hok)) ?_;refine aA ?_;refine kd (bH rfl (pJ 0 rfl rfl)) ?_;refine aA ?_;refine aX 0 2 ?_;refine bT 0 (uN L.G s (xF s x.dm i keep).2) (fun w1 F1 t h1 h2 h3=>aLT L.G s x.dm hok.dm (by omega) i keep w1 F1 h1 h2) ?_;refine aA ?_;refine aJ 0 2 ?_;exact bO 0 hF
theorem aNQ(hH:s.dJ)(aR:gB L s)(hok:cT s x)(i:Int)(F:Nat→Prop)(hp:(dM L s x).sat F w)(hF:∀b,F b→b < w.heap.size):
  Cz 181 #[.pointer (some ⟨L.h,0,none⟩),iv i] w (Wr (iv (wM x.ln i).1) (dM L s {x with ln:=(wM x.ln i).2}) w F):=by
 have sM:=hH.t.nd
 refine cS func181 ntmps181 hp hF ?_;refine aA ?_;refine aQ (fun w1 t=>Ba L s x w1 (t.mB 0 rfl aR hok)) ?_;refine aA ?_;refine kd (bH rfl (pJ 0 rfl rfl)) ?_;refine aA ?_;refine aX 0 3 ?_;refine bT 0 (oL L.R s (wM x.ln i).2) (fun w1 F1 t h1 h2 h3=>aKV L.R s x.ln hok.ln i w1 F1 h1 h2) ?_;refine aA ?_;refine aJ 0 3 ?_;exact bO 0 hF
end
section
def aAV(a b:Int):Int:=IntKind.u32.wrap (BitVec.ofInt 32 a&&& BitVec.ofInt 32 b).toNat
def Bt(a b:Int):Int:=IntKind.u32.wrap (BitVec.ofInt 32 a&&& ~~~ BitVec.ofInt 32 b).toNat
def Ah(a b:Int):Int:=IntKind.u32.wrap (BitVec.ofInt 32 a||| BitVec.ofInt 32 b).toNat
theorem Ny(a:Int):0≤IntKind.u32.wrap a∧IntKind.u32.wrap a < 4294967296:=by
 unfold IntKind.wrap;simp only[IntKind.signed,IntKind.bits,Bool.false_and,Bool.false_eq_true,if_false];exact⟨Int.emod_nonneg _ (by decide),Int.emod_lt_of_pos _ (by decide)⟩
def uX(many at':Int):Int:=IntKind.u32.wrap (IntKind.u64.wrap (IntKind.u64.wrap (IntKind.u64.wrap (1*2 ^ min many.toNat 64) - 1)*2 ^ min at'.toNat 64))
def cM(w low many:Int):Int:=aAV (w.fdiv (2 ^ min low.toNat 32)) (uX many 0)
def wN(w low many v:Int):Int×Int:=if Bt v (uX many 0)≠0 then(0,1) else(Ah (Bt w (uX many low)) (IntKind.u32.wrap (v*2 ^ min low.toNat 32)),0)
def fX(w low many v:Int):Int×Int:=if v < 0∨IntKind.i64.wrap (1*2 ^ min many.toNat 64)≤v then(0,1) else if(wN w low many (IntKind.u32.wrap v)).2≠0 then(0,1) else((wN w low many (IntKind.u32.wrap v)).1,0)
def okF(low many:Int):Prop:=1≤many∧many≤32∧0≤low∧low≤32 - many
def aEr(many:Int)(v:Value)(w w':World):Prop:=∃g,v=.tuple #[.func (.func 217) #[] #[pt g],.bool true]∧RP (fresh w w') g 0 (iv many)
theorem aDm(a many:Int)(g:Nat)(w:World)(h:fK w g 0 (iv many))(ha:0≤a)(hm:0≤many):
  Cz 217 #[iv a,pt g] w (Rt (.int .u32 (uX many a)) w):=by
 refine aO func217 ntmps217 ?_;refine aB ?_;refine Nt rfl rfl (by omega) rfl (by decide) ?_;refine Yu rfl rfl rfl (by decide) ?_;refine dO rfl (by decide) ?_;refine Nt rfl rfl (by omega) rfl (by decide) ?_;refine Ch (kd:=.u32) (ds:=.int .u64) (by kernel_rfl) (by kernel_rfl) rfl rfl (by decide) ?_;refine aB ?_;exact aP (h:=fun _ _=>rfl)
theorem aHg(low many:Int)(w:World)(hok:okF low many):Cz 199 #[iv low,iv many] w (fun y w'=>(∃x,y=.returned x∧aEr many x w w')∧Below w.heap.size w w'):=by
 refine aO func199 ntmps199 ?_;refine aA ?_;refine bN fun g1=>?_;refine aA ?_
 (first | refine bX (t:=8) rfl (fun hg=>?_) (fun hg=>?_) | refine pZ (t:=8) rfl (fun hg=>?_) (fun hg=>?_))
 ·
  refine aA ?_;exact absurd hok (by unfold okF;omega)
 ·
  refine aA ?_
  (first | refine bX (t:=12) rfl (fun hg=>?_) (fun hg=>?_) | refine pZ (t:=12) rfl (fun hg=>?_) (fun hg=>?_))
  ·
   refine aA ?_;exact absurd hok (by unfold okF;omega)
  ·
   refine aA ?_
   (first | refine bX (t:=16) rfl (fun hg=>?_) (fun hg=>?_) | refine pZ (t:=16) rfl (fun hg=>?_) (fun hg=>?_))
   ·
    refine aA ?_;exact absurd hok (by unfold okF;omega)
   ·
    refine aA ?_;refine aG rfl (fun h=>?_) (fun h=>?_)
    ·
     refine aA ?_;exact absurd hok (by unfold okF;omega)
    ·
     refine aA ?_;refine jY (vf:=[]) (vc:=[pt g1]) rfl rfl (by decide) ?_;refine aA ?_;refine dB [] [0] [] (by simp) rfl (by decide) (by decide) fun q hq _ hfr=>?_;refine fT rfl rfl rfl fun w1 st=>⟨⟨_,rfl,g1,rfl,(rM (o:=0) (v:=iv many) (hq 0 _ (by simp) rfl) rfl).le (st.mQ (by simp) (hfr (by simp) (by simp)))⟩,st.below (by simp)⟩
theorem aGO(w0 low many:Int)(w:World)(hok:okF low many):
  Cz 169 #[.int .u32 w0,iv low,iv many] w (Rt (.tuple #[.int .u32 (cM w0 low many),iv 0]) w):=by
 refine aO func169 ntmps169 ?_;refine aB ?_;refine kA [] (aEr many) (fun w1 st=>aHg low many w1 hok) ?_;rintro _ w1 q1 ⟨g,rfl,cR⟩ hf _ _
 have cR:=cR.le hf
 clear hf;refine dO rfl (by decide) ?_;refine Yy rfl rfl (by decide) ?_;refine Yy rfl rfl (by decide) ?_;refine jM rfl (by decide) ?_;refine jM rfl (by decide) ?_;refine fB ?_;refine eA ?_;refine eA ?_;refine fU ?_;refine dO rfl (by decide) ?_
 (first | refine aE7 rfl (by decide) ?_ | refine Ek rfl (by decide) ?_)
 refine fB ?_;refine pF rfl (fun h=>?_) (fun h=>?_)
 ·
  refine aB ?_;exact absurd h (by simp)
 ·
  refine nV ?_;refine eJ ?_;refine eA ?_;refine qM 5 (by kernel_rfl) (by kernel_rfl) ?_;refine fZ 0 rfl rfl rfl (lQ rfl) ?_;refine fZ 1 rfl rfl rfl (lQ rfl) ?_;refine fZ 2 rfl rfl rfl (aHv rfl rfl (by unfold okF at hok;omega) rfl) ?_;refine fZ 3 rfl rfl rfl (lQ rfl) ?_;refine cJ 4 ?_;refine xY (f:=217) (fi:=[]) (ca:=[pt g]) (by kernel_rfl) rfl rfl (by decide) (fun w1 st=>aDm 0 many g w1 (cR.le (st.le (by simp))) (by unfold okF at hok;omega) (by unfold okF at hok;omega)) ?_;refine mT ?_;refine cJ 5 ?_;refine Su (c:=cM w0 low many) rfl rfl (fun _=>rfl) (by simp) (by decide) ?_;refine eS ?_;refine cJ 6 ?_;refine jM rfl (by decide) ?_;refine eS ?_;refine cJ 7 ?_;refine jM rfl (by decide) ?_;refine eS ?_;refine kK ?_;refine eJ ?_;refine Rp ?_;refine eJ ?_;exact fT rfl rfl rfl fun w1 st=>⟨rfl,st.below (by simp)⟩
theorem aBV(w0 low many v:Int)(w:World)(hok:okF low many):
  Cz 167 #[.int .u32 w0,iv low,iv many,.int .u32 v] w (Rt (.tuple #[.int .u32 (wN w0 low many v).1,iv (wN w0 low many v).2]) w):=by
 refine aO func167 ntmps167 ?_;refine aB ?_;refine kA [] (aEr many) (fun w1 st=>aHg low many w1 hok) ?_;rintro _ w1 q1 ⟨g,rfl,cR⟩ hf _ _
 have cR:=cR.le hf
 clear hf;refine dO rfl (by decide) ?_;refine Yy rfl rfl (by decide) ?_;refine Yy rfl rfl (by decide) ?_;refine jM rfl (by decide) ?_;refine jM rfl (by decide) ?_;refine fB ?_;refine eA ?_;refine eA ?_;refine fU ?_;refine dO rfl (by decide) ?_
 (first | refine aE7 rfl (by decide) ?_ | refine Ek rfl (by decide) ?_)
 refine fB ?_;refine pF rfl (fun h=>?_) (fun h=>?_)
 ·
  refine aB ?_;exact absurd h (by simp)
 ·
  refine aB ?_;refine xY (f:=217) (fi:=[]) (ca:=[pt g]) (by kernel_rfl) rfl rfl (by decide) (fun w1 st=>aDm 0 many g w1 (cR.le (st.le (by simp))) (by unfold okF at hok;omega) (by unfold okF at hok;omega)) ?_;refine Su (c:=Bt v (uX many 0)) rfl rfl (fun _=>rfl) (by simp) (by decide) ?_;refine aB ?_;refine aG rfl (fun h=>?_) (fun h=>?_)
  ·
   refine aB ?_;refine fT rfl rfl rfl fun w1 st=>⟨by rw[wN,if_pos h],st.below (by simp)⟩
  ·
   refine nV ?_;refine eJ ?_;refine eA ?_;refine qM 8 (by kernel_rfl) (by kernel_rfl) ?_;refine fZ 0 rfl rfl rfl (lQ rfl) ?_;refine fZ 1 rfl rfl rfl (lQ rfl) ?_;refine fZ 2 rfl rfl rfl (lQ rfl) ?_;refine fZ 5 rfl rfl rfl (lQ rfl) ?_;refine fZ 6 rfl rfl rfl (lQ rfl) ?_;refine fZ 7 rfl rfl rfl (aP2 rfl rfl (by unfold okF at hok;omega) rfl) ?_;refine cJ 3 ?_;refine xY (f:=217) (fi:=[]) (ca:=[pt g]) (by kernel_rfl) rfl rfl (by decide) (fun w1 st=>aDm low many g w1 (cR.le (st.le (by simp))) (by unfold okF at hok;omega) (by unfold okF at hok;omega)) ?_;refine mT ?_;refine fZ 4 rfl rfl rfl (aH2 (c:=Bt w0 (uX many low)) rfl rfl (fun _=>rfl) (by simp)) ?_;refine cJ 8 ?_;refine Su (c:=Ah (Bt w0 (uX many low)) (IntKind.u32.wrap (v*2 ^ min low.toNat 32))) rfl rfl (fun _=>rfl) (by simp) (by decide) ?_;refine eS ?_;refine cJ 9 ?_;refine jM rfl (by decide) ?_;refine eS ?_;refine cJ 10 ?_;refine jM rfl (by decide) ?_;refine eS ?_;refine kK ?_;refine eJ ?_;refine Rp ?_;refine eJ ?_;refine fT rfl rfl rfl fun w1 st=>⟨by rw[wN,if_neg h],st.below (by simp)⟩
theorem Ue(w0 low many:Int)(w:World)(hok:okF low many):
  Cz 129 #[.int .u32 w0,iv low,iv many] w (Rt (iv (cM w0 low many)) w):=by
 refine aO func129 ntmps129 ?_;refine aA ?_;refine dG (fun w1 st=>aGO w0 low many w1 hok) ?_;refine aA ?_;refine Ch (ds:=.int .u32) (by kernel_rfl) (by kernel_rfl) rfl (iW (by have:=Ny (BitVec.ofInt 32 (w0.fdiv (2 ^ min low.toNat 32))&&& BitVec.ofInt 32 (uX many 0)).toNat;unfold cM aAV;omega)) (by decide) ?_;refine aA ?_;exact aP (h:=fun _ _=>rfl)
theorem Zy(w0 low many v:Int)(w:World)(hok:okF low many):
  Cz 109 #[.int .u32 w0,iv low,iv many,iv v] w (Rt (.tuple #[.int .u32 (fX w0 low many v).1,iv (fX w0 low many v).2]) w):=by
 refine aO func109 ntmps109 ?_;refine aB ?_
 (first | refine bX (t:=13) rfl (fun hg=>?_) (fun hg=>?_) | refine pZ (t:=13) rfl (fun hg=>?_) (fun hg=>?_))
 ·
  refine aB ?_;refine fT rfl rfl rfl fun w1 st=>⟨by rw[fX,if_pos (.inl hg)],st.below (by simp)⟩
 ·
  refine jC rfl rfl ?_;refine dO rfl (by decide) ?_;refine jC rfl rfl ?_;refine dO rfl (by decide) ?_;refine jC rfl rfl ?_;refine Nt rfl rfl (by unfold okF at hok;omega) rfl (by decide) ?_;refine aB ?_;refine aG rfl (fun h=>?_) (fun h=>?_)
  ·
   refine aB ?_;refine fT rfl rfl rfl fun w1 st=>⟨by rw[fX,if_pos (.inr h)],st.below (by simp)⟩
  ·
   refine nV ?_
   have hno:¬(v < 0∨IntKind.i64.wrap (1*2 ^ min many.toNat 64)≤v):=fun h2=>h2.elim hg h
   refine eJ ?_;refine eA ?_;refine fU ?_;refine dO rfl (by decide) ?_;refine dO rfl (by decide) ?_;refine dO rfl (by decide) ?_;refine dO rfl (by decide) ?_;refine Ch (kd:=.u32) (ds:=.int .i64) (by kernel_rfl) (by kernel_rfl) rfl rfl (by decide) ?_;refine dG (fun w1 st=>aBV w0 low many (IntKind.u32.wrap v) w1 hok) ?_;refine aB ?_;refine aG rfl (fun h2=>?_) (fun h2=>?_)
   ·
    refine aB ?_;refine fT rfl rfl rfl fun w1 st=>⟨by rw[fX,if_neg hno,if_pos h2],st.below (by simp)⟩
   ·
    refine aB ?_;refine fT rfl rfl rfl fun w1 st=>⟨by rw[fX,if_neg hno,if_neg h2];rfl,st.below (by simp)⟩
end
section
def Xd(bG:Int)(i:Nat):Bool:=decide (aAV (bG.fdiv (2 ^ min i 32)) 1=1)
def Cu(x:aU)(bG:Int)(n:Nat):List (dW×fD):=x.dv.mapIdx fun i p=>if i < n then(p.1,yD p.2 (decide (0 < oN x.wt i)) (Xd bG i)) else p
def Gj(k:Int)(d:cH)(f:dW):dW:=if k=115 then uT d f else if k=114 then Hw d f else if k=108∨k=110 then Dw d f else f
def Gk(s:aC)(e:Int×Nat)(i:Nat)(p:dW×fD):dW×fD:=match s.aD[i]? with
 | some d=>if d.domain=(e.2:Int) then(Gj e.1 d p.1,p.2) else p
 | none=>p
def Cv(s:aC)(dv:List (dW×fD))(e:Int×Nat)(n:Nat):List (dW×fD):=dv.mapIdx fun i p=>if i < n then Gk s e i p else p
def uE(s:aC)(dv:List (dW×fD))(e:Int×Nat):List (dW×fD):=Cv s dv e s.aD.length
def Sy(s:aC)(x:aU)(bG:Int):aU:=⟨mJ s x.ck,pM x.dm,Hq x.ln,(kO x.dm s.domains.length).foldl (uE s) (Cu x bG s.aD.length),x.wt,x.aZ⟩
theorem Ou{α:Type}(l:List α)(f:Nat→α→α):(l.mapIdx fun i p=>if i < 0 then f i p else p)=l:=by
 refine List.ext_getElem? fun i=>?_;simp
theorem Ov{α:Type}{l:List α}{f:Nat→α→α}{n:Nat}{p:α}(hp:l[n]? =some p):(l.mapIdx fun i p=>if i < n then f i p else p).set n (f n p)=l.mapIdx fun i p=>if i < n+1 then f i p else p:=by
 refine List.ext_getElem? fun i=>?_
 have hlt:=(List.getElem?_eq_some_iff.1 hp).1
 rw[List.getElem?_set]
 by_cases he:n=i
 ·subst he;rw[if_pos rfl,if_pos (by simpa using hlt),List.getElem?_mapIdx,hp];simp
 ·rw[if_neg he,List.getElem?_mapIdx,List.getElem?_mapIdx];cases l[i]? with
  | none=>rfl
  | some q=>
   simp only[Option.map_some,Option.some.injEq]
   by_cases h:i < n
   ·rw[if_pos h,if_pos (by omega)]
   ·rw[if_neg h,if_neg (by omega)]
theorem Ow{α:Type}{l:List α}{f:Nat→α→α}{n:Nat}{p:α}(hp:l[n]? =some p):(l.mapIdx fun i p=>if i < n then f i p else p)[n]? =some p:=by
 rw[List.getElem?_mapIdx,hp];simp
theorem aAG{ds:List cH}{ls:List (FL×Nat)}{xs:List (dW×fD)}{i:Nat}{d:cH}{l:FL×Nat}{p:dW×fD}(hd:ds[i]? =some d)(hl:ls[i]? =some l)(hp:xs[i]? =some p):(xE ds ls xs)[i]? =some (Qq d (l,p)):=by
 have hq:(ls.zip xs)[i]? =some (l,p):=List.getElem?_zip_eq_some.2 ⟨hl,hp⟩
 rw[xE,List.getElem?_zipWith,hd,hq]
theorem aPm{ds:List cH}{ls:List (FL×Nat)}{xs:List (dW×fD)}{i:Nat}{d:cH}{l:FL×Nat}{p:dW×fD}(hd:ds[i]? =some d)(hl:ls[i]? =some l)(hp:xs[i]? =some p)(p':dW×fD):(xE ds ls xs).set i (Qq d (l,p'))=xE ds ls (xs.set i p'):=by
 refine List.ext_getElem? fun j=>?_
 have hlt:=(List.getElem?_eq_some_iff.1 (aAG hd hl hp)).1
 rw[List.getElem?_set]
 by_cases he:i=j
 ·subst he;rw[if_pos rfl,if_pos hlt];exact(aAG hd hl (List.getElem?_set_self (List.getElem?_eq_some_iff.1 hp).1)).symm
 ·rw[if_neg he];simp only[xE,List.getElem?_zipWith,List.zip,List.getElem?_set_ne he]
theorem aDo{ds:List cH}{ls:List (FL×Nat)}{i:Nat}{d:cH}{l:FL×Nat}(hd:ds[i]? =some d)(hl:ls[i]? =some l):(vG ds ls)[i]? =some (Jd d l):=by
 rw[vG,List.getElem?_zipWith,hd,hl]
theorem aDn{ds:List cH}{ls:List (FL×Nat)}:∀r∈vG ds ls,r.length=6:=fun r hr=>by
 obtain⟨i,hi⟩:=List.getElem?_of_mem hr;rw[vG,List.getElem?_zipWith] at hi;split at hi
 ·cases hi;rfl
 ·cases hi
theorem aKc{x:fD}(h:zG x)(a b:Bool):zG (yD x a b):=by
 unfold yD;unfold zG at h⊢;split
 ·exact h
 ·split
  ·exact⟨(by show(0:Int)≤3;omega),(by show(3:Int)≤3;omega)⟩
  ·split
   ·exact h
   ·exact⟨(by show(0:Int)≤2;omega),(by show(2:Int)≤3;omega)⟩
theorem aKD{r:Rg}{p:Int×Int}(h1:0≤p.1∧p.1 < 4294967296)(h2:0≤p.2∧p.2 < 4294967296):0≤Kt r p∧Kt r p < 4294967296:=by
 unfold Kt;split<;>assumption
theorem aH5{d:cH}{f:dW}(k:Int)(hr:∀r∈d.aS,0≤r.reset∧r.reset≤6)(h:xS d f):xS d (Gj k d f):=by
 have hres:∀v∈d.aS.map (·.reset),0≤v∧v < 4294967296:=fun v hv=>by
  obtain⟨r,dN,rfl⟩:=List.mem_map.1 hv
  have:=hr r dN
  omega
 have h1:=h.now
 have h2:=h.saved
 unfold Gj;split
 ·refine⟨h1,by simp[uT];omega,h.u.1,fun v hv=>?_⟩;obtain⟨i,hi⟩:=List.getElem?_of_mem hv;simp only[uT,List.getElem?_zipWith] at hi;split at hi
  ·rename_i r p dN gF
   cases hi;obtain⟨Lu,hp3⟩:=List.getElem?_zip_eq_some.1 gF;exact aKD (h.u.1 _ (List.mem_of_getElem? Lu)) (h.u.2 _ (List.mem_of_getElem? hp3))
  ·cases hi
 ·split
  ·refine⟨by simp[Hw];omega,h2,fun v hv=>?_,h.u.2⟩;obtain⟨i,hi⟩:=List.getElem?_of_mem hv;simp only[Hw,List.getElem?_zipWith] at hi;split at hi
   ·rename_i r p dN gF
    cases hi;unfold Zr;split
    ·exact h.u.2 _ (List.mem_of_getElem? gF)
    ·have:=hr r (List.mem_of_getElem? dN)
     omega
   ·cases hi
  ·split
   ·exact⟨by simp[Dw],h2,hres,h.u.2⟩
   ·exact h
theorem Ug{s:aC}{x:aU}(hH:s.dJ)(hok:cT s x){dv:List (dW×fD)}(hl:dv.length=x.dv.length)(h:∀(i:Nat) (d:cH) (p:dW×fD),s.aD[i]? =some d→dv[i]? =some p→xS d p.1∧zG p.2):cT s {x with dv:=dv}:=⟨hok.ck,hok.dm,hok.ln,hl.trans hok.dv,h,hok.wt⟩
theorem aCq{s:aC}{x:aU}(hH:s.dJ)(hok:cT s x)(bG:Int)(n:Nat):cT s {x with dv:=Cu x bG n}:=Ug hH hok (by simp[Cu]) fun i d p hd hp=>by
 rw[Cu,List.getElem?_mapIdx] at hp;cases hq:x.dv[i]? with
 | none=>rw[hq] at hp;cases hp
 | some q=>
  rw[hq] at hp;obtain⟨h1,h2⟩:=hok.each i d q hd hq;simp only[Option.map_some,Option.some.injEq] at hp;subst hp;split
  ·exact⟨h1,aKc h2 _ _⟩
  ·exact⟨h1,h2⟩
theorem aFZ{s:aC}{x:aU}(hH:s.dJ)(hok:cT s x)(e:Int×Nat)(n:Nat):cT s {x with dv:=Cv s x.dv e n}:=Ug hH hok (by simp[Cv]) fun i d p hd hp=>by
 rw[Cv,List.getElem?_mapIdx] at hp;cases hq:x.dv[i]? with
 | none=>rw[hq] at hp;cases hp
 | some q =>
  rw[hq] at hp;obtain⟨h1,h2⟩:=hok.each i d q hd hq;simp only[Option.map_some,Option.some.injEq] at hp;subst hp;split
  ·unfold Gk;rw[hd];dsimp only;split
   ·exact⟨aH5 _ (hH.t.aD i d hd).2.2.2.2.2.2.2.2.2.1 h1,h2⟩
   ·exact⟨h1,h2⟩
  ·exact⟨h1,h2⟩
theorem aDf{s:aC}(hH:s.dJ):∀(es:List (Int×Nat)) (x:aU),cT s x→cT s {x with dv:=es.foldl (uE s) x.dv}
 | [],x,h=>h
 | e::es,x,h=>aDf hH es {x with dv:=uE s x.dv e} (aFZ hH h e _)
theorem aME{s:aC}{dv:List (dW×fD)}{e:Int×Nat}(h:¬(e.1=115∨e.1=114∨e.1=108∨e.1=110)):uE s dv e=dv:=by
 unfold uE Cv;refine List.ext_getElem? fun i=>?_;rw[List.getElem?_mapIdx];cases dv[i]? with
 | none=>rfl
 | some p =>
  simp only[Option.map_some,Option.some.injEq];split
  ·unfold Gk;split
   ·split
    ·have:Gj e.1 (by assumption) p.1=p.1:=by
      unfold Gj;rw[if_neg (by omega),if_neg (by omega),if_neg (by omega)]
     rw[this]
    ·rfl
   ·rfl
  ·rfl
theorem aKe{s:aC}{st:List jX}(h:Ef s st):Ef s (Hq st):=by
 refine⟨by simp[Hq,h.len],fun x hx=>?_⟩;obtain⟨y,hy,rfl⟩:=List.mem_map.1 hx
 have:=h.left y hy
 unfold mV;split
 ·exact this
 ·split
  ·dsimp only;omega
  ·split
   ·exact this
   ·exact this
theorem aKb{s:aC}{x:aU}(hH:s.dJ)(hok:cT s x)(bG:Int):cT s (Sy s x bG):=by
 have h1:=aDf hH (kO x.dm s.domains.length) _ (aCq hH hok bG s.aD.length)
 exact⟨aBI hH hok.ck,aBH hok.dm,aKe hok.ln,h1.dv,h1.each,hok.wt⟩
section
variable{N:cE}{w0 w:World}{e:Env}{R:List Piece}{H:List HP}{K:Act→World→Prop}{L:HL}{s:aC}{x:aU}
def aGG(L:HL)(s:aC)(x:aU):HP:=HP.many [HP.aE L.h 203 (Vv L s.aD.length),pG L.T s x.ck,uN L.G s x.dm,oL L.R s x.ln,xV L.B (jT s) x.wt x.aZ,HP.own 210 6 (.slice L.A s.aD.length L.c) s.aD.length (vG s.aD L.ds).flatten,bU]
def aHq(L:HL)(s:aC)(x:aU)(i:Nat):HP:=HP.many ((xE s.aD L.ds x.dv).set i bU)
theorem Rq(j i:Nat){d:cH}{l:FL×Nat}{p:dW×fD}(hj:H[j]? =some (dM L s x))(hd:s.aD[i]? =some d)(hl:L.ds[i]? =some l)(hp:x.dv[i]? =some p)
  (k:XK N w0 K e R (HP.many [gT l.1 d p.1,tE l.2 p.2]::aHq L s x i::H.set j (aGG L s x))):XK N w0 K e R H:=by
 refine qJ j 6 hj rfl ?_;refine qJ 0 i rfl (aAG hd hl hp) ?_;exact k
theorem Rx(j i:Nat){d:cH}{l:FL×Nat}{p p':dW×fD}(hj:H[j]? =some (aGG L s x))(hd:s.aD[i]? =some d)(hl:L.ds[i]? =some l)(hp:x.dv[i]? =some p)
  (k:XK N w0 K e R (H.set j (dM L s {x with dv:=x.dv.set i p'}))):XK N w0 K e R (HP.many [gT l.1 d p'.1,tE l.2 p'.2]::aHq L s x i::H):=by
 have hlt:=(List.getElem?_eq_some_iff.1 (aAG hd hl hp)).1
 refine qL 0 i rfl (by rw[List.getElem?_set_self (by simpa using hlt)]) ?_;dsimp only[List.set];refine qL j 6 hj rfl ?_;rw[List.set_set,show HP.many [gT l.1 d p'.1,tE l.2 p'.2]=Qq d (l,p') from rfl,aPm hd hl hp p'];exact k
theorem Mv(j:Nat)(hj:H[j]? =some (dM L s x))(aR:gB L s)(hok:cT s x)(hn:0 < s.aD.length)(k:∀b off,L.A=some ⟨b,off,none⟩→XK N w0 K e R H):XK N w0 K e R H:=fun a w hr st=>by
 obtain⟨b,off,hA,_⟩:=(st.mB j hj aR hok).rows.2 hn;exact k b off hA a w hr st
theorem aM.dev(j:Nat){i b off o:Nat}{d:cH}{l:FL×Nat}(hj:H[j]? =some (dM L s x))(aR:gB L s)(hok:cT s x)(hA:L.A=some ⟨b,off,none⟩)(hd:s.aD[i]? =some d)(hl:L.ds[i]? =some l)(ho:o=off+i*6):aM w0 R H b o (Jd d l):=.of fun k v hv w st=>by
 obtain⟨b',off',pR,hr⟩:=aH.row (st.mB j hj aR hok).rows (rows:=vG s.aD L.ds) (fun r hr=>aDn r hr) (aDo hd hl) (List.getElem?_eq_some_iff.1 hd).1;rw[hA] at pR;cases pR;subst ho;exact(hr.2 k v hv)
end
end
section
section
variable{P:Program}{N:cE}{w0:World}{e:Env}{R:List Piece}{H:List HP}{Q:Exit→Act→World→Prop}{ops:Array Oper}{rest:List Oper}
variable{d:Nat}{ty:TypeId}{pos:String}{aI:Array Edge}
theorem vS{α:Type}(i:Nat){f:FuncId}{x:Operand}{args:List Operand}{fi ca vs:List Value}{tys:Array TypeId}{p:HP}(v:α→Value)(q:α→HP)(G:α→Prop)(hf:eW P f=true)(hx:e.ev x=some (.func (.func f) fi.toArray ca.toArray))(ha:e.fO args=some vs)(hi:H[i]? =some p)(hd:d < N.n)
  (hc:∀w F,St w0 R H w→p.sat F w→(∀b,F b→b < w.heap.size)→(∀q∈R,q.Le ⟨w,fun b=>b < w.heap.size∧¬F b⟩)→Calls P f (fi++vs++ca).toArray w fun y w'=>∃a,y=.returned (v a)∧G a∧∃F',(q a).sat F' w'∧iD w w' F F')
  (k:∀a,G a→XK N w0 (wpList P ops Q rest) ((d,v a)::e) R (H.set i (q a))):XK N w0 (wpList P ops Q (⟨some d,.call {callee:=.value x,args:=args.toArray,argTypes:=tys},ty,pos,aI,none⟩::rest)) e R H:=fun a w hr st=>wpList_plain rfl fun K hK=>by
 unfold eW at hf;cases hq:P.funcs[f]? with
 | none=>simp[hq] at hf
 | some fn =>
  simp[hq] at hf;obtain⟨gH,mP⟩:=hf
  have hrun:(execOp a.eval (⟨some d,.call {callee:=.value x,args:=args.toArray,argTypes:=tys},ty,pos,aI,none⟩:Oper)).run P w=.ok (.enter f (fi++vs++ca).toArray) w:=by
   cases hb:fn.body with
   | none=>simp[hb] at mP
   | some c=>simp[execOp,resolve,hr.ev hx,Deferred.ofValue,invoke,callFunc,hq,gH,hb,hr.fO ha]
  obtain⟨F,hp,hlt,hle,lF⟩:=st.chunk hi;unfold Oper.wp;rw[hrun];refine(hc w F st hp hlt hle).mono fun y w' hy=>?_;obtain⟨a',rfl,hG,F',hs,ht⟩:=hy;exact hK _ _ (k a' hG _ _ (hr.put hd (v a')) (lF w' F' (q a') hs ht))
end
end
section
section
variable{P:Program}{N:cE}{w0:World}{e:Env}{R:List Piece}{H:List HP}{d:Nat}{ty:TypeId}{pos:String}{aI:Array Edge}
def aGQ(P:Program)(t:TypeId):Bool:=match P.underlying t with
 | some (.func ..)=>true
 | _=>false
theorem aKQ(w:World)(n:Nat)(t:TypeId){f1 f2:Array TypeId}{f3:Bool}(hu:P.underlying t=some (.func f1 f2 f3)):(Op.equalIn (n+1) t .nilFunc .nilFunc).run P w=.ok true w:=by simp[Op.equalIn,run_underlying hu]
theorem aKS(w:World)(n:Nat)(t:TypeId){f1 f2:Array TypeId}{f3:Bool}(f:Fn)(fi ca:Array Value)(hu:P.underlying t=some (.func f1 f2 f3)):(Op.equalIn (n+1) t (.func f fi ca) .nilFunc).run P w=.ok false w:=by simp[Op.equalIn,run_underlying hu]
theorem aH1{x:Operand}{t u:TypeId}{v:Value}{b:Bool}(hx:e.ev x=some v)(hv:(v=.nilFunc∧b=true)∨(∃f a c,v=.func f a c)∧b=false)(ht:aGQ P t=true:=by kernel_rfl):bQ P N w0 e R H ⟨some d,.binOp .eql t x (.const .nilFunc) u,ty,pos,aI,none⟩ (.bool b):=gP fun a w hr=>by
 have h2:=hr.ev (show e.ev (.const .nilFunc)=some .nilFunc from rfl)
 unfold aGQ at ht;split at ht
 ·rename_i f1 f2 f3 hu
  rcases hv with⟨rfl,rfl⟩ | ⟨⟨f,fi,ca,rfl⟩,rfl⟩
  ·have h4:(Op.equal t .nilFunc .nilFunc).run P w=.ok true w:=aKQ w 9999 t hu
   simp[execOp,hr.ev hx,h2,eqGuard,binOp,h4]
  ·have h4:(Op.equal t (.func f fi ca) .nilFunc).run P w=.ok false w:=aKS w 9999 t f fi ca hu
   simp[execOp,hr.ev hx,h2,eqGuard,binOp,h4]
 ·cases ht
end
def Gi(k:Int):Value:=if k=115 then .func (.func 195) #[] #[] else if k=114 then .func (.func 196) #[] #[] else if k=108∨k=110 then .func (.func 160) #[] #[] else .nilFunc
theorem aNU(k:Int)(w:World):Cz 156 #[.int .u8 k] w (Rt (Gi k) w):=by
 refine aO func156 ntmps156 ?_;refine aA ?_;refine aG rfl (fun h1=>?_) (fun h1=>?_)
 ·refine aA ?_;exact dF (by rw[Gi,if_pos h1])
 refine aA ?_;refine aG rfl (fun h2=>?_) (fun h2=>?_)
 ·refine aA ?_;exact dF (by rw[Gi,if_neg h1,if_pos h2])
 refine aA ?_;refine aG rfl (fun h3=>?_) (fun h3=>?_)
 ·refine aA ?_;refine aG rfl (fun _=>?_) (fun h=>absurd h3 h);refine aA ?_;exact dF (by rw[Gi,if_neg h1,if_neg h2,if_pos (.inl h3)])
 ·refine aA ?_;refine aG rfl (fun h4=>?_) (fun h4=>?_)
  ·refine aA ?_;exact dF (by rw[Gi,if_neg h1,if_neg h2,if_pos (.inr h4)])
  ·refine aA ?_;exact dF (by rw[Gi,if_neg h1,if_neg h2,if_neg (by omega)])
theorem aPW{k:Int}(hk:k=115∨k=114∨k=108∨k=110):∃f:FuncId,Gi k=.func (.func f) #[] #[]∧eW Tryz.prog f=true∧∀(L:FL) (d:cH) (x:dW) (hrl:d.aS.length≤100) (hok:xS d x) (w:World) (F:Nat→Prop) (hp:(gT L d x).sat F w) (hF:∀b,F b→b < w.heap.size),
  Cz f #[.pointer (some ⟨L.f,0,none⟩)] w (Wr (.tuple #[]) (gT L d (Gj k d x)) w F):=by
 rcases hk with rfl | rfl | rfl | rfl
 ·exact⟨_,rfl,(by kernel_rfl),aL0⟩
 ·exact⟨_,rfl,(by kernel_rfl),aL1⟩
 ·exact⟨_,rfl,(by kernel_rfl),Zt⟩
 ·exact⟨_,rfl,(by kernel_rfl),Zt⟩
theorem aQN(L:BL)(ms:List Int)(ws:List (Option jA))(aZ:Int)(i:Nat)(hi:i < ms.length)(h0:oN ws i=0)(w:World)(hR:Hj w L ms ws aZ):
  Cz 190 #[.pointer (some ⟨L.b,0,none⟩),iv (i:Int)] w (Rt (.tuple #[.agg #[iv 0,.bool false,iv 0,.int .u32 0],.bool false]) w):=by
 have k1:=hR.r0.at_ (j:=1) rfl
 obtain⟨A,c,k2⟩:=hR.wt i hi;rw[h0] at k2
 have hin:bZ ms.length (i:Int)=true:=decide_eq_true (by omega)
 refine aO func190 ntmps190 ?_;refine aA ?_;refine bY fun g1=>?_;refine aA ?_;refine aQ (fun w1 t=>aAR L ms ws aZ i w1 (hR.below (t.below (by simp)))) ?_;rw[hin];refine aB ?_;exact yX (vs:=[iv 0,.bool false,iv 0,.int .u32 0]) rfl (by kernel_rfl) rfl rfl (aM.whole 0 rfl) rfl fun w1 t=>⟨rfl,t.below (by simp)⟩
theorem aNX(L:HL)(s:aC)(x:aU)(i:Nat)(hi:i < s.aD.length)(h0:oN x.wt i=0)(w:World)(hR:tG w L s x):
  Cz 151 #[.pointer (some ⟨L.h,0,none⟩),iv (i:Int)] w (Rt (.tuple #[.agg #[iv 0,iv 0,.bool false,.int .u32 0],.bool false]) w):=by
 have k3:=hR.r0.at_ (j:=3) rfl
 refine aO func151 ntmps151 ?_;refine aA ?_;refine bY fun g1=>?_;refine aA ?_;refine aQ (fun w1 t=>aQN L.B (jT s) x.wt x.aZ i (by rw[Fb];exact hi) h0 w1 (hR.bus.below (t.below (by simp)))) ?_;refine aA ?_;refine bY fun g2=>?_;refine aB ?_;exact yX (vs:=[iv 0,iv 0,.bool false,.int .u32 0]) rfl (by kernel_rfl) rfl rfl (aM.whole 1 rfl) rfl fun w1 t=>⟨rfl,t.below (by simp)⟩
end
section
section
variable{P:Program}{ops:Array Oper}{Q:Exit→Act→World→Prop}{N:cE}{w0:World}{e e':Env}{R R':List Piece}{H H':List HP}{rest:List Oper}{d:Nat}{ty:TypeId}{pos:String}{aI:Array Edge}
def isIface(P:Program)(t:TypeId):Bool:=match P.underlying t with
 | some (.interface _)=>true
 | _=>false
def aFN(P:Program)(t:TypeId):Bool:=match P.underlying t with
 | some (.interface _)=>false
 | some _=>true
 | none=>false
theorem Qu{x:Operand}{t:TypeId}{v:Value}(hx:e.ev x=some v)(ht:aFN P t=true:=by kernel_rfl):bQ P N w0 e R H ⟨some d,.makeInterface t x,ty,pos,aI,none⟩ (.iface t v):=gP fun a w hr=>by
 unfold aFN at ht;cases hu:P.underlying t with
 | none=>rw[hu] at ht;cases ht
 | some u=>cases u<;>first | (rw[hu] at ht;cases ht;done) | simp[execOp,hr.ev hx,Instr.makeInterface,run_underlying hu]
theorem aKR(w:World)(n:Nat)(t:TypeId){f:Array (String×TypeId)}(hu:P.underlying t=some (.interface f)):(Op.equalIn (n+1) t .nilIface .nilIface).run P w=.ok true w:=by simp[Op.equalIn,run_underlying hu]
theorem aKP(w:World)(n:Nat)(t:TypeId){f:Array (String×TypeId)}(u:TypeId)(v:Value)(hu:P.underlying t=some (.interface f)):(Op.equalIn (n+1) t (.iface u v) .nilIface).run P w=.ok false w:=by simp[Op.equalIn,run_underlying hu]
theorem aHz{x:Operand}{t u:TypeId}{v:Value}{b:Bool}(hx:e.ev x=some v)(hv:(v=.nilIface∧b=true)∨(∃u y,v=.iface u y)∧b=false)(ht:isIface P t=true:=by kernel_rfl):bQ P N w0 e R H ⟨some d,.binOp .eql t x (.const .nilIface) u,ty,pos,aI,none⟩ (.bool b):=gP fun a w hr=>by
 have h2:=hr.ev (show e.ev (.const .nilIface)=some .nilIface from rfl)
 unfold isIface at ht;split at ht
 ·rename_i f1 hu
  rcases hv with⟨rfl,rfl⟩ | ⟨⟨u,y,rfl⟩,rfl⟩
  ·have h4:(Op.equal t .nilIface .nilIface).run P w=.ok true w:=aKR w 9999 t hu
   simp[execOp,hr.ev hx,h2,eqGuard,binOp,h4]
  ·have h4:(Op.equal t (.iface u y) .nilIface).run P w=.ok false w:=aKP w 9999 t u y hu
   simp[execOp,hr.ev hx,h2,eqGuard,binOp,h4]
 ·cases ht
theorem aJs(i:Nat){dst:Option Nat}{e':Env}{f:FuncId}{x:Operand}{name:String}{args:List Operand}{vs:List Value}{tys:Array TypeId}{tx:TypeId}{u u':Value}{p:HP}{v:Value}(q:HP)(hf:eW P f=true)(hx:e.ev x=some (.iface tx u))(hm:∀w,(method (P.types.size+Made.depth) tx u name).run P w=.ok (f,u') w)(ha:e.fO args=some vs)(hi:H[i]? =some p)
  (hd:match dst with | some d=>d < N.n∧e'=(d,v)::e | none=>e'=e)
  (hc:∀w F,St w0 R H w→p.sat F w→(∀b,F b→b < w.heap.size)→(∀q∈R,q.Le ⟨w,fun b=>b < w.heap.size∧¬F b⟩)→Calls P f (u'::vs).toArray w fun y w'=>y=.returned v∧∃F',q.sat F' w'∧iD w w' F F')
  (k:XK N w0 (wpList P ops Q rest) e' R (H.set i q)):XK N w0 (wpList P ops Q (⟨dst,.call {callee:=.invoke x name,args:=args.toArray,argTypes:=tys},ty,pos,aI,none⟩::rest)) e R H:=fun a w hr st=>wpList_plain rfl fun K hK=>by
 unfold eW at hf;cases hq:P.funcs[f]? with
 | none=>simp[hq] at hf
 | some fn =>
  simp[hq] at hf;obtain⟨gH,mP⟩:=hf
  have hrun:(execOp a.eval (⟨dst,.call {callee:=.invoke x name,args:=args.toArray,argTypes:=tys},ty,pos,aI,none⟩:Oper)).run P w=.ok (.enter f (u'::vs).toArray) w:=by
   cases hb:fn.body with
   | none=>simp[hb] at mP
   | some c=>
    have h0:(#[Value.iface tx u]++(args.toArray.map a.eval))[0]? =some (.iface tx u):=by simp[Array.getElem?_append]
    simp[execOp,resolve,hr.ev hx,invoke,callMethod,hm,callFunc,hq,gH,hb,hr.fO ha]
  obtain⟨Z,F,hz,cQ,hs,cY,eP⟩:=st.ex;unfold Oper.wp;rw[hrun];refine(hc w (F i) st (hs i p hi) (fun b hb=>(cY i b hb).2) (fun q hq b hb=>⟨⟨hz b (cQ q hq b hb).1,fun nR=>(cY i b nR).1 (cQ q hq b hb).1⟩,(cQ q hq b hb).2⟩)).mono fun y w' ⟨hy,F',nI,ht⟩=>?_;subst hy
  have st':St w0 R (H.set i q) w':=by
   have hlt:i < H.length:=by
    rcases Nat.lt_or_ge i H.length with h | h
    ·exact h
    ·rw[List.getElem?_eq_none h] at hi;cases hi
   refine⟨ht.os.trans st.os,ht.tape.trans st.tape,ht.output.trans st.output,Nat.le_trans st.size ht.size,Z,fun j=>if j=i then F' else F j,fun b h=>Nat.lt_of_lt_of_le (hz b h) ht.size,fun p hp b h=>?_,fun j r hj=>?_,fun j b h=>?_,fun j k b kH h=>?_⟩
   ·exact⟨(cQ p hp b h).1,(ht.old b (hz b (cQ p hp b h).1) (fun nR=>(cY i b nR).1 (cQ p hp b h).1)).trans (cQ p hp b h).2⟩
   ·rw[List.getElem?_set] at hj;split at hj
    ·rename_i e;subst e
     first | (rw[if_pos hlt] at hj;cases hj) | cases hj
     simpa using nI
    ·rename_i e
     simp only[if_neg (Ne.symm e)];exact r.loc _ _ _ (hs j r hj) (fun b hb=>ht.old b (cY j b hb).2 (eP j i b (Ne.symm e) hb))
   ·dsimp only at h;split at h
    ·refine⟨fun eV=>?_,(ht.new b h).2⟩;rcases(ht.new b h).1 with h | h
     ·exact(cY i b h).1 eV
     ·have:=hz b eV;omega
    ·exact⟨(cY j b h).1,Nat.lt_of_lt_of_le (cY j b h).2 ht.size⟩
   ·dsimp only at h⊢;split at h<;>split
    ·rename_i h1 h2;omega
    ·rename_i e1 e2
     intro hk;rcases(ht.new b h).1 with h | h
     ·exact eP i k b (by omega) h hk
     ·have:=(cY k b hk).2;omega
    ·rename_i e1 e2
     intro hk;rcases(ht.new b hk).1 with hk | hk
     ·exact eP j i b (by omega) h hk
     ·have:=(cY j b h).2;omega
    ·exact eP j k b kH h
  cases dst with
  | none=>dsimp only at hd;subst hd;exact hK _ _ (k _ _ hr st')
  | some d=>dsimp only at hd;obtain⟨hd,rfl⟩:=hd;exact hK _ _ (k _ _ (hr.put hd v) st')
end
end
section
open Go.RowKit Go.Shelf
attribute [local go_sem] Oper.semAt_some
def dQ(zs:List Int):List Value:=zs.map (Value.int .u32)
end
section
section
variable{P:Program}{N:cE}{w0:World}{e:Env}{R:List Piece}{H:List HP}{Q:Exit→Act→World→Prop}{ops:Array Oper}{rest:List Oper}
variable{d:Nat}{ty:TypeId}{pos:String}{aI:Array Edge}
theorem aEZ{t el:TypeId}(ht:P.underlying t=some (.slice el)):P.underlying t=some (.slice (P.elem t)):=by
 unfold Program.elem;rw[ht]
theorem elem_eq{t el:TypeId}(ht:P.underlying t=some (.slice el)):P.elem t=el:=by unfold Program.elem;rw[ht]
theorem aKG{t el:TypeId}{sz n c k:Nat}{A:Option Addr}{kd:IntKind}(ht:P.underlying t=some (.slice el))(hsz:(P.info? el).map (·.size)=some sz)(hk:k≤c)(w:World):
  ∃A',(0 < k→(∃b off,A=some ⟨b,off,none⟩)→A'=A)∧(Instr.sliceAt t (.slice A n c) none (some (.int kd (k:Int))) none).run P w=.ok (.slice A' k c) w:=by
 obtain⟨i,hi,hs⟩:=Option.map_eq_some_iff.1 hsz
 have hel:=elem_eq ht
 refine⟨_,?_,by rw[run_sliceAt_slice w t _ _ _ _ (aEZ ht),run_slice_h w t A n c (aEZ ht) kd k (by omega) (by omega),hel];simp[sizeOf,typeInfo,hi,sliced];rfl⟩;rintro h0 ⟨b,off,rfl⟩;split
 ·rfl
 ·simp[Addr.add]
theorem aE4(k:Nat){x hi:Operand}{t el:TypeId}{sz n c:Nat}{A:Option Addr}{kd:IntKind}{j:Int}(ht:P.underlying t=some (.slice el))(hsz:(P.info? el).map (·.size)=some sz)(hx:e.ev x=some (.slice A n c))(hh:e.ev hi=some (.int kd j))(hj:j=(k:Int))(hk:k≤c)(hd:d < N.n)
  (kk:∀A',(0 < k→(∃b off,A=some ⟨b,off,none⟩)→A'=A)→XK N w0 (wpList P ops Q rest) ((d,.slice A' k c)::e) R H):XK N w0 (wpList P ops Q (⟨some d,.slice t x none (some hi) none,ty,pos,aI,none⟩::rest)) e R H:=
 rT rfl fun a w hr st=>by
  subst hj;obtain⟨A',h1,h2⟩:=aKG (P:=P) (kd:=kd) ht hsz hk w (n:=n) (A:=A);exact⟨_,w,by simp only[execOp,hr.ev hx,Option.map_some,Option.map_none,hr.ev hh,Sem.run_bind,h2,Result.andThen_ok,Sem.run_pure],kk A' h1 _ _ (hr.put hd _) st⟩
end
theorem aH.aEV{p:Piece}{sz n k:Nat}{A A':Option Addr}{xs:List Value}(h:aH p sz A n xs)(hk:k≤n)(hA:0 < k→(∃b off,A=some ⟨b,off,none⟩)→A'=A):aH p sz A' k (xs.take (k*sz)):=by
 refine⟨by rw[List.length_take,h.1];exact Nat.min_eq_left (Nat.mul_le_mul_right _ hk),fun h0=>?_⟩;obtain⟨b,off,Qd,hz,hc⟩:=h.2 (by omega);refine⟨b,off,by rw[hA h0 ⟨b,off,Qd⟩,Qd],hz,fun j u hu=>hc j u ?_⟩;rw[List.getElem?_take] at hu;split at hu
 ·exact hu
 ·cases hu
def jH(l:List (Int×Int))(k:Int):Int:=((l.find? fun p=>decide (p.1=k)).map (·.2)).getD 0
def zU:List (Int×Int)→Int→Int→List (Int×Int)
 | [],k,v=>[(k,v)]
 | (a,b)::r,k,v=>if a=k then(k,v)::r else(a,b)::zU r k v
def vH(l:List (Int×Int)):List (Int×Value):=l.map fun p=>(p.1,iv p.2)
theorem aGc:∀(l:List (Int×Int)) (k:Int),(lY (vH l) k).getD (iv 0)=iv (jH l k)
 | [],k=>rfl
 | (a, b) :: l, k => by
  have ih:=aGc l k
  show(lY ((a,iv b)::vH l) k).getD _=_
  rw[Ot];unfold jH;rw[List.find?_cons]
  by_cases h:a=k
  ·simp[h]
  ·simp only[h,if_false,decide_false,Bool.false_eq_true];exact ih
theorem aFU:∀(l:List (Int×Int)) (k v:Int),nH (vH l) k (iv v)=vH (zU l k v)
 | [],k,v=>rfl
 | (a,b)::l,k,v=>by
  show nH ((a,iv b)::vH l) k _=vH (if a=k then _ else _)
  unfold nH
  by_cases h:a=k
  ·rw[if_pos h,if_pos h];rfl
  ·rw[if_neg h,if_neg h,aFU l k v];rfl
end
section
structure Cn where
 l:List (Int×Int)
 lR:Bool
def rE(nd:Nat)(c:Cn)(dev:Int):Int×Cn:=if c.lR then(6,c) else if ¬(0≤dev∧dev < nd) then(4,c) else if 7≤jH c.l dev then(8,c) else(0,⟨zU c.l dev (IntKind.i64.wrap (jH c.l dev+1)),c.lR⟩)
def uF(nd:Nat)(c:Cn)(dev:Int):Int×Cn:=if c.lR then(6,c) else if ¬(0≤dev∧dev < nd) then(4,c) else if jH c.l dev≤0 then(6,c) else(0,⟨zU c.l dev (IntKind.i64.wrap (jH c.l dev - 1)),c.lR⟩)
def xI(c:Cn):Int×Cn:=if c.lR then(6,c) else(0,⟨c.l,true⟩)
def xJ(c:Cn):Int×Cn:=if c.lR then(0,⟨c.l,false⟩) else(6,c)
def qR(gc gm:Nat)(v:Value)(c:Cn):HP:=HP.many [HP.aE gc 277 [v,.map (some gm),.bool c.lR],HP.map gm (vH c.l)]
section
variable{N:cE}{w0:World}{e:Env}{R:List Piece}{H:List HP}{Q:Exit→Act→World→Prop}{ops:Array Oper}{rest:List Oper}{d:Nat}{ty:TypeId}{pos:String}{aI:Array Edge}
theorem Un{x y:Operand}(i:Nat){r:Nat}{l:List (Int×Int)}{k:Int}(hi:H[i]? =some (HP.map r (vH l)))(kk:XK N w0 (wpList Tryz.prog ops Q rest) ((d,iv (jH l k))::e) R H)(hx:e.ev x=some (.map (some r)):=by rfl)(hy:e.ev y=some (iv k):=by rfl)(hd:d < N.n:=by decide):
  XK N w0 (wpList Tryz.prog ops Q (⟨some d,.lookup 275 x y false,ty,pos,aI,none⟩::rest)) e R H:=by
 refine Yx (kt:=3) (et:=3) (kd:=.i64) (z:=iv 0) (l:=vH l) false (by kernel_rfl) (by kernel_rfl) (by kernel_rfl) hx hy (fun w1 st=>st.map hi) hd ?_;simp only[Bool.false_eq_true,if_false,aGc];exact kk
theorem aGm{x y u:Operand}(i:Nat){r:Nat}{l:List (Int×Int)}{k v:Int}(hi:H[i]? =some (HP.map r (vH l)))(kk:XK N w0 (wpList Tryz.prog ops Q rest) e R (H.set i (HP.map r (vH (zU l k v)))))(hx:e.ev x=some (.map (some r)):=by rfl)(hy:e.ev y=some (iv k):=by rfl)(hu:e.ev u=some (iv v):=by rfl):
  XK N w0 (wpList Tryz.prog ops Q (⟨none,.mapUpdate 275 x y u,ty,pos,aI,none⟩::rest)) e R H:=by
 refine Hl (kt:=3) (et:=3) (kd:=.i64) (l:=vH l) i (by kernel_rfl) (by kernel_rfl) hi hx hy hu ?_;rw[aFU];exact kk
end
theorem aH9(gc n k:Nat)(A:Option Addr)(dev:Int)(w:World)(h0:fK w gc 0 (.slice A n k)):
  Cz 245 #[pt gc,iv dev] w (Rt (.bool (bZ n dev)) w):=by
 refine aO func245 ntmps245 ?_;refine aA ?_;refine bX (t:=7) rfl (fun h=>?_) (fun h=>?_)
 ·refine aA ?_;refine iS (by simp) ?_;unfold bZ
  congr 1
  simp;omega
 ·refine aA ?_;refine iS (by simp) ?_
  have:bZ n dev=false:=decide_eq_false (by omega)
  rw[this]
section
variable(gc gm n k:Nat)(A:Option Addr)(c:Cn)(w:World)(F:Nat→Prop)
theorem aQi(dev:Int)(hp:(qR gc gm (.slice A n k) c).sat F w)(hF:∀b,F b→b < w.heap.size):
  Cz 243 #[pt gc,iv dev] w (Wr (iv (rE n c dev).1) (qR gc gm (.slice A n k) (rE n c dev).2) w F):=by
 refine cS func243 ntmps243 hp hF ?_;obtain⟨l,lR⟩:=c;unfold qR rE;dsimp only;refine aX 0 0 ?_;refine aX 1 1 ?_;cases lR
 ·refine aA ?_;refine aQ (fun w1 t=>aH9 gc n k A dev w1 ((uI (t.aE (i:=1) rfl)).at_ (j:=0) rfl)) ?_
  by_cases hin:0≤dev∧dev < (n:Int)
  ·rw[show bZ n dev=true from decide_eq_true hin,if_neg (by simp),if_neg (by simpa using hin)];refine aA ?_;refine Un 0 rfl ?_;refine eJ ?_;refine aA ?_;refine aG rfl (fun h7=>?_) (fun h7=>?_)
   ·rw[if_pos (by omega)];refine aA ?_;refine aJ 1 1 ?_;refine aJ 0 0 ?_;exact bO 0 hF
   ·rw[if_neg (by omega)];refine aA ?_;refine Un 0 rfl ?_;refine kd (Mp rfl rfl rfl) ?_;refine aGm 0 rfl ?_;dsimp only[List.set];refine aA ?_;refine aJ 1 1 ?_;refine aJ 0 0 ?_;exact bO 0 hF
  ·rw[show bZ n dev=false from decide_eq_false hin,if_neg (by simp),if_pos (by simpa using hin)];refine aA ?_;refine aJ 1 1 ?_;refine aJ 0 0 ?_;exact bO 0 hF
 ·rw[if_pos rfl];refine aA ?_;refine aJ 1 1 ?_;refine aJ 0 0 ?_;exact bO 0 hF
theorem aQg(dev:Int)(hp:(qR gc gm (.slice A n k) c).sat F w)(hF:∀b,F b→b < w.heap.size):
  Cz 264 #[pt gc,iv dev] w (Wr (iv (uF n c dev).1) (qR gc gm (.slice A n k) (uF n c dev).2) w F):=by
 refine cS func264 ntmps264 hp hF ?_;obtain⟨l,lR⟩:=c;unfold qR uF;dsimp only;refine aX 0 0 ?_;refine aX 1 1 ?_;cases lR
 ·refine aA ?_;refine aQ (fun w1 t=>aH9 gc n k A dev w1 ((uI (t.aE (i:=1) rfl)).at_ (j:=0) rfl)) ?_
  by_cases hin:0≤dev∧dev < (n:Int)
  ·rw[show bZ n dev=true from decide_eq_true hin,if_neg (by simp),if_neg (by simpa using hin)];refine aA ?_;refine Un 0 rfl ?_;refine eJ ?_;refine aA ?_;refine aG rfl (fun h7=>?_) (fun h7=>?_)
   ·rw[if_pos (by omega)];refine aA ?_;refine aJ 1 1 ?_;refine aJ 0 0 ?_;exact bO 0 hF
   ·rw[if_neg (by omega)];refine aA ?_;refine Un 0 rfl ?_;refine kd (Mn rfl rfl rfl) ?_;refine aGm 0 rfl ?_;dsimp only[List.set];refine aA ?_;refine aJ 1 1 ?_;refine aJ 0 0 ?_;exact bO 0 hF
  ·rw[show bZ n dev=false from decide_eq_false hin,if_neg (by simp),if_pos (by simpa using hin)];refine aA ?_;refine aJ 1 1 ?_;refine aJ 0 0 ?_;exact bO 0 hF
 ·rw[if_pos rfl];refine aA ?_;refine aJ 1 1 ?_;refine aJ 0 0 ?_;exact bO 0 hF
theorem aQe(hp:(qR gc gm (.slice A n k) c).sat F w)(hF:∀b,F b→b < w.heap.size):
  Cz 272 #[pt gc] w (Wr (iv (xI c).1) (qR gc gm (.slice A n k) (xI c).2) w F):=by
 refine cS func272 ntmps272 hp hF ?_;obtain⟨l,lR⟩:=c;unfold qR xI;dsimp only;refine aX 0 0 ?_;cases lR
 ·refine aA ?_;refine aJ 0 0 ?_;exact bO 0 hF
 ·refine aA ?_;refine aJ 0 0 ?_;exact bO 0 hF
theorem aQf(hp:(qR gc gm (.slice A n k) c).sat F w)(hF:∀b,F b→b < w.heap.size):
  Cz 274 #[pt gc] w (Wr (iv (xJ c).1) (qR gc gm (.slice A n k) (xJ c).2) w F):=by
 refine cS func274 ntmps274 hp hF ?_;obtain⟨l,lR⟩:=c;unfold qR xJ;dsimp only;refine aX 0 0 ?_;cases lR
 ·refine aA ?_;refine aJ 0 0 ?_;exact bO 0 hF
 ·refine aA ?_;refine aJ 0 0 ?_;exact bO 0 hF
end
theorem aQj(gc:Nat)(b:Bool)(w:World)(h2:fK w gc 2 (.bool b)):Cz 239 #[pt gc] w (Rt (.bool b) w):=by
 refine aO func239 ntmps239 ?_;refine aA ?_;exact dF
end
section
theorem aRd{P:Program}{w:World}{t ty e:TypeId}{i:TypeInfo}(ht:P.underlying t=some (.slice e))(hi:P.info? e=some i)(A:Option Addr)(x:Value){m c:Nat}{B:Option Addr}(hx:x=.slice B m c)(hm:0 < m)(hb:m*i.bytes≤140737488355328):
  (Builtin.append_ #[t,t] ty #[.slice A 0 0,x]).run P w=(Builtin.append_ #[t,t] ty #[sn,x]).run P w:=by
 subst hx
 have h0:¬0+m≤0:=by omega
 have hn:Builtin.nextslicecap (0+m) 0=m:=by
  unfold Builtin.nextslicecap;rw[Nat.zero_add];simp;omega
 have hcap:¬(Builtin.nextslicecap (0+m) 0*i.bytes>2 ^ 48):=by
  rw[hn];omega
 have hm0:¬m=0:=by omega
 have mZ:¬(281474976710656 < Builtin.nextslicecap m 0*i.bytes):=by
  rw[←Nat.zero_add m]
  simpa using hcap
 cases A with
 | none=>rfl
 | some a=>simp[Builtin.append_,run_underlying ht,sizeOf,typeInfo,hi,Builtin.lenOf,Builtin.firstCells,h0,hcap,hm0,mZ,loadCells,loadCellsFrom]
section
variable{P:Program}{ops:Array Oper}{Q:Exit→Act→World→Prop}{N:cE}{w0:World}{e e':Env}{R R':List Piece}{H H':List HP}{rest:List Oper}{d:Nat}{ty:TypeId}{pos:String}{aI:Array Edge}
theorem aJz(sz bytes m:Nat){x y:Operand}{t el:TypeId}{c':Nat}{A0 A:Option Addr}{news:List Value}(ht:P.underlying t=some (.slice el))(hT:(P.info? el).map (fun i=>(i.zero.map (fun z=>z.cells.size),i.size,i.bytes))=some (some sz,sz,bytes))(hpos:0 < sz)
  (hx:e.ev x=some (.slice A0 0 0)) (hy:e.ev y=some (.slice A m c')) (hs:∀w,St w0 R H w→∃B,Sl w B sz A m news) (h1:∀u∈news,u.oneCell'=true) (hm:0 < m) (h63:(m:Int)≤9223372036854775807) (hbytes:m*bytes≤140737488355328) (hd:d < N.n)
  (k:∀A' k',XK N w0 (wpList P ops Q rest) ((d,.slice A' m k')::e) R (HP.own el sz (.slice A' m k') m news::H)):
  XK N w0 (wpList P ops Q (⟨some d,.call {callee:=.builtin .append,args:=#[x,y],argTypes:=#[t,t]},ty,pos,aI,none⟩::rest)) e R H:=by
 obtain⟨ti,z,Ph,hz,hsz,hby,hzs⟩:=aC8 hT;refine rT rfl fun a w hr st=>?_;obtain⟨B,qZ⟩:=hs w st;obtain⟨v',w',hrun,h2,h3,h4⟩:=aFo (P:=P) w w.heap.size t ty el ti z sz bytes ht Ph hz hsz hby hzs hpos (sn) 0 [] (World.ownsRow_nil _ _ _ _) B A m c' news qZ h1 (by unfold maxLen;omega) (by simpa using hbytes) (Nat.le_refl _);rw[Nat.zero_add,List.nil_append] at h2;obtain⟨A',k',rfl,_⟩:=aFE h2;rw[←aRd ht Ph A0 (.slice A m c') rfl hm (by rw[hby];exact hbytes)] at hrun
 have hb:Below w.heap.size w w':=⟨h3.os,h3.tape,h3.output,h3.size,fun b hb=>h3.block b hb (fun he=>by cases he)⟩
 refine⟨_,w',by simp only[execOp,resolve,invoke,builtin,hr.ev hx,hr.ev hy,List.map_toArray,List.map_cons,List.map_nil,Sem.run_bind,Sem.run_pure,Result.andThen_ok,hrun],k A' k' _ _ (hr.put hd _) (st.new hb ⟨fun g hg=>?_,?_⟩)⟩
 ·have:=h2.lt _ hg
  exact this
 ·exact⟨h2.1,h2.2.imp id fun⟨g,cap,cur,e1,_,e3⟩=>⟨g,cap,cur,e1,Nat.zero_le _,e3⟩⟩
end
section
variable{N:cE}{w0:World}{e:Env}{R:List Piece}{H:List HP}{d:Nat}{ty:TypeId}{pos:String}{aI:Array Edge}
theorem aP1{x lo hi mx:Operand}{t el:TypeId}{A:Option Addr}{n c l h m sz:Nat}{kl kh km:IntKind}[hT:kS t el sz](hx:e.ev x=some (.slice A n c))(hl:e.ev lo=some (.int kl (l:Int)))(hh:e.ev hi=some (.int kh (h:Int)))(hm:e.ev mx=some (.int km (m:Int)))(h1:l≤h)(h2:h≤m)(h3:m≤c):
  bQ Tryz.prog N w0 e R H ⟨some d,.slice t x (some lo) (some hi) (some mx),ty,pos,aI,none⟩ (.slice (if m=l then A else A.map (·.add (l*sz))) (h - l) (m - l)):=gP fun a w hr=>by
 obtain⟨i0,nJ,hz⟩:=Option.map_eq_some_iff.1 hT.s;simp[execOp,hr.ev hx,hr.ev hl,hr.ev hh,hr.ev hm,Instr.sliceAt,Instr.slice,Instr.sliceBounds,run_sliceBound,run_underlying hT.h,sizeOf,typeInfo,nJ,hz,h1,h2,h3]
theorem aHu{x lo:Operand}{t el:TypeId}{A:Option Addr}{n c l sz:Nat}{kl:IntKind}[hT:kS t el sz](hx:e.ev x=some (.slice A n c))(hl:e.ev lo=some (.int kl (l:Int)))(h1:l≤n):
  bQ Tryz.prog N w0 e R H ⟨some d,.slice t x (some lo) none none,ty,pos,aI,none⟩ (.slice (if c=l then A else A.map (·.add (l*sz))) (n - l) (c - l)):=gP fun a w hr=>by
 obtain⟨i0,nJ,hz⟩:=Option.map_eq_some_iff.1 hT.s;simp[execOp,hr.ev hx,hr.ev hl,Instr.sliceAt,Instr.slice,Instr.sliceBounds,run_sliceBound,run_underlying hT.h,sizeOf,typeInfo,nJ,hz,h1]
theorem aRG{K:Act→World→Prop}(i:Nat){n sz:Nat}{t:TypeId}{v:Value}{xs:List Value}(hi:H[i]? =some (HP.own t sz v n xs))(hn:0 < n)(h:∀g c,v=.slice (some ⟨g,0,none⟩) n c→n≤c→XK N w0 K e R H):XK N w0 K e R H:=fun a w hr st=>by
 obtain⟨_,h2⟩:=st.own hi;rcases h2 with⟨_,h3⟩ | ⟨g',cap,cur,hv,_,_,h3,_⟩
 ·omega
 ·exact h g' cap hv h3 a w hr st
theorem aRM{K:Act→World→Prop}(j i:Nat){p:Prop}{ps:List HP}(hj:H[j]? =some (HP.many ps))(hi:ps[i]? =some (Nk p))(h:p→XK N w0 K e R H):XK N w0 K e R H:=fun a w hr st=>by
 obtain⟨F,hF⟩:=(st.take hj hi).sat (i:=0) rfl;exact h hF a w hr st
end
def wL(g n:Nat)(vs:List Value)(ws:List (Option jA)):List HP:=HP.aE g 311 vs::Nk (vs.length=n)::(List.range n).map fun i=>QH (vs.getD i undef) (ws[i]?).join
theorem aJN{g n i:Nat}{vs:List Value}{ws:List (Option jA)}(hi:i < n):(wL g n vs ws)[i+2]? =some (QH (vs.getD i undef) (ws[i]?).join):=by
 unfold wL;rw[List.getElem?_cons_succ,List.getElem?_cons_succ,List.getElem?_map,List.getElem?_range hi];rfl
theorem aJO{g n i:Nat}{vs:List Value}{ws:List (Option jA)}{v:Value}{q:Option jA}(hi:i < n)(hv:vs.length=n)(hw:ws.length=n):
  (((((wL g n vs ws).set 0 bU).set (i+2) bU).set (i+2) (QH v q)).set 0 (HP.aE g 311 (vs.set i v)))=wL g n (vs.set i v) (ws.set i q):=by
 refine List.ext_getElem? fun k=>?_
 match k with
 | 0=>rfl
 | 1=>
  show some (Nk (vs.length=n))=some (Nk ((vs.set i v).length=n))
  rw[List.length_set]
 | k + 2 =>
  unfold wL;simp only[List.set_cons_zero,List.set_cons_succ,List.getElem?_cons_succ,List.set_set,List.getElem?_map];rw[List.getElem?_set]
  by_cases h:i=k
  ·subst h;rw[if_pos rfl,if_pos (by simpa using hi),List.getElem?_range hi];simp only[Option.map_some];rw[List.getD_eq_getElem?_getD,List.getElem?_set_self (by omega),List.getElem?_set_self (by omega)];rfl
  ·rw[if_neg h,List.getElem?_map];cases hr:(List.range n)[k]? with
   | none=>rfl
   | some j=>
    obtain⟨_,rfl⟩:=List.getElem?_eq_some_iff.1 hr;simp only[List.getElem_range,Option.map_some];rw[List.getD_eq_getElem?_getD,List.getD_eq_getElem?_getD,List.getElem?_set_ne h,List.getElem?_set_ne h]
section
variable{N:cE}{w0:World}{e:Env}{R:List Piece}{H:List HP}{K:Act→World→Prop}{L:BL}{ms:List Int}{ws:List (Option jA)}{aZ:Int}
def Xj(L:BL)(ms:List Int)(aZ:Int):List Value:=[.slice (some ⟨L.gr,0,none⟩) ms.length ms.length,.slice (some ⟨L.gw,0,none⟩) ms.length ms.length,iv aZ]
def aEO(L:BL)(ms:List Int)(ws:List (Option jA))(vs:List Value)(i:Nat):HP:=HP.many (((wL L.gw ms.length vs ws).set 0 bU).set (i+2) bU)
theorem aIq(j i:Nat)(hj:H[j]? =some (xV L ms ws aZ))(hi:i < ms.length)(h:∀vs:List Value,vs.length=ms.length→
      XK N w0 K e R (QH (vs.getD i undef) (ws[i]?).join::HP.aE L.gw 311 vs::aEO L ms ws vs i::HP.aE L.b 269 (Xj L ms aZ)::H.set j (HP.many [bU,HP.aE L.gr 3 (aN ms),bU]))):XK N w0 K e R H:=by
  have hlt:=(List.getElem?_eq_some_iff.1 hj).1
  refine qJ j 0 hj rfl ?_;refine qJ (j+1) 2 (by rw[List.getElem?_cons_succ,List.getElem?_set_self hlt]) rfl ?_;refine aBf 0 rfl fun vs=>?_;refine aRM 0 1 rfl rfl fun hv=>?_;refine qJ 0 0 rfl rfl ?_;refine qJ 1 (i+2) rfl (p:=QH (vs.getD i undef) (ws[i]?).join) ?_ ?_
  · show((wL L.gw ms.length vs ws).set 0 bU)[i+2]? =_
    rw[List.getElem?_set_ne (by omega),aJN hi]
  · have h:=h vs hv
    simp only[List.set_cons_succ,List.set_cons_zero,List.set_set];exact h
theorem aIy(j i:Nat){vs:List Value}{v:Value}{q:Option jA}(hj:H[j]? =some (HP.many [bU,HP.aE L.gr 3 (aN ms),bU]))(hi:i < ms.length)(hv:vs.length=ms.length)(hw:ws.length=ms.length)
  (h:XK N w0 K e R (H.set j (xV L ms (ws.set i q) aZ))):XK N w0 K e R (QH v q::HP.aE L.gw 311 (vs.set i v)::aEO L ms ws vs i::HP.aE L.b 269 (Xj L ms aZ)::H):=by
 have hlt:=(List.getElem?_eq_some_iff.1 hj).1
 have hlen:(wL L.gw ms.length vs ws).length=ms.length+2:=by simp[wL]
 refine qL 1 (i+2) rfl ?_ ?_
 ·rw[List.getElem?_set_self (by simp[hlen];omega)]
 dsimp only[List.set];refine qL 0 0 rfl ?_ ?_
 ·rw[List.set_set,List.getElem?_set_ne (by omega),List.getElem?_set_self (by simp[hlen])]
 rw[aJO hi hv hw];dsimp only[List.set];refine uK 0 (f:=fun vs:List Value=>HP.many (wL L.gw ms.length vs (ws.set i q))) (vs.set i v) rfl ?_;dsimp only[List.set];refine qL (j+1) 2 (by rw[List.getElem?_cons_succ];exact hj) rfl ?_;dsimp only[List.set];refine qL j 0 (by rw[List.getElem?_set_self hlt]) rfl ?_;rw[List.set_set];exact h
end
theorem aQM(L:BL)(ms:List Int)(ws:List (Option jA))(aZ:Int)(i:Nat)(hi:i < ms.length)(hw:ws.length=ms.length)(t:jA)(ht:(ws[i]?).join=some t)(w:World)(F:Nat→Prop)(hp:(xV L ms ws aZ).sat F w)(hF:∀b,F b→b < w.heap.size):
  Cz 190 #[.pointer (some ⟨L.b,0,none⟩),iv (i:Int)] w (Wr (.tuple #[.agg #[iv t.id,.bool t.wr,iv t.cF,.int .u32 t.val],.bool true]) (xV L ms (ws.set i none) aZ) w F):=by
 have hin:bZ ms.length (i:Int)=true:=decide_eq_true (by omega)
 refine cS func190 ntmps190 hp hF ?_;generalize cO:(⟨w,fun b=>b < w.heap.size∧¬F b⟩:Piece)=R0;refine aA ?_;refine bY fun g1=>?_;refine aA ?_;refine aQ (fun w1 st=>aAR L ms ws aZ i w1 (st.aHM 1 rfl)) ?_;rw[hin];refine aIq 1 i rfl hi fun vs hv=>?_;rw[ht];dsimp only[List.set];refine aRG 0 rfl (by decide) fun g c hg hc=>?_
 have Us:vs[i]? =some (.slice (some ⟨g,0,none⟩) 1 c):=by
  obtain⟨v,h1⟩:=get_some (l:=vs) (i:=i) (by omega);rw[List.getD_eq_getElem?_getD,h1] at hg;rw[h1];exact congrArg some hg
 rw[hg];refine aA ?_;refine kd (dat i i) ?_;refine aA ?_;refine kd (bH rfl (Rd.aE 1 rfl Us)) ?_;refine aA ?_;refine kd (dat i i) ?_;refine aA ?_;refine kd (bH rfl (Rd.aE 1 rfl Us)) ?_;refine aA ?_;refine iZ [1,2,3,7,9,10,11] ?_;refine bJ 0 ?_;refine aK 1 ?_;refine aK 2 ?_;refine aK 3 ?_;refine bJ 4 ?_;refine bJ 5 ?_;refine bJ 6 ?_;refine aK 7 ?_;refine bJ 8 ?_;refine aK 9 ?_;refine aK 10 ?_ (hi:=rfl) (cK:=aP1 (l:=1) (h:=1) (m:=1) rfl rfl rfl rfl (by omega) (by omega) hc);refine aK 11 ?_ (hi:=rfl) (cK:=dat i i);refine aL 12 ?_;refine eO rfl rfl ?_ (hs:=eK.mk 1 rfl cN.h rfl (by omega));dsimp only[List.set];refine cG ?_;refine dX ?_;refine aA ?_;refine kd (dat 0 0) ?_;refine kd (jN rfl (aM.of fun j v hv=>by rw[Nat.zero_add];exact Rd.own 0 rfl hv)) ?_;refine lP 4 rfl ?_;dsimp only[List.set];refine aA ?_;refine oJ (q:=QH (.slice (some ⟨g,0,none⟩) 0 0) none) 0 rfl (fun _ _ _=>⟨_,rfl⟩) ?_;refine aIy 1 i rfl hi hv hw ?_;dsimp only[List.set];subst cO;exact yX (vs:=[iv t.id,.bool t.wr,iv t.cF,.int .u32 t.val]) rfl (by kernel_rfl) rfl rfl (aM.whole 0 rfl) rfl fun w1 st=>⟨rfl,st.turns hF (by simp) (i:=1) rfl⟩
end
end Go.Proofs.YtkgekojkboingaaGreatDoor
