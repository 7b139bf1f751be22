/- package regs: Clear, Save, Restore, Read, Write. -/
import Derived.Test.YtkgekojkboingaaGreatDoorWorldRepliesK3
namespace Go.Proofs.YtkgekojkboingaaGreatDoor
set_option linter.all false
set_option maxHeartbeats 4000000
set_option maxRecDepth 20000
open Go.RowKit Go.Proofs.Tryz
section
theorem aO3(w:World)(q:Piece):(⟨w,fun _=>False⟩:Piece).Le q:=fun _ h=>h.elim
theorem aPS(i:Nat)(r:Rg)(w:World):
  Cz 198 #[iv (i:Int),.agg r.cells.toArray] w (Rt (.int .u32 r.reset) w):=by
 refine aN func198 ntmps198 ?_;refine aA ?_;refine bN fun g1=>?_;dsimp only[Value.cells,Rg.cells];refine aA ?_;exact dI
theorem Yx(L:FL)(d:cH)(x:dS)(hrl:d.aR.length≤100)(hok:xT d x)(w:World)(F:Nat→Prop)(hp:(gR L d x).sat F w)(hF:∀b,F b→b < w.heap.size):
  Cz 160 #[.pointer (some ⟨L.f,0,none⟩)] w (Wr (.tuple #[]) (gR L d (Dt d x)) w F):=by
 refine cS func160 ntmps160 hp hF ?_;refine aA ?_
 refine bU 0 (gR L d ⟨d.aR.map (·.reset),x.saved,x.kept⟩) (fun w1 G t hG wV hle=>by
  have:=aEY L d x hrl 198 (by kernel_rfl) [] ⟨w1,fun _=>False⟩ (d.aR.map (·.reset)) (by simp) hok.now (fun i r v hr hv now w2 F2 _ _ _=>by
   rw[List.getElem?_map,hr] at hv;cases hv
   exact aPS i r w2) w1 G hG wV (aO3 _ _)
  exact this) ?_
 refine Xc 0 rfl ?_;dsimp only[List.set,Ip];refine aA ?_;refine Xf (x:=Dt d x) 0 rfl ?_;exact fC 0 hF
theorem aKO(L:FL)(d:cH)(x:dS)(g1 i:Nat)(r:Rg)(v:Int)(hr:d.aR[i]? =some r)(hv:x.saved[i]? =some v)(w:World)(hR:Bz w L d x)(h1:fS w g1 0 (.pointer (some ⟨L.f,0,none⟩))):
  Cz 215 #[iv (i:Int),.agg r.cells.toArray,pt g1] w (Rt (.int .u32 (Yv x.kept r v)) w):=by
 have hlt:=(List.getElem?_eq_some_iff.1 hr).1
 have k3:=hR.r0.at_ (j:=3) rfl
 have k2:=hR.r0.at_ (j:=2) rfl
 have kv:=hR.saved.at_ (aBu hv)
 rw[Nat.zero_add] at kv;obtain⟨rs,kp⟩:=r;cases hk:x.kept
 ·rw[hk] at k3;refine aN func215 ntmps215 ?_;refine aA ?_;refine bN fun g2=>?_;dsimp only[Value.cells,Rg.cells];refine aA ?_;exact dI
 ·rw[hk] at k3;cases kp
  ·refine aN func215 ntmps215 ?_;refine aA ?_;refine bN fun g2=>?_;dsimp only[Value.cells,Rg.cells];refine aA ?_;exact dI
  ·refine aN func215 ntmps215 ?_;refine aA ?_;refine bN fun g2=>?_;dsimp only[Value.cells,Rg.cells];refine aB ?_;exact dI
theorem aKT(L:FL)(d:cH)(x:dS)(hrl:d.aR.length≤100)(hok:xT d x)(w:World)(F:Nat→Prop)(hp:(gR L d x).sat F w)(hF:∀b,F b→b < w.heap.size):
  Cz 196 #[.pointer (some ⟨L.f,0,none⟩)] w (Wr (.tuple #[]) (gR L d (Hi d x)) w F):=by
 have lJ:=hok.saved
 refine cS func196 ntmps196 hp hF ?_;refine aA ?_;refine bN fun g1=>?_;refine aA ?_;refine kA (vf:=[]) (vc:=[pt g1]) rfl rfl (by decide) ?_;refine dF [⟨w,fun b=>b < w.heap.size∧¬F b⟩] [0] [1] (by simp) rfl (by decide) (by decide) fun q hq hLe _=>?_;obtain⟨F1,s1,z1⟩:=hq 0 _ (by simp) rfl
 refine bU 0 (gR L d (Hi d x)) (fun w1 G t hG wV hle=>by
  have:=aEY L d x hrl 215 (by kernel_rfl) [pt g1] q (Hi d x).now (by simp[Hi];omega) hok.now (fun i r v hr hv now w2 F2 a1 a2 a3=>by
   have hlt:=(List.getElem?_eq_some_iff.1 hr).1
   obtain⟨u,hu⟩:=get_some (l:=x.saved) (i:=i) (by omega)
   have he:v=Yv x.kept r u:=by
    rw[Hi,List.getElem?_zipWith,hr,hu] at hv;cases hv;rfl
   subst he;obtain⟨b1,b2⟩:=a3 g1 (z1 _ s1.1)
   exact aKO L d ⟨now,x.saved,x.kept⟩ g1 i r u hr hu w2 (Xs a1 a2) ⟨b1,(World.cell?_of_block (w:=q.w) b2).trans (by rw[s1.2.cell];rfl)⟩) w1 G hG wV (hle q (by simp))
  exact this) ?_
 refine aA ?_;exact fC 0 hF
theorem aKc(p:Piece)(L:FL)(d:cH)(x:dS)(g1 i:Nat)(r:Rg)(v u:Int)(hr:d.aR[i]? =some r)(hv:x.now[i]? =some v)(hu:x.saved[i]? =some u)(uC:x.saved.length=d.aR.length)
  (h1:p.Z g1∧p.w.cell? ⟨g1,0,none⟩=some (.pointer (some ⟨L.f,0,none⟩))) (w:World) (F:Nat→Prop) (hp:(gR L d x).sat F w) (hF:∀b,F b→b < w.heap.size) (Fj:p.Le ⟨w,fun b=>b < w.heap.size∧¬F b⟩):
  Cz 214 #[iv (i:Int),.agg r.cells.toArray,pt g1] w (Wr (.tuple #[]) (gR L d ⟨x.now,x.saved.set i (Kh r (v,u)),x.kept⟩) w F):=by
 have hlt:=(List.getElem?_eq_some_iff.1 hr).1
 obtain⟨c1,e1⟩:=Fj g1 h1.1
 have k1:w.cell? ⟨g1,0,none⟩=some (.pointer (some ⟨L.f,0,none⟩)):=(World.cell?_of_block (w:=p.w) e1).trans h1.2
 obtain⟨rs,kp⟩:=r;cases kp
 ·have hsame:x.saved.set i (Kh ⟨rs,false⟩ (v,u))=x.saved:=aE7 hu
  rw[hsame];refine cS func214 ntmps214 hp hF ?_;refine aA ?_;refine bN fun g2=>?_;dsimp only[Value.cells,Rg.cells];refine aA ?_;exact fC 1 hF
 ·refine cS func214 ntmps214 hp hF ?_;refine aA ?_;refine bN fun g2=>?_;dsimp only[Value.cells,Rg.cells];refine aA ?_;refine Xc 1 rfl ?_;dsimp only[List.set,Ip]
  have Ow:=Yk x.now
  have lJ:=Yk x.saved
  have r1:Rd w [⟨w,fun b=>b < w.heap.size∧¬F b⟩] [HP.aE L.gs 37 (mK x.saved),HP.aE L.gn 37 (mK x.now),HP.aE L.f 264 [.slice L.A d.aR.length L.c,.slice (some ⟨L.gn,0,none⟩) d.aR.length d.aR.length,.slice (some ⟨L.gs,0,none⟩) d.aR.length d.aR.length,.bool x.kept],HP.aE g2 95 [.int .u32 rs,.bool true],HP.many [cG,cG,cG,HP.bR (rO d L.A) (rO.le (d:=d) (A:=L.A))]] g1 0 (.pointer (some ⟨L.f,0,none⟩)):=Rd.ro (List.mem_singleton.2 rfl) c1 k1
  have r2:Rd w [⟨w,fun b=>b < w.heap.size∧¬F b⟩] [HP.aE L.gs 37 (mK x.saved),HP.aE L.gn 37 (mK x.now),HP.aE L.f 264 [.slice L.A d.aR.length L.c,.slice (some ⟨L.gn,0,none⟩) d.aR.length d.aR.length,.slice (some ⟨L.gs,0,none⟩) d.aR.length d.aR.length,.bool x.kept],HP.aE g2 95 [.int .u32 rs,.bool true],HP.many [cG,cG,cG,HP.bR (rO d L.A) (rO.le (d:=d) (A:=L.A))]] L.gn i (.int .u32 v):=Rd.aE 1 rfl (aBu hv)
  refine qP 12 (by kernel_rfl) (by kernel_rfl) ?_;refine bP 0 ?_;refine bP 1 ?_;refine bP 2 ?_;refine bP 3 ?_;refine bP 4 ?_;refine bP 5 ?_;refine bP 6 ?_;refine bP 7 ?_;refine bP 8 ?_;refine bP 9 ?_;refine bP 10 ?_ (cM:=dat (sz:=1) i i);refine bP 11 ?_;refine cJ 12 ?_;refine kd (dat i i) ?_;refine eR ?_;refine cJ 13 ?_;refine eN rfl rfl ?_;dsimp only[List.set];rw[aBt];refine eR ?_;refine kJ ?_;refine aA ?_;refine aT [0,1,2,4] rfl (by decide) (fun _ h=>h) ?_;refine Xf (x:=⟨x.now,x.saved.set i v,x.kept⟩) 0 rfl ?_;exact fC 0 hF
theorem aKS(L:FL)(d:cH)(x:dS)(hrl:d.aR.length≤100)(hok:xT d x)(w:World)(F:Nat→Prop)(hp:(gR L d x).sat F w)(hF:∀b,F b→b < w.heap.size):
  Cz 195 #[.pointer (some ⟨L.f,0,none⟩)] w (Wr (.tuple #[]) (gR L d (uV d x)) w F):=by
 have lJ:=hok.saved
 have fL:=hok.now
 have hvl:(uV d x).saved.length=d.aR.length:=by simp[uV];omega
 refine cS func195 ntmps195 hp hF ?_;refine aA ?_;refine bN fun g1=>?_;refine aA ?_;refine kA (vf:=[]) (vc:=[pt g1]) rfl rfl (by decide) ?_;refine dF [⟨w,fun b=>b < w.heap.size∧¬F b⟩] [0] [1] (by simp) rfl (by decide) (by decide) fun q hq hLe _=>?_;obtain⟨F1,s1,z1⟩:=hq 0 _ (by simp) rfl
 refine bU 0 (gR L d ⟨x.now,(uV d x).saved,x.kept⟩) (fun w1 G t hG wV hle=>by
  have key:=aEX q (fun i=>gR L d ⟨x.now,kF (uV d x).saved x.saved i,x.kept⟩) L d hrl 214 (by kernel_rfl) [pt g1]
   (fun i _ w F h1 h2=>⟨_,Xs h1 h2⟩) (fun i r hr w2 F2' h1 h2 h3=>by
    have hlt:=(List.getElem?_eq_some_iff.1 hr).1
    obtain⟨v,hv⟩:=get_some (l:=x.now) (i:=i) (by omega);obtain⟨u,hu⟩:=get_some (l:=x.saved) (i:=i) (by omega)
    have hs:(uV d x).saved[i]? =some (Kh r (v,u)):=by
     rw[uV,List.getElem?_zipWith,hr,(List.getElem?_zip_eq_some (z:=(v,u))).2 ⟨hv,hu⟩]
    have:=aKc q L d ⟨x.now,kF (uV d x).saved x.saved i,x.kept⟩ g1 i r v u hr hv (aMj (by omega) (by omega) hu) (Tu hvl lJ (by omega))
     ⟨z1 _ s1.1,by rw[s1.2.cell];rfl⟩ w2 F2' h1 h2 h3
    try dsimp only at this
    rw[Tt (by omega) hs] at this
    exact this) w1 G (by show(gR L d ⟨x.now,kF (uV d x).saved x.saved 0,x.kept⟩).sat G w1;rw[Ts];exact hG) wV (hle q (by simp))
  try dsimp only at key
  rw[Tv hvl lJ] at key
  exact key) ?_
 refine Xc 0 rfl ?_;dsimp only[List.set,Ip]
 have r1:∀H,Rd w [q,⟨w,fun b=>b < w.heap.size∧¬F b⟩] H g1 0 (.pointer (some ⟨L.f,0,none⟩)):=fun H=>Rd.ro (by simp:q∈_) (z1 _ s1.1) (by rw[s1.2.cell];rfl)
 have r1:=r1 [HP.aE L.gs 37 (mK (uV d x).saved),HP.aE L.gn 37 (mK x.now),HP.aE L.f 264 [.slice L.A d.aR.length L.c,.slice (some ⟨L.gn,0,none⟩) d.aR.length d.aR.length,.slice (some ⟨L.gs,0,none⟩) d.aR.length d.aR.length,.bool x.kept],HP.many [cG,cG,cG,HP.bR (rO d L.A) (rO.le (d:=d) (A:=L.A))]]
 refine aA ?_;refine Xf (x:=uV d x) 0 rfl ?_;exact fC 0 hF
theorem aKU(L:FL)(d:cH)(x:dS)(i:Nat)(v:Int)(uC:x.now.length=d.aR.length)(hv:x.now[i]? =some v)(w:World)(hR:Bz w L d x):
  Cz 191 #[.pointer (some ⟨L.f,0,none⟩),iv (i:Int)] w (Rt (.tuple #[.int .u32 v,iv 0]) w):=by
 have hlt:i < d.aR.length:=by have:=(List.getElem?_eq_some_iff.1 hv).1;omega
 have k1:=hR.r0.at_ (j:=1) rfl
 have kv:=hR.now.at_ (aBu hv)
 rw[Nat.zero_add] at kv;refine aN func191 ntmps191 ?_;refine aA ?_;refine bT (t:=8) rfl (fun h=>absurd h (by omega)) (fun _=>?_);refine aA ?_;refine aU (fun w1 t=>Tf L d x w1 (hR.below (t.below (by simp)))) ?_;refine aA ?_;refine aG rfl (fun h=>absurd h (by omega)) (fun _=>?_);refine aB ?_;exact fQ rfl rfl rfl fun w1 t=>⟨rfl,t.below (by simp)⟩
theorem aKR(L:FL)(d:cH)(x:dS)(i:Nat)(v:Int)(uC:x.now.length=d.aR.length)(hlt:i < d.aR.length)(w:World)(F:Nat→Prop)(hp:(gR L d x).sat F w)(hF:∀b,F b→b < w.heap.size):
  Cz 192 #[.pointer (some ⟨L.f,0,none⟩),iv (i:Int),.int .u32 v] w (Wr (iv 0) (gR L d ⟨x.now.set i v,x.saved,x.kept⟩) w F):=by
 refine cS func192 ntmps192 hp hF ?_;refine aA ?_;refine bT (t:=9) rfl (fun h=>absurd h (by omega)) (fun _=>?_);refine aA ?_;refine aU (fun w1 t=>Tf L d x w1 (t.aCR 0 rfl)) ?_;refine aA ?_;refine aG rfl (fun h=>absurd h (by omega)) (fun _=>?_);refine Xc 0 rfl ?_;dsimp only[List.set,Ip]
 have Ow:=Yk x.now
 refine aB ?_;rw[aBt];refine aA ?_;refine Xf (x:=⟨x.now.set i v,x.saved,x.kept⟩) 0 rfl ?_;exact bO 0 hF
end
section
def aIp(n:Nat)(xs:List Value)(v:Value)(hs:List HP)(_:Piece):Prop:=∃A c,v=.slice A n c∧hs=[HP.own 86 6 (.slice A n c) n xs]
theorem aL7(A:Option Addr)(n c:Nat)(xs:List Value)(w:World)(hs:aI (all w) 6 A n xs)(h1:∀u∈xs,u.oneCell'=true)(hn:n≤1000000):
  Cz 161 #[.slice A n c] w (fun y w'=>(∃v hs q,y=.returned v∧q.w=w'∧aIp n xs v hs q∧gI w hs q)∧Below w.heap.size w w'):=by
 refine aN func161 ntmps161 ?_;refine aA ?_;refine lU 86 6 ?_;refine iF 0 6 64 n (n':=n) (v:=sn) (el:=86) (by kernel_rfl) (by kernel_rfl) (by decide) rfl rfl rfl (sA (by simp) hs) h1 (by omega) (by omega) (by omega) (by decide) fun A' k'=>?_;dsimp only[List.set,List.nil_append];refine aA ?_;refine dF [] [] [0] (by simp) rfl (by decide) (by decide) fun q _ _ hfr=>?_;exact aP (h:=fun w1 st=>⟨_,_,⟨w1,q.Z⟩,rfl,rfl,⟨_,_,rfl,rfl⟩,st.newR (by simp) (by simp) (hfr (by simp) (by simp))⟩)
def aIn(n:Nat)(xs:List Value)(v:Value)(hs:List HP)(_:Piece):Prop:=∃A c,v=.slice A n c∧hs=[HP.own 88 3 (.slice A n c) n xs]
theorem aL5(A:Option Addr)(n c:Nat)(xs:List Value)(w:World)(hs:aI (all w) 3 A n xs)(h1:∀u∈xs,u.oneCell'=true)(hn:n≤1000000):
  Cz 162 #[.slice A n c] w (fun y w'=>(∃v hs q,y=.returned v∧q.w=w'∧aIn n xs v hs q∧gI w hs q)∧Below w.heap.size w w'):=by
 refine aN func162 ntmps162 ?_;refine aA ?_;refine lU 88 3 ?_;refine iF 0 3 24 n (n':=n) (v:=sn) (el:=88) (by kernel_rfl) (by kernel_rfl) (by decide) rfl rfl rfl (sA (by simp) hs) h1 (by omega) (by omega) (by omega) (by decide) fun A' k'=>?_;dsimp only[List.set,List.nil_append];refine aA ?_;refine dF [] [] [0] (by simp) rfl (by decide) (by decide) fun q _ _ hfr=>?_;exact aP (h:=fun w1 st=>⟨_,_,⟨w1,q.Z⟩,rfl,rfl,⟨_,_,rfl,rfl⟩,st.newR (by simp) (by simp) (hfr (by simp) (by simp))⟩)
def aIl(n:Nat)(xs:List Value)(v:Value)(hs:List HP)(_:Piece):Prop:=∃A c,v=.slice A n c∧hs=[HP.own 90 1 (.slice A n c) n xs]
theorem aL3(A:Option Addr)(n c:Nat)(xs:List Value)(w:World)(hs:aI (all w) 1 A n xs)(h1:∀u∈xs,u.oneCell'=true)(hn:n≤1000000):
  Cz 163 #[.slice A n c] w (fun y w'=>(∃v hs q,y=.returned v∧q.w=w'∧aIl n xs v hs q∧gI w hs q)∧Below w.heap.size w w'):=by
 refine aN func163 ntmps163 ?_;refine aA ?_;refine lU 90 1 ?_;refine iF 0 1 8 n (n':=n) (v:=sn) (el:=90) (by kernel_rfl) (by kernel_rfl) (by decide) rfl rfl rfl (sA (by simp) hs) h1 (by omega) (by omega) (by omega) (by decide) fun A' k'=>?_;dsimp only[List.set,List.nil_append];refine aA ?_;refine dF [] [] [0] (by simp) rfl (by decide) (by decide) fun q _ _ hfr=>?_;exact aP (h:=fun w1 st=>⟨_,_,⟨w1,q.Z⟩,rfl,rfl,⟨_,_,rfl,rfl⟩,st.newR (by simp) (by simp) (hfr (by simp) (by simp))⟩)
def aIo(n:Nat)(xs:List Value)(v:Value)(hs:List HP)(_:Piece):Prop:=∃A c,v=.slice A n c∧hs=[HP.own 93 6 (.slice A n c) n xs]
theorem aL6(A:Option Addr)(n c:Nat)(xs:List Value)(w:World)(hs:aI (all w) 6 A n xs)(h1:∀u∈xs,u.oneCell'=true)(hn:n≤1000000):
  Cz 164 #[.slice A n c] w (fun y w'=>(∃v hs q,y=.returned v∧q.w=w'∧aIo n xs v hs q∧gI w hs q)∧Below w.heap.size w w'):=by
 refine aN func164 ntmps164 ?_;refine aA ?_;refine lU 93 6 ?_;refine iF 0 6 80 n (n':=n) (v:=sn) (el:=93) (by kernel_rfl) (by kernel_rfl) (by decide) rfl rfl rfl (sA (by simp) hs) h1 (by omega) (by omega) (by omega) (by decide) fun A' k'=>?_;dsimp only[List.set,List.nil_append];refine aA ?_;refine dF [] [] [0] (by simp) rfl (by decide) (by decide) fun q _ _ hfr=>?_;exact aP (h:=fun w1 st=>⟨_,_,⟨w1,q.Z⟩,rfl,rfl,⟨_,_,rfl,rfl⟩,st.newR (by simp) (by simp) (hfr (by simp) (by simp))⟩)
def aDI(n:Nat)(xs:List Value)(v:Value)(hs:List HP)(_:Piece):Prop:=∃A c,v=.slice A n c∧hs=[HP.own 3 1 (.slice A n c) n xs]
theorem aFn(A:Option Addr)(n c:Nat)(xs:List Value)(w:World)(hs:aI (all w) 1 A n xs)(h1:∀u∈xs,u.oneCell'=true)(hn:n≤1000000):
  Cz 121 #[.slice A n c] w (fun y w'=>(∃v hs q,y=.returned v∧q.w=w'∧aDI n xs v hs q∧gI w hs q)∧Below w.heap.size w w'):=by
 refine aN func121 ntmps121 ?_;refine aA ?_;refine lU 3 1 ?_;refine iF 0 1 8 n (n':=n) (v:=sn) (el:=3) (by kernel_rfl) (by kernel_rfl) (by decide) rfl rfl rfl (sA (by simp) hs) h1 (by omega) (by omega) (by omega) (by decide) fun A' k'=>?_;dsimp only[List.set,List.nil_append];refine aA ?_;refine dF [] [] [0] (by simp) rfl (by decide) (by decide) fun q _ _ hfr=>?_;exact aP (h:=fun w1 st=>⟨_,_,⟨w1,q.Z⟩,rfl,rfl,⟨_,_,rfl,rfl⟩,st.newR (by simp) (by simp) (hfr (by simp) (by simp))⟩)
def aIm(n:Nat)(xs:List Value)(v:Value)(hs:List HP)(_:Piece):Prop:=∃A c,v=.slice A n c∧hs=[HP.own 95 2 (.slice A n c) n xs]
theorem aL4(A:Option Addr)(n c:Nat)(xs:List Value)(w:World)(hs:aI (all w) 2 A n xs)(h1:∀u∈xs,u.oneCell'=true)(hn:n≤1000000):
  Cz 165 #[.slice A n c] w (fun y w'=>(∃v hs q,y=.returned v∧q.w=w'∧aIm n xs v hs q∧gI w hs q)∧Below w.heap.size w w'):=by
 refine aN func165 ntmps165 ?_;refine aA ?_;refine lU 95 2 ?_;refine iF 0 2 8 n (n':=n) (v:=sn) (el:=95) (by kernel_rfl) (by kernel_rfl) (by decide) rfl rfl rfl (sA (by simp) hs) h1 (by omega) (by omega) (by omega) (by decide) fun A' k'=>?_;dsimp only[List.set,List.nil_append];refine aA ?_;refine dF [] [] [0] (by simp) rfl (by decide) (by decide) fun q _ _ hfr=>?_;exact aP (h:=fun w1 st=>⟨_,_,⟨w1,q.Z⟩,rfl,rfl,⟨_,_,rfl,rfl⟩,st.newR (by simp) (by simp) (hfr (by simp) (by simp))⟩)
end
section
structure Jj(p:Piece)(s:aC)(A1:Option Addr)(n1:Nat)(A2:Option Addr)(n2:Nat)(A3:Option Addr)(n3:Nat)(A4:Option Addr)(n4:Nat):Prop where
 sU:jX (fJ p) (qU (fJ p)) 86 6 A1 n1 s.aF
 dom:jX (fJ p) tI 88 3 A2 n2 s.domains
 yI:jX (fJ p) xO 90 1 A3 n3 s.bA
 dev:jX (fJ p) (qB (fJ p)) 93 6 A4 n4 s.aD
section
variable{p q:Piece}{w:World}{s:aC}{A1 A2 A3 A4:Option Addr}{n1 n2 n3 n4:Nat}
theorem Jj.le(h:Jj p s A1 n1 A2 n2 A3 n3 A4 n4)(hl:p.Le q):Jj q s A1 n1 A2 n2 A3 n3 A4 n4:=
 ⟨h.sU.mono (kE hl) (fun _ _=>qU.mono (kE hl)),h.dom.mono (kE hl) (fun _ _ h=>h),h.yI.mono (kE hl) (fun _ _ h=>h),h.dev.mono (kE hl) (fun _ _=>qB.mono (kE hl))⟩
theorem Jj.W(h:Jj p s A1 n1 A2 n2 A3 n3 A4 n4)(hl:p.Le (all w))(hs:s.small):iD w s A1 n1 A2 n2 A3 n3 A4 n4:=⟨(h.le hl).sU,(h.le hl).dom,(h.le hl).yI,(h.le hl).dev,hs⟩
theorem Jj.len(h:Jj p s A1 n1 A2 n2 A3 n3 A4 n4):n1=s.aF.length∧n2=s.domains.length∧n3=s.bA.length∧n4=s.aD.length:=by
 obtain⟨⟨_,_,h1,_⟩,⟨_,_,h2,_⟩,⟨_,_,h3,_⟩,⟨_,_,h4,_⟩⟩:=h;exact⟨h1,h2,h3,h4⟩
theorem uN.Q{cs:Array Value}(h:uN (fJ p) s cs):∃A1 n1 k1 A2 n2 k2 A3 n3 k3 A4 n4 k4,cs=#[.slice A1 n1 k1,.slice A2 n2 k2,.slice A3 n3 k3,.slice A4 n4 k4]∧Jj p s A1 n1 A2 n2 A3 n3 A4 n4:=by
 obtain⟨A1,n1,k1,A2,n2,k2,A3,n3,k3,A4,n4,k4,h0,h1,h2,h3,h4⟩:=h;exact⟨A1,n1,k1,A2,n2,k2,A3,n3,k3,A4,n4,k4,h0,h1,h2,h3,h4⟩
end
theorem aRP{α:Type}{p:Piece}{R:α→List Value→Prop}{t:TypeId}{sz n:Nat}{A:Option Addr}{es:List α}(h:jX (fJ p) R t sz A n es){k:Nat}{e:α}(hk:es[k]? =some e):
  ∃b off r,A=some ⟨b,off,none⟩∧p.Z b∧r.length=sz∧R e r∧∀f u,r[f]? =some u→p.w.cell? ⟨b,off+k*sz+f,none⟩=some u:=by
 obtain⟨rows,h1,h2,h3⟩:=h
 have hlt:k < n:=by
  rw[h2];rcases Nat.lt_or_ge k es.length with h | h
  ·exact h
  ·rw[List.getElem?_eq_none h] at hk;cases hk
 obtain⟨b,off,hA,hb,hc⟩:=aI.at_ h3 hlt;obtain⟨r,h4,h5,h6⟩:=h1.get hk;refine⟨b,off,r,hA,hb,h4,h5,fun f u hu=>hc f u ?_⟩
 have hf:f < sz:=by
  rw[←h4];rcases Nat.lt_or_ge f r.length with h | h
  ·exact h
  ·rw[List.getElem?_eq_none h] at hu;cases hu
 rw[h6 f hf,hu]
end
section
theorem oF{N:cF}{w0:World}{e:Env}{R:List Piece}{H:List HP}{K:Act→World→Prop}{p:HP}(hp:∀w,p.sat (fun _=>False) w)(h:XK N w0 K e R (p::H)):XK N w0 K e R H:=fun a w hr st=>
 h a w hr (st.new (w':=w) (Below.refl _ _) (by
  rw[show(fresh w w).Z=fun _=>False from by funext b;simp only[fresh,eq_iff_iff,iff_false];omega]
  exact hp w))
abbrev AC:=Option Addr×Nat
def yU(c:eW)(a:AC):List Value:=[.int .u8 c.kind,.slice a.1 c.src.length a.2,.int .u64 c.rate,iv c.mul,iv c.div,iv c.lock]
def yT(d:cH)(p:AC×AC):List Value:=[iv d.clock,iv d.domain,iv d.reset,.int .u32 d.iH,.slice p.1.1 d.aR.length p.1.2,.slice p.2.1 d.iU.length p.2.2]
def Qq(s:aC)(fa:List AC):List (List Value):=List.zipWith yU s.aF fa
def Ql(s:aC)(da:List (AC×AC)):List (List Value):=List.zipWith yT s.aD da
section
variable{α β:Type}{f:α→β→List Value}{sz:Nat}
theorem Xw{es:List α}{bs:List β}(hl:bs.length=es.length)(hf:∀e a,(f e a).length=sz):(List.zipWith f es bs).length=es.length∧∀r∈List.zipWith f es bs,r.length=sz:=by
 refine⟨by simp;omega,fun r hr=>?_⟩;obtain⟨j,hj⟩:=List.getElem?_of_mem hr;rw[List.getElem?_zipWith] at hj;split at hj<;>cases hj
 exact hf _ _
theorem Ry{es:List α}{bs:List β}{i:Nat}{e:α}{a:β}(he:es[i]? =some e)(ha:bs[i]? =some a):(List.zipWith f es bs)[i]? =some (f e a):=by rw[List.getElem?_zipWith,he,ha]
theorem aDV{es:List α}{bs:List β}{i:Nat}{e:α}{a:β}(he:es[i]? =some e)(hi:i < bs.length):(List.zipWith f es bs).set i (f e a)=List.zipWith f es (bs.set i a):=by
 refine List.ext_getElem? fun j=>?_;rw[List.getElem?_set]
 by_cases hj:i=j
 ·subst hj
  have h1:=(List.getElem?_eq_some_iff.1 he).1
  rw[if_pos rfl,Ry he (List.getElem?_set_self hi),if_pos (by simp;omega)]
 ·rw[if_neg hj,List.getElem?_zipWith,List.getElem?_zipWith,List.getElem?_set_ne hj]
theorem aDW{es:List α}{bs:List β}(hf:∀e a,∀u∈f e a,u.oneCell'=true):∀u∈(List.zipWith f es bs).flatten,u.oneCell'=true:=fun u hu=>by
 obtain⟨r,hr,hu⟩:=List.mem_flatten.1 hu;obtain⟨j,hj⟩:=List.getElem?_of_mem hr;rw[List.getElem?_zipWith] at hj;split at hj<;>cases hj
 exact hf _ _ u hu
end
theorem aPQ(c:eW)(a:AC):∀u∈yU c a,u.oneCell'=true:=by simp[yU,Value.oneCell']
theorem aPs(d:cH)(p:AC×AC):∀u∈yT d p,u.oneCell'=true:=by simp[yT,Value.oneCell']
theorem aDg{S:tD}:∀{cl:List eW} {rs:List (List Value)},Rows (qU S) 6 cl rs→∃fa:List AC,fa.length=cl.length∧rs=List.zipWith yU cl fa∧∀(i:Nat) (c:eW) (a:AC),cl[i]? =some c→fa[i]? =some a→S 3 1 a.1 c.src.length (aM c.src)
 | [],[],_=>⟨[],rfl,rfl,fun i c a h=>by simp at h⟩
 | e::es,r::rs,h=>by
  obtain⟨_,⟨A,n,k,hr,hn,hS⟩,h3⟩:=h;obtain⟨fa,h4,h5,h6⟩:=aDg h3;subst hn;refine⟨(A,k)::fa,by simp[h4],by rw[hr,h5];rfl,fun i c a hc ha=>?_⟩;cases i with
  | zero=>simp at hc ha;subst hc;subst ha;exact hS
  | succ i=>exact h6 i c a (by simpa using hc) (by simpa using ha)
theorem aER{S:tD}:∀{cl:List eW} {fa:List AC},fa.length=cl.length→(∀(i:Nat) (c:eW) (a:AC),cl[i]? =some c→fa[i]? =some a→S 3 1 a.1 c.src.length (aM c.src))→Rows (qU S) 6 cl (List.zipWith yU cl fa)
 | [],[],_,_=>trivial
 | c::cl,a::fa,hl,h=>⟨rfl,⟨a.1,_,a.2,rfl,rfl,h 0 c a rfl rfl⟩,aER (by simpa using hl) fun i c' a' hc ha=>h (i+1) c' a' (by simpa using hc) (by simpa using ha)⟩
theorem aCZ{S:tD}:∀{cl:List cH} {rs:List (List Value)},Rows (qB S) 6 cl rs→∃da:List (AC×AC),da.length=cl.length∧rs=List.zipWith yT cl da∧∀(i:Nat) (d:cH) (p:AC×AC),cl[i]? =some d→da[i]? =some p→S 95 2 p.1.1 d.aR.length (d.aR.flatMap Rg.cells)∧S 3 1 p.2.1 d.iU.length (aM d.iU)
 | [],[],_=>⟨[],rfl,rfl,fun i c a h=>by simp at h⟩
 | e::es,r::rs,h=>by
  obtain⟨_,⟨A,n,k,A',n',k',hr,hn,hn',hS,hS'⟩,h3⟩:=h;obtain⟨da,h4,h5,h6⟩:=aCZ h3;subst hn;subst hn';refine⟨((A,k),(A',k'))::da,by simp[h4],by rw[hr,h5];rfl,fun i d p hc ha=>?_⟩;cases i with
  | zero=>simp at hc ha;subst hc;subst ha;exact⟨hS,hS'⟩
  | succ i=>exact h6 i d p (by simpa using hc) (by simpa using ha)
theorem aEQ{S:tD}:∀{cl:List cH} {da:List (AC×AC)},da.length=cl.length→(∀(i:Nat) (d:cH) (p:AC×AC),cl[i]? =some d→da[i]? =some p→S 95 2 p.1.1 d.aR.length (d.aR.flatMap Rg.cells)∧S 3 1 p.2.1 d.iU.length (aM d.iU))→Rows (qB S) 6 cl (List.zipWith yT cl da)
 | [],[],_,_=>trivial
 | c::cl,a::da,hl,h=>⟨rfl,⟨a.1.1,_,a.1.2,a.2.1,_,a.2.2,rfl,rfl,rfl,(h 0 c a rfl rfl).1,(h 0 c a rfl rfl).2⟩,aEQ (by simpa using hl) fun i c' a' hc ha=>h (i+1) c' a' (by simpa using hc) (by simpa using ha)⟩
theorem aOU{es:List Dom}{rs:List (List Value)}(h:Rows tI 3 es rs):∀u∈rs.flatten,u.oneCell'=true:=fun u hu=>by
 obtain⟨r,hr,hu⟩:=List.mem_flatten.1 hu;obtain⟨j,hj⟩:=List.getElem?_of_mem hr;obtain⟨e,_,_,hR⟩:=h.at_ hj;unfold tI at hR;subst hR;simp only[List.mem_cons,List.not_mem_nil,or_false] at hu;rcases hu with rfl | rfl | rfl<;>rfl
theorem aKv{es:List Int}{rs:List (List Value)}(h:Rows xO 1 es rs):∀u∈rs.flatten,u.oneCell'=true:=fun u hu=>by
 obtain⟨r,hr,hu⟩:=List.mem_flatten.1 hu;obtain⟨j,hj⟩:=List.getElem?_of_mem hr;obtain⟨e,_,_,hR⟩:=h.at_ hj;unfold xO at hR;subst hR;simp only[List.mem_cons,List.not_mem_nil,or_false] at hu;subst hu;rfl
def xV(s:aC)(fa:List AC)(i:Nat)(p:Piece):Prop:=∀(j:Nat) (c:eW) (a:AC),j < i→s.aF[j]? =some c→fa[j]? =some a→aI p 1 a.1 c.src.length (aM c.src)
theorem xV.le{s:aC}{fa:List AC}{i:Nat}(p q:Piece)(hl:p.Le q)(h:xV s fa i p):xV s fa i q:=fun j c a hj hc ha=>(h j c a hj hc ha).le hl
def Ca(s:aC)(da:List (AC×AC))(i:Nat)(p:Piece):Prop:=∀(j:Nat) (d:cH) (a:AC×AC),j < i→s.aD[j]? =some d→da[j]? =some a→aI p 2 a.1.1 d.aR.length (d.aR.flatMap Rg.cells)∧aI p 1 a.2.1 d.iU.length (aM d.iU)
theorem Ca.le{s:aC}{da:List (AC×AC)}{i:Nat}(p q:Piece)(hl:p.Le q)(h:Ca s da i p):Ca s da i q:=fun j c a hj hc ha=>⟨(h j c a hj hc ha).1.le hl,(h j c a hj hc ha).2.le hl⟩
end
section
theorem Nw{l:List Rg}:∀u∈l.flatMap Rg.cells,u.oneCell'=true:=fun u hu=>by
 obtain⟨r,_,hu⟩:=List.mem_flatMap.1 hu;simp only[Rg.cells,List.mem_cons,List.not_mem_nil,or_false] at hu;rcases hu with rfl | rfl<;>rfl
def aBf(s:aC)(v:Value)(w w':World):Prop:=∃cs,v=.agg cs∧uN (fJ (fresh w w')) s cs
theorem aDe(s:aC)(A1 A2 A3 A4:Option Addr)(n1 k1 n2 k2 n3 k3 n4 k4:Nat)(w:World)(hW:iD w s A1 n1 A2 n2 A3 n3 A4 n4)(Ue:∀d∈s.aD,d.aR.length≤1000000):
  Cz 106 #[.agg #[.slice A1 n1 k1,.slice A2 n2 k2,.slice A3 n3 k3,.slice A4 n4 k4]] w (fun y w'=>(∃v,y=.returned v∧aBf s v w w')∧Below w.heap.size w w'):=by
 obtain⟨rc,hrc,lM,hsc⟩:=hW.sU;obtain⟨rd,hrd,hn2,hsd⟩:=hW.dom;obtain⟨rr,cP,sL,hst⟩:=hW.yI;obtain⟨rv,Pc,uA,tX⟩:=hW.dev;obtain⟨Iq,aNo,rfl,aNp⟩:=aDg hrc;obtain⟨Gc,aNt,rfl,aNu⟩:=aCZ Pc;obtain⟨sm1,sm2,sm3,sm4,sm5,sm6⟩:=hW.small;subst lM;subst hn2;subst sL;subst uA
 have ho1:=aDW (es:=s.aF) (bs:=Iq) aPQ
 have ho4:=aDW (es:=s.aD) (bs:=Gc) aPs
 refine aN func106 ntmps106 ?_;refine eA ?_;refine fR ?_;refine bN fun g1=>?_;refine bX fun g2=>?_;refine fD ?_;refine Rj (fun e R H=>∃C j1 D j2 E j3 V j4 g3,e=[(3,pt g3),(2,pt g2)]∧R=[all w]∧H=[HP.own 86 6 (.slice C s.aF.length j1) s.aF.length (Qq s Iq).flatten,HP.own 93 6 (.slice V s.aD.length j4) s.aD.length (Ql s Gc).flatten,HP.own 88 3 (.slice D s.domains.length j2) s.domains.length rd.flatten,HP.own 90 1 (.slice E s.bA.length j3) s.bA.length rr.flatten,HP.aE g3 30 [.slice C s.aF.length j1,.slice D s.domains.length j2,.slice E s.bA.length j3,.slice V s.aD.length j4],HP.aE g2 30 [sn,sn,sn,sn]]) ?_ ?_
 ·refine qP 14 (by kernel_rfl) (by kernel_rfl) ?_;refine bP 0 ?_;refine bP 1 ?_;refine bP 3 ?_;refine bP 4 ?_;refine bP 6 ?_;refine bP 7 ?_;refine bP 9 ?_;refine bP 10 ?_;refine aHR (j:=13) 3 30 [sn,sn,sn,sn] fun M=>?_;refine Ro 2 13 rfl rfl (gY (by kernel_rfl)) (by decide) (by kernel_rfl) (by kernel_rfl) (fun _ h=>h) (fun M=>?_);refine Sc (f:=161) (fi:=[]) (ca:=[]) (by kernel_rfl) (Qb M rfl rfl) (Qa M rfl rfl) (by decide) (aIp s.aF.length (Qq s Iq).flatten) (fun w1 st=>aL7 A1 _ k1 _ w1 (hsc.le (st.le (by simp))) ho1 sm1) ?_;rintro _ _ q1 ⟨C,j1,rfl,rfl⟩ _;dsimp only[List.cons_append,List.nil_append];refine aAJ ?_;refine gX ?_;refine gP ?_;refine Xh (by decide) rfl (fun _ h=>h.aY.tail) ?_;refine Ro 5 13 rfl rfl (gY (by kernel_rfl)) (by decide) (by kernel_rfl) (by kernel_rfl) (fun _ h=>h.aY.tail) (fun M=>?_);refine Sc (f:=162) (fi:=[]) (ca:=[]) (by kernel_rfl) (Qb M rfl rfl) (Qa M rfl rfl) (by decide) (aIn s.domains.length rd.flatten) (fun w1 st=>aL5 A2 _ k2 _ w1 (hsd.le (st.le (by simp))) (aOU hrd) sm2) ?_;rintro _ _ q2 ⟨D,j2,rfl,rfl⟩ _;dsimp only[List.cons_append,List.nil_append];refine aAJ ?_;refine gX ?_;refine gP ?_;refine Xh (by decide) rfl (fun _ h=>h.aY.tail.aY.tail) ?_;refine Ro 8 13 rfl rfl (gY (by kernel_rfl)) (by decide) (by kernel_rfl) (by kernel_rfl) (fun _ h=>h.aY.tail.aY.tail) (fun M=>?_);refine Sc (f:=163) (fi:=[]) (ca:=[]) (by kernel_rfl) (Qb M rfl rfl) (Qa M rfl rfl) (by decide) (aIl s.bA.length rr.flatten) (fun w1 st=>aL3 A3 _ k3 _ w1 (hst.le (st.le (by simp))) (aKv cP) sm3) ?_;rintro _ _ q3 ⟨E,j3,rfl,rfl⟩ _;dsimp only[List.cons_append,List.nil_append];refine aAJ ?_;refine gX ?_;refine gP ?_;refine Xh (by decide) rfl (fun _ h=>h.aY.tail.aY.tail.aY.tail) ?_;refine Ro 11 13 rfl rfl (gY (by kernel_rfl)) (by decide) (by kernel_rfl) (by kernel_rfl) (fun _ h=>h.aY.tail.aY.tail.aY.tail) (fun M=>?_);refine Sc (f:=164) (fi:=[]) (ca:=[]) (by kernel_rfl) (Qb M rfl rfl) (Qa M rfl rfl) (by decide) (aIo s.aD.length (Ql s Gc).flatten) (fun w1 st=>aL6 A4 _ k4 _ w1 (tX.le (st.le (by simp))) ho4 sm4) ?_;rintro _ _ q4 ⟨V,j4,rfl,rfl⟩ _;dsimp only[List.cons_append,List.nil_append];refine aAJ ?_;refine gX ?_;refine gP ?_;refine Xh (by decide) rfl (fun _ h=>h.aY.tail.aY.tail.aY.tail.aY.tail) ?_;cases M with
  | none=>
   dsimp only[uF,wT,yJ,Dj];refine fH 12 rfl rfl rfl (by decide) (kS (zs:=[sn,sn,sn,sn]) (L:=[(0,1),(1,1),(2,1),(3,1)]) (gY (by kernel_rfl)) (by kernel_rfl) rfl (by simp[fB,gB,Value.cells];rfl)) (by kernel_rfl) (fun _ _ _ h=>h) (fun _ h=>h.aY.tail.aY.tail.aY.tail.aY.tail) ?_;refine cJ 13 ?_;refine bX fun g3=>?_;refine gX ?_;refine gP ?_;refine kK (fun _ h=>h.tail.aY.tail.aY.tail.aY.tail.aY.tail) ?_;refine cJ 14 ?_;refine kO 0 rfl ?_;dsimp only[List.set];refine eR ?_;refine kJ ?_;refine eB ?_;exact aT [4,1,3,2,0,5] rfl (by decide) (by simp) (bL [(3,pt g3),(2,pt g2)] (Xd ⟨C,j1,D,j2,E,j3,V,j4,g3,rfl,rfl,rfl⟩))
  | some g3=>
   dsimp only[uF,wT,yJ,Dj];refine fH 12 rfl rfl rfl (by decide) (kS (zs:=[sn,sn,sn,sn]) (L:=[(0,1),(1,1),(2,1),(3,1)]) (gY (by kernel_rfl)) (by kernel_rfl) rfl (by simp[fB,gB,Value.cells];rfl)) (by kernel_rfl) (fun _ _ _ h=>h) (fun _ h=>h.tail.aY.tail.aY.tail.aY.tail.aY.tail) ?_;refine cJ 14 ?_;refine kO 0 rfl ?_;dsimp only[List.set];refine eR ?_;refine kJ ?_;refine eB ?_;exact aT [4,1,3,2,0,5] rfl (by decide) (by simp) (bL [(3,pt g3),(2,pt g2)] (Xd ⟨C,j1,D,j2,E,j3,V,j4,g3,rfl,rfl,rfl⟩))
 rintro _ _ _ ⟨C,j1,D,j2,E,j3,V,j4,g3,rfl,rfl,rfl⟩;refine oF (p:=HP.bR (xV s Iq 0) (xV.le (s:=s) (fa:=Iq) (i:=0))) (fun w1 j c a hj=>absurd hj (by omega)) ?_;refine aA ?_;refine bL [(23,iv 0),(22,iv s.aF.length),(3,pt g3),(2,pt g2)] ?_;refine eV (fun m e R H=>∃(i:Nat) (fa:List AC),i≤s.aF.length∧fa.length=s.aF.length∧(∀j,i≤j→fa[j]? =Iq[j]?)∧m=s.aF.length - i∧e=[(23,iv i),(22,iv s.aF.length),(3,pt g3),(2,pt g2)]∧R=[all w]∧H=[HP.bR (xV s fa i) (xV.le (s:=s) (fa:=fa) (i:=i)),HP.own 86 6 (.slice C s.aF.length j1) s.aF.length (Qq s fa).flatten,HP.own 93 6 (.slice V s.aD.length j4) s.aD.length (Ql s Gc).flatten,HP.own 88 3 (.slice D s.domains.length j2) s.domains.length rd.flatten,HP.own 90 1 (.slice E s.bA.length j3) s.bA.length rr.flatten,HP.aE g3 30 [.slice C s.aF.length j1,.slice D s.domains.length j2,.slice E s.bA.length j3,.slice V s.aD.length j4],HP.aE g2 30 [sn,sn,sn,sn]]) s.aF.length ⟨0,Iq,by omega,aNo,fun _ _=>rfl,rfl,rfl,rfl,rfl⟩ fun m e R H hI=>?_;obtain⟨i,fa,hi,hfl,hsame,rfl,rfl,rfl,rfl⟩:=hI;refine aA ?_;refine aG rfl (fun hlt=>?_) (fun hge=>?_)
 ·have hlt:i < s.aF.length:=by omega
  obtain⟨c,hc⟩:=get_some hlt;obtain⟨a,ha⟩:=get_some (l:=fa) (i:=i) (by omega)
  have ha0:Iq[i]? =some a:=by rw[←hsame i (Nat.le_refl _)];exact ha
  have aNn:=aNp i c a hc ha0
  have hcs:=sm5 c (List.mem_of_getElem? hc)
  refine aT [1,0,2,3,4,5,6] rfl (by decide) (fun _ h=>h) ?_;refine aAL 0 rfl (by omega) fun gC hC=>?_;subst hC;refine Gj 0 rfl fun cs h1 h2 h3 h4=>?_;dsimp only[List.set];obtain⟨fL,gF⟩:=Xw (f:=yU) (es:=s.aF) (bs:=fa) (sz:=6) hfl (fun _ _=>rfl)
  have hs:=Dk h2 fL gF (Ry hc ha)
  refine aA ?_;refine qP 10 (by kernel_rfl) (by kernel_rfl) ?_;refine bP 0 ?_;refine bP 1 ?_;refine bP 2 ?_;refine bP 3 ?_;refine bP 4 ?_;refine bP 5 ?_;refine bP 6 ?_ (cM:=dat (sz:=6) i (i*6));refine bP 7 ?_;refine bP 8 ?_;refine cJ 9 ?_;refine eX (aDI c.src.length (aM c.src)) (fun w1 st=>aFn a.1 _ a.2 _ w1 (aI.le aNn (st.le (by simp))) (Ou _) hcs) ?_;rintro _ _ q ⟨Af,kf,rfl,rfl⟩ _;dsimp only[List.cons_append,List.nil_append];refine mV ?_;refine cJ 10 ?_;refine kd (dat i (i*6)) ?_;refine eR ?_;refine cJ 11 ?_;refine bE ?_;refine eR ?_;refine cJ 12 ?_;refine eN rfl rfl ?_;dsimp only[List.set];refine eR ?_;refine kJ ?_
  have hs1:=hs.set 1 (.slice Af c.src.length kf) (by simp[yU]) (by omega)
  have mO:=(tC.refl cs (i*6) 6).set 1 (.slice Af c.src.length kf) (by decide)
  have hf:=Bg (r':=yU c (Af,kf)) h2 fL gF hlt (by omega) rfl hs1 mO
  rw[show(Qq s fa).set i (yU c (Af,kf))=Qq s (fa.set i (Af,kf)) from aDV hc (by omega)] at hf;refine Ea 1 (n:=s.aF.length) (c:=j1) (sz:=6) rfl (by simpa using h1) hf h3 h4 ?_;dsimp only[List.set];refine xM 0 (Φ:=fun p=>aI p 1 Af c.src.length (aM c.src)) (hm:=fun p q hl h=>aI.le h hl) rfl (fun p h=>h) ?_;dsimp only[List.set];refine aT [0,2,1,3,4,5,6,7] rfl (by decide) (fun _ h=>h) ?_
  refine Je (X:=xV s (fa.set i (Af,kf)) (i+1)) (h3:=xV.le) (fun p h1 h2 j c' a' hj Lm Bd=>by
   rcases Nat.lt_or_ge j i with h | h
   ·rw[List.getElem?_set_ne (by omega)] at Bd;exact h2 j c' a' h Lm Bd
   ·obtain rfl:j=i:=by omega
    rw[hc] at Lm;cases Lm;rw[List.getElem?_set_self (by omega)] at Bd;cases Bd
    exact h1) ?_
  refine aA ?_;refine bL [(23,iv (i+1:Nat)),(22,iv s.aF.length),(3,pt g3),(2,pt g2)] ?_;refine vK (R':=[all w]) (by simp) ?_;exact gQ (s.aF.length - (i+1)) (by omega) ⟨i+1,fa.set i (Af,kf),hlt,by simpa using hfl,fun j hj=>by rw[List.getElem?_set_ne (by omega)];exact hsame j (by omega),rfl,rfl,rfl,rfl⟩
 ·obtain rfl:i=s.aF.length:=by omega
  refine oF (p:=HP.bR (Ca s Gc 0) (Ca.le (s:=s) (da:=Gc) (i:=0))) (fun w1 j d a hj=>absurd hj (by omega)) ?_;refine aA ?_;refine bL [(42,iv 0),(41,iv s.aD.length),(3,pt g3),(2,pt g2)] ?_;refine eV (fun m e R H=>∃(i:Nat) (da:List (AC×AC)),i≤s.aD.length∧da.length=s.aD.length∧(∀j,i≤j→da[j]? =Gc[j]?)∧m=s.aD.length - i∧e=[(42,iv i),(41,iv s.aD.length),(3,pt g3),(2,pt g2)]∧R=[all w]∧H=[HP.bR (Ca s da i) (Ca.le (s:=s) (da:=da) (i:=i)),HP.bR (xV s fa s.aF.length) (xV.le (s:=s) (fa:=fa) (i:=s.aF.length)),HP.own 86 6 (.slice C s.aF.length j1) s.aF.length (Qq s fa).flatten,HP.own 93 6 (.slice V s.aD.length j4) s.aD.length (Ql s da).flatten,HP.own 88 3 (.slice D s.domains.length j2) s.domains.length rd.flatten,HP.own 90 1 (.slice E s.bA.length j3) s.bA.length rr.flatten,HP.aE g3 30 [.slice C s.aF.length j1,.slice D s.domains.length j2,.slice E s.bA.length j3,.slice V s.aD.length j4],HP.aE g2 30 [sn,sn,sn,sn]]) s.aD.length ⟨0,Gc,by omega,aNt,fun _ _=>rfl,rfl,rfl,rfl,rfl⟩ fun m e R H hI=>?_;obtain⟨i,da,hi,lB,aFL,rfl,rfl,rfl,rfl⟩:=hI;refine aA ?_;refine aG rfl (fun hlt=>?_) (fun hge=>?_)
  ·have hlt:i < s.aD.length:=by omega
   obtain⟨d,hd⟩:=get_some hlt;obtain⟨⟨a1,a2⟩,ha⟩:=get_some (l:=da) (i:=i) (by omega)
   have ha0:Gc[i]? =some (a1,a2):=by rw[←aFL i (Nat.le_refl _)];exact ha
   obtain⟨aCw,aFV⟩:=aNu i d _ hd ha0
   have dQ:=Ue d (List.mem_of_getElem? hd)
   have fV:=sm6 d (List.mem_of_getElem? hd)
   refine aT [3,0,1,2,4,5,6,7] rfl (by decide) (fun _ h=>h) ?_;refine aAL 0 rfl (by omega) fun gV hV=>?_;subst hV;refine Gj 0 rfl fun cs h1 h2 h3 h4=>?_;dsimp only[List.set];obtain⟨fL,gF⟩:=Xw (f:=yT) (es:=s.aD) (bs:=da) (sz:=6) lB (fun _ _=>rfl)
   have hs:=Dk h2 fL gF (Ry hd ha)
   refine aA ?_;refine kd (dat i (i*6)) ?_;refine aA ?_;refine iX [3,4,5,8,9,10] ?_;refine bJ 0 ?_;refine bJ 1 ?_;refine bJ 2 ?_;refine bJ 7 ?_;refine aK 3 ?_;refine aK 4 ?_;refine aK 5 ?_;refine aK 8 ?_;refine aK 9 ?_;refine aK 10 ?_;refine aL 6 ?_;refine eX (aIm d.aR.length (d.aR.flatMap Rg.cells)) (fun w1 st=>aL4 a1.1 _ a1.2 _ w1 (aI.le aCw (st.le (by simp))) Nw dQ) ?_;rintro _ _ q1 ⟨Ag,kg,rfl,rfl⟩ _;dsimp only[List.cons_append,List.nil_append];refine aZ ?_;refine aL 11 ?_;refine eX (aDI d.iU.length (aM d.iU)) (fun w1 st=>aFn a2.1 _ a2.2 _ w1 (aI.le aFV (st.le (by simp))) (Ou _) fV) ?_;rintro _ _ q2 ⟨An,kn,rfl,rfl⟩ _;dsimp only[List.cons_append,List.nil_append];refine aZ ?_ (hS:=fun _ h=>h.aY.tail.aY.tail);refine aL 12 ?_;refine bE ?_;refine aZ ?_ (hS:=fun _ h=>h.aY.tail.aY.tail);refine aL 13 ?_;refine bE ?_;refine aZ ?_ (hS:=fun _ h=>h.aY.tail.aY.tail);refine aL 14 ?_;refine eN rfl rfl ?_;dsimp only[List.set];refine cE ?_;refine aL 15 ?_;refine bE ?_;refine cE ?_;refine aL 16 ?_;refine bE ?_;refine cE ?_;refine aL 17 ?_;refine eN rfl rfl ?_;dsimp only[List.set];refine cE ?_;refine dW ?_
   have hs1:=(hs.set 4 (.slice Ag d.aR.length kg) (by simp[yT]) (by omega)).set 5 (.slice An d.iU.length kn) (by simp[yT]) (by simp;omega)
   have mO:=((tC.refl cs (i*6) 6).set 4 (.slice Ag d.aR.length kg) (by decide)).set 5 (.slice An d.iU.length kn) (by decide)
   have hf:=Bg (r':=yT d ((Ag,kg),(An,kn))) h2 fL gF hlt (by omega) rfl hs1 mO
   rw[show(Ql s da).set i (yT d ((Ag,kg),(An,kn)))=Ql s (da.set i ((Ag,kg),(An,kn))) from aDV hd (by omega)] at hf;refine Ea 2 (n:=s.aD.length) (c:=j4) (sz:=6) rfl (by simpa using h1) hf h3 h4 ?_;dsimp only[List.set];refine xM 0 (Φ:=fun p=>aI p 1 An d.iU.length (aM d.iU)) (hm:=fun p q hl h=>aI.le h hl) rfl (fun p h=>h) ?_;refine xM 1 (Φ:=fun p=>aI p 2 Ag d.aR.length (d.aR.flatMap Rg.cells)) (hm:=fun p q hl h=>aI.le h hl) rfl (fun p h=>h) ?_;dsimp only[List.set];refine Je (X:=fun p=>aI p 1 An d.iU.length (aM d.iU)∧aI p 2 Ag d.aR.length (d.aR.flatMap Rg.cells)) (h3:=fun p q hl h=>⟨aI.le h.1 hl,aI.le h.2 hl⟩) (fun p h1 h2=>⟨h1,h2⟩) ?_;refine aT [0,2,3,4,1,5,6,7,8] rfl (by decide) (fun _ h=>h) ?_
   refine Je (X:=Ca s (da.set i ((Ag,kg),(An,kn))) (i+1)) (h3:=Ca.le) (fun p h1 h2 j d' a' hj hd' Bd=>by
    rcases Nat.lt_or_ge j i with h | h
    ·rw[List.getElem?_set_ne (by omega)] at Bd;exact h2 j d' a' h hd' Bd
    ·obtain rfl:j=i:=by omega
     rw[hd] at hd';cases hd';rw[List.getElem?_set_self (by omega)] at Bd;cases Bd
     exact⟨h1.2,h1.1⟩) ?_
   refine aA ?_;refine bL [(42,iv (i+1:Nat)),(41,iv s.aD.length),(3,pt g3),(2,pt g2)] ?_;refine vK (R':=[all w]) (by simp) ?_;exact gQ (s.aD.length - (i+1)) (by omega) ⟨i+1,da.set i ((Ag,kg),(An,kn)),hlt,by simpa using lB,fun j hj=>by rw[List.getElem?_set_ne (by omega)];exact aFL j (by omega),rfl,rfl,rfl,rfl⟩
  ·obtain rfl:i=s.aD.length:=by omega
   refine aT [6,7,0,1,2,3,4,5] rfl (by decide) (fun _ h=>h) ?_;refine aA ?_;refine dF [] [2,3,4,5,6,7] [1] (by simp) rfl (by decide) (by decide) fun q hq _ hfr=>?_;obtain⟨F0,s0,z0⟩:=hq 2 _ (by simp) rfl;obtain⟨F1,s1,z1⟩:=hq 3 _ (by simp) rfl
   have e0:Ca s da s.aD.length q:=Ca.le ⟨q.w,F0⟩ q (fun b hb=>⟨z0 b hb,rfl⟩) s0
   have e1:xV s fa s.aF.length q:=xV.le ⟨q.w,F1⟩ q (fun b hb=>⟨z1 b hb,rfl⟩) s1
   have e2:=aI.own (hq 4 _ (by simp) rfl)
   have e3:=aI.own (hq 5 _ (by simp) rfl)
   have e4:=aI.own (hq 6 _ (by simp) rfl)
   have e5:=aI.own (hq 7 _ (by simp) rfl)
   have hS:uN (fJ q) s #[.slice C s.aF.length j1,.slice D s.domains.length j2,.slice E s.bA.length j3,.slice V s.aD.length j4]:=
    ⟨C,_,j1,D,_,j2,E,_,j3,V,_,j4,rfl,⟨_,aER hfl (fun i c a hc ha=>e1 i c a (List.getElem?_eq_some_iff.1 hc).1 hc ha),rfl,e2⟩,⟨rd,hrd,rfl,e4⟩,⟨rr,cP,rfl,e5⟩,⟨_,aEQ lB (fun i d p hd hp=>e0 i d p (List.getElem?_eq_some_iff.1 hd).1 hd hp),rfl,e3⟩⟩
   exact Ml (vs:=[.slice C s.aF.length j1,.slice D s.domains.length j2,.slice E s.bA.length j3,.slice V s.aD.length j4]) rfl (by kernel_rfl) rfl rfl (by first | assumption | exact aO.whole 0 rfl | exact aO.whole 1 rfl | exact aO.whole 2 rfl | exact aO.whole 3 rfl | exact aO.whole 4 rfl | exact aO.whole 5 rfl | exact aO.whole 6 rfl | exact aO.whole 7 rfl | exact aO.whole 8 rfl | exact xQ (by simp) (by assumption)) fun w1 t=>⟨⟨_,rfl,_,rfl,hS.mono (kE (t.mT (by simp) (hfr (by simp) (by simp))))⟩,t.below (by simp)⟩
end
section
section
variable{P:Program}{N:cF}{w0 w:World}{K:Act→World→Prop}{e:Env}{R:List Piece}{H H':List HP}
theorem Xa{p : HP}{ps : List HP}(h : XK N w0 K e R (HP.many (ps ++ [p]) :: H)) : XK N w0 K e R (p :: HP.many ps :: H) := fun a w hr st => by
  obtain⟨Z,F,hz,cP,hs,cX,eO⟩:=st.ex;obtain⟨G,hG1,hG2,hG3⟩:=hs 1 _ rfl;refine h a w hr ⟨st.os,st.tape,st.output,st.size,Z,fun j=>match j with | 0=>fun b=>F 0 b∨F 1 b | j+1=>F (j+2),hz,cP,fun j r hj=>?_,fun j b hb=>?_,fun j k b kG hj hk=>?_⟩
  · cases j with
    | zero =>
      simp at hj;subst hj;refine⟨fun i b=>if i < ps.length then G i b else i=ps.length∧F 0 b,fun i r hi=>?_,fun i b hb=>?_,fun i k b hik h1 h2=>?_⟩
      · rcases Nat.lt_or_ge i ps.length with hl | hl
        · rw[List.getElem?_append_left hl] at hi
          show r.sat (fun b=>if i < ps.length then G i b else i=ps.length∧F 0 b) w
          rw[show(fun b=>if i < ps.length then G i b else i=ps.length∧F 0 b)=G i by funext b;rw[if_pos hl]];exact hG1 i r hi
        · rw[List.getElem?_append_right hl] at hi
          have h0:=wU hi
          have hil:i=ps.length:=by simp at h0;omega
          subst hil;simp at hi;subst hi
          show p.sat (fun b=>if ps.length < ps.length then G ps.length b else ps.length=ps.length∧F 0 b) w
          rw[show(fun b=>if ps.length < ps.length then G ps.length b else ps.length=ps.length∧F 0 b)=F 0 by funext b;simp];exact hs 0 _ rfl
      · dsimp only at hb
        split at hb
        · exact .inr (hG2 i b hb)
        · exact .inl hb.2
      · dsimp only at h1 h2
        split at h1<;>split at h2
        · exact hG3 i k b hik h1 h2
        · exact eO 1 0 b (by omega) (hG2 i b h1) h2.2
        · exact eO 0 1 b (by omega) h1.2 (hG2 k b h2)
        · omega
    | succ j=>exact hs (j+2) r (by simpa using hj)
  · cases j with
    | zero=>rcases hb with hb | hb<;>exact cX _ b hb
    | succ j=>exact cX _ b hb
  · cases j with
    | zero => cases k with
      | zero=>exact kG rfl
      | succ k => rcases hj with hj | hj
                  · exact eO 0 (k+2) b (by omega) hj hk
                  · exact eO 1 (k+2) b (by omega) hj hk
    | succ j => cases k with
      | zero => rcases hk with hk | hk
                · exact eO 0 (j+2) b (by omega) hk hj
                · exact eO 1 (j+2) b (by omega) hk hj
      | succ k=>exact eO (j+2) (k+2) b (by omega) hj hk
end
theorem vL{N:cF}{w0:World}{e:Env}{R:List Piece}{H:List HP}{K:Act→World→Prop}{p q r:HP}(h:XK N w0 K e R (HP.many [p,q,r]::H)):XK N w0 K e R (p::q::r::H):=by
 refine mU ?_;refine fun a w hr st=>?_
 refine(Xa (ps:=[p,q]) (p:=r) h) a w hr (st.weak (fun _ h=>h) (fun i=>match i with
  | 0=>1
  | 1=>0
  | i+2=>i+2) (fun i j _ _ he=>by
   match i,j with
   | 0,0=>rfl
   | 0,1=>simp at he
   | 0,j+2=>simp at he
   | 1,0=>simp at he
   | 1,1=>rfl
   | 1,j+2=>simp at he
   | i+2,0=>simp at he
   | i+2,1=>simp at he
   | i+2,j+2=>simpa using he) (fun i p hi=>by
   match i,hi with
   | 0,hi=>simpa using hi
   | 1,hi=>simpa using hi
   | i+2,hi=>simpa using hi))
end
section
theorem aRr{N:cF}{w0:World}{e:Env}{R:List Piece}{H:List HP}{K:Act→World→Prop}{p q r s:HP}(h:XK N w0 K e R (HP.many [p,q,r,s]::H)):XK N w0 K e R (p::q::r::s::H):=by
 refine mU ?_;refine fun a w hr st=>?_
 have swap:∀{x y:HP} {H:List HP} {w:World},St w0 R (x::y::H) w→St w0 R (y::x::H) w:=fun st=>st.weak (fun _ h=>h) (fun i=>match i with
  | 0=>1
  | 1=>0
  | i+2=>i+2) (fun i j _ _ he=>by
   match i,j with
   | 0,0=>rfl
   | 0,1=>simp at he
   | 0,j+2=>simp at he
   | 1,0=>simp at he
   | 1,1=>rfl
   | 1,j+2=>simp at he
   | i+2,0=>simp at he
   | i+2,1=>simp at he
   | i+2,j+2=>simpa using he) (fun i p hi=>by
   match i,hi with
   | 0,hi=>simpa using hi
   | 1,hi=>simpa using hi
   | i+2,hi=>simpa using hi)
 refine(Xa (ps:=[p,q]) (p:=r) (H:=s::H) (fun a w hr st=>?_)) a w hr (swap st);exact(Xa (ps:=[p,q,r]) (p:=s) h) a w hr (swap st)
def aI4(d:cH)(v:Value)(hs:List HP)(_:Piece):Prop:=∃L:FL,v=.tuple #[.pointer (some ⟨L.f,0,none⟩),iv 0]∧hs=[gR L d (Dl d)]
theorem Cm(l:List Rg):List.replicate l.length (Value.int .u32 0)=mK (l.map fun _=>0):=by
 refine List.ext_getElem? fun j=>?_;simp only[mK,List.map_map,List.getElem?_replicate,List.getElem?_map]
 by_cases h:j < l.length
 ·rw[if_pos h,List.getElem?_eq_getElem h];rfl
 ·rw[if_neg h,List.getElem?_eq_none (by omega)];rfl
theorem aKV(d:cH)(hrl:d.aR.length≤8)(cP:∀r∈d.aR,0≤r.reset∧r.reset < 4294967296)(A:Option Addr)(c:Nat)(w:World)(hs:aI (all w) 2 A d.aR.length (d.aR.flatMap Rg.cells)):
  Cz 102 #[.slice A d.aR.length c] w (fun y w'=>(∃v hs q,y=.returned v∧q.w=w'∧aI4 d v hs q∧gI w hs q)∧Below w.heap.size w w'):=by
 refine aN func102 ntmps102 ?_;refine eA ?_;refine fR ?_;refine bE ?_;refine bE ?_;refine fD ?_;refine eA ?_;refine eA ?_;refine fR ?_;refine bE ?_;refine bE ?_;refine bE ?_;refine aB ?_;refine aG rfl (fun h=>absurd h (by omega)) (fun _=>?_);refine oA ?_;refine eB ?_;refine Rj (fun e R H=>∃B j gn gs g3,e=[(4,pt g3)]∧R=[all w]∧H=[HP.aE g3 264 [.slice B d.aR.length j,.slice (some ⟨gn,0,none⟩) d.aR.length d.aR.length,.slice (some ⟨gs,0,none⟩) d.aR.length d.aR.length,.bool false],HP.aE gn 37 (mK (d.aR.map fun _=>0)),HP.aE gs 37 (mK (d.aR.map fun _=>0)),HP.own 95 2 (.slice B d.aR.length j) d.aR.length (d.aR.flatMap Rg.cells)]) ?_ ?_
 ·refine qP 8 (by kernel_rfl) (by kernel_rfl) ?_;refine bP 0 ?_;refine bP 2 ?_;refine bP 3 ?_;refine bP 5 ?_;refine bP 6 ?_;refine aRI 1 4 7 rfl rfl rfl (by kernel_rfl) ?_ ?_ ?_
  ·skip
   refine eX (Rw d.aR.length (d.aR.flatMap Rg.cells)) (fun w1 st=>Wk A _ c _ w1 (hs.le (st.le (by simp))) Nw (by omega)) ?_;rintro _ _ q ⟨B,j,rfl,rfl⟩ _;dsimp only[List.cons_append,List.nil_append];refine mV ?_ (hS:=(fun _ h=>h.aY.tail));refine Ji 4 7 rfl rfl (by kernel_rfl) ?_ ?_
   ·skip
    refine lY (n:=d.aR.length) 4 (el:=37) (z:=.int .u32 0) (by kernel_rfl) (by kernel_rfl) rfl rfl rfl (by omega) (by omega) (by decide) fun gn=>?_;rw[Cm d.aR];refine mV ?_ (hS:=(fun _ h=>h.tail.aY.tail));refine cJ 7 ?_;refine lY (n:=d.aR.length) 4 (el:=37) (z:=.int .u32 0) (by kernel_rfl) (by kernel_rfl) rfl rfl rfl (by omega) (by omega) (by decide) fun gs=>?_;rw[Cm d.aR];refine mV ?_ (hS:=(fun _ h=>h.tail.tail.aY.tail));refine cJ 8 ?_;refine kd (iN rfl) ?_;refine eR ?_;refine cJ 9 ?_;refine bN fun g3=>?_;refine eR ?_;refine cJ 10 ?_;refine bE ?_;refine eR ?_;refine kJ ?_;refine eB ?_;exact nR ⟨B,j,gn,gs,g3,rfl,rfl,rfl⟩
   ·skip
    refine lY (n:=d.aR.length) 4 (el:=37) (z:=.int .u32 0) (by kernel_rfl) (by kernel_rfl) rfl rfl rfl (by omega) (by omega) (by decide) fun gs=>?_;rw[Cm d.aR];refine mV ?_ (hS:=(fun _ h=>h.tail.aY.tail));refine cJ 4 ?_;refine lY (n:=d.aR.length) 4 (el:=37) (z:=.int .u32 0) (by kernel_rfl) (by kernel_rfl) rfl rfl rfl (by omega) (by omega) (by decide) fun gn=>?_;rw[Cm d.aR];refine mV ?_ (hS:=(fun _ h=>h.tail.tail.aY.tail));refine cJ 8 ?_;refine kd (iN rfl) ?_;refine eR ?_;refine cJ 9 ?_;refine bN fun g3=>?_;refine eR ?_;refine cJ 10 ?_;refine bE ?_;refine eR ?_;refine kJ ?_;refine eB ?_;exact nR ⟨B,j,gn,gs,g3,rfl,rfl,rfl⟩
  ·skip
   refine lY (n:=d.aR.length) 4 (el:=37) (z:=.int .u32 0) (by kernel_rfl) (by kernel_rfl) rfl rfl rfl (by omega) (by omega) (by decide) fun gn=>?_;rw[Cm d.aR];refine mV ?_ (hS:=(fun _ h=>h.tail));refine Ji 1 7 rfl rfl (by kernel_rfl) ?_ ?_
   ·skip
    refine eX (Rw d.aR.length (d.aR.flatMap Rg.cells)) (fun w1 st=>Wk A _ c _ w1 (hs.le (st.le (by simp))) Nw (by omega)) ?_;rintro _ _ q ⟨B,j,rfl,rfl⟩ _;dsimp only[List.cons_append,List.nil_append];refine mV ?_ (hS:=(fun _ h=>h.aY.tail.tail));refine cJ 7 ?_;refine lY (n:=d.aR.length) 4 (el:=37) (z:=.int .u32 0) (by kernel_rfl) (by kernel_rfl) rfl rfl rfl (by omega) (by omega) (by decide) fun gs=>?_;rw[Cm d.aR];refine mV ?_ (hS:=(fun _ h=>h.tail.aY.tail.tail));refine cJ 8 ?_;refine kd (iN rfl) ?_;refine eR ?_;refine cJ 9 ?_;refine bN fun g3=>?_;refine eR ?_;refine cJ 10 ?_;refine bE ?_;refine eR ?_;refine kJ ?_;refine eB ?_;exact nR ⟨B,j,gn,gs,g3,rfl,rfl,rfl⟩
   ·skip
    refine lY (n:=d.aR.length) 4 (el:=37) (z:=.int .u32 0) (by kernel_rfl) (by kernel_rfl) rfl rfl rfl (by omega) (by omega) (by decide) fun gs=>?_;rw[Cm d.aR];refine mV ?_ (hS:=(fun _ h=>h.tail.tail));refine cJ 1 ?_;refine eX (Rw d.aR.length (d.aR.flatMap Rg.cells)) (fun w1 st=>Wk A _ c _ w1 (hs.le (st.le (by simp))) Nw (by omega)) ?_;rintro _ _ q ⟨B,j,rfl,rfl⟩ _;dsimp only[List.cons_append,List.nil_append];refine mV ?_ (hS:=(fun _ h=>h.aY.tail.tail.tail));refine cJ 8 ?_;refine kd (iN rfl) ?_;refine eR ?_;refine cJ 9 ?_;refine bN fun g3=>?_;refine eR ?_;refine cJ 10 ?_;refine bE ?_;refine eR ?_;refine kJ ?_;refine eB ?_;exact nR ⟨B,j,gn,gs,g3,rfl,rfl,rfl⟩
  ·skip
   refine lY (n:=d.aR.length) 4 (el:=37) (z:=.int .u32 0) (by kernel_rfl) (by kernel_rfl) rfl rfl rfl (by omega) (by omega) (by decide) fun gs=>?_;rw[Cm d.aR];refine mV ?_ (hS:=(fun _ h=>h.tail));refine Ji 1 4 rfl rfl (by kernel_rfl) ?_ ?_
   ·skip
    refine eX (Rw d.aR.length (d.aR.flatMap Rg.cells)) (fun w1 st=>Wk A _ c _ w1 (hs.le (st.le (by simp))) Nw (by omega)) ?_;rintro _ _ q ⟨B,j,rfl,rfl⟩ _;dsimp only[List.cons_append,List.nil_append];refine mV ?_ (hS:=(fun _ h=>h.aY.tail.tail));refine cJ 4 ?_;refine lY (n:=d.aR.length) 4 (el:=37) (z:=.int .u32 0) (by kernel_rfl) (by kernel_rfl) rfl rfl rfl (by omega) (by omega) (by decide) fun gn=>?_;rw[Cm d.aR];refine mV ?_ (hS:=(fun _ h=>h.tail.aY.tail.tail));refine cJ 8 ?_;refine kd (iN rfl) ?_;refine eR ?_;refine cJ 9 ?_;refine bN fun g3=>?_;refine eR ?_;refine cJ 10 ?_;refine bE ?_;refine eR ?_;refine kJ ?_;refine eB ?_;exact nR ⟨B,j,gn,gs,g3,rfl,rfl,rfl⟩
   ·skip
    refine lY (n:=d.aR.length) 4 (el:=37) (z:=.int .u32 0) (by kernel_rfl) (by kernel_rfl) rfl rfl rfl (by omega) (by omega) (by decide) fun gn=>?_;rw[Cm d.aR];refine mV ?_ (hS:=(fun _ h=>h.tail.tail));refine cJ 1 ?_;refine eX (Rw d.aR.length (d.aR.flatMap Rg.cells)) (fun w1 st=>Wk A _ c _ w1 (hs.le (st.le (by simp))) Nw (by omega)) ?_;rintro _ _ q ⟨B,j,rfl,rfl⟩ _;dsimp only[List.cons_append,List.nil_append];refine mV ?_ (hS:=(fun _ h=>h.aY.tail.tail.tail));refine cJ 8 ?_;refine kd (iN rfl) ?_;refine eR ?_;refine cJ 9 ?_;refine bN fun g3=>?_;refine eR ?_;refine cJ 10 ?_;refine bE ?_;refine eR ?_;refine kJ ?_;refine eB ?_;exact nR ⟨B,j,gn,gs,g3,rfl,rfl,rfl⟩
 rintro _ _ _ ⟨B,j,gn,gs,g3,rfl,rfl,rfl⟩;refine xM 3 (Φ:=rO d B) (hm:=rO.le (d:=d) (A:=B)) rfl (fun p h=>h) ?_;dsimp only[List.set];refine aRr ?_;refine aB ?_
 refine bU 0 (gR ⟨g3,gn,gs,B,j⟩ d (Dt d ⟨d.aR.map fun _=>0,d.aR.map fun _=>0,false⟩)) (fun w1 G t hG wV hle=>Yx ⟨g3,gn,gs,B,j⟩ d ⟨d.aR.map fun _=>0,d.aR.map fun _=>0,false⟩ (by omega) ⟨by simp,by simp,fun v hv=>by
  obtain⟨r,hr,rfl⟩:=List.mem_map.1 hv;decide,fun v hv=>by
  obtain⟨r,hr,rfl⟩:=List.mem_map.1 hv
  decide⟩ w1 G hG wV) ?_
 refine aB ?_;refine dF [] [] [0] (by simp) rfl (by decide) (by decide) fun q _ _ hfr=>?_;exact fQ rfl rfl rfl fun w1 t=>⟨⟨_,_,⟨w1,q.Z⟩,rfl,rfl,⟨⟨g3,gn,gs,B,j⟩,rfl,rfl⟩,t.newR (by simp) (by simp) (hfr (by simp) (by simp))⟩,t.below (by simp)⟩
theorem aLh(w:World):
  Cz 104 #[] w (fun y w'=>(∃v hs q,y=.returned v∧q.w=w'∧(∃g,v=pt g∧hs=[HP.aE g 266 [iv 0,iv 0]])∧gI w hs q)∧Below w.heap.size w w'):=by
 refine aN func104 ntmps104 ?_;refine aA ?_;refine kd (iN rfl) ?_;refine bN fun g=>?_;refine aA ?_;refine dF [] [] [0] (by simp) rfl (by decide) (by decide) fun q _ _ hfr=>?_;exact aP (h:=fun w1 t=>⟨_,_,⟨w1,q.Z⟩,rfl,rfl,⟨g,rfl,rfl⟩,t.newR (by simp) (by simp) (hfr (by simp) (by simp))⟩)
end
section
def Rr(x:fF):List Value:=[iv x.at_,iv x.denied]
def tF(g:Nat)(x:fF):HP:=HP.aE g 266 (Rr x)
def Rv(w:World):Prop:=∀i v,[(114:Int),97,115,100][i]? =some v→fS w 0 i (.int .u8 v)
theorem Rv.below{w w':World}(h:Rv w)(hb:Below w.heap.size w w'):Rv w':=fun i v hv=>
 ⟨Nat.lt_of_lt_of_le (h i v hv).1 hb.size,(hb.cell (p:=⟨0,i,none⟩) (h i v hv).1).trans (h i v hv).2⟩
theorem aFb(g:Nat)(x:fF)(hx:zG x)(w:World)(hL:Rv w)(hR:dU w g 0 (Rr x)):
  Cz 205 #[pt g] w (Rt (.int .u8 (oO x.at_)) w):=by
 have k0:=hR.at_ (j:=0) rfl
 obtain⟨h1,h2⟩:=hx;obtain⟨i,hi⟩:∃i:Nat,x.at_=i:=⟨x.at_.toNat,by omega⟩
 have hv:[(114:Int),97,115,100][i]? =some (oO x.at_):=by
  have:i=0∨i=1∨i=2∨i=3:=by omega
  rcases this with rfl | rfl | rfl | rfl<;>rw[hi]<;>rfl
 have k1:=hL i _ hv
 have hlt:i < 4:=by omega
 rw[hi] at k0 k1⊢;refine aN func205 ntmps205 ?_;refine aA ?_;refine kd (fN i i) ?_;refine aA ?_;exact dI
section
variable{g:Nat}{x:fF}{w:World}{F:Nat→Prop}
theorem aLk(hp:(tF g x).sat F w)(hF:∀b,F b→b < w.heap.size):
  Cz 219 #[pt g] w (Wr (iv (sX x).1) (tF g (sX x).2) w F):=by
 refine cS func219 ntmps219 hp hF ?_;dsimp only[tF,Rr];refine aA ?_;refine aG rfl (fun h=>?_) (fun h=>?_)
 ·have hr:sX x=(6,x):=if_pos (by simpa using h)
  rw[hr];refine aA ?_;exact bO 0 hF
 ·have hr:sX x=(0,⟨1,x.denied⟩):=if_neg (by simpa using h)
  rw[hr];refine aA ?_;exact bO 0 hF
theorem aLj(hp:(tF g x).sat F w)(hF:∀b,F b→b < w.heap.size):
  Cz 206 #[pt g] w (Wr (iv (oH x).1) (tF g (oH x).2) w F):=by
 refine cS func206 ntmps206 hp hF ?_;dsimp only[tF,Rr];refine aA ?_;refine bT (t:=11) rfl (fun h2=>?_) (fun h2=>?_)
 ·refine aA ?_;refine aG rfl (fun h=>?_) (fun h=>?_)
  ·have hr:oH x=(6,x):=if_pos ⟨by simpa using h2,by simpa using h⟩
   rw[hr];refine aA ?_;exact bO 0 hF
  ·have hr:oH x=(0,⟨0,x.denied⟩):=if_neg fun h3=>h3.2 (by simpa using h)
   rw[hr];refine aA ?_;exact bO 0 hF
 ·have hr:oH x=(0,⟨0,x.denied⟩):=if_neg fun h3=>h3.1 (by simpa using h2)
  rw[hr];refine aA ?_;exact bO 0 hF
theorem aLi(Mh bF:Bool)(hp:(tF g x).sat F w)(hF:∀b,F b→b < w.heap.size):
  Cz 152 #[pt g,.bool Mh,.bool bF] w (Wr (.tuple #[]) (tF g (yE x Mh bF)) w F):=by
 refine cS func152 ntmps152 hp hF ?_;dsimp only[tF,Rr];refine aA ?_;refine aG rfl (fun h=>?_) (fun h=>?_)
 ·have hr:yE x Mh bF=x:=if_pos (by simpa using h)
  rw[hr];refine aA ?_;exact fC 0 hF
 ·have h1:¬x.at_≠1:=by simpa using h
  cases bF
  ·cases Mh
   ·have hr:yE x false false=⟨2,0⟩:=(if_neg h1).trans ((if_neg (by decide)).trans (if_neg (by decide)))
    rw[hr];refine aA ?_;exact fC 0 hF
   ·have hr:yE x true false=x:=(if_neg h1).trans ((if_neg (by decide)).trans (if_pos rfl))
    rw[hr];refine aA ?_;exact fC 0 hF
  ·have hr:yE x Mh true=⟨3,IntKind.i64.wrap (x.denied+1)⟩:=(if_neg h1).trans (if_pos rfl)
   rw[hr];refine aA ?_;refine Ei rfl rfl rfl (by decide) ?_;refine aA ?_;exact fC 0 hF
end
end
section
structure TL where
 t:Nat
 A:Option Addr
 c:Nat
 fa:List (Option Addr×Nat)
def qI(c:eW)(a:Option Addr×Nat)(x:eM):List Value:=[.int .u8 c.kind,.slice a.1 c.src.length a.2,.int .u64 c.rate,iv c.mul,iv c.div,iv c.lock,.bool x.on,iv x.left,iv 0,iv 0,iv (byF c)]
def jR(s:aC)(fa:List (Option Addr×Nat))(st:List eM):List (List Value):=List.zipWith (fun c p=>qI c p.1 p.2) s.aF (fa.zip st)
structure vN(w:World)(L:TL)(s:aC)(st:List eM):Prop where
 r0:fS w L.t 0 (.slice L.A s.aF.length L.c)
 row:aI (all w) 11 L.A s.aF.length (jR s L.fa st).flatten
 qL:∀(i:Nat) (c:eW) (a:Option Addr×Nat),s.aF[i]? =some c→L.fa[i]? =some a→aI (all w) 1 a.1 c.src.length (aM c.src)
 fl:L.fa.length=s.aF.length
 ok:pK s st
theorem vN.below{w w':World}{L:TL}{s:aC}{st:List eM}(h:vN w L s st)(hb:Below w.heap.size w w'):vN w' L s st:=
 ⟨⟨Nat.lt_of_lt_of_le h.r0.1 hb.size,(hb.cell (p:=⟨_,0,none⟩) h.r0.1).trans h.r0.2⟩,h.row.le (kT hb),fun i c a hc ha=>(h.qL i c a hc ha).le (kT hb),h.fl,h.ok⟩
theorem vN.node{w:World}{L:TL}{s:aC}{st:List eM}(h:vN w L s st){i:Nat}(hi:i < s.aF.length):
  ∃b off c a x,s.aF[i]? =some c∧st[i]? =some x∧L.A=some ⟨b,off,none⟩∧dU w b (off+i*11) (qI c a x)∧aI (all w) 1 a.1 c.src.length (aM c.src):=by
 obtain⟨c,hc⟩:=get_some hi;obtain⟨a,ha⟩:=get_some (l:=L.fa) (i:=i) (by rw[h.fl];exact hi);obtain⟨x,hx⟩:=get_some (l:=st) (i:=i) (by rw[h.ok.len];exact hi)
 have hr:(jR s L.fa st)[i]? =some (qI c a x):=by
  rw[jR,List.getElem?_zipWith,hc,(List.getElem?_zip_eq_some (z:=(a,x))).2 ⟨ha,hx⟩]
 obtain⟨b,off,hA,hro⟩:=aI.row h.row (fun r hr=>by
  obtain⟨j,hj⟩:=List.getElem?_of_mem hr;rw[jR,List.getElem?_zipWith] at hj;split at hj<;>cases hj
  rfl) hr hi
 exact⟨b,off,c,a,x,hc,hx,hA,hro,h.qL i c a hc ha⟩
def rR(s:aC)(fa:List (Option Addr×Nat))(p:Piece):Prop:=∀(i:Nat) (c:eW) (a:Option Addr×Nat),s.aF[i]? =some c→fa[i]? =some a→aI p 1 a.1 c.src.length (aM c.src)
theorem rR.le{s:aC}{fa:List (Option Addr×Nat)}(p q:Piece)(hl:p.Le q)(h:rR s fa p):rR s fa q:=fun i c a hc ha=>(h i c a hc ha).le hl
def pF(L:TL)(s:aC)(st:List eM):HP:=HP.many [HP.aE L.t 249 [.slice L.A s.aF.length L.c],HP.own 251 11 (.slice L.A s.aF.length L.c) s.aF.length (jR s L.fa st).flatten,HP.bR (rR s L.fa) (rR.le (s:=s) (fa:=L.fa))]
theorem aHU{L:TL}{s:aC}{st:List eM}{F:Nat→Prop}{w:World}(h:(pF L s st).sat F w)(hF:∀b,F b→b < w.heap.size)(hfl:L.fa.length=s.aF.length)(hok:pK s st):vN w L s st:=by
 obtain⟨G,g1,g2,_⟩:=h
 have h0:=g1 0 _ rfl
 have h1:=g1 1 _ rfl
 have h2:=g1 2 _ rfl
 have hl:∀i b,G i b→b < w.heap.size:=fun i b hb=>hF b (g2 i b hb)
 obtain⟨A',c',he,hs⟩:=zF (Y:=fun b=>b < w.heap.size) h1 (hl 1)
 injection he with he
 subst he;exact⟨⟨h0.2.lt,by rw[h0.2.cell];rfl⟩,hs,fun i c a hc ha=>(h2 i c a hc ha).le (fun b hb=>⟨hl 2 b hb,rfl⟩),hfl,hok⟩
theorem aHg(t n c b off i:Nat)(w:World)(h0:fS w t 0 (.slice (some ⟨b,off,none⟩) n c))(hi:i < n):
  Cz 185 #[pt t,iv (i:Int)] w (Rt (.pointer (some ⟨b,off+i*11,none⟩)) w):=by
 refine aN func185 ntmps185 ?_;refine aA ?_;refine bT (t:=11) rfl (fun h=>absurd h (by omega)) (fun _=>?_);refine aA ?_;refine aG rfl (fun h=>absurd h (by omega)) (fun _=>?_);refine aA ?_;refine kd (dat i (off+i*11)) ?_;refine aA ?_;exact dI
theorem aHf(t n c:Nat)(A:Option Addr)(i:Int)(w:World)(h0:fS w t 0 (.slice A n c))(hi:bZ n i=false):
  Cz 185 #[pt t,iv i] w (Rt (.pointer none) w):=by
 have hi:=of_decide_eq_false hi
 refine aN func185 ntmps185 ?_;refine aA ?_;refine bT (t:=11) rfl (fun h=>?_) (fun h=>?_)
 ·refine aA ?_;exact dI
 ·refine aA ?_;refine aG rfl (fun h=>?_) (fun h=>absurd hi (by omega));refine aA ?_;exact dI
theorem Qr(L:TL)(s:aC)(st:List eM)(i f:Nat)(c:eW)(fs:List Int)(w:World)(hR:vN w L s st)(hi:s.aF[i]? =some c)(hf:c.src=(f:Int)::fs):
  Cz 187 #[.pointer (some ⟨L.t,0,none⟩),iv (i:Int)] w (Rt (iv (f:Int)) w):=by
 have hlt:i < s.aF.length:=(List.getElem?_eq_some_iff.1 hi).1
 obtain⟨b,off,c',a,x,hc,hx,hA,hro,hs⟩:=hR.node hlt;obtain rfl:c=c':=by rw[hi] at hc;exact Option.some.inj hc
 have h0:=hR.r0
 rw[hA] at h0
 have h1:=hro.at_ (j:=1) rfl
 have h8:=hro.at_ (j:=8) rfl
 rw[hf] at h1 hs;obtain⟨b2,o2,Pu,oQ,nC⟩:=hs.2 (by simp);rw[Pu] at h1
 have h2:fS w b2 o2 (iv (f:Int)):=⟨oQ,nC 0 _ rfl⟩
 refine aN func187 ntmps187 ?_;refine aA ?_;refine kd (dat i (off+i*11)) ?_;refine aA ?_;refine lV ?_;refine jC ?_;refine yX (dat 0 o2 (hlt:=by simp)) ?_;refine iV ?_;refine aA ?_;exact dI
theorem aPL(L:TL)(s:aC)(st:List eM)(hH:s.dJ)(b1 b2:Nat):∀(i:Nat),i < s.aF.length→∀w,vN w L s st→fS w b1 0 (.pointer (some ⟨L.t,0,none⟩))→fS w b2 0 (.func (.func 186) #[] #[pt b1,pt b2])→
  Cz 186 #[iv (i:Int),pt b1,pt b2] w (Rt (.bool (runs s st i)) w):=by
 intro i
 induction i using Nat.strongRecOn with
 | _ i ih =>
  intro hlt w hR sN eF;obtain⟨b,off,c,a,x,hc,hx,hA,hro,hs⟩:=hR.node hlt
  have hrun:=aKe hH.t.aF hc hx
  have h0:=hR.r0
  rw[hA] at h0
  have k0:=hro.at_ (j:=0) rfl
  have k6:=hro.at_ (j:=6) rfl
  have k7:=hro.at_ (j:=7) rfl
  have Pv:∀{w1},Below w.heap.size w w1→fS w1 b1 0 (.pointer (some ⟨L.t,0,none⟩)):=fun hb=>⟨Nat.lt_of_lt_of_le sN.1 hb.size,(hb.cell (p:=⟨_,0,none⟩) sN.1).trans sN.2⟩
  have go2:∀{w1},Below w.heap.size w w1→fS w1 b2 0 (.func (.func 186) #[] #[pt b1,pt b2]):=fun hb=>⟨Nat.lt_of_lt_of_le eF.1 hb.size,(hb.cell (p:=⟨_,0,none⟩) eF.1).trans eF.2⟩
  obtain⟨hsrc,hfit⟩:=hH.t.aF i c hc;refine aN func186 ntmps186 ?_;refine aA ?_;refine kd (dat i (off+i*11)) ?_;rcases hfit with⟨hk,hs0,_⟩ | hfit
  ·rw[hk] at k0;refine aA ?_;refine jI (by simp) ?_;rw[hrun,hs0];simp[yD,hk]
  obtain⟨f,fs,hf⟩:∃(f:Nat) (fs:List Int),c.src=(f:Int)::fs:=by
   cases hs0:c.src with
   | nil=>rw[hs0] at hfit;simp at hfit
   | cons f fs=>exact⟨f.toNat,fs,by have:=(hsrc f (by rw[hs0];simp)).1;rw[Int.toNat_of_nonneg this]⟩
  have Lh:f < i:=by have:=(hsrc f (by rw[hf];simp)).2;omega
  have La:runs s st i=(yD c x&&runs s st f):=by rw[hrun,hf];rfl
  clear hrun;rcases hfit with⟨hk,_⟩ | ⟨hk,_⟩ | ⟨hk,_⟩ | ⟨hk,_⟩
  ·rw[hk] at k0;cases Db:x.on
   ·rw[Db] at k6;refine aA ?_;refine lV ?_;refine iV ?_;refine aA ?_;refine jI (by simp) ?_;rw[La];simp[yD,hk,Db]
   ·rw[Db] at k6;refine aA ?_;refine lV ?_;refine jC ?_;refine Mi 32 rfl (fun h=>?_) (fun h=>?_)
    ·refine jC ?_;refine sZ (fun w1 lI=>Qr L s st i f c fs w1 (hR.below (lI.below (by simp))) hc hf) ?_;refine jC ?_;refine Gi (fi:=[]) (vs:=[iv (f:Int)]) (ca:=[pt b1,pt b2]) (fun w1 lI=>ih f Lh (by omega) w1 (hR.below (lI.below (by simp))) (Pv (lI.below (by simp))) (go2 (lI.below (by simp)))) ?_;refine iV ?_;refine aA ?_;refine jI (by simp) ?_;rw[La];simp[yD,hk,Db,h]
    ·refine iV ?_;refine aA ?_;refine jI (by simp) ?_;rw[La];simp[yD,hk,Db,h]
  ·rw[hk] at k0;refine aA ?_;refine lV ?_;refine jC ?_;refine sZ (fun w1 lI=>Qr L s st i f c fs w1 (hR.below (lI.below (by simp))) hc hf) ?_;refine Gi (fi:=[]) (vs:=[iv (f:Int)]) (ca:=[pt b1,pt b2]) (fun w1 lI=>ih f Lh (by omega) w1 (hR.below (lI.below (by simp))) (Pv (lI.below (by simp))) (go2 (lI.below (by simp)))) ?_;refine iV ?_;refine aA ?_;refine jI (by simp) ?_;rw[La];simp[yD,hk]
  ·rw[hk] at k0;cases Db:x.on
   ·rw[Db] at k6;refine aA ?_;refine lV ?_;refine iV ?_;refine aA ?_;refine jI (by simp) ?_;rw[La];simp[yD,hk,Db]
   ·rw[Db] at k6;refine aA ?_;refine lV ?_;refine jC ?_;refine sZ (fun w1 lI=>Qr L s st i f c fs w1 (hR.below (lI.below (by simp))) hc hf) ?_;refine jC ?_;refine Gi (fi:=[]) (vs:=[iv (f:Int)]) (ca:=[pt b1,pt b2]) (fun w1 lI=>ih f Lh (by omega) w1 (hR.below (lI.below (by simp))) (Pv (lI.below (by simp))) (go2 (lI.below (by simp)))) ?_;refine iV ?_;refine aA ?_;refine jI (by simp) ?_;rw[La];simp[yD,hk,Db]
  ·rw[hk] at k0;refine aA ?_;refine lV ?_;refine jC ?_;refine sZ (fun w1 lI=>Qr L s st i f c fs w1 (hR.below (lI.below (by simp))) hc hf) ?_;refine Gi (fi:=[]) (vs:=[iv (f:Int)]) (ca:=[pt b1,pt b2]) (fun w1 lI=>ih f Lh (by omega) w1 (hR.below (lI.below (by simp))) (Pv (lI.below (by simp))) (go2 (lI.below (by simp)))) ?_;refine iV ?_;refine aA ?_;refine jI (by simp) ?_;rw[La];simp[yD,hk]
end
section
section
variable{N:cF}{w0 w:World}{e:Env}{R:List Piece}{H:List HP}{K:Act→World→Prop}{L:TL}{s:aC}{st:List eM}
theorem St.aBw(t:St w0 R H w)(i:Nat)(hi:H[i]? =some (pF L s st))(hfl:L.fa.length=s.aF.length)(hok:pK s st):vN w L s st:=by
 obtain⟨F,h1,h2,_⟩:=t.chunk hi;exact aHU h1 h2 hfl hok
theorem Rd.tree(i:Nat)(hi:H[i]? =some (pF L s st))(hfl:L.fa.length=s.aF.length)(hok:pK s st):Rd w0 R H L.t 0 (.slice L.A s.aF.length L.c):=fun w t=>(t.aBw i hi hfl hok).r0.2
theorem aBR(hfl:L.fa.length=s.aF.length)(hok:pK s st):(jR s L.fa st).length=s.aF.length∧∀r∈jR s L.fa st,r.length=11:=by
 have:=hok.len
 refine⟨by simp[jR];omega,fun r hr=>?_⟩;obtain⟨j,hj⟩:=List.getElem?_of_mem hr;rw[jR,List.getElem?_zipWith] at hj;split at hj<;>cases hj
 rfl
theorem Oc{i:Nat}{c:eW}{a:Option Addr×Nat}{x:eM}(hc:s.aF[i]? =some c)(ha:L.fa[i]? =some a)(hx:st[i]? =some x):(jR s L.fa st)[i]? =some (qI c a x):=by
 rw[jR,List.getElem?_zipWith,hc,(List.getElem?_zip_eq_some (z:=(a,x))).2 ⟨ha,hx⟩]
theorem aFq{i:Nat}{c:eW}{a:Option Addr×Nat}{x:eM}(hc:s.aF[i]? =some c)(ha:L.fa[i]? =some a)(hi:i < st.length):(jR s L.fa st).set i (qI c a x)=jR s L.fa (st.set i x):=by
 refine List.ext_getElem? fun j=>?_;rw[List.getElem?_set]
 by_cases he:i=j
 ·subst he;rw[if_pos rfl,Oc hc ha (x:=x) (by rw[List.getElem?_set_self hi])];rw[if_pos]
  have h1:=(List.getElem?_eq_some_iff.1 hc).1
  have h2:=(List.getElem?_eq_some_iff.1 ha).1
  simp[jR];omega
 ·rw[if_neg he,jR,jR,List.getElem?_zipWith,List.getElem?_zipWith]
  have hz:(L.fa.zip st)[j]? =(L.fa.zip (st.set i x))[j]? :=by
   rw[List.zip_eq_zipWith,List.zip_eq_zipWith,List.getElem?_zipWith,List.getElem?_zipWith,List.getElem?_set_ne he]
  rw[hz]
theorem St.aJ1{g:Nat}{cs:List Value}(t:St w0 R H w)(i j:Nat)(hi:H[i]? =some (HP.aE g 251 cs))(hj:H[j]? =some (HP.many [HP.aE L.t 249 [.slice (some ⟨g,0,none⟩) s.aF.length L.c],cG,HP.bR (rR s L.fa) (rR.le (s:=s) (fa:=L.fa))]))(hA:L.A=some ⟨g,0,none⟩)(h2:cs.take (s.aF.length*11)=(jR s L.fa st).flatten)(hfl:L.fa.length=s.aF.length)(hok:pK s st):vN w L s st:=by
 obtain⟨fL,gF⟩:=aBR hfl hok
 have hb:=t.aE hi
 obtain⟨F,⟨G,g1,g2,_⟩,hlt,_⟩:=t.chunk hj
 have h0:=g1 0 _ rfl
 have aNb:=g1 2 _ rfl
 refine⟨⟨h0.2.lt,by rw[h0.2.cell,hA];rfl⟩,⟨by rw[Kj _ gF,fL],fun _=>⟨g,0,hA,hb.lt,fun k u hu=>?_⟩⟩,fun k c a hc ha=>(aNb k c a hc ha).le (fun b hbG=>⟨hlt b (g2 2 b hbG),rfl⟩),hfl,hok⟩;rw[←h2] at hu;rw[Nat.zero_add]
 show w.cell? _=_
 rw[hb.cell]
 have hk:k < s.aF.length*11:=by
  rcases Nat.lt_or_ge k (s.aF.length*11) with h | h
  ·exact h
  ·rw[List.getElem?_eq_none (by rw[List.length_take];omega)] at hu;cases hu
 rw[List.getElem?_take_of_lt hk] at hu
 simpa using hu
theorem aHJ(i:Nat)(hi:H[i]? =some (pF L s st))(hn:0 < s.aF.length)(h:∀g cs,L.A=some ⟨g,0,none⟩→cs.length=L.c*11→cs.take (s.aF.length*11)=(jR s L.fa st).flatten→s.aF.length≤L.c→L.c≤maxLen→
  XK N w0 K e R (HP.aE g 251 cs::H.set i (HP.many [HP.aE L.t 249 [.slice L.A s.aF.length L.c],cG,HP.bR (rR s L.fa) (rR.le (s:=s) (fa:=L.fa))]))):XK N w0 K e R H:=by
 refine qM i 1 hi rfl ?_;refine aAL 0 rfl hn fun g hA=>?_;dsimp only[List.set];rw[hA];refine Gj 0 rfl fun cs h1 h2 h3 h4=>?_
 have:=h g cs hA h1 h2 h3 h4
 rw[hA] at this;exact this
theorem zA(i:Nat){g:Nat}{cs:List Value}{st':List eM}(hA:L.A=some ⟨g,0,none⟩)(h1:cs.length=L.c*11)(h2:cs.take (s.aF.length*11)=(jR s L.fa st').flatten)(h3:s.aF.length≤L.c)(h4:L.c≤maxLen)
  (hi:H[i]? =some (HP.many [HP.aE L.t 249 [.slice (some ⟨g,0,none⟩) s.aF.length L.c],cG,HP.bR (rR s L.fa) (rR.le (s:=s) (fa:=L.fa))]))
  (h:XK N w0 K e R (H.set i (pF L s st'))):XK N w0 K e R (HP.aE g 251 cs::H):=by
 refine Ea 0 (n:=s.aF.length) (c:=L.c) (sz:=11) rfl h1 h2 h3 h4 ?_;dsimp only[List.set];rw[←hA] at hi⊢;exact qO i 1 hi rfl h
end
theorem Wl(L:TL)(s:aC)(st:List eM)(hH:s.dJ)(i:Int)(w:World)(hR:vN w L s st):
  Cz 147 #[.pointer (some ⟨L.t,0,none⟩),iv i] w (Rt (.bool (tO s st i)) w):=by
 cases hi:bZ s.aF.length i
 ·refine aN func147 ntmps147 ?_;refine aA ?_;refine bN fun g1=>?_;refine aA ?_;refine aU (fun w1 t=>aHf L.t s.aF.length L.c L.A i w1 ((hR.below (t.below (by simp))).r0) hi) ?_;refine aA ?_;refine jI (by simp) ?_;simp[tO,hi]
 ·obtain⟨n,rfl⟩:∃n:Nat,i=n:=⟨i.toNat,by have:=of_decide_eq_true hi;omega⟩
  have hlt:n < s.aF.length:=by have:=of_decide_eq_true hi;omega
  obtain⟨b,off,c,a,x,hc,hx,hA,_⟩:=hR.node hlt;refine aN func147 ntmps147 ?_;refine aA ?_;refine bN fun g1=>?_;refine aA ?_;refine aU (fun w1 t=>aHg L.t s.aF.length L.c b off n w1 (by rw[←hA];exact(hR.below (t.below (by simp))).r0) hlt) ?_;refine aA ?_;refine bX fun g2=>?_;refine aA ?_;refine kA (vf:=[]) (vc:=[pt g1,pt g2]) rfl rfl (by decide) ?_;refine aA ?_;refine Zw (fi:=[]) (vs:=[iv (n:Int)]) (ca:=[pt g1,pt g2]) (fun w1 t=>aPL L s st hH g1 g2 n hlt w1 (hR.below (t.below (by simp))) ((t.box (i:=1) rfl).at_ (j:=0) rfl) ((t.box (i:=0) rfl).at_ (j:=0) rfl)) ?_;refine aA ?_;refine jI (by simp) ?_;simp[tO,hi]
theorem aPN(L:TL)(s:aC)(st:List eM)(hfl:L.fa.length=s.aF.length)(hok:pK s st)(i:Int)(on:Bool)(w:World)(F:Nat→Prop)(hp:(pF L s st).sat F w)(hF:∀b,F b→b < w.heap.size):
  Cz 209 #[.pointer (some ⟨L.t,0,none⟩),iv i,.bool on] w (Wr (iv (lR s st i on).1) (pF L s (lR s st i on).2) w F):=by
 cases hi:bZ s.aF.length i
 ·have hr:lR s st i on=(4,st):=by simp[lR,hi]
  rw[hr];refine cS func209 ntmps209 hp hF ?_;refine aA ?_;refine aU (fun w1 t=>aHf L.t s.aF.length L.c L.A i w1 ((t.aBw 0 rfl hfl hok).r0) hi) ?_;refine aA ?_;exact bO 0 hF
 ·obtain⟨n,rfl⟩:∃n:Nat,i=n:=⟨i.toNat,by have:=of_decide_eq_true hi;omega⟩
  have hlt:n < s.aF.length:=by have:=of_decide_eq_true hi;omega
  have hl:=hok.len
  obtain⟨c,hc⟩:=get_some hlt;obtain⟨a,ha⟩:=get_some (l:=L.fa) (i:=n) (by omega);obtain⟨x,hx⟩:=get_some (l:=st) (i:=n) (by omega);obtain⟨fL,gF⟩:=aBR hfl hok;refine cS func209 ntmps209 hp hF ?_;refine aHJ 0 rfl (by omega) fun g cs hA h1 h2 h3 h4=>?_;dsimp only[List.set];rw[hA]
  have hs:=Dk h2 fL gF (Oc hc ha hx)
  have hlen:n*11+11≤cs.length:=by omega
  refine aV 1 0 ?_;refine aA ?_;refine aU (fun w1 t=>aHg L.t s.aF.length L.c g 0 n w1 ((t.box (i:=0) rfl).at_ (j:=0) rfl) hlt) ?_;refine aJ 1 0 ?_;rw[Nat.zero_add];refine aA ?_
  have hpq:∀x':eM,(jR s L.fa st).set n (qI c a x')=jR s L.fa (st.set n x'):=fun x'=>aFq hc ha (by omega)
  refine bT (t:=19) rfl (fun hk=>?_) (fun hk=>?_)
  ·refine aA ?_;refine aG rfl (fun hg=>?_) (fun hg=>?_)
   ·have hr:lR s st (n:Int) on=(1,st):=by simp[lR,hi,hc,hx,hk,hg]
    rw[hr];refine aA ?_;refine zA 0 hA h1 h2 h3 h4 rfl ?_;exact bO 0 hF
   ·have hg:c.kind=103:=Classical.not_not.1 hg
    have hr:lR s st (n:Int) on=(0,st.set n ⟨on,x.left⟩):=by simp[lR,hi,hc,hx,hg,Tq]
    rw[hr]
    have hs1:=hs.set 6 (.bool on) (by simp[qI]) (by omega)
    have mO:=(tC.refl cs (n*11) 11).set 6 (.bool on) (by decide)
    have gH:=Bg (r':=qI c a ⟨on,x.left⟩) h2 fL gF hlt (by omega) rfl hs1 mO
    rw[hpq] at gH;refine aA ?_;refine bT (t:=37) rfl (fun h=>absurd h hk) (fun _=>?_);refine aA ?_;refine zA 0 hA (by simpa using h1) gH h3 h4 rfl ?_;exact bO 0 hF
  ·have hk:c.kind=112:=Classical.not_not.1 hk
   have hs1:=hs.set 6 (.bool on) (by simp[qI]) (by omega)
   have mO:=(tC.refl cs (n*11) 11).set 6 (.bool on) (by decide)
   cases on
   ·have hr:lR s st (n:Int) false=(0,st.set n ⟨false,c.lock⟩):=by simp[lR,hi,hc,hx,hk,Tq]
    rw[hr];refine aA ?_;refine bT (t:=37) rfl (fun _=>?_) (fun h=>absurd hk h)
    have jB:=hs1.set 7 (iv c.lock) (by simp[qI]) (by simp;omega)
    have Cu:=mO.set 7 (iv c.lock) (by decide)
    have gH:=Bg (r':=qI c a ⟨false,c.lock⟩) h2 fL gF hlt (by omega) rfl jB Cu
    rw[hpq] at gH;refine aA ?_;refine zA 0 hA (by simpa using h1) gH h3 h4 rfl ?_;exact bO 0 hF
   ·have hr:lR s st (n:Int) true=(0,st.set n ⟨true,x.left⟩):=by simp[lR,hi,hc,hx,hk,Tq]
    rw[hr]
    have gH:=Bg (r':=qI c a ⟨true,x.left⟩) h2 fL gF hlt (by omega) rfl hs1 mO
    rw[hpq] at gH;refine aA ?_;refine bT (t:=37) rfl (fun _=>?_) (fun h=>absurd hk h);refine aA ?_;refine zA 0 hA (by simpa using h1) gH h3 h4 rfl ?_;exact bO 0 hF
end
section
theorem aI.tP{p:Piece}{sz n:Nat}{A:Option Addr}{rows:List (List Value)}(h:aI p sz A n rows.flatten)(hl:∀r∈rows,r.length=sz){k:Nat}{r:List Value}(hk:rows[k]? =some r)(hn:k < n):
  ∃b off,A=some ⟨b,off,none⟩∧p.Z b∧∀j u,r[j]? =some u→p.w.cell? ⟨b,off+k*sz+j,none⟩=some u:=by
 obtain⟨b,off,hA,hz,hc⟩:=aI.at_ h hn;refine⟨b,off,hA,hz,fun j u hu=>hc j u ?_⟩
 have hj:j < sz:=by
  rw[←hl r (List.mem_of_getElem? hk)];exact(List.getElem?_eq_some_iff.1 hu).1
 rw[Py rows hl k j r hk hj,hu]
theorem aRT{w0:World}{R:List Piece}{H:List HP}{p:Piece}{b o:Nat}{vs:List Value}(hp:p∈R)(hz:p.Z b)(h:∀j u,vs[j]? =some u→p.w.cell? ⟨b,o+j,none⟩=some u):aO w0 R H b o vs:=.of fun j v hj=>Rd.ro hp hz (h j v hj)
theorem Qt(s:aC)(A1 A2 A3 A4:Option Addr)(n1 k1 n2 k2 n3 k3 n4 k4:Nat)(w:World)(hW:iD w s A1 n1 A2 n2 A3 n3 A4 n4)(aCA:Wn s=0):
  Cz 27 #[.agg #[.slice A1 n1 k1,.slice A2 n2 k2,.slice A3 n3 k3,.slice A4 n4 k4]] w (Rt (iv 0) w):=by
 have:=aA1 s A1 A2 A3 A4 n1 k1 n2 k2 n3 k3 n4 k4 w hW
 rw[aCA] at this;exact this
def aHT(s:aC)(v:Value)(hs:List HP)(_:Piece):Prop:=∃L:TL,v=.tuple #[.pointer (some ⟨L.t,0,none⟩),iv 0]∧hs=[pF L s (s.aF.map xK)]∧L.fa.length=s.aF.length
theorem aPO(s:aC)(hH:s.dJ)(A1 A2 A3 A4:Option Addr)(n1 k1 n2 k2 n3 k3 n4 k4:Nat)(w:World)(hW:iD w s A1 n1 A2 n2 A3 n3 A4 n4):
  Cz 99 #[.agg #[.slice A1 n1 k1,.slice A2 n2 k2,.slice A3 n3 k3,.slice A4 n4 k4]] w (fun y w'=>(∃v hs q,y=.returned v∧q.w=w'∧aHT s v hs q∧gI w hs q)∧Below w.heap.size w w'):=by
 have hnc:=hH.t.nc
 have Ue:∀d∈s.aD,d.aR.length≤1000000:=fun d hd=>by
  obtain⟨i,hi⟩:=List.getElem?_of_mem hd
  have:=hH.t.aD i d hi
  unfold cH.fit at this;omega
 refine aN func99 ntmps99 ?_;refine aB ?_;refine bN fun g1=>?_;refine aB ?_;refine aU (fun w1 t=>Qt s A1 A2 A3 A4 n1 k1 n2 k2 n3 k3 n4 k4 w1 (hW.le (t.started (by simp))) hH.t.Qs) ?_;refine aB ?_;refine bN fun g2=>?_;refine aB ?_;refine jN [] (aBf s) (fun w1 t=>aDe s A1 A2 A3 A4 n1 k1 n2 k2 n3 k3 n4 k4 w1 (hW.le (t.started (by simp))) Ue) ?_;rintro _ w1 q1 ⟨cs1,rfl,hS⟩ gH _ aC4
 have aC4:=aC4 (by simp)
 obtain⟨B1,m1,j1,B2,m2,j2,B3,m3,j3,B4,m4,j4,rfl,hSQ⟩:=(hS.mono (kE gH)).Q;clear gH hS;obtain⟨rc,hrc,hm1,hsc⟩:=hSQ.sU;obtain⟨fa,hfl,rfl,hfa⟩:=aDg hrc;subst hm1;obtain⟨jT,hcr⟩:=Xw (f:=yU) (es:=s.aF) (bs:=fa) (sz:=6) hfl (fun _ _=>rfl)
 have hl0:(s.aF.map xK).length=s.aF.length:=by simp
 refine kd (aPd (off:=0) (cs:=[.slice B1 s.aF.length j1,.slice B2 m2 j2,.slice B3 m3 j3,.slice B4 m4 j4]) (by kernel_rfl) rfl rfl) ?_;refine aB ?_;refine lU 251 11 ?_;refine bL [(20,iv 0),(19,iv s.aF.length),(18,.slice B1 s.aF.length j1),(5,pt g2)] ?_;refine eV (fun m e R H=>∃(i:Nat) (A:Option Addr) (k:Nat),i≤s.aF.length∧m=s.aF.length - i∧e=[(20,iv i),(19,iv s.aF.length),(18,.slice B1 s.aF.length j1),(5,pt g2)]∧R=[q1,all w]∧H=[HP.own 251 11 (.slice A i k) i ((jR s fa (s.aF.map xK)).take i).flatten,HP.aE g2 249 [.slice A i k],HP.aE g1 30 [.slice A1 n1 k1,.slice A2 n2 k2,.slice A3 n3 k3,.slice A4 n4 k4]]) s.aF.length ⟨0,none,0,by omega,rfl,rfl,rfl,by simp⟩ fun m e R H hI=>?_;obtain⟨i,A,k,hi,rfl,rfl,rfl,rfl⟩:=hI;refine aB ?_;refine aG rfl (fun hlt=>?_) (fun hge=>?_)
 ·have hlt:i < s.aF.length:=by omega
  obtain⟨c,hc⟩:=get_some hlt;obtain⟨a,ha⟩:=get_some (l:=fa) (i:=i) (by omega);obtain⟨b,off,hB,hz,hcell⟩:=aI.tP hsc hcr (Ry hc ha) hlt;subst hB
  have hrow:(jR s fa (s.aF.map xK))[i]? =some (qI c a (xK c)):=Oc (L:=⟨0,none,0,fa⟩) hc ha (by rw[List.getElem?_map,hc];rfl)
  have dB:((jR s fa (s.aF.map xK)).take (i+1)).flatten=((jR s fa (s.aF.map xK)).take i).flatten++qI c a (xK c):=by
   rw[List.take_succ,hrow,List.flatten_append];simp
  have Uh:∀H,aO w [q1,all w] H b (off+i*6) (yU c a):=fun H=>aRT (by simp) hz hcell
  have aSc:=Uh [HP.own 251 11 (.slice A i k) i ((jR s fa (s.aF.map xK)).take i).flatten,HP.aE g2 249 [.slice A i k],HP.aE g1 30 [.slice A1 n1 k1,.slice A2 n2 k2,.slice A3 n3 k3,.slice A4 n4 k4]]
  refine aA ?_;refine kd (dat i (off+i*6)) ?_;refine aB ?_;refine bX fun g3=>?_;obtain⟨kdx,src,rate,mul,dv,lock⟩:=c;dsimp only[yU];refine aB ?_;refine bX fun g4=>?_
  have hfit:=(hH.t.aF i _ hc).2
  dsimp only at hfit;rcases hfit with⟨rfl,_⟩ | ⟨rfl,_⟩ | ⟨rfl,_⟩ | ⟨rfl,_⟩ | ⟨rfl,_⟩
  ·skip
   refine aA ?_;refine iX [2,3,4,5] ?_;refine bJ 0 ?_;refine bJ 1 ?_;refine aK 2 ?_;refine aK 3 ?_;refine aK 4 ?_;refine aK 5 ?_;refine aL 6 ?_;refine eK fun g5=>?_;refine aZ ?_;refine aL 7 ?_;refine iF 3 11 104 1 (el:=251) (by kernel_rfl) (by kernel_rfl) (by decide) rfl rfl rfl (mM 0 rfl rfl) (by simp[Value.oneCell']) rfl (by omega) (by omega) (by decide) fun A' k'=>?_;dsimp only[List.set];refine cE ?_;refine aL 8 ?_;refine bE ?_;refine cE ?_;refine aL 9 ?_;refine bE ?_;refine cE ?_;refine aL 10 ?_;refine eN rfl rfl ?_;dsimp only[List.set];refine cE ?_;refine dW ?_;refine aA ?_;refine aT [3,4,5] rfl (by decide) (fun _ h=>h) ?_;exact eP (s.aF.length - (i+1)) ⟨i+1,A',k',hlt,rfl,rfl,rfl,by rw[dB]⟩
  ·skip
   refine aA ?_;refine iX [2,3,4,5] ?_;refine bJ 0 ?_;refine bJ 1 ?_;refine aK 2 ?_;refine aK 3 ?_;refine aK 4 ?_;refine aK 5 ?_;refine aL 6 ?_;refine eK fun g5=>?_;refine aZ ?_;refine aL 7 ?_;refine iF 3 11 104 1 (el:=251) (by kernel_rfl) (by kernel_rfl) (by decide) rfl rfl rfl (mM 0 rfl rfl) (by simp[Value.oneCell']) rfl (by omega) (by omega) (by decide) fun A' k'=>?_;dsimp only[List.set];refine cE ?_;refine aL 8 ?_;refine bE ?_;refine cE ?_;refine aL 9 ?_;refine bE ?_;refine cE ?_;refine aL 10 ?_;refine eN rfl rfl ?_;dsimp only[List.set];refine cE ?_;refine dW ?_;refine aA ?_;refine aT [3,4,5] rfl (by decide) (fun _ h=>h) ?_;exact eP (s.aF.length - (i+1)) ⟨i+1,A',k',hlt,rfl,rfl,rfl,by rw[dB]⟩
  ·skip
   refine aA ?_;refine iX [2,3,4,5] ?_;refine bJ 0 ?_;refine bJ 1 ?_;refine aK 2 ?_;refine aK 3 ?_;refine aK 4 ?_;refine aK 5 ?_;refine aL 6 ?_;refine eK fun g5=>?_;refine aZ ?_;refine aL 7 ?_;refine iF 3 11 104 1 (el:=251) (by kernel_rfl) (by kernel_rfl) (by decide) rfl rfl rfl (mM 0 rfl rfl) (by simp[Value.oneCell']) rfl (by omega) (by omega) (by decide) fun A' k'=>?_;dsimp only[List.set];refine cE ?_;refine aL 8 ?_;refine bE ?_;refine cE ?_;refine aL 9 ?_;refine bE ?_;refine cE ?_;refine aL 10 ?_;refine eN rfl rfl ?_;dsimp only[List.set];refine cE ?_;refine dW ?_;refine aA ?_;refine aT [3,4,5] rfl (by decide) (fun _ h=>h) ?_;exact eP (s.aF.length - (i+1)) ⟨i+1,A',k',hlt,rfl,rfl,rfl,by rw[dB]⟩
  ·skip
   refine aA ?_;refine iX [2,3,4,5] ?_;refine bJ 0 ?_;refine bJ 1 ?_;refine aK 2 ?_;refine aK 3 ?_;refine aK 4 ?_;refine aK 5 ?_;refine aL 6 ?_;refine eK fun g5=>?_;refine aZ ?_;refine aL 7 ?_;refine iF 3 11 104 1 (el:=251) (by kernel_rfl) (by kernel_rfl) (by decide) rfl rfl rfl (mM 0 rfl rfl) (by simp[Value.oneCell']) rfl (by omega) (by omega) (by decide) fun A' k'=>?_;dsimp only[List.set];refine cE ?_;refine aL 8 ?_;refine bE ?_;refine cE ?_;refine aL 9 ?_;refine bE ?_;refine cE ?_;refine aL 10 ?_;refine eN rfl rfl ?_;dsimp only[List.set];refine cE ?_;refine dW ?_;refine aA ?_;refine aT [3,4,5] rfl (by decide) (fun _ h=>h) ?_;exact eP (s.aF.length - (i+1)) ⟨i+1,A',k',hlt,rfl,rfl,rfl,by rw[dB]⟩
  ·skip
   refine aA ?_;refine iX [2,3,4,5] ?_;refine bJ 0 ?_;refine bJ 1 ?_;refine aK 2 ?_;refine aK 3 ?_;refine aK 4 ?_;refine aK 5 ?_;refine aL 6 ?_;refine eK fun g5=>?_;refine aZ ?_;refine aL 7 ?_;refine iF 3 11 104 1 (el:=251) (by kernel_rfl) (by kernel_rfl) (by decide) rfl rfl rfl (mM 0 rfl rfl) (by simp[Value.oneCell']) rfl (by omega) (by omega) (by decide) fun A' k'=>?_;dsimp only[List.set];refine cE ?_;refine aL 8 ?_;refine bE ?_;refine cE ?_;refine aL 9 ?_;refine bE ?_;refine cE ?_;refine aL 10 ?_;refine eN rfl rfl ?_;dsimp only[List.set];refine cE ?_;refine dW ?_;refine aA ?_;refine aT [3,4,5] rfl (by decide) (fun _ h=>h) ?_;exact eP (s.aF.length - (i+1)) ⟨i+1,A',k',hlt,rfl,rfl,rfl,by rw[dB]⟩
 ·obtain rfl:i=s.aF.length:=by omega
  refine aB ?_
  have hfull:(jR s fa (s.aF.map xK)).take s.aF.length=jR s fa (s.aF.map xK):=List.take_of_length_le (by simp[jR];omega)
  rw[hfull];refine aT [1,0] rfl (by decide) (fun _ h=>h) ?_;refine Jd aC4 (by simp[all]) (Φ:=rR s fa) (hm:=rR.le (s:=s) (fa:=fa)) (fun i c a hc ha=>hfa i c a hc ha) ?_;refine aT [1,2,0] rfl (by decide) (fun _ h=>h) ?_;refine vL ?_;refine dF [] [] [0] (by simp) rfl (by decide) (by decide) fun q _ _ hfr=>?_;exact fQ rfl rfl rfl fun w1 t=>⟨⟨_,_,⟨w1,q.Z⟩,rfl,rfl,⟨⟨g2,A,k,fa⟩,rfl,rfl,hfl⟩,t.newR (by simp) (by simp) (hfr (by simp) (by simp))⟩,t.below (by simp)⟩
end
section
def iP(r:Int)(x:jY):Value:=.agg #[iv r,iv x.left,.bool x.held,.bool x.wanted]
def Ks(s:aC)(st:List jY)(i:Nat):Int×Value:=((i:Int),iP (s.bA.getD i 0) (st.getD i qK))
def nA(s:aC)(st:List jY):List (Int×Value):=(List.range st.length).map (Ks s st)
theorem aF2(f:Nat→Value)(n:Nat)(i:Int):mB ((List.range n).map fun j:Nat=>((j:Int),f j)) i=if bZ n i then some (f i.toNat) else none:=by
 induction n with
 | zero=>
  have:bZ 0 i=false:=decide_eq_false (by omega)
  rw[this];rfl
 | succ n ih =>
  have h0:mB ((List.range (n+1)).map fun j:Nat=>((j:Int),f j)) i=(mB ((List.range n).map fun j:Nat=>((j:Int),f j)) i).or (mB [((n:Int),f n)] i):=by
   rw[List.range_succ,List.map_append];unfold mB;rw[List.find?_append];cases List.find? (fun p=>decide (p.1=i)) ((List.range n).map fun j:Nat=>((j:Int),f j))<;>rfl
  rw[h0,ih]
  by_cases h1:bZ n i=true
  ·have:bZ (n+1) i=true:=by have:=of_decide_eq_true h1;exact decide_eq_true (by omega)
   rw[if_pos h1,if_pos this];rfl
  ·have hf:bZ n i=false:=by simpa using h1
   have:=of_decide_eq_false hf
   rw[if_neg h1,Of]
   by_cases h2:(n:Int)=i
   ·subst h2
    have:bZ (n+1) (n:Int)=true:=decide_eq_true (by omega)
    rw[if_pos rfl,if_pos this];rfl
   ·have h3:bZ (n+1) i=false:=decide_eq_false (by omega)
    rw[if_neg h2,h3];rfl
theorem aMg(f : Nat → Value)(n i : Nat)(v : Value)(hi : i < n) : nL ((List.range n).map fun j : Nat => ((j : Int), f j)) (i : Int) v = (List.range n).map fun j : Nat => ((j : Int), if j = i then v else f j) := by
  have key:∀(l:List Nat),i∈l→l.Nodup→nL (l.map fun j:Nat=>((j:Int),f j)) (i:Int) v=l.map fun j:Nat=>((j:Int),if j=i then v else f j):=by
    intro l
    induction l with
    | nil=>intro h;simp at h
    | cons a l ih =>
      intro h hn;rw[List.map_cons,nL,List.map_cons]
      by_cases ha:(a:Int)=(i:Int)
      · have Bd:a=i:=by omega
        subst Bd;rw[if_pos rfl,if_pos rfl]
        congr 1
        refine List.map_congr_left fun j hj=>?_;rw[if_neg (fun he:j=a=>(List.nodup_cons.1 hn).1 (he▸hj))]
      · rw[if_neg ha,if_neg (by omega)]
        congr 1
        exact ih (by rcases List.mem_cons.1 h with h | h
                     · omega
                     · exact h) (List.nodup_cons.1 hn).2
  exact key _ (List.mem_range.2 hi) List.nodup_range
theorem aF3{s:aC}{st:List jY}(i:Int):mB (nA s st) i=if bZ st.length i then some (iP (s.bA.getD i.toNat 0) (st.getD i.toNat qK)) else none:=aF2 (fun j=>iP (s.bA.getD j 0) (st.getD j qK)) st.length i
theorem aBU{s:aC}{st:List jY}{i:Nat}{x:jY}{r:Int}(hr:s.bA.getD i 0=r)(hi:i < st.length):nL (nA s st) (i:Int) (iP r x)=nA s (st.set i x):=by
 have:=aMg (fun j=>iP (s.bA.getD j 0) (st.getD j qK)) st.length i (iP r x) hi
 refine this.trans ?_;unfold nA;rw[List.length_set];refine List.map_congr_left fun j hj=>?_;unfold Ks
 congr 1
 by_cases he:j=i
 ·subst he;rw[if_pos rfl,←hr,List.getD_eq_getElem?_getD (l:=st.set j x),List.getElem?_set_self hi];rfl
 ·rw[if_neg he,List.getD_eq_getElem?_getD (l:=st.set i x),List.getElem?_set_ne (Ne.symm he),List.getD_eq_getElem?_getD (l:=st)]
structure RL where
 t:Nat
 g:Nat
def oL(L:RL)(s:aC)(st:List jY):HP:=HP.many [HP.aE L.t 259 [.map (some L.g)],HP.map L.g (nA s st)]
structure Jn(w:World)(L:RL)(s:aC)(st:List jY):Prop where
 r0:fS w L.t 0 (.map (some L.g))
 m:vP w L.g (nA s st)
theorem Jn.below{w w':World}{L:RL}{s:aC}{st:List jY}(h:Jn w L s st)(hb:Below w.heap.size w w'):Jn w' L s st:=
 ⟨⟨Nat.lt_of_lt_of_le h.r0.1 hb.size,(hb.cell (p:=⟨_,0,none⟩) h.r0.1).trans h.r0.2⟩,h.m.below hb⟩
section
variable{N:cF}{w0 w:World}{e:Env}{R:List Piece}{H:List HP}{K:Act→World→Prop}{L:RL}{s:aC}{st:List jY}
theorem aIs{F:Nat→Prop}(h:(oL L s st).sat F w):Jn w L s st:=by
 obtain⟨G,g1,g2,_⟩:=h
 have h0:=g1 0 _ rfl
 exact⟨⟨h0.2.lt,by rw[h0.2.cell];rfl⟩,(g1 1 _ rfl).2⟩
theorem St.On(t:St w0 R H w)(i:Nat)(hi:H[i]? =some (oL L s st)):Jn w L s st:=by
 obtain⟨F,h1,h2,_⟩:=t.chunk hi;exact aIs h1
end
theorem aFA:(Tryz.prog.info? 261).bind (·.zero)=some (iP 0 ⟨0,false,false⟩):=by kernel_rfl
def sQ(s:aC)(st:List jY)(i:Int):Value:=if bZ st.length i then iP (s.bA.getD i.toNat 0) (st.getD i.toNat qK) else iP 0 ⟨0,false,false⟩
theorem aOo(s:aC)(st:List jY)(i:Int):∃r x,sQ s st i=iP r x:=by
 unfold sQ;split
 ·exact⟨_,_,rfl⟩
 ·exact⟨_,_,rfl⟩
theorem Sz(L:RL)(s:aC)(st:List jY)(i:Int)(w:World)(hR:Jn w L s st):
  Cz 189 #[.pointer (some ⟨L.t,0,none⟩),iv i] w (Rt (.tuple #[sQ s st i,.bool (bZ st.length i)]) w):=by
 have h0:=hR.r0
 obtain⟨r,x,hv⟩:=aOo s st i
 have hm:=aF3 (s:=s) (st:=st) i
 have hz:(mB (nA s st) i).getD (iP 0 ⟨0,false,false⟩)=iP r x:=by
  rw[hm,←hv,sQ];split<;>rfl
 have hb:(mB (nA s st) i).isSome=bZ st.length i:=by
  rw[hm];split
  ·rename_i h;rw[h];rfl
  ·rename_i h;simp at h;rw[h];rfl
 rw[hv];refine aN func189 ntmps189 ?_;refine aA ?_;refine bX fun g1=>?_;refine aA ?_;refine Yc (kt:=3) (et:=261) (kd:=.i64) (z:=iP 0 ⟨0,false,false⟩) (l:=nA s st) true (by kernel_rfl) (by kernel_rfl) aFA rfl rfl (fun w1 t=>(hR.below (t.below (by simp))).m) (by decide) ?_;simp only[if_true];rw[hz,hb];refine aA ?_;refine bX fun g2=>?_;unfold iP;refine aA ?_;exact yY rfl (by kernel_rfl) rfl rfl (by first | assumption | exact aO.whole 0 rfl | exact aO.whole 1 rfl | exact aO.whole 2 rfl | exact aO.whole 3 rfl | exact aO.whole 4 rfl | exact aO.whole 5 rfl | exact aO.whole 6 rfl | exact aO.whole 7 rfl | exact aO.whole 8 rfl | exact xQ (by simp) (by assumption)) rfl fun w1 t=>⟨rfl,t.below (by simp)⟩
theorem aEL(L:RL)(s:aC)(st:List jY)(i:Int)(w:World)(hR:Jn w L s st):
  Cz 149 #[.pointer (some ⟨L.t,0,none⟩),iv i] w (Rt (.bool (Ig st i)) w):=by
 refine aN func149 ntmps149 ?_;refine aA ?_;refine aU (fun w1 t=>Sz L s st i w1 (hR.below (t.below (by simp)))) ?_;refine aA ?_;refine bX fun g2=>?_;cases hi:bZ st.length i
 ·have hv:sQ s st i=iP 0 ⟨0,false,false⟩:=by simp[sQ,hi]
  rw[hv];unfold iP;refine aA ?_;refine jI (by simp) ?_;simp[Ig,hi]
 ·have hv:sQ s st i=iP (s.bA.getD i.toNat 0) (st.getD i.toNat qK):=by simp[sQ,hi]
  rw[hv];unfold iP;refine aA ?_;refine jI (by simp) ?_
  have:i.toNat < st.length:=by have:=of_decide_eq_true hi;omega
  simp[Ig,hi,List.getElem?_eq_getElem this]
end
section
theorem aGI:∀{cl:List Dom} {rs:List (List Value)},Rows tI 3 cl rs→rs=cl.map fun d=>[iv d.above,iv d.delay,.bool d.ret]
 | [],[],_=>rfl
 | e::es,r::rs,h=>by
  have h1:r=[iv e.above,iv e.delay,.bool e.ret]:=h.2.1
  rw[h1,aGI h.2.2];rfl
theorem aEK:∀{cl:List Int} {rs:List (List Value)},Rows xO 1 cl rs→rs=cl.map fun d=>[iv d]
 | [],[],_=>rfl
 | e::es,r::rs,h=>by
  have h1:r=[iv e]:=h.2.1
  rw[h1,aEK h.2.2];rfl
def aI0(s:aC)(v:Value)(hs:List HP)(_:Piece):Prop:=∃L:GL,v=.tuple #[.pointer (some ⟨L.t,0,none⟩),iv 0]∧hs=[uP L s (s.domains.map fun _=>xG)]
theorem aLv(s:aC)(hH:s.dJ)(A1 A2 A3 A4:Option Addr)(n1 k1 n2 k2 n3 k3 n4 k4:Nat)(w:World)(hW:iD w s A1 n1 A2 n2 A3 n3 A4 n4):
  Cz 100 #[.agg #[.slice A1 n1 k1,.slice A2 n2 k2,.slice A3 n3 k3,.slice A4 n4 k4]] w (fun y w'=>(∃v hs q,y=.returned v∧q.w=w'∧aI0 s v hs q∧gI w hs q)∧Below w.heap.size w w'):=by
 have hnd:=hH.t.nd
 obtain⟨rd,hrd,hn2,hsd⟩:=hW.dom
 have hrd:=aGI hrd
 subst hrd;subst hn2
 have lB:(s.domains.map fun _=>xG).length=s.domains.length:=by simp
 refine aN func100 ntmps100 ?_;refine aA ?_;refine bN fun g1=>?_;refine aA ?_;refine aU (fun w1 t=>Qt s A1 A2 A3 A4 n1 k1 _ k2 n3 k3 n4 k4 w1 (hW.le (t.started (by simp))) hH.t.Qs) ?_;refine aA ?_;refine kd (iN rfl) ?_;refine bN fun g2=>?_;refine aA ?_;refine lU 256 7 ?_;refine bL [(18,iv 0),(17,iv s.domains.length),(16,.slice A2 s.domains.length k2),(5,pt g2)] ?_;refine eV (fun m e R H=>∃(i:Nat) (A:Option Addr) (k:Nat),i≤s.domains.length∧m=s.domains.length - i∧e=[(18,iv i),(17,iv s.domains.length),(16,.slice A2 s.domains.length k2),(5,pt g2)]∧R=[all w]∧H=[HP.own 256 7 (.slice A i k) i ((oY s (s.domains.map fun _=>xG)).take i).flatten,HP.aE g2 254 [.slice A i k],HP.aE g1 30 [.slice A1 n1 k1,.slice A2 s.domains.length k2,.slice A3 n3 k3,.slice A4 n4 k4]]) s.domains.length ⟨0,none,0,by omega,rfl,rfl,rfl,by simp⟩ fun m e R H hI=>?_;obtain⟨i,A,k,hi,rfl,rfl,rfl,rfl⟩:=hI;refine aA ?_;refine aG rfl (fun hlt=>?_) (fun hge=>?_)
 ·have hlt:i < s.domains.length:=by omega
  obtain⟨c,hc⟩:=get_some hlt;obtain⟨b,off,hB,hro⟩:=aI.row hsd (fun r hr=>by obtain⟨q,_,rfl⟩:=List.mem_map.1 hr;rfl) (r:=[iv c.above,iv c.delay,.bool c.ret]) (by rw[List.getElem?_map,hc];rfl) hlt;subst hB
  have hrow:(oY s (s.domains.map fun _=>xG))[i]? =some (nY c xG):=Is hc (by rw[List.getElem?_map,hc];rfl)
  have dB:((oY s (s.domains.map fun _=>xG)).take (i+1)).flatten=((oY s (s.domains.map fun _=>xG)).take i).flatten++nY c xG:=by
   rw[List.take_succ,hrow,List.flatten_append];simp
  refine aA ?_;refine kd (dat i (off+i*3)) ?_;refine aA ?_;refine bX fun g3=>?_;refine aA ?_;refine iX [2,3,4,5,6] ?_;refine bJ 0 ?_;refine bJ 1 ?_;refine aK 2 ?_;refine aK 3 ?_;refine aK 4 ?_;refine aK 5 ?_;refine aK 6 ?_ (cM:=kS (zs:=[iv 0,iv 0,.bool false,.int .u8 0,iv 0,.bool false,.bool false]) (L:=[(0,3),(3,1),(4,1),(5,1),(6,1)]) (gY (by kernel_rfl)) (by kernel_rfl) rfl (by simp[fB,gB,Value.cells];rfl));refine aL 7 ?_;refine eK fun g5=>?_;refine aZ ?_;refine aL 8 ?_;refine iF 2 7 48 1 (el:=256) (by kernel_rfl) (by kernel_rfl) (by decide) rfl rfl rfl (mM 0 rfl rfl) (by simp[Value.oneCell']) rfl (by omega) (by omega) (by decide) fun A' k'=>?_;dsimp only[List.set];refine cE ?_;refine aL 9 ?_;refine bE ?_;refine cE ?_;refine aL 10 ?_;refine bE ?_;refine cE ?_;refine aL 11 ?_;refine eN rfl rfl ?_;dsimp only[List.set];refine cE ?_;refine dW ?_;refine aA ?_;refine aT [2,3,4] rfl (by decide) (fun _ h=>h) ?_;exact eP (s.domains.length - (i+1)) ⟨i+1,A',k',hlt,rfl,rfl,rfl,by rw[dB]⟩
 ·obtain rfl:i=s.domains.length:=by omega
  refine aA ?_
  have hfull:(oY s (s.domains.map fun _=>xG)).take s.domains.length=oY s (s.domains.map fun _=>xG):=List.take_of_length_le (by simp[oY])
  rw[hfull];refine aT [1,0] rfl (by decide) (fun _ h=>h) ?_;refine mU ?_;refine dF [] [] [0] (by simp) rfl (by decide) (by decide) fun q _ _ hfr=>?_;exact fQ rfl rfl rfl fun w1 t=>⟨⟨_,_,⟨w1,q.Z⟩,rfl,rfl,⟨⟨g2,A,k⟩,rfl,rfl⟩,t.newR (by simp) (by simp) (hfr (by simp) (by simp))⟩,t.below (by simp)⟩
theorem aII{N:cF}{w0:World}{e:Env}{R:List Piece}{H:List HP}{Q:Exit→Act→World→Prop}{ops:Array Oper}{rest:List Oper}{d:Nat}{ty:TypeId}{pos:String}{aH:Array Edge}{x:Operand}{n:Int}{t kt et:TypeId}(ht:Tryz.prog.underlying t=some (.map kt et))(hx:e.ev x=some (iv n))(hd:d < N.n)(k:∀g,XK N w0 (wpList Tryz.prog ops Q rest) ((d,.map (some g))::e) R (HP.map g []::H)):XK N w0 (wpList Tryz.prog ops Q (⟨some d,.makeMap t (some x),ty,pos,aH,none⟩::rest)) e R H:=
 rW rfl fun a w hr st=>⟨.map (some w.heap.size),w.alloc (.map #[] 0),by simp[execOp,Instr.makeMap,hr.ev hx,run_underlying ht,asInt,asIntOf],k w.heap.size _ _ (hr.put hd _) (st.new (Qy w _) ⟨⟨Nat.le_refl _,by simp⟩,#[],0,heap_alloc_new w _,rfl⟩)⟩
def aIr(s:aC)(v:Value)(hs:List HP)(_:Piece):Prop:=∃L:RL,v=.tuple #[.pointer (some ⟨L.t,0,none⟩),iv 0]∧hs=[oL L s (s.bA.map fun _=>qK)]
theorem aMf(l:List (Int×Value))(k:Int)(v:Value)(h:mB l k=none):nL l k v=l++[(k,v)]:=by
 induction l with
 | nil=>rfl
 | cons p l ih =>
  obtain⟨a,b⟩:=p;rw[Of] at h;rw[nL];split at h
  ·cases h
  ·rename_i hne
   rw[if_neg hne,ih h];rfl
theorem aKy(s:aC)(hH:s.dJ)(A1 A2 A3 A4:Option Addr)(n1 k1 n2 k2 n3 k3 n4 k4:Nat)(w:World)(hW:iD w s A1 n1 A2 n2 A3 n3 A4 n4):
  Cz 101 #[.agg #[.slice A1 n1 k1,.slice A2 n2 k2,.slice A3 n3 k3,.slice A4 n4 k4]] w (fun y w'=>(∃v hs q,y=.returned v∧q.w=w'∧aIr s v hs q∧gI w hs q)∧Below w.heap.size w w'):=by
 have gF:=hH.t.nr
 obtain⟨rr,cP,sL,hst⟩:=hW.yI
 have cP:=aEK cP
 subst cP;subst sL
 have nW:(s.bA.map fun _=>qK).length=s.bA.length:=by simp
 refine aN func101 ntmps101 ?_;refine aA ?_;refine bN fun g1=>?_;refine aA ?_;refine aU (fun w1 t=>Qt s A1 A2 A3 A4 n1 k1 n2 k2 _ k3 n4 k4 w1 (hW.le (t.started (by simp))) hH.t.Qs) ?_;refine aA ?_;refine aII (kt:=3) (et:=261) (by kernel_rfl) rfl (by decide) fun gm=>?_;refine kd (iN rfl) ?_;refine bN fun g2=>?_;refine aA ?_;refine bL [(22,iv 0),(21,iv s.bA.length),(20,.slice A3 s.bA.length k3),(5,pt g2)] ?_;refine eV (fun m e R H=>∃i:Nat,i≤s.bA.length∧m=s.bA.length - i∧e=[(22,iv i),(21,iv s.bA.length),(20,.slice A3 s.bA.length k3),(5,pt g2)]∧R=[all w]∧H=[HP.aE g2 259 [.map (some gm)],HP.map gm ((List.range i).map (Ks s (s.bA.map fun _=>qK))),HP.aE g1 30 [.slice A1 n1 k1,.slice A2 n2 k2,.slice A3 s.bA.length k3,.slice A4 n4 k4]]) s.bA.length ⟨0,by omega,rfl,rfl,rfl,rfl⟩ fun m e R H hI=>?_;obtain⟨i,hi,rfl,rfl,rfl,rfl⟩:=hI;refine aA ?_;refine aG rfl (fun hlt=>?_) (fun hge=>?_)
 ·have hlt:i < s.bA.length:=by omega
  obtain⟨c,hc⟩:=get_some hlt;obtain⟨b,off,hB,hro⟩:=aI.row hst (fun r hr=>by obtain⟨q,_,rfl⟩:=List.mem_map.1 hr;rfl) (r:=[iv c]) (by rw[List.getElem?_map,hc];rfl) hlt;subst hB
  have lK:nL ((List.range i).map (Ks s (s.bA.map fun _=>qK))) (i:Int) (iP c qK)=(List.range (i+1)).map (Ks s (s.bA.map fun _=>qK)):=by
   rw[aMf _ _ _ (by
    have:=aF2 (fun j=>iP (s.bA.getD j 0) ((s.bA.map fun _=>qK).getD j qK)) i (i:Int)
    rw[if_neg (by simp[bZ])] at this
    exact this),List.range_succ,List.map_append]
   congr 1
   simp[Ks,List.getD_eq_getElem?_getD,hc]
  refine aA ?_;refine kd (dat i (off+i*1)) ?_;refine aA ?_;refine bX fun g3=>?_;refine aA ?_;refine iX [1,2,3,5,6,7] ?_;refine bJ 0 ?_;refine aK 1 ?_;refine aK 2 ?_;refine aK 3 ?_;refine bJ 4 ?_;refine aK 5 ?_;refine aK 6 ?_;refine aK 7 ?_ (cM:=kS (zs:=[iv 0,iv 0,.bool false,.bool false]) (L:=[(0,1),(1,1),(2,1),(3,1)]) (gY (by kernel_rfl)) (by kernel_rfl) rfl (by simp[fB,gB,Value.cells];rfl));refine aL 8 ?_;refine Gw (kt:=3) (et:=261) (kd:=.i64) (l:=(List.range i).map (Ks s (s.bA.map fun _=>qK))) (v:=iP c qK) 2 (by kernel_rfl) (by kernel_rfl) rfl rfl rfl rfl ?_;rw[lK];dsimp only[List.set];refine cE ?_;refine dW ?_;refine aA ?_;refine aT [1,2,3] rfl (by decide) (fun _ h=>h) ?_;exact eP (s.bA.length - (i+1)) ⟨i+1,hlt,rfl,rfl,rfl,rfl⟩
 ·obtain rfl:i=s.bA.length:=by omega
  refine aA ?_;refine mU ?_;refine dF [] [] [0] (by simp) rfl (by decide) (by decide) fun q _ _ hfr=>?_;exact fQ rfl rfl rfl fun w1 t=>⟨⟨_,_,⟨w1,q.Z⟩,rfl,rfl,⟨⟨g2,gm⟩,rfl,by simp[oL,nA]⟩,t.newR (by simp) (by simp) (hfr (by simp) (by simp))⟩,t.below (by simp)⟩
end
section
structure iY where
 id:Int
 wr:Bool
 bY:Int
 val:Int
def iY.cells(t:iY):List Value:=[iv t.id,.bool t.wr,iv t.bY,.int .u32 t.val]
def QH(v:Value):Option iY→HP
 | none=>Mz (∃A,v=.slice A 0 0)
 | some t=>HP.own 306 4 v 1 t.cells
structure BL where
 b:Nat
 gr:Nat
 gw:Nat
def oM(ws:List (Option iY))(i:Nat):Nat:=if((ws[i]?).join).isSome then 1 else 0
def aD9(g n:Nat)(ws:List (Option iY)):HP:=HP.ex fun vs:List Value=>HP.many (HP.aE g 311 vs::Mz (vs.length=n)::(List.range n).map fun i=>QH (vs.getD i undef) (ws[i]?).join)
def xW(L:BL)(ms:List Int)(ws:List (Option iY))(bB:Int):HP:=HP.many [HP.aE L.b 269 [.slice (some ⟨L.gr,0,none⟩) ms.length ms.length,.slice (some ⟨L.gw,0,none⟩) ms.length ms.length,iv bB],HP.aE L.gr 3 (aM ms),aD9 L.gw ms.length ws]
structure Gv(w:World)(L:BL)(ms:List Int)(ws:List (Option iY))(bB:Int):Prop where
 r0:dU w L.b 0 [.slice (some ⟨L.gr,0,none⟩) ms.length ms.length,.slice (some ⟨L.gw,0,none⟩) ms.length ms.length,iv bB]
 rg:dU w L.gr 0 (aM ms)
 wt:∀i,i < ms.length→∃A c,fS w L.gw i (.slice A (oM ws i) c)
theorem Gv.below{w w':World}{L:BL}{ms:List Int}{ws:List (Option iY)}{bB:Int}(h:Gv w L ms ws bB)(hb:Below w.heap.size w w'):Gv w' L ms ws bB:=
 ⟨h.r0.below hb,h.rg.below hb,fun i hi=>by
  obtain⟨A,c,h1,h2⟩:=h.wt i hi
  exact⟨A,c,Nat.lt_of_lt_of_le h1 hb.size,(hb.cell (p:=⟨_,i,none⟩) h1).trans h2⟩⟩
theorem aIA{L:BL}{ms:List Int}{ws:List (Option iY)}{bB:Int}{F:Nat→Prop}{w:World}(h:(xW L ms ws bB).sat F w):Gv w L ms ws bB:=by
 obtain⟨G,g1,g2,_⟩:=h;refine⟨uI (g1 0 _ rfl).2,uI (g1 1 _ rfl).2,fun i hi=>?_⟩;obtain⟨vs,G',k1,_,_⟩:=g1 2 _ rfl
 have hb:=uI (k1 0 _ rfl).2
 have hl:vs.length=ms.length:=k1 1 _ rfl
 obtain⟨v,hv⟩:=get_some (l:=vs) (i:=i) (by omega)
 have hq:=k1 (i+2) (QH (vs.getD i undef) (ws[i]?).join) (by
  rw[List.getElem?_cons_succ,List.getElem?_cons_succ,List.getElem?_map,List.getElem?_range hi];rfl)
 rw[List.getD_eq_getElem?_getD,hv] at hq
 have hc:=hb.at_ hv
 rw[Nat.zero_add] at hc;unfold oM;cases hj:(ws[i]?).join with
 | none=>
  rw[hj] at hq;obtain⟨A,hA⟩:∃A,v=.slice A 0 0:=hq;subst hA;exact⟨A,0,hc⟩
 | some t=>
  rw[hj] at hq;obtain⟨A,c,hA,_⟩:=zF (Y:=fun _=>True) hq (fun _ _=>trivial)
  have hA:v=.slice A 1 c:=hA
  subst hA;exact⟨A,c,hc⟩
section
variable{N:cF}{w0 w:World}{e:Env}{R:List Piece}{H:List HP}{K:Act→World→Prop}{L:BL}{ms:List Int}{ws:List (Option iY)}{bB:Int}
theorem St.aHn(t:St w0 R H w)(i:Nat)(hi:H[i]? =some (xW L ms ws bB)):Gv w L ms ws bB:=by
 obtain⟨F,h1,h2,_⟩:=t.chunk hi;exact aIA h1
end
theorem aA8(L:BL)(ms:List Int)(ws:List (Option iY))(bB:Int)(i:Int)(w:World)(hR:Gv w L ms ws bB):
  Cz 193 #[.pointer (some ⟨L.b,0,none⟩),iv i] w (Rt (.bool (bZ ms.length i)) w):=by
 have k0:=hR.r0.at_ (j:=0) rfl
 refine aN func193 ntmps193 ?_;refine aA ?_;refine bT (t:=11) rfl (fun h=>?_) (fun h=>?_)
 ·refine aA ?_;refine jI (by simp) ?_;unfold bZ
  congr 1
  simp;omega
 ·refine aA ?_;refine jI (by simp) ?_
  have:bZ ms.length i=false:=decide_eq_false (by omega)
  rw[this]
theorem aHl(L:BL)(ms:List Int)(ws:List (Option iY))(bB:Int)(i:Nat)(hi:i < ms.length)(w:World)(hR:Gv w L ms ws bB):
  Cz 153 #[.pointer (some ⟨L.b,0,none⟩),iv (i:Int)] w (Rt (iv (oM ws i:Nat)) w):=by
 have k1:=hR.r0.at_ (j:=1) rfl
 obtain⟨A,c,hw⟩:=hR.wt i hi
 have hin:bZ ms.length (i:Int)=true:=decide_eq_true (by omega)
 refine aN func153 ntmps153 ?_;refine aA ?_;refine aU (fun w1 t=>aA8 L ms ws bB i w1 (hR.below (t.below (by simp)))) ?_;rw[hin];refine aB ?_;exact dI
def aI9(ms:List Int)(v:Value)(hs:List HP)(_:Piece):Prop:=∃L:BL,v=.tuple #[.pointer (some ⟨L.b,0,none⟩),iv 0]∧hs=[xW L ms (ms.map fun _=>none) 0]
theorem aJp{N:cF}{w0:World}{e:Env}{R:List Piece}{H:List HP}{K:Act→World→Prop}{g n:Nat}{β:Type}(l:List β)(hl:l.length=n)(i:Nat)(hi:H[i]? =some (HP.aE g 311 (List.replicate n (sn))))(h:XK N w0 K e R (H.set i (aD9 g n (l.map fun _=>none)))):XK N w0 K e R H:=by
 refine oZ (q:=aD9 g n (l.map fun _=>none)) i hi (fun F w hs=>⟨List.replicate n (sn),fun k b=>k=0∧F b,fun k p hk=>?_,fun k b h=>h.2,fun k j b hkj h1 h2=>by have:=h1.1;have:=h2.1;omega⟩) h
 match k,hk with
 | 0,hk=>
  simp at hk;subst hk
  show(HP.aE g 311 (List.replicate n (sn))).sat (fun b=>0=0∧F b) w
  rw[show(fun b=>0=0∧F b)=F by funext b;simp];exact hs
 | 1,hk=>cases hk;show(List.replicate n (Value.slice none 0 0)).length=n;simp
 | k + 2, hk =>
  rw[List.getElem?_cons_succ,List.getElem?_cons_succ,List.getElem?_map] at hk;cases hr:(List.range n)[k]? with
  | none=>rw[hr] at hk;cases hk
  | some j =>
   rw[hr] at hk
   have hj:j < n:=List.mem_range.1 (List.mem_of_getElem? hr)
   have:((l.map fun _=>(none:Option iY))[j]?).join=none:=by
    rw[List.getElem?_map];cases l[j]? <;>rfl
   simp only[Option.map_some,Option.some.injEq,this] at hk;subst hk;refine⟨none,?_⟩;rw[List.getD_eq_getElem?_getD,List.getElem?_replicate,if_pos hj];rfl
theorem aQu(ms:List Int)(hml:ms.length≤6)(hm:∀m∈ms,0≤m∧m≤8)(A:Option Addr)(c:Nat)(w:World)(hs:aI (all w) 1 A ms.length (aM ms)):
  Cz 105 #[.slice A ms.length c] w (fun y w'=>(∃v hs q,y=.returned v∧q.w=w'∧aI9 ms v hs q∧gI w hs q)∧Below w.heap.size w w'):=by
 refine aN func105 ntmps105 ?_;refine eA ?_;refine fR ?_;refine bE ?_;refine bE ?_;refine fD ?_;refine eA ?_;refine eA ?_;refine fR ?_;refine bE ?_;refine bE ?_;refine bE ?_;refine aB ?_;refine aG rfl (fun h=>absurd h (by omega)) (fun _=>?_);refine oA ?_;refine eB ?_;refine Rj (fun e R H=>∃gr gw g3,e=[(4,pt g3),(0,.slice A ms.length c)]∧R=[all w]∧H=[HP.aE g3 269 [.slice (some ⟨gr,0,none⟩) ms.length ms.length,.slice (some ⟨gw,0,none⟩) ms.length ms.length,iv 0],HP.aE gr 3 (List.replicate ms.length (iv 0)),HP.aE gw 311 (List.replicate ms.length (sn))]) ?_ ?_
 ·refine qP 6 (by kernel_rfl) (by kernel_rfl) ?_;refine bP 0 ?_;refine bP 1 ?_;refine bP 3 ?_;refine bP 4 ?_;refine Ji 2 5 rfl rfl (by kernel_rfl) ?_ ?_
  ·refine lY (n:=ms.length) 8 (el:=3) (z:=iv 0) (by kernel_rfl) (by kernel_rfl) rfl rfl rfl (by omega) (by omega) (by decide) fun gr=>?_;refine mV ?_;refine cJ 5 ?_;refine lY (n:=ms.length) 24 (el:=311) (z:=sn) (by kernel_rfl) (by kernel_rfl) rfl rfl rfl (by omega) (by omega) (by decide) fun gw=>?_;refine mV ?_;refine cJ 6 ?_;refine kd (iN rfl) ?_;refine eR ?_;refine cJ 7 ?_;refine bN fun g3=>?_;refine eR ?_;refine cJ 8 ?_;refine bE ?_;refine eR ?_;refine kJ ?_;refine eB ?_;exact nR ⟨gr,gw,g3,rfl,rfl,rfl⟩
  ·refine lY (n:=ms.length) 24 (el:=311) (z:=sn) (by kernel_rfl) (by kernel_rfl) rfl rfl rfl (by omega) (by omega) (by decide) fun gw=>?_;refine mV ?_;refine cJ 2 ?_;refine lY (n:=ms.length) 8 (el:=3) (z:=iv 0) (by kernel_rfl) (by kernel_rfl) rfl rfl rfl (by omega) (by omega) (by decide) fun gr=>?_;refine mV ?_;refine cJ 6 ?_;refine kd (iN rfl) ?_;refine eR ?_;refine cJ 7 ?_;refine bN fun g3=>?_;refine eR ?_;refine cJ 8 ?_;refine bE ?_;refine eR ?_;refine kJ ?_;refine eB ?_;exact nR ⟨gr,gw,g3,rfl,rfl,rfl⟩
 rintro _ _ _ ⟨gr,gw,g3,rfl,rfl,rfl⟩;refine aB ?_;refine bL [(20,iv 0),(19,iv ms.length),(18,.slice A ms.length c),(4,pt g3)] ?_
 refine eV (fun m e R H=>∃i:Nat,i≤ms.length∧m=ms.length - i∧e=[(20,iv i),(19,iv ms.length),(18,.slice A ms.length c),(4,pt g3)]∧R=[all w]∧H=[HP.aE g3 269 [.slice (some ⟨gr,0,none⟩) ms.length ms.length,.slice (some ⟨gw,0,none⟩) ms.length ms.length,iv 0],HP.aE gr 3 (aM (kF ms (ms.map fun _=>0) i)),HP.aE gw 311 (List.replicate ms.length (sn))]) ms.length ⟨0,by omega,rfl,rfl,rfl,by
  rw[Ts]
  have:List.replicate ms.length (Value.int .i64 0)=aM (ms.map fun _=>0):=by
   refine List.ext_getElem? fun j=>?_;simp only[aM,List.map_map,List.getElem?_replicate,List.getElem?_map]
   by_cases h:j < ms.length
   ·rw[if_pos h,List.getElem?_eq_getElem h];rfl
   ·rw[if_neg h,List.getElem?_eq_none (by omega)];rfl
  rw[this]⟩ fun m e R H hI=>?_
 obtain⟨i,hi,rfl,rfl,rfl,rfl⟩:=hI
 have Un:=Tu (vs:=ms) (old:=ms.map fun _=>0) (n:=ms.length) rfl (by simp) hi
 refine aB ?_;refine aG rfl (fun hlt=>?_) (fun hge=>?_)
 ·have hlt:i < ms.length:=by omega
  obtain⟨v,hv⟩:=get_some hlt
  have hvb:=hm v (List.mem_of_getElem? hv)
  obtain⟨b,off,hB,hz,hc⟩:=hs.2 (by omega);subst hB
  have hro:fS w b (off+i) (iv v):=⟨hz,hc i _ (by simp[aM,hv])⟩
  have jT:(aM (kF ms (ms.map fun _=>0) i)).length=ms.length:=by simp[aM,Un]
  have lK:(aM (kF ms (ms.map fun _=>0) i)).set i (iv v)=aM (kF ms (ms.map fun _=>0) (i+1)):=by
   rw[←Tt (by simp) hv,aM,aM,List.map_set]
  refine aA ?_;refine kd (dat i (off+i)) ?_;refine aB ?_;refine bT (t:=27) rfl (fun h=>absurd h (by omega)) (fun _=>?_);refine aB ?_;refine aG rfl (fun h=>absurd h (by omega)) (fun _=>?_);refine aB ?_;rw[lK];refine aB ?_;exact eP (ms.length - (i+1)) ⟨i+1,hlt,rfl,rfl,rfl,rfl⟩
 ·obtain rfl:i=ms.length:=by omega
  rw[Tv rfl (by simp)];refine aB ?_;refine aJp ms rfl 2 rfl ?_;dsimp only[List.set];refine vL ?_;refine dF [] [] [0] (by simp) rfl (by decide) (by decide) fun q _ _ hfr=>?_;exact fQ rfl rfl rfl fun w1 t=>⟨⟨_,_,⟨w1,q.Z⟩,rfl,rfl,⟨⟨g3,gr,gw⟩,rfl,rfl⟩,t.newR (by simp) (by simp) (hfr (by simp) (by simp))⟩,t.below (by simp)⟩
end
section
structure aS where
 ck:List eM
 dm:List fT
 ln:List jY
 dv:List (dS×fF)
 wt:List (Option iY)
 bB:Int
def hw0(s:aC):aS:=⟨s.aF.map xK,s.domains.map fun _=>xG,s.bA.map fun _=>qK,s.aD.map fun d=>(Dl d,Ny),s.aD.map fun _=>none,0⟩
structure HL where
 h:Nat
 T:TL
 G:GL
 R:RL
 B:BL
 A:Option Addr
 c:Nat
 ds:List (FL×Nat)
def Ir(d:cH)(l:FL×Nat):List Value:=[iv d.clock,iv d.domain,iv d.reset,.int .u32 d.iH,.pointer (some ⟨l.1.f,0,none⟩),.pointer (some ⟨l.2,0,none⟩)]
def vG(ds:List cH)(ls:List (FL×Nat)):List (List Value):=List.zipWith Ir ds ls
def Qg(d:cH)(p:(FL×Nat)×(dS×fF)):HP:=HP.many [gR p.1.1 d p.2.1,tF p.1.2 p.2.2]
def xE(ds:List cH)(ls:List (FL×Nat))(xs:List (dS×fF)):List HP:=List.zipWith Qg ds (ls.zip xs)
def jS(s:aC):List Int:=s.aD.map fun d=>(d.aR.length:Int)
def Vf(L:HL)(n:Nat):List Value:=[.pointer (some ⟨L.T.t,0,none⟩),.pointer (some ⟨L.G.t,0,none⟩),.pointer (some ⟨L.R.t,0,none⟩),.pointer (some ⟨L.B.b,0,none⟩),.slice L.A n L.c]
def dM(L:HL)(s:aC)(x:aS):HP:=HP.many [HP.aE L.h 203 (Vf L s.aD.length),pF L.T s x.ck,uP L.G s x.dm,oL L.R s x.ln,xW L.B (jS s) x.wt x.bB,HP.own 210 6 (.slice L.A s.aD.length L.c) s.aD.length (vG s.aD L.ds).flatten,HP.many (xE s.aD L.ds x.dv)]
def aIt(s:aC)(v:Value)(hs:List HP)(_:Piece):Prop:=∃L:HL,v=.tuple #[.pointer (some ⟨L.h,0,none⟩),iv 0]∧hs=[dM L s (hw0 s)]∧L.T.fa.length=s.aF.length∧L.ds.length=s.aD.length
theorem Ev(s:aC):(jS s).length=s.aD.length:=by simp[jS]
theorem aOF{ds:List cH}{i:Nat}{d:cH}(hd:ds[i]? =some d){ls:List (FL×Nat)}(hl:ls.length=i)(l:FL×Nat):xE (ds.take (i+1)) (ls++[l]) ((ds.take (i+1)).map fun d=>(Dl d,Ny))=xE (ds.take i) ls ((ds.take i).map fun d=>(Dl d,Ny))++[Qg d (l,(Dl d,Ny))]:=by
 have hlt:i < ds.length:=wU hd
 rw[List.take_succ,hd,Option.toList_some,List.map_append];unfold xE;rw[List.zip_append (by simp;omega),List.zipWith_append (by simp;omega)];rfl
theorem aOE{ds:List cH}{i:Nat}{d:cH}(hd:ds[i]? =some d){ls:List (FL×Nat)}(hl:ls.length=i)(l:FL×Nat):(vG (ds.take (i+1)) (ls++[l])).flatten=(vG (ds.take i) ls).flatten++Ir d l:=by
 have hlt:i < ds.length:=wU hd
 rw[List.take_succ,hd,Option.toList_some];unfold vG;rw[List.zipWith_append (by simp;omega),List.flatten_append];simp
theorem qN{N:cF}{w0:World}{e:Env}{R:List Piece}{H:List HP}{K:Act→World→Prop}{p:HP}{ps:List HP}(h:XK N w0 K e R (HP.many (ps++[p])::H)):XK N w0 K e R (HP.many ps::p::H):=fun a w hr st=>
 (Xa (ps:=ps) (p:=p) h) a w hr (st.weak (fun _ h=>h) (fun i=>match i with
  | 0=>1
  | 1=>0
  | i+2=>i+2) (fun i j _ _ he=>by
   match i,j with
   | 0,0=>rfl
   | 0,1=>simp at he
   | 0,j+2=>simp at he
   | 1,0=>simp at he
   | 1,1=>rfl
   | 1,j+2=>simp at he
   | i+2,0=>simp at he
   | i+2,1=>simp at he
   | i+2,j+2=>simpa using he) (fun i p hi=>by
   match i,hi with
   | 0,hi=>simpa using hi
   | 1,hi=>simpa using hi
   | i+2,hi=>simpa using hi))
theorem aRp{N:cF}{w0:World}{e:Env}{R:List Piece}{H:List HP}{K:Act→World→Prop}(h:XK N w0 K e R (HP.many []::H)):XK N w0 K e R H:=oF (p:=HP.many []) (fun w=>⟨fun _ _=>False,fun i p hp=>by simp at hp,fun _ _ h=>h,fun _ _ _ _ h=>h.elim⟩) h
theorem aND(s:aC)(hH:s.dJ)(A1 A2 A3 A4:Option Addr)(n1 k1 n2 k2 n3 k3 n4 k4:Nat)(w:World)(hW:iD w s A1 n1 A2 n2 A3 n3 A4 n4):
  Cz 48 #[.agg #[.slice A1 n1 k1,.slice A2 n2 k2,.slice A3 n3 k3,.slice A4 n4 k4]] w (fun y w'=>(∃v hs q,y=.returned v∧q.w=w'∧aIt s v hs q∧gI w hs q)∧Below w.heap.size w w'):=by
 have rE:=hH.t.nv
 obtain⟨rv,Pc,uA,tX⟩:=hW.dev;obtain⟨da,lB,rfl,hda⟩:=aCZ Pc;subst uA;refine aN func48 ntmps48 ?_;refine aB ?_;refine bN fun g1=>?_;refine aB ?_;refine aU (fun w1 t=>Qt s A1 A2 A3 A4 n1 k1 n2 k2 n3 k3 _ k4 w1 (hW.le (t.started (by simp))) hH.t.Qs) ?_;refine aB ?_;refine eX (aHT s) (fun w1 t=>aPO s hH A1 A2 A3 A4 n1 k1 n2 k2 n3 k3 _ k4 w1 (hW.le (t.started (by simp)))) ?_;rintro _ _ q1 ⟨LT,rfl,rfl,hfa⟩ _;dsimp only[List.cons_append,List.nil_append];refine aB ?_;refine eX (aI0 s) (fun w1 t=>aLv s hH A1 A2 A3 A4 n1 k1 n2 k2 n3 k3 _ k4 w1 (hW.le (t.started (by simp)))) ?_;rintro _ _ q2 ⟨LG,rfl,rfl⟩ _;dsimp only[List.cons_append,List.nil_append];refine aB ?_;refine eX (aIr s) (fun w1 t=>aKy s hH A1 A2 A3 A4 n1 k1 n2 k2 n3 k3 _ k4 w1 (hW.le (t.started (by simp)))) ?_;rintro _ _ q3 ⟨LR,rfl,rfl⟩ _;dsimp only[List.cons_append,List.nil_append];refine aB ?_;refine bN fun g2=>?_;refine aB ?_;refine lY (n:=s.aD.length) 8 (el:=3) (z:=iv 0) (by kernel_rfl) (by kernel_rfl) rfl rfl rfl (by omega) (by omega) (by decide) fun gm=>?_;refine aB ?_;refine lU 210 6 ?_;refine aRp ?_;refine aT [0,1,2,3,4,5,6] rfl (by decide) (R':=[all w]) (by simp) ?_;refine bL [(56,iv 0),(55,iv s.aD.length),(54,.slice A4 s.aD.length k4),(10,.slice (some ⟨gm,0,none⟩) s.aD.length s.aD.length),(9,pt g2)] ?_;refine eV (fun m e R H=>∃(i:Nat) (A:Option Addr) (c:Nat) (ls:List (FL×Nat)),i≤s.aD.length∧ls.length=i∧m=s.aD.length - i∧e=[(56,iv i),(55,iv s.aD.length),(54,.slice A4 s.aD.length k4),(10,.slice (some ⟨gm,0,none⟩) s.aD.length s.aD.length),(9,pt g2)]∧R=[all w]∧H=[HP.many (xE (s.aD.take i) ls ((s.aD.take i).map fun d=>(Dl d,Ny))),HP.own 210 6 (.slice A i c) i (vG (s.aD.take i) ls).flatten,HP.aE gm 3 (aM (kF (jS s) ((jS s).map fun _=>0) i)),HP.aE g2 203 [.pointer (some ⟨LT.t,0,none⟩),.pointer (some ⟨LG.t,0,none⟩),.pointer (some ⟨LR.t,0,none⟩),.pointer none,.slice A i c],oL LR s (hw0 s).ln,uP LG s (hw0 s).dm,pF LT s (hw0 s).ck]) s.aD.length ⟨0,none,0,[],by omega,rfl,rfl,rfl,rfl,?_⟩ fun m e R H hI=>?_
 ·have:List.replicate s.aD.length (Value.int .i64 0)=aM (kF (jS s) ((jS s).map fun _=>0) 0):=by
   rw[Ts];refine List.ext_getElem? fun j=>?_;simp only[aM,jS,List.map_map,List.getElem?_replicate,List.getElem?_map]
   by_cases h:j < s.aD.length
   ·rw[if_pos h,List.getElem?_eq_getElem h];rfl
   ·rw[if_neg h,List.getElem?_eq_none (by omega)];rfl
  rw[this];rfl
 obtain⟨i,A,c,ls,hi,nW,rfl,rfl,rfl,rfl⟩:=hI
 have hml:=Ev s
 have Un:=Tu (vs:=jS s) (old:=(jS s).map fun _=>0) (n:=s.aD.length) hml (by simp[jS]) hi
 refine aB ?_;refine aG rfl (fun hlt=>?_) (fun hge=>?_)
 ·have hlt:i < s.aD.length:=by omega
  obtain⟨d,hd⟩:=get_some hlt;obtain⟨⟨a1,a2⟩,ha⟩:=get_some (l:=da) (i:=i) (by omega);obtain⟨aCw,aFV⟩:=hda i d _ hd ha
  have hfit:=hH.t.aD i d hd
  obtain⟨b,off,hB,hro⟩:=aI.row tX (Xw (f:=yT) (es:=s.aD) (bs:=da) (sz:=6) lB (fun _ _=>rfl)).2 (Ry (f:=yT) hd ha) hlt;subst hB;refine aA ?_;refine kd (dat i (off+i*6)) ?_;refine aB ?_;refine bX fun g3=>?_
  have hmi:(jS s)[i]? =some (d.aR.length:Int):=by rw[jS,List.getElem?_map,hd];rfl
  have jT:(aM (kF (jS s) ((jS s).map fun _=>0) i)).length=s.aD.length:=by simp[aM,Un]
  have lK:(aM (kF (jS s) ((jS s).map fun _=>0) i)).set i (iv d.aR.length)=aM (kF (jS s) ((jS s).map fun _=>0) (i+1)):=by
   rw[←Tt (by simp) hmi,aM,aM,List.map_set]
  refine aB ?_;refine eX (aI4 d) (fun w1 t=>aKV d (by have:=hfit.2.2.2.2.2.2.2.2.1;omega) (fun r hr=>by have:=hfit.2.2.2.2.2.2.2.2.2.1 r hr;omega) a1.1 a1.2 w1 (aI.le aCw (t.le (by simp)))) ?_;rintro _ _ q1 ⟨LF,rfl,rfl⟩ _;dsimp only[List.cons_append,List.nil_append];refine aB ?_;refine aU (fun w1 t=>Tf LF d (Dl d) w1 (t.aCR 0 rfl)) ?_;refine aB ?_;rw[lK];refine aA ?_;refine iX [2,3,4,5,6,7,8,9,10,11,12] ?_;refine bJ 0 ?_;refine bJ 1 ?_;refine bJ 13 ?_;refine aK 2 ?_;refine aK 3 ?_;refine aK 4 ?_;refine aK 5 ?_;refine aK 6 ?_;refine aK 7 ?_;refine aK 8 ?_;refine aK 9 ?_;refine aK 10 ?_;refine aK 11 ?_;refine aK 12 ?_;refine aL 14 ?_;refine eX (fun v hs _=>∃g,v=pt g∧hs=[HP.aE g 266 [iv 0,iv 0]]) (fun w1 t=>aLh w1) ?_;rintro _ _ q2 ⟨gq,rfl,rfl⟩ _;dsimp only[List.cons_append,List.nil_append];refine aZ ?_;refine aL 15 ?_;refine kd (iN rfl) ?_;refine aZ ?_;refine aL 16 ?_;refine eK fun g4=>?_;refine aZ ?_ (hS:=fun _ h=>h.tail.aY.tail);refine aL 17 ?_;refine iF 5 6 48 1 (n':=i+1) (el:=210) (by kernel_rfl) (by kernel_rfl) (by decide) rfl rfl rfl (mM 0 rfl rfl) (by simp[Value.oneCell']) rfl (by omega) (by omega) (by decide) fun An cn=>?_;dsimp only[List.set];refine cE ?_;refine aL 18 ?_;refine bE ?_;refine cE ?_;refine aL 19 ?_;refine bE ?_;refine cE ?_;refine aL 20 ?_;refine eN rfl rfl ?_;dsimp only[List.set];refine cE ?_;refine dW ?_;refine aA ?_;refine aT [2,1,4,5,6,7,8,9,10] rfl (by decide) (R':=[all w]) (by simp) ?_;refine mU ?_;refine Xa ?_;refine bL [(56,iv (i+1:Nat)),(55,iv s.aD.length),(54,.slice (some ⟨b,off,none⟩) s.aD.length k4),(10,.slice (some ⟨gm,0,none⟩) s.aD.length s.aD.length),(9,pt g2)] ?_;exact gQ (s.aD.length - (i+1)) (by omega) ⟨i+1,An,cn,ls++[(LF,gq)],hlt,by simp;omega,rfl,rfl,rfl,by rw[aOF hd nW,aOE hd nW];rfl⟩
 ·obtain rfl:i=s.aD.length:=by omega
  rw[Tv hml (by simp[jS])];rw[List.take_length];refine aB ?_
  refine eX (aI9 (jS s)) (fun w1 t=>by
   have:=aQu (jS s) (by omega) (fun m hm=>by
    obtain⟨d,hd,rfl⟩:=List.mem_map.1 hm;obtain⟨j,hj⟩:=List.getElem?_of_mem hd
    have:=(hH.t.aD j d hj).2.2.2.2.2.2.2.2.1
    omega) (some ⟨gm,0,none⟩) s.aD.length w1
   rw[hml] at this
   exact this (t.uU (i:=2) rfl (by simp[aM,hml]))) ?_
  rintro _ _ q1 ⟨LB,rfl,rfl⟩ _;dsimp only[List.cons_append,List.nil_append];refine aB ?_;refine aT [4,7,6,5,0,2,1] rfl (by decide) (R':=[all w]) (by simp) ?_;refine mU ?_;refine qN ?_;refine qN ?_;refine qN ?_;refine qN ?_;refine qN ?_;dsimp only[List.cons_append,List.nil_append];refine dF [] [] [0] (by simp) rfl (by decide) (by decide) fun q _ _ hfr=>?_;exact fQ rfl rfl rfl fun w1 t=>⟨⟨_,_,⟨w1,q.Z⟩,rfl,rfl,⟨⟨g2,LT,LG,LR,LB,A,c,ls⟩,rfl,by simp[dM,Vf,hw0,jS,Function.comp_def],hfa,nW⟩,t.newR (by simp) (by simp) (hfr (by simp) (by simp))⟩,t.below (by simp)⟩
end
section
structure cT(s:aC)(x:aS):Prop where
 ck:pK s x.ck
 dm:tJ s x.dm
 ln:Ed s x.ln
 dv:x.dv.length=s.aD.length
 each:∀(i:Nat) (d:cH) (p:dS×fF),s.aD[i]? =some d→x.dv[i]? =some p→xT d p.1∧zG p.2
 wt:x.wt.length=s.aD.length
structure fZ(L:HL)(s:aC):Prop where
 fa:L.T.fa.length=s.aF.length
 ds:L.ds.length=s.aD.length
structure tH(w:World)(L:HL)(s:aC)(x:aS):Prop where
 r0:dU w L.h 0 (Vf L s.aD.length)
 tree:vN w L.T s x.ck
 aCH:aIz w L.G s x.dm
 lines:Jn w L.R s x.ln
 bus:Gv w L.B (jS s) x.wt x.bB
 rows:aI (all w) 6 L.A s.aD.length (vG s.aD L.ds).flatten
 each:∀(i:Nat) (d:cH) (l:FL×Nat) (p:dS×fF),s.aD[i]? =some d→L.ds[i]? =some l→x.dv[i]? =some p→Bz w l.1 d p.1∧dU w l.2 0 (Rr p.2)
theorem tH.below{w w':World}{L:HL}{s:aC}{x:aS}(h:tH w L s x)(hb:Below w.heap.size w w'):tH w' L s x:=
 ⟨h.r0.below hb,h.tree.below hb,Bv.below h.aCH hb,h.lines.below hb,h.bus.below hb,h.rows.le (kT hb),fun i d l p h1 h2 h3=>⟨(h.each i d l p h1 h2 h3).1.below hb,(h.each i d l p h1 h2 h3).2.below hb⟩⟩
theorem aIu{L:HL}{s:aC}{x:aS}{F:Nat→Prop}{w:World}(h:(dM L s x).sat F w)(hF:∀b,F b→b < w.heap.size)(hL:fZ L s)(hok:cT s x):tH w L s x:=by
 obtain⟨G,g1,g2,_⟩:=h
 have hl:∀i b,G i b→b < w.heap.size:=fun i b hb=>hF b (g2 i b hb)
 obtain⟨A',c',he,hs⟩:=zF (Y:=fun b=>b < w.heap.size) (g1 5 _ rfl) (hl 5)
 injection he with he
 subst he;refine⟨uI (g1 0 _ rfl).2,aHU (g1 1 _ rfl) (hl 1) hL.fa hok.ck,aIi (g1 2 _ rfl) (hl 2),aIs (g1 3 _ rfl),aIA (g1 4 _ rfl),hs,fun i d l p h1 h2 h3=>?_⟩;obtain⟨G',k1,k2,_⟩:=g1 6 _ rfl
 have hz:(xE s.aD L.ds x.dv)[i]? =some (Qg d (l,p)):=by
  have hq:(L.ds.zip x.dv)[i]? =some (l,p):=List.getElem?_zip_eq_some.2 ⟨h2,h3⟩
  rw[xE,List.getElem?_zipWith,h1,hq]
 have hj:∀b,G' i b→b < w.heap.size:=fun b hb=>hl 6 b (k2 i b hb)
 obtain⟨G2,m1,m2,_⟩:=k1 i _ hz;exact⟨Xs (m1 0 _ rfl) (fun b hb=>hj b (m2 0 b hb)),uI (m1 1 _ rfl).2⟩
section
variable{N:cF}{w0 w:World}{e:Env}{R:List Piece}{H:List HP}{K:Act→World→Prop}{L:HL}{s:aC}{x:aS}
theorem St.mG(t:St w0 R H w)(i:Nat)(hi:H[i]? =some (dM L s x))(hL:fZ L s)(hok:cT s x):tH w L s x:=by
 obtain⟨F,h1,h2,_⟩:=t.chunk hi;exact aIu h1 h2 hL hok
end
section
variable(L:HL)(s:aC)(x:aS)(w:World)
theorem Ay(hR:tH w L s x):Cz 150 #[.pointer (some ⟨L.h,0,none⟩)] w (Rt (.bool true) w):=by
 have k0:=hR.r0.at_ (j:=0) rfl
 have k1:=hR.r0.at_ (j:=1) rfl
 have k2:=hR.r0.at_ (j:=2) rfl
 have k3:=hR.r0.at_ (j:=3) rfl
 refine aN func150 ntmps150 ?_;refine aA ?_;exact dI
theorem Pn(i:Int)(hR:tH w L s x):Cz 146 #[.pointer (some ⟨L.h,0,none⟩),iv i] w (Rt (.bool (bZ s.aD.length i)) w):=by
 have k0:=hR.r0.at_ (j:=4) rfl
 refine aN func146 ntmps146 ?_;refine aA ?_;refine aU (fun w1 t=>Ay L s x w1 (hR.below (t.below (by simp)))) ?_;refine aA ?_;refine bT (t:=11) rfl (fun h=>?_) (fun h=>?_)
 ·refine aA ?_;refine jI (by simp) ?_;unfold bZ
  congr 1
  simp;omega
 ·refine aA ?_;refine jI (by simp) ?_
  have:bZ s.aD.length i=false:=decide_eq_false (by omega)
  rw[this]
theorem aNv(i:Nat)(hi:i < s.aD.length)(hR:tH w L s x):Cz 136 #[.pointer (some ⟨L.h,0,none⟩),iv (i:Int)] w (Rt (iv (oM x.wt i:Nat)) w):=by
 have k0:=hR.r0.at_ (j:=3) rfl
 have hin:bZ s.aD.length (i:Int)=true:=decide_eq_true (by omega)
 refine aN func136 ntmps136 ?_;refine aA ?_;refine aU (fun w1 t=>Pn L s x w1 i (hR.below (t.below (by simp)))) ?_;rw[hin];refine aA ?_;refine aU (fun w1 t=>aHl L.B (jS s) x.wt x.bB i (by rw[Ev];exact hi) w1 (hR.bus.below (t.below (by simp)))) ?_;refine aA ?_;exact dI
theorem aC8(hok:tJ s x.dm)(i:Int)(hR:tH w L s x):Cz 172 #[.pointer (some ⟨L.h,0,none⟩),iv i] w (Rt (.int .u8 (sC x.dm i)) w):=by
 have k0:=hR.r0.at_ (j:=1) rfl
 refine aN func172 ntmps172 ?_;refine aA ?_;refine aU (fun w1 t=>Ay L s x w1 (hR.below (t.below (by simp)))) ?_;refine aA ?_;refine aU (fun w1 t=>aFe L.G s x.dm hok i w1 (Bv.below hR.aCH (t.below (by simp)))) ?_;refine aA ?_;exact dI
theorem aNz(i:Int)(hR:tH w L s x):Cz 180 #[.pointer (some ⟨L.h,0,none⟩),iv i] w (Rt (.bool (Ig x.ln i)) w):=by
 have k0:=hR.r0.at_ (j:=2) rfl
 refine aN func180 ntmps180 ?_;refine aA ?_;refine aU (fun w1 t=>Ay L s x w1 (hR.below (t.below (by simp)))) ?_;refine aA ?_;refine aU (fun w1 t=>aEL L.R s x.ln i w1 (hR.lines.below (t.below (by simp)))) ?_;refine aA ?_;exact dI
end
end
section
theorem aMS{s:aC}(h:s.dJ):cT s (hw0 s):=by
 refine⟨⟨by simp[hw0],fun x hx=>?_⟩,⟨by simp[hw0],fun x hx=>?_,fun x hx=>?_⟩,⟨by simp[hw0],fun x hx=>?_⟩,by simp[hw0],fun i d p hd hp=>?_,by simp[hw0]⟩
 ·obtain⟨c,hc,rfl⟩:=List.mem_map.1 hx;obtain⟨i,hi⟩:=List.getElem?_of_mem hc
  have:=(h.t.aF i c hi).2
  unfold xK;dsimp only;split
  ·omega
  ·omega
 ·obtain⟨c,hc,rfl⟩:=List.mem_map.1 hx;simp[xG]
 ·obtain⟨c,hc,rfl⟩:=List.mem_map.1 hx;simp[xG]
 ·obtain⟨c,hc,rfl⟩:=List.mem_map.1 hx;simp[qK]
 ·simp only[hw0,List.getElem?_map,hd,Option.map_some] at hp;cases hp
  have hf:=h.t.aD i d hd
  refine⟨⟨by simp[Dl],by simp[Dl],fun v hv=>?_,fun v hv=>?_⟩,by simp[zG,Ny]⟩
  ·obtain⟨r,hr,rfl⟩:=List.mem_map.1 hv
   have:=hf.2.2.2.2.2.2.2.2.2.1 r hr
   omega
  ·simp only[Dl,List.mem_map] at hv;obtain⟨r,_,rfl⟩:=hv;omega
theorem aDX{s:aC}(h:s.qH):(fI s).sm:=by
 have h1:=h.nc
 have h2:=h.nd
 have h3:=h.nr
 exact⟨by simp[fI];omega,by simp[fI];omega,by simp[fI];omega⟩
def nU:aC:=⟨[],[],[],[]⟩
theorem aJL:nU.small:=⟨by decide,by decide,by decide,by decide,(fun c hc=>by cases hc),(fun c hc=>by cases hc)⟩
theorem aJM(w:World):iD w nU none 0 none 0 none 0 none 0:=
 ⟨⟨[],trivial,rfl,aI.nil _ _⟩,⟨[],trivial,rfl,aI.nil _ _⟩,⟨[],trivial,rfl,aI.nil _ _⟩,⟨[],trivial,rfl,aI.nil _ _⟩,aJL⟩
end
section
theorem wK{α:Type}{l:List α}{i:Nat}{x:α}(h:l[i]? =some x):l.set i x=l:=by
 refine List.ext_getElem? fun j=>?_;rw[List.getElem?_set]
 by_cases he:i=j
 ·subst he;rw[if_pos rfl,if_pos (List.getElem?_eq_some_iff.1 h).1,h]
 ·rw[if_neg he]
def sB(s:aC)(st:List eM)(i:Nat):List Value:=(List.range s.aF.length).map fun j=>.bool (decide (j < i)&&runs s st j)
theorem aLd(s:aC)(st:List eM):List.replicate s.aF.length (Value.bool false)=sB s st 0:=by
 refine List.ext_getElem? fun j=>?_;rw[sB,List.getElem?_replicate,List.getElem?_map]
 by_cases hl:j < s.aF.length
 ·rw[List.getElem?_range hl];simp[hl]
 ·rw[List.getElem?_eq_none (l:=List.range s.aF.length) (by simp;omega)];simp[hl]
theorem aLe(s:aC)(st:List eM)(i:Nat):(sB s st i).set i (.bool (runs s st i))=sB s st (i+1):=by
 refine List.ext_getElem? fun j=>?_;simp only[sB,List.getElem?_set,List.getElem?_map,List.length_map,List.length_range]
 by_cases he:i=j
 ·subst he
  by_cases hl:i < s.aF.length
  ·rw[if_pos rfl,if_pos hl,List.getElem?_range hl];simp
  ·rw[if_pos rfl,if_neg hl,List.getElem?_eq_none (by simp;omega)];rfl
 ·rw[if_neg he]
  by_cases hl:j < s.aF.length
  ·rw[List.getElem?_range hl]
   have:decide (j < i)=decide (j < i+1):=by simp;omega
   simp[this]
  ·rw[List.getElem?_eq_none (by simp;omega)];rfl
theorem aLf{s:aC}{st:List eM}{j:Nat}(h:j < s.aF.length):(sB s st s.aF.length)[j]? =some (.bool (runs s st j)):=by
 simp[sB,h]
def oG(s:aC)(st:List eM)(i:Nat):List eM:=(mL s st).take i++st.drop i
theorem aMm(s:aC)(st:List eM):oG s st 0=st:=by simp[oG]
theorem aMq{s:aC}{st:List eM}(hok:pK s st):oG s st s.aF.length=mL s st:=by
 have hl:=hok.len
 rw[oG,List.drop_eq_nil_of_le (by omega),List.append_nil,List.take_of_length_le (by simp[mL];omega)]
theorem aMp{s:aC}{st:List eM}(hok:pK s st){i:Nat}(hi:i < s.aF.length):(oG s st i)[i]? =st[i]? :=by
 have hl:=hok.len
 have:((mL s st).take i).length=i:=by simp[mL];omega
 rw[oG,List.getElem?_append_right (by omega),this,Nat.sub_self,List.getElem?_drop,Nat.add_zero]
theorem aBY{s:aC}{st:List eM}(hok:pK s st){i:Nat}(hi:i≤s.aF.length):(oG s st i).length=s.aF.length:=by
 have hl:=hok.len
 simp[oG,mL];omega
theorem aMn{s:aC}{st:List eM}(hok:pK s st){i:Nat}{c:eW}{x:eM}(hc:s.aF[i]? =some c)(hx:st[i]? =some x):(oG s st i).set i (zT s st c x)=oG s st (i+1):=by
 have hl:=hok.len
 have hi:=(List.getElem?_eq_some_iff.1 hc).1
 have ht:(mL s st)[i]? =some (zT s st c x):=by rw[mL,List.getElem?_zipWith,hc,hx]
 have sJ:(mL s st).length=s.aF.length:=by simp[mL];omega
 refine List.ext_getElem? fun j=>?_;rw[List.getElem?_set]
 by_cases he:i=j
 ·subst he;rw[if_pos rfl,if_pos (by rw[aBY hok (by omega)];exact hi),oG,List.getElem?_append_left (by rw[List.length_take];omega),List.getElem?_take_of_lt (by omega),ht]
 ·rw[if_neg he,oG,oG];rcases Nat.lt_or_ge j i with hj | hj
  ·rw[List.getElem?_append_left (by rw[List.length_take];omega),List.getElem?_append_left (by rw[List.length_take];omega),List.getElem?_take_of_lt hj,List.getElem?_take_of_lt (by omega)]
  ·rw[List.getElem?_append_right (by rw[List.length_take];omega),List.getElem?_append_right (by rw[List.length_take];omega),List.getElem?_drop,List.getElem?_drop,List.length_take,List.length_take]
   congr 1
   omega
theorem aJ2{s:aC}{st:List eM}(hH:s.dJ)(hok:pK s st){i:Nat}{c:eW}{x:eM}(hc:s.aF[i]? =some c)(hx:x∈st):0≤(zT s st c x).left∧(zT s st c x).left≤3:=by
 have h1:=hok.left x hx
 have h2:=(hH.t.aF i c hc).2
 have h3:0≤c.lock∧c.lock≤3:=by omega
 unfold zT;split
 ·split
  ·exact h3
  ·split
   ·dsimp only;omega
   ·exact h1
 ·exact h1
theorem aBy{s:aC}{st:List eM}(hH:s.dJ)(hok:pK s st):pK s (mL s st):=by
 have hl:=hok.len
 refine⟨by simp[mL];omega,fun x hx=>?_⟩;obtain⟨j,hj⟩:=List.getElem?_of_mem hx;rw[mL,List.getElem?_zipWith] at hj;cases hc:s.aF[j]? with
 | none=>rw[hc] at hj;cases hj
 | some c =>
  cases hy:st[j]? with
  | none=>rw[hc,hy] at hj;cases hj
  | some y=>
   rw[hc,hy] at hj;cases hj;exact aJ2 hH hok hc (List.mem_of_getElem? hy)
theorem aMo{s:aC}{st:List eM}(hH:s.dJ)(hok:pK s st){i:Nat}(hi:i≤s.aF.length):pK s (oG s st i):=⟨aBY hok hi,fun x hx=>by
 rcases List.mem_append.1 hx with h | h
 ·exact(aBy hH hok).left x (List.mem_of_mem_take h)
 ·exact hok.left x (List.mem_of_mem_drop h)⟩
theorem aPK(L:TL)(s:aC)(st:List eM)(hH:s.dJ)(hfl:L.fa.length=s.aF.length)(hok:pK s st)(w:World)(F:Nat→Prop)(hp:(pF L s st).sat F w)(hF:∀b,F b→b < w.heap.size):
  Cz 154 #[.pointer (some ⟨L.t,0,none⟩)] w (Wr (.tuple #[]) (pF L s (mL s st)) w F):=by
 have hnc:=hH.t.nc
 have hl:=hok.len
 refine cS func154 ntmps154 hp hF ?_
 have aCy:Rd w [⟨w,fun b=>b < w.heap.size∧¬F b⟩] [pF L s st] L.t 0 (.slice L.A s.aF.length L.c):=Rd.tree 0 rfl hfl hok
 refine aA ?_;refine lY (n:=s.aF.length) 1 (el:=4) (z:=.bool false) (by kernel_rfl) (by kernel_rfl) rfl rfl rfl (by omega) (by omega) (by decide) fun g1=>?_
 have aSf:Rd w [⟨w,fun b=>b < w.heap.size∧¬F b⟩] [HP.aE g1 4 (List.replicate s.aF.length (.bool false)),pF L s st] L.t 0 (.slice L.A s.aF.length L.c):=Rd.tree 1 rfl hfl hok
 refine aA ?_;rw[aLd s st];refine bL [(19,iv 0),(18,iv s.aF.length),(2,.slice (some ⟨g1,0,none⟩) s.aF.length s.aF.length),(0,.pointer (some ⟨L.t,0,none⟩))] ?_;refine eV (fun m e R H=>∃i:Nat,i≤s.aF.length∧m=s.aF.length - i∧e=[(19,iv i),(18,iv s.aF.length),(2,.slice (some ⟨g1,0,none⟩) s.aF.length s.aF.length),(0,.pointer (some ⟨L.t,0,none⟩))]∧R=[⟨w,fun b=>b < w.heap.size∧¬F b⟩]∧H=[HP.aE g1 4 (sB s st i),pF L s st]) s.aF.length ⟨0,by omega,rfl,rfl,rfl,rfl⟩ fun m e R H hI=>?_;obtain⟨i,hi,rfl,rfl,rfl,rfl⟩:=hI;refine aA ?_;refine aG rfl (fun hlt=>?_) (fun hge=>?_)
 ·have hlt:i < s.aF.length:=by omega
  have oJ:(sB s st i).length=s.aF.length:=by simp[sB]
  refine aA ?_;refine aU (fun w1 t=>Wl L s st hH i w1 (t.aBw 1 rfl hfl hok)) ?_;rw[show tO s st (i:Int)=runs s st i by simp[tO,bZ,hlt]];refine aB ?_;rw[aLe];exact eP (s.aF.length - (i+1)) ⟨i+1,hlt,rfl,rfl,rfl,rfl⟩
 ·obtain rfl:i=s.aF.length:=by omega
  have aSe:Rd w [⟨w,fun b=>b < w.heap.size∧¬F b⟩] [HP.aE g1 4 (sB s st s.aF.length),pF L s st] L.t 0 (.slice L.A s.aF.length L.c):=Rd.tree 1 rfl hfl hok
  refine aA ?_;refine bL [(34,iv 0),(33,iv s.aF.length),(2,.slice (some ⟨g1,0,none⟩) s.aF.length s.aF.length),(0,.pointer (some ⟨L.t,0,none⟩))] ?_;refine eV (fun m e R H=>∃i:Nat,i≤s.aF.length∧m=s.aF.length - i∧e=[(34,iv i),(33,iv s.aF.length),(2,.slice (some ⟨g1,0,none⟩) s.aF.length s.aF.length),(0,.pointer (some ⟨L.t,0,none⟩))]∧R=[⟨w,fun b=>b < w.heap.size∧¬F b⟩]∧H=[HP.aE g1 4 (sB s st s.aF.length),pF L s (oG s st i)]) s.aF.length ⟨0,by omega,rfl,rfl,rfl,by rw[aMm]⟩ fun m e R H hI=>?_;obtain⟨i,hi,rfl,rfl,rfl,rfl⟩:=hI;refine aA ?_;refine aG rfl (fun hlt=>?_) (fun hge=>?_)
  ·have hlt:i < s.aF.length:=by omega
   obtain⟨c,hc⟩:=get_some hlt;obtain⟨a,ha⟩:=get_some (l:=L.fa) (i:=i) (by omega);obtain⟨x,hx⟩:=get_some (l:=st) (i:=i) (by omega)
   have Um:=aMo hH hok hi
   have hml:=aBY hok hi
   have Lf:(oG s st i)[i]? =some x:=by rw[aMp hok hlt];exact hx
   obtain⟨fL,gF⟩:=aBR hfl Um
   have hlx:=hok.left x (List.mem_of_getElem? hx)
   have oJ:(sB s st s.aF.length).length=s.aF.length:=by simp[sB]
   have hpq:(jR s L.fa (oG s st i)).set i (qI c a (zT s st c x))=jR s L.fa (oG s st (i+1)):=by rw[aFq hc ha (by omega),aMn hok hc hx]
   refine aHJ 1 rfl (by omega) fun g cs hA h1 h2 h3 h4=>?_;dsimp only[List.set];rw[hA]
   have hs:=Dk h2 fL gF (Oc hc ha Lf)
   have hu:=tC.refl cs (i*11) 11
   have hrd:Rd w [⟨w,fun b=>b < w.heap.size∧¬F b⟩] [HP.aE g 251 cs,HP.aE g1 4 (sB s st s.aF.length),HP.many [HP.aE L.t 249 [.slice (some ⟨g,0,none⟩) s.aF.length L.c],cG,HP.bR (rR s L.fa) (rR.le (s:=s) (fa:=L.fa))]] L.t 0 (.slice (some ⟨g,0,none⟩) s.aF.length L.c):=aRQ 2 0 rfl rfl rfl
   refine aA ?_;refine kd (dat i (i*11)) ?_;obtain⟨hsrc,hfit⟩:=hH.t.aF i c hc;obtain⟨kd,src,rate,mul,dv,lock⟩:=c;obtain⟨on,left⟩:=x;dsimp only at hfit hsrc hlx;dsimp only[qI] at hs
   have Ud:kd≠112∨on=false→jR s L.fa (oG s st i)=jR s L.fa (oG s st (i+1)):=fun hh=>by
    rw[←hpq]
    have:zT s st ⟨kd,src,rate,mul,dv,lock⟩ ⟨on,left⟩=⟨on,left⟩:=by
     unfold zT;rw[if_neg];rintro⟨h1,h2⟩;rcases hh with hh | hh
     ·exact hh h1
     ·rw[hh] at h2;cases h2
    rw[this,wK (Oc hc ha Lf)]
   rcases hfit with⟨rfl,_⟩ | ⟨rfl,lJ,_⟩ | ⟨rfl,_⟩ | ⟨rfl,_⟩ | ⟨rfl,_⟩
   ·rw[Ud (.inl (by decide))] at h2;refine aA ?_;refine lV ?_;refine iV ?_;refine aA ?_;refine zA 1 hA h1 h2 h3 h4 rfl ?_;exact eP (s.aF.length - (i+1)) ⟨i+1,hlt,rfl,rfl,rfl,rfl⟩
   ·cases on
    ·rw[Ud (.inr rfl)] at h2;refine aA ?_;refine lV ?_;refine iV ?_;refine aA ?_;refine zA 1 hA h1 h2 h3 h4 rfl ?_;exact eP (s.aF.length - (i+1)) ⟨i+1,hlt,rfl,rfl,rfl,rfl⟩
    ·obtain⟨f,fs,hf⟩:∃(f:Nat) (fs:List Int),src=(f:Int)::fs:=by
      cases hs0:src with
      | nil=>rw[hs0] at lJ;simp at lJ
      | cons f fs=>exact⟨f.toNat,fs,by have:=(hsrc f (by rw[hs0];simp)).1;rw[Int.toNat_of_nonneg this]⟩
     have Lh:f < i:=by have:=(hsrc f (by rw[hf];simp)).2;omega
     subst hf
     have hrun:=aLf (s:=s) (st:=st) (j:=f) (by omega)
     have cP:Rd w [⟨w,fun b=>b < w.heap.size∧¬F b⟩] [HP.aE g 251 cs,HP.aE g1 4 (sB s st s.aF.length),HP.many [HP.aE L.t 249 [.slice (some ⟨g,0,none⟩) s.aF.length L.c],cG,HP.bR (rR s L.fa) (rR.le (s:=s) (fa:=L.fa))]] g1 f (.bool (runs s st f)):=Rd.aE 1 rfl hrun
     refine aA ?_;refine aU (fun w1 t=>Qr L s (oG s st i) i f _ fs w1 (t.aJ1 0 2 rfl rfl hA h2 hfl Um) hc rfl) ?_;refine aB ?_
     have oU:zT s st ⟨112,(f:Int)::fs,rate,mul,dv,lock⟩ ⟨true,left⟩=if runs s st f=false then⟨true,lock⟩ else if 0 < left then⟨true,left - 1⟩ else⟨true,left⟩:=by
      simp[zT,aE0]
     rw[oU] at hpq;cases Fa:runs s st f
     ·rw[Fa] at cP;rw[if_pos Fa] at hpq
      have hs1:=hs.set 7 (iv lock) (by simp) (by omega)
      have mO:=hu.set 7 (iv lock) (by decide)
      have gH:=Bg (r':=qI ⟨112,(f:Int)::fs,rate,mul,dv,lock⟩ a ⟨true,lock⟩) h2 fL gF hlt (by omega) rfl hs1 mO
      rw[hpq] at gH;refine aA ?_;refine zA 1 hA (by simpa using h1) gH h3 h4 rfl ?_;exact eP (s.aF.length - (i+1)) ⟨i+1,hlt,rfl,rfl,rfl,rfl⟩
     ·rw[Fa] at cP;rw[if_neg (by rw[Fa];decide)] at hpq;refine aA ?_;refine aG rfl (fun hp=>?_) (fun hp=>?_)
      ·rw[if_pos hp] at hpq
       have hs1:=hs.set 7 (iv (left - 1)) (by simp) (by omega)
       have mO:=hu.set 7 (iv (left - 1)) (by decide)
       have gH:=Bg (r':=qI ⟨112,(f:Int)::fs,rate,mul,dv,lock⟩ a ⟨true,left - 1⟩) h2 fL gF hlt (by omega) rfl hs1 mO
       rw[hpq] at gH;refine aA ?_;refine zA 1 hA (by simpa using h1) gH h3 h4 rfl ?_;exact eP (s.aF.length - (i+1)) ⟨i+1,hlt,rfl,rfl,rfl,rfl⟩
      ·rw[if_neg hp,wK (Oc hc ha Lf)] at hpq;rw[hpq] at h2;refine aA ?_;refine lV ?_;refine iV ?_;refine aA ?_;refine zA 1 hA h1 h2 h3 h4 rfl ?_;exact eP (s.aF.length - (i+1)) ⟨i+1,hlt,rfl,rfl,rfl,rfl⟩
   ·rw[Ud (.inl (by decide))] at h2;refine aA ?_;refine lV ?_;refine iV ?_;refine aA ?_;refine zA 1 hA h1 h2 h3 h4 rfl ?_;exact eP (s.aF.length - (i+1)) ⟨i+1,hlt,rfl,rfl,rfl,rfl⟩
   ·rw[Ud (.inl (by decide))] at h2;refine aA ?_;refine lV ?_;refine iV ?_;refine aA ?_;refine zA 1 hA h1 h2 h3 h4 rfl ?_;exact eP (s.aF.length - (i+1)) ⟨i+1,hlt,rfl,rfl,rfl,rfl⟩
   ·rw[Ud (.inl (by decide))] at h2;refine aA ?_;refine lV ?_;refine iV ?_;refine aA ?_;refine zA 1 hA h1 h2 h3 h4 rfl ?_;exact eP (s.aF.length - (i+1)) ⟨i+1,hlt,rfl,rfl,rfl,rfl⟩
  ·obtain rfl:i=s.aF.length:=by omega
   rw[aMq hok];refine aA ?_;exact fC 1 hF
end
section
section
variable{N:cF}{w0 w:World}{e:Env}{R:List Piece}{H:List HP}{K:Act→World→Prop}{L:RL}{s:aC}{st:List jY}
theorem aDv(i:Nat)(hi:H[i]? =some (oL L s st))(h:XK N w0 K e R (HP.map L.g (nA s st)::HP.aE L.t 259 [.map (some L.g)]::H.set i (HP.many [cG,cG]))):XK N w0 K e R H:=by
 have hlt:=wU hi
 refine qM i 0 hi rfl ?_;refine qM (i+1) 1 (by rw[List.getElem?_cons_succ,List.getElem?_set_self hlt]) rfl ?_
 simpa[List.set_cons_succ,List.set_set] using h
theorem Rk(i:Nat)(hi:H[i]? =some (HP.many [cG,cG]))(h:XK N w0 K e R (H.set i (oL L s st))):XK N w0 K e R (HP.map L.g (nA s st)::HP.aE L.t 259 [.map (some L.g)]::H):=by
 have hlt:=wU hi
 refine qO (i+1) 1 (by rw[List.getElem?_cons_succ];exact hi) rfl ?_;dsimp only[List.set];refine qO i 0 (by rw[List.getElem?_set_self hlt]) rfl ?_
 simpa[List.set_set,oL] using h
end
theorem aKz(L:RL)(s:aC)(st:List jY)(hok:Ed s st)(i:Int)(w:World)(F:Nat→Prop)(hp:(oL L s st).sat F w)(hF:∀b,F b→b < w.heap.size):
  Cz 211 #[.pointer (some ⟨L.t,0,none⟩),iv i] w (Wr (iv (rI s st i).1) (oL L s (rI s st i).2) w F):=by
 have hl:=hok.len
 cases hi:bZ st.length i
 ·have hr:rI s st i=(4,st):=by simp[rI,hi]
  have hv:sQ s st i=iP 0 ⟨0,false,false⟩:=by simp[sQ,hi]
  rw[hr];refine cS func211 ntmps211 hp hF ?_;refine aA ?_;refine aU (fun w1 t=>Sz L s st i w1 (t.On 0 rfl)) ?_;rw[hi,hv];unfold iP;refine aA ?_;refine bX fun g1=>?_;refine aA ?_;exact bO 1 hF
 ·obtain⟨n,rfl⟩:∃n:Nat,i=n:=⟨i.toNat,by have:=of_decide_eq_true hi;omega⟩
  have hlt:n < st.length:=by have:=of_decide_eq_true hi;omega
  obtain⟨r,cP⟩:=get_some (l:=s.bA) (i:=n) (by omega);obtain⟨x,hx⟩:=get_some hlt
  have hrd:s.bA.getD n 0=r:=by rw[List.getD_eq_getElem?_getD,cP];rfl
  have hr:rI s st (n:Int)=(0,st.set n ⟨r,true,false⟩):=by simp[rI,hi,cP]
  have hv:sQ s st (n:Int)=iP r x:=by simp[sQ,hi,List.getD_eq_getElem?_getD,cP,hx]
  rw[hr];refine cS func211 ntmps211 hp hF ?_;refine aA ?_;refine aU (fun w1 t=>Sz L s st n w1 (t.On 0 rfl)) ?_;rw[hi,hv];unfold iP;refine aA ?_;refine bX fun g1=>?_;refine aA ?_;refine aDv 1 rfl ?_;dsimp only[List.set];refine qP 6 (by kernel_rfl) (by kernel_rfl) ?_;refine bP 0 ?_;refine bP 1 ?_;refine bP 2 ?_;refine bP 3 ?_;refine bP 4 ?_;refine bP 5 ?_;refine cJ 6 ?_;refine Gw (kt:=3) (et:=261) (kd:=.i64) (l:=nA s st) (v:=iP r ⟨r,true,false⟩) 0 (by kernel_rfl) (by kernel_rfl) rfl rfl rfl rfl ?_;rw[aBU hrd hlt];dsimp only[List.set];refine eR ?_;refine kJ ?_;refine Rk 1 rfl ?_;refine aA ?_;exact bO 1 hF
theorem aKx(L:RL)(s:aC)(st:List jY)(hok:Ed s st)(i:Int)(w:World)(F:Nat→Prop)(hp:(oL L s st).sat F w)(hF:∀b,F b→b < w.heap.size):
  Cz 210 #[.pointer (some ⟨L.t,0,none⟩),iv i] w (Wr (iv (wM st i).1) (oL L s (wM st i).2) w F):=by
 have hl:=hok.len
 cases hi:bZ st.length i
 ·have hr:wM st i=(4,st):=by simp[wM,hi]
  have hv:sQ s st i=iP 0 ⟨0,false,false⟩:=by simp[sQ,hi]
  rw[hr];refine cS func210 ntmps210 hp hF ?_;refine aA ?_;refine aU (fun w1 t=>Sz L s st i w1 (t.On 0 rfl)) ?_;rw[hi,hv];unfold iP;refine aA ?_;refine bX fun g1=>?_;refine aA ?_;exact bO 1 hF
 ·obtain⟨n,rfl⟩:∃n:Nat,i=n:=⟨i.toNat,by have:=of_decide_eq_true hi;omega⟩
  have hlt:n < st.length:=by have:=of_decide_eq_true hi;omega
  obtain⟨r,cP⟩:=get_some (l:=s.bA) (i:=n) (by omega);obtain⟨x,hx⟩:=get_some hlt
  have hrd:s.bA.getD n 0=r:=by rw[List.getD_eq_getElem?_getD,cP];rfl
  have hr:wM st (n:Int)=if x.held=false then(6,st) else(0,st.set n ⟨x.left,x.held,true⟩):=by simp[wM,hi,hx]
  have hv:sQ s st (n:Int)=iP r x:=by simp[sQ,hi,List.getD_eq_getElem?_getD,cP,hx]
  rw[hr];refine cS func210 ntmps210 hp hF ?_;refine aA ?_;refine aU (fun w1 t=>Sz L s st n w1 (t.On 0 rfl)) ?_;rw[hi,hv];obtain⟨left,held,wanted⟩:=x;unfold iP;refine aA ?_;refine bX fun g1=>?_;cases held
  ·refine aA ?_;exact bO 1 hF
  ·refine aA ?_;refine aDv 1 rfl ?_;dsimp only[List.set];refine qP 6 (by kernel_rfl) (by kernel_rfl) ?_;refine bP 0 ?_;refine bP 1 ?_;refine bP 2 ?_;refine bP 3 ?_;refine bP 4 ?_;refine bP 5 ?_;refine cJ 6 ?_;refine Gw (kt:=3) (et:=261) (kd:=.i64) (l:=nA s st) (v:=iP r ⟨left,true,true⟩) 0 (by kernel_rfl) (by kernel_rfl) rfl rfl rfl rfl ?_;rw[aBU hrd hlt];dsimp only[List.set];refine eR ?_;refine kJ ?_;refine Rk 1 rfl ?_;refine aA ?_;exact bO 1 hF
end
section
theorem aM2{α:Type}(f:α→α)(st:List α){i:Nat}{x:α}(hx:st[i]? =some x)(hs:f x=x):(st.map f).take i++st.drop i=(st.map f).take (i+1)++st.drop (i+1):=by
 have h1:=aBV f st hx
 rw[hs,aE7 (by rw[aBW f st (List.getElem?_eq_some_iff.1 hx).1];exact hx)] at h1;exact h1
theorem aKw(L:RL)(s:aC)(st:List jY)(hH:s.dJ)(hok:Ed s st)(w:World)(F:Nat→Prop)(hp:(oL L s st).sat F w)(hF:∀b,F b→b < w.heap.size):
  Cz 157 #[.pointer (some ⟨L.t,0,none⟩)] w (fun y w'=>∃a:Option Addr×Nat×Nat,y=.returned (.slice a.1 a.2.1 a.2.2)∧True∧∃F',(oL L s (He st)).sat F' w'∧iC w w' F F'):=by
 have hl:=hok.len
 have gF:=hH.t.nr
 refine cS func157 ntmps157 hp hF ?_
 have aCy:Rd w [⟨w,fun b=>b < w.heap.size∧¬F b⟩] [oL L s st] L.t 0 (.map (some L.g)):=fun w1 t=>(t.On 0 rfl).r0.2
 refine aA ?_;refine kd (aPa (kt:=3) (et:=261) (l:=nA s st) (by kernel_rfl) rfl (fun w1 t=>(t.On 0 rfl).m)) ?_;rw[show(nA s st).length=st.length by simp[nA]];refine aA ?_;refine lU 3 1 ?_;refine bL [(14,iv 0),(13,iv st.length),(3,sn),(0,.pointer (some ⟨L.t,0,none⟩))] ?_;refine eV (fun m e R H=>∃(i n:Nat) (A:Option Addr) (k:Nat) (xs:List Value),i≤st.length∧n≤i∧m=st.length - i∧e=[(14,iv i),(13,iv st.length),(3,.slice A n k),(0,.pointer (some ⟨L.t,0,none⟩))]∧R=[⟨w,fun b=>b < w.heap.size∧¬F b⟩]∧H=[HP.own 3 1 (.slice A n k) n xs,oL L s ((st.map mY).take i++st.drop i)]) st.length ⟨0,0,none,0,[],by omega,by omega,rfl,rfl,rfl,by simp⟩ fun m e R H hI=>?_;obtain⟨i,n,A,k,xs,hi,hni,rfl,rfl,rfl,rfl⟩:=hI;refine aA ?_;refine aG rfl (fun hlt=>?_) (fun hge=>?_)
 ·have hlt:i < st.length:=by omega
  obtain⟨r,cP⟩:=get_some (l:=s.bA) (i:=i) (by omega);obtain⟨x,hx⟩:=get_some hlt
  have hlx:=hok.left x (List.mem_of_getElem? hx)
  have hrd:s.bA.getD i 0=r:=by rw[List.getD_eq_getElem?_getD,cP];rfl
  have hml:((st.map mY).take i++st.drop i).length=st.length:=by simp;omega
  have Lf:((st.map mY).take i++st.drop i)[i]? =some x:=by rw[aBW _ st hlt];exact hx
  have hin:bZ ((st.map mY).take i++st.drop i).length (i:Int)=true:=by rw[hml];exact decide_eq_true (by omega)
  have Ap:mB (nA s ((st.map mY).take i++st.drop i)) (i:Int)=some (iP r x):=by
   rw[aF3,if_pos hin,Int.toNat_natCast,hrd,List.getD_eq_getElem?_getD,Lf];rfl
  have lK:nL (nA s ((st.map mY).take i++st.drop i)) (i:Int) (iP r (mY x))=nA s ((st.map mY).take (i+1)++st.drop (i+1)):=by
   rw[aBU hrd (by omega),aBV mY st hx]
  refine aDv 1 rfl ?_;dsimp only[List.set];refine aA ?_;refine Yc (kt:=3) (et:=261) (kd:=.i64) (z:=iP 0 ⟨0,false,false⟩) (l:=nA s ((st.map mY).take i++st.drop i)) true (by kernel_rfl) (by kernel_rfl) aFA rfl rfl (fun w1 t=>t.map (i:=0) rfl) (by decide) ?_;simp only[if_true,Ap,Option.getD_some,Option.isSome_some];obtain⟨left,held,wanted⟩:=x;dsimp only at hlx;dsimp only[iP];refine aA ?_;refine bX fun g1=>?_;cases held
  ·have hsame:mY ⟨left,false,wanted⟩=⟨left,false,wanted⟩:=rfl
   rw[aM2 mY st hx hsame];refine aA ?_;refine aT [1,2,3,4] rfl (by decide) (fun _ h=>h) ?_;refine Rk 1 rfl ?_;exact eP (st.length - (i+1)) ⟨i+1,n,A,k,xs,hlt,by omega,rfl,rfl,rfl,rfl⟩
  ·refine aA ?_;refine aG rfl (fun hp=>?_) (fun hp=>?_)
   ·have oU:mY ⟨left,true,wanted⟩=⟨left - 1,true,wanted⟩:=by simp[mY,hp]
    rw[oU] at lK;refine aA ?_;refine qP 6 (by kernel_rfl) (by kernel_rfl) ?_;refine bP 0 ?_;refine bP 1 ?_;refine bP 2 ?_;refine bP 3 ?_;refine bP 4 ?_;refine bP 5 ?_;refine cJ 6 ?_;refine Gw (kt:=3) (et:=261) (kd:=.i64) (l:=nA s ((st.map mY).take i++st.drop i)) (v:=iP r ⟨left - 1,true,wanted⟩) 1 (by kernel_rfl) (by kernel_rfl) rfl rfl rfl rfl ?_;rw[lK];dsimp only[List.set];refine eR ?_;refine kJ ?_;refine aA ?_;refine aT [1,2,3,4] rfl (by decide) (fun _ h=>h) ?_;refine Rk 1 rfl ?_;exact eP (st.length - (i+1)) ⟨i+1,n,A,k,xs,hlt,by omega,rfl,rfl,rfl,rfl⟩
   ·cases wanted
    ·have oU:mY ⟨left,true,false⟩=⟨left,true,false⟩:=by simp[mY,hp]
     rw[oU] at lK;refine aA ?_;refine qP 6 (by kernel_rfl) (by kernel_rfl) ?_;refine bP 0 ?_;refine bP 1 ?_;refine bP 2 ?_;refine bP 3 ?_;refine bP 4 ?_;refine bP 5 ?_;refine cJ 6 ?_;refine Gw (kt:=3) (et:=261) (kd:=.i64) (l:=nA s ((st.map mY).take i++st.drop i)) (v:=iP r ⟨left,true,false⟩) 1 (by kernel_rfl) (by kernel_rfl) rfl rfl rfl rfl ?_;rw[lK];dsimp only[List.set];refine eR ?_;refine kJ ?_;refine aA ?_;refine aT [1,2,3,4] rfl (by decide) (fun _ h=>h) ?_;refine Rk 1 rfl ?_;exact eP (st.length - (i+1)) ⟨i+1,n,A,k,xs,hlt,by omega,rfl,rfl,rfl,rfl⟩
    ·have oU:mY ⟨left,true,true⟩=⟨left,false,false⟩:=by simp[mY,hp]
     rw[oU] at lK;refine aA ?_;refine eK fun g2=>?_;refine iF 4 1 8 1 (el:=3) (by kernel_rfl) (by kernel_rfl) (by decide) rfl rfl rfl (mM 0 rfl rfl) (by simp[Value.oneCell']) rfl (by omega) (by omega) (by decide) fun A' k'=>?_;dsimp only[List.set];refine aA ?_;refine qP 6 (by kernel_rfl) (by kernel_rfl) ?_;refine bP 0 ?_;refine bP 1 ?_;refine bP 2 ?_;refine bP 3 ?_;refine bP 4 ?_;refine bP 5 ?_;refine cJ 6 ?_;refine Gw (kt:=3) (et:=261) (kd:=.i64) (l:=nA s ((st.map mY).take i++st.drop i)) (v:=iP r ⟨left,false,false⟩) 2 (by kernel_rfl) (by kernel_rfl) rfl rfl rfl rfl ?_;rw[lK];dsimp only[List.set];refine eR ?_;refine kJ ?_;refine aA ?_;refine aT [2,3,4,5] rfl (by decide) (fun _ h=>h) ?_;refine Rk 1 rfl ?_;exact eP (st.length - (i+1)) ⟨i+1,n+1,A',k',_,hlt,by omega,rfl,rfl,rfl,rfl⟩
 ·obtain rfl:i=st.length:=by omega
  have vE:(st.map mY).take st.length++st.drop st.length=He st:=by
   rw[List.drop_eq_nil_of_le (by omega),List.append_nil,List.take_of_length_le (by simp)];rfl
  rw[vE];refine aA ?_;exact mI rfl rfl fun w1 t=>⟨(A,n,k),rfl,trivial,t.turns hF (by simp) (i:=1) rfl⟩
end
section
section
variable{N:cF}{w0 w:World}{e:Env}{R:List Piece}{H:List HP}{K:Act→World→Prop}{L:HL}{s:aC}{x:aS}
theorem pJ(i:Nat){o:Nat}{v:Value}(hi:H[i]? =some (dM L s x))(hv:(Vf L s.aD.length)[o]? =some v):Rd w0 R H L.h o v:=fun w t=>by
 obtain⟨F,⟨G,g1,g2,_⟩,h2,_⟩:=t.chunk hi
 have:=(uI (g1 0 _ rfl).2).at_ (j:=o) hv
 rw[Nat.zero_add] at this;exact this.2
end
variable(L:HL)(s:aC)(x:aS)(w:World)
theorem aGi(hH:s.dJ)(aQ:fZ L s)(hok:cT s x)(i:Int)(on:Bool)(F:Nat→Prop)(hp:(dM L s x).sat F w)(hF:∀b,F b→b < w.heap.size):
  Cz 178 #[.pointer (some ⟨L.h,0,none⟩),iv i,.bool on] w (Wr (iv (lR s x.ck i on).1) (dM L s {x with ck:=(lR s x.ck i on).2}) w F):=by
 have sM:=hH.t.nd
 refine cS func178 ntmps178 hp hF ?_;refine aA ?_;refine aU (fun w1 t=>Ay L s x w1 (t.mG 0 rfl aQ hok)) ?_;refine aA ?_;refine kd (bH rfl (pJ 0 rfl rfl)) ?_;refine aA ?_;refine aV 0 1 ?_;refine bU 0 (pF L.T s (lR s x.ck i on).2) (fun w1 F1 t h1 h2 h3=>aPN L.T s x.ck aQ.fa hok.ck i on w1 F1 h1 h2) ?_;refine aA ?_;refine aJ 0 1 ?_;exact bO 0 hF
theorem aGd(hH:s.dJ)(aQ:fZ L s)(hok:cT s x)(i:Int)(F:Nat→Prop)(hp:(dM L s x).sat F w)(hF:∀b,F b→b < w.heap.size):
  Cz 173 #[.pointer (some ⟨L.h,0,none⟩),iv i] w (Wr (iv (uT s x.dm i).1) (dM L s {x with dm:=(uT s x.dm i).2}) w F):=by
 have sM:=hH.t.nd
 refine cS func173 ntmps173 hp hF ?_;refine aA ?_;refine aU (fun w1 t=>Ay L s x w1 (t.mG 0 rfl aQ hok)) ?_;refine aA ?_;refine kd (bH rfl (pJ 0 rfl rfl)) ?_;refine aA ?_;refine aV 0 2 ?_;refine bU 0 (uP L.G s (uT s x.dm i).2) (fun w1 F1 t h1 h2 h3=>aLr L.G s x.dm hH hok.dm i w1 F1 h1 h2) ?_;refine aA ?_;refine aJ 0 2 ?_;exact bO 0 hF
theorem aN0(hH:s.dJ)(aQ:fZ L s)(hok:cT s x)(i:Int)(keep:Bool)(F:Nat→Prop)(hp:(dM L s x).sat F w)(hF:∀b,F b→b < w.heap.size):
  Cz 177 #[.pointer (some ⟨L.h,0,none⟩),iv i,.bool keep] w (Wr (iv (xF s x.dm i keep).1) (dM L s {x with dm:=(xF s x.dm i keep).2}) w F):=by
 have sM:=hH.t.nd
 refine cS func177 ntmps177 hp hF ?_;refine aA ?_;refine aU (fun w1 t=>Ay L s x w1 (t.mG 0 rfl aQ hok)) ?_;refine aA ?_;refine kd (bH rfl (pJ 0 rfl rfl)) ?_;refine aA ?_;refine aV 0 2 ?_;refine bU 0 (uP L.G s (xF s x.dm i keep).2) (fun w1 F1 t h1 h2 h3=>aLw L.G s x.dm hok.dm (by omega) i keep w1 F1 h1 h2) ?_;refine aA ?_;refine aJ 0 2 ?_;exact bO 0 hF
theorem aNx(hH:s.dJ)(aQ:fZ L s)(hok:cT s x)(i:Int)(F:Nat→Prop)(hp:(dM L s x).sat F w)(hF:∀b,F b→b < w.heap.size):
  Cz 181 #[.pointer (some ⟨L.h,0,none⟩),iv i] w (Wr (iv (wM x.ln i).1) (dM L s {x with ln:=(wM x.ln i).2}) w F):=by
 have sM:=hH.t.nd
 refine cS func181 ntmps181 hp hF ?_;refine aA ?_;refine aU (fun w1 t=>Ay L s x w1 (t.mG 0 rfl aQ hok)) ?_;refine aA ?_;refine kd (bH rfl (pJ 0 rfl rfl)) ?_;refine aA ?_;refine aV 0 3 ?_;refine bU 0 (oL L.R s (wM x.ln i).2) (fun w1 F1 t h1 h2 h3=>aKx L.R s x.ln hok.ln i w1 F1 h1 h2) ?_;refine aA ?_;refine aJ 0 3 ?_;exact bO 0 hF
end
section
def aAC(a b:Int):Int:=IntKind.u32.wrap (BitVec.ofInt 32 a&&& BitVec.ofInt 32 b).toNat
def Br(a b:Int):Int:=IntKind.u32.wrap (BitVec.ofInt 32 a&&& ~~~ BitVec.ofInt 32 b).toNat
def Ab(a b:Int):Int:=IntKind.u32.wrap (BitVec.ofInt 32 a||| BitVec.ofInt 32 b).toNat
theorem Nk(a:Int):0≤IntKind.u32.wrap a∧IntKind.u32.wrap a < 4294967296:=by
 unfold IntKind.wrap;simp only[IntKind.signed,IntKind.bits,Bool.false_and,Bool.false_eq_true,if_false];exact⟨Int.emod_nonneg _ (by decide),Int.emod_lt_of_pos _ (by decide)⟩
def uZ(many at':Int):Int:=IntKind.u32.wrap (IntKind.u64.wrap (IntKind.u64.wrap (IntKind.u64.wrap (1*2 ^ min many.toNat 64) - 1)*2 ^ min at'.toNat 64))
def cK(w low many:Int):Int:=aAC (w.fdiv (2 ^ min low.toNat 32)) (uZ many 0)
def wN(w low many v:Int):Int×Int:=if Br v (uZ many 0)≠0 then(0,1) else(Ab (Br w (uZ many low)) (IntKind.u32.wrap (v*2 ^ min low.toNat 32)),0)
def fU(w low many v:Int):Int×Int:=if v < 0∨IntKind.i64.wrap (1*2 ^ min many.toNat 64)≤v then(0,1) else if(wN w low many (IntKind.u32.wrap v)).2≠0 then(0,1) else((wN w low many (IntKind.u32.wrap v)).1,0)
def okF(low many:Int):Prop:=1≤many∧many≤32∧0≤low∧low≤32 - many
def aDM(many:Int)(v:Value)(w w':World):Prop:=∃g,v=.tuple #[.func (.func 217) #[] #[pt g],.bool true]∧RP (fresh w w') g 0 (iv many)
theorem aCS(a many:Int)(g:Nat)(w:World)(h:fS w g 0 (iv many))(ha:0≤a)(hm:0≤many):
  Cz 217 #[iv a,pt g] w (Rt (.int .u32 (uZ many a)) w):=by
 refine aN func217 ntmps217 ?_;refine aB ?_;refine Ng rfl rfl (by omega) rfl (by decide) ?_;refine Xz rfl rfl rfl (by decide) ?_;refine dN rfl (by decide) ?_;refine Ng rfl rfl (by omega) rfl (by decide) ?_;refine Cc (kd:=.u32) (ds:=.int .u64) (by kernel_rfl) (by kernel_rfl) rfl rfl (by decide) ?_;refine aB ?_;exact aP (h:=fun _ _=>rfl)
theorem aG6(low many:Int)(w:World)(hok:okF low many):Cz 199 #[iv low,iv many] w (fun y w'=>(∃x,y=.returned x∧aDM many x w w')∧Below w.heap.size w w'):=by
 refine aN func199 ntmps199 ?_;refine aA ?_;refine bN fun g1=>?_;refine aA ?_
 (first | refine bT (t:=8) rfl (fun hg=>?_) (fun hg=>?_) | refine qD (t:=8) rfl (fun hg=>?_) (fun hg=>?_))
 ·
  refine aA ?_;exact absurd hok (by unfold okF;omega)
 ·
  refine aA ?_
  (first | refine bT (t:=12) rfl (fun hg=>?_) (fun hg=>?_) | refine qD (t:=12) rfl (fun hg=>?_) (fun hg=>?_))
  ·
   refine aA ?_;exact absurd hok (by unfold okF;omega)
  ·
   refine aA ?_
   (first | refine bT (t:=16) rfl (fun hg=>?_) (fun hg=>?_) | refine qD (t:=16) rfl (fun hg=>?_) (fun hg=>?_))
   ·
    refine aA ?_;exact absurd hok (by unfold okF;omega)
   ·
    refine aA ?_;refine aG rfl (fun h=>?_) (fun h=>?_)
    ·
     refine aA ?_;exact absurd hok (by unfold okF;omega)
    ·
     refine aA ?_;refine kA (vf:=[]) (vc:=[pt g1]) rfl rfl (by decide) ?_;refine aA ?_;refine dF [] [0] [] (by simp) rfl (by decide) (by decide) fun q hq _ hfr=>?_;refine fQ rfl rfl rfl fun w1 st=>⟨⟨_,rfl,g1,rfl,(rP (o:=0) (v:=iv many) (hq 0 _ (by simp) rfl) rfl).le (st.mT (by simp) (hfr (by simp) (by simp)))⟩,st.below (by simp)⟩
theorem aGp(w0 low many:Int)(w:World)(hok:okF low many):
  Cz 169 #[.int .u32 w0,iv low,iv many] w (Rt (.tuple #[.int .u32 (cK w0 low many),iv 0]) w):=by
 refine aN func169 ntmps169 ?_;refine aB ?_;refine jN [] (aDM many) (fun w1 st=>aG6 low many w1 hok) ?_;rintro _ w1 q1 ⟨g,rfl,cQ⟩ hf _ _
 have cQ:=cQ.le hf
 clear hf;refine dN rfl (by decide) ?_;refine Yd rfl rfl (by decide) ?_;refine Yd rfl rfl (by decide) ?_;refine jM rfl (by decide) ?_;refine jM rfl (by decide) ?_;refine fD ?_;refine eA ?_;refine eA ?_;refine fR ?_;refine dN rfl (by decide) ?_
 (first | refine aEb rfl (by decide) ?_ | refine Eh rfl (by decide) ?_)
 refine fD ?_;refine pE rfl (fun h=>?_) (fun h=>?_)
 ·
  refine aB ?_;exact absurd h (by simp)
 ·
  refine oA ?_;refine eB ?_;refine eA ?_;refine qP 5 (by kernel_rfl) (by kernel_rfl) ?_;refine fX 0 rfl rfl rfl (lS rfl) ?_;refine fX 1 rfl rfl rfl (lS rfl) ?_;refine fX 2 rfl rfl rfl (aGL rfl rfl (by unfold okF at hok;omega) rfl) ?_;refine fX 3 rfl rfl rfl (lS rfl) ?_;refine cJ 4 ?_;refine xZ (f:=217) (fi:=[]) (ca:=[pt g]) (by kernel_rfl) rfl rfl (by decide) (fun w1 st=>aCS 0 many g w1 (cQ.le (st.le (by simp))) (by unfold okF at hok;omega) (by unfold okF at hok;omega)) ?_;refine mV ?_;refine cJ 5 ?_;refine Se (c:=cK w0 low many) rfl rfl (fun _=>rfl) (by simp) (by decide) ?_;refine eR ?_;refine cJ 6 ?_;refine jM rfl (by decide) ?_;refine eR ?_;refine cJ 7 ?_;refine jM rfl (by decide) ?_;refine eR ?_;refine kJ ?_;refine eB ?_;refine Re ?_;refine eB ?_;exact fQ rfl rfl rfl fun w1 st=>⟨rfl,st.below (by simp)⟩
theorem aBC(w0 low many v:Int)(w:World)(hok:okF low many):
  Cz 167 #[.int .u32 w0,iv low,iv many,.int .u32 v] w (Rt (.tuple #[.int .u32 (wN w0 low many v).1,iv (wN w0 low many v).2]) w):=by
 refine aN func167 ntmps167 ?_;refine aB ?_;refine jN [] (aDM many) (fun w1 st=>aG6 low many w1 hok) ?_;rintro _ w1 q1 ⟨g,rfl,cQ⟩ hf _ _
 have cQ:=cQ.le hf
 clear hf;refine dN rfl (by decide) ?_;refine Yd rfl rfl (by decide) ?_;refine Yd rfl rfl (by decide) ?_;refine jM rfl (by decide) ?_;refine jM rfl (by decide) ?_;refine fD ?_;refine eA ?_;refine eA ?_;refine fR ?_;refine dN rfl (by decide) ?_
 (first | refine aEb rfl (by decide) ?_ | refine Eh rfl (by decide) ?_)
 refine fD ?_;refine pE rfl (fun h=>?_) (fun h=>?_)
 ·
  refine aB ?_;exact absurd h (by simp)
 ·
  refine aB ?_;refine xZ (f:=217) (fi:=[]) (ca:=[pt g]) (by kernel_rfl) rfl rfl (by decide) (fun w1 st=>aCS 0 many g w1 (cQ.le (st.le (by simp))) (by unfold okF at hok;omega) (by unfold okF at hok;omega)) ?_;refine Se (c:=Br v (uZ many 0)) rfl rfl (fun _=>rfl) (by simp) (by decide) ?_;refine aB ?_;refine aG rfl (fun h=>?_) (fun h=>?_)
  ·
   refine aB ?_;refine fQ rfl rfl rfl fun w1 st=>⟨by rw[wN,if_pos h],st.below (by simp)⟩
  ·
   refine oA ?_;refine eB ?_;refine eA ?_;refine qP 8 (by kernel_rfl) (by kernel_rfl) ?_;refine fX 0 rfl rfl rfl (lS rfl) ?_;refine fX 1 rfl rfl rfl (lS rfl) ?_;refine fX 2 rfl rfl rfl (lS rfl) ?_;refine fX 5 rfl rfl rfl (lS rfl) ?_;refine fX 6 rfl rfl rfl (lS rfl) ?_;refine fX 7 rfl rfl rfl (aOW rfl rfl (by unfold okF at hok;omega) rfl) ?_;refine cJ 3 ?_;refine xZ (f:=217) (fi:=[]) (ca:=[pt g]) (by kernel_rfl) rfl rfl (by decide) (fun w1 st=>aCS low many g w1 (cQ.le (st.le (by simp))) (by unfold okF at hok;omega) (by unfold okF at hok;omega)) ?_;refine mV ?_;refine fX 4 rfl rfl rfl (aGS (c:=Br w0 (uZ many low)) rfl rfl (fun _=>rfl) (by simp)) ?_;refine cJ 8 ?_;refine Se (c:=Ab (Br w0 (uZ many low)) (IntKind.u32.wrap (v*2 ^ min low.toNat 32))) rfl rfl (fun _=>rfl) (by simp) (by decide) ?_;refine eR ?_;refine cJ 9 ?_;refine jM rfl (by decide) ?_;refine eR ?_;refine cJ 10 ?_;refine jM rfl (by decide) ?_;refine eR ?_;refine kJ ?_;refine eB ?_;refine Re ?_;refine eB ?_;refine fQ rfl rfl rfl fun w1 st=>⟨by rw[wN,if_neg h],st.below (by simp)⟩
theorem Tp(w0 low many:Int)(w:World)(hok:okF low many):
  Cz 129 #[.int .u32 w0,iv low,iv many] w (Rt (iv (cK w0 low many)) w):=by
 refine aN func129 ntmps129 ?_;refine aA ?_;refine cZ (fun w1 st=>aGp w0 low many w1 hok) ?_;refine aA ?_;refine Cc (ds:=.int .u32) (by kernel_rfl) (by kernel_rfl) rfl (iT (by have:=Nk (BitVec.ofInt 32 (w0.fdiv (2 ^ min low.toNat 32))&&& BitVec.ofInt 32 (uZ many 0)).toNat;unfold cK aAC;omega)) (by decide) ?_;refine aA ?_;exact aP (h:=fun _ _=>rfl)
theorem Zb(w0 low many v:Int)(w:World)(hok:okF low many):
  Cz 109 #[.int .u32 w0,iv low,iv many,iv v] w (Rt (.tuple #[.int .u32 (fU w0 low many v).1,iv (fU w0 low many v).2]) w):=by
 refine aN func109 ntmps109 ?_;refine aB ?_
 (first | refine bT (t:=13) rfl (fun hg=>?_) (fun hg=>?_) | refine qD (t:=13) rfl (fun hg=>?_) (fun hg=>?_))
 ·
  refine aB ?_;refine fQ rfl rfl rfl fun w1 st=>⟨by rw[fU,if_pos (.inl hg)],st.below (by simp)⟩
 ·
  refine jA rfl rfl ?_;refine dN rfl (by decide) ?_;refine jA rfl rfl ?_;refine dN rfl (by decide) ?_;refine jA rfl rfl ?_;refine Ng rfl rfl (by unfold okF at hok;omega) rfl (by decide) ?_;refine aB ?_;refine aG rfl (fun h=>?_) (fun h=>?_)
  ·
   refine aB ?_;refine fQ rfl rfl rfl fun w1 st=>⟨by rw[fU,if_pos (.inr h)],st.below (by simp)⟩
  ·
   refine oA ?_
   have hno:¬(v < 0∨IntKind.i64.wrap (1*2 ^ min many.toNat 64)≤v):=fun h2=>h2.elim hg h
   refine eB ?_;refine eA ?_;refine fR ?_;refine dN rfl (by decide) ?_;refine dN rfl (by decide) ?_;refine dN rfl (by decide) ?_;refine dN rfl (by decide) ?_;refine Cc (kd:=.u32) (ds:=.int .i64) (by kernel_rfl) (by kernel_rfl) rfl rfl (by decide) ?_;refine cZ (fun w1 st=>aBC w0 low many (IntKind.u32.wrap v) w1 hok) ?_;refine aB ?_;refine aG rfl (fun h2=>?_) (fun h2=>?_)
   ·
    refine aB ?_;refine fQ rfl rfl rfl fun w1 st=>⟨by rw[fU,if_neg hno,if_pos h2],st.below (by simp)⟩
   ·
    refine aB ?_;refine fQ rfl rfl rfl fun w1 st=>⟨by rw[fU,if_neg hno,if_neg h2];rfl,st.below (by simp)⟩
end
section
def Wj(bF:Int)(i:Nat):Bool:=decide (aAC (bF.fdiv (2 ^ min i 32)) 1=1)
def Cq(x:aS)(bF:Int)(n:Nat):List (dS×fF):=x.dv.mapIdx fun i p=>if i < n then(p.1,yE p.2 (decide (0 < oM x.wt i)) (Wj bF i)) else p
def Ga(k:Int)(d:cH)(f:dS):dS:=if k=115 then uV d f else if k=114 then Hi d f else if k=108∨k=110 then Dt d f else f
def Gb(s:aC)(e:Int×Nat)(i:Nat)(p:dS×fF):dS×fF:=match s.aD[i]? with
 | some d=>if d.domain=(e.2:Int) then(Ga e.1 d p.1,p.2) else p
 | none=>p
def Cr(s:aC)(dv:List (dS×fF))(e:Int×Nat)(n:Nat):List (dS×fF):=dv.mapIdx fun i p=>if i < n then Gb s e i p else p
def uG(s:aC)(dv:List (dS×fF))(e:Int×Nat):List (dS×fF):=Cr s dv e s.aD.length
def Sh(s:aC)(x:aS)(bF:Int):aS:=⟨mL s x.ck,pM x.dm,He x.ln,(kR x.dm s.domains.length).foldl (uG s) (Cq x bF s.aD.length),x.wt,x.bB⟩
theorem Og{α:Type}(l:List α)(f:Nat→α→α):(l.mapIdx fun i p=>if i < 0 then f i p else p)=l:=by
 refine List.ext_getElem? fun i=>?_;simp
theorem Oh{α:Type}{l:List α}{f:Nat→α→α}{n:Nat}{p:α}(hp:l[n]? =some p):(l.mapIdx fun i p=>if i < n then f i p else p).set n (f n p)=l.mapIdx fun i p=>if i < n+1 then f i p else p:=by
 refine List.ext_getElem? fun i=>?_
 have hlt:=(List.getElem?_eq_some_iff.1 hp).1
 rw[List.getElem?_set]
 by_cases he:n=i
 ·subst he;rw[if_pos rfl,if_pos (by simpa using hlt),List.getElem?_mapIdx,hp];simp
 ·rw[if_neg he,List.getElem?_mapIdx,List.getElem?_mapIdx];cases l[i]? with
  | none=>rfl
  | some q=>
   simp only[Option.map_some,Option.some.injEq]
   by_cases h:i < n
   ·rw[if_pos h,if_pos (by omega)]
   ·rw[if_neg h,if_neg (by omega)]
theorem Oi{α:Type}{l:List α}{f:Nat→α→α}{n:Nat}{p:α}(hp:l[n]? =some p):(l.mapIdx fun i p=>if i < n then f i p else p)[n]? =some p:=by
 rw[List.getElem?_mapIdx,hp];simp
theorem aAv{ds:List cH}{ls:List (FL×Nat)}{xs:List (dS×fF)}{i:Nat}{d:cH}{l:FL×Nat}{p:dS×fF}(hd:ds[i]? =some d)(hl:ls[i]? =some l)(hp:xs[i]? =some p):(xE ds ls xs)[i]? =some (Qg d (l,p)):=by
 have hq:(ls.zip xs)[i]? =some (l,p):=List.getElem?_zip_eq_some.2 ⟨hl,hp⟩
 rw[xE,List.getElem?_zipWith,hd,hq]
theorem aOG{ds:List cH}{ls:List (FL×Nat)}{xs:List (dS×fF)}{i:Nat}{d:cH}{l:FL×Nat}{p:dS×fF}(hd:ds[i]? =some d)(hl:ls[i]? =some l)(hp:xs[i]? =some p)(p':dS×fF):(xE ds ls xs).set i (Qg d (l,p'))=xE ds ls (xs.set i p'):=by
 refine List.ext_getElem? fun j=>?_
 have hlt:=(List.getElem?_eq_some_iff.1 (aAv hd hl hp)).1
 rw[List.getElem?_set]
 by_cases he:i=j
 ·subst he;rw[if_pos rfl,if_pos hlt];exact(aAv hd hl (List.getElem?_set_self (List.getElem?_eq_some_iff.1 hp).1)).symm
 ·rw[if_neg he];simp only[xE,List.getElem?_zipWith,List.zip,List.getElem?_set_ne he]
theorem aCU{ds:List cH}{ls:List (FL×Nat)}{i:Nat}{d:cH}{l:FL×Nat}(hd:ds[i]? =some d)(hl:ls[i]? =some l):(vG ds ls)[i]? =some (Ir d l):=by
 rw[vG,List.getElem?_zipWith,hd,hl]
theorem aCT{ds:List cH}{ls:List (FL×Nat)}:∀r∈vG ds ls,r.length=6:=fun r hr=>by
 obtain⟨i,hi⟩:=List.getElem?_of_mem hr;rw[vG,List.getElem?_zipWith] at hi;split at hi
 ·cases hi;rfl
 ·cases hi
theorem aJ4{x:fF}(h:zG x)(a b:Bool):zG (yE x a b):=by
 unfold yE;unfold zG at h⊢;split
 ·exact h
 ·split
  ·exact⟨(by show(0:Int)≤3;omega),(by show(3:Int)≤3;omega)⟩
  ·split
   ·exact h
   ·exact⟨(by show(0:Int)≤2;omega),(by show(2:Int)≤3;omega)⟩
theorem aKd{r:Rg}{p:Int×Int}(h1:0≤p.1∧p.1 < 4294967296)(h2:0≤p.2∧p.2 < 4294967296):0≤Kh r p∧Kh r p < 4294967296:=by
 unfold Kh;split<;>assumption
theorem aGV{d:cH}{f:dS}(k:Int)(hr:∀r∈d.aR,0≤r.reset∧r.reset≤6)(h:xT d f):xT d (Ga k d f):=by
 have hres:∀v∈d.aR.map (·.reset),0≤v∧v < 4294967296:=fun v hv=>by
  obtain⟨r,dQ,rfl⟩:=List.mem_map.1 hv
  have:=hr r dQ
  omega
 have h1:=h.now
 have h2:=h.saved
 unfold Ga;split
 ·refine⟨h1,by simp[uV];omega,h.u.1,fun v hv=>?_⟩;obtain⟨i,hi⟩:=List.getElem?_of_mem hv;simp only[uV,List.getElem?_zipWith] at hi;split at hi
  ·rename_i r p dQ gE
   cases hi;obtain⟨Lc,hp3⟩:=List.getElem?_zip_eq_some.1 gE;exact aKd (h.u.1 _ (List.mem_of_getElem? Lc)) (h.u.2 _ (List.mem_of_getElem? hp3))
  ·cases hi
 ·split
  ·refine⟨by simp[Hi];omega,h2,fun v hv=>?_,h.u.2⟩;obtain⟨i,hi⟩:=List.getElem?_of_mem hv;simp only[Hi,List.getElem?_zipWith] at hi;split at hi
   ·rename_i r p dQ gE
    cases hi;unfold Yv;split
    ·exact h.u.2 _ (List.mem_of_getElem? gE)
    ·have:=hr r (List.mem_of_getElem? dQ)
     omega
   ·cases hi
  ·split
   ·exact⟨by simp[Dt],h2,hres,h.u.2⟩
   ·exact h
theorem Tr{s:aC}{x:aS}(hH:s.dJ)(hok:cT s x){dv:List (dS×fF)}(hl:dv.length=x.dv.length)(h:∀(i:Nat) (d:cH) (p:dS×fF),s.aD[i]? =some d→dv[i]? =some p→xT d p.1∧zG p.2):cT s {x with dv:=dv}:=⟨hok.ck,hok.dm,hok.ln,hl.trans hok.dv,h,hok.wt⟩
theorem aBX{s:aC}{x:aS}(hH:s.dJ)(hok:cT s x)(bF:Int)(n:Nat):cT s {x with dv:=Cq x bF n}:=Tr hH hok (by simp[Cq]) fun i d p hd hp=>by
 rw[Cq,List.getElem?_mapIdx] at hp;cases hq:x.dv[i]? with
 | none=>rw[hq] at hp;cases hp
 | some q=>
  rw[hq] at hp;obtain⟨h1,h2⟩:=hok.each i d q hd hq;simp only[Option.map_some,Option.some.injEq] at hp;subst hp;split
  ·exact⟨h1,aJ4 h2 _ _⟩
  ·exact⟨h1,h2⟩
theorem aF1{s:aC}{x:aS}(hH:s.dJ)(hok:cT s x)(e:Int×Nat)(n:Nat):cT s {x with dv:=Cr s x.dv e n}:=Tr hH hok (by simp[Cr]) fun i d p hd hp=>by
 rw[Cr,List.getElem?_mapIdx] at hp;cases hq:x.dv[i]? with
 | none=>rw[hq] at hp;cases hp
 | some q =>
  rw[hq] at hp;obtain⟨h1,h2⟩:=hok.each i d q hd hq;simp only[Option.map_some,Option.some.injEq] at hp;subst hp;split
  ·unfold Gb;rw[hd];dsimp only;split
   ·exact⟨aGV _ (hH.t.aD i d hd).2.2.2.2.2.2.2.2.2.1 h1,h2⟩
   ·exact⟨h1,h2⟩
  ·exact⟨h1,h2⟩
theorem aCL{s:aC}(hH:s.dJ):∀(es:List (Int×Nat)) (x:aS),cT s x→cT s {x with dv:=es.foldl (uG s) x.dv}
 | [],x,h=>h
 | e::es,x,h=>aCL hH es {x with dv:=uG s x.dv e} (aF1 hH h e _)
theorem aMk{s:aC}{dv:List (dS×fF)}{e:Int×Nat}(h:¬(e.1=115∨e.1=114∨e.1=108∨e.1=110)):uG s dv e=dv:=by
 unfold uG Cr;refine List.ext_getElem? fun i=>?_;rw[List.getElem?_mapIdx];cases dv[i]? with
 | none=>rfl
 | some p =>
  simp only[Option.map_some,Option.some.injEq];split
  ·unfold Gb;split
   ·split
    ·have:Ga e.1 (by assumption) p.1=p.1:=by
      unfold Ga;rw[if_neg (by omega),if_neg (by omega),if_neg (by omega)]
     rw[this]
    ·rfl
   ·rfl
  ·rfl
theorem aJ6{s:aC}{st:List jY}(h:Ed s st):Ed s (He st):=by
 refine⟨by simp[He,h.len],fun x hx=>?_⟩;obtain⟨y,hy,rfl⟩:=List.mem_map.1 hx
 have:=h.left y hy
 unfold mY;split
 ·exact this
 ·split
  ·dsimp only;omega
  ·split
   ·exact this
   ·exact this
theorem aJ3{s:aC}{x:aS}(hH:s.dJ)(hok:cT s x)(bF:Int):cT s (Sh s x bF):=by
 have h1:=aCL hH (kR x.dm s.domains.length) _ (aBX hH hok bF s.aD.length)
 exact⟨aBy hH hok.ck,aBx hok.dm,aJ6 hok.ln,h1.dv,h1.each,hok.wt⟩
section
variable{N:cF}{w0 w:World}{e:Env}{R:List Piece}{H:List HP}{K:Act→World→Prop}{L:HL}{s:aC}{x:aS}
def aGh(L:HL)(s:aC)(x:aS):HP:=HP.many [HP.aE L.h 203 (Vf L s.aD.length),pF L.T s x.ck,uP L.G s x.dm,oL L.R s x.ln,xW L.B (jS s) x.wt x.bB,HP.own 210 6 (.slice L.A s.aD.length L.c) s.aD.length (vG s.aD L.ds).flatten,cG]
def aGG(L:HL)(s:aC)(x:aS)(i:Nat):HP:=HP.many ((xE s.aD L.ds x.dv).set i cG)
theorem Rf(j i:Nat){d:cH}{l:FL×Nat}{p:dS×fF}(hj:H[j]? =some (dM L s x))(hd:s.aD[i]? =some d)(hl:L.ds[i]? =some l)(hp:x.dv[i]? =some p)
  (k:XK N w0 K e R (HP.many [gR l.1 d p.1,tF l.2 p.2]::aGG L s x i::H.set j (aGh L s x))):XK N w0 K e R H:=by
 refine qM j 6 hj rfl ?_;refine qM 0 i rfl (aAv hd hl hp) ?_;exact k
theorem Rm(j i:Nat){d:cH}{l:FL×Nat}{p p':dS×fF}(hj:H[j]? =some (aGh L s x))(hd:s.aD[i]? =some d)(hl:L.ds[i]? =some l)(hp:x.dv[i]? =some p)
  (k:XK N w0 K e R (H.set j (dM L s {x with dv:=x.dv.set i p'}))):XK N w0 K e R (HP.many [gR l.1 d p'.1,tF l.2 p'.2]::aGG L s x i::H):=by
 have hlt:=(List.getElem?_eq_some_iff.1 (aAv hd hl hp)).1
 refine qO 0 i rfl (by rw[List.getElem?_set_self (by simpa using hlt)]) ?_;dsimp only[List.set];refine qO j 6 hj rfl ?_;rw[List.set_set,show HP.many [gR l.1 d p'.1,tF l.2 p'.2]=Qg d (l,p') from rfl,aOG hd hl hp p'];exact k
theorem Mj(j:Nat)(hj:H[j]? =some (dM L s x))(aQ:fZ L s)(hok:cT s x)(hn:0 < s.aD.length)(k:∀b off,L.A=some ⟨b,off,none⟩→XK N w0 K e R H):XK N w0 K e R H:=fun a w hr st=>by
 obtain⟨b,off,hA,_⟩:=(st.mG j hj aQ hok).rows.2 hn;exact k b off hA a w hr st
theorem aO.dev(j:Nat){i b off o:Nat}{d:cH}{l:FL×Nat}(hj:H[j]? =some (dM L s x))(aQ:fZ L s)(hok:cT s x)(hA:L.A=some ⟨b,off,none⟩)(hd:s.aD[i]? =some d)(hl:L.ds[i]? =some l)(ho:o=off+i*6):aO w0 R H b o (Ir d l):=.of fun k v hv w st=>by
 obtain⟨b',off',pV,hr⟩:=aI.row (st.mG j hj aQ hok).rows (rows:=vG s.aD L.ds) (fun r hr=>aCT r hr) (aCU hd hl) (List.getElem?_eq_some_iff.1 hd).1;rw[hA] at pV;cases pV;subst ho;exact(hr.2 k v hv)
end
end
section
section
variable{P:Program}{N:cF}{w0:World}{e:Env}{R:List Piece}{H:List HP}{Q:Exit→Act→World→Prop}{ops:Array Oper}{rest:List Oper}
variable{d:Nat}{ty:TypeId}{pos:String}{aH:Array Edge}
theorem vU{α:Type}(i:Nat){f:FuncId}{x:Operand}{args:List Operand}{fi ca vs:List Value}{tys:Array TypeId}{p:HP}(v:α→Value)(q:α→HP)(G:α→Prop)(hf:eY P f=true)(hx:e.ev x=some (.func (.func f) fi.toArray ca.toArray))(ha:e.fM args=some vs)(hi:H[i]? =some p)(hd:d < N.n)
  (hc:∀w F,St w0 R H w→p.sat F w→(∀b,F b→b < w.heap.size)→(∀q∈R,q.Le ⟨w,fun b=>b < w.heap.size∧¬F b⟩)→Calls P f (fi++vs++ca).toArray w fun y w'=>∃a,y=.returned (v a)∧G a∧∃F',(q a).sat F' w'∧iC w w' F F')
  (k:∀a,G a→XK N w0 (wpList P ops Q rest) ((d,v a)::e) R (H.set i (q a))):XK N w0 (wpList P ops Q (⟨some d,.call {callee:=.value x,args:=args.toArray,argTypes:=tys},ty,pos,aH,none⟩::rest)) e R H:=fun a w hr st=>wpList_plain rfl fun K hK=>by
 unfold eY at hf;cases hq:P.funcs[f]? with
 | none=>simp[hq] at hf
 | some fn =>
  simp[hq] at hf;obtain⟨gH,mS⟩:=hf
  have hrun:(execOp a.eval (⟨some d,.call {callee:=.value x,args:=args.toArray,argTypes:=tys},ty,pos,aH,none⟩:Oper)).run P w=.ok (.enter f (fi++vs++ca).toArray) w:=by
   cases hb:fn.body with
   | none=>simp[hb] at mS
   | some c=>simp[execOp,resolve,hr.ev hx,Deferred.ofValue,invoke,callFunc,hq,gH,hb,hr.fM ha]
  obtain⟨F,hp,hlt,hle,lK⟩:=st.chunk hi;unfold Oper.wp;rw[hrun];refine(hc w F st hp hlt hle).mono fun y w' hy=>?_;obtain⟨a',rfl,hG,F',hs,ht⟩:=hy;exact hK _ _ (k a' hG _ _ (hr.put hd (v a')) (lK w' F' (q a') hs ht))
end
end
section
section
variable{P:Program}{N:cF}{w0:World}{e:Env}{R:List Piece}{H:List HP}{d:Nat}{ty:TypeId}{pos:String}{aH:Array Edge}
def aGr(P:Program)(t:TypeId):Bool:=match P.underlying t with
 | some (.func ..)=>true
 | _=>false
theorem aKr(w:World)(n:Nat)(t:TypeId){f1 f2:Array TypeId}{f3:Bool}(hu:P.underlying t=some (.func f1 f2 f3)):(Op.equalIn (n+1) t .nilFunc .nilFunc).run P w=.ok true w:=by simp[Op.equalIn,run_underlying hu]
theorem aKt(w:World)(n:Nat)(t:TypeId){f1 f2:Array TypeId}{f3:Bool}(f:Fn)(fi ca:Array Value)(hu:P.underlying t=some (.func f1 f2 f3)):(Op.equalIn (n+1) t (.func f fi ca) .nilFunc).run P w=.ok false w:=by simp[Op.equalIn,run_underlying hu]
theorem aGR{x:Operand}{t u:TypeId}{v:Value}{b:Bool}(hx:e.ev x=some v)(hv:(v=.nilFunc∧b=true)∨(∃f a c,v=.func f a c)∧b=false)(ht:aGr P t=true:=by kernel_rfl):bQ P N w0 e R H ⟨some d,.binOp .eql t x (.const .nilFunc) u,ty,pos,aH,none⟩ (.bool b):=gT fun a w hr=>by
 have h2:=hr.ev (show e.ev (.const .nilFunc)=some .nilFunc from rfl)
 unfold aGr at ht;split at ht
 ·rename_i f1 f2 f3 hu
  rcases hv with⟨rfl,rfl⟩ | ⟨⟨f,fi,ca,rfl⟩,rfl⟩
  ·have h4:(Op.equal t .nilFunc .nilFunc).run P w=.ok true w:=aKr w 9999 t hu
   simp[execOp,hr.ev hx,h2,eqGuard,binOp,h4]
  ·have h4:(Op.equal t (.func f fi ca) .nilFunc).run P w=.ok false w:=aKt w 9999 t f fi ca hu
   simp[execOp,hr.ev hx,h2,eqGuard,binOp,h4]
 ·cases ht
end
def Fz(k:Int):Value:=if k=115 then .func (.func 195) #[] #[] else if k=114 then .func (.func 196) #[] #[] else if k=108∨k=110 then .func (.func 160) #[] #[] else .nilFunc
theorem aN1(k:Int)(w:World):Cz 156 #[.int .u8 k] w (Rt (Fz k) w):=by
 refine aN func156 ntmps156 ?_;refine aA ?_;refine aG rfl (fun h1=>?_) (fun h1=>?_)
 ·refine aA ?_;exact dI (by rw[Fz,if_pos h1])
 refine aA ?_;refine aG rfl (fun h2=>?_) (fun h2=>?_)
 ·refine aA ?_;exact dI (by rw[Fz,if_neg h1,if_pos h2])
 refine aA ?_;refine aG rfl (fun h3=>?_) (fun h3=>?_)
 ·refine aA ?_;refine aG rfl (fun _=>?_) (fun h=>absurd h3 h);refine aA ?_;exact dI (by rw[Fz,if_neg h1,if_neg h2,if_pos (.inl h3)])
 ·refine aA ?_;refine aG rfl (fun h4=>?_) (fun h4=>?_)
  ·refine aA ?_;exact dI (by rw[Fz,if_neg h1,if_neg h2,if_pos (.inr h4)])
  ·refine aA ?_;exact dI (by rw[Fz,if_neg h1,if_neg h2,if_neg (by omega)])
theorem aPz{k:Int}(hk:k=115∨k=114∨k=108∨k=110):∃f:FuncId,Fz k=.func (.func f) #[] #[]∧eY Tryz.prog f=true∧∀(L:FL) (d:cH) (x:dS) (hrl:d.aR.length≤100) (hok:xT d x) (w:World) (F:Nat→Prop) (hp:(gR L d x).sat F w) (hF:∀b,F b→b < w.heap.size),
  Cz f #[.pointer (some ⟨L.f,0,none⟩)] w (Wr (.tuple #[]) (gR L d (Ga k d x)) w F):=by
 rcases hk with rfl | rfl | rfl | rfl
 ·exact⟨_,rfl,(by kernel_rfl),aKS⟩
 ·exact⟨_,rfl,(by kernel_rfl),aKT⟩
 ·exact⟨_,rfl,(by kernel_rfl),Yx⟩
 ·exact⟨_,rfl,(by kernel_rfl),Yx⟩
theorem aQs(L:BL)(ms:List Int)(ws:List (Option iY))(bB:Int)(i:Nat)(hi:i < ms.length)(h0:oM ws i=0)(w:World)(hR:Gv w L ms ws bB):
  Cz 190 #[.pointer (some ⟨L.b,0,none⟩),iv (i:Int)] w (Rt (.tuple #[.agg #[iv 0,.bool false,iv 0,.int .u32 0],.bool false]) w):=by
 have k1:=hR.r0.at_ (j:=1) rfl
 obtain⟨A,c,k2⟩:=hR.wt i hi;rw[h0] at k2
 have hin:bZ ms.length (i:Int)=true:=decide_eq_true (by omega)
 refine aN func190 ntmps190 ?_;refine aA ?_;refine bX fun g1=>?_;refine aA ?_;refine aU (fun w1 t=>aA8 L ms ws bB i w1 (hR.below (t.below (by simp)))) ?_;rw[hin];refine aB ?_;exact yY (vs:=[iv 0,.bool false,iv 0,.int .u32 0]) rfl (by kernel_rfl) rfl rfl (aO.whole 0 rfl) rfl fun w1 t=>⟨rfl,t.below (by simp)⟩
theorem aN4(L:HL)(s:aC)(x:aS)(i:Nat)(hi:i < s.aD.length)(h0:oM x.wt i=0)(w:World)(hR:tH w L s x):
  Cz 151 #[.pointer (some ⟨L.h,0,none⟩),iv (i:Int)] w (Rt (.tuple #[.agg #[iv 0,iv 0,.bool false,.int .u32 0],.bool false]) w):=by
 have k3:=hR.r0.at_ (j:=3) rfl
 refine aN func151 ntmps151 ?_;refine aA ?_;refine bX fun g1=>?_;refine aA ?_;refine aU (fun w1 t=>aQs L.B (jS s) x.wt x.bB i (by rw[Ev];exact hi) h0 w1 (hR.bus.below (t.below (by simp)))) ?_;refine aA ?_;refine bX fun g2=>?_;refine aB ?_;exact yY (vs:=[iv 0,iv 0,.bool false,.int .u32 0]) rfl (by kernel_rfl) rfl rfl (aO.whole 1 rfl) rfl fun w1 t=>⟨rfl,t.below (by simp)⟩
end
section
section
variable{P:Program}{ops:Array Oper}{Q:Exit→Act→World→Prop}{N:cF}{w0:World}{e e':Env}{R R':List Piece}{H H':List HP}{rest:List Oper}{d:Nat}{ty:TypeId}{pos:String}{aH:Array Edge}
def isIface(P:Program)(t:TypeId):Bool:=match P.underlying t with
 | some (.interface _)=>true
 | _=>false
def aFs(P:Program)(t:TypeId):Bool:=match P.underlying t with
 | some (.interface _)=>false
 | some _=>true
 | none=>false
theorem Qk{x:Operand}{t:TypeId}{v:Value}(hx:e.ev x=some v)(ht:aFs P t=true:=by kernel_rfl):bQ P N w0 e R H ⟨some d,.makeInterface t x,ty,pos,aH,none⟩ (.iface t v):=gT fun a w hr=>by
 unfold aFs at ht;cases hu:P.underlying t with
 | none=>rw[hu] at ht;cases ht
 | some u=>cases u<;>first | (rw[hu] at ht;cases ht;done) | simp[execOp,hr.ev hx,Instr.makeInterface,run_underlying hu]
theorem aKs(w:World)(n:Nat)(t:TypeId){f:Array (String×TypeId)}(hu:P.underlying t=some (.interface f)):(Op.equalIn (n+1) t .nilIface .nilIface).run P w=.ok true w:=by simp[Op.equalIn,run_underlying hu]
theorem aKp(w:World)(n:Nat)(t:TypeId){f:Array (String×TypeId)}(u:TypeId)(v:Value)(hu:P.underlying t=some (.interface f)):(Op.equalIn (n+1) t (.iface u v) .nilIface).run P w=.ok false w:=by simp[Op.equalIn,run_underlying hu]
theorem aGP{x:Operand}{t u:TypeId}{v:Value}{b:Bool}(hx:e.ev x=some v)(hv:(v=.nilIface∧b=true)∨(∃u y,v=.iface u y)∧b=false)(ht:isIface P t=true:=by kernel_rfl):bQ P N w0 e R H ⟨some d,.binOp .eql t x (.const .nilIface) u,ty,pos,aH,none⟩ (.bool b):=gT fun a w hr=>by
 have h2:=hr.ev (show e.ev (.const .nilIface)=some .nilIface from rfl)
 unfold isIface at ht;split at ht
 ·rename_i f1 hu
  rcases hv with⟨rfl,rfl⟩ | ⟨⟨u,y,rfl⟩,rfl⟩
  ·have h4:(Op.equal t .nilIface .nilIface).run P w=.ok true w:=aKs w 9999 t hu
   simp[execOp,hr.ev hx,h2,eqGuard,binOp,h4]
  ·have h4:(Op.equal t (.iface u y) .nilIface).run P w=.ok false w:=aKp w 9999 t u y hu
   simp[execOp,hr.ev hx,h2,eqGuard,binOp,h4]
 ·cases ht
theorem aIN(i:Nat){dst:Option Nat}{e':Env}{f:FuncId}{x:Operand}{name:String}{args:List Operand}{vs:List Value}{tys:Array TypeId}{tx:TypeId}{u u':Value}{p:HP}{v:Value}(q:HP)(hf:eY P f=true)(hx:e.ev x=some (.iface tx u))(hm:∀w,(method (P.types.size+Made.depth) tx u name).run P w=.ok (f,u') w)(ha:e.fM args=some vs)(hi:H[i]? =some p)
  (hd:match dst with | some d=>d < N.n∧e'=(d,v)::e | none=>e'=e)
  (hc:∀w F,St w0 R H w→p.sat F w→(∀b,F b→b < w.heap.size)→(∀q∈R,q.Le ⟨w,fun b=>b < w.heap.size∧¬F b⟩)→Calls P f (u'::vs).toArray w fun y w'=>y=.returned v∧∃F',q.sat F' w'∧iC w w' F F')
  (k:XK N w0 (wpList P ops Q rest) e' R (H.set i q)):XK N w0 (wpList P ops Q (⟨dst,.call {callee:=.invoke x name,args:=args.toArray,argTypes:=tys},ty,pos,aH,none⟩::rest)) e R H:=fun a w hr st=>wpList_plain rfl fun K hK=>by
 unfold eY at hf;cases hq:P.funcs[f]? with
 | none=>simp[hq] at hf
 | some fn =>
  simp[hq] at hf;obtain⟨gH,mS⟩:=hf
  have hrun:(execOp a.eval (⟨dst,.call {callee:=.invoke x name,args:=args.toArray,argTypes:=tys},ty,pos,aH,none⟩:Oper)).run P w=.ok (.enter f (u'::vs).toArray) w:=by
   cases hb:fn.body with
   | none=>simp[hb] at mS
   | some c=>
    have h0:(#[Value.iface tx u]++(args.toArray.map a.eval))[0]? =some (.iface tx u):=by simp[Array.getElem?_append]
    simp[execOp,resolve,hr.ev hx,invoke,callMethod,hm,callFunc,hq,gH,hb,hr.fM ha]
  obtain⟨Z,F,hz,cP,hs,cX,eO⟩:=st.ex;unfold Oper.wp;rw[hrun];refine(hc w (F i) st (hs i p hi) (fun b hb=>(cX i b hb).2) (fun q hq b hb=>⟨⟨hz b (cP q hq b hb).1,fun nX=>(cX i b nX).1 (cP q hq b hb).1⟩,(cP q hq b hb).2⟩)).mono fun y w' ⟨hy,F',nO,ht⟩=>?_;subst hy
  have st':St w0 R (H.set i q) w':=by
   have hlt:i < H.length:=by
    rcases Nat.lt_or_ge i H.length with h | h
    ·exact h
    ·rw[List.getElem?_eq_none h] at hi;cases hi
   refine⟨ht.os.trans st.os,ht.tape.trans st.tape,ht.output.trans st.output,Nat.le_trans st.size ht.size,Z,fun j=>if j=i then F' else F j,fun b h=>Nat.lt_of_lt_of_le (hz b h) ht.size,fun p hp b h=>?_,fun j r hj=>?_,fun j b h=>?_,fun j k b kG h=>?_⟩
   ·exact⟨(cP p hp b h).1,(ht.old b (hz b (cP p hp b h).1) (fun nX=>(cX i b nX).1 (cP p hp b h).1)).trans (cP p hp b h).2⟩
   ·rw[List.getElem?_set] at hj;split at hj
    ·rename_i e;subst e
     first | (rw[if_pos hlt] at hj;cases hj) | cases hj
     simpa using nO
    ·rename_i e
     simp only[if_neg (Ne.symm e)];exact r.loc _ _ _ (hs j r hj) (fun b hb=>ht.old b (cX j b hb).2 (eO j i b (Ne.symm e) hb))
   ·dsimp only at h;split at h
    ·refine⟨fun fG=>?_,(ht.new b h).2⟩;rcases(ht.new b h).1 with h | h
     ·exact(cX i b h).1 fG
     ·have:=hz b fG;omega
    ·exact⟨(cX j b h).1,Nat.lt_of_lt_of_le (cX j b h).2 ht.size⟩
   ·dsimp only at h⊢;split at h<;>split
    ·rename_i h1 h2;omega
    ·rename_i e1 e2
     intro hk;rcases(ht.new b h).1 with h | h
     ·exact eO i k b (by omega) h hk
     ·have:=(cX k b hk).2;omega
    ·rename_i e1 e2
     intro hk;rcases(ht.new b hk).1 with hk | hk
     ·exact eO j i b (by omega) h hk
     ·have:=(cX j b h).2;omega
    ·exact eO j k b kG h
  cases dst with
  | none=>dsimp only at hd;subst hd;exact hK _ _ (k _ _ hr st')
  | some d=>dsimp only at hd;obtain⟨hd,rfl⟩:=hd;exact hK _ _ (k _ _ (hr.put hd v) st')
end
end
section
open Go.RowKit Go.Shelf
attribute [local go_sem] Oper.semAt_some
def dY(zs:List Int):List Value:=zs.map (Value.int .u32)
end
section
section
variable{P:Program}{N:cF}{w0:World}{e:Env}{R:List Piece}{H:List HP}{Q:Exit→Act→World→Prop}{ops:Array Oper}{rest:List Oper}
variable{d:Nat}{ty:TypeId}{pos:String}{aH:Array Edge}
theorem aE3{t el:TypeId}(ht:P.underlying t=some (.slice el)):P.underlying t=some (.slice (P.elem t)):=by
 unfold Program.elem;rw[ht]
theorem elem_eq{t el:TypeId}(ht:P.underlying t=some (.slice el)):P.elem t=el:=by unfold Program.elem;rw[ht]
theorem aKg{t el:TypeId}{sz n c k:Nat}{A:Option Addr}{kd:IntKind}(ht:P.underlying t=some (.slice el))(hsz:(P.info? el).map (·.size)=some sz)(hk:k≤c)(w:World):
  ∃A',(0 < k→(∃b off,A=some ⟨b,off,none⟩)→A'=A)∧(Instr.sliceAt t (.slice A n c) none (some (.int kd (k:Int))) none).run P w=.ok (.slice A' k c) w:=by
 obtain⟨i,hi,hs⟩:=Option.map_eq_some_iff.1 hsz
 have hel:=elem_eq ht
 refine⟨_,?_,by rw[run_sliceAt_slice w t _ _ _ _ (aE3 ht),run_slice_h w t A n c (aE3 ht) kd k (by omega) (by omega),hel];simp[sizeOf,typeInfo,hi,sliced];rfl⟩;rintro h0 ⟨b,off,rfl⟩;split
 ·rfl
 ·simp[Addr.add]
theorem aIC(k:Nat){x hi:Operand}{t el:TypeId}{sz n c:Nat}{A:Option Addr}{kd:IntKind}{j:Int}(ht:P.underlying t=some (.slice el))(hsz:(P.info? el).map (·.size)=some sz)(hx:e.ev x=some (.slice A n c))(hh:e.ev hi=some (.int kd j))(hj:j=(k:Int))(hk:k≤c)(hd:d < N.n)
  (kk:∀A',(0 < k→(∃b off,A=some ⟨b,off,none⟩)→A'=A)→XK N w0 (wpList P ops Q rest) ((d,.slice A' k c)::e) R H):XK N w0 (wpList P ops Q (⟨some d,.slice t x none (some hi) none,ty,pos,aH,none⟩::rest)) e R H:=
 rW rfl fun a w hr st=>by
  subst hj;obtain⟨A',h1,h2⟩:=aKg (P:=P) (kd:=kd) ht hsz hk w (n:=n) (A:=A);exact⟨_,w,by simp only[execOp,hr.ev hx,Option.map_some,Option.map_none,hr.ev hh,Sem.run_bind,h2,Result.andThen_ok,Sem.run_pure],kk A' h1 _ _ (hr.put hd _) st⟩
end
theorem aI.aJA{p:Piece}{sz n k:Nat}{A A':Option Addr}{xs:List Value}(h:aI p sz A n xs)(hk:k≤n)(hA:0 < k→(∃b off,A=some ⟨b,off,none⟩)→A'=A):aI p sz A' k (xs.take (k*sz)):=by
 refine⟨by rw[List.length_take,h.1];exact Nat.min_eq_left (Nat.mul_le_mul_right _ hk),fun h0=>?_⟩;obtain⟨b,off,Pu,hz,hc⟩:=h.2 (by omega);refine⟨b,off,by rw[hA h0 ⟨b,off,Pu⟩,Pu],hz,fun j u hu=>hc j u ?_⟩;rw[List.getElem?_take] at hu;split at hu
 ·exact hu
 ·cases hu
def jG(l:List (Int×Int))(k:Int):Int:=((l.find? fun p=>decide (p.1=k)).map (·.2)).getD 0
def zU:List (Int×Int)→Int→Int→List (Int×Int)
 | [],k,v=>[(k,v)]
 | (a,b)::r,k,v=>if a=k then(k,v)::r else(a,b)::zU r k v
def vH(l:List (Int×Int)):List (Int×Value):=l.map fun p=>(p.1,iv p.2)
theorem aF4:∀(l:List (Int×Int)) (k:Int),(mB (vH l) k).getD (iv 0)=iv (jG l k)
 | [],k=>rfl
 | (a, b) :: l, k => by
  have ih:=aF4 l k
  show(mB ((a,iv b)::vH l) k).getD _=_
  rw[Of];unfold jG;rw[List.find?_cons]
  by_cases h:a=k
  ·simp[h]
  ·simp only[h,if_false,decide_false,Bool.false_eq_true];exact ih
theorem aFy:∀(l:List (Int×Int)) (k v:Int),nL (vH l) k (iv v)=vH (zU l k v)
 | [],k,v=>rfl
 | (a,b)::l,k,v=>by
  show nL ((a,iv b)::vH l) k _=vH (if a=k then _ else _)
  unfold nL
  by_cases h:a=k
  ·rw[if_pos h,if_pos h];rfl
  ·rw[if_neg h,if_neg h,aFy l k v];rfl
end
section
structure Cn where
 l:List (Int×Int)
 lT:Bool
def rH(nd:Nat)(c:Cn)(dev:Int):Int×Cn:=if c.lT then(6,c) else if ¬(0≤dev∧dev < nd) then(4,c) else if 7≤jG c.l dev then(8,c) else(0,⟨zU c.l dev (IntKind.i64.wrap (jG c.l dev+1)),c.lT⟩)
def uH(nd:Nat)(c:Cn)(dev:Int):Int×Cn:=if c.lT then(6,c) else if ¬(0≤dev∧dev < nd) then(4,c) else if jG c.l dev≤0 then(6,c) else(0,⟨zU c.l dev (IntKind.i64.wrap (jG c.l dev - 1)),c.lT⟩)
def xI(c:Cn):Int×Cn:=if c.lT then(6,c) else(0,⟨c.l,true⟩)
def xJ(c:Cn):Int×Cn:=if c.lT then(0,⟨c.l,false⟩) else(6,c)
def qT(gc gm:Nat)(v:Value)(c:Cn):HP:=HP.many [HP.aE gc 277 [v,.map (some gm),.bool c.lT],HP.map gm (vH c.l)]
section
variable{N:cF}{w0:World}{e:Env}{R:List Piece}{H:List HP}{Q:Exit→Act→World→Prop}{ops:Array Oper}{rest:List Oper}{d:Nat}{ty:TypeId}{pos:String}{aH:Array Edge}
theorem Tx{x y:Operand}(i:Nat){r:Nat}{l:List (Int×Int)}{k:Int}(hi:H[i]? =some (HP.map r (vH l)))(kk:XK N w0 (wpList Tryz.prog ops Q rest) ((d,iv (jG l k))::e) R H)(hx:e.ev x=some (.map (some r)):=by rfl)(hy:e.ev y=some (iv k):=by rfl)(hd:d < N.n:=by decide):
  XK N w0 (wpList Tryz.prog ops Q (⟨some d,.lookup 275 x y false,ty,pos,aH,none⟩::rest)) e R H:=by
 refine Yc (kt:=3) (et:=3) (kd:=.i64) (z:=iv 0) (l:=vH l) false (by kernel_rfl) (by kernel_rfl) (by kernel_rfl) hx hy (fun w1 st=>st.map hi) hd ?_;simp only[Bool.false_eq_true,if_false,aF4];exact kk
theorem aFD{x y u:Operand}(i:Nat){r:Nat}{l:List (Int×Int)}{k v:Int}(hi:H[i]? =some (HP.map r (vH l)))(kk:XK N w0 (wpList Tryz.prog ops Q rest) e R (H.set i (HP.map r (vH (zU l k v)))))(hx:e.ev x=some (.map (some r)):=by rfl)(hy:e.ev y=some (iv k):=by rfl)(hu:e.ev u=some (iv v):=by rfl):
  XK N w0 (wpList Tryz.prog ops Q (⟨none,.mapUpdate 275 x y u,ty,pos,aH,none⟩::rest)) e R H:=by
 refine Gw (kt:=3) (et:=3) (kd:=.i64) (l:=vH l) i (by kernel_rfl) (by kernel_rfl) hi hx hy hu ?_;rw[aFy];exact kk
end
theorem aHa(gc n k:Nat)(A:Option Addr)(dev:Int)(w:World)(h0:fS w gc 0 (.slice A n k)):
  Cz 245 #[pt gc,iv dev] w (Rt (.bool (bZ n dev)) w):=by
 refine aN func245 ntmps245 ?_;refine aA ?_;refine bT (t:=7) rfl (fun h=>?_) (fun h=>?_)
 ·refine aA ?_;refine jI (by simp) ?_;unfold bZ
  congr 1
  simp;omega
 ·refine aA ?_;refine jI (by simp) ?_
  have:bZ n dev=false:=decide_eq_false (by omega)
  rw[this]
section
variable(gc gm n k:Nat)(A:Option Addr)(c:Cn)(w:World)(F:Nat→Prop)
theorem aPC(dev:Int)(hp:(qT gc gm (.slice A n k) c).sat F w)(hF:∀b,F b→b < w.heap.size):
  Cz 243 #[pt gc,iv dev] w (Wr (iv (rH n c dev).1) (qT gc gm (.slice A n k) (rH n c dev).2) w F):=by
 refine cS func243 ntmps243 hp hF ?_;obtain⟨l,lT⟩:=c;unfold qT rH;dsimp only;refine aV 0 0 ?_;refine aV 1 1 ?_;cases lT
 ·refine aA ?_;refine aU (fun w1 t=>aHa gc n k A dev w1 ((uI (t.aE (i:=1) rfl)).at_ (j:=0) rfl)) ?_
  by_cases hin:0≤dev∧dev < (n:Int)
  ·rw[show bZ n dev=true from decide_eq_true hin,if_neg (by simp),if_neg (by simpa using hin)];refine aA ?_;refine Tx 0 rfl ?_;refine eB ?_;refine aA ?_;refine aG rfl (fun h7=>?_) (fun h7=>?_)
   ·rw[if_pos (by omega)];refine aA ?_;refine aJ 1 1 ?_;refine aJ 0 0 ?_;exact bO 0 hF
   ·rw[if_neg (by omega)];refine aA ?_;refine Tx 0 rfl ?_;refine kd (Mb rfl rfl rfl) ?_;refine aFD 0 rfl ?_;dsimp only[List.set];refine aA ?_;refine aJ 1 1 ?_;refine aJ 0 0 ?_;exact bO 0 hF
  ·rw[show bZ n dev=false from decide_eq_false hin,if_neg (by simp),if_pos (by simpa using hin)];refine aA ?_;refine aJ 1 1 ?_;refine aJ 0 0 ?_;exact bO 0 hF
 ·rw[if_pos rfl];refine aA ?_;refine aJ 1 1 ?_;refine aJ 0 0 ?_;exact bO 0 hF
theorem aPA(dev:Int)(hp:(qT gc gm (.slice A n k) c).sat F w)(hF:∀b,F b→b < w.heap.size):
  Cz 264 #[pt gc,iv dev] w (Wr (iv (uH n c dev).1) (qT gc gm (.slice A n k) (uH n c dev).2) w F):=by
 refine cS func264 ntmps264 hp hF ?_;obtain⟨l,lT⟩:=c;unfold qT uH;dsimp only;refine aV 0 0 ?_;refine aV 1 1 ?_;cases lT
 ·refine aA ?_;refine aU (fun w1 t=>aHa gc n k A dev w1 ((uI (t.aE (i:=1) rfl)).at_ (j:=0) rfl)) ?_
  by_cases hin:0≤dev∧dev < (n:Int)
  ·rw[show bZ n dev=true from decide_eq_true hin,if_neg (by simp),if_neg (by simpa using hin)];refine aA ?_;refine Tx 0 rfl ?_;refine eB ?_;refine aA ?_;refine aG rfl (fun h7=>?_) (fun h7=>?_)
   ·rw[if_pos (by omega)];refine aA ?_;refine aJ 1 1 ?_;refine aJ 0 0 ?_;exact bO 0 hF
   ·rw[if_neg (by omega)];refine aA ?_;refine Tx 0 rfl ?_;refine kd (Lz rfl rfl rfl) ?_;refine aFD 0 rfl ?_;dsimp only[List.set];refine aA ?_;refine aJ 1 1 ?_;refine aJ 0 0 ?_;exact bO 0 hF
  ·rw[show bZ n dev=false from decide_eq_false hin,if_neg (by simp),if_pos (by simpa using hin)];refine aA ?_;refine aJ 1 1 ?_;refine aJ 0 0 ?_;exact bO 0 hF
 ·rw[if_pos rfl];refine aA ?_;refine aJ 1 1 ?_;refine aJ 0 0 ?_;exact bO 0 hF
theorem aP8(hp:(qT gc gm (.slice A n k) c).sat F w)(hF:∀b,F b→b < w.heap.size):
  Cz 272 #[pt gc] w (Wr (iv (xI c).1) (qT gc gm (.slice A n k) (xI c).2) w F):=by
 refine cS func272 ntmps272 hp hF ?_;obtain⟨l,lT⟩:=c;unfold qT xI;dsimp only;refine aV 0 0 ?_;cases lT
 ·refine aA ?_;refine aJ 0 0 ?_;exact bO 0 hF
 ·refine aA ?_;refine aJ 0 0 ?_;exact bO 0 hF
theorem aP9(hp:(qT gc gm (.slice A n k) c).sat F w)(hF:∀b,F b→b < w.heap.size):
  Cz 274 #[pt gc] w (Wr (iv (xJ c).1) (qT gc gm (.slice A n k) (xJ c).2) w F):=by
 refine cS func274 ntmps274 hp hF ?_;obtain⟨l,lT⟩:=c;unfold qT xJ;dsimp only;refine aV 0 0 ?_;cases lT
 ·refine aA ?_;refine aJ 0 0 ?_;exact bO 0 hF
 ·refine aA ?_;refine aJ 0 0 ?_;exact bO 0 hF
end
theorem aPD(gc:Nat)(b:Bool)(w:World)(h2:fS w gc 2 (.bool b)):Cz 239 #[pt gc] w (Rt (.bool b) w):=by
 refine aN func239 ntmps239 ?_;refine aA ?_;exact dI
end
section
theorem aQ8{P:Program}{w:World}{t ty e:TypeId}{i:TypeInfo}(ht:P.underlying t=some (.slice e))(hi:P.info? e=some i)(A:Option Addr)(x:Value){m c:Nat}{B:Option Addr}(hx:x=.slice B m c)(hm:0 < m)(hb:m*i.bytes≤140737488355328):
  (Builtin.append_ #[t,t] ty #[.slice A 0 0,x]).run P w=(Builtin.append_ #[t,t] ty #[sn,x]).run P w:=by
 subst hx
 have h0:¬0+m≤0:=by omega
 have hn:Builtin.nextslicecap (0+m) 0=m:=by
  unfold Builtin.nextslicecap;rw[Nat.zero_add];simp;omega
 have hcap:¬(Builtin.nextslicecap (0+m) 0*i.bytes>2 ^ 48):=by
  rw[hn];omega
 have hm0:¬m=0:=by omega
 have nC:¬(281474976710656 < Builtin.nextslicecap m 0*i.bytes):=by
  rw[←Nat.zero_add m]
  simpa using hcap
 cases A with
 | none=>rfl
 | some a=>simp[Builtin.append_,run_underlying ht,sizeOf,typeInfo,hi,Builtin.lenOf,Builtin.firstCells,h0,hcap,hm0,nC,loadCells,loadCellsFrom]
section
variable{P:Program}{ops:Array Oper}{Q:Exit→Act→World→Prop}{N:cF}{w0:World}{e e':Env}{R R':List Piece}{H H':List HP}{rest:List Oper}{d:Nat}{ty:TypeId}{pos:String}{aH:Array Edge}
theorem aIU(sz bytes m:Nat){x y:Operand}{t el:TypeId}{c':Nat}{A0 A:Option Addr}{news:List Value}(ht:P.underlying t=some (.slice el))(hT:(P.info? el).map (fun i=>(i.zero.map (fun z=>z.cells.size),i.size,i.bytes))=some (some sz,sz,bytes))(hpos:0 < sz)
  (hx:e.ev x=some (.slice A0 0 0)) (hy:e.ev y=some (.slice A m c')) (hs:∀w,St w0 R H w→∃B,Sl w B sz A m news) (h1:∀u∈news,u.oneCell'=true) (hm:0 < m) (h63:(m:Int)≤9223372036854775807) (hbytes:m*bytes≤140737488355328) (hd:d < N.n)
  (k:∀A' k',XK N w0 (wpList P ops Q rest) ((d,.slice A' m k')::e) R (HP.own el sz (.slice A' m k') m news::H)):
  XK N w0 (wpList P ops Q (⟨some d,.call {callee:=.builtin .append,args:=#[x,y],argTypes:=#[t,t]},ty,pos,aH,none⟩::rest)) e R H:=by
 obtain⟨ti,z,Oy,hz,hsz,hby,hzs⟩:=aCp hT;refine rW rfl fun a w hr st=>?_;obtain⟨B,lJ⟩:=hs w st;obtain⟨v',w',hrun,h2,h3,h4⟩:=aEJ (P:=P) w w.heap.size t ty el ti z sz bytes ht Oy hz hsz hby hzs hpos (sn) 0 [] (World.ownsRow_nil _ _ _ _) B A m c' news lJ h1 (by unfold maxLen;omega) (by simpa using hbytes) (Nat.le_refl _);rw[Nat.zero_add,List.nil_append] at h2;obtain⟨A',k',rfl,_⟩:=aFk h2;rw[←aQ8 ht Oy A0 (.slice A m c') rfl hm (by rw[hby];exact hbytes)] at hrun
 have hb:Below w.heap.size w w':=⟨h3.os,h3.tape,h3.output,h3.size,fun b hb=>h3.block b hb (fun he=>by cases he)⟩
 refine⟨_,w',by simp only[execOp,resolve,invoke,builtin,hr.ev hx,hr.ev hy,List.map_toArray,List.map_cons,List.map_nil,Sem.run_bind,Sem.run_pure,Result.andThen_ok,hrun],k A' k' _ _ (hr.put hd _) (st.new hb ⟨fun g hg=>?_,?_⟩)⟩
 ·have:=h2.lt _ hg
  exact this
 ·exact⟨h2.1,h2.2.imp id fun⟨g,cap,cur,e1,_,e3⟩=>⟨g,cap,cur,e1,Nat.zero_le _,e3⟩⟩
end
section
variable{N:cF}{w0:World}{e:Env}{R:List Piece}{H:List HP}{d:Nat}{ty:TypeId}{pos:String}{aH:Array Edge}
theorem aOV{x lo hi mx:Operand}{t el:TypeId}{A:Option Addr}{n c l h m sz:Nat}{kl kh km:IntKind}[hT:lF t el sz](hx:e.ev x=some (.slice A n c))(hl:e.ev lo=some (.int kl (l:Int)))(hh:e.ev hi=some (.int kh (h:Int)))(hm:e.ev mx=some (.int km (m:Int)))(h1:l≤h)(h2:h≤m)(h3:m≤c):
  bQ Tryz.prog N w0 e R H ⟨some d,.slice t x (some lo) (some hi) (some mx),ty,pos,aH,none⟩ (.slice (if m=l then A else A.map (·.add (l*sz))) (h - l) (m - l)):=gT fun a w hr=>by
 obtain⟨i0,nP,hz⟩:=Option.map_eq_some_iff.1 hT.s;simp[execOp,hr.ev hx,hr.ev hl,hr.ev hh,hr.ev hm,Instr.sliceAt,Instr.slice,Instr.sliceBounds,run_sliceBound,run_underlying hT.h,sizeOf,typeInfo,nP,hz,h1,h2,h3]
theorem aGK{x lo:Operand}{t el:TypeId}{A:Option Addr}{n c l sz:Nat}{kl:IntKind}[hT:lF t el sz](hx:e.ev x=some (.slice A n c))(hl:e.ev lo=some (.int kl (l:Int)))(h1:l≤n):
  bQ Tryz.prog N w0 e R H ⟨some d,.slice t x (some lo) none none,ty,pos,aH,none⟩ (.slice (if c=l then A else A.map (·.add (l*sz))) (n - l) (c - l)):=gT fun a w hr=>by
 obtain⟨i0,nP,hz⟩:=Option.map_eq_some_iff.1 hT.s;simp[execOp,hr.ev hx,hr.ev hl,Instr.sliceAt,Instr.slice,Instr.sliceBounds,run_sliceBound,run_underlying hT.h,sizeOf,typeInfo,nP,hz,h1]
theorem aRm{K:Act→World→Prop}(i:Nat){n sz:Nat}{t:TypeId}{v:Value}{xs:List Value}(hi:H[i]? =some (HP.own t sz v n xs))(hn:0 < n)(h:∀g c,v=.slice (some ⟨g,0,none⟩) n c→n≤c→XK N w0 K e R H):XK N w0 K e R H:=fun a w hr st=>by
 obtain⟨_,h2⟩:=st.own hi;rcases h2 with⟨_,h3⟩ | ⟨g',cap,cur,hv,_,_,h3,_⟩
 ·omega
 ·exact h g' cap hv h3 a w hr st
theorem aRt{K:Act→World→Prop}(j i:Nat){p:Prop}{ps:List HP}(hj:H[j]? =some (HP.many ps))(hi:ps[i]? =some (Mz p))(h:p→XK N w0 K e R H):XK N w0 K e R H:=fun a w hr st=>by
 obtain⟨F,hF⟩:=(st.take hj hi).sat (i:=0) rfl;exact h hF a w hr st
end
def wL(g n:Nat)(vs:List Value)(ws:List (Option iY)):List HP:=HP.aE g 311 vs::Mz (vs.length=n)::(List.range n).map fun i=>QH (vs.getD i undef) (ws[i]?).join
theorem aJq{g n i:Nat}{vs:List Value}{ws:List (Option iY)}(hi:i < n):(wL g n vs ws)[i+2]? =some (QH (vs.getD i undef) (ws[i]?).join):=by
 unfold wL;rw[List.getElem?_cons_succ,List.getElem?_cons_succ,List.getElem?_map,List.getElem?_range hi];rfl
theorem aJr{g n i:Nat}{vs:List Value}{ws:List (Option iY)}{v:Value}{q:Option iY}(hi:i < n)(hv:vs.length=n)(hw:ws.length=n):
  (((((wL g n vs ws).set 0 cG).set (i+2) cG).set (i+2) (QH v q)).set 0 (HP.aE g 311 (vs.set i v)))=wL g n (vs.set i v) (ws.set i q):=by
 refine List.ext_getElem? fun k=>?_
 match k with
 | 0=>rfl
 | 1=>
  show some (Mz (vs.length=n))=some (Mz ((vs.set i v).length=n))
  rw[List.length_set]
 | k + 2 =>
  unfold wL;simp only[List.set_cons_zero,List.set_cons_succ,List.getElem?_cons_succ,List.set_set,List.getElem?_map];rw[List.getElem?_set]
  by_cases h:i=k
  ·subst h;rw[if_pos rfl,if_pos (by simpa using hi),List.getElem?_range hi];simp only[Option.map_some];rw[List.getD_eq_getElem?_getD,List.getElem?_set_self (by omega),List.getElem?_set_self (by omega)];rfl
  ·rw[if_neg h,List.getElem?_map];cases hr:(List.range n)[k]? with
   | none=>rfl
   | some j=>
    obtain⟨_,rfl⟩:=List.getElem?_eq_some_iff.1 hr;simp only[List.getElem_range,Option.map_some];rw[List.getD_eq_getElem?_getD,List.getD_eq_getElem?_getD,List.getElem?_set_ne h,List.getElem?_set_ne h]
section
variable{N:cF}{w0:World}{e:Env}{R:List Piece}{H:List HP}{K:Act→World→Prop}{L:BL}{ms:List Int}{ws:List (Option iY)}{bB:Int}
def Wo(L:BL)(ms:List Int)(bB:Int):List Value:=[.slice (some ⟨L.gr,0,none⟩) ms.length ms.length,.slice (some ⟨L.gw,0,none⟩) ms.length ms.length,iv bB]
def aEs(L:BL)(ms:List Int)(ws:List (Option iY))(vs:List Value)(i:Nat):HP:=HP.many (((wL L.gw ms.length vs ws).set 0 cG).set (i+2) cG)
theorem aHI(j i:Nat)(hj:H[j]? =some (xW L ms ws bB))(hi:i < ms.length)(h:∀vs:List Value,vs.length=ms.length→
      XK N w0 K e R (QH (vs.getD i undef) (ws[i]?).join::HP.aE L.gw 311 vs::aEs L ms ws vs i::HP.aE L.b 269 (Wo L ms bB)::H.set j (HP.many [cG,HP.aE L.gr 3 (aM ms),cG]))):XK N w0 K e R H:=by
  have hlt:=(List.getElem?_eq_some_iff.1 hj).1
  refine qM j 0 hj rfl ?_;refine qM (j+1) 2 (by rw[List.getElem?_cons_succ,List.getElem?_set_self hlt]) rfl ?_;refine aAN 0 rfl fun vs=>?_;refine aRt 0 1 rfl rfl fun hv=>?_;refine qM 0 0 rfl rfl ?_;refine qM 1 (i+2) rfl (p:=QH (vs.getD i undef) (ws[i]?).join) ?_ ?_
  · show((wL L.gw ms.length vs ws).set 0 cG)[i+2]? =_
    rw[List.getElem?_set_ne (by omega),aJq hi]
  · have h:=h vs hv
    simp only[List.set_cons_succ,List.set_cons_zero,List.set_set];exact h
theorem aHN(j i:Nat){vs:List Value}{v:Value}{q:Option iY}(hj:H[j]? =some (HP.many [cG,HP.aE L.gr 3 (aM ms),cG]))(hi:i < ms.length)(hv:vs.length=ms.length)(hw:ws.length=ms.length)
  (h:XK N w0 K e R (H.set j (xW L ms (ws.set i q) bB))):XK N w0 K e R (QH v q::HP.aE L.gw 311 (vs.set i v)::aEs L ms ws vs i::HP.aE L.b 269 (Wo L ms bB)::H):=by
 have hlt:=(List.getElem?_eq_some_iff.1 hj).1
 have hlen:(wL L.gw ms.length vs ws).length=ms.length+2:=by simp[wL]
 refine qO 1 (i+2) rfl ?_ ?_
 ·rw[List.getElem?_set_self (by simp[hlen];omega)]
 dsimp only[List.set];refine qO 0 0 rfl ?_ ?_
 ·rw[List.set_set,List.getElem?_set_ne (by omega),List.getElem?_set_self (by simp[hlen])]
 rw[aJr hi hv hw];dsimp only[List.set];refine uK 0 (f:=fun vs:List Value=>HP.many (wL L.gw ms.length vs (ws.set i q))) (vs.set i v) rfl ?_;dsimp only[List.set];refine qO (j+1) 2 (by rw[List.getElem?_cons_succ];exact hj) rfl ?_;dsimp only[List.set];refine qO j 0 (by rw[List.getElem?_set_self hlt]) rfl ?_;rw[List.set_set];exact h
end
theorem aQr(L:BL)(ms:List Int)(ws:List (Option iY))(bB:Int)(i:Nat)(hi:i < ms.length)(hw:ws.length=ms.length)(t:iY)(ht:(ws[i]?).join=some t)(w:World)(F:Nat→Prop)(hp:(xW L ms ws bB).sat F w)(hF:∀b,F b→b < w.heap.size):
  Cz 190 #[.pointer (some ⟨L.b,0,none⟩),iv (i:Int)] w (Wr (.tuple #[.agg #[iv t.id,.bool t.wr,iv t.bY,.int .u32 t.val],.bool true]) (xW L ms (ws.set i none) bB) w F):=by
 have hin:bZ ms.length (i:Int)=true:=decide_eq_true (by omega)
 refine cS func190 ntmps190 hp hF ?_;generalize cN:(⟨w,fun b=>b < w.heap.size∧¬F b⟩:Piece)=R0;refine aA ?_;refine bX fun g1=>?_;refine aA ?_;refine aU (fun w1 st=>aA8 L ms ws bB i w1 (st.aHn 1 rfl)) ?_;rw[hin];refine aHI 1 i rfl hi fun vs hv=>?_;rw[ht];dsimp only[List.set];refine aRm 0 rfl (by decide) fun g c hg hc=>?_
 have Ub:vs[i]? =some (.slice (some ⟨g,0,none⟩) 1 c):=by
  obtain⟨v,h1⟩:=get_some (l:=vs) (i:=i) (by omega);rw[List.getD_eq_getElem?_getD,h1] at hg;rw[h1];exact congrArg some hg
 rw[hg];refine aA ?_;refine kd (dat i i) ?_;refine aA ?_;refine kd (bH rfl (Rd.aE 1 rfl Ub)) ?_;refine aA ?_;refine kd (dat i i) ?_;refine aA ?_;refine kd (bH rfl (Rd.aE 1 rfl Ub)) ?_;refine aA ?_;refine iX [1,2,3,7,9,10,11] ?_;refine bJ 0 ?_;refine aK 1 ?_;refine aK 2 ?_;refine aK 3 ?_;refine bJ 4 ?_;refine bJ 5 ?_;refine bJ 6 ?_;refine aK 7 ?_;refine bJ 8 ?_;refine aK 9 ?_;refine aK 10 ?_ (hi:=rfl) (cM:=aOV (l:=1) (h:=1) (m:=1) rfl rfl rfl rfl (by omega) (by omega) hc);refine aK 11 ?_ (hi:=rfl) (cM:=dat i i);refine aL 12 ?_;refine eN rfl rfl ?_ (hs:=eJ.mk 1 rfl cO.h rfl (by omega));dsimp only[List.set];refine cE ?_;refine dW ?_;refine aA ?_;refine kd (dat 0 0) ?_;refine kd (kB rfl (aO.of fun j v hv=>by rw[Nat.zero_add];exact Rd.own 0 rfl hv)) ?_;refine kO 4 rfl ?_;dsimp only[List.set];refine aA ?_;refine oZ (q:=QH (.slice (some ⟨g,0,none⟩) 0 0) none) 0 rfl (fun _ _ _=>⟨_,rfl⟩) ?_;refine aHN 1 i rfl hi hv hw ?_;dsimp only[List.set];subst cN;exact yY (vs:=[iv t.id,.bool t.wr,iv t.bY,.int .u32 t.val]) rfl (by kernel_rfl) rfl rfl (aO.whole 0 rfl) rfl fun w1 st=>⟨rfl,st.turns hF (by simp) (i:=1) rfl⟩
end
end Go.Proofs.YtkgekojkboingaaGreatDoor
