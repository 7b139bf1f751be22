/- package regs: Clear, Save, Restore, Read, Write. -/
import Derived.Test.YtkgekojkboingaaGreatDoorWorldRoundsK3
namespace Go.Proofs.YtkgekojkboingaaGreatDoor
set_option linter.all false
set_option maxHeartbeats 4000000
set_option maxRecDepth 20000
open Go.RowKit Go.Proofs.Tryz
section
theorem aOJ(w:World)(q:Piece):(⟨w,fun _=>False⟩:Piece).Le q:=fun _ h=>h.elim
theorem aQe(i:Nat)(r:Rg)(w:World):
  Cz 198 #[iv (i:Int),.agg r.cells.toArray] w (Rt (.int .u32 r.reset) w):=by
 refine aO func198 ntmps198 ?_;refine aA ?_;refine bO fun g1=>?_;dsimp only[Value.cells,Rg.cells];refine aA ?_;exact dH
theorem Ze(L:FL)(d:cH)(x:dU)(hrl:d.aR.length≤100)(hok:xS d x)(w:World)(F:Nat→Prop)(hp:(gQ L d x).sat F w)(hF:∀b,F b→b < w.heap.size):
  Cz 160 #[.pointer (some ⟨L.f,0,none⟩)] w (Wr (.tuple #[]) (gQ L d (Dv d x)) w F):=by
 refine cT func160 ntmps160 hp hF ?_;refine aA ?_
 refine bT 0 (gQ L d ⟨d.aR.map (·.reset),x.saved,x.kept⟩) (fun w1 G t hG wV hle=>by
  have:=aFl L d x hrl 198 (by kernel_rfl) [] ⟨w1,fun _=>False⟩ (d.aR.map (·.reset)) (by simp) hok.now (fun i r v hr hv now w2 F2 _ _ _=>by
   rw[List.getElem?_map,hr] at hv;cases hv
   exact aQe i r w2) w1 G hG wV (aOJ _ _)
  exact this) ?_
 refine Xk 0 rfl ?_;dsimp only[List.set,Iu];refine aA ?_;refine Xn (x:=Dv d x) 0 rfl ?_;exact fA 0 hF
theorem aLb(L:FL)(d:cH)(x:dU)(g1 i:Nat)(r:Rg)(v:Int)(hr:d.aR[i]? =some r)(hv:x.saved[i]? =some v)(w:World)(hR:Cb w L d x)(h1:fK w g1 0 (.pointer (some ⟨L.f,0,none⟩))):
  Cz 215 #[iv (i:Int),.agg r.cells.toArray,pt g1] w (Rt (.int .u32 (Zc x.kept r v)) w):=by
 have hlt:=(List.getElem?_eq_some_iff.1 hr).1
 have k3:=hR.r0.at_ (j:=3) rfl
 have k2:=hR.r0.at_ (j:=2) rfl
 have kv:=hR.saved.at_ (aB1 hv)
 rw[Nat.zero_add] at kv;obtain⟨rs,kp⟩:=r;cases hk:x.kept
 ·rw[hk] at k3;refine aO func215 ntmps215 ?_;refine aA ?_;refine bO fun g2=>?_;dsimp only[Value.cells,Rg.cells];refine aA ?_;exact dH
 ·rw[hk] at k3;cases kp
  ·refine aO func215 ntmps215 ?_;refine aA ?_;refine bO fun g2=>?_;dsimp only[Value.cells,Rg.cells];refine aA ?_;exact dH
  ·refine aO func215 ntmps215 ?_;refine aA ?_;refine bO fun g2=>?_;dsimp only[Value.cells,Rg.cells];refine aB ?_;exact dH
theorem aLg(L:FL)(d:cH)(x:dU)(hrl:d.aR.length≤100)(hok:xS d x)(w:World)(F:Nat→Prop)(hp:(gQ L d x).sat F w)(hF:∀b,F b→b < w.heap.size):
  Cz 196 #[.pointer (some ⟨L.f,0,none⟩)] w (Wr (.tuple #[]) (gQ L d (Ht d x)) w F):=by
 have qV:=hok.saved
 refine cT func196 ntmps196 hp hF ?_;refine aA ?_;refine bO fun g1=>?_;refine aA ?_;refine jY (vf:=[]) (vc:=[pt g1]) rfl rfl (by decide) ?_;refine dG [⟨w,fun b=>b < w.heap.size∧¬F b⟩] [0] [1] (by simp) rfl (by decide) (by decide) fun q hq hLe _=>?_;obtain⟨F1,s1,z1⟩:=hq 0 _ (by simp) rfl
 refine bT 0 (gQ L d (Ht d x)) (fun w1 G t hG wV hle=>by
  have:=aFl L d x hrl 215 (by kernel_rfl) [pt g1] q (Ht d x).now (by simp[Ht];omega) hok.now (fun i r v hr hv now w2 F2 a1 a2 a3=>by
   have hlt:=(List.getElem?_eq_some_iff.1 hr).1
   obtain⟨u,hu⟩:=get_some (l:=x.saved) (i:=i) (by omega)
   have he:v=Zc x.kept r u:=by
    rw[Ht,List.getElem?_zipWith,hr,hu] at hv;cases hv;rfl
   subst he;obtain⟨b1,b2⟩:=a3 g1 (z1 _ s1.1)
   exact aLb L d ⟨now,x.saved,x.kept⟩ g1 i r u hr hu w2 (Xy a1 a2) ⟨b1,(World.cell?_of_block (w:=q.w) b2).trans (by rw[s1.2.cell];rfl)⟩) w1 G hG wV (hle q (by simp))
  exact this) ?_
 refine aA ?_;exact fA 0 hF
theorem aKq(p:Piece)(L:FL)(d:cH)(x:dU)(g1 i:Nat)(r:Rg)(v u:Int)(hr:d.aR[i]? =some r)(hv:x.now[i]? =some v)(hu:x.saved[i]? =some u)(tY:x.saved.length=d.aR.length)
  (h1:p.Z g1∧p.w.cell? ⟨g1,0,none⟩=some (.pointer (some ⟨L.f,0,none⟩))) (w:World) (F:Nat→Prop) (hp:(gQ L d x).sat F w) (hF:∀b,F b→b < w.heap.size) (Fj:p.Le ⟨w,fun b=>b < w.heap.size∧¬F b⟩):
  Cz 214 #[iv (i:Int),.agg r.cells.toArray,pt g1] w (Wr (.tuple #[]) (gQ L d ⟨x.now,x.saved.set i (Kl r (v,u)),x.kept⟩) w F):=by
 have hlt:=(List.getElem?_eq_some_iff.1 hr).1
 obtain⟨c1,e1⟩:=Fj g1 h1.1
 have k1:w.cell? ⟨g1,0,none⟩=some (.pointer (some ⟨L.f,0,none⟩)):=(World.cell?_of_block (w:=p.w) e1).trans h1.2
 obtain⟨rs,kp⟩:=r;cases kp
 ·have hsame:x.saved.set i (Kl ⟨rs,false⟩ (v,u))=x.saved:=aEL hu
  rw[hsame];refine cT func214 ntmps214 hp hF ?_;refine aA ?_;refine bO fun g2=>?_;dsimp only[Value.cells,Rg.cells];refine aA ?_;exact fA 1 hF
 ·refine cT func214 ntmps214 hp hF ?_;refine aA ?_;refine bO fun g2=>?_;dsimp only[Value.cells,Rg.cells];refine aA ?_;refine Xk 1 rfl ?_;dsimp only[List.set,Iu]
  have Ov:=Yq x.now
  have qV:=Yq x.saved
  have r1:Rd w [⟨w,fun b=>b < w.heap.size∧¬F b⟩] [HP.aE L.gs 37 (mI x.saved),HP.aE L.gn 37 (mI x.now),HP.aE L.f 264 [.slice L.A d.aR.length L.c,.slice (some ⟨L.gn,0,none⟩) d.aR.length d.aR.length,.slice (some ⟨L.gs,0,none⟩) d.aR.length d.aR.length,.bool x.kept],HP.aE g2 95 [.int .u32 rs,.bool true],HP.many [bX,bX,bX,HP.bU (rI d L.A) (rI.le (d:=d) (A:=L.A))]] g1 0 (.pointer (some ⟨L.f,0,none⟩)):=Rd.ro (List.mem_singleton.2 rfl) c1 k1
  have r2:Rd w [⟨w,fun b=>b < w.heap.size∧¬F b⟩] [HP.aE L.gs 37 (mI x.saved),HP.aE L.gn 37 (mI x.now),HP.aE L.f 264 [.slice L.A d.aR.length L.c,.slice (some ⟨L.gn,0,none⟩) d.aR.length d.aR.length,.slice (some ⟨L.gs,0,none⟩) d.aR.length d.aR.length,.bool x.kept],HP.aE g2 95 [.int .u32 rs,.bool true],HP.many [bX,bX,bX,HP.bU (rI d L.A) (rI.le (d:=d) (A:=L.A))]] L.gn i (.int .u32 v):=Rd.aE 1 rfl (aB1 hv)
  refine qI 12 (by kernel_rfl) (by kernel_rfl) ?_;refine bQ 0 ?_;refine bQ 1 ?_;refine bQ 2 ?_;refine bQ 3 ?_;refine bQ 4 ?_;refine bQ 5 ?_;refine bQ 6 ?_;refine bQ 7 ?_;refine bQ 8 ?_;refine bQ 9 ?_;refine bQ 10 ?_ (cM:=dat (sz:=1) i i);refine bQ 11 ?_;refine cK 12 ?_;refine kd (dat i i) ?_;refine eS ?_;refine cK 13 ?_;refine eO rfl rfl ?_;dsimp only[List.set];rw[aB0];refine eS ?_;refine kL ?_;refine aA ?_;refine aT [0,1,2,4] rfl (by decide) (fun _ h=>h) ?_;refine Xn (x:=⟨x.now,x.saved.set i v,x.kept⟩) 0 rfl ?_;exact fA 0 hF
theorem aLf(L:FL)(d:cH)(x:dU)(hrl:d.aR.length≤100)(hok:xS d x)(w:World)(F:Nat→Prop)(hp:(gQ L d x).sat F w)(hF:∀b,F b→b < w.heap.size):
  Cz 195 #[.pointer (some ⟨L.f,0,none⟩)] w (Wr (.tuple #[]) (gQ L d (uS d x)) w F):=by
 have qV:=hok.saved
 have fN:=hok.now
 have hvl:(uS d x).saved.length=d.aR.length:=by simp[uS];omega
 refine cT func195 ntmps195 hp hF ?_;refine aA ?_;refine bO fun g1=>?_;refine aA ?_;refine jY (vf:=[]) (vc:=[pt g1]) rfl rfl (by decide) ?_;refine dG [⟨w,fun b=>b < w.heap.size∧¬F b⟩] [0] [1] (by simp) rfl (by decide) (by decide) fun q hq hLe _=>?_;obtain⟨F1,s1,z1⟩:=hq 0 _ (by simp) rfl
 refine bT 0 (gQ L d ⟨x.now,(uS d x).saved,x.kept⟩) (fun w1 G t hG wV hle=>by
  have key:=aFk q (fun i=>gQ L d ⟨x.now,kH (uS d x).saved x.saved i,x.kept⟩) L d hrl 214 (by kernel_rfl) [pt g1]
   (fun i _ w F h1 h2=>⟨_,Xy h1 h2⟩) (fun i r hr w2 F2' h1 h2 h3=>by
    have hlt:=(List.getElem?_eq_some_iff.1 hr).1
    obtain⟨v,hv⟩:=get_some (l:=x.now) (i:=i) (by omega);obtain⟨u,hu⟩:=get_some (l:=x.saved) (i:=i) (by omega)
    have hs:(uS d x).saved[i]? =some (Kl r (v,u)):=by
     rw[uS,List.getElem?_zipWith,hr,(List.getElem?_zip_eq_some (z:=(v,u))).2 ⟨hv,hu⟩]
    have:=aKq q L d ⟨x.now,kH (uS d x).saved x.saved i,x.kept⟩ g1 i r v u hr hv (aMv (by omega) (by omega) hu) (Ty hvl qV (by omega))
     ⟨z1 _ s1.1,by rw[s1.2.cell];rfl⟩ w2 F2' h1 h2 h3
    try dsimp only at this
    rw[Tx (by omega) hs] at this
    exact this) w1 G (by show(gQ L d ⟨x.now,kH (uS d x).saved x.saved 0,x.kept⟩).sat G w1;rw[Tw];exact hG) wV (hle q (by simp))
  try dsimp only at key
  rw[Tz hvl qV] at key
  exact key) ?_
 refine Xk 0 rfl ?_;dsimp only[List.set,Iu]
 have r1:∀H,Rd w [q,⟨w,fun b=>b < w.heap.size∧¬F b⟩] H g1 0 (.pointer (some ⟨L.f,0,none⟩)):=fun H=>Rd.ro (by simp:q∈_) (z1 _ s1.1) (by rw[s1.2.cell];rfl)
 have r1:=r1 [HP.aE L.gs 37 (mI (uS d x).saved),HP.aE L.gn 37 (mI x.now),HP.aE L.f 264 [.slice L.A d.aR.length L.c,.slice (some ⟨L.gn,0,none⟩) d.aR.length d.aR.length,.slice (some ⟨L.gs,0,none⟩) d.aR.length d.aR.length,.bool x.kept],HP.many [bX,bX,bX,HP.bU (rI d L.A) (rI.le (d:=d) (A:=L.A))]]
 refine aA ?_;refine Xn (x:=uS d x) 0 rfl ?_;exact fA 0 hF
theorem aLh(L:FL)(d:cH)(x:dU)(i:Nat)(v:Int)(tY:x.now.length=d.aR.length)(hv:x.now[i]? =some v)(w:World)(hR:Cb w L d x):
  Cz 191 #[.pointer (some ⟨L.f,0,none⟩),iv (i:Int)] w (Rt (.tuple #[.int .u32 v,iv 0]) w):=by
 have hlt:i < d.aR.length:=by have:=(List.getElem?_eq_some_iff.1 hv).1;omega
 have k1:=hR.r0.at_ (j:=1) rfl
 have kv:=hR.now.at_ (aB1 hv)
 rw[Nat.zero_add] at kv;refine aO func191 ntmps191 ?_;refine aA ?_;refine cG (t:=8) rfl (fun h=>absurd h (by omega)) (fun _=>?_);refine aA ?_;refine aS (fun w1 t=>Tj L d x w1 (hR.below (t.below (by simp)))) ?_;refine aA ?_;refine aG rfl (fun h=>absurd h (by omega)) (fun _=>?_);refine aB ?_;exact fS rfl rfl rfl fun w1 t=>⟨rfl,t.below (by simp)⟩
theorem aLe(L:FL)(d:cH)(x:dU)(i:Nat)(v:Int)(tY:x.now.length=d.aR.length)(hlt:i < d.aR.length)(w:World)(F:Nat→Prop)(hp:(gQ L d x).sat F w)(hF:∀b,F b→b < w.heap.size):
  Cz 192 #[.pointer (some ⟨L.f,0,none⟩),iv (i:Int),.int .u32 v] w (Wr (iv 0) (gQ L d ⟨x.now.set i v,x.saved,x.kept⟩) w F):=by
 refine cT func192 ntmps192 hp hF ?_;refine aA ?_;refine cG (t:=9) rfl (fun h=>absurd h (by omega)) (fun _=>?_);refine aA ?_;refine aS (fun w1 t=>Tj L d x w1 (t.aCW 0 rfl)) ?_;refine aA ?_;refine aG rfl (fun h=>absurd h (by omega)) (fun _=>?_);refine Xk 0 rfl ?_;dsimp only[List.set,Iu]
 have Ov:=Yq x.now
 refine aB ?_;rw[aB0];refine aA ?_;refine Xn (x:=⟨x.now.set i v,x.saved,x.kept⟩) 0 rfl ?_;exact bP 0 hF
end
section
def aI3(n:Nat)(xs:List Value)(v:Value)(hs:List HP)(_:Piece):Prop:=∃A c,v=.slice A n c∧hs=[HP.own 86 6 (.slice A n c) n xs]
theorem aLJ(A:Option Addr)(n c:Nat)(xs:List Value)(w:World)(hs:aI (all w) 6 A n xs)(h1:∀u∈xs,u.oneCell'=true)(hn:n≤1000000):
  Cz 161 #[.slice A n c] w (fun y w'=>(∃v hs q,y=.returned v∧q.w=w'∧aI3 n xs v hs q∧fZ w hs q)∧Below w.heap.size w w'):=by
 refine aO func161 ntmps161 ?_;refine aA ?_;refine lI 86 6 ?_;refine gY 0 6 64 n (n':=n) (v:=sn) (el:=86) (by kernel_rfl) (by kernel_rfl) (by decide) rfl rfl rfl (rU (by simp) hs) h1 (by omega) (by omega) (by omega) (by decide) fun A' k'=>?_;dsimp only[List.set,List.nil_append];refine aA ?_;refine dG [] [] [0] (by simp) rfl (by decide) (by decide) fun q _ _ hfr=>?_;exact aP (h:=fun w1 st=>⟨_,_,⟨w1,q.Z⟩,rfl,rfl,⟨_,_,rfl,rfl⟩,st.newR (by simp) (by simp) (hfr (by simp) (by simp))⟩)
def aI1(n:Nat)(xs:List Value)(v:Value)(hs:List HP)(_:Piece):Prop:=∃A c,v=.slice A n c∧hs=[HP.own 88 3 (.slice A n c) n xs]
theorem aLH(A:Option Addr)(n c:Nat)(xs:List Value)(w:World)(hs:aI (all w) 3 A n xs)(h1:∀u∈xs,u.oneCell'=true)(hn:n≤1000000):
  Cz 162 #[.slice A n c] w (fun y w'=>(∃v hs q,y=.returned v∧q.w=w'∧aI1 n xs v hs q∧fZ w hs q)∧Below w.heap.size w w'):=by
 refine aO func162 ntmps162 ?_;refine aA ?_;refine lI 88 3 ?_;refine gY 0 3 24 n (n':=n) (v:=sn) (el:=88) (by kernel_rfl) (by kernel_rfl) (by decide) rfl rfl rfl (rU (by simp) hs) h1 (by omega) (by omega) (by omega) (by decide) fun A' k'=>?_;dsimp only[List.set,List.nil_append];refine aA ?_;refine dG [] [] [0] (by simp) rfl (by decide) (by decide) fun q _ _ hfr=>?_;exact aP (h:=fun w1 st=>⟨_,_,⟨w1,q.Z⟩,rfl,rfl,⟨_,_,rfl,rfl⟩,st.newR (by simp) (by simp) (hfr (by simp) (by simp))⟩)
def aIz(n:Nat)(xs:List Value)(v:Value)(hs:List HP)(_:Piece):Prop:=∃A c,v=.slice A n c∧hs=[HP.own 90 1 (.slice A n c) n xs]
theorem aLF(A:Option Addr)(n c:Nat)(xs:List Value)(w:World)(hs:aI (all w) 1 A n xs)(h1:∀u∈xs,u.oneCell'=true)(hn:n≤1000000):
  Cz 163 #[.slice A n c] w (fun y w'=>(∃v hs q,y=.returned v∧q.w=w'∧aIz n xs v hs q∧fZ w hs q)∧Below w.heap.size w w'):=by
 refine aO func163 ntmps163 ?_;refine aA ?_;refine lI 90 1 ?_;refine gY 0 1 8 n (n':=n) (v:=sn) (el:=90) (by kernel_rfl) (by kernel_rfl) (by decide) rfl rfl rfl (rU (by simp) hs) h1 (by omega) (by omega) (by omega) (by decide) fun A' k'=>?_;dsimp only[List.set,List.nil_append];refine aA ?_;refine dG [] [] [0] (by simp) rfl (by decide) (by decide) fun q _ _ hfr=>?_;exact aP (h:=fun w1 st=>⟨_,_,⟨w1,q.Z⟩,rfl,rfl,⟨_,_,rfl,rfl⟩,st.newR (by simp) (by simp) (hfr (by simp) (by simp))⟩)
def aI2(n:Nat)(xs:List Value)(v:Value)(hs:List HP)(_:Piece):Prop:=∃A c,v=.slice A n c∧hs=[HP.own 93 6 (.slice A n c) n xs]
theorem aLI(A:Option Addr)(n c:Nat)(xs:List Value)(w:World)(hs:aI (all w) 6 A n xs)(h1:∀u∈xs,u.oneCell'=true)(hn:n≤1000000):
  Cz 164 #[.slice A n c] w (fun y w'=>(∃v hs q,y=.returned v∧q.w=w'∧aI2 n xs v hs q∧fZ w hs q)∧Below w.heap.size w w'):=by
 refine aO func164 ntmps164 ?_;refine aA ?_;refine lI 93 6 ?_;refine gY 0 6 80 n (n':=n) (v:=sn) (el:=93) (by kernel_rfl) (by kernel_rfl) (by decide) rfl rfl rfl (rU (by simp) hs) h1 (by omega) (by omega) (by omega) (by decide) fun A' k'=>?_;dsimp only[List.set,List.nil_append];refine aA ?_;refine dG [] [] [0] (by simp) rfl (by decide) (by decide) fun q _ _ hfr=>?_;exact aP (h:=fun w1 st=>⟨_,_,⟨w1,q.Z⟩,rfl,rfl,⟨_,_,rfl,rfl⟩,st.newR (by simp) (by simp) (hfr (by simp) (by simp))⟩)
def aDV(n:Nat)(xs:List Value)(v:Value)(hs:List HP)(_:Piece):Prop:=∃A c,v=.slice A n c∧hs=[HP.own 3 1 (.slice A n c) n xs]
theorem aF0(A:Option Addr)(n c:Nat)(xs:List Value)(w:World)(hs:aI (all w) 1 A n xs)(h1:∀u∈xs,u.oneCell'=true)(hn:n≤1000000):
  Cz 121 #[.slice A n c] w (fun y w'=>(∃v hs q,y=.returned v∧q.w=w'∧aDV n xs v hs q∧fZ w hs q)∧Below w.heap.size w w'):=by
 refine aO func121 ntmps121 ?_;refine aA ?_;refine lI 3 1 ?_;refine gY 0 1 8 n (n':=n) (v:=sn) (el:=3) (by kernel_rfl) (by kernel_rfl) (by decide) rfl rfl rfl (rU (by simp) hs) h1 (by omega) (by omega) (by omega) (by decide) fun A' k'=>?_;dsimp only[List.set,List.nil_append];refine aA ?_;refine dG [] [] [0] (by simp) rfl (by decide) (by decide) fun q _ _ hfr=>?_;exact aP (h:=fun w1 st=>⟨_,_,⟨w1,q.Z⟩,rfl,rfl,⟨_,_,rfl,rfl⟩,st.newR (by simp) (by simp) (hfr (by simp) (by simp))⟩)
def aI0(n:Nat)(xs:List Value)(v:Value)(hs:List HP)(_:Piece):Prop:=∃A c,v=.slice A n c∧hs=[HP.own 95 2 (.slice A n c) n xs]
theorem aLG(A:Option Addr)(n c:Nat)(xs:List Value)(w:World)(hs:aI (all w) 2 A n xs)(h1:∀u∈xs,u.oneCell'=true)(hn:n≤1000000):
  Cz 165 #[.slice A n c] w (fun y w'=>(∃v hs q,y=.returned v∧q.w=w'∧aI0 n xs v hs q∧fZ w hs q)∧Below w.heap.size w w'):=by
 refine aO func165 ntmps165 ?_;refine aA ?_;refine lI 95 2 ?_;refine gY 0 2 8 n (n':=n) (v:=sn) (el:=95) (by kernel_rfl) (by kernel_rfl) (by decide) rfl rfl rfl (rU (by simp) hs) h1 (by omega) (by omega) (by omega) (by decide) fun A' k'=>?_;dsimp only[List.set,List.nil_append];refine aA ?_;refine dG [] [] [0] (by simp) rfl (by decide) (by decide) fun q _ _ hfr=>?_;exact aP (h:=fun w1 st=>⟨_,_,⟨w1,q.Z⟩,rfl,rfl,⟨_,_,rfl,rfl⟩,st.newR (by simp) (by simp) (hfr (by simp) (by simp))⟩)
end
section
structure Rn(p:Piece)(s:aC)(A1:Option Addr)(n1:Nat)(A2:Option Addr)(n2:Nat)(A3:Option Addr)(n3:Nat)(A4:Option Addr)(n4:Nat):Prop where
 uE:jW (fI p) (qO (fI p)) 86 6 A1 n1 s.aF
 dom:jW (fI p) tE 88 3 A2 n2 s.domains
 zW:jW (fI p) xN 90 1 A3 n3 s.aY
 dev:jW (fI p) (pV (fI p)) 93 6 A4 n4 s.aD
section
variable{p q:Piece}{w:World}{s:aC}{A1 A2 A3 A4:Option Addr}{n1 n2 n3 n4:Nat}
theorem Rn.le(h:Rn p s A1 n1 A2 n2 A3 n3 A4 n4)(hl:p.Le q):Rn q s A1 n1 A2 n2 A3 n3 A4 n4:=
 ⟨h.uE.mono (kG hl) (fun _ _=>qO.mono (kG hl)),h.dom.mono (kG hl) (fun _ _ h=>h),h.zW.mono (kG hl) (fun _ _ h=>h),h.dev.mono (kG hl) (fun _ _=>pV.mono (kG hl))⟩
theorem Rn.W(h:Rn p s A1 n1 A2 n2 A3 n3 A4 n4)(hl:p.Le (all w))(hs:s.small):iD w s A1 n1 A2 n2 A3 n3 A4 n4:=⟨(h.le hl).uE,(h.le hl).dom,(h.le hl).zW,(h.le hl).dev,hs⟩
theorem uK.Q{cs:Array Value}(h:uK (fI p) s cs):∃A1 n1 k1 A2 n2 k2 A3 n3 k3 A4 n4 k4,cs=#[.slice A1 n1 k1,.slice A2 n2 k2,.slice A3 n3 k3,.slice A4 n4 k4]∧Rn p s A1 n1 A2 n2 A3 n3 A4 n4:=by
 obtain⟨A1,n1,k1,A2,n2,k2,A3,n3,k3,A4,n4,k4,h0,h1,h2,h3,h4⟩:=h;exact⟨A1,n1,k1,A2,n2,k2,A3,n3,k3,A4,n4,k4,h0,h1,h2,h3,h4⟩
end
theorem aSe{α:Type}{p:Piece}{R:α→List Value→Prop}{t:TypeId}{sz n:Nat}{A:Option Addr}{es:List α}(h:jW (fI p) R t sz A n es){k:Nat}{e:α}(hk:es[k]? =some e):
  ∃b off r,A=some ⟨b,off,none⟩∧p.Z b∧r.length=sz∧R e r∧∀f u,r[f]? =some u→p.w.cell? ⟨b,off+k*sz+f,none⟩=some u:=by
 obtain⟨rows,h1,h2,h3⟩:=h
 have hlt:k < n:=by
  rw[h2];rcases Nat.lt_or_ge k es.length with h | h
  ·exact h
  ·rw[List.getElem?_eq_none h] at hk;cases hk
 obtain⟨b,off,hA,hb,hc⟩:=aI.at_ h3 hlt;obtain⟨r,h4,h5,h6⟩:=h1.get hk;refine⟨b,off,r,hA,hb,h4,h5,fun f u hu=>hc f u ?_⟩
 have hf:f < sz:=by
  rw[←h4];rcases Nat.lt_or_ge f r.length with h | h
  ·exact h
  ·rw[List.getElem?_eq_none h] at hu;cases hu
 rw[h6 f hf,hu]
end
section
theorem nU{N:cE}{w0:World}{e:Env}{R:List Piece}{H:List HP}{K:Act→World→Prop}{p:HP}(hp:∀w,p.sat (fun _=>False) w)(h:XK N w0 K e R (p::H)):XK N w0 K e R H:=fun a w hr st=>
 h a w hr (st.new (w':=w) (Below.refl _ _) (by
  rw[show(fresh w w).Z=fun _=>False from by funext b;simp only[fresh,eq_iff_iff,iff_false];omega]
  exact hp w))
abbrev AC:=Option Addr×Nat
def yU(c:eW)(a:AC):List Value:=[.int .u8 c.kind,.slice a.1 c.src.length a.2,.int .u64 c.rate,iv c.mul,iv c.div,iv c.lock]
def yT(d:cH)(p:AC×AC):List Value:=[iv d.clock,iv d.domain,iv d.reset,.int .u32 d.iH,.slice p.1.1 d.aR.length p.1.2,.slice p.2.1 d.iX.length p.2.2]
def Qp(s:aC)(fa:List AC):List (List Value):=List.zipWith yU s.aF fa
def Qk(s:aC)(da:List (AC×AC)):List (List Value):=List.zipWith yT s.aD da
section
variable{α β:Type}{f:α→β→List Value}{sz:Nat}
theorem Yd{es:List α}{bs:List β}(hl:bs.length=es.length)(hf:∀e a,(f e a).length=sz):(List.zipWith f es bs).length=es.length∧∀r∈List.zipWith f es bs,r.length=sz:=by
 refine⟨by simp;omega,fun r hr=>?_⟩;obtain⟨j,hj⟩:=List.getElem?_of_mem hr;rw[List.getElem?_zipWith] at hj;split at hj<;>cases hj
 exact hf _ _
theorem Rz{es:List α}{bs:List β}{i:Nat}{e:α}{a:β}(he:es[i]? =some e)(ha:bs[i]? =some a):(List.zipWith f es bs)[i]? =some (f e a):=by rw[List.getElem?_zipWith,he,ha]
theorem aEj{es:List α}{bs:List β}{i:Nat}{e:α}{a:β}(he:es[i]? =some e)(hi:i < bs.length):(List.zipWith f es bs).set i (f e a)=List.zipWith f es (bs.set i a):=by
 refine List.ext_getElem? fun j=>?_;rw[List.getElem?_set]
 by_cases hj:i=j
 ·subst hj
  have h1:=(List.getElem?_eq_some_iff.1 he).1
  rw[if_pos rfl,Rz he (List.getElem?_set_self hi),if_pos (by simp;omega)]
 ·rw[if_neg hj,List.getElem?_zipWith,List.getElem?_zipWith,List.getElem?_set_ne hj]
theorem aEk{es:List α}{bs:List β}(hf:∀e a,∀u∈f e a,u.oneCell'=true):∀u∈(List.zipWith f es bs).flatten,u.oneCell'=true:=fun u hu=>by
 obtain⟨r,hr,hu⟩:=List.mem_flatten.1 hu;obtain⟨j,hj⟩:=List.getElem?_of_mem hr;rw[List.getElem?_zipWith] at hj;split at hj<;>cases hj
 exact hf _ _ u hu
end
theorem aQc(c:eW)(a:AC):∀u∈yU c a,u.oneCell'=true:=by simp[yU,Value.oneCell']
theorem aP5(d:cH)(p:AC×AC):∀u∈yT d p,u.oneCell'=true:=by simp[yT,Value.oneCell']
theorem aDm{S:sZ}:∀{cl:List eW} {rs:List (List Value)},Rows (qO S) 6 cl rs→∃fa:List AC,fa.length=cl.length∧rs=List.zipWith yU cl fa∧∀(i:Nat) (c:eW) (a:AC),cl[i]? =some c→fa[i]? =some a→S 3 1 a.1 c.src.length (aN c.src)
 | [],[],_=>⟨[],rfl,rfl,fun i c a h=>by simp at h⟩
 | e::es,r::rs,h=>by
  obtain⟨_,⟨A,n,k,hr,hn,hS⟩,h3⟩:=h;obtain⟨fa,h4,h5,h6⟩:=aDm h3;subst hn;refine⟨(A,k)::fa,by simp[h4],by rw[hr,h5];rfl,fun i c a hc ha=>?_⟩;cases i with
  | zero=>simp at hc ha;subst hc;subst ha;exact hS
  | succ i=>exact h6 i c a (by simpa using hc) (by simpa using ha)
theorem aFf{S:sZ}:∀{cl:List eW} {fa:List AC},fa.length=cl.length→(∀(i:Nat) (c:eW) (a:AC),cl[i]? =some c→fa[i]? =some a→S 3 1 a.1 c.src.length (aN c.src))→Rows (qO S) 6 cl (List.zipWith yU cl fa)
 | [],[],_,_=>trivial
 | c::cl,a::fa,hl,h=>⟨rfl,⟨a.1,_,a.2,rfl,rfl,h 0 c a rfl rfl⟩,aFf (by simpa using hl) fun i c' a' hc ha=>h (i+1) c' a' (by simpa using hc) (by simpa using ha)⟩
theorem aDf{S:sZ}:∀{cl:List cH} {rs:List (List Value)},Rows (pV S) 6 cl rs→∃da:List (AC×AC),da.length=cl.length∧rs=List.zipWith yT cl da∧∀(i:Nat) (d:cH) (p:AC×AC),cl[i]? =some d→da[i]? =some p→S 95 2 p.1.1 d.aR.length (d.aR.flatMap Rg.cells)∧S 3 1 p.2.1 d.iX.length (aN d.iX)
 | [],[],_=>⟨[],rfl,rfl,fun i c a h=>by simp at h⟩
 | e::es,r::rs,h=>by
  obtain⟨_,⟨A,n,k,A',n',k',hr,hn,hn',hS,hS'⟩,h3⟩:=h;obtain⟨da,h4,h5,h6⟩:=aDf h3;subst hn;subst hn';refine⟨((A,k),(A',k'))::da,by simp[h4],by rw[hr,h5];rfl,fun i d p hc ha=>?_⟩;cases i with
  | zero=>simp at hc ha;subst hc;subst ha;exact⟨hS,hS'⟩
  | succ i=>exact h6 i d p (by simpa using hc) (by simpa using ha)
theorem aFe{S:sZ}:∀{cl:List cH} {da:List (AC×AC)},da.length=cl.length→(∀(i:Nat) (d:cH) (p:AC×AC),cl[i]? =some d→da[i]? =some p→S 95 2 p.1.1 d.aR.length (d.aR.flatMap Rg.cells)∧S 3 1 p.2.1 d.iX.length (aN d.iX))→Rows (pV S) 6 cl (List.zipWith yT cl da)
 | [],[],_,_=>trivial
 | c::cl,a::da,hl,h=>⟨rfl,⟨a.1.1,_,a.1.2,a.2.1,_,a.2.2,rfl,rfl,rfl,(h 0 c a rfl rfl).1,(h 0 c a rfl rfl).2⟩,aFe (by simpa using hl) fun i c' a' hc ha=>h (i+1) c' a' (by simpa using hc) (by simpa using ha)⟩
theorem aPk{es:List Dom}{rs:List (List Value)}(h:Rows tE 3 es rs):∀u∈rs.flatten,u.oneCell'=true:=fun u hu=>by
 obtain⟨r,hr,hu⟩:=List.mem_flatten.1 hu;obtain⟨j,hj⟩:=List.getElem?_of_mem hr;obtain⟨e,_,_,hR⟩:=h.at_ hj;unfold tE at hR;subst hR;simp only[List.mem_cons,List.not_mem_nil,or_false] at hu;rcases hu with rfl | rfl | rfl<;>rfl
theorem aK8{es:List Int}{rs:List (List Value)}(h:Rows xN 1 es rs):∀u∈rs.flatten,u.oneCell'=true:=fun u hu=>by
 obtain⟨r,hr,hu⟩:=List.mem_flatten.1 hu;obtain⟨j,hj⟩:=List.getElem?_of_mem hr;obtain⟨e,_,_,hR⟩:=h.at_ hj;unfold xN at hR;subst hR;simp only[List.mem_cons,List.not_mem_nil,or_false] at hu;subst hu;rfl
def xU(s:aC)(fa:List AC)(i:Nat)(p:Piece):Prop:=∀(j:Nat) (c:eW) (a:AC),j < i→s.aF[j]? =some c→fa[j]? =some a→aI p 1 a.1 c.src.length (aN c.src)
theorem xU.le{s:aC}{fa:List AC}{i:Nat}(p q:Piece)(hl:p.Le q)(h:xU s fa i p):xU s fa i q:=fun j c a hj hc ha=>(h j c a hj hc ha).le hl
def Cc(s:aC)(da:List (AC×AC))(i:Nat)(p:Piece):Prop:=∀(j:Nat) (d:cH) (a:AC×AC),j < i→s.aD[j]? =some d→da[j]? =some a→aI p 2 a.1.1 d.aR.length (d.aR.flatMap Rg.cells)∧aI p 1 a.2.1 d.iX.length (aN d.iX)
theorem Cc.le{s:aC}{da:List (AC×AC)}{i:Nat}(p q:Piece)(hl:p.Le q)(h:Cc s da i p):Cc s da i q:=fun j c a hj hc ha=>⟨(h j c a hj hc ha).1.le hl,(h j c a hj hc ha).2.le hl⟩
end
section
theorem Nw{l:List Rg}:∀u∈l.flatMap Rg.cells,u.oneCell'=true:=fun u hu=>by
 obtain⟨r,_,hu⟩:=List.mem_flatMap.1 hu;simp only[Rg.cells,List.mem_cons,List.not_mem_nil,or_false] at hu;rcases hu with rfl | rfl<;>rfl
def aBk(s:aC)(v:Value)(w w':World):Prop:=∃cs,v=.agg cs∧uK (fI (fresh w w')) s cs
theorem aDk(s:aC)(A1 A2 A3 A4:Option Addr)(n1 k1 n2 k2 n3 k3 n4 k4:Nat)(w:World)(hW:iD w s A1 n1 A2 n2 A3 n3 A4 n4)(Uj:∀d∈s.aD,d.aR.length≤1000000):
  Cz 106 #[.agg #[.slice A1 n1 k1,.slice A2 n2 k2,.slice A3 n3 k3,.slice A4 n4 k4]] w (fun y w'=>(∃v,y=.returned v∧aBk s v w w')∧Below w.heap.size w w'):=by
 obtain⟨rc,hrc,qD,hsc⟩:=hW.uE;obtain⟨rd,hrd,hn2,hsd⟩:=hW.dom;obtain⟨rr,cR,sI,hst⟩:=hW.zW;obtain⟨rv,Pa,tW,tS⟩:=hW.dev;obtain⟨Iv,aN1,rfl,aN2⟩:=aDm hrc;obtain⟨Ge,aN6,rfl,aN7⟩:=aDf Pa;obtain⟨sm1,sm2,sm3,sm4,sm5,sm6⟩:=hW.small;subst qD;subst hn2;subst sI;subst tW
 have ho1:=aEk (es:=s.aF) (bs:=Iv) aQc
 have ho4:=aEk (es:=s.aD) (bs:=Ge) aP5
 refine aO func106 ntmps106 ?_;refine dX ?_;refine fT ?_;refine bO fun g1=>?_;refine bY fun g2=>?_;refine fB ?_;refine Rf (fun e R H=>∃C j1 D j2 E j3 V j4 g3,e=[(3,pt g3),(2,pt g2)]∧R=[all w]∧H=[HP.own 86 6 (.slice C s.aF.length j1) s.aF.length (Qp s Iv).flatten,HP.own 93 6 (.slice V s.aD.length j4) s.aD.length (Qk s Ge).flatten,HP.own 88 3 (.slice D s.domains.length j2) s.domains.length rd.flatten,HP.own 90 1 (.slice E s.aY.length j3) s.aY.length rr.flatten,HP.aE g3 30 [.slice C s.aF.length j1,.slice D s.domains.length j2,.slice E s.aY.length j3,.slice V s.aD.length j4],HP.aE g2 30 [sn,sn,sn,sn]]) ?_ ?_
 ·refine qI 14 (by kernel_rfl) (by kernel_rfl) ?_;refine bQ 0 ?_;refine bQ 1 ?_;refine bQ 3 ?_;refine bQ 4 ?_;refine bQ 6 ?_;refine bQ 7 ?_;refine bQ 9 ?_;refine bQ 10 ?_;refine aIh (j:=13) 3 30 [sn,sn,sn,sn] fun M=>?_;refine Rm 2 13 rfl rfl (gX (by kernel_rfl)) (by decide) (by kernel_rfl) (by kernel_rfl) (fun _ h=>h) (fun M=>?_);refine Se (f:=161) (fi:=[]) (ca:=[]) (by kernel_rfl) (Py M rfl rfl) (Px M rfl rfl) (by decide) (aI3 s.aF.length (Qp s Iv).flatten) (fun w1 st=>aLJ A1 _ k1 _ w1 (hsc.le (st.le (by simp))) ho1 sm1) ?_;rintro _ _ q1 ⟨C,j1,rfl,rfl⟩ _;dsimp only[List.cons_append,List.nil_append];refine aAN ?_;refine gT ?_;refine gO ?_;refine Xp (by decide) rfl (fun _ h=>h.bE.tail) ?_;refine Rm 5 13 rfl rfl (gX (by kernel_rfl)) (by decide) (by kernel_rfl) (by kernel_rfl) (fun _ h=>h.bE.tail) (fun M=>?_);refine Se (f:=162) (fi:=[]) (ca:=[]) (by kernel_rfl) (Py M rfl rfl) (Px M rfl rfl) (by decide) (aI1 s.domains.length rd.flatten) (fun w1 st=>aLH A2 _ k2 _ w1 (hsd.le (st.le (by simp))) (aPk hrd) sm2) ?_;rintro _ _ q2 ⟨D,j2,rfl,rfl⟩ _;dsimp only[List.cons_append,List.nil_append];refine aAN ?_;refine gT ?_;refine gO ?_;refine Xp (by decide) rfl (fun _ h=>h.bE.tail.bE.tail) ?_;refine Rm 8 13 rfl rfl (gX (by kernel_rfl)) (by decide) (by kernel_rfl) (by kernel_rfl) (fun _ h=>h.bE.tail.bE.tail) (fun M=>?_);refine Se (f:=163) (fi:=[]) (ca:=[]) (by kernel_rfl) (Py M rfl rfl) (Px M rfl rfl) (by decide) (aIz s.aY.length rr.flatten) (fun w1 st=>aLF A3 _ k3 _ w1 (hst.le (st.le (by simp))) (aK8 cR) sm3) ?_;rintro _ _ q3 ⟨E,j3,rfl,rfl⟩ _;dsimp only[List.cons_append,List.nil_append];refine aAN ?_;refine gT ?_;refine gO ?_;refine Xp (by decide) rfl (fun _ h=>h.bE.tail.bE.tail.bE.tail) ?_;refine Rm 11 13 rfl rfl (gX (by kernel_rfl)) (by decide) (by kernel_rfl) (by kernel_rfl) (fun _ h=>h.bE.tail.bE.tail.bE.tail) (fun M=>?_);refine Se (f:=164) (fi:=[]) (ca:=[]) (by kernel_rfl) (Py M rfl rfl) (Px M rfl rfl) (by decide) (aI2 s.aD.length (Qk s Ge).flatten) (fun w1 st=>aLI A4 _ k4 _ w1 (tS.le (st.le (by simp))) ho4 sm4) ?_;rintro _ _ q4 ⟨V,j4,rfl,rfl⟩ _;dsimp only[List.cons_append,List.nil_append];refine aAN ?_;refine gT ?_;refine gO ?_;refine Xp (by decide) rfl (fun _ h=>h.bE.tail.bE.tail.bE.tail.bE.tail) ?_;cases M with
  | none=>
   dsimp only[uB,wT,yI,Dl];refine fH 12 rfl rfl rfl (by decide) (kR (zs:=[sn,sn,sn,sn]) (L:=[(0,1),(1,1),(2,1),(3,1)]) (gX (by kernel_rfl)) (by kernel_rfl) rfl (by simp[eZ,gB,Value.cells];rfl)) (by kernel_rfl) (fun _ _ _ h=>h) (fun _ h=>h.bE.tail.bE.tail.bE.tail.bE.tail) ?_;refine cK 13 ?_;refine bY fun g3=>?_;refine gT ?_;refine gO ?_;refine kM (fun _ h=>h.tail.bE.tail.bE.tail.bE.tail.bE.tail) ?_;refine cK 14 ?_;refine lO 0 rfl ?_;dsimp only[List.set];refine eS ?_;refine kL ?_;refine eK ?_;exact aT [4,1,3,2,0,5] rfl (by decide) (by simp) (bN [(3,pt g3),(2,pt g2)] (Xl ⟨C,j1,D,j2,E,j3,V,j4,g3,rfl,rfl,rfl⟩))
  | some g3=>
   dsimp only[uB,wT,yI,Dl];refine fH 12 rfl rfl rfl (by decide) (kR (zs:=[sn,sn,sn,sn]) (L:=[(0,1),(1,1),(2,1),(3,1)]) (gX (by kernel_rfl)) (by kernel_rfl) rfl (by simp[eZ,gB,Value.cells];rfl)) (by kernel_rfl) (fun _ _ _ h=>h) (fun _ h=>h.tail.bE.tail.bE.tail.bE.tail.bE.tail) ?_;refine cK 14 ?_;refine lO 0 rfl ?_;dsimp only[List.set];refine eS ?_;refine kL ?_;refine eK ?_;exact aT [4,1,3,2,0,5] rfl (by decide) (by simp) (bN [(3,pt g3),(2,pt g2)] (Xl ⟨C,j1,D,j2,E,j3,V,j4,g3,rfl,rfl,rfl⟩))
 rintro _ _ _ ⟨C,j1,D,j2,E,j3,V,j4,g3,rfl,rfl,rfl⟩;refine nU (p:=HP.bU (xU s Iv 0) (xU.le (s:=s) (fa:=Iv) (i:=0))) (fun w1 j c a hj=>absurd hj (by omega)) ?_;refine aA ?_;refine bN [(23,iv 0),(22,iv s.aF.length),(3,pt g3),(2,pt g2)] ?_;refine eV (fun m e R H=>∃(i:Nat) (fa:List AC),i≤s.aF.length∧fa.length=s.aF.length∧(∀j,i≤j→fa[j]? =Iv[j]?)∧m=s.aF.length - i∧e=[(23,iv i),(22,iv s.aF.length),(3,pt g3),(2,pt g2)]∧R=[all w]∧H=[HP.bU (xU s fa i) (xU.le (s:=s) (fa:=fa) (i:=i)),HP.own 86 6 (.slice C s.aF.length j1) s.aF.length (Qp s fa).flatten,HP.own 93 6 (.slice V s.aD.length j4) s.aD.length (Qk s Ge).flatten,HP.own 88 3 (.slice D s.domains.length j2) s.domains.length rd.flatten,HP.own 90 1 (.slice E s.aY.length j3) s.aY.length rr.flatten,HP.aE g3 30 [.slice C s.aF.length j1,.slice D s.domains.length j2,.slice E s.aY.length j3,.slice V s.aD.length j4],HP.aE g2 30 [sn,sn,sn,sn]]) s.aF.length ⟨0,Iv,by omega,aN1,fun _ _=>rfl,rfl,rfl,rfl,rfl⟩ fun m e R H hI=>?_;obtain⟨i,fa,hi,hfl,hsame,rfl,rfl,rfl,rfl⟩:=hI;refine aA ?_;refine aG rfl (fun hlt=>?_) (fun hge=>?_)
 ·have hlt:i < s.aF.length:=by omega
  obtain⟨c,hc⟩:=get_some hlt;obtain⟨a,ha⟩:=get_some (l:=fa) (i:=i) (by omega)
  have ha0:Iv[i]? =some a:=by rw[←hsame i (Nat.le_refl _)];exact ha
  have aN0:=aN2 i c a hc ha0
  have hcs:=sm5 c (List.mem_of_getElem? hc)
  refine aT [1,0,2,3,4,5,6] rfl (by decide) (fun _ h=>h) ?_;refine aAP 0 rfl (by omega) fun gC hC=>?_;subst hC;refine Gp 0 rfl fun cs h1 h2 h3 h4=>?_;dsimp only[List.set];obtain⟨fN,iN⟩:=Yd (f:=yU) (es:=s.aF) (bs:=fa) (sz:=6) hfl (fun _ _=>rfl)
  have hs:=Dm h2 fN iN (Rz hc ha)
  refine aA ?_;refine qI 10 (by kernel_rfl) (by kernel_rfl) ?_;refine bQ 0 ?_;refine bQ 1 ?_;refine bQ 2 ?_;refine bQ 3 ?_;refine bQ 4 ?_;refine bQ 5 ?_;refine bQ 6 ?_ (cM:=dat (sz:=6) i (i*6));refine bQ 7 ?_;refine bQ 8 ?_;refine cK 9 ?_;refine eM (aDV c.src.length (aN c.src)) (fun w1 st=>aF0 a.1 _ a.2 _ w1 (aI.le aN0 (st.le (by simp))) (Ot _) hcs) ?_;rintro _ _ q ⟨Af,kf,rfl,rfl⟩ _;dsimp only[List.cons_append,List.nil_append];refine mS ?_;refine cK 10 ?_;refine kd (dat i (i*6)) ?_;refine eS ?_;refine cK 11 ?_;refine bF ?_;refine eS ?_;refine cK 12 ?_;refine eO rfl rfl ?_;dsimp only[List.set];refine eS ?_;refine kL ?_
  have hs1:=hs.set 1 (.slice Af c.src.length kf) (by simp[yU]) (by omega)
  have tR:=(sX.refl cs (i*6) 6).set 1 (.slice Af c.src.length kf) (by decide)
  have hf:=Bj (r':=yU c (Af,kf)) h2 fN iN hlt (by omega) rfl hs1 tR
  rw[show(Qp s fa).set i (yU c (Af,kf))=Qp s (fa.set i (Af,kf)) from aEj hc (by omega)] at hf;refine Eb 1 (n:=s.aF.length) (c:=j1) (sz:=6) rfl (by simpa using h1) hf h3 h4 ?_;dsimp only[List.set];refine xL 0 (Φ:=fun p=>aI p 1 Af c.src.length (aN c.src)) (hm:=fun p q hl h=>aI.le h hl) rfl (fun p h=>h) ?_;dsimp only[List.set];refine aT [0,2,1,3,4,5,6,7] rfl (by decide) (fun _ h=>h) ?_
  refine Jn (X:=xU s (fa.set i (Af,kf)) (i+1)) (h3:=xU.le) (fun p h1 h2 j c' a' hj Lt Bg=>by
   rcases Nat.lt_or_ge j i with h | h
   ·rw[List.getElem?_set_ne (by omega)] at Bg;exact h2 j c' a' h Lt Bg
   ·obtain rfl:j=i:=by omega
    rw[hc] at Lt;cases Lt;rw[List.getElem?_set_self (by omega)] at Bg;cases Bg
    exact h1) ?_
  refine aA ?_;refine bN [(23,iv (i+1:Nat)),(22,iv s.aF.length),(3,pt g3),(2,pt g2)] ?_;refine uI (R':=[all w]) (by simp) ?_;exact gP (s.aF.length - (i+1)) (by omega) ⟨i+1,fa.set i (Af,kf),hlt,by simpa using hfl,fun j hj=>by rw[List.getElem?_set_ne (by omega)];exact hsame j (by omega),rfl,rfl,rfl,rfl⟩
 ·obtain rfl:i=s.aF.length:=by omega
  refine nU (p:=HP.bU (Cc s Ge 0) (Cc.le (s:=s) (da:=Ge) (i:=0))) (fun w1 j d a hj=>absurd hj (by omega)) ?_;refine aA ?_;refine bN [(42,iv 0),(41,iv s.aD.length),(3,pt g3),(2,pt g2)] ?_;refine eV (fun m e R H=>∃(i:Nat) (da:List (AC×AC)),i≤s.aD.length∧da.length=s.aD.length∧(∀j,i≤j→da[j]? =Ge[j]?)∧m=s.aD.length - i∧e=[(42,iv i),(41,iv s.aD.length),(3,pt g3),(2,pt g2)]∧R=[all w]∧H=[HP.bU (Cc s da i) (Cc.le (s:=s) (da:=da) (i:=i)),HP.bU (xU s fa s.aF.length) (xU.le (s:=s) (fa:=fa) (i:=s.aF.length)),HP.own 86 6 (.slice C s.aF.length j1) s.aF.length (Qp s fa).flatten,HP.own 93 6 (.slice V s.aD.length j4) s.aD.length (Qk s da).flatten,HP.own 88 3 (.slice D s.domains.length j2) s.domains.length rd.flatten,HP.own 90 1 (.slice E s.aY.length j3) s.aY.length rr.flatten,HP.aE g3 30 [.slice C s.aF.length j1,.slice D s.domains.length j2,.slice E s.aY.length j3,.slice V s.aD.length j4],HP.aE g2 30 [sn,sn,sn,sn]]) s.aD.length ⟨0,Ge,by omega,aN6,fun _ _=>rfl,rfl,rfl,rfl,rfl⟩ fun m e R H hI=>?_;obtain⟨i,da,hi,lC,aGa,rfl,rfl,rfl,rfl⟩:=hI;refine aA ?_;refine aG rfl (fun hlt=>?_) (fun hge=>?_)
  ·have hlt:i < s.aD.length:=by omega
   obtain⟨d,hd⟩:=get_some hlt;obtain⟨⟨a1,a2⟩,ha⟩:=get_some (l:=da) (i:=i) (by omega)
   have ha0:Ge[i]? =some (a1,a2):=by rw[←aGa i (Nat.le_refl _)];exact ha
   obtain⟨aCz,aGl⟩:=aN7 i d _ hd ha0
   have dO:=Uj d (List.mem_of_getElem? hd)
   have fJ:=sm6 d (List.mem_of_getElem? hd)
   refine aT [3,0,1,2,4,5,6,7] rfl (by decide) (fun _ h=>h) ?_;refine aAP 0 rfl (by omega) fun gV hV=>?_;subst hV;refine Gp 0 rfl fun cs h1 h2 h3 h4=>?_;dsimp only[List.set];obtain⟨fN,iN⟩:=Yd (f:=yT) (es:=s.aD) (bs:=da) (sz:=6) lC (fun _ _=>rfl)
   have hs:=Dm h2 fN iN (Rz hd ha)
   refine aA ?_;refine kd (dat i (i*6)) ?_;refine aA ?_;refine iZ [3,4,5,8,9,10] ?_;refine bJ 0 ?_;refine bJ 1 ?_;refine bJ 2 ?_;refine bJ 7 ?_;refine aK 3 ?_;refine aK 4 ?_;refine aK 5 ?_;refine aK 8 ?_;refine aK 9 ?_;refine aK 10 ?_;refine aL 6 ?_;refine eM (aI0 d.aR.length (d.aR.flatMap Rg.cells)) (fun w1 st=>aLG a1.1 _ a1.2 _ w1 (aI.le aCz (st.le (by simp))) Nw dO) ?_;rintro _ _ q1 ⟨Ag,kg,rfl,rfl⟩ _;dsimp only[List.cons_append,List.nil_append];refine bB ?_;refine aL 11 ?_;refine eM (aDV d.iX.length (aN d.iX)) (fun w1 st=>aF0 a2.1 _ a2.2 _ w1 (aI.le aGl (st.le (by simp))) (Ot _) fJ) ?_;rintro _ _ q2 ⟨An,kn,rfl,rfl⟩ _;dsimp only[List.cons_append,List.nil_append];refine bB ?_ (hS:=fun _ h=>h.bE.tail.bE.tail);refine aL 12 ?_;refine bF ?_;refine bB ?_ (hS:=fun _ h=>h.bE.tail.bE.tail);refine aL 13 ?_;refine bF ?_;refine bB ?_ (hS:=fun _ h=>h.bE.tail.bE.tail);refine aL 14 ?_;refine eO rfl rfl ?_;dsimp only[List.set];refine cI ?_;refine aL 15 ?_;refine bF ?_;refine cI ?_;refine aL 16 ?_;refine bF ?_;refine cI ?_;refine aL 17 ?_;refine eO rfl rfl ?_;dsimp only[List.set];refine cI ?_;refine dY ?_
   have hs1:=(hs.set 4 (.slice Ag d.aR.length kg) (by simp[yT]) (by omega)).set 5 (.slice An d.iX.length kn) (by simp[yT]) (by simp;omega)
   have tR:=((sX.refl cs (i*6) 6).set 4 (.slice Ag d.aR.length kg) (by decide)).set 5 (.slice An d.iX.length kn) (by decide)
   have hf:=Bj (r':=yT d ((Ag,kg),(An,kn))) h2 fN iN hlt (by omega) rfl hs1 tR
   rw[show(Qk s da).set i (yT d ((Ag,kg),(An,kn)))=Qk s (da.set i ((Ag,kg),(An,kn))) from aEj hd (by omega)] at hf;refine Eb 2 (n:=s.aD.length) (c:=j4) (sz:=6) rfl (by simpa using h1) hf h3 h4 ?_;dsimp only[List.set];refine xL 0 (Φ:=fun p=>aI p 1 An d.iX.length (aN d.iX)) (hm:=fun p q hl h=>aI.le h hl) rfl (fun p h=>h) ?_;refine xL 1 (Φ:=fun p=>aI p 2 Ag d.aR.length (d.aR.flatMap Rg.cells)) (hm:=fun p q hl h=>aI.le h hl) rfl (fun p h=>h) ?_;dsimp only[List.set];refine Jn (X:=fun p=>aI p 1 An d.iX.length (aN d.iX)∧aI p 2 Ag d.aR.length (d.aR.flatMap Rg.cells)) (h3:=fun p q hl h=>⟨aI.le h.1 hl,aI.le h.2 hl⟩) (fun p h1 h2=>⟨h1,h2⟩) ?_;refine aT [0,2,3,4,1,5,6,7,8] rfl (by decide) (fun _ h=>h) ?_
   refine Jn (X:=Cc s (da.set i ((Ag,kg),(An,kn))) (i+1)) (h3:=Cc.le) (fun p h1 h2 j d' a' hj hd' Bg=>by
    rcases Nat.lt_or_ge j i with h | h
    ·rw[List.getElem?_set_ne (by omega)] at Bg;exact h2 j d' a' h hd' Bg
    ·obtain rfl:j=i:=by omega
     rw[hd] at hd';cases hd';rw[List.getElem?_set_self (by omega)] at Bg;cases Bg
     exact⟨h1.2,h1.1⟩) ?_
   refine aA ?_;refine bN [(42,iv (i+1:Nat)),(41,iv s.aD.length),(3,pt g3),(2,pt g2)] ?_;refine uI (R':=[all w]) (by simp) ?_;exact gP (s.aD.length - (i+1)) (by omega) ⟨i+1,da.set i ((Ag,kg),(An,kn)),hlt,by simpa using lC,fun j hj=>by rw[List.getElem?_set_ne (by omega)];exact aGa j (by omega),rfl,rfl,rfl,rfl⟩
  ·obtain rfl:i=s.aD.length:=by omega
   refine aT [6,7,0,1,2,3,4,5] rfl (by decide) (fun _ h=>h) ?_;refine aA ?_;refine dG [] [2,3,4,5,6,7] [1] (by simp) rfl (by decide) (by decide) fun q hq _ hfr=>?_;obtain⟨F0,s0,z0⟩:=hq 2 _ (by simp) rfl;obtain⟨F1,s1,z1⟩:=hq 3 _ (by simp) rfl
   have e0:Cc s da s.aD.length q:=Cc.le ⟨q.w,F0⟩ q (fun b hb=>⟨z0 b hb,rfl⟩) s0
   have e1:xU s fa s.aF.length q:=xU.le ⟨q.w,F1⟩ q (fun b hb=>⟨z1 b hb,rfl⟩) s1
   have e2:=aI.own (hq 4 _ (by simp) rfl)
   have e3:=aI.own (hq 5 _ (by simp) rfl)
   have e4:=aI.own (hq 6 _ (by simp) rfl)
   have e5:=aI.own (hq 7 _ (by simp) rfl)
   have hS:uK (fI q) s #[.slice C s.aF.length j1,.slice D s.domains.length j2,.slice E s.aY.length j3,.slice V s.aD.length j4]:=
    ⟨C,_,j1,D,_,j2,E,_,j3,V,_,j4,rfl,⟨_,aFf hfl (fun i c a hc ha=>e1 i c a (List.getElem?_eq_some_iff.1 hc).1 hc ha),rfl,e2⟩,⟨rd,hrd,rfl,e4⟩,⟨rr,cR,rfl,e5⟩,⟨_,aFe lC (fun i d p hd hp=>e0 i d p (List.getElem?_eq_some_iff.1 hd).1 hd hp),rfl,e3⟩⟩
   exact Gn (vs:=[.slice C s.aF.length j1,.slice D s.domains.length j2,.slice E s.aY.length j3,.slice V s.aD.length j4]) rfl (by kernel_rfl) rfl rfl (by first | assumption | exact aM.whole 0 rfl | exact aM.whole 1 rfl | exact aM.whole 2 rfl | exact aM.whole 3 rfl | exact aM.whole 4 rfl | exact aM.whole 5 rfl | exact aM.whole 6 rfl | exact aM.whole 7 rfl | exact aM.whole 8 rfl | exact xP (by simp) (by assumption)) fun w1 t=>⟨⟨_,rfl,_,rfl,hS.mono (kG (t.mQ (by simp) (hfr (by simp) (by simp))))⟩,t.below (by simp)⟩
end
section
section
variable{P:Program}{N:cE}{w0 w:World}{K:Act→World→Prop}{e:Env}{R:List Piece}{H H':List HP}
theorem Xi{p : HP}{ps : List HP}(h : XK N w0 K e R (HP.many (ps ++ [p]) :: H)) : XK N w0 K e R (p :: HP.many ps :: H) := fun a w hr st => by
  obtain⟨Z,F,hz,cR,hs,cY,eP⟩:=st.ex;obtain⟨G,hG1,hG2,hG3⟩:=hs 1 _ rfl;refine h a w hr ⟨st.os,st.tape,st.output,st.size,Z,fun j=>match j with | 0=>fun b=>F 0 b∨F 1 b | j+1=>F (j+2),hz,cR,fun j r hj=>?_,fun j b hb=>?_,fun j k b kI hj hk=>?_⟩
  · cases j with
    | zero =>
      simp at hj;subst hj;refine⟨fun i b=>if i < ps.length then G i b else i=ps.length∧F 0 b,fun i r hi=>?_,fun i b hb=>?_,fun i k b hik h1 h2=>?_⟩
      · rcases Nat.lt_or_ge i ps.length with hl | hl
        · rw[List.getElem?_append_left hl] at hi
          show r.sat (fun b=>if i < ps.length then G i b else i=ps.length∧F 0 b) w
          rw[show(fun b=>if i < ps.length then G i b else i=ps.length∧F 0 b)=G i by funext b;rw[if_pos hl]];exact hG1 i r hi
        · rw[List.getElem?_append_right hl] at hi
          have h0:=wU hi
          have hil:i=ps.length:=by simp at h0;omega
          subst hil;simp at hi;subst hi
          show p.sat (fun b=>if ps.length < ps.length then G ps.length b else ps.length=ps.length∧F 0 b) w
          rw[show(fun b=>if ps.length < ps.length then G ps.length b else ps.length=ps.length∧F 0 b)=F 0 by funext b;simp];exact hs 0 _ rfl
      · dsimp only at hb
        split at hb
        · exact .inr (hG2 i b hb)
        · exact .inl hb.2
      · dsimp only at h1 h2
        split at h1<;>split at h2
        · exact hG3 i k b hik h1 h2
        · exact eP 1 0 b (by omega) (hG2 i b h1) h2.2
        · exact eP 0 1 b (by omega) h1.2 (hG2 k b h2)
        · omega
    | succ j=>exact hs (j+2) r (by simpa using hj)
  · cases j with
    | zero=>rcases hb with hb | hb<;>exact cY _ b hb
    | succ j=>exact cY _ b hb
  · cases j with
    | zero => cases k with
      | zero=>exact kI rfl
      | succ k => rcases hj with hj | hj
                  · exact eP 0 (k+2) b (by omega) hj hk
                  · exact eP 1 (k+2) b (by omega) hj hk
    | succ j => cases k with
      | zero => rcases hk with hk | hk
                · exact eP 0 (j+2) b (by omega) hk hj
                · exact eP 1 (j+2) b (by omega) hk hj
      | succ k=>exact eP (j+2) (k+2) b (by omega) hj hk
end
theorem vI{N:cE}{w0:World}{e:Env}{R:List Piece}{H:List HP}{K:Act→World→Prop}{p q r:HP}(h:XK N w0 K e R (HP.many [p,q,r]::H)):XK N w0 K e R (p::q::r::H):=by
 refine mR ?_;refine fun a w hr st=>?_
 refine(Xi (ps:=[p,q]) (p:=r) h) a w hr (st.weak (fun _ h=>h) (fun i=>match i with
  | 0=>1
  | 1=>0
  | i+2=>i+2) (fun i j _ _ he=>by
   match i,j with
   | 0,0=>rfl
   | 0,1=>simp at he
   | 0,j+2=>simp at he
   | 1,0=>simp at he
   | 1,1=>rfl
   | 1,j+2=>simp at he
   | i+2,0=>simp at he
   | i+2,1=>simp at he
   | i+2,j+2=>simpa using he) (fun i p hi=>by
   match i,hi with
   | 0,hi=>simpa using hi
   | 1,hi=>simpa using hi
   | i+2,hi=>simpa using hi))
end
section
theorem aR5{N:cE}{w0:World}{e:Env}{R:List Piece}{H:List HP}{K:Act→World→Prop}{p q r s:HP}(h:XK N w0 K e R (HP.many [p,q,r,s]::H)):XK N w0 K e R (p::q::r::s::H):=by
 refine mR ?_;refine fun a w hr st=>?_
 have swap:∀{x y:HP} {H:List HP} {w:World},St w0 R (x::y::H) w→St w0 R (y::x::H) w:=fun st=>st.weak (fun _ h=>h) (fun i=>match i with
  | 0=>1
  | 1=>0
  | i+2=>i+2) (fun i j _ _ he=>by
   match i,j with
   | 0,0=>rfl
   | 0,1=>simp at he
   | 0,j+2=>simp at he
   | 1,0=>simp at he
   | 1,1=>rfl
   | 1,j+2=>simp at he
   | i+2,0=>simp at he
   | i+2,1=>simp at he
   | i+2,j+2=>simpa using he) (fun i p hi=>by
   match i,hi with
   | 0,hi=>simpa using hi
   | 1,hi=>simpa using hi
   | i+2,hi=>simpa using hi)
 refine(Xi (ps:=[p,q]) (p:=r) (H:=s::H) (fun a w hr st=>?_)) a w hr (swap st);exact(Xi (ps:=[p,q,r]) (p:=s) h) a w hr (swap st)
def aIH(d:cH)(v:Value)(hs:List HP)(_:Piece):Prop:=∃L:FL,v=.tuple #[.pointer (some ⟨L.f,0,none⟩),iv 0]∧hs=[gQ L d (Dn d)]
theorem Cq(l:List Rg):List.replicate l.length (Value.int .u32 0)=mI (l.map fun _=>0):=by
 refine List.ext_getElem? fun j=>?_;simp only[mI,List.map_map,List.getElem?_replicate,List.getElem?_map]
 by_cases h:j < l.length
 ·rw[if_pos h,List.getElem?_eq_getElem h];rfl
 ·rw[if_neg h,List.getElem?_eq_none (by omega)];rfl
theorem aLi(d:cH)(hrl:d.aR.length≤8)(cR:∀r∈d.aR,0≤r.reset∧r.reset < 4294967296)(A:Option Addr)(c:Nat)(w:World)(hs:aI (all w) 2 A d.aR.length (d.aR.flatMap Rg.cells)):
  Cz 102 #[.slice A d.aR.length c] w (fun y w'=>(∃v hs q,y=.returned v∧q.w=w'∧aIH d v hs q∧fZ w hs q)∧Below w.heap.size w w'):=by
 refine aO func102 ntmps102 ?_;refine dX ?_;refine fT ?_;refine bF ?_;refine bF ?_;refine fB ?_;refine dX ?_;refine dX ?_;refine fT ?_;refine bF ?_;refine bF ?_;refine bF ?_;refine aB ?_;refine aG rfl (fun h=>absurd h (by omega)) (fun _=>?_);refine nS ?_;refine eK ?_;refine Rf (fun e R H=>∃B j gn gs g3,e=[(4,pt g3)]∧R=[all w]∧H=[HP.aE g3 264 [.slice B d.aR.length j,.slice (some ⟨gn,0,none⟩) d.aR.length d.aR.length,.slice (some ⟨gs,0,none⟩) d.aR.length d.aR.length,.bool false],HP.aE gn 37 (mI (d.aR.map fun _=>0)),HP.aE gs 37 (mI (d.aR.map fun _=>0)),HP.own 95 2 (.slice B d.aR.length j) d.aR.length (d.aR.flatMap Rg.cells)]) ?_ ?_
 ·refine qI 8 (by kernel_rfl) (by kernel_rfl) ?_;refine bQ 0 ?_;refine bQ 2 ?_;refine bQ 3 ?_;refine bQ 5 ?_;refine bQ 6 ?_;refine aRX 1 4 7 rfl rfl rfl (by kernel_rfl) ?_ ?_ ?_
  ·skip
   refine eM (Rx d.aR.length (d.aR.flatMap Rg.cells)) (fun w1 st=>Ws A _ c _ w1 (hs.le (st.le (by simp))) Nw (by omega)) ?_;rintro _ _ q ⟨B,j,rfl,rfl⟩ _;dsimp only[List.cons_append,List.nil_append];refine mS ?_ (hS:=(fun _ h=>h.bE.tail));refine Jq 4 7 rfl rfl (by kernel_rfl) ?_ ?_
   ·skip
    refine lT (n:=d.aR.length) 4 (el:=37) (z:=.int .u32 0) (by kernel_rfl) (by kernel_rfl) rfl rfl rfl (by omega) (by omega) (by decide) fun gn=>?_;rw[Cq d.aR];refine mS ?_ (hS:=(fun _ h=>h.tail.bE.tail));refine cK 7 ?_;refine lT (n:=d.aR.length) 4 (el:=37) (z:=.int .u32 0) (by kernel_rfl) (by kernel_rfl) rfl rfl rfl (by omega) (by omega) (by decide) fun gs=>?_;rw[Cq d.aR];refine mS ?_ (hS:=(fun _ h=>h.tail.tail.bE.tail));refine cK 8 ?_;refine kd (iG rfl) ?_;refine eS ?_;refine cK 9 ?_;refine bO fun g3=>?_;refine eS ?_;refine cK 10 ?_;refine bF ?_;refine eS ?_;refine kL ?_;refine eK ?_;exact nK ⟨B,j,gn,gs,g3,rfl,rfl,rfl⟩
   ·skip
    refine lT (n:=d.aR.length) 4 (el:=37) (z:=.int .u32 0) (by kernel_rfl) (by kernel_rfl) rfl rfl rfl (by omega) (by omega) (by decide) fun gs=>?_;rw[Cq d.aR];refine mS ?_ (hS:=(fun _ h=>h.tail.bE.tail));refine cK 4 ?_;refine lT (n:=d.aR.length) 4 (el:=37) (z:=.int .u32 0) (by kernel_rfl) (by kernel_rfl) rfl rfl rfl (by omega) (by omega) (by decide) fun gn=>?_;rw[Cq d.aR];refine mS ?_ (hS:=(fun _ h=>h.tail.tail.bE.tail));refine cK 8 ?_;refine kd (iG rfl) ?_;refine eS ?_;refine cK 9 ?_;refine bO fun g3=>?_;refine eS ?_;refine cK 10 ?_;refine bF ?_;refine eS ?_;refine kL ?_;refine eK ?_;exact nK ⟨B,j,gn,gs,g3,rfl,rfl,rfl⟩
  ·skip
   refine lT (n:=d.aR.length) 4 (el:=37) (z:=.int .u32 0) (by kernel_rfl) (by kernel_rfl) rfl rfl rfl (by omega) (by omega) (by decide) fun gn=>?_;rw[Cq d.aR];refine mS ?_ (hS:=(fun _ h=>h.tail));refine Jq 1 7 rfl rfl (by kernel_rfl) ?_ ?_
   ·skip
    refine eM (Rx d.aR.length (d.aR.flatMap Rg.cells)) (fun w1 st=>Ws A _ c _ w1 (hs.le (st.le (by simp))) Nw (by omega)) ?_;rintro _ _ q ⟨B,j,rfl,rfl⟩ _;dsimp only[List.cons_append,List.nil_append];refine mS ?_ (hS:=(fun _ h=>h.bE.tail.tail));refine cK 7 ?_;refine lT (n:=d.aR.length) 4 (el:=37) (z:=.int .u32 0) (by kernel_rfl) (by kernel_rfl) rfl rfl rfl (by omega) (by omega) (by decide) fun gs=>?_;rw[Cq d.aR];refine mS ?_ (hS:=(fun _ h=>h.tail.bE.tail.tail));refine cK 8 ?_;refine kd (iG rfl) ?_;refine eS ?_;refine cK 9 ?_;refine bO fun g3=>?_;refine eS ?_;refine cK 10 ?_;refine bF ?_;refine eS ?_;refine kL ?_;refine eK ?_;exact nK ⟨B,j,gn,gs,g3,rfl,rfl,rfl⟩
   ·skip
    refine lT (n:=d.aR.length) 4 (el:=37) (z:=.int .u32 0) (by kernel_rfl) (by kernel_rfl) rfl rfl rfl (by omega) (by omega) (by decide) fun gs=>?_;rw[Cq d.aR];refine mS ?_ (hS:=(fun _ h=>h.tail.tail));refine cK 1 ?_;refine eM (Rx d.aR.length (d.aR.flatMap Rg.cells)) (fun w1 st=>Ws A _ c _ w1 (hs.le (st.le (by simp))) Nw (by omega)) ?_;rintro _ _ q ⟨B,j,rfl,rfl⟩ _;dsimp only[List.cons_append,List.nil_append];refine mS ?_ (hS:=(fun _ h=>h.bE.tail.tail.tail));refine cK 8 ?_;refine kd (iG rfl) ?_;refine eS ?_;refine cK 9 ?_;refine bO fun g3=>?_;refine eS ?_;refine cK 10 ?_;refine bF ?_;refine eS ?_;refine kL ?_;refine eK ?_;exact nK ⟨B,j,gn,gs,g3,rfl,rfl,rfl⟩
  ·skip
   refine lT (n:=d.aR.length) 4 (el:=37) (z:=.int .u32 0) (by kernel_rfl) (by kernel_rfl) rfl rfl rfl (by omega) (by omega) (by decide) fun gs=>?_;rw[Cq d.aR];refine mS ?_ (hS:=(fun _ h=>h.tail));refine Jq 1 4 rfl rfl (by kernel_rfl) ?_ ?_
   ·skip
    refine eM (Rx d.aR.length (d.aR.flatMap Rg.cells)) (fun w1 st=>Ws A _ c _ w1 (hs.le (st.le (by simp))) Nw (by omega)) ?_;rintro _ _ q ⟨B,j,rfl,rfl⟩ _;dsimp only[List.cons_append,List.nil_append];refine mS ?_ (hS:=(fun _ h=>h.bE.tail.tail));refine cK 4 ?_;refine lT (n:=d.aR.length) 4 (el:=37) (z:=.int .u32 0) (by kernel_rfl) (by kernel_rfl) rfl rfl rfl (by omega) (by omega) (by decide) fun gn=>?_;rw[Cq d.aR];refine mS ?_ (hS:=(fun _ h=>h.tail.bE.tail.tail));refine cK 8 ?_;refine kd (iG rfl) ?_;refine eS ?_;refine cK 9 ?_;refine bO fun g3=>?_;refine eS ?_;refine cK 10 ?_;refine bF ?_;refine eS ?_;refine kL ?_;refine eK ?_;exact nK ⟨B,j,gn,gs,g3,rfl,rfl,rfl⟩
   ·skip
    refine lT (n:=d.aR.length) 4 (el:=37) (z:=.int .u32 0) (by kernel_rfl) (by kernel_rfl) rfl rfl rfl (by omega) (by omega) (by decide) fun gn=>?_;rw[Cq d.aR];refine mS ?_ (hS:=(fun _ h=>h.tail.tail));refine cK 1 ?_;refine eM (Rx d.aR.length (d.aR.flatMap Rg.cells)) (fun w1 st=>Ws A _ c _ w1 (hs.le (st.le (by simp))) Nw (by omega)) ?_;rintro _ _ q ⟨B,j,rfl,rfl⟩ _;dsimp only[List.cons_append,List.nil_append];refine mS ?_ (hS:=(fun _ h=>h.bE.tail.tail.tail));refine cK 8 ?_;refine kd (iG rfl) ?_;refine eS ?_;refine cK 9 ?_;refine bO fun g3=>?_;refine eS ?_;refine cK 10 ?_;refine bF ?_;refine eS ?_;refine kL ?_;refine eK ?_;exact nK ⟨B,j,gn,gs,g3,rfl,rfl,rfl⟩
 rintro _ _ _ ⟨B,j,gn,gs,g3,rfl,rfl,rfl⟩;refine xL 3 (Φ:=rI d B) (hm:=rI.le (d:=d) (A:=B)) rfl (fun p h=>h) ?_;dsimp only[List.set];refine aR5 ?_;refine aB ?_
 refine bT 0 (gQ ⟨g3,gn,gs,B,j⟩ d (Dv d ⟨d.aR.map fun _=>0,d.aR.map fun _=>0,false⟩)) (fun w1 G t hG wV hle=>Ze ⟨g3,gn,gs,B,j⟩ d ⟨d.aR.map fun _=>0,d.aR.map fun _=>0,false⟩ (by omega) ⟨by simp,by simp,fun v hv=>by
  obtain⟨r,hr,rfl⟩:=List.mem_map.1 hv;decide,fun v hv=>by
  obtain⟨r,hr,rfl⟩:=List.mem_map.1 hv
  decide⟩ w1 G hG wV) ?_
 refine aB ?_;refine dG [] [] [0] (by simp) rfl (by decide) (by decide) fun q _ _ hfr=>?_;exact fS rfl rfl rfl fun w1 t=>⟨⟨_,_,⟨w1,q.Z⟩,rfl,rfl,⟨⟨g3,gn,gs,B,j⟩,rfl,rfl⟩,t.newR (by simp) (by simp) (hfr (by simp) (by simp))⟩,t.below (by simp)⟩
theorem aLt(w:World):
  Cz 104 #[] w (fun y w'=>(∃v hs q,y=.returned v∧q.w=w'∧(∃g,v=pt g∧hs=[HP.aE g 266 [iv 0,iv 0]])∧fZ w hs q)∧Below w.heap.size w w'):=by
 refine aO func104 ntmps104 ?_;refine aA ?_;refine kd (iG rfl) ?_;refine bO fun g=>?_;refine aA ?_;refine dG [] [] [0] (by simp) rfl (by decide) (by decide) fun q _ _ hfr=>?_;exact aP (h:=fun w1 t=>⟨_,_,⟨w1,q.Z⟩,rfl,rfl,⟨g,rfl,rfl⟩,t.newR (by simp) (by simp) (hfr (by simp) (by simp))⟩)
end
section
def Rs(x:fD):List Value:=[iv x.at_,iv x.denied]
def tB(g:Nat)(x:fD):HP:=HP.aE g 266 (Rs x)
def Rw(w:World):Prop:=∀i v,[(114:Int),97,115,100][i]? =some v→fK w 0 i (.int .u8 v)
theorem Rw.below{w w':World}(h:Rw w)(hb:Below w.heap.size w w'):Rw w':=fun i v hv=>
 ⟨Nat.lt_of_lt_of_le (h i v hv).1 hb.size,(hb.cell (p:=⟨0,i,none⟩) (h i v hv).1).trans (h i v hv).2⟩
theorem aFo(g:Nat)(x:fD)(hx:zH x)(w:World)(hL:Rw w)(hR:dQ w g 0 (Rs x)):
  Cz 205 #[pt g] w (Rt (.int .u8 (oM x.at_)) w):=by
 have k0:=hR.at_ (j:=0) rfl
 obtain⟨h1,h2⟩:=hx;obtain⟨i,hi⟩:∃i:Nat,x.at_=i:=⟨x.at_.toNat,by omega⟩
 have hv:[(114:Int),97,115,100][i]? =some (oM x.at_):=by
  have:i=0∨i=1∨i=2∨i=3:=by omega
  rcases this with rfl | rfl | rfl | rfl<;>rw[hi]<;>rfl
 have k1:=hL i _ hv
 have hlt:i < 4:=by omega
 rw[hi] at k0 k1⊢;refine aO func205 ntmps205 ?_;refine aA ?_;refine kd (fG i i) ?_;refine aA ?_;exact dH
section
variable{g:Nat}{x:fD}{w:World}{F:Nat→Prop}
theorem aLw(hp:(tB g x).sat F w)(hF:∀b,F b→b < w.heap.size):
  Cz 219 #[pt g] w (Wr (iv (sO x).1) (tB g (sO x).2) w F):=by
 refine cT func219 ntmps219 hp hF ?_;dsimp only[tB,Rs];refine aA ?_;refine aG rfl (fun h=>?_) (fun h=>?_)
 ·have hr:sO x=(6,x):=if_pos (by simpa using h)
  rw[hr];refine aA ?_;exact bP 0 hF
 ·have hr:sO x=(0,⟨1,x.denied⟩):=if_neg (by simpa using h)
  rw[hr];refine aA ?_;exact bP 0 hF
theorem aLv(hp:(tB g x).sat F w)(hF:∀b,F b→b < w.heap.size):
  Cz 206 #[pt g] w (Wr (iv (nX x).1) (tB g (nX x).2) w F):=by
 refine cT func206 ntmps206 hp hF ?_;dsimp only[tB,Rs];refine aA ?_;refine cG (t:=11) rfl (fun h2=>?_) (fun h2=>?_)
 ·refine aA ?_;refine aG rfl (fun h=>?_) (fun h=>?_)
  ·have hr:nX x=(6,x):=if_pos ⟨by simpa using h2,by simpa using h⟩
   rw[hr];refine aA ?_;exact bP 0 hF
  ·have hr:nX x=(0,⟨0,x.denied⟩):=if_neg fun h3=>h3.2 (by simpa using h)
   rw[hr];refine aA ?_;exact bP 0 hF
 ·have hr:nX x=(0,⟨0,x.denied⟩):=if_neg fun h3=>h3.1 (by simpa using h2)
  rw[hr];refine aA ?_;exact bP 0 hF
theorem aLu(Ml aX:Bool)(hp:(tB g x).sat F w)(hF:∀b,F b→b < w.heap.size):
  Cz 152 #[pt g,.bool Ml,.bool aX] w (Wr (.tuple #[]) (tB g (yD x Ml aX)) w F):=by
 refine cT func152 ntmps152 hp hF ?_;dsimp only[tB,Rs];refine aA ?_;refine aG rfl (fun h=>?_) (fun h=>?_)
 ·have hr:yD x Ml aX=x:=if_pos (by simpa using h)
  rw[hr];refine aA ?_;exact fA 0 hF
 ·have h1:¬x.at_≠1:=by simpa using h
  cases aX
  ·cases Ml
   ·have hr:yD x false false=⟨2,0⟩:=(if_neg h1).trans ((if_neg (by decide)).trans (if_neg (by decide)))
    rw[hr];refine aA ?_;exact fA 0 hF
   ·have hr:yD x true false=x:=(if_neg h1).trans ((if_neg (by decide)).trans (if_pos rfl))
    rw[hr];refine aA ?_;exact fA 0 hF
  ·have hr:yD x Ml true=⟨3,IntKind.i64.wrap (x.denied+1)⟩:=(if_neg h1).trans (if_pos rfl)
   rw[hr];refine aA ?_;refine Ei rfl rfl rfl (by decide) ?_;refine aA ?_;exact fA 0 hF
end
end
section
structure TL where
 t:Nat
 A:Option Addr
 c:Nat
 fa:List (Option Addr×Nat)
def qA(c:eW)(a:Option Addr×Nat)(x:eN):List Value:=[.int .u8 c.kind,.slice a.1 c.src.length a.2,.int .u64 c.rate,iv c.mul,iv c.div,iv c.lock,.bool x.on,iv x.left,iv 0,iv 0,iv (byF c)]
def jQ(s:aC)(fa:List (Option Addr×Nat))(st:List eN):List (List Value):=List.zipWith (fun c p=>qA c p.1 p.2) s.aF (fa.zip st)
structure vJ(w:World)(L:TL)(s:aC)(st:List eN):Prop where
 r0:fK w L.t 0 (.slice L.A s.aF.length L.c)
 row:aI (all w) 11 L.A s.aF.length (jQ s L.fa st).flatten
 qE:∀(i:Nat) (c:eW) (a:Option Addr×Nat),s.aF[i]? =some c→L.fa[i]? =some a→aI (all w) 1 a.1 c.src.length (aN c.src)
 fl:L.fa.length=s.aF.length
 ok:pH s st
theorem vJ.below{w w':World}{L:TL}{s:aC}{st:List eN}(h:vJ w L s st)(hb:Below w.heap.size w w'):vJ w' L s st:=
 ⟨⟨Nat.lt_of_lt_of_le h.r0.1 hb.size,(hb.cell (p:=⟨_,0,none⟩) h.r0.1).trans h.r0.2⟩,h.row.le (kS hb),fun i c a hc ha=>(h.qE i c a hc ha).le (kS hb),h.fl,h.ok⟩
theorem vJ.node{w:World}{L:TL}{s:aC}{st:List eN}(h:vJ w L s st){i:Nat}(hi:i < s.aF.length):
  ∃b off c a x,s.aF[i]? =some c∧st[i]? =some x∧L.A=some ⟨b,off,none⟩∧dQ w b (off+i*11) (qA c a x)∧aI (all w) 1 a.1 c.src.length (aN c.src):=by
 obtain⟨c,hc⟩:=get_some hi;obtain⟨a,ha⟩:=get_some (l:=L.fa) (i:=i) (by rw[h.fl];exact hi);obtain⟨x,hx⟩:=get_some (l:=st) (i:=i) (by rw[h.ok.len];exact hi)
 have hr:(jQ s L.fa st)[i]? =some (qA c a x):=by
  rw[jQ,List.getElem?_zipWith,hc,(List.getElem?_zip_eq_some (z:=(a,x))).2 ⟨ha,hx⟩]
 obtain⟨b,off,hA,hro⟩:=aI.row h.row (fun r hr=>by
  obtain⟨j,hj⟩:=List.getElem?_of_mem hr;rw[jQ,List.getElem?_zipWith] at hj;split at hj<;>cases hj
  rfl) hr hi
 exact⟨b,off,c,a,x,hc,hx,hA,hro,h.qE i c a hc ha⟩
def rL(s:aC)(fa:List (Option Addr×Nat))(p:Piece):Prop:=∀(i:Nat) (c:eW) (a:Option Addr×Nat),s.aF[i]? =some c→fa[i]? =some a→aI p 1 a.1 c.src.length (aN c.src)
theorem rL.le{s:aC}{fa:List (Option Addr×Nat)}(p q:Piece)(hl:p.Le q)(h:rL s fa p):rL s fa q:=fun i c a hc ha=>(h i c a hc ha).le hl
def oY(L:TL)(s:aC)(st:List eN):HP:=HP.many [HP.aE L.t 249 [.slice L.A s.aF.length L.c],HP.own 251 11 (.slice L.A s.aF.length L.c) s.aF.length (jQ s L.fa st).flatten,HP.bU (rL s L.fa) (rL.le (s:=s) (fa:=L.fa))]
theorem aIk{L:TL}{s:aC}{st:List eN}{F:Nat→Prop}{w:World}(h:(oY L s st).sat F w)(hF:∀b,F b→b < w.heap.size)(hfl:L.fa.length=s.aF.length)(hok:pH s st):vJ w L s st:=by
 obtain⟨G,g1,g2,_⟩:=h
 have h0:=g1 0 _ rfl
 have h1:=g1 1 _ rfl
 have h2:=g1 2 _ rfl
 have hl:∀i b,G i b→b < w.heap.size:=fun i b hb=>hF b (g2 i b hb)
 obtain⟨A',c',he,hs⟩:=zG (Y:=fun b=>b < w.heap.size) h1 (hl 1)
 injection he with he
 subst he;exact⟨⟨h0.2.lt,by rw[h0.2.cell];rfl⟩,hs,fun i c a hc ha=>(h2 i c a hc ha).le (fun b hb=>⟨hl 2 b hb,rfl⟩),hfl,hok⟩
theorem aHy(t n c b off i:Nat)(w:World)(h0:fK w t 0 (.slice (some ⟨b,off,none⟩) n c))(hi:i < n):
  Cz 185 #[pt t,iv (i:Int)] w (Rt (.pointer (some ⟨b,off+i*11,none⟩)) w):=by
 refine aO func185 ntmps185 ?_;refine aA ?_;refine cG (t:=11) rfl (fun h=>absurd h (by omega)) (fun _=>?_);refine aA ?_;refine aG rfl (fun h=>absurd h (by omega)) (fun _=>?_);refine aA ?_;refine kd (dat i (off+i*11)) ?_;refine aA ?_;exact dH
theorem aHx(t n c:Nat)(A:Option Addr)(i:Int)(w:World)(h0:fK w t 0 (.slice A n c))(hi:bZ n i=false):
  Cz 185 #[pt t,iv i] w (Rt (.pointer none) w):=by
 have hi:=of_decide_eq_false hi
 refine aO func185 ntmps185 ?_;refine aA ?_;refine cG (t:=11) rfl (fun h=>?_) (fun h=>?_)
 ·refine aA ?_;exact dH
 ·refine aA ?_;refine aG rfl (fun h=>?_) (fun h=>absurd hi (by omega));refine aA ?_;exact dH
theorem Qq(L:TL)(s:aC)(st:List eN)(i f:Nat)(c:eW)(fs:List Int)(w:World)(hR:vJ w L s st)(hi:s.aF[i]? =some c)(hf:c.src=(f:Int)::fs):
  Cz 187 #[.pointer (some ⟨L.t,0,none⟩),iv (i:Int)] w (Rt (iv (f:Int)) w):=by
 have hlt:i < s.aF.length:=(List.getElem?_eq_some_iff.1 hi).1
 obtain⟨b,off,c',a,x,hc,hx,hA,hro,hs⟩:=hR.node hlt;obtain rfl:c=c':=by rw[hi] at hc;exact Option.some.inj hc
 have h0:=hR.r0
 rw[hA] at h0
 have h1:=hro.at_ (j:=1) rfl
 have h8:=hro.at_ (j:=8) rfl
 rw[hf] at h1 hs;obtain⟨b2,o2,Pr,oO,mZ⟩:=hs.2 (by simp);rw[Pr] at h1
 have h2:fK w b2 o2 (iv (f:Int)):=⟨oO,mZ 0 _ rfl⟩
 refine aO func187 ntmps187 ?_;refine aA ?_;refine kd (dat i (off+i*11)) ?_;refine aA ?_;refine lJ ?_;refine jC ?_;refine sU (dat 0 o2 (hlt:=by simp)) ?_;refine iY ?_;refine aA ?_;exact dH
theorem aPX(L:TL)(s:aC)(st:List eN)(hH:s.dK)(b1 b2:Nat):∀(i:Nat),i < s.aF.length→∀w,vJ w L s st→fK w b1 0 (.pointer (some ⟨L.t,0,none⟩))→fK w b2 0 (.func (.func 186) #[] #[pt b1,pt b2])→
  Cz 186 #[iv (i:Int),pt b1,pt b2] w (Rt (.bool (runs s st i)) w):=by
 intro i
 induction i using Nat.strongRecOn with
 | _ i ih =>
  intro hlt w hR Bd eE;obtain⟨b,off,c,a,x,hc,hx,hA,hro,hs⟩:=hR.node hlt
  have hrun:=aKt hH.t.aF hc hx
  have h0:=hR.r0
  rw[hA] at h0
  have k0:=hro.at_ (j:=0) rfl
  have k6:=hro.at_ (j:=6) rfl
  have k7:=hro.at_ (j:=7) rfl
  have Pt:∀{w1},Below w.heap.size w w1→fK w1 b1 0 (.pointer (some ⟨L.t,0,none⟩)):=fun hb=>⟨Nat.lt_of_lt_of_le Bd.1 hb.size,(hb.cell (p:=⟨_,0,none⟩) Bd.1).trans Bd.2⟩
  have go2:∀{w1},Below w.heap.size w w1→fK w1 b2 0 (.func (.func 186) #[] #[pt b1,pt b2]):=fun hb=>⟨Nat.lt_of_lt_of_le eE.1 hb.size,(hb.cell (p:=⟨_,0,none⟩) eE.1).trans eE.2⟩
  obtain⟨hsrc,hfit⟩:=hH.t.aF i c hc;refine aO func186 ntmps186 ?_;refine aA ?_;refine kd (dat i (off+i*11)) ?_;rcases hfit with⟨hk,hs0,_⟩ | hfit
  ·rw[hk] at k0;refine aA ?_;refine iS (by simp) ?_;rw[hrun,hs0];simp[yC,hk]
  obtain⟨f,fs,hf⟩:∃(f:Nat) (fs:List Int),c.src=(f:Int)::fs:=by
   cases hs0:c.src with
   | nil=>rw[hs0] at hfit;simp at hfit
   | cons f fs=>exact⟨f.toNat,fs,by have:=(hsrc f (by rw[hs0];simp)).1;rw[Int.toNat_of_nonneg this]⟩
  have Ln:f < i:=by have:=(hsrc f (by rw[hf];simp)).2;omega
  have Lf:runs s st i=(yC c x&&runs s st f):=by rw[hrun,hf];rfl
  clear hrun;rcases hfit with⟨hk,_⟩ | ⟨hk,_⟩ | ⟨hk,_⟩ | ⟨hk,_⟩
  ·rw[hk] at k0;cases Dd:x.on
   ·rw[Dd] at k6;refine aA ?_;refine lJ ?_;refine iY ?_;refine aA ?_;refine iS (by simp) ?_;rw[Lf];simp[yC,hk,Dd]
   ·rw[Dd] at k6;refine aA ?_;refine lJ ?_;refine jC ?_;refine Ea 32 rfl (fun h=>?_) (fun h=>?_)
    ·refine jC ?_;refine rB (fun w1 lE=>Qq L s st i f c fs w1 (hR.below (lE.below (by simp))) hc hf) ?_;refine jC ?_;refine Gm (fi:=[]) (vs:=[iv (f:Int)]) (ca:=[pt b1,pt b2]) (fun w1 lE=>ih f Ln (by omega) w1 (hR.below (lE.below (by simp))) (Pt (lE.below (by simp))) (go2 (lE.below (by simp)))) ?_;refine iY ?_;refine aA ?_;refine iS (by simp) ?_;rw[Lf];simp[yC,hk,Dd,h]
    ·refine iY ?_;refine aA ?_;refine iS (by simp) ?_;rw[Lf];simp[yC,hk,Dd,h]
  ·rw[hk] at k0;refine aA ?_;refine lJ ?_;refine jC ?_;refine rB (fun w1 lE=>Qq L s st i f c fs w1 (hR.below (lE.below (by simp))) hc hf) ?_;refine Gm (fi:=[]) (vs:=[iv (f:Int)]) (ca:=[pt b1,pt b2]) (fun w1 lE=>ih f Ln (by omega) w1 (hR.below (lE.below (by simp))) (Pt (lE.below (by simp))) (go2 (lE.below (by simp)))) ?_;refine iY ?_;refine aA ?_;refine iS (by simp) ?_;rw[Lf];simp[yC,hk]
  ·rw[hk] at k0;cases Dd:x.on
   ·rw[Dd] at k6;refine aA ?_;refine lJ ?_;refine iY ?_;refine aA ?_;refine iS (by simp) ?_;rw[Lf];simp[yC,hk,Dd]
   ·rw[Dd] at k6;refine aA ?_;refine lJ ?_;refine jC ?_;refine rB (fun w1 lE=>Qq L s st i f c fs w1 (hR.below (lE.below (by simp))) hc hf) ?_;refine jC ?_;refine Gm (fi:=[]) (vs:=[iv (f:Int)]) (ca:=[pt b1,pt b2]) (fun w1 lE=>ih f Ln (by omega) w1 (hR.below (lE.below (by simp))) (Pt (lE.below (by simp))) (go2 (lE.below (by simp)))) ?_;refine iY ?_;refine aA ?_;refine iS (by simp) ?_;rw[Lf];simp[yC,hk,Dd]
  ·rw[hk] at k0;refine aA ?_;refine lJ ?_;refine jC ?_;refine rB (fun w1 lE=>Qq L s st i f c fs w1 (hR.below (lE.below (by simp))) hc hf) ?_;refine Gm (fi:=[]) (vs:=[iv (f:Int)]) (ca:=[pt b1,pt b2]) (fun w1 lE=>ih f Ln (by omega) w1 (hR.below (lE.below (by simp))) (Pt (lE.below (by simp))) (go2 (lE.below (by simp)))) ?_;refine iY ?_;refine aA ?_;refine iS (by simp) ?_;rw[Lf];simp[yC,hk]
end
section
section
variable{N:cE}{w0 w:World}{e:Env}{R:List Piece}{H:List HP}{K:Act→World→Prop}{L:TL}{s:aC}{st:List eN}
theorem St.aB2(t:St w0 R H w)(i:Nat)(hi:H[i]? =some (oY L s st))(hfl:L.fa.length=s.aF.length)(hok:pH s st):vJ w L s st:=by
 obtain⟨F,h1,h2,_⟩:=t.chunk hi;exact aIk h1 h2 hfl hok
theorem Rd.tree(i:Nat)(hi:H[i]? =some (oY L s st))(hfl:L.fa.length=s.aF.length)(hok:pH s st):Rd w0 R H L.t 0 (.slice L.A s.aF.length L.c):=fun w t=>(t.aB2 i hi hfl hok).r0.2
theorem aBV(hfl:L.fa.length=s.aF.length)(hok:pH s st):(jQ s L.fa st).length=s.aF.length∧∀r∈jQ s L.fa st,r.length=11:=by
 have:=hok.len
 refine⟨by simp[jQ];omega,fun r hr=>?_⟩;obtain⟨j,hj⟩:=List.getElem?_of_mem hr;rw[jQ,List.getElem?_zipWith] at hj;split at hj<;>cases hj
 rfl
theorem Oc{i:Nat}{c:eW}{a:Option Addr×Nat}{x:eN}(hc:s.aF[i]? =some c)(ha:L.fa[i]? =some a)(hx:st[i]? =some x):(jQ s L.fa st)[i]? =some (qA c a x):=by
 rw[jQ,List.getElem?_zipWith,hc,(List.getElem?_zip_eq_some (z:=(a,x))).2 ⟨ha,hx⟩]
theorem aF3{i:Nat}{c:eW}{a:Option Addr×Nat}{x:eN}(hc:s.aF[i]? =some c)(ha:L.fa[i]? =some a)(hi:i < st.length):(jQ s L.fa st).set i (qA c a x)=jQ s L.fa (st.set i x):=by
 refine List.ext_getElem? fun j=>?_;rw[List.getElem?_set]
 by_cases he:i=j
 ·subst he;rw[if_pos rfl,Oc hc ha (x:=x) (by rw[List.getElem?_set_self hi])];rw[if_pos]
  have h1:=(List.getElem?_eq_some_iff.1 hc).1
  have h2:=(List.getElem?_eq_some_iff.1 ha).1
  simp[jQ];omega
 ·rw[if_neg he,jQ,jQ,List.getElem?_zipWith,List.getElem?_zipWith]
  have hz:(L.fa.zip st)[j]? =(L.fa.zip (st.set i x))[j]? :=by
   rw[List.zip_eq_zipWith,List.zip_eq_zipWith,List.getElem?_zipWith,List.getElem?_zipWith,List.getElem?_set_ne he]
  rw[hz]
theorem St.aJE{g:Nat}{cs:List Value}(t:St w0 R H w)(i j:Nat)(hi:H[i]? =some (HP.aE g 251 cs))(hj:H[j]? =some (HP.many [HP.aE L.t 249 [.slice (some ⟨g,0,none⟩) s.aF.length L.c],bX,HP.bU (rL s L.fa) (rL.le (s:=s) (fa:=L.fa))]))(hA:L.A=some ⟨g,0,none⟩)(h2:cs.take (s.aF.length*11)=(jQ s L.fa st).flatten)(hfl:L.fa.length=s.aF.length)(hok:pH s st):vJ w L s st:=by
 obtain⟨fN,iN⟩:=aBV hfl hok
 have hb:=t.aE hi
 obtain⟨F,⟨G,g1,g2,_⟩,hlt,_⟩:=t.chunk hj
 have h0:=g1 0 _ rfl
 have aNo:=g1 2 _ rfl
 refine⟨⟨h0.2.lt,by rw[h0.2.cell,hA];rfl⟩,⟨by rw[Kn _ iN,fN],fun _=>⟨g,0,hA,hb.lt,fun k u hu=>?_⟩⟩,fun k c a hc ha=>(aNo k c a hc ha).le (fun b hbG=>⟨hlt b (g2 2 b hbG),rfl⟩),hfl,hok⟩;rw[←h2] at hu;rw[Nat.zero_add]
 show w.cell? _=_
 rw[hb.cell]
 have hk:k < s.aF.length*11:=by
  rcases Nat.lt_or_ge k (s.aF.length*11) with h | h
  ·exact h
  ·rw[List.getElem?_eq_none (by rw[List.length_take];omega)] at hu;cases hu
 rw[List.getElem?_take_of_lt hk] at hu
 simpa using hu
theorem aHX(i:Nat)(hi:H[i]? =some (oY L s st))(hn:0 < s.aF.length)(h:∀g cs,L.A=some ⟨g,0,none⟩→cs.length=L.c*11→cs.take (s.aF.length*11)=(jQ s L.fa st).flatten→s.aF.length≤L.c→L.c≤maxLen→
  XK N w0 K e R (HP.aE g 251 cs::H.set i (HP.many [HP.aE L.t 249 [.slice L.A s.aF.length L.c],bX,HP.bU (rL s L.fa) (rL.le (s:=s) (fa:=L.fa))]))):XK N w0 K e R H:=by
 refine qF i 1 hi rfl ?_;refine aAP 0 rfl hn fun g hA=>?_;dsimp only[List.set];rw[hA];refine Gp 0 rfl fun cs h1 h2 h3 h4=>?_
 have:=h g cs hA h1 h2 h3 h4
 rw[hA] at this;exact this
theorem zA(i:Nat){g:Nat}{cs:List Value}{st':List eN}(hA:L.A=some ⟨g,0,none⟩)(h1:cs.length=L.c*11)(h2:cs.take (s.aF.length*11)=(jQ s L.fa st').flatten)(h3:s.aF.length≤L.c)(h4:L.c≤maxLen)
  (hi:H[i]? =some (HP.many [HP.aE L.t 249 [.slice (some ⟨g,0,none⟩) s.aF.length L.c],bX,HP.bU (rL s L.fa) (rL.le (s:=s) (fa:=L.fa))]))
  (h:XK N w0 K e R (H.set i (oY L s st'))):XK N w0 K e R (HP.aE g 251 cs::H):=by
 refine Eb 0 (n:=s.aF.length) (c:=L.c) (sz:=11) rfl h1 h2 h3 h4 ?_;dsimp only[List.set];rw[←hA] at hi⊢;exact qH i 1 hi rfl h
end
theorem Wt(L:TL)(s:aC)(st:List eN)(hH:s.dK)(i:Int)(w:World)(hR:vJ w L s st):
  Cz 147 #[.pointer (some ⟨L.t,0,none⟩),iv i] w (Rt (.bool (tK s st i)) w):=by
 cases hi:bZ s.aF.length i
 ·refine aO func147 ntmps147 ?_;refine aA ?_;refine bO fun g1=>?_;refine aA ?_;refine aS (fun w1 t=>aHx L.t s.aF.length L.c L.A i w1 ((hR.below (t.below (by simp))).r0) hi) ?_;refine aA ?_;refine iS (by simp) ?_;simp[tK,hi]
 ·obtain⟨n,rfl⟩:∃n:Nat,i=n:=⟨i.toNat,by have:=of_decide_eq_true hi;omega⟩
  have hlt:n < s.aF.length:=by have:=of_decide_eq_true hi;omega
  obtain⟨b,off,c,a,x,hc,hx,hA,_⟩:=hR.node hlt;refine aO func147 ntmps147 ?_;refine aA ?_;refine bO fun g1=>?_;refine aA ?_;refine aS (fun w1 t=>aHy L.t s.aF.length L.c b off n w1 (by rw[←hA];exact(hR.below (t.below (by simp))).r0) hlt) ?_;refine aA ?_;refine bY fun g2=>?_;refine aA ?_;refine jY (vf:=[]) (vc:=[pt g1,pt g2]) rfl rfl (by decide) ?_;refine aA ?_;refine aAc (fi:=[]) (vs:=[iv (n:Int)]) (ca:=[pt g1,pt g2]) (fun w1 t=>aPX L s st hH g1 g2 n hlt w1 (hR.below (t.below (by simp))) ((t.box (i:=1) rfl).at_ (j:=0) rfl) ((t.box (i:=0) rfl).at_ (j:=0) rfl)) ?_;refine aA ?_;refine iS (by simp) ?_;simp[tK,hi]
theorem aPZ(L:TL)(s:aC)(st:List eN)(hfl:L.fa.length=s.aF.length)(hok:pH s st)(i:Int)(on:Bool)(w:World)(F:Nat→Prop)(hp:(oY L s st).sat F w)(hF:∀b,F b→b < w.heap.size):
  Cz 209 #[.pointer (some ⟨L.t,0,none⟩),iv i,.bool on] w (Wr (iv (lN s st i on).1) (oY L s (lN s st i on).2) w F):=by
 cases hi:bZ s.aF.length i
 ·have hr:lN s st i on=(4,st):=by simp[lN,hi]
  rw[hr];refine cT func209 ntmps209 hp hF ?_;refine aA ?_;refine aS (fun w1 t=>aHx L.t s.aF.length L.c L.A i w1 ((t.aB2 0 rfl hfl hok).r0) hi) ?_;refine aA ?_;exact bP 0 hF
 ·obtain⟨n,rfl⟩:∃n:Nat,i=n:=⟨i.toNat,by have:=of_decide_eq_true hi;omega⟩
  have hlt:n < s.aF.length:=by have:=of_decide_eq_true hi;omega
  have hl:=hok.len
  obtain⟨c,hc⟩:=get_some hlt;obtain⟨a,ha⟩:=get_some (l:=L.fa) (i:=n) (by omega);obtain⟨x,hx⟩:=get_some (l:=st) (i:=n) (by omega);obtain⟨fN,iN⟩:=aBV hfl hok;refine cT func209 ntmps209 hp hF ?_;refine aHX 0 rfl (by omega) fun g cs hA h1 h2 h3 h4=>?_;dsimp only[List.set];rw[hA]
  have hs:=Dm h2 fN iN (Oc hc ha hx)
  have hlen:n*11+11≤cs.length:=by omega
  refine aW 1 0 ?_;refine aA ?_;refine aS (fun w1 t=>aHy L.t s.aF.length L.c g 0 n w1 ((t.box (i:=0) rfl).at_ (j:=0) rfl) hlt) ?_;refine aJ 1 0 ?_;rw[Nat.zero_add];refine aA ?_
  have hpq:∀x':eN,(jQ s L.fa st).set n (qA c a x')=jQ s L.fa (st.set n x'):=fun x'=>aF3 hc ha (by omega)
  refine cG (t:=19) rfl (fun hk=>?_) (fun hk=>?_)
  ·refine aA ?_;refine aG rfl (fun hg=>?_) (fun hg=>?_)
   ·have hr:lN s st (n:Int) on=(1,st):=by simp[lN,hi,hc,hx,hk,hg]
    rw[hr];refine aA ?_;refine zA 0 hA h1 h2 h3 h4 rfl ?_;exact bP 0 hF
   ·have hg:c.kind=103:=Classical.not_not.1 hg
    have hr:lN s st (n:Int) on=(0,st.set n ⟨on,x.left⟩):=by simp[lN,hi,hc,hx,hg,Tu]
    rw[hr]
    have hs1:=hs.set 6 (.bool on) (by simp[qA]) (by omega)
    have tR:=(sX.refl cs (n*11) 11).set 6 (.bool on) (by decide)
    have gF:=Bj (r':=qA c a ⟨on,x.left⟩) h2 fN iN hlt (by omega) rfl hs1 tR
    rw[hpq] at gF;refine aA ?_;refine cG (t:=37) rfl (fun h=>absurd h hk) (fun _=>?_);refine aA ?_;refine zA 0 hA (by simpa using h1) gF h3 h4 rfl ?_;exact bP 0 hF
  ·have hk:c.kind=112:=Classical.not_not.1 hk
   have hs1:=hs.set 6 (.bool on) (by simp[qA]) (by omega)
   have tR:=(sX.refl cs (n*11) 11).set 6 (.bool on) (by decide)
   cases on
   ·have hr:lN s st (n:Int) false=(0,st.set n ⟨false,c.lock⟩):=by simp[lN,hi,hc,hx,hk,Tu]
    rw[hr];refine aA ?_;refine cG (t:=37) rfl (fun _=>?_) (fun h=>absurd hk h)
    have iR:=hs1.set 7 (iv c.lock) (by simp[qA]) (by simp;omega)
    have hu2:=tR.set 7 (iv c.lock) (by decide)
    have gF:=Bj (r':=qA c a ⟨false,c.lock⟩) h2 fN iN hlt (by omega) rfl iR hu2
    rw[hpq] at gF;refine aA ?_;refine zA 0 hA (by simpa using h1) gF h3 h4 rfl ?_;exact bP 0 hF
   ·have hr:lN s st (n:Int) true=(0,st.set n ⟨true,x.left⟩):=by simp[lN,hi,hc,hx,hk,Tu]
    rw[hr]
    have gF:=Bj (r':=qA c a ⟨true,x.left⟩) h2 fN iN hlt (by omega) rfl hs1 tR
    rw[hpq] at gF;refine aA ?_;refine cG (t:=37) rfl (fun _=>?_) (fun h=>absurd hk h);refine aA ?_;refine zA 0 hA (by simpa using h1) gF h3 h4 rfl ?_;exact bP 0 hF
end
section
theorem aI.uT{p:Piece}{sz n:Nat}{A:Option Addr}{rows:List (List Value)}(h:aI p sz A n rows.flatten)(hl:∀r∈rows,r.length=sz){k:Nat}{r:List Value}(hk:rows[k]? =some r)(hn:k < n):
  ∃b off,A=some ⟨b,off,none⟩∧p.Z b∧∀j u,r[j]? =some u→p.w.cell? ⟨b,off+k*sz+j,none⟩=some u:=by
 obtain⟨b,off,hA,hz,hc⟩:=aI.at_ h hn;refine⟨b,off,hA,hz,fun j u hu=>hc j u ?_⟩
 have hj:j < sz:=by
  rw[←hl r (List.mem_of_getElem? hk)];exact(List.getElem?_eq_some_iff.1 hu).1
 rw[Pw rows hl k j r hk hj,hu]
theorem aSi{w0:World}{R:List Piece}{H:List HP}{p:Piece}{b o:Nat}{vs:List Value}(hp:p∈R)(hz:p.Z b)(h:∀j u,vs[j]? =some u→p.w.cell? ⟨b,o+j,none⟩=some u):aM w0 R H b o vs:=.of fun j v hj=>Rd.ro hp hz (h j v hj)
theorem Qs(s:aC)(A1 A2 A3 A4:Option Addr)(n1 k1 n2 k2 n3 k3 n4 k4:Nat)(w:World)(hW:iD w s A1 n1 A2 n2 A3 n3 A4 n4)(aCC:Wv s=0):
  Cz 27 #[.agg #[.slice A1 n1 k1,.slice A2 n2 k2,.slice A3 n3 k3,.slice A4 n4 k4]] w (Rt (iv 0) w):=by
 have:=aA5 s A1 A2 A3 A4 n1 k1 n2 k2 n3 k3 n4 k4 w hW
 rw[aCC] at this;exact this
def aIj(s:aC)(v:Value)(hs:List HP)(_:Piece):Prop:=∃L:TL,v=.tuple #[.pointer (some ⟨L.t,0,none⟩),iv 0]∧hs=[oY L s (s.aF.map xJ)]∧L.fa.length=s.aF.length
theorem aQa(s:aC)(hH:s.dK)(A1 A2 A3 A4:Option Addr)(n1 k1 n2 k2 n3 k3 n4 k4:Nat)(w:World)(hW:iD w s A1 n1 A2 n2 A3 n3 A4 n4):
  Cz 99 #[.agg #[.slice A1 n1 k1,.slice A2 n2 k2,.slice A3 n3 k3,.slice A4 n4 k4]] w (fun y w'=>(∃v hs q,y=.returned v∧q.w=w'∧aIj s v hs q∧fZ w hs q)∧Below w.heap.size w w'):=by
 have hnc:=hH.t.nc
 have Uj:∀d∈s.aD,d.aR.length≤1000000:=fun d hd=>by
  obtain⟨i,hi⟩:=List.getElem?_of_mem hd
  have:=hH.t.aD i d hi
  unfold cH.fit at this;omega
 refine aO func99 ntmps99 ?_;refine aB ?_;refine bO fun g1=>?_;refine aB ?_;refine aS (fun w1 t=>Qs s A1 A2 A3 A4 n1 k1 n2 k2 n3 k3 n4 k4 w1 (hW.le (t.started (by simp))) hH.t.Qr) ?_;refine aB ?_;refine bO fun g2=>?_;refine aB ?_;refine kA [] (aBk s) (fun w1 t=>aDk s A1 A2 A3 A4 n1 k1 n2 k2 n3 k3 n4 k4 w1 (hW.le (t.started (by simp))) Uj) ?_;rintro _ w1 q1 ⟨cs1,rfl,hS⟩ gF _ aC6
 have aC6:=aC6 (by simp)
 obtain⟨B1,m1,j1,B2,m2,j2,B3,m3,j3,B4,m4,j4,rfl,hSQ⟩:=(hS.mono (kG gF)).Q;clear gF hS;obtain⟨rc,hrc,hm1,hsc⟩:=hSQ.uE;obtain⟨fa,hfl,rfl,hfa⟩:=aDm hrc;subst hm1;obtain⟨jS,hcr⟩:=Yd (f:=yU) (es:=s.aF) (bs:=fa) (sz:=6) hfl (fun _ _=>rfl)
 have hl0:(s.aF.map xJ).length=s.aF.length:=by simp
 refine kd (aPt (off:=0) (cs:=[.slice B1 s.aF.length j1,.slice B2 m2 j2,.slice B3 m3 j3,.slice B4 m4 j4]) (by kernel_rfl) rfl rfl) ?_;refine aB ?_;refine lI 251 11 ?_;refine bN [(20,iv 0),(19,iv s.aF.length),(18,.slice B1 s.aF.length j1),(5,pt g2)] ?_;refine eV (fun m e R H=>∃(i:Nat) (A:Option Addr) (k:Nat),i≤s.aF.length∧m=s.aF.length - i∧e=[(20,iv i),(19,iv s.aF.length),(18,.slice B1 s.aF.length j1),(5,pt g2)]∧R=[q1,all w]∧H=[HP.own 251 11 (.slice A i k) i ((jQ s fa (s.aF.map xJ)).take i).flatten,HP.aE g2 249 [.slice A i k],HP.aE g1 30 [.slice A1 n1 k1,.slice A2 n2 k2,.slice A3 n3 k3,.slice A4 n4 k4]]) s.aF.length ⟨0,none,0,by omega,rfl,rfl,rfl,by simp⟩ fun m e R H hI=>?_;obtain⟨i,A,k,hi,rfl,rfl,rfl,rfl⟩:=hI;refine aB ?_;refine aG rfl (fun hlt=>?_) (fun hge=>?_)
 ·have hlt:i < s.aF.length:=by omega
  obtain⟨c,hc⟩:=get_some hlt;obtain⟨a,ha⟩:=get_some (l:=fa) (i:=i) (by omega);obtain⟨b,off,hB,hz,hcell⟩:=aI.uT hsc hcr (Rz hc ha) hlt;subst hB
  have hrow:(jQ s fa (s.aF.map xJ))[i]? =some (qA c a (xJ c)):=Oc (L:=⟨0,none,0,fa⟩) hc ha (by rw[List.getElem?_map,hc];rfl)
  have dD:((jQ s fa (s.aF.map xJ)).take (i+1)).flatten=((jQ s fa (s.aF.map xJ)).take i).flatten++qA c a (xJ c):=by
   rw[List.take_succ,hrow,List.flatten_append];simp
  have Un:∀H,aM w [q1,all w] H b (off+i*6) (yU c a):=fun H=>aSi (by simp) hz hcell
  have aSs:=Un [HP.own 251 11 (.slice A i k) i ((jQ s fa (s.aF.map xJ)).take i).flatten,HP.aE g2 249 [.slice A i k],HP.aE g1 30 [.slice A1 n1 k1,.slice A2 n2 k2,.slice A3 n3 k3,.slice A4 n4 k4]]
  refine aA ?_;refine kd (dat i (off+i*6)) ?_;refine aB ?_;refine bY fun g3=>?_;obtain⟨kdx,src,rate,mul,dv,lock⟩:=c;dsimp only[yU];refine aB ?_;refine bY fun g4=>?_
  have hfit:=(hH.t.aF i _ hc).2
  dsimp only at hfit;rcases hfit with⟨rfl,_⟩ | ⟨rfl,_⟩ | ⟨rfl,_⟩ | ⟨rfl,_⟩ | ⟨rfl,_⟩
  ·skip
   refine aA ?_;refine iZ [2,3,4,5] ?_;refine bJ 0 ?_;refine bJ 1 ?_;refine aK 2 ?_;refine aK 3 ?_;refine aK 4 ?_;refine aK 5 ?_;refine aL 6 ?_;refine eH fun g5=>?_;refine bB ?_;refine aL 7 ?_;refine gY 3 11 104 1 (el:=251) (by kernel_rfl) (by kernel_rfl) (by decide) rfl rfl rfl (lV 0 rfl rfl) (by simp[Value.oneCell']) rfl (by omega) (by omega) (by decide) fun A' k'=>?_;dsimp only[List.set];refine cI ?_;refine aL 8 ?_;refine bF ?_;refine cI ?_;refine aL 9 ?_;refine bF ?_;refine cI ?_;refine aL 10 ?_;refine eO rfl rfl ?_;dsimp only[List.set];refine cI ?_;refine dY ?_;refine aA ?_;refine aT [3,4,5] rfl (by decide) (fun _ h=>h) ?_;exact eR (s.aF.length - (i+1)) ⟨i+1,A',k',hlt,rfl,rfl,rfl,by rw[dD]⟩
  ·skip
   refine aA ?_;refine iZ [2,3,4,5] ?_;refine bJ 0 ?_;refine bJ 1 ?_;refine aK 2 ?_;refine aK 3 ?_;refine aK 4 ?_;refine aK 5 ?_;refine aL 6 ?_;refine eH fun g5=>?_;refine bB ?_;refine aL 7 ?_;refine gY 3 11 104 1 (el:=251) (by kernel_rfl) (by kernel_rfl) (by decide) rfl rfl rfl (lV 0 rfl rfl) (by simp[Value.oneCell']) rfl (by omega) (by omega) (by decide) fun A' k'=>?_;dsimp only[List.set];refine cI ?_;refine aL 8 ?_;refine bF ?_;refine cI ?_;refine aL 9 ?_;refine bF ?_;refine cI ?_;refine aL 10 ?_;refine eO rfl rfl ?_;dsimp only[List.set];refine cI ?_;refine dY ?_;refine aA ?_;refine aT [3,4,5] rfl (by decide) (fun _ h=>h) ?_;exact eR (s.aF.length - (i+1)) ⟨i+1,A',k',hlt,rfl,rfl,rfl,by rw[dD]⟩
  ·skip
   refine aA ?_;refine iZ [2,3,4,5] ?_;refine bJ 0 ?_;refine bJ 1 ?_;refine aK 2 ?_;refine aK 3 ?_;refine aK 4 ?_;refine aK 5 ?_;refine aL 6 ?_;refine eH fun g5=>?_;refine bB ?_;refine aL 7 ?_;refine gY 3 11 104 1 (el:=251) (by kernel_rfl) (by kernel_rfl) (by decide) rfl rfl rfl (lV 0 rfl rfl) (by simp[Value.oneCell']) rfl (by omega) (by omega) (by decide) fun A' k'=>?_;dsimp only[List.set];refine cI ?_;refine aL 8 ?_;refine bF ?_;refine cI ?_;refine aL 9 ?_;refine bF ?_;refine cI ?_;refine aL 10 ?_;refine eO rfl rfl ?_;dsimp only[List.set];refine cI ?_;refine dY ?_;refine aA ?_;refine aT [3,4,5] rfl (by decide) (fun _ h=>h) ?_;exact eR (s.aF.length - (i+1)) ⟨i+1,A',k',hlt,rfl,rfl,rfl,by rw[dD]⟩
  ·skip
   refine aA ?_;refine iZ [2,3,4,5] ?_;refine bJ 0 ?_;refine bJ 1 ?_;refine aK 2 ?_;refine aK 3 ?_;refine aK 4 ?_;refine aK 5 ?_;refine aL 6 ?_;refine eH fun g5=>?_;refine bB ?_;refine aL 7 ?_;refine gY 3 11 104 1 (el:=251) (by kernel_rfl) (by kernel_rfl) (by decide) rfl rfl rfl (lV 0 rfl rfl) (by simp[Value.oneCell']) rfl (by omega) (by omega) (by decide) fun A' k'=>?_;dsimp only[List.set];refine cI ?_;refine aL 8 ?_;refine bF ?_;refine cI ?_;refine aL 9 ?_;refine bF ?_;refine cI ?_;refine aL 10 ?_;refine eO rfl rfl ?_;dsimp only[List.set];refine cI ?_;refine dY ?_;refine aA ?_;refine aT [3,4,5] rfl (by decide) (fun _ h=>h) ?_;exact eR (s.aF.length - (i+1)) ⟨i+1,A',k',hlt,rfl,rfl,rfl,by rw[dD]⟩
  ·skip
   refine aA ?_;refine iZ [2,3,4,5] ?_;refine bJ 0 ?_;refine bJ 1 ?_;refine aK 2 ?_;refine aK 3 ?_;refine aK 4 ?_;refine aK 5 ?_;refine aL 6 ?_;refine eH fun g5=>?_;refine bB ?_;refine aL 7 ?_;refine gY 3 11 104 1 (el:=251) (by kernel_rfl) (by kernel_rfl) (by decide) rfl rfl rfl (lV 0 rfl rfl) (by simp[Value.oneCell']) rfl (by omega) (by omega) (by decide) fun A' k'=>?_;dsimp only[List.set];refine cI ?_;refine aL 8 ?_;refine bF ?_;refine cI ?_;refine aL 9 ?_;refine bF ?_;refine cI ?_;refine aL 10 ?_;refine eO rfl rfl ?_;dsimp only[List.set];refine cI ?_;refine dY ?_;refine aA ?_;refine aT [3,4,5] rfl (by decide) (fun _ h=>h) ?_;exact eR (s.aF.length - (i+1)) ⟨i+1,A',k',hlt,rfl,rfl,rfl,by rw[dD]⟩
 ·obtain rfl:i=s.aF.length:=by omega
  refine aB ?_
  have hfull:(jQ s fa (s.aF.map xJ)).take s.aF.length=jQ s fa (s.aF.map xJ):=List.take_of_length_le (by simp[jQ];omega)
  rw[hfull];refine aT [1,0] rfl (by decide) (fun _ h=>h) ?_;refine Jm aC6 (by simp[all]) (Φ:=rL s fa) (hm:=rL.le (s:=s) (fa:=fa)) (fun i c a hc ha=>hfa i c a hc ha) ?_;refine aT [1,2,0] rfl (by decide) (fun _ h=>h) ?_;refine vI ?_;refine dG [] [] [0] (by simp) rfl (by decide) (by decide) fun q _ _ hfr=>?_;exact fS rfl rfl rfl fun w1 t=>⟨⟨_,_,⟨w1,q.Z⟩,rfl,rfl,⟨⟨g2,A,k,fa⟩,rfl,rfl,hfl⟩,t.newR (by simp) (by simp) (hfr (by simp) (by simp))⟩,t.below (by simp)⟩
end
section
def iQ(r:Int)(x:jX):Value:=.agg #[iv r,iv x.left,.bool x.held,.bool x.wanted]
def Kv(s:aC)(st:List jX)(i:Nat):Int×Value:=((i:Int),iQ (s.aY.getD i 0) (st.getD i qB))
def mX(s:aC)(st:List jX):List (Int×Value):=(List.range st.length).map (Kv s st)
theorem aFG(f:Nat→Value)(n:Nat)(i:Int):lX ((List.range n).map fun j:Nat=>((j:Int),f j)) i=if bZ n i then some (f i.toNat) else none:=by
 induction n with
 | zero=>
  have:bZ 0 i=false:=decide_eq_false (by omega)
  rw[this];rfl
 | succ n ih =>
  have h0:lX ((List.range (n+1)).map fun j:Nat=>((j:Int),f j)) i=(lX ((List.range n).map fun j:Nat=>((j:Int),f j)) i).or (lX [((n:Int),f n)] i):=by
   rw[List.range_succ,List.map_append];unfold lX;rw[List.find?_append];cases List.find? (fun p=>decide (p.1=i)) ((List.range n).map fun j:Nat=>((j:Int),f j))<;>rfl
  rw[h0,ih]
  by_cases h1:bZ n i=true
  ·have:bZ (n+1) i=true:=by have:=of_decide_eq_true h1;exact decide_eq_true (by omega)
   rw[if_pos h1,if_pos this];rfl
  ·have hf:bZ n i=false:=by simpa using h1
   have:=of_decide_eq_false hf
   rw[if_neg h1,Of]
   by_cases h2:(n:Int)=i
   ·subst h2
    have:bZ (n+1) (n:Int)=true:=decide_eq_true (by omega)
    rw[if_pos rfl,if_pos this];rfl
   ·have h3:bZ (n+1) i=false:=decide_eq_false (by omega)
    rw[if_neg h2,h3];rfl
theorem aMs(f : Nat → Value)(n i : Nat)(v : Value)(hi : i < n) : nG ((List.range n).map fun j : Nat => ((j : Int), f j)) (i : Int) v = (List.range n).map fun j : Nat => ((j : Int), if j = i then v else f j) := by
  have key:∀(l:List Nat),i∈l→l.Nodup→nG (l.map fun j:Nat=>((j:Int),f j)) (i:Int) v=l.map fun j:Nat=>((j:Int),if j=i then v else f j):=by
    intro l
    induction l with
    | nil=>intro h;simp at h
    | cons a l ih =>
      intro h hn;rw[List.map_cons,nG,List.map_cons]
      by_cases ha:(a:Int)=(i:Int)
      · have Bg:a=i:=by omega
        subst Bg;rw[if_pos rfl,if_pos rfl]
        congr 1
        refine List.map_congr_left fun j hj=>?_;rw[if_neg (fun he:j=a=>(List.nodup_cons.1 hn).1 (he▸hj))]
      · rw[if_neg ha,if_neg (by omega)]
        congr 1
        exact ih (by rcases List.mem_cons.1 h with h | h
                     · omega
                     · exact h) (List.nodup_cons.1 hn).2
  exact key _ (List.mem_range.2 hi) List.nodup_range
theorem aFH{s:aC}{st:List jX}(i:Int):lX (mX s st) i=if bZ st.length i then some (iQ (s.aY.getD i.toNat 0) (st.getD i.toNat qB)) else none:=aFG (fun j=>iQ (s.aY.getD j 0) (st.getD j qB)) st.length i
theorem aBX{s:aC}{st:List jX}{i:Nat}{x:jX}{r:Int}(hr:s.aY.getD i 0=r)(hi:i < st.length):nG (mX s st) (i:Int) (iQ r x)=mX s (st.set i x):=by
 have:=aMs (fun j=>iQ (s.aY.getD j 0) (st.getD j qB)) st.length i (iQ r x) hi
 refine this.trans ?_;unfold mX;rw[List.length_set];refine List.map_congr_left fun j hj=>?_;unfold Kv
 congr 1
 by_cases he:j=i
 ·subst he;rw[if_pos rfl,←hr,List.getD_eq_getElem?_getD (l:=st.set j x),List.getElem?_set_self hi];rfl
 ·rw[if_neg he,List.getD_eq_getElem?_getD (l:=st.set i x),List.getElem?_set_ne (Ne.symm he),List.getD_eq_getElem?_getD (l:=st)]
structure RL where
 t:Nat
 g:Nat
def oH(L:RL)(s:aC)(st:List jX):HP:=HP.many [HP.aE L.t 259 [.map (some L.g)],HP.map L.g (mX s st)]
structure Ju(w:World)(L:RL)(s:aC)(st:List jX):Prop where
 r0:fK w L.t 0 (.map (some L.g))
 m:vL w L.g (mX s st)
theorem Ju.below{w w':World}{L:RL}{s:aC}{st:List jX}(h:Ju w L s st)(hb:Below w.heap.size w w'):Ju w' L s st:=
 ⟨⟨Nat.lt_of_lt_of_le h.r0.1 hb.size,(hb.cell (p:=⟨_,0,none⟩) h.r0.1).trans h.r0.2⟩,h.m.below hb⟩
section
variable{N:cE}{w0 w:World}{e:Env}{R:List Piece}{H:List HP}{K:Act→World→Prop}{L:RL}{s:aC}{st:List jX}
theorem aI6{F:Nat→Prop}(h:(oH L s st).sat F w):Ju w L s st:=by
 obtain⟨G,g1,g2,_⟩:=h
 have h0:=g1 0 _ rfl
 exact⟨⟨h0.2.lt,by rw[h0.2.cell];rfl⟩,(g1 1 _ rfl).2⟩
theorem St.On(t:St w0 R H w)(i:Nat)(hi:H[i]? =some (oH L s st)):Ju w L s st:=by
 obtain⟨F,h1,h2,_⟩:=t.chunk hi;exact aI6 h1
end
theorem aFP:(Tryz.prog.info? 261).bind (·.zero)=some (iQ 0 ⟨0,false,false⟩):=by kernel_rfl
def sM(s:aC)(st:List jX)(i:Int):Value:=if bZ st.length i then iQ (s.aY.getD i.toNat 0) (st.getD i.toNat qB) else iQ 0 ⟨0,false,false⟩
theorem aO4(s:aC)(st:List jX)(i:Int):∃r x,sM s st i=iQ r x:=by
 unfold sM;split
 ·exact⟨_,_,rfl⟩
 ·exact⟨_,_,rfl⟩
theorem Tf(L:RL)(s:aC)(st:List jX)(i:Int)(w:World)(hR:Ju w L s st):
  Cz 189 #[.pointer (some ⟨L.t,0,none⟩),iv i] w (Rt (.tuple #[sM s st i,.bool (bZ st.length i)]) w):=by
 have h0:=hR.r0
 obtain⟨r,x,hv⟩:=aO4 s st i
 have hm:=aFH (s:=s) (st:=st) i
 have hz:(lX (mX s st) i).getD (iQ 0 ⟨0,false,false⟩)=iQ r x:=by
  rw[hm,←hv,sM];split<;>rfl
 have hb:(lX (mX s st) i).isSome=bZ st.length i:=by
  rw[hm];split
  ·rename_i h;rw[h];rfl
  ·rename_i h;simp at h;rw[h];rfl
 rw[hv];refine aO func189 ntmps189 ?_;refine aA ?_;refine bY fun g1=>?_;refine aA ?_;refine Yj (kt:=3) (et:=261) (kd:=.i64) (z:=iQ 0 ⟨0,false,false⟩) (l:=mX s st) true (by kernel_rfl) (by kernel_rfl) aFP rfl rfl (fun w1 t=>(hR.below (t.below (by simp))).m) (by decide) ?_;simp only[if_true];rw[hz,hb];refine aA ?_;refine bY fun g2=>?_;unfold iQ;refine aA ?_;exact yY rfl (by kernel_rfl) rfl rfl (by first | assumption | exact aM.whole 0 rfl | exact aM.whole 1 rfl | exact aM.whole 2 rfl | exact aM.whole 3 rfl | exact aM.whole 4 rfl | exact aM.whole 5 rfl | exact aM.whole 6 rfl | exact aM.whole 7 rfl | exact aM.whole 8 rfl | exact xP (by simp) (by assumption)) rfl fun w1 t=>⟨rfl,t.below (by simp)⟩
theorem aFa(L:RL)(s:aC)(st:List jX)(i:Int)(w:World)(hR:Ju w L s st):
  Cz 149 #[.pointer (some ⟨L.t,0,none⟩),iv i] w (Rt (.bool (Il st i)) w):=by
 refine aO func149 ntmps149 ?_;refine aA ?_;refine aS (fun w1 t=>Tf L s st i w1 (hR.below (t.below (by simp)))) ?_;refine aA ?_;refine bY fun g2=>?_;cases hi:bZ st.length i
 ·have hv:sM s st i=iQ 0 ⟨0,false,false⟩:=by simp[sM,hi]
  rw[hv];unfold iQ;refine aA ?_;refine iS (by simp) ?_;simp[Il,hi]
 ·have hv:sM s st i=iQ (s.aY.getD i.toNat 0) (st.getD i.toNat qB):=by simp[sM,hi]
  rw[hv];unfold iQ;refine aA ?_;refine iS (by simp) ?_
  have:i.toNat < st.length:=by have:=of_decide_eq_true hi;omega
  simp[Il,hi,List.getElem?_eq_getElem this]
end
section
theorem aGY:∀{cl:List Dom} {rs:List (List Value)},Rows tE 3 cl rs→rs=cl.map fun d=>[iv d.above,iv d.delay,.bool d.ret]
 | [],[],_=>rfl
 | e::es,r::rs,h=>by
  have h1:r=[iv e.above,iv e.delay,.bool e.ret]:=h.2.1
  rw[h1,aGY h.2.2];rfl
theorem aEZ:∀{cl:List Int} {rs:List (List Value)},Rows xN 1 cl rs→rs=cl.map fun d=>[iv d]
 | [],[],_=>rfl
 | e::es,r::rs,h=>by
  have h1:r=[iv e]:=h.2.1
  rw[h1,aEZ h.2.2];rfl
def aIE(s:aC)(v:Value)(hs:List HP)(_:Piece):Prop:=∃L:GL,v=.tuple #[.pointer (some ⟨L.t,0,none⟩),iv 0]∧hs=[uM L s (s.domains.map fun _=>xF)]
theorem aL7(s:aC)(hH:s.dK)(A1 A2 A3 A4:Option Addr)(n1 k1 n2 k2 n3 k3 n4 k4:Nat)(w:World)(hW:iD w s A1 n1 A2 n2 A3 n3 A4 n4):
  Cz 100 #[.agg #[.slice A1 n1 k1,.slice A2 n2 k2,.slice A3 n3 k3,.slice A4 n4 k4]] w (fun y w'=>(∃v hs q,y=.returned v∧q.w=w'∧aIE s v hs q∧fZ w hs q)∧Below w.heap.size w w'):=by
 have hnd:=hH.t.nd
 obtain⟨rd,hrd,hn2,hsd⟩:=hW.dom
 have hrd:=aGY hrd
 subst hrd;subst hn2
 have lC:(s.domains.map fun _=>xF).length=s.domains.length:=by simp
 refine aO func100 ntmps100 ?_;refine aA ?_;refine bO fun g1=>?_;refine aA ?_;refine aS (fun w1 t=>Qs s A1 A2 A3 A4 n1 k1 _ k2 n3 k3 n4 k4 w1 (hW.le (t.started (by simp))) hH.t.Qr) ?_;refine aA ?_;refine kd (iG rfl) ?_;refine bO fun g2=>?_;refine aA ?_;refine lI 256 7 ?_;refine bN [(18,iv 0),(17,iv s.domains.length),(16,.slice A2 s.domains.length k2),(5,pt g2)] ?_;refine eV (fun m e R H=>∃(i:Nat) (A:Option Addr) (k:Nat),i≤s.domains.length∧m=s.domains.length - i∧e=[(18,iv i),(17,iv s.domains.length),(16,.slice A2 s.domains.length k2),(5,pt g2)]∧R=[all w]∧H=[HP.own 256 7 (.slice A i k) i ((oQ s (s.domains.map fun _=>xF)).take i).flatten,HP.aE g2 254 [.slice A i k],HP.aE g1 30 [.slice A1 n1 k1,.slice A2 s.domains.length k2,.slice A3 n3 k3,.slice A4 n4 k4]]) s.domains.length ⟨0,none,0,by omega,rfl,rfl,rfl,by simp⟩ fun m e R H hI=>?_;obtain⟨i,A,k,hi,rfl,rfl,rfl,rfl⟩:=hI;refine aA ?_;refine aG rfl (fun hlt=>?_) (fun hge=>?_)
 ·have hlt:i < s.domains.length:=by omega
  obtain⟨c,hc⟩:=get_some hlt;obtain⟨b,off,hB,hro⟩:=aI.row hsd (fun r hr=>by obtain⟨q,_,rfl⟩:=List.mem_map.1 hr;rfl) (r:=[iv c.above,iv c.delay,.bool c.ret]) (by rw[List.getElem?_map,hc];rfl) hlt;subst hB
  have hrow:(oQ s (s.domains.map fun _=>xF))[i]? =some (nQ c xF):=Ja hc (by rw[List.getElem?_map,hc];rfl)
  have dD:((oQ s (s.domains.map fun _=>xF)).take (i+1)).flatten=((oQ s (s.domains.map fun _=>xF)).take i).flatten++nQ c xF:=by
   rw[List.take_succ,hrow,List.flatten_append];simp
  refine aA ?_;refine kd (dat i (off+i*3)) ?_;refine aA ?_;refine bY fun g3=>?_;refine aA ?_;refine iZ [2,3,4,5,6] ?_;refine bJ 0 ?_;refine bJ 1 ?_;refine aK 2 ?_;refine aK 3 ?_;refine aK 4 ?_;refine aK 5 ?_;refine aK 6 ?_ (cM:=kR (zs:=[iv 0,iv 0,.bool false,.int .u8 0,iv 0,.bool false,.bool false]) (L:=[(0,3),(3,1),(4,1),(5,1),(6,1)]) (gX (by kernel_rfl)) (by kernel_rfl) rfl (by simp[eZ,gB,Value.cells];rfl));refine aL 7 ?_;refine eH fun g5=>?_;refine bB ?_;refine aL 8 ?_;refine gY 2 7 48 1 (el:=256) (by kernel_rfl) (by kernel_rfl) (by decide) rfl rfl rfl (lV 0 rfl rfl) (by simp[Value.oneCell']) rfl (by omega) (by omega) (by decide) fun A' k'=>?_;dsimp only[List.set];refine cI ?_;refine aL 9 ?_;refine bF ?_;refine cI ?_;refine aL 10 ?_;refine bF ?_;refine cI ?_;refine aL 11 ?_;refine eO rfl rfl ?_;dsimp only[List.set];refine cI ?_;refine dY ?_;refine aA ?_;refine aT [2,3,4] rfl (by decide) (fun _ h=>h) ?_;exact eR (s.domains.length - (i+1)) ⟨i+1,A',k',hlt,rfl,rfl,rfl,by rw[dD]⟩
 ·obtain rfl:i=s.domains.length:=by omega
  refine aA ?_
  have hfull:(oQ s (s.domains.map fun _=>xF)).take s.domains.length=oQ s (s.domains.map fun _=>xF):=List.take_of_length_le (by simp[oQ])
  rw[hfull];refine aT [1,0] rfl (by decide) (fun _ h=>h) ?_;refine mR ?_;refine dG [] [] [0] (by simp) rfl (by decide) (by decide) fun q _ _ hfr=>?_;exact fS rfl rfl rfl fun w1 t=>⟨⟨_,_,⟨w1,q.Z⟩,rfl,rfl,⟨⟨g2,A,k⟩,rfl,rfl⟩,t.newR (by simp) (by simp) (hfr (by simp) (by simp))⟩,t.below (by simp)⟩
theorem aIV{N:cE}{w0:World}{e:Env}{R:List Piece}{H:List HP}{Q:Exit→Act→World→Prop}{ops:Array Oper}{rest:List Oper}{d:Nat}{ty:TypeId}{pos:String}{aH:Array Edge}{x:Operand}{n:Int}{t kt et:TypeId}(ht:Tryz.prog.underlying t=some (.map kt et))(hx:e.ev x=some (iv n))(hd:d < N.n)(k:∀g,XK N w0 (wpList Tryz.prog ops Q rest) ((d,.map (some g))::e) R (HP.map g []::H)):XK N w0 (wpList Tryz.prog ops Q (⟨some d,.makeMap t (some x),ty,pos,aH,none⟩::rest)) e R H:=
 rO rfl fun a w hr st=>⟨.map (some w.heap.size),w.alloc (.map #[] 0),by simp[execOp,Instr.makeMap,hr.ev hx,run_underlying ht,asInt,asIntOf],k w.heap.size _ _ (hr.put hd _) (st.new (Qx w _) ⟨⟨Nat.le_refl _,by simp⟩,#[],0,heap_alloc_new w _,rfl⟩)⟩
def aI5(s:aC)(v:Value)(hs:List HP)(_:Piece):Prop:=∃L:RL,v=.tuple #[.pointer (some ⟨L.t,0,none⟩),iv 0]∧hs=[oH L s (s.aY.map fun _=>qB)]
theorem aMr(l:List (Int×Value))(k:Int)(v:Value)(h:lX l k=none):nG l k v=l++[(k,v)]:=by
 induction l with
 | nil=>rfl
 | cons p l ih =>
  obtain⟨a,b⟩:=p;rw[Of] at h;rw[nG];split at h
  ·cases h
  ·rename_i hne
   rw[if_neg hne,ih h];rfl
theorem aKB(s:aC)(hH:s.dK)(A1 A2 A3 A4:Option Addr)(n1 k1 n2 k2 n3 k3 n4 k4:Nat)(w:World)(hW:iD w s A1 n1 A2 n2 A3 n3 A4 n4):
  Cz 101 #[.agg #[.slice A1 n1 k1,.slice A2 n2 k2,.slice A3 n3 k3,.slice A4 n4 k4]] w (fun y w'=>(∃v hs q,y=.returned v∧q.w=w'∧aI5 s v hs q∧fZ w hs q)∧Below w.heap.size w w'):=by
 have iN:=hH.t.nr
 obtain⟨rr,cR,sI,hst⟩:=hW.zW
 have cR:=aEZ cR
 subst cR;subst sI
 have nO:(s.aY.map fun _=>qB).length=s.aY.length:=by simp
 refine aO func101 ntmps101 ?_;refine aA ?_;refine bO fun g1=>?_;refine aA ?_;refine aS (fun w1 t=>Qs s A1 A2 A3 A4 n1 k1 n2 k2 _ k3 n4 k4 w1 (hW.le (t.started (by simp))) hH.t.Qr) ?_;refine aA ?_;refine aIV (kt:=3) (et:=261) (by kernel_rfl) rfl (by decide) fun gm=>?_;refine kd (iG rfl) ?_;refine bO fun g2=>?_;refine aA ?_;refine bN [(22,iv 0),(21,iv s.aY.length),(20,.slice A3 s.aY.length k3),(5,pt g2)] ?_;refine eV (fun m e R H=>∃i:Nat,i≤s.aY.length∧m=s.aY.length - i∧e=[(22,iv i),(21,iv s.aY.length),(20,.slice A3 s.aY.length k3),(5,pt g2)]∧R=[all w]∧H=[HP.aE g2 259 [.map (some gm)],HP.map gm ((List.range i).map (Kv s (s.aY.map fun _=>qB))),HP.aE g1 30 [.slice A1 n1 k1,.slice A2 n2 k2,.slice A3 s.aY.length k3,.slice A4 n4 k4]]) s.aY.length ⟨0,by omega,rfl,rfl,rfl,rfl⟩ fun m e R H hI=>?_;obtain⟨i,hi,rfl,rfl,rfl,rfl⟩:=hI;refine aA ?_;refine aG rfl (fun hlt=>?_) (fun hge=>?_)
 ·have hlt:i < s.aY.length:=by omega
  obtain⟨c,hc⟩:=get_some hlt;obtain⟨b,off,hB,hro⟩:=aI.row hst (fun r hr=>by obtain⟨q,_,rfl⟩:=List.mem_map.1 hr;rfl) (r:=[iv c]) (by rw[List.getElem?_map,hc];rfl) hlt;subst hB
  have lF:nG ((List.range i).map (Kv s (s.aY.map fun _=>qB))) (i:Int) (iQ c qB)=(List.range (i+1)).map (Kv s (s.aY.map fun _=>qB)):=by
   rw[aMr _ _ _ (by
    have:=aFG (fun j=>iQ (s.aY.getD j 0) ((s.aY.map fun _=>qB).getD j qB)) i (i:Int)
    rw[if_neg (by simp[bZ])] at this
    exact this),List.range_succ,List.map_append]
   congr 1
   simp[Kv,List.getD_eq_getElem?_getD,hc]
  refine aA ?_;refine kd (dat i (off+i*1)) ?_;refine aA ?_;refine bY fun g3=>?_;refine aA ?_;refine iZ [1,2,3,5,6,7] ?_;refine bJ 0 ?_;refine aK 1 ?_;refine aK 2 ?_;refine aK 3 ?_;refine bJ 4 ?_;refine aK 5 ?_;refine aK 6 ?_;refine aK 7 ?_ (cM:=kR (zs:=[iv 0,iv 0,.bool false,.bool false]) (L:=[(0,1),(1,1),(2,1),(3,1)]) (gX (by kernel_rfl)) (by kernel_rfl) rfl (by simp[eZ,gB,Value.cells];rfl));refine aL 8 ?_;refine Hg (kt:=3) (et:=261) (kd:=.i64) (l:=(List.range i).map (Kv s (s.aY.map fun _=>qB))) (v:=iQ c qB) 2 (by kernel_rfl) (by kernel_rfl) rfl rfl rfl rfl ?_;rw[lF];dsimp only[List.set];refine cI ?_;refine dY ?_;refine aA ?_;refine aT [1,2,3] rfl (by decide) (fun _ h=>h) ?_;exact eR (s.aY.length - (i+1)) ⟨i+1,hlt,rfl,rfl,rfl,rfl⟩
 ·obtain rfl:i=s.aY.length:=by omega
  refine aA ?_;refine mR ?_;refine dG [] [] [0] (by simp) rfl (by decide) (by decide) fun q _ _ hfr=>?_;exact fS rfl rfl rfl fun w1 t=>⟨⟨_,_,⟨w1,q.Z⟩,rfl,rfl,⟨⟨g2,gm⟩,rfl,by simp[oH,mX]⟩,t.newR (by simp) (by simp) (hfr (by simp) (by simp))⟩,t.below (by simp)⟩
end
section
structure jA where
 id:Int
 wr:Bool
 cF:Int
 val:Int
def jA.cells(t:jA):List Value:=[iv t.id,.bool t.wr,iv t.cF,.int .u32 t.val]
def QH(v:Value):Option jA→HP
 | none=>Na (∃A,v=.slice A 0 0)
 | some t=>HP.own 306 4 v 1 t.cells
structure BL where
 b:Nat
 gr:Nat
 gw:Nat
def oK(ws:List (Option jA))(i:Nat):Nat:=if((ws[i]?).join).isSome then 1 else 0
def aDL(g n:Nat)(ws:List (Option jA)):HP:=HP.ex fun vs:List Value=>HP.many (HP.aE g 311 vs::Na (vs.length=n)::(List.range n).map fun i=>QH (vs.getD i undef) (ws[i]?).join)
def xV(L:BL)(ms:List Int)(ws:List (Option jA))(aZ:Int):HP:=HP.many [HP.aE L.b 269 [.slice (some ⟨L.gr,0,none⟩) ms.length ms.length,.slice (some ⟨L.gw,0,none⟩) ms.length ms.length,iv aZ],HP.aE L.gr 3 (aN ms),aDL L.gw ms.length ws]
structure Hf(w:World)(L:BL)(ms:List Int)(ws:List (Option jA))(aZ:Int):Prop where
 r0:dQ w L.b 0 [.slice (some ⟨L.gr,0,none⟩) ms.length ms.length,.slice (some ⟨L.gw,0,none⟩) ms.length ms.length,iv aZ]
 rg:dQ w L.gr 0 (aN ms)
 wt:∀i,i < ms.length→∃A c,fK w L.gw i (.slice A (oK ws i) c)
theorem Hf.below{w w':World}{L:BL}{ms:List Int}{ws:List (Option jA)}{aZ:Int}(h:Hf w L ms ws aZ)(hb:Below w.heap.size w w'):Hf w' L ms ws aZ:=
 ⟨h.r0.below hb,h.rg.below hb,fun i hi=>by
  obtain⟨A,c,h1,h2⟩:=h.wt i hi
  exact⟨A,c,Nat.lt_of_lt_of_le h1 hb.size,(hb.cell (p:=⟨_,i,none⟩) h1).trans h2⟩⟩
theorem aIN{L:BL}{ms:List Int}{ws:List (Option jA)}{aZ:Int}{F:Nat→Prop}{w:World}(h:(xV L ms ws aZ).sat F w):Hf w L ms ws aZ:=by
 obtain⟨G,g1,g2,_⟩:=h;refine⟨uG (g1 0 _ rfl).2,uG (g1 1 _ rfl).2,fun i hi=>?_⟩;obtain⟨vs,G',k1,_,_⟩:=g1 2 _ rfl
 have hb:=uG (k1 0 _ rfl).2
 have hl:vs.length=ms.length:=k1 1 _ rfl
 obtain⟨v,hv⟩:=get_some (l:=vs) (i:=i) (by omega)
 have hq:=k1 (i+2) (QH (vs.getD i undef) (ws[i]?).join) (by
  rw[List.getElem?_cons_succ,List.getElem?_cons_succ,List.getElem?_map,List.getElem?_range hi];rfl)
 rw[List.getD_eq_getElem?_getD,hv] at hq
 have hc:=hb.at_ hv
 rw[Nat.zero_add] at hc;unfold oK;cases hj:(ws[i]?).join with
 | none=>
  rw[hj] at hq;obtain⟨A,hA⟩:∃A,v=.slice A 0 0:=hq;subst hA;exact⟨A,0,hc⟩
 | some t=>
  rw[hj] at hq;obtain⟨A,c,hA,_⟩:=zG (Y:=fun _=>True) hq (fun _ _=>trivial)
  have hA:v=.slice A 1 c:=hA
  subst hA;exact⟨A,c,hc⟩
section
variable{N:cE}{w0 w:World}{e:Env}{R:List Piece}{H:List HP}{K:Act→World→Prop}{L:BL}{ms:List Int}{ws:List (Option jA)}{aZ:Int}
theorem St.aH4(t:St w0 R H w)(i:Nat)(hi:H[i]? =some (xV L ms ws aZ)):Hf w L ms ws aZ:=by
 obtain⟨F,h1,h2,_⟩:=t.chunk hi;exact aIN h1
end
theorem aAC(L:BL)(ms:List Int)(ws:List (Option jA))(aZ:Int)(i:Int)(w:World)(hR:Hf w L ms ws aZ):
  Cz 193 #[.pointer (some ⟨L.b,0,none⟩),iv i] w (Rt (.bool (bZ ms.length i)) w):=by
 have k0:=hR.r0.at_ (j:=0) rfl
 refine aO func193 ntmps193 ?_;refine aA ?_;refine cG (t:=11) rfl (fun h=>?_) (fun h=>?_)
 ·refine aA ?_;refine iS (by simp) ?_;unfold bZ
  congr 1
  simp;omega
 ·refine aA ?_;refine iS (by simp) ?_
  have:bZ ms.length i=false:=decide_eq_false (by omega)
  rw[this]
theorem aH2(L:BL)(ms:List Int)(ws:List (Option jA))(aZ:Int)(i:Nat)(hi:i < ms.length)(w:World)(hR:Hf w L ms ws aZ):
  Cz 153 #[.pointer (some ⟨L.b,0,none⟩),iv (i:Int)] w (Rt (iv (oK ws i:Nat)) w):=by
 have k1:=hR.r0.at_ (j:=1) rfl
 obtain⟨A,c,hw⟩:=hR.wt i hi
 have hin:bZ ms.length (i:Int)=true:=decide_eq_true (by omega)
 refine aO func153 ntmps153 ?_;refine aA ?_;refine aS (fun w1 t=>aAC L ms ws aZ i w1 (hR.below (t.below (by simp)))) ?_;rw[hin];refine aB ?_;exact dH
def aIM(ms:List Int)(v:Value)(hs:List HP)(_:Piece):Prop:=∃L:BL,v=.tuple #[.pointer (some ⟨L.b,0,none⟩),iv 0]∧hs=[xV L ms (ms.map fun _=>none) 0]
theorem aJ2{N:cE}{w0:World}{e:Env}{R:List Piece}{H:List HP}{K:Act→World→Prop}{g n:Nat}{β:Type}(l:List β)(hl:l.length=n)(i:Nat)(hi:H[i]? =some (HP.aE g 311 (List.replicate n (sn))))(h:XK N w0 K e R (H.set i (aDL g n (l.map fun _=>none)))):XK N w0 K e R H:=by
 refine oA (q:=aDL g n (l.map fun _=>none)) i hi (fun F w hs=>⟨List.replicate n (sn),fun k b=>k=0∧F b,fun k p hk=>?_,fun k b h=>h.2,fun k j b hkj h1 h2=>by have:=h1.1;have:=h2.1;omega⟩) h
 match k,hk with
 | 0,hk=>
  simp at hk;subst hk
  show(HP.aE g 311 (List.replicate n (sn))).sat (fun b=>0=0∧F b) w
  rw[show(fun b=>0=0∧F b)=F by funext b;simp];exact hs
 | 1,hk=>cases hk;show(List.replicate n (Value.slice none 0 0)).length=n;simp
 | k + 2, hk =>
  rw[List.getElem?_cons_succ,List.getElem?_cons_succ,List.getElem?_map] at hk;cases hr:(List.range n)[k]? with
  | none=>rw[hr] at hk;cases hk
  | some j =>
   rw[hr] at hk
   have hj:j < n:=List.mem_range.1 (List.mem_of_getElem? hr)
   have:((l.map fun _=>(none:Option jA))[j]?).join=none:=by
    rw[List.getElem?_map];cases l[j]? <;>rfl
   simp only[Option.map_some,Option.some.injEq,this] at hk;subst hk;refine⟨none,?_⟩;rw[List.getD_eq_getElem?_getD,List.getElem?_replicate,if_pos hj];rfl
theorem aQ6(ms:List Int)(hml:ms.length≤6)(hm:∀m∈ms,0≤m∧m≤8)(A:Option Addr)(c:Nat)(w:World)(hs:aI (all w) 1 A ms.length (aN ms)):
  Cz 105 #[.slice A ms.length c] w (fun y w'=>(∃v hs q,y=.returned v∧q.w=w'∧aIM ms v hs q∧fZ w hs q)∧Below w.heap.size w w'):=by
 refine aO func105 ntmps105 ?_;refine dX ?_;refine fT ?_;refine bF ?_;refine bF ?_;refine fB ?_;refine dX ?_;refine dX ?_;refine fT ?_;refine bF ?_;refine bF ?_;refine bF ?_;refine aB ?_;refine aG rfl (fun h=>absurd h (by omega)) (fun _=>?_);refine nS ?_;refine eK ?_;refine Rf (fun e R H=>∃gr gw g3,e=[(4,pt g3),(0,.slice A ms.length c)]∧R=[all w]∧H=[HP.aE g3 269 [.slice (some ⟨gr,0,none⟩) ms.length ms.length,.slice (some ⟨gw,0,none⟩) ms.length ms.length,iv 0],HP.aE gr 3 (List.replicate ms.length (iv 0)),HP.aE gw 311 (List.replicate ms.length (sn))]) ?_ ?_
 ·refine qI 6 (by kernel_rfl) (by kernel_rfl) ?_;refine bQ 0 ?_;refine bQ 1 ?_;refine bQ 3 ?_;refine bQ 4 ?_;refine Jq 2 5 rfl rfl (by kernel_rfl) ?_ ?_
  ·refine lT (n:=ms.length) 8 (el:=3) (z:=iv 0) (by kernel_rfl) (by kernel_rfl) rfl rfl rfl (by omega) (by omega) (by decide) fun gr=>?_;refine mS ?_;refine cK 5 ?_;refine lT (n:=ms.length) 24 (el:=311) (z:=sn) (by kernel_rfl) (by kernel_rfl) rfl rfl rfl (by omega) (by omega) (by decide) fun gw=>?_;refine mS ?_;refine cK 6 ?_;refine kd (iG rfl) ?_;refine eS ?_;refine cK 7 ?_;refine bO fun g3=>?_;refine eS ?_;refine cK 8 ?_;refine bF ?_;refine eS ?_;refine kL ?_;refine eK ?_;exact nK ⟨gr,gw,g3,rfl,rfl,rfl⟩
  ·refine lT (n:=ms.length) 24 (el:=311) (z:=sn) (by kernel_rfl) (by kernel_rfl) rfl rfl rfl (by omega) (by omega) (by decide) fun gw=>?_;refine mS ?_;refine cK 2 ?_;refine lT (n:=ms.length) 8 (el:=3) (z:=iv 0) (by kernel_rfl) (by kernel_rfl) rfl rfl rfl (by omega) (by omega) (by decide) fun gr=>?_;refine mS ?_;refine cK 6 ?_;refine kd (iG rfl) ?_;refine eS ?_;refine cK 7 ?_;refine bO fun g3=>?_;refine eS ?_;refine cK 8 ?_;refine bF ?_;refine eS ?_;refine kL ?_;refine eK ?_;exact nK ⟨gr,gw,g3,rfl,rfl,rfl⟩
 rintro _ _ _ ⟨gr,gw,g3,rfl,rfl,rfl⟩;refine aB ?_;refine bN [(20,iv 0),(19,iv ms.length),(18,.slice A ms.length c),(4,pt g3)] ?_
 refine eV (fun m e R H=>∃i:Nat,i≤ms.length∧m=ms.length - i∧e=[(20,iv i),(19,iv ms.length),(18,.slice A ms.length c),(4,pt g3)]∧R=[all w]∧H=[HP.aE g3 269 [.slice (some ⟨gr,0,none⟩) ms.length ms.length,.slice (some ⟨gw,0,none⟩) ms.length ms.length,iv 0],HP.aE gr 3 (aN (kH ms (ms.map fun _=>0) i)),HP.aE gw 311 (List.replicate ms.length (sn))]) ms.length ⟨0,by omega,rfl,rfl,rfl,by
  rw[Tw]
  have:List.replicate ms.length (Value.int .i64 0)=aN (ms.map fun _=>0):=by
   refine List.ext_getElem? fun j=>?_;simp only[aN,List.map_map,List.getElem?_replicate,List.getElem?_map]
   by_cases h:j < ms.length
   ·rw[if_pos h,List.getElem?_eq_getElem h];rfl
   ·rw[if_neg h,List.getElem?_eq_none (by omega)];rfl
  rw[this]⟩ fun m e R H hI=>?_
 obtain⟨i,hi,rfl,rfl,rfl,rfl⟩:=hI
 have Uv:=Ty (vs:=ms) (old:=ms.map fun _=>0) (n:=ms.length) rfl (by simp) hi
 refine aB ?_;refine aG rfl (fun hlt=>?_) (fun hge=>?_)
 ·have hlt:i < ms.length:=by omega
  obtain⟨v,hv⟩:=get_some hlt
  have hvb:=hm v (List.mem_of_getElem? hv)
  obtain⟨b,off,hB,hz,hc⟩:=hs.2 (by omega);subst hB
  have hro:fK w b (off+i) (iv v):=⟨hz,hc i _ (by simp[aN,hv])⟩
  have jS:(aN (kH ms (ms.map fun _=>0) i)).length=ms.length:=by simp[aN,Uv]
  have lF:(aN (kH ms (ms.map fun _=>0) i)).set i (iv v)=aN (kH ms (ms.map fun _=>0) (i+1)):=by
   rw[←Tx (by simp) hv,aN,aN,List.map_set]
  refine aA ?_;refine kd (dat i (off+i)) ?_;refine aB ?_;refine cG (t:=27) rfl (fun h=>absurd h (by omega)) (fun _=>?_);refine aB ?_;refine aG rfl (fun h=>absurd h (by omega)) (fun _=>?_);refine aB ?_;rw[lF];refine aB ?_;exact eR (ms.length - (i+1)) ⟨i+1,hlt,rfl,rfl,rfl,rfl⟩
 ·obtain rfl:i=ms.length:=by omega
  rw[Tz rfl (by simp)];refine aB ?_;refine aJ2 ms rfl 2 rfl ?_;dsimp only[List.set];refine vI ?_;refine dG [] [] [0] (by simp) rfl (by decide) (by decide) fun q _ _ hfr=>?_;exact fS rfl rfl rfl fun w1 t=>⟨⟨_,_,⟨w1,q.Z⟩,rfl,rfl,⟨⟨g3,gr,gw⟩,rfl,rfl⟩,t.newR (by simp) (by simp) (hfr (by simp) (by simp))⟩,t.below (by simp)⟩
end
section
structure aU where
 ck:List eN
 dm:List fU
 ln:List jX
 dv:List (dU×fD)
 wt:List (Option jA)
 aZ:Int
def hw0(s:aC):aU:=⟨s.aF.map xJ,s.domains.map fun _=>xF,s.aY.map fun _=>qB,s.aD.map fun d=>(Dn d,Ny),s.aD.map fun _=>none,0⟩
structure HL where
 h:Nat
 T:TL
 G:GL
 R:RL
 B:BL
 A:Option Addr
 c:Nat
 ds:List (FL×Nat)
def Iz(d:cH)(l:FL×Nat):List Value:=[iv d.clock,iv d.domain,iv d.reset,.int .u32 d.iH,.pointer (some ⟨l.1.f,0,none⟩),.pointer (some ⟨l.2,0,none⟩)]
def vE(ds:List cH)(ls:List (FL×Nat)):List (List Value):=List.zipWith Iz ds ls
def Qf(d:cH)(p:(FL×Nat)×(dU×fD)):HP:=HP.many [gQ p.1.1 d p.2.1,tB p.1.2 p.2.2]
def xD(ds:List cH)(ls:List (FL×Nat))(xs:List (dU×fD)):List HP:=List.zipWith Qf ds (ls.zip xs)
def jR(s:aC):List Int:=s.aD.map fun d=>(d.aR.length:Int)
def Vl(L:HL)(n:Nat):List Value:=[.pointer (some ⟨L.T.t,0,none⟩),.pointer (some ⟨L.G.t,0,none⟩),.pointer (some ⟨L.R.t,0,none⟩),.pointer (some ⟨L.B.b,0,none⟩),.slice L.A n L.c]
def dN(L:HL)(s:aC)(x:aU):HP:=HP.many [HP.aE L.h 203 (Vl L s.aD.length),oY L.T s x.ck,uM L.G s x.dm,oH L.R s x.ln,xV L.B (jR s) x.wt x.aZ,HP.own 210 6 (.slice L.A s.aD.length L.c) s.aD.length (vE s.aD L.ds).flatten,HP.many (xD s.aD L.ds x.dv)]
def aI7(s:aC)(v:Value)(hs:List HP)(_:Piece):Prop:=∃L:HL,v=.tuple #[.pointer (some ⟨L.h,0,none⟩),iv 0]∧hs=[dN L s (hw0 s)]∧L.T.fa.length=s.aF.length∧L.ds.length=s.aD.length
theorem Eu(s:aC):(jR s).length=s.aD.length:=by simp[jR]
theorem aOV{ds:List cH}{i:Nat}{d:cH}(hd:ds[i]? =some d){ls:List (FL×Nat)}(hl:ls.length=i)(l:FL×Nat):xD (ds.take (i+1)) (ls++[l]) ((ds.take (i+1)).map fun d=>(Dn d,Ny))=xD (ds.take i) ls ((ds.take i).map fun d=>(Dn d,Ny))++[Qf d (l,(Dn d,Ny))]:=by
 have hlt:i < ds.length:=wU hd
 rw[List.take_succ,hd,Option.toList_some,List.map_append];unfold xD;rw[List.zip_append (by simp;omega),List.zipWith_append (by simp;omega)];rfl
theorem aOU{ds:List cH}{i:Nat}{d:cH}(hd:ds[i]? =some d){ls:List (FL×Nat)}(hl:ls.length=i)(l:FL×Nat):(vE (ds.take (i+1)) (ls++[l])).flatten=(vE (ds.take i) ls).flatten++Iz d l:=by
 have hlt:i < ds.length:=wU hd
 rw[List.take_succ,hd,Option.toList_some];unfold vE;rw[List.zipWith_append (by simp;omega),List.flatten_append];simp
theorem qG{N:cE}{w0:World}{e:Env}{R:List Piece}{H:List HP}{K:Act→World→Prop}{p:HP}{ps:List HP}(h:XK N w0 K e R (HP.many (ps++[p])::H)):XK N w0 K e R (HP.many ps::p::H):=fun a w hr st=>
 (Xi (ps:=ps) (p:=p) h) a w hr (st.weak (fun _ h=>h) (fun i=>match i with
  | 0=>1
  | 1=>0
  | i+2=>i+2) (fun i j _ _ he=>by
   match i,j with
   | 0,0=>rfl
   | 0,1=>simp at he
   | 0,j+2=>simp at he
   | 1,0=>simp at he
   | 1,1=>rfl
   | 1,j+2=>simp at he
   | i+2,0=>simp at he
   | i+2,1=>simp at he
   | i+2,j+2=>simpa using he) (fun i p hi=>by
   match i,hi with
   | 0,hi=>simpa using hi
   | 1,hi=>simpa using hi
   | i+2,hi=>simpa using hi))
theorem aR3{N:cE}{w0:World}{e:Env}{R:List Piece}{H:List HP}{K:Act→World→Prop}(h:XK N w0 K e R (HP.many []::H)):XK N w0 K e R H:=nU (p:=HP.many []) (fun w=>⟨fun _ _=>False,fun i p hp=>by simp at hp,fun _ _ h=>h,fun _ _ _ _ h=>h.elim⟩) h
theorem aNQ(s:aC)(hH:s.dK)(A1 A2 A3 A4:Option Addr)(n1 k1 n2 k2 n3 k3 n4 k4:Nat)(w:World)(hW:iD w s A1 n1 A2 n2 A3 n3 A4 n4):
  Cz 48 #[.agg #[.slice A1 n1 k1,.slice A2 n2 k2,.slice A3 n3 k3,.slice A4 n4 k4]] w (fun y w'=>(∃v hs q,y=.returned v∧q.w=w'∧aI7 s v hs q∧fZ w hs q)∧Below w.heap.size w w'):=by
 have qW:=hH.t.nv
 obtain⟨rv,Pa,tW,tS⟩:=hW.dev;obtain⟨da,lC,rfl,hda⟩:=aDf Pa;subst tW;refine aO func48 ntmps48 ?_;refine aB ?_;refine bO fun g1=>?_;refine aB ?_;refine aS (fun w1 t=>Qs s A1 A2 A3 A4 n1 k1 n2 k2 n3 k3 _ k4 w1 (hW.le (t.started (by simp))) hH.t.Qr) ?_;refine aB ?_;refine eM (aIj s) (fun w1 t=>aQa s hH A1 A2 A3 A4 n1 k1 n2 k2 n3 k3 _ k4 w1 (hW.le (t.started (by simp)))) ?_;rintro _ _ q1 ⟨LT,rfl,rfl,hfa⟩ _;dsimp only[List.cons_append,List.nil_append];refine aB ?_;refine eM (aIE s) (fun w1 t=>aL7 s hH A1 A2 A3 A4 n1 k1 n2 k2 n3 k3 _ k4 w1 (hW.le (t.started (by simp)))) ?_;rintro _ _ q2 ⟨LG,rfl,rfl⟩ _;dsimp only[List.cons_append,List.nil_append];refine aB ?_;refine eM (aI5 s) (fun w1 t=>aKB s hH A1 A2 A3 A4 n1 k1 n2 k2 n3 k3 _ k4 w1 (hW.le (t.started (by simp)))) ?_;rintro _ _ q3 ⟨LR,rfl,rfl⟩ _;dsimp only[List.cons_append,List.nil_append];refine aB ?_;refine bO fun g2=>?_;refine aB ?_;refine lT (n:=s.aD.length) 8 (el:=3) (z:=iv 0) (by kernel_rfl) (by kernel_rfl) rfl rfl rfl (by omega) (by omega) (by decide) fun gm=>?_;refine aB ?_;refine lI 210 6 ?_;refine aR3 ?_;refine aT [0,1,2,3,4,5,6] rfl (by decide) (R':=[all w]) (by simp) ?_;refine bN [(56,iv 0),(55,iv s.aD.length),(54,.slice A4 s.aD.length k4),(10,.slice (some ⟨gm,0,none⟩) s.aD.length s.aD.length),(9,pt g2)] ?_;refine eV (fun m e R H=>∃(i:Nat) (A:Option Addr) (c:Nat) (ls:List (FL×Nat)),i≤s.aD.length∧ls.length=i∧m=s.aD.length - i∧e=[(56,iv i),(55,iv s.aD.length),(54,.slice A4 s.aD.length k4),(10,.slice (some ⟨gm,0,none⟩) s.aD.length s.aD.length),(9,pt g2)]∧R=[all w]∧H=[HP.many (xD (s.aD.take i) ls ((s.aD.take i).map fun d=>(Dn d,Ny))),HP.own 210 6 (.slice A i c) i (vE (s.aD.take i) ls).flatten,HP.aE gm 3 (aN (kH (jR s) ((jR s).map fun _=>0) i)),HP.aE g2 203 [.pointer (some ⟨LT.t,0,none⟩),.pointer (some ⟨LG.t,0,none⟩),.pointer (some ⟨LR.t,0,none⟩),.pointer none,.slice A i c],oH LR s (hw0 s).ln,uM LG s (hw0 s).dm,oY LT s (hw0 s).ck]) s.aD.length ⟨0,none,0,[],by omega,rfl,rfl,rfl,rfl,?_⟩ fun m e R H hI=>?_
 ·have:List.replicate s.aD.length (Value.int .i64 0)=aN (kH (jR s) ((jR s).map fun _=>0) 0):=by
   rw[Tw];refine List.ext_getElem? fun j=>?_;simp only[aN,jR,List.map_map,List.getElem?_replicate,List.getElem?_map]
   by_cases h:j < s.aD.length
   ·rw[if_pos h,List.getElem?_eq_getElem h];rfl
   ·rw[if_neg h,List.getElem?_eq_none (by omega)];rfl
  rw[this];rfl
 obtain⟨i,A,c,ls,hi,nO,rfl,rfl,rfl,rfl⟩:=hI
 have hml:=Eu s
 have Uv:=Ty (vs:=jR s) (old:=(jR s).map fun _=>0) (n:=s.aD.length) hml (by simp[jR]) hi
 refine aB ?_;refine aG rfl (fun hlt=>?_) (fun hge=>?_)
 ·have hlt:i < s.aD.length:=by omega
  obtain⟨d,hd⟩:=get_some hlt;obtain⟨⟨a1,a2⟩,ha⟩:=get_some (l:=da) (i:=i) (by omega);obtain⟨aCz,aGl⟩:=hda i d _ hd ha
  have hfit:=hH.t.aD i d hd
  obtain⟨b,off,hB,hro⟩:=aI.row tS (Yd (f:=yT) (es:=s.aD) (bs:=da) (sz:=6) lC (fun _ _=>rfl)).2 (Rz (f:=yT) hd ha) hlt;subst hB;refine aA ?_;refine kd (dat i (off+i*6)) ?_;refine aB ?_;refine bY fun g3=>?_
  have hmi:(jR s)[i]? =some (d.aR.length:Int):=by rw[jR,List.getElem?_map,hd];rfl
  have jS:(aN (kH (jR s) ((jR s).map fun _=>0) i)).length=s.aD.length:=by simp[aN,Uv]
  have lF:(aN (kH (jR s) ((jR s).map fun _=>0) i)).set i (iv d.aR.length)=aN (kH (jR s) ((jR s).map fun _=>0) (i+1)):=by
   rw[←Tx (by simp) hmi,aN,aN,List.map_set]
  refine aB ?_;refine eM (aIH d) (fun w1 t=>aLi d (by have:=hfit.2.2.2.2.2.2.2.2.1;omega) (fun r hr=>by have:=hfit.2.2.2.2.2.2.2.2.2.1 r hr;omega) a1.1 a1.2 w1 (aI.le aCz (t.le (by simp)))) ?_;rintro _ _ q1 ⟨LF,rfl,rfl⟩ _;dsimp only[List.cons_append,List.nil_append];refine aB ?_;refine aS (fun w1 t=>Tj LF d (Dn d) w1 (t.aCW 0 rfl)) ?_;refine aB ?_;rw[lF];refine aA ?_;refine iZ [2,3,4,5,6,7,8,9,10,11,12] ?_;refine bJ 0 ?_;refine bJ 1 ?_;refine bJ 13 ?_;refine aK 2 ?_;refine aK 3 ?_;refine aK 4 ?_;refine aK 5 ?_;refine aK 6 ?_;refine aK 7 ?_;refine aK 8 ?_;refine aK 9 ?_;refine aK 10 ?_;refine aK 11 ?_;refine aK 12 ?_;refine aL 14 ?_;refine eM (fun v hs _=>∃g,v=pt g∧hs=[HP.aE g 266 [iv 0,iv 0]]) (fun w1 t=>aLt w1) ?_;rintro _ _ q2 ⟨gq,rfl,rfl⟩ _;dsimp only[List.cons_append,List.nil_append];refine bB ?_;refine aL 15 ?_;refine kd (iG rfl) ?_;refine bB ?_;refine aL 16 ?_;refine eH fun g4=>?_;refine bB ?_ (hS:=fun _ h=>h.tail.bE.tail);refine aL 17 ?_;refine gY 5 6 48 1 (n':=i+1) (el:=210) (by kernel_rfl) (by kernel_rfl) (by decide) rfl rfl rfl (lV 0 rfl rfl) (by simp[Value.oneCell']) rfl (by omega) (by omega) (by decide) fun An cn=>?_;dsimp only[List.set];refine cI ?_;refine aL 18 ?_;refine bF ?_;refine cI ?_;refine aL 19 ?_;refine bF ?_;refine cI ?_;refine aL 20 ?_;refine eO rfl rfl ?_;dsimp only[List.set];refine cI ?_;refine dY ?_;refine aA ?_;refine aT [2,1,4,5,6,7,8,9,10] rfl (by decide) (R':=[all w]) (by simp) ?_;refine mR ?_;refine Xi ?_;refine bN [(56,iv (i+1:Nat)),(55,iv s.aD.length),(54,.slice (some ⟨b,off,none⟩) s.aD.length k4),(10,.slice (some ⟨gm,0,none⟩) s.aD.length s.aD.length),(9,pt g2)] ?_;exact gP (s.aD.length - (i+1)) (by omega) ⟨i+1,An,cn,ls++[(LF,gq)],hlt,by simp;omega,rfl,rfl,rfl,by rw[aOV hd nO,aOU hd nO];rfl⟩
 ·obtain rfl:i=s.aD.length:=by omega
  rw[Tz hml (by simp[jR])];rw[List.take_length];refine aB ?_
  refine eM (aIM (jR s)) (fun w1 t=>by
   have:=aQ6 (jR s) (by omega) (fun m hm=>by
    obtain⟨d,hd,rfl⟩:=List.mem_map.1 hm;obtain⟨j,hj⟩:=List.getElem?_of_mem hd
    have:=(hH.t.aD j d hj).2.2.2.2.2.2.2.2.1
    omega) (some ⟨gm,0,none⟩) s.aD.length w1
   rw[hml] at this
   exact this (t.uR (i:=2) rfl (by simp[aN,hml]))) ?_
  rintro _ _ q1 ⟨LB,rfl,rfl⟩ _;dsimp only[List.cons_append,List.nil_append];refine aB ?_;refine aT [4,7,6,5,0,2,1] rfl (by decide) (R':=[all w]) (by simp) ?_;refine mR ?_;refine qG ?_;refine qG ?_;refine qG ?_;refine qG ?_;refine qG ?_;dsimp only[List.cons_append,List.nil_append];refine dG [] [] [0] (by simp) rfl (by decide) (by decide) fun q _ _ hfr=>?_;exact fS rfl rfl rfl fun w1 t=>⟨⟨_,_,⟨w1,q.Z⟩,rfl,rfl,⟨⟨g2,LT,LG,LR,LB,A,c,ls⟩,rfl,by simp[dN,Vl,hw0,jR,Function.comp_def],hfa,nO⟩,t.newR (by simp) (by simp) (hfr (by simp) (by simp))⟩,t.below (by simp)⟩
end
section
structure cX(s:aC)(x:aU):Prop where
 ck:pH s x.ck
 dm:tF s x.dm
 ln:Ed s x.ln
 dv:x.dv.length=s.aD.length
 each:∀(i:Nat) (d:cH) (p:dU×fD),s.aD[i]? =some d→x.dv[i]? =some p→xS d p.1∧zH p.2
 wt:x.wt.length=s.aD.length
structure gA(L:HL)(s:aC):Prop where
 fa:L.T.fa.length=s.aF.length
 ds:L.ds.length=s.aD.length
structure tD(w:World)(L:HL)(s:aC)(x:aU):Prop where
 r0:dQ w L.h 0 (Vl L s.aD.length)
 tree:vJ w L.T s x.ck
 aCM:aID w L.G s x.dm
 lines:Ju w L.R s x.ln
 bus:Hf w L.B (jR s) x.wt x.aZ
 rows:aI (all w) 6 L.A s.aD.length (vE s.aD L.ds).flatten
 each:∀(i:Nat) (d:cH) (l:FL×Nat) (p:dU×fD),s.aD[i]? =some d→L.ds[i]? =some l→x.dv[i]? =some p→Cb w l.1 d p.1∧dQ w l.2 0 (Rs p.2)
theorem tD.below{w w':World}{L:HL}{s:aC}{x:aU}(h:tD w L s x)(hb:Below w.heap.size w w'):tD w' L s x:=
 ⟨h.r0.below hb,h.tree.below hb,Bw.below h.aCM hb,h.lines.below hb,h.bus.below hb,h.rows.le (kS hb),fun i d l p h1 h2 h3=>⟨(h.each i d l p h1 h2 h3).1.below hb,(h.each i d l p h1 h2 h3).2.below hb⟩⟩
theorem aI8{L:HL}{s:aC}{x:aU}{F:Nat→Prop}{w:World}(h:(dN L s x).sat F w)(hF:∀b,F b→b < w.heap.size)(hL:gA L s)(hok:cX s x):tD w L s x:=by
 obtain⟨G,g1,g2,_⟩:=h
 have hl:∀i b,G i b→b < w.heap.size:=fun i b hb=>hF b (g2 i b hb)
 obtain⟨A',c',he,hs⟩:=zG (Y:=fun b=>b < w.heap.size) (g1 5 _ rfl) (hl 5)
 injection he with he
 subst he;refine⟨uG (g1 0 _ rfl).2,aIk (g1 1 _ rfl) (hl 1) hL.fa hok.ck,aIx (g1 2 _ rfl) (hl 2),aI6 (g1 3 _ rfl),aIN (g1 4 _ rfl),hs,fun i d l p h1 h2 h3=>?_⟩;obtain⟨G',k1,k2,_⟩:=g1 6 _ rfl
 have hz:(xD s.aD L.ds x.dv)[i]? =some (Qf d (l,p)):=by
  have hq:(L.ds.zip x.dv)[i]? =some (l,p):=List.getElem?_zip_eq_some.2 ⟨h2,h3⟩
  rw[xD,List.getElem?_zipWith,h1,hq]
 have hj:∀b,G' i b→b < w.heap.size:=fun b hb=>hl 6 b (k2 i b hb)
 obtain⟨G2,m1,m2,_⟩:=k1 i _ hz;exact⟨Xy (m1 0 _ rfl) (fun b hb=>hj b (m2 0 b hb)),uG (m1 1 _ rfl).2⟩
section
variable{N:cE}{w0 w:World}{e:Env}{R:List Piece}{H:List HP}{K:Act→World→Prop}{L:HL}{s:aC}{x:aU}
theorem St.mA(t:St w0 R H w)(i:Nat)(hi:H[i]? =some (dN L s x))(hL:gA L s)(hok:cX s x):tD w L s x:=by
 obtain⟨F,h1,h2,_⟩:=t.chunk hi;exact aI8 h1 h2 hL hok
end
section
variable(L:HL)(s:aC)(x:aU)(w:World)
theorem Ba(hR:tD w L s x):Cz 150 #[.pointer (some ⟨L.h,0,none⟩)] w (Rt (.bool true) w):=by
 have k0:=hR.r0.at_ (j:=0) rfl
 have k1:=hR.r0.at_ (j:=1) rfl
 have k2:=hR.r0.at_ (j:=2) rfl
 have k3:=hR.r0.at_ (j:=3) rfl
 refine aO func150 ntmps150 ?_;refine aA ?_;exact dH
theorem Pj(i:Int)(hR:tD w L s x):Cz 146 #[.pointer (some ⟨L.h,0,none⟩),iv i] w (Rt (.bool (bZ s.aD.length i)) w):=by
 have k0:=hR.r0.at_ (j:=4) rfl
 refine aO func146 ntmps146 ?_;refine aA ?_;refine aS (fun w1 t=>Ba L s x w1 (hR.below (t.below (by simp)))) ?_;refine aA ?_;refine cG (t:=11) rfl (fun h=>?_) (fun h=>?_)
 ·refine aA ?_;refine iS (by simp) ?_;unfold bZ
  congr 1
  simp;omega
 ·refine aA ?_;refine iS (by simp) ?_
  have:bZ s.aD.length i=false:=decide_eq_false (by omega)
  rw[this]
theorem aN8(i:Nat)(hi:i < s.aD.length)(hR:tD w L s x):Cz 136 #[.pointer (some ⟨L.h,0,none⟩),iv (i:Int)] w (Rt (iv (oK x.wt i:Nat)) w):=by
 have k0:=hR.r0.at_ (j:=3) rfl
 have hin:bZ s.aD.length (i:Int)=true:=decide_eq_true (by omega)
 refine aO func136 ntmps136 ?_;refine aA ?_;refine aS (fun w1 t=>Pj L s x w1 i (hR.below (t.below (by simp)))) ?_;rw[hin];refine aA ?_;refine aS (fun w1 t=>aH2 L.B (jR s) x.wt x.aZ i (by rw[Eu];exact hi) w1 (hR.bus.below (t.below (by simp)))) ?_;refine aA ?_;exact dH
theorem aCA(hok:tF s x.dm)(i:Int)(hR:tD w L s x):Cz 172 #[.pointer (some ⟨L.h,0,none⟩),iv i] w (Rt (.int .u8 (rX x.dm i)) w):=by
 have k0:=hR.r0.at_ (j:=1) rfl
 refine aO func172 ntmps172 ?_;refine aA ?_;refine aS (fun w1 t=>Ba L s x w1 (hR.below (t.below (by simp)))) ?_;refine aA ?_;refine aS (fun w1 t=>aFr L.G s x.dm hok i w1 (Bw.below hR.aCM (t.below (by simp)))) ?_;refine aA ?_;exact dH
theorem aNC(i:Int)(hR:tD w L s x):Cz 180 #[.pointer (some ⟨L.h,0,none⟩),iv i] w (Rt (.bool (Il x.ln i)) w):=by
 have k0:=hR.r0.at_ (j:=2) rfl
 refine aO func180 ntmps180 ?_;refine aA ?_;refine aS (fun w1 t=>Ba L s x w1 (hR.below (t.below (by simp)))) ?_;refine aA ?_;refine aS (fun w1 t=>aFa L.R s x.ln i w1 (hR.lines.below (t.below (by simp)))) ?_;refine aA ?_;exact dH
end
end
section
theorem aNf{s:aC}(h:s.dK):cX s (hw0 s):=by
 refine⟨⟨by simp[hw0],fun x hx=>?_⟩,⟨by simp[hw0],fun x hx=>?_,fun x hx=>?_⟩,⟨by simp[hw0],fun x hx=>?_⟩,by simp[hw0],fun i d p hd hp=>?_,by simp[hw0]⟩
 ·obtain⟨c,hc,rfl⟩:=List.mem_map.1 hx;obtain⟨i,hi⟩:=List.getElem?_of_mem hc
  have:=(h.t.aF i c hi).2
  unfold xJ;dsimp only;split
  ·omega
  ·omega
 ·obtain⟨c,hc,rfl⟩:=List.mem_map.1 hx;simp[xF]
 ·obtain⟨c,hc,rfl⟩:=List.mem_map.1 hx;simp[xF]
 ·obtain⟨c,hc,rfl⟩:=List.mem_map.1 hx;simp[qB]
 ·simp only[hw0,List.getElem?_map,hd,Option.map_some] at hp;cases hp
  have hf:=h.t.aD i d hd
  refine⟨⟨by simp[Dn],by simp[Dn],fun v hv=>?_,fun v hv=>?_⟩,by simp[zH,Ny]⟩
  ·obtain⟨r,hr,rfl⟩:=List.mem_map.1 hv
   have:=hf.2.2.2.2.2.2.2.2.2.1 r hr
   omega
  ·simp only[Dn,List.mem_map] at hv;obtain⟨r,_,rfl⟩:=hv;omega
theorem aEl{s:aC}(h:s.wN):(jJ s).sm:=by
 have h1:=h.nc
 have h2:=h.nd
 have h3:=h.nr
 exact⟨by simp[jJ];omega,by simp[jJ];omega,by simp[jJ];omega⟩
def nM:aC:=⟨[],[],[],[]⟩
theorem aJZ:nM.small:=⟨by decide,by decide,by decide,by decide,(fun c hc=>by cases hc),(fun c hc=>by cases hc)⟩
theorem aKa(w:World):iD w nM none 0 none 0 none 0 none 0:=
 ⟨⟨[],trivial,rfl,aI.nil _ _⟩,⟨[],trivial,rfl,aI.nil _ _⟩,⟨[],trivial,rfl,aI.nil _ _⟩,⟨[],trivial,rfl,aI.nil _ _⟩,aJZ⟩
end
section
theorem wI{α:Type}{l:List α}{i:Nat}{x:α}(h:l[i]? =some x):l.set i x=l:=by
 refine List.ext_getElem? fun j=>?_;rw[List.getElem?_set]
 by_cases he:i=j
 ·subst he;rw[if_pos rfl,if_pos (List.getElem?_eq_some_iff.1 h).1,h]
 ·rw[if_neg he]
def rW(s:aC)(st:List eN)(i:Nat):List Value:=(List.range s.aF.length).map fun j=>.bool (decide (j < i)&&runs s st j)
theorem aLp(s:aC)(st:List eN):List.replicate s.aF.length (Value.bool false)=rW s st 0:=by
 refine List.ext_getElem? fun j=>?_;rw[rW,List.getElem?_replicate,List.getElem?_map]
 by_cases hl:j < s.aF.length
 ·rw[List.getElem?_range hl];simp[hl]
 ·rw[List.getElem?_eq_none (l:=List.range s.aF.length) (by simp;omega)];simp[hl]
theorem aLq(s:aC)(st:List eN)(i:Nat):(rW s st i).set i (.bool (runs s st i))=rW s st (i+1):=by
 refine List.ext_getElem? fun j=>?_;simp only[rW,List.getElem?_set,List.getElem?_map,List.length_map,List.length_range]
 by_cases he:i=j
 ·subst he
  by_cases hl:i < s.aF.length
  ·rw[if_pos rfl,if_pos hl,List.getElem?_range hl];simp
  ·rw[if_pos rfl,if_neg hl,List.getElem?_eq_none (by simp;omega)];rfl
 ·rw[if_neg he]
  by_cases hl:j < s.aF.length
  ·rw[List.getElem?_range hl]
   have:decide (j < i)=decide (j < i+1):=by simp;omega
   simp[this]
  ·rw[List.getElem?_eq_none (by simp;omega)];rfl
theorem aLr{s:aC}{st:List eN}{j:Nat}(h:j < s.aF.length):(rW s st s.aF.length)[j]? =some (.bool (runs s st j)):=by
 simp[rW,h]
def nW(s:aC)(st:List eN)(i:Nat):List eN:=(mJ s st).take i++st.drop i
theorem aMy(s:aC)(st:List eN):nW s st 0=st:=by simp[nW]
theorem aM2{s:aC}{st:List eN}(hok:pH s st):nW s st s.aF.length=mJ s st:=by
 have hl:=hok.len
 rw[nW,List.drop_eq_nil_of_le (by omega),List.append_nil,List.take_of_length_le (by simp[mJ];omega)]
theorem aM1{s:aC}{st:List eN}(hok:pH s st){i:Nat}(hi:i < s.aF.length):(nW s st i)[i]? =st[i]? :=by
 have hl:=hok.len
 have:((mJ s st).take i).length=i:=by simp[mJ];omega
 rw[nW,List.getElem?_append_right (by omega),this,Nat.sub_self,List.getElem?_drop,Nat.add_zero]
theorem aCb{s:aC}{st:List eN}(hok:pH s st){i:Nat}(hi:i≤s.aF.length):(nW s st i).length=s.aF.length:=by
 have hl:=hok.len
 simp[nW,mJ];omega
theorem aMz{s:aC}{st:List eN}(hok:pH s st){i:Nat}{c:eW}{x:eN}(hc:s.aF[i]? =some c)(hx:st[i]? =some x):(nW s st i).set i (zT s st c x)=nW s st (i+1):=by
 have hl:=hok.len
 have hi:=(List.getElem?_eq_some_iff.1 hc).1
 have ht:(mJ s st)[i]? =some (zT s st c x):=by rw[mJ,List.getElem?_zipWith,hc,hx]
 have sF:(mJ s st).length=s.aF.length:=by simp[mJ];omega
 refine List.ext_getElem? fun j=>?_;rw[List.getElem?_set]
 by_cases he:i=j
 ·subst he;rw[if_pos rfl,if_pos (by rw[aCb hok (by omega)];exact hi),nW,List.getElem?_append_left (by rw[List.length_take];omega),List.getElem?_take_of_lt (by omega),ht]
 ·rw[if_neg he,nW,nW];rcases Nat.lt_or_ge j i with hj | hj
  ·rw[List.getElem?_append_left (by rw[List.length_take];omega),List.getElem?_append_left (by rw[List.length_take];omega),List.getElem?_take_of_lt hj,List.getElem?_take_of_lt (by omega)]
  ·rw[List.getElem?_append_right (by rw[List.length_take];omega),List.getElem?_append_right (by rw[List.length_take];omega),List.getElem?_drop,List.getElem?_drop,List.length_take,List.length_take]
   congr 1
   omega
theorem aJF{s:aC}{st:List eN}(hH:s.dK)(hok:pH s st){i:Nat}{c:eW}{x:eN}(hc:s.aF[i]? =some c)(hx:x∈st):0≤(zT s st c x).left∧(zT s st c x).left≤3:=by
 have h1:=hok.left x hx
 have h2:=(hH.t.aF i c hc).2
 have h3:0≤c.lock∧c.lock≤3:=by omega
 unfold zT;split
 ·split
  ·exact h3
  ·split
   ·dsimp only;omega
   ·exact h1
 ·exact h1
theorem aB4{s:aC}{st:List eN}(hH:s.dK)(hok:pH s st):pH s (mJ s st):=by
 have hl:=hok.len
 refine⟨by simp[mJ];omega,fun x hx=>?_⟩;obtain⟨j,hj⟩:=List.getElem?_of_mem hx;rw[mJ,List.getElem?_zipWith] at hj;cases hc:s.aF[j]? with
 | none=>rw[hc] at hj;cases hj
 | some c =>
  cases hy:st[j]? with
  | none=>rw[hc,hy] at hj;cases hj
  | some y=>
   rw[hc,hy] at hj;cases hj;exact aJF hH hok hc (List.mem_of_getElem? hy)
theorem aM0{s:aC}{st:List eN}(hH:s.dK)(hok:pH s st){i:Nat}(hi:i≤s.aF.length):pH s (nW s st i):=⟨aCb hok hi,fun x hx=>by
 rcases List.mem_append.1 hx with h | h
 ·exact(aB4 hH hok).left x (List.mem_of_mem_take h)
 ·exact hok.left x (List.mem_of_mem_drop h)⟩
theorem aPW(L:TL)(s:aC)(st:List eN)(hH:s.dK)(hfl:L.fa.length=s.aF.length)(hok:pH s st)(w:World)(F:Nat→Prop)(hp:(oY L s st).sat F w)(hF:∀b,F b→b < w.heap.size):
  Cz 154 #[.pointer (some ⟨L.t,0,none⟩)] w (Wr (.tuple #[]) (oY L s (mJ s st)) w F):=by
 have hnc:=hH.t.nc
 have hl:=hok.len
 refine cT func154 ntmps154 hp hF ?_
 have aC1:Rd w [⟨w,fun b=>b < w.heap.size∧¬F b⟩] [oY L s st] L.t 0 (.slice L.A s.aF.length L.c):=Rd.tree 0 rfl hfl hok
 refine aA ?_;refine lT (n:=s.aF.length) 1 (el:=4) (z:=.bool false) (by kernel_rfl) (by kernel_rfl) rfl rfl rfl (by omega) (by omega) (by decide) fun g1=>?_
 have aSv:Rd w [⟨w,fun b=>b < w.heap.size∧¬F b⟩] [HP.aE g1 4 (List.replicate s.aF.length (.bool false)),oY L s st] L.t 0 (.slice L.A s.aF.length L.c):=Rd.tree 1 rfl hfl hok
 refine aA ?_;rw[aLp s st];refine bN [(19,iv 0),(18,iv s.aF.length),(2,.slice (some ⟨g1,0,none⟩) s.aF.length s.aF.length),(0,.pointer (some ⟨L.t,0,none⟩))] ?_;refine eV (fun m e R H=>∃i:Nat,i≤s.aF.length∧m=s.aF.length - i∧e=[(19,iv i),(18,iv s.aF.length),(2,.slice (some ⟨g1,0,none⟩) s.aF.length s.aF.length),(0,.pointer (some ⟨L.t,0,none⟩))]∧R=[⟨w,fun b=>b < w.heap.size∧¬F b⟩]∧H=[HP.aE g1 4 (rW s st i),oY L s st]) s.aF.length ⟨0,by omega,rfl,rfl,rfl,rfl⟩ fun m e R H hI=>?_;obtain⟨i,hi,rfl,rfl,rfl,rfl⟩:=hI;refine aA ?_;refine aG rfl (fun hlt=>?_) (fun hge=>?_)
 ·have hlt:i < s.aF.length:=by omega
  have nY:(rW s st i).length=s.aF.length:=by simp[rW]
  refine aA ?_;refine aS (fun w1 t=>Wt L s st hH i w1 (t.aB2 1 rfl hfl hok)) ?_;rw[show tK s st (i:Int)=runs s st i by simp[tK,bZ,hlt]];refine aB ?_;rw[aLq];exact eR (s.aF.length - (i+1)) ⟨i+1,hlt,rfl,rfl,rfl,rfl⟩
 ·obtain rfl:i=s.aF.length:=by omega
  have aSu:Rd w [⟨w,fun b=>b < w.heap.size∧¬F b⟩] [HP.aE g1 4 (rW s st s.aF.length),oY L s st] L.t 0 (.slice L.A s.aF.length L.c):=Rd.tree 1 rfl hfl hok
  refine aA ?_;refine bN [(34,iv 0),(33,iv s.aF.length),(2,.slice (some ⟨g1,0,none⟩) s.aF.length s.aF.length),(0,.pointer (some ⟨L.t,0,none⟩))] ?_;refine eV (fun m e R H=>∃i:Nat,i≤s.aF.length∧m=s.aF.length - i∧e=[(34,iv i),(33,iv s.aF.length),(2,.slice (some ⟨g1,0,none⟩) s.aF.length s.aF.length),(0,.pointer (some ⟨L.t,0,none⟩))]∧R=[⟨w,fun b=>b < w.heap.size∧¬F b⟩]∧H=[HP.aE g1 4 (rW s st s.aF.length),oY L s (nW s st i)]) s.aF.length ⟨0,by omega,rfl,rfl,rfl,by rw[aMy]⟩ fun m e R H hI=>?_;obtain⟨i,hi,rfl,rfl,rfl,rfl⟩:=hI;refine aA ?_;refine aG rfl (fun hlt=>?_) (fun hge=>?_)
  ·have hlt:i < s.aF.length:=by omega
   obtain⟨c,hc⟩:=get_some hlt;obtain⟨a,ha⟩:=get_some (l:=L.fa) (i:=i) (by omega);obtain⟨x,hx⟩:=get_some (l:=st) (i:=i) (by omega)
   have Ut:=aM0 hH hok hi
   have hml:=aCb hok hi
   have Ll:(nW s st i)[i]? =some x:=by rw[aM1 hok hlt];exact hx
   obtain⟨fN,iN⟩:=aBV hfl Ut
   have hlx:=hok.left x (List.mem_of_getElem? hx)
   have nY:(rW s st s.aF.length).length=s.aF.length:=by simp[rW]
   have hpq:(jQ s L.fa (nW s st i)).set i (qA c a (zT s st c x))=jQ s L.fa (nW s st (i+1)):=by rw[aF3 hc ha (by omega),aMz hok hc hx]
   refine aHX 1 rfl (by omega) fun g cs hA h1 h2 h3 h4=>?_;dsimp only[List.set];rw[hA]
   have hs:=Dm h2 fN iN (Oc hc ha Ll)
   have hu:=sX.refl cs (i*11) 11
   have hrd:Rd w [⟨w,fun b=>b < w.heap.size∧¬F b⟩] [HP.aE g 251 cs,HP.aE g1 4 (rW s st s.aF.length),HP.many [HP.aE L.t 249 [.slice (some ⟨g,0,none⟩) s.aF.length L.c],bX,HP.bU (rL s L.fa) (rL.le (s:=s) (fa:=L.fa))]] L.t 0 (.slice (some ⟨g,0,none⟩) s.aF.length L.c):=aSf 2 0 rfl rfl rfl
   refine aA ?_;refine kd (dat i (i*11)) ?_;obtain⟨hsrc,hfit⟩:=hH.t.aF i c hc;obtain⟨kd,src,rate,mul,dv,lock⟩:=c;obtain⟨on,left⟩:=x;dsimp only at hfit hsrc hlx;dsimp only[qA] at hs
   have Ui:kd≠112∨on=false→jQ s L.fa (nW s st i)=jQ s L.fa (nW s st (i+1)):=fun hh=>by
    rw[←hpq]
    have:zT s st ⟨kd,src,rate,mul,dv,lock⟩ ⟨on,left⟩=⟨on,left⟩:=by
     unfold zT;rw[if_neg];rintro⟨h1,h2⟩;rcases hh with hh | hh
     ·exact hh h1
     ·rw[hh] at h2;cases h2
    rw[this,wI (Oc hc ha Ll)]
   rcases hfit with⟨rfl,_⟩ | ⟨rfl,qV,_⟩ | ⟨rfl,_⟩ | ⟨rfl,_⟩ | ⟨rfl,_⟩
   ·rw[Ui (.inl (by decide))] at h2;refine aA ?_;refine lJ ?_;refine iY ?_;refine aA ?_;refine zA 1 hA h1 h2 h3 h4 rfl ?_;exact eR (s.aF.length - (i+1)) ⟨i+1,hlt,rfl,rfl,rfl,rfl⟩
   ·cases on
    ·rw[Ui (.inr rfl)] at h2;refine aA ?_;refine lJ ?_;refine iY ?_;refine aA ?_;refine zA 1 hA h1 h2 h3 h4 rfl ?_;exact eR (s.aF.length - (i+1)) ⟨i+1,hlt,rfl,rfl,rfl,rfl⟩
    ·obtain⟨f,fs,hf⟩:∃(f:Nat) (fs:List Int),src=(f:Int)::fs:=by
      cases hs0:src with
      | nil=>rw[hs0] at qV;simp at qV
      | cons f fs=>exact⟨f.toNat,fs,by have:=(hsrc f (by rw[hs0];simp)).1;rw[Int.toNat_of_nonneg this]⟩
     have Ln:f < i:=by have:=(hsrc f (by rw[hf];simp)).2;omega
     subst hf
     have hrun:=aLr (s:=s) (st:=st) (j:=f) (by omega)
     have cR:Rd w [⟨w,fun b=>b < w.heap.size∧¬F b⟩] [HP.aE g 251 cs,HP.aE g1 4 (rW s st s.aF.length),HP.many [HP.aE L.t 249 [.slice (some ⟨g,0,none⟩) s.aF.length L.c],bX,HP.bU (rL s L.fa) (rL.le (s:=s) (fa:=L.fa))]] g1 f (.bool (runs s st f)):=Rd.aE 1 rfl hrun
     refine aA ?_;refine aS (fun w1 t=>Qq L s (nW s st i) i f _ fs w1 (t.aJE 0 2 rfl rfl hA h2 hfl Ut) hc rfl) ?_;refine aB ?_
     have sG:zT s st ⟨112,(f:Int)::fs,rate,mul,dv,lock⟩ ⟨true,left⟩=if runs s st f=false then⟨true,lock⟩ else if 0 < left then⟨true,left - 1⟩ else⟨true,left⟩:=by
      simp[zT,aEE]
     rw[sG] at hpq;cases Fa:runs s st f
     ·rw[Fa] at cR;rw[if_pos Fa] at hpq
      have hs1:=hs.set 7 (iv lock) (by simp) (by omega)
      have tR:=hu.set 7 (iv lock) (by decide)
      have gF:=Bj (r':=qA ⟨112,(f:Int)::fs,rate,mul,dv,lock⟩ a ⟨true,lock⟩) h2 fN iN hlt (by omega) rfl hs1 tR
      rw[hpq] at gF;refine aA ?_;refine zA 1 hA (by simpa using h1) gF h3 h4 rfl ?_;exact eR (s.aF.length - (i+1)) ⟨i+1,hlt,rfl,rfl,rfl,rfl⟩
     ·rw[Fa] at cR;rw[if_neg (by rw[Fa];decide)] at hpq;refine aA ?_;refine aG rfl (fun hp=>?_) (fun hp=>?_)
      ·rw[if_pos hp] at hpq
       have hs1:=hs.set 7 (iv (left - 1)) (by simp) (by omega)
       have tR:=hu.set 7 (iv (left - 1)) (by decide)
       have gF:=Bj (r':=qA ⟨112,(f:Int)::fs,rate,mul,dv,lock⟩ a ⟨true,left - 1⟩) h2 fN iN hlt (by omega) rfl hs1 tR
       rw[hpq] at gF;refine aA ?_;refine zA 1 hA (by simpa using h1) gF h3 h4 rfl ?_;exact eR (s.aF.length - (i+1)) ⟨i+1,hlt,rfl,rfl,rfl,rfl⟩
      ·rw[if_neg hp,wI (Oc hc ha Ll)] at hpq;rw[hpq] at h2;refine aA ?_;refine lJ ?_;refine iY ?_;refine aA ?_;refine zA 1 hA h1 h2 h3 h4 rfl ?_;exact eR (s.aF.length - (i+1)) ⟨i+1,hlt,rfl,rfl,rfl,rfl⟩
   ·rw[Ui (.inl (by decide))] at h2;refine aA ?_;refine lJ ?_;refine iY ?_;refine aA ?_;refine zA 1 hA h1 h2 h3 h4 rfl ?_;exact eR (s.aF.length - (i+1)) ⟨i+1,hlt,rfl,rfl,rfl,rfl⟩
   ·rw[Ui (.inl (by decide))] at h2;refine aA ?_;refine lJ ?_;refine iY ?_;refine aA ?_;refine zA 1 hA h1 h2 h3 h4 rfl ?_;exact eR (s.aF.length - (i+1)) ⟨i+1,hlt,rfl,rfl,rfl,rfl⟩
   ·rw[Ui (.inl (by decide))] at h2;refine aA ?_;refine lJ ?_;refine iY ?_;refine aA ?_;refine zA 1 hA h1 h2 h3 h4 rfl ?_;exact eR (s.aF.length - (i+1)) ⟨i+1,hlt,rfl,rfl,rfl,rfl⟩
  ·obtain rfl:i=s.aF.length:=by omega
   rw[aM2 hok];refine aA ?_;exact fA 1 hF
end
section
section
variable{N:cE}{w0 w:World}{e:Env}{R:List Piece}{H:List HP}{K:Act→World→Prop}{L:RL}{s:aC}{st:List jX}
theorem aD8(i:Nat)(hi:H[i]? =some (oH L s st))(h:XK N w0 K e R (HP.map L.g (mX s st)::HP.aE L.t 259 [.map (some L.g)]::H.set i (HP.many [bX,bX]))):XK N w0 K e R H:=by
 have hlt:=wU hi
 refine qF i 0 hi rfl ?_;refine qF (i+1) 1 (by rw[List.getElem?_cons_succ,List.getElem?_set_self hlt]) rfl ?_
 simpa[List.set_cons_succ,List.set_set] using h
theorem Ri(i:Nat)(hi:H[i]? =some (HP.many [bX,bX]))(h:XK N w0 K e R (H.set i (oH L s st))):XK N w0 K e R (HP.map L.g (mX s st)::HP.aE L.t 259 [.map (some L.g)]::H):=by
 have hlt:=wU hi
 refine qH (i+1) 1 (by rw[List.getElem?_cons_succ];exact hi) rfl ?_;dsimp only[List.set];refine qH i 0 (by rw[List.getElem?_set_self hlt]) rfl ?_
 simpa[List.set_set,oH] using h
end
theorem aKC(L:RL)(s:aC)(st:List jX)(hok:Ed s st)(i:Int)(w:World)(F:Nat→Prop)(hp:(oH L s st).sat F w)(hF:∀b,F b→b < w.heap.size):
  Cz 211 #[.pointer (some ⟨L.t,0,none⟩),iv i] w (Wr (iv (rA s st i).1) (oH L s (rA s st i).2) w F):=by
 have hl:=hok.len
 cases hi:bZ st.length i
 ·have hr:rA s st i=(4,st):=by simp[rA,hi]
  have hv:sM s st i=iQ 0 ⟨0,false,false⟩:=by simp[sM,hi]
  rw[hr];refine cT func211 ntmps211 hp hF ?_;refine aA ?_;refine aS (fun w1 t=>Tf L s st i w1 (t.On 0 rfl)) ?_;rw[hi,hv];unfold iQ;refine aA ?_;refine bY fun g1=>?_;refine aA ?_;exact bP 1 hF
 ·obtain⟨n,rfl⟩:∃n:Nat,i=n:=⟨i.toNat,by have:=of_decide_eq_true hi;omega⟩
  have hlt:n < st.length:=by have:=of_decide_eq_true hi;omega
  obtain⟨r,cR⟩:=get_some (l:=s.aY) (i:=n) (by omega);obtain⟨x,hx⟩:=get_some hlt
  have hrd:s.aY.getD n 0=r:=by rw[List.getD_eq_getElem?_getD,cR];rfl
  have hr:rA s st (n:Int)=(0,st.set n ⟨r,true,false⟩):=by simp[rA,hi,cR]
  have hv:sM s st (n:Int)=iQ r x:=by simp[sM,hi,List.getD_eq_getElem?_getD,cR,hx]
  rw[hr];refine cT func211 ntmps211 hp hF ?_;refine aA ?_;refine aS (fun w1 t=>Tf L s st n w1 (t.On 0 rfl)) ?_;rw[hi,hv];unfold iQ;refine aA ?_;refine bY fun g1=>?_;refine aA ?_;refine aD8 1 rfl ?_;dsimp only[List.set];refine qI 6 (by kernel_rfl) (by kernel_rfl) ?_;refine bQ 0 ?_;refine bQ 1 ?_;refine bQ 2 ?_;refine bQ 3 ?_;refine bQ 4 ?_;refine bQ 5 ?_;refine cK 6 ?_;refine Hg (kt:=3) (et:=261) (kd:=.i64) (l:=mX s st) (v:=iQ r ⟨r,true,false⟩) 0 (by kernel_rfl) (by kernel_rfl) rfl rfl rfl rfl ?_;rw[aBX hrd hlt];dsimp only[List.set];refine eS ?_;refine kL ?_;refine Ri 1 rfl ?_;refine aA ?_;exact bP 1 hF
theorem aKA(L:RL)(s:aC)(st:List jX)(hok:Ed s st)(i:Int)(w:World)(F:Nat→Prop)(hp:(oH L s st).sat F w)(hF:∀b,F b→b < w.heap.size):
  Cz 210 #[.pointer (some ⟨L.t,0,none⟩),iv i] w (Wr (iv (wJ st i).1) (oH L s (wJ st i).2) w F):=by
 have hl:=hok.len
 cases hi:bZ st.length i
 ·have hr:wJ st i=(4,st):=by simp[wJ,hi]
  have hv:sM s st i=iQ 0 ⟨0,false,false⟩:=by simp[sM,hi]
  rw[hr];refine cT func210 ntmps210 hp hF ?_;refine aA ?_;refine aS (fun w1 t=>Tf L s st i w1 (t.On 0 rfl)) ?_;rw[hi,hv];unfold iQ;refine aA ?_;refine bY fun g1=>?_;refine aA ?_;exact bP 1 hF
 ·obtain⟨n,rfl⟩:∃n:Nat,i=n:=⟨i.toNat,by have:=of_decide_eq_true hi;omega⟩
  have hlt:n < st.length:=by have:=of_decide_eq_true hi;omega
  obtain⟨r,cR⟩:=get_some (l:=s.aY) (i:=n) (by omega);obtain⟨x,hx⟩:=get_some hlt
  have hrd:s.aY.getD n 0=r:=by rw[List.getD_eq_getElem?_getD,cR];rfl
  have hr:wJ st (n:Int)=if x.held=false then(6,st) else(0,st.set n ⟨x.left,x.held,true⟩):=by simp[wJ,hi,hx]
  have hv:sM s st (n:Int)=iQ r x:=by simp[sM,hi,List.getD_eq_getElem?_getD,cR,hx]
  rw[hr];refine cT func210 ntmps210 hp hF ?_;refine aA ?_;refine aS (fun w1 t=>Tf L s st n w1 (t.On 0 rfl)) ?_;rw[hi,hv];obtain⟨left,held,wanted⟩:=x;unfold iQ;refine aA ?_;refine bY fun g1=>?_;cases held
  ·refine aA ?_;exact bP 1 hF
  ·refine aA ?_;refine aD8 1 rfl ?_;dsimp only[List.set];refine qI 6 (by kernel_rfl) (by kernel_rfl) ?_;refine bQ 0 ?_;refine bQ 1 ?_;refine bQ 2 ?_;refine bQ 3 ?_;refine bQ 4 ?_;refine bQ 5 ?_;refine cK 6 ?_;refine Hg (kt:=3) (et:=261) (kd:=.i64) (l:=mX s st) (v:=iQ r ⟨left,true,true⟩) 0 (by kernel_rfl) (by kernel_rfl) rfl rfl rfl rfl ?_;rw[aBX hrd hlt];dsimp only[List.set];refine eS ?_;refine kL ?_;refine Ri 1 rfl ?_;refine aA ?_;exact bP 1 hF
end
section
theorem aMF{α:Type}(f:α→α)(st:List α){i:Nat}{x:α}(hx:st[i]? =some x)(hs:f x=x):(st.map f).take i++st.drop i=(st.map f).take (i+1)++st.drop (i+1):=by
 have h1:=aBY f st hx
 rw[hs,aEL (by rw[aBZ f st (List.getElem?_eq_some_iff.1 hx).1];exact hx)] at h1;exact h1
theorem aK9(L:RL)(s:aC)(st:List jX)(hH:s.dK)(hok:Ed s st)(w:World)(F:Nat→Prop)(hp:(oH L s st).sat F w)(hF:∀b,F b→b < w.heap.size):
  Cz 157 #[.pointer (some ⟨L.t,0,none⟩)] w (fun y w'=>∃a:Option Addr×Nat×Nat,y=.returned (.slice a.1 a.2.1 a.2.2)∧True∧∃F',(oH L s (Hl st)).sat F' w'∧iC w w' F F'):=by
 have hl:=hok.len
 have iN:=hH.t.nr
 refine cT func157 ntmps157 hp hF ?_
 have aC1:Rd w [⟨w,fun b=>b < w.heap.size∧¬F b⟩] [oH L s st] L.t 0 (.map (some L.g)):=fun w1 t=>(t.On 0 rfl).r0.2
 refine aA ?_;refine kd (aPq (kt:=3) (et:=261) (l:=mX s st) (by kernel_rfl) rfl (fun w1 t=>(t.On 0 rfl).m)) ?_;rw[show(mX s st).length=st.length by simp[mX]];refine aA ?_;refine lI 3 1 ?_;refine bN [(14,iv 0),(13,iv st.length),(3,sn),(0,.pointer (some ⟨L.t,0,none⟩))] ?_;refine eV (fun m e R H=>∃(i n:Nat) (A:Option Addr) (k:Nat) (xs:List Value),i≤st.length∧n≤i∧m=st.length - i∧e=[(14,iv i),(13,iv st.length),(3,.slice A n k),(0,.pointer (some ⟨L.t,0,none⟩))]∧R=[⟨w,fun b=>b < w.heap.size∧¬F b⟩]∧H=[HP.own 3 1 (.slice A n k) n xs,oH L s ((st.map mU).take i++st.drop i)]) st.length ⟨0,0,none,0,[],by omega,by omega,rfl,rfl,rfl,by simp⟩ fun m e R H hI=>?_;obtain⟨i,n,A,k,xs,hi,hni,rfl,rfl,rfl,rfl⟩:=hI;refine aA ?_;refine aG rfl (fun hlt=>?_) (fun hge=>?_)
 ·have hlt:i < st.length:=by omega
  obtain⟨r,cR⟩:=get_some (l:=s.aY) (i:=i) (by omega);obtain⟨x,hx⟩:=get_some hlt
  have hlx:=hok.left x (List.mem_of_getElem? hx)
  have hrd:s.aY.getD i 0=r:=by rw[List.getD_eq_getElem?_getD,cR];rfl
  have hml:((st.map mU).take i++st.drop i).length=st.length:=by simp;omega
  have Ll:((st.map mU).take i++st.drop i)[i]? =some x:=by rw[aBZ _ st hlt];exact hx
  have hin:bZ ((st.map mU).take i++st.drop i).length (i:Int)=true:=by rw[hml];exact decide_eq_true (by omega)
  have Au:lX (mX s ((st.map mU).take i++st.drop i)) (i:Int)=some (iQ r x):=by
   rw[aFH,if_pos hin,Int.toNat_natCast,hrd,List.getD_eq_getElem?_getD,Ll];rfl
  have lF:nG (mX s ((st.map mU).take i++st.drop i)) (i:Int) (iQ r (mU x))=mX s ((st.map mU).take (i+1)++st.drop (i+1)):=by
   rw[aBX hrd (by omega),aBY mU st hx]
  refine aD8 1 rfl ?_;dsimp only[List.set];refine aA ?_;refine Yj (kt:=3) (et:=261) (kd:=.i64) (z:=iQ 0 ⟨0,false,false⟩) (l:=mX s ((st.map mU).take i++st.drop i)) true (by kernel_rfl) (by kernel_rfl) aFP rfl rfl (fun w1 t=>t.map (i:=0) rfl) (by decide) ?_;simp only[if_true,Au,Option.getD_some,Option.isSome_some];obtain⟨left,held,wanted⟩:=x;dsimp only at hlx;dsimp only[iQ];refine aA ?_;refine bY fun g1=>?_;cases held
  ·have hsame:mU ⟨left,false,wanted⟩=⟨left,false,wanted⟩:=rfl
   rw[aMF mU st hx hsame];refine aA ?_;refine aT [1,2,3,4] rfl (by decide) (fun _ h=>h) ?_;refine Ri 1 rfl ?_;exact eR (st.length - (i+1)) ⟨i+1,n,A,k,xs,hlt,by omega,rfl,rfl,rfl,rfl⟩
  ·refine aA ?_;refine aG rfl (fun hp=>?_) (fun hp=>?_)
   ·have sG:mU ⟨left,true,wanted⟩=⟨left - 1,true,wanted⟩:=by simp[mU,hp]
    rw[sG] at lF;refine aA ?_;refine qI 6 (by kernel_rfl) (by kernel_rfl) ?_;refine bQ 0 ?_;refine bQ 1 ?_;refine bQ 2 ?_;refine bQ 3 ?_;refine bQ 4 ?_;refine bQ 5 ?_;refine cK 6 ?_;refine Hg (kt:=3) (et:=261) (kd:=.i64) (l:=mX s ((st.map mU).take i++st.drop i)) (v:=iQ r ⟨left - 1,true,wanted⟩) 1 (by kernel_rfl) (by kernel_rfl) rfl rfl rfl rfl ?_;rw[lF];dsimp only[List.set];refine eS ?_;refine kL ?_;refine aA ?_;refine aT [1,2,3,4] rfl (by decide) (fun _ h=>h) ?_;refine Ri 1 rfl ?_;exact eR (st.length - (i+1)) ⟨i+1,n,A,k,xs,hlt,by omega,rfl,rfl,rfl,rfl⟩
   ·cases wanted
    ·have sG:mU ⟨left,true,false⟩=⟨left,true,false⟩:=by simp[mU,hp]
     rw[sG] at lF;refine aA ?_;refine qI 6 (by kernel_rfl) (by kernel_rfl) ?_;refine bQ 0 ?_;refine bQ 1 ?_;refine bQ 2 ?_;refine bQ 3 ?_;refine bQ 4 ?_;refine bQ 5 ?_;refine cK 6 ?_;refine Hg (kt:=3) (et:=261) (kd:=.i64) (l:=mX s ((st.map mU).take i++st.drop i)) (v:=iQ r ⟨left,true,false⟩) 1 (by kernel_rfl) (by kernel_rfl) rfl rfl rfl rfl ?_;rw[lF];dsimp only[List.set];refine eS ?_;refine kL ?_;refine aA ?_;refine aT [1,2,3,4] rfl (by decide) (fun _ h=>h) ?_;refine Ri 1 rfl ?_;exact eR (st.length - (i+1)) ⟨i+1,n,A,k,xs,hlt,by omega,rfl,rfl,rfl,rfl⟩
    ·have sG:mU ⟨left,true,true⟩=⟨left,false,false⟩:=by simp[mU,hp]
     rw[sG] at lF;refine aA ?_;refine eH fun g2=>?_;refine gY 4 1 8 1 (el:=3) (by kernel_rfl) (by kernel_rfl) (by decide) rfl rfl rfl (lV 0 rfl rfl) (by simp[Value.oneCell']) rfl (by omega) (by omega) (by decide) fun A' k'=>?_;dsimp only[List.set];refine aA ?_;refine qI 6 (by kernel_rfl) (by kernel_rfl) ?_;refine bQ 0 ?_;refine bQ 1 ?_;refine bQ 2 ?_;refine bQ 3 ?_;refine bQ 4 ?_;refine bQ 5 ?_;refine cK 6 ?_;refine Hg (kt:=3) (et:=261) (kd:=.i64) (l:=mX s ((st.map mU).take i++st.drop i)) (v:=iQ r ⟨left,false,false⟩) 2 (by kernel_rfl) (by kernel_rfl) rfl rfl rfl rfl ?_;rw[lF];dsimp only[List.set];refine eS ?_;refine kL ?_;refine aA ?_;refine aT [2,3,4,5] rfl (by decide) (fun _ h=>h) ?_;refine Ri 1 rfl ?_;exact eR (st.length - (i+1)) ⟨i+1,n+1,A',k',_,hlt,by omega,rfl,rfl,rfl,rfl⟩
 ·obtain rfl:i=st.length:=by omega
  have vB:(st.map mU).take st.length++st.drop st.length=Hl st:=by
   rw[List.drop_eq_nil_of_le (by omega),List.append_nil,List.take_of_length_le (by simp)];rfl
  rw[vB];refine aA ?_;exact mF rfl rfl fun w1 t=>⟨(A,n,k),rfl,trivial,t.turns hF (by simp) (i:=1) rfl⟩
end
section
section
variable{N:cE}{w0 w:World}{e:Env}{R:List Piece}{H:List HP}{K:Act→World→Prop}{L:HL}{s:aC}{x:aU}
theorem pG(i:Nat){o:Nat}{v:Value}(hi:H[i]? =some (dN L s x))(hv:(Vl L s.aD.length)[o]? =some v):Rd w0 R H L.h o v:=fun w t=>by
 obtain⟨F,⟨G,g1,g2,_⟩,h2,_⟩:=t.chunk hi
 have:=(uG (g1 0 _ rfl).2).at_ (j:=o) hv
 rw[Nat.zero_add] at this;exact this.2
end
variable(L:HL)(s:aC)(x:aU)(w:World)
theorem aGz(hH:s.dK)(aQ:gA L s)(hok:cX s x)(i:Int)(on:Bool)(F:Nat→Prop)(hp:(dN L s x).sat F w)(hF:∀b,F b→b < w.heap.size):
  Cz 178 #[.pointer (some ⟨L.h,0,none⟩),iv i,.bool on] w (Wr (iv (lN s x.ck i on).1) (dN L s {x with ck:=(lN s x.ck i on).2}) w F):=by
 have sJ:=hH.t.nd
 refine cT func178 ntmps178 hp hF ?_;refine aA ?_;refine aS (fun w1 t=>Ba L s x w1 (t.mA 0 rfl aQ hok)) ?_;refine aA ?_;refine kd (bH rfl (pG 0 rfl rfl)) ?_;refine aA ?_;refine aW 0 1 ?_;refine bT 0 (oY L.T s (lN s x.ck i on).2) (fun w1 F1 t h1 h2 h3=>aPZ L.T s x.ck aQ.fa hok.ck i on w1 F1 h1 h2) ?_;refine aA ?_;refine aJ 0 1 ?_;exact bP 0 hF
theorem aGu(hH:s.dK)(aQ:gA L s)(hok:cX s x)(i:Int)(F:Nat→Prop)(hp:(dN L s x).sat F w)(hF:∀b,F b→b < w.heap.size):
  Cz 173 #[.pointer (some ⟨L.h,0,none⟩),iv i] w (Wr (iv (uQ s x.dm i).1) (dN L s {x with dm:=(uQ s x.dm i).2}) w F):=by
 have sJ:=hH.t.nd
 refine cT func173 ntmps173 hp hF ?_;refine aA ?_;refine aS (fun w1 t=>Ba L s x w1 (t.mA 0 rfl aQ hok)) ?_;refine aA ?_;refine kd (bH rfl (pG 0 rfl rfl)) ?_;refine aA ?_;refine aW 0 2 ?_;refine bT 0 (uM L.G s (uQ s x.dm i).2) (fun w1 F1 t h1 h2 h3=>aL3 L.G s x.dm hH hok.dm i w1 F1 h1 h2) ?_;refine aA ?_;refine aJ 0 2 ?_;exact bP 0 hF
theorem aND(hH:s.dK)(aQ:gA L s)(hok:cX s x)(i:Int)(keep:Bool)(F:Nat→Prop)(hp:(dN L s x).sat F w)(hF:∀b,F b→b < w.heap.size):
  Cz 177 #[.pointer (some ⟨L.h,0,none⟩),iv i,.bool keep] w (Wr (iv (xE s x.dm i keep).1) (dN L s {x with dm:=(xE s x.dm i keep).2}) w F):=by
 have sJ:=hH.t.nd
 refine cT func177 ntmps177 hp hF ?_;refine aA ?_;refine aS (fun w1 t=>Ba L s x w1 (t.mA 0 rfl aQ hok)) ?_;refine aA ?_;refine kd (bH rfl (pG 0 rfl rfl)) ?_;refine aA ?_;refine aW 0 2 ?_;refine bT 0 (uM L.G s (xE s x.dm i keep).2) (fun w1 F1 t h1 h2 h3=>aL8 L.G s x.dm hok.dm (by omega) i keep w1 F1 h1 h2) ?_;refine aA ?_;refine aJ 0 2 ?_;exact bP 0 hF
theorem aNA(hH:s.dK)(aQ:gA L s)(hok:cX s x)(i:Int)(F:Nat→Prop)(hp:(dN L s x).sat F w)(hF:∀b,F b→b < w.heap.size):
  Cz 181 #[.pointer (some ⟨L.h,0,none⟩),iv i] w (Wr (iv (wJ x.ln i).1) (dN L s {x with ln:=(wJ x.ln i).2}) w F):=by
 have sJ:=hH.t.nd
 refine cT func181 ntmps181 hp hF ?_;refine aA ?_;refine aS (fun w1 t=>Ba L s x w1 (t.mA 0 rfl aQ hok)) ?_;refine aA ?_;refine kd (bH rfl (pG 0 rfl rfl)) ?_;refine aA ?_;refine aW 0 3 ?_;refine bT 0 (oH L.R s (wJ x.ln i).2) (fun w1 F1 t h1 h2 h3=>aKA L.R s x.ln hok.ln i w1 F1 h1 h2) ?_;refine aA ?_;refine aJ 0 3 ?_;exact bP 0 hF
end
section
def aAG(a b:Int):Int:=IntKind.u32.wrap (BitVec.ofInt 32 a&&& BitVec.ofInt 32 b).toNat
def Bs(a b:Int):Int:=IntKind.u32.wrap (BitVec.ofInt 32 a&&& ~~~ BitVec.ofInt 32 b).toNat
def Ai(a b:Int):Int:=IntKind.u32.wrap (BitVec.ofInt 32 a||| BitVec.ofInt 32 b).toNat
theorem Nl(a:Int):0≤IntKind.u32.wrap a∧IntKind.u32.wrap a < 4294967296:=by
 unfold IntKind.wrap;simp only[IntKind.signed,IntKind.bits,Bool.false_and,Bool.false_eq_true,if_false];exact⟨Int.emod_nonneg _ (by decide),Int.emod_lt_of_pos _ (by decide)⟩
def uW(many at':Int):Int:=IntKind.u32.wrap (IntKind.u64.wrap (IntKind.u64.wrap (IntKind.u64.wrap (1*2 ^ min many.toNat 64) - 1)*2 ^ min at'.toNat 64))
def cN(w low many:Int):Int:=aAG (w.fdiv (2 ^ min low.toNat 32)) (uW many 0)
def wK(w low many v:Int):Int×Int:=if Bs v (uW many 0)≠0 then(0,1) else(Ai (Bs w (uW many low)) (IntKind.u32.wrap (v*2 ^ min low.toNat 32)),0)
def fV(w low many v:Int):Int×Int:=if v < 0∨IntKind.i64.wrap (1*2 ^ min many.toNat 64)≤v then(0,1) else if(wK w low many (IntKind.u32.wrap v)).2≠0 then(0,1) else((wK w low many (IntKind.u32.wrap v)).1,0)
def okF(low many:Int):Prop:=1≤many∧many≤32∧0≤low∧low≤32 - many
def aEa(many:Int)(v:Value)(w w':World):Prop:=∃g,v=.tuple #[.func (.func 217) #[] #[pt g],.bool true]∧RP (fresh w w') g 0 (iv many)
theorem aCX(a many:Int)(g:Nat)(w:World)(h:fK w g 0 (iv many))(ha:0≤a)(hm:0≤many):
  Cz 217 #[iv a,pt g] w (Rt (.int .u32 (uW many a)) w):=by
 refine aO func217 ntmps217 ?_;refine aB ?_;refine Ng rfl rfl (by omega) rfl (by decide) ?_;refine Yg rfl rfl rfl (by decide) ?_;refine dP rfl (by decide) ?_;refine Ng rfl rfl (by omega) rfl (by decide) ?_;refine Ce (kd:=.u32) (ds:=.int .u64) (by kernel_rfl) (by kernel_rfl) rfl rfl (by decide) ?_;refine aB ?_;exact aP (h:=fun _ _=>rfl)
theorem aGN(low many:Int)(w:World)(hok:okF low many):Cz 199 #[iv low,iv many] w (fun y w'=>(∃x,y=.returned x∧aEa many x w w')∧Below w.heap.size w w'):=by
 refine aO func199 ntmps199 ?_;refine aA ?_;refine bO fun g1=>?_;refine aA ?_
 (first | refine cG (t:=8) rfl (fun hg=>?_) (fun hg=>?_) | refine pX (t:=8) rfl (fun hg=>?_) (fun hg=>?_))
 ·
  refine aA ?_;exact absurd hok (by unfold okF;omega)
 ·
  refine aA ?_
  (first | refine cG (t:=12) rfl (fun hg=>?_) (fun hg=>?_) | refine pX (t:=12) rfl (fun hg=>?_) (fun hg=>?_))
  ·
   refine aA ?_;exact absurd hok (by unfold okF;omega)
  ·
   refine aA ?_
   (first | refine cG (t:=16) rfl (fun hg=>?_) (fun hg=>?_) | refine pX (t:=16) rfl (fun hg=>?_) (fun hg=>?_))
   ·
    refine aA ?_;exact absurd hok (by unfold okF;omega)
   ·
    refine aA ?_;refine aG rfl (fun h=>?_) (fun h=>?_)
    ·
     refine aA ?_;exact absurd hok (by unfold okF;omega)
    ·
     refine aA ?_;refine jY (vf:=[]) (vc:=[pt g1]) rfl rfl (by decide) ?_;refine aA ?_;refine dG [] [0] [] (by simp) rfl (by decide) (by decide) fun q hq _ hfr=>?_;refine fS rfl rfl rfl fun w1 st=>⟨⟨_,rfl,g1,rfl,(rJ (o:=0) (v:=iv many) (hq 0 _ (by simp) rfl) rfl).le (st.mQ (by simp) (hfr (by simp) (by simp)))⟩,st.below (by simp)⟩
theorem aG6(w0 low many:Int)(w:World)(hok:okF low many):
  Cz 169 #[.int .u32 w0,iv low,iv many] w (Rt (.tuple #[.int .u32 (cN w0 low many),iv 0]) w):=by
 refine aO func169 ntmps169 ?_;refine aB ?_;refine kA [] (aEa many) (fun w1 st=>aGN low many w1 hok) ?_;rintro _ w1 q1 ⟨g,rfl,cS⟩ hf _ _
 have cS:=cS.le hf
 clear hf;refine dP rfl (by decide) ?_;refine Yk rfl rfl (by decide) ?_;refine Yk rfl rfl (by decide) ?_;refine jL rfl (by decide) ?_;refine jL rfl (by decide) ?_;refine fB ?_;refine dX ?_;refine dX ?_;refine fT ?_;refine dP rfl (by decide) ?_
 (first | refine aEp rfl (by decide) ?_ | refine Eh rfl (by decide) ?_)
 refine fB ?_;refine oX rfl (fun h=>?_) (fun h=>?_)
 ·
  refine aB ?_;exact absurd h (by simp)
 ·
  refine nS ?_;refine eK ?_;refine dX ?_;refine qI 5 (by kernel_rfl) (by kernel_rfl) ?_;refine fX 0 rfl rfl rfl (lP rfl) ?_;refine fX 1 rfl rfl rfl (lP rfl) ?_;refine fX 2 rfl rfl rfl (aHb rfl rfl (by unfold okF at hok;omega) rfl) ?_;refine fX 3 rfl rfl rfl (lP rfl) ?_;refine cK 4 ?_;refine xY (f:=217) (fi:=[]) (ca:=[pt g]) (by kernel_rfl) rfl rfl (by decide) (fun w1 st=>aCX 0 many g w1 (cS.le (st.le (by simp))) (by unfold okF at hok;omega) (by unfold okF at hok;omega)) ?_;refine mS ?_;refine cK 5 ?_;refine Sg (c:=cN w0 low many) rfl rfl (fun _=>rfl) (by simp) (by decide) ?_;refine eS ?_;refine cK 6 ?_;refine jL rfl (by decide) ?_;refine eS ?_;refine cK 7 ?_;refine jL rfl (by decide) ?_;refine eS ?_;refine kL ?_;refine eK ?_;refine Ra ?_;refine eK ?_;exact fS rfl rfl rfl fun w1 st=>⟨rfl,st.below (by simp)⟩
theorem aBH(w0 low many v:Int)(w:World)(hok:okF low many):
  Cz 167 #[.int .u32 w0,iv low,iv many,.int .u32 v] w (Rt (.tuple #[.int .u32 (wK w0 low many v).1,iv (wK w0 low many v).2]) w):=by
 refine aO func167 ntmps167 ?_;refine aB ?_;refine kA [] (aEa many) (fun w1 st=>aGN low many w1 hok) ?_;rintro _ w1 q1 ⟨g,rfl,cS⟩ hf _ _
 have cS:=cS.le hf
 clear hf;refine dP rfl (by decide) ?_;refine Yk rfl rfl (by decide) ?_;refine Yk rfl rfl (by decide) ?_;refine jL rfl (by decide) ?_;refine jL rfl (by decide) ?_;refine fB ?_;refine dX ?_;refine dX ?_;refine fT ?_;refine dP rfl (by decide) ?_
 (first | refine aEp rfl (by decide) ?_ | refine Eh rfl (by decide) ?_)
 refine fB ?_;refine oX rfl (fun h=>?_) (fun h=>?_)
 ·
  refine aB ?_;exact absurd h (by simp)
 ·
  refine aB ?_;refine xY (f:=217) (fi:=[]) (ca:=[pt g]) (by kernel_rfl) rfl rfl (by decide) (fun w1 st=>aCX 0 many g w1 (cS.le (st.le (by simp))) (by unfold okF at hok;omega) (by unfold okF at hok;omega)) ?_;refine Sg (c:=Bs v (uW many 0)) rfl rfl (fun _=>rfl) (by simp) (by decide) ?_;refine aB ?_;refine aG rfl (fun h=>?_) (fun h=>?_)
  ·
   refine aB ?_;refine fS rfl rfl rfl fun w1 st=>⟨by rw[wK,if_pos h],st.below (by simp)⟩
  ·
   refine nS ?_;refine eK ?_;refine dX ?_;refine qI 8 (by kernel_rfl) (by kernel_rfl) ?_;refine fX 0 rfl rfl rfl (lP rfl) ?_;refine fX 1 rfl rfl rfl (lP rfl) ?_;refine fX 2 rfl rfl rfl (lP rfl) ?_;refine fX 5 rfl rfl rfl (lP rfl) ?_;refine fX 6 rfl rfl rfl (lP rfl) ?_;refine fX 7 rfl rfl rfl (aPm rfl rfl (by unfold okF at hok;omega) rfl) ?_;refine cK 3 ?_;refine xY (f:=217) (fi:=[]) (ca:=[pt g]) (by kernel_rfl) rfl rfl (by decide) (fun w1 st=>aCX low many g w1 (cS.le (st.le (by simp))) (by unfold okF at hok;omega) (by unfold okF at hok;omega)) ?_;refine mS ?_;refine fX 4 rfl rfl rfl (aHi (c:=Bs w0 (uW many low)) rfl rfl (fun _=>rfl) (by simp)) ?_;refine cK 8 ?_;refine Sg (c:=Ai (Bs w0 (uW many low)) (IntKind.u32.wrap (v*2 ^ min low.toNat 32))) rfl rfl (fun _=>rfl) (by simp) (by decide) ?_;refine eS ?_;refine cK 9 ?_;refine jL rfl (by decide) ?_;refine eS ?_;refine cK 10 ?_;refine jL rfl (by decide) ?_;refine eS ?_;refine kL ?_;refine eK ?_;refine Ra ?_;refine eK ?_;refine fS rfl rfl rfl fun w1 st=>⟨by rw[wK,if_neg h],st.below (by simp)⟩
theorem Tt(w0 low many:Int)(w:World)(hok:okF low many):
  Cz 129 #[.int .u32 w0,iv low,iv many] w (Rt (iv (cN w0 low many)) w):=by
 refine aO func129 ntmps129 ?_;refine aA ?_;refine dF (fun w1 st=>aG6 w0 low many w1 hok) ?_;refine aA ?_;refine Ce (ds:=.int .u32) (by kernel_rfl) (by kernel_rfl) rfl (iW (by have:=Nl (BitVec.ofInt 32 (w0.fdiv (2 ^ min low.toNat 32))&&& BitVec.ofInt 32 (uW many 0)).toNat;unfold cN aAG;omega)) (by decide) ?_;refine aA ?_;exact aP (h:=fun _ _=>rfl)
theorem Zi(w0 low many v:Int)(w:World)(hok:okF low many):
  Cz 109 #[.int .u32 w0,iv low,iv many,iv v] w (Rt (.tuple #[.int .u32 (fV w0 low many v).1,iv (fV w0 low many v).2]) w):=by
 refine aO func109 ntmps109 ?_;refine aB ?_
 (first | refine cG (t:=13) rfl (fun hg=>?_) (fun hg=>?_) | refine pX (t:=13) rfl (fun hg=>?_) (fun hg=>?_))
 ·
  refine aB ?_;refine fS rfl rfl rfl fun w1 st=>⟨by rw[fV,if_pos (.inl hg)],st.below (by simp)⟩
 ·
  refine jB rfl rfl ?_;refine dP rfl (by decide) ?_;refine jB rfl rfl ?_;refine dP rfl (by decide) ?_;refine jB rfl rfl ?_;refine Ng rfl rfl (by unfold okF at hok;omega) rfl (by decide) ?_;refine aB ?_;refine aG rfl (fun h=>?_) (fun h=>?_)
  ·
   refine aB ?_;refine fS rfl rfl rfl fun w1 st=>⟨by rw[fV,if_pos (.inr h)],st.below (by simp)⟩
  ·
   refine nS ?_
   have hno:¬(v < 0∨IntKind.i64.wrap (1*2 ^ min many.toNat 64)≤v):=fun h2=>h2.elim hg h
   refine eK ?_;refine dX ?_;refine fT ?_;refine dP rfl (by decide) ?_;refine dP rfl (by decide) ?_;refine dP rfl (by decide) ?_;refine dP rfl (by decide) ?_;refine Ce (kd:=.u32) (ds:=.int .i64) (by kernel_rfl) (by kernel_rfl) rfl rfl (by decide) ?_;refine dF (fun w1 st=>aBH w0 low many (IntKind.u32.wrap v) w1 hok) ?_;refine aB ?_;refine aG rfl (fun h2=>?_) (fun h2=>?_)
   ·
    refine aB ?_;refine fS rfl rfl rfl fun w1 st=>⟨by rw[fV,if_neg hno,if_pos h2],st.below (by simp)⟩
   ·
    refine aB ?_;refine fS rfl rfl rfl fun w1 st=>⟨by rw[fV,if_neg hno,if_neg h2];rfl,st.below (by simp)⟩
end
section
def Wq(aX:Int)(i:Nat):Bool:=decide (aAG (aX.fdiv (2 ^ min i 32)) 1=1)
def Ct(x:aU)(aX:Int)(n:Nat):List (dU×fD):=x.dv.mapIdx fun i p=>if i < n then(p.1,yD p.2 (decide (0 < oK x.wt i)) (Wq aX i)) else p
def Gc(k:Int)(d:cH)(f:dU):dU:=if k=115 then uS d f else if k=114 then Ht d f else if k=108∨k=110 then Dv d f else f
def Gd(s:aC)(e:Int×Nat)(i:Nat)(p:dU×fD):dU×fD:=match s.aD[i]? with
 | some d=>if d.domain=(e.2:Int) then(Gc e.1 d p.1,p.2) else p
 | none=>p
def Cu(s:aC)(dv:List (dU×fD))(e:Int×Nat)(n:Nat):List (dU×fD):=dv.mapIdx fun i p=>if i < n then Gd s e i p else p
def uC(s:aC)(dv:List (dU×fD))(e:Int×Nat):List (dU×fD):=Cu s dv e s.aD.length
def Sk(s:aC)(x:aU)(aX:Int):aU:=⟨mJ s x.ck,pJ x.dm,Hl x.ln,(kQ x.dm s.domains.length).foldl (uC s) (Ct x aX s.aD.length),x.wt,x.aZ⟩
theorem Og{α:Type}(l:List α)(f:Nat→α→α):(l.mapIdx fun i p=>if i < 0 then f i p else p)=l:=by
 refine List.ext_getElem? fun i=>?_;simp
theorem Oh{α:Type}{l:List α}{f:Nat→α→α}{n:Nat}{p:α}(hp:l[n]? =some p):(l.mapIdx fun i p=>if i < n then f i p else p).set n (f n p)=l.mapIdx fun i p=>if i < n+1 then f i p else p:=by
 refine List.ext_getElem? fun i=>?_
 have hlt:=(List.getElem?_eq_some_iff.1 hp).1
 rw[List.getElem?_set]
 by_cases he:n=i
 ·subst he;rw[if_pos rfl,if_pos (by simpa using hlt),List.getElem?_mapIdx,hp];simp
 ·rw[if_neg he,List.getElem?_mapIdx,List.getElem?_mapIdx];cases l[i]? with
  | none=>rfl
  | some q=>
   simp only[Option.map_some,Option.some.injEq]
   by_cases h:i < n
   ·rw[if_pos h,if_pos (by omega)]
   ·rw[if_neg h,if_neg (by omega)]
theorem Oi{α:Type}{l:List α}{f:Nat→α→α}{n:Nat}{p:α}(hp:l[n]? =some p):(l.mapIdx fun i p=>if i < n then f i p else p)[n]? =some p:=by
 rw[List.getElem?_mapIdx,hp];simp
theorem aA0{ds:List cH}{ls:List (FL×Nat)}{xs:List (dU×fD)}{i:Nat}{d:cH}{l:FL×Nat}{p:dU×fD}(hd:ds[i]? =some d)(hl:ls[i]? =some l)(hp:xs[i]? =some p):(xD ds ls xs)[i]? =some (Qf d (l,p)):=by
 have hq:(ls.zip xs)[i]? =some (l,p):=List.getElem?_zip_eq_some.2 ⟨hl,hp⟩
 rw[xD,List.getElem?_zipWith,hd,hq]
theorem aOW{ds:List cH}{ls:List (FL×Nat)}{xs:List (dU×fD)}{i:Nat}{d:cH}{l:FL×Nat}{p:dU×fD}(hd:ds[i]? =some d)(hl:ls[i]? =some l)(hp:xs[i]? =some p)(p':dU×fD):(xD ds ls xs).set i (Qf d (l,p'))=xD ds ls (xs.set i p'):=by
 refine List.ext_getElem? fun j=>?_
 have hlt:=(List.getElem?_eq_some_iff.1 (aA0 hd hl hp)).1
 rw[List.getElem?_set]
 by_cases he:i=j
 ·subst he;rw[if_pos rfl,if_pos hlt];exact(aA0 hd hl (List.getElem?_set_self (List.getElem?_eq_some_iff.1 hp).1)).symm
 ·rw[if_neg he];simp only[xD,List.getElem?_zipWith,List.zip,List.getElem?_set_ne he]
theorem aCZ{ds:List cH}{ls:List (FL×Nat)}{i:Nat}{d:cH}{l:FL×Nat}(hd:ds[i]? =some d)(hl:ls[i]? =some l):(vE ds ls)[i]? =some (Iz d l):=by
 rw[vE,List.getElem?_zipWith,hd,hl]
theorem aCY{ds:List cH}{ls:List (FL×Nat)}:∀r∈vE ds ls,r.length=6:=fun r hr=>by
 obtain⟨i,hi⟩:=List.getElem?_of_mem hr;rw[vE,List.getElem?_zipWith] at hi;split at hi
 ·cases hi;rfl
 ·cases hi
theorem aJH{x:fD}(h:zH x)(a b:Bool):zH (yD x a b):=by
 unfold yD;unfold zH at h⊢;split
 ·exact h
 ·split
  ·exact⟨(by show(0:Int)≤3;omega),(by show(3:Int)≤3;omega)⟩
  ·split
   ·exact h
   ·exact⟨(by show(0:Int)≤2;omega),(by show(2:Int)≤3;omega)⟩
theorem aKr{r:Rg}{p:Int×Int}(h1:0≤p.1∧p.1 < 4294967296)(h2:0≤p.2∧p.2 < 4294967296):0≤Kl r p∧Kl r p < 4294967296:=by
 unfold Kl;split<;>assumption
theorem aHo{d:cH}{f:dU}(k:Int)(hr:∀r∈d.aR,0≤r.reset∧r.reset≤6)(h:xS d f):xS d (Gc k d f):=by
 have hres:∀v∈d.aR.map (·.reset),0≤v∧v < 4294967296:=fun v hv=>by
  obtain⟨r,dO,rfl⟩:=List.mem_map.1 hv
  have:=hr r dO
  omega
 have h1:=h.now
 have h2:=h.saved
 unfold Gc;split
 ·refine⟨h1,by simp[uS];omega,h.u.1,fun v hv=>?_⟩;obtain⟨i,hi⟩:=List.getElem?_of_mem hv;simp only[uS,List.getElem?_zipWith] at hi;split at hi
  ·rename_i r p dO gE
   cases hi;obtain⟨Lh,hp3⟩:=List.getElem?_zip_eq_some.1 gE;exact aKr (h.u.1 _ (List.mem_of_getElem? Lh)) (h.u.2 _ (List.mem_of_getElem? hp3))
  ·cases hi
 ·split
  ·refine⟨by simp[Ht];omega,h2,fun v hv=>?_,h.u.2⟩;obtain⟨i,hi⟩:=List.getElem?_of_mem hv;simp only[Ht,List.getElem?_zipWith] at hi;split at hi
   ·rename_i r p dO gE
    cases hi;unfold Zc;split
    ·exact h.u.2 _ (List.mem_of_getElem? gE)
    ·have:=hr r (List.mem_of_getElem? dO)
     omega
   ·cases hi
  ·split
   ·exact⟨by simp[Dv],h2,hres,h.u.2⟩
   ·exact h
theorem Tv{s:aC}{x:aU}(hH:s.dK)(hok:cX s x){dv:List (dU×fD)}(hl:dv.length=x.dv.length)(h:∀(i:Nat) (d:cH) (p:dU×fD),s.aD[i]? =some d→dv[i]? =some p→xS d p.1∧zH p.2):cX s {x with dv:=dv}:=⟨hok.ck,hok.dm,hok.ln,hl.trans hok.dv,h,hok.wt⟩
theorem aCa{s:aC}{x:aU}(hH:s.dK)(hok:cX s x)(aX:Int)(n:Nat):cX s {x with dv:=Ct x aX n}:=Tv hH hok (by simp[Ct]) fun i d p hd hp=>by
 rw[Ct,List.getElem?_mapIdx] at hp;cases hq:x.dv[i]? with
 | none=>rw[hq] at hp;cases hp
 | some q=>
  rw[hq] at hp;obtain⟨h1,h2⟩:=hok.each i d q hd hq;simp only[Option.map_some,Option.some.injEq] at hp;subst hp;split
  ·exact⟨h1,aJH h2 _ _⟩
  ·exact⟨h1,h2⟩
theorem aFF{s:aC}{x:aU}(hH:s.dK)(hok:cX s x)(e:Int×Nat)(n:Nat):cX s {x with dv:=Cu s x.dv e n}:=Tv hH hok (by simp[Cu]) fun i d p hd hp=>by
 rw[Cu,List.getElem?_mapIdx] at hp;cases hq:x.dv[i]? with
 | none=>rw[hq] at hp;cases hp
 | some q =>
  rw[hq] at hp;obtain⟨h1,h2⟩:=hok.each i d q hd hq;simp only[Option.map_some,Option.some.injEq] at hp;subst hp;split
  ·unfold Gd;rw[hd];dsimp only;split
   ·exact⟨aHo _ (hH.t.aD i d hd).2.2.2.2.2.2.2.2.2.1 h1,h2⟩
   ·exact⟨h1,h2⟩
  ·exact⟨h1,h2⟩
theorem aCQ{s:aC}(hH:s.dK):∀(es:List (Int×Nat)) (x:aU),cX s x→cX s {x with dv:=es.foldl (uC s) x.dv}
 | [],x,h=>h
 | e::es,x,h=>aCQ hH es {x with dv:=uC s x.dv e} (aFF hH h e _)
theorem aMw{s:aC}{dv:List (dU×fD)}{e:Int×Nat}(h:¬(e.1=115∨e.1=114∨e.1=108∨e.1=110)):uC s dv e=dv:=by
 unfold uC Cu;refine List.ext_getElem? fun i=>?_;rw[List.getElem?_mapIdx];cases dv[i]? with
 | none=>rfl
 | some p =>
  simp only[Option.map_some,Option.some.injEq];split
  ·unfold Gd;split
   ·split
    ·have:Gc e.1 (by assumption) p.1=p.1:=by
      unfold Gc;rw[if_neg (by omega),if_neg (by omega),if_neg (by omega)]
     rw[this]
    ·rfl
   ·rfl
  ·rfl
theorem aJJ{s:aC}{st:List jX}(h:Ed s st):Ed s (Hl st):=by
 refine⟨by simp[Hl,h.len],fun x hx=>?_⟩;obtain⟨y,hy,rfl⟩:=List.mem_map.1 hx
 have:=h.left y hy
 unfold mU;split
 ·exact this
 ·split
  ·dsimp only;omega
  ·split
   ·exact this
   ·exact this
theorem aJG{s:aC}{x:aU}(hH:s.dK)(hok:cX s x)(aX:Int):cX s (Sk s x aX):=by
 have h1:=aCQ hH (kQ x.dm s.domains.length) _ (aCa hH hok aX s.aD.length)
 exact⟨aB4 hH hok.ck,aB3 hok.dm,aJJ hok.ln,h1.dv,h1.each,hok.wt⟩
section
variable{N:cE}{w0 w:World}{e:Env}{R:List Piece}{H:List HP}{K:Act→World→Prop}{L:HL}{s:aC}{x:aU}
def aGy(L:HL)(s:aC)(x:aU):HP:=HP.many [HP.aE L.h 203 (Vl L s.aD.length),oY L.T s x.ck,uM L.G s x.dm,oH L.R s x.ln,xV L.B (jR s) x.wt x.aZ,HP.own 210 6 (.slice L.A s.aD.length L.c) s.aD.length (vE s.aD L.ds).flatten,bX]
def aGW(L:HL)(s:aC)(x:aU)(i:Nat):HP:=HP.many ((xD s.aD L.ds x.dv).set i bX)
theorem Rb(j i:Nat){d:cH}{l:FL×Nat}{p:dU×fD}(hj:H[j]? =some (dN L s x))(hd:s.aD[i]? =some d)(hl:L.ds[i]? =some l)(hp:x.dv[i]? =some p)
  (k:XK N w0 K e R (HP.many [gQ l.1 d p.1,tB l.2 p.2]::aGW L s x i::H.set j (aGy L s x))):XK N w0 K e R H:=by
 refine qF j 6 hj rfl ?_;refine qF 0 i rfl (aA0 hd hl hp) ?_;exact k
theorem Rj(j i:Nat){d:cH}{l:FL×Nat}{p p':dU×fD}(hj:H[j]? =some (aGy L s x))(hd:s.aD[i]? =some d)(hl:L.ds[i]? =some l)(hp:x.dv[i]? =some p)
  (k:XK N w0 K e R (H.set j (dN L s {x with dv:=x.dv.set i p'}))):XK N w0 K e R (HP.many [gQ l.1 d p'.1,tB l.2 p'.2]::aGW L s x i::H):=by
 have hlt:=(List.getElem?_eq_some_iff.1 (aA0 hd hl hp)).1
 refine qH 0 i rfl (by rw[List.getElem?_set_self (by simpa using hlt)]) ?_;dsimp only[List.set];refine qH j 6 hj rfl ?_;rw[List.set_set,show HP.many [gQ l.1 d p'.1,tB l.2 p'.2]=Qf d (l,p') from rfl,aOW hd hl hp p'];exact k
theorem Mm(j:Nat)(hj:H[j]? =some (dN L s x))(aQ:gA L s)(hok:cX s x)(hn:0 < s.aD.length)(k:∀b off,L.A=some ⟨b,off,none⟩→XK N w0 K e R H):XK N w0 K e R H:=fun a w hr st=>by
 obtain⟨b,off,hA,_⟩:=(st.mA j hj aQ hok).rows.2 hn;exact k b off hA a w hr st
theorem aM.dev(j:Nat){i b off o:Nat}{d:cH}{l:FL×Nat}(hj:H[j]? =some (dN L s x))(aQ:gA L s)(hok:cX s x)(hA:L.A=some ⟨b,off,none⟩)(hd:s.aD[i]? =some d)(hl:L.ds[i]? =some l)(ho:o=off+i*6):aM w0 R H b o (Iz d l):=.of fun k v hv w st=>by
 obtain⟨b',off',pP,hr⟩:=aI.row (st.mA j hj aQ hok).rows (rows:=vE s.aD L.ds) (fun r hr=>aCY r hr) (aCZ hd hl) (List.getElem?_eq_some_iff.1 hd).1;rw[hA] at pP;cases pP;subst ho;exact(hr.2 k v hv)
end
end
section
section
variable{P:Program}{N:cE}{w0:World}{e:Env}{R:List Piece}{H:List HP}{Q:Exit→Act→World→Prop}{ops:Array Oper}{rest:List Oper}
variable{d:Nat}{ty:TypeId}{pos:String}{aH:Array Edge}
theorem vQ{α:Type}(i:Nat){f:FuncId}{x:Operand}{args:List Operand}{fi ca vs:List Value}{tys:Array TypeId}{p:HP}(v:α→Value)(q:α→HP)(G:α→Prop)(hf:eX P f=true)(hx:e.ev x=some (.func (.func f) fi.toArray ca.toArray))(ha:e.fO args=some vs)(hi:H[i]? =some p)(hd:d < N.n)
  (hc:∀w F,St w0 R H w→p.sat F w→(∀b,F b→b < w.heap.size)→(∀q∈R,q.Le ⟨w,fun b=>b < w.heap.size∧¬F b⟩)→Calls P f (fi++vs++ca).toArray w fun y w'=>∃a,y=.returned (v a)∧G a∧∃F',(q a).sat F' w'∧iC w w' F F')
  (k:∀a,G a→XK N w0 (wpList P ops Q rest) ((d,v a)::e) R (H.set i (q a))):XK N w0 (wpList P ops Q (⟨some d,.call {callee:=.value x,args:=args.toArray,argTypes:=tys},ty,pos,aH,none⟩::rest)) e R H:=fun a w hr st=>wpList_plain rfl fun K hK=>by
 unfold eX at hf;cases hq:P.funcs[f]? with
 | none=>simp[hq] at hf
 | some fn =>
  simp[hq] at hf;obtain⟨gF,mP⟩:=hf
  have hrun:(execOp a.eval (⟨some d,.call {callee:=.value x,args:=args.toArray,argTypes:=tys},ty,pos,aH,none⟩:Oper)).run P w=.ok (.enter f (fi++vs++ca).toArray) w:=by
   cases hb:fn.body with
   | none=>simp[hb] at mP
   | some c=>simp[execOp,resolve,hr.ev hx,Deferred.ofValue,invoke,callFunc,hq,gF,hb,hr.fO ha]
  obtain⟨F,hp,hlt,hle,lF⟩:=st.chunk hi;unfold Oper.wp;rw[hrun];refine(hc w F st hp hlt hle).mono fun y w' hy=>?_;obtain⟨a',rfl,hG,F',hs,ht⟩:=hy;exact hK _ _ (k a' hG _ _ (hr.put hd (v a')) (lF w' F' (q a') hs ht))
end
end
section
section
variable{P:Program}{N:cE}{w0:World}{e:Env}{R:List Piece}{H:List HP}{d:Nat}{ty:TypeId}{pos:String}{aH:Array Edge}
def aG8(P:Program)(t:TypeId):Bool:=match P.underlying t with
 | some (.func ..)=>true
 | _=>false
theorem aK5(w:World)(n:Nat)(t:TypeId){f1 f2:Array TypeId}{f3:Bool}(hu:P.underlying t=some (.func f1 f2 f3)):(Op.equalIn (n+1) t .nilFunc .nilFunc).run P w=.ok true w:=by simp[Op.equalIn,run_underlying hu]
theorem aK7(w:World)(n:Nat)(t:TypeId){f1 f2:Array TypeId}{f3:Bool}(f:Fn)(fi ca:Array Value)(hu:P.underlying t=some (.func f1 f2 f3)):(Op.equalIn (n+1) t (.func f fi ca) .nilFunc).run P w=.ok false w:=by simp[Op.equalIn,run_underlying hu]
theorem aHh{x:Operand}{t u:TypeId}{v:Value}{b:Bool}(hx:e.ev x=some v)(hv:(v=.nilFunc∧b=true)∨(∃f a c,v=.func f a c)∧b=false)(ht:aG8 P t=true:=by kernel_rfl):bR P N w0 e R H ⟨some d,.binOp .eql t x (.const .nilFunc) u,ty,pos,aH,none⟩ (.bool b):=gN fun a w hr=>by
 have h2:=hr.ev (show e.ev (.const .nilFunc)=some .nilFunc from rfl)
 unfold aG8 at ht;split at ht
 ·rename_i f1 f2 f3 hu
  rcases hv with⟨rfl,rfl⟩ | ⟨⟨f,fi,ca,rfl⟩,rfl⟩
  ·have h4:(Op.equal t .nilFunc .nilFunc).run P w=.ok true w:=aK5 w 9999 t hu
   simp[execOp,hr.ev hx,h2,eqGuard,binOp,h4]
  ·have h4:(Op.equal t (.func f fi ca) .nilFunc).run P w=.ok false w:=aK7 w 9999 t f fi ca hu
   simp[execOp,hr.ev hx,h2,eqGuard,binOp,h4]
 ·cases ht
end
def Gb(k:Int):Value:=if k=115 then .func (.func 195) #[] #[] else if k=114 then .func (.func 196) #[] #[] else if k=108∨k=110 then .func (.func 160) #[] #[] else .nilFunc
theorem aNE(k:Int)(w:World):Cz 156 #[.int .u8 k] w (Rt (Gb k) w):=by
 refine aO func156 ntmps156 ?_;refine aA ?_;refine aG rfl (fun h1=>?_) (fun h1=>?_)
 ·refine aA ?_;exact dH (by rw[Gb,if_pos h1])
 refine aA ?_;refine aG rfl (fun h2=>?_) (fun h2=>?_)
 ·refine aA ?_;exact dH (by rw[Gb,if_neg h1,if_pos h2])
 refine aA ?_;refine aG rfl (fun h3=>?_) (fun h3=>?_)
 ·refine aA ?_;refine aG rfl (fun _=>?_) (fun h=>absurd h3 h);refine aA ?_;exact dH (by rw[Gb,if_neg h1,if_neg h2,if_pos (.inl h3)])
 ·refine aA ?_;refine aG rfl (fun h4=>?_) (fun h4=>?_)
  ·refine aA ?_;exact dH (by rw[Gb,if_neg h1,if_neg h2,if_pos (.inr h4)])
  ·refine aA ?_;exact dH (by rw[Gb,if_neg h1,if_neg h2,if_neg (by omega)])
theorem aPC{k:Int}(hk:k=115∨k=114∨k=108∨k=110):∃f:FuncId,Gb k=.func (.func f) #[] #[]∧eX Tryz.prog f=true∧∀(L:FL) (d:cH) (x:dU) (hrl:d.aR.length≤100) (hok:xS d x) (w:World) (F:Nat→Prop) (hp:(gQ L d x).sat F w) (hF:∀b,F b→b < w.heap.size),
  Cz f #[.pointer (some ⟨L.f,0,none⟩)] w (Wr (.tuple #[]) (gQ L d (Gc k d x)) w F):=by
 rcases hk with rfl | rfl | rfl | rfl
 ·exact⟨_,rfl,(by kernel_rfl),aLf⟩
 ·exact⟨_,rfl,(by kernel_rfl),aLg⟩
 ·exact⟨_,rfl,(by kernel_rfl),Ze⟩
 ·exact⟨_,rfl,(by kernel_rfl),Ze⟩
theorem aQ4(L:BL)(ms:List Int)(ws:List (Option jA))(aZ:Int)(i:Nat)(hi:i < ms.length)(h0:oK ws i=0)(w:World)(hR:Hf w L ms ws aZ):
  Cz 190 #[.pointer (some ⟨L.b,0,none⟩),iv (i:Int)] w (Rt (.tuple #[.agg #[iv 0,.bool false,iv 0,.int .u32 0],.bool false]) w):=by
 have k1:=hR.r0.at_ (j:=1) rfl
 obtain⟨A,c,k2⟩:=hR.wt i hi;rw[h0] at k2
 have hin:bZ ms.length (i:Int)=true:=decide_eq_true (by omega)
 refine aO func190 ntmps190 ?_;refine aA ?_;refine bY fun g1=>?_;refine aA ?_;refine aS (fun w1 t=>aAC L ms ws aZ i w1 (hR.below (t.below (by simp)))) ?_;rw[hin];refine aB ?_;exact yY (vs:=[iv 0,.bool false,iv 0,.int .u32 0]) rfl (by kernel_rfl) rfl rfl (aM.whole 0 rfl) rfl fun w1 t=>⟨rfl,t.below (by simp)⟩
theorem aNH(L:HL)(s:aC)(x:aU)(i:Nat)(hi:i < s.aD.length)(h0:oK x.wt i=0)(w:World)(hR:tD w L s x):
  Cz 151 #[.pointer (some ⟨L.h,0,none⟩),iv (i:Int)] w (Rt (.tuple #[.agg #[iv 0,iv 0,.bool false,.int .u32 0],.bool false]) w):=by
 have k3:=hR.r0.at_ (j:=3) rfl
 refine aO func151 ntmps151 ?_;refine aA ?_;refine bY fun g1=>?_;refine aA ?_;refine aS (fun w1 t=>aQ4 L.B (jR s) x.wt x.aZ i (by rw[Eu];exact hi) h0 w1 (hR.bus.below (t.below (by simp)))) ?_;refine aA ?_;refine bY fun g2=>?_;refine aB ?_;exact yY (vs:=[iv 0,iv 0,.bool false,.int .u32 0]) rfl (by kernel_rfl) rfl rfl (aM.whole 1 rfl) rfl fun w1 t=>⟨rfl,t.below (by simp)⟩
end
section
section
variable{P:Program}{ops:Array Oper}{Q:Exit→Act→World→Prop}{N:cE}{w0:World}{e e':Env}{R R':List Piece}{H H':List HP}{rest:List Oper}{d:Nat}{ty:TypeId}{pos:String}{aH:Array Edge}
def isIface(P:Program)(t:TypeId):Bool:=match P.underlying t with
 | some (.interface _)=>true
 | _=>false
def aF5(P:Program)(t:TypeId):Bool:=match P.underlying t with
 | some (.interface _)=>false
 | some _=>true
 | none=>false
theorem Qj{x:Operand}{t:TypeId}{v:Value}(hx:e.ev x=some v)(ht:aF5 P t=true:=by kernel_rfl):bR P N w0 e R H ⟨some d,.makeInterface t x,ty,pos,aH,none⟩ (.iface t v):=gN fun a w hr=>by
 unfold aF5 at ht;cases hu:P.underlying t with
 | none=>rw[hu] at ht;cases ht
 | some u=>cases u<;>first | (rw[hu] at ht;cases ht;done) | simp[execOp,hr.ev hx,Instr.makeInterface,run_underlying hu]
theorem aK6(w:World)(n:Nat)(t:TypeId){f:Array (String×TypeId)}(hu:P.underlying t=some (.interface f)):(Op.equalIn (n+1) t .nilIface .nilIface).run P w=.ok true w:=by simp[Op.equalIn,run_underlying hu]
theorem aK4(w:World)(n:Nat)(t:TypeId){f:Array (String×TypeId)}(u:TypeId)(v:Value)(hu:P.underlying t=some (.interface f)):(Op.equalIn (n+1) t (.iface u v) .nilIface).run P w=.ok false w:=by simp[Op.equalIn,run_underlying hu]
theorem aHf{x:Operand}{t u:TypeId}{v:Value}{b:Bool}(hx:e.ev x=some v)(hv:(v=.nilIface∧b=true)∨(∃u y,v=.iface u y)∧b=false)(ht:isIface P t=true:=by kernel_rfl):bR P N w0 e R H ⟨some d,.binOp .eql t x (.const .nilIface) u,ty,pos,aH,none⟩ (.bool b):=gN fun a w hr=>by
 have h2:=hr.ev (show e.ev (.const .nilIface)=some .nilIface from rfl)
 unfold isIface at ht;split at ht
 ·rename_i f1 hu
  rcases hv with⟨rfl,rfl⟩ | ⟨⟨u,y,rfl⟩,rfl⟩
  ·have h4:(Op.equal t .nilIface .nilIface).run P w=.ok true w:=aK6 w 9999 t hu
   simp[execOp,hr.ev hx,h2,eqGuard,binOp,h4]
  ·have h4:(Op.equal t (.iface u y) .nilIface).run P w=.ok false w:=aK4 w 9999 t u y hu
   simp[execOp,hr.ev hx,h2,eqGuard,binOp,h4]
 ·cases ht
theorem aJa(i:Nat){dst:Option Nat}{e':Env}{f:FuncId}{x:Operand}{name:String}{args:List Operand}{vs:List Value}{tys:Array TypeId}{tx:TypeId}{u u':Value}{p:HP}{v:Value}(q:HP)(hf:eX P f=true)(hx:e.ev x=some (.iface tx u))(hm:∀w,(method (P.types.size+Made.depth) tx u name).run P w=.ok (f,u') w)(ha:e.fO args=some vs)(hi:H[i]? =some p)
  (hd:match dst with | some d=>d < N.n∧e'=(d,v)::e | none=>e'=e)
  (hc:∀w F,St w0 R H w→p.sat F w→(∀b,F b→b < w.heap.size)→(∀q∈R,q.Le ⟨w,fun b=>b < w.heap.size∧¬F b⟩)→Calls P f (u'::vs).toArray w fun y w'=>y=.returned v∧∃F',q.sat F' w'∧iC w w' F F')
  (k:XK N w0 (wpList P ops Q rest) e' R (H.set i q)):XK N w0 (wpList P ops Q (⟨dst,.call {callee:=.invoke x name,args:=args.toArray,argTypes:=tys},ty,pos,aH,none⟩::rest)) e R H:=fun a w hr st=>wpList_plain rfl fun K hK=>by
 unfold eX at hf;cases hq:P.funcs[f]? with
 | none=>simp[hq] at hf
 | some fn =>
  simp[hq] at hf;obtain⟨gF,mP⟩:=hf
  have hrun:(execOp a.eval (⟨dst,.call {callee:=.invoke x name,args:=args.toArray,argTypes:=tys},ty,pos,aH,none⟩:Oper)).run P w=.ok (.enter f (u'::vs).toArray) w:=by
   cases hb:fn.body with
   | none=>simp[hb] at mP
   | some c=>
    have h0:(#[Value.iface tx u]++(args.toArray.map a.eval))[0]? =some (.iface tx u):=by simp[Array.getElem?_append]
    simp[execOp,resolve,hr.ev hx,invoke,callMethod,hm,callFunc,hq,gF,hb,hr.fO ha]
  obtain⟨Z,F,hz,cR,hs,cY,eP⟩:=st.ex;unfold Oper.wp;rw[hrun];refine(hc w (F i) st (hs i p hi) (fun b hb=>(cY i b hb).2) (fun q hq b hb=>⟨⟨hz b (cR q hq b hb).1,fun nP=>(cY i b nP).1 (cR q hq b hb).1⟩,(cR q hq b hb).2⟩)).mono fun y w' ⟨hy,F',nH,ht⟩=>?_;subst hy
  have st':St w0 R (H.set i q) w':=by
   have hlt:i < H.length:=by
    rcases Nat.lt_or_ge i H.length with h | h
    ·exact h
    ·rw[List.getElem?_eq_none h] at hi;cases hi
   refine⟨ht.os.trans st.os,ht.tape.trans st.tape,ht.output.trans st.output,Nat.le_trans st.size ht.size,Z,fun j=>if j=i then F' else F j,fun b h=>Nat.lt_of_lt_of_le (hz b h) ht.size,fun p hp b h=>?_,fun j r hj=>?_,fun j b h=>?_,fun j k b kI h=>?_⟩
   ·exact⟨(cR p hp b h).1,(ht.old b (hz b (cR p hp b h).1) (fun nP=>(cY i b nP).1 (cR p hp b h).1)).trans (cR p hp b h).2⟩
   ·rw[List.getElem?_set] at hj;split at hj
    ·rename_i e;subst e
     first | (rw[if_pos hlt] at hj;cases hj) | cases hj
     simpa using nH
    ·rename_i e
     simp only[if_neg (Ne.symm e)];exact r.loc _ _ _ (hs j r hj) (fun b hb=>ht.old b (cY j b hb).2 (eP j i b (Ne.symm e) hb))
   ·dsimp only at h;split at h
    ·refine⟨fun fF=>?_,(ht.new b h).2⟩;rcases(ht.new b h).1 with h | h
     ·exact(cY i b h).1 fF
     ·have:=hz b fF;omega
    ·exact⟨(cY j b h).1,Nat.lt_of_lt_of_le (cY j b h).2 ht.size⟩
   ·dsimp only at h⊢;split at h<;>split
    ·rename_i h1 h2;omega
    ·rename_i e1 e2
     intro hk;rcases(ht.new b h).1 with h | h
     ·exact eP i k b (by omega) h hk
     ·have:=(cY k b hk).2;omega
    ·rename_i e1 e2
     intro hk;rcases(ht.new b hk).1 with hk | hk
     ·exact eP j i b (by omega) h hk
     ·have:=(cY j b h).2;omega
    ·exact eP j k b kI h
  cases dst with
  | none=>dsimp only at hd;subst hd;exact hK _ _ (k _ _ hr st')
  | some d=>dsimp only at hd;obtain⟨hd,rfl⟩:=hd;exact hK _ _ (k _ _ (hr.put hd v) st')
end
end
section
open Go.RowKit Go.Shelf
attribute [local go_sem] Oper.semAt_some
def dV(zs:List Int):List Value:=zs.map (Value.int .u32)
end
section
section
variable{P:Program}{N:cE}{w0:World}{e:Env}{R:List Piece}{H:List HP}{Q:Exit→Act→World→Prop}{ops:Array Oper}{rest:List Oper}
variable{d:Nat}{ty:TypeId}{pos:String}{aH:Array Edge}
theorem aEH{t el:TypeId}(ht:P.underlying t=some (.slice el)):P.underlying t=some (.slice (P.elem t)):=by
 unfold Program.elem;rw[ht]
theorem elem_eq{t el:TypeId}(ht:P.underlying t=some (.slice el)):P.elem t=el:=by unfold Program.elem;rw[ht]
theorem aKv{t el:TypeId}{sz n c k:Nat}{A:Option Addr}{kd:IntKind}(ht:P.underlying t=some (.slice el))(hsz:(P.info? el).map (·.size)=some sz)(hk:k≤c)(w:World):
  ∃A',(0 < k→(∃b off,A=some ⟨b,off,none⟩)→A'=A)∧(Instr.sliceAt t (.slice A n c) none (some (.int kd (k:Int))) none).run P w=.ok (.slice A' k c) w:=by
 obtain⟨i,hi,hs⟩:=Option.map_eq_some_iff.1 hsz
 have hel:=elem_eq ht
 refine⟨_,?_,by rw[run_sliceAt_slice w t _ _ _ _ (aEH ht),run_slice_h w t A n c (aEH ht) kd k (by omega) (by omega),hel];simp[sizeOf,typeInfo,hi,sliced];rfl⟩;rintro h0 ⟨b,off,rfl⟩;split
 ·rfl
 ·simp[Addr.add]
theorem aIP(k:Nat){x hi:Operand}{t el:TypeId}{sz n c:Nat}{A:Option Addr}{kd:IntKind}{j:Int}(ht:P.underlying t=some (.slice el))(hsz:(P.info? el).map (·.size)=some sz)(hx:e.ev x=some (.slice A n c))(hh:e.ev hi=some (.int kd j))(hj:j=(k:Int))(hk:k≤c)(hd:d < N.n)
  (kk:∀A',(0 < k→(∃b off,A=some ⟨b,off,none⟩)→A'=A)→XK N w0 (wpList P ops Q rest) ((d,.slice A' k c)::e) R H):XK N w0 (wpList P ops Q (⟨some d,.slice t x none (some hi) none,ty,pos,aH,none⟩::rest)) e R H:=
 rO rfl fun a w hr st=>by
  subst hj;obtain⟨A',h1,h2⟩:=aKv (P:=P) (kd:=kd) ht hsz hk w (n:=n) (A:=A);exact⟨_,w,by simp only[execOp,hr.ev hx,Option.map_some,Option.map_none,hr.ev hh,Sem.run_bind,h2,Result.andThen_ok,Sem.run_pure],kk A' h1 _ _ (hr.put hd _) st⟩
end
theorem aI.aJN{p:Piece}{sz n k:Nat}{A A':Option Addr}{xs:List Value}(h:aI p sz A n xs)(hk:k≤n)(hA:0 < k→(∃b off,A=some ⟨b,off,none⟩)→A'=A):aI p sz A' k (xs.take (k*sz)):=by
 refine⟨by rw[List.length_take,h.1];exact Nat.min_eq_left (Nat.mul_le_mul_right _ hk),fun h0=>?_⟩;obtain⟨b,off,Pr,hz,hc⟩:=h.2 (by omega);refine⟨b,off,by rw[hA h0 ⟨b,off,Pr⟩,Pr],hz,fun j u hu=>hc j u ?_⟩;rw[List.getElem?_take] at hu;split at hu
 ·exact hu
 ·cases hu
def jG(l:List (Int×Int))(k:Int):Int:=((l.find? fun p=>decide (p.1=k)).map (·.2)).getD 0
def zU:List (Int×Int)→Int→Int→List (Int×Int)
 | [],k,v=>[(k,v)]
 | (a,b)::r,k,v=>if a=k then(k,v)::r else(a,b)::zU r k v
def vF(l:List (Int×Int)):List (Int×Value):=l.map fun p=>(p.1,iv p.2)
theorem aFI:∀(l:List (Int×Int)) (k:Int),(lX (vF l) k).getD (iv 0)=iv (jG l k)
 | [],k=>rfl
 | (a, b) :: l, k => by
  have ih:=aFI l k
  show(lX ((a,iv b)::vF l) k).getD _=_
  rw[Of];unfold jG;rw[List.find?_cons]
  by_cases h:a=k
  ·simp[h]
  ·simp only[h,if_false,decide_false,Bool.false_eq_true];exact ih
theorem aFC:∀(l:List (Int×Int)) (k v:Int),nG (vF l) k (iv v)=vF (zU l k v)
 | [],k,v=>rfl
 | (a,b)::l,k,v=>by
  show nG ((a,iv b)::vF l) k _=vF (if a=k then _ else _)
  unfold nG
  by_cases h:a=k
  ·rw[if_pos h,if_pos h];rfl
  ·rw[if_neg h,if_neg h,aFC l k v];rfl
end
section
structure Cn where
 l:List (Int×Int)
 lQ:Bool
def qZ(nd:Nat)(c:Cn)(dev:Int):Int×Cn:=if c.lQ then(6,c) else if ¬(0≤dev∧dev < nd) then(4,c) else if 7≤jG c.l dev then(8,c) else(0,⟨zU c.l dev (IntKind.i64.wrap (jG c.l dev+1)),c.lQ⟩)
def uD(nd:Nat)(c:Cn)(dev:Int):Int×Cn:=if c.lQ then(6,c) else if ¬(0≤dev∧dev < nd) then(4,c) else if jG c.l dev≤0 then(6,c) else(0,⟨zU c.l dev (IntKind.i64.wrap (jG c.l dev - 1)),c.lQ⟩)
def xH(c:Cn):Int×Cn:=if c.lQ then(6,c) else(0,⟨c.l,true⟩)
def xI(c:Cn):Int×Cn:=if c.lQ then(0,⟨c.l,false⟩) else(6,c)
def qN(gc gm:Nat)(v:Value)(c:Cn):HP:=HP.many [HP.aE gc 277 [v,.map (some gm),.bool c.lQ],HP.map gm (vF c.l)]
section
variable{N:cE}{w0:World}{e:Env}{R:List Piece}{H:List HP}{Q:Exit→Act→World→Prop}{ops:Array Oper}{rest:List Oper}{d:Nat}{ty:TypeId}{pos:String}{aH:Array Edge}
theorem Uc{x y:Operand}(i:Nat){r:Nat}{l:List (Int×Int)}{k:Int}(hi:H[i]? =some (HP.map r (vF l)))(kk:XK N w0 (wpList Tryz.prog ops Q rest) ((d,iv (jG l k))::e) R H)(hx:e.ev x=some (.map (some r)):=by rfl)(hy:e.ev y=some (iv k):=by rfl)(hd:d < N.n:=by decide):
  XK N w0 (wpList Tryz.prog ops Q (⟨some d,.lookup 275 x y false,ty,pos,aH,none⟩::rest)) e R H:=by
 refine Yj (kt:=3) (et:=3) (kd:=.i64) (z:=iv 0) (l:=vF l) false (by kernel_rfl) (by kernel_rfl) (by kernel_rfl) hx hy (fun w1 st=>st.map hi) hd ?_;simp only[Bool.false_eq_true,if_false,aFI];exact kk
theorem aFS{x y u:Operand}(i:Nat){r:Nat}{l:List (Int×Int)}{k v:Int}(hi:H[i]? =some (HP.map r (vF l)))(kk:XK N w0 (wpList Tryz.prog ops Q rest) e R (H.set i (HP.map r (vF (zU l k v)))))(hx:e.ev x=some (.map (some r)):=by rfl)(hy:e.ev y=some (iv k):=by rfl)(hu:e.ev u=some (iv v):=by rfl):
  XK N w0 (wpList Tryz.prog ops Q (⟨none,.mapUpdate 275 x y u,ty,pos,aH,none⟩::rest)) e R H:=by
 refine Hg (kt:=3) (et:=3) (kd:=.i64) (l:=vF l) i (by kernel_rfl) (by kernel_rfl) hi hx hy hu ?_;rw[aFC];exact kk
end
theorem aHs(gc n k:Nat)(A:Option Addr)(dev:Int)(w:World)(h0:fK w gc 0 (.slice A n k)):
  Cz 245 #[pt gc,iv dev] w (Rt (.bool (bZ n dev)) w):=by
 refine aO func245 ntmps245 ?_;refine aA ?_;refine cG (t:=7) rfl (fun h=>?_) (fun h=>?_)
 ·refine aA ?_;refine iS (by simp) ?_;unfold bZ
  congr 1
  simp;omega
 ·refine aA ?_;refine iS (by simp) ?_
  have:bZ n dev=false:=decide_eq_false (by omega)
  rw[this]
section
variable(gc gm n k:Nat)(A:Option Addr)(c:Cn)(w:World)(F:Nat→Prop)
theorem aPO(dev:Int)(hp:(qN gc gm (.slice A n k) c).sat F w)(hF:∀b,F b→b < w.heap.size):
  Cz 243 #[pt gc,iv dev] w (Wr (iv (qZ n c dev).1) (qN gc gm (.slice A n k) (qZ n c dev).2) w F):=by
 refine cT func243 ntmps243 hp hF ?_;obtain⟨l,lQ⟩:=c;unfold qN qZ;dsimp only;refine aW 0 0 ?_;refine aW 1 1 ?_;cases lQ
 ·refine aA ?_;refine aS (fun w1 t=>aHs gc n k A dev w1 ((uG (t.aE (i:=1) rfl)).at_ (j:=0) rfl)) ?_
  by_cases hin:0≤dev∧dev < (n:Int)
  ·rw[show bZ n dev=true from decide_eq_true hin,if_neg (by simp),if_neg (by simpa using hin)];refine aA ?_;refine Uc 0 rfl ?_;refine eK ?_;refine aA ?_;refine aG rfl (fun h7=>?_) (fun h7=>?_)
   ·rw[if_pos (by omega)];refine aA ?_;refine aJ 1 1 ?_;refine aJ 0 0 ?_;exact bP 0 hF
   ·rw[if_neg (by omega)];refine aA ?_;refine Uc 0 rfl ?_;refine kd (Mg rfl rfl rfl) ?_;refine aFS 0 rfl ?_;dsimp only[List.set];refine aA ?_;refine aJ 1 1 ?_;refine aJ 0 0 ?_;exact bP 0 hF
  ·rw[show bZ n dev=false from decide_eq_false hin,if_neg (by simp),if_pos (by simpa using hin)];refine aA ?_;refine aJ 1 1 ?_;refine aJ 0 0 ?_;exact bP 0 hF
 ·rw[if_pos rfl];refine aA ?_;refine aJ 1 1 ?_;refine aJ 0 0 ?_;exact bP 0 hF
theorem aPM(dev:Int)(hp:(qN gc gm (.slice A n k) c).sat F w)(hF:∀b,F b→b < w.heap.size):
  Cz 264 #[pt gc,iv dev] w (Wr (iv (uD n c dev).1) (qN gc gm (.slice A n k) (uD n c dev).2) w F):=by
 refine cT func264 ntmps264 hp hF ?_;obtain⟨l,lQ⟩:=c;unfold qN uD;dsimp only;refine aW 0 0 ?_;refine aW 1 1 ?_;cases lQ
 ·refine aA ?_;refine aS (fun w1 t=>aHs gc n k A dev w1 ((uG (t.aE (i:=1) rfl)).at_ (j:=0) rfl)) ?_
  by_cases hin:0≤dev∧dev < (n:Int)
  ·rw[show bZ n dev=true from decide_eq_true hin,if_neg (by simp),if_neg (by simpa using hin)];refine aA ?_;refine Uc 0 rfl ?_;refine eK ?_;refine aA ?_;refine aG rfl (fun h7=>?_) (fun h7=>?_)
   ·rw[if_pos (by omega)];refine aA ?_;refine aJ 1 1 ?_;refine aJ 0 0 ?_;exact bP 0 hF
   ·rw[if_neg (by omega)];refine aA ?_;refine Uc 0 rfl ?_;refine kd (Me rfl rfl rfl) ?_;refine aFS 0 rfl ?_;dsimp only[List.set];refine aA ?_;refine aJ 1 1 ?_;refine aJ 0 0 ?_;exact bP 0 hF
  ·rw[show bZ n dev=false from decide_eq_false hin,if_neg (by simp),if_pos (by simpa using hin)];refine aA ?_;refine aJ 1 1 ?_;refine aJ 0 0 ?_;exact bP 0 hF
 ·rw[if_pos rfl];refine aA ?_;refine aJ 1 1 ?_;refine aJ 0 0 ?_;exact bP 0 hF
theorem aPK(hp:(qN gc gm (.slice A n k) c).sat F w)(hF:∀b,F b→b < w.heap.size):
  Cz 272 #[pt gc] w (Wr (iv (xH c).1) (qN gc gm (.slice A n k) (xH c).2) w F):=by
 refine cT func272 ntmps272 hp hF ?_;obtain⟨l,lQ⟩:=c;unfold qN xH;dsimp only;refine aW 0 0 ?_;cases lQ
 ·refine aA ?_;refine aJ 0 0 ?_;exact bP 0 hF
 ·refine aA ?_;refine aJ 0 0 ?_;exact bP 0 hF
theorem aPL(hp:(qN gc gm (.slice A n k) c).sat F w)(hF:∀b,F b→b < w.heap.size):
  Cz 274 #[pt gc] w (Wr (iv (xI c).1) (qN gc gm (.slice A n k) (xI c).2) w F):=by
 refine cT func274 ntmps274 hp hF ?_;obtain⟨l,lQ⟩:=c;unfold qN xI;dsimp only;refine aW 0 0 ?_;cases lQ
 ·refine aA ?_;refine aJ 0 0 ?_;exact bP 0 hF
 ·refine aA ?_;refine aJ 0 0 ?_;exact bP 0 hF
end
theorem aPP(gc:Nat)(b:Bool)(w:World)(h2:fK w gc 2 (.bool b)):Cz 239 #[pt gc] w (Rt (.bool b) w):=by
 refine aO func239 ntmps239 ?_;refine aA ?_;exact dH
end
section
theorem aQM{P:Program}{w:World}{t ty e:TypeId}{i:TypeInfo}(ht:P.underlying t=some (.slice e))(hi:P.info? e=some i)(A:Option Addr)(x:Value){m c:Nat}{B:Option Addr}(hx:x=.slice B m c)(hm:0 < m)(hb:m*i.bytes≤140737488355328):
  (Builtin.append_ #[t,t] ty #[.slice A 0 0,x]).run P w=(Builtin.append_ #[t,t] ty #[sn,x]).run P w:=by
 subst hx
 have h0:¬0+m≤0:=by omega
 have hn:Builtin.nextslicecap (0+m) 0=m:=by
  unfold Builtin.nextslicecap;rw[Nat.zero_add];simp;omega
 have hcap:¬(Builtin.nextslicecap (0+m) 0*i.bytes>2 ^ 48):=by
  rw[hn];omega
 have hm0:¬m=0:=by omega
 have mZ:¬(281474976710656 < Builtin.nextslicecap m 0*i.bytes):=by
  rw[←Nat.zero_add m]
  simpa using hcap
 cases A with
 | none=>rfl
 | some a=>simp[Builtin.append_,run_underlying ht,sizeOf,typeInfo,hi,Builtin.lenOf,Builtin.firstCells,h0,hcap,hm0,mZ,loadCells,loadCellsFrom]
section
variable{P:Program}{ops:Array Oper}{Q:Exit→Act→World→Prop}{N:cE}{w0:World}{e e':Env}{R R':List Piece}{H H':List HP}{rest:List Oper}{d:Nat}{ty:TypeId}{pos:String}{aH:Array Edge}
theorem aJh(sz bytes m:Nat){x y:Operand}{t el:TypeId}{c':Nat}{A0 A:Option Addr}{news:List Value}(ht:P.underlying t=some (.slice el))(hT:(P.info? el).map (fun i=>(i.zero.map (fun z=>z.cells.size),i.size,i.bytes))=some (some sz,sz,bytes))(hpos:0 < sz)
  (hx:e.ev x=some (.slice A0 0 0)) (hy:e.ev y=some (.slice A m c')) (hs:∀w,St w0 R H w→∃B,Sl w B sz A m news) (h1:∀u∈news,u.oneCell'=true) (hm:0 < m) (h63:(m:Int)≤9223372036854775807) (hbytes:m*bytes≤140737488355328) (hd:d < N.n)
  (k:∀A' k',XK N w0 (wpList P ops Q rest) ((d,.slice A' m k')::e) R (HP.own el sz (.slice A' m k') m news::H)):
  XK N w0 (wpList P ops Q (⟨some d,.call {callee:=.builtin .append,args:=#[x,y],argTypes:=#[t,t]},ty,pos,aH,none⟩::rest)) e R H:=by
 obtain⟨ti,z,Ox,hz,hsz,hby,hzs⟩:=aCs hT;refine rO rfl fun a w hr st=>?_;obtain⟨B,qV⟩:=hs w st;obtain⟨v',w',hrun,h2,h3,h4⟩:=aEW (P:=P) w w.heap.size t ty el ti z sz bytes ht Ox hz hsz hby hzs hpos (sn) 0 [] (World.ownsRow_nil _ _ _ _) B A m c' news qV h1 (by unfold maxLen;omega) (by simpa using hbytes) (Nat.le_refl _);rw[Nat.zero_add,List.nil_append] at h2;obtain⟨A',k',rfl,_⟩:=aFx h2;rw[←aQM ht Ox A0 (.slice A m c') rfl hm (by rw[hby];exact hbytes)] at hrun
 have hb:Below w.heap.size w w':=⟨h3.os,h3.tape,h3.output,h3.size,fun b hb=>h3.block b hb (fun he=>by cases he)⟩
 refine⟨_,w',by simp only[execOp,resolve,invoke,builtin,hr.ev hx,hr.ev hy,List.map_toArray,List.map_cons,List.map_nil,Sem.run_bind,Sem.run_pure,Result.andThen_ok,hrun],k A' k' _ _ (hr.put hd _) (st.new hb ⟨fun g hg=>?_,?_⟩)⟩
 ·have:=h2.lt _ hg
  exact this
 ·exact⟨h2.1,h2.2.imp id fun⟨g,cap,cur,e1,_,e3⟩=>⟨g,cap,cur,e1,Nat.zero_le _,e3⟩⟩
end
section
variable{N:cE}{w0:World}{e:Env}{R:List Piece}{H:List HP}{d:Nat}{ty:TypeId}{pos:String}{aH:Array Edge}
theorem aPl{x lo hi mx:Operand}{t el:TypeId}{A:Option Addr}{n c l h m sz:Nat}{kl kh km:IntKind}[hT:kT t el sz](hx:e.ev x=some (.slice A n c))(hl:e.ev lo=some (.int kl (l:Int)))(hh:e.ev hi=some (.int kh (h:Int)))(hm:e.ev mx=some (.int km (m:Int)))(h1:l≤h)(h2:h≤m)(h3:m≤c):
  bR Tryz.prog N w0 e R H ⟨some d,.slice t x (some lo) (some hi) (some mx),ty,pos,aH,none⟩ (.slice (if m=l then A else A.map (·.add (l*sz))) (h - l) (m - l)):=gN fun a w hr=>by
 obtain⟨i0,nI,hz⟩:=Option.map_eq_some_iff.1 hT.s;simp[execOp,hr.ev hx,hr.ev hl,hr.ev hh,hr.ev hm,Instr.sliceAt,Instr.slice,Instr.sliceBounds,run_sliceBound,run_underlying hT.h,sizeOf,typeInfo,nI,hz,h1,h2,h3]
theorem aHa{x lo:Operand}{t el:TypeId}{A:Option Addr}{n c l sz:Nat}{kl:IntKind}[hT:kT t el sz](hx:e.ev x=some (.slice A n c))(hl:e.ev lo=some (.int kl (l:Int)))(h1:l≤n):
  bR Tryz.prog N w0 e R H ⟨some d,.slice t x (some lo) none none,ty,pos,aH,none⟩ (.slice (if c=l then A else A.map (·.add (l*sz))) (n - l) (c - l)):=gN fun a w hr=>by
 obtain⟨i0,nI,hz⟩:=Option.map_eq_some_iff.1 hT.s;simp[execOp,hr.ev hx,hr.ev hl,Instr.sliceAt,Instr.slice,Instr.sliceBounds,run_sliceBound,run_underlying hT.h,sizeOf,typeInfo,nI,hz,h1]
theorem aR0{K:Act→World→Prop}(i:Nat){n sz:Nat}{t:TypeId}{v:Value}{xs:List Value}(hi:H[i]? =some (HP.own t sz v n xs))(hn:0 < n)(h:∀g c,v=.slice (some ⟨g,0,none⟩) n c→n≤c→XK N w0 K e R H):XK N w0 K e R H:=fun a w hr st=>by
 obtain⟨_,h2⟩:=st.own hi;rcases h2 with⟨_,h3⟩ | ⟨g',cap,cur,hv,_,_,h3,_⟩
 ·omega
 ·exact h g' cap hv h3 a w hr st
theorem aR7{K:Act→World→Prop}(j i:Nat){p:Prop}{ps:List HP}(hj:H[j]? =some (HP.many ps))(hi:ps[i]? =some (Na p))(h:p→XK N w0 K e R H):XK N w0 K e R H:=fun a w hr st=>by
 obtain⟨F,hF⟩:=(st.take hj hi).sat (i:=0) rfl;exact h hF a w hr st
end
def wL(g n:Nat)(vs:List Value)(ws:List (Option jA)):List HP:=HP.aE g 311 vs::Na (vs.length=n)::(List.range n).map fun i=>QH (vs.getD i undef) (ws[i]?).join
theorem aJ3{g n i:Nat}{vs:List Value}{ws:List (Option jA)}(hi:i < n):(wL g n vs ws)[i+2]? =some (QH (vs.getD i undef) (ws[i]?).join):=by
 unfold wL;rw[List.getElem?_cons_succ,List.getElem?_cons_succ,List.getElem?_map,List.getElem?_range hi];rfl
theorem aJ4{g n i:Nat}{vs:List Value}{ws:List (Option jA)}{v:Value}{q:Option jA}(hi:i < n)(hv:vs.length=n)(hw:ws.length=n):
  (((((wL g n vs ws).set 0 bX).set (i+2) bX).set (i+2) (QH v q)).set 0 (HP.aE g 311 (vs.set i v)))=wL g n (vs.set i v) (ws.set i q):=by
 refine List.ext_getElem? fun k=>?_
 match k with
 | 0=>rfl
 | 1=>
  show some (Na (vs.length=n))=some (Na ((vs.set i v).length=n))
  rw[List.length_set]
 | k + 2 =>
  unfold wL;simp only[List.set_cons_zero,List.set_cons_succ,List.getElem?_cons_succ,List.set_set,List.getElem?_map];rw[List.getElem?_set]
  by_cases h:i=k
  ·subst h;rw[if_pos rfl,if_pos (by simpa using hi),List.getElem?_range hi];simp only[Option.map_some];rw[List.getD_eq_getElem?_getD,List.getElem?_set_self (by omega),List.getElem?_set_self (by omega)];rfl
  ·rw[if_neg h,List.getElem?_map];cases hr:(List.range n)[k]? with
   | none=>rfl
   | some j=>
    obtain⟨_,rfl⟩:=List.getElem?_eq_some_iff.1 hr;simp only[List.getElem_range,Option.map_some];rw[List.getD_eq_getElem?_getD,List.getD_eq_getElem?_getD,List.getElem?_set_ne h,List.getElem?_set_ne h]
section
variable{N:cE}{w0:World}{e:Env}{R:List Piece}{H:List HP}{K:Act→World→Prop}{L:BL}{ms:List Int}{ws:List (Option jA)}{aZ:Int}
def Ww(L:BL)(ms:List Int)(aZ:Int):List Value:=[.slice (some ⟨L.gr,0,none⟩) ms.length ms.length,.slice (some ⟨L.gw,0,none⟩) ms.length ms.length,iv aZ]
def aE7(L:BL)(ms:List Int)(ws:List (Option jA))(vs:List Value)(i:Nat):HP:=HP.many (((wL L.gw ms.length vs ws).set 0 bX).set (i+2) bX)
theorem aHW(j i:Nat)(hj:H[j]? =some (xV L ms ws aZ))(hi:i < ms.length)(h:∀vs:List Value,vs.length=ms.length→
      XK N w0 K e R (QH (vs.getD i undef) (ws[i]?).join::HP.aE L.gw 311 vs::aE7 L ms ws vs i::HP.aE L.b 269 (Ww L ms aZ)::H.set j (HP.many [bX,HP.aE L.gr 3 (aN ms),bX]))):XK N w0 K e R H:=by
  have hlt:=(List.getElem?_eq_some_iff.1 hj).1
  refine qF j 0 hj rfl ?_;refine qF (j+1) 2 (by rw[List.getElem?_cons_succ,List.getElem?_set_self hlt]) rfl ?_;refine aAR 0 rfl fun vs=>?_;refine aR7 0 1 rfl rfl fun hv=>?_;refine qF 0 0 rfl rfl ?_;refine qF 1 (i+2) rfl (p:=QH (vs.getD i undef) (ws[i]?).join) ?_ ?_
  · show((wL L.gw ms.length vs ws).set 0 bX)[i+2]? =_
    rw[List.getElem?_set_ne (by omega),aJ3 hi]
  · have h:=h vs hv
    simp only[List.set_cons_succ,List.set_cons_zero,List.set_set];exact h
theorem aId(j i:Nat){vs:List Value}{v:Value}{q:Option jA}(hj:H[j]? =some (HP.many [bX,HP.aE L.gr 3 (aN ms),bX]))(hi:i < ms.length)(hv:vs.length=ms.length)(hw:ws.length=ms.length)
  (h:XK N w0 K e R (H.set j (xV L ms (ws.set i q) aZ))):XK N w0 K e R (QH v q::HP.aE L.gw 311 (vs.set i v)::aE7 L ms ws vs i::HP.aE L.b 269 (Ww L ms aZ)::H):=by
 have hlt:=(List.getElem?_eq_some_iff.1 hj).1
 have hlen:(wL L.gw ms.length vs ws).length=ms.length+2:=by simp[wL]
 refine qH 1 (i+2) rfl ?_ ?_
 ·rw[List.getElem?_set_self (by simp[hlen];omega)]
 dsimp only[List.set];refine qH 0 0 rfl ?_ ?_
 ·rw[List.set_set,List.getElem?_set_ne (by omega),List.getElem?_set_self (by simp[hlen])]
 rw[aJ4 hi hv hw];dsimp only[List.set];refine uJ 0 (f:=fun vs:List Value=>HP.many (wL L.gw ms.length vs (ws.set i q))) (vs.set i v) rfl ?_;dsimp only[List.set];refine qH (j+1) 2 (by rw[List.getElem?_cons_succ];exact hj) rfl ?_;dsimp only[List.set];refine qH j 0 (by rw[List.getElem?_set_self hlt]) rfl ?_;rw[List.set_set];exact h
end
theorem aQ3(L:BL)(ms:List Int)(ws:List (Option jA))(aZ:Int)(i:Nat)(hi:i < ms.length)(hw:ws.length=ms.length)(t:jA)(ht:(ws[i]?).join=some t)(w:World)(F:Nat→Prop)(hp:(xV L ms ws aZ).sat F w)(hF:∀b,F b→b < w.heap.size):
  Cz 190 #[.pointer (some ⟨L.b,0,none⟩),iv (i:Int)] w (Wr (.tuple #[.agg #[iv t.id,.bool t.wr,iv t.cF,.int .u32 t.val],.bool true]) (xV L ms (ws.set i none) aZ) w F):=by
 have hin:bZ ms.length (i:Int)=true:=decide_eq_true (by omega)
 refine cT func190 ntmps190 hp hF ?_;generalize cP:(⟨w,fun b=>b < w.heap.size∧¬F b⟩:Piece)=R0;refine aA ?_;refine bY fun g1=>?_;refine aA ?_;refine aS (fun w1 st=>aAC L ms ws aZ i w1 (st.aH4 1 rfl)) ?_;rw[hin];refine aHW 1 i rfl hi fun vs hv=>?_;rw[ht];dsimp only[List.set];refine aR0 0 rfl (by decide) fun g c hg hc=>?_
 have Ug:vs[i]? =some (.slice (some ⟨g,0,none⟩) 1 c):=by
  obtain⟨v,h1⟩:=get_some (l:=vs) (i:=i) (by omega);rw[List.getD_eq_getElem?_getD,h1] at hg;rw[h1];exact congrArg some hg
 rw[hg];refine aA ?_;refine kd (dat i i) ?_;refine aA ?_;refine kd (bH rfl (Rd.aE 1 rfl Ug)) ?_;refine aA ?_;refine kd (dat i i) ?_;refine aA ?_;refine kd (bH rfl (Rd.aE 1 rfl Ug)) ?_;refine aA ?_;refine iZ [1,2,3,7,9,10,11] ?_;refine bJ 0 ?_;refine aK 1 ?_;refine aK 2 ?_;refine aK 3 ?_;refine bJ 4 ?_;refine bJ 5 ?_;refine bJ 6 ?_;refine aK 7 ?_;refine bJ 8 ?_;refine aK 9 ?_;refine aK 10 ?_ (hi:=rfl) (cM:=aPl (l:=1) (h:=1) (m:=1) rfl rfl rfl rfl (by omega) (by omega) hc);refine aK 11 ?_ (hi:=rfl) (cM:=dat i i);refine aL 12 ?_;refine eO rfl rfl ?_ (hs:=eL.mk 1 rfl cO.h rfl (by omega));dsimp only[List.set];refine cI ?_;refine dY ?_;refine aA ?_;refine kd (dat 0 0) ?_;refine kd (jM rfl (aM.of fun j v hv=>by rw[Nat.zero_add];exact Rd.own 0 rfl hv)) ?_;refine lO 4 rfl ?_;dsimp only[List.set];refine aA ?_;refine oA (q:=QH (.slice (some ⟨g,0,none⟩) 0 0) none) 0 rfl (fun _ _ _=>⟨_,rfl⟩) ?_;refine aId 1 i rfl hi hv hw ?_;dsimp only[List.set];subst cP;exact yY (vs:=[iv t.id,.bool t.wr,iv t.cF,.int .u32 t.val]) rfl (by kernel_rfl) rfl rfl (aM.whole 0 rfl) rfl fun w1 st=>⟨rfl,st.turns hF (by simp) (i:=1) rfl⟩
end
end Go.Proofs.YtkgekojkboingaaGreatDoor
