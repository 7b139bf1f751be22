/- package regs: Clear, Save, Restore, Read, Write. -/
import Derived.Test.YtkgekojkboingaaGreatDoorWorldNestsK3
namespace Go.Proofs.YtkgekojkboingaaGreatDoor
set_option linter.all false
set_option maxHeartbeats 4000000
set_option maxRecDepth 20000
open Go.RowKit Go.Proofs.Tryz
section
theorem aOV(w:World)(q:Piece):(⟨w,fun _=>False⟩:Piece).Le q:=fun _ h=>h.elim
theorem aQv(i:Nat)(r:Rg)(w:World):
  Cz 198 #[iv (i:Int),.agg r.cells.toArray] w (Rt (.int .u32 r.reset) w):=by
 refine aN func198 ntmps198 ?_;refine aA ?_;refine bN fun g1=>?_;dsimp only[Value.cells,Rg.cells];refine aA ?_;exact dI
theorem Zm(L:FL)(d:cG)(x:dS)(hrl:d.aS.length≤100)(hok:yB d x)(w:World)(F:Nat→Prop)(hp:(gR L d x).sat F w)(hF:∀b,F b→b < w.heap.size):
  Cz 160 #[.pointer (some ⟨L.f,0,none⟩)] w (Wr (.tuple #[]) (gR L d (Dz d x)) w F):=by
 refine cT func160 ntmps160 hp hF ?_;refine aA ?_
 refine bX 0 (gR L d ⟨d.aS.map (·.reset),x.saved,x.kept⟩) (fun w1 G t hG xE hle=>by
  have:=aFy L d x hrl 198 (by kernel_rfl) [] ⟨w1,fun _=>False⟩ (d.aS.map (·.reset)) (by simp) hok.now (fun i r v hr hv now w2 F2 _ _ _=>by
   rw[List.getElem?_map,hr] at hv;cases hv
   exact aQv i r w2) w1 G hG xE (aOV _ _)
  exact this) ?_
 refine Xq 0 rfl ?_;dsimp only[List.set,Ja];refine aA ?_;refine Xt (x:=Dz d x) 0 rfl ?_;exact fB 0 hF
theorem aLl(L:FL)(d:cG)(x:dS)(g1 i:Nat)(r:Rg)(v:Int)(hr:d.aS[i]? =some r)(hv:x.saved[i]? =some v)(w:World)(hR:Ci w L d x)(h1:fS w g1 0 (.pointer (some ⟨L.f,0,none⟩))):
  Cz 215 #[iv (i:Int),.agg r.cells.toArray,pt g1] w (Rt (.int .u32 (Zk x.kept r v)) w):=by
 have hlt:=(List.getElem?_eq_some_iff.1 hr).1
 have k3:=hR.r0.at_ (j:=3) rfl
 have k2:=hR.r0.at_ (j:=2) rfl
 have kv:=hR.saved.at_ (aBD hv)
 rw[Nat.zero_add] at kv;obtain⟨rs,kp⟩:=r;cases hk:x.kept
 ·rw[hk] at k3;refine aN func215 ntmps215 ?_;refine aA ?_;refine bN fun g2=>?_;dsimp only[Value.cells,Rg.cells];refine aA ?_;exact dI
 ·rw[hk] at k3;cases kp
  ·refine aN func215 ntmps215 ?_;refine aA ?_;refine bN fun g2=>?_;dsimp only[Value.cells,Rg.cells];refine aA ?_;exact dI
  ·refine aN func215 ntmps215 ?_;refine aA ?_;refine bN fun g2=>?_;dsimp only[Value.cells,Rg.cells];refine aB ?_;exact dI
theorem aLq(L:FL)(d:cG)(x:dS)(hrl:d.aS.length≤100)(hok:yB d x)(w:World)(F:Nat→Prop)(hp:(gR L d x).sat F w)(hF:∀b,F b→b < w.heap.size):
  Cz 196 #[.pointer (some ⟨L.f,0,none⟩)] w (Wr (.tuple #[]) (gR L d (Hy d x)) w F):=by
 have rB:=hok.saved
 refine cT func196 ntmps196 hp hF ?_;refine aA ?_;refine bN fun g1=>?_;refine aA ?_;refine jY (vf:=[]) (vc:=[pt g1]) rfl rfl (by decide) ?_;refine dG [⟨w,fun b=>b < w.heap.size∧¬F b⟩] [0] [1] (by simp) rfl (by decide) (by decide) fun q hq hLe _=>?_;obtain⟨F1,s1,z1⟩:=hq 0 _ (by simp) rfl
 refine bX 0 (gR L d (Hy d x)) (fun w1 G t hG xE hle=>by
  have:=aFy L d x hrl 215 (by kernel_rfl) [pt g1] q (Hy d x).now (by simp[Hy];omega) hok.now (fun i r v hr hv now w2 F2 a1 a2 a3=>by
   have hlt:=(List.getElem?_eq_some_iff.1 hr).1
   obtain⟨u,hu⟩:=get_some (l:=x.saved) (i:=i) (by omega)
   have he:v=Zk x.kept r u:=by
    rw[Hy,List.getElem?_zipWith,hr,hu] at hv;cases hv;rfl
   subst he;obtain⟨b1,b2⟩:=a3 g1 (z1 _ s1.1)
   exact aLl L d ⟨now,x.saved,x.kept⟩ g1 i r u hr hu w2 (Yg a1 a2) ⟨b1,(World.cell?_of_block (w:=q.w) b2).trans (by rw[s1.2.cell];rfl)⟩) w1 G hG xE (hle q (by simp))
  exact this) ?_
 refine aA ?_;exact fB 0 hF
theorem aK1(p:Piece)(L:FL)(d:cG)(x:dS)(g1 i:Nat)(r:Rg)(v u:Int)(hr:d.aS[i]? =some r)(hv:x.now[i]? =some v)(hu:x.saved[i]? =some u)(uD:x.saved.length=d.aS.length)
  (h1:p.Z g1∧p.w.cell? ⟨g1,0,none⟩=some (.pointer (some ⟨L.f,0,none⟩))) (w:World) (F:Nat→Prop) (hp:(gR L d x).sat F w) (hF:∀b,F b→b < w.heap.size) (Fv:p.Le ⟨w,fun b=>b < w.heap.size∧¬F b⟩):
  Cz 214 #[iv (i:Int),.agg r.cells.toArray,pt g1] w (Wr (.tuple #[]) (gR L d ⟨x.now,x.saved.set i (Kr r (v,u)),x.kept⟩) w F):=by
 have hlt:=(List.getElem?_eq_some_iff.1 hr).1
 obtain⟨c1,e1⟩:=Fv g1 h1.1
 have k1:w.cell? ⟨g1,0,none⟩=some (.pointer (some ⟨L.f,0,none⟩)):=(World.cell?_of_block (w:=p.w) e1).trans h1.2
 obtain⟨rs,kp⟩:=r;cases kp
 ·have hsame:x.saved.set i (Kr ⟨rs,false⟩ (v,u))=x.saved:=aEW hu
  rw[hsame];refine cT func214 ntmps214 hp hF ?_;refine aA ?_;refine bN fun g2=>?_;dsimp only[Value.cells,Rg.cells];refine aA ?_;exact fB 1 hF
 ·refine cT func214 ntmps214 hp hF ?_;refine aA ?_;refine bN fun g2=>?_;dsimp only[Value.cells,Rg.cells];refine aA ?_;refine Xq 1 rfl ?_;dsimp only[List.set,Ja]
  have Pg:=Yy x.now
  have rB:=Yy x.saved
  have r1:Rd w [⟨w,fun b=>b < w.heap.size∧¬F b⟩] [HP.aE L.gs 37 (mL x.saved),HP.aE L.gn 37 (mL x.now),HP.aE L.f 264 [.slice L.A d.aS.length L.c,.slice (some ⟨L.gn,0,none⟩) d.aS.length d.aS.length,.slice (some ⟨L.gs,0,none⟩) d.aS.length d.aS.length,.bool x.kept],HP.aE g2 95 [.int .u32 rs,.bool true],HP.many [cF,cF,cF,HP.bU (rO d L.A) (rO.le (d:=d) (A:=L.A))]] g1 0 (.pointer (some ⟨L.f,0,none⟩)):=Rd.ro (List.mem_singleton.2 rfl) c1 k1
  have r2:Rd w [⟨w,fun b=>b < w.heap.size∧¬F b⟩] [HP.aE L.gs 37 (mL x.saved),HP.aE L.gn 37 (mL x.now),HP.aE L.f 264 [.slice L.A d.aS.length L.c,.slice (some ⟨L.gn,0,none⟩) d.aS.length d.aS.length,.slice (some ⟨L.gs,0,none⟩) d.aS.length d.aS.length,.bool x.kept],HP.aE g2 95 [.int .u32 rs,.bool true],HP.many [cF,cF,cF,HP.bU (rO d L.A) (rO.le (d:=d) (A:=L.A))]] L.gn i (.int .u32 v):=Rd.aE 1 rfl (aBD hv)
  refine qP 12 (by kernel_rfl) (by kernel_rfl) ?_;refine bQ 0 ?_;refine bQ 1 ?_;refine bQ 2 ?_;refine bQ 3 ?_;refine bQ 4 ?_;refine bQ 5 ?_;refine bQ 6 ?_;refine bQ 7 ?_;refine bQ 8 ?_;refine bQ 9 ?_;refine bQ 10 ?_ (cN:=dat (sz:=1) i i);refine bQ 11 ?_;refine cJ 12 ?_;refine kd (dat i i) ?_;refine eR ?_;refine cJ 13 ?_;refine eN rfl rfl ?_;dsimp only[List.set];rw[aBC];refine eR ?_;refine kK ?_;refine aA ?_;refine aT [0,1,2,4] rfl (by decide) (fun _ h=>h) ?_;refine Xt (x:=⟨x.now,x.saved.set i v,x.kept⟩) 0 rfl ?_;exact fB 0 hF
theorem aLp(L:FL)(d:cG)(x:dS)(hrl:d.aS.length≤100)(hok:yB d x)(w:World)(F:Nat→Prop)(hp:(gR L d x).sat F w)(hF:∀b,F b→b < w.heap.size):
  Cz 195 #[.pointer (some ⟨L.f,0,none⟩)] w (Wr (.tuple #[]) (gR L d (uZ d x)) w F):=by
 have rB:=hok.saved
 have fK:=hok.now
 have hvl:(uZ d x).saved.length=d.aS.length:=by simp[uZ];omega
 refine cT func195 ntmps195 hp hF ?_;refine aA ?_;refine bN fun g1=>?_;refine aA ?_;refine jY (vf:=[]) (vc:=[pt g1]) rfl rfl (by decide) ?_;refine dG [⟨w,fun b=>b < w.heap.size∧¬F b⟩] [0] [1] (by simp) rfl (by decide) (by decide) fun q hq hLe _=>?_;obtain⟨F1,s1,z1⟩:=hq 0 _ (by simp) rfl
 refine bX 0 (gR L d ⟨x.now,(uZ d x).saved,x.kept⟩) (fun w1 G t hG xE hle=>by
  have key:=aFx q (fun i=>gR L d ⟨x.now,kG (uZ d x).saved x.saved i,x.kept⟩) L d hrl 214 (by kernel_rfl) [pt g1]
   (fun i _ w F h1 h2=>⟨_,Yg h1 h2⟩) (fun i r hr w2 F2' h1 h2 h3=>by
    have hlt:=(List.getElem?_eq_some_iff.1 hr).1
    obtain⟨v,hv⟩:=get_some (l:=x.now) (i:=i) (by omega);obtain⟨u,hu⟩:=get_some (l:=x.saved) (i:=i) (by omega)
    have hs:(uZ d x).saved[i]? =some (Kr r (v,u)):=by
     rw[uZ,List.getElem?_zipWith,hr,(List.getElem?_zip_eq_some (z:=(v,u))).2 ⟨hv,hu⟩]
    have:=aK1 q L d ⟨x.now,kG (uZ d x).saved x.saved i,x.kept⟩ g1 i r v u hr hv (aM6 (by omega) (by omega) hu) (Ud hvl rB (by omega))
     ⟨z1 _ s1.1,by rw[s1.2.cell];rfl⟩ w2 F2' h1 h2 h3
    try dsimp only at this
    rw[Uc (by omega) hs] at this
    exact this) w1 G (by show(gR L d ⟨x.now,kG (uZ d x).saved x.saved 0,x.kept⟩).sat G w1;rw[Ub];exact hG) xE (hle q (by simp))
  try dsimp only at key
  rw[Ue hvl rB] at key
  exact key) ?_
 refine Xq 0 rfl ?_;dsimp only[List.set,Ja]
 have r1:∀H,Rd w [q,⟨w,fun b=>b < w.heap.size∧¬F b⟩] H g1 0 (.pointer (some ⟨L.f,0,none⟩)):=fun H=>Rd.ro (by simp:q∈_) (z1 _ s1.1) (by rw[s1.2.cell];rfl)
 have r1:=r1 [HP.aE L.gs 37 (mL (uZ d x).saved),HP.aE L.gn 37 (mL x.now),HP.aE L.f 264 [.slice L.A d.aS.length L.c,.slice (some ⟨L.gn,0,none⟩) d.aS.length d.aS.length,.slice (some ⟨L.gs,0,none⟩) d.aS.length d.aS.length,.bool x.kept],HP.many [cF,cF,cF,HP.bU (rO d L.A) (rO.le (d:=d) (A:=L.A))]]
 refine aA ?_;refine Xt (x:=uZ d x) 0 rfl ?_;exact fB 0 hF
theorem aLr(L:FL)(d:cG)(x:dS)(i:Nat)(v:Int)(uD:x.now.length=d.aS.length)(hv:x.now[i]? =some v)(w:World)(hR:Ci w L d x):
  Cz 191 #[.pointer (some ⟨L.f,0,none⟩),iv (i:Int)] w (Rt (.tuple #[.int .u32 v,iv 0]) w):=by
 have hlt:i < d.aS.length:=by have:=(List.getElem?_eq_some_iff.1 hv).1;omega
 have k1:=hR.r0.at_ (j:=1) rfl
 have kv:=hR.now.at_ (aBD hv)
 rw[Nat.zero_add] at kv;refine aN func191 ntmps191 ?_;refine aA ?_;refine bZ (t:=8) rfl (fun h=>absurd h (by omega)) (fun _=>?_);refine aA ?_;refine aV (fun w1 t=>Tq L d x w1 (hR.below (t.below (by simp)))) ?_;refine aA ?_;refine aG rfl (fun h=>absurd h (by omega)) (fun _=>?_);refine aB ?_;exact fQ rfl rfl rfl fun w1 t=>⟨rfl,t.below (by simp)⟩
theorem aLo(L:FL)(d:cG)(x:dS)(i:Nat)(v:Int)(uD:x.now.length=d.aS.length)(hlt:i < d.aS.length)(w:World)(F:Nat→Prop)(hp:(gR L d x).sat F w)(hF:∀b,F b→b < w.heap.size):
  Cz 192 #[.pointer (some ⟨L.f,0,none⟩),iv (i:Int),.int .u32 v] w (Wr (iv 0) (gR L d ⟨x.now.set i v,x.saved,x.kept⟩) w F):=by
 refine cT func192 ntmps192 hp hF ?_;refine aA ?_;refine bZ (t:=9) rfl (fun h=>absurd h (by omega)) (fun _=>?_);refine aA ?_;refine aV (fun w1 t=>Tq L d x w1 (t.aDh 0 rfl)) ?_;refine aA ?_;refine aG rfl (fun h=>absurd h (by omega)) (fun _=>?_);refine Xq 0 rfl ?_;dsimp only[List.set,Ja]
 have Pg:=Yy x.now
 refine aB ?_;rw[aBC];refine aA ?_;refine Xt (x:=⟨x.now.set i v,x.saved,x.kept⟩) 0 rfl ?_;exact bP 0 hF
end
section
def aIC(n:Nat)(xs:List Value)(v:Value)(hs:List HP)(_:Piece):Prop:=∃A c,v=.slice A n c∧hs=[HP.own 86 6 (.slice A n c) n xs]
theorem aLT(A:Option Addr)(n c:Nat)(xs:List Value)(w:World)(hs:aI (all w) 6 A n xs)(h1:∀u∈xs,u.oneCell'=true)(hn:n≤1000000):
  Cz 161 #[.slice A n c] w (fun y w'=>(∃v hs q,y=.returned v∧q.w=w'∧aIC n xs v hs q∧gJ w hs q)∧Below w.heap.size w w'):=by
 refine aN func161 ntmps161 ?_;refine aA ?_;refine lT 86 6 ?_;refine iF 0 6 64 n (n':=n) (v:=sn) (el:=86) (by kernel_rfl) (by kernel_rfl) (by decide) rfl rfl rfl (rZ (by simp) hs) h1 (by omega) (by omega) (by omega) (by decide) fun A' k'=>?_;dsimp only[List.set,List.nil_append];refine aA ?_;refine dG [] [] [0] (by simp) rfl (by decide) (by decide) fun q _ _ hfr=>?_;exact aP (h:=fun w1 st=>⟨_,_,⟨w1,q.Z⟩,rfl,rfl,⟨_,_,rfl,rfl⟩,st.newR (by simp) (by simp) (hfr (by simp) (by simp))⟩)
def aIA(n:Nat)(xs:List Value)(v:Value)(hs:List HP)(_:Piece):Prop:=∃A c,v=.slice A n c∧hs=[HP.own 88 3 (.slice A n c) n xs]
theorem aLR(A:Option Addr)(n c:Nat)(xs:List Value)(w:World)(hs:aI (all w) 3 A n xs)(h1:∀u∈xs,u.oneCell'=true)(hn:n≤1000000):
  Cz 162 #[.slice A n c] w (fun y w'=>(∃v hs q,y=.returned v∧q.w=w'∧aIA n xs v hs q∧gJ w hs q)∧Below w.heap.size w w'):=by
 refine aN func162 ntmps162 ?_;refine aA ?_;refine lT 88 3 ?_;refine iF 0 3 24 n (n':=n) (v:=sn) (el:=88) (by kernel_rfl) (by kernel_rfl) (by decide) rfl rfl rfl (rZ (by simp) hs) h1 (by omega) (by omega) (by omega) (by decide) fun A' k'=>?_;dsimp only[List.set,List.nil_append];refine aA ?_;refine dG [] [] [0] (by simp) rfl (by decide) (by decide) fun q _ _ hfr=>?_;exact aP (h:=fun w1 st=>⟨_,_,⟨w1,q.Z⟩,rfl,rfl,⟨_,_,rfl,rfl⟩,st.newR (by simp) (by simp) (hfr (by simp) (by simp))⟩)
def aI8(n:Nat)(xs:List Value)(v:Value)(hs:List HP)(_:Piece):Prop:=∃A c,v=.slice A n c∧hs=[HP.own 90 1 (.slice A n c) n xs]
theorem aLP(A:Option Addr)(n c:Nat)(xs:List Value)(w:World)(hs:aI (all w) 1 A n xs)(h1:∀u∈xs,u.oneCell'=true)(hn:n≤1000000):
  Cz 163 #[.slice A n c] w (fun y w'=>(∃v hs q,y=.returned v∧q.w=w'∧aI8 n xs v hs q∧gJ w hs q)∧Below w.heap.size w w'):=by
 refine aN func163 ntmps163 ?_;refine aA ?_;refine lT 90 1 ?_;refine iF 0 1 8 n (n':=n) (v:=sn) (el:=90) (by kernel_rfl) (by kernel_rfl) (by decide) rfl rfl rfl (rZ (by simp) hs) h1 (by omega) (by omega) (by omega) (by decide) fun A' k'=>?_;dsimp only[List.set,List.nil_append];refine aA ?_;refine dG [] [] [0] (by simp) rfl (by decide) (by decide) fun q _ _ hfr=>?_;exact aP (h:=fun w1 st=>⟨_,_,⟨w1,q.Z⟩,rfl,rfl,⟨_,_,rfl,rfl⟩,st.newR (by simp) (by simp) (hfr (by simp) (by simp))⟩)
def aIB(n:Nat)(xs:List Value)(v:Value)(hs:List HP)(_:Piece):Prop:=∃A c,v=.slice A n c∧hs=[HP.own 93 6 (.slice A n c) n xs]
theorem aLS(A:Option Addr)(n c:Nat)(xs:List Value)(w:World)(hs:aI (all w) 6 A n xs)(h1:∀u∈xs,u.oneCell'=true)(hn:n≤1000000):
  Cz 164 #[.slice A n c] w (fun y w'=>(∃v hs q,y=.returned v∧q.w=w'∧aIB n xs v hs q∧gJ w hs q)∧Below w.heap.size w w'):=by
 refine aN func164 ntmps164 ?_;refine aA ?_;refine lT 93 6 ?_;refine iF 0 6 80 n (n':=n) (v:=sn) (el:=93) (by kernel_rfl) (by kernel_rfl) (by decide) rfl rfl rfl (rZ (by simp) hs) h1 (by omega) (by omega) (by omega) (by decide) fun A' k'=>?_;dsimp only[List.set,List.nil_append];refine aA ?_;refine dG [] [] [0] (by simp) rfl (by decide) (by decide) fun q _ _ hfr=>?_;exact aP (h:=fun w1 st=>⟨_,_,⟨w1,q.Z⟩,rfl,rfl,⟨_,_,rfl,rfl⟩,st.newR (by simp) (by simp) (hfr (by simp) (by simp))⟩)
def aEg(n:Nat)(xs:List Value)(v:Value)(hs:List HP)(_:Piece):Prop:=∃A c,v=.slice A n c∧hs=[HP.own 3 1 (.slice A n c) n xs]
theorem aFD(A:Option Addr)(n c:Nat)(xs:List Value)(w:World)(hs:aI (all w) 1 A n xs)(h1:∀u∈xs,u.oneCell'=true)(hn:n≤1000000):
  Cz 121 #[.slice A n c] w (fun y w'=>(∃v hs q,y=.returned v∧q.w=w'∧aEg n xs v hs q∧gJ w hs q)∧Below w.heap.size w w'):=by
 refine aN func121 ntmps121 ?_;refine aA ?_;refine lT 3 1 ?_;refine iF 0 1 8 n (n':=n) (v:=sn) (el:=3) (by kernel_rfl) (by kernel_rfl) (by decide) rfl rfl rfl (rZ (by simp) hs) h1 (by omega) (by omega) (by omega) (by decide) fun A' k'=>?_;dsimp only[List.set,List.nil_append];refine aA ?_;refine dG [] [] [0] (by simp) rfl (by decide) (by decide) fun q _ _ hfr=>?_;exact aP (h:=fun w1 st=>⟨_,_,⟨w1,q.Z⟩,rfl,rfl,⟨_,_,rfl,rfl⟩,st.newR (by simp) (by simp) (hfr (by simp) (by simp))⟩)
def aI9(n:Nat)(xs:List Value)(v:Value)(hs:List HP)(_:Piece):Prop:=∃A c,v=.slice A n c∧hs=[HP.own 95 2 (.slice A n c) n xs]
theorem aLQ(A:Option Addr)(n c:Nat)(xs:List Value)(w:World)(hs:aI (all w) 2 A n xs)(h1:∀u∈xs,u.oneCell'=true)(hn:n≤1000000):
  Cz 165 #[.slice A n c] w (fun y w'=>(∃v hs q,y=.returned v∧q.w=w'∧aI9 n xs v hs q∧gJ w hs q)∧Below w.heap.size w w'):=by
 refine aN func165 ntmps165 ?_;refine aA ?_;refine lT 95 2 ?_;refine iF 0 2 8 n (n':=n) (v:=sn) (el:=95) (by kernel_rfl) (by kernel_rfl) (by decide) rfl rfl rfl (rZ (by simp) hs) h1 (by omega) (by omega) (by omega) (by decide) fun A' k'=>?_;dsimp only[List.set,List.nil_append];refine aA ?_;refine dG [] [] [0] (by simp) rfl (by decide) (by decide) fun q _ _ hfr=>?_;exact aP (h:=fun w1 st=>⟨_,_,⟨w1,q.Z⟩,rfl,rfl,⟨_,_,rfl,rfl⟩,st.newR (by simp) (by simp) (hfr (by simp) (by simp))⟩)
end
section
structure Rz(p:Piece)(s:aC)(A1:Option Addr)(n1:Nat)(A2:Option Addr)(n2:Nat)(A3:Option Addr)(n3:Nat)(A4:Option Addr)(n4:Nat):Prop where
 uK:jV (fH p) (qV (fH p)) 86 6 A1 n1 s.aF
 dom:jV (fH p) tI 88 3 A2 n2 s.domains
 Ak:jV (fH p) xW 90 1 A3 n3 s.bA
 dev:jV (fH p) (qB (fH p)) 93 6 A4 n4 s.aD
section
variable{p q:Piece}{w:World}{s:aC}{A1 A2 A3 A4:Option Addr}{n1 n2 n3 n4:Nat}
theorem Rz.le(h:Rz p s A1 n1 A2 n2 A3 n3 A4 n4)(hl:p.Le q):Rz q s A1 n1 A2 n2 A3 n3 A4 n4:=
 ⟨h.uK.mono (kF hl) (fun _ _=>qV.mono (kF hl)),h.dom.mono (kF hl) (fun _ _ h=>h),h.Ak.mono (kF hl) (fun _ _ h=>h),h.dev.mono (kF hl) (fun _ _=>qB.mono (kF hl))⟩
theorem Rz.W(h:Rz p s A1 n1 A2 n2 A3 n3 A4 n4)(hl:p.Le (all w))(hs:s.small):iD w s A1 n1 A2 n2 A3 n3 A4 n4:=⟨(h.le hl).uK,(h.le hl).dom,(h.le hl).Ak,(h.le hl).dev,hs⟩
theorem uP.Q{cs:Array Value}(h:uP (fH p) s cs):∃A1 n1 k1 A2 n2 k2 A3 n3 k3 A4 n4 k4,cs=#[.slice A1 n1 k1,.slice A2 n2 k2,.slice A3 n3 k3,.slice A4 n4 k4]∧Rz p s A1 n1 A2 n2 A3 n3 A4 n4:=by
 obtain⟨A1,n1,k1,A2,n2,k2,A3,n3,k3,A4,n4,k4,h0,h1,h2,h3,h4⟩:=h;exact⟨A1,n1,k1,A2,n2,k2,A3,n3,k3,A4,n4,k4,h0,h1,h2,h3,h4⟩
end
theorem aSt{α:Type}{p:Piece}{R:α→List Value→Prop}{t:TypeId}{sz n:Nat}{A:Option Addr}{es:List α}(h:jV (fH p) R t sz A n es){k:Nat}{e:α}(hk:es[k]? =some e):
  ∃b off r,A=some ⟨b,off,none⟩∧p.Z b∧r.length=sz∧R e r∧∀f u,r[f]? =some u→p.w.cell? ⟨b,off+k*sz+f,none⟩=some u:=by
 obtain⟨rows,h1,h2,h3⟩:=h
 have hlt:k < n:=by
  rw[h2];rcases Nat.lt_or_ge k es.length with h | h
  ·exact h
  ·rw[List.getElem?_eq_none h] at hk;cases hk
 obtain⟨b,off,hA,hb,hc⟩:=aI.at_ h3 hlt;obtain⟨r,h4,h5,h6⟩:=h1.get hk;refine⟨b,off,r,hA,hb,h4,h5,fun f u hu=>hc f u ?_⟩
 have hf:f < sz:=by
  rw[←h4];rcases Nat.lt_or_ge f r.length with h | h
  ·exact h
  ·rw[List.getElem?_eq_none h] at hu;cases hu
 rw[h6 f hf,hu]
end
section
theorem oJ{N:bY}{w0:World}{e:Env}{R:List Piece}{H:List HP}{K:Act→World→Prop}{p:HP}(hp:∀w,p.sat (fun _=>False) w)(h:XK N w0 K e R (p::H)):XK N w0 K e R H:=fun a w hr st=>
 h a w hr (st.new (w':=w) (Below.refl _ _) (by
  rw[show(fresh w w).Z=fun _=>False from by funext b;simp only[fresh,eq_iff_iff,iff_false];omega]
  exact hp w))
abbrev AC:=Option Addr×Nat
def zD(c:eV)(a:AC):List Value:=[.int .u8 c.kind,.slice a.1 c.src.length a.2,.int .u64 c.rate,iv c.mul,iv c.div,iv c.lock]
def zC(d:cG)(p:AC×AC):List Value:=[iv d.clock,iv d.domain,iv d.reset,.int .u32 d.iG,.slice p.1.1 d.aS.length p.1.2,.slice p.2.1 d.iV.length p.2.2]
def Qy(s:aC)(fa:List AC):List (List Value):=List.zipWith zD s.aF fa
def Qt(s:aC)(da:List (AC×AC)):List (List Value):=List.zipWith zC s.aD da
section
variable{α β:Type}{f:α→β→List Value}{sz:Nat}
theorem Yk{es:List α}{bs:List β}(hl:bs.length=es.length)(hf:∀e a,(f e a).length=sz):(List.zipWith f es bs).length=es.length∧∀r∈List.zipWith f es bs,r.length=sz:=by
 refine⟨by simp;omega,fun r hr=>?_⟩;obtain⟨j,hj⟩:=List.getElem?_of_mem hr;rw[List.getElem?_zipWith] at hj;split at hj<;>cases hj
 exact hf _ _
theorem Sj{es:List α}{bs:List β}{i:Nat}{e:α}{a:β}(he:es[i]? =some e)(ha:bs[i]? =some a):(List.zipWith f es bs)[i]? =some (f e a):=by rw[List.getElem?_zipWith,he,ha]
theorem aEt{es:List α}{bs:List β}{i:Nat}{e:α}{a:β}(he:es[i]? =some e)(hi:i < bs.length):(List.zipWith f es bs).set i (f e a)=List.zipWith f es (bs.set i a):=by
 refine List.ext_getElem? fun j=>?_;rw[List.getElem?_set]
 by_cases hj:i=j
 ·subst hj
  have h1:=(List.getElem?_eq_some_iff.1 he).1
  rw[if_pos rfl,Sj he (List.getElem?_set_self hi),if_pos (by simp;omega)]
 ·rw[if_neg hj,List.getElem?_zipWith,List.getElem?_zipWith,List.getElem?_set_ne hj]
theorem aEu{es:List α}{bs:List β}(hf:∀e a,∀u∈f e a,u.oneCell'=true):∀u∈(List.zipWith f es bs).flatten,u.oneCell'=true:=fun u hu=>by
 obtain⟨r,hr,hu⟩:=List.mem_flatten.1 hu;obtain⟨j,hj⟩:=List.getElem?_of_mem hr;rw[List.getElem?_zipWith] at hj;split at hj<;>cases hj
 exact hf _ _ u hu
end
theorem aQt(c:eV)(a:AC):∀u∈zD c a,u.oneCell'=true:=by simp[zD,Value.oneCell']
theorem aPM(d:cG)(p:AC×AC):∀u∈zC d p,u.oneCell'=true:=by simp[zC,Value.oneCell']
theorem aDw{S:tD}:∀{cl:List eV} {rs:List (List Value)},Rows (qV S) 6 cl rs→∃fa:List AC,fa.length=cl.length∧rs=List.zipWith zD cl fa∧∀(i:Nat) (c:eV) (a:AC),cl[i]? =some c→fa[i]? =some a→S 3 1 a.1 c.src.length (aM c.src)
 | [],[],_=>⟨[],rfl,rfl,fun i c a h=>by simp at h⟩
 | e::es,r::rs,h=>by
  obtain⟨_,⟨A,n,k,hr,hn,hS⟩,h3⟩:=h;obtain⟨fa,h4,h5,h6⟩:=aDw h3;subst hn;refine⟨(A,k)::fa,by simp[h4],by rw[hr,h5];rfl,fun i c a hc ha=>?_⟩;cases i with
  | zero=>simp at hc ha;subst hc;subst ha;exact hS
  | succ i=>exact h6 i c a (by simpa using hc) (by simpa using ha)
theorem aFs{S:tD}:∀{cl:List eV} {fa:List AC},fa.length=cl.length→(∀(i:Nat) (c:eV) (a:AC),cl[i]? =some c→fa[i]? =some a→S 3 1 a.1 c.src.length (aM c.src))→Rows (qV S) 6 cl (List.zipWith zD cl fa)
 | [],[],_,_=>trivial
 | c::cl,a::fa,hl,h=>⟨rfl,⟨a.1,_,a.2,rfl,rfl,h 0 c a rfl rfl⟩,aFs (by simpa using hl) fun i c' a' hc ha=>h (i+1) c' a' (by simpa using hc) (by simpa using ha)⟩
theorem aDp{S:tD}:∀{cl:List cG} {rs:List (List Value)},Rows (qB S) 6 cl rs→∃da:List (AC×AC),da.length=cl.length∧rs=List.zipWith zC cl da∧∀(i:Nat) (d:cG) (p:AC×AC),cl[i]? =some d→da[i]? =some p→S 95 2 p.1.1 d.aS.length (d.aS.flatMap Rg.cells)∧S 3 1 p.2.1 d.iV.length (aM d.iV)
 | [],[],_=>⟨[],rfl,rfl,fun i c a h=>by simp at h⟩
 | e::es,r::rs,h=>by
  obtain⟨_,⟨A,n,k,A',n',k',hr,hn,hn',hS,hS'⟩,h3⟩:=h;obtain⟨da,h4,h5,h6⟩:=aDp h3;subst hn;subst hn';refine⟨((A,k),(A',k'))::da,by simp[h4],by rw[hr,h5];rfl,fun i d p hc ha=>?_⟩;cases i with
  | zero=>simp at hc ha;subst hc;subst ha;exact⟨hS,hS'⟩
  | succ i=>exact h6 i d p (by simpa using hc) (by simpa using ha)
theorem aFr{S:tD}:∀{cl:List cG} {da:List (AC×AC)},da.length=cl.length→(∀(i:Nat) (d:cG) (p:AC×AC),cl[i]? =some d→da[i]? =some p→S 95 2 p.1.1 d.aS.length (d.aS.flatMap Rg.cells)∧S 3 1 p.2.1 d.iV.length (aM d.iV))→Rows (qB S) 6 cl (List.zipWith zC cl da)
 | [],[],_,_=>trivial
 | c::cl,a::da,hl,h=>⟨rfl,⟨a.1.1,_,a.1.2,a.2.1,_,a.2.2,rfl,rfl,rfl,(h 0 c a rfl rfl).1,(h 0 c a rfl rfl).2⟩,aFr (by simpa using hl) fun i c' a' hc ha=>h (i+1) c' a' (by simpa using hc) (by simpa using ha)⟩
theorem aPy{es:List Dom}{rs:List (List Value)}(h:Rows tI 3 es rs):∀u∈rs.flatten,u.oneCell'=true:=fun u hu=>by
 obtain⟨r,hr,hu⟩:=List.mem_flatten.1 hu;obtain⟨j,hj⟩:=List.getElem?_of_mem hr;obtain⟨e,_,_,hR⟩:=h.at_ hj;unfold tI at hR;subst hR;simp only[List.mem_cons,List.not_mem_nil,or_false] at hu;rcases hu with rfl | rfl | rfl<;>rfl
theorem aKJ{es:List Int}{rs:List (List Value)}(h:Rows xW 1 es rs):∀u∈rs.flatten,u.oneCell'=true:=fun u hu=>by
 obtain⟨r,hr,hu⟩:=List.mem_flatten.1 hu;obtain⟨j,hj⟩:=List.getElem?_of_mem hr;obtain⟨e,_,_,hR⟩:=h.at_ hj;unfold xW at hR;subst hR;simp only[List.mem_cons,List.not_mem_nil,or_false] at hu;subst hu;rfl
def yD(s:aC)(fa:List AC)(i:Nat)(p:Piece):Prop:=∀(j:Nat) (c:eV) (a:AC),j < i→s.aF[j]? =some c→fa[j]? =some a→aI p 1 a.1 c.src.length (aM c.src)
theorem yD.le{s:aC}{fa:List AC}{i:Nat}(p q:Piece)(hl:p.Le q)(h:yD s fa i p):yD s fa i q:=fun j c a hj hc ha=>(h j c a hj hc ha).le hl
def Cj(s:aC)(da:List (AC×AC))(i:Nat)(p:Piece):Prop:=∀(j:Nat) (d:cG) (a:AC×AC),j < i→s.aD[j]? =some d→da[j]? =some a→aI p 2 a.1.1 d.aS.length (d.aS.flatMap Rg.cells)∧aI p 1 a.2.1 d.iV.length (aM d.iV)
theorem Cj.le{s:aC}{da:List (AC×AC)}{i:Nat}(p q:Piece)(hl:p.Le q)(h:Cj s da i p):Cj s da i q:=fun j c a hj hc ha=>⟨(h j c a hj hc ha).1.le hl,(h j c a hj hc ha).2.le hl⟩
end
section
theorem Og{l:List Rg}:∀u∈l.flatMap Rg.cells,u.oneCell'=true:=fun u hu=>by
 obtain⟨r,_,hu⟩:=List.mem_flatMap.1 hu;simp only[Rg.cells,List.mem_cons,List.not_mem_nil,or_false] at hu;rcases hu with rfl | rfl<;>rfl
def aBx(s:aC)(v:Value)(w w':World):Prop:=∃cs,v=.agg cs∧uP (fH (fresh w w')) s cs
theorem aDu(s:aC)(A1 A2 A3 A4:Option Addr)(n1 k1 n2 k2 n3 k3 n4 k4:Nat)(w:World)(hW:iD w s A1 n1 A2 n2 A3 n3 A4 n4)(Uq:∀d∈s.aD,d.aS.length≤1000000):
  Cz 106 #[.agg #[.slice A1 n1 k1,.slice A2 n2 k2,.slice A3 n3 k3,.slice A4 n4 k4]] w (fun y w'=>(∃v,y=.returned v∧aBx s v w w')∧Below w.heap.size w w'):=by
 obtain⟨rc,hrc,qK,hsc⟩:=hW.uK;obtain⟨rd,hrd,hn2,hsd⟩:=hW.dom;obtain⟨rr,cQ,sN,hst⟩:=hW.Ak;obtain⟨rv,Pn,uB,tX⟩:=hW.dev;obtain⟨Jb,aND,rfl,aNE⟩:=aDw hrc;obtain⟨Gn,aNI,rfl,aNJ⟩:=aDp Pn;obtain⟨sm1,sm2,sm3,sm4,sm5,sm6⟩:=hW.small;subst qK;subst hn2;subst sN;subst uB
 have ho1:=aEu (es:=s.aF) (bs:=Jb) aQt
 have ho4:=aEu (es:=s.aD) (bs:=Gn) aPM
 refine aN func106 ntmps106 ?_;refine dX ?_;refine fR ?_;refine bN fun g1=>?_;refine cE fun g2=>?_;refine fC ?_;refine Rs (fun e R H=>∃C j1 D j2 E j3 V j4 g3,e=[(3,pt g3),(2,pt g2)]∧R=[all w]∧H=[HP.own 86 6 (.slice C s.aF.length j1) s.aF.length (Qy s Jb).flatten,HP.own 93 6 (.slice V s.aD.length j4) s.aD.length (Qt s Gn).flatten,HP.own 88 3 (.slice D s.domains.length j2) s.domains.length rd.flatten,HP.own 90 1 (.slice E s.bA.length j3) s.bA.length rr.flatten,HP.aE g3 30 [.slice C s.aF.length j1,.slice D s.domains.length j2,.slice E s.bA.length j3,.slice V s.aD.length j4],HP.aE g2 30 [sn,sn,sn,sn]]) ?_ ?_
 ·refine qP 14 (by kernel_rfl) (by kernel_rfl) ?_;refine bQ 0 ?_;refine bQ 1 ?_;refine bQ 3 ?_;refine bQ 4 ?_;refine bQ 6 ?_;refine bQ 7 ?_;refine bQ 9 ?_;refine bQ 10 ?_;refine aIo (j:=13) 3 30 [sn,sn,sn,sn] fun M=>?_;refine Ry 2 13 rfl rfl (gY (by kernel_rfl)) (by decide) (by kernel_rfl) (by kernel_rfl) (fun _ h=>h) (fun M=>?_);refine So (f:=161) (fi:=[]) (ca:=[]) (by kernel_rfl) (Qj M rfl rfl) (Qi M rfl rfl) (by decide) (aIC s.aF.length (Qy s Jb).flatten) (fun w1 st=>aLT A1 _ k1 _ w1 (hsc.le (st.le (by simp))) ho1 sm1) ?_;rintro _ _ q1 ⟨C,j1,rfl,rfl⟩ _;dsimp only[List.cons_append,List.nil_append];refine aBa ?_;refine gX ?_;refine gP ?_;refine Xv (by decide) rfl (fun _ h=>h.bB.tail) ?_;refine Ry 5 13 rfl rfl (gY (by kernel_rfl)) (by decide) (by kernel_rfl) (by kernel_rfl) (fun _ h=>h.bB.tail) (fun M=>?_);refine So (f:=162) (fi:=[]) (ca:=[]) (by kernel_rfl) (Qj M rfl rfl) (Qi M rfl rfl) (by decide) (aIA s.domains.length rd.flatten) (fun w1 st=>aLR A2 _ k2 _ w1 (hsd.le (st.le (by simp))) (aPy hrd) sm2) ?_;rintro _ _ q2 ⟨D,j2,rfl,rfl⟩ _;dsimp only[List.cons_append,List.nil_append];refine aBa ?_;refine gX ?_;refine gP ?_;refine Xv (by decide) rfl (fun _ h=>h.bB.tail.bB.tail) ?_;refine Ry 8 13 rfl rfl (gY (by kernel_rfl)) (by decide) (by kernel_rfl) (by kernel_rfl) (fun _ h=>h.bB.tail.bB.tail) (fun M=>?_);refine So (f:=163) (fi:=[]) (ca:=[]) (by kernel_rfl) (Qj M rfl rfl) (Qi M rfl rfl) (by decide) (aI8 s.bA.length rr.flatten) (fun w1 st=>aLP A3 _ k3 _ w1 (hst.le (st.le (by simp))) (aKJ cQ) sm3) ?_;rintro _ _ q3 ⟨E,j3,rfl,rfl⟩ _;dsimp only[List.cons_append,List.nil_append];refine aBa ?_;refine gX ?_;refine gP ?_;refine Xv (by decide) rfl (fun _ h=>h.bB.tail.bB.tail.bB.tail) ?_;refine Ry 11 13 rfl rfl (gY (by kernel_rfl)) (by decide) (by kernel_rfl) (by kernel_rfl) (fun _ h=>h.bB.tail.bB.tail.bB.tail) (fun M=>?_);refine So (f:=164) (fi:=[]) (ca:=[]) (by kernel_rfl) (Qj M rfl rfl) (Qi M rfl rfl) (by decide) (aIB s.aD.length (Qt s Gn).flatten) (fun w1 st=>aLS A4 _ k4 _ w1 (tX.le (st.le (by simp))) ho4 sm4) ?_;rintro _ _ q4 ⟨V,j4,rfl,rfl⟩ _;dsimp only[List.cons_append,List.nil_append];refine aBa ?_;refine gX ?_;refine gP ?_;refine Xv (by decide) rfl (fun _ h=>h.bB.tail.bB.tail.bB.tail.bB.tail) ?_;cases M with
  | none=>
   dsimp only[uG,xC,yP,Dr];refine fG 12 rfl rfl rfl (by decide) (kQ (zs:=[sn,sn,sn,sn]) (L:=[(0,1),(1,1),(2,1),(3,1)]) (gY (by kernel_rfl)) (by kernel_rfl) rfl (by simp[fA,gD,Value.cells];rfl)) (by kernel_rfl) (fun _ _ _ h=>h) (fun _ h=>h.bB.tail.bB.tail.bB.tail.bB.tail) ?_;refine cJ 13 ?_;refine cE fun g3=>?_;refine gX ?_;refine gP ?_;refine kL (fun _ h=>h.tail.bB.tail.bB.tail.bB.tail.bB.tail) ?_;refine cJ 14 ?_;refine lM 0 rfl ?_;dsimp only[List.set];refine eR ?_;refine kK ?_;refine eI ?_;exact aT [4,1,3,2,0,5] rfl (by decide) (by simp) (bM [(3,pt g3),(2,pt g2)] (Xr ⟨C,j1,D,j2,E,j3,V,j4,g3,rfl,rfl,rfl⟩))
  | some g3=>
   dsimp only[uG,xC,yP,Dr];refine fG 12 rfl rfl rfl (by decide) (kQ (zs:=[sn,sn,sn,sn]) (L:=[(0,1),(1,1),(2,1),(3,1)]) (gY (by kernel_rfl)) (by kernel_rfl) rfl (by simp[fA,gD,Value.cells];rfl)) (by kernel_rfl) (fun _ _ _ h=>h) (fun _ h=>h.tail.bB.tail.bB.tail.bB.tail.bB.tail) ?_;refine cJ 14 ?_;refine lM 0 rfl ?_;dsimp only[List.set];refine eR ?_;refine kK ?_;refine eI ?_;exact aT [4,1,3,2,0,5] rfl (by decide) (by simp) (bM [(3,pt g3),(2,pt g2)] (Xr ⟨C,j1,D,j2,E,j3,V,j4,g3,rfl,rfl,rfl⟩))
 rintro _ _ _ ⟨C,j1,D,j2,E,j3,V,j4,g3,rfl,rfl,rfl⟩;refine oJ (p:=HP.bU (yD s Jb 0) (yD.le (s:=s) (fa:=Jb) (i:=0))) (fun w1 j c a hj=>absurd hj (by omega)) ?_;refine aA ?_;refine bM [(23,iv 0),(22,iv s.aF.length),(3,pt g3),(2,pt g2)] ?_;refine eU (fun m e R H=>∃(i:Nat) (fa:List AC),i≤s.aF.length∧fa.length=s.aF.length∧(∀j,i≤j→fa[j]? =Jb[j]?)∧m=s.aF.length - i∧e=[(23,iv i),(22,iv s.aF.length),(3,pt g3),(2,pt g2)]∧R=[all w]∧H=[HP.bU (yD s fa i) (yD.le (s:=s) (fa:=fa) (i:=i)),HP.own 86 6 (.slice C s.aF.length j1) s.aF.length (Qy s fa).flatten,HP.own 93 6 (.slice V s.aD.length j4) s.aD.length (Qt s Gn).flatten,HP.own 88 3 (.slice D s.domains.length j2) s.domains.length rd.flatten,HP.own 90 1 (.slice E s.bA.length j3) s.bA.length rr.flatten,HP.aE g3 30 [.slice C s.aF.length j1,.slice D s.domains.length j2,.slice E s.bA.length j3,.slice V s.aD.length j4],HP.aE g2 30 [sn,sn,sn,sn]]) s.aF.length ⟨0,Jb,by omega,aND,fun _ _=>rfl,rfl,rfl,rfl,rfl⟩ fun m e R H hI=>?_;obtain⟨i,fa,hi,hfl,hsame,rfl,rfl,rfl,rfl⟩:=hI;refine aA ?_;refine aG rfl (fun hlt=>?_) (fun hge=>?_)
 ·have hlt:i < s.aF.length:=by omega
  obtain⟨c,hc⟩:=get_some hlt;obtain⟨a,ha⟩:=get_some (l:=fa) (i:=i) (by omega)
  have ha0:Jb[i]? =some a:=by rw[←hsame i (Nat.le_refl _)];exact ha
  have aNC:=aNE i c a hc ha0
  have hcs:=sm5 c (List.mem_of_getElem? hc)
  refine aT [1,0,2,3,4,5,6] rfl (by decide) (fun _ h=>h) ?_;refine aBc 0 rfl (by omega) fun gC hC=>?_;subst hC;refine Gv 0 rfl fun cs h1 h2 h3 h4=>?_;dsimp only[List.set];obtain⟨fK,iK⟩:=Yk (f:=zD) (es:=s.aF) (bs:=fa) (sz:=6) hfl (fun _ _=>rfl)
  have hs:=Ds h2 fK iK (Sj hc ha)
  refine aA ?_;refine qP 10 (by kernel_rfl) (by kernel_rfl) ?_;refine bQ 0 ?_;refine bQ 1 ?_;refine bQ 2 ?_;refine bQ 3 ?_;refine bQ 4 ?_;refine bQ 5 ?_;refine bQ 6 ?_ (cN:=dat (sz:=6) i (i*6));refine bQ 7 ?_;refine bQ 8 ?_;refine cJ 9 ?_;refine eW (aEg c.src.length (aM c.src)) (fun w1 st=>aFD a.1 _ a.2 _ w1 (aI.le aNC (st.le (by simp))) (Pe _) hcs) ?_;rintro _ _ q ⟨Af,kf,rfl,rfl⟩ _;dsimp only[List.cons_append,List.nil_append];refine mW ?_;refine cJ 10 ?_;refine kd (dat i (i*6)) ?_;refine eR ?_;refine cJ 11 ?_;refine bF ?_;refine eR ?_;refine cJ 12 ?_;refine eN rfl rfl ?_;dsimp only[List.set];refine eR ?_;refine kK ?_
  have hs1:=hs.set 1 (.slice Af c.src.length kf) (by simp[zD]) (by omega)
  have tW:=(tB.refl cs (i*6) 6).set 1 (.slice Af c.src.length kf) (by decide)
  have hf:=Bq (r':=zD c (Af,kf)) h2 fK iK hlt (by omega) rfl hs1 tW
  rw[show(Qy s fa).set i (zD c (Af,kf))=Qy s (fa.set i (Af,kf)) from aEt hc (by omega)] at hf;refine Ee 1 (n:=s.aF.length) (c:=j1) (sz:=6) rfl (by simpa using h1) hf h3 h4 ?_;dsimp only[List.set];refine xU 0 (Φ:=fun p=>aI p 1 Af c.src.length (aM c.src)) (hm:=fun p q hl h=>aI.le h hl) rfl (fun p h=>h) ?_;dsimp only[List.set];refine aT [0,2,1,3,4,5,6,7] rfl (by decide) (fun _ h=>h) ?_
  refine Jq (X:=yD s (fa.set i (Af,kf)) (i+1)) (h3:=yD.le) (fun p h1 h2 j c' a' hj Ma Bn=>by
   rcases Nat.lt_or_ge j i with h | h
   ·rw[List.getElem?_set_ne (by omega)] at Bn;exact h2 j c' a' h Ma Bn
   ·obtain rfl:j=i:=by omega
    rw[hc] at Ma;cases Ma;rw[List.getElem?_set_self (by omega)] at Bn;cases Bn
    exact h1) ?_
  refine aA ?_;refine bM [(23,iv (i+1:Nat)),(22,iv s.aF.length),(3,pt g3),(2,pt g2)] ?_;refine vR (R':=[all w]) (by simp) ?_;exact gQ (s.aF.length - (i+1)) (by omega) ⟨i+1,fa.set i (Af,kf),hlt,by simpa using hfl,fun j hj=>by rw[List.getElem?_set_ne (by omega)];exact hsame j (by omega),rfl,rfl,rfl,rfl⟩
 ·obtain rfl:i=s.aF.length:=by omega
  refine oJ (p:=HP.bU (Cj s Gn 0) (Cj.le (s:=s) (da:=Gn) (i:=0))) (fun w1 j d a hj=>absurd hj (by omega)) ?_;refine aA ?_;refine bM [(42,iv 0),(41,iv s.aD.length),(3,pt g3),(2,pt g2)] ?_;refine eU (fun m e R H=>∃(i:Nat) (da:List (AC×AC)),i≤s.aD.length∧da.length=s.aD.length∧(∀j,i≤j→da[j]? =Gn[j]?)∧m=s.aD.length - i∧e=[(42,iv i),(41,iv s.aD.length),(3,pt g3),(2,pt g2)]∧R=[all w]∧H=[HP.bU (Cj s da i) (Cj.le (s:=s) (da:=da) (i:=i)),HP.bU (yD s fa s.aF.length) (yD.le (s:=s) (fa:=fa) (i:=s.aF.length)),HP.own 86 6 (.slice C s.aF.length j1) s.aF.length (Qy s fa).flatten,HP.own 93 6 (.slice V s.aD.length j4) s.aD.length (Qt s da).flatten,HP.own 88 3 (.slice D s.domains.length j2) s.domains.length rd.flatten,HP.own 90 1 (.slice E s.bA.length j3) s.bA.length rr.flatten,HP.aE g3 30 [.slice C s.aF.length j1,.slice D s.domains.length j2,.slice E s.bA.length j3,.slice V s.aD.length j4],HP.aE g2 30 [sn,sn,sn,sn]]) s.aD.length ⟨0,Gn,by omega,aNI,fun _ _=>rfl,rfl,rfl,rfl,rfl⟩ fun m e R H hI=>?_;obtain⟨i,da,hi,kZ,aGn,rfl,rfl,rfl,rfl⟩:=hI;refine aA ?_;refine aG rfl (fun hlt=>?_) (fun hge=>?_)
  ·have hlt:i < s.aD.length:=by omega
   obtain⟨d,hd⟩:=get_some hlt;obtain⟨⟨a1,a2⟩,ha⟩:=get_some (l:=da) (i:=i) (by omega)
   have ha0:Gn[i]? =some (a1,a2):=by rw[←aGn i (Nat.le_refl _)];exact ha
   obtain⟨aCD,aGx⟩:=aNJ i d _ hd ha0
   have dQ:=Uq d (List.mem_of_getElem? hd)
   have fW:=sm6 d (List.mem_of_getElem? hd)
   refine aT [3,0,1,2,4,5,6,7] rfl (by decide) (fun _ h=>h) ?_;refine aBc 0 rfl (by omega) fun gV hV=>?_;subst hV;refine Gv 0 rfl fun cs h1 h2 h3 h4=>?_;dsimp only[List.set];obtain⟨fK,iK⟩:=Yk (f:=zC) (es:=s.aD) (bs:=da) (sz:=6) kZ (fun _ _=>rfl)
   have hs:=Ds h2 fK iK (Sj hd ha)
   refine aA ?_;refine kd (dat i (i*6)) ?_;refine aA ?_;refine iY [3,4,5,8,9,10] ?_;refine bK 0 ?_;refine bK 1 ?_;refine bK 2 ?_;refine bK 7 ?_;refine aK 3 ?_;refine aK 4 ?_;refine aK 5 ?_;refine aK 8 ?_;refine aK 9 ?_;refine aK 10 ?_;refine aL 6 ?_;refine eW (aI9 d.aS.length (d.aS.flatMap Rg.cells)) (fun w1 st=>aLQ a1.1 _ a1.2 _ w1 (aI.le aCD (st.le (by simp))) Og dQ) ?_;rintro _ _ q1 ⟨Ag,kg,rfl,rfl⟩ _;dsimp only[List.cons_append,List.nil_append];refine bE ?_;refine aL 11 ?_;refine eW (aEg d.iV.length (aM d.iV)) (fun w1 st=>aFD a2.1 _ a2.2 _ w1 (aI.le aGx (st.le (by simp))) (Pe _) fW) ?_;rintro _ _ q2 ⟨An,kn,rfl,rfl⟩ _;dsimp only[List.cons_append,List.nil_append];refine bE ?_ (hS:=fun _ h=>h.bB.tail.bB.tail);refine aL 12 ?_;refine bF ?_;refine bE ?_ (hS:=fun _ h=>h.bB.tail.bB.tail);refine aL 13 ?_;refine bF ?_;refine bE ?_ (hS:=fun _ h=>h.bB.tail.bB.tail);refine aL 14 ?_;refine eN rfl rfl ?_;dsimp only[List.set];refine cH ?_;refine aL 15 ?_;refine bF ?_;refine cH ?_;refine aL 16 ?_;refine bF ?_;refine cH ?_;refine aL 17 ?_;refine eN rfl rfl ?_;dsimp only[List.set];refine cH ?_;refine eC ?_
   have hs1:=(hs.set 4 (.slice Ag d.aS.length kg) (by simp[zC]) (by omega)).set 5 (.slice An d.iV.length kn) (by simp[zC]) (by simp;omega)
   have tW:=((tB.refl cs (i*6) 6).set 4 (.slice Ag d.aS.length kg) (by decide)).set 5 (.slice An d.iV.length kn) (by decide)
   have hf:=Bq (r':=zC d ((Ag,kg),(An,kn))) h2 fK iK hlt (by omega) rfl hs1 tW
   rw[show(Qt s da).set i (zC d ((Ag,kg),(An,kn)))=Qt s (da.set i ((Ag,kg),(An,kn))) from aEt hd (by omega)] at hf;refine Ee 2 (n:=s.aD.length) (c:=j4) (sz:=6) rfl (by simpa using h1) hf h3 h4 ?_;dsimp only[List.set];refine xU 0 (Φ:=fun p=>aI p 1 An d.iV.length (aM d.iV)) (hm:=fun p q hl h=>aI.le h hl) rfl (fun p h=>h) ?_;refine xU 1 (Φ:=fun p=>aI p 2 Ag d.aS.length (d.aS.flatMap Rg.cells)) (hm:=fun p q hl h=>aI.le h hl) rfl (fun p h=>h) ?_;dsimp only[List.set];refine Jq (X:=fun p=>aI p 1 An d.iV.length (aM d.iV)∧aI p 2 Ag d.aS.length (d.aS.flatMap Rg.cells)) (h3:=fun p q hl h=>⟨aI.le h.1 hl,aI.le h.2 hl⟩) (fun p h1 h2=>⟨h1,h2⟩) ?_;refine aT [0,2,3,4,1,5,6,7,8] rfl (by decide) (fun _ h=>h) ?_
   refine Jq (X:=Cj s (da.set i ((Ag,kg),(An,kn))) (i+1)) (h3:=Cj.le) (fun p h1 h2 j d' a' hj hd' Bn=>by
    rcases Nat.lt_or_ge j i with h | h
    ·rw[List.getElem?_set_ne (by omega)] at Bn;exact h2 j d' a' h hd' Bn
    ·obtain rfl:j=i:=by omega
     rw[hd] at hd';cases hd';rw[List.getElem?_set_self (by omega)] at Bn;cases Bn
     exact⟨h1.2,h1.1⟩) ?_
   refine aA ?_;refine bM [(42,iv (i+1:Nat)),(41,iv s.aD.length),(3,pt g3),(2,pt g2)] ?_;refine vR (R':=[all w]) (by simp) ?_;exact gQ (s.aD.length - (i+1)) (by omega) ⟨i+1,da.set i ((Ag,kg),(An,kn)),hlt,by simpa using kZ,fun j hj=>by rw[List.getElem?_set_ne (by omega)];exact aGn j (by omega),rfl,rfl,rfl,rfl⟩
  ·obtain rfl:i=s.aD.length:=by omega
   refine aT [6,7,0,1,2,3,4,5] rfl (by decide) (fun _ h=>h) ?_;refine aA ?_;refine dG [] [2,3,4,5,6,7] [1] (by simp) rfl (by decide) (by decide) fun q hq _ hfr=>?_;obtain⟨F0,s0,z0⟩:=hq 2 _ (by simp) rfl;obtain⟨F1,s1,z1⟩:=hq 3 _ (by simp) rfl
   have e0:Cj s da s.aD.length q:=Cj.le ⟨q.w,F0⟩ q (fun b hb=>⟨z0 b hb,rfl⟩) s0
   have e1:yD s fa s.aF.length q:=yD.le ⟨q.w,F1⟩ q (fun b hb=>⟨z1 b hb,rfl⟩) s1
   have e2:=aI.own (hq 4 _ (by simp) rfl)
   have e3:=aI.own (hq 5 _ (by simp) rfl)
   have e4:=aI.own (hq 6 _ (by simp) rfl)
   have e5:=aI.own (hq 7 _ (by simp) rfl)
   have hS:uP (fH q) s #[.slice C s.aF.length j1,.slice D s.domains.length j2,.slice E s.bA.length j3,.slice V s.aD.length j4]:=
    ⟨C,_,j1,D,_,j2,E,_,j3,V,_,j4,rfl,⟨_,aFs hfl (fun i c a hc ha=>e1 i c a (List.getElem?_eq_some_iff.1 hc).1 hc ha),rfl,e2⟩,⟨rd,hrd,rfl,e4⟩,⟨rr,cQ,rfl,e5⟩,⟨_,aFr kZ (fun i d p hd hp=>e0 i d p (List.getElem?_eq_some_iff.1 hd).1 hd hp),rfl,e3⟩⟩
   exact Mw (vs:=[.slice C s.aF.length j1,.slice D s.domains.length j2,.slice E s.bA.length j3,.slice V s.aD.length j4]) rfl (by kernel_rfl) rfl rfl (by first | assumption | exact aO.whole 0 rfl | exact aO.whole 1 rfl | exact aO.whole 2 rfl | exact aO.whole 3 rfl | exact aO.whole 4 rfl | exact aO.whole 5 rfl | exact aO.whole 6 rfl | exact aO.whole 7 rfl | exact aO.whole 8 rfl | exact xY (by simp) (by assumption)) fun w1 t=>⟨⟨_,rfl,_,rfl,hS.mono (kF (t.mT (by simp) (hfr (by simp) (by simp))))⟩,t.below (by simp)⟩
end
section
section
variable{P:Program}{N:bY}{w0 w:World}{K:Act→World→Prop}{e:Env}{R:List Piece}{H H':List HP}
theorem Xo{p : HP}{ps : List HP}(h : XK N w0 K e R (HP.many (ps ++ [p]) :: H)) : XK N w0 K e R (p :: HP.many ps :: H) := fun a w hr st => by
  obtain⟨Z,F,hz,cQ,hs,cY,eD⟩:=st.ex;obtain⟨G,hG1,hG2,hG3⟩:=hs 1 _ rfl;refine h a w hr ⟨st.os,st.tape,st.output,st.size,Z,fun j=>match j with | 0=>fun b=>F 0 b∨F 1 b | j+1=>F (j+2),hz,cQ,fun j r hj=>?_,fun j b hb=>?_,fun j k b kH hj hk=>?_⟩
  · cases j with
    | zero =>
      simp at hj;subst hj;refine⟨fun i b=>if i < ps.length then G i b else i=ps.length∧F 0 b,fun i r hi=>?_,fun i b hb=>?_,fun i k b hik h1 h2=>?_⟩
      · rcases Nat.lt_or_ge i ps.length with hl | hl
        · rw[List.getElem?_append_left hl] at hi
          show r.sat (fun b=>if i < ps.length then G i b else i=ps.length∧F 0 b) w
          rw[show(fun b=>if i < ps.length then G i b else i=ps.length∧F 0 b)=G i by funext b;rw[if_pos hl]];exact hG1 i r hi
        · rw[List.getElem?_append_right hl] at hi
          have h0:=xD hi
          have hil:i=ps.length:=by simp at h0;omega
          subst hil;simp at hi;subst hi
          show p.sat (fun b=>if ps.length < ps.length then G ps.length b else ps.length=ps.length∧F 0 b) w
          rw[show(fun b=>if ps.length < ps.length then G ps.length b else ps.length=ps.length∧F 0 b)=F 0 by funext b;simp];exact hs 0 _ rfl
      · dsimp only at hb
        split at hb
        · exact .inr (hG2 i b hb)
        · exact .inl hb.2
      · dsimp only at h1 h2
        split at h1<;>split at h2
        · exact hG3 i k b hik h1 h2
        · exact eD 1 0 b (by omega) (hG2 i b h1) h2.2
        · exact eD 0 1 b (by omega) h1.2 (hG2 k b h2)
        · omega
    | succ j=>exact hs (j+2) r (by simpa using hj)
  · cases j with
    | zero=>rcases hb with hb | hb<;>exact cY _ b hb
    | succ j=>exact cY _ b hb
  · cases j with
    | zero => cases k with
      | zero=>exact kH rfl
      | succ k => rcases hj with hj | hj
                  · exact eD 0 (k+2) b (by omega) hj hk
                  · exact eD 1 (k+2) b (by omega) hj hk
    | succ j => cases k with
      | zero => rcases hk with hk | hk
                · exact eD 0 (j+2) b (by omega) hk hj
                · exact eD 1 (j+2) b (by omega) hk hj
      | succ k=>exact eD (j+2) (k+2) b (by omega) hj hk
end
theorem vS{N:bY}{w0:World}{e:Env}{R:List Piece}{H:List HP}{K:Act→World→Prop}{p q r:HP}(h:XK N w0 K e R (HP.many [p,q,r]::H)):XK N w0 K e R (p::q::r::H):=by
 refine mV ?_;refine fun a w hr st=>?_
 refine(Xo (ps:=[p,q]) (p:=r) h) a w hr (st.weak (fun _ h=>h) (fun i=>match i with
  | 0=>1
  | 1=>0
  | i+2=>i+2) (fun i j _ _ he=>by
   match i,j with
   | 0,0=>rfl
   | 0,1=>simp at he
   | 0,j+2=>simp at he
   | 1,0=>simp at he
   | 1,1=>rfl
   | 1,j+2=>simp at he
   | i+2,0=>simp at he
   | i+2,1=>simp at he
   | i+2,j+2=>simpa using he) (fun i p hi=>by
   match i,hi with
   | 0,hi=>simpa using hi
   | 1,hi=>simpa using hi
   | i+2,hi=>simpa using hi))
end
section
theorem aRL{N:bY}{w0:World}{e:Env}{R:List Piece}{H:List HP}{K:Act→World→Prop}{p q r s:HP}(h:XK N w0 K e R (HP.many [p,q,r,s]::H)):XK N w0 K e R (p::q::r::s::H):=by
 refine mV ?_;refine fun a w hr st=>?_
 have swap:∀{x y:HP} {H:List HP} {w:World},St w0 R (x::y::H) w→St w0 R (y::x::H) w:=fun st=>st.weak (fun _ h=>h) (fun i=>match i with
  | 0=>1
  | 1=>0
  | i+2=>i+2) (fun i j _ _ he=>by
   match i,j with
   | 0,0=>rfl
   | 0,1=>simp at he
   | 0,j+2=>simp at he
   | 1,0=>simp at he
   | 1,1=>rfl
   | 1,j+2=>simp at he
   | i+2,0=>simp at he
   | i+2,1=>simp at he
   | i+2,j+2=>simpa using he) (fun i p hi=>by
   match i,hi with
   | 0,hi=>simpa using hi
   | 1,hi=>simpa using hi
   | i+2,hi=>simpa using hi)
 refine(Xo (ps:=[p,q]) (p:=r) (H:=s::H) (fun a w hr st=>?_)) a w hr (swap st);exact(Xo (ps:=[p,q,r]) (p:=s) h) a w hr (swap st)
def aIR(d:cG)(v:Value)(hs:List HP)(_:Piece):Prop:=∃L:FL,v=.tuple #[.pointer (some ⟨L.f,0,none⟩),iv 0]∧hs=[gR L d (Dt d)]
theorem Cv(l:List Rg):List.replicate l.length (Value.int .u32 0)=mL (l.map fun _=>0):=by
 refine List.ext_getElem? fun j=>?_;simp only[mL,List.map_map,List.getElem?_replicate,List.getElem?_map]
 by_cases h:j < l.length
 ·rw[if_pos h,List.getElem?_eq_getElem h];rfl
 ·rw[if_neg h,List.getElem?_eq_none (by omega)];rfl
theorem aLs(d:cG)(hrl:d.aS.length≤8)(cQ:∀r∈d.aS,0≤r.reset∧r.reset < 4294967296)(A:Option Addr)(c:Nat)(w:World)(hs:aI (all w) 2 A d.aS.length (d.aS.flatMap Rg.cells)):
  Cz 102 #[.slice A d.aS.length c] w (fun y w'=>(∃v hs q,y=.returned v∧q.w=w'∧aIR d v hs q∧gJ w hs q)∧Below w.heap.size w w'):=by
 refine aN func102 ntmps102 ?_;refine dX ?_;refine fR ?_;refine bF ?_;refine bF ?_;refine fC ?_;refine dX ?_;refine dX ?_;refine fR ?_;refine bF ?_;refine bF ?_;refine bF ?_;refine aB ?_;refine aG rfl (fun h=>absurd h (by omega)) (fun _=>?_);refine oG ?_;refine eI ?_;refine Rs (fun e R H=>∃B j gn gs g3,e=[(4,pt g3)]∧R=[all w]∧H=[HP.aE g3 264 [.slice B d.aS.length j,.slice (some ⟨gn,0,none⟩) d.aS.length d.aS.length,.slice (some ⟨gs,0,none⟩) d.aS.length d.aS.length,.bool false],HP.aE gn 37 (mL (d.aS.map fun _=>0)),HP.aE gs 37 (mL (d.aS.map fun _=>0)),HP.own 95 2 (.slice B d.aS.length j) d.aS.length (d.aS.flatMap Rg.cells)]) ?_ ?_
 ·refine qP 8 (by kernel_rfl) (by kernel_rfl) ?_;refine bQ 0 ?_;refine bQ 2 ?_;refine bQ 3 ?_;refine bQ 5 ?_;refine bQ 6 ?_;refine aSm 1 4 7 rfl rfl rfl (by kernel_rfl) ?_ ?_ ?_
  ·skip
   refine eW (Sg d.aS.length (d.aS.flatMap Rg.cells)) (fun w1 st=>Wz A _ c _ w1 (hs.le (st.le (by simp))) Og (by omega)) ?_;rintro _ _ q ⟨B,j,rfl,rfl⟩ _;dsimp only[List.cons_append,List.nil_append];refine mW ?_ (hS:=(fun _ h=>h.bB.tail));refine Jt 4 7 rfl rfl (by kernel_rfl) ?_ ?_
   ·skip
    refine lX (n:=d.aS.length) 4 (el:=37) (z:=.int .u32 0) (by kernel_rfl) (by kernel_rfl) rfl rfl rfl (by omega) (by omega) (by decide) fun gn=>?_;rw[Cv d.aS];refine mW ?_ (hS:=(fun _ h=>h.tail.bB.tail));refine cJ 7 ?_;refine lX (n:=d.aS.length) 4 (el:=37) (z:=.int .u32 0) (by kernel_rfl) (by kernel_rfl) rfl rfl rfl (by omega) (by omega) (by decide) fun gs=>?_;rw[Cv d.aS];refine mW ?_ (hS:=(fun _ h=>h.tail.tail.bB.tail));refine cJ 8 ?_;refine kd (iM rfl) ?_;refine eR ?_;refine cJ 9 ?_;refine bN fun g3=>?_;refine eR ?_;refine cJ 10 ?_;refine bF ?_;refine eR ?_;refine kK ?_;refine eI ?_;exact nV ⟨B,j,gn,gs,g3,rfl,rfl,rfl⟩
   ·skip
    refine lX (n:=d.aS.length) 4 (el:=37) (z:=.int .u32 0) (by kernel_rfl) (by kernel_rfl) rfl rfl rfl (by omega) (by omega) (by decide) fun gs=>?_;rw[Cv d.aS];refine mW ?_ (hS:=(fun _ h=>h.tail.bB.tail));refine cJ 4 ?_;refine lX (n:=d.aS.length) 4 (el:=37) (z:=.int .u32 0) (by kernel_rfl) (by kernel_rfl) rfl rfl rfl (by omega) (by omega) (by decide) fun gn=>?_;rw[Cv d.aS];refine mW ?_ (hS:=(fun _ h=>h.tail.tail.bB.tail));refine cJ 8 ?_;refine kd (iM rfl) ?_;refine eR ?_;refine cJ 9 ?_;refine bN fun g3=>?_;refine eR ?_;refine cJ 10 ?_;refine bF ?_;refine eR ?_;refine kK ?_;refine eI ?_;exact nV ⟨B,j,gn,gs,g3,rfl,rfl,rfl⟩
  ·skip
   refine lX (n:=d.aS.length) 4 (el:=37) (z:=.int .u32 0) (by kernel_rfl) (by kernel_rfl) rfl rfl rfl (by omega) (by omega) (by decide) fun gn=>?_;rw[Cv d.aS];refine mW ?_ (hS:=(fun _ h=>h.tail));refine Jt 1 7 rfl rfl (by kernel_rfl) ?_ ?_
   ·skip
    refine eW (Sg d.aS.length (d.aS.flatMap Rg.cells)) (fun w1 st=>Wz A _ c _ w1 (hs.le (st.le (by simp))) Og (by omega)) ?_;rintro _ _ q ⟨B,j,rfl,rfl⟩ _;dsimp only[List.cons_append,List.nil_append];refine mW ?_ (hS:=(fun _ h=>h.bB.tail.tail));refine cJ 7 ?_;refine lX (n:=d.aS.length) 4 (el:=37) (z:=.int .u32 0) (by kernel_rfl) (by kernel_rfl) rfl rfl rfl (by omega) (by omega) (by decide) fun gs=>?_;rw[Cv d.aS];refine mW ?_ (hS:=(fun _ h=>h.tail.bB.tail.tail));refine cJ 8 ?_;refine kd (iM rfl) ?_;refine eR ?_;refine cJ 9 ?_;refine bN fun g3=>?_;refine eR ?_;refine cJ 10 ?_;refine bF ?_;refine eR ?_;refine kK ?_;refine eI ?_;exact nV ⟨B,j,gn,gs,g3,rfl,rfl,rfl⟩
   ·skip
    refine lX (n:=d.aS.length) 4 (el:=37) (z:=.int .u32 0) (by kernel_rfl) (by kernel_rfl) rfl rfl rfl (by omega) (by omega) (by decide) fun gs=>?_;rw[Cv d.aS];refine mW ?_ (hS:=(fun _ h=>h.tail.tail));refine cJ 1 ?_;refine eW (Sg d.aS.length (d.aS.flatMap Rg.cells)) (fun w1 st=>Wz A _ c _ w1 (hs.le (st.le (by simp))) Og (by omega)) ?_;rintro _ _ q ⟨B,j,rfl,rfl⟩ _;dsimp only[List.cons_append,List.nil_append];refine mW ?_ (hS:=(fun _ h=>h.bB.tail.tail.tail));refine cJ 8 ?_;refine kd (iM rfl) ?_;refine eR ?_;refine cJ 9 ?_;refine bN fun g3=>?_;refine eR ?_;refine cJ 10 ?_;refine bF ?_;refine eR ?_;refine kK ?_;refine eI ?_;exact nV ⟨B,j,gn,gs,g3,rfl,rfl,rfl⟩
  ·skip
   refine lX (n:=d.aS.length) 4 (el:=37) (z:=.int .u32 0) (by kernel_rfl) (by kernel_rfl) rfl rfl rfl (by omega) (by omega) (by decide) fun gs=>?_;rw[Cv d.aS];refine mW ?_ (hS:=(fun _ h=>h.tail));refine Jt 1 4 rfl rfl (by kernel_rfl) ?_ ?_
   ·skip
    refine eW (Sg d.aS.length (d.aS.flatMap Rg.cells)) (fun w1 st=>Wz A _ c _ w1 (hs.le (st.le (by simp))) Og (by omega)) ?_;rintro _ _ q ⟨B,j,rfl,rfl⟩ _;dsimp only[List.cons_append,List.nil_append];refine mW ?_ (hS:=(fun _ h=>h.bB.tail.tail));refine cJ 4 ?_;refine lX (n:=d.aS.length) 4 (el:=37) (z:=.int .u32 0) (by kernel_rfl) (by kernel_rfl) rfl rfl rfl (by omega) (by omega) (by decide) fun gn=>?_;rw[Cv d.aS];refine mW ?_ (hS:=(fun _ h=>h.tail.bB.tail.tail));refine cJ 8 ?_;refine kd (iM rfl) ?_;refine eR ?_;refine cJ 9 ?_;refine bN fun g3=>?_;refine eR ?_;refine cJ 10 ?_;refine bF ?_;refine eR ?_;refine kK ?_;refine eI ?_;exact nV ⟨B,j,gn,gs,g3,rfl,rfl,rfl⟩
   ·skip
    refine lX (n:=d.aS.length) 4 (el:=37) (z:=.int .u32 0) (by kernel_rfl) (by kernel_rfl) rfl rfl rfl (by omega) (by omega) (by decide) fun gn=>?_;rw[Cv d.aS];refine mW ?_ (hS:=(fun _ h=>h.tail.tail));refine cJ 1 ?_;refine eW (Sg d.aS.length (d.aS.flatMap Rg.cells)) (fun w1 st=>Wz A _ c _ w1 (hs.le (st.le (by simp))) Og (by omega)) ?_;rintro _ _ q ⟨B,j,rfl,rfl⟩ _;dsimp only[List.cons_append,List.nil_append];refine mW ?_ (hS:=(fun _ h=>h.bB.tail.tail.tail));refine cJ 8 ?_;refine kd (iM rfl) ?_;refine eR ?_;refine cJ 9 ?_;refine bN fun g3=>?_;refine eR ?_;refine cJ 10 ?_;refine bF ?_;refine eR ?_;refine kK ?_;refine eI ?_;exact nV ⟨B,j,gn,gs,g3,rfl,rfl,rfl⟩
 rintro _ _ _ ⟨B,j,gn,gs,g3,rfl,rfl,rfl⟩;refine xU 3 (Φ:=rO d B) (hm:=rO.le (d:=d) (A:=B)) rfl (fun p h=>h) ?_;dsimp only[List.set];refine aRL ?_;refine aB ?_
 refine bX 0 (gR ⟨g3,gn,gs,B,j⟩ d (Dz d ⟨d.aS.map fun _=>0,d.aS.map fun _=>0,false⟩)) (fun w1 G t hG xE hle=>Zm ⟨g3,gn,gs,B,j⟩ d ⟨d.aS.map fun _=>0,d.aS.map fun _=>0,false⟩ (by omega) ⟨by simp,by simp,fun v hv=>by
  obtain⟨r,hr,rfl⟩:=List.mem_map.1 hv;decide,fun v hv=>by
  obtain⟨r,hr,rfl⟩:=List.mem_map.1 hv
  decide⟩ w1 G hG xE) ?_
 refine aB ?_;refine dG [] [] [0] (by simp) rfl (by decide) (by decide) fun q _ _ hfr=>?_;exact fQ rfl rfl rfl fun w1 t=>⟨⟨_,_,⟨w1,q.Z⟩,rfl,rfl,⟨⟨g3,gn,gs,B,j⟩,rfl,rfl⟩,t.newR (by simp) (by simp) (hfr (by simp) (by simp))⟩,t.below (by simp)⟩
theorem aL3(w:World):
  Cz 104 #[] w (fun y w'=>(∃v hs q,y=.returned v∧q.w=w'∧(∃g,v=pt g∧hs=[HP.aE g 266 [iv 0,iv 0]])∧gJ w hs q)∧Below w.heap.size w w'):=by
 refine aN func104 ntmps104 ?_;refine aA ?_;refine kd (iM rfl) ?_;refine bN fun g=>?_;refine aA ?_;refine dG [] [] [0] (by simp) rfl (by decide) (by decide) fun q _ _ hfr=>?_;exact aP (h:=fun w1 t=>⟨_,_,⟨w1,q.Z⟩,rfl,rfl,⟨g,rfl,rfl⟩,t.newR (by simp) (by simp) (hfr (by simp) (by simp))⟩)
end
section
def Sc(x:fE):List Value:=[iv x.at_,iv x.denied]
def tF(g:Nat)(x:fE):HP:=HP.aE g 266 (Sc x)
def Sf(w:World):Prop:=∀i v,[(114:Int),97,115,100][i]? =some v→fS w 0 i (.int .u8 v)
theorem Sf.below{w w':World}(h:Sf w)(hb:Below w.heap.size w w'):Sf w':=fun i v hv=>
 ⟨Nat.lt_of_lt_of_le (h i v hv).1 hb.size,(hb.cell (p:=⟨0,i,none⟩) (h i v hv).1).trans (h i v hv).2⟩
theorem aF1(g:Nat)(x:fE)(hx:zP x)(w:World)(hL:Sf w)(hR:dU w g 0 (Sc x)):
  Cz 205 #[pt g] w (Rt (.int .u8 (pF x.at_)) w):=by
 have k0:=hR.at_ (j:=0) rfl
 obtain⟨h1,h2⟩:=hx;obtain⟨i,hi⟩:∃i:Nat,x.at_=i:=⟨x.at_.toNat,by omega⟩
 have hv:[(114:Int),97,115,100][i]? =some (pF x.at_):=by
  have:i=0∨i=1∨i=2∨i=3:=by omega
  rcases this with rfl | rfl | rfl | rfl<;>rw[hi]<;>rfl
 have k1:=hL i _ hv
 have hlt:i < 4:=by omega
 rw[hi] at k0 k1⊢;refine aN func205 ntmps205 ?_;refine aA ?_;refine kd (fM i i) ?_;refine aA ?_;exact dI
section
variable{g:Nat}{x:fE}{w:World}{F:Nat→Prop}
theorem aL6(hp:(tF g x).sat F w)(hF:∀b,F b→b < w.heap.size):
  Cz 219 #[pt g] w (Wr (iv (sW x).1) (tF g (sW x).2) w F):=by
 refine cT func219 ntmps219 hp hF ?_;dsimp only[tF,Sc];refine aA ?_;refine aG rfl (fun h=>?_) (fun h=>?_)
 ·have hr:sW x=(6,x):=if_pos (by simpa using h)
  rw[hr];refine aA ?_;exact bP 0 hF
 ·have hr:sW x=(0,⟨1,x.denied⟩):=if_neg (by simpa using h)
  rw[hr];refine aA ?_;exact bP 0 hF
theorem aL5(hp:(tF g x).sat F w)(hF:∀b,F b→b < w.heap.size):
  Cz 206 #[pt g] w (Wr (iv (oM x).1) (tF g (oM x).2) w F):=by
 refine cT func206 ntmps206 hp hF ?_;dsimp only[tF,Sc];refine aA ?_;refine bZ (t:=11) rfl (fun h2=>?_) (fun h2=>?_)
 ·refine aA ?_;refine aG rfl (fun h=>?_) (fun h=>?_)
  ·have hr:oM x=(6,x):=if_pos ⟨by simpa using h2,by simpa using h⟩
   rw[hr];refine aA ?_;exact bP 0 hF
  ·have hr:oM x=(0,⟨0,x.denied⟩):=if_neg fun h3=>h3.2 (by simpa using h)
   rw[hr];refine aA ?_;exact bP 0 hF
 ·have hr:oM x=(0,⟨0,x.denied⟩):=if_neg fun h3=>h3.1 (by simpa using h2)
  rw[hr];refine aA ?_;exact bP 0 hF
theorem aL4(Mt aZ:Bool)(hp:(tF g x).sat F w)(hF:∀b,F b→b < w.heap.size):
  Cz 152 #[pt g,.bool Mt,.bool aZ] w (Wr (.tuple #[]) (tF g (yL x Mt aZ)) w F):=by
 refine cT func152 ntmps152 hp hF ?_;dsimp only[tF,Sc];refine aA ?_;refine aG rfl (fun h=>?_) (fun h=>?_)
 ·have hr:yL x Mt aZ=x:=if_pos (by simpa using h)
  rw[hr];refine aA ?_;exact fB 0 hF
 ·have h1:¬x.at_≠1:=by simpa using h
  cases aZ
  ·cases Mt
   ·have hr:yL x false false=⟨2,0⟩:=(if_neg h1).trans ((if_neg (by decide)).trans (if_neg (by decide)))
    rw[hr];refine aA ?_;exact fB 0 hF
   ·have hr:yL x true false=x:=(if_neg h1).trans ((if_neg (by decide)).trans (if_pos rfl))
    rw[hr];refine aA ?_;exact fB 0 hF
  ·have hr:yL x Mt true=⟨3,IntKind.i64.wrap (x.denied+1)⟩:=(if_neg h1).trans (if_pos rfl)
   rw[hr];refine aA ?_;refine En rfl rfl rfl (by decide) ?_;refine aA ?_;exact fB 0 hF
end
end
section
structure TL where
 t:Nat
 A:Option Addr
 c:Nat
 fa:List (Option Addr×Nat)
def qG(c:eV)(a:Option Addr×Nat)(x:eM):List Value:=[.int .u8 c.kind,.slice a.1 c.src.length a.2,.int .u64 c.rate,iv c.mul,iv c.div,iv c.lock,.bool x.on,iv x.left,iv 0,iv 0,iv (byF c)]
def jQ(s:aC)(fa:List (Option Addr×Nat))(st:List eM):List (List Value):=List.zipWith (fun c p=>qG c p.1 p.2) s.aF (fa.zip st)
structure vT(w:World)(L:TL)(s:aC)(st:List eM):Prop where
 r0:fS w L.t 0 (.slice L.A s.aF.length L.c)
 row:aI (all w) 11 L.A s.aF.length (jQ s L.fa st).flatten
 qL:∀(i:Nat) (c:eV) (a:Option Addr×Nat),s.aF[i]? =some c→L.fa[i]? =some a→aI (all w) 1 a.1 c.src.length (aM c.src)
 fl:L.fa.length=s.aF.length
 ok:pR s st
theorem vT.below{w w':World}{L:TL}{s:aC}{st:List eM}(h:vT w L s st)(hb:Below w.heap.size w w'):vT w' L s st:=
 ⟨⟨Nat.lt_of_lt_of_le h.r0.1 hb.size,(hb.cell (p:=⟨_,0,none⟩) h.r0.1).trans h.r0.2⟩,h.row.le (kR hb),fun i c a hc ha=>(h.qL i c a hc ha).le (kR hb),h.fl,h.ok⟩
theorem vT.node{w:World}{L:TL}{s:aC}{st:List eM}(h:vT w L s st){i:Nat}(hi:i < s.aF.length):
  ∃b off c a x,s.aF[i]? =some c∧st[i]? =some x∧L.A=some ⟨b,off,none⟩∧dU w b (off+i*11) (qG c a x)∧aI (all w) 1 a.1 c.src.length (aM c.src):=by
 obtain⟨c,hc⟩:=get_some hi;obtain⟨a,ha⟩:=get_some (l:=L.fa) (i:=i) (by rw[h.fl];exact hi);obtain⟨x,hx⟩:=get_some (l:=st) (i:=i) (by rw[h.ok.len];exact hi)
 have hr:(jQ s L.fa st)[i]? =some (qG c a x):=by
  rw[jQ,List.getElem?_zipWith,hc,(List.getElem?_zip_eq_some (z:=(a,x))).2 ⟨ha,hx⟩]
 obtain⟨b,off,hA,hro⟩:=aI.row h.row (fun r hr=>by
  obtain⟨j,hj⟩:=List.getElem?_of_mem hr;rw[jQ,List.getElem?_zipWith] at hj;split at hj<;>cases hj
  rfl) hr hi
 exact⟨b,off,c,a,x,hc,hx,hA,hro,h.qL i c a hc ha⟩
def rR(s:aC)(fa:List (Option Addr×Nat))(p:Piece):Prop:=∀(i:Nat) (c:eV) (a:Option Addr×Nat),s.aF[i]? =some c→fa[i]? =some a→aI p 1 a.1 c.src.length (aM c.src)
theorem rR.le{s:aC}{fa:List (Option Addr×Nat)}(p q:Piece)(hl:p.Le q)(h:rR s fa p):rR s fa q:=fun i c a hc ha=>(h i c a hc ha).le hl
def pM(L:TL)(s:aC)(st:List eM):HP:=HP.many [HP.aE L.t 249 [.slice L.A s.aF.length L.c],HP.own 251 11 (.slice L.A s.aF.length L.c) s.aF.length (jQ s L.fa st).flatten,HP.bU (rR s L.fa) (rR.le (s:=s) (fa:=L.fa))]
theorem aIr{L:TL}{s:aC}{st:List eM}{F:Nat→Prop}{w:World}(h:(pM L s st).sat F w)(hF:∀b,F b→b < w.heap.size)(hfl:L.fa.length=s.aF.length)(hok:pR s st):vT w L s st:=by
 obtain⟨G,g1,g2,_⟩:=h
 have h0:=g1 0 _ rfl
 have h1:=g1 1 _ rfl
 have h2:=g1 2 _ rfl
 have hl:∀i b,G i b→b < w.heap.size:=fun i b hb=>hF b (g2 i b hb)
 obtain⟨A',c',he,hs⟩:=zO (Y:=fun b=>b < w.heap.size) h1 (hl 1)
 injection he with he
 subst he;exact⟨⟨h0.2.lt,by rw[h0.2.cell];rfl⟩,hs,fun i c a hc ha=>(h2 i c a hc ha).le (fun b hb=>⟨hl 2 b hb,rfl⟩),hfl,hok⟩
theorem aH8(t n c b off i:Nat)(w:World)(h0:fS w t 0 (.slice (some ⟨b,off,none⟩) n c))(hi:i < n):
  Cz 185 #[pt t,iv (i:Int)] w (Rt (.pointer (some ⟨b,off+i*11,none⟩)) w):=by
 refine aN func185 ntmps185 ?_;refine aA ?_;refine bZ (t:=11) rfl (fun h=>absurd h (by omega)) (fun _=>?_);refine aA ?_;refine aG rfl (fun h=>absurd h (by omega)) (fun _=>?_);refine aA ?_;refine kd (dat i (off+i*11)) ?_;refine aA ?_;exact dI
theorem aH7(t n c:Nat)(A:Option Addr)(i:Int)(w:World)(h0:fS w t 0 (.slice A n c))(hi:bT n i=false):
  Cz 185 #[pt t,iv i] w (Rt (.pointer none) w):=by
 have hi:=of_decide_eq_false hi
 refine aN func185 ntmps185 ?_;refine aA ?_;refine bZ (t:=11) rfl (fun h=>?_) (fun h=>?_)
 ·refine aA ?_;exact dI
 ·refine aA ?_;refine aG rfl (fun h=>?_) (fun h=>absurd hi (by omega));refine aA ?_;exact dI
theorem Qz(L:TL)(s:aC)(st:List eM)(i f:Nat)(c:eV)(fs:List Int)(w:World)(hR:vT w L s st)(hi:s.aF[i]? =some c)(hf:c.src=(f:Int)::fs):
  Cz 187 #[.pointer (some ⟨L.t,0,none⟩),iv (i:Int)] w (Rt (iv (f:Int)) w):=by
 have hlt:i < s.aF.length:=(List.getElem?_eq_some_iff.1 hi).1
 obtain⟨b,off,c',a,x,hc,hx,hA,hro,hs⟩:=hR.node hlt;obtain rfl:c=c':=by rw[hi] at hc;exact Option.some.inj hc
 have h0:=hR.r0
 rw[hA] at h0
 have h1:=hro.at_ (j:=1) rfl
 have h8:=hro.at_ (j:=8) rfl
 rw[hf] at h1 hs;obtain⟨b2,o2,Qd,pH,nE⟩:=hs.2 (by simp);rw[Qd] at h1
 have h2:fS w b2 o2 (iv (f:Int)):=⟨pH,nE 0 _ rfl⟩
 refine aN func187 ntmps187 ?_;refine aA ?_;refine kd (dat i (off+i*11)) ?_;refine aA ?_;refine lH ?_;refine jE ?_;refine vQ (dat 0 o2 (hlt:=by simp)) ?_;refine iW ?_;refine aA ?_;exact dI
theorem aQo(L:TL)(s:aC)(st:List eM)(hH:s.dH)(b1 b2:Nat):∀(i:Nat),i < s.aF.length→∀w,vT w L s st→fS w b1 0 (.pointer (some ⟨L.t,0,none⟩))→fS w b2 0 (.func (.func 186) #[] #[pt b1,pt b2])→
  Cz 186 #[iv (i:Int),pt b1,pt b2] w (Rt (.bool (runs s st i)) w):=by
 intro i
 induction i using Nat.strongRecOn with
 | _ i ih =>
  intro hlt w hR Bk eE;obtain⟨b,off,c,a,x,hc,hx,hA,hro,hs⟩:=hR.node hlt
  have hrun:=aK3 hH.t.aF hc hx
  have h0:=hR.r0
  rw[hA] at h0
  have k0:=hro.at_ (j:=0) rfl
  have k6:=hro.at_ (j:=6) rfl
  have k7:=hro.at_ (j:=7) rfl
  have Qe:∀{w1},Below w.heap.size w w1→fS w1 b1 0 (.pointer (some ⟨L.t,0,none⟩)):=fun hb=>⟨Nat.lt_of_lt_of_le Bk.1 hb.size,(hb.cell (p:=⟨_,0,none⟩) Bk.1).trans Bk.2⟩
  have go2:∀{w1},Below w.heap.size w w1→fS w1 b2 0 (.func (.func 186) #[] #[pt b1,pt b2]):=fun hb=>⟨Nat.lt_of_lt_of_le eE.1 hb.size,(hb.cell (p:=⟨_,0,none⟩) eE.1).trans eE.2⟩
  obtain⟨hsrc,hfit⟩:=hH.t.aF i c hc;refine aN func186 ntmps186 ?_;refine aA ?_;refine kd (dat i (off+i*11)) ?_;rcases hfit with⟨hk,hs0,_⟩ | hfit
  ·rw[hk] at k0;refine aA ?_;refine jJ (by simp) ?_;rw[hrun,hs0];simp[yK,hk]
  obtain⟨f,fs,hf⟩:∃(f:Nat) (fs:List Int),c.src=(f:Int)::fs:=by
   cases hs0:c.src with
   | nil=>rw[hs0] at hfit;simp at hfit
   | cons f fs=>exact⟨f.toNat,fs,by have:=(hsrc f (by rw[hs0];simp)).1;rw[Int.toNat_of_nonneg this]⟩
  have Lu:f < i:=by have:=(hsrc f (by rw[hf];simp)).2;omega
  have Lm:runs s st i=(yK c x&&runs s st f):=by rw[hrun,hf];rfl
  clear hrun;rcases hfit with⟨hk,_⟩ | ⟨hk,_⟩ | ⟨hk,_⟩ | ⟨hk,_⟩
  ·rw[hk] at k0;cases Di:x.on
   ·rw[Di] at k6;refine aA ?_;refine lH ?_;refine iW ?_;refine aA ?_;refine jJ (by simp) ?_;rw[Lm];simp[yK,hk,Di]
   ·rw[Di] at k6;refine aA ?_;refine lH ?_;refine jE ?_;refine Ed 32 rfl (fun h=>?_) (fun h=>?_)
    ·refine jE ?_;refine sY (fun w1 lD=>Qz L s st i f c fs w1 (hR.below (lD.below (by simp))) hc hf) ?_;refine jE ?_;refine Gu (fi:=[]) (vs:=[iv (f:Int)]) (ca:=[pt b1,pt b2]) (fun w1 lD=>ih f Lu (by omega) w1 (hR.below (lD.below (by simp))) (Qe (lD.below (by simp))) (go2 (lD.below (by simp)))) ?_;refine iW ?_;refine aA ?_;refine jJ (by simp) ?_;rw[Lm];simp[yK,hk,Di,h]
    ·refine iW ?_;refine aA ?_;refine jJ (by simp) ?_;rw[Lm];simp[yK,hk,Di,h]
  ·rw[hk] at k0;refine aA ?_;refine lH ?_;refine jE ?_;refine sY (fun w1 lD=>Qz L s st i f c fs w1 (hR.below (lD.below (by simp))) hc hf) ?_;refine Gu (fi:=[]) (vs:=[iv (f:Int)]) (ca:=[pt b1,pt b2]) (fun w1 lD=>ih f Lu (by omega) w1 (hR.below (lD.below (by simp))) (Qe (lD.below (by simp))) (go2 (lD.below (by simp)))) ?_;refine iW ?_;refine aA ?_;refine jJ (by simp) ?_;rw[Lm];simp[yK,hk]
  ·rw[hk] at k0;cases Di:x.on
   ·rw[Di] at k6;refine aA ?_;refine lH ?_;refine iW ?_;refine aA ?_;refine jJ (by simp) ?_;rw[Lm];simp[yK,hk,Di]
   ·rw[Di] at k6;refine aA ?_;refine lH ?_;refine jE ?_;refine sY (fun w1 lD=>Qz L s st i f c fs w1 (hR.below (lD.below (by simp))) hc hf) ?_;refine jE ?_;refine Gu (fi:=[]) (vs:=[iv (f:Int)]) (ca:=[pt b1,pt b2]) (fun w1 lD=>ih f Lu (by omega) w1 (hR.below (lD.below (by simp))) (Qe (lD.below (by simp))) (go2 (lD.below (by simp)))) ?_;refine iW ?_;refine aA ?_;refine jJ (by simp) ?_;rw[Lm];simp[yK,hk,Di]
  ·rw[hk] at k0;refine aA ?_;refine lH ?_;refine jE ?_;refine sY (fun w1 lD=>Qz L s st i f c fs w1 (hR.below (lD.below (by simp))) hc hf) ?_;refine Gu (fi:=[]) (vs:=[iv (f:Int)]) (ca:=[pt b1,pt b2]) (fun w1 lD=>ih f Lu (by omega) w1 (hR.below (lD.below (by simp))) (Qe (lD.below (by simp))) (go2 (lD.below (by simp)))) ?_;refine iW ?_;refine aA ?_;refine jJ (by simp) ?_;rw[Lm];simp[yK,hk]
end
section
section
variable{N:bY}{w0 w:World}{e:Env}{R:List Piece}{H:List HP}{K:Act→World→Prop}{L:TL}{s:aC}{st:List eM}
theorem St.aBF(t:St w0 R H w)(i:Nat)(hi:H[i]? =some (pM L s st))(hfl:L.fa.length=s.aF.length)(hok:pR s st):vT w L s st:=by
 obtain⟨F,h1,h2,_⟩:=t.chunk hi;exact aIr h1 h2 hfl hok
theorem Rd.tree(i:Nat)(hi:H[i]? =some (pM L s st))(hfl:L.fa.length=s.aF.length)(hok:pR s st):Rd w0 R H L.t 0 (.slice L.A s.aF.length L.c):=fun w t=>(t.aBF i hi hfl hok).r0.2
theorem aCj(hfl:L.fa.length=s.aF.length)(hok:pR s st):(jQ s L.fa st).length=s.aF.length∧∀r∈jQ s L.fa st,r.length=11:=by
 have:=hok.len
 refine⟨by simp[jQ];omega,fun r hr=>?_⟩;obtain⟨j,hj⟩:=List.getElem?_of_mem hr;rw[jQ,List.getElem?_zipWith] at hj;split at hj<;>cases hj
 rfl
theorem On{i:Nat}{c:eV}{a:Option Addr×Nat}{x:eM}(hc:s.aF[i]? =some c)(ha:L.fa[i]? =some a)(hx:st[i]? =some x):(jQ s L.fa st)[i]? =some (qG c a x):=by
 rw[jQ,List.getElem?_zipWith,hc,(List.getElem?_zip_eq_some (z:=(a,x))).2 ⟨ha,hx⟩]
theorem aFG{i:Nat}{c:eV}{a:Option Addr×Nat}{x:eM}(hc:s.aF[i]? =some c)(ha:L.fa[i]? =some a)(hi:i < st.length):(jQ s L.fa st).set i (qG c a x)=jQ s L.fa (st.set i x):=by
 refine List.ext_getElem? fun j=>?_;rw[List.getElem?_set]
 by_cases he:i=j
 ·subst he;rw[if_pos rfl,On hc ha (x:=x) (by rw[List.getElem?_set_self hi])];rw[if_pos]
  have h1:=(List.getElem?_eq_some_iff.1 hc).1
  have h2:=(List.getElem?_eq_some_iff.1 ha).1
  simp[jQ];omega
 ·rw[if_neg he,jQ,jQ,List.getElem?_zipWith,List.getElem?_zipWith]
  have hz:(L.fa.zip st)[j]? =(L.fa.zip (st.set i x))[j]? :=by
   rw[List.zip_eq_zipWith,List.zip_eq_zipWith,List.getElem?_zipWith,List.getElem?_zipWith,List.getElem?_set_ne he]
  rw[hz]
theorem St.aJO{g:Nat}{cs:List Value}(t:St w0 R H w)(i j:Nat)(hi:H[i]? =some (HP.aE g 251 cs))(hj:H[j]? =some (HP.many [HP.aE L.t 249 [.slice (some ⟨g,0,none⟩) s.aF.length L.c],cF,HP.bU (rR s L.fa) (rR.le (s:=s) (fa:=L.fa))]))(hA:L.A=some ⟨g,0,none⟩)(h2:cs.take (s.aF.length*11)=(jQ s L.fa st).flatten)(hfl:L.fa.length=s.aF.length)(hok:pR s st):vT w L s st:=by
 obtain⟨fK,iK⟩:=aCj hfl hok
 have hb:=t.aE hi
 obtain⟨F,⟨G,g1,g2,_⟩,hlt,_⟩:=t.chunk hj
 have h0:=g1 0 _ rfl
 have aNy:=g1 2 _ rfl
 refine⟨⟨h0.2.lt,by rw[h0.2.cell,hA];rfl⟩,⟨by rw[Ku _ iK,fK],fun _=>⟨g,0,hA,hb.lt,fun k u hu=>?_⟩⟩,fun k c a hc ha=>(aNy k c a hc ha).le (fun b hbG=>⟨hlt b (g2 2 b hbG),rfl⟩),hfl,hok⟩;rw[←h2] at hu;rw[Nat.zero_add]
 show w.cell? _=_
 rw[hb.cell]
 have hk:k < s.aF.length*11:=by
  rcases Nat.lt_or_ge k (s.aF.length*11) with h | h
  ·exact h
  ·rw[List.getElem?_eq_none (by rw[List.length_take];omega)] at hu;cases hu
 rw[List.getElem?_take_of_lt hk] at hu
 simpa using hu
theorem aIf(i:Nat)(hi:H[i]? =some (pM L s st))(hn:0 < s.aF.length)(h:∀g cs,L.A=some ⟨g,0,none⟩→cs.length=L.c*11→cs.take (s.aF.length*11)=(jQ s L.fa st).flatten→s.aF.length≤L.c→L.c≤maxLen→
  XK N w0 K e R (HP.aE g 251 cs::H.set i (HP.many [HP.aE L.t 249 [.slice L.A s.aF.length L.c],cF,HP.bU (rR s L.fa) (rR.le (s:=s) (fa:=L.fa))]))):XK N w0 K e R H:=by
 refine qM i 1 hi rfl ?_;refine aBc 0 rfl hn fun g hA=>?_;dsimp only[List.set];rw[hA];refine Gv 0 rfl fun cs h1 h2 h3 h4=>?_
 have:=h g cs hA h1 h2 h3 h4
 rw[hA] at this;exact this
theorem zI(i:Nat){g:Nat}{cs:List Value}{st':List eM}(hA:L.A=some ⟨g,0,none⟩)(h1:cs.length=L.c*11)(h2:cs.take (s.aF.length*11)=(jQ s L.fa st').flatten)(h3:s.aF.length≤L.c)(h4:L.c≤maxLen)
  (hi:H[i]? =some (HP.many [HP.aE L.t 249 [.slice (some ⟨g,0,none⟩) s.aF.length L.c],cF,HP.bU (rR s L.fa) (rR.le (s:=s) (fa:=L.fa))]))
  (h:XK N w0 K e R (H.set i (pM L s st'))):XK N w0 K e R (HP.aE g 251 cs::H):=by
 refine Ee 0 (n:=s.aF.length) (c:=L.c) (sz:=11) rfl h1 h2 h3 h4 ?_;dsimp only[List.set];rw[←hA] at hi⊢;exact qO i 1 hi rfl h
end
theorem Xa(L:TL)(s:aC)(st:List eM)(hH:s.dH)(i:Int)(w:World)(hR:vT w L s st):
  Cz 147 #[.pointer (some ⟨L.t,0,none⟩),iv i] w (Rt (.bool (tP s st i)) w):=by
 cases hi:bT s.aF.length i
 ·refine aN func147 ntmps147 ?_;refine aA ?_;refine bN fun g1=>?_;refine aA ?_;refine aV (fun w1 t=>aH7 L.t s.aF.length L.c L.A i w1 ((hR.below (t.below (by simp))).r0) hi) ?_;refine aA ?_;refine jJ (by simp) ?_;simp[tP,hi]
 ·obtain⟨n,rfl⟩:∃n:Nat,i=n:=⟨i.toNat,by have:=of_decide_eq_true hi;omega⟩
  have hlt:n < s.aF.length:=by have:=of_decide_eq_true hi;omega
  obtain⟨b,off,c,a,x,hc,hx,hA,_⟩:=hR.node hlt;refine aN func147 ntmps147 ?_;refine aA ?_;refine bN fun g1=>?_;refine aA ?_;refine aV (fun w1 t=>aH8 L.t s.aF.length L.c b off n w1 (by rw[←hA];exact(hR.below (t.below (by simp))).r0) hlt) ?_;refine aA ?_;refine cE fun g2=>?_;refine aA ?_;refine jY (vf:=[]) (vc:=[pt g1,pt g2]) rfl rfl (by decide) ?_;refine aA ?_;refine aAn (fi:=[]) (vs:=[iv (n:Int)]) (ca:=[pt g1,pt g2]) (fun w1 t=>aQo L s st hH g1 g2 n hlt w1 (hR.below (t.below (by simp))) ((t.box (i:=1) rfl).at_ (j:=0) rfl) ((t.box (i:=0) rfl).at_ (j:=0) rfl)) ?_;refine aA ?_;refine jJ (by simp) ?_;simp[tP,hi]
theorem aQq(L:TL)(s:aC)(st:List eM)(hfl:L.fa.length=s.aF.length)(hok:pR s st)(i:Int)(on:Bool)(w:World)(F:Nat→Prop)(hp:(pM L s st).sat F w)(hF:∀b,F b→b < w.heap.size):
  Cz 209 #[.pointer (some ⟨L.t,0,none⟩),iv i,.bool on] w (Wr (iv (lK s st i on).1) (pM L s (lK s st i on).2) w F):=by
 cases hi:bT s.aF.length i
 ·have hr:lK s st i on=(4,st):=by simp[lK,hi]
  rw[hr];refine cT func209 ntmps209 hp hF ?_;refine aA ?_;refine aV (fun w1 t=>aH7 L.t s.aF.length L.c L.A i w1 ((t.aBF 0 rfl hfl hok).r0) hi) ?_;refine aA ?_;exact bP 0 hF
 ·obtain⟨n,rfl⟩:∃n:Nat,i=n:=⟨i.toNat,by have:=of_decide_eq_true hi;omega⟩
  have hlt:n < s.aF.length:=by have:=of_decide_eq_true hi;omega
  have hl:=hok.len
  obtain⟨c,hc⟩:=get_some hlt;obtain⟨a,ha⟩:=get_some (l:=L.fa) (i:=n) (by omega);obtain⟨x,hx⟩:=get_some (l:=st) (i:=n) (by omega);obtain⟨fK,iK⟩:=aCj hfl hok;refine cT func209 ntmps209 hp hF ?_;refine aIf 0 rfl (by omega) fun g cs hA h1 h2 h3 h4=>?_;dsimp only[List.set];rw[hA]
  have hs:=Ds h2 fK iK (On hc ha hx)
  have hlen:n*11+11≤cs.length:=by omega
  refine aY 1 0 ?_;refine aA ?_;refine aV (fun w1 t=>aH8 L.t s.aF.length L.c g 0 n w1 ((t.box (i:=0) rfl).at_ (j:=0) rfl) hlt) ?_;refine aJ 1 0 ?_;rw[Nat.zero_add];refine aA ?_
  have hpq:∀x':eM,(jQ s L.fa st).set n (qG c a x')=jQ s L.fa (st.set n x'):=fun x'=>aFG hc ha (by omega)
  refine bZ (t:=19) rfl (fun hk=>?_) (fun hk=>?_)
  ·refine aA ?_;refine aG rfl (fun hg=>?_) (fun hg=>?_)
   ·have hr:lK s st (n:Int) on=(1,st):=by simp[lK,hi,hc,hx,hk,hg]
    rw[hr];refine aA ?_;refine zI 0 hA h1 h2 h3 h4 rfl ?_;exact bP 0 hF
   ·have hg:c.kind=103:=Classical.not_not.1 hg
    have hr:lK s st (n:Int) on=(0,st.set n ⟨on,x.left⟩):=by simp[lK,hi,hc,hx,hg,Tz]
    rw[hr]
    have hs1:=hs.set 6 (.bool on) (by simp[qG]) (by omega)
    have tW:=(tB.refl cs (n*11) 11).set 6 (.bool on) (by decide)
    have gH:=Bq (r':=qG c a ⟨on,x.left⟩) h2 fK iK hlt (by omega) rfl hs1 tW
    rw[hpq] at gH;refine aA ?_;refine bZ (t:=37) rfl (fun h=>absurd h hk) (fun _=>?_);refine aA ?_;refine zI 0 hA (by simpa using h1) gH h3 h4 rfl ?_;exact bP 0 hF
  ·have hk:c.kind=112:=Classical.not_not.1 hk
   have hs1:=hs.set 6 (.bool on) (by simp[qG]) (by omega)
   have tW:=(tB.refl cs (n*11) 11).set 6 (.bool on) (by decide)
   cases on
   ·have hr:lK s st (n:Int) false=(0,st.set n ⟨false,c.lock⟩):=by simp[lK,hi,hc,hx,hk,Tz]
    rw[hr];refine aA ?_;refine bZ (t:=37) rfl (fun _=>?_) (fun h=>absurd hk h)
    have jD:=hs1.set 7 (iv c.lock) (by simp[qG]) (by simp;omega)
    have hu2:=tW.set 7 (iv c.lock) (by decide)
    have gH:=Bq (r':=qG c a ⟨false,c.lock⟩) h2 fK iK hlt (by omega) rfl jD hu2
    rw[hpq] at gH;refine aA ?_;refine zI 0 hA (by simpa using h1) gH h3 h4 rfl ?_;exact bP 0 hF
   ·have hr:lK s st (n:Int) true=(0,st.set n ⟨true,x.left⟩):=by simp[lK,hi,hc,hx,hk,Tz]
    rw[hr]
    have gH:=Bq (r':=qG c a ⟨true,x.left⟩) h2 fK iK hlt (by omega) rfl hs1 tW
    rw[hpq] at gH;refine aA ?_;refine bZ (t:=37) rfl (fun _=>?_) (fun h=>absurd hk h);refine aA ?_;refine zI 0 hA (by simpa using h1) gH h3 h4 rfl ?_;exact bP 0 hF
end
section
theorem aI.tQ{p:Piece}{sz n:Nat}{A:Option Addr}{rows:List (List Value)}(h:aI p sz A n rows.flatten)(hl:∀r∈rows,r.length=sz){k:Nat}{r:List Value}(hk:rows[k]? =some r)(hn:k < n):
  ∃b off,A=some ⟨b,off,none⟩∧p.Z b∧∀j u,r[j]? =some u→p.w.cell? ⟨b,off+k*sz+j,none⟩=some u:=by
 obtain⟨b,off,hA,hz,hc⟩:=aI.at_ h hn;refine⟨b,off,hA,hz,fun j u hu=>hc j u ?_⟩
 have hj:j < sz:=by
  rw[←hl r (List.mem_of_getElem? hk)];exact(List.getElem?_eq_some_iff.1 hu).1
 rw[Qh rows hl k j r hk hj,hu]
theorem aI6{w0:World}{R:List Piece}{H:List HP}{p:Piece}{b o:Nat}{vs:List Value}(hp:p∈R)(hz:p.Z b)(h:∀j u,vs[j]? =some u→p.w.cell? ⟨b,o+j,none⟩=some u):aO w0 R H b o vs:=.of fun j v hj=>Rd.ro hp hz (h j v hj)
theorem Rb(s:aC)(A1 A2 A3 A4:Option Addr)(n1 k1 n2 k2 n3 k3 n4 k4:Nat)(w:World)(hW:iD w s A1 n1 A2 n2 A3 n3 A4 n4)(aCQ:Xc s=0):
  Cz 27 #[.agg #[.slice A1 n1 k1,.slice A2 n2 k2,.slice A3 n3 k3,.slice A4 n4 k4]] w (Rt (iv 0) w):=by
 have:=aAG s A1 A2 A3 A4 n1 k1 n2 k2 n3 k3 n4 k4 w hW
 rw[aCQ] at this;exact this
def aIq(s:aC)(v:Value)(hs:List HP)(_:Piece):Prop:=∃L:TL,v=.tuple #[.pointer (some ⟨L.t,0,none⟩),iv 0]∧hs=[pM L s (s.aF.map xS)]∧L.fa.length=s.aF.length
theorem aQr(s:aC)(hH:s.dH)(A1 A2 A3 A4:Option Addr)(n1 k1 n2 k2 n3 k3 n4 k4:Nat)(w:World)(hW:iD w s A1 n1 A2 n2 A3 n3 A4 n4):
  Cz 99 #[.agg #[.slice A1 n1 k1,.slice A2 n2 k2,.slice A3 n3 k3,.slice A4 n4 k4]] w (fun y w'=>(∃v hs q,y=.returned v∧q.w=w'∧aIq s v hs q∧gJ w hs q)∧Below w.heap.size w w'):=by
 have hnc:=hH.t.nc
 have Uq:∀d∈s.aD,d.aS.length≤1000000:=fun d hd=>by
  obtain⟨i,hi⟩:=List.getElem?_of_mem hd
  have:=hH.t.aD i d hi
  unfold cG.fit at this;omega
 refine aN func99 ntmps99 ?_;refine aB ?_;refine bN fun g1=>?_;refine aB ?_;refine aV (fun w1 t=>Rb s A1 A2 A3 A4 n1 k1 n2 k2 n3 k3 n4 k4 w1 (hW.le (t.started (by simp))) hH.t.Ra) ?_;refine aB ?_;refine bN fun g2=>?_;refine aB ?_;refine kA [] (aBx s) (fun w1 t=>aDu s A1 A2 A3 A4 n1 k1 n2 k2 n3 k3 n4 k4 w1 (hW.le (t.started (by simp))) Uq) ?_;rintro _ w1 q1 ⟨cs1,rfl,hS⟩ gH _ aCL
 have aCL:=aCL (by simp)
 obtain⟨B1,m1,j1,B2,m2,j2,B3,m3,j3,B4,m4,j4,rfl,hSQ⟩:=(hS.mono (kF gH)).Q;clear gH hS;obtain⟨rc,hrc,hm1,hsc⟩:=hSQ.uK;obtain⟨fa,hfl,rfl,hfa⟩:=aDw hrc;subst hm1;obtain⟨iL,hcr⟩:=Yk (f:=zD) (es:=s.aF) (bs:=fa) (sz:=6) hfl (fun _ _=>rfl)
 have hl0:(s.aF.map xS).length=s.aF.length:=by simp
 refine kd (aP7 (off:=0) (cs:=[.slice B1 s.aF.length j1,.slice B2 m2 j2,.slice B3 m3 j3,.slice B4 m4 j4]) (by kernel_rfl) rfl rfl) ?_;refine aB ?_;refine lT 251 11 ?_;refine bM [(20,iv 0),(19,iv s.aF.length),(18,.slice B1 s.aF.length j1),(5,pt g2)] ?_;refine eU (fun m e R H=>∃(i:Nat) (A:Option Addr) (k:Nat),i≤s.aF.length∧m=s.aF.length - i∧e=[(20,iv i),(19,iv s.aF.length),(18,.slice B1 s.aF.length j1),(5,pt g2)]∧R=[q1,all w]∧H=[HP.own 251 11 (.slice A i k) i ((jQ s fa (s.aF.map xS)).take i).flatten,HP.aE g2 249 [.slice A i k],HP.aE g1 30 [.slice A1 n1 k1,.slice A2 n2 k2,.slice A3 n3 k3,.slice A4 n4 k4]]) s.aF.length ⟨0,none,0,by omega,rfl,rfl,rfl,by simp⟩ fun m e R H hI=>?_;obtain⟨i,A,k,hi,rfl,rfl,rfl,rfl⟩:=hI;refine aB ?_;refine aG rfl (fun hlt=>?_) (fun hge=>?_)
 ·have hlt:i < s.aF.length:=by omega
  obtain⟨c,hc⟩:=get_some hlt;obtain⟨a,ha⟩:=get_some (l:=fa) (i:=i) (by omega);obtain⟨b,off,hB,hz,hcell⟩:=aI.tQ hsc hcr (Sj hc ha) hlt;subst hB
  have hrow:(jQ s fa (s.aF.map xS))[i]? =some (qG c a (xS c)):=On (L:=⟨0,none,0,fa⟩) hc ha (by rw[List.getElem?_map,hc];rfl)
  have dB:((jQ s fa (s.aF.map xS)).take (i+1)).flatten=((jQ s fa (s.aF.map xS)).take i).flatten++qG c a (xS c):=by
   rw[List.take_succ,hrow,List.flatten_append];simp
  have Ut:∀H,aO w [q1,all w] H b (off+i*6) (zD c a):=fun H=>aI6 (by simp) hz hcell
  have aS5:=Ut [HP.own 251 11 (.slice A i k) i ((jQ s fa (s.aF.map xS)).take i).flatten,HP.aE g2 249 [.slice A i k],HP.aE g1 30 [.slice A1 n1 k1,.slice A2 n2 k2,.slice A3 n3 k3,.slice A4 n4 k4]]
  refine aA ?_;refine kd (dat i (off+i*6)) ?_;refine aB ?_;refine cE fun g3=>?_;obtain⟨kdx,src,rate,mul,dv,lock⟩:=c;dsimp only[zD];refine aB ?_;refine cE fun g4=>?_
  have hfit:=(hH.t.aF i _ hc).2
  dsimp only at hfit;rcases hfit with⟨rfl,_⟩ | ⟨rfl,_⟩ | ⟨rfl,_⟩ | ⟨rfl,_⟩ | ⟨rfl,_⟩
  ·skip
   refine aA ?_;refine iY [2,3,4,5] ?_;refine bK 0 ?_;refine bK 1 ?_;refine aK 2 ?_;refine aK 3 ?_;refine aK 4 ?_;refine aK 5 ?_;refine aL 6 ?_;refine eK fun g5=>?_;refine bE ?_;refine aL 7 ?_;refine iF 3 11 104 1 (el:=251) (by kernel_rfl) (by kernel_rfl) (by decide) rfl rfl rfl (mO 0 rfl rfl) (by simp[Value.oneCell']) rfl (by omega) (by omega) (by decide) fun A' k'=>?_;dsimp only[List.set];refine cH ?_;refine aL 8 ?_;refine bF ?_;refine cH ?_;refine aL 9 ?_;refine bF ?_;refine cH ?_;refine aL 10 ?_;refine eN rfl rfl ?_;dsimp only[List.set];refine cH ?_;refine eC ?_;refine aA ?_;refine aT [3,4,5] rfl (by decide) (fun _ h=>h) ?_;exact eP (s.aF.length - (i+1)) ⟨i+1,A',k',hlt,rfl,rfl,rfl,by rw[dB]⟩
  ·skip
   refine aA ?_;refine iY [2,3,4,5] ?_;refine bK 0 ?_;refine bK 1 ?_;refine aK 2 ?_;refine aK 3 ?_;refine aK 4 ?_;refine aK 5 ?_;refine aL 6 ?_;refine eK fun g5=>?_;refine bE ?_;refine aL 7 ?_;refine iF 3 11 104 1 (el:=251) (by kernel_rfl) (by kernel_rfl) (by decide) rfl rfl rfl (mO 0 rfl rfl) (by simp[Value.oneCell']) rfl (by omega) (by omega) (by decide) fun A' k'=>?_;dsimp only[List.set];refine cH ?_;refine aL 8 ?_;refine bF ?_;refine cH ?_;refine aL 9 ?_;refine bF ?_;refine cH ?_;refine aL 10 ?_;refine eN rfl rfl ?_;dsimp only[List.set];refine cH ?_;refine eC ?_;refine aA ?_;refine aT [3,4,5] rfl (by decide) (fun _ h=>h) ?_;exact eP (s.aF.length - (i+1)) ⟨i+1,A',k',hlt,rfl,rfl,rfl,by rw[dB]⟩
  ·skip
   refine aA ?_;refine iY [2,3,4,5] ?_;refine bK 0 ?_;refine bK 1 ?_;refine aK 2 ?_;refine aK 3 ?_;refine aK 4 ?_;refine aK 5 ?_;refine aL 6 ?_;refine eK fun g5=>?_;refine bE ?_;refine aL 7 ?_;refine iF 3 11 104 1 (el:=251) (by kernel_rfl) (by kernel_rfl) (by decide) rfl rfl rfl (mO 0 rfl rfl) (by simp[Value.oneCell']) rfl (by omega) (by omega) (by decide) fun A' k'=>?_;dsimp only[List.set];refine cH ?_;refine aL 8 ?_;refine bF ?_;refine cH ?_;refine aL 9 ?_;refine bF ?_;refine cH ?_;refine aL 10 ?_;refine eN rfl rfl ?_;dsimp only[List.set];refine cH ?_;refine eC ?_;refine aA ?_;refine aT [3,4,5] rfl (by decide) (fun _ h=>h) ?_;exact eP (s.aF.length - (i+1)) ⟨i+1,A',k',hlt,rfl,rfl,rfl,by rw[dB]⟩
  ·skip
   refine aA ?_;refine iY [2,3,4,5] ?_;refine bK 0 ?_;refine bK 1 ?_;refine aK 2 ?_;refine aK 3 ?_;refine aK 4 ?_;refine aK 5 ?_;refine aL 6 ?_;refine eK fun g5=>?_;refine bE ?_;refine aL 7 ?_;refine iF 3 11 104 1 (el:=251) (by kernel_rfl) (by kernel_rfl) (by decide) rfl rfl rfl (mO 0 rfl rfl) (by simp[Value.oneCell']) rfl (by omega) (by omega) (by decide) fun A' k'=>?_;dsimp only[List.set];refine cH ?_;refine aL 8 ?_;refine bF ?_;refine cH ?_;refine aL 9 ?_;refine bF ?_;refine cH ?_;refine aL 10 ?_;refine eN rfl rfl ?_;dsimp only[List.set];refine cH ?_;refine eC ?_;refine aA ?_;refine aT [3,4,5] rfl (by decide) (fun _ h=>h) ?_;exact eP (s.aF.length - (i+1)) ⟨i+1,A',k',hlt,rfl,rfl,rfl,by rw[dB]⟩
  ·skip
   refine aA ?_;refine iY [2,3,4,5] ?_;refine bK 0 ?_;refine bK 1 ?_;refine aK 2 ?_;refine aK 3 ?_;refine aK 4 ?_;refine aK 5 ?_;refine aL 6 ?_;refine eK fun g5=>?_;refine bE ?_;refine aL 7 ?_;refine iF 3 11 104 1 (el:=251) (by kernel_rfl) (by kernel_rfl) (by decide) rfl rfl rfl (mO 0 rfl rfl) (by simp[Value.oneCell']) rfl (by omega) (by omega) (by decide) fun A' k'=>?_;dsimp only[List.set];refine cH ?_;refine aL 8 ?_;refine bF ?_;refine cH ?_;refine aL 9 ?_;refine bF ?_;refine cH ?_;refine aL 10 ?_;refine eN rfl rfl ?_;dsimp only[List.set];refine cH ?_;refine eC ?_;refine aA ?_;refine aT [3,4,5] rfl (by decide) (fun _ h=>h) ?_;exact eP (s.aF.length - (i+1)) ⟨i+1,A',k',hlt,rfl,rfl,rfl,by rw[dB]⟩
 ·obtain rfl:i=s.aF.length:=by omega
  refine aB ?_
  have hfull:(jQ s fa (s.aF.map xS)).take s.aF.length=jQ s fa (s.aF.map xS):=List.take_of_length_le (by simp[jQ];omega)
  rw[hfull];refine aT [1,0] rfl (by decide) (fun _ h=>h) ?_;refine Jp aCL (by simp[all]) (Φ:=rR s fa) (hm:=rR.le (s:=s) (fa:=fa)) (fun i c a hc ha=>hfa i c a hc ha) ?_;refine aT [1,2,0] rfl (by decide) (fun _ h=>h) ?_;refine vS ?_;refine dG [] [] [0] (by simp) rfl (by decide) (by decide) fun q _ _ hfr=>?_;exact fQ rfl rfl rfl fun w1 t=>⟨⟨_,_,⟨w1,q.Z⟩,rfl,rfl,⟨⟨g2,A,k,fa⟩,rfl,rfl,hfl⟩,t.newR (by simp) (by simp) (hfr (by simp) (by simp))⟩,t.below (by simp)⟩
end
section
def iP(r:Int)(x:jW):Value:=.agg #[iv r,iv x.left,.bool x.held,.bool x.wanted]
def Lb(s:aC)(st:List jW)(i:Nat):Int×Value:=((i:Int),iP (s.bA.getD i 0) (st.getD i qI))
def nC(s:aC)(st:List jW):List (Int×Value):=(List.range st.length).map (Lb s st)
theorem aFU(f:Nat→Value)(n:Nat)(i:Int):mB ((List.range n).map fun j:Nat=>((j:Int),f j)) i=if bT n i then some (f i.toNat) else none:=by
 induction n with
 | zero=>
  have:bT 0 i=false:=decide_eq_false (by omega)
  rw[this];rfl
 | succ n ih =>
  have h0:mB ((List.range (n+1)).map fun j:Nat=>((j:Int),f j)) i=(mB ((List.range n).map fun j:Nat=>((j:Int),f j)) i).or (mB [((n:Int),f n)] i):=by
   rw[List.range_succ,List.map_append];unfold mB;rw[List.find?_append];cases List.find? (fun p=>decide (p.1=i)) ((List.range n).map fun j:Nat=>((j:Int),f j))<;>rfl
  rw[h0,ih]
  by_cases h1:bT n i=true
  ·have:bT (n+1) i=true:=by have:=of_decide_eq_true h1;exact decide_eq_true (by omega)
   rw[if_pos h1,if_pos this];rfl
  ·have hf:bT n i=false:=by simpa using h1
   have:=of_decide_eq_false hf
   rw[if_neg h1,Ot]
   by_cases h2:(n:Int)=i
   ·subst h2
    have:bT (n+1) (n:Int)=true:=decide_eq_true (by omega)
    rw[if_pos rfl,if_pos this];rfl
   ·have h3:bT (n+1) i=false:=decide_eq_false (by omega)
    rw[if_neg h2,h3];rfl
theorem aM3(f : Nat → Value)(n i : Nat)(v : Value)(hi : i < n) : nR ((List.range n).map fun j : Nat => ((j : Int), f j)) (i : Int) v = (List.range n).map fun j : Nat => ((j : Int), if j = i then v else f j) := by
  have key:∀(l:List Nat),i∈l→l.Nodup→nR (l.map fun j:Nat=>((j:Int),f j)) (i:Int) v=l.map fun j:Nat=>((j:Int),if j=i then v else f j):=by
    intro l
    induction l with
    | nil=>intro h;simp at h
    | cons a l ih =>
      intro h hn;rw[List.map_cons,nR,List.map_cons]
      by_cases ha:(a:Int)=(i:Int)
      · have Bn:a=i:=by omega
        subst Bn;rw[if_pos rfl,if_pos rfl]
        congr 1
        refine List.map_congr_left fun j hj=>?_;rw[if_neg (fun he:j=a=>(List.nodup_cons.1 hn).1 (he▸hj))]
      · rw[if_neg ha,if_neg (by omega)]
        congr 1
        exact ih (by rcases List.mem_cons.1 h with h | h
                     · omega
                     · exact h) (List.nodup_cons.1 hn).2
  exact key _ (List.mem_range.2 hi) List.nodup_range
theorem aFV{s:aC}{st:List jW}(i:Int):mB (nC s st) i=if bT st.length i then some (iP (s.bA.getD i.toNat 0) (st.getD i.toNat qI)) else none:=aFU (fun j=>iP (s.bA.getD j 0) (st.getD j qI)) st.length i
theorem aCl{s:aC}{st:List jW}{i:Nat}{x:jW}{r:Int}(hr:s.bA.getD i 0=r)(hi:i < st.length):nR (nC s st) (i:Int) (iP r x)=nC s (st.set i x):=by
 have:=aM3 (fun j=>iP (s.bA.getD j 0) (st.getD j qI)) st.length i (iP r x) hi
 refine this.trans ?_;unfold nC;rw[List.length_set];refine List.map_congr_left fun j hj=>?_;unfold Lb
 congr 1
 by_cases he:j=i
 ·subst he;rw[if_pos rfl,←hr,List.getD_eq_getElem?_getD (l:=st.set j x),List.getElem?_set_self hi];rfl
 ·rw[if_neg he,List.getD_eq_getElem?_getD (l:=st.set i x),List.getElem?_set_ne (Ne.symm he),List.getD_eq_getElem?_getD (l:=st)]
structure RL where
 t:Nat
 g:Nat
def oQ(L:RL)(s:aC)(st:List jW):HP:=HP.many [HP.aE L.t 259 [.map (some L.g)],HP.map L.g (nC s st)]
structure Jy(w:World)(L:RL)(s:aC)(st:List jW):Prop where
 r0:fS w L.t 0 (.map (some L.g))
 m:vV w L.g (nC s st)
theorem Jy.below{w w':World}{L:RL}{s:aC}{st:List jW}(h:Jy w L s st)(hb:Below w.heap.size w w'):Jy w' L s st:=
 ⟨⟨Nat.lt_of_lt_of_le h.r0.1 hb.size,(hb.cell (p:=⟨_,0,none⟩) h.r0.1).trans h.r0.2⟩,h.m.below hb⟩
section
variable{N:bY}{w0 w:World}{e:Env}{R:List Piece}{H:List HP}{K:Act→World→Prop}{L:RL}{s:aC}{st:List jW}
theorem aIF{F:Nat→Prop}(h:(oQ L s st).sat F w):Jy w L s st:=by
 obtain⟨G,g1,g2,_⟩:=h
 have h0:=g1 0 _ rfl
 exact⟨⟨h0.2.lt,by rw[h0.2.cell];rfl⟩,(g1 1 _ rfl).2⟩
theorem St.Pa(t:St w0 R H w)(i:Nat)(hi:H[i]? =some (oQ L s st)):Jy w L s st:=by
 obtain⟨F,h1,h2,_⟩:=t.chunk hi;exact aIF h1
end
theorem aGb:(Tryz.prog.info? 261).bind (·.zero)=some (iP 0 ⟨0,false,false⟩):=by kernel_rfl
def sU(s:aC)(st:List jW)(i:Int):Value:=if bT st.length i then iP (s.bA.getD i.toNat 0) (st.getD i.toNat qI) else iP 0 ⟨0,false,false⟩
theorem aOG(s:aC)(st:List jW)(i:Int):∃r x,sU s st i=iP r x:=by
 unfold sU;split
 ·exact⟨_,_,rfl⟩
 ·exact⟨_,_,rfl⟩
theorem Tm(L:RL)(s:aC)(st:List jW)(i:Int)(w:World)(hR:Jy w L s st):
  Cz 189 #[.pointer (some ⟨L.t,0,none⟩),iv i] w (Rt (.tuple #[sU s st i,.bool (bT st.length i)]) w):=by
 have h0:=hR.r0
 obtain⟨r,x,hv⟩:=aOG s st i
 have hm:=aFV (s:=s) (st:=st) i
 have hz:(mB (nC s st) i).getD (iP 0 ⟨0,false,false⟩)=iP r x:=by
  rw[hm,←hv,sU];split<;>rfl
 have hb:(mB (nC s st) i).isSome=bT st.length i:=by
  rw[hm];split
  ·rename_i h;rw[h];rfl
  ·rename_i h;simp at h;rw[h];rfl
 rw[hv];refine aN func189 ntmps189 ?_;refine aA ?_;refine cE fun g1=>?_;refine aA ?_;refine Yq (kt:=3) (et:=261) (kd:=.i64) (z:=iP 0 ⟨0,false,false⟩) (l:=nC s st) true (by kernel_rfl) (by kernel_rfl) aGb rfl rfl (fun w1 t=>(hR.below (t.below (by simp))).m) (by decide) ?_;simp only[if_true];rw[hz,hb];refine aA ?_;refine cE fun g2=>?_;unfold iP;refine aA ?_;exact zG rfl (by kernel_rfl) rfl rfl (by first | assumption | exact aO.whole 0 rfl | exact aO.whole 1 rfl | exact aO.whole 2 rfl | exact aO.whole 3 rfl | exact aO.whole 4 rfl | exact aO.whole 5 rfl | exact aO.whole 6 rfl | exact aO.whole 7 rfl | exact aO.whole 8 rfl | exact xY (by simp) (by assumption)) rfl fun w1 t=>⟨rfl,t.below (by simp)⟩
theorem aFn(L:RL)(s:aC)(st:List jW)(i:Int)(w:World)(hR:Jy w L s st):
  Cz 149 #[.pointer (some ⟨L.t,0,none⟩),iv i] w (Rt (.bool (Iq st i)) w):=by
 refine aN func149 ntmps149 ?_;refine aA ?_;refine aV (fun w1 t=>Tm L s st i w1 (hR.below (t.below (by simp)))) ?_;refine aA ?_;refine cE fun g2=>?_;cases hi:bT st.length i
 ·have hv:sU s st i=iP 0 ⟨0,false,false⟩:=by simp[sU,hi]
  rw[hv];unfold iP;refine aA ?_;refine jJ (by simp) ?_;simp[Iq,hi]
 ·have hv:sU s st i=iP (s.bA.getD i.toNat 0) (st.getD i.toNat qI):=by simp[sU,hi]
  rw[hv];unfold iP;refine aA ?_;refine jJ (by simp) ?_
  have:i.toNat < st.length:=by have:=of_decide_eq_true hi;omega
  simp[Iq,hi,List.getElem?_eq_getElem this]
end
section
theorem aHl:∀{cl:List Dom} {rs:List (List Value)},Rows tI 3 cl rs→rs=cl.map fun d=>[iv d.above,iv d.delay,.bool d.ret]
 | [],[],_=>rfl
 | e::es,r::rs,h=>by
  have h1:r=[iv e.above,iv e.delay,.bool e.ret]:=h.2.1
  rw[h1,aHl h.2.2];rfl
theorem aFm:∀{cl:List Int} {rs:List (List Value)},Rows xW 1 cl rs→rs=cl.map fun d=>[iv d]
 | [],[],_=>rfl
 | e::es,r::rs,h=>by
  have h1:r=[iv e]:=h.2.1
  rw[h1,aFm h.2.2];rfl
def aIN(s:aC)(v:Value)(hs:List HP)(_:Piece):Prop:=∃L:GL,v=.tuple #[.pointer (some ⟨L.t,0,none⟩),iv 0]∧hs=[uR L s (s.domains.map fun _=>xN)]
theorem aLH(s:aC)(hH:s.dH)(A1 A2 A3 A4:Option Addr)(n1 k1 n2 k2 n3 k3 n4 k4:Nat)(w:World)(hW:iD w s A1 n1 A2 n2 A3 n3 A4 n4):
  Cz 100 #[.agg #[.slice A1 n1 k1,.slice A2 n2 k2,.slice A3 n3 k3,.slice A4 n4 k4]] w (fun y w'=>(∃v hs q,y=.returned v∧q.w=w'∧aIN s v hs q∧gJ w hs q)∧Below w.heap.size w w'):=by
 have hnd:=hH.t.nd
 obtain⟨rd,hrd,hn2,hsd⟩:=hW.dom
 have hrd:=aHl hrd
 subst hrd;subst hn2
 have kZ:(s.domains.map fun _=>xN).length=s.domains.length:=by simp
 refine aN func100 ntmps100 ?_;refine aA ?_;refine bN fun g1=>?_;refine aA ?_;refine aV (fun w1 t=>Rb s A1 A2 A3 A4 n1 k1 _ k2 n3 k3 n4 k4 w1 (hW.le (t.started (by simp))) hH.t.Ra) ?_;refine aA ?_;refine kd (iM rfl) ?_;refine bN fun g2=>?_;refine aA ?_;refine lT 256 7 ?_;refine bM [(18,iv 0),(17,iv s.domains.length),(16,.slice A2 s.domains.length k2),(5,pt g2)] ?_;refine eU (fun m e R H=>∃(i:Nat) (A:Option Addr) (k:Nat),i≤s.domains.length∧m=s.domains.length - i∧e=[(18,iv i),(17,iv s.domains.length),(16,.slice A2 s.domains.length k2),(5,pt g2)]∧R=[all w]∧H=[HP.own 256 7 (.slice A i k) i ((pJ s (s.domains.map fun _=>xN)).take i).flatten,HP.aE g2 254 [.slice A i k],HP.aE g1 30 [.slice A1 n1 k1,.slice A2 s.domains.length k2,.slice A3 n3 k3,.slice A4 n4 k4]]) s.domains.length ⟨0,none,0,by omega,rfl,rfl,rfl,by simp⟩ fun m e R H hI=>?_;obtain⟨i,A,k,hi,rfl,rfl,rfl,rfl⟩:=hI;refine aA ?_;refine aG rfl (fun hlt=>?_) (fun hge=>?_)
 ·have hlt:i < s.domains.length:=by omega
  obtain⟨c,hc⟩:=get_some hlt;obtain⟨b,off,hB,hro⟩:=aI.row hsd (fun r hr=>by obtain⟨q,_,rfl⟩:=List.mem_map.1 hr;rfl) (r:=[iv c.above,iv c.delay,.bool c.ret]) (by rw[List.getElem?_map,hc];rfl) hlt;subst hB
  have hrow:(pJ s (s.domains.map fun _=>xN))[i]? =some (oF c xN):=Je hc (by rw[List.getElem?_map,hc];rfl)
  have dB:((pJ s (s.domains.map fun _=>xN)).take (i+1)).flatten=((pJ s (s.domains.map fun _=>xN)).take i).flatten++oF c xN:=by
   rw[List.take_succ,hrow,List.flatten_append];simp
  refine aA ?_;refine kd (dat i (off+i*3)) ?_;refine aA ?_;refine cE fun g3=>?_;refine aA ?_;refine iY [2,3,4,5,6] ?_;refine bK 0 ?_;refine bK 1 ?_;refine aK 2 ?_;refine aK 3 ?_;refine aK 4 ?_;refine aK 5 ?_;refine aK 6 ?_ (cN:=kQ (zs:=[iv 0,iv 0,.bool false,.int .u8 0,iv 0,.bool false,.bool false]) (L:=[(0,3),(3,1),(4,1),(5,1),(6,1)]) (gY (by kernel_rfl)) (by kernel_rfl) rfl (by simp[fA,gD,Value.cells];rfl));refine aL 7 ?_;refine eK fun g5=>?_;refine bE ?_;refine aL 8 ?_;refine iF 2 7 48 1 (el:=256) (by kernel_rfl) (by kernel_rfl) (by decide) rfl rfl rfl (mO 0 rfl rfl) (by simp[Value.oneCell']) rfl (by omega) (by omega) (by decide) fun A' k'=>?_;dsimp only[List.set];refine cH ?_;refine aL 9 ?_;refine bF ?_;refine cH ?_;refine aL 10 ?_;refine bF ?_;refine cH ?_;refine aL 11 ?_;refine eN rfl rfl ?_;dsimp only[List.set];refine cH ?_;refine eC ?_;refine aA ?_;refine aT [2,3,4] rfl (by decide) (fun _ h=>h) ?_;exact eP (s.domains.length - (i+1)) ⟨i+1,A',k',hlt,rfl,rfl,rfl,by rw[dB]⟩
 ·obtain rfl:i=s.domains.length:=by omega
  refine aA ?_
  have hfull:(pJ s (s.domains.map fun _=>xN)).take s.domains.length=pJ s (s.domains.map fun _=>xN):=List.take_of_length_le (by simp[pJ])
  rw[hfull];refine aT [1,0] rfl (by decide) (fun _ h=>h) ?_;refine mV ?_;refine dG [] [] [0] (by simp) rfl (by decide) (by decide) fun q _ _ hfr=>?_;exact fQ rfl rfl rfl fun w1 t=>⟨⟨_,_,⟨w1,q.Z⟩,rfl,rfl,⟨⟨g2,A,k⟩,rfl,rfl⟩,t.newR (by simp) (by simp) (hfr (by simp) (by simp))⟩,t.below (by simp)⟩
theorem aJf{N:bY}{w0:World}{e:Env}{R:List Piece}{H:List HP}{Q:Exit→Act→World→Prop}{ops:Array Oper}{rest:List Oper}{d:Nat}{ty:TypeId}{pos:String}{aH:Array Edge}{x:Operand}{n:Int}{t kt et:TypeId}(ht:Tryz.prog.underlying t=some (.map kt et))(hx:e.ev x=some (iv n))(hd:d < N.n)(k:∀g,XK N w0 (wpList Tryz.prog ops Q rest) ((d,.map (some g))::e) R (HP.map g []::H)):XK N w0 (wpList Tryz.prog ops Q (⟨some d,.makeMap t (some x),ty,pos,aH,none⟩::rest)) e R H:=
 rW rfl fun a w hr st=>⟨.map (some w.heap.size),w.alloc (.map #[] 0),by simp[execOp,Instr.makeMap,hr.ev hx,run_underlying ht,asInt,asIntOf],k w.heap.size _ _ (hr.put hd _) (st.new (Ri w _) ⟨⟨Nat.le_refl _,by simp⟩,#[],0,heap_alloc_new w _,rfl⟩)⟩
def aIE(s:aC)(v:Value)(hs:List HP)(_:Piece):Prop:=∃L:RL,v=.tuple #[.pointer (some ⟨L.t,0,none⟩),iv 0]∧hs=[oQ L s (s.bA.map fun _=>qI)]
theorem aM2(l:List (Int×Value))(k:Int)(v:Value)(h:mB l k=none):nR l k v=l++[(k,v)]:=by
 induction l with
 | nil=>rfl
 | cons p l ih =>
  obtain⟨a,b⟩:=p;rw[Ot] at h;rw[nR];split at h
  ·cases h
  ·rename_i hne
   rw[if_neg hne,ih h];rfl
theorem aKM(s:aC)(hH:s.dH)(A1 A2 A3 A4:Option Addr)(n1 k1 n2 k2 n3 k3 n4 k4:Nat)(w:World)(hW:iD w s A1 n1 A2 n2 A3 n3 A4 n4):
  Cz 101 #[.agg #[.slice A1 n1 k1,.slice A2 n2 k2,.slice A3 n3 k3,.slice A4 n4 k4]] w (fun y w'=>(∃v hs q,y=.returned v∧q.w=w'∧aIE s v hs q∧gJ w hs q)∧Below w.heap.size w w'):=by
 have iK:=hH.t.nr
 obtain⟨rr,cQ,sN,hst⟩:=hW.Ak
 have cQ:=aFm cQ
 subst cQ;subst sN
 have nZ:(s.bA.map fun _=>qI).length=s.bA.length:=by simp
 refine aN func101 ntmps101 ?_;refine aA ?_;refine bN fun g1=>?_;refine aA ?_;refine aV (fun w1 t=>Rb s A1 A2 A3 A4 n1 k1 n2 k2 _ k3 n4 k4 w1 (hW.le (t.started (by simp))) hH.t.Ra) ?_;refine aA ?_;refine aJf (kt:=3) (et:=261) (by kernel_rfl) rfl (by decide) fun gm=>?_;refine kd (iM rfl) ?_;refine bN fun g2=>?_;refine aA ?_;refine bM [(22,iv 0),(21,iv s.bA.length),(20,.slice A3 s.bA.length k3),(5,pt g2)] ?_;refine eU (fun m e R H=>∃i:Nat,i≤s.bA.length∧m=s.bA.length - i∧e=[(22,iv i),(21,iv s.bA.length),(20,.slice A3 s.bA.length k3),(5,pt g2)]∧R=[all w]∧H=[HP.aE g2 259 [.map (some gm)],HP.map gm ((List.range i).map (Lb s (s.bA.map fun _=>qI))),HP.aE g1 30 [.slice A1 n1 k1,.slice A2 n2 k2,.slice A3 s.bA.length k3,.slice A4 n4 k4]]) s.bA.length ⟨0,by omega,rfl,rfl,rfl,rfl⟩ fun m e R H hI=>?_;obtain⟨i,hi,rfl,rfl,rfl,rfl⟩:=hI;refine aA ?_;refine aG rfl (fun hlt=>?_) (fun hge=>?_)
 ·have hlt:i < s.bA.length:=by omega
  obtain⟨c,hc⟩:=get_some hlt;obtain⟨b,off,hB,hro⟩:=aI.row hst (fun r hr=>by obtain⟨q,_,rfl⟩:=List.mem_map.1 hr;rfl) (r:=[iv c]) (by rw[List.getElem?_map,hc];rfl) hlt;subst hB
  have lE:nR ((List.range i).map (Lb s (s.bA.map fun _=>qI))) (i:Int) (iP c qI)=(List.range (i+1)).map (Lb s (s.bA.map fun _=>qI)):=by
   rw[aM2 _ _ _ (by
    have:=aFU (fun j=>iP (s.bA.getD j 0) ((s.bA.map fun _=>qI).getD j qI)) i (i:Int)
    rw[if_neg (by simp[bT])] at this
    exact this),List.range_succ,List.map_append]
   congr 1
   simp[Lb,List.getD_eq_getElem?_getD,hc]
  refine aA ?_;refine kd (dat i (off+i*1)) ?_;refine aA ?_;refine cE fun g3=>?_;refine aA ?_;refine iY [1,2,3,5,6,7] ?_;refine bK 0 ?_;refine aK 1 ?_;refine aK 2 ?_;refine aK 3 ?_;refine bK 4 ?_;refine aK 5 ?_;refine aK 6 ?_;refine aK 7 ?_ (cN:=kQ (zs:=[iv 0,iv 0,.bool false,.bool false]) (L:=[(0,1),(1,1),(2,1),(3,1)]) (gY (by kernel_rfl)) (by kernel_rfl) rfl (by simp[fA,gD,Value.cells];rfl));refine aL 8 ?_;refine Ho (kt:=3) (et:=261) (kd:=.i64) (l:=(List.range i).map (Lb s (s.bA.map fun _=>qI))) (v:=iP c qI) 2 (by kernel_rfl) (by kernel_rfl) rfl rfl rfl rfl ?_;rw[lE];dsimp only[List.set];refine cH ?_;refine eC ?_;refine aA ?_;refine aT [1,2,3] rfl (by decide) (fun _ h=>h) ?_;exact eP (s.bA.length - (i+1)) ⟨i+1,hlt,rfl,rfl,rfl,rfl⟩
 ·obtain rfl:i=s.bA.length:=by omega
  refine aA ?_;refine mV ?_;refine dG [] [] [0] (by simp) rfl (by decide) (by decide) fun q _ _ hfr=>?_;exact fQ rfl rfl rfl fun w1 t=>⟨⟨_,_,⟨w1,q.Z⟩,rfl,rfl,⟨⟨g2,gm⟩,rfl,by simp[oQ,nC]⟩,t.newR (by simp) (by simp) (hfr (by simp) (by simp))⟩,t.below (by simp)⟩
end
section
structure iZ where
 id:Int
 wr:Bool
 bO:Int
 val:Int
def iZ.cells(t:iZ):List Value:=[iv t.id,.bool t.wr,iv t.bO,.int .u32 t.val]
def QH(v:Value):Option iZ→HP
 | none=>Nl (∃A,v=.slice A 0 0)
 | some t=>HP.own 306 4 v 1 t.cells
structure BL where
 b:Nat
 gr:Nat
 gw:Nat
def oX(ws:List (Option iZ))(i:Nat):Nat:=if((ws[i]?).join).isSome then 1 else 0
def aDX(g n:Nat)(ws:List (Option iZ)):HP:=HP.ex fun vs:List Value=>HP.many (HP.aE g 311 vs::Nl (vs.length=n)::(List.range n).map fun i=>QH (vs.getD i undef) (ws[i]?).join)
def yE(L:BL)(ms:List Int)(ws:List (Option iZ))(aU:Int):HP:=HP.many [HP.aE L.b 269 [.slice (some ⟨L.gr,0,none⟩) ms.length ms.length,.slice (some ⟨L.gw,0,none⟩) ms.length ms.length,iv aU],HP.aE L.gr 3 (aM ms),aDX L.gw ms.length ws]
structure Hl(w:World)(L:BL)(ms:List Int)(ws:List (Option iZ))(aU:Int):Prop where
 r0:dU w L.b 0 [.slice (some ⟨L.gr,0,none⟩) ms.length ms.length,.slice (some ⟨L.gw,0,none⟩) ms.length ms.length,iv aU]
 rg:dU w L.gr 0 (aM ms)
 wt:∀i,i < ms.length→∃A c,fS w L.gw i (.slice A (oX ws i) c)
theorem Hl.below{w w':World}{L:BL}{ms:List Int}{ws:List (Option iZ)}{aU:Int}(h:Hl w L ms ws aU)(hb:Below w.heap.size w w'):Hl w' L ms ws aU:=
 ⟨h.r0.below hb,h.rg.below hb,fun i hi=>by
  obtain⟨A,c,h1,h2⟩:=h.wt i hi
  exact⟨A,c,Nat.lt_of_lt_of_le h1 hb.size,(hb.cell (p:=⟨_,i,none⟩) h1).trans h2⟩⟩
theorem aIX{L:BL}{ms:List Int}{ws:List (Option iZ)}{aU:Int}{F:Nat→Prop}{w:World}(h:(yE L ms ws aU).sat F w):Hl w L ms ws aU:=by
 obtain⟨G,g1,g2,_⟩:=h;refine⟨uL (g1 0 _ rfl).2,uL (g1 1 _ rfl).2,fun i hi=>?_⟩;obtain⟨vs,G',k1,_,_⟩:=g1 2 _ rfl
 have hb:=uL (k1 0 _ rfl).2
 have hl:vs.length=ms.length:=k1 1 _ rfl
 obtain⟨v,hv⟩:=get_some (l:=vs) (i:=i) (by omega)
 have hq:=k1 (i+2) (QH (vs.getD i undef) (ws[i]?).join) (by
  rw[List.getElem?_cons_succ,List.getElem?_cons_succ,List.getElem?_map,List.getElem?_range hi];rfl)
 rw[List.getD_eq_getElem?_getD,hv] at hq
 have hc:=hb.at_ hv
 rw[Nat.zero_add] at hc;unfold oX;cases hj:(ws[i]?).join with
 | none=>
  rw[hj] at hq;obtain⟨A,hA⟩:∃A,v=.slice A 0 0:=hq;subst hA;exact⟨A,0,hc⟩
 | some t=>
  rw[hj] at hq;obtain⟨A,c,hA,_⟩:=zO (Y:=fun _=>True) hq (fun _ _=>trivial)
  have hA:v=.slice A 1 c:=hA
  subst hA;exact⟨A,c,hc⟩
section
variable{N:bY}{w0 w:World}{e:Env}{R:List Piece}{H:List HP}{K:Act→World→Prop}{L:BL}{ms:List Int}{ws:List (Option iZ)}{aU:Int}
theorem St.aHE(t:St w0 R H w)(i:Nat)(hi:H[i]? =some (yE L ms ws aU)):Hl w L ms ws aU:=by
 obtain⟨F,h1,h2,_⟩:=t.chunk hi;exact aIX h1
end
theorem aAN(L:BL)(ms:List Int)(ws:List (Option iZ))(aU:Int)(i:Int)(w:World)(hR:Hl w L ms ws aU):
  Cz 193 #[.pointer (some ⟨L.b,0,none⟩),iv i] w (Rt (.bool (bT ms.length i)) w):=by
 have k0:=hR.r0.at_ (j:=0) rfl
 refine aN func193 ntmps193 ?_;refine aA ?_;refine bZ (t:=11) rfl (fun h=>?_) (fun h=>?_)
 ·refine aA ?_;refine jJ (by simp) ?_;unfold bT
  congr 1
  simp;omega
 ·refine aA ?_;refine jJ (by simp) ?_
  have:bT ms.length i=false:=decide_eq_false (by omega)
  rw[this]
theorem aHC(L:BL)(ms:List Int)(ws:List (Option iZ))(aU:Int)(i:Nat)(hi:i < ms.length)(w:World)(hR:Hl w L ms ws aU):
  Cz 153 #[.pointer (some ⟨L.b,0,none⟩),iv (i:Int)] w (Rt (iv (oX ws i:Nat)) w):=by
 have k1:=hR.r0.at_ (j:=1) rfl
 obtain⟨A,c,hw⟩:=hR.wt i hi
 have hin:bT ms.length (i:Int)=true:=decide_eq_true (by omega)
 refine aN func153 ntmps153 ?_;refine aA ?_;refine aV (fun w1 t=>aAN L ms ws aU i w1 (hR.below (t.below (by simp)))) ?_;rw[hin];refine aB ?_;exact dI
def aIW(ms:List Int)(v:Value)(hs:List HP)(_:Piece):Prop:=∃L:BL,v=.tuple #[.pointer (some ⟨L.b,0,none⟩),iv 0]∧hs=[yE L ms (ms.map fun _=>none) 0]
theorem aJC{N:bY}{w0:World}{e:Env}{R:List Piece}{H:List HP}{K:Act→World→Prop}{g n:Nat}{β:Type}(l:List β)(hl:l.length=n)(i:Nat)(hi:H[i]? =some (HP.aE g 311 (List.replicate n (sn))))(h:XK N w0 K e R (H.set i (aDX g n (l.map fun _=>none)))):XK N w0 K e R H:=by
 refine pK (q:=aDX g n (l.map fun _=>none)) i hi (fun F w hs=>⟨List.replicate n (sn),fun k b=>k=0∧F b,fun k p hk=>?_,fun k b h=>h.2,fun k j b hkj h1 h2=>by have:=h1.1;have:=h2.1;omega⟩) h
 match k,hk with
 | 0,hk=>
  simp at hk;subst hk
  show(HP.aE g 311 (List.replicate n (sn))).sat (fun b=>0=0∧F b) w
  rw[show(fun b=>0=0∧F b)=F by funext b;simp];exact hs
 | 1,hk=>cases hk;show(List.replicate n (Value.slice none 0 0)).length=n;simp
 | k + 2, hk =>
  rw[List.getElem?_cons_succ,List.getElem?_cons_succ,List.getElem?_map] at hk;cases hr:(List.range n)[k]? with
  | none=>rw[hr] at hk;cases hk
  | some j =>
   rw[hr] at hk
   have hj:j < n:=List.mem_range.1 (List.mem_of_getElem? hr)
   have:((l.map fun _=>(none:Option iZ))[j]?).join=none:=by
    rw[List.getElem?_map];cases l[j]? <;>rfl
   simp only[Option.map_some,Option.some.injEq,this] at hk;subst hk;refine⟨none,?_⟩;rw[List.getD_eq_getElem?_getD,List.getElem?_replicate,if_pos hj];rfl
theorem aQN(ms:List Int)(hml:ms.length≤6)(hm:∀m∈ms,0≤m∧m≤8)(A:Option Addr)(c:Nat)(w:World)(hs:aI (all w) 1 A ms.length (aM ms)):
  Cz 105 #[.slice A ms.length c] w (fun y w'=>(∃v hs q,y=.returned v∧q.w=w'∧aIW ms v hs q∧gJ w hs q)∧Below w.heap.size w w'):=by
 refine aN func105 ntmps105 ?_;refine dX ?_;refine fR ?_;refine bF ?_;refine bF ?_;refine fC ?_;refine dX ?_;refine dX ?_;refine fR ?_;refine bF ?_;refine bF ?_;refine bF ?_;refine aB ?_;refine aG rfl (fun h=>absurd h (by omega)) (fun _=>?_);refine oG ?_;refine eI ?_;refine Rs (fun e R H=>∃gr gw g3,e=[(4,pt g3),(0,.slice A ms.length c)]∧R=[all w]∧H=[HP.aE g3 269 [.slice (some ⟨gr,0,none⟩) ms.length ms.length,.slice (some ⟨gw,0,none⟩) ms.length ms.length,iv 0],HP.aE gr 3 (List.replicate ms.length (iv 0)),HP.aE gw 311 (List.replicate ms.length (sn))]) ?_ ?_
 ·refine qP 6 (by kernel_rfl) (by kernel_rfl) ?_;refine bQ 0 ?_;refine bQ 1 ?_;refine bQ 3 ?_;refine bQ 4 ?_;refine Jt 2 5 rfl rfl (by kernel_rfl) ?_ ?_
  ·refine lX (n:=ms.length) 8 (el:=3) (z:=iv 0) (by kernel_rfl) (by kernel_rfl) rfl rfl rfl (by omega) (by omega) (by decide) fun gr=>?_;refine mW ?_;refine cJ 5 ?_;refine lX (n:=ms.length) 24 (el:=311) (z:=sn) (by kernel_rfl) (by kernel_rfl) rfl rfl rfl (by omega) (by omega) (by decide) fun gw=>?_;refine mW ?_;refine cJ 6 ?_;refine kd (iM rfl) ?_;refine eR ?_;refine cJ 7 ?_;refine bN fun g3=>?_;refine eR ?_;refine cJ 8 ?_;refine bF ?_;refine eR ?_;refine kK ?_;refine eI ?_;exact nV ⟨gr,gw,g3,rfl,rfl,rfl⟩
  ·refine lX (n:=ms.length) 24 (el:=311) (z:=sn) (by kernel_rfl) (by kernel_rfl) rfl rfl rfl (by omega) (by omega) (by decide) fun gw=>?_;refine mW ?_;refine cJ 2 ?_;refine lX (n:=ms.length) 8 (el:=3) (z:=iv 0) (by kernel_rfl) (by kernel_rfl) rfl rfl rfl (by omega) (by omega) (by decide) fun gr=>?_;refine mW ?_;refine cJ 6 ?_;refine kd (iM rfl) ?_;refine eR ?_;refine cJ 7 ?_;refine bN fun g3=>?_;refine eR ?_;refine cJ 8 ?_;refine bF ?_;refine eR ?_;refine kK ?_;refine eI ?_;exact nV ⟨gr,gw,g3,rfl,rfl,rfl⟩
 rintro _ _ _ ⟨gr,gw,g3,rfl,rfl,rfl⟩;refine aB ?_;refine bM [(20,iv 0),(19,iv ms.length),(18,.slice A ms.length c),(4,pt g3)] ?_
 refine eU (fun m e R H=>∃i:Nat,i≤ms.length∧m=ms.length - i∧e=[(20,iv i),(19,iv ms.length),(18,.slice A ms.length c),(4,pt g3)]∧R=[all w]∧H=[HP.aE g3 269 [.slice (some ⟨gr,0,none⟩) ms.length ms.length,.slice (some ⟨gw,0,none⟩) ms.length ms.length,iv 0],HP.aE gr 3 (aM (kG ms (ms.map fun _=>0) i)),HP.aE gw 311 (List.replicate ms.length (sn))]) ms.length ⟨0,by omega,rfl,rfl,rfl,by
  rw[Ub]
  have:List.replicate ms.length (Value.int .i64 0)=aM (ms.map fun _=>0):=by
   refine List.ext_getElem? fun j=>?_;simp only[aM,List.map_map,List.getElem?_replicate,List.getElem?_map]
   by_cases h:j < ms.length
   ·rw[if_pos h,List.getElem?_eq_getElem h];rfl
   ·rw[if_neg h,List.getElem?_eq_none (by omega)];rfl
  rw[this]⟩ fun m e R H hI=>?_
 obtain⟨i,hi,rfl,rfl,rfl,rfl⟩:=hI
 have Vb:=Ud (vs:=ms) (old:=ms.map fun _=>0) (n:=ms.length) rfl (by simp) hi
 refine aB ?_;refine aG rfl (fun hlt=>?_) (fun hge=>?_)
 ·have hlt:i < ms.length:=by omega
  obtain⟨v,hv⟩:=get_some hlt
  have hvb:=hm v (List.mem_of_getElem? hv)
  obtain⟨b,off,hB,hz,hc⟩:=hs.2 (by omega);subst hB
  have hro:fS w b (off+i) (iv v):=⟨hz,hc i _ (by simp[aM,hv])⟩
  have iL:(aM (kG ms (ms.map fun _=>0) i)).length=ms.length:=by simp[aM,Vb]
  have lE:(aM (kG ms (ms.map fun _=>0) i)).set i (iv v)=aM (kG ms (ms.map fun _=>0) (i+1)):=by
   rw[←Uc (by simp) hv,aM,aM,List.map_set]
  refine aA ?_;refine kd (dat i (off+i)) ?_;refine aB ?_;refine bZ (t:=27) rfl (fun h=>absurd h (by omega)) (fun _=>?_);refine aB ?_;refine aG rfl (fun h=>absurd h (by omega)) (fun _=>?_);refine aB ?_;rw[lE];refine aB ?_;exact eP (ms.length - (i+1)) ⟨i+1,hlt,rfl,rfl,rfl,rfl⟩
 ·obtain rfl:i=ms.length:=by omega
  rw[Ue rfl (by simp)];refine aB ?_;refine aJC ms rfl 2 rfl ?_;dsimp only[List.set];refine vS ?_;refine dG [] [] [0] (by simp) rfl (by decide) (by decide) fun q _ _ hfr=>?_;exact fQ rfl rfl rfl fun w1 t=>⟨⟨_,_,⟨w1,q.Z⟩,rfl,rfl,⟨⟨g3,gr,gw⟩,rfl,rfl⟩,t.newR (by simp) (by simp) (hfr (by simp) (by simp))⟩,t.below (by simp)⟩
end
section
structure aR where
 ck:List eM
 dm:List fT
 ln:List jW
 dv:List (dS×fE)
 wt:List (Option iZ)
 aU:Int
def hw0(s:aC):aR:=⟨s.aF.map xS,s.domains.map fun _=>xN,s.bA.map fun _=>qI,s.aD.map fun d=>(Dt d,Oi),s.aD.map fun _=>none,0⟩
structure HL where
 h:Nat
 T:TL
 G:GL
 R:RL
 B:BL
 A:Option Addr
 c:Nat
 ds:List (FL×Nat)
def Jd(d:cG)(l:FL×Nat):List Value:=[iv d.clock,iv d.domain,iv d.reset,.int .u32 d.iG,.pointer (some ⟨l.1.f,0,none⟩),.pointer (some ⟨l.2,0,none⟩)]
def vL(ds:List cG)(ls:List (FL×Nat)):List (List Value):=List.zipWith Jd ds ls
def Qo(d:cG)(p:(FL×Nat)×(dS×fE)):HP:=HP.many [gR p.1.1 d p.2.1,tF p.1.2 p.2.2]
def xL(ds:List cG)(ls:List (FL×Nat))(xs:List (dS×fE)):List HP:=List.zipWith Qo ds (ls.zip xs)
def jR(s:aC):List Int:=s.aD.map fun d=>(d.aS.length:Int)
def Vr(L:HL)(n:Nat):List Value:=[.pointer (some ⟨L.T.t,0,none⟩),.pointer (some ⟨L.G.t,0,none⟩),.pointer (some ⟨L.R.t,0,none⟩),.pointer (some ⟨L.B.b,0,none⟩),.slice L.A n L.c]
def dL(L:HL)(s:aC)(x:aR):HP:=HP.many [HP.aE L.h 203 (Vr L s.aD.length),pM L.T s x.ck,uR L.G s x.dm,oQ L.R s x.ln,yE L.B (jR s) x.wt x.aU,HP.own 210 6 (.slice L.A s.aD.length L.c) s.aD.length (vL s.aD L.ds).flatten,HP.many (xL s.aD L.ds x.dv)]
def aIG(s:aC)(v:Value)(hs:List HP)(_:Piece):Prop:=∃L:HL,v=.tuple #[.pointer (some ⟨L.h,0,none⟩),iv 0]∧hs=[dL L s (hw0 s)]∧L.T.fa.length=s.aF.length∧L.ds.length=s.aD.length
theorem Fh(s:aC):(jR s).length=s.aD.length:=by simp[jR]
theorem aPi{ds:List cG}{i:Nat}{d:cG}(hd:ds[i]? =some d){ls:List (FL×Nat)}(hl:ls.length=i)(l:FL×Nat):xL (ds.take (i+1)) (ls++[l]) ((ds.take (i+1)).map fun d=>(Dt d,Oi))=xL (ds.take i) ls ((ds.take i).map fun d=>(Dt d,Oi))++[Qo d (l,(Dt d,Oi))]:=by
 have hlt:i < ds.length:=xD hd
 rw[List.take_succ,hd,Option.toList_some,List.map_append];unfold xL;rw[List.zip_append (by simp;omega),List.zipWith_append (by simp;omega)];rfl
theorem aPh{ds:List cG}{i:Nat}{d:cG}(hd:ds[i]? =some d){ls:List (FL×Nat)}(hl:ls.length=i)(l:FL×Nat):(vL (ds.take (i+1)) (ls++[l])).flatten=(vL (ds.take i) ls).flatten++Jd d l:=by
 have hlt:i < ds.length:=xD hd
 rw[List.take_succ,hd,Option.toList_some];unfold vL;rw[List.zipWith_append (by simp;omega),List.flatten_append];simp
theorem qN{N:bY}{w0:World}{e:Env}{R:List Piece}{H:List HP}{K:Act→World→Prop}{p:HP}{ps:List HP}(h:XK N w0 K e R (HP.many (ps++[p])::H)):XK N w0 K e R (HP.many ps::p::H):=fun a w hr st=>
 (Xo (ps:=ps) (p:=p) h) a w hr (st.weak (fun _ h=>h) (fun i=>match i with
  | 0=>1
  | 1=>0
  | i+2=>i+2) (fun i j _ _ he=>by
   match i,j with
   | 0,0=>rfl
   | 0,1=>simp at he
   | 0,j+2=>simp at he
   | 1,0=>simp at he
   | 1,1=>rfl
   | 1,j+2=>simp at he
   | i+2,0=>simp at he
   | i+2,1=>simp at he
   | i+2,j+2=>simpa using he) (fun i p hi=>by
   match i,hi with
   | 0,hi=>simpa using hi
   | 1,hi=>simpa using hi
   | i+2,hi=>simpa using hi))
theorem aRJ{N:bY}{w0:World}{e:Env}{R:List Piece}{H:List HP}{K:Act→World→Prop}(h:XK N w0 K e R (HP.many []::H)):XK N w0 K e R H:=oJ (p:=HP.many []) (fun w=>⟨fun _ _=>False,fun i p hp=>by simp at hp,fun _ _ h=>h,fun _ _ _ _ h=>h.elim⟩) h
theorem aOc(s:aC)(hH:s.dH)(A1 A2 A3 A4:Option Addr)(n1 k1 n2 k2 n3 k3 n4 k4:Nat)(w:World)(hW:iD w s A1 n1 A2 n2 A3 n3 A4 n4):
  Cz 48 #[.agg #[.slice A1 n1 k1,.slice A2 n2 k2,.slice A3 n3 k3,.slice A4 n4 k4]] w (fun y w'=>(∃v hs q,y=.returned v∧q.w=w'∧aIG s v hs q∧gJ w hs q)∧Below w.heap.size w w'):=by
 have rE:=hH.t.nv
 obtain⟨rv,Pn,uB,tX⟩:=hW.dev;obtain⟨da,kZ,rfl,hda⟩:=aDp Pn;subst uB;refine aN func48 ntmps48 ?_;refine aB ?_;refine bN fun g1=>?_;refine aB ?_;refine aV (fun w1 t=>Rb s A1 A2 A3 A4 n1 k1 n2 k2 n3 k3 _ k4 w1 (hW.le (t.started (by simp))) hH.t.Ra) ?_;refine aB ?_;refine eW (aIq s) (fun w1 t=>aQr s hH A1 A2 A3 A4 n1 k1 n2 k2 n3 k3 _ k4 w1 (hW.le (t.started (by simp)))) ?_;rintro _ _ q1 ⟨LT,rfl,rfl,hfa⟩ _;dsimp only[List.cons_append,List.nil_append];refine aB ?_;refine eW (aIN s) (fun w1 t=>aLH s hH A1 A2 A3 A4 n1 k1 n2 k2 n3 k3 _ k4 w1 (hW.le (t.started (by simp)))) ?_;rintro _ _ q2 ⟨LG,rfl,rfl⟩ _;dsimp only[List.cons_append,List.nil_append];refine aB ?_;refine eW (aIE s) (fun w1 t=>aKM s hH A1 A2 A3 A4 n1 k1 n2 k2 n3 k3 _ k4 w1 (hW.le (t.started (by simp)))) ?_;rintro _ _ q3 ⟨LR,rfl,rfl⟩ _;dsimp only[List.cons_append,List.nil_append];refine aB ?_;refine bN fun g2=>?_;refine aB ?_;refine lX (n:=s.aD.length) 8 (el:=3) (z:=iv 0) (by kernel_rfl) (by kernel_rfl) rfl rfl rfl (by omega) (by omega) (by decide) fun gm=>?_;refine aB ?_;refine lT 210 6 ?_;refine aRJ ?_;refine aT [0,1,2,3,4,5,6] rfl (by decide) (R':=[all w]) (by simp) ?_;refine bM [(56,iv 0),(55,iv s.aD.length),(54,.slice A4 s.aD.length k4),(10,.slice (some ⟨gm,0,none⟩) s.aD.length s.aD.length),(9,pt g2)] ?_;refine eU (fun m e R H=>∃(i:Nat) (A:Option Addr) (c:Nat) (ls:List (FL×Nat)),i≤s.aD.length∧ls.length=i∧m=s.aD.length - i∧e=[(56,iv i),(55,iv s.aD.length),(54,.slice A4 s.aD.length k4),(10,.slice (some ⟨gm,0,none⟩) s.aD.length s.aD.length),(9,pt g2)]∧R=[all w]∧H=[HP.many (xL (s.aD.take i) ls ((s.aD.take i).map fun d=>(Dt d,Oi))),HP.own 210 6 (.slice A i c) i (vL (s.aD.take i) ls).flatten,HP.aE gm 3 (aM (kG (jR s) ((jR s).map fun _=>0) i)),HP.aE g2 203 [.pointer (some ⟨LT.t,0,none⟩),.pointer (some ⟨LG.t,0,none⟩),.pointer (some ⟨LR.t,0,none⟩),.pointer none,.slice A i c],oQ LR s (hw0 s).ln,uR LG s (hw0 s).dm,pM LT s (hw0 s).ck]) s.aD.length ⟨0,none,0,[],by omega,rfl,rfl,rfl,rfl,?_⟩ fun m e R H hI=>?_
 ·have:List.replicate s.aD.length (Value.int .i64 0)=aM (kG (jR s) ((jR s).map fun _=>0) 0):=by
   rw[Ub];refine List.ext_getElem? fun j=>?_;simp only[aM,jR,List.map_map,List.getElem?_replicate,List.getElem?_map]
   by_cases h:j < s.aD.length
   ·rw[if_pos h,List.getElem?_eq_getElem h];rfl
   ·rw[if_neg h,List.getElem?_eq_none (by omega)];rfl
  rw[this];rfl
 obtain⟨i,A,c,ls,hi,nZ,rfl,rfl,rfl,rfl⟩:=hI
 have hml:=Fh s
 have Vb:=Ud (vs:=jR s) (old:=(jR s).map fun _=>0) (n:=s.aD.length) hml (by simp[jR]) hi
 refine aB ?_;refine aG rfl (fun hlt=>?_) (fun hge=>?_)
 ·have hlt:i < s.aD.length:=by omega
  obtain⟨d,hd⟩:=get_some hlt;obtain⟨⟨a1,a2⟩,ha⟩:=get_some (l:=da) (i:=i) (by omega);obtain⟨aCD,aGx⟩:=hda i d _ hd ha
  have hfit:=hH.t.aD i d hd
  obtain⟨b,off,hB,hro⟩:=aI.row tX (Yk (f:=zC) (es:=s.aD) (bs:=da) (sz:=6) kZ (fun _ _=>rfl)).2 (Sj (f:=zC) hd ha) hlt;subst hB;refine aA ?_;refine kd (dat i (off+i*6)) ?_;refine aB ?_;refine cE fun g3=>?_
  have hmi:(jR s)[i]? =some (d.aS.length:Int):=by rw[jR,List.getElem?_map,hd];rfl
  have iL:(aM (kG (jR s) ((jR s).map fun _=>0) i)).length=s.aD.length:=by simp[aM,Vb]
  have lE:(aM (kG (jR s) ((jR s).map fun _=>0) i)).set i (iv d.aS.length)=aM (kG (jR s) ((jR s).map fun _=>0) (i+1)):=by
   rw[←Uc (by simp) hmi,aM,aM,List.map_set]
  refine aB ?_;refine eW (aIR d) (fun w1 t=>aLs d (by have:=hfit.2.2.2.2.2.2.2.2.1;omega) (fun r hr=>by have:=hfit.2.2.2.2.2.2.2.2.2.1 r hr;omega) a1.1 a1.2 w1 (aI.le aCD (t.le (by simp)))) ?_;rintro _ _ q1 ⟨LF,rfl,rfl⟩ _;dsimp only[List.cons_append,List.nil_append];refine aB ?_;refine aV (fun w1 t=>Tq LF d (Dt d) w1 (t.aDh 0 rfl)) ?_;refine aB ?_;rw[lE];refine aA ?_;refine iY [2,3,4,5,6,7,8,9,10,11,12] ?_;refine bK 0 ?_;refine bK 1 ?_;refine bK 13 ?_;refine aK 2 ?_;refine aK 3 ?_;refine aK 4 ?_;refine aK 5 ?_;refine aK 6 ?_;refine aK 7 ?_;refine aK 8 ?_;refine aK 9 ?_;refine aK 10 ?_;refine aK 11 ?_;refine aK 12 ?_;refine aL 14 ?_;refine eW (fun v hs _=>∃g,v=pt g∧hs=[HP.aE g 266 [iv 0,iv 0]]) (fun w1 t=>aL3 w1) ?_;rintro _ _ q2 ⟨gq,rfl,rfl⟩ _;dsimp only[List.cons_append,List.nil_append];refine bE ?_;refine aL 15 ?_;refine kd (iM rfl) ?_;refine bE ?_;refine aL 16 ?_;refine eK fun g4=>?_;refine bE ?_ (hS:=fun _ h=>h.tail.bB.tail);refine aL 17 ?_;refine iF 5 6 48 1 (n':=i+1) (el:=210) (by kernel_rfl) (by kernel_rfl) (by decide) rfl rfl rfl (mO 0 rfl rfl) (by simp[Value.oneCell']) rfl (by omega) (by omega) (by decide) fun An cn=>?_;dsimp only[List.set];refine cH ?_;refine aL 18 ?_;refine bF ?_;refine cH ?_;refine aL 19 ?_;refine bF ?_;refine cH ?_;refine aL 20 ?_;refine eN rfl rfl ?_;dsimp only[List.set];refine cH ?_;refine eC ?_;refine aA ?_;refine aT [2,1,4,5,6,7,8,9,10] rfl (by decide) (R':=[all w]) (by simp) ?_;refine mV ?_;refine Xo ?_;refine bM [(56,iv (i+1:Nat)),(55,iv s.aD.length),(54,.slice (some ⟨b,off,none⟩) s.aD.length k4),(10,.slice (some ⟨gm,0,none⟩) s.aD.length s.aD.length),(9,pt g2)] ?_;exact gQ (s.aD.length - (i+1)) (by omega) ⟨i+1,An,cn,ls++[(LF,gq)],hlt,by simp;omega,rfl,rfl,rfl,by rw[aPi hd nZ,aPh hd nZ];rfl⟩
 ·obtain rfl:i=s.aD.length:=by omega
  rw[Ue hml (by simp[jR])];rw[List.take_length];refine aB ?_
  refine eW (aIW (jR s)) (fun w1 t=>by
   have:=aQN (jR s) (by omega) (fun m hm=>by
    obtain⟨d,hd,rfl⟩:=List.mem_map.1 hm;obtain⟨j,hj⟩:=List.getElem?_of_mem hd
    have:=(hH.t.aD j d hj).2.2.2.2.2.2.2.2.1
    omega) (some ⟨gm,0,none⟩) s.aD.length w1
   rw[hml] at this
   exact this (t.uY (i:=2) rfl (by simp[aM,hml]))) ?_
  rintro _ _ q1 ⟨LB,rfl,rfl⟩ _;dsimp only[List.cons_append,List.nil_append];refine aB ?_;refine aT [4,7,6,5,0,2,1] rfl (by decide) (R':=[all w]) (by simp) ?_;refine mV ?_;refine qN ?_;refine qN ?_;refine qN ?_;refine qN ?_;refine qN ?_;dsimp only[List.cons_append,List.nil_append];refine dG [] [] [0] (by simp) rfl (by decide) (by decide) fun q _ _ hfr=>?_;exact fQ rfl rfl rfl fun w1 t=>⟨⟨_,_,⟨w1,q.Z⟩,rfl,rfl,⟨⟨g2,LT,LG,LR,LB,A,c,ls⟩,rfl,by simp[dL,Vr,hw0,jR,Function.comp_def],hfa,nZ⟩,t.newR (by simp) (by simp) (hfr (by simp) (by simp))⟩,t.below (by simp)⟩
end
section
structure cX(s:aC)(x:aR):Prop where
 ck:pR s x.ck
 dm:tJ s x.dm
 ln:Ei s x.ln
 dv:x.dv.length=s.aD.length
 each:∀(i:Nat) (d:cG) (p:dS×fE),s.aD[i]? =some d→x.dv[i]? =some p→yB d p.1∧zP p.2
 wt:x.wt.length=s.aD.length
structure gA(L:HL)(s:aC):Prop where
 fa:L.T.fa.length=s.aF.length
 ds:L.ds.length=s.aD.length
structure tH(w:World)(L:HL)(s:aC)(x:aR):Prop where
 r0:dU w L.h 0 (Vr L s.aD.length)
 tree:vT w L.T s x.ck
 aCX:aIM w L.G s x.dm
 lines:Jy w L.R s x.ln
 bus:Hl w L.B (jR s) x.wt x.aU
 rows:aI (all w) 6 L.A s.aD.length (vL s.aD L.ds).flatten
 each:∀(i:Nat) (d:cG) (l:FL×Nat) (p:dS×fE),s.aD[i]? =some d→L.ds[i]? =some l→x.dv[i]? =some p→Ci w l.1 d p.1∧dU w l.2 0 (Sc p.2)
theorem tH.below{w w':World}{L:HL}{s:aC}{x:aR}(h:tH w L s x)(hb:Below w.heap.size w w'):tH w' L s x:=
 ⟨h.r0.below hb,h.tree.below hb,Cd.below h.aCX hb,h.lines.below hb,h.bus.below hb,h.rows.le (kR hb),fun i d l p h1 h2 h3=>⟨(h.each i d l p h1 h2 h3).1.below hb,(h.each i d l p h1 h2 h3).2.below hb⟩⟩
theorem aIH{L:HL}{s:aC}{x:aR}{F:Nat→Prop}{w:World}(h:(dL L s x).sat F w)(hF:∀b,F b→b < w.heap.size)(hL:gA L s)(hok:cX s x):tH w L s x:=by
 obtain⟨G,g1,g2,_⟩:=h
 have hl:∀i b,G i b→b < w.heap.size:=fun i b hb=>hF b (g2 i b hb)
 obtain⟨A',c',he,hs⟩:=zO (Y:=fun b=>b < w.heap.size) (g1 5 _ rfl) (hl 5)
 injection he with he
 subst he;refine⟨uL (g1 0 _ rfl).2,aIr (g1 1 _ rfl) (hl 1) hL.fa hok.ck,aI5 (g1 2 _ rfl) (hl 2),aIF (g1 3 _ rfl),aIX (g1 4 _ rfl),hs,fun i d l p h1 h2 h3=>?_⟩;obtain⟨G',k1,k2,_⟩:=g1 6 _ rfl
 have hz:(xL s.aD L.ds x.dv)[i]? =some (Qo d (l,p)):=by
  have hq:(L.ds.zip x.dv)[i]? =some (l,p):=List.getElem?_zip_eq_some.2 ⟨h2,h3⟩
  rw[xL,List.getElem?_zipWith,h1,hq]
 have hj:∀b,G' i b→b < w.heap.size:=fun b hb=>hl 6 b (k2 i b hb)
 obtain⟨G2,m1,m2,_⟩:=k1 i _ hz;exact⟨Yg (m1 0 _ rfl) (fun b hb=>hj b (m2 0 b hb)),uL (m1 1 _ rfl).2⟩
section
variable{N:bY}{w0 w:World}{e:Env}{R:List Piece}{H:List HP}{K:Act→World→Prop}{L:HL}{s:aC}{x:aR}
theorem St.mG(t:St w0 R H w)(i:Nat)(hi:H[i]? =some (dL L s x))(hL:gA L s)(hok:cX s x):tH w L s x:=by
 obtain⟨F,h1,h2,_⟩:=t.chunk hi;exact aIH h1 h2 hL hok
end
section
variable(L:HL)(s:aC)(x:aR)(w:World)
theorem Bh(hR:tH w L s x):Cz 150 #[.pointer (some ⟨L.h,0,none⟩)] w (Rt (.bool true) w):=by
 have k0:=hR.r0.at_ (j:=0) rfl
 have k1:=hR.r0.at_ (j:=1) rfl
 have k2:=hR.r0.at_ (j:=2) rfl
 have k3:=hR.r0.at_ (j:=3) rfl
 refine aN func150 ntmps150 ?_;refine aA ?_;exact dI
theorem Px(i:Int)(hR:tH w L s x):Cz 146 #[.pointer (some ⟨L.h,0,none⟩),iv i] w (Rt (.bool (bT s.aD.length i)) w):=by
 have k0:=hR.r0.at_ (j:=4) rfl
 refine aN func146 ntmps146 ?_;refine aA ?_;refine aV (fun w1 t=>Bh L s x w1 (hR.below (t.below (by simp)))) ?_;refine aA ?_;refine bZ (t:=11) rfl (fun h=>?_) (fun h=>?_)
 ·refine aA ?_;refine jJ (by simp) ?_;unfold bT
  congr 1
  simp;omega
 ·refine aA ?_;refine jJ (by simp) ?_
  have:bT s.aD.length i=false:=decide_eq_false (by omega)
  rw[this]
theorem aNK(i:Nat)(hi:i < s.aD.length)(hR:tH w L s x):Cz 136 #[.pointer (some ⟨L.h,0,none⟩),iv (i:Int)] w (Rt (iv (oX x.wt i:Nat)) w):=by
 have k0:=hR.r0.at_ (j:=3) rfl
 have hin:bT s.aD.length (i:Int)=true:=decide_eq_true (by omega)
 refine aN func136 ntmps136 ?_;refine aA ?_;refine aV (fun w1 t=>Px L s x w1 i (hR.below (t.below (by simp)))) ?_;rw[hin];refine aA ?_;refine aV (fun w1 t=>aHC L.B (jR s) x.wt x.aU i (by rw[Fh];exact hi) w1 (hR.bus.below (t.below (by simp)))) ?_;refine aA ?_;exact dI
theorem aCO(hok:tJ s x.dm)(i:Int)(hR:tH w L s x):Cz 172 #[.pointer (some ⟨L.h,0,none⟩),iv i] w (Rt (.int .u8 (sC x.dm i)) w):=by
 have k0:=hR.r0.at_ (j:=1) rfl
 refine aN func172 ntmps172 ?_;refine aA ?_;refine aV (fun w1 t=>Bh L s x w1 (hR.below (t.below (by simp)))) ?_;refine aA ?_;refine aV (fun w1 t=>aF4 L.G s x.dm hok i w1 (Cd.below hR.aCX (t.below (by simp)))) ?_;refine aA ?_;exact dI
theorem aNO(i:Int)(hR:tH w L s x):Cz 180 #[.pointer (some ⟨L.h,0,none⟩),iv i] w (Rt (.bool (Iq x.ln i)) w):=by
 have k0:=hR.r0.at_ (j:=2) rfl
 refine aN func180 ntmps180 ?_;refine aA ?_;refine aV (fun w1 t=>Bh L s x w1 (hR.below (t.below (by simp)))) ?_;refine aA ?_;refine aV (fun w1 t=>aFn L.R s x.ln i w1 (hR.lines.below (t.below (by simp)))) ?_;refine aA ?_;exact dI
end
end
section
theorem aNp{s:aC}(h:s.dH):cX s (hw0 s):=by
 refine⟨⟨by simp[hw0],fun x hx=>?_⟩,⟨by simp[hw0],fun x hx=>?_,fun x hx=>?_⟩,⟨by simp[hw0],fun x hx=>?_⟩,by simp[hw0],fun i d p hd hp=>?_,by simp[hw0]⟩
 ·obtain⟨c,hc,rfl⟩:=List.mem_map.1 hx;obtain⟨i,hi⟩:=List.getElem?_of_mem hc
  have:=(h.t.aF i c hi).2
  unfold xS;dsimp only;split
  ·omega
  ·omega
 ·obtain⟨c,hc,rfl⟩:=List.mem_map.1 hx;simp[xN]
 ·obtain⟨c,hc,rfl⟩:=List.mem_map.1 hx;simp[xN]
 ·obtain⟨c,hc,rfl⟩:=List.mem_map.1 hx;simp[qI]
 ·simp only[hw0,List.getElem?_map,hd,Option.map_some] at hp;cases hp
  have hf:=h.t.aD i d hd
  refine⟨⟨by simp[Dt],by simp[Dt],fun v hv=>?_,fun v hv=>?_⟩,by simp[zP,Oi]⟩
  ·obtain⟨r,hr,rfl⟩:=List.mem_map.1 hv
   have:=hf.2.2.2.2.2.2.2.2.2.1 r hr
   omega
  ·simp only[Dt,List.mem_map] at hv;obtain⟨r,_,rfl⟩:=hv;omega
theorem aEv{s:aC}(h:s.wW):(jM s).sm:=by
 have h1:=h.nc
 have h2:=h.nd
 have h3:=h.nr
 exact⟨by simp[jM];omega,by simp[jM];omega,by simp[jM];omega⟩
def nY:aC:=⟨[],[],[],[]⟩
theorem aKk:nY.small:=⟨by decide,by decide,by decide,by decide,(fun c hc=>by cases hc),(fun c hc=>by cases hc)⟩
theorem aKl(w:World):iD w nY none 0 none 0 none 0 none 0:=
 ⟨⟨[],trivial,rfl,aI.nil _ _⟩,⟨[],trivial,rfl,aI.nil _ _⟩,⟨[],trivial,rfl,aI.nil _ _⟩,⟨[],trivial,rfl,aI.nil _ _⟩,aKk⟩
end
section
theorem wS{α:Type}{l:List α}{i:Nat}{x:α}(h:l[i]? =some x):l.set i x=l:=by
 refine List.ext_getElem? fun j=>?_;rw[List.getElem?_set]
 by_cases he:i=j
 ·subst he;rw[if_pos rfl,if_pos (List.getElem?_eq_some_iff.1 h).1,h]
 ·rw[if_neg he]
def sB(s:aC)(st:List eM)(i:Nat):List Value:=(List.range s.aF.length).map fun j=>.bool (decide (j < i)&&runs s st j)
theorem aLz(s:aC)(st:List eM):List.replicate s.aF.length (Value.bool false)=sB s st 0:=by
 refine List.ext_getElem? fun j=>?_;rw[sB,List.getElem?_replicate,List.getElem?_map]
 by_cases hl:j < s.aF.length
 ·rw[List.getElem?_range hl];simp[hl]
 ·rw[List.getElem?_eq_none (l:=List.range s.aF.length) (by simp;omega)];simp[hl]
theorem aL0(s:aC)(st:List eM)(i:Nat):(sB s st i).set i (.bool (runs s st i))=sB s st (i+1):=by
 refine List.ext_getElem? fun j=>?_;simp only[sB,List.getElem?_set,List.getElem?_map,List.length_map,List.length_range]
 by_cases he:i=j
 ·subst he
  by_cases hl:i < s.aF.length
  ·rw[if_pos rfl,if_pos hl,List.getElem?_range hl];simp
  ·rw[if_pos rfl,if_neg hl,List.getElem?_eq_none (by simp;omega)];rfl
 ·rw[if_neg he]
  by_cases hl:j < s.aF.length
  ·rw[List.getElem?_range hl]
   have:decide (j < i)=decide (j < i+1):=by simp;omega
   simp[this]
  ·rw[List.getElem?_eq_none (by simp;omega)];rfl
theorem aL1{s:aC}{st:List eM}{j:Nat}(h:j < s.aF.length):(sB s st s.aF.length)[j]? =some (.bool (runs s st j)):=by
 simp[sB,h]
def oL(s:aC)(st:List eM)(i:Nat):List eM:=(mM s st).take i++st.drop i
theorem aM9(s:aC)(st:List eM):oL s st 0=st:=by simp[oL]
theorem aMD{s:aC}{st:List eM}(hok:pR s st):oL s st s.aF.length=mM s st:=by
 have hl:=hok.len
 rw[oL,List.drop_eq_nil_of_le (by omega),List.append_nil,List.take_of_length_le (by simp[mM];omega)]
theorem aMC{s:aC}{st:List eM}(hok:pR s st){i:Nat}(hi:i < s.aF.length):(oL s st i)[i]? =st[i]? :=by
 have hl:=hok.len
 have:((mM s st).take i).length=i:=by simp[mM];omega
 rw[oL,List.getElem?_append_right (by omega),this,Nat.sub_self,List.getElem?_drop,Nat.add_zero]
theorem aCp{s:aC}{st:List eM}(hok:pR s st){i:Nat}(hi:i≤s.aF.length):(oL s st i).length=s.aF.length:=by
 have hl:=hok.len
 simp[oL,mM];omega
theorem aMA{s:aC}{st:List eM}(hok:pR s st){i:Nat}{c:eV}{x:eM}(hc:s.aF[i]? =some c)(hx:st[i]? =some x):(oL s st i).set i (Ai s st c x)=oL s st (i+1):=by
 have hl:=hok.len
 have hi:=(List.getElem?_eq_some_iff.1 hc).1
 have ht:(mM s st)[i]? =some (Ai s st c x):=by rw[mM,List.getElem?_zipWith,hc,hx]
 have sK:(mM s st).length=s.aF.length:=by simp[mM];omega
 refine List.ext_getElem? fun j=>?_;rw[List.getElem?_set]
 by_cases he:i=j
 ·subst he;rw[if_pos rfl,if_pos (by rw[aCp hok (by omega)];exact hi),oL,List.getElem?_append_left (by rw[List.length_take];omega),List.getElem?_take_of_lt (by omega),ht]
 ·rw[if_neg he,oL,oL];rcases Nat.lt_or_ge j i with hj | hj
  ·rw[List.getElem?_append_left (by rw[List.length_take];omega),List.getElem?_append_left (by rw[List.length_take];omega),List.getElem?_take_of_lt hj,List.getElem?_take_of_lt (by omega)]
  ·rw[List.getElem?_append_right (by rw[List.length_take];omega),List.getElem?_append_right (by rw[List.length_take];omega),List.getElem?_drop,List.getElem?_drop,List.length_take,List.length_take]
   congr 1
   omega
theorem aJP{s:aC}{st:List eM}(hH:s.dH)(hok:pR s st){i:Nat}{c:eV}{x:eM}(hc:s.aF[i]? =some c)(hx:x∈st):0≤(Ai s st c x).left∧(Ai s st c x).left≤3:=by
 have h1:=hok.left x hx
 have h2:=(hH.t.aF i c hc).2
 have h3:0≤c.lock∧c.lock≤3:=by omega
 unfold Ai;split
 ·split
  ·exact h3
  ·split
   ·dsimp only;omega
   ·exact h1
 ·exact h1
theorem aBH{s:aC}{st:List eM}(hH:s.dH)(hok:pR s st):pR s (mM s st):=by
 have hl:=hok.len
 refine⟨by simp[mM];omega,fun x hx=>?_⟩;obtain⟨j,hj⟩:=List.getElem?_of_mem hx;rw[mM,List.getElem?_zipWith] at hj;cases hc:s.aF[j]? with
 | none=>rw[hc] at hj;cases hj
 | some c =>
  cases hy:st[j]? with
  | none=>rw[hc,hy] at hj;cases hj
  | some y=>
   rw[hc,hy] at hj;cases hj;exact aJP hH hok hc (List.mem_of_getElem? hy)
theorem aMB{s:aC}{st:List eM}(hH:s.dH)(hok:pR s st){i:Nat}(hi:i≤s.aF.length):pR s (oL s st i):=⟨aCp hok hi,fun x hx=>by
 rcases List.mem_append.1 hx with h | h
 ·exact(aBH hH hok).left x (List.mem_of_mem_take h)
 ·exact hok.left x (List.mem_of_mem_drop h)⟩
theorem aQn(L:TL)(s:aC)(st:List eM)(hH:s.dH)(hfl:L.fa.length=s.aF.length)(hok:pR s st)(w:World)(F:Nat→Prop)(hp:(pM L s st).sat F w)(hF:∀b,F b→b < w.heap.size):
  Cz 154 #[.pointer (some ⟨L.t,0,none⟩)] w (Wr (.tuple #[]) (pM L s (mM s st)) w F):=by
 have hnc:=hH.t.nc
 have hl:=hok.len
 refine cT func154 ntmps154 hp hF ?_
 have aCF:Rd w [⟨w,fun b=>b < w.heap.size∧¬F b⟩] [pM L s st] L.t 0 (.slice L.A s.aF.length L.c):=Rd.tree 0 rfl hfl hok
 refine aA ?_;refine lX (n:=s.aF.length) 1 (el:=4) (z:=.bool false) (by kernel_rfl) (by kernel_rfl) rfl rfl rfl (by omega) (by omega) (by decide) fun g1=>?_
 have aS8:Rd w [⟨w,fun b=>b < w.heap.size∧¬F b⟩] [HP.aE g1 4 (List.replicate s.aF.length (.bool false)),pM L s st] L.t 0 (.slice L.A s.aF.length L.c):=Rd.tree 1 rfl hfl hok
 refine aA ?_;rw[aLz s st];refine bM [(19,iv 0),(18,iv s.aF.length),(2,.slice (some ⟨g1,0,none⟩) s.aF.length s.aF.length),(0,.pointer (some ⟨L.t,0,none⟩))] ?_;refine eU (fun m e R H=>∃i:Nat,i≤s.aF.length∧m=s.aF.length - i∧e=[(19,iv i),(18,iv s.aF.length),(2,.slice (some ⟨g1,0,none⟩) s.aF.length s.aF.length),(0,.pointer (some ⟨L.t,0,none⟩))]∧R=[⟨w,fun b=>b < w.heap.size∧¬F b⟩]∧H=[HP.aE g1 4 (sB s st i),pM L s st]) s.aF.length ⟨0,by omega,rfl,rfl,rfl,rfl⟩ fun m e R H hI=>?_;obtain⟨i,hi,rfl,rfl,rfl,rfl⟩:=hI;refine aA ?_;refine aG rfl (fun hlt=>?_) (fun hge=>?_)
 ·have hlt:i < s.aF.length:=by omega
  have oN:(sB s st i).length=s.aF.length:=by simp[sB]
  refine aA ?_;refine aV (fun w1 t=>Xa L s st hH i w1 (t.aBF 1 rfl hfl hok)) ?_;rw[show tP s st (i:Int)=runs s st i by simp[tP,bT,hlt]];refine aB ?_;rw[aL0];exact eP (s.aF.length - (i+1)) ⟨i+1,hlt,rfl,rfl,rfl,rfl⟩
 ·obtain rfl:i=s.aF.length:=by omega
  have aS7:Rd w [⟨w,fun b=>b < w.heap.size∧¬F b⟩] [HP.aE g1 4 (sB s st s.aF.length),pM L s st] L.t 0 (.slice L.A s.aF.length L.c):=Rd.tree 1 rfl hfl hok
  refine aA ?_;refine bM [(34,iv 0),(33,iv s.aF.length),(2,.slice (some ⟨g1,0,none⟩) s.aF.length s.aF.length),(0,.pointer (some ⟨L.t,0,none⟩))] ?_;refine eU (fun m e R H=>∃i:Nat,i≤s.aF.length∧m=s.aF.length - i∧e=[(34,iv i),(33,iv s.aF.length),(2,.slice (some ⟨g1,0,none⟩) s.aF.length s.aF.length),(0,.pointer (some ⟨L.t,0,none⟩))]∧R=[⟨w,fun b=>b < w.heap.size∧¬F b⟩]∧H=[HP.aE g1 4 (sB s st s.aF.length),pM L s (oL s st i)]) s.aF.length ⟨0,by omega,rfl,rfl,rfl,by rw[aM9]⟩ fun m e R H hI=>?_;obtain⟨i,hi,rfl,rfl,rfl,rfl⟩:=hI;refine aA ?_;refine aG rfl (fun hlt=>?_) (fun hge=>?_)
  ·have hlt:i < s.aF.length:=by omega
   obtain⟨c,hc⟩:=get_some hlt;obtain⟨a,ha⟩:=get_some (l:=L.fa) (i:=i) (by omega);obtain⟨x,hx⟩:=get_some (l:=st) (i:=i) (by omega)
   have Va:=aMB hH hok hi
   have hml:=aCp hok hi
   have Lr:(oL s st i)[i]? =some x:=by rw[aMC hok hlt];exact hx
   obtain⟨fK,iK⟩:=aCj hfl Va
   have hlx:=hok.left x (List.mem_of_getElem? hx)
   have oN:(sB s st s.aF.length).length=s.aF.length:=by simp[sB]
   have hpq:(jQ s L.fa (oL s st i)).set i (qG c a (Ai s st c x))=jQ s L.fa (oL s st (i+1)):=by rw[aFG hc ha (by omega),aMA hok hc hx]
   refine aIf 1 rfl (by omega) fun g cs hA h1 h2 h3 h4=>?_;dsimp only[List.set];rw[hA]
   have hs:=Ds h2 fK iK (On hc ha Lr)
   have hu:=tB.refl cs (i*11) 11
   have hrd:Rd w [⟨w,fun b=>b < w.heap.size∧¬F b⟩] [HP.aE g 251 cs,HP.aE g1 4 (sB s st s.aF.length),HP.many [HP.aE L.t 249 [.slice (some ⟨g,0,none⟩) s.aF.length L.c],cF,HP.bU (rR s L.fa) (rR.le (s:=s) (fa:=L.fa))]] L.t 0 (.slice (some ⟨g,0,none⟩) s.aF.length L.c):=aSu 2 0 rfl rfl rfl
   refine aA ?_;refine kd (dat i (i*11)) ?_;obtain⟨hsrc,hfit⟩:=hH.t.aF i c hc;obtain⟨kd,src,rate,mul,dv,lock⟩:=c;obtain⟨on,left⟩:=x;dsimp only at hfit hsrc hlx;dsimp only[qG] at hs
   have Un:kd≠112∨on=false→jQ s L.fa (oL s st i)=jQ s L.fa (oL s st (i+1)):=fun hh=>by
    rw[←hpq]
    have:Ai s st ⟨kd,src,rate,mul,dv,lock⟩ ⟨on,left⟩=⟨on,left⟩:=by
     unfold Ai;rw[if_neg];rintro⟨h1,h2⟩;rcases hh with hh | hh
     ·exact hh h1
     ·rw[hh] at h2;cases h2
    rw[this,wS (On hc ha Lr)]
   rcases hfit with⟨rfl,_⟩ | ⟨rfl,rB,_⟩ | ⟨rfl,_⟩ | ⟨rfl,_⟩ | ⟨rfl,_⟩
   ·rw[Un (.inl (by decide))] at h2;refine aA ?_;refine lH ?_;refine iW ?_;refine aA ?_;refine zI 1 hA h1 h2 h3 h4 rfl ?_;exact eP (s.aF.length - (i+1)) ⟨i+1,hlt,rfl,rfl,rfl,rfl⟩
   ·cases on
    ·rw[Un (.inr rfl)] at h2;refine aA ?_;refine lH ?_;refine iW ?_;refine aA ?_;refine zI 1 hA h1 h2 h3 h4 rfl ?_;exact eP (s.aF.length - (i+1)) ⟨i+1,hlt,rfl,rfl,rfl,rfl⟩
    ·obtain⟨f,fs,hf⟩:∃(f:Nat) (fs:List Int),src=(f:Int)::fs:=by
      cases hs0:src with
      | nil=>rw[hs0] at rB;simp at rB
      | cons f fs=>exact⟨f.toNat,fs,by have:=(hsrc f (by rw[hs0];simp)).1;rw[Int.toNat_of_nonneg this]⟩
     have Lu:f < i:=by have:=(hsrc f (by rw[hf];simp)).2;omega
     subst hf
     have hrun:=aL1 (s:=s) (st:=st) (j:=f) (by omega)
     have cQ:Rd w [⟨w,fun b=>b < w.heap.size∧¬F b⟩] [HP.aE g 251 cs,HP.aE g1 4 (sB s st s.aF.length),HP.many [HP.aE L.t 249 [.slice (some ⟨g,0,none⟩) s.aF.length L.c],cF,HP.bU (rR s L.fa) (rR.le (s:=s) (fa:=L.fa))]] g1 f (.bool (runs s st f)):=Rd.aE 1 rfl hrun
     refine aA ?_;refine aV (fun w1 t=>Qz L s (oL s st i) i f _ fs w1 (t.aJO 0 2 rfl rfl hA h2 hfl Va) hc rfl) ?_;refine aB ?_
     have sL:Ai s st ⟨112,(f:Int)::fs,rate,mul,dv,lock⟩ ⟨true,left⟩=if runs s st f=false then⟨true,lock⟩ else if 0 < left then⟨true,left - 1⟩ else⟨true,left⟩:=by
      simp[Ai,aEP]
     rw[sL] at hpq;cases Fo:runs s st f
     ·rw[Fo] at cQ;rw[if_pos Fo] at hpq
      have hs1:=hs.set 7 (iv lock) (by simp) (by omega)
      have tW:=hu.set 7 (iv lock) (by decide)
      have gH:=Bq (r':=qG ⟨112,(f:Int)::fs,rate,mul,dv,lock⟩ a ⟨true,lock⟩) h2 fK iK hlt (by omega) rfl hs1 tW
      rw[hpq] at gH;refine aA ?_;refine zI 1 hA (by simpa using h1) gH h3 h4 rfl ?_;exact eP (s.aF.length - (i+1)) ⟨i+1,hlt,rfl,rfl,rfl,rfl⟩
     ·rw[Fo] at cQ;rw[if_neg (by rw[Fo];decide)] at hpq;refine aA ?_;refine aG rfl (fun hp=>?_) (fun hp=>?_)
      ·rw[if_pos hp] at hpq
       have hs1:=hs.set 7 (iv (left - 1)) (by simp) (by omega)
       have tW:=hu.set 7 (iv (left - 1)) (by decide)
       have gH:=Bq (r':=qG ⟨112,(f:Int)::fs,rate,mul,dv,lock⟩ a ⟨true,left - 1⟩) h2 fK iK hlt (by omega) rfl hs1 tW
       rw[hpq] at gH;refine aA ?_;refine zI 1 hA (by simpa using h1) gH h3 h4 rfl ?_;exact eP (s.aF.length - (i+1)) ⟨i+1,hlt,rfl,rfl,rfl,rfl⟩
      ·rw[if_neg hp,wS (On hc ha Lr)] at hpq;rw[hpq] at h2;refine aA ?_;refine lH ?_;refine iW ?_;refine aA ?_;refine zI 1 hA h1 h2 h3 h4 rfl ?_;exact eP (s.aF.length - (i+1)) ⟨i+1,hlt,rfl,rfl,rfl,rfl⟩
   ·rw[Un (.inl (by decide))] at h2;refine aA ?_;refine lH ?_;refine iW ?_;refine aA ?_;refine zI 1 hA h1 h2 h3 h4 rfl ?_;exact eP (s.aF.length - (i+1)) ⟨i+1,hlt,rfl,rfl,rfl,rfl⟩
   ·rw[Un (.inl (by decide))] at h2;refine aA ?_;refine lH ?_;refine iW ?_;refine aA ?_;refine zI 1 hA h1 h2 h3 h4 rfl ?_;exact eP (s.aF.length - (i+1)) ⟨i+1,hlt,rfl,rfl,rfl,rfl⟩
   ·rw[Un (.inl (by decide))] at h2;refine aA ?_;refine lH ?_;refine iW ?_;refine aA ?_;refine zI 1 hA h1 h2 h3 h4 rfl ?_;exact eP (s.aF.length - (i+1)) ⟨i+1,hlt,rfl,rfl,rfl,rfl⟩
  ·obtain rfl:i=s.aF.length:=by omega
   rw[aMD hok];refine aA ?_;exact fB 1 hF
end
section
section
variable{N:bY}{w0 w:World}{e:Env}{R:List Piece}{H:List HP}{K:Act→World→Prop}{L:RL}{s:aC}{st:List jW}
theorem aDJ(i:Nat)(hi:H[i]? =some (oQ L s st))(h:XK N w0 K e R (HP.map L.g (nC s st)::HP.aE L.t 259 [.map (some L.g)]::H.set i (HP.many [cF,cF]))):XK N w0 K e R H:=by
 have hlt:=xD hi
 refine qM i 0 hi rfl ?_;refine qM (i+1) 1 (by rw[List.getElem?_cons_succ,List.getElem?_set_self hlt]) rfl ?_
 simpa[List.set_cons_succ,List.set_set] using h
theorem Rv(i:Nat)(hi:H[i]? =some (HP.many [cF,cF]))(h:XK N w0 K e R (H.set i (oQ L s st))):XK N w0 K e R (HP.map L.g (nC s st)::HP.aE L.t 259 [.map (some L.g)]::H):=by
 have hlt:=xD hi
 refine qO (i+1) 1 (by rw[List.getElem?_cons_succ];exact hi) rfl ?_;dsimp only[List.set];refine qO i 0 (by rw[List.getElem?_set_self hlt]) rfl ?_
 simpa[List.set_set,oQ] using h
end
theorem aKN(L:RL)(s:aC)(st:List jW)(hok:Ei s st)(i:Int)(w:World)(F:Nat→Prop)(hp:(oQ L s st).sat F w)(hF:∀b,F b→b < w.heap.size):
  Cz 211 #[.pointer (some ⟨L.t,0,none⟩),iv i] w (Wr (iv (rK s st i).1) (oQ L s (rK s st i).2) w F):=by
 have hl:=hok.len
 cases hi:bT st.length i
 ·have hr:rK s st i=(4,st):=by simp[rK,hi]
  have hv:sU s st i=iP 0 ⟨0,false,false⟩:=by simp[sU,hi]
  rw[hr];refine cT func211 ntmps211 hp hF ?_;refine aA ?_;refine aV (fun w1 t=>Tm L s st i w1 (t.Pa 0 rfl)) ?_;rw[hi,hv];unfold iP;refine aA ?_;refine cE fun g1=>?_;refine aA ?_;exact bP 1 hF
 ·obtain⟨n,rfl⟩:∃n:Nat,i=n:=⟨i.toNat,by have:=of_decide_eq_true hi;omega⟩
  have hlt:n < st.length:=by have:=of_decide_eq_true hi;omega
  obtain⟨r,cQ⟩:=get_some (l:=s.bA) (i:=n) (by omega);obtain⟨x,hx⟩:=get_some hlt
  have hrd:s.bA.getD n 0=r:=by rw[List.getD_eq_getElem?_getD,cQ];rfl
  have hr:rK s st (n:Int)=(0,st.set n ⟨r,true,false⟩):=by simp[rK,hi,cQ]
  have hv:sU s st (n:Int)=iP r x:=by simp[sU,hi,List.getD_eq_getElem?_getD,cQ,hx]
  rw[hr];refine cT func211 ntmps211 hp hF ?_;refine aA ?_;refine aV (fun w1 t=>Tm L s st n w1 (t.Pa 0 rfl)) ?_;rw[hi,hv];unfold iP;refine aA ?_;refine cE fun g1=>?_;refine aA ?_;refine aDJ 1 rfl ?_;dsimp only[List.set];refine qP 6 (by kernel_rfl) (by kernel_rfl) ?_;refine bQ 0 ?_;refine bQ 1 ?_;refine bQ 2 ?_;refine bQ 3 ?_;refine bQ 4 ?_;refine bQ 5 ?_;refine cJ 6 ?_;refine Ho (kt:=3) (et:=261) (kd:=.i64) (l:=nC s st) (v:=iP r ⟨r,true,false⟩) 0 (by kernel_rfl) (by kernel_rfl) rfl rfl rfl rfl ?_;rw[aCl hrd hlt];dsimp only[List.set];refine eR ?_;refine kK ?_;refine Rv 1 rfl ?_;refine aA ?_;exact bP 1 hF
theorem aKL(L:RL)(s:aC)(st:List jW)(hok:Ei s st)(i:Int)(w:World)(F:Nat→Prop)(hp:(oQ L s st).sat F w)(hF:∀b,F b→b < w.heap.size):
  Cz 210 #[.pointer (some ⟨L.t,0,none⟩),iv i] w (Wr (iv (wT st i).1) (oQ L s (wT st i).2) w F):=by
 have hl:=hok.len
 cases hi:bT st.length i
 ·have hr:wT st i=(4,st):=by simp[wT,hi]
  have hv:sU s st i=iP 0 ⟨0,false,false⟩:=by simp[sU,hi]
  rw[hr];refine cT func210 ntmps210 hp hF ?_;refine aA ?_;refine aV (fun w1 t=>Tm L s st i w1 (t.Pa 0 rfl)) ?_;rw[hi,hv];unfold iP;refine aA ?_;refine cE fun g1=>?_;refine aA ?_;exact bP 1 hF
 ·obtain⟨n,rfl⟩:∃n:Nat,i=n:=⟨i.toNat,by have:=of_decide_eq_true hi;omega⟩
  have hlt:n < st.length:=by have:=of_decide_eq_true hi;omega
  obtain⟨r,cQ⟩:=get_some (l:=s.bA) (i:=n) (by omega);obtain⟨x,hx⟩:=get_some hlt
  have hrd:s.bA.getD n 0=r:=by rw[List.getD_eq_getElem?_getD,cQ];rfl
  have hr:wT st (n:Int)=if x.held=false then(6,st) else(0,st.set n ⟨x.left,x.held,true⟩):=by simp[wT,hi,hx]
  have hv:sU s st (n:Int)=iP r x:=by simp[sU,hi,List.getD_eq_getElem?_getD,cQ,hx]
  rw[hr];refine cT func210 ntmps210 hp hF ?_;refine aA ?_;refine aV (fun w1 t=>Tm L s st n w1 (t.Pa 0 rfl)) ?_;rw[hi,hv];obtain⟨left,held,wanted⟩:=x;unfold iP;refine aA ?_;refine cE fun g1=>?_;cases held
  ·refine aA ?_;exact bP 1 hF
  ·refine aA ?_;refine aDJ 1 rfl ?_;dsimp only[List.set];refine qP 6 (by kernel_rfl) (by kernel_rfl) ?_;refine bQ 0 ?_;refine bQ 1 ?_;refine bQ 2 ?_;refine bQ 3 ?_;refine bQ 4 ?_;refine bQ 5 ?_;refine cJ 6 ?_;refine Ho (kt:=3) (et:=261) (kd:=.i64) (l:=nC s st) (v:=iP r ⟨left,true,true⟩) 0 (by kernel_rfl) (by kernel_rfl) rfl rfl rfl rfl ?_;rw[aCl hrd hlt];dsimp only[List.set];refine eR ?_;refine kK ?_;refine Rv 1 rfl ?_;refine aA ?_;exact bP 1 hF
end
section
theorem aMP{α:Type}(f:α→α)(st:List α){i:Nat}{x:α}(hx:st[i]? =some x)(hs:f x=x):(st.map f).take i++st.drop i=(st.map f).take (i+1)++st.drop (i+1):=by
 have h1:=aCm f st hx
 rw[hs,aEW (by rw[aCn f st (List.getElem?_eq_some_iff.1 hx).1];exact hx)] at h1;exact h1
theorem aKK(L:RL)(s:aC)(st:List jW)(hH:s.dH)(hok:Ei s st)(w:World)(F:Nat→Prop)(hp:(oQ L s st).sat F w)(hF:∀b,F b→b < w.heap.size):
  Cz 157 #[.pointer (some ⟨L.t,0,none⟩)] w (fun y w'=>∃a:Option Addr×Nat×Nat,y=.returned (.slice a.1 a.2.1 a.2.2)∧True∧∃F',(oQ L s (Ht st)).sat F' w'∧iC w w' F F'):=by
 have hl:=hok.len
 have iK:=hH.t.nr
 refine cT func157 ntmps157 hp hF ?_
 have aCF:Rd w [⟨w,fun b=>b < w.heap.size∧¬F b⟩] [oQ L s st] L.t 0 (.map (some L.g)):=fun w1 t=>(t.Pa 0 rfl).r0.2
 refine aA ?_;refine kd (aP4 (kt:=3) (et:=261) (l:=nC s st) (by kernel_rfl) rfl (fun w1 t=>(t.Pa 0 rfl).m)) ?_;rw[show(nC s st).length=st.length by simp[nC]];refine aA ?_;refine lT 3 1 ?_;refine bM [(14,iv 0),(13,iv st.length),(3,sn),(0,.pointer (some ⟨L.t,0,none⟩))] ?_;refine eU (fun m e R H=>∃(i n:Nat) (A:Option Addr) (k:Nat) (xs:List Value),i≤st.length∧n≤i∧m=st.length - i∧e=[(14,iv i),(13,iv st.length),(3,.slice A n k),(0,.pointer (some ⟨L.t,0,none⟩))]∧R=[⟨w,fun b=>b < w.heap.size∧¬F b⟩]∧H=[HP.own 3 1 (.slice A n k) n xs,oQ L s ((st.map mY).take i++st.drop i)]) st.length ⟨0,0,none,0,[],by omega,by omega,rfl,rfl,rfl,by simp⟩ fun m e R H hI=>?_;obtain⟨i,n,A,k,xs,hi,hni,rfl,rfl,rfl,rfl⟩:=hI;refine aA ?_;refine aG rfl (fun hlt=>?_) (fun hge=>?_)
 ·have hlt:i < st.length:=by omega
  obtain⟨r,cQ⟩:=get_some (l:=s.bA) (i:=i) (by omega);obtain⟨x,hx⟩:=get_some hlt
  have hlx:=hok.left x (List.mem_of_getElem? hx)
  have hrd:s.bA.getD i 0=r:=by rw[List.getD_eq_getElem?_getD,cQ];rfl
  have hml:((st.map mY).take i++st.drop i).length=st.length:=by simp;omega
  have Lr:((st.map mY).take i++st.drop i)[i]? =some x:=by rw[aCn _ st hlt];exact hx
  have hin:bT ((st.map mY).take i++st.drop i).length (i:Int)=true:=by rw[hml];exact decide_eq_true (by omega)
  have Be:mB (nC s ((st.map mY).take i++st.drop i)) (i:Int)=some (iP r x):=by
   rw[aFV,if_pos hin,Int.toNat_natCast,hrd,List.getD_eq_getElem?_getD,Lr];rfl
  have lE:nR (nC s ((st.map mY).take i++st.drop i)) (i:Int) (iP r (mY x))=nC s ((st.map mY).take (i+1)++st.drop (i+1)):=by
   rw[aCl hrd (by omega),aCm mY st hx]
  refine aDJ 1 rfl ?_;dsimp only[List.set];refine aA ?_;refine Yq (kt:=3) (et:=261) (kd:=.i64) (z:=iP 0 ⟨0,false,false⟩) (l:=nC s ((st.map mY).take i++st.drop i)) true (by kernel_rfl) (by kernel_rfl) aGb rfl rfl (fun w1 t=>t.map (i:=0) rfl) (by decide) ?_;simp only[if_true,Be,Option.getD_some,Option.isSome_some];obtain⟨left,held,wanted⟩:=x;dsimp only at hlx;dsimp only[iP];refine aA ?_;refine cE fun g1=>?_;cases held
  ·have hsame:mY ⟨left,false,wanted⟩=⟨left,false,wanted⟩:=rfl
   rw[aMP mY st hx hsame];refine aA ?_;refine aT [1,2,3,4] rfl (by decide) (fun _ h=>h) ?_;refine Rv 1 rfl ?_;exact eP (st.length - (i+1)) ⟨i+1,n,A,k,xs,hlt,by omega,rfl,rfl,rfl,rfl⟩
  ·refine aA ?_;refine aG rfl (fun hp=>?_) (fun hp=>?_)
   ·have sL:mY ⟨left,true,wanted⟩=⟨left - 1,true,wanted⟩:=by simp[mY,hp]
    rw[sL] at lE;refine aA ?_;refine qP 6 (by kernel_rfl) (by kernel_rfl) ?_;refine bQ 0 ?_;refine bQ 1 ?_;refine bQ 2 ?_;refine bQ 3 ?_;refine bQ 4 ?_;refine bQ 5 ?_;refine cJ 6 ?_;refine Ho (kt:=3) (et:=261) (kd:=.i64) (l:=nC s ((st.map mY).take i++st.drop i)) (v:=iP r ⟨left - 1,true,wanted⟩) 1 (by kernel_rfl) (by kernel_rfl) rfl rfl rfl rfl ?_;rw[lE];dsimp only[List.set];refine eR ?_;refine kK ?_;refine aA ?_;refine aT [1,2,3,4] rfl (by decide) (fun _ h=>h) ?_;refine Rv 1 rfl ?_;exact eP (st.length - (i+1)) ⟨i+1,n,A,k,xs,hlt,by omega,rfl,rfl,rfl,rfl⟩
   ·cases wanted
    ·have sL:mY ⟨left,true,false⟩=⟨left,true,false⟩:=by simp[mY,hp]
     rw[sL] at lE;refine aA ?_;refine qP 6 (by kernel_rfl) (by kernel_rfl) ?_;refine bQ 0 ?_;refine bQ 1 ?_;refine bQ 2 ?_;refine bQ 3 ?_;refine bQ 4 ?_;refine bQ 5 ?_;refine cJ 6 ?_;refine Ho (kt:=3) (et:=261) (kd:=.i64) (l:=nC s ((st.map mY).take i++st.drop i)) (v:=iP r ⟨left,true,false⟩) 1 (by kernel_rfl) (by kernel_rfl) rfl rfl rfl rfl ?_;rw[lE];dsimp only[List.set];refine eR ?_;refine kK ?_;refine aA ?_;refine aT [1,2,3,4] rfl (by decide) (fun _ h=>h) ?_;refine Rv 1 rfl ?_;exact eP (st.length - (i+1)) ⟨i+1,n,A,k,xs,hlt,by omega,rfl,rfl,rfl,rfl⟩
    ·have sL:mY ⟨left,true,true⟩=⟨left,false,false⟩:=by simp[mY,hp]
     rw[sL] at lE;refine aA ?_;refine eK fun g2=>?_;refine iF 4 1 8 1 (el:=3) (by kernel_rfl) (by kernel_rfl) (by decide) rfl rfl rfl (mO 0 rfl rfl) (by simp[Value.oneCell']) rfl (by omega) (by omega) (by decide) fun A' k'=>?_;dsimp only[List.set];refine aA ?_;refine qP 6 (by kernel_rfl) (by kernel_rfl) ?_;refine bQ 0 ?_;refine bQ 1 ?_;refine bQ 2 ?_;refine bQ 3 ?_;refine bQ 4 ?_;refine bQ 5 ?_;refine cJ 6 ?_;refine Ho (kt:=3) (et:=261) (kd:=.i64) (l:=nC s ((st.map mY).take i++st.drop i)) (v:=iP r ⟨left,false,false⟩) 2 (by kernel_rfl) (by kernel_rfl) rfl rfl rfl rfl ?_;rw[lE];dsimp only[List.set];refine eR ?_;refine kK ?_;refine aA ?_;refine aT [2,3,4,5] rfl (by decide) (fun _ h=>h) ?_;refine Rv 1 rfl ?_;exact eP (st.length - (i+1)) ⟨i+1,n+1,A',k',_,hlt,by omega,rfl,rfl,rfl,rfl⟩
 ·obtain rfl:i=st.length:=by omega
  have vI:(st.map mY).take st.length++st.drop st.length=Ht st:=by
   rw[List.drop_eq_nil_of_le (by omega),List.append_nil,List.take_of_length_le (by simp)];rfl
  rw[vI];refine aA ?_;exact mI rfl rfl fun w1 t=>⟨(A,n,k),rfl,trivial,t.turns hF (by simp) (i:=1) rfl⟩
end
section
section
variable{N:bY}{w0 w:World}{e:Env}{R:List Piece}{H:List HP}{K:Act→World→Prop}{L:HL}{s:aC}{x:aR}
theorem pQ(i:Nat){o:Nat}{v:Value}(hi:H[i]? =some (dL L s x))(hv:(Vr L s.aD.length)[o]? =some v):Rd w0 R H L.h o v:=fun w t=>by
 obtain⟨F,⟨G,g1,g2,_⟩,h2,_⟩:=t.chunk hi
 have:=(uL (g1 0 _ rfl).2).at_ (j:=o) hv
 rw[Nat.zero_add] at this;exact this.2
end
variable(L:HL)(s:aC)(x:aR)(w:World)
theorem aGB(hH:s.dH)(aQ:gA L s)(hok:cX s x)(i:Int)(on:Bool)(F:Nat→Prop)(hp:(dL L s x).sat F w)(hF:∀b,F b→b < w.heap.size):
  Cz 178 #[.pointer (some ⟨L.h,0,none⟩),iv i,.bool on] w (Wr (iv (lK s x.ck i on).1) (dL L s {x with ck:=(lK s x.ck i on).2}) w F):=by
 have sO:=hH.t.nd
 refine cT func178 ntmps178 hp hF ?_;refine aA ?_;refine aV (fun w1 t=>Bh L s x w1 (t.mG 0 rfl aQ hok)) ?_;refine aA ?_;refine kd (bJ rfl (pQ 0 rfl rfl)) ?_;refine aA ?_;refine aY 0 1 ?_;refine bX 0 (pM L.T s (lK s x.ck i on).2) (fun w1 F1 t h1 h2 h3=>aQq L.T s x.ck aQ.fa hok.ck i on w1 F1 h1 h2) ?_;refine aA ?_;refine aJ 0 1 ?_;exact bP 0 hF
theorem aG6(hH:s.dH)(aQ:gA L s)(hok:cX s x)(i:Int)(F:Nat→Prop)(hp:(dL L s x).sat F w)(hF:∀b,F b→b < w.heap.size):
  Cz 173 #[.pointer (some ⟨L.h,0,none⟩),iv i] w (Wr (iv (uW s x.dm i).1) (dL L s {x with dm:=(uW s x.dm i).2}) w F):=by
 have sO:=hH.t.nd
 refine cT func173 ntmps173 hp hF ?_;refine aA ?_;refine aV (fun w1 t=>Bh L s x w1 (t.mG 0 rfl aQ hok)) ?_;refine aA ?_;refine kd (bJ rfl (pQ 0 rfl rfl)) ?_;refine aA ?_;refine aY 0 2 ?_;refine bX 0 (uR L.G s (uW s x.dm i).2) (fun w1 F1 t h1 h2 h3=>aLD L.G s x.dm hH hok.dm i w1 F1 h1 h2) ?_;refine aA ?_;refine aJ 0 2 ?_;exact bP 0 hF
theorem aNP(hH:s.dH)(aQ:gA L s)(hok:cX s x)(i:Int)(keep:Bool)(F:Nat→Prop)(hp:(dL L s x).sat F w)(hF:∀b,F b→b < w.heap.size):
  Cz 177 #[.pointer (some ⟨L.h,0,none⟩),iv i,.bool keep] w (Wr (iv (xM s x.dm i keep).1) (dL L s {x with dm:=(xM s x.dm i keep).2}) w F):=by
 have sO:=hH.t.nd
 refine cT func177 ntmps177 hp hF ?_;refine aA ?_;refine aV (fun w1 t=>Bh L s x w1 (t.mG 0 rfl aQ hok)) ?_;refine aA ?_;refine kd (bJ rfl (pQ 0 rfl rfl)) ?_;refine aA ?_;refine aY 0 2 ?_;refine bX 0 (uR L.G s (xM s x.dm i keep).2) (fun w1 F1 t h1 h2 h3=>aLI L.G s x.dm hok.dm (by omega) i keep w1 F1 h1 h2) ?_;refine aA ?_;refine aJ 0 2 ?_;exact bP 0 hF
theorem aNM(hH:s.dH)(aQ:gA L s)(hok:cX s x)(i:Int)(F:Nat→Prop)(hp:(dL L s x).sat F w)(hF:∀b,F b→b < w.heap.size):
  Cz 181 #[.pointer (some ⟨L.h,0,none⟩),iv i] w (Wr (iv (wT x.ln i).1) (dL L s {x with ln:=(wT x.ln i).2}) w F):=by
 have sO:=hH.t.nd
 refine cT func181 ntmps181 hp hF ?_;refine aA ?_;refine aV (fun w1 t=>Bh L s x w1 (t.mG 0 rfl aQ hok)) ?_;refine aA ?_;refine kd (bJ rfl (pQ 0 rfl rfl)) ?_;refine aA ?_;refine aY 0 3 ?_;refine bX 0 (oQ L.R s (wT x.ln i).2) (fun w1 F1 t h1 h2 h3=>aKL L.R s x.ln hok.ln i w1 F1 h1 h2) ?_;refine aA ?_;refine aJ 0 3 ?_;exact bP 0 hF
end
section
def aAS(a b:Int):Int:=IntKind.u32.wrap (BitVec.ofInt 32 a&&& BitVec.ofInt 32 b).toNat
def Bz(a b:Int):Int:=IntKind.u32.wrap (BitVec.ofInt 32 a&&& ~~~ BitVec.ofInt 32 b).toNat
def Az(a b:Int):Int:=IntKind.u32.wrap (BitVec.ofInt 32 a||| BitVec.ofInt 32 b).toNat
theorem Nx(a:Int):0≤IntKind.u32.wrap a∧IntKind.u32.wrap a < 4294967296:=by
 unfold IntKind.wrap;simp only[IntKind.signed,IntKind.bits,Bool.false_and,Bool.false_eq_true,if_false];exact⟨Int.emod_nonneg _ (by decide),Int.emod_lt_of_pos _ (by decide)⟩
def vD(many at':Int):Int:=IntKind.u32.wrap (IntKind.u64.wrap (IntKind.u64.wrap (IntKind.u64.wrap (1*2 ^ min many.toNat 64) - 1)*2 ^ min at'.toNat 64))
def cK(w low many:Int):Int:=aAS (w.fdiv (2 ^ min low.toNat 32)) (vD many 0)
def wU(w low many v:Int):Int×Int:=if Bz v (vD many 0)≠0 then(0,1) else(Az (Bz w (vD many low)) (IntKind.u32.wrap (v*2 ^ min low.toNat 32)),0)
def fV(w low many v:Int):Int×Int:=if v < 0∨IntKind.i64.wrap (1*2 ^ min many.toNat 64)≤v then(0,1) else if(wU w low many (IntKind.u32.wrap v)).2≠0 then(0,1) else((wU w low many (IntKind.u32.wrap v)).1,0)
def okF(low many:Int):Prop:=1≤many∧many≤32∧0≤low∧low≤32 - many
def aEk(many:Int)(v:Value)(w w':World):Prop:=∃g,v=.tuple #[.func (.func 217) #[] #[pt g],.bool true]∧RP (fresh w w') g 0 (iv many)
theorem aDi(a many:Int)(g:Nat)(w:World)(h:fS w g 0 (iv many))(ha:0≤a)(hm:0≤many):
  Cz 217 #[iv a,pt g] w (Rt (.int .u32 (vD many a)) w):=by
 refine aN func217 ntmps217 ?_;refine aB ?_;refine Nt rfl rfl (by omega) rfl (by decide) ?_;refine Yn rfl rfl rfl (by decide) ?_;refine dN rfl (by decide) ?_;refine Nt rfl rfl (by omega) rfl (by decide) ?_;refine Cl (kd:=.u32) (ds:=.int .u64) (by kernel_rfl) (by kernel_rfl) rfl rfl (by decide) ?_;refine aB ?_;exact aP (h:=fun _ _=>rfl)
theorem aGZ(low many:Int)(w:World)(hok:okF low many):Cz 199 #[iv low,iv many] w (fun y w'=>(∃x,y=.returned x∧aEk many x w w')∧Below w.heap.size w w'):=by
 refine aN func199 ntmps199 ?_;refine aA ?_;refine bN fun g1=>?_;refine aA ?_
 (first | refine bZ (t:=8) rfl (fun hg=>?_) (fun hg=>?_) | refine qD (t:=8) rfl (fun hg=>?_) (fun hg=>?_))
 ·
  refine aA ?_;exact absurd hok (by unfold okF;omega)
 ·
  refine aA ?_
  (first | refine bZ (t:=12) rfl (fun hg=>?_) (fun hg=>?_) | refine qD (t:=12) rfl (fun hg=>?_) (fun hg=>?_))
  ·
   refine aA ?_;exact absurd hok (by unfold okF;omega)
  ·
   refine aA ?_
   (first | refine bZ (t:=16) rfl (fun hg=>?_) (fun hg=>?_) | refine qD (t:=16) rfl (fun hg=>?_) (fun hg=>?_))
   ·
    refine aA ?_;exact absurd hok (by unfold okF;omega)
   ·
    refine aA ?_;refine aG rfl (fun h=>?_) (fun h=>?_)
    ·
     refine aA ?_;exact absurd hok (by unfold okF;omega)
    ·
     refine aA ?_;refine jY (vf:=[]) (vc:=[pt g1]) rfl rfl (by decide) ?_;refine aA ?_;refine dG [] [0] [] (by simp) rfl (by decide) (by decide) fun q hq _ hfr=>?_;refine fQ rfl rfl rfl fun w1 st=>⟨⟨_,rfl,g1,rfl,(rP (o:=0) (v:=iv many) (hq 0 _ (by simp) rfl) rfl).le (st.mT (by simp) (hfr (by simp) (by simp)))⟩,st.below (by simp)⟩
theorem aGI(w0 low many:Int)(w:World)(hok:okF low many):
  Cz 169 #[.int .u32 w0,iv low,iv many] w (Rt (.tuple #[.int .u32 (cK w0 low many),iv 0]) w):=by
 refine aN func169 ntmps169 ?_;refine aB ?_;refine kA [] (aEk many) (fun w1 st=>aGZ low many w1 hok) ?_;rintro _ w1 q1 ⟨g,rfl,cR⟩ hf _ _
 have cR:=cR.le hf
 clear hf;refine dN rfl (by decide) ?_;refine Yr rfl rfl (by decide) ?_;refine Yr rfl rfl (by decide) ?_;refine jO rfl (by decide) ?_;refine jO rfl (by decide) ?_;refine fC ?_;refine dX ?_;refine dX ?_;refine fR ?_;refine dN rfl (by decide) ?_
 (first | refine aEz rfl (by decide) ?_ | refine Em rfl (by decide) ?_)
 refine fC ?_;refine pL rfl (fun h=>?_) (fun h=>?_)
 ·
  refine aB ?_;exact absurd h (by simp)
 ·
  refine oG ?_;refine eI ?_;refine dX ?_;refine qP 5 (by kernel_rfl) (by kernel_rfl) ?_;refine fY 0 rfl rfl rfl (lP rfl) ?_;refine fY 1 rfl rfl rfl (lP rfl) ?_;refine fY 2 rfl rfl rfl (aHo rfl rfl (by unfold okF at hok;omega) rfl) ?_;refine fY 3 rfl rfl rfl (lP rfl) ?_;refine cJ 4 ?_;refine yH (f:=217) (fi:=[]) (ca:=[pt g]) (by kernel_rfl) rfl rfl (by decide) (fun w1 st=>aDi 0 many g w1 (cR.le (st.le (by simp))) (by unfold okF at hok;omega) (by unfold okF at hok;omega)) ?_;refine mW ?_;refine cJ 5 ?_;refine Sr (c:=cK w0 low many) rfl rfl (fun _=>rfl) (by simp) (by decide) ?_;refine eR ?_;refine cJ 6 ?_;refine jO rfl (by decide) ?_;refine eR ?_;refine cJ 7 ?_;refine jO rfl (by decide) ?_;refine eR ?_;refine kK ?_;refine eI ?_;refine Ro ?_;refine eI ?_;exact fQ rfl rfl rfl fun w1 st=>⟨rfl,st.below (by simp)⟩
theorem aBU(w0 low many v:Int)(w:World)(hok:okF low many):
  Cz 167 #[.int .u32 w0,iv low,iv many,.int .u32 v] w (Rt (.tuple #[.int .u32 (wU w0 low many v).1,iv (wU w0 low many v).2]) w):=by
 refine aN func167 ntmps167 ?_;refine aB ?_;refine kA [] (aEk many) (fun w1 st=>aGZ low many w1 hok) ?_;rintro _ w1 q1 ⟨g,rfl,cR⟩ hf _ _
 have cR:=cR.le hf
 clear hf;refine dN rfl (by decide) ?_;refine Yr rfl rfl (by decide) ?_;refine Yr rfl rfl (by decide) ?_;refine jO rfl (by decide) ?_;refine jO rfl (by decide) ?_;refine fC ?_;refine dX ?_;refine dX ?_;refine fR ?_;refine dN rfl (by decide) ?_
 (first | refine aEz rfl (by decide) ?_ | refine Em rfl (by decide) ?_)
 refine fC ?_;refine pL rfl (fun h=>?_) (fun h=>?_)
 ·
  refine aB ?_;exact absurd h (by simp)
 ·
  refine aB ?_;refine yH (f:=217) (fi:=[]) (ca:=[pt g]) (by kernel_rfl) rfl rfl (by decide) (fun w1 st=>aDi 0 many g w1 (cR.le (st.le (by simp))) (by unfold okF at hok;omega) (by unfold okF at hok;omega)) ?_;refine Sr (c:=Bz v (vD many 0)) rfl rfl (fun _=>rfl) (by simp) (by decide) ?_;refine aB ?_;refine aG rfl (fun h=>?_) (fun h=>?_)
  ·
   refine aB ?_;refine fQ rfl rfl rfl fun w1 st=>⟨by rw[wU,if_pos h],st.below (by simp)⟩
  ·
   refine oG ?_;refine eI ?_;refine dX ?_;refine qP 8 (by kernel_rfl) (by kernel_rfl) ?_;refine fY 0 rfl rfl rfl (lP rfl) ?_;refine fY 1 rfl rfl rfl (lP rfl) ?_;refine fY 2 rfl rfl rfl (lP rfl) ?_;refine fY 5 rfl rfl rfl (lP rfl) ?_;refine fY 6 rfl rfl rfl (lP rfl) ?_;refine fY 7 rfl rfl rfl (aP0 rfl rfl (by unfold okF at hok;omega) rfl) ?_;refine cJ 3 ?_;refine yH (f:=217) (fi:=[]) (ca:=[pt g]) (by kernel_rfl) rfl rfl (by decide) (fun w1 st=>aDi low many g w1 (cR.le (st.le (by simp))) (by unfold okF at hok;omega) (by unfold okF at hok;omega)) ?_;refine mW ?_;refine fY 4 rfl rfl rfl (aHv (c:=Bz w0 (vD many low)) rfl rfl (fun _=>rfl) (by simp)) ?_;refine cJ 8 ?_;refine Sr (c:=Az (Bz w0 (vD many low)) (IntKind.u32.wrap (v*2 ^ min low.toNat 32))) rfl rfl (fun _=>rfl) (by simp) (by decide) ?_;refine eR ?_;refine cJ 9 ?_;refine jO rfl (by decide) ?_;refine eR ?_;refine cJ 10 ?_;refine jO rfl (by decide) ?_;refine eR ?_;refine kK ?_;refine eI ?_;refine Ro ?_;refine eI ?_;refine fQ rfl rfl rfl fun w1 st=>⟨by rw[wU,if_neg h],st.below (by simp)⟩
theorem Ty(w0 low many:Int)(w:World)(hok:okF low many):
  Cz 129 #[.int .u32 w0,iv low,iv many] w (Rt (iv (cK w0 low many)) w):=by
 refine aN func129 ntmps129 ?_;refine aA ?_;refine dF (fun w1 st=>aGI w0 low many w1 hok) ?_;refine aA ?_;refine Cl (ds:=.int .u32) (by kernel_rfl) (by kernel_rfl) rfl (iU (by have:=Nx (BitVec.ofInt 32 (w0.fdiv (2 ^ min low.toNat 32))&&& BitVec.ofInt 32 (vD many 0)).toNat;unfold cK aAS;omega)) (by decide) ?_;refine aA ?_;exact aP (h:=fun _ _=>rfl)
theorem Zq(w0 low many v:Int)(w:World)(hok:okF low many):
  Cz 109 #[.int .u32 w0,iv low,iv many,iv v] w (Rt (.tuple #[.int .u32 (fV w0 low many v).1,iv (fV w0 low many v).2]) w):=by
 refine aN func109 ntmps109 ?_;refine aB ?_
 (first | refine bZ (t:=13) rfl (fun hg=>?_) (fun hg=>?_) | refine qD (t:=13) rfl (fun hg=>?_) (fun hg=>?_))
 ·
  refine aB ?_;refine fQ rfl rfl rfl fun w1 st=>⟨by rw[fV,if_pos (.inl hg)],st.below (by simp)⟩
 ·
  refine jB rfl rfl ?_;refine dN rfl (by decide) ?_;refine jB rfl rfl ?_;refine dN rfl (by decide) ?_;refine jB rfl rfl ?_;refine Nt rfl rfl (by unfold okF at hok;omega) rfl (by decide) ?_;refine aB ?_;refine aG rfl (fun h=>?_) (fun h=>?_)
  ·
   refine aB ?_;refine fQ rfl rfl rfl fun w1 st=>⟨by rw[fV,if_pos (.inr h)],st.below (by simp)⟩
  ·
   refine oG ?_
   have hno:¬(v < 0∨IntKind.i64.wrap (1*2 ^ min many.toNat 64)≤v):=fun h2=>h2.elim hg h
   refine eI ?_;refine dX ?_;refine fR ?_;refine dN rfl (by decide) ?_;refine dN rfl (by decide) ?_;refine dN rfl (by decide) ?_;refine dN rfl (by decide) ?_;refine Cl (kd:=.u32) (ds:=.int .i64) (by kernel_rfl) (by kernel_rfl) rfl rfl (by decide) ?_;refine dF (fun w1 st=>aBU w0 low many (IntKind.u32.wrap v) w1 hok) ?_;refine aB ?_;refine aG rfl (fun h2=>?_) (fun h2=>?_)
   ·
    refine aB ?_;refine fQ rfl rfl rfl fun w1 st=>⟨by rw[fV,if_neg hno,if_pos h2],st.below (by simp)⟩
   ·
    refine aB ?_;refine fQ rfl rfl rfl fun w1 st=>⟨by rw[fV,if_neg hno,if_neg h2];rfl,st.below (by simp)⟩
end
section
def Wx(aZ:Int)(i:Nat):Bool:=decide (aAS (aZ.fdiv (2 ^ min i 32)) 1=1)
def Cy(x:aR)(aZ:Int)(n:Nat):List (dS×fE):=x.dv.mapIdx fun i p=>if i < n then(p.1,yL p.2 (decide (0 < oX x.wt i)) (Wx aZ i)) else p
def Gl(k:Int)(d:cG)(f:dS):dS:=if k=115 then uZ d f else if k=114 then Hy d f else if k=108∨k=110 then Dz d f else f
def Gm(s:aC)(e:Int×Nat)(i:Nat)(p:dS×fE):dS×fE:=match s.aD[i]? with
 | some d=>if d.domain=(e.2:Int) then(Gl e.1 d p.1,p.2) else p
 | none=>p
def Da(s:aC)(dv:List (dS×fE))(e:Int×Nat)(n:Nat):List (dS×fE):=dv.mapIdx fun i p=>if i < n then Gm s e i p else p
def uI(s:aC)(dv:List (dS×fE))(e:Int×Nat):List (dS×fE):=Da s dv e s.aD.length
def Ny(s:aC)(x:aR)(aZ:Int):aR:=⟨mM s x.ck,pT x.dm,Ht x.ln,(kO x.dm s.domains.length).foldl (uI s) (Cy x aZ s.aD.length),x.wt,x.aU⟩
theorem Ou{α:Type}(l:List α)(f:Nat→α→α):(l.mapIdx fun i p=>if i < 0 then f i p else p)=l:=by
 refine List.ext_getElem? fun i=>?_;simp
theorem Ov{α:Type}{l:List α}{f:Nat→α→α}{n:Nat}{p:α}(hp:l[n]? =some p):(l.mapIdx fun i p=>if i < n then f i p else p).set n (f n p)=l.mapIdx fun i p=>if i < n+1 then f i p else p:=by
 refine List.ext_getElem? fun i=>?_
 have hlt:=(List.getElem?_eq_some_iff.1 hp).1
 rw[List.getElem?_set]
 by_cases he:n=i
 ·subst he;rw[if_pos rfl,if_pos (by simpa using hlt),List.getElem?_mapIdx,hp];simp
 ·rw[if_neg he,List.getElem?_mapIdx,List.getElem?_mapIdx];cases l[i]? with
  | none=>rfl
  | some q=>
   simp only[Option.map_some,Option.some.injEq]
   by_cases h:i < n
   ·rw[if_pos h,if_pos (by omega)]
   ·rw[if_neg h,if_neg (by omega)]
theorem Ow{α:Type}{l:List α}{f:Nat→α→α}{n:Nat}{p:α}(hp:l[n]? =some p):(l.mapIdx fun i p=>if i < n then f i p else p)[n]? =some p:=by
 rw[List.getElem?_mapIdx,hp];simp
theorem aAB{ds:List cG}{ls:List (FL×Nat)}{xs:List (dS×fE)}{i:Nat}{d:cG}{l:FL×Nat}{p:dS×fE}(hd:ds[i]? =some d)(hl:ls[i]? =some l)(hp:xs[i]? =some p):(xL ds ls xs)[i]? =some (Qo d (l,p)):=by
 have hq:(ls.zip xs)[i]? =some (l,p):=List.getElem?_zip_eq_some.2 ⟨hl,hp⟩
 rw[xL,List.getElem?_zipWith,hd,hq]
theorem aPj{ds:List cG}{ls:List (FL×Nat)}{xs:List (dS×fE)}{i:Nat}{d:cG}{l:FL×Nat}{p:dS×fE}(hd:ds[i]? =some d)(hl:ls[i]? =some l)(hp:xs[i]? =some p)(p':dS×fE):(xL ds ls xs).set i (Qo d (l,p'))=xL ds ls (xs.set i p'):=by
 refine List.ext_getElem? fun j=>?_
 have hlt:=(List.getElem?_eq_some_iff.1 (aAB hd hl hp)).1
 rw[List.getElem?_set]
 by_cases he:i=j
 ·subst he;rw[if_pos rfl,if_pos hlt];exact(aAB hd hl (List.getElem?_set_self (List.getElem?_eq_some_iff.1 hp).1)).symm
 ·rw[if_neg he];simp only[xL,List.getElem?_zipWith,List.zip,List.getElem?_set_ne he]
theorem aDk{ds:List cG}{ls:List (FL×Nat)}{i:Nat}{d:cG}{l:FL×Nat}(hd:ds[i]? =some d)(hl:ls[i]? =some l):(vL ds ls)[i]? =some (Jd d l):=by
 rw[vL,List.getElem?_zipWith,hd,hl]
theorem aDj{ds:List cG}{ls:List (FL×Nat)}:∀r∈vL ds ls,r.length=6:=fun r hr=>by
 obtain⟨i,hi⟩:=List.getElem?_of_mem hr;rw[vL,List.getElem?_zipWith] at hi;split at hi
 ·cases hi;rfl
 ·cases hi
theorem aJR{x:fE}(h:zP x)(a b:Bool):zP (yL x a b):=by
 unfold yL;unfold zP at h⊢;split
 ·exact h
 ·split
  ·exact⟨(by show(0:Int)≤3;omega),(by show(3:Int)≤3;omega)⟩
  ·split
   ·exact h
   ·exact⟨(by show(0:Int)≤2;omega),(by show(2:Int)≤3;omega)⟩
theorem aK2{r:Rg}{p:Int×Int}(h1:0≤p.1∧p.1 < 4294967296)(h2:0≤p.2∧p.2 < 4294967296):0≤Kr r p∧Kr r p < 4294967296:=by
 unfold Kr;split<;>assumption
theorem aHy{d:cG}{f:dS}(k:Int)(hr:∀r∈d.aS,0≤r.reset∧r.reset≤6)(h:yB d f):yB d (Gl k d f):=by
 have hres:∀v∈d.aS.map (·.reset),0≤v∧v < 4294967296:=fun v hv=>by
  obtain⟨r,dQ,rfl⟩:=List.mem_map.1 hv
  have:=hr r dQ
  omega
 have h1:=h.now
 have h2:=h.saved
 unfold Gl;split
 ·refine⟨h1,by simp[uZ];omega,h.u.1,fun v hv=>?_⟩;obtain⟨i,hi⟩:=List.getElem?_of_mem hv;simp only[uZ,List.getElem?_zipWith] at hi;split at hi
  ·rename_i r p dQ gF
   cases hi;obtain⟨Lo,hp3⟩:=List.getElem?_zip_eq_some.1 gF;exact aK2 (h.u.1 _ (List.mem_of_getElem? Lo)) (h.u.2 _ (List.mem_of_getElem? hp3))
  ·cases hi
 ·split
  ·refine⟨by simp[Hy];omega,h2,fun v hv=>?_,h.u.2⟩;obtain⟨i,hi⟩:=List.getElem?_of_mem hv;simp only[Hy,List.getElem?_zipWith] at hi;split at hi
   ·rename_i r p dQ gF
    cases hi;unfold Zk;split
    ·exact h.u.2 _ (List.mem_of_getElem? gF)
    ·have:=hr r (List.mem_of_getElem? dQ)
     omega
   ·cases hi
  ·split
   ·exact⟨by simp[Dz],h2,hres,h.u.2⟩
   ·exact h
theorem Ua{s:aC}{x:aR}(hH:s.dH)(hok:cX s x){dv:List (dS×fE)}(hl:dv.length=x.dv.length)(h:∀(i:Nat) (d:cG) (p:dS×fE),s.aD[i]? =some d→dv[i]? =some p→yB d p.1∧zP p.2):cX s {x with dv:=dv}:=⟨hok.ck,hok.dm,hok.ln,hl.trans hok.dv,h,hok.wt⟩
theorem aCo{s:aC}{x:aR}(hH:s.dH)(hok:cX s x)(aZ:Int)(n:Nat):cX s {x with dv:=Cy x aZ n}:=Ua hH hok (by simp[Cy]) fun i d p hd hp=>by
 rw[Cy,List.getElem?_mapIdx] at hp;cases hq:x.dv[i]? with
 | none=>rw[hq] at hp;cases hp
 | some q=>
  rw[hq] at hp;obtain⟨h1,h2⟩:=hok.each i d q hd hq;simp only[Option.map_some,Option.some.injEq] at hp;subst hp;split
  ·exact⟨h1,aJR h2 _ _⟩
  ·exact⟨h1,h2⟩
theorem aFT{s:aC}{x:aR}(hH:s.dH)(hok:cX s x)(e:Int×Nat)(n:Nat):cX s {x with dv:=Da s x.dv e n}:=Ua hH hok (by simp[Da]) fun i d p hd hp=>by
 rw[Da,List.getElem?_mapIdx] at hp;cases hq:x.dv[i]? with
 | none=>rw[hq] at hp;cases hp
 | some q =>
  rw[hq] at hp;obtain⟨h1,h2⟩:=hok.each i d q hd hq;simp only[Option.map_some,Option.some.injEq] at hp;subst hp;split
  ·unfold Gm;rw[hd];dsimp only;split
   ·exact⟨aHy _ (hH.t.aD i d hd).2.2.2.2.2.2.2.2.2.1 h1,h2⟩
   ·exact⟨h1,h2⟩
  ·exact⟨h1,h2⟩
theorem aDb{s:aC}(hH:s.dH):∀(es:List (Int×Nat)) (x:aR),cX s x→cX s {x with dv:=es.foldl (uI s) x.dv}
 | [],x,h=>h
 | e::es,x,h=>aDb hH es {x with dv:=uI s x.dv e} (aFT hH h e _)
theorem aM7{s:aC}{dv:List (dS×fE)}{e:Int×Nat}(h:¬(e.1=115∨e.1=114∨e.1=108∨e.1=110)):uI s dv e=dv:=by
 unfold uI Da;refine List.ext_getElem? fun i=>?_;rw[List.getElem?_mapIdx];cases dv[i]? with
 | none=>rfl
 | some p =>
  simp only[Option.map_some,Option.some.injEq];split
  ·unfold Gm;split
   ·split
    ·have:Gl e.1 (by assumption) p.1=p.1:=by
      unfold Gl;rw[if_neg (by omega),if_neg (by omega),if_neg (by omega)]
     rw[this]
    ·rfl
   ·rfl
  ·rfl
theorem aJS{s:aC}{st:List jW}(h:Ei s st):Ei s (Ht st):=by
 refine⟨by simp[Ht,h.len],fun x hx=>?_⟩;obtain⟨y,hy,rfl⟩:=List.mem_map.1 hx
 have:=h.left y hy
 unfold mY;split
 ·exact this
 ·split
  ·dsimp only;omega
  ·split
   ·exact this
   ·exact this
theorem aJQ{s:aC}{x:aR}(hH:s.dH)(hok:cX s x)(aZ:Int):cX s (Ny s x aZ):=by
 have h1:=aDb hH (kO x.dm s.domains.length) _ (aCo hH hok aZ s.aD.length)
 exact⟨aBH hH hok.ck,aBG hok.dm,aJS hok.ln,h1.dv,h1.each,hok.wt⟩
section
variable{N:bY}{w0 w:World}{e:Env}{R:List Piece}{H:List HP}{K:Act→World→Prop}{L:HL}{s:aC}{x:aR}
def aGA(L:HL)(s:aC)(x:aR):HP:=HP.many [HP.aE L.h 203 (Vr L s.aD.length),pM L.T s x.ck,uR L.G s x.dm,oQ L.R s x.ln,yE L.B (jR s) x.wt x.aU,HP.own 210 6 (.slice L.A s.aD.length L.c) s.aD.length (vL s.aD L.ds).flatten,cF]
def aHi(L:HL)(s:aC)(x:aR)(i:Nat):HP:=HP.many ((xL s.aD L.ds x.dv).set i cF)
theorem Rp(j i:Nat){d:cG}{l:FL×Nat}{p:dS×fE}(hj:H[j]? =some (dL L s x))(hd:s.aD[i]? =some d)(hl:L.ds[i]? =some l)(hp:x.dv[i]? =some p)
  (k:XK N w0 K e R (HP.many [gR l.1 d p.1,tF l.2 p.2]::aHi L s x i::H.set j (aGA L s x))):XK N w0 K e R H:=by
 refine qM j 6 hj rfl ?_;refine qM 0 i rfl (aAB hd hl hp) ?_;exact k
theorem Rw(j i:Nat){d:cG}{l:FL×Nat}{p p':dS×fE}(hj:H[j]? =some (aGA L s x))(hd:s.aD[i]? =some d)(hl:L.ds[i]? =some l)(hp:x.dv[i]? =some p)
  (k:XK N w0 K e R (H.set j (dL L s {x with dv:=x.dv.set i p'}))):XK N w0 K e R (HP.many [gR l.1 d p'.1,tF l.2 p'.2]::aHi L s x i::H):=by
 have hlt:=(List.getElem?_eq_some_iff.1 (aAB hd hl hp)).1
 refine qO 0 i rfl (by rw[List.getElem?_set_self (by simpa using hlt)]) ?_;dsimp only[List.set];refine qO j 6 hj rfl ?_;rw[List.set_set,show HP.many [gR l.1 d p'.1,tF l.2 p'.2]=Qo d (l,p') from rfl,aPj hd hl hp p'];exact k
theorem Mv(j:Nat)(hj:H[j]? =some (dL L s x))(aQ:gA L s)(hok:cX s x)(hn:0 < s.aD.length)(k:∀b off,L.A=some ⟨b,off,none⟩→XK N w0 K e R H):XK N w0 K e R H:=fun a w hr st=>by
 obtain⟨b,off,hA,_⟩:=(st.mG j hj aQ hok).rows.2 hn;exact k b off hA a w hr st
theorem aO.dev(j:Nat){i b off o:Nat}{d:cG}{l:FL×Nat}(hj:H[j]? =some (dL L s x))(aQ:gA L s)(hok:cX s x)(hA:L.A=some ⟨b,off,none⟩)(hd:s.aD[i]? =some d)(hl:L.ds[i]? =some l)(ho:o=off+i*6):aO w0 R H b o (Jd d l):=.of fun k v hv w st=>by
 obtain⟨b',off',pX,hr⟩:=aI.row (st.mG j hj aQ hok).rows (rows:=vL s.aD L.ds) (fun r hr=>aDj r hr) (aDk hd hl) (List.getElem?_eq_some_iff.1 hd).1;rw[hA] at pX;cases pX;subst ho;exact(hr.2 k v hv)
end
end
section
section
variable{P:Program}{N:bY}{w0:World}{e:Env}{R:List Piece}{H:List HP}{Q:Exit→Act→World→Prop}{ops:Array Oper}{rest:List Oper}
variable{d:Nat}{ty:TypeId}{pos:String}{aH:Array Edge}
theorem wA{α:Type}(i:Nat){f:FuncId}{x:Operand}{args:List Operand}{fi ca vs:List Value}{tys:Array TypeId}{p:HP}(v:α→Value)(q:α→HP)(G:α→Prop)(hf:eY P f=true)(hx:e.ev x=some (.func (.func f) fi.toArray ca.toArray))(ha:e.fL args=some vs)(hi:H[i]? =some p)(hd:d < N.n)
  (hc:∀w F,St w0 R H w→p.sat F w→(∀b,F b→b < w.heap.size)→(∀q∈R,q.Le ⟨w,fun b=>b < w.heap.size∧¬F b⟩)→Calls P f (fi++vs++ca).toArray w fun y w'=>∃a,y=.returned (v a)∧G a∧∃F',(q a).sat F' w'∧iC w w' F F')
  (k:∀a,G a→XK N w0 (wpList P ops Q rest) ((d,v a)::e) R (H.set i (q a))):XK N w0 (wpList P ops Q (⟨some d,.call {callee:=.value x,args:=args.toArray,argTypes:=tys},ty,pos,aH,none⟩::rest)) e R H:=fun a w hr st=>wpList_plain rfl fun K hK=>by
 unfold eY at hf;cases hq:P.funcs[f]? with
 | none=>simp[hq] at hf
 | some fn =>
  simp[hq] at hf;obtain⟨gH,mS⟩:=hf
  have hrun:(execOp a.eval (⟨some d,.call {callee:=.value x,args:=args.toArray,argTypes:=tys},ty,pos,aH,none⟩:Oper)).run P w=.ok (.enter f (fi++vs++ca).toArray) w:=by
   cases hb:fn.body with
   | none=>simp[hb] at mS
   | some c=>simp[execOp,resolve,hr.ev hx,Deferred.ofValue,invoke,callFunc,hq,gH,hb,hr.fL ha]
  obtain⟨F,hp,hlt,hle,lE⟩:=st.chunk hi;unfold Oper.wp;rw[hrun];refine(hc w F st hp hlt hle).mono fun y w' hy=>?_;obtain⟨a',rfl,hG,F',hs,ht⟩:=hy;exact hK _ _ (k a' hG _ _ (hr.put hd (v a')) (lE w' F' (q a') hs ht))
end
end
section
section
variable{P:Program}{N:bY}{w0:World}{e:Env}{R:List Piece}{H:List HP}{d:Nat}{ty:TypeId}{pos:String}{aH:Array Edge}
def aGK(P:Program)(t:TypeId):Bool:=match P.underlying t with
 | some (.func ..)=>true
 | _=>false
theorem aKF(w:World)(n:Nat)(t:TypeId){f1 f2:Array TypeId}{f3:Bool}(hu:P.underlying t=some (.func f1 f2 f3)):(Op.equalIn (n+1) t .nilFunc .nilFunc).run P w=.ok true w:=by simp[Op.equalIn,run_underlying hu]
theorem aKH(w:World)(n:Nat)(t:TypeId){f1 f2:Array TypeId}{f3:Bool}(f:Fn)(fi ca:Array Value)(hu:P.underlying t=some (.func f1 f2 f3)):(Op.equalIn (n+1) t (.func f fi ca) .nilFunc).run P w=.ok false w:=by simp[Op.equalIn,run_underlying hu]
theorem aHu{x:Operand}{t u:TypeId}{v:Value}{b:Bool}(hx:e.ev x=some v)(hv:(v=.nilFunc∧b=true)∨(∃f a c,v=.func f a c)∧b=false)(ht:aGK P t=true:=by kernel_rfl):bR P N w0 e R H ⟨some d,.binOp .eql t x (.const .nilFunc) u,ty,pos,aH,none⟩ (.bool b):=gT fun a w hr=>by
 have h2:=hr.ev (show e.ev (.const .nilFunc)=some .nilFunc from rfl)
 unfold aGK at ht;split at ht
 ·rename_i f1 f2 f3 hu
  rcases hv with⟨rfl,rfl⟩ | ⟨⟨f,fi,ca,rfl⟩,rfl⟩
  ·have h4:(Op.equal t .nilFunc .nilFunc).run P w=.ok true w:=aKF w 9999 t hu
   simp[execOp,hr.ev hx,h2,eqGuard,binOp,h4]
  ·have h4:(Op.equal t (.func f fi ca) .nilFunc).run P w=.ok false w:=aKH w 9999 t f fi ca hu
   simp[execOp,hr.ev hx,h2,eqGuard,binOp,h4]
 ·cases ht
end
def Gk(k:Int):Value:=if k=115 then .func (.func 195) #[] #[] else if k=114 then .func (.func 196) #[] #[] else if k=108∨k=110 then .func (.func 160) #[] #[] else .nilFunc
theorem aNQ(k:Int)(w:World):Cz 156 #[.int .u8 k] w (Rt (Gk k) w):=by
 refine aN func156 ntmps156 ?_;refine aA ?_;refine aG rfl (fun h1=>?_) (fun h1=>?_)
 ·refine aA ?_;exact dI (by rw[Gk,if_pos h1])
 refine aA ?_;refine aG rfl (fun h2=>?_) (fun h2=>?_)
 ·refine aA ?_;exact dI (by rw[Gk,if_neg h1,if_pos h2])
 refine aA ?_;refine aG rfl (fun h3=>?_) (fun h3=>?_)
 ·refine aA ?_;refine aG rfl (fun _=>?_) (fun h=>absurd h3 h);refine aA ?_;exact dI (by rw[Gk,if_neg h1,if_neg h2,if_pos (.inl h3)])
 ·refine aA ?_;refine aG rfl (fun h4=>?_) (fun h4=>?_)
  ·refine aA ?_;exact dI (by rw[Gk,if_neg h1,if_neg h2,if_pos (.inr h4)])
  ·refine aA ?_;exact dI (by rw[Gk,if_neg h1,if_neg h2,if_neg (by omega)])
theorem aPT{k:Int}(hk:k=115∨k=114∨k=108∨k=110):∃f:FuncId,Gk k=.func (.func f) #[] #[]∧eY Tryz.prog f=true∧∀(L:FL) (d:cG) (x:dS) (hrl:d.aS.length≤100) (hok:yB d x) (w:World) (F:Nat→Prop) (hp:(gR L d x).sat F w) (hF:∀b,F b→b < w.heap.size),
  Cz f #[.pointer (some ⟨L.f,0,none⟩)] w (Wr (.tuple #[]) (gR L d (Gl k d x)) w F):=by
 rcases hk with rfl | rfl | rfl | rfl
 ·exact⟨_,rfl,(by kernel_rfl),aLp⟩
 ·exact⟨_,rfl,(by kernel_rfl),aLq⟩
 ·exact⟨_,rfl,(by kernel_rfl),Zm⟩
 ·exact⟨_,rfl,(by kernel_rfl),Zm⟩
theorem aQL(L:BL)(ms:List Int)(ws:List (Option iZ))(aU:Int)(i:Nat)(hi:i < ms.length)(h0:oX ws i=0)(w:World)(hR:Hl w L ms ws aU):
  Cz 190 #[.pointer (some ⟨L.b,0,none⟩),iv (i:Int)] w (Rt (.tuple #[.agg #[iv 0,.bool false,iv 0,.int .u32 0],.bool false]) w):=by
 have k1:=hR.r0.at_ (j:=1) rfl
 obtain⟨A,c,k2⟩:=hR.wt i hi;rw[h0] at k2
 have hin:bT ms.length (i:Int)=true:=decide_eq_true (by omega)
 refine aN func190 ntmps190 ?_;refine aA ?_;refine cE fun g1=>?_;refine aA ?_;refine aV (fun w1 t=>aAN L ms ws aU i w1 (hR.below (t.below (by simp)))) ?_;rw[hin];refine aB ?_;exact zG (vs:=[iv 0,.bool false,iv 0,.int .u32 0]) rfl (by kernel_rfl) rfl rfl (aO.whole 0 rfl) rfl fun w1 t=>⟨rfl,t.below (by simp)⟩
theorem aNT(L:HL)(s:aC)(x:aR)(i:Nat)(hi:i < s.aD.length)(h0:oX x.wt i=0)(w:World)(hR:tH w L s x):
  Cz 151 #[.pointer (some ⟨L.h,0,none⟩),iv (i:Int)] w (Rt (.tuple #[.agg #[iv 0,iv 0,.bool false,.int .u32 0],.bool false]) w):=by
 have k3:=hR.r0.at_ (j:=3) rfl
 refine aN func151 ntmps151 ?_;refine aA ?_;refine cE fun g1=>?_;refine aA ?_;refine aV (fun w1 t=>aQL L.B (jR s) x.wt x.aU i (by rw[Fh];exact hi) h0 w1 (hR.bus.below (t.below (by simp)))) ?_;refine aA ?_;refine cE fun g2=>?_;refine aB ?_;exact zG (vs:=[iv 0,iv 0,.bool false,.int .u32 0]) rfl (by kernel_rfl) rfl rfl (aO.whole 1 rfl) rfl fun w1 t=>⟨rfl,t.below (by simp)⟩
end
section
section
variable{P:Program}{ops:Array Oper}{Q:Exit→Act→World→Prop}{N:bY}{w0:World}{e e':Env}{R R':List Piece}{H H':List HP}{rest:List Oper}{d:Nat}{ty:TypeId}{pos:String}{aH:Array Edge}
def isIface(P:Program)(t:TypeId):Bool:=match P.underlying t with
 | some (.interface _)=>true
 | _=>false
def aFI(P:Program)(t:TypeId):Bool:=match P.underlying t with
 | some (.interface _)=>false
 | some _=>true
 | none=>false
theorem Qs{x:Operand}{t:TypeId}{v:Value}(hx:e.ev x=some v)(ht:aFI P t=true:=by kernel_rfl):bR P N w0 e R H ⟨some d,.makeInterface t x,ty,pos,aH,none⟩ (.iface t v):=gT fun a w hr=>by
 unfold aFI at ht;cases hu:P.underlying t with
 | none=>rw[hu] at ht;cases ht
 | some u=>cases u<;>first | (rw[hu] at ht;cases ht;done) | simp[execOp,hr.ev hx,Instr.makeInterface,run_underlying hu]
theorem aKG(w:World)(n:Nat)(t:TypeId){f:Array (String×TypeId)}(hu:P.underlying t=some (.interface f)):(Op.equalIn (n+1) t .nilIface .nilIface).run P w=.ok true w:=by simp[Op.equalIn,run_underlying hu]
theorem aKE(w:World)(n:Nat)(t:TypeId){f:Array (String×TypeId)}(u:TypeId)(v:Value)(hu:P.underlying t=some (.interface f)):(Op.equalIn (n+1) t (.iface u v) .nilIface).run P w=.ok false w:=by simp[Op.equalIn,run_underlying hu]
theorem aHs{x:Operand}{t u:TypeId}{v:Value}{b:Bool}(hx:e.ev x=some v)(hv:(v=.nilIface∧b=true)∨(∃u y,v=.iface u y)∧b=false)(ht:isIface P t=true:=by kernel_rfl):bR P N w0 e R H ⟨some d,.binOp .eql t x (.const .nilIface) u,ty,pos,aH,none⟩ (.bool b):=gT fun a w hr=>by
 have h2:=hr.ev (show e.ev (.const .nilIface)=some .nilIface from rfl)
 unfold isIface at ht;split at ht
 ·rename_i f1 hu
  rcases hv with⟨rfl,rfl⟩ | ⟨⟨u,y,rfl⟩,rfl⟩
  ·have h4:(Op.equal t .nilIface .nilIface).run P w=.ok true w:=aKG w 9999 t hu
   simp[execOp,hr.ev hx,h2,eqGuard,binOp,h4]
  ·have h4:(Op.equal t (.iface u y) .nilIface).run P w=.ok false w:=aKE w 9999 t u y hu
   simp[execOp,hr.ev hx,h2,eqGuard,binOp,h4]
 ·cases ht
theorem aJk(i:Nat){dst:Option Nat}{e':Env}{f:FuncId}{x:Operand}{name:String}{args:List Operand}{vs:List Value}{tys:Array TypeId}{tx:TypeId}{u u':Value}{p:HP}{v:Value}(q:HP)(hf:eY P f=true)(hx:e.ev x=some (.iface tx u))(hm:∀w,(method (P.types.size+Made.depth) tx u name).run P w=.ok (f,u') w)(ha:e.fL args=some vs)(hi:H[i]? =some p)
  (hd:match dst with | some d=>d < N.n∧e'=(d,v)::e | none=>e'=e)
  (hc:∀w F,St w0 R H w→p.sat F w→(∀b,F b→b < w.heap.size)→(∀q∈R,q.Le ⟨w,fun b=>b < w.heap.size∧¬F b⟩)→Calls P f (u'::vs).toArray w fun y w'=>y=.returned v∧∃F',q.sat F' w'∧iC w w' F F')
  (k:XK N w0 (wpList P ops Q rest) e' R (H.set i q)):XK N w0 (wpList P ops Q (⟨dst,.call {callee:=.invoke x name,args:=args.toArray,argTypes:=tys},ty,pos,aH,none⟩::rest)) e R H:=fun a w hr st=>wpList_plain rfl fun K hK=>by
 unfold eY at hf;cases hq:P.funcs[f]? with
 | none=>simp[hq] at hf
 | some fn =>
  simp[hq] at hf;obtain⟨gH,mS⟩:=hf
  have hrun:(execOp a.eval (⟨dst,.call {callee:=.invoke x name,args:=args.toArray,argTypes:=tys},ty,pos,aH,none⟩:Oper)).run P w=.ok (.enter f (u'::vs).toArray) w:=by
   cases hb:fn.body with
   | none=>simp[hb] at mS
   | some c=>
    have h0:(#[Value.iface tx u]++(args.toArray.map a.eval))[0]? =some (.iface tx u):=by simp[Array.getElem?_append]
    simp[execOp,resolve,hr.ev hx,invoke,callMethod,hm,callFunc,hq,gH,hb,hr.fL ha]
  obtain⟨Z,F,hz,cQ,hs,cY,eD⟩:=st.ex;unfold Oper.wp;rw[hrun];refine(hc w (F i) st (hs i p hi) (fun b hb=>(cY i b hb).2) (fun q hq b hb=>⟨⟨hz b (cQ q hq b hb).1,fun oA=>(cY i b oA).1 (cQ q hq b hb).1⟩,(cQ q hq b hb).2⟩)).mono fun y w' ⟨hy,F',nS,ht⟩=>?_;subst hy
  have st':St w0 R (H.set i q) w':=by
   have hlt:i < H.length:=by
    rcases Nat.lt_or_ge i H.length with h | h
    ·exact h
    ·rw[List.getElem?_eq_none h] at hi;cases hi
   refine⟨ht.os.trans st.os,ht.tape.trans st.tape,ht.output.trans st.output,Nat.le_trans st.size ht.size,Z,fun j=>if j=i then F' else F j,fun b h=>Nat.lt_of_lt_of_le (hz b h) ht.size,fun p hp b h=>?_,fun j r hj=>?_,fun j b h=>?_,fun j k b kH h=>?_⟩
   ·exact⟨(cQ p hp b h).1,(ht.old b (hz b (cQ p hp b h).1) (fun oA=>(cY i b oA).1 (cQ p hp b h).1)).trans (cQ p hp b h).2⟩
   ·rw[List.getElem?_set] at hj;split at hj
    ·rename_i e;subst e
     first | (rw[if_pos hlt] at hj;cases hj) | cases hj
     simpa using nS
    ·rename_i e
     simp only[if_neg (Ne.symm e)];exact r.loc _ _ _ (hs j r hj) (fun b hb=>ht.old b (cY j b hb).2 (eD j i b (Ne.symm e) hb))
   ·dsimp only at h;split at h
    ·refine⟨fun eX=>?_,(ht.new b h).2⟩;rcases(ht.new b h).1 with h | h
     ·exact(cY i b h).1 eX
     ·have:=hz b eX;omega
    ·exact⟨(cY j b h).1,Nat.lt_of_lt_of_le (cY j b h).2 ht.size⟩
   ·dsimp only at h⊢;split at h<;>split
    ·rename_i h1 h2;omega
    ·rename_i e1 e2
     intro hk;rcases(ht.new b h).1 with h | h
     ·exact eD i k b (by omega) h hk
     ·have:=(cY k b hk).2;omega
    ·rename_i e1 e2
     intro hk;rcases(ht.new b hk).1 with hk | hk
     ·exact eD j i b (by omega) h hk
     ·have:=(cY j b h).2;omega
    ·exact eD j k b kH h
  cases dst with
  | none=>dsimp only at hd;subst hd;exact hK _ _ (k _ _ hr st')
  | some d=>dsimp only at hd;obtain⟨hd,rfl⟩:=hd;exact hK _ _ (k _ _ (hr.put hd v) st')
end
end
section
open Go.RowKit Go.Shelf
attribute [local go_sem] Oper.semAt_some
def eA(zs:List Int):List Value:=zs.map (Value.int .u32)
end
section
section
variable{P:Program}{N:bY}{w0:World}{e:Env}{R:List Piece}{H:List HP}{Q:Exit→Act→World→Prop}{ops:Array Oper}{rest:List Oper}
variable{d:Nat}{ty:TypeId}{pos:String}{aH:Array Edge}
theorem aES{t el:TypeId}(ht:P.underlying t=some (.slice el)):P.underlying t=some (.slice (P.elem t)):=by
 unfold Program.elem;rw[ht]
theorem elem_eq{t el:TypeId}(ht:P.underlying t=some (.slice el)):P.elem t=el:=by unfold Program.elem;rw[ht]
theorem aK5{t el:TypeId}{sz n c k:Nat}{A:Option Addr}{kd:IntKind}(ht:P.underlying t=some (.slice el))(hsz:(P.info? el).map (·.size)=some sz)(hk:k≤c)(w:World):
  ∃A',(0 < k→(∃b off,A=some ⟨b,off,none⟩)→A'=A)∧(Instr.sliceAt t (.slice A n c) none (some (.int kd (k:Int))) none).run P w=.ok (.slice A' k c) w:=by
 obtain⟨i,hi,hs⟩:=Option.map_eq_some_iff.1 hsz
 have hel:=elem_eq ht
 refine⟨_,?_,by rw[run_sliceAt_slice w t _ _ _ _ (aES ht),run_slice_h w t A n c (aES ht) kd k (by omega) (by omega),hel];simp[sizeOf,typeInfo,hi,sliced];rfl⟩;rintro h0 ⟨b,off,rfl⟩;split
 ·rfl
 ·simp[Addr.add]
theorem aIZ(k:Nat){x hi:Operand}{t el:TypeId}{sz n c:Nat}{A:Option Addr}{kd:IntKind}{j:Int}(ht:P.underlying t=some (.slice el))(hsz:(P.info? el).map (·.size)=some sz)(hx:e.ev x=some (.slice A n c))(hh:e.ev hi=some (.int kd j))(hj:j=(k:Int))(hk:k≤c)(hd:d < N.n)
  (kk:∀A',(0 < k→(∃b off,A=some ⟨b,off,none⟩)→A'=A)→XK N w0 (wpList P ops Q rest) ((d,.slice A' k c)::e) R H):XK N w0 (wpList P ops Q (⟨some d,.slice t x none (some hi) none,ty,pos,aH,none⟩::rest)) e R H:=
 rW rfl fun a w hr st=>by
  subst hj;obtain⟨A',h1,h2⟩:=aK5 (P:=P) (kd:=kd) ht hsz hk w (n:=n) (A:=A);exact⟨_,w,by simp only[execOp,hr.ev hx,Option.map_some,Option.map_none,hr.ev hh,Sem.run_bind,h2,Result.andThen_ok,Sem.run_pure],kk A' h1 _ _ (hr.put hd _) st⟩
end
theorem aI.aJW{p:Piece}{sz n k:Nat}{A A':Option Addr}{xs:List Value}(h:aI p sz A n xs)(hk:k≤n)(hA:0 < k→(∃b off,A=some ⟨b,off,none⟩)→A'=A):aI p sz A' k (xs.take (k*sz)):=by
 refine⟨by rw[List.length_take,h.1];exact Nat.min_eq_left (Nat.mul_le_mul_right _ hk),fun h0=>?_⟩;obtain⟨b,off,Qd,hz,hc⟩:=h.2 (by omega);refine⟨b,off,by rw[hA h0 ⟨b,off,Qd⟩,Qd],hz,fun j u hu=>hc j u ?_⟩;rw[List.getElem?_take] at hu;split at hu
 ·exact hu
 ·cases hu
def jH(l:List (Int×Int))(k:Int):Int:=((l.find? fun p=>decide (p.1=k)).map (·.2)).getD 0
def Aj:List (Int×Int)→Int→Int→List (Int×Int)
 | [],k,v=>[(k,v)]
 | (a,b)::r,k,v=>if a=k then(k,v)::r else(a,b)::Aj r k v
def vM(l:List (Int×Int)):List (Int×Value):=l.map fun p=>(p.1,iv p.2)
theorem aFW:∀(l:List (Int×Int)) (k:Int),(mB (vM l) k).getD (iv 0)=iv (jH l k)
 | [],k=>rfl
 | (a, b) :: l, k => by
  have ih:=aFW l k
  show(mB ((a,iv b)::vM l) k).getD _=_
  rw[Ot];unfold jH;rw[List.find?_cons]
  by_cases h:a=k
  ·simp[h]
  ·simp only[h,if_false,decide_false,Bool.false_eq_true];exact ih
theorem aFQ:∀(l:List (Int×Int)) (k v:Int),nR (vM l) k (iv v)=vM (Aj l k v)
 | [],k,v=>rfl
 | (a,b)::l,k,v=>by
  show nR ((a,iv b)::vM l) k _=vM (if a=k then _ else _)
  unfold nR
  by_cases h:a=k
  ·rw[if_pos h,if_pos h];rfl
  ·rw[if_neg h,if_neg h,aFQ l k v];rfl
end
section
structure Cn where
 l:List (Int×Int)
 lS:Bool
def rJ(nd:Nat)(c:Cn)(dev:Int):Int×Cn:=if c.lS then(6,c) else if ¬(0≤dev∧dev < nd) then(4,c) else if 7≤jH c.l dev then(8,c) else(0,⟨Aj c.l dev (IntKind.i64.wrap (jH c.l dev+1)),c.lS⟩)
def uJ(nd:Nat)(c:Cn)(dev:Int):Int×Cn:=if c.lS then(6,c) else if ¬(0≤dev∧dev < nd) then(4,c) else if jH c.l dev≤0 then(6,c) else(0,⟨Aj c.l dev (IntKind.i64.wrap (jH c.l dev - 1)),c.lS⟩)
def xQ(c:Cn):Int×Cn:=if c.lS then(6,c) else(0,⟨c.l,true⟩)
def xR(c:Cn):Int×Cn:=if c.lS then(0,⟨c.l,false⟩) else(6,c)
def qU(gc gm:Nat)(v:Value)(c:Cn):HP:=HP.many [HP.aE gc 277 [v,.map (some gm),.bool c.lS],HP.map gm (vM c.l)]
section
variable{N:bY}{w0:World}{e:Env}{R:List Piece}{H:List HP}{Q:Exit→Act→World→Prop}{ops:Array Oper}{rest:List Oper}{d:Nat}{ty:TypeId}{pos:String}{aH:Array Edge}
theorem Uh{x y:Operand}(i:Nat){r:Nat}{l:List (Int×Int)}{k:Int}(hi:H[i]? =some (HP.map r (vM l)))(kk:XK N w0 (wpList Tryz.prog ops Q rest) ((d,iv (jH l k))::e) R H)(hx:e.ev x=some (.map (some r)):=by rfl)(hy:e.ev y=some (iv k):=by rfl)(hd:d < N.n:=by decide):
  XK N w0 (wpList Tryz.prog ops Q (⟨some d,.lookup 275 x y false,ty,pos,aH,none⟩::rest)) e R H:=by
 refine Yq (kt:=3) (et:=3) (kd:=.i64) (z:=iv 0) (l:=vM l) false (by kernel_rfl) (by kernel_rfl) (by kernel_rfl) hx hy (fun w1 st=>st.map hi) hd ?_;simp only[Bool.false_eq_true,if_false,aFW];exact kk
theorem aGe{x y u:Operand}(i:Nat){r:Nat}{l:List (Int×Int)}{k v:Int}(hi:H[i]? =some (HP.map r (vM l)))(kk:XK N w0 (wpList Tryz.prog ops Q rest) e R (H.set i (HP.map r (vM (Aj l k v)))))(hx:e.ev x=some (.map (some r)):=by rfl)(hy:e.ev y=some (iv k):=by rfl)(hu:e.ev u=some (iv v):=by rfl):
  XK N w0 (wpList Tryz.prog ops Q (⟨none,.mapUpdate 275 x y u,ty,pos,aH,none⟩::rest)) e R H:=by
 refine Ho (kt:=3) (et:=3) (kd:=.i64) (l:=vM l) i (by kernel_rfl) (by kernel_rfl) hi hx hy hu ?_;rw[aFQ];exact kk
end
theorem aH2(gc n k:Nat)(A:Option Addr)(dev:Int)(w:World)(h0:fS w gc 0 (.slice A n k)):
  Cz 245 #[pt gc,iv dev] w (Rt (.bool (bT n dev)) w):=by
 refine aN func245 ntmps245 ?_;refine aA ?_;refine bZ (t:=7) rfl (fun h=>?_) (fun h=>?_)
 ·refine aA ?_;refine jJ (by simp) ?_;unfold bT
  congr 1
  simp;omega
 ·refine aA ?_;refine jJ (by simp) ?_
  have:bT n dev=false:=decide_eq_false (by omega)
  rw[this]
section
variable(gc gm n k:Nat)(A:Option Addr)(c:Cn)(w:World)(F:Nat→Prop)
theorem aQf(dev:Int)(hp:(qU gc gm (.slice A n k) c).sat F w)(hF:∀b,F b→b < w.heap.size):
  Cz 243 #[pt gc,iv dev] w (Wr (iv (rJ n c dev).1) (qU gc gm (.slice A n k) (rJ n c dev).2) w F):=by
 refine cT func243 ntmps243 hp hF ?_;obtain⟨l,lS⟩:=c;unfold qU rJ;dsimp only;refine aY 0 0 ?_;refine aY 1 1 ?_;cases lS
 ·refine aA ?_;refine aV (fun w1 t=>aH2 gc n k A dev w1 ((uL (t.aE (i:=1) rfl)).at_ (j:=0) rfl)) ?_
  by_cases hin:0≤dev∧dev < (n:Int)
  ·rw[show bT n dev=true from decide_eq_true hin,if_neg (by simp),if_neg (by simpa using hin)];refine aA ?_;refine Uh 0 rfl ?_;refine eI ?_;refine aA ?_;refine aG rfl (fun h7=>?_) (fun h7=>?_)
   ·rw[if_pos (by omega)];refine aA ?_;refine aJ 1 1 ?_;refine aJ 0 0 ?_;exact bP 0 hF
   ·rw[if_neg (by omega)];refine aA ?_;refine Uh 0 rfl ?_;refine kd (Mn rfl rfl rfl) ?_;refine aGe 0 rfl ?_;dsimp only[List.set];refine aA ?_;refine aJ 1 1 ?_;refine aJ 0 0 ?_;exact bP 0 hF
  ·rw[show bT n dev=false from decide_eq_false hin,if_neg (by simp),if_pos (by simpa using hin)];refine aA ?_;refine aJ 1 1 ?_;refine aJ 0 0 ?_;exact bP 0 hF
 ·rw[if_pos rfl];refine aA ?_;refine aJ 1 1 ?_;refine aJ 0 0 ?_;exact bP 0 hF
theorem aQd(dev:Int)(hp:(qU gc gm (.slice A n k) c).sat F w)(hF:∀b,F b→b < w.heap.size):
  Cz 264 #[pt gc,iv dev] w (Wr (iv (uJ n c dev).1) (qU gc gm (.slice A n k) (uJ n c dev).2) w F):=by
 refine cT func264 ntmps264 hp hF ?_;obtain⟨l,lS⟩:=c;unfold qU uJ;dsimp only;refine aY 0 0 ?_;refine aY 1 1 ?_;cases lS
 ·refine aA ?_;refine aV (fun w1 t=>aH2 gc n k A dev w1 ((uL (t.aE (i:=1) rfl)).at_ (j:=0) rfl)) ?_
  by_cases hin:0≤dev∧dev < (n:Int)
  ·rw[show bT n dev=true from decide_eq_true hin,if_neg (by simp),if_neg (by simpa using hin)];refine aA ?_;refine Uh 0 rfl ?_;refine eI ?_;refine aA ?_;refine aG rfl (fun h7=>?_) (fun h7=>?_)
   ·rw[if_pos (by omega)];refine aA ?_;refine aJ 1 1 ?_;refine aJ 0 0 ?_;exact bP 0 hF
   ·rw[if_neg (by omega)];refine aA ?_;refine Uh 0 rfl ?_;refine kd (Ml rfl rfl rfl) ?_;refine aGe 0 rfl ?_;dsimp only[List.set];refine aA ?_;refine aJ 1 1 ?_;refine aJ 0 0 ?_;exact bP 0 hF
  ·rw[show bT n dev=false from decide_eq_false hin,if_neg (by simp),if_pos (by simpa using hin)];refine aA ?_;refine aJ 1 1 ?_;refine aJ 0 0 ?_;exact bP 0 hF
 ·rw[if_pos rfl];refine aA ?_;refine aJ 1 1 ?_;refine aJ 0 0 ?_;exact bP 0 hF
theorem aQb(hp:(qU gc gm (.slice A n k) c).sat F w)(hF:∀b,F b→b < w.heap.size):
  Cz 272 #[pt gc] w (Wr (iv (xQ c).1) (qU gc gm (.slice A n k) (xQ c).2) w F):=by
 refine cT func272 ntmps272 hp hF ?_;obtain⟨l,lS⟩:=c;unfold qU xQ;dsimp only;refine aY 0 0 ?_;cases lS
 ·refine aA ?_;refine aJ 0 0 ?_;exact bP 0 hF
 ·refine aA ?_;refine aJ 0 0 ?_;exact bP 0 hF
theorem aQc(hp:(qU gc gm (.slice A n k) c).sat F w)(hF:∀b,F b→b < w.heap.size):
  Cz 274 #[pt gc] w (Wr (iv (xR c).1) (qU gc gm (.slice A n k) (xR c).2) w F):=by
 refine cT func274 ntmps274 hp hF ?_;obtain⟨l,lS⟩:=c;unfold qU xR;dsimp only;refine aY 0 0 ?_;cases lS
 ·refine aA ?_;refine aJ 0 0 ?_;exact bP 0 hF
 ·refine aA ?_;refine aJ 0 0 ?_;exact bP 0 hF
end
theorem aQg(gc:Nat)(b:Bool)(w:World)(h2:fS w gc 2 (.bool b)):Cz 239 #[pt gc] w (Rt (.bool b) w):=by
 refine aN func239 ntmps239 ?_;refine aA ?_;exact dI
end
section
theorem aRc{P:Program}{w:World}{t ty e:TypeId}{i:TypeInfo}(ht:P.underlying t=some (.slice e))(hi:P.info? e=some i)(A:Option Addr)(x:Value){m c:Nat}{B:Option Addr}(hx:x=.slice B m c)(hm:0 < m)(hb:m*i.bytes≤140737488355328):
  (Builtin.append_ #[t,t] ty #[.slice A 0 0,x]).run P w=(Builtin.append_ #[t,t] ty #[sn,x]).run P w:=by
 subst hx
 have h0:¬0+m≤0:=by omega
 have hn:Builtin.nextslicecap (0+m) 0=m:=by
  unfold Builtin.nextslicecap;rw[Nat.zero_add];simp;omega
 have hcap:¬(Builtin.nextslicecap (0+m) 0*i.bytes>2 ^ 48):=by
  rw[hn];omega
 have hm0:¬m=0:=by omega
 have nE:¬(281474976710656 < Builtin.nextslicecap m 0*i.bytes):=by
  rw[←Nat.zero_add m]
  simpa using hcap
 cases A with
 | none=>rfl
 | some a=>simp[Builtin.append_,run_underlying ht,sizeOf,typeInfo,hi,Builtin.lenOf,Builtin.firstCells,h0,hcap,hm0,nE,loadCells,loadCellsFrom]
section
variable{P:Program}{ops:Array Oper}{Q:Exit→Act→World→Prop}{N:bY}{w0:World}{e e':Env}{R R':List Piece}{H H':List HP}{rest:List Oper}{d:Nat}{ty:TypeId}{pos:String}{aH:Array Edge}
theorem aJr(sz bytes m:Nat){x y:Operand}{t el:TypeId}{c':Nat}{A0 A:Option Addr}{news:List Value}(ht:P.underlying t=some (.slice el))(hT:(P.info? el).map (fun i=>(i.zero.map (fun z=>z.cells.size),i.size,i.bytes))=some (some sz,sz,bytes))(hpos:0 < sz)
  (hx:e.ev x=some (.slice A0 0 0)) (hy:e.ev y=some (.slice A m c')) (hs:∀w,St w0 R H w→∃B,Sl w B sz A m news) (h1:∀u∈news,u.oneCell'=true) (hm:0 < m) (h63:(m:Int)≤9223372036854775807) (hbytes:m*bytes≤140737488355328) (hd:d < N.n)
  (k:∀A' k',XK N w0 (wpList P ops Q rest) ((d,.slice A' m k')::e) R (HP.own el sz (.slice A' m k') m news::H)):
  XK N w0 (wpList P ops Q (⟨some d,.call {callee:=.builtin .append,args:=#[x,y],argTypes:=#[t,t]},ty,pos,aH,none⟩::rest)) e R H:=by
 obtain⟨ti,z,Pj,hz,hsz,hby,hzs⟩:=aC6 hT;refine rW rfl fun a w hr st=>?_;obtain⟨B,rB⟩:=hs w st;obtain⟨v',w',hrun,h2,h3,h4⟩:=aFl (P:=P) w w.heap.size t ty el ti z sz bytes ht Pj hz hsz hby hzs hpos (sn) 0 [] (World.ownsRow_nil _ _ _ _) B A m c' news rB h1 (by unfold maxLen;omega) (by simpa using hbytes) (Nat.le_refl _);rw[Nat.zero_add,List.nil_append] at h2;obtain⟨A',k',rfl,_⟩:=aFA h2;rw[←aRc ht Pj A0 (.slice A m c') rfl hm (by rw[hby];exact hbytes)] at hrun
 have hb:Below w.heap.size w w':=⟨h3.os,h3.tape,h3.output,h3.size,fun b hb=>h3.block b hb (fun he=>by cases he)⟩
 refine⟨_,w',by simp only[execOp,resolve,invoke,builtin,hr.ev hx,hr.ev hy,List.map_toArray,List.map_cons,List.map_nil,Sem.run_bind,Sem.run_pure,Result.andThen_ok,hrun],k A' k' _ _ (hr.put hd _) (st.new hb ⟨fun g hg=>?_,?_⟩)⟩
 ·have:=h2.lt _ hg
  exact this
 ·exact⟨h2.1,h2.2.imp id fun⟨g,cap,cur,e1,_,e3⟩=>⟨g,cap,cur,e1,Nat.zero_le _,e3⟩⟩
end
section
variable{N:bY}{w0:World}{e:Env}{R:List Piece}{H:List HP}{d:Nat}{ty:TypeId}{pos:String}{aH:Array Edge}
theorem aPz{x lo hi mx:Operand}{t el:TypeId}{A:Option Addr}{n c l h m sz:Nat}{kl kh km:IntKind}[hT:lB t el sz](hx:e.ev x=some (.slice A n c))(hl:e.ev lo=some (.int kl (l:Int)))(hh:e.ev hi=some (.int kh (h:Int)))(hm:e.ev mx=some (.int km (m:Int)))(h1:l≤h)(h2:h≤m)(h3:m≤c):
  bR Tryz.prog N w0 e R H ⟨some d,.slice t x (some lo) (some hi) (some mx),ty,pos,aH,none⟩ (.slice (if m=l then A else A.map (·.add (l*sz))) (h - l) (m - l)):=gT fun a w hr=>by
 obtain⟨i0,nT,hz⟩:=Option.map_eq_some_iff.1 hT.s;simp[execOp,hr.ev hx,hr.ev hl,hr.ev hh,hr.ev hm,Instr.sliceAt,Instr.slice,Instr.sliceBounds,run_sliceBound,run_underlying hT.h,sizeOf,typeInfo,nT,hz,h1,h2,h3]
theorem aHn{x lo:Operand}{t el:TypeId}{A:Option Addr}{n c l sz:Nat}{kl:IntKind}[hT:lB t el sz](hx:e.ev x=some (.slice A n c))(hl:e.ev lo=some (.int kl (l:Int)))(h1:l≤n):
  bR Tryz.prog N w0 e R H ⟨some d,.slice t x (some lo) none none,ty,pos,aH,none⟩ (.slice (if c=l then A else A.map (·.add (l*sz))) (n - l) (c - l)):=gT fun a w hr=>by
 obtain⟨i0,nT,hz⟩:=Option.map_eq_some_iff.1 hT.s;simp[execOp,hr.ev hx,hr.ev hl,Instr.sliceAt,Instr.slice,Instr.sliceBounds,run_sliceBound,run_underlying hT.h,sizeOf,typeInfo,nT,hz,h1]
theorem aRG{K:Act→World→Prop}(i:Nat){n sz:Nat}{t:TypeId}{v:Value}{xs:List Value}(hi:H[i]? =some (HP.own t sz v n xs))(hn:0 < n)(h:∀g c,v=.slice (some ⟨g,0,none⟩) n c→n≤c→XK N w0 K e R H):XK N w0 K e R H:=fun a w hr st=>by
 obtain⟨_,h2⟩:=st.own hi;rcases h2 with⟨_,h3⟩ | ⟨g',cap,cur,hv,_,_,h3,_⟩
 ·omega
 ·exact h g' cap hv h3 a w hr st
theorem aRN{K:Act→World→Prop}(j i:Nat){p:Prop}{ps:List HP}(hj:H[j]? =some (HP.many ps))(hi:ps[i]? =some (Nl p))(h:p→XK N w0 K e R H):XK N w0 K e R H:=fun a w hr st=>by
 obtain⟨F,hF⟩:=(st.take hj hi).sat (i:=0) rfl;exact h hF a w hr st
end
def wL(g n:Nat)(vs:List Value)(ws:List (Option iZ)):List HP:=HP.aE g 311 vs::Nl (vs.length=n)::(List.range n).map fun i=>QH (vs.getD i undef) (ws[i]?).join
theorem aJD{g n i:Nat}{vs:List Value}{ws:List (Option iZ)}(hi:i < n):(wL g n vs ws)[i+2]? =some (QH (vs.getD i undef) (ws[i]?).join):=by
 unfold wL;rw[List.getElem?_cons_succ,List.getElem?_cons_succ,List.getElem?_map,List.getElem?_range hi];rfl
theorem aJE{g n i:Nat}{vs:List Value}{ws:List (Option iZ)}{v:Value}{q:Option iZ}(hi:i < n)(hv:vs.length=n)(hw:ws.length=n):
  (((((wL g n vs ws).set 0 cF).set (i+2) cF).set (i+2) (QH v q)).set 0 (HP.aE g 311 (vs.set i v)))=wL g n (vs.set i v) (ws.set i q):=by
 refine List.ext_getElem? fun k=>?_
 match k with
 | 0=>rfl
 | 1=>
  show some (Nl (vs.length=n))=some (Nl ((vs.set i v).length=n))
  rw[List.length_set]
 | k + 2 =>
  unfold wL;simp only[List.set_cons_zero,List.set_cons_succ,List.getElem?_cons_succ,List.set_set,List.getElem?_map];rw[List.getElem?_set]
  by_cases h:i=k
  ·subst h;rw[if_pos rfl,if_pos (by simpa using hi),List.getElem?_range hi];simp only[Option.map_some];rw[List.getD_eq_getElem?_getD,List.getElem?_set_self (by omega),List.getElem?_set_self (by omega)];rfl
  ·rw[if_neg h,List.getElem?_map];cases hr:(List.range n)[k]? with
   | none=>rfl
   | some j=>
    obtain⟨_,rfl⟩:=List.getElem?_eq_some_iff.1 hr;simp only[List.getElem_range,Option.map_some];rw[List.getD_eq_getElem?_getD,List.getD_eq_getElem?_getD,List.getElem?_set_ne h,List.getElem?_set_ne h]
section
variable{N:bY}{w0:World}{e:Env}{R:List Piece}{H:List HP}{K:Act→World→Prop}{L:BL}{ms:List Int}{ws:List (Option iZ)}{aU:Int}
def Xd(L:BL)(ms:List Int)(aU:Int):List Value:=[.slice (some ⟨L.gr,0,none⟩) ms.length ms.length,.slice (some ⟨L.gw,0,none⟩) ms.length ms.length,iv aU]
def aEH(L:BL)(ms:List Int)(ws:List (Option iZ))(vs:List Value)(i:Nat):HP:=HP.many (((wL L.gw ms.length vs ws).set 0 cF).set (i+2) cF)
theorem aIe(j i:Nat)(hj:H[j]? =some (yE L ms ws aU))(hi:i < ms.length)(h:∀vs:List Value,vs.length=ms.length→
      XK N w0 K e R (QH (vs.getD i undef) (ws[i]?).join::HP.aE L.gw 311 vs::aEH L ms ws vs i::HP.aE L.b 269 (Xd L ms aU)::H.set j (HP.many [cF,HP.aE L.gr 3 (aM ms),cF]))):XK N w0 K e R H:=by
  have hlt:=(List.getElem?_eq_some_iff.1 hj).1
  refine qM j 0 hj rfl ?_;refine qM (j+1) 2 (by rw[List.getElem?_cons_succ,List.getElem?_set_self hlt]) rfl ?_;refine aBe 0 rfl fun vs=>?_;refine aRN 0 1 rfl rfl fun hv=>?_;refine qM 0 0 rfl rfl ?_;refine qM 1 (i+2) rfl (p:=QH (vs.getD i undef) (ws[i]?).join) ?_ ?_
  · show((wL L.gw ms.length vs ws).set 0 cF)[i+2]? =_
    rw[List.getElem?_set_ne (by omega),aJD hi]
  · have h:=h vs hv
    simp only[List.set_cons_succ,List.set_cons_zero,List.set_set];exact h
theorem aIk(j i:Nat){vs:List Value}{v:Value}{q:Option iZ}(hj:H[j]? =some (HP.many [cF,HP.aE L.gr 3 (aM ms),cF]))(hi:i < ms.length)(hv:vs.length=ms.length)(hw:ws.length=ms.length)
  (h:XK N w0 K e R (H.set j (yE L ms (ws.set i q) aU))):XK N w0 K e R (QH v q::HP.aE L.gw 311 (vs.set i v)::aEH L ms ws vs i::HP.aE L.b 269 (Xd L ms aU)::H):=by
 have hlt:=(List.getElem?_eq_some_iff.1 hj).1
 have hlen:(wL L.gw ms.length vs ws).length=ms.length+2:=by simp[wL]
 refine qO 1 (i+2) rfl ?_ ?_
 ·rw[List.getElem?_set_self (by simp[hlen];omega)]
 dsimp only[List.set];refine qO 0 0 rfl ?_ ?_
 ·rw[List.set_set,List.getElem?_set_ne (by omega),List.getElem?_set_self (by simp[hlen])]
 rw[aJE hi hv hw];dsimp only[List.set];refine uM 0 (f:=fun vs:List Value=>HP.many (wL L.gw ms.length vs (ws.set i q))) (vs.set i v) rfl ?_;dsimp only[List.set];refine qO (j+1) 2 (by rw[List.getElem?_cons_succ];exact hj) rfl ?_;dsimp only[List.set];refine qO j 0 (by rw[List.getElem?_set_self hlt]) rfl ?_;rw[List.set_set];exact h
end
theorem aQK(L:BL)(ms:List Int)(ws:List (Option iZ))(aU:Int)(i:Nat)(hi:i < ms.length)(hw:ws.length=ms.length)(t:iZ)(ht:(ws[i]?).join=some t)(w:World)(F:Nat→Prop)(hp:(yE L ms ws aU).sat F w)(hF:∀b,F b→b < w.heap.size):
  Cz 190 #[.pointer (some ⟨L.b,0,none⟩),iv (i:Int)] w (Wr (.tuple #[.agg #[iv t.id,.bool t.wr,iv t.bO,.int .u32 t.val],.bool true]) (yE L ms (ws.set i none) aU) w F):=by
 have hin:bT ms.length (i:Int)=true:=decide_eq_true (by omega)
 refine cT func190 ntmps190 hp hF ?_;generalize cO:(⟨w,fun b=>b < w.heap.size∧¬F b⟩:Piece)=R0;refine aA ?_;refine cE fun g1=>?_;refine aA ?_;refine aV (fun w1 st=>aAN L ms ws aU i w1 (st.aHE 1 rfl)) ?_;rw[hin];refine aIe 1 i rfl hi fun vs hv=>?_;rw[ht];dsimp only[List.set];refine aRG 0 rfl (by decide) fun g c hg hc=>?_
 have Ul:vs[i]? =some (.slice (some ⟨g,0,none⟩) 1 c):=by
  obtain⟨v,h1⟩:=get_some (l:=vs) (i:=i) (by omega);rw[List.getD_eq_getElem?_getD,h1] at hg;rw[h1];exact congrArg some hg
 rw[hg];refine aA ?_;refine kd (dat i i) ?_;refine aA ?_;refine kd (bJ rfl (Rd.aE 1 rfl Ul)) ?_;refine aA ?_;refine kd (dat i i) ?_;refine aA ?_;refine kd (bJ rfl (Rd.aE 1 rfl Ul)) ?_;refine aA ?_;refine iY [1,2,3,7,9,10,11] ?_;refine bK 0 ?_;refine aK 1 ?_;refine aK 2 ?_;refine aK 3 ?_;refine bK 4 ?_;refine bK 5 ?_;refine bK 6 ?_;refine aK 7 ?_;refine bK 8 ?_;refine aK 9 ?_;refine aK 10 ?_ (hi:=rfl) (cN:=aPz (l:=1) (h:=1) (m:=1) rfl rfl rfl rfl (by omega) (by omega) hc);refine aK 11 ?_ (hi:=rfl) (cN:=dat i i);refine aL 12 ?_;refine eN rfl rfl ?_ (hs:=eJ.mk 1 rfl cP.h rfl (by omega));dsimp only[List.set];refine cH ?_;refine eC ?_;refine aA ?_;refine kd (dat 0 0) ?_;refine kd (jT rfl (aO.of fun j v hv=>by rw[Nat.zero_add];exact Rd.own 0 rfl hv)) ?_;refine lM 4 rfl ?_;dsimp only[List.set];refine aA ?_;refine pK (q:=QH (.slice (some ⟨g,0,none⟩) 0 0) none) 0 rfl (fun _ _ _=>⟨_,rfl⟩) ?_;refine aIk 1 i rfl hi hv hw ?_;dsimp only[List.set];subst cO;exact zG (vs:=[iv t.id,.bool t.wr,iv t.bO,.int .u32 t.val]) rfl (by kernel_rfl) rfl rfl (aO.whole 0 rfl) rfl fun w1 st=>⟨rfl,st.turns hF (by simp) (i:=1) rfl⟩
end
end Go.Proofs.YtkgekojkboingaaGreatDoor
