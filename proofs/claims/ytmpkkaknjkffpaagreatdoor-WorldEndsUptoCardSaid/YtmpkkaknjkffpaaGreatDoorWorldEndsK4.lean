/- package regs: Clear, Save, Restore, Read, Write. -/
import Derived.Test.YtmpkkaknjkffpaaGreatDoorWorldEndsK3
namespace Go.Proofs.YtmpkkaknjkffpaaGreatDoor
set_option linter.all false
set_option maxHeartbeats 4000000
set_option maxRecDepth 20000
open Go.RowKit Go.Proofs.Tryz
variable{w w0:World}{s:aG}{P:Program}{N:cO}{K:Act→World→Prop}{e e':Env}{R R':List Piece}{H H':List HP}{st:List jX}{ms:List Int}{aS:Int}{ops:Array Oper}{rest:List Oper}{d:Nat}{ty:TypeId}{pos:String}{aL:Array Edge}
theorem aOQ(w:World)(q:Piece):(⟨w,fun _=>False⟩:Piece).Le q:=fun _ h=>h.elim
theorem aQx(i:Nat)(r:Rg)(w:World):
  Cz 169 #[iv (i:Int),.agg r.cells.toArray] w (Rt (.int .u32 r.reset) w):=by
 refine aT func169 ntmps169 ?_;refine aB ?_;refine bY fun a=>?_;dsimp only[Value.cells,Rg.cells];refine aB ?_;exact dL
theorem Vc(L:FL)(d:cH)(x:dB)(c:d.aX.length≤100)(e:xE d x)(w:World)(F:Nat→Prop)(hp:(iF L d x).sat F w)(hF:∀b,F b→b < w.heap.size):
  Cz 112 #[.pointer (some ⟨L.f,0,none⟩)] w (Wr (.tuple #[]) (iF L d (Ca d x)) w F):=by
 refine dD func112 ntmps112 hp hF ?_;refine aB ?_
 refine cG 0 (iF L d ⟨d.aX.map (·.reset),x.saved,x.kept⟩) (fun j G t hG a m=>by
  have:=aEu L d x c 169 aF [] ⟨j,fun _=>False⟩ (d.aX.map (·.reset)) aD e.now (fun i r v n h l k o _ _ _=>by
   rw[List.getElem?_map,n] at h;cases h
   exact aQx i r k) j G hG a (aOQ _ _)
  exact this) ?_
 refine Sv 0 rfl ?_;dsimp only[List.set,Gf];refine aB ?_;refine Sy (x:=Ca d x) 0 rfl ?_;exact fO 0 hF
theorem aKN(L:FL)(d:cH)(x:dB)(c i:Nat)(r:Rg)(v:Int)(k:d.aX[i]? =some r)(n:x.saved[i]? =some v)(w:World)(a:Ay w L d x)(u:gG w c 0 (.pointer (some ⟨L.f,0,none⟩))):
  Cz 226 #[iv (i:Int),.agg r.cells.toArray,pt c] w (Rt (.int .u32 (Va x.kept r v)) w):=by
 have m:=(List.getElem?_eq_some_iff.1 k).1
 have e:=a.r0.at_ (j:=3) rfl
 have p:=a.r0.at_ (j:=2) rfl
 have l:=a.saved.at_ (aAn n)
 rw[Nat.zero_add] at l;obtain⟨t,o⟩:=r;cases h:x.kept
 ·rw[h] at e;refine aT func226 ntmps226 ?_;refine aB ?_;refine bY fun b=>?_;dsimp only[Value.cells,Rg.cells];refine aB ?_;exact dL
 ·rw[h] at e;cases o
  ·refine aT func226 ntmps226 ?_;refine aB ?_;refine bY fun b=>?_;dsimp only[Value.cells,Rg.cells];refine aB ?_;exact dL
  ·refine aT func226 ntmps226 ?_;refine aB ?_;refine bY fun b=>?_;dsimp only[Value.cells,Rg.cells];refine aE ?_;exact dL
theorem aKU(L:FL)(d:cH)(x:dB)(j:d.aX.length≤100)(c:xE d x)(w:World)(F:Nat→Prop)(hp:(iF L d x).sat F w)(hF:∀b,F b→b < w.heap.size):
  Cz 206 #[.pointer (some ⟨L.f,0,none⟩)] w (Wr (.tuple #[]) (iF L d (Fk d x)) w F):=by
 have N:=c.saved
 refine dD func206 ntmps206 hp hF ?_;refine aB ?_;refine bY fun e=>?_;refine aB ?_;refine kK (vf:=[]) (vc:=[pt e]) rfl rfl aC ?_;refine dK [⟨w,fun b=>b < w.heap.size∧¬F b⟩] [0] [1] aD rfl aC aC fun q A I _=>?_;obtain⟨R,n,B⟩:=A 0 _ aD rfl
 refine cG 0 (iF L d (Fk d x)) (fun K G t hG a m=>by
  have:=aEu L d x j 226 aF [pt e] q (Fk d x).now (by simp[Fk];omega) c.now (fun i r v k p h z O H E M=>by
   have J:=(List.getElem?_eq_some_iff.1 k).1
   obtain⟨u,o⟩:=get_some (l:=x.saved) (i:=i) aA
   have C:v=Va x.kept r u:=by
    rw[Fk,List.getElem?_zipWith,k,o] at p;cases p;rfl
   subst C;obtain⟨D,y⟩:=M e (B _ n.1)
   exact aKN L d ⟨h,x.saved,x.kept⟩ e i r u k o z (Tk H E) ⟨D,(World.cell?_of_block (w:=q.w) y).trans (by rw[n.2.cell];rfl)⟩) K G hG a (m q aD)
  exact this) ?_
 refine aB ?_;exact fO 0 hF
theorem aKd(p:Piece)(L:FL)(d:cH)(x:dB)(e i:Nat)(r:Rg)(v u:Int)(H:d.aX[i]? =some r)(t:x.now[i]? =some v)(E:x.saved[i]? =some u)(C:x.saved.length=d.aX.length)
  (m:p.Z e∧p.w.cell? ⟨e,0,none⟩=some (.pointer (some ⟨L.f,0,none⟩))) (w:World) (F:Nat→Prop) (hp:(iF L d x).sat F w) (hF:∀b,F b→b < w.heap.size) (k:p.Le ⟨w,fun b=>b < w.heap.size∧¬F b⟩):
  Cz 225 #[iv (i:Int),.agg r.cells.toArray,pt e] w (Wr (.tuple #[]) (iF L d ⟨x.now,x.saved.set i (Hv r (v,u)),x.kept⟩) w F):=by
 have o:=(List.getElem?_eq_some_iff.1 H).1
 obtain⟨n,y⟩:=k e m.1
 have B:w.cell? ⟨e,0,none⟩=some (.pointer (some ⟨L.f,0,none⟩)):=(World.cell?_of_block (w:=p.w) y).trans m.2
 obtain⟨j,D⟩:=r;cases D
 ·have a:x.saved.set i (Hv ⟨j,false⟩ (v,u))=x.saved:=aDU E
  rw[a];refine dD func225 ntmps225 hp hF ?_;refine aB ?_;refine bY fun l=>?_;dsimp only[Value.cells,Rg.cells];refine aB ?_;exact fO 1 hF
 ·refine dD func225 ntmps225 hp hF ?_;refine aB ?_;refine bY fun l=>?_;dsimp only[Value.cells,Rg.cells];refine aB ?_;refine Sv 1 rfl ?_;dsimp only[List.set,Gf]
  have z:=Ue x.now
  have G:=Ue x.saved
  have I:Rd w [⟨w,fun b=>b < w.heap.size∧¬F b⟩] [HP.aI L.gs 36 (nE x.saved),HP.aI L.gn 36 (nE x.now),HP.aI L.f 227 [.slice L.A d.aX.length L.c,.slice (some ⟨L.gn,0,none⟩) d.aX.length d.aX.length,.slice (some ⟨L.gs,0,none⟩) d.aX.length d.aX.length,.bool x.kept],HP.aI l 82 [.int .u32 j,.bool true],HP.many [cM,cM,cM,HP.cI (sL d L.A) (sL.le (d:=d) (A:=L.A))]] e 0 (.pointer (some ⟨L.f,0,none⟩)):=Rd.ro (List.mem_singleton.2 rfl) n B
  have J:Rd w [⟨w,fun b=>b < w.heap.size∧¬F b⟩] [HP.aI L.gs 36 (nE x.saved),HP.aI L.gn 36 (nE x.now),HP.aI L.f 227 [.slice L.A d.aX.length L.c,.slice (some ⟨L.gn,0,none⟩) d.aX.length d.aX.length,.slice (some ⟨L.gs,0,none⟩) d.aX.length d.aX.length,.bool x.kept],HP.aI l 82 [.int .u32 j,.bool true],HP.many [cM,cM,cM,HP.cI (sL d L.A) (sL.le (d:=d) (A:=L.A))]] L.gn i (.int .u32 v):=Rd.aI 1 rfl (aAn t)
  refine rK 12 aF aF ?_;refine cE 0 ?_;refine cE 1 ?_;refine cE 2 ?_;refine cE 3 ?_;refine cE 4 ?_;refine cE 5 ?_;refine cE 6 ?_;refine cE 7 ?_;refine cE 8 ?_;refine cE 9 ?_;refine cE 10 ?_ (dG:=dat (sz:=1) i i);refine cE 11 ?_;refine cX 12 ?_;refine kd (dat i i) ?_;refine fB ?_;refine cX 13 ?_;refine eZ rfl rfl ?_;dsimp only[List.set];rw[aAm];refine fB ?_;refine lA ?_;refine aB ?_;refine aY [0,1,2,4] rfl aC (fun _ h=>h) ?_;refine Sy (x:=⟨x.now,x.saved.set i v,x.kept⟩) 0 rfl ?_;exact fO 0 hF
theorem aKT(L:FL)(d:cH)(x:dB)(o:d.aX.length≤100)(k:xE d x)(w:World)(F:Nat→Prop)(hp:(iF L d x).sat F w)(hF:∀b,F b→b < w.heap.size):
  Cz 205 #[.pointer (some ⟨L.f,0,none⟩)] w (Wr (.tuple #[]) (iF L d (vB d x)) w F):=by
 have e:=k.saved
 have X:=k.now
 have h:(vB d x).saved.length=d.aX.length:=by simp[vB];omega
 refine dD func205 ntmps205 hp hF ?_;refine aB ?_;refine bY fun n=>?_;refine aB ?_;refine kK (vf:=[]) (vc:=[pt n]) rfl rfl aC ?_;refine dK [⟨w,fun b=>b < w.heap.size∧¬F b⟩] [0] [1] aD rfl aC aC fun q R T _=>?_;obtain⟨Y,m,E⟩:=R 0 _ aD rfl
 refine cG 0 (iF L d ⟨x.now,(vB d x).saved,x.kept⟩) (fun M G t hG j B=>by
  have a:=aEt q (fun i=>iF L d ⟨x.now,kV (vB d x).saved x.saved i,x.kept⟩) L d o 225 aF [pt n]
   (fun i _ w F C D=>⟨_,Tk C D⟩) (fun i r p N y C D O=>by
    have U:=(List.getElem?_eq_some_iff.1 p).1
    obtain⟨v,K⟩:=get_some (l:=x.now) (i:=i) aA;obtain⟨u,J⟩:=get_some (l:=x.saved) (i:=i) aA
    have V:(vB d x).saved[i]? =some (Hv r (v,u)):=by
     rw[vB,List.getElem?_zipWith,p,(List.getElem?_zip_eq_some (z:=(v,u))).2 ⟨K,J⟩]
    have:=aKd q L d ⟨x.now,kV (vB d x).saved x.saved i,x.kept⟩ n i r v u p K (aMz aA aA J) (Qg h e aA)
     ⟨E _ m.1,by rw[m.2.cell];rfl⟩ N y C D O
    try dsimp only at this
    rw[Qf aA V] at this
    exact this) M G (by show(iF L d ⟨x.now,kV (vB d x).saved x.saved 0,x.kept⟩).sat G M;rw[Qe];exact hG) j (B q aD)
  try dsimp only at a
  rw[Qh h e] at a
  exact a) ?_
 refine Sv 0 rfl ?_;dsimp only[List.set,Gf]
 have I:∀H,Rd w [q,⟨w,fun b=>b < w.heap.size∧¬F b⟩] H n 0 (.pointer (some ⟨L.f,0,none⟩)):=fun H=>Rd.ro (by simp:q∈_) (E _ m.1) (by rw[m.2.cell];rfl)
 have I:=I [HP.aI L.gs 36 (nE (vB d x).saved),HP.aI L.gn 36 (nE x.now),HP.aI L.f 227 [.slice L.A d.aX.length L.c,.slice (some ⟨L.gn,0,none⟩) d.aX.length d.aX.length,.slice (some ⟨L.gs,0,none⟩) d.aX.length d.aX.length,.bool x.kept],HP.many [cM,cM,cM,HP.cI (sL d L.A) (sL.le (d:=d) (A:=L.A))]]
 refine aB ?_;refine Sy (x:=vB d x) 0 rfl ?_;exact fO 0 hF
theorem aKV(L:FL)(d:cH)(x:dB)(i:Nat)(v:Int)(l:x.now.length=d.aX.length)(c:x.now[i]? =some v)(w:World)(a:Ay w L d x):
  Cz 201 #[.pointer (some ⟨L.f,0,none⟩),iv (i:Int)] w (Rt (.tuple #[.int .u32 v,iv 0]) w):=by
 have k:i < d.aX.length:=by have:=(List.getElem?_eq_some_iff.1 c).1;omega
 have m:=a.r0.at_ (j:=1) rfl
 have e:=a.now.at_ (aAn c)
 rw[Nat.zero_add] at e;refine aT func201 ntmps201 ?_;refine aB ?_;refine cN (t:=8) rfl (fun h=>absurd h aA) (fun _=>?_);refine aB ?_;refine aZ (fun b t=>Pu L d x b (a.below (t.below aD))) ?_;refine aB ?_;refine aK rfl (fun h=>absurd h aA) (fun _=>?_);refine aE ?_;exact gF rfl rfl rfl fun b t=>⟨rfl,t.below aD⟩
theorem aKS(L:FL)(d:cH)(x:dB)(i:Nat)(v:Int)(c:x.now.length=d.aX.length)(hlt:i < d.aX.length)(w:World)(F:Nat→Prop)(hp:(iF L d x).sat F w)(hF:∀b,F b→b < w.heap.size):
  Cz 202 #[.pointer (some ⟨L.f,0,none⟩),iv (i:Int),.int .u32 v] w (Wr (iv 0) (iF L d ⟨x.now.set i v,x.saved,x.kept⟩) w F):=by
 refine dD func202 ntmps202 hp hF ?_;refine aB ?_;refine cN (t:=9) rfl (fun h=>absurd h aA) (fun _=>?_);refine aB ?_;refine aZ (fun a t=>Pu L d x a (t.aBO 0 rfl)) ?_;refine aB ?_;refine aK rfl (fun h=>absurd h aA) (fun _=>?_);refine Sv 0 rfl ?_;dsimp only[List.set,Gf]
 have e:=Ue x.now
 refine aE ?_;rw[aAm];refine aB ?_;refine Sy (x:=⟨x.now.set i v,x.saved,x.kept⟩) 0 rfl ?_;exact bU 0 hF
def aHV(n:Nat)(xs:List Value)(v:Value)(hs:List HP)(_:Piece):Prop:=∃A c,v=.slice A n c∧hs=[HP.own 73 6 (.slice A n c) n xs]
theorem aLC(A:Option Addr)(n c:Nat)(xs:List Value)(w:World)(hs:aM (all w) 6 A n xs)(d:∀u∈xs,u.oneCell'=true)(e:n≤1000000):
  Cz 113 #[.slice A n c] w (fun y w'=>(∃v hs q,y=.returned v∧q.w=w'∧aHV n xs v hs q∧gX w hs q)∧Below w.heap.size w w'):=by
 refine aT func113 ntmps113 ?_;refine aB ?_;refine mH 73 6 ?_;refine iL 0 6 64 n (n':=n) (v:=sn) (el:=73) aF aF aC rfl rfl rfl (tA aD hs) d aA aA aA aC fun i f=>?_;dsimp only[List.set,List.nil_append];refine aB ?_;refine dK [] [] [0] aD rfl aC aC fun q _ _ a=>?_;exact aW (h:=fun b st=>⟨_,_,⟨b,q.Z⟩,rfl,rfl,⟨_,_,rfl,rfl⟩,st.newR aD aD (a aD aD)⟩)
def aHT(n:Nat)(xs:List Value)(v:Value)(hs:List HP)(_:Piece):Prop:=∃A c,v=.slice A n c∧hs=[HP.own 75 3 (.slice A n c) n xs]
theorem aLA(A:Option Addr)(n c:Nat)(xs:List Value)(w:World)(hs:aM (all w) 3 A n xs)(d:∀u∈xs,u.oneCell'=true)(e:n≤1000000):
  Cz 114 #[.slice A n c] w (fun y w'=>(∃v hs q,y=.returned v∧q.w=w'∧aHT n xs v hs q∧gX w hs q)∧Below w.heap.size w w'):=by
 refine aT func114 ntmps114 ?_;refine aB ?_;refine mH 75 3 ?_;refine iL 0 3 24 n (n':=n) (v:=sn) (el:=75) aF aF aC rfl rfl rfl (tA aD hs) d aA aA aA aC fun i f=>?_;dsimp only[List.set,List.nil_append];refine aB ?_;refine dK [] [] [0] aD rfl aC aC fun q _ _ a=>?_;exact aW (h:=fun b st=>⟨_,_,⟨b,q.Z⟩,rfl,rfl,⟨_,_,rfl,rfl⟩,st.newR aD aD (a aD aD)⟩)
def aHR(n:Nat)(xs:List Value)(v:Value)(hs:List HP)(_:Piece):Prop:=∃A c,v=.slice A n c∧hs=[HP.own 77 1 (.slice A n c) n xs]
theorem aL8(A:Option Addr)(n c:Nat)(xs:List Value)(w:World)(hs:aM (all w) 1 A n xs)(d:∀u∈xs,u.oneCell'=true)(e:n≤1000000):
  Cz 115 #[.slice A n c] w (fun y w'=>(∃v hs q,y=.returned v∧q.w=w'∧aHR n xs v hs q∧gX w hs q)∧Below w.heap.size w w'):=by
 refine aT func115 ntmps115 ?_;refine aB ?_;refine mH 77 1 ?_;refine iL 0 1 8 n (n':=n) (v:=sn) (el:=77) aF aF aC rfl rfl rfl (tA aD hs) d aA aA aA aC fun i f=>?_;dsimp only[List.set,List.nil_append];refine aB ?_;refine dK [] [] [0] aD rfl aC aC fun q _ _ a=>?_;exact aW (h:=fun b st=>⟨_,_,⟨b,q.Z⟩,rfl,rfl,⟨_,_,rfl,rfl⟩,st.newR aD aD (a aD aD)⟩)
def aHU(n:Nat)(xs:List Value)(v:Value)(hs:List HP)(_:Piece):Prop:=∃A c,v=.slice A n c∧hs=[HP.own 80 6 (.slice A n c) n xs]
theorem aLB(A:Option Addr)(n c:Nat)(xs:List Value)(w:World)(hs:aM (all w) 6 A n xs)(d:∀u∈xs,u.oneCell'=true)(e:n≤1000000):
  Cz 116 #[.slice A n c] w (fun y w'=>(∃v hs q,y=.returned v∧q.w=w'∧aHU n xs v hs q∧gX w hs q)∧Below w.heap.size w w'):=by
 refine aT func116 ntmps116 ?_;refine aB ?_;refine mH 80 6 ?_;refine iL 0 6 80 n (n':=n) (v:=sn) (el:=80) aF aF aC rfl rfl rfl (tA aD hs) d aA aA aA aC fun i f=>?_;dsimp only[List.set,List.nil_append];refine aB ?_;refine dK [] [] [0] aD rfl aC aC fun q _ _ a=>?_;exact aW (h:=fun b st=>⟨_,_,⟨b,q.Z⟩,rfl,rfl,⟨_,_,rfl,rfl⟩,st.newR aD aD (a aD aD)⟩)
def aCP(n:Nat)(xs:List Value)(v:Value)(hs:List HP)(_:Piece):Prop:=∃A c,v=.slice A n c∧hs=[HP.own 3 1 (.slice A n c) n xs]
theorem aEB(A:Option Addr)(n c:Nat)(xs:List Value)(w:World)(hs:aM (all w) 1 A n xs)(d:∀u∈xs,u.oneCell'=true)(e:n≤1000000):
  Cz 109 #[.slice A n c] w (fun y w'=>(∃v hs q,y=.returned v∧q.w=w'∧aCP n xs v hs q∧gX w hs q)∧Below w.heap.size w w'):=by
 refine aT func109 ntmps109 ?_;refine aB ?_;refine mH 3 1 ?_;refine iL 0 1 8 n (n':=n) (v:=sn) (el:=3) aF aF aC rfl rfl rfl (tA aD hs) d aA aA aA aC fun i f=>?_;dsimp only[List.set,List.nil_append];refine aB ?_;refine dK [] [] [0] aD rfl aC aC fun q _ _ a=>?_;exact aW (h:=fun b st=>⟨_,_,⟨b,q.Z⟩,rfl,rfl,⟨_,_,rfl,rfl⟩,st.newR aD aD (a aD aD)⟩)
def aHS(n:Nat)(xs:List Value)(v:Value)(hs:List HP)(_:Piece):Prop:=∃A c,v=.slice A n c∧hs=[HP.own 82 2 (.slice A n c) n xs]
theorem aL9(A:Option Addr)(n c:Nat)(xs:List Value)(w:World)(hs:aM (all w) 2 A n xs)(d:∀u∈xs,u.oneCell'=true)(e:n≤1000000):
  Cz 117 #[.slice A n c] w (fun y w'=>(∃v hs q,y=.returned v∧q.w=w'∧aHS n xs v hs q∧gX w hs q)∧Below w.heap.size w w'):=by
 refine aT func117 ntmps117 ?_;refine aB ?_;refine mH 82 2 ?_;refine iL 0 2 8 n (n':=n) (v:=sn) (el:=82) aF aF aC rfl rfl rfl (tA aD hs) d aA aA aA aC fun i f=>?_;dsimp only[List.set,List.nil_append];refine aB ?_;refine dK [] [] [0] aD rfl aC aC fun q _ _ a=>?_;exact aW (h:=fun b st=>⟨_,_,⟨b,q.Z⟩,rfl,rfl,⟨_,_,rfl,rfl⟩,st.newR aD aD (a aD aD)⟩)
structure Nx(p:Piece)(s:aG)(A1:Option Addr)(n1:Nat)(A2:Option Addr)(n2:Nat)(A3:Option Addr)(n3:Nat)(A4:Option Addr)(n4:Nat):Prop where
 iA:kJ (fT p) (rQ (fT p)) 73 6 A1 n1 s.aJ
 dom:kJ (fT p) tX 75 3 A2 n2 s.domains
 zC:kJ (fT p) wY 77 1 A3 n3 s.bA
 dev:kJ (fT p) (qO (fT p)) 80 6 A4 n4 s.aH
section
variable{p q:Piece}{A1 A2 A3 A4:Option Addr}{n1 n2 n3 n4:Nat}
theorem Nx.le(h:Nx p s A1 n1 A2 n2 A3 n3 A4 n4)(hl:p.Le q):Nx q s A1 n1 A2 n2 A3 n3 A4 n4:=
 ⟨h.iA.mono (kU hl) (fun _ _=>rQ.mono (kU hl)),h.dom.mono (kU hl) (fun _ _ h=>h),h.zC.mono (kU hl) (fun _ _ h=>h),h.dev.mono (kU hl) (fun _ _=>qO.mono (kU hl))⟩
theorem Nx.W(h:Nx p s A1 n1 A2 n2 A3 n3 A4 n4)(hl:p.Le (all w))(hs:s.small):iJ w s A1 n1 A2 n2 A3 n3 A4 n4:=⟨(h.le hl).iA,(h.le hl).dom,(h.le hl).zC,(h.le hl).dev,hs⟩
theorem uV.Q{cs:Array Value}(h:uV (fT p) s cs):∃A1 n1 k1 A2 n2 k2 A3 n3 k3 A4 n4 k4,cs=#[.slice A1 n1 k1,.slice A2 n2 k2,.slice A3 n3 k3,.slice A4 n4 k4]∧Nx p s A1 n1 A2 n2 A3 n3 A4 n4:=by
 obtain⟨A1,n1,k1,A2,n2,k2,A3,n3,k3,A4,n4,k4,b,e,d,a,c⟩:=h;exact⟨A1,n1,k1,A2,n2,k2,A3,n3,k3,A4,n4,k4,b,e,d,a,c⟩
end
theorem aS5{α:Type}{p:Piece}{R:α→List Value→Prop}{t:TypeId}{sz n:Nat}{A:Option Addr}{es:List α}(h:kJ (fT p) R t sz A n es){k:Nat}{e:α}(hk:es[k]? =some e):
  ∃b off r,A=some ⟨b,off,none⟩∧p.Z b∧r.length=sz∧R e r∧∀f u,r[f]? =some u→p.w.cell? ⟨b,off+k*sz+f,none⟩=some u:=by
 obtain⟨rows,y,z,m⟩:=h
 have a:k < n:=by
  rw[z];rcases Nat.lt_or_ge k es.length with h | h
  ·exact h
  ·rw[List.getElem?_eq_none h] at hk;cases hk
 obtain⟨b,off,B,j,x⟩:=aM.at_ m a;obtain⟨r,d,i,o⟩:=y.get hk;refine⟨b,off,r,B,j,d,i,fun f u c=>x f u ?_⟩
 have l:f < sz:=by
  rw[←d];rcases Nat.lt_or_ge f r.length with h | h
  ·exact h
  ·rw[List.getElem?_eq_none h] at c;cases c
 rw[o f l,c]
theorem pH{N:cO}{w0:World}{e:Env}{R:List Piece}{H:List HP}{K:Act→World→Prop}{p:HP}(hp:∀w,p.sat (fun _=>False) w)(h:XK N w0 K e R (p::H)):XK N w0 K e R H:=fun a w c st=>
 h a w c (st.new (w':=w) (Below.refl _ _) (by
  rw[show(fresh w w).Z=fun _=>False from by funext b;simp only[fresh,eq_iff_iff,iff_false];omega]
  exact hp w))
abbrev AC:=Option Addr×Nat
def yD(c:eN)(a:AC):List Value:=[.int .u8 c.kind,.slice a.1 c.src.length a.2,.int .u64 c.rate,iv c.mul,iv c.div,iv c.lock]
def yC(d:cH)(p:AC×AC):List Value:=[iv d.clock,iv d.domain,iv d.reset,.int .u32 d.vP,.slice p.1.1 d.aX.length p.1.2,.slice p.2.1 d.jD.length p.2.2]
def Mx(s:aG)(fa:List AC):List (List Value):=List.zipWith yD s.aJ fa
def Mt(s:aG)(da:List (AC×AC)):List (List Value):=List.zipWith yC s.aH da
section
variable{α β:Type}{f:α→β→List Value}{sz:Nat}
theorem Tp{es:List α}{bs:List β}(hl:bs.length=es.length)(hf:∀e a,(f e a).length=sz):(List.zipWith f es bs).length=es.length∧∀r∈List.zipWith f es bs,r.length=sz:=by
 refine⟨by simp;omega,fun r c=>?_⟩;obtain⟨j,b⟩:=List.getElem?_of_mem c;rw[List.getElem?_zipWith] at b;split at b<;>cases b
 exact hf _ _
theorem Om{es:List α}{bs:List β}{i:Nat}{e:α}{a:β}(b:es[i]? =some e)(c:bs[i]? =some a):(List.zipWith f es bs)[i]? =some (f e a):=by rw[List.getElem?_zipWith,b,c]
theorem aDd{es:List α}{bs:List β}{i:Nat}{e:α}{a:β}(c:es[i]? =some e)(hi:i < bs.length):(List.zipWith f es bs).set i (f e a)=List.zipWith f es (bs.set i a):=by
 refine List.ext_getElem? fun j=>?_;rw[List.getElem?_set]
 by_cases b:i=j
 ·subst b
  have d:=(List.getElem?_eq_some_iff.1 c).1
  rw[if_pos rfl,Om c (List.getElem?_set_self hi),if_pos (by simp;omega)]
 ·rw[if_neg b,List.getElem?_zipWith,List.getElem?_zipWith,List.getElem?_set_ne b]
theorem aDe{es:List α}{bs:List β}(hf:∀e a,∀u∈f e a,u.oneCell'=true):∀u∈(List.zipWith f es bs).flatten,u.oneCell'=true:=fun u c=>by
 obtain⟨r,d,c⟩:=List.mem_flatten.1 c;obtain⟨j,b⟩:=List.getElem?_of_mem d;rw[List.getElem?_zipWith] at b;split at b<;>cases b
 exact hf _ _ u c
end
theorem aQv(c:eN)(a:AC):∀u∈yD c a,u.oneCell'=true:=by simp[yD,Value.oneCell']
theorem aPK(d:cH)(p:AC×AC):∀u∈yC d p,u.oneCell'=true:=by simp[yC,Value.oneCell']
theorem aCh{S:tS}:∀{cl:List eN} {b:List (List Value)},Rows (rQ S) 6 cl b→∃fa:List AC,fa.length=cl.length∧b=List.zipWith yD cl fa∧∀(i:Nat) (c:eN) (a:AC),cl[i]? =some c→fa[i]? =some a→S 3 1 a.1 c.src.length (aR c.src)
 | [],[],_=>⟨[],rfl,rfl,fun i c a h=>by simp at h⟩
 | e::es,r::b,h=>by
  obtain⟨_,⟨A,n,k,p,l,hS⟩,h3⟩:=h;obtain⟨fa,o,j,m⟩:=aCh h3;subst l;refine⟨(A,k)::fa,by simp[o],by rw[p,j];rfl,fun i c a d f=>?_⟩;cases i with
  | zero=>simp at d f;subst d;subst f;exact hS
  | succ i=>exact m i c a (by simpa using d) (by simpa using f)
theorem aEm{S:tS}:∀{cl:List eN} {fa:List AC},fa.length=cl.length→(∀(i:Nat) (c:eN) (a:AC),cl[i]? =some c→fa[i]? =some a→S 3 1 a.1 c.src.length (aR c.src))→Rows (rQ S) 6 cl (List.zipWith yD cl fa)
 | [],[],_,_=>trivial
 | c::cl,a::fa,hl,h=>⟨rfl,⟨a.1,_,a.2,rfl,rfl,h 0 c a rfl rfl⟩,aEm (by simpa using hl) fun i f d b e=>h (i+1) f d (by simpa using b) (by simpa using e)⟩
theorem aBW{S:tS}:∀{cl:List cH} {b:List (List Value)},Rows (qO S) 6 cl b→∃da:List (AC×AC),da.length=cl.length∧b=List.zipWith yC cl da∧∀(i:Nat) (d:cH) (p:AC×AC),cl[i]? =some d→da[i]? =some p→S 82 2 p.1.1 d.aX.length (d.aX.flatMap Rg.cells)∧S 3 1 p.2.1 d.jD.length (aR d.jD)
 | [],[],_=>⟨[],rfl,rfl,fun i c a h=>by simp at h⟩
 | e::es,r::b,h=>by
  obtain⟨_,⟨A,n,k,A',n',u,y,t,f,hS,l⟩,h3⟩:=h;obtain⟨da,x,o,w⟩:=aBW h3;subst t;subst f;refine⟨((A,k),(A',u))::da,by simp[x],by rw[y,o];rfl,fun i d p j m=>?_⟩;cases i with
  | zero=>simp at j m;subst j;subst m;exact⟨hS,l⟩
  | succ i=>exact w i d p (by simpa using j) (by simpa using m)
theorem aEl{S:tS}:∀{cl:List cH} {da:List (AC×AC)},da.length=cl.length→(∀(i:Nat) (d:cH) (p:AC×AC),cl[i]? =some d→da[i]? =some p→S 82 2 p.1.1 d.aX.length (d.aX.flatMap Rg.cells)∧S 3 1 p.2.1 d.jD.length (aR d.jD))→Rows (qO S) 6 cl (List.zipWith yC cl da)
 | [],[],_,_=>trivial
 | c::cl,a::da,hl,h=>⟨rfl,⟨a.1.1,_,a.1.2,a.2.1,_,a.2.2,rfl,rfl,rfl,(h 0 c a rfl rfl).1,(h 0 c a rfl rfl).2⟩,aEl (by simpa using hl) fun i f e b j=>h (i+1) f e (by simpa using b) (by simpa using j)⟩
theorem aPu{es:List Dom}{c:List (List Value)}(h:Rows tX 3 es c):∀u∈c.flatten,u.oneCell'=true:=fun u a=>by
 obtain⟨r,f,a⟩:=List.mem_flatten.1 a;obtain⟨j,d⟩:=List.getElem?_of_mem f;obtain⟨e,_,_,b⟩:=h.at_ d;unfold tX at b;subst b;simp only[List.mem_cons,List.not_mem_nil,or_false] at a;rcases a with rfl | rfl | rfl<;>rfl
theorem aKw{es:List Int}{c:List (List Value)}(h:Rows wY 1 es c):∀u∈c.flatten,u.oneCell'=true:=fun u a=>by
 obtain⟨r,f,a⟩:=List.mem_flatten.1 a;obtain⟨j,d⟩:=List.getElem?_of_mem f;obtain⟨e,_,_,b⟩:=h.at_ d;unfold wY at b;subst b;simp only[List.mem_cons,List.not_mem_nil,or_false] at a;subst a;rfl
def xG(s:aG)(fa:List AC)(i:Nat)(p:Piece):Prop:=∀(j:Nat) (c:eN) (a:AC),j < i→s.aJ[j]? =some c→fa[j]? =some a→aM p 1 a.1 c.src.length (aR c.src)
theorem xG.le{s:aG}{fa:List AC}{i:Nat}(p q:Piece)(hl:p.Le q)(h:xG s fa i p):xG s fa i q:=fun j c a e b d=>(h j c a e b d).le hl
def Az(s:aG)(da:List (AC×AC))(i:Nat)(p:Piece):Prop:=∀(j:Nat) (d:cH) (a:AC×AC),j < i→s.aH[j]? =some d→da[j]? =some a→aM p 2 a.1.1 d.aX.length (d.aX.flatMap Rg.cells)∧aM p 1 a.2.1 d.jD.length (aR d.jD)
theorem Az.le{s:aG}{da:List (AC×AC)}{i:Nat}(p q:Piece)(hl:p.Le q)(h:Az s da i p):Az s da i q:=fun j c a e b d=>⟨(h j c a e b d).1.le hl,(h j c a e b d).2.le hl⟩
theorem Kw{l:List Rg}:∀u∈l.flatMap Rg.cells,u.oneCell'=true:=fun u a=>by
 obtain⟨r,_,a⟩:=List.mem_flatMap.1 a;simp only[Rg.cells,List.mem_cons,List.not_mem_nil,or_false] at a;rcases a with rfl | rfl<;>rfl
def Zq(s:aG)(v:Value)(w w':World):Prop:=∃a,v=.agg a∧uV (fT (fresh w w')) s a
theorem aCf(s:aG)(A1 A2 A3 A4:Option Addr)(n1 k1 n2 k2 n3 k3 n4 k4:Nat)(w:World)(hW:iJ w s A1 n1 A2 n2 A3 n3 A4 n4)(hsr:∀d∈s.aH,d.aX.length≤1000000):
  Cz 69 #[.agg #[.slice A1 n1 k1,.slice A2 n2 k2,.slice A3 n3 k3,.slice A4 n4 k4]] w (fun y w'=>(∃v,y=.returned v∧Zq s v w w')∧Below w.heap.size w w'):=by
 obtain⟨rc,hrc,Ga,hsc⟩:=hW.iA;obtain⟨rd,hrd,hn2,hsd⟩:=hW.dom;obtain⟨rr,tJ,Qp,hst⟩:=hW.zC;obtain⟨rv,hrv,Wt,Wp⟩:=hW.dev;obtain⟨x,aNz,rfl,aN1⟩:=aCh hrc;obtain⟨r,aN7,rfl,aN8⟩:=aBW hrv;obtain⟨sm1,sm2,sm3,sm4,sm5,sm6⟩:=hW.small;subst Ga;subst hn2;subst Qp;subst Wt
 have ho1:=aDe (es:=s.aJ) (bs:=x) aQv
 have ho4:=aDe (es:=s.aH) (bs:=r) aPK
 refine aT func69 ntmps69 ?_;refine eG ?_;refine gN ?_;refine bY fun g1=>?_;refine cQ fun N=>?_;refine fP ?_;refine Nq (fun e R H=>∃C G D K E J V F z,e=[(3,pt z),(2,pt N)]∧R=[all w]∧H=[HP.own 73 6 (.slice C s.aJ.length G) s.aJ.length (Mx s x).flatten,HP.own 80 6 (.slice V s.aH.length F) s.aH.length (Mt s r).flatten,HP.own 75 3 (.slice D s.domains.length K) s.domains.length rd.flatten,HP.own 77 1 (.slice E s.bA.length J) s.bA.length rr.flatten,HP.aI z 30 [.slice C s.aJ.length G,.slice D s.domains.length K,.slice E s.bA.length J,.slice V s.aH.length F],HP.aI N 30 [sn,sn,sn,sn]]) ?_ ?_
 ·refine rK 14 aF aF ?_;refine cE 0 ?_;refine cE 1 ?_;refine cE 3 ?_;refine cE 4 ?_;refine cE 6 ?_;refine cE 7 ?_;refine cE 9 ?_;refine cE 10 ?_;refine aH6 (j:=13) 3 30 [sn,sn,sn,sn] fun M=>?_;refine Nw 2 13 rfl rfl (iH aF) aC aF aF (fun _ h=>h) (fun M=>?_);refine Ot (f:=113) (fi:=[]) (ca:=[]) aF (Mj M rfl rfl) (Mi M rfl rfl) aC (aHV s.aJ.length (Mx s x).flatten) (fun A st=>aLC A1 _ k1 _ A (hsc.le (st.le aD)) ho1 sm1) ?_;rintro _ _ q1 ⟨C,G,rfl,rfl⟩ _;dsimp only[List.cons_append,List.nil_append];refine Yq ?_;refine iG ?_;refine iC ?_;refine Ta aC rfl (fun _ h=>h.bG.tail) ?_;refine Nw 5 13 rfl rfl (iH aF) aC aF aF (fun _ h=>h.bG.tail) (fun M=>?_);refine Ot (f:=114) (fi:=[]) (ca:=[]) aF (Mj M rfl rfl) (Mi M rfl rfl) aC (aHT s.domains.length rd.flatten) (fun A st=>aLA A2 _ k2 _ A (hsd.le (st.le aD)) (aPu hrd) sm2) ?_;rintro _ _ q2 ⟨D,K,rfl,rfl⟩ _;dsimp only[List.cons_append,List.nil_append];refine Yq ?_;refine iG ?_;refine iC ?_;refine Ta aC rfl (fun _ h=>h.bG.tail.bG.tail) ?_;refine Nw 8 13 rfl rfl (iH aF) aC aF aF (fun _ h=>h.bG.tail.bG.tail) (fun M=>?_);refine Ot (f:=115) (fi:=[]) (ca:=[]) aF (Mj M rfl rfl) (Mi M rfl rfl) aC (aHR s.bA.length rr.flatten) (fun A st=>aL8 A3 _ k3 _ A (hst.le (st.le aD)) (aKw tJ) sm3) ?_;rintro _ _ q3 ⟨E,J,rfl,rfl⟩ _;dsimp only[List.cons_append,List.nil_append];refine Yq ?_;refine iG ?_;refine iC ?_;refine Ta aC rfl (fun _ h=>h.bG.tail.bG.tail.bG.tail) ?_;refine Nw 11 13 rfl rfl (iH aF) aC aF aF (fun _ h=>h.bG.tail.bG.tail.bG.tail) (fun M=>?_);refine Ot (f:=116) (fi:=[]) (ca:=[]) aF (Mj M rfl rfl) (Mi M rfl rfl) aC (aHU s.aH.length (Mt s r).flatten) (fun A st=>aLB A4 _ k4 _ A (Wp.le (st.le aD)) ho4 sm4) ?_;rintro _ _ q4 ⟨V,F,rfl,rfl⟩ _;dsimp only[List.cons_append,List.nil_append];refine Yq ?_;refine iG ?_;refine iC ?_;refine Ta aC rfl (fun _ h=>h.bG.tail.bG.tail.bG.tail.bG.tail) ?_;cases M with
  | none=>
   dsimp only[uN,wJ,xW,Bq];refine fR 12 rfl rfl rfl aC (lI (zs:=[sn,sn,sn,sn]) (L:=[(0,1),(1,1),(2,1),(3,1)]) (iH aF) aF rfl (by simp[fL,gR,Value.cells];rfl)) aF (fun _ _ _ h=>h) (fun _ h=>h.bG.tail.bG.tail.bG.tail.bG.tail) ?_;refine cX 13 ?_;refine cQ fun z=>?_;refine iG ?_;refine iC ?_;refine lB (fun _ h=>h.tail.bG.tail.bG.tail.bG.tail.bG.tail) ?_;refine cX 14 ?_;refine mF 0 rfl ?_;dsimp only[List.set];refine fB ?_;refine lA ?_;refine eR ?_;exact aY [4,1,3,2,0,5] rfl aC aD (bT [(3,pt z),(2,pt N)] (Sw ⟨C,G,D,K,E,J,V,F,z,rfl,rfl,rfl⟩))
  | some z=>
   dsimp only[uN,wJ,xW,Bq];refine fR 12 rfl rfl rfl aC (lI (zs:=[sn,sn,sn,sn]) (L:=[(0,1),(1,1),(2,1),(3,1)]) (iH aF) aF rfl (by simp[fL,gR,Value.cells];rfl)) aF (fun _ _ _ h=>h) (fun _ h=>h.tail.bG.tail.bG.tail.bG.tail.bG.tail) ?_;refine cX 14 ?_;refine mF 0 rfl ?_;dsimp only[List.set];refine fB ?_;refine lA ?_;refine eR ?_;exact aY [4,1,3,2,0,5] rfl aC aD (bT [(3,pt z),(2,pt N)] (Sw ⟨C,G,D,K,E,J,V,F,z,rfl,rfl,rfl⟩))
 rintro _ _ _ ⟨C,G,D,K,E,J,V,F,z,rfl,rfl,rfl⟩;refine pH (p:=HP.cI (xG s x 0) (xG.le (s:=s) (fa:=x) (i:=0))) (fun A j c a hj=>absurd hj aA) ?_;refine aB ?_;refine bT [(23,iv 0),(22,iv s.aJ.length),(3,pt z),(2,pt N)] ?_;refine fG (fun m e R H=>∃(i:Nat) (u:List AC),i≤s.aJ.length∧u.length=s.aJ.length∧(∀j,i≤j→u[j]? =x[j]?)∧m=s.aJ.length - i∧e=[(23,iv i),(22,iv s.aJ.length),(3,pt z),(2,pt N)]∧R=[all w]∧H=[HP.cI (xG s u i) (xG.le (s:=s) (fa:=u) (i:=i)),HP.own 73 6 (.slice C s.aJ.length G) s.aJ.length (Mx s u).flatten,HP.own 80 6 (.slice V s.aH.length F) s.aH.length (Mt s r).flatten,HP.own 75 3 (.slice D s.domains.length K) s.domains.length rd.flatten,HP.own 77 1 (.slice E s.bA.length J) s.bA.length rr.flatten,HP.aI z 30 [.slice C s.aJ.length G,.slice D s.domains.length K,.slice E s.bA.length J,.slice V s.aH.length F],HP.aI N 30 [sn,sn,sn,sn]]) s.aJ.length ⟨0,x,aA,aNz,fun _ _=>rfl,rfl,rfl,rfl,rfl⟩ fun m e R H hI=>?_;obtain⟨i,u,hi,hfl,O,rfl,rfl,rfl,rfl⟩:=hI;refine aB ?_;refine aK rfl (fun k=>?_) (fun hge=>?_)
 ·have k:i < s.aJ.length:=aA
  obtain⟨c,hc⟩:=get_some k;obtain⟨a,ha⟩:=get_some (l:=u) (i:=i) aA
  have ha0:x[i]? =some a:=by rw[←O i (Nat.le_refl _)];exact ha
  have aNy:=aN1 i c a hc ha0
  have hcs:=sm5 c (List.mem_of_getElem? hc)
  refine aY [1,0,2,3,4,5,6] rfl aC (fun _ h=>h) ?_;refine Ys 0 rfl aA fun gC hC=>?_;subst hC;refine Ej 0 rfl fun cs Z T h3 h4=>?_;dsimp only[List.set];obtain⟨U,Y⟩:=Tp (f:=yD) (es:=s.aJ) (bs:=u) (sz:=6) hfl (fun _ _=>rfl)
  have hs:=Br T U Y (Om hc ha)
  refine aB ?_;refine rK 10 aF aF ?_;refine cE 0 ?_;refine cE 1 ?_;refine cE 2 ?_;refine cE 3 ?_;refine cE 4 ?_;refine cE 5 ?_;refine cE 6 ?_ (dG:=dat (sz:=6) i (i*6));refine cE 7 ?_;refine cE 8 ?_;refine cX 9 ?_;refine fK (aCP c.src.length (aR c.src)) (fun A st=>aEB a.1 _ a.2 _ A (aM.le aNy (st.le aD)) (Lr _) hcs) ?_;rintro _ _ q ⟨Af,kf,rfl,rfl⟩ _;dsimp only[List.cons_append,List.nil_append];refine nO ?_;refine cX 10 ?_;refine kd (dat i (i*6)) ?_;refine fB ?_;refine cX 11 ?_;refine bJ ?_;refine fB ?_;refine cX 12 ?_;refine eZ rfl rfl ?_;dsimp only[List.set];refine fB ?_;refine lA ?_
  have hs1:=hs.set 1 (.slice Af c.src.length kf) (by simp[yD]) aA
  have Io:=(tQ.refl cs (i*6) 6).set 1 (.slice Af c.src.length kf) aC
  have hf:=zQ (r':=yD c (Af,kf)) T U Y k aA rfl hs1 Io
  rw[show(Mx s u).set i (yD c (Af,kf))=Mx s (u.set i (Af,kf)) from aDd hc aA] at hf;refine Ce 1 (n:=s.aJ.length) (c:=G) (sz:=6) rfl (by simpa using Z) hf h3 h4 ?_;dsimp only[List.set];refine wW 0 (Φ:=fun p=>aM p 1 Af c.src.length (aR c.src)) (hm:=fun p q hl h=>aM.le h hl) rfl (fun p h=>h) ?_;dsimp only[List.set];refine aY [0,2,1,3,4,5,6,7] rfl aC (fun _ h=>h) ?_
  refine Gs (X:=xG s (u.set i (Af,kf)) (i+1)) (h3:=xG.le) (fun p Z T j c' a' hj hc' o=>by
   rcases Nat.lt_or_ge j i with h | h
   ·rw[List.getElem?_set_ne aA] at o;exact T j c' a' h hc' o
   ·obtain rfl:j=i:=by omega
    rw[hc] at hc';cases hc';rw[List.getElem?_set_self aA] at o;cases o
    exact Z) ?_
  refine aB ?_;refine bT [(23,iv (i+1:Nat)),(22,iv s.aJ.length),(3,pt z),(2,pt N)] ?_;refine vS (R':=[all w]) aD ?_;exact iD (s.aJ.length - (i+1)) aA ⟨i+1,u.set i (Af,kf),k,by simpa using hfl,fun j hj=>by rw[List.getElem?_set_ne aA];exact O j aA,rfl,rfl,rfl,rfl⟩
 ·obtain rfl:i=s.aJ.length:=by omega
  refine pH (p:=HP.cI (Az s r 0) (Az.le (s:=s) (da:=r) (i:=0))) (fun A j d a hj=>absurd hj aA) ?_;refine aB ?_;refine bT [(42,iv 0),(41,iv s.aH.length),(3,pt z),(2,pt N)] ?_;refine fG (fun m e R H=>∃(i:Nat) (B:List (AC×AC)),i≤s.aH.length∧B.length=s.aH.length∧(∀j,i≤j→B[j]? =r[j]?)∧m=s.aH.length - i∧e=[(42,iv i),(41,iv s.aH.length),(3,pt z),(2,pt N)]∧R=[all w]∧H=[HP.cI (Az s B i) (Az.le (s:=s) (da:=B) (i:=i)),HP.cI (xG s u s.aJ.length) (xG.le (s:=s) (fa:=u) (i:=s.aJ.length)),HP.own 73 6 (.slice C s.aJ.length G) s.aJ.length (Mx s u).flatten,HP.own 80 6 (.slice V s.aH.length F) s.aH.length (Mt s B).flatten,HP.own 75 3 (.slice D s.domains.length K) s.domains.length rd.flatten,HP.own 77 1 (.slice E s.bA.length J) s.bA.length rr.flatten,HP.aI z 30 [.slice C s.aJ.length G,.slice D s.domains.length K,.slice E s.bA.length J,.slice V s.aH.length F],HP.aI N 30 [sn,sn,sn,sn]]) s.aH.length ⟨0,r,aA,aN7,fun _ _=>rfl,rfl,rfl,rfl,rfl⟩ fun m e R H hI=>?_;obtain⟨i,B,hi,pM,I,rfl,rfl,rfl,rfl⟩:=hI;refine aB ?_;refine aK rfl (fun k=>?_) (fun hge=>?_)
  ·have k:i < s.aH.length:=aA
   obtain⟨d,hd⟩:=get_some k;obtain⟨⟨a1,a2⟩,ha⟩:=get_some (l:=B) (i:=i) aA
   have ha0:r[i]? =some (a1,a2):=by rw[←I i (Nat.le_refl _)];exact ha
   obtain⟨aNq,aNt⟩:=aN8 i d _ hd ha0
   have Fz:=hsr d (List.mem_of_getElem? hd)
   have hr2:=sm6 d (List.mem_of_getElem? hd)
   refine aY [3,0,1,2,4,5,6,7] rfl aC (fun _ h=>h) ?_;refine Ys 0 rfl aA fun gV hV=>?_;subst hV;refine Ej 0 rfl fun cs Z T h3 h4=>?_;dsimp only[List.set];obtain⟨U,Y⟩:=Tp (f:=yC) (es:=s.aH) (bs:=B) (sz:=6) pM (fun _ _=>rfl)
   have hs:=Br T U Y (Om hd ha)
   refine aB ?_;refine kd (dat i (i*6)) ?_;refine aB ?_;refine jG [3,4,5,8,9,10] ?_;refine bQ 0 ?_;refine bQ 1 ?_;refine bQ 2 ?_;refine bQ 7 ?_;refine aO 3 ?_;refine aO 4 ?_;refine aO 5 ?_;refine aO 8 ?_;refine aO 9 ?_;refine aO 10 ?_;refine aQ 6 ?_;refine fK (aHS d.aX.length (d.aX.flatMap Rg.cells)) (fun A st=>aL9 a1.1 _ a1.2 _ A (aM.le aNq (st.le aD)) Kw Fz) ?_;rintro _ _ q1 ⟨Ag,kg,rfl,rfl⟩ _;dsimp only[List.cons_append,List.nil_append];refine bH ?_;refine aQ 11 ?_;refine fK (aCP d.jD.length (aR d.jD)) (fun A st=>aEB a2.1 _ a2.2 _ A (aM.le aNt (st.le aD)) (Lr _) hr2) ?_;rintro _ _ q2 ⟨An,kn,rfl,rfl⟩ _;dsimp only[List.cons_append,List.nil_append];refine bH ?_ (hS:=fun _ h=>h.bG.tail.bG.tail);refine aQ 12 ?_;refine bJ ?_;refine bH ?_ (hS:=fun _ h=>h.bG.tail.bG.tail);refine aQ 13 ?_;refine bJ ?_;refine bH ?_ (hS:=fun _ h=>h.bG.tail.bG.tail);refine aQ 14 ?_;refine eZ rfl rfl ?_;dsimp only[List.set];refine cS ?_;refine aQ 15 ?_;refine bJ ?_;refine cS ?_;refine aQ 16 ?_;refine bJ ?_;refine cS ?_;refine aQ 17 ?_;refine eZ rfl rfl ?_;dsimp only[List.set];refine cS ?_;refine eM ?_
   have hs1:=(hs.set 4 (.slice Ag d.aX.length kg) (by simp[yC]) aA).set 5 (.slice An d.jD.length kn) (by simp[yC]) (by simp;omega)
   have Io:=((tQ.refl cs (i*6) 6).set 4 (.slice Ag d.aX.length kg) aC).set 5 (.slice An d.jD.length kn) aC
   have hf:=zQ (r':=yC d ((Ag,kg),(An,kn))) T U Y k aA rfl hs1 Io
   rw[show(Mt s B).set i (yC d ((Ag,kg),(An,kn)))=Mt s (B.set i ((Ag,kg),(An,kn))) from aDd hd aA] at hf;refine Ce 2 (n:=s.aH.length) (c:=F) (sz:=6) rfl (by simpa using Z) hf h3 h4 ?_;dsimp only[List.set];refine wW 0 (Φ:=fun p=>aM p 1 An d.jD.length (aR d.jD)) (hm:=fun p q hl h=>aM.le h hl) rfl (fun p h=>h) ?_;refine wW 1 (Φ:=fun p=>aM p 2 Ag d.aX.length (d.aX.flatMap Rg.cells)) (hm:=fun p q hl h=>aM.le h hl) rfl (fun p h=>h) ?_;dsimp only[List.set];refine Gs (X:=fun p=>aM p 1 An d.jD.length (aR d.jD)∧aM p 2 Ag d.aX.length (d.aX.flatMap Rg.cells)) (h3:=fun p q hl h=>⟨aM.le h.1 hl,aM.le h.2 hl⟩) (fun p Z T=>⟨Z,T⟩) ?_;refine aY [0,2,3,4,1,5,6,7,8] rfl aC (fun _ h=>h) ?_
   refine Gs (X:=Az s (B.set i ((Ag,kg),(An,kn))) (i+1)) (h3:=Az.le) (fun p Z T j d' a' hj hd' o=>by
    rcases Nat.lt_or_ge j i with h | h
    ·rw[List.getElem?_set_ne aA] at o;exact T j d' a' h hd' o
    ·obtain rfl:j=i:=by omega
     rw[hd] at hd';cases hd';rw[List.getElem?_set_self aA] at o;cases o
     exact⟨Z.2,Z.1⟩) ?_
   refine aB ?_;refine bT [(42,iv (i+1:Nat)),(41,iv s.aH.length),(3,pt z),(2,pt N)] ?_;refine vS (R':=[all w]) aD ?_;exact iD (s.aH.length - (i+1)) aA ⟨i+1,B.set i ((Ag,kg),(An,kn)),k,by simpa using pM,fun j hj=>by rw[List.getElem?_set_ne aA];exact I j aA,rfl,rfl,rfl,rfl⟩
  ·obtain rfl:i=s.aH.length:=by omega
   refine aY [6,7,0,1,2,3,4,5] rfl aC (fun _ h=>h) ?_;refine aB ?_;refine dK [] [2,3,4,5,6,7] [1] aD rfl aC aC fun q hq _ hfr=>?_;obtain⟨F0,s0,z0⟩:=hq 2 _ aD rfl;obtain⟨F1,s1,z1⟩:=hq 3 _ aD rfl
   have e0:Az s B s.aH.length q:=Az.le ⟨q.w,F0⟩ q (fun b hb=>⟨z0 b hb,rfl⟩) s0
   have e1:xG s u s.aJ.length q:=xG.le ⟨q.w,F1⟩ q (fun b hb=>⟨z1 b hb,rfl⟩) s1
   have e2:=aM.own (hq 4 _ aD rfl)
   have e3:=aM.own (hq 5 _ aD rfl)
   have e4:=aM.own (hq 6 _ aD rfl)
   have e5:=aM.own (hq 7 _ aD rfl)
   have hS:uV (fT q) s #[.slice C s.aJ.length G,.slice D s.domains.length K,.slice E s.bA.length J,.slice V s.aH.length F]:=
    ⟨C,_,G,D,_,K,E,_,J,V,_,F,rfl,⟨_,aEm hfl (fun i c a hc ha=>e1 i c a (List.getElem?_eq_some_iff.1 hc).1 hc ha),rfl,e2⟩,⟨rd,hrd,rfl,e4⟩,⟨rr,tJ,rfl,e5⟩,⟨_,aEl pM (fun i d p hd hp=>e0 i d p (List.getElem?_eq_some_iff.1 hd).1 hd hp),rfl,e3⟩⟩
   exact Ji (vs:=[.slice C s.aJ.length G,.slice D s.domains.length K,.slice E s.bA.length J,.slice V s.aH.length F]) rfl aF rfl rfl (by first | assumption | exact aV.whole 0 rfl | exact aV.whole 1 rfl | exact aV.whole 2 rfl | exact aV.whole 3 rfl | exact aV.whole 4 rfl | exact aV.whole 5 rfl | exact aV.whole 6 rfl | exact aV.whole 7 rfl | exact aV.whole 8 rfl | exact xA aD (by assumption)) fun A t=>⟨⟨_,rfl,_,rfl,hS.mono (kU (t.nL aD (hfr aD aD)))⟩,t.below aD⟩
theorem Ss{p : HP}{ps : List HP}(h : XK N w0 K e R (HP.many (ps ++ [p]) :: H)) : XK N w0 K e R (p :: HP.many ps :: H) := fun a w hr st => by
  obtain⟨Z,F,hz,tJ,hs,Gb,pU⟩:=st.ex;obtain⟨G,hG1,hG2,hG3⟩:=hs 1 _ rfl;refine h a w hr ⟨st.os,st.tape,st.output,st.size,Z,fun j=>match j with | 0=>fun b=>F 0 b∨F 1 b | j+1=>F (j+2),hz,tJ,fun j r hj=>?_,fun j b hb=>?_,fun j k b It hj hk=>?_⟩
  · cases j with
    | zero =>
      simp at hj;subst hj;refine⟨fun i b=>if i < ps.length then G i b else i=ps.length∧F 0 b,fun i r hi=>?_,fun i b hb=>?_,fun i k b hik h1 h2=>?_⟩
      · rcases Nat.lt_or_ge i ps.length with hl | hl
        · rw[List.getElem?_append_left hl] at hi
          show r.sat (fun b=>if i < ps.length then G i b else i=ps.length∧F 0 b) w
          rw[show(fun b=>if i < ps.length then G i b else i=ps.length∧F 0 b)=G i by funext b;rw[if_pos hl]];exact hG1 i r hi
        · rw[List.getElem?_append_right hl] at hi
          have h0:=wK hi
          have hil:i=ps.length:=by simp at h0;omega
          subst hil;simp at hi;subst hi
          show p.sat (fun b=>if ps.length < ps.length then G ps.length b else ps.length=ps.length∧F 0 b) w
          rw[show(fun b=>if ps.length < ps.length then G ps.length b else ps.length=ps.length∧F 0 b)=F 0 by funext b;simp];exact hs 0 _ rfl
      · dsimp only at hb
        split at hb
        · exact .inr (hG2 i b hb)
        · exact .inl hb.2
      · dsimp only at h1 h2
        split at h1<;>split at h2
        · exact hG3 i k b hik h1 h2
        · exact pU 1 0 b aA (hG2 i b h1) h2.2
        · exact pU 0 1 b aA h1.2 (hG2 k b h2)
        · omega
    | succ j=>exact hs (j+2) r (by simpa using hj)
  · cases j with
    | zero=>rcases hb with hb | hb<;>exact Gb _ b hb
    | succ j=>exact Gb _ b hb
  · cases j with
    | zero => cases k with
      | zero=>exact It rfl
      | succ k => rcases hj with hj | hj
                  · exact pU 0 (k+2) b aA hj hk
                  · exact pU 1 (k+2) b aA hj hk
    | succ j => cases k with
      | zero => rcases hk with hk | hk
                · exact pU 0 (j+2) b aA hk hj
                · exact pU 1 (j+2) b aA hk hj
      | succ k=>exact pU (j+2) (k+2) b aA hj hk
theorem vT{N:cO}{w0:World}{e:Env}{R:List Piece}{H:List HP}{K:Act→World→Prop}{p q r:HP}(h:XK N w0 K e R (HP.many [p,q,r]::H)):XK N w0 K e R (p::q::r::H):=by
 refine nM ?_;refine fun a w d st=>?_
 refine(Ss (ps:=[p,q]) (p:=r) h) a w d (st.weak (fun _ h=>h) (fun i=>match i with
  | 0=>1
  | 1=>0
  | i+2=>i+2) (fun i j _ _ b=>by
   match i,j with
   | 0,0=>rfl
   | 0,1=>simp at b
   | 0,j+2=>simp at b
   | 1,0=>simp at b
   | 1,1=>rfl
   | 1,j+2=>simp at b
   | i+2,0=>simp at b
   | i+2,1=>simp at b
   | i+2,j+2=>simpa using b) (fun i p c=>by
   match i,c with
   | 0,c=>simpa using c
   | 1,c=>simpa using c
   | i+2,c=>simpa using c))
theorem aRX{N:cO}{w0:World}{e:Env}{R:List Piece}{H:List HP}{K:Act→World→Prop}{p q r s:HP}(h:XK N w0 K e R (HP.many [p,q,r,s]::H)):XK N w0 K e R (p::q::r::s::H):=by
 refine nM ?_;refine fun a w f st=>?_
 have b:∀{x y:HP} {H:List HP} {w:World},St w0 R (x::y::H) w→St w0 R (y::x::H) w:=fun st=>st.weak (fun _ h=>h) (fun i=>match i with
  | 0=>1
  | 1=>0
  | i+2=>i+2) (fun i j _ _ c=>by
   match i,j with
   | 0,0=>rfl
   | 0,1=>simp at c
   | 0,j+2=>simp at c
   | 1,0=>simp at c
   | 1,1=>rfl
   | 1,j+2=>simp at c
   | i+2,0=>simp at c
   | i+2,1=>simp at c
   | i+2,j+2=>simpa using c) (fun i p d=>by
   match i,d with
   | 0,d=>simpa using d
   | 1,d=>simpa using d
   | i+2,d=>simpa using d)
 refine(Ss (ps:=[p,q]) (p:=r) (H:=s::H) (fun a w f st=>?_)) a w f (b st);exact(Ss (ps:=[p,q,r]) (p:=s) h) a w f (b st)
def aIj(d:cH)(v:Value)(hs:List HP)(_:Piece):Prop:=∃L:FL,v=.tuple #[.pointer (some ⟨L.f,0,none⟩),iv 0]∧hs=[iF L d (Bs d)]
theorem Bi(l:List Rg):List.replicate l.length (Value.int .u32 0)=nE (l.map fun _=>0):=by
 refine List.ext_getElem? fun j=>?_;simp only[nE,List.map_map,List.getElem?_replicate,List.getElem?_map]
 by_cases h:j < l.length
 ·rw[if_pos h,List.getElem?_eq_getElem h];rfl
 ·rw[if_neg h,List.getElem?_eq_none aA];rfl
theorem aKW(d:cH)(o:d.aX.length≤8)(u:∀r∈d.aX,0≤r.reset∧r.reset < 4294967296)(A:Option Addr)(c:Nat)(w:World)(hs:aM (all w) 2 A d.aX.length (d.aX.flatMap Rg.cells)):
  Cz 65 #[.slice A d.aX.length c] w (fun y w'=>(∃v hs q,y=.returned v∧q.w=w'∧aIj d v hs q∧gX w hs q)∧Below w.heap.size w w'):=by
 refine aT func65 ntmps65 ?_;refine eG ?_;refine gN ?_;refine bJ ?_;refine bJ ?_;refine fP ?_;refine eG ?_;refine eG ?_;refine gN ?_;refine bJ ?_;refine bJ ?_;refine bJ ?_;refine aE ?_;refine aK rfl (fun h=>absurd h aA) (fun _=>?_);refine pF ?_;refine eR ?_;refine Nq (fun e R H=>∃B j b f a,e=[(4,pt a)]∧R=[all w]∧H=[HP.aI a 227 [.slice B d.aX.length j,.slice (some ⟨b,0,none⟩) d.aX.length d.aX.length,.slice (some ⟨f,0,none⟩) d.aX.length d.aX.length,.bool false],HP.aI b 36 (nE (d.aX.map fun _=>0)),HP.aI f 36 (nE (d.aX.map fun _=>0)),HP.own 82 2 (.slice B d.aX.length j) d.aX.length (d.aX.flatMap Rg.cells)]) ?_ ?_
 ·refine rK 8 aF aF ?_;refine cE 0 ?_;refine cE 2 ?_;refine cE 3 ?_;refine cE 5 ?_;refine cE 6 ?_;refine aSy 1 4 7 rfl rfl rfl aF ?_ ?_ ?_
  ·skip
   refine fK (Oi d.aX.length (d.aX.flatMap Rg.cells)) (fun i st=>Sc A _ c _ i (hs.le (st.le aD)) Kw aA) ?_;rintro _ _ q ⟨B,j,rfl,rfl⟩ _;dsimp only[List.cons_append,List.nil_append];refine nO ?_ (hS:=(fun _ h=>h.bG.tail));refine Gv 4 7 rfl rfl aF ?_ ?_
   ·skip
    refine mN (n:=d.aX.length) 4 (el:=36) (z:=.int .u32 0) aF aF rfl rfl rfl aA aA aC fun b=>?_;rw[Bi d.aX];refine nO ?_ (hS:=(fun _ h=>h.tail.bG.tail));refine cX 7 ?_;refine mN (n:=d.aX.length) 4 (el:=36) (z:=.int .u32 0) aF aF rfl rfl rfl aA aA aC fun f=>?_;rw[Bi d.aX];refine nO ?_ (hS:=(fun _ h=>h.tail.tail.bG.tail));refine cX 8 ?_;refine kd (iU rfl) ?_;refine fB ?_;refine cX 9 ?_;refine bY fun a=>?_;refine fB ?_;refine cX 10 ?_;refine bJ ?_;refine fB ?_;refine lA ?_;refine eR ?_;exact oJ ⟨B,j,b,f,a,rfl,rfl,rfl⟩
   ·skip
    refine mN (n:=d.aX.length) 4 (el:=36) (z:=.int .u32 0) aF aF rfl rfl rfl aA aA aC fun f=>?_;rw[Bi d.aX];refine nO ?_ (hS:=(fun _ h=>h.tail.bG.tail));refine cX 4 ?_;refine mN (n:=d.aX.length) 4 (el:=36) (z:=.int .u32 0) aF aF rfl rfl rfl aA aA aC fun b=>?_;rw[Bi d.aX];refine nO ?_ (hS:=(fun _ h=>h.tail.tail.bG.tail));refine cX 8 ?_;refine kd (iU rfl) ?_;refine fB ?_;refine cX 9 ?_;refine bY fun a=>?_;refine fB ?_;refine cX 10 ?_;refine bJ ?_;refine fB ?_;refine lA ?_;refine eR ?_;exact oJ ⟨B,j,b,f,a,rfl,rfl,rfl⟩
  ·skip
   refine mN (n:=d.aX.length) 4 (el:=36) (z:=.int .u32 0) aF aF rfl rfl rfl aA aA aC fun b=>?_;rw[Bi d.aX];refine nO ?_ (hS:=(fun _ h=>h.tail));refine Gv 1 7 rfl rfl aF ?_ ?_
   ·skip
    refine fK (Oi d.aX.length (d.aX.flatMap Rg.cells)) (fun i st=>Sc A _ c _ i (hs.le (st.le aD)) Kw aA) ?_;rintro _ _ q ⟨B,j,rfl,rfl⟩ _;dsimp only[List.cons_append,List.nil_append];refine nO ?_ (hS:=(fun _ h=>h.bG.tail.tail));refine cX 7 ?_;refine mN (n:=d.aX.length) 4 (el:=36) (z:=.int .u32 0) aF aF rfl rfl rfl aA aA aC fun f=>?_;rw[Bi d.aX];refine nO ?_ (hS:=(fun _ h=>h.tail.bG.tail.tail));refine cX 8 ?_;refine kd (iU rfl) ?_;refine fB ?_;refine cX 9 ?_;refine bY fun a=>?_;refine fB ?_;refine cX 10 ?_;refine bJ ?_;refine fB ?_;refine lA ?_;refine eR ?_;exact oJ ⟨B,j,b,f,a,rfl,rfl,rfl⟩
   ·skip
    refine mN (n:=d.aX.length) 4 (el:=36) (z:=.int .u32 0) aF aF rfl rfl rfl aA aA aC fun f=>?_;rw[Bi d.aX];refine nO ?_ (hS:=(fun _ h=>h.tail.tail));refine cX 1 ?_;refine fK (Oi d.aX.length (d.aX.flatMap Rg.cells)) (fun i st=>Sc A _ c _ i (hs.le (st.le aD)) Kw aA) ?_;rintro _ _ q ⟨B,j,rfl,rfl⟩ _;dsimp only[List.cons_append,List.nil_append];refine nO ?_ (hS:=(fun _ h=>h.bG.tail.tail.tail));refine cX 8 ?_;refine kd (iU rfl) ?_;refine fB ?_;refine cX 9 ?_;refine bY fun a=>?_;refine fB ?_;refine cX 10 ?_;refine bJ ?_;refine fB ?_;refine lA ?_;refine eR ?_;exact oJ ⟨B,j,b,f,a,rfl,rfl,rfl⟩
  ·skip
   refine mN (n:=d.aX.length) 4 (el:=36) (z:=.int .u32 0) aF aF rfl rfl rfl aA aA aC fun f=>?_;rw[Bi d.aX];refine nO ?_ (hS:=(fun _ h=>h.tail));refine Gv 1 4 rfl rfl aF ?_ ?_
   ·skip
    refine fK (Oi d.aX.length (d.aX.flatMap Rg.cells)) (fun i st=>Sc A _ c _ i (hs.le (st.le aD)) Kw aA) ?_;rintro _ _ q ⟨B,j,rfl,rfl⟩ _;dsimp only[List.cons_append,List.nil_append];refine nO ?_ (hS:=(fun _ h=>h.bG.tail.tail));refine cX 4 ?_;refine mN (n:=d.aX.length) 4 (el:=36) (z:=.int .u32 0) aF aF rfl rfl rfl aA aA aC fun b=>?_;rw[Bi d.aX];refine nO ?_ (hS:=(fun _ h=>h.tail.bG.tail.tail));refine cX 8 ?_;refine kd (iU rfl) ?_;refine fB ?_;refine cX 9 ?_;refine bY fun a=>?_;refine fB ?_;refine cX 10 ?_;refine bJ ?_;refine fB ?_;refine lA ?_;refine eR ?_;exact oJ ⟨B,j,b,f,a,rfl,rfl,rfl⟩
   ·skip
    refine mN (n:=d.aX.length) 4 (el:=36) (z:=.int .u32 0) aF aF rfl rfl rfl aA aA aC fun b=>?_;rw[Bi d.aX];refine nO ?_ (hS:=(fun _ h=>h.tail.tail));refine cX 1 ?_;refine fK (Oi d.aX.length (d.aX.flatMap Rg.cells)) (fun i st=>Sc A _ c _ i (hs.le (st.le aD)) Kw aA) ?_;rintro _ _ q ⟨B,j,rfl,rfl⟩ _;dsimp only[List.cons_append,List.nil_append];refine nO ?_ (hS:=(fun _ h=>h.bG.tail.tail.tail));refine cX 8 ?_;refine kd (iU rfl) ?_;refine fB ?_;refine cX 9 ?_;refine bY fun a=>?_;refine fB ?_;refine cX 10 ?_;refine bJ ?_;refine fB ?_;refine lA ?_;refine eR ?_;exact oJ ⟨B,j,b,f,a,rfl,rfl,rfl⟩
 rintro _ _ _ ⟨B,j,b,f,a,rfl,rfl,rfl⟩;refine wW 3 (Φ:=sL d B) (hm:=sL.le (d:=d) (A:=B)) rfl (fun p h=>h) ?_;dsimp only[List.set];refine aRX ?_;refine aE ?_
 refine cG 0 (iF ⟨a,b,f,B,j⟩ d (Ca d ⟨d.aX.map fun _=>0,d.aX.map fun _=>0,false⟩)) (fun i G t hG k C=>Vc ⟨a,b,f,B,j⟩ d ⟨d.aX.map fun _=>0,d.aX.map fun _=>0,false⟩ aA ⟨aD,aD,fun v m=>by
  obtain⟨r,x,rfl⟩:=List.mem_map.1 m;decide,fun v m=>by
  obtain⟨r,x,rfl⟩:=List.mem_map.1 m
  decide⟩ i G hG k) ?_
 refine aE ?_;refine dK [] [] [0] aD rfl aC aC fun q _ _ l=>?_;exact gF rfl rfl rfl fun i t=>⟨⟨_,_,⟨i,q.Z⟩,rfl,rfl,⟨⟨a,b,f,B,j⟩,rfl,rfl⟩,t.newR aD aD (l aD aD)⟩,t.below aD⟩
theorem aLh(w:World):
  Cz 67 #[] w (fun y w'=>(∃v hs q,y=.returned v∧q.w=w'∧(∃g,v=pt g∧hs=[HP.aI g 229 [iv 0,iv 0]])∧gX w hs q)∧Below w.heap.size w w'):=by
 refine aT func67 ntmps67 ?_;refine aB ?_;refine kd (iU rfl) ?_;refine bY fun g=>?_;refine aB ?_;refine dK [] [] [0] aD rfl aC aC fun q _ _ a=>?_;exact aW (h:=fun b t=>⟨_,_,⟨b,q.Z⟩,rfl,rfl,⟨g,rfl,rfl⟩,t.newR aD aD (a aD aD)⟩)
def Oc(x:dN):List Value:=[iv x.at_,iv x.denied]
def tT(g:Nat)(x:dN):HP:=HP.aI g 229 (Oc x)
def Og(w:World):Prop:=∀i v,[(114:Int),97,115,100][i]? =some v→gG w 0 i (.int .u8 v)
theorem Og.below{w w':World}(h:Og w)(b:Below w.heap.size w w'):Og w':=fun i v a=>
 ⟨Nat.lt_of_lt_of_le (h i v a).1 b.size,(b.cell (p:=⟨0,i,none⟩) (h i v a).1).trans (h i v a).2⟩
theorem aEz(g:Nat)(x:dN)(hx:yR x)(w:World)(hL:Og w)(f:eA w g 0 (Oc x)):
  Cz 216 #[pt g] w (Rt (.int .u8 (pS x.at_)) w):=by
 have e:=f.at_ (j:=0) rfl
 obtain⟨h,k⟩:=hx;obtain⟨i,a⟩:∃i:Nat,x.at_=i:=⟨x.at_.toNat,aA⟩
 have d:[(114:Int),97,115,100][i]? =some (pS x.at_):=by
  have:i=0∨i=1∨i=2∨i=3:=by omega
  rcases this with rfl | rfl | rfl | rfl<;>rw[a]<;>rfl
 have c:=hL i _ d
 have b:i < 4:=by omega
 rw[a] at e c⊢;refine aT func216 ntmps216 ?_;refine aB ?_;refine kd (fQ i i) ?_;refine aB ?_;exact dL
section
variable{g:Nat}{x:dN}{F:Nat→Prop}
theorem aLk(hp:(tT g x).sat F w)(hF:∀b,F b→b < w.heap.size):
  Cz 233 #[pt g] w (Wr (iv (rF x).1) (tT g (rF x).2) w F):=by
 refine dD func233 ntmps233 hp hF ?_;dsimp only[tT,Oc];refine aB ?_;refine aK rfl (fun h=>?_) (fun h=>?_)
 ·have a:rF x=(6,x):=if_pos (by simpa using h)
  rw[a];refine aB ?_;exact bU 0 hF
 ·have a:rF x=(0,⟨1,x.denied⟩):=if_neg (by simpa using h)
  rw[a];refine aB ?_;exact bU 0 hF
theorem aLj(hp:(tT g x).sat F w)(hF:∀b,F b→b < w.heap.size):
  Cz 217 #[pt g] w (Wr (iv (mT x).1) (tT g (mT x).2) w F):=by
 refine dD func217 ntmps217 hp hF ?_;dsimp only[tT,Oc];refine aB ?_;refine cN (t:=11) rfl (fun c=>?_) (fun c=>?_)
 ·refine aB ?_;refine aK rfl (fun h=>?_) (fun h=>?_)
  ·have a:mT x=(6,x):=if_pos ⟨by simpa using c,by simpa using h⟩
   rw[a];refine aB ?_;exact bU 0 hF
  ·have a:mT x=(0,⟨0,x.denied⟩):=if_neg fun d=>d.2 (by simpa using h)
   rw[a];refine aB ?_;exact bU 0 hF
 ·have a:mT x=(0,⟨0,x.denied⟩):=if_neg fun d=>d.1 (by simpa using c)
  rw[a];refine aB ?_;exact bU 0 hF
theorem aLi(a c:Bool)(hp:(tT g x).sat F w)(hF:∀b,F b→b < w.heap.size):
  Cz 143 #[pt g,.bool a,.bool c] w (Wr (.tuple #[]) (tT g (sZ x a c)) w F):=by
 refine dD func143 ntmps143 hp hF ?_;dsimp only[tT,Oc];refine aB ?_;refine aK rfl (fun h=>?_) (fun h=>?_)
 ·have d:sZ x a c=x:=if_pos (by simpa using h)
  rw[d];refine aB ?_;exact fO 0 hF
 ·have e:¬x.at_≠1:=by simpa using h
  cases c
  ·cases a
   ·have d:sZ x false false=⟨2,0⟩:=(if_neg e).trans ((if_neg aC).trans (if_neg aC))
    rw[d];refine aB ?_;exact fO 0 hF
   ·have d:sZ x true false=x:=(if_neg e).trans ((if_neg aC).trans (if_pos rfl))
    rw[d];refine aB ?_;exact fO 0 hF
  ·have d:sZ x a true=⟨3,IntKind.i64.wrap (x.denied+1)⟩:=(if_neg e).trans (if_pos rfl)
   rw[d];refine aB ?_;refine Cm rfl rfl rfl aC ?_;refine aB ?_;exact fO 0 hF
end
structure TL where
 t:Nat
 A:Option Addr
 c:Nat
 fa:List (Option Addr×Nat)
def qW(c:eN)(a:Option Addr×Nat)(x:eE):List Value:=[.int .u8 c.kind,.slice a.1 c.src.length a.2,.int .u64 c.rate,iv c.mul,iv c.div,iv c.lock,.bool x.on,iv x.left,iv 0,iv 0,iv (byF c)]
def kE(s:aG)(fa:List (Option Addr×Nat))(st:List eE):List (List Value):=List.zipWith (fun c p=>qW c p.1 p.2) s.aJ (fa.zip st)
structure vU(w:World)(L:TL)(s:aG)(st:List eE):Prop where
 r0:gG w L.t 0 (.slice L.A s.aJ.length L.c)
 row:aM (all w) 11 L.A s.aJ.length (kE s L.fa st).flatten
 rA:∀(i:Nat) (c:eN) (a:Option Addr×Nat),s.aJ[i]? =some c→L.fa[i]? =some a→aM (all w) 1 a.1 c.src.length (aR c.src)
 fl:L.fa.length=s.aJ.length
 ok:qF s st
theorem vU.below{w w':World}{L:TL}{s:aG}{st:List eE}(h:vU w L s st)(b:Below w.heap.size w w'):vU w' L s st:=
 ⟨⟨Nat.lt_of_lt_of_le h.r0.1 b.size,(b.cell (p:=⟨_,0,none⟩) h.r0.1).trans h.r0.2⟩,h.row.le (lK b),fun i c a e d=>(h.rA i c a e d).le (lK b),h.fl,h.ok⟩
theorem vU.node{w:World}{L:TL}{s:aG}{st:List eE}(h:vU w L s st){i:Nat}(hi:i < s.aJ.length):
  ∃b off c a x,s.aJ[i]? =some c∧st[i]? =some x∧L.A=some ⟨b,off,none⟩∧eA w b (off+i*11) (qW c a x)∧aM (all w) 1 a.1 c.src.length (aR c.src):=by
 obtain⟨c,e⟩:=get_some hi;obtain⟨a,n⟩:=get_some (l:=L.fa) (i:=i) (by rw[h.fl];exact hi);obtain⟨x,m⟩:=get_some (l:=st) (i:=i) (by rw[h.ok.len];exact hi)
 have f:(kE s L.fa st)[i]? =some (qW c a x):=by
  rw[kE,List.getElem?_zipWith,e,(List.getElem?_zip_eq_some (z:=(a,x))).2 ⟨n,m⟩]
 obtain⟨b,off,o,d⟩:=aM.row h.row (fun r f=>by
  obtain⟨j,k⟩:=List.getElem?_of_mem f;rw[kE,List.getElem?_zipWith] at k;split at k<;>cases k
  rfl) f hi
 exact⟨b,off,c,a,x,e,m,o,d,h.rA i c a e n⟩
def sP(s:aG)(fa:List (Option Addr×Nat))(p:Piece):Prop:=∀(i:Nat) (c:eN) (a:Option Addr×Nat),s.aJ[i]? =some c→fa[i]? =some a→aM p 1 a.1 c.src.length (aR c.src)
theorem sP.le{s:aG}{fa:List (Option Addr×Nat)}(p q:Piece)(hl:p.Le q)(h:sP s fa p):sP s fa q:=fun i c a b d=>(h i c a b d).le hl
def qA(L:TL)(s:aG)(st:List eE):HP:=HP.many [HP.aI L.t 212 [.slice L.A s.aJ.length L.c],HP.own 214 11 (.slice L.A s.aJ.length L.c) s.aJ.length (kE s L.fa st).flatten,HP.cI (sP s L.fa) (sP.le (s:=s) (fa:=L.fa))]
theorem aHA{L:TL}{s:aG}{st:List eE}{F:Nat→Prop}{w:World}(h:(qA L s st).sat F w)(hF:∀b,F b→b < w.heap.size)(e:L.fa.length=s.aJ.length)(k:qF s st):vU w L s st:=by
 obtain⟨G,j,p,_⟩:=h
 have l:=j 0 _ rfl
 have r:=j 1 _ rfl
 have t:=j 2 _ rfl
 have m:∀i b,G i b→b < w.heap.size:=fun i b d=>hF b (p i b d)
 obtain⟨x,y,f,n⟩:=yQ (Y:=fun b=>b < w.heap.size) r (m 1)
 injection f with f
 subst f;exact⟨⟨l.2.lt,by rw[l.2.cell];rfl⟩,n,fun i c a o u=>(t i c a o u).le (fun b d=>⟨m 2 b d,rfl⟩),e,k⟩
theorem aGB(t n c b off i:Nat)(w:World)(a:gG w t 0 (.slice (some ⟨b,off,none⟩) n c))(hi:i < n):
  Cz 195 #[pt t,iv (i:Int)] w (Rt (.pointer (some ⟨b,off+i*11,none⟩)) w):=by
 refine aT func195 ntmps195 ?_;refine aB ?_;refine cN (t:=11) rfl (fun h=>absurd h aA) (fun _=>?_);refine aB ?_;refine aK rfl (fun h=>absurd h aA) (fun _=>?_);refine aB ?_;refine kd (dat i (off+i*11)) ?_;refine aB ?_;exact dL
theorem aGA(t n c:Nat)(A:Option Addr)(i:Int)(w:World)(a:gG w t 0 (.slice A n c))(hi:bO n i=false):
  Cz 195 #[pt t,iv i] w (Rt (.pointer none) w):=by
 have hi:=of_decide_eq_false hi
 refine aT func195 ntmps195 ?_;refine aB ?_;refine cN (t:=11) rfl (fun h=>?_) (fun h=>?_)
 ·refine aB ?_;exact dL
 ·refine aB ?_;refine aK rfl (fun h=>?_) (fun h=>absurd hi aA);refine aB ?_;exact dL
theorem My(L:TL)(s:aG)(st:List eE)(i f:Nat)(c:eN)(z:List Int)(w:World)(o:vU w L s st)(hi:s.aJ[i]? =some c)(hf:c.src=(f:Int)::z):
  Cz 197 #[.pointer (some ⟨L.t,0,none⟩),iv (i:Int)] w (Rt (iv (f:Int)) w):=by
 have d:i < s.aJ.length:=(List.getElem?_eq_some_iff.1 hi).1
 obtain⟨b,off,B,a,x,p,D,A,e,n⟩:=o.node d;obtain rfl:c=B:=by rw[hi] at p;exact Option.some.inj p
 have y:=o.r0
 rw[A] at y
 have r:=e.at_ (j:=1) rfl
 have C:=e.at_ (j:=8) rfl
 rw[hf] at r n;obtain⟨u,m,k,h,l⟩:=n.2 aD;rw[k] at r
 have E:gG w u m (iv (f:Int)):=⟨h,l 0 _ rfl⟩
 refine aT func197 ntmps197 ?_;refine aB ?_;refine kd (dat i (off+i*11)) ?_;refine aB ?_;refine mI ?_;refine jP ?_;refine yH (dat 0 m (hlt:=aD)) ?_;refine jF ?_;refine aB ?_;exact dL
theorem aQq(L:TL)(s:aG)(st:List eE)(R:s.dF)(z y:Nat):∀(i:Nat),i < s.aJ.length→∀w,vU w L s st→gG w z 0 (.pointer (some ⟨L.t,0,none⟩))→gG w y 0 (.func (.func 196) #[] #[pt z,pt y])→
  Cz 196 #[iv (i:Int),pt z,pt y] w (Rt (.bool (runs s st i)) w):=by
 intro i
 induction i using Nat.strongRecOn with
 | _ i ih =>
  intro O w r G H;obtain⟨b,off,c,a,x,J,T,V,F,Y⟩:=r.node O
  have o:=aA4 R.t.aJ J T
  have U:=r.r0
  rw[V] at U
  have M:=F.at_ (j:=0) rfl
  have N:=F.at_ (j:=6) rfl
  have X:=F.at_ (j:=7) rfl
  have A:∀{l},Below w.heap.size w l→gG l z 0 (.pointer (some ⟨L.t,0,none⟩)):=fun K=>⟨Nat.lt_of_lt_of_le G.1 K.size,(K.cell (p:=⟨_,0,none⟩) G.1).trans G.2⟩
  have u:∀{l},Below w.heap.size w l→gG l y 0 (.func (.func 196) #[] #[pt z,pt y]):=fun K=>⟨Nat.lt_of_lt_of_le H.1 K.size,(K.cell (p:=⟨_,0,none⟩) H.1).trans H.2⟩
  obtain⟨D,n⟩:=R.t.aJ i c J;refine aT func196 ntmps196 ?_;refine aB ?_;refine kd (dat i (off+i*11)) ?_;rcases n with⟨m,C,_⟩ | n
  ·rw[m] at M;refine aB ?_;refine iV aD ?_;rw[o,C];simp[pQ,m]
  obtain⟨f,E,I⟩:∃(f:Nat) (E:List Int),c.src=(f:Int)::E:=by
   cases C:c.src with
   | nil=>rw[C] at n;simp at n
   | cons f E=>exact⟨f.toNat,E,by have:=(D f (by rw[C];simp)).1;rw[Int.toNat_of_nonneg this]⟩
  have B:f < i:=by have:=(D f (by rw[I];simp)).2;omega
  have e:runs s st i=(pQ c x&&runs s st f):=by rw[o,I];rfl
  clear o;rcases n with⟨m,_⟩ | ⟨m,_⟩ | ⟨m,_⟩ | ⟨m,_⟩
  ·rw[m] at M;cases k:x.on
   ·rw[k] at N;refine aB ?_;refine mI ?_;refine jF ?_;refine aB ?_;refine iV aD ?_;rw[e];simp[pQ,m,k]
   ·rw[k] at N;refine aB ?_;refine mI ?_;refine jP ?_;refine Jg 32 rfl (fun h=>?_) (fun h=>?_)
    ·refine jP ?_;refine tN (fun l d=>My L s st i f c E l (r.below (d.below aD)) J I) ?_;refine jP ?_;refine Ei (fi:=[]) (vs:=[iv (f:Int)]) (ca:=[pt z,pt y]) (fun l d=>ih f B aA l (r.below (d.below aD)) (A (d.below aD)) (u (d.below aD))) ?_;refine jF ?_;refine aB ?_;refine iV aD ?_;rw[e];simp[pQ,m,k,h]
    ·refine jF ?_;refine aB ?_;refine iV aD ?_;rw[e];simp[pQ,m,k,h]
  ·rw[m] at M;refine aB ?_;refine mI ?_;refine jP ?_;refine tN (fun l d=>My L s st i f c E l (r.below (d.below aD)) J I) ?_;refine Ei (fi:=[]) (vs:=[iv (f:Int)]) (ca:=[pt z,pt y]) (fun l d=>ih f B aA l (r.below (d.below aD)) (A (d.below aD)) (u (d.below aD))) ?_;refine jF ?_;refine aB ?_;refine iV aD ?_;rw[e];simp[pQ,m]
  ·rw[m] at M;cases k:x.on
   ·rw[k] at N;refine aB ?_;refine mI ?_;refine jF ?_;refine aB ?_;refine iV aD ?_;rw[e];simp[pQ,m,k]
   ·rw[k] at N;refine aB ?_;refine mI ?_;refine jP ?_;refine tN (fun l d=>My L s st i f c E l (r.below (d.below aD)) J I) ?_;refine jP ?_;refine Ei (fi:=[]) (vs:=[iv (f:Int)]) (ca:=[pt z,pt y]) (fun l d=>ih f B aA l (r.below (d.below aD)) (A (d.below aD)) (u (d.below aD))) ?_;refine jF ?_;refine aB ?_;refine iV aD ?_;rw[e];simp[pQ,m,k]
  ·rw[m] at M;refine aB ?_;refine mI ?_;refine jP ?_;refine tN (fun l d=>My L s st i f c E l (r.below (d.below aD)) J I) ?_;refine Ei (fi:=[]) (vs:=[iv (f:Int)]) (ca:=[pt z,pt y]) (fun l d=>ih f B aA l (r.below (d.below aD)) (A (d.below aD)) (u (d.below aD))) ?_;refine jF ?_;refine aB ?_;refine iV aD ?_;rw[e];simp[pQ,m]
section
variable{L:TL}{st:List eE}
theorem St.aAq(t:St w0 R H w)(i:Nat)(hi:H[i]? =some (qA L s st))(b:L.fa.length=s.aJ.length)(a:qF s st):vU w L s st:=by
 obtain⟨F,c,d,_⟩:=t.chunk hi;exact aHA c d b a
theorem Rd.tree(i:Nat)(hi:H[i]? =some (qA L s st))(b:L.fa.length=s.aJ.length)(a:qF s st):Rd w0 R H L.t 0 (.slice L.A s.aJ.length L.c):=fun w t=>(t.aAq i hi b a).r0.2
theorem aAU(d:L.fa.length=s.aJ.length)(b:qF s st):(kE s L.fa st).length=s.aJ.length∧∀r∈kE s L.fa st,r.length=11:=by
 have:=b.len
 refine⟨by simp[kE];omega,fun r c=>?_⟩;obtain⟨j,a⟩:=List.getElem?_of_mem c;rw[kE,List.getElem?_zipWith] at a;split at a<;>cases a
 rfl
theorem Kz{i:Nat}{c:eN}{a:Option Addr×Nat}{x:eE}(b:s.aJ[i]? =some c)(d:L.fa[i]? =some a)(hx:st[i]? =some x):(kE s L.fa st)[i]? =some (qW c a x):=by
 rw[kE,List.getElem?_zipWith,b,(List.getElem?_zip_eq_some (z:=(a,x))).2 ⟨d,hx⟩]
theorem aEH{i:Nat}{c:eN}{a:Option Addr×Nat}{x:eE}(d:s.aJ[i]? =some c)(e:L.fa[i]? =some a)(hi:i < st.length):(kE s L.fa st).set i (qW c a x)=kE s L.fa (st.set i x):=by
 refine List.ext_getElem? fun j=>?_;rw[List.getElem?_set]
 by_cases b:i=j
 ·subst b;rw[if_pos rfl,Kz d e (x:=x) (by rw[List.getElem?_set_self hi])];rw[if_pos]
  have h:=(List.getElem?_eq_some_iff.1 d).1
  have k:=(List.getElem?_eq_some_iff.1 e).1
  simp[kE];omega
 ·rw[if_neg b,kE,kE,List.getElem?_zipWith,List.getElem?_zipWith]
  have f:(L.fa.zip st)[j]? =(L.fa.zip (st.set i x))[j]? :=by
   rw[List.zip_eq_zipWith,List.zip_eq_zipWith,List.getElem?_zipWith,List.getElem?_zipWith,List.getElem?_set_ne b]
  rw[f]
theorem St.aJo{g:Nat}{cs:List Value}(t:St w0 R H w)(i j:Nat)(hi:H[i]? =some (HP.aI g 214 cs))(hj:H[j]? =some (HP.many [HP.aI L.t 212 [.slice (some ⟨g,0,none⟩) s.aJ.length L.c],cM,HP.cI (sP s L.fa) (sP.le (s:=s) (fa:=L.fa))]))(z:L.A=some ⟨g,0,none⟩)(E:cs.take (s.aJ.length*11)=(kE s L.fa st).flatten)(d:L.fa.length=s.aJ.length)(f:qF s st):vU w L s st:=by
 obtain⟨p,m⟩:=aAU d f
 have r:=t.aI hi
 obtain⟨F,⟨G,y,D,_⟩,n,_⟩:=t.chunk hj
 have x:=y 0 _ rfl
 have e:=y 2 _ rfl
 refine⟨⟨x.2.lt,by rw[x.2.cell,z];rfl⟩,⟨by rw[Hz _ m,p],fun _=>⟨g,0,z,r.lt,fun k u l=>?_⟩⟩,fun k c a B I=>(e k c a B I).le (fun b o=>⟨n b (D 2 b o),rfl⟩),d,f⟩;rw[←E] at l;rw[Nat.zero_add]
 show w.cell? _=_
 rw[r.cell]
 have C:k < s.aJ.length*11:=by
  rcases Nat.lt_or_ge k (s.aJ.length*11) with h | h
  ·exact h
  ·rw[List.getElem?_eq_none (by rw[List.length_take];omega)] at l;cases l
 rw[List.getElem?_take_of_lt C] at l
 simpa using l
theorem aHx(i:Nat)(hi:H[i]? =some (qA L s st))(b:0 < s.aJ.length)(h:∀g cs,L.A=some ⟨g,0,none⟩→cs.length=L.c*11→cs.take (s.aJ.length*11)=(kE s L.fa st).flatten→s.aJ.length≤L.c→L.c≤maxLen→
  XK N w0 K e R (HP.aI g 214 cs::H.set i (HP.many [HP.aI L.t 212 [.slice L.A s.aJ.length L.c],cM,HP.cI (sP s L.fa) (sP.le (s:=s) (fa:=L.fa))]))):XK N w0 K e R H:=by
 refine rG i 1 hi rfl ?_;refine Ys 0 rfl b fun g a=>?_;dsimp only[List.set];rw[a];refine Ej 0 rfl fun cs j k d f=>?_
 have:=h g cs a j k d f
 rw[a] at this;exact this
theorem yK(i:Nat){g:Nat}{cs:List Value}{a:List eE}(j:L.A=some ⟨g,0,none⟩)(d:cs.length=L.c*11)(f:cs.take (s.aJ.length*11)=(kE s L.fa a).flatten)(h3:s.aJ.length≤L.c)(b:L.c≤maxLen)
  (hi:H[i]? =some (HP.many [HP.aI L.t 212 [.slice (some ⟨g,0,none⟩) s.aJ.length L.c],cM,HP.cI (sP s L.fa) (sP.le (s:=s) (fa:=L.fa))]))
  (h:XK N w0 K e R (H.set i (qA L s a))):XK N w0 K e R (HP.aI g 214 cs::H):=by
 refine Ce 0 (n:=s.aJ.length) (c:=L.c) (sz:=11) rfl d f h3 b ?_;dsimp only[List.set];rw[←j] at hi⊢;exact rJ i 1 hi rfl h
end
theorem Sd(L:TL)(s:aG)(st:List eE)(m:s.dF)(i:Int)(w:World)(h:vU w L s st):
  Cz 138 #[.pointer (some ⟨L.t,0,none⟩),iv i] w (Rt (.bool (oG s st i)) w):=by
 cases e:bO s.aJ.length i
 ·refine aT func138 ntmps138 ?_;refine aB ?_;refine bY fun k=>?_;refine aB ?_;refine aZ (fun f t=>aGA L.t s.aJ.length L.c L.A i f ((h.below (t.below aD)).r0) e) ?_;refine aB ?_;refine iV aD ?_;simp[oG,e]
 ·obtain⟨n,rfl⟩:∃n:Nat,i=n:=⟨i.toNat,by have:=of_decide_eq_true e;omega⟩
  have d:n < s.aJ.length:=by have:=of_decide_eq_true e;omega
  obtain⟨b,off,c,a,x,r,p,o,_⟩:=h.node d;refine aT func138 ntmps138 ?_;refine aB ?_;refine bY fun k=>?_;refine aB ?_;refine aZ (fun f t=>aGB L.t s.aJ.length L.c b off n f (by rw[←o];exact(h.below (t.below aD)).r0) d) ?_;refine aB ?_;refine cQ fun l=>?_;refine aB ?_;refine kK (vf:=[]) (vc:=[pt k,pt l]) rfl rfl aC ?_;refine aB ?_;refine Wf (fi:=[]) (vs:=[iv (n:Int)]) (ca:=[pt k,pt l]) (fun f t=>aQq L s st m k l n d f (h.below (t.below aD)) ((t.box (i:=1) rfl).at_ (j:=0) rfl) ((t.box (i:=0) rfl).at_ (j:=0) rfl)) ?_;refine aB ?_;refine iV aD ?_;simp[oG,e]
theorem aQs(L:TL)(s:aG)(st:List eE)(G:L.fa.length=s.aJ.length)(y:qF s st)(i:Int)(on:Bool)(w:World)(F:Nat→Prop)(hp:(qA L s st).sat F w)(hF:∀b,F b→b < w.heap.size):
  Cz 220 #[.pointer (some ⟨L.t,0,none⟩),iv i,.bool on] w (Wr (iv (gL s st i on).1) (qA L s (gL s st i on).2) w F):=by
 cases u:bO s.aJ.length i
 ·have o:gL s st i on=(4,st):=by simp[gL,u]
  rw[o];refine dD func220 ntmps220 hp hF ?_;refine aB ?_;refine aZ (fun R t=>aGA L.t s.aJ.length L.c L.A i R ((t.aAq 0 rfl G y).r0) u) ?_;refine aB ?_;exact bU 0 hF
 ·obtain⟨n,rfl⟩:∃n:Nat,i=n:=⟨i.toNat,by have:=of_decide_eq_true u;omega⟩
  have e:n < s.aJ.length:=by have:=of_decide_eq_true u;omega
  have Y:=y.len
  obtain⟨c,B⟩:=get_some e;obtain⟨a,U⟩:=get_some (l:=L.fa) (i:=n) aA;obtain⟨x,C⟩:=get_some (l:=st) (i:=n) aA;obtain⟨f,p⟩:=aAU G y;refine dD func220 ntmps220 hp hF ?_;refine aHx 0 rfl aA fun g O D J H I K=>?_;dsimp only[List.set];rw[D]
  have X:=Br H f p (Kz B U C)
  have V:n*11+11≤O.length:=by omega
  refine bE 1 0 ?_;refine aB ?_;refine aZ (fun R t=>aGB L.t s.aJ.length L.c g 0 n R ((t.box (i:=0) rfl).at_ (j:=0) rfl) e) ?_;refine aN 1 0 ?_;rw[Nat.zero_add];refine aB ?_
  have z:∀N:eE,(kE s L.fa st).set n (qW c a N)=kE s L.fa (st.set n N):=fun N=>aEH B U aA
  refine cN (t:=19) rfl (fun k=>?_) (fun k=>?_)
  ·refine aB ?_;refine aK rfl (fun E=>?_) (fun E=>?_)
   ·have o:gL s st (n:Int) on=(1,st):=by simp[gL,u,B,C,k,E]
    rw[o];refine aB ?_;refine yK 0 D J H I K rfl ?_;exact bU 0 hF
   ·have E:c.kind=103:=Classical.not_not.1 E
    have o:gL s st (n:Int) on=(0,st.set n ⟨on,x.left⟩):=by simp[gL,u,B,C,E,Fs]
    rw[o]
    have m:=X.set 6 (.bool on) (by simp[qW]) aA
    have r:=(tQ.refl O (n*11) 11).set 6 (.bool on) aC
    have d:=zQ (r':=qW c a ⟨on,x.left⟩) H f p e aA rfl m r
    rw[z] at d;refine aB ?_;refine cN (t:=37) rfl (fun h=>absurd h k) (fun _=>?_);refine aB ?_;refine yK 0 D (by simpa using J) d I K rfl ?_;exact bU 0 hF
  ·have k:c.kind=112:=Classical.not_not.1 k
   have m:=X.set 6 (.bool on) (by simp[qW]) aA
   have r:=(tQ.refl O (n*11) 11).set 6 (.bool on) aC
   cases on
   ·have o:gL s st (n:Int) false=(0,st.set n ⟨false,c.lock⟩):=by simp[gL,u,B,C,k,Fs]
    rw[o];refine aB ?_;refine cN (t:=37) rfl (fun _=>?_) (fun h=>absurd k h)
    have M:=m.set 7 (iv c.lock) (by simp[qW]) (by simp;omega)
    have T:=r.set 7 (iv c.lock) aC
    have d:=zQ (r':=qW c a ⟨false,c.lock⟩) H f p e aA rfl M T
    rw[z] at d;refine aB ?_;refine yK 0 D (by simpa using J) d I K rfl ?_;exact bU 0 hF
   ·have o:gL s st (n:Int) true=(0,st.set n ⟨true,x.left⟩):=by simp[gL,u,B,C,k,Fs]
    rw[o]
    have d:=zQ (r':=qW c a ⟨true,x.left⟩) H f p e aA rfl m r
    rw[z] at d;refine aB ?_;refine cN (t:=37) rfl (fun _=>?_) (fun h=>absurd k h);refine aB ?_;refine yK 0 D (by simpa using J) d I K rfl ?_;exact bU 0 hF
theorem aM.vC{p:Piece}{sz n:Nat}{A:Option Addr}{rows:List (List Value)}(h:aM p sz A n rows.flatten)(hl:∀r∈rows,r.length=sz){k:Nat}{r:List Value}(hk:rows[k]? =some r)(c:k < n):
  ∃b off,A=some ⟨b,off,none⟩∧p.Z b∧∀j u,r[j]? =some u→p.w.cell? ⟨b,off+k*sz+j,none⟩=some u:=by
 obtain⟨b,off,i,d,f⟩:=aM.at_ h c;refine⟨b,off,i,d,fun j u a=>f j u ?_⟩
 have e:j < sz:=by
  rw[←hl r (List.mem_of_getElem? hk)];exact(List.getElem?_eq_some_iff.1 a).1
 rw[Md rows hl k j r hk e,a]
theorem aSA{w0:World}{R:List Piece}{H:List HP}{p:Piece}{b o:Nat}{vs:List Value}(hp:p∈R)(a:p.Z b)(h:∀j u,vs[j]? =some u→p.w.cell? ⟨b,o+j,none⟩=some u):aV w0 R H b o vs:=.of fun j v c=>Rd.ro hp a (h j v c)
theorem Na(s:aG)(A1 A2 A3 A4:Option Addr)(n1 k1 n2 k2 n3 k3 n4 k4:Nat)(w:World)(hW:iJ w s A1 n1 A2 n2 A3 n3 A4 n4)(a:Se s=0):
  Cz 54 #[.agg #[.slice A1 n1 k1,.slice A2 n2 k2,.slice A3 n3 k3,.slice A4 n4 k4]] w (Rt (iv 0) w):=by
 have:=Xt s A1 A2 A3 A4 n1 k1 n2 k2 n3 k3 n4 k4 w hW
 rw[a] at this;exact this
def aH9(s:aG)(v:Value)(hs:List HP)(_:Piece):Prop:=∃L:TL,v=.tuple #[.pointer (some ⟨L.t,0,none⟩),iv 0]∧hs=[qA L s (s.aJ.map wT)]∧L.fa.length=s.aJ.length
theorem aQt(s:aG)(I:s.dF)(A1 A2 A3 A4:Option Addr)(n1 k1 n2 k2 n3 k3 n4 k4:Nat)(w:World)(hW:iJ w s A1 n1 A2 n2 A3 n3 A4 n4):
  Cz 62 #[.agg #[.slice A1 n1 k1,.slice A2 n2 k2,.slice A3 n3 k3,.slice A4 n4 k4]] w (fun y w'=>(∃v hs q,y=.returned v∧q.w=w'∧aH9 s v hs q∧gX w hs q)∧Below w.heap.size w w'):=by
 have hnc:=I.t.nc
 have O:∀d∈s.aH,d.aX.length≤1000000:=fun d hd=>by
  obtain⟨i,hi⟩:=List.getElem?_of_mem hd
  have:=I.t.aH i d hi
  unfold cH.fit at this;omega
 refine aT func62 ntmps62 ?_;refine aE ?_;refine bY fun g1=>?_;refine aE ?_;refine aZ (fun B t=>Na s A1 A2 A3 A4 n1 k1 n2 k2 n3 k3 n4 k4 B (hW.le (t.started aD)) I.t.Mz) ?_;refine aE ?_;refine bY fun E=>?_;refine aE ?_;refine kN [] (Zq s) (fun B t=>aCf s A1 A2 A3 A4 n1 k1 n2 k2 n3 k3 n4 k4 B (hW.le (t.started aD)) O) ?_;rintro _ B q1 ⟨cs1,rfl,hS⟩ D _ p
 have p:=p aD
 obtain⟨M,m1,K,B2,m2,j2,B3,m3,j3,B4,m4,j4,rfl,V⟩:=(hS.mono (kU D)).Q;clear D hS;obtain⟨rc,hrc,N,Y⟩:=V.iA;obtain⟨o,F,rfl,T⟩:=aCh hrc;subst N;obtain⟨vL,U⟩:=Tp (f:=yD) (es:=s.aJ) (bs:=o) (sz:=6) F (fun _ _=>rfl)
 have hl0:(s.aJ.map wT).length=s.aJ.length:=by simp
 refine kd (aP4 (off:=0) (cs:=[.slice M s.aJ.length K,.slice B2 m2 j2,.slice B3 m3 j3,.slice B4 m4 j4]) aF rfl rfl) ?_;refine aE ?_;refine mH 214 11 ?_;refine bT [(20,iv 0),(19,iv s.aJ.length),(18,.slice M s.aJ.length K),(5,pt E)] ?_;refine fG (fun m e R H=>∃(i:Nat) (A:Option Addr) (k:Nat),i≤s.aJ.length∧m=s.aJ.length - i∧e=[(20,iv i),(19,iv s.aJ.length),(18,.slice M s.aJ.length K),(5,pt E)]∧R=[q1,all w]∧H=[HP.own 214 11 (.slice A i k) i ((kE s o (s.aJ.map wT)).take i).flatten,HP.aI E 212 [.slice A i k],HP.aI g1 30 [.slice A1 n1 k1,.slice A2 n2 k2,.slice A3 n3 k3,.slice A4 n4 k4]]) s.aJ.length ⟨0,none,0,aA,rfl,rfl,rfl,aD⟩ fun m e R H hI=>?_;obtain⟨i,A,k,hi,rfl,rfl,rfl,rfl⟩:=hI;refine aE ?_;refine aK rfl (fun n=>?_) (fun hge=>?_)
 ·have n:i < s.aJ.length:=aA
  obtain⟨c,C⟩:=get_some n;obtain⟨a,G⟩:=get_some (l:=o) (i:=i) aA;obtain⟨b,off,hB,hz,hcell⟩:=aM.vC Y U (Om C G) n;subst hB
  have hrow:(kE s o (s.aJ.map wT))[i]? =some (qW c a (wT c)):=Kz (L:=⟨0,none,0,o⟩) C G (by rw[List.getElem?_map,C];rfl)
  have j:((kE s o (s.aJ.map wT)).take (i+1)).flatten=((kE s o (s.aJ.map wT)).take i).flatten++qW c a (wT c):=by
   rw[List.take_succ,hrow,List.flatten_append];simp
  have hrn:∀H,aV w [q1,all w] H b (off+i*6) (yD c a):=fun H=>aSA aD hz hcell
  have aSJ:=hrn [HP.own 214 11 (.slice A i k) i ((kE s o (s.aJ.map wT)).take i).flatten,HP.aI E 212 [.slice A i k],HP.aI g1 30 [.slice A1 n1 k1,.slice A2 n2 k2,.slice A3 n3 k3,.slice A4 n4 k4]]
  refine aB ?_;refine kd (dat i (off+i*6)) ?_;refine aE ?_;refine cQ fun g3=>?_;obtain⟨kdx,src,rate,mul,dv,lock⟩:=c;dsimp only[yD];refine aE ?_;refine cQ fun g4=>?_
  have x:=(I.t.aJ i _ C).2
  dsimp only at x;rcases x with⟨rfl,_⟩ | ⟨rfl,_⟩ | ⟨rfl,_⟩ | ⟨rfl,_⟩ | ⟨rfl,_⟩
  ·skip
   refine aB ?_;refine jG [2,3,4,5] ?_;refine bQ 0 ?_;refine bQ 1 ?_;refine aO 2 ?_;refine aO 3 ?_;refine aO 4 ?_;refine aO 5 ?_;refine aQ 6 ?_;refine eT fun J=>?_;refine bH ?_;refine aQ 7 ?_;refine iL 3 11 104 1 (el:=214) aF aF aC rfl rfl rfl (nH 0 rfl rfl) (by simp[Value.oneCell']) rfl aA aA aC fun r u=>?_;dsimp only[List.set];refine cS ?_;refine aQ 8 ?_;refine bJ ?_;refine cS ?_;refine aQ 9 ?_;refine bJ ?_;refine cS ?_;refine aQ 10 ?_;refine eZ rfl rfl ?_;dsimp only[List.set];refine cS ?_;refine eM ?_;refine aB ?_;refine aY [3,4,5] rfl aC (fun _ h=>h) ?_;exact fA (s.aJ.length - (i+1)) ⟨i+1,r,u,n,rfl,rfl,rfl,by rw[j]⟩
  ·skip
   refine aB ?_;refine jG [2,3,4,5] ?_;refine bQ 0 ?_;refine bQ 1 ?_;refine aO 2 ?_;refine aO 3 ?_;refine aO 4 ?_;refine aO 5 ?_;refine aQ 6 ?_;refine eT fun J=>?_;refine bH ?_;refine aQ 7 ?_;refine iL 3 11 104 1 (el:=214) aF aF aC rfl rfl rfl (nH 0 rfl rfl) (by simp[Value.oneCell']) rfl aA aA aC fun r u=>?_;dsimp only[List.set];refine cS ?_;refine aQ 8 ?_;refine bJ ?_;refine cS ?_;refine aQ 9 ?_;refine bJ ?_;refine cS ?_;refine aQ 10 ?_;refine eZ rfl rfl ?_;dsimp only[List.set];refine cS ?_;refine eM ?_;refine aB ?_;refine aY [3,4,5] rfl aC (fun _ h=>h) ?_;exact fA (s.aJ.length - (i+1)) ⟨i+1,r,u,n,rfl,rfl,rfl,by rw[j]⟩
  ·skip
   refine aB ?_;refine jG [2,3,4,5] ?_;refine bQ 0 ?_;refine bQ 1 ?_;refine aO 2 ?_;refine aO 3 ?_;refine aO 4 ?_;refine aO 5 ?_;refine aQ 6 ?_;refine eT fun J=>?_;refine bH ?_;refine aQ 7 ?_;refine iL 3 11 104 1 (el:=214) aF aF aC rfl rfl rfl (nH 0 rfl rfl) (by simp[Value.oneCell']) rfl aA aA aC fun r u=>?_;dsimp only[List.set];refine cS ?_;refine aQ 8 ?_;refine bJ ?_;refine cS ?_;refine aQ 9 ?_;refine bJ ?_;refine cS ?_;refine aQ 10 ?_;refine eZ rfl rfl ?_;dsimp only[List.set];refine cS ?_;refine eM ?_;refine aB ?_;refine aY [3,4,5] rfl aC (fun _ h=>h) ?_;exact fA (s.aJ.length - (i+1)) ⟨i+1,r,u,n,rfl,rfl,rfl,by rw[j]⟩
  ·skip
   refine aB ?_;refine jG [2,3,4,5] ?_;refine bQ 0 ?_;refine bQ 1 ?_;refine aO 2 ?_;refine aO 3 ?_;refine aO 4 ?_;refine aO 5 ?_;refine aQ 6 ?_;refine eT fun J=>?_;refine bH ?_;refine aQ 7 ?_;refine iL 3 11 104 1 (el:=214) aF aF aC rfl rfl rfl (nH 0 rfl rfl) (by simp[Value.oneCell']) rfl aA aA aC fun r u=>?_;dsimp only[List.set];refine cS ?_;refine aQ 8 ?_;refine bJ ?_;refine cS ?_;refine aQ 9 ?_;refine bJ ?_;refine cS ?_;refine aQ 10 ?_;refine eZ rfl rfl ?_;dsimp only[List.set];refine cS ?_;refine eM ?_;refine aB ?_;refine aY [3,4,5] rfl aC (fun _ h=>h) ?_;exact fA (s.aJ.length - (i+1)) ⟨i+1,r,u,n,rfl,rfl,rfl,by rw[j]⟩
  ·skip
   refine aB ?_;refine jG [2,3,4,5] ?_;refine bQ 0 ?_;refine bQ 1 ?_;refine aO 2 ?_;refine aO 3 ?_;refine aO 4 ?_;refine aO 5 ?_;refine aQ 6 ?_;refine eT fun J=>?_;refine bH ?_;refine aQ 7 ?_;refine iL 3 11 104 1 (el:=214) aF aF aC rfl rfl rfl (nH 0 rfl rfl) (by simp[Value.oneCell']) rfl aA aA aC fun r u=>?_;dsimp only[List.set];refine cS ?_;refine aQ 8 ?_;refine bJ ?_;refine cS ?_;refine aQ 9 ?_;refine bJ ?_;refine cS ?_;refine aQ 10 ?_;refine eZ rfl rfl ?_;dsimp only[List.set];refine cS ?_;refine eM ?_;refine aB ?_;refine aY [3,4,5] rfl aC (fun _ h=>h) ?_;exact fA (s.aJ.length - (i+1)) ⟨i+1,r,u,n,rfl,rfl,rfl,by rw[j]⟩
 ·obtain rfl:i=s.aJ.length:=by omega
  refine aE ?_
  have z:(kE s o (s.aJ.map wT)).take s.aJ.length=kE s o (s.aJ.map wT):=List.take_of_length_le (by simp[kE];omega)
  rw[z];refine aY [1,0] rfl aC (fun _ h=>h) ?_;refine Gr p (by simp[all]) (Φ:=sP s o) (hm:=sP.le (s:=s) (fa:=o)) (fun i c a C G=>T i c a C G) ?_;refine aY [1,2,0] rfl aC (fun _ h=>h) ?_;refine vT ?_;refine dK [] [] [0] aD rfl aC aC fun q _ _ X=>?_;exact gF rfl rfl rfl fun B t=>⟨⟨_,_,⟨B,q.Z⟩,rfl,rfl,⟨⟨E,A,k,o⟩,rfl,rfl,F⟩,t.newR aD aD (X aD aD)⟩,t.below aD⟩
def iT(r:Int)(x:jX):Value:=.agg #[iv r,iv x.left,.bool x.held,.bool x.wanted]
def Ik(s:aG)(st:List jX)(i:Nat):Int×Value:=((i:Int),iT (s.bA.getD i 0) (st.getD i qX))
def nV(s:aG)(st:List jX):List (Int×Value):=(List.range st.length).map (Ik s st)
theorem aEX(f:Nat→Value)(n:Nat)(i:Int):mS ((List.range n).map fun j:Nat=>((j:Int),f j)) i=if bO n i then some (f i.toNat) else none:=by
 induction n with
 | zero=>
  have:bO 0 i=false:=decide_eq_false aA
  rw[this];rfl
 | succ n ih =>
  have e:mS ((List.range (n+1)).map fun j:Nat=>((j:Int),f j)) i=(mS ((List.range n).map fun j:Nat=>((j:Int),f j)) i).or (mS [((n:Int),f n)] i):=by
   rw[List.range_succ,List.map_append];unfold mS;rw[List.find?_append];cases List.find? (fun p=>decide (p.1=i)) ((List.range n).map fun j:Nat=>((j:Int),f j))<;>rfl
  rw[e,ih]
  by_cases a:bO n i=true
  ·have:bO (n+1) i=true:=by have:=of_decide_eq_true a;exact decide_eq_true aA
   rw[if_pos a,if_pos this];rfl
  ·have c:bO n i=false:=by simpa using a
   have:=of_decide_eq_false c
   rw[if_neg a,Lf]
   by_cases b:(n:Int)=i
   ·subst b
    have:bO (n+1) (n:Int)=true:=decide_eq_true aA
    rw[if_pos rfl,if_pos this];rfl
   ·have d:bO (n+1) i=false:=decide_eq_false aA
    rw[if_neg b,d];rfl
theorem aMu(f : Nat → Value)(n i : Nat)(v : Value)(hi : i < n) : oH ((List.range n).map fun j : Nat => ((j : Int), f j)) (i : Int) v = (List.range n).map fun j : Nat => ((j : Int), if j = i then v else f j) := by
  have key:∀(l:List Nat),i∈l→l.Nodup→oH (l.map fun j:Nat=>((j:Int),f j)) (i:Int) v=l.map fun j:Nat=>((j:Int),if j=i then v else f j):=by
    intro l
    induction l with
    | nil=>intro h;simp at h
    | cons a l ih =>
      intro h hn;rw[List.map_cons,oH,List.map_cons]
      by_cases ha:(a:Int)=(i:Int)
      · have ha':a=i:=aA
        subst ha';rw[if_pos rfl,if_pos rfl]
        congr 1
        refine List.map_congr_left fun j hj=>?_;rw[if_neg (fun he:j=a=>(List.nodup_cons.1 hn).1 (he▸hj))]
      · rw[if_neg ha,if_neg aA]
        congr 1
        exact ih (by rcases List.mem_cons.1 h with h | h
                     · omega
                     · exact h) (List.nodup_cons.1 hn).2
  exact key _ (List.mem_range.2 hi) List.nodup_range
theorem aEY{s:aG}{st:List jX}(i:Int):mS (nV s st) i=if bO st.length i then some (iT (s.bA.getD i.toNat 0) (st.getD i.toNat qX)) else none:=aEX (fun j=>iT (s.bA.getD j 0) (st.getD j qX)) st.length i
theorem aAY{s:aG}{st:List jX}{i:Nat}{x:jX}{r:Int}(b:s.bA.getD i 0=r)(hi:i < st.length):oH (nV s st) (i:Int) (iT r x)=nV s (st.set i x):=by
 have:=aMu (fun j=>iT (s.bA.getD j 0) (st.getD j qX)) st.length i (iT r x) hi
 refine this.trans ?_;unfold nV;rw[List.length_set];refine List.map_congr_left fun j c=>?_;unfold Ik
 congr 1
 by_cases a:j=i
 ·subst a;rw[if_pos rfl,←b,List.getD_eq_getElem?_getD (l:=st.set j x),List.getElem?_set_self hi];rfl
 ·rw[if_neg a,List.getD_eq_getElem?_getD (l:=st.set i x),List.getElem?_set_ne (Ne.symm a),List.getD_eq_getElem?_getD (l:=st)]
structure RL where
 t:Nat
 g:Nat
def pP(L:RL)(s:aG)(st:List jX):HP:=HP.many [HP.aI L.t 222 [.map (some L.g)],HP.map L.g (nV s st)]
structure Gz(w:World)(L:RL)(s:aG)(st:List jX):Prop where
 r0:gG w L.t 0 (.map (some L.g))
 m:vW w L.g (nV s st)
theorem Gz.below{w w':World}{L:RL}{s:aG}{st:List jX}(h:Gz w L s st)(a:Below w.heap.size w w'):Gz w' L s st:=
 ⟨⟨Nat.lt_of_lt_of_le h.r0.1 a.size,(a.cell (p:=⟨_,0,none⟩) h.r0.1).trans h.r0.2⟩,h.m.below a⟩
section
variable{L:RL}
theorem aHY{F:Nat→Prop}(h:(pP L s st).sat F w):Gz w L s st:=by
 obtain⟨G,a,c,_⟩:=h
 have b:=a 0 _ rfl
 exact⟨⟨b.2.lt,by rw[b.2.cell];rfl⟩,(a 1 _ rfl).2⟩
theorem St.Lo(t:St w0 R H w)(i:Nat)(hi:H[i]? =some (pP L s st)):Gz w L s st:=by
 obtain⟨F,a,b,_⟩:=t.chunk hi;exact aHY a
end
theorem aFh:(Tryz.prog.info? 224).bind (·.zero)=some (iT 0 ⟨0,false,false⟩):=by kernel_rfl
def tL(s:aG)(st:List jX)(i:Int):Value:=if bO st.length i then iT (s.bA.getD i.toNat 0) (st.getD i.toNat qX) else iT 0 ⟨0,false,false⟩
theorem aO8(s:aG)(st:List jX)(i:Int):∃r x,tL s st i=iT r x:=by
 unfold tL;split
 ·exact⟨_,_,rfl⟩
 ·exact⟨_,_,rfl⟩
theorem Pq(L:RL)(s:aG)(st:List jX)(i:Int)(w:World)(c:Gz w L s st):
  Cz 199 #[.pointer (some ⟨L.t,0,none⟩),iv i] w (Rt (.tuple #[tL s st i,.bool (bO st.length i)]) w):=by
 have n:=c.r0
 obtain⟨r,x,b⟩:=aO8 s st i
 have a:=aEY (s:=s) (st:=st) i
 have f:(mS (nV s st) i).getD (iT 0 ⟨0,false,false⟩)=iT r x:=by
  rw[a,←b,tL];split<;>rfl
 have e:(mS (nV s st) i).isSome=bO st.length i:=by
  rw[a];split
  ·rename_i h;rw[h];rfl
  ·rename_i h;simp at h;rw[h];rfl
 rw[b];refine aT func199 ntmps199 ?_;refine aB ?_;refine cQ fun j=>?_;refine aB ?_;refine Tv (kt:=3) (et:=224) (kd:=.i64) (z:=iT 0 ⟨0,false,false⟩) (l:=nV s st) true aF aF aFh rfl rfl (fun d t=>(c.below (t.below aD)).m) aC ?_;simp only[if_true];rw[f,e];refine aB ?_;refine cQ fun k=>?_;unfold iT;refine aB ?_;exact yI rfl aF rfl rfl (by first | assumption | exact aV.whole 0 rfl | exact aV.whole 1 rfl | exact aV.whole 2 rfl | exact aV.whole 3 rfl | exact aV.whole 4 rfl | exact aV.whole 5 rfl | exact aV.whole 6 rfl | exact aV.whole 7 rfl | exact aV.whole 8 rfl | exact xA aD (by assumption)) rfl fun d t=>⟨rfl,t.below aD⟩
theorem aEh(L:RL)(s:aG)(st:List jX)(i:Int)(w:World)(d:Gz w L s st):
  Cz 140 #[.pointer (some ⟨L.t,0,none⟩),iv i] w (Rt (.bool (zN st i)) w):=by
 refine aT func140 ntmps140 ?_;refine aB ?_;refine aZ (fun c t=>Pq L s st i c (d.below (t.below aD))) ?_;refine aB ?_;refine cQ fun e=>?_;cases a:bO st.length i
 ·have b:tL s st i=iT 0 ⟨0,false,false⟩:=by simp[tL,a]
  rw[b];unfold iT;refine aB ?_;refine iV aD ?_;simp[zN,a]
 ·have b:tL s st i=iT (s.bA.getD i.toNat 0) (st.getD i.toNat qX):=by simp[tL,a]
  rw[b];unfold iT;refine aB ?_;refine iV aD ?_
  have:i.toNat < st.length:=by have:=of_decide_eq_true a;omega
  simp[zN,a,List.getElem?_eq_getElem this]
theorem aGn:∀{cl:List Dom} {a:List (List Value)},Rows tX 3 cl a→a=cl.map fun d=>[iv d.above,iv d.delay,.bool d.ret]
 | [],[],_=>rfl
 | e::es,r::a,h=>by
  have b:r=[iv e.above,iv e.delay,.bool e.ret]:=h.2.1
  rw[b,aGn h.2.2];rfl
theorem aEg:∀{cl:List Int} {a:List (List Value)},Rows wY 1 cl a→a=cl.map fun d=>[iv d]
 | [],[],_=>rfl
 | e::es,r::a,h=>by
  have b:r=[iv e]:=h.2.1
  rw[b,aEg h.2.2];rfl
def aIg(s:aG)(v:Value)(hs:List HP)(_:Piece):Prop:=∃L:GL,v=.tuple #[.pointer (some ⟨L.t,0,none⟩),iv 0]∧hs=[uX L s (s.domains.map fun _=>wN)]
theorem aLv(s:aG)(z:s.dF)(A1 A2 A3 A4:Option Addr)(n1 k1 n2 k2 n3 k3 n4 k4:Nat)(w:World)(hW:iJ w s A1 n1 A2 n2 A3 n3 A4 n4):
  Cz 63 #[.agg #[.slice A1 n1 k1,.slice A2 n2 k2,.slice A3 n3 k3,.slice A4 n4 k4]] w (fun y w'=>(∃v hs q,y=.returned v∧q.w=w'∧aIg s v hs q∧gX w hs q)∧Below w.heap.size w w'):=by
 have C:=z.t.nd
 obtain⟨rd,j,n,o⟩:=hW.dom
 have j:=aGn j
 subst j;subst n
 have E:(s.domains.map fun _=>wN).length=s.domains.length:=by simp
 refine aT func63 ntmps63 ?_;refine aB ?_;refine bY fun I=>?_;refine aB ?_;refine aZ (fun u t=>Na s A1 A2 A3 A4 n1 k1 _ k2 n3 k3 n4 k4 u (hW.le (t.started aD)) z.t.Mz) ?_;refine aB ?_;refine kd (iU rfl) ?_;refine bY fun l=>?_;refine aB ?_;refine mH 219 7 ?_;refine bT [(18,iv 0),(17,iv s.domains.length),(16,.slice A2 s.domains.length k2),(5,pt l)] ?_;refine fG (fun m e R H=>∃(i:Nat) (A:Option Addr) (k:Nat),i≤s.domains.length∧m=s.domains.length - i∧e=[(18,iv i),(17,iv s.domains.length),(16,.slice A2 s.domains.length k2),(5,pt l)]∧R=[all w]∧H=[HP.own 219 7 (.slice A i k) i ((pV s (s.domains.map fun _=>wN)).take i).flatten,HP.aI l 217 [.slice A i k],HP.aI I 30 [.slice A1 n1 k1,.slice A2 s.domains.length k2,.slice A3 n3 k3,.slice A4 n4 k4]]) s.domains.length ⟨0,none,0,aA,rfl,rfl,rfl,aD⟩ fun m e R H D=>?_;obtain⟨i,A,k,N,rfl,rfl,rfl,rfl⟩:=D;refine aB ?_;refine aK rfl (fun a=>?_) (fun K=>?_)
 ·have a:i < s.domains.length:=aA
  obtain⟨c,x⟩:=get_some a;obtain⟨b,off,J,B⟩:=aM.row o (fun r F=>by obtain⟨q,_,rfl⟩:=List.mem_map.1 F;rfl) (r:=[iv c.above,iv c.delay,.bool c.ret]) (by rw[List.getElem?_map,x];rfl) a;subst J
  have hrow:(pV s (s.domains.map fun _=>wN))[i]? =some (oZ c wN):=Gh x (by rw[List.getElem?_map,x];rfl)
  have f:((pV s (s.domains.map fun _=>wN)).take (i+1)).flatten=((pV s (s.domains.map fun _=>wN)).take i).flatten++oZ c wN:=by
   rw[List.take_succ,hrow,List.flatten_append];simp
  refine aB ?_;refine kd (dat i (off+i*3)) ?_;refine aB ?_;refine cQ fun O=>?_;refine aB ?_;refine jG [2,3,4,5,6] ?_;refine bQ 0 ?_;refine bQ 1 ?_;refine aO 2 ?_;refine aO 3 ?_;refine aO 4 ?_;refine aO 5 ?_;refine aO 6 ?_ (dG:=lI (zs:=[iv 0,iv 0,.bool false,.int .u8 0,iv 0,.bool false,.bool false]) (L:=[(0,3),(3,1),(4,1),(5,1),(6,1)]) (iH aF) aF rfl (by simp[fL,gR,Value.cells];rfl));refine aQ 7 ?_;refine eT fun T=>?_;refine bH ?_;refine aQ 8 ?_;refine iL 2 7 48 1 (el:=219) aF aF aC rfl rfl rfl (nH 0 rfl rfl) (by simp[Value.oneCell']) rfl aA aA aC fun M G=>?_;dsimp only[List.set];refine cS ?_;refine aQ 9 ?_;refine bJ ?_;refine cS ?_;refine aQ 10 ?_;refine bJ ?_;refine cS ?_;refine aQ 11 ?_;refine eZ rfl rfl ?_;dsimp only[List.set];refine cS ?_;refine eM ?_;refine aB ?_;refine aY [2,3,4] rfl aC (fun _ h=>h) ?_;exact fA (s.domains.length - (i+1)) ⟨i+1,M,G,a,rfl,rfl,rfl,by rw[f]⟩
 ·obtain rfl:i=s.domains.length:=by omega
  refine aB ?_
  have d:(pV s (s.domains.map fun _=>wN)).take s.domains.length=pV s (s.domains.map fun _=>wN):=List.take_of_length_le (by simp[pV])
  rw[d];refine aY [1,0] rfl aC (fun _ h=>h) ?_;refine nM ?_;refine dK [] [] [0] aD rfl aC aC fun q _ _ p=>?_;exact gF rfl rfl rfl fun u t=>⟨⟨_,_,⟨u,q.Z⟩,rfl,rfl,⟨⟨l,A,k⟩,rfl,rfl⟩,t.newR aD aD (p aD aD)⟩,t.below aD⟩
theorem aI1{N:cO}{w0:World}{e:Env}{R:List Piece}{H:List HP}{Q:Exit→Act→World→Prop}{ops:Array Oper}{rest:List Oper}{d:Nat}{ty:TypeId}{pos:String}{aL:Array Edge}{x:Operand}{n:Int}{t kt et:TypeId}(c:Tryz.prog.underlying t=some (.map kt et))(hx:e.ev x=some (iv n))(hd:d < N.n)(k:∀g,XK N w0 (wpList Tryz.prog ops Q rest) ((d,.map (some g))::e) R (HP.map g []::H)):XK N w0 (wpList Tryz.prog ops Q (⟨some d,.makeMap t (some x),ty,pos,aL,none⟩::rest)) e R H:=
 sV rfl fun a w b st=>⟨.map (some w.heap.size),w.alloc (.map #[] 0),by simp[execOp,Instr.makeMap,b.ev hx,run_underlying c,asInt,asIntOf],k w.heap.size _ _ (b.put hd _) (st.new (Ng w _) ⟨⟨Nat.le_refl _,aD⟩,#[],0,heap_alloc_new w _,rfl⟩)⟩
def aHX(s:aG)(v:Value)(hs:List HP)(_:Piece):Prop:=∃L:RL,v=.tuple #[.pointer (some ⟨L.t,0,none⟩),iv 0]∧hs=[pP L s (s.bA.map fun _=>qX)]
theorem aMt(l:List (Int×Value))(k:Int)(v:Value)(h:mS l k=none):oH l k v=l++[(k,v)]:=by
 induction l with
 | nil=>rfl
 | cons p l ih =>
  obtain⟨a,b⟩:=p;rw[Lf] at h;rw[oH];split at h
  ·cases h
  ·rename_i c
   rw[if_neg c,ih h];rfl
theorem aKz(s:aG)(x:s.dF)(A1 A2 A3 A4:Option Addr)(n1 k1 n2 k2 n3 k3 n4 k4:Nat)(w:World)(hW:iJ w s A1 n1 A2 n2 A3 n3 A4 n4):
  Cz 64 #[.agg #[.slice A1 n1 k1,.slice A2 n2 k2,.slice A3 n3 k3,.slice A4 n4 k4]] w (fun y w'=>(∃v hs q,y=.returned v∧q.w=w'∧aHX s v hs q∧gX w hs q)∧Below w.heap.size w w'):=by
 have D:=x.t.nr
 obtain⟨J,d,k,n⟩:=hW.zC
 have d:=aEg d
 subst d;subst k
 have E:(s.bA.map fun _=>qX).length=s.bA.length:=by simp
 refine aT func64 ntmps64 ?_;refine aB ?_;refine bY fun F=>?_;refine aB ?_;refine aZ (fun u t=>Na s A1 A2 A3 A4 n1 k1 n2 k2 _ k3 n4 k4 u (hW.le (t.started aD)) x.t.Mz) ?_;refine aB ?_;refine aI1 (kt:=3) (et:=224) aF rfl aC fun p=>?_;refine kd (iU rfl) ?_;refine bY fun f=>?_;refine aB ?_;refine bT [(22,iv 0),(21,iv s.bA.length),(20,.slice A3 s.bA.length k3),(5,pt f)] ?_;refine fG (fun m e R H=>∃i:Nat,i≤s.bA.length∧m=s.bA.length - i∧e=[(22,iv i),(21,iv s.bA.length),(20,.slice A3 s.bA.length k3),(5,pt f)]∧R=[all w]∧H=[HP.aI f 222 [.map (some p)],HP.map p ((List.range i).map (Ik s (s.bA.map fun _=>qX))),HP.aI F 30 [.slice A1 n1 k1,.slice A2 n2 k2,.slice A3 s.bA.length k3,.slice A4 n4 k4]]) s.bA.length ⟨0,aA,rfl,rfl,rfl,rfl⟩ fun m e R H B=>?_;obtain⟨i,K,rfl,rfl,rfl,rfl⟩:=B;refine aB ?_;refine aK rfl (fun a=>?_) (fun I=>?_)
 ·have a:i < s.bA.length:=aA
  obtain⟨c,z⟩:=get_some a;obtain⟨b,off,G,A⟩:=aM.row n (fun r C=>by obtain⟨q,_,rfl⟩:=List.mem_map.1 C;rfl) (r:=[iv c]) (by rw[List.getElem?_map,z];rfl) a;subst G
  have mA:oH ((List.range i).map (Ik s (s.bA.map fun _=>qX))) (i:Int) (iT c qX)=(List.range (i+1)).map (Ik s (s.bA.map fun _=>qX)):=by
   rw[aMt _ _ _ (by
    have:=aEX (fun j=>iT (s.bA.getD j 0) ((s.bA.map fun _=>qX).getD j qX)) i (i:Int)
    rw[if_neg (by simp[bO])] at this
    exact this),List.range_succ,List.map_append]
   congr 1
   simp[Ik,List.getD_eq_getElem?_getD,z]
  refine aB ?_;refine kd (dat i (off+i*1)) ?_;refine aB ?_;refine cQ fun M=>?_;refine aB ?_;refine jG [1,2,3,5,6,7] ?_;refine bQ 0 ?_;refine aO 1 ?_;refine aO 2 ?_;refine aO 3 ?_;refine bQ 4 ?_;refine aO 5 ?_;refine aO 6 ?_;refine aO 7 ?_ (dG:=lI (zs:=[iv 0,iv 0,.bool false,.bool false]) (L:=[(0,1),(1,1),(2,1),(3,1)]) (iH aF) aF rfl (by simp[fL,gR,Value.cells];rfl));refine aQ 8 ?_;refine Ex (kt:=3) (et:=224) (kd:=.i64) (l:=(List.range i).map (Ik s (s.bA.map fun _=>qX))) (v:=iT c qX) 2 aF aF rfl rfl rfl rfl ?_;rw[mA];dsimp only[List.set];refine cS ?_;refine eM ?_;refine aB ?_;refine aY [1,2,3] rfl aC (fun _ h=>h) ?_;exact fA (s.bA.length - (i+1)) ⟨i+1,a,rfl,rfl,rfl,rfl⟩
 ·obtain rfl:i=s.bA.length:=by omega
  refine aB ?_;refine nM ?_;refine dK [] [] [0] aD rfl aC aC fun q _ _ o=>?_;exact gF rfl rfl rfl fun u t=>⟨⟨_,_,⟨u,q.Z⟩,rfl,rfl,⟨⟨f,p⟩,rfl,by simp[pP,nV]⟩,t.newR aD aD (o aD aD)⟩,t.below aD⟩
structure jH where
 id:Int
 wr:Bool
 bZ:Int
 val:Int
def jH.cells(t:jH):List Value:=[iv t.id,.bool t.wr,iv t.bZ,.int .u32 t.val]
def QH(v:Value):Option jH→HP
 | none=>Jz (∃A,v=.slice A 0 0)
 | some t=>HP.own 307 4 v 1 t.cells
structure BL where
 b:Nat
 gr:Nat
 gw:Nat
def kS(ws:List (Option jH))(i:Nat):Nat:=if((ws[i]?).join).isSome then 1 else 0
def aCG(g n:Nat)(ws:List (Option jH)):HP:=HP.ex fun a:List Value=>HP.many (HP.aI g 312 a::Jz (a.length=n)::(List.range n).map fun i=>QH (a.getD i undef) (ws[i]?).join)
def xH(L:BL)(ms:List Int)(ws:List (Option jH))(aS:Int):HP:=HP.many [HP.aI L.b 232 [.slice (some ⟨L.gr,0,none⟩) ms.length ms.length,.slice (some ⟨L.gw,0,none⟩) ms.length ms.length,iv aS],HP.aI L.gr 3 (aR ms),aCG L.gw ms.length ws]
structure Ew(w:World)(L:BL)(ms:List Int)(ws:List (Option jH))(aS:Int):Prop where
 r0:eA w L.b 0 [.slice (some ⟨L.gr,0,none⟩) ms.length ms.length,.slice (some ⟨L.gw,0,none⟩) ms.length ms.length,iv aS]
 rg:eA w L.gr 0 (aR ms)
 wt:∀i,i < ms.length→∃A c,gG w L.gw i (.slice A (kS ws i) c)
theorem Ew.below{w w':World}{L:BL}{ms:List Int}{ws:List (Option jH)}{aS:Int}(h:Ew w L ms ws aS)(a:Below w.heap.size w w'):Ew w' L ms ws aS:=
 ⟨h.r0.below a,h.rg.below a,fun i d=>by
  obtain⟨A,c,b,e⟩:=h.wt i d
  exact⟨A,c,Nat.lt_of_lt_of_le b a.size,(a.cell (p:=⟨_,i,none⟩) b).trans e⟩⟩
theorem aIr{L:BL}{ms:List Int}{ws:List (Option jH)}{aS:Int}{F:Nat→Prop}{w:World}(h:(xH L ms ws aS).sat F w):Ew w L ms ws aS:=by
 obtain⟨G,e,u,_⟩:=h;refine⟨uP (e 0 _ rfl).2,uP (e 1 _ rfl).2,fun i o=>?_⟩;obtain⟨j,p,d,_,_⟩:=e 2 _ rfl
 have n:=uP (d 0 _ rfl).2
 have r:j.length=ms.length:=d 1 _ rfl
 obtain⟨v,k⟩:=get_some (l:=j) (i:=i) aA
 have a:=d (i+2) (QH (j.getD i undef) (ws[i]?).join) (by
  rw[List.getElem?_cons_succ,List.getElem?_cons_succ,List.getElem?_map,List.getElem?_range o];rfl)
 rw[List.getD_eq_getElem?_getD,k] at a
 have f:=n.at_ k
 rw[Nat.zero_add] at f;unfold kS;cases m:(ws[i]?).join with
 | none=>
  rw[m] at a;obtain⟨A,b⟩:∃A,v=.slice A 0 0:=a;subst b;exact⟨A,0,f⟩
 | some t=>
  rw[m] at a;obtain⟨A,c,b,_⟩:=yQ (Y:=fun _=>True) a (fun _ _=>trivial)
  have b:v=.slice A 1 c:=b
  subst b;exact⟨A,c,f⟩
section
variable{L:BL}{ws:List (Option jH)}
theorem St.aGM(t:St w0 R H w)(i:Nat)(hi:H[i]? =some (xH L ms ws aS)):Ew w L ms ws aS:=by
 obtain⟨F,a,b,_⟩:=t.chunk hi;exact aIr a
end
theorem Yc(L:BL)(ms:List Int)(ws:List (Option jH))(aS:Int)(i:Int)(w:World)(a:Ew w L ms ws aS):
  Cz 203 #[.pointer (some ⟨L.b,0,none⟩),iv i] w (Rt (.bool (bO ms.length i)) w):=by
 have c:=a.r0.at_ (j:=0) rfl
 refine aT func203 ntmps203 ?_;refine aB ?_;refine cN (t:=11) rfl (fun h=>?_) (fun h=>?_)
 ·refine aB ?_;refine iV aD ?_;unfold bO
  congr 1
  simp;omega
 ·refine aB ?_;refine iV aD ?_
  have:bO ms.length i=false:=decide_eq_false aA
  rw[this]
theorem aGK(L:BL)(ms:List Int)(ws:List (Option jH))(aS:Int)(i:Nat)(hi:i < ms.length)(w:World)(d:Ew w L ms ws aS):
  Cz 144 #[.pointer (some ⟨L.b,0,none⟩),iv (i:Int)] w (Rt (iv (kS ws i:Nat)) w):=by
 have f:=d.r0.at_ (j:=1) rfl
 obtain⟨A,c,hw⟩:=d.wt i hi
 have a:bO ms.length (i:Int)=true:=decide_eq_true aA
 refine aT func144 ntmps144 ?_;refine aB ?_;refine aZ (fun e t=>Yc L ms ws aS i e (d.below (t.below aD))) ?_;rw[a];refine aE ?_;exact dL
def aIq(ms:List Int)(v:Value)(hs:List HP)(_:Piece):Prop:=∃L:BL,v=.tuple #[.pointer (some ⟨L.b,0,none⟩),iv 0]∧hs=[xH L ms (ms.map fun _=>none) 0]
theorem aJb{N:cO}{w0:World}{e:Env}{R:List Piece}{H:List HP}{K:Act→World→Prop}{g n:Nat}{β:Type}(l:List β)(hl:l.length=n)(i:Nat)(hi:H[i]? =some (HP.aI g 312 (List.replicate n (sn))))(h:XK N w0 K e R (H.set i (aCG g n (l.map fun _=>none)))):XK N w0 K e R H:=by
 refine pY (q:=aCG g n (l.map fun _=>none)) i hi (fun F w d=>⟨List.replicate n (sn),fun k b=>k=0∧F b,fun k p a=>?_,fun k b h=>h.2,fun k j b f o r=>by have:=o.1;have:=r.1;omega⟩) h
 match k,a with
 | 0,a=>
  simp at a;subst a
  show(HP.aI g 312 (List.replicate n (sn))).sat (fun b=>0=0∧F b) w
  rw[show(fun b=>0=0∧F b)=F by funext b;simp];exact d
 | 1,a=>cases a;show(List.replicate n (Value.slice none 0 0)).length=n;simp
 | k + 2, a =>
  rw[List.getElem?_cons_succ,List.getElem?_cons_succ,List.getElem?_map] at a;cases c:(List.range n)[k]? with
  | none=>rw[c] at a;cases a
  | some j =>
   rw[c] at a
   have m:j < n:=List.mem_range.1 (List.mem_of_getElem? c)
   have:((l.map fun _=>(none:Option jH))[j]?).join=none:=by
    rw[List.getElem?_map];cases l[j]? <;>rfl
   simp only[Option.map_some,Option.some.injEq,this] at a;subst a;refine⟨none,?_⟩;rw[List.getD_eq_getElem?_getD,List.getElem?_replicate,if_pos m];rfl
theorem aQR(ms:List Int)(x:ms.length≤6)(hm:∀m∈ms,0≤m∧m≤8)(A:Option Addr)(c:Nat)(w:World)(hs:aM (all w) 1 A ms.length (aR ms)):
  Cz 68 #[.slice A ms.length c] w (fun y w'=>(∃v hs q,y=.returned v∧q.w=w'∧aIq ms v hs q∧gX w hs q)∧Below w.heap.size w w'):=by
 refine aT func68 ntmps68 ?_;refine eG ?_;refine gN ?_;refine bJ ?_;refine bJ ?_;refine fP ?_;refine eG ?_;refine eG ?_;refine gN ?_;refine bJ ?_;refine bJ ?_;refine bJ ?_;refine aE ?_;refine aK rfl (fun h=>absurd h aA) (fun _=>?_);refine pF ?_;refine eR ?_;refine Nq (fun e R H=>∃d gw a,e=[(4,pt a),(0,.slice A ms.length c)]∧R=[all w]∧H=[HP.aI a 232 [.slice (some ⟨d,0,none⟩) ms.length ms.length,.slice (some ⟨gw,0,none⟩) ms.length ms.length,iv 0],HP.aI d 3 (List.replicate ms.length (iv 0)),HP.aI gw 312 (List.replicate ms.length (sn))]) ?_ ?_
 ·refine rK 6 aF aF ?_;refine cE 0 ?_;refine cE 1 ?_;refine cE 3 ?_;refine cE 4 ?_;refine Gv 2 5 rfl rfl aF ?_ ?_
  ·refine mN (n:=ms.length) 8 (el:=3) (z:=iv 0) aF aF rfl rfl rfl aA aA aC fun d=>?_;refine nO ?_;refine cX 5 ?_;refine mN (n:=ms.length) 24 (el:=312) (z:=sn) aF aF rfl rfl rfl aA aA aC fun gw=>?_;refine nO ?_;refine cX 6 ?_;refine kd (iU rfl) ?_;refine fB ?_;refine cX 7 ?_;refine bY fun a=>?_;refine fB ?_;refine cX 8 ?_;refine bJ ?_;refine fB ?_;refine lA ?_;refine eR ?_;exact oJ ⟨d,gw,a,rfl,rfl,rfl⟩
  ·refine mN (n:=ms.length) 24 (el:=312) (z:=sn) aF aF rfl rfl rfl aA aA aC fun gw=>?_;refine nO ?_;refine cX 2 ?_;refine mN (n:=ms.length) 8 (el:=3) (z:=iv 0) aF aF rfl rfl rfl aA aA aC fun d=>?_;refine nO ?_;refine cX 6 ?_;refine kd (iU rfl) ?_;refine fB ?_;refine cX 7 ?_;refine bY fun a=>?_;refine fB ?_;refine cX 8 ?_;refine bJ ?_;refine fB ?_;refine lA ?_;refine eR ?_;exact oJ ⟨d,gw,a,rfl,rfl,rfl⟩
 rintro _ _ _ ⟨d,gw,a,rfl,rfl,rfl⟩;refine aE ?_;refine bT [(20,iv 0),(19,iv ms.length),(18,.slice A ms.length c),(4,pt a)] ?_
 refine fG (fun m e R H=>∃i:Nat,i≤ms.length∧m=ms.length - i∧e=[(20,iv i),(19,iv ms.length),(18,.slice A ms.length c),(4,pt a)]∧R=[all w]∧H=[HP.aI a 232 [.slice (some ⟨d,0,none⟩) ms.length ms.length,.slice (some ⟨gw,0,none⟩) ms.length ms.length,iv 0],HP.aI d 3 (aR (kV ms (ms.map fun _=>0) i)),HP.aI gw 312 (List.replicate ms.length (sn))]) ms.length ⟨0,aA,rfl,rfl,rfl,by
  rw[Qe]
  have:List.replicate ms.length (Value.int .i64 0)=aR (ms.map fun _=>0):=by
   refine List.ext_getElem? fun j=>?_;simp only[aR,List.map_map,List.getElem?_replicate,List.getElem?_map]
   by_cases h:j < ms.length
   ·rw[if_pos h,List.getElem?_eq_getElem h];rfl
   ·rw[if_neg h,List.getElem?_eq_none aA];rfl
  rw[this]⟩ fun m e R H r=>?_
 obtain⟨i,p,rfl,rfl,rfl,rfl⟩:=r
 have k:=Qg (vs:=ms) (old:=ms.map fun _=>0) (n:=ms.length) rfl aD p
 refine aE ?_;refine aK rfl (fun f=>?_) (fun G=>?_)
 ·have f:i < ms.length:=aA
  obtain⟨v,l⟩:=get_some f
  have u:=hm v (List.mem_of_getElem? l)
  obtain⟨b,off,F,B,I⟩:=hs.2 aA;subst F
  have C:gG w b (off+i) (iv v):=⟨B,I i _ (by simp[aR,l])⟩
  have D:(aR (kV ms (ms.map fun _=>0) i)).length=ms.length:=by simp[aR,k]
  have mA:(aR (kV ms (ms.map fun _=>0) i)).set i (iv v)=aR (kV ms (ms.map fun _=>0) (i+1)):=by
   rw[←Qf aD l,aR,aR,List.map_set]
  refine aB ?_;refine kd (dat i (off+i)) ?_;refine aE ?_;refine cN (t:=27) rfl (fun h=>absurd h aA) (fun _=>?_);refine aE ?_;refine aK rfl (fun h=>absurd h aA) (fun _=>?_);refine aE ?_;rw[mA];refine aE ?_;exact fA (ms.length - (i+1)) ⟨i+1,f,rfl,rfl,rfl,rfl⟩
 ·obtain rfl:i=ms.length:=by omega
  rw[Qh rfl aD];refine aE ?_;refine aJb ms rfl 2 rfl ?_;dsimp only[List.set];refine vT ?_;refine dK [] [] [0] aD rfl aC aC fun q _ _ o=>?_;exact gF rfl rfl rfl fun E t=>⟨⟨_,_,⟨E,q.Z⟩,rfl,rfl,⟨⟨a,d,gw⟩,rfl,rfl⟩,t.newR aD aD (o aD aD)⟩,t.below aD⟩
structure aP where
 ck:List eE
 dm:List fH
 ln:List jX
 dv:List (dB×dN)
 wt:List (Option jH)
 aS:Int
def hw0(s:aG):aP:=⟨s.aJ.map wT,s.domains.map fun _=>wN,s.bA.map fun _=>qX,s.aH.map fun d=>(Bs d,Ky),s.aH.map fun _=>none,0⟩
structure HL where
 h:Nat
 T:TL
 G:GL
 R:RL
 B:BL
 A:Option Addr
 c:Nat
 ds:List (FL×Nat)
def Gg(d:cH)(l:FL×Nat):List Value:=[iv d.clock,iv d.domain,iv d.reset,.int .u32 d.vP,.pointer (some ⟨l.1.f,0,none⟩),.pointer (some ⟨l.2,0,none⟩)]
def vN(ds:List cH)(a:List (FL×Nat)):List (List Value):=List.zipWith Gg ds a
def Mp(d:cH)(p:(FL×Nat)×(dB×dN)):HP:=HP.many [iF p.1.1 d p.2.1,tT p.1.2 p.2.2]
def wM(ds:List cH)(a:List (FL×Nat))(xs:List (dB×dN)):List HP:=List.zipWith Mp ds (a.zip xs)
def kF(s:aG):List Int:=s.aH.map fun d=>(d.aX.length:Int)
def Qt(L:HL)(n:Nat):List Value:=[.pointer (some ⟨L.T.t,0,none⟩),.pointer (some ⟨L.G.t,0,none⟩),.pointer (some ⟨L.R.t,0,none⟩),.pointer (some ⟨L.B.b,0,none⟩),.slice L.A n L.c]
def dS(L:HL)(s:aG)(x:aP):HP:=HP.many [HP.aI L.h 175 (Qt L s.aH.length),qA L.T s x.ck,uX L.G s x.dm,pP L.R s x.ln,xH L.B (kF s) x.wt x.aS,HP.own 182 6 (.slice L.A s.aH.length L.c) s.aH.length (vN s.aH L.ds).flatten,HP.many (wM s.aH L.ds x.dv)]
def aHZ(s:aG)(v:Value)(hs:List HP)(_:Piece):Prop:=∃L:HL,v=.tuple #[.pointer (some ⟨L.h,0,none⟩),iv 0]∧hs=[dS L s (hw0 s)]∧L.T.fa.length=s.aJ.length∧L.ds.length=s.aH.length
theorem Dh(s:aG):(kF s).length=s.aH.length:=by simp[kF]
theorem aPe{ds:List cH}{i:Nat}{d:cH}(hd:ds[i]? =some d){a:List (FL×Nat)}(hl:a.length=i)(l:FL×Nat):wM (ds.take (i+1)) (a++[l]) ((ds.take (i+1)).map fun d=>(Bs d,Ky))=wM (ds.take i) a ((ds.take i).map fun d=>(Bs d,Ky))++[Mp d (l,(Bs d,Ky))]:=by
 have b:i < ds.length:=wK hd
 rw[List.take_succ,hd,Option.toList_some,List.map_append];unfold wM;rw[List.zip_append (by simp;omega),List.zipWith_append (by simp;omega)];rfl
theorem aPd{ds:List cH}{i:Nat}{d:cH}(hd:ds[i]? =some d){a:List (FL×Nat)}(hl:a.length=i)(l:FL×Nat):(vN (ds.take (i+1)) (a++[l])).flatten=(vN (ds.take i) a).flatten++Gg d l:=by
 have b:i < ds.length:=wK hd
 rw[List.take_succ,hd,Option.toList_some];unfold vN;rw[List.zipWith_append (by simp;omega),List.flatten_append];simp
theorem rH{N:cO}{w0:World}{e:Env}{R:List Piece}{H:List HP}{K:Act→World→Prop}{p:HP}{ps:List HP}(h:XK N w0 K e R (HP.many (ps++[p])::H)):XK N w0 K e R (HP.many ps::p::H):=fun a w d st=>
 (Ss (ps:=ps) (p:=p) h) a w d (st.weak (fun _ h=>h) (fun i=>match i with
  | 0=>1
  | 1=>0
  | i+2=>i+2) (fun i j _ _ b=>by
   match i,j with
   | 0,0=>rfl
   | 0,1=>simp at b
   | 0,j+2=>simp at b
   | 1,0=>simp at b
   | 1,1=>rfl
   | 1,j+2=>simp at b
   | i+2,0=>simp at b
   | i+2,1=>simp at b
   | i+2,j+2=>simpa using b) (fun i p c=>by
   match i,c with
   | 0,c=>simpa using c
   | 1,c=>simpa using c
   | i+2,c=>simpa using c))
theorem aRV{N:cO}{w0:World}{e:Env}{R:List Piece}{H:List HP}{K:Act→World→Prop}(h:XK N w0 K e R (HP.many []::H)):XK N w0 K e R H:=pH (p:=HP.many []) (fun w=>⟨fun _ _=>False,fun i p a=>by simp at a,fun _ _ h=>h,fun _ _ _ _ h=>h.elim⟩) h
theorem aNO(s:aG)(B:s.dF)(A1 A2 A3 A4:Option Addr)(n1 k1 n2 k2 n3 k3 n4 k4:Nat)(w:World)(hW:iJ w s A1 n1 A2 n2 A3 n3 A4 n4):
  Cz 38 #[.agg #[.slice A1 n1 k1,.slice A2 n2 k2,.slice A3 n3 k3,.slice A4 n4 k4]] w (fun y w'=>(∃v hs q,y=.returned v∧q.w=w'∧aHZ s v hs q∧gX w hs q)∧Below w.heap.size w w'):=by
 have Dl:=B.t.nv
 obtain⟨rv,T,L,N⟩:=hW.dev;obtain⟨da,J,rfl,O⟩:=aBW T;subst L;refine aT func38 ntmps38 ?_;refine aE ?_;refine bY fun g1=>?_;refine aE ?_;refine aZ (fun a t=>Na s A1 A2 A3 A4 n1 k1 n2 k2 n3 k3 _ k4 a (hW.le (t.started aD)) B.t.Mz) ?_;refine aE ?_;refine fK (aH9 s) (fun a t=>aQt s B A1 A2 A3 A4 n1 k1 n2 k2 n3 k3 _ k4 a (hW.le (t.started aD))) ?_;rintro _ _ Y ⟨K,rfl,rfl,M⟩ _;dsimp only[List.cons_append,List.nil_append];refine aE ?_;refine fK (aIg s) (fun a t=>aLv s B A1 A2 A3 A4 n1 k1 n2 k2 n3 k3 _ k4 a (hW.le (t.started aD))) ?_;rintro _ _ q2 ⟨U,rfl,rfl⟩ _;dsimp only[List.cons_append,List.nil_append];refine aE ?_;refine fK (aHX s) (fun a t=>aKz s B A1 A2 A3 A4 n1 k1 n2 k2 n3 k3 _ k4 a (hW.le (t.started aD))) ?_;rintro _ _ q3 ⟨X,rfl,rfl⟩ _;dsimp only[List.cons_append,List.nil_append];refine aE ?_;refine bY fun F=>?_;refine aE ?_;refine mN (n:=s.aH.length) 8 (el:=3) (z:=iv 0) aF aF rfl rfl rfl aA aA aC fun E=>?_;refine aE ?_;refine mH 182 6 ?_;refine aRV ?_;refine aY [0,1,2,3,4,5,6] rfl aC (R':=[all w]) aD ?_;refine bT [(56,iv 0),(55,iv s.aH.length),(54,.slice A4 s.aH.length k4),(10,.slice (some ⟨E,0,none⟩) s.aH.length s.aH.length),(9,pt F)] ?_;refine fG (fun m e R H=>∃(i:Nat) (A:Option Addr) (c:Nat) (C:List (FL×Nat)),i≤s.aH.length∧C.length=i∧m=s.aH.length - i∧e=[(56,iv i),(55,iv s.aH.length),(54,.slice A4 s.aH.length k4),(10,.slice (some ⟨E,0,none⟩) s.aH.length s.aH.length),(9,pt F)]∧R=[all w]∧H=[HP.many (wM (s.aH.take i) C ((s.aH.take i).map fun d=>(Bs d,Ky))),HP.own 182 6 (.slice A i c) i (vN (s.aH.take i) C).flatten,HP.aI E 3 (aR (kV (kF s) ((kF s).map fun _=>0) i)),HP.aI F 175 [.pointer (some ⟨K.t,0,none⟩),.pointer (some ⟨U.t,0,none⟩),.pointer (some ⟨X.t,0,none⟩),.pointer none,.slice A i c],pP X s (hw0 s).ln,uX U s (hw0 s).dm,qA K s (hw0 s).ck]) s.aH.length ⟨0,none,0,[],aA,rfl,rfl,rfl,rfl,?_⟩ fun m e R H hI=>?_
 ·have:List.replicate s.aH.length (Value.int .i64 0)=aR (kV (kF s) ((kF s).map fun _=>0) 0):=by
   rw[Qe];refine List.ext_getElem? fun j=>?_;simp only[aR,kF,List.map_map,List.getElem?_replicate,List.getElem?_map]
   by_cases h:j < s.aH.length
   ·rw[if_pos h,List.getElem?_eq_getElem h];rfl
   ·rw[if_neg h,List.getElem?_eq_none aA];rfl
  rw[this];rfl
 obtain⟨i,A,c,C,hi,u,rfl,rfl,rfl,rfl⟩:=hI
 have o:=Dh s
 have D:=Qg (vs:=kF s) (old:=(kF s).map fun _=>0) (n:=s.aH.length) o (by simp[kF]) hi
 refine aE ?_;refine aK rfl (fun k=>?_) (fun hge=>?_)
 ·have k:i < s.aH.length:=aA
  obtain⟨d,hd⟩:=get_some k;obtain⟨⟨a1,a2⟩,ha⟩:=get_some (l:=da) (i:=i) aA;obtain⟨x,G⟩:=O i d _ hd ha
  have p:=B.t.aH i d hd
  obtain⟨b,off,hB,hro⟩:=aM.row N (Tp (f:=yC) (es:=s.aH) (bs:=da) (sz:=6) J (fun _ _=>rfl)).2 (Om (f:=yC) hd ha) k;subst hB;refine aB ?_;refine kd (dat i (off+i*6)) ?_;refine aE ?_;refine cQ fun g3=>?_
  have I:(kF s)[i]? =some (d.aX.length:Int):=by rw[kF,List.getElem?_map,hd];rfl
  have vL:(aR (kV (kF s) ((kF s).map fun _=>0) i)).length=s.aH.length:=by simp[aR,D]
  have mA:(aR (kV (kF s) ((kF s).map fun _=>0) i)).set i (iv d.aX.length)=aR (kV (kF s) ((kF s).map fun _=>0) (i+1)):=by
   rw[←Qf aD I,aR,aR,List.map_set]
  refine aE ?_;refine fK (aIj d) (fun a t=>aKW d (by have:=p.2.2.2.2.2.2.2.2.1;omega) (fun r hr=>by have:=p.2.2.2.2.2.2.2.2.2.1 r hr;omega) a1.1 a1.2 a (aM.le x (t.le aD))) ?_;rintro _ _ Y ⟨LF,rfl,rfl⟩ _;dsimp only[List.cons_append,List.nil_append];refine aE ?_;refine aZ (fun a t=>Pu LF d (Bs d) a (t.aBO 0 rfl)) ?_;refine aE ?_;rw[mA];refine aB ?_;refine jG [2,3,4,5,6,7,8,9,10,11,12] ?_;refine bQ 0 ?_;refine bQ 1 ?_;refine bQ 13 ?_;refine aO 2 ?_;refine aO 3 ?_;refine aO 4 ?_;refine aO 5 ?_;refine aO 6 ?_;refine aO 7 ?_;refine aO 8 ?_;refine aO 9 ?_;refine aO 10 ?_;refine aO 11 ?_;refine aO 12 ?_;refine aQ 14 ?_;refine fK (fun v hs _=>∃g,v=pt g∧hs=[HP.aI g 229 [iv 0,iv 0]]) (fun a t=>aLh a) ?_;rintro _ _ q2 ⟨gq,rfl,rfl⟩ _;dsimp only[List.cons_append,List.nil_append];refine bH ?_;refine aQ 15 ?_;refine kd (iU rfl) ?_;refine bH ?_;refine aQ 16 ?_;refine eT fun g4=>?_;refine bH ?_ (hS:=fun _ h=>h.tail.bG.tail);refine aQ 17 ?_;refine iL 5 6 48 1 (n':=i+1) (el:=182) aF aF aC rfl rfl rfl (nH 0 rfl rfl) (by simp[Value.oneCell']) rfl aA aA aC fun An cn=>?_;dsimp only[List.set];refine cS ?_;refine aQ 18 ?_;refine bJ ?_;refine cS ?_;refine aQ 19 ?_;refine bJ ?_;refine cS ?_;refine aQ 20 ?_;refine eZ rfl rfl ?_;dsimp only[List.set];refine cS ?_;refine eM ?_;refine aB ?_;refine aY [2,1,4,5,6,7,8,9,10] rfl aC (R':=[all w]) aD ?_;refine nM ?_;refine Ss ?_;refine bT [(56,iv (i+1:Nat)),(55,iv s.aH.length),(54,.slice (some ⟨b,off,none⟩) s.aH.length k4),(10,.slice (some ⟨E,0,none⟩) s.aH.length s.aH.length),(9,pt F)] ?_;exact iD (s.aH.length - (i+1)) aA ⟨i+1,An,cn,C++[(LF,gq)],k,by simp;omega,rfl,rfl,rfl,by rw[aPe hd u,aPd hd u];rfl⟩
 ·obtain rfl:i=s.aH.length:=by omega
  rw[Qh o (by simp[kF])];rw[List.take_length];refine aE ?_
  refine fK (aIq (kF s)) (fun a t=>by
   have:=aQR (kF s) aA (fun m hm=>by
    obtain⟨d,hd,rfl⟩:=List.mem_map.1 hm;obtain⟨j,hj⟩:=List.getElem?_of_mem hd
    have:=(B.t.aH j d hj).2.2.2.2.2.2.2.2.1
    omega) (some ⟨E,0,none⟩) s.aH.length a
   rw[o] at this
   exact this (t.vA (i:=2) rfl (by simp[aR,o]))) ?_
  rintro _ _ Y ⟨LB,rfl,rfl⟩ _;dsimp only[List.cons_append,List.nil_append];refine aE ?_;refine aY [4,7,6,5,0,2,1] rfl aC (R':=[all w]) aD ?_;refine nM ?_;refine rH ?_;refine rH ?_;refine rH ?_;refine rH ?_;refine rH ?_;dsimp only[List.cons_append,List.nil_append];refine dK [] [] [0] aD rfl aC aC fun q _ _ V=>?_;exact gF rfl rfl rfl fun a t=>⟨⟨_,_,⟨a,q.Z⟩,rfl,rfl,⟨⟨F,K,U,X,LB,A,c,C⟩,rfl,by simp[dS,Qt,hw0,kF,Function.comp_def],M,u⟩,t.newR aD aD (V aD aD)⟩,t.below aD⟩
variable{L:HL}{x:aP}
structure cR(s:aG)(x:aP):Prop where
 ck:qF s x.ck
 dm:tY s x.dm
 ln:Cg s x.ln
 dv:x.dv.length=s.aH.length
 each:∀(i:Nat) (d:cH) (p:dB×dN),s.aH[i]? =some d→x.dv[i]? =some p→xE d p.1∧yR p.2
 wt:x.wt.length=s.aH.length
structure gQ(L:HL)(s:aG):Prop where
 fa:L.T.fa.length=s.aJ.length
 ds:L.ds.length=s.aH.length
structure tV(w:World)(L:HL)(s:aG)(x:aP):Prop where
 r0:eA w L.h 0 (Qt L s.aH.length)
 tree:vU w L.T s x.ck
 aBD:aIf w L.G s x.dm
 lines:Gz w L.R s x.ln
 Yd:Ew w L.B (kF s) x.wt x.aS
 rows:aM (all w) 6 L.A s.aH.length (vN s.aH L.ds).flatten
 each:∀(i:Nat) (d:cH) (l:FL×Nat) (p:dB×dN),s.aH[i]? =some d→L.ds[i]? =some l→x.dv[i]? =some p→Ay w l.1 d p.1∧eA w l.2 0 (Oc p.2)
theorem tV.below{w w':World}{L:HL}{s:aG}{x:aP}(h:tV w L s x)(a:Below w.heap.size w w'):tV w' L s x:=
 ⟨h.r0.below a,h.tree.below a,Aj.below h.aBD a,h.lines.below a,h.Yd.below a,h.rows.le (lK a),fun i d l p c e b=>⟨(h.each i d l p c e b).1.below a,(h.each i d l p c e b).2.below a⟩⟩
theorem aIa{L:HL}{s:aG}{x:aP}{F:Nat→Prop}{w:World}(h:(dS L s x).sat F w)(hF:∀b,F b→b < w.heap.size)(hL:gQ L s)(j:cR s x):tV w L s x:=by
 obtain⟨G,a,u,_⟩:=h
 have e:∀i b,G i b→b < w.heap.size:=fun i b c=>hF b (u i b c)
 obtain⟨I,E,f,z⟩:=yQ (Y:=fun b=>b < w.heap.size) (a 5 _ rfl) (e 5)
 injection f with f
 subst f;refine⟨uP (a 0 _ rfl).2,aHA (a 1 _ rfl) (e 1) hL.fa j.ck,aHP (a 2 _ rfl) (e 2),aHY (a 3 _ rfl),aIr (a 4 _ rfl),z,fun i d l p B C n=>?_⟩;obtain⟨r,t,y,_⟩:=a 6 _ rfl
 have m:(wM s.aH L.ds x.dv)[i]? =some (Mp d (l,p)):=by
  have o:(L.ds.zip x.dv)[i]? =some (l,p):=List.getElem?_zip_eq_some.2 ⟨C,n⟩
  rw[wM,List.getElem?_zipWith,B,o]
 have D:∀b,r i b→b < w.heap.size:=fun b c=>e 6 b (y i b c)
 obtain⟨H,k,A,_⟩:=t i _ m;exact⟨Tk (k 0 _ rfl) (fun b c=>D b (A 0 b c)),uP (k 1 _ rfl).2⟩
theorem St.mU(t:St w0 R H w)(i:Nat)(hi:H[i]? =some (dS L s x))(hL:gQ L s)(a:cR s x):tV w L s x:=by
 obtain⟨F,b,c,_⟩:=t.chunk hi;exact aIa b c hL a
section
variable(L:HL)(s:aG)(x:aP)(w:World)
theorem zO(a:tV w L s x):Cz 141 #[.pointer (some ⟨L.h,0,none⟩)] w (Rt (.bool true) w):=by
 have d:=a.r0.at_ (j:=0) rfl
 have e:=a.r0.at_ (j:=1) rfl
 have c:=a.r0.at_ (j:=2) rfl
 have b:=a.r0.at_ (j:=3) rfl
 refine aT func141 ntmps141 ?_;refine aB ?_;exact dL
theorem Ly(i:Int)(a:tV w L s x):Cz 137 #[.pointer (some ⟨L.h,0,none⟩),iv i] w (Rt (.bool (bO s.aH.length i)) w):=by
 have c:=a.r0.at_ (j:=4) rfl
 refine aT func137 ntmps137 ?_;refine aB ?_;refine aZ (fun b t=>zO L s x b (a.below (t.below aD))) ?_;refine aB ?_;refine cN (t:=11) rfl (fun h=>?_) (fun h=>?_)
 ·refine aB ?_;refine iV aD ?_;unfold bO
  congr 1
  simp;omega
 ·refine aB ?_;refine iV aD ?_
  have:bO s.aH.length i=false:=decide_eq_false aA
  rw[this]
theorem aN9(i:Nat)(hi:i < s.aH.length)(c:tV w L s x):Cz 126 #[.pointer (some ⟨L.h,0,none⟩),iv (i:Int)] w (Rt (iv (kS x.wt i:Nat)) w):=by
 have d:=c.r0.at_ (j:=3) rfl
 have b:bO s.aH.length (i:Int)=true:=decide_eq_true aA
 refine aT func126 ntmps126 ?_;refine aB ?_;refine aZ (fun a t=>Ly L s x a i (c.below (t.below aD))) ?_;rw[b];refine aB ?_;refine aZ (fun a t=>aGK L.B (kF s) x.wt x.aS i (by rw[Dh];exact hi) a (c.Yd.below (t.below aD))) ?_;refine aB ?_;exact dL
theorem aB5(b:tY s x.dm)(i:Int)(c:tV w L s x):Cz 181 #[.pointer (some ⟨L.h,0,none⟩),iv i] w (Rt (.int .u8 (qV x.dm i)) w):=by
 have d:=c.r0.at_ (j:=1) rfl
 refine aT func181 ntmps181 ?_;refine aB ?_;refine aZ (fun a t=>zO L s x a (c.below (t.below aD))) ?_;refine aB ?_;refine aZ (fun a t=>aE3 L.G s x.dm b i a (Aj.below c.aBD (t.below aD))) ?_;refine aB ?_;exact dL
theorem aND(i:Int)(b:tV w L s x):Cz 189 #[.pointer (some ⟨L.h,0,none⟩),iv i] w (Rt (.bool (zN x.ln i)) w):=by
 have c:=b.r0.at_ (j:=2) rfl
 refine aT func189 ntmps189 ?_;refine aB ?_;refine aZ (fun a t=>zO L s x a (b.below (t.below aD))) ?_;refine aB ?_;refine aZ (fun a t=>aEh L.R s x.ln i a (b.lines.below (t.below aD))) ?_;refine aB ?_;exact dL
end
theorem aFq{s:aG}(h:s.dF):cR s (hw0 s):=by
 refine⟨⟨by simp[hw0],fun x a=>?_⟩,⟨by simp[hw0],fun x a=>?_,fun x a=>?_⟩,⟨by simp[hw0],fun x a=>?_⟩,by simp[hw0],fun i d p hd f=>?_,by simp[hw0]⟩
 ·obtain⟨c,e,rfl⟩:=List.mem_map.1 a;obtain⟨i,k⟩:=List.getElem?_of_mem e
  have:=(h.t.aJ i c k).2
  unfold wT;dsimp only;split
  ·omega
  ·omega
 ·obtain⟨c,e,rfl⟩:=List.mem_map.1 a;simp[wN]
 ·obtain⟨c,e,rfl⟩:=List.mem_map.1 a;simp[wN]
 ·obtain⟨c,e,rfl⟩:=List.mem_map.1 a;simp[qX]
 ·simp only[hw0,List.getElem?_map,hd,Option.map_some] at f;cases f
  have j:=h.t.aH i d hd
  refine⟨⟨by simp[Bs],by simp[Bs],fun v b=>?_,fun v b=>?_⟩,by simp[yR,Ky]⟩
  ·obtain⟨r,l,rfl⟩:=List.mem_map.1 b
   have:=j.2.2.2.2.2.2.2.2.2.1 r l
   omega
  ·simp only[Bs,List.mem_map] at b;obtain⟨r,_,rfl⟩:=b;omega
theorem aDf{s:aG}(h:s.wH):(dI s).sm:=by
 have b:=h.nc
 have c:=h.nd
 have a:=h.nr
 exact⟨by simp[dI];omega,by simp[dI];omega,by simp[dI];omega⟩
def oU:aG:=⟨[],[],[],[]⟩
theorem aJH:oU.small:=⟨aC,aC,aC,aC,(fun c a=>by cases a),(fun c a=>by cases a)⟩
theorem aJI(w:World):iJ w oU none 0 none 0 none 0 none 0:=
 ⟨⟨[],trivial,rfl,aM.nil _ _⟩,⟨[],trivial,rfl,aM.nil _ _⟩,⟨[],trivial,rfl,aM.nil _ _⟩,⟨[],trivial,rfl,aM.nil _ _⟩,aJH⟩
theorem wE{α:Type}{l:List α}{i:Nat}{x:α}(h:l[i]? =some x):l.set i x=l:=by
 refine List.ext_getElem? fun j=>?_;rw[List.getElem?_set]
 by_cases a:i=j
 ·subst a;rw[if_pos rfl,if_pos (List.getElem?_eq_some_iff.1 h).1,h]
 ·rw[if_neg a]
def tB(s:aG)(st:List eE)(i:Nat):List Value:=(List.range s.aJ.length).map fun j=>.bool (decide (j < i)&&runs s st j)
theorem aLd(s:aG)(st:List eE):List.replicate s.aJ.length (Value.bool false)=tB s st 0:=by
 refine List.ext_getElem? fun j=>?_;rw[tB,List.getElem?_replicate,List.getElem?_map]
 by_cases a:j < s.aJ.length
 ·rw[List.getElem?_range a];simp[a]
 ·rw[List.getElem?_eq_none (l:=List.range s.aJ.length) (by simp;omega)];simp[a]
theorem aLe(s:aG)(st:List eE)(i:Nat):(tB s st i).set i (.bool (runs s st i))=tB s st (i+1):=by
 refine List.ext_getElem? fun j=>?_;simp only[tB,List.getElem?_set,List.getElem?_map,List.length_map,List.length_range]
 by_cases b:i=j
 ·subst b
  by_cases a:i < s.aJ.length
  ·rw[if_pos rfl,if_pos a,List.getElem?_range a];simp
  ·rw[if_pos rfl,if_neg a,List.getElem?_eq_none (by simp;omega)];rfl
 ·rw[if_neg b]
  by_cases a:j < s.aJ.length
  ·rw[List.getElem?_range a]
   have:decide (j < i)=decide (j < i+1):=by simp;omega
   simp[this]
  ·rw[List.getElem?_eq_none (by simp;omega)];rfl
theorem aLf{s:aG}{st:List eE}{j:Nat}(h:j < s.aJ.length):(tB s st s.aJ.length)[j]? =some (.bool (runs s st j)):=by
 simp[tB,h]
def pL(s:aG)(st:List eE)(i:Nat):List eE:=(lD s st).take i++st.drop i
theorem aM2(s:aG)(st:List eE):pL s st 0=st:=by simp[pL]
theorem aM6{s:aG}{st:List eE}(a:qF s st):pL s st s.aJ.length=lD s st:=by
 have b:=a.len
 rw[pL,List.drop_eq_nil_of_le aA,List.append_nil,List.take_of_length_le (by simp[lD];omega)]
theorem aM5{s:aG}{st:List eE}(a:qF s st){i:Nat}(hi:i < s.aJ.length):(pL s st i)[i]? =st[i]? :=by
 have b:=a.len
 have:((lD s st).take i).length=i:=by simp[lD];omega
 rw[pL,List.getElem?_append_right aA,this,Nat.sub_self,List.getElem?_drop,Nat.add_zero]
theorem aBc{s:aG}{st:List eE}(a:qF s st){i:Nat}(hi:i≤s.aJ.length):(pL s st i).length=s.aJ.length:=by
 have b:=a.len
 simp[pL,lD];omega
theorem aM3{s:aG}{st:List eE}(a:qF s st){i:Nat}{c:eN}{x:eE}(b:s.aJ[i]? =some c)(hx:st[i]? =some x):(pL s st i).set i (uC s st c x)=pL s st (i+1):=by
 have l:=a.len
 have h:=(List.getElem?_eq_some_iff.1 b).1
 have k:(lD s st)[i]? =some (uC s st c x):=by rw[lD,List.getElem?_zipWith,b,hx]
 have f:(lD s st).length=s.aJ.length:=by simp[lD];omega
 refine List.ext_getElem? fun j=>?_;rw[List.getElem?_set]
 by_cases d:i=j
 ·subst d;rw[if_pos rfl,if_pos (by rw[aBc a aA];exact h),pL,List.getElem?_append_left (by rw[List.length_take];omega),List.getElem?_take_of_lt aA,k]
 ·rw[if_neg d,pL,pL];rcases Nat.lt_or_ge j i with e | e
  ·rw[List.getElem?_append_left (by rw[List.length_take];omega),List.getElem?_append_left (by rw[List.length_take];omega),List.getElem?_take_of_lt e,List.getElem?_take_of_lt aA]
  ·rw[List.getElem?_append_right (by rw[List.length_take];omega),List.getElem?_append_right (by rw[List.length_take];omega),List.getElem?_drop,List.getElem?_drop,List.length_take,List.length_take]
   congr 1
   omega
theorem aJq{s:aG}{st:List eE}(f:s.dF)(a:qF s st){i:Nat}{c:eN}{x:eE}(e:s.aJ[i]? =some c)(hx:x∈st):0≤(uC s st c x).left∧(uC s st c x).left≤3:=by
 have b:=a.left x hx
 have h:=(f.t.aJ i c e).2
 have d:0≤c.lock∧c.lock≤3:=by omega
 unfold uC;split
 ·split
  ·exact d
  ·split
   ·dsimp only;omega
   ·exact b
 ·exact b
theorem aAs{s:aG}{st:List eE}(f:s.dF)(b:qF s st):qF s (lD s st):=by
 have i:=b.len
 refine⟨by simp[lD];omega,fun x h=>?_⟩;obtain⟨j,a⟩:=List.getElem?_of_mem h;rw[lD,List.getElem?_zipWith] at a;cases d:s.aJ[j]? with
 | none=>rw[d] at a;cases a
 | some c =>
  cases e:st[j]? with
  | none=>rw[d,e] at a;cases a
  | some y=>
   rw[d,e] at a;cases a;exact aJq f b d (List.mem_of_getElem? e)
theorem aM4{s:aG}{st:List eE}(b:s.dF)(a:qF s st){i:Nat}(hi:i≤s.aJ.length):qF s (pL s st i):=⟨aBc a hi,fun x c=>by
 rcases List.mem_append.1 c with h | h
 ·exact(aAs b a).left x (List.mem_of_mem_take h)
 ·exact a.left x (List.mem_of_mem_drop h)⟩
theorem aQp(L:TL)(s:aG)(st:List eE)(hH:s.dF)(y:L.fa.length=s.aJ.length)(o:qF s st)(w:World)(F:Nat→Prop)(hp:(qA L s st).sat F w)(hF:∀b,F b→b < w.heap.size):
  Cz 145 #[.pointer (some ⟨L.t,0,none⟩)] w (Wr (.tuple #[]) (qA L s (lD s st)) w F):=by
 have hnc:=hH.t.nc
 have hl:=o.len
 refine dD func145 ntmps145 hp hF ?_
 have aSM:Rd w [⟨w,fun b=>b < w.heap.size∧¬F b⟩] [qA L s st] L.t 0 (.slice L.A s.aJ.length L.c):=Rd.tree 0 rfl y o
 refine aB ?_;refine mN (n:=s.aJ.length) 1 (el:=4) (z:=.bool false) aF aF rfl rfl rfl aA aA aC fun C=>?_
 have aSL:Rd w [⟨w,fun b=>b < w.heap.size∧¬F b⟩] [HP.aI C 4 (List.replicate s.aJ.length (.bool false)),qA L s st] L.t 0 (.slice L.A s.aJ.length L.c):=Rd.tree 1 rfl y o
 refine aB ?_;rw[aLd s st];refine bT [(19,iv 0),(18,iv s.aJ.length),(2,.slice (some ⟨C,0,none⟩) s.aJ.length s.aJ.length),(0,.pointer (some ⟨L.t,0,none⟩))] ?_;refine fG (fun m e R H=>∃i:Nat,i≤s.aJ.length∧m=s.aJ.length - i∧e=[(19,iv i),(18,iv s.aJ.length),(2,.slice (some ⟨C,0,none⟩) s.aJ.length s.aJ.length),(0,.pointer (some ⟨L.t,0,none⟩))]∧R=[⟨w,fun b=>b < w.heap.size∧¬F b⟩]∧H=[HP.aI C 4 (tB s st i),qA L s st]) s.aJ.length ⟨0,aA,rfl,rfl,rfl,rfl⟩ fun m e R H hI=>?_;obtain⟨i,hi,rfl,rfl,rfl,rfl⟩:=hI;refine aB ?_;refine aK rfl (fun d=>?_) (fun hge=>?_)
 ·have d:i < s.aJ.length:=aA
  have Lv:(tB s st i).length=s.aJ.length:=by simp[tB]
  refine aB ?_;refine aZ (fun w1 t=>Sd L s st hH i w1 (t.aAq 1 rfl y o)) ?_;rw[show oG s st (i:Int)=runs s st i by simp[oG,bO,d]];refine aE ?_;rw[aLe];exact fA (s.aJ.length - (i+1)) ⟨i+1,d,rfl,rfl,rfl,rfl⟩
 ·obtain rfl:i=s.aJ.length:=by omega
  have aSK:Rd w [⟨w,fun b=>b < w.heap.size∧¬F b⟩] [HP.aI C 4 (tB s st s.aJ.length),qA L s st] L.t 0 (.slice L.A s.aJ.length L.c):=Rd.tree 1 rfl y o
  refine aB ?_;refine bT [(34,iv 0),(33,iv s.aJ.length),(2,.slice (some ⟨C,0,none⟩) s.aJ.length s.aJ.length),(0,.pointer (some ⟨L.t,0,none⟩))] ?_;refine fG (fun m e R H=>∃i:Nat,i≤s.aJ.length∧m=s.aJ.length - i∧e=[(34,iv i),(33,iv s.aJ.length),(2,.slice (some ⟨C,0,none⟩) s.aJ.length s.aJ.length),(0,.pointer (some ⟨L.t,0,none⟩))]∧R=[⟨w,fun b=>b < w.heap.size∧¬F b⟩]∧H=[HP.aI C 4 (tB s st s.aJ.length),qA L s (pL s st i)]) s.aJ.length ⟨0,aA,rfl,rfl,rfl,by rw[aM2]⟩ fun m e R H hI=>?_;obtain⟨i,hi,rfl,rfl,rfl,rfl⟩:=hI;refine aB ?_;refine aK rfl (fun d=>?_) (fun hge=>?_)
  ·have d:i < s.aJ.length:=aA
   obtain⟨c,V⟩:=get_some d;obtain⟨a,ha⟩:=get_some (l:=L.fa) (i:=i) aA;obtain⟨x,hx⟩:=get_some (l:=st) (i:=i) aA
   have O:=aM4 hH o hi
   have hml:=aBc o hi
   have U:(pL s st i)[i]? =some x:=by rw[aM5 o d];exact hx
   obtain⟨X,Z⟩:=aAU y O
   have hlx:=o.left x (List.mem_of_getElem? hx)
   have Lv:(tB s st s.aJ.length).length=s.aJ.length:=by simp[tB]
   have r:(kE s L.fa (pL s st i)).set i (qW c a (uC s st c x))=kE s L.fa (pL s st (i+1)):=by rw[aEH V ha aA,aM3 o V hx]
   refine aHx 1 rfl aA fun g cs E G p K N=>?_;dsimp only[List.set];rw[E]
   have hs:=Br p X Z (Kz V ha U)
   have hu:=tQ.refl cs (i*11) 11
   have hrd:Rd w [⟨w,fun b=>b < w.heap.size∧¬F b⟩] [HP.aI g 214 cs,HP.aI C 4 (tB s st s.aJ.length),HP.many [HP.aI L.t 212 [.slice (some ⟨g,0,none⟩) s.aJ.length L.c],cM,HP.cI (sP s L.fa) (sP.le (s:=s) (fa:=L.fa))]] L.t 0 (.slice (some ⟨g,0,none⟩) s.aJ.length L.c):=aS7 2 0 rfl rfl rfl
   refine aB ?_;refine kd (dat i (i*11)) ?_;obtain⟨D,M⟩:=hH.t.aJ i c V;obtain⟨kd,src,u,J,dv,h⟩:=c;obtain⟨on,left⟩:=x;dsimp only at M D hlx;dsimp only[qW] at hs
   have k:kd≠112∨on=false→kE s L.fa (pL s st i)=kE s L.fa (pL s st (i+1)):=fun hh=>by
    rw[←r]
    have:uC s st ⟨kd,src,u,J,dv,h⟩ ⟨on,left⟩=⟨on,left⟩:=by
     unfold uC;rw[if_neg];rintro⟨G,p⟩;rcases hh with hh | hh
     ·exact hh G
     ·rw[hh] at p;cases p
    rw[this,wE (Kz V ha U)]
   rcases M with⟨rfl,_⟩ | ⟨rfl,Wq,_⟩ | ⟨rfl,_⟩ | ⟨rfl,_⟩ | ⟨rfl,_⟩
   ·rw[k (.inl aC)] at p;refine aB ?_;refine mI ?_;refine jF ?_;refine aB ?_;refine yK 1 E G p K N rfl ?_;exact fA (s.aJ.length - (i+1)) ⟨i+1,d,rfl,rfl,rfl,rfl⟩
   ·cases on
    ·rw[k (.inr rfl)] at p;refine aB ?_;refine mI ?_;refine jF ?_;refine aB ?_;refine yK 1 E G p K N rfl ?_;exact fA (s.aJ.length - (i+1)) ⟨i+1,d,rfl,rfl,rfl,rfl⟩
    ·obtain⟨f,T,hf⟩:∃(f:Nat) (T:List Int),src=(f:Int)::T:=by
      cases hs0:src with
      | nil=>rw[hs0] at Wq;simp at Wq
      | cons f T=>exact⟨f.toNat,T,by have:=(D f (by rw[hs0];simp)).1;rw[Int.toNat_of_nonneg this]⟩
     have hfi:f < i:=by have:=(D f (by rw[hf];simp)).2;omega
     subst hf
     have hrun:=aLf (s:=s) (st:=st) (j:=f) aA
     have tJ:Rd w [⟨w,fun b=>b < w.heap.size∧¬F b⟩] [HP.aI g 214 cs,HP.aI C 4 (tB s st s.aJ.length),HP.many [HP.aI L.t 212 [.slice (some ⟨g,0,none⟩) s.aJ.length L.c],cM,HP.cI (sP s L.fa) (sP.le (s:=s) (fa:=L.fa))]] C f (.bool (runs s st f)):=Rd.aI 1 rfl hrun
     refine aB ?_;refine aZ (fun w1 t=>My L s (pL s st i) i f _ T w1 (t.aJo 0 2 rfl rfl E p y O) V rfl) ?_;refine aE ?_
     have ht1:uC s st ⟨112,(f:Int)::T,u,J,dv,h⟩ ⟨true,left⟩=if runs s st f=false then⟨true,h⟩ else if 0 < left then⟨true,left - 1⟩ else⟨true,left⟩:=by
      simp[uC,Fh]
     rw[ht1] at r;cases I:runs s st f
     ·rw[I] at tJ;rw[if_pos I] at r
      have Y:=hs.set 7 (iv h) aD aA
      have Io:=hu.set 7 (iv h) aC
      have B:=zQ (r':=qW ⟨112,(f:Int)::T,u,J,dv,h⟩ a ⟨true,h⟩) p X Z d aA rfl Y Io
      rw[r] at B;refine aB ?_;refine yK 1 E (by simpa using G) B K N rfl ?_;exact fA (s.aJ.length - (i+1)) ⟨i+1,d,rfl,rfl,rfl,rfl⟩
     ·rw[I] at tJ;rw[if_neg (by rw[I];decide)] at r;refine aB ?_;refine aK rfl (fun hp=>?_) (fun hp=>?_)
      ·rw[if_pos hp] at r
       have Y:=hs.set 7 (iv (left - 1)) aD aA
       have Io:=hu.set 7 (iv (left - 1)) aC
       have B:=zQ (r':=qW ⟨112,(f:Int)::T,u,J,dv,h⟩ a ⟨true,left - 1⟩) p X Z d aA rfl Y Io
       rw[r] at B;refine aB ?_;refine yK 1 E (by simpa using G) B K N rfl ?_;exact fA (s.aJ.length - (i+1)) ⟨i+1,d,rfl,rfl,rfl,rfl⟩
      ·rw[if_neg hp,wE (Kz V ha U)] at r;rw[r] at p;refine aB ?_;refine mI ?_;refine jF ?_;refine aB ?_;refine yK 1 E G p K N rfl ?_;exact fA (s.aJ.length - (i+1)) ⟨i+1,d,rfl,rfl,rfl,rfl⟩
   ·rw[k (.inl aC)] at p;refine aB ?_;refine mI ?_;refine jF ?_;refine aB ?_;refine yK 1 E G p K N rfl ?_;exact fA (s.aJ.length - (i+1)) ⟨i+1,d,rfl,rfl,rfl,rfl⟩
   ·rw[k (.inl aC)] at p;refine aB ?_;refine mI ?_;refine jF ?_;refine aB ?_;refine yK 1 E G p K N rfl ?_;exact fA (s.aJ.length - (i+1)) ⟨i+1,d,rfl,rfl,rfl,rfl⟩
   ·rw[k (.inl aC)] at p;refine aB ?_;refine mI ?_;refine jF ?_;refine aB ?_;refine yK 1 E G p K N rfl ?_;exact fA (s.aJ.length - (i+1)) ⟨i+1,d,rfl,rfl,rfl,rfl⟩
  ·obtain rfl:i=s.aJ.length:=by omega
   rw[aM6 o];refine aB ?_;exact fO 1 hF
section
variable{L:RL}
theorem aC3(i:Nat)(hi:H[i]? =some (pP L s st))(h:XK N w0 K e R (HP.map L.g (nV s st)::HP.aI L.t 222 [.map (some L.g)]::H.set i (HP.many [cM,cM]))):XK N w0 K e R H:=by
 have a:=wK hi
 refine rG i 0 hi rfl ?_;refine rG (i+1) 1 (by rw[List.getElem?_cons_succ,List.getElem?_set_self a]) rfl ?_
 simpa[List.set_cons_succ,List.set_set] using h
theorem Nt(i:Nat)(hi:H[i]? =some (HP.many [cM,cM]))(h:XK N w0 K e R (H.set i (pP L s st))):XK N w0 K e R (HP.map L.g (nV s st)::HP.aI L.t 222 [.map (some L.g)]::H):=by
 have a:=wK hi
 refine rJ (i+1) 1 (by rw[List.getElem?_cons_succ];exact hi) rfl ?_;dsimp only[List.set];refine rJ i 0 (by rw[List.getElem?_set_self a]) rfl ?_
 simpa[List.set_set,pP] using h
end
theorem aK0(L:RL)(s:aG)(st:List jX)(k:Cg s st)(i:Int)(w:World)(F:Nat→Prop)(hp:(pP L s st).sat F w)(hF:∀b,F b→b < w.heap.size):
  Cz 222 #[.pointer (some ⟨L.t,0,none⟩),iv i] w (Wr (iv (rE s st i).1) (pP L s (rE s st i).2) w F):=by
 have p:=k.len
 cases a:bO st.length i
 ·have e:rE s st i=(4,st):=by simp[rE,a]
  have f:tL s st i=iT 0 ⟨0,false,false⟩:=by simp[tL,a]
  rw[e];refine dD func222 ntmps222 hp hF ?_;refine aB ?_;refine aZ (fun h t=>Pq L s st i h (t.Lo 0 rfl)) ?_;rw[a,f];unfold iT;refine aB ?_;refine cQ fun o=>?_;refine aB ?_;exact bU 1 hF
 ·obtain⟨n,rfl⟩:∃n:Nat,i=n:=⟨i.toNat,by have:=of_decide_eq_true a;omega⟩
  have d:n < st.length:=by have:=of_decide_eq_true a;omega
  obtain⟨r,c⟩:=get_some (l:=s.bA) (i:=n) aA;obtain⟨x,m⟩:=get_some d
  have j:s.bA.getD n 0=r:=by rw[List.getD_eq_getElem?_getD,c];rfl
  have e:rE s st (n:Int)=(0,st.set n ⟨r,true,false⟩):=by simp[rE,a,c]
  have f:tL s st (n:Int)=iT r x:=by simp[tL,a,List.getD_eq_getElem?_getD,c,m]
  rw[e];refine dD func222 ntmps222 hp hF ?_;refine aB ?_;refine aZ (fun h t=>Pq L s st n h (t.Lo 0 rfl)) ?_;rw[a,f];unfold iT;refine aB ?_;refine cQ fun o=>?_;refine aB ?_;refine aC3 1 rfl ?_;dsimp only[List.set];refine rK 6 aF aF ?_;refine cE 0 ?_;refine cE 1 ?_;refine cE 2 ?_;refine cE 3 ?_;refine cE 4 ?_;refine cE 5 ?_;refine cX 6 ?_;refine Ex (kt:=3) (et:=224) (kd:=.i64) (l:=nV s st) (v:=iT r ⟨r,true,false⟩) 0 aF aF rfl rfl rfl rfl ?_;rw[aAY j d];dsimp only[List.set];refine fB ?_;refine lA ?_;refine Nt 1 rfl ?_;refine aB ?_;exact bU 1 hF
theorem aKy(L:RL)(s:aG)(st:List jX)(m:Cg s st)(i:Int)(w:World)(F:Nat→Prop)(hp:(pP L s st).sat F w)(hF:∀b,F b→b < w.heap.size):
  Cz 221 #[.pointer (some ⟨L.t,0,none⟩),iv i] w (Wr (iv (rU st i).1) (pP L s (rU st i).2) w F):=by
 have y:=m.len
 cases a:bO st.length i
 ·have o:rU st i=(4,st):=by simp[rU,a]
  have h:tL s st i=iT 0 ⟨0,false,false⟩:=by simp[tL,a]
  rw[o];refine dD func221 ntmps221 hp hF ?_;refine aB ?_;refine aZ (fun j t=>Pq L s st i j (t.Lo 0 rfl)) ?_;rw[a,h];unfold iT;refine aB ?_;refine cQ fun u=>?_;refine aB ?_;exact bU 1 hF
 ·obtain⟨n,rfl⟩:∃n:Nat,i=n:=⟨i.toNat,by have:=of_decide_eq_true a;omega⟩
  have c:n < st.length:=by have:=of_decide_eq_true a;omega
  obtain⟨r,d⟩:=get_some (l:=s.bA) (i:=n) aA;obtain⟨x,p⟩:=get_some c
  have k:s.bA.getD n 0=r:=by rw[List.getD_eq_getElem?_getD,d];rfl
  have o:rU st (n:Int)=if x.held=false then(6,st) else(0,st.set n ⟨x.left,x.held,true⟩):=by simp[rU,a,p]
  have h:tL s st (n:Int)=iT r x:=by simp[tL,a,List.getD_eq_getElem?_getD,d,p]
  rw[o];refine dD func221 ntmps221 hp hF ?_;refine aB ?_;refine aZ (fun j t=>Pq L s st n j (t.Lo 0 rfl)) ?_;rw[a,h];obtain⟨left,e,f⟩:=x;unfold iT;refine aB ?_;refine cQ fun u=>?_;cases e
  ·refine aB ?_;exact bU 1 hF
  ·refine aB ?_;refine aC3 1 rfl ?_;dsimp only[List.set];refine rK 6 aF aF ?_;refine cE 0 ?_;refine cE 1 ?_;refine cE 2 ?_;refine cE 3 ?_;refine cE 4 ?_;refine cE 5 ?_;refine cX 6 ?_;refine Ex (kt:=3) (et:=224) (kd:=.i64) (l:=nV s st) (v:=iT r ⟨left,true,true⟩) 0 aF aF rfl rfl rfl rfl ?_;rw[aAY k c];dsimp only[List.set];refine fB ?_;refine lA ?_;refine Nt 1 rfl ?_;refine aB ?_;exact bU 1 hF
theorem aMJ{α:Type}(f:α→α)(st:List α){i:Nat}{x:α}(hx:st[i]? =some x)(hs:f x=x):(st.map f).take i++st.drop i=(st.map f).take (i+1)++st.drop (i+1):=by
 have a:=aAZ f st hx
 rw[hs,aDU (by rw[aBa f st (List.getElem?_eq_some_iff.1 hx).1];exact hx)] at a;exact a
theorem aKx(L:RL)(s:aG)(st:List jX)(Z:s.dF)(D:Cg s st)(w:World)(F:Nat→Prop)(hp:(pP L s st).sat F w)(hF:∀b,F b→b < w.heap.size):
  Cz 148 #[.pointer (some ⟨L.t,0,none⟩)] w (fun y w'=>∃a:Option Addr×Nat×Nat,y=.returned (.slice a.1 a.2.1 a.2.2)∧True∧∃O,(pP L s (yX st)).sat O w'∧iI w w' F O):=by
 have hl:=D.len
 have X:=Z.t.nr
 refine dD func148 ntmps148 hp hF ?_
 have T:Rd w [⟨w,fun b=>b < w.heap.size∧¬F b⟩] [pP L s st] L.t 0 (.map (some L.g)):=fun K t=>(t.Lo 0 rfl).r0.2
 refine aB ?_;refine kd (aP1 (kt:=3) (et:=224) (l:=nV s st) aF rfl (fun K t=>(t.Lo 0 rfl).m)) ?_;rw[show(nV s st).length=st.length by simp[nV]];refine aB ?_;refine mH 3 1 ?_;refine bT [(14,iv 0),(13,iv st.length),(3,sn),(0,.pointer (some ⟨L.t,0,none⟩))] ?_;refine fG (fun m e R H=>∃(i n:Nat) (A:Option Addr) (k:Nat) (o:List Value),i≤st.length∧n≤i∧m=st.length - i∧e=[(14,iv i),(13,iv st.length),(3,.slice A n k),(0,.pointer (some ⟨L.t,0,none⟩))]∧R=[⟨w,fun b=>b < w.heap.size∧¬F b⟩]∧H=[HP.own 3 1 (.slice A n k) n o,pP L s ((st.map lP).take i++st.drop i)]) st.length ⟨0,0,none,0,[],aA,aA,rfl,rfl,rfl,aD⟩ fun m e R H U=>?_;obtain⟨i,n,A,k,o,hi,V,rfl,rfl,rfl,rfl⟩:=U;refine aB ?_;refine aK rfl (fun d=>?_) (fun hge=>?_)
 ·have d:i < st.length:=aA
  obtain⟨r,I⟩:=get_some (l:=s.bA) (i:=i) aA;obtain⟨x,E⟩:=get_some d
  have N:=D.left x (List.mem_of_getElem? E)
  have C:s.bA.getD i 0=r:=by rw[List.getD_eq_getElem?_getD,I];rfl
  have M:((st.map lP).take i++st.drop i).length=st.length:=by simp;omega
  have G:((st.map lP).take i++st.drop i)[i]? =some x:=by rw[aBa _ st d];exact E
  have J:bO ((st.map lP).take i++st.drop i).length (i:Int)=true:=by rw[M];exact decide_eq_true aA
  have B:mS (nV s ((st.map lP).take i++st.drop i)) (i:Int)=some (iT r x):=by
   rw[aEY,if_pos J,Int.toNat_natCast,C,List.getD_eq_getElem?_getD,G];rfl
  have mA:oH (nV s ((st.map lP).take i++st.drop i)) (i:Int) (iT r (lP x))=nV s ((st.map lP).take (i+1)++st.drop (i+1)):=by
   rw[aAY C aA,aAZ lP st E]
  refine aC3 1 rfl ?_;dsimp only[List.set];refine aB ?_;refine Tv (kt:=3) (et:=224) (kd:=.i64) (z:=iT 0 ⟨0,false,false⟩) (l:=nV s ((st.map lP).take i++st.drop i)) true aF aF aFh rfl rfl (fun K t=>t.map (i:=0) rfl) aC ?_;simp only[if_true,B,Option.getD_some,Option.isSome_some];obtain⟨left,p,c⟩:=x;dsimp only at N;dsimp only[iT];refine aB ?_;refine cQ fun g1=>?_;cases p
  ·have j:lP ⟨left,false,c⟩=⟨left,false,c⟩:=rfl
   rw[aMJ lP st E j];refine aB ?_;refine aY [1,2,3,4] rfl aC (fun _ h=>h) ?_;refine Nt 1 rfl ?_;exact fA (st.length - (i+1)) ⟨i+1,n,A,k,o,d,aA,rfl,rfl,rfl,rfl⟩
  ·refine aB ?_;refine aK rfl (fun hp=>?_) (fun hp=>?_)
   ·have f:lP ⟨left,true,c⟩=⟨left - 1,true,c⟩:=by simp[lP,hp]
    rw[f] at mA;refine aB ?_;refine rK 6 aF aF ?_;refine cE 0 ?_;refine cE 1 ?_;refine cE 2 ?_;refine cE 3 ?_;refine cE 4 ?_;refine cE 5 ?_;refine cX 6 ?_;refine Ex (kt:=3) (et:=224) (kd:=.i64) (l:=nV s ((st.map lP).take i++st.drop i)) (v:=iT r ⟨left - 1,true,c⟩) 1 aF aF rfl rfl rfl rfl ?_;rw[mA];dsimp only[List.set];refine fB ?_;refine lA ?_;refine aB ?_;refine aY [1,2,3,4] rfl aC (fun _ h=>h) ?_;refine Nt 1 rfl ?_;exact fA (st.length - (i+1)) ⟨i+1,n,A,k,o,d,aA,rfl,rfl,rfl,rfl⟩
   ·cases c
    ·have f:lP ⟨left,true,false⟩=⟨left,true,false⟩:=by simp[lP,hp]
     rw[f] at mA;refine aB ?_;refine rK 6 aF aF ?_;refine cE 0 ?_;refine cE 1 ?_;refine cE 2 ?_;refine cE 3 ?_;refine cE 4 ?_;refine cE 5 ?_;refine cX 6 ?_;refine Ex (kt:=3) (et:=224) (kd:=.i64) (l:=nV s ((st.map lP).take i++st.drop i)) (v:=iT r ⟨left,true,false⟩) 1 aF aF rfl rfl rfl rfl ?_;rw[mA];dsimp only[List.set];refine fB ?_;refine lA ?_;refine aB ?_;refine aY [1,2,3,4] rfl aC (fun _ h=>h) ?_;refine Nt 1 rfl ?_;exact fA (st.length - (i+1)) ⟨i+1,n,A,k,o,d,aA,rfl,rfl,rfl,rfl⟩
    ·have f:lP ⟨left,true,true⟩=⟨left,false,false⟩:=by simp[lP,hp]
     rw[f] at mA;refine aB ?_;refine eT fun g2=>?_;refine iL 4 1 8 1 (el:=3) aF aF aC rfl rfl rfl (nH 0 rfl rfl) (by simp[Value.oneCell']) rfl aA aA aC fun A' Y=>?_;dsimp only[List.set];refine aB ?_;refine rK 6 aF aF ?_;refine cE 0 ?_;refine cE 1 ?_;refine cE 2 ?_;refine cE 3 ?_;refine cE 4 ?_;refine cE 5 ?_;refine cX 6 ?_;refine Ex (kt:=3) (et:=224) (kd:=.i64) (l:=nV s ((st.map lP).take i++st.drop i)) (v:=iT r ⟨left,false,false⟩) 2 aF aF rfl rfl rfl rfl ?_;rw[mA];dsimp only[List.set];refine fB ?_;refine lA ?_;refine aB ?_;refine aY [2,3,4,5] rfl aC (fun _ h=>h) ?_;refine Nt 1 rfl ?_;exact fA (st.length - (i+1)) ⟨i+1,n+1,A',Y,_,d,aA,rfl,rfl,rfl,rfl⟩
 ·obtain rfl:i=st.length:=by omega
  have u:(st.map lP).take st.length++st.drop st.length=yX st:=by
   rw[List.drop_eq_nil_of_le aA,List.append_nil,List.take_of_length_le aD];rfl
  rw[u];refine aB ?_;exact nB rfl rfl fun K t=>⟨(A,n,k),rfl,trivial,t.turns hF aD (i:=1) rfl⟩
section
theorem qE(i:Nat){o:Nat}{v:Value}(hi:H[i]? =some (dS L s x))(b:(Qt L s.aH.length)[o]? =some v):Rd w0 R H L.h o v:=fun w t=>by
 obtain⟨F,⟨G,a,c,_⟩,d,_⟩:=t.chunk hi
 have:=(uP (a 0 _ rfl).2).at_ (j:=o) b
 rw[Nat.zero_add] at this;exact this.2
variable(L:HL)(s:aG)(x:aP)(w:World)
theorem aF7(f:s.dF)(c:gQ L s)(a:cR s x)(i:Int)(on:Bool)(F:Nat→Prop)(hp:(dS L s x).sat F w)(hF:∀b,F b→b < w.heap.size):
  Cz 187 #[.pointer (some ⟨L.h,0,none⟩),iv i,.bool on] w (Wr (iv (gL s x.ck i on).1) (dS L s {x with ck:=(gL s x.ck i on).2}) w F):=by
 have l:=f.t.nd
 refine dD func187 ntmps187 hp hF ?_;refine aB ?_;refine aZ (fun d t=>zO L s x d (t.mU 0 rfl c a)) ?_;refine aB ?_;refine kd (bP rfl (qE 0 rfl rfl)) ?_;refine aB ?_;refine bE 0 1 ?_;refine cG 0 (qA L.T s (gL s x.ck i on).2) (fun d e t j k m=>aQs L.T s x.ck c.fa a.ck i on d e j k) ?_;refine aB ?_;refine aN 0 1 ?_;exact bU 0 hF
theorem aF2(e:s.dF)(d:gQ L s)(a:cR s x)(i:Int)(F:Nat→Prop)(hp:(dS L s x).sat F w)(hF:∀b,F b→b < w.heap.size):
  Cz 182 #[.pointer (some ⟨L.h,0,none⟩),iv i] w (Wr (iv (qS s x.dm i).1) (dS L s {x with dm:=(qS s x.dm i).2}) w F):=by
 have l:=e.t.nd
 refine dD func182 ntmps182 hp hF ?_;refine aB ?_;refine aZ (fun c t=>zO L s x c (t.mU 0 rfl d a)) ?_;refine aB ?_;refine kd (bP rfl (qE 0 rfl rfl)) ?_;refine aB ?_;refine bE 0 2 ?_;refine cG 0 (uX L.G s (qS s x.dm i).2) (fun c f t j k m=>aLr L.G s x.dm e a.dm i c f j k) ?_;refine aB ?_;refine aN 0 2 ?_;exact bU 0 hF
theorem aNE(f:s.dF)(d:gQ L s)(a:cR s x)(i:Int)(keep:Bool)(F:Nat→Prop)(hp:(dS L s x).sat F w)(hF:∀b,F b→b < w.heap.size):
  Cz 186 #[.pointer (some ⟨L.h,0,none⟩),iv i,.bool keep] w (Wr (iv (sB s x.dm i keep).1) (dS L s {x with dm:=(sB s x.dm i keep).2}) w F):=by
 have l:=f.t.nd
 refine dD func186 ntmps186 hp hF ?_;refine aB ?_;refine aZ (fun c t=>zO L s x c (t.mU 0 rfl d a)) ?_;refine aB ?_;refine kd (bP rfl (qE 0 rfl rfl)) ?_;refine aB ?_;refine bE 0 2 ?_;refine cG 0 (uX L.G s (sB s x.dm i keep).2) (fun c e t j k m=>aLw L.G s x.dm a.dm aA i keep c e j k) ?_;refine aB ?_;refine aN 0 2 ?_;exact bU 0 hF
theorem aNB(f:s.dF)(d:gQ L s)(a:cR s x)(i:Int)(F:Nat→Prop)(hp:(dS L s x).sat F w)(hF:∀b,F b→b < w.heap.size):
  Cz 190 #[.pointer (some ⟨L.h,0,none⟩),iv i] w (Wr (iv (rU x.ln i).1) (dS L s {x with ln:=(rU x.ln i).2}) w F):=by
 have l:=f.t.nd
 refine dD func190 ntmps190 hp hF ?_;refine aB ?_;refine aZ (fun c t=>zO L s x c (t.mU 0 rfl d a)) ?_;refine aB ?_;refine kd (bP rfl (qE 0 rfl rfl)) ?_;refine aB ?_;refine bE 0 3 ?_;refine cG 0 (pP L.R s (rU x.ln i).2) (fun c e t j k m=>aKy L.R s x.ln a.ln i c e j k) ?_;refine aB ?_;refine aN 0 3 ?_;exact bU 0 hF
end
def Yi(a b:Int):Int:=IntKind.u32.wrap (BitVec.ofInt 32 a&&& BitVec.ofInt 32 b).toNat
def zY(a b:Int):Int:=IntKind.u32.wrap (BitVec.ofInt 32 a&&& ~~~ BitVec.ofInt 32 b).toNat
def zI(a b:Int):Int:=IntKind.u32.wrap (BitVec.ofInt 32 a||| BitVec.ofInt 32 b).toNat
theorem Kj(a:Int):0≤IntKind.u32.wrap a∧IntKind.u32.wrap a < 4294967296:=by
 unfold IntKind.wrap;simp only[IntKind.signed,IntKind.bits,Bool.false_and,Bool.false_eq_true,if_false];exact⟨Int.emod_nonneg _ aC,Int.emod_lt_of_pos _ aC⟩
def vF(many a:Int):Int:=IntKind.u32.wrap (IntKind.u64.wrap (IntKind.u64.wrap (IntKind.u64.wrap (1*2 ^ min many.toNat 64) - 1)*2 ^ min a.toNat 64))
def cT(w a many:Int):Int:=Yi (w.fdiv (2 ^ min a.toNat 32)) (vF many 0)
def wF(w a many v:Int):Int×Int:=if zY v (vF many 0)≠0 then(0,1) else(zI (zY w (vF many a)) (IntKind.u32.wrap (v*2 ^ min a.toNat 32)),0)
def gK(w a many v:Int):Int×Int:=if v < 0∨IntKind.i64.wrap (1*2 ^ min many.toNat 64)≤v then(0,1) else if(wF w a many (IntKind.u32.wrap v)).2≠0 then(0,1) else((wF w a many (IntKind.u32.wrap v)).1,0)
def okF(a many:Int):Prop:=1≤many∧many≤32∧0≤a∧a≤32 - many
def aCV(many:Int)(v:Value)(w w':World):Prop:=∃g,v=.tuple #[.func (.func 210) #[] #[pt g],.bool true]∧RP (fresh w w') g 0 (iv many)
theorem aBP(a many:Int)(g:Nat)(w:World)(h:gG w g 0 (iv many))(b:0≤a)(hm:0≤many):
  Cz 210 #[iv a,pt g] w (Rt (.int .u32 (vF many a)) w):=by
 refine aT func210 ntmps210 ?_;refine aE ?_;refine Kf rfl rfl aA rfl aC ?_;refine Ts rfl rfl rfl aC ?_;refine dW rfl aC ?_;refine Kf rfl rfl aA rfl aC ?_;refine Bb (kd:=.u32) (ds:=.int .u64) aF aF rfl rfl aC ?_;refine aE ?_;exact aW (h:=fun _ _=>rfl)
theorem aFX(c many:Int)(w:World)(b:okF c many):Cz 170 #[iv c,iv many] w (fun y w'=>(∃x,y=.returned x∧aCV many x w w')∧Below w.heap.size w w'):=by
 refine aT func170 ntmps170 ?_;refine aB ?_;refine bY fun e=>?_;refine aB ?_
 (first | refine cN (t:=8) rfl (fun a=>?_) (fun a=>?_) | refine qQ (t:=8) rfl (fun a=>?_) (fun a=>?_))
 ·
  refine aB ?_;exact absurd b (by unfold okF;omega)
 ·
  refine aB ?_
  (first | refine cN (t:=12) rfl (fun a=>?_) (fun a=>?_) | refine qQ (t:=12) rfl (fun a=>?_) (fun a=>?_))
  ·
   refine aB ?_;exact absurd b (by unfold okF;omega)
  ·
   refine aB ?_
   (first | refine cN (t:=16) rfl (fun a=>?_) (fun a=>?_) | refine qQ (t:=16) rfl (fun a=>?_) (fun a=>?_))
   ·
    refine aB ?_;exact absurd b (by unfold okF;omega)
   ·
    refine aB ?_;refine aK rfl (fun h=>?_) (fun h=>?_)
    ·
     refine aB ?_;exact absurd b (by unfold okF;omega)
    ·
     refine aB ?_;refine kK (vf:=[]) (vc:=[pt e]) rfl rfl aC ?_;refine aB ?_;refine dK [] [0] [] aD rfl aC aC fun q f _ d=>?_;refine gF rfl rfl rfl fun i st=>⟨⟨_,rfl,e,rfl,(sM (o:=0) (v:=iv many) (f 0 _ aD rfl) rfl).le (st.nL aD (d aD aD))⟩,st.below aD⟩
theorem aFE(w0 a many:Int)(w:World)(b:okF a many):
  Cz 234 #[.int .u32 w0,iv a,iv many] w (Rt (.tuple #[.int .u32 (cT w0 a many),iv 0]) w):=by
 refine aT func234 ntmps234 ?_;refine aE ?_;refine kN [] (aCV many) (fun e st=>aFX a many e b) ?_;rintro _ e j ⟨g,rfl,d⟩ i _ _
 have d:=d.le i
 clear i;refine dW rfl aC ?_;refine Tw rfl rfl aC ?_;refine Tw rfl rfl aC ?_;refine jZ rfl aC ?_;refine jZ rfl aC ?_;refine fP ?_;refine eG ?_;refine eG ?_;refine gN ?_;refine dW rfl aC ?_
 (first | refine aDj rfl aC ?_ | refine Cl rfl aC ?_)
 refine fP ?_;refine pZ rfl (fun h=>?_) (fun h=>?_)
 ·
  refine aE ?_;exact absurd h aD
 ·
  refine pF ?_;refine eR ?_;refine eG ?_;refine rK 5 aF aF ?_;refine gO 0 rfl rfl rfl (mG rfl) ?_;refine gO 1 rfl rfl rfl (mG rfl) ?_;refine gO 2 rfl rfl rfl (aGq rfl rfl (by unfold okF at b;omega) rfl) ?_;refine gO 3 rfl rfl rfl (mG rfl) ?_;refine cX 4 ?_;refine xK (f:=210) (fi:=[]) (ca:=[pt g]) aF rfl rfl aC (fun e st=>aBP 0 many g e (d.le (st.le aD)) (by unfold okF at b;omega) (by unfold okF at b;omega)) ?_;refine nO ?_;refine cX 5 ?_;refine Ov (c:=cT w0 a many) rfl rfl (fun _=>rfl) aD aC ?_;refine fB ?_;refine cX 6 ?_;refine jZ rfl aC ?_;refine fB ?_;refine cX 7 ?_;refine jZ rfl aC ?_;refine fB ?_;refine lA ?_;refine eR ?_;refine Nk ?_;refine eR ?_;exact gF rfl rfl rfl fun e st=>⟨rfl,st.below aD⟩
theorem aAF(w0 a many v:Int)(w:World)(b:okF a many):
  Cz 120 #[.int .u32 w0,iv a,iv many,.int .u32 v] w (Rt (.tuple #[.int .u32 (wF w0 a many v).1,iv (wF w0 a many v).2]) w):=by
 refine aT func120 ntmps120 ?_;refine aE ?_;refine kN [] (aCV many) (fun e st=>aFX a many e b) ?_;rintro _ e j ⟨g,rfl,d⟩ i _ _
 have d:=d.le i
 clear i;refine dW rfl aC ?_;refine Tw rfl rfl aC ?_;refine Tw rfl rfl aC ?_;refine jZ rfl aC ?_;refine jZ rfl aC ?_;refine fP ?_;refine eG ?_;refine eG ?_;refine gN ?_;refine dW rfl aC ?_
 (first | refine aDj rfl aC ?_ | refine Cl rfl aC ?_)
 refine fP ?_;refine pZ rfl (fun h=>?_) (fun h=>?_)
 ·
  refine aE ?_;exact absurd h aD
 ·
  refine aE ?_;refine xK (f:=210) (fi:=[]) (ca:=[pt g]) aF rfl rfl aC (fun e st=>aBP 0 many g e (d.le (st.le aD)) (by unfold okF at b;omega) (by unfold okF at b;omega)) ?_;refine Ov (c:=zY v (vF many 0)) rfl rfl (fun _=>rfl) aD aC ?_;refine aE ?_;refine aK rfl (fun h=>?_) (fun h=>?_)
  ·
   refine aE ?_;refine gF rfl rfl rfl fun e st=>⟨by rw[wF,if_pos h],st.below aD⟩
  ·
   refine pF ?_;refine eR ?_;refine eG ?_;refine rK 8 aF aF ?_;refine gO 0 rfl rfl rfl (mG rfl) ?_;refine gO 1 rfl rfl rfl (mG rfl) ?_;refine gO 2 rfl rfl rfl (mG rfl) ?_;refine gO 5 rfl rfl rfl (mG rfl) ?_;refine gO 6 rfl rfl rfl (mG rfl) ?_;refine gO 7 rfl rfl rfl (aPw rfl rfl (by unfold okF at b;omega) rfl) ?_;refine cX 3 ?_;refine xK (f:=210) (fi:=[]) (ca:=[pt g]) aF rfl rfl aC (fun e st=>aBP a many g e (d.le (st.le aD)) (by unfold okF at b;omega) (by unfold okF at b;omega)) ?_;refine nO ?_;refine gO 4 rfl rfl rfl (aGx (c:=zY w0 (vF many a)) rfl rfl (fun _=>rfl) aD) ?_;refine cX 8 ?_;refine Ov (c:=zI (zY w0 (vF many a)) (IntKind.u32.wrap (v*2 ^ min a.toNat 32))) rfl rfl (fun _=>rfl) aD aC ?_;refine fB ?_;refine cX 9 ?_;refine jZ rfl aC ?_;refine fB ?_;refine cX 10 ?_;refine jZ rfl aC ?_;refine fB ?_;refine lA ?_;refine eR ?_;refine Nk ?_;refine eR ?_;refine gF rfl rfl rfl fun e st=>⟨by rw[wF,if_neg h],st.below aD⟩
theorem Qb(w0 a many:Int)(w:World)(b:okF a many):
  Cz 223 #[.int .u32 w0,iv a,iv many] w (Rt (iv (cT w0 a many)) w):=by
 refine aT func223 ntmps223 ?_;refine aB ?_;refine dJ (fun c st=>aFE w0 a many c b) ?_;refine aB ?_;refine Bb (ds:=.int .u32) aF aF rfl (iY (by have:=Kj (BitVec.ofInt 32 (w0.fdiv (2 ^ min a.toNat 32))&&& BitVec.ofInt 32 (vF many 0)).toNat;unfold cT Yi;omega)) aC ?_;refine aB ?_;exact aW (h:=fun _ _=>rfl)
theorem Vg(w0 a many v:Int)(w:World)(e:okF a many):
  Cz 72 #[.int .u32 w0,iv a,iv many,iv v] w (Rt (.tuple #[.int .u32 (gK w0 a many v).1,iv (gK w0 a many v).2]) w):=by
 refine aT func72 ntmps72 ?_;refine aE ?_
 (first | refine cN (t:=13) rfl (fun d=>?_) (fun d=>?_) | refine qQ (t:=13) rfl (fun d=>?_) (fun d=>?_))
 ·
  refine aE ?_;refine gF rfl rfl rfl fun b st=>⟨by rw[gK,if_pos (.inl d)],st.below aD⟩
 ·
  refine jK rfl rfl ?_;refine dW rfl aC ?_;refine jK rfl rfl ?_;refine dW rfl aC ?_;refine jK rfl rfl ?_;refine Kf rfl rfl (by unfold okF at e;omega) rfl aC ?_;refine aE ?_;refine aK rfl (fun h=>?_) (fun h=>?_)
  ·
   refine aE ?_;refine gF rfl rfl rfl fun b st=>⟨by rw[gK,if_pos (.inr h)],st.below aD⟩
  ·
   refine pF ?_
   have c:¬(v < 0∨IntKind.i64.wrap (1*2 ^ min many.toNat 64)≤v):=fun f=>f.elim d h
   refine eR ?_;refine eG ?_;refine gN ?_;refine dW rfl aC ?_;refine dW rfl aC ?_;refine dW rfl aC ?_;refine dW rfl aC ?_;refine Bb (kd:=.u32) (ds:=.int .i64) aF aF rfl rfl aC ?_;refine dJ (fun b st=>aAF w0 a many (IntKind.u32.wrap v) b e) ?_;refine aE ?_;refine aK rfl (fun f=>?_) (fun f=>?_)
   ·
    refine aE ?_;refine gF rfl rfl rfl fun b st=>⟨by rw[gK,if_neg c,if_pos f],st.below aD⟩
   ·
    refine aE ?_;refine gF rfl rfl rfl fun b st=>⟨by rw[gK,if_neg c,if_neg f];rfl,st.below aD⟩
def Ea(a:Int)(i:Nat):Bool:=decide (Yi (a.fdiv (2 ^ min i 32)) 1=1)
def xU(x:aP)(a:Int)(n:Nat):List (dB×dN):=x.dv.mapIdx fun i p=>if i < n then(p.1,sZ p.2 (decide (0 < kS x.wt i)) (Ea a i)) else p
def Ec(k:Int)(d:cH)(f:dB):dB:=if k=115 then vB d f else if k=114 then Fk d f else if k=108∨k=110 then Ca d f else f
def Bx(s:aG)(e:Int×Nat)(i:Nat)(p:dB×dN):dB×dN:=match s.aH[i]? with
 | some d=>if d.domain=(e.2:Int) then(Ec e.1 d p.1,p.2) else p
 | none=>p
def zJ(s:aG)(dv:List (dB×dN))(e:Int×Nat)(n:Nat):List (dB×dN):=dv.mapIdx fun i p=>if i < n then Bx s e i p else p
def rB(s:aG)(dv:List (dB×dN))(e:Int×Nat):List (dB×dN):=zJ s dv e s.aH.length
def jA(s:aG)(x:aP)(a:Int):aP:=⟨lD s x.ck,pI x.dm,yX x.ln,(lH x.dm s.domains.length).foldl (rB s) (xU x a s.aH.length),x.wt,x.aS⟩
theorem Lh{α:Type}(l:List α)(f:Nat→α→α):(l.mapIdx fun i p=>if i < 0 then f i p else p)=l:=by
 refine List.ext_getElem? fun i=>?_;simp
theorem Li{α:Type}{l:List α}{f:Nat→α→α}{n:Nat}{p:α}(hp:l[n]? =some p):(l.mapIdx fun i p=>if i < n then f i p else p).set n (f n p)=l.mapIdx fun i p=>if i < n+1 then f i p else p:=by
 refine List.ext_getElem? fun i=>?_
 have a:=(List.getElem?_eq_some_iff.1 hp).1
 rw[List.getElem?_set]
 by_cases b:n=i
 ·subst b;rw[if_pos rfl,if_pos (by simpa using a),List.getElem?_mapIdx,hp];simp
 ·rw[if_neg b,List.getElem?_mapIdx,List.getElem?_mapIdx];cases l[i]? with
  | none=>rfl
  | some q=>
   simp only[Option.map_some,Option.some.injEq]
   by_cases h:i < n
   ·rw[if_pos h,if_pos aA]
   ·rw[if_neg h,if_neg aA]
theorem Lj{α:Type}{l:List α}{f:Nat→α→α}{n:Nat}{p:α}(hp:l[n]? =some p):(l.mapIdx fun i p=>if i < n then f i p else p)[n]? =some p:=by
 rw[List.getElem?_mapIdx,hp];simp
theorem Xm{ds:List cH}{a:List (FL×Nat)}{xs:List (dB×dN)}{i:Nat}{d:cH}{l:FL×Nat}{p:dB×dN}(hd:ds[i]? =some d)(hl:a[i]? =some l)(hp:xs[i]? =some p):(wM ds a xs)[i]? =some (Mp d (l,p)):=by
 have b:(a.zip xs)[i]? =some (l,p):=List.getElem?_zip_eq_some.2 ⟨hl,hp⟩
 rw[wM,List.getElem?_zipWith,hd,b]
theorem aPf{ds:List cH}{c:List (FL×Nat)}{xs:List (dB×dN)}{i:Nat}{d:cH}{l:FL×Nat}{p:dB×dN}(hd:ds[i]? =some d)(hl:c[i]? =some l)(hp:xs[i]? =some p)(p':dB×dN):(wM ds c xs).set i (Mp d (l,p'))=wM ds c (xs.set i p'):=by
 refine List.ext_getElem? fun j=>?_
 have a:=(List.getElem?_eq_some_iff.1 (Xm hd hl hp)).1
 rw[List.getElem?_set]
 by_cases b:i=j
 ·subst b;rw[if_pos rfl,if_pos a];exact(Xm hd hl (List.getElem?_set_self (List.getElem?_eq_some_iff.1 hp).1)).symm
 ·rw[if_neg b];simp only[wM,List.getElem?_zipWith,List.zip,List.getElem?_set_ne b]
theorem aBR{ds:List cH}{a:List (FL×Nat)}{i:Nat}{d:cH}{l:FL×Nat}(hd:ds[i]? =some d)(hl:a[i]? =some l):(vN ds a)[i]? =some (Gg d l):=by
 rw[vN,List.getElem?_zipWith,hd,hl]
theorem aBQ{ds:List cH}{c:List (FL×Nat)}:∀r∈vN ds c,r.length=6:=fun r b=>by
 obtain⟨i,a⟩:=List.getElem?_of_mem b;rw[vN,List.getElem?_zipWith] at a;split at a
 ·cases a;rfl
 ·cases a
theorem aJs{x:dN}(h:yR x)(a b:Bool):yR (sZ x a b):=by
 unfold sZ;unfold yR at h⊢;split
 ·exact h
 ·split
  ·exact⟨(by show(0:Int)≤3;omega),(by show(3:Int)≤3;omega)⟩
  ·split
   ·exact h
   ·exact⟨(by show(0:Int)≤2;omega),(by show(2:Int)≤3;omega)⟩
theorem aKe{r:Rg}{p:Int×Int}(b:0≤p.1∧p.1 < 4294967296)(a:0≤p.2∧p.2 < 4294967296):0≤Hv r p∧Hv r p < 4294967296:=by
 unfold Hv;split<;>assumption
theorem aG0{d:cH}{f:dB}(k:Int)(n:∀r∈d.aX,0≤r.reset∧r.reset≤6)(h:xE d f):xE d (Ec k d f):=by
 have e:∀v∈d.aX.map (·.reset),0≤v∧v < 4294967296:=fun v j=>by
  obtain⟨r,b,rfl⟩:=List.mem_map.1 j
  have:=n r b
  omega
 have t:=h.now
 have o:=h.saved
 unfold Ec;split
 ·refine⟨t,by simp[vB];omega,h.u.1,fun v j=>?_⟩;obtain⟨i,a⟩:=List.getElem?_of_mem j;simp only[vB,List.getElem?_zipWith] at a;split at a
  ·rename_i r p b c
   cases a;obtain⟨l,m⟩:=List.getElem?_zip_eq_some.1 c;exact aKe (h.u.1 _ (List.mem_of_getElem? l)) (h.u.2 _ (List.mem_of_getElem? m))
  ·cases a
 ·split
  ·refine⟨by simp[Fk];omega,o,fun v j=>?_,h.u.2⟩;obtain⟨i,a⟩:=List.getElem?_of_mem j;simp only[Fk,List.getElem?_zipWith] at a;split at a
   ·rename_i r p b c
    cases a;unfold Va;split
    ·exact h.u.2 _ (List.mem_of_getElem? c)
    ·have:=n r (List.mem_of_getElem? b)
     omega
   ·cases a
  ·split
   ·exact⟨by simp[Ca],o,e,h.u.2⟩
   ·exact h
theorem Qd{s:aG}{x:aP}(b:s.dF)(a:cR s x){dv:List (dB×dN)}(hl:dv.length=x.dv.length)(h:∀(i:Nat) (d:cH) (p:dB×dN),s.aH[i]? =some d→dv[i]? =some p→xE d p.1∧yR p.2):cR s {x with dv:=dv}:=⟨a.ck,a.dm,a.ln,hl.trans a.dv,h,a.wt⟩
theorem aBb{s:aG}{x:aP}(j:s.dF)(b:cR s x)(c:Int)(n:Nat):cR s {x with dv:=xU x c n}:=Qd j b (by simp[xU]) fun i d p hd a=>by
 rw[xU,List.getElem?_mapIdx] at a;cases e:x.dv[i]? with
 | none=>rw[e] at a;cases a
 | some q=>
  rw[e] at a;obtain⟨f,h⟩:=b.each i d q hd e;simp only[Option.map_some,Option.some.injEq] at a;subst a;split
  ·exact⟨f,aJs h _ _⟩
  ·exact⟨f,h⟩
theorem aEW{s:aG}{x:aP}(j:s.dF)(b:cR s x)(e:Int×Nat)(n:Nat):cR s {x with dv:=zJ s x.dv e n}:=Qd j b (by simp[zJ]) fun i d p hd a=>by
 rw[zJ,List.getElem?_mapIdx] at a;cases c:x.dv[i]? with
 | none=>rw[c] at a;cases a
 | some q =>
  rw[c] at a;obtain⟨f,h⟩:=b.each i d q hd c;simp only[Option.map_some,Option.some.injEq] at a;subst a;split
  ·unfold Bx;rw[hd];dsimp only;split
   ·exact⟨aG0 _ (j.t.aH i d hd).2.2.2.2.2.2.2.2.2.1 f,h⟩
   ·exact⟨f,h⟩
  ·exact⟨f,h⟩
theorem aBH{s:aG}(a:s.dF):∀(es:List (Int×Nat)) (x:aP),cR s x→cR s {x with dv:=es.foldl (rB s) x.dv}
 | [],x,h=>h
 | e::es,x,h=>aBH a es {x with dv:=rB s x.dv e} (aEW a h e _)
theorem aM0{s:aG}{dv:List (dB×dN)}{e:Int×Nat}(h:¬(e.1=115∨e.1=114∨e.1=108∨e.1=110)):rB s dv e=dv:=by
 unfold rB zJ;refine List.ext_getElem? fun i=>?_;rw[List.getElem?_mapIdx];cases dv[i]? with
 | none=>rfl
 | some p =>
  simp only[Option.map_some,Option.some.injEq];split
  ·unfold Bx;split
   ·split
    ·have:Ec e.1 (by assumption) p.1=p.1:=by
      unfold Ec;rw[if_neg aA,if_neg aA,if_neg aA]
     rw[this]
    ·rfl
   ·rfl
  ·rfl
theorem aJt{s:aG}{st:List jX}(h:Cg s st):Cg s (yX st):=by
 refine⟨by simp[yX,h.len],fun x b=>?_⟩;obtain⟨y,a,rfl⟩:=List.mem_map.1 b
 have:=h.left y a
 unfold lP;split
 ·exact this
 ·split
  ·dsimp only;omega
  ·split
   ·exact this
   ·exact this
theorem aDH{s:aG}{x:aP}(c:s.dF)(a:cR s x)(b:Int):cR s (jA s x b):=by
 have d:=aBH c (lH x.dm s.domains.length) _ (aBb c a b s.aH.length)
 exact⟨aAs c a.ck,aAr a.dm,aJt a.ln,d.dv,d.each,a.wt⟩
def aF6(L:HL)(s:aG)(x:aP):HP:=HP.many [HP.aI L.h 175 (Qt L s.aH.length),qA L.T s x.ck,uX L.G s x.dm,pP L.R s x.ln,xH L.B (kF s) x.wt x.aS,HP.own 182 6 (.slice L.A s.aH.length L.c) s.aH.length (vN s.aH L.ds).flatten,cM]
def aGk(L:HL)(s:aG)(x:aP)(i:Nat):HP:=HP.many ((wM s.aH L.ds x.dv).set i cM)
theorem Nl(j i:Nat){d:cH}{l:FL×Nat}{p:dB×dN}(hj:H[j]? =some (dS L s x))(hd:s.aH[i]? =some d)(hl:L.ds[i]? =some l)(hp:x.dv[i]? =some p)
  (k:XK N w0 K e R (HP.many [iF l.1 d p.1,tT l.2 p.2]::aGk L s x i::H.set j (aF6 L s x))):XK N w0 K e R H:=by
 refine rG j 6 hj rfl ?_;refine rG 0 i rfl (Xm hd hl hp) ?_;exact k
theorem Nu(j i:Nat){d:cH}{l:FL×Nat}{p p':dB×dN}(hj:H[j]? =some (aF6 L s x))(hd:s.aH[i]? =some d)(hl:L.ds[i]? =some l)(hp:x.dv[i]? =some p)
  (k:XK N w0 K e R (H.set j (dS L s {x with dv:=x.dv.set i p'}))):XK N w0 K e R (HP.many [iF l.1 d p'.1,tT l.2 p'.2]::aGk L s x i::H):=by
 have a:=(List.getElem?_eq_some_iff.1 (Xm hd hl hp)).1
 refine rJ 0 i rfl (by rw[List.getElem?_set_self (by simpa using a)]) ?_;dsimp only[List.set];refine rJ j 6 hj rfl ?_;rw[List.set_set,show HP.many [iF l.1 d p'.1,tT l.2 p'.2]=Mp d (l,p') from rfl,aPf hd hl hp p'];exact k
theorem Jh(j:Nat)(hj:H[j]? =some (dS L s x))(d:gQ L s)(c:cR s x)(f:0 < s.aH.length)(k:∀b off,L.A=some ⟨b,off,none⟩→XK N w0 K e R H):XK N w0 K e R H:=fun a w h st=>by
 obtain⟨b,off,i,_⟩:=(st.mU j hj d c).rows.2 f;exact k b off i a w h st
theorem aV.dev(j:Nat){i b off o:Nat}{d:cH}{l:FL×Nat}(hj:H[j]? =some (dS L s x))(f:gQ L s)(c:cR s x)(n:L.A=some ⟨b,off,none⟩)(hd:s.aH[i]? =some d)(hl:L.ds[i]? =some l)(ho:o=off+i*6):aV w0 R H b o (Gg d l):=.of fun k v m w st=>by
 obtain⟨p,h,a,e⟩:=aM.row (st.mU j hj f c).rows (rows:=vN s.aH L.ds) (fun r e=>aBQ r e) (aBR hd hl) (List.getElem?_eq_some_iff.1 hd).1;rw[n] at a;cases a;subst ho;exact(e.2 k v m)
section
variable{Q:Exit→Act→World→Prop}
theorem vX{α:Type}(i:Nat){f:FuncId}{x:Operand}{args:List Operand}{fi ca vs:List Value}{tys:Array TypeId}{p:HP}(v:α→Value)(q:α→HP)(G:α→Prop)(hf:fJ P f=true)(hx:e.ev x=some (.func (.func f) fi.toArray ca.toArray))(L:e.fZ args=some vs)(hi:H[i]? =some p)(hd:d < N.n)
  (J:∀w F,St w0 R H w→p.sat F w→(∀b,F b→b < w.heap.size)→(∀q∈R,q.Le ⟨w,fun b=>b < w.heap.size∧¬F b⟩)→Calls P f (fi++vs++ca).toArray w fun y w'=>∃a,y=.returned (v a)∧G a∧∃j,(q a).sat j w'∧iI w w' F j)
  (k:∀a,G a→XK N w0 (wpList P ops Q rest) ((d,v a)::e) R (H.set i (q a))):XK N w0 (wpList P ops Q (⟨some d,.call {callee:=.value x,args:=args.toArray,argTypes:=tys},ty,pos,aL,none⟩::rest)) e R H:=fun a w o st=>wpList_plain rfl fun K B=>by
 unfold fJ at hf;cases l:P.funcs[f]? with
 | none=>simp[l] at hf
 | some fn =>
  simp[l] at hf;obtain⟨m,r⟩:=hf
  have h:(execOp a.eval (⟨some d,.call {callee:=.value x,args:=args.toArray,argTypes:=tys},ty,pos,aL,none⟩:Oper)).run P w=.ok (.enter f (fi++vs++ca).toArray) w:=by
   cases A:fn.body with
   | none=>simp[A] at r
   | some c=>simp[execOp,resolve,o.ev hx,Deferred.ofValue,invoke,callFunc,l,m,A,o.fZ L]
  obtain⟨F,D,t,z,mA⟩:=st.chunk hi;unfold Oper.wp;rw[h];refine(J w F st D t z).mono fun y w' C=>?_;obtain⟨u,rfl,hG,j,E,I⟩:=C;exact B _ _ (k u hG _ _ (o.put hd (v u)) (mA w' j (q u) E I))
end
def aFF(P:Program)(t:TypeId):Bool:=match P.underlying t with
 | some (.func ..)=>true
 | _=>false
theorem aKs(w:World)(n:Nat)(t:TypeId){b d:Array TypeId}{c:Bool}(a:P.underlying t=some (.func b d c)):(Op.equalIn (n+1) t .nilFunc .nilFunc).run P w=.ok true w:=by simp[Op.equalIn,run_underlying a]
theorem aKu(w:World)(n:Nat)(t:TypeId){c d:Array TypeId}{a:Bool}(f:Fn)(fi ca:Array Value)(b:P.underlying t=some (.func c d a)):(Op.equalIn (n+1) t (.func f fi ca) .nilFunc).run P w=.ok false w:=by simp[Op.equalIn,run_underlying b]
theorem aGw{x:Operand}{t u:TypeId}{v:Value}{b:Bool}(hx:e.ev x=some v)(n:(v=.nilFunc∧b=true)∨(∃f a c,v=.func f a c)∧b=false)(h:aFF P t=true:=by kernel_rfl):cF P N w0 e R H ⟨some d,.binOp .eql t x (.const .nilFunc) u,ty,pos,aL,none⟩ (.bool b):=gZ fun a w j=>by
 have m:=j.ev (show e.ev (.const .nilFunc)=some .nilFunc from rfl)
 unfold aFF at h;split at h
 ·rename_i p r o l
  rcases n with⟨rfl,rfl⟩ | ⟨⟨f,fi,k,rfl⟩,rfl⟩
  ·have i:(Op.equal t .nilFunc .nilFunc).run P w=.ok true w:=aKs w 9999 t l
   simp[execOp,j.ev hx,m,eqGuard,binOp,i]
  ·have i:(Op.equal t (.func f fi k) .nilFunc).run P w=.ok false w:=aKu w 9999 t f fi k l
   simp[execOp,j.ev hx,m,eqGuard,binOp,i]
 ·cases h
def Eb(k:Int):Value:=if k=115 then .func (.func 205) #[] #[] else if k=114 then .func (.func 206) #[] #[] else if k=108∨k=110 then .func (.func 112) #[] #[] else .nilFunc
theorem aNF(k:Int)(w:World):Cz 147 #[.int .u8 k] w (Rt (Eb k) w):=by
 refine aT func147 ntmps147 ?_;refine aB ?_;refine aK rfl (fun a=>?_) (fun a=>?_)
 ·refine aB ?_;exact dL (by rw[Eb,if_pos a])
 refine aB ?_;refine aK rfl (fun b=>?_) (fun b=>?_)
 ·refine aB ?_;exact dL (by rw[Eb,if_neg a,if_pos b])
 refine aB ?_;refine aK rfl (fun c=>?_) (fun c=>?_)
 ·refine aB ?_;refine aK rfl (fun _=>?_) (fun h=>absurd c h);refine aB ?_;exact dL (by rw[Eb,if_neg a,if_neg b,if_pos (.inl c)])
 ·refine aB ?_;refine aK rfl (fun d=>?_) (fun d=>?_)
  ·refine aB ?_;exact dL (by rw[Eb,if_neg a,if_neg b,if_pos (.inr d)])
  ·refine aB ?_;exact dL (by rw[Eb,if_neg a,if_neg b,if_neg aA])
theorem aPT{k:Int}(hk:k=115∨k=114∨k=108∨k=110):∃f:FuncId,Eb k=.func (.func f) #[] #[]∧fJ Tryz.prog f=true∧∀(L:FL) (d:cH) (x:dB) (a:d.aX.length≤100) (c:xE d x) (w:World) (F:Nat→Prop) (hp:(iF L d x).sat F w) (hF:∀b,F b→b < w.heap.size),
  Cz f #[.pointer (some ⟨L.f,0,none⟩)] w (Wr (.tuple #[]) (iF L d (Ec k d x)) w F):=by
 rcases hk with rfl | rfl | rfl | rfl
 ·exact⟨_,rfl,aF,aKT⟩
 ·exact⟨_,rfl,aF,aKU⟩
 ·exact⟨_,rfl,aF,Vc⟩
 ·exact⟨_,rfl,aF,Vc⟩
theorem aQP(L:BL)(ms:List Int)(ws:List (Option jH))(aS:Int)(i:Nat)(hi:i < ms.length)(f:kS ws i=0)(w:World)(d:Ew w L ms ws aS):
  Cz 200 #[.pointer (some ⟨L.b,0,none⟩),iv (i:Int)] w (Rt (.tuple #[.agg #[iv 0,.bool false,iv 0,.int .u32 0],.bool false]) w):=by
 have l:=d.r0.at_ (j:=1) rfl
 obtain⟨A,c,h⟩:=d.wt i hi;rw[f] at h
 have a:bO ms.length (i:Int)=true:=decide_eq_true aA
 refine aT func200 ntmps200 ?_;refine aB ?_;refine cQ fun k=>?_;refine aB ?_;refine aZ (fun e t=>Yc L ms ws aS i e (d.below (t.below aD))) ?_;rw[a];refine aE ?_;exact yI (vs:=[iv 0,.bool false,iv 0,.int .u32 0]) rfl aF rfl rfl (aV.whole 0 rfl) rfl fun e t=>⟨rfl,t.below aD⟩
theorem aNI(L:HL)(s:aG)(x:aP)(i:Nat)(hi:i < s.aH.length)(c:kS x.wt i=0)(w:World)(b:tV w L s x):
  Cz 142 #[.pointer (some ⟨L.h,0,none⟩),iv (i:Int)] w (Rt (.tuple #[.agg #[iv 0,iv 0,.bool false,.int .u32 0],.bool false]) w):=by
 have e:=b.r0.at_ (j:=3) rfl
 refine aT func142 ntmps142 ?_;refine aB ?_;refine cQ fun d=>?_;refine aB ?_;refine aZ (fun a t=>aQP L.B (kF s) x.wt x.aS i (by rw[Dh];exact hi) c a (b.Yd.below (t.below aD))) ?_;refine aB ?_;refine cQ fun f=>?_;refine aE ?_;exact yI (vs:=[iv 0,iv 0,.bool false,.int .u32 0]) rfl aF rfl rfl (aV.whole 1 rfl) rfl fun a t=>⟨rfl,t.below aD⟩
section
variable{Q:Exit→Act→World→Prop}
def isIface(P:Program)(t:TypeId):Bool:=match P.underlying t with
 | some (.interface _)=>true
 | _=>false
def aEK(P:Program)(t:TypeId):Bool:=match P.underlying t with
 | some (.interface _)=>false
 | some _=>true
 | none=>false
theorem Ms{x:Operand}{t:TypeId}{v:Value}(hx:e.ev x=some v)(b:aEK P t=true:=by kernel_rfl):cF P N w0 e R H ⟨some d,.makeInterface t x,ty,pos,aL,none⟩ (.iface t v):=gZ fun a w f=>by
 unfold aEK at b;cases c:P.underlying t with
 | none=>rw[c] at b;cases b
 | some u=>cases u<;>first | (rw[c] at b;cases b;done) | simp[execOp,f.ev hx,Instr.makeInterface,run_underlying c]
theorem aKt(w:World)(n:Nat)(t:TypeId){f:Array (String×TypeId)}(a:P.underlying t=some (.interface f)):(Op.equalIn (n+1) t .nilIface .nilIface).run P w=.ok true w:=by simp[Op.equalIn,run_underlying a]
theorem aKq(w:World)(n:Nat)(t:TypeId){f:Array (String×TypeId)}(u:TypeId)(v:Value)(a:P.underlying t=some (.interface f)):(Op.equalIn (n+1) t (.iface u v) .nilIface).run P w=.ok false w:=by simp[Op.equalIn,run_underlying a]
theorem aGu{x:Operand}{t u:TypeId}{v:Value}{b:Bool}(hx:e.ev x=some v)(k:(v=.nilIface∧b=true)∨(∃u y,v=.iface u y)∧b=false)(c:isIface P t=true:=by kernel_rfl):cF P N w0 e R H ⟨some d,.binOp .eql t x (.const .nilIface) u,ty,pos,aL,none⟩ (.bool b):=gZ fun a w h=>by
 have i:=h.ev (show e.ev (.const .nilIface)=some .nilIface from rfl)
 unfold isIface at c;split at c
 ·rename_i l j
  rcases k with⟨rfl,rfl⟩ | ⟨⟨u,y,rfl⟩,rfl⟩
  ·have f:(Op.equal t .nilIface .nilIface).run P w=.ok true w:=aKt w 9999 t j
   simp[execOp,h.ev hx,i,eqGuard,binOp,f]
  ·have f:(Op.equal t (.iface u y) .nilIface).run P w=.ok false w:=aKq w 9999 t u y j
   simp[execOp,h.ev hx,i,eqGuard,binOp,f]
 ·cases c
theorem aI6(i:Nat){dst:Option Nat}{e':Env}{f:FuncId}{x:Operand}{z:String}{args:List Operand}{vs:List Value}{tys:Array TypeId}{U:TypeId}{u V:Value}{p:HP}{v:Value}(q:HP)(hf:fJ P f=true)(hx:e.ev x=some (.iface U u))(hm:∀w,(method (P.types.size+Made.depth) U u z).run P w=.ok (f,V) w)(ha:e.fZ args=some vs)(hi:H[i]? =some p)
  (hd:match dst with | some d=>d < N.n∧e'=(d,v)::e | none=>e'=e)
  (hc:∀w F,St w0 R H w→p.sat F w→(∀b,F b→b < w.heap.size)→(∀q∈R,q.Le ⟨w,fun b=>b < w.heap.size∧¬F b⟩)→Calls P f (V::vs).toArray w fun y w'=>y=.returned v∧∃L,q.sat L w'∧iI w w' F L)
  (k:XK N w0 (wpList P ops Q rest) e' R (H.set i q)):XK N w0 (wpList P ops Q (⟨dst,.call {callee:=.invoke x z,args:=args.toArray,argTypes:=tys},ty,pos,aL,none⟩::rest)) e R H:=fun a w T st=>wpList_plain rfl fun K hK=>by
 unfold fJ at hf;cases B:P.funcs[f]? with
 | none=>simp[B] at hf
 | some fn =>
  simp[B] at hf;obtain⟨X,Y⟩:=hf
  have J:(execOp a.eval (⟨dst,.call {callee:=.invoke x z,args:=args.toArray,argTypes:=tys},ty,pos,aL,none⟩:Oper)).run P w=.ok (.enter f (V::vs).toArray) w:=by
   cases t:fn.body with
   | none=>simp[t] at Y
   | some c=>
    have h0:(#[Value.iface U u]++(args.toArray.map a.eval))[0]? =some (.iface U u):=by simp[Array.getElem?_append]
    simp[execOp,resolve,T.ev hx,invoke,callMethod,hm,callFunc,B,X,t,T.fZ ha]
  obtain⟨Z,F,M,m,hs,l,A⟩:=st.ex;unfold Oper.wp;rw[J];refine(hc w (F i) st (hs i p hi) (fun b t=>(l i b t).2) (fun q B b t=>⟨⟨M b (m q B b t).1,fun D=>(l i b D).1 (m q B b t).1⟩,(m q B b t).2⟩)).mono fun y w' ⟨hy,L,hq',o⟩=>?_;subst hy
  have G:St w0 R (H.set i q) w':=by
   have hlt:i < H.length:=by
    rcases Nat.lt_or_ge i H.length with h | h
    ·exact h
    ·rw[List.getElem?_eq_none h] at hi;cases hi
   refine⟨o.os.trans st.os,o.tape.trans st.tape,o.output.trans st.output,Nat.le_trans st.size o.size,Z,fun j=>if j=i then L else F j,fun b h=>Nat.lt_of_lt_of_le (M b h) o.size,fun p O b h=>?_,fun j r E=>?_,fun j b h=>?_,fun j k b It h=>?_⟩
   ·exact⟨(m p O b h).1,(o.old b (M b (m p O b h).1) (fun D=>(l i b D).1 (m p O b h).1)).trans (m p O b h).2⟩
   ·rw[List.getElem?_set] at E;split at E
    ·rename_i e;subst e
     first | (rw[if_pos hlt] at E;cases E) | cases E
     simpa using hq'
    ·rename_i e
     simp only[if_neg (Ne.symm e)];exact r.loc _ _ _ (hs j r E) (fun b t=>o.old b (l j b t).2 (A j i b (Ne.symm e) t))
   ·dsimp only at h;split at h
    ·refine⟨fun I=>?_,(o.new b h).2⟩;rcases(o.new b h).1 with h | h
     ·exact(l i b h).1 I
     ·have:=M b I;omega
    ·exact⟨(l j b h).1,Nat.lt_of_lt_of_le (l j b h).2 o.size⟩
   ·dsimp only at h⊢;split at h<;>split
    ·rename_i h1 h2;omega
    ·rename_i e1 e2
     intro C;rcases(o.new b h).1 with h | h
     ·exact A i k b aA h C
     ·have:=(l k b C).2;omega
    ·rename_i e1 e2
     intro C;rcases(o.new b C).1 with C | C
     ·exact A j i b aA h C
     ·have:=(l j b h).2;omega
    ·exact A j k b It h
  cases dst with
  | none=>dsimp only at hd;subst hd;exact hK _ _ (k _ _ T G)
  | some d=>dsimp only at hd;obtain⟨hd,rfl⟩:=hd;exact hK _ _ (k _ _ (T.put hd v) G)
end
section
open Go.RowKit Go.Shelf
attribute [local go_sem] Oper.semAt_some
def eJ(zs:List Int):List Value:=zs.map (Value.int .u32)
end
section
variable{Q:Exit→Act→World→Prop}
theorem aDQ{t el:TypeId}(a:P.underlying t=some (.slice el)):P.underlying t=some (.slice (P.elem t)):=by
 unfold Program.elem;rw[a]
theorem elem_eq{t el:TypeId}(a:P.underlying t=some (.slice el)):P.elem t=el:=by unfold Program.elem;rw[a]
theorem aKh{t el:TypeId}{sz n c k:Nat}{A:Option Addr}{kd:IntKind}(a:P.underlying t=some (.slice el))(d:(P.info? el).map (·.size)=some sz)(hk:k≤c)(w:World):
  ∃A',(0 < k→(∃b off,A=some ⟨b,off,none⟩)→A'=A)∧(Instr.sliceAt t (.slice A n c) none (some (.int kd (k:Int))) none).run P w=.ok (.slice A' k c) w:=by
 obtain⟨i,f,h⟩:=Option.map_eq_some_iff.1 d
 have e:=elem_eq a
 refine⟨_,?_,by rw[run_sliceAt_slice w t _ _ _ _ (aDQ a),run_slice_h w t A n c (aDQ a) kd k aA aA,e];simp[sizeOf,typeInfo,f,sliced];rfl⟩;rintro j ⟨b,off,rfl⟩;split
 ·rfl
 ·simp[Addr.add]
theorem aIv(k:Nat){x hi:Operand}{t el:TypeId}{sz n c:Nat}{A:Option Addr}{kd:IntKind}{j:Int}(i:P.underlying t=some (.slice el))(f:(P.info? el).map (·.size)=some sz)(hx:e.ev x=some (.slice A n c))(m:e.ev hi=some (.int kd j))(hj:j=(k:Int))(hk:k≤c)(hd:d < N.n)
  (l:∀A',(0 < k→(∃b off,A=some ⟨b,off,none⟩)→A'=A)→XK N w0 (wpList P ops Q rest) ((d,.slice A' k c)::e) R H):XK N w0 (wpList P ops Q (⟨some d,.slice t x none (some hi) none,ty,pos,aL,none⟩::rest)) e R H:=
 sV rfl fun a w h st=>by
  subst hj;obtain⟨A',o,p⟩:=aKh (P:=P) (kd:=kd) i f hk w (n:=n) (A:=A);exact⟨_,w,by simp only[execOp,h.ev hx,Option.map_some,Option.map_none,h.ev m,Sem.run_bind,p,Result.andThen_ok,Sem.run_pure],l A' o _ _ (h.put hd _) st⟩
end
theorem aM.aJ1{p:Piece}{sz n k:Nat}{A A':Option Addr}{xs:List Value}(h:aM p sz A n xs)(hk:k≤n)(i:0 < k→(∃b off,A=some ⟨b,off,none⟩)→A'=A):aM p sz A' k (xs.take (k*sz)):=by
 refine⟨by rw[List.length_take,h.1];exact Nat.min_eq_left (Nat.mul_le_mul_right _ hk),fun e=>?_⟩;obtain⟨b,off,a,d,f⟩:=h.2 aA;refine⟨b,off,by rw[i e ⟨b,off,a⟩,a],d,fun j u c=>f j u ?_⟩;rw[List.getElem?_take] at c;split at c
 ·exact c
 ·cases c
def jE(l:List (Int×Int))(k:Int):Int:=((l.find? fun p=>decide (p.1=k)).map (·.2)).getD 0
def zB:List (Int×Int)→Int→Int→List (Int×Int)
 | [],k,v=>[(k,v)]
 | (a,b)::r,k,v=>if a=k then(k,v)::r else(a,b)::zB r k v
def vO(l:List (Int×Int)):List (Int×Value):=l.map fun p=>(p.1,iv p.2)
theorem aEZ:∀(l:List (Int×Int)) (k:Int),(mS (vO l) k).getD (iv 0)=iv (jE l k)
 | [],k=>rfl
 | (a, b) :: l, k => by
  have ih:=aEZ l k
  show(mS ((a,iv b)::vO l) k).getD _=_
  rw[Lf];unfold jE;rw[List.find?_cons]
  by_cases h:a=k
  ·simp[h]
  ·simp only[h,if_false,decide_false,Bool.false_eq_true];exact ih
theorem aES:∀(l:List (Int×Int)) (k v:Int),oH (vO l) k (iv v)=vO (zB l k v)
 | [],k,v=>rfl
 | (a,b)::l,k,v=>by
  show oH ((a,iv b)::vO l) k _=vO (if a=k then _ else _)
  unfold oH
  by_cases h:a=k
  ·rw[if_pos h,if_pos h];rfl
  ·rw[if_neg h,if_neg h,aES l k v];rfl
structure Cn where
 l:List (Int×Int)
 sF:Bool
def sE(a:Nat)(c:Cn)(dev:Int):Int×Cn:=if c.sF then(6,c) else if ¬(0≤dev∧dev < a) then(4,c) else if 7≤jE c.l dev then(8,c) else(0,⟨zB c.l dev (IntKind.i64.wrap (jE c.l dev+1)),c.sF⟩)
def uO(a:Nat)(c:Cn)(dev:Int):Int×Cn:=if c.sF then(6,c) else if ¬(0≤dev∧dev < a) then(4,c) else if jE c.l dev≤0 then(6,c) else(0,⟨zB c.l dev (IntKind.i64.wrap (jE c.l dev - 1)),c.sF⟩)
def wR(c:Cn):Int×Cn:=if c.sF then(6,c) else(0,⟨c.l,true⟩)
def wS(c:Cn):Int×Cn:=if c.sF then(0,⟨c.l,false⟩) else(6,c)
def rP(gc gm:Nat)(v:Value)(c:Cn):HP:=HP.many [HP.aI gc 159 [v,.map (some gm),.bool c.sF],HP.map gm (vO c.l)]
section
variable{Q:Exit→Act→World→Prop}
theorem Qj{x y:Operand}(i:Nat){r:Nat}{l:List (Int×Int)}{k:Int}(hi:H[i]? =some (HP.map r (vO l)))(a:XK N w0 (wpList Tryz.prog ops Q rest) ((d,iv (jE l k))::e) R H)(hx:e.ev x=some (.map (some r)):=by rfl)(hy:e.ev y=some (iv k):=by rfl)(hd:d < N.n:=by decide):
  XK N w0 (wpList Tryz.prog ops Q (⟨some d,.lookup 157 x y false,ty,pos,aL,none⟩::rest)) e R H:=by
 refine Tv (kt:=3) (et:=3) (kd:=.i64) (z:=iv 0) (l:=vO l) false aF aF aF hx hy (fun b st=>st.map hi) hd ?_;simp only[Bool.false_eq_true,if_false,aEZ];exact a
theorem aFj{x y u:Operand}(i:Nat){r:Nat}{l:List (Int×Int)}{k v:Int}(hi:H[i]? =some (HP.map r (vO l)))(a:XK N w0 (wpList Tryz.prog ops Q rest) e R (H.set i (HP.map r (vO (zB l k v)))))(hx:e.ev x=some (.map (some r)):=by rfl)(hy:e.ev y=some (iv k):=by rfl)(b:e.ev u=some (iv v):=by rfl):
  XK N w0 (wpList Tryz.prog ops Q (⟨none,.mapUpdate 157 x y u,ty,pos,aL,none⟩::rest)) e R H:=by
 refine Ex (kt:=3) (et:=3) (kd:=.i64) (l:=vO l) i aF aF hi hx hy b ?_;rw[aES];exact a
end
theorem aG5(gc n k:Nat)(A:Option Addr)(dev:Int)(w:World)(a:gG w gc 0 (.slice A n k)):
  Cz 110 #[pt gc,iv dev] w (Rt (.bool (bO n dev)) w):=by
 refine aT func110 ntmps110 ?_;refine aB ?_;refine cN (t:=7) rfl (fun h=>?_) (fun h=>?_)
 ·refine aB ?_;refine iV aD ?_;unfold bO
  congr 1
  simp;omega
 ·refine aB ?_;refine iV aD ?_
  have:bO n dev=false:=decide_eq_false aA
  rw[this]
section
variable(gc gm n k:Nat)(A:Option Addr)(c:Cn)(w:World)(F:Nat→Prop)
theorem aQg(dev:Int)(hp:(rP gc gm (.slice A n k) c).sat F w)(hF:∀b,F b→b < w.heap.size):
  Cz 57 #[pt gc,iv dev] w (Wr (iv (sE n c dev).1) (rP gc gm (.slice A n k) (sE n c dev).2) w F):=by
 refine dD func57 ntmps57 hp hF ?_;obtain⟨l,d⟩:=c;unfold rP sE;dsimp only;refine bE 0 0 ?_;refine bE 1 1 ?_;cases d
 ·refine aB ?_;refine aZ (fun e t=>aG5 gc n k A dev e ((uP (t.aI (i:=1) rfl)).at_ (j:=0) rfl)) ?_
  by_cases a:0≤dev∧dev < (n:Int)
  ·rw[show bO n dev=true from decide_eq_true a,if_neg aD,if_neg (by simpa using a)];refine aB ?_;refine Qj 0 rfl ?_;refine eR ?_;refine aB ?_;refine aK rfl (fun h7=>?_) (fun h7=>?_)
   ·rw[if_pos aA];refine aB ?_;refine aN 1 1 ?_;refine aN 0 0 ?_;exact bU 0 hF
   ·rw[if_neg aA];refine aB ?_;refine Qj 0 rfl ?_;refine kd (Jb rfl rfl rfl) ?_;refine aFj 0 rfl ?_;dsimp only[List.set];refine aB ?_;refine aN 1 1 ?_;refine aN 0 0 ?_;exact bU 0 hF
  ·rw[show bO n dev=false from decide_eq_false a,if_neg aD,if_pos (by simpa using a)];refine aB ?_;refine aN 1 1 ?_;refine aN 0 0 ?_;exact bU 0 hF
 ·rw[if_pos rfl];refine aB ?_;refine aN 1 1 ?_;refine aN 0 0 ?_;exact bU 0 hF
theorem aQe(dev:Int)(hp:(rP gc gm (.slice A n k) c).sat F w)(hF:∀b,F b→b < w.heap.size):
  Cz 58 #[pt gc,iv dev] w (Wr (iv (uO n c dev).1) (rP gc gm (.slice A n k) (uO n c dev).2) w F):=by
 refine dD func58 ntmps58 hp hF ?_;obtain⟨l,d⟩:=c;unfold rP uO;dsimp only;refine bE 0 0 ?_;refine bE 1 1 ?_;cases d
 ·refine aB ?_;refine aZ (fun e t=>aG5 gc n k A dev e ((uP (t.aI (i:=1) rfl)).at_ (j:=0) rfl)) ?_
  by_cases a:0≤dev∧dev < (n:Int)
  ·rw[show bO n dev=true from decide_eq_true a,if_neg aD,if_neg (by simpa using a)];refine aB ?_;refine Qj 0 rfl ?_;refine eR ?_;refine aB ?_;refine aK rfl (fun h7=>?_) (fun h7=>?_)
   ·rw[if_pos aA];refine aB ?_;refine aN 1 1 ?_;refine aN 0 0 ?_;exact bU 0 hF
   ·rw[if_neg aA];refine aB ?_;refine Qj 0 rfl ?_;refine kd (Iz rfl rfl rfl) ?_;refine aFj 0 rfl ?_;dsimp only[List.set];refine aB ?_;refine aN 1 1 ?_;refine aN 0 0 ?_;exact bU 0 hF
  ·rw[show bO n dev=false from decide_eq_false a,if_neg aD,if_pos (by simpa using a)];refine aB ?_;refine aN 1 1 ?_;refine aN 0 0 ?_;exact bU 0 hF
 ·rw[if_pos rfl];refine aB ?_;refine aN 1 1 ?_;refine aN 0 0 ?_;exact bU 0 hF
theorem aQc(hp:(rP gc gm (.slice A n k) c).sat F w)(hF:∀b,F b→b < w.heap.size):
  Cz 59 #[pt gc] w (Wr (iv (wR c).1) (rP gc gm (.slice A n k) (wR c).2) w F):=by
 refine dD func59 ntmps59 hp hF ?_;obtain⟨l,a⟩:=c;unfold rP wR;dsimp only;refine bE 0 0 ?_;cases a
 ·refine aB ?_;refine aN 0 0 ?_;exact bU 0 hF
 ·refine aB ?_;refine aN 0 0 ?_;exact bU 0 hF
theorem aQd(hp:(rP gc gm (.slice A n k) c).sat F w)(hF:∀b,F b→b < w.heap.size):
  Cz 60 #[pt gc] w (Wr (iv (wS c).1) (rP gc gm (.slice A n k) (wS c).2) w F):=by
 refine dD func60 ntmps60 hp hF ?_;obtain⟨l,a⟩:=c;unfold rP wS;dsimp only;refine bE 0 0 ?_;cases a
 ·refine aB ?_;refine aN 0 0 ?_;exact bU 0 hF
 ·refine aB ?_;refine aN 0 0 ?_;exact bU 0 hF
end
theorem aQh(gc:Nat)(b:Bool)(w:World)(a:gG w gc 2 (.bool b)):Cz 61 #[pt gc] w (Rt (.bool b) w):=by
 refine aT func61 ntmps61 ?_;refine aB ?_;exact dL
theorem aRi{P:Program}{w:World}{t ty e:TypeId}{i:TypeInfo}(k:P.underlying t=some (.slice e))(hi:P.info? e=some i)(A:Option Addr)(x:Value){m c:Nat}{B:Option Addr}(hx:x=.slice B m c)(hm:0 < m)(l:m*i.bytes≤140737488355328):
  (Builtin.append_ #[t,t] ty #[.slice A 0 0,x]).run P w=(Builtin.append_ #[t,t] ty #[sn,x]).run P w:=by
 subst hx
 have h:¬0+m≤0:=by omega
 have j:Builtin.nextslicecap (0+m) 0=m:=by
  unfold Builtin.nextslicecap;rw[Nat.zero_add];simp;omega
 have b:¬(Builtin.nextslicecap (0+m) 0*i.bytes>2 ^ 48):=by
  rw[j];omega
 have f:¬m=0:=by omega
 have d:¬(281474976710656 < Builtin.nextslicecap m 0*i.bytes):=by
  rw[←Nat.zero_add m]
  simpa using b
 cases A with
 | none=>rfl
 | some a=>simp[Builtin.append_,run_underlying k,sizeOf,typeInfo,hi,Builtin.lenOf,Builtin.firstCells,h,b,f,d,loadCells,loadCellsFrom]
section
variable{Q:Exit→Act→World→Prop}
theorem aID(sz c m:Nat){x y:Operand}{t el:TypeId}{K:Nat}{O A:Option Addr}{h:List Value}(U:P.underlying t=some (.slice el))(hT:(P.info? el).map (fun i=>(i.zero.map (fun z=>z.cells.size),i.size,i.bytes))=some (some sz,sz,c))(C:0 < sz)
  (hx:e.ev x=some (.slice O 0 0)) (hy:e.ev y=some (.slice A m K)) (hs:∀w,St w0 R H w→∃B,Sl w B sz A m h) (h1:∀u∈h,u.oneCell'=true) (hm:0 < m) (h63:(m:Int)≤9223372036854775807) (f:m*c≤140737488355328) (hd:d < N.n)
  (k:∀A' D,XK N w0 (wpList P ops Q rest) ((d,.slice A' m D)::e) R (HP.own el sz (.slice A' m D) m h::H)):
  XK N w0 (wpList P ops Q (⟨some d,.call {callee:=.builtin .append,args:=#[x,y],argTypes:=#[t,t]},ty,pos,aL,none⟩::rest)) e R H:=by
 obtain⟨X,z,r,V,L,l,M⟩:=aBu hT;refine sV rfl fun a w J st=>?_;obtain⟨B,I⟩:=hs w st;obtain⟨v',T,j,p,o,h4⟩:=aEf (P:=P) w w.heap.size t ty el X z sz c U r V L l M C (sn) 0 [] (World.ownsRow_nil _ _ _ _) B A m K h I h1 (by unfold maxLen;omega) (by simpa using f) (Nat.le_refl _);rw[Nat.zero_add,List.nil_append] at p;obtain⟨A',D,rfl,_⟩:=aE8 p;rw[←aRi U r O (.slice A m K) rfl hm (by rw[l];exact f)] at j
 have E:Below w.heap.size w T:=⟨o.os,o.tape,o.output,o.size,fun b E=>o.block b E (fun Y=>by cases Y)⟩
 refine⟨_,T,by simp only[execOp,resolve,invoke,builtin,J.ev hx,J.ev hy,List.map_toArray,List.map_cons,List.map_nil,Sem.run_bind,Sem.run_pure,Result.andThen_ok,j],k A' D _ _ (J.put hd _) (st.new E ⟨fun g hg=>?_,?_⟩)⟩
 ·have:=p.lt _ hg
  exact this
 ·exact⟨p.1,p.2.imp id fun⟨g,F,G,Z,_,e3⟩=>⟨g,F,G,Z,Nat.zero_le _,e3⟩⟩
end
theorem aPv{x lo hi i:Operand}{t el:TypeId}{A:Option Addr}{n c l h m sz:Nat}{y k p:IntKind}[hT:lW t el sz](hx:e.ev x=some (.slice A n c))(hl:e.ev lo=some (.int y (l:Int)))(r:e.ev hi=some (.int k (h:Int)))(hm:e.ev i=some (.int p (m:Int)))(u:l≤h)(o:h≤m)(h3:m≤c):
  cF Tryz.prog N w0 e R H ⟨some d,.slice t x (some lo) (some hi) (some i),ty,pos,aL,none⟩ (.slice (if m=l then A else A.map (·.add (l*sz))) (h - l) (m - l)):=gZ fun a w b=>by
 obtain⟨z,f,j⟩:=Option.map_eq_some_iff.1 hT.s;simp[execOp,b.ev hx,b.ev hl,b.ev r,b.ev hm,Instr.sliceAt,Instr.slice,Instr.sliceBounds,run_sliceBound,run_underlying hT.h,sizeOf,typeInfo,f,j,u,o,h3]
theorem aGp{x lo:Operand}{t el:TypeId}{A:Option Addr}{n c l sz:Nat}{k:IntKind}[hT:lW t el sz](hx:e.ev x=some (.slice A n c))(hl:e.ev lo=some (.int k (l:Int)))(j:l≤n):
  cF Tryz.prog N w0 e R H ⟨some d,.slice t x (some lo) none none,ty,pos,aL,none⟩ (.slice (if c=l then A else A.map (·.add (l*sz))) (n - l) (c - l)):=gZ fun a w f=>by
 obtain⟨m,b,i⟩:=Option.map_eq_some_iff.1 hT.s;simp[execOp,f.ev hx,f.ev hl,Instr.sliceAt,Instr.slice,Instr.sliceBounds,run_sliceBound,run_underlying hT.h,sizeOf,typeInfo,b,i,j]
theorem aRS{K:Act→World→Prop}(i:Nat){n sz:Nat}{t:TypeId}{v:Value}{xs:List Value}(hi:H[i]? =some (HP.own t sz v n xs))(o:0 < n)(h:∀g c,v=.slice (some ⟨g,0,none⟩) n c→n≤c→XK N w0 K e R H):XK N w0 K e R H:=fun a w m st=>by
 obtain⟨_,l⟩:=st.own hi;rcases l with⟨_,d⟩ | ⟨k,b,j,f,_,_,d,_⟩
 ·omega
 ·exact h k b f d a w m st
theorem aRZ{K:Act→World→Prop}(j i:Nat){p:Prop}{ps:List HP}(hj:H[j]? =some (HP.many ps))(hi:ps[i]? =some (Jz p))(h:p→XK N w0 K e R H):XK N w0 K e R H:=fun a w c st=>by
 obtain⟨F,b⟩:=(st.take hj hi).sat (i:=0) rfl;exact h b a w c st
def wL(g n:Nat)(vs:List Value)(ws:List (Option jH)):List HP:=HP.aI g 312 vs::Jz (vs.length=n)::(List.range n).map fun i=>QH (vs.getD i undef) (ws[i]?).join
theorem aJc{g n i:Nat}{vs:List Value}{ws:List (Option jH)}(hi:i < n):(wL g n vs ws)[i+2]? =some (QH (vs.getD i undef) (ws[i]?).join):=by
 unfold wL;rw[List.getElem?_cons_succ,List.getElem?_cons_succ,List.getElem?_map,List.getElem?_range hi];rfl
theorem aJd{g n i:Nat}{vs:List Value}{ws:List (Option jH)}{v:Value}{q:Option jH}(hi:i < n)(b:vs.length=n)(hw:ws.length=n):
  (((((wL g n vs ws).set 0 cM).set (i+2) cM).set (i+2) (QH v q)).set 0 (HP.aI g 312 (vs.set i v)))=wL g n (vs.set i v) (ws.set i q):=by
 refine List.ext_getElem? fun k=>?_
 match k with
 | 0=>rfl
 | 1=>
  show some (Jz (vs.length=n))=some (Jz ((vs.set i v).length=n))
  rw[List.length_set]
 | k + 2 =>
  unfold wL;simp only[List.set_cons_zero,List.set_cons_succ,List.getElem?_cons_succ,List.set_set,List.getElem?_map];rw[List.getElem?_set]
  by_cases h:i=k
  ·subst h;rw[if_pos rfl,if_pos (by simpa using hi),List.getElem?_range hi];simp only[Option.map_some];rw[List.getD_eq_getElem?_getD,List.getElem?_set_self aA,List.getElem?_set_self aA];rfl
  ·rw[if_neg h,List.getElem?_map];cases a:(List.range n)[k]? with
   | none=>rfl
   | some j=>
    obtain⟨_,rfl⟩:=List.getElem?_eq_some_iff.1 a;simp only[List.getElem_range,Option.map_some];rw[List.getD_eq_getElem?_getD,List.getD_eq_getElem?_getD,List.getElem?_set_ne h,List.getElem?_set_ne h]
section
variable{L:BL}{ws:List (Option jH)}
def Sf(L:BL)(ms:List Int)(aS:Int):List Value:=[.slice (some ⟨L.gr,0,none⟩) ms.length ms.length,.slice (some ⟨L.gw,0,none⟩) ms.length ms.length,iv aS]
def aD5(L:BL)(ms:List Int)(ws:List (Option jH))(vs:List Value)(i:Nat):HP:=HP.many (((wL L.gw ms.length vs ws).set 0 cM).set (i+2) cM)
theorem aHw(j i:Nat)(hj:H[j]? =some (xH L ms ws aS))(hi:i < ms.length)(h:∀vs:List Value,vs.length=ms.length→
      XK N w0 K e R (QH (vs.getD i undef) (ws[i]?).join::HP.aI L.gw 312 vs::aD5 L ms ws vs i::HP.aI L.b 232 (Sf L ms aS)::H.set j (HP.many [cM,HP.aI L.gr 3 (aR ms),cM]))):XK N w0 K e R H:=by
  have a:=(List.getElem?_eq_some_iff.1 hj).1
  refine rG j 0 hj rfl ?_;refine rG (j+1) 2 (by rw[List.getElem?_cons_succ,List.getElem?_set_self a]) rfl ?_;refine Yu 0 rfl fun vs=>?_;refine aRZ 0 1 rfl rfl fun c=>?_;refine rG 0 0 rfl rfl ?_;refine rG 1 (i+2) rfl (p:=QH (vs.getD i undef) (ws[i]?).join) ?_ ?_
  · show((wL L.gw ms.length vs ws).set 0 cM)[i+2]? =_
    rw[List.getElem?_set_ne aA,aJc hi]
  · have h:=h vs c
    simp only[List.set_cons_succ,List.set_cons_zero,List.set_set];exact h
theorem aH2(j i:Nat){vs:List Value}{v:Value}{q:Option jH}(hj:H[j]? =some (HP.many [cM,HP.aI L.gr 3 (aR ms),cM]))(hi:i < ms.length)(d:vs.length=ms.length)(hw:ws.length=ms.length)
  (h:XK N w0 K e R (H.set j (xH L ms (ws.set i q) aS))):XK N w0 K e R (QH v q::HP.aI L.gw 312 (vs.set i v)::aD5 L ms ws vs i::HP.aI L.b 232 (Sf L ms aS)::H):=by
 have c:=(List.getElem?_eq_some_iff.1 hj).1
 have a:(wL L.gw ms.length vs ws).length=ms.length+2:=by simp[wL]
 refine rJ 1 (i+2) rfl ?_ ?_
 ·rw[List.getElem?_set_self (by simp[a];omega)]
 dsimp only[List.set];refine rJ 0 0 rfl ?_ ?_
 ·rw[List.set_set,List.getElem?_set_ne aA,List.getElem?_set_self (by simp[a])]
 rw[aJd hi d hw];dsimp only[List.set];refine uS 0 (f:=fun vs:List Value=>HP.many (wL L.gw ms.length vs (ws.set i q))) (vs.set i v) rfl ?_;dsimp only[List.set];refine rJ (j+1) 2 (by rw[List.getElem?_cons_succ];exact hj) rfl ?_;dsimp only[List.set];refine rJ j 0 (by rw[List.getElem?_set_self c]) rfl ?_;rw[List.set_set];exact h
end
theorem aQO(L:BL)(ms:List Int)(ws:List (Option jH))(aS:Int)(i:Nat)(hi:i < ms.length)(hw:ws.length=ms.length)(t:jH)(r:(ws[i]?).join=some t)(w:World)(F:Nat→Prop)(hp:(xH L ms ws aS).sat F w)(hF:∀b,F b→b < w.heap.size):
  Cz 200 #[.pointer (some ⟨L.b,0,none⟩),iv (i:Int)] w (Wr (.tuple #[.agg #[iv t.id,.bool t.wr,iv t.bZ,.int .u32 t.val],.bool true]) (xH L ms (ws.set i none) aS) w F):=by
 have f:bO ms.length (i:Int)=true:=decide_eq_true aA
 refine dD func200 ntmps200 hp hF ?_;generalize n:(⟨w,fun b=>b < w.heap.size∧¬F b⟩:Piece)=R0;refine aB ?_;refine cQ fun x=>?_;refine aB ?_;refine aZ (fun o st=>Yc L ms ws aS i o (st.aGM 1 rfl)) ?_;rw[f];refine aHw 1 i rfl hi fun k e=>?_;rw[r];dsimp only[List.set];refine aRS 0 rfl aC fun g c d u=>?_
 have a:k[i]? =some (.slice (some ⟨g,0,none⟩) 1 c):=by
  obtain⟨v,p⟩:=get_some (l:=k) (i:=i) aA;rw[List.getD_eq_getElem?_getD,p] at d;rw[p];exact congrArg some d
 rw[d];refine aB ?_;refine kd (dat i i) ?_;refine aB ?_;refine kd (bP rfl (Rd.aI 1 rfl a)) ?_;refine aB ?_;refine kd (dat i i) ?_;refine aB ?_;refine kd (bP rfl (Rd.aI 1 rfl a)) ?_;refine aB ?_;refine jG [1,2,3,7,9,10,11] ?_;refine bQ 0 ?_;refine aO 1 ?_;refine aO 2 ?_;refine aO 3 ?_;refine bQ 4 ?_;refine bQ 5 ?_;refine bQ 6 ?_;refine aO 7 ?_;refine bQ 8 ?_;refine aO 9 ?_;refine aO 10 ?_ (hi:=rfl) (dG:=aPv (l:=1) (h:=1) (m:=1) rfl rfl rfl rfl aA aA u);refine aO 11 ?_ (hi:=rfl) (dG:=dat i i);refine aQ 12 ?_;refine eZ rfl rfl ?_ (hs:=eS.mk 1 rfl cZ.h rfl aA);dsimp only[List.set];refine cS ?_;refine eM ?_;refine aB ?_;refine kd (dat 0 0) ?_;refine kd (kO rfl (aV.of fun j v e=>by rw[Nat.zero_add];exact Rd.own 0 rfl e)) ?_;refine mF 4 rfl ?_;dsimp only[List.set];refine aB ?_;refine pY (q:=QH (.slice (some ⟨g,0,none⟩) 0 0) none) 0 rfl (fun _ _ _=>⟨_,rfl⟩) ?_;refine aH2 1 i rfl hi e hw ?_;dsimp only[List.set];subst n;exact yI (vs:=[iv t.id,.bool t.wr,iv t.bZ,.int .u32 t.val]) rfl aF rfl rfl (aV.whole 0 rfl) rfl fun o st=>⟨rfl,st.turns hF aD (i:=1) rfl⟩
theorem Yb(w0 a many:Int)(w:World)(b:okF a many)(e:0≤cT w0 a many∧cT w0 a many < 4294967296):
  Cz 281 #[.int .u32 w0,iv a,iv many] w (Rt (iv (cT w0 a many)) w):=by
 refine aT func281 ntmps281 ?_;refine aB ?_;refine aZ (fun d t=>aFE w0 a many d b) ?_;refine aB ?_;refine kd (Gk (ds:=.int .u32) (kd:=.i64) (c:=cT w0 a many) aF aF rfl (iY aA)) ?_;refine aB ?_;exact dL
theorem Xd(w a many:Int):0≤cT w a many∧cT w a many < 4294967296:=Kj _
theorem aGL(a dev bZ:Int)(c:cT a 0 2=0)(d:cT a 24 8=0)(e:cT a 16 8=dev)(h3:cT a 2 14=bZ)(w:World):
  Cz 279 #[.int .u32 a] w (Rt (.tuple #[iv dev,iv bZ]) w):=by
 refine aT func279 ntmps279 ?_;refine aB ?_;refine aZ (fun b t=>Yb a 0 2 b (by unfold okF;omega) (Xd _ _ _)) ?_;rw[c];refine aB ?_;refine aZ (fun b t=>Yb a 24 8 b (by unfold okF;omega) (Xd _ _ _)) ?_;rw[d];refine aB ?_;refine aZ (fun b t=>Yb a 16 8 b (by unfold okF;omega) (Xd _ _ _)) ?_;rw[e];refine aB ?_;refine aZ (fun b t=>Yb a 2 14 b (by unfold okF;omega) (Xd _ _ _)) ?_;rw[h3];refine aB ?_;exact gF rfl rfl rfl fun b t=>⟨rfl,t.below aD⟩
def Nh(dev bZ:Int):Int:=(wF (wF 0 16 8 dev).1 2 14 bZ).1
structure aSG(dev bZ:Int):Prop where
 p1:(wF 0 16 8 dev).2=0
 p2:(wF (wF 0 16 8 dev).1 2 14 bZ).2=0
 z0:cT (Nh dev bZ) 0 2=0
 z1:cT (Nh dev bZ) 24 8=0
 z2:cT (Nh dev bZ) 16 8=dev
 z3:cT (Nh dev bZ) 2 14=bZ
theorem aHf{dev bZ:Int}(b:0≤dev∧dev < 4)(c:0≤bZ∧bZ < 4):aSG dev bZ:=by
 have hd:dev=0∨dev=1∨dev=2∨dev=3:=by omega
 have a:bZ=0∨bZ=1∨bZ=2∨bZ=3:=by omega
 rcases hd with rfl | rfl | rfl | rfl<;>rcases a with rfl | rfl | rfl | rfl<;>exact⟨by decide+kernel,by decide+kernel,by decide+kernel,by decide+kernel,by decide+kernel,by decide+kernel⟩
theorem aQS(dev bZ:Int)(hd:0≤dev∧dev < 4)(d:0≤bZ∧bZ < 4)(w:World):
  Cz 277 #[iv dev,iv bZ] w (Rt (.tuple #[.int .u32 (Nh dev bZ),iv 0]) w):=by
 have b:=aHf hd d
 refine aT func277 ntmps277 ?_;refine aB ?_;refine cN (t:=10) rfl (fun h=>absurd h aA) (fun _=>?_);refine aB ?_;refine cN (t:=14) rfl (fun h=>absurd h aA) (fun _=>?_);refine aB ?_;refine cN (t:=18) rfl (fun h=>absurd h aA) (fun _=>?_);refine aB ?_;refine aK rfl (fun h=>absurd h aA) (fun _=>?_);refine aB ?_;refine kd (Gk (ds:=.int .i64) (kd:=.u32) (c:=dev) aF aF rfl (wrap_u32 aA)) ?_;refine aZ (fun a t=>aAF 0 16 8 dev a (by unfold okF;omega)) ?_;rw[b.p1];refine aB ?_;refine kd (Gk (ds:=.int .i64) (kd:=.u32) (c:=bZ) aF aF rfl (wrap_u32 aA)) ?_;refine aZ (fun a t=>aAF _ 2 14 bZ a (by unfold okF;omega)) ?_;rw[b.p2];refine aB ?_;exact gF rfl rfl rfl fun a t=>⟨rfl,t.below aD⟩
theorem aQQ(L:BL)(ms:List Int)(ws:List (Option jH))(aS:Int)(i:Nat)(hi:i < ms.length)(G:ms.length≤6)(hw:ws.length=ms.length)(y:(ws[i]?).join=none)(a bZ:Int)(r:cT a 0 2=0)(x:cT a 24 8=0)(C:cT a 16 8=i)(H:cT a 2 14=bZ)(m:Int)(hm:ms[i]? =some m)(J:0≤bZ∧bZ < m)(b:Bool)(v:Int)(z:0≤aS∧aS≤1000000000)(w:World)(F:Nat→Prop)(hp:(xH L ms ws aS).sat F w)(hF:∀b,F b→b < w.heap.size):
  Cz 280 #[.pointer (some ⟨L.b,0,none⟩),.int .u32 a,.bool b,.int .u32 v] w (Wr (.tuple #[iv aS,iv 0]) (xH L ms (ws.set i (some ⟨aS,b,bZ,v⟩)) (aS+1)) w F):=by
 have f:bO ms.length (i:Int)=true:=decide_eq_true aA
 have e:(aR ms)[i]? =some (iv m):=by simp[aR,hm]
 refine dD func280 ntmps280 hp hF ?_;generalize k:(⟨w,fun b=>b < w.heap.size∧¬F b⟩:Piece)=R0;refine aB ?_;refine aZ (fun d t=>aGL a i bZ r x C H d) ?_;refine aB ?_;refine aZ (fun d st=>Yc L ms ws aS i d (st.aGM 0 rfl)) ?_;rw[f];refine aHw 0 i rfl hi fun j E=>?_;rw[y];dsimp only[List.set];refine bE 4 1 ?_;refine aSa (p:=∃A,j.getD i undef=.slice A 0 0) 1 rfl fun⟨A,n⟩=>?_
 have c:j[i]? =some (.slice A 0 0):=by
  obtain⟨u,o⟩:=get_some (l:=j) (i:=i) aA;rw[List.getD_eq_getElem?_getD,o] at n;rw[o];exact congrArg some n
 refine aB ?_;refine cN (t:=26) rfl (fun h=>absurd h aA) (fun _=>?_);refine aB ?_;refine kd (dat i i) ?_;refine aB ?_;refine kd (bP rfl (Rd.aI 0 rfl e)) ?_;refine aB ?_;refine aK rfl (fun h=>absurd h aA) (fun _=>?_);refine aB ?_;refine kd (dat i i) ?_;refine aB ?_;refine kd (bP rfl (Rd.aI 2 rfl c)) ?_;refine aB ?_;refine eZ rfl rfl ?_ (hs:=eS.mk 4 rfl cZ.h rfl (by simp[Sf]));dsimp only[List.set];rw[show(Sf L ms aS).set (0+2) (iv (aS+1))=Sf L ms (aS+1) from rfl];refine aB ?_;refine jG [1,2,3,6,7,8,10,11] ?_;refine bQ 0 ?_;refine aO 1 ?_;refine aO 2 ?_;refine aO 3 ?_;refine bQ 4 ?_;refine bQ 5 ?_;refine aO 6 ?_;refine aO 7 ?_;refine aO 8 ?_;refine bQ 9 ?_;refine aO 10 ?_ (hi:=rfl) (dG:=dat i i);refine aO 11 ?_ (hi:=rfl) (dG:=bP rfl (Rd.aI 2 rfl c));refine bQ 12 ?_;refine bQ 13 ?_;refine bQ 14 ?_;refine bQ 15 ?_;refine aQ 16 ?_;refine kd (iU rfl) ?_;refine bH ?_;refine aQ 17 ?_;refine eT fun I=>?_;refine bH ?_;refine aQ 18 ?_;refine aID 4 32 1 (el:=307) aF aF aC rfl rfl (nH 0 rfl rfl) (by simp[Value.oneCell']) aC aC aC aC fun D B=>?_;refine bH ?_;refine aQ 19 ?_;refine kd (dat i i) ?_;refine cS ?_;refine aQ 20 ?_;refine eZ rfl rfl ?_ (hs:=eS.mk 4 rfl cZ.h rfl aA);dsimp only[List.set];refine cS ?_;refine eM ?_;refine aB ?_;refine aY [2,0,4,5,6,7] rfl aC (fun _ h=>h) ?_;refine aN 4 1 ?_;refine aH2 (v:=.slice D 1 B) (q:=some ⟨aS,b,bZ,v⟩) 0 i rfl hi E hw ?_;dsimp only[List.set];subst k;exact gF rfl rfl rfl fun d st=>⟨rfl,st.turns hF aD (i:=0) rfl⟩
def wU(s:aG)(x:aP)(i:Nat):Bool:=match s.aH[i]? with
 | some d=>oG s x.ck d.clock&&(decide (qV x.dm d.domain=49)&& !zN x.ln d.reset)
 | none=>false
def wC(x:aP)(i:Nat):Int:=((x.dv[i]?).map fun p=>pS p.2.at_).getD 0
theorem Zi{w0:World}{R:List Piece}{H:List HP}{b o:Nat}{vs:List Value}{v:Value}(j:Nat)(h:aV w0 R H b o vs)(a:vs[j]? =some v):Rd w0 R H b (o+j) v:=fun w st=>h w st j v a
section
variable(L:HL)(s:aG)(x:aP)(w:World)
theorem aF4(c:s.dF)(i:Int)(b:tV w L s x):Cz 188 #[.pointer (some ⟨L.h,0,none⟩),iv i] w (Rt (.bool (oG s x.ck i)) w):=by
 have d:=b.r0.at_ (j:=0) rfl
 refine aT func188 ntmps188 ?_;refine aB ?_;refine aZ (fun a t=>zO L s x a (b.below (t.below aD))) ?_;refine aB ?_;refine aZ (fun a t=>Sd L.T s x.ck c i a (b.tree.below (t.below aD))) ?_;refine aB ?_;exact dL
theorem aF9(A:s.dF)(u:gQ L s)(o:cR s x)(i:Nat)(hi:i < s.aH.length)(a:tV w L s x):Cz 81 #[.pointer (some ⟨L.h,0,none⟩),iv (i:Int)] w (Rt (.bool (wU s x i)) w):=by
 have E:=a.r0.at_ (j:=0) rfl
 have H:=a.r0.at_ (j:=1) rfl
 have J:=a.r0.at_ (j:=2) rfl
 have D:=a.r0.at_ (j:=4) rfl
 have B:=u.ds
 obtain⟨d,f⟩:=get_some hi;obtain⟨l,k⟩:=get_some (l:=L.ds) (i:=i) aA;obtain⟨b,off,C,y⟩:=aM.row a.rows (rows:=vN s.aH L.ds) (fun r y=>aBQ r y) (aBR f k) hi
 have m:bO s.aH.length (i:Int)=true:=decide_eq_true aA
 have p:wU s x i=(oG s x.ck d.clock&&(decide (qV x.dm d.domain=49)&& !zN x.ln d.reset)):=by
  unfold wU;rw[f]
 rw[p];refine aT func81 ntmps81 ?_;refine aB ?_;refine aZ (fun c t=>Ly L s x c i (a.below (t.below aD))) ?_;rw[m];refine aB ?_;refine kd (dat i (off+i*6) (hx:=by rw[←C];rfl)) ?_;refine aE ?_;refine cQ fun I=>?_;refine aB ?_;refine mI ?_;refine jP ?_;refine tN (fun c t=>Sd L.T s x.ck A d.clock c (a.tree.below (t.below aD))) ?_;cases z:oG s x.ck d.clock
 ·refine jF ?_;refine aB ?_;exact dL
 ·refine jP ?_;refine tN (fun c t=>aE3 L.G s x.dm o.dm d.domain c (Aj.below a.aBD (t.below aD))) ?_;refine jP ?_;refine Jg 32 rfl (fun n=>?_) (fun n=>?_)
  ·rw[decide_eq_true n];refine jP ?_;refine tN (fun c t=>aEh L.R s x.ln d.reset c (a.lines.below (t.below aD))) ?_;refine jF ?_;refine aB ?_;exact dL
  ·rw[decide_eq_false n];refine jF ?_;refine aB ?_;exact dL
theorem aF3(z:gQ L s)(f:cR s x)(i:Nat)(hi:i < s.aH.length)(o:Og w)(k:tV w L s x):Cz 183 #[.pointer (some ⟨L.h,0,none⟩),iv (i:Int)] w (Rt (.int .u8 (wC x i)) w):=by
 have D:=k.r0.at_ (j:=4) rfl
 have B:=z.ds
 have A:=f.dv
 obtain⟨d,c⟩:=get_some hi;obtain⟨l,e⟩:=get_some (l:=L.ds) (i:=i) aA;obtain⟨p,a⟩:=get_some (l:=x.dv) (i:=i) aA;obtain⟨b,off,C,y⟩:=aM.row k.rows (rows:=vN s.aH L.ds) (fun r y=>aBQ r y) (aBR c e) hi
 have E:=y.at_ (j:=5) rfl
 have n:bO s.aH.length (i:Int)=true:=decide_eq_true aA
 have m:wC x i=pS p.2.at_:=by
  unfold wC;rw[a];rfl
 rw[m];refine aT func183 ntmps183 ?_;refine aB ?_;refine aZ (fun u t=>Ly L s x u i (k.below (t.below aD))) ?_;rw[n];refine aB ?_;refine kd (dat i (off+i*6) (hx:=by rw[←C];rfl)) ?_;refine aB ?_;refine aZ (fun u t=>aEz l.2 p.2 (f.each i d p c a).2 u (o.below (t.below aD)) ((k.below (t.below aD)).each i d l p c e a).2) ?_;refine aB ?_;exact dL
def Ef(x:aP)(i:Nat):aP:={x with dv:=match x.dv[i]? with | some p=>x.dv.set i (p.1,(rF p.2).2) | none=>x.dv}
def xX(x:aP)(i:Nat):aP:={x with dv:=match x.dv[i]? with | some p=>x.dv.set i (p.1,(mT p.2).2) | none=>x.dv}
theorem aF8(E:s.dF)(c:gQ L s)(a:cR s x)(i:Nat)(hi:i < s.aH.length)(F:Nat→Prop)(hp:(dS L s x).sat F w)(hF:∀b,F b→b < w.heap.size):
  Cz 218 #[.pointer (some ⟨L.h,0,none⟩),iv (i:Int)] w (fun y w'=>∃r:Int,y=.returned (iv r)∧True∧∃n,(dS L s (Ef x i)).sat n w'∧iI w w' F n):=by
 have B:=c.ds
 have z:=a.dv
 obtain⟨d,j⟩:=get_some hi;obtain⟨l,e⟩:=get_some (l:=L.ds) (i:=i) aA;obtain⟨p,f⟩:=get_some (l:=x.dv) (i:=i) aA
 have k:bO s.aH.length (i:Int)=true:=decide_eq_true aA
 have A:Ef x i={x with dv:=x.dv.set i (p.1,(rF p.2).2)}:=by
  unfold Ef;rw[f]
 rw[A];refine dD func218 ntmps218 hp hF ?_;refine aB ?_;refine aZ (fun m t=>Ly L s x m i (t.mU 0 rfl c a)) ?_;rw[k];refine aB ?_;refine kd (bP rfl (qE 0 rfl rfl)) ?_;refine Jh 0 rfl c a aA fun b off o=>?_;refine aB ?_;refine kd (dat i (off+i*6) (hx:=by rw[←o];rfl)) ?_;refine aB ?_;refine kd (bP rfl (Zi (vs:=Gg d l) 5 (aV.dev 0 rfl c a o j e rfl) rfl)) ?_;refine Nl 0 i rfl j e f ?_;dsimp only[List.set];refine bE 0 1 ?_;refine cG 0 (tT l.2 (rF p.2).2) (fun m G t C u D=>aLk C u) ?_;refine aN 0 1 ?_;refine Nu 0 i rfl j e f (p':=(p.1,(rF p.2).2)) ?_;dsimp only[List.set];refine aB ?_;exact nB rfl rfl fun m t=>⟨_,rfl,trivial,t.turns hF aD (i:=0) rfl⟩
theorem aB6(E:s.dF)(c:gQ L s)(a:cR s x)(i:Nat)(hi:i < s.aH.length)(F:Nat→Prop)(hp:(dS L s x).sat F w)(hF:∀b,F b→b < w.heap.size):
  Cz 184 #[.pointer (some ⟨L.h,0,none⟩),iv (i:Int)] w (fun y w'=>∃r:Int,y=.returned (iv r)∧True∧∃n,(dS L s (xX x i)).sat n w'∧iI w w' F n):=by
 have B:=c.ds
 have z:=a.dv
 obtain⟨d,j⟩:=get_some hi;obtain⟨l,e⟩:=get_some (l:=L.ds) (i:=i) aA;obtain⟨p,f⟩:=get_some (l:=x.dv) (i:=i) aA
 have k:bO s.aH.length (i:Int)=true:=decide_eq_true aA
 have A:xX x i={x with dv:=x.dv.set i (p.1,(mT p.2).2)}:=by
  unfold xX;rw[f]
 rw[A];refine dD func184 ntmps184 hp hF ?_;refine aB ?_;refine aZ (fun m t=>Ly L s x m i (t.mU 0 rfl c a)) ?_;rw[k];refine aB ?_;refine kd (bP rfl (qE 0 rfl rfl)) ?_;refine Jh 0 rfl c a aA fun b off o=>?_;refine aB ?_;refine kd (dat i (off+i*6) (hx:=by rw[←o];rfl)) ?_;refine aB ?_;refine kd (bP rfl (Zi (vs:=Gg d l) 5 (aV.dev 0 rfl c a o j e rfl) rfl)) ?_;refine Nl 0 i rfl j e f ?_;dsimp only[List.set];refine bE 0 1 ?_;refine cG 0 (tT l.2 (mT p.2).2) (fun m G t C u D=>aLj C u) ?_;refine aN 0 1 ?_;refine Nu 0 i rfl j e f (p':=(p.1,(mT p.2).2)) ?_;dsimp only[List.set];refine aB ?_;exact nB rfl rfl fun m t=>⟨_,rfl,trivial,t.turns hF aD (i:=0) rfl⟩
end
end Go.Proofs.YtmpkkaknjkffpaaGreatDoor
