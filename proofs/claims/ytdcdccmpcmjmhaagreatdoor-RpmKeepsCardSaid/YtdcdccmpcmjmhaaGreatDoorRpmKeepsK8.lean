/- the references' makers: tasks, firmware. -/
import Derived.Test.YtdcdccmpcmjmhaaGreatDoorRpmKeepsK7
namespace Go.Proofs.YtdcdccmpcmjmhaaGreatDoor
set_option linter.all false
set_option maxHeartbeats 4000000
set_option maxRecDepth 20000
open Go.RowKit Go.Proofs.Tryz
section
section
variable(s:aC)(A1 A2 A3 A4:Option Addr)(n1 k1 n2 k2 n3 k3 n4 k4:Nat)(w:World)(hW:fL w s A1 n1 A2 n2 A3 n3 A4 n4)(hm:s.made)
include hW hm
theorem aNe:Cz 87 #[.agg #[.slice A1 n1 k1,.slice A2 n2 k2,.slice A3 n3 k3,.slice A4 n4 k4],sn] w (fun y w'=>(∃v,y=.returned v∧∃v1 v2 v3:Value,v=.agg #[v1,v2,v3])∧Below w.heap.size w w'):=by
 obtain rfl:=hW.nB;obtain rfl:=hW.nM;obtain rfl:=hW.pO;obtain rfl:=hW.nZ
 have hnc:=hm.nc
 have hnd:=hm.nd
 have iK:=hm.nr
 have nD:=hm.nv
 refine aN func87 ntmps87 ?_;refine aB ?_;refine bA fun g1=>?_;refine bU fun g2=>?_;refine aB ?_;refine On (α:=Nat×Nat×Nat×Nat) (fun x=>[(5,.pointer (some ⟨x.2.2.2,0,none⟩)),(4,pt g2),(2,pt g1),(1,sn)]) (fun x=>[HP.aE x.2.2.2 198 [.slice (some ⟨x.1,0,none⟩) s.domains.length s.domains.length,.slice (some ⟨x.2.1,0,none⟩) s.aF.length s.aF.length,.slice (some ⟨x.2.2.1,0,none⟩) s.aT.length s.aT.length],HP.aE g2 198 [sn,sn,sn],HP.aE g1 30 [.slice A1 s.aF.length k1,.slice A2 s.domains.length k2,.slice A3 s.aT.length k3,.slice A4 s.aD.length k4]]) (fun _=>True) ?_ fun x _=>?_
 ·refine rF 14 (by kernel_rfl) (by kernel_rfl) ?_;refine bB 0 ?_;refine bB 1 ?_;refine bB 2 ?_;refine bB 4 ?_;refine bB 5 ?_;refine bB 6 ?_;refine bB 8 ?_;refine bB 9 ?_;refine bB 10 ?_;refine aCe (fuel:=2) [3,7,11,13] [[3,7,11],[3,7,11,13]] (fun i=>match i with | 3=>⟨14,4,List.replicate s.domains.length (.bool false),fun g=>.slice (some ⟨g,0,none⟩) s.domains.length s.domains.length⟩ | 7=>⟨18,4,List.replicate s.aF.length (.bool false),fun g=>.slice (some ⟨g,0,none⟩) s.aF.length s.aF.length⟩ | 11=>⟨22,4,List.replicate s.aT.length (.bool false),fun g=>.slice (some ⟨g,0,none⟩) s.aT.length s.aT.length⟩ | _=>⟨5,198,[sn,sn,sn],fun g=>pt g⟩) (fun i hi=>?_) (by show[14,18,22,5].Nodup;decide) (by kernel_rfl) (fun _ h=>h) (fun sub hsub hex g=>?_)
  ·simp only[List.mem_cons,List.not_mem_nil,or_false] at hi;rcases hi with rfl | rfl | rfl | rfl
   ·exact uJ.of rfl rfl rfl (Aj 1 (el:=4) (z:=.bool false) (by kernel_rfl) (by kernel_rfl) rfl rfl rfl (by omega) (by omega)) (Nat.le_of_ble_eq_true rfl) rfl
   ·exact uJ.of rfl rfl rfl (Aj 1 (el:=4) (z:=.bool false) (by kernel_rfl) (by kernel_rfl) rfl rfl rfl (by omega) (by omega)) (Nat.le_of_ble_eq_true rfl) rfl
   ·exact uJ.of rfl rfl rfl (Aj 1 (el:=4) (z:=.bool false) (by kernel_rfl) (by kernel_rfl) rfl rfl rfl (by omega) (by omega)) (Nat.le_of_ble_eq_true rfl) rfl
   ·exact uJ.of rfl rfl rfl (aHB (iG (by kernel_rfl))) (Nat.le_of_ble_eq_true rfl) rfl
  have fX:sub=[3,7,11]∨sub=[3,7,11,13]:=by simpa using hex
  rcases fX with rfl | rfl
  ·dsimp only[rB,tR,kT,List.map,List.foldr,List.cons_append,List.nil_append,List.length_cons,List.length_nil,Nat.reduceAdd,Nat.reduceSub];refine bB 12 ?_ (hi:=rfl) (dI:=gA rfl) (hsub:=fun _ h=>h.tail.tail.tail);refine cG 13 ?_;refine bU fun g6=>?_;refine iD ?_;refine gQ ?_;refine kX (fun _ h=>h.tail.tail.tail.tail) ?_;refine cG 14 ?_;refine oO 0 rfl ?_;dsimp only[List.set];refine fA ?_;refine kG ?_;refine aB ?_;exact fY (_,_,_,_)
  ·dsimp only[rB,tR,kT,List.map,List.foldr,List.cons_append,List.nil_append,List.length_cons,List.length_nil,Nat.reduceAdd,Nat.reduceSub];refine bB 12 ?_ (hi:=rfl) (dI:=gA rfl) (hsub:=fun _ h=>h.tail.tail.tail.tail);refine cG 14 ?_;refine oO 3 rfl ?_;dsimp only[List.set];refine fA ?_;refine kG ?_;refine aB ?_;exact fY (_,_,_,_)
 obtain⟨ga,gb,gc,gw⟩:=x;dsimp only;refine aB ?_;refine qN (α:=Unit) (fun i _=>[(6,iv i),(5,pt gw),(4,pt g2),(2,pt g1),(1,sn)]) (fun _ _=>[HP.aE gw 198 [.slice (some ⟨ga,0,none⟩) s.domains.length s.domains.length,.slice (some ⟨gb,0,none⟩) s.aF.length s.aF.length,.slice (some ⟨gc,0,none⟩) s.aT.length s.aT.length],HP.aE g2 198 [sn,sn,sn],HP.aE g1 30 [.slice A1 s.aF.length k1,.slice A2 s.domains.length k2,.slice A3 s.aT.length k3,.slice A4 s.aD.length k4]]) (fun _ _=>True) 0 () trivial fun i _ hi _=>?_;obtain rfl:i=0:=by omega
 refine aB ?_;refine bX (t:=29) rfl (fun hg=>?_) (fun hg=>?_)
 all_goals
  refine aB ?_;exact Oj (vs:=[.slice (some ⟨ga,0,none⟩) s.domains.length s.domains.length,.slice (some ⟨gb,0,none⟩) s.aF.length s.aF.length,.slice (some ⟨gc,0,none⟩) s.aT.length s.aT.length]) rfl (by kernel_rfl) rfl rfl (aR.whole 1 rfl) fun w1 t=>⟨⟨_,rfl,_,_,_,rfl⟩,t.below (by simp)⟩
theorem aNf:Cz 86 #[.agg #[.slice A1 n1 k1,.slice A2 n2 k2,.slice A3 n3 k3,.slice A4 n4 k4]] w (fun y w'=>(∃v,y=.returned v∧∃p:Option Addr,v=.tuple #[.pointer p,iv 0])∧Below w.heap.size w w'):=by
 obtain rfl:=hW.nZ
 have nD:=hm.nv
 refine aN func86 ntmps86 ?_;refine aB ?_;refine bA fun g1=>?_;refine aB ?_;refine aU (fun w1 t=>Ve s A1 A2 A3 A4 _ k1 _ k2 _ k3 _ k4 w1 (hW.le (t.started (by simp))) hm) ?_;refine aB ?_;refine rG ?_;refine Lg 1 5 rfl rfl (by kernel_rfl) ?_ ?_
 ·refine uU (fun v=>∃(A:Option Addr) (n c:Nat),v=.slice A n c) (fun w1 t=>(aCX s A1 A2 A3 A4 _ k1 _ k2 _ k3 _ k4 w1 (hW.le (t.started (by simp)))).mono fun y w' ⟨⟨v,h1,h2⟩,h3⟩=>⟨⟨v,h1,by obtain⟨A,c,rfl,_⟩:=h2;exact⟨_,_,_,rfl⟩⟩,h3⟩) fun v hv=>?_;obtain⟨A,n,c,rfl⟩:=hv;refine bM ?_;refine aO 5 ?_;refine mA 8 (n:=s.aD.length) (el:=3) (z:=iv 0) (by kernel_rfl) (by kernel_rfl) rfl rfl rfl (by omega) (by omega) (by decide) fun g2=>?_;refine bM ?_;refine pH [6,7,8,9] ?_;refine aB ?_;refine bA fun g3=>?_;refine aB ?_;exact eL rfl rfl rfl fun w1 t=>⟨⟨_,rfl,⟨_,rfl⟩⟩,t.below (by simp)⟩
 ·refine mA 8 (n:=s.aD.length) (el:=3) (z:=iv 0) (by kernel_rfl) (by kernel_rfl) rfl rfl rfl (by omega) (by omega) (by decide) fun g2=>?_;refine bM ?_;refine aO 1 ?_;refine uU (fun v=>∃(A:Option Addr) (n c:Nat),v=.slice A n c) (fun w1 t=>(aCX s A1 A2 A3 A4 _ k1 _ k2 _ k3 _ k4 w1 (hW.le (t.started (by simp)))).mono fun y w' ⟨⟨v,h1,h2⟩,h3⟩=>⟨⟨v,h1,by obtain⟨A,c,rfl,_⟩:=h2;exact⟨_,_,_,rfl⟩⟩,h3⟩) fun v hv=>?_;obtain⟨A,n,c,rfl⟩:=hv;refine bM ?_;refine pH [6,7,8,9] ?_;refine aB ?_;refine bA fun g3=>?_;refine aB ?_;exact eL rfl rfl rfl fun w1 t=>⟨⟨_,rfl,⟨_,rfl⟩⟩,t.below (by simp)⟩
theorem aNg(p:Option Addr):Cz 38 #[.pointer p,.agg #[.slice A1 n1 k1,.slice A2 n2 k2,.slice A3 n3 k3,.slice A4 n4 k4]] w (fun y w'=>(∃v,y=.returned v∧wK v)∧Below w.heap.size w w'):=by
 obtain rfl:=hW.nB;obtain rfl:=hW.nM;obtain rfl:=hW.pO;refine aN func38 ntmps38 ?_;refine aB ?_;refine bA fun g1=>?_;refine aB ?_;refine aU (fun w1 t=>Ve s A1 A2 A3 A4 _ k1 _ k2 _ k3 _ k4 w1 (hW.le (t.started (by simp))) hm) ?_;refine aB ?_;cases p with
 | none=>
  refine aB ?_;exact eL rfl rfl rfl fun w1 t=>⟨⟨_,rfl,⟨_,_,rfl⟩⟩,t.below (by simp)⟩
 | some a=>
  refine aB ?_;refine rG ?_;refine aO 3 ?_;refine uU (fun v=>∃v1 v2 v3 v4 v5 v6:Value,v=.agg #[v1,v2,v3,v4,v5,v6]) (fun w1 t=>aNh s A1 A2 A3 A4 k1 k2 k3 n4 k4 w1 hm) fun v hv=>?_;obtain⟨v1,v2,v3,v4,v5,v6,rfl⟩:=hv;refine bM ?_;refine pH [4,5,6,7] ?_;refine aB ?_;refine bA fun g2=>?_;refine aB ?_;exact eL rfl rfl rfl fun w1 t=>⟨⟨_,rfl,⟨_,_,rfl⟩⟩,t.below (by simp)⟩
end
end
section
theorem aCU{l:List Rg}{i k:Nat}{a:Rg}{v:Value}(h:l[i]? =some a)(hk:k < 2)(hv:a.cells[k]? =some v):(l.flatMap Rg.cells)[i*2+k]? =some v:=(Nq Rg.cells 2 l (fun _ _=>rfl) i k a h hk).trans hv
theorem aMZ(f n kR:Nat)(RA:Option Addr)(v1 v2 v3:Value)(aL:List Rg)(hn:n=aL.length)(hn8:n≤8)(w:World)(F:Nat→Prop)(hp:(HP.many [HP.aE f 322 [.slice RA n kR,v1,v2,v3],HP.own 48 2 (.slice RA n kR) n (aL.flatMap Rg.cells)]).sat F w)(hF:∀b,F b→b < w.heap.size):
  Cz 154 #[pt f] w (Wr (.tuple #[]) (HP.many [cH,cH]) w F):=by
 subst hn;refine dK func154 ntmps154 hp hF ?_;generalize cN:(⟨w,fun b=>b < w.heap.size∧¬F b⟩:Piece)=R0;refine bF 0 0 ?_;refine bF 1 1 ?_;refine aB ?_;refine iP 23 1 ?_;refine qN (α:=(Option Addr×Nat)×List Value) (fun i _=>[(2,iv i),(0,pt f)]) (fun i x=>[HP.own 23 1 (.slice x.1.1 i x.1.2) i x.2,HP.own 48 2 (.slice RA aL.length kR) aL.length (aL.flatMap Rg.cells),HP.aE f 322 [.slice RA aL.length kR,.slice x.1.1 i x.1.2,v2,v3],HP.many [cH,cH]]) (fun _ _=>True) aL.length ((none,0),[]) trivial fun i x hi _=>?_;obtain⟨⟨L1,L2⟩,L3⟩:=x;dsimp only;refine aB ?_;refine aG rfl (fun hlt=>?_) (fun hge=>?_)
 ·have hlt:i < aL.length:=by omega
  obtain⟨r,hr⟩:=get_some hlt
  have hx:=aCU (k:=0) hr (by omega) rfl
  refine aJX 1 rfl (by omega) fun⟨gR,hgR⟩=>?_;subst hgR;refine aB ?_;refine rG ?_;refine aO 13 ?_;refine eH fun g3=>?_;refine bM ?_;refine pH [14,15,16,17] ?_;refine aB ?_;refine sY 1 fun A' k'=>?_;dsimp only[List.set];refine aB ?_;exact jU ((_,_),_)
 ·refine aB ?_;subst cN;exact jZ 3 hF
theorem aME(l:List Rg):∀v∈l.flatMap Rg.cells,v.oneCell'=true:=fun v hv=>by
 obtain⟨r,_,hv⟩:=List.mem_flatMap.1 hv;simp only[Rg.cells,List.mem_cons,List.not_mem_nil,or_false] at hv;rcases hv with rfl | rfl<;>rfl
theorem aMY(aL:List Rg)(hl:aL.length≤8)(A:Option Addr)(c:Nat)(w:World)(hs:aI (all w) 2 A aL.length (aL.flatMap Rg.cells)):
  Cz 81 #[.slice A aL.length c] w (fun y w'=>(∃v,y=.returned v∧wK v)∧Below w.heap.size w w'):=by
 refine aN func81 ntmps81 ?_;refine aB ?_;refine aG rfl (fun h=>absurd h (by omega)) (fun _=>?_);refine aB ?_;refine Eh (el:=48) (sz:=2) (by kernel_rfl) (by kernel_rfl) (by decide) fun g=>?_;refine Bw 0 2 0 rfl rfl (by omega) ?_;dsimp only[List.set];refine aB ?_;refine gH 0 2 8 aL.length (n':=aL.length) (el:=48) (by kernel_rfl) (by kernel_rfl) (by decide) rfl rfl rfl (qW (by simp) hs) (aME _) (by omega) (by omega) (by omega) (by decide) fun A' k'=>?_;dsimp only[List.set,List.nil_append];refine aB ?_;refine bA fun g2=>?_;refine aB ?_;refine nH ?_;refine dZ 0 (HP.many [cH,cH]) (fun w1 F1 t h1 h2 h3=>aMZ g2 aL.length k' A' _ _ _ aL rfl hl w1 F1 h1 h2) ?_;refine aB ?_;exact eL rfl rfl rfl fun w1 t=>⟨⟨_,rfl,⟨_,_,rfl⟩⟩,t.below (by simp)⟩
end
section
def aUo(v:Value)(_ _:World):Prop:=∃p:Option Addr,v=.pointer p
def aUp(v:Value)(_ _:World):Prop:=∃(p:Option Addr) (e:Int),v=.tuple #[.pointer p,iv e]
theorem aNk(w:World):Cz 82 #[] w (fun y w'=>(∃v,y=.returned v∧aUo v w w')∧Below w.heap.size w w'):=by
 refine aN func82 ntmps82 ?_;refine aA ?_;refine kd (gA rfl) ?_;refine bA fun g1=>?_;refine aA ?_;exact aS (h:=fun _ _=>⟨_,rfl,⟨_,rfl⟩⟩)
theorem aNj(A:Option Addr)(n c:Nat)(zs:List Int)(w:World)(hs:aI (all w) 1 A n (aK zs))(hn:n=zs.length)(hn2:n≤1000):Cz 83 #[.slice A n c] w (fun y w'=>(∃v,y=.returned v∧aUp v w w')∧Below w.heap.size w w'):=by
 subst hn;refine aN func83 ntmps83 ?_;refine aA ?_;refine aG rfl (fun h6=>?_) (fun h6=>?_)
 ·refine aA ?_;exact eL rfl rfl rfl fun w1 t=>⟨⟨_,rfl,⟨_,_,rfl⟩⟩,t.below (by simp)⟩
 ·refine aA ?_;refine bK [(4,iv 0),(3,iv 0),(2,.pointer none),(0,.slice A zs.length c)] ?_;refine eJ (fun m e R H=>∃i:Nat,i≤zs.length∧m=zs.length - i∧e=[(4,iv i),(3,iv 0),(2,.pointer none),(0,.slice A zs.length c)]∧R=[all w]∧H=[]) zs.length ⟨0,by omega,rfl,rfl,rfl,rfl⟩ fun m e R H hI=>?_;obtain⟨i,hi,rfl,rfl,rfl,rfl⟩:=hI;refine aA ?_;refine aG rfl (fun hlt=>?_) (fun hge=>?_)
  ·have hlt:i < zs.length:=by omega
   obtain⟨x,hx⟩:=get_some hlt;obtain⟨b,off,rfl,hr⟩:=aI.int hs (by omega)
   have k1:=hr i x hx
   refine aA ?_;refine kd (dat i (off+i)) ?_;refine aA ?_;refine bX (t:=19) rfl (fun h0=>?_) (fun h0=>?_)
   ·refine aA ?_;exact eL rfl rfl rfl fun w1 t=>⟨⟨_,rfl,⟨_,_,rfl⟩⟩,t.below (by simp)⟩
   ·refine aA ?_;refine kd (dat i (off+i)) ?_;refine aA ?_;refine aG rfl (fun h8=>?_) (fun h8=>?_)
    ·refine aA ?_;exact eL rfl rfl rfl fun w1 t=>⟨⟨_,rfl,⟨_,_,rfl⟩⟩,t.below (by simp)⟩
    ·refine aA ?_;exact dW (zs.length - (i+1)) ⟨i+1,hlt,rfl,rfl,rfl,rfl⟩
  ·refine aA ?_;refine Eh (el:=3) (sz:=1) (by kernel_rfl) (by kernel_rfl) (by decide) fun g=>?_;refine Bw 0 1 0 rfl rfl (by omega) ?_;dsimp only[List.set];refine aA ?_;refine gH 0 1 8 zs.length (n':=zs.length) (el:=3) (by kernel_rfl) (by kernel_rfl) (by decide) rfl rfl rfl (qW (by simp) hs) (fun v hv=>by simp[aK] at hv;obtain⟨_,_,rfl⟩:=hv;rfl) (by omega) (by omega) (by omega) (by decide) fun A' k'=>?_;dsimp only[List.set,List.nil_append];refine kd (gA rfl) ?_;refine bA fun g1=>?_;refine aA ?_;exact eL rfl rfl rfl fun w1 t=>⟨⟨_,rfl,⟨_,_,rfl⟩⟩,t.below (by simp)⟩
end
section
section
variable(s:aC)(A1 A2 A3 A4:Option Addr)(n1 k1 n2 k2 n3 k3 n4 k4:Nat)(w:World)(hW:fL w s A1 n1 A2 n2 A3 n3 A4 n4)(hm:s.made)
include hW hm
theorem aNi:Cz 37 #[.agg #[.slice A1 n1 k1,.slice A2 n2 k2,.slice A3 n3 k3,.slice A4 n4 k4]] w (fun y w'=>(∃v,y=.returned v∧wK v)∧Below w.heap.size w w'):=by
 have nD:=hm.nv
 obtain rfl:=hW.nZ;refine aN func37 ntmps37 ?_;refine aB ?_;refine bA fun g1=>?_;refine aB ?_;refine uU wK (fun w1 t=>aNc s A1 A2 A3 A4 _ k1 _ k2 _ k3 _ k4 w1 (hW.le (t.started (by simp))) hm) fun v hv=>?_;obtain⟨p6,e6,rfl⟩:=hv;refine aB ?_;refine aG rfl (fun h6=>?_) (fun h6=>?_)
 ·refine aB ?_;exact eL rfl rfl rfl fun w1 t=>⟨⟨_,rfl,⟨_,_,rfl⟩⟩,t.below (by simp)⟩
 refine aB ?_;refine uU wK (fun w1 t=>aNb s A1 A2 A3 A4 _ k1 _ k2 _ k3 _ k4 w1 (hW.le (t.started (by simp))) hm) fun v hv=>?_;obtain⟨p7,e7,rfl⟩:=hv;refine aB ?_;refine uU wK (fun w1 t=>aNa s A1 A2 A3 A4 _ k1 _ k2 _ k3 _ k4 w1 (hW.le (t.started (by simp))) hm) fun v hv=>?_;obtain⟨p8,e8,rfl⟩:=hv;refine aB ?_;refine bA fun g2=>?_;refine aB ?_;refine iP 38 6 ?_;refine iP 191 1 ?_;refine iP 194 1 ?_;refine iP 3 1 ?_;refine qN (α:=((Option Addr×Nat)×List Value)×((Option Addr×Nat)×List Value)×((Option Addr×Nat)×List Value)×(Option Addr×Nat)×List Value) (fun i x=>[(12,iv i),(11,.slice x.2.2.2.1.1 i x.2.2.2.1.2),(10,pt g2),(1,pt g1)]) (fun i x=>[HP.own 38 6 (.slice x.1.1.1 i x.1.1.2) i x.1.2,HP.own 191 1 (.slice x.2.1.1.1 i x.2.1.1.2) i x.2.1.2,HP.own 194 1 (.slice x.2.2.1.1.1 i x.2.2.1.1.2) i x.2.2.1.2,HP.own 3 1 (.slice x.2.2.2.1.1 i x.2.2.2.1.2) i x.2.2.2.2,HP.aE g2 190 [.slice x.1.1.1 i x.1.1.2,.pointer p6,.pointer p7,.pointer p8,.slice x.2.1.1.1 i x.2.1.1.2,.slice x.2.2.1.1.1 i x.2.2.1.1.2,.pointer none],HP.aE g1 30 [.slice A1 n1 k1,.slice A2 n2 k2,.slice A3 n3 k3,.slice A4 s.aD.length k4]]) (fun i x=>∃zs,x.2.2.2.2=aK zs∧zs.length=i) s.aD.length (((none,0),[]),((none,0),[]),((none,0),[]),(none,0),[]) ⟨[],rfl,rfl⟩ fun i x hi hx=>?_;obtain⟨⟨⟨L1,L2⟩,L3⟩,⟨⟨M1,M2⟩,M3⟩,⟨⟨N1,N2⟩,N3⟩,⟨O1,O2⟩,O3⟩:=x;obtain⟨zs,rfl,hzl⟩:=hx;dsimp only;refine aB ?_;refine aG rfl (fun hlt=>?_) (fun hge=>?_)
 ·have hlt:i < s.aD.length:=by omega
  obtain⟨d,hd⟩:=get_some hlt;obtain⟨b,off,_,rfl,⟨AR,_,kR,AN,_,kN,rfl,rfl,rfl,hR,hN⟩,hro⟩:=hW.dev.aCT hd
  have k4:=hro.at_ (j:=4) rfl
  have Bb:d.aL.length≤8:=by
   have:=(hm.aD i d hd).2.2.2.2.2.2.2.2.1
   omega
  refine aB ?_;refine rG ?_;refine aO 10 ?_;refine eH fun g3=>?_;refine bM ?_;refine pH [11,12,13,14] ?_;refine aB ?_;refine sY 1 fun A' k'=>?_;dsimp only[List.set];refine aB ?_;refine uU wK (fun w1 t=>aMY d.aL Bb AR kR w1 (hR.le (t.le (by simp)))) fun v hv=>?_;obtain⟨p9,e9,rfl⟩:=hv;refine aB ?_;refine eH fun g4=>?_;refine aB ?_;refine sY 3 fun A'' k''=>?_;dsimp only[List.set];refine aB ?_;refine rG ?_;refine aO 5 ?_;refine uU (fun v=>∃p:Option Addr,v=.pointer p) (fun w1 t=>aNk w1) fun v hv=>?_;obtain⟨p10,rfl⟩:=hv;refine bM ?_;refine aO 6 ?_;refine eH fun g5=>?_;refine bM ?_;refine pH [7,8,9,10] ?_;refine aB ?_;refine sY 5 fun A3' k3'=>?_;dsimp only[List.set];refine aB ?_;refine eH fun g6=>?_;refine aB ?_;refine sY 7 fun A4' k4'=>?_;dsimp only[List.set];refine aB ?_;exact jU (((_,_),_),((_,_),_),((_,_),_),(_,_),_) (hg:=⟨zs++[(d.aL.length:Int)],by simp[aK],by simp[hzl]⟩)
 ·obtain rfl:i=s.aD.length:=by omega
  refine aB ?_;refine uU wK (fun w1 t=>aNj O1 s.aD.length O2 zs w1 (t.slO (i:=3) rfl) hzl.symm (by omega)) fun v hv=>?_;obtain⟨p11,e11,rfl⟩:=hv;refine aB ?_;exact eL rfl rfl rfl fun w1 t=>⟨⟨_,rfl,⟨_,_,rfl⟩⟩,t.below (by simp)⟩
theorem aNd(p q:Option Addr):Cz 39 #[.pointer p,.pointer q,.agg #[.slice A1 n1 k1,.slice A2 n2 k2,.slice A3 n3 k3,.slice A4 n4 k4]] w (fun y w'=>(∃v,y=.returned v∧wK v)∧Below w.heap.size w w'):=by
 have nD:=hm.nv
 obtain rfl:=hW.nB;obtain rfl:=hW.nM;obtain rfl:=hW.pO;obtain rfl:=hW.nZ;refine aN func39 ntmps39 ?_;refine aB ?_;refine bA fun g1=>?_;refine aB ?_;refine uU (fun v=>∃p:Option Addr,v=.tuple #[.pointer p,iv 0]) (fun w1 t=>aNf s A1 A2 A3 A4 _ k1 _ k2 _ k3 _ k4 w1 (hW.le (t.started (by simp))) hm) fun v hv=>?_;obtain⟨p16,rfl⟩:=hv;refine aB ?_;cases p with
 | none=>
  refine aB ?_;exact eL rfl rfl rfl fun w1 t=>⟨⟨_,rfl,⟨_,_,rfl⟩⟩,t.below (by simp)⟩
 | some a =>
  refine aB ?_;cases q with
  | none=>
   refine aB ?_;exact eL rfl rfl rfl fun w1 t=>⟨⟨_,rfl,⟨_,_,rfl⟩⟩,t.below (by simp)⟩
  | some b =>
   refine aB ?_;refine rG ?_;refine aO 5 ?_;refine uU (fun v=>∃v1 v2 v3:Value,v=.agg #[v1,v2,v3]) (fun w1 t=>aNe s A1 A2 A3 A4 _ k1 _ k2 _ k3 _ k4 w1 (hW.le (t.started (by simp))) hm) fun v hv=>?_;obtain⟨v1,v2,v3,rfl⟩:=hv;refine bM ?_;refine pH [6,7,8] ?_;refine aB ?_;refine bA fun g2=>?_;refine aB ?_;refine qN (α:=Value×Value×Value) (fun i _=>[(11,iv i),(10,pt g2),(5,pt g1)]) (fun i x=>[HP.aE g2 220 [.pointer (some a),.pointer (some b),.slice A1 s.aF.length k1,.slice A2 s.domains.length k2,.slice A3 s.aT.length k3,.slice A4 s.aD.length k4,iv 0,.int .u8 0,iv 0,iv 0,.int .u32 0,iv 0,.int .u32 0,x.1,iv 0,.int .u8 0,iv 0,iv 0,.int .u32 0,iv 0,.int .u32 0,x.2.1,iv 0,.int .u8 0,iv 0,iv 0,.int .u32 0,iv 0,.int .u32 0,x.2.2,.pointer p16,v1,v2,v3,sn,iv 0,.bool false,iv (-1)],HP.aE g1 30 [.slice A1 s.aF.length k1,.slice A2 s.domains.length k2,.slice A3 s.aT.length k3,.slice A4 s.aD.length k4]]) (fun _ _=>True) 3 (sn,sn,sn) trivial fun i x hi _=>?_;obtain⟨x1,x2,x3⟩:=x;dsimp only;refine aB ?_;refine aG rfl (fun hlt=>?_) (fun hge=>?_)
   ·obtain rfl | rfl | rfl:i=0∨i=1∨i=2:=by omega
    all_goals
     refine aB ?_;refine rG ?_;refine aO 5 ?_;refine mA 8 (n:=s.aD.length) (el:=3) (z:=iv 0) (by kernel_rfl) (by kernel_rfl) rfl rfl rfl (by omega) (by omega) (by decide) fun g3=>?_;refine bM ?_;refine Zz 8 ?_;refine Zz 9 ?_;refine pH [10] ?_;refine aB ?_;exact jU (_,_,_)
   ·refine aB ?_;exact eL rfl rfl rfl fun w1 t=>⟨⟨_,rfl,⟨_,_,rfl⟩⟩,t.below (by simp)⟩
end
end
section
def aFj(s:aC)(v:Value)(hs:List HP)(_:Piece):Prop:=∃(g f r:Nat) (hL:HL) (p:Option Addr),v=.tuple #[pt g,.bool true]∧hs=[HP.aE g 58 [.pointer (some ⟨hL.h,0,none⟩),pt f,pt r,.pointer p],gE r hL.h f s (Jf s),Cf f hL.h s (tT s),dR hL s (hw0 s)]∧iU hL s
theorem aGJ(s:aC)(A1 A2 A3 A4:Option Addr)(n1 k1 n2 k2 n3 k3 n4 k4:Nat)(w:World)(hW:fL w s A1 n1 A2 n2 A3 n3 A4 n4)(hm:s.made):
  Cz 10 #[.agg #[.slice A1 n1 k1,.slice A2 n2 k2,.slice A3 n3 k3,.slice A4 n4 k4]] w (fun y w'=>(∃v hs q,y=.returned v∧q.w=w'∧aFj s v hs q∧kA w hs q)∧Below w.heap.size w w'):=by
 have hH:=hm.dJ
 refine aN func10 ntmps10 ?_;refine aB ?_;refine bA fun g1=>?_;refine aB ?_;refine iY (aK2 s) (fun w1 t=>aQh s hH A1 A2 A3 A4 n1 k1 n2 k2 n3 k3 n4 k4 w1 (hW.le (t.started (by simp)))) ?_;rintro _ _ q2 ⟨hL,rfl,rfl,iS,Hq⟩ _;dsimp only[List.cons_append,List.nil_append];refine aB ?_;refine iY (aKA hL.h s) (fun w1 t=>aQU hL.h s hH A1 A2 A3 A4 n1 k1 n2 k2 n3 k3 n4 k4 w1 (hW.le (t.started (by simp)))) ?_;rintro _ _ q3 ⟨f,rfl,rfl⟩ _;dsimp only[List.cons_append,List.nil_append];refine aB ?_;refine iY (aKo hL.h f s) (fun w1 t=>aMt s A1 A2 A3 A4 n1 k1 n2 k2 n3 k3 n4 k4 w1 hL.h f hm (hW.le (t.started (by simp)))) ?_;rintro _ _ q4 ⟨r,rfl,rfl⟩ _;dsimp only[List.cons_append,List.nil_append];refine aB ?_;refine uU wK (fun w1 t=>aNi s A1 A2 A3 A4 n1 k1 n2 k2 n3 k3 n4 k4 w1 (hW.le (t.started (by simp))) hm) fun v hv=>?_;obtain⟨p12,e12,rfl⟩:=hv;refine aB ?_;refine uU wK (fun w1 t=>aNg s A1 A2 A3 A4 n1 k1 n2 k2 n3 k3 n4 k4 w1 (hW.le (t.started (by simp))) hm p12) fun v hv=>?_;obtain⟨p15,e15,rfl⟩:=hv;refine aB ?_;refine uU wK (fun w1 t=>aNd s A1 A2 A3 A4 n1 k1 n2 k2 n3 k3 n4 k4 w1 (hW.le (t.started (by simp))) hm p12 p15) fun v hv=>?_;obtain⟨p18,e18,rfl⟩:=hv;refine aB ?_;refine bA fun g2=>?_;refine aB ?_;refine aY [0,1,2,3] rfl (by decide) (R':=[all w]) (by simp) ?_;refine dO [] [] [0,1,2,3] (by simp) rfl (by decide) (by decide) fun q _ _ hfr=>?_;exact eL rfl rfl rfl fun w1 t=>⟨⟨_,_,⟨w1,q.Z⟩,rfl,rfl,⟨g2,f,r,hL,_,rfl,rfl,⟨iS,Hq⟩⟩,t.newR (by simp) (by simp) (hfr (by simp) (by simp))⟩,t.below (by simp)⟩
end
section
theorem aLu{p:HP}{F:Nat→Prop}{w w':World}{v:Value}{y:Ending}(hp:p.sat F w)(hF:∀b,F b→b < w.heap.size)(h:Rt v w y w'):y=.returned v∧∃F',p.sat F' w'∧iE w w' F F':=
 ⟨h.1,F,p.loc _ _ _ hp (fun b hb=>h.2.block b (hF b hb)),h.2.os,h.2.tape,h.2.output,h.2.size,fun b hb=>⟨.inl hb,Nat.lt_of_lt_of_le (hF b hb) h.2.size⟩,fun b hb _=>h.2.block b hb⟩
section
variable(g h f:Nat)(s:aC)(z:aV)(w:World)(F:Nat→Prop)(d:bL)(hk:z.t0.kind=114)(tS:z.t0.dev=0)(uW:z.t0.bT=0)(Kf:s.aD[0]? =some d)(Bb:1≤d.aL.length)(Ro:hG z.t0 0=0)
include hk tS uW Kf Bb Ro
theorem aM8(L:dM)(hR:Oz w g h f L s z):Cz 291 #[.agg #[.bool false],pt g,.pointer (some ⟨g,10,none⟩)] w (Rt (iv 6) w):=by
 have hlt:=(List.getElem?_eq_some_iff.1 Kf).1
 have hin:bO s.aD.length 0=true:=decide_eq_true (by omega)
 have c4:eG w g (10+1) [.int .u8 114,iv 0,iv 0,.int .u32 z.t0.val]:=by
  refine⟨hR.r0.1,fun j v hv=>?_⟩
  have h4:j < 4:=by simpa using(List.getElem?_eq_some_iff.1 hv).1
  have:=hR.r0.2 (11+j) v (by
   rw[←hk,←tS] at hv
   have h5:j=0∨j=1∨j=2∨j=3:=by omega
   rcases h5 with rfl | rfl | rfl | rfl
   ·exact hv
   ·exact hv
   ·rw[tS,←uW] at hv;exact hv
   ·exact hv)
  rwa [Nat.zero_add] at this
 have k5:=hR.r0.at_ (j:=5) rfl
 have k17:fR w g 17 (iv 0):=by
  have:=hR.r0.at_ (j:=17) rfl
  rwa [Ro] at this
 obtain⟨b,off,_,hA,⟨AR,_,kR,AN,_,kN,rfl,rfl,rfl,_,_⟩,hro⟩:=hR.so.dev.aCT Kf;rw[hA] at k5
 have k4:=hro.at_ (j:=4) rfl
 simp only[Nat.zero_mul,Nat.add_zero] at k4;refine aN func291 ntmps291 ?_;refine aB ?_;refine bA fun g1=>?_;refine aB ?_;refine bU fun g7=>?_;refine aB ?_;refine mK ?_;refine jB ?_;refine uA (fun w1 t=>aGB g h f L s z w1 0 (hR.below (t.started (by simp)))) ?_;rw[hin];refine jB ?_;refine xK (dat 0 off) ?_;refine jC ?_;refine aB ?_;refine aG rfl (fun h1=>absurd h1 (by omega)) (fun _=>?_);refine aB ?_;refine mK ?_;refine jB ?_;refine xK (gN 0 17 (ho:=rfl)) ?_;refine jC ?_;refine aB ?_;exact dG
variable(hp:(gE g h f s z).sat F w)(hF:∀b,F b→b < w.heap.size)
include hp hF
theorem aM5:Cz 47 #[pt g,iv 0] w (Wr (.tuple #[]) (gE g h f s (kD (kB z 0) 0 6 0)) w F):=by
 have hj:T3 0:=.inl rfl
 refine dK func47 ntmps47 hp hF ?_;generalize cN:(⟨w,fun b=>b < w.heap.size∧¬F b⟩:Piece)=R0;refine lY 0 fun L=>?_;refine bF 0 0 ?_;refine aA ?_;refine fG rfl rfl ?_ (hs:=fB.mk 0 rfl cK.h rfl (of_decide_eq_true rfl));dsimp only[List.set];rw[show(lA h f L s z).set (0+49) (iv 0)=lA h f L s {z with eX:=0} from rfl];refine aA ?_;refine kd (gN 0 10 (ho:=rfl)) ?_;refine aA ?_;refine fG rfl rfl ?_ (hs:=fB.mk 0 rfl cK.h rfl (by rw[aAB];omega));dsimp only[List.set];rw[show(lA h f L s {z with eX:=0}).set (10+0) (iv 2)=lA h f L s (kB z 0) from rfl];refine aP 0 0 ?_
 change XK _ _ _ _ _ [fN g h f L s (kB z 0)]
 refine aA ?_;refine kd (bN rfl (pJ 0 rfl (Cu (j:=0) (k:=1) hj rfl))) ?_;rw[show((kB z 0).tk 0).kind=114 from hk];refine aU (fun w1 _=>aAA 114 w1) ?_;rw[show Nv 114=.iface 240 (.agg #[.bool false]) from rfl];refine aA ?_;refine aF9 0 (fN g h f L s (kB z 0)) (f:=291) (by kernel_rfl) rfl (fun w=>by kernel_rfl) rfl rfl ⟨by decide,rfl⟩ (fun w1 F1 t h1 h2 h3=>(aM8 g h f s (kB z 0) w1 d hk tS uW Kf Bb Ro L (aKp h1 h2)).mono fun y w' hy=>aLu h1 h2 hy) ?_;dsimp only[List.set];refine fC 0 (fun L:dM=>fN g h f L s (kB z 0)) L ?_;refine aA ?_;refine kd (gA rfl) ?_;refine aA ?_;refine dZ 0 (gE g h f s (kD (kB z 0) 0 6 0)) (fun w1 F1 t h1 h2 h3=>Jg g h f s (kB z 0) w1 F1 0 rfl hj 6 0 h1 h2) ?_;refine aA ?_;subst cN;exact jZ 0 hF
theorem aMx(h1:z.t0.st=1)(hh:z.eX < 0):Cz 19 #[pt g,iv 0] w (fun v w'=>v=.returned (.tuple #[])∧∃F',(gE g h f s (kD (kB z 0) 0 6 0)).sat F' w'∧iE w w' F F'):=by
 refine Zu (vs:=[pt g,iv 0]) (p:=gE g h f s z) func19 rfl ntmps19 (by simp) hp hF ?_;generalize cN:(⟨w,fun b=>b < w.heap.size∧¬F b⟩:Piece)=R0;refine aA ?_;refine Ud (f:=46) (fi:=[]) (ca:=[]) rfl ?_;refine aA ?_;refine aU (fun w1 _=>aA9 0 w1) ?_;rw[show bO 3 0=true from rfl];refine aA ?_;refine lY 0 fun L=>?_;refine aA ?_;refine kd (gN 0 10 (ho:=rfl)) ?_;refine aA ?_;refine kd (bN rfl (pJ 0 rfl (Cu (j:=0) (k:=0) (.inl rfl) rfl))) ?_;rw[show(z.tk 0).st=1 from h1];refine aA ?_;refine kd (bN rfl (pJ 0 rfl rfl)) ?_;refine aA ?_;refine fC 0 (fun L:dM=>fN g h f L s z) L ?_;refine aG rfl (fun h2=>?_) (fun h2=>absurd hh h2);refine aA ?_;refine dZ 0 (gE g h f s (kD (kB z 0) 0 6 0)) (fun w1 F1 t Xs Xr h3=>aM5 g h f s z w1 F1 d hk tS uW Kf Bb Ro Xs Xr) ?_;refine aA ?_;subst cN;exact Bs (.inr rfl) (by kernel_rfl) Mc rfl fun w1 t=>⟨rfl,t.turns hF (by simp) (i:=0) rfl⟩
end
end
section
def yF:aC:=⟨[⟨111,[],1,0,0,0⟩],[⟨-1,0,false⟩],[0],[⟨0,0,0,0,[⟨0,false⟩],[]⟩]⟩
theorem aGo:yF.made:=by
 refine⟨?_,?_,by simp[yF],?_,by decide,by decide,by decide,by decide⟩
 ·exact(Fits.nil eD.fit).snoc ⟨by simp,.inl ⟨rfl,rfl,by decide,by decide,rfl,rfl,rfl⟩⟩
 ·exact(Fits.nil Dom.fit).snoc ⟨.inl rfl,by decide,by decide⟩
 ·exact(Fits.nil (bL.fit 1 1 1)).snoc ⟨by decide,by decide,by decide,by decide,by decide,by decide,by decide,by decide,by decide,by simp,by decide,by simp⟩
section
variable{N:cF}{w0 w:World}{e:Env}{R:List Piece}{H:List HP}
theorem aLI(st:St w0 R H w){i1 i2 i3 i4 i5 g1 g2 g3 g4 g5:Nat}(h1:H[i1]? =some (HP.aE g1 86 [.int .u8 111,sn,.int .u64 1,iv 0,iv 0,iv 0]))(h2:H[i2]? =some (HP.aE g2 50 [iv (-1),iv 0,.bool false]))(h3:H[i3]? =some (HP.aE g3 88 [iv 0]))(h5:H[i5]? =some (HP.aE g5 48 [.int .u32 0,.bool false]))(h4:H[i4]? =some (HP.aE g4 38 [iv 0,iv 0,iv 0,.int .u32 0,.slice (some ⟨g5,0,none⟩) 1 1,sn])):
  fL w yF (some ⟨g1,0,none⟩) 1 (some ⟨g2,0,none⟩) 1 (some ⟨g3,0,none⟩) 1 (some ⟨g4,0,none⟩) 1:=
 ⟨⟨[_],⟨rfl,⟨none,0,0,rfl,rfl,rfl,fun h=>absurd h (by omega)⟩,trivial⟩,rfl,st.rQ h1 rfl⟩,⟨[_],⟨rfl,rfl,trivial⟩,rfl,st.rQ h2 rfl⟩,⟨[_],⟨rfl,rfl,trivial⟩,rfl,st.rQ h3 rfl⟩,⟨[_],⟨rfl,⟨some ⟨g5,0,none⟩,1,1,none,0,0,rfl,rfl,rfl,st.rQ h5 rfl,rfl,fun h=>absurd h (by omega)⟩,trivial⟩,rfl,st.rQ h4 rfl⟩,Vw aGo⟩
end
theorem aLJ(w:World):Cz 8 #[] w (Rt (.bool true) w):=by
 refine aN func8 ntmps8 ?_;refine aB ?_;refine eH fun g1=>?_;refine aB ?_;refine eH fun g2=>?_;refine aB ?_;refine eH fun g3=>?_;refine aB ?_;refine eH fun g5=>?_;refine aB ?_;refine eH fun g4=>?_;refine aB ?_;refine bU fun g6=>?_;refine aB ?_;refine iY (aFj yF) (fun w1 t=>aGJ yF _ _ _ _ 1 1 1 1 1 1 1 1 w1 (aLI t (i1:=5) (i2:=4) (i3:=3) (i4:=1) (i5:=2) rfl rfl rfl rfl rfl) aGo) ?_;rintro _ _ q2 ⟨gR,f,r,hL,pX,rfl,rfl,aW⟩ _;dsimp only[List.cons_append,List.nil_append];refine aB ?_;obtain⟨z1,mN,hk,tS,uW,Ro,hst,hho⟩:∃z1,vN (Jf yF) 0 114 0 0 0=(0,z1)∧z1.t0.kind=114∧z1.t0.dev=0∧z1.t0.bT=0∧hG z1.t0 0=0∧z1.t0.st=1∧z1.eX < 0:=⟨_,rfl,rfl,rfl,rfl,rfl,rfl,by decide⟩
 refine dZ 1 (gE r hL.h f yF z1) (fun w1 F1 t h1 h2 h3=>by
  have:=aG9 r hL.h f yF (Jf yF) w1 F1 0 114 0 0 0 h1 h2
  rw[mN] at this
  exact this) ?_
 refine aB ?_;refine dZ 1 (gE r hL.h f yF (kD (kB z1 0) 0 6 0)) (fun w1 F1 t h1 h2 h3=>aMx r hL.h f yF z1 w1 F1 _ hk tS uW rfl (Nat.le_refl 1) Ro h1 h2 hst hho) ?_;refine aB ?_;refine dZ 1 (gE r hL.h f yF (nG (kD (kB z1 0) 0 6 0) 0).2) (fun w1 F1 t h1 h2 h3=>aGA r hL.h f yF (kD (kB z1 0) 0 6 0) w1 F1 0 h1 h2) ?_;rw[show(nG (kD (kB z1 0) 0 6 0) 0).1=(6,0,true) from rfl];refine aB ?_;refine bU fun g7=>?_;refine aB ?_;exact dG
end
section
def aCn(a:Int):Prop:= -9223372036854775808≤a∧a≤9223372036854775807
end
section
def Mg(c n:Int):Int:=(if c < 0 then 0 - (c+1) else c) % n
theorem aHi(c n:Int)(hn:0 < n):0≤Mg c n∧Mg c n < n:=⟨Int.emod_nonneg _ (by omega),Int.emod_lt_of_pos _ hn⟩
end
section
theorem aHj(c n:Int)(w:World)(hc:aCn c)(hn:0 < n):Cz 11 #[iv c,iv n] w (Rt (iv (Mg c n)) w):=by
 unfold aCn at hc;refine aN func11 ntmps11 ?_;refine aB ?_;refine aG rfl (fun h=>?_) (fun h=>?_)
 ·refine aB ?_;refine jT (by simp) ?_;rw[Mg,if_pos h]
 ·refine aB ?_;refine jT (by simp) ?_;rw[Mg,if_neg h]
end
section
def Lt(cs:List eD)(rows:List (List Value))(p:Piece):Prop:=Rows (uI (fF p)) 6 cs rows
theorem Lt.le{cs:List eD}{rows:List (List Value)}(p q:Piece)(h:p.Le q)(k:Lt cs rows p):Lt cs rows q:=Rows.mono (fun _ _=>uI.mono (nW h)) k
def Lp(vs:List bL)(rows:List (List Value))(p:Piece):Prop:=Rows (tJ (fF p)) 6 vs rows
theorem Lp.le{vs:List bL}{rows:List (List Value)}(p q:Piece)(h:p.Le q)(k:Lp vs rows p):Lp vs rows q:=Rows.mono (fun _ _=>tJ.mono (nW h)) k
def zG(sz:Nat)(A:Option Addr)(n:Nat)(xs:List Value)(p:Piece):Prop:=aI p sz A n xs
theorem zG.le{sz n:Nat}{A:Option Addr}{xs:List Value}(p q:Piece)(h:p.Le q)(k:zG sz A n xs p):zG sz A n xs q:=aI.le k h
def sH(cs:List eD)(rows:List (List Value)):HP:=HP.bY (Lt cs rows) (Lt.le (cs:=cs) (rows:=rows))
def Gd(vs:List bL)(rows:List (List Value)):HP:=HP.bY (Lp vs rows) (Lp.le (vs:=vs) (rows:=rows))
section
variable{N:cF}{w0:World}{K:Act→World→Prop}{e:Env}{R:List Piece}{H:List HP}
theorem aKb{p:HP}(hp:∀w,p.sat (fun _=>False) w)(h:XK N w0 K e R (p::H)):XK N w0 K e R H:=fun a w hr st=>by
 obtain⟨Z,F,hz,cE,hs,dD,eB⟩:=st.ex;refine h a w hr ⟨st.os,st.tape,st.output,st.size,Z,fun i=>match i with | 0=>fun _=>False | i+1=>F i,hz,cE,fun i r hi=>?_,fun i b hb=>?_,fun i j b hij hi=>?_⟩
 ·cases i with
  | zero=>simp at hi;subst hi;exact hp w
  | succ i=>exact hs i r (by simpa using hi)
 ·cases i with
  | zero=>exact hb.elim
  | succ i=>exact dD i b hb
 ·cases i with
  | zero=>exact hi.elim
  | succ i=>cases j with
   | zero=>exact id
   | succ j=>exact eB i j b (by omega) hi
theorem aTI{cs:List eD}{rows:List (List Value)}{cl:eD}{A:Option Addr}{c:Nat}(h:XK N w0 K e R (sH (cs++[cl]) (rows++[[.int .u8 cl.kind,.slice A cl.src.length c,.int .u64 cl.rate,iv cl.mul,iv cl.div,iv cl.lock]])::H)):XK N w0 K e R (HP.own 3 1 (.slice A cl.src.length c) cl.src.length (aK cl.src)::sH cs rows::H):=
 Gj 0 (Φ:=zG 1 A cl.src.length (aK cl.src)) (hm:=zG.le) rfl (fun _ h=>h) (Tg (X:=Lt (cs++[cl]) (rows++[_])) (h3:=Lt.le) (fun p h1 h2=>h2.snoc rfl ⟨A,_,c,rfl,rfl,h1⟩) h)
theorem aTG{vs:List bL}{rows:List (List Value)}{d:bL}{A A':Option Addr}{c c':Nat}(h:XK N w0 K e R (Gd (vs++[d]) (rows++[[iv d.clock,iv d.domain,iv d.reset,.int .u32 d.iT,.slice A d.aL.length c,.slice A' d.iX.length c']])::H)):XK N w0 K e R (HP.own 48 2 (.slice A d.aL.length c) d.aL.length (d.aL.flatMap Rg.cells)::HP.own 3 1 (.slice A' d.iX.length c') d.iX.length (aK d.iX)::Gd vs rows::H):=
 Gj 0 (Φ:=zG 2 A d.aL.length (d.aL.flatMap Rg.cells)) (hm:=zG.le) rfl (fun _ h=>h) (Gj 1 (Φ:=zG 1 A' d.iX.length (aK d.iX)) (hm:=zG.le) rfl (fun _ h=>h) (Tg (X:=fun p=>zG 2 A d.aL.length (d.aL.flatMap Rg.cells) p∧zG 1 A' d.iX.length (aK d.iX) p) (h3:=fun p q hl h=>⟨zG.le p q hl h.1,zG.le p q hl h.2⟩) (fun p h1 h2=>⟨h1,h2⟩) (Tg (X:=Lp (vs++[d]) (rows++[_])) (h3:=Lp.le) (fun p h1 h2=>h2.snoc rfl ⟨A,_,c,A',_,c',rfl,rfl,rfl,h1.1,h1.2⟩) h)))
end
def aFx(v:Value)(hs:List HP)(_:Piece):Prop:=∃(s:aC) (A1 A2 A3 A4:Option Addr×Nat) (r1 r2 r3 r4:List (List Value)),v=.agg #[.slice A1.1 s.aF.length A1.2,.slice A2.1 s.domains.length A2.2,.slice A3.1 s.aT.length A3.2,.slice A4.1 s.aD.length A4.2]∧s.made∧Rows vF 3 s.domains r2∧Rows zH 1 s.aT r3∧
 hs=[HP.own 86 6 (.slice A1.1 s.aF.length A1.2) s.aF.length r1.flatten,sH s.aF r1,HP.own 50 3 (.slice A2.1 s.domains.length A2.2) s.domains.length r2.flatten,HP.own 88 1 (.slice A3.1 s.aT.length A3.2) s.aT.length r3.flatten,HP.own 38 6 (.slice A4.1 s.aD.length A4.2) s.aD.length r4.flatten,Gd s.aD r4]
theorem kA.tail{w:World}{p:HP}{hs:List HP}{q:Piece}(h:kA w (p::hs) q):kA w hs q:=by
 obtain⟨F,f1,f2,f3,f4⟩:=h;exact⟨fun i=>F (i+1),fun i r hi=>f1 (i+1) r (by simpa using hi),fun i=>f2 (i+1),fun i j b hij=>f3 (i+1) (j+1) b (by omega),f4⟩
theorem aFx.weak{w w':World}{v:Value}{hs:List HP}{q:Piece}(h:aFx v hs q)(hq:q.w=w')(hn:kA w hs q):∃cs s,v=.agg cs∧wH (fF (fresh w w')) s cs∧s.made:=by
 obtain⟨s,A1,A2,A3,A4,r1,r2,r3,r4,rfl,hm,h2,h3,rfl⟩:=h;obtain⟨F,f1,f2,_⟩:=hn;subst hq
 have hl:∀i,(⟨q.w,F i⟩:Piece).Le (fresh w q.w):=fun i b hb=>⟨⟨(f2 i b hb).1,(f2 i b hb).2.1⟩,rfl⟩
 have ho:∀{i:Nat} {t:TypeId} {sz n c:Nat} {A:Option Addr} {xs:List Value},(HP.own t sz (.slice A n c) n xs).sat (F i) q.w→aI (fresh w q.w) sz A n xs:=fun {i} _ _ _ _ _ _ hs=>(aI.own (q:=⟨q.w,F i⟩) ⟨F i,hs,fun _ h=>h⟩).le (hl i)
 exact⟨_,s,rfl,⟨A1.1,_,A1.2,A2.1,_,A2.2,A3.1,_,A3.2,A4.1,_,A4.2,rfl,⟨r1,Lt.le _ _ (hl 1) (f1 1 _ rfl),rfl,ho (f1 0 _ rfl)⟩,⟨r2,h2,rfl,ho (f1 2 _ rfl)⟩,⟨r3,h3,rfl,ho (f1 3 _ rfl)⟩,⟨r4,Lp.le _ _ (hl 5) (f1 5 _ rfl),rfl,ho (f1 4 _ rfl)⟩⟩,hm⟩
end
section
theorem aN8(c n:Int)(w:World)(hc: -9223372036854775808≤c∧c≤9223372036854775807)(hn:0 < n):
  Cz 11 #[iv c,iv n] w fun x w'=>(∃v,x=.returned v∧∃r:Int,v=iv r∧0≤r∧r < n)∧Below w.heap.size w w':=by
 refine aN func11 ntmps11 ?_;refine aB ?_;refine On (α:=Int) (fun c=>[(0,iv c),(1,iv n)]) (fun _=>[]) (fun c=>0≤c) ?_ fun c hc0=>?_
 ·refine aB ?_;refine aG rfl (fun h=>?_) (fun h=>?_)
  ·refine aB ?_;exact fY _
  ·refine aB ?_;exact fY _
 refine aB ?_;exact nS rfl rfl fun w' st=>⟨⟨_,rfl,_,rfl,Int.emod_nonneg _ (by omega),Int.emod_lt_of_pos _ hn⟩,st.below (by simp)⟩
set_option maxRecDepth 100000 in
theorem aS4(A : Option Addr)(n c : Nat)(zs : List Int)(w : World)(h0 : aI (all w) 1 A n (aK zs))(hz : aCo zs)(hn : n = zs.length)(hn2 : n ≤ 9223372036854775807) :
    Cz 9 #[.slice A n c] w fun x w'=>(∃v hs q,x=.returned v∧q.w=w'∧(∃p hs',hs=p::hs'∧aFx v hs' q)∧kA w hs q)∧Below w.heap.size w w':=by
  refine aN func9 ntmps9 ?_;refine aB ?_;refine bU fun g1=>?_;refine aB ?_;refine mA 8 (n:=120) (el:=3) (z:=iv 0) (by kernel_rfl) (by kernel_rfl) rfl rfl rfl (by omega) (by omega) (by decide) fun g2=>?_;refine aB ?_;refine Gk (α:=List Int) (fun _=>[(4,.slice (some ⟨g2,0,none⟩) 120 120),(2,pt g1)]) (fun ds=>[HP.aE g2 3 (aK ds),HP.aE g1 30 [sn,sn,sn,sn]]) zL ?_ fun ds hd=>?_
  · refine qN (α:=List Int) (fun i _=>[(5,iv i),(4,.slice (some ⟨g2,0,none⟩) 120 120),(2,pt g1),(0,.slice A n c)]) (fun _ ds=>[HP.aE g2 3 (aK ds),HP.aE g1 30 [sn,sn,sn,sn]]) (fun _ ds=>zL ds) 120 (List.replicate 120 0) zL.zero fun k ds hk hd=>?_
    refine aB ?_;refine bX (t:=23) rfl (fun hg=>?_) (fun hg=>?_)
    · refine aB ?_
      refine aG rfl (fun h=>?_) (fun h=>?_)
      · have hk2:k < 120:=by omega
        have hn0:0 < n:=by omega
        obtain⟨b,off,rfl,gY,hc⟩:=h0.2 hn0
        have hkb:=Ic (k:Int) (n:=(n:Int)) (by omega)
        have hdb:0≤(k:Int) / (n:Int)∧(k:Int) / (n:Int)≤k:=⟨Int.ediv_nonneg (by omega) (by omega),Int.ediv_le_self _ (by omega)⟩
        have k0:fR w b (off+((k:Int) % (n:Int)).toNat) (iv (zs[((k:Int) % (n:Int)).toNat]?.getD 0)):=⟨gY,hc _ _ (aD6 zs _ (by omega))⟩
        have hyb:=aL5 (z:=zs[((k:Int) % (n:Int)).toNat]?.getD 0) (d:=1+(k:Int) / (n:Int)) (lo:= -9223372036854775808) (hi:=9223372036854775807) (by omega) (by omega) (by omega) (hz _)
        refine aB ?_;refine rG ?_;refine aO 15 ?_;refine uU (fun v=>∃r:Int,v=iv r∧0≤r∧r < 1000000) (fun w1 st=>aN8 _ _ w1 hyb (by omega)) fun v hv=>?_;obtain⟨r,rfl,Ay,eI⟩:=hv;refine bM ?_;refine pH [16,17] ?_;refine aB ?_;refine fG rfl rfl ?_ (hs:=fB.mk 0 rfl cK.h rfl (by simp[aK,hd.1];omega));dsimp only[List.set];rw[aBa];refine aB ?_;exact jU _ (hg:=hd.mF k Ay eI)
      · refine aB ?_
        exact fY _
    · refine aB ?_
      exact fY _
  refine aB ?_;refine eH fun g3=>?_;refine aB ?_;refine bU fun g4=>?_;refine aB ?_;refine Bw 1 6 1 rfl rfl (by omega) ?_;dsimp only[List.set];refine aKb (p:=sH [⟨111,[],1+dv ds 0 % 1000000,0,0,0⟩] [[.int .u8 111,sn,.int .u64 (1+dv ds 0 % 1000000),iv 0,iv 0,iv 0]]) (fun w=>⟨rfl,⟨none,0,0,rfl,rfl,rfl,fun h=>absurd h (by omega)⟩,trivial⟩) ?_;refine Gk (α:=(List eD×List (List Value))×(Option Addr×Nat)×Nat) (fun _=>[(6,pt g4),(4,.slice (some ⟨g2,0,none⟩) 120 120),(2,pt g1)]) (fun x=>[sH x.1.1 x.1.2,HP.own 86 6 (.slice x.2.1.1 x.2.2 x.2.1.2) x.2.2 x.1.2.flatten,HP.aE g4 30 [.slice x.2.1.1 x.2.2 x.2.1.2,sn,sn,sn],HP.aE g2 3 (aK ds),HP.aE g1 30 [sn,sn,sn,sn]]) (fun x=>x.1.1.length=x.2.2∧1≤x.2.2∧x.2.2≤9∧Fits eD.fit x.1.1) ?_ fun x hx=>?_
  · refine qN (α:=(List eD×List (List Value))×(Option Addr×Nat)×List Value) (fun i _=>[(8,iv i),(7,.string ⟨#[112,100,103,109,103]⟩),(6,pt g4),(4,.slice (some ⟨g2,0,none⟩) 120 120),(3,iv 1),(2,pt g1)]) (fun i x=>[sH x.1.1 x.1.2,HP.own 86 6 (.slice x.2.1.1 (i+1) x.2.1.2) (i+1) x.2.2,HP.aE g4 30 [.slice x.2.1.1 (i+1) x.2.1.2,sn,sn,sn],HP.aE g2 3 (aK ds),HP.aE g1 30 [sn,sn,sn,sn]]) (fun i x=>x.1.1.length=i+1∧i≤8∧Fits eD.fit x.1.1∧x.2.2=x.1.2.flatten) 9 (([⟨111,[],1+dv ds 0 % 1000000,0,0,0⟩],[[.int .u8 111,sn,.int .u64 (1+dv ds 0 % 1000000),iv 0,iv 0,iv 0]]),(_,_),_) ⟨rfl,by omega,(Fits.nil eD.fit).snoc ⟨by simp,.inl ⟨rfl,rfl,by dsimp only;omega,by dsimp only;omega,rfl,rfl,rfl⟩⟩,rfl⟩ fun i x hi hx=>?_
    obtain⟨⟨cs,rows⟩,⟨B,cB⟩,xs⟩:=x;dsimp only at hx⊢;obtain⟨gZ,hi8,Nc,rfl⟩:=hx;refine aB ?_;refine aG rfl (fun h=>?_) (fun h=>?_)
    · obtain⟨kb,hkb,aP6⟩:=aOS (q:=(dv ds (10+3*(i:Int)).toNat % 1000000 % 5).toNat) (by omega)
      have f0:=Ic (dv ds ((10+3*(i:Int))+1).toNat % 1000000) (n:=((i+1:Nat):Int)) (by omega)
      refine aB ?_;refine On (α:=Nat×Nat) (fun x=>[(10,.pointer (some ⟨x.2,0,none⟩)),(9,iv (10+3*(i:Int))),(8,iv i),(7,.string ⟨#[112,100,103,109,103]⟩),(6,pt g4),(4,.slice (some ⟨g2,0,none⟩) 120 120),(3,iv 1),(2,pt g1)]) (fun x=>[HP.aE x.2 86 [.int .u8 kb.toNat,.slice (some ⟨x.1,0,none⟩) 1 1,.int .u64 0,iv 0,iv 0,iv 0],HP.aE x.1 3 [iv (dv ds ((10+3*(i:Int))+1).toNat % 1000000 % ((i+1:Nat):Int))],sH cs rows,HP.own 86 6 (.slice B (i+1) cB) (i+1) rows.flatten,HP.aE g4 30 [.slice B (i+1) cB,sn,sn,sn],HP.aE g2 3 (aK ds),HP.aE g1 30 [sn,sn,sn,sn]]) (fun _=>True) ?_ fun x _=>?_
      · refine rG ?_
        refine Lg 16 18 rfl rfl (by kernel_rfl) ?_ ?_
        · refine eH fun g5=>?_
          refine bM ?_;refine Zz 17 ?_;refine aO 18 ?_;refine bU fun g6=>?_;refine bM ?_;refine pH [19] ?_;refine aB ?_;exact fY (_,_)
        · refine bU fun g6=>?_
          refine bM ?_;refine aO 16 ?_;refine eH fun g5=>?_;refine bM ?_;refine Zz 17 ?_;refine pH [19] ?_;refine aD4 ?_;refine oO 1 rfl ?_;dsimp only[List.set];refine aB ?_;exact fY (_,_)
      obtain⟨g5,g6⟩:=x;dsimp only
      have f1:=Ic (dv ds ((10+3*(i:Int))+2).toNat % 1000000) (n:=((i+1:Nat):Int)) (by omega)
      refine Bw 1 1 1 rfl rfl (by omega) ?_;dsimp only[List.set];refine aB ?_;refine Gk (α:=eD×(Option Addr×Nat)) (fun _=>[(10,pt g6),(8,iv i),(7,.string ⟨#[112,100,103,109,103]⟩),(6,pt g4),(4,.slice (some ⟨g2,0,none⟩) 120 120),(3,iv 1),(2,pt g1)]) (fun x=>[HP.aE g6 86 [.int .u8 x.1.kind,.slice x.2.1 x.1.src.length x.2.2,.int .u64 x.1.rate,iv x.1.mul,iv x.1.div,iv x.1.lock],HP.own 3 1 (.slice x.2.1 x.1.src.length x.2.2) x.1.src.length (aK x.1.src),sH cs rows,HP.own 86 6 (.slice B (i+1) cB) (i+1) rows.flatten,HP.aE g4 30 [.slice B (i+1) cB,sn,sn,sn],HP.aE g2 3 (aK ds),HP.aE g1 30 [sn,sn,sn,sn]]) (fun x=>x.1.fit (i+1)) ?_ fun x hx=>?_
      · refine aG rfl (fun h1=>?_) (fun h1=>?_)
        · refine aB ?_
          exact fY (⟨_,[dv ds ((10+3*(i:Int))+1).toNat % 1000000 % ((i+1:Nat):Int)],_,_,_,_⟩,_,_) (hg:=⟨(fun f hf=>by rcases List.mem_singleton.1 hf with rfl;exact f0),.inr (.inl ⟨h1,rfl,rfl,by dsimp only;omega,by dsimp only;omega,by dsimp only;omega,by dsimp only;omega,by dsimp only;omega,by dsimp only;omega⟩)⟩)
        refine aB ?_;refine aG rfl (fun h2=>?_) (fun h2=>?_)
        · refine aB ?_
          exact fY (⟨_,[dv ds ((10+3*(i:Int))+1).toNat % 1000000 % ((i+1:Nat):Int)],_,_,_,_⟩,_,_) (hg:=⟨(fun f hf=>by rcases List.mem_singleton.1 hf with rfl;exact f0),.inr (.inr (.inl ⟨h2,rfl,rfl,rfl,by dsimp only;omega,by dsimp only;omega,rfl⟩))⟩)
        refine aB ?_;refine aG rfl (fun h3=>?_) (fun h3=>?_)
        · refine rG ?_
          refine aO 11 ?_;refine eH fun g7=>?_;refine bM ?_;refine pH [12,13,14] ?_;refine aB ?_;refine sY 2 fun A' k'=>?_;dsimp only[List.set];refine aB ?_;exact fY (⟨_,[dv ds ((10+3*(i:Int))+1).toNat % 1000000 % ((i+1:Nat):Int),dv ds ((10+3*(i:Int))+2).toNat % 1000000 % ((i+1:Nat):Int)],_,_,_,_⟩,_,_) (hg:=⟨(fun f hf=>by simp only[List.mem_cons,List.not_mem_nil,or_false] at hf;rcases hf with rfl | rfl;exact f0;exact f1),.inr (.inr (.inr (.inr ⟨h3,rfl,rfl,rfl,rfl,rfl⟩)))⟩)
        · refine aB ?_
          exact fY (⟨_,[dv ds ((10+3*(i:Int))+1).toNat % 1000000 % ((i+1:Nat):Int)],_,_,_,_⟩,_,_) (hg:=⟨(fun f hf=>by rcases List.mem_singleton.1 hf with rfl;exact f0),.inr (.inr (.inr (.inl ⟨by rcases aP6 with h | h | h | h<;>simp_all,rfl,rfl,rfl,rfl,rfl⟩)))⟩)
      obtain⟨cl,Af,cf⟩:=x;dsimp only at hx⊢;refine aB ?_;refine eH fun g7=>?_;refine aB ?_;refine sY 4 fun A' k'=>?_;dsimp only[List.set];refine aB ?_;refine aY [2,3,4,5,6,7] rfl (by decide) (fun _ h=>h) ?_;refine aTI ?_;exact jU ((_,_),(_,_),_) (hg:=⟨by simp[gZ],by omega,Nc.snoc (by rw[gZ];exact hx),by simp⟩)
    · refine aB ?_
      exact fY ((_,_),(_,_),_) (hg:=⟨gZ,Nat.succ_pos i,Nat.succ_le_succ hi8,Nc⟩)
  obtain⟨⟨cs,rows⟩,⟨B,cB⟩,nc⟩:=x;dsimp only at hx⊢;obtain⟨gZ,Ng,hc9,Nc⟩:=hx;refine aB ?_;refine iP 50 3 ?_;refine Gk (α:=(List Dom×List (List Value))×(Option Addr×Nat)×Nat) (fun _=>[(6,pt g4),(4,.slice (some ⟨g2,0,none⟩) 120 120),(2,pt g1)]) (fun x=>[HP.own 50 3 (.slice x.2.1.1 x.2.2 x.2.1.2) x.2.2 x.1.2.flatten,sH cs rows,HP.own 86 6 (.slice B nc cB) nc rows.flatten,HP.aE g4 30 [.slice B nc cB,.slice x.2.1.1 x.2.2 x.2.1.2,sn,sn],HP.aE g2 3 (aK ds),HP.aE g1 30 [sn,sn,sn,sn]]) (fun x=>x.1.1.length=x.2.2∧1≤x.2.2∧x.2.2≤4∧Fits Dom.fit x.1.1∧Rows vF 3 x.1.1 x.1.2) ?_ fun x hx=>?_
  · refine qN (α:=(List Dom×List (List Value))×(Option Addr×Nat)×List Value) (fun i _=>[(11,iv i),(6,pt g4),(4,.slice (some ⟨g2,0,none⟩) 120 120),(2,pt g1)]) (fun i x=>[HP.own 50 3 (.slice x.2.1.1 i x.2.1.2) i x.2.2,sH cs rows,HP.own 86 6 (.slice B nc cB) nc rows.flatten,HP.aE g4 30 [.slice B nc cB,.slice x.2.1.1 i x.2.1.2,sn,sn],HP.aE g2 3 (aK ds),HP.aE g1 30 [sn,sn,sn,sn]]) (fun i x=>x.1.1.length=i∧Fits Dom.fit x.1.1∧Rows vF 3 x.1.1 x.1.2∧x.2.2=x.1.2.flatten) 4 (([],[]),(none,0),[]) ⟨rfl,Fits.nil _,trivial,rfl⟩ fun i x hi hx=>?_
    obtain⟨⟨dm,Bj⟩,⟨D,cD⟩,xs⟩:=x;dsimp only at hx⊢;obtain⟨jA,hdf,Bb,rfl⟩:=hx;refine aB ?_;refine aG rfl (fun h=>?_) (fun h=>?_)
    · refine aB ?_
      refine rG ?_;refine aO 15 ?_;refine bU fun g5=>?_;refine bM ?_;refine pH [16] ?_;refine aD4 ?_;refine oO 0 rfl ?_;dsimp only[List.set];refine aHM ?_;refine gQ ?_;refine Tk (α:=Int) (fun _=>[(12,pt g5),(11,iv i),(6,pt g4),(4,.slice (some ⟨g2,0,none⟩) 120 120),(2,pt g1)]) (fun v=>[HP.aE g5 50 [iv v,iv (dv ds (40+(i:Int)).toNat % 4),.bool (decide (dv ds (40+(i:Int)).toNat % 1000000 / 4 % 2=1))],HP.own 50 3 (.slice D i cD) i Bj.flatten,sH cs rows,HP.own 86 6 (.slice B nc cB) nc rows.flatten,HP.aE g4 30 [.slice B nc cB,.slice D i cD,sn,sn],HP.aE g2 3 (aK ds),HP.aE g1 30 [sn,sn,sn,sn]]) (fun v=>v= -1∨(0≤v∧v < i)) ?_ fun v hv=>?_
      · refine aB ?_
        refine bX (t:=172) rfl (fun hg=>?_) (fun hg=>?_)
        · have f2:=Ic (dv ds (44+(i:Int)).toNat % 1000000 / 3) (n:=(i:Int)) hg
          refine aB ?_;refine aG rfl (fun h3=>?_) (fun h3=>?_)
          · refine aB ?_
            exact fY _ (hg:=.inr f2)
          · refine aB ?_
            exact fY _ (hg:=.inl rfl)
        · refine aB ?_
          exact fY _ (hg:=.inl rfl)
      refine aB ?_;refine eH fun g7=>?_;refine aB ?_;refine sY 2 fun A' k'=>?_;dsimp only[List.set];refine aB ?_;exact jU ((dm++[⟨v,dv ds (40+(i:Int)).toNat % 4,decide (dv ds (40+(i:Int)).toNat % 1000000 / 4 % 2=1)⟩],Bj++[_]),(_,_),_) (hg:=⟨by simp[jA],hdf.snoc ⟨by rw[jA];exact hv,by dsimp only;omega,by dsimp only;omega⟩,Bb.snoc rfl rfl,by simp⟩)
    · refine aB ?_
      exact fY ((_,_),(_,_),_) (hg:=⟨jA,by show 1≤i;omega,hi,hdf,Bb⟩)
  obtain⟨⟨dm,Bj⟩,⟨D,cD⟩,nd⟩:=x;dsimp only at hx⊢;obtain⟨jA,dF,hd4,hdf,Bb⟩:=hx;refine aB ?_;refine iP 88 1 ?_;refine Gk (α:=(List Int×List (List Value))×(Option Addr×Nat)×Nat) (fun _=>[(6,pt g4),(4,.slice (some ⟨g2,0,none⟩) 120 120),(2,pt g1)]) (fun x=>[HP.own 88 1 (.slice x.2.1.1 x.2.2 x.2.1.2) x.2.2 x.1.2.flatten,HP.own 50 3 (.slice D nd cD) nd Bj.flatten,sH cs rows,HP.own 86 6 (.slice B nc cB) nc rows.flatten,HP.aE g4 30 [.slice B nc cB,.slice D nd cD,.slice x.2.1.1 x.2.2 x.2.1.2,sn],HP.aE g2 3 (aK ds),HP.aE g1 30 [sn,sn,sn,sn]]) (fun x=>x.1.1.length=x.2.2∧1≤x.2.2∧x.2.2≤3∧(∀r∈x.1.1,0≤r∧r≤3)∧Rows zH 1 x.1.1 x.1.2) ?_ fun x hx=>?_
  · refine qN (α:=(List Int×List (List Value))×(Option Addr×Nat)×List Value) (fun i _=>[(13,iv i),(6,pt g4),(4,.slice (some ⟨g2,0,none⟩) 120 120),(2,pt g1)]) (fun i x=>[HP.own 88 1 (.slice x.2.1.1 i x.2.1.2) i x.2.2,HP.own 50 3 (.slice D nd cD) nd Bj.flatten,sH cs rows,HP.own 86 6 (.slice B nc cB) nc rows.flatten,HP.aE g4 30 [.slice B nc cB,.slice D nd cD,.slice x.2.1.1 i x.2.1.2,sn],HP.aE g2 3 (aK ds),HP.aE g1 30 [sn,sn,sn,sn]]) (fun i x=>x.1.1.length=i∧(∀r∈x.1.1,0≤r∧r≤3)∧Rows zH 1 x.1.1 x.1.2∧x.2.2=x.1.2.flatten) 3 (([],[]),(none,0),[]) ⟨rfl,by simp,trivial,rfl⟩ fun i x hi hx=>?_
    obtain⟨⟨rs,rrs⟩,⟨L,cL⟩,xs⟩:=x;dsimp only at hx⊢;obtain⟨hrl,yN,cE,rfl⟩:=hx;refine aB ?_;refine aG rfl (fun h=>?_) (fun h=>?_)
    · refine aB ?_
      refine rG ?_;refine aO 9 ?_;refine eH fun g7=>?_;refine bM ?_;refine pH [10,11,12] ?_;refine aB ?_;refine sY 1 fun A' k'=>?_;dsimp only[List.set];refine aB ?_
      exact jU ((rs++[dv ds (50+(i:Int)).toNat % 4],rrs++[_]),(_,_),_) (hg:=⟨by simp[hrl],(fun r hr=>by
        rcases List.mem_append.1 hr with hr | hr
        · exact yN r hr
        · rcases List.mem_singleton.1 hr with rfl
          omega),cE.snoc rfl rfl,by simp⟩)
    · refine aB ?_
      exact fY ((_,_),(_,_),_) (hg:=⟨hrl,by show 1≤i;omega,hi,yN,cE⟩)
  obtain⟨⟨rs,rrs⟩,⟨L,cL⟩,nr⟩:=x;dsimp only at hx⊢;obtain⟨hrl,eI,yO,yN,cE⟩:=hx;refine aB ?_;refine iP 38 6 ?_;refine aKb (p:=Gd [] []) (fun w=>trivial) ?_;refine Gk (α:=(List bL×List (List Value))×(Option Addr×Nat)×Nat) (fun _=>[(6,pt g4),(4,.slice (some ⟨g2,0,none⟩) 120 120),(2,pt g1)]) (fun x=>[Gd x.1.1 x.1.2,HP.own 38 6 (.slice x.2.1.1 x.2.2 x.2.1.2) x.2.2 x.1.2.flatten,HP.own 88 1 (.slice L nr cL) nr rrs.flatten,HP.own 50 3 (.slice D nd cD) nd Bj.flatten,sH cs rows,HP.own 86 6 (.slice B nc cB) nc rows.flatten,HP.aE g4 30 [.slice B nc cB,.slice D nd cD,.slice L nr cL,.slice x.2.1.1 x.2.2 x.2.1.2],HP.aE g2 3 (aK ds),HP.aE g1 30 [sn,sn,sn,sn]]) (fun x=>x.1.1.length=x.2.2∧1≤x.2.2∧x.2.2≤4∧Fits (bL.fit nc nd nr) x.1.1) ?_ fun x hx=>?_
  · refine qN (α := (List bL × List (List Value)) × (Option Addr × Nat) × List Value) (fun i _ => [(14, iv i), (6, pt g4), (4, .slice (some ⟨g2, 0, none⟩) 120 120), (2, pt g1)]) (fun i x => [Gd x.1.1 x.1.2, HP.own 38 6 (.slice x.2.1.1 i x.2.1.2) i x.2.2, HP.own 88 1 (.slice L nr cL) nr rrs.flatten, HP.own 50 3 (.slice D nd cD) nd Bj.flatten, sH cs rows, HP.own 86 6 (.slice B nc cB) nc rows.flatten, HP.aE g4 30 [.slice B nc cB, .slice D nd cD, .slice L nr cL, .slice x.2.1.1 i x.2.1.2], HP.aE g2 3 (aK ds), HP.aE g1 30 [sn, sn, sn, sn]]) (fun i x => x.1.1.length = i ∧ Fits (bL.fit nc nd nr) x.1.1 ∧ x.2.2 = x.1.2.flatten) 4 (([], []), (none, 0), []) ⟨rfl, Fits.nil _, rfl⟩ fun i x hi hx => ?_
    obtain⟨⟨vs,r4⟩,⟨V,cV⟩,xs⟩:=x;dsimp only at hx⊢;obtain⟨hvl,hvf,rfl⟩:=hx;refine aB ?_;refine aG rfl (fun h=>?_) (fun h=>?_)
    · have q0 := Ic (dv ds (60 + 12 * (i : Int)).toNat % 1000000) (n := (nc : Int)) (by omega)
      have q1:=Ic (dv ds (60+12*(i:Int)+1).toNat % 1000000) (n:=(nd:Int)) (by omega)
      have q2:=Ic (dv ds (60+12*(i:Int)+2).toNat % 1000000) (n:=(nr:Int)) (by omega)
      refine aB ?_;refine rG ?_;refine aO 34 ?_;refine bU fun g5=>?_;refine bM ?_;refine pH [35] ?_;refine aB ?_;refine iP 48 2 ?_;refine Gk (α:=List Rg×(Option Addr×Nat)×Nat) (fun _=>[(16,pt g5),(15,iv (60+12*(i:Int))),(14,iv i),(6,pt g4),(4,.slice (some ⟨g2,0,none⟩) 120 120),(2,pt g1)]) (fun x=>[HP.own 48 2 (.slice x.2.1.1 x.2.2 x.2.1.2) x.2.2 (x.1.flatMap Rg.cells),HP.aE g5 38 [iv (dv ds (60+12*(i:Int)).toNat % 1000000 % (nc:Int)),iv (dv ds (60+12*(i:Int)+1).toNat % 1000000 % (nd:Int)),iv (dv ds (60+12*(i:Int)+2).toNat % 1000000 % (nr:Int)),.int .u32 (dv ds (60+12*(i:Int)+3).toNat % 1000000 % 3),.slice x.2.1.1 x.2.2 x.2.1.2,sn],Gd vs r4,HP.own 38 6 (.slice V i cV) i r4.flatten,HP.own 88 1 (.slice L nr cL) nr rrs.flatten,HP.own 50 3 (.slice D nd cD) nd Bj.flatten,sH cs rows,HP.own 86 6 (.slice B nc cB) nc rows.flatten,HP.aE g4 30 [.slice B nc cB,.slice D nd cD,.slice L nr cL,.slice V i cV],HP.aE g2 3 (aK ds),HP.aE g1 30 [sn,sn,sn,sn]]) (fun x=>x.1.length=x.2.2∧x.2.2≤4∧∀r∈x.1,0≤r.reset∧r.reset≤6) ?_ fun x hx=>?_
      · refine qN (α:=List Rg×(Option Addr×Nat)×List Value) (fun j _=>[(17,iv j),(16,pt g5),(15,iv (60+12*(i:Int))),(14,iv i),(6,pt g4),(4,.slice (some ⟨g2,0,none⟩) 120 120),(2,pt g1)]) (fun j x=>[HP.own 48 2 (.slice x.2.1.1 j x.2.1.2) j x.2.2,HP.aE g5 38 [iv (dv ds (60+12*(i:Int)).toNat % 1000000 % (nc:Int)),iv (dv ds (60+12*(i:Int)+1).toNat % 1000000 % (nd:Int)),iv (dv ds (60+12*(i:Int)+2).toNat % 1000000 % (nr:Int)),.int .u32 (dv ds (60+12*(i:Int)+3).toNat % 1000000 % 3),.slice x.2.1.1 j x.2.1.2,sn],Gd vs r4,HP.own 38 6 (.slice V i cV) i r4.flatten,HP.own 88 1 (.slice L nr cL) nr rrs.flatten,HP.own 50 3 (.slice D nd cD) nd Bj.flatten,sH cs rows,HP.own 86 6 (.slice B nc cB) nc rows.flatten,HP.aE g4 30 [.slice B nc cB,.slice D nd cD,.slice L nr cL,.slice V i cV],HP.aE g2 3 (aK ds),HP.aE g1 30 [sn,sn,sn,sn]]) (fun j x=>x.1.length=j∧(∀r∈x.1,0≤r.reset∧r.reset≤6)∧x.2.2=x.1.flatMap Rg.cells) 4 ([],(none,0),[]) ⟨rfl,by simp,rfl⟩ fun j x hj hx=>?_
        obtain⟨rg,⟨W,cW⟩,xs⟩:=x;dsimp only at hx⊢;obtain⟨kL,hgf,rfl⟩:=hx;refine aB ?_;refine aG rfl (fun h5=>?_) (fun h5=>?_)
        · refine aB ?_
          refine rG ?_;refine aO 22 ?_;refine eH fun g7=>?_;refine bM ?_;refine pH [23,24,25] ?_;refine aB ?_;refine sY 1 fun A' k'=>?_;dsimp only[List.set];refine aB ?_
          exact jU (rg++[⟨dv ds (60+12*(i:Int)+5+(j:Int)).toNat % 1000000 % 7,decide (dv ds (60+12*(i:Int)+5+(j:Int)).toNat % 1000000 / 7 % 2=0)⟩],(_,_),_) (hg:=⟨by simp[kL],(fun r hr=>by
            rcases List.mem_append.1 hr with hr | hr
            · exact hgf r hr
            · rcases List.mem_singleton.1 hr with rfl
              dsimp only
              omega),by simp[Rg.cells]⟩)
        · refine aB ?_
          exact fY (_,(_,_),_) (hg:=⟨kL,hj,hgf⟩)
      obtain⟨rg,⟨W,cW⟩,ng⟩:=x;dsimp only at hx⊢;obtain⟨rfl,hg4,hgf⟩:=hx;refine iP 3 1 ?_;refine Tk (α:=(List Int×List Value)×(Option Addr×Nat)×Nat) (fun _=>[(16,pt g5),(15,iv (60+12*(i:Int))),(14,iv i),(6,pt g4),(4,.slice (some ⟨g2,0,none⟩) 120 120),(2,pt g1)]) (fun x=>[HP.own 3 1 (.slice x.2.1.1 x.2.2 x.2.1.2) x.2.2 x.1.2,HP.own 48 2 (.slice W rg.length cW) rg.length (rg.flatMap Rg.cells),HP.aE g5 38 [iv (dv ds (60+12*(i:Int)).toNat % 1000000 % (nc:Int)),iv (dv ds (60+12*(i:Int)+1).toNat % 1000000 % (nd:Int)),iv (dv ds (60+12*(i:Int)+2).toNat % 1000000 % (nr:Int)),.int .u32 (dv ds (60+12*(i:Int)+3).toNat % 1000000 % 3),.slice W rg.length cW,.slice x.2.1.1 x.2.2 x.2.1.2],Gd vs r4,HP.own 38 6 (.slice V i cV) i r4.flatten,HP.own 88 1 (.slice L nr cL) nr rrs.flatten,HP.own 50 3 (.slice D nd cD) nd Bj.flatten,sH cs rows,HP.own 86 6 (.slice B nc cB) nc rows.flatten,HP.aE g4 30 [.slice B nc cB,.slice D nd cD,.slice L nr cL,.slice V i cV],HP.aE g2 3 (aK ds),HP.aE g1 30 [sn,sn,sn,sn]]) (fun x=>x.1.1.length=x.2.2∧x.2.2≤1∧x.1.2=aK x.1.1∧∀f∈x.1.1,0≤f∧f < i) ?_ fun x hx=>?_
      · refine aB ?_
        refine bX (t:=300) rfl (fun hg=>?_) (fun hg=>?_)
        · have f2:=Ic (dv ds (60+12*(i:Int)+10).toNat % 1000000) (n:=(i:Int)) hg
          refine aB ?_;refine aG rfl (fun h3=>?_) (fun h3=>?_)
          · refine rG ?_
            refine aO 9 ?_;refine eH fun g7=>?_;refine bM ?_;refine pH [10,11,12] ?_;refine aB ?_;refine sY 1 fun A' k'=>?_;dsimp only[List.set];refine aB ?_;exact fY (([_],_),(_,_),_) (hg:=⟨rfl,Nat.le_refl _,rfl,fun f hf=>by rcases List.mem_singleton.1 hf with rfl;exact f2⟩)
          · refine aB ?_
            exact fY (([],_),(_,_),_) (hg:=⟨rfl,Nat.zero_le _,rfl,by simp⟩)
        · refine aB ?_
          exact fY (([],_),(_,_),_) (hg:=⟨rfl,Nat.zero_le _,rfl,by simp⟩)
      obtain⟨⟨ns,xs⟩,⟨U,cU⟩,nn⟩:=x;dsimp only at hx⊢;obtain⟨iL,qI,rfl,hnf⟩:=hx;refine Tk (α:=(List Int×List Value)×(Option Addr×Nat)×Nat) (fun _=>[(16,pt g5),(15,iv (60+12*(i:Int))),(14,iv i),(6,pt g4),(4,.slice (some ⟨g2,0,none⟩) 120 120),(2,pt g1)]) (fun x=>[HP.own 3 1 (.slice x.2.1.1 x.2.2 x.2.1.2) x.2.2 x.1.2,HP.own 48 2 (.slice W rg.length cW) rg.length (rg.flatMap Rg.cells),HP.aE g5 38 [iv (dv ds (60+12*(i:Int)).toNat % 1000000 % (nc:Int)),iv (dv ds (60+12*(i:Int)+1).toNat % 1000000 % (nd:Int)),iv (dv ds (60+12*(i:Int)+2).toNat % 1000000 % (nr:Int)),.int .u32 (dv ds (60+12*(i:Int)+3).toNat % 1000000 % 3),.slice W rg.length cW,.slice x.2.1.1 x.2.2 x.2.1.2],Gd vs r4,HP.own 38 6 (.slice V i cV) i r4.flatten,HP.own 88 1 (.slice L nr cL) nr rrs.flatten,HP.own 50 3 (.slice D nd cD) nd Bj.flatten,sH cs rows,HP.own 86 6 (.slice B nc cB) nc rows.flatten,HP.aE g4 30 [.slice B nc cB,.slice D nd cD,.slice L nr cL,.slice V i cV],HP.aE g2 3 (aK ds),HP.aE g1 30 [sn,sn,sn,sn]]) (fun x=>x.1.1.length=x.2.2∧x.2.2≤2∧x.1.2=aK x.1.1∧∀f∈x.1.1,0≤f∧f < i) ?_ fun x hx=>?_
      · refine aB ?_
        refine bX (t:=323) rfl (fun hg=>?_) (fun hg=>?_)
        · have f2:=Ic (dv ds (60+12*(i:Int)+11).toNat % 1000000 / 3) (n:=(i:Int)) (by omega)
          refine aB ?_;refine aG rfl (fun h3=>?_) (fun h3=>?_)
          · refine rG ?_
            refine aO 10 ?_;refine eH fun g7=>?_;refine bM ?_;refine pH [11,12,13] ?_;refine aB ?_;refine sY 1 fun A' k'=>?_;dsimp only[List.set];refine aB ?_
            exact fY ((ns++[dv ds (60+12*(i:Int)+11).toNat % 1000000 / 3 % (i:Int)],_),(_,_),_) (hg:=⟨by simp[iL],by show nn+1≤2;omega,by simp[aK],fun f hf=>by
              rcases List.mem_append.1 hf with hf | hf
              · exact hnf f hf
              · rcases List.mem_singleton.1 hf with rfl
                exact f2⟩)
          · refine aB ?_
            exact fY ((_,_),(_,_),_) (hg:=⟨iL,Nat.le_succ_of_le qI,rfl,hnf⟩)
        · refine aB ?_
          exact fY ((_,_),(_,_),_) (hg:=⟨iL,Nat.le_succ_of_le qI,rfl,hnf⟩)
      obtain⟨⟨ns,xs⟩,⟨U,cU⟩,nn⟩:=x;dsimp only at hx⊢;obtain⟨rfl,hn2,rfl,hnf⟩:=hx;refine aB ?_;refine eH fun g7=>?_;refine aB ?_;refine sY 5 fun A' k'=>?_;dsimp only[List.set];refine aB ?_;refine aY [2,1,4,5,6,7,8,9,10,11,12] rfl (by decide) (fun _ h=>h) ?_;refine aTG (d:=⟨dv ds (60+12*(i:Int)).toNat % 1000000 % (nc:Int),dv ds (60+12*(i:Int)+1).toNat % 1000000 % (nd:Int),dv ds (60+12*(i:Int)+2).toNat % 1000000 % (nr:Int),dv ds (60+12*(i:Int)+3).toNat % 1000000 % 3,rg,ns⟩) ?_;exact jU ((_,_),(_,_),_) (hg:=⟨by simp[hvl],hvf.snoc ⟨q0.1,q0.2,q1.1,q1.2,q2.1,q2.2,by dsimp only;omega,by dsimp only;omega,hg4,hgf,hn2,by rw[hvl];exact hnf⟩,by simp⟩)
    · refine aB ?_
      exact fY ((_,_),(_,_),_) (hg:=⟨hvl,by show 1≤i;omega,hi,hvf⟩)
  obtain⟨⟨vs,r4⟩,⟨V,cV⟩,nv⟩:=x;dsimp only at hx⊢;obtain⟨rfl,Mp,hv4,hvf⟩:=hx;subst gZ;subst jA;subst hrl;refine aB ?_;refine oO 8 rfl ?_;dsimp only[List.set];refine aB ?_;refine aY [8,5,4,3,2,1,0] rfl (by decide) (fun _ h=>h) ?_;refine dO [] [] [0,1,2,3,4,5,6] (by simp) rfl (by decide) (by decide) fun q _ _ hfr=>?_;exact Oj rfl (by kernel_rfl) rfl rfl (aR.whole 0 rfl) fun w1 t=>⟨⟨_,_,⟨w1,q.Z⟩,rfl,rfl,⟨_,_,rfl,⟨⟨cs,dm,rs,vs⟩,(B,cB),(D,cD),(L,cL),(V,cV),rows,Bj,rrs,r4,rfl,⟨Nc,hdf,yN,hvf,⟨Ng,hc9⟩,⟨dF,hd4⟩,⟨eI,yO⟩,⟨Mp,hv4⟩⟩,Bb,cE,rfl⟩⟩,t.newR (by simp) (by simp) (hfr (by simp) (by simp))⟩,t.below (by simp)⟩
theorem aS5(A:Option Addr)(n c:Nat)(zs:List Int)(w:World)(h0:aI (all w) 1 A n (aK zs))(hz:aCo zs)(hn:n=zs.length)(hn2:n≤9223372036854775807):
  Cz 9 #[.slice A n c] w fun x w'=>(∃v,x=.returned v∧∃cs s,v=.agg cs∧wH (fF (fresh w w')) s cs∧s.made)∧Below w.heap.size w w':=
 (aS4 A n c zs w h0 hz hn hn2).mono fun x w' ⟨⟨v,hs,q,h1,h2,⟨p,hs',h3,h4⟩,h5⟩,h6⟩=>⟨⟨v,h1,h4.weak h2 (by subst h3;exact h5.tail)⟩,h6⟩
end
section
section
variable{s:aC}{n:Nat}{m:dQ}
end
section
variable{g f:Nat}{hL:HL}{s:aC}{n:Nat}{m:dQ}{w:World}{F:Nat→Prop}
theorem aO7{t k d r v e:Int}{z':aV}(hs:vN m.z t k d r v=(e,z'))(hp:(nU g f hL s m).sat F w)(hF:∀b,F b→b < w.heap.size):
  Cz 17 #[pt g,iv t,.agg #[.int .u8 k,iv d,iv r,.int .u32 v]] w (Wr (iv e) (nU g f hL s ⟨z',m.y,m.x⟩) w F):=by
 have:=aO8 g f hL s m w F t k d r v hp hF
 unfold dQ.start at this;rw[hs] at this;exact this
theorem eO.aGk(h:eO s n m){t k d r v e:Int}{z':aV}(hs:vN m.z t k d r v=(e,z'))(hv:0≤v∧v < 4294967296):eO s n ⟨z',m.y,m.x⟩:=by
 have:=h.start t k d r v hv
 unfold dQ.start at this;rw[hs] at this;exact this
theorem aAQ{t e v:Int}{b:Bool}{z':aV}(hs:nG m.z t=((e,v,b),z'))(hp:(nU g f hL s m).sat F w)(hF:∀b,F b→b < w.heap.size):
  Cz 23 #[pt g,iv t] w (Wr (.tuple #[.agg #[iv e,.int .u32 v],.bool b]) (nU g f hL s ⟨z',m.y,m.x⟩) w F):=by
 have:=aOA g f hL s m w F t hp hF
 unfold dQ.done at this;rw[hs] at this;exact this
theorem eO.aIV(h:eO s n m){t e v:Int}{b:Bool}{z':aV}(hs:nG m.z t=((e,v,b),z')):eO s n ⟨z',m.y,m.x⟩:=by
 have:=h.done t
 unfold dQ.done at this;rw[hs] at this;exact this
end
end
section
def dQ.qD(s:aC)(t:Int)(m:dQ):dQ:=((m.step s t).eZ s).tick s 0
def sK(s:aC)(t:Int):Nat→dQ→Int→Int→dQ→Prop
 | 0,_,_,_,_=>False
 | N + 1, m, e, u, m' =>
  (∃z,nG (m.step s t).z t=((e,u,true),z)∧m'=⟨z,(m.step s t).y,(m.step s t).x⟩)∨
  (nG (m.step s t).z t=((0,0,false),(m.step s t).z)∧
   ((∃z,nG (m.qD s t).z t=((e,u,true),z)∧m'=⟨z,(m.qD s t).y,(m.qD s t).x⟩)∨(nG (m.qD s t).z t=((0,0,false),(m.qD s t).z)∧sK s t N (m.qD s t) e u m')))
theorem eO.qD{s:aC}{n:Nat}{m:dQ}(hm:s.made)(h:eO s n m)(t:Int):eO s (n+1) (m.qD s t):=((h.step hm t).eZ hm).tick hm 0
def aKs(hL:HL)(f r:Nat)(X:Value):List Value:=[pt hL.h,pt f,pt r,X]
def Tt(g r f:Nat)(hL:HL)(X:Value)(s:aC)(m:dQ):HP:=HP.many [HP.aE g 58 (aKs hL f r X),nU r f hL s m]
theorem aLQ(g r f:Nat)(hL:HL)(X:Value)(s:aC)(n N:Nat)(m m':dQ)(t:Nat)(k d q v e u:Int)(z1:aV)(w:World)(F:Nat→Prop)(hm:s.made)(aW:iU hL s)(hok:eO s n m)(hn:n+1500≤1000000000)(hN:N≤1500)(hv:0≤v∧v < 4294967296)
  (hs:vN m.z t k d q v=(0,z1)) (hrun:sK s t N ⟨z1,m.y,m.x⟩ e u m') (fD:kM ⟨w,fun b=>b < w.heap.size∧¬F b⟩) (hp:(Tt g r f hL X s m).sat F w) (hF:∀b,F b→b < w.heap.size):
  Cz 12 #[pt g,iv t,.agg #[.int .u8 k,iv d,iv q,.int .u32 v]] w (Wr (.tuple #[.agg #[iv e,.int .u32 u],.bool true]) (Tt g r f hL X s m') w F):=by
 refine dK func12 ntmps12 hp hF ?_;refine aB ?_;refine bA fun g5=>?_;refine bU fun g6=>?_;refine aB ?_;refine bF 2 0 ?_;refine bF 3 1 ?_
 have Mz:=hok.aGk hs hv
 refine Om [1,2,3,5] ?_;refine bP 0 ?_ (hsub:=fun _ h=>h.cR);refine aJ 1 ?_ (hsub:=fun _ h=>h.cR);refine aJ 2 ?_ (hsub:=fun _ h=>h.cR);refine aJ 3 ?_ (hsub:=fun _ h=>h.cR);refine bP 4 ?_ (hsub:=fun _ h=>h.cR);refine aJ 5 ?_ (hsub:=fun _ h=>h.cR);refine aO 6 ?_;refine dZ 0 (nU r f hL s ⟨z1,m.y,m.x⟩) (fun w1 F1 t h1 h2 h3=>aO7 hs h1 h2) ?_;refine bM ?_ (hS:=fun _ h=>h.cR);refine pH [7] ?_;refine aB ?_;refine qN (α:=dQ) (fun i _=>[(8,iv i),(7,.bool false),(6,pt g6),(1,iv t),(0,pt g)]) (fun _ m=>[nU r f hL s m,HP.aE g 58 (aKs hL f r X),HP.aE g6 42 [iv 0,.int .u32 0],HP.many [cH,cH]]) (fun i m=>eO s (n+i) m∧∃N,i+N≤1500∧sK s t N m e u m') 1500 ⟨z1,m.y,m.x⟩ ⟨Mz,N,by omega,hrun⟩ fun i m hi hx=>?_;obtain⟨hok,N,hiN,hrun⟩:=hx;cases N with
 | zero=>exact hrun.elim
 | succ N =>
  refine aB ?_;refine aG rfl (fun hlt=>?_) (fun hge=>absurd (by omega) hge);refine aB ?_;refine dZ 0 (nU r f hL s (m.step s t)) (fun w1 F1 t' h1 h2 h3=>aO6 r f hL s (n+i) m w1 F1 hm aW hok (by omega) t h1 h2 (kM.le fD (h3 _ (by simp)))) ?_
  have mQ:=hok.step hm t
  refine aB ?_;rcases hrun with⟨z,hd,rfl⟩ | ⟨hd,Jv⟩
  ·refine dZ 0 (nU r f hL s ⟨z,(m.step s t).y,(m.step s t).x⟩) (fun w1 F1 t' h1 h2 h3=>aAQ hd h1 h2) ?_;refine aB ?_;refine bU fun g9=>?_;refine aB ?_;refine aY [1,2,4,3] rfl (by decide) (fun _ h=>h) ?_;refine aP 1 1 ?_;refine aP 0 0 ?_;exact xM (vs:=[iv e,.int .u32 u]) rfl (by kernel_rfl) rfl rfl (aR.whole 1 rfl) rfl fun w1 t=>⟨rfl,t.turns hF (by simp) (i:=0) rfl⟩
  refine dZ 0 (nU r f hL s (m.step s t)) (fun w1 F1 t' h1 h2 h3=>aAQ hd h1 h2) ?_;refine aB ?_;refine bU fun g9=>?_;refine aB ?_;refine dZ 1 (nU r f hL s ((m.step s t).eZ s)) (fun w1 F1 t' h1 h2 h3=>aO9 r f hL s (n+i+1) (m.step s t) w1 F1 hm aW mQ h1 h2 (kM.le fD (h3 _ (by simp)))) ?_
  have Ka:=mQ.eZ hm
  have nD:=Ka.hw.dv
  have Fm:(oK s ((m.step s t).eZ s).x 0).2.length≤1000:=Nat.le_trans (aEJ (s:=s) (x:=((m.step s t).eZ s).x) s.aD.length) (by have:=hm.nv;omega)
  refine aB ?_;refine aY [1,2,3,4] rfl (by decide) (fun _ h=>h) ?_;refine Om [1,2,3,5,6,7] ?_;refine bP 0 ?_ (hsub:=fun _ h=>h.cR);refine aJ 1 ?_ (hsub:=fun _ h=>h.cR);refine aJ 2 ?_ (hsub:=fun _ h=>h.cR);refine aJ 3 ?_ (hsub:=fun _ h=>h.cR);refine bP 4 ?_ (hsub:=fun _ h=>h.cR);refine aJ 5 ?_ (hsub:=fun _ h=>h.cR);refine aJ 6 ?_ (hsub:=fun _ h=>h.cR);refine aJ 7 ?_ (hsub:=fun _ h=>h.cR);refine aO 8 ?_;refine zT (α:=Option Addr×Nat) 0 (f:=22) (fi:=[]) (ca:=[]) (fun a=>.slice a.1 (oK s ((m.step s t).eZ s).x 0).2.length a.2) (fun a=>aFd r f hL s ⟨((m.step s t).eZ s).z,((m.step s t).eZ s).y,(oK s ((m.step s t).eZ s).x 0).1⟩ (oK s ((m.step s t).eZ s).x 0).2 a) (fun _=>True) (by kernel_rfl) rfl rfl rfl (by decide) (fun w1 F1 t' h1 h2 h3=>by simpa using aO5 r f hL s (n+i+1) ((m.step s t).eZ s) w1 F1 hm aW Ka 0 (by decide) h1 h2) fun aa _=>?_;dsimp only[List.set];refine bM ?_ (hS:=fun _ h=>h.cR);refine aO 9 ?_;refine dZ 0 (nU r f hL s (m.qD s t)) (fun w1 F1 t' h1 h2 h3=>aOB r f hL s ⟨((m.step s t).eZ s).z,((m.step s t).eZ s).y,(oK s ((m.step s t).eZ s).x 0).1⟩ w1 F1 Ka.yJ _ Fm aa h1 h2) ?_;refine bM ?_ (hS:=fun _ h=>h.cR);refine fJ ?_
  have aPz:eO s (n+i+1) (m.qD s t):=Ka.tick hm 0
  refine aB ?_;rcases Jv with⟨z,hd',rfl⟩ | ⟨hd',hrun⟩
  ·refine dZ 0 (nU r f hL s ⟨z,(m.qD s t).y,(m.qD s t).x⟩) (fun w1 F1 t' h1 h2 h3=>aAQ hd' h1 h2) ?_;refine aB ?_;refine bU fun g9=>?_;refine aB ?_;refine aY [1,2,4,3] rfl (by decide) (fun _ h=>h) ?_;refine aP 1 1 ?_;refine aP 0 0 ?_;exact xM (vs:=[iv e,.int .u32 u]) rfl (by kernel_rfl) rfl rfl (aR.whole 1 rfl) rfl fun w1 t=>⟨rfl,t.turns hF (by simp) (i:=0) rfl⟩
  refine dZ 0 (nU r f hL s (m.qD s t)) (fun w1 F1 t' h1 h2 h3=>aAQ hd' h1 h2) ?_;refine aB ?_;refine bU fun g9=>?_;refine aB ?_;exact jU (m.qD s t) (hg:=⟨aPz,N,by omega,hrun⟩)
end
section
section
variable{s:aC}{X:bJ}{x:aM}
theorem aSd{x y:bJ}{wt:List Int}{ag:Nat}{l:List Int}(h:∀i:Nat,(wt[i]?).getD 0≤0):jH s x y wt ag l=jH s x y [] ag l:=by
 unfold jH;rw[aEC (fun i _=>by unfold Dv;rw[show decide (0 < (wt[i]?).getD 0)=false from decide_eq_false (by have:=h i;omega)];rfl),aBF]
theorem aLk(h:∀i,iH x.wt i=0)(i:Nat):((mB s x)[i]?).getD 0≤0:=by
 unfold mB;rw[List.getElem?_map];cases(List.range s.aD.length)[i]? with
 | none=>simp
 | some j=>simp[h j]
theorem Ec.stp{p:cY}(h:Ec s X p):Ov p∧(p.msg=4∨p.msg=7):=by
 rcases h with⟨i,rfl,_⟩ | ⟨i,rfl,_⟩ | ⟨i,rfl,_⟩ | ⟨i,rfl,_⟩ | ⟨i,rfl,_⟩<;>simp[Ov]
theorem aG0{J:aM→Prop}{k id:Int}(hT:∀x,J x→J (fW s x 0))(hA:∀x,J x→J (mJ s x k id).1):∀(n:Nat) {x x':aM},wJ s k id n x x'→J x→J x'
 | 0,_,_,h,_=>h.elim
 | n+1,x,x',⟨_,.inl h⟩,hx=>by
  have:=hA x hx
  rwa [h] at this
 | n+1,x,x',⟨_,.inr ⟨x1,h1,_,_,h4⟩⟩,hx=>by
  have:=hA x hx
  rw[h1] at this;exact aG0 hT hA n h4 (hT _ this)
def aCf(s:aC)(A:List cY)(x x':aM):Prop:=∀J:aM→Prop,(∀x,J x→J (fW s x 0))→(∀p∈A,∀x,J x→J (mJ s x (qY p) p.id).1)→J x→J x'
theorem Ec.msg(hm:s.made){p:cY}(hg:Ec s X p)(hi:Inv s X none none none x){k l k0 i0:Int}(h0:0≤k)(h1:k < 1024)(hl:l=0∨l=1):
  ∃(N:Nat) (k' i':Int) (x':aM),N≤9∧Tq s N (Cg s X l k0 i0 (qB p k)) x [(qB p k).headD 0,IntKind.u32.wrap 0] (rN s (gP X p) 0 k' i') x'∧Inv s (gP X p) none none none x'∧aCf s [p] x x':=by
 have wA:=hg.goes hm hi.of
 obtain⟨hsp,aP4⟩:=hg.stp;obtain⟨e1,e2,e3,e4,e5⟩:=aDS hsp h0 h1;obtain⟨f1,f2,f3,f4,f5⟩:=aDS hsp (k:=0) (by decide) (by decide)
 have hd:aFn p.msg p.pr k:=⟨e1,by unfold uM;rw[e2];rfl,by unfold Fu;rw[e2,e4];rfl,by unfold eC;rw[e2,e5];rfl,by unfold eM;rw[e2,e3];rfl,e2,e5,e3⟩
 have hf:aFn p.msg p.pr 0:=⟨f1,by unfold uM;rw[f2];rfl,by unfold Fu;rw[f2,f4];rfl,by unfold eC;rw[f2,f5];rfl,by unfold eM;rw[f2,f3];rfl,f2,f5,f3⟩
 have hp:Plain (qB p k):=aNW hd aP4 wA.id wA.v
 have hread:dX s (qB p k)=dX s [(dY p.msg 0 p.pr 0).1,p.id,p.v]:=by
  unfold dX qB;dsimp only;rw[hd.un,hd.ty,hd.pr,hd.ms,hf.un,hf.ty,hf.pr,hf.ms]
 have aDU:jH s X (dP s) (mB s x) 0 (qB p k)=(0,qY p,p.id):=by
  rw[aSd (aLk hi.wt),←wA.dec];unfold jH;rw[hread];rfl
 obtain⟨N,x',hN,hr,hi',hk⟩:=hg.run hm hi
 have hX:(jY X 0 (qY p) p.id).of s:=by rw[wA.done];exact hi'.of
 cases N with
 | zero=>exact hr.elim
 | succ n=>
  have h2:=aGp hm (X:=jY X 0 (qY p) p.id) hX hp hk _ hr
  rw[wA.done] at h2;refine⟨n+1,qY p,p.id,x',hN,aLP hm hi.of hp hl hi.ok aDU wA.kind hk ?_,hi',fun J hT hA hx=>aG0 hT (hA p (by simp)) _ hr hx⟩;rw[wA.done];exact h2
end
section
variable{s:aC}{j:Nat}{z:aV}{x:aM}{y:bZ}
theorem aHu(h:∀i,iH x.wt i=0)(i:Nat):(x.wt[i]?).join=none:=by
 have:=h i
 unfold iH at this;cases hq:(x.wt[i]?).join with
 | none=>rfl
 | some t=>rw[hq] at this;simp at this
theorem aLx(h:∀i,iH x.wt i=0):oK s x 0=(fW s x 0,[]):=by
 unfold oK;rw[aBM _ fun k _=>aHu h k]
theorem aHG(h:∀i,iH x.wt i=0):(dQ.mk z y x).tick s 0=⟨z,y,fW s x 0⟩:=by
 unfold dQ.tick;dsimp only;rw[aLx h];rfl
theorem aGN{X:bJ}{l k i:Int}(hl:l=0∨l=1):kZ s x (rN s X l k i)=(rN s X l k i,x):=by
 have hn:sW (rN s X l k i)=none:=by rcases hl with rfl | rfl<;>rfl
 have ht:mT s x (rN s X l k i)=(rN s X l k i,false):=by unfold mT;rw[hn]
 unfold kZ;dsimp only;rw[ht,if_pos ⟨by show(-1:Int) < 0;decide,rfl⟩]
def rT(z:aV)(j:Nat)(k:Int):aV:={z.jP j {z.tk j with st:=0,kind:=0,dev:=0,bT:=0,val:=0,err:=0,res:=0} with eX:= -1,steps:=[],sent:=false,aQ:=false,many:=k}
structure Pk(z:aV)(j:Nat):Prop where
 t3:T3 j
 eX:z.eX=(j:Int)
 st:(z.tk j).st=2
 po:z.aQ=false
def lN(z:aV)(L:List cY)(b:Bool)(k:Int):aV:={z with steps:=L,sent:=b,many:=k}
theorem aFM(L:List cY)(b:Bool)(k:Int):(lN z L b k).tk j=z.tk j:=by
 unfold lN aV.tk;split<;>rfl
theorem aAt(hj:T3 j)(L:List cY)(b:Bool)(k e r:Int):nG (kD (lN z L b k) j e r) j=((e,r,true),rT z j k):=by
 rcases hj with rfl | rfl | rfl<;>rfl
theorem Lw(h:Pk z j)(L:List cY)(b:Bool)(k:Int):nG (lN z L b k) j=((0,0,false),lN z L b k):=by
 unfold nG;rw[if_neg (by rcases h.t3 with rfl | rfl | rfl<;>decide),Int.toNat_natCast,aFM,h.st,if_pos (by decide)]
theorem aC4(h:Pk z j)(L:List cY)(b:Bool)(k:Int):(dQ.mk (lN z L b k) y x).step s j=⟨(qM (lN z L b k) y j).1,(qM (lN z L b k) y j).2,x⟩:=by
 unfold dQ.step Et;dsimp only;rw[if_neg (by rcases h.t3 with rfl | rfl | rfl<;>decide),Int.toNat_natCast,aFM,h.st,if_neg (by decide),if_pos rfl,if_pos (show(lN z L b k).aQ=false from h.po)]
theorem sK.mono{t:Int}:∀{N N':Nat} {m m':dQ} {e u:Int},sK s t N m e u m'→N≤N'→sK s t N' m e u m'
 | 0,_,_,_,_,_,h,_=>h.elim
 | _+1,0,_,_,_,_,_,hN=>absurd hN (by omega)
 | N+1,N'+1,_,_,_,_,h,hN=>by
  rcases h with h | ⟨h1,h | ⟨h2,h3⟩⟩
  ·exact .inl h
  ·exact .inr ⟨h1,.inl h⟩
  ·exact .inr ⟨h1,.inr ⟨h2,h3.mono (by omega)⟩⟩
theorem aCN(h:Pk z j){L:List cY}{k:Int}{a:List Int}{z':bZ}{x':aM}{B:Nat}{e u:Int}{m':dQ}(aHQ:∀i,iH x'.wt i=0)(xC:∀y',oM y' 0=some a→oL y' 0=z'→sK s j B ⟨lN z L true k,y',fW s x' 0⟩ e u m'):
  ∀(N:Nat) {m:dQ} {y:bZ} {x:aM},m.step s j=⟨lN z L true k,y,x⟩→Tq s N y x a z' x'→sK s j (N+B) m e u m'
 | 0,_,_,_,_,hr=>hr.elim
 | N + 1, m, y, x, hs, ⟨_, hr⟩ => by
  have hrnd:∀i,(∀i,iH (kZ s x y).2.wt i=0)→m.qD s j=i→i=⟨lN z L true k,(kZ s x y).1,fW s (kZ s x y).2 0⟩:=fun i hw hi=>by
   rw[←hi];unfold dQ.qD;rw[hs];exact aHG hw
  rw[show N+1+B=(N+B)+1 by omega];refine .inr ⟨by rw[hs];exact Lw h _ _ _,.inr ?_⟩;rcases hr with⟨h1,h2,h3⟩ | ⟨h1,_,h2,h3⟩
  ·have hh:=(xC _ h1 h2.symm).mono (show B≤N+B by omega)
   rw[hrnd _ (h3▸aHQ) rfl];exact⟨Lw h _ _ _,by rw[←h3];exact hh⟩
  ·rw[hrnd _ h2 rfl];refine⟨Lw h _ _ _,aCN h aHQ xC N ?_ h3⟩;rw[aC4 h];unfold qM;rw[if_pos (show(lN z L true k).sent=true from rfl),h1]
def aCp(s:aC):bJ→List cY→Prop
 | _,[]=>True
 | X,p::r=>Ec s X p∧aCp s (gP X p) r
theorem aI0:∀(L:List cY) (X:bJ),(∀k p,L[k]? =some p→Ec s ((L.take k).foldl gP X) p)→aCp s X L
 | [],_,_=>trivial
 | p::r,X,h=>⟨h 0 p rfl,aI0 r _ fun k q hq=>h (k+1) q hq⟩
theorem aGe(h:Pk z j){p:cY}{L:List cY}{k v:Int}{y1:bZ}(hy:oM y 0=some [v,IntKind.u32.wrap 0])(hz:oL y 0=y1):
  (dQ.mk (lN z (p::L) true k) y x).step s j=⟨if L.length=0 then kD (lN z L false k) j 0 0 else lN z L false k,y1,x⟩:=by
 have ht:sQ (lN z (p::L) true k) [v,IntKind.u32.wrap 0]=lN z L false k:=by
  unfold sQ;rw[if_pos (.inl (by rw[List.getD_cons_succ,List.getD_cons_zero];decide))];rfl
 rw[aC4 h];unfold qM;rw[if_pos (show(lN z (p::L) true k).sent=true from rfl),hy];dsimp only;rw[ht,hz];rfl
theorem aGx(h:Pk z j){p:cY}{L:List cY}{X:bJ}{k l k0 i0:Int}:(dQ.mk (lN z (p::L) false k) (rN s X l k0 i0) x).step s j=⟨lN z (p::L) true ((k+1) % 1024),Cg s X l k0 i0 (qB p k),x⟩:=by
 rw[aC4 h];unfold qM;rw[if_neg (show ¬(lN z (p::L) false k).sent=true by simp[lN])]
 show(⟨(if(nX (rN s X l k0 i0) 0 (qB p k)).1=0 then _ else _:aV×bZ).1,_,x⟩:dQ)=_
 rw[aKI];rfl
theorem aAD{m:dQ}{X:bJ}{l k0 i0:Int}(hl:l=0∨l=1)(hw:∀i,iH x.wt i=0)(hs:m.step s j=⟨z,rN s X l k0 i0,x⟩):m.qD s j=⟨z,rN s X l k0 i0,fW s x 0⟩:=by
 unfold dQ.qD;rw[hs];unfold dQ.eZ;dsimp only;rw[aGN hl];exact aHG hw
theorem aLB(hm:s.made)(h:Pk z j):∀(L:List cY) (p:cY) (X:bJ) (k l k0 i0:Int) (x:aM),aCp s X (p::L)→Inv s X none none none x→0≤k→k < 1024→(l=0∨l=1)→
  ∃(k' k1 i1:Int) (x':aM),sK s j (10*(L.length+1)) ⟨lN z (p::L) false k,rN s X l k0 i0,x⟩ 0 0 ⟨rT z j k',rN s ((p::L).foldl gP X) 0 k1 i1,x'⟩∧Inv s ((p::L).foldl gP X) none none none x'∧0≤k'∧k' < 1024∧aCf s (p::L) x x':=by
 intro L
 induction L with
 | nil=>
  intro p X k l k0 i0 x hg hi h0 h1 hl;obtain⟨N,k1,i1,x1,hN,hr,hi1,hth⟩:=hg.1.msg hm hi (k0:=k0) (i0:=i0) h0 h1 hl;refine⟨(k+1) % 1024,k1,i1,fW s x1 0,(aCN h (B:=1) hi1.wt (fun y' hy hz=>?_) N (aGx h) hr).mono (show N+1≤10*(([]:List cY).length+1) by simp;omega),hi1.tick hm,by omega,by omega,fun J hT hA hx=>hT _ (hth J hT (fun q hq=>hA q (by simpa using hq)) hx)⟩
  have hst:=aGe (s:=s) (x:=fW s x1 0) h (p:=p) (L:=[]) (k:=(k+1) % 1024) hy hz
  exact .inl ⟨rT z j ((k+1) % 1024),by rw[hst];exact aAt h.t3 _ _ _ _ _,by rw[hst];rfl⟩
 | cons q L ih =>
  intro p X k l k0 i0 x hg hi h0 h1 hl;obtain⟨N,k1,i1,x1,hN,hr,hi1,hth⟩:=hg.1.msg hm hi (k0:=k0) (i0:=i0) h0 h1 hl
  have hi2:=hi1.tick hm
  obtain⟨k',k2,i2,x',r1,r2,r3,r4,r5⟩:=ih q (gP X p) ((k+1) % 1024) 0 k1 i1 (fW s (fW s x1 0) 0) hg.2 (hi2.tick hm) (by omega) (by omega) (.inl rfl);refine⟨k',k2,i2,x',(aCN h (B:=1+10*(L.length+1)) hi1.wt (fun y' hy hz=>?_) N (aGx h) hr).mono (by simp only[List.length_cons];omega),r2,r3,r4,fun J hT hA hx=>r5 J hT (fun q hq=>hA q (List.mem_cons_of_mem _ hq)) (hT _ (hT _ (hth J hT (fun q hq=>hA q (by rw[List.mem_singleton] at hq;subst hq;simp)) hx)))⟩
  have hst:=aGe (s:=s) (x:=fW s x1 0) h (p:=p) (L:=q::L) (k:=(k+1) % 1024) hy hz
  rw[if_neg (by simp)] at hst;rw[Nat.add_comm];refine .inr ⟨by rw[hst];exact Lw h _ _ _,.inr ⟨?_,?_⟩⟩
  ·rw[aAD (.inl rfl) hi2.wt hst];exact Lw h _ _ _
  ·rw[aAD (.inl rfl) hi2.wt hst];exact r1
end
end
section
structure pI(s:aC)(m:dQ):Prop where
 tk:∀j,T3 j→(m.z.tk j).st=0
 eX:m.z.eX= -1
 steps:m.z.steps=[]
 sent:m.z.sent=false
 po:m.z.aQ=false
 y:∃l k i:Int,(l=0∨l=1)∧m.y=rN s m.z.wn l k i
 inv:Inv s m.z.wn none none none m.x
 cl:m.z.wn.cl s
 many:0≤m.z.many∧m.z.many < 1024
 wd:m.z.wn.d=(eT s (eK s m.z.cn)).d
 wc:m.z.wn.c=(eT s (eK s m.z.cn)).c
 wl:∀i,hasB (eT s (eK s m.z.cn)).l i=true→hasB m.z.wn.l i=true
section
variable{s:aC}{m:dQ}{j:Nat}{k d q v:Int}
theorem aNT(a b:List Bool)(n:Nat):(vP a b n).length=b.length:=by simp[vP]
theorem aHr{a b:List Bool}{n i:Nat}(hb:b.length=n)(hi:i < n):hasB (vP a b n) i=(hasB b i||hasB a i):=by
 unfold vP;rw[Fs,List.getElem?_mapIdx,Fs b,List.getElem?_eq_getElem (show i < b.length by omega)];simp[hi]
theorem aCA(hm:s.made)(z:aV):(kI s z).cl s:=by
 have h:=aFP hm (eK s z.cn) s.aD.length
 exact⟨⟨h.of.d,h.of.c,by show(vP _ _ _).length=_;rw[aNT];exact h.of.l⟩,h.up,h.ch,h.sw⟩
theorem aFQ(z:aV)(hz:z.wn.of s)(i:Nat)(h:hasB z.wn.l i=true):hasB (kI s z).l i=true:=by
 have hi:=Rw h
 rw[hz.l] at hi
 show hasB (vP _ _ _) i=true
 rw[aHr (b:=(eT s (eK s z.cn)).l) (En s _ _).l hi,h];simp
theorem aLf(z:aV)(i:Nat)(h:hasB (eT s (eK s z.cn)).l i=true):hasB (kI s z).l i=true:=by
 have hi:=Rw h
 have hl:(eT s (eK s z.cn)).l.length=s.aT.length:=(En s _ _).l
 rw[hl] at hi
 show hasB (vP _ _ _) i=true
 rw[aHr hl hi,h];rfl
def oJ(z:aV)(j:Nat)(k d q v:Int):aV:=z.jP j {z.tk j with st:=1,kind:=k,dev:=d,bT:=q,val:=v}
theorem aGj(h:pI s m)(hj:T3 j)(hk:sZ k):vN m.z j k d q v=(0,oJ m.z j k d q v):=by
 unfold vN;rw[if_neg (by rcases hj with rfl | rfl | rfl<;>decide),Int.toNat_natCast,h.tk j hj,if_neg (by decide),if_neg (fun hn=>hn hk)];rfl
def eS(z:aV)(j:Nat)(k d q v:Int):aV:=kB (oJ z j k d q v) j
theorem aCs(hj:T3 j)(z:aV):(eS z j k d q v).tk j={z.tk j with st:=2,kind:=k,dev:=d,bT:=q,val:=v}:=by
 rcases hj with rfl | rfl | rfl<;>rfl
theorem aBK(h:pI s m)(hj:T3 j):(dQ.mk (oJ m.z j k d q v) m.y m.x).step s j=⟨(pF s m.x (oJ m.z j k d q v) j).1,m.y,(pF s m.x (oJ m.z j k d q v) j).2⟩:=by
 have hst:((oJ m.z j k d q v).tk j).st=1:=by rcases hj with rfl | rfl | rfl<;>rfl
 unfold dQ.step Et;dsimp only;rw[if_neg (by rcases hj with rfl | rfl | rfl<;>decide),Int.toNat_natCast,hst,if_pos rfl,if_pos (show(oJ m.z j k d q v).eX < 0 by show m.z.eX < 0;rw[h.eX];decide)]
theorem aMg(h:pI s m)(hj:T3 j){e:Int}(he:e≠0)(hr:qK s m.x (eS m.z j k d q v) j k=(e,eS m.z j k d q v,m.x)):
  sK s j 1 ⟨oJ m.z j k d q v,m.y,m.x⟩ e 0 ⟨rT (eS m.z j k d q v) j m.z.many,m.y,m.x⟩:=by
 have hk:((oJ m.z j k d q v).tk j).kind=k:=by rcases hj with rfl | rfl | rfl<;>rfl
 have hb:pF s m.x (oJ m.z j k d q v) j=(kD (eS m.z j k d q v) j e 0,m.x):=by
  unfold pF;dsimp only;rw[hk,show kB (oJ m.z j k d q v) j=eS m.z j k d q v from rfl,hr,if_pos he]
 have hw:eS m.z j k d q v=lN (eS m.z j k d q v) (eS m.z j k d q v).steps (eS m.z j k d q v).sent m.z.many:=rfl
 refine .inl ⟨rT (eS m.z j k d q v) j m.z.many,?_,?_⟩
 ·rw[aBK h hj,hb];dsimp only;rw[hw];exact aAt hj _ _ _ _ _
 ·rw[aBK h hj,hb]
theorem aLW(hm:s.made)(h:pI s m)(hj:T3 j){z2:aV}(hr:qK s m.x (eS m.z j k d q v) j k=(0,lO s z2,m.x))(hwn:z2.wn=m.z.wn)(lU:z2.aQ=false)(aBj:z2.many=m.z.many)(aDO:z2.eX=(j:Int))(hst:(z2.tk j).st=2):
  ∃(k' l' k1 i1:Int) (x':aM),sK s j 400 ⟨oJ m.z j k d q v,m.y,m.x⟩ 0 0 ⟨rT (lO s z2) j k',rN s (kI s z2) l' k1 i1,x'⟩∧(l'=0∨l'=1)∧Inv s (kI s z2) none none none x'∧0≤k'∧k' < 1024∧aCf s (allM s z2.wn (kI s z2)) m.x x':=by
 have hk:((oJ m.z j k d q v).tk j).kind=k:=by rcases hj with rfl | rfl | rfl<;>rfl
 obtain⟨l,k0,i0,hl,hy⟩:=h.y
 have hL:(allM s z2.wn (kI s z2)).foldl gP m.z.wn=kI s z2:=by
  rw[hwn];exact aQE h.cl.of (aCA hm z2).of
 have aPk:(lO s z2).steps=allM s z2.wn (kI s z2):=rfl
 have Nh:=aBK (k:=k) (d:=d) (q:=q) (v:=v) h hj
 have hb:pF s m.x (oJ m.z j k d q v) j=if(allM s z2.wn (kI s z2)).length=0 then(kD (lO s z2) j 0 0,m.x) else(lO s z2,m.x):=by
  unfold pF;dsimp only;rw[hk,show kB (oJ m.z j k d q v) j=eS m.z j k d q v from rfl,hr,if_neg (by simp)];dsimp only;rw[aPk]
  by_cases h0:(allM s z2.wn (kI s z2)).length=0
  ·rw[if_pos h0,if_pos ⟨lU,h0⟩]
  ·rw[if_neg h0,if_neg (fun hh=>h0 hh.2)]
 have fK:Pk (lO s z2) j:=⟨hj,aDO,by
  have:(lO s z2).tk j=z2.tk j:=by rcases hj with rfl | rfl | rfl<;>rfl
  rw[this];exact hst,lU⟩
 cases hc:allM s z2.wn (kI s z2) with
 | nil =>
  rw[hc] at hb hL;rw[if_pos (show([]:List cY).length=0 from rfl)] at hb
  have hw:lO s z2=lN (lO s z2) (lO s z2).steps (lO s z2).sent z2.many:=rfl
  have he:m.z.wn=kI s z2:=hL
  refine⟨m.z.many,l,k0,i0,m.x,sK.mono (N:=1) (.inl ⟨rT (lO s z2) j m.z.many,?_,?_⟩) (by omega),hl,he▸h.inv,h.many.1,h.many.2,fun _ _ _ h=>h⟩
  ·rw[Nh,hb];dsimp only;rw[hw,aBj];exact aAt hj _ _ _ _ _
  ·rw[Nh,hb,←he,←hy]
 | cons p L =>
  have hlen:=aTt hm z2.wn (kI s z2)
  rw[hc] at hb hL hlen;rw[if_neg (by simp)] at hb
  have hw:lO s z2=lN (lO s z2) (p::L) false m.z.many:=by
   unfold lN;rw[←hc,←aBj];rfl
  have hi1:=h.inv.tick hm
  have aPA:aCp s m.z.wn (p::L):=by
   rw[←hc,hwn];exact aI0 _ _ fun t p' hp'=>aTu hm h.cl (aCA hm z2) (fun i hi=>aFQ z2 (hwn▸h.cl.of) i (hwn▸hi)) hp'
  obtain⟨k',k1,i1,x',r1,r2,r3,r4,r5⟩:=aLB hm fK L p m.z.wn m.z.many l k0 i0 (fW s m.x 0) aPA hi1 h.many.1 h.many.2 hl;rw[hL] at r1 r2;simp only[List.length_cons] at hlen
  have hs:(dQ.mk (oJ m.z j k d q v) m.y m.x).step s j=⟨lN (lO s z2) (p::L) false m.z.many,rN s m.z.wn l k0 i0,m.x⟩:=by
   rw[Nh,hb,←hy,←hw]
  refine⟨k',0,k1,i1,x',sK.mono (N:=10*(L.length+1)+1) (.inr ⟨?_,.inr ⟨?_,?_⟩⟩) (by omega),.inl rfl,r2,r3,r4,fun J hT hA hx=>r5 J hT hA (hT _ hx)⟩
  ·rw[hs];exact Lw fK _ _ _
  ·rw[aAD hl h.inv.wt hs];exact Lw fK _ _ _
  ·rw[aAD hl h.inv.wt hs];exact r1
theorem Inv.acc{X:bJ}{x:aM}(hi:Inv s X none none none x){dn:Nat}{dd:bL}{p:bR×dB}(hd:s.aD[dn]? =some dd)(hp:x.dv[dn]? =some p){t:jD}(ht:0≤t.val∧t.val < 4294967296){ws:List (Option jD)}(hws:ws.length=s.aD.length)(hw:∀i,iH ws i=0)(po:Int):
  Inv s X none none none {x with wt:=ws,dv:=x.dv.set dn (uL p t),aQ:=po}:=by
 have hlp:=(List.getElem?_eq_some_iff.1 hp).1
 have h2:(uL p t).2=p.2:=by unfold uL;split<;>rfl
 refine⟨⟨hi.ok.ck,hi.ok.dm,hi.ok.ln,by simp[hi.ok.dv],fun i d p' hd' hp'=>?_,hws⟩,hw,hi.of,hi.dom,hi.jK,hi.sG,hi.Ab,hi.tO,fun i p' d hp' hd'=>?_⟩
 ·dsimp only at hp';rw[List.getElem?_set] at hp'
  by_cases h:dn=i
  ·subst h;rw[if_pos rfl,if_pos hlp] at hp';cases hp'
   have:=hi.ok.each dn d p hd' hp
   exact⟨aCz this.1 ht,h2▸this.2⟩
  ·rw[if_neg h] at hp';exact hi.ok.each i d p' hd' hp'
 ·dsimp only at hp';rw[List.getElem?_set] at hp'
  by_cases h:dn=i
  ·subst h;rw[if_pos rfl,if_pos hlp] at hp';cases hp';rw[h2];exact hi.qX dn p d hp hd'
  ·rw[if_neg h] at hp';exact hi.qX i p' d hp' hd'
def Zh(s:aC)(x:aM)(dn:Nat)(p:bR×dB)(wr:Bool)(q v:Int):aM:=fW s {x with wt:=(x.wt.set dn (some ⟨x.aQ,wr,q,v⟩)).set dn none,dv:=x.dv.set dn (uL p ⟨x.aQ,wr,q,v⟩),aQ:=x.aQ+1} 0
theorem aMn(hm:s.made)(h:pI s m)(hj:T3 j){dn:Nat}{dd:bL}{p:bR×dB}{wr:Bool}(hd:s.aD[dn]? =some dd)(hp:m.x.dv[dn]? =some p)(hal:zF s m.x dn=true)(hv:0≤v∧v < 4294967296)
  (hr:qK s m.x (eS m.z j k d q v) j k=(0,{eS m.z j k d q v with aQ:=true,id:=m.x.aQ},wX m.x dn wr q v)):
  sK s j 1 ⟨oJ m.z j k d q v,m.y,m.x⟩ 0 (p.1.now.getD q.toNat 0) ⟨rT {eS m.z j k d q v with aQ:=true,id:=m.x.aQ} j m.z.many,m.y,Zh s m.x dn p wr q v⟩∧Inv s m.z.wn none none none (Zh s m.x dn p wr q v):=by
 have hk:((oJ m.z j k d q v).tk j).kind=k:=by rcases hj with rfl | rfl | rfl<;>rfl
 obtain⟨l,k0,i0,hl,hy⟩:=h.y
 have hi:=h.inv
 have jA:=(List.getElem?_eq_some_iff.1 hd).1
 have vV:=hi.ok.wt
 have hws:∀i,iH ((m.x.wt.set dn (some ⟨m.x.aQ,wr,q,v⟩)).set dn none) i=0:=fun i=>by
  have:=hi.wt i
  unfold iH at this⊢
  by_cases hh:dn=i
  ·subst hh;rw[List.getElem?_set_self (by simp;omega)];rfl
  ·rw[List.getElem?_set_ne hh,List.getElem?_set_ne hh];exact this
 have Nh:=aBK (k:=k) (d:=d) (q:=q) (v:=v) h hj
 have hb:pF s m.x (oJ m.z j k d q v) j=({eS m.z j k d q v with aQ:=true,id:=m.x.aQ},wX m.x dn wr q v):=by
  unfold pF;dsimp only;rw[hk,show kB (oJ m.z j k d q v) j=eS m.z j k d q v from rfl,hr,if_neg (by simp),if_neg (by simp)]
 rw[hb] at Nh;generalize hzp:({eS m.z j k d q v with aQ:=true,id:=m.x.aQ}:aV)=zp at *
 have aPf:(zp.tk j).st=2:=by subst hzp;rcases hj with rfl | rfl | rfl<;>rfl
 have hnone:nG zp j=((0,0,false),zp):=by
  unfold nG;rw[if_neg (by rcases hj with rfl | rfl | rfl<;>decide),Int.toNat_natCast,aPf,if_pos (by decide)]
 have Mz:cM s (wX m.x dn wr q v):=aAr hi.ok dn _ _
 have Fh:((wX m.x dn wr q v).wt[dn]?).join=some ⟨m.x.aQ,wr,q,v⟩:=by
  show((m.x.wt.set dn (some _))[dn]?).join=_
  rw[List.getElem?_set_self (by omega)];rfl
 have ho1:∀i:Nat,i≠dn→((wX m.x dn wr q v).wt[i]?).join=none:=fun i hne=>by
  show((m.x.wt.set dn (some _))[i]?).join=none
  rw[List.getElem?_set_ne (Ne.symm hne)];exact aHu hi.wt i
 obtain⟨a,ha,hid,_,hn⟩:=aJD Mz jA Fh ho1
 have hax:jL s (wX m.x dn wr q v) dn=({m.x with wt:=(m.x.wt.set dn (some ⟨m.x.aQ,wr,q,v⟩)).set dn none,dv:=m.x.dv.set dn (uL p ⟨m.x.aQ,wr,q,v⟩),aQ:=m.x.aQ+1},some ⟨m.x.aQ,dn,false,p.1.now.getD q.toNat 0⟩):=by
  unfold jL;rw[Fh,hd,show(wX m.x dn wr q v).dv[dn]? =some p from hp];dsimp only;rw[if_pos (show zF s (wX m.x dn wr q v) dn=true from hal)];rfl
 rw[hax] at ha hn;cases ha
 have aBg:oK s (wX m.x dn wr q v) 0=(Zh s m.x dn p wr q v,[⟨m.x.aQ,dn,false,p.1.now.getD q.toNat 0⟩]):=by
  obtain⟨e,he⟩:∃e,s.aD.length=dn+1+e:=⟨s.aD.length - (dn+1),by omega⟩
  unfold oK;rw[he,hn e];rfl
 have hrnd:(dQ.mk (oJ m.z j k d q v) m.y m.x).qD s j=⟨kD zp j 0 (p.1.now.getD q.toNat 0),m.y,Zh s m.x dn p wr q v⟩:=by
  unfold dQ.qD;rw[Nh];unfold dQ.eZ;dsimp only;rw[hy,aGN hl];unfold dQ.tick;dsimp only;rw[aBg];dsimp only
  have:xJ zp [⟨m.x.aQ,dn,false,p.1.now.getD q.toNat 0⟩]=kD zp j 0 (p.1.now.getD q.toNat 0):=by
   show Bo zp _=_
   unfold Bo;subst hzp;dsimp only;rw[if_neg (by simp),if_neg (by simp),if_neg (by simp)]
   show kD _ ((j:Int).toNat) _ _=_
   rw[Int.toNat_natCast]
  rw[this]
 have hw:zp=lN zp zp.steps zp.sent m.z.many:=by subst hzp;rfl
 refine⟨.inr ⟨?_,.inl ⟨rT zp j m.z.many,?_,?_⟩⟩,(hi.acc hd hp hv (by simpa using vV) hws _).tick hm⟩
 ·rw[Nh];exact hnone
 ·rw[hrnd];dsimp only;rw[hw];exact aAt hj _ _ _ _ _
 ·rw[hrnd]
end
end
section
section
variable{s:aC}{m:dQ}{j n:Nat}{k d q v:Int}
theorem aGq{l:List Bool}{u i:Nat}(h:hasB l i=true):hasB (l.set u true) i=true:=by
 rw[Fs] at h⊢;rw[List.getElem?_set];split
 ·split
  ·rfl
  ·rename_i h1 h2
   subst h1;rw[List.getElem?_eq_none (by omega)] at h;exact h
 ·exact h
theorem aEk{i:Nat}:∀(us:List Nat) {l:List Bool},hasB l i=true→hasB (us.foldl (fun l u=>l.set u true) l) i=true
 | [],_,h=>h
 | _::us,_,h=>aEk us (aGq h)
theorem aJN(g:List (List Int))(c:Cn)(n i:Nat)(hi:i < n)(hc:0 < fE c.l (i:Int)):∀t,i < t→hasB (tZ g c n t) i=true
 | 0,h=>absurd h (by omega)
 | t + 1, h => by
  unfold tZ;rcases Nat.lt_or_ge i t with h1 | h1
  ·have ih:=aJN g c n i hi hc t h1
   split
   ·exact ih
   ·exact aEk _ (aGq ih)
  ·obtain rfl:i=t:=by omega
   rw[if_neg (by omega)];refine aEk _ ?_;rw[Fs,List.getElem?_set_self (by rw[Zg];exact hi)];rfl
theorem aFU{c:Cn}(ha:c.iA=false){i:Nat}(hi:i < s.aD.length)(hc:0 < fE c.l (i:Int)):hasB (eK s c) i=true:=by
 unfold eK Lb;rw[ha,if_neg (by simp),Qk];exact aJN _ c _ i hi hc _ hi
theorem pI.alive(hm:s.made)(h:pI s m){i:Nat}{dd:bL}(hd:s.aD[i]? =some dd)(hu:hasB (eK s m.z.cn) i=true):zF s m.x i=true∧uN m.x i=114:=by
 have hlt:=(List.getElem?_eq_some_iff.1 hd).1
 obtain⟨h1,h2,_⟩:=aFO hm hd hu
 have hD:hasB m.z.wn.d dd.domain.toNat=true:=by rw[h.wd];exact h1
 refine⟨h.inv.alive hm hd hD (fun c hc hs=>?_) (h.wl _ h2),h.inv.state hd hD⟩
 have gZ:=aBC hc
 rw[h.wc];exact(Pt (s:=s) (act:=eK s m.z.cn) c gZ s.aD.length).2 ⟨i,hlt,hu,dd,hd,List.mem_filter.2 ⟨hc,aK1 hs⟩⟩
theorem Me(hj:T3 j){z:aV}{i:Nat}(hi:T3 i)(t:Int):(rT z j t).tk i=if i=j then {z.tk j with st:=0,kind:=0,dev:=0,bT:=0,val:=0,err:=0,res:=0} else z.tk i:=by
 rcases hj with rfl | rfl | rfl<;>rcases hi with rfl | rfl | rfl<;>rfl
theorem aAh(hj:T3 j)(z:aV){i:Nat}(hi:T3 i)(hne:i≠j):(eS z j k d q v).tk i=z.tk i:=by
 rcases hj with rfl | rfl | rfl<;>rcases hi with rfl | rfl | rfl<;>first | rfl | exact absurd rfl hne
theorem aGQ(hj:T3 j){z:aV}{t:Int}{y:bZ}{x:aM}(mO:∀i,T3 i→i≠j→(z.tk i).st=0)(hy:∃l k i:Int,(l=0∨l=1)∧y=rN s z.wn l k i)(hi:Inv s z.wn none none none x)(gZ:z.wn.cl s)(ht:0≤t∧t < 1024)
  (wd:z.wn.d=(eT s (eK s z.cn)).d) (wc:z.wn.c=(eT s (eK s z.cn)).c) (wl:∀i,hasB (eT s (eK s z.cn)).l i=true→hasB z.wn.l i=true):pI s ⟨rT z j t,y,x⟩:=
 ⟨fun i hi=>by
  show((rT z j t).tk i).st=0
  rw[Me hj hi];split
  ·rfl
  ·exact mO i hi (by assumption),rfl,rfl,rfl,rfl,hy,hi,gZ,ht,wd,wc,wl⟩
theorem aGP(h:pI s m)(hj:T3 j){z:aV}(hz:z.wn=m.z.wn)(hc:z.cn=m.z.cn)(mO:∀i,T3 i→i≠j→z.tk i=m.z.tk i){x:aM}(hi:Inv s m.z.wn none none none x):pI s ⟨rT z j m.z.many,m.y,x⟩:=by
 obtain⟨l,k0,i0,hl,hy⟩:=h.y;exact aGQ hj (fun i hi' hne=>by rw[mO i hi' hne];exact h.tk i hi') ⟨l,k0,i0,hl,by rw[hz];exact hy⟩ (by rw[hz];exact hi) (by rw[hz];exact h.cl) h.many (by rw[hz,hc];exact h.wd) (by rw[hz,hc];exact h.wc) (by rw[hz,hc];exact h.wl)
def qF(s:aC)(z:aV)(j:Nat)(k d q:Int):Int×Cn×List Int:=
 let hs:=(z.tk j).hs
 if k=103 then(if(pE s.aD.length z.cn d).1≠0 then((pE s.aD.length z.cn d).1,z.cn,hs) else(0,(pE s.aD.length z.cn d).2,(pL (z.tk j) d.toNat 1).hs))
 else if k=112 then(if bO s.aD.length d=false then(4,z.cn,hs) else if hG (z.tk j) d.toNat=0 then(6,z.cn,hs) else if(qL s.aD.length z.cn d).1≠0 then((qL s.aD.length z.cn d).1,z.cn,hs) else(0,(qL s.aD.length z.cn d).2,(pL (z.tk j) d.toNat (-1)).hs))
 else if k=115 then((tD z.cn).1,(tD z.cn).2,hs)
 else if k=109 then((tE z.cn).1,(tE z.cn).2,hs)
 else(if bO s.aD.length d=false∨q < 0∨yL s d≤q then 4 else if hG (z.tk j) d.toNat=0∨z.cn.iA=true then 6 else 0,z.cn,hs)
structure wM(s:aC)(m:dQ)(j:Nat)(k d q v:Int)(e u:Int)(m':dQ):Prop where
 stl:sK s j 400 ⟨oJ m.z j k d q v,m.y,m.x⟩ e u m'
 rest:pI s m'
 out:(e,m'.z.cn,(m'.z.tk j).hs)=qF s m.z j k d q
 tk:∀i,T3 i→i≠j→(m'.z.tk i).hs=(m.z.tk i).hs
 no:(k≠114∧k≠119)∨e≠0→u=0
 acc:(k=114∨k=119)→e=0→∃(dn:Nat) (p:bR×dB),d=(dn:Int)∧m.x.dv[dn]? =some p∧u=p.1.now.getD q.toNat 0∧m'.x=Zh s m.x dn p (decide (k=119)) q v
 same:e≠0→m'.x=m.x
 aGd:k≠114∧k≠119→(∀i,hasB m.z.wn.l i=true→hasB m'.z.wn.l i=true)∧aCf s (allM s m.z.wn m'.z.wn) m.x m'.x
theorem Jl(h:pI s m)(hj:T3 j){e:Int}(he:e≠0)(hr:qK s m.x (eS m.z j k d q v) j k=(e,eS m.z j k d q v,m.x))(ho:qF s m.z j k d q=(e,m.z.cn,(m.z.tk j).hs)):∃e u m',wM s m j k d q v e u m':=by
 refine⟨e,0,_,(aMg h hj he hr).mono (by decide),aGP (z:=eS m.z j k d q v) h hj rfl rfl (fun i hi hne=>aAh hj _ hi hne) h.inv,?_,fun i hi hne=>?_,fun _=>rfl,fun _ h=>absurd h he,fun _=>rfl,fun _=>⟨fun _ h=>h,fun _ _ _ h=>h⟩⟩
 ·rw[ho]
  show(e,m.z.cn,((rT _ j _).tk j).hs)=_
  rw[Me hj hj,if_pos rfl,aCs hj]
 ·show((rT _ j _).tk i).hs=_
  rw[Me hj hi,if_neg hne,aAh hj _ hi hne]
theorem aNJ(hm:s.made)(h:pI s m)(hj:T3 j)(hk:k≠114∧k≠119){z2:aV}(hr:qK s m.x (eS m.z j k d q v) j k=(0,lO s z2,m.x))(hwn:z2.wn=m.z.wn)(lU:z2.aQ=false)(aBj:z2.many=m.z.many)(aDO:z2.eX=(j:Int))(hst:(z2.tk j).st=2)
  (mO:∀i,T3 i→i≠j→z2.tk i=m.z.tk i) (ho:qF s m.z j k d q=(0,z2.cn,(z2.tk j).hs)):∃e u m',wM s m j k d q v e u m':=by
 obtain⟨k',l',k1,i1,x',r1,r2,r3,r4,r5,r6⟩:=aLW hm h hj hr hwn lU aBj aDO hst
 have uV:∀i,T3 i→(lO s z2).tk i=z2.tk i:=fun i hi=>by rcases hi with rfl | rfl | rfl<;>rfl
 refine⟨0,0,_,r1,aGQ hj (fun i hi hne=>by rw[uV i hi,mO i hi hne];exact h.tk i hi) ⟨l',k1,i1,r2,rfl⟩ r3 (aCA hm z2) ⟨r4,r5⟩ rfl rfl (fun i hi=>aLf z2 i hi),?_,fun i hi hne=>?_,fun _=>rfl,fun h=>absurd h (by omega),fun h=>absurd rfl h,fun _=>⟨fun i hi=>aFQ z2 (hwn▸h.cl.of) i (hwn▸hi),hwn▸r6⟩⟩
 ·rw[ho]
  show((0:Int),z2.cn,((rT _ j _).tk j).hs)=_
  rw[Me hj hj,if_pos rfl,uV j hj]
 ·show((rT _ j _).tk i).hs=_
  rw[Me hj hi,if_neg hne,uV i hi,mO i hi hne]
def z2F(z:aV)(j:Nat)(k d q v:Int)(t:rJ)(c:Cn):aV:={(eS z j k d q v).jP j t with cn:=c}
theorem aCv(hj:T3 j){z:aV}{t:rJ}{c:Cn}{i:Nat}(hi:T3 i):(z2F z j k d q v t c).tk i=if i=j then t else z.tk i:=by
 rcases hj with rfl | rfl | rfl<;>rcases hi with rfl | rfl | rfl<;>rfl
theorem aAJ(hm:s.made)(h:pI s m)(hj:T3 j)(hk:k≠114∧k≠119){t:rJ}{c:Cn}(ht:t.st=2)(hr:qK s m.x (eS m.z j k d q v) j k=(0,lO s (z2F m.z j k d q v t c),m.x))(ho:qF s m.z j k d q=(0,c,t.hs)):∃e u m',wM s m j k d q v e u m':=by
 refine aNJ hm h hj hk hr rfl h.po rfl rfl ?_ (fun i hi hne=>?_) ?_
 ·rw[aCv hj hj,if_pos rfl];exact ht
 ·rw[aCv hj hi,if_neg hne]
 ·rw[aCv hj hj,if_pos rfl];exact ho
theorem aHp(hm:s.made)(h:pI s m)(hok:eO s n m)(hj:T3 j)(wr:Bool)(hk:k=if wr then 119 else 114)(hv:0≤v∧v < 4294967296):∃e u m',wM s m j k d q v e u m':=by
 have uV:=aCs (k:=k) (d:=d) (q:=q) (v:=v) hj m.z
 have hhs:∀i,hG ((eS m.z j k d q v).tk j) i=hG (m.z.tk j) i:=fun i=>by rw[uV];rfl
 have hk4:k≠103∧k≠112∧k≠115∧k≠109∧(k=114∨k=119)∧decide (k=119)=wr:=by subst hk;cases wr<;>decide
 obtain⟨k1,k2,k3,k4,k5,k6⟩:=hk4
 have jR:qF s m.z j k d q=(if bO s.aD.length d=false∨q < 0∨yL s d≤q then 4 else if hG (m.z.tk j) d.toNat=0∨m.z.cn.iA=true then 6 else 0,m.z.cn,(m.z.tk j).hs):=by
  unfold qF;dsimp only;rw[if_neg k1,if_neg k2,if_neg k3,if_neg k4]
 have hr:qK s m.x (eS m.z j k d q v) j k=Dx s m.x (eS m.z j k d q v) j wr:=by
  subst hk;cases wr<;>rfl
 have Xl:Io s ((eS m.z j k d q v).tk j)↔(bO s.aD.length d=false∨q < 0∨yL s d≤q):=by rw[uV];exact Iff.rfl
 unfold Dx at hr
 by_cases h1:bO s.aD.length d=false∨q < 0∨yL s d≤q
 ·rw[if_pos (Xl.2 h1)] at hr;exact Jl (e:=4) h hj (by decide) hr (by rw[jR,if_pos h1])
 rw[if_neg (fun hb=>h1 (Xl.1 hb)),hhs,uV] at hr;dsimp only at hr;rw[show(eS m.z j k d q v).cn=m.z.cn from rfl] at hr;rw[if_neg h1] at jR
 by_cases h2:hG (m.z.tk j) d.toNat=0∨m.z.cn.iA=true
 ·rw[if_pos h2] at hr jR;exact Jl (e:=6) h hj (by decide) hr jR
 rw[if_neg h2] at hr jR
 have hin:bO s.aD.length d=true:=by
  cases hb:bO s.aD.length d with
  | true=>rfl
  | false=>exact absurd (.inl hb) h1
 have hin:=of_decide_eq_true hin
 have hdt:d=(d.toNat:Int):=by omega
 obtain⟨dd,hd⟩:=get_some (l:=s.aD) (i:=d.toNat) (by omega);obtain⟨p,hp⟩:=get_some (l:=m.x.dv) (i:=d.toNat) (by have:=hok.hw.dv;omega)
 have ha:m.z.cn.iA=false:=by
  cases hb:m.z.cn.iA with
  | false=>rfl
  | true=>exact absurd (.inr hb) h2
 have hc:0 < fE m.z.cn.l (d.toNat:Int):=by
  have b:=hok.yJ.toRwB
  have h0:=b.nn 0 (.inl rfl) d.toNat
  have h1:=b.nn 1 (.inr (.inl rfl)) d.toNat
  have h2':=b.nn 2 (.inr (.inr rfl)) d.toNat
  have h3:=b.cnt d.toNat
  have h4:hG (m.z.tk j) d.toNat≠0:=fun hz=>h2 (.inl hz)
  rcases hj with rfl | rfl | rfl<;>omega
 obtain⟨hal,hst⟩:=h.alive hm hd (aFU ha (by omega) hc);rw[if_pos hst] at hr;obtain⟨r1,r2⟩:=aMn hm h hj hd hp hal hv hr
 have hx:=aGP (z:={eS m.z j k d q v with aQ:=true,id:=m.x.aQ}) h hj rfl rfl (fun i hi hne=>by
  have:({eS m.z j k d q v with aQ:=true,id:=m.x.aQ}:aV).tk i=(eS m.z j k d q v).tk i:=by rcases hi with rfl | rfl | rfl<;>rfl
  rw[this]
  exact aAh hj _ hi hne) r2
 refine⟨0,_,_,r1.mono (by decide),hx,?_,fun i hi hne=>?_,fun hh=>?_,fun _ _=>⟨d.toNat,p,hdt,hp,rfl,?_⟩,fun hh=>absurd rfl hh,fun hh=>(k5.elim hh.1 hh.2).elim⟩
 ·rw[jR]
  show((0:Int),m.z.cn,((rT _ j _).tk j).hs)=_
  rw[Me hj hj,if_pos rfl]
  have:({eS m.z j k d q v with aQ:=true,id:=m.x.aQ}:aV).tk j=(eS m.z j k d q v).tk j:=by rcases hj with rfl | rfl | rfl<;>rfl
  rw[this,uV]
 ·show((rT _ j _).tk i).hs=_
  rw[Me hj hi,if_neg hne]
  have:({eS m.z j k d q v with aQ:=true,id:=m.x.aQ}:aV).tk i=(eS m.z j k d q v).tk i:=by rcases hi with rfl | rfl | rfl<;>rfl
  rw[this,aAh hj _ hi hne]
 ·rcases hh with hh | hh
  ·omega
  ·exact absurd rfl hh
 ·rw[k6]
theorem Ob(hm:s.made)(h:pI s m)(hok:eO s n m)(hj:T3 j)(hk:sZ k)(hv:0≤v∧v < 4294967296):∃e u m',wM s m j k d q v e u m':=by
 have uV:=aCs (k:=k) (d:=d) (q:=q) (v:=v) hj m.z
 have hhs:∀i,hG ((eS m.z j k d q v).tk j) i=hG (m.z.tk j) i:=fun i=>by rw[uV];rfl
 have hn:=Qk s
 have oP:z2F m.z j k d q v ((eS m.z j k d q v).tk j) m.z.cn=eS m.z j k d q v:=by rcases hj with rfl | rfl | rfl<;>rfl
 have hwk:∀c:Cn,({eS m.z j k d q v with cn:=c}:aV)=z2F m.z j k d q v ((eS m.z j k d q v).tk j) c:=fun c=>by rcases hj with rfl | rfl | rfl<;>rfl
 rcases hk with rfl | rfl | hk | hk | rfl | rfl
 ·
  have hr:qK s m.x (eS m.z j 103 d q v) j 103=((Fw s (eS m.z j 103 d q v) j).1,(Fw s (eS m.z j 103 d q v) j).2,m.x):=rfl
  unfold Fw at hr;rw[uV,hn] at hr;dsimp only at hr;rw[show(eS m.z j 103 d q v).cn=m.z.cn from rfl] at hr
  by_cases he:(pE s.aD.length m.z.cn d).1≠0
  ·rw[if_pos he] at hr;exact Jl h hj he hr (by unfold qF;dsimp only;rw[if_pos rfl,if_pos he])
  ·rw[if_neg he] at hr;exact aAJ hm h hj ⟨by decide,by decide⟩ rfl hr (by unfold qF;dsimp only;rw[if_pos rfl,if_neg he];rfl)
 ·
  have hr:qK s m.x (eS m.z j 112 d q v) j 112=((Ez s (eS m.z j 112 d q v) j).1,(Ez s (eS m.z j 112 d q v) j).2,m.x):=rfl
  unfold Ez at hr;rw[hhs,uV,hn] at hr;dsimp only at hr;rw[show(eS m.z j 112 d q v).cn=m.z.cn from rfl] at hr
  by_cases h1:bO s.aD.length d=false
  ·rw[if_pos h1] at hr;exact Jl (e:=4) h hj (by decide) hr (by unfold qF;dsimp only;rw[if_neg (by decide),if_pos rfl,if_pos h1])
  ·rw[if_neg h1] at hr
   by_cases h2:hG (m.z.tk j) d.toNat=0
   ·rw[if_pos h2] at hr;exact Jl (e:=6) h hj (by decide) hr (by unfold qF;dsimp only;rw[if_neg (by decide),if_pos rfl,if_neg h1,if_pos h2])
   ·rw[if_neg h2] at hr
    by_cases he:(qL s.aD.length m.z.cn d).1≠0
    ·rw[if_pos he] at hr;exact Jl h hj he hr (by unfold qF;dsimp only;rw[if_neg (by decide),if_pos rfl,if_neg h1,if_neg h2,if_pos he])
    ·rw[if_neg he] at hr;exact aAJ hm h hj ⟨by decide,by decide⟩ rfl hr (by unfold qF;dsimp only;rw[if_neg (by decide),if_pos rfl,if_neg h1,if_neg h2,if_neg he];rfl)
 ·exact aHp hm h hok hj false hk hv
 ·exact aHp hm h hok hj true hk hv
 ·
  have hr:qK s m.x (eS m.z j 115 d q v) j 115=((Er s (eS m.z j 115 d q v)).1,(Er s (eS m.z j 115 d q v)).2,m.x):=rfl
  unfold Er at hr;rw[show(eS m.z j 115 d q v).cn=m.z.cn from rfl] at hr
  by_cases he:(tD m.z.cn).1≠0
  ·rw[if_pos he] at hr;refine Jl h hj he hr ?_;unfold qF;dsimp only;rw[if_neg (by decide),if_neg (by decide),if_pos rfl];unfold tD at he⊢;split at he
   ·rename_i ha;rw[if_pos ha]
   ·exact absurd rfl he
  ·rw[if_neg he,hwk] at hr;refine aAJ hm h hj ⟨by decide,by decide⟩ (by rw[uV]) hr ?_;unfold qF;dsimp only;rw[if_neg (by decide),if_neg (by decide),if_pos rfl,Classical.not_not.1 he,uV]
 ·
  have hr:qK s m.x (eS m.z j 109 d q v) j 109=((Ex s (eS m.z j 109 d q v)).1,(Ex s (eS m.z j 109 d q v)).2,m.x):=rfl
  unfold Ex at hr;rw[show(eS m.z j 109 d q v).cn=m.z.cn from rfl] at hr
  by_cases he:(tE m.z.cn).1≠0
  ·rw[if_pos he] at hr;refine Jl h hj he hr ?_;unfold qF;dsimp only;rw[if_neg (by decide),if_neg (by decide),if_neg (by decide),if_pos rfl];unfold tE at he⊢;split at he
   ·exact absurd rfl he
   ·rename_i ha;rw[if_neg ha]
  ·rw[if_neg he,hwk] at hr;refine aAJ hm h hj ⟨by decide,by decide⟩ (by rw[uV]) hr ?_;unfold qF;dsimp only;rw[if_neg (by decide),if_neg (by decide),if_neg (by decide),if_pos rfl,Classical.not_not.1 he,uV]
end
end
section
section
variable{s:aC}{m m':dQ}{j n:Nat}{k d q v e u:Int}
theorem sK.ok(hm:s.made){t:Int}:∀{N n:Nat} {m m':dQ},eO s n m→sK s t N m e u m'→eO s (n+N) m'
 | 0,_,_,_,_,h=>h.elim
 | N+1,n,m,m',ho,h=>by
  have h1:=ho.step hm t
  have h2:=ho.qD hm t
  rcases h with⟨z,hd,rfl⟩ | ⟨_,⟨z,hd,rfl⟩ | ⟨_,hr⟩⟩
  ·exact(h1.aIV hd).le (by omega)
  ·exact(h2.aIV hd).le (by omega)
  ·exact(sK.ok hm h2 hr).le (by omega)
theorem aKK(h:eO s n m)(hr:pI s m)(hj:T3 j)(hk:sZ k)(hv:0≤v∧v < 4294967296):eO s n ⟨oJ m.z j k d q v,m.y,m.x⟩:=h.aGk (aGj hr hj hk) hv
theorem wM.ok(hm:s.made)(o:wM s m j k d q v e u m')(h:eO s n m)(hr:pI s m)(hj:T3 j)(hk:sZ k)(hv:0≤v∧v < 4294967296):eO s (n+400) m':=sK.ok hm (aKK h hr hj hk hv) o.stl
theorem aJL(g:List (List Int))(n:Nat):∀t,tZ g ⟨[],false⟩ n t=List.replicate n false
 | 0=>rfl
 | t+1=>by
  unfold tZ;rw[if_pos (by show fE [] _≤0;simp[fE])];exact aJL g n t
theorem aC9(s:aC)(n:Nat):eT s (List.replicate n false)=dP s:=by
 have:∀t,iM s (List.replicate n false) t=dP s:=fun t=>by
  induction t with
  | zero=>rfl
  | succ t ih=>rw[Pr (aDY n t),ih]
 exact this _
theorem aMH(hm:s.made):pI s (Jq s):=by
 have hu:eT s (eK s (Jq s).z.cn)=dP s:=by
  show eT s (eK s ⟨[],false⟩)=_
  unfold eK Lb;rw[if_neg (by simp),aJL,aC9]
 have hw:(Jq s).z.wn=dP s:=aLe s
 have gZ:=aFP hm (List.replicate s.aD.length false) s.aD.length
 refine⟨fun j hj=>by rcases hj with rfl | rfl | rfl<;>rfl,rfl,rfl,rfl,rfl,⟨1,0,0,.inr rfl,by rw[hw];rfl⟩,by rw[hw];exact aOY hm,?_,⟨Int.le_refl 0,by show(0:Int) < 1024;decide⟩,by rw[hu,hw],by rw[hu,hw],fun i h=>by rw[hu] at h;rw[hw];exact h⟩;rw[hw,←aC9 s s.aD.length];exact gZ
end
end
section
section
variable{s:aC}{m m':dQ}{j n:Nat}{k d q v e u:Int}
theorem aI1(o:wM s m j 103 d q v e u m')(ha:m.z.cn.iA=false){i:Nat}(hd:d=(i:Int))(hi:i < s.aD.length)(h0:0≤fE m.z.cn.l d)(h7:fE m.z.cn.l d < 7):
  e=0∧u=0∧m'.z.cn=⟨yI m.z.cn.l d (fE m.z.cn.l d+1),false⟩∧(m'.z.tk j).hs=(pL (m.z.tk j) i 1).hs:=by
 have h1:(pE s.aD.length m.z.cn d).1=0:=by
  unfold pE;rw[ha,if_neg (by simp),if_neg (by omega),if_neg (by omega)]
 obtain⟨_,_,_,_,h2⟩:=aJ0 h1 h0
 have ho:=o.out
 unfold qF at ho;dsimp only at ho;rw[if_pos rfl,if_neg (by omega),h2,ha] at ho;simp only[Prod.mk.injEq] at ho;obtain⟨he,hc,hh⟩:=ho;refine⟨he,o.no (.inl (by decide)),hc,?_⟩;rw[hh,hd,Int.toNat_natCast]
theorem aNy(o:wM s m j 112 d q v e u m')(ha:m.z.cn.iA=false){i:Nat}(hd:d=(i:Int))(hi:i < s.aD.length)(hh:0 < hG (m.z.tk j) i)(h0:0 < fE m.z.cn.l d)(h7:fE m.z.cn.l d≤7):
  e=0∧u=0∧m'.z.cn=⟨yI m.z.cn.l d (fE m.z.cn.l d - 1),false⟩∧(m'.z.tk j).hs=(pL (m.z.tk j) i (-1)).hs:=by
 have h1:(qL s.aD.length m.z.cn d).1=0:=by
  unfold qL;rw[ha,if_neg (by simp),if_neg (by omega),if_neg (by omega)]
 obtain⟨_,_,_,_,h2⟩:=aJk h1 h7
 have ho:=o.out
 unfold qF at ho;dsimp only at ho
 have hb:bO s.aD.length d=true:=decide_eq_true (by omega)
 rw[if_neg (by decide),if_pos rfl,hb,if_neg (by simp),hd,Int.toNat_natCast,if_neg (by omega),←hd,if_neg (by omega),h2,ha] at ho;simp only[Prod.mk.injEq] at ho;exact⟨ho.1,o.no (.inl (by decide)),ho.2⟩
end
theorem aJM(g:List (List Int))(c:Cn)(n:Nat)(h:∀i:Nat,fE c.l (i:Int)≤0):∀t,tZ g c n t=List.replicate n false
 | 0=>rfl
 | t+1=>by
  unfold tZ;rw[if_pos (h t)];exact aJM g c n h t
section
variable{s:aC}{m:dQ}
end
end
section
section
variable{s:aC}{dn D:Nat}{d:bL}{x:aM}{mD:eV}{f:bR}
def qT(dn D:Nat)(x:aM)(mD:eV)(f:bR):Prop:=x.dm[D]? =some mD∧∃q,x.dv[dn]? =some (f,q)
theorem aRv{dv:List (bR×dB)}{e:Int×Nat}{p:bR×dB}(hd:s.aD[dn]? =some d)(hp:dv[dn]? =some p):(pS s dv e)[dn]? =some (tV s e dn p):=by
 have:=(List.getElem?_eq_some_iff.1 hd).1
 rw[pS,Ai,List.getElem?_mapIdx,hp,Option.map_some,if_pos this]
theorem aIU{p:bR×dB}(hd:s.aD[dn]? =some d):∀(es:List (Int×Nat)) (dv:List (bR×dB)),dv[dn]? =some p→(es.foldl (pS s) dv)[dn]? =some (es.foldl (fun p e=>tV s e dn p) p)
 | [],dv,h=>h
 | e::es,dv,h=>by
  rw[List.foldl_cons,List.foldl_cons];exact aIU hd es _ (aRv hd h)
theorem aIN{st:List eV}{q:dB}(hd:s.aD[dn]? =some d)(hD:d.domain=(D:Int))(hm:st[D]? =some mD):∀n,(jX st n).foldl (fun p e=>tV s e dn p) (f,q)=(if D < n∧(eE mD).1≠0 then Bm (eE mD).1 d f else f,q)
 | 0=>by rw[if_neg (by omega)];rfl
 | n + 1 => by
  have hs:jX st (n+1)=jX st n++(((st[n]?).bind fun x=>if(eE x).1=0 then none else some ((eE x).1,n)).toList):=by
   unfold jX;rw[List.range_succ,List.filterMap_append]
   congr 1
  rw[hs,List.foldl_append,aIN hd hD hm n]
  by_cases hn:n=D
  ·subst hn;rw[hm,Option.bind_some,if_neg (fun h=>absurd h.1 (by omega))]
   by_cases h0:(eE mD).1=0
   ·rw[if_pos h0,if_neg (fun h=>h.2 h0)];rfl
   ·rw[if_neg h0,if_pos ⟨by omega,h0⟩]
    show tV s ((eE mD).1,n) dn (f,q)=_
    unfold tV;rw[hd];dsimp only;rw[if_pos hD]
  ·have he:(D < n+1∧(eE mD).1≠0)↔(D < n∧(eE mD).1≠0):=by omega
   simp only[he];cases hst:st[n]? with
   | none=>rfl
   | some y =>
    rw[Option.bind_some];generalize (if D < n∧(eE mD).1≠0 then Bm (eE mD).1 d f else f,q)=pq
    by_cases hy0:(eE y).1=0
    ·rw[if_pos hy0];rfl
    ·rw[if_neg hy0]
     show tV s ((eE y).1,n) dn _=_
     unfold tV;rw[hd];dsimp only;rw[if_neg (by omega)]
theorem qT.tick(h:qT dn D x mD f)(hd:s.aD[dn]? =some d)(hD:d.domain=(D:Int))(Dl:D < s.domains.length)(cJ:Int):qT dn D (fW s x cJ) (eE mD).2 (if(eE mD).1≠0 then Bm (eE mD).1 d f else f):=by
 obtain⟨h1,q,h2⟩:=h
 have hlt:=(List.getElem?_eq_some_iff.1 hd).1
 refine⟨by show(nK x.dm)[D]? =_;rw[nK,List.getElem?_map,h1];rfl,sP q (decide (0 < iH x.wt dn)) (Du cJ dn),?_⟩
 have hq:(wZ x cJ s.aD.length)[dn]? =some (f,sP q (decide (0 < iH x.wt dn)) (Du cJ dn)):=by
  rw[wZ,List.getElem?_mapIdx,h2,Option.map_some,if_pos hlt]
 show((jX x.dm s.domains.length).foldl (pS s) _)[dn]? =_
 rw[aIU hd _ _ hq,aIN hd hD h1]
 by_cases h0:(eE mD).1≠0
 ·rw[if_pos h0,if_pos ⟨Dl,h0⟩]
 ·rw[if_neg h0,if_neg (fun h=>h0 h.2)]
theorem aHS(h:qT dn D x mD f)(i:Int)(n:Nat){st:List eV}{m2:eV}(hs:st[D]? =some m2):qT dn D {x with dv:=iN s x i n,dm:=st} m2 f:=by
 obtain⟨_,q,h2⟩:=h
 have:∃q',Da s i dn (f,q)=(f,q'):=by
  unfold Da;split
  ·split
   ·exact⟨_,rfl⟩
   ·exact⟨_,rfl⟩
  ·exact⟨_,rfl⟩
 obtain⟨q',hq⟩:=this;refine⟨hs,?_⟩
 show ∃q,(iN s x i n)[dn]? =_
 rw[iN,List.getElem?_mapIdx,h2,Option.map_some,hq];split<;>exact⟨_,rfl⟩
theorem aON(h:qT dn D x mD f)(i:Int)(n:Nat):qT dn D {x with dv:=rY s x i n} mD f:=by
 obtain⟨h1,q,h2⟩:=h
 have:∃q',Cw s i dn (f,q)=(f,q'):=by
  unfold Cw;split
  ·split
   ·exact⟨_,rfl⟩
   ·exact⟨_,rfl⟩
  ·exact⟨_,rfl⟩
 obtain⟨q',hq⟩:=this;refine⟨h1,?_⟩
 show ∃q,(rY s x i n)[dn]? =_
 rw[rY,List.getElem?_mapIdx,h2,Option.map_some,hq];split<;>exact⟨_,rfl⟩
theorem qT.off(h : qT dn D x mD f)(i : Nat)(keep : Bool) : ∃ m2, qT dn D (qE s x i keep).1 m2 f ∧ (m2 = mD ∨ (i = D ∧ mD.phase = 49 ∧ m2 = ⟨99, mD.left, mD.kept, keep⟩)) := by
 have h1:=h.1
 unfold qE;split
 ·split
  ·have : ∃ m2, (tU s x.dm i keep).2[D]? = some m2 ∧ (m2 = mD ∨ (i = D ∧ mD.phase = 49 ∧ m2 = ⟨99, mD.left, mD.kept, keep⟩)) := by
    unfold tU;split
    ·exact⟨mD,h1,.inl rfl⟩
    ·rw [Int.toNat_natCast];split
     ·rename_i c y hc hy
      split
      ·exact⟨mD,h1,.inl rfl⟩
      ·split
       ·exact⟨mD,h1,.inl rfl⟩
       ·split
        ·exact⟨mD,h1,.inl rfl⟩
        ·rename_i mP _ _
         by_cases e:i=D
         ·subst e;rw[h1] at hy;obtain rfl:=Option.some.inj hy;exact⟨_,List.getElem?_set_self (List.getElem?_eq_some_iff.1 h1).1,.inr ⟨rfl,by omega,rfl⟩⟩
         ·exact⟨mD,by rw[List.getElem?_set_ne e];exact h1,.inl rfl⟩
     ·exact⟨mD,h1,.inl rfl⟩
   obtain⟨m2,h2,h3⟩:=this;exact⟨m2,aHS h i _ h2,h3⟩
  ·exact⟨mD,aHS h i _ h1,.inl rfl⟩
 ·split
  ·exact⟨mD,h,.inl rfl⟩
  ·exact⟨mD,h,.inl rfl⟩
theorem qT.on(h : qT dn D x mD f)(i : Nat) : ∃ m2, qT dn D (wW s x i).1 m2 f ∧ (m2 = mD ∨ (i = D ∧ (mD.phase = 48 ∨ mD.phase = 116) ∧ m2.phase = 114 ∧ m2.kept = decide (mD.phase = 116))) := by
 have h1:=h.1
 unfold wW;split
 ·have : ∃ m2, (sN s x.dm i).2[D]? = some m2 ∧ (m2 = mD ∨ (i = D ∧ (mD.phase = 48 ∨ mD.phase = 116) ∧ m2.phase = 114 ∧ m2.kept = decide (mD.phase = 116))) := by
   unfold sN;split
   ·exact⟨mD,h1,.inl rfl⟩
   ·rw [Int.toNat_natCast];split
    ·rename_i c y hc hy
     split
     ·exact⟨mD,h1,.inl rfl⟩
     ·rename_i mP
      by_cases e:i=D
      ·subst e;rw[h1] at hy;obtain rfl:=Option.some.inj hy;refine⟨_,List.getElem?_set_self (List.getElem?_eq_some_iff.1 h1).1,.inr ⟨rfl,?_,rfl,rfl⟩⟩
       have:Ge mD=true:=by
        cases hb:Ge mD with
        | true=>rfl
        | false=>exact absurd (.inl hb) mP
       exact of_decide_eq_true this
      ·exact⟨mD,by rw[List.getElem?_set_ne e];exact h1,.inl rfl⟩
    ·exact⟨mD,h1,.inl rfl⟩
  obtain⟨m2,h2,h3⟩:=this;exact⟨m2,⟨h2,h.2⟩,h3⟩
 ·split
  ·exact⟨mD,aON h i _,.inl rfl⟩
  ·exact⟨mD,h,.inl rfl⟩
def Pg(dn D:Nat)(d:bL)(ret:Bool)(f0:bR)(x:aM):Prop:=∃mD f,qT dn D x mD f∧((mD.phase=49∧f=f0)∨(mD.phase=99∧mD.keep=ret∧f=f0)∨(mD.phase=(if ret then 116 else 48)∧f=if ret then rR d f0 else tF d f0))
def Gn(dn D:Nat)(d:bL)(ret:Bool)(f1:bR)(x:aM):Prop:=∃mD f,qT dn D x mD f∧((mD.phase=(if ret then 116 else 48)∧f=f1)∨(mD.phase=114∧mD.kept=ret∧f=f1)∨((mD.phase=104∨mD.phase=49)∧f=if ret then zX d f1 else tF d f1))
section
variable{ret:Bool}{f0:bR}(hd:s.aD[dn]? =some d)(hD:d.domain=(D:Int))(Dl:D < s.domains.length)
include hd hD Dl
theorem Pg.tick(h:Pg dn D d ret f0 x)(cJ:Int):Pg dn D d ret f0 (fW s x cJ):=by
 obtain⟨mD,f,h1,h2⟩:=h;refine⟨_,_,h1.tick hd hD Dl cJ,?_⟩;obtain⟨ph,left,kept,keep⟩:=mD;dsimp only at h2;unfold eE;dsimp only;rcases h2 with⟨rfl,rfl⟩ | ⟨rfl,rfl,rfl⟩ | ⟨rfl,rfl⟩
 ·exact .inl ⟨rfl,rfl⟩
 ·cases keep
  ·exact .inr (.inr ⟨rfl,rfl⟩)
  ·exact .inr (.inr ⟨rfl,rfl⟩)
 ·cases ret
  ·exact .inr (.inr ⟨rfl,rfl⟩)
  ·exact .inr (.inr ⟨rfl,rfl⟩)
theorem Gn.tick(h:Gn dn D d ret f0 x)(cJ:Int):Gn dn D d ret f0 (fW s x cJ):=by
 obtain⟨mD,f,h1,h2⟩:=h;refine⟨_,_,h1.tick hd hD Dl cJ,?_⟩;obtain⟨ph,left,kept,keep⟩:=mD;dsimp only at h2;unfold eE;dsimp only;rcases h2 with⟨rfl,rfl⟩ | ⟨rfl,rfl,rfl⟩ | ⟨rfl | rfl,rfl⟩
 ·cases ret
  ·exact .inl ⟨rfl,rfl⟩
  ·exact .inl ⟨rfl,rfl⟩
 ·rw[if_pos rfl]
  by_cases hl:0 < left
  ·rw[if_pos hl];exact .inr (.inl ⟨rfl,rfl,rfl⟩)
  ·rw[if_neg hl];cases kept
   ·exact .inr (.inr ⟨.inl rfl,rfl⟩)
   ·exact .inr (.inr ⟨.inl rfl,rfl⟩)
 ·exact .inr (.inr ⟨.inr rfl,rfl⟩)
 ·exact .inr (.inr ⟨.inr rfl,rfl⟩)
end
theorem Pg.off{ret:Bool}{f0:bR}(h:Pg dn D d ret f0 x)(i:Nat)(keep:Bool)(hk:i=D→keep=ret):Pg dn D d ret f0 (qE s x i keep).1:=by
 obtain⟨mD,f,h1,h2⟩:=h;obtain⟨m2,h3,rfl | ⟨h4,h5,rfl⟩⟩:=h1.off (s:=s) i keep
 ·exact⟨m2,f,h3,h2⟩
 ·refine⟨_,f,h3,.inr (.inl ⟨rfl,hk h4,?_⟩)⟩;rcases h2 with h2 | h2 | h2
  ·exact h2.2
  ·exact h2.2.2
  ·have:=h2.1
   rw[h5] at this;cases ret<;>exact absurd this (by decide)
theorem Gn.off{ret:Bool}{f0:bR}(h:Gn dn D d ret f0 x)(i:Nat)(keep:Bool)(hk:i≠D):Gn dn D d ret f0 (qE s x i keep).1:=by
 obtain⟨mD,f,h1,h2⟩:=h;obtain⟨m2,h3,rfl | ⟨h4,_⟩⟩:=h1.off (s:=s) i keep
 ·exact⟨m2,f,h3,h2⟩
 ·exact absurd h4 hk
theorem Gn.on{ret:Bool}{f0:bR}(h:Gn dn D d ret f0 x)(i:Nat):Gn dn D d ret f0 (wW s x i).1:=by
 obtain⟨mD,f,h1,h2⟩:=h;obtain⟨m2,h3,rfl | ⟨h4,h5,h6,h7⟩⟩:=h1.on (s:=s) i
 ·exact⟨m2,f,h3,h2⟩
 ·refine⟨_,f,h3,?_⟩;rcases h2 with h2 | h2 | h2
  ·refine .inr (.inl ⟨h6,?_,h2.2⟩);rw[h7,h2.1];cases ret<;>rfl
  ·omega
  ·omega
theorem qT.same{x':aM}(h:qT dn D x mD f)(h1:x'.dm=x.dm)(h2:x'.dv=x.dv):qT dn D x' mD f:=by
 unfold qT;rw[h1,h2];exact h
end
theorem aTs{s:aC}{x y:bJ}{p:cY}(h:p∈allM s x y)(hl:∀i,hasB x.l i=true→hasB y.l i=true):
  (∃i:Nat,p=⟨17,4,i,1⟩∧hasB y.d i=true)∨(∃i:Nat,p=⟨20,7,i,1⟩)∨(∃i:Nat,p=⟨22,4,i,0⟩)∨(∃i:Nat,p=⟨20,7,i,0⟩)∨(∃i:Nat,p=⟨17,4,i,lB s i⟩∧i < s.domains.length∧hasB y.d i=false):=by
 unfold allM tY at h;simp only[List.mem_append,jO,List.mem_map] at h;rcases h with⟨i,h,rfl⟩ | ⟨i,_,rfl⟩ | ⟨i,_,rfl⟩ | ⟨i,h,rfl⟩ | ⟨i,_,rfl⟩ | ⟨i,h,rfl⟩
 ·exact .inl ⟨i,rfl,(vL.1 (xA.1 h).2).1⟩
 ·exact .inr (.inl ⟨i,rfl⟩)
 ·exact .inr (.inr (.inl ⟨i,rfl⟩))
 ·have:=vL.1 (xA.1 h).2
  rw[hl i this.1] at this;exact absurd this.2 (by simp)
 ·exact .inr (.inr (.inr (.inl ⟨i,rfl⟩)))
 ·exact .inr (.inr (.inr (.inr ⟨i,rfl,(Jo.1 h).1,(vL.1 (Jo.1 h).2).2⟩)))
section
variable{s:aC}{J:aM→Prop}{y:bJ}
theorem aJJ{x0:bJ}(hl:∀i,hasB x0.l i=true→hasB y.l i=true)(hs:∀x x':aM,x'.dm=x.dm→x'.dv=x.dv→J x→J x')(sB:∀x (i:Nat),hasB y.d i=true→J x→J (wW s x i).1)(hoff:∀x (i:Nat) (c:Dom),s.domains[i]? =some c→hasB y.d i=false→J x→J (qE s x i c.ret).1):
  ∀p∈allM s x0 y,∀x,J x→J (mJ s x (qY p) p.id).1:=fun p hp x hx=>by
 rcases aTs hp hl with⟨i,rfl,h⟩ | ⟨i,rfl⟩ | ⟨i,rfl⟩ | ⟨i,rfl⟩ | ⟨i,rfl,hi,h⟩
 ·exact sB x i h hx
 ·exact hs x _ rfl rfl hx
 ·refine hs x _ ?_ ?_ hx
  ·show(yK x i).1.dm=x.dm
   unfold yK;split<;>rfl
  ·show(yK x i).1.dv=x.dv
   unfold yK;split<;>rfl
 ·exact hs x _ rfl rfl hx
 ·obtain⟨c,hc⟩:=get_some hi
  have hk:(qY ⟨17,4,i,lB s i⟩)=if c.ret then 107 else 100:=by
   simp only[qY,lB,hc,Option.map_some,Option.getD_some];cases c.ret<;>simp
  have:=hoff x i c hc h hx
  rw[hk];cases hr:c.ret
  ·rw[hr] at this;exact this
  ·rw[hr] at this;exact this
end
section
variable{s:aC}{m m':dQ}{j n:Nat}{k d q v e u:Int}
theorem aL9(o:wM s m j 115 d q v e u m')(ha:m.z.cn.iA=false):e=0∧u=0∧m'.z.cn=⟨m.z.cn.l,true⟩∧(m'.z.tk j).hs=(m.z.tk j).hs:=by
 have ho:=o.out
 unfold qF tD at ho;dsimp only at ho;rw[if_neg (by decide),if_neg (by decide),if_pos rfl,ha,if_neg (by simp)] at ho;simp only[Prod.mk.injEq] at ho;exact⟨ho.1,o.no (.inl (by decide)),ho.2⟩
theorem aMJ(o:wM s m j 109 d q v e u m')(ha:m.z.cn.iA=true):e=0∧u=0∧m'.z.cn=⟨m.z.cn.l,false⟩∧(m'.z.tk j).hs=(m.z.tk j).hs:=by
 have ho:=o.out
 unfold qF tE at ho;dsimp only at ho;rw[if_neg (by decide),if_neg (by decide),if_neg (by decide),if_pos rfl,ha,if_pos rfl] at ho;simp only[Prod.mk.injEq] at ho;exact⟨ho.1,o.no (.inl (by decide)),ho.2⟩
theorem aJP(o:wM s m j k d q v e u m')(hk:k=114∨k=119)(ha:m.z.cn.iA=false){i:Nat}(hd:d=(i:Int))(hi:i < s.aD.length)(hh:0 < hG (m.z.tk j) i)(hq:0≤q∧q < yL s d):e=0∧m'.z.cn=m.z.cn∧(m'.z.tk j).hs=(m.z.tk j).hs:=by
 have ho:=o.out
 unfold qF at ho;dsimp only at ho
 have hb:bO s.aD.length d=true:=decide_eq_true (by omega)
 rw[if_neg (by omega),if_neg (by omega),if_neg (by omega),if_neg (by omega),if_neg (by rw[hb];simp;omega),ha,if_neg (by rw[hd,Int.toNat_natCast];simp;omega)] at ho;simp only[Prod.mk.injEq] at ho;exact ho
theorem aMF(h:pI s m)(hz:m.z.cn.iA=true∨∀i:Nat,fE m.z.cn.l (i:Int)≤0)(i:Nat):hasB m.z.wn.d i=false:=by
 have hu:eK s m.z.cn=List.replicate (cZ s).length false:=by
  unfold eK Lb;split
  ·rfl
  ·rename_i hn
   exact aJM _ _ _ (hz.resolve_left hn) _
 rw[h.wd,hu,aC9];exact aDY _ _
theorem aGM(hm:s.made)(h:pI s m)(ha:m.z.cn.iA=false){i:Nat}{x:bL}(hd:s.aD[i]? =some x)(hc:0 < fE m.z.cn.l (i:Int)):hasB m.z.wn.d x.domain.toNat=true:=by
 rw[h.wd];exact(aFO hm hd (aFU ha (List.getElem?_eq_some_iff.1 hd).1 hc)).1
theorem aOW{d:bL}{r:Rg}{q:Nat}(hr:d.aL[q]? =some r){f0:bR}(hf:wP d f0){v:Int}(hv:f0.now[q]? =some v)(ret:Bool):
  (if ret then zX d (if ret then rR d f0 else tF d f0) else tF d (if ret then rR d f0 else tF d f0)).now.getD q 0=if r.kept&&ret then v else r.reset:=by
 have hl:=(List.getElem?_eq_some_iff.1 hr).1
 cases ret
 ·simp[tF,List.getD_eq_getElem?_getD,hr]
 ·obtain⟨w,hw⟩:=get_some (l:=f0.saved) (i:=q) (by have:=hf.saved;omega)
  have hz:(f0.now.zip f0.saved)[q]? =some (v,w):=List.getElem?_zip_eq_some.2 ⟨hv,hw⟩
  simp only[if_true,zX,rR,List.getD_eq_getElem?_getD,List.getElem?_zipWith,hr,hz,Option.getD_some,Bool.and_true];unfold Vb Jd;cases r.kept<;>rfl
end
def vT(put:Bool):Nat→Int
 | 0=>103
 | 1=>119
 | 2=>if put then 112 else 115
 | 3=>if put then 103 else 109
 | _=>114
theorem aOU(put:Bool):∀i,sZ (vT put i)
 | 0=>.inl rfl
 | 1=>.inr (.inr (.inr (.inl rfl)))
 | 2=>by cases put<;>decide
 | 3=>by cases put<;>decide
 | _+4=>.inr (.inr (.inl rfl))
theorem aOV{s:aC}(hm:s.made){dn q D:Nat}{d:bL}{r:Rg}{c:Dom}(hd:s.aD[dn]? =some d)(hr:d.aL[q]? =some r)(hD:d.domain=(D:Int))(hc:s.domains[D]? =some c){v:Int}(hv:0≤v∧v < 4294967296)(put:Bool):
  ∃(ms:Nat→dQ) (us:Nat→Int),ms 0=Jq s∧us 4=(if r.kept&&c.ret then v else r.reset)∧∀i,i < 5→wM s (ms i) 1 (vT put i) dn q v 0 (us i) (ms (i+1))∧eO s (i*400) (ms i)∧pI s (ms i):=by
 have T1:T3 1:=.inr (.inl rfl)
 have hi:=(List.getElem?_eq_some_iff.1 hd).1
 have Dl:=(List.getElem?_eq_some_iff.1 hc).1
 have hn:=hm.nv
 have hql:=(List.getElem?_eq_some_iff.1 hr).1
 have aPn:yL s (dn:Int)=d.aL.length:=by unfold yL;rw[Int.toNat_natCast,hd];rfl
 have hqq:(0:Int)≤(q:Int)∧(q:Int) < yL s (dn:Int):=by rw[aPn];omega
 have hDt:d.domain.toNat=D:=by omega
 have k0:=aOI hm
 have r0:=aMH hm
 obtain⟨e,u,m1,o1⟩:=Ob (k:=103) (d:=dn) (q:=q) (v:=v) hm r0 k0 T1 (.inl rfl) hv;obtain⟨rfl,rfl,c1,a1⟩:=aI1 o1 rfl rfl hi (Int.le_refl 0) (show(0:Int) < 7 by decide)
 have k1:eO s 400 m1:=o1.ok hm k0 r0 T1 (.inl rfl) hv
 have g1:fE m1.z.cn.l (dn:Int)=1:=by
  rw[c1,Nn,if_pos rfl];rfl
 have b1:hG (m1.z.tk 1) dn=1:=by
  unfold hG;rw[a1]
  show((List.replicate 6 (0:Int)).set dn (hG Px dn+1)).getD dn 0=1
  obtain rfl | rfl | rfl | rfl:dn=0∨dn=1∨dn=2∨dn=3:=by omega
  all_goals rfl
 obtain⟨e,u2,m2,o2⟩:=Ob (k:=119) (d:=dn) (q:=q) (v:=v) hm o1.rest k1 T1 (.inr (.inr (.inr (.inl rfl)))) hv;obtain⟨rfl,c2,a2⟩:=aJP o2 (.inr rfl) (by rw[c1]) rfl hi (by omega) hqq
 have k2:eO s 800 m2:=o2.ok hm k1 o1.rest T1 (.inr (.inr (.inr (.inl rfl)))) hv
 obtain⟨mI,p,h1,hp,_,vU⟩:=o2.acc (.inr rfl) rfl;obtain rfl:mI=dn:=by omega
 have sC:∀{m:dQ},pI s m→∃y,m.x.dm[D]? =some y:=fun {m} h=>get_some (by have:=h.inv.ok.dm.len;omega)
 have tA:m2.z.cn.iA=false:=by rw[c2,c1]
 have g2:fE m2.z.cn.l (mI:Int)=1:=by rw[c2];exact g1
 obtain⟨y1,hy1⟩:=sC o1.rest
 have p1:=(o1.rest.inv.dom _ _ hy1 (by simp)).1 (hDt▸aGM hm o1.rest (by rw[c1]) hd (by omega))
 have hlp:=(List.getElem?_eq_some_iff.1 hp).1
 have hw:=(o1.rest.inv.ok.each mI d p hd hp).1
 obtain⟨y2,f0,fK,mP,hf0⟩:∃y2 f0,qT mI D m2.x y2 f0∧y2.phase=49∧f0=⟨p.1.now.set q v,p.1.saved,p.1.kept⟩:=by
  have aQf:qT mI D {m1.x with wt:=(m1.x.wt.set mI (some ⟨m1.x.aQ,decide ((119:Int)=119),q,v⟩)).set mI none,dv:=m1.x.dv.set mI (uL p ⟨m1.x.aQ,decide ((119:Int)=119),q,v⟩),aQ:=m1.x.aQ+1} y1 ⟨p.1.now.set q v,p.1.saved,p.1.kept⟩:=⟨hy1,p.2,by
   show(m1.x.dv.set mI _)[mI]? =_
   rw[List.getElem?_set_self hlp];unfold uL
   rw[if_pos (show decide ((119:Int)=119)=true from rfl),Int.toNat_natCast]⟩
  have:=aQf.tick hd hD Dl 0
  rw[vU];obtain⟨ph,left,kept,keep⟩:=y1;dsimp only at p1;subst p1;exact⟨_,_,this,rfl,rfl⟩
 have hfo:wP d f0:=by
  obtain⟨_,q',lF⟩:=fK;exact(o2.rest.inv.ok.each mI d _ hd lF).1
 have hfv:f0.now[q]? =some v:=by
  rw[hf0];exact List.getElem?_set_self (by have:=hw.now;omega)
 obtain⟨m3,m4,o3,o4,k3,k4,z3,ha4,g4,b4⟩:∃m3 m4,wM s m2 1 (vT put 2) mI q v 0 0 m3∧wM s m3 1 (vT put 3) mI q v 0 0 m4∧eO s 1200 m3∧eO s 1600 m4∧(m3.z.cn.iA=true∨∀i:Nat,fE m3.z.cn.l (i:Int)≤0)∧m4.z.cn.iA=false∧0 < fE m4.z.cn.l (mI:Int)∧0 < hG (m4.z.tk 1) mI:=by
  have b2:hG (m2.z.tk 1) mI=1:=by unfold hG;rw[a2];exact b1
  cases put
  ·obtain⟨e,u,m3,o3⟩:=Ob (k:=115) (d:=mI) (q:=q) (v:=v) hm o2.rest k2 T1 (by decide) hv;obtain⟨rfl,rfl,c3,a3⟩:=aL9 o3 tA
   have k3:eO s 1200 m3:=o3.ok hm k2 o2.rest T1 (by decide) hv
   obtain⟨e,u,m4,o4⟩:=Ob (k:=109) (d:=mI) (q:=q) (v:=v) hm o3.rest k3 T1 (by decide) hv;obtain⟨rfl,rfl,c4,a4⟩:=aMJ o4 (by rw[c3])
   have k4:eO s 1600 m4:=o4.ok hm k3 o3.rest T1 (by decide) hv
   exact⟨m3,m4,o3,o4,k3,k4,.inl (by rw[c3]),by rw[c4],by rw[c4,c3];show 0 < fE m2.z.cn.l _;omega,by unfold hG;rw[a4,a3];show 0 < hG (m2.z.tk 1) mI;omega⟩
  ·obtain⟨e,u,m3,o3⟩:=Ob (k:=112) (d:=mI) (q:=q) (v:=v) hm o2.rest k2 T1 (by decide) hv;obtain⟨rfl,rfl,c3,a3⟩:=aNy o3 tA rfl hi (by omega) (by omega) (by omega)
   have k3:eO s 1200 m3:=o3.ok hm k2 o2.rest T1 (by decide) hv
   have g3:∀i:Int,fE m3.z.cn.l i=0:=fun i=>by
    rw[c3,Nn];split
    ·omega
    ·rename_i h
     rw[c2,c1,Nn,if_neg h];rfl
   obtain⟨e,u,m4,o4⟩:=Ob (k:=103) (d:=mI) (q:=q) (v:=v) hm o3.rest k3 T1 (by decide) hv;obtain⟨rfl,rfl,c4,a4⟩:=aI1 o4 (by rw[c3]) rfl hi (by rw[g3];decide) (by rw[g3];decide)
   have k4:eO s 1600 m4:=o4.ok hm k3 o3.rest T1 (by decide) hv
   refine⟨m3,m4,o3,o4,k3,k4,.inr fun i=>by rw[g3];decide,by rw[c4],by rw[c4,Nn,if_pos rfl,g3];decide,?_⟩
   have hl:=k3.yJ.toRwB.len 1 T1
   have h3:=k3.yJ.toRwB.nn 1 T1 mI
   have:=aEf (k:=mI) (v:=hG (m3.z.tk 1) mI+1) hl (show mI < 6 by omega)
   rw[if_pos rfl] at this;unfold hG at this⊢;rw[a4];unfold pL hG;dsimp only;rw[this];unfold hG at h3;omega
 have aP3:vT put 2≠114∧vT put 2≠119:=by cases put<;>decide
 have aP2:vT put 3≠114∧vT put 3≠119:=by cases put<;>decide
 have hno:=aMF o3.rest z3
 have lS:=hDt▸aGM hm o4.rest ha4 hd g4
 obtain⟨l3,t3⟩:=o3.aGd aP3
 have j3:Pg mI D d c.ret f0 m3.x:=t3 _ (fun x h=>h.tick hd hD Dl 0) (aJJ l3 (fun x x' e1 e2 ⟨mD,f,h1,h2⟩=>⟨mD,f,h1.same e1 e2,h2⟩) (fun x i h hx=>by rw[hno] at h;cases h) (fun x i c' Bf _ hx=>hx.off i c'.ret fun he=>by subst he;rw[hc] at Bf;rw[Option.some.inj Bf])) ⟨y2,f0,fK,.inl ⟨mP,rfl⟩⟩
 obtain⟨y3,f1,at3,j3⟩:=j3
 have p3:=(o3.rest.inv.dom _ _ at3.1 (by simp)).2 (hno D)
 have j3':y3.phase=(if c.ret then 116 else 48)∧f1=if c.ret then rR d f0 else tF d f0:=by
  rcases j3 with h | h | h
  ·omega
  ·omega
  ·exact h
 obtain⟨l4,t4⟩:=o4.aGd aP2
 have j4:Gn mI D d c.ret f1 m4.x:=t4 _ (fun x h=>h.tick hd hD Dl 0) (aJJ l4 (fun x x' e1 e2 ⟨mD,f,h1,h2⟩=>⟨mD,f,h1.same e1 e2,h2⟩) (fun x i _ hx=>hx.on i) (fun x i c' _ h hx=>hx.off i c'.ret fun he=>by subst he;rw[lS] at h;cases h)) ⟨y3,f1,at3,.inl ⟨j3'.1,rfl⟩⟩
 obtain⟨y4,f2,at4,j4⟩:=j4
 have p4:=(o4.rest.inv.dom _ _ at4.1 (by simp)).1 lS
 have j4':f2=if c.ret then zX d f1 else tF d f1:=by
  rcases j4 with h | h | h
  ·exact absurd (p4.symm.trans h.1) (by cases c.ret<;>decide)
  ·omega
  ·exact h.2
 obtain⟨e,u5,m5,o5⟩:=Ob (k:=114) (d:=mI) (q:=q) (v:=v) hm o4.rest k4 T1 (by decide) hv;obtain⟨rfl,_,_⟩:=aJP o5 (.inl rfl) ha4 rfl hi b4 hqq;obtain⟨dn2,p5,h5,hp5,hu5,_⟩:=o5.acc (.inl rfl) rfl;obtain rfl:dn2=mI:=by omega
 obtain⟨_,q5,Mw⟩:=at4;rw[hp5] at Mw
 have aPx:p5.1=f2:=by rw[Option.some.inj Mw]
 have hval:u5=if r.kept&&c.ret then v else r.reset:=by
  rw[hu5,aPx,j4',j3'.2,Int.toNat_natCast];exact aOW hr hfo hfv c.ret
 refine⟨fun i=>match i with | 0=>Jq s | 1=>m1 | 2=>m2 | 3=>m3 | 4=>m4 | _=>m5,fun i=>match i with | 1=>u2 | 4=>u5 | _=>0,rfl,hval,fun i hi=>?_⟩
 match i,hi with
 | 0,_=>exact⟨o1,k0,r0⟩
 | 1,_=>exact⟨o2,k1,o1.rest⟩
 | 2,_=>exact⟨o3,k2,o2.rest⟩
 | 3,_=>exact⟨o4,k3,o3.rest⟩
 | 4,_=>exact⟨o5,k4,o4.rest⟩
 | i+5,hi=>omega
end
section
theorem pW.aRY{p:Piece}{s:aC}{A1 A2 A3 A4:Option Addr}{n1 n2 n3 n4:Nat}(h:pW p s A1 n1 A2 n2 A3 n3 A4 n4){i:Nat}{d:bL}(hd:s.aD[i]? =some d):∃b off A k,A4=some ⟨b,off,none⟩∧p.Z b∧p.w.cell? ⟨b,off+i*6+1,none⟩=some (iv d.domain)∧p.w.cell? ⟨b,off+i*6+4,none⟩=some (.slice A d.aL.length k)∧aI p 2 A d.aL.length (d.aL.flatMap Rg.cells):=by
 obtain⟨rows,hr,rfl,hs⟩:=h.dev
 have hi:=(List.getElem?_eq_some_iff.1 hd).1
 obtain⟨r,h2,h6,A,n,q,A',n',q',rfl,rfl,h5,h7,h8⟩:=aAC hr i d hd;obtain⟨b,off,rfl,hz,hc⟩:=hs.2 (by omega)
 have hf:=fun k hk=>Nq (fun x=>x) 6 rows (fun r hr'=>Rows.Ze hr r hr') i k _ h2 hk
 exact⟨b,off,A,q,rfl,hz,by rw[Nat.add_assoc];exact hc _ _ (by simpa using hf 1 (by decide)),by rw[Nat.add_assoc];exact hc _ _ (by simpa using hf 4 (by decide)),h7⟩
theorem pW.aRD{p:Piece}{s:aC}{A1 A2 A3 A4:Option Addr}{n1 n2 n3 n4:Nat}(h:pW p s A1 n1 A2 n2 A3 n3 A4 n4){i:Nat}{d:Dom}(hd:s.domains[i]? =some d):∃b off,A2=some ⟨b,off,none⟩∧p.Z b∧p.w.cell? ⟨b,off+i*3+2,none⟩=some (.bool d.ret):=by
 obtain⟨rows,hr,rfl,hs⟩:=h.dom
 have hi:=(List.getElem?_eq_some_iff.1 hd).1
 obtain⟨r,h2,h6,rfl⟩:=aAC hr i d hd;obtain⟨b,off,rfl,hz,hc⟩:=hs.2 (by omega)
 have hf:=Nq (fun x=>x) 3 rows (fun r hr'=>Rows.Ze hr r hr') i 2 _ h2 (by decide)
 exact⟨b,off,rfl,hz,by rw[Nat.add_assoc];exact hc _ _ (by simpa using hf)⟩
theorem Tu{w0:World}{R:List Piece}{H:List HP}{q:Piece}(hq:q∈R){b o:Nat}{v:Value}(hz:q.Z b)(hc:q.w.cell? ⟨b,o,none⟩=some v):Rd w0 R H b o v:=fun w t=>(World.cell?_of_block (w:=q.w) (a:=⟨b,o,none⟩) (t.le hq b hz).2).trans hc
def aD3(put:Bool):List Value:=[.int .u8 (vT put 0),.int .u8 (vT put 1),.int .u8 (vT put 2),.int .u8 (vT put 3),.int .u8 (vT put 4)]
theorem aOT(put:Bool):∀i,i < 5→(aD3 put)[i]? =some (.int .u8 (vT put i))
 | 0,_ | 1,_ | 2,_ | 3,_ | 4,_=>rfl
 | i+5,h=>absurd h (by omega)
set_option maxRecDepth 100000 in
theorem aMu(A:Option Addr)(n c:Nat)(zs:List Int)(at_ bT v:Int)(put:Bool)(w:World)(h0:aI (all w) 1 A n (aK zs))(hz:aCo zs)(hn:n=zs.length)(hn2:n≤9223372036854775807)(ha:aCn at_)(hb:aCn bT)(hv:0≤v∧v < 4294967296)(fD:kM (all w)):
    Cz 3 #[.slice A n c,iv at_,iv bT,.int .u32 v,.bool put] w (Rt (.bool true) w):=by
  refine aN func3 ntmps3 ?_;refine aB ?_;refine aU (fun w1 t=>aLJ w1) ?_;refine aB ?_;refine jQ [] (fun v w w'=>∃cs s,v=.agg cs∧wH (fF (fresh w w')) s cs∧s.made) (fun w1 t=>aS5 A n c zs w1 (h0.le (t.le (by simp))) hz hn hn2) ?_;rintro _ w1 q1 ⟨cs,s,rfl,hcs,hm⟩ Dc _ tB;obtain⟨A1,m1,k1,A2,m2,k2,A3,m3,k3,A4,m4,k4,rfl,hsp⟩:=wH.P hcs
  have hsp:=hsp.le Dc
  obtain⟨rfl,rfl,rfl,rfl⟩:=hsp.len
  have nD:=hm.nv
  have hnd:=hm.nd
  have cS:=Vw hm
  obtain⟨p0,p1⟩:=aHi at_ s.aD.length (by omega);obtain⟨x,hx⟩:∃x:Nat,Mg at_ s.aD.length=x:=⟨_,(Int.toNat_of_nonneg p0).symm⟩
  have hxl:x < s.aD.length:=by omega
  obtain⟨d,hd⟩:=get_some hxl;obtain⟨b4,o4,Ar,kr,rfl,Fe,Ng,Xi,Mu⟩:=hsp.aRY hd
  have hfit:=hm.aD x d hd
  obtain⟨D,hD⟩:∃D:Nat,d.domain=D:=⟨_,(Int.toNat_of_nonneg hfit.2.2.1).symm⟩
  have Dl:D < s.domains.length:=by have:=hfit.2.2.2.1;omega
  obtain⟨c2,oB⟩:=get_some Dl;obtain⟨b2,o2,rfl,oP,hcr⟩:=hsp.aRD oB
  have hrl:d.aL.length≤4:=hfit.2.2.2.2.2.2.2.2.1
  refine aB ?_;refine bU fun gS=>?_;refine aB ?_;refine iY (aFj s) (fun w1 t=>aGJ s A1 _ A3 _ _ k1 _ k2 _ k3 _ k4 w1 (hsp.W (t.le (by simp)) cS) hm) ?_;rintro _ _ q2 ⟨gR,f,r,hL,pX,rfl,rfl,aW⟩ _;dsimp only[List.cons_append,List.nil_append];refine aY [1,2,3,0,4] rfl (by decide) (R':=[q1,all w]) (by simp) ?_;refine Zo ?_;refine aY [1,0,2] rfl (by decide) (fun _ h=>h) ?_;refine nH ?_
  change XK _ _ _ _ _ [Tt gR r f hL (.pointer pX) s (Jq s),_]
  refine aB ?_;refine aU (fun w1 t=>aHj at_ s.aD.length w1 ha (by omega)) ?_;rw[hx];refine Oi (Tu (by simp) Fe Xi) fun aPp=>?_;refine aB ?_;refine aG rfl (fun hg=>?_) (fun hg=>?_)
  · refine aB ?_
    exact dG
  obtain⟨p2,p3⟩:=aHi bT d.aL.length (by omega);obtain⟨y,hy⟩:∃y:Nat,Mg bT d.aL.length=y:=⟨_,(Int.toNat_of_nonneg p2).symm⟩
  have hyl:y < d.aL.length:=by omega
  obtain⟨rg,uW⟩:=get_some hyl;obtain⟨b3,o3,rfl,Mm,Xj⟩:=Mu.2 (by omega);obtain⟨ms,us,hm0,hus,hrun⟩:=aOV hm hd uW hD oB hv put;refine aB ?_;refine aU (fun w1 t=>aHj bT d.aL.length w1 hb (by omega)) ?_;rw[hy];refine aB ?_;refine eH fun g1=>?_;refine aB ?_;refine On (α:=Nat) (fun gk=>[(17,.slice (some ⟨gk,0,none⟩) 5 5),(13,pt gR),(12,pt gS),(15,iv (x:Int)),(16,iv (y:Int)),(3,.int .u32 v)]) (fun gk=>[HP.aE gk 5 (aD3 put),Tt gR r f hL (.pointer pX) s (Jq s),HP.aE gS 30 [.slice A1 s.aF.length k1,.slice (some ⟨b2,o2,none⟩) s.domains.length k2,.slice A3 s.aT.length k3,.slice (some ⟨b4,o4,none⟩) s.aD.length k4]]) (fun _=>True) ?_ fun gk _=>?_
  · cases put
    · refine aB ?_
      exact fY g1
    · refine aB ?_
      refine eH fun g2=>?_;refine aB ?_;exact fY g2
  refine aB ?_;refine Gk (α:=Unit) (fun _=>[]) (fun _=>[]) (fun _=>True) ?_ fun _ _=>?_
  · refine qN (α:=Unit) (fun i _=>[(18,iv i),(17,.slice (some ⟨gk,0,none⟩) 5 5),(13,pt gR),(12,pt gS),(15,iv (x:Int)),(16,iv (y:Int)),(3,.int .u32 v)]) (fun i _=>[HP.aE gk 5 (aD3 put),Tt gR r f hL (.pointer pX) s (ms i),HP.aE gS 30 [.slice A1 s.aF.length k1,.slice (some ⟨b2,o2,none⟩) s.domains.length k2,.slice A3 s.aT.length k3,.slice (some ⟨b4,o4,none⟩) s.aD.length k4]]) (fun _ _=>True) 5 () trivial ?_ (hC:=by rw[hm0];exact Oy)
    intro i _ hi _;refine aB ?_;refine aG rfl (fun hlt=>?_) (fun hge=>?_)
    · have hlt:i < 5:=by omega
      obtain⟨o,hok,Jv⟩:=hrun i hlt;refine Oi (Rd.aE 0 rfl (aOT put i hlt)) fun hrk=>?_;refine aB ?_;refine dZ 1 (Tt gR r f hL (.pointer pX) s (ms (i+1))) (fun w1 F1 t h1 h2 h3=>aLQ gR r f hL (.pointer pX) s (i*400) 400 (ms i) (ms (i+1)) 1 (vT put i) x y v 0 (us i) _ w1 F1 hm aW hok (by omega) (by decide) hv (aGj Jv (.inr (.inl rfl)) (aOU put i)) o.stl (kM.le fD (h3 _ (by simp))) h1 h2) ?_;refine aB ?_;refine bU fun g19=>?_;refine aB ?_;refine aG rfl (fun h4=>?_) (fun h4=>?_)
      · refine aB ?_
        exact jU ()
      · obtain rfl:i=4:=by omega
        refine Oi (Tu (by simp) Fe Xi) fun aPp=>?_;refine Oi (Tu (by simp) Fe Ng) fun aIc=>?_;refine Oi (Tu (by simp) Mm (Xj _ _ (aCU (k:=0) uW (by decide) rfl))) fun aPr=>?_;refine Oi (Tu (by simp) Mm (Xj _ _ (aCU (k:=1) uW (by decide) rfl))) fun aPq=>?_;refine Oi (Tu (by simp) oP hcr) fun aPo=>?_;rw[hD] at aIc;refine aB ?_;cases hkk:rg.kept
        all_goals cases cE:c2.ret
        all_goals
          rw[hkk] at aPq;rw[cE] at aPo;rw[hkk,cE] at hus;refine aES ?_;refine fJ ?_;refine aB ?_;refine jT (by simp) ?_;rw[hus];simp
    · refine aB ?_
      exact fY ()
  · refine aB ?_
    exact dG
end
end Go.Proofs.YtdcdccmpcmjmhaaGreatDoor
