/- the references' makers: tasks, firmware. -/
import Derived.Laws.StructEq
import Derived.Shelf.SlMaps.Clone
import Derived.Test.YtdcdccmpcmjmhaaGreatDoorRpmNeedsK7
namespace Go.Proofs.YtdcdccmpcmjmhaaGreatDoor
set_option linter.all false
set_option maxHeartbeats 4000000
set_option maxRecDepth 20000
open Go.RowKit Go.Proofs.Tryz
section
section
variable(s:aD)(A1 A2 A3 A4:Option Addr)(n1 k1 n2 k2 n3 k3 n4 k4:Nat)(w:World)(hW:fE w s A1 n1 A2 n2 A3 n3 A4 n4)(hm:s.made)
include hW hm
theorem aNa:Cz 87 #[.agg #[.slice A1 n1 k1,.slice A2 n2 k2,.slice A3 n3 k3,.slice A4 n4 k4],sn] w (fun y w'=>(∃v,y=.returned v∧∃v1 v2 v3:Value,v=.agg #[v1,v2,v3])∧Below w.heap.size w w'):=by
 obtain rfl:=hW.mZ;obtain rfl:=hW.nL;obtain rfl:=hW.pM;obtain rfl:=hW.nK
 have hnc:=hm.nc
 have hnd:=hm.nd
 have iJ:=hm.nr
 have nB:=hm.nv
 refine aL func87 ntmps87 ?_;refine aB ?_;refine bA fun g1=>?_;refine bR fun g2=>?_;refine aB ?_;refine Ta (α:=Nat×Nat×Nat×Nat) (fun x=>[(5,.pointer (some ⟨x.2.2.2,0,none⟩)),(4,pt g2),(2,pt g1),(1,sn)]) (fun x=>[HP.aE x.2.2.2 198 [.slice (some ⟨x.1,0,none⟩) s.domains.length s.domains.length,.slice (some ⟨x.2.1,0,none⟩) s.aF.length s.aF.length,.slice (some ⟨x.2.2.1,0,none⟩) s.aT.length s.aT.length],HP.aE g2 198 [sn,sn,sn],HP.aE g1 30 [.slice A1 s.aF.length k1,.slice A2 s.domains.length k2,.slice A3 s.aT.length k3,.slice A4 s.aC.length k4]]) (fun _=>True) ?_ fun x _=>?_
 ·refine rB 14 (by kernel_rfl) (by kernel_rfl) ?_;refine bB 0 ?_;refine bB 1 ?_;refine bB 2 ?_;refine bB 4 ?_;refine bB 5 ?_;refine bB 6 ?_;refine bB 8 ?_;refine bB 9 ?_;refine bB 10 ?_;refine aCd (fuel:=2) [3,7,11,13] [[3,7,11],[3,7,11,13]] (fun i=>match i with | 3=>⟨14,4,List.replicate s.domains.length (.bool false),fun g=>.slice (some ⟨g,0,none⟩) s.domains.length s.domains.length⟩ | 7=>⟨18,4,List.replicate s.aF.length (.bool false),fun g=>.slice (some ⟨g,0,none⟩) s.aF.length s.aF.length⟩ | 11=>⟨22,4,List.replicate s.aT.length (.bool false),fun g=>.slice (some ⟨g,0,none⟩) s.aT.length s.aT.length⟩ | _=>⟨5,198,[sn,sn,sn],fun g=>pt g⟩) (fun i hi=>?_) (by show[14,18,22,5].Nodup;decide) (by kernel_rfl) (fun _ h=>h) (fun sub hsub hex g=>?_)
  ·simp only[List.mem_cons,List.not_mem_nil,or_false] at hi;rcases hi with rfl | rfl | rfl | rfl
   ·exact uA.of rfl rfl rfl (zV 1 (el:=4) (z:=.bool false) (by kernel_rfl) (by kernel_rfl) rfl rfl rfl (by omega) (by omega)) (Nat.le_of_ble_eq_true rfl) rfl
   ·exact uA.of rfl rfl rfl (zV 1 (el:=4) (z:=.bool false) (by kernel_rfl) (by kernel_rfl) rfl rfl rfl (by omega) (by omega)) (Nat.le_of_ble_eq_true rfl) rfl
   ·exact uA.of rfl rfl rfl (zV 1 (el:=4) (z:=.bool false) (by kernel_rfl) (by kernel_rfl) rfl rfl rfl (by omega) (by omega)) (Nat.le_of_ble_eq_true rfl) rfl
   ·exact uA.of rfl rfl rfl (aH5 (iG (by kernel_rfl))) (Nat.le_of_ble_eq_true rfl) rfl
  have fX:sub=[3,7,11]∨sub=[3,7,11,13]:=by simpa using hex
  rcases fX with rfl | rfl
  ·dsimp only[qZ,tH,kS,List.map,List.foldr,List.cons_append,List.nil_append,List.length_cons,List.length_nil,Nat.reduceAdd,Nat.reduceSub];refine bB 12 ?_ (hi:=rfl) (dI:=fZ rfl) (hsub:=fun _ h=>h.tail.tail.tail);refine cE 13 ?_;refine bR fun g6=>?_;refine iD ?_;refine gQ ?_;refine kW (fun _ h=>h.tail.tail.tail.tail) ?_;refine cE 14 ?_;refine oM 0 rfl ?_;dsimp only[List.set];refine fA ?_;refine kG ?_;refine aB ?_;exact gB (_,_,_,_)
  ·dsimp only[qZ,tH,kS,List.map,List.foldr,List.cons_append,List.nil_append,List.length_cons,List.length_nil,Nat.reduceAdd,Nat.reduceSub];refine bB 12 ?_ (hi:=rfl) (dI:=fZ rfl) (hsub:=fun _ h=>h.tail.tail.tail.tail);refine cE 14 ?_;refine oM 3 rfl ?_;dsimp only[List.set];refine fA ?_;refine kG ?_;refine aB ?_;exact gB (_,_,_,_)
 obtain⟨ga,gb,gc,gw⟩:=x;dsimp only;refine aB ?_;refine pT (α:=Unit) (fun i _=>[(6,iv i),(5,pt gw),(4,pt g2),(2,pt g1),(1,sn)]) (fun _ _=>[HP.aE gw 198 [.slice (some ⟨ga,0,none⟩) s.domains.length s.domains.length,.slice (some ⟨gb,0,none⟩) s.aF.length s.aF.length,.slice (some ⟨gc,0,none⟩) s.aT.length s.aT.length],HP.aE g2 198 [sn,sn,sn],HP.aE g1 30 [.slice A1 s.aF.length k1,.slice A2 s.domains.length k2,.slice A3 s.aT.length k3,.slice A4 s.aC.length k4]]) (fun _ _=>True) 0 () trivial fun i _ hi _=>?_;obtain rfl:i=0:=by omega
 refine aB ?_;refine bU (t:=29) rfl (fun hg=>?_) (fun hg=>?_)
 all_goals
  refine aB ?_;exact Nz (vs:=[.slice (some ⟨ga,0,none⟩) s.domains.length s.domains.length,.slice (some ⟨gb,0,none⟩) s.aF.length s.aF.length,.slice (some ⟨gc,0,none⟩) s.aT.length s.aT.length]) rfl (by kernel_rfl) rfl rfl (aQ.whole 1 rfl) fun w1 t=>⟨⟨_,rfl,_,_,_,rfl⟩,t.below (by simp)⟩
theorem aNb:Cz 86 #[.agg #[.slice A1 n1 k1,.slice A2 n2 k2,.slice A3 n3 k3,.slice A4 n4 k4]] w (fun y w'=>(∃v,y=.returned v∧∃p:Option Addr,v=.tuple #[.pointer p,iv 0])∧Below w.heap.size w w'):=by
 obtain rfl:=hW.nK
 have nB:=hm.nv
 refine aL func86 ntmps86 ?_;refine aB ?_;refine bA fun g1=>?_;refine aB ?_;refine aU (fun w1 t=>Uy s A1 A2 A3 A4 _ k1 _ k2 _ k3 _ k4 w1 (hW.le (t.started (by simp))) hm) ?_;refine aB ?_;refine qM ?_;refine La 1 5 rfl rfl (by kernel_rfl) ?_ ?_
 ·refine uP (fun v=>∃(A:Option Addr) (n c:Nat),v=.slice A n c) (fun w1 t=>(aCW s A1 A2 A3 A4 _ k1 _ k2 _ k3 _ k4 w1 (hW.le (t.started (by simp)))).mono fun y w' ⟨⟨v,h1,h2⟩,h3⟩=>⟨⟨v,h1,by obtain⟨A,c,rfl,_⟩:=h2;exact⟨_,_,_,rfl⟩⟩,h3⟩) fun v hv=>?_;obtain⟨A,n,c,rfl⟩:=hv;refine bL ?_;refine aM 5 ?_;refine lX 8 (n:=s.aC.length) (el:=3) (z:=iv 0) (by kernel_rfl) (by kernel_rfl) rfl rfl rfl (by omega) (by omega) (by decide) fun g2=>?_;refine bL ?_;refine nZ [6,7,8,9] ?_;refine aB ?_;refine bA fun g3=>?_;refine aB ?_;exact eK rfl rfl rfl fun w1 t=>⟨⟨_,rfl,⟨_,rfl⟩⟩,t.below (by simp)⟩
 ·refine lX 8 (n:=s.aC.length) (el:=3) (z:=iv 0) (by kernel_rfl) (by kernel_rfl) rfl rfl rfl (by omega) (by omega) (by decide) fun g2=>?_;refine bL ?_;refine aM 1 ?_;refine uP (fun v=>∃(A:Option Addr) (n c:Nat),v=.slice A n c) (fun w1 t=>(aCW s A1 A2 A3 A4 _ k1 _ k2 _ k3 _ k4 w1 (hW.le (t.started (by simp)))).mono fun y w' ⟨⟨v,h1,h2⟩,h3⟩=>⟨⟨v,h1,by obtain⟨A,c,rfl,_⟩:=h2;exact⟨_,_,_,rfl⟩⟩,h3⟩) fun v hv=>?_;obtain⟨A,n,c,rfl⟩:=hv;refine bL ?_;refine nZ [6,7,8,9] ?_;refine aB ?_;refine bA fun g3=>?_;refine aB ?_;exact eK rfl rfl rfl fun w1 t=>⟨⟨_,rfl,⟨_,rfl⟩⟩,t.below (by simp)⟩
theorem aNc(p:Option Addr):Cz 38 #[.pointer p,.agg #[.slice A1 n1 k1,.slice A2 n2 k2,.slice A3 n3 k3,.slice A4 n4 k4]] w (fun y w'=>(∃v,y=.returned v∧wD v)∧Below w.heap.size w w'):=by
 obtain rfl:=hW.mZ;obtain rfl:=hW.nL;obtain rfl:=hW.pM;refine aL func38 ntmps38 ?_;refine aB ?_;refine bA fun g1=>?_;refine aB ?_;refine aU (fun w1 t=>Uy s A1 A2 A3 A4 _ k1 _ k2 _ k3 _ k4 w1 (hW.le (t.started (by simp))) hm) ?_;refine aB ?_;cases p with
 | none=>
  refine aB ?_;exact eK rfl rfl rfl fun w1 t=>⟨⟨_,rfl,⟨_,_,rfl⟩⟩,t.below (by simp)⟩
 | some a=>
  refine aB ?_;refine qM ?_;refine aM 3 ?_;refine uP (fun v=>∃v1 v2 v3 v4 v5 v6:Value,v=.agg #[v1,v2,v3,v4,v5,v6]) (fun w1 t=>aNd s A1 A2 A3 A4 k1 k2 k3 n4 k4 w1 hm) fun v hv=>?_;obtain⟨v1,v2,v3,v4,v5,v6,rfl⟩:=hv;refine bL ?_;refine nZ [4,5,6,7] ?_;refine aB ?_;refine bA fun g2=>?_;refine aB ?_;exact eK rfl rfl rfl fun w1 t=>⟨⟨_,rfl,⟨_,_,rfl⟩⟩,t.below (by simp)⟩
end
end
section
theorem aMA{l:List Rg}{i k:Nat}{a:Rg}{v:Value}(h:l[i]? =some a)(hk:k < 2)(hv:a.cells[k]? =some v):(l.flatMap Rg.cells)[i*2+k]? =some v:=(Rr Rg.cells 2 l (fun _ _=>rfl) i k a h hk).trans hv
theorem aMV(f n kR:Nat)(RA:Option Addr)(v1 v2 v3:Value)(aP:List Rg)(hn:n=aP.length)(hn8:n≤8)(w:World)(F:Nat→Prop)(hp:(HP.many [HP.aE f 322 [.slice RA n kR,v1,v2,v3],HP.own 48 2 (.slice RA n kR) n (aP.flatMap Rg.cells)]).sat F w)(hF:∀b,F b→b < w.heap.size):
  Cz 154 #[pt f] w (Wr (.tuple #[]) (HP.many [cG,cG]) w F):=by
 subst hn;refine dJ func154 ntmps154 hp hF ?_;generalize cK:(⟨w,fun b=>b < w.heap.size∧¬F b⟩:Piece)=R0;refine bF 0 0 ?_;refine bF 1 1 ?_;refine aB ?_;refine iO 23 1 ?_;refine pT (α:=(Option Addr×Nat)×List Value) (fun i _=>[(2,iv i),(0,pt f)]) (fun i x=>[HP.own 23 1 (.slice x.1.1 i x.1.2) i x.2,HP.own 48 2 (.slice RA aP.length kR) aP.length (aP.flatMap Rg.cells),HP.aE f 322 [.slice RA aP.length kR,.slice x.1.1 i x.1.2,v2,v3],HP.many [cG,cG]]) (fun _ _=>True) aP.length ((none,0),[]) trivial fun i x hi _=>?_;obtain⟨⟨L1,L2⟩,L3⟩:=x;dsimp only;refine aB ?_;refine aG rfl (fun hlt=>?_) (fun hge=>?_)
 ·have hlt:i < aP.length:=by omega
  obtain⟨r,hr⟩:=get_some hlt
  have hx:=aMA (k:=0) hr (by omega) rfl
  refine aJQ 1 rfl (by omega) fun⟨gR,hgR⟩=>?_;subst hgR;refine aB ?_;refine qM ?_;refine aM 13 ?_;refine eL fun g3=>?_;refine bL ?_;refine nZ [14,15,16,17] ?_;refine aB ?_;refine sN 1 fun A' k'=>?_;dsimp only[List.set];refine aB ?_;exact jM ((_,_),_)
 ·refine aB ?_;subst cK;exact jZ 3 hF
theorem aM9(l:List Rg):∀v∈l.flatMap Rg.cells,v.oneCell'=true:=fun v hv=>by
 obtain⟨r,_,hv⟩:=List.mem_flatMap.1 hv;simp only[Rg.cells,List.mem_cons,List.not_mem_nil,or_false] at hv;rcases hv with rfl | rfl<;>rfl
theorem aMU(aP:List Rg)(hl:aP.length≤8)(A:Option Addr)(c:Nat)(w:World)(hs:aI (all w) 2 A aP.length (aP.flatMap Rg.cells)):
  Cz 81 #[.slice A aP.length c] w (fun y w'=>(∃v,y=.returned v∧wD v)∧Below w.heap.size w w'):=by
 refine aL func81 ntmps81 ?_;refine aB ?_;refine aG rfl (fun h=>absurd h (by omega)) (fun _=>?_);refine aB ?_;refine Dw (el:=48) (sz:=2) (by kernel_rfl) (by kernel_rfl) (by decide) fun g=>?_;refine Bn 0 2 0 rfl rfl (by omega) ?_;dsimp only[List.set];refine aB ?_;refine gH 0 2 8 aP.length (n':=aP.length) (el:=48) (by kernel_rfl) (by kernel_rfl) (by decide) rfl rfl rfl (qV (by simp) hs) (aM9 _) (by omega) (by omega) (by omega) (by decide) fun A' k'=>?_;dsimp only[List.set,List.nil_append];refine aB ?_;refine bA fun g2=>?_;refine aB ?_;refine nG ?_;refine dU 0 (HP.many [cG,cG]) (fun w1 F1 t h1 h2 h3=>aMV g2 aP.length k' A' _ _ _ aP rfl hl w1 F1 h1 h2) ?_;refine aB ?_;exact eK rfl rfl rfl fun w1 t=>⟨⟨_,rfl,⟨_,_,rfl⟩⟩,t.below (by simp)⟩
end
section
def aTU(v:Value)(_ _:World):Prop:=∃p:Option Addr,v=.pointer p
def aTV(v:Value)(_ _:World):Prop:=∃(p:Option Addr) (e:Int),v=.tuple #[.pointer p,iv e]
theorem aNg(w:World):Cz 82 #[] w (fun y w'=>(∃v,y=.returned v∧aTU v w w')∧Below w.heap.size w w'):=by
 refine aL func82 ntmps82 ?_;refine aA ?_;refine kd (fZ rfl) ?_;refine bA fun g1=>?_;refine aA ?_;exact aS (h:=fun _ _=>⟨_,rfl,⟨_,rfl⟩⟩)
theorem aNf(A:Option Addr)(n c:Nat)(zs:List Int)(w:World)(hs:aI (all w) 1 A n (aK zs))(hn:n=zs.length)(hn2:n≤1000):Cz 83 #[.slice A n c] w (fun y w'=>(∃v,y=.returned v∧aTV v w w')∧Below w.heap.size w w'):=by
 subst hn;refine aL func83 ntmps83 ?_;refine aA ?_;refine aG rfl (fun h6=>?_) (fun h6=>?_)
 ·refine aA ?_;exact eK rfl rfl rfl fun w1 t=>⟨⟨_,rfl,⟨_,_,rfl⟩⟩,t.below (by simp)⟩
 ·refine aA ?_;refine bJ [(4,iv 0),(3,iv 0),(2,.pointer none),(0,.slice A zs.length c)] ?_;refine eI (fun m e R H=>∃i:Nat,i≤zs.length∧m=zs.length - i∧e=[(4,iv i),(3,iv 0),(2,.pointer none),(0,.slice A zs.length c)]∧R=[all w]∧H=[]) zs.length ⟨0,by omega,rfl,rfl,rfl,rfl⟩ fun m e R H hI=>?_;obtain⟨i,hi,rfl,rfl,rfl,rfl⟩:=hI;refine aA ?_;refine aG rfl (fun hlt=>?_) (fun hge=>?_)
  ·have hlt:i < zs.length:=by omega
   obtain⟨x,hx⟩:=get_some hlt;obtain⟨b,off,rfl,hr⟩:=aI.int hs (by omega)
   have k1:=hr i x hx
   refine aA ?_;refine kd (dat i (off+i)) ?_;refine aA ?_;refine bU (t:=19) rfl (fun h0=>?_) (fun h0=>?_)
   ·refine aA ?_;exact eK rfl rfl rfl fun w1 t=>⟨⟨_,rfl,⟨_,_,rfl⟩⟩,t.below (by simp)⟩
   ·refine aA ?_;refine kd (dat i (off+i)) ?_;refine aA ?_;refine aG rfl (fun h8=>?_) (fun h8=>?_)
    ·refine aA ?_;exact eK rfl rfl rfl fun w1 t=>⟨⟨_,rfl,⟨_,_,rfl⟩⟩,t.below (by simp)⟩
    ·refine aA ?_;exact dY (zs.length - (i+1)) ⟨i+1,hlt,rfl,rfl,rfl,rfl⟩
  ·refine aA ?_;refine Dw (el:=3) (sz:=1) (by kernel_rfl) (by kernel_rfl) (by decide) fun g=>?_;refine Bn 0 1 0 rfl rfl (by omega) ?_;dsimp only[List.set];refine aA ?_;refine gH 0 1 8 zs.length (n':=zs.length) (el:=3) (by kernel_rfl) (by kernel_rfl) (by decide) rfl rfl rfl (qV (by simp) hs) (fun v hv=>by simp[aK] at hv;obtain⟨_,_,rfl⟩:=hv;rfl) (by omega) (by omega) (by omega) (by decide) fun A' k'=>?_;dsimp only[List.set,List.nil_append];refine kd (fZ rfl) ?_;refine bA fun g1=>?_;refine aA ?_;exact eK rfl rfl rfl fun w1 t=>⟨⟨_,rfl,⟨_,_,rfl⟩⟩,t.below (by simp)⟩
end
section
section
variable(s:aD)(A1 A2 A3 A4:Option Addr)(n1 k1 n2 k2 n3 k3 n4 k4:Nat)(w:World)(hW:fE w s A1 n1 A2 n2 A3 n3 A4 n4)(hm:s.made)
include hW hm
theorem aNe:Cz 37 #[.agg #[.slice A1 n1 k1,.slice A2 n2 k2,.slice A3 n3 k3,.slice A4 n4 k4]] w (fun y w'=>(∃v,y=.returned v∧wD v)∧Below w.heap.size w w'):=by
 have nB:=hm.nv
 obtain rfl:=hW.nK;refine aL func37 ntmps37 ?_;refine aB ?_;refine bA fun g1=>?_;refine aB ?_;refine uP wD (fun w1 t=>aMY s A1 A2 A3 A4 _ k1 _ k2 _ k3 _ k4 w1 (hW.le (t.started (by simp))) hm) fun v hv=>?_;obtain⟨p6,e6,rfl⟩:=hv;refine aB ?_;refine aG rfl (fun h6=>?_) (fun h6=>?_)
 ·refine aB ?_;exact eK rfl rfl rfl fun w1 t=>⟨⟨_,rfl,⟨_,_,rfl⟩⟩,t.below (by simp)⟩
 refine aB ?_;refine uP wD (fun w1 t=>aMX s A1 A2 A3 A4 _ k1 _ k2 _ k3 _ k4 w1 (hW.le (t.started (by simp))) hm) fun v hv=>?_;obtain⟨p7,e7,rfl⟩:=hv;refine aB ?_;refine uP wD (fun w1 t=>aMW s A1 A2 A3 A4 _ k1 _ k2 _ k3 _ k4 w1 (hW.le (t.started (by simp))) hm) fun v hv=>?_;obtain⟨p8,e8,rfl⟩:=hv;refine aB ?_;refine bA fun g2=>?_;refine aB ?_;refine iO 38 6 ?_;refine iO 191 1 ?_;refine iO 194 1 ?_;refine iO 3 1 ?_;refine pT (α:=((Option Addr×Nat)×List Value)×((Option Addr×Nat)×List Value)×((Option Addr×Nat)×List Value)×(Option Addr×Nat)×List Value) (fun i x=>[(12,iv i),(11,.slice x.2.2.2.1.1 i x.2.2.2.1.2),(10,pt g2),(1,pt g1)]) (fun i x=>[HP.own 38 6 (.slice x.1.1.1 i x.1.1.2) i x.1.2,HP.own 191 1 (.slice x.2.1.1.1 i x.2.1.1.2) i x.2.1.2,HP.own 194 1 (.slice x.2.2.1.1.1 i x.2.2.1.1.2) i x.2.2.1.2,HP.own 3 1 (.slice x.2.2.2.1.1 i x.2.2.2.1.2) i x.2.2.2.2,HP.aE g2 190 [.slice x.1.1.1 i x.1.1.2,.pointer p6,.pointer p7,.pointer p8,.slice x.2.1.1.1 i x.2.1.1.2,.slice x.2.2.1.1.1 i x.2.2.1.1.2,.pointer none],HP.aE g1 30 [.slice A1 n1 k1,.slice A2 n2 k2,.slice A3 n3 k3,.slice A4 s.aC.length k4]]) (fun i x=>∃zs,x.2.2.2.2=aK zs∧zs.length=i) s.aC.length (((none,0),[]),((none,0),[]),((none,0),[]),(none,0),[]) ⟨[],rfl,rfl⟩ fun i x hi hx=>?_;obtain⟨⟨⟨L1,L2⟩,L3⟩,⟨⟨M1,M2⟩,M3⟩,⟨⟨N1,N2⟩,N3⟩,⟨O1,O2⟩,O3⟩:=x;obtain⟨zs,rfl,hzl⟩:=hx;dsimp only;refine aB ?_;refine aG rfl (fun hlt=>?_) (fun hge=>?_)
 ·have hlt:i < s.aC.length:=by omega
  obtain⟨d,hd⟩:=get_some hlt;obtain⟨b,off,_,rfl,⟨AR,_,kR,AN,_,kN,rfl,rfl,rfl,hR,hN⟩,hro⟩:=hW.dev.aCT hd
  have k4:=hro.at_ (j:=4) rfl
  have Ak:d.aP.length≤8:=by
   have:=(hm.aC i d hd).2.2.2.2.2.2.2.2.1
   omega
  refine aB ?_;refine qM ?_;refine aM 10 ?_;refine eL fun g3=>?_;refine bL ?_;refine nZ [11,12,13,14] ?_;refine aB ?_;refine sN 1 fun A' k'=>?_;dsimp only[List.set];refine aB ?_;refine uP wD (fun w1 t=>aMU d.aP Ak AR kR w1 (hR.le (t.le (by simp)))) fun v hv=>?_;obtain⟨p9,e9,rfl⟩:=hv;refine aB ?_;refine eL fun g4=>?_;refine aB ?_;refine sN 3 fun A'' k''=>?_;dsimp only[List.set];refine aB ?_;refine qM ?_;refine aM 5 ?_;refine uP (fun v=>∃p:Option Addr,v=.pointer p) (fun w1 t=>aNg w1) fun v hv=>?_;obtain⟨p10,rfl⟩:=hv;refine bL ?_;refine aM 6 ?_;refine eL fun g5=>?_;refine bL ?_;refine nZ [7,8,9,10] ?_;refine aB ?_;refine sN 5 fun A3' k3'=>?_;dsimp only[List.set];refine aB ?_;refine eL fun g6=>?_;refine aB ?_;refine sN 7 fun A4' k4'=>?_;dsimp only[List.set];refine aB ?_;exact jM (((_,_),_),((_,_),_),((_,_),_),(_,_),_) (hg:=⟨zs++[(d.aP.length:Int)],by simp[aK],by simp[hzl]⟩)
 ·obtain rfl:i=s.aC.length:=by omega
  refine aB ?_;refine uP wD (fun w1 t=>aNf O1 s.aC.length O2 zs w1 (t.slO (i:=3) rfl) hzl.symm (by omega)) fun v hv=>?_;obtain⟨p11,e11,rfl⟩:=hv;refine aB ?_;exact eK rfl rfl rfl fun w1 t=>⟨⟨_,rfl,⟨_,_,rfl⟩⟩,t.below (by simp)⟩
theorem aMZ(p q:Option Addr):Cz 39 #[.pointer p,.pointer q,.agg #[.slice A1 n1 k1,.slice A2 n2 k2,.slice A3 n3 k3,.slice A4 n4 k4]] w (fun y w'=>(∃v,y=.returned v∧wD v)∧Below w.heap.size w w'):=by
 have nB:=hm.nv
 obtain rfl:=hW.mZ;obtain rfl:=hW.nL;obtain rfl:=hW.pM;obtain rfl:=hW.nK;refine aL func39 ntmps39 ?_;refine aB ?_;refine bA fun g1=>?_;refine aB ?_;refine uP (fun v=>∃p:Option Addr,v=.tuple #[.pointer p,iv 0]) (fun w1 t=>aNb s A1 A2 A3 A4 _ k1 _ k2 _ k3 _ k4 w1 (hW.le (t.started (by simp))) hm) fun v hv=>?_;obtain⟨p16,rfl⟩:=hv;refine aB ?_;cases p with
 | none=>
  refine aB ?_;exact eK rfl rfl rfl fun w1 t=>⟨⟨_,rfl,⟨_,_,rfl⟩⟩,t.below (by simp)⟩
 | some a =>
  refine aB ?_;cases q with
  | none=>
   refine aB ?_;exact eK rfl rfl rfl fun w1 t=>⟨⟨_,rfl,⟨_,_,rfl⟩⟩,t.below (by simp)⟩
  | some b =>
   refine aB ?_;refine qM ?_;refine aM 5 ?_;refine uP (fun v=>∃v1 v2 v3:Value,v=.agg #[v1,v2,v3]) (fun w1 t=>aNa s A1 A2 A3 A4 _ k1 _ k2 _ k3 _ k4 w1 (hW.le (t.started (by simp))) hm) fun v hv=>?_;obtain⟨v1,v2,v3,rfl⟩:=hv;refine bL ?_;refine nZ [6,7,8] ?_;refine aB ?_;refine bA fun g2=>?_;refine aB ?_;refine pT (α:=Value×Value×Value) (fun i _=>[(11,iv i),(10,pt g2),(5,pt g1)]) (fun i x=>[HP.aE g2 220 [.pointer (some a),.pointer (some b),.slice A1 s.aF.length k1,.slice A2 s.domains.length k2,.slice A3 s.aT.length k3,.slice A4 s.aC.length k4,iv 0,.int .u8 0,iv 0,iv 0,.int .u32 0,iv 0,.int .u32 0,x.1,iv 0,.int .u8 0,iv 0,iv 0,.int .u32 0,iv 0,.int .u32 0,x.2.1,iv 0,.int .u8 0,iv 0,iv 0,.int .u32 0,iv 0,.int .u32 0,x.2.2,.pointer p16,v1,v2,v3,sn,iv 0,.bool false,iv (-1)],HP.aE g1 30 [.slice A1 s.aF.length k1,.slice A2 s.domains.length k2,.slice A3 s.aT.length k3,.slice A4 s.aC.length k4]]) (fun _ _=>True) 3 (sn,sn,sn) trivial fun i x hi _=>?_;obtain⟨x1,x2,x3⟩:=x;dsimp only;refine aB ?_;refine aG rfl (fun hlt=>?_) (fun hge=>?_)
   ·obtain rfl | rfl | rfl:i=0∨i=1∨i=2:=by omega
    all_goals
     refine aB ?_;refine qM ?_;refine aM 5 ?_;refine lX 8 (n:=s.aC.length) (el:=3) (z:=iv 0) (by kernel_rfl) (by kernel_rfl) rfl rfl rfl (by omega) (by omega) (by decide) fun g3=>?_;refine bL ?_;refine Zq 8 ?_;refine Zq 9 ?_;refine nZ [10] ?_;refine aB ?_;exact jM (_,_,_)
   ·refine aB ?_;exact eK rfl rfl rfl fun w1 t=>⟨⟨_,rfl,⟨_,_,rfl⟩⟩,t.below (by simp)⟩
end
end
section
def aFf(s:aD)(v:Value)(hs:List HP)(_:Piece):Prop:=∃(g f r:Nat) (hL:HL) (p:Option Addr),v=.tuple #[pt g,.bool true]∧hs=[HP.aE g 58 [.pointer (some ⟨hL.h,0,none⟩),pt f,pt r,.pointer p],gE r hL.h f s (Jc s),Bw f hL.h s (tM s),dS hL s (hw0 s)]∧gX hL s
theorem aG9(s:aD)(A1 A2 A3 A4:Option Addr)(n1 k1 n2 k2 n3 k3 n4 k4:Nat)(w:World)(hW:fE w s A1 n1 A2 n2 A3 n3 A4 n4)(hm:s.made):
  Cz 10 #[.agg #[.slice A1 n1 k1,.slice A2 n2 k2,.slice A3 n3 k3,.slice A4 n4 k4]] w (fun y w'=>(∃v hs q,y=.returned v∧q.w=w'∧aFf s v hs q∧kA w hs q)∧Below w.heap.size w w'):=by
 have hH:=hm.dG
 refine aL func10 ntmps10 ?_;refine aB ?_;refine bA fun g1=>?_;refine aB ?_;refine iW (aKv s) (fun w1 t=>aPQ s hH A1 A2 A3 A4 n1 k1 n2 k2 n3 k3 n4 k4 w1 (hW.le (t.started (by simp)))) ?_;rintro _ _ q2 ⟨hL,rfl,rfl,iS,Hf⟩ _;dsimp only[List.cons_append,List.nil_append];refine aB ?_;refine iW (aK3 hL.h s) (fun w1 t=>aQD hL.h s hH A1 A2 A3 A4 n1 k1 n2 k2 n3 k3 n4 k4 w1 (hW.le (t.started (by simp)))) ?_;rintro _ _ q3 ⟨f,rfl,rfl⟩ _;dsimp only[List.cons_append,List.nil_append];refine aB ?_;refine iW (aKi hL.h f s) (fun w1 t=>aMn s A1 A2 A3 A4 n1 k1 n2 k2 n3 k3 n4 k4 w1 hL.h f hm (hW.le (t.started (by simp)))) ?_;rintro _ _ q4 ⟨r,rfl,rfl⟩ _;dsimp only[List.cons_append,List.nil_append];refine aB ?_;refine uP wD (fun w1 t=>aNe s A1 A2 A3 A4 n1 k1 n2 k2 n3 k3 n4 k4 w1 (hW.le (t.started (by simp))) hm) fun v hv=>?_;obtain⟨p12,e12,rfl⟩:=hv;refine aB ?_;refine uP wD (fun w1 t=>aNc s A1 A2 A3 A4 n1 k1 n2 k2 n3 k3 n4 k4 w1 (hW.le (t.started (by simp))) hm p12) fun v hv=>?_;obtain⟨p15,e15,rfl⟩:=hv;refine aB ?_;refine uP wD (fun w1 t=>aMZ s A1 A2 A3 A4 n1 k1 n2 k2 n3 k3 n4 k4 w1 (hW.le (t.started (by simp))) hm p12 p15) fun v hv=>?_;obtain⟨p18,e18,rfl⟩:=hv;refine aB ?_;refine bA fun g2=>?_;refine aB ?_;refine aY [0,1,2,3] rfl (by decide) (R':=[all w]) (by simp) ?_;refine dP [] [] [0,1,2,3] (by simp) rfl (by decide) (by decide) fun q _ _ hfr=>?_;exact eK rfl rfl rfl fun w1 t=>⟨⟨_,_,⟨w1,q.Z⟩,rfl,rfl,⟨g2,f,r,hL,_,rfl,rfl,⟨iS,Hf⟩⟩,t.newR (by simp) (by simp) (hfr (by simp) (by simp))⟩,t.below (by simp)⟩
end
section
theorem aLq{p:HP}{F:Nat→Prop}{w w':World}{v:Value}{y:Ending}(hp:p.sat F w)(hF:∀b,F b→b < w.heap.size)(h:Rt v w y w'):y=.returned v∧∃F',p.sat F' w'∧iE w w' F F':=
 ⟨h.1,F,p.loc _ _ _ hp (fun b hb=>h.2.block b (hF b hb)),h.2.os,h.2.tape,h.2.output,h.2.size,fun b hb=>⟨.inl hb,Nat.lt_of_lt_of_le (hF b hb) h.2.size⟩,fun b hb _=>h.2.block b hb⟩
section
variable(g h f:Nat)(s:aD)(z:aW)(w:World)(F:Nat→Prop)(d:bO)(hk:z.t0.kind=114)(tJ:z.t0.dev=0)(Ab:z.t0.bY=0)(Kb:s.aC[0]? =some d)(Ak:1≤d.aP.length)(Rb:hG z.t0 0=0)
include hk tJ Ab Kb Ak Rb
theorem aM2(L:dN)(hR:Oj w g h f L s z):Cz 291 #[.agg #[.bool false],pt g,.pointer (some ⟨g,10,none⟩)] w (Rt (iv 6) w):=by
 have hlt:=(List.getElem?_eq_some_iff.1 Kb).1
 have hin:bN s.aC.length 0=true:=decide_eq_true (by omega)
 have c4:eC w g (10+1) [.int .u8 114,iv 0,iv 0,.int .u32 z.t0.val]:=by
  refine⟨hR.r0.1,fun j v hv=>?_⟩
  have h4:j < 4:=by simpa using(List.getElem?_eq_some_iff.1 hv).1
  have:=hR.r0.2 (11+j) v (by
   rw[←hk,←tJ] at hv
   have h5:j=0∨j=1∨j=2∨j=3:=by omega
   rcases h5 with rfl | rfl | rfl | rfl
   ·exact hv
   ·exact hv
   ·rw[tJ,←Ab] at hv;exact hv
   ·exact hv)
  rwa [Nat.zero_add] at this
 have k5:=hR.r0.at_ (j:=5) rfl
 have k17:fK w g 17 (iv 0):=by
  have:=hR.r0.at_ (j:=17) rfl
  rwa [Rb] at this
 obtain⟨b,off,_,hA,⟨AR,_,kR,AN,_,kN,rfl,rfl,rfl,_,_⟩,hro⟩:=hR.so.dev.aCT Kb;rw[hA] at k5
 have k4:=hro.at_ (j:=4) rfl
 simp only[Nat.zero_mul,Nat.add_zero] at k4;refine aL func291 ntmps291 ?_;refine aB ?_;refine bA fun g1=>?_;refine aB ?_;refine bR fun g7=>?_;refine aB ?_;refine mG ?_;refine iZ ?_;refine tR (fun w1 t=>aG1 g h f L s z w1 0 (hR.below (t.started (by simp)))) ?_;rw[hin];refine iZ ?_;refine xA (dat 0 off) ?_;refine jA ?_;refine aB ?_;refine aG rfl (fun h1=>absurd h1 (by omega)) (fun _=>?_);refine aB ?_;refine mG ?_;refine iZ ?_;refine xA (gN 0 17 (ho:=rfl)) ?_;refine jA ?_;refine aB ?_;exact dF
variable(hp:(gE g h f s z).sat F w)(hF:∀b,F b→b < w.heap.size)
include hp hF
theorem aMz:Cz 47 #[pt g,iv 0] w (Wr (.tuple #[]) (gE g h f s (kD (kB z 0) 0 6 0)) w F):=by
 have hj:T3 0:=.inl rfl
 refine dJ func47 ntmps47 hp hF ?_;generalize cK:(⟨w,fun b=>b < w.heap.size∧¬F b⟩:Piece)=R0;refine lV 0 fun L=>?_;refine bF 0 0 ?_;refine aA ?_;refine fG rfl rfl ?_ (hs:=fB.mk 0 rfl cJ.h rfl (of_decide_eq_true rfl));dsimp only[List.set];rw[show(kY h f L s z).set (0+49) (iv 0)=kY h f L s {z with eW:=0} from rfl];refine aA ?_;refine kd (gN 0 10 (ho:=rfl)) ?_;refine aA ?_;refine fG rfl rfl ?_ (hs:=fB.mk 0 rfl cJ.h rfl (by rw[aA6];omega));dsimp only[List.set];rw[show(kY h f L s {z with eW:=0}).set (10+0) (iv 2)=kY h f L s (kB z 0) from rfl];refine aN 0 0 ?_
 change XK _ _ _ _ _ [fM g h f L s (kB z 0)]
 refine aA ?_;refine kd (bM rfl (pH 0 rfl (Ck (j:=0) (k:=1) hj rfl))) ?_;rw[show((kB z 0).tk 0).kind=114 from hk];refine aU (fun w1 _=>aA5 114 w1) ?_;rw[show Nj 114=.iface 240 (.agg #[.bool false]) from rfl];refine aA ?_;refine aF6 0 (fM g h f L s (kB z 0)) (f:=291) (by kernel_rfl) rfl (fun w=>by kernel_rfl) rfl rfl ⟨by decide,rfl⟩ (fun w1 F1 t h1 h2 h3=>(aM2 g h f s (kB z 0) w1 d hk tJ Ab Kb Ak Rb L (aKj h1 h2)).mono fun y w' hy=>aLq h1 h2 hy) ?_;dsimp only[List.set];refine fC 0 (fun L:dN=>fM g h f L s (kB z 0)) L ?_;refine aA ?_;refine kd (fZ rfl) ?_;refine aA ?_;refine dU 0 (gE g h f s (kD (kB z 0) 0 6 0)) (fun w1 F1 t h1 h2 h3=>Jd g h f s (kB z 0) w1 F1 0 rfl hj 6 0 h1 h2) ?_;refine aA ?_;subst cK;exact jZ 0 hF
theorem aMr(h1:z.t0.st=1)(hh:z.eW < 0):Cz 19 #[pt g,iv 0] w (fun v w'=>v=.returned (.tuple #[])∧∃F',(gE g h f s (kD (kB z 0) 0 6 0)).sat F' w'∧iE w w' F F'):=by
 refine Zl (vs:=[pt g,iv 0]) (p:=gE g h f s z) func19 rfl ntmps19 (by simp) hp hF ?_;generalize cK:(⟨w,fun b=>b < w.heap.size∧¬F b⟩:Piece)=R0;refine aA ?_;refine Tv (f:=46) (fi:=[]) (ca:=[]) rfl ?_;refine aA ?_;refine aU (fun w1 _=>aA4 0 w1) ?_;rw[show bN 3 0=true from rfl];refine aA ?_;refine lV 0 fun L=>?_;refine aA ?_;refine kd (gN 0 10 (ho:=rfl)) ?_;refine aA ?_;refine kd (bM rfl (pH 0 rfl (Ck (j:=0) (k:=0) (.inl rfl) rfl))) ?_;rw[show(z.tk 0).st=1 from h1];refine aA ?_;refine kd (bM rfl (pH 0 rfl rfl)) ?_;refine aA ?_;refine fC 0 (fun L:dN=>fM g h f L s z) L ?_;refine aG rfl (fun h2=>?_) (fun h2=>absurd hh h2);refine aA ?_;refine dU 0 (gE g h f s (kD (kB z 0) 0 6 0)) (fun w1 F1 t Xl Xk h3=>aMz g h f s z w1 F1 d hk tJ Ab Kb Ak Rb Xl Xk) ?_;refine aA ?_;subst cK;exact Bj (.inr rfl) (by kernel_rfl) Lx rfl fun w1 t=>⟨rfl,t.turns hF (by simp) (i:=0) rfl⟩
end
end
section
def xW:aD:=⟨[⟨111,[],1,0,0,0⟩],[⟨-1,0,false⟩],[0],[⟨0,0,0,0,[⟨0,false⟩],[]⟩]⟩
theorem aGg:xW.made:=by
 refine⟨?_,?_,by simp[xW],?_,by decide,by decide,by decide,by decide⟩
 ·exact(Fits.nil eF.fit).snoc ⟨by simp,.inl ⟨rfl,rfl,by decide,by decide,rfl,rfl,rfl⟩⟩
 ·exact(Fits.nil Dom.fit).snoc ⟨.inl rfl,by decide,by decide⟩
 ·exact(Fits.nil (bO.fit 1 1 1)).snoc ⟨by decide,by decide,by decide,by decide,by decide,by decide,by decide,by decide,by decide,by simp,by decide,by simp⟩
section
variable{N:bZ}{w0 w:World}{e:Env}{R:List Piece}{H:List HP}
theorem aLD(st:St w0 R H w){i1 i2 i3 i4 i5 g1 g2 g3 g4 g5:Nat}(h1:H[i1]? =some (HP.aE g1 86 [.int .u8 111,sn,.int .u64 1,iv 0,iv 0,iv 0]))(h2:H[i2]? =some (HP.aE g2 50 [iv (-1),iv 0,.bool false]))(h3:H[i3]? =some (HP.aE g3 88 [iv 0]))(h5:H[i5]? =some (HP.aE g5 48 [.int .u32 0,.bool false]))(h4:H[i4]? =some (HP.aE g4 38 [iv 0,iv 0,iv 0,.int .u32 0,.slice (some ⟨g5,0,none⟩) 1 1,sn])):
  fE w xW (some ⟨g1,0,none⟩) 1 (some ⟨g2,0,none⟩) 1 (some ⟨g3,0,none⟩) 1 (some ⟨g4,0,none⟩) 1:=
 ⟨⟨[_],⟨rfl,⟨none,0,0,rfl,rfl,rfl,fun h=>absurd h (by omega)⟩,trivial⟩,rfl,st.rN h1 rfl⟩,⟨[_],⟨rfl,rfl,trivial⟩,rfl,st.rN h2 rfl⟩,⟨[_],⟨rfl,rfl,trivial⟩,rfl,st.rN h3 rfl⟩,⟨[_],⟨rfl,⟨some ⟨g5,0,none⟩,1,1,none,0,0,rfl,rfl,rfl,st.rN h5 rfl,rfl,fun h=>absurd h (by omega)⟩,trivial⟩,rfl,st.rN h4 rfl⟩,Qf aGg⟩
end
theorem aLE(w:World):Cz 8 #[] w (Rt (.bool true) w):=by
 refine aL func8 ntmps8 ?_;refine aB ?_;refine eL fun g1=>?_;refine aB ?_;refine eL fun g2=>?_;refine aB ?_;refine eL fun g3=>?_;refine aB ?_;refine eL fun g5=>?_;refine aB ?_;refine eL fun g4=>?_;refine aB ?_;refine bR fun g6=>?_;refine aB ?_;refine iW (aFf xW) (fun w1 t=>aG9 xW _ _ _ _ 1 1 1 1 1 1 1 1 w1 (aLD t (i1:=5) (i2:=4) (i3:=3) (i4:=1) (i5:=2) rfl rfl rfl rfl rfl) aGg) ?_;rintro _ _ q2 ⟨gR,f,r,hL,pX,rfl,rfl,aV⟩ _;dsimp only[List.cons_append,List.nil_append];refine aB ?_;obtain⟨z1,mK,hk,tJ,Ab,Rb,hst,hho⟩:∃z1,vH (Jc xW) 0 114 0 0 0=(0,z1)∧z1.t0.kind=114∧z1.t0.dev=0∧z1.t0.bY=0∧hG z1.t0 0=0∧z1.t0.st=1∧z1.eW < 0:=⟨_,rfl,rfl,rfl,rfl,rfl,rfl,by decide⟩
 refine dU 1 (gE r hL.h f xW z1) (fun w1 F1 t h1 h2 h3=>by
  have:=aGz r hL.h f xW (Jc xW) w1 F1 0 114 0 0 0 h1 h2
  rw[mK] at this
  exact this) ?_
 refine aB ?_;refine dU 1 (gE r hL.h f xW (kD (kB z1 0) 0 6 0)) (fun w1 F1 t h1 h2 h3=>aMr r hL.h f xW z1 w1 F1 _ hk tJ Ab rfl (Nat.le_refl 1) Rb h1 h2 hst hho) ?_;refine aB ?_;refine dU 1 (gE r hL.h f xW (nE (kD (kB z1 0) 0 6 0) 0).2) (fun w1 F1 t h1 h2 h3=>aG0 r hL.h f xW (kD (kB z1 0) 0 6 0) w1 F1 0 h1 h2) ?_;rw[show(nE (kD (kB z1 0) 0 6 0) 0).1=(6,0,true) from rfl];refine aB ?_;refine bR fun g7=>?_;refine aB ?_;exact dF
end
section
def aCl(a:Int):Prop:= -9223372036854775808≤a∧a≤9223372036854775807
end
section
def Mb(c n:Int):Int:=(if c < 0 then 0 - (c+1) else c) % n
theorem aGZ(c n:Int)(hn:0 < n):0≤Mb c n∧Mb c n < n:=⟨Int.emod_nonneg _ (by omega),Int.emod_lt_of_pos _ hn⟩
end
section
theorem aHa(c n:Int)(w:World)(hc:aCl c)(hn:0 < n):Cz 11 #[iv c,iv n] w (Rt (iv (Mb c n)) w):=by
 unfold aCl at hc;refine aL func11 ntmps11 ?_;refine aB ?_;refine aG rfl (fun h=>?_) (fun h=>?_)
 ·refine aB ?_;refine jY (by simp) ?_;rw[Mb,if_pos h]
 ·refine aB ?_;refine jY (by simp) ?_;rw[Mb,if_neg h]
end
section
def Lm(cs:List eF)(rows:List (List Value))(p:Piece):Prop:=Rows (tZ (fF p)) 6 cs rows
theorem Lm.le{cs:List eF}{rows:List (List Value)}(p q:Piece)(h:p.Le q)(k:Lm cs rows p):Lm cs rows q:=Rows.mono (fun _ _=>tZ.mono (nU h)) k
def Lj(vs:List bO)(rows:List (List Value))(p:Piece):Prop:=Rows (sY (fF p)) 6 vs rows
theorem Lj.le{vs:List bO}{rows:List (List Value)}(p q:Piece)(h:p.Le q)(k:Lj vs rows p):Lj vs rows q:=Rows.mono (fun _ _=>sY.mono (nU h)) k
def yU(sz:Nat)(A:Option Addr)(n:Nat)(xs:List Value)(p:Piece):Prop:=aI p sz A n xs
theorem yU.le{sz n:Nat}{A:Option Addr}{xs:List Value}(p q:Piece)(h:p.Le q)(k:yU sz A n xs p):yU sz A n xs q:=aI.le k h
def sA(cs:List eF)(rows:List (List Value)):HP:=HP.bT (Lm cs rows) (Lm.le (cs:=cs) (rows:=rows))
def Fp(vs:List bO)(rows:List (List Value)):HP:=HP.bT (Lj vs rows) (Lj.le (vs:=vs) (rows:=rows))
section
variable{N:bZ}{w0:World}{K:Act→World→Prop}{e:Env}{R:List Piece}{H:List HP}
theorem aJU{p:HP}(hp:∀w,p.sat (fun _=>False) w)(h:XK N w0 K e R (p::H)):XK N w0 K e R H:=fun a w hr st=>by
 obtain⟨Z,F,hz,cI,hs,dB,eD⟩:=st.ex;refine h a w hr ⟨st.os,st.tape,st.output,st.size,Z,fun i=>match i with | 0=>fun _=>False | i+1=>F i,hz,cI,fun i r hi=>?_,fun i b hb=>?_,fun i j b hij hi=>?_⟩
 ·cases i with
  | zero=>simp at hi;subst hi;exact hp w
  | succ i=>exact hs i r (by simpa using hi)
 ·cases i with
  | zero=>exact hb.elim
  | succ i=>exact dB i b hb
 ·cases i with
  | zero=>exact hi.elim
  | succ i=>cases j with
   | zero=>exact id
   | succ j=>exact eD i j b (by omega) hi
theorem aTy{cs:List eF}{rows:List (List Value)}{cl:eF}{A:Option Addr}{c:Nat}(h:XK N w0 K e R (sA (cs++[cl]) (rows++[[.int .u8 cl.kind,.slice A cl.src.length c,.int .u64 cl.rate,iv cl.mul,iv cl.div,iv cl.lock]])::H)):XK N w0 K e R (HP.own 3 1 (.slice A cl.src.length c) cl.src.length (aK cl.src)::sA cs rows::H):=
 Fy 0 (Φ:=yU 1 A cl.src.length (aK cl.src)) (hm:=yU.le) rfl (fun _ h=>h) (Sw (X:=Lm (cs++[cl]) (rows++[_])) (h3:=Lm.le) (fun p h1 h2=>h2.snoc rfl ⟨A,_,c,rfl,rfl,h1⟩) h)
theorem aTw{vs:List bO}{rows:List (List Value)}{d:bO}{A A':Option Addr}{c c':Nat}(h:XK N w0 K e R (Fp (vs++[d]) (rows++[[iv d.clock,iv d.domain,iv d.reset,.int .u32 d.iT,.slice A d.aP.length c,.slice A' d.fR.length c']])::H)):XK N w0 K e R (HP.own 48 2 (.slice A d.aP.length c) d.aP.length (d.aP.flatMap Rg.cells)::HP.own 3 1 (.slice A' d.fR.length c') d.fR.length (aK d.fR)::Fp vs rows::H):=
 Fy 0 (Φ:=yU 2 A d.aP.length (d.aP.flatMap Rg.cells)) (hm:=yU.le) rfl (fun _ h=>h) (Fy 1 (Φ:=yU 1 A' d.fR.length (aK d.fR)) (hm:=yU.le) rfl (fun _ h=>h) (Sw (X:=fun p=>yU 2 A d.aP.length (d.aP.flatMap Rg.cells) p∧yU 1 A' d.fR.length (aK d.fR) p) (h3:=fun p q hl h=>⟨yU.le p q hl h.1,yU.le p q hl h.2⟩) (fun p h1 h2=>⟨h1,h2⟩) (Sw (X:=Lj (vs++[d]) (rows++[_])) (h3:=Lj.le) (fun p h1 h2=>h2.snoc rfl ⟨A,_,c,A',_,c',rfl,rfl,rfl,h1.1,h1.2⟩) h)))
end
def aFu(v:Value)(hs:List HP)(_:Piece):Prop:=∃(s:aD) (A1 A2 A3 A4:Option Addr×Nat) (r1 r2 r3 r4:List (List Value)),v=.agg #[.slice A1.1 s.aF.length A1.2,.slice A2.1 s.domains.length A2.2,.slice A3.1 s.aT.length A3.2,.slice A4.1 s.aC.length A4.2]∧s.made∧Rows vA 3 s.domains r2∧Rows yV 1 s.aT r3∧
 hs=[HP.own 86 6 (.slice A1.1 s.aF.length A1.2) s.aF.length r1.flatten,sA s.aF r1,HP.own 50 3 (.slice A2.1 s.domains.length A2.2) s.domains.length r2.flatten,HP.own 88 1 (.slice A3.1 s.aT.length A3.2) s.aT.length r3.flatten,HP.own 38 6 (.slice A4.1 s.aC.length A4.2) s.aC.length r4.flatten,Fp s.aC r4]
theorem kA.tail{w:World}{p:HP}{hs:List HP}{q:Piece}(h:kA w (p::hs) q):kA w hs q:=by
 obtain⟨F,f1,f2,f3,f4⟩:=h;exact⟨fun i=>F (i+1),fun i r hi=>f1 (i+1) r (by simpa using hi),fun i=>f2 (i+1),fun i j b hij=>f3 (i+1) (j+1) b (by omega),f4⟩
theorem aFu.weak{w w':World}{v:Value}{hs:List HP}{q:Piece}(h:aFu v hs q)(hq:q.w=w')(hn:kA w hs q):∃cs s,v=.agg cs∧wB (fF (fresh w w')) s cs∧s.made:=by
 obtain⟨s,A1,A2,A3,A4,r1,r2,r3,r4,rfl,hm,h2,h3,rfl⟩:=h;obtain⟨F,f1,f2,_⟩:=hn;subst hq
 have hl:∀i,(⟨q.w,F i⟩:Piece).Le (fresh w q.w):=fun i b hb=>⟨⟨(f2 i b hb).1,(f2 i b hb).2.1⟩,rfl⟩
 have ho:∀{i:Nat} {t:TypeId} {sz n c:Nat} {A:Option Addr} {xs:List Value},(HP.own t sz (.slice A n c) n xs).sat (F i) q.w→aI (fresh w q.w) sz A n xs:=fun {i} _ _ _ _ _ _ hs=>(aI.own (q:=⟨q.w,F i⟩) ⟨F i,hs,fun _ h=>h⟩).le (hl i)
 exact⟨_,s,rfl,⟨A1.1,_,A1.2,A2.1,_,A2.2,A3.1,_,A3.2,A4.1,_,A4.2,rfl,⟨r1,Lm.le _ _ (hl 1) (f1 1 _ rfl),rfl,ho (f1 0 _ rfl)⟩,⟨r2,h2,rfl,ho (f1 2 _ rfl)⟩,⟨r3,h3,rfl,ho (f1 3 _ rfl)⟩,⟨r4,Lj.le _ _ (hl 5) (f1 5 _ rfl),rfl,ho (f1 4 _ rfl)⟩⟩,hm⟩
end
section
theorem aN3(c n:Int)(w:World)(hc: -9223372036854775808≤c∧c≤9223372036854775807)(hn:0 < n):
  Cz 11 #[iv c,iv n] w fun x w'=>(∃v,x=.returned v∧∃r:Int,v=iv r∧0≤r∧r < n)∧Below w.heap.size w w':=by
 refine aL func11 ntmps11 ?_;refine aB ?_;refine Ta (α:=Int) (fun c=>[(0,iv c),(1,iv n)]) (fun _=>[]) (fun c=>0≤c) ?_ fun c hc0=>?_
 ·refine aB ?_;refine aG rfl (fun h=>?_) (fun h=>?_)
  ·refine aB ?_;exact gB _
  ·refine aB ?_;exact gB _
 refine aB ?_;exact nR rfl rfl fun w' st=>⟨⟨_,rfl,_,rfl,Int.emod_nonneg _ (by omega),Int.emod_lt_of_pos _ hn⟩,st.below (by simp)⟩
set_option maxRecDepth 100000 in
theorem aSl(A : Option Addr)(n c : Nat)(zs : List Int)(w : World)(h0 : aI (all w) 1 A n (aK zs))(hz : aCm zs)(hn : n = zs.length)(hn2 : n ≤ 9223372036854775807) :
    Cz 9 #[.slice A n c] w fun x w'=>(∃v hs q,x=.returned v∧q.w=w'∧(∃p hs',hs=p::hs'∧aFu v hs' q)∧kA w hs q)∧Below w.heap.size w w':=by
  refine aL func9 ntmps9 ?_;refine aB ?_;refine bR fun g1=>?_;refine aB ?_;refine lX 8 (n:=120) (el:=3) (z:=iv 0) (by kernel_rfl) (by kernel_rfl) rfl rfl rfl (by omega) (by omega) (by decide) fun g2=>?_;refine aB ?_;refine Dl (α:=List Int) (fun _=>[(4,.slice (some ⟨g2,0,none⟩) 120 120),(2,pt g1)]) (fun ds=>[HP.aE g2 3 (aK ds),HP.aE g1 30 [sn,sn,sn,sn]]) zB ?_ fun ds hd=>?_
  · refine pT (α:=List Int) (fun i _=>[(5,iv i),(4,.slice (some ⟨g2,0,none⟩) 120 120),(2,pt g1),(0,.slice A n c)]) (fun _ ds=>[HP.aE g2 3 (aK ds),HP.aE g1 30 [sn,sn,sn,sn]]) (fun _ ds=>zB ds) 120 (List.replicate 120 0) zB.zero fun k ds hk hd=>?_
    refine aB ?_;refine bU (t:=23) rfl (fun hg=>?_) (fun hg=>?_)
    · refine aB ?_
      refine aG rfl (fun h=>?_) (fun h=>?_)
      · have hk2:k < 120:=by omega
        have hn0:0 < n:=by omega
        obtain⟨b,off,rfl,gZ,hc⟩:=h0.2 hn0
        have hkb:=Hu (k:Int) (n:=(n:Int)) (by omega)
        have hdb:0≤(k:Int) / (n:Int)∧(k:Int) / (n:Int)≤k:=⟨Int.ediv_nonneg (by omega) (by omega),Int.ediv_le_self _ (by omega)⟩
        have k0:fK w b (off+((k:Int) % (n:Int)).toNat) (iv (zs[((k:Int) % (n:Int)).toNat]?.getD 0)):=⟨gZ,hc _ _ (aD4 zs _ (by omega))⟩
        have hyb:=aL1 (z:=zs[((k:Int) % (n:Int)).toNat]?.getD 0) (d:=1+(k:Int) / (n:Int)) (lo:= -9223372036854775808) (hi:=9223372036854775807) (by omega) (by omega) (by omega) (hz _)
        refine aB ?_;refine qM ?_;refine aM 15 ?_;refine uP (fun v=>∃r:Int,v=iv r∧0≤r∧r < 1000000) (fun w1 st=>aN3 _ _ w1 hyb (by omega)) fun v hv=>?_;obtain⟨r,rfl,Ah,eH⟩:=hv;refine bL ?_;refine nZ [16,17] ?_;refine aB ?_;refine fG rfl rfl ?_ (hs:=fB.mk 0 rfl cJ.h rfl (by simp[aK,hd.1];omega));dsimp only[List.set];rw[aAW];refine aB ?_;exact jM _ (hg:=hd.mA k Ah eH)
      · refine aB ?_
        exact gB _
    · refine aB ?_
      exact gB _
  refine aB ?_;refine eL fun g3=>?_;refine aB ?_;refine bR fun g4=>?_;refine aB ?_;refine Bn 1 6 1 rfl rfl (by omega) ?_;dsimp only[List.set];refine aJU (p:=sA [⟨111,[],1+dv ds 0 % 1000000,0,0,0⟩] [[.int .u8 111,sn,.int .u64 (1+dv ds 0 % 1000000),iv 0,iv 0,iv 0]]) (fun w=>⟨rfl,⟨none,0,0,rfl,rfl,rfl,fun h=>absurd h (by omega)⟩,trivial⟩) ?_;refine Dl (α:=(List eF×List (List Value))×(Option Addr×Nat)×Nat) (fun _=>[(6,pt g4),(4,.slice (some ⟨g2,0,none⟩) 120 120),(2,pt g1)]) (fun x=>[sA x.1.1 x.1.2,HP.own 86 6 (.slice x.2.1.1 x.2.2 x.2.1.2) x.2.2 x.1.2.flatten,HP.aE g4 30 [.slice x.2.1.1 x.2.2 x.2.1.2,sn,sn,sn],HP.aE g2 3 (aK ds),HP.aE g1 30 [sn,sn,sn,sn]]) (fun x=>x.1.1.length=x.2.2∧1≤x.2.2∧x.2.2≤9∧Fits eF.fit x.1.1) ?_ fun x hx=>?_
  · refine pT (α:=(List eF×List (List Value))×(Option Addr×Nat)×List Value) (fun i _=>[(8,iv i),(7,.string ⟨#[112,100,103,109,103]⟩),(6,pt g4),(4,.slice (some ⟨g2,0,none⟩) 120 120),(3,iv 1),(2,pt g1)]) (fun i x=>[sA x.1.1 x.1.2,HP.own 86 6 (.slice x.2.1.1 (i+1) x.2.1.2) (i+1) x.2.2,HP.aE g4 30 [.slice x.2.1.1 (i+1) x.2.1.2,sn,sn,sn],HP.aE g2 3 (aK ds),HP.aE g1 30 [sn,sn,sn,sn]]) (fun i x=>x.1.1.length=i+1∧i≤8∧Fits eF.fit x.1.1∧x.2.2=x.1.2.flatten) 9 (([⟨111,[],1+dv ds 0 % 1000000,0,0,0⟩],[[.int .u8 111,sn,.int .u64 (1+dv ds 0 % 1000000),iv 0,iv 0,iv 0]]),(_,_),_) ⟨rfl,by omega,(Fits.nil eF.fit).snoc ⟨by simp,.inl ⟨rfl,rfl,by dsimp only;omega,by dsimp only;omega,rfl,rfl,rfl⟩⟩,rfl⟩ fun i x hi hx=>?_
    obtain⟨⟨cs,rows⟩,⟨B,cB⟩,xs⟩:=x;dsimp only at hx⊢;obtain⟨iA,hi8,Mv,rfl⟩:=hx;refine aB ?_;refine aG rfl (fun h=>?_) (fun h=>?_)
    · obtain⟨kb,hkb,aPq⟩:=aOO (q:=(dv ds (10+3*(i:Int)).toNat % 1000000 % 5).toNat) (by omega)
      have f0:=Hu (dv ds ((10+3*(i:Int))+1).toNat % 1000000) (n:=((i+1:Nat):Int)) (by omega)
      refine aB ?_;refine Ta (α:=Nat×Nat) (fun x=>[(10,.pointer (some ⟨x.2,0,none⟩)),(9,iv (10+3*(i:Int))),(8,iv i),(7,.string ⟨#[112,100,103,109,103]⟩),(6,pt g4),(4,.slice (some ⟨g2,0,none⟩) 120 120),(3,iv 1),(2,pt g1)]) (fun x=>[HP.aE x.2 86 [.int .u8 kb.toNat,.slice (some ⟨x.1,0,none⟩) 1 1,.int .u64 0,iv 0,iv 0,iv 0],HP.aE x.1 3 [iv (dv ds ((10+3*(i:Int))+1).toNat % 1000000 % ((i+1:Nat):Int))],sA cs rows,HP.own 86 6 (.slice B (i+1) cB) (i+1) rows.flatten,HP.aE g4 30 [.slice B (i+1) cB,sn,sn,sn],HP.aE g2 3 (aK ds),HP.aE g1 30 [sn,sn,sn,sn]]) (fun _=>True) ?_ fun x _=>?_
      · refine qM ?_
        refine La 16 18 rfl rfl (by kernel_rfl) ?_ ?_
        · refine eL fun g5=>?_
          refine bL ?_;refine Zq 17 ?_;refine aM 18 ?_;refine bR fun g6=>?_;refine bL ?_;refine nZ [19] ?_;refine aB ?_;exact gB (_,_)
        · refine bR fun g6=>?_
          refine bL ?_;refine aM 16 ?_;refine eL fun g5=>?_;refine bL ?_;refine Zq 17 ?_;refine nZ [19] ?_;refine aD2 ?_;refine oM 1 rfl ?_;dsimp only[List.set];refine aB ?_;exact gB (_,_)
      obtain⟨g5,g6⟩:=x;dsimp only
      have f1:=Hu (dv ds ((10+3*(i:Int))+2).toNat % 1000000) (n:=((i+1:Nat):Int)) (by omega)
      refine Bn 1 1 1 rfl rfl (by omega) ?_;dsimp only[List.set];refine aB ?_;refine Dl (α:=eF×(Option Addr×Nat)) (fun _=>[(10,pt g6),(8,iv i),(7,.string ⟨#[112,100,103,109,103]⟩),(6,pt g4),(4,.slice (some ⟨g2,0,none⟩) 120 120),(3,iv 1),(2,pt g1)]) (fun x=>[HP.aE g6 86 [.int .u8 x.1.kind,.slice x.2.1 x.1.src.length x.2.2,.int .u64 x.1.rate,iv x.1.mul,iv x.1.div,iv x.1.lock],HP.own 3 1 (.slice x.2.1 x.1.src.length x.2.2) x.1.src.length (aK x.1.src),sA cs rows,HP.own 86 6 (.slice B (i+1) cB) (i+1) rows.flatten,HP.aE g4 30 [.slice B (i+1) cB,sn,sn,sn],HP.aE g2 3 (aK ds),HP.aE g1 30 [sn,sn,sn,sn]]) (fun x=>x.1.fit (i+1)) ?_ fun x hx=>?_
      · refine aG rfl (fun h1=>?_) (fun h1=>?_)
        · refine aB ?_
          exact gB (⟨_,[dv ds ((10+3*(i:Int))+1).toNat % 1000000 % ((i+1:Nat):Int)],_,_,_,_⟩,_,_) (hg:=⟨(fun f hf=>by rcases List.mem_singleton.1 hf with rfl;exact f0),.inr (.inl ⟨h1,rfl,rfl,by dsimp only;omega,by dsimp only;omega,by dsimp only;omega,by dsimp only;omega,by dsimp only;omega,by dsimp only;omega⟩)⟩)
        refine aB ?_;refine aG rfl (fun h2=>?_) (fun h2=>?_)
        · refine aB ?_
          exact gB (⟨_,[dv ds ((10+3*(i:Int))+1).toNat % 1000000 % ((i+1:Nat):Int)],_,_,_,_⟩,_,_) (hg:=⟨(fun f hf=>by rcases List.mem_singleton.1 hf with rfl;exact f0),.inr (.inr (.inl ⟨h2,rfl,rfl,rfl,by dsimp only;omega,by dsimp only;omega,rfl⟩))⟩)
        refine aB ?_;refine aG rfl (fun h3=>?_) (fun h3=>?_)
        · refine qM ?_
          refine aM 11 ?_;refine eL fun g7=>?_;refine bL ?_;refine nZ [12,13,14] ?_;refine aB ?_;refine sN 2 fun A' k'=>?_;dsimp only[List.set];refine aB ?_;exact gB (⟨_,[dv ds ((10+3*(i:Int))+1).toNat % 1000000 % ((i+1:Nat):Int),dv ds ((10+3*(i:Int))+2).toNat % 1000000 % ((i+1:Nat):Int)],_,_,_,_⟩,_,_) (hg:=⟨(fun f hf=>by simp only[List.mem_cons,List.not_mem_nil,or_false] at hf;rcases hf with rfl | rfl;exact f0;exact f1),.inr (.inr (.inr (.inr ⟨h3,rfl,rfl,rfl,rfl,rfl⟩)))⟩)
        · refine aB ?_
          exact gB (⟨_,[dv ds ((10+3*(i:Int))+1).toNat % 1000000 % ((i+1:Nat):Int)],_,_,_,_⟩,_,_) (hg:=⟨(fun f hf=>by rcases List.mem_singleton.1 hf with rfl;exact f0),.inr (.inr (.inr (.inl ⟨by rcases aPq with h | h | h | h<;>simp_all,rfl,rfl,rfl,rfl,rfl⟩)))⟩)
      obtain⟨cl,Af,cf⟩:=x;dsimp only at hx⊢;refine aB ?_;refine eL fun g7=>?_;refine aB ?_;refine sN 4 fun A' k'=>?_;dsimp only[List.set];refine aB ?_;refine aY [2,3,4,5,6,7] rfl (by decide) (fun _ h=>h) ?_;refine aTy ?_;exact jM ((_,_),(_,_),_) (hg:=⟨by simp[iA],by omega,Mv.snoc (by rw[iA];exact hx),by simp⟩)
    · refine aB ?_
      exact gB ((_,_),(_,_),_) (hg:=⟨iA,Nat.succ_pos i,Nat.succ_le_succ hi8,Mv⟩)
  obtain⟨⟨cs,rows⟩,⟨B,cB⟩,nc⟩:=x;dsimp only at hx⊢;obtain⟨iA,Xb,hc9,Mv⟩:=hx;refine aB ?_;refine iO 50 3 ?_;refine Dl (α:=(List Dom×List (List Value))×(Option Addr×Nat)×Nat) (fun _=>[(6,pt g4),(4,.slice (some ⟨g2,0,none⟩) 120 120),(2,pt g1)]) (fun x=>[HP.own 50 3 (.slice x.2.1.1 x.2.2 x.2.1.2) x.2.2 x.1.2.flatten,sA cs rows,HP.own 86 6 (.slice B nc cB) nc rows.flatten,HP.aE g4 30 [.slice B nc cB,.slice x.2.1.1 x.2.2 x.2.1.2,sn,sn],HP.aE g2 3 (aK ds),HP.aE g1 30 [sn,sn,sn,sn]]) (fun x=>x.1.1.length=x.2.2∧1≤x.2.2∧x.2.2≤4∧Fits Dom.fit x.1.1∧Rows vA 3 x.1.1 x.1.2) ?_ fun x hx=>?_
  · refine pT (α:=(List Dom×List (List Value))×(Option Addr×Nat)×List Value) (fun i _=>[(11,iv i),(6,pt g4),(4,.slice (some ⟨g2,0,none⟩) 120 120),(2,pt g1)]) (fun i x=>[HP.own 50 3 (.slice x.2.1.1 i x.2.1.2) i x.2.2,sA cs rows,HP.own 86 6 (.slice B nc cB) nc rows.flatten,HP.aE g4 30 [.slice B nc cB,.slice x.2.1.1 i x.2.1.2,sn,sn],HP.aE g2 3 (aK ds),HP.aE g1 30 [sn,sn,sn,sn]]) (fun i x=>x.1.1.length=i∧Fits Dom.fit x.1.1∧Rows vA 3 x.1.1 x.1.2∧x.2.2=x.1.2.flatten) 4 (([],[]),(none,0),[]) ⟨rfl,Fits.nil _,trivial,rfl⟩ fun i x hi hx=>?_
    obtain⟨⟨dm,Bb⟩,⟨D,cD⟩,xs⟩:=x;dsimp only at hx⊢;obtain⟨iY,hdf,Ak,rfl⟩:=hx;refine aB ?_;refine aG rfl (fun h=>?_) (fun h=>?_)
    · refine aB ?_
      refine qM ?_;refine aM 15 ?_;refine bR fun g5=>?_;refine bL ?_;refine nZ [16] ?_;refine aD2 ?_;refine oM 0 rfl ?_;dsimp only[List.set];refine aHH ?_;refine gQ ?_;refine Tb (α:=Int) (fun _=>[(12,pt g5),(11,iv i),(6,pt g4),(4,.slice (some ⟨g2,0,none⟩) 120 120),(2,pt g1)]) (fun v=>[HP.aE g5 50 [iv v,iv (dv ds (40+(i:Int)).toNat % 4),.bool (decide (dv ds (40+(i:Int)).toNat % 1000000 / 4 % 2=1))],HP.own 50 3 (.slice D i cD) i Bb.flatten,sA cs rows,HP.own 86 6 (.slice B nc cB) nc rows.flatten,HP.aE g4 30 [.slice B nc cB,.slice D i cD,sn,sn],HP.aE g2 3 (aK ds),HP.aE g1 30 [sn,sn,sn,sn]]) (fun v=>v= -1∨(0≤v∧v < i)) ?_ fun v hv=>?_
      · refine aB ?_
        refine bU (t:=172) rfl (fun hg=>?_) (fun hg=>?_)
        · have f2:=Hu (dv ds (44+(i:Int)).toNat % 1000000 / 3) (n:=(i:Int)) hg
          refine aB ?_;refine aG rfl (fun h3=>?_) (fun h3=>?_)
          · refine aB ?_
            exact gB _ (hg:=.inr f2)
          · refine aB ?_
            exact gB _ (hg:=.inl rfl)
        · refine aB ?_
          exact gB _ (hg:=.inl rfl)
      refine aB ?_;refine eL fun g7=>?_;refine aB ?_;refine sN 2 fun A' k'=>?_;dsimp only[List.set];refine aB ?_;exact jM ((dm++[⟨v,dv ds (40+(i:Int)).toNat % 4,decide (dv ds (40+(i:Int)).toNat % 1000000 / 4 % 2=1)⟩],Bb++[_]),(_,_),_) (hg:=⟨by simp[iY],hdf.snoc ⟨by rw[iY];exact hv,by dsimp only;omega,by dsimp only;omega⟩,Ak.snoc rfl rfl,by simp⟩)
    · refine aB ?_
      exact gB ((_,_),(_,_),_) (hg:=⟨iY,by show 1≤i;omega,hi,hdf,Ak⟩)
  obtain⟨⟨dm,Bb⟩,⟨D,cD⟩,nd⟩:=x;dsimp only at hx⊢;obtain⟨iY,dD,hd4,hdf,Ak⟩:=hx;refine aB ?_;refine iO 88 1 ?_;refine Dl (α:=(List Int×List (List Value))×(Option Addr×Nat)×Nat) (fun _=>[(6,pt g4),(4,.slice (some ⟨g2,0,none⟩) 120 120),(2,pt g1)]) (fun x=>[HP.own 88 1 (.slice x.2.1.1 x.2.2 x.2.1.2) x.2.2 x.1.2.flatten,HP.own 50 3 (.slice D nd cD) nd Bb.flatten,sA cs rows,HP.own 86 6 (.slice B nc cB) nc rows.flatten,HP.aE g4 30 [.slice B nc cB,.slice D nd cD,.slice x.2.1.1 x.2.2 x.2.1.2,sn],HP.aE g2 3 (aK ds),HP.aE g1 30 [sn,sn,sn,sn]]) (fun x=>x.1.1.length=x.2.2∧1≤x.2.2∧x.2.2≤3∧(∀r∈x.1.1,0≤r∧r≤3)∧Rows yV 1 x.1.1 x.1.2) ?_ fun x hx=>?_
  · refine pT (α:=(List Int×List (List Value))×(Option Addr×Nat)×List Value) (fun i _=>[(13,iv i),(6,pt g4),(4,.slice (some ⟨g2,0,none⟩) 120 120),(2,pt g1)]) (fun i x=>[HP.own 88 1 (.slice x.2.1.1 i x.2.1.2) i x.2.2,HP.own 50 3 (.slice D nd cD) nd Bb.flatten,sA cs rows,HP.own 86 6 (.slice B nc cB) nc rows.flatten,HP.aE g4 30 [.slice B nc cB,.slice D nd cD,.slice x.2.1.1 i x.2.1.2,sn],HP.aE g2 3 (aK ds),HP.aE g1 30 [sn,sn,sn,sn]]) (fun i x=>x.1.1.length=i∧(∀r∈x.1.1,0≤r∧r≤3)∧Rows yV 1 x.1.1 x.1.2∧x.2.2=x.1.2.flatten) 3 (([],[]),(none,0),[]) ⟨rfl,by simp,trivial,rfl⟩ fun i x hi hx=>?_
    obtain⟨⟨rs,rrs⟩,⟨L,cL⟩,xs⟩:=x;dsimp only at hx⊢;obtain⟨hrl,yC,cI,rfl⟩:=hx;refine aB ?_;refine aG rfl (fun h=>?_) (fun h=>?_)
    · refine aB ?_
      refine qM ?_;refine aM 9 ?_;refine eL fun g7=>?_;refine bL ?_;refine nZ [10,11,12] ?_;refine aB ?_;refine sN 1 fun A' k'=>?_;dsimp only[List.set];refine aB ?_
      exact jM ((rs++[dv ds (50+(i:Int)).toNat % 4],rrs++[_]),(_,_),_) (hg:=⟨by simp[hrl],(fun r hr=>by
        rcases List.mem_append.1 hr with hr | hr
        · exact yC r hr
        · rcases List.mem_singleton.1 hr with rfl
          omega),cI.snoc rfl rfl,by simp⟩)
    · refine aB ?_
      exact gB ((_,_),(_,_),_) (hg:=⟨hrl,by show 1≤i;omega,hi,yC,cI⟩)
  obtain⟨⟨rs,rrs⟩,⟨L,cL⟩,nr⟩:=x;dsimp only at hx⊢;obtain⟨hrl,eH,yD,yC,cI⟩:=hx;refine aB ?_;refine iO 38 6 ?_;refine aJU (p:=Fp [] []) (fun w=>trivial) ?_;refine Dl (α:=(List bO×List (List Value))×(Option Addr×Nat)×Nat) (fun _=>[(6,pt g4),(4,.slice (some ⟨g2,0,none⟩) 120 120),(2,pt g1)]) (fun x=>[Fp x.1.1 x.1.2,HP.own 38 6 (.slice x.2.1.1 x.2.2 x.2.1.2) x.2.2 x.1.2.flatten,HP.own 88 1 (.slice L nr cL) nr rrs.flatten,HP.own 50 3 (.slice D nd cD) nd Bb.flatten,sA cs rows,HP.own 86 6 (.slice B nc cB) nc rows.flatten,HP.aE g4 30 [.slice B nc cB,.slice D nd cD,.slice L nr cL,.slice x.2.1.1 x.2.2 x.2.1.2],HP.aE g2 3 (aK ds),HP.aE g1 30 [sn,sn,sn,sn]]) (fun x=>x.1.1.length=x.2.2∧1≤x.2.2∧x.2.2≤4∧Fits (bO.fit nc nd nr) x.1.1) ?_ fun x hx=>?_
  · refine pT (α := (List bO × List (List Value)) × (Option Addr × Nat) × List Value) (fun i _ => [(14, iv i), (6, pt g4), (4, .slice (some ⟨g2, 0, none⟩) 120 120), (2, pt g1)]) (fun i x => [Fp x.1.1 x.1.2, HP.own 38 6 (.slice x.2.1.1 i x.2.1.2) i x.2.2, HP.own 88 1 (.slice L nr cL) nr rrs.flatten, HP.own 50 3 (.slice D nd cD) nd Bb.flatten, sA cs rows, HP.own 86 6 (.slice B nc cB) nc rows.flatten, HP.aE g4 30 [.slice B nc cB, .slice D nd cD, .slice L nr cL, .slice x.2.1.1 i x.2.1.2], HP.aE g2 3 (aK ds), HP.aE g1 30 [sn, sn, sn, sn]]) (fun i x => x.1.1.length = i ∧ Fits (bO.fit nc nd nr) x.1.1 ∧ x.2.2 = x.1.2.flatten) 4 (([], []), (none, 0), []) ⟨rfl, Fits.nil _, rfl⟩ fun i x hi hx => ?_
    obtain⟨⟨vs,r4⟩,⟨V,cV⟩,xs⟩:=x;dsimp only at hx⊢;obtain⟨hvl,hvf,rfl⟩:=hx;refine aB ?_;refine aG rfl (fun h=>?_) (fun h=>?_)
    · have q0 := Hu (dv ds (60 + 12 * (i : Int)).toNat % 1000000) (n := (nc : Int)) (by omega)
      have q1:=Hu (dv ds (60+12*(i:Int)+1).toNat % 1000000) (n:=(nd:Int)) (by omega)
      have q2:=Hu (dv ds (60+12*(i:Int)+2).toNat % 1000000) (n:=(nr:Int)) (by omega)
      refine aB ?_;refine qM ?_;refine aM 34 ?_;refine bR fun g5=>?_;refine bL ?_;refine nZ [35] ?_;refine aB ?_;refine iO 48 2 ?_;refine Dl (α:=List Rg×(Option Addr×Nat)×Nat) (fun _=>[(16,pt g5),(15,iv (60+12*(i:Int))),(14,iv i),(6,pt g4),(4,.slice (some ⟨g2,0,none⟩) 120 120),(2,pt g1)]) (fun x=>[HP.own 48 2 (.slice x.2.1.1 x.2.2 x.2.1.2) x.2.2 (x.1.flatMap Rg.cells),HP.aE g5 38 [iv (dv ds (60+12*(i:Int)).toNat % 1000000 % (nc:Int)),iv (dv ds (60+12*(i:Int)+1).toNat % 1000000 % (nd:Int)),iv (dv ds (60+12*(i:Int)+2).toNat % 1000000 % (nr:Int)),.int .u32 (dv ds (60+12*(i:Int)+3).toNat % 1000000 % 3),.slice x.2.1.1 x.2.2 x.2.1.2,sn],Fp vs r4,HP.own 38 6 (.slice V i cV) i r4.flatten,HP.own 88 1 (.slice L nr cL) nr rrs.flatten,HP.own 50 3 (.slice D nd cD) nd Bb.flatten,sA cs rows,HP.own 86 6 (.slice B nc cB) nc rows.flatten,HP.aE g4 30 [.slice B nc cB,.slice D nd cD,.slice L nr cL,.slice V i cV],HP.aE g2 3 (aK ds),HP.aE g1 30 [sn,sn,sn,sn]]) (fun x=>x.1.length=x.2.2∧x.2.2≤4∧∀r∈x.1,0≤r.reset∧r.reset≤6) ?_ fun x hx=>?_
      · refine pT (α:=List Rg×(Option Addr×Nat)×List Value) (fun j _=>[(17,iv j),(16,pt g5),(15,iv (60+12*(i:Int))),(14,iv i),(6,pt g4),(4,.slice (some ⟨g2,0,none⟩) 120 120),(2,pt g1)]) (fun j x=>[HP.own 48 2 (.slice x.2.1.1 j x.2.1.2) j x.2.2,HP.aE g5 38 [iv (dv ds (60+12*(i:Int)).toNat % 1000000 % (nc:Int)),iv (dv ds (60+12*(i:Int)+1).toNat % 1000000 % (nd:Int)),iv (dv ds (60+12*(i:Int)+2).toNat % 1000000 % (nr:Int)),.int .u32 (dv ds (60+12*(i:Int)+3).toNat % 1000000 % 3),.slice x.2.1.1 j x.2.1.2,sn],Fp vs r4,HP.own 38 6 (.slice V i cV) i r4.flatten,HP.own 88 1 (.slice L nr cL) nr rrs.flatten,HP.own 50 3 (.slice D nd cD) nd Bb.flatten,sA cs rows,HP.own 86 6 (.slice B nc cB) nc rows.flatten,HP.aE g4 30 [.slice B nc cB,.slice D nd cD,.slice L nr cL,.slice V i cV],HP.aE g2 3 (aK ds),HP.aE g1 30 [sn,sn,sn,sn]]) (fun j x=>x.1.length=j∧(∀r∈x.1,0≤r.reset∧r.reset≤6)∧x.2.2=x.1.flatMap Rg.cells) 4 ([],(none,0),[]) ⟨rfl,by simp,rfl⟩ fun j x hj hx=>?_
        obtain⟨rg,⟨W,cW⟩,xs⟩:=x;dsimp only at hx⊢;obtain⟨kK,hgf,rfl⟩:=hx;refine aB ?_;refine aG rfl (fun h5=>?_) (fun h5=>?_)
        · refine aB ?_
          refine qM ?_;refine aM 22 ?_;refine eL fun g7=>?_;refine bL ?_;refine nZ [23,24,25] ?_;refine aB ?_;refine sN 1 fun A' k'=>?_;dsimp only[List.set];refine aB ?_
          exact jM (rg++[⟨dv ds (60+12*(i:Int)+5+(j:Int)).toNat % 1000000 % 7,decide (dv ds (60+12*(i:Int)+5+(j:Int)).toNat % 1000000 / 7 % 2=0)⟩],(_,_),_) (hg:=⟨by simp[kK],(fun r hr=>by
            rcases List.mem_append.1 hr with hr | hr
            · exact hgf r hr
            · rcases List.mem_singleton.1 hr with rfl
              dsimp only
              omega),by simp[Rg.cells]⟩)
        · refine aB ?_
          exact gB (_,(_,_),_) (hg:=⟨kK,hj,hgf⟩)
      obtain⟨rg,⟨W,cW⟩,ng⟩:=x;dsimp only at hx⊢;obtain⟨rfl,hg4,hgf⟩:=hx;refine iO 3 1 ?_;refine Tb (α:=(List Int×List Value)×(Option Addr×Nat)×Nat) (fun _=>[(16,pt g5),(15,iv (60+12*(i:Int))),(14,iv i),(6,pt g4),(4,.slice (some ⟨g2,0,none⟩) 120 120),(2,pt g1)]) (fun x=>[HP.own 3 1 (.slice x.2.1.1 x.2.2 x.2.1.2) x.2.2 x.1.2,HP.own 48 2 (.slice W rg.length cW) rg.length (rg.flatMap Rg.cells),HP.aE g5 38 [iv (dv ds (60+12*(i:Int)).toNat % 1000000 % (nc:Int)),iv (dv ds (60+12*(i:Int)+1).toNat % 1000000 % (nd:Int)),iv (dv ds (60+12*(i:Int)+2).toNat % 1000000 % (nr:Int)),.int .u32 (dv ds (60+12*(i:Int)+3).toNat % 1000000 % 3),.slice W rg.length cW,.slice x.2.1.1 x.2.2 x.2.1.2],Fp vs r4,HP.own 38 6 (.slice V i cV) i r4.flatten,HP.own 88 1 (.slice L nr cL) nr rrs.flatten,HP.own 50 3 (.slice D nd cD) nd Bb.flatten,sA cs rows,HP.own 86 6 (.slice B nc cB) nc rows.flatten,HP.aE g4 30 [.slice B nc cB,.slice D nd cD,.slice L nr cL,.slice V i cV],HP.aE g2 3 (aK ds),HP.aE g1 30 [sn,sn,sn,sn]]) (fun x=>x.1.1.length=x.2.2∧x.2.2≤1∧x.1.2=aK x.1.1∧∀f∈x.1.1,0≤f∧f < i) ?_ fun x hx=>?_
      · refine aB ?_
        refine bU (t:=300) rfl (fun hg=>?_) (fun hg=>?_)
        · have f2:=Hu (dv ds (60+12*(i:Int)+10).toNat % 1000000) (n:=(i:Int)) hg
          refine aB ?_;refine aG rfl (fun h3=>?_) (fun h3=>?_)
          · refine qM ?_
            refine aM 9 ?_;refine eL fun g7=>?_;refine bL ?_;refine nZ [10,11,12] ?_;refine aB ?_;refine sN 1 fun A' k'=>?_;dsimp only[List.set];refine aB ?_;exact gB (([_],_),(_,_),_) (hg:=⟨rfl,Nat.le_refl _,rfl,fun f hf=>by rcases List.mem_singleton.1 hf with rfl;exact f2⟩)
          · refine aB ?_
            exact gB (([],_),(_,_),_) (hg:=⟨rfl,Nat.zero_le _,rfl,by simp⟩)
        · refine aB ?_
          exact gB (([],_),(_,_),_) (hg:=⟨rfl,Nat.zero_le _,rfl,by simp⟩)
      obtain⟨⟨ns,xs⟩,⟨U,cU⟩,nn⟩:=x;dsimp only at hx⊢;obtain⟨iK,qG,rfl,hnf⟩:=hx;refine Tb (α:=(List Int×List Value)×(Option Addr×Nat)×Nat) (fun _=>[(16,pt g5),(15,iv (60+12*(i:Int))),(14,iv i),(6,pt g4),(4,.slice (some ⟨g2,0,none⟩) 120 120),(2,pt g1)]) (fun x=>[HP.own 3 1 (.slice x.2.1.1 x.2.2 x.2.1.2) x.2.2 x.1.2,HP.own 48 2 (.slice W rg.length cW) rg.length (rg.flatMap Rg.cells),HP.aE g5 38 [iv (dv ds (60+12*(i:Int)).toNat % 1000000 % (nc:Int)),iv (dv ds (60+12*(i:Int)+1).toNat % 1000000 % (nd:Int)),iv (dv ds (60+12*(i:Int)+2).toNat % 1000000 % (nr:Int)),.int .u32 (dv ds (60+12*(i:Int)+3).toNat % 1000000 % 3),.slice W rg.length cW,.slice x.2.1.1 x.2.2 x.2.1.2],Fp vs r4,HP.own 38 6 (.slice V i cV) i r4.flatten,HP.own 88 1 (.slice L nr cL) nr rrs.flatten,HP.own 50 3 (.slice D nd cD) nd Bb.flatten,sA cs rows,HP.own 86 6 (.slice B nc cB) nc rows.flatten,HP.aE g4 30 [.slice B nc cB,.slice D nd cD,.slice L nr cL,.slice V i cV],HP.aE g2 3 (aK ds),HP.aE g1 30 [sn,sn,sn,sn]]) (fun x=>x.1.1.length=x.2.2∧x.2.2≤2∧x.1.2=aK x.1.1∧∀f∈x.1.1,0≤f∧f < i) ?_ fun x hx=>?_
      · refine aB ?_
        refine bU (t:=323) rfl (fun hg=>?_) (fun hg=>?_)
        · have f2:=Hu (dv ds (60+12*(i:Int)+11).toNat % 1000000 / 3) (n:=(i:Int)) (by omega)
          refine aB ?_;refine aG rfl (fun h3=>?_) (fun h3=>?_)
          · refine qM ?_
            refine aM 10 ?_;refine eL fun g7=>?_;refine bL ?_;refine nZ [11,12,13] ?_;refine aB ?_;refine sN 1 fun A' k'=>?_;dsimp only[List.set];refine aB ?_
            exact gB ((ns++[dv ds (60+12*(i:Int)+11).toNat % 1000000 / 3 % (i:Int)],_),(_,_),_) (hg:=⟨by simp[iK],by show nn+1≤2;omega,by simp[aK],fun f hf=>by
              rcases List.mem_append.1 hf with hf | hf
              · exact hnf f hf
              · rcases List.mem_singleton.1 hf with rfl
                exact f2⟩)
          · refine aB ?_
            exact gB ((_,_),(_,_),_) (hg:=⟨iK,Nat.le_succ_of_le qG,rfl,hnf⟩)
        · refine aB ?_
          exact gB ((_,_),(_,_),_) (hg:=⟨iK,Nat.le_succ_of_le qG,rfl,hnf⟩)
      obtain⟨⟨ns,xs⟩,⟨U,cU⟩,nn⟩:=x;dsimp only at hx⊢;obtain⟨rfl,hn2,rfl,hnf⟩:=hx;refine aB ?_;refine eL fun g7=>?_;refine aB ?_;refine sN 5 fun A' k'=>?_;dsimp only[List.set];refine aB ?_;refine aY [2,1,4,5,6,7,8,9,10,11,12] rfl (by decide) (fun _ h=>h) ?_;refine aTw (d:=⟨dv ds (60+12*(i:Int)).toNat % 1000000 % (nc:Int),dv ds (60+12*(i:Int)+1).toNat % 1000000 % (nd:Int),dv ds (60+12*(i:Int)+2).toNat % 1000000 % (nr:Int),dv ds (60+12*(i:Int)+3).toNat % 1000000 % 3,rg,ns⟩) ?_;exact jM ((_,_),(_,_),_) (hg:=⟨by simp[hvl],hvf.snoc ⟨q0.1,q0.2,q1.1,q1.2,q2.1,q2.2,by dsimp only;omega,by dsimp only;omega,hg4,hgf,hn2,by rw[hvl];exact hnf⟩,by simp⟩)
    · refine aB ?_
      exact gB ((_,_),(_,_),_) (hg:=⟨hvl,by show 1≤i;omega,hi,hvf⟩)
  obtain⟨⟨vs,r4⟩,⟨V,cV⟩,nv⟩:=x;dsimp only at hx⊢;obtain⟨rfl,Ml,hv4,hvf⟩:=hx;subst iA;subst iY;subst hrl;refine aB ?_;refine oM 8 rfl ?_;dsimp only[List.set];refine aB ?_;refine aY [8,5,4,3,2,1,0] rfl (by decide) (fun _ h=>h) ?_;refine dP [] [] [0,1,2,3,4,5,6] (by simp) rfl (by decide) (by decide) fun q _ _ hfr=>?_;exact Nz rfl (by kernel_rfl) rfl rfl (aQ.whole 0 rfl) fun w1 t=>⟨⟨_,_,⟨w1,q.Z⟩,rfl,rfl,⟨_,_,rfl,⟨⟨cs,dm,rs,vs⟩,(B,cB),(D,cD),(L,cL),(V,cV),rows,Bb,rrs,r4,rfl,⟨Mv,hdf,yC,hvf,⟨Xb,hc9⟩,⟨dD,hd4⟩,⟨eH,yD⟩,⟨Ml,hv4⟩⟩,Ak,cI,rfl⟩⟩,t.newR (by simp) (by simp) (hfr (by simp) (by simp))⟩,t.below (by simp)⟩
theorem aSm(A:Option Addr)(n c:Nat)(zs:List Int)(w:World)(h0:aI (all w) 1 A n (aK zs))(hz:aCm zs)(hn:n=zs.length)(hn2:n≤9223372036854775807):
  Cz 9 #[.slice A n c] w fun x w'=>(∃v,x=.returned v∧∃cs s,v=.agg cs∧wB (fF (fresh w w')) s cs∧s.made)∧Below w.heap.size w w':=
 (aSl A n c zs w h0 hz hn hn2).mono fun x w' ⟨⟨v,hs,q,h1,h2,⟨p,hs',h3,h4⟩,h5⟩,h6⟩=>⟨⟨v,h1,h4.weak h2 (by subst h3;exact h5.tail)⟩,h6⟩
end
section
section
variable{s:aD}{n:Nat}{m:dR}
end
section
variable{g f:Nat}{hL:HL}{s:aD}{n:Nat}{m:dR}{w:World}{F:Nat→Prop}
theorem aO4{t k d r v e:Int}{z':aW}(hs:vH m.z t k d r v=(e,z'))(hp:(mU g f hL s m).sat F w)(hF:∀b,F b→b < w.heap.size):
  Cz 17 #[pt g,iv t,.agg #[.int .u8 k,iv d,iv r,.int .u32 v]] w (Wr (iv e) (mU g f hL s ⟨z',m.y,m.x⟩) w F):=by
 have:=aO5 g f hL s m w F t k d r v hp hF
 unfold dR.start at this;rw[hs] at this;exact this
theorem eN.aGc(h:eN s n m){t k d r v e:Int}{z':aW}(hs:vH m.z t k d r v=(e,z'))(hv:0≤v∧v < 4294967296):eN s n ⟨z',m.y,m.x⟩:=by
 have:=h.start t k d r v hv
 unfold dR.start at this;rw[hs] at this;exact this
theorem aAM{t e v:Int}{b:Bool}{z':aW}(hs:nE m.z t=((e,v,b),z'))(hp:(mU g f hL s m).sat F w)(hF:∀b,F b→b < w.heap.size):
  Cz 23 #[pt g,iv t] w (Wr (.tuple #[.agg #[iv e,.int .u32 v],.bool b]) (mU g f hL s ⟨z',m.y,m.x⟩) w F):=by
 have:=aO7 g f hL s m w F t hp hF
 unfold dR.done at this;rw[hs] at this;exact this
theorem eN.aIO(h:eN s n m){t e v:Int}{b:Bool}{z':aW}(hs:nE m.z t=((e,v,b),z')):eN s n ⟨z',m.y,m.x⟩:=by
 have:=h.done t
 unfold dR.done at this;rw[hs] at this;exact this
end
end
section
def dR.qC(s:aD)(t:Int)(m:dR):dR:=((m.step s t).eZ s).tick s 0
def sD(s:aD)(t:Int):Nat→dR→Int→Int→dR→Prop
 | 0,_,_,_,_=>False
 | N + 1, m, e, u, m' =>
  (∃z,nE (m.step s t).z t=((e,u,true),z)∧m'=⟨z,(m.step s t).y,(m.step s t).x⟩)∨
  (nE (m.step s t).z t=((0,0,false),(m.step s t).z)∧
   ((∃z,nE (m.qC s t).z t=((e,u,true),z)∧m'=⟨z,(m.qC s t).y,(m.qC s t).x⟩)∨(nE (m.qC s t).z t=((0,0,false),(m.qC s t).z)∧sD s t N (m.qC s t) e u m')))
theorem eN.qC{s:aD}{n:Nat}{m:dR}(hm:s.made)(h:eN s n m)(t:Int):eN s (n+1) (m.qC s t):=((h.step hm t).eZ hm).tick hm 0
def Zx(hL:HL)(f r:Nat)(X:Value):List Value:=[pt hL.h,pt f,pt r,X]
def It(g r f:Nat)(hL:HL)(X:Value)(s:aD)(m:dR):HP:=HP.many [HP.aE g 58 (Zx hL f r X),mU r f hL s m]
theorem aAx(g r f:Nat)(hL:HL)(X:Value)(s:aD)(n N:Nat)(m m':dR)(t:Nat)(k d q v e u:Int)(z1:aW)(w:World)(F:Nat→Prop)(hm:s.made)(aV:gX hL s)(hok:eN s n m)(hn:n+1500≤1000000000)(hN:N≤1500)(hv:0≤v∧v < 4294967296)
  (hs:vH m.z t k d q v=(0,z1)) (hrun:sD s t N ⟨z1,m.y,m.x⟩ e u m') (eY:jS ⟨w,fun b=>b < w.heap.size∧¬F b⟩) (hp:(It g r f hL X s m).sat F w) (hF:∀b,F b→b < w.heap.size):
  Cz 12 #[pt g,iv t,.agg #[.int .u8 k,iv d,iv q,.int .u32 v]] w (Wr (.tuple #[.agg #[iv e,.int .u32 u],.bool true]) (It g r f hL X s m') w F):=by
 refine dJ func12 ntmps12 hp hF ?_;refine aB ?_;refine bA fun g5=>?_;refine bR fun g6=>?_;refine aB ?_;refine bF 2 0 ?_;refine bF 3 1 ?_
 have Mt:=hok.aGc hs hv
 refine Ob [1,2,3,5] ?_;refine bP 0 ?_ (hsub:=fun _ h=>h.cR);refine aJ 1 ?_ (hsub:=fun _ h=>h.cR);refine aJ 2 ?_ (hsub:=fun _ h=>h.cR);refine aJ 3 ?_ (hsub:=fun _ h=>h.cR);refine bP 4 ?_ (hsub:=fun _ h=>h.cR);refine aJ 5 ?_ (hsub:=fun _ h=>h.cR);refine aM 6 ?_;refine dU 0 (mU r f hL s ⟨z1,m.y,m.x⟩) (fun w1 F1 t h1 h2 h3=>aO4 hs h1 h2) ?_;refine bL ?_ (hS:=fun _ h=>h.cR);refine nZ [7] ?_;refine aB ?_;refine pT (α:=dR) (fun i _=>[(8,iv i),(7,.bool false),(6,pt g6),(1,iv t),(0,pt g)]) (fun _ m=>[mU r f hL s m,HP.aE g 58 (Zx hL f r X),HP.aE g6 42 [iv 0,.int .u32 0],HP.many [cG,cG]]) (fun i m=>eN s (n+i) m∧∃N,i+N≤1500∧sD s t N m e u m') 1500 ⟨z1,m.y,m.x⟩ ⟨Mt,N,by omega,hrun⟩ fun i m hi hx=>?_;obtain⟨hok,N,hiN,hrun⟩:=hx;cases N with
 | zero=>exact hrun.elim
 | succ N =>
  refine aB ?_;refine aG rfl (fun hlt=>?_) (fun hge=>absurd (by omega) hge);refine aB ?_;refine dU 0 (mU r f hL s (m.step s t)) (fun w1 F1 t' h1 h2 h3=>aO3 r f hL s (n+i) m w1 F1 hm aV hok (by omega) t h1 h2 (jS.le eY (h3 _ (by simp)))) ?_
  have mM:=hok.step hm t
  refine aB ?_;rcases hrun with⟨z,hd,rfl⟩ | ⟨hd,Qv⟩
  ·refine dU 0 (mU r f hL s ⟨z,(m.step s t).y,(m.step s t).x⟩) (fun w1 F1 t' h1 h2 h3=>aAM hd h1 h2) ?_;refine aB ?_;refine bR fun g9=>?_;refine aB ?_;refine aY [1,2,4,3] rfl (by decide) (fun _ h=>h) ?_;refine aN 1 1 ?_;refine aN 0 0 ?_;exact xC (vs:=[iv e,.int .u32 u]) rfl (by kernel_rfl) rfl rfl (aQ.whole 1 rfl) rfl fun w1 t=>⟨rfl,t.turns hF (by simp) (i:=0) rfl⟩
  refine dU 0 (mU r f hL s (m.step s t)) (fun w1 F1 t' h1 h2 h3=>aAM hd h1 h2) ?_;refine aB ?_;refine bR fun g9=>?_;refine aB ?_;refine dU 1 (mU r f hL s ((m.step s t).eZ s)) (fun w1 F1 t' h1 h2 h3=>aO6 r f hL s (n+i+1) (m.step s t) w1 F1 hm aV mM h1 h2 (jS.le eY (h3 _ (by simp)))) ?_
  have Jv:=mM.eZ hm
  have nB:=Jv.hw.dv
  have Ew:(oH s ((m.step s t).eZ s).x 0).2.length≤1000:=Nat.le_trans (aEF (s:=s) (x:=((m.step s t).eZ s).x) s.aC.length) (by have:=hm.nv;omega)
  refine aB ?_;refine aY [1,2,3,4] rfl (by decide) (fun _ h=>h) ?_;refine Ob [1,2,3,5,6,7] ?_;refine bP 0 ?_ (hsub:=fun _ h=>h.cR);refine aJ 1 ?_ (hsub:=fun _ h=>h.cR);refine aJ 2 ?_ (hsub:=fun _ h=>h.cR);refine aJ 3 ?_ (hsub:=fun _ h=>h.cR);refine bP 4 ?_ (hsub:=fun _ h=>h.cR);refine aJ 5 ?_ (hsub:=fun _ h=>h.cR);refine aJ 6 ?_ (hsub:=fun _ h=>h.cR);refine aJ 7 ?_ (hsub:=fun _ h=>h.cR);refine aM 8 ?_;refine zI (α:=Option Addr×Nat) 0 (f:=22) (fi:=[]) (ca:=[]) (fun a=>.slice a.1 (oH s ((m.step s t).eZ s).x 0).2.length a.2) (fun a=>aEZ r f hL s ⟨((m.step s t).eZ s).z,((m.step s t).eZ s).y,(oH s ((m.step s t).eZ s).x 0).1⟩ (oH s ((m.step s t).eZ s).x 0).2 a) (fun _=>True) (by kernel_rfl) rfl rfl rfl (by decide) (fun w1 F1 t' h1 h2 h3=>by simpa using aO2 r f hL s (n+i+1) ((m.step s t).eZ s) w1 F1 hm aV Jv 0 (by decide) h1 h2) fun aa _=>?_;dsimp only[List.set];refine bL ?_ (hS:=fun _ h=>h.cR);refine aM 9 ?_;refine dU 0 (mU r f hL s (m.qC s t)) (fun w1 F1 t' h1 h2 h3=>aO8 r f hL s ⟨((m.step s t).eZ s).z,((m.step s t).eZ s).y,(oH s ((m.step s t).eZ s).x 0).1⟩ w1 F1 Jv.zM _ Ew aa h1 h2) ?_;refine bL ?_ (hS:=fun _ h=>h.cR);refine fJ ?_
  have aPl:eN s (n+i+1) (m.qC s t):=Jv.tick hm 0
  refine aB ?_;rcases Qv with⟨z,hd',rfl⟩ | ⟨hd',hrun⟩
  ·refine dU 0 (mU r f hL s ⟨z,(m.qC s t).y,(m.qC s t).x⟩) (fun w1 F1 t' h1 h2 h3=>aAM hd' h1 h2) ?_;refine aB ?_;refine bR fun g9=>?_;refine aB ?_;refine aY [1,2,4,3] rfl (by decide) (fun _ h=>h) ?_;refine aN 1 1 ?_;refine aN 0 0 ?_;exact xC (vs:=[iv e,.int .u32 u]) rfl (by kernel_rfl) rfl rfl (aQ.whole 1 rfl) rfl fun w1 t=>⟨rfl,t.turns hF (by simp) (i:=0) rfl⟩
  refine dU 0 (mU r f hL s (m.qC s t)) (fun w1 F1 t' h1 h2 h3=>aAM hd' h1 h2) ?_;refine aB ?_;refine bR fun g9=>?_;refine aB ?_;exact jM (m.qC s t) (hg:=⟨aPl,N,by omega,hrun⟩)
end
section
section
variable{s:aD}{X:bK}{x:aO}
theorem aRK{x y:bK}{wt:List Int}{ag:Nat}{l:List Int}(h:∀i:Nat,(wt[i]?).getD 0≤0):jG s x y wt ag l=jG s x y [] ag l:=by
 unfold jG;rw[aE8 (fun i _=>by unfold Dh;rw[show decide (0 < (wt[i]?).getD 0)=false from decide_eq_false (by have:=h i;omega)];rfl),aBD]
theorem aLf(h:∀i,iQ x.wt i=0)(i:Nat):((lY s x)[i]?).getD 0≤0:=by
 unfold lY;rw[List.getElem?_map];cases(List.range s.aC.length)[i]? with
 | none=>simp
 | some j=>simp[h j]
theorem Dr.stp{p:cZ}(h:Dr s X p):Og p∧(p.msg=4∨p.msg=7):=by
 rcases h with⟨i,rfl,_⟩ | ⟨i,rfl,_⟩ | ⟨i,rfl,_⟩ | ⟨i,rfl,_⟩ | ⟨i,rfl,_⟩<;>simp[Og]
theorem Dr.msg(hm:s.made){p:cZ}(hg:Dr s X p)(hi:Inv s X none none none x){k l k0 i0:Int}(h0:0≤k)(h1:k < 1024)(hl:l=0∨l=1):
  ∃(N:Nat) (k' i':Int) (x':aO),N≤9∧Ti s N (Bx s X l k0 i0 (qA p k)) x [(qA p k).headD 0,IntKind.u32.wrap 0] (rK s (gP X p) 0 k' i') x'∧Inv s (gP X p) none none none x':=by
 have vT:=hg.goes hm hi.of
 obtain⟨hsp,aPo⟩:=hg.stp;obtain⟨e1,e2,e3,e4,e5⟩:=aDQ hsp h0 h1;obtain⟨f1,f2,f3,f4,f5⟩:=aDQ hsp (k:=0) (by decide) (by decide)
 have hd:aFj p.msg p.pr k:=⟨e1,by unfold uD;rw[e2];rfl,by unfold Fb;rw[e2,e4];rfl,by unfold eE;rw[e2,e5];rfl,by unfold eM;rw[e2,e3];rfl,e2,e5,e3⟩
 have hf:aFj p.msg p.pr 0:=⟨f1,by unfold uD;rw[f2];rfl,by unfold Fb;rw[f2,f4];rfl,by unfold eE;rw[f2,f5];rfl,by unfold eM;rw[f2,f3];rfl,f2,f5,f3⟩
 have hp:Plain (qA p k):=aNR hd aPo vT.id vT.v
 have hread:dZ s (qA p k)=dZ s [(eA p.msg 0 p.pr 0).1,p.id,p.v]:=by
  unfold dZ qA;dsimp only;rw[hd.un,hd.ty,hd.pr,hd.ms,hf.un,hf.ty,hf.pr,hf.ms]
 have aDS:jG s X (dQ s) (lY s x) 0 (qA p k)=(0,uN p,p.id):=by
  rw[aRK (aLf hi.wt),←vT.dec];unfold jG;rw[hread];rfl
 obtain⟨N,x',hN,hr,hi',hk⟩:=hg.run hm hi
 have hX:(jW X 0 (uN p) p.id).of s:=by rw[vT.done];exact hi'.of
 cases N with
 | zero=>exact hr.elim
 | succ n=>
  have h2:=aGh hm (X:=jW X 0 (uN p) p.id) hX hp hk _ hr
  rw[vT.done] at h2;refine⟨n+1,uN p,p.id,x',hN,aLK hm hi.of hp hl hi.ok aDS vT.kind hk ?_,hi'⟩;rw[vT.done];exact h2
end
section
variable{s:aD}{j:Nat}{z:aW}{x:aO}{y:bX}
theorem aHl(h:∀i,iQ x.wt i=0)(i:Nat):(x.wt[i]?).join=none:=by
 have:=h i
 unfold iQ at this;cases hq:(x.wt[i]?).join with
 | none=>rfl
 | some t=>rw[hq] at this;simp at this
theorem aLt(h:∀i,iQ x.wt i=0):oH s x 0=(iN s x 0,[]):=by
 unfold oH;rw[aBK _ fun k _=>aHl h k]
theorem aHA(h:∀i,iQ x.wt i=0):(dR.mk z y x).tick s 0=⟨z,y,iN s x 0⟩:=by
 unfold dR.tick;dsimp only;rw[aLt h];rfl
theorem aGC{X:bK}{l k i:Int}(hl:l=0∨l=1):kX s x (rK s X l k i)=(rK s X l k i,x):=by
 have hn:sL (rK s X l k i)=none:=by rcases hl with rfl | rfl<;>rfl
 have ht:mP s x (rK s X l k i)=(rK s X l k i,false):=by unfold mP;rw[hn]
 unfold kX;dsimp only;rw[ht,if_pos ⟨by show(-1:Int) < 0;decide,rfl⟩]
def rO(z:aW)(j:Nat)(k:Int):aW:={z.jO j {z.tk j with st:=0,kind:=0,dev:=0,bY:=0,val:=0,err:=0,res:=0} with eW:= -1,steps:=[],sent:=false,aR:=false,many:=k}
structure Ow(z:aW)(j:Nat):Prop where
 t3:T3 j
 eW:z.eW=(j:Int)
 st:(z.tk j).st=2
 po:z.aR=false
def lJ(z:aW)(L:List cZ)(b:Bool)(k:Int):aW:={z with steps:=L,sent:=b,many:=k}
theorem aFJ(L:List cZ)(b:Bool)(k:Int):(lJ z L b k).tk j=z.tk j:=by
 unfold lJ aW.tk;split<;>rfl
theorem aAn(hj:T3 j)(L:List cZ)(b:Bool)(k e r:Int):nE (kD (lJ z L b k) j e r) j=((e,r,true),rO z j k):=by
 rcases hj with rfl | rfl | rfl<;>rfl
theorem Lp(h:Ow z j)(L:List cZ)(b:Bool)(k:Int):nE (lJ z L b k) j=((0,0,false),lJ z L b k):=by
 unfold nE;rw[if_neg (by rcases h.t3 with rfl | rfl | rfl<;>decide),Int.toNat_natCast,aFJ,h.st,if_pos (by decide)]
theorem aC2(h:Ow z j)(L:List cZ)(b:Bool)(k:Int):(dR.mk (lJ z L b k) y x).step s j=⟨(qL (lJ z L b k) y j).1,(qL (lJ z L b k) y j).2,x⟩:=by
 unfold dR.step Eh;dsimp only;rw[if_neg (by rcases h.t3 with rfl | rfl | rfl<;>decide),Int.toNat_natCast,aFJ,h.st,if_neg (by decide),if_pos rfl,if_pos (show(lJ z L b k).aR=false from h.po)]
theorem sD.mono{t:Int}:∀{N N':Nat} {m m':dR} {e u:Int},sD s t N m e u m'→N≤N'→sD s t N' m e u m'
 | 0,_,_,_,_,_,h,_=>h.elim
 | _+1,0,_,_,_,_,_,hN=>absurd hN (by omega)
 | N+1,N'+1,_,_,_,_,h,hN=>by
  rcases h with h | ⟨h1,h | ⟨h2,h3⟩⟩
  ·exact .inl h
  ·exact .inr ⟨h1,.inl h⟩
  ·exact .inr ⟨h1,.inr ⟨h2,h3.mono (by omega)⟩⟩
theorem aCM(h:Ow z j){L:List cZ}{k:Int}{a:List Int}{z':bX}{x':aO}{B:Nat}{e u:Int}{m':dR}(aHL:∀i,iQ x'.wt i=0)(wS:∀y',oK y' 0=some a→oJ y' 0=z'→sD s j B ⟨lJ z L true k,y',iN s x' 0⟩ e u m'):
  ∀(N:Nat) {m:dR} {y:bX} {x:aO},m.step s j=⟨lJ z L true k,y,x⟩→Ti s N y x a z' x'→sD s j (N+B) m e u m'
 | 0,_,_,_,_,hr=>hr.elim
 | N + 1, m, y, x, hs, ⟨_, hr⟩ => by
  have hrnd:∀i,(∀i,iQ (kX s x y).2.wt i=0)→m.qC s j=i→i=⟨lJ z L true k,(kX s x y).1,iN s (kX s x y).2 0⟩:=fun i hw hi=>by
   rw[←hi];unfold dR.qC;rw[hs];exact aHA hw
  rw[show N+1+B=(N+B)+1 by omega];refine .inr ⟨by rw[hs];exact Lp h _ _ _,.inr ?_⟩;rcases hr with⟨h1,h2,h3⟩ | ⟨h1,_,h2,h3⟩
  ·have hh:=(wS _ h1 h2.symm).mono (show B≤N+B by omega)
   rw[hrnd _ (h3▸aHL) rfl];exact⟨Lp h _ _ _,by rw[←h3];exact hh⟩
  ·rw[hrnd _ h2 rfl];refine⟨Lp h _ _ _,aCM h aHL wS N ?_ h3⟩;rw[aC2 h];unfold qL;rw[if_pos (show(lJ z L true k).sent=true from rfl),h1]
def aCn(s:aD):bK→List cZ→Prop
 | _,[]=>True
 | X,p::r=>Dr s X p∧aCn s (gP X p) r
theorem aIt:∀(L:List cZ) (X:bK),(∀k p,L[k]? =some p→Dr s ((L.take k).foldl gP X) p)→aCn s X L
 | [],_,_=>trivial
 | p::r,X,h=>⟨h 0 p rfl,aIt r _ fun k q hq=>h (k+1) q hq⟩
theorem aFX(h:Ow z j){p:cZ}{L:List cZ}{k v:Int}{y1:bX}(hy:oK y 0=some [v,IntKind.u32.wrap 0])(hz:oJ y 0=y1):
  (dR.mk (lJ z (p::L) true k) y x).step s j=⟨if L.length=0 then kD (lJ z L false k) j 0 0 else lJ z L false k,y1,x⟩:=by
 have ht:sH (lJ z (p::L) true k) [v,IntKind.u32.wrap 0]=lJ z L false k:=by
  unfold sH;rw[if_pos (.inl (by rw[List.getD_cons_succ,List.getD_cons_zero];decide))];rfl
 rw[aC2 h];unfold qL;rw[if_pos (show(lJ z (p::L) true k).sent=true from rfl),hy];dsimp only;rw[ht,hz];rfl
theorem aGo(h:Ow z j){p:cZ}{L:List cZ}{X:bK}{k l k0 i0:Int}:(dR.mk (lJ z (p::L) false k) (rK s X l k0 i0) x).step s j=⟨lJ z (p::L) true ((k+1) % 1024),Bx s X l k0 i0 (qA p k),x⟩:=by
 rw[aC2 h];unfold qL;rw[if_neg (show ¬(lJ z (p::L) false k).sent=true by simp[lJ])]
 show(⟨(if(nV (rK s X l k0 i0) 0 (qA p k)).1=0 then _ else _:aW×bX).1,_,x⟩:dR)=_
 rw[aKB];rfl
theorem aA7{m:dR}{X:bK}{l k0 i0:Int}(hl:l=0∨l=1)(hw:∀i,iQ x.wt i=0)(hs:m.step s j=⟨z,rK s X l k0 i0,x⟩):m.qC s j=⟨z,rK s X l k0 i0,iN s x 0⟩:=by
 unfold dR.qC;rw[hs];unfold dR.eZ;dsimp only;rw[aGC hl];exact aHA hw
theorem aL6(hm:s.made)(h:Ow z j):∀(L:List cZ) (p:cZ) (X:bK) (k l k0 i0:Int) (x:aO),aCn s X (p::L)→Inv s X none none none x→0≤k→k < 1024→(l=0∨l=1)→
  ∃(k' k1 i1:Int) (x':aO),sD s j (10*(L.length+1)) ⟨lJ z (p::L) false k,rK s X l k0 i0,x⟩ 0 0 ⟨rO z j k',rK s ((p::L).foldl gP X) 0 k1 i1,x'⟩∧Inv s ((p::L).foldl gP X) none none none x'∧0≤k'∧k' < 1024:=by
 intro L
 induction L with
 | nil=>
  intro p X k l k0 i0 x hg hi h0 h1 hl;obtain⟨N,k1,i1,x1,hN,hr,hi1⟩:=hg.1.msg hm hi (k0:=k0) (i0:=i0) h0 h1 hl;refine⟨(k+1) % 1024,k1,i1,iN s x1 0,(aCM h (B:=1) hi1.wt (fun y' hy hz=>?_) N (aGo h) hr).mono (show N+1≤10*(([]:List cZ).length+1) by simp;omega),hi1.tick hm,by omega,by omega⟩
  have hst:=aFX (s:=s) (x:=iN s x1 0) h (p:=p) (L:=[]) (k:=(k+1) % 1024) hy hz
  exact .inl ⟨rO z j ((k+1) % 1024),by rw[hst];exact aAn h.t3 _ _ _ _ _,by rw[hst];rfl⟩
 | cons q L ih =>
  intro p X k l k0 i0 x hg hi h0 h1 hl;obtain⟨N,k1,i1,x1,hN,hr,hi1⟩:=hg.1.msg hm hi (k0:=k0) (i0:=i0) h0 h1 hl
  have hi2:=hi1.tick hm
  obtain⟨k',k2,i2,x',r1,r2,r3,r4⟩:=ih q (gP X p) ((k+1) % 1024) 0 k1 i1 (iN s (iN s x1 0) 0) hg.2 (hi2.tick hm) (by omega) (by omega) (.inl rfl);refine⟨k',k2,i2,x',(aCM h (B:=1+10*(L.length+1)) hi1.wt (fun y' hy hz=>?_) N (aGo h) hr).mono (by simp only[List.length_cons];omega),r2,r3,r4⟩
  have hst:=aFX (s:=s) (x:=iN s x1 0) h (p:=p) (L:=q::L) (k:=(k+1) % 1024) hy hz
  rw[if_neg (by simp)] at hst;rw[Nat.add_comm];refine .inr ⟨by rw[hst];exact Lp h _ _ _,.inr ⟨?_,?_⟩⟩
  ·rw[aA7 (.inl rfl) hi2.wt hst];exact Lp h _ _ _
  ·rw[aA7 (.inl rfl) hi2.wt hst];exact r1
end
end
section
structure qO(s:aD)(m:dR):Prop where
 tk:∀j,T3 j→(m.z.tk j).st=0
 eW:m.z.eW= -1
 steps:m.z.steps=[]
 sent:m.z.sent=false
 po:m.z.aR=false
 y:∃l k i:Int,(l=0∨l=1)∧m.y=rK s m.z.wn l k i
 inv:Inv s m.z.wn none none none m.x
 cl:m.z.wn.cl s
 many:0≤m.z.many∧m.z.many < 1024
 wd:m.z.wn.d=(eT s (dM s m.z.cn)).d
 wc:m.z.wn.c=(eT s (dM s m.z.cn)).c
 wl:∀i,hasB (eT s (dM s m.z.cn)).l i=true→hasB m.z.wn.l i=true
section
variable{s:aD}{m:dR}{j:Nat}{k d q v:Int}
theorem aNO(a b:List Bool)(n:Nat):(vJ a b n).length=b.length:=by simp[vJ]
theorem aHi{a b:List Bool}{n i:Nat}(hb:b.length=n)(hi:i < n):hasB (vJ a b n) i=(hasB b i||hasB a i):=by
 unfold vJ;rw[tL,List.getElem?_mapIdx,tL b,List.getElem?_eq_getElem (show i < b.length by omega)];simp[hi]
theorem aC8(hm:s.made)(z:aW):(kM s z).cl s:=by
 have h:=aFL hm (dM s z.cn) s.aC.length
 exact⟨⟨h.of.d,h.of.c,by show(vJ _ _ _).length=_;rw[aNO];exact h.of.l⟩,h.up,h.ch,h.sw⟩
theorem aLb(z:aW)(hz:z.wn.of s)(i:Nat)(h:hasB z.wn.l i=true):hasB (kM s z).l i=true:=by
 have hi:=Rk h
 rw[hz.l] at hi
 show hasB (vJ _ _ _) i=true
 rw[aHi (b:=(eT s (dM s z.cn)).l) (Ec s _ _).l hi,h];simp
theorem aKZ(z:aW)(i:Nat)(h:hasB (eT s (dM s z.cn)).l i=true):hasB (kM s z).l i=true:=by
 have hi:=Rk h
 have hl:(eT s (dM s z.cn)).l.length=s.aT.length:=(Ec s _ _).l
 rw[hl] at hi
 show hasB (vJ _ _ _) i=true
 rw[aHi hl hi,h];rfl
def oB(z:aW)(j:Nat)(k d q v:Int):aW:=z.jO j {z.tk j with st:=1,kind:=k,dev:=d,bY:=q,val:=v}
theorem Uf(h:qO s m)(hj:T3 j)(hk:tF k):vH m.z j k d q v=(0,oB m.z j k d q v):=by
 unfold vH;rw[if_neg (by rcases hj with rfl | rfl | rfl<;>decide),Int.toNat_natCast,h.tk j hj,if_neg (by decide),if_neg (fun hn=>hn hk)];rfl
def eS(z:aW)(j:Nat)(k d q v:Int):aW:=kB (oB z j k d q v) j
theorem aCq(hj:T3 j)(z:aW):(eS z j k d q v).tk j={z.tk j with st:=2,kind:=k,dev:=d,bY:=q,val:=v}:=by
 rcases hj with rfl | rfl | rfl<;>rfl
theorem aBI(h:qO s m)(hj:T3 j):(dR.mk (oB m.z j k d q v) m.y m.x).step s j=⟨(pF s m.x (oB m.z j k d q v) j).1,m.y,(pF s m.x (oB m.z j k d q v) j).2⟩:=by
 have hst:((oB m.z j k d q v).tk j).st=1:=by rcases hj with rfl | rfl | rfl<;>rfl
 unfold dR.step Eh;dsimp only;rw[if_neg (by rcases hj with rfl | rfl | rfl<;>decide),Int.toNat_natCast,hst,if_pos rfl,if_pos (show(oB m.z j k d q v).eW < 0 by show m.z.eW < 0;rw[h.eW];decide)]
theorem aMa(h:qO s m)(hj:T3 j){e:Int}(he:e≠0)(hr:qJ s m.x (eS m.z j k d q v) j k=(e,eS m.z j k d q v,m.x)):
  sD s j 1 ⟨oB m.z j k d q v,m.y,m.x⟩ e 0 ⟨rO (eS m.z j k d q v) j m.z.many,m.y,m.x⟩:=by
 have hk:((oB m.z j k d q v).tk j).kind=k:=by rcases hj with rfl | rfl | rfl<;>rfl
 have hb:pF s m.x (oB m.z j k d q v) j=(kD (eS m.z j k d q v) j e 0,m.x):=by
  unfold pF;dsimp only;rw[hk,show kB (oB m.z j k d q v) j=eS m.z j k d q v from rfl,hr,if_pos he]
 have hw:eS m.z j k d q v=lJ (eS m.z j k d q v) (eS m.z j k d q v).steps (eS m.z j k d q v).sent m.z.many:=rfl
 refine .inl ⟨rO (eS m.z j k d q v) j m.z.many,?_,?_⟩
 ·rw[aBI h hj,hb];dsimp only;rw[hw];exact aAn hj _ _ _ _ _
 ·rw[aBI h hj,hb]
theorem aLQ(hm:s.made)(h:qO s m)(hj:T3 j){z2:aW}(hr:qJ s m.x (eS m.z j k d q v) j k=(0,lK s z2,m.x))(hwn:z2.wn=m.z.wn)(lQ:z2.aR=false)(aBf:z2.many=m.z.many)(aDM:z2.eW=(j:Int))(hst:(z2.tk j).st=2):
  ∃(k' l' k1 i1:Int) (x':aO),sD s j 400 ⟨oB m.z j k d q v,m.y,m.x⟩ 0 0 ⟨rO (lK s z2) j k',rK s (kM s z2) l' k1 i1,x'⟩∧(l'=0∨l'=1)∧Inv s (kM s z2) none none none x'∧0≤k'∧k' < 1024:=by
 have hk:((oB m.z j k d q v).tk j).kind=k:=by rcases hj with rfl | rfl | rfl<;>rfl
 obtain⟨l,k0,i0,hl,hy⟩:=h.y
 have hL:(allM s z2.wn (kM s z2)).foldl gP m.z.wn=kM s z2:=by
  rw[hwn];exact aQx h.cl.of (aC8 hm z2).of
 have aPc:(lK s z2).steps=allM s z2.wn (kM s z2):=rfl
 have My:=aBI (k:=k) (d:=d) (q:=q) (v:=v) h hj
 have hb:pF s m.x (oB m.z j k d q v) j=if(allM s z2.wn (kM s z2)).length=0 then(kD (lK s z2) j 0 0,m.x) else(lK s z2,m.x):=by
  unfold pF;dsimp only;rw[hk,show kB (oB m.z j k d q v) j=eS m.z j k d q v from rfl,hr,if_neg (by simp)];dsimp only;rw[aPc]
  by_cases h0:(allM s z2.wn (kM s z2)).length=0
  ·rw[if_pos h0,if_pos ⟨lQ,h0⟩]
  ·rw[if_neg h0,if_neg (fun hh=>h0 hh.2)]
 have fS:Ow (lK s z2) j:=⟨hj,aDM,by
  have:(lK s z2).tk j=z2.tk j:=by rcases hj with rfl | rfl | rfl<;>rfl
  rw[this];exact hst,lQ⟩
 cases hc:allM s z2.wn (kM s z2) with
 | nil =>
  rw[hc] at hb hL;rw[if_pos (show([]:List cZ).length=0 from rfl)] at hb
  have hw:lK s z2=lJ (lK s z2) (lK s z2).steps (lK s z2).sent z2.many:=rfl
  have he:m.z.wn=kM s z2:=hL
  refine⟨m.z.many,l,k0,i0,m.x,sD.mono (N:=1) (.inl ⟨rO (lK s z2) j m.z.many,?_,?_⟩) (by omega),hl,he▸h.inv,h.many.1,h.many.2⟩
  ·rw[My,hb];dsimp only;rw[hw,aBf];exact aAn hj _ _ _ _ _
  ·rw[My,hb,←he,←hy]
 | cons p L =>
  have hlen:=aSZ hm z2.wn (kM s z2)
  rw[hc] at hb hL hlen;rw[if_neg (by simp)] at hb
  have hw:lK s z2=lJ (lK s z2) (p::L) false m.z.many:=by
   unfold lJ;rw[←hc,←aBf];rfl
  have hi1:=h.inv.tick hm
  have aPu:aCn s m.z.wn (p::L):=by
   rw[←hc,hwn];exact aIt _ _ fun t p' hp'=>aTa hm h.cl (aC8 hm z2) (fun i hi=>aLb z2 (hwn▸h.cl.of) i (hwn▸hi)) hp'
  obtain⟨k',k1,i1,x',r1,r2,r3,r4⟩:=aL6 hm fS L p m.z.wn m.z.many l k0 i0 (iN s m.x 0) aPu hi1 h.many.1 h.many.2 hl;rw[hL] at r1 r2;simp only[List.length_cons] at hlen
  have hs:(dR.mk (oB m.z j k d q v) m.y m.x).step s j=⟨lJ (lK s z2) (p::L) false m.z.many,rK s m.z.wn l k0 i0,m.x⟩:=by
   rw[My,hb,←hy,←hw]
  refine⟨k',0,k1,i1,x',sD.mono (N:=10*(L.length+1)+1) (.inr ⟨?_,.inr ⟨?_,?_⟩⟩) (by omega),.inl rfl,r2,r3,r4⟩
  ·rw[hs];exact Lp fS _ _ _
  ·rw[aA7 hl h.inv.wt hs];exact Lp fS _ _ _
  ·rw[aA7 hl h.inv.wt hs];exact r1
theorem Inv.acc{X:bK}{x:aO}(hi:Inv s X none none none x){dn:Nat}{dd:bO}{p:cN×dK}(hd:s.aC[dn]? =some dd)(hp:x.dv[dn]? =some p){t:jB}(ht:0≤t.val∧t.val < 4294967296){ws:List (Option jB)}(hws:ws.length=s.aC.length)(hw:∀i,iQ ws i=0)(po:Int):
  Inv s X none none none {x with wt:=ws,dv:=x.dv.set dn (wG p t),aR:=po}:=by
 have hlp:=(List.getElem?_eq_some_iff.1 hp).1
 have h2:(wG p t).2=p.2:=by unfold wG;split<;>rfl
 refine⟨⟨hi.ok.ck,hi.ok.dm,hi.ok.ln,by simp[hi.ok.dv],fun i d p' hd' hp'=>?_,hws⟩,hw,hi.of,hi.dom,hi.jJ,hi.rZ,hi.zQ,hi.tD,fun i p' d hp' hd'=>?_⟩
 ·dsimp only at hp';rw[List.getElem?_set] at hp'
  by_cases h:dn=i
  ·subst h;rw[if_pos rfl,if_pos hlp] at hp';cases hp'
   have:=hi.ok.each dn d p hd' hp
   exact⟨aCx this.1 ht,h2▸this.2⟩
  ·rw[if_neg h] at hp';exact hi.ok.each i d p' hd' hp'
 ·dsimp only at hp';rw[List.getElem?_set] at hp'
  by_cases h:dn=i
  ·subst h;rw[if_pos rfl,if_pos hlp] at hp';cases hp';rw[h2];exact hi.qW dn p d hp hd'
  ·rw[if_neg h] at hp';exact hi.qW i p' d hp' hd'
def Yy(s:aD)(x:aO)(dn:Nat)(p:cN×dK)(wr:Bool)(q v:Int):aO:=iN s {x with wt:=(x.wt.set dn (some ⟨x.aR,wr,q,v⟩)).set dn none,dv:=x.dv.set dn (wG p ⟨x.aR,wr,q,v⟩),aR:=x.aR+1} 0
theorem aMh(hm:s.made)(h:qO s m)(hj:T3 j){dn:Nat}{dd:bO}{p:cN×dK}{wr:Bool}(hd:s.aC[dn]? =some dd)(hp:m.x.dv[dn]? =some p)(hal:sQ s m.x dn=true)(hv:0≤v∧v < 4294967296)
  (hr:qJ s m.x (eS m.z j k d q v) j k=(0,{eS m.z j k d q v with aR:=true,id:=m.x.aR},wP m.x dn wr q v)):
  sD s j 1 ⟨oB m.z j k d q v,m.y,m.x⟩ 0 (p.1.now.getD q.toNat 0) ⟨rO {eS m.z j k d q v with aR:=true,id:=m.x.aR} j m.z.many,m.y,Yy s m.x dn p wr q v⟩∧Inv s m.z.wn none none none (Yy s m.x dn p wr q v):=by
 have hk:((oB m.z j k d q v).tk j).kind=k:=by rcases hj with rfl | rfl | rfl<;>rfl
 obtain⟨l,k0,i0,hl,hy⟩:=h.y
 have hi:=h.inv
 have iY:=(List.getElem?_eq_some_iff.1 hd).1
 have vO:=hi.ok.wt
 have hws:∀i,iQ ((m.x.wt.set dn (some ⟨m.x.aR,wr,q,v⟩)).set dn none) i=0:=fun i=>by
  have:=hi.wt i
  unfold iQ at this⊢
  by_cases hh:dn=i
  ·subst hh;rw[List.getElem?_set_self (by simp;omega)];rfl
  ·rw[List.getElem?_set_ne hh,List.getElem?_set_ne hh];exact this
 have My:=aBI (k:=k) (d:=d) (q:=q) (v:=v) h hj
 have hb:pF s m.x (oB m.z j k d q v) j=({eS m.z j k d q v with aR:=true,id:=m.x.aR},wP m.x dn wr q v):=by
  unfold pF;dsimp only;rw[hk,show kB (oB m.z j k d q v) j=eS m.z j k d q v from rfl,hr,if_neg (by simp),if_neg (by simp)]
 rw[hb] at My;generalize hzp:({eS m.z j k d q v with aR:=true,id:=m.x.aR}:aW)=zp at *
 have aOX:(zp.tk j).st=2:=by subst hzp;rcases hj with rfl | rfl | rfl<;>rfl
 have hnone:nE zp j=((0,0,false),zp):=by
  unfold nE;rw[if_neg (by rcases hj with rfl | rfl | rfl<;>decide),Int.toNat_natCast,aOX,if_pos (by decide)]
 have Mt:cF s (wP m.x dn wr q v):=aAl hi.ok dn _ _
 have Es:((wP m.x dn wr q v).wt[dn]?).join=some ⟨m.x.aR,wr,q,v⟩:=by
  show((m.x.wt.set dn (some _))[dn]?).join=_
  rw[List.getElem?_set_self (by omega)];rfl
 have ho1:∀i:Nat,i≠dn→((wP m.x dn wr q v).wt[i]?).join=none:=fun i hne=>by
  show((m.x.wt.set dn (some _))[i]?).join=none
  rw[List.getElem?_set_ne (Ne.symm hne)];exact aHl hi.wt i
 obtain⟨a,ha,hid,_,hn⟩:=aJ6 Mt iY Es ho1
 have hax:jK s (wP m.x dn wr q v) dn=({m.x with wt:=(m.x.wt.set dn (some ⟨m.x.aR,wr,q,v⟩)).set dn none,dv:=m.x.dv.set dn (wG p ⟨m.x.aR,wr,q,v⟩),aR:=m.x.aR+1},some ⟨m.x.aR,dn,false,p.1.now.getD q.toNat 0⟩):=by
  unfold jK;rw[Es,hd,show(wP m.x dn wr q v).dv[dn]? =some p from hp];dsimp only;rw[if_pos (show sQ s (wP m.x dn wr q v) dn=true from hal)];rfl
 rw[hax] at ha hn;cases ha
 have aBc:oH s (wP m.x dn wr q v) 0=(Yy s m.x dn p wr q v,[⟨m.x.aR,dn,false,p.1.now.getD q.toNat 0⟩]):=by
  obtain⟨e,he⟩:∃e,s.aC.length=dn+1+e:=⟨s.aC.length - (dn+1),by omega⟩
  unfold oH;rw[he,hn e];rfl
 have hrnd:(dR.mk (oB m.z j k d q v) m.y m.x).qC s j=⟨kD zp j 0 (p.1.now.getD q.toNat 0),m.y,Yy s m.x dn p wr q v⟩:=by
  unfold dR.qC;rw[My];unfold dR.eZ;dsimp only;rw[hy,aGC hl];unfold dR.tick;dsimp only;rw[aBc];dsimp only
  have:wZ zp [⟨m.x.aR,dn,false,p.1.now.getD q.toNat 0⟩]=kD zp j 0 (p.1.now.getD q.toNat 0):=by
   show Bf zp _=_
   unfold Bf;subst hzp;dsimp only;rw[if_neg (by simp),if_neg (by simp),if_neg (by simp)]
   show kD _ ((j:Int).toNat) _ _=_
   rw[Int.toNat_natCast]
  rw[this]
 have hw:zp=lJ zp zp.steps zp.sent m.z.many:=by subst hzp;rfl
 refine⟨.inr ⟨?_,.inl ⟨rO zp j m.z.many,?_,?_⟩⟩,(hi.acc hd hp hv (by simpa using vO) hws _).tick hm⟩
 ·rw[My];exact hnone
 ·rw[hrnd];dsimp only;rw[hw];exact aAn hj _ _ _ _ _
 ·rw[hrnd]
end
end
section
section
variable{s:aD}{m:dR}{j n:Nat}{k d q v:Int}
theorem aCI{l:List Bool}{u i:Nat}(h:hasB l i=true):hasB (l.set u true) i=true:=by
 rw[tL] at h⊢;rw[List.getElem?_set];split
 ·split
  ·rfl
  ·rename_i h1 h2
   subst h1;rw[List.getElem?_eq_none (by omega)] at h;exact h
 ·exact h
theorem Rq{i:Nat}:∀(us:List Nat) {l:List Bool},hasB l i=true→hasB (us.foldl (fun l u=>l.set u true) l) i=true
 | [],_,h=>h
 | _::us,_,h=>Rq us (aCI h)
theorem aJH(g:List (List Int))(c:Cn)(n i:Nat)(hi:i < n)(hc:0 < eJ c.l (i:Int)):∀t,i < t→hasB (pR g c n t) i=true
 | 0,h=>absurd h (by omega)
 | t + 1, h => by
  unfold pR;rcases Nat.lt_or_ge i t with h1 | h1
  ·have ih:=aJH g c n i hi hc t h1
   split
   ·exact ih
   ·exact Rq _ (aCI ih)
  ·obtain rfl:i=t:=by omega
   rw[if_neg (by omega)];refine Rq _ ?_;rw[tL,List.getElem?_set_self (by rw[Nv];exact hi)];rfl
theorem Uc{c:Cn}(ha:c.jX=false){i:Nat}(hi:i < s.aC.length)(hc:0 < eJ c.l (i:Int)):hasB (dM s c) i=true:=by
 unfold dM Ik;rw[ha,if_neg (by simp),Jm];exact aJH _ c _ i hi hc _ hi
theorem qO.alive(hm:s.made)(h:qO s m){i:Nat}{dd:bO}(hd:s.aC[i]? =some dd)(hu:hasB (dM s m.z.cn) i=true):sQ s m.x i=true∧uF m.x i=114:=by
 have hlt:=(List.getElem?_eq_some_iff.1 hd).1
 obtain⟨h1,h2,_⟩:=aKY hm hd hu
 have hD:hasB m.z.wn.d dd.domain.toNat=true:=by rw[h.wd];exact h1
 refine⟨h.inv.alive hm hd hD (fun c hc hs=>?_) (h.wl _ h2),h.inv.state hd hD⟩
 have iA:=aB9 hc
 rw[h.wc];exact(Pd (s:=s) (act:=dM s m.z.cn) c iA s.aC.length).2 ⟨i,hlt,hu,dd,hd,List.mem_filter.2 ⟨hc,aKu hs⟩⟩
theorem Lz(hj:T3 j){z:aW}{i:Nat}(hi:T3 i)(t:Int):(rO z j t).tk i=if i=j then {z.tk j with st:=0,kind:=0,dev:=0,bY:=0,val:=0,err:=0,res:=0} else z.tk i:=by
 rcases hj with rfl | rfl | rfl<;>rcases hi with rfl | rfl | rfl<;>rfl
theorem aAb(hj:T3 j)(z:aW){i:Nat}(hi:T3 i)(hne:i≠j):(eS z j k d q v).tk i=z.tk i:=by
 rcases hj with rfl | rfl | rfl<;>rcases hi with rfl | rfl | rfl<;>first | rfl | exact absurd rfl hne
theorem aGF(hj:T3 j){z:aW}{t:Int}{y:bX}{x:aO}(mL:∀i,T3 i→i≠j→(z.tk i).st=0)(hy:∃l k i:Int,(l=0∨l=1)∧y=rK s z.wn l k i)(hi:Inv s z.wn none none none x)(iA:z.wn.cl s)(ht:0≤t∧t < 1024)
  (wd:z.wn.d=(eT s (dM s z.cn)).d) (wc:z.wn.c=(eT s (dM s z.cn)).c) (wl:∀i,hasB (eT s (dM s z.cn)).l i=true→hasB z.wn.l i=true):qO s ⟨rO z j t,y,x⟩:=
 ⟨fun i hi=>by
  show((rO z j t).tk i).st=0
  rw[Lz hj hi];split
  ·rfl
  ·exact mL i hi (by assumption),rfl,rfl,rfl,rfl,hy,hi,iA,ht,wd,wc,wl⟩
theorem aGE(h:qO s m)(hj:T3 j){z:aW}(hz:z.wn=m.z.wn)(hc:z.cn=m.z.cn)(mL:∀i,T3 i→i≠j→z.tk i=m.z.tk i){x:aO}(hi:Inv s m.z.wn none none none x):qO s ⟨rO z j m.z.many,m.y,x⟩:=by
 obtain⟨l,k0,i0,hl,hy⟩:=h.y;exact aGF hj (fun i hi' hne=>by rw[mL i hi' hne];exact h.tk i hi') ⟨l,k0,i0,hl,by rw[hz];exact hy⟩ (by rw[hz];exact hi) (by rw[hz];exact h.cl) h.many (by rw[hz,hc];exact h.wd) (by rw[hz,hc];exact h.wc) (by rw[hz,hc];exact h.wl)
def sJ(s:aD)(z:aW)(j:Nat)(k d q:Int):Int×Cn×List Int:=
 let hs:=(z.tk j).hs
 if k=103 then(if(pE s.aC.length z.cn d).1≠0 then((pE s.aC.length z.cn d).1,z.cn,hs) else(0,(pE s.aC.length z.cn d).2,(pJ (z.tk j) d.toNat 1).hs))
 else if k=112 then(if bN s.aC.length d=false then(4,z.cn,hs) else if hG (z.tk j) d.toNat=0 then(6,z.cn,hs) else if(qK s.aC.length z.cn d).1≠0 then((qK s.aC.length z.cn d).1,z.cn,hs) else(0,(qK s.aC.length z.cn d).2,(pJ (z.tk j) d.toNat (-1)).hs))
 else if k=115 then((tO z.cn).1,(tO z.cn).2,hs)
 else if k=109 then((tP z.cn).1,(tP z.cn).2,hs)
 else(if bN s.aC.length d=false∨q < 0∨Gm s d≤q then 4 else if hG (z.tk j) d.toNat=0∨z.cn.jX=true then 6 else 0,z.cn,hs)
structure yY(s:aD)(m:dR)(j:Nat)(k d q v:Int)(e u:Int)(m':dR):Prop where
 Ue:sD s j 400 ⟨oB m.z j k d q v,m.y,m.x⟩ e u m'
 rest:qO s m'
 out:(e,m'.z.cn,(m'.z.tk j).hs)=sJ s m.z j k d q
 tk:∀i,T3 i→i≠j→(m'.z.tk i).hs=(m.z.tk i).hs
 no:(k≠114∧k≠119)∨e≠0→u=0
 acc:(k=114∨k=119)→e=0→∃(dn:Nat) (p:cN×dK),d=(dn:Int)∧m.x.dv[dn]? =some p∧u=p.1.now.getD q.toNat 0∧m'.x=Yy s m.x dn p (decide (k=119)) q v
 same:e≠0→m'.x=m.x
theorem Jj(h:qO s m)(hj:T3 j){e:Int}(he:e≠0)(hr:qJ s m.x (eS m.z j k d q v) j k=(e,eS m.z j k d q v,m.x))(ho:sJ s m.z j k d q=(e,m.z.cn,(m.z.tk j).hs)):∃e u m',yY s m j k d q v e u m':=by
 refine⟨e,0,_,(aMa h hj he hr).mono (by decide),aGE (z:=eS m.z j k d q v) h hj rfl rfl (fun i hi hne=>aAb hj _ hi hne) h.inv,?_,fun i hi hne=>?_,fun _=>rfl,fun _ h=>absurd h he,fun _=>rfl⟩
 ·rw[ho]
  show(e,m.z.cn,((rO _ j _).tk j).hs)=_
  rw[Lz hj hj,if_pos rfl,aCq hj]
 ·show((rO _ j _).tk i).hs=_
  rw[Lz hj hi,if_neg hne,aAb hj _ hi hne]
theorem aNE(hm:s.made)(h:qO s m)(hj:T3 j)(hk:k≠114∧k≠119){z2:aW}(hr:qJ s m.x (eS m.z j k d q v) j k=(0,lK s z2,m.x))(hwn:z2.wn=m.z.wn)(lQ:z2.aR=false)(aBf:z2.many=m.z.many)(aDM:z2.eW=(j:Int))(hst:(z2.tk j).st=2)
  (mL:∀i,T3 i→i≠j→z2.tk i=m.z.tk i) (ho:sJ s m.z j k d q=(0,z2.cn,(z2.tk j).hs)):∃e u m',yY s m j k d q v e u m':=by
 obtain⟨k',l',k1,i1,x',r1,r2,r3,r4,r5⟩:=aLQ hm h hj hr hwn lQ aBf aDM hst
 have uQ:∀i,T3 i→(lK s z2).tk i=z2.tk i:=fun i hi=>by rcases hi with rfl | rfl | rfl<;>rfl
 refine⟨0,0,_,r1,aGF hj (fun i hi hne=>by rw[uQ i hi,mL i hi hne];exact h.tk i hi) ⟨l',k1,i1,r2,rfl⟩ r3 (aC8 hm z2) ⟨r4,r5⟩ rfl rfl (fun i hi=>aKZ z2 i hi),?_,fun i hi hne=>?_,fun _=>rfl,fun h=>absurd h (by omega),fun h=>absurd rfl h⟩
 ·rw[ho]
  show((0:Int),z2.cn,((rO _ j _).tk j).hs)=_
  rw[Lz hj hj,if_pos rfl,uQ j hj]
 ·show((rO _ j _).tk i).hs=_
  rw[Lz hj hi,if_neg hne,uQ i hi,mL i hi hne]
def z2F(z:aW)(j:Nat)(k d q v:Int)(t:rG)(c:Cn):aW:={(eS z j k d q v).jO j t with cn:=c}
theorem aCt(hj:T3 j){z:aW}{t:rG}{c:Cn}{i:Nat}(hi:T3 i):(z2F z j k d q v t c).tk i=if i=j then t else z.tk i:=by
 rcases hj with rfl | rfl | rfl<;>rcases hi with rfl | rfl | rfl<;>rfl
theorem aAE(hm:s.made)(h:qO s m)(hj:T3 j)(hk:k≠114∧k≠119){t:rG}{c:Cn}(ht:t.st=2)(hr:qJ s m.x (eS m.z j k d q v) j k=(0,lK s (z2F m.z j k d q v t c),m.x))(ho:sJ s m.z j k d q=(0,c,t.hs)):∃e u m',yY s m j k d q v e u m':=by
 refine aNE hm h hj hk hr rfl h.po rfl rfl ?_ (fun i hi hne=>?_) ?_
 ·rw[aCt hj hj,if_pos rfl];exact ht
 ·rw[aCt hj hi,if_neg hne]
 ·rw[aCt hj hj,if_pos rfl];exact ho
theorem aHg(hm:s.made)(h:qO s m)(hok:eN s n m)(hj:T3 j)(wr:Bool)(hk:k=if wr then 119 else 114)(hv:0≤v∧v < 4294967296):∃e u m',yY s m j k d q v e u m':=by
 have uQ:=aCq (k:=k) (d:=d) (q:=q) (v:=v) hj m.z
 have hhs:∀i,hG ((eS m.z j k d q v).tk j) i=hG (m.z.tk j) i:=fun i=>by rw[uQ];rfl
 have hk4:k≠103∧k≠112∧k≠115∧k≠109∧(k=114∨k=119)∧decide (k=119)=wr:=by subst hk;cases wr<;>decide
 obtain⟨k1,k2,k3,k4,k5,k6⟩:=hk4
 have jQ:sJ s m.z j k d q=(if bN s.aC.length d=false∨q < 0∨Gm s d≤q then 4 else if hG (m.z.tk j) d.toNat=0∨m.z.cn.jX=true then 6 else 0,m.z.cn,(m.z.tk j).hs):=by
  unfold sJ;dsimp only;rw[if_neg k1,if_neg k2,if_neg k3,if_neg k4]
 have hr:qJ s m.x (eS m.z j k d q v) j k=Dk s m.x (eS m.z j k d q v) j wr:=by
  subst hk;cases wr<;>rfl
 have Xd:Ii s ((eS m.z j k d q v).tk j)↔(bN s.aC.length d=false∨q < 0∨Gm s d≤q):=by rw[uQ];exact Iff.rfl
 unfold Dk at hr
 by_cases h1:bN s.aC.length d=false∨q < 0∨Gm s d≤q
 ·rw[if_pos (Xd.2 h1)] at hr;exact Jj (e:=4) h hj (by decide) hr (by rw[jQ,if_pos h1])
 rw[if_neg (fun hb=>h1 (Xd.1 hb)),hhs,uQ] at hr;dsimp only at hr;rw[show(eS m.z j k d q v).cn=m.z.cn from rfl] at hr;rw[if_neg h1] at jQ
 by_cases h2:hG (m.z.tk j) d.toNat=0∨m.z.cn.jX=true
 ·rw[if_pos h2] at hr jQ;exact Jj (e:=6) h hj (by decide) hr jQ
 rw[if_neg h2] at hr jQ
 have hin:bN s.aC.length d=true:=by
  cases hb:bN s.aC.length d with
  | true=>rfl
  | false=>exact absurd (.inl hb) h1
 have hin:=of_decide_eq_true hin
 have hdt:d=(d.toNat:Int):=by omega
 obtain⟨dd,hd⟩:=get_some (l:=s.aC) (i:=d.toNat) (by omega);obtain⟨p,hp⟩:=get_some (l:=m.x.dv) (i:=d.toNat) (by have:=hok.hw.dv;omega)
 have ha:m.z.cn.jX=false:=by
  cases hb:m.z.cn.jX with
  | false=>rfl
  | true=>exact absurd (.inr hb) h2
 have hc:0 < eJ m.z.cn.l (d.toNat:Int):=by
  have b:=hok.zM.toRwB
  have h0:=b.nn 0 (.inl rfl) d.toNat
  have h1:=b.nn 1 (.inr (.inl rfl)) d.toNat
  have h2':=b.nn 2 (.inr (.inr rfl)) d.toNat
  have h3:=b.cnt d.toNat
  have h4:hG (m.z.tk j) d.toNat≠0:=fun hz=>h2 (.inl hz)
  rcases hj with rfl | rfl | rfl<;>omega
 obtain⟨hal,hst⟩:=h.alive hm hd (Uc ha (by omega) hc);rw[if_pos hst] at hr;obtain⟨r1,r2⟩:=aMh hm h hj hd hp hal hv hr
 have hx:=aGE (z:={eS m.z j k d q v with aR:=true,id:=m.x.aR}) h hj rfl rfl (fun i hi hne=>by
  have:({eS m.z j k d q v with aR:=true,id:=m.x.aR}:aW).tk i=(eS m.z j k d q v).tk i:=by rcases hi with rfl | rfl | rfl<;>rfl
  rw[this]
  exact aAb hj _ hi hne) r2
 refine⟨0,_,_,r1.mono (by decide),hx,?_,fun i hi hne=>?_,fun hh=>?_,fun _ _=>⟨d.toNat,p,hdt,hp,rfl,?_⟩,fun hh=>absurd rfl hh⟩
 ·rw[jQ]
  show((0:Int),m.z.cn,((rO _ j _).tk j).hs)=_
  rw[Lz hj hj,if_pos rfl]
  have:({eS m.z j k d q v with aR:=true,id:=m.x.aR}:aW).tk j=(eS m.z j k d q v).tk j:=by rcases hj with rfl | rfl | rfl<;>rfl
  rw[this,uQ]
 ·show((rO _ j _).tk i).hs=_
  rw[Lz hj hi,if_neg hne]
  have:({eS m.z j k d q v with aR:=true,id:=m.x.aR}:aW).tk i=(eS m.z j k d q v).tk i:=by rcases hi with rfl | rfl | rfl<;>rfl
  rw[this,aAb hj _ hi hne]
 ·rcases hh with hh | hh
  ·omega
  ·exact absurd rfl hh
 ·rw[k6]
theorem aBC(hm:s.made)(h:qO s m)(hok:eN s n m)(hj:T3 j)(hk:tF k)(hv:0≤v∧v < 4294967296):∃e u m',yY s m j k d q v e u m':=by
 have uQ:=aCq (k:=k) (d:=d) (q:=q) (v:=v) hj m.z
 have hhs:∀i,hG ((eS m.z j k d q v).tk j) i=hG (m.z.tk j) i:=fun i=>by rw[uQ];rfl
 have hn:=Jm s
 have oN:z2F m.z j k d q v ((eS m.z j k d q v).tk j) m.z.cn=eS m.z j k d q v:=by rcases hj with rfl | rfl | rfl<;>rfl
 have hwk:∀c:Cn,({eS m.z j k d q v with cn:=c}:aW)=z2F m.z j k d q v ((eS m.z j k d q v).tk j) c:=fun c=>by rcases hj with rfl | rfl | rfl<;>rfl
 rcases hk with rfl | rfl | hk | hk | rfl | rfl
 ·
  have hr:qJ s m.x (eS m.z j 103 d q v) j 103=((Fh s (eS m.z j 103 d q v) j).1,(Fh s (eS m.z j 103 d q v) j).2,m.x):=rfl
  unfold Fh at hr;rw[uQ,hn] at hr;dsimp only at hr;rw[show(eS m.z j 103 d q v).cn=m.z.cn from rfl] at hr
  by_cases he:(pE s.aC.length m.z.cn d).1≠0
  ·rw[if_pos he] at hr;exact Jj h hj he hr (by unfold sJ;dsimp only;rw[if_pos rfl,if_pos he])
  ·rw[if_neg he] at hr;exact aAE hm h hj ⟨by decide,by decide⟩ rfl hr (by unfold sJ;dsimp only;rw[if_pos rfl,if_neg he];rfl)
 ·
  have hr:qJ s m.x (eS m.z j 112 d q v) j 112=((En s (eS m.z j 112 d q v) j).1,(En s (eS m.z j 112 d q v) j).2,m.x):=rfl
  unfold En at hr;rw[hhs,uQ,hn] at hr;dsimp only at hr;rw[show(eS m.z j 112 d q v).cn=m.z.cn from rfl] at hr
  by_cases h1:bN s.aC.length d=false
  ·rw[if_pos h1] at hr;exact Jj (e:=4) h hj (by decide) hr (by unfold sJ;dsimp only;rw[if_neg (by decide),if_pos rfl,if_pos h1])
  ·rw[if_neg h1] at hr
   by_cases h2:hG (m.z.tk j) d.toNat=0
   ·rw[if_pos h2] at hr;exact Jj (e:=6) h hj (by decide) hr (by unfold sJ;dsimp only;rw[if_neg (by decide),if_pos rfl,if_neg h1,if_pos h2])
   ·rw[if_neg h2] at hr
    by_cases he:(qK s.aC.length m.z.cn d).1≠0
    ·rw[if_pos he] at hr;exact Jj h hj he hr (by unfold sJ;dsimp only;rw[if_neg (by decide),if_pos rfl,if_neg h1,if_neg h2,if_pos he])
    ·rw[if_neg he] at hr;exact aAE hm h hj ⟨by decide,by decide⟩ rfl hr (by unfold sJ;dsimp only;rw[if_neg (by decide),if_pos rfl,if_neg h1,if_neg h2,if_neg he];rfl)
 ·exact aHg hm h hok hj false hk hv
 ·exact aHg hm h hok hj true hk hv
 ·
  have hr:qJ s m.x (eS m.z j 115 d q v) j 115=((Ef s (eS m.z j 115 d q v)).1,(Ef s (eS m.z j 115 d q v)).2,m.x):=rfl
  unfold Ef at hr;rw[show(eS m.z j 115 d q v).cn=m.z.cn from rfl] at hr
  by_cases he:(tO m.z.cn).1≠0
  ·rw[if_pos he] at hr;refine Jj h hj he hr ?_;unfold sJ;dsimp only;rw[if_neg (by decide),if_neg (by decide),if_pos rfl];unfold tO at he⊢;split at he
   ·rename_i ha;rw[if_pos ha]
   ·exact absurd rfl he
  ·rw[if_neg he,hwk] at hr;refine aAE hm h hj ⟨by decide,by decide⟩ (by rw[uQ]) hr ?_;unfold sJ;dsimp only;rw[if_neg (by decide),if_neg (by decide),if_pos rfl,Classical.not_not.1 he,uQ]
 ·
  have hr:qJ s m.x (eS m.z j 109 d q v) j 109=((El s (eS m.z j 109 d q v)).1,(El s (eS m.z j 109 d q v)).2,m.x):=rfl
  unfold El at hr;rw[show(eS m.z j 109 d q v).cn=m.z.cn from rfl] at hr
  by_cases he:(tP m.z.cn).1≠0
  ·rw[if_pos he] at hr;refine Jj h hj he hr ?_;unfold sJ;dsimp only;rw[if_neg (by decide),if_neg (by decide),if_neg (by decide),if_pos rfl];unfold tP at he⊢;split at he
   ·exact absurd rfl he
   ·rename_i ha;rw[if_neg ha]
  ·rw[if_neg he,hwk] at hr;refine aAE hm h hj ⟨by decide,by decide⟩ (by rw[uQ]) hr ?_;unfold sJ;dsimp only;rw[if_neg (by decide),if_neg (by decide),if_neg (by decide),if_pos rfl,Classical.not_not.1 he,uQ]
end
end
section
section
variable{s:aD}{m m':dR}{j n:Nat}{k d q v e u:Int}
theorem sD.ok(hm:s.made){t:Int}:∀{N n:Nat} {m m':dR},eN s n m→sD s t N m e u m'→eN s (n+N) m'
 | 0,_,_,_,_,h=>h.elim
 | N+1,n,m,m',ho,h=>by
  have h1:=ho.step hm t
  have h2:=ho.qC hm t
  rcases h with⟨z,hd,rfl⟩ | ⟨_,⟨z,hd,rfl⟩ | ⟨_,hr⟩⟩
  ·exact(h1.aIO hd).le (by omega)
  ·exact(h2.aIO hd).le (by omega)
  ·exact(sD.ok hm h2 hr).le (by omega)
theorem aKD(h:eN s n m)(hr:qO s m)(hj:T3 j)(hk:tF k)(hv:0≤v∧v < 4294967296):eN s n ⟨oB m.z j k d q v,m.y,m.x⟩:=h.aGc (Uf hr hj hk) hv
theorem yY.ok(hm:s.made)(o:yY s m j k d q v e u m')(h:eN s n m)(hr:qO s m)(hj:T3 j)(hk:tF k)(hv:0≤v∧v < 4294967296):eN s (n+400) m':=sD.ok hm (aKD h hr hj hk hv) o.Ue
theorem aJE(g:List (List Int))(n:Nat):∀t,pR g ⟨[],false⟩ n t=List.replicate n false
 | 0=>rfl
 | t+1=>by
  unfold pR;rw[if_pos (by show eJ [] _≤0;simp[eJ])];exact aJE g n t
theorem aC7(s:aD)(n:Nat):eT s (List.replicate n false)=dQ s:=by
 have:∀t,iM s (List.replicate n false) t=dQ s:=fun t=>by
  induction t with
  | zero=>rfl
  | succ t ih=>rw[Pc (Xe n t),ih]
 exact this _
theorem aGG(hm:s.made):qO s (Md s):=by
 have hu:eT s (dM s (Md s).z.cn)=dQ s:=by
  show eT s (dM s ⟨[],false⟩)=_
  unfold dM Ik;rw[if_neg (by simp),aJE,aC7]
 have hw:(Md s).z.wn=dQ s:=aKX s
 have iA:=aFL hm (List.replicate s.aC.length false) s.aC.length
 refine⟨fun j hj=>by rcases hj with rfl | rfl | rfl<;>rfl,rfl,rfl,rfl,rfl,⟨1,0,0,.inr rfl,by rw[hw];rfl⟩,by rw[hw];exact aOQ hm,?_,⟨Int.le_refl 0,by show(0:Int) < 1024;decide⟩,by rw[hu,hw],by rw[hu,hw],fun i h=>by rw[hu] at h;rw[hw];exact h⟩;rw[hw,←aC7 s s.aC.length];exact iA
end
end
section
section
variable{s:aD}{m m':dR}{j n:Nat}{k d q v e u:Int}
theorem aIu(o:yY s m j 103 d q v e u m')(ha:m.z.cn.jX=false){i:Nat}(hd:d=(i:Int))(hi:i < s.aC.length)(h0:0≤eJ m.z.cn.l d)(h7:eJ m.z.cn.l d < 7):
  e=0∧u=0∧m'.z.cn=⟨xZ m.z.cn.l d (eJ m.z.cn.l d+1),false⟩∧(m'.z.tk j).hs=(pJ (m.z.tk j) i 1).hs:=by
 have h1:(pE s.aC.length m.z.cn d).1=0:=by
  unfold pE;rw[ha,if_neg (by simp),if_neg (by omega),if_neg (by omega)]
 obtain⟨_,_,_,_,h2⟩:=aJt h1 h0
 have ho:=o.out
 unfold sJ at ho;dsimp only at ho;rw[if_pos rfl,if_neg (by omega),h2,ha] at ho;simp only[Prod.mk.injEq] at ho;obtain⟨he,hc,hh⟩:=ho;refine⟨he,o.no (.inl (by decide)),hc,?_⟩;rw[hh,hd,Int.toNat_natCast]
theorem aGS(o:yY s m j 112 d q v e u m')(ha:m.z.cn.jX=false){i:Nat}(hd:d=(i:Int))(hi:i < s.aC.length)(hh:0 < hG (m.z.tk j) i)(h0:0 < eJ m.z.cn.l d)(h7:eJ m.z.cn.l d≤7):
  e=0∧u=0∧m'.z.cn=⟨xZ m.z.cn.l d (eJ m.z.cn.l d - 1),false⟩∧(m'.z.tk j).hs=(pJ (m.z.tk j) i (-1)).hs:=by
 have h1:(qK s.aC.length m.z.cn d).1=0:=by
  unfold qK;rw[ha,if_neg (by simp),if_neg (by omega),if_neg (by omega)]
 obtain⟨_,_,_,_,h2⟩:=aJd h1 h7
 have ho:=o.out
 unfold sJ at ho;dsimp only at ho
 have hb:bN s.aC.length d=true:=decide_eq_true (by omega)
 rw[if_neg (by decide),if_pos rfl,hb,if_neg (by simp),hd,Int.toNat_natCast,if_neg (by omega),←hd,if_neg (by omega),h2,ha] at ho;simp only[Prod.mk.injEq] at ho;exact⟨ho.1,o.no (.inl (by decide)),ho.2⟩
end
theorem aTg{ks:List Int}{v x:Int}:x∈Dj ks v↔x∈ks∨x=v:=by
 unfold Dj;split
 ·rename_i h
  have hv:v∈ks:=by simpa using h
  exact⟨.inl,fun hx=>hx.elim id fun e=>e▸hv⟩
 ·simp
theorem aEg{x:Int}:∀(l ks:List Int),x∈l.foldl Dj ks↔x∈ks∨x∈l
 | [],ks=>by simp
 | v :: l, ks => by
  rw[List.foldl_cons,aEg l,aTg,List.mem_cons];constructor
  ·rintro((h | h) | h)
   ·exact .inl h
   ·exact .inr (.inl h)
   ·exact .inr (.inr h)
  ·rintro(h | h | h)
   ·exact .inl (.inl h)
   ·exact .inl (.inr h)
   ·exact .inr h
theorem aH2(g:List (List Int))(v:Int)(n:Nat):∀k,v∈vM g v n k
 | 0=>by simp[vM]
 | k+1=>by
  have ih:=aH2 g v n k
  unfold vM Ge;split
  ·exact(aEg _ _).2 (.inl ih)
  ·exact ih
theorem aH3{g:List (List Int)}(hg:∀i:Nat,∀f∈g.getD i [],0≤f∧f < (i:Int))(v:Int)(n:Nat):∀k,k≤n→∀i:Nat,n - k≤i→i < n→(i:Int)∈vM g v n k→∀f∈g.getD i [],f∈vM g v n k
 | 0,_,i,h1,h2,_,_,_=>absurd h2 (by omega)
 | k + 1, hk, i, h1, h2, h3, f, hf => by
  have ih:=aH3 hg v n k (by omega)
  unfold vM Ge at h3⊢;split at h3
  ·rename_i hc
   rw[if_pos hc];rw[aEg] at h3⊢;rcases h3 with h3 | h3
   ·by_cases e:i=n - 1 - k
    ·subst e;exact .inr hf
    ·exact .inl (ih i (by omega) h2 h3 f hf)
   ·have:=hg (n - 1 - k) i h3
    omega
  ·rename_i hc
   rw[if_neg hc]
   by_cases e:i=n - 1 - k
   ·subst e;exact absurd (by simpa using h3) hc
   ·exact ih i (by omega) h2 h3 f hf
theorem aI0{i:Nat}:∀(us:List Nat) {l:List Bool},hasB (us.foldl (fun l u=>l.set u true) l) i=true→i∈us∨hasB l i=true
 | [],_,h=>.inr h
 | u :: us, l, h => by
  rcases aI0 us h with h | h
  ·exact .inl (List.mem_cons_of_mem _ h)
  ·by_cases e:u=i
   ·subst e;exact .inl (by simp)
   ·rw[tL,List.getElem?_set_ne e] at h;exact .inr (by rw[tL];exact h)
theorem aI1{i:Nat}:∀(us:List Nat) {l:List Bool},i < l.length→i∈us→hasB (us.foldl (fun l u=>l.set u true) l) i=true
 | u :: us, l, hl, h => by
  rcases List.mem_cons.1 h with rfl | h
  ·refine Rq us ?_;rw[tL,List.getElem?_set_self hl];rfl
  ·exact aI1 us (by simpa using hl) h
theorem aJG{g:List (List Int)}{c:Cn}{n i r:Nat}(hi:i < n)(hc:0 < eJ c.l (r:Int))(hm:(i:Int)∈vM g r n n):∀t,r < t→hasB (pR g c n t) i=true
 | 0,h=>absurd h (by omega)
 | t + 1, h => by
  unfold pR;rcases Nat.lt_or_ge r t with h1 | h1
  ·have ih:=aJG hi hc hm t h1
   split
   ·exact ih
   ·exact Rq _ (aCI ih)
  ·obtain rfl:r=t:=by omega
   rw[if_neg (by omega)]
   by_cases e:i=r
   ·subst e;refine Rq _ ?_;rw[tL,List.getElem?_set_self (by rw[Nv];exact hi)];rfl
   ·refine aI1 _ (by rw[List.length_set,Nv];exact hi) ?_;refine List.mem_filter.2 ⟨List.mem_range.2 hi,?_⟩;rw[decide_eq_true (by omega),Bool.true_and]
    simpa using hm
theorem aEG{g:List (List Int)}{c:Cn}{n i:Nat}:∀t,hasB (pR g c n t) i=true→∃r:Nat,r < t∧0 < eJ c.l (r:Int)∧(i:Int)∈vM g r n n
 | 0,h=>by
  unfold pR at h;rw[Xe] at h;cases h
 | t + 1, h => by
  unfold pR at h;split at h
  ·obtain⟨r,h1,h2⟩:=aEG t h;exact⟨r,by omega,h2⟩
  ·rename_i hc
   rcases aI0 _ h with h | h
   ·refine⟨t,by omega,by omega,?_⟩
    have:=(List.mem_filter.1 h).2
    rw[Bool.and_eq_true] at this
    simpa using this.2
   ·by_cases e:t=i
    ·subst e;exact⟨t,by omega,by omega,aH2 _ _ _ _⟩
    ·rw[tL,List.getElem?_set_ne e,←tL] at h;obtain⟨r,h1,h2⟩:=aEG t h;exact⟨r,by omega,h2⟩
theorem aJF(g:List (List Int))(c:Cn)(n:Nat)(h:∀i:Nat,eJ c.l (i:Int)≤0):∀t,pR g c n t=List.replicate n false
 | 0=>rfl
 | t+1=>by
  unfold pR;rw[if_pos (h t)];exact aJF g c n h t
section
variable{s:aD}{m:dR}
theorem aOj(hm:s.made)(i:Nat):∀f∈(cQ s).getD i [],0≤f∧f < (i:Int):=fun f hf=>by
 rw[List.getD_eq_getElem?_getD,cQ,List.getElem?_map] at hf;cases hd:s.aC[i]? with
 | none=>rw[hd] at hf;cases hf
 | some d=>rw[hd] at hf;exact(hm.aC i d hd).2.2.2.2.2.2.2.2.2.2.2 f hf
theorem aLp(hm:s.made){c:Cn}{i:Nat}{d:bO}(hd:s.aC[i]? =some d)(hu:hasB (dM s c) i=true){f:Int}(hf:f∈d.fR):∃j:Nat,f=(j:Int)∧j < i∧hasB (dM s c) j=true:=by
 have hi:=(List.getElem?_eq_some_iff.1 hd).1
 obtain⟨f0,f1⟩:=(hm.aC i d hd).2.2.2.2.2.2.2.2.2.2.2 f hf;refine⟨f.toNat,by omega,by omega,?_⟩;unfold dM Ik at hu⊢;split at hu
 ·rw[Xe] at hu;cases hu
 ·rename_i ha
  rw[if_neg ha];obtain⟨r,h1,h2,h3⟩:=aEG _ hu;rw[Jm] at h1 h3⊢
  have:=aH3 (aOj hm) r s.aC.length _ (Nat.le_refl _) i (by omega) hi h3 f (by rw[List.getD_eq_getElem?_getD,cQ,List.getElem?_map,hd];exact hf)
  exact aJG (by omega) h2 (by rwa [show((f.toNat:Nat):Int)=f by omega]) _ h1
theorem aMB(h:qO s m)(hz:∀i:Nat,eJ m.z.cn.l (i:Int)≤0)(i:Nat):sQ s m.x i=false:=by
 have hu:dM s m.z.cn=List.replicate (cQ s).length false:=by
  unfold dM Ik;split
  ·rfl
  ·exact aJF _ _ _ hz _
 have hw:=h.wd
 rw[hu,aC7] at hw;unfold sQ;split
 ·rename_i d hd
  have:qD m.x.dm d.domain≠49:=by
   unfold qD;split
   ·rename_i hb
    have hb:=of_decide_eq_true hb
    obtain⟨y,hy⟩:=get_some (l:=m.x.dm) (i:=d.domain.toNat) (by omega)
    have h1:=(h.inv.dom _ _ hy (by simp)).2 (by rw[hw];exact Xe _ _)
    rw[hy]
    show y.phase≠49
    omega
   ·decide
  rw[decide_eq_false this];simp
 ·rfl
theorem aOi(hm:s.made){x y:Nat}(hx:x < s.aC.length)(hy:y < s.aC.length):∃m1 m2 m3 m4,yY s (Md s) 0 103 x 0 0 0 0 m1∧yY s m1 1 103 y 0 0 0 0 m2∧yY s m2 0 112 x 0 0 0 0 m3∧yY s m3 1 112 y 0 0 0 0 m4∧
  eN s 400 m1∧eN s 800 m2∧eN s 1200 m3∧eN s 1600 m4∧hasB (dM s m1.z.cn) x=true∧hasB (dM s m2.z.cn) x=true∧hasB (dM s m2.z.cn) y=true∧hasB (dM s m3.z.cn) y=true∧∀i,sQ s m4.x i=false:=by
 have v0:(0:Int)≤0∧(0:Int) < 4294967296:=by decide
 have T0:T3 0:=.inl rfl
 have T1:T3 1:=.inr (.inl rfl)
 have k0:=aHB hm
 have r0:=aGG hm
 obtain⟨e,u,m1,o1⟩:=aBC (k:=103) (d:=x) (q:=0) (v:=0) hm r0 k0 T0 (.inl rfl) v0;obtain⟨rfl,rfl,c1,a1⟩:=aIu o1 rfl rfl hx (Int.le_refl 0) (show(0:Int) < 7 by decide)
 have k1:eN s 400 m1:=o1.ok hm k0 r0 T0 (.inl rfl) v0
 have g1:∀i:Int,eJ m1.z.cn.l i=if i=(x:Int) then 1 else 0:=fun i=>by
  rw[c1,Nd];rfl
 obtain⟨e,u,m2,o2⟩:=aBC (k:=103) (d:=y) (q:=0) (v:=0) hm o1.rest k1 T1 (.inl rfl) v0;obtain⟨rfl,rfl,c2,a2⟩:=aIu o2 (by rw[c1]) rfl hy (by rw[g1];split<;>decide) (by rw[g1];split<;>decide)
 have k2:eN s 800 m2:=o2.ok hm k1 o1.rest T1 (.inl rfl) v0
 have g2:∀i:Int,eJ m2.z.cn.l i=if i=(y:Int) then eJ m1.z.cn.l y+1 else eJ m1.z.cn.l i:=fun i=>by rw[c2,Nd]
 have b1:hG (m1.z.tk 0) x=1:=by
  have hn:=hm.nv
  unfold hG;rw[a1]
  show((List.replicate 6 (0:Int)).set x (hG Ph x+1)).getD x 0=1
  obtain rfl | rfl | rfl | rfl:x=0∨x=1∨x=2∨x=3:=by omega
  all_goals rfl
 have b2:hG (m2.z.tk 0) x=1:=by
  unfold hG;rw[o2.tk 0 T0 (by decide)];exact b1
 have gx:=g2 x
 have gy:=g2 y
 have gx1:=g1 x
 have gy1:=g1 y
 rw[if_pos rfl] at gx1 gy
 have hgy:0≤eJ m1.z.cn.l y∧eJ m1.z.cn.l y≤1:=by rw[g1];split<;>decide
 have Ka:1≤eJ m2.z.cn.l x∧eJ m2.z.cn.l x≤2:=by
  split at gx
  ·omega
  ·omega
 obtain⟨e,u,m3,o3⟩:=aBC (k:=112) (d:=x) (q:=0) (v:=0) hm o2.rest k2 T0 (.inr (.inl rfl)) v0;obtain⟨rfl,rfl,c3,a3⟩:=aGS o3 (by rw[c2]) rfl hx (by omega) (by omega) (by omega)
 have k3:eN s 1200 m3:=o3.ok hm k2 o2.rest T0 (.inr (.inl rfl)) v0
 have g3:∀i:Int,eJ m3.z.cn.l i=if i=(x:Int) then eJ m2.z.cn.l x - 1 else eJ m2.z.cn.l i:=fun i=>by rw[c3,Nd]
 have Mj:eJ m3.z.cn.l y=1:=by
  rw[g3]
  by_cases exy:(y:Int)=(x:Int)
  ·rw[if_pos exy];rw[exy] at gy gy1;rw[gy,gx1];rfl
  ·rw[if_neg exy];rw[if_neg exy] at gy1;omega
 have b3:hG (m3.z.tk 1) y=1:=by
  have h0:hG (m1.z.tk 1) y=0:=by
   unfold hG;rw[o1.tk 1 T1 (by decide)]
   show(List.replicate 6 (0:Int)).getD y 0=0
   have hn:=hm.nv
   obtain rfl | rfl | rfl | rfl:y=0∨y=1∨y=2∨y=3:=by omega
   all_goals rfl
  have hl:=k1.zM.toRwB.len 1 T1
  have hn:=hm.nv
  have h1:hG (m2.z.tk 1) y=1:=by
   have:=aEb (k:=y) (v:=hG (m1.z.tk 1) y+1) hl (show y < 6 by omega)
   rw[if_pos rfl,h0] at this;unfold hG at this⊢;rw[a2];unfold pJ;rw[h0];exact this
  unfold hG;rw[o3.tk 1 T1 (by decide)];exact h1
 obtain⟨e,u,m4,o4⟩:=aBC (k:=112) (d:=y) (q:=0) (v:=0) hm o3.rest k3 T1 (.inr (.inl rfl)) v0;obtain⟨rfl,rfl,c4,a4⟩:=aGS o4 (by rw[c3]) rfl hy (by omega) (by omega) (by omega)
 have k4:eN s 1600 m4:=o4.ok hm k3 o3.rest T1 (.inr (.inl rfl)) v0
 refine⟨m1,m2,m3,m4,o1,o2,o3,o4,k1,k2,k3,k4,Uc (by rw[c1]) hx (by omega),Uc (by rw[c2]) hx (by omega),Uc (by rw[c2]) hy (by omega),Uc (by rw[c3]) hy (by omega),aMB o4.rest fun i=>?_⟩;rw[c4,Nd];split
 ·omega
 ·rename_i h1
  rw[g3];split
  ·rename_i h2
   rw[g2,if_neg (by omega),gx1];decide
  ·rename_i h2
   rw[g2,if_neg h1,g1,if_neg h2];decide
end
end
section
section
variable{w0 w:World}{R:List Piece}{H:List HP}{g f:Nat}{hL:HL}{s:aD}{m:dR}
end
section
variable{w0 w:World}{R:List Piece}{H:List HP}{g f:Nat}{hL:HL}{s:aD}{m:dR}
theorem aO9{n v:Nat}{b:Bool}(hm:s.made)(aV:gX hL s)(hok:eN s n m)(hb:sQ s m.x v=b)(hv:v < s.aC.length)(i:Nat)(st:St w0 R H w)(hi:H[i]? =some (mU g f hL s m)):Cz 14 #[.pointer (some ⟨hL.h,0,none⟩),iv v] w (Rt (.bool b) w):=by
 obtain⟨F,h1,h2,_⟩:=st.chunk hi;obtain⟨G,g1,g2,_⟩:=h1;exact hb▸aDV hL s m.x w hm.dG aV hok.hw v hv (aFl (g1 2 _ rfl) (fun b hb=>h2 b (g2 2 b hb)) aV hok.hw)
end
end
section
theorem aMF(w:World):(binOp .neq 42 (.agg #[iv 0,.int .u32 0]) (.agg #[iv 0,.int .u32 0])).run Tryz.prog w=.ok (.bool false) w:=by kernel_rfl
theorem aME:Tryz.prog.eqGuardType Tryz.prog.depth 42=false:=by kernel_rfl
theorem aB3{N:bZ}{w0:World}{e:Env}{R:List Piece}{H:List HP}{d:Nat}{ty u:TypeId}{pos:String}{aH:Array Edge}{x y:Operand}(hx:e.ev x=some (.agg #[iv 0,.int .u32 0]))(hy:e.ev y=some (.agg #[iv 0,.int .u32 0])):bQ Tryz.prog N w0 e R H ⟨some d,.binOp .neq 42 x y u,ty,pos,aH,none⟩ (.bool false):=iL fun a w hr=>by
 simp[execOp,hr.ev hx,hr.ev hy,Go.run_eqGuard_agg w .neq 42 x y _ _ aME,aMF w]
theorem fE.aRE{w:World}{s:aD}{A1 A2 A3 A4:Option Addr}{n1 n2 n3 n4:Nat}(hW:fE w s A1 n1 A2 n2 A3 n3 A4 n4){i:Nat}{d:bO}(hd:s.aC[i]? =some d):∃b off A' k',A4=some ⟨b,off,none⟩∧fK w b (off+i*6+5) (.slice A' d.fR.length k')∧aI (all w) 1 A' d.fR.length (aK d.fR):=by
 obtain⟨rows,hr,rfl,hs⟩:=hW.dev
 have hi:=(List.getElem?_eq_some_iff.1 hd).1
 obtain⟨r,h2,h6,A,n,q,A',n',q',h3,h4,h5,h7,h8⟩:=aCR hr i d hd;obtain⟨b,off,rfl,hz,hc⟩:=hs.2 (by omega);subst h3;subst h5
 have hf:=Rr (fun x=>x) 6 rows (fun r hr'=>Rows.aBN hr r hr') i 5 _ h2 (by decide)
 refine⟨b,off,A',q',rfl,⟨hz,?_⟩,h8⟩;rw[Nat.add_assoc];exact hc _ _ (by simpa using hf)
theorem aHq(gR f r:Nat)(hL:HL)(X:Value)(s:aD)(x:aO)(A1 A2 A3 A4:Option Addr)(n1 k1 n2 k2 n3 k3 n4 k4:Nat)(U:Nat→Prop)(hU:∀i,U i→sQ s x i=true∧∀d,s.aC[i]? =some d→∀e∈d.fR,∃j:Nat,e=j∧j < i∧U j)(hm:s.made)(aV:gX hL s)(hok:cF s x):
  ∀(N i:Nat),i < N→i < s.aC.length→U i→∀w,eC w gR 0 (Zx hL f r X)→sX w hL s x→fE w s A1 n1 A2 n2 A3 n3 A4 n4→Cz 13 #[pt gR,.agg #[.slice A1 n1 k1,.slice A2 n2 k2,.slice A3 n3 k3,.slice A4 n4 k4],iv i] w (Rt (.bool true) w)
 | 0,i,h,_,_,_,_,_,_=>absurd h (by omega)
 | N + 1, i, hN, hi, hu, w, hG, hR, hW => by
  obtain⟨ha,hn⟩:=hU i hu;obtain⟨d,hd⟩:=get_some hi;obtain⟨b,off,A',k',rfl,k5,hs⟩:=hW.aRE hd
  have k0:=hG.at_ (j:=0) rfl
  have e4:=hW.nK
  have hdn:d.fR.length≤2:=(hm.aC i d hd).2.2.2.2.2.2.2.2.2.2.1
  rw[Nat.zero_add] at k0;refine aL func13 ntmps13 ?_;refine aB ?_;refine bA fun g4=>?_;refine aB ?_
  refine aU (fun w1 t=>by
   have:=aDV hL s x w1 hm.dG aV hok i hi (hR.below (t.started (by simp)))
   rw[ha] at this
   exact this) ?_
  refine aB ?_;refine Dl (α:=Unit) (fun _=>[]) (fun _=>[]) (fun _=>True) ?_ fun _ _=>?_
  ·refine pT (α:=Unit) (fun k _=>[(7,iv k),(4,pt g4),(2,iv (i:Int)),(0,pt gR)]) (fun _ _=>[HP.aE g4 30 [.slice A1 n1 k1,.slice A2 n2 k2,.slice A3 n3 k3,.slice (some ⟨b,off,none⟩) n4 k4]]) (fun _ _=>True) d.fR.length () trivial fun k _ hk _=>?_;refine aB ?_;refine aG rfl (fun hlt=>?_) (fun hge=>?_)
   ·have hlt:k < d.fR.length:=by omega
    obtain⟨e,he⟩:=get_some hlt;obtain⟨j,rfl,hj,huj⟩:=hn d hd e (List.mem_of_getElem? he);obtain⟨b2,off2,rfl,oN,oY⟩:=hs.2 (by omega)
    have k6:fK w b2 (off2+k) (iv (j:Int)):=⟨oN,oY _ _ (by simp[aK,he])⟩
    refine aB ?_;refine qM ?_;refine aM 11 ?_;refine aU (fun w1 t=>aHq gR f r hL X s x A1 A2 A3 _ n1 k1 n2 k2 n3 k3 n4 k4 U hU hm aV hok N j (by omega) (by omega) huj w1 (hG.below (t.started (by simp))) (hR.below (t.started (by simp))) (hW.le (t.started (by simp)))) ?_;refine bL ?_;refine nZ [12] ?_;refine aB ?_;exact jM ()
   ·refine aB ?_;exact gB ()
  ·refine aB ?_;exact dF
section
variable{w0 w:World}{R:List Piece}{H:List HP}{gR r f:Nat}{hL:HL}{X:Value}{s:aD}{m:dR}
theorem St.aM8(t:St w0 R H w)(i:Nat)(hi:H[i]? =some (It gR r f hL X s m)):eC w gR 0 (Zx hL f r X)∧(gX hL s→cF s m.x→sX w hL s m.x):=by
 obtain⟨F,h1,h2,_⟩:=t.chunk hi;obtain⟨G,g1,g2,_⟩:=h1;obtain⟨I,i1,i2,_⟩:=g1 1 _ rfl;exact⟨uT (g1 0 _ rfl).2,fun aV hok=>aFl (i1 2 _ rfl) (fun b hb=>h2 b (g2 1 b (i2 2 b hb))) aV hok⟩
theorem aAL{n d k1 k2 k3 k4:Nat}{A1 A2 A3 A4:Option Addr}{Φ:Piece→Prop}{hh:∀p q:Piece,p.Le q→Φ p→Φ q}(hm:s.made)(aV:gX hL s)(hok:eN s n m)(hr:qO s m)(rR:∀p,Φ p→pV p s A1 s.aF.length A2 s.domains.length A3 s.aT.length A4 s.aC.length)(hd:d < s.aC.length)(hu:hasB (dM s m.z.cn) d=true)(i j:Nat)(t:St w0 R H w)(hi:H[i]? =some (It gR r f hL X s m))(hj:H[j]? =some (HP.bT Φ hh)):
  Cz 13 #[pt gR,.agg #[.slice A1 s.aF.length k1,.slice A2 s.domains.length k2,.slice A3 s.aT.length k3,.slice A4 s.aC.length k4],iv d] w (Rt (.bool true) w):=by
 obtain⟨h1,h2⟩:=t.aM8 i hi
 have hlen:∀i,hasB (dM s m.z.cn) i=true→i < s.aC.length:=fun i hu=>by
  rcases Nat.lt_or_ge i s.aC.length with h | h
  ·exact h
  ·rw[tL,List.getElem?_eq_none (by show(dM s m.z.cn).length≤i;rw[show(dM s m.z.cn).length=_ from aJC _ _ _,Jm];exact h)] at hu;cases hu
 refine aHq gR f r hL X s m.x A1 A2 A3 A4 _ k1 _ k2 _ k3 _ k4 (fun i=>hasB (dM s m.z.cn) i=true) (fun i hi=>?_) hm aV hok.hw (d+1) d (by omega) hd hu w h1 (h2 aV hok.hw) ((rR _ (t.bT j hj)).W (Piece.Le.refl _) (Qf hm));obtain⟨e,he⟩:=get_some (hlen i hi);exact⟨(hr.alive hm he hi).1,fun d hd e he=>aLp hm hd hi he⟩
end
set_option maxRecDepth 100000 in
theorem aMo(A:Option Addr)(n c:Nat)(zs:List Int)(a b:Int)(w:World)(h0:aI (all w) 1 A n (aK zs))(hz:aCm zs)(hn:n=zs.length)(hn2:n≤9223372036854775807)(ha:aCl a)(hb:aCl b)(eY:jS (all w)):
    Cz 4 #[.slice A n c,iv a,iv b] w (Rt (.bool true) w):=by
  refine aL func4 ntmps4 ?_;refine aB ?_;refine aU (fun w1 t=>aLE w1) ?_;refine aB ?_;refine jP [] (fun v w w'=>∃cs s,v=.agg cs∧wB (fF (fresh w w')) s cs∧s.made) (fun w1 t=>aSm A n c zs w1 (h0.le (t.le (by simp))) hz hn hn2) ?_;rintro _ w1 q1 ⟨cs,s,rfl,hcs,hm⟩ Cq _ qH
  have qH:=qH (by simp)
  obtain⟨A1,m1,k1,A2,m2,k2,A3,m3,k3,A4,m4,k4,rfl,hsp⟩:=wB.P hcs
  have hsp:=hsp.le Cq
  obtain⟨rfl,rfl,rfl,rfl⟩:=hsp.len;obtain⟨Φ,hle,Mg,rR⟩:∃(Φ:Piece→Prop) (_:∀p q:Piece,p.Le q→Φ p→Φ q),Φ q1∧∀p,Φ p→pV p s A1 s.aF.length A2 s.domains.length A3 s.aT.length A4 s.aC.length:=⟨fun p=>pV p s A1 s.aF.length A2 s.domains.length A3 s.aT.length A4 s.aC.length,fun _ _ hl h=>pV.le h hl,hsp,fun _ h=>h⟩
  refine Im (Φ:=Φ) (hm:=hle) qH (by simp[all]) Mg ?_
  have nB:=hm.nv
  have cS:=Qf hm
  refine aB ?_;refine bR fun gS=>?_;refine aB ?_;refine iW (aFf s) (fun w1 t=>aG9 s A1 A2 A3 A4 _ k1 _ k2 _ k3 _ k4 w1 ((rR _ (t.bT 1 rfl)).W (Piece.Le.refl _) cS) hm) ?_;rintro _ _ q2 ⟨gR,f,r,hL,pX,rfl,rfl,aV⟩ _;dsimp only[List.cons_append,List.nil_append];refine aY [1,2,3,0,4,5] rfl (by decide) (R':=[all w]) (by simp) ?_;refine Zf ?_;refine aY [1,0,2,3] rfl (by decide) (fun _ h=>h) ?_;refine nG ?_
  change XK _ _ _ _ _ [It gR r f hL (.pointer pX) s (Md s),_,_]
  obtain⟨p0,p1⟩:=aGZ a s.aC.length (by omega);obtain⟨p2,p3⟩:=aGZ b s.aC.length (by omega);obtain⟨x,hx⟩:∃x:Nat,Mb a s.aC.length=x:=⟨_,(Int.toNat_of_nonneg p0).symm⟩
  obtain⟨y,hy⟩:∃y:Nat,Mb b s.aC.length=y:=⟨_,(Int.toNat_of_nonneg p2).symm⟩
  have hxl:x < s.aC.length:=by omega
  have Qp:y < s.aC.length:=by omega
  obtain⟨m1,m2,m3,m4,o1,o2,o3,o4,ok1,ok2,ok3,ok4,u1,u2,u3,u4,aP5⟩:=aOi hm hxl Qp
  have r0:=aGG hm
  have ok0:=aHB hm
  refine aB ?_;refine aU (fun w1 t=>aHa a s.aC.length w1 ha (by omega)) ?_;rw[hx];refine aB ?_;refine aU (fun w1 t=>aHa b s.aC.length w1 hb (by omega)) ?_;rw[hy];refine aB ?_;refine bR fun g13=>?_;refine aB ?_;refine dU 1 (It gR r f hL (.pointer pX) s m1) (fun w1 F1 t h1 h2 h3=>aAx gR r f hL (.pointer pX) s 0 400 (Md s) m1 0 103 x 0 0 0 0 _ w1 F1 hm aV ok0 (by omega) (by decide) (by decide) (Uf r0 (.inl rfl) (.inl rfl)) o1.Ue (jS.le eY (h3 _ (by simp))) h1 h2) ?_;refine aB ?_;refine bR fun g14=>?_;refine aB ?_;refine kd (aB3 rfl rfl) ?_;refine aB ?_;refine aU (fun w1 t=>aAL hm aV ok1 o1.rest rR hxl u1 2 4 t rfl rfl) ?_;refine aB ?_;refine dU 2 (It gR r f hL (.pointer pX) s m2) (fun w1 F1 t h1 h2 h3=>aAx gR r f hL (.pointer pX) s 400 400 m1 m2 1 103 y 0 0 0 0 _ w1 F1 hm aV ok1 (by omega) (by decide) (by decide) (Uf o1.rest (.inr (.inl rfl)) (.inl rfl)) o2.Ue (jS.le eY (h3 _ (by simp))) h1 h2) ?_;refine aB ?_;refine bR fun g16=>?_;refine aB ?_;refine kd (aB3 rfl rfl) ?_;refine aB ?_;refine aU (fun w1 t=>aAL hm aV ok2 o2.rest rR hxl u2 3 5 t rfl rfl) ?_;refine aB ?_;refine aU (fun w1 t=>aAL hm aV ok2 o2.rest rR Qp u3 3 5 t rfl rfl) ?_;refine aB ?_;refine dU 3 (It gR r f hL (.pointer pX) s m3) (fun w1 F1 t h1 h2 h3=>aAx gR r f hL (.pointer pX) s 800 400 m2 m3 0 112 x 0 0 0 0 _ w1 F1 hm aV ok2 (by omega) (by decide) (by decide) (Uf o2.rest (.inl rfl) (.inr (.inl rfl))) o3.Ue (jS.le eY (h3 _ (by simp))) h1 h2) ?_;refine aB ?_;refine kd (aB3 rfl rfl) ?_;refine aB ?_;refine aU (fun w1 t=>aAL hm aV ok3 o3.rest rR Qp u4 3 5 t rfl rfl) ?_;refine aB ?_;refine dU 3 (It gR r f hL (.pointer pX) s m4) (fun w1 F1 t h1 h2 h3=>aAx gR r f hL (.pointer pX) s 1200 400 m3 m4 1 112 y 0 0 0 0 _ w1 F1 hm aV ok3 (by omega) (by decide) (by decide) (Uf o3.rest (.inr (.inl rfl)) (.inr (.inl rfl))) o4.Ue (jS.le eY (h3 _ (by simp))) h1 h2) ?_;refine aB ?_;refine kd (aB3 rfl rfl) ?_;refine aB ?_;refine aB ?_;refine bF 3 0 ?_;refine bF 4 1 ?_;refine Dl (α:=Unit) (fun _=>[]) (fun _=>[]) (fun _=>True) ?_ fun _ _=>?_
  · refine pT (α:=Unit) (fun i _=>[(18,iv i),(9,pt gR),(8,pt gS)]) (fun _ _=>[mU r f hL s m4,HP.aE gR 58 (Zx hL f r (.pointer pX)),HP.aE gS 30 [.slice A1 s.aF.length k1,.slice A2 s.domains.length k2,.slice A3 s.aT.length k3,.slice A4 s.aC.length k4]]) (fun _ _=>True) s.aC.length () trivial fun i _ hi _=>?_
    refine aB ?_;refine aG rfl (fun hlt=>?_) (fun hge=>?_)
    · refine aB ?_
      refine aU (fun w1 t=>aO9 hm aV ok4 (aP5 i) (by omega) 0 t rfl) ?_;refine aB ?_;exact jM ()
    · refine aB ?_
      exact gB ()
  · refine aB ?_
    exact dF
end
end Go.Proofs.YtdcdccmpcmjmhaaGreatDoor
