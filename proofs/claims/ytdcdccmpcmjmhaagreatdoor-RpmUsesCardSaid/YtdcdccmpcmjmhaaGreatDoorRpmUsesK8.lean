/- the references' makers, the rest. -/
import Derived.Shelf.SlMaps.Clone
import Derived.Test.YtdcdccmpcmjmhaaGreatDoorRpmUsesK7
namespace Go.Proofs.YtdcdccmpcmjmhaaGreatDoor
set_option linter.all false
set_option maxHeartbeats 4000000
set_option maxRecDepth 20000
open Go.RowKit Go.Proofs.Tryz
section
section
variable{N:cE}{w0 w:World}{e:Env}{R:List Piece}{H:List HP}{Q:Exit→Act→World→Prop}{ops:Array Oper}{rest:List Oper}{pos:String}{ty:TypeId}{aH:Array Edge}{p:HP}
theorem aP4(i:Nat){x y:Operand}{s t:TypeId}{g o:Nat}{cs vs:List Value}(hi:H[i]? =some (HP.aE g t cs))(k:XK N w0 (wpList Tryz.prog ops Q rest) e R (H.set i (HP.aE g t (iH cs o vs))))(hx:e.ev x=some (.pointer (some ⟨g,o,none⟩)):=by rfl)(hy:e.ev y=some (.agg vs.toArray):=by rfl)(hs:(Tryz.prog.info? s).any (·.size==vs.length)=true:=by kernel_rfl)(h1:vs.all Value.oneCell'=true:=by rfl)(hl:decide (o+vs.length≤cs.length)=true:=by rfl):
  XK N w0 (wpList Tryz.prog ops Q (⟨none,.store s x y,ty,pos,aH,none⟩::rest)) e R H:=
 rR i hi hx hy hs (fun u hu=>List.all_eq_true.1 h1 u (by simpa[Value.cells] using hu)) (by simpa[Value.cells] using of_decide_eq_true hl) (by simpa[Value.cells] using k)
end
section
variable(s:aD)(A1 A2 A3 A4:Option Addr)(n1 k1 n2 k2 n3 k3 n4 k4:Nat)(w:World)(hm:s.made)
include hm
theorem aNE:Cz 85 #[.agg #[.slice A1 s.aF.length k1,.slice A2 s.domains.length k2,.slice A3 s.aR.length k3,.slice A4 n4 k4]] w (fun y w'=>(∃v,y=.returned v∧∃v1 v2 v3 v4 v5 v6:Value,v=.agg #[v1,v2,v3,v4,v5,v6])∧Below w.heap.size w w'):=by
 have hnc:=hm.nc
 have hnd:=hm.nd
 have iJ:=hm.nr
 refine aM func85 ntmps85 ?_;refine aB ?_;refine bA fun g1=>?_;refine bX fun g2=>?_;refine aB ?_;refine bX fun g3=>?_;refine aB ?_;refine qB (α:=(Value×Value×Value)×Value×Value×Value) (fun i _=>[(4,iv i),(3,pt g3),(2,pt g2),(1,pt g1)]) (fun i x=>[HP.aE g3 201 [x.1.1,x.1.2.1,x.1.2.2,x.2.1,x.2.2.1,x.2.2.2],HP.aE g2 201 [sn,sn,sn,sn,sn,sn],HP.aE g1 30 [.slice A1 s.aF.length k1,.slice A2 s.domains.length k2,.slice A3 s.aR.length k3,.slice A4 n4 k4]]) (fun _ x=>∀v∈[x.1.1,x.1.2.1,x.1.2.2,x.2.1,x.2.2.1,x.2.2.2],v.oneCell'=true) 2 ((sn,sn,sn),sn,sn,sn) (by simp[Value.oneCell']) fun i x hi hx=>?_;obtain⟨⟨a1,a2,a3⟩,a4,a5,a6⟩:=x;dsimp only at hx⊢;refine aB ?_;refine aG rfl (fun hlt=>?_) (fun hge=>?_)
 ·obtain rfl | rfl:i=0∨i=1:=by omega
  all_goals
   refine aB ?_;refine rL 15 (by kernel_rfl) (by kernel_rfl) ?_;refine bJ 0 ?_;refine bJ 1 ?_;refine bJ 2 ?_;refine bJ 3 ?_;refine bJ 5 ?_;refine bJ 6 ?_;refine bJ 7 ?_;refine bJ 9 ?_;refine bJ 10 ?_;refine bJ 11 ?_;refine bJ 14 ?_;refine aCn (fuel:=3) [4,8,12] [[4,8,12]] (fun i=>match i with | 4=>⟨13,4,List.replicate s.domains.length (.bool false),fun g=>.slice (some ⟨g,0,none⟩) s.domains.length s.domains.length⟩ | 8=>⟨17,4,List.replicate s.aF.length (.bool false),fun g=>.slice (some ⟨g,0,none⟩) s.aF.length s.aF.length⟩ | _=>⟨21,4,List.replicate s.aR.length (.bool false),fun g=>.slice (some ⟨g,0,none⟩) s.aR.length s.aR.length⟩) (fun i hi=>?_) (by show[13,17,21].Nodup;decide) (by kernel_rfl) (fun _ h=>h) (fun sub hsub hex g=>?_)
   ·simp only[List.mem_cons,List.not_mem_nil,or_false] at hi;rcases hi with rfl | rfl | rfl
    ·exact uC.of rfl rfl rfl (Ah 1 (el:=4) (z:=.bool false) (by kernel_rfl) (by kernel_rfl) rfl rfl rfl (by omega) (by omega)) (Nat.le_of_ble_eq_true rfl) rfl
    ·exact uC.of rfl rfl rfl (Ah 1 (el:=4) (z:=.bool false) (by kernel_rfl) (by kernel_rfl) rfl rfl rfl (by omega) (by omega)) (Nat.le_of_ble_eq_true rfl) rfl
    ·exact uC.of rfl rfl rfl (Ah 1 (el:=4) (z:=.bool false) (by kernel_rfl) (by kernel_rfl) rfl rfl rfl (by omega) (by omega)) (Nat.le_of_ble_eq_true rfl) rfl
   have fW:sub=[4,8,12]:=by simpa using hex
   subst fW;dsimp only[rJ,tN,kX,List.map,List.foldr,List.cons_append,List.nil_append,List.length_cons,List.length_nil,Nat.reduceAdd,Nat.reduceSub];refine bJ 13 ?_ (hi:=rfl) (dH:=fY rfl) (hsub:=fun _ h=>h.tail.tail.tail);refine cH 15 ?_;refine kz ?_;refine eZ ?_;refine cH 16 ?_;refine aP4 3 rfl ?_;simp only[iH,List.set,Nat.reduceAdd,Nat.zero_add,List.take,List.drop,List.cons_append,List.nil_append,List.length_cons,List.length_nil];refine eZ ?_;refine kH ?_;refine aB ?_;exact jJ ((_,_,_),_,_,_) (hg:=by simp[Value.oneCell'] at hx⊢;simp[hx])
 ·refine aB ?_;refine oL 1 rfl ?_ (h1:=List.all_eq_true.2 hx);dsimp only[List.set];refine aB ?_;exact Lo (vs:=[a1,a2,a3,a4,a5,a6]) rfl (by kernel_rfl) rfl rfl (aQ.whole 1 rfl) fun w1 t=>⟨⟨_,rfl,_,_,_,_,_,_,rfl⟩,t.below (by simp)⟩
end
end
section
section
variable(s:aD)(A1 A2 A3 A4:Option Addr)(n1 k1 n2 k2 n3 k3 n4 k4:Nat)(w:World)(hW:fL w s A1 n1 A2 n2 A3 n3 A4 n4)(hm:s.made)
include hW hm
theorem aNB:Cz 87 #[.agg #[.slice A1 n1 k1,.slice A2 n2 k2,.slice A3 n3 k3,.slice A4 n4 k4],sn] w (fun y w'=>(∃v,y=.returned v∧∃v1 v2 v3:Value,v=.agg #[v1,v2,v3])∧Below w.heap.size w w'):=by
 obtain rfl:=hW.nH;obtain rfl:=hW.nT;obtain rfl:=hW.pU;obtain rfl:=hW.oK
 have hnc:=hm.nc
 have hnd:=hm.nd
 have iJ:=hm.nr
 have lX:=hm.nv
 refine aM func87 ntmps87 ?_;refine aB ?_;refine bA fun g1=>?_;refine bX fun g2=>?_;refine aB ?_;refine Lr (α:=Nat×Nat×Nat×Nat) (fun x=>[(5,.pointer (some ⟨x.2.2.2,0,none⟩)),(4,pt g2),(2,pt g1),(1,sn)]) (fun x=>[HP.aE x.2.2.2 198 [.slice (some ⟨x.1,0,none⟩) s.domains.length s.domains.length,.slice (some ⟨x.2.1,0,none⟩) s.aF.length s.aF.length,.slice (some ⟨x.2.2.1,0,none⟩) s.aR.length s.aR.length],HP.aE g2 198 [sn,sn,sn],HP.aE g1 30 [.slice A1 s.aF.length k1,.slice A2 s.domains.length k2,.slice A3 s.aR.length k3,.slice A4 s.aC.length k4]]) (fun _=>True) ?_ fun x _=>?_
 ·refine rL 14 (by kernel_rfl) (by kernel_rfl) ?_;refine bJ 0 ?_;refine bJ 1 ?_;refine bJ 2 ?_;refine bJ 4 ?_;refine bJ 5 ?_;refine bJ 6 ?_;refine bJ 8 ?_;refine bJ 9 ?_;refine bJ 10 ?_;refine aCn (fuel:=2) [3,7,11,13] [[3,7,11],[3,7,11,13]] (fun i=>match i with | 3=>⟨14,4,List.replicate s.domains.length (.bool false),fun g=>.slice (some ⟨g,0,none⟩) s.domains.length s.domains.length⟩ | 7=>⟨18,4,List.replicate s.aF.length (.bool false),fun g=>.slice (some ⟨g,0,none⟩) s.aF.length s.aF.length⟩ | 11=>⟨22,4,List.replicate s.aR.length (.bool false),fun g=>.slice (some ⟨g,0,none⟩) s.aR.length s.aR.length⟩ | _=>⟨5,198,[sn,sn,sn],fun g=>pt g⟩) (fun i hi=>?_) (by show[14,18,22,5].Nodup;decide) (by kernel_rfl) (fun _ h=>h) (fun sub hsub hex g=>?_)
  ·simp only[List.mem_cons,List.not_mem_nil,or_false] at hi;rcases hi with rfl | rfl | rfl | rfl
   ·exact uC.of rfl rfl rfl (Ah 1 (el:=4) (z:=.bool false) (by kernel_rfl) (by kernel_rfl) rfl rfl rfl (by omega) (by omega)) (Nat.le_of_ble_eq_true rfl) rfl
   ·exact uC.of rfl rfl rfl (Ah 1 (el:=4) (z:=.bool false) (by kernel_rfl) (by kernel_rfl) rfl rfl rfl (by omega) (by omega)) (Nat.le_of_ble_eq_true rfl) rfl
   ·exact uC.of rfl rfl rfl (Ah 1 (el:=4) (z:=.bool false) (by kernel_rfl) (by kernel_rfl) rfl rfl rfl (by omega) (by omega)) (Nat.le_of_ble_eq_true rfl) rfl
   ·exact uC.of rfl rfl rfl (aHI (iG (by kernel_rfl))) (Nat.le_of_ble_eq_true rfl) rfl
  have fW:sub=[3,7,11]∨sub=[3,7,11,13]:=by simpa using hex
  rcases fW with rfl | rfl
  ·dsimp only[rJ,tN,kX,List.map,List.foldr,List.cons_append,List.nil_append,List.length_cons,List.length_nil,Nat.reduceAdd,Nat.reduceSub];refine bJ 12 ?_ (hi:=rfl) (dH:=fY rfl) (hsub:=fun _ h=>h.tail.tail.tail);refine cH 13 ?_;refine bX fun g6=>?_;refine iE ?_;refine gT ?_;refine lB (fun _ h=>h.tail.tail.tail.tail) ?_;refine cH 14 ?_;refine oL 0 rfl ?_;dsimp only[List.set];refine eZ ?_;refine kH ?_;refine aB ?_;exact eI (_,_,_,_)
  ·dsimp only[rJ,tN,kX,List.map,List.foldr,List.cons_append,List.nil_append,List.length_cons,List.length_nil,Nat.reduceAdd,Nat.reduceSub];refine bJ 12 ?_ (hi:=rfl) (dH:=fY rfl) (hsub:=fun _ h=>h.tail.tail.tail.tail);refine cH 14 ?_;refine oL 3 rfl ?_;dsimp only[List.set];refine eZ ?_;refine kH ?_;refine aB ?_;exact eI (_,_,_,_)
 obtain⟨ga,gb,gc,gw⟩:=x;dsimp only;refine aB ?_;refine qB (α:=Unit) (fun i _=>[(6,iv i),(5,pt gw),(4,pt g2),(2,pt g1),(1,sn)]) (fun _ _=>[HP.aE gw 198 [.slice (some ⟨ga,0,none⟩) s.domains.length s.domains.length,.slice (some ⟨gb,0,none⟩) s.aF.length s.aF.length,.slice (some ⟨gc,0,none⟩) s.aR.length s.aR.length],HP.aE g2 198 [sn,sn,sn],HP.aE g1 30 [.slice A1 s.aF.length k1,.slice A2 s.domains.length k2,.slice A3 s.aR.length k3,.slice A4 s.aC.length k4]]) (fun _ _=>True) 0 () trivial fun i _ hi _=>?_;obtain rfl:i=0:=by omega
 refine aB ?_;refine bQ (t:=29) rfl (fun hg=>?_) (fun hg=>?_)
 all_goals
  refine aB ?_;exact Lo (vs:=[.slice (some ⟨ga,0,none⟩) s.domains.length s.domains.length,.slice (some ⟨gb,0,none⟩) s.aF.length s.aF.length,.slice (some ⟨gc,0,none⟩) s.aR.length s.aR.length]) rfl (by kernel_rfl) rfl rfl (aQ.whole 1 rfl) fun w1 t=>⟨⟨_,rfl,_,_,_,rfl⟩,t.below (by simp)⟩
theorem aNC:Cz 86 #[.agg #[.slice A1 n1 k1,.slice A2 n2 k2,.slice A3 n3 k3,.slice A4 n4 k4]] w (fun y w'=>(∃v,y=.returned v∧∃p:Option Addr,v=.tuple #[.pointer p,iv 0])∧Below w.heap.size w w'):=by
 obtain rfl:=hW.oK
 have lX:=hm.nv
 refine aM func86 ntmps86 ?_;refine aB ?_;refine bA fun g1=>?_;refine aB ?_;refine aU (fun w1 t=>Vm s A1 A2 A3 A4 _ k1 _ k2 _ k3 _ k4 w1 (hW.le (t.started (by simp))) hm) ?_;refine aB ?_;refine qC ?_;refine Ji 1 5 rfl rfl (by kernel_rfl) ?_ ?_
 ·refine uR (fun v=>∃(A:Option Addr) (n c:Nat),v=.slice A n c) (fun w1 t=>(aDe s A1 A2 A3 A4 _ k1 _ k2 _ k3 _ k4 w1 (hW.le (t.started (by simp)))).mono fun y w' ⟨⟨v,h1,h2⟩,h3⟩=>⟨⟨v,h1,by obtain⟨A,c,rfl,_⟩:=h2;exact⟨_,_,_,rfl⟩⟩,h3⟩) fun v hv=>?_;obtain⟨A,n,c,rfl⟩:=hv;refine bH ?_;refine aL 5 ?_;refine lO 8 (n:=s.aC.length) (el:=3) (z:=iv 0) (by kernel_rfl) (by kernel_rfl) rfl rfl rfl (by omega) (by omega) (by decide) fun g2=>?_;refine bH ?_;refine nQ [6,7,8,9] ?_;refine aB ?_;refine bA fun g3=>?_;refine aB ?_;exact eL rfl rfl rfl fun w1 t=>⟨⟨_,rfl,⟨_,rfl⟩⟩,t.below (by simp)⟩
 ·refine lO 8 (n:=s.aC.length) (el:=3) (z:=iv 0) (by kernel_rfl) (by kernel_rfl) rfl rfl rfl (by omega) (by omega) (by decide) fun g2=>?_;refine bH ?_;refine aL 1 ?_;refine uR (fun v=>∃(A:Option Addr) (n c:Nat),v=.slice A n c) (fun w1 t=>(aDe s A1 A2 A3 A4 _ k1 _ k2 _ k3 _ k4 w1 (hW.le (t.started (by simp)))).mono fun y w' ⟨⟨v,h1,h2⟩,h3⟩=>⟨⟨v,h1,by obtain⟨A,c,rfl,_⟩:=h2;exact⟨_,_,_,rfl⟩⟩,h3⟩) fun v hv=>?_;obtain⟨A,n,c,rfl⟩:=hv;refine bH ?_;refine nQ [6,7,8,9] ?_;refine aB ?_;refine bA fun g3=>?_;refine aB ?_;exact eL rfl rfl rfl fun w1 t=>⟨⟨_,rfl,⟨_,rfl⟩⟩,t.below (by simp)⟩
theorem aND(p:Option Addr):Cz 38 #[.pointer p,.agg #[.slice A1 n1 k1,.slice A2 n2 k2,.slice A3 n3 k3,.slice A4 n4 k4]] w (fun y w'=>(∃v,y=.returned v∧wJ v)∧Below w.heap.size w w'):=by
 obtain rfl:=hW.nH;obtain rfl:=hW.nT;obtain rfl:=hW.pU;refine aM func38 ntmps38 ?_;refine aB ?_;refine bA fun g1=>?_;refine aB ?_;refine aU (fun w1 t=>Vm s A1 A2 A3 A4 _ k1 _ k2 _ k3 _ k4 w1 (hW.le (t.started (by simp))) hm) ?_;refine aB ?_;cases p with
 | none=>
  refine aB ?_;exact eL rfl rfl rfl fun w1 t=>⟨⟨_,rfl,⟨_,_,rfl⟩⟩,t.below (by simp)⟩
 | some a=>
  refine aB ?_;refine qC ?_;refine aL 3 ?_;refine uR (fun v=>∃v1 v2 v3 v4 v5 v6:Value,v=.agg #[v1,v2,v3,v4,v5,v6]) (fun w1 t=>aNE s A1 A2 A3 A4 k1 k2 k3 n4 k4 w1 hm) fun v hv=>?_;obtain⟨v1,v2,v3,v4,v5,v6,rfl⟩:=hv;refine bH ?_;refine nQ [4,5,6,7] ?_;refine aB ?_;refine bA fun g2=>?_;refine aB ?_;exact eL rfl rfl rfl fun w1 t=>⟨⟨_,rfl,⟨_,_,rfl⟩⟩,t.below (by simp)⟩
end
end
section
theorem aNn{l:List Rg}{i k:Nat}{a:Rg}{v:Value}(h:l[i]? =some a)(hk:k < 2)(hv:a.cells[k]? =some v):(l.flatMap Rg.cells)[i*2+k]? =some v:=(Nx Rg.cells 2 l (fun _ _=>rfl) i k a h hk).trans hv
theorem aN6(f n kR:Nat)(RA:Option Addr)(v1 v2 v3:Value)(aO:List Rg)(hn:n=aO.length)(hn8:n≤8)(w:World)(F:Nat→Prop)(hp:(HP.many [HP.aE f 322 [.slice RA n kR,v1,v2,v3],HP.own 48 2 (.slice RA n kR) n (aO.flatMap Rg.cells)]).sat F w)(hF:∀b,F b→b < w.heap.size):
  Cz 154 #[pt f] w (Wr (.tuple #[]) (HP.many [cJ,cJ]) w F):=by
 subst hn;refine dJ func154 ntmps154 hp hF ?_;generalize cM:(⟨w,fun b=>b < w.heap.size∧¬F b⟩:Piece)=R0;refine bF 0 0 ?_;refine bF 1 1 ?_;refine aB ?_;refine iN 23 1 ?_;refine qB (α:=(Option Addr×Nat)×List Value) (fun i _=>[(2,iv i),(0,pt f)]) (fun i x=>[HP.own 23 1 (.slice x.1.1 i x.1.2) i x.2,HP.own 48 2 (.slice RA aO.length kR) aO.length (aO.flatMap Rg.cells),HP.aE f 322 [.slice RA aO.length kR,.slice x.1.1 i x.1.2,v2,v3],HP.many [cJ,cJ]]) (fun _ _=>True) aO.length ((none,0),[]) trivial fun i x hi _=>?_;obtain⟨⟨L1,L2⟩,L3⟩:=x;dsimp only;refine aB ?_;refine aG rfl (fun hlt=>?_) (fun hge=>?_)
 ·have hlt:i < aO.length:=by omega
  obtain⟨r,hr⟩:=get_some hlt
  have hx:=aNn (k:=0) hr (by omega) rfl
  refine aKr 1 rfl (by omega) fun⟨gR,hgR⟩=>?_;subst hgR;refine aB ?_;refine qC ?_;refine aL 13 ?_;refine eK fun g3=>?_;refine bH ?_;refine nQ [14,15,16,17] ?_;refine aB ?_;refine sY 1 fun A' k'=>?_;dsimp only[List.set];refine aB ?_;exact jJ ((_,_),_)
 ·refine aB ?_;subst cM;exact kC 3 hF
theorem aNm(l:List Rg):∀v∈l.flatMap Rg.cells,v.oneCell'=true:=fun v hv=>by
 obtain⟨r,_,hv⟩:=List.mem_flatMap.1 hv;simp only[Rg.cells,List.mem_cons,List.not_mem_nil,or_false] at hv;rcases hv with rfl | rfl<;>rfl
theorem aN5(aO:List Rg)(hl:aO.length≤8)(A:Option Addr)(c:Nat)(w:World)(hs:aI (all w) 2 A aO.length (aO.flatMap Rg.cells)):
  Cz 81 #[.slice A aO.length c] w (fun y w'=>(∃v,y=.returned v∧wJ v)∧Below w.heap.size w w'):=by
 refine aM func81 ntmps81 ?_;refine aB ?_;refine aG rfl (fun h=>absurd h (by omega)) (fun _=>?_);refine aB ?_;refine Ek (el:=48) (sz:=2) (by kernel_rfl) (by kernel_rfl) (by decide) fun g=>?_;refine Bv 0 2 0 rfl rfl (by omega) ?_;dsimp only[List.set];refine aB ?_;refine gJ 0 2 8 aO.length (n':=aO.length) (el:=48) (by kernel_rfl) (by kernel_rfl) (by decide) rfl rfl rfl (rE (by simp) hs) (aNm _) (by omega) (by omega) (by omega) (by decide) fun A' k'=>?_;dsimp only[List.set,List.nil_append];refine aB ?_;refine bA fun g2=>?_;refine aB ?_;refine nA ?_;refine dR 0 (HP.many [cJ,cJ]) (fun w1 F1 t h1 h2 h3=>aN6 g2 aO.length k' A' _ _ _ aO rfl hl w1 F1 h1 h2) ?_;refine aB ?_;exact eL rfl rfl rfl fun w1 t=>⟨⟨_,rfl,⟨_,_,rfl⟩⟩,t.below (by simp)⟩
end
section
def aUL(v:Value)(_ _:World):Prop:=∃p:Option Addr,v=.pointer p
def aUM(v:Value)(_ _:World):Prop:=∃(p:Option Addr) (e:Int),v=.tuple #[.pointer p,iv e]
theorem aNH(w:World):Cz 82 #[] w (fun y w'=>(∃v,y=.returned v∧aUL v w w')∧Below w.heap.size w w'):=by
 refine aM func82 ntmps82 ?_;refine aA ?_;refine kd (fY rfl) ?_;refine bA fun g1=>?_;refine aA ?_;exact aT (h:=fun _ _=>⟨_,rfl,⟨_,rfl⟩⟩)
theorem aNG(A:Option Addr)(n c:Nat)(zs:List Int)(w:World)(hs:aI (all w) 1 A n (aK zs))(hn:n=zs.length)(hn2:n≤1000):Cz 83 #[.slice A n c] w (fun y w'=>(∃v,y=.returned v∧aUM v w w')∧Below w.heap.size w w'):=by
 subst hn;refine aM func83 ntmps83 ?_;refine aA ?_;refine aG rfl (fun h6=>?_) (fun h6=>?_)
 ·refine aA ?_;exact eL rfl rfl rfl fun w1 t=>⟨⟨_,rfl,⟨_,_,rfl⟩⟩,t.below (by simp)⟩
 ·refine aA ?_;refine bL [(4,iv 0),(3,iv 0),(2,.pointer none),(0,.slice A zs.length c)] ?_;refine eJ (fun m e R H=>∃i:Nat,i≤zs.length∧m=zs.length - i∧e=[(4,iv i),(3,iv 0),(2,.pointer none),(0,.slice A zs.length c)]∧R=[all w]∧H=[]) zs.length ⟨0,by omega,rfl,rfl,rfl,rfl⟩ fun m e R H hI=>?_;obtain⟨i,hi,rfl,rfl,rfl,rfl⟩:=hI;refine aA ?_;refine aG rfl (fun hlt=>?_) (fun hge=>?_)
  ·have hlt:i < zs.length:=by omega
   obtain⟨x,hx⟩:=get_some hlt;obtain⟨b,off,rfl,hr⟩:=aI.int hs (by omega)
   have k1:=hr i x hx
   refine aA ?_;refine kd (dat i (off+i)) ?_;refine aA ?_;refine bQ (t:=19) rfl (fun h0=>?_) (fun h0=>?_)
   ·refine aA ?_;exact eL rfl rfl rfl fun w1 t=>⟨⟨_,rfl,⟨_,_,rfl⟩⟩,t.below (by simp)⟩
   ·refine aA ?_;refine kd (dat i (off+i)) ?_;refine aA ?_;refine aG rfl (fun h8=>?_) (fun h8=>?_)
    ·refine aA ?_;exact eL rfl rfl rfl fun w1 t=>⟨⟨_,rfl,⟨_,_,rfl⟩⟩,t.below (by simp)⟩
    ·refine aA ?_;exact dZ (zs.length - (i+1)) ⟨i+1,hlt,rfl,rfl,rfl,rfl⟩
  ·refine aA ?_;refine Ek (el:=3) (sz:=1) (by kernel_rfl) (by kernel_rfl) (by decide) fun g=>?_;refine Bv 0 1 0 rfl rfl (by omega) ?_;dsimp only[List.set];refine aA ?_;refine gJ 0 1 8 zs.length (n':=zs.length) (el:=3) (by kernel_rfl) (by kernel_rfl) (by decide) rfl rfl rfl (rE (by simp) hs) (fun v hv=>by simp[aK] at hv;obtain⟨_,_,rfl⟩:=hv;rfl) (by omega) (by omega) (by omega) (by decide) fun A' k'=>?_;dsimp only[List.set,List.nil_append];refine kd (fY rfl) ?_;refine bA fun g1=>?_;refine aA ?_;exact eL rfl rfl rfl fun w1 t=>⟨⟨_,rfl,⟨_,_,rfl⟩⟩,t.below (by simp)⟩
end
section
section
variable(s:aD)(A1 A2 A3 A4:Option Addr)(n1 k1 n2 k2 n3 k3 n4 k4:Nat)(w:World)(hW:fL w s A1 n1 A2 n2 A3 n3 A4 n4)(hm:s.made)
include hW hm
theorem aNF:Cz 37 #[.agg #[.slice A1 n1 k1,.slice A2 n2 k2,.slice A3 n3 k3,.slice A4 n4 k4]] w (fun y w'=>(∃v,y=.returned v∧wJ v)∧Below w.heap.size w w'):=by
 have lX:=hm.nv
 obtain rfl:=hW.oK;refine aM func37 ntmps37 ?_;refine aB ?_;refine bA fun g1=>?_;refine aB ?_;refine uR wJ (fun w1 t=>aN9 s A1 A2 A3 A4 _ k1 _ k2 _ k3 _ k4 w1 (hW.le (t.started (by simp))) hm) fun v hv=>?_;obtain⟨p6,e6,rfl⟩:=hv;refine aB ?_;refine aG rfl (fun h6=>?_) (fun h6=>?_)
 ·refine aB ?_;exact eL rfl rfl rfl fun w1 t=>⟨⟨_,rfl,⟨_,_,rfl⟩⟩,t.below (by simp)⟩
 refine aB ?_;refine uR wJ (fun w1 t=>aN8 s A1 A2 A3 A4 _ k1 _ k2 _ k3 _ k4 w1 (hW.le (t.started (by simp))) hm) fun v hv=>?_;obtain⟨p7,e7,rfl⟩:=hv;refine aB ?_;refine uR wJ (fun w1 t=>aN7 s A1 A2 A3 A4 _ k1 _ k2 _ k3 _ k4 w1 (hW.le (t.started (by simp))) hm) fun v hv=>?_;obtain⟨p8,e8,rfl⟩:=hv;refine aB ?_;refine bA fun g2=>?_;refine aB ?_;refine iN 38 6 ?_;refine iN 191 1 ?_;refine iN 194 1 ?_;refine iN 3 1 ?_;refine qB (α:=((Option Addr×Nat)×List Value)×((Option Addr×Nat)×List Value)×((Option Addr×Nat)×List Value)×(Option Addr×Nat)×List Value) (fun i x=>[(12,iv i),(11,.slice x.2.2.2.1.1 i x.2.2.2.1.2),(10,pt g2),(1,pt g1)]) (fun i x=>[HP.own 38 6 (.slice x.1.1.1 i x.1.1.2) i x.1.2,HP.own 191 1 (.slice x.2.1.1.1 i x.2.1.1.2) i x.2.1.2,HP.own 194 1 (.slice x.2.2.1.1.1 i x.2.2.1.1.2) i x.2.2.1.2,HP.own 3 1 (.slice x.2.2.2.1.1 i x.2.2.2.1.2) i x.2.2.2.2,HP.aE g2 190 [.slice x.1.1.1 i x.1.1.2,.pointer p6,.pointer p7,.pointer p8,.slice x.2.1.1.1 i x.2.1.1.2,.slice x.2.2.1.1.1 i x.2.2.1.1.2,.pointer none],HP.aE g1 30 [.slice A1 n1 k1,.slice A2 n2 k2,.slice A3 n3 k3,.slice A4 s.aC.length k4]]) (fun i x=>∃zs,x.2.2.2.2=aK zs∧zs.length=i) s.aC.length (((none,0),[]),((none,0),[]),((none,0),[]),(none,0),[]) ⟨[],rfl,rfl⟩ fun i x hi hx=>?_;obtain⟨⟨⟨L1,L2⟩,L3⟩,⟨⟨M1,M2⟩,M3⟩,⟨⟨N1,N2⟩,N3⟩,⟨O1,O2⟩,O3⟩:=x;obtain⟨zs,rfl,hzl⟩:=hx;dsimp only;refine aB ?_;refine aG rfl (fun hlt=>?_) (fun hge=>?_)
 ·have hlt:i < s.aC.length:=by omega
  obtain⟨d,hd⟩:=get_some hlt;obtain⟨b,off,_,rfl,⟨AR,_,kR,AN,_,kN,rfl,rfl,rfl,hR,hN⟩,hro⟩:=hW.dev.aDb hd
  have k4:=hro.at_ (j:=4) rfl
  have Bb:d.aO.length≤8:=by
   have:=(hm.aC i d hd).2.2.2.2.2.2.2.2.1
   omega
  refine aB ?_;refine qC ?_;refine aL 10 ?_;refine eK fun g3=>?_;refine bH ?_;refine nQ [11,12,13,14] ?_;refine aB ?_;refine sY 1 fun A' k'=>?_;dsimp only[List.set];refine aB ?_;refine uR wJ (fun w1 t=>aN5 d.aO Bb AR kR w1 (hR.le (t.le (by simp)))) fun v hv=>?_;obtain⟨p9,e9,rfl⟩:=hv;refine aB ?_;refine eK fun g4=>?_;refine aB ?_;refine sY 3 fun A'' k''=>?_;dsimp only[List.set];refine aB ?_;refine qC ?_;refine aL 5 ?_;refine uR (fun v=>∃p:Option Addr,v=.pointer p) (fun w1 t=>aNH w1) fun v hv=>?_;obtain⟨p10,rfl⟩:=hv;refine bH ?_;refine aL 6 ?_;refine eK fun g5=>?_;refine bH ?_;refine nQ [7,8,9,10] ?_;refine aB ?_;refine sY 5 fun A3' k3'=>?_;dsimp only[List.set];refine aB ?_;refine eK fun g6=>?_;refine aB ?_;refine sY 7 fun A4' k4'=>?_;dsimp only[List.set];refine aB ?_;exact jJ (((_,_),_),((_,_),_),((_,_),_),(_,_),_) (hg:=⟨zs++[(d.aO.length:Int)],by simp[aK],by simp[hzl]⟩)
 ·obtain rfl:i=s.aC.length:=by omega
  refine aB ?_;refine uR wJ (fun w1 t=>aNG O1 s.aC.length O2 zs w1 (t.slO (i:=3) rfl) hzl.symm (by omega)) fun v hv=>?_;obtain⟨p11,e11,rfl⟩:=hv;refine aB ?_;exact eL rfl rfl rfl fun w1 t=>⟨⟨_,rfl,⟨_,_,rfl⟩⟩,t.below (by simp)⟩
theorem aNA(p q:Option Addr):Cz 39 #[.pointer p,.pointer q,.agg #[.slice A1 n1 k1,.slice A2 n2 k2,.slice A3 n3 k3,.slice A4 n4 k4]] w (fun y w'=>(∃v,y=.returned v∧wJ v)∧Below w.heap.size w w'):=by
 have lX:=hm.nv
 obtain rfl:=hW.nH;obtain rfl:=hW.nT;obtain rfl:=hW.pU;obtain rfl:=hW.oK;refine aM func39 ntmps39 ?_;refine aB ?_;refine bA fun g1=>?_;refine aB ?_;refine uR (fun v=>∃p:Option Addr,v=.tuple #[.pointer p,iv 0]) (fun w1 t=>aNC s A1 A2 A3 A4 _ k1 _ k2 _ k3 _ k4 w1 (hW.le (t.started (by simp))) hm) fun v hv=>?_;obtain⟨p16,rfl⟩:=hv;refine aB ?_;cases p with
 | none=>
  refine aB ?_;exact eL rfl rfl rfl fun w1 t=>⟨⟨_,rfl,⟨_,_,rfl⟩⟩,t.below (by simp)⟩
 | some a =>
  refine aB ?_;cases q with
  | none=>
   refine aB ?_;exact eL rfl rfl rfl fun w1 t=>⟨⟨_,rfl,⟨_,_,rfl⟩⟩,t.below (by simp)⟩
  | some b =>
   refine aB ?_;refine qC ?_;refine aL 5 ?_;refine uR (fun v=>∃v1 v2 v3:Value,v=.agg #[v1,v2,v3]) (fun w1 t=>aNB s A1 A2 A3 A4 _ k1 _ k2 _ k3 _ k4 w1 (hW.le (t.started (by simp))) hm) fun v hv=>?_;obtain⟨v1,v2,v3,rfl⟩:=hv;refine bH ?_;refine nQ [6,7,8] ?_;refine aB ?_;refine bA fun g2=>?_;refine aB ?_;refine qB (α:=Value×Value×Value) (fun i _=>[(11,iv i),(10,pt g2),(5,pt g1)]) (fun i x=>[HP.aE g2 220 [.pointer (some a),.pointer (some b),.slice A1 s.aF.length k1,.slice A2 s.domains.length k2,.slice A3 s.aR.length k3,.slice A4 s.aC.length k4,iv 0,.int .u8 0,iv 0,iv 0,.int .u32 0,iv 0,.int .u32 0,x.1,iv 0,.int .u8 0,iv 0,iv 0,.int .u32 0,iv 0,.int .u32 0,x.2.1,iv 0,.int .u8 0,iv 0,iv 0,.int .u32 0,iv 0,.int .u32 0,x.2.2,.pointer p16,v1,v2,v3,sn,iv 0,.bool false,iv (-1)],HP.aE g1 30 [.slice A1 s.aF.length k1,.slice A2 s.domains.length k2,.slice A3 s.aR.length k3,.slice A4 s.aC.length k4]]) (fun _ _=>True) 3 (sn,sn,sn) trivial fun i x hi _=>?_;obtain⟨x1,x2,x3⟩:=x;dsimp only;refine aB ?_;refine aG rfl (fun hlt=>?_) (fun hge=>?_)
   ·obtain rfl | rfl | rfl:i=0∨i=1∨i=2:=by omega
    all_goals
     refine aB ?_;refine qC ?_;refine aL 5 ?_;refine lO 8 (n:=s.aC.length) (el:=3) (z:=iv 0) (by kernel_rfl) (by kernel_rfl) rfl rfl rfl (by omega) (by omega) (by decide) fun g3=>?_;refine bH ?_;refine Ox 8 ?_;refine Ox 9 ?_;refine nQ [10] ?_;refine aB ?_;exact jJ (_,_,_)
   ·refine aB ?_;exact eL rfl rfl rfl fun w1 t=>⟨⟨_,rfl,⟨_,_,rfl⟩⟩,t.below (by simp)⟩
end
end
section
def aFv(s:aD)(v:Value)(hs:List HP)(_:Piece):Prop:=∃(g f r:Nat) (hL:HL) (p:Option Addr),v=.tuple #[pt g,.bool true]∧hs=[HP.aE g 58 [.pointer (some ⟨hL.h,0,none⟩),pt f,pt r,.pointer p],gH r hL.h f s (Jq s),Cf f hL.h s (tQ s),dU hL s (hw0 s)]∧iO hL s
theorem aGS(s:aD)(A1 A2 A3 A4:Option Addr)(n1 k1 n2 k2 n3 k3 n4 k4:Nat)(w:World)(hW:fL w s A1 n1 A2 n2 A3 n3 A4 n4)(hm:s.made):
  Cz 10 #[.agg #[.slice A1 n1 k1,.slice A2 n2 k2,.slice A3 n3 k3,.slice A4 n4 k4]] w (fun y w'=>(∃v hs q,y=.returned v∧q.w=w'∧aFv s v hs q∧jD w hs q)∧Below w.heap.size w w'):=by
 have hH:=hm.dI
 refine aM func10 ntmps10 ?_;refine aB ?_;refine bA fun g1=>?_;refine aB ?_;refine iA (aKN s) (fun w1 t=>aQB s hH A1 A2 A3 A4 n1 k1 n2 k2 n3 k3 n4 k4 w1 (hW.le (t.started (by simp)))) ?_;rintro _ _ q2 ⟨hL,rfl,rfl,iT,Hw⟩ _;dsimp only[List.cons_append,List.nil_append];refine aB ?_;refine iA (aKW hL.h s) (fun w1 t=>aRz hL.h s hH A1 A2 A3 A4 n1 k1 n2 k2 n3 k3 n4 k4 w1 (hW.le (t.started (by simp)))) ?_;rintro _ _ q3 ⟨f,rfl,rfl⟩ _;dsimp only[List.cons_append,List.nil_append];refine aB ?_;refine iA (aK9 hL.h f s) (fun w1 t=>aMQ s A1 A2 A3 A4 n1 k1 n2 k2 n3 k3 n4 k4 w1 hL.h f hm (hW.le (t.started (by simp)))) ?_;rintro _ _ q4 ⟨r,rfl,rfl⟩ _;dsimp only[List.cons_append,List.nil_append];refine aB ?_;refine uR wJ (fun w1 t=>aNF s A1 A2 A3 A4 n1 k1 n2 k2 n3 k3 n4 k4 w1 (hW.le (t.started (by simp))) hm) fun v hv=>?_;obtain⟨p12,e12,rfl⟩:=hv;refine aB ?_;refine uR wJ (fun w1 t=>aND s A1 A2 A3 A4 n1 k1 n2 k2 n3 k3 n4 k4 w1 (hW.le (t.started (by simp))) hm p12) fun v hv=>?_;obtain⟨p15,e15,rfl⟩:=hv;refine aB ?_;refine uR wJ (fun w1 t=>aNA s A1 A2 A3 A4 n1 k1 n2 k2 n3 k3 n4 k4 w1 (hW.le (t.started (by simp))) hm p12 p15) fun v hv=>?_;obtain⟨p18,e18,rfl⟩:=hv;refine aB ?_;refine bA fun g2=>?_;refine aB ?_;refine aY [0,1,2,3] rfl (by decide) (R':=[all w]) (by simp) ?_;refine dP [] [] [0,1,2,3] (by simp) rfl (by decide) (by decide) fun q _ _ hfr=>?_;exact eL rfl rfl rfl fun w1 t=>⟨⟨_,_,⟨w1,q.Z⟩,rfl,rfl,⟨g2,f,r,hL,_,rfl,rfl,⟨iT,Hw⟩⟩,t.newR (by simp) (by simp) (hfr (by simp) (by simp))⟩,t.below (by simp)⟩
end
section
theorem aLN{p:HP}{F:Nat→Prop}{w w':World}{v:Value}{y:Ending}(hp:p.sat F w)(hF:∀b,F b→b < w.heap.size)(h:Rt v w y w'):y=.returned v∧∃F',p.sat F' w'∧gX w w' F F':=
 ⟨h.1,F,p.loc _ _ _ hp (fun b hb=>h.2.block b (hF b hb)),h.2.os,h.2.tape,h.2.output,h.2.size,fun b hb=>⟨.inl hb,Nat.lt_of_lt_of_le (hF b hb) h.2.size⟩,fun b hb _=>h.2.block b hb⟩
section
variable(g h f:Nat)(s:aD)(z:aV)(w:World)(F:Nat→Prop)(d:bO)(hk:z.t0.kind=114)(rI:z.t0.dev=0)(Aq:z.t0.bY=0)(Kq:s.aC[0]? =some d)(Bb:1≤d.aO.length)(Hy:hG z.t0 0=0)
include hk rI Aq Kq Bb Hy
theorem aNg(L:dK)(hR:Ea w g h f L s z):Cz 291 #[.agg #[.bool false],pt g,.pointer (some ⟨g,10,none⟩)] w (Rt (iv 6) w):=by
 have hlt:=(List.getElem?_eq_some_iff.1 Kq).1
 have hin:bB s.aC.length 0=true:=decide_eq_true (by omega)
 have c4:eD w g (10+1) [.int .u8 114,iv 0,iv 0,.int .u32 z.t0.val]:=by
  refine⟨hR.r0.1,fun j v hv=>?_⟩
  have h4:j < 4:=by simpa using(List.getElem?_eq_some_iff.1 hv).1
  have:=hR.r0.2 (11+j) v (by
   rw[←hk,←rI] at hv
   have h5:j=0∨j=1∨j=2∨j=3:=by omega
   rcases h5 with rfl | rfl | rfl | rfl
   ·exact hv
   ·exact hv
   ·rw[rI,←Aq] at hv;exact hv
   ·exact hv)
  rwa [Nat.zero_add] at this
 have k5:=hR.r0.at_ (j:=5) rfl
 have k17:fQ w g 17 (iv 0):=by
  have:=hR.r0.at_ (j:=17) rfl
  rwa [Hy] at this
 obtain⟨b,off,_,hA,⟨AR,_,kR,AN,_,kN,rfl,rfl,rfl,_,_⟩,hro⟩:=hR.so.dev.aDb Kq;rw[hA] at k5
 have k4:=hro.at_ (j:=4) rfl
 simp only[Nat.zero_mul,Nat.add_zero] at k4;refine aM func291 ntmps291 ?_;refine aB ?_;refine bA fun g1=>?_;refine aB ?_;refine bX fun g7=>?_;refine aB ?_;refine mL ?_;refine jA ?_;refine tT (fun w1 t=>aCY g h f L s z w1 0 (hR.below (t.started (by simp)))) ?_;rw[hin];refine jA ?_;refine xH (dat 0 off) ?_;refine jB ?_;refine aB ?_;refine aG rfl (fun h1=>absurd h1 (by omega)) (fun _=>?_);refine aB ?_;refine mL ?_;refine jA ?_;refine xH (fZ 0 17 (ho:=rfl)) ?_;refine jB ?_;refine aB ?_;exact cY
variable(hp:(gH g h f s z).sat F w)(hF:∀b,F b→b < w.heap.size)
include hp hF
theorem aNd:Cz 47 #[pt g,iv 0] w (Wr (.tuple #[]) (gH g h f s (kE (kD z 0) 0 6 0)) w F):=by
 have hj:T3 0:=.inl rfl
 refine dJ func47 ntmps47 hp hF ?_;generalize cM:(⟨w,fun b=>b < w.heap.size∧¬F b⟩:Piece)=R0;refine mB 0 fun L=>?_;refine bF 0 0 ?_;refine aA ?_;refine fD rfl rfl ?_ (hs:=eN.mk 0 rfl cI.h rfl (of_decide_eq_true rfl));dsimp only[List.set];rw[show(kW h f L s z).set (0+49) (iv 0)=kW h f L s {z with eW:=0} from rfl];refine aA ?_;refine kd (fZ 0 10 (ho:=rfl)) ?_;refine aA ?_;refine fD rfl rfl ?_ (hs:=eN.mk 0 rfl cI.h rfl (by rw[aAI];omega));dsimp only[List.set];rw[show(kW h f L s {z with eW:=0}).set (10+0) (iv 2)=kW h f L s (kD z 0) from rfl];refine aN 0 0 ?_
 change XK _ _ _ _ _ [fN g h f L s (kD z 0)]
 refine aA ?_;refine kd (bN rfl (pP 0 rfl (zR (j:=0) (k:=1) hj rfl))) ?_;rw[show((kD z 0).tk 0).kind=114 from hk];refine aU (fun w1 _=>aAH 114 w1) ?_;rw[show Ob 114=.iface 240 (.agg #[.bool false]) from rfl];refine aA ?_;refine aFM 0 (fN g h f L s (kD z 0)) (f:=291) (by kernel_rfl) rfl (fun w=>by kernel_rfl) rfl rfl ⟨by decide,rfl⟩ (fun w1 F1 t h1 h2 h3=>(aNg g h f s (kD z 0) w1 d hk rI Aq Kq Bb Hy L (aCq h1 h2)).mono fun y w' hy=>aLN h1 h2 hy) ?_;dsimp only[List.set];refine fA 0 (fun L:dK=>fN g h f L s (kD z 0)) L ?_;refine aA ?_;refine kd (fY rfl) ?_;refine aA ?_;refine dR 0 (gH g h f s (kE (kD z 0) 0 6 0)) (fun w1 F1 t h1 h2 h3=>Jr g h f s (kD z 0) w1 F1 0 rfl hj 6 0 h1 h2) ?_;refine aA ?_;subst cM;exact kC 0 hF
theorem aMT(h1:z.t0.st=1)(hh:z.eW < 0):Cz 19 #[pt g,iv 0] w (fun v w'=>v=.returned (.tuple #[])∧∃F',(gH g h f s (kE (kD z 0) 0 6 0)).sat F' w'∧gX w w' F F'):=by
 refine aAc (vs:=[pt g,iv 0]) (p:=gH g h f s z) func19 rfl ntmps19 (by simp) hp hF ?_;generalize cM:(⟨w,fun b=>b < w.heap.size∧¬F b⟩:Piece)=R0;refine aA ?_;refine Uj (f:=46) (fi:=[]) (ca:=[]) rfl ?_;refine aA ?_;refine aU (fun w1 _=>Vi 0 w1) ?_;rw[show bB 3 0=true from rfl];refine aA ?_;refine mB 0 fun L=>?_;refine aA ?_;refine kd (fZ 0 10 (ho:=rfl)) ?_;refine aA ?_;refine kd (bN rfl (pP 0 rfl (zR (j:=0) (k:=0) (.inl rfl) rfl))) ?_;rw[show(z.tk 0).st=1 from h1];refine aA ?_;refine kd (bN rfl (pP 0 rfl rfl)) ?_;refine aA ?_;refine fA 0 (fun L:dK=>fN g h f L s z) L ?_;refine aG rfl (fun h2=>?_) (fun h2=>absurd hh h2);refine aA ?_;refine dR 0 (gH g h f s (kE (kD z 0) 0 6 0)) (fun w1 F1 t Yb Ya h3=>aNd g h f s z w1 F1 d hk rI Aq Kq Bb Hy Yb Ya) ?_;refine aA ?_;subst cM;exact Br (.inr rfl) (by kernel_rfl) Mm rfl fun w1 t=>⟨rfl,t.turns hF (by simp) (i:=0) rfl⟩
end
end
section
def yD:aD:=⟨[⟨111,[],1,0,0,0⟩],[⟨-1,0,false⟩],[0],[⟨0,0,0,0,[⟨0,false⟩],[]⟩]⟩
theorem aGy:yD.made:=by
 refine⟨?_,?_,by simp[yD],?_,by decide,by decide,by decide,by decide⟩
 ·exact(Fits.nil eF.fit).snoc ⟨by simp,.inl ⟨rfl,rfl,by decide,by decide,rfl,rfl,rfl⟩⟩
 ·exact(Fits.nil Dom.fit).snoc ⟨.inl rfl,by decide,by decide⟩
 ·exact(Fits.nil (bO.fit 1 1 1)).snoc ⟨by decide,by decide,by decide,by decide,by decide,by decide,by decide,by decide,by decide,by simp,by decide,by simp⟩
section
variable{N:cE}{w0 w:World}{e:Env}{R:List Piece}{H:List HP}
theorem aMm(st:St w0 R H w){i1 i2 i3 i4 i5 g1 g2 g3 g4 g5:Nat}(h1:H[i1]? =some (HP.aE g1 86 [.int .u8 111,sn,.int .u64 1,iv 0,iv 0,iv 0]))(h2:H[i2]? =some (HP.aE g2 50 [iv (-1),iv 0,.bool false]))(h3:H[i3]? =some (HP.aE g3 88 [iv 0]))(h5:H[i5]? =some (HP.aE g5 48 [.int .u32 0,.bool false]))(h4:H[i4]? =some (HP.aE g4 38 [iv 0,iv 0,iv 0,.int .u32 0,.slice (some ⟨g5,0,none⟩) 1 1,sn])):
  fL w yD (some ⟨g1,0,none⟩) 1 (some ⟨g2,0,none⟩) 1 (some ⟨g3,0,none⟩) 1 (some ⟨g4,0,none⟩) 1:=
 ⟨⟨[_],⟨rfl,⟨none,0,0,rfl,rfl,rfl,fun h=>absurd h (by omega)⟩,trivial⟩,rfl,st.rU h1 rfl⟩,⟨[_],⟨rfl,rfl,trivial⟩,rfl,st.rU h2 rfl⟩,⟨[_],⟨rfl,rfl,trivial⟩,rfl,st.rU h3 rfl⟩,⟨[_],⟨rfl,⟨some ⟨g5,0,none⟩,1,1,none,0,0,rfl,rfl,rfl,st.rU h5 rfl,rfl,fun h=>absurd h (by omega)⟩,trivial⟩,rfl,st.rU h4 rfl⟩,We aGy⟩
end
theorem aMp(w:World):Cz 8 #[] w (Rt (.bool true) w):=by
 refine aM func8 ntmps8 ?_;refine aB ?_;refine eK fun g1=>?_;refine aB ?_;refine eK fun g2=>?_;refine aB ?_;refine eK fun g3=>?_;refine aB ?_;refine eK fun g5=>?_;refine aB ?_;refine eK fun g4=>?_;refine aB ?_;refine bX fun g6=>?_;refine aB ?_;refine iA (aFv yD) (fun w1 t=>aGS yD _ _ _ _ 1 1 1 1 1 1 1 1 w1 (aMm t (i1:=5) (i2:=4) (i3:=3) (i4:=1) (i5:=2) rfl rfl rfl rfl rfl) aGy) ?_;rintro _ _ q2 ⟨gR,f,r,hL,pX,rfl,rfl,aW⟩ _;dsimp only[List.cons_append,List.nil_append];refine aB ?_;obtain⟨z1,mP,hk,rI,Aq,Hy,hst,hho⟩:∃z1,vK (Jq yD) 0 114 0 0 0=(0,z1)∧z1.t0.kind=114∧z1.t0.dev=0∧z1.t0.bY=0∧hG z1.t0 0=0∧z1.t0.st=1∧z1.eW < 0:=⟨_,rfl,rfl,rfl,rfl,rfl,rfl,by decide⟩
 refine dR 1 (gH r hL.h f yD z1) (fun w1 F1 t h1 h2 h3=>by
  have:=aGI r hL.h f yD (Jq yD) w1 F1 0 114 0 0 0 h1 h2
  rw[mP] at this
  exact this) ?_
 refine aB ?_;refine dR 1 (gH r hL.h f yD (kE (kD z1 0) 0 6 0)) (fun w1 F1 t h1 h2 h3=>aMT r hL.h f yD z1 w1 F1 _ hk rI Aq rfl (Nat.le_refl 1) Hy h1 h2 hst hho) ?_;refine aB ?_;refine dR 1 (gH r hL.h f yD (nM (kE (kD z1 0) 0 6 0) 0).2) (fun w1 F1 t h1 h2 h3=>aGJ r hL.h f yD (kE (kD z1 0) 0 6 0) w1 F1 0 h1 h2) ?_;rw[show(nM (kE (kD z1 0) 0 6 0) 0).1=(6,0,true) from rfl];refine aB ?_;refine bX fun g7=>?_;refine aB ?_;exact cY
end
section
structure pQ where
 op:Int
 task:Int
 kind:Int
 dev:Int
 bY:Int
 v:Int
 ag:Int
 pr:Int
 ms:Int
 id:Int
 aw:Int
 od:Int
def pQ.cells(a:pQ):List Value:=[iv a.op,iv a.task,iv a.kind,iv a.dev,iv a.bY,.int .u32 a.v,iv a.ag,iv a.pr,iv a.ms,iv a.id,iv a.aw,iv a.od]
def wK(a:Int):Prop:= -9223372036854775808≤a∧a≤9223372036854775807
structure pQ.ok(a:pQ):Prop where
 op:wK a.op
 task:wK a.task
 kind:wK a.kind
 dev:wK a.dev
 bY:wK a.bY
 v:0≤a.v∧a.v < 4294967296
 pr:wK a.pr
 ms:wK a.ms
 id:wK a.id
 aw:wK a.aw
 od:wK a.od
theorem pQ.len(a:pQ):a.cells.length=12:=rfl
end
section
def zV(c n:Int):Int:=(if c < 0 then 0 - (c+1) else c) % n
theorem Ql(c n:Int)(hn:0 < n):0≤zV c n∧zV c n < n:=⟨Int.emod_nonneg _ (by omega),Int.emod_lt_of_pos _ hn⟩
def Ke(r:Int):Int:=([103,103,103,112,112,114,119,114,119,115,109,109,120]:List Int).getD r.toNat 0
theorem aP8{r:Int}(h0:0≤r)(h1:r < 13):([.int .u8 103,.int .u8 103,.int .u8 103,.int .u8 112,.int .u8 112,.int .u8 114,.int .u8 119,.int .u8 114,.int .u8 119,.int .u8 115,.int .u8 109,.int .u8 109,.int .u8 120]:List Value)[r.toNat]? =some (.int .u8 (Ke r)):=by
 obtain⟨n,rfl⟩:∃n:Nat,r=(n:Int):=⟨r.toNat,by omega⟩
 have hn:n < 13:=by omega
 unfold Ke;rw[Int.toNat_natCast]
 match n,hn with
 | 0,_ | 1,_ | 2,_ | 3,_ | 4,_ | 5,_ | 6,_ | 7,_ | 8,_ | 9,_ | 10,_ | 11,_ | 12,_=>rfl
 | n+13,h=>omega
def aEN(a:pQ):Int:=Ke (zV a.kind 13)
def aBL(a:pQ)(many:Int):Int:=zV a.dev (many+1)
def aBK(a:pQ):Int:=zV a.bY 4
end
section
theorem aDm(c n:Int)(w:World)(hc:wK c)(hn:0 < n):Cz 11 #[iv c,iv n] w (Rt (iv (zV c n)) w):=by
 unfold wK at hc;refine aM func11 ntmps11 ?_;refine aB ?_;refine aG rfl (fun h=>?_) (fun h=>?_)
 ·refine aB ?_;refine kB (by simp) ?_;rw[zV,if_pos h]
 ·refine aB ?_;refine kB (by simp) ?_;rw[zV,if_neg h]
theorem aJJ(a:pQ)(many:Int)(w:World)(ha:a.ok)(hm:0≤many∧many≤1000):Cz 18 #[.agg a.cells.toArray,iv many] w (Rt (.agg #[.int .u8 (aEN a),iv (aBL a many),iv (aBK a),.int .u32 a.v]) w):=by
 obtain⟨a0,a1,a2,a3,a4,a5,b0,b1,b2,b3,b4,b5⟩:=a
 have h2:wK a2:=ha.kind
 have h3:wK a3:=ha.dev
 have h4:wK a4:=ha.bY
 obtain⟨p0,p1⟩:=Ql a2 13 (by decide)
 have hk:=aP8 p0 p1
 have q:=Ql a3 (many+1) (by omega)
 refine aM func18 ntmps18 ?_;refine aB ?_;refine bA fun g1=>?_;refine aB ?_;refine bX fun g2=>?_;refine aB ?_;refine eK fun g3=>?_;refine aB ?_;refine aAd ?_;refine aL 3 ?_;refine aU (fun w1 t=>aDm _ 13 w1 h2 (by decide)) ?_;refine bH ?_;refine Ox 4 ?_;refine Ox 5 ?_ (dH:=bN rfl (Rd.aE 0 rfl (by simpa using hk)));refine aL 10 ?_;refine aU (fun w1 t=>aDm _ (many+1) w1 h3 (by omega)) ?_;refine bH ?_;refine aL 13 ?_;refine aU (fun w1 t=>aDm _ 4 w1 h4 (by decide)) ?_;refine bH ?_;refine nB 16 ?_;refine aL 17 ?_;refine oL 1 rfl ?_;dsimp only[List.set];refine cT ?_;refine fE ?_;refine aB ?_;exact Lo (vs:=[.int .u8 (Ke (zV a2 13)),iv (zV a3 (many+1)),iv (zV a4 4),.int .u32 a5]) rfl (by kernel_rfl) rfl rfl (aQ.whole 1 rfl) fun w1 t=>⟨rfl,t.below (by simp)⟩
end
section
def Mc(cs:List eF)(rows:List (List Value))(p:Piece):Prop:=Rows (uB (fH p)) 6 cs rows
theorem Mc.le{cs:List eF}{rows:List (List Value)}(p q:Piece)(h:p.Le q)(k:Mc cs rows p):Mc cs rows q:=Rows.mono (fun _ _=>uB.mono (oB h)) k
def Mb(vs:List bO)(rows:List (List Value))(p:Piece):Prop:=Rows (tG (fH p)) 6 vs rows
theorem Mb.le{vs:List bO}{rows:List (List Value)}(p q:Piece)(h:p.Le q)(k:Mb vs rows p):Mb vs rows q:=Rows.mono (fun _ _=>tG.mono (oB h)) k
def zB(sz:Nat)(A:Option Addr)(n:Nat)(xs:List Value)(p:Piece):Prop:=aI p sz A n xs
theorem zB.le{sz n:Nat}{A:Option Addr}{xs:List Value}(p q:Piece)(h:p.Le q)(k:zB sz A n xs p):zB sz A n xs q:=aI.le k h
def sH(cs:List eF)(rows:List (List Value)):HP:=HP.bR (Mc cs rows) (Mc.le (cs:=cs) (rows:=rows))
def Gg(vs:List bO)(rows:List (List Value)):HP:=HP.bR (Mb vs rows) (Mb.le (vs:=vs) (rows:=rows))
section
variable{N:cE}{w0:World}{K:Act→World→Prop}{e:Env}{R:List Piece}{H:List HP}
theorem aKw{p:HP}(hp:∀w,p.sat (fun _=>False) w)(h:XK N w0 K e R (p::H)):XK N w0 K e R H:=fun a w hr st=>by
 obtain⟨Z,F,hz,cF,hs,dD,dY⟩:=st.ex;refine h a w hr ⟨st.os,st.tape,st.output,st.size,Z,fun i=>match i with | 0=>fun _=>False | i+1=>F i,hz,cF,fun i r hi=>?_,fun i b hb=>?_,fun i j b hij hi=>?_⟩
 ·cases i with
  | zero=>simp at hi;subst hi;exact hp w
  | succ i=>exact hs i r (by simpa using hi)
 ·cases i with
  | zero=>exact hb.elim
  | succ i=>exact dD i b hb
 ·cases i with
  | zero=>exact hi.elim
  | succ i=>cases j with
   | zero=>exact id
   | succ j=>exact dY i j b (by omega) hi
theorem aUp{cs:List eF}{rows:List (List Value)}{cl:eF}{A:Option Addr}{c:Nat}(h:XK N w0 K e R (sH (cs++[cl]) (rows++[[.int .u8 cl.kind,.slice A cl.src.length c,.int .u64 cl.rate,iv cl.mul,iv cl.div,iv cl.lock]])::H)):XK N w0 K e R (HP.own 3 1 (.slice A cl.src.length c) cl.src.length (aK cl.src)::sH cs rows::H):=
 Gn 0 (Φ:=zB 1 A cl.src.length (aK cl.src)) (hm:=zB.le) rfl (fun _ h=>h) (Tn (X:=Mc (cs++[cl]) (rows++[_])) (h3:=Mc.le) (fun p h1 h2=>h2.snoc rfl ⟨A,_,c,rfl,rfl,h1⟩) h)
theorem aUn{vs:List bO}{rows:List (List Value)}{d:bO}{A A':Option Addr}{c c':Nat}(h:XK N w0 K e R (Gg (vs++[d]) (rows++[[iv d.clock,iv d.domain,iv d.reset,.int .u32 d.iU,.slice A d.aO.length c,.slice A' d.iS.length c']])::H)):XK N w0 K e R (HP.own 48 2 (.slice A d.aO.length c) d.aO.length (d.aO.flatMap Rg.cells)::HP.own 3 1 (.slice A' d.iS.length c') d.iS.length (aK d.iS)::Gg vs rows::H):=
 Gn 0 (Φ:=zB 2 A d.aO.length (d.aO.flatMap Rg.cells)) (hm:=zB.le) rfl (fun _ h=>h) (Gn 1 (Φ:=zB 1 A' d.iS.length (aK d.iS)) (hm:=zB.le) rfl (fun _ h=>h) (Tn (X:=fun p=>zB 2 A d.aO.length (d.aO.flatMap Rg.cells) p∧zB 1 A' d.iS.length (aK d.iS) p) (h3:=fun p q hl h=>⟨zB.le p q hl h.1,zB.le p q hl h.2⟩) (fun p h1 h2=>⟨h1,h2⟩) (Tn (X:=Mb (vs++[d]) (rows++[_])) (h3:=Mb.le) (fun p h1 h2=>h2.snoc rfl ⟨A,_,c,A',_,c',rfl,rfl,rfl,h1.1,h1.2⟩) h)))
end
def aFA(v:Value)(hs:List HP)(_:Piece):Prop:=∃(s:aD) (A1 A2 A3 A4:Option Addr×Nat) (r1 r2 r3 r4:List (List Value)),v=.agg #[.slice A1.1 s.aF.length A1.2,.slice A2.1 s.domains.length A2.2,.slice A3.1 s.aR.length A3.2,.slice A4.1 s.aC.length A4.2]∧s.made∧Rows vD 3 s.domains r2∧Rows zC 1 s.aR r3∧
 hs=[HP.own 86 6 (.slice A1.1 s.aF.length A1.2) s.aF.length r1.flatten,sH s.aF r1,HP.own 50 3 (.slice A2.1 s.domains.length A2.2) s.domains.length r2.flatten,HP.own 88 1 (.slice A3.1 s.aR.length A3.2) s.aR.length r3.flatten,HP.own 38 6 (.slice A4.1 s.aC.length A4.2) s.aC.length r4.flatten,Gg s.aC r4]
theorem jD.tail{w:World}{p:HP}{hs:List HP}{q:Piece}(h:jD w (p::hs) q):jD w hs q:=by
 obtain⟨F,f1,f2,f3,f4⟩:=h;exact⟨fun i=>F (i+1),fun i r hi=>f1 (i+1) r (by simpa using hi),fun i=>f2 (i+1),fun i j b hij=>f3 (i+1) (j+1) b (by omega),f4⟩
theorem aFA.weak{w w':World}{v:Value}{hs:List HP}{q:Piece}(h:aFA v hs q)(hq:q.w=w')(hn:jD w hs q):∃cs s,v=.agg cs∧wH (fH (fresh w w')) s cs∧s.made:=by
 obtain⟨s,A1,A2,A3,A4,r1,r2,r3,r4,rfl,hm,h2,h3,rfl⟩:=h;obtain⟨F,f1,f2,_⟩:=hn;subst hq
 have hl:∀i,(⟨q.w,F i⟩:Piece).Le (fresh w q.w):=fun i b hb=>⟨⟨(f2 i b hb).1,(f2 i b hb).2.1⟩,rfl⟩
 have ho:∀{i:Nat} {t:TypeId} {sz n c:Nat} {A:Option Addr} {xs:List Value},(HP.own t sz (.slice A n c) n xs).sat (F i) q.w→aI (fresh w q.w) sz A n xs:=fun {i} _ _ _ _ _ _ hs=>(aI.own (q:=⟨q.w,F i⟩) ⟨F i,hs,fun _ h=>h⟩).le (hl i)
 exact⟨_,s,rfl,⟨A1.1,_,A1.2,A2.1,_,A2.2,A3.1,_,A3.2,A4.1,_,A4.2,rfl,⟨r1,Mc.le _ _ (hl 1) (f1 1 _ rfl),rfl,ho (f1 0 _ rfl)⟩,⟨r2,h2,rfl,ho (f1 2 _ rfl)⟩,⟨r3,h3,rfl,ho (f1 3 _ rfl)⟩,⟨r4,Mb.le _ _ (hl 5) (f1 5 _ rfl),rfl,ho (f1 4 _ rfl)⟩⟩,hm⟩
end
section
theorem aOg(c n:Int)(w:World)(hc: -9223372036854775808≤c∧c≤9223372036854775807)(hn:0 < n):
  Cz 11 #[iv c,iv n] w fun x w'=>(∃v,x=.returned v∧∃r:Int,v=iv r∧0≤r∧r < n)∧Below w.heap.size w w':=by
 refine aM func11 ntmps11 ?_;refine aB ?_;refine Lr (α:=Int) (fun c=>[(0,iv c),(1,iv n)]) (fun _=>[]) (fun c=>0≤c) ?_ fun c hc0=>?_
 ·refine aB ?_;refine aG rfl (fun h=>?_) (fun h=>?_)
  ·refine aB ?_;exact eI _
  ·refine aB ?_;exact eI _
 refine aB ?_;exact mZ rfl rfl fun w' st=>⟨⟨_,rfl,_,rfl,Int.emod_nonneg _ (by omega),Int.emod_lt_of_pos _ hn⟩,st.below (by simp)⟩
set_option maxRecDepth 100000 in
theorem aSY(A : Option Addr)(n c : Nat)(zs : List Int)(w : World)(h0 : aI (all w) 1 A n (aK zs))(hz : aCw zs)(hn : n = zs.length)(hn2 : n ≤ 9223372036854775807) :
    Cz 9 #[.slice A n c] w fun x w'=>(∃v hs q,x=.returned v∧q.w=w'∧(∃p hs',hs=p::hs'∧aFA v hs' q)∧jD w hs q)∧Below w.heap.size w w':=by
  refine aM func9 ntmps9 ?_;refine aB ?_;refine bX fun g1=>?_;refine aB ?_;refine lO 8 (n:=120) (el:=3) (z:=iv 0) (by kernel_rfl) (by kernel_rfl) rfl rfl rfl (by omega) (by omega) (by decide) fun g2=>?_;refine aB ?_;refine Dz (α:=List Int) (fun _=>[(4,.slice (some ⟨g2,0,none⟩) 120 120),(2,pt g1)]) (fun ds=>[HP.aE g2 3 (aK ds),HP.aE g1 30 [sn,sn,sn,sn]]) zH ?_ fun ds hd=>?_
  · refine qB (α:=List Int) (fun i _=>[(5,iv i),(4,.slice (some ⟨g2,0,none⟩) 120 120),(2,pt g1),(0,.slice A n c)]) (fun _ ds=>[HP.aE g2 3 (aK ds),HP.aE g1 30 [sn,sn,sn,sn]]) (fun _ ds=>zH ds) 120 (List.replicate 120 0) zH.zero fun k ds hk hd=>?_
    refine aB ?_;refine bQ (t:=23) rfl (fun hg=>?_) (fun hg=>?_)
    · refine aB ?_
      refine aG rfl (fun h=>?_) (fun h=>?_)
      · have hk2:k < 120:=by omega
        have hn0:0 < n:=by omega
        obtain⟨b,off,rfl,gA,hc⟩:=h0.2 hn0
        have hkb:=Io (k:Int) (n:=(n:Int)) (by omega)
        have hdb:0≤(k:Int) / (n:Int)∧(k:Int) / (n:Int)≤k:=⟨Int.ediv_nonneg (by omega) (by omega),Int.ediv_le_self _ (by omega)⟩
        have k0:fQ w b (off+((k:Int) % (n:Int)).toNat) (iv (zs[((k:Int) % (n:Int)).toNat]?.getD 0)):=⟨gA,hc _ _ (aDC zs _ (by omega))⟩
        have hyb:=aLY (z:=zs[((k:Int) % (n:Int)).toNat]?.getD 0) (d:=1+(k:Int) / (n:Int)) (lo:= -9223372036854775808) (hi:=9223372036854775807) (by omega) (by omega) (by omega) (hz _)
        refine aB ?_;refine qC ?_;refine aL 15 ?_;refine uR (fun v=>∃r:Int,v=iv r∧0≤r∧r < 1000000) (fun w1 st=>aOg _ _ w1 hyb (by omega)) fun v hv=>?_;obtain⟨r,rfl,Au,eH⟩:=hv;refine bH ?_;refine nQ [16,17] ?_;refine aB ?_;refine fD rfl rfl ?_ (hs:=eN.mk 0 rfl cI.h rfl (by simp[aK,hd.1];omega));dsimp only[List.set];rw[Wg];refine aB ?_;exact jJ _ (hg:=hd.mH k Au eH)
      · refine aB ?_
        exact eI _
    · refine aB ?_
      exact eI _
  refine aB ?_;refine eK fun g3=>?_;refine aB ?_;refine bX fun g4=>?_;refine aB ?_;refine Bv 1 6 1 rfl rfl (by omega) ?_;dsimp only[List.set];refine aKw (p:=sH [⟨111,[],1+dv ds 0 % 1000000,0,0,0⟩] [[.int .u8 111,sn,.int .u64 (1+dv ds 0 % 1000000),iv 0,iv 0,iv 0]]) (fun w=>⟨rfl,⟨none,0,0,rfl,rfl,rfl,fun h=>absurd h (by omega)⟩,trivial⟩) ?_;refine Dz (α:=(List eF×List (List Value))×(Option Addr×Nat)×Nat) (fun _=>[(6,pt g4),(4,.slice (some ⟨g2,0,none⟩) 120 120),(2,pt g1)]) (fun x=>[sH x.1.1 x.1.2,HP.own 86 6 (.slice x.2.1.1 x.2.2 x.2.1.2) x.2.2 x.1.2.flatten,HP.aE g4 30 [.slice x.2.1.1 x.2.2 x.2.1.2,sn,sn,sn],HP.aE g2 3 (aK ds),HP.aE g1 30 [sn,sn,sn,sn]]) (fun x=>x.1.1.length=x.2.2∧1≤x.2.2∧x.2.2≤9∧Fits eF.fit x.1.1) ?_ fun x hx=>?_
  · refine qB (α:=(List eF×List (List Value))×(Option Addr×Nat)×List Value) (fun i _=>[(8,iv i),(7,.string ⟨#[112,100,103,109,103]⟩),(6,pt g4),(4,.slice (some ⟨g2,0,none⟩) 120 120),(3,iv 1),(2,pt g1)]) (fun i x=>[sH x.1.1 x.1.2,HP.own 86 6 (.slice x.2.1.1 (i+1) x.2.1.2) (i+1) x.2.2,HP.aE g4 30 [.slice x.2.1.1 (i+1) x.2.1.2,sn,sn,sn],HP.aE g2 3 (aK ds),HP.aE g1 30 [sn,sn,sn,sn]]) (fun i x=>x.1.1.length=i+1∧i≤8∧Fits eF.fit x.1.1∧x.2.2=x.1.2.flatten) 9 (([⟨111,[],1+dv ds 0 % 1000000,0,0,0⟩],[[.int .u8 111,sn,.int .u64 (1+dv ds 0 % 1000000),iv 0,iv 0,iv 0]]),(_,_),_) ⟨rfl,by omega,(Fits.nil eF.fit).snoc ⟨by simp,.inl ⟨rfl,rfl,by dsimp only;omega,by dsimp only;omega,rfl,rfl,rfl⟩⟩,rfl⟩ fun i x hi hx=>?_
    obtain⟨⟨cs,rows⟩,⟨B,cB⟩,xs⟩:=x;dsimp only at hx⊢;obtain⟨iB,hi8,Nl,rfl⟩:=hx;refine aB ?_;refine aG rfl (fun h=>?_) (fun h=>?_)
    · obtain⟨kb,hkb,aQb⟩:=aP6 (q:=(dv ds (10+3*(i:Int)).toNat % 1000000 % 5).toNat) (by omega)
      have f0:=Io (dv ds ((10+3*(i:Int))+1).toNat % 1000000) (n:=((i+1:Nat):Int)) (by omega)
      refine aB ?_;refine Lr (α:=Nat×Nat) (fun x=>[(10,.pointer (some ⟨x.2,0,none⟩)),(9,iv (10+3*(i:Int))),(8,iv i),(7,.string ⟨#[112,100,103,109,103]⟩),(6,pt g4),(4,.slice (some ⟨g2,0,none⟩) 120 120),(3,iv 1),(2,pt g1)]) (fun x=>[HP.aE x.2 86 [.int .u8 kb.toNat,.slice (some ⟨x.1,0,none⟩) 1 1,.int .u64 0,iv 0,iv 0,iv 0],HP.aE x.1 3 [iv (dv ds ((10+3*(i:Int))+1).toNat % 1000000 % ((i+1:Nat):Int))],sH cs rows,HP.own 86 6 (.slice B (i+1) cB) (i+1) rows.flatten,HP.aE g4 30 [.slice B (i+1) cB,sn,sn,sn],HP.aE g2 3 (aK ds),HP.aE g1 30 [sn,sn,sn,sn]]) (fun _=>True) ?_ fun x _=>?_
      · refine qC ?_
        refine Ji 16 18 rfl rfl (by kernel_rfl) ?_ ?_
        · refine eK fun g5=>?_
          refine bH ?_;refine Ox 17 ?_;refine aL 18 ?_;refine bX fun g6=>?_;refine bH ?_;refine nQ [19] ?_;refine aB ?_;exact eI (_,_)
        · refine bX fun g6=>?_
          refine bH ?_;refine aL 16 ?_;refine eK fun g5=>?_;refine bH ?_;refine Ox 17 ?_;refine nQ [19] ?_;refine aDA ?_;refine oL 1 rfl ?_;dsimp only[List.set];refine aB ?_;exact eI (_,_)
      obtain⟨g5,g6⟩:=x;dsimp only
      have f1:=Io (dv ds ((10+3*(i:Int))+2).toNat % 1000000) (n:=((i+1:Nat):Int)) (by omega)
      refine Bv 1 1 1 rfl rfl (by omega) ?_;dsimp only[List.set];refine aB ?_;refine Dz (α:=eF×(Option Addr×Nat)) (fun _=>[(10,pt g6),(8,iv i),(7,.string ⟨#[112,100,103,109,103]⟩),(6,pt g4),(4,.slice (some ⟨g2,0,none⟩) 120 120),(3,iv 1),(2,pt g1)]) (fun x=>[HP.aE g6 86 [.int .u8 x.1.kind,.slice x.2.1 x.1.src.length x.2.2,.int .u64 x.1.rate,iv x.1.mul,iv x.1.div,iv x.1.lock],HP.own 3 1 (.slice x.2.1 x.1.src.length x.2.2) x.1.src.length (aK x.1.src),sH cs rows,HP.own 86 6 (.slice B (i+1) cB) (i+1) rows.flatten,HP.aE g4 30 [.slice B (i+1) cB,sn,sn,sn],HP.aE g2 3 (aK ds),HP.aE g1 30 [sn,sn,sn,sn]]) (fun x=>x.1.fit (i+1)) ?_ fun x hx=>?_
      · refine aG rfl (fun h1=>?_) (fun h1=>?_)
        · refine aB ?_
          exact eI (⟨_,[dv ds ((10+3*(i:Int))+1).toNat % 1000000 % ((i+1:Nat):Int)],_,_,_,_⟩,_,_) (hg:=⟨(fun f hf=>by rcases List.mem_singleton.1 hf with rfl;exact f0),.inr (.inl ⟨h1,rfl,rfl,by dsimp only;omega,by dsimp only;omega,by dsimp only;omega,by dsimp only;omega,by dsimp only;omega,by dsimp only;omega⟩)⟩)
        refine aB ?_;refine aG rfl (fun h2=>?_) (fun h2=>?_)
        · refine aB ?_
          exact eI (⟨_,[dv ds ((10+3*(i:Int))+1).toNat % 1000000 % ((i+1:Nat):Int)],_,_,_,_⟩,_,_) (hg:=⟨(fun f hf=>by rcases List.mem_singleton.1 hf with rfl;exact f0),.inr (.inr (.inl ⟨h2,rfl,rfl,rfl,by dsimp only;omega,by dsimp only;omega,rfl⟩))⟩)
        refine aB ?_;refine aG rfl (fun h3=>?_) (fun h3=>?_)
        · refine qC ?_
          refine aL 11 ?_;refine eK fun g7=>?_;refine bH ?_;refine nQ [12,13,14] ?_;refine aB ?_;refine sY 2 fun A' k'=>?_;dsimp only[List.set];refine aB ?_;exact eI (⟨_,[dv ds ((10+3*(i:Int))+1).toNat % 1000000 % ((i+1:Nat):Int),dv ds ((10+3*(i:Int))+2).toNat % 1000000 % ((i+1:Nat):Int)],_,_,_,_⟩,_,_) (hg:=⟨(fun f hf=>by simp only[List.mem_cons,List.not_mem_nil,or_false] at hf;rcases hf with rfl | rfl;exact f0;exact f1),.inr (.inr (.inr (.inr ⟨h3,rfl,rfl,rfl,rfl,rfl⟩)))⟩)
        · refine aB ?_
          exact eI (⟨_,[dv ds ((10+3*(i:Int))+1).toNat % 1000000 % ((i+1:Nat):Int)],_,_,_,_⟩,_,_) (hg:=⟨(fun f hf=>by rcases List.mem_singleton.1 hf with rfl;exact f0),.inr (.inr (.inr (.inl ⟨by rcases aQb with h | h | h | h<;>simp_all,rfl,rfl,rfl,rfl,rfl⟩)))⟩)
      obtain⟨cl,Af,cf⟩:=x;dsimp only at hx⊢;refine aB ?_;refine eK fun g7=>?_;refine aB ?_;refine sY 4 fun A' k'=>?_;dsimp only[List.set];refine aB ?_;refine aY [2,3,4,5,6,7] rfl (by decide) (fun _ h=>h) ?_;refine aUp ?_;exact jJ ((_,_),(_,_),_) (hg:=⟨by simp[iB],by omega,Nl.snoc (by rw[iB];exact hx),by simp⟩)
    · refine aB ?_
      exact eI ((_,_),(_,_),_) (hg:=⟨iB,Nat.succ_pos i,Nat.succ_le_succ hi8,Nl⟩)
  obtain⟨⟨cs,rows⟩,⟨B,cB⟩,nc⟩:=x;dsimp only at hx⊢;obtain⟨iB,Xs,hc9,Nl⟩:=hx;refine aB ?_;refine iN 50 3 ?_;refine Dz (α:=(List Dom×List (List Value))×(Option Addr×Nat)×Nat) (fun _=>[(6,pt g4),(4,.slice (some ⟨g2,0,none⟩) 120 120),(2,pt g1)]) (fun x=>[HP.own 50 3 (.slice x.2.1.1 x.2.2 x.2.1.2) x.2.2 x.1.2.flatten,sH cs rows,HP.own 86 6 (.slice B nc cB) nc rows.flatten,HP.aE g4 30 [.slice B nc cB,.slice x.2.1.1 x.2.2 x.2.1.2,sn,sn],HP.aE g2 3 (aK ds),HP.aE g1 30 [sn,sn,sn,sn]]) (fun x=>x.1.1.length=x.2.2∧1≤x.2.2∧x.2.2≤4∧Fits Dom.fit x.1.1∧Rows vD 3 x.1.1 x.1.2) ?_ fun x hx=>?_
  · refine qB (α:=(List Dom×List (List Value))×(Option Addr×Nat)×List Value) (fun i _=>[(11,iv i),(6,pt g4),(4,.slice (some ⟨g2,0,none⟩) 120 120),(2,pt g1)]) (fun i x=>[HP.own 50 3 (.slice x.2.1.1 i x.2.1.2) i x.2.2,sH cs rows,HP.own 86 6 (.slice B nc cB) nc rows.flatten,HP.aE g4 30 [.slice B nc cB,.slice x.2.1.1 i x.2.1.2,sn,sn],HP.aE g2 3 (aK ds),HP.aE g1 30 [sn,sn,sn,sn]]) (fun i x=>x.1.1.length=i∧Fits Dom.fit x.1.1∧Rows vD 3 x.1.1 x.1.2∧x.2.2=x.1.2.flatten) 4 (([],[]),(none,0),[]) ⟨rfl,Fits.nil _,trivial,rfl⟩ fun i x hi hx=>?_
    obtain⟨⟨dm,Bi⟩,⟨D,cD⟩,xs⟩:=x;dsimp only at hx⊢;obtain⟨iY,hdf,Bb,rfl⟩:=hx;refine aB ?_;refine aG rfl (fun h=>?_) (fun h=>?_)
    · refine aB ?_
      refine qC ?_;refine aL 15 ?_;refine bX fun g5=>?_;refine bH ?_;refine nQ [16] ?_;refine aDA ?_;refine oL 0 rfl ?_;dsimp only[List.set];refine aHT ?_;refine gT ?_;refine Tr (α:=Int) (fun _=>[(12,pt g5),(11,iv i),(6,pt g4),(4,.slice (some ⟨g2,0,none⟩) 120 120),(2,pt g1)]) (fun v=>[HP.aE g5 50 [iv v,iv (dv ds (40+(i:Int)).toNat % 4),.bool (decide (dv ds (40+(i:Int)).toNat % 1000000 / 4 % 2=1))],HP.own 50 3 (.slice D i cD) i Bi.flatten,sH cs rows,HP.own 86 6 (.slice B nc cB) nc rows.flatten,HP.aE g4 30 [.slice B nc cB,.slice D i cD,sn,sn],HP.aE g2 3 (aK ds),HP.aE g1 30 [sn,sn,sn,sn]]) (fun v=>v= -1∨(0≤v∧v < i)) ?_ fun v hv=>?_
      · refine aB ?_
        refine bQ (t:=172) rfl (fun hg=>?_) (fun hg=>?_)
        · have f2:=Io (dv ds (44+(i:Int)).toNat % 1000000 / 3) (n:=(i:Int)) hg
          refine aB ?_;refine aG rfl (fun h3=>?_) (fun h3=>?_)
          · refine aB ?_
            exact eI _ (hg:=.inr f2)
          · refine aB ?_
            exact eI _ (hg:=.inl rfl)
        · refine aB ?_
          exact eI _ (hg:=.inl rfl)
      refine aB ?_;refine eK fun g7=>?_;refine aB ?_;refine sY 2 fun A' k'=>?_;dsimp only[List.set];refine aB ?_;exact jJ ((dm++[⟨v,dv ds (40+(i:Int)).toNat % 4,decide (dv ds (40+(i:Int)).toNat % 1000000 / 4 % 2=1)⟩],Bi++[_]),(_,_),_) (hg:=⟨by simp[iY],hdf.snoc ⟨by rw[iY];exact hv,by dsimp only;omega,by dsimp only;omega⟩,Bb.snoc rfl rfl,by simp⟩)
    · refine aB ?_
      exact eI ((_,_),(_,_),_) (hg:=⟨iY,by show 1≤i;omega,hi,hdf,Bb⟩)
  obtain⟨⟨dm,Bi⟩,⟨D,cD⟩,nd⟩:=x;dsimp only at hx⊢;obtain⟨iY,dF,hd4,hdf,Bb⟩:=hx;refine aB ?_;refine iN 88 1 ?_;refine Dz (α:=(List Int×List (List Value))×(Option Addr×Nat)×Nat) (fun _=>[(6,pt g4),(4,.slice (some ⟨g2,0,none⟩) 120 120),(2,pt g1)]) (fun x=>[HP.own 88 1 (.slice x.2.1.1 x.2.2 x.2.1.2) x.2.2 x.1.2.flatten,HP.own 50 3 (.slice D nd cD) nd Bi.flatten,sH cs rows,HP.own 86 6 (.slice B nc cB) nc rows.flatten,HP.aE g4 30 [.slice B nc cB,.slice D nd cD,.slice x.2.1.1 x.2.2 x.2.1.2,sn],HP.aE g2 3 (aK ds),HP.aE g1 30 [sn,sn,sn,sn]]) (fun x=>x.1.1.length=x.2.2∧1≤x.2.2∧x.2.2≤3∧(∀r∈x.1.1,0≤r∧r≤3)∧Rows zC 1 x.1.1 x.1.2) ?_ fun x hx=>?_
  · refine qB (α:=(List Int×List (List Value))×(Option Addr×Nat)×List Value) (fun i _=>[(13,iv i),(6,pt g4),(4,.slice (some ⟨g2,0,none⟩) 120 120),(2,pt g1)]) (fun i x=>[HP.own 88 1 (.slice x.2.1.1 i x.2.1.2) i x.2.2,HP.own 50 3 (.slice D nd cD) nd Bi.flatten,sH cs rows,HP.own 86 6 (.slice B nc cB) nc rows.flatten,HP.aE g4 30 [.slice B nc cB,.slice D nd cD,.slice x.2.1.1 i x.2.1.2,sn],HP.aE g2 3 (aK ds),HP.aE g1 30 [sn,sn,sn,sn]]) (fun i x=>x.1.1.length=i∧(∀r∈x.1.1,0≤r∧r≤3)∧Rows zC 1 x.1.1 x.1.2∧x.2.2=x.1.2.flatten) 3 (([],[]),(none,0),[]) ⟨rfl,by simp,trivial,rfl⟩ fun i x hi hx=>?_
    obtain⟨⟨rs,rrs⟩,⟨L,cL⟩,xs⟩:=x;dsimp only at hx⊢;obtain⟨hrl,yJ,cF,rfl⟩:=hx;refine aB ?_;refine aG rfl (fun h=>?_) (fun h=>?_)
    · refine aB ?_
      refine qC ?_;refine aL 9 ?_;refine eK fun g7=>?_;refine bH ?_;refine nQ [10,11,12] ?_;refine aB ?_;refine sY 1 fun A' k'=>?_;dsimp only[List.set];refine aB ?_
      exact jJ ((rs++[dv ds (50+(i:Int)).toNat % 4],rrs++[_]),(_,_),_) (hg:=⟨by simp[hrl],(fun r hr=>by
        rcases List.mem_append.1 hr with hr | hr
        · exact yJ r hr
        · rcases List.mem_singleton.1 hr with rfl
          omega),cF.snoc rfl rfl,by simp⟩)
    · refine aB ?_
      exact eI ((_,_),(_,_),_) (hg:=⟨hrl,by show 1≤i;omega,hi,yJ,cF⟩)
  obtain⟨⟨rs,rrs⟩,⟨L,cL⟩,nr⟩:=x;dsimp only at hx⊢;obtain⟨hrl,eH,yK,yJ,cF⟩:=hx;refine aB ?_;refine iN 38 6 ?_;refine aKw (p:=Gg [] []) (fun w=>trivial) ?_;refine Dz (α:=(List bO×List (List Value))×(Option Addr×Nat)×Nat) (fun _=>[(6,pt g4),(4,.slice (some ⟨g2,0,none⟩) 120 120),(2,pt g1)]) (fun x=>[Gg x.1.1 x.1.2,HP.own 38 6 (.slice x.2.1.1 x.2.2 x.2.1.2) x.2.2 x.1.2.flatten,HP.own 88 1 (.slice L nr cL) nr rrs.flatten,HP.own 50 3 (.slice D nd cD) nd Bi.flatten,sH cs rows,HP.own 86 6 (.slice B nc cB) nc rows.flatten,HP.aE g4 30 [.slice B nc cB,.slice D nd cD,.slice L nr cL,.slice x.2.1.1 x.2.2 x.2.1.2],HP.aE g2 3 (aK ds),HP.aE g1 30 [sn,sn,sn,sn]]) (fun x=>x.1.1.length=x.2.2∧1≤x.2.2∧x.2.2≤4∧Fits (bO.fit nc nd nr) x.1.1) ?_ fun x hx=>?_
  · refine qB (α := (List bO × List (List Value)) × (Option Addr × Nat) × List Value) (fun i _ => [(14, iv i), (6, pt g4), (4, .slice (some ⟨g2, 0, none⟩) 120 120), (2, pt g1)]) (fun i x => [Gg x.1.1 x.1.2, HP.own 38 6 (.slice x.2.1.1 i x.2.1.2) i x.2.2, HP.own 88 1 (.slice L nr cL) nr rrs.flatten, HP.own 50 3 (.slice D nd cD) nd Bi.flatten, sH cs rows, HP.own 86 6 (.slice B nc cB) nc rows.flatten, HP.aE g4 30 [.slice B nc cB, .slice D nd cD, .slice L nr cL, .slice x.2.1.1 i x.2.1.2], HP.aE g2 3 (aK ds), HP.aE g1 30 [sn, sn, sn, sn]]) (fun i x => x.1.1.length = i ∧ Fits (bO.fit nc nd nr) x.1.1 ∧ x.2.2 = x.1.2.flatten) 4 (([], []), (none, 0), []) ⟨rfl, Fits.nil _, rfl⟩ fun i x hi hx => ?_
    obtain⟨⟨vs,r4⟩,⟨V,cV⟩,xs⟩:=x;dsimp only at hx⊢;obtain⟨hvl,hvf,rfl⟩:=hx;refine aB ?_;refine aG rfl (fun h=>?_) (fun h=>?_)
    · have q0 := Io (dv ds (60 + 12 * (i : Int)).toNat % 1000000) (n := (nc : Int)) (by omega)
      have q1:=Io (dv ds (60+12*(i:Int)+1).toNat % 1000000) (n:=(nd:Int)) (by omega)
      have q2:=Io (dv ds (60+12*(i:Int)+2).toNat % 1000000) (n:=(nr:Int)) (by omega)
      refine aB ?_;refine qC ?_;refine aL 34 ?_;refine bX fun g5=>?_;refine bH ?_;refine nQ [35] ?_;refine aB ?_;refine iN 48 2 ?_;refine Dz (α:=List Rg×(Option Addr×Nat)×Nat) (fun _=>[(16,pt g5),(15,iv (60+12*(i:Int))),(14,iv i),(6,pt g4),(4,.slice (some ⟨g2,0,none⟩) 120 120),(2,pt g1)]) (fun x=>[HP.own 48 2 (.slice x.2.1.1 x.2.2 x.2.1.2) x.2.2 (x.1.flatMap Rg.cells),HP.aE g5 38 [iv (dv ds (60+12*(i:Int)).toNat % 1000000 % (nc:Int)),iv (dv ds (60+12*(i:Int)+1).toNat % 1000000 % (nd:Int)),iv (dv ds (60+12*(i:Int)+2).toNat % 1000000 % (nr:Int)),.int .u32 (dv ds (60+12*(i:Int)+3).toNat % 1000000 % 3),.slice x.2.1.1 x.2.2 x.2.1.2,sn],Gg vs r4,HP.own 38 6 (.slice V i cV) i r4.flatten,HP.own 88 1 (.slice L nr cL) nr rrs.flatten,HP.own 50 3 (.slice D nd cD) nd Bi.flatten,sH cs rows,HP.own 86 6 (.slice B nc cB) nc rows.flatten,HP.aE g4 30 [.slice B nc cB,.slice D nd cD,.slice L nr cL,.slice V i cV],HP.aE g2 3 (aK ds),HP.aE g1 30 [sn,sn,sn,sn]]) (fun x=>x.1.length=x.2.2∧x.2.2≤4∧∀r∈x.1,0≤r.reset∧r.reset≤6) ?_ fun x hx=>?_
      · refine qB (α:=List Rg×(Option Addr×Nat)×List Value) (fun j _=>[(17,iv j),(16,pt g5),(15,iv (60+12*(i:Int))),(14,iv i),(6,pt g4),(4,.slice (some ⟨g2,0,none⟩) 120 120),(2,pt g1)]) (fun j x=>[HP.own 48 2 (.slice x.2.1.1 j x.2.1.2) j x.2.2,HP.aE g5 38 [iv (dv ds (60+12*(i:Int)).toNat % 1000000 % (nc:Int)),iv (dv ds (60+12*(i:Int)+1).toNat % 1000000 % (nd:Int)),iv (dv ds (60+12*(i:Int)+2).toNat % 1000000 % (nr:Int)),.int .u32 (dv ds (60+12*(i:Int)+3).toNat % 1000000 % 3),.slice x.2.1.1 j x.2.1.2,sn],Gg vs r4,HP.own 38 6 (.slice V i cV) i r4.flatten,HP.own 88 1 (.slice L nr cL) nr rrs.flatten,HP.own 50 3 (.slice D nd cD) nd Bi.flatten,sH cs rows,HP.own 86 6 (.slice B nc cB) nc rows.flatten,HP.aE g4 30 [.slice B nc cB,.slice D nd cD,.slice L nr cL,.slice V i cV],HP.aE g2 3 (aK ds),HP.aE g1 30 [sn,sn,sn,sn]]) (fun j x=>x.1.length=j∧(∀r∈x.1,0≤r.reset∧r.reset≤6)∧x.2.2=x.1.flatMap Rg.cells) 4 ([],(none,0),[]) ⟨rfl,by simp,rfl⟩ fun j x hj hx=>?_
        obtain⟨rg,⟨W,cW⟩,xs⟩:=x;dsimp only at hx⊢;obtain⟨kL,hgf,rfl⟩:=hx;refine aB ?_;refine aG rfl (fun h5=>?_) (fun h5=>?_)
        · refine aB ?_
          refine qC ?_;refine aL 22 ?_;refine eK fun g7=>?_;refine bH ?_;refine nQ [23,24,25] ?_;refine aB ?_;refine sY 1 fun A' k'=>?_;dsimp only[List.set];refine aB ?_
          exact jJ (rg++[⟨dv ds (60+12*(i:Int)+5+(j:Int)).toNat % 1000000 % 7,decide (dv ds (60+12*(i:Int)+5+(j:Int)).toNat % 1000000 / 7 % 2=0)⟩],(_,_),_) (hg:=⟨by simp[kL],(fun r hr=>by
            rcases List.mem_append.1 hr with hr | hr
            · exact hgf r hr
            · rcases List.mem_singleton.1 hr with rfl
              dsimp only
              omega),by simp[Rg.cells]⟩)
        · refine aB ?_
          exact eI (_,(_,_),_) (hg:=⟨kL,hj,hgf⟩)
      obtain⟨rg,⟨W,cW⟩,ng⟩:=x;dsimp only at hx⊢;obtain⟨rfl,hg4,hgf⟩:=hx;refine iN 3 1 ?_;refine Tr (α:=(List Int×List Value)×(Option Addr×Nat)×Nat) (fun _=>[(16,pt g5),(15,iv (60+12*(i:Int))),(14,iv i),(6,pt g4),(4,.slice (some ⟨g2,0,none⟩) 120 120),(2,pt g1)]) (fun x=>[HP.own 3 1 (.slice x.2.1.1 x.2.2 x.2.1.2) x.2.2 x.1.2,HP.own 48 2 (.slice W rg.length cW) rg.length (rg.flatMap Rg.cells),HP.aE g5 38 [iv (dv ds (60+12*(i:Int)).toNat % 1000000 % (nc:Int)),iv (dv ds (60+12*(i:Int)+1).toNat % 1000000 % (nd:Int)),iv (dv ds (60+12*(i:Int)+2).toNat % 1000000 % (nr:Int)),.int .u32 (dv ds (60+12*(i:Int)+3).toNat % 1000000 % 3),.slice W rg.length cW,.slice x.2.1.1 x.2.2 x.2.1.2],Gg vs r4,HP.own 38 6 (.slice V i cV) i r4.flatten,HP.own 88 1 (.slice L nr cL) nr rrs.flatten,HP.own 50 3 (.slice D nd cD) nd Bi.flatten,sH cs rows,HP.own 86 6 (.slice B nc cB) nc rows.flatten,HP.aE g4 30 [.slice B nc cB,.slice D nd cD,.slice L nr cL,.slice V i cV],HP.aE g2 3 (aK ds),HP.aE g1 30 [sn,sn,sn,sn]]) (fun x=>x.1.1.length=x.2.2∧x.2.2≤1∧x.1.2=aK x.1.1∧∀f∈x.1.1,0≤f∧f < i) ?_ fun x hx=>?_
      · refine aB ?_
        refine bQ (t:=300) rfl (fun hg=>?_) (fun hg=>?_)
        · have f2:=Io (dv ds (60+12*(i:Int)+10).toNat % 1000000) (n:=(i:Int)) hg
          refine aB ?_;refine aG rfl (fun h3=>?_) (fun h3=>?_)
          · refine qC ?_
            refine aL 9 ?_;refine eK fun g7=>?_;refine bH ?_;refine nQ [10,11,12] ?_;refine aB ?_;refine sY 1 fun A' k'=>?_;dsimp only[List.set];refine aB ?_;exact eI (([_],_),(_,_),_) (hg:=⟨rfl,Nat.le_refl _,rfl,fun f hf=>by rcases List.mem_singleton.1 hf with rfl;exact f2⟩)
          · refine aB ?_
            exact eI (([],_),(_,_),_) (hg:=⟨rfl,Nat.zero_le _,rfl,by simp⟩)
        · refine aB ?_
          exact eI (([],_),(_,_),_) (hg:=⟨rfl,Nat.zero_le _,rfl,by simp⟩)
      obtain⟨⟨ns,xs⟩,⟨U,cU⟩,nn⟩:=x;dsimp only at hx⊢;obtain⟨gB,pJ,rfl,hnf⟩:=hx;refine Tr (α:=(List Int×List Value)×(Option Addr×Nat)×Nat) (fun _=>[(16,pt g5),(15,iv (60+12*(i:Int))),(14,iv i),(6,pt g4),(4,.slice (some ⟨g2,0,none⟩) 120 120),(2,pt g1)]) (fun x=>[HP.own 3 1 (.slice x.2.1.1 x.2.2 x.2.1.2) x.2.2 x.1.2,HP.own 48 2 (.slice W rg.length cW) rg.length (rg.flatMap Rg.cells),HP.aE g5 38 [iv (dv ds (60+12*(i:Int)).toNat % 1000000 % (nc:Int)),iv (dv ds (60+12*(i:Int)+1).toNat % 1000000 % (nd:Int)),iv (dv ds (60+12*(i:Int)+2).toNat % 1000000 % (nr:Int)),.int .u32 (dv ds (60+12*(i:Int)+3).toNat % 1000000 % 3),.slice W rg.length cW,.slice x.2.1.1 x.2.2 x.2.1.2],Gg vs r4,HP.own 38 6 (.slice V i cV) i r4.flatten,HP.own 88 1 (.slice L nr cL) nr rrs.flatten,HP.own 50 3 (.slice D nd cD) nd Bi.flatten,sH cs rows,HP.own 86 6 (.slice B nc cB) nc rows.flatten,HP.aE g4 30 [.slice B nc cB,.slice D nd cD,.slice L nr cL,.slice V i cV],HP.aE g2 3 (aK ds),HP.aE g1 30 [sn,sn,sn,sn]]) (fun x=>x.1.1.length=x.2.2∧x.2.2≤2∧x.1.2=aK x.1.1∧∀f∈x.1.1,0≤f∧f < i) ?_ fun x hx=>?_
      · refine aB ?_
        refine bQ (t:=323) rfl (fun hg=>?_) (fun hg=>?_)
        · have f2:=Io (dv ds (60+12*(i:Int)+11).toNat % 1000000 / 3) (n:=(i:Int)) (by omega)
          refine aB ?_;refine aG rfl (fun h3=>?_) (fun h3=>?_)
          · refine qC ?_
            refine aL 10 ?_;refine eK fun g7=>?_;refine bH ?_;refine nQ [11,12,13] ?_;refine aB ?_;refine sY 1 fun A' k'=>?_;dsimp only[List.set];refine aB ?_
            exact eI ((ns++[dv ds (60+12*(i:Int)+11).toNat % 1000000 / 3 % (i:Int)],_),(_,_),_) (hg:=⟨by simp[gB],by show nn+1≤2;omega,by simp[aK],fun f hf=>by
              rcases List.mem_append.1 hf with hf | hf
              · exact hnf f hf
              · rcases List.mem_singleton.1 hf with rfl
                exact f2⟩)
          · refine aB ?_
            exact eI ((_,_),(_,_),_) (hg:=⟨gB,Nat.le_succ_of_le pJ,rfl,hnf⟩)
        · refine aB ?_
          exact eI ((_,_),(_,_),_) (hg:=⟨gB,Nat.le_succ_of_le pJ,rfl,hnf⟩)
      obtain⟨⟨ns,xs⟩,⟨U,cU⟩,nn⟩:=x;dsimp only at hx⊢;obtain⟨rfl,hn2,rfl,hnf⟩:=hx;refine aB ?_;refine eK fun g7=>?_;refine aB ?_;refine sY 5 fun A' k'=>?_;dsimp only[List.set];refine aB ?_;refine aY [2,1,4,5,6,7,8,9,10,11,12] rfl (by decide) (fun _ h=>h) ?_;refine aUn (d:=⟨dv ds (60+12*(i:Int)).toNat % 1000000 % (nc:Int),dv ds (60+12*(i:Int)+1).toNat % 1000000 % (nd:Int),dv ds (60+12*(i:Int)+2).toNat % 1000000 % (nr:Int),dv ds (60+12*(i:Int)+3).toNat % 1000000 % 3,rg,ns⟩) ?_;exact jJ ((_,_),(_,_),_) (hg:=⟨by simp[hvl],hvf.snoc ⟨q0.1,q0.2,q1.1,q1.2,q2.1,q2.2,by dsimp only;omega,by dsimp only;omega,hg4,hgf,hn2,by rw[hvl];exact hnf⟩,by simp⟩)
    · refine aB ?_
      exact eI ((_,_),(_,_),_) (hg:=⟨hvl,by show 1≤i;omega,hi,hvf⟩)
  obtain⟨⟨vs,r4⟩,⟨V,cV⟩,nv⟩:=x;dsimp only at hx⊢;obtain⟨rfl,Mz,hv4,hvf⟩:=hx;subst iB;subst iY;subst hrl;refine aB ?_;refine oL 8 rfl ?_;dsimp only[List.set];refine aB ?_;refine aY [8,5,4,3,2,1,0] rfl (by decide) (fun _ h=>h) ?_;refine dP [] [] [0,1,2,3,4,5,6] (by simp) rfl (by decide) (by decide) fun q _ _ hfr=>?_;exact Lo rfl (by kernel_rfl) rfl rfl (aQ.whole 0 rfl) fun w1 t=>⟨⟨_,_,⟨w1,q.Z⟩,rfl,rfl,⟨_,_,rfl,⟨⟨cs,dm,rs,vs⟩,(B,cB),(D,cD),(L,cL),(V,cV),rows,Bi,rrs,r4,rfl,⟨Nl,hdf,yJ,hvf,⟨Xs,hc9⟩,⟨dF,hd4⟩,⟨eH,yK⟩,⟨Mz,hv4⟩⟩,Bb,cF,rfl⟩⟩,t.newR (by simp) (by simp) (hfr (by simp) (by simp))⟩,t.below (by simp)⟩
theorem aSZ(A:Option Addr)(n c:Nat)(zs:List Int)(w:World)(h0:aI (all w) 1 A n (aK zs))(hz:aCw zs)(hn:n=zs.length)(hn2:n≤9223372036854775807):
  Cz 9 #[.slice A n c] w fun x w'=>(∃v,x=.returned v∧∃cs s,v=.agg cs∧wH (fH (fresh w w')) s cs∧s.made)∧Below w.heap.size w w':=
 (aSY A n c zs w h0 hz hn hn2).mono fun x w' ⟨⟨v,hs,q,h1,h2,⟨p,hs',h3,h4⟩,h5⟩,h6⟩=>⟨⟨v,h1,h4.weak h2 (by subst h3;exact h5.tail)⟩,h6⟩
end
section
section
variable{s:aD}{n:Nat}{m:dN}
end
theorem aTX{Bn:List pQ}{i k:Nat}{a:pQ}{v:Value}(h:Bn[i]? =some a)(hv:a.cells[k]? =some v):(Bn.flatMap pQ.cells)[i*12+k]? =some v:=by
 have hk:k < 12:=by
  have:=(List.getElem?_eq_some_iff.1 hv).1
  rwa [pQ.len] at this
 exact(Nx pQ.cells 12 Bn (fun _ _=>rfl) i k a h hk).trans hv
section
variable{g f:Nat}{hL:HL}{s:aD}{n:Nat}{m:dN}{w:World}{F:Nat→Prop}
theorem aPg{t k d r v e:Int}{z':aV}(hs:vK m.z t k d r v=(e,z'))(hp:(jV g f hL s m).sat F w)(hF:∀b,F b→b < w.heap.size):
  Cz 17 #[pt g,iv t,.agg #[.int .u8 k,iv d,iv r,.int .u32 v]] w (Wr (iv e) (jV g f hL s ⟨z',m.y,m.x⟩) w F):=by
 have:=aPh g f hL s m w F t k d r v hp hF
 unfold dN.start at this;rw[hs] at this;exact this
theorem fB.aGu(h:fB s n m){t k d r v e:Int}{z':aV}(hs:vK m.z t k d r v=(e,z'))(hv:0≤v∧v < 4294967296):fB s n ⟨z',m.y,m.x⟩:=by
 have:=h.start t k d r v hv
 unfold dN.start at this;rw[hs] at this;exact this
theorem aAX{t e v:Int}{b:Bool}{z':aV}(hs:nM m.z t=((e,v,b),z'))(hp:(jV g f hL s m).sat F w)(hF:∀b,F b→b < w.heap.size):
  Cz 23 #[pt g,iv t] w (Wr (.tuple #[.agg #[iv e,.int .u32 v],.bool b]) (jV g f hL s ⟨z',m.y,m.x⟩) w F):=by
 have:=aPk g f hL s m w F t hp hF
 unfold dN.done at this;rw[hs] at this;exact this
theorem fB.aJg(h:fB s n m){t e v:Int}{b:Bool}{z':aV}(hs:nM m.z t=((e,v,b),z')):fB s n ⟨z',m.y,m.x⟩:=by
 have:=h.done t
 unfold dN.done at this;rw[hs] at this;exact this
end
end
section
def dN.qJ(s:aD)(t:Int)(m:dN):dN:=((m.step s t).eY s).tick s 0
def sK(s:aD)(t:Int):Nat→dN→Int→Int→dN→Prop
 | 0,_,_,_,_=>False
 | N + 1, m, e, u, m' =>
  (∃z,nM (m.step s t).z t=((e,u,true),z)∧m'=⟨z,(m.step s t).y,(m.step s t).x⟩)∨
  (nM (m.step s t).z t=((0,0,false),(m.step s t).z)∧
   ((∃z,nM (m.qJ s t).z t=((e,u,true),z)∧m'=⟨z,(m.qJ s t).y,(m.qJ s t).x⟩)∨(nM (m.qJ s t).z t=((0,0,false),(m.qJ s t).z)∧sK s t N (m.qJ s t) e u m')))
theorem fB.qJ{s:aD}{n:Nat}{m:dN}(hm:s.made)(h:fB s n m)(t:Int):fB s (n+1) (m.qJ s t):=((h.step hm t).eY hm).tick hm 0
def aKC(hL:HL)(f r:Nat)(X:Value):List Value:=[pt hL.h,pt f,pt r,X]
def aFt(g r f:Nat)(hL:HL)(X:Value)(s:aD)(m:dN):HP:=HP.many [HP.aE g 58 (aKC hL f r X),jV r f hL s m]
theorem aMw(g r f:Nat)(hL:HL)(X:Value)(s:aD)(n N:Nat)(m m':dN)(t:Nat)(k d q v e u:Int)(z1:aV)(w:World)(F:Nat→Prop)(hm:s.made)(aW:iO hL s)(hok:fB s n m)(hn:n+1500≤1000000000)(hN:N≤1500)(hv:0≤v∧v < 4294967296)
  (hs:vK m.z t k d q v=(0,z1)) (hrun:sK s t N ⟨z1,m.y,m.x⟩ e u m') (fC:kQ ⟨w,fun b=>b < w.heap.size∧¬F b⟩) (hp:(aFt g r f hL X s m).sat F w) (hF:∀b,F b→b < w.heap.size):
  Cz 12 #[pt g,iv t,.agg #[.int .u8 k,iv d,iv q,.int .u32 v]] w (Wr (.tuple #[.agg #[iv e,.int .u32 u],.bool true]) (aFt g r f hL X s m') w F):=by
 refine dJ func12 ntmps12 hp hF ?_;refine aB ?_;refine bA fun g5=>?_;refine bX fun g6=>?_;refine aB ?_;refine bF 2 0 ?_;refine bF 3 1 ?_
 have Ni:=hok.aGu hs hv
 refine Ou [1,2,3,5] ?_;refine bT 0 ?_ (hsub:=fun _ h=>h.cS);refine aJ 1 ?_ (hsub:=fun _ h=>h.cS);refine aJ 2 ?_ (hsub:=fun _ h=>h.cS);refine aJ 3 ?_ (hsub:=fun _ h=>h.cS);refine bT 4 ?_ (hsub:=fun _ h=>h.cS);refine aJ 5 ?_ (hsub:=fun _ h=>h.cS);refine aL 6 ?_;refine dR 0 (jV r f hL s ⟨z1,m.y,m.x⟩) (fun w1 F1 t h1 h2 h3=>aPg hs h1 h2) ?_;refine bH ?_ (hS:=fun _ h=>h.cS);refine nQ [7] ?_;refine aB ?_;refine qB (α:=dN) (fun i _=>[(8,iv i),(7,.bool false),(6,pt g6),(1,iv t),(0,pt g)]) (fun _ m=>[jV r f hL s m,HP.aE g 58 (aKC hL f r X),HP.aE g6 42 [iv 0,.int .u32 0],HP.many [cJ,cJ]]) (fun i m=>fB s (n+i) m∧∃N,i+N≤1500∧sK s t N m e u m') 1500 ⟨z1,m.y,m.x⟩ ⟨Ni,N,by omega,hrun⟩ fun i m hi hx=>?_;obtain⟨hok,N,hiN,hrun⟩:=hx;cases N with
 | zero=>exact hrun.elim
 | succ N =>
  refine aB ?_;refine aG rfl (fun hlt=>?_) (fun hge=>absurd (by omega) hge);refine aB ?_;refine dR 0 (jV r f hL s (m.step s t)) (fun w1 F1 t' h1 h2 h3=>aPf r f hL s (n+i) m w1 F1 hm aW hok (by omega) t h1 h2 (kQ.le fC (h3 _ (by simp)))) ?_
  have mR:=hok.step hm t
  refine aB ?_;rcases hrun with⟨z,hd,rfl⟩ | ⟨hd,Da⟩
  ·refine dR 0 (jV r f hL s ⟨z,(m.step s t).y,(m.step s t).x⟩) (fun w1 F1 t' h1 h2 h3=>aAX hd h1 h2) ?_;refine aB ?_;refine bX fun g9=>?_;refine aB ?_;refine aY [1,2,4,3] rfl (by decide) (fun _ h=>h) ?_;refine aN 1 1 ?_;refine aN 0 0 ?_;exact xJ (vs:=[iv e,.int .u32 u]) rfl (by kernel_rfl) rfl rfl (aQ.whole 1 rfl) rfl fun w1 t=>⟨rfl,t.turns hF (by simp) (i:=0) rfl⟩
  refine dR 0 (jV r f hL s (m.step s t)) (fun w1 F1 t' h1 h2 h3=>aAX hd h1 h2) ?_;refine aB ?_;refine bX fun g9=>?_;refine aB ?_;refine dR 1 (jV r f hL s ((m.step s t).eY s)) (fun w1 F1 t' h1 h2 h3=>aPj r f hL s (n+i+1) (m.step s t) w1 F1 hm aW mR h1 h2 (kQ.le fC (h3 _ (by simp)))) ?_
  have Kl:=mR.eY hm
  have lX:=Kl.hw.dv
  have Ft:(oX s ((m.step s t).eY s).x 0).2.length≤1000:=Nat.le_trans (aEU (s:=s) (x:=((m.step s t).eY s).x) s.aC.length) (by have:=hm.nv;omega)
  refine aB ?_;refine aY [1,2,3,4] rfl (by decide) (fun _ h=>h) ?_;refine Ou [1,2,3,5,6,7] ?_;refine bT 0 ?_ (hsub:=fun _ h=>h.cS);refine aJ 1 ?_ (hsub:=fun _ h=>h.cS);refine aJ 2 ?_ (hsub:=fun _ h=>h.cS);refine aJ 3 ?_ (hsub:=fun _ h=>h.cS);refine bT 4 ?_ (hsub:=fun _ h=>h.cS);refine aJ 5 ?_ (hsub:=fun _ h=>h.cS);refine aJ 6 ?_ (hsub:=fun _ h=>h.cS);refine aJ 7 ?_ (hsub:=fun _ h=>h.cS);refine aL 8 ?_;refine xR (α:=Option Addr×Nat) 0 (f:=22) (fi:=[]) (ca:=[]) (fun a=>.slice a.1 (oX s ((m.step s t).eY s).x 0).2.length a.2) (fun a=>aFo r f hL s ⟨((m.step s t).eY s).z,((m.step s t).eY s).y,(oX s ((m.step s t).eY s).x 0).1⟩ (oX s ((m.step s t).eY s).x 0).2 a) (fun _=>True) (by kernel_rfl) rfl rfl rfl (by decide) (fun w1 F1 t' h1 h2 h3=>by simpa using aPe r f hL s (n+i+1) ((m.step s t).eY s) w1 F1 hm aW Kl 0 (by decide) h1 h2) fun aa _=>?_;dsimp only[List.set];refine bH ?_ (hS:=fun _ h=>h.cS);refine aL 9 ?_;refine dR 0 (jV r f hL s (m.qJ s t)) (fun w1 F1 t' h1 h2 h3=>aPm r f hL s ⟨((m.step s t).eY s).z,((m.step s t).eY s).y,(oX s ((m.step s t).eY s).x 0).1⟩ w1 F1 Kl.sQ _ Ft aa h1 h2) ?_;refine bH ?_ (hS:=fun _ h=>h.cS);refine fE ?_
  have aPW:fB s (n+i+1) (m.qJ s t):=Kl.tick hm 0
  refine aB ?_;rcases Da with⟨z,hd',rfl⟩ | ⟨hd',hrun⟩
  ·refine dR 0 (jV r f hL s ⟨z,(m.qJ s t).y,(m.qJ s t).x⟩) (fun w1 F1 t' h1 h2 h3=>aAX hd' h1 h2) ?_;refine aB ?_;refine bX fun g9=>?_;refine aB ?_;refine aY [1,2,4,3] rfl (by decide) (fun _ h=>h) ?_;refine aN 1 1 ?_;refine aN 0 0 ?_;exact xJ (vs:=[iv e,.int .u32 u]) rfl (by kernel_rfl) rfl rfl (aQ.whole 1 rfl) rfl fun w1 t=>⟨rfl,t.turns hF (by simp) (i:=0) rfl⟩
  refine dR 0 (jV r f hL s (m.qJ s t)) (fun w1 F1 t' h1 h2 h3=>aAX hd' h1 h2) ?_;refine aB ?_;refine bX fun g9=>?_;refine aB ?_;exact jJ (m.qJ s t) (hg:=⟨aPW,N,by omega,hrun⟩)
end
section
section
variable{s:aD}{X:bM}{x:aP}
theorem aS5{x y:bM}{wt:List Int}{ag:Nat}{l:List Int}(h:∀i:Nat,(wt[i]?).getD 0≤0):jI s x y wt ag l=jI s x y [] ag l:=by
 unfold jI;rw[aEO (fun i _=>by unfold Dv;rw[show decide (0 < (wt[i]?).getD 0)=false from decide_eq_false (by have:=h i;omega)];rfl),aBM]
theorem aLA(h:∀i,iQ x.wt i=0)(i:Nat):((mF s x)[i]?).getD 0≤0:=by
 unfold mF;rw[List.getElem?_map];cases(List.range s.aC.length)[i]? with
 | none=>simp
 | some j=>simp[h j]
theorem Ef.stp{p:dB}(h:Ef s X p):Pa p∧(p.msg=4∨p.msg=7):=by
 rcases h with⟨i,rfl,_⟩ | ⟨i,rfl,_⟩ | ⟨i,rfl,_⟩ | ⟨i,rfl,_⟩ | ⟨i,rfl,_⟩<;>simp[Pa]
theorem Ef.msg(hm:s.made){p:dB}(hg:Ef s X p)(hi:Inv s X none none none x){k l k0 i0:Int}(h0:0≤k)(h1:k < 1024)(hl:l=0∨l=1):
  ∃(N:Nat) (k' i':Int) (x':aP),N≤9∧Tw s N (Cg s X l k0 i0 (qH p k)) x [(qH p k).headD 0,IntKind.u32.wrap 0] (rQ s (gQ X p) 0 k' i') x'∧Inv s (gQ X p) none none none x':=by
 have vX:=hg.goes hm hi.of
 obtain⟨hsp,aPZ⟩:=hg.stp;obtain⟨e1,e2,e3,e4,e5⟩:=aEa hsp h0 h1;obtain⟨f1,f2,f3,f4,f5⟩:=aEa hsp (k:=0) (by decide) (by decide)
 have hd:aFz p.msg p.pr k:=⟨e1,by unfold uF;rw[e2];rfl,by unfold Fz;rw[e2,e4];rfl,by unfold eE;rw[e2,e5];rfl,by unfold eM;rw[e2,e3];rfl,e2,e5,e3⟩
 have hf:aFz p.msg p.pr 0:=⟨f1,by unfold uF;rw[f2];rfl,by unfold Fz;rw[f2,f4];rfl,by unfold eE;rw[f2,f5];rfl,by unfold eM;rw[f2,f3];rfl,f2,f5,f3⟩
 have hp:Plain (qH p k):=aO5 hd aPZ vX.id vX.v
 have hread:eA s (qH p k)=eA s [(eB p.msg 0 p.pr 0).1,p.id,p.v]:=by
  unfold eA qH;dsimp only;rw[hd.un,hd.ty,hd.pr,hd.ms,hf.un,hf.ty,hf.pr,hf.ms]
 have aEc:jI s X (dQ s) (mF s x) 0 (qH p k)=(0,uP p,p.id):=by
  rw[aS5 (aLA hi.wt),←vX.dec];unfold jI;rw[hread];rfl
 obtain⟨N,x',hN,hr,hi',hk⟩:=hg.run hm hi
 have hX:(jZ X 0 (uP p) p.id).of s:=by rw[vX.done];exact hi'.of
 cases N with
 | zero=>exact hr.elim
 | succ n=>
  have h2:=aGz hm (X:=jZ X 0 (uP p) p.id) hX hp hk _ hr
  rw[vX.done] at h2;refine⟨n+1,uP p,p.id,x',hN,aMv hm hi.of hp hl hi.ok aEc vX.kind hk ?_,hi'⟩;rw[vX.done];exact h2
end
section
variable{s:aD}{j:Nat}{z:aV}{x:aP}{y:bZ}
theorem aH0(h:∀i,iQ x.wt i=0)(i:Nat):(x.wt[i]?).join=none:=by
 have:=h i
 unfold iQ at this;cases hq:(x.wt[i]?).join with
 | none=>rfl
 | some t=>rw[hq] at this;simp at this
theorem aLQ(h:∀i,iQ x.wt i=0):oX s x 0=(iL s x 0,[]):=by
 unfold oX;rw[aBT _ fun k _=>aH0 h k]
theorem aHN(h:∀i,iQ x.wt i=0):(dN.mk z y x).tick s 0=⟨z,y,iL s x 0⟩:=by
 unfold dN.tick;dsimp only;rw[aLQ h];rfl
theorem aGV{X:bM}{l k i:Int}(hl:l=0∨l=1):lD s x (rQ s X l k i)=(rQ s X l k i,x):=by
 have hn:sW (rQ s X l k i)=none:=by rcases hl with rfl | rfl<;>rfl
 have ht:mV s x (rQ s X l k i)=(rQ s X l k i,false):=by unfold mV;rw[hn]
 unfold lD;dsimp only;rw[ht,if_pos ⟨by show(-1:Int) < 0;decide,rfl⟩]
def rW(z:aV)(j:Nat)(k:Int):aV:={z.jQ j {z.tk j with st:=0,kind:=0,dev:=0,bY:=0,val:=0,err:=0,res:=0} with eW:= -1,steps:=[],sent:=false,aS:=false,many:=k}
structure Po(z:aV)(j:Nat):Prop where
 t3:T3 j
 eW:z.eW=(j:Int)
 st:(z.tk j).st=2
 po:z.aS=false
def lP(z:aV)(L:List dB)(b:Bool)(k:Int):aV:={z with steps:=L,sent:=b,many:=k}
theorem aFZ(L:List dB)(b:Bool)(k:Int):(lP z L b k).tk j=z.tk j:=by
 unfold lP aV.tk;split<;>rfl
theorem aA1(hj:T3 j)(L:List dB)(b:Bool)(k e r:Int):nM (kE (lP z L b k) j e r) j=((e,r,true),rW z j k):=by
 rcases hj with rfl | rfl | rfl<;>rfl
theorem Mf(h:Po z j)(L:List dB)(b:Bool)(k:Int):nM (lP z L b k) j=((0,0,false),lP z L b k):=by
 unfold nM;rw[if_neg (by rcases h.t3 with rfl | rfl | rfl<;>decide),Int.toNat_natCast,aFZ,h.st,if_pos (by decide)]
theorem aCC(h:Po z j)(L:List dB)(b:Bool)(k:Int):(dN.mk (lP z L b k) y x).step s j=⟨(qS (lP z L b k) y j).1,(qS (lP z L b k) y j).2,x⟩:=by
 unfold dN.step Ew;dsimp only;rw[if_neg (by rcases h.t3 with rfl | rfl | rfl<;>decide),Int.toNat_natCast,aFZ,h.st,if_neg (by decide),if_pos rfl,if_pos (show(lP z L b k).aS=false from h.po)]
theorem sK.mono{t:Int}:∀{N N':Nat} {m m':dN} {e u:Int},sK s t N m e u m'→N≤N'→sK s t N' m e u m'
 | 0,_,_,_,_,_,h,_=>h.elim
 | _+1,0,_,_,_,_,_,hN=>absurd hN (by omega)
 | N+1,N'+1,_,_,_,_,h,hN=>by
  rcases h with h | ⟨h1,h | ⟨h2,h3⟩⟩
  ·exact .inl h
  ·exact .inr ⟨h1,.inl h⟩
  ·exact .inr ⟨h1,.inr ⟨h2,h3.mono (by omega)⟩⟩
theorem aCU(h:Po z j){L:List dB}{k:Int}{a:List Int}{z':bZ}{x':aP}{B:Nat}{e u:Int}{m':dN}(aHX:∀i,iQ x'.wt i=0)(xA:∀y',oZ y' 0=some a→oY y' 0=z'→sK s j B ⟨lP z L true k,y',iL s x' 0⟩ e u m'):
  ∀(N:Nat) {m:dN} {y:bZ} {x:aP},m.step s j=⟨lP z L true k,y,x⟩→Tw s N y x a z' x'→sK s j (N+B) m e u m'
 | 0,_,_,_,_,hr=>hr.elim
 | N + 1, m, y, x, hs, ⟨_, hr⟩ => by
  have hrnd:∀i,(∀i,iQ (lD s x y).2.wt i=0)→m.qJ s j=i→i=⟨lP z L true k,(lD s x y).1,iL s (lD s x y).2 0⟩:=fun i hw hi=>by
   rw[←hi];unfold dN.qJ;rw[hs];exact aHN hw
  rw[show N+1+B=(N+B)+1 by omega];refine .inr ⟨by rw[hs];exact Mf h _ _ _,.inr ?_⟩;rcases hr with⟨h1,h2,h3⟩ | ⟨h1,_,h2,h3⟩
  ·have hh:=(xA _ h1 h2.symm).mono (show B≤N+B by omega)
   rw[hrnd _ (h3▸aHX) rfl];exact⟨Mf h _ _ _,by rw[←h3];exact hh⟩
  ·rw[hrnd _ h2 rfl];refine⟨Mf h _ _ _,aCU h aHX xA N ?_ h3⟩;rw[aCC h];unfold qS;rw[if_pos (show(lP z L true k).sent=true from rfl),h1]
def aCx(s:aD):bM→List dB→Prop
 | _,[]=>True
 | X,p::r=>Ef s X p∧aCx s (gQ X p) r
theorem aIE:∀(L:List dB) (X:bM),(∀k p,L[k]? =some p→Ef s ((L.take k).foldl gQ X) p)→aCx s X L
 | [],_,_=>trivial
 | p::r,X,h=>⟨h 0 p rfl,aIE r _ fun k q hq=>h (k+1) q hq⟩
theorem aGo(h:Po z j){p:dB}{L:List dB}{k v:Int}{y1:bZ}(hy:oZ y 0=some [v,IntKind.u32.wrap 0])(hz:oY y 0=y1):
  (dN.mk (lP z (p::L) true k) y x).step s j=⟨if L.length=0 then kE (lP z L false k) j 0 0 else lP z L false k,y1,x⟩:=by
 have ht:sP (lP z (p::L) true k) [v,IntKind.u32.wrap 0]=lP z L false k:=by
  unfold sP;rw[if_pos (.inl (by rw[List.getD_cons_succ,List.getD_cons_zero];decide))];rfl
 rw[aCC h];unfold qS;rw[if_pos (show(lP z (p::L) true k).sent=true from rfl),hy];dsimp only;rw[ht,hz];rfl
theorem aG7(h:Po z j){p:dB}{L:List dB}{X:bM}{k l k0 i0:Int}:(dN.mk (lP z (p::L) false k) (rQ s X l k0 i0) x).step s j=⟨lP z (p::L) true ((k+1) % 1024),Cg s X l k0 i0 (qH p k),x⟩:=by
 rw[aCC h];unfold qS;rw[if_neg (show ¬(lP z (p::L) false k).sent=true by simp[lP])]
 show(⟨(if(oF (rQ s X l k0 i0) 0 (qH p k)).1=0 then _ else _:aV×bZ).1,_,x⟩:dN)=_
 rw[aLe];rfl
theorem aAJ{m:dN}{X:bM}{l k0 i0:Int}(hl:l=0∨l=1)(hw:∀i,iQ x.wt i=0)(hs:m.step s j=⟨z,rQ s X l k0 i0,x⟩):m.qJ s j=⟨z,rQ s X l k0 i0,iL s x 0⟩:=by
 unfold dN.qJ;rw[hs];unfold dN.eY;dsimp only;rw[aGV hl];exact aHN hw
theorem aMe(hm:s.made)(h:Po z j):∀(L:List dB) (p:dB) (X:bM) (k l k0 i0:Int) (x:aP),aCx s X (p::L)→Inv s X none none none x→0≤k→k < 1024→(l=0∨l=1)→
  ∃(k' k1 i1:Int) (x':aP),sK s j (10*(L.length+1)) ⟨lP z (p::L) false k,rQ s X l k0 i0,x⟩ 0 0 ⟨rW z j k',rQ s ((p::L).foldl gQ X) 0 k1 i1,x'⟩∧Inv s ((p::L).foldl gQ X) none none none x'∧0≤k'∧k' < 1024:=by
 intro L
 induction L with
 | nil=>
  intro p X k l k0 i0 x hg hi h0 h1 hl;obtain⟨N,k1,i1,x1,hN,hr,hi1⟩:=hg.1.msg hm hi (k0:=k0) (i0:=i0) h0 h1 hl;refine⟨(k+1) % 1024,k1,i1,iL s x1 0,(aCU h (B:=1) hi1.wt (fun y' hy hz=>?_) N (aG7 h) hr).mono (show N+1≤10*(([]:List dB).length+1) by simp;omega),hi1.tick hm,by omega,by omega⟩
  have hst:=aGo (s:=s) (x:=iL s x1 0) h (p:=p) (L:=[]) (k:=(k+1) % 1024) hy hz
  exact .inl ⟨rW z j ((k+1) % 1024),by rw[hst];exact aA1 h.t3 _ _ _ _ _,by rw[hst];rfl⟩
 | cons q L ih =>
  intro p X k l k0 i0 x hg hi h0 h1 hl;obtain⟨N,k1,i1,x1,hN,hr,hi1⟩:=hg.1.msg hm hi (k0:=k0) (i0:=i0) h0 h1 hl
  have hi2:=hi1.tick hm
  obtain⟨k',k2,i2,x',r1,r2,r3,r4⟩:=ih q (gQ X p) ((k+1) % 1024) 0 k1 i1 (iL s (iL s x1 0) 0) hg.2 (hi2.tick hm) (by omega) (by omega) (.inl rfl);refine⟨k',k2,i2,x',(aCU h (B:=1+10*(L.length+1)) hi1.wt (fun y' hy hz=>?_) N (aG7 h) hr).mono (by simp only[List.length_cons];omega),r2,r3,r4⟩
  have hst:=aGo (s:=s) (x:=iL s x1 0) h (p:=p) (L:=q::L) (k:=(k+1) % 1024) hy hz
  rw[if_neg (by simp)] at hst;rw[Nat.add_comm];refine .inr ⟨by rw[hst];exact Mf h _ _ _,.inr ⟨?_,?_⟩⟩
  ·rw[aAJ (.inl rfl) hi2.wt hst];exact Mf h _ _ _
  ·rw[aAJ (.inl rfl) hi2.wt hst];exact r1
end
end
section
structure qV(s:aD)(m:dN):Prop where
 tk:∀j,T3 j→(m.z.tk j).st=0
 eW:m.z.eW= -1
 steps:m.z.steps=[]
 sent:m.z.sent=false
 po:m.z.aS=false
 y:∃l k i:Int,(l=0∨l=1)∧m.y=rQ s m.z.wn l k i
 inv:Inv s m.z.wn none none none m.x
 cl:m.z.wn.cl s
 many:0≤m.z.many∧m.z.many < 1024
 wd:m.z.wn.d=(eT s (dV s m.z.cn)).d
 wc:m.z.wn.c=(eT s (dV s m.z.cn)).c
 wl:∀i,hasB (eT s (dV s m.z.cn)).l i=true→hasB m.z.wn.l i=true
section
variable{s:aD}{m:dN}{j:Nat}{k d q v:Int}
theorem aO1(a b:List Bool)(n:Nat):(vN a b n).length=b.length:=by simp[vN]
theorem aHx{a b:List Bool}{n i:Nat}(hb:b.length=n)(hi:i < n):hasB (vN a b n) i=(hasB b i||hasB a i):=by
 unfold vN;rw[Dk,List.getElem?_mapIdx,Dk b,List.getElem?_eq_getElem (show i < b.length by omega)];simp[hi]
theorem aCH(hm:s.made)(z:aV):(kT s z).cl s:=by
 have h:=aGc hm (dV s z.cn) s.aC.length
 exact⟨⟨h.of.d,h.of.c,by show(vN _ _ _).length=_;rw[aO1];exact h.of.l⟩,h.up,h.ch,h.sw⟩
theorem aL6(z:aV)(hz:z.wn.of s)(i:Nat)(h:hasB z.wn.l i=true):hasB (kT s z).l i=true:=by
 have hi:=Sb h
 rw[hz.l] at hi
 show hasB (vN _ _ _) i=true
 rw[aHx (b:=(eT s (dV s z.cn)).l) (Er s _ _).l hi,h];simp
theorem aL4(z:aV)(i:Nat)(h:hasB (eT s (dV s z.cn)).l i=true):hasB (kT s z).l i=true:=by
 have hi:=Sb h
 have hl:(eT s (dV s z.cn)).l.length=s.aR.length:=(Er s _ _).l
 rw[hl] at hi
 show hasB (vN _ _ _) i=true
 rw[aHx hl hi,h];rfl
def oQ(z:aV)(j:Nat)(k d q v:Int):aV:=z.jQ j {z.tk j with st:=1,kind:=k,dev:=d,bY:=q,val:=v}
theorem aGt(h:qV s m)(hj:T3 j)(hk:pF k):vK m.z j k d q v=(0,oQ m.z j k d q v):=by
 unfold vK;rw[if_neg (by rcases hj with rfl | rfl | rfl<;>decide),Int.toNat_natCast,h.tk j hj,if_neg (by decide),if_neg (fun hn=>hn hk)];rfl
def eS(z:aV)(j:Nat)(k d q v:Int):aV:=kD (oQ z j k d q v) j
theorem aC0(hj:T3 j)(z:aV):(eS z j k d q v).tk j={z.tk j with st:=2,kind:=k,dev:=d,bY:=q,val:=v}:=by
 rcases hj with rfl | rfl | rfl<;>rfl
theorem aBR(h:qV s m)(hj:T3 j):(dN.mk (oQ m.z j k d q v) m.y m.x).step s j=⟨(pN s m.x (oQ m.z j k d q v) j).1,m.y,(pN s m.x (oQ m.z j k d q v) j).2⟩:=by
 have hst:((oQ m.z j k d q v).tk j).st=1:=by rcases hj with rfl | rfl | rfl<;>rfl
 unfold dN.step Ew;dsimp only;rw[if_neg (by rcases hj with rfl | rfl | rfl<;>decide),Int.toNat_natCast,hst,if_pos rfl,if_pos (show(oQ m.z j k d q v).eW < 0 by show m.z.eW < 0;rw[h.eW];decide)]
theorem aMC(h:qV s m)(hj:T3 j){e:Int}(he:e≠0)(hr:qR s m.x (eS m.z j k d q v) j k=(e,eS m.z j k d q v,m.x)):
  sK s j 1 ⟨oQ m.z j k d q v,m.y,m.x⟩ e 0 ⟨rW (eS m.z j k d q v) j m.z.many,m.y,m.x⟩:=by
 have hk:((oQ m.z j k d q v).tk j).kind=k:=by rcases hj with rfl | rfl | rfl<;>rfl
 have hb:pN s m.x (oQ m.z j k d q v) j=(kE (eS m.z j k d q v) j e 0,m.x):=by
  unfold pN;dsimp only;rw[hk,show kD (oQ m.z j k d q v) j=eS m.z j k d q v from rfl,hr,if_pos he]
 have hw:eS m.z j k d q v=lP (eS m.z j k d q v) (eS m.z j k d q v).steps (eS m.z j k d q v).sent m.z.many:=rfl
 refine .inl ⟨rW (eS m.z j k d q v) j m.z.many,?_,?_⟩
 ·rw[aBR h hj,hb];dsimp only;rw[hw];exact aA1 hj _ _ _ _ _
 ·rw[aBR h hj,hb]
theorem aM2(hm:s.made)(h:qV s m)(hj:T3 j){z2:aV}(hr:qR s m.x (eS m.z j k d q v) j k=(0,lQ s z2,m.x))(hwn:z2.wn=m.z.wn)(lV:z2.aS=false)(aBp:z2.many=m.z.many)(aDW:z2.eW=(j:Int))(hst:(z2.tk j).st=2):
  ∃(k' l' k1 i1:Int) (x':aP),sK s j 400 ⟨oQ m.z j k d q v,m.y,m.x⟩ 0 0 ⟨rW (lQ s z2) j k',rQ s (kT s z2) l' k1 i1,x'⟩∧(l'=0∨l'=1)∧Inv s (kT s z2) none none none x'∧0≤k'∧k' < 1024:=by
 have hk:((oQ m.z j k d q v).tk j).kind=k:=by rcases hj with rfl | rfl | rfl<;>rfl
 obtain⟨l,k0,i0,hl,hy⟩:=h.y
 have hL:(allM s z2.wn (kT s z2)).foldl gQ m.z.wn=kT s z2:=by
  rw[hwn];exact aRj h.cl.of (aCH hm z2).of
 have aPL:(lQ s z2).steps=allM s z2.wn (kT s z2):=rfl
 have Nq:=aBR (k:=k) (d:=d) (q:=q) (v:=v) h hj
 have hb:pN s m.x (oQ m.z j k d q v) j=if(allM s z2.wn (kT s z2)).length=0 then(kE (lQ s z2) j 0 0,m.x) else(lQ s z2,m.x):=by
  unfold pN;dsimp only;rw[hk,show kD (oQ m.z j k d q v) j=eS m.z j k d q v from rfl,hr,if_neg (by simp)];dsimp only;rw[aPL]
  by_cases h0:(allM s z2.wn (kT s z2)).length=0
  ·rw[if_pos h0,if_pos ⟨lV,h0⟩]
  ·rw[if_neg h0,if_neg (fun hh=>h0 hh.2)]
 have fK:Po (lQ s z2) j:=⟨hj,aDW,by
  have:(lQ s z2).tk j=z2.tk j:=by rcases hj with rfl | rfl | rfl<;>rfl
  rw[this];exact hst,lV⟩
 cases hc:allM s z2.wn (kT s z2) with
 | nil =>
  rw[hc] at hb hL;rw[if_pos (show([]:List dB).length=0 from rfl)] at hb
  have hw:lQ s z2=lP (lQ s z2) (lQ s z2).steps (lQ s z2).sent z2.many:=rfl
  have he:m.z.wn=kT s z2:=hL
  refine⟨m.z.many,l,k0,i0,m.x,sK.mono (N:=1) (.inl ⟨rW (lQ s z2) j m.z.many,?_,?_⟩) (by omega),hl,he▸h.inv,h.many.1,h.many.2⟩
  ·rw[Nq,hb];dsimp only;rw[hw,aBp];exact aA1 hj _ _ _ _ _
  ·rw[Nq,hb,←he,←hy]
 | cons p L =>
  have hlen:=aTQ hm z2.wn (kT s z2)
  rw[hc] at hb hL hlen;rw[if_neg (by simp)] at hb
  have hw:lQ s z2=lP (lQ s z2) (p::L) false m.z.many:=by
   unfold lP;rw[←hc,←aBp];rfl
  have hi1:=h.inv.tick hm
  have aQf:aCx s m.z.wn (p::L):=by
   rw[←hc,hwn];exact aIE _ _ fun t p' hp'=>aTR hm h.cl (aCH hm z2) (fun i hi=>aL6 z2 (hwn▸h.cl.of) i (hwn▸hi)) hp'
  obtain⟨k',k1,i1,x',r1,r2,r3,r4⟩:=aMe hm fK L p m.z.wn m.z.many l k0 i0 (iL s m.x 0) aQf hi1 h.many.1 h.many.2 hl;rw[hL] at r1 r2;simp only[List.length_cons] at hlen
  have hs:(dN.mk (oQ m.z j k d q v) m.y m.x).step s j=⟨lP (lQ s z2) (p::L) false m.z.many,rQ s m.z.wn l k0 i0,m.x⟩:=by
   rw[Nq,hb,←hy,←hw]
  refine⟨k',0,k1,i1,x',sK.mono (N:=10*(L.length+1)+1) (.inr ⟨?_,.inr ⟨?_,?_⟩⟩) (by omega),.inl rfl,r2,r3,r4⟩
  ·rw[hs];exact Mf fK _ _ _
  ·rw[aAJ hl h.inv.wt hs];exact Mf fK _ _ _
  ·rw[aAJ hl h.inv.wt hs];exact r1
theorem Inv.acc{X:bM}{x:aP}(hi:Inv s X none none none x){dn:Nat}{dd:bO}{p:cO×dL}(hd:s.aC[dn]? =some dd)(hp:x.dv[dn]? =some p){t:jC}(ht:0≤t.val∧t.val < 4294967296){ws:List (Option jC)}(hws:ws.length=s.aC.length)(hw:∀i,iQ ws i=0)(po:Int):
  Inv s X none none none {x with wt:=ws,dv:=x.dv.set dn (wO p t),aS:=po}:=by
 have hlp:=(List.getElem?_eq_some_iff.1 hp).1
 have h2:(wO p t).2=p.2:=by unfold wO;split<;>rfl
 refine⟨⟨hi.ok.ck,hi.ok.dm,hi.ok.ln,by simp[hi.ok.dv],fun i d p' hd' hp'=>?_,hws⟩,hw,hi.of,hi.dom,hi.jM,hi.sG,hi.zX,hi.tK,fun i p' d hp' hd'=>?_⟩
 ·dsimp only at hp';rw[List.getElem?_set] at hp'
  by_cases h:dn=i
  ·subst h;rw[if_pos rfl,if_pos hlp] at hp';cases hp'
   have:=hi.ok.each dn d p hd' hp
   exact⟨aC7 this.1 ht,h2▸this.2⟩
  ·rw[if_neg h] at hp';exact hi.ok.each i d p' hd' hp'
 ·dsimp only at hp';rw[List.getElem?_set] at hp'
  by_cases h:dn=i
  ·subst h;rw[if_pos rfl,if_pos hlp] at hp';cases hp';rw[h2];exact hi.rF dn p d hp hd'
  ·rw[if_neg h] at hp';exact hi.rF i p' d hp' hd'
def Zp(s:aD)(x:aP)(dn:Nat)(p:cO×dL)(wr:Bool)(q v:Int):aP:=iL s {x with wt:=(x.wt.set dn (some ⟨x.aS,wr,q,v⟩)).set dn none,dv:=x.dv.set dn (wO p ⟨x.aS,wr,q,v⟩),aS:=x.aS+1} 0
theorem aMJ(hm:s.made)(h:qV s m)(hj:T3 j){dn:Nat}{dd:bO}{p:cO×dL}{wr:Bool}(hd:s.aC[dn]? =some dd)(hp:m.x.dv[dn]? =some p)(hal:wD s m.x dn=true)(hv:0≤v∧v < 4294967296)
  (hr:qR s m.x (eS m.z j k d q v) j k=(0,{eS m.z j k d q v with aS:=true,id:=m.x.aS},wW m.x dn wr q v)):
  sK s j 1 ⟨oQ m.z j k d q v,m.y,m.x⟩ 0 (p.1.now.getD q.toNat 0) ⟨rW {eS m.z j k d q v with aS:=true,id:=m.x.aS} j m.z.many,m.y,Zp s m.x dn p wr q v⟩∧Inv s m.z.wn none none none (Zp s m.x dn p wr q v):=by
 have hk:((oQ m.z j k d q v).tk j).kind=k:=by rcases hj with rfl | rfl | rfl<;>rfl
 obtain⟨l,k0,i0,hl,hy⟩:=h.y
 have hi:=h.inv
 have iY:=(List.getElem?_eq_some_iff.1 hd).1
 have vR:=hi.ok.wt
 have hws:∀i,iQ ((m.x.wt.set dn (some ⟨m.x.aS,wr,q,v⟩)).set dn none) i=0:=fun i=>by
  have:=hi.wt i
  unfold iQ at this⊢
  by_cases hh:dn=i
  ·subst hh;rw[List.getElem?_set_self (by simp;omega)];rfl
  ·rw[List.getElem?_set_ne hh,List.getElem?_set_ne hh];exact this
 have Nq:=aBR (k:=k) (d:=d) (q:=q) (v:=v) h hj
 have hb:pN s m.x (oQ m.z j k d q v) j=({eS m.z j k d q v with aS:=true,id:=m.x.aS},wW m.x dn wr q v):=by
  unfold pN;dsimp only;rw[hk,show kD (oQ m.z j k d q v) j=eS m.z j k d q v from rfl,hr,if_neg (by simp),if_neg (by simp)]
 rw[hb] at Nq;generalize hzp:({eS m.z j k d q v with aS:=true,id:=m.x.aS}:aV)=zp at *
 have aPH:(zp.tk j).st=2:=by subst hzp;rcases hj with rfl | rfl | rfl<;>rfl
 have hnone:nM zp j=((0,0,false),zp):=by
  unfold nM;rw[if_neg (by rcases hj with rfl | rfl | rfl<;>decide),Int.toNat_natCast,aPH,if_pos (by decide)]
 have Ni:cK s (wW m.x dn wr q v):=aAz hi.ok dn _ _
 have Fo:((wW m.x dn wr q v).wt[dn]?).join=some ⟨m.x.aS,wr,q,v⟩:=by
  show((m.x.wt.set dn (some _))[dn]?).join=_
  rw[List.getElem?_set_self (by omega)];rfl
 have Wx:∀i:Nat,i≠dn→((wW m.x dn wr q v).wt[i]?).join=none:=fun i hne=>by
  show((m.x.wt.set dn (some _))[i]?).join=none
  rw[List.getElem?_set_ne (Ne.symm hne)];exact aH0 hi.wt i
 obtain⟨a,ha,hid,_,hn⟩:=aJV Ni iY Fo Wx
 have hax:jN s (wW m.x dn wr q v) dn=({m.x with wt:=(m.x.wt.set dn (some ⟨m.x.aS,wr,q,v⟩)).set dn none,dv:=m.x.dv.set dn (wO p ⟨m.x.aS,wr,q,v⟩),aS:=m.x.aS+1},some ⟨m.x.aS,dn,false,p.1.now.getD q.toNat 0⟩):=by
  unfold jN;rw[Fo,hd,show(wW m.x dn wr q v).dv[dn]? =some p from hp];dsimp only;rw[if_pos (show wD s (wW m.x dn wr q v) dn=true from hal)];rfl
 rw[hax] at ha hn;cases ha
 have aBm:oX s (wW m.x dn wr q v) 0=(Zp s m.x dn p wr q v,[⟨m.x.aS,dn,false,p.1.now.getD q.toNat 0⟩]):=by
  obtain⟨e,he⟩:∃e,s.aC.length=dn+1+e:=⟨s.aC.length - (dn+1),by omega⟩
  unfold oX;rw[he,hn e];rfl
 have hrnd:(dN.mk (oQ m.z j k d q v) m.y m.x).qJ s j=⟨kE zp j 0 (p.1.now.getD q.toNat 0),m.y,Zp s m.x dn p wr q v⟩:=by
  unfold dN.qJ;rw[Nq];unfold dN.eY;dsimp only;rw[hy,aGV hl];unfold dN.tick;dsimp only;rw[aBm];dsimp only
  have:xG zp [⟨m.x.aS,dn,false,p.1.now.getD q.toNat 0⟩]=kE zp j 0 (p.1.now.getD q.toNat 0):=by
   show Bm zp _=_
   unfold Bm;subst hzp;dsimp only;rw[if_neg (by simp),if_neg (by simp),if_neg (by simp)]
   show kE _ ((j:Int).toNat) _ _=_
   rw[Int.toNat_natCast]
  rw[this]
 have hw:zp=lP zp zp.steps zp.sent m.z.many:=by subst hzp;rfl
 refine⟨.inr ⟨?_,.inl ⟨rW zp j m.z.many,?_,?_⟩⟩,(hi.acc hd hp hv (by simpa using vR) hws _).tick hm⟩
 ·rw[Nq];exact hnone
 ·rw[hrnd];dsimp only;rw[hw];exact aA1 hj _ _ _ _ _
 ·rw[hrnd]
end
end
section
section
variable{s:aD}{m:dN}{j n:Nat}{k d q v:Int}
theorem aG0{l:List Bool}{u i:Nat}(h:hasB l i=true):hasB (l.set u true) i=true:=by
 rw[Dk] at h⊢;rw[List.getElem?_set];split
 ·split
  ·rfl
  ·rename_i h1 h2
   subst h1;rw[List.getElem?_eq_none (by omega)] at h;exact h
 ·exact h
theorem aEs{i:Nat}:∀(us:List Nat) {l:List Bool},hasB l i=true→hasB (us.foldl (fun l u=>l.set u true) l) i=true
 | [],_,h=>h
 | _::us,_,h=>aEs us (aG0 h)
theorem aKe(g:List (List Int))(c:Cn)(n i:Nat)(hi:i < n)(hc:0 < fX c.l (i:Int)):∀t,i < t→hasB (wE g c n t) i=true
 | 0,h=>absurd h (by omega)
 | t + 1, h => by
  unfold wE;rcases Nat.lt_or_ge i t with h1 | h1
  ·have ih:=aKe g c n i hi hc t h1
   split
   ·exact ih
   ·exact aEs _ (aG0 ih)
  ·obtain rfl:i=t:=by omega
   rw[if_neg (by omega)];refine aEs _ ?_;rw[Dk,List.getElem?_set_self (by rw[Zo];exact hi)];rfl
theorem aLK{c:Cn}(ha:c.iZ=false){i:Nat}(hi:i < s.aC.length)(hc:0 < fX c.l (i:Int)):hasB (dV s c) i=true:=by
 unfold dV Ol;rw[ha,if_neg (by simp),Fi];exact aKe _ c _ i hi hc _ hi
theorem qV.alive(hm:s.made)(h:qV s m){i:Nat}{dd:bO}(hd:s.aC[i]? =some dd)(hu:hasB (dV s m.z.cn) i=true):wD s m.x i=true∧uH m.x i=114:=by
 have hlt:=(List.getElem?_eq_some_iff.1 hd).1
 obtain⟨h1,h2,_⟩:=aL1 hm hd hu
 have hD:hasB m.z.wn.d dd.domain.toNat=true:=by rw[h.wd];exact h1
 refine⟨h.inv.alive hm hd hD (fun c hc hs=>?_) (h.wl _ h2),h.inv.state hd hD⟩
 have iB:=aBH hc
 rw[h.wc];exact(Pw (s:=s) (act:=dV s m.z.cn) c iB s.aC.length).2 ⟨i,hlt,hu,dd,hd,List.mem_filter.2 ⟨hc,aKM hs⟩⟩
theorem Mo(hj:T3 j){z:aV}{i:Nat}(hi:T3 i)(t:Int):(rW z j t).tk i=if i=j then {z.tk j with st:=0,kind:=0,dev:=0,bY:=0,val:=0,err:=0,res:=0} else z.tk i:=by
 rcases hj with rfl | rfl | rfl<;>rcases hi with rfl | rfl | rfl<;>rfl
theorem aAp(hj:T3 j)(z:aV){i:Nat}(hi:T3 i)(hne:i≠j):(eS z j k d q v).tk i=z.tk i:=by
 rcases hj with rfl | rfl | rfl<;>rcases hi with rfl | rfl | rfl<;>first | rfl | exact absurd rfl hne
theorem aGY(hj:T3 j){z:aV}{t:Int}{y:bZ}{x:aP}(mQ:∀i,T3 i→i≠j→(z.tk i).st=0)(hy:∃l k i:Int,(l=0∨l=1)∧y=rQ s z.wn l k i)(hi:Inv s z.wn none none none x)(iB:z.wn.cl s)(ht:0≤t∧t < 1024)
  (wd:z.wn.d=(eT s (dV s z.cn)).d) (wc:z.wn.c=(eT s (dV s z.cn)).c) (wl:∀i,hasB (eT s (dV s z.cn)).l i=true→hasB z.wn.l i=true):qV s ⟨rW z j t,y,x⟩:=
 ⟨fun i hi=>by
  show((rW z j t).tk i).st=0
  rw[Mo hj hi];split
  ·rfl
  ·exact mQ i hi (by assumption),rfl,rfl,rfl,rfl,hy,hi,iB,ht,wd,wc,wl⟩
theorem aGX(h:qV s m)(hj:T3 j){z:aV}(hz:z.wn=m.z.wn)(hc:z.cn=m.z.cn)(mQ:∀i,T3 i→i≠j→z.tk i=m.z.tk i){x:aP}(hi:Inv s m.z.wn none none none x):qV s ⟨rW z j m.z.many,m.y,x⟩:=by
 obtain⟨l,k0,i0,hl,hy⟩:=h.y;exact aGY hj (fun i hi' hne=>by rw[mQ i hi' hne];exact h.tk i hi') ⟨l,k0,i0,hl,by rw[hz];exact hy⟩ (by rw[hz];exact hi) (by rw[hz];exact h.cl) h.many (by rw[hz,hc];exact h.wd) (by rw[hz,hc];exact h.wc) (by rw[hz,hc];exact h.wl)
def oH(s:aD)(z:aV)(j:Nat)(k d q:Int):Int×Cn×List Int:=
 let hs:=(z.tk j).hs
 if k=103 then(if(nO s.aC.length z.cn d).1≠0 then((nO s.aC.length z.cn d).1,z.cn,hs) else(0,(nO s.aC.length z.cn d).2,(mU (z.tk j) d.toNat 1).hs))
 else if k=112 then(if bB s.aC.length d=false then(4,z.cn,hs) else if hG (z.tk j) d.toNat=0 then(6,z.cn,hs) else if(kA s.aC.length z.cn d).1≠0 then((kA s.aC.length z.cn d).1,z.cn,hs) else(0,(kA s.aC.length z.cn d).2,(mU (z.tk j) d.toNat (-1)).hs))
 else if k=115 then((sE z.cn).1,(sE z.cn).2,hs)
 else if k=109 then((sF z.cn).1,(sF z.cn).2,hs)
 else(if bB s.aC.length d=false∨q < 0∨vM s d≤q then 4 else if hG (z.tk j) d.toNat=0∨z.cn.iZ=true then 6 else 0,z.cn,hs)
structure Cc(s:aD)(m:dN)(j:Nat)(k d q v:Int)(e u:Int)(m':dN):Prop where
 stl:sK s j 400 ⟨oQ m.z j k d q v,m.y,m.x⟩ e u m'
 rest:qV s m'
 out:(e,m'.z.cn,(m'.z.tk j).hs)=oH s m.z j k d q
 tk:∀i,T3 i→i≠j→(m'.z.tk i).hs=(m.z.tk i).hs
 no:(k≠114∧k≠119)∨e≠0→u=0
 acc:(k=114∨k=119)→e=0→∃(dn:Nat) (p:cO×dL),d=(dn:Int)∧m.x.dv[dn]? =some p∧u=p.1.now.getD q.toNat 0∧m'.x=Zp s m.x dn p (decide (k=119)) q v
 same:e≠0→m'.x=m.x
theorem Jy(h:qV s m)(hj:T3 j){e:Int}(he:e≠0)(hr:qR s m.x (eS m.z j k d q v) j k=(e,eS m.z j k d q v,m.x))(ho:oH s m.z j k d q=(e,m.z.cn,(m.z.tk j).hs)):∃e u m',Cc s m j k d q v e u m':=by
 refine⟨e,0,_,(aMC h hj he hr).mono (by decide),aGX (z:=eS m.z j k d q v) h hj rfl rfl (fun i hi hne=>aAp hj _ hi hne) h.inv,?_,fun i hi hne=>?_,fun _=>rfl,fun _ h=>absurd h he,fun _=>rfl⟩
 ·rw[ho]
  show(e,m.z.cn,((rW _ j _).tk j).hs)=_
  rw[Mo hj hj,if_pos rfl,aC0 hj]
 ·show((rW _ j _).tk i).hs=_
  rw[Mo hj hi,if_neg hne,aAp hj _ hi hne]
theorem aOr(hm:s.made)(h:qV s m)(hj:T3 j)(hk:k≠114∧k≠119){z2:aV}(hr:qR s m.x (eS m.z j k d q v) j k=(0,lQ s z2,m.x))(hwn:z2.wn=m.z.wn)(lV:z2.aS=false)(aBp:z2.many=m.z.many)(aDW:z2.eW=(j:Int))(hst:(z2.tk j).st=2)
  (mQ:∀i,T3 i→i≠j→z2.tk i=m.z.tk i) (ho:oH s m.z j k d q=(0,z2.cn,(z2.tk j).hs)):∃e u m',Cc s m j k d q v e u m':=by
 obtain⟨k',l',k1,i1,x',r1,r2,r3,r4,r5⟩:=aM2 hm h hj hr hwn lV aBp aDW hst
 have uS:∀i,T3 i→(lQ s z2).tk i=z2.tk i:=fun i hi=>by rcases hi with rfl | rfl | rfl<;>rfl
 refine⟨0,0,_,r1,aGY hj (fun i hi hne=>by rw[uS i hi,mQ i hi hne];exact h.tk i hi) ⟨l',k1,i1,r2,rfl⟩ r3 (aCH hm z2) ⟨r4,r5⟩ rfl rfl (fun i hi=>aL4 z2 i hi),?_,fun i hi hne=>?_,fun _=>rfl,fun h=>absurd h (by omega),fun h=>absurd rfl h⟩
 ·rw[ho]
  show((0:Int),z2.cn,((rW _ j _).tk j).hs)=_
  rw[Mo hj hj,if_pos rfl,uS j hj]
 ·show((rW _ j _).tk i).hs=_
  rw[Mo hj hi,if_neg hne,uS i hi,mQ i hi hne]
def z2F(z:aV)(j:Nat)(k d q v:Int)(t:oO)(c:Cn):aV:={(eS z j k d q v).jQ j t with cn:=c}
theorem aC3(hj:T3 j){z:aV}{t:oO}{c:Cn}{i:Nat}(hi:T3 i):(z2F z j k d q v t c).tk i=if i=j then t else z.tk i:=by
 rcases hj with rfl | rfl | rfl<;>rcases hi with rfl | rfl | rfl<;>rfl
theorem aAQ(hm:s.made)(h:qV s m)(hj:T3 j)(hk:k≠114∧k≠119){t:oO}{c:Cn}(ht:t.st=2)(hr:qR s m.x (eS m.z j k d q v) j k=(0,lQ s (z2F m.z j k d q v t c),m.x))(ho:oH s m.z j k d q=(0,c,t.hs)):∃e u m',Cc s m j k d q v e u m':=by
 refine aOr hm h hj hk hr rfl h.po rfl rfl ?_ (fun i hi hne=>?_) ?_
 ·rw[aC3 hj hj,if_pos rfl];exact ht
 ·rw[aC3 hj hi,if_neg hne]
 ·rw[aC3 hj hj,if_pos rfl];exact ho
theorem aHv(hm:s.made)(h:qV s m)(hok:fB s n m)(hj:T3 j)(wr:Bool)(hk:k=if wr then 119 else 114)(hv:0≤v∧v < 4294967296):∃e u m',Cc s m j k d q v e u m':=by
 have uS:=aC0 (k:=k) (d:=d) (q:=q) (v:=v) hj m.z
 have hhs:∀i,hG ((eS m.z j k d q v).tk j) i=hG (m.z.tk j) i:=fun i=>by rw[uS];rfl
 have hk4:k≠103∧k≠112∧k≠115∧k≠109∧(k=114∨k=119)∧decide (k=119)=wr:=by subst hk;cases wr<;>decide
 obtain⟨k1,k2,k3,k4,k5,k6⟩:=hk4
 have jS:oH s m.z j k d q=(if bB s.aC.length d=false∨q < 0∨vM s d≤q then 4 else if hG (m.z.tk j) d.toNat=0∨m.z.cn.iZ=true then 6 else 0,m.z.cn,(m.z.tk j).hs):=by
  unfold oH;dsimp only;rw[if_neg k1,if_neg k2,if_neg k3,if_neg k4]
 have hr:qR s m.x (eS m.z j k d q v) j k=Dy s m.x (eS m.z j k d q v) j wr:=by
  subst hk;cases wr<;>rfl
 have Xu:Ja s ((eS m.z j k d q v).tk j)↔(bB s.aC.length d=false∨q < 0∨vM s d≤q):=by rw[uS];exact Iff.rfl
 unfold Dy at hr
 by_cases h1:bB s.aC.length d=false∨q < 0∨vM s d≤q
 ·rw[if_pos (Xu.2 h1)] at hr;exact Jy (e:=4) h hj (by decide) hr (by rw[jS,if_pos h1])
 rw[if_neg (fun hb=>h1 (Xu.1 hb)),hhs,uS] at hr;dsimp only at hr;rw[show(eS m.z j k d q v).cn=m.z.cn from rfl] at hr;rw[if_neg h1] at jS
 by_cases h2:hG (m.z.tk j) d.toNat=0∨m.z.cn.iZ=true
 ·rw[if_pos h2] at hr jS;exact Jy (e:=6) h hj (by decide) hr jS
 rw[if_neg h2] at hr jS
 have hin:bB s.aC.length d=true:=by
  cases hb:bB s.aC.length d with
  | true=>rfl
  | false=>exact absurd (.inl hb) h1
 have hin:=of_decide_eq_true hin
 have hdt:d=(d.toNat:Int):=by omega
 obtain⟨dd,hd⟩:=get_some (l:=s.aC) (i:=d.toNat) (by omega);obtain⟨p,hp⟩:=get_some (l:=m.x.dv) (i:=d.toNat) (by have:=hok.hw.dv;omega)
 have ha:m.z.cn.iZ=false:=by
  cases hb:m.z.cn.iZ with
  | false=>rfl
  | true=>exact absurd (.inr hb) h2
 have hc:0 < fX m.z.cn.l (d.toNat:Int):=by
  have b:=hok.sQ.toRwB
  have h0:=b.nn 0 (.inl rfl) d.toNat
  have h1:=b.nn 1 (.inr (.inl rfl)) d.toNat
  have h2':=b.nn 2 (.inr (.inr rfl)) d.toNat
  have h3:=b.cnt d.toNat
  have h4:hG (m.z.tk j) d.toNat≠0:=fun hz=>h2 (.inl hz)
  rcases hj with rfl | rfl | rfl<;>omega
 obtain⟨hal,hst⟩:=h.alive hm hd (aLK ha (by omega) hc);rw[if_pos hst] at hr;obtain⟨r1,r2⟩:=aMJ hm h hj hd hp hal hv hr
 have hx:=aGX (z:={eS m.z j k d q v with aS:=true,id:=m.x.aS}) h hj rfl rfl (fun i hi hne=>by
  have:({eS m.z j k d q v with aS:=true,id:=m.x.aS}:aV).tk i=(eS m.z j k d q v).tk i:=by rcases hi with rfl | rfl | rfl<;>rfl
  rw[this]
  exact aAp hj _ hi hne) r2
 refine⟨0,_,_,r1.mono (by decide),hx,?_,fun i hi hne=>?_,fun hh=>?_,fun _ _=>⟨d.toNat,p,hdt,hp,rfl,?_⟩,fun hh=>absurd rfl hh⟩
 ·rw[jS]
  show((0:Int),m.z.cn,((rW _ j _).tk j).hs)=_
  rw[Mo hj hj,if_pos rfl]
  have:({eS m.z j k d q v with aS:=true,id:=m.x.aS}:aV).tk j=(eS m.z j k d q v).tk j:=by rcases hj with rfl | rfl | rfl<;>rfl
  rw[this,uS]
 ·show((rW _ j _).tk i).hs=_
  rw[Mo hj hi,if_neg hne]
  have:({eS m.z j k d q v with aS:=true,id:=m.x.aS}:aV).tk i=(eS m.z j k d q v).tk i:=by rcases hi with rfl | rfl | rfl<;>rfl
  rw[this,aAp hj _ hi hne]
 ·rcases hh with hh | hh
  ·omega
  ·exact absurd rfl hh
 ·rw[k6]
theorem aTs(hm:s.made)(h:qV s m)(hok:fB s n m)(hj:T3 j)(hk:pF k)(hv:0≤v∧v < 4294967296):∃e u m',Cc s m j k d q v e u m':=by
 have uS:=aC0 (k:=k) (d:=d) (q:=q) (v:=v) hj m.z
 have hhs:∀i,hG ((eS m.z j k d q v).tk j) i=hG (m.z.tk j) i:=fun i=>by rw[uS];rfl
 have hn:=Fi s
 have qM:z2F m.z j k d q v ((eS m.z j k d q v).tk j) m.z.cn=eS m.z j k d q v:=by rcases hj with rfl | rfl | rfl<;>rfl
 have hwk:∀c:Cn,({eS m.z j k d q v with cn:=c}:aV)=z2F m.z j k d q v ((eS m.z j k d q v).tk j) c:=fun c=>by rcases hj with rfl | rfl | rfl<;>rfl
 rcases hk with rfl | rfl | hk | hk | rfl | rfl
 ·
  have hr:qR s m.x (eS m.z j 103 d q v) j 103=((Ga s (eS m.z j 103 d q v) j).1,(Ga s (eS m.z j 103 d q v) j).2,m.x):=rfl
  unfold Ga at hr;rw[uS,hn] at hr;dsimp only at hr;rw[show(eS m.z j 103 d q v).cn=m.z.cn from rfl] at hr
  by_cases he:(nO s.aC.length m.z.cn d).1≠0
  ·rw[if_pos he] at hr;exact Jy h hj he hr (by unfold oH;dsimp only;rw[if_pos rfl,if_pos he])
  ·rw[if_neg he] at hr;exact aAQ hm h hj ⟨by decide,by decide⟩ rfl hr (by unfold oH;dsimp only;rw[if_pos rfl,if_neg he];rfl)
 ·
  have hr:qR s m.x (eS m.z j 112 d q v) j 112=((Fe s (eS m.z j 112 d q v) j).1,(Fe s (eS m.z j 112 d q v) j).2,m.x):=rfl
  unfold Fe at hr;rw[hhs,uS,hn] at hr;dsimp only at hr;rw[show(eS m.z j 112 d q v).cn=m.z.cn from rfl] at hr
  by_cases h1:bB s.aC.length d=false
  ·rw[if_pos h1] at hr;exact Jy (e:=4) h hj (by decide) hr (by unfold oH;dsimp only;rw[if_neg (by decide),if_pos rfl,if_pos h1])
  ·rw[if_neg h1] at hr
   by_cases h2:hG (m.z.tk j) d.toNat=0
   ·rw[if_pos h2] at hr;exact Jy (e:=6) h hj (by decide) hr (by unfold oH;dsimp only;rw[if_neg (by decide),if_pos rfl,if_neg h1,if_pos h2])
   ·rw[if_neg h2] at hr
    by_cases he:(kA s.aC.length m.z.cn d).1≠0
    ·rw[if_pos he] at hr;exact Jy h hj he hr (by unfold oH;dsimp only;rw[if_neg (by decide),if_pos rfl,if_neg h1,if_neg h2,if_pos he])
    ·rw[if_neg he] at hr;exact aAQ hm h hj ⟨by decide,by decide⟩ rfl hr (by unfold oH;dsimp only;rw[if_neg (by decide),if_pos rfl,if_neg h1,if_neg h2,if_neg he];rfl)
 ·exact aHv hm h hok hj false hk hv
 ·exact aHv hm h hok hj true hk hv
 ·
  have hr:qR s m.x (eS m.z j 115 d q v) j 115=((Eu s (eS m.z j 115 d q v)).1,(Eu s (eS m.z j 115 d q v)).2,m.x):=rfl
  unfold Eu at hr;rw[show(eS m.z j 115 d q v).cn=m.z.cn from rfl] at hr
  by_cases he:(sE m.z.cn).1≠0
  ·rw[if_pos he] at hr;refine Jy h hj he hr ?_;unfold oH;dsimp only;rw[if_neg (by decide),if_neg (by decide),if_pos rfl];unfold sE at he⊢;split at he
   ·rename_i ha;rw[if_pos ha]
   ·exact absurd rfl he
  ·rw[if_neg he,hwk] at hr;refine aAQ hm h hj ⟨by decide,by decide⟩ (by rw[uS]) hr ?_;unfold oH;dsimp only;rw[if_neg (by decide),if_neg (by decide),if_pos rfl,Classical.not_not.1 he,uS]
 ·
  have hr:qR s m.x (eS m.z j 109 d q v) j 109=((Fa s (eS m.z j 109 d q v)).1,(Fa s (eS m.z j 109 d q v)).2,m.x):=rfl
  unfold Fa at hr;rw[show(eS m.z j 109 d q v).cn=m.z.cn from rfl] at hr
  by_cases he:(sF m.z.cn).1≠0
  ·rw[if_pos he] at hr;refine Jy h hj he hr ?_;unfold oH;dsimp only;rw[if_neg (by decide),if_neg (by decide),if_neg (by decide),if_pos rfl];unfold sF at he⊢;split at he
   ·exact absurd rfl he
   ·rename_i ha;rw[if_neg ha]
  ·rw[if_neg he,hwk] at hr;refine aAQ hm h hj ⟨by decide,by decide⟩ (by rw[uS]) hr ?_;unfold oH;dsimp only;rw[if_neg (by decide),if_neg (by decide),if_neg (by decide),if_pos rfl,Classical.not_not.1 he,uS]
end
end
section
section
variable{s:aD}{m m':dN}{j n:Nat}{k d q v e u:Int}
theorem sK.ok(hm:s.made){t:Int}:∀{N n:Nat} {m m':dN},fB s n m→sK s t N m e u m'→fB s (n+N) m'
 | 0,_,_,_,_,h=>h.elim
 | N+1,n,m,m',ho,h=>by
  have h1:=ho.step hm t
  have h2:=ho.qJ hm t
  rcases h with⟨z,hd,rfl⟩ | ⟨_,⟨z,hd,rfl⟩ | ⟨_,hr⟩⟩
  ·exact(h1.aJg hd).le (by omega)
  ·exact(h2.aJg hd).le (by omega)
  ·exact(sK.ok hm h2 hr).le (by omega)
theorem aLg(h:fB s n m)(hr:qV s m)(hj:T3 j)(hk:pF k)(hv:0≤v∧v < 4294967296):fB s n ⟨oQ m.z j k d q v,m.y,m.x⟩:=h.aGu (aGt hr hj hk) hv
theorem Cc.ok(hm:s.made)(o:Cc s m j k d q v e u m')(h:fB s n m)(hr:qV s m)(hj:T3 j)(hk:pF k)(hv:0≤v∧v < 4294967296):fB s (n+400) m':=sK.ok hm (aLg h hr hj hk hv) o.stl
theorem aKd(g:List (List Int))(n:Nat):∀t,wE g ⟨[],false⟩ n t=List.replicate n false
 | 0=>rfl
 | t+1=>by
  unfold wE;rw[if_pos (by show fX [] _≤0;simp[fX])];exact aKd g n t
theorem aGb(s:aD)(n:Nat):eT s (List.replicate n false)=dQ s:=by
 have:∀t,iK s (List.replicate n false) t=dQ s:=fun t=>by
  induction t with
  | zero=>rfl
  | succ t ih=>rw[Pv (aIB n t),ih]
 exact this _
theorem aNp(hm:s.made):qV s (Ms s):=by
 have hu:eT s (dV s (Ms s).z.cn)=dQ s:=by
  show eT s (dV s ⟨[],false⟩)=_
  unfold dV Ol;rw[if_neg (by simp),aKd,aGb]
 have hw:(Ms s).z.wn=dQ s:=aL0 s
 have iB:=aGc hm (List.replicate s.aC.length false) s.aC.length
 refine⟨fun j hj=>by rcases hj with rfl | rfl | rfl<;>rfl,rfl,rfl,rfl,rfl,⟨1,0,0,.inr rfl,by rw[hw];rfl⟩,by rw[hw];exact aPA hm,?_,⟨Int.le_refl 0,by show(0:Int) < 1024;decide⟩,by rw[hu,hw],by rw[hu,hw],fun i h=>by rw[hu] at h;rw[hw];exact h⟩;rw[hw,←aGb s s.aC.length];exact iB
theorem aP7(r:Int)(h0:0≤r)(h1:r < 13):Ke r=120∨pF (Ke r):=by
 obtain⟨n,rfl⟩:∃n:Nat,r=(n:Int):=⟨r.toNat,by omega⟩
 have hn:n < 13:=by omega
 have:∀n:Fin 13,Ke (n.1:Int)=120∨pF (Ke (n.1:Int)):=by decide
 exact this ⟨n,hn⟩
theorem aQJ(z:aV)(hj:T3 j){i:Nat}(hi:i < s.aC.length):Sd s z j (i:Int)=hG (z.tk j) i:=by
 unfold Sd;rw[if_neg (by rcases hj with rfl | rfl | rfl<;>decide),if_neg (by simp[bB,hi]),Int.toNat_natCast,Int.toNat_natCast]
end
end
section
section
variable{s:aD}{m m':dN}{n:Nat}{k d q v e u:Int}
def aA3(s:aD)(c:Cn)(h k d q:Int):Int×Cn:=
 if k=103 then nO s.aC.length c d
 else if k=112 then(if bB s.aC.length d=false then(4,(kA s.aC.length c d).2) else kA s.aC.length c d)
 else if k=115 then sE c
 else if k=109 then sF c
 else(if bB s.aC.length d=false∨vM s d≤q then 4 else if h=0∨c.iZ=true then 6 else 0,c)
def Pd(m:dN):Prop:=∀i,hG (m.z.tk 1) i=0∧hG (m.z.tk 2) i=0
theorem Pd.out(o:Cc s m 0 k d q v e u m')(h:Pd m):Pd m':=fun i=>by
 have h1:=o.tk 1 (.inr (.inl rfl)) (by decide)
 have h2:=o.tk 2 (.inr (.inr rfl)) (by decide)
 unfold hG;rw[h1,h2];exact h i
theorem aL2(o:Cc s m 0 k d q v e u m')(hok:fB s n m)(hx:Pd m)(hd:0≤d)(hq:0≤q):(e,m'.z.cn)=aA3 s m.z.cn (hG (m.z.tk 0) d.toNat) k d q:=by
 have ho:=o.out
 have h1:(e,m'.z.cn)=((oH s m.z 0 k d q).1,(oH s m.z 0 k d q).2.1):=by rw[←ho]
 rw[h1];unfold oH aA3;dsimp only
 by_cases k1:k=103
 ·rw[if_pos k1,if_pos k1];split
  ·rename_i h
   exact Prod.ext rfl (aJH h).symm
  ·rename_i h
   exact Prod.ext (show(0:Int)=(nO s.aC.length m.z.cn d).1 by omega) rfl
 rw[if_neg k1,if_neg k1]
 by_cases k2:k=112
 ·rw [if_pos k2, if_pos k2]
  by_cases hin:bB s.aC.length d=false
  ·rw[if_pos hin,if_pos hin]
   have:(kA s.aC.length m.z.cn d).1≠0:=by
    unfold kA;split
    ·simp
    ·rw[if_pos (by intro h;simp[bB,h] at hin)];simp
   rw[aEF this]
  rw[if_neg hin,if_neg hin]
  have hi:=of_decide_eq_true (by cases hb:bB s.aC.length d with | true=>rfl | false=>exact absurd hb hin:bB s.aC.length d=true)
  have hc:=hok.sQ.toRwB.cnt d.toNat
  have hs:=hx d.toNat
  rw[show((d.toNat:Nat):Int)=d by omega] at hc;split
  ·rename_i h0
   have hle:fX m.z.cn.l d≤0:=by omega
   have hr:(kA s.aC.length m.z.cn d)=(6,m.z.cn):=by
    unfold kA
    repeat' split
    all_goals first | rfl | (exfalso;omega)
   exact hr.symm
  ·split
   ·rename_i h
    exact Prod.ext rfl (aEF h).symm
   ·rename_i h
    exact Prod.ext (show(0:Int)=(kA s.aC.length m.z.cn d).1 by omega) rfl
 rw[if_neg k2,if_neg k2]
 by_cases k3:k=115
 ·rw[if_pos k3,if_pos k3]
 rw[if_neg k3,if_neg k3]
 by_cases k4:k=109
 ·rw[if_pos k4,if_pos k4]
 rw[if_neg k4,if_neg k4]
 have:(bB s.aC.length d=false∨q < 0∨vM s d≤q)↔(bB s.aC.length d=false∨vM s d≤q):=by
  constructor
  ·rintro(h | h | h)
   ·exact .inl h
   ·omega
   ·exact .inr h
  ·rintro(h | h)
   ·exact .inl h
   ·exact .inr (.inr h)
 simp only[this]
theorem aQK(o:Cc s m 0 k d q v e u m'):(m'.z.tk 0).hs=if e=0∧k=103 then(mU (m.z.tk 0) d.toNat 1).hs else if e=0∧k=112 then(mU (m.z.tk 0) d.toNat (-1)).hs else(m.z.tk 0).hs:=by
 have ho:=o.out
 have h1:e=(oH s m.z 0 k d q).1:=by rw[←ho]
 have h2:(m'.z.tk 0).hs=(oH s m.z 0 k d q).2.2:=by rw[←ho]
 rw[h2,h1];unfold oH;dsimp only
 by_cases k1:k=103
 ·simp only[k1,if_true];split
  ·rename_i h
   simp[h]
  ·simp
 rw[if_neg k1]
 by_cases k2:k=112
 ·simp only[k2,if_true];split
  ·simp
  ·split
   ·simp
   ·split
    ·rename_i h
     simp[h]
    ·simp
 rw[if_neg k2]
 repeat' split
 all_goals first | rfl | (exfalso;simp_all;done) | simp_all
theorem aMl:Pd (Ms s):=fun i=>by
 constructor<;>(show(List.replicate 6 (0:Int)).getD i 0=0;rcases i with _ | _ | _ | _ | _ | _ | i<;>rfl)
def nJ(t:oO)(n:Nat):List Int:=(List.range n).map (hG t)
theorem aI0(t:oO)(n:Nat):(nJ t n).length=n:=by simp[nJ]
theorem aBx{t:oO}{n i:Nat}(hi:i < n):(aK (nJ t n))[i]? =some (iv (hG t i)):=by simp[aK,nJ,hi]
theorem aIz{t:oO}{n i:Nat}(hl:t.hs.length=6)(hn:n≤6)(hi:i < n)(k:Int):(aK (nJ t n)).set i (iv (hG t i+k))=aK (nJ (mU t i k) n):=by
 rw[Wg]
 congr 1
 refine List.ext_getElem? fun j=>?_;simp only[nJ,List.getElem?_set,List.length_map,List.length_range,List.getElem?_map]
 have h:=aEl (k:=j) (v:=hG t i+k) hl (show i < 6 by omega)
 by_cases hj:j < n
 ·rw[List.getElem?_range hj,Option.map_some,Option.map_some];unfold mU;rw[h]
  by_cases e:i=j
  ·rw[if_pos e,if_pos e,if_pos hi]
  ·rw[if_neg e,if_neg e]
 ·rw[List.getElem?_eq_none (by simp;omega),Option.map_none,Option.map_none,if_neg (by omega)]
theorem aQj(o:Cc s m 0 k d q v e u m')(n:Nat):nJ (m'.z.tk 0) n=if e=0∧k=103 then nJ (mU (m.z.tk 0) d.toNat 1) n else if e=0∧k=112 then nJ (mU (m.z.tk 0) d.toNat (-1)) n else nJ (m.z.tk 0) n:=by
 have h:=aQK o
 unfold nJ hG;rw[h];split
 ·rfl
 ·split<;>rfl
theorem aL3(o:Cc s m 0 k d q v e u m')(he:e=0)(hk:k=103∨k=112):∃i:Nat,d=(i:Int)∧i < s.aC.length:=by
 have h1:e=(oH s m.z 0 k d q).1:=by rw[←o.out]
 have key:bB s.aC.length d=true→∃i:Nat,d=(i:Int)∧i < s.aC.length:=fun h=>by
  have:=of_decide_eq_true h
  exact⟨d.toNat,by omega,by omega⟩
 refine key ?_;cases hb:bB s.aC.length d with
 | true=>rfl
 | false =>
  exfalso;unfold oH at h1;dsimp only at h1;rcases hk with rfl | rfl
  ·have:(nO s.aC.length m.z.cn d).1≠0:=by
    unfold nO;split
    ·simp
    ·rw[if_pos (by intro h;simp[bB,h] at hb)];simp
   rw[if_pos rfl,if_pos this] at h1;exact this (h1.symm.trans he)
  ·rw[if_neg (by decide),if_pos rfl,if_pos hb] at h1;exact absurd (show(4:Int)=0 from h1.symm.trans he) (by decide)
theorem aQk(s:aD)(n:Nat)(hn:n≤6):List.replicate n (iv 0)=aK (nJ ((Ms s).z.tk 0) n):=by
 refine List.ext_getElem? fun i=>?_;simp only[aK,nJ,List.map_map,List.getElem?_replicate,List.getElem?_map]
 by_cases h:i < n
 ·rw[if_pos h,List.getElem?_range h]
  show _=some (iv ((List.replicate 6 (0:Int)).getD i 0))
  rcases i with _ | _ | _ | _ | _ | _ | i<;>first | rfl | omega
 ·rw[if_neg h,List.getElem?_eq_none (by simp;omega)];rfl
end
end
section
open Go.RowKit Go.Maps
theorem aPp(r:Nat)(es:Array MapEntry)(clock:Nat)(w:World)(hb:w.heap[r]? =some (.map es clock)):
  Cz 145 #[.map (some r)] w fun e w'=>e=.returned (.map (some w.heap.size))∧w'=w.alloc (.map es clock):=by
 have hq:=fun w=>run_eql_map_nil_sl (P:=Tryz.prog) w 158 3 3 (some r) (by kernel_rfl)
 have mixed:Tryz.prog.follows .mixedOrders=true:=by kernel_rfl
 go_enter func145,ntmps145
 go_wp2
 rw[run_callFunc_extern func212 (by kernel_rfl) (by kernel_rfl) (by kernel_rfl) (e:=Extern.MapsClone.clone) (by kernel_rfl),run_maps_clone_sl w 158 hb];simp only[Result.andThen];rw[Oper.upon_value]
 go_wp2
 rw[run_typeAssert_map_sl _ 158 20 3 3 _ (by kernel_rfl)];simp only[Result.andThen];rw[Oper.upon_value]
 go_wp2
 go_ret
 exact⟨rfl,rfl⟩
end
section
def aKI(l:List (Int×Value))(v:Value)(hs:List HP)(_:Piece):Prop:=∃g,v=.map (some g)∧hs=[HP.map g l]
theorem aPq(r:Nat)(l:List (Int×Value))(w:World)(hm:tF w r l):
  Cz 145 #[.map (some r)] w fun y w'=>(∃v hs q,y=.returned v∧q.w=w'∧aKI l v hs q∧jD w hs q)∧Below w.heap.size w w':=by
 obtain⟨es,c,h1,h2⟩:=hm;refine(aPp r es c w h1).mono fun y w' ⟨hy,hw⟩=>?_;subst hw;refine⟨⟨_,_,⟨w.alloc (.map es c),fun _=>False⟩,hy,rfl,⟨w.heap.size,rfl,rfl⟩,?_⟩,Oi w _⟩;refine⟨fun i b=>i=0∧b=w.heap.size,fun i p hp=>?_,fun i b hb=>?_,fun i j b hij hi hj=>hij (hi.1.trans hj.1.symm),fun _ h=>h.elim⟩
 ·cases i with
  | zero=>
   cases hp;exact⟨⟨rfl,rfl⟩,es,c,heap_alloc_new w _,h2⟩
  | succ i=>simp at hp
 ·obtain⟨_,rfl⟩:=hb;refine⟨Nat.le_refl _,?_,fun h=>h⟩;exact(Array.getElem?_eq_some_iff.1 (heap_alloc_new w (.map es c))).1
theorem St.aPw{w0 w:World}{R:List Piece}{H:List HP}{g f:Nat}{hL:HL}{s:aD}{m:dN}(t:St w0 R H w)(i:Nat)(hi:H[i]? =some (jV g f hL s m)):∃L,Ea w g hL.h f L s m.z∧tF w L.gm (tB m.z.cn.l):=by
 obtain⟨F,h1,h2,_⟩:=t.chunk hi;obtain⟨G,g1,g2,_⟩:=h1;obtain⟨L,hL⟩:=g1 0 _ rfl;refine⟨L,aCq hL fun b hb=>h2 b (g2 0 b hb),?_⟩;obtain⟨G1,k1,_⟩:=hL;obtain⟨G2,l1,_⟩:=k1 3 _ rfl;exact(l1 1 _ rfl).2
def aLa(v:Value)(c:Cn)(x:Value)(hs:List HP)(_:Piece):Prop:=∃gc gm,x=pt gc∧hs=[nZ gc gm v c]
theorem aSC(gc gm:Nat)(A:Option Addr)(n k:Nat)(c:Cn)(w:World)(h0:eD w gc 0 [.slice A n k,.map (some gm),.bool c.iZ])(hm:tF w gm (tB c.l)):
  Cz 66 #[pt gc] w fun y w'=>(∃x hs q,y=.returned x∧q.w=w'∧aLa (.slice A n k) c x hs q∧jD w hs q)∧Below w.heap.size w w':=by
 have k0:=h0.at_ (j:=0) rfl
 have k1:=h0.at_ (j:=1) rfl
 have k2:=h0.at_ (j:=2) rfl
 rw[Nat.zero_add] at k0 k1 k2;refine aM func66 ntmps66 ?_;refine aB ?_;refine qC ?_;refine aL 8 ?_;refine iA (aKI (tB c.l)) (fun w1 st=>aPq gm _ w1 (hm.below (st.started (by simp)))) ?_;rintro _ _ q1 ⟨gn,rfl,rfl⟩ _;dsimp only[List.cons_append,List.nil_append];refine bH ?_;refine aL 13 ?_;refine kd (fY rfl) ?_;refine bH ?_;refine aL 14 ?_;refine bA fun g2=>?_;refine bH ?_;refine nQ [15] ?_;refine aB ?_;refine nA ?_;refine dP [] [] [0] (by simp) rfl (by decide) (by decide) fun q _ _ hfr=>?_;exact mZ rfl rfl fun w1 t=>⟨⟨_,_,⟨w1,q.Z⟩,rfl,rfl,⟨g2,gn,rfl,rfl⟩,t.newR (by simp) (by simp) (hfr (by simp) (by simp))⟩,t.below (by simp)⟩
def CpE(s:aD)(c:Cn)(x:Value)(hs:List HP)(_:Piece):Prop:=∃A k gc gm,x=pt gc∧hs=[nZ gc gm (.slice A (bP s).length k) c]
theorem aNa(g h f:Nat)(L:dK)(s:aD)(z:aV)(w:World)(hR:Ea w g h f L s z)(hm:tF w L.gm (tB z.cn.l)):
  Cz 31 #[pt g] w fun y w'=>(∃x hs q,y=.returned x∧q.w=w'∧CpE s z.cn x hs q∧jD w hs q)∧Below w.heap.size w w':=by
 refine aM func31 ntmps31 ?_
 have k0:=hR.r0.at_ (j:=6) rfl
 rw[Nat.zero_add] at k0;refine aB ?_;refine iA (aLa (.slice L.nd.1 (bP s).length L.nd.2) z.cn) (fun w1 st=>aSC L.gc L.gm _ _ _ z.cn w1 (hR.below (st.started (by simp))).cn (hm.below (st.started (by simp)))) ?_;rintro _ _ q1 ⟨gc,gn,rfl,rfl⟩ hf;dsimp only[List.cons_append,List.nil_append];refine aB ?_;exact mZ rfl rfl fun w1 t=>⟨⟨_,_,⟨w1,q1.Z⟩,rfl,rfl,⟨_,_,gc,gn,rfl,rfl⟩,t.newR (by simp) (by simp) hf⟩,t.below (by simp)⟩
section
variable{w0 w:World}{R:List Piece}{H:List HP}{g f:Nat}{hL:HL}{s:aD}{m:dN}
theorem aPl(i:Nat)(t:St w0 R H w)(hi:H[i]? =some (jV g f hL s m)):Cz 31 #[pt g] w fun y w'=>(∃x hs q,y=.returned x∧q.w=w'∧CpE s m.z.cn x hs q∧jD w hs q)∧Below w.heap.size w w':=by
 obtain⟨L,hR,hM⟩:=t.aPw i hi;exact aNa g hL.h f L s m.z w hR hM
theorem aPi{t d x:Int}(hx:Sd s m.z t d=x)(lX:s.aC.length≤6)(i:Nat)(st:St w0 R H w)(hi:H[i]? =some (jV g f hL s m)):Cz 33 #[pt g,iv t,iv d] w (Rt (iv x) w):=by
 obtain⟨L,hR⟩:=st.mac i hi;exact hx▸aMX g hL.h f L s m.z w t d lX hR
theorem aJ2{gc gm:Nat}{v:Value}{c:Cn}{d x:Int}{w:World}{F:Nat→Prop}(hx:fX c.l d=x)(hp:(nZ gc gm v c).sat F w)(hF:∀b,F b→b < w.heap.size):Cz 32 #[pt gc,iv d] w (Wr (iv x) (nZ gc gm v c) w F):=hx▸aSB gc gm v c d w F hp hF
end
end
section
section
variable{w0 w:World}{R:List Piece}{H:List HP}{g f:Nat}{hL:HL}{s:aD}{m:dN}
theorem aPn{n v:Nat}{b:Bool}(hm:s.made)(aW:iO hL s)(hok:fB s n m)(hb:wD s m.x v=b)(hv:v < s.aC.length)(i:Nat)(st:St w0 R H w)(hi:H[i]? =some (jV g f hL s m)):Cz 14 #[.pointer (some ⟨hL.h,0,none⟩),iv v] w (Rt (.bool b) w):=by
 obtain⟨F,h1,h2,_⟩:=st.chunk hi;obtain⟨G,g1,g2,_⟩:=h1;exact hb▸aI8 hL s m.x w hm.dI aW hok.hw v hv (aKO (g1 2 _ rfl) (fun b hb=>h2 b (g2 2 b hb)) aW hok.hw)
end
section
variable{gc gm k:Nat}{A:Option Addr}{s:aD}{c c':Cn}{d e:Int}{w:World}{F:Nat→Prop}
theorem aSH(h:(e,c')=nO s.aC.length c d)(hp:(lC gc gm A k (bP s) c).sat F w)(hF:∀b,F b→b < w.heap.size):Cz 25 #[pt gc,iv d] w (Wr (iv e) (lC gc gm A k (bP s) c') w F):=by
 obtain⟨rfl,rfl⟩:=Prod.mk.inj h;rw[←Fi];exact Ii 0 rfl (fun F0 g1 g2 _=>aJ1 gc gm _ k A c w F0 d g1 g2) hp hF
theorem aSG(h:(e,c')=kA s.aC.length c d)(hp:(lC gc gm A k (bP s) c).sat F w)(hF:∀b,F b→b < w.heap.size):Cz 28 #[pt gc,iv d] w (Wr (iv e) (lC gc gm A k (bP s) c') w F):=by
 obtain⟨rfl,rfl⟩:=Prod.mk.inj h;rw[←Fi];exact Ii 0 rfl (fun F0 g1 g2 _=>aJy gc gm _ k A c w F0 d g1 g2) hp hF
theorem aSE(h:(e,c')=sE c)(hp:(lC gc gm A k (bP s) c).sat F w)(hF:∀b,F b→b < w.heap.size):Cz 26 #[pt gc] w (Wr (iv e) (lC gc gm A k (bP s) c') w F):=by
 obtain⟨rfl,rfl⟩:=Prod.mk.inj h;exact Ii 0 rfl (fun F0 g1 g2 _=>aJw gc gm _ k A c w F0 g1 g2) hp hF
theorem aSF(h:(e,c')=sF c)(hp:(lC gc gm A k (bP s) c).sat F w)(hF:∀b,F b→b < w.heap.size):Cz 27 #[pt gc] w (Wr (iv e) (lC gc gm A k (bP s) c') w F):=by
 obtain⟨rfl,rfl⟩:=Prod.mk.inj h;exact Ii 0 rfl (fun F0 g1 g2 _=>aJx gc gm _ k A c w F0 g1 g2) hp hF
theorem aSI{x:Int}(hx:fX c.l d=x)(hp:(lC gc gm A k (bP s) c).sat F w)(hF:∀b,F b→b < w.heap.size):Cz 32 #[pt gc,iv d] w (Wr (iv x) (lC gc gm A k (bP s) c) w F):=Ii 0 rfl (fun F0 g1 g2 _=>aJ2 hx g1 g2) hp hF
theorem aJ4{b:Bool}{w0:World}{R:List Piece}{H:List HP}(hb:c.iZ=b)(i:Nat)(st:St w0 R H w)(hi:H[i]? =some (lC gc gm A k (bP s) c)):Cz 29 #[pt gc] w (Rt (.bool b) w):=by
 obtain⟨F,h1,h2,_⟩:=st.chunk hi;obtain⟨G,g1,g2,_⟩:=h1;obtain⟨I,i1,i2,_⟩:=g1 0 _ rfl
 have k:=(uV (i1 0 _ rfl).2).at_ (j:=2) rfl
 exact hb▸aJ3 gc c.iZ w k
theorem aSD(hm:s.made)(hp:(lC gc gm A k (bP s) c).sat F w)(hF:∀b,F b→b < w.heap.size):Cz 30 #[pt gc] w (fun y w'=>∃b:Nat,y=.returned (.slice (some ⟨b,0,none⟩) s.aC.length s.aC.length)∧True∧∃F',(HP.many [lC gc gm A k (bP s) c,HP.aE b 4 (bE (dV s c))]).sat F' w'∧gX w w' F F'):=by
 have gB:=Fi s
 have lX:=hm.nv
 have:=aEH gc gm A k (bP s) c _ rfl (by omega) (fun l hl=>by
  obtain⟨i,hi⟩:=List.getElem?_of_mem hl;simp only[bP,List.getElem?_map] at hi;cases hd:s.aC[i]? with
  | none=>rw[hd] at hi;cases hi
  | some d=>
   rw[hd] at hi;cases hi
   have:=(hm.aC i d hd).2.2.2.2.2.2.2.2.2.2.1
   show((d.iS.length:Nat):Int)≤1000
   omega) (by rw[gB];exact(aBb hm).2.2) w F hp hF
 rw[←gB];exact this
end
theorem call6{k:Int}(h:pF k):k=103∨k=112∨k=115∨k=109∨k=114∨k=119:=by
 unfold pF at h;omega
theorem aNV{s:aD}{c c':Cn}{e h d q:Int}(hw:(e,c')=aA3 s c h 112 d q):c'=(kA s.aC.length c d).2:=by
 have:(e,c')=(if bB s.aC.length d=false then(4,(kA s.aC.length c d).2) else kA s.aC.length c d):=hw
 split at this
 ·exact congrArg Prod.snd this
 ·exact congrArg Prod.snd this
theorem aNW{s:aD}{c c':Cn}{e h d q:Int}(hw:(e,c')=aA3 s c h 112 d q):((0≤d∧d < s.aC.length)→e=(kA s.aC.length c d).1)∧(¬(0≤d∧d < s.aC.length)→e=4):=by
 have:(e,c')=(if bB s.aC.length d=false then(4,(kA s.aC.length c d).2) else kA s.aC.length c d):=hw
 constructor
 ·intro h;rw[show bB s.aC.length d=true from decide_eq_true h,if_neg (by simp)] at this;exact congrArg Prod.fst this
 ·intro h;rw[show bB s.aC.length d=false from decide_eq_false h,if_pos rfl] at this;exact congrArg Prod.fst this
theorem aMc{s:aD}{n:Nat}{m:dN}(h:fB s n m)(hx:Pd m){i:Nat}(hi:i < s.aC.length):fX m.z.cn.l (i:Int)=hG (m.z.tk 0) i:=by
 have h1:=h.sQ.toRwB.cnt i
 have:=hx i
 omega
theorem aLL{s:aD}{c:Cn}{i:Nat}(hi:i < s.aC.length):(bE (dV s c))[i]? =some (.bool (hasB (dV s c) i)):=by
 have hl:(dV s c).length=s.aC.length:=(aKb _ _ _).trans (Fi s)
 rw[Dk,bE,List.getElem?_map,List.getElem?_eq_getElem (by omega)];rfl
theorem aTV{s:aD}{m:dN}(hm:s.made)(h:qV s m){i:Nat}(hi:i < s.aC.length)(hu:hasB (dV s m.z.cn) i=true):wD s m.x i=true:=by
 obtain⟨d,hd⟩:=get_some hi;exact(h.alive hm hd hu).1
theorem aUq{α:Type}{P:Program}{N:cE}{w0:World}{e:Env}{R:List Piece}{H:List HP}{Q:Exit→Act→World→Prop}{x1 x2 x3 z:Code}(E:α→Env)(C:α→List HP)(G:α→Prop)(h:XK N w0 (x1.wp P (Exit.then (x2.wp P (Exit.then (x3.wp P (Exit.then (Ue N w0 E R C G) Q)) Q)) Q)) e R H)(hy:∀v,G v→XK N w0 (z.wp P Q) (E v) R (C v)):XK N w0 ((Code.seq x1 (Code.seq x2 (Code.seq x3 z))).wp P Q) e R H:=fun a w hr st=>by
 have m:∀{x:Code} {K K':Act→World→Prop},(∀a w,K a w→K' a w)→∀a w,x.wp P (Exit.then K Q) a w→x.wp P (Exit.then K' Q) a w:=fun hk a w h=>wp_mono h fun ex a' w' hq=>by cases ex<;>first | exact hk _ _ hq | exact hq
 exact wp_seq (m (fun _ _ h=>wp_seq (m (fun _ _ h=>wp_seq (m (fun _ _ ⟨v,g,r,s⟩=>hy v g _ _ r s) _ _ h)) _ _ h)) _ _ (h a w hr st))
theorem Th{N:cE}{w0:World}{e:Env}{R:List Piece}{H:List HP}{K:Act→World→Prop}{b o:Nat}{v:Value}(h:Rd w0 R H b o v)(k:Rd w0 R H b o v→XK N w0 K e R H):XK N w0 K e R H:=k h
set_option maxRecDepth 100000 in
theorem aMP(A:Option Addr)(n c:Nat)(zs:List Int)(B:Option Addr)(nb cb:Nat)(Bn:List pQ)(w:World)(h0:aI (all w) 1 A n (aK zs))(hz:aCw zs)(hn:n=zs.length)(hn2:n≤9223372036854775807)(h1:aI (all w) 12 B nb (Bn.flatMap pQ.cells))(hac:∀a∈Bn,a.ok)(hnb:nb=Bn.length)(aUX:nb≤9223372036854775807)(fC:kQ (all w)):
    Cz 6 #[.slice A n c,.slice B nb cb] w (Rt (.bool true) w):=by
  refine aM func6 ntmps6 ?_;refine aB ?_;refine aU (fun w1 t=>aMp w1) ?_;refine aB ?_;refine jR [] (fun v w w'=>∃cs s,v=.agg cs∧wH (fH (fresh w w')) s cs∧s.made) (fun w1 t=>aSZ A n c zs w1 (h0.le (t.le (by simp))) hz hn hn2) ?_;rintro _ w1 q1 ⟨cs,s,rfl,hcs,hm⟩ Db _ qP
  have qP:=qP (by simp)
  obtain⟨A1,m1,k1,A2,m2,k2,A3,m3,k3,A4,m4,k4,rfl,hsp⟩:=wH.P hcs
  have hsp:=hsp.le Db
  obtain⟨rfl,rfl,rfl,rfl⟩:=hsp.len;obtain⟨L,Ig⟩:∃L:dK,L.a1=(A1,k1)∧L.a2=(A2,k2)∧L.a3=(A3,k3)∧L.a4=(A4,k4):=⟨⟨(A1,k1),(A2,k2),(A3,k3),(A4,k4),0,0,(none,0),(none,0),(none,0),(none,0),(none,0)⟩,rfl,rfl,rfl,rfl⟩
  have hsp:kM L s q1:=by unfold kM;rw[Ig.1,Ig.2.1,Ig.2.2.1,Ig.2.2.2];exact hsp
  have wZ:∀p,kM L s p→sL p s A1 s.aF.length A2 s.domains.length A3 s.aR.length A4 s.aC.length:=fun p h=>by unfold kM at h;rw[Ig.1,Ig.2.1,Ig.2.2.1,Ig.2.2.2] at h;exact h
  have hL4:L.a4.1=A4:=by rw[Ig.2.2.2]
  refine Jd (Φ:=kM L s) (hm:=kM.le) qP (by simp[all]) hsp ?_
  have lX:=hm.nv
  have cR:=We hm
  refine aB ?_;refine bX fun gS=>?_;refine aB ?_;refine iA (aFv s) (fun w1 t=>aGS s A1 A2 A3 A4 _ k1 _ k2 _ k3 _ k4 w1 ((wZ _ (t.bR 1 rfl)).W (Piece.Le.refl _) cR) hm) ?_;rintro _ _ q2 ⟨gR,f,r,hL,pX,rfl,rfl,aW⟩ _;dsimp only[List.cons_append,List.nil_append];refine aY [1,2,3,0,4,5] rfl (by decide) (R':=[all w]) (by simp) ?_;refine Zw ?_;refine aB ?_;refine aG rfl (fun hg=>?_) (fun hg=>?_)
  · refine aB ?_
    exact cY
  refine aB ?_;refine iA (aF7 s) (fun w1 t=>aJz s A1 A2 A3 A4 _ k1 _ k2 _ k3 _ k4 w1 hm ((wZ _ (t.bR 3 rfl)).W (Piece.Le.refl _) cR)) ?_;rintro _ _ qq ⟨gc,gm,Ag,cg,rfl,rfl⟩ _;dsimp only[List.cons_append,List.nil_append];refine aB ?_;refine lO (n:=s.aC.length) 8 (el:=3) (z:=iv 0) (by kernel_rfl) (by kernel_rfl) rfl rfl rfl (by omega) (by omega) (by decide) fun gh=>?_;rw[aQk s s.aC.length (by omega)];refine aB ?_;refine aKu 5 rfl fun rows hrw=>?_;dsimp only[List.set];refine aCc (A:=L.a4.1) (sz:=6) (n:=s.aC.length) (xs:=rows.flatten) 5 rfl (fun _ h=>h.2) (by omega) fun bd od hA=>?_;obtain rfl:A4=some ⟨bd,od,none⟩:=hL4.symm.trans hA;refine Dz (α:=Unit) (fun _=>[]) (fun _=>[]) (fun _=>True) ?_ fun _ _=>?_
  · refine qB (α:=dN) (fun i _=>[(9,pt gc),(11,.slice (some ⟨gh,0,none⟩) s.aC.length s.aC.length),(7,pt gR),(12,iv i),(1,.slice B nb cb),(6,pt gS)]) (fun _ m=>[jV r f hL s m,lC gc gm Ag cg (bP s) m.z.cn,HP.aE gh 3 (aK (nJ (m.z.tk 0) s.aC.length)),HP.aE gR 58 [.pointer (some ⟨hL.h,0,none⟩),pt f,pt r,.pointer pX],HP.aE gS 30 [.slice A1 s.aF.length k1,.slice A2 s.domains.length k2,.slice A3 s.aR.length k3,.slice (some ⟨bd,od,none⟩) s.aC.length k4],HP.bR (qT L s rows) (qT.le (L:=L) (s:=s) (rows:=rows))]) (fun i m=>fB s (i*400) m∧qV s m∧Pd m) nb (Ms s) ⟨aPx hm,aNp hm,aMl⟩ fun i m hi hx=>?_
    obtain⟨hok,Da,aDI⟩:=hx;refine aB ?_;refine aG rfl (fun hlt=>?_) (fun hge=>?_)
    · have hlt:i < Bn.length:=by omega
      obtain⟨a,ha⟩:=get_some hlt
      have aEh:=hac a (List.mem_of_getElem? ha)
      obtain⟨b,off,rfl,gA,hc⟩:=h1.2 (by omega)
      have ka:eD w b (off+i*12) a.cells:=⟨gA,fun k v hv=>by rw[Nat.add_assoc];exact hc _ _ (aTX ha hv)⟩
      obtain⟨a0,a1,a2,a3,a4,a5,q0,q1,q2,q3,q4,q5⟩:=a
      have hv5:0≤a5∧a5 < 4294967296:=aEh.v
      refine aB ?_;refine Lr (α:=Nat) (fun g=>[(13,pt g),(9,pt gc),(11,.slice (some ⟨gh,0,none⟩) s.aC.length s.aC.length),(7,pt gR),(12,iv i),(1,.slice (some ⟨b,off,none⟩) nb cb),(6,pt gS)]) (fun g=>[HP.aE g 46 [.int .u8 (aEN ⟨a0,a1,a2,a3,a4,a5,q0,q1,q2,q3,q4,q5⟩),iv (aBL ⟨a0,a1,a2,a3,a4,a5,q0,q1,q2,q3,q4,q5⟩ s.aC.length),iv (aBK ⟨a0,a1,a2,a3,a4,a5,q0,q1,q2,q3,q4,q5⟩),.int .u32 a5],jV r f hL s m,lC gc gm Ag cg (bP s) m.z.cn,HP.aE gh 3 (aK (nJ (m.z.tk 0) s.aC.length)),HP.aE gR 58 [.pointer (some ⟨hL.h,0,none⟩),pt f,pt r,.pointer pX],HP.aE gS 30 [.slice A1 s.aF.length k1,.slice A2 s.domains.length k2,.slice A3 s.aR.length k3,.slice (some ⟨bd,od,none⟩) s.aC.length k4],HP.bR (qT L s rows) (qT.le (L:=L) (s:=s) (rows:=rows))]) (fun _=>True) ?_ fun g _=>?_
      · refine qC ?_
        refine Ji 7 8 rfl rfl (by kernel_rfl) ?_ ?_
        · refine aU (fun w1 t=>aJJ ⟨a0,a1,a2,a3,a4,a5,q0,q1,q2,q3,q4,q5⟩ s.aC.length w1 aEh ⟨by omega,by omega⟩) ?_
          refine bH ?_;refine aL 8 ?_;refine bX fun g=>?_;refine bH ?_;refine nQ [9] ?_;refine aB ?_;exact eI g
        · refine bX fun g=>?_
          refine bH ?_;refine aL 7 ?_;refine aU (fun w1 t=>aJJ ⟨a0,a1,a2,a3,a4,a5,q0,q1,q2,q3,q4,q5⟩ s.aC.length w1 aEh ⟨by omega,by omega⟩) ?_;refine bH ?_;refine nQ [9] ?_;refine aB ?_;exact eI g
      have hkk:=aP7 (zV a2 13) (Ql a2 13 (by decide)).1 (Ql a2 13 (by decide)).2
      have dY:0≤aBL ⟨a0,a1,a2,a3,a4,a5,q0,q1,q2,q3,q4,q5⟩ s.aC.length:=(Ql a3 _ (by omega)).1
      have cF:0≤aBK ⟨a0,a1,a2,a3,a4,a5,q0,q1,q2,q3,q4,q5⟩:=(Ql a4 4 (by omega)).1
      generalize hkq:aEN ⟨a0,a1,a2,a3,a4,a5,q0,q1,q2,q3,q4,q5⟩=kk;generalize aBL ⟨a0,a1,a2,a3,a4,a5,q0,q1,q2,q3,q4,q5⟩ s.aC.length=dd at dY⊢;generalize aBK ⟨a0,a1,a2,a3,a4,a5,q0,q1,q2,q3,q4,q5⟩=rr at cF⊢
      replace hkk:kk=120∨pF kk:=by rw[←hkq];exact hkk
      refine aB ?_;refine aG rfl (fun aID=>?_) (fun aID=>?_)
      · refine aB ?_
        exact jJ m (hg:=⟨hok.le (by rw[Nat.succ_mul];omega),Da,aDI⟩)
      replace hkk:pF kk:=hkk.resolve_left aID
      have aVd:i≤14:=by omega
      obtain⟨e,u,m',out⟩:=aTs (k:=kk) (d:=dd) (q:=rr) (v:=a5) hm Da hok (.inl rfl) hkk hv5
      have Dc:fB s ((i+1)*400) m':=(out.ok hm hok Da (.inl rfl) hkk hv5).le (by omega)
      have aIi:=out.rest
      have aIc:=aDI.out out
      have Fm:=aL2 out hok aDI dY cF
      have hin:=aL3 out
      have vW:=aQj out s.aC.length
      have hno:=out.no
      have hhl:=hok.sQ.toRwB.len 0 (.inl rfl)
      have Hy:=hok.sQ.toRwB.nn 0 (.inl rfl)
      have hh7:=aEm hok.sQ.toRwB (.inl rfl:T3 0)
      have hh1:=fun i=>aEm Dc.sQ.toRwB (.inl rfl:T3 0) i
      refine aB ?_;refine aY [4,1,2,3,5,6,0] rfl (by decide) (fun _ h=>h) ?_;refine nA ?_;refine dR 0 (aFt gR r f hL (.pointer pX) s m') (fun w1 F1 t h1 h2 h3=>aMw gR r f hL (.pointer pX) s (i*400) 400 m m' 0 kk dd rr a5 e u _ w1 F1 hm aW hok (by omega) (by decide) hv5 (aGt Da (.inl rfl) hkk) out.stl (kQ.le fC (h3 _ (by simp))) h1 h2) ?_;refine bF 0 0 ?_;refine bF 1 1 ?_;refine aY [0,3,4,1,5,6,7] rfl (by decide) (fun _ h=>h) ?_;refine aB ?_;refine bX fun g14=>?_;refine aB ?_;refine Dz (α:=Unit) (fun _=>[(17,iv e),(13,pt g),(14,pt g14),(9,pt gc),(11,.slice (some ⟨gh,0,none⟩) s.aC.length s.aC.length),(7,pt gR),(12,iv i),(1,.slice (some ⟨b,off,none⟩) nb cb),(6,pt gS)]) (fun _=>[HP.aE g14 42 [iv e,.int .u32 u],HP.aE g 46 [.int .u8 kk,iv dd,iv rr,.int .u32 a5],jV r f hL s m',lC gc gm Ag cg (bP s) m'.z.cn,HP.aE gh 3 (aK (nJ (m.z.tk 0) s.aC.length)),HP.aE gR 58 [.pointer (some ⟨hL.h,0,none⟩),pt f,pt r,.pointer pX],HP.aE gS 30 [.slice A1 s.aF.length k1,.slice A2 s.domains.length k2,.slice A3 s.aR.length k3,.slice (some ⟨bd,od,none⟩) s.aC.length k4],HP.bR (qT L s rows) (qT.le (L:=L) (s:=s) (rows:=rows))]) (fun _=>True) ?_ fun _ _=>?_
      · rcases call6 hkk with rfl | rfl | rfl | rfl | hk
        · refine aB ?_
          refine dR 2 (lC gc gm Ag cg (bP s) m'.z.cn) (fun w1 F1 t h1 h2 h3=>aSH Fm h1 h2) ?_;refine aB ?_;exact eI ()
        · have h2:((kA s.aC.length m.z.cn dd).1,m'.z.cn)=kA s.aC.length m.z.cn dd:=Prod.ext rfl (aNV Fm)
          have h3:=aNW Fm
          refine aB ?_;refine dR 2 (lC gc gm Ag cg (bP s) m'.z.cn) (fun w1 F1 t h1 h2' h3=>aSG h2 h1 h2') ?_;refine aB ?_;refine aG rfl (fun hl=>?_) (fun hl=>?_)
          · obtain rfl:=h3.2 (by omega)
            refine aB ?_;exact eI ()
          · rw[←h3.1 (by omega)]
            refine aB ?_;exact eI ()
        · refine aB ?_
          refine dR 2 (lC gc gm Ag cg (bP s) m'.z.cn) (fun w1 F1 t h1 h2 h3=>aSE Fm h1 h2) ?_;refine aB ?_;exact eI ()
        · refine aB ?_
          refine dR 2 (lC gc gm Ag cg (bP s) m'.z.cn) (fun w1 F1 t h1 h2 h3=>aSF Fm h1 h2) ?_;refine aB ?_;exact eI ()
        · obtain⟨hcn,he⟩:m'.z.cn=m.z.cn∧e=if bB s.aC.length dd=false∨vM s dd≤rr then 4 else if hG (m.z.tk 0) dd.toNat=0∨m.z.cn.iZ=true then 6 else 0:=by rcases hk with rfl | rfl<;>exact⟨congrArg Prod.snd Fm,congrArg Prod.fst Fm⟩
          rw[hcn];clear Fm hin vW hno;rcases hk with rfl | rfl
          all_goals
            refine aB ?_;refine bQ (t:=16) rfl (fun hl=>?_) (fun hl=>?_)
            · obtain⟨dn,rfl⟩:∃n:Nat,dd=(n:Int):=⟨dd.toNat,by omega⟩
              obtain⟨dv,rI⟩:=get_some (l:=s.aC) (i:=dn) (by omega);obtain⟨rwv,aPN,Ax,kx,Ay,ny,ky,rfl⟩:=hrw.row dn dv rI
              have hb:bB s.aC.length (dn:Int)=true:=decide_eq_true (by omega)
              have aPP:vM s (dn:Int)=dv.aO.length:=by unfold vM;rw[Int.toNat_natCast,rI];rfl
              rw[hb,aPP,Int.toNat_natCast] at he;refine Th (Rd.dev (j:=dn) (k:=4) 6 rfl hrw hL4 aPN (by omega) rfl) fun hrd=>?_;refine Th (Rd.aE 3 rfl (aBx (i:=dn) (by omega))) fun aDP=>?_;refine aAd ?_;refine fE ?_;refine aB ?_;refine aG rfl (fun hq=>?_) (fun hq=>?_)
              · obtain rfl:e=4:=by rw[he,if_pos (.inr (by omega))]
                refine aB ?_;exact eI ()
              · rw[if_neg (by rintro(h | h);cases h;omega)] at he
                refine aB ?_;refine bQ (t:=106) rfl (fun h0=>?_) (fun h0=>?_)
                · obtain rfl:e=6:=by rw[he,if_pos (.inl h0)]
                  refine aB ?_;exact eI ()
                · cases ha:m.z.cn.iZ
                  · obtain rfl:e=0:=by rw[he,if_neg (by rintro(h | h);exact h0 h;rw[ha] at h;cases h)]
                    refine aB ?_;refine aU (fun w1 t=>aJ4 ha 2 t rfl) ?_;refine aB ?_;exact eI ()
                  · obtain rfl:e=6:=by rw[he,if_pos (.inr ha)]
                    refine aB ?_;refine aU (fun w1 t=>aJ4 ha 2 t rfl) ?_;refine aB ?_;exact eI ()
            · obtain rfl:e=4:=by rw[he,if_pos (.inl (decide_eq_false (by omega)))]
              refine aAd ?_;refine fE ?_;refine aB ?_;exact eI ()
      refine aUq (α:=Unit) (fun _=>[(9,pt gc),(11,.slice (some ⟨gh,0,none⟩) s.aC.length s.aC.length),(7,pt gR),(12,iv i),(1,.slice (some ⟨b,off,none⟩) nb cb),(6,pt gS)]) (fun _=>[jV r f hL s m',lC gc gm Ag cg (bP s) m'.z.cn,HP.aE gh 3 (aK (nJ (m'.z.tk 0) s.aC.length)),HP.aE gR 58 [.pointer (some ⟨hL.h,0,none⟩),pt f,pt r,.pointer pX],HP.aE gS 30 [.slice A1 s.aF.length k1,.slice A2 s.domains.length k2,.slice A3 s.aR.length k3,.slice (some ⟨bd,od,none⟩) s.aC.length k4],HP.bR (qT L s rows) (qT.le (L:=L) (s:=s) (rows:=rows))]) (fun _=>True) ?_ fun _ _=>?_
      · by_cases he:e=0
        · subst he
          have hx:=hno
          rcases call6 hkk with rfl | rfl | rfl | rfl | hk
          · obtain rfl:u=0:=hno (.inl (by decide))
            obtain⟨dn,rfl,hdn⟩:=hin rfl (.inl rfl)
            have k0:=Hy dn
            have k7:=hh7 dn
            refine Th (Rd.aE 4 rfl (aBx hdn)) fun hrd=>?_;refine aB ?_;refine fD rfl rfl ?_ (hs:=eN.mk 4 rfl cI.h rfl (by simp[aK,aI0];omega));dsimp only[List.set];rw[aIz hhl (by omega) hdn,show nJ (mU (m.z.tk 0) dn 1) s.aC.length=nJ (m'.z.tk 0) s.aC.length by rw[vW,if_pos (by simp),Int.toNat_natCast]];refine aB ?_;exact eI ()
          · obtain rfl:u=0:=hno (.inl (by decide))
            obtain⟨dn,rfl,hdn⟩:=hin rfl (.inr rfl)
            have k0:=Hy dn
            have k7:=hh7 dn
            refine Th (Rd.aE 4 rfl (aBx hdn)) fun hrd=>?_;refine aB ?_;refine fD rfl rfl ?_ (hs:=eN.mk 4 rfl cI.h rfl (by simp[aK,aI0];omega));dsimp only[List.set];rw[Int.sub_eq_add_neg,aIz hhl (by omega) hdn,show nJ (mU (m.z.tk 0) dn (-1)) s.aC.length=nJ (m'.z.tk 0) s.aC.length by rw[vW,if_neg (by simp),if_pos (by simp),Int.toNat_natCast]];refine aB ?_;exact eI ()
          · obtain rfl:u=0:=hno (.inl (by decide))
            rw[if_neg (by simp),if_neg (by simp)] at vW;rw[←vW];refine aB ?_;exact eI ()
          · obtain rfl:u=0:=hno (.inl (by decide))
            rw[if_neg (by simp),if_neg (by simp)] at vW;rw[←vW];refine aB ?_;exact eI ()
          · have hh:nJ (m'.z.tk 0) s.aC.length=nJ (m.z.tk 0) s.aC.length:=by rw[vW,if_neg (by omega),if_neg (by omega)]
            rw[←hh];rcases hk with rfl | rfl
            all_goals
              refine aB ?_;exact eI ()
        · obtain rfl:=hno (.inr he)
          rw[if_neg (fun h=>he h.1),if_neg (fun h=>he h.1)] at vW;rw[←vW];rcases call6 hkk with rfl | rfl | rfl | rfl | rfl | rfl
          all_goals
            refine aB ?_;refine bQ (t:=136) rfl (fun h=>absurd rfl h) (fun _=>?_);refine aB ?_
            try (refine bQ (t:=149) rfl (fun _=>?_) (fun h=>absurd he h);refine aB ?_)
            refine bQ (t:=157) rfl (fun h=>absurd h he) (fun _=>?_);refine aB ?_;refine bQ (t:=171) rfl (fun h=>absurd h he) (fun _=>?_);refine aB ?_;exact eI ()
      refine aB ?_;refine xR (α:=Nat) 1 (f:=30) (fi:=[]) (ca:=[]) (fun b=>.slice (some ⟨b,0,none⟩) s.aC.length s.aC.length) (fun b=>HP.many [lC gc gm Ag cg (bP s) m'.z.cn,HP.aE b 4 (bE (dV s m'.z.cn))]) (fun _=>True) (by kernel_rfl) rfl rfl rfl (by decide) (fun w1 F1 t h1 h2 h3=>aSD hm h1 h2) fun gu _=>?_;dsimp only[List.set];refine bF 1 0 ?_;refine bF 2 1 ?_;refine aB ?_;refine qB (α:=Unit) (fun v _=>[(19,iv v),(18,.slice (some ⟨gu,0,none⟩) s.aC.length s.aC.length),(9,pt gc),(11,.slice (some ⟨gh,0,none⟩) s.aC.length s.aC.length),(7,pt gR),(12,iv i),(1,.slice (some ⟨b,off,none⟩) nb cb),(6,pt gS)]) (fun _ _=>[HP.aE gu 4 (bE (dV s m'.z.cn)),jV r f hL s m',lC gc gm Ag cg (bP s) m'.z.cn,HP.aE gh 3 (aK (nJ (m'.z.tk 0) s.aC.length)),HP.aE gR 58 [.pointer (some ⟨hL.h,0,none⟩),pt f,pt r,.pointer pX],HP.aE gS 30 [.slice A1 s.aF.length k1,.slice A2 s.domains.length k2,.slice A3 s.aR.length k3,.slice (some ⟨bd,od,none⟩) s.aC.length k4],HP.bR (qT L s rows) (qT.le (L:=L) (s:=s) (rows:=rows))]) (fun _ _=>True) s.aC.length () trivial fun v _ hv _=>?_;refine aB ?_;refine aG rfl (fun hlv=>?_) (fun hgv=>?_)
      · have hlv:v < s.aC.length:=by omega
        obtain⟨x,hx1⟩:∃x,hG (m'.z.tk 0) v=x:=⟨_,rfl⟩
        have hx:fX m'.z.cn.l (v:Int)=x:=hx1▸aMc Dc aIc hlv
        have hx0:Sd s m'.z 0 (v:Int)=x:=hx1▸aQJ (s:=s) m'.z (.inl rfl:T3 0) hlv
        have h77:=hx1▸hh1 v
        have Dp:=hx1▸Dc.sQ.toRwB.nn 0 (.inl rfl) v
        refine aB ?_;refine Lr (α:=Unit) (fun _=>[(230,.bool false),(19,iv v),(18,.slice (some ⟨gu,0,none⟩) s.aC.length s.aC.length),(9,pt gc),(11,.slice (some ⟨gh,0,none⟩) s.aC.length s.aC.length),(7,pt gR),(12,iv i),(1,.slice (some ⟨b,off,none⟩) nb cb),(6,pt gS)]) (fun _=>[HP.aE gu 4 (bE (dV s m'.z.cn)),jV r f hL s m',lC gc gm Ag cg (bP s) m'.z.cn,HP.aE gh 3 (aK (nJ (m'.z.tk 0) s.aC.length)),HP.aE gR 58 [.pointer (some ⟨hL.h,0,none⟩),pt f,pt r,.pointer pX],HP.aE gS 30 [.slice A1 s.aF.length k1,.slice A2 s.domains.length k2,.slice A3 s.aR.length k3,.slice (some ⟨bd,od,none⟩) s.aC.length k4],HP.bR (qT L s rows) (qT.le (L:=L) (s:=s) (rows:=rows))]) (fun _=>True) ?_ fun _ _=>?_
        · refine Th (Rd.aE 0 rfl (aLL hlv)) fun aIk=>?_
          refine Th (Rd.aE 3 rfl (aBx hlv)) fun aDP=>?_
          have hal:=fun h=>aTV hm aIi hlv h
          rw[hx1] at aDP;cases hub:hasB (dV s m'.z.cn) v
          all_goals rw[hub] at aIk
          all_goals refine aFe ?_
          all_goals repeat' (first
            | (refine fE ?_;refine bQ (t:=230) rfl (fun h=>absurd rfl h) (fun _=>?_);refine aB ?_;exact eI ())
            | (refine aCm 218 rfl (fun h=>absurd rfl h) (fun _=>?_);refine nB 27 ?_)
            | (refine aL 10 ?_;(first | (refine fG rfl rfl ?_;refine aU (fun w1 t=>aPn hm aW Dc (hal hub) hlv 1 t rfl) ?_) | refine fR rfl rfl rfl (by decide) ?_);refine bH ?_;refine nB 11 ?_)
            | (refine aL 18 ?_;refine fG rfl rfl ?_;refine iA (CpE s m'.z.cn) (fun w1 t=>aPl 1 t rfl) ?_;rintro _ _ q9 ⟨A9,c9,gc9,gm9,rfl,rfl⟩ _;dsimp only[List.cons_append,List.nil_append];refine aY [0,1,2,3,4,5,6,7] rfl (by decide) (R':=[qq,all w]) (by simp) ?_;refine bH ?_;refine nB 19 ?_)
            | (refine aL 20 ?_;refine fG rfl rfl ?_;refine Rb 0 _ (fun w1 F1 t h1 h2 h3=>aJ2 hx h1 h2) ?_;dsimp only[List.set];refine bH ?_;refine nB 21 ?_)
            | (refine aL 23 ?_;refine fG rfl rfl ?_;refine Rb 3 _ (fun w1 F1 t h1 h2 h3=>aSI hx h1 h2) ?_;dsimp only[List.set];refine bH ?_;refine nB 24 ?_)
            | (refine aL 32 ?_;refine fG rfl rfl ?_;refine aU (fun w1 t=>aPi hx0 (by omega) 2 t rfl) ?_;refine bH ?_;refine nB 33 ?_))
        refine aB ?_;exact jJ ()
      · refine aB ?_
        exact jJ m' (hg:=⟨Dc,aIi,aIc⟩)
    · refine aB ?_
      exact eI ()
  · refine aB ?_
    exact cY
end
section
section
variable{H:Type}{enc:TypeId×Value→H}{w:World}{fuel:Nat}{cs:List Value}{x:DataW H×List MemPlace}
theorem yG{α:Type}{l:List α}{n i:Nat}(h:l.length=n)(hi:i < n):∃y,l[i]? =some y:=⟨l[i]'(by omega),List.getElem?_eq_getElem _⟩
theorem aT2{a:Int}(h:(Lit.int .u32 a).wf=true):0≤a∧a < 4294967296:=by
 simp[Lit.wf,IntKind.min,IntKind.max,IntKind.signed,IntKind.bits] at h;omega
theorem aKg:Tryz.prog.cellsOf 65=12:=by kernel_rfl
theorem aKj:Tryz.prog.cellsOf 63=6:=by kernel_rfl
theorem aKi:Tryz.prog.cellsOf 3=1:=by kernel_rfl
theorem aKh:Tryz.prog.cellsOf 23=1:=by kernel_rfl
theorem aLM{l:List Value}(h:l.length=12):∃a b c d e f g i j k m n,l=[a,b,c,d,e,f,g,i,j,k,m,n]:=by
 match l,h with
 | [a,b,c,d,e,f,g,i,j,k,m,n],_=>exact⟨a,b,c,d,e,f,g,i,j,k,m,n,rfl⟩
theorem aMo{l:List Value}(h:l.length=6):∃a b c d e f,l=[a,b,c,d,e,f]:=by
 match l,h with
 | [a,b,c,d,e,f],_=>exact⟨a,b,c,d,e,f,rfl⟩
theorem aT5(h:DataW.trod enc Tryz.prog w 0 (fun _=>true) true fuel 63 cs=some x):
  ∃a b c d e f:Int,cs=[iv a,iv b,iv c,iv d,iv e,iv f]∧(-9223372036854775808≤b∧b≤9223372036854775807)∧(-9223372036854775808≤c∧c≤9223372036854775807)∧(-9223372036854775808≤d∧d≤9223372036854775807)∧(-9223372036854775808≤e∧e≤9223372036854775807)∧(-9223372036854775808≤f∧f≤9223372036854775807):=by
 obtain⟨xs,n,rfl,_,hl,hxl,hf⟩:=DataW.trod_struct Tryz.underlying63 h;rw[aKj] at hl;obtain⟨a,b,c,d,e,f,rfl⟩:=aMo hl
 have h0:=hf 0 _ rfl
 have h1:=hf 1 _ rfl
 have h2:=hf 2 _ rfl
 have h3:=hf 3 _ rfl
 have h4:=hf 4 _ rfl
 have h5:=hf 5 _ rfl
 simp only[List.getElem_toArray,List.getElem_cons_zero,List.getElem_cons_succ,List.drop_succ_cons,List.drop_zero,aKi,aKh,List.take_succ_cons,List.take_zero] at h0 h1 h2 h3 h4 h5;obtain⟨y0,e0⟩:=yG hxl (i:=0) (by simp);obtain⟨y1,e1⟩:=yG hxl (i:=1) (by simp);obtain⟨y2,e2⟩:=yG hxl (i:=2) (by simp);obtain⟨y3,e3⟩:=yG hxl (i:=3) (by simp);obtain⟨y4,e4⟩:=yG hxl (i:=4) (by simp);obtain⟨y5,e5⟩:=yG hxl (i:=5) (by simp);rw[e0] at h0;rw[e1] at h1;rw[e2] at h2;rw[e3] at h3;rw[e4] at h4;rw[e5] at h5;obtain⟨z0,g0,_,_⟩:=DataW.trod_int Tryz.underlying3 h0;obtain⟨z1,g1,_,w1⟩:=DataW.trod_int Tryz.underlying3 h1;obtain⟨z2,g2,_,w2⟩:=DataW.trod_int Tryz.underlying3 h2;obtain⟨z3,g3,_,w3⟩:=DataW.trod_int Tryz.underlying3 h3;obtain⟨z4,g4,_,w4⟩:=DataW.trod_int Tryz.underlying3 h4;obtain⟨z5,g5,_,w5⟩:=DataW.trod_int Tryz.underlying3 h5;simp at g0 g1 g2 g3 g4 g5;subst g0;subst g1;subst g2;subst g3;subst g4;subst g5;exact⟨_,_,_,_,_,_,rfl,Dw w1,Dw w2,Dw w3,Dw w4,Dw w5⟩
theorem aTY(h:DataW.trod enc Tryz.prog w 0 (fun _=>true) true fuel 65 cs=some x):∃v:pQ,cs=v.cells∧v.ok:=by
 obtain⟨xs,n,rfl,_,hl,hxl,hf⟩:=DataW.trod_struct Tryz.underlying65 h;rw[aKg] at hl;obtain⟨a,b,c,d,e,f,g,i,j,k,m,n',rfl⟩:=aLM hl
 have h0:=hf 0 _ rfl
 have h1:=hf 1 _ rfl
 have h2:=hf 2 _ rfl
 have h3:=hf 3 _ rfl
 have h4:=hf 4 _ rfl
 have h5:=hf 5 _ rfl
 have h6:=hf 6 _ rfl
 simp only[List.getElem_toArray,List.getElem_cons_zero,List.getElem_cons_succ,List.drop_succ_cons,List.drop_zero,aKi,aKh,aKj,List.take_succ_cons,List.take_zero] at h0 h1 h2 h3 h4 h5 h6;obtain⟨y0,e0⟩:=yG hxl (i:=0) (by simp);obtain⟨y1,e1⟩:=yG hxl (i:=1) (by simp);obtain⟨y2,e2⟩:=yG hxl (i:=2) (by simp);obtain⟨y3,e3⟩:=yG hxl (i:=3) (by simp);obtain⟨y4,e4⟩:=yG hxl (i:=4) (by simp);obtain⟨y5,e5⟩:=yG hxl (i:=5) (by simp);obtain⟨y6,e6⟩:=yG hxl (i:=6) (by simp);rw[e0] at h0;rw[e1] at h1;rw[e2] at h2;rw[e3] at h3;rw[e4] at h4;rw[e5] at h5;rw[e6] at h6;obtain⟨z0,g0,_,w0⟩:=DataW.trod_int Tryz.underlying3 h0;obtain⟨z1,g1,_,w1⟩:=DataW.trod_int Tryz.underlying3 h1;obtain⟨z2,g2,_,w2⟩:=DataW.trod_int Tryz.underlying3 h2;obtain⟨z3,g3,_,w3⟩:=DataW.trod_int Tryz.underlying3 h3;obtain⟨z4,g4,_,w4⟩:=DataW.trod_int Tryz.underlying3 h4;obtain⟨z5,g5,_,w5⟩:=DataW.trod_int Tryz.underlying23 h5;obtain⟨q0,q1,q2,q3,q4,q5,g6,u1,u2,u3,u4,u5⟩:=aT5 h6;simp at g0 g1 g2 g3 g4 g5 g6;obtain⟨rfl,rfl,rfl,rfl,rfl,rfl⟩:=g6;subst g0;subst g1;subst g2;subst g3;subst g4;subst g5;exact⟨⟨z0,z1,z2,z3,z4,z5,q0,q1,q2,q3,q4,q5⟩,rfl,Dw w0,Dw w1,Dw w2,Dw w3,Dw w4,aT2 w5,u1,u2,u3,u4,u5⟩
open Go.ChangeShapes Go.WideShapes Go.ChangeAt in
set_option maxRecDepth 100000 in
theorem aO4{v:Value}{d:DataW H}{ps:List MemPlace}{base:Nat}(hval:Value.okWide Tryz.prog w .any base 61 v)(h:DataW.Trod enc Tryz.prog w 0 (fun _=>true) true 61 v d ps):
    ∃(A:Option Addr) (n c:Nat) (Bn:List pQ),v=.slice A n c∧Sl w w.heap.size 12 A n (Bn.flatMap pQ.cells)∧(∀a∈Bn,a.ok)∧n=Bn.length∧n≤9223372036854775807:=by
  obtain⟨a0,len,cap,rfl⟩:=okWide_slice Tryz.underlying61 hval;obtain⟨fuel,hf⟩:=h;obtain⟨A,n,c,ys,hcs,qN,hn,hm,hR⟩:=aMn pQ.cells pQ.ok Tryz.underlying61 aKg (by omega) pQ.len (fun _ _ _ h=>aTY h) hf;simp[Value.cells] at hcs;obtain⟨rfl,rfl,rfl⟩:=hcs;subst hn;exact⟨_,_,_,ys,rfl,qN,hR,rfl,hm⟩
end
end
end Go.Proofs.YtdcdccmpcmjmhaaGreatDoor
