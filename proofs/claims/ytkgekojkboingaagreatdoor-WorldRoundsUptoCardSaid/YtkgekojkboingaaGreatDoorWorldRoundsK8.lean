/- chapter 19's laws: events as the reference has them; whether they are the same. -/
import Derived.Test.YtkgekojkboingaaGreatDoorRows
import Derived.Test.YtkgekojkboingaaGreatDoorWorldRoundsK7
namespace Go.Proofs.YtkgekojkboingaaGreatDoor
set_option linter.all false
set_option maxHeartbeats 4000000
set_option maxRecDepth 20000
open Go.RowKit Go.Proofs.Tryz
section
theorem aQK(k d q v:Int)(w:World):Cz 45 #[.agg #[.int .u8 k,iv d,iv q,.int .u32 v]] w (Rt (.agg #[.int .u8 k,iv d,iv q,.int .u32 v]) w):=by
 refine aO func45 ntmps45 ?_;refine aB ?_;refine bO fun g1=>?_;refine aB ?_;refine bY fun g2=>?_;refine aB ?_;exact Gn (vs:=[.int .u8 k,iv d,iv q,.int .u32 v]) rfl (by kernel_rfl) rfl rfl (aM.whole 0 rfl) fun w1 t=>⟨rfl,t.below (by simp)⟩
theorem aQL(i d v:Int)(b:Bool)(w:World):Cz 46 #[.agg #[iv i,iv d,.bool b,.int .u32 v]] w (Rt (.agg #[iv i,iv d,.bool b,.int .u32 v]) w):=by
 refine aO func46 ntmps46 ?_;refine aB ?_;refine bO fun g1=>?_;refine aB ?_;refine bY fun g2=>?_;refine aB ?_;exact Gn (vs:=[iv i,iv d,.bool b,.int .u32 v]) rfl (by kernel_rfl) rfl rfl (aM.whole 0 rfl) fun w1 t=>⟨rfl,t.below (by simp)⟩
def aEh(n:Nat)(rows:List (List Value))(v:Value)(hs:List HP)(q:Piece):Prop:=∃A c,v=.slice A n c∧hs=[]∧aI q 14 A n rows.flatten
theorem aHA(es:List kF)(rows:List (List Value))(A:Option Addr)(c:Nat)(w:World)(hs:aI (all w) 14 A es.length rows.flatten)(hz:jO es rows (all w))(hn:es.length≤1000000):
  Cz 20 #[.slice A es.length c] w (fun y w'=>(∃v hs q,y=.returned v∧q.w=w'∧aEh es.length rows v hs q∧fZ w hs q)∧Below w.heap.size w w'):=by
 have hlr:=(Rows.len hz).1
 refine aO func20 ntmps20 ?_;refine aB ?_;refine lI 124 14 ?_;refine oF (α:=Option Addr×Nat) (fun a=>[(3,.slice a.1 es.length a.2)]) (fun a=>[HP.own 124 14 (.slice a.1 es.length a.2) es.length rows.flatten]) (fun _=>True) ?_ fun a _=>?_
 ·refine oB (α:=Option Addr×Nat) (fun i a=>[(4,iv i),(3,.slice a.1 i a.2),(0,.slice A es.length c)]) (fun i a=>[HP.own 124 14 (.slice a.1 i a.2) i (rows.take i).flatten]) (fun _ _=>True) es.length (none,0) trivial fun i a hi _=>?_;refine aB ?_;refine aG rfl (fun hlt=>?_) (fun hge=>?_)
  ·have hlt:i < es.length:=by omega
   obtain⟨ro,hro⟩:=get_some (l:=rows) (i:=i) (by omega);obtain⟨e,he,_,Aw,cw,rfl,wR⟩:=Rows.at_ hz hro;obtain⟨b,off,rfl,ka⟩:=aI.row hs (Rows.Gj hz) hro hlt;obtain⟨e1,e2,⟨e3,e4,e5,e6⟩,e7,e8,⟨e9,Iy,Qe,Qd⟩,e13,e14⟩:=e
   have ka1:dQ w b (off+i*14) [.int .u8 e1,iv e2,.int .u8 e3,iv e4,iv e5,.int .u32 e6,iv e7,.int .u32 e8,iv e9,iv Iy,.bool Qe,.int .u32 Qd,.bool e13,.slice Aw e14.length cw]:=ka
   refine aB ?_;refine bY fun g1=>?_;refine aB ?_;refine rE ?_;refine mG 6 ?_ (cM:=jM rfl (aM.mid (vs:=[.int .u8 e3,iv e4,iv e5,.int .u32 e6]) 0 rfl rfl));refine mG 16 ?_ (cM:=jM rfl (aM.mid (vs:=[iv e9,iv Iy,.bool Qe,.int .u32 Qd]) 0 rfl rfl));refine aL 7 ?_;refine aS (fun w1 t=>aQK _ _ _ _ w1) ?_;refine bB ?_;refine aL 17 ?_;refine aS (fun w1 t=>aQL _ _ _ _ w1) ?_;refine bB ?_;refine aL 22 ?_;refine kd (iG rfl) ?_;refine bB ?_;refine aL 23 ?_;refine eH fun g2=>?_;refine bB ?_;refine aL 24 ?_;refine gY 2 14 120 1 (n':=i+1) (el:=124) (by kernel_rfl) (by kernel_rfl) (by decide) rfl rfl rfl (lV 0 rfl rfl) (by simp[Value.oneCell']) rfl (by omega) (by omega) (by decide) fun A2 c2=>?_;dsimp only[List.set];refine cI ?_;refine sV [25] ?_;refine aB ?_
   refine oA (q:=HP.own 124 14 (.slice A2 (i+1) c2) (i+1) (rows.take (i+1)).flatten) 2 rfl (fun F w h=>by
    rw[show(rows.take (i+1)).flatten=(rows.take i).flatten++kF.row ⟨e1,e2,⟨e3,e4,e5,e6⟩,e7,e8,⟨e9,Iy,Qe,Qd⟩,e13,e14⟩ Aw cw by rw[List.take_add_one,hro,List.flatten_append];simp]
    exact h) ?_
   dsimp only[List.set];exact jV (A2,c2)
  ·obtain rfl:i=es.length:=by omega
   rw[←hlr,List.take_length,hlr];refine aB ?_;exact dJ a
 refine aB ?_;refine dG [] [0] [] (by simp) rfl (by decide) (by decide) fun q hq _ hfr=>?_;obtain⟨F0,Ta,Sa⟩:=hq 0 _ (by simp) rfl
 have Ul:aI q 14 a.1 es.length rows.flatten:=aI.own ⟨F0,Ta,Sa⟩
 exact aP (h:=fun w1 st=>⟨_,[],⟨w1,q.Z⟩,rfl,rfl,⟨_,_,rfl,rfl,Ul.le fun b hb=>⟨hb,st.ro (by simp) hb⟩⟩,st.newR (by simp) (by simp) (hfr (by simp) (by simp))⟩)
theorem aJo(l:List Int)(A B:Option Addr)(c d:Nat)(w:World)(ha:aI (all w) 1 A l.length (dV l))(hb:aI (all w) 1 B l.length (dV l))(hn:l.length≤1000000):
  Cz 44 #[.slice A l.length c,.slice B l.length d] w (Rt (.bool true) w):=by
 refine aO func44 ntmps44 ?_;refine aB ?_;refine aG rfl (fun h=>absurd rfl h) (fun _=>?_);refine aB ?_;refine oF (α:=Unit) (fun _=>[]) (fun _=>[]) (fun _=>True) ?_ fun _ _=>?_
 ·refine aHY (fun i=>[(5,iv i),(0,.slice A l.length c),(1,.slice B l.length d)]) l.length fun i hi=>?_;refine aB ?_;refine aG rfl (fun hlt=>?_) (fun hge=>?_)
  ·have hlt:i < l.length:=by omega
   obtain⟨v,hv⟩:=get_some hlt
   have hv':(dV l)[i]? =some (.int .u32 v):=by simp[dV,hv]
   obtain⟨b1,o1,rfl,z1,h1⟩:=ha.2 (by omega);obtain⟨b2,o2,rfl,z2,h2⟩:=hb.2 (by omega)
   have k1:fK w b1 (o1+i) (.int .u32 v):=⟨z1,h1 _ _ hv'⟩
   have k2:fK w b2 (o2+i) (.int .u32 v):=⟨z2,h2 _ _ hv'⟩
   refine aB ?_;refine rE ?_;refine dY ?_;refine aB ?_;refine aG rfl (fun h=>absurd rfl h) (fun _=>?_);refine aB ?_;exact jV ()
  ·refine aB ?_;exact dJ ()
 refine aB ?_;exact dH
section
variable{P:Program}{N:cE}{w0:World}{e:Env}{R:List Piece}{H:List HP}{d:Nat}{ty u:TypeId}{pos:String}{aH:Array Edge}{x y:Operand}
theorem aDc{t:TypeId}{xs:List Value}(hx:e.ev x=some (.agg xs.toArray))(hy:e.ev y=some (.agg xs.toArray))(hf:Ma P t xs xs=true:=by kernel_rfl)(hs:Iw xs xs=true:=by simp[Iw,Vy]):bR P N w0 e R H ⟨some d,.binOp .neq t x y u,ty,pos,aH,none⟩ (.bool false):=gN (fun a w hr=>by
 obtain⟨h1,h2⟩:=aEU (w:=w) hf
 simp[execOp,hr.ev hx,hr.ev hy,binOp,h1,h2,hs])
end
section
variable{N:cE}{w0:World}{e e':Env}{R:List Piece}{H:List HP}{Q:Exit→Act→World→Prop}{ops:Array Oper}{rest:List Oper}
theorem Jl{rest':List Oper}(k:XQ N w0 ops Q rest' e' R H)(hk:XQ N w0 ops Q rest' e' R H→XQ N w0 ops Q rest e R H:=by
  intro h
  repeat' ((with_reducible refine aD3 ?_);first | refine sU (by exact dz) ?_ | refine aD0 ?_ | refine aD1 ?_ | refine aDz ?_)
  exact h):XQ N w0 ops Q rest e R H:=hk k
theorem aRD{id:Nat}{l l':List Oper}(h:XQ N w0 l.toArray Q l' e R H)(hl:l=l':=by dsimp only[List.append])(hB:Region.lexB .any l.toArray=true:=by kernel_rfl)(hm:Tryz.prog.follows .mixedOrders=true:=by kernel_rfl):XK N w0 ((Code.region id l.toArray true).wp Tryz.prog Q) e R H:=lJ (hl▸h) hB hm
end
theorem dQ.mid{w:World}{g o k:Nat}{vs us:List Value}(h:dQ w g o vs)(hv:(vs.drop k).take us.length=us):dQ w g (o+k) us:=⟨h.1,fun j v hj=>by rw[Nat.add_assoc];exact h.2 _ _ (aDo hv hj)⟩
theorem aKs(es:List kF)(ra rb:List (List Value))(A B:Option Addr)(c d:Nat)(w:World)(ha:aI (all w) 14 A es.length ra.flatten)(za:jO es ra (all w))(hb:aI (all w) 14 B es.length rb.flatten)(zb:jO es rb (all w))(hn:es.length≤1000000)(hw:∀e∈es,e.words.length≤1000000):
  Cz 19 #[.slice A es.length c,.slice B es.length d] w (Rt (.bool true) w):=by
 have hla:=(Rows.len za).1
 have hlb:=(Rows.len zb).1
 refine aO func19 ntmps19 ?_;refine aB ?_;refine aG rfl (fun h=>absurd rfl h) (fun _=>?_);refine aB ?_;refine oF (α:=Unit) (fun _=>[]) (fun _=>[]) (fun _=>True) ?_ fun _ _=>?_
 ·refine aHY (fun i=>[(5,iv i),(0,.slice A es.length c),(1,.slice B es.length d)]) es.length fun i hi=>?_;refine aB ?_;refine aG rfl (fun hlt=>?_) (fun hge=>?_)
  ·have hlt:i < es.length:=by omega
   obtain⟨r1,dO⟩:=get_some (l:=ra) (i:=i) (by omega);obtain⟨e,he,_,A1,c1,rfl,hs1⟩:=Rows.at_ za dO;obtain⟨r2,fJ⟩:=get_some (l:=rb) (i:=i) (by omega);obtain⟨e',he',_,A2,c2,rfl,iR⟩:=Rows.at_ zb fJ;obtain rfl:=Option.some.inj (he.symm.trans he')
   have hwe:=hw e (List.mem_of_getElem? he)
   obtain⟨b1,o1,rfl,ka⟩:=aI.row ha (Rows.Gj za) dO hlt;obtain⟨b2,o2,rfl,kb⟩:=aI.row hb (Rows.Gj zb) fJ hlt;obtain⟨e1,e2,⟨e3,e4,e5,e6⟩,e7,e8,⟨e9,Iy,Qe,Qd⟩,e13,e14⟩:=e
   have a0:=ka.at_ (j:=0) rfl
   have a1:=ka.at_ (j:=1) rfl
   have a2:=ka.mid (k:=2) (us:=[.int .u8 e3,iv e4,iv e5,.int .u32 e6]) rfl
   have a3:=ka.mid (k:=6) (us:=[iv e7,.int .u32 e8]) rfl
   have a4:=ka.mid (k:=8) (us:=[iv e9,iv Iy,.bool Qe,.int .u32 Qd]) rfl
   have a5:=ka.at_ (j:=12) rfl
   have a6:=ka.at_ (j:=13) rfl
   have d0:=kb.at_ (j:=0) rfl
   have d1:=kb.at_ (j:=1) rfl
   have d2:=kb.mid (k:=2) (us:=[.int .u8 e3,iv e4,iv e5,.int .u32 e6]) rfl
   have d3:=kb.mid (k:=6) (us:=[iv e7,.int .u32 e8]) rfl
   have d4:=kb.mid (k:=8) (us:=[iv e9,iv Iy,.bool Qe,.int .u32 Qd]) rfl
   have d5:=kb.at_ (j:=12) rfl
   have d6:=kb.at_ (j:=13) rfl
   clear ka kb;dsimp only at a0 a1 a2 a3 a4 a5 a6 d0 d1 d2 d3 d4 d5 d6;refine aB ?_;refine aRD ?_;refine Jl ?_;refine Ea 28 rfl (fun h=>absurd rfl h) (fun _=>?_);refine Jl ?_;refine Ea 41 rfl (fun h=>absurd rfl h) (fun _=>?_);refine Jl ?_;refine sU (aDc rfl rfl) ?_;refine Jl ?_;refine sU (aDc rfl rfl) ?_;refine Jl ?_;refine sU (aDc rfl rfl) ?_;refine Jl ?_;refine Ea 93 rfl (fun h=>absurd rfl h) (fun _=>?_);refine Jl ?_;refine rB (fun w1 t=>aJo e14 _ _ _ _ w1 (aI.le hs1 (t.le (by simp))) (aI.le iR (t.le (by simp))) hwe) ?_;refine Jl ?_;refine aHS ?_;refine aB ?_;exact jV ()
  ·refine aB ?_;exact dJ ()
 refine aB ?_;exact dH
end
section
theorem St.aFM{w0 w:World}{R:List Piece}{H:List HP}{g f:Nat}{hL:HL}{s:aC}{m:kW}(t:St w0 R H w)(i:Nat)(hi:H[i]? =some (iO g f hL s m)):∃L,Ca w f hL.h L s m.y:=by
 obtain⟨F,h1,h2,_⟩:=t.chunk hi;obtain⟨G,g1,g2,_⟩:=h1;obtain⟨L,hL⟩:=g1 1 _ rfl;exact⟨L,aDZ hL fun b hb=>h2 b (g2 1 b hb)⟩
theorem aO0(f h:Nat)(L:fQ)(s:aC)(z:cJ)(w:World)(kf:Ca w f h L s z):Cz 42 #[pt f] w (Rt (iv z.at_) w):=by
 have k0:=kf.r0.at_ (j:=16) rfl
 refine aO func42 ntmps42 ?_;refine aA ?_;exact iS (by simp) rfl
theorem aOv(f h:Nat)(L:fQ)(s:aC)(z:cJ)(w:World)(kf:Ca w f h L s z):Cz 43 #[pt f,iv 1] w (Rt (.bool (decide (z.h1=1))) w):=by
 have k0:=kf.r0.at_ (j:=13) rfl
 refine aO func43 ntmps43 ?_;refine aA ?_;refine aS (fun w1 t=>Kw 1 w1) ?_;refine aA ?_;refine kd (fG 1 13) ?_;refine aA ?_;exact iS (by simp) rfl
section
variable(g f r:Nat)(hL:HL)(s:aC)(W:bA)(w:World)(F:Nat→Prop)
theorem aE5(hp:(dI g f r hL s W).sat F w)(hF:∀b,F b→b < w.heap.size):
  Cz 18 #[pt g] w (Wr (.bool W.idle) (dI g f r hL s W) w F):=by
 refine cT func18 ntmps18 hp hF ?_;refine iT 0 fun L=>?_;refine aW 0 0 ?_;refine aW 1 1 ?_;refine aB ?_;refine oF (α:=Unit) (fun _=>[(0,pt g)]) (fun _=>[iO r f hL s W.m,HP.aE g 103 (lD f r hL s W L),HP.many [bX,bX,HP.own 46 14 (.slice L.A W.es.length L.c) W.es.length L.rows.flatten,mB W.es L.rows]]) (fun _=>∀j:Nat,j < 3→uF W.m.z j=false) ?_ fun _ hx=>?_
 ·refine oB (α:=Unit) (fun k _=>[(4,iv k),(0,pt g)]) (fun _ _=>[iO r f hL s W.m,HP.aE g 103 (lD f r hL s W L),HP.many [bX,bX,HP.own 46 14 (.slice L.A W.es.length L.c) W.es.length L.rows.flatten,mB W.es L.rows]]) (fun k _=>∀j:Nat,j < k→uF W.m.z j=false) 3 () (fun j hj=>absurd hj (by omega)) fun k _ hk hx=>?_;refine aB ?_;refine aG rfl (fun hlt=>?_) (fun hge=>?_)
  ·refine aB ?_;refine aS (fun w1 t1=>aMB r f hL s W.m w1 k 0 t1 rfl) ?_;cases hb:uF W.m.z k with
   | true =>
    have hi:W.idle=false:=by
     unfold bA.idle;rcases(show k=0∨k=1∨k=2 by omega) with rfl | rfl | rfl
     ·rw[show uF W.m.z 0=true from hb];rfl
     ·rw[show uF W.m.z 1=true from hb];simp
     ·rw[show uF W.m.z 2=true from hb];simp
    rw[hi];refine aB ?_;refine aJ 1 1 ?_;refine aJ 0 0 ?_;refine cQ 0 (fun L:jD=>kE g f r hL s W L) L ?_;exact bP 0 hF
   | false =>
    refine aB ?_
    exact jV () (hg:=fun j hj=>by
     rcases Nat.lt_succ_iff_lt_or_eq.1 hj with h | rfl
     ·exact hx j h
     ·exact hb)
  ·refine aB ?_;exact dJ () (hg:=fun j hj=>hx j (by omega))
 ·have hi:W.idle=(decide (W.m.y.at_ < 0)&& !decide (W.m.y.h1=1)):=by
   unfold bA.idle;rw[show uF W.m.z 0=false from hx 0 (by omega),show uF W.m.z 1=false from hx 1 (by omega),show uF W.m.z 2=false from hx 2 (by omega)];rfl
  rw[hi];refine aB ?_
  refine aS (fun w1 t1=>by
   obtain⟨L2,hR⟩:=t1.aFM 0 rfl
   exact aO0 f hL.h L2 s W.m.y w1 hR) ?_
  refine aB ?_;refine cG (t:=20) rfl (fun h0=>?_) (fun h0=>?_)
  ·rw[show(decide (W.m.y.at_ < 0)&& !decide (W.m.y.h1=1))=decide (¬W.m.y.h1=1) by rw[decide_eq_true h0];simp];refine aB ?_
   refine aS (fun w1 t1=>by
    obtain⟨L2,hR⟩:=t1.aFM 0 rfl
    exact aOv f hL.h L2 s W.m.y w1 hR) ?_
   refine aB ?_;refine aJ 1 1 ?_;refine aJ 0 0 ?_;refine cQ 0 (fun L:jD=>kE g f r hL s W L) L ?_;exact bP 0 hF
  ·rw[show(decide (W.m.y.at_ < 0)&& !decide (W.m.y.h1=1))=false by rw[decide_eq_false h0];rfl];refine aB ?_;refine aJ 1 1 ?_;refine aJ 0 0 ?_;refine cQ 0 (fun L:jD=>kE g f r hL s W L) L ?_;exact bP 0 hF
end
end
section
def bA.Cp(s:aC)(d:Int)(w:bA):Nat→bA
 | 0=>w
 | k+1=>(w.Cp s d k).round s d
theorem aBG{s:aC}(hm:s.made){n:Nat}{w:bA}(h:iB s n w)(d:Int):∀k,iB s (n+4*k) (w.Cp s d k)
 | 0=>h
 | k+1=>(aBG hm h d k).round hm d
theorem aJm(A:Option Addr)(n c:Nat)(zs:List Int)(B:Option Addr)(nb cb:Nat)(eU:List gR)(many aX:Int)(w:World)(h0:aI (all w) 1 A n (aN zs))(hz:aBi zs)(hn:n=zs.length)(hn2:n≤9223372036854775807)(h1:aI (all w) 12 B nb (eU.flatMap gR.cells))(hac:∀a∈eU,a.ok)(hnb:nb=eU.length)(aGo:nb≤2000000)(hmn:xR many)(hd:0≤aX∧aX < 4294967296)(cZ:eG (all w)):
  Cz 5 #[.slice A n c,.slice B nb cb,iv many,.int .u32 aX] w (Rt (.bool true) w):=by
 subst hnb
 have hLw:∀{w1:World} {R:List Piece} {H:List HP},St w R H w1→all w∈R→eG (all w1):=fun t h=>eG.le cZ (t.le h)
 refine aO func5 ntmps5 ?_;refine aB ?_;refine aS (fun w1 t=>aKd w1 (hLw t (by simp))) ?_;refine aB ?_;refine kA [] (fun v w w'=>∃cs s,v=.agg cs∧uK (fI (fresh w w')) s cs∧s.made) (fun w1 t=>aQg A n c zs w1 (h0.le (t.le (by simp))) hz hn hn2) ?_;rintro _ wc q0 ⟨cs,s,rfl,hS,hm⟩ hf _ _;obtain⟨A1,n1,k1,A2,n2,k2,A3,n3,k3,A4,n4,k4,rfl,hQ⟩:=uK.Q (hS.mono (kG hf));clear hf hS;refine bY fun gS=>?_;refine aB ?_;refine eM (aDP s (runN s eU eU.length)) (fun w1 t=>aEY s A1 A2 A3 A4 n1 k1 n2 k2 n3 k3 n4 k4 B cb eU w1 (hQ.W (t.le (by simp)) (Ub hm)) hm (h1.le (t.le (by simp))) hac aGo (hLw t (by simp))) ?_;rintro _ _ q1 ⟨g1,f1,r1,Dj,rfl,rfl,aNY⟩ _;dsimp only[List.cons_append,List.nil_append];refine uI (R':=[q0,all w]) (by simp) ?_;refine aB ?_;refine eM (aDP s (runN s eU eU.length)) (fun w1 t=>aEY s A1 A2 A3 A4 n1 k1 n2 k2 n3 k3 n4 k4 B cb eU w1 (hQ.W (t.le (by simp)) (Ub hm)) hm (h1.le (t.le (by simp))) hac aGo (hLw t (by simp))) ?_;rintro _ _ q2 ⟨g2,f2,r2,vC,rfl,rfl,aCK⟩ _;dsimp only[List.cons_append,List.nil_append];refine uI (R':=[q0,all w]) (by simp) ?_;refine aB ?_;refine aG rfl (fun hg=>?_) (fun hg=>?_)
 ·refine aB ?_;exact dH
 have Lj:=aBB hm hac eU.length (Nat.le_refl _)
 obtain⟨W,hW⟩:∃W,runN s eU eU.length=W:=⟨_,rfl⟩
 rw[hW] at Lj⊢;clear hW
 have bK:=Ah many 40 (by decide)
 obtain⟨K,hK⟩:∃K:Nat,eT many 40=(K:Int):=⟨(eT many 40).toNat,by omega⟩
 refine aB ?_;refine oF (α:=Unit) (fun _=>[(11,pt g1),(12,pt g2)]) (fun _=>[dI g1 f1 r1 Dj s (W.Cp s aX K),dI g2 f2 r2 vC s (W.Cp s aX K)]) (fun _=>True) ?_ fun _ _=>?_
 ·refine oB (α:=Unit) (fun i _=>[(13,iv i),(2,iv many),(3,.int .u32 aX),(11,pt g1),(12,pt g2)]) (fun i _=>[dI g1 f1 r1 Dj s (W.Cp s aX i),dI g2 f2 r2 vC s (W.Cp s aX i)]) (fun _ _=>True) K () trivial fun i _ hi _=>?_
  have tU:=aBG hm Lj aX i
  refine aB ?_;refine aS (fun w1 t=>mW _ 40 w1 hmn (by decide)) ?_;rw[hK];refine aB ?_;refine aG rfl (fun hlt=>?_) (fun hge=>?_)
  ·have hlt:i < K:=by omega
   obtain⟨V,hV⟩:∃V,W.Cp s aX i=V:=⟨_,rfl⟩
   rw[hV] at tU⊢
   have Fk:=Si hm tU 3
   refine aB ?_;refine bT 0 (dI g1 f1 r1 Dj s (V.round s aX)) (fun w1 F1 t h1 h2 h3=>aE3 g1 f1 r1 Dj s (eU.length*4+4*i) V w1 F1 hm aNY tU (by omega) aX hd (eG.le cZ (h3 _ (by simp))) h1 h2) ?_;refine aB ?_;refine oF (α:=Unit) (fun _=>[(13,iv i),(2,iv many),(3,.int .u32 aX),(11,pt g1),(12,pt g2)]) (fun _=>[dI g1 f1 r1 Dj s (V.round s aX),dI g2 f2 r2 vC s (V.rR s 3)]) (fun _=>True) ?_ fun _ _=>?_
   ·refine oB (α:=Unit) (fun j _=>[(14,iv j),(13,iv i),(2,iv many),(3,.int .u32 aX),(11,pt g1),(12,pt g2)]) (fun j _=>[dI g1 f1 r1 Dj s (V.round s aX),dI g2 f2 r2 vC s (V.rR s j)]) (fun _ _=>True) 3 () trivial fun j _ hj _=>?_
    have aNr:=Si hm tU j
    refine aB ?_;refine aG rfl (fun hlt=>?_) (fun hge=>?_)
    ·refine aB ?_
     refine bT 1 (dI g2 f2 r2 vC s (V.rR s (j+1))) (fun w1 F1 t1 h1 h2 h3=>by
      have:=Ci g2 f2 r2 vC s _ (V.rR s j) w1 F1 hm aCK aNr (by omega) ⟨116,j,pT,0,[]⟩ (Cr (by decide)) none 0 0 (aI.nil _ _) rfl (eG.le cZ (h3 _ (by simp))) h1 h2
      rwa [aHk] at this) ?_
     refine aB ?_;exact jV ()
    ·obtain rfl:j=3:=by omega
     refine aB ?_;exact dJ ()
   refine aB ?_
   refine bT 1 (dI g2 f2 r2 vC s ((V.rR s 3).eC s)) (fun w1 F1 t1 h1 h2 h3=>by
    have:=Ci g2 f2 r2 vC s _ (V.rR s 3) w1 F1 hm aCK Fk (by omega) ⟨102,0,pT,0,[]⟩ (Cr (by decide)) none 0 0 (aI.nil _ _) rfl (eG.le cZ (h3 _ (by simp))) h1 h2
    rwa [aHl] at this) ?_
   refine aB ?_
   refine bT 1 (dI g2 f2 r2 vC s (V.round s aX)) (fun w1 F1 t1 h1 h2 h3=>by
    have:=Ci g2 f2 r2 vC s _ ((V.rR s 3).eC s) w1 F1 hm aCK (Fk.eC hm) (by omega) ⟨104,0,pT,aX,[]⟩ (Cr hd) none 0 0 (aI.nil _ _) rfl (eG.le cZ (h3 _ (by simp))) h1 h2
    rwa [aHj] at this) ?_
   obtain⟨V2,hV2⟩:∃V2,V.round s aX=V2:=⟨_,rfl⟩
   rw[hV2];refine aB ?_;refine bT 0 (dI g1 f1 r1 Dj s V2) (fun w1 F1 t1 h1 h2 h3=>aE5 g1 f1 r1 Dj s V2 w1 F1 h1 h2) ?_;refine aB ?_;refine bT 1 (dI g2 f2 r2 vC s V2) (fun w1 F1 t1 h1 h2 h3=>aE5 g2 f2 r2 vC s V2 w1 F1 h1 h2) ?_;refine aB ?_;refine aG rfl (fun h=>absurd rfl h) (fun _=>?_);subst hV2;subst hV;refine aB ?_;exact jV ()
  ·obtain rfl:i=K:=by omega
   refine aB ?_;exact dJ ()
 have aGh:=aBG hm Lj aX K
 have Pm:(W.Cp s aX K).es.length≤1000000:=by have:=aGh.es;omega
 have hwE:∀e∈(W.Cp s aX K).es,e.words.length≤1000000:=fun e he=>(aGh.wd e he).2
 generalize W.Cp s aX K=V at Pm hwE⊢;refine aB ?_
 refine eM (aBj V.es) (fun w1 t=>by
  obtain⟨L,hr⟩:=t.wdR 0 rfl
  exact aBw g1 L _ w1 Pm hwE hr) ?_
 rintro _ _ qa3 ⟨Aav,cav,ra,rfl,rfl,hsa,hza⟩ _;dsimp only[List.nil_append];refine eM (aEh V.es.length ra) (fun w1 t=>aHA V.es ra Aav cav w1 (hsa.le (t.le (by simp))) (jO.le _ _ (t.le (by simp)) hza) Pm) ?_;rintro _ _ qa4 ⟨Aaw,caw,rfl,rfl,haa⟩ _;dsimp only[List.nil_append];refine aB ?_
 refine eM (aBj V.es) (fun w1 t=>by
  obtain⟨L,hr⟩:=t.wdR 1 rfl
  exact aBw g2 L _ w1 Pm hwE hr) ?_
 rintro _ _ qb3 ⟨Abv,cbv,rb,rfl,rfl,hsb,fF⟩ _;dsimp only[List.nil_append];refine eM (aEh V.es.length rb) (fun w1 t=>aHA V.es rb Abv cbv w1 (hsb.le (t.le (by simp))) (jO.le _ _ (t.le (by simp)) fF) Pm) ?_;rintro _ _ qb4 ⟨Abw,cbw,rfl,rfl,hab⟩ _;dsimp only[List.nil_append];refine aS (fun w1 t=>aKs V.es ra rb _ _ _ _ w1 (haa.le (t.le (by simp))) (jO.le _ _ (t.le (by simp)) hza) (hab.le (t.le (by simp))) (jO.le _ _ (t.le (by simp)) fF) Pm hwE) ?_;refine aB ?_;exact dH
end
section
section
variable{H:Type}{enc:TypeId×Value→H}{w:World}{fuel:Nat}{cs:List Value}{x:DataW H×List MemPlace}
theorem wM{α:Type}{l:List α}{n i:Nat}(h:l.length=n)(hi:i < n):∃y,l[i]? =some y:=⟨l[i]'(by omega),List.getElem?_eq_getElem _⟩
theorem aQG{a:Int}(h:(Lit.int .u32 a).wf=true):0≤a∧a < 4294967296:=by
 simp[Lit.wf,IntKind.min,IntKind.max,IntKind.signed,IntKind.bits] at h;omega
theorem aHN:Tryz.prog.cellsOf 74=12:=by kernel_rfl
theorem aHQ:Tryz.prog.cellsOf 72=6:=by kernel_rfl
theorem aHP:Tryz.prog.cellsOf 3=1:=by kernel_rfl
theorem aHO:Tryz.prog.cellsOf 37=1:=by kernel_rfl
theorem aJD{l:List Value}(h:l.length=12):∃a b c d e f g i j k m n,l=[a,b,c,d,e,f,g,i,j,k,m,n]:=by
 match l,h with
 | [a,b,c,d,e,f,g,i,j,k,m,n],_=>exact⟨a,b,c,d,e,f,g,i,j,k,m,n,rfl⟩
theorem aKc{l:List Value}(h:l.length=6):∃a b c d e f,l=[a,b,c,d,e,f]:=by
 match l,h with
 | [a,b,c,d,e,f],_=>exact⟨a,b,c,d,e,f,rfl⟩
theorem aQJ(h:DataW.trod enc Tryz.prog w 0 (fun _=>true) true fuel 72 cs=some x):
  ∃a b c d e f:Int,cs=[iv a,iv b,iv c,iv d,iv e,iv f]∧(-9223372036854775808≤b∧b≤9223372036854775807)∧(-9223372036854775808≤c∧c≤9223372036854775807)∧(-9223372036854775808≤d∧d≤9223372036854775807)∧(-9223372036854775808≤e∧e≤9223372036854775807)∧(-9223372036854775808≤f∧f≤9223372036854775807):=by
 obtain⟨xs,n,rfl,_,hl,hxl,hf⟩:=DataW.trod_struct Tryz.underlying72 h;rw[aHQ] at hl;obtain⟨a,b,c,d,e,f,rfl⟩:=aKc hl
 have h0:=hf 0 _ rfl
 have h1:=hf 1 _ rfl
 have h2:=hf 2 _ rfl
 have h3:=hf 3 _ rfl
 have h4:=hf 4 _ rfl
 have h5:=hf 5 _ rfl
 simp only[List.getElem_toArray,List.getElem_cons_zero,List.getElem_cons_succ,List.drop_succ_cons,List.drop_zero,aHP,aHO,List.take_succ_cons,List.take_zero] at h0 h1 h2 h3 h4 h5;obtain⟨y0,e0⟩:=wM hxl (i:=0) (by simp);obtain⟨y1,e1⟩:=wM hxl (i:=1) (by simp);obtain⟨y2,e2⟩:=wM hxl (i:=2) (by simp);obtain⟨y3,e3⟩:=wM hxl (i:=3) (by simp);obtain⟨y4,e4⟩:=wM hxl (i:=4) (by simp);obtain⟨y5,e5⟩:=wM hxl (i:=5) (by simp);rw[e0] at h0;rw[e1] at h1;rw[e2] at h2;rw[e3] at h3;rw[e4] at h4;rw[e5] at h5;obtain⟨z0,g0,_,_⟩:=DataW.trod_int Tryz.underlying3 h0;obtain⟨z1,g1,_,w1⟩:=DataW.trod_int Tryz.underlying3 h1;obtain⟨z2,g2,_,w2⟩:=DataW.trod_int Tryz.underlying3 h2;obtain⟨z3,g3,_,w3⟩:=DataW.trod_int Tryz.underlying3 h3;obtain⟨z4,g4,_,w4⟩:=DataW.trod_int Tryz.underlying3 h4;obtain⟨z5,g5,_,w5⟩:=DataW.trod_int Tryz.underlying3 h5;simp at g0 g1 g2 g3 g4 g5;subst g0;subst g1;subst g2;subst g3;subst g4;subst g5;exact⟨_,_,_,_,_,_,rfl,yW w1,yW w2,yW w3,yW w4,yW w5⟩
theorem aRt(h:DataW.trod enc Tryz.prog w 0 (fun _=>true) true fuel 74 cs=some x):∃v:gR,cs=v.cells∧v.ok:=by
 obtain⟨xs,n,rfl,_,hl,hxl,hf⟩:=DataW.trod_struct Tryz.underlying74 h;rw[aHN] at hl;obtain⟨a,b,c,d,e,f,g,i,j,k,m,n',rfl⟩:=aJD hl
 have h0:=hf 0 _ rfl
 have h1:=hf 1 _ rfl
 have h2:=hf 2 _ rfl
 have h3:=hf 3 _ rfl
 have h4:=hf 4 _ rfl
 have h5:=hf 5 _ rfl
 have h6:=hf 6 _ rfl
 simp only[List.getElem_toArray,List.getElem_cons_zero,List.getElem_cons_succ,List.drop_succ_cons,List.drop_zero,aHP,aHO,aHQ,List.take_succ_cons,List.take_zero] at h0 h1 h2 h3 h4 h5 h6;obtain⟨y0,e0⟩:=wM hxl (i:=0) (by simp);obtain⟨y1,e1⟩:=wM hxl (i:=1) (by simp);obtain⟨y2,e2⟩:=wM hxl (i:=2) (by simp);obtain⟨y3,e3⟩:=wM hxl (i:=3) (by simp);obtain⟨y4,e4⟩:=wM hxl (i:=4) (by simp);obtain⟨y5,e5⟩:=wM hxl (i:=5) (by simp);obtain⟨y6,e6⟩:=wM hxl (i:=6) (by simp);rw[e0] at h0;rw[e1] at h1;rw[e2] at h2;rw[e3] at h3;rw[e4] at h4;rw[e5] at h5;rw[e6] at h6;obtain⟨z0,g0,_,w0⟩:=DataW.trod_int Tryz.underlying3 h0;obtain⟨z1,g1,_,w1⟩:=DataW.trod_int Tryz.underlying3 h1;obtain⟨z2,g2,_,w2⟩:=DataW.trod_int Tryz.underlying3 h2;obtain⟨z3,g3,_,w3⟩:=DataW.trod_int Tryz.underlying3 h3;obtain⟨z4,g4,_,w4⟩:=DataW.trod_int Tryz.underlying3 h4;obtain⟨z5,g5,_,w5⟩:=DataW.trod_int Tryz.underlying37 h5;obtain⟨q0,q1,q2,q3,q4,q5,g6,u1,u2,u3,u4,u5⟩:=aQJ h6;simp at g0 g1 g2 g3 g4 g5 g6;obtain⟨rfl,rfl,rfl,rfl,rfl,rfl⟩:=g6;subst g0;subst g1;subst g2;subst g3;subst g4;subst g5;exact⟨⟨z0,z1,z2,z3,z4,z5,q0,q1,q2,q3,q4,q5⟩,rfl,yW w0,yW w1,yW w2,yW w3,yW w4,aQG w5,u1,u2,u3,u4,u5⟩
open Go.ChangeShapes Go.WideShapes Go.ChangeAt in
set_option maxRecDepth 100000 in
theorem aLU{v:Value}{d:DataW H}{ps:List MemPlace}{base:Nat}(hval:Value.okWide Tryz.prog w .any base 23 v)(h:DataW.Trod enc Tryz.prog w 0 (fun _=>true) true 23 v d ps):
    ∃(A:Option Addr) (n c:Nat) (eU:List gR),v=.slice A n c∧Sl w w.heap.size 12 A n (eU.flatMap gR.cells)∧(∀a∈eU,a.ok)∧n=eU.length∧n≤9223372036854775807:=by
  obtain⟨a0,len,cap,rfl⟩:=okWide_slice Tryz.underlying23 hval;obtain⟨fuel,hf⟩:=h;obtain⟨A,n,c,ys,hcs,qV,hn,hm,hR⟩:=aKb gR.cells gR.ok Tryz.underlying23 aHN (by omega) gR.len (fun _ _ _ h=>aRt h) hf;simp[Value.cells] at hcs;obtain⟨rfl,rfl,rfl⟩:=hcs;subst hn;exact⟨_,_,_,ys,rfl,qV,hR,rfl,hm⟩
end
end
section
theorem aQA{H:Type}(d:DataW H):1≤Rows.uptoBulk d:=by
 cases d with
 | lit l=>cases l<;>simp[Rows.uptoBulk]
 | _=>simp[Rows.uptoBulk]
theorem aQ9{H:Type}{d:DataW H}{l:List (DataW H)}(h:d∈l):Rows.uptoBulk d≤Rows.uptoBulkAll l:=by
 induction l with
 | nil=>cases h
 | cons x r ih =>
  simp only[Rows.uptoBulkAll];rcases List.mem_cons.1 h with rfl | h
  ·omega
  ·have:=ih h
   omega
theorem aQB{H:Type}(l:List (DataW H)):l.length≤Rows.uptoBulkAll l:=by
 induction l with
 | nil=>exact Nat.zero_le _
 | cons x r ih=>
  have:=aQA x
  simp only[Rows.uptoBulkAll,List.length_cons];omega
open Go.ChangeShapes Go.WideShapes Go.ChangeAt in
theorem aQ8{H:Type}{enc:TypeId×Value→H}{w:World}{t e:TypeId}{A:Option Addr}{n c:Nat}{d:DataW H}{ps:List MemPlace}(ht:Tryz.prog.underlying t=some (.slice e))(h:DataW.Trod enc Tryz.prog w 0 (fun _=>true) true t (.slice A n c) d ps):n≤Rows.uptoBulk d:=by
  obtain⟨fuel,hf⟩:=h;rcases DataW.trod_slice ht hf with⟨h0,_⟩ | ⟨a,len,cap,elems,rest,k,_,hcs,hx,_,_,_,hlen,_⟩
  · simp[Value.cells] at h0
    omega
  · simp[Value.cells] at hcs
    cases hx
    have:=aQB (elems.map (·.1))
    rw[List.length_map] at this;simp only[Rows.uptoBulk];omega
theorem aQC{H:Type}{l:List (DataW H)}{d:DataW H}{n:Nat}(hk:Rows.uptoSmall H l=true)(hd:d∈l)(hn:n≤Rows.uptoBulk d):n≤1048576:=by
 have h1:Rows.uptoBulkAll l≤1048576:=of_decide_eq_true hk
 have:=aQ9 hd
 omega
end
end Go.Proofs.YtkgekojkboingaaGreatDoor
