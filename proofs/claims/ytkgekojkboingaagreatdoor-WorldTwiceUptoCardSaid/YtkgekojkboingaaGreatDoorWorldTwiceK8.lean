/- chapter 19's laws: events as the reference has them; whether they are the same. -/
import Derived.Test.YtkgekojkboingaaGreatDoorRows
import Derived.Test.YtkgekojkboingaaGreatDoorWorldTwiceK7
namespace Go.Proofs.YtkgekojkboingaaGreatDoor
set_option linter.all false
set_option maxHeartbeats 4000000
set_option maxRecDepth 20000
open Go.RowKit Go.Proofs.Tryz
section
theorem aRb(k d q v:Int)(w:World):Cz 45 #[.agg #[.int .u8 k,iv d,iv q,.int .u32 v]] w (Rt (.agg #[.int .u8 k,iv d,iv q,.int .u32 v]) w):=by
 refine aO func45 ntmps45 ?_;refine aB ?_;refine bN fun g1=>?_;refine aB ?_;refine bY fun g2=>?_;refine aB ?_;exact Gu (vs:=[.int .u8 k,iv d,iv q,.int .u32 v]) rfl (by kernel_rfl) rfl rfl (aM.whole 0 rfl) fun w1 t=>⟨rfl,t.below (by simp)⟩
theorem aRc(i d v:Int)(b:Bool)(w:World):Cz 46 #[.agg #[iv i,iv d,.bool b,.int .u32 v]] w (Rt (.agg #[iv i,iv d,.bool b,.int .u32 v]) w):=by
 refine aO func46 ntmps46 ?_;refine aB ?_;refine bN fun g1=>?_;refine aB ?_;refine bY fun g2=>?_;refine aB ?_;exact Gu (vs:=[iv i,iv d,.bool b,.int .u32 v]) rfl (by kernel_rfl) rfl rfl (aM.whole 0 rfl) fun w1 t=>⟨rfl,t.below (by simp)⟩
def Np(n:Nat)(rows:List (List Value))(v:Value)(hs:List HP)(q:Piece):Prop:=∃A c,v=.slice A n c∧hs=[]∧aH q 14 A n rows.flatten
theorem Rk(es:List jQ)(rows:List (List Value))(A:Option Addr)(c:Nat)(w:World)(hs:aH (all w) 14 A es.length rows.flatten)(hz:fR es rows (all w))(hn:es.length≤1000000):
  Cz 20 #[.slice A es.length c] w (fun y w'=>(∃v hs q,y=.returned v∧q.w=w'∧Np es.length rows v hs q∧fV w hs q)∧Below w.heap.size w w'):=by
 have hlr:=(Rows.len hz).1
 refine aO func20 ntmps20 ?_;refine aB ?_;refine lI 124 14 ?_;refine nY (α:=Option Addr×Nat) (fun a=>[(3,.slice a.1 es.length a.2)]) (fun a=>[HP.own 124 14 (.slice a.1 es.length a.2) es.length rows.flatten]) (fun _=>True) ?_ fun a _=>?_
 ·refine nX (α:=Option Addr×Nat) (fun i a=>[(4,iv i),(3,.slice a.1 i a.2),(0,.slice A es.length c)]) (fun i a=>[HP.own 124 14 (.slice a.1 i a.2) i (rows.take i).flatten]) (fun _ _=>True) es.length (none,0) trivial fun i a hi _=>?_;refine aB ?_;refine aG rfl (fun hlt=>?_) (fun hge=>?_)
  ·have hlt:i < es.length:=by omega
   obtain⟨ro,hro⟩:=get_some (l:=rows) (i:=i) (by omega);obtain⟨e,he,_,Aw,cw,rfl,tV⟩:=Rows.at_ hz hro;obtain⟨b,off,rfl,ka⟩:=aH.row hs (Rows.Bv hz) hro hlt;obtain⟨e1,e2,⟨e3,e4,e5,e6⟩,e7,e8,⟨e9,Jc,Qp,Qo⟩,e13,e14⟩:=e
   have ka1:dP w b (off+i*14) [.int .u8 e1,iv e2,.int .u8 e3,iv e4,iv e5,.int .u32 e6,iv e7,.int .u32 e8,iv e9,iv Jc,.bool Qp,.int .u32 Qo,.bool e13,.slice Aw e14.length cw]:=ka
   refine aB ?_;refine bY fun g1=>?_;refine aB ?_;refine pW ?_;refine mG 6 ?_ (cK:=jN rfl (aM.mid (vs:=[.int .u8 e3,iv e4,iv e5,.int .u32 e6]) 0 rfl rfl));refine mG 16 ?_ (cK:=jN rfl (aM.mid (vs:=[iv e9,iv Jc,.bool Qp,.int .u32 Qo]) 0 rfl rfl));refine aL 7 ?_;refine aQ (fun w1 t=>aRb _ _ _ _ w1) ?_;refine bA ?_;refine aL 17 ?_;refine aQ (fun w1 t=>aRc _ _ _ _ w1) ?_;refine bA ?_;refine aL 22 ?_;refine kd (iI rfl) ?_;refine bA ?_;refine aL 23 ?_;refine eG fun g2=>?_;refine bA ?_;refine aL 24 ?_;refine gZ 2 14 120 1 (n':=i+1) (el:=124) (by kernel_rfl) (by kernel_rfl) (by decide) rfl rfl rfl (lW 0 rfl rfl) (by simp[Value.oneCell']) rfl (by omega) (by omega) (by decide) fun A2 c2=>?_;dsimp only[List.set];refine cG ?_;refine sZ [25] ?_;refine aB ?_
   refine oJ (q:=HP.own 124 14 (.slice A2 (i+1) c2) (i+1) (rows.take (i+1)).flatten) 2 rfl (fun F w h=>by
    rw[show(rows.take (i+1)).flatten=(rows.take i).flatten++jQ.row ⟨e1,e2,⟨e3,e4,e5,e6⟩,e7,e8,⟨e9,Jc,Qp,Qo⟩,e13,e14⟩ Aw cw by rw[List.take_add_one,hro,List.flatten_append];simp]
    exact h) ?_
   dsimp only[List.set];exact jO (A2,c2)
  ·obtain rfl:i=es.length:=by omega
   rw[←hlr,List.take_length,hlr];refine aB ?_;exact dH a
 refine aB ?_;refine dB [] [0] [] (by simp) rfl (by decide) (by decide) fun q hq _ hfr=>?_;obtain⟨F0,Ks,Kf⟩:=hq 0 _ (by simp) rfl
 have Lp:aH q 14 a.1 es.length rows.flatten:=aH.own ⟨F0,Ks,Kf⟩
 exact aP (h:=fun w1 st=>⟨_,[],⟨w1,q.Z⟩,rfl,rfl,⟨_,_,rfl,rfl,Lp.le fun b hb=>⟨hb,st.ro (by simp) hb⟩⟩,st.newR (by simp) (by simp) (hfr (by simp) (by simp))⟩)
theorem aJ6(l:List Int)(A B:Option Addr)(c d:Nat)(w:World)(ha:aH (all w) 1 A l.length (dQ l))(hb:aH (all w) 1 B l.length (dQ l))(hn:l.length≤1000000):
  Cz 44 #[.slice A l.length c,.slice B l.length d] w (Rt (.bool true) w):=by
 refine aO func44 ntmps44 ?_;refine aB ?_;refine aG rfl (fun h=>absurd rfl h) (fun _=>?_);refine aB ?_;refine nY (α:=Unit) (fun _=>[]) (fun _=>[]) (fun _=>True) ?_ fun _ _=>?_
 ·refine aIs (fun i=>[(5,iv i),(0,.slice A l.length c),(1,.slice B l.length d)]) l.length fun i hi=>?_;refine aB ?_;refine aG rfl (fun hlt=>?_) (fun hge=>?_)
  ·have hlt:i < l.length:=by omega
   obtain⟨v,hv⟩:=get_some hlt
   have hv':(dQ l)[i]? =some (.int .u32 v):=by simp[dQ,hv]
   obtain⟨b1,o1,rfl,z1,h1⟩:=ha.2 (by omega);obtain⟨b2,o2,rfl,z2,h2⟩:=hb.2 (by omega)
   have k1:fK w b1 (o1+i) (.int .u32 v):=⟨z1,h1 _ _ hv'⟩
   have k2:fK w b2 (o2+i) (.int .u32 v):=⟨z2,h2 _ _ hv'⟩
   refine aB ?_;refine pW ?_;refine dX ?_;refine aB ?_;refine aG rfl (fun h=>absurd rfl h) (fun _=>?_);refine aB ?_;exact jO ()
  ·refine aB ?_;exact dH ()
 refine aB ?_;exact dF
section
variable{P:Program}{N:cE}{w0:World}{e:Env}{R:List Piece}{H:List HP}{d:Nat}{ty u:TypeId}{pos:String}{aI:Array Edge}{x y:Operand}
theorem aDr{t:TypeId}{xs:List Value}(hx:e.ev x=some (.agg xs.toArray))(hy:e.ev y=some (.agg xs.toArray))(hf:Mj P t xs xs=true:=by kernel_rfl)(hs:Jb xs xs=true:=by simp[Jb,Wk]):bQ P N w0 e R H ⟨some d,.binOp .neq t x y u,ty,pos,aI,none⟩ (.bool false):=gP (fun a w hr=>by
 obtain⟨h1,h2⟩:=aFm (w:=w) hf
 simp[execOp,hr.ev hx,hr.ev hy,binOp,h1,h2,hs])
end
section
variable{N:cE}{w0:World}{e e':Env}{R:List Piece}{H:List HP}{Q:Exit→Act→World→Prop}{ops:Array Oper}{rest:List Oper}
theorem Jp{rest':List Oper}(k:XQ N w0 ops Q rest' e' R H)(hk:XQ N w0 ops Q rest' e' R H→XQ N w0 ops Q rest e R H:=by
  intro h
  repeat' ((with_reducible refine aDJ ?_);first | refine sY (by exact dz) ?_ | refine aDG ?_ | refine aDH ?_ | refine aDF ?_)
  exact h):XQ N w0 ops Q rest e R H:=hk k
theorem aRR{id:Nat}{l l':List Oper}(h:XQ N w0 l.toArray Q l' e R H)(hl:l=l':=by dsimp only[List.append])(hB:Region.lexB .any l.toArray=true:=by kernel_rfl)(hm:Tryz.prog.follows .mixedOrders=true:=by kernel_rfl):XK N w0 ((Code.region id l.toArray true).wp Tryz.prog Q) e R H:=lJ (hl▸h) hB hm
end
theorem dP.mid{w:World}{g o k:Nat}{vs us:List Value}(h:dP w g o vs)(hv:(vs.drop k).take us.length=us):dP w g (o+k) us:=⟨h.1,fun j v hj=>by rw[Nat.add_assoc];exact h.2 _ _ (aD3 hv hj)⟩
theorem aBP(es:List jQ)(ra rb:List (List Value))(A B:Option Addr)(c d:Nat)(w:World)(ha:aH (all w) 14 A es.length ra.flatten)(za:fR es ra (all w))(hb:aH (all w) 14 B es.length rb.flatten)(zb:fR es rb (all w))(hn:es.length≤1000000)(hw:∀e∈es,e.words.length≤1000000):
  Cz 19 #[.slice A es.length c,.slice B es.length d] w (Rt (.bool true) w):=by
 have hla:=(Rows.len za).1
 have hlb:=(Rows.len zb).1
 refine aO func19 ntmps19 ?_;refine aB ?_;refine aG rfl (fun h=>absurd rfl h) (fun _=>?_);refine aB ?_;refine nY (α:=Unit) (fun _=>[]) (fun _=>[]) (fun _=>True) ?_ fun _ _=>?_
 ·refine aIs (fun i=>[(5,iv i),(0,.slice A es.length c),(1,.slice B es.length d)]) es.length fun i hi=>?_;refine aB ?_;refine aG rfl (fun hlt=>?_) (fun hge=>?_)
  ·have hlt:i < es.length:=by omega
   obtain⟨r1,dN⟩:=get_some (l:=ra) (i:=i) (by omega);obtain⟨e,he,_,A1,c1,rfl,hs1⟩:=Rows.at_ za dN;obtain⟨r2,fJ⟩:=get_some (l:=rb) (i:=i) (by omega);obtain⟨e',he',_,A2,c2,rfl,iH⟩:=Rows.at_ zb fJ;obtain rfl:=Option.some.inj (he.symm.trans he')
   have Lj:=hw e (List.mem_of_getElem? he)
   obtain⟨b1,o1,rfl,ka⟩:=aH.row ha (Rows.Bv za) dN hlt;obtain⟨b2,o2,rfl,kb⟩:=aH.row hb (Rows.Bv zb) fJ hlt;obtain⟨e1,e2,⟨e3,e4,e5,e6⟩,e7,e8,⟨e9,Jc,Qp,Qo⟩,e13,e14⟩:=e
   have a0:=ka.at_ (j:=0) rfl
   have a1:=ka.at_ (j:=1) rfl
   have a2:=ka.mid (k:=2) (us:=[.int .u8 e3,iv e4,iv e5,.int .u32 e6]) rfl
   have a3:=ka.mid (k:=6) (us:=[iv e7,.int .u32 e8]) rfl
   have a4:=ka.mid (k:=8) (us:=[iv e9,iv Jc,.bool Qp,.int .u32 Qo]) rfl
   have a5:=ka.at_ (j:=12) rfl
   have a6:=ka.at_ (j:=13) rfl
   have d0:=kb.at_ (j:=0) rfl
   have d1:=kb.at_ (j:=1) rfl
   have d2:=kb.mid (k:=2) (us:=[.int .u8 e3,iv e4,iv e5,.int .u32 e6]) rfl
   have d3:=kb.mid (k:=6) (us:=[iv e7,.int .u32 e8]) rfl
   have d4:=kb.mid (k:=8) (us:=[iv e9,iv Jc,.bool Qp,.int .u32 Qo]) rfl
   have d5:=kb.at_ (j:=12) rfl
   have d6:=kb.at_ (j:=13) rfl
   clear ka kb;dsimp only at a0 a1 a2 a3 a4 a5 a6 d0 d1 d2 d3 d4 d5 d6;refine aB ?_;refine aRR ?_;refine Jp ?_;refine Eb 28 rfl (fun h=>absurd rfl h) (fun _=>?_);refine Jp ?_;refine Eb 41 rfl (fun h=>absurd rfl h) (fun _=>?_);refine Jp ?_;refine sY (aDr rfl rfl) ?_;refine Jp ?_;refine sY (aDr rfl rfl) ?_;refine Jp ?_;refine sY (aDr rfl rfl) ?_;refine Jp ?_;refine Eb 93 rfl (fun h=>absurd rfl h) (fun _=>?_);refine Jp ?_;refine rG (fun w1 t=>aJ6 e14 _ _ _ _ w1 (aH.le hs1 (t.le (by simp))) (aH.le iH (t.le (by simp))) Lj) ?_;refine Jp ?_;refine aIl ?_;refine aB ?_;exact jO ()
  ·refine aB ?_;exact dH ()
 refine aB ?_;exact dF
end
section
theorem St.aGg{w0 w:World}{R:List Piece}{H:List HP}{g f:Nat}{hL:HL}{s:aC}{m:kV}(t:St w0 R H w)(i:Nat)(hi:H[i]? =some (iP g f hL s m)):∃L,Cd w f hL.h L s m.y:=by
 obtain⟨F,h1,h2,_⟩:=t.chunk hi;obtain⟨G,g1,g2,_⟩:=h1;obtain⟨L,hL⟩:=g1 1 _ rfl;exact⟨L,aEq hL fun b hb=>h2 b (g2 1 b hb)⟩
theorem aOH(f h:Nat)(L:fQ)(s:aC)(z:cI)(w:World)(kf:Cd w f h L s z):Cz 42 #[pt f] w (Rt (iv z.at_) w):=by
 have k0:=kf.r0.at_ (j:=16) rfl
 refine aO func42 ntmps42 ?_;refine aA ?_;exact iS (by simp) rfl
theorem aOC(f h:Nat)(L:fQ)(s:aC)(z:cI)(w:World)(kf:Cd w f h L s z):Cz 43 #[pt f,iv 1] w (Rt (.bool (decide (z.h1=1))) w):=by
 have k0:=kf.r0.at_ (j:=13) rfl
 refine aO func43 ntmps43 ?_;refine aA ?_;refine aQ (fun w1 t=>Lf 1 w1) ?_;refine aA ?_;refine kd (fF 1 13) ?_;refine aA ?_;exact iS (by simp) rfl
section
variable(g f r:Nat)(hL:HL)(s:aC)(W:aW)(w:World)(F:Nat→Prop)
theorem aEM(hp:(dI g f r hL s W).sat F w)(hF:∀b,F b→b < w.heap.size):
  Cz 18 #[pt g] w (Wr (.bool W.idle) (dI g f r hL s W) w F):=by
 refine cS func18 ntmps18 hp hF ?_;refine iT 0 fun L=>?_;refine aX 0 0 ?_;refine aX 1 1 ?_;refine aB ?_;refine nY (α:=Unit) (fun _=>[(0,pt g)]) (fun _=>[iP r f hL s W.m,HP.aE g 103 (lD f r hL s W L),HP.many [bU,bU,HP.own 46 14 (.slice L.A W.es.length L.c) W.es.length L.rows.flatten,lC W.es L.rows]]) (fun _=>∀j:Nat,j < 3→uH W.m.z j=false) ?_ fun _ hx=>?_
 ·refine nX (α:=Unit) (fun k _=>[(4,iv k),(0,pt g)]) (fun _ _=>[iP r f hL s W.m,HP.aE g 103 (lD f r hL s W L),HP.many [bU,bU,HP.own 46 14 (.slice L.A W.es.length L.c) W.es.length L.rows.flatten,lC W.es L.rows]]) (fun k _=>∀j:Nat,j < k→uH W.m.z j=false) 3 () (fun j hj=>absurd hj (by omega)) fun k _ hk hx=>?_;refine aB ?_;refine aG rfl (fun hlt=>?_) (fun hge=>?_)
  ·refine aB ?_;refine aQ (fun w1 t1=>aMT r f hL s W.m w1 k 0 t1 rfl) ?_;cases hb:uH W.m.z k with
   | true =>
    have hi:W.idle=false:=by
     unfold aW.idle;rcases(show k=0∨k=1∨k=2 by omega) with rfl | rfl | rfl
     ·rw[show uH W.m.z 0=true from hb];rfl
     ·rw[show uH W.m.z 1=true from hb];simp
     ·rw[show uH W.m.z 2=true from hb];simp
    rw[hi];refine aB ?_;refine aJ 1 1 ?_;refine aJ 0 0 ?_;refine cP 0 (fun L:jB=>kE g f r hL s W L) L ?_;exact bO 0 hF
   | false =>
    refine aB ?_
    exact jO () (hg:=fun j hj=>by
     rcases Nat.lt_succ_iff_lt_or_eq.1 hj with h | rfl
     ·exact hx j h
     ·exact hb)
  ·refine aB ?_;exact dH () (hg:=fun j hj=>hx j (by omega))
 ·have hi:W.idle=(decide (W.m.y.at_ < 0)&& !decide (W.m.y.h1=1)):=by
   unfold aW.idle;rw[show uH W.m.z 0=false from hx 0 (by omega),show uH W.m.z 1=false from hx 1 (by omega),show uH W.m.z 2=false from hx 2 (by omega)];rfl
  rw[hi];refine aB ?_
  refine aQ (fun w1 t1=>by
   obtain⟨L2,hR⟩:=t1.aGg 0 rfl
   exact aOH f hL.h L2 s W.m.y w1 hR) ?_
  refine aB ?_;refine bX (t:=20) rfl (fun h0=>?_) (fun h0=>?_)
  ·rw[show(decide (W.m.y.at_ < 0)&& !decide (W.m.y.h1=1))=decide (¬W.m.y.h1=1) by rw[decide_eq_true h0];simp];refine aB ?_
   refine aQ (fun w1 t1=>by
    obtain⟨L2,hR⟩:=t1.aGg 0 rfl
    exact aOC f hL.h L2 s W.m.y w1 hR) ?_
   refine aB ?_;refine aJ 1 1 ?_;refine aJ 0 0 ?_;refine cP 0 (fun L:jB=>kE g f r hL s W L) L ?_;exact bO 0 hF
  ·rw[show(decide (W.m.y.at_ < 0)&& !decide (W.m.y.h1=1))=false by rw[decide_eq_false h0];rfl];refine aB ?_;refine aJ 1 1 ?_;refine aJ 0 0 ?_;refine cP 0 (fun L:jB=>kE g f r hL s W L) L ?_;exact bO 0 hF
end
end
section
def Yn(es:List jQ)(v:Value)(hs:List HP)(q:Piece):Prop:=∃A c rows,v=.slice A es.length c∧hs=[]∧aH q 14 A es.length rows.flatten∧fR es rows q∧es.length≤c
theorem Zb(g:Nat)(L:jB)(es:List jQ)(w:World)(hn:es.length≤1000000)(hw:∀e∈es,e.words.length≤1000000)(hr:WdR w g L es):
  Cz 11 #[pt g] w (fun y w'=>(∃v hs q,y=.returned v∧q.w=w'∧Yn es v hs q∧fV w hs q)∧Below w.heap.size w w'):=by
 have Ak:=hr.c
 have hlr:=(Rows.len hr.ev).1
 have aCL:=Rows.Bv hr.ev
 refine aO func11 ntmps11 ?_;refine aB ?_;refine dS (aEv es.length L.rows.flatten) (fun w1 t=>aHD L.A _ L.c _ w1 (hr.row.le (t.le (by simp))) hr.ev.one' hn) ?_;rintro _ _ q2 ⟨A,c,rfl,rfl⟩ _;dsimp only[List.cons_append,List.nil_append];refine aB ?_;refine nU (R':=[all w]) (by simp) ?_;refine nM (p:=lC [] []) aHm ?_;refine nY (α:=List (List Value)) (fun _=>[(3,.slice A es.length c)]) (fun nr=>[HP.own 46 14 (.slice A es.length c) es.length nr.flatten,lC es nr]) (fun _=>True) ?_ fun nr _=>?_
 ·refine nX (α:=List (List Value)) (fun i _=>[(12,iv i),(11,iv es.length),(3,.slice A es.length c)]) (fun i nr=>[HP.own 46 14 (.slice A es.length c) es.length (nr++L.rows.drop i).flatten,lC (es.take i) nr]) (fun i nr=>nr.length=i∧∀r∈nr,r.length=14) es.length [] ⟨rfl,fun _ h=>by cases h⟩ fun i nr hi hx=>?_;obtain⟨gN,Vf⟩:=hx;refine aB ?_;refine aG rfl (fun hlt=>?_) (fun hge=>?_)
  ·have hlt:i < es.length:=by omega
   obtain⟨ro,hro⟩:=get_some (l:=L.rows) (i:=i) (by omega);obtain⟨e,he,_,Aw,cw,rfl,tV⟩:=Rows.at_ hr.ev hro
   have Lj:=hw e (List.mem_of_getElem? he)
   have hall:∀r∈nr++L.rows.drop i,r.length=14:=fun r h=>by
    rcases List.mem_append.1 h with h | h
    ·exact Vf r h
    ·exact aCL r (List.mem_of_mem_drop h)
   have qH:(nr++L.rows.drop i).length=es.length:=by rw[List.length_append,List.length_drop];omega
   refine Xw 0 rfl (by omega) ?_;rintro⟨gb,rfl⟩;refine Ec 0 rfl fun cs jF hct hnc Fv=>?_;dsimp only[List.set]
   have hri:(nr++L.rows.drop i)[i]? =some (e.row Aw cw):=by
    rw[List.getElem?_append_right (by omega),gN,Nat.sub_self,List.getElem?_drop,Nat.add_zero];exact hro
   have hsub:=Bj hct qH hall hri
   have hcc:i*14+14≤cs.length:=by
    have:=Nat.mul_le_mul_right 14 (show i+1≤c by omega)
    omega
   refine aB ?_;refine kd (bH rfl (Rd.sub 0 13 rfl hsub rfl rfl)) ?_;refine aB ?_;refine dS (Si e.words.length (dQ e.words)) (fun w1 t=>Xe Aw _ cw _ w1 (aH.le tV (t.le (by simp))) (Ep _) Lj) ?_;rintro _ _ q3 ⟨A2,c2,rfl,rfl⟩ _;dsimp only[List.cons_append,List.nil_append];refine aB ?_;refine By 1 (n:=es.length) (c:=c) (sz:=14) (xs:=((nr++L.rows.drop i).set i (e.row A2 c2)).flatten) rfl (by rw[List.length_set];exact jF) (yQ hct qH hall hlt (by omega) rfl (Sub.set hsub 13 _ (show 13 < 14 by decide) (by omega)) ((rJ.refl cs (i*14) 14).set 13 _ (by decide))) hnc Fv ?_;dsimp only[List.set];rw[aFX gN (by omega)];refine aT [0,2,1] rfl (by decide) (R':=[all w]) (by simp) ?_;refine aIt (x:=e) ?_;rw[show es.take i++[e]=es.take (i+1) by rw[List.take_add_one,he];rfl]
   exact jO (nr++[e.row A2 c2]) (hg:=⟨by rw[List.length_append,gN];rfl,fun r h=>by
    rcases List.mem_append.1 h with h | h
    ·exact Vf r h
    ·rw[List.mem_singleton] at h;subst h
     rfl⟩)
  ·obtain rfl:i=es.length:=by omega
   rw[List.drop_of_length_le (by omega),List.append_nil,List.take_length];refine aB ?_;exact dH nr
 refine aB ?_;refine aIp 0 rfl fun hcap=>?_;refine dB [] [0,1] [] (by simp) rfl (by decide) (by decide) fun q hq _ hfr=>?_;obtain⟨F0,Ks,Kf⟩:=hq 0 _ (by simp) rfl;obtain⟨F1,Ex,Ej⟩:=hq 1 _ (by simp) rfl
 have Lp:aH q 14 A es.length nr.flatten:=aH.own ⟨F0,Ks,Kf⟩
 have hz9:fR es nr q:=fR.le ⟨q.w,F1⟩ q (fun b hb=>⟨Ej b hb,rfl⟩) Ex
 exact aP (h:=fun w1 st=>⟨_,[],⟨w1,q.Z⟩,rfl,rfl,⟨A,c,nr,rfl,rfl,Lp.le fun b hb=>⟨hb,st.ro (by simp) hb⟩,fR.le q _ (fun b hb=>⟨hb,st.ro (by simp) hb⟩) hz9,hcap⟩,st.newR (by simp) (by simp) (hfr (by simp) (by simp))⟩)
end
section
theorem Rows.take{α:Type}{R:α→List Value→Prop}{sz:Nat}:∀{es:List α} {rs:List (List Value)} (k:Nat),Rows R sz es rs→Rows R sz (es.take k) (rs.take k)
 | _,_,0,_=>trivial
 | [],[],_+1,_=>trivial
 | [],_::_,_+1,h=>h.elim
 | _::_,[],_+1,h=>h.elim
 | _::_,_::_,k+1,h=>⟨h.1,h.2.1,Rows.take k h.2.2⟩
theorem aHa{sz:Nat}:∀(rs:List (List Value)) (k:Nat),(∀r∈rs,r.length=sz)→rs.flatten.take (k*sz)=(rs.take k).flatten
 | _,0,_=>by simp
 | [],_+1,_=>by simp
 | r::rs,k+1,h=>by
  have h1:=h r (by simp)
  rw[List.flatten_cons,List.take_succ_cons,List.flatten_cons,←aHa rs k fun x hx=>h x (by simp[hx]),Nat.succ_mul,Nat.add_comm (k*sz) sz,←h1,List.take_length_add_append]
theorem aJ4(A:Option Addr)(n c:Nat)(zs:List Int)(B:Option Addr)(nb cb:Nat)(dV:List fH)(C:Option Addr)(nc cc:Nat)(more:List fH)(w:World)(h0:aH (all w) 1 A n (aN zs))(hz:aBx zs)(hn:n=zs.length)(hn2:n≤9223372036854775807)(h1:aH (all w) 12 B nb (dV.flatMap fH.cells))(hac:∀a∈dV,a.ok)(hnb:nb=dV.length)(aG6:nb≤2000000)(h2:aH (all w) 12 C nc (more.flatMap fH.cells))(hmc:∀a∈more,a.ok)(hnc:nc=more.length)(aCK:nc≤2000000)(cZ:eM (all w)):
  Cz 6 #[.slice A n c,.slice B nb cb,.slice C nc cc] w (Rt (.bool true) w):=by
 subst hnb;subst hnc
 have hLw:∀{w1:World} {R:List Piece} {H:List HP},St w R H w1→all w∈R→eM (all w1):=fun t h=>eM.le cZ (t.le h)
 refine aO func6 ntmps6 ?_;refine aB ?_;refine aQ (fun w1 t=>aKz w1 (hLw t (by simp))) ?_;refine aB ?_;refine kA [] (fun v w w'=>∃cs s,v=.agg cs∧uL (fI (fresh w w')) s cs∧s.made) (fun w1 t=>aQz A n c zs w1 (h0.le (t.le (by simp))) hz hn hn2) ?_;rintro _ wc q0 ⟨cs,s,rfl,hS,hm⟩ hf _ _;obtain⟨A1,n1,k1,A2,n2,k2,A3,n3,k3,A4,n4,k4,rfl,hQ⟩:=uL.Q (hS.mono (kF hf));clear hf hS;refine bY fun gS=>?_;refine aB ?_
 have qF:=hm.nv
 obtain⟨_,_,_,rfl⟩:=hQ.len;refine dS (aEg s (runN s dV dV.length)) (fun w1 t=>aFq s A1 A2 A3 A4 n1 k1 n2 k2 n3 k3 _ k4 B cb dV w1 (hQ.W (t.le (by simp)) (Um hm)) hm (h1.le (t.le (by simp))) hac aG6 (hLw t (by simp))) ?_;rintro _ _ q1 ⟨g1,f1,r1,Dl,rfl,rfl,aOp⟩ _;dsimp only[List.cons_append,List.nil_append];refine nU (R':=[q0,all w]) (by simp) ?_;refine aB ?_;refine dS (aEg s (runN s dV dV.length)) (fun w1 t=>aFq s A1 A2 A3 A4 n1 k1 n2 k2 n3 k3 _ k4 B cb dV w1 (hQ.W (t.le (by simp)) (Um hm)) hm (h1.le (t.le (by simp))) hac aG6 (hLw t (by simp))) ?_;rintro _ _ q2 ⟨g2,f2,r2,Dk,rfl,rfl,aOo⟩ _;dsimp only[List.cons_append,List.nil_append];refine nU (R':=[q0,all w]) (by simp) ?_;refine aB ?_;refine bX (t:=39) rfl (fun hg=>?_) (fun hg=>?_)
 ·refine aB ?_;exact dF
 refine aB ?_;refine aG rfl (fun Ly=>?_) (fun Ly=>?_)
 ·refine aB ?_;exact dF
 have Im:=aBQ hm hac dV.length (Nat.le_refl _)
 obtain⟨W,hW⟩:∃W,runN s dV dV.length=W:=⟨_,rfl⟩
 rw[hW] at Im⊢;clear hW
 have hmN:=aFV hm Im hmc
 obtain⟨aG1,x,hx⟩:=hmN more.length (Nat.le_refl _)
 have Iq:W.es.length≤1000000:=by have:=Im.es;omega
 have hwW:∀e∈W.es,e.words.length≤1000000:=fun e he=>(Im.wd e he).2
 have Wa:(lO s W more more.length).es.length≤1000000:=by have:=aG1.es;omega
 have hwV:∀e∈(lO s W more more.length).es,e.words.length≤1000000:=fun e he=>(aG1.wd e he).2
 have hle:W.es.length≤(lO s W more more.length).es.length:=by rw[hx,List.length_append];omega
 refine aB ?_
 refine dS (Yn W.es) (fun w1 t=>by
  obtain⟨L,hr⟩:=t.Sv 1 rfl
  exact Zb g1 L _ w1 Iq hwW hr) ?_
 rintro _ _ qa3 ⟨Aav,cav,ra,rfl,rfl,hsa,hza,hca⟩ _;dsimp only[List.nil_append];refine nU (R':=[qa3,all w]) (by simp) ?_;refine aB ?_;refine nY (α:=Unit) (fun _=>[(11,.slice Aav W.es.length cav),(10,pt g2),(9,pt g1),(8,pt gS),(2,.slice C more.length cc)]) (fun _=>[dI g1 f1 r1 Dl s (lO s W more more.length),dI g2 f2 r2 Dk s W,HP.aE gS 30 [.slice A1 n1 k1,.slice A2 n2 k2,.slice A3 n3 k3,.slice A4 s.aD.length k4]]) (fun _=>True) ?_ fun _ _=>?_
 ·refine nX (α:=Unit) (fun i _=>[(12,iv i),(11,.slice Aav W.es.length cav),(10,pt g2),(9,pt g1),(8,pt gS),(2,.slice C more.length cc)]) (fun i _=>[dI g1 f1 r1 Dl s (lO s W more i),dI g2 f2 r2 Dk s W,HP.aE gS 30 [.slice A1 n1 k1,.slice A2 n2 k2,.slice A3 n3 k3,.slice A4 s.aD.length k4]]) (fun _ _=>True) more.length () trivial fun i _ hi _=>?_;obtain⟨vD,_⟩:=hmN i hi;refine aB ?_;refine aG rfl (fun hlt=>?_) (fun hge=>?_)
  ·have hlt:i < more.length:=by omega
   obtain⟨a,ha⟩:=get_some hlt
   have hao:=hmc a (List.mem_of_getElem? ha)
   have cX:=aCn (s:=s) (w:=W) ha
   obtain⟨b,off,rfl,ka⟩:=aDD h2 ha;refine aB ?_;refine pW ?_;refine aL 8 ?_;refine dS (aBv (qB a s.aD.length)) (fun w1 t=>aCb a s.aD.length w1 hao ⟨by omega,by omega⟩) ?_;rintro _ _ q2 ⟨Aw,cw,p0,rfl,rfl⟩ _;dsimp only[List.cons_append,List.nil_append];refine nU (R':=[qa3,all w]) (by simp) ?_;refine bA ?_;refine aL 9 ?_;refine dB [] [1] [2,3,4] (by simp) rfl (by decide) (by decide) fun q hq _ _=>?_;obtain⟨F1,Ex,Ej⟩:=hq 1 _ (by simp) rfl
   have Ll:aH q 1 Aw (qB a s.aD.length).words.length (dQ (qB a s.aD.length).words):=nZ.le ⟨q.w,F1⟩ q (fun b hb=>⟨Ej b hb,rfl⟩) Ex
   refine bT 0 (dI g1 f1 r1 Dl s (lO s W more (i+1))) (fun w1 F1 t h1 h2 h3=>by
    rw[cX]
    exact En g1 f1 r1 Dl s _ _ w1 F1 hm aOp vD (by omega) (qB a s.aD.length) (Ud hao _) Aw _ cw (Ll.le (h3 _ (by simp))) rfl (eM.le cZ (h3 _ (by simp))) h1 h2) ?_
   refine nU (R':=[qa3,all w]) (by simp) ?_;refine cG ?_;refine dX ?_;refine aB ?_;exact jO ()
  ·obtain rfl:i=more.length:=by omega
   refine aB ?_;exact dH ()
 refine aB ?_
 refine dS (Yn (lO s W more more.length).es) (fun w1 t=>by
  obtain⟨L,hr⟩:=t.Sv 0 rfl
  exact Zb g1 L _ w1 Wa hwV hr) ?_
 rintro _ _ Zw ⟨Abv,cbv,rb,rfl,rfl,hsb,eV,hcb⟩ _;dsimp only[List.nil_append];refine aB ?_;refine dS (Np W.es.length ra) (fun w1 t=>Rk W.es ra Aav cav w1 (hsa.le (t.le (by simp))) (fR.le _ _ (t.le (by simp)) hza) Iq) ?_;rintro _ _ qa4 ⟨Aaw,caw,rfl,rfl,hwa⟩ _;dsimp only[List.nil_append];refine aB ?_
 refine dS (Yn W.es) (fun w1 t=>by
  obtain⟨L,hr⟩:=t.Sv 1 rfl
  exact Zb g2 L _ w1 Iq hwW hr) ?_
 rintro _ _ qc3 ⟨Acv,ccv,rc,rfl,rfl,hsc,Cy,hcc⟩ _;dsimp only[List.nil_append];refine aB ?_;refine dS (Np W.es.length rc) (fun w1 t=>Rk W.es rc Acv ccv w1 (hsc.le (t.le (by simp))) (fR.le _ _ (t.le (by simp)) Cy) Iq) ?_;rintro _ _ qc4 ⟨Acw,ccw,rfl,rfl,hwc⟩ _;dsimp only[List.nil_append];refine aB ?_;refine aQ (fun w1 t=>aBP W.es ra rc _ _ _ _ w1 (hwa.le (t.le (by simp))) (fR.le _ _ (t.le (by simp)) hza) (hwc.le (t.le (by simp))) (fR.le _ _ (t.le (by simp)) Cy) Iq hwW) ?_;refine aB ?_;refine bX (t:=87) rfl (fun h=>absurd h (by omega)) (fun _=>?_);refine aB ?_;refine aE4 W.es.length (el:=46) (sz:=14) (by kernel_rfl) (by kernel_rfl) rfl rfl rfl (by omega) (by decide) fun Adv hA3=>?_
 have Pm:=hsb.aEV (k:=W.es.length) hle hA3
 rw[aHa _ _ (Rows.Bv eV)] at Pm
 have hzd:fR W.es (rb.take W.es.length) Zw:=by
  have:=Rows.take W.es.length eV
  rwa [hx,List.take_left' rfl] at this
 refine aB ?_;refine dS (Np W.es.length (rb.take W.es.length)) (fun w1 t=>Rk W.es (rb.take W.es.length) Adv cbv w1 (Pm.le (t.le (by simp))) (fR.le _ _ (t.le (by simp)) hzd) Iq) ?_;rintro _ _ qd4 ⟨Adw,cdw,rfl,rfl,had⟩ _;dsimp only[List.nil_append];refine aB ?_;refine dS (Np W.es.length ra) (fun w1 t=>Rk W.es ra Aav cav w1 (hsa.le (t.le (by simp))) (fR.le _ _ (t.le (by simp)) hza) Iq) ?_;rintro _ _ qe4 ⟨Aew,cew,rfl,rfl,Lj⟩ _;dsimp only[List.nil_append];refine aB ?_;refine aQ (fun w1 t=>aBP W.es (rb.take W.es.length) ra _ _ _ _ w1 (had.le (t.le (by simp))) (fR.le _ _ (t.le (by simp)) hzd) (Lj.le (t.le (by simp))) (fR.le _ _ (t.le (by simp)) hza) Iq hwW) ?_;refine aB ?_;refine nU (R':=[Zw,all w]) (by simp) ?_;refine nY (α:=Unit) (fun _=>[(13,.slice Abv (lO s W more more.length).es.length cbv),(10,pt g2),(9,pt g1),(8,pt gS),(2,.slice C more.length cc)]) (fun _=>[dI g1 f1 r1 Dl s (lO s W more more.length),dI g2 f2 r2 Dk s (lO s W more more.length),HP.aE gS 30 [.slice A1 n1 k1,.slice A2 n2 k2,.slice A3 n3 k3,.slice A4 s.aD.length k4]]) (fun _=>True) ?_ fun _ _=>?_
 ·refine nX (α:=Unit) (fun i _=>[(14,iv i),(13,.slice Abv (lO s W more more.length).es.length cbv),(10,pt g2),(9,pt g1),(8,pt gS),(2,.slice C more.length cc)]) (fun i _=>[dI g1 f1 r1 Dl s (lO s W more more.length),dI g2 f2 r2 Dk s (lO s W more i),HP.aE gS 30 [.slice A1 n1 k1,.slice A2 n2 k2,.slice A3 n3 k3,.slice A4 s.aD.length k4]]) (fun _ _=>True) more.length () trivial fun i _ hi _=>?_;obtain⟨vD,_⟩:=hmN i hi;refine aB ?_;refine aG rfl (fun hlt=>?_) (fun hge=>?_)
  ·have hlt:i < more.length:=by omega
   obtain⟨a,ha⟩:=get_some hlt
   have hao:=hmc a (List.mem_of_getElem? ha)
   have cX:=aCn (s:=s) (w:=W) ha
   obtain⟨b,off,rfl,ka⟩:=aDD h2 ha;refine aB ?_;refine pW ?_;refine aL 8 ?_;refine dS (aBv (qB a s.aD.length)) (fun w1 t=>aCb a s.aD.length w1 hao ⟨by omega,by omega⟩) ?_;rintro _ _ q2 ⟨Aw,cw,p0,rfl,rfl⟩ _;dsimp only[List.cons_append,List.nil_append];refine nU (R':=[Zw,all w]) (by simp) ?_;refine bA ?_;refine aL 9 ?_;refine dB [] [1] [2,3,4] (by simp) rfl (by decide) (by decide) fun q hq _ _=>?_;obtain⟨F1,Ex,Ej⟩:=hq 1 _ (by simp) rfl
   have Ll:aH q 1 Aw (qB a s.aD.length).words.length (dQ (qB a s.aD.length).words):=nZ.le ⟨q.w,F1⟩ q (fun b hb=>⟨Ej b hb,rfl⟩) Ex
   refine bT 1 (dI g2 f2 r2 Dk s (lO s W more (i+1))) (fun w1 F1 t h1 h2 h3=>by
    rw[cX]
    exact En g2 f2 r2 Dk s _ _ w1 F1 hm aOo vD (by omega) (qB a s.aD.length) (Ud hao _) Aw _ cw (Ll.le (h3 _ (by simp))) rfl (eM.le cZ (h3 _ (by simp))) h1 h2) ?_
   refine nU (R':=[Zw,all w]) (by simp) ?_;refine cG ?_;refine dX ?_;refine aB ?_;exact jO ()
  ·obtain rfl:i=more.length:=by omega
   refine aB ?_;exact dH ()
 refine aB ?_
 refine dS (Yn (lO s W more more.length).es) (fun w1 t=>by
  obtain⟨L,hr⟩:=t.Sv 1 rfl
  exact Zb g2 L _ w1 Wa hwV hr) ?_
 rintro _ _ qf3 ⟨Afv,cfv,rf,rfl,rfl,uZ,hzf,Vx⟩ _;dsimp only[List.nil_append];refine aB ?_;refine dS (Np (lO s W more more.length).es.length rf) (fun w1 t=>Rk (lO s W more more.length).es rf Afv cfv w1 (uZ.le (t.le (by simp))) (fR.le _ _ (t.le (by simp)) hzf) Wa) ?_;rintro _ _ qf4 ⟨Afw,cfw,rfl,rfl,hwf⟩ _;dsimp only[List.nil_append];refine aB ?_;refine dS (Np (lO s W more more.length).es.length rb) (fun w1 t=>Rk (lO s W more more.length).es rb Abv cbv w1 (hsb.le (t.le (by simp))) (fR.le _ _ (t.le (by simp)) eV) Wa) ?_;rintro _ _ qb4 ⟨Abw,cbw,rfl,rfl,hwb⟩ _;dsimp only[List.nil_append];refine aQ (fun w1 t=>aBP (lO s W more more.length).es rf rb _ _ _ _ w1 (hwf.le (t.le (by simp))) (fR.le _ _ (t.le (by simp)) hzf) (hwb.le (t.le (by simp))) (fR.le _ _ (t.le (by simp)) eV) Wa hwV) ?_;refine aB ?_;refine bT 0 (dI g1 f1 r1 Dl s (lO s W more more.length)) (fun w1 F1 t1 h1 h2 h3=>aEM g1 f1 r1 Dl s _ w1 F1 h1 h2) ?_;refine aB ?_;refine bT 1 (dI g2 f2 r2 Dk s (lO s W more more.length)) (fun w1 F1 t1 h1 h2 h3=>aEM g2 f2 r2 Dk s _ w1 F1 h1 h2) ?_;refine aB ?_;rw[beq_self_eq_true];exact dF
end
section
section
variable{H:Type}{enc:TypeId×Value→H}{w:World}{fuel:Nat}{cs:List Value}{x:DataW H×List MemPlace}
theorem wO{α:Type}{l:List α}{n i:Nat}(h:l.length=n)(hi:i < n):∃y,l[i]? =some y:=⟨l[i]'(by omega),List.getElem?_eq_getElem _⟩
theorem aQX{a:Int}(h:(Lit.int .u32 a).wf=true):0≤a∧a < 4294967296:=by
 simp[Lit.wf,IntKind.min,IntKind.max,IntKind.signed,IntKind.bits] at h;omega
theorem aIg:Tryz.prog.cellsOf 74=12:=by kernel_rfl
theorem aIj:Tryz.prog.cellsOf 72=6:=by kernel_rfl
theorem aIi:Tryz.prog.cellsOf 3=1:=by kernel_rfl
theorem aIh:Tryz.prog.cellsOf 37=1:=by kernel_rfl
theorem aJX{l:List Value}(h:l.length=12):∃a b c d e f g i j k m n,l=[a,b,c,d,e,f,g,i,j,k,m,n]:=by
 match l,h with
 | [a,b,c,d,e,f,g,i,j,k,m,n],_=>exact⟨a,b,c,d,e,f,g,i,j,k,m,n,rfl⟩
theorem aKy{l:List Value}(h:l.length=6):∃a b c d e f,l=[a,b,c,d,e,f]:=by
 match l,h with
 | [a,b,c,d,e,f],_=>exact⟨a,b,c,d,e,f,rfl⟩
theorem aRa(h:DataW.trod enc Tryz.prog w 0 (fun _=>true) true fuel 72 cs=some x):
  ∃a b c d e f:Int,cs=[iv a,iv b,iv c,iv d,iv e,iv f]∧(-9223372036854775808≤b∧b≤9223372036854775807)∧(-9223372036854775808≤c∧c≤9223372036854775807)∧(-9223372036854775808≤d∧d≤9223372036854775807)∧(-9223372036854775808≤e∧e≤9223372036854775807)∧(-9223372036854775808≤f∧f≤9223372036854775807):=by
 obtain⟨xs,n,rfl,_,hl,hxl,hf⟩:=DataW.trod_struct Tryz.underlying72 h;rw[aIj] at hl;obtain⟨a,b,c,d,e,f,rfl⟩:=aKy hl
 have h0:=hf 0 _ rfl
 have h1:=hf 1 _ rfl
 have h2:=hf 2 _ rfl
 have h3:=hf 3 _ rfl
 have h4:=hf 4 _ rfl
 have h5:=hf 5 _ rfl
 simp only[List.getElem_toArray,List.getElem_cons_zero,List.getElem_cons_succ,List.drop_succ_cons,List.drop_zero,aIi,aIh,List.take_succ_cons,List.take_zero] at h0 h1 h2 h3 h4 h5;obtain⟨y0,e0⟩:=wO hxl (i:=0) (by simp);obtain⟨y1,e1⟩:=wO hxl (i:=1) (by simp);obtain⟨y2,e2⟩:=wO hxl (i:=2) (by simp);obtain⟨y3,e3⟩:=wO hxl (i:=3) (by simp);obtain⟨y4,e4⟩:=wO hxl (i:=4) (by simp);obtain⟨y5,e5⟩:=wO hxl (i:=5) (by simp);rw[e0] at h0;rw[e1] at h1;rw[e2] at h2;rw[e3] at h3;rw[e4] at h4;rw[e5] at h5;obtain⟨z0,g0,_,_⟩:=DataW.trod_int Tryz.underlying3 h0;obtain⟨z1,g1,_,w1⟩:=DataW.trod_int Tryz.underlying3 h1;obtain⟨z2,g2,_,w2⟩:=DataW.trod_int Tryz.underlying3 h2;obtain⟨z3,g3,_,w3⟩:=DataW.trod_int Tryz.underlying3 h3;obtain⟨z4,g4,_,w4⟩:=DataW.trod_int Tryz.underlying3 h4;obtain⟨z5,g5,_,w5⟩:=DataW.trod_int Tryz.underlying3 h5;simp at g0 g1 g2 g3 g4 g5;subst g0;subst g1;subst g2;subst g3;subst g4;subst g5;exact⟨_,_,_,_,_,_,rfl,Br w1,Br w2,Br w3,Br w4,Br w5⟩
theorem aR9(h:DataW.trod enc Tryz.prog w 0 (fun _=>true) true fuel 74 cs=some x):∃v:fH,cs=v.cells∧v.ok:=by
 obtain⟨xs,n,rfl,_,hl,hxl,hf⟩:=DataW.trod_struct Tryz.underlying74 h;rw[aIg] at hl;obtain⟨a,b,c,d,e,f,g,i,j,k,m,n',rfl⟩:=aJX hl
 have h0:=hf 0 _ rfl
 have h1:=hf 1 _ rfl
 have h2:=hf 2 _ rfl
 have h3:=hf 3 _ rfl
 have h4:=hf 4 _ rfl
 have h5:=hf 5 _ rfl
 have h6:=hf 6 _ rfl
 simp only[List.getElem_toArray,List.getElem_cons_zero,List.getElem_cons_succ,List.drop_succ_cons,List.drop_zero,aIi,aIh,aIj,List.take_succ_cons,List.take_zero] at h0 h1 h2 h3 h4 h5 h6;obtain⟨y0,e0⟩:=wO hxl (i:=0) (by simp);obtain⟨y1,e1⟩:=wO hxl (i:=1) (by simp);obtain⟨y2,e2⟩:=wO hxl (i:=2) (by simp);obtain⟨y3,e3⟩:=wO hxl (i:=3) (by simp);obtain⟨y4,e4⟩:=wO hxl (i:=4) (by simp);obtain⟨y5,e5⟩:=wO hxl (i:=5) (by simp);obtain⟨y6,e6⟩:=wO hxl (i:=6) (by simp);rw[e0] at h0;rw[e1] at h1;rw[e2] at h2;rw[e3] at h3;rw[e4] at h4;rw[e5] at h5;rw[e6] at h6;obtain⟨z0,g0,_,w0⟩:=DataW.trod_int Tryz.underlying3 h0;obtain⟨z1,g1,_,w1⟩:=DataW.trod_int Tryz.underlying3 h1;obtain⟨z2,g2,_,w2⟩:=DataW.trod_int Tryz.underlying3 h2;obtain⟨z3,g3,_,w3⟩:=DataW.trod_int Tryz.underlying3 h3;obtain⟨z4,g4,_,w4⟩:=DataW.trod_int Tryz.underlying3 h4;obtain⟨z5,g5,_,w5⟩:=DataW.trod_int Tryz.underlying37 h5;obtain⟨q0,q1,q2,q3,q4,q5,g6,u1,u2,u3,u4,u5⟩:=aRa h6;simp at g0 g1 g2 g3 g4 g5 g6;obtain⟨rfl,rfl,rfl,rfl,rfl,rfl⟩:=g6;subst g0;subst g1;subst g2;subst g3;subst g4;subst g5;exact⟨⟨z0,z1,z2,z3,z4,z5,q0,q1,q2,q3,q4,q5⟩,rfl,Br w0,Br w1,Br w2,Br w3,Br w4,aQX w5,u1,u2,u3,u4,u5⟩
open Go.ChangeShapes Go.WideShapes Go.ChangeAt in
set_option maxRecDepth 100000 in
theorem aFJ{v:Value}{d:DataW H}{ps:List MemPlace}{base:Nat}(hval:Value.okWide Tryz.prog w .any base 23 v)(h:DataW.Trod enc Tryz.prog w 0 (fun _=>true) true 23 v d ps):
    ∃(A:Option Addr) (n c:Nat) (dV:List fH),v=.slice A n c∧Sl w w.heap.size 12 A n (dV.flatMap fH.cells)∧(∀a∈dV,a.ok)∧n=dV.length∧n≤9223372036854775807:=by
  obtain⟨a0,len,cap,rfl⟩:=okWide_slice Tryz.underlying23 hval;obtain⟨fuel,hf⟩:=h;obtain⟨A,n,c,ys,hcs,qZ,hn,hm,hR⟩:=aKx fH.cells fH.ok Tryz.underlying23 aIg (by omega) fH.len (fun _ _ _ h=>aR9 h) hf;simp[Value.cells] at hcs;obtain⟨rfl,rfl,rfl⟩:=hcs;subst hn;exact⟨_,_,_,ys,rfl,qZ,hR,rfl,hm⟩
end
end
section
theorem aQS{H:Type}(d:DataW H):1≤Rows.uptoBulk d:=by
 cases d with
 | lit l=>cases l<;>simp[Rows.uptoBulk]
 | _=>simp[Rows.uptoBulk]
theorem aQR{H:Type}{d:DataW H}{l:List (DataW H)}(h:d∈l):Rows.uptoBulk d≤Rows.uptoBulkAll l:=by
 induction l with
 | nil=>cases h
 | cons x r ih =>
  simp only[Rows.uptoBulkAll];rcases List.mem_cons.1 h with rfl | h
  ·omega
  ·have:=ih h
   omega
theorem aQT{H:Type}(l:List (DataW H)):l.length≤Rows.uptoBulkAll l:=by
 induction l with
 | nil=>exact Nat.zero_le _
 | cons x r ih=>
  have:=aQS x
  simp only[Rows.uptoBulkAll,List.length_cons];omega
open Go.ChangeShapes Go.WideShapes Go.ChangeAt in
theorem aHN{H:Type}{enc:TypeId×Value→H}{w:World}{t e:TypeId}{A:Option Addr}{n c:Nat}{d:DataW H}{ps:List MemPlace}(ht:Tryz.prog.underlying t=some (.slice e))(h:DataW.Trod enc Tryz.prog w 0 (fun _=>true) true t (.slice A n c) d ps):n≤Rows.uptoBulk d:=by
  obtain⟨fuel,hf⟩:=h;rcases DataW.trod_slice ht hf with⟨h0,_⟩ | ⟨a,len,cap,elems,rest,k,_,hcs,hx,_,_,_,hlen,_⟩
  · simp[Value.cells] at h0
    omega
  · simp[Value.cells] at hcs
    cases hx
    have:=aQT (elems.map (·.1))
    rw[List.length_map] at this;simp only[Rows.uptoBulk];omega
theorem aHO{H:Type}{l:List (DataW H)}{d:DataW H}{n:Nat}(hk:Rows.uptoSmall H l=true)(hd:d∈l)(hn:n≤Rows.uptoBulk d):n≤1048576:=by
 have h1:Rows.uptoBulkAll l≤1048576:=of_decide_eq_true hk
 have:=aQR hd
 omega
end
end Go.Proofs.YtkgekojkboingaaGreatDoor
