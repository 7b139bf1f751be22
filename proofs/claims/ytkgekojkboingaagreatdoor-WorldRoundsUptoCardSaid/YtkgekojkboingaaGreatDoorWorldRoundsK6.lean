/- Functions that defer a recover: how they begin and end. -/
import Derived.KernelRfl
import Derived.Tactics2
import Derived.Test.YtkgekojkboingaaGreatDoorProg
import Derived.Test.YtkgekojkboingaaGreatDoorWorldRoundsK5
namespace Go.Proofs.YtkgekojkboingaaGreatDoor
set_option linter.all false
set_option maxHeartbeats 4000000
set_option maxRecDepth 20000
open Go.RowKit Go.Proofs.Tryz
section
section
variable{P:Program}{N:cE}{w0 w:World}{K:Act→World→Prop}{e:Env}{R:List Piece}{H H':List HP}
theorem aAY{nn:Nat}{F:Nat→Prop}{p:HP}{f:FuncId}{fn:Func}{c:Code}{vs:List Value}{Post:Ending→World→Prop}(hf:P.funcs[f]? =some fn)(hb:fn.body=some c)(hN:fn.ntmps=nn)(hl:vs.length≤nn)(hp:p.sat F w)(hF:∀b,F b→b < w.heap.size)
  (h:XK ⟨nn,[]⟩ w (c.wp P (bodyPostD P fn Post)) (Dx 0 vs) [⟨w,fun b=>b < w.heap.size∧¬F b⟩] [p]):Calls P f vs.toArray w Post:=by
 refine calls_of_wp_defers hf hb (h _ _ ⟨?_,rfl,fun t v hv=>?_⟩ (aDM hp hF))
 ·simp;omega
 ·obtain⟨_,h2⟩:=Wx vs 0 t v hv;rw[Nat.sub_zero] at h2
  have hlt:t < vs.length:=by
   rcases Nat.lt_or_ge t vs.length with h | h
   ·exact h
   ·rw[List.getElem?_eq_none h] at h2;cases h2
  rw[Array.getElem?_append_left (by simpa using hlt)]
  simpa using h2
theorem Bv{nn:Nat}{f:FuncId}{fi ca:List Value}{fn:Func}{Post:Ending→World→Prop}{x:Exit}(hx:x=.ret∨x=.normal)(hf:eX P f=true)
  (jS:∀w,CallsD P f (fi++ca).toArray .returning w fun y u' w'=>y=.returned (.tuple #[])∧u'=.returning∧w'=w) (hr:fn.results=#[])
  (h:∀w,St w0 R H w→Post (.returned (.tuple #[])) w):XK ⟨nn,[Je f fi ca]⟩ w0 (bodyPostD P fn Post x) e R H:=by
 have key:XK ⟨nn,[Je f fi ca]⟩ w0 (bodyPostD P fn Post .ret) e R H:=aR4 (H':=H) hf (fun w1 st=>(jS w1).mono fun y u' w' h=>by
  obtain⟨h1,h2,rfl⟩:=h
  exact⟨⟨_,h1⟩,h2,st⟩) fun a w1 _ st=>⟨.tuple #[],results_none hr _ _ _,h w1 st⟩
 rcases hx with rfl | rfl
 ·exact key
 ·exact key
end
theorem Vw(w:World):CallsD Tryz.prog 89 #[] .returning w fun e u' w'=>e=.returned (.tuple #[])∧u'=.returning∧w'=w:=by
 refine callsD_of_wpS func89 rfl fun c₀ cs hu=>?_;apply wpS_region;simp[wpOpsS,go_sem,recoverD,hu,ntmps89,Exit.thenS];cases c₀;simp_all [bodyPostS,results,Tryz.results89]
section
variable{N:cE}{w0 w:World}{e:Env}{R:List Piece}{H:List HP}{K:Act→World→Prop}{f:Nat}{hL:HL}{s:aC}{z:cJ}{x:aU}
theorem Gx(i:Nat){o:Nat}{v:Value}(hi:H[i]? =some (gI f hL s z x))(hv:∀L,(jH hL.h L s z)[o]? =some v):Rd w0 R H f o v:=fun w t=>by
 obtain⟨F,⟨G,g1,g2,_⟩,h2,_⟩:=t.chunk hi;obtain⟨L,hL'⟩:=g1 0 _ rfl
 have:=((aDZ hL' fun b hb=>h2 b (g2 0 b hb)).r0.at_ (hv L)).2
 rwa [Nat.zero_add] at this
end
theorem aOr(f:Nat)(hL:HL)(s:aC)(z:cJ)(x:aU)(hH:s.dK)(aQ:gA hL s)(hok:cX s x)(hz:Ee s z)(hst:∀a,sC z=some a→(gH s x z a).2.1=0→(gH s x z a).1=0→tA (kB z a))(eY:z.at_ < 0)(hno:(nF s x z).2=false)(w:World)(F:Nat→Prop)(hp:(gI f hL s z x).sat F w)(hF:∀b,F b→b < w.heap.size):
  Cz 36 #[pt f] w (Wr (.tuple #[]) (gI f hL s (nF s x z).1 x) w F):=by
 refine aAY (vs:=[pt f]) (p:=gI f hL s z x) func36 rfl ntmps36 (by simp) hp hF ?_;refine aA ?_;refine Yl (f:=89) (fi:=[]) (ca:=[]) rfl ?_;refine aA ?_;refine kd (bH rfl (Gx 0 rfl fun _=>rfl)) ?_;refine aA ?_;refine cG (t:=8) rfl (fun _=>?_) (fun h=>absurd eY h);refine aA ?_;refine bT 0 (gI f hL s (nF s x z).1 x) (fun w1 F1 t h1 h2 h3=>aGD f hL s z x hH aQ hok hz hst w1 F1 h1 h2) ?_;rw[hno];refine aA ?_;exact Bv (.inl rfl) (by kernel_rfl) Vw rfl fun w1 t=>⟨rfl,t.turns hF (by simp) (i:=0) rfl⟩
end
section
def aGt(m p k:Int):Bool:=decide ((gZ m 0 p k).2=0∧cN (gZ m 0 p k).1 28 4=0∧cN (gZ m 0 p k).1 0 8=m∧cN (gZ m 0 p k).1 8 2=0∧cN (gZ m 0 p k).1 10 8=p∧cN (gZ m 0 p k).1 18 10=k)
end
section
theorem aF4:(List.range 256).all (fun v=>decide (Bs (IntKind.u32.wrap v) (uW 8 0)=0))=true:=by decide+kernel
theorem aMi:(List.range 4).all (fun v=>decide (Bs (IntKind.u32.wrap v) (uW 2 0)=0))=true:=by decide+kernel
theorem aMj:(List.range 1024).all (fun v=>decide (Bs (IntKind.u32.wrap v) (uW 10 0)=0))=true:=by decide+kernel
theorem Zm{n:Nat}{many v:Int}(h:(List.range n).all (fun v=>decide (Bs (IntKind.u32.wrap v) (uW many 0)=0))=true)(h0:0≤v)(hv:v < n):Bs (IntKind.u32.wrap v) (uW many 0)=0:=by
 rw[List.all_eq_true] at h
 have:=of_decide_eq_true (h v.toNat (List.mem_range.2 (by omega)))
 rwa [show((v.toNat:Nat):Int)=v by omega] at this
theorem Zj{w low many v:Int}(hm:Bs (IntKind.u32.wrap v) (uW many 0)=0)(h0:0≤v)(hv:v < IntKind.i64.wrap (1*2 ^ min many.toNat 64)):(fV w low many v).2=0:=by
 unfold fV;rw[if_neg (by omega),if_neg (by rw[wK,if_neg (fun h=>h hm)];exact fun h=>h rfl)]
theorem aLC{m p k:Int}(hm:0≤m∧m < 256)(hp:0≤p∧p < 256)(hk:0≤k∧k < 1024):(gZ m 0 p k).2=0:=by
 have e8:IntKind.i64.wrap (1*2 ^ min (8:Int).toNat 64)=256:=by decide+kernel
 have e2:IntKind.i64.wrap (1*2 ^ min (2:Int).toNat 64)=4:=by decide+kernel
 have Iy:IntKind.i64.wrap (1*2 ^ min (10:Int).toNat 64)=1024:=by decide+kernel
 have a1:∀w low,(fV w low 8 m).2=0:=fun w low=>Zj (Zm aF4 hm.1 hm.2) hm.1 (by rw[e8];exact hm.2)
 have a2:∀w low,(fV w low 2 0).2=0:=fun w low=>Zj (Zm aMi (by decide) (by decide)) (by decide) (by rw[e2];decide)
 have a3:∀w low,(fV w low 8 p).2=0:=fun w low=>Zj (Zm aF4 hp.1 hp.2) hp.1 (by rw[e8];exact hp.2)
 have a4:∀w low,(fV w low 10 k).2=0:=fun w low=>Zj (Zm aMj hk.1 hk.2) hk.1 (by rw[Iy];exact hk.2)
 unfold gZ;rw[if_neg (fun h=>h (a1 _ _)),if_neg (fun h=>h (a2 _ _)),if_neg (fun h=>h (a3 _ _)),if_neg (fun h=>h (a4 _ _))]
theorem aBO(a b:Int):0≤Ai a b∧Ai a b < 4294967296:=Nl _
theorem aLx(w low many v:Int):0≤(fV w low many v).1∧(fV w low many v).1 < 4294967296:=by
 unfold fV;split
 ·exact⟨by decide,by decide⟩
 ·split
  ·exact⟨by decide,by decide⟩
  ·unfold wK;split
   ·exact⟨by decide,by decide⟩
   ·exact aBO _ _
def aIw(l:List Int)(v:Value)(hs:List HP)(_:Piece):Prop:=∃A c,v=.slice A l.length c∧hs=[HP.own 37 1 (.slice A l.length c) l.length (dV l)]
def aEd(l:List Int)(v:Value)(hs:List HP)(_:Piece):Prop:=∃A c,v=.tuple #[.slice A l.length c,iv 0]∧hs=[HP.own 37 1 (.slice A l.length c) l.length (dV l)]
theorem aJC(l:List Int)(x:Int):dV l++[.int .u32 x]=dV (l++[x]):=by simp[dV]
theorem aEA(l:List Int)(i:Nat)(x:Int):(dV l).set i (.int .u32 x)=dV (l.set i x):=by simp[dV,List.map_set]
theorem aES(P:Program)(a b:Int)(w:World):(Op.intBits .or .u32 a b).run P w=.ok (.int .u32 (Ai a b)) w:=by rfl
end
section
section
variable{s:aC}{x:aU}{l:Int}{b:Nat}{m a:List Int}
end
theorem aBS{s:aC}{st:List eN}(hH:s.dK)(h:pH s st)(i:Int)(b:Bool):pH s (lN s st i b).2:=by
 unfold lN;split
 ·exact h
 ·split
  ·rename_i c x hc hx
   split
   ·exact h
   ·refine⟨by simp[h.len],fun y hy=>?_⟩;rcases List.mem_or_eq_of_mem_set hy with hy | rfl
    ·exact h.left y hy
    ·have h1:=(hH.t.aF i.toNat c hc).2
     have h2:=h.left x (List.mem_of_getElem? hx)
     unfold Tu;dsimp only;split
     ·omega
     ·exact h2
  ·exact h
theorem aJA{s:aC}{st:List fU}(hH:s.dK)(h:tF s st)(i:Int):tF s (uQ s st i).2:=by
 unfold uQ;split
 ·exact h
 ·split
  ·rename_i c x hc hx
   split
   ·exact h
   ·have h1:=(hH.domains i.toNat c hc).2
    refine⟨by simp[h.len],fun y hy=>?_,fun y hy=>?_⟩
    ·rcases List.mem_or_eq_of_mem_set hy with hy | rfl
     ·exact h.left y hy
     ·exact h1
    ·rcases List.mem_or_eq_of_mem_set hy with hy | rfl
     ·exact h.phase y hy
     ·exact⟨by show(0:Int)≤114;omega,by show(114:Int) < 256;omega⟩
  ·exact h
end
section
def eG(p:Piece):Prop:=∀(i:Nat) (v:Int),[(114:Int),97,115,100][i]? =some v→p.Z 0∧p.w.cell? ⟨0,i,none⟩=some (.int .u8 v)
theorem eG.at_{p:Piece}{w:World}(h:eG p)(hl:p.Le (all w)):Rw w:=fun i v hv=>by
 obtain⟨h1,h2⟩:=h i v hv;obtain⟨h3,h4⟩:=hl 0 h1;refine⟨h3,?_⟩;rw[←h2];exact World.cell?_of_block h4
theorem eG.le{p q:Piece}(h:eG p)(hl:p.Le q):eG q:=fun i v hv=>by
 obtain⟨h1,h2⟩:=h i v hv;obtain⟨h3,h4⟩:=hl 0 h1;exact⟨h3,(World.cell?_of_block h4).trans h2⟩
def Ie(s:aC)(d:Int)(k:Nat)(p:dU×fD):dU×fD:=match s.aD[k]? with
 | some dv=>if dv.domain=d then(p.1,(nX p.2).2) else p
 | none=>p
def wO(s:aC)(x:aU)(d:Int)(n:Nat):List (dU×fD):=x.dv.mapIdx fun k p=>if k < n then Ie s d k p else p
def Oa(s:aC)(x:aU)(d:Int):aU×Bool:=
 if rX x.dm d=48∨rX x.dm d=116 then({x with dm:=(uQ s x.dm d).2},false)
 else if rX x.dm d=49 then({x with dv:=wO s x d s.aD.length},true) else(x,false)
def Wu(s:aC)(x:aU)(c:Nat):aU×Bool:=
 ({x with ck:=(lN s x.ck c true).2},tK s (lN s x.ck c true).2 c||(decide ((mE s c).length < 2)|| !tK s (lN s x.ck c true).2 ((mE s c).getD 1 0:Nat)))
def Nv(x:aU)(i:Int):aU×Bool:=if Il x.ln i then({x with ln:=(wJ x.ln i).2},false) else(x,true)
theorem aFQ{x:fD}(h:zH x):zH (nX x).2:=by
 unfold nX;split
 ·exact h
 ·exact⟨by show(0:Int)≤0;omega,by show(0:Int)≤3;omega⟩
theorem aFR{s:aC}{x:aU}(hH:s.dK)(hok:cX s x)(d:Int)(n:Nat):cX s {x with dv:=wO s x d n}:=Tv hH hok (by simp[wO]) fun i e p hd hp=>by
 rw[wO,List.getElem?_mapIdx] at hp;cases hq:x.dv[i]? with
 | none=>rw[hq] at hp;cases hp
 | some q =>
  rw[hq] at hp;obtain⟨h1,h2⟩:=hok.each i e q hd hq;simp only[Option.map_some,Option.some.injEq] at hp;subst hp;split
  ·unfold Ie;rw[hd];dsimp only;split
   ·exact⟨h1,aFQ h2⟩
   ·exact⟨h1,h2⟩
  ·exact⟨h1,h2⟩
section
variable{N:cE}{w0 w:World}{e:Env}{R:List Piece}{H:List HP}{Q:Exit→Act→World→Prop}{ops:Array Oper}{rest:List Oper}{K:Act→World→Prop}
variable{d:Nat}{ty:TypeId}{pos:String}{aH:Array Edge}{f h:Nat}{L:fQ}{s:aC}{z:cJ}
theorem aEq(n:Nat)(Φ:List Value→Prop){x:Operand}{t:TypeId}{b o:Nat}[hT:kV t n](hx:e.ev x=some (.pointer (some ⟨b,o,none⟩)))(h:∀w,St w0 R H w→∃vs,dQ w b o vs∧vs.length=n∧Φ vs)(k:∀vs,Φ vs→XK N w0 (wpList Tryz.prog ops Q rest) ((d,.agg vs.toArray)::e) R H)(hd:d < N.n:=by decide):
  XK N w0 (wpList Tryz.prog ops Q (⟨some d,.load t x,ty,pos,aH,none⟩::rest)) e R H:=rO rfl fun a w hr st=>by
 obtain⟨vs,h1,h2,h3⟩:=h w st;exact⟨.agg vs.toArray,w,aHe (N:=N) (w0:=w) (R:=[all w]) (H:=[]) (d:=d) (ty:=ty) (pos:=pos) (aH:=aH) n hT.h hx (xP (by simp) h1) h2 a w hr (St.start w),k vs h3 _ _ (hr.put hd _) st⟩
theorem aHU(j:Nat)(hj:H[j]? =some (iF f h L s z))(hn:0 < s.aD.length)(k:∀b off,L.a4.1=some ⟨b,off,none⟩→XK N w0 K e R H):XK N w0 K e R H:=fun a w hr st=>by
 obtain⟨b,off,r,hA,_⟩:=jW.row (st.Dp j hj).so.dev (List.getElem?_eq_getElem hn);exact k b off hA a w hr st
def aEc(d:cH)(vs:List Value):Prop:=∃A n k A' n' k',vs=[iv d.clock,iv d.domain,iv d.reset,.int .u32 d.iH,.slice A n k,.slice A' n' k']
theorem aGJ{i b off:Nat}{d:cH}(kf:Ca w f h L s z)(hA:L.a4.1=some ⟨b,off,none⟩)(hd:s.aD[i]? =some d):∃vs,dQ w b (off+i*6) vs∧vs.length=6∧aEc d vs:=by
 obtain⟨b',off',r,pP,hl,⟨A,n,k,A',n',k',he,_⟩,hro⟩:=jW.row kf.so.dev hd;rw[hA] at pP;cases pP;exact⟨r,hro,hl,A,n,k,A',n',k',he⟩
end
variable(f:Nat)(hL:HL)(s:aC)(z:cJ)(x:aU)(w:World)
theorem aOt(hH:s.dK)(aQ:gA hL s)(hok:cX s x)(d:Int)(F:Nat→Prop)(hp:(gI f hL s z x).sat F w)(hF:∀b,F b→b < w.heap.size)(cZ:eG ⟨w,fun b=>b < w.heap.size∧¬F b⟩):
  Cz 138 #[pt f,iv d] w (Wr (.bool (Oa s x d).2) (gI f hL s z (Oa s x d).1) w F):=by
 have qW:=hH.t.nv
 have lC:=hok.dv
 refine cT func138 ntmps138 hp hF ?_;generalize cP:(⟨w,fun b=>b < w.heap.size∧¬F b⟩:Piece)=R0 at cZ⊢;refine aW 0 0 ?_;refine iT 0 fun L=>?_;refine aW 1 1 ?_;refine aA ?_;refine kd (bH rfl (Rd.eC 1 rfl rfl)) ?_;refine aA ?_;refine aS (fun w1 t=>aCA hL s x w1 hok.dm d (t.mA 0 rfl aQ hok)) ?_;unfold Oa;generalize Da:rX x.dm d=ph
 by_cases h48:ph=48
 ·subst h48;rw[if_pos (.inl rfl)];refine aA ?_;refine kd (bH rfl (Rd.eC 1 rfl rfl)) ?_;refine aA ?_;refine bT 0 (dN hL s {x with dm:=(uQ s x.dm d).2}) (fun w1 F1 t h1 h2 h3=>aGu hL s x w1 hH aQ hok d F1 h1 h2) ?_;refine aA ?_;refine aJ 1 1 ?_;refine cQ 0 (fun L:fQ=>iF f hL.h L s z) L ?_;refine aJ 0 0 ?_;subst cP;exact bP 0 hF
 by_cases Vt:ph=116
 ·subst Vt;rw[if_pos (.inr rfl)];refine aA ?_;refine kd (bH rfl (Rd.eC 1 rfl rfl)) ?_;refine aA ?_;refine bT 0 (dN hL s {x with dm:=(uQ s x.dm d).2}) (fun w1 F1 t h1 h2 h3=>aGu hL s x w1 hH aQ hok d F1 h1 h2) ?_;refine aA ?_;refine aJ 1 1 ?_;refine cQ 0 (fun L:fQ=>iF f hL.h L s z) L ?_;refine aJ 0 0 ?_;subst cP;exact bP 0 hF
 rw[if_neg (by omega)]
 by_cases Lv:ph=49
 ·subst Lv;rw[if_pos rfl];refine aA ?_;refine kd (bH rfl (Rd.eC 1 rfl rfl)) ?_;refine aA ?_
  have hm0:wO s x d 0=x.dv:=Og _ _
  refine bN [(31,iv (0)),(30,iv s.aD.length),(29,.slice L.a4.1 s.aD.length L.a4.2),(0,pt f),(1,iv d)] ?_;refine eV (fun m e R H=>∃i:Nat,i≤s.aD.length∧m=s.aD.length - i∧e=[(31,iv (i:Int)),(30,iv s.aD.length),(29,.slice L.a4.1 s.aD.length L.a4.2),(0,pt f),(1,iv d)]∧R=[R0]∧H=[dN hL s {x with dv:=wO s x d i},iF f hL.h L s z,HP.many [bX,bX]]) s.aD.length ⟨0,by omega,rfl,rfl,rfl,by rw[hm0]⟩ fun m e R H hI=>?_;obtain⟨i,hi,rfl,rfl,rfl,rfl⟩:=hI
  have mN:=aFR hH hok d i
  refine aA ?_;refine aG rfl (fun hlt=>?_) (fun hge=>?_)
  ·have hlt:i < s.aD.length:=by omega
   obtain⟨dv,dB⟩:=get_some hlt;obtain⟨p,gE⟩:=get_some (l:=x.dv) (i:=i) (by omega)
   have kO:(wO s x d i)[i]? =some p:=Oi gE
   have hstep:(wO s x d i).set i (Ie s d i p)=wO s x d (i+1):=Oh (f:=Ie s d) gE
   obtain⟨q1,q2⟩:=(mN.each i dv p dB kO).2;refine aHU 1 rfl (by omega) fun b off hA=>?_;refine aA ?_;refine kd (dat i (off+i*6) (hx:=by rw[←hA];rfl)) ?_;refine aEq 6 (aEc dv) rfl (fun w1 t=>aGJ (t.Dp 1 rfl) hA dB) ?_;rintro _ ⟨A,n,k,A',n',k',rfl⟩;refine bY fun g1=>?_;refine aA ?_;refine aG rfl (fun he=>?_) (fun he=>?_)
   ·have mY:Ie s d i p=p:=by
     unfold Ie;rw[dB];exact if_neg he
    rw[mY,wI kO] at hstep;rw[hstep];refine aA ?_;refine aT [1,2,3] rfl (by decide) (fun _ h=>h) ?_;exact eR (s.aD.length - (i+1)) ⟨i+1,hlt,rfl,rfl,rfl,rfl⟩
   ·have he:dv.domain=d:=by simpa using he
    have mY:Ie s d i p=(p.1,(nX p.2).2):=by
     unfold Ie;rw[dB];exact if_pos he
    have hst:wD {x with dv:=wO s x d i} i=oM p.2.at_:=by
     unfold wD;dsimp only;rw[kO];rfl
    refine aA ?_;refine kd (bH rfl (Rd.eC 2 rfl rfl)) ?_;refine aA ?_;refine aS (fun w1 t=>aGv hL s _ w1 aQ mN i hlt (cZ.at_ (t.le (by simp))) (t.mA 1 rfl aQ mN)) ?_;rw[hst]
    by_cases ha:p.2.at_=2∨p.2.at_=3
    ·have hlf:oM p.2.at_=115∨oM p.2.at_=100:=by
      rcases ha with ha | ha<;>rw[ha]
      ·exact .inl rfl
      ·exact .inr rfl
     rcases hlf with hlf | hlf<;>rw[hlf]
     all_goals
      refine aA ?_;refine kd (bH rfl (Rd.eC 2 rfl rfl)) ?_;refine aA ?_;refine vQ (α:=Int) 1 (f:=175) (fi:=[]) (ca:=[]) (fun r=>iv r) (fun _=>dN hL s (yJ {x with dv:=wO s x d i} i)) (fun _=>True) (by kernel_rfl) rfl rfl rfl (by decide) (fun w1 F1 t h1 h2 h3=>aCB hL s _ w1 hH aQ mN i hlt F1 h1 h2) ?_;rintro _ _;dsimp only[List.set]
      have hX:yJ {x with dv:=wO s x d i} i={x with dv:=wO s x d (i+1)}:=by
       unfold yJ;dsimp only;rw[kO,←hstep,mY]
      rw[hX];refine aA ?_;refine aT [1,2,3] rfl (by decide) (fun _ h=>h) ?_;exact eR (s.aD.length - (i+1)) ⟨i+1,hlt,rfl,rfl,rfl,rfl⟩
    ·have hq:(nX p.2).2=p.2:=by
      unfold nX;rw[if_pos (by omega)]
     have hlf:oM p.2.at_=114∨oM p.2.at_=97:=by
      have:p.2.at_=0∨p.2.at_=1:=by omega
      rcases this with ha | ha<;>rw[ha]
      ·exact .inl rfl
      ·exact .inr rfl
     rw[mY,hq,wI kO] at hstep;rcases hlf with hlf | hlf<;>rw[hlf,hstep]
     all_goals
      refine aA ?_;refine aT [1,2,3] rfl (by decide) (fun _ h=>h) ?_;exact eR (s.aD.length - (i+1)) ⟨i+1,hlt,rfl,rfl,rfl,rfl⟩
  obtain rfl:i=s.aD.length:=by omega
  refine aA ?_;refine aJ 1 1 ?_;refine cQ 0 (fun L:fQ=>iF f hL.h L s z) L ?_;refine aJ 0 0 ?_;subst cP;exact bP 0 hF
 ·rw[if_neg Lv];refine aA ?_;refine aG rfl (fun h=>absurd h h48) (fun _=>?_);refine aA ?_;refine aG rfl (fun h=>absurd h Vt) (fun _=>?_);refine aA ?_;refine aG rfl (fun h=>absurd h Lv) (fun _=>?_);refine aA ?_;refine aJ 1 1 ?_;refine cQ 0 (fun L:fQ=>iF f hL.h L s z) L ?_;refine aJ 0 0 ?_;subst cP;exact bP 0 hF
theorem aOs(hH:s.dK)(aQ:gA hL s)(hok:cX s x)(i:Int)(F:Nat→Prop)(hp:(gI f hL s z x).sat F w)(hF:∀b,F b→b < w.heap.size):
  Cz 142 #[pt f,iv i] w (Wr (.bool (Nv x i).2) (gI f hL s z (Nv x i).1) w F):=by
 refine cT func142 ntmps142 hp hF ?_;generalize cP:(⟨w,fun b=>b < w.heap.size∧¬F b⟩:Piece)=R0;refine aW 0 0 ?_;refine iT 0 fun L=>?_;refine aW 1 1 ?_;refine aA ?_;refine kd (bH rfl (Rd.eC 1 rfl rfl)) ?_;refine aA ?_;refine aS (fun w1 t=>aNC hL s x w1 i (t.mA 0 rfl aQ hok)) ?_;unfold Nv;cases hh:Il x.ln i
 ·refine aA ?_;refine aJ 1 1 ?_;refine cQ 0 (fun L:fQ=>iF f hL.h L s z) L ?_;refine aJ 0 0 ?_;subst cP;exact bP 0 hF
 ·refine aA ?_;refine kd (bH rfl (Rd.eC 1 rfl rfl)) ?_;refine aA ?_;refine bT 0 (dN hL s {x with ln:=(wJ x.ln i).2}) (fun w1 F1 t h1 h2 h3=>aNA hL s x w1 hH aQ hok i F1 h1 h2) ?_;refine aA ?_;refine aJ 1 1 ?_;refine cQ 0 (fun L:fQ=>iF f hL.h L s z) L ?_;refine aJ 0 0 ?_;subst cP;exact bP 0 hF
theorem aOy(hH:s.dK)(aQ:gA hL s)(hok:cX s x)(c:Nat)(hc:c < s.aF.length)(F:Nat→Prop)(hp:(gI f hL s z x).sat F w)(hF:∀b,F b→b < w.heap.size):
  Cz 140 #[pt f,iv (c:Int)] w (Wr (.bool (Wu s x c).2) (gI f hL s z (Wu s x c).1) w F):=by
 refine cT func140 ntmps140 hp hF ?_;generalize cP:(⟨w,fun b=>b < w.heap.size∧¬F b⟩:Piece)=R0;refine aW 0 0 ?_;refine iT 0 fun L=>?_;refine aW 1 1 ?_;refine aA ?_;refine kd (bH rfl (Rd.eC 1 rfl rfl)) ?_;refine aA ?_;refine bT 0 (dN hL s {x with ck:=(lN s x.ck c true).2}) (fun w1 F1 t h1 h2 h3=>aGz hL s x w1 hH aQ hok c true F1 h1 h2) ?_
 have mO:cX s {x with ck:=(lN s x.ck c true).2}:=⟨aBS hH hok.ck _ _,hok.dm,hok.ln,hok.dv,hok.each,hok.wt⟩
 unfold Wu;generalize Ey:({x with ck:=(lN s x.ck c true).2}:aU)=x2 at mO⊢
 have Bc:(lN s x.ck c true).2=x2.ck:=by rw[←Ey]
 rw[Bc];refine aA ?_;refine kd (bH rfl (Rd.eC 1 rfl rfl)) ?_;refine aA ?_;refine aS (fun w1 t=>aGw hL s x2 w1 hH c (t.mA 0 rfl aQ mO)) ?_;cases hr:tK s x2.ck c
 ·refine aA ?_;refine kd (jM rfl (aM.eC 1 rfl (vs:=[.slice L.a1.1 s.aF.length L.a1.2,.slice L.a2.1 s.domains.length L.a2.2,.slice L.a3.1 s.aY.length L.a3.2,.slice L.a4.1 s.aD.length L.a4.2]) rfl)) ?_;refine aA ?_;refine kA [] (Gz (mE s c)) (fun w1 t=>aA7 (all w1) s _ _ _ _ _ L.a1.2 _ L.a2.2 _ L.a3.2 _ L.a4.2 c w1 (t.Dp 1 rfl).so hH.t (Piece.Le.refl _) hc) ?_;rintro _ w1 qm ⟨Ac,cc,rfl,jS⟩ hf _ _
  have jS:=jS.le hf
  clear hf;refine aA ?_;rcases oP:mE s c with _ | ⟨c0,_ | ⟨c1,cr⟩⟩
  ·refine lJ ?_;refine iY ?_;refine aA ?_;refine aJ 1 1 ?_;refine cQ 0 (fun L:fQ=>iF f hL.h L s z) L ?_;refine aJ 0 0 ?_;subst cP;exact bP 0 hF
  ·refine lJ ?_;refine iY ?_;refine aA ?_;refine aJ 1 1 ?_;refine cQ 0 (fun L:fQ=>iF f hL.h L s z) L ?_;refine aJ 0 0 ?_;subst cP;exact bP 0 hF
  ·rw[oP] at jS;obtain⟨b,off,hA,hb,mZ⟩:=jS.2 (by simp)
   have r1:Rd w [qm,R0] [dN hL s x2,iF f hL.h L s z,HP.many [bX,bX]] b (off+1) (iv (c1:Int)):=Rd.ro (p:=qm) (by simp) hb (mZ 1 _ rfl)
   have hlen:decide ((c0::c1::cr).length < 2)=false:=by simp
   rw[hlen];refine lJ ?_;refine jC ?_;refine Ea 27 rfl (fun h=>absurd h (by simp;omega)) (fun _=>?_);refine jC ?_;refine sU (bH rfl (Rd.eC 1 rfl rfl)) ?_;refine jC ?_;refine sU (dat 1 (off+1) (hx:=by rw[←hA];rfl) (hlt:=by simp)) ?_;refine jC ?_;refine rB (fun w1 t=>aGw hL s x2 w1 hH c1 (t.mA 0 rfl aQ mO)) ?_;refine iY ?_;refine aA ?_;refine aJ 1 1 ?_;refine cQ 0 (fun L:fQ=>iF f hL.h L s z) L ?_;refine aJ 0 0 ?_;subst cP;exact bP 0 hF
 ·refine aA ?_;refine aJ 1 1 ?_;refine cQ 0 (fun L:fQ=>iF f hL.h L s z) L ?_;refine aJ 0 0 ?_;subst cP;exact bP 0 hF
end
section
structure gJ where
 id:Int
 dev:Int
 dead:Bool
 val:Int
def gJ.cells(a:gJ):List Value:=[iv a.id,iv a.dev,.bool a.dead,.int .u32 a.val]
def Ec(s:aC)(x:aU):Prop:=∀(i:Nat) (d:cH) (t:jA),s.aD[i]? =some d→(x.wt[i]?).join=some t→0≤t.cF∧t.cF < d.aR.length∧0≤t.val∧t.val < 4294967296
def Ts(x:aU)(i:Nat)(wr:Bool)(cF v:Int):aU:={x with wt:=x.wt.set i (some ⟨x.aZ,wr,cF,v⟩),aZ:=x.aZ+1}
def Ej(p:dU×fD)(t:jA):dU×fD:=if t.wr then(⟨p.1.now.set t.cF.toNat t.val,p.1.saved,p.1.kept⟩,p.2) else p
def iI(s:aC)(x:aU)(i:Nat):aU×Option gJ:=match(x.wt[i]?).join,s.aD[i]?,x.dv[i]? with
 | some t,some d,some p=>if xK s x i then({x with wt:=x.wt.set i none,dv:=x.dv.set i (Ej p t)},some ⟨t.id,i,false,p.1.now.getD t.cF.toNat 0⟩) else({x with wt:=x.wt.set i none},some ⟨t.id,i,true,d.iH⟩)
 | _,_,_=>(x,none)
section
variable{s:aC}{x:aU}
theorem aBp(hok:cX s x)(i:Nat)(q:Option jA)(po:Int):cX s {x with wt:=x.wt.set i q,aZ:=po}:=⟨hok.ck,hok.dm,hok.ln,hok.dv,hok.each,by show(x.wt.set i q).length=_;rw[List.length_set];exact hok.wt⟩
theorem aE1{d:cH}{p:dU×fD}{t:jA}(hp:xS d p.1)(hv:0≤t.val∧t.val < 4294967296):xS d (Ej p t).1:=by
 unfold Ej;split
 ·refine⟨by simp[hp.now],hp.saved,fun v h=>?_,hp.u.2⟩;rcases List.mem_or_eq_of_mem_set h with h | rfl
  ·exact hp.u.1 v h
  ·exact hv
 ·exact hp
theorem aOT(hok:cX s x){i:Nat}{d:cH}{p:dU×fD}(hd:s.aD[i]? =some d)(h:xS d p.1∧zH p.2)(wt:List (Option jA))(hw:wt.length=s.aD.length)(po:Int):cX s {x with dv:=x.dv.set i p,wt:=wt,aZ:=po}:=
 ⟨hok.ck,hok.dm,hok.ln,by simp[hok.dv],fun j d' p' hd' hp'=>by
  by_cases hij:i=j
  ·subst hij
   have hlt:i < x.dv.length:=by simpa using(List.getElem?_eq_some_iff.1 hp').1
   rw[List.getElem?_set_self hlt] at hp';cases hp';cases hd.symm.trans hd';exact h
  ·rw[List.getElem?_set_ne hij] at hp'
   exact hok.each j d' p' hd' hp',hw⟩
theorem aQW(hok:cX s x)(mL:Ec s x)(i:Nat):cX s (iI s x i).1:=by
 unfold iI;split
 ·rename_i t d p ht hd hp
  obtain⟨h1,h2⟩:=hok.each i d p hd hp;split
  ·exact aOT hok hd ⟨aE1 h1 (mL i d t hd ht).2.2,by unfold Ej;split<;>exact h2⟩ _ (by simp[hok.wt]) _
  ·exact aBp hok i none _
 ·exact hok
theorem aB8{ws:List (Option jA)}{i j:Nat}{t:jA}(h:((ws.set i none)[j]?).join=some t):(ws[j]?).join=some t:=by
 by_cases hij:i=j
 ·subst hij;rw[List.getElem?_set] at h;simp at h;split at h<;>cases h
 ·rwa [List.getElem?_set_ne hij] at h
theorem aQU(mL:Ec s x)(i:Nat):Ec s (iI s x i).1:=by
 unfold iI;split
 ·split
  ·exact fun j d t hd ht=>mL j d t hd (aB8 ht)
  ·exact fun j d t hd ht=>mL j d t hd (aB8 ht)
 ·exact mL
end
section
variable(L:HL)(s:aC)(x:aU)(w:World)
theorem aGx(hH:s.dK)(aQ:gA L s)(hok:cX s x)(i:Nat)(d:cH)(dB:s.aD[i]? =some d)(h0:(x.wt[i]?).join=none)(lC:s.aD.length≤4)(cF:Int)(hr:0≤cF∧cF < 4∧cF < d.aR.length)(b:Bool)(v:Int)(mM:0≤x.aZ∧x.aZ≤1000000000)(F:Nat→Prop)(hp:(dN L s x).sat F w)(hF:∀b,F b→b < w.heap.size)(cZ:eG ⟨w,fun b=>b < w.heap.size∧¬F b⟩):
  Cz 267 #[.pointer (some ⟨L.h,0,none⟩),.int .u32 (Qz i cF),.bool b,.int .u32 v] w (Wr (if wD x i=114 then .tuple #[iv x.aZ,iv 0] else .tuple #[iv 0,iv 6]) (dN L s (if wD x i=114 then Ts x i b cF v else x)) w F):=by
 have hls:=aQ.ds
 have hxl:=hok.dv
 have wQ:=hok.wt
 have hi:=(List.getElem?_eq_some_iff.1 dB).1
 obtain⟨l,iA⟩:=get_some (l:=L.ds) (i:=i) (by omega);obtain⟨p,gE⟩:=get_some (l:=x.dv) (i:=i) (by omega)
 have hin:bZ s.aD.length (i:Int)=true:=decide_eq_true (by omega)
 have ha:=aHJ (dev:=i) (cF:=cF) ⟨by omega,by omega⟩ ⟨hr.1,hr.2.1⟩
 have hst:wD x i=oM p.2.at_:=by
  unfold wD;rw[gE];rfl
 rw[hst];refine cT func267 ntmps267 hp hF ?_;generalize cP:(⟨w,fun b=>b < w.heap.size∧¬F b⟩:Piece)=R0 at cZ⊢;refine aA ?_;refine aS (fun w1 t=>aH3 _ i cF ha.z0 ha.z1 ha.z2 ha.z3 w1) ?_;refine aA ?_;refine aS (fun w1 t=>Pj L s x w1 i (t.mA 0 rfl aQ hok)) ?_;rw[hin];refine Mm 0 rfl aQ hok (by omega) fun b0 off hA=>?_;refine aA ?_;refine cG (t:=25) rfl (fun h=>absurd h (by omega)) (fun _=>?_);refine aA ?_;refine kd (bH rfl (pG 0 rfl rfl)) ?_;refine aA ?_;refine kd (dat i (off+i*6) (hx:=by rw[←hA];rfl)) ?_;refine aA ?_;refine kd (bH rfl (aBg (vs:=Iz d l) 4 (aM.dev 0 rfl aQ hok hA dB iA rfl) rfl)) ?_;refine aA ?_;refine aS (fun w1 t=>Tj l.1 d p.1 w1 ((t.mA 0 rfl aQ hok).each i d l p dB iA gE).1) ?_;refine aA ?_;refine aG rfl (fun h=>absurd h (by omega)) (fun _=>?_);refine aA ?_;refine kd (bH rfl (pG 0 rfl rfl)) ?_;refine aA ?_;refine kd (dat i (off+i*6) (hx:=by rw[←hA];rfl)) ?_;refine aA ?_;refine kd (bH rfl (aBg (vs:=Iz d l) 5 (aM.dev 0 rfl aQ hok hA dB iA rfl) rfl)) ?_;refine aA ?_;refine aS (fun w1 t=>aFo l.2 p.2 (hok.each i d p dB gE).2 w1 (cZ.at_ (t.le (by simp))) ((t.mA 0 rfl aQ hok).each i d l p dB iA gE).2) ?_;refine aA ?_
 by_cases Bi:oM p.2.at_=114
 ·rw[Bi,if_pos rfl,if_pos rfl];refine aA ?_;refine kd (bH rfl (pG 0 rfl rfl)) ?_;refine aA ?_;refine aW 0 4 ?_;refine bT 0 (xV L.B (jR s) (x.wt.set i (some ⟨x.aZ,b,cF,v⟩)) (x.aZ+1)) (fun w1 F1 t h1 h2 h3=>aQ5 L.B (jR s) x.wt x.aZ i (by rw[Eu];exact hi) (by rw[Eu];omega) (by rw[Eu];exact wQ) h0 _ cF ha.z0 ha.z1 ha.z2 ha.z3 d.aR.length (by simp[jR,dB]) ⟨hr.1,hr.2.2⟩ b v mM w1 F1 h1 h2) ?_;refine aJ 0 4 ?_;refine aA ?_;subst cP;exact fS rfl rfl rfl fun w1 t=>⟨rfl,t.turns hF (by simp) (i:=0) rfl⟩
 ·rw[if_neg Bi,if_neg Bi];refine aG rfl (fun _=>?_) (fun h=>absurd h (by simpa using Bi));refine aA ?_;subst cP;exact fS rfl rfl rfl fun w1 t=>⟨rfl,t.turns hF (by simp) (i:=0) rfl⟩
theorem aNG(hH:s.dK)(aQ:gA L s)(hok:cX s x)(mL:Ec s x)(i:Nat)(d:cH)(dB:s.aD[i]? =some d)(t:jA)(ht:(x.wt[i]?).join=some t)(a:gJ)(hx:(iI s x i).2=some a)(F:Nat→Prop)(hp:(dN L s x).sat F w)(hF:∀b,F b→b < w.heap.size):
  Cz 151 #[.pointer (some ⟨L.h,0,none⟩),iv (i:Int)] w (Wr (.tuple #[.agg a.cells.toArray,.bool true]) (dN L s (iI s x i).1) w F):=by
 have hls:=aQ.ds
 have hxl:=hok.dv
 have wQ:=hok.wt
 have hi:=(List.getElem?_eq_some_iff.1 dB).1
 obtain⟨l,iA⟩:=get_some (l:=L.ds) (i:=i) (by omega);obtain⟨p,gE⟩:=get_some (l:=x.dv) (i:=i) (by omega);obtain⟨hfo,hqo⟩:=hok.each i d p dB gE;obtain⟨r1,r2,r3,r4⟩:=mL i d t dB ht
 have mO:cX s {x with wt:=x.wt.set i none}:=aBp hok i none _
 have hwr:=aE1 (t:=t) hfo ⟨r3,r4⟩
 obtain⟨rn,ern⟩:∃n:Nat,t.cF=(n:Int):=⟨t.cF.toNat,by omega⟩
 have fN:=hfo.now
 obtain⟨rv,Pa⟩:=get_some (l:=p.1.now) (i:=rn) (by omega)
 have hal:xK s {x with wt:=x.wt.set i none} i=xK s x i:=rfl
 have hX:iI s x i=if xK s x i then({x with wt:=x.wt.set i none,dv:=x.dv.set i (Ej p t)},some ⟨t.id,i,false,rv⟩) else({x with wt:=x.wt.set i none},some ⟨t.id,i,true,d.iH⟩):=by
  unfold iI;rw[ht,dB,gE];dsimp only;rw[ern,Int.toNat_natCast,List.getD_eq_getElem?_getD,Pa];rfl
 rw[hX] at hx⊢;refine cT func151 ntmps151 hp hF ?_;generalize cP:(⟨w,fun b=>b < w.heap.size∧¬F b⟩:Piece)=R0;refine aA ?_;refine bY fun g1=>?_;refine aA ?_;refine kd (bH rfl (pG 1 rfl rfl)) ?_;refine aA ?_;refine aW 1 4 ?_;refine bT 0 (xV L.B (jR s) (x.wt.set i none) x.aZ) (fun w1 F1 st h1 h2 h3=>aQ3 L.B (jR s) x.wt x.aZ i (by rw[Eu];exact hi) (by rw[Eu];exact wQ) t ht w1 F1 h1 h2) ?_;refine aJ 1 4 ?_
 change XK _ _ _ _ _ [_,dN L s {x with wt:=x.wt.set i none}]
 generalize Ey:({x with wt:=x.wt.set i none}:aU)=x2 at mO hal⊢
 have Lh:x2.dv[i]? =some p:=by rw[←Ey];exact gE
 refine aA ?_;refine bY fun g2=>?_;refine Mm 2 rfl aQ mO (by omega) fun b off hA=>?_;refine aA ?_;refine kd (bH rfl (pG 2 rfl rfl)) ?_;refine aA ?_;refine kd (dat i (off+i*6) (hx:=by rw[←hA];rfl)) ?_;refine kd (jM rfl (aM.dev 2 rfl aQ mO hA dB iA rfl)) ?_;refine bY fun g3=>?_;refine aA ?_;refine aS (fun w1 st=>aG1 L s x2 w1 hH aQ mO i hi (st.mA 3 rfl aQ mO)) ?_;rw[hal];cases hb:xK s x i
 ·rw[hb] at hx;simp at hx;subst hx;refine aA ?_;refine kd (iG rfl) ?_;refine aA ?_;subst cP;exact yY (vs:=[iv t.id,iv i,.bool true,.int .u32 d.iH]) rfl (by kernel_rfl) rfl rfl (aM.whole 2 rfl) rfl fun w1 st=>⟨rfl,st.turns hF (by simp) (i:=3) rfl⟩
 ·rw[hb] at hx;simp at hx;subst hx;refine aA ?_;rw[ern];refine aS (fun w1 st=>aLh l.1 d p.1 rn rv hfo.now Pa w1 ((st.mA 3 rfl aQ mO).each i d l p dB iA Lh).1) ?_;refine aA ?_
  have Un:t.cF.toNat=rn:=by omega
  cases hw:t.wr
  ·have hwf:Ej p t=p:=by
    unfold Ej;rw[hw];rfl
   have hxx:({x with wt:=x.wt.set i none,dv:=x.dv.set i p}:aU)=x2:=by
    rw[wI gE];exact Ey
   rw[hwf,hxx];refine aA ?_;refine kd (iG rfl) ?_;refine aA ?_;subst cP;exact yY (vs:=[iv t.id,iv i,.bool false,.int .u32 rv]) rfl (by kernel_rfl) rfl rfl (aM.whole 2 rfl) rfl fun w1 st=>⟨rfl,st.turns hF (by simp) (i:=3) rfl⟩
  ·have hwf:Ej p t=(⟨p.1.now.set rn t.val,p.1.saved,p.1.kept⟩,p.2):=by
    unfold Ej;rw[hw,Un];rfl
   rw[hwf];refine aA ?_;refine Rb 3 i rfl dB iA Lh ?_;dsimp only[List.set];refine aW 0 0 ?_;refine bT 0 (gQ l.1 d ⟨p.1.now.set rn t.val,p.1.saved,p.1.kept⟩) (fun w1 F1 st h1 h2 h3=>aLe l.1 d p.1 rn t.val hfo.now (by omega) w1 F1 h1 h2) ?_;refine aJ 0 0 ?_;refine Rj 3 i rfl dB iA Lh (p':=(⟨p.1.now.set rn t.val,p.1.saved,p.1.kept⟩,p.2)) ?_;dsimp only[List.set];refine aA ?_;refine kd (iG rfl) ?_;refine aA ?_;subst cP;subst Ey;exact yY (vs:=[iv t.id,iv i,.bool false,.int .u32 rv]) rfl (by kernel_rfl) rfl rfl (aM.whole 2 rfl) rfl fun w1 st=>⟨rfl,st.turns hF (by simp) (i:=3) rfl⟩
end
end
section
structure rH where
 st:Int
 kind:Int
 dev:Int
 cF:Int
 val:Int
 err:Int
 res:Int
 hs:List Int
def Sj:rH:=⟨0,0,0,0,0,0,0,[0,0,0,0,0,0]⟩
def hG(t:rH)(i:Nat):Int:=t.hs.getD i 0
structure bL where
 cn:Cn
 wn:dZ
 t0:rH
 t1:rH
 t2:rH
 fM:Int
 steps:List fC
 sent:Bool
 aZ:Bool
 id:Int
 many:Int
def rp0(s:aC):bL:=⟨⟨[],false⟩,jJ s,Sj,Sj,Sj,-1,[],false,false,0,0⟩
def bL.tk(z:bL):Nat→rH
 | 0=>z.t0
 | 1=>z.t1
 | _=>z.t2
def bL.jP(z:bL)(j:Nat)(t:rH):bL:={z with t0:=if j=0 then t else z.t0,t1:=if j=1 then t else z.t1,t2:=if j=2 then t else z.t2}
structure dL where
 a1:AC
 a2:AC
 a3:AC
 a4:AC
 gc:Nat
 gm:Nat
 nd:AC
 w1:AC
 w2:AC
 w3:AC
 st:AC
def tkC(t:rH):List Value:=[iv t.st,.int .u8 t.kind,iv t.dev,iv t.cF,.int .u32 t.val,iv t.err,.int .u32 t.res,iv (hG t 0),iv (hG t 1),iv (hG t 2),iv (hG t 3),iv (hG t 4),iv (hG t 5)]
def lK(h f:Nat)(L:dL)(s:aC)(z:bL):List Value:=
  [pt h,pt f,.slice L.a1.1 s.aF.length L.a1.2,.slice L.a2.1 s.domains.length L.a2.2,.slice L.a3.1 s.aY.length L.a3.2,.slice L.a4.1 s.aD.length L.a4.2,.pointer (some ⟨L.gc,0,none⟩),.slice L.w1.1 z.wn.d.length L.w1.2,.slice L.w2.1 z.wn.c.length L.w2.2,.slice L.w3.1 z.wn.l.length L.w3.2,
   iv z.t0.st,.int .u8 z.t0.kind,iv z.t0.dev,iv z.t0.cF,.int .u32 z.t0.val,iv z.t0.err,.int .u32 z.t0.res,iv (hG z.t0 0),iv (hG z.t0 1),iv (hG z.t0 2),iv (hG z.t0 3),iv (hG z.t0 4),iv (hG z.t0 5),
   iv z.t1.st,.int .u8 z.t1.kind,iv z.t1.dev,iv z.t1.cF,.int .u32 z.t1.val,iv z.t1.err,.int .u32 z.t1.res,iv (hG z.t1 0),iv (hG z.t1 1),iv (hG z.t1 2),iv (hG z.t1 3),iv (hG z.t1 4),iv (hG z.t1 5),
   iv z.t2.st,.int .u8 z.t2.kind,iv z.t2.dev,iv z.t2.cF,.int .u32 z.t2.val,iv z.t2.err,.int .u32 z.t2.res,iv (hG z.t2 0),iv (hG z.t2 1),iv (hG z.t2 2),iv (hG z.t2 3),iv (hG z.t2 4),iv (hG z.t2 5),
   iv z.fM,.slice L.st.1 z.steps.length L.st.2,.bool z.sent,.bool z.aZ,iv z.id,iv z.many]
def lR(L:dL)(s:aC)(p:Piece):Prop:=qK p s L.a1.1 s.aF.length L.a2.1 s.domains.length L.a3.1 s.aY.length L.a4.1 s.aD.length
theorem lR.le{L:dL}{s:aC}(p q:Piece)(hl:p.Le q)(h:lR L s p):lR L s q:=qK.le h hl
def sW(L:dL)(x:dZ)(p:Piece):Prop:=aI p 1 L.w1.1 x.d.length (bG x.d)∧aI p 1 L.w2.1 x.c.length (bG x.c)∧aI p 1 L.w3.1 x.l.length (bG x.l)
theorem sW.le{L:dL}{x:dZ}(p q:Piece)(hl:p.Le q)(h:sW L x p):sW L x q:=⟨h.1.le hl,h.2.1.le hl,h.2.2.le hl⟩
def Mx(L:dL)(s:aC)(p:Piece):Prop:=nD p L.nd.1 (dM s).length (dM s)
theorem Mx.le{L:dL}{s:aC}(p q:Piece)(hl:p.Le q)(h:Mx L s p):Mx L s q:=nD.le h hl
def nC(L:dL)(l:List fC)(p:Piece):Prop:=aI p 4 L.st.1 l.length (l.flatMap fC.cells)∧l.length≤L.st.2
theorem nC.le{L:dL}{l:List fC}(p q:Piece)(hl:p.Le q)(h:nC L l p):nC L l q:=⟨h.1.le hl,h.2⟩
def fY(g h f:Nat)(L:dL)(s:aC)(z:bL):HP:=HP.many [HP.aE g 190 (lK h f L s z),HP.bU (lR L s) (lR.le (L:=L) (s:=s)),HP.bU (sW L z.wn) (sW.le (L:=L) (x:=z.wn)),qN L.gc L.gm (.slice L.nd.1 (dM s).length L.nd.2) z.cn,HP.bU (Mx L s) (Mx.le (L:=L) (s:=s)),HP.bU (nC L z.steps) (nC.le (L:=L) (l:=z.steps))]
def jI(g h f:Nat)(s:aC)(z:bL):HP:=HP.ex fun L:dL=>fY g h f L s z
structure Rq(w:World)(g h f:Nat)(L:dL)(s:aC)(z:bL):Prop where
 r0:dQ w g 0 (lK h f L s z)
 so:lR L s (all w)
 wn:sW L z.wn (all w)
 cn:dQ w L.gc 0 [.slice L.nd.1 (dM s).length L.nd.2,.map (some L.gm),.bool z.cn.lQ]
 nd:Mx L s (all w)
 sp:nC L z.steps (all w)
theorem aIu{g h f:Nat}{L:dL}{s:aC}{z:bL}{F:Nat→Prop}{w:World}(k:(fY g h f L s z).sat F w)(hF:∀b,F b→b < w.heap.size):Rq w g h f L s z:=by
 obtain⟨G,g1,g2,_⟩:=k
 have hl:∀i,(⟨w,G i⟩:Piece).Le (all w):=fun i b hb=>⟨hF b (g2 i b hb),rfl⟩
 obtain⟨G',k1,_,_⟩:=g1 3 _ rfl;exact⟨uG (g1 0 _ rfl).2,lR.le _ _ (hl 1) (g1 1 _ rfl),sW.le _ _ (hl 2) (g1 2 _ rfl),uG (k1 0 _ rfl).2,Mx.le _ _ (hl 4) (g1 4 _ rfl),nC.le _ _ (hl 5) (g1 5 _ rfl)⟩
theorem St.aBC{w0 w:World}{R:List Piece}{H:List HP}{g h f:Nat}{L:dL}{s:aC}{z:bL}(t:St w0 R H w)(i:Nat)(hi:H[i]? =some (fY g h f L s z)):Rq w g h f L s z:=by
 obtain⟨F,h1,h2,_⟩:=t.chunk hi;exact aIu h1 h2
theorem Za(t:Int)(w:World):Cz 98 #[iv t] w (Rt (.bool (bZ 3 t)) w):=by
 refine aO func98 ntmps98 ?_;refine aA ?_;refine cG (t:=5) rfl (fun h=>?_) (fun h=>?_)
 ·refine aA ?_;refine iS (by simp) ?_;unfold bZ
  congr 1
  simp;omega
 ·refine aA ?_;refine iS (by simp) ?_
  have:bZ 3 t=false:=decide_eq_false (by omega)
  rw[this]
theorem Ew{t:Int}(h:bZ 3 t=true):∃j:Nat,t=(j:Int)∧(j=0∨j=1∨j=2):=by
 have:=of_decide_eq_true h
 exact⟨t.toNat,by omega,by omega⟩
section
variable(g h f:Nat)(L:dL)(s:aC)(z:bL)(w:World)
theorem aKN(d:Int)(hR:Rq w g h f L s z):Cz 263 #[pt g,iv d] w (Rt (.bool (bZ s.aD.length d)) w):=by
 have k5:=hR.r0.at_ (j:=5) rfl
 refine aO func263 ntmps263 ?_;refine aA ?_;refine cG (t:=7) rfl (fun h=>?_) (fun h=>?_)
 ·refine aA ?_;refine iS (by simp) ?_;unfold bZ
  congr 1
  simp;omega
 ·refine aA ?_;refine iS (by simp) ?_
  have:bZ s.aD.length d=false:=decide_eq_false (by omega)
  rw[this]
def uF(z:bL)(t:Int):Bool:=bZ 3 t&&decide ((z.tk t.toNat).st≠0)
theorem aKQ(t:Int)(hR:Rq w g h f L s z):Cz 41 #[pt g,iv t] w (Rt (.bool (uF z t)) w):=by
 have k0:=hR.r0.at_ (j:=10) rfl
 have k1:=hR.r0.at_ (j:=23) rfl
 have k2:=hR.r0.at_ (j:=36) rfl
 unfold uF;refine aO func41 ntmps41 ?_;refine aA ?_;refine aS (fun w1 _=>Za t w1) ?_;cases hin:bZ 3 t
 ·refine aA ?_;exact dH
 ·obtain⟨j,rfl,hj⟩:=Ew hin;rcases hj with rfl | rfl | rfl
  all_goals
   refine aA ?_;refine kd (fG _ _ (ho:=rfl)) ?_;refine aA ?_;refine iS (by simp) ?_;simp[bL.tk]
theorem aKK(hR:Rq w g h f L s z):Cz 86 #[pt g] w (Rt (iv z.fM) w):=by
 have k0:=hR.r0.at_ (j:=49) rfl
 refine aO func86 ntmps86 ?_;refine aA ?_;exact dH
end
end
section
section
variable{N:cE}{w0:World}{e:Env}{R:List Piece}{H:List HP}{Q:Exit→Act→World→Prop}{ops:Array Oper}{rest:List Oper}{pos:String}{ty:TypeId}{aH:Array Edge}
theorem Cv(i:Nat){x y:Operand}{s t:TypeId}{g o:Nat}{cs vs:List Value}(hi:H[i]? =some (HP.aE g t cs))(k:XK N w0 (wpList Tryz.prog ops Q rest) e R (H.set i (HP.aE g t (fR cs o vs))))(hx:e.ev x=some (.pointer (some ⟨g,o,none⟩)):=by rfl)(hy:e.ev y=some (.agg vs.toArray):=by rfl)(hs:(Tryz.prog.info? s).any (·.size==vs.length)=true:=by kernel_rfl)(h1:vs.all Value.oneCell'=true:=by rfl)(hl:decide (o+vs.length≤cs.length)=true:=by rfl):
  XK N w0 (wpList Tryz.prog ops Q (⟨none,.store s x y,ty,pos,aH,none⟩::rest)) e R H:=
 pW i hi hx hy hs (fun u hu=>List.all_eq_true.1 h1 u (by simpa[Value.cells] using hu)) (by simpa[Value.cells] using of_decide_eq_true hl) (by simpa[Value.cells] using k)
end
section
variable{P:Program}{N:cE}{w0 w:World}{e:Env}{R:List Piece}{H:List HP}{p:HP}{Q:Exit→Act→World→Prop}
theorem St.bM(st:St w0 R (p::H) w):St w0 R (bX::H) w:=st.vW (i:=0) (p:=p) rfl (Nat.le_refl _) rfl rfl rfl fun F _ hlt=>⟨F,trivial,fun b hb=>⟨.inl hb,hlt b hb⟩,fun _ _ _=>rfl⟩
theorem Gq(Z:List Nat){id:Nat}{l:List Oper}(h:XB P N w0 l.toArray Q R (bX::H) Z l.length (Array.replicate l.length false) e R (p::H))(hm:P.follows .mixedOrders=true:=by kernel_rfl)(hc:Region.noSelect l.toArray=true:=by kernel_rfl):XK N w0 ((Code.region id l.toArray true).wp P Q) e R (p::H):=fun a w hr st=>by
 have:=h ⟨Down.start _ _,hc⟩ a w.drew hr st.drew
 refine wp_region_any hm (aBs (S:=St w0 R (bX::H)) (Z:=Z) _ _ _ _ ?_)
 simpa using this
end
def Qb(k:Int):Value:=if k=103 then .iface 284 (.agg #[]) else if k=112 then .iface 285 (.agg #[]) else if k=114 then .iface 287 (.agg #[.bool false]) else if k=119 then .iface 287 (.agg #[.bool true]) else if k=115 then .iface 288 (.agg #[]) else if k=109 then .iface 289 (.agg #[]) else .nilIface
def wP(k:Int):Prop:=k=103∨k=112∨k=114∨k=119∨k=115∨k=109
instance(k:Int):Decidable (wP k):=by unfold wP;infer_instance
theorem aBD(k:Int)(w:World):Cz 131 #[.int .u8 k] w (Rt (Qb k) w):=by
 unfold Qb;refine aO func131 ntmps131 ?_;refine aA ?_;refine aG rfl (fun h0=>?_) (fun h0=>?_)
 ·rw[if_pos h0];refine aB ?_;refine kd (Qj rfl) ?_;refine aA ?_;exact dH
 rw[if_neg h0];refine aA ?_;refine aG rfl (fun h1=>?_) (fun h1=>?_)
 ·rw[if_pos h1];refine aB ?_;refine kd (Qj rfl) ?_;refine aA ?_;exact dH
 rw[if_neg h1];refine aA ?_;refine aG rfl (fun h2=>?_) (fun h2=>?_)
 ·rw[if_pos h2];refine aB ?_;refine kd (Qj rfl) ?_;refine aA ?_;exact dH
 rw[if_neg h2];refine aA ?_;refine aG rfl (fun h3=>?_) (fun h3=>?_)
 ·rw[if_pos h3];refine aB ?_;refine kd (Qj rfl) ?_;refine aA ?_;exact dH
 rw[if_neg h3];refine aA ?_;refine aG rfl (fun h4=>?_) (fun h4=>?_)
 ·rw[if_pos h4];refine aB ?_;refine kd (Qj rfl) ?_;refine aA ?_;exact dH
 rw[if_neg h4];refine aA ?_;refine aG rfl (fun h5=>?_) (fun h5=>?_)
 ·rw[if_pos h5];refine aB ?_;refine kd (Qj rfl) ?_;refine aA ?_;exact dH
 rw[if_neg h5];refine aA ?_;exact dH
theorem aON{k:Int}(h:¬wP k):Qb k=.nilIface:=by
 unfold wP at h;unfold Qb;rw[if_neg (by omega),if_neg (by omega),if_neg (by omega),if_neg (by omega),if_neg (by omega),if_neg (by omega)]
theorem aOM{k:Int}(h:wP k):∃u y,Qb k=.iface u y:=by
 rcases h with rfl | rfl | rfl | rfl | rfl | rfl<;>exact⟨_,_,rfl⟩
def wE(z:bL)(t kind dev cF val:Int):Int×bL:=if bZ 3 t=false then(4,z) else if(z.tk t.toNat).st≠0 then(7,z) else if ¬wP kind then(1,z) else(0,z.jP t.toNat {z.tk t.toNat with st:=1,kind:=kind,dev:=dev,cF:=cF,val:=val})
section
variable(g h f:Nat)(s:aC)(z:bL)(w:World)(F:Nat→Prop)
theorem aKG(t kind dev cF val:Int)(hp:(jI g h f s z).sat F w)(hF:∀b,F b→b < w.heap.size):
  Cz 85 #[pt g,iv t,.agg #[.int .u8 kind,iv dev,iv cF,.int .u32 val]] w (Wr (iv (wE z t kind dev cF val).1) (jI g h f s (wE z t kind dev cF val).2) w F):=by
 unfold wE;refine cT func85 ntmps85 hp hF ?_;refine aA ?_;refine bO fun g1=>?_;refine aA ?_;refine aS (fun w1 _=>Za t w1) ?_;cases hin:bZ 3 t
 ·refine aA ?_;exact bP 1 hF
 ·rw [if_neg (by simp)];obtain⟨j,rfl,hj⟩:=Ew hin;rw[Int.toNat_natCast];refine iT 1 fun L=>?_;refine aW 1 0 ?_
  by_cases hst:(z.tk j).st=0
  ·rw[if_neg (by simpa using hst)]
   by_cases hk:wP kind
   ·rw[if_neg (by simpa using hk)];obtain⟨u,y,hy⟩:=aOM hk;obtain⟨z',hz⟩:∃z',z'=z.jP j {z.tk j with st:=1,kind:=kind,dev:=dev,cF:=cF,val:=val}:=⟨_,rfl⟩
    rw[←hz];rcases hj with rfl | rfl | rfl
    all_goals
     refine aA ?_;refine kd (fG _ _ (ho:=rfl)) ?_;refine aA ?_;refine aG rfl (fun h1=>absurd hst h1) (fun _=>?_);refine aA ?_;refine aS (fun w1 _=>aBD kind w1) ?_;rw[hy];refine aA ?_;refine kd (aHf rfl (.inr ⟨⟨_,_,rfl⟩,rfl⟩)) ?_;refine aA ?_;refine kd (fG _ _ (ho:=rfl)) ?_;refine aA ?_;refine Gq [2] ?_;refine bJ 0 ?_ (hsub:=fun _ h=>h.bM);refine bJ 1 ?_ (hsub:=fun _ h=>h.bM);refine aK 2 ?_ (hsub:=fun _ h=>h.bM);refine aL 3 ?_;refine bF ?_;refine bB ?_ (hS:=fun _ h=>h.bM);refine aL 4 ?_;refine bF ?_;refine bB ?_ (hS:=fun _ h=>h.bM);refine aL 5 ?_;refine eO rfl rfl ?_ (hs:=eL.mk 0 rfl cO.h rfl (of_decide_eq_true rfl));dsimp only[List.set];refine bB ?_ (hS:=fun _ h=>h.bM);refine aL 6 ?_;refine bF ?_;refine bB ?_ (hS:=fun _ h=>h.bM);refine aL 7 ?_;refine bF ?_;refine bB ?_ (hS:=fun _ h=>h.bM);refine aL 8 ?_;refine Cv 0 rfl ?_;dsimp only[List.set];refine bB ?_ (hS:=fun _ h=>h.bM);refine dY ?_;refine aA ?_;refine aJ 1 0 ?_;refine uJ 1 (f:=fun L:dL=>fY g h f L s z') L (by subst hz;rfl) ?_;dsimp only[List.set];exact bP 1 hF
   ·rw[if_pos (by simpa using hk)];rcases hj with rfl | rfl | rfl
    all_goals
     refine aA ?_;refine kd (fG _ _ (ho:=rfl)) ?_;refine aA ?_;refine aG rfl (fun h1=>absurd hst h1) (fun _=>?_);refine aA ?_;refine aS (fun w1 _=>aBD kind w1) ?_;rw[aON hk];refine aA ?_;refine kd (aHf rfl (.inl ⟨rfl,rfl⟩)) ?_;refine aA ?_;refine aJ 1 0 ?_;refine cQ 1 (fun L:dL=>fY g h f L s z) L ?_;exact bP 1 hF
  ·rw[if_pos hst];rcases hj with rfl | rfl | rfl
   all_goals
    refine aA ?_;refine kd (fG _ _ (ho:=rfl)) ?_;refine aA ?_;refine aG rfl (fun _=>?_) (fun h1=>absurd (Decidable.not_not.1 h1) hst);refine aA ?_;refine aJ 1 0 ?_;refine cQ 1 (fun L:dL=>fY g h f L s z) L ?_;exact bP 1 hF
end
end
section
section
variable{N:cE}{w0:World}{e:Env}{R:List Piece}{H:List HP}{K:Act→World→Prop}
theorem aM.mid(i:Nat){b o:Nat}{t:TypeId}{cs vs:List Value}(hi:H[i]? =some (HP.aE b t cs))(hv:(cs.drop o).take vs.length=vs):aM w0 R H b o vs:=aM.aE i hi fun j v hj=>by
 rw[←hv,List.getElem?_take] at hj;split at hj
 ·rw[List.getElem?_drop] at hj;exact hj
 ·cases hj
theorem aRw(j i:Nat){ps:List HP}{p q:HP}(hj:H[j]? =some (HP.many ps))(hi:ps[i]? =some p)(hq:∀F w,p.sat F w→q.sat F w)(k:XK N w0 K e R (H.set j (HP.many (ps.set i q)))):XK N w0 K e R H:=by
 have hlt:=(List.getElem?_eq_some_iff.1 hj).1
 have hli:=(List.getElem?_eq_some_iff.1 hi).1
 refine qF j i hj hi ?_;refine oA 0 rfl hq ?_;refine qH j i (by rw[List.getElem?_set_self hlt]) (by rw[List.getElem?_set_self hli]) ?_;rw[List.set_set,List.set_set];exact k
end
def pR(z:bL)(j:Nat)(err res:Int):bL:={z.jP j {z.tk j with st:=3,err:=err,res:=res} with fM:= -1,steps:=[],sent:=false,aZ:=false}
def pS(z:bL)(t:Int):(Int×Int×Bool)×bL:=if bZ 3 t=false then((0,0,false),z) else if(z.tk t.toNat).st≠3 then((0,0,false),z) else(((z.tk t.toNat).err,(z.tk t.toNat).res,true),z.jP t.toNat {z.tk t.toNat with st:=0,kind:=0,dev:=0,cF:=0,val:=0,err:=0,res:=0})
section
variable(g h f:Nat)(s:aC)(z:bL)(w:World)(F:Nat→Prop)
theorem Km(j:Nat)(fM:z.fM=(j:Int))(hj:j=0∨j=1∨j=2)(err res:Int)(hp:(jI g h f s z).sat F w)(hF:∀b,F b→b < w.heap.size):
  Cz 158 #[pt g,.agg #[iv err,.int .u32 res]] w (Wr (.tuple #[]) (jI g h f s (pR z j err res)) w F):=by
 refine cT func158 ntmps158 hp hF ?_;obtain⟨z',hz⟩:∃z',z'=pR z j err res:=⟨_,rfl⟩
 rw[←hz];refine iT 0 fun L=>?_;refine aW 0 0 ?_;rcases hj with rfl | rfl | rfl
 all_goals
  refine aA ?_;refine bO fun g1=>?_;refine aT [1,0,2] rfl (by decide) (fun _ h=>h) ?_;refine aA ?_;refine lJ ?_;refine jC ?_;refine sU (fG _ _ (hj:=fM) (ho:=rfl)) ?_;refine iY ?_;refine aA ?_;refine Gq [2] ?_;refine bJ 0 ?_ (hsub:=fun _ h=>h.bM);refine bJ 1 ?_ (hsub:=fun _ h=>h.bM);refine aK 2 ?_ (hsub:=fun _ h=>h.bM);refine aL 3 ?_;refine bF ?_;refine bB ?_ (hS:=fun _ h=>h.bM);refine aL 4 ?_;refine bF ?_;refine bB ?_ (hS:=fun _ h=>h.bM);refine aL 5 ?_;refine eO rfl rfl ?_ (hs:=eL.mk 0 rfl cO.h rfl (of_decide_eq_true rfl));dsimp only[List.set];refine bB ?_ (hS:=fun _ h=>h.bM);refine aL 6 ?_;refine bF ?_;refine bB ?_ (hS:=fun _ h=>h.bM);refine aL 7 ?_;refine bF ?_;refine bB ?_ (hS:=fun _ h=>h.bM);refine aL 8 ?_;refine Cv 0 rfl ?_;dsimp only[List.set];refine bB ?_ (hS:=fun _ h=>h.bM);refine dY ?_;refine aA ?_;refine eO rfl rfl ?_ (hs:=eL.mk 0 rfl cO.h rfl (of_decide_eq_true rfl));dsimp only[List.set];refine aA ?_;refine eO rfl rfl ?_ (hs:=eL.mk 0 rfl cO.h rfl (of_decide_eq_true rfl));dsimp only[List.set];refine aA ?_;refine eO rfl rfl ?_ (hs:=eL.mk 0 rfl cO.h rfl (of_decide_eq_true rfl));dsimp only[List.set];refine aA ?_;refine eO rfl rfl ?_ (hs:=eL.mk 0 rfl cO.h rfl (of_decide_eq_true rfl));dsimp only[List.set];refine aA ?_;refine aJ 1 0 ?_;refine aRw (q:=HP.bU (nC {L with st:=(none,0)} []) (nC.le (L:={L with st:=(none,0)}) (l:=[]))) 1 5 rfl rfl (fun F w _=>⟨aI.nil _ _,Nat.le_refl _⟩) ?_;dsimp only[List.set];refine uJ 1 (f:=fun L:dL=>fY g h f L s z') {L with st:=(none,0)} (by subst hz;rfl) ?_;dsimp only[List.set];exact fA 1 hF
theorem aKM(t:Int)(hp:(jI g h f s z).sat F w)(hF:∀b,F b→b < w.heap.size):
  Cz 135 #[pt g,iv t] w (Wr (.tuple #[.agg #[iv (pS z t).1.1,.int .u32 (pS z t).1.2.1],.bool (pS z t).1.2.2]) (jI g h f s (pS z t).2) w F):=by
 unfold pS;refine cT func135 ntmps135 hp hF ?_;refine aA ?_;refine bY fun g1=>?_;refine aA ?_;refine aS (fun w1 _=>Za t w1) ?_;cases hin:bZ 3 t
 ·refine aA ?_;refine kd (iG rfl) ?_;refine aA ?_;exact yY (vs:=[iv 0,.int .u32 0]) rfl (by kernel_rfl) rfl rfl (aM.whole 0 rfl) rfl fun w1 t=>⟨rfl,t.turns hF (by simp) (i:=1) rfl⟩
 ·rw[if_neg (by simp)];obtain⟨j,rfl,hj⟩:=Ew hin;rw[Int.toNat_natCast];refine iT 1 fun L=>?_;refine aW 1 0 ?_
  by_cases hst:(z.tk j).st=3
  ·rw[if_neg (by simpa using hst)];obtain⟨z',hz⟩:∃z',z'=z.jP j {z.tk j with st:=0,kind:=0,dev:=0,cF:=0,val:=0,err:=0,res:=0}:=⟨_,rfl⟩
   rw[←hz];rcases hj with rfl | rfl | rfl
   all_goals
    refine aA ?_;refine kd (fG _ _ (ho:=rfl)) ?_;refine aA ?_;refine aG rfl (fun h1=>absurd hst h1) (fun _=>?_);refine aA ?_;refine kd (fG _ _ (ho:=rfl)) ?_;refine aA ?_;refine kd (jM rfl (aM.mid (vs:=[_,_]) 0 rfl rfl)) ?_;refine bY fun g2=>?_;refine aA ?_;refine kd (iG rfl) ?_;refine kd (iG rfl) ?_;refine aA ?_;refine eO rfl rfl ?_ (hs:=eL.mk 1 rfl cO.h rfl (of_decide_eq_true rfl));dsimp only[List.set];refine aA ?_;refine Cv 1 rfl ?_;dsimp only[List.set];refine aA ?_;refine Cv 1 rfl ?_;dsimp only[List.set];refine aA ?_;refine aT [1,0,2,3] rfl (by decide) (fun _ h=>h) ?_;refine aJ 2 0 ?_;refine uJ 2 (f:=fun L:dL=>fY g h f L s z') L (by subst hz;rfl) ?_;dsimp only[List.set];exact yY (vs:=[_,_]) rfl (by kernel_rfl) rfl rfl (aM.whole 1 rfl) rfl fun w1 t=>⟨rfl,t.turns hF (by simp) (i:=2) rfl⟩
  ·rw[if_pos hst];rcases hj with rfl | rfl | rfl
   all_goals
    refine aA ?_;refine kd (fG _ _ (ho:=rfl)) ?_;refine aA ?_;refine aG rfl (fun _=>?_) (fun h1=>absurd (Decidable.not_not.1 h1) hst);refine aA ?_;refine kd (iG rfl) ?_;refine aA ?_;refine aJ 1 0 ?_;refine cQ 1 (fun L:dL=>fY g h f L s z) L ?_;exact yY (vs:=[iv 0,.int .u32 0]) rfl (by kernel_rfl) rfl rfl (aM.whole 0 rfl) rfl fun w1 t=>⟨rfl,t.turns hF (by simp) (i:=1) rfl⟩
end
end
section
def Jj(ks:List Int)(v:Int):List Int:=if ks.contains v then ks else ks++[v]
def Ke(g:List (List Int))(ks:List Int)(i:Nat):List Int:=if ks.contains (i:Int) then(g.getD i []).foldl Jj ks else ks
def Ku(g:List (List Int))(v:Int)(n:Nat):Nat→List Int
 | 0=>[v]
 | k+1=>Ke g (Ku g v n k) (n - 1 - k)
def rY(ks:List Int)(v:Int)(n:Nat):List Nat:=(List.range n).filter fun u:Nat=>decide (¬(u:Int)=v)&&ks.contains (u:Int)
def yX(g:List (List Int))(v:Int)(n:Nat):List Nat:=rY (Ku g v n n) v n
theorem aF1(ks:List Int)(v:Int)(n:Nat):(rY ks v n).length≤n:=Nat.le_trans (List.length_filter_le _ _) (by simp)
theorem aLL(ks:List Int)(v:Int)(n:Nat):rY ks v (n+1)=if(decide (¬(n:Int)=v)&&ks.contains (n:Int))=true then rY ks v n++[n] else rY ks v n:=by
 unfold rY;rw[List.range_succ,List.filter_append];simp only[List.filter_cons,List.filter_nil];split<;>simp
theorem aLN(A:Option Addr)(n c:Nat)(g:List (List Int))(v:Int)(w:World)(hg:nD (all w) A n g)(hn:n=g.length)(hn2:n≤100)(hlen:∀l∈g,(l.length:Int)≤9223372036854775806)(hv:0≤v∧v < n)(ho:fL g=(0,List.range n)):
  Cz 250 #[.slice A n c,iv v] w (fun y w'=>(∃x,y=.returned x∧Ru g x w w')∧Below w.heap.size w w'):=by
 refine aO func250 ntmps250 ?_;refine aA ?_;refine kA [] (Ru g) (fun w1 st=>(Zl A n c g w1 (hg.le (st.le (by simp))) hn (by omega) hlen).mono fun y w' h=>h.aBN) ?_;rintro _ w1 q ⟨A',m,c',rfl,hm,hs⟩ hf _ hfr
 have hs:=hs.le hf
 rw[ho] at hs hm;rw[ho];dsimp only at hs hm⊢;refine aA ?_;refine cG (t:=18) rfl (fun h=>absurd h (by omega)) (fun _=>?_);refine aA ?_;refine aG rfl (fun h=>absurd h (by omega)) (fun _=>?_);refine aA ?_;exact fS rfl rfl rfl fun w1 t=>⟨⟨_,rfl,A',m,c',by rw[ho];rfl,by rw[ho];exact hm,by rw[ho];exact hs.le (t.mQ (by simp) (hfr (by simp)))⟩,t.below (by simp)⟩
theorem aLK(q:Piece)(r:Nat)(ks:List Int)(A:Option Addr)(n c:Nat)(v:Int)(w:World)(hn2:n≤100)(hm:vL w r (lA ks))(hq:q.Le (all w))(hs:aI q 1 A n (aN (dR (List.range n)))):
  Cz 251 #[.slice A n c,.map (some r),iv v] w (Rp (Gz (rY ks v n)) w):=by
 refine aO func251 ntmps251 ?_;refine yZ q (by simp) hq ?_;refine aA ?_;refine lI 3 1 ?_;refine bN [(12,iv 0),(11,iv n),(10,.slice A n c),(7,sn),(1,.map (some r)),(2,iv v)] ?_;refine eV (fun m e R H=>∃(i:Nat) (B:Option Addr) (k:Nat),i≤n∧m=n - i∧e=[(12,iv i),(11,iv n),(10,.slice A n c),(7,.slice B (rY ks v i).length k),(1,.map (some r)),(2,iv v)]∧R=[q,all w]∧H=[HP.own 3 1 (.slice B (rY ks v i).length k) (rY ks v i).length (aN (dR (rY ks v i)))]) n ⟨0,none,0,by omega,rfl,rfl,rfl,rfl⟩ fun m e R H hI=>?_;obtain⟨i,B,k,hi,rfl,rfl,rfl,rfl⟩:=hI
 have nO:=aF1 ks v i
 have dD:=aLL ks v i
 generalize hl:rY ks v i=l at nO dD⊢;refine aA ?_;refine aG rfl (fun hlt=>?_) (fun hge=>?_)
 ·have hlt:i < n:=by omega
  obtain⟨b,off,hA,hz,hc⟩:=hs.2 (by omega)
  have Di:=hc i (iv (i:Int)) (by simp[aN,dR,hlt])
  refine aA ?_;refine kd (dat i (off+i) (hx:=by rw[←hA];rfl)) ?_;refine aA ?_;refine kd (bH rfl (Rd.ro (p:=q) (by simp) hz Di)) ?_;refine aA ?_;refine cG (t:=19) rfl (fun hv=>?_) (fun hv=>?_)
  ·refine aA ?_;refine aS (fun w1 t=>Zu r i ks w1 (hm.below (t.below (by simp)))) ?_;rw[decide_eq_true hv,Bool.true_and] at dD;cases hk:ks.contains (i:Int)
   ·rw[hk,if_neg (by simp)] at dD;refine aA ?_;refine bN [(12,iv (i+1:Nat)),(11,iv n),(10,.slice A n c),(7,.slice B l.length k),(1,.map (some r)),(2,iv v)] ?_;exact gP (n - (i+1)) (by omega) ⟨i+1,B,k,hlt,rfl,by rw[dD],rfl,by rw[dD]⟩
   ·rw[hk,if_pos rfl] at dD;refine aA ?_;refine eH fun g4=>?_;refine gY 1 1 8 1 (n':=l.length+1) (el:=3) (by kernel_rfl) (by kernel_rfl) (by decide) rfl rfl rfl (lV 0 rfl rfl) (by simp[Value.oneCell']) rfl (by omega) (by omega) (by decide) fun An cn=>?_;dsimp only[List.set];refine aA ?_;refine aT [1] rfl (by decide) (fun _ h=>h) ?_;refine bN [(12,iv (i+1:Nat)),(11,iv n),(10,.slice A n c),(7,.slice An (l.length+1) cn),(1,.map (some r)),(2,iv v)] ?_;exact gP (n - (i+1)) (by omega) ⟨i+1,An,cn,hlt,rfl,by rw[dD];simp,rfl,by rw[dD];simp[aN,dR]⟩
  ·rw[decide_eq_false hv,Bool.false_and,if_neg (by simp)] at dD;refine aA ?_;refine bN [(12,iv (i+1:Nat)),(11,iv n),(10,.slice A n c),(7,.slice B l.length k),(1,.map (some r)),(2,iv v)] ?_;exact gP (n - (i+1)) (by omega) ⟨i+1,B,k,hlt,rfl,by rw[dD],rfl,by rw[dD]⟩
 ·obtain rfl:i=n:=by omega
  subst hl;refine aA ?_;refine dG [] [0] [] (by simp) rfl (by decide) (by decide) fun q2 uZ _ hfr=>?_
  have h2:aI q2 1 B (rY ks v i).length (aN (dR (rY ks v i))):=aI.own (uZ 0 _ (by simp) rfl)
  exact aP (h:=fun w1 t=>⟨_,rfl,B,k,rfl,h2.le (t.mQ (by simp) (hfr (by simp) (by simp)))⟩)
theorem aOh(q0:Piece)(A:Option Addr)(n c:Nat)(g:List (List Int))(v:Nat)(w:World)(Ij:q0.Le (all w))(hg:nD q0 A n g)(hn:n=g.length)(hn2:n≤100)(hlen:∀l∈g,(l.length:Int)≤1000)(hv:v < n)(ho:fL g=(0,List.range n)):
  Cz 248 #[.slice A n c,iv (v:Int)] w (Rp (fun x w w'=>∃A' c',x=.tuple #[.slice A' (yX g v n).length c',iv 0]∧aI (fresh w w') 1 A' (yX g v n).length (aN (dR (yX g v n)))) w):=by
 refine aO func248 ntmps248 ?_;refine yZ q0 (by simp) Ij ?_;refine aA ?_;refine kA [] (Ru g) (fun w1 st=>aLN A n c g v w1 (hg.le (st.le (by simp))) hn hn2 (fun l hl=>by have:=hlen l hl;omega) (by omega) ho) ?_;rintro _ w1 q ⟨A',m,c',rfl,hm,hs⟩ hf _ _
 have hs:=hs.le hf
 rw[ho] at hs hm;rw[ho];dsimp only at hs hm⊢;obtain rfl:m=n:=by simpa using hm
 refine aA ?_;refine Yh (by decide) fun r=>?_;refine aA ?_;refine bT 0 (HP.map r (lA [(v:Int)])) (fun w1 F1 t h1 h2 h3=>Zv r v [] w1 F1 h1 h2) ?_;refine aA ?_;refine aT [0] rfl (by decide) (R':=[q,q0,all w]) (by simp) ?_;refine bN [(9,iv ((m:Int) - 1)),(6,.slice A' m c'),(8,.map (some r)),(0,.slice A m c),(1,iv (v:Int))] ?_;refine eV (fun k e R H=>k≤m∧e=[(9,iv ((k:Int) - 1)),(6,.slice A' m c'),(8,.map (some r)),(0,.slice A m c),(1,iv (v:Int))]∧R=[q,q0,all w]∧H=[HP.map r (lA (Ku g v m (m - k)))]) m ⟨Nat.le_refl _,rfl,rfl,by rw[Nat.sub_self];rfl⟩ fun k e R H hI=>?_;obtain⟨hk,rfl,rfl,rfl⟩:=hI;refine aA ?_;refine aG rfl (fun hge=>?_) (fun hlt=>?_)
 ·obtain⟨k,rfl⟩:∃j,k=j+1:=⟨k - 1,by omega⟩
  have hkm:k < m:=by omega
  obtain⟨row,hrow⟩:=get_some (l:=g) (i:=k) (by omega)
  have dD:Ku g v m (m - k)=Ke g (Ku g v m (m - (k+1))) k:=by
   rw[show m - k=(m - (k+1))+1 by omega]
   show Ke g _ (m - 1 - (m - (k+1)))=_
   rw[show m - 1 - (m - (k+1))=k by omega]
  generalize hks:Ku g v m (m - (k+1))=ks at dD⊢;obtain⟨b,off,pP,hz,hc⟩:=hs.2 (by omega)
  have Bc:=hc k (iv (k:Int)) (by simp[aN,dR,hkm])
  obtain⟨gb,aOb,gr,hA,hgz,nY,⟨RA,rn,rk,rfl,Un,Um⟩,Vb⟩:=aSe hg hrow
  have hrl:=hlen row (List.mem_of_getElem? hrow)
  have hrd:=Vb 0 _ rfl
  subst Un;refine aA ?_;refine kd (dat k (off+k) (hx:=by rw[←pP];rfl)) ?_;refine kd (bH rfl (Rd.ro (p:=q) (by simp) hz Bc)) ?_;refine aS (fun w1 t=>Zu r k ks w1 (t.map (i:=0) rfl)) ?_;cases hkc:ks.contains (k:Int)
  ·have h2:Ke g ks k=ks:=by unfold Ke;rw[hkc];rfl
   rw[h2] at dD;refine aA ?_;refine bN [(9,iv (((k+1:Nat):Int) - 1 - 1)),(6,.slice A' m c'),(8,.map (some r)),(0,.slice A m c),(1,iv (v:Int))] ?_;exact gP k (by omega) ⟨by omega,by rw[show(((k+1:Nat):Int) - 1 - 1)=(k:Int) - 1 by omega],rfl,by rw[dD]⟩
  ·have h2:Ke g ks k=row.foldl Jj ks:=by
    unfold Ke;rw[hkc,if_pos rfl,List.getD_eq_getElem?_getD,hrow];rfl
   rw[h2] at dD;refine aA ?_;refine kd (dat k (off+k) (hx:=by rw[←pP];rfl)) ?_;refine kd (bH rfl (Rd.ro (p:=q) (by simp) hz Bc)) ?_;refine kd (dat k (aOb+k*1) (hx:=by rw[←hA];rfl)) ?_;refine kd (bH rfl (Rd.ro (p:=q0) (by simp) hgz hrd)) ?_;refine aA ?_;refine bN [(47,iv 0),(46,iv row.length),(45,.slice RA row.length rk),(9,iv (((k+1:Nat):Int) - 1)),(6,.slice A' m c'),(8,.map (some r)),(0,.slice A m c),(1,iv (v:Int))] ?_;refine eV (fun u e R H=>∃i:Nat,i≤row.length∧u=row.length - i∧e=[(47,iv i),(46,iv row.length),(45,.slice RA row.length rk),(9,iv (((k+1:Nat):Int) - 1)),(6,.slice A' m c'),(8,.map (some r)),(0,.slice A m c),(1,iv (v:Int))]∧R=[q,q0,all w]∧H=[HP.map r (lA ((row.take i).foldl Jj ks))]) row.length ⟨0,by omega,rfl,rfl,rfl,rfl⟩ fun u e R H hI=>?_;obtain⟨i,hi,rfl,rfl,rfl,rfl⟩:=hI;refine aA ?_;refine aG rfl (fun tX=>?_) (fun aGr=>?_)
   ·have tX:i < row.length:=by omega
    obtain⟨y,hy⟩:=get_some tX;obtain⟨rb,aKY,hRA,hrz,hrc⟩:=(show aI q0 1 RA row.length (aN row) from Um).2 (by omega)
    have hcy:=hrc i (iv y) (by simp[aN,hy])
    have iR:(row.take (i+1)).foldl Jj ks=Jj ((row.take i).foldl Jj ks) y:=by
     rw[List.take_add_one,hy,List.foldl_append];rfl
    generalize hk2:(row.take i).foldl Jj ks=ks2 at iR⊢;refine aA ?_;refine kd (dat i (aKY+i) (hx:=by rw[←hRA];rfl)) ?_;refine aA ?_;refine kd (bH rfl (Rd.ro (p:=q0) (by simp) hrz hcy)) ?_;refine aA ?_;refine bT 0 (HP.map r (lA (Jj ks2 y))) (fun w1 F1 t h1 h2 h3=>Zv r y ks2 w1 F1 h1 h2) ?_;refine aA ?_;refine bN [(47,iv (i+1:Nat)),(46,iv row.length),(45,.slice RA row.length rk),(9,iv (((k+1:Nat):Int) - 1)),(6,.slice A' m c'),(8,.map (some r)),(0,.slice A m c),(1,iv (v:Int))] ?_;exact gP (row.length - (i+1)) (by omega) ⟨i+1,tX,rfl,rfl,rfl,by rw[iR]⟩
   ·obtain rfl:i=row.length:=by omega
    rw[List.take_length,←dD];refine aA ?_;refine bN [(9,iv (((k+1:Nat):Int) - 1 - 1)),(6,.slice A' m c'),(8,.map (some r)),(0,.slice A m c),(1,iv (v:Int))] ?_;exact gP k (by omega) ⟨by omega,by rw[show(((k+1:Nat):Int) - 1 - 1)=(k:Int) - 1 by omega],rfl,rfl⟩
 ·obtain rfl:k=0:=by omega
  rw[Nat.sub_zero];refine aA ?_;refine kA [] (Gz (yX g v m)) (fun w1 t=>aLK q r _ A' m c' v w1 hn2 (t.map (i:=0) rfl) (t.le (by simp)) hs) ?_;rintro _ w1 q2 ⟨B,kb,rfl,hb⟩ mP _ hfr;refine aA ?_;exact fS rfl rfl rfl fun w1 t=>⟨⟨_,rfl,B,kb,rfl,(hb.le mP).le (t.mQ (by simp) (hfr (by simp)))⟩,t.below (by simp)⟩
end
section
def Bu(g:List (List Int))(c:Cn)(n:Nat):Nat→List Bool
 | 0=>List.replicate n false
 | i+1=>if jG c.l (i:Int)≤0 then Bu g c n i else(yX g (i:Int) n).foldl (fun l u=>l.set u true) ((Bu g c n i).set i true)
def Wz(g:List (List Int))(n:Nat)(c:Cn):List Bool:=if c.lQ then List.replicate n false else Bu g c n n
theorem aBA:∀(us:List Nat) (l:List Bool),(us.foldl (fun l u=>l.set u true) l).length=l.length
 | [],l=>rfl
 | u::us,l=>by
  rw[List.foldl_cons,aBA us];simp
theorem aAJ(g:List (List Int))(c:Cn)(n:Nat):∀i,(Bu g c n i).length=n
 | 0=>by simp[Bu]
 | i + 1 => by
  unfold Bu;split
  ·exact aAJ g c n i
  ·rw[aBA,List.length_set];exact aAJ g c n i
theorem aRq(g:List (List Int))(n:Nat)(c:Cn):(Wz g n c).length=n:=by
 unfold Wz;split
 ·simp
 ·exact aAJ g c n n
def By(A:Option Addr)(g:List (List Int))(p:Piece):Prop:=nD p A g.length g
theorem By.le{A:Option Addr}{g:List (List Int)}(p q:Piece)(hl:p.Le q)(h:By A g p):By A g q:=nD.le h hl
def Jw(gc gm:Nat)(A:Option Addr)(k:Nat)(g:List (List Int))(c:Cn):HP:=HP.many [qN gc gm (.slice A g.length k) c,HP.bU (By A g) (By.le (A:=A) (g:=g))]
theorem aDp{l:List Bool}{i:Nat}{b:Bool}:(bG l).set i (.bool b)=bG (l.set i b):=by simp[bG,List.map_set]
theorem aLM{ks:List Int}{v:Int}{n u:Nat}(h:u∈rY ks v n):u < n:=by
 unfold rY at h;exact List.mem_range.1 (List.mem_filter.1 h).1
theorem aHt(gc gm:Nat)(A:Option Addr)(k:Nat)(g:List (List Int))(c:Cn)(n:Nat)(hn:n=g.length)(hn2:n≤100)(hlen:∀l∈g,(l.length:Int)≤1000)(ho:fL g=(0,List.range n))(w:World)(F:Nat→Prop)(hp:(Jw gc gm A k g c).sat F w)(hF:∀b,F b→b < w.heap.size):
  Cz 246 #[pt gc] w (fun y w'=>∃b:Nat,y=.returned (.slice (some ⟨b,0,none⟩) n n)∧True∧∃F',(HP.many [Jw gc gm A k g c,HP.aE b 4 (bG (Wz g n c))]).sat F' w'∧iC w w' F F'):=by
 refine cT func246 ntmps246 hp hF ?_;generalize cP:(⟨w,fun b=>b < w.heap.size∧¬F b⟩:Piece)=R0;obtain⟨cl,lQ⟩:=c;refine aW 0 1 ?_;refine aW 1 0 ?_;refine aW 0 0 ?_;refine aW 1 1 ?_;subst hn;refine aB ?_;refine lT (n:=g.length) 1 (el:=4) (z:=.bool false) (by kernel_rfl) (by kernel_rfl) rfl rfl rfl (by omega) (by omega) (by decide) fun gl=>?_;rw[show List.replicate g.length (Value.bool false)=bG (List.replicate g.length false) from by simp[bG]];unfold Wz;cases lQ
 ·dsimp only;refine aB ?_;refine bN [(22,iv 0),(21,iv g.length),(3,.slice (some ⟨gl,0,none⟩) g.length g.length),(0,pt gc)] ?_;refine eV (fun m e R H=>∃i:Nat,i≤g.length∧m=g.length - i∧e=[(22,iv i),(21,iv g.length),(3,.slice (some ⟨gl,0,none⟩) g.length g.length),(0,pt gc)]∧R=[R0]∧H=[HP.aE gl 4 (bG (Bu g ⟨cl,false⟩ g.length i)),HP.map gm (vF cl),HP.aE gc 277 [.slice A g.length k,.map (some gm),.bool false],HP.many [bX,bX],HP.bU (By A g) (By.le (A:=A) (g:=g)),HP.many [bX,bX]]) g.length ⟨0,by omega,rfl,rfl,rfl,rfl⟩ fun m e R H hI=>?_;obtain⟨i,hi,rfl,rfl,rfl,rfl⟩:=hI
  have hal:=aAJ g ⟨cl,false⟩ g.length i
  have dD:Bu g ⟨cl,false⟩ g.length (i+1)=if jG cl (i:Int)≤0 then Bu g ⟨cl,false⟩ g.length i else(yX g (i:Int) g.length).foldl (fun l u=>l.set u true) ((Bu g ⟨cl,false⟩ g.length i).set i true):=rfl
  generalize hl:Bu g ⟨cl,false⟩ g.length i=l at hal dD⊢;refine aB ?_;refine aG rfl (fun hlt=>?_) (fun hge=>?_)
  ·have hlt:i < g.length:=by omega
   refine aB ?_;refine Uc 1 rfl ?_;refine aB ?_;refine aG rfl (fun h0=>?_) (fun h0=>?_)
   ·rw[if_pos h0] at dD;refine aB ?_;exact eR (g.length - (i+1)) ⟨i+1,hlt,rfl,rfl,rfl,by rw[dD]⟩
   ·rw[if_neg h0] at dD;refine aB ?_;refine eO rfl rfl ?_ (hs:=eL.mk 0 rfl cO.h rfl (by simp[bG];omega));dsimp only[List.set];rw[aDp];refine aB ?_;refine kA [] (fun x w w'=>∃A' c',x=.tuple #[.slice A' (yX g (i:Int) g.length).length c',iv 0]∧aI (fresh w w') 1 A' (yX g (i:Int) g.length).length (aN (dR (yX g (i:Int) g.length)))) (fun w1 t=>aOh (all w1) A g.length k g i w1 (Piece.Le.refl _) (t.bU 4 rfl) rfl hn2 hlen hlt ho) ?_;rintro _ w1 q ⟨B,kb,rfl,hb⟩ hf _ _
    have hb:=hb.le hf
    have Ov:=aF1 (Ku g (i:Int) g.length g.length) (i:Int) g.length
    have hum:∀u∈yX g (i:Int) g.length,u < g.length:=fun u hu=>aLM hu
    change (yX g (i:Int) g.length).length≤_ at Ov
    generalize hus:yX g (i:Int) g.length=us at dD hb Ov hum⊢;refine aB ?_;refine bN [(46,iv 0),(45,iv us.length),(44,.slice B us.length kb),(22,iv i),(21,iv g.length),(3,.slice (some ⟨gl,0,none⟩) g.length g.length),(0,pt gc)] ?_;refine eV (fun m e R H=>∃j:Nat,j≤us.length∧m=us.length - j∧e=[(46,iv j),(45,iv us.length),(44,.slice B us.length kb),(22,iv i),(21,iv g.length),(3,.slice (some ⟨gl,0,none⟩) g.length g.length),(0,pt gc)]∧R=[q,R0]∧H=[HP.aE gl 4 (bG ((us.take j).foldl (fun l u=>l.set u true) (l.set i true))),HP.map gm (vF cl),HP.aE gc 277 [.slice A g.length k,.map (some gm),.bool false],HP.many [bX,bX],HP.bU (By A g) (By.le (A:=A) (g:=g)),HP.many [bX,bX]]) us.length ⟨0,by omega,rfl,rfl,rfl,rfl⟩ fun m e R H hI=>?_;obtain⟨j,hj,rfl,rfl,rfl,rfl⟩:=hI;refine aB ?_;refine aG rfl (fun tX=>?_) (fun aGr=>?_)
    ·have tX:j < us.length:=by omega
     obtain⟨u,hu⟩:=get_some tX
     have hun:=hum u (List.mem_of_getElem? hu)
     obtain⟨b,off,hB,hz,hc⟩:=hb.2 (by omega)
     have hcu:=hc j (iv (u:Int)) (by simp[aN,dR,hu])
     have iR:(us.take (j+1)).foldl (fun l u=>l.set u true) (l.set i true)=((us.take j).foldl (fun l u=>l.set u true) (l.set i true)).set u true:=by
      rw[List.take_add_one,hu,List.foldl_append];rfl
     have De:((us.take j).foldl (fun l u=>l.set u true) (l.set i true)).length=g.length:=by rw[aBA,List.length_set];exact hal
     generalize hl3:(us.take j).foldl (fun l u=>l.set u true) (l.set i true)=l3 at iR De⊢;refine aB ?_;refine kd (dat j (off+j) (hx:=by rw[←hB];rfl)) ?_;refine aA ?_;refine kd (bH rfl (Rd.ro (p:=q) (by simp) hz hcu)) ?_;refine aA ?_;refine kd (dat u u) ?_;refine eO rfl rfl ?_ (hs:=eL.mk 0 rfl cO.h rfl (by simp[bG];omega));dsimp only[List.set];rw[aDp,←iR];refine aB ?_;exact eR (us.length - (j+1)) ⟨j+1,tX,rfl,rfl,rfl,rfl⟩
    ·obtain rfl:j=us.length:=by omega
     rw[List.take_length,←dD];refine aB ?_;refine aT [0,1,2,3,4,5] rfl (by decide) (R':=[R0]) (by simp) ?_;exact eR (g.length - (i+1)) ⟨i+1,hlt,rfl,rfl,rfl,rfl⟩
  ·obtain rfl:i=g.length:=by omega
   subst hl;refine aB ?_;refine aT [1,2,3,4,5,0] rfl (by decide) (fun _ h=>h) ?_;refine aJ 1 1 ?_;refine aJ 0 0 ?_;refine aJ 1 0 ?_;refine aJ 0 1 ?_;refine mR ?_;subst cP;exact mF rfl rfl fun w1 t=>⟨gl,rfl,trivial,t.turns hF (by simp) (i:=0) rfl⟩
 ·dsimp only;refine aB ?_;refine aT [1,2,3,4,5,0] rfl (by decide) (fun _ h=>h) ?_;refine aJ 1 1 ?_;refine aJ 0 0 ?_;refine aJ 1 0 ?_;refine aJ 0 1 ?_;refine mR ?_;subst cP;exact mF rfl rfl fun w1 t=>⟨gl,rfl,trivial,t.turns hF (by simp) (i:=0) rfl⟩
end
section
set_option maxHeartbeats 8000000
def Xr(x:dZ)(v:Value)(hs:List HP)(_:Piece):Prop:=∃(g1 g2 g3:Nat) (p:HP),v=.agg #[.slice (some ⟨g1,0,none⟩) x.d.length x.d.length,.slice (some ⟨g2,0,none⟩) x.c.length x.c.length,.slice (some ⟨g3,0,none⟩) x.l.length x.l.length]∧hs=[HP.many [HP.aE g1 4 (bG x.d),HP.aE g2 4 (bG x.c),HP.aE g3 4 (bG x.l)],p]
theorem Yn(q:Piece)(s:aC)(A1 A2 A3 A4:Option Addr)(n1 k1 n2 k2 n3 k3 n4 k4:Nat)(Aa:Option Addr)(ca:Nat)(act:List Bool)(w:World)(nA:qK q s A1 n1 A2 n2 A3 n3 A4 n4)(hm:s.made)(hq:q.Le (all w))(hact:aI (all w) 1 Aa act.length (bG act)):
  Cz 108 #[.agg #[.slice A1 n1 k1,.slice A2 n2 k2,.slice A3 n3 k3,.slice A4 n4 k4],.slice Aa act.length ca] w (fun y w'=>(∃v hs q,y=.returned v∧q.w=w'∧Xr (gK s act) v hs q∧fZ w hs q)∧Below w.heap.size w w'):=by
 obtain⟨rfl,rfl,rfl,rfl⟩:=nA.len;refine aO func108 ntmps108 ?_;refine yZ q (by simp) hq ?_
 have hn9:=hm.nc
 have tW:=hm.nd
 have sI:=hm.nr
 have qW:=hm.nv
 refine aB ?_;refine bO fun g1=>?_;refine bY fun g2=>?_;refine aB ?_;refine dF (fun w1 st=>aA5 s A1 A2 A3 A4 _ k1 _ k2 _ k3 _ k4 w1 (nA.W (st.le (by simp)) (Ub hm))) ?_;rw[Zx hm];refine aIR rfl rfl (by decide) ?_;refine fB ?_;refine aG rfl (fun h=>absurd rfl h) (fun h=>?_)
 ·
  refine nS ?_;refine eK ?_;refine Rf (fun e R H=>∃ga gb gc gw,e=[(5,pt gw),(4,pt g2),(2,pt g1),(1,.slice Aa act.length ca)]∧R=[q,all w]∧H=[HP.aE gw 55 [.slice (some ⟨ga,0,none⟩) s.domains.length s.domains.length,.slice (some ⟨gb,0,none⟩) s.aF.length s.aF.length,.slice (some ⟨gc,0,none⟩) s.aY.length s.aY.length],HP.aE ga 4 (bG (jJ s).d),HP.aE gb 4 (bG (jJ s).c),HP.aE gc 4 (bG (jJ s).l),HP.aE g2 55 [sn,sn,sn],HP.aE g1 30 [.slice A1 s.aF.length k1,.slice A2 s.domains.length k2,.slice A3 s.aY.length k3,.slice A4 s.aD.length k4]]) ?_ ?_
  ·
   refine qI 14 (by kernel_rfl) (by kernel_rfl) ?_;refine fX 0 rfl rfl rfl (Dt (off:=1) (by kernel_rfl) rfl) ?_;refine fX 1 rfl rfl rfl (Jc rfl) ?_;refine fX 2 rfl rfl rfl (Mf (el:=88) (by kernel_rfl) rfl) ?_;refine fX 4 rfl rfl rfl (Dt (off:=0) (by kernel_rfl) rfl) ?_;refine fX 5 rfl rfl rfl (Jc rfl) ?_;refine fX 6 rfl rfl rfl (Mf (el:=86) (by kernel_rfl) rfl) ?_;refine fX 8 rfl rfl rfl (Dt (off:=2) (by kernel_rfl) rfl) ?_;refine fX 9 rfl rfl rfl (Jc rfl) ?_;refine fX 10 rfl rfl rfl (Mf (el:=90) (by kernel_rfl) rfl) ?_;refine aIi (fuel:=2) [3,7,11,13] [[3,7,11],[3,7,11,13]] (fun i=>match i with | 3=>⟨19,4,List.replicate s.domains.length (.bool false),fun g=>.slice (some ⟨g,0,none⟩) s.domains.length s.domains.length⟩ | 7=>⟨23,4,List.replicate s.aF.length (.bool false),fun g=>.slice (some ⟨g,0,none⟩) s.aF.length s.aF.length⟩ | 11=>⟨27,4,List.replicate s.aY.length (.bool false),fun g=>.slice (some ⟨g,0,none⟩) s.aY.length s.aY.length⟩ | _=>⟨5,55,[sn,sn,sn],fun g=>pt g⟩) (fun i hi=>?_) (by show[19,23,27,5].Nodup;decide) (by kernel_rfl) (fun _ h=>h) (fun sub hsub hex g=>?_)
   ·simp only[List.mem_cons,List.not_mem_nil,or_false] at hi;rcases hi with rfl | rfl | rfl | rfl
    ·exact Eg.of rfl rfl rfl (Ol 1 (el:=4) (z:=.bool false) (by kernel_rfl) (by kernel_rfl) rfl rfl rfl (by omega) (by omega)) (Nat.le_of_ble_eq_true rfl) rfl
    ·exact Eg.of rfl rfl rfl (Ol 1 (el:=4) (z:=.bool false) (by kernel_rfl) (by kernel_rfl) rfl rfl rfl (by omega) (by omega)) (Nat.le_of_ble_eq_true rfl) rfl
    ·exact Eg.of rfl rfl rfl (Ol 1 (el:=4) (z:=.bool false) (by kernel_rfl) (by kernel_rfl) rfl rfl rfl (by omega) (by omega)) (Nat.le_of_ble_eq_true rfl) rfl
    ·exact Eg.of rfl rfl rfl (aMI (gX (by kernel_rfl))) (Nat.le_of_ble_eq_true rfl) rfl
   have iR:sub=[3,7,11]∨sub=[3,7,11,13]:=by simpa using hex
   have er:∀n:Nat,List.replicate n (Value.bool false)=bG (List.replicate n false):=fun n=>by simp[bG]
   rcases iR with rfl | rfl
   ·dsimp only[qX,vA,lB,List.map,List.foldr,List.cons_append,List.nil_append,List.length_cons,List.length_nil,Nat.reduceAdd,Nat.reduceSub];refine fH 12 rfl rfl rfl (by decide) (kR (zs:=[sn,sn,sn]) (L:=[(0,1),(1,1),(2,1)]) (gX (by kernel_rfl)) (by kernel_rfl) rfl (by simp[eZ,gB,Value.cells];rfl)) (by kernel_rfl) (fun _ _ _ h=>h) (fun _ h=>h.tail.tail.tail) ?_;refine cK 13 ?_;refine bY fun g6=>?_;refine gT ?_;refine gO ?_;refine kM (fun _ h=>h.tail.tail.tail.tail) ?_;refine cK 14 ?_;refine rN rfl rfl ?_;simp only[fR,Value.cells,List.set,List.take,List.drop,List.nil_append,List.append_nil,List.length_cons,List.length_nil,List.cons_append,Nat.reduceAdd];refine eS ?_;refine kL ?_;refine eK ?_;exact aT [0,1,2,3,4,5] rfl (by decide) (by simp) (bN [(5,pt g6),(4,pt g2),(2,pt g1),(1,.slice Aa act.length ca)] (Xl ⟨g 3,g 7,g 11,g6,rfl,rfl,by simp only[er,jJ]⟩))
   ·dsimp only[qX,vA,lB,List.map,List.foldr,List.cons_append,List.nil_append,List.length_cons,List.length_nil,Nat.reduceAdd,Nat.reduceSub];refine fH 12 rfl rfl rfl (by decide) (kR (zs:=[sn,sn,sn]) (L:=[(0,1),(1,1),(2,1)]) (gX (by kernel_rfl)) (by kernel_rfl) rfl (by simp[eZ,gB,Value.cells];rfl)) (by kernel_rfl) (fun _ _ _ h=>h) (fun _ h=>h.tail.tail.tail.tail) ?_;refine cK 14 ?_;refine rN rfl rfl ?_;simp only[fR,Value.cells,List.set,List.take,List.drop,List.nil_append,List.append_nil,List.length_cons,List.length_nil,List.cons_append,Nat.reduceAdd];refine eS ?_;refine kL ?_;refine eK ?_;exact aT [3,0,1,2,4,5] rfl (by decide) (by simp) (bN [(5,.pointer (some ⟨g 13,0,none⟩)),(4,pt g2),(2,pt g1),(1,.slice Aa act.length ca)] (Xl ⟨g 3,g 7,g 11,g 13,rfl,rfl,by simp only[er,jJ]⟩))
  rintro _ _ _ ⟨ga,gb,gc,gw,rfl,rfl,rfl⟩;refine aB ?_;refine bN [(32,iv 0),(31,iv s.aD.length),(30,.slice A4 s.aD.length k4),(5,pt gw),(4,pt g2),(2,pt g1),(1,.slice Aa act.length ca)] ?_;refine aB ?_;refine eV (fun m e R H=>∃(j:Nat),j≤s.aD.length∧m=s.aD.length - j∧e=[(32,iv j),(31,iv s.aD.length),(30,.slice A4 s.aD.length k4),(5,pt gw),(4,pt g2),(2,pt g1),(1,.slice Aa act.length ca)]∧R=[q,all w]∧H=[HP.aE gw 55 [.slice (some ⟨ga,0,none⟩) s.domains.length s.domains.length,.slice (some ⟨gb,0,none⟩) s.aF.length s.aF.length,.slice (some ⟨gc,0,none⟩) s.aY.length s.aY.length],HP.aE ga 4 (bG (nE s act j).d),HP.aE gb 4 (bG (nE s act j).c),HP.aE gc 4 (bG (nE s act j).l),HP.aE g2 55 [sn,sn,sn],HP.aE g1 30 [.slice A1 s.aF.length k1,.slice A2 s.domains.length k2,.slice A3 s.aY.length k3,.slice A4 s.aD.length k4]]) s.aD.length ⟨0,by omega,rfl,rfl,rfl,rfl⟩ fun m e R H hI=>?_;obtain⟨j,hj,rfl,rfl,rfl,rfl⟩:=hI;refine aB ?_;refine aG rfl (fun h=>?_) (fun h=>?_)
  ·
   refine nS ?_;refine eK ?_;refine dX ?_;refine xM ?_;refine dX ?_
   have hjl:j < s.aD.length:=by have h':(j:Int) < (s.aD.length:Int):=h;omega
   obtain⟨x,hx⟩:∃x,s.aD[j]? =some x:=⟨_,List.getElem?_eq_getElem hjl⟩
   obtain⟨hx1,Ey,hx3,hx4,hx5,hx6,_⟩:=hm.aD j x hx;obtain⟨bV,oV,rV,rfl,hzV,_,hR,Vn⟩:=nA.dev.uT hx;obtain⟨Ar,nr,kr,An,nn,kn,rfl,_⟩:=hR
   have La:=Yo s act j
   obtain⟨xc,hxc⟩:∃xc:Nat,x.clock=(xc:Int):=⟨x.clock.toNat,by omega⟩
   obtain⟨xd,hxd⟩:∃xd:Nat,x.domain=(xd:Int):=⟨x.domain.toNat,by omega⟩
   obtain⟨xr,hxr⟩:∃xr:Nat,x.reset=(xr:Int):=⟨x.reset.toNat,by omega⟩
   have Fm:hasB act j=true→nE s act (j+1)=⟨uV (Kc s xd) (nE s act j).d,uV ((mE s xc).filter (yE s)) (nE s act j).c,Ab (nE s act j).l (xr:Int) true⟩:=fun ha=>by
    rw[aJw hx ha,Nj,hxd,hxc,hxr];rfl
   rw[hxc,hxd,hxr] at Vn;generalize hwj:nE s act j=wj at *;refine fT ?_;refine dP rfl (by decide) ?_;refine kd (dat (j) (oV+j*6)) ?_;refine xW 6 (by kernel_rfl) rfl (aM.of (vs:=[iv (xc:Int),iv (xd:Int),iv (xr:Int),.int .u32 x.iH,.slice Ar nr kr,.slice An nn kn]) fun f v hf=>Rd.ro (p:=q) (by simp) hzV (Vn f v hf)) rfl (by decide) ?_;refine bY fun g7=>?_;refine jL rfl (by decide) ?_;refine rN rfl rfl ?_;simp only[fR,Value.cells,List.set,List.take,List.drop,List.nil_append,List.append_nil,List.length_cons,List.length_nil,List.cons_append,Nat.reduceAdd];refine aB ?_;refine dF (fun w1 st=>aCD Aa act.length ca j act w1 (hact.le (st.le (by simp))) rfl (by omega)) ?_;refine aB ?_;refine oX rfl (fun h=>?_) (fun h=>?_)
   ·
    refine aB ?_
    have hno:hasB act j=false:=by simpa using h
    exact aT [1,2,3,4,5,6] rfl (by decide) (by simp) (bN [(32,iv ((j:Int)+1)),(31,iv s.aD.length),(30,.slice (some ⟨bV,oV,none⟩) s.aD.length k4),(5,pt gw),(4,pt g2),(2,pt g1),(1,.slice Aa act.length ca)] (gP (s.aD.length - (j+1)) (by omega) ⟨j+1,by omega,rfl,rfl,rfl,by rw[aJv hno,hwj]⟩))
   ·
    have hyes:hasB act j=true:=by simpa using h
    have Fm:=Fm hyes
    refine aB ?_;refine bN [(8,iv (xd:Int)),(7,pt g7),(32,iv j),(31,iv s.aD.length),(30,.slice (some ⟨bV,oV,none⟩) s.aD.length k4),(5,pt gw),(4,pt g2),(2,pt g1),(1,.slice Aa act.length ca)] ?_;refine aB ?_;refine eV (fun m e R H=>∃(cur:Int) (rest:List Nat) (d:List Bool),m=rest.length∧Xs s cur rest∧d.length=s.domains.length∧uV rest d=uV (Kc s xd) wj.d∧e=[(8,iv cur),(7,pt g7),(32,iv j),(31,iv s.aD.length),(30,.slice (some ⟨bV,oV,none⟩) s.aD.length k4),(5,pt gw),(4,pt g2),(2,pt g1),(1,.slice Aa act.length ca)]∧R=[q,all w]∧H=[HP.aE g7 93 [iv (xc:Int),iv (xd:Int),iv (xr:Int),.int .u32 x.iH,.slice Ar nr kr,.slice An nn kn],HP.aE gw 55 [.slice (some ⟨ga,0,none⟩) s.domains.length s.domains.length,.slice (some ⟨gb,0,none⟩) s.aF.length s.aF.length,.slice (some ⟨gc,0,none⟩) s.aY.length s.aY.length],HP.aE ga 4 (bG d),HP.aE gb 4 (bG wj.c),HP.aE gc 4 (bG wj.l),HP.aE g2 55 [sn,sn,sn],HP.aE g1 30 [.slice A1 s.aF.length k1,.slice A2 s.domains.length k2,.slice A3 s.aY.length k3,.slice (some ⟨bV,oV,none⟩) s.aD.length k4]]) (Kc s xd).length ⟨_,Kc s xd,wj.d,rfl,aJ9 hm (by omega),La.d,rfl,rfl,rfl,rfl⟩ fun m e R H hI=>?_;obtain⟨cur,rest,d,rfl,Uh,lC,hpd,rfl,rfl,rfl⟩:=hI;refine aB ?_;refine aG rfl (fun h=>?_) (fun h=>?_)
    ·
     refine aB ?_
     obtain⟨i,r,rfl⟩:∃i r,rest=i::r:=by
      cases rest with
      | nil=>exact absurd Uh h
      | cons i r=>exact⟨i,r,rfl⟩
     obtain⟨rfl,dm,sJ,Uh⟩:=Uh
     have hil:=(List.getElem?_eq_some_iff.1 sJ).1
     refine aB ?_;refine rM 2 rfl (by kernel_rfl) rfl rfl rfl (by rw[aDr];omega) ?_;dsimp only[List.set];rw[aDq,show d.set i true=Ab d (i:Int) true by simp[Ab]];refine fB ?_;obtain⟨bD,oD,rD,rfl,Ue,_,rfl,Lr⟩:=nA.dom.uT sJ;refine fT ?_;refine xX (off:=1) (by kernel_rfl) rfl (by decide) ?_;refine Nh rfl ?_;refine dP rfl (by decide) ?_;refine kd (dat (i) (oD+i*3)) ?_;refine xX (off:=0) (by kernel_rfl) rfl (by decide) ?_;refine kX (by kernel_rfl) rfl (Rd.ro (p:=q) (by simp) Ue (Lr 0 _ rfl)) (by decide) ?_;refine jL rfl (by decide) ?_;refine fB ?_;exact bN [(8,iv dm.above),(7,pt g7),(32,iv j),(31,iv s.aD.length),(30,.slice (some ⟨bV,oV,none⟩) s.aD.length k4),(5,pt gw),(4,pt g2),(2,pt g1),(1,.slice Aa act.length ca)] (gP r.length (by simp) ⟨dm.above,r,Ab d (i:Int) true,rfl,Uh,by rw[aBI];exact lC,by rw[←hpd];rfl,rfl,rfl,rfl⟩)
    ·
     refine aB ?_
     obtain rfl:rest=[]:=by
      cases rest with
      | nil=>rfl
      | cons i r=>exact absurd (show cur= -1 from Classical.not_not.1 h) (by have:=Uh.1;omega)
     have hpd:d=uV (Kc s xd) wj.d:=hpd
     refine aB ?_;refine kA [] (Gz (mE s xc)) (fun w1 st=>aA7 q s A1 A2 A3 (some ⟨bV,oV,none⟩) _ k1 _ k2 _ k3 _ k4 xc w1 nA hm.wN (st.le (by simp)) (by omega)) ?_;rintro _ w1 qc ⟨Ac,cc,rfl,hsc⟩ hf _ _
     have hsc:=hsc.le hf
     have hcin:=fun i (hi:i∈mE s xc)=>aH0 s _ _ i hi
     have jS:(mE s xc).length≤s.aF.length:=aA8 s _ _
     clear hf;generalize oP:mE s xc=ch at *;refine aB ?_;refine bN [(60,iv 0),(59,iv ch.length),(58,.slice Ac ch.length cc),(7,pt g7),(32,iv j),(31,iv s.aD.length),(30,.slice (some ⟨bV,oV,none⟩) s.aD.length k4),(5,pt gw),(4,pt g2),(2,pt g1),(1,.slice Aa act.length ca)] ?_;refine aB ?_;refine eV (fun m e R H=>∃(k:Nat),k≤ch.length∧m=ch.length - k∧e=[(60,iv k),(59,iv ch.length),(58,.slice Ac ch.length cc),(7,pt g7),(32,iv j),(31,iv s.aD.length),(30,.slice (some ⟨bV,oV,none⟩) s.aD.length k4),(5,pt gw),(4,pt g2),(2,pt g1),(1,.slice Aa act.length ca)]∧R=[qc,q,all w]∧H=[HP.aE g7 93 [iv (xc:Int),iv (xd:Int),iv (xr:Int),.int .u32 x.iH,.slice Ar nr kr,.slice An nn kn],HP.aE gw 55 [.slice (some ⟨ga,0,none⟩) s.domains.length s.domains.length,.slice (some ⟨gb,0,none⟩) s.aF.length s.aF.length,.slice (some ⟨gc,0,none⟩) s.aY.length s.aY.length],HP.aE ga 4 (bG d),HP.aE gb 4 (bG (uV ((ch.take k).filter (yE s)) wj.c)),HP.aE gc 4 (bG wj.l),HP.aE g2 55 [sn,sn,sn],HP.aE g1 30 [.slice A1 s.aF.length k1,.slice A2 s.domains.length k2,.slice A3 s.aY.length k3,.slice (some ⟨bV,oV,none⟩) s.aD.length k4]]) ch.length ⟨0,by omega,rfl,rfl,rfl,rfl⟩ fun m e R H hI=>?_;obtain⟨k,hk,rfl,rfl,rfl,rfl⟩:=hI;refine aB ?_;refine aG rfl (fun h=>?_) (fun h=>?_)
     ·
      refine nS ?_;refine eK ?_;refine dX ?_;refine xM ?_;refine dX ?_
      have Uw:k < ch.length:=by have h':(k:Int) < (ch.length:Int):=h;omega
      obtain⟨ci,Di⟩:∃ci,ch[k]? =some ci:=⟨_,List.getElem?_eq_getElem Uw⟩
      have aNM:=hcin ci (List.mem_of_getElem? Di)
      obtain⟨ck,Bc⟩:∃ck,s.aF[ci]? =some ck:=⟨_,List.getElem?_eq_getElem aNM⟩
      obtain⟨bI,oI,rfl,hzI,hcI⟩:=hsc.2 (by omega);obtain⟨bC,oC,rC,rfl,hzC,_,hR2,hcC⟩:=nA.uE.uT Bc;obtain⟨As,ns,ks,rfl,_⟩:=hR2
      have pN:(ch.take (k+1)).filter (yE s)=(ch.take k).filter (yE s)++(if yE s ci then[ci] else[]):=by
       rw[List.take_add_one,Di,List.filter_append];cases wR:yE s ci<;>simp[wR]
      have aFY:yE s ci=decide (ck.kind=112∨ck.kind=103):=by unfold yE;rw[Bc]
      have aS4:(uV ((ch.take k).filter (yE s)) wj.c).length=s.aF.length:=by rw[aBJ];exact La.c
      refine fT ?_;refine kd (dat (k) (oI+k)) ?_;refine kX (by kernel_rfl) rfl (Rd.ro (p:=qc) (by simp) hzI (hcI k _ (aMm Di))) (by decide) ?_;refine jL rfl (by decide) ?_;refine fB ?_;refine dX ?_;refine fT ?_;refine xX (off:=0) (by kernel_rfl) rfl (by decide) ?_;refine Nh rfl ?_;refine dP rfl (by decide) ?_;refine kd (dat (ci) (oC+ci*6)) ?_;refine xX (off:=0) (by kernel_rfl) rfl (by decide) ?_;refine kX (by kernel_rfl) rfl (Rd.ro (p:=q) (by simp) hzC (hcC 0 _ rfl)) (by decide) ?_;refine jL rfl (by decide) ?_;refine fB ?_;refine aDA 75 (ck.kind=112∨ck.kind=103) ?_ ?_
      ·skip
       refine aB ?_;refine cG (t:=72) rfl (fun hg=>?_) (fun hg=>?_)
       ·
        refine jK rfl rfl rfl (by decide) ?_;refine jK rfl rfl rfl (by decide) ?_
        (first | refine rP rfl rfl (by decide) ?_ | refine rQ rfl rfl (by decide) ?_)
        refine fB ?_;exact aAS
       ·
        refine jB rfl rfl ?_;refine dP rfl (by decide) ?_;refine jB rfl rfl ?_;refine aEt rfl rfl (by decide) ?_
        (first | refine rP rfl rfl (by decide) ?_ | refine rQ rfl rfl (by decide) ?_)
        refine fB ?_;exact aAS
      refine aG rfl (fun hkd=>?_) (fun hkd=>?_)
      ·
       refine aB ?_;refine rM 3 rfl (by kernel_rfl) rfl rfl rfl (by rw[aDr];omega) ?_;dsimp only[List.set];rw[aDq,show(uV ((ch.take k).filter (yE s)) wj.c).set ci true=uV ((ch.take (k+1)).filter (yE s)) wj.c by rw[pN,aFY,decide_eq_true hkd];simp[uV,Ab,List.foldl_append]];refine aB ?_;exact bN [(60,iv ((k:Int)+1)),(59,iv ch.length),(58,.slice (some ⟨bI,oI,none⟩) ch.length cc),(7,pt g7),(32,iv j),(31,iv s.aD.length),(30,.slice (some ⟨bV,oV,none⟩) s.aD.length k4),(5,pt gw),(4,pt g2),(2,pt g1),(1,.slice Aa act.length ca)] (gP (ch.length - (k+1)) (by omega) ⟨k+1,by omega,rfl,rfl,rfl,rfl⟩)
      ·
       refine aB ?_;exact bN [(60,iv ((k:Int)+1)),(59,iv ch.length),(58,.slice (some ⟨bI,oI,none⟩) ch.length cc),(7,pt g7),(32,iv j),(31,iv s.aD.length),(30,.slice (some ⟨bV,oV,none⟩) s.aD.length k4),(5,pt gw),(4,pt g2),(2,pt g1),(1,.slice Aa act.length ca)] (gP (ch.length - (k+1)) (by omega) ⟨k+1,by omega,rfl,rfl,rfl,by rw[pN,aFY,decide_eq_false hkd];simp⟩)
     ·
      refine aB ?_
      have hke:k=ch.length:=by have h':¬(k:Int) < (ch.length:Int):=h;omega
      rw[hke,List.take_length]
      have nO:=La.l
      refine aB ?_;refine rM 4 rfl (by kernel_rfl) rfl rfl rfl (by rw[aDr];omega) ?_;dsimp only[List.set];rw[aDq,show wj.l.set xr true=Ab wj.l (xr:Int) true by simp[Ab]];refine aB ?_;exact aT [1,2,3,4,5,6] rfl (by decide) (R':=[q,all w]) (by simp) (bN [(32,iv ((j:Int)+1)),(31,iv s.aD.length),(30,.slice (some ⟨bV,oV,none⟩) s.aD.length k4),(5,pt gw),(4,pt g2),(2,pt g1),(1,.slice Aa act.length ca)] (gP (s.aD.length - (j+1)) (by omega) ⟨j+1,by omega,rfl,rfl,rfl,by rw[Fm,hpd]⟩))
  ·
   refine aB ?_;refine rN rfl rfl ?_;simp only[fR,Value.cells,List.set,List.take,List.drop,List.nil_append,List.append_nil,List.length_cons,List.length_nil,List.cons_append,Nat.reduceAdd];refine aB ?_
   have hje:j=s.aD.length:=by have h':¬(j:Int) < (s.aD.length:Int):=h;omega
   have La:=Yo s act j
   have hww:gK s act=nE s act j:=by rw[hje];rfl
   generalize nE s act j=wj at *;refine aT [1,2,3,4] rfl (by decide) (R':=[q,all w]) (by simp) ?_;refine vI ?_;refine dG [] [] [0,1] (by simp) rfl (by decide) (by decide) fun qf _ _ hfr=>?_
   exact Gn rfl (by kernel_rfl) rfl rfl (aM.whole 1 rfl) fun w1 st=>⟨⟨_,_,⟨w1,qf.Z⟩,rfl,rfl,by
    rw[hww]
    exact⟨ga,gb,gc,_,by rw[La.d,La.c,La.l],rfl⟩,st.newR (by simp) (by simp) (hfr (by simp) (by simp))⟩,st.below (by simp)⟩
end
section
def Hy(old l:List Bool)(n:Nat):List Bool:=l.mapIdx fun k b=>if k < n then(b||hasB old k) else b
section
variable{N:cE}{w0:World}{e:Env}{R:List Piece}{H:List HP}{K:Act→World→Prop}{Φ:Piece→Prop}{hm:∀p q:Piece,p.Le q→Φ p→Φ q}{sz n b off:Nat}{A:Option Addr}{xs:List Value}
theorem aD6(i:Nat)(hi:H[i]? =some (HP.bU Φ hm))(Ky:∀p,Φ p→aI p sz A n xs)(hn:0 < n)(k:∀b off,A=some ⟨b,off,none⟩→XK N w0 K e R H):XK N w0 K e R H:=fun a w hr st=>by
 obtain⟨b,off,hA,_⟩:=(Ky _ (st.bU i hi)).2 hn;exact k b off hA a w hr st
theorem aRz(i:Nat)(hi:H[i]? =some (HP.bU Φ hm))(Ky:∀p,Φ p→aI p sz A n xs)(k:∀b off,(0 < n→A=some ⟨b,off,none⟩)→XK N w0 K e R H):XK N w0 K e R H:=by
 rcases Nat.eq_zero_or_pos n with h | h
 ·exact k 0 0 fun h'=>absurd h' (by omega)
 ·exact aD6 i hi Ky h fun b off hA=>k b off fun _=>hA
theorem Rd.bU(i:Nat)(hi:H[i]? =some (HP.bU Φ hm))(Ky:∀p,Φ p→aI p sz A n xs)(hA:A=some ⟨b,off,none⟩)(hn:0 < n){j:Nat}{v:Value}(hv:xs[j]? =some v):Rd w0 R H b (off+j) v:=fun w st=>by
 obtain⟨b',off',pP,_,hc⟩:=(Ky _ (st.bU i hi)).2 hn;cases hA.symm.trans pP;exact hc j v hv
end
def gL(s:aC)(c:Cn):List Bool:=Wz (dM s) (dM s).length c
def pI(s:aC)(z:bL):dZ:=⟨(gK s (gL s z.cn)).d,(gK s (gL s z.cn)).c,Hy z.wn.l (gK s (gL s z.cn)).l s.aY.length⟩
def yA(s:aC)(z:bL):bL:={z with steps:=allM s z.wn (pI s z),sent:=false,wn:=pI s z}
theorem aBy(s:aC)(act:List Bool):(gK s act).of s:=Yo s act _
theorem aJu(s:aC)(z:bL):(pI s z).of s:=by
 have h:=aBy s (gL s z.cn)
 exact⟨h.d,h.c,by show(List.mapIdx _ _).length=_;rw[List.length_mapIdx];exact h.l⟩
theorem Zn(s:aC):(dM s).length=s.aD.length:=by simp[dM]
section
variable(g h f:Nat)(s:aC)(z:bL)(w:World)(F:Nat→Prop)
theorem Yz(hm:s.made)(hz:z.wn.of s)(hp:(jI g h f s z).sat F w)(hF:∀b,F b→b < w.heap.size):
  Cz 244 #[pt g] w (Wr (.tuple #[]) (jI g h f s (yA s z)) w F):=by
 have qW:=hm.nv
 have hnd:=hm.nd
 have hnc:=hm.nc
 have iN:=hm.nr
 have fN:=Zn s
 have hno:∀l∈dM s,(l.length:Int)≤1000:=fun l hl=>by
  obtain⟨i,hi⟩:=List.getElem?_of_mem hl;simp only[dM,List.getElem?_map] at hi;cases hd:s.aD[i]? with
  | none=>rw[hd] at hi;cases hi
  | some d=>
   rw[hd] at hi;cases hi
   have:=(hm.aD i d hd).2.2.2.2.2.2.2.2.2.2.1
   show((d.iX.length:Nat):Int)≤1000
   omega
 have ho:fL (dM s)=(0,List.range (dM s).length):=by rw[fN];exact(aCh hm).2.2
 have hal:(gL s z.cn).length=(dM s).length:=aRq _ _ _
 refine cT func244 ntmps244 hp hF ?_;generalize cP:(⟨w,fun b=>b < w.heap.size∧¬F b⟩:Piece)=R0;refine iT 0 fun L=>?_;refine aW 0 0 ?_;refine aW 1 4 ?_;refine aW 2 3 ?_;refine mR ?_;refine aW 2 1 ?_;refine aW 3 2 ?_;refine aT [2,0,1,3,4] rfl (by decide) (fun _ h=>h) ?_
 change XK _ _ _ _ _ [Jw L.gc L.gm L.nd.1 L.nd.2 (dM s) z.cn,HP.bU (sW L z.wn) _,HP.bU (lR L s) _,_,_]
 generalize hM:HP.many [bX,bX,bX,bX,bX,HP.bU (nC L z.steps) (nC.le (L:=L) (l:=z.steps))]=M;refine dX ?_;refine aAZ (fun e R H=>∃gt ga gb gc:Nat,e=[(2,pt gt),(0,pt g)]∧R=[R0]∧H=[HP.aE gt 55 [.slice (some ⟨ga,0,none⟩) (gK s (gL s z.cn)).d.length (gK s (gL s z.cn)).d.length,.slice (some ⟨gb,0,none⟩) (gK s (gL s z.cn)).c.length (gK s (gL s z.cn)).c.length,.slice (some ⟨gc,0,none⟩) (gK s (gL s z.cn)).l.length (gK s (gL s z.cn)).l.length],HP.many [HP.aE ga 4 (bG (gK s (gL s z.cn)).d),HP.aE gb 4 (bG (gK s (gL s z.cn)).c),HP.aE gc 4 (bG (gK s (gL s z.cn)).l)],Jw L.gc L.gm L.nd.1 L.nd.2 (dM s) z.cn,HP.bU (sW L z.wn) (sW.le (L:=L) (x:=z.wn)),HP.bU (lR L s) (lR.le (L:=L) (s:=s)),HP.aE g 190 (lK h f L s z),M]) ?_ ?_
 ·refine Gq [1,2,3,5,6,7] ?_;refine bJ 0 ?_ (hsub:=fun _ h=>h.bM);refine aK 1 ?_ (hsub:=fun _ h=>h.bM);refine aK 2 ?_ (hsub:=fun _ h=>h.bM);refine aK 3 ?_ (hi:=rfl) (cM:=jM rfl (aM.mid (vs:=[_,_,_,_]) 3 rfl rfl)) (hsub:=fun _ h=>h.bM);refine bJ 4 ?_ (hsub:=fun _ h=>h.bM);refine aK 5 ?_ (hsub:=fun _ h=>h.bM);refine aK 6 ?_ (hsub:=fun _ h=>h.bM);refine aK 7 ?_ (hsub:=fun _ h=>h.bM);refine zD 8 10 rfl rfl (by kernel_rfl) ?_ ?_
  ·refine vQ (α:=Nat) 0 (f:=246) (fi:=[]) (ca:=[]) (fun b=>.slice (some ⟨b,0,none⟩) (dM s).length (dM s).length) (fun b=>HP.many [Jw L.gc L.gm L.nd.1 L.nd.2 (dM s) z.cn,HP.aE b 4 (bG (gL s z.cn))]) (fun _=>True) (by kernel_rfl) rfl rfl rfl (by decide) (fun w1 F1 t h1 h2 h3=>aHt L.gc L.gm L.nd.1 L.nd.2 (dM s) z.cn _ rfl (by omega) hno ho w1 F1 h1 h2) ?_;rintro b _;dsimp only[List.set];refine bB ?_ (hS:=fun _ h=>h.bM);refine zD 9 10 rfl rfl (by kernel_rfl) ?_ ?_
   ·refine aW 0 1 ?_
    refine eM (Xr (gK s (gL s z.cn))) (fun w1 t=>by
     have h1:=t.uR (i:=0) (sz:=1) (n:=(gL s z.cn).length) rfl (by simp[bG])
     have:=Yn (all w1) s L.a1.1 L.a2.1 L.a3.1 L.a4.1 _ L.a1.2 _ L.a2.2 _ L.a3.2 _ L.a4.2 (some ⟨b,0,none⟩) (dM s).length (gL s z.cn) w1 (t.bU 3 rfl) hm (Piece.Le.refl _) h1
     rw[hal] at this
     exact this) ?_
    rintro _ _ q ⟨ga,gb,gc,px,rfl,rfl⟩ _;dsimp only[List.cons_append,List.nil_append];refine bB ?_ (hS:=fun _ h=>h.bE.tail.tail.tail.bM);refine aL 10 ?_;refine bY fun gt=>?_;refine bB ?_ (hS:=fun _ h=>h.bE.tail.tail.tail.tail.bM);refine aL 11 ?_;refine lO 0 rfl ?_;dsimp only[List.set];refine bB ?_ (hS:=fun _ h=>h.bE.tail.tail.tail.tail.bM);refine dY ?_;refine eK ?_;refine aW 4 0 ?_;refine aT [1,2,0,6,7,8,9] rfl (by decide) (R':=[R0]) (by simp) ?_;exact nK ⟨gt,ga,gb,gc,rfl,rfl,rfl⟩
   ·refine bY fun gt=>?_;refine bB ?_ (hS:=fun _ h=>h.tail.bM);refine aL 9 ?_;refine aW 1 1 ?_
    refine eM (Xr (gK s (gL s z.cn))) (fun w1 t=>by
     have h1:=t.uR (i:=0) (sz:=1) (n:=(gL s z.cn).length) rfl (by simp[bG])
     have:=Yn (all w1) s L.a1.1 L.a2.1 L.a3.1 L.a4.1 _ L.a1.2 _ L.a2.2 _ L.a3.2 _ L.a4.2 (some ⟨b,0,none⟩) (dM s).length (gL s z.cn) w1 (t.bU 4 rfl) hm (Piece.Le.refl _) h1
     rw[hal] at this
     exact this) ?_
    rintro _ _ q ⟨ga,gb,gc,px,rfl,rfl⟩ _;dsimp only[List.cons_append,List.nil_append];refine bB ?_ (hS:=fun _ h=>h.bE.tail.tail.tail.tail.bM);refine aL 11 ?_;refine lO 3 rfl ?_;dsimp only[List.set];refine bB ?_ (hS:=fun _ h=>h.bE.tail.tail.tail.tail.bM);refine dY ?_;refine eK ?_;refine aW 4 0 ?_;refine aT [4,1,0,6,7,8,9] rfl (by decide) (R':=[R0]) (by simp) ?_;exact nK ⟨gt,ga,gb,gc,rfl,rfl,rfl⟩
  ·refine bY fun gt=>?_;refine bB ?_ (hS:=fun _ h=>h.tail.bM);refine aL 8 ?_;refine vQ (α:=Nat) 1 (f:=246) (fi:=[]) (ca:=[]) (fun b=>.slice (some ⟨b,0,none⟩) (dM s).length (dM s).length) (fun b=>HP.many [Jw L.gc L.gm L.nd.1 L.nd.2 (dM s) z.cn,HP.aE b 4 (bG (gL s z.cn))]) (fun _=>True) (by kernel_rfl) rfl rfl rfl (by decide) (fun w1 F1 t h1 h2 h3=>aHt L.gc L.gm L.nd.1 L.nd.2 (dM s) z.cn _ rfl (by omega) hno ho w1 F1 h1 h2) ?_;rintro b _;dsimp only[List.set];refine bB ?_ (hS:=fun _ h=>h.tail.bM);refine aL 9 ?_;refine aW 1 1 ?_
   refine eM (Xr (gK s (gL s z.cn))) (fun w1 t=>by
    have h1:=t.uR (i:=0) (sz:=1) (n:=(gL s z.cn).length) rfl (by simp[bG])
    have:=Yn (all w1) s L.a1.1 L.a2.1 L.a3.1 L.a4.1 _ L.a1.2 _ L.a2.2 _ L.a3.2 _ L.a4.2 (some ⟨b,0,none⟩) (dM s).length (gL s z.cn) w1 (t.bU 4 rfl) hm (Piece.Le.refl _) h1
    rw[hal] at this
    exact this) ?_
   rintro _ _ q ⟨ga,gb,gc,px,rfl,rfl⟩ _;dsimp only[List.cons_append,List.nil_append];refine bB ?_ (hS:=fun _ h=>h.bE.tail.tail.tail.tail.bM);refine aL 11 ?_;refine lO 3 rfl ?_;dsimp only[List.set];refine bB ?_ (hS:=fun _ h=>h.bE.tail.tail.tail.tail.bM);refine dY ?_;refine eK ?_;refine aW 4 0 ?_;refine aT [4,1,0,6,7,8,9] rfl (by decide) (R':=[R0]) (by simp) ?_;exact nK ⟨gt,ga,gb,gc,rfl,rfl,rfl⟩
 rintro _ _ _ ⟨gt,ga,gb,gc,rfl,rfl,rfl⟩
 have nO:(gK s (gL s z.cn)).l.length=(pI s z).l.length:=by
  show _=(List.mapIdx _ _).length
  rw[List.length_mapIdx]
 have wQ:(gK s (gL s z.cn)).l.length=s.aY.length:=(aBy s _).l
 have hzl:=hz.l
 rw[nO]
 have aSr:(pI s z).l.length=s.aY.length:=by rw[←nO];exact wQ
 refine aW 1 2 ?_;refine aW 2 1 ?_;refine aW 3 0 ?_;refine aT [0,1,2,3,4,5,6,7,8,9] rfl (by decide) (fun _ h=>h) ?_;refine aA ?_
 have Dk:Hy z.wn.l (gK s (gL s z.cn)).l 0=(gK s (gL s z.cn)).l:=Og _ _
 refine bN [(21,iv 0),(20,iv z.wn.l.length),(19,.slice L.w3.1 z.wn.l.length L.w3.2),(2,pt gt),(0,pt g)] ?_;refine eV (fun m e R H=>∃i:Nat,i≤z.wn.l.length∧m=z.wn.l.length - i∧e=[(21,iv i),(20,iv z.wn.l.length),(19,.slice L.w3.1 z.wn.l.length L.w3.2),(2,pt gt),(0,pt g)]∧R=[R0]∧H=[HP.aE ga 4 (bG (gK s (gL s z.cn)).d),HP.aE gb 4 (bG (gK s (gL s z.cn)).c),HP.aE gc 4 (bG (Hy z.wn.l (gK s (gL s z.cn)).l i)),HP.aE gt 55 [.slice (some ⟨ga,0,none⟩) (gK s (gL s z.cn)).d.length (gK s (gL s z.cn)).d.length,.slice (some ⟨gb,0,none⟩) (gK s (gL s z.cn)).c.length (gK s (gL s z.cn)).c.length,.slice (some ⟨gc,0,none⟩) (pI s z).l.length (pI s z).l.length],HP.many [bX,bX,bX],Jw L.gc L.gm L.nd.1 L.nd.2 (dM s) z.cn,HP.bU (sW L z.wn) (sW.le (L:=L) (x:=z.wn)),HP.bU (lR L s) (lR.le (L:=L) (s:=s)),HP.aE g 190 (lK h f L s z),M]) z.wn.l.length ⟨0,by omega,rfl,rfl,rfl,by rw[Dk]⟩ fun m e R H hI=>?_;obtain⟨i,hi,rfl,rfl,rfl,rfl⟩:=hI;refine aA ?_;refine aG rfl (fun hlt=>?_) (fun hge=>?_)
 ·have hlt:i < z.wn.l.length:=by omega
  obtain⟨b,hb⟩:=get_some hlt;obtain⟨c,hc⟩:=get_some (l:=(gK s (gL s z.cn)).l) (i:=i) (by omega)
  have eY:(Hy z.wn.l (gK s (gL s z.cn)).l i)[i]? =some c:=Oi hc
  have hstep:(Hy z.wn.l (gK s (gL s z.cn)).l i).set i (c||hasB z.wn.l i)=Hy z.wn.l (gK s (gL s z.cn)).l (i+1):=Oh (f:=fun k b=>b||hasB z.wn.l k) hc
  have hbB:hasB z.wn.l i=b:=by show z.wn.l[i]?.getD false=b;rw[hb];rfl
  rw[hbB] at hstep
  have fM:(Hy z.wn.l (gK s (gL s z.cn)).l i).length=s.aY.length:=by rw[Hy,List.length_mapIdx];exact wQ
  refine aD6 (A:=L.w3.1) (sz:=1) (n:=z.wn.l.length) (xs:=bG z.wn.l) 6 rfl (fun _ h=>h.2.2) (by omega) fun wb aJp hwA=>?_
  have hbc:(bG z.wn.l)[i]? =some (.bool b):=by simp[bG,hb]
  refine aA ?_;refine kd (dat i (aJp+i) (hx:=by rw[←hwA];rfl)) ?_;refine kd (bH rfl (Rd.bU 6 rfl (fun _ h=>h.2.2) hwA (by omega) hbc)) ?_;refine aA ?_;cases b
  ·rw[Bool.or_false,wI eY] at hstep;rw[hstep];refine aA ?_;exact eR (z.wn.l.length - (i+1)) ⟨i+1,hlt,rfl,rfl,rfl,rfl⟩
  ·rw[Bool.or_true] at hstep;refine aA ?_;refine kd (dat i i) ?_;refine eO rfl rfl ?_ (hs:=eL.mk 2 rfl cO.h rfl (by simp[bG];omega));dsimp only[List.set];rw[aDp,hstep];refine aA ?_;exact eR (z.wn.l.length - (i+1)) ⟨i+1,hlt,rfl,rfl,rfl,rfl⟩
 obtain rfl:i=z.wn.l.length:=by omega
 rw[hzl];refine aA ?_;refine iZ [3,4,5,7,8,9,10] ?_;refine bJ 0 ?_;refine bJ 1 ?_;refine bJ 2 ?_;refine aK 3 ?_;refine aK 4 ?_;refine aK 5 ?_ (hi:=rfl) (cM:=jM rfl (aM.mid (vs:=[_,_,_,_]) 8 rfl rfl));refine bJ 6 ?_;refine aK 7 ?_;refine aK 8 ?_;refine aK 9 ?_ (hi:=rfl) (cM:=jM rfl (aM.mid (vs:=[_,_,_]) 8 rfl rfl));refine aK 10 ?_;refine aL 11 ?_;refine kA [] (aIo (allM s z.wn (pI s z))) (fun w1 t=>aJT (q:=all w1) (qx:=all w1) (qy:=all w1) (t.bU 7 rfl) hm (Piece.Le.refl _) (x:=z.wn) (y:=pI s z) ⟨L.w1.1,L.w1.2,L.w2.1,L.w2.2,L.w3.1,L.w3.2,rfl,t.bU 6 rfl⟩ (Piece.Le.refl _) ⟨_,_,_,_,_,_,rfl,t.uR (i:=0) rfl (by simp[bG,pI]),t.uR (i:=1) rfl (by simp[bG,pI]),t.uR (i:=2) rfl (by simp[bG,pI])⟩ (Piece.Le.refl _)) ?_;rintro _ w1 q ⟨As,cs,rfl,hs,hsc⟩ hf _ hfr
 have hs:=hs.le hf
 refine cI ?_;refine aL 12 ?_;refine bF ?_;refine cI ?_;refine aL 13 ?_;refine bF ?_;refine cI ?_;refine aL 14 ?_;refine eO rfl rfl ?_ (hs:=eL.mk 8 rfl cO.h rfl (of_decide_eq_true rfl));dsimp only[List.set];refine cI ?_;refine aL 15 ?_;refine bF ?_;refine cI ?_;refine aL 16 ?_;refine bF ?_;refine cI ?_;refine aL 17 ?_;refine eO rfl rfl ?_ (hs:=eL.mk 8 rfl cO.h rfl (of_decide_eq_true rfl));dsimp only[List.set];refine cI ?_;refine dY ?_
 refine Jm (Φ:=nC {L with st:=(As,cs)} (allM s z.wn (pI s z))) (hm:=nC.le) (hfr (by simp)) (fun p hp b hb=>by
  simp at hp;subst hp;rw[←cP] at hb
  exact hb.1) ⟨hs,hsc⟩ ?_
 refine aA ?_;refine Cv 9 rfl ?_;dsimp only[List.set];refine aA ?_;obtain⟨L',hL'⟩:∃L':dL,L'={L with w1:=(some ⟨ga,0,none⟩,(gK s (gL s z.cn)).d.length),w2:=(some ⟨gb,0,none⟩,(gK s (gL s z.cn)).c.length),w3:=(some ⟨gc,0,none⟩,(pI s z).l.length),st:=(As,cs)}:=⟨_,rfl⟩
 refine aT [1,2,3,0,6,8,9] rfl (by decide) (fun _ h=>h) ?_;refine vI ?_;refine oA (q:=HP.bU (sW L' (pI s z)) (sW.le (L:=L') (x:=pI s z))) 0 rfl (fun F w hs=>?_) ?_
 ·obtain⟨G,k1,k2,_⟩:=hs;subst hL';exact⟨qL (c:=0) (k1 0 _ rfl) (fun b hb=>k2 0 b hb) (by simp[bG,pI]),qL (c:=0) (k1 1 _ rfl) (fun b hb=>k2 1 b hb) (by simp[bG,pI]),qL (c:=0) (k1 2 _ rfl) (fun b hb=>k2 2 b hb) (by simp[bG,pI])⟩
 dsimp only[List.set];refine aW 2 0 ?_;refine aW 3 1 ?_;refine aT [6,5,2,1,0,3] rfl (by decide) (fun _ h=>h) ?_;refine mR ?_;refine qG ?_;refine qG ?_;refine qG ?_;refine qG ?_;refine uJ 0 (f:=fun L:dL=>fY g h f L s (yA s z)) L' (by subst hL';rfl) ?_;dsimp only[List.set];subst cP;exact fA 0 hF
end
end
section
theorem pF{w0:World}{R:List Piece}{H:List HP}{g h f:Nat}{L:dL}{s:aC}{z:bL}(i:Nat){o:Nat}{v:Value}(hi:H[i]? =some (fY g h f L s z))(hv:(lK h f L s z)[o]? =some v):Rd w0 R H g o v:=fun w st=>by
 have:=(st.aBC i hi).r0.at_ hv
 rw[Nat.zero_add] at this;exact this.2
def T3(j:Nat):Prop:=j=0∨j=1∨j=2
theorem Er{h f:Nat}{L:dL}{s:aC}{z:bL}{j k:Nat}{v:Value}(hj:T3 j)(hv:(tkC (z.tk j))[k]? =some v):(lK h f L s z)[10+13*j+k]? =some v:=by
 have hk:k < 13:=by
  have:=(List.getElem?_eq_some_iff.1 hv).1
  simpa[tkC] using this
 have hk2:k=0∨k=1∨k=2∨k=3∨k=4∨k=5∨k=6∨k=7∨k=8∨k=9∨k=10∨k=11∨k=12:=by omega
 rcases hj with rfl | rfl | rfl<;>rcases hk2 with rfl | rfl | rfl | rfl | rfl | rfl | rfl | rfl | rfl | rfl | rfl | rfl | rfl<;>exact hv
theorem Yr{t:rH}{i:Nat}(hi:i < 6):(tkC t)[7+i]? =some (iv (hG t i)):=by
 have h2:i=0∨i=1∨i=2∨i=3∨i=4∨i=5:=by omega
 rcases h2 with rfl | rfl | rfl | rfl | rfl | rfl<;>rfl
theorem aG5{t:rH}{i k:Nat}{v:Int}(hl:t.hs.length=6)(hi:i < 6):hG {t with hs:=t.hs.set i v} k=if i=k then v else hG t k:=by
 show(t.hs.set i v).getD k 0=_
 rw[List.getD_eq_getElem?_getD,List.getElem?_set];split
 ·rename_i e
  subst e;rw[if_pos (by omega)];rfl
 ·show _=t.hs.getD k 0
  rw[List.getD_eq_getElem?_getD]
theorem aFc{h f:Nat}{L:dL}{s:aC}{z:bL}{j i:Nat}{v:Int}(hj:T3 j)(hi:i < 6)(hl:(z.tk j).hs.length=6):(lK h f L s z).set (10+13*j+7+i) (iv v)=lK h f L s (z.jP j {z.tk j with hs:=(z.tk j).hs.set i v}):=by
 have hs:=fun k=>aG5 (t:=z.tk j) (k:=k) (v:=v) hl hi
 have h2:i=0∨i=1∨i=2∨i=3∨i=4∨i=5:=by omega
 rcases hj with rfl | rfl | rfl<;>rcases h2 with rfl | rfl | rfl | rfl | rfl | rfl<;>simp[lK,bL.jP,bL.tk] at hs⊢ <;>simp[hs]
theorem aBE{h f:Nat}{L:dL}{s:aC}{z:bL}:(lK h f L s z).length=55:=rfl
structure aDW(t:rH):Prop where
 len:t.hs.length=6
 bd:∀i,0≤hG t i∧hG t i≤1000000
def qP(t:rH)(i:Nat)(k:Int):rH:={t with hs:=t.hs.set i (hG t i+k)}
def Lx(s:aC)(z:bL)(j:Nat):Int×bL:=if(qZ (dM s).length z.cn (z.tk j).dev).1≠0 then((qZ (dM s).length z.cn (z.tk j).dev).1,z) else(0,yA s {z.jP j (qP (z.tk j) (z.tk j).dev.toNat 1) with cn:=(qZ (dM s).length z.cn (z.tk j).dev).2})
def Kq(s:aC)(z:bL)(j:Nat):Int×bL:=if bZ s.aD.length (z.tk j).dev=false then(4,z) else if hG (z.tk j) (z.tk j).dev.toNat=0 then(6,z) else if(uD (dM s).length z.cn (z.tk j).dev).1≠0 then((uD (dM s).length z.cn (z.tk j).dev).1,z) else(0,yA s {z.jP j (qP (z.tk j) (z.tk j).dev.toNat (-1)) with cn:=(uD (dM s).length z.cn (z.tk j).dev).2})
def Kh(s:aC)(z:bL):Int×bL:=if(xH z.cn).1≠0 then((xH z.cn).1,z) else(0,yA s {z with cn:=(xH z.cn).2})
def Ko(s:aC)(z:bL):Int×bL:=if(xI z.cn).1≠0 then((xI z.cn).1,z) else(0,yA s {z with cn:=(xI z.cn).2})
theorem aQu{n:Nat}{c:Cn}{d:Int}(h:(qZ n c d).1≠0):(qZ n c d).2=c:=by
 unfold qZ at h⊢
 repeat' split
 all_goals first | rfl | (simp_all;done)
theorem aH1{n:Nat}{c:Cn}{d:Int}(h:(qZ n c d).1=0):0≤d∧d < n:=by
 unfold qZ at h;split at h
 ·simp at h
 ·split at h
  ·simp at h
  ·rename_i h1
   exact Decidable.not_not.1 h1
theorem aPH{n:Nat}{c:Cn}{d:Int}(h:(uD n c d).1≠0):(uD n c d).2=c:=by
 unfold uD at h⊢
 repeat' split
 all_goals first | rfl | (simp_all;done)
theorem aPF{c:Cn}(h:(xH c).1≠0):(xH c).2=c:=by
 unfold xH at h⊢;split
 ·rfl
 ·simp_all
theorem aPG{c:Cn}(h:(xI c).1≠0):(xI c).2=c:=by
 unfold xI at h⊢;split
 ·simp_all
 ·rfl
section
variable(g h f:Nat)(s:aC)(z:bL)(w:World)(F:Nat→Prop)
theorem aKE(hm:s.made)(hz:z.wn.of s)(a:Value)(hp:(jI g h f s z).sat F w)(hF:∀b,F b→b < w.heap.size):
  Cz 271 #[.agg #[],pt g,a] w (Wr (iv (Kh s z).1) (jI g h f s (Kh s z).2) w F):=by
 unfold Kh;refine cT func271 ntmps271 hp hF ?_;refine aA ?_;refine bO fun g1=>?_;refine aA ?_;refine iT 1 fun L=>?_;refine kd (bH rfl (pF 1 rfl rfl)) ?_;refine aW 1 3 ?_;refine bT 0 (qN L.gc L.gm (.slice L.nd.1 (dM s).length L.nd.2) (xH z.cn).2) (fun w1 F1 t h1 h2 h3=>aPK L.gc L.gm (dM s).length L.nd.2 L.nd.1 z.cn w1 F1 h1 h2) ?_;refine aA ?_;refine aG rfl (fun he=>?_) (fun he=>?_)
 ·rw[if_pos he,aPF he];refine aA ?_;refine aJ 1 3 ?_;refine cQ 1 (fun L:dL=>fY g h f L s z) L ?_;exact bP 1 hF
 ·rw[if_neg he];refine aJ 1 3 ?_;refine cQ 1 (fun L:dL=>fY g h f L s {z with cn:=(xH z.cn).2}) L ?_;refine aA ?_;refine bT 1 (jI g h f s (yA s {z with cn:=(xH z.cn).2})) (fun w1 F1 t h1 h2 h3=>Yz g h f s _ w1 F1 hm hz h1 h2) ?_;refine aA ?_;exact bP 1 hF
theorem aKH(hm:s.made)(hz:z.wn.of s)(a:Value)(hp:(jI g h f s z).sat F w)(hF:∀b,F b→b < w.heap.size):
  Cz 273 #[.agg #[],pt g,a] w (Wr (iv (Ko s z).1) (jI g h f s (Ko s z).2) w F):=by
 unfold Ko;refine cT func273 ntmps273 hp hF ?_;refine aA ?_;refine bO fun g1=>?_;refine aA ?_;refine iT 1 fun L=>?_;refine kd (bH rfl (pF 1 rfl rfl)) ?_;refine aW 1 3 ?_;refine bT 0 (qN L.gc L.gm (.slice L.nd.1 (dM s).length L.nd.2) (xI z.cn).2) (fun w1 F1 t h1 h2 h3=>aPL L.gc L.gm (dM s).length L.nd.2 L.nd.1 z.cn w1 F1 h1 h2) ?_;refine aA ?_;refine aG rfl (fun he=>?_) (fun he=>?_)
 ·rw[if_pos he,aPG he];refine aA ?_;refine aJ 1 3 ?_;refine cQ 1 (fun L:dL=>fY g h f L s z) L ?_;exact bP 1 hF
 ·rw[if_neg he];refine aJ 1 3 ?_;refine cQ 1 (fun L:dL=>fY g h f L s {z with cn:=(xI z.cn).2}) L ?_;refine aA ?_;refine bT 1 (jI g h f s (yA s {z with cn:=(xI z.cn).2})) (fun w1 F1 t h1 h2 h3=>Yz g h f s _ w1 F1 hm hz h1 h2) ?_;refine aA ?_;exact bP 1 hF
theorem aKL(hm:s.made)(hz:z.wn.of s)(j:Nat)(hj:T3 j)(hk:aDW (z.tk j))(hp:(jI g h f s z).sat F w)(hF:∀b,F b→b < w.heap.size):
  Cz 242 #[.agg #[],pt g,.pointer (some ⟨g,10+13*j,none⟩)] w (Wr (iv (Lx s z j).1) (jI g h f s (Lx s z j).2) w F):=by
 have qW:=hm.nv
 have fN:=Zn s
 have hj2:j≤2:=by rcases hj with rfl | rfl | rfl<;>decide
 unfold Lx;refine cT func242 ntmps242 hp hF ?_;refine aA ?_;refine bO fun g1=>?_;refine aA ?_;refine iT 1 fun L=>?_;refine kd (bH rfl (pF 1 rfl (Er (k:=2) hj rfl))) ?_;refine aA ?_;refine kd (bH rfl (pF 1 rfl rfl)) ?_;refine aW 1 3 ?_;refine aA ?_;refine bT 0 (qN L.gc L.gm (.slice L.nd.1 (dM s).length L.nd.2) (qZ (dM s).length z.cn (z.tk j).dev).2) (fun w1 F1 t h1 h2 h3=>aPO L.gc L.gm (dM s).length L.nd.2 L.nd.1 z.cn w1 F1 (z.tk j).dev h1 h2) ?_;refine aA ?_;refine aG rfl (fun he=>?_) (fun he=>?_)
 ·rw[if_pos he,aQu he];refine aA ?_;refine aJ 1 3 ?_;refine cQ 1 (fun L:dL=>fY g h f L s z) L ?_;exact bP 1 hF
 ·rw[if_neg he];obtain⟨hd0,dB⟩:=aH1 (Decidable.not_not.1 he);obtain⟨dv,Bm⟩:∃n:Nat,(z.tk j).dev=(n:Int):=⟨(z.tk j).dev.toNat,by omega⟩
  have Bb:dv < 6:=by omega
  have hb0:=hk.bd dv
  refine aJ 1 3 ?_;refine aW 1 0 ?_;generalize mZ:(qZ (dM s).length z.cn (z.tk j).dev).2=c2
  have hcell:(lK h f L s z)[10+13*j+7+dv]? =some (iv (hG (z.tk j) dv)):=by
   rw[Nat.add_assoc];exact Er hj (Yr Bb)
  have lY:qP (z.tk j) (z.tk j).dev.toNat (1)={z.tk j with hs:=(z.tk j).hs.set dv (hG (z.tk j) dv+1)}:=by
   unfold qP;rw[show(z.tk j).dev.toNat=dv by omega]
   all_goals rfl
  have lF:=aFc (h:=h) (f:=f) (L:=L) (s:=s) (z:=z) (i:=dv) (v:=hG (z.tk j) dv+1) hj Bb hk.len
  rw[lY];refine aA ?_;refine iZ [2,3,4,5,6,7,8] ?_;refine bJ 0 ?_;refine bJ 1 ?_;refine aK 2 ?_;refine aK 3 ?_;refine aK 4 ?_ (hi:=rfl) (cM:=fG dv (10+13*j+7+dv) (hj:=Bm) (hlt:=Bb) (ho:=by omega));refine aK 5 ?_ (hi:=rfl) (cM:=bH rfl (Rd.aE 0 rfl hcell));refine aK 6 ?_;refine aK 7 ?_;refine aK 8 ?_;refine aL 9 ?_;refine kd (fG dv (10+13*j+7+dv) (hj:=Bm) (hlt:=Bb) (ho:=by omega)) ?_;refine cI ?_;refine aL 10 ?_;refine eO rfl rfl ?_ (hs:=eL.mk 0 rfl cO.h rfl (by rw[aBE];omega));dsimp only[List.set];rw[lF];refine cI ?_;refine dY ?_;refine aJ 1 0 ?_;refine cQ 1 (fun L:dL=>fY g h f L s {z.jP j {z.tk j with hs:=(z.tk j).hs.set dv (hG (z.tk j) dv+1)} with cn:=c2}) L ?_;refine aA ?_;refine bT 1 (jI g h f s (yA s {z.jP j {z.tk j with hs:=(z.tk j).hs.set dv (hG (z.tk j) dv+1)} with cn:=c2})) (fun w1 F1 t h1 h2 h3=>Yz g h f s _ w1 F1 hm hz h1 h2) ?_;refine aA ?_;exact bP 1 hF
theorem aKI(hm:s.made)(hz:z.wn.of s)(j:Nat)(hj:T3 j)(hk:aDW (z.tk j))(hp:(jI g h f s z).sat F w)(hF:∀b,F b→b < w.heap.size):
  Cz 262 #[.agg #[],pt g,.pointer (some ⟨g,10+13*j,none⟩)] w (Wr (iv (Kq s z j).1) (jI g h f s (Kq s z j).2) w F):=by
 have qW:=hm.nv
 have fN:=Zn s
 have hj2:j≤2:=by rcases hj with rfl | rfl | rfl<;>decide
 unfold Kq;refine cT func262 ntmps262 hp hF ?_;refine aA ?_;refine bO fun g1=>?_;refine aA ?_;refine iT 1 fun L=>?_;refine kd (bH rfl (pF 1 rfl (Er (k:=2) hj rfl))) ?_;refine aA ?_;refine aS (fun w1 t=>aKN g h f L s z w1 (z.tk j).dev (t.aBC 1 rfl)) ?_;cases hin:bZ s.aD.length (z.tk j).dev
 ·refine aA ?_;refine cQ 1 (fun L:dL=>fY g h f L s z) L ?_;exact bP 1 hF
 have Pg:=of_decide_eq_true hin
 obtain⟨dv,Bm⟩:∃n:Nat,(z.tk j).dev=(n:Int):=⟨(z.tk j).dev.toNat,by omega⟩
 have Bb:dv < 6:=by omega
 have hb0:=hk.bd dv
 have aNN:(lK h f L s z)[10+13*j+7+dv]? =some (iv (hG (z.tk j) dv)):=by
  rw[Nat.add_assoc];exact Er hj (Yr Bb)
 rw[if_neg (by simp)];refine aA ?_;refine kd (fG dv (10+13*j+7+dv) (hj:=Bm) (hlt:=Bb) (ho:=by omega)) ?_;refine kd (bH rfl (pF 1 rfl aNN)) ?_;refine aA ?_
 have Ow:(z.tk j).dev.toNat=dv:=by omega
 refine aG rfl (fun h0=>?_) (fun h0=>?_)
 ·rw[if_pos (by rw[Ow];exact h0)];refine aA ?_;refine cQ 1 (fun L:dL=>fY g h f L s z) L ?_;exact bP 1 hF
 rw[if_neg (by rw[Ow];exact h0)];refine aA ?_;refine kd (bH rfl (pF 1 rfl rfl)) ?_;refine aW 1 3 ?_;refine aA ?_;refine bT 0 (qN L.gc L.gm (.slice L.nd.1 (dM s).length L.nd.2) (uD (dM s).length z.cn (z.tk j).dev).2) (fun w1 F1 t h1 h2 h3=>aPM L.gc L.gm (dM s).length L.nd.2 L.nd.1 z.cn w1 F1 (z.tk j).dev h1 h2) ?_;refine aA ?_;refine aG rfl (fun he=>?_) (fun he=>?_)
 ·rw[if_pos he,aPH he];refine aA ?_;refine aJ 1 3 ?_;refine cQ 1 (fun L:dL=>fY g h f L s z) L ?_;exact bP 1 hF
 ·rw[if_neg he];refine aJ 1 3 ?_;refine aW 1 0 ?_;generalize mZ:(uD (dM s).length z.cn (z.tk j).dev).2=c2
  have hcell:(lK h f L s z)[10+13*j+7+dv]? =some (iv (hG (z.tk j) dv)):=by
   rw[Nat.add_assoc];exact Er hj (Yr Bb)
  have lY:qP (z.tk j) (z.tk j).dev.toNat (-1)={z.tk j with hs:=(z.tk j).hs.set dv (hG (z.tk j) dv - 1)}:=by
   unfold qP;rw[show(z.tk j).dev.toNat=dv by omega]
   all_goals rfl
  have lF:=aFc (h:=h) (f:=f) (L:=L) (s:=s) (z:=z) (i:=dv) (v:=hG (z.tk j) dv - 1) hj Bb hk.len
  rw[lY];refine aA ?_;refine iZ [2,3,4,5,6,7,8] ?_;refine bJ 0 ?_;refine bJ 1 ?_;refine aK 2 ?_;refine aK 3 ?_;refine aK 4 ?_ (hi:=rfl) (cM:=fG dv (10+13*j+7+dv) (hj:=Bm) (hlt:=Bb) (ho:=by omega));refine aK 5 ?_ (hi:=rfl) (cM:=bH rfl (Rd.aE 0 rfl hcell));refine aK 6 ?_;refine aK 7 ?_;refine aK 8 ?_;refine aL 9 ?_;refine kd (fG dv (10+13*j+7+dv) (hj:=Bm) (hlt:=Bb) (ho:=by omega)) ?_;refine cI ?_;refine aL 10 ?_;refine eO rfl rfl ?_ (hs:=eL.mk 0 rfl cO.h rfl (by rw[aBE];omega));dsimp only[List.set];rw[lF];refine cI ?_;refine dY ?_;refine aJ 1 0 ?_;refine cQ 1 (fun L:dL=>fY g h f L s {z.jP j {z.tk j with hs:=(z.tk j).hs.set dv (hG (z.tk j) dv - 1)} with cn:=c2}) L ?_;refine aA ?_;refine bT 1 (jI g h f s (yA s {z.jP j {z.tk j with hs:=(z.tk j).hs.set dv (hG (z.tk j) dv - 1)} with cn:=c2})) (fun w1 F1 t h1 h2 h3=>Yz g h f s _ w1 F1 hm hz h1 h2) ?_;refine aA ?_;exact bP 1 hF
end
end
section
def aSo(d:cH)(vs:List Value):Prop:=∃A k A' n' k',vs=[iv d.clock,iv d.domain,iv d.reset,.int .u32 d.iH,.slice A d.aR.length k,.slice A' n' k']
structure aIJ(s:aC)(rows:List (List Value)):Prop where
 row:∀(i:Nat) (d:cH),s.aD[i]? =some d→∃r,rows[i]? =some r∧aSo d r
 len:∀r∈rows,r.length=6
def Gw(L:dL)(s:aC)(rows:List (List Value))(p:Piece):Prop:=lR L s p∧aI p 6 L.a4.1 s.aD.length rows.flatten
theorem Gw.le{L:dL}{s:aC}{rows:List (List Value)}(p q:Piece)(hl:p.Le q)(h:Gw L s rows p):Gw L s rows q:=⟨lR.le p q hl h.1,h.2.le hl⟩
theorem aFg{α:Type}{R:α→List Value→Prop}{sz:Nat}:∀{es:List α} {rs:List (List Value)},Rows R sz es rs→∀(i:Nat) (e:α),es[i]? =some e→∃r,rs[i]? =some r∧r.length=sz∧R e r
 | [],[],_,i,e,h=>by simp at h
 | a::es,r::rs,h,0,e,he=>by
  simp at he;subst he;exact⟨r,rfl,h.1,h.2.1⟩
 | a::es,r::rs,h,i+1,e,he=>aFg h.2.2 i e (by simpa using he)
section
variable{N:cE}{w0:World}{e:Env}{R:List Piece}{H:List HP}{K:Act→World→Prop}{L:dL}{s:aC}
theorem aR6(i:Nat)(hi:H[i]? =some (HP.bU (lR L s) (lR.le (L:=L) (s:=s))))(k:∀rows,aIJ s rows→XK N w0 K e R (H.set i (HP.bU (Gw L s rows) (Gw.le (L:=L) (s:=s) (rows:=rows))))):XK N w0 K e R H:=fun a w hr st=>by
 obtain⟨F,h1,hlt,_,hk⟩:=st.chunk hi;obtain⟨rows,dO,fJ,wS⟩:=(h1:lR L s ⟨w,F⟩).dev;refine k rows ⟨fun i d hd=>?_,fun r hr=>Rows.Gj dO r hr⟩ a w hr (hk w F _ (show Gw L s rows ⟨w,F⟩ from⟨h1,wS⟩) ⟨rfl,rfl,rfl,Nat.le_refl _,fun b hb=>⟨.inl hb,hlt b hb⟩,fun _ _ _=>rfl⟩);obtain⟨r,h2,_,A,n,q,A',n',q',h3,h4,_⟩:=aFg dO i d hd;subst h4;exact⟨r,h2,A,q,A',n',q',h3⟩
theorem Rd.dev(i:Nat){rows:List (List Value)}{j k b off:Nat}{r:List Value}{v:Value}{hm:∀p q:Piece,p.Le q→Gw L s rows p→Gw L s rows q}(hi:H[i]? =some (HP.bU (Gw L s rows) hm))(hq:aIJ s rows)(hA:L.a4.1=some ⟨b,off,none⟩)(hr:rows[j]? =some r)(hj:j < s.aD.length)(hv:r[k]? =some v):Rd w0 R H b (off+j*6+k) v:=by
 have hk:k < 6:=by
  have h1:=hq.len r (List.mem_of_getElem? hr)
  have:=(List.getElem?_eq_some_iff.1 hv).1
  omega
 have hf:=Pv (fun x=>x) 6 rows hq.len j k r hr hk
 have:=Rd.bU (w0:=w0) (R:=R) (xs:=rows.flatten) (j:=j*6+k) (v:=v) i hi (fun p h=>h.2) hA (by omega) (by simpa[hv] using hf)
 rwa [←Nat.add_assoc] at this
end
theorem aKO(g h f:Nat)(L:dL)(s:aC)(z:bL)(w:World)(d:Int)(hR:dQ w g 0 (lK h f L s z)):Cz 263 #[pt g,iv d] w (Rt (.bool (bZ s.aD.length d)) w):=by
 have k5:=hR.at_ (j:=5) rfl
 refine aO func263 ntmps263 ?_;refine aA ?_;refine cG (t:=7) rfl (fun h=>?_) (fun h=>?_)
 ·refine aA ?_;refine iS (by simp) ?_;unfold bZ
  congr 1
  simp;omega
 ·refine aA ?_;refine iS (by simp) ?_
  have:bZ s.aD.length d=false:=decide_eq_false (by omega)
  rw[this]
def Tk(s:aC)(d:Int):Int:=((s.aD[d.toNat]?).map fun d=>(d.aR.length:Int)).getD 0
def Jg(s:aC)(t:rH):Prop:=bZ s.aD.length t.dev=false∨t.cF < 0∨Tk s t.dev≤t.cF
instance(s:aC)(t:rH):Decidable (Jg s t):=by unfold Jg;infer_instance
def Gl(s:aC)(x:aU)(z:bL)(j:Nat)(wr:Bool):Int×bL×aU:=
 if Jg s (z.tk j) then(4,z,x) else if hG (z.tk j) (z.tk j).dev.toNat=0∨z.cn.lQ=true then(6,z,x)
 else if wD x (z.tk j).dev.toNat=114 then(0,{z with aZ:=true,id:=x.aZ},Ts x (z.tk j).dev.toNat wr (z.tk j).cF (z.tk j).val) else(6,z,x)
def Jr(g f:Nat)(hL:HL)(s:aC)(z:bL)(x:aU):HP:=HP.many [jI g hL.h f s z,dN hL s x]
section
variable(g f:Nat)(hL:HL)(s:aC)(z:bL)(x:aU)(w:World)(F:Nat→Prop)
theorem aFd(hm:s.made)(aQ:gA hL s)(hok:cX s x)(hw0:∀i:Nat,(x.wt[i]?).join=none)(mM:0≤x.aZ∧x.aZ≤1000000000)(j:Nat)(hj:T3 j)(wr:Bool)(hp:(Jr g f hL s z x).sat F w)(hF:∀b,F b→b < w.heap.size)(cZ:eG ⟨w,fun b=>b < w.heap.size∧¬F b⟩):
  Cz 265 #[.agg #[.bool wr],pt g,.pointer (some ⟨g,10+13*j,none⟩)] w (Wr (iv (Gl s x z j wr).1) (Jr g f hL s (Gl s x z j wr).2.1 (Gl s x z j wr).2.2) w F):=by
 have qW:=hm.nv
 have hH:=hm.dK
 have hj2:j≤2:=by rcases hj with rfl | rfl | rfl<;>decide
 unfold Gl;refine cT func265 ntmps265 hp hF ?_;generalize cP:(⟨w,fun b=>b < w.heap.size∧¬F b⟩:Piece)=R0 at cZ⊢;refine aW 0 1 ?_;refine aW 1 0 ?_;refine iT 0 fun L=>?_;refine aA ?_;refine bO fun g1=>?_;refine aA ?_;refine kd (jM (vs:=[.int .u8 (z.tk j).kind,iv (z.tk j).dev,iv (z.tk j).cF,.int .u32 (z.tk j).val]) rfl (aM.of fun k v hv=>pF 1 rfl ?_)) ?_
 ·have hk:k < 4:=by simpa using(List.getElem?_eq_some_iff.1 hv).1
  have h2:k=0∨k=1∨k=2∨k=3:=by omega
  have:=Er (h:=hL.h) (f:=f) (L:=L) (s:=s) (z:=z) (j:=j) (k:=1+k) (v:=v) hj (by rcases h2 with rfl | rfl | rfl | rfl<;>exact hv)
  rwa [←Nat.add_assoc] at this
 refine bY fun g7=>?_;refine aA ?_;refine aW 2 1 ?_;refine aW 3 0 ?_
 have hj7:10+13*j+7 < 55:=by omega
 refine aR6 1 rfl fun rows hq=>?_;dsimp only[List.set];refine aRz (A:=L.a4.1) (sz:=6) (n:=s.aD.length) (xs:=rows.flatten) 1 rfl (fun _ h=>h.2) fun b off hA=>?_;refine aA ?_;refine lJ ?_;refine jC ?_;refine rB (fun w1 t=>aKO g hL.h f L s z w1 (z.tk j).dev (uG (t.aE (i:=0) rfl))) ?_;cases hin:bZ s.aD.length (z.tk j).dev
 ·refine iY ?_;rw[if_pos (show Jg s (z.tk j) from .inl hin)];refine aA ?_;refine oA (q:=HP.bU (lR L s) (lR.le (L:=L) (s:=s))) 1 rfl (fun F w hs=>hs.1) ?_;dsimp only[List.set];refine aJ 3 0 ?_;refine aJ 2 1 ?_;refine cQ 2 (fun L:dL=>fY g hL.h f L s z) L ?_;refine aT [2,3,4] rfl (by decide) (fun _ h=>h) ?_;refine aJ 1 0 ?_;refine aJ 0 1 ?_;subst cP;exact bP 0 hF
 ·have Pg:=of_decide_eq_true hin
  have hA:=hA (by omega)
  obtain⟨dv,Bm⟩:∃n:Nat,(z.tk j).dev=(n:Int):=⟨(z.tk j).dev.toNat,by omega⟩
  have Ow:(z.tk j).dev.toNat=dv:=by omega
  obtain⟨d,dB⟩:=get_some (l:=s.aD) (i:=dv) (by omega)
  have Uo:Tk s (z.tk j).dev=d.aR.length:=by
   unfold Tk;rw[Ow,dB];rfl
  obtain⟨r,hr,A,k,A',n',k',rfl⟩:=hq.row dv d dB;refine jC ?_;refine Ea 26 rfl (fun hneg=>?_) (fun hnn=>?_)
  ·refine iY ?_;rw[if_pos (show Jg s (z.tk j) from .inr (.inl hneg))];refine aA ?_;refine oA (q:=HP.bU (lR L s) (lR.le (L:=L) (s:=s))) 1 rfl (fun F w hs=>hs.1) ?_;dsimp only[List.set];refine aJ 3 0 ?_;refine aJ 2 1 ?_;refine cQ 2 (fun L:dL=>fY g hL.h f L s z) L ?_;refine aT [2,3,4] rfl (by decide) (fun _ h=>h) ?_;refine aJ 1 0 ?_;refine aJ 0 1 ?_;subst cP;exact bP 0 hF
  ·refine jC ?_;refine sU (dat dv (off+dv*6) (hx:=by rw[←hA];rfl) (hj:=Bm)) ?_;refine jC ?_;refine sU (bH rfl (Rd.dev 1 rfl hq hA hr (by omega) rfl)) ?_;refine iY ?_;refine aA ?_;refine aG rfl (fun hge=>?_) (fun hlt=>?_)
   ·rw[if_pos (show Jg s (z.tk j) from .inr (.inr (by rw[Uo];exact hge)))];refine aA ?_;refine oA (q:=HP.bU (lR L s) (lR.le (L:=L) (s:=s))) 1 rfl (fun F w hs=>hs.1) ?_;dsimp only[List.set];refine aJ 3 0 ?_;refine aJ 2 1 ?_;refine cQ 2 (fun L:dL=>fY g hL.h f L s z) L ?_;refine aT [2,3,4] rfl (by decide) (fun _ h=>h) ?_;refine aJ 1 0 ?_;refine aJ 0 1 ?_;subst cP;exact bP 0 hF
   ·have aNz:¬Jg s (z.tk j):=by
     unfold Jg;rw[hin,Uo];rintro(h | h | h)
     ·cases h
     ·exact hnn h
     ·exact hlt h
    have hcell:(lK hL.h f L s z)[10+13*j+7+dv]? =some (iv (hG (z.tk j) dv)):=by
     rw[Nat.add_assoc];exact Er hj (Yr (by omega))
    rw[if_neg aNz];refine oA (q:=HP.bU (lR L s) (lR.le (L:=L) (s:=s))) 1 rfl (fun F w hs=>hs.1) ?_;dsimp only[List.set];refine aJ 3 0 ?_;refine aJ 2 1 ?_;refine aA ?_;refine lJ ?_;refine jC ?_;refine sU (fG dv (10+13*j+7+dv) (hj:=Bm) (hlt:=by omega) (ho:=by omega)) ?_;refine sU (bH rfl (pF 2 rfl hcell)) ?_;refine jC ?_;refine Ea 51 rfl (fun h0=>?_) (fun h0=>?_)
    ·refine iY ?_;rw[if_pos (show hG (z.tk j) (z.tk j).dev.toNat=0∨z.cn.lQ=true from .inl (by rw[Ow];exact h0))];refine aA ?_;refine cQ 2 (fun L:dL=>fY g hL.h f L s z) L ?_;refine aT [2,3,4] rfl (by decide) (fun _ h=>h) ?_;refine aJ 1 0 ?_;refine aJ 0 1 ?_;subst cP;exact bP 0 hF
    ·refine jC ?_;refine sU (bH rfl (pF 2 rfl rfl)) ?_;refine jC ?_;refine rB (fun w1 t=>aPP L.gc z.cn.lQ w1 ((t.aBC 2 rfl).cn.at_ (j:=2) rfl)) ?_;cases aS8:z.cn.lQ
     ·refine iY ?_;refine aA ?_
      have aS2:=(List.getElem?_eq_some_iff.1 dB).1
      have hrl:=(hm.aD dv d dB).2.2.2.2.2.2.2.2.1
      have Cy:0≤(z.tk j).cF:=by omega
      have dO:(z.tk j).cF < d.aR.length:=by omega
      have hno:¬(hG (z.tk j) dv=0∨false=true):=by
       rintro(h | h)
       ·exact h0 h
       ·cases h
      rw[Ow,if_neg hno];refine aA ?_;refine aS (fun w1 t=>aQ7 (z.tk j).dev (z.tk j).cF ⟨by omega,by omega⟩ ⟨Cy,by omega⟩ w1) ?_;refine aA ?_
      by_cases Bi:wD x dv=114
      ·rw[if_pos Bi];refine aT [3,0,1,2,4] rfl (by decide) (fun _ h=>h) ?_;refine Gq [1,2,3,5,6,7,8,11,12] ?_;refine bJ 0 ?_ (hsub:=fun _ h=>h.bM);refine aK 1 ?_ (hsub:=fun _ h=>h.bM);refine aK 2 ?_ (hsub:=fun _ h=>h.bM);refine aK 3 ?_ (hi:=rfl) (cM:=bH rfl (pF 3 rfl rfl)) (hsub:=fun _ h=>h.bM);refine bJ 4 ?_ (hsub:=fun _ h=>h.bM);refine aK 5 ?_ (hsub:=fun _ h=>h.bM);refine aK 6 ?_ (hsub:=fun _ h=>h.bM);refine aK 7 ?_ (hsub:=fun _ h=>h.bM);refine aK 8 ?_ (hsub:=fun _ h=>h.bM);refine aL 9 ?_
       refine aAb (v:=.tuple #[iv x.aZ,iv 0]) 0 (dN hL s (Ts x dv wr (z.tk j).cF (z.tk j).val)) (fun w1 F1 t h1 h2 h3=>by
        have:=aGx hL s x w1 hH aQ hok dv d dB (hw0 dv) qW.2 (z.tk j).cF ⟨Cy,by omega,dO⟩ wr (z.tk j).val mM F1 h1 h2 (eG.le cZ (h3 _ (by simp)))
        rw[if_pos Bi,if_pos Bi,←Bm] at this
        exact this) ?_
       dsimp only[List.set];refine bB ?_ (hS:=fun _ h=>h.bM);refine aL 10 ?_;refine bF ?_;refine bB ?_ (hS:=fun _ h=>h.bM);refine aK 11 ?_ (hsub:=fun _ h=>h.bM);refine aK 12 ?_ (hsub:=fun _ h=>h.bM);refine aL 13 ?_;refine bF ?_;refine bB ?_ (hS:=fun _ h=>h.bM);refine aL 14 ?_;refine bF ?_;refine bB ?_ (hS:=fun _ h=>h.bM);refine dY ?_;refine aT [1,2,3,0,4] rfl (by decide) (fun _ h=>h) ?_;refine aW 2 0 ?_;refine aA ?_;refine eO rfl rfl ?_ (hs:=eL.mk 0 rfl cO.h rfl (of_decide_eq_true rfl));dsimp only[List.set];refine aA ?_;refine eO rfl rfl ?_ (hs:=eL.mk 0 rfl cO.h rfl (of_decide_eq_true rfl));dsimp only[List.set];refine aA ?_;refine aJ 2 0 ?_;refine cQ 2 (fun L:dL=>fY g hL.h f L s {z with aZ:=true,id:=x.aZ}) L ?_;refine aT [2,3,4] rfl (by decide) (fun _ h=>h) ?_;refine aJ 1 0 ?_;refine aJ 0 1 ?_;subst cP;exact bP 0 hF
      ·rw[if_neg Bi];refine aT [3,0,1,2,4] rfl (by decide) (fun _ h=>h) ?_;refine Gq [1,2,3,5,6,7,8,11,12] ?_;refine bJ 0 ?_ (hsub:=fun _ h=>h.bM);refine aK 1 ?_ (hsub:=fun _ h=>h.bM);refine aK 2 ?_ (hsub:=fun _ h=>h.bM);refine aK 3 ?_ (hi:=rfl) (cM:=bH rfl (pF 3 rfl rfl)) (hsub:=fun _ h=>h.bM);refine bJ 4 ?_ (hsub:=fun _ h=>h.bM);refine aK 5 ?_ (hsub:=fun _ h=>h.bM);refine aK 6 ?_ (hsub:=fun _ h=>h.bM);refine aK 7 ?_ (hsub:=fun _ h=>h.bM);refine aK 8 ?_ (hsub:=fun _ h=>h.bM);refine aL 9 ?_
       refine aAb (v:=.tuple #[iv 0,iv 6]) 0 (dN hL s x) (fun w1 F1 t h1 h2 h3=>by
        have:=aGx hL s x w1 hH aQ hok dv d dB (hw0 dv) qW.2 (z.tk j).cF ⟨Cy,by omega,dO⟩ wr (z.tk j).val mM F1 h1 h2 (eG.le cZ (h3 _ (by simp)))
        rw[if_neg Bi,if_neg Bi,←Bm] at this
        exact this) ?_
       dsimp only[List.set];refine bB ?_ (hS:=fun _ h=>h.bM);refine aL 10 ?_;refine bF ?_;refine bB ?_ (hS:=fun _ h=>h.bM);refine aK 11 ?_ (hsub:=fun _ h=>h.bM);refine aK 12 ?_ (hsub:=fun _ h=>h.bM);refine aL 13 ?_;refine bF ?_;refine bB ?_ (hS:=fun _ h=>h.bM);refine aL 14 ?_;refine bF ?_;refine bB ?_ (hS:=fun _ h=>h.bM);refine dY ?_;refine aT [1,2,3,0,4] rfl (by decide) (fun _ h=>h) ?_;refine aA ?_;refine cQ 2 (fun L:dL=>fY g hL.h f L s z) L ?_;refine aT [2,3,4] rfl (by decide) (fun _ h=>h) ?_;refine aJ 1 0 ?_;refine aJ 0 1 ?_;subst cP;exact bP 0 hF
     ·refine iY ?_;rw[if_pos (.inr rfl)];refine aA ?_;refine cQ 2 (fun L:dL=>fY g hL.h f L s z) L ?_;refine aT [2,3,4] rfl (by decide) (fun _ h=>h) ?_;refine aJ 1 0 ?_;refine aJ 0 1 ?_;subst cP;exact bP 0 hF
end
end
section
theorem aAw{P:Program}{fn:FuncId}{args:Array Value}{w:World}{p p' q:HP}{v:Value}{F:Nat→Prop}(h:∀F,p.sat F w→(∀b,F b→b < w.heap.size)→Calls P fn args w fun y w'=>y=.returned v∧∃F',p'.sat F' w'∧iC w w' F F')
  (hp:(HP.many [p,q]).sat F w) (hF:∀b,F b→b < w.heap.size):Calls P fn args w fun y w'=>y=.returned v∧∃F',(HP.many [p',q]).sat F' w'∧iC w w' F F':=by
 obtain⟨G,g1,g2,g3⟩:=hp
 have Dc:=g1 0 p rfl
 have Ij:=g1 1 q rfl
 refine(h (G 0) Dc fun b hb=>hF b (g2 0 b hb)).mono fun y w' ⟨hy,F',h1,ht⟩=>⟨hy,fun b=>F' b∨G 1 b,⟨fun i=>match i with | 0=>F' | 1=>G 1 | _=>fun _=>False,fun i r hr=>?_,fun i b hb=>?_,fun i j b hij hi hj=>?_⟩,⟨ht.os,ht.tape,ht.output,ht.size,fun b hb=>?_,fun b hb hn=>?_⟩⟩
 ·match i,hr with
  | 0,hr=>cases hr;exact h1
  | 1,hr=>cases hr;exact q.loc _ _ _ Ij fun b hb=>ht.old b (hF b (g2 1 b hb)) fun h0=>g3 0 1 b (by decide) h0 hb
  | i+2,hr=>simp at hr
 ·match i,hb with
  | 0,hb=>exact .inl hb
  | 1,hb=>exact .inr hb
  | i+2,hb=>exact hb.elim
 ·have key:∀b,F' b→G 1 b→False:=fun b h0 h2=>by
   rcases(ht.new b h0).1 with h3 | h3
   ·exact g3 0 1 b (by decide) h3 h2
   ·have:=hF b (g2 1 b h2)
    omega
  match i,j,hi,hj with
  | 0,0,_,_=>exact absurd rfl hij
  | 0,1,hi,hj=>exact key b hi hj
  | 1,0,hi,hj=>exact key b hj hi
  | 1,1,_,_=>exact absurd rfl hij
  | i+2,_,hi,_=>exact hi.elim
  | _,j+2,_,hj=>exact hj.elim
 ·rcases hb with hb | hb
  ·refine⟨?_,(ht.new b hb).2⟩;rcases(ht.new b hb).1 with h3 | h3
   ·exact .inl (g2 0 b h3)
   ·exact .inr h3
  ·exact⟨.inl (g2 1 b hb),Nat.lt_of_lt_of_le (hF b (g2 1 b hb)) ht.size⟩
 ·exact ht.old b hb fun h0=>hn (g2 0 b h0)
structure Rr(s:aC)(z:bL):Prop where
 wn:z.wn.of s
 hs:∀j,T3 j→aDW (z.tk j)
structure HwP(s:aC)(x:aU):Prop where
 ok:cX s x
 w0:∀i:Nat,(x.wt[i]?).join=none
 po:0≤x.aZ∧x.aZ≤1000000000
def Dr(s:aC)(x:aU)(z:bL)(j:Nat)(k:Int):Int×bL×aU:=
 if k=103 then((Lx s z j).1,(Lx s z j).2,x) else if k=112 then((Kq s z j).1,(Kq s z j).2,x) else if k=114 then Gl s x z j false else if k=119 then Gl s x z j true else if k=115 then((Kh s z).1,(Kh s z).2,x) else((Ko s z).1,(Ko s z).2,x)
theorem aOO{k:Int}(hk:wP k):∃(tx:TypeId) (u u':Value) (fn:FuncId),Qb k=.iface tx u∧(∀w,(method (Tryz.prog.types.size+Made.depth) tx u "catnap/rpm.begin").run Tryz.prog w=.ok (fn,u') w)∧eX Tryz.prog fn=true∧
  ∀(g f:Nat) (hL:HL) (s:aC) (z:bL) (x:aU) (w:World) (F:Nat→Prop) (j:Nat),s.made→gA hL s→HwP s x→Rr s z→T3 j→(Jr g f hL s z x).sat F w→(∀b,F b→b < w.heap.size)→eG ⟨w,fun b=>b < w.heap.size∧¬F b⟩→
   Cz fn #[u',pt g,.pointer (some ⟨g,10+13*j,none⟩)] w (Wr (iv (Dr s x z j k).1) (Jr g f hL s (Dr s x z j k).2.1 (Dr s x z j k).2.2) w F):=by
 rcases hk with rfl | rfl | rfl | rfl | rfl | rfl
 ·exact⟨_,_,.agg #[],242,rfl,fun w=>by kernel_rfl,(by kernel_rfl),fun g f hL s z x w F j hm aQ hx hz hj hp hF _=>aAw (fun F h1 h2=>aKL g hL.h f s z w F hm hz.wn j hj (hz.hs j hj) h1 h2) hp hF⟩
 ·exact⟨_,_,.agg #[],262,rfl,fun w=>by kernel_rfl,(by kernel_rfl),fun g f hL s z x w F j hm aQ hx hz hj hp hF _=>aAw (fun F h1 h2=>aKI g hL.h f s z w F hm hz.wn j hj (hz.hs j hj) h1 h2) hp hF⟩
 ·exact⟨_,_,.agg #[.bool false],265,rfl,fun w=>by kernel_rfl,(by kernel_rfl),fun g f hL s z x w F j hm aQ hx hz hj hp hF cZ=>aFd g f hL s z x w F hm aQ hx.ok hx.w0 hx.po j hj false hp hF cZ⟩
 ·exact⟨_,_,.agg #[.bool true],265,rfl,fun w=>by kernel_rfl,(by kernel_rfl),fun g f hL s z x w F j hm aQ hx hz hj hp hF cZ=>aFd g f hL s z x w F hm aQ hx.ok hx.w0 hx.po j hj true hp hF cZ⟩
 ·exact⟨_,_,.agg #[],271,rfl,fun w=>by kernel_rfl,(by kernel_rfl),fun g f hL s z x w F j hm aQ hx hz hj hp hF _=>aAw (fun F h1 h2=>aKE g hL.h f s z w F hm hz.wn _ h1 h2) hp hF⟩
 ·exact⟨_,_,.agg #[],273,rfl,fun w=>by kernel_rfl,(by kernel_rfl),fun g f hL s z x w F j hm aQ hx hz hj hp hF _=>aAw (fun F h1 h2=>aKH g hL.h f s z w F hm hz.wn _ h1 h2) hp hF⟩
theorem aGT(s:aC)(x:aU)(z:bL)(j:Nat)(k:Int):(Dr s x z j k).2.1.fM=z.fM:=by
 unfold Dr Lx Kq Kh Ko Gl
 repeat' split
 all_goals rfl
theorem aKP{h f:Nat}{L:dL}{s:aC}{z:bL}{j:Nat}{v:Int}(hj:T3 j):(lK h f L s z).set (10+13*j+0) (iv v)=lK h f L s (z.jP j {z.tk j with st:=v}):=by
 rcases hj with rfl | rfl | rfl<;>rfl
def tM(z:bL)(j:Nat):bL:={z.jP j {z.tk j with st:=2} with fM:=(j:Int)}
theorem aLW{z:bL}{j:Nat}(hj:T3 j):(tM z j).tk j={z.tk j with st:=2}:=by
 rcases hj with rfl | rfl | rfl<;>rfl
theorem aLX{s:aC}{z:bL}{j:Nat}(hj:T3 j)(h:Rr s z):Rr s (tM z j):=⟨h.wn,fun i hi=>by
 have h1:=h.hs i hi
 have h2:((tM z j).tk i).hs=(z.tk i).hs:=by
  rcases hj with rfl | rfl | rfl<;>rcases hi with rfl | rfl | rfl<;>rfl
 exact⟨by rw[h2];exact h1.len,fun k=>by
  have:=h1.bd k
  unfold hG at this⊢;rw[h2]
  exact this⟩⟩
def uH(s:aC)(x:aU)(z:bL)(j:Nat):bL×aU:=
 let r:=Dr s x (tM z j) j (z.tk j).kind
 if r.1≠0 then(pR r.2.1 j r.1 0,r.2.2) else if r.2.1.aZ=false∧r.2.1.steps.length=0 then(pR r.2.1 j 0 0,r.2.2) else r.2
theorem aKR(g f:Nat)(hL:HL)(s:aC)(z:bL)(x:aU)(w:World)(F:Nat→Prop)(j:Nat)(hm:s.made)(aQ:gA hL s)(hx:HwP s x)(hz:Rr s z)(hj:T3 j)(hk:wP (z.tk j).kind)(hp:(Jr g f hL s z x).sat F w)(hF:∀b,F b→b < w.heap.size)(cZ:eG ⟨w,fun b=>b < w.heap.size∧¬F b⟩):
  Cz 133 #[pt g,iv (j:Int)] w (Wr (.tuple #[]) (Jr g f hL s (uH s x z j).1 (uH s x z j).2) w F):=by
 have hj2:j≤2:=by rcases hj with rfl | rfl | rfl<;>decide
 obtain⟨tx,u,u',fn,hy,hme,hcb,yN⟩:=aOO hk
 have lY:=aLX hj hz
 have hh:=aGT s x (tM z j) j (z.tk j).kind
 unfold uH;dsimp only;refine cT func133 ntmps133 hp hF ?_;generalize cP:(⟨w,fun b=>b < w.heap.size∧¬F b⟩:Piece)=R0 at cZ⊢;refine aW 0 0 ?_;refine iT 0 fun L=>?_;refine aW 0 0 ?_;refine aA ?_;refine eO rfl rfl ?_ (hs:=eL.mk 0 rfl cO.h rfl (of_decide_eq_true rfl));dsimp only[List.set];rw[show(lK hL.h f L s z).set (0+49) (iv (j:Int))=lK hL.h f L s {z with fM:=(j:Int)} from rfl];refine aA ?_;refine kd (fG j (10+13*j) (ho:=by omega)) ?_;refine aA ?_;refine eO rfl rfl ?_ (hs:=eL.mk 0 rfl cO.h rfl (by rw[aBE];omega));dsimp only[List.set];rw[aKP hj];refine aJ 0 0 ?_
 change XK _ _ _ _ _ [fY g hL.h f L s (tM z j),HP.many [bX,dN hL s x]]
 refine aA ?_;refine kd (bH rfl (pF 0 rfl (Er (k:=1) hj rfl))) ?_;rw[aLW hj];refine aS (fun w1 _=>aBD (z.tk j).kind w1) ?_;rw[hy];refine cQ 0 (fun L:dL=>fY g hL.h f L s (tM z j)) L ?_;refine aJ 0 0 ?_;refine aA ?_;generalize hr:Dr s x (tM z j) j (z.tk j).kind=r at hh⊢
 refine aJa 0 (Jr g f hL s r.2.1 r.2.2) hcb rfl hme rfl rfl ⟨by decide,rfl⟩ (fun w1 F1 t h1 h2 h3=>by
  have:=yN g f hL s (tM z j) x w1 F1 j hm aQ hx lY hj h1 h2 (eG.le cZ (h3 _ (by simp)))
  rw[hr] at this
  exact this) ?_
 dsimp only[List.set];obtain⟨er,z2,x2⟩:=r;dsimp only at hh⊢;refine aA ?_;refine aG rfl (fun he=>?_) (fun he=>?_)
 ·rw[if_pos he];refine aA ?_;refine kd (iG rfl) ?_;refine aA ?_;refine aW 0 0 ?_;refine bT 0 (jI g hL.h f s (pR z2 j er 0)) (fun w1 F1 t h1 h2 h3=>Km g hL.h f s z2 w1 F1 j hh hj er 0 h1 h2) ?_;refine aJ 0 0 ?_;refine aA ?_;subst cP;exact fA 0 hF
 ·rw[if_neg he];refine aW 0 0 ?_;refine iT 0 fun L2=>?_;refine aA ?_;refine kd (bH rfl (pF 0 rfl rfl)) ?_;cases mM:z2.aZ
  ·refine aA ?_;refine kd (bH rfl (pF 0 rfl rfl)) ?_;refine aA ?_;refine cQ 0 (fun L:dL=>fY g hL.h f L s z2) L2 ?_;refine aG rfl (fun hn=>?_) (fun hn=>?_)
   ·rw[if_pos ⟨rfl,Int.ofNat.inj hn⟩];refine aA ?_;refine kd (iG rfl) ?_;refine aA ?_;refine bT 0 (jI g hL.h f s (pR z2 j 0 0)) (fun w1 F1 t h1 h2 h3=>Km g hL.h f s z2 w1 F1 j hh hj 0 0 h1 h2) ?_;refine aJ 0 0 ?_;subst cP;exact fA 0 hF
   ·rw[if_neg (fun h=>hn (congrArg Int.ofNat h.2))];refine aA ?_;refine aJ 0 0 ?_;subst cP;exact fA 0 hF
  ·refine aA ?_;rw[if_neg (by simp)];refine cQ 0 (fun L:dL=>fY g hL.h f L s z2) L2 ?_;refine aJ 0 0 ?_;subst cP;exact fA 0 hF
end
section
def Ga(k:Int):Value:=
 if k=117 then .func (.func 138) #[] #[] else if k=100∨k=107 then .func (.func 139) #[] #[]
 else if k=99 then .func (.func 140) #[] #[] else if k=111 then .func (.func 141) #[] #[]
 else if k=114 then .func (.func 142) #[] #[] else .func (.func 143) #[] #[]
theorem aGZ(k:Int)(w:World):Cz 91 #[.int .u8 k] w (Rt (Ga k) w):=by
 refine aO func91 ntmps91 ?_;refine aA ?_;refine aG rfl (fun h1=>?_) (fun h1=>?_)
 ·refine aA ?_;exact dH (by rw[Ga,if_pos h1])
 refine aA ?_;refine aG rfl (fun h2=>?_) (fun h2=>?_)
 ·refine aA ?_;refine aG rfl (fun _=>?_) (fun h=>absurd h2 h);refine aA ?_;exact dH (by rw[Ga,if_neg h1,if_pos (.inl h2)])
 refine aA ?_;refine aG rfl (fun h3=>?_) (fun h3=>?_)
 ·refine aA ?_;exact dH (by rw[Ga,if_neg h1,if_pos (.inr h3)])
 have h23:¬(k=100∨k=107):=by omega
 refine aA ?_;refine aG rfl (fun h4=>?_) (fun h4=>?_)
 ·refine aA ?_;exact dH (by rw[Ga,if_neg h1,if_neg h23,if_pos h4])
 refine aA ?_;refine aG rfl (fun h5=>?_) (fun h5=>?_)
 ·refine aA ?_;exact dH (by rw[Ga,if_neg h1,if_neg h23,if_neg h4,if_pos h5])
 refine aA ?_;refine aG rfl (fun h6=>?_) (fun h6=>?_)
 ·refine aA ?_;exact dH (by rw[Ga,if_neg h1,if_neg h23,if_neg h4,if_neg h5,if_pos h6])
 refine aA ?_;exact dH (by rw[Ga,if_neg h1,if_neg h23,if_neg h4,if_neg h5,if_neg h6])
theorem aCl{P:Program}{fn:Func}{R:Ending→World→Prop}(hr:fn.results=#[]){t1 t2:Array Value}:∀(ds:List Deferred) (u:FrameMode) (w:World),Leaves P fn t1 R ds u w→Leaves P fn t2 R ds u w
 | [],.returning,w,h=>by
  obtain⟨v,h1,h2⟩:=h;rw[results_none hr] at h1;cases h1;exact⟨_,results_none hr _ _ _,h2⟩
 | [],.panicking _,_,h=>h
 | [],.run,_,h=>h
 | d::ds,u,w,h=>by
  obtain⟨h1,fv,cap,f,args,h2,h3,h4⟩:=h;refine⟨h1,fv,cap,f,args,h2,h3,h4.mono fun y u' w' hy=>?_⟩;cases y with
  | returned v=>exact aCl hr ds _ _ hy
  | panicked c=>exact aCl hr ds _ _ hy
  | outgrown=>exact hy
theorem lM{P:Program}{fn:Func}{R:Ending→World→Prop}{c:List PanicEntry}{a:Act}{d:Option Nat}{v:Value}{w:World}(hr:fn.results=#[])(h:bodyPostD P fn R (.panic c) (a.put d v) w):bodyPostD P fn R (.panic c) a w:=by
 have hd:(a.put d v).defers=a.defers:=by cases d<;>rfl
 have h2:Leaves P fn (a.put d v).tmps R (a.put d v).defers (.panicking c) w:=h
 rw[hd] at h2;exact aCl hr _ _ _ h2
def aEi(f:Nat)(hL:HL)(s:aC)(z:cJ)(x:aU)(r:aU×Bool):Prop:=
 ∃fn:FuncId,Ga z.kind=.func (.func fn) #[] #[]∧eX Tryz.prog fn=true∧cX s r.1∧∀(w:World) (F:Nat→Prop),(gI f hL s z x).sat F w→(∀b,F b→b < w.heap.size)→eG ⟨w,fun b=>b < w.heap.size∧¬F b⟩→
  Cz fn #[pt f,iv z.id] w (Wr (.bool r.2) (gI f hL s z r.1) w F)
def Fv(s:aC)(z:cJ)(r:aU×Bool):cJ:=if r.2 then yH s r.1 {z with at_:= -1} z.at_.toNat 0 else z
section
variable(f:Nat)(hL:HL)(s:aC)(z:cJ)(x:aU)(w:World)
theorem aOq(hH:s.dK)(aQ:gA hL s)(hok:cX s x)(hz:Ee s z)(a:Nat)(ha:z.at_=(a:Int))(Bf:a < 2)(r:aU×Bool)(hact:aEi f hL s z x r)(Cx:tA (kB z a))(F:Nat→Prop)(hp:(gI f hL s z x).sat F w)(hF:∀b,F b→b < w.heap.size)(cZ:eG ⟨w,fun b=>b < w.heap.size∧¬F b⟩):
  Cz 36 #[pt f] w (Wr (.tuple #[]) (gI f hL s (Fv s z r) r.1) w F):=by
 obtain⟨fn,cM,hcb,Us,yN⟩:=hact;refine aAY (vs:=[pt f]) (p:=gI f hL s z x) func36 rfl ntmps36 (by simp) hp hF ?_;generalize cP:(⟨w,fun b=>b < w.heap.size∧¬F b⟩:Piece)=R0 at cZ⊢;refine aA ?_;refine Yl (f:=89) (fi:=[]) (ca:=[]) rfl ?_;refine aA ?_;refine kd (bH rfl (Gx 0 rfl fun _=>rfl)) ?_;refine aA ?_;refine cG (t:=8) rfl (fun h=>absurd h (by omega)) (fun _=>?_);refine aA ?_;refine iZ [1,2,3,4,8,9,10,11] ?_;refine bJ 0 ?_ (hQ:=fun _ _ _ h=>lM rfl h);refine bJ 6 ?_ (hQ:=fun _ _ _ h=>lM rfl h);refine bJ 7 ?_ (hQ:=fun _ _ _ h=>lM rfl h);refine aK 1 ?_ (hQ:=fun _ _ _ h=>lM rfl h);refine aK 2 ?_ (hQ:=fun _ _ _ h=>lM rfl h);refine aK 3 ?_ (hQ:=fun _ _ _ h=>lM rfl h);refine aK 4 ?_ (hQ:=fun _ _ _ h=>lM rfl h) (cM:=bH rfl (Gx 0 rfl fun _=>rfl));refine aK 8 ?_ (hQ:=fun _ _ _ h=>lM rfl h);refine aK 9 ?_ (hQ:=fun _ _ _ h=>lM rfl h);refine aK 10 ?_ (hQ:=fun _ _ _ h=>lM rfl h);refine aK 11 ?_ (hQ:=fun _ _ _ h=>lM rfl h) (cM:=bH rfl (Gx 0 rfl fun _=>rfl));refine aL 5 ?_;refine aS (fun w1 t=>aGZ z.kind w1) ?_;rw[cM];refine bB ?_;refine aL 12 ?_;refine aAa 0 (fi:=[]) (ca:=[]) (gI f hL s z r.1) (fun w1 F1 t h1 h2 h3=>by simpa using yN w1 F1 h1 h2 (eG.le cZ (h3 _ (by simp)))) ?_ (hf:=hcb);dsimp only[List.set];refine cI ?_;refine dY ?_;refine aA ?_;obtain⟨x',b⟩:=r;dsimp only at Us⊢;cases b
 ·refine aA ?_;subst cP;exact Bv (.inr rfl) (by kernel_rfl) Vw rfl fun w1 t=>⟨rfl,t.turns hF (by simp) (i:=0) rfl⟩
 ·refine aA ?_;refine kd (bH rfl (Gx 0 rfl fun _=>rfl)) ?_;refine aA ?_;refine aW 0 0 ?_;refine iT 0 fun L=>?_;refine aW 0 0 ?_;refine eO rfl rfl ?_ (hs:=eL.mk 0 rfl cO.h rfl (by simp[jH]));dsimp only[List.set];rw[show(jH hL.h L s z).set (0+16) (iv (-1))=jH hL.h L s {z with at_:= -1} from rfl];refine aJ 0 0 ?_;refine cQ 0 (fun L:fQ=>iF f hL.h L s {z with at_:= -1}) L ?_;refine aJ 0 0 ?_;refine aA ?_;rw[ha];refine bT 0 (gI f hL s (yH s x' {z with at_:= -1} a 0) x') (fun w1 F1 t h1 h2 h3=>aCR f hL s {z with at_:= -1} x' hH aQ Us a Bf 0 (fun _=>Cx) w1 F1 h1 h2) ?_;refine aA ?_
  have hend:Fv s z (x',true)=yH s x' {z with at_:= -1} a 0:=by
   unfold Fv;rw[if_pos rfl,ha];rfl
  rw[hend];subst cP;exact Bv (.inr rfl) (by kernel_rfl) Vw rfl fun w1 t=>⟨rfl,t.turns hF (by simp) (i:=0) rfl⟩
end
end
section
def Ii(s:aC)(d:Int)(k:Nat)(p:dU×fD):dU×fD:=match s.aD[k]? with
 | some dv=>if dv.domain=d then(p.1,if p.2.at_=3 then(nX p.2).2 else if p.2.at_=0 then(sO p.2).2 else p.2) else p
 | none=>p
def lZ(s:aC)(x:aU)(d:Int)(n:Nat):List (dU×fD):=x.dv.mapIdx fun k p=>if k < n then Ii s d k p else p
def Zg(s:aC)(x:aU)(d:Int)(k:Nat):Bool:=match s.aD[k]?,x.dv[k]? with
 | some dv,some p=> !decide (dv.domain=d)||decide (p.2.at_=2)
 | _,_=>true
def Lb(s:aC)(x:aU)(d:Int)(n:Nat):Bool:=(List.range n).all (Zg s x d)
theorem aNg(s:aC)(x:aU)(d:Int)(n:Nat):Lb s x d (n+1)=(Lb s x d n&&Zg s x d n):=by simp[Lb,List.range_succ]
theorem aQI{x:fD}(h:zH x):zH (sO x).2:=by
 unfold sO;split
 ·exact h
 ·exact⟨by show(0:Int)≤1;omega,by show(1:Int)≤3;omega⟩
theorem aCt{s:aC}{x:aU}(hH:s.dK)(hok:cX s x)(d:Int)(n:Nat):cX s {x with dv:=lZ s x d n}:=Tv hH hok (by simp[lZ]) fun i e p hd hp=>by
 rw[lZ,List.getElem?_mapIdx] at hp;cases hq:x.dv[i]? with
 | none=>rw[hq] at hp;cases hp
 | some q =>
  rw[hq] at hp;obtain⟨h1,h2⟩:=hok.each i e q hd hq;simp only[Option.map_some,Option.some.injEq] at hp;subst hp;split
  ·unfold Ii;rw[hd];dsimp only;split
   ·refine⟨h1,?_⟩;dsimp only;split
    ·exact aFQ h2
    ·split
     ·exact aQI h2
     ·exact h2
   ·exact⟨h1,h2⟩
  ·exact⟨h1,h2⟩
variable(f:Nat)(hL:HL)(s:aC)(z:cJ)(x:aU)(w:World)
theorem aOx(hH:s.dK)(aQ:gA hL s)(hok:cX s x)(d:Int)(F:Nat→Prop)(hp:(gI f hL s z x).sat F w)(hF:∀b,F b→b < w.heap.size)(cZ:eG ⟨w,fun b=>b < w.heap.size∧¬F b⟩):
  Cz 176 #[pt f,iv d] w (Wr (.bool (Lb s x d s.aD.length)) (gI f hL s z {x with dv:=lZ s x d s.aD.length}) w F):=by
 have qW:=hH.t.nv
 have lC:=hok.dv
 refine cT func176 ntmps176 hp hF ?_;generalize cP:(⟨w,fun b=>b < w.heap.size∧¬F b⟩:Piece)=R0 at cZ⊢;refine aW 0 0 ?_;refine iT 0 fun L=>?_;refine aW 1 1 ?_;refine aA ?_;refine kd (bH rfl (Rd.eC 1 rfl rfl)) ?_;refine aA ?_
 have hm0:lZ s x d 0=x.dv:=Og _ _
 refine bN [(15,iv (0)),(14,iv s.aD.length),(13,.slice L.a4.1 s.aD.length L.a4.2),(5,.bool true),(0,pt f),(1,iv d)] ?_;refine eV (fun m e R H=>∃(i:Nat) (b:Bool),i≤s.aD.length∧m=s.aD.length - i∧b=Lb s x d i∧e=[(15,iv (i:Int)),(14,iv s.aD.length),(13,.slice L.a4.1 s.aD.length L.a4.2),(5,.bool b),(0,pt f),(1,iv d)]∧R=[R0]∧H=[dN hL s {x with dv:=lZ s x d i},iF f hL.h L s z,HP.many [bX,bX]]) s.aD.length ⟨0,true,by omega,rfl,rfl,rfl,rfl,by rw[hm0]⟩ fun m e R H hI=>?_;obtain⟨i,b0,hi,rfl,hb0,rfl,rfl,rfl⟩:=hI
 have mN:=aCt hH hok d i
 refine aA ?_;refine aG rfl (fun hlt=>?_) (fun hge=>?_)
 ·have hlt:i < s.aD.length:=by omega
  obtain⟨dv,dB⟩:=get_some hlt;obtain⟨p,gE⟩:=get_some (l:=x.dv) (i:=i) (by omega)
  have kO:(lZ s x d i)[i]? =some p:=Oi gE
  have hstep:(lZ s x d i).set i (Ii s d i p)=lZ s x d (i+1):=Oh (f:=Ii s d) gE
  have dD:=aNg s x d i
  have Ur:Zg s x d i=(!decide (dv.domain=d)||decide (p.2.at_=2)):=by
   unfold Zg;rw[dB,gE]
  rw[Ur,←hb0] at dD;obtain⟨q1,q2⟩:=(mN.each i dv p dB kO).2;refine aHU 1 rfl (by omega) fun b off hA=>?_;refine aA ?_;refine kd (dat i (off+i*6) (hx:=by rw[←hA];rfl)) ?_;refine aEq 6 (aEc dv) rfl (fun w1 t=>aGJ (t.Dp 1 rfl) hA dB) ?_;rintro _ ⟨A,n,k,A',n',k',rfl⟩;refine bY fun g1=>?_;refine aA ?_;refine aG rfl (fun he=>?_) (fun he=>?_)
  ·have mY:Ii s d i p=p:=by
    unfold Ii;rw[dB];exact if_neg he
   rw[mY,wI kO] at hstep;rw[hstep];refine aA ?_;refine aT [1,2,3] rfl (by decide) (fun _ h=>h) ?_;refine bN [(15,iv ((i+1:Nat):Int)),(14,iv s.aD.length),(13,.slice L.a4.1 s.aD.length L.a4.2),(5,.bool b0),(0,pt f),(1,iv d)] ?_;exact gP (s.aD.length - (i+1)) (by omega) ⟨i+1,b0,hlt,rfl,by rw[dD,decide_eq_false he];simp,rfl,rfl,rfl⟩
  ·have he:dv.domain=d:=by simpa using he
   rw[decide_eq_true he] at dD
   have hst:wD {x with dv:=lZ s x d i} i=oM p.2.at_:=by
    unfold wD;dsimp only;rw[kO];rfl
   have mY:Ii s d i p=(p.1,if p.2.at_=3 then(nX p.2).2 else if p.2.at_=0 then(sO p.2).2 else p.2):=by
    unfold Ii;rw[dB];exact if_pos he
   refine aA ?_;refine kd (bH rfl (Rd.eC 2 rfl rfl)) ?_;refine aA ?_;refine aS (fun w1 t=>aGv hL s _ w1 aQ mN i hlt (cZ.at_ (t.le (by simp))) (t.mA 1 rfl aQ mN)) ?_;rw[hst]
   have hq4:p.2.at_=0∨p.2.at_=1∨p.2.at_=2∨p.2.at_=3:=by omega
   rcases hq4 with ha | ha | ha | ha<;>rw[ha] at mY dD⊢ <;>cases b0
   ·rw[show oM 0=114 from rfl];refine aA ?_;refine kd (bH rfl (Rd.eC 2 rfl rfl)) ?_;refine aA ?_;refine vQ (α:=Int) 1 (f:=207) (fi:=[]) (ca:=[]) (fun r=>iv r) (fun _=>dN hL s (Gh {x with dv:=lZ s x d i} i)) (fun _=>True) (by kernel_rfl) rfl rfl rfl (by decide) (fun w1 F1 t h1 h2 h3=>aG0 hL s _ w1 hH aQ mN i hlt F1 h1 h2) ?_;rintro _ _;dsimp only[List.set]
    have hX:Gh {x with dv:=lZ s x d i} i={x with dv:=lZ s x d (i+1)}:=by
     unfold Gh;dsimp only;rw[kO,←hstep,mY];rfl
    rw[hX];refine aA ?_;refine aT [1,2,3] rfl (by decide) (fun _ h=>h) ?_;refine bN [(15,iv ((i+1:Nat):Int)),(14,iv s.aD.length),(13,.slice L.a4.1 s.aD.length L.a4.2),(5,.bool false),(0,pt f),(1,iv d)] ?_;exact gP (s.aD.length - (i+1)) (by omega) ⟨i+1,false,hlt,rfl,by rw[dD];rfl,rfl,rfl,rfl⟩
   ·rw[show oM 0=114 from rfl];refine aA ?_;refine kd (bH rfl (Rd.eC 2 rfl rfl)) ?_;refine aA ?_;refine vQ (α:=Int) 1 (f:=207) (fi:=[]) (ca:=[]) (fun r=>iv r) (fun _=>dN hL s (Gh {x with dv:=lZ s x d i} i)) (fun _=>True) (by kernel_rfl) rfl rfl rfl (by decide) (fun w1 F1 t h1 h2 h3=>aG0 hL s _ w1 hH aQ mN i hlt F1 h1 h2) ?_;rintro _ _;dsimp only[List.set]
    have hX:Gh {x with dv:=lZ s x d i} i={x with dv:=lZ s x d (i+1)}:=by
     unfold Gh;dsimp only;rw[kO,←hstep,mY];rfl
    rw[hX];refine aA ?_;refine aT [1,2,3] rfl (by decide) (fun _ h=>h) ?_;refine bN [(15,iv ((i+1:Nat):Int)),(14,iv s.aD.length),(13,.slice L.a4.1 s.aD.length L.a4.2),(5,.bool false),(0,pt f),(1,iv d)] ?_;exact gP (s.aD.length - (i+1)) (by omega) ⟨i+1,false,hlt,rfl,by rw[dD];rfl,rfl,rfl,rfl⟩
   ·rw[show oM 1=97 from rfl];rw[mY,show(if(1:Int)=3 then(nX p.2).2 else if(1:Int)=0 then(sO p.2).2 else p.2)=p.2 from rfl,wI kO] at hstep;rw[hstep];refine aA ?_;refine aT [1,2,3] rfl (by decide) (fun _ h=>h) ?_;refine bN [(15,iv ((i+1:Nat):Int)),(14,iv s.aD.length),(13,.slice L.a4.1 s.aD.length L.a4.2),(5,.bool false),(0,pt f),(1,iv d)] ?_;exact gP (s.aD.length - (i+1)) (by omega) ⟨i+1,false,hlt,rfl,by rw[dD];rfl,rfl,rfl,rfl⟩
   ·rw[show oM 1=97 from rfl];rw[mY,show(if(1:Int)=3 then(nX p.2).2 else if(1:Int)=0 then(sO p.2).2 else p.2)=p.2 from rfl,wI kO] at hstep;rw[hstep];refine aA ?_;refine aT [1,2,3] rfl (by decide) (fun _ h=>h) ?_;refine bN [(15,iv ((i+1:Nat):Int)),(14,iv s.aD.length),(13,.slice L.a4.1 s.aD.length L.a4.2),(5,.bool false),(0,pt f),(1,iv d)] ?_;exact gP (s.aD.length - (i+1)) (by omega) ⟨i+1,false,hlt,rfl,by rw[dD];rfl,rfl,rfl,rfl⟩
   ·rw[show oM 2=115 from rfl];rw[mY,show(if(2:Int)=3 then(nX p.2).2 else if(2:Int)=0 then(sO p.2).2 else p.2)=p.2 from rfl,wI kO] at hstep;rw[hstep];refine aA ?_;refine aT [1,2,3] rfl (by decide) (fun _ h=>h) ?_;refine bN [(15,iv ((i+1:Nat):Int)),(14,iv s.aD.length),(13,.slice L.a4.1 s.aD.length L.a4.2),(5,.bool false),(0,pt f),(1,iv d)] ?_;exact gP (s.aD.length - (i+1)) (by omega) ⟨i+1,false,hlt,rfl,by rw[dD];rfl,rfl,rfl,rfl⟩
   ·rw[show oM 2=115 from rfl];rw[mY,show(if(2:Int)=3 then(nX p.2).2 else if(2:Int)=0 then(sO p.2).2 else p.2)=p.2 from rfl,wI kO] at hstep;rw[hstep];refine aA ?_;refine aT [1,2,3] rfl (by decide) (fun _ h=>h) ?_;refine bN [(15,iv ((i+1:Nat):Int)),(14,iv s.aD.length),(13,.slice L.a4.1 s.aD.length L.a4.2),(5,.bool true),(0,pt f),(1,iv d)] ?_;exact gP (s.aD.length - (i+1)) (by omega) ⟨i+1,true,hlt,rfl,by rw[dD];rfl,rfl,rfl,rfl⟩
   ·rw[show oM 3=100 from rfl];refine aA ?_;refine kd (bH rfl (Rd.eC 2 rfl rfl)) ?_;refine aA ?_;refine vQ (α:=Int) 1 (f:=175) (fi:=[]) (ca:=[]) (fun r=>iv r) (fun _=>dN hL s (yJ {x with dv:=lZ s x d i} i)) (fun _=>True) (by kernel_rfl) rfl rfl rfl (by decide) (fun w1 F1 t h1 h2 h3=>aCB hL s _ w1 hH aQ mN i hlt F1 h1 h2) ?_;rintro _ _;dsimp only[List.set]
    have hX:yJ {x with dv:=lZ s x d i} i={x with dv:=lZ s x d (i+1)}:=by
     unfold yJ;dsimp only;rw[kO,←hstep,mY];rfl
    rw[hX];refine aA ?_;refine aT [1,2,3] rfl (by decide) (fun _ h=>h) ?_;refine bN [(15,iv ((i+1:Nat):Int)),(14,iv s.aD.length),(13,.slice L.a4.1 s.aD.length L.a4.2),(5,.bool false),(0,pt f),(1,iv d)] ?_;exact gP (s.aD.length - (i+1)) (by omega) ⟨i+1,false,hlt,rfl,by rw[dD];rfl,rfl,rfl,rfl⟩
   ·rw[show oM 3=100 from rfl];refine aA ?_;refine kd (bH rfl (Rd.eC 2 rfl rfl)) ?_;refine aA ?_;refine vQ (α:=Int) 1 (f:=175) (fi:=[]) (ca:=[]) (fun r=>iv r) (fun _=>dN hL s (yJ {x with dv:=lZ s x d i} i)) (fun _=>True) (by kernel_rfl) rfl rfl rfl (by decide) (fun w1 F1 t h1 h2 h3=>aCB hL s _ w1 hH aQ mN i hlt F1 h1 h2) ?_;rintro _ _;dsimp only[List.set]
    have hX:yJ {x with dv:=lZ s x d i} i={x with dv:=lZ s x d (i+1)}:=by
     unfold yJ;dsimp only;rw[kO,←hstep,mY];rfl
    rw[hX];refine aA ?_;refine aT [1,2,3] rfl (by decide) (fun _ h=>h) ?_;refine bN [(15,iv ((i+1:Nat):Int)),(14,iv s.aD.length),(13,.slice L.a4.1 s.aD.length L.a4.2),(5,.bool false),(0,pt f),(1,iv d)] ?_;exact gP (s.aD.length - (i+1)) (by omega) ⟨i+1,false,hlt,rfl,by rw[dD];rfl,rfl,rfl,rfl⟩
 obtain rfl:i=s.aD.length:=by omega
 rw[←hb0];refine aA ?_;refine aJ 1 1 ?_;refine cQ 0 (fun L:fQ=>iF f hL.h L s z) L ?_;refine aJ 0 0 ?_;subst cP;exact bP 0 hF
theorem aOz(hH:s.dK)(aQ:gA hL s)(hok:cX s x)(c:Int)(F:Nat→Prop)(hp:(gI f hL s z x).sat F w)(hF:∀b,F b→b < w.heap.size):
  Cz 141 #[pt f,iv c] w (Wr (.bool true) (gI f hL s z {x with ck:=(lN s x.ck c false).2}) w F):=by
 refine cT func141 ntmps141 hp hF ?_;generalize cP:(⟨w,fun b=>b < w.heap.size∧¬F b⟩:Piece)=R0;refine aW 0 0 ?_;refine iT 0 fun L=>?_;refine aW 1 1 ?_;refine aA ?_;refine kd (bH rfl (Rd.eC 1 rfl rfl)) ?_;refine aA ?_;refine bT 0 (dN hL s {x with ck:=(lN s x.ck c false).2}) (fun w1 F1 t h1 h2 h3=>aGz hL s x w1 hH aQ hok c false F1 h1 h2) ?_;refine aA ?_;refine aJ 1 1 ?_;refine cQ 0 (fun L:fQ=>iF f hL.h L s z) L ?_;refine aJ 0 0 ?_;subst cP;exact bP 0 hF
def Ks(s:aC)(x:aU)(d:Int)(keep:Bool):aU×Bool:=
 if rX x.dm d=49 then(if Lb s x d s.aD.length then {x with dv:=lZ s x d s.aD.length,dm:=(xE s x.dm d keep).2} else {x with dv:=lZ s x d s.aD.length},false)
 else if rX x.dm d=48∨rX x.dm d=116 then(x,true) else(x,false)
theorem aGF(hH:s.dK)(aQ:gA hL s)(hok:cX s x)(d:Int)(F:Nat→Prop)(hp:(gI f hL s z x).sat F w)(hF:∀b,F b→b < w.heap.size)(cZ:eG ⟨w,fun b=>b < w.heap.size∧¬F b⟩):
  Cz 139 #[pt f,iv d] w (Wr (.bool (Ks s x d (decide (z.kind=107))).2) (gI f hL s z (Ks s x d (decide (z.kind=107))).1) w F):=by
 refine cT func139 ntmps139 hp hF ?_;generalize cP:(⟨w,fun b=>b < w.heap.size∧¬F b⟩:Piece)=R0 at cZ⊢;refine aW 0 0 ?_;refine iT 0 fun L=>?_;refine aW 1 1 ?_;refine aA ?_;refine kd (bH rfl (Rd.eC 1 rfl rfl)) ?_;refine aA ?_;refine aS (fun w1 t=>aCA hL s x w1 hok.dm d (t.mA 0 rfl aQ hok)) ?_;unfold Ks;generalize Da:rX x.dm d=ph
 by_cases Lv:ph=49
 ·subst Lv;rw[if_pos rfl];refine aJ 1 1 ?_;refine cQ 0 (fun L:fQ=>iF f hL.h L s z) L ?_;refine aJ 0 0 ?_;refine aA ?_;refine bT 0 (gI f hL s z {x with dv:=lZ s x d s.aD.length}) (fun w1 F1 t h1 h2 h3=>aOx f hL s z x w1 hH aQ hok d F1 h1 h2 (eG.le cZ (h3 _ (by simp)))) ?_
  have mO:=aCt hH hok d s.aD.length
  cases hb:Lb s x d s.aD.length
  ·refine aA ?_;subst cP;exact bP 0 hF
  ·refine aA ?_;refine aW 0 0 ?_;refine iT 0 fun L2=>?_;refine aW 1 1 ?_;refine iZ [1,2,3,6,7,8,9,10] ?_;refine bJ 0 ?_;refine bJ 4 ?_;refine bJ 5 ?_;refine aK 1 ?_;refine aK 2 ?_;refine aK 3 ?_ (cM:=bH rfl (Rd.eC 1 rfl rfl));refine aK 6 ?_;refine aK 7 ?_;refine aK 8 ?_;refine aK 9 ?_ (cM:=bH rfl (Rd.eC 1 rfl rfl));refine aK 10 ?_;refine aL 11 ?_;refine bT 0 (dN hL s {x with dv:=lZ s x d s.aD.length,dm:=(xE s x.dm d (decide (z.kind=107))).2}) (fun w1 F1 t h1 h2 h3=>aND hL s _ w1 hH aQ mO d _ F1 h1 h2) ?_;refine cI ?_;refine dY ?_;refine aA ?_;refine aJ 1 1 ?_;refine cQ 0 (fun L:fQ=>iF f hL.h L s z) L2 ?_;refine aJ 0 0 ?_;subst cP;exact bP 0 hF
 ·rw[if_neg Lv]
  by_cases h48:ph=48
  ·subst h48;rw[if_pos (.inl rfl)];refine aA ?_;refine aJ 1 1 ?_;refine cQ 0 (fun L:fQ=>iF f hL.h L s z) L ?_;refine aJ 0 0 ?_;subst cP;exact bP 0 hF
  by_cases Vt:ph=116
  ·subst Vt;rw[if_pos (.inr rfl)];refine aA ?_;refine aJ 1 1 ?_;refine cQ 0 (fun L:fQ=>iF f hL.h L s z) L ?_;refine aJ 0 0 ?_;subst cP;exact bP 0 hF
  rw[if_neg (by omega)];refine aA ?_;refine aG rfl (fun h=>absurd h Lv) (fun _=>?_);refine aA ?_;refine aG rfl (fun h=>absurd h h48) (fun _=>?_);refine aA ?_;refine aG rfl (fun h=>absurd h Vt) (fun _=>?_);refine aA ?_;refine aJ 1 1 ?_;refine cQ 0 (fun L:fQ=>iF f hL.h L s z) L ?_;refine aJ 0 0 ?_;subst cP;exact bP 0 hF
end
section
def Jf(s:aC)(i:Int)(k:Nat)(p:dU×fD):dU×fD:=match s.aD[k]? with
 | some d=>if d.reset=i then(Dv d p.1,p.2) else p
 | none=>p
def Gf(s:aC)(dv:List (dU×fD))(i:Int)(n:Nat):List (dU×fD):=dv.mapIdx fun k p=>if k < n then Jf s i k p else p
def Jh(s:aC)(x:aU)(i:Int):aU:=if bZ x.ln.length i then {x with ln:=(rA s x.ln i).2,dv:=Gf s x.dv i s.aD.length} else x
theorem aH8{s:aC}{st:List jX}(hH:s.dK)(h:Ed s st)(i:Int):Ed s (rA s st i).2:=by
 unfold rA;split
 ·exact h
 ·refine⟨by simp[h.len],fun y hy=>?_⟩;rcases List.mem_or_eq_of_mem_set hy with hy | rfl
  ·exact h.left y hy
  ·cases hq:s.aY[i.toNat]? with
   | none=>simp
   | some r=>
    have:=hH.aY r (List.mem_of_getElem? hq)
    simpa using this
theorem aQd{d:cH}{f:dU}(hr:∀r∈d.aR,0≤r.reset∧r.reset≤6)(h:xS d f):xS d (Dv d f):=aHo 108 hr h
theorem aHu{s:aC}{x:aU}(hH:s.dK)(hok:cX s x)(i:Int)(n:Nat):cX s {x with dv:=Gf s x.dv i n}:=Tv hH hok (by simp[Gf]) fun k d p hd hp=>by
 rw[Gf,List.getElem?_mapIdx] at hp;cases hq:x.dv[k]? with
 | none=>rw[hq] at hp;cases hp
 | some q =>
  rw[hq] at hp;obtain⟨h1,h2⟩:=hok.each k d q hd hq;simp only[Option.map_some,Option.some.injEq] at hp;subst hp;split
  ·unfold Jf;rw[hd];dsimp only;split
   ·exact⟨aQd (hH.t.aD k d hd).2.2.2.2.2.2.2.2.2.1 h1,h2⟩
   ·exact⟨h1,h2⟩
  ·exact⟨h1,h2⟩
theorem aQH{s:aC}{x:aU}(hH:s.dK)(hok:cX s x)(i:Int):cX s (Jh s x i):=by
 unfold Jh;split
 ·have h:=aHu hH hok i s.aD.length
  exact⟨hok.ck,hok.dm,aH8 hH hok.ln i,h.dv,h.each,hok.wt⟩
 ·exact hok
section
variable(L:HL)(s:aC)(x:aU)(w:World)
theorem aNF(hH:s.dK)(aQ:gA L s)(hok:cX s x)(i:Int)(F:Nat→Prop)(hp:(dN L s x).sat F w)(hF:∀b,F b→b < w.heap.size):
  Cz 182 #[.pointer (some ⟨L.h,0,none⟩),iv i] w (Wr (iv (rA s x.ln i).1) (dN L s (Jh s x i)) w F):=by
 have qW:=hH.t.nv
 have hls:=aQ.ds
 refine cT func182 ntmps182 hp hF ?_;generalize cP:(⟨w,fun b=>b < w.heap.size∧¬F b⟩:Piece)=R0;refine aA ?_;refine aS (fun w1 t=>Ba L s x w1 (t.mA 0 rfl aQ hok)) ?_;refine aA ?_;refine kd (bH rfl (pG 0 rfl rfl)) ?_;refine aA ?_;refine aW 0 3 ?_;refine bT 0 (oH L.R s (rA s x.ln i).2) (fun w1 F1 t h1 h2 h3=>aKC L.R s x.ln hok.ln i w1 F1 h1 h2) ?_;refine aJ 0 3 ?_;unfold Jh;cases hin:bZ x.ln.length i
 ·have e:rA s x.ln i=(4,x.ln):=by
   unfold rA;rw[if_pos hin]
  rw[e];refine aA ?_;subst cP;exact bP 0 hF
 ·have e1:(rA s x.ln i).1=0:=by
   unfold rA;rw[if_neg (by simp[hin])]
  rw[e1,if_pos rfl]
  have mO:cX s {x with ln:=(rA s x.ln i).2}:=⟨hok.ck,hok.dm,aH8 hH hok.ln i,hok.dv,hok.each,hok.wt⟩
  generalize De:(rA s x.ln i).2=ln2 at mO⊢
  change XK _ _ _ _ _ [dN L s {x with ln:=ln2}]
  have lC:=hok.dv
  refine aA ?_;refine kd (bH rfl (pG 0 rfl rfl)) ?_;refine aA ?_
  have hm0:Gf s x.dv i 0=x.dv:=Og _ _
  refine bN [(25,iv 0),(24,iv s.aD.length),(23,.slice L.A s.aD.length L.c),(1,iv i)] ?_;refine eV (fun m e R H=>∃k:Nat,k≤s.aD.length∧m=s.aD.length - k∧e=[(25,iv k),(24,iv s.aD.length),(23,.slice L.A s.aD.length L.c),(1,iv i)]∧R=[R0]∧H=[dN L s {x with ln:=ln2,dv:=Gf s x.dv i k}]) s.aD.length ⟨0,by omega,rfl,rfl,rfl,by rw[hm0]⟩ fun m e R H hI=>?_;obtain⟨k,hk,rfl,rfl,rfl,rfl⟩:=hI
  have mN:=aHu hH mO i k
  dsimp only at mN;refine aA ?_;refine aG rfl (fun hlt=>?_) (fun hge=>?_)
  ·have hlt:k < s.aD.length:=by omega
   obtain⟨d,dB⟩:=get_some hlt;obtain⟨l,iA⟩:=get_some (l:=L.ds) (i:=k) (by omega);obtain⟨p,gE⟩:=get_some (l:=x.dv) (i:=k) (by omega)
   have kO:(Gf s x.dv i k)[k]? =some p:=Oi gE
   have hstep:(Gf s x.dv i k).set k (Jf s i k p)=Gf s x.dv i (k+1):=Oh (f:=Jf s i) gE
   have hfo:=(mN.each k d p dB kO).1
   refine Mm 0 rfl aQ mN (by omega) fun b off hA=>?_;refine aA ?_;refine kd (dat k (off+k*6) (hx:=by rw[←hA];rfl)) ?_;refine kd (jM rfl (aM.dev 0 rfl aQ mN hA dB iA rfl)) ?_;refine bY fun g2=>?_;refine aA ?_;refine aG rfl (fun he=>?_) (fun he=>?_)
   ·have mY:Jf s i k p=(Dv d p.1,p.2):=by
     unfold Jf;rw[dB];exact if_pos he
    refine aA ?_;refine Rb 1 k rfl dB iA kO ?_;dsimp only[List.set];refine aW 0 0 ?_;refine bT 0 (gQ l.1 d (Dv d p.1)) (fun w1 F1 t h1 h2 h3=>Ze l.1 d p.1 (by have:=(hH.t.aD k d dB).2.2.2.2.2.2.2.2.1;omega) hfo w1 F1 h1 h2) ?_;refine aJ 0 0 ?_;refine Rj 1 k rfl dB iA kO (p':=(Dv d p.1,p.2)) ?_;dsimp only[List.set];rw[←mY,hstep];refine aA ?_;refine aT [1] rfl (by decide) (fun _ h=>h) ?_;exact eR (s.aD.length - (k+1)) ⟨k+1,hlt,rfl,rfl,rfl,rfl⟩
   ·have mY:Jf s i k p=p:=by
     unfold Jf;rw[dB];exact if_neg he
    rw[mY,wI kO] at hstep;rw[hstep];refine aA ?_;refine aT [1] rfl (by decide) (fun _ h=>h) ?_;exact eR (s.aD.length - (k+1)) ⟨k+1,hlt,rfl,rfl,rfl,rfl⟩
  obtain rfl:k=s.aD.length:=by omega
  refine aA ?_;subst cP;exact bP 0 hF
end
theorem aO1(f:Nat)(hL:HL)(s:aC)(z:cJ)(x:aU)(w:World)(hH:s.dK)(aQ:gA hL s)(hok:cX s x)(c:Int)(F:Nat→Prop)(hp:(gI f hL s z x).sat F w)(hF:∀b,F b→b < w.heap.size):
  Cz 143 #[pt f,iv c] w (Wr (.bool true) (gI f hL s z (Jh s x c)) w F):=by
 refine cT func143 ntmps143 hp hF ?_;generalize cP:(⟨w,fun b=>b < w.heap.size∧¬F b⟩:Piece)=R0;refine aW 0 0 ?_;refine iT 0 fun L=>?_;refine aW 1 1 ?_;refine aA ?_;refine kd (bH rfl (Rd.eC 1 rfl rfl)) ?_;refine aA ?_;refine bT 0 (dN hL s (Jh s x c)) (fun w1 F1 t h1 h2 h3=>aNF hL s x w1 hH aQ hok c F1 h1 h2) ?_;refine aA ?_;refine aJ 1 1 ?_;refine cQ 0 (fun L:fQ=>iF f hL.h L s z) L ?_;refine aJ 0 0 ?_;subst cP;exact bP 0 hF
end
section
def Jk(s:aC)(x:aU)(k id:Int):aU×Bool:=if k=117 then Oa s x id else if k=99 then Wu s x id.toNat else if k=114 then Nv x id else if k=100∨k=107 then Ks s x id (decide (k=107)) else if k=111 then({x with ck:=(lN s x.ck id false).2},true) else if k=97 then(Jh s x id,true) else(x,false)
structure Mz(s:aC)(k id:Int):Prop where
 kd:k=117∨k=99∨k=114∨k=100∨k=107∨k=111∨k=97
 c:k=99→0≤id∧id < (s.aF.length:Int)
theorem aLd{s:aC}{st:List jX}(h:Ed s st)(i:Int):Ed s (wJ st i).2:=by
 unfold wJ;split
 ·exact h
 ·split
  ·rename_i x hx
   split
   ·exact h
   ·refine⟨by simp[h.len],fun y hy=>?_⟩;rcases List.mem_or_eq_of_mem_set hy with hy | rfl
    ·exact h.left y hy
    ·exact h.left x (List.mem_of_getElem? hx)
  ·exact h
theorem aPa{s:aC}{st:List fU}(h:tF s st)(d:Int)(keep:Bool):tF s (xE s st d keep).2:=by
 unfold xE;split
 ·exact h
 ·split
  ·rename_i c y hc hy
   split
   ·exact h
   ·split
    ·exact h
    ·split
     ·exact h
     ·refine⟨by simp[h.len],fun z hz=>?_,fun z hz=>?_⟩
      ·rcases List.mem_or_eq_of_mem_set hz with hz | rfl
       ·exact h.left z hz
       ·exact h.left y (List.mem_of_getElem? hy)
      ·rcases List.mem_or_eq_of_mem_set hz with hz | rfl
       ·exact h.phase z hz
       ·exact⟨by show(0:Int)≤99;omega,by show(99:Int) < 256;omega⟩
  ·exact h
theorem aL6{s:aC}{x:aU}(hH:s.dK)(hok:cX s x)(d:Int)(keep:Bool):cX s (Ks s x d keep).1:=by
 have h1:=aCt hH hok d s.aD.length
 unfold Ks;split
 ·dsimp only;split
  ·exact⟨hok.ck,aPa hok.dm _ _,hok.ln,h1.dv,h1.each,hok.wt⟩
  ·exact h1
 ·split
  ·exact hok
  ·exact hok
theorem aDx{s:aC}{x:aU}(hH:s.dK)(hok:cX s x)(k id:Int):cX s (Jk s x k id).1:=by
 unfold Jk;split
 ·unfold Oa;split
  ·exact⟨hok.ck,aJA hH hok.dm _,hok.ln,hok.dv,hok.each,hok.wt⟩
  ·split
   ·exact aFR hH hok _ _
   ·exact hok
 ·split
  ·exact⟨aBS hH hok.ck _ _,hok.dm,hok.ln,hok.dv,hok.each,hok.wt⟩
  ·split
   ·unfold Nv;split
    ·exact⟨hok.ck,hok.dm,aLd hok.ln _,hok.dv,hok.each,hok.wt⟩
    ·exact hok
   ·split
    ·exact aL6 hH hok _ _
    ·split
     ·exact⟨aBS hH hok.ck _ _,hok.dm,hok.ln,hok.dv,hok.each,hok.wt⟩
     ·split
      ·exact aQH hH hok _
      ·exact hok
section
variable(f:Nat)(hL:HL)(s:aC)(z:cJ)(x:aU)(w:World)
theorem aHL(hH:s.dK)(aQ:gA hL s)(hok:cX s x)(hk:Mz s z.kind z.id):aEi f hL s z x (Jk s x z.kind z.id):=by
 have mO:=aDx hH hok z.kind z.id
 rcases hk.kd with h | h | h | h | h | h | h
 ·refine⟨_,by rw[h];rfl,(by kernel_rfl),mO,fun w F hp hF cZ=>?_⟩;rw[h];exact aOt f hL s z x w hH aQ hok z.id F hp hF cZ
 ·refine⟨_,by rw[h];rfl,(by kernel_rfl),mO,fun w F hp hF cZ=>?_⟩;obtain⟨h0,h1⟩:=hk.c h;obtain⟨c,hc⟩:∃c:Nat,z.id=c:=⟨z.id.toNat,by omega⟩
  rw[h,hc];exact aOy f hL s z x w hH aQ hok c (by omega) F hp hF
 ·refine⟨_,by rw[h];rfl,(by kernel_rfl),mO,fun w F hp hF cZ=>?_⟩;rw[h];exact aOs f hL s z x w hH aQ hok z.id F hp hF
 ·refine⟨_,by rw[h];rfl,(by kernel_rfl),mO,fun w F hp hF cZ=>?_⟩
  have:=aGF f hL s z x w hH aQ hok z.id F hp hF cZ
  rw[h] at this⊢;exact this
 ·refine⟨_,by rw[h];rfl,(by kernel_rfl),mO,fun w F hp hF cZ=>?_⟩
  have:=aGF f hL s z x w hH aQ hok z.id F hp hF cZ
  rw[h] at this⊢;exact this
 ·refine⟨_,by rw[h];rfl,(by kernel_rfl),mO,fun w F hp hF cZ=>?_⟩;rw[h];exact aOz f hL s z x w hH aQ hok z.id F hp hF
 ·refine⟨_,by rw[h];rfl,(by kernel_rfl),mO,fun w F hp hF cZ=>?_⟩;rw[h];exact aO1 f hL s z x w hH aQ hok z.id F hp hF
theorem aOo(z0:cJ)(hH:s.dK)(aQ:gA hL s)(hok:cX s x)(hz:Ee s z0)(eY:z0.at_ < 0)(pN:nF s x z0=(z,true))(hst:∀a,sC z0=some a→(gH s x z0 a).2.1=0→(gH s x z0 a).1=0→tA (kB z0 a))(a:Nat)(ha:z.at_=(a:Int))(Bf:a < 2)(r:aU×Bool)(hact:aEi f hL s z x r)(Cx:tA (kB z a))(F:Nat→Prop)(hp:(gI f hL s z0 x).sat F w)(hF:∀b,F b→b < w.heap.size)(cZ:eG ⟨w,fun b=>b < w.heap.size∧¬F b⟩):
  Cz 36 #[pt f] w (Wr (.tuple #[]) (gI f hL s (Fv s z r) r.1) w F):=by
 obtain⟨fn,cM,hcb,Us,yN⟩:=hact;refine aAY (vs:=[pt f]) (p:=gI f hL s z0 x) func36 rfl ntmps36 (by simp) hp hF ?_;generalize cP:(⟨w,fun b=>b < w.heap.size∧¬F b⟩:Piece)=R0 at cZ⊢;refine aA ?_;refine Yl (f:=89) (fi:=[]) (ca:=[]) rfl ?_;refine aA ?_;refine kd (bH rfl (Gx 0 rfl fun _=>rfl)) ?_;refine aA ?_;refine cG (t:=8) rfl (fun _=>?_) (fun h=>absurd eY h);refine aA ?_
 refine bT 0 (gI f hL s z x) (fun w1 F1 t h1 h2 h3=>by
  have:=aGD f hL s z0 x hH aQ hok hz hst w1 F1 h1 h2
  rw[pN] at this
  exact this) ?_
 refine aA ?_;refine iZ [1,2,3,4,8,9,10,11] ?_;refine bJ 0 ?_ (hQ:=fun _ _ _ h=>lM rfl h);refine bJ 6 ?_ (hQ:=fun _ _ _ h=>lM rfl h);refine bJ 7 ?_ (hQ:=fun _ _ _ h=>lM rfl h);refine aK 1 ?_ (hQ:=fun _ _ _ h=>lM rfl h);refine aK 2 ?_ (hQ:=fun _ _ _ h=>lM rfl h);refine aK 3 ?_ (hQ:=fun _ _ _ h=>lM rfl h);refine aK 4 ?_ (hQ:=fun _ _ _ h=>lM rfl h) (cM:=bH rfl (Gx 0 rfl fun _=>rfl));refine aK 8 ?_ (hQ:=fun _ _ _ h=>lM rfl h);refine aK 9 ?_ (hQ:=fun _ _ _ h=>lM rfl h);refine aK 10 ?_ (hQ:=fun _ _ _ h=>lM rfl h);refine aK 11 ?_ (hQ:=fun _ _ _ h=>lM rfl h) (cM:=bH rfl (Gx 0 rfl fun _=>rfl));refine aL 5 ?_;refine aS (fun w1 t=>aGZ z.kind w1) ?_;rw[cM];refine bB ?_;refine aL 12 ?_;refine aAa 0 (fi:=[]) (ca:=[]) (gI f hL s z r.1) (fun w1 F1 t h1 h2 h3=>by simpa using yN w1 F1 h1 h2 (eG.le cZ (h3 _ (by simp)))) ?_ (hf:=hcb);dsimp only[List.set];refine cI ?_;refine dY ?_;refine aA ?_;obtain⟨x',b⟩:=r;dsimp only at Us⊢;cases b
 ·refine aA ?_;subst cP;exact Bv (.inr rfl) (by kernel_rfl) Vw rfl fun w1 t=>⟨rfl,t.turns hF (by simp) (i:=0) rfl⟩
 ·refine aA ?_;refine kd (bH rfl (Gx 0 rfl fun _=>rfl)) ?_;refine aA ?_;refine aW 0 0 ?_;refine iT 0 fun L=>?_;refine aW 0 0 ?_;refine eO rfl rfl ?_ (hs:=eL.mk 0 rfl cO.h rfl (by simp[jH]));dsimp only[List.set];rw[show(jH hL.h L s z).set (0+16) (iv (-1))=jH hL.h L s {z with at_:= -1} from rfl];refine aJ 0 0 ?_;refine cQ 0 (fun L:fQ=>iF f hL.h L s {z with at_:= -1}) L ?_;refine aJ 0 0 ?_;refine aA ?_;rw[ha];refine bT 0 (gI f hL s (yH s x' {z with at_:= -1} a 0) x') (fun w1 F1 t h1 h2 h3=>aCR f hL s {z with at_:= -1} x' hH aQ Us a Bf 0 (fun _=>Cx) w1 F1 h1 h2) ?_;refine aA ?_
  have hend:Fv s z (x',true)=yH s x' {z with at_:= -1} a 0:=by
   unfold Fv;rw[if_pos rfl,ha];rfl
  rw[hend];subst cP;exact Bv (.inr rfl) (by kernel_rfl) Vw rfl fun w1 t=>⟨rfl,t.turns hF (by simp) (i:=0) rfl⟩
def wB(s:aC)(x:aU)(z:cJ):cJ×aU:=
 let t:=nF s x z
 let z1:=if z.at_ < 0 then t.1 else z
 if z.at_ < 0∧t.2=false then(t.1,x) else(Fv s z1 (Jk s x z1.kind z1.id),(Jk s x z1.kind z1.id).1)
structure aIq(s:aC)(x:aU)(z:cJ):Prop where
 hok:cX s x
 fm:Ee s z
 at_:z.at_ < 0∨(∃a:Nat,z.at_=(a:Int)∧a < 2∧Mz s z.kind z.id∧tA (kB z a))
 ask:z.at_ < 0→∀a,sC z=some a→(gH s x z a).2.1=0→(gH s x z a).1=0→tA (kB z a)
 new:z.at_ < 0→∀a,sC z=some a→(gH s x z a).2.1≠0→Mz s (gH s x z a).2.1 (gH s x z a).2.2∧tA (kB z a)
theorem aF7{z:cJ}{a:Nat}(h:z.last=0∨z.last=1)(hn:sC z=some a):a < 2:=by
 unfold sC at hn;split at hn
 ·cases hn;omega
 ·split at hn
  ·cases hn;omega
  ·cases hn
theorem aOp(hH:s.dK)(aQ:gA hL s)(h:aIq s x z)(F:Nat→Prop)(hp:(gI f hL s z x).sat F w)(hF:∀b,F b→b < w.heap.size)(cZ:eG ⟨w,fun b=>b < w.heap.size∧¬F b⟩):
  Cz 36 #[pt f] w (Wr (.tuple #[]) (gI f hL s (wB s x z).1 (wB s x z).2) w F):=by
 unfold wB;dsimp only
 by_cases eY:z.at_ < 0
 ·cases pN:(nF s x z).2
  ·rw[if_pos ⟨eY,rfl⟩];exact aOr f hL s z x hH aQ h.hok h.fm (h.ask eY) eY pN w F hp hF
  ·rw[if_neg (by simp),if_pos eY]
   have lY:nF s x z=((nF s x z).1,true):=Prod.ext rfl pN
   have aNO:∃a,sC z=some a∧(gH s x z a).2.1≠0∧(nF s x z).1=(wA s x z a).1:=by
    unfold nF at pN⊢;cases hn:sC z with
    | none=>rw[hn] at pN;cases pN
    | some a=>
     rw[hn] at pN;refine⟨a,rfl,fun h0=>?_,rfl⟩;unfold wA at pN;dsimp only at pN;rw[if_pos h0] at pN;cases pN
   obtain⟨a,hn,hd,he⟩:=aNO
   have ha:=aF7 h.fm.la hn
   obtain⟨hk,Cx⟩:=h.new eY a hn hd
   have e:(wA s x z a).1={z with last:=a,x:=lH z.x a (gH s x z a).2.1 (gH s x z a).2.2,y:=lG z.y a (gH s x z a).2.1 (gH s x z a).2.2,at_:=a,kind:=(gH s x z a).2.1,id:=(gH s x z a).2.2}:=by
    unfold wA;dsimp only;rw[if_neg hd]
   rw[e] at he
   have hb:kB (nF s x z).1 a=kB z a:=by rw[he];rfl
   have h1:(nF s x z).1.at_=(a:Int):=by rw[he]
   have h2:(nF s x z).1.kind=(gH s x z a).2.1:=by rw[he]
   have h3:(nF s x z).1.id=(gH s x z a).2.2:=by rw[he]
   exact aOo f hL s (nF s x z).1 x w z hH aQ h.hok h.fm eY lY (h.ask eY) a h1 ha _ (aHL f hL s (nF s x z).1 x hH aQ h.hok (by rw[h2,h3];exact hk)) (by rw[hb];exact Cx) F hp hF cZ
 ·rw[if_neg (fun hh=>eY hh.1),if_neg eY];rcases h.at_ with h1 | ⟨a,ha,Bf,hk,Cx⟩
  ·exact absurd h1 eY
  ·exact aOq f hL s z x w hH aQ h.hok h.fm a ha Bf _ (aHL f hL s z x hH aQ h.hok hk) Cx F hp hF cZ
end
end
section
theorem aJV(A:Option Addr)(n c:Nat)(l:List Int)(st:Int)(w:World)(hs:aI (all w) 1 A n (dV l))(hn:n=l.length)(h2:2≤n)(h1:l[1]? =some st):
  Cz 12 #[.slice A n c] w (Rt (.tuple #[.int .i32 (IntKind.i32.wrap st),iv 0]) w):=by
 subst hn;obtain⟨b,off,rfl,hr⟩:=aI.u32 hs (by omega)
 have k1:=hr 1 st h1
 refine aO func12 ntmps12 ?_;refine aA ?_;refine aG rfl (fun h=>absurd h (by omega)) (fun _=>?_);refine aA ?_;refine kd (dat 1 (off+1)) ?_;refine aA ?_;refine kd (Jd (ds:=.int .u32) (kd:=.i32) (c:=IntKind.i32.wrap st) (by kernel_rfl) (by kernel_rfl) rfl rfl) ?_;refine aA ?_;exact fS rfl rfl rfl fun w1 t=>⟨rfl,t.below (by simp)⟩
end
section
def aDS(g h f:Nat)(s:aC)(z:bL)(y:cJ):HP:=HP.many [jI g h f s z,Bz f h s y]
def vU(p:fC)(k:Int):List Int:=[(gZ p.msg 0 p.pr k).1,p.id,p.v]
def Hr(a:List Int):Prop:=IntKind.i32.wrap (a.getD 1 0)=0∨IntKind.i32.wrap (a.getD 1 0)= -3
instance(a:List Int):Decidable (Hr a):=by unfold Hr;infer_instance
def rT(z:bL)(a:List Int):bL:=if Hr a then {z with sent:=false,steps:=z.steps.tail} else {z with sent:=false}
theorem aEC{z:bL}{a:List Int}(h:Hr a):rT z a={z with sent:=false,steps:=z.steps.tail}:=if_pos h
theorem aJL{z:bL}{a:List Int}(h:¬Hr a):rT z a={z with sent:=false}:=if_neg h
def sQ(z:bL)(y:cJ)(j:Nat):bL×cJ:=
 if z.sent=true then
  match mK y 0 with
  | none=>(z,lW y 0)
  | some a=>(if(rT z a).steps.length=0 then pR (rT z a) j 0 0 else rT z a,lW y 0)
 else
  match z.steps with
  | []=>(z,y)
  | p::_=>if(jZ y 0 (vU p z.many)).1=0 then({z with sent:=true,many:=(z.many+1) % 1024},(jZ y 0 (vU p z.many)).2) else(z,(jZ y 0 (vU p z.many)).2)
theorem aFb{h f:Nat}{L:dL}{s:aC}{z:bL}{p:fC}{tl:List fC}{A:Option Addr}{c:Nat}(hst:z.steps=p::tl):(lK h f L s z).set 50 (.slice A (z.steps.length - 1) c)=lK h f {L with st:=(A,c)} s {z with steps:=z.steps.tail}:=by
 obtain⟨cn,wn,t0,t1,t2,fM,steps,sent,aZ,id,many⟩:=z;dsimp only at hst;subst hst;rfl
theorem aI.aOZ{p:Piece}{sz n k:Nat}{A A':Option Addr}{xs:List Value}(h:aI p sz A n xs)(hk:k≤n)(hA:k < n→∀b off,A=some ⟨b,off,none⟩→A'=some ⟨b,off+k*sz,none⟩):aI p sz A' (n - k) (xs.drop (k*sz)):=by
 refine⟨by rw[List.length_drop,h.1,Nat.sub_mul],fun h0=>?_⟩;obtain⟨b,off,Pr,hz,hc⟩:=h.2 (by omega);refine⟨b,off+k*sz,hA (by omega) b off Pr,hz,fun j u hu=>?_⟩;rw[List.getElem?_drop] at hu;rw[Nat.add_assoc];exact hc _ u hu
theorem aHZ{N:cE}{w0:World}{e:Env}{R:List Piece}{H:List HP}{K:Act→World→Prop}(i:Nat){b:Nat}{t:TypeId}{cs cs':List Value}(hi:H[i]? =some (HP.aE b t cs))(he:cs=cs')(k:XK N w0 K e R (H.set i (HP.aE b t cs'))):XK N w0 K e R H:=by
 subst he;obtain⟨hlt,hx⟩:=List.getElem?_eq_some_iff.1 hi;rw[←hx,List.set_getElem_self hlt] at k;exact k
def Fz(L:dL):dL:={L with st:=(if L.st.2=1 then L.st.1 else L.st.1.map (·.add (1*4)),L.st.2 - 1)}
theorem nC.tail{L:dL}{p:fC}{l tl:List fC}{q:Piece}(hl:l=p::tl)(h:nC L l q):nC (Fz L) l.tail q:=by
 subst hl;obtain⟨h1,h2⟩:=h;simp only[List.length_cons] at h2;refine⟨h1.aOZ (k:=1) (by simp) fun hlt b off hA=>?_,by simp only[List.tail_cons,Fz];omega⟩;simp only[List.length_cons] at hlt;unfold Fz;dsimp only;rw[if_neg (by omega),hA];rfl
section
variable(g h f:Nat)(s:aC)(z:bL)(y:cJ)(w:World)(F:Nat→Prop)
theorem aKT(j:Nat)(hh:z.fM=(j:Int))(hj:T3 j)(hne:z.steps≠[])(hmy:0≤z.many∧z.many < 1024)(hpk:∀p∈z.steps,(gZ p.msg 0 p.pr z.many).2=0)(hra:∀a,mK y 0=some a→2≤a.length)(hp:(aDS g h f s z y).sat F w)(hF:∀b,F b→b < w.heap.size):
  Cz 134 #[pt g] w (fun v w'=>v=.returned (.tuple #[])∧∃F',(aDS g h f s (sQ z y j).1 (sQ z y j).2).sat F' w'∧iC w w' F F'):=by
 obtain⟨p,tl,hst⟩:=List.exists_cons_of_ne_nil hne
 have tY:z.steps.length=tl.length+1:=by rw[hst];rfl
 refine cT func134 ntmps134 hp hF ?_;generalize cP:(⟨w,fun b=>b < w.heap.size∧¬F b⟩:Piece)=R0;refine aW 0 0 ?_;refine iT 0 fun L=>?_;refine aW 0 0 ?_;refine aW 1 5 ?_;refine aW 3 1 ?_;refine aA ?_;cases hse:z.sent
 ·have Vq:sQ z y j=if(jZ y 0 (vU p z.many)).1=0 then({z with sent:=true,many:=(z.many+1) % 1024},(jZ y 0 (vU p z.many)).2) else(z,(jZ y 0 (vU p z.many)).2):=by
   unfold sQ;rw[if_neg (by rw[hse];simp),hst]
  rw[Vq]
  have aNp:=hpk p (by rw[hst];simp)
  have hfm:z.steps.flatMap fC.cells=p.cells++tl.flatMap fC.cells:=by rw[hst];rfl
  refine aA ?_;refine aD6 (A:=L.st.1) (sz:=4) (n:=z.steps.length) (xs:=z.steps.flatMap fC.cells) 1 rfl (fun _ h=>h.1) (by omega) fun b off hA=>?_;refine iZ [1,2,3,4,5,7,8,9,12,13] ?_;refine bJ 0 ?_;refine aK 1 ?_;refine aK 2 ?_;refine aK 3 ?_;refine aK 4 ?_ (hi:=rfl) (cM:=dat 0 off (hx:=by rw[←hA];rfl) (hj:=rfl));refine aK 5 ?_ (hi:=rfl) (cM:=jM rfl (aM.of (vs:=p.cells) fun i v hv=>Rd.bU 1 rfl (fun _ h=>h.1) hA (by omega) (by rw[hfm,List.getElem?_append_left (List.getElem?_eq_some_iff.1 hv).1];exact hv)));refine bJ 6 ?_;refine aK 7 ?_;refine aK 8 ?_;refine aK 9 ?_;refine aL 10 ?_;refine kA [] (aBl (vU p z.many)) (fun w1 t=>aJn p.pr p.msg p.id p.v z.many w1 aNp) ?_;rintro _ w1 q1 ⟨Am,cm,rfl,yM⟩ hf _ _
  have yM:=yM.le hf
  clear hf;refine bB ?_;refine aL 11 ?_;refine bF ?_;refine bB ?_;refine aK 12 ?_;refine aK 13 ?_;refine aL 14 ?_;refine bF ?_;refine bB ?_;refine aL 15 ?_;refine bF ?_;refine bB ?_;refine dY ?_;refine aA ?_;refine bT 0 (Bz f h s (jZ y 0 (vU p z.many)).2) (fun w1 F1 t h1 h2 h3=>aGE f h s y 0 Am _ cm (vU p z.many) w1 F1 h1 h2 (yM.le (h3 _ (by simp))) rfl (by simp[vU])) ?_;refine aA ?_;refine aG rfl (fun h0=>?_) (fun h0=>?_)
  ·rw[if_pos h0];refine aA ?_;refine eO rfl rfl ?_ (hs:=eL.mk 2 rfl cO.h rfl (of_decide_eq_true rfl));dsimp only[List.set];rw[show(lK h f L s z).set (0+51) (.bool true)=lK h f L s {z with sent:=true} from rfl];refine aA ?_;refine kd (Mg (i:=z.many) (j:=1) (c:=z.many+1) rfl rfl (iW (by omega))) ?_;refine kd (aHc (i:=z.many+1) (j:=1024) (c:=(z.many+1) % 1024) rfl rfl (by decide) (rem_in (by omega))) ?_;refine aA ?_;refine eO rfl rfl ?_ (hs:=eL.mk 2 rfl cO.h rfl (of_decide_eq_true rfl));dsimp only[List.set];rw[show(lK h f L s {z with sent:=true}).set (0+54) (iv ((z.many+1) % 1024))=lK h f L s {z with sent:=true,many:=(z.many+1) % 1024} from rfl];refine aA ?_;refine aJ 3 1 ?_;refine aJ 1 5 ?_;refine aJ 0 0 ?_;refine cQ 0 (fun L:dL=>fY g h f L s {z with sent:=true,many:=(z.many+1) % 1024}) L ?_;refine aJ 0 0 ?_;subst cP;exact fA 0 hF
  ·rw[if_neg h0];refine aA ?_;refine aJ 3 1 ?_;refine aJ 1 5 ?_;refine aJ 0 0 ?_;refine cQ 0 (fun L:dL=>fY g h f L s z) L ?_;refine aJ 0 0 ?_;subst cP;exact fA 0 hF
 ·cases hr:mK y 0 with
  | none =>
   have Vq:sQ z y j=(z,lW y 0):=by
    unfold sQ;rw[if_pos hse,hr]
   rw[Vq];refine aA ?_
   refine vQ (α:=AC) 0 (f:=39) (fi:=[]) (ca:=[]) (fun c=>Nx none c) (fun c=>Es f h s (lW y 0) [] c) (fun _=>True) (by kernel_rfl) rfl rfl rfl (by decide) (fun w1 F1 t h1 h2 h3=>by
    have:=aCS f h s y 0 w1 F1 h1 h2
    rw[hr] at this
    exact this) ?_
   rintro⟨Ar,cr⟩ _;dsimp only[List.set,Nx];refine aW 0 0 ?_;refine aT [0,2,3,4,5] rfl (by decide) (fun _ h=>h) ?_;refine aA ?_;refine aJ 3 1 ?_;refine aJ 1 5 ?_;refine aJ 0 0 ?_;refine cQ 0 (fun L:dL=>fY g h f L s z) L ?_;refine aJ 0 0 ?_;subst cP;exact fA 0 hF
  | some a =>
   have Vq:sQ z y j=(if(rT z a).steps.length=0 then pR (rT z a) j 0 0 else rT z a,lW y 0):=by
    unfold sQ;rw[if_pos hse,hr]
   rw[Vq]
   have Bf:=hra a hr
   have ha1:a[1]? =some (a.getD 1 0):=by rw[List.getD_eq_getElem?_getD,List.getElem?_eq_getElem (by omega)];rfl
   refine aA ?_
   refine vQ (α:=AC) 0 (f:=39) (fi:=[]) (ca:=[]) (fun c=>Nx (some a) c) (fun c=>Es f h s (lW y 0) a c) (fun _=>True) (by kernel_rfl) rfl rfl rfl (by decide) (fun w1 F1 t h1 h2 h3=>by
    have:=aCS f h s y 0 w1 F1 h1 h2
    rw[hr] at this
    exact this) ?_
   rintro⟨Ar,cr⟩ _;dsimp only[List.set,Nx];refine aW 0 0 ?_;refine aW 1 1 ?_;refine aT [1,3,4,5,6,0] rfl (by decide) (fun _ h=>h) ?_;refine aA ?_;refine eO rfl rfl ?_ (hs:=eL.mk 2 rfl cO.h rfl (of_decide_eq_true rfl));dsimp only[List.set];refine aA ?_;refine aS (fun w1 t=>aJV Ar _ cr a _ w1 (t.bU 5 rfl) rfl Bf ha1) ?_;generalize tS:IntKind.i32.wrap (a.getD 1 0)=sv;rw[show(lK h f L s z).set (0+51) (.bool false)=lK h f L s {z with sent:=false} from rfl];refine aA ?_;refine cG (t:=73) rfl (fun h0=>?_) (fun h0=>?_)
   ·rw[aEC (show Hr a from .inl (tS.trans h0))];refine aA ?_;refine kd (aHa (n:=z.steps.length) (l:=1) rfl rfl (by omega)) ?_;refine aA ?_;refine eO rfl rfl ?_ (hs:=eL.mk 2 rfl cO.h rfl (of_decide_eq_true rfl));dsimp only[List.set];refine aHZ 2 rfl (aFb (z:={z with sent:=false}) hst) ?_;dsimp only[List.set];refine oA (q:=HP.bU (nC (Fz L) z.steps.tail) (nC.le (L:=Fz L) (l:=z.steps.tail))) 1 rfl (fun F w hs=>nC.tail hst hs) ?_;dsimp only[List.set];refine aA ?_;refine aJ 3 1 ?_;refine aJ 1 5 ?_;refine aJ 0 0 ?_;refine uJ 0 (f:=fun L:dL=>fY g h f L s {z with sent:=false,steps:=z.steps.tail}) (Fz L) rfl ?_;dsimp only[List.set];refine aA ?_;refine aG rfl (fun hn=>?_) (fun hn=>?_)
    ·rw[if_pos (Int.ofNat.inj hn)];refine aA ?_;refine kd (iG rfl) ?_;refine aA ?_;refine bT 0 (jI g h f s (pR {z with sent:=false,steps:=z.steps.tail} j 0 0)) (fun w1 F1 t h1 h2 h3=>Km g h f s {z with sent:=false,steps:=z.steps.tail} w1 F1 j hh hj 0 0 h1 h2) ?_;refine aJ 0 0 ?_;subst cP;exact fA 0 hF
    ·rw[if_neg (fun h=>hn (congrArg Int.ofNat h))];refine aA ?_;refine aJ 0 0 ?_;subst cP;exact fA 0 hF
   ·refine aA ?_;refine aG rfl (fun h3=>?_) (fun h3=>?_)
    ·rw[aEC (show Hr a from .inr (tS.trans h3))];refine aA ?_;refine kd (aHa (n:=z.steps.length) (l:=1) rfl rfl (by omega)) ?_;refine aA ?_;refine eO rfl rfl ?_ (hs:=eL.mk 2 rfl cO.h rfl (of_decide_eq_true rfl));dsimp only[List.set];refine aHZ 2 rfl (aFb (z:={z with sent:=false}) hst) ?_;dsimp only[List.set];refine oA (q:=HP.bU (nC (Fz L) z.steps.tail) (nC.le (L:=Fz L) (l:=z.steps.tail))) 1 rfl (fun F w hs=>nC.tail hst hs) ?_;dsimp only[List.set];refine aA ?_;refine aJ 3 1 ?_;refine aJ 1 5 ?_;refine aJ 0 0 ?_;refine uJ 0 (f:=fun L:dL=>fY g h f L s {z with sent:=false,steps:=z.steps.tail}) (Fz L) rfl ?_;dsimp only[List.set];refine aA ?_;refine aG rfl (fun hn=>?_) (fun hn=>?_)
     ·rw[if_pos (Int.ofNat.inj hn)];refine aA ?_;refine kd (iG rfl) ?_;refine aA ?_;refine bT 0 (jI g h f s (pR {z with sent:=false,steps:=z.steps.tail} j 0 0)) (fun w1 F1 t h1 h2 h3=>Km g h f s {z with sent:=false,steps:=z.steps.tail} w1 F1 j hh hj 0 0 h1 h2) ?_;refine aJ 0 0 ?_;subst cP;exact fA 0 hF
     ·rw[if_neg (fun h=>hn (congrArg Int.ofNat h))];refine aA ?_;refine aJ 0 0 ?_;subst cP;exact fA 0 hF
    ·rw[aJL (show ¬Hr a from fun h=>h.elim (fun h=>h0 (tS▸h)) (fun h=>h3 (tS▸h)))];refine aA ?_;refine aJ 3 1 ?_;refine aJ 1 5 ?_;refine aJ 0 0 ?_;refine cQ 0 (fun L:dL=>fY g h f L s {z with sent:=false}) L ?_;refine aA ?_;refine aG rfl (fun hn=>?_) (fun hn=>?_)
     ·rw[if_pos (Int.ofNat.inj hn)];refine aA ?_;refine kd (iG rfl) ?_;refine aA ?_;refine bT 0 (jI g h f s (pR {z with sent:=false} j 0 0)) (fun w1 F1 t h1 h2 h3=>Km g h f s {z with sent:=false} w1 F1 j hh hj 0 0 h1 h2) ?_;refine aJ 0 0 ?_;subst cP;exact fA 0 hF
     ·rw[if_neg (fun h=>hn (congrArg Int.ofNat h))];refine aA ?_;refine aJ 0 0 ?_;subst cP;exact fA 0 hF
end
end
section
theorem Nu(w:World):CallsD Tryz.prog 132 #[] .returning w fun e u' w'=>e=.returned (.tuple #[])∧u'=.returning∧w'=w:=by
 refine callsD_of_wpS func132 rfl fun c₀ cs hu=>?_;apply wpS_region;simp[wpOpsS,go_sem,recoverD,hu,ntmps132,Exit.thenS];cases c₀;simp_all [bodyPostS,results,Tryz.results132]
def aBf(g f:Nat)(hL:HL)(s:aC)(z:bL)(y:cJ)(x:aU):HP:=HP.many [jI g hL.h f s z,Bz f hL.h s y,dN hL s x]
structure aIv(s:aC)(z:bL)(y:cJ):Prop where
 ok:Rr s z
 call:∀j,T3 j→(z.tk j).st=1→wP (z.tk j).kind
 work:∀j:Nat,T3 j→(z.tk j).st=2→z.fM=(j:Int)∧(z.aZ=false→z.steps≠[])
 many:0≤z.many∧z.many < 1024
 pack:∀p∈z.steps,(gZ p.msg 0 p.pr z.many).2=0
 ans:∀a,mK y 0=some a→2≤a.length
def Ho(s:aC)(z:bL)(y:cJ)(x:aU)(t:Int):bL×cJ×aU:=
 if bZ 3 t=false then(z,y,x)
 else if(z.tk t.toNat).st=1 then(if z.fM < 0 then((uH s x z t.toNat).1,y,(uH s x z t.toNat).2) else(z,y,x))
 else if(z.tk t.toNat).st=2 then(if z.aZ=false then((sQ z y t.toNat).1,(sQ z y t.toNat).2,x) else(z,y,x))
 else(z,y,x)
theorem aKF(g f:Nat)(hL:HL)(s:aC)(z:bL)(y:cJ)(x:aU)(w:World)(F:Nat→Prop)(t:Int)(hm:s.made)(aQ:gA hL s)(hx:z.fM < 0→HwP s x)(hz:aIv s z y)(hp:(aBf g f hL s z y x).sat F w)(hF:∀b,F b→b < w.heap.size)(cZ:eG ⟨w,fun b=>b < w.heap.size∧¬F b⟩):
  Cz 87 #[pt g,iv t] w (fun v w'=>v=.returned (.tuple #[])∧∃F',(aBf g f hL s (Ho s z y x t).1 (Ho s z y x t).2.1 (Ho s z y x t).2.2).sat F' w'∧iC w w' F F'):=by
 unfold Ho;refine aAY (vs:=[pt g,iv t]) (p:=aBf g f hL s z y x) func87 rfl ntmps87 (by simp) hp hF ?_;generalize cP:(⟨w,fun b=>b < w.heap.size∧¬F b⟩:Piece)=R0 at cZ⊢;refine aA ?_;refine Yl (f:=132) (fi:=[]) (ca:=[]) rfl ?_;refine aA ?_;refine aS (fun w1 _=>Za t w1) ?_;cases hin:bZ 3 t
 ·refine aA ?_;subst cP;exact Bv (.inl rfl) (by kernel_rfl) Nu rfl fun w1 t=>⟨rfl,t.turns hF (by simp) (i:=0) rfl⟩
 ·obtain⟨j,rfl,hj⟩:=Ew hin
  have hj2:j≤2:=by rcases hj with rfl | rfl | rfl<;>decide
  rw[if_neg (by simp),Int.toNat_natCast];refine aW 0 0 ?_;refine iT 0 fun L=>?_;refine aA ?_;refine kd (fG j (10+13*j) (ho:=by omega)) ?_;refine aA ?_;refine kd (bH rfl (pF 0 rfl (Er (k:=0) hj rfl))) ?_;refine aA ?_;refine aG rfl (fun h1=>?_) (fun h1=>?_)
  ·rw[if_pos h1];refine aA ?_;refine kd (bH rfl (pF 0 rfl rfl)) ?_;refine aA ?_;refine cQ 0 (fun L:dL=>fY g hL.h f L s z) L ?_;refine aJ 0 0 ?_;refine aG rfl (fun h2=>?_) (fun h2=>?_)
   ·rw[if_pos h2];refine aW 0 0 ?_;refine aW 1 2 ?_;refine aT [1,0,2] rfl (by decide) (fun _ h=>h) ?_;refine mR ?_;refine aA ?_;refine bT 0 (Jr g f hL s (uH s x z j).1 (uH s x z j).2) (fun w1 F1 t h1a h2a h3=>aKR g f hL s z x w1 F1 j hm aQ (hx h2) hz.ok hj (hz.call j hj h1) h1a h2a (eG.le cZ (h3 _ (by simp)))) ?_;refine aW 0 0 ?_;refine aW 1 1 ?_;refine aJ 2 2 ?_;refine aJ 1 0 ?_;refine aA ?_;subst cP;exact Bv (.inr rfl) (by kernel_rfl) Nu rfl fun w1 t=>⟨rfl,t.turns hF (by simp) (i:=1) rfl⟩
   ·rw[if_neg h2];refine aA ?_;subst cP;exact Bv (.inr rfl) (by kernel_rfl) Nu rfl fun w1 t=>⟨rfl,t.turns hF (by simp) (i:=0) rfl⟩
  ·rw[if_neg h1];refine aA ?_;refine aG rfl (fun h2=>?_) (fun h2=>?_)
   ·rw[if_pos h2];obtain⟨hh,hne⟩:=hz.work j hj h2;refine aA ?_;refine kd (bH rfl (pF 0 rfl rfl)) ?_;cases mM:z.aZ
    ·refine aA ?_;refine cQ 0 (fun L:dL=>fY g hL.h f L s z) L ?_;refine aJ 0 0 ?_;refine aW 0 0 ?_;refine aW 1 1 ?_;refine aT [1,0,2] rfl (by decide) (fun _ h=>h) ?_;refine mR ?_;refine aA ?_;refine bT 0 (aDS g hL.h f s (sQ z y j).1 (sQ z y j).2) (fun w1 F1 t h1a h2a h3=>aKT g hL.h f s z y w1 F1 j hh hj (hne mM) hz.many hz.pack hz.ans h1a h2a) ?_;refine aW 0 0 ?_;refine aW 1 1 ?_;refine aJ 2 1 ?_;refine aJ 1 0 ?_;refine aA ?_;subst cP;exact Bv (.inr rfl) (by kernel_rfl) Nu rfl fun w1 t=>⟨rfl,t.turns hF (by simp) (i:=1) rfl⟩
    ·refine aA ?_;refine cQ 0 (fun L:dL=>fY g hL.h f L s z) L ?_;refine aJ 0 0 ?_;subst cP;exact Bv (.inr rfl) (by kernel_rfl) Nu rfl fun w1 t=>⟨rfl,t.turns hF (by simp) (i:=0) rfl⟩
   ·rw[if_neg h2];refine aA ?_;refine cQ 0 (fun L:dL=>fY g hL.h f L s z) L ?_;refine aJ 0 0 ?_;subst cP;exact Bv (.inr rfl) (by kernel_rfl) Nu rfl fun w1 t=>⟨rfl,t.turns hF (by simp) (i:=0) rfl⟩
end
section
def Dy(z:bL)(a:gJ):bL:=if z.aZ=false then z else if a.id≠z.id then z else if a.dead=true then pR z z.fM.toNat 6 0 else pR z z.fM.toNat 0 a.val
def sP(z:bL)(l:List gJ):bL:=l.foldl Dy z
def Mu(z:bL):Prop:=z.aZ=true→∃j:Nat,z.fM=(j:Int)∧T3 j
theorem aQS{z:bL}{a:gJ}(h:Mu z):Mu (Dy z a):=by
 unfold Dy;split
 ·exact h
 split
 ·exact h
 split
 ·intro h1;cases h1
 ·intro h1;cases h1
theorem aRb{l:List gJ}:∀{z:bL},Mu z→Mu (sP z l):=by
 induction l with
 | nil=>exact fun h=>h
 | cons a l ih=>exact fun h=>ih (aQS h)
theorem aRa{z:bL}{l:List gJ}{i:Nat}{a:gJ}(h:l[i]? =some a):sP z (l.take (i+1))=Dy (sP z (l.take i)) a:=by
 obtain⟨hi,rfl⟩:=List.getElem?_eq_some_iff.1 h;unfold sP;rw[List.take_succ_eq_append_getElem hi,List.foldl_append];rfl
theorem aHC{l:List gJ}{i k:Nat}{a:gJ}{v:Value}(h:l[i]? =some a)(hv:a.cells[k]? =some v):(l.flatMap gJ.cells)[i*4+k]? =some v:=by
 induction l generalizing i with
 | nil=>simp at h
 | cons x l ih =>
  cases i with
  | zero=>
   simp at h;subst h;rw[Nat.zero_mul,Nat.zero_add,List.flatMap_cons,List.getElem?_append_left (List.getElem?_eq_some_iff.1 hv).1];exact hv
  | succ i=>
   rw[List.getElem?_cons_succ] at h;rw[List.flatMap_cons,show(i+1)*4+k=x.cells.length+(i*4+k) by simp[gJ.cells];omega,List.getElem?_append_right (by omega),Nat.add_sub_cancel_left];exact ih h
theorem aKS(g h f:Nat)(s:aC)(z:bL)(w:World)(F:Nat→Prop)(A:Option Addr)(c:Nat)(l:List gJ)(hl:l.length≤1000)(aNn:Mu z)(hp:(jI g h f s z).sat F w)(hF:∀b,F b→b < w.heap.size)(hs:aI ⟨w,fun b=>b < w.heap.size∧¬F b⟩ 4 A l.length (l.flatMap gJ.cells)):
  Cz 95 #[pt g,.slice A l.length c] w (fun v w'=>v=.returned (.tuple #[])∧∃F',(jI g h f s (sP z l)).sat F' w'∧iC w w' F F'):=by
 refine cT func95 ntmps95 hp hF ?_;generalize cP:(⟨w,fun b=>b < w.heap.size∧¬F b⟩:Piece)=R0 at hs⊢;refine aA ?_;refine bN [(8,iv 0),(7,iv l.length),(6,.slice A l.length c),(0,pt g),(1,.slice A l.length c)] ?_;refine eV (fun m e R H=>∃i:Nat,i≤l.length∧m=l.length - i∧e=[(8,iv i),(7,iv l.length),(6,.slice A l.length c),(0,pt g),(1,.slice A l.length c)]∧R=[R0]∧H=[jI g h f s (sP z (l.take i))]) l.length ⟨0,by omega,rfl,rfl,rfl,rfl⟩ fun m e R H hI=>?_;obtain⟨i,hi,rfl,rfl,rfl,rfl⟩:=hI;refine aA ?_;refine aG rfl (fun hlt=>?_) (fun hge=>?_)
 ·have hlt:i < l.length:=by omega
  obtain⟨a,ha⟩:=get_some hlt;obtain⟨b,off,rfl,fF,hc⟩:=hs.2 (by omega)
  have dD:=aRa (z:=z) ha
  have aGf:Mu (sP z (l.take i)):=aRb aNn
  generalize sP z (l.take i)=zi at dD aGf⊢;obtain⟨Gk,Qy,Dz,Br⟩:=a;refine aA ?_;refine kd (dat i (off+i*4)) ?_;refine kd (jM rfl (aM.of (vs:=[iv Gk,iv Qy,.bool Dz,.int .u32 Br]) fun k v hv=>Rd.ro (p:=R0) (by simp) fF (by rw[Nat.add_assoc];exact hc _ _ (aHC ha hv)))) ?_;refine bY fun g1=>?_;refine aA ?_;refine iT 1 fun L=>?_;refine lJ ?_;refine jC ?_;refine sU (bH rfl (pF 1 rfl rfl)) ?_;cases mM:zi.aZ
  ·have hst:Dy zi ⟨Gk,Qy,Dz,Br⟩=zi:=if_pos mM
   refine iY ?_;refine cQ 1 (fun L:dL=>fY g h f L s zi) L ?_;refine aA ?_;refine aT [1] rfl (by decide) (fun _ h=>h) ?_;refine bN [(8,iv (i+1:Nat)),(7,iv l.length),(6,.slice (some ⟨b,off,none⟩) l.length c),(0,pt g),(1,.slice (some ⟨b,off,none⟩) l.length c)] ?_;exact gP (l.length - (i+1)) (by omega) ⟨i+1,by omega,rfl,rfl,rfl,by rw[dD,hst];rfl⟩
  ·obtain⟨j,hj,hj3⟩:=aGf mM
   have Dk:0≤zi.fM:=by omega
   have Lc:Dy zi ⟨Gk,Qy,Dz,Br⟩=if Gk≠zi.id then zi else if Dz=true then pR zi zi.fM.toNat 6 0 else pR zi zi.fM.toNat 0 Br:=if_neg (by rw[mM];simp)
   refine jC ?_;refine sU (bH rfl (pF 1 rfl rfl)) ?_;refine iY ?_;refine cQ 1 (fun L:dL=>fY g h f L s zi) L ?_;refine aA ?_;refine aG rfl (fun hne=>?_) (fun hne=>?_)
   ·rw[if_pos hne] at Lc;refine aA ?_;refine aT [1] rfl (by decide) (fun _ h=>h) ?_;refine bN [(8,iv (i+1:Nat)),(7,iv l.length),(6,.slice (some ⟨b,off,none⟩) l.length c),(0,pt g),(1,.slice (some ⟨b,off,none⟩) l.length c)] ?_;exact gP (l.length - (i+1)) (by omega) ⟨i+1,by omega,rfl,rfl,rfl,by rw[dD,Lc];rfl⟩
   ·rw[if_neg hne] at Lc;refine aA ?_;cases Dz
    ·refine aB ?_;refine bT 1 (jI g h f s (pR zi zi.fM.toNat 0 Br)) (fun w1 F1 t h1 h2 h3=>Km g h f s zi w1 F1 zi.fM.toNat (by omega) (by rw[hj,Int.toNat_natCast];exact hj3) 0 Br h1 h2) ?_;refine aA ?_;refine aT [1] rfl (by decide) (fun _ h=>h) ?_;refine bN [(8,iv (i+1:Nat)),(7,iv l.length),(6,.slice (some ⟨b,off,none⟩) l.length c),(0,pt g),(1,.slice (some ⟨b,off,none⟩) l.length c)] ?_;exact gP (l.length - (i+1)) (by omega) ⟨i+1,by omega,rfl,rfl,rfl,by rw[dD,Lc];rfl⟩
    ·refine aB ?_;refine bT 1 (jI g h f s (pR zi zi.fM.toNat 6 0)) (fun w1 F1 t h1 h2 h3=>Km g h f s zi w1 F1 zi.fM.toNat (by omega) (by rw[hj,Int.toNat_natCast];exact hj3) 6 0 h1 h2) ?_;refine aA ?_;refine aT [1] rfl (by decide) (fun _ h=>h) ?_;refine bN [(8,iv (i+1:Nat)),(7,iv l.length),(6,.slice (some ⟨b,off,none⟩) l.length c),(0,pt g),(1,.slice (some ⟨b,off,none⟩) l.length c)] ?_;exact gP (l.length - (i+1)) (by omega) ⟨i+1,by omega,rfl,rfl,rfl,by rw[dD,Lc];rfl⟩
 obtain rfl:i=l.length:=by omega
 rw[List.take_length];refine aA ?_;subst cP;exact fA 0 hF
end
section
section
variable(s:aC)(A1 A2 A3 A4:Option Addr)(n1 k1 n2 k2 n3 k3 n4 k4:Nat)(w:World)
def aIK(s:aC)(v:Value)(hs:List HP)(_:Piece):Prop:=∃gc gm A k,v=.tuple #[pt gc,iv 0]∧hs=[Jw gc gm A k (dM s) ⟨[],false⟩]
theorem aPN(hm:s.made)(hW:iD w s A1 n1 A2 n2 A3 n3 A4 n4):
  Cz 107 #[.agg #[.slice A1 n1 k1,.slice A2 n2 k2,.slice A3 n3 k3,.slice A4 n4 k4]] w (fun y w'=>(∃v hs q,y=.returned v∧q.w=w'∧aIK s v hs q∧fZ w hs q)∧Below w.heap.size w w'):=by
 obtain rfl:=hW.qT;obtain rfl:=hW.qS;obtain rfl:=hW.tQ;obtain rfl:=hW.sE;refine aO func107 ntmps107 ?_;refine aA ?_;refine bO fun g1=>?_;refine aA ?_;refine aS (fun w1 t=>Qs s A1 A2 A3 A4 _ k1 _ k2 _ k3 _ k4 w1 (hW.le (t.started (by simp))) (Zx hm)) ?_;refine aA ?_;refine kA [] (He (dM s)) (fun w1 t=>aF8 s A1 A2 A3 A4 _ k1 _ k2 _ k3 _ k4 w1 (hW.le (t.started (by simp)))) ?_;rintro _ w1 q1 ⟨Ag,cg,rfl,pO⟩ hf _ hfr
 have pO:=pO.le hf
 refine Jm (Φ:=By Ag (dM s)) (hm:=By.le) (hfr (by simp)) (by simp[all]) pO ?_;refine Yh (by decide) fun gm=>?_;refine kd (iG rfl) ?_;refine bO fun g2=>?_;refine aA ?_;refine aT [0,1,2] rfl (by decide) (R':=[all w]) (by simp) ?_;refine mR ?_;refine mR ?_;refine dG [] [] [0] (by simp) rfl (by decide) (by decide) fun q _ _ hfr=>?_;exact fS rfl rfl rfl fun w1 t=>⟨⟨_,_,⟨w1,q.Z⟩,rfl,rfl,⟨g2,gm,Ag,cg,rfl,rfl⟩,t.newR (by simp) (by simp) (hfr (by simp) (by simp))⟩,t.below (by simp)⟩
def Tg(s:aC):bL:={rp0 s with wn:=gK s []}
def aIt(h f:Nat)(s:aC)(v:Value)(hs:List HP)(_:Piece):Prop:=∃g,v=.tuple #[pt g,iv 0]∧hs=[jI g h f s (Tg s)]
theorem aKD(h f:Nat)(hm:s.made)(hW:iD w s A1 n1 A2 n2 A3 n3 A4 n4):
  Cz 50 #[pt h,pt f,.agg #[.slice A1 n1 k1,.slice A2 n2 k2,.slice A3 n3 k3,.slice A4 n4 k4]] w (fun y w'=>(∃v hs q,y=.returned v∧q.w=w'∧aIt h f s v hs q∧fZ w hs q)∧Below w.heap.size w w'):=by
 obtain rfl:=hW.qT;obtain rfl:=hW.qS;obtain rfl:=hW.tQ;obtain rfl:=hW.sE;refine aO func50 ntmps50 ?_;refine aA ?_;refine bO fun g1=>?_;refine aA ?_;refine eM (aIK s) (fun w1 t=>aPN s A1 A2 A3 A4 _ k1 _ k2 _ k3 _ k4 w1 hm (hW.le (t.started (by simp)))) ?_;rintro _ _ q0 ⟨gc,gm,Ag,cg,rfl,rfl⟩ _;dsimp only[List.cons_append,List.nil_append];refine aT [0,1] rfl (by decide) (R':=[all w]) (by simp) ?_;refine aA ?_
 refine kA [] (fun v w w'=>aBk s v w w') (fun w1 t=>aDk s A1 A2 A3 A4 _ k1 _ k2 _ k3 _ k4 w1 (hW.le (t.started (by simp))) (fun d hd=>by
  obtain⟨j,hj⟩:=List.getElem?_of_mem hd
  have:=(hm.aD j d hj).2.2.2.2.2.2.2.2.1
  omega)) ?_
 rintro _ w1 q1 ⟨cs,rfl,hcs⟩ Fi _ sK
 have sK:=sK (by simp)
 obtain⟨B1,m1,j1,B2,m2,j2,B3,m3,j3,B4,m4,j4,rfl,hsp⟩:=uK.P hcs
 have hsp:=hsp.le Fi
 obtain⟨rfl,rfl,rfl,rfl⟩:=hsp.len;refine Jm (Φ:=lR ⟨(B1,j1),(B2,j2),(B3,j3),(B4,j4),gc,gm,(Ag,cg),(none,0),(none,0),(none,0),(none,0)⟩ s) (hm:=lR.le) sK (by simp[all]) hsp ?_;refine aA ?_;refine kd (iG rfl) ?_;refine bO fun g=>?_;refine aA ?_;refine kd (jM rfl (aM.mid (vs:=[_,_,_,_]) 0 rfl rfl)) ?_;refine eM (Xr (gK s [])) (fun w1 t=>Yn (all w1) s B1 B2 B3 B4 _ j1 _ j2 _ j3 _ j4 none 0 [] w1 (t.bU 1 rfl) hm (Piece.Le.refl _) (aI.nil _ _)) ?_;rintro _ _ q2 ⟨ga,gb,gd,px,rfl,rfl⟩ _;dsimp only[List.cons_append,List.nil_append];refine aA ?_;refine Cv 2 rfl ?_;dsimp only[List.set];refine aA ?_;obtain⟨L',hL'⟩:∃L':dL,L'=⟨(B1,j1),(B2,j2),(B3,j3),(B4,j4),gc,gm,(Ag,cg),(some ⟨ga,0,none⟩,(gK s []).d.length),(some ⟨gb,0,none⟩,(gK s []).c.length),(some ⟨gd,0,none⟩,(gK s []).l.length),(none,0)⟩:=⟨_,rfl⟩
 refine oA (q:=HP.bU (sW L' (gK s [])) (sW.le (L:=L') (x:=gK s []))) 0 rfl (fun F w hs=>?_) ?_
 ·obtain⟨G,k1,k2,_⟩:=hs;subst hL';exact⟨qL (c:=0) (k1 0 _ rfl) (fun b hb=>k2 0 b hb) (by simp[bG]),qL (c:=0) (k1 1 _ rfl) (fun b hb=>k2 1 b hb) (by simp[bG]),qL (c:=0) (k1 2 _ rfl) (fun b hb=>k2 2 b hb) (by simp[bG])⟩
 dsimp only[List.set];refine nU (p:=HP.bU (nC L' []) (nC.le (L:=L') (l:=[]))) (fun w=>by subst hL';exact⟨aI.nil _ _,Nat.le_refl _⟩) ?_;refine aW 5 0 ?_;refine aW 6 1 ?_;refine aT [5,6,3,1,0,2] rfl (by decide) (R':=[all w]) (by simp) ?_;refine mR ?_;refine qG ?_;refine qG ?_;refine qG ?_;refine qG ?_;refine uJ 0 (f:=fun L:dL=>fY g h f L s (Tg s)) L' (by subst hL';rfl) ?_;dsimp only[List.set];refine dG [] [] [0] (by simp) rfl (by decide) (by decide) fun q _ _ hfr=>?_;exact fS rfl rfl rfl fun w1 t=>⟨⟨_,_,⟨w1,q.Z⟩,rfl,rfl,⟨g,rfl,rfl⟩,t.newR (by simp) (by simp) (hfr (by simp) (by simp))⟩,t.below (by simp)⟩
end
end
section
theorem aKW(w0:Int)(A:Option Addr)(n c:Nat)(zs:List Int)(w:World)(hs:aI (all w) 1 A n (dV zs))(hn:n=zs.length)(hn2:n≤1000000):Cz 52 #[.int .u32 w0,.slice A n c] w (fun y w'=>(∃v hs q,y=.returned v∧q.w=w'∧aIw (w0::zs) v hs q∧fZ w hs q)∧Below w.heap.size w w'):=by
 refine aO func52 ntmps52 ?_;refine aB ?_;refine aBn 1 4 (el:=37) (c:=n+1) (k0:=1) (oN:=.i64) (by kernel_rfl) (by kernel_rfl) rfl (by rw[Int.natCast_add];rfl) (by omega) (by omega) (by decide) fun g1=>?_;refine aB ?_;refine eH fun g2=>?_;refine gY 1 1 4 1 (n':=1) (el:=37) (by kernel_rfl) (by kernel_rfl) (by decide) rfl rfl rfl (lV 0 rfl rfl) (by simp[Value.oneCell']) rfl (by omega) (by omega) (by decide) fun A1 c1=>?_;dsimp only[List.set];refine aB ?_;refine gY 1 1 4 n (n':=n+1) (el:=37) (by kernel_rfl) (by kernel_rfl) (by decide) rfl rfl rfl (rU (by simp) hs) (Hj _) (by omega) (by omega) (by omega) (by decide) fun A2 c2=>?_;dsimp only[List.set];refine aB ?_;subst hn;refine dG [] [] [1] (by simp) rfl (by decide) (by decide) fun q _ _ hfr=>?_;exact aP (h:=fun w1 st=>⟨_,_,⟨w1,q.Z⟩,rfl,rfl,⟨_,_,rfl,rfl⟩,st.newR (by simp) (by simp) (hfr (by simp) (by simp))⟩)
theorem aHr(m t p k:Int)(A:Option Addr)(n c:Nat)(zs:List Int)(w:World)(hs:aI (all w) 1 A n (dV zs))(hn:n=zs.length)(hn2:n≤1000000)(hok:(gZ m t p k).2=0):Cz 24 #[.agg #[iv m,iv t,iv p,iv k],.slice A n c] w (fun y w'=>(∃v hs q,y=.returned v∧q.w=w'∧aEd ((gZ m t p k).1::zs) v hs q∧fZ w hs q)∧Below w.heap.size w w'):=by
 refine aO func24 ntmps24 ?_;refine aB ?_;refine bO fun g1=>?_;refine aB ?_;refine dF (fun w1 st=>aFv m t p k w1) ?_;refine aB ?_;refine aG rfl (fun h=>?_) (fun h=>?_)
 ·
  refine aB ?_;exact absurd hok h
 ·
  refine aB ?_;refine eM (aIw ((gZ m t p k).1::zs)) (fun w1 st=>aKW (gZ m t p k).1 A n c zs w1 (hs.le (st.le (by simp))) hn hn2) ?_;rintro _ _ q1 ⟨A1,c1,rfl,rfl⟩ _;simp only[List.cons_append,List.nil_append];refine aB ?_;refine dG [] [] [0] (by simp) rfl (by decide) (by decide) fun q _ _ hfr=>?_;refine fS rfl rfl rfl fun w1 st=>⟨⟨_,_,⟨w1,q.Z⟩,rfl,rfl,⟨_,_,rfl,rfl⟩,st.newR (by simp) (by simp) (hfr (by simp) (by simp))⟩,st.below (by simp)⟩
end
section
theorem aEO(x:dZ)(k id:Int):(oL x k id).d.length=x.d.length∧(oL x k id).c.length=x.c.length∧(oL x k id).l.length=x.l.length:=by
 unfold oL;split
 ·exact⟨Nt _ _ _,rfl,rfl⟩
 ·split
  ·exact⟨rfl,Nt _ _ _,rfl⟩
  ·split
   ·exact⟨rfl,rfl,Nt _ _ _⟩
   ·exact⟨rfl,rfl,rfl⟩
theorem aEM{x:dZ}(h:x.sm)(k id:Int):(oL x k id).sm:=by
 obtain⟨h1,h2,h3⟩:=aEO x k id;exact⟨by rw[h1];exact h.d,by rw[h2];exact h.c,by rw[h3];exact h.l⟩
theorem aPg{x:dZ}(h:x.sm)(ag:Nat)(k id:Int):(lH x ag k id).sm:=by
 unfold lH;split
 ·exact aEM h k id
 ·exact h
theorem aPf{x:dZ}(h:x.sm)(ag:Nat)(k id:Int):(lG x ag k id).sm:=by
 unfold lG;split
 ·exact h
 ·exact aEM h k id
end
section
section
variable{s:aC}{x:aU}{z:cJ}{b:Nat}{m:List Int}{k id:Int}
theorem aFm(hu:nB m)(h:(fE s m).1=0):tA m:=by
 cases m with
 | nil=>exact absurd h (by show ¬((-10:Int)=0);decide)
 | cons w r =>
  unfold fE at h;dsimp only at h;split at h
  ·exact absurd h (by decide)
  ·rename_i h1
   split at h
   ·exact absurd h (by decide)
   ·split at h
    ·exact absurd h (by decide)
    ·rename_i h3
     have hz:cN w 28 4=0:=by
      refine Classical.byContradiction fun hc=>h1 (.inl ?_);unfold Cj;rw[if_pos hc];decide
     refine⟨⟨w,r,rfl,hz,fun hh=>?_⟩⟩
     have hp:dW w=cN w 10 8:=by rw[dW,if_neg (by simp[hz])]
     have hmm:eI w=cN w 0 8:=by rw[eI,if_neg (by simp[hz])]
     have hn:(eF (dW w) (eI w)).n=1:=by
      rw[hp,hmm];rcases hh with⟨a,b⟩ | ⟨a,b⟩<;>rw[a,b]<;>rfl
     rw[hn] at h3
     have h4:r.length=1:=by omega
     obtain⟨i,rfl⟩:=List.length_eq_one_iff.1 h4;exact⟨i,rfl,hu i (by simp)⟩
end
end
end Go.Proofs.YtkgekojkboingaaGreatDoor
