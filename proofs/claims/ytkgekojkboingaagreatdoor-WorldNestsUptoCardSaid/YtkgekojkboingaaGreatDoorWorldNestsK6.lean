/- Functions that defer a recover: how they begin and end. -/
import Derived.KernelRfl
import Derived.Tactics2
import Derived.Test.YtkgekojkboingaaGreatDoorProg
import Derived.Test.YtkgekojkboingaaGreatDoorWorldNestsK5
namespace Go.Proofs.YtkgekojkboingaaGreatDoor
set_option linter.all false
set_option maxHeartbeats 4000000
set_option maxRecDepth 20000
open Go.RowKit Go.Proofs.Tryz
section
section
variable{P:Program}{N:bY}{w0 w:World}{K:Act→World→Prop}{e:Env}{R:List Piece}{H H':List HP}
theorem aBl{nn:Nat}{F:Nat→Prop}{p:HP}{f:FuncId}{fn:Func}{c:Code}{vs:List Value}{Post:Ending→World→Prop}(hf:P.funcs[f]? =some fn)(hb:fn.body=some c)(hN:fn.ntmps=nn)(hl:vs.length≤nn)(hp:p.sat F w)(hF:∀b,F b→b < w.heap.size)
  (h:XK ⟨nn,[]⟩ w (c.wp P (bodyPostD P fn Post)) (Eb 0 vs) [⟨w,fun b=>b < w.heap.size∧¬F b⟩] [p]):Calls P f vs.toArray w Post:=by
 refine calls_of_wp_defers hf hb (h _ _ ⟨?_,rfl,fun t v hv=>?_⟩ (aDY hp hF))
 ·simp;omega
 ·obtain⟨_,h2⟩:=Xe vs 0 t v hv;rw[Nat.sub_zero] at h2
  have hlt:t < vs.length:=by
   rcases Nat.lt_or_ge t vs.length with h | h
   ·exact h
   ·rw[List.getElem?_eq_none h] at h2;cases h2
  rw[Array.getElem?_append_left (by simpa using hlt)]
  simpa using h2
theorem Cc{nn:Nat}{f:FuncId}{fi ca:List Value}{fn:Func}{Post:Ending→World→Prop}{x:Exit}(hx:x=.ret∨x=.normal)(hf:eY P f=true)
  (iL:∀w,CallsD P f (fi++ca).toArray .returning w fun y u' w'=>y=.returned (.tuple #[])∧u'=.returning∧w'=w) (hr:fn.results=#[])
  (h:∀w,St w0 R H w→Post (.returned (.tuple #[])) w):XK ⟨nn,[Ji f fi ca]⟩ w0 (bodyPostD P fn Post x) e R H:=by
 have key:XK ⟨nn,[Ji f fi ca]⟩ w0 (bodyPostD P fn Post .ret) e R H:=aRK (H':=H) hf (fun w1 st=>(iL w1).mono fun y u' w' h=>by
  obtain⟨h1,h2,rfl⟩:=h
  exact⟨⟨_,h1⟩,h2,st⟩) fun a w1 _ st=>⟨.tuple #[],results_none hr _ _ _,h w1 st⟩
 rcases hx with rfl | rfl
 ·exact key
 ·exact key
end
theorem Wc(w:World):CallsD Tryz.prog 89 #[] .returning w fun e u' w'=>e=.returned (.tuple #[])∧u'=.returning∧w'=w:=by
 refine callsD_of_wpS func89 rfl fun c₀ cs hu=>?_;apply wpS_region;simp[wpOpsS,go_sem,recoverD,hu,ntmps89,Exit.thenS];cases c₀;simp_all [bodyPostS,results,Tryz.results89]
section
variable{N:bY}{w0 w:World}{e:Env}{R:List Piece}{H:List HP}{K:Act→World→Prop}{f:Nat}{hL:HL}{s:aC}{z:cI}{x:aR}
theorem Hh(i:Nat){o:Nat}{v:Value}(hi:H[i]? =some (gK f hL s z x))(hv:∀L,(jI hL.h L s z)[o]? =some v):Rd w0 R H f o v:=fun w t=>by
 obtain⟨F,⟨G,g1,g2,_⟩,h2,_⟩:=t.chunk hi;obtain⟨L,hL'⟩:=g1 0 _ rfl
 have:=((aIQ hL' fun b hb=>h2 b (g2 0 b hb)).r0.at_ (hv L)).2
 rwa [Nat.zero_add] at this
end
theorem aO5(f:Nat)(hL:HL)(s:aC)(z:cI)(x:aR)(hH:s.dH)(aQ:gA hL s)(hok:cX s x)(hz:Ej s z)(hst:∀a,sH z=some a→(gI s x z a).2.1=0→(gI s x z a).1=0→tE (kB z a))(eO:z.at_ < 0)(hno:(nP s x z).2=false)(w:World)(F:Nat→Prop)(hp:(gK f hL s z x).sat F w)(hF:∀b,F b→b < w.heap.size):
  Cz 36 #[pt f] w (Wr (.tuple #[]) (gK f hL s (nP s x z).1 x) w F):=by
 refine aBl (vs:=[pt f]) (p:=gK f hL s z x) func36 rfl ntmps36 (by simp) hp hF ?_;refine aA ?_;refine Ys (f:=89) (fi:=[]) (ca:=[]) rfl ?_;refine aA ?_;refine kd (bJ rfl (Hh 0 rfl fun _=>rfl)) ?_;refine aA ?_;refine bZ (t:=8) rfl (fun _=>?_) (fun h=>absurd eO h);refine aA ?_;refine bX 0 (gK f hL s (nP s x z).1 x) (fun w1 F1 t h1 h2 h3=>aGP f hL s z x hH aQ hok hz hst w1 F1 h1 h2) ?_;rw[hno];refine aA ?_;exact Cc (.inl rfl) (by kernel_rfl) Wc rfl fun w1 t=>⟨rfl,t.turns hF (by simp) (i:=0) rfl⟩
end
section
def aG5(m p k:Int):Bool:=decide ((gZ m 0 p k).2=0∧cK (gZ m 0 p k).1 28 4=0∧cK (gZ m 0 p k).1 0 8=m∧cK (gZ m 0 p k).1 8 2=0∧cK (gZ m 0 p k).1 10 8=p∧cK (gZ m 0 p k).1 18 10=k)
end
section
theorem aFH:(List.range 256).all (fun v=>decide (Bz (IntKind.u32.wrap v) (vD 8 0)=0))=true:=by decide+kernel
theorem aMs:(List.range 4).all (fun v=>decide (Bz (IntKind.u32.wrap v) (vD 2 0)=0))=true:=by decide+kernel
theorem aMt:(List.range 1024).all (fun v=>decide (Bz (IntKind.u32.wrap v) (vD 10 0)=0))=true:=by decide+kernel
theorem Zu{n:Nat}{many v:Int}(h:(List.range n).all (fun v=>decide (Bz (IntKind.u32.wrap v) (vD many 0)=0))=true)(h0:0≤v)(hv:v < n):Bz (IntKind.u32.wrap v) (vD many 0)=0:=by
 rw[List.all_eq_true] at h
 have:=of_decide_eq_true (h v.toNat (List.mem_range.2 (by omega)))
 rwa [show((v.toNat:Nat):Int)=v by omega] at this
theorem Zr{w low many v:Int}(hm:Bz (IntKind.u32.wrap v) (vD many 0)=0)(h0:0≤v)(hv:v < IntKind.i64.wrap (1*2 ^ min many.toNat 64)):(fV w low many v).2=0:=by
 unfold fV;rw[if_neg (by omega),if_neg (by rw[wU,if_neg (fun h=>h hm)];exact fun h=>h rfl)]
theorem aLM{m p k:Int}(hm:0≤m∧m < 256)(hp:0≤p∧p < 256)(hk:0≤k∧k < 1024):(gZ m 0 p k).2=0:=by
 have e8:IntKind.i64.wrap (1*2 ^ min (8:Int).toNat 64)=256:=by decide+kernel
 have e2:IntKind.i64.wrap (1*2 ^ min (2:Int).toNat 64)=4:=by decide+kernel
 have e10:IntKind.i64.wrap (1*2 ^ min (10:Int).toNat 64)=1024:=by decide+kernel
 have a1:∀w low,(fV w low 8 m).2=0:=fun w low=>Zr (Zu aFH hm.1 hm.2) hm.1 (by rw[e8];exact hm.2)
 have a2:∀w low,(fV w low 2 0).2=0:=fun w low=>Zr (Zu aMs (by decide) (by decide)) (by decide) (by rw[e2];decide)
 have a3:∀w low,(fV w low 8 p).2=0:=fun w low=>Zr (Zu aFH hp.1 hp.2) hp.1 (by rw[e8];exact hp.2)
 have a4:∀w low,(fV w low 10 k).2=0:=fun w low=>Zr (Zu aMt hk.1 hk.2) hk.1 (by rw[e10];exact hk.2)
 unfold gZ;rw[if_neg (fun h=>h (a1 _ _)),if_neg (fun h=>h (a2 _ _)),if_neg (fun h=>h (a3 _ _)),if_neg (fun h=>h (a4 _ _))]
theorem aCb(a b:Int):0≤Az a b∧Az a b < 4294967296:=Nx _
theorem aL7(w low many v:Int):0≤(fV w low many v).1∧(fV w low many v).1 < 4294967296:=by
 unfold fV;split
 ·exact⟨by decide,by decide⟩
 ·split
  ·exact⟨by decide,by decide⟩
  ·unfold wU;split
   ·exact⟨by decide,by decide⟩
   ·exact aCb _ _
def aI4(l:List Int)(v:Value)(hs:List HP)(_:Piece):Prop:=∃A c,v=.slice A l.length c∧hs=[HP.own 37 1 (.slice A l.length c) l.length (eA l)]
def aEo(l:List Int)(v:Value)(hs:List HP)(_:Piece):Prop:=∃A c,v=.tuple #[.slice A l.length c,iv 0]∧hs=[HP.own 37 1 (.slice A l.length c) l.length (eA l)]
theorem aJM(l:List Int)(x:Int):eA l++[.int .u32 x]=eA (l++[x]):=by simp[eA]
theorem aEK(l:List Int)(i:Nat)(x:Int):(eA l).set i (.int .u32 x)=eA (l.set i x):=by simp[eA,List.map_set]
theorem aFg(P:Program)(a b:Int)(w:World):(Op.intBits .or .u32 a b).run P w=.ok (.int .u32 (Az a b)) w:=by rfl
end
section
section
variable{s:aC}{x:aR}{l:Int}{b:Nat}{m a:List Int}
end
theorem aCg{s:aC}{st:List eM}(hH:s.dH)(h:pR s st)(i:Int)(b:Bool):pR s (lK s st i b).2:=by
 unfold lK;split
 ·exact h
 ·split
  ·rename_i c x hc hx
   split
   ·exact h
   ·refine⟨by simp[h.len],fun y hy=>?_⟩;rcases List.mem_or_eq_of_mem_set hy with hy | rfl
    ·exact h.left y hy
    ·have h1:=(hH.t.aF i.toNat c hc).2
     have h2:=h.left x (List.mem_of_getElem? hx)
     unfold Tz;dsimp only;split
     ·omega
     ·exact h2
  ·exact h
theorem aJK{s:aC}{st:List fT}(hH:s.dH)(h:tJ s st)(i:Int):tJ s (uW s st i).2:=by
 unfold uW;split
 ·exact h
 ·split
  ·rename_i c x hc hx
   split
   ·exact h
   ·have h1:=(hH.domains i.toNat c hc).2
    refine⟨by simp[h.len],fun y hy=>?_,fun y hy=>?_⟩
    ·rcases List.mem_or_eq_of_mem_set hy with hy | rfl
     ·exact h.left y hy
     ·exact h1
    ·rcases List.mem_or_eq_of_mem_set hy with hy | rfl
     ·exact h.phase y hy
     ·exact⟨by show(0:Int)≤114;omega,by show(114:Int) < 256;omega⟩
  ·exact h
end
section
def eS(p:Piece):Prop:=∀(i:Nat) (v:Int),[(114:Int),97,115,100][i]? =some v→p.Z 0∧p.w.cell? ⟨0,i,none⟩=some (.int .u8 v)
theorem eS.at_{p:Piece}{w:World}(h:eS p)(hl:p.Le (all w)):Sf w:=fun i v hv=>by
 obtain⟨h1,h2⟩:=h i v hv;obtain⟨h3,h4⟩:=hl 0 h1;refine⟨h3,?_⟩;rw[←h2];exact World.cell?_of_block h4
theorem eS.le{p q:Piece}(h:eS p)(hl:p.Le q):eS q:=fun i v hv=>by
 obtain⟨h1,h2⟩:=h i v hv;obtain⟨h3,h4⟩:=hl 0 h1;exact⟨h3,(World.cell?_of_block h4).trans h2⟩
def Ik(s:aC)(d:Int)(k:Nat)(p:dS×fE):dS×fE:=match s.aD[k]? with
 | some dv=>if dv.domain=d then(p.1,(oM p.2).2) else p
 | none=>p
def wX(s:aC)(x:aR)(d:Int)(n:Nat):List (dS×fE):=x.dv.mapIdx fun k p=>if k < n then Ik s d k p else p
def Ol(s:aC)(x:aR)(d:Int):aR×Bool:=
 if sC x.dm d=48∨sC x.dm d=116 then({x with dm:=(uW s x.dm d).2},false)
 else if sC x.dm d=49 then({x with dv:=wX s x d s.aD.length},true) else(x,false)
def Xb(s:aC)(x:aR)(c:Nat):aR×Bool:=
 ({x with ck:=(lK s x.ck c true).2},tP s (lK s x.ck c true).2 c||(decide ((lQ s c).length < 2)|| !tP s (lK s x.ck c true).2 ((lQ s c).getD 1 0:Nat)))
def Of(x:aR)(i:Int):aR×Bool:=if Iq x.ln i then({x with ln:=(wT x.ln i).2},false) else(x,true)
theorem aGc{x:fE}(h:zP x):zP (oM x).2:=by
 unfold oM;split
 ·exact h
 ·exact⟨by show(0:Int)≤0;omega,by show(0:Int)≤3;omega⟩
theorem aGd{s:aC}{x:aR}(hH:s.dH)(hok:cX s x)(d:Int)(n:Nat):cX s {x with dv:=wX s x d n}:=Ua hH hok (by simp[wX]) fun i e p hd hp=>by
 rw[wX,List.getElem?_mapIdx] at hp;cases hq:x.dv[i]? with
 | none=>rw[hq] at hp;cases hp
 | some q =>
  rw[hq] at hp;obtain⟨h1,h2⟩:=hok.each i e q hd hq;simp only[Option.map_some,Option.some.injEq] at hp;subst hp;split
  ·unfold Ik;rw[hd];dsimp only;split
   ·exact⟨h1,aGc h2⟩
   ·exact⟨h1,h2⟩
  ·exact⟨h1,h2⟩
section
variable{N:bY}{w0 w:World}{e:Env}{R:List Piece}{H:List HP}{Q:Exit→Act→World→Prop}{ops:Array Oper}{rest:List Oper}{K:Act→World→Prop}
variable{d:Nat}{ty:TypeId}{pos:String}{aH:Array Edge}{f h:Nat}{L:gB}{s:aC}{z:cI}
theorem aE0(n:Nat)(Φ:List Value→Prop){x:Operand}{t:TypeId}{b o:Nat}[hT:mJ t n](hx:e.ev x=some (.pointer (some ⟨b,o,none⟩)))(h:∀w,St w0 R H w→∃vs,dU w b o vs∧vs.length=n∧Φ vs)(k:∀vs,Φ vs→XK N w0 (wpList Tryz.prog ops Q rest) ((d,.agg vs.toArray)::e) R H)(hd:d < N.n:=by decide):
  XK N w0 (wpList Tryz.prog ops Q (⟨some d,.load t x,ty,pos,aH,none⟩::rest)) e R H:=rW rfl fun a w hr st=>by
 obtain⟨vs,h1,h2,h3⟩:=h w st;exact⟨.agg vs.toArray,w,aHr (N:=N) (w0:=w) (R:=[all w]) (H:=[]) (d:=d) (ty:=ty) (pos:=pos) (aH:=aH) n hT.h hx (xY (by simp) h1) h2 a w hr (St.start w),k vs h3 _ _ (hr.put hd _) st⟩
theorem aIc(j:Nat)(hj:H[j]? =some (iE f h L s z))(hn:0 < s.aD.length)(k:∀b off,L.a4.1=some ⟨b,off,none⟩→XK N w0 K e R H):XK N w0 K e R H:=fun a w hr st=>by
 obtain⟨b,off,r,hA,_⟩:=jV.row (st.Du j hj).so.dev (List.getElem?_eq_getElem hn);exact k b off hA a w hr st
def aEn(d:cG)(vs:List Value):Prop:=∃A n k A' n' k',vs=[iv d.clock,iv d.domain,iv d.reset,.int .u32 d.iG,.slice A n k,.slice A' n' k']
theorem aGV{i b off:Nat}{d:cG}(kf:Jz w f h L s z)(hA:L.a4.1=some ⟨b,off,none⟩)(hd:s.aD[i]? =some d):∃vs,dU w b (off+i*6) vs∧vs.length=6∧aEn d vs:=by
 obtain⟨b',off',r,pX,hl,⟨A,n,k,A',n',k',he,_⟩,hro⟩:=jV.row kf.so.dev hd;rw[hA] at pX;cases pX;exact⟨r,hro,hl,A,n,k,A',n',k',he⟩
end
variable(f:Nat)(hL:HL)(s:aC)(z:cI)(x:aR)(w:World)
theorem aO7(hH:s.dH)(aQ:gA hL s)(hok:cX s x)(d:Int)(F:Nat→Prop)(hp:(gK f hL s z x).sat F w)(hF:∀b,F b→b < w.heap.size)(dD:eS ⟨w,fun b=>b < w.heap.size∧¬F b⟩):
  Cz 138 #[pt f,iv d] w (Wr (.bool (Ol s x d).2) (gK f hL s z (Ol s x d).1) w F):=by
 have rE:=hH.t.nv
 have kZ:=hok.dv
 refine cT func138 ntmps138 hp hF ?_;generalize cO:(⟨w,fun b=>b < w.heap.size∧¬F b⟩:Piece)=R0 at dD⊢;refine aY 0 0 ?_;refine iX 0 fun L=>?_;refine aY 1 1 ?_;refine aA ?_;refine kd (bJ rfl (Rd.dW 1 rfl rfl)) ?_;refine aA ?_;refine aV (fun w1 t=>aCO hL s x w1 hok.dm d (t.mG 0 rfl aQ hok)) ?_;unfold Ol;generalize Df:sC x.dm d=ph
 by_cases h48:ph=48
 ·subst h48;rw[if_pos (.inl rfl)];refine aA ?_;refine kd (bJ rfl (Rd.dW 1 rfl rfl)) ?_;refine aA ?_;refine bX 0 (dL hL s {x with dm:=(uW s x.dm d).2}) (fun w1 F1 t h1 h2 h3=>aG6 hL s x w1 hH aQ hok d F1 h1 h2) ?_;refine aA ?_;refine aJ 1 1 ?_;refine cS 0 (fun L:gB=>iE f hL.h L s z) L ?_;refine aJ 0 0 ?_;subst cO;exact bP 0 hF
 by_cases Vz:ph=116
 ·subst Vz;rw[if_pos (.inr rfl)];refine aA ?_;refine kd (bJ rfl (Rd.dW 1 rfl rfl)) ?_;refine aA ?_;refine bX 0 (dL hL s {x with dm:=(uW s x.dm d).2}) (fun w1 F1 t h1 h2 h3=>aG6 hL s x w1 hH aQ hok d F1 h1 h2) ?_;refine aA ?_;refine aJ 1 1 ?_;refine cS 0 (fun L:gB=>iE f hL.h L s z) L ?_;refine aJ 0 0 ?_;subst cO;exact bP 0 hF
 rw[if_neg (by omega)]
 by_cases Mc:ph=49
 ·subst Mc;rw[if_pos rfl];refine aA ?_;refine kd (bJ rfl (Rd.dW 1 rfl rfl)) ?_;refine aA ?_
  have hm0:wX s x d 0=x.dv:=Ou _ _
  refine bM [(31,iv (0)),(30,iv s.aD.length),(29,.slice L.a4.1 s.aD.length L.a4.2),(0,pt f),(1,iv d)] ?_;refine eU (fun m e R H=>∃i:Nat,i≤s.aD.length∧m=s.aD.length - i∧e=[(31,iv (i:Int)),(30,iv s.aD.length),(29,.slice L.a4.1 s.aD.length L.a4.2),(0,pt f),(1,iv d)]∧R=[R0]∧H=[dL hL s {x with dv:=wX s x d i},iE f hL.h L s z,HP.many [cF,cF]]) s.aD.length ⟨0,by omega,rfl,rfl,rfl,by rw[hm0]⟩ fun m e R H hI=>?_;obtain⟨i,hi,rfl,rfl,rfl,rfl⟩:=hI
  have mQ:=aGd hH hok d i
  refine aA ?_;refine aG rfl (fun hlt=>?_) (fun hge=>?_)
  ·have hlt:i < s.aD.length:=by omega
   obtain⟨dv,cZ⟩:=get_some hlt;obtain⟨p,gF⟩:=get_some (l:=x.dv) (i:=i) (by omega)
   have kN:(wX s x d i)[i]? =some p:=Ow gF
   have hstep:(wX s x d i).set i (Ik s d i p)=wX s x d (i+1):=Ov (f:=Ik s d) gF
   obtain⟨q1,q2⟩:=(mQ.each i dv p cZ kN).2;refine aIc 1 rfl (by omega) fun b off hA=>?_;refine aA ?_;refine kd (dat i (off+i*6) (hx:=by rw[←hA];rfl)) ?_;refine aE0 6 (aEn dv) rfl (fun w1 t=>aGV (t.Du 1 rfl) hA cZ) ?_;rintro _ ⟨A,n,k,A',n',k',rfl⟩;refine cE fun g1=>?_;refine aA ?_;refine aG rfl (fun he=>?_) (fun he=>?_)
   ·have nD:Ik s d i p=p:=by
     unfold Ik;rw[cZ];exact if_neg he
    rw[nD,wS kN] at hstep;rw[hstep];refine aA ?_;refine aT [1,2,3] rfl (by decide) (fun _ h=>h) ?_;exact eP (s.aD.length - (i+1)) ⟨i+1,hlt,rfl,rfl,rfl,rfl⟩
   ·have he:dv.domain=d:=by simpa using he
    have nD:Ik s d i p=(p.1,(oM p.2).2):=by
     unfold Ik;rw[cZ];exact if_pos he
    have hst:wO {x with dv:=wX s x d i} i=pF p.2.at_:=by
     unfold wO;dsimp only;rw[kN];rfl
    refine aA ?_;refine kd (bJ rfl (Rd.dW 2 rfl rfl)) ?_;refine aA ?_;refine aV (fun w1 t=>aG7 hL s _ w1 aQ mQ i hlt (dD.at_ (t.le (by simp))) (t.mG 1 rfl aQ mQ)) ?_;rw[hst]
    by_cases ha:p.2.at_=2∨p.2.at_=3
    ·have hlf:pF p.2.at_=115∨pF p.2.at_=100:=by
      rcases ha with ha | ha<;>rw[ha]
      ·exact .inl rfl
      ·exact .inr rfl
     rcases hlf with hlf | hlf<;>rw[hlf]
     all_goals
      refine aA ?_;refine kd (bJ rfl (Rd.dW 2 rfl rfl)) ?_;refine aA ?_;refine wA (α:=Int) 1 (f:=175) (fi:=[]) (ca:=[]) (fun r=>iv r) (fun _=>dL hL s (yQ {x with dv:=wX s x d i} i)) (fun _=>True) (by kernel_rfl) rfl rfl rfl (by decide) (fun w1 F1 t h1 h2 h3=>aCP hL s _ w1 hH aQ mQ i hlt F1 h1 h2) ?_;rintro _ _;dsimp only[List.set]
      have hX:yQ {x with dv:=wX s x d i} i={x with dv:=wX s x d (i+1)}:=by
       unfold yQ;dsimp only;rw[kN,←hstep,nD]
      rw[hX];refine aA ?_;refine aT [1,2,3] rfl (by decide) (fun _ h=>h) ?_;exact eP (s.aD.length - (i+1)) ⟨i+1,hlt,rfl,rfl,rfl,rfl⟩
    ·have hq:(oM p.2).2=p.2:=by
      unfold oM;rw[if_pos (by omega)]
     have hlf:pF p.2.at_=114∨pF p.2.at_=97:=by
      have:p.2.at_=0∨p.2.at_=1:=by omega
      rcases this with ha | ha<;>rw[ha]
      ·exact .inl rfl
      ·exact .inr rfl
     rw[nD,hq,wS kN] at hstep;rcases hlf with hlf | hlf<;>rw[hlf,hstep]
     all_goals
      refine aA ?_;refine aT [1,2,3] rfl (by decide) (fun _ h=>h) ?_;exact eP (s.aD.length - (i+1)) ⟨i+1,hlt,rfl,rfl,rfl,rfl⟩
  obtain rfl:i=s.aD.length:=by omega
  refine aA ?_;refine aJ 1 1 ?_;refine cS 0 (fun L:gB=>iE f hL.h L s z) L ?_;refine aJ 0 0 ?_;subst cO;exact bP 0 hF
 ·rw[if_neg Mc];refine aA ?_;refine aG rfl (fun h=>absurd h h48) (fun _=>?_);refine aA ?_;refine aG rfl (fun h=>absurd h Vz) (fun _=>?_);refine aA ?_;refine aG rfl (fun h=>absurd h Mc) (fun _=>?_);refine aA ?_;refine aJ 1 1 ?_;refine cS 0 (fun L:gB=>iE f hL.h L s z) L ?_;refine aJ 0 0 ?_;subst cO;exact bP 0 hF
theorem aO6(hH:s.dH)(aQ:gA hL s)(hok:cX s x)(i:Int)(F:Nat→Prop)(hp:(gK f hL s z x).sat F w)(hF:∀b,F b→b < w.heap.size):
  Cz 142 #[pt f,iv i] w (Wr (.bool (Of x i).2) (gK f hL s z (Of x i).1) w F):=by
 refine cT func142 ntmps142 hp hF ?_;generalize cO:(⟨w,fun b=>b < w.heap.size∧¬F b⟩:Piece)=R0;refine aY 0 0 ?_;refine iX 0 fun L=>?_;refine aY 1 1 ?_;refine aA ?_;refine kd (bJ rfl (Rd.dW 1 rfl rfl)) ?_;refine aA ?_;refine aV (fun w1 t=>aNO hL s x w1 i (t.mG 0 rfl aQ hok)) ?_;unfold Of;cases hh:Iq x.ln i
 ·refine aA ?_;refine aJ 1 1 ?_;refine cS 0 (fun L:gB=>iE f hL.h L s z) L ?_;refine aJ 0 0 ?_;subst cO;exact bP 0 hF
 ·refine aA ?_;refine kd (bJ rfl (Rd.dW 1 rfl rfl)) ?_;refine aA ?_;refine bX 0 (dL hL s {x with ln:=(wT x.ln i).2}) (fun w1 F1 t h1 h2 h3=>aNM hL s x w1 hH aQ hok i F1 h1 h2) ?_;refine aA ?_;refine aJ 1 1 ?_;refine cS 0 (fun L:gB=>iE f hL.h L s z) L ?_;refine aJ 0 0 ?_;subst cO;exact bP 0 hF
theorem aOB(hH:s.dH)(aQ:gA hL s)(hok:cX s x)(c:Nat)(hc:c < s.aF.length)(F:Nat→Prop)(hp:(gK f hL s z x).sat F w)(hF:∀b,F b→b < w.heap.size):
  Cz 140 #[pt f,iv (c:Int)] w (Wr (.bool (Xb s x c).2) (gK f hL s z (Xb s x c).1) w F):=by
 refine cT func140 ntmps140 hp hF ?_;generalize cO:(⟨w,fun b=>b < w.heap.size∧¬F b⟩:Piece)=R0;refine aY 0 0 ?_;refine iX 0 fun L=>?_;refine aY 1 1 ?_;refine aA ?_;refine kd (bJ rfl (Rd.dW 1 rfl rfl)) ?_;refine aA ?_;refine bX 0 (dL hL s {x with ck:=(lK s x.ck c true).2}) (fun w1 F1 t h1 h2 h3=>aGB hL s x w1 hH aQ hok c true F1 h1 h2) ?_
 have mR:cX s {x with ck:=(lK s x.ck c true).2}:=⟨aCg hH hok.ck _ _,hok.dm,hok.ln,hok.dv,hok.each,hok.wt⟩
 unfold Xb;generalize Fk:({x with ck:=(lK s x.ck c true).2}:aR)=x2 at mR⊢
 have Bj:(lK s x.ck c true).2=x2.ck:=by rw[←Fk]
 rw[Bj];refine aA ?_;refine kd (bJ rfl (Rd.dW 1 rfl rfl)) ?_;refine aA ?_;refine aV (fun w1 t=>aG8 hL s x2 w1 hH c (t.mG 0 rfl aQ mR)) ?_;cases hr:tP s x2.ck c
 ·refine aA ?_;refine kd (jT rfl (aO.dW 1 rfl (vs:=[.slice L.a1.1 s.aF.length L.a1.2,.slice L.a2.1 s.domains.length L.a2.2,.slice L.a3.1 s.bA.length L.a3.2,.slice L.a4.1 s.aD.length L.a4.2]) rfl)) ?_;refine aA ?_;refine kA [] (Hi (lQ s c)) (fun w1 t=>aAI (all w1) s _ _ _ _ _ L.a1.2 _ L.a2.2 _ L.a3.2 _ L.a4.2 c w1 (t.Du 1 rfl).so hH.t (Piece.Le.refl _) hc) ?_;rintro _ w1 qm ⟨Ac,cc,rfl,iL⟩ hf _ _
  have iL:=iL.le hf
  clear hf;refine aA ?_;rcases pI:lQ s c with _ | ⟨c0,_ | ⟨c1,cr⟩⟩
  ·refine lH ?_;refine iW ?_;refine aA ?_;refine aJ 1 1 ?_;refine cS 0 (fun L:gB=>iE f hL.h L s z) L ?_;refine aJ 0 0 ?_;subst cO;exact bP 0 hF
  ·refine lH ?_;refine iW ?_;refine aA ?_;refine aJ 1 1 ?_;refine cS 0 (fun L:gB=>iE f hL.h L s z) L ?_;refine aJ 0 0 ?_;subst cO;exact bP 0 hF
  ·rw[pI] at iL;obtain⟨b,off,hA,hb,nE⟩:=iL.2 (by simp)
   have r1:Rd w [qm,R0] [dL hL s x2,iE f hL.h L s z,HP.many [cF,cF]] b (off+1) (iv (c1:Int)):=Rd.ro (p:=qm) (by simp) hb (nE 1 _ rfl)
   have hlen:decide ((c0::c1::cr).length < 2)=false:=by simp
   rw[hlen];refine lH ?_;refine jE ?_;refine Ed 27 rfl (fun h=>absurd h (by simp;omega)) (fun _=>?_);refine jE ?_;refine vQ (bJ rfl (Rd.dW 1 rfl rfl)) ?_;refine jE ?_;refine vQ (dat 1 (off+1) (hx:=by rw[←hA];rfl) (hlt:=by simp)) ?_;refine jE ?_;refine sY (fun w1 t=>aG8 hL s x2 w1 hH c1 (t.mG 0 rfl aQ mR)) ?_;refine iW ?_;refine aA ?_;refine aJ 1 1 ?_;refine cS 0 (fun L:gB=>iE f hL.h L s z) L ?_;refine aJ 0 0 ?_;subst cO;exact bP 0 hF
 ·refine aA ?_;refine aJ 1 1 ?_;refine cS 0 (fun L:gB=>iE f hL.h L s z) L ?_;refine aJ 0 0 ?_;subst cO;exact bP 0 hF
end
section
structure fO where
 id:Int
 dev:Int
 dead:Bool
 val:Int
def fO.cells(a:fO):List Value:=[iv a.id,iv a.dev,.bool a.dead,.int .u32 a.val]
def Ef(s:aC)(x:aR):Prop:=∀(i:Nat) (d:cG) (t:iZ),s.aD[i]? =some d→(x.wt[i]?).join=some t→0≤t.bO∧t.bO < d.aS.length∧0≤t.val∧t.val < 4294967296
def Ia(x:aR)(i:Nat)(wr:Bool)(bO v:Int):aR:={x with wt:=x.wt.set i (some ⟨x.aU,wr,bO,v⟩),aU:=x.aU+1}
def Eo(p:dS×fE)(t:iZ):dS×fE:=if t.wr then(⟨p.1.now.set t.bO.toNat t.val,p.1.saved,p.1.kept⟩,p.2) else p
def iH(s:aC)(x:aR)(i:Nat):aR×Option fO:=match(x.wt[i]?).join,s.aD[i]?,x.dv[i]? with
 | some t,some d,some p=>if xT s x i then({x with wt:=x.wt.set i none,dv:=x.dv.set i (Eo p t)},some ⟨t.id,i,false,p.1.now.getD t.bO.toNat 0⟩) else({x with wt:=x.wt.set i none},some ⟨t.id,i,true,d.iG⟩)
 | _,_,_=>(x,none)
section
variable{s:aC}{x:aR}
theorem aB2(hok:cX s x)(i:Nat)(q:Option iZ)(po:Int):cX s {x with wt:=x.wt.set i q,aU:=po}:=⟨hok.ck,hok.dm,hok.ln,hok.dv,hok.each,by show(x.wt.set i q).length=_;rw[List.length_set];exact hok.wt⟩
theorem aEC{d:cG}{p:dS×fE}{t:iZ}(hp:yB d p.1)(hv:0≤t.val∧t.val < 4294967296):yB d (Eo p t).1:=by
 unfold Eo;split
 ·refine⟨by simp[hp.now],hp.saved,fun v h=>?_,hp.u.2⟩;rcases List.mem_or_eq_of_mem_set h with h | rfl
  ·exact hp.u.1 v h
  ·exact hv
 ·exact hp
theorem aPg(hok:cX s x){i:Nat}{d:cG}{p:dS×fE}(hd:s.aD[i]? =some d)(h:yB d p.1∧zP p.2)(wt:List (Option iZ))(hw:wt.length=s.aD.length)(po:Int):cX s {x with dv:=x.dv.set i p,wt:=wt,aU:=po}:=
 ⟨hok.ck,hok.dm,hok.ln,by simp[hok.dv],fun j d' p' hd' hp'=>by
  by_cases hij:i=j
  ·subst hij
   have hlt:i < x.dv.length:=by simpa using(List.getElem?_eq_some_iff.1 hp').1
   rw[List.getElem?_set_self hlt] at hp';cases hp';cases hd.symm.trans hd';exact h
  ·rw[List.getElem?_set_ne hij] at hp'
   exact hok.each j d' p' hd' hp',hw⟩
theorem aRm(hok:cX s x)(lN:Ef s x)(i:Nat):cX s (iH s x i).1:=by
 unfold iH;split
 ·rename_i t d p ht hd hp
  obtain⟨h1,h2⟩:=hok.each i d p hd hp;split
  ·exact aPg hok hd ⟨aEC h1 (lN i d t hd ht).2.2,by unfold Eo;split<;>exact h2⟩ _ (by simp[hok.wt]) _
  ·exact aB2 hok i none _
 ·exact hok
theorem aBL{ws:List (Option iZ)}{i j:Nat}{t:iZ}(h:((ws.set i none)[j]?).join=some t):(ws[j]?).join=some t:=by
 by_cases hij:i=j
 ·subst hij;rw[List.getElem?_set] at h;simp at h;split at h<;>cases h
 ·rwa [List.getElem?_set_ne hij] at h
theorem aRk(lN:Ef s x)(i:Nat):Ef s (iH s x i).1:=by
 unfold iH;split
 ·split
  ·exact fun j d t hd ht=>lN j d t hd (aBL ht)
  ·exact fun j d t hd ht=>lN j d t hd (aBL ht)
 ·exact lN
end
section
variable(L:HL)(s:aC)(x:aR)(w:World)
theorem aG9(hH:s.dH)(aQ:gA L s)(hok:cX s x)(i:Nat)(d:cG)(cZ:s.aD[i]? =some d)(h0:(x.wt[i]?).join=none)(kZ:s.aD.length≤4)(bO:Int)(hr:0≤bO∧bO < 4∧bO < d.aS.length)(b:Bool)(v:Int)(lO:0≤x.aU∧x.aU≤1000000000)(F:Nat→Prop)(hp:(dL L s x).sat F w)(hF:∀b,F b→b < w.heap.size)(dD:eS ⟨w,fun b=>b < w.heap.size∧¬F b⟩):
  Cz 267 #[.pointer (some ⟨L.h,0,none⟩),.int .u32 (Rk i bO),.bool b,.int .u32 v] w (Wr (if wO x i=114 then .tuple #[iv x.aU,iv 0] else .tuple #[iv 0,iv 6]) (dL L s (if wO x i=114 then Ia x i b bO v else x)) w F):=by
 have hls:=aQ.ds
 have hxl:=hok.dv
 have wZ:=hok.wt
 have hi:=(List.getElem?_eq_some_iff.1 cZ).1
 obtain⟨l,iA⟩:=get_some (l:=L.ds) (i:=i) (by omega);obtain⟨p,gF⟩:=get_some (l:=x.dv) (i:=i) (by omega)
 have hin:bT s.aD.length (i:Int)=true:=decide_eq_true (by omega)
 have ha:=aHR (dev:=i) (bO:=bO) ⟨by omega,by omega⟩ ⟨hr.1,hr.2.1⟩
 have hst:wO x i=pF p.2.at_:=by
  unfold wO;rw[gF];rfl
 rw[hst];refine cT func267 ntmps267 hp hF ?_;generalize cO:(⟨w,fun b=>b < w.heap.size∧¬F b⟩:Piece)=R0 at dD⊢;refine aA ?_;refine aV (fun w1 t=>aHD _ i bO ha.z0 ha.z1 ha.z2 ha.z3 w1) ?_;refine aA ?_;refine aV (fun w1 t=>Px L s x w1 i (t.mG 0 rfl aQ hok)) ?_;rw[hin];refine Mv 0 rfl aQ hok (by omega) fun b0 off hA=>?_;refine aA ?_;refine bZ (t:=25) rfl (fun h=>absurd h (by omega)) (fun _=>?_);refine aA ?_;refine kd (bJ rfl (pQ 0 rfl rfl)) ?_;refine aA ?_;refine kd (dat i (off+i*6) (hx:=by rw[←hA];rfl)) ?_;refine aA ?_;refine kd (bJ rfl (aBt (vs:=Jd d l) 4 (aO.dev 0 rfl aQ hok hA cZ iA rfl) rfl)) ?_;refine aA ?_;refine aV (fun w1 t=>Tq l.1 d p.1 w1 ((t.mG 0 rfl aQ hok).each i d l p cZ iA gF).1) ?_;refine aA ?_;refine aG rfl (fun h=>absurd h (by omega)) (fun _=>?_);refine aA ?_;refine kd (bJ rfl (pQ 0 rfl rfl)) ?_;refine aA ?_;refine kd (dat i (off+i*6) (hx:=by rw[←hA];rfl)) ?_;refine aA ?_;refine kd (bJ rfl (aBt (vs:=Jd d l) 5 (aO.dev 0 rfl aQ hok hA cZ iA rfl) rfl)) ?_;refine aA ?_;refine aV (fun w1 t=>aF1 l.2 p.2 (hok.each i d p cZ gF).2 w1 (dD.at_ (t.le (by simp))) ((t.mG 0 rfl aQ hok).each i d l p cZ iA gF).2) ?_;refine aA ?_
 by_cases Bp:pF p.2.at_=114
 ·rw[Bp,if_pos rfl,if_pos rfl];refine aA ?_;refine kd (bJ rfl (pQ 0 rfl rfl)) ?_;refine aA ?_;refine aY 0 4 ?_;refine bX 0 (yE L.B (jR s) (x.wt.set i (some ⟨x.aU,b,bO,v⟩)) (x.aU+1)) (fun w1 F1 t h1 h2 h3=>aQM L.B (jR s) x.wt x.aU i (by rw[Fh];exact hi) (by rw[Fh];omega) (by rw[Fh];exact wZ) h0 _ bO ha.z0 ha.z1 ha.z2 ha.z3 d.aS.length (by simp[jR,cZ]) ⟨hr.1,hr.2.2⟩ b v lO w1 F1 h1 h2) ?_;refine aJ 0 4 ?_;refine aA ?_;subst cO;exact fQ rfl rfl rfl fun w1 t=>⟨rfl,t.turns hF (by simp) (i:=0) rfl⟩
 ·rw[if_neg Bp,if_neg Bp];refine aG rfl (fun _=>?_) (fun h=>absurd h (by simpa using Bp));refine aA ?_;subst cO;exact fQ rfl rfl rfl fun w1 t=>⟨rfl,t.turns hF (by simp) (i:=0) rfl⟩
theorem aNS(hH:s.dH)(aQ:gA L s)(hok:cX s x)(lN:Ef s x)(i:Nat)(d:cG)(cZ:s.aD[i]? =some d)(t:iZ)(ht:(x.wt[i]?).join=some t)(a:fO)(hx:(iH s x i).2=some a)(F:Nat→Prop)(hp:(dL L s x).sat F w)(hF:∀b,F b→b < w.heap.size):
  Cz 151 #[.pointer (some ⟨L.h,0,none⟩),iv (i:Int)] w (Wr (.tuple #[.agg a.cells.toArray,.bool true]) (dL L s (iH s x i).1) w F):=by
 have hls:=aQ.ds
 have hxl:=hok.dv
 have wZ:=hok.wt
 have hi:=(List.getElem?_eq_some_iff.1 cZ).1
 obtain⟨l,iA⟩:=get_some (l:=L.ds) (i:=i) (by omega);obtain⟨p,gF⟩:=get_some (l:=x.dv) (i:=i) (by omega);obtain⟨hfo,hqo⟩:=hok.each i d p cZ gF;obtain⟨r1,r2,r3,r4⟩:=lN i d t cZ ht
 have mR:cX s {x with wt:=x.wt.set i none}:=aB2 hok i none _
 have hwr:=aEC (t:=t) hfo ⟨r3,r4⟩
 obtain⟨rn,ern⟩:∃n:Nat,t.bO=(n:Int):=⟨t.bO.toNat,by omega⟩
 have fK:=hfo.now
 obtain⟨rv,Pn⟩:=get_some (l:=p.1.now) (i:=rn) (by omega)
 have hal:xT s {x with wt:=x.wt.set i none} i=xT s x i:=rfl
 have hX:iH s x i=if xT s x i then({x with wt:=x.wt.set i none,dv:=x.dv.set i (Eo p t)},some ⟨t.id,i,false,rv⟩) else({x with wt:=x.wt.set i none},some ⟨t.id,i,true,d.iG⟩):=by
  unfold iH;rw[ht,cZ,gF];dsimp only;rw[ern,Int.toNat_natCast,List.getD_eq_getElem?_getD,Pn];rfl
 rw[hX] at hx⊢;refine cT func151 ntmps151 hp hF ?_;generalize cO:(⟨w,fun b=>b < w.heap.size∧¬F b⟩:Piece)=R0;refine aA ?_;refine cE fun g1=>?_;refine aA ?_;refine kd (bJ rfl (pQ 1 rfl rfl)) ?_;refine aA ?_;refine aY 1 4 ?_;refine bX 0 (yE L.B (jR s) (x.wt.set i none) x.aU) (fun w1 F1 st h1 h2 h3=>aQK L.B (jR s) x.wt x.aU i (by rw[Fh];exact hi) (by rw[Fh];exact wZ) t ht w1 F1 h1 h2) ?_;refine aJ 1 4 ?_
 change XK _ _ _ _ _ [_,dL L s {x with wt:=x.wt.set i none}]
 generalize Fk:({x with wt:=x.wt.set i none}:aR)=x2 at mR hal⊢
 have Lo:x2.dv[i]? =some p:=by rw[←Fk];exact gF
 refine aA ?_;refine cE fun g2=>?_;refine Mv 2 rfl aQ mR (by omega) fun b off hA=>?_;refine aA ?_;refine kd (bJ rfl (pQ 2 rfl rfl)) ?_;refine aA ?_;refine kd (dat i (off+i*6) (hx:=by rw[←hA];rfl)) ?_;refine kd (jT rfl (aO.dev 2 rfl aQ mR hA cZ iA rfl)) ?_;refine cE fun g3=>?_;refine aA ?_;refine aV (fun w1 st=>aGD L s x2 w1 hH aQ mR i hi (st.mG 3 rfl aQ mR)) ?_;rw[hal];cases hb:xT s x i
 ·rw[hb] at hx;simp at hx;subst hx;refine aA ?_;refine kd (iM rfl) ?_;refine aA ?_;subst cO;exact zG (vs:=[iv t.id,iv i,.bool true,.int .u32 d.iG]) rfl (by kernel_rfl) rfl rfl (aO.whole 2 rfl) rfl fun w1 st=>⟨rfl,st.turns hF (by simp) (i:=3) rfl⟩
 ·rw[hb] at hx;simp at hx;subst hx;refine aA ?_;rw[ern];refine aV (fun w1 st=>aLr l.1 d p.1 rn rv hfo.now Pn w1 ((st.mG 3 rfl aQ mR).each i d l p cZ iA Lo).1) ?_;refine aA ?_
  have Ut:t.bO.toNat=rn:=by omega
  cases hw:t.wr
  ·have hwf:Eo p t=p:=by
    unfold Eo;rw[hw];rfl
   have hxx:({x with wt:=x.wt.set i none,dv:=x.dv.set i p}:aR)=x2:=by
    rw[wS gF];exact Fk
   rw[hwf,hxx];refine aA ?_;refine kd (iM rfl) ?_;refine aA ?_;subst cO;exact zG (vs:=[iv t.id,iv i,.bool false,.int .u32 rv]) rfl (by kernel_rfl) rfl rfl (aO.whole 2 rfl) rfl fun w1 st=>⟨rfl,st.turns hF (by simp) (i:=3) rfl⟩
  ·have hwf:Eo p t=(⟨p.1.now.set rn t.val,p.1.saved,p.1.kept⟩,p.2):=by
    unfold Eo;rw[hw,Ut];rfl
   rw[hwf];refine aA ?_;refine Rp 3 i rfl cZ iA Lo ?_;dsimp only[List.set];refine aY 0 0 ?_;refine bX 0 (gR l.1 d ⟨p.1.now.set rn t.val,p.1.saved,p.1.kept⟩) (fun w1 F1 st h1 h2 h3=>aLo l.1 d p.1 rn t.val hfo.now (by omega) w1 F1 h1 h2) ?_;refine aJ 0 0 ?_;refine Rw 3 i rfl cZ iA Lo (p':=(⟨p.1.now.set rn t.val,p.1.saved,p.1.kept⟩,p.2)) ?_;dsimp only[List.set];refine aA ?_;refine kd (iM rfl) ?_;refine aA ?_;subst cO;subst Fk;exact zG (vs:=[iv t.id,iv i,.bool false,.int .u32 rv]) rfl (by kernel_rfl) rfl rfl (aO.whole 2 rfl) rfl fun w1 st=>⟨rfl,st.turns hF (by simp) (i:=3) rfl⟩
end
end
section
structure qA where
 st:Int
 kind:Int
 dev:Int
 bO:Int
 val:Int
 err:Int
 res:Int
 hs:List Int
def Su:qA:=⟨0,0,0,0,0,0,0,[0,0,0,0,0,0]⟩
def hG(t:qA)(i:Nat):Int:=t.hs.getD i 0
structure bH where
 cn:Cn
 wn:dR
 t0:qA
 t1:qA
 t2:qA
 cM:Int
 steps:List fD
 sent:Bool
 aU:Bool
 id:Int
 many:Int
def rp0(s:aC):bH:=⟨⟨[],false⟩,jM s,Su,Su,Su,-1,[],false,false,0,0⟩
def bH.tk(z:bH):Nat→qA
 | 0=>z.t0
 | 1=>z.t1
 | _=>z.t2
def bH.jC(z:bH)(j:Nat)(t:qA):bH:={z with t0:=if j=0 then t else z.t0,t1:=if j=1 then t else z.t1,t2:=if j=2 then t else z.t2}
structure dJ where
 a1:AC
 a2:AC
 a3:AC
 a4:AC
 gc:Nat
 gm:Nat
 nd:AC
 w1:AC
 w2:AC
 w3:AC
 st:AC
def tkC(t:qA):List Value:=[iv t.st,.int .u8 t.kind,iv t.dev,iv t.bO,.int .u32 t.val,iv t.err,.int .u32 t.res,iv (hG t 0),iv (hG t 1),iv (hG t 2),iv (hG t 3),iv (hG t 4),iv (hG t 5)]
def lI(h f:Nat)(L:dJ)(s:aC)(z:bH):List Value:=
  [pt h,pt f,.slice L.a1.1 s.aF.length L.a1.2,.slice L.a2.1 s.domains.length L.a2.2,.slice L.a3.1 s.bA.length L.a3.2,.slice L.a4.1 s.aD.length L.a4.2,.pointer (some ⟨L.gc,0,none⟩),.slice L.w1.1 z.wn.d.length L.w1.2,.slice L.w2.1 z.wn.c.length L.w2.2,.slice L.w3.1 z.wn.l.length L.w3.2,
   iv z.t0.st,.int .u8 z.t0.kind,iv z.t0.dev,iv z.t0.bO,.int .u32 z.t0.val,iv z.t0.err,.int .u32 z.t0.res,iv (hG z.t0 0),iv (hG z.t0 1),iv (hG z.t0 2),iv (hG z.t0 3),iv (hG z.t0 4),iv (hG z.t0 5),
   iv z.t1.st,.int .u8 z.t1.kind,iv z.t1.dev,iv z.t1.bO,.int .u32 z.t1.val,iv z.t1.err,.int .u32 z.t1.res,iv (hG z.t1 0),iv (hG z.t1 1),iv (hG z.t1 2),iv (hG z.t1 3),iv (hG z.t1 4),iv (hG z.t1 5),
   iv z.t2.st,.int .u8 z.t2.kind,iv z.t2.dev,iv z.t2.bO,.int .u32 z.t2.val,iv z.t2.err,.int .u32 z.t2.res,iv (hG z.t2 0),iv (hG z.t2 1),iv (hG z.t2 2),iv (hG z.t2 3),iv (hG z.t2 4),iv (hG z.t2 5),
   iv z.cM,.slice L.st.1 z.steps.length L.st.2,.bool z.sent,.bool z.aU,iv z.id,iv z.many]
def lU(L:dJ)(s:aC)(p:Piece):Prop:=qR p s L.a1.1 s.aF.length L.a2.1 s.domains.length L.a3.1 s.bA.length L.a4.1 s.aD.length
theorem lU.le{L:dJ}{s:aC}(p q:Piece)(hl:p.Le q)(h:lU L s p):lU L s q:=qR.le h hl
def tA(L:dJ)(x:dR)(p:Piece):Prop:=aI p 1 L.w1.1 x.d.length (bG x.d)∧aI p 1 L.w2.1 x.c.length (bG x.c)∧aI p 1 L.w3.1 x.l.length (bG x.l)
theorem tA.le{L:dJ}{x:dR}(p q:Piece)(hl:p.Le q)(h:tA L x p):tA L x q:=⟨h.1.le hl,h.2.1.le hl,h.2.2.le hl⟩
def Ni(L:dJ)(s:aC)(p:Piece):Prop:=nM p L.nd.1 (dK s).length (dK s)
theorem Ni.le{L:dJ}{s:aC}(p q:Piece)(hl:p.Le q)(h:Ni L s p):Ni L s q:=nM.le h hl
def nL(L:dJ)(l:List fD)(p:Piece):Prop:=aI p 4 L.st.1 l.length (l.flatMap fD.cells)∧l.length≤L.st.2
theorem nL.le{L:dJ}{l:List fD}(p q:Piece)(hl:p.Le q)(h:nL L l p):nL L l q:=⟨h.1.le hl,h.2⟩
def fZ(g h f:Nat)(L:dJ)(s:aC)(z:bH):HP:=HP.many [HP.aE g 190 (lI h f L s z),HP.bU (lU L s) (lU.le (L:=L) (s:=s)),HP.bU (tA L z.wn) (tA.le (L:=L) (x:=z.wn)),qU L.gc L.gm (.slice L.nd.1 (dK s).length L.nd.2) z.cn,HP.bU (Ni L s) (Ni.le (L:=L) (s:=s)),HP.bU (nL L z.steps) (nL.le (L:=L) (l:=z.steps))]
def jK(g h f:Nat)(s:aC)(z:bH):HP:=HP.ex fun L:dJ=>fZ g h f L s z
structure Yc(w:World)(g h f:Nat)(L:dJ)(s:aC)(z:bH):Prop where
 r0:dU w g 0 (lI h f L s z)
 so:lU L s (all w)
 wn:tA L z.wn (all w)
 cn:dU w L.gc 0 [.slice L.nd.1 (dK s).length L.nd.2,.map (some L.gm),.bool z.cn.lS]
 nd:Ni L s (all w)
 sp:nL L z.steps (all w)
theorem aI2{g h f:Nat}{L:dJ}{s:aC}{z:bH}{F:Nat→Prop}{w:World}(k:(fZ g h f L s z).sat F w)(hF:∀b,F b→b < w.heap.size):Yc w g h f L s z:=by
 obtain⟨G,g1,g2,_⟩:=k
 have hl:∀i,(⟨w,G i⟩:Piece).Le (all w):=fun i b hb=>⟨hF b (g2 i b hb),rfl⟩
 obtain⟨G',k1,_,_⟩:=g1 3 _ rfl;exact⟨uL (g1 0 _ rfl).2,lU.le _ _ (hl 1) (g1 1 _ rfl),tA.le _ _ (hl 2) (g1 2 _ rfl),uL (k1 0 _ rfl).2,Ni.le _ _ (hl 4) (g1 4 _ rfl),nL.le _ _ (hl 5) (g1 5 _ rfl)⟩
theorem St.aBP{w0 w:World}{R:List Piece}{H:List HP}{g h f:Nat}{L:dJ}{s:aC}{z:bH}(t:St w0 R H w)(i:Nat)(hi:H[i]? =some (fZ g h f L s z)):Yc w g h f L s z:=by
 obtain⟨F,h1,h2,_⟩:=t.chunk hi;exact aI2 h1 h2
theorem aBQ(t:Int)(w:World):Cz 98 #[iv t] w (Rt (.bool (bT 3 t)) w):=by
 refine aN func98 ntmps98 ?_;refine aA ?_;refine bZ (t:=5) rfl (fun h=>?_) (fun h=>?_)
 ·refine aA ?_;refine jJ (by simp) ?_;unfold bT
  congr 1
  simp;omega
 ·refine aA ?_;refine jJ (by simp) ?_
  have:bT 3 t=false:=decide_eq_false (by omega)
  rw[this]
theorem yR{t:Int}(h:bT 3 t=true):∃j:Nat,t=(j:Int)∧(j=0∨j=1∨j=2):=by
 have:=of_decide_eq_true h
 exact⟨t.toNat,by omega,by omega⟩
section
variable(g h f:Nat)(L:dJ)(s:aC)(z:bH)(w:World)
theorem aKY(d:Int)(hR:Yc w g h f L s z):Cz 263 #[pt g,iv d] w (Rt (.bool (bT s.aD.length d)) w):=by
 have k5:=hR.r0.at_ (j:=5) rfl
 refine aN func263 ntmps263 ?_;refine aA ?_;refine bZ (t:=7) rfl (fun h=>?_) (fun h=>?_)
 ·refine aA ?_;refine jJ (by simp) ?_;unfold bT
  congr 1
  simp;omega
 ·refine aA ?_;refine jJ (by simp) ?_
  have:bT s.aD.length d=false:=decide_eq_false (by omega)
  rw[this]
theorem aKV(hR:Yc w g h f L s z):Cz 86 #[pt g] w (Rt (iv z.cM) w):=by
 have k0:=hR.r0.at_ (j:=49) rfl
 refine aN func86 ntmps86 ?_;refine aA ?_;exact dI
end
end
section
section
variable{N:bY}{w0:World}{e:Env}{R:List Piece}{H:List HP}{Q:Exit→Act→World→Prop}{ops:Array Oper}{rest:List Oper}{pos:String}{ty:TypeId}{aH:Array Edge}
theorem Db(i:Nat){x y:Operand}{s t:TypeId}{g o:Nat}{cs vs:List Value}(hi:H[i]? =some (HP.aE g t cs))(k:XK N w0 (wpList Tryz.prog ops Q rest) e R (H.set i (HP.aE g t (fP cs o vs))))(hx:e.ev x=some (.pointer (some ⟨g,o,none⟩)):=by rfl)(hy:e.ev y=some (.agg vs.toArray):=by rfl)(hs:(Tryz.prog.info? s).any (·.size==vs.length)=true:=by kernel_rfl)(h1:vs.all Value.oneCell'=true:=by rfl)(hl:decide (o+vs.length≤cs.length)=true:=by rfl):
  XK N w0 (wpList Tryz.prog ops Q (⟨none,.store s x y,ty,pos,aH,none⟩::rest)) e R H:=
 qC i hi hx hy hs (fun u hu=>List.all_eq_true.1 h1 u (by simpa[Value.cells] using hu)) (by simpa[Value.cells] using of_decide_eq_true hl) (by simpa[Value.cells] using k)
end
section
variable{P:Program}{N:bY}{w0 w:World}{e:Env}{R:List Piece}{H:List HP}{p:HP}{Q:Exit→Act→World→Prop}
theorem St.bL(st:St w0 R (p::H) w):St w0 R (cF::H) w:=st.wG (i:=0) (p:=p) rfl (Nat.le_refl _) rfl rfl rfl fun F _ hlt=>⟨F,trivial,fun b hb=>⟨.inl hb,hlt b hb⟩,fun _ _ _=>rfl⟩
theorem Gw(Z:List Nat){id:Nat}{l:List Oper}(h:XB P N w0 l.toArray Q R (cF::H) Z l.length (Array.replicate l.length false) e R (p::H))(hm:P.follows .mixedOrders=true:=by kernel_rfl)(hc:Region.noSelect l.toArray=true:=by kernel_rfl):XK N w0 ((Code.region id l.toArray true).wp P Q) e R (p::H):=fun a w hr st=>by
 have:=h ⟨Down.start _ _,hc⟩ a w.drew hr st.drew
 refine wp_region_any hm (aB5 (S:=St w0 R (cF::H)) (Z:=Z) _ _ _ _ ?_)
 simpa using this
end
def Qm(k:Int):Value:=if k=103 then .iface 284 (.agg #[]) else if k=112 then .iface 285 (.agg #[]) else if k=114 then .iface 287 (.agg #[.bool false]) else if k=119 then .iface 287 (.agg #[.bool true]) else if k=115 then .iface 288 (.agg #[]) else if k=109 then .iface 289 (.agg #[]) else .nilIface
def vE(k:Int):Prop:=k=103∨k=112∨k=114∨k=119∨k=115∨k=109
instance(k:Int):Decidable (vE k):=by unfold vE;infer_instance
theorem aBR(k:Int)(w:World):Cz 131 #[.int .u8 k] w (Rt (Qm k) w):=by
 unfold Qm;refine aN func131 ntmps131 ?_;refine aA ?_;refine aG rfl (fun h0=>?_) (fun h0=>?_)
 ·rw[if_pos h0];refine aB ?_;refine kd (Qs rfl) ?_;refine aA ?_;exact dI
 rw[if_neg h0];refine aA ?_;refine aG rfl (fun h1=>?_) (fun h1=>?_)
 ·rw[if_pos h1];refine aB ?_;refine kd (Qs rfl) ?_;refine aA ?_;exact dI
 rw[if_neg h1];refine aA ?_;refine aG rfl (fun h2=>?_) (fun h2=>?_)
 ·rw[if_pos h2];refine aB ?_;refine kd (Qs rfl) ?_;refine aA ?_;exact dI
 rw[if_neg h2];refine aA ?_;refine aG rfl (fun h3=>?_) (fun h3=>?_)
 ·rw[if_pos h3];refine aB ?_;refine kd (Qs rfl) ?_;refine aA ?_;exact dI
 rw[if_neg h3];refine aA ?_;refine aG rfl (fun h4=>?_) (fun h4=>?_)
 ·rw[if_pos h4];refine aB ?_;refine kd (Qs rfl) ?_;refine aA ?_;exact dI
 rw[if_neg h4];refine aA ?_;refine aG rfl (fun h5=>?_) (fun h5=>?_)
 ·rw[if_pos h5];refine aB ?_;refine kd (Qs rfl) ?_;refine aA ?_;exact dI
 rw[if_neg h5];refine aA ?_;exact dI
theorem aPa{k:Int}(h:¬vE k):Qm k=.nilIface:=by
 unfold vE at h;unfold Qm;rw[if_neg (by omega),if_neg (by omega),if_neg (by omega),if_neg (by omega),if_neg (by omega),if_neg (by omega)]
theorem aOY{k:Int}(h:vE k):∃u y,Qm k=.iface u y:=by
 rcases h with rfl | rfl | rfl | rfl | rfl | rfl<;>exact⟨_,_,rfl⟩
def qF(z:bH)(t kind dev bO val:Int):Int×bH:=if bT 3 t=false then(4,z) else if(z.tk t.toNat).st≠0 then(7,z) else if ¬vE kind then(1,z) else(0,z.jC t.toNat {z.tk t.toNat with st:=1,kind:=kind,dev:=dev,bO:=bO,val:=val})
section
variable(g h f:Nat)(s:aC)(z:bH)(w:World)(F:Nat→Prop)
theorem aKR(t kind dev bO val:Int)(hp:(jK g h f s z).sat F w)(hF:∀b,F b→b < w.heap.size):
  Cz 85 #[pt g,iv t,.agg #[.int .u8 kind,iv dev,iv bO,.int .u32 val]] w (Wr (iv (qF z t kind dev bO val).1) (jK g h f s (qF z t kind dev bO val).2) w F):=by
 unfold qF;refine cT func85 ntmps85 hp hF ?_;refine aA ?_;refine bN fun g1=>?_;refine aA ?_;refine aV (fun w1 _=>aBQ t w1) ?_;cases hin:bT 3 t
 ·refine aA ?_;exact bP 1 hF
 ·rw [if_neg (by simp)];obtain⟨j,rfl,hj⟩:=yR hin;rw[Int.toNat_natCast];refine iX 1 fun L=>?_;refine aY 1 0 ?_
  by_cases hst:(z.tk j).st=0
  ·rw[if_neg (by simpa using hst)]
   by_cases hk:vE kind
   ·rw[if_neg (by simpa using hk)];obtain⟨u,y,hy⟩:=aOY hk;obtain⟨z',hz⟩:∃z',z'=z.jC j {z.tk j with st:=1,kind:=kind,dev:=dev,bO:=bO,val:=val}:=⟨_,rfl⟩
    rw[←hz];rcases hj with rfl | rfl | rfl
    all_goals
     refine aA ?_;refine kd (fM _ _ (ho:=rfl)) ?_;refine aA ?_;refine aG rfl (fun h1=>absurd hst h1) (fun _=>?_);refine aA ?_;refine aV (fun w1 _=>aBR kind w1) ?_;rw[hy];refine aA ?_;refine kd (aHs rfl (.inr ⟨⟨_,_,rfl⟩,rfl⟩)) ?_;refine aA ?_;refine kd (fM _ _ (ho:=rfl)) ?_;refine aA ?_;refine Gw [2] ?_;refine bK 0 ?_ (hsub:=fun _ h=>h.bL);refine bK 1 ?_ (hsub:=fun _ h=>h.bL);refine aK 2 ?_ (hsub:=fun _ h=>h.bL);refine aL 3 ?_;refine bF ?_;refine bE ?_ (hS:=fun _ h=>h.bL);refine aL 4 ?_;refine bF ?_;refine bE ?_ (hS:=fun _ h=>h.bL);refine aL 5 ?_;refine eN rfl rfl ?_ (hs:=eJ.mk 0 rfl cP.h rfl (of_decide_eq_true rfl));dsimp only[List.set];refine bE ?_ (hS:=fun _ h=>h.bL);refine aL 6 ?_;refine bF ?_;refine bE ?_ (hS:=fun _ h=>h.bL);refine aL 7 ?_;refine bF ?_;refine bE ?_ (hS:=fun _ h=>h.bL);refine aL 8 ?_;refine Db 0 rfl ?_;dsimp only[List.set];refine bE ?_ (hS:=fun _ h=>h.bL);refine eC ?_;refine aA ?_;refine aJ 1 0 ?_;refine uM 1 (f:=fun L:dJ=>fZ g h f L s z') L (by subst hz;rfl) ?_;dsimp only[List.set];exact bP 1 hF
   ·rw[if_pos (by simpa using hk)];rcases hj with rfl | rfl | rfl
    all_goals
     refine aA ?_;refine kd (fM _ _ (ho:=rfl)) ?_;refine aA ?_;refine aG rfl (fun h1=>absurd hst h1) (fun _=>?_);refine aA ?_;refine aV (fun w1 _=>aBR kind w1) ?_;rw[aPa hk];refine aA ?_;refine kd (aHs rfl (.inl ⟨rfl,rfl⟩)) ?_;refine aA ?_;refine aJ 1 0 ?_;refine cS 1 (fun L:dJ=>fZ g h f L s z) L ?_;exact bP 1 hF
  ·rw[if_pos hst];rcases hj with rfl | rfl | rfl
   all_goals
    refine aA ?_;refine kd (fM _ _ (ho:=rfl)) ?_;refine aA ?_;refine aG rfl (fun _=>?_) (fun h1=>absurd (Decidable.not_not.1 h1) hst);refine aA ?_;refine aJ 1 0 ?_;refine cS 1 (fun L:dJ=>fZ g h f L s z) L ?_;exact bP 1 hF
end
end
section
section
variable{N:bY}{w0:World}{e:Env}{R:List Piece}{H:List HP}{K:Act→World→Prop}
theorem xZ(i:Nat){b o:Nat}{t:TypeId}{cs vs:List Value}(hi:H[i]? =some (HP.aE b t cs))(hv:(cs.drop o).take vs.length=vs):aO w0 R H b o vs:=aO.aE i hi fun j v hj=>by
 rw[←hv,List.getElem?_take] at hj;split at hj
 ·rw[List.getElem?_drop] at hj;exact hj
 ·cases hj
theorem aRC(j i:Nat){ps:List HP}{p q:HP}(hj:H[j]? =some (HP.many ps))(hi:ps[i]? =some p)(hq:∀F w,p.sat F w→q.sat F w)(k:XK N w0 K e R (H.set j (HP.many (ps.set i q)))):XK N w0 K e R H:=by
 have hlt:=(List.getElem?_eq_some_iff.1 hj).1
 have hli:=(List.getElem?_eq_some_iff.1 hi).1
 refine qM j i hj hi ?_;refine pK 0 rfl hq ?_;refine qO j i (by rw[List.getElem?_set_self hlt]) (by rw[List.getElem?_set_self hli]) ?_;rw[List.set_set,List.set_set];exact k
end
def oB(z:bH)(j:Nat)(err res:Int):bH:={z.jC j {z.tk j with st:=3,err:=err,res:=res} with cM:= -1,steps:=[],sent:=false,aU:=false}
def iQ(z:bH)(t:Int):(Int×Int×Bool)×bH:=if bT 3 t=false then((0,0,false),z) else if(z.tk t.toNat).st≠3 then((0,0,false),z) else(((z.tk t.toNat).err,(z.tk t.toNat).res,true),z.jC t.toNat {z.tk t.toNat with st:=0,kind:=0,dev:=0,bO:=0,val:=0,err:=0,res:=0})
section
variable(g h f:Nat)(s:aC)(z:bH)(w:World)(F:Nat→Prop)
theorem Kt(j:Nat)(cM:z.cM=(j:Int))(hj:j=0∨j=1∨j=2)(err res:Int)(hp:(jK g h f s z).sat F w)(hF:∀b,F b→b < w.heap.size):
  Cz 158 #[pt g,.agg #[iv err,.int .u32 res]] w (Wr (.tuple #[]) (jK g h f s (oB z j err res)) w F):=by
 refine cT func158 ntmps158 hp hF ?_;obtain⟨z',hz⟩:∃z',z'=oB z j err res:=⟨_,rfl⟩
 rw[←hz];refine iX 0 fun L=>?_;refine aY 0 0 ?_;rcases hj with rfl | rfl | rfl
 all_goals
  refine aA ?_;refine bN fun g1=>?_;refine aT [1,0,2] rfl (by decide) (fun _ h=>h) ?_;refine aA ?_;refine lH ?_;refine jE ?_;refine vQ (fM _ _ (hj:=cM) (ho:=rfl)) ?_;refine iW ?_;refine aA ?_;refine Gw [2] ?_;refine bK 0 ?_ (hsub:=fun _ h=>h.bL);refine bK 1 ?_ (hsub:=fun _ h=>h.bL);refine aK 2 ?_ (hsub:=fun _ h=>h.bL);refine aL 3 ?_;refine bF ?_;refine bE ?_ (hS:=fun _ h=>h.bL);refine aL 4 ?_;refine bF ?_;refine bE ?_ (hS:=fun _ h=>h.bL);refine aL 5 ?_;refine eN rfl rfl ?_ (hs:=eJ.mk 0 rfl cP.h rfl (of_decide_eq_true rfl));dsimp only[List.set];refine bE ?_ (hS:=fun _ h=>h.bL);refine aL 6 ?_;refine bF ?_;refine bE ?_ (hS:=fun _ h=>h.bL);refine aL 7 ?_;refine bF ?_;refine bE ?_ (hS:=fun _ h=>h.bL);refine aL 8 ?_;refine Db 0 rfl ?_;dsimp only[List.set];refine bE ?_ (hS:=fun _ h=>h.bL);refine eC ?_;refine aA ?_;refine eN rfl rfl ?_ (hs:=eJ.mk 0 rfl cP.h rfl (of_decide_eq_true rfl));dsimp only[List.set];refine aA ?_;refine eN rfl rfl ?_ (hs:=eJ.mk 0 rfl cP.h rfl (of_decide_eq_true rfl));dsimp only[List.set];refine aA ?_;refine eN rfl rfl ?_ (hs:=eJ.mk 0 rfl cP.h rfl (of_decide_eq_true rfl));dsimp only[List.set];refine aA ?_;refine eN rfl rfl ?_ (hs:=eJ.mk 0 rfl cP.h rfl (of_decide_eq_true rfl));dsimp only[List.set];refine aA ?_;refine aJ 1 0 ?_;refine aRC (q:=HP.bU (nL {L with st:=(none,0)} []) (nL.le (L:={L with st:=(none,0)}) (l:=[]))) 1 5 rfl rfl (fun F w _=>⟨aI.nil _ _,Nat.le_refl _⟩) ?_;dsimp only[List.set];refine uM 1 (f:=fun L:dJ=>fZ g h f L s z') {L with st:=(none,0)} (by subst hz;rfl) ?_;dsimp only[List.set];exact fB 1 hF
theorem aKX(t:Int)(hp:(jK g h f s z).sat F w)(hF:∀b,F b→b < w.heap.size):
  Cz 135 #[pt g,iv t] w (Wr (.tuple #[.agg #[iv (iQ z t).1.1,.int .u32 (iQ z t).1.2.1],.bool (iQ z t).1.2.2]) (jK g h f s (iQ z t).2) w F):=by
 unfold iQ;refine cT func135 ntmps135 hp hF ?_;refine aA ?_;refine cE fun g1=>?_;refine aA ?_;refine aV (fun w1 _=>aBQ t w1) ?_;cases hin:bT 3 t
 ·refine aA ?_;refine kd (iM rfl) ?_;refine aA ?_;exact zG (vs:=[iv 0,.int .u32 0]) rfl (by kernel_rfl) rfl rfl (aO.whole 0 rfl) rfl fun w1 t=>⟨rfl,t.turns hF (by simp) (i:=1) rfl⟩
 ·rw[if_neg (by simp)];obtain⟨j,rfl,hj⟩:=yR hin;rw[Int.toNat_natCast];refine iX 1 fun L=>?_;refine aY 1 0 ?_
  by_cases hst:(z.tk j).st=3
  ·rw[if_neg (by simpa using hst)];obtain⟨z',hz⟩:∃z',z'=z.jC j {z.tk j with st:=0,kind:=0,dev:=0,bO:=0,val:=0,err:=0,res:=0}:=⟨_,rfl⟩
   rw[←hz];rcases hj with rfl | rfl | rfl
   all_goals
    refine aA ?_;refine kd (fM _ _ (ho:=rfl)) ?_;refine aA ?_;refine aG rfl (fun h1=>absurd hst h1) (fun _=>?_);refine aA ?_;refine kd (fM _ _ (ho:=rfl)) ?_;refine aA ?_;refine kd (jT rfl (xZ (vs:=[_,_]) 0 rfl rfl)) ?_;refine cE fun g2=>?_;refine aA ?_;refine kd (iM rfl) ?_;refine kd (iM rfl) ?_;refine aA ?_;refine eN rfl rfl ?_ (hs:=eJ.mk 1 rfl cP.h rfl (of_decide_eq_true rfl));dsimp only[List.set];refine aA ?_;refine Db 1 rfl ?_;dsimp only[List.set];refine aA ?_;refine Db 1 rfl ?_;dsimp only[List.set];refine aA ?_;refine aT [1,0,2,3] rfl (by decide) (fun _ h=>h) ?_;refine aJ 2 0 ?_;refine uM 2 (f:=fun L:dJ=>fZ g h f L s z') L (by subst hz;rfl) ?_;dsimp only[List.set];exact zG (vs:=[_,_]) rfl (by kernel_rfl) rfl rfl (aO.whole 1 rfl) rfl fun w1 t=>⟨rfl,t.turns hF (by simp) (i:=2) rfl⟩
  ·rw[if_pos hst];rcases hj with rfl | rfl | rfl
   all_goals
    refine aA ?_;refine kd (fM _ _ (ho:=rfl)) ?_;refine aA ?_;refine aG rfl (fun _=>?_) (fun h1=>absurd (Decidable.not_not.1 h1) hst);refine aA ?_;refine kd (iM rfl) ?_;refine aA ?_;refine aJ 1 0 ?_;refine cS 1 (fun L:dJ=>fZ g h f L s z) L ?_;exact zG (vs:=[iv 0,.int .u32 0]) rfl (by kernel_rfl) rfl rfl (aO.whole 0 rfl) rfl fun w1 t=>⟨rfl,t.turns hF (by simp) (i:=1) rfl⟩
end
end
section
def Jn(ks:List Int)(v:Int):List Int:=if ks.contains v then ks else ks++[v]
def Kk(g:List (List Int))(ks:List Int)(i:Nat):List Int:=if ks.contains (i:Int) then(g.getD i []).foldl Jn ks else ks
def La(g:List (List Int))(v:Int)(n:Nat):Nat→List Int
 | 0=>[v]
 | k+1=>Kk g (La g v n k) (n - 1 - k)
def sD(ks:List Int)(v:Int)(n:Nat):List Nat:=(List.range n).filter fun u:Nat=>decide (¬(u:Int)=v)&&ks.contains (u:Int)
def zF(g:List (List Int))(v:Int)(n:Nat):List Nat:=sD (La g v n n) v n
theorem aFE(ks:List Int)(v:Int)(n:Nat):(sD ks v n).length≤n:=Nat.le_trans (List.length_filter_le _ _) (by simp)
theorem aLW(ks:List Int)(v:Int)(n:Nat):sD ks v (n+1)=if(decide (¬(n:Int)=v)&&ks.contains (n:Int))=true then sD ks v n++[n] else sD ks v n:=by
 unfold sD;rw[List.range_succ,List.filter_append];simp only[List.filter_cons,List.filter_nil];split<;>simp
theorem aLY(A:Option Addr)(n c:Nat)(g:List (List Int))(v:Int)(w:World)(hg:nM (all w) A n g)(hn:n=g.length)(hn2:n≤100)(hlen:∀l∈g,(l.length:Int)≤9223372036854775806)(hv:0≤v∧v < n)(ho:fJ g=(0,List.range n)):
  Cz 250 #[.slice A n c,iv v] w (fun y w'=>(∃x,y=.returned x∧Sd g x w w')∧Below w.heap.size w w'):=by
 refine aN func250 ntmps250 ?_;refine aA ?_;refine kA [] (Sd g) (fun w1 st=>(Zt A n c g w1 (hg.le (st.le (by simp))) hn (by omega) hlen).mono fun y w' h=>h.aCa) ?_;rintro _ w1 q ⟨A',m,c',rfl,hm,hs⟩ hf _ hfr
 have hs:=hs.le hf
 rw[ho] at hs hm;rw[ho];dsimp only at hs hm⊢;refine aA ?_;refine bZ (t:=18) rfl (fun h=>absurd h (by omega)) (fun _=>?_);refine aA ?_;refine aG rfl (fun h=>absurd h (by omega)) (fun _=>?_);refine aA ?_;exact fQ rfl rfl rfl fun w1 t=>⟨⟨_,rfl,A',m,c',by rw[ho];rfl,by rw[ho];exact hm,by rw[ho];exact hs.le (t.mT (by simp) (hfr (by simp)))⟩,t.below (by simp)⟩
theorem aLV(q:Piece)(r:Nat)(ks:List Int)(A:Option Addr)(n c:Nat)(v:Int)(w:World)(hn2:n≤100)(hm:vV w r (kV ks))(hq:q.Le (all w))(hs:aI q 1 A n (aM (dO (List.range n)))):
  Cz 251 #[.slice A n c,.map (some r),iv v] w (Sa (Hi (sD ks v n)) w):=by
 refine aN func251 ntmps251 ?_;refine zH q (by simp) hq ?_;refine aA ?_;refine lT 3 1 ?_;refine bM [(12,iv 0),(11,iv n),(10,.slice A n c),(7,sn),(1,.map (some r)),(2,iv v)] ?_;refine eU (fun m e R H=>∃(i:Nat) (B:Option Addr) (k:Nat),i≤n∧m=n - i∧e=[(12,iv i),(11,iv n),(10,.slice A n c),(7,.slice B (sD ks v i).length k),(1,.map (some r)),(2,iv v)]∧R=[q,all w]∧H=[HP.own 3 1 (.slice B (sD ks v i).length k) (sD ks v i).length (aM (dO (sD ks v i)))]) n ⟨0,none,0,by omega,rfl,rfl,rfl,rfl⟩ fun m e R H hI=>?_;obtain⟨i,B,k,hi,rfl,rfl,rfl,rfl⟩:=hI
 have nZ:=aFE ks v i
 have dB:=aLW ks v i
 generalize hl:sD ks v i=l at nZ dB⊢;refine aA ?_;refine aG rfl (fun hlt=>?_) (fun hge=>?_)
 ·have hlt:i < n:=by omega
  obtain⟨b,off,hA,hz,hc⟩:=hs.2 (by omega)
  have Dp:=hc i (iv (i:Int)) (by simp[aM,dO,hlt])
  refine aA ?_;refine kd (dat i (off+i) (hx:=by rw[←hA];rfl)) ?_;refine aA ?_;refine kd (bJ rfl (Rd.ro (p:=q) (by simp) hz Dp)) ?_;refine aA ?_;refine bZ (t:=19) rfl (fun hv=>?_) (fun hv=>?_)
  ·refine aA ?_;refine aV (fun w1 t=>aAe r i ks w1 (hm.below (t.below (by simp)))) ?_;rw[decide_eq_true hv,Bool.true_and] at dB;cases hk:ks.contains (i:Int)
   ·rw[hk,if_neg (by simp)] at dB;refine aA ?_;refine bM [(12,iv (i+1:Nat)),(11,iv n),(10,.slice A n c),(7,.slice B l.length k),(1,.map (some r)),(2,iv v)] ?_;exact gQ (n - (i+1)) (by omega) ⟨i+1,B,k,hlt,rfl,by rw[dB],rfl,by rw[dB]⟩
   ·rw[hk,if_pos rfl] at dB;refine aA ?_;refine eK fun g4=>?_;refine iF 1 1 8 1 (n':=l.length+1) (el:=3) (by kernel_rfl) (by kernel_rfl) (by decide) rfl rfl rfl (mO 0 rfl rfl) (by simp[Value.oneCell']) rfl (by omega) (by omega) (by decide) fun An cn=>?_;dsimp only[List.set];refine aA ?_;refine aT [1] rfl (by decide) (fun _ h=>h) ?_;refine bM [(12,iv (i+1:Nat)),(11,iv n),(10,.slice A n c),(7,.slice An (l.length+1) cn),(1,.map (some r)),(2,iv v)] ?_;exact gQ (n - (i+1)) (by omega) ⟨i+1,An,cn,hlt,rfl,by rw[dB];simp,rfl,by rw[dB];simp[aM,dO]⟩
  ·rw[decide_eq_false hv,Bool.false_and,if_neg (by simp)] at dB;refine aA ?_;refine bM [(12,iv (i+1:Nat)),(11,iv n),(10,.slice A n c),(7,.slice B l.length k),(1,.map (some r)),(2,iv v)] ?_;exact gQ (n - (i+1)) (by omega) ⟨i+1,B,k,hlt,rfl,by rw[dB],rfl,by rw[dB]⟩
 ·obtain rfl:i=n:=by omega
  subst hl;refine aA ?_;refine dG [] [0] [] (by simp) rfl (by decide) (by decide) fun q2 tZ _ hfr=>?_
  have h2:aI q2 1 B (sD ks v i).length (aM (dO (sD ks v i))):=aI.own (tZ 0 _ (by simp) rfl)
  exact aP (h:=fun w1 t=>⟨_,rfl,B,k,rfl,h2.le (t.mT (by simp) (hfr (by simp) (by simp)))⟩)
theorem aOs(q0:Piece)(A:Option Addr)(n c:Nat)(g:List (List Int))(v:Nat)(w:World)(De:q0.Le (all w))(hg:nM q0 A n g)(hn:n=g.length)(hn2:n≤100)(hlen:∀l∈g,(l.length:Int)≤1000)(hv:v < n)(ho:fJ g=(0,List.range n)):
  Cz 248 #[.slice A n c,iv (v:Int)] w (Sa (fun x w w'=>∃A' c',x=.tuple #[.slice A' (zF g v n).length c',iv 0]∧aI (fresh w w') 1 A' (zF g v n).length (aM (dO (zF g v n)))) w):=by
 refine aN func248 ntmps248 ?_;refine zH q0 (by simp) De ?_;refine aA ?_;refine kA [] (Sd g) (fun w1 st=>aLY A n c g v w1 (hg.le (st.le (by simp))) hn hn2 (fun l hl=>by have:=hlen l hl;omega) (by omega) ho) ?_;rintro _ w1 q ⟨A',m,c',rfl,hm,hs⟩ hf _ _
 have hs:=hs.le hf
 rw[ho] at hs hm;rw[ho];dsimp only at hs hm⊢;obtain rfl:m=n:=by simpa using hm
 refine aA ?_;refine Yo (by decide) fun r=>?_;refine aA ?_;refine bX 0 (HP.map r (kV [(v:Int)])) (fun w1 F1 t h1 h2 h3=>aAf r v [] w1 F1 h1 h2) ?_;refine aA ?_;refine aT [0] rfl (by decide) (R':=[q,q0,all w]) (by simp) ?_;refine bM [(9,iv ((m:Int) - 1)),(6,.slice A' m c'),(8,.map (some r)),(0,.slice A m c),(1,iv (v:Int))] ?_;refine eU (fun k e R H=>k≤m∧e=[(9,iv ((k:Int) - 1)),(6,.slice A' m c'),(8,.map (some r)),(0,.slice A m c),(1,iv (v:Int))]∧R=[q,q0,all w]∧H=[HP.map r (kV (La g v m (m - k)))]) m ⟨Nat.le_refl _,rfl,rfl,by rw[Nat.sub_self];rfl⟩ fun k e R H hI=>?_;obtain⟨hk,rfl,rfl,rfl⟩:=hI;refine aA ?_;refine aG rfl (fun hge=>?_) (fun hlt=>?_)
 ·obtain⟨k,rfl⟩:∃j,k=j+1:=⟨k - 1,by omega⟩
  have hkm:k < m:=by omega
  obtain⟨row,hrow⟩:=get_some (l:=g) (i:=k) (by omega)
  have dB:La g v m (m - k)=Kk g (La g v m (m - (k+1))) k:=by
   rw[show m - k=(m - (k+1))+1 by omega]
   show Kk g _ (m - 1 - (m - (k+1)))=_
   rw[show m - 1 - (m - (k+1))=k by omega]
  generalize hks:La g v m (m - (k+1))=ks at dB⊢;obtain⟨b,off,pX,hz,hc⟩:=hs.2 (by omega)
  have Bj:=hc k (iv (k:Int)) (by simp[aM,dO,hkm])
  obtain⟨gb,aOm,gr,hA,hgz,oN,⟨RA,rn,rk,rfl,Ut,Us⟩,Vh⟩:=aSt hg hrow
  have hrl:=hlen row (List.mem_of_getElem? hrow)
  have hrd:=Vh 0 _ rfl
  subst Ut;refine aA ?_;refine kd (dat k (off+k) (hx:=by rw[←pX];rfl)) ?_;refine kd (bJ rfl (Rd.ro (p:=q) (by simp) hz Bj)) ?_;refine aV (fun w1 t=>aAe r k ks w1 (t.map (i:=0) rfl)) ?_;cases hkc:ks.contains (k:Int)
  ·have h2:Kk g ks k=ks:=by unfold Kk;rw[hkc];rfl
   rw[h2] at dB;refine aA ?_;refine bM [(9,iv (((k+1:Nat):Int) - 1 - 1)),(6,.slice A' m c'),(8,.map (some r)),(0,.slice A m c),(1,iv (v:Int))] ?_;exact gQ k (by omega) ⟨by omega,by rw[show(((k+1:Nat):Int) - 1 - 1)=(k:Int) - 1 by omega],rfl,by rw[dB]⟩
  ·have h2:Kk g ks k=row.foldl Jn ks:=by
    unfold Kk;rw[hkc,if_pos rfl,List.getD_eq_getElem?_getD,hrow];rfl
   rw[h2] at dB;refine aA ?_;refine kd (dat k (off+k) (hx:=by rw[←pX];rfl)) ?_;refine kd (bJ rfl (Rd.ro (p:=q) (by simp) hz Bj)) ?_;refine kd (dat k (aOm+k*1) (hx:=by rw[←hA];rfl)) ?_;refine kd (bJ rfl (Rd.ro (p:=q0) (by simp) hgz hrd)) ?_;refine aA ?_;refine bM [(47,iv 0),(46,iv row.length),(45,.slice RA row.length rk),(9,iv (((k+1:Nat):Int) - 1)),(6,.slice A' m c'),(8,.map (some r)),(0,.slice A m c),(1,iv (v:Int))] ?_;refine eU (fun u e R H=>∃i:Nat,i≤row.length∧u=row.length - i∧e=[(47,iv i),(46,iv row.length),(45,.slice RA row.length rk),(9,iv (((k+1:Nat):Int) - 1)),(6,.slice A' m c'),(8,.map (some r)),(0,.slice A m c),(1,iv (v:Int))]∧R=[q,q0,all w]∧H=[HP.map r (kV ((row.take i).foldl Jn ks))]) row.length ⟨0,by omega,rfl,rfl,rfl,rfl⟩ fun u e R H hI=>?_;obtain⟨i,hi,rfl,rfl,rfl,rfl⟩:=hI;refine aA ?_;refine aG rfl (fun uC=>?_) (fun aG3=>?_)
   ·have uC:i < row.length:=by omega
    obtain⟨y,hy⟩:=get_some uC;obtain⟨rb,aLi,hRA,hrz,hrc⟩:=(show aI q0 1 RA row.length (aM row) from Us).2 (by omega)
    have hcy:=hrc i (iv y) (by simp[aM,hy])
    have jD:(row.take (i+1)).foldl Jn ks=Jn ((row.take i).foldl Jn ks) y:=by
     rw[List.take_add_one,hy,List.foldl_append];rfl
    generalize hk2:(row.take i).foldl Jn ks=ks2 at jD⊢;refine aA ?_;refine kd (dat i (aLi+i) (hx:=by rw[←hRA];rfl)) ?_;refine aA ?_;refine kd (bJ rfl (Rd.ro (p:=q0) (by simp) hrz hcy)) ?_;refine aA ?_;refine bX 0 (HP.map r (kV (Jn ks2 y))) (fun w1 F1 t h1 h2 h3=>aAf r y ks2 w1 F1 h1 h2) ?_;refine aA ?_;refine bM [(47,iv (i+1:Nat)),(46,iv row.length),(45,.slice RA row.length rk),(9,iv (((k+1:Nat):Int) - 1)),(6,.slice A' m c'),(8,.map (some r)),(0,.slice A m c),(1,iv (v:Int))] ?_;exact gQ (row.length - (i+1)) (by omega) ⟨i+1,uC,rfl,rfl,rfl,by rw[jD]⟩
   ·obtain rfl:i=row.length:=by omega
    rw[List.take_length,←dB];refine aA ?_;refine bM [(9,iv (((k+1:Nat):Int) - 1 - 1)),(6,.slice A' m c'),(8,.map (some r)),(0,.slice A m c),(1,iv (v:Int))] ?_;exact gQ k (by omega) ⟨by omega,by rw[show(((k+1:Nat):Int) - 1 - 1)=(k:Int) - 1 by omega],rfl,rfl⟩
 ·obtain rfl:k=0:=by omega
  rw[Nat.sub_zero];refine aA ?_;refine kA [] (Hi (zF g v m)) (fun w1 t=>aLV q r _ A' m c' v w1 hn2 (t.map (i:=0) rfl) (t.le (by simp)) hs) ?_;rintro _ w1 q2 ⟨B,kb,rfl,hb⟩ mS _ hfr;refine aA ?_;exact fQ rfl rfl rfl fun w1 t=>⟨⟨_,rfl,B,kb,rfl,(hb.le mS).le (t.mT (by simp) (hfr (by simp)))⟩,t.below (by simp)⟩
end
section
def Cb(g:List (List Int))(c:Cn)(n:Nat):Nat→List Bool
 | 0=>List.replicate n false
 | i+1=>if jH c.l (i:Int)≤0 then Cb g c n i else(zF g (i:Int) n).foldl (fun l u=>l.set u true) ((Cb g c n i).set i true)
def Xg(g:List (List Int))(n:Nat)(c:Cn):List Bool:=if c.lS then List.replicate n false else Cb g c n n
theorem aBN:∀(us:List Nat) (l:List Bool),(us.foldl (fun l u=>l.set u true) l).length=l.length
 | [],l=>rfl
 | u::us,l=>by
  rw[List.foldl_cons,aBN us];simp
theorem aAV(g:List (List Int))(c:Cn)(n:Nat):∀i,(Cb g c n i).length=n
 | 0=>by simp[Cb]
 | i + 1 => by
  unfold Cb;split
  ·exact aAV g c n i
  ·rw[aBN,List.length_set];exact aAV g c n i
theorem aR7(g:List (List Int))(n:Nat)(c:Cn):(Xg g n c).length=n:=by
 unfold Xg;split
 ·simp
 ·exact aAV g c n n
def Cf(A:Option Addr)(g:List (List Int))(p:Piece):Prop:=nM p A g.length g
theorem Cf.le{A:Option Addr}{g:List (List Int)}(p q:Piece)(hl:p.Le q)(h:Cf A g p):Cf A g q:=nM.le h hl
def Kb(gc gm:Nat)(A:Option Addr)(k:Nat)(g:List (List Int))(c:Cn):HP:=HP.many [qU gc gm (.slice A g.length k) c,HP.bU (Cf A g) (Cf.le (A:=A) (g:=g))]
theorem aDz{l:List Bool}{i:Nat}{b:Bool}:(bG l).set i (.bool b)=bG (l.set i b):=by simp[bG,List.map_set]
theorem aLX{ks:List Int}{v:Int}{n u:Nat}(h:u∈sD ks v n):u < n:=by
 unfold sD at h;exact List.mem_range.1 (List.mem_filter.1 h).1
theorem aH3(gc gm:Nat)(A:Option Addr)(k:Nat)(g:List (List Int))(c:Cn)(n:Nat)(hn:n=g.length)(hn2:n≤100)(hlen:∀l∈g,(l.length:Int)≤1000)(ho:fJ g=(0,List.range n))(w:World)(F:Nat→Prop)(hp:(Kb gc gm A k g c).sat F w)(hF:∀b,F b→b < w.heap.size):
  Cz 246 #[pt gc] w (fun y w'=>∃b:Nat,y=.returned (.slice (some ⟨b,0,none⟩) n n)∧True∧∃F',(HP.many [Kb gc gm A k g c,HP.aE b 4 (bG (Xg g n c))]).sat F' w'∧iC w w' F F'):=by
 refine cT func246 ntmps246 hp hF ?_;generalize cO:(⟨w,fun b=>b < w.heap.size∧¬F b⟩:Piece)=R0;obtain⟨cl,lS⟩:=c;refine aY 0 1 ?_;refine aY 1 0 ?_;refine aY 0 0 ?_;refine aY 1 1 ?_;subst hn;refine aB ?_;refine lX (n:=g.length) 1 (el:=4) (z:=.bool false) (by kernel_rfl) (by kernel_rfl) rfl rfl rfl (by omega) (by omega) (by decide) fun gl=>?_;rw[show List.replicate g.length (Value.bool false)=bG (List.replicate g.length false) from by simp[bG]];unfold Xg;cases lS
 ·dsimp only;refine aB ?_;refine bM [(22,iv 0),(21,iv g.length),(3,.slice (some ⟨gl,0,none⟩) g.length g.length),(0,pt gc)] ?_;refine eU (fun m e R H=>∃i:Nat,i≤g.length∧m=g.length - i∧e=[(22,iv i),(21,iv g.length),(3,.slice (some ⟨gl,0,none⟩) g.length g.length),(0,pt gc)]∧R=[R0]∧H=[HP.aE gl 4 (bG (Cb g ⟨cl,false⟩ g.length i)),HP.map gm (vM cl),HP.aE gc 277 [.slice A g.length k,.map (some gm),.bool false],HP.many [cF,cF],HP.bU (Cf A g) (Cf.le (A:=A) (g:=g)),HP.many [cF,cF]]) g.length ⟨0,by omega,rfl,rfl,rfl,rfl⟩ fun m e R H hI=>?_;obtain⟨i,hi,rfl,rfl,rfl,rfl⟩:=hI
  have hal:=aAV g ⟨cl,false⟩ g.length i
  have dB:Cb g ⟨cl,false⟩ g.length (i+1)=if jH cl (i:Int)≤0 then Cb g ⟨cl,false⟩ g.length i else(zF g (i:Int) g.length).foldl (fun l u=>l.set u true) ((Cb g ⟨cl,false⟩ g.length i).set i true):=rfl
  generalize hl:Cb g ⟨cl,false⟩ g.length i=l at hal dB⊢;refine aB ?_;refine aG rfl (fun hlt=>?_) (fun hge=>?_)
  ·have hlt:i < g.length:=by omega
   refine aB ?_;refine Uh 1 rfl ?_;refine aB ?_;refine aG rfl (fun h0=>?_) (fun h0=>?_)
   ·rw[if_pos h0] at dB;refine aB ?_;exact eP (g.length - (i+1)) ⟨i+1,hlt,rfl,rfl,rfl,by rw[dB]⟩
   ·rw[if_neg h0] at dB;refine aB ?_;refine eN rfl rfl ?_ (hs:=eJ.mk 0 rfl cP.h rfl (by simp[bG];omega));dsimp only[List.set];rw[aDz];refine aB ?_;refine kA [] (fun x w w'=>∃A' c',x=.tuple #[.slice A' (zF g (i:Int) g.length).length c',iv 0]∧aI (fresh w w') 1 A' (zF g (i:Int) g.length).length (aM (dO (zF g (i:Int) g.length)))) (fun w1 t=>aOs (all w1) A g.length k g i w1 (Piece.Le.refl _) (t.bU 4 rfl) rfl hn2 hlen hlt ho) ?_;rintro _ w1 q ⟨B,kb,rfl,hb⟩ hf _ _
    have hb:=hb.le hf
    have Pg:=aFE (La g (i:Int) g.length g.length) (i:Int) g.length
    have hum:∀u∈zF g (i:Int) g.length,u < g.length:=fun u hu=>aLX hu
    change (zF g (i:Int) g.length).length≤_ at Pg
    generalize hus:zF g (i:Int) g.length=us at dB hb Pg hum⊢;refine aB ?_;refine bM [(46,iv 0),(45,iv us.length),(44,.slice B us.length kb),(22,iv i),(21,iv g.length),(3,.slice (some ⟨gl,0,none⟩) g.length g.length),(0,pt gc)] ?_;refine eU (fun m e R H=>∃j:Nat,j≤us.length∧m=us.length - j∧e=[(46,iv j),(45,iv us.length),(44,.slice B us.length kb),(22,iv i),(21,iv g.length),(3,.slice (some ⟨gl,0,none⟩) g.length g.length),(0,pt gc)]∧R=[q,R0]∧H=[HP.aE gl 4 (bG ((us.take j).foldl (fun l u=>l.set u true) (l.set i true))),HP.map gm (vM cl),HP.aE gc 277 [.slice A g.length k,.map (some gm),.bool false],HP.many [cF,cF],HP.bU (Cf A g) (Cf.le (A:=A) (g:=g)),HP.many [cF,cF]]) us.length ⟨0,by omega,rfl,rfl,rfl,rfl⟩ fun m e R H hI=>?_;obtain⟨j,hj,rfl,rfl,rfl,rfl⟩:=hI;refine aB ?_;refine aG rfl (fun uC=>?_) (fun aG3=>?_)
    ·have uC:j < us.length:=by omega
     obtain⟨u,hu⟩:=get_some uC
     have hun:=hum u (List.mem_of_getElem? hu)
     obtain⟨b,off,hB,hz,hc⟩:=hb.2 (by omega)
     have hcu:=hc j (iv (u:Int)) (by simp[aM,dO,hu])
     have jD:(us.take (j+1)).foldl (fun l u=>l.set u true) (l.set i true)=((us.take j).foldl (fun l u=>l.set u true) (l.set i true)).set u true:=by
      rw[List.take_add_one,hu,List.foldl_append];rfl
     have Dk:((us.take j).foldl (fun l u=>l.set u true) (l.set i true)).length=g.length:=by rw[aBN,List.length_set];exact hal
     generalize hl3:(us.take j).foldl (fun l u=>l.set u true) (l.set i true)=l3 at jD Dk⊢;refine aB ?_;refine kd (dat j (off+j) (hx:=by rw[←hB];rfl)) ?_;refine aA ?_;refine kd (bJ rfl (Rd.ro (p:=q) (by simp) hz hcu)) ?_;refine aA ?_;refine kd (dat u u) ?_;refine eN rfl rfl ?_ (hs:=eJ.mk 0 rfl cP.h rfl (by simp[bG];omega));dsimp only[List.set];rw[aDz,←jD];refine aB ?_;exact eP (us.length - (j+1)) ⟨j+1,uC,rfl,rfl,rfl,rfl⟩
    ·obtain rfl:j=us.length:=by omega
     rw[List.take_length,←dB];refine aB ?_;refine aT [0,1,2,3,4,5] rfl (by decide) (R':=[R0]) (by simp) ?_;exact eP (g.length - (i+1)) ⟨i+1,hlt,rfl,rfl,rfl,rfl⟩
  ·obtain rfl:i=g.length:=by omega
   subst hl;refine aB ?_;refine aT [1,2,3,4,5,0] rfl (by decide) (fun _ h=>h) ?_;refine aJ 1 1 ?_;refine aJ 0 0 ?_;refine aJ 1 0 ?_;refine aJ 0 1 ?_;refine mV ?_;subst cO;exact mI rfl rfl fun w1 t=>⟨gl,rfl,trivial,t.turns hF (by simp) (i:=0) rfl⟩
 ·dsimp only;refine aB ?_;refine aT [1,2,3,4,5,0] rfl (by decide) (fun _ h=>h) ?_;refine aJ 1 1 ?_;refine aJ 0 0 ?_;refine aJ 1 0 ?_;refine aJ 0 1 ?_;refine mV ?_;subst cO;exact mI rfl rfl fun w1 t=>⟨gl,rfl,trivial,t.turns hF (by simp) (i:=0) rfl⟩
end
section
set_option maxHeartbeats 8000000
def Xx(x:dR)(v:Value)(hs:List HP)(_:Piece):Prop:=∃(g1 g2 g3:Nat) (p:HP),v=.agg #[.slice (some ⟨g1,0,none⟩) x.d.length x.d.length,.slice (some ⟨g2,0,none⟩) x.c.length x.c.length,.slice (some ⟨g3,0,none⟩) x.l.length x.l.length]∧hs=[HP.many [HP.aE g1 4 (bG x.d),HP.aE g2 4 (bG x.c),HP.aE g3 4 (bG x.l)],p]
theorem Yv(q:Piece)(s:aC)(A1 A2 A3 A4:Option Addr)(n1 k1 n2 k2 n3 k3 n4 k4:Nat)(Aa:Option Addr)(ca:Nat)(act:List Bool)(w:World)(nF:qR q s A1 n1 A2 n2 A3 n3 A4 n4)(hm:s.made)(hq:q.Le (all w))(hact:aI (all w) 1 Aa act.length (bG act)):
  Cz 108 #[.agg #[.slice A1 n1 k1,.slice A2 n2 k2,.slice A3 n3 k3,.slice A4 n4 k4],.slice Aa act.length ca] w (fun y w'=>(∃v hs q,y=.returned v∧q.w=w'∧Xx (gM s act) v hs q∧gJ w hs q)∧Below w.heap.size w w'):=by
 obtain⟨rfl,rfl,rfl,rfl⟩:=nF.len;refine aN func108 ntmps108 ?_;refine zH q (by simp) hq ?_
 have hn9:=hm.nc
 have uB:=hm.nd
 have sN:=hm.nr
 have rE:=hm.nv
 refine aB ?_;refine bN fun g1=>?_;refine cE fun g2=>?_;refine aB ?_;refine dF (fun w1 st=>aAG s A1 A2 A3 A4 _ k1 _ k2 _ k3 _ k4 w1 (nF.W (st.le (by simp)) (aAh hm))) ?_;rw[aAi hm];refine aJb rfl rfl (by decide) ?_;refine fC ?_;refine aG rfl (fun h=>absurd rfl h) (fun h=>?_)
 ·
  refine oG ?_;refine eI ?_;refine Rs (fun e R H=>∃ga gb gc gw,e=[(5,pt gw),(4,pt g2),(2,pt g1),(1,.slice Aa act.length ca)]∧R=[q,all w]∧H=[HP.aE gw 55 [.slice (some ⟨ga,0,none⟩) s.domains.length s.domains.length,.slice (some ⟨gb,0,none⟩) s.aF.length s.aF.length,.slice (some ⟨gc,0,none⟩) s.bA.length s.bA.length],HP.aE ga 4 (bG (jM s).d),HP.aE gb 4 (bG (jM s).c),HP.aE gc 4 (bG (jM s).l),HP.aE g2 55 [sn,sn,sn],HP.aE g1 30 [.slice A1 s.aF.length k1,.slice A2 s.domains.length k2,.slice A3 s.bA.length k3,.slice A4 s.aD.length k4]]) ?_ ?_
  ·
   refine qP 14 (by kernel_rfl) (by kernel_rfl) ?_;refine fY 0 rfl rfl rfl (Dx (off:=1) (by kernel_rfl) rfl) ?_;refine fY 1 rfl rfl rfl (Jg rfl) ?_;refine fY 2 rfl rfl rfl (Mm (el:=88) (by kernel_rfl) rfl) ?_;refine fY 4 rfl rfl rfl (Dx (off:=0) (by kernel_rfl) rfl) ?_;refine fY 5 rfl rfl rfl (Jg rfl) ?_;refine fY 6 rfl rfl rfl (Mm (el:=86) (by kernel_rfl) rfl) ?_;refine fY 8 rfl rfl rfl (Dx (off:=2) (by kernel_rfl) rfl) ?_;refine fY 9 rfl rfl rfl (Jg rfl) ?_;refine fY 10 rfl rfl rfl (Mm (el:=90) (by kernel_rfl) rfl) ?_;refine aIp (fuel:=2) [3,7,11,13] [[3,7,11],[3,7,11,13]] (fun i=>match i with | 3=>⟨19,4,List.replicate s.domains.length (.bool false),fun g=>.slice (some ⟨g,0,none⟩) s.domains.length s.domains.length⟩ | 7=>⟨23,4,List.replicate s.aF.length (.bool false),fun g=>.slice (some ⟨g,0,none⟩) s.aF.length s.aF.length⟩ | 11=>⟨27,4,List.replicate s.bA.length (.bool false),fun g=>.slice (some ⟨g,0,none⟩) s.bA.length s.bA.length⟩ | _=>⟨5,55,[sn,sn,sn],fun g=>pt g⟩) (fun i hi=>?_) (by show[19,23,27,5].Nodup;decide) (by kernel_rfl) (fun _ h=>h) (fun sub hsub hex g=>?_)
   ·simp only[List.mem_cons,List.not_mem_nil,or_false] at hi;rcases hi with rfl | rfl | rfl | rfl
    ·exact El.of rfl rfl rfl (Oy 1 (el:=4) (z:=.bool false) (by kernel_rfl) (by kernel_rfl) rfl rfl rfl (by omega) (by omega)) (Nat.le_of_ble_eq_true rfl) rfl
    ·exact El.of rfl rfl rfl (Oy 1 (el:=4) (z:=.bool false) (by kernel_rfl) (by kernel_rfl) rfl rfl rfl (by omega) (by omega)) (Nat.le_of_ble_eq_true rfl) rfl
    ·exact El.of rfl rfl rfl (Oy 1 (el:=4) (z:=.bool false) (by kernel_rfl) (by kernel_rfl) rfl rfl rfl (by omega) (by omega)) (Nat.le_of_ble_eq_true rfl) rfl
    ·exact El.of rfl rfl rfl (aMS (gY (by kernel_rfl))) (Nat.le_of_ble_eq_true rfl) rfl
   have jD:sub=[3,7,11]∨sub=[3,7,11,13]:=by simpa using hex
   have er:∀n:Nat,List.replicate n (Value.bool false)=bG (List.replicate n false):=fun n=>by simp[bG]
   rcases jD with rfl | rfl
   ·dsimp only[rF,vH,kW,List.map,List.foldr,List.cons_append,List.nil_append,List.length_cons,List.length_nil,Nat.reduceAdd,Nat.reduceSub];refine fG 12 rfl rfl rfl (by decide) (kQ (zs:=[sn,sn,sn]) (L:=[(0,1),(1,1),(2,1)]) (gY (by kernel_rfl)) (by kernel_rfl) rfl (by simp[fA,gD,Value.cells];rfl)) (by kernel_rfl) (fun _ _ _ h=>h) (fun _ h=>h.tail.tail.tail) ?_;refine cJ 13 ?_;refine cE fun g6=>?_;refine gX ?_;refine gP ?_;refine kL (fun _ h=>h.tail.tail.tail.tail) ?_;refine cJ 14 ?_;refine rU rfl rfl ?_;simp only[fP,Value.cells,List.set,List.take,List.drop,List.nil_append,List.append_nil,List.length_cons,List.length_nil,List.cons_append,Nat.reduceAdd];refine eR ?_;refine kK ?_;refine eI ?_;exact aT [0,1,2,3,4,5] rfl (by decide) (by simp) (bM [(5,pt g6),(4,pt g2),(2,pt g1),(1,.slice Aa act.length ca)] (Xr ⟨g 3,g 7,g 11,g6,rfl,rfl,by simp only[er,jM]⟩))
   ·dsimp only[rF,vH,kW,List.map,List.foldr,List.cons_append,List.nil_append,List.length_cons,List.length_nil,Nat.reduceAdd,Nat.reduceSub];refine fG 12 rfl rfl rfl (by decide) (kQ (zs:=[sn,sn,sn]) (L:=[(0,1),(1,1),(2,1)]) (gY (by kernel_rfl)) (by kernel_rfl) rfl (by simp[fA,gD,Value.cells];rfl)) (by kernel_rfl) (fun _ _ _ h=>h) (fun _ h=>h.tail.tail.tail.tail) ?_;refine cJ 14 ?_;refine rU rfl rfl ?_;simp only[fP,Value.cells,List.set,List.take,List.drop,List.nil_append,List.append_nil,List.length_cons,List.length_nil,List.cons_append,Nat.reduceAdd];refine eR ?_;refine kK ?_;refine eI ?_;exact aT [3,0,1,2,4,5] rfl (by decide) (by simp) (bM [(5,.pointer (some ⟨g 13,0,none⟩)),(4,pt g2),(2,pt g1),(1,.slice Aa act.length ca)] (Xr ⟨g 3,g 7,g 11,g 13,rfl,rfl,by simp only[er,jM]⟩))
  rintro _ _ _ ⟨ga,gb,gc,gw,rfl,rfl,rfl⟩;refine aB ?_;refine bM [(32,iv 0),(31,iv s.aD.length),(30,.slice A4 s.aD.length k4),(5,pt gw),(4,pt g2),(2,pt g1),(1,.slice Aa act.length ca)] ?_;refine aB ?_;refine eU (fun m e R H=>∃(j:Nat),j≤s.aD.length∧m=s.aD.length - j∧e=[(32,iv j),(31,iv s.aD.length),(30,.slice A4 s.aD.length k4),(5,pt gw),(4,pt g2),(2,pt g1),(1,.slice Aa act.length ca)]∧R=[q,all w]∧H=[HP.aE gw 55 [.slice (some ⟨ga,0,none⟩) s.domains.length s.domains.length,.slice (some ⟨gb,0,none⟩) s.aF.length s.aF.length,.slice (some ⟨gc,0,none⟩) s.bA.length s.bA.length],HP.aE ga 4 (bG (nO s act j).d),HP.aE gb 4 (bG (nO s act j).c),HP.aE gc 4 (bG (nO s act j).l),HP.aE g2 55 [sn,sn,sn],HP.aE g1 30 [.slice A1 s.aF.length k1,.slice A2 s.domains.length k2,.slice A3 s.bA.length k3,.slice A4 s.aD.length k4]]) s.aD.length ⟨0,by omega,rfl,rfl,rfl,rfl⟩ fun m e R H hI=>?_;obtain⟨j,hj,rfl,rfl,rfl,rfl⟩:=hI;refine aB ?_;refine aG rfl (fun h=>?_) (fun h=>?_)
  ·
   refine oG ?_;refine eI ?_;refine dX ?_;refine xV ?_;refine dX ?_
   have hjl:j < s.aD.length:=by have h':(j:Int) < (s.aD.length:Int):=h;omega
   obtain⟨x,hx⟩:∃x,s.aD[j]? =some x:=⟨_,List.getElem?_eq_getElem hjl⟩
   obtain⟨hx1,Fk,hx3,hx4,hx5,hx6,_⟩:=hm.aD j x hx;obtain⟨bV,oV,rV,rfl,hzV,_,hR,Vt⟩:=nF.dev.tQ hx;obtain⟨Ar,nr,kr,An,nn,kn,rfl,_⟩:=hR
   have Lg:=Yw s act j
   obtain⟨xc,hxc⟩:∃xc:Nat,x.clock=(xc:Int):=⟨x.clock.toNat,by omega⟩
   obtain⟨xd,hxd⟩:∃xd:Nat,x.domain=(xd:Int):=⟨x.domain.toNat,by omega⟩
   obtain⟨xr,hxr⟩:∃xr:Nat,x.reset=(xr:Int):=⟨x.reset.toNat,by omega⟩
   have Fw:hasB act j=true→nO s act (j+1)=⟨vB (Kj s xd) (nO s act j).d,vB ((lQ s xc).filter (uX s)) (nO s act j).c,Ay (nO s act j).l (xr:Int) true⟩:=fun ha=>by
    rw[aJ6 hx ha,Nv,hxd,hxc,hxr];rfl
   rw[hxc,hxd,hxr] at Vt;generalize hwj:nO s act j=wj at *;refine fR ?_;refine dN rfl (by decide) ?_;refine kd (dat (j) (oV+j*6)) ?_;refine yF 6 (by kernel_rfl) rfl (aO.of (vs:=[iv (xc:Int),iv (xd:Int),iv (xr:Int),.int .u32 x.iG,.slice Ar nr kr,.slice An nn kn]) fun f v hf=>Rd.ro (p:=q) (by simp) hzV (Vt f v hf)) rfl (by decide) ?_;refine cE fun g7=>?_;refine jO rfl (by decide) ?_;refine rU rfl rfl ?_;simp only[fP,Value.cells,List.set,List.take,List.drop,List.nil_append,List.append_nil,List.length_cons,List.length_nil,List.cons_append,Nat.reduceAdd];refine aB ?_;refine dF (fun w1 st=>aCR Aa act.length ca j act w1 (hact.le (st.le (by simp))) rfl (by omega)) ?_;refine aB ?_;refine pL rfl (fun h=>?_) (fun h=>?_)
   ·
    refine aB ?_
    have hno:hasB act j=false:=by simpa using h
    exact aT [1,2,3,4,5,6] rfl (by decide) (by simp) (bM [(32,iv ((j:Int)+1)),(31,iv s.aD.length),(30,.slice (some ⟨bV,oV,none⟩) s.aD.length k4),(5,pt gw),(4,pt g2),(2,pt g1),(1,.slice Aa act.length ca)] (gQ (s.aD.length - (j+1)) (by omega) ⟨j+1,by omega,rfl,rfl,rfl,by rw[aJ5 hno,hwj]⟩))
   ·
    have hyes:hasB act j=true:=by simpa using h
    have Fw:=Fw hyes
    refine aB ?_;refine bM [(8,iv (xd:Int)),(7,pt g7),(32,iv j),(31,iv s.aD.length),(30,.slice (some ⟨bV,oV,none⟩) s.aD.length k4),(5,pt gw),(4,pt g2),(2,pt g1),(1,.slice Aa act.length ca)] ?_;refine aB ?_;refine eU (fun m e R H=>∃(cur:Int) (rest:List Nat) (d:List Bool),m=rest.length∧Xy s cur rest∧d.length=s.domains.length∧vB rest d=vB (Kj s xd) wj.d∧e=[(8,iv cur),(7,pt g7),(32,iv j),(31,iv s.aD.length),(30,.slice (some ⟨bV,oV,none⟩) s.aD.length k4),(5,pt gw),(4,pt g2),(2,pt g1),(1,.slice Aa act.length ca)]∧R=[q,all w]∧H=[HP.aE g7 93 [iv (xc:Int),iv (xd:Int),iv (xr:Int),.int .u32 x.iG,.slice Ar nr kr,.slice An nn kn],HP.aE gw 55 [.slice (some ⟨ga,0,none⟩) s.domains.length s.domains.length,.slice (some ⟨gb,0,none⟩) s.aF.length s.aF.length,.slice (some ⟨gc,0,none⟩) s.bA.length s.bA.length],HP.aE ga 4 (bG d),HP.aE gb 4 (bG wj.c),HP.aE gc 4 (bG wj.l),HP.aE g2 55 [sn,sn,sn],HP.aE g1 30 [.slice A1 s.aF.length k1,.slice A2 s.domains.length k2,.slice A3 s.bA.length k3,.slice (some ⟨bV,oV,none⟩) s.aD.length k4]]) (Kj s xd).length ⟨_,Kj s xd,wj.d,rfl,aJJ hm (by omega),Lg.d,rfl,rfl,rfl,rfl⟩ fun m e R H hI=>?_;obtain⟨cur,rest,d,rfl,Um,kZ,hpd,rfl,rfl,rfl⟩:=hI;refine aB ?_;refine aG rfl (fun h=>?_) (fun h=>?_)
    ·
     refine aB ?_
     obtain⟨i,r,rfl⟩:∃i r,rest=i::r:=by
      cases rest with
      | nil=>exact absurd Um h
      | cons i r=>exact⟨i,r,rfl⟩
     obtain⟨rfl,dm,sO,Um⟩:=Um
     have hil:=(List.getElem?_eq_some_iff.1 sO).1
     refine aB ?_;refine rT 2 rfl (by kernel_rfl) rfl rfl rfl (by rw[aD1];omega) ?_;dsimp only[List.set];rw[aD0,show d.set i true=Ay d (i:Int) true by simp[Ay]];refine fC ?_;obtain⟨bD,oD,rD,rfl,Uj,_,rfl,Lz⟩:=nF.dom.tQ sO;refine fR ?_;refine yG (off:=1) (by kernel_rfl) rfl (by decide) ?_;refine Nu rfl ?_;refine dN rfl (by decide) ?_;refine kd (dat (i) (oD+i*3)) ?_;refine yG (off:=0) (by kernel_rfl) rfl (by decide) ?_;refine kS (by kernel_rfl) rfl (Rd.ro (p:=q) (by simp) Uj (Lz 0 _ rfl)) (by decide) ?_;refine jO rfl (by decide) ?_;refine fC ?_;exact bM [(8,iv dm.above),(7,pt g7),(32,iv j),(31,iv s.aD.length),(30,.slice (some ⟨bV,oV,none⟩) s.aD.length k4),(5,pt gw),(4,pt g2),(2,pt g1),(1,.slice Aa act.length ca)] (gQ r.length (by simp) ⟨dm.above,r,Ay d (i:Int) true,rfl,Um,by rw[aBV];exact kZ,by rw[←hpd];rfl,rfl,rfl,rfl⟩)
    ·
     refine aB ?_
     obtain rfl:rest=[]:=by
      cases rest with
      | nil=>rfl
      | cons i r=>exact absurd (show cur= -1 from Classical.not_not.1 h) (by have:=Um.1;omega)
     have hpd:d=vB (Kj s xd) wj.d:=hpd
     refine aB ?_;refine kA [] (Hi (lQ s xc)) (fun w1 st=>aAI q s A1 A2 A3 (some ⟨bV,oV,none⟩) _ k1 _ k2 _ k3 _ k4 xc w1 nF hm.wW (st.le (by simp)) (by omega)) ?_;rintro _ w1 qc ⟨Ac,cc,rfl,hsc⟩ hf _ _
     have hsc:=hsc.le hf
     have hcin:=fun i (hi:i∈lQ s xc)=>aHA s _ _ i hi
     have iL:(lQ s xc).length≤s.aF.length:=aAJ s _ _
     clear hf;generalize pI:lQ s xc=ch at *;refine aB ?_;refine bM [(60,iv 0),(59,iv ch.length),(58,.slice Ac ch.length cc),(7,pt g7),(32,iv j),(31,iv s.aD.length),(30,.slice (some ⟨bV,oV,none⟩) s.aD.length k4),(5,pt gw),(4,pt g2),(2,pt g1),(1,.slice Aa act.length ca)] ?_;refine aB ?_;refine eU (fun m e R H=>∃(k:Nat),k≤ch.length∧m=ch.length - k∧e=[(60,iv k),(59,iv ch.length),(58,.slice Ac ch.length cc),(7,pt g7),(32,iv j),(31,iv s.aD.length),(30,.slice (some ⟨bV,oV,none⟩) s.aD.length k4),(5,pt gw),(4,pt g2),(2,pt g1),(1,.slice Aa act.length ca)]∧R=[qc,q,all w]∧H=[HP.aE g7 93 [iv (xc:Int),iv (xd:Int),iv (xr:Int),.int .u32 x.iG,.slice Ar nr kr,.slice An nn kn],HP.aE gw 55 [.slice (some ⟨ga,0,none⟩) s.domains.length s.domains.length,.slice (some ⟨gb,0,none⟩) s.aF.length s.aF.length,.slice (some ⟨gc,0,none⟩) s.bA.length s.bA.length],HP.aE ga 4 (bG d),HP.aE gb 4 (bG (vB ((ch.take k).filter (uX s)) wj.c)),HP.aE gc 4 (bG wj.l),HP.aE g2 55 [sn,sn,sn],HP.aE g1 30 [.slice A1 s.aF.length k1,.slice A2 s.domains.length k2,.slice A3 s.bA.length k3,.slice (some ⟨bV,oV,none⟩) s.aD.length k4]]) ch.length ⟨0,by omega,rfl,rfl,rfl,rfl⟩ fun m e R H hI=>?_;obtain⟨k,hk,rfl,rfl,rfl,rfl⟩:=hI;refine aB ?_;refine aG rfl (fun h=>?_) (fun h=>?_)
     ·
      refine oG ?_;refine eI ?_;refine dX ?_;refine xV ?_;refine dX ?_
      have Vc:k < ch.length:=by have h':(k:Int) < (ch.length:Int):=h;omega
      obtain⟨ci,Dp⟩:∃ci,ch[k]? =some ci:=⟨_,List.getElem?_eq_getElem Vc⟩
      have aNY:=hcin ci (List.mem_of_getElem? Dp)
      obtain⟨ck,Bj⟩:∃ck,s.aF[ci]? =some ck:=⟨_,List.getElem?_eq_getElem aNY⟩
      obtain⟨bI,oI,rfl,hzI,hcI⟩:=hsc.2 (by omega);obtain⟨bC,oC,rC,rfl,hzC,_,hR2,hcC⟩:=nF.uK.tQ Bj;obtain⟨As,ns,ks,rfl,_⟩:=hR2
      have kX:(ch.take (k+1)).filter (uX s)=(ch.take k).filter (uX s)++(if uX s ci then[ci] else[]):=by
       rw[List.take_add_one,Dp,List.filter_append];cases yS:uX s ci<;>simp[yS]
      have aGl:uX s ci=decide (ck.kind=112∨ck.kind=103):=by unfold uX;rw[Bj]
      have aSH:(vB ((ch.take k).filter (uX s)) wj.c).length=s.aF.length:=by rw[aBW];exact Lg.c
      refine fR ?_;refine kd (dat (k) (oI+k)) ?_;refine kS (by kernel_rfl) rfl (Rd.ro (p:=qc) (by simp) hzI (hcI k _ (aMx Dp))) (by decide) ?_;refine jO rfl (by decide) ?_;refine fC ?_;refine dX ?_;refine fR ?_;refine yG (off:=0) (by kernel_rfl) rfl (by decide) ?_;refine Nu rfl ?_;refine dN rfl (by decide) ?_;refine kd (dat (ci) (oC+ci*6)) ?_;refine yG (off:=0) (by kernel_rfl) rfl (by decide) ?_;refine kS (by kernel_rfl) rfl (Rd.ro (p:=q) (by simp) hzC (hcC 0 _ rfl)) (by decide) ?_;refine jO rfl (by decide) ?_;refine fC ?_;refine aDM 75 (ck.kind=112∨ck.kind=103) ?_ ?_
      ·skip
       refine aB ?_;refine bZ (t:=72) rfl (fun hg=>?_) (fun hg=>?_)
       ·
        refine jN rfl rfl rfl (by decide) ?_;refine jN rfl rfl rfl (by decide) ?_
        (first | refine rX rfl rfl (by decide) ?_ | refine rY rfl rfl (by decide) ?_)
        refine fC ?_;exact aBf
       ·
        refine jB rfl rfl ?_;refine dN rfl (by decide) ?_;refine jB rfl rfl ?_;refine aE3 rfl rfl (by decide) ?_
        (first | refine rX rfl rfl (by decide) ?_ | refine rY rfl rfl (by decide) ?_)
        refine fC ?_;exact aBf
      refine aG rfl (fun hkd=>?_) (fun hkd=>?_)
      ·
       refine aB ?_;refine rT 3 rfl (by kernel_rfl) rfl rfl rfl (by rw[aD1];omega) ?_;dsimp only[List.set];rw[aD0,show(vB ((ch.take k).filter (uX s)) wj.c).set ci true=vB ((ch.take (k+1)).filter (uX s)) wj.c by rw[kX,aGl,decide_eq_true hkd];simp[vB,Ay,List.foldl_append]];refine aB ?_;exact bM [(60,iv ((k:Int)+1)),(59,iv ch.length),(58,.slice (some ⟨bI,oI,none⟩) ch.length cc),(7,pt g7),(32,iv j),(31,iv s.aD.length),(30,.slice (some ⟨bV,oV,none⟩) s.aD.length k4),(5,pt gw),(4,pt g2),(2,pt g1),(1,.slice Aa act.length ca)] (gQ (ch.length - (k+1)) (by omega) ⟨k+1,by omega,rfl,rfl,rfl,rfl⟩)
      ·
       refine aB ?_;exact bM [(60,iv ((k:Int)+1)),(59,iv ch.length),(58,.slice (some ⟨bI,oI,none⟩) ch.length cc),(7,pt g7),(32,iv j),(31,iv s.aD.length),(30,.slice (some ⟨bV,oV,none⟩) s.aD.length k4),(5,pt gw),(4,pt g2),(2,pt g1),(1,.slice Aa act.length ca)] (gQ (ch.length - (k+1)) (by omega) ⟨k+1,by omega,rfl,rfl,rfl,by rw[kX,aGl,decide_eq_false hkd];simp⟩)
     ·
      refine aB ?_
      have hke:k=ch.length:=by have h':¬(k:Int) < (ch.length:Int):=h;omega
      rw[hke,List.take_length]
      have nZ:=Lg.l
      refine aB ?_;refine rT 4 rfl (by kernel_rfl) rfl rfl rfl (by rw[aD1];omega) ?_;dsimp only[List.set];rw[aD0,show wj.l.set xr true=Ay wj.l (xr:Int) true by simp[Ay]];refine aB ?_;exact aT [1,2,3,4,5,6] rfl (by decide) (R':=[q,all w]) (by simp) (bM [(32,iv ((j:Int)+1)),(31,iv s.aD.length),(30,.slice (some ⟨bV,oV,none⟩) s.aD.length k4),(5,pt gw),(4,pt g2),(2,pt g1),(1,.slice Aa act.length ca)] (gQ (s.aD.length - (j+1)) (by omega) ⟨j+1,by omega,rfl,rfl,rfl,by rw[Fw,hpd]⟩))
  ·
   refine aB ?_;refine rU rfl rfl ?_;simp only[fP,Value.cells,List.set,List.take,List.drop,List.nil_append,List.append_nil,List.length_cons,List.length_nil,List.cons_append,Nat.reduceAdd];refine aB ?_
   have hje:j=s.aD.length:=by have h':¬(j:Int) < (s.aD.length:Int):=h;omega
   have Lg:=Yw s act j
   have hww:gM s act=nO s act j:=by rw[hje];rfl
   generalize nO s act j=wj at *;refine aT [1,2,3,4] rfl (by decide) (R':=[q,all w]) (by simp) ?_;refine vS ?_;refine dG [] [] [0,1] (by simp) rfl (by decide) (by decide) fun qf _ _ hfr=>?_
   exact Mw rfl (by kernel_rfl) rfl rfl (aO.whole 1 rfl) fun w1 st=>⟨⟨_,_,⟨w1,qf.Z⟩,rfl,rfl,by
    rw[hww]
    exact⟨ga,gb,gc,_,by rw[Lg.d,Lg.c,Lg.l],rfl⟩,st.newR (by simp) (by simp) (hfr (by simp) (by simp))⟩,st.below (by simp)⟩
end
section
def Ie(old l:List Bool)(n:Nat):List Bool:=l.mapIdx fun k b=>if k < n then(b||hasB old k) else b
section
variable{N:bY}{w0:World}{e:Env}{R:List Piece}{H:List HP}{K:Act→World→Prop}{Φ:Piece→Prop}{hm:∀p q:Piece,p.Le q→Φ p→Φ q}{sz n b off:Nat}{A:Option Addr}{xs:List Value}
theorem aDH(i:Nat)(hi:H[i]? =some (HP.bU Φ hm))(Ld:∀p,Φ p→aI p sz A n xs)(hn:0 < n)(k:∀b off,A=some ⟨b,off,none⟩→XK N w0 K e R H):XK N w0 K e R H:=fun a w hr st=>by
 obtain⟨b,off,hA,_⟩:=(Ld _ (st.bU i hi)).2 hn;exact k b off hA a w hr st
theorem aRF(i:Nat)(hi:H[i]? =some (HP.bU Φ hm))(Ld:∀p,Φ p→aI p sz A n xs)(k:∀b off,(0 < n→A=some ⟨b,off,none⟩)→XK N w0 K e R H):XK N w0 K e R H:=by
 rcases Nat.eq_zero_or_pos n with h | h
 ·exact k 0 0 fun h'=>absurd h' (by omega)
 ·exact aDH i hi Ld h fun b off hA=>k b off fun _=>hA
theorem Rd.bU(i:Nat)(hi:H[i]? =some (HP.bU Φ hm))(Ld:∀p,Φ p→aI p sz A n xs)(hA:A=some ⟨b,off,none⟩)(hn:0 < n){j:Nat}{v:Value}(hv:xs[j]? =some v):Rd w0 R H b (off+j) v:=fun w st=>by
 obtain⟨b',off',pX,_,hc⟩:=(Ld _ (st.bU i hi)).2 hn;cases hA.symm.trans pX;exact hc j v hv
end
def gN(s:aC)(c:Cn):List Bool:=Xg (dK s) (dK s).length c
def pS(s:aC)(z:bH):dR:=⟨(gM s (gN s z.cn)).d,(gM s (gN s z.cn)).c,Ie z.wn.l (gM s (gN s z.cn)).l s.bA.length⟩
def uT(s:aC)(z:bH):bH:={z with steps:=allM s z.wn (pS s z),sent:=false,wn:=pS s z}
theorem aBA(s:aC)(act:List Bool):(gM s act).of s:=Yw s act _
theorem aJ4(s:aC)(z:bH):(pS s z).of s:=by
 have h:=aBA s (gN s z.cn)
 exact⟨h.d,h.c,by show(List.mapIdx _ _).length=_;rw[List.length_mapIdx];exact h.l⟩
theorem Zx(s:aC):(dK s).length=s.aD.length:=by simp[dK]
section
variable(g h f:Nat)(s:aC)(z:bH)(w:World)(F:Nat→Prop)
theorem Zi(hm:s.made)(hz:z.wn.of s)(hp:(jK g h f s z).sat F w)(hF:∀b,F b→b < w.heap.size):
  Cz 244 #[pt g] w (Wr (.tuple #[]) (jK g h f s (uT s z)) w F):=by
 have rE:=hm.nv
 have hnd:=hm.nd
 have hnc:=hm.nc
 have iK:=hm.nr
 have fK:=Zx s
 have hno:∀l∈dK s,(l.length:Int)≤1000:=fun l hl=>by
  obtain⟨i,hi⟩:=List.getElem?_of_mem hl;simp only[dK,List.getElem?_map] at hi;cases hd:s.aD[i]? with
  | none=>rw[hd] at hi;cases hi
  | some d=>
   rw[hd] at hi;cases hi
   have:=(hm.aD i d hd).2.2.2.2.2.2.2.2.2.2.1
   show((d.iV.length:Nat):Int)≤1000
   omega
 have ho:fJ (dK s)=(0,List.range (dK s).length):=by rw[fK];exact(aCv hm).2.2
 have hal:(gN s z.cn).length=(dK s).length:=aR7 _ _ _
 refine cT func244 ntmps244 hp hF ?_;generalize cO:(⟨w,fun b=>b < w.heap.size∧¬F b⟩:Piece)=R0;refine iX 0 fun L=>?_;refine aY 0 0 ?_;refine aY 1 4 ?_;refine aY 2 3 ?_;refine mV ?_;refine aY 2 1 ?_;refine aY 3 2 ?_;refine aT [2,0,1,3,4] rfl (by decide) (fun _ h=>h) ?_
 change XK _ _ _ _ _ [Kb L.gc L.gm L.nd.1 L.nd.2 (dK s) z.cn,HP.bU (tA L z.wn) _,HP.bU (lU L s) _,_,_]
 generalize hM:HP.many [cF,cF,cF,cF,cF,HP.bU (nL L z.steps) (nL.le (L:=L) (l:=z.steps))]=M;refine dX ?_;refine aBm (fun e R H=>∃gt ga gb gc:Nat,e=[(2,pt gt),(0,pt g)]∧R=[R0]∧H=[HP.aE gt 55 [.slice (some ⟨ga,0,none⟩) (gM s (gN s z.cn)).d.length (gM s (gN s z.cn)).d.length,.slice (some ⟨gb,0,none⟩) (gM s (gN s z.cn)).c.length (gM s (gN s z.cn)).c.length,.slice (some ⟨gc,0,none⟩) (gM s (gN s z.cn)).l.length (gM s (gN s z.cn)).l.length],HP.many [HP.aE ga 4 (bG (gM s (gN s z.cn)).d),HP.aE gb 4 (bG (gM s (gN s z.cn)).c),HP.aE gc 4 (bG (gM s (gN s z.cn)).l)],Kb L.gc L.gm L.nd.1 L.nd.2 (dK s) z.cn,HP.bU (tA L z.wn) (tA.le (L:=L) (x:=z.wn)),HP.bU (lU L s) (lU.le (L:=L) (s:=s)),HP.aE g 190 (lI h f L s z),M]) ?_ ?_
 ·refine Gw [1,2,3,5,6,7] ?_;refine bK 0 ?_ (hsub:=fun _ h=>h.bL);refine aK 1 ?_ (hsub:=fun _ h=>h.bL);refine aK 2 ?_ (hsub:=fun _ h=>h.bL);refine aK 3 ?_ (hi:=rfl) (cN:=jT rfl (xZ (vs:=[_,_,_,_]) 3 rfl rfl)) (hsub:=fun _ h=>h.bL);refine bK 4 ?_ (hsub:=fun _ h=>h.bL);refine aK 5 ?_ (hsub:=fun _ h=>h.bL);refine aK 6 ?_ (hsub:=fun _ h=>h.bL);refine aK 7 ?_ (hsub:=fun _ h=>h.bL);refine zL 8 10 rfl rfl (by kernel_rfl) ?_ ?_
  ·refine wA (α:=Nat) 0 (f:=246) (fi:=[]) (ca:=[]) (fun b=>.slice (some ⟨b,0,none⟩) (dK s).length (dK s).length) (fun b=>HP.many [Kb L.gc L.gm L.nd.1 L.nd.2 (dK s) z.cn,HP.aE b 4 (bG (gN s z.cn))]) (fun _=>True) (by kernel_rfl) rfl rfl rfl (by decide) (fun w1 F1 t h1 h2 h3=>aH3 L.gc L.gm L.nd.1 L.nd.2 (dK s) z.cn _ rfl (by omega) hno ho w1 F1 h1 h2) ?_;rintro b _;dsimp only[List.set];refine bE ?_ (hS:=fun _ h=>h.bL);refine zL 9 10 rfl rfl (by kernel_rfl) ?_ ?_
   ·refine aY 0 1 ?_
    refine eW (Xx (gM s (gN s z.cn))) (fun w1 t=>by
     have h1:=t.uY (i:=0) (sz:=1) (n:=(gN s z.cn).length) rfl (by simp[bG])
     have:=Yv (all w1) s L.a1.1 L.a2.1 L.a3.1 L.a4.1 _ L.a1.2 _ L.a2.2 _ L.a3.2 _ L.a4.2 (some ⟨b,0,none⟩) (dK s).length (gN s z.cn) w1 (t.bU 3 rfl) hm (Piece.Le.refl _) h1
     rw[hal] at this
     exact this) ?_
    rintro _ _ q ⟨ga,gb,gc,px,rfl,rfl⟩ _;dsimp only[List.cons_append,List.nil_append];refine bE ?_ (hS:=fun _ h=>h.bB.tail.tail.tail.bL);refine aL 10 ?_;refine cE fun gt=>?_;refine bE ?_ (hS:=fun _ h=>h.bB.tail.tail.tail.tail.bL);refine aL 11 ?_;refine lM 0 rfl ?_;dsimp only[List.set];refine bE ?_ (hS:=fun _ h=>h.bB.tail.tail.tail.tail.bL);refine eC ?_;refine eI ?_;refine aY 4 0 ?_;refine aT [1,2,0,6,7,8,9] rfl (by decide) (R':=[R0]) (by simp) ?_;exact nV ⟨gt,ga,gb,gc,rfl,rfl,rfl⟩
   ·refine cE fun gt=>?_;refine bE ?_ (hS:=fun _ h=>h.tail.bL);refine aL 9 ?_;refine aY 1 1 ?_
    refine eW (Xx (gM s (gN s z.cn))) (fun w1 t=>by
     have h1:=t.uY (i:=0) (sz:=1) (n:=(gN s z.cn).length) rfl (by simp[bG])
     have:=Yv (all w1) s L.a1.1 L.a2.1 L.a3.1 L.a4.1 _ L.a1.2 _ L.a2.2 _ L.a3.2 _ L.a4.2 (some ⟨b,0,none⟩) (dK s).length (gN s z.cn) w1 (t.bU 4 rfl) hm (Piece.Le.refl _) h1
     rw[hal] at this
     exact this) ?_
    rintro _ _ q ⟨ga,gb,gc,px,rfl,rfl⟩ _;dsimp only[List.cons_append,List.nil_append];refine bE ?_ (hS:=fun _ h=>h.bB.tail.tail.tail.tail.bL);refine aL 11 ?_;refine lM 3 rfl ?_;dsimp only[List.set];refine bE ?_ (hS:=fun _ h=>h.bB.tail.tail.tail.tail.bL);refine eC ?_;refine eI ?_;refine aY 4 0 ?_;refine aT [4,1,0,6,7,8,9] rfl (by decide) (R':=[R0]) (by simp) ?_;exact nV ⟨gt,ga,gb,gc,rfl,rfl,rfl⟩
  ·refine cE fun gt=>?_;refine bE ?_ (hS:=fun _ h=>h.tail.bL);refine aL 8 ?_;refine wA (α:=Nat) 1 (f:=246) (fi:=[]) (ca:=[]) (fun b=>.slice (some ⟨b,0,none⟩) (dK s).length (dK s).length) (fun b=>HP.many [Kb L.gc L.gm L.nd.1 L.nd.2 (dK s) z.cn,HP.aE b 4 (bG (gN s z.cn))]) (fun _=>True) (by kernel_rfl) rfl rfl rfl (by decide) (fun w1 F1 t h1 h2 h3=>aH3 L.gc L.gm L.nd.1 L.nd.2 (dK s) z.cn _ rfl (by omega) hno ho w1 F1 h1 h2) ?_;rintro b _;dsimp only[List.set];refine bE ?_ (hS:=fun _ h=>h.tail.bL);refine aL 9 ?_;refine aY 1 1 ?_
   refine eW (Xx (gM s (gN s z.cn))) (fun w1 t=>by
    have h1:=t.uY (i:=0) (sz:=1) (n:=(gN s z.cn).length) rfl (by simp[bG])
    have:=Yv (all w1) s L.a1.1 L.a2.1 L.a3.1 L.a4.1 _ L.a1.2 _ L.a2.2 _ L.a3.2 _ L.a4.2 (some ⟨b,0,none⟩) (dK s).length (gN s z.cn) w1 (t.bU 4 rfl) hm (Piece.Le.refl _) h1
    rw[hal] at this
    exact this) ?_
   rintro _ _ q ⟨ga,gb,gc,px,rfl,rfl⟩ _;dsimp only[List.cons_append,List.nil_append];refine bE ?_ (hS:=fun _ h=>h.bB.tail.tail.tail.tail.bL);refine aL 11 ?_;refine lM 3 rfl ?_;dsimp only[List.set];refine bE ?_ (hS:=fun _ h=>h.bB.tail.tail.tail.tail.bL);refine eC ?_;refine eI ?_;refine aY 4 0 ?_;refine aT [4,1,0,6,7,8,9] rfl (by decide) (R':=[R0]) (by simp) ?_;exact nV ⟨gt,ga,gb,gc,rfl,rfl,rfl⟩
 rintro _ _ _ ⟨gt,ga,gb,gc,rfl,rfl,rfl⟩
 have nZ:(gM s (gN s z.cn)).l.length=(pS s z).l.length:=by
  show _=(List.mapIdx _ _).length
  rw[List.length_mapIdx]
 have wZ:(gM s (gN s z.cn)).l.length=s.bA.length:=(aBA s _).l
 have hzl:=hz.l
 rw[nZ]
 have aS4:(pS s z).l.length=s.bA.length:=by rw[←nZ];exact wZ
 refine aY 1 2 ?_;refine aY 2 1 ?_;refine aY 3 0 ?_;refine aT [0,1,2,3,4,5,6,7,8,9] rfl (by decide) (fun _ h=>h) ?_;refine aA ?_
 have Dq:Ie z.wn.l (gM s (gN s z.cn)).l 0=(gM s (gN s z.cn)).l:=Ou _ _
 refine bM [(21,iv 0),(20,iv z.wn.l.length),(19,.slice L.w3.1 z.wn.l.length L.w3.2),(2,pt gt),(0,pt g)] ?_;refine eU (fun m e R H=>∃i:Nat,i≤z.wn.l.length∧m=z.wn.l.length - i∧e=[(21,iv i),(20,iv z.wn.l.length),(19,.slice L.w3.1 z.wn.l.length L.w3.2),(2,pt gt),(0,pt g)]∧R=[R0]∧H=[HP.aE ga 4 (bG (gM s (gN s z.cn)).d),HP.aE gb 4 (bG (gM s (gN s z.cn)).c),HP.aE gc 4 (bG (Ie z.wn.l (gM s (gN s z.cn)).l i)),HP.aE gt 55 [.slice (some ⟨ga,0,none⟩) (gM s (gN s z.cn)).d.length (gM s (gN s z.cn)).d.length,.slice (some ⟨gb,0,none⟩) (gM s (gN s z.cn)).c.length (gM s (gN s z.cn)).c.length,.slice (some ⟨gc,0,none⟩) (pS s z).l.length (pS s z).l.length],HP.many [cF,cF,cF],Kb L.gc L.gm L.nd.1 L.nd.2 (dK s) z.cn,HP.bU (tA L z.wn) (tA.le (L:=L) (x:=z.wn)),HP.bU (lU L s) (lU.le (L:=L) (s:=s)),HP.aE g 190 (lI h f L s z),M]) z.wn.l.length ⟨0,by omega,rfl,rfl,rfl,by rw[Dq]⟩ fun m e R H hI=>?_;obtain⟨i,hi,rfl,rfl,rfl,rfl⟩:=hI;refine aA ?_;refine aG rfl (fun hlt=>?_) (fun hge=>?_)
 ·have hlt:i < z.wn.l.length:=by omega
  obtain⟨b,hb⟩:=get_some hlt;obtain⟨c,hc⟩:=get_some (l:=(gM s (gN s z.cn)).l) (i:=i) (by omega)
  have eO:(Ie z.wn.l (gM s (gN s z.cn)).l i)[i]? =some c:=Ow hc
  have hstep:(Ie z.wn.l (gM s (gN s z.cn)).l i).set i (c||hasB z.wn.l i)=Ie z.wn.l (gM s (gN s z.cn)).l (i+1):=Ov (f:=fun k b=>b||hasB z.wn.l k) hc
  have hbB:hasB z.wn.l i=b:=by show z.wn.l[i]?.getD false=b;rw[hb];rfl
  rw[hbB] at hstep
  have cM:(Ie z.wn.l (gM s (gN s z.cn)).l i).length=s.bA.length:=by rw[Ie,List.length_mapIdx];exact wZ
  refine aDH (A:=L.w3.1) (sz:=1) (n:=z.wn.l.length) (xs:=bG z.wn.l) 6 rfl (fun _ h=>h.2.2) (by omega) fun wb aJy hwA=>?_
  have hbc:(bG z.wn.l)[i]? =some (.bool b):=by simp[bG,hb]
  refine aA ?_;refine kd (dat i (aJy+i) (hx:=by rw[←hwA];rfl)) ?_;refine kd (bJ rfl (Rd.bU 6 rfl (fun _ h=>h.2.2) hwA (by omega) hbc)) ?_;refine aA ?_;cases b
  ·rw[Bool.or_false,wS eO] at hstep;rw[hstep];refine aA ?_;exact eP (z.wn.l.length - (i+1)) ⟨i+1,hlt,rfl,rfl,rfl,rfl⟩
  ·rw[Bool.or_true] at hstep;refine aA ?_;refine kd (dat i i) ?_;refine eN rfl rfl ?_ (hs:=eJ.mk 2 rfl cP.h rfl (by simp[bG];omega));dsimp only[List.set];rw[aDz,hstep];refine aA ?_;exact eP (z.wn.l.length - (i+1)) ⟨i+1,hlt,rfl,rfl,rfl,rfl⟩
 obtain rfl:i=z.wn.l.length:=by omega
 rw[hzl];refine aA ?_;refine iY [3,4,5,7,8,9,10] ?_;refine bK 0 ?_;refine bK 1 ?_;refine bK 2 ?_;refine aK 3 ?_;refine aK 4 ?_;refine aK 5 ?_ (hi:=rfl) (cN:=jT rfl (xZ (vs:=[_,_,_,_]) 8 rfl rfl));refine bK 6 ?_;refine aK 7 ?_;refine aK 8 ?_;refine aK 9 ?_ (hi:=rfl) (cN:=jT rfl (xZ (vs:=[_,_,_]) 8 rfl rfl));refine aK 10 ?_;refine aL 11 ?_;refine kA [] (aIv (allM s z.wn (pS s z))) (fun w1 t=>aKc (q:=all w1) (qx:=all w1) (qy:=all w1) (t.bU 7 rfl) hm (Piece.Le.refl _) (x:=z.wn) (y:=pS s z) ⟨L.w1.1,L.w1.2,L.w2.1,L.w2.2,L.w3.1,L.w3.2,rfl,t.bU 6 rfl⟩ (Piece.Le.refl _) ⟨_,_,_,_,_,_,rfl,t.uY (i:=0) rfl (by simp[bG,pS]),t.uY (i:=1) rfl (by simp[bG,pS]),t.uY (i:=2) rfl (by simp[bG,pS])⟩ (Piece.Le.refl _)) ?_;rintro _ w1 q ⟨As,cs,rfl,hs,hsc⟩ hf _ hfr
 have hs:=hs.le hf
 refine cH ?_;refine aL 12 ?_;refine bF ?_;refine cH ?_;refine aL 13 ?_;refine bF ?_;refine cH ?_;refine aL 14 ?_;refine eN rfl rfl ?_ (hs:=eJ.mk 8 rfl cP.h rfl (of_decide_eq_true rfl));dsimp only[List.set];refine cH ?_;refine aL 15 ?_;refine bF ?_;refine cH ?_;refine aL 16 ?_;refine bF ?_;refine cH ?_;refine aL 17 ?_;refine eN rfl rfl ?_ (hs:=eJ.mk 8 rfl cP.h rfl (of_decide_eq_true rfl));dsimp only[List.set];refine cH ?_;refine eC ?_
 refine Jp (Φ:=nL {L with st:=(As,cs)} (allM s z.wn (pS s z))) (hm:=nL.le) (hfr (by simp)) (fun p hp b hb=>by
  simp at hp;subst hp;rw[←cO] at hb
  exact hb.1) ⟨hs,hsc⟩ ?_
 refine aA ?_;refine Db 9 rfl ?_;dsimp only[List.set];refine aA ?_;obtain⟨L',hL'⟩:∃L':dJ,L'={L with w1:=(some ⟨ga,0,none⟩,(gM s (gN s z.cn)).d.length),w2:=(some ⟨gb,0,none⟩,(gM s (gN s z.cn)).c.length),w3:=(some ⟨gc,0,none⟩,(pS s z).l.length),st:=(As,cs)}:=⟨_,rfl⟩
 refine aT [1,2,3,0,6,8,9] rfl (by decide) (fun _ h=>h) ?_;refine vS ?_;refine pK (q:=HP.bU (tA L' (pS s z)) (tA.le (L:=L') (x:=pS s z))) 0 rfl (fun F w hs=>?_) ?_
 ·obtain⟨G,k1,k2,_⟩:=hs;subst hL';exact⟨qS (c:=0) (k1 0 _ rfl) (fun b hb=>k2 0 b hb) (by simp[bG,pS]),qS (c:=0) (k1 1 _ rfl) (fun b hb=>k2 1 b hb) (by simp[bG,pS]),qS (c:=0) (k1 2 _ rfl) (fun b hb=>k2 2 b hb) (by simp[bG,pS])⟩
 dsimp only[List.set];refine aY 2 0 ?_;refine aY 3 1 ?_;refine aT [6,5,2,1,0,3] rfl (by decide) (fun _ h=>h) ?_;refine mV ?_;refine qN ?_;refine qN ?_;refine qN ?_;refine qN ?_;refine uM 0 (f:=fun L:dJ=>fZ g h f L s (uT s z)) L' (by subst hL';rfl) ?_;dsimp only[List.set];subst cO;exact fB 0 hF
end
end
section
theorem pP{w0:World}{R:List Piece}{H:List HP}{g h f:Nat}{L:dJ}{s:aC}{z:bH}(i:Nat){o:Nat}{v:Value}(hi:H[i]? =some (fZ g h f L s z))(hv:(lI h f L s z)[o]? =some v):Rd w0 R H g o v:=fun w st=>by
 have:=(st.aBP i hi).r0.at_ hv
 rw[Nat.zero_add] at this;exact this.2
def T3(j:Nat):Prop:=j=0∨j=1∨j=2
theorem Ey{h f:Nat}{L:dJ}{s:aC}{z:bH}{j k:Nat}{v:Value}(hj:T3 j)(hv:(tkC (z.tk j))[k]? =some v):(lI h f L s z)[10+13*j+k]? =some v:=by
 have hk:k < 13:=by
  have:=(List.getElem?_eq_some_iff.1 hv).1
  simpa[tkC] using this
 have hk2:k=0∨k=1∨k=2∨k=3∨k=4∨k=5∨k=6∨k=7∨k=8∨k=9∨k=10∨k=11∨k=12:=by omega
 rcases hj with rfl | rfl | rfl<;>rcases hk2 with rfl | rfl | rfl | rfl | rfl | rfl | rfl | rfl | rfl | rfl | rfl | rfl | rfl<;>exact hv
theorem Za{t:qA}{i:Nat}(hi:i < 6):(tkC t)[7+i]? =some (iv (hG t i)):=by
 have h2:i=0∨i=1∨i=2∨i=3∨i=4∨i=5:=by omega
 rcases h2 with rfl | rfl | rfl | rfl | rfl | rfl<;>rfl
theorem aGH{t:qA}{i k:Nat}{v:Int}(hl:t.hs.length=6)(hi:i < 6):hG {t with hs:=t.hs.set i v} k=if i=k then v else hG t k:=by
 show(t.hs.set i v).getD k 0=_
 rw[List.getD_eq_getElem?_getD,List.getElem?_set];split
 ·rename_i e
  subst e;rw[if_pos (by omega)];rfl
 ·show _=t.hs.getD k 0
  rw[List.getD_eq_getElem?_getD]
theorem aFp{h f:Nat}{L:dJ}{s:aC}{z:bH}{j i:Nat}{v:Int}(hj:T3 j)(hi:i < 6)(hl:(z.tk j).hs.length=6):(lI h f L s z).set (10+13*j+7+i) (iv v)=lI h f L s (z.jC j {z.tk j with hs:=(z.tk j).hs.set i v}):=by
 have hs:=fun k=>aGH (t:=z.tk j) (k:=k) (v:=v) hl hi
 have h2:i=0∨i=1∨i=2∨i=3∨i=4∨i=5:=by omega
 rcases hj with rfl | rfl | rfl<;>rcases h2 with rfl | rfl | rfl | rfl | rfl | rfl<;>simp[lI,bH.jC,bH.tk] at hs⊢ <;>simp[hs]
theorem aBS{h f:Nat}{L:dJ}{s:aC}{z:bH}:(lI h f L s z).length=55:=rfl
structure aEh(t:qA):Prop where
 len:t.hs.length=6
 bd:∀i,0≤hG t i∧hG t i≤1000000
def qE(t:qA)(i:Nat)(k:Int):qA:={t with hs:=t.hs.set i (hG t i+k)}
def Ga(s:aC)(z:bH)(j:Nat):Int×bH:=if(rJ (dK s).length z.cn (z.tk j).dev).1≠0 then((rJ (dK s).length z.cn (z.tk j).dev).1,z) else(0,uT s {z.jC j (qE (z.tk j) (z.tk j).dev.toNat 1) with cn:=(rJ (dK s).length z.cn (z.tk j).dev).2})
def Fb(s:aC)(z:bH)(j:Nat):Int×bH:=if bT s.aD.length (z.tk j).dev=false then(4,z) else if hG (z.tk j) (z.tk j).dev.toNat=0 then(6,z) else if(uJ (dK s).length z.cn (z.tk j).dev).1≠0 then((uJ (dK s).length z.cn (z.tk j).dev).1,z) else(0,uT s {z.jC j (qE (z.tk j) (z.tk j).dev.toNat (-1)) with cn:=(uJ (dK s).length z.cn (z.tk j).dev).2})
def Ew(s:aC)(z:bH):Int×bH:=if(xQ z.cn).1≠0 then((xQ z.cn).1,z) else(0,uT s {z with cn:=(xQ z.cn).2})
def Ez(s:aC)(z:bH):Int×bH:=if(xR z.cn).1≠0 then((xR z.cn).1,z) else(0,uT s {z with cn:=(xR z.cn).2})
theorem aQB{n:Nat}{c:Cn}{d:Int}(h:(rJ n c d).1≠0):(rJ n c d).2=c:=by
 unfold rJ at h⊢
 repeat' split
 all_goals first | rfl | (simp_all;done)
theorem aHB{n:Nat}{c:Cn}{d:Int}(h:(rJ n c d).1=0):0≤d∧d < n:=by
 unfold rJ at h;split at h
 ·simp at h
 ·split at h
  ·simp at h
  ·rename_i h1
   exact Decidable.not_not.1 h1
theorem aPY{n:Nat}{c:Cn}{d:Int}(h:(uJ n c d).1≠0):(uJ n c d).2=c:=by
 unfold uJ at h⊢
 repeat' split
 all_goals first | rfl | (simp_all;done)
theorem aPW{c:Cn}(h:(xQ c).1≠0):(xQ c).2=c:=by
 unfold xQ at h⊢;split
 ·rfl
 ·simp_all
theorem aPX{c:Cn}(h:(xR c).1≠0):(xR c).2=c:=by
 unfold xR at h⊢;split
 ·simp_all
 ·rfl
section
variable(g h f:Nat)(s:aC)(z:bH)(w:World)(F:Nat→Prop)
theorem aKP(hm:s.made)(hz:z.wn.of s)(a:Value)(hp:(jK g h f s z).sat F w)(hF:∀b,F b→b < w.heap.size):
  Cz 271 #[.agg #[],pt g,a] w (Wr (iv (Ew s z).1) (jK g h f s (Ew s z).2) w F):=by
 unfold Ew;refine cT func271 ntmps271 hp hF ?_;refine aA ?_;refine bN fun g1=>?_;refine aA ?_;refine iX 1 fun L=>?_;refine kd (bJ rfl (pP 1 rfl rfl)) ?_;refine aY 1 3 ?_;refine bX 0 (qU L.gc L.gm (.slice L.nd.1 (dK s).length L.nd.2) (xQ z.cn).2) (fun w1 F1 t h1 h2 h3=>aQb L.gc L.gm (dK s).length L.nd.2 L.nd.1 z.cn w1 F1 h1 h2) ?_;refine aA ?_;refine aG rfl (fun he=>?_) (fun he=>?_)
 ·rw[if_pos he,aPW he];refine aA ?_;refine aJ 1 3 ?_;refine cS 1 (fun L:dJ=>fZ g h f L s z) L ?_;exact bP 1 hF
 ·rw[if_neg he];refine aJ 1 3 ?_;refine cS 1 (fun L:dJ=>fZ g h f L s {z with cn:=(xQ z.cn).2}) L ?_;refine aA ?_;refine bX 1 (jK g h f s (uT s {z with cn:=(xQ z.cn).2})) (fun w1 F1 t h1 h2 h3=>Zi g h f s _ w1 F1 hm hz h1 h2) ?_;refine aA ?_;exact bP 1 hF
theorem aKS(hm:s.made)(hz:z.wn.of s)(a:Value)(hp:(jK g h f s z).sat F w)(hF:∀b,F b→b < w.heap.size):
  Cz 273 #[.agg #[],pt g,a] w (Wr (iv (Ez s z).1) (jK g h f s (Ez s z).2) w F):=by
 unfold Ez;refine cT func273 ntmps273 hp hF ?_;refine aA ?_;refine bN fun g1=>?_;refine aA ?_;refine iX 1 fun L=>?_;refine kd (bJ rfl (pP 1 rfl rfl)) ?_;refine aY 1 3 ?_;refine bX 0 (qU L.gc L.gm (.slice L.nd.1 (dK s).length L.nd.2) (xR z.cn).2) (fun w1 F1 t h1 h2 h3=>aQc L.gc L.gm (dK s).length L.nd.2 L.nd.1 z.cn w1 F1 h1 h2) ?_;refine aA ?_;refine aG rfl (fun he=>?_) (fun he=>?_)
 ·rw[if_pos he,aPX he];refine aA ?_;refine aJ 1 3 ?_;refine cS 1 (fun L:dJ=>fZ g h f L s z) L ?_;exact bP 1 hF
 ·rw[if_neg he];refine aJ 1 3 ?_;refine cS 1 (fun L:dJ=>fZ g h f L s {z with cn:=(xR z.cn).2}) L ?_;refine aA ?_;refine bX 1 (jK g h f s (uT s {z with cn:=(xR z.cn).2})) (fun w1 F1 t h1 h2 h3=>Zi g h f s _ w1 F1 hm hz h1 h2) ?_;refine aA ?_;exact bP 1 hF
theorem aKW(hm:s.made)(hz:z.wn.of s)(j:Nat)(hj:T3 j)(hk:aEh (z.tk j))(hp:(jK g h f s z).sat F w)(hF:∀b,F b→b < w.heap.size):
  Cz 242 #[.agg #[],pt g,.pointer (some ⟨g,10+13*j,none⟩)] w (Wr (iv (Ga s z j).1) (jK g h f s (Ga s z j).2) w F):=by
 have rE:=hm.nv
 have fK:=Zx s
 have hj2:j≤2:=by rcases hj with rfl | rfl | rfl<;>decide
 unfold Ga;refine cT func242 ntmps242 hp hF ?_;refine aA ?_;refine bN fun g1=>?_;refine aA ?_;refine iX 1 fun L=>?_;refine kd (bJ rfl (pP 1 rfl (Ey (k:=2) hj rfl))) ?_;refine aA ?_;refine kd (bJ rfl (pP 1 rfl rfl)) ?_;refine aY 1 3 ?_;refine aA ?_;refine bX 0 (qU L.gc L.gm (.slice L.nd.1 (dK s).length L.nd.2) (rJ (dK s).length z.cn (z.tk j).dev).2) (fun w1 F1 t h1 h2 h3=>aQf L.gc L.gm (dK s).length L.nd.2 L.nd.1 z.cn w1 F1 (z.tk j).dev h1 h2) ?_;refine aA ?_;refine aG rfl (fun he=>?_) (fun he=>?_)
 ·rw[if_pos he,aQB he];refine aA ?_;refine aJ 1 3 ?_;refine cS 1 (fun L:dJ=>fZ g h f L s z) L ?_;exact bP 1 hF
 ·rw[if_neg he];obtain⟨hd0,cZ⟩:=aHB (Decidable.not_not.1 he);obtain⟨dv,Bt⟩:∃n:Nat,(z.tk j).dev=(n:Int):=⟨(z.tk j).dev.toNat,by omega⟩
  have Bi:dv < 6:=by omega
  have hb0:=hk.bd dv
  refine aJ 1 3 ?_;refine aY 1 0 ?_;generalize nE:(rJ (dK s).length z.cn (z.tk j).dev).2=c2
  have hcell:(lI h f L s z)[10+13*j+7+dv]? =some (iv (hG (z.tk j) dv)):=by
   rw[Nat.add_assoc];exact Ey hj (Za Bi)
  have mE:qE (z.tk j) (z.tk j).dev.toNat (1)={z.tk j with hs:=(z.tk j).hs.set dv (hG (z.tk j) dv+1)}:=by
   unfold qE;rw[show(z.tk j).dev.toNat=dv by omega]
   all_goals rfl
  have lE:=aFp (h:=h) (f:=f) (L:=L) (s:=s) (z:=z) (i:=dv) (v:=hG (z.tk j) dv+1) hj Bi hk.len
  rw[mE];refine aA ?_;refine iY [2,3,4,5,6,7,8] ?_;refine bK 0 ?_;refine bK 1 ?_;refine aK 2 ?_;refine aK 3 ?_;refine aK 4 ?_ (hi:=rfl) (cN:=fM dv (10+13*j+7+dv) (hj:=Bt) (hlt:=Bi) (ho:=by omega));refine aK 5 ?_ (hi:=rfl) (cN:=bJ rfl (Rd.aE 0 rfl hcell));refine aK 6 ?_;refine aK 7 ?_;refine aK 8 ?_;refine aL 9 ?_;refine kd (fM dv (10+13*j+7+dv) (hj:=Bt) (hlt:=Bi) (ho:=by omega)) ?_;refine cH ?_;refine aL 10 ?_;refine eN rfl rfl ?_ (hs:=eJ.mk 0 rfl cP.h rfl (by rw[aBS];omega));dsimp only[List.set];rw[lE];refine cH ?_;refine eC ?_;refine aJ 1 0 ?_;refine cS 1 (fun L:dJ=>fZ g h f L s {z.jC j {z.tk j with hs:=(z.tk j).hs.set dv (hG (z.tk j) dv+1)} with cn:=c2}) L ?_;refine aA ?_;refine bX 1 (jK g h f s (uT s {z.jC j {z.tk j with hs:=(z.tk j).hs.set dv (hG (z.tk j) dv+1)} with cn:=c2})) (fun w1 F1 t h1 h2 h3=>Zi g h f s _ w1 F1 hm hz h1 h2) ?_;refine aA ?_;exact bP 1 hF
theorem aKT(hm:s.made)(hz:z.wn.of s)(j:Nat)(hj:T3 j)(hk:aEh (z.tk j))(hp:(jK g h f s z).sat F w)(hF:∀b,F b→b < w.heap.size):
  Cz 262 #[.agg #[],pt g,.pointer (some ⟨g,10+13*j,none⟩)] w (Wr (iv (Fb s z j).1) (jK g h f s (Fb s z j).2) w F):=by
 have rE:=hm.nv
 have fK:=Zx s
 have hj2:j≤2:=by rcases hj with rfl | rfl | rfl<;>decide
 unfold Fb;refine cT func262 ntmps262 hp hF ?_;refine aA ?_;refine bN fun g1=>?_;refine aA ?_;refine iX 1 fun L=>?_;refine kd (bJ rfl (pP 1 rfl (Ey (k:=2) hj rfl))) ?_;refine aA ?_;refine aV (fun w1 t=>aKY g h f L s z w1 (z.tk j).dev (t.aBP 1 rfl)) ?_;cases hin:bT s.aD.length (z.tk j).dev
 ·refine aA ?_;refine cS 1 (fun L:dJ=>fZ g h f L s z) L ?_;exact bP 1 hF
 have Pv:=of_decide_eq_true hin
 obtain⟨dv,Bt⟩:∃n:Nat,(z.tk j).dev=(n:Int):=⟨(z.tk j).dev.toNat,by omega⟩
 have Bi:dv < 6:=by omega
 have hb0:=hk.bd dv
 have aNZ:(lI h f L s z)[10+13*j+7+dv]? =some (iv (hG (z.tk j) dv)):=by
  rw[Nat.add_assoc];exact Ey hj (Za Bi)
 rw[if_neg (by simp)];refine aA ?_;refine kd (fM dv (10+13*j+7+dv) (hj:=Bt) (hlt:=Bi) (ho:=by omega)) ?_;refine kd (bJ rfl (pP 1 rfl aNZ)) ?_;refine aA ?_
 have Ph:(z.tk j).dev.toNat=dv:=by omega
 refine aG rfl (fun h0=>?_) (fun h0=>?_)
 ·rw[if_pos (by rw[Ph];exact h0)];refine aA ?_;refine cS 1 (fun L:dJ=>fZ g h f L s z) L ?_;exact bP 1 hF
 rw[if_neg (by rw[Ph];exact h0)];refine aA ?_;refine kd (bJ rfl (pP 1 rfl rfl)) ?_;refine aY 1 3 ?_;refine aA ?_;refine bX 0 (qU L.gc L.gm (.slice L.nd.1 (dK s).length L.nd.2) (uJ (dK s).length z.cn (z.tk j).dev).2) (fun w1 F1 t h1 h2 h3=>aQd L.gc L.gm (dK s).length L.nd.2 L.nd.1 z.cn w1 F1 (z.tk j).dev h1 h2) ?_;refine aA ?_;refine aG rfl (fun he=>?_) (fun he=>?_)
 ·rw[if_pos he,aPY he];refine aA ?_;refine aJ 1 3 ?_;refine cS 1 (fun L:dJ=>fZ g h f L s z) L ?_;exact bP 1 hF
 ·rw[if_neg he];refine aJ 1 3 ?_;refine aY 1 0 ?_;generalize nE:(uJ (dK s).length z.cn (z.tk j).dev).2=c2
  have hcell:(lI h f L s z)[10+13*j+7+dv]? =some (iv (hG (z.tk j) dv)):=by
   rw[Nat.add_assoc];exact Ey hj (Za Bi)
  have mE:qE (z.tk j) (z.tk j).dev.toNat (-1)={z.tk j with hs:=(z.tk j).hs.set dv (hG (z.tk j) dv - 1)}:=by
   unfold qE;rw[show(z.tk j).dev.toNat=dv by omega]
   all_goals rfl
  have lE:=aFp (h:=h) (f:=f) (L:=L) (s:=s) (z:=z) (i:=dv) (v:=hG (z.tk j) dv - 1) hj Bi hk.len
  rw[mE];refine aA ?_;refine iY [2,3,4,5,6,7,8] ?_;refine bK 0 ?_;refine bK 1 ?_;refine aK 2 ?_;refine aK 3 ?_;refine aK 4 ?_ (hi:=rfl) (cN:=fM dv (10+13*j+7+dv) (hj:=Bt) (hlt:=Bi) (ho:=by omega));refine aK 5 ?_ (hi:=rfl) (cN:=bJ rfl (Rd.aE 0 rfl hcell));refine aK 6 ?_;refine aK 7 ?_;refine aK 8 ?_;refine aL 9 ?_;refine kd (fM dv (10+13*j+7+dv) (hj:=Bt) (hlt:=Bi) (ho:=by omega)) ?_;refine cH ?_;refine aL 10 ?_;refine eN rfl rfl ?_ (hs:=eJ.mk 0 rfl cP.h rfl (by rw[aBS];omega));dsimp only[List.set];rw[lE];refine cH ?_;refine eC ?_;refine aJ 1 0 ?_;refine cS 1 (fun L:dJ=>fZ g h f L s {z.jC j {z.tk j with hs:=(z.tk j).hs.set dv (hG (z.tk j) dv - 1)} with cn:=c2}) L ?_;refine aA ?_;refine bX 1 (jK g h f s (uT s {z.jC j {z.tk j with hs:=(z.tk j).hs.set dv (hG (z.tk j) dv - 1)} with cn:=c2})) (fun w1 F1 t h1 h2 h3=>Zi g h f s _ w1 F1 hm hz h1 h2) ?_;refine aA ?_;exact bP 1 hF
end
end
section
def aS1(d:cG)(vs:List Value):Prop:=∃A k A' n' k',vs=[iv d.clock,iv d.domain,iv d.reset,.int .u32 d.iG,.slice A d.aS.length k,.slice A' n' k']
structure aIT(s:aC)(rows:List (List Value)):Prop where
 row:∀(i:Nat) (d:cG),s.aD[i]? =some d→∃r,rows[i]? =some r∧aS1 d r
 len:∀r∈rows,r.length=6
def Hg(L:dJ)(s:aC)(rows:List (List Value))(p:Piece):Prop:=lU L s p∧aI p 6 L.a4.1 s.aD.length rows.flatten
theorem Hg.le{L:dJ}{s:aC}{rows:List (List Value)}(p q:Piece)(hl:p.Le q)(h:Hg L s rows p):Hg L s rows q:=⟨lU.le p q hl h.1,h.2.le hl⟩
theorem aFt{α:Type}{R:α→List Value→Prop}{sz:Nat}:∀{es:List α} {rs:List (List Value)},Rows R sz es rs→∀(i:Nat) (e:α),es[i]? =some e→∃r,rs[i]? =some r∧r.length=sz∧R e r
 | [],[],_,i,e,h=>by simp at h
 | a::es,r::rs,h,0,e,he=>by
  simp at he;subst he;exact⟨r,rfl,h.1,h.2.1⟩
 | a::es,r::rs,h,i+1,e,he=>aFt h.2.2 i e (by simpa using he)
section
variable{N:bY}{w0:World}{e:Env}{R:List Piece}{H:List HP}{K:Act→World→Prop}{L:dJ}{s:aC}
theorem aRM(i:Nat)(hi:H[i]? =some (HP.bU (lU L s) (lU.le (L:=L) (s:=s))))(k:∀rows,aIT s rows→XK N w0 K e R (H.set i (HP.bU (Hg L s rows) (Hg.le (L:=L) (s:=s) (rows:=rows))))):XK N w0 K e R H:=fun a w hr st=>by
 obtain⟨F,h1,hlt,_,hk⟩:=st.chunk hi;obtain⟨rows,dQ,fW,xA⟩:=(h1:lU L s ⟨w,F⟩).dev;refine k rows ⟨fun i d hd=>?_,fun r hr=>Rows.Ms dQ r hr⟩ a w hr (hk w F _ (show Hg L s rows ⟨w,F⟩ from⟨h1,xA⟩) ⟨rfl,rfl,rfl,Nat.le_refl _,fun b hb=>⟨.inl hb,hlt b hb⟩,fun _ _ _=>rfl⟩);obtain⟨r,h2,_,A,n,q,A',n',q',h3,h4,_⟩:=aFt dQ i d hd;subst h4;exact⟨r,h2,A,q,A',n',q',h3⟩
theorem Rd.dev(i:Nat){rows:List (List Value)}{j k b off:Nat}{r:List Value}{v:Value}{hm:∀p q:Piece,p.Le q→Hg L s rows p→Hg L s rows q}(hi:H[i]? =some (HP.bU (Hg L s rows) hm))(hq:aIT s rows)(hA:L.a4.1=some ⟨b,off,none⟩)(hr:rows[j]? =some r)(hj:j < s.aD.length)(hv:r[k]? =some v):Rd w0 R H b (off+j*6+k) v:=by
 have hk:k < 6:=by
  have h1:=hq.len r (List.mem_of_getElem? hr)
  have:=(List.getElem?_eq_some_iff.1 hv).1
  omega
 have hf:=Qg (fun x=>x) 6 rows hq.len j k r hr hk
 have:=Rd.bU (w0:=w0) (R:=R) (xs:=rows.flatten) (j:=j*6+k) (v:=v) i hi (fun p h=>h.2) hA (by omega) (by simpa[hv] using hf)
 rwa [←Nat.add_assoc] at this
end
theorem aKZ(g h f:Nat)(L:dJ)(s:aC)(z:bH)(w:World)(d:Int)(hR:dU w g 0 (lI h f L s z)):Cz 263 #[pt g,iv d] w (Rt (.bool (bT s.aD.length d)) w):=by
 have k5:=hR.at_ (j:=5) rfl
 refine aN func263 ntmps263 ?_;refine aA ?_;refine bZ (t:=7) rfl (fun h=>?_) (fun h=>?_)
 ·refine aA ?_;refine jJ (by simp) ?_;unfold bT
  congr 1
  simp;omega
 ·refine aA ?_;refine jJ (by simp) ?_
  have:bT s.aD.length d=false:=decide_eq_false (by omega)
  rw[this]
def Tr(s:aC)(d:Int):Int:=((s.aD[d.toNat]?).map fun d=>(d.aS.length:Int)).getD 0
def Jk(s:aC)(t:qA):Prop:=bT s.aD.length t.dev=false∨t.bO < 0∨Tr s t.dev≤t.bO
instance(s:aC)(t:qA):Decidable (Jk s t):=by unfold Jk;infer_instance
def vP(s:aC)(x:aR)(z:bH)(j:Nat)(wr:Bool):Int×bH×aR:=
 if Jk s (z.tk j) then(4,z,x) else if hG (z.tk j) (z.tk j).dev.toNat=0∨z.cn.lS=true then(6,z,x)
 else if wO x (z.tk j).dev.toNat=114 then(0,{z with aU:=true,id:=x.aU},Ia x (z.tk j).dev.toNat wr (z.tk j).bO (z.tk j).val) else(6,z,x)
def Ju(g f:Nat)(hL:HL)(s:aC)(z:bH)(x:aR):HP:=HP.many [jK g hL.h f s z,dL hL s x]
section
variable(g f:Nat)(hL:HL)(s:aC)(z:bH)(x:aR)(w:World)(F:Nat→Prop)
theorem aFq(hm:s.made)(aQ:gA hL s)(hok:cX s x)(hw0:∀i:Nat,(x.wt[i]?).join=none)(lO:0≤x.aU∧x.aU≤1000000000)(j:Nat)(hj:T3 j)(wr:Bool)(hp:(Ju g f hL s z x).sat F w)(hF:∀b,F b→b < w.heap.size)(dD:eS ⟨w,fun b=>b < w.heap.size∧¬F b⟩):
  Cz 265 #[.agg #[.bool wr],pt g,.pointer (some ⟨g,10+13*j,none⟩)] w (Wr (iv (vP s x z j wr).1) (Ju g f hL s (vP s x z j wr).2.1 (vP s x z j wr).2.2) w F):=by
 have rE:=hm.nv
 have hH:=hm.dH
 have hj2:j≤2:=by rcases hj with rfl | rfl | rfl<;>decide
 unfold vP;refine cT func265 ntmps265 hp hF ?_;generalize cO:(⟨w,fun b=>b < w.heap.size∧¬F b⟩:Piece)=R0 at dD⊢;refine aY 0 1 ?_;refine aY 1 0 ?_;refine iX 0 fun L=>?_;refine aA ?_;refine bN fun g1=>?_;refine aA ?_;refine kd (jT (vs:=[.int .u8 (z.tk j).kind,iv (z.tk j).dev,iv (z.tk j).bO,.int .u32 (z.tk j).val]) rfl (aO.of fun k v hv=>pP 1 rfl ?_)) ?_
 ·have hk:k < 4:=by simpa using(List.getElem?_eq_some_iff.1 hv).1
  have h2:k=0∨k=1∨k=2∨k=3:=by omega
  have:=Ey (h:=hL.h) (f:=f) (L:=L) (s:=s) (z:=z) (j:=j) (k:=1+k) (v:=v) hj (by rcases h2 with rfl | rfl | rfl | rfl<;>exact hv)
  rwa [←Nat.add_assoc] at this
 refine cE fun g7=>?_;refine aA ?_;refine aY 2 1 ?_;refine aY 3 0 ?_
 have hj7:10+13*j+7 < 55:=by omega
 refine aRM 1 rfl fun rows hq=>?_;dsimp only[List.set];refine aRF (A:=L.a4.1) (sz:=6) (n:=s.aD.length) (xs:=rows.flatten) 1 rfl (fun _ h=>h.2) fun b off hA=>?_;refine aA ?_;refine lH ?_;refine jE ?_;refine sY (fun w1 t=>aKZ g hL.h f L s z w1 (z.tk j).dev (uL (t.aE (i:=0) rfl))) ?_;cases hin:bT s.aD.length (z.tk j).dev
 ·refine iW ?_;rw[if_pos (show Jk s (z.tk j) from .inl hin)];refine aA ?_;refine pK (q:=HP.bU (lU L s) (lU.le (L:=L) (s:=s))) 1 rfl (fun F w hs=>hs.1) ?_;dsimp only[List.set];refine aJ 3 0 ?_;refine aJ 2 1 ?_;refine cS 2 (fun L:dJ=>fZ g hL.h f L s z) L ?_;refine aT [2,3,4] rfl (by decide) (fun _ h=>h) ?_;refine aJ 1 0 ?_;refine aJ 0 1 ?_;subst cO;exact bP 0 hF
 ·have Pv:=of_decide_eq_true hin
  have hA:=hA (by omega)
  obtain⟨dv,Bt⟩:∃n:Nat,(z.tk j).dev=(n:Int):=⟨(z.tk j).dev.toNat,by omega⟩
  have Ph:(z.tk j).dev.toNat=dv:=by omega
  obtain⟨d,cZ⟩:=get_some (l:=s.aD) (i:=dv) (by omega)
  have Uv:Tr s (z.tk j).dev=d.aS.length:=by
   unfold Tr;rw[Ph,cZ];rfl
  obtain⟨r,hr,A,k,A',n',k',rfl⟩:=hq.row dv d cZ;refine jE ?_;refine Ed 26 rfl (fun hneg=>?_) (fun hnn=>?_)
  ·refine iW ?_;rw[if_pos (show Jk s (z.tk j) from .inr (.inl hneg))];refine aA ?_;refine pK (q:=HP.bU (lU L s) (lU.le (L:=L) (s:=s))) 1 rfl (fun F w hs=>hs.1) ?_;dsimp only[List.set];refine aJ 3 0 ?_;refine aJ 2 1 ?_;refine cS 2 (fun L:dJ=>fZ g hL.h f L s z) L ?_;refine aT [2,3,4] rfl (by decide) (fun _ h=>h) ?_;refine aJ 1 0 ?_;refine aJ 0 1 ?_;subst cO;exact bP 0 hF
  ·refine jE ?_;refine vQ (dat dv (off+dv*6) (hx:=by rw[←hA];rfl) (hj:=Bt)) ?_;refine jE ?_;refine vQ (bJ rfl (Rd.dev 1 rfl hq hA hr (by omega) rfl)) ?_;refine iW ?_;refine aA ?_;refine aG rfl (fun hge=>?_) (fun hlt=>?_)
   ·rw[if_pos (show Jk s (z.tk j) from .inr (.inr (by rw[Uv];exact hge)))];refine aA ?_;refine pK (q:=HP.bU (lU L s) (lU.le (L:=L) (s:=s))) 1 rfl (fun F w hs=>hs.1) ?_;dsimp only[List.set];refine aJ 3 0 ?_;refine aJ 2 1 ?_;refine cS 2 (fun L:dJ=>fZ g hL.h f L s z) L ?_;refine aT [2,3,4] rfl (by decide) (fun _ h=>h) ?_;refine aJ 1 0 ?_;refine aJ 0 1 ?_;subst cO;exact bP 0 hF
   ·have aNB:¬Jk s (z.tk j):=by
     unfold Jk;rw[hin,Uv];rintro(h | h | h)
     ·cases h
     ·exact hnn h
     ·exact hlt h
    have hcell:(lI hL.h f L s z)[10+13*j+7+dv]? =some (iv (hG (z.tk j) dv)):=by
     rw[Nat.add_assoc];exact Ey hj (Za (by omega))
    rw[if_neg aNB];refine pK (q:=HP.bU (lU L s) (lU.le (L:=L) (s:=s))) 1 rfl (fun F w hs=>hs.1) ?_;dsimp only[List.set];refine aJ 3 0 ?_;refine aJ 2 1 ?_;refine aA ?_;refine lH ?_;refine jE ?_;refine vQ (fM dv (10+13*j+7+dv) (hj:=Bt) (hlt:=by omega) (ho:=by omega)) ?_;refine vQ (bJ rfl (pP 2 rfl hcell)) ?_;refine jE ?_;refine Ed 51 rfl (fun h0=>?_) (fun h0=>?_)
    ·refine iW ?_;rw[if_pos (show hG (z.tk j) (z.tk j).dev.toNat=0∨z.cn.lS=true from .inl (by rw[Ph];exact h0))];refine aA ?_;refine cS 2 (fun L:dJ=>fZ g hL.h f L s z) L ?_;refine aT [2,3,4] rfl (by decide) (fun _ h=>h) ?_;refine aJ 1 0 ?_;refine aJ 0 1 ?_;subst cO;exact bP 0 hF
    ·refine jE ?_;refine vQ (bJ rfl (pP 2 rfl rfl)) ?_;refine jE ?_;refine sY (fun w1 t=>aQg L.gc z.cn.lS w1 ((t.aBP 2 rfl).cn.at_ (j:=2) rfl)) ?_;cases aSL:z.cn.lS
     ·refine iW ?_;refine aA ?_
      have aSF:=(List.getElem?_eq_some_iff.1 cZ).1
      have hrl:=(hm.aD dv d cZ).2.2.2.2.2.2.2.2.1
      have Dd:0≤(z.tk j).bO:=by omega
      have dQ:(z.tk j).bO < d.aS.length:=by omega
      have hno:¬(hG (z.tk j) dv=0∨false=true):=by
       rintro(h | h)
       ·exact h0 h
       ·cases h
      rw[Ph,if_neg hno];refine aA ?_;refine aV (fun w1 t=>aQO (z.tk j).dev (z.tk j).bO ⟨by omega,by omega⟩ ⟨Dd,by omega⟩ w1) ?_;refine aA ?_
      by_cases Bp:wO x dv=114
      ·rw[if_pos Bp];refine aT [3,0,1,2,4] rfl (by decide) (fun _ h=>h) ?_;refine Gw [1,2,3,5,6,7,8,11,12] ?_;refine bK 0 ?_ (hsub:=fun _ h=>h.bL);refine aK 1 ?_ (hsub:=fun _ h=>h.bL);refine aK 2 ?_ (hsub:=fun _ h=>h.bL);refine aK 3 ?_ (hi:=rfl) (cN:=bJ rfl (pP 3 rfl rfl)) (hsub:=fun _ h=>h.bL);refine bK 4 ?_ (hsub:=fun _ h=>h.bL);refine aK 5 ?_ (hsub:=fun _ h=>h.bL);refine aK 6 ?_ (hsub:=fun _ h=>h.bL);refine aK 7 ?_ (hsub:=fun _ h=>h.bL);refine aK 8 ?_ (hsub:=fun _ h=>h.bL);refine aL 9 ?_
       refine aAm (v:=.tuple #[iv x.aU,iv 0]) 0 (dL hL s (Ia x dv wr (z.tk j).bO (z.tk j).val)) (fun w1 F1 t h1 h2 h3=>by
        have:=aG9 hL s x w1 hH aQ hok dv d cZ (hw0 dv) rE.2 (z.tk j).bO ⟨Dd,by omega,dQ⟩ wr (z.tk j).val lO F1 h1 h2 (eS.le dD (h3 _ (by simp)))
        rw[if_pos Bp,if_pos Bp,←Bt] at this
        exact this) ?_
       dsimp only[List.set];refine bE ?_ (hS:=fun _ h=>h.bL);refine aL 10 ?_;refine bF ?_;refine bE ?_ (hS:=fun _ h=>h.bL);refine aK 11 ?_ (hsub:=fun _ h=>h.bL);refine aK 12 ?_ (hsub:=fun _ h=>h.bL);refine aL 13 ?_;refine bF ?_;refine bE ?_ (hS:=fun _ h=>h.bL);refine aL 14 ?_;refine bF ?_;refine bE ?_ (hS:=fun _ h=>h.bL);refine eC ?_;refine aT [1,2,3,0,4] rfl (by decide) (fun _ h=>h) ?_;refine aY 2 0 ?_;refine aA ?_;refine eN rfl rfl ?_ (hs:=eJ.mk 0 rfl cP.h rfl (of_decide_eq_true rfl));dsimp only[List.set];refine aA ?_;refine eN rfl rfl ?_ (hs:=eJ.mk 0 rfl cP.h rfl (of_decide_eq_true rfl));dsimp only[List.set];refine aA ?_;refine aJ 2 0 ?_;refine cS 2 (fun L:dJ=>fZ g hL.h f L s {z with aU:=true,id:=x.aU}) L ?_;refine aT [2,3,4] rfl (by decide) (fun _ h=>h) ?_;refine aJ 1 0 ?_;refine aJ 0 1 ?_;subst cO;exact bP 0 hF
      ·rw[if_neg Bp];refine aT [3,0,1,2,4] rfl (by decide) (fun _ h=>h) ?_;refine Gw [1,2,3,5,6,7,8,11,12] ?_;refine bK 0 ?_ (hsub:=fun _ h=>h.bL);refine aK 1 ?_ (hsub:=fun _ h=>h.bL);refine aK 2 ?_ (hsub:=fun _ h=>h.bL);refine aK 3 ?_ (hi:=rfl) (cN:=bJ rfl (pP 3 rfl rfl)) (hsub:=fun _ h=>h.bL);refine bK 4 ?_ (hsub:=fun _ h=>h.bL);refine aK 5 ?_ (hsub:=fun _ h=>h.bL);refine aK 6 ?_ (hsub:=fun _ h=>h.bL);refine aK 7 ?_ (hsub:=fun _ h=>h.bL);refine aK 8 ?_ (hsub:=fun _ h=>h.bL);refine aL 9 ?_
       refine aAm (v:=.tuple #[iv 0,iv 6]) 0 (dL hL s x) (fun w1 F1 t h1 h2 h3=>by
        have:=aG9 hL s x w1 hH aQ hok dv d cZ (hw0 dv) rE.2 (z.tk j).bO ⟨Dd,by omega,dQ⟩ wr (z.tk j).val lO F1 h1 h2 (eS.le dD (h3 _ (by simp)))
        rw[if_neg Bp,if_neg Bp,←Bt] at this
        exact this) ?_
       dsimp only[List.set];refine bE ?_ (hS:=fun _ h=>h.bL);refine aL 10 ?_;refine bF ?_;refine bE ?_ (hS:=fun _ h=>h.bL);refine aK 11 ?_ (hsub:=fun _ h=>h.bL);refine aK 12 ?_ (hsub:=fun _ h=>h.bL);refine aL 13 ?_;refine bF ?_;refine bE ?_ (hS:=fun _ h=>h.bL);refine aL 14 ?_;refine bF ?_;refine bE ?_ (hS:=fun _ h=>h.bL);refine eC ?_;refine aT [1,2,3,0,4] rfl (by decide) (fun _ h=>h) ?_;refine aA ?_;refine cS 2 (fun L:dJ=>fZ g hL.h f L s z) L ?_;refine aT [2,3,4] rfl (by decide) (fun _ h=>h) ?_;refine aJ 1 0 ?_;refine aJ 0 1 ?_;subst cO;exact bP 0 hF
     ·refine iW ?_;rw[if_pos (.inr rfl)];refine aA ?_;refine cS 2 (fun L:dJ=>fZ g hL.h f L s z) L ?_;refine aT [2,3,4] rfl (by decide) (fun _ h=>h) ?_;refine aJ 1 0 ?_;refine aJ 0 1 ?_;subst cO;exact bP 0 hF
end
end
section
theorem aA7{P:Program}{fn:FuncId}{args:Array Value}{w:World}{p p' q:HP}{v:Value}{F:Nat→Prop}(h:∀F,p.sat F w→(∀b,F b→b < w.heap.size)→Calls P fn args w fun y w'=>y=.returned v∧∃F',p'.sat F' w'∧iC w w' F F')
  (hp:(HP.many [p,q]).sat F w) (hF:∀b,F b→b < w.heap.size):Calls P fn args w fun y w'=>y=.returned v∧∃F',(HP.many [p',q]).sat F' w'∧iC w w' F F':=by
 obtain⟨G,g1,g2,g3⟩:=hp
 have Dh:=g1 0 p rfl
 have De:=g1 1 q rfl
 refine(h (G 0) Dh fun b hb=>hF b (g2 0 b hb)).mono fun y w' ⟨hy,F',h1,ht⟩=>⟨hy,fun b=>F' b∨G 1 b,⟨fun i=>match i with | 0=>F' | 1=>G 1 | _=>fun _=>False,fun i r hr=>?_,fun i b hb=>?_,fun i j b hij hi hj=>?_⟩,⟨ht.os,ht.tape,ht.output,ht.size,fun b hb=>?_,fun b hb hn=>?_⟩⟩
 ·match i,hr with
  | 0,hr=>cases hr;exact h1
  | 1,hr=>cases hr;exact q.loc _ _ _ De fun b hb=>ht.old b (hF b (g2 1 b hb)) fun h0=>g3 0 1 b (by decide) h0 hb
  | i+2,hr=>simp at hr
 ·match i,hb with
  | 0,hb=>exact .inl hb
  | 1,hb=>exact .inr hb
  | i+2,hb=>exact hb.elim
 ·have key:∀b,F' b→G 1 b→False:=fun b h0 h2=>by
   rcases(ht.new b h0).1 with h3 | h3
   ·exact g3 0 1 b (by decide) h3 h2
   ·have:=hF b (g2 1 b h2)
    omega
  match i,j,hi,hj with
  | 0,0,_,_=>exact absurd rfl hij
  | 0,1,hi,hj=>exact key b hi hj
  | 1,0,hi,hj=>exact key b hj hi
  | 1,1,_,_=>exact absurd rfl hij
  | i+2,_,hi,_=>exact hi.elim
  | _,j+2,_,hj=>exact hj.elim
 ·rcases hb with hb | hb
  ·refine⟨?_,(ht.new b hb).2⟩;rcases(ht.new b hb).1 with h3 | h3
   ·exact .inl (g2 0 b h3)
   ·exact .inr h3
  ·exact⟨.inl (g2 1 b hb),Nat.lt_of_lt_of_le (hF b (g2 1 b hb)) ht.size⟩
 ·exact ht.old b hb fun h0=>hn (g2 0 b h0)
structure Sb(s:aC)(z:bH):Prop where
 wn:z.wn.of s
 hs:∀j,T3 j→aEh (z.tk j)
structure HwP(s:aC)(x:aR):Prop where
 ok:cX s x
 w0:∀i:Nat,(x.wt[i]?).join=none
 po:0≤x.aU∧x.aU≤1000000000
def uH(s:aC)(x:aR)(z:bH)(j:Nat)(k:Int):Int×bH×aR:=
 if k=103 then((Ga s z j).1,(Ga s z j).2,x) else if k=112 then((Fb s z j).1,(Fb s z j).2,x) else if k=114 then vP s x z j false else if k=119 then vP s x z j true else if k=115 then((Ew s z).1,(Ew s z).2,x) else((Ez s z).1,(Ez s z).2,x)
theorem aPb{k:Int}(hk:vE k):∃(tx:TypeId) (u u':Value) (fn:FuncId),Qm k=.iface tx u∧(∀w,(method (Tryz.prog.types.size+Made.depth) tx u "catnap/rpm.begin").run Tryz.prog w=.ok (fn,u') w)∧eY Tryz.prog fn=true∧
  ∀(g f:Nat) (hL:HL) (s:aC) (z:bH) (x:aR) (w:World) (F:Nat→Prop) (j:Nat),s.made→gA hL s→HwP s x→Sb s z→T3 j→(Ju g f hL s z x).sat F w→(∀b,F b→b < w.heap.size)→eS ⟨w,fun b=>b < w.heap.size∧¬F b⟩→
   Cz fn #[u',pt g,.pointer (some ⟨g,10+13*j,none⟩)] w (Wr (iv (uH s x z j k).1) (Ju g f hL s (uH s x z j k).2.1 (uH s x z j k).2.2) w F):=by
 rcases hk with rfl | rfl | rfl | rfl | rfl | rfl
 ·exact⟨_,_,.agg #[],242,rfl,fun w=>by kernel_rfl,(by kernel_rfl),fun g f hL s z x w F j hm aQ hx hz hj hp hF _=>aA7 (fun F h1 h2=>aKW g hL.h f s z w F hm hz.wn j hj (hz.hs j hj) h1 h2) hp hF⟩
 ·exact⟨_,_,.agg #[],262,rfl,fun w=>by kernel_rfl,(by kernel_rfl),fun g f hL s z x w F j hm aQ hx hz hj hp hF _=>aA7 (fun F h1 h2=>aKT g hL.h f s z w F hm hz.wn j hj (hz.hs j hj) h1 h2) hp hF⟩
 ·exact⟨_,_,.agg #[.bool false],265,rfl,fun w=>by kernel_rfl,(by kernel_rfl),fun g f hL s z x w F j hm aQ hx hz hj hp hF dD=>aFq g f hL s z x w F hm aQ hx.ok hx.w0 hx.po j hj false hp hF dD⟩
 ·exact⟨_,_,.agg #[.bool true],265,rfl,fun w=>by kernel_rfl,(by kernel_rfl),fun g f hL s z x w F j hm aQ hx hz hj hp hF dD=>aFq g f hL s z x w F hm aQ hx.ok hx.w0 hx.po j hj true hp hF dD⟩
 ·exact⟨_,_,.agg #[],271,rfl,fun w=>by kernel_rfl,(by kernel_rfl),fun g f hL s z x w F j hm aQ hx hz hj hp hF _=>aA7 (fun F h1 h2=>aKP g hL.h f s z w F hm hz.wn _ h1 h2) hp hF⟩
 ·exact⟨_,_,.agg #[],273,rfl,fun w=>by kernel_rfl,(by kernel_rfl),fun g f hL s z x w F j hm aQ hx hz hj hp hF _=>aA7 (fun F h1 h2=>aKS g hL.h f s z w F hm hz.wn _ h1 h2) hp hF⟩
theorem aHf(s:aC)(x:aR)(z:bH)(j:Nat)(k:Int):(uH s x z j k).2.1.cM=z.cM:=by
 unfold uH Ga Fb Ew Ez vP
 repeat' split
 all_goals rfl
theorem aLa{h f:Nat}{L:dJ}{s:aC}{z:bH}{j:Nat}{v:Int}(hj:T3 j):(lI h f L s z).set (10+13*j+0) (iv v)=lI h f L s (z.jC j {z.tk j with st:=v}):=by
 rcases hj with rfl | rfl | rfl<;>rfl
def pE(z:bH)(j:Nat):bH:={z.jC j {z.tk j with st:=2} with cM:=(j:Int)}
theorem aCf{z:bH}{j:Nat}(hj:T3 j):(pE z j).tk j={z.tk j with st:=2}:=by
 rcases hj with rfl | rfl | rfl<;>rfl
theorem aMh{s:aC}{z:bH}{j:Nat}(hj:T3 j)(h:Sb s z):Sb s (pE z j):=⟨h.wn,fun i hi=>by
 have h1:=h.hs i hi
 have h2:((pE z j).tk i).hs=(z.tk i).hs:=by
  rcases hj with rfl | rfl | rfl<;>rcases hi with rfl | rfl | rfl<;>rfl
 exact⟨by rw[h2];exact h1.len,fun k=>by
  have:=h1.bd k
  unfold hG at this⊢;rw[h2]
  exact this⟩⟩
def lR(s:aC)(x:aR)(z:bH)(j:Nat):bH×aR:=
 let r:=uH s x (pE z j) j (z.tk j).kind
 if r.1≠0 then(oB r.2.1 j r.1 0,r.2.2) else if r.2.1.aU=false∧r.2.1.steps.length=0 then(oB r.2.1 j 0 0,r.2.2) else r.2
theorem aLb(g f:Nat)(hL:HL)(s:aC)(z:bH)(x:aR)(w:World)(F:Nat→Prop)(j:Nat)(hm:s.made)(aQ:gA hL s)(hx:HwP s x)(hz:Sb s z)(hj:T3 j)(hk:vE (z.tk j).kind)(hp:(Ju g f hL s z x).sat F w)(hF:∀b,F b→b < w.heap.size)(dD:eS ⟨w,fun b=>b < w.heap.size∧¬F b⟩):
  Cz 133 #[pt g,iv (j:Int)] w (Wr (.tuple #[]) (Ju g f hL s (lR s x z j).1 (lR s x z j).2) w F):=by
 have hj2:j≤2:=by rcases hj with rfl | rfl | rfl<;>decide
 obtain⟨tx,u,u',fn,hy,hme,hcb,yW⟩:=aPb hk
 have mE:=aMh hj hz
 have hh:=aHf s x (pE z j) j (z.tk j).kind
 unfold lR;dsimp only;refine cT func133 ntmps133 hp hF ?_;generalize cO:(⟨w,fun b=>b < w.heap.size∧¬F b⟩:Piece)=R0 at dD⊢;refine aY 0 0 ?_;refine iX 0 fun L=>?_;refine aY 0 0 ?_;refine aA ?_;refine eN rfl rfl ?_ (hs:=eJ.mk 0 rfl cP.h rfl (of_decide_eq_true rfl));dsimp only[List.set];rw[show(lI hL.h f L s z).set (0+49) (iv (j:Int))=lI hL.h f L s {z with cM:=(j:Int)} from rfl];refine aA ?_;refine kd (fM j (10+13*j) (ho:=by omega)) ?_;refine aA ?_;refine eN rfl rfl ?_ (hs:=eJ.mk 0 rfl cP.h rfl (by rw[aBS];omega));dsimp only[List.set];rw[aLa hj];refine aJ 0 0 ?_
 change XK _ _ _ _ _ [fZ g hL.h f L s (pE z j),HP.many [cF,dL hL s x]]
 refine aA ?_;refine kd (bJ rfl (pP 0 rfl (Ey (k:=1) hj rfl))) ?_;rw[aCf hj];refine aV (fun w1 _=>aBR (z.tk j).kind w1) ?_;rw[hy];refine cS 0 (fun L:dJ=>fZ g hL.h f L s (pE z j)) L ?_;refine aJ 0 0 ?_;refine aA ?_;generalize hr:uH s x (pE z j) j (z.tk j).kind=r at hh⊢
 refine aJk 0 (Ju g f hL s r.2.1 r.2.2) hcb rfl hme rfl rfl ⟨by decide,rfl⟩ (fun w1 F1 t h1 h2 h3=>by
  have:=yW g f hL s (pE z j) x w1 F1 j hm aQ hx mE hj h1 h2 (eS.le dD (h3 _ (by simp)))
  rw[hr] at this
  exact this) ?_
 dsimp only[List.set];obtain⟨er,z2,x2⟩:=r;dsimp only at hh⊢;refine aA ?_;refine aG rfl (fun he=>?_) (fun he=>?_)
 ·rw[if_pos he];refine aA ?_;refine kd (iM rfl) ?_;refine aA ?_;refine aY 0 0 ?_;refine bX 0 (jK g hL.h f s (oB z2 j er 0)) (fun w1 F1 t h1 h2 h3=>Kt g hL.h f s z2 w1 F1 j hh hj er 0 h1 h2) ?_;refine aJ 0 0 ?_;refine aA ?_;subst cO;exact fB 0 hF
 ·rw[if_neg he];refine aY 0 0 ?_;refine iX 0 fun L2=>?_;refine aA ?_;refine kd (bJ rfl (pP 0 rfl rfl)) ?_;cases lO:z2.aU
  ·refine aA ?_;refine kd (bJ rfl (pP 0 rfl rfl)) ?_;refine aA ?_;refine cS 0 (fun L:dJ=>fZ g hL.h f L s z2) L2 ?_;refine aG rfl (fun hn=>?_) (fun hn=>?_)
   ·rw[if_pos ⟨rfl,Int.ofNat.inj hn⟩];refine aA ?_;refine kd (iM rfl) ?_;refine aA ?_;refine bX 0 (jK g hL.h f s (oB z2 j 0 0)) (fun w1 F1 t h1 h2 h3=>Kt g hL.h f s z2 w1 F1 j hh hj 0 0 h1 h2) ?_;refine aJ 0 0 ?_;subst cO;exact fB 0 hF
   ·rw[if_neg (fun h=>hn (congrArg Int.ofNat h.2))];refine aA ?_;refine aJ 0 0 ?_;subst cO;exact fB 0 hF
  ·refine aA ?_;rw[if_neg (by simp)];refine cS 0 (fun L:dJ=>fZ g hL.h f L s z2) L2 ?_;refine aJ 0 0 ?_;subst cO;exact fB 0 hF
end
section
def Gj(k:Int):Value:=
 if k=117 then .func (.func 138) #[] #[] else if k=100∨k=107 then .func (.func 139) #[] #[]
 else if k=99 then .func (.func 140) #[] #[] else if k=111 then .func (.func 141) #[] #[]
 else if k=114 then .func (.func 142) #[] #[] else .func (.func 143) #[] #[]
theorem aHm(k:Int)(w:World):Cz 91 #[.int .u8 k] w (Rt (Gj k) w):=by
 refine aN func91 ntmps91 ?_;refine aA ?_;refine aG rfl (fun h1=>?_) (fun h1=>?_)
 ·refine aA ?_;exact dI (by rw[Gj,if_pos h1])
 refine aA ?_;refine aG rfl (fun h2=>?_) (fun h2=>?_)
 ·refine aA ?_;refine aG rfl (fun _=>?_) (fun h=>absurd h2 h);refine aA ?_;exact dI (by rw[Gj,if_neg h1,if_pos (.inl h2)])
 refine aA ?_;refine aG rfl (fun h3=>?_) (fun h3=>?_)
 ·refine aA ?_;exact dI (by rw[Gj,if_neg h1,if_pos (.inr h3)])
 have h23:¬(k=100∨k=107):=by omega
 refine aA ?_;refine aG rfl (fun h4=>?_) (fun h4=>?_)
 ·refine aA ?_;exact dI (by rw[Gj,if_neg h1,if_neg h23,if_pos h4])
 refine aA ?_;refine aG rfl (fun h5=>?_) (fun h5=>?_)
 ·refine aA ?_;exact dI (by rw[Gj,if_neg h1,if_neg h23,if_neg h4,if_pos h5])
 refine aA ?_;refine aG rfl (fun h6=>?_) (fun h6=>?_)
 ·refine aA ?_;exact dI (by rw[Gj,if_neg h1,if_neg h23,if_neg h4,if_neg h5,if_pos h6])
 refine aA ?_;exact dI (by rw[Gj,if_neg h1,if_neg h23,if_neg h4,if_neg h5,if_neg h6])
theorem aCz{P:Program}{fn:Func}{R:Ending→World→Prop}(hr:fn.results=#[]){t1 t2:Array Value}:∀(ds:List Deferred) (u:FrameMode) (w:World),Leaves P fn t1 R ds u w→Leaves P fn t2 R ds u w
 | [],.returning,w,h=>by
  obtain⟨v,h1,h2⟩:=h;rw[results_none hr] at h1;cases h1;exact⟨_,results_none hr _ _ _,h2⟩
 | [],.panicking _,_,h=>h
 | [],.run,_,h=>h
 | d::ds,u,w,h=>by
  obtain⟨h1,fv,cap,f,args,h2,h3,h4⟩:=h;refine⟨h1,fv,cap,f,args,h2,h3,h4.mono fun y u' w' hy=>?_⟩;cases y with
  | returned v=>exact aCz hr ds _ _ hy
  | panicked c=>exact aCz hr ds _ _ hy
  | outgrown=>exact hy
theorem lJ{P:Program}{fn:Func}{R:Ending→World→Prop}{c:List PanicEntry}{a:Act}{d:Option Nat}{v:Value}{w:World}(hr:fn.results=#[])(h:bodyPostD P fn R (.panic c) (a.put d v) w):bodyPostD P fn R (.panic c) a w:=by
 have hd:(a.put d v).defers=a.defers:=by cases d<;>rfl
 have h2:Leaves P fn (a.put d v).tmps R (a.put d v).defers (.panicking c) w:=h
 rw[hd] at h2;exact aCz hr _ _ _ h2
def aEs(f:Nat)(hL:HL)(s:aC)(z:cI)(x:aR)(r:aR×Bool):Prop:=
 ∃fn:FuncId,Gj z.kind=.func (.func fn) #[] #[]∧eY Tryz.prog fn=true∧cX s r.1∧∀(w:World) (F:Nat→Prop),(gK f hL s z x).sat F w→(∀b,F b→b < w.heap.size)→eS ⟨w,fun b=>b < w.heap.size∧¬F b⟩→
  Cz fn #[pt f,iv z.id] w (Wr (.bool r.2) (gK f hL s z r.1) w F)
def Gf(s:aC)(z:cI)(r:aR×Bool):cI:=if r.2 then yO s r.1 {z with at_:= -1} z.at_.toNat 0 else z
section
variable(f:Nat)(hL:HL)(s:aC)(z:cI)(x:aR)(w:World)
theorem aO4(hH:s.dH)(aQ:gA hL s)(hok:cX s x)(hz:Ej s z)(a:Nat)(ha:z.at_=(a:Int))(Bm:a < 2)(r:aR×Bool)(hact:aEs f hL s z x r)(Dc:tE (kB z a))(F:Nat→Prop)(hp:(gK f hL s z x).sat F w)(hF:∀b,F b→b < w.heap.size)(dD:eS ⟨w,fun b=>b < w.heap.size∧¬F b⟩):
  Cz 36 #[pt f] w (Wr (.tuple #[]) (gK f hL s (Gf s z r) r.1) w F):=by
 obtain⟨fn,cN,hcb,Uz,yW⟩:=hact;refine aBl (vs:=[pt f]) (p:=gK f hL s z x) func36 rfl ntmps36 (by simp) hp hF ?_;generalize cO:(⟨w,fun b=>b < w.heap.size∧¬F b⟩:Piece)=R0 at dD⊢;refine aA ?_;refine Ys (f:=89) (fi:=[]) (ca:=[]) rfl ?_;refine aA ?_;refine kd (bJ rfl (Hh 0 rfl fun _=>rfl)) ?_;refine aA ?_;refine bZ (t:=8) rfl (fun h=>absurd h (by omega)) (fun _=>?_);refine aA ?_;refine iY [1,2,3,4,8,9,10,11] ?_;refine bK 0 ?_ (hQ:=fun _ _ _ h=>lJ rfl h);refine bK 6 ?_ (hQ:=fun _ _ _ h=>lJ rfl h);refine bK 7 ?_ (hQ:=fun _ _ _ h=>lJ rfl h);refine aK 1 ?_ (hQ:=fun _ _ _ h=>lJ rfl h);refine aK 2 ?_ (hQ:=fun _ _ _ h=>lJ rfl h);refine aK 3 ?_ (hQ:=fun _ _ _ h=>lJ rfl h);refine aK 4 ?_ (hQ:=fun _ _ _ h=>lJ rfl h) (cN:=bJ rfl (Hh 0 rfl fun _=>rfl));refine aK 8 ?_ (hQ:=fun _ _ _ h=>lJ rfl h);refine aK 9 ?_ (hQ:=fun _ _ _ h=>lJ rfl h);refine aK 10 ?_ (hQ:=fun _ _ _ h=>lJ rfl h);refine aK 11 ?_ (hQ:=fun _ _ _ h=>lJ rfl h) (cN:=bJ rfl (Hh 0 rfl fun _=>rfl));refine aL 5 ?_;refine aV (fun w1 t=>aHm z.kind w1) ?_;rw[cN];refine bE ?_;refine aL 12 ?_;refine aAl 0 (fi:=[]) (ca:=[]) (gK f hL s z r.1) (fun w1 F1 t h1 h2 h3=>by simpa using yW w1 F1 h1 h2 (eS.le dD (h3 _ (by simp)))) ?_ (hf:=hcb);dsimp only[List.set];refine cH ?_;refine eC ?_;refine aA ?_;obtain⟨x',b⟩:=r;dsimp only at Uz⊢;cases b
 ·refine aA ?_;subst cO;exact Cc (.inr rfl) (by kernel_rfl) Wc rfl fun w1 t=>⟨rfl,t.turns hF (by simp) (i:=0) rfl⟩
 ·refine aA ?_;refine kd (bJ rfl (Hh 0 rfl fun _=>rfl)) ?_;refine aA ?_;refine aY 0 0 ?_;refine iX 0 fun L=>?_;refine aY 0 0 ?_;refine eN rfl rfl ?_ (hs:=eJ.mk 0 rfl cP.h rfl (by simp[jI]));dsimp only[List.set];rw[show(jI hL.h L s z).set (0+16) (iv (-1))=jI hL.h L s {z with at_:= -1} from rfl];refine aJ 0 0 ?_;refine cS 0 (fun L:gB=>iE f hL.h L s {z with at_:= -1}) L ?_;refine aJ 0 0 ?_;refine aA ?_;rw[ha];refine bX 0 (gK f hL s (yO s x' {z with at_:= -1} a 0) x') (fun w1 F1 t h1 h2 h3=>aDc f hL s {z with at_:= -1} x' hH aQ Uz a Bm 0 (fun _=>Dc) w1 F1 h1 h2) ?_;refine aA ?_
  have hend:Gf s z (x',true)=yO s x' {z with at_:= -1} a 0:=by
   unfold Gf;rw[if_pos rfl,ha];rfl
  rw[hend];subst cO;exact Cc (.inr rfl) (by kernel_rfl) Wc rfl fun w1 t=>⟨rfl,t.turns hF (by simp) (i:=0) rfl⟩
end
end
section
def Io(s:aC)(d:Int)(k:Nat)(p:dS×fE):dS×fE:=match s.aD[k]? with
 | some dv=>if dv.domain=d then(p.1,if p.2.at_=3 then(oM p.2).2 else if p.2.at_=0 then(sW p.2).2 else p.2) else p
 | none=>p
def mF(s:aC)(x:aR)(d:Int)(n:Nat):List (dS×fE):=x.dv.mapIdx fun k p=>if k < n then Io s d k p else p
def Zo(s:aC)(x:aR)(d:Int)(k:Nat):Bool:=match s.aD[k]?,x.dv[k]? with
 | some dv,some p=> !decide (dv.domain=d)||decide (p.2.at_=2)
 | _,_=>true
def Li(s:aC)(x:aR)(d:Int)(n:Nat):Bool:=(List.range n).all (Zo s x d)
theorem aNq(s:aC)(x:aR)(d:Int)(n:Nat):Li s x d (n+1)=(Li s x d n&&Zo s x d n):=by simp[Li,List.range_succ]
theorem aRa{x:fE}(h:zP x):zP (sW x).2:=by
 unfold sW;split
 ·exact h
 ·exact⟨by show(0:Int)≤1;omega,by show(1:Int)≤3;omega⟩
theorem aC7{s:aC}{x:aR}(hH:s.dH)(hok:cX s x)(d:Int)(n:Nat):cX s {x with dv:=mF s x d n}:=Ua hH hok (by simp[mF]) fun i e p hd hp=>by
 rw[mF,List.getElem?_mapIdx] at hp;cases hq:x.dv[i]? with
 | none=>rw[hq] at hp;cases hp
 | some q =>
  rw[hq] at hp;obtain⟨h1,h2⟩:=hok.each i e q hd hq;simp only[Option.map_some,Option.some.injEq] at hp;subst hp;split
  ·unfold Io;rw[hd];dsimp only;split
   ·refine⟨h1,?_⟩;dsimp only;split
    ·exact aGc h2
    ·split
     ·exact aRa h2
     ·exact h2
   ·exact⟨h1,h2⟩
  ·exact⟨h1,h2⟩
variable(f:Nat)(hL:HL)(s:aC)(z:cI)(x:aR)(w:World)
theorem aOA(hH:s.dH)(aQ:gA hL s)(hok:cX s x)(d:Int)(F:Nat→Prop)(hp:(gK f hL s z x).sat F w)(hF:∀b,F b→b < w.heap.size)(dD:eS ⟨w,fun b=>b < w.heap.size∧¬F b⟩):
  Cz 176 #[pt f,iv d] w (Wr (.bool (Li s x d s.aD.length)) (gK f hL s z {x with dv:=mF s x d s.aD.length}) w F):=by
 have rE:=hH.t.nv
 have kZ:=hok.dv
 refine cT func176 ntmps176 hp hF ?_;generalize cO:(⟨w,fun b=>b < w.heap.size∧¬F b⟩:Piece)=R0 at dD⊢;refine aY 0 0 ?_;refine iX 0 fun L=>?_;refine aY 1 1 ?_;refine aA ?_;refine kd (bJ rfl (Rd.dW 1 rfl rfl)) ?_;refine aA ?_
 have hm0:mF s x d 0=x.dv:=Ou _ _
 refine bM [(15,iv (0)),(14,iv s.aD.length),(13,.slice L.a4.1 s.aD.length L.a4.2),(5,.bool true),(0,pt f),(1,iv d)] ?_;refine eU (fun m e R H=>∃(i:Nat) (b:Bool),i≤s.aD.length∧m=s.aD.length - i∧b=Li s x d i∧e=[(15,iv (i:Int)),(14,iv s.aD.length),(13,.slice L.a4.1 s.aD.length L.a4.2),(5,.bool b),(0,pt f),(1,iv d)]∧R=[R0]∧H=[dL hL s {x with dv:=mF s x d i},iE f hL.h L s z,HP.many [cF,cF]]) s.aD.length ⟨0,true,by omega,rfl,rfl,rfl,rfl,by rw[hm0]⟩ fun m e R H hI=>?_;obtain⟨i,b0,hi,rfl,hb0,rfl,rfl,rfl⟩:=hI
 have mQ:=aC7 hH hok d i
 refine aA ?_;refine aG rfl (fun hlt=>?_) (fun hge=>?_)
 ·have hlt:i < s.aD.length:=by omega
  obtain⟨dv,cZ⟩:=get_some hlt;obtain⟨p,gF⟩:=get_some (l:=x.dv) (i:=i) (by omega)
  have kN:(mF s x d i)[i]? =some p:=Ow gF
  have hstep:(mF s x d i).set i (Io s d i p)=mF s x d (i+1):=Ov (f:=Io s d) gF
  have dB:=aNq s x d i
  have Ux:Zo s x d i=(!decide (dv.domain=d)||decide (p.2.at_=2)):=by
   unfold Zo;rw[cZ,gF]
  rw[Ux,←hb0] at dB;obtain⟨q1,q2⟩:=(mQ.each i dv p cZ kN).2;refine aIc 1 rfl (by omega) fun b off hA=>?_;refine aA ?_;refine kd (dat i (off+i*6) (hx:=by rw[←hA];rfl)) ?_;refine aE0 6 (aEn dv) rfl (fun w1 t=>aGV (t.Du 1 rfl) hA cZ) ?_;rintro _ ⟨A,n,k,A',n',k',rfl⟩;refine cE fun g1=>?_;refine aA ?_;refine aG rfl (fun he=>?_) (fun he=>?_)
  ·have nD:Io s d i p=p:=by
    unfold Io;rw[cZ];exact if_neg he
   rw[nD,wS kN] at hstep;rw[hstep];refine aA ?_;refine aT [1,2,3] rfl (by decide) (fun _ h=>h) ?_;refine bM [(15,iv ((i+1:Nat):Int)),(14,iv s.aD.length),(13,.slice L.a4.1 s.aD.length L.a4.2),(5,.bool b0),(0,pt f),(1,iv d)] ?_;exact gQ (s.aD.length - (i+1)) (by omega) ⟨i+1,b0,hlt,rfl,by rw[dB,decide_eq_false he];simp,rfl,rfl,rfl⟩
  ·have he:dv.domain=d:=by simpa using he
   rw[decide_eq_true he] at dB
   have hst:wO {x with dv:=mF s x d i} i=pF p.2.at_:=by
    unfold wO;dsimp only;rw[kN];rfl
   have nD:Io s d i p=(p.1,if p.2.at_=3 then(oM p.2).2 else if p.2.at_=0 then(sW p.2).2 else p.2):=by
    unfold Io;rw[cZ];exact if_pos he
   refine aA ?_;refine kd (bJ rfl (Rd.dW 2 rfl rfl)) ?_;refine aA ?_;refine aV (fun w1 t=>aG7 hL s _ w1 aQ mQ i hlt (dD.at_ (t.le (by simp))) (t.mG 1 rfl aQ mQ)) ?_;rw[hst]
   have hq4:p.2.at_=0∨p.2.at_=1∨p.2.at_=2∨p.2.at_=3:=by omega
   rcases hq4 with ha | ha | ha | ha<;>rw[ha] at nD dB⊢ <;>cases b0
   ·rw[show pF 0=114 from rfl];refine aA ?_;refine kd (bJ rfl (Rd.dW 2 rfl rfl)) ?_;refine aA ?_;refine wA (α:=Int) 1 (f:=207) (fi:=[]) (ca:=[]) (fun r=>iv r) (fun _=>dL hL s (Gr {x with dv:=mF s x d i} i)) (fun _=>True) (by kernel_rfl) rfl rfl rfl (by decide) (fun w1 F1 t h1 h2 h3=>aGC hL s _ w1 hH aQ mQ i hlt F1 h1 h2) ?_;rintro _ _;dsimp only[List.set]
    have hX:Gr {x with dv:=mF s x d i} i={x with dv:=mF s x d (i+1)}:=by
     unfold Gr;dsimp only;rw[kN,←hstep,nD];rfl
    rw[hX];refine aA ?_;refine aT [1,2,3] rfl (by decide) (fun _ h=>h) ?_;refine bM [(15,iv ((i+1:Nat):Int)),(14,iv s.aD.length),(13,.slice L.a4.1 s.aD.length L.a4.2),(5,.bool false),(0,pt f),(1,iv d)] ?_;exact gQ (s.aD.length - (i+1)) (by omega) ⟨i+1,false,hlt,rfl,by rw[dB];rfl,rfl,rfl,rfl⟩
   ·rw[show pF 0=114 from rfl];refine aA ?_;refine kd (bJ rfl (Rd.dW 2 rfl rfl)) ?_;refine aA ?_;refine wA (α:=Int) 1 (f:=207) (fi:=[]) (ca:=[]) (fun r=>iv r) (fun _=>dL hL s (Gr {x with dv:=mF s x d i} i)) (fun _=>True) (by kernel_rfl) rfl rfl rfl (by decide) (fun w1 F1 t h1 h2 h3=>aGC hL s _ w1 hH aQ mQ i hlt F1 h1 h2) ?_;rintro _ _;dsimp only[List.set]
    have hX:Gr {x with dv:=mF s x d i} i={x with dv:=mF s x d (i+1)}:=by
     unfold Gr;dsimp only;rw[kN,←hstep,nD];rfl
    rw[hX];refine aA ?_;refine aT [1,2,3] rfl (by decide) (fun _ h=>h) ?_;refine bM [(15,iv ((i+1:Nat):Int)),(14,iv s.aD.length),(13,.slice L.a4.1 s.aD.length L.a4.2),(5,.bool false),(0,pt f),(1,iv d)] ?_;exact gQ (s.aD.length - (i+1)) (by omega) ⟨i+1,false,hlt,rfl,by rw[dB];rfl,rfl,rfl,rfl⟩
   ·rw[show pF 1=97 from rfl];rw[nD,show(if(1:Int)=3 then(oM p.2).2 else if(1:Int)=0 then(sW p.2).2 else p.2)=p.2 from rfl,wS kN] at hstep;rw[hstep];refine aA ?_;refine aT [1,2,3] rfl (by decide) (fun _ h=>h) ?_;refine bM [(15,iv ((i+1:Nat):Int)),(14,iv s.aD.length),(13,.slice L.a4.1 s.aD.length L.a4.2),(5,.bool false),(0,pt f),(1,iv d)] ?_;exact gQ (s.aD.length - (i+1)) (by omega) ⟨i+1,false,hlt,rfl,by rw[dB];rfl,rfl,rfl,rfl⟩
   ·rw[show pF 1=97 from rfl];rw[nD,show(if(1:Int)=3 then(oM p.2).2 else if(1:Int)=0 then(sW p.2).2 else p.2)=p.2 from rfl,wS kN] at hstep;rw[hstep];refine aA ?_;refine aT [1,2,3] rfl (by decide) (fun _ h=>h) ?_;refine bM [(15,iv ((i+1:Nat):Int)),(14,iv s.aD.length),(13,.slice L.a4.1 s.aD.length L.a4.2),(5,.bool false),(0,pt f),(1,iv d)] ?_;exact gQ (s.aD.length - (i+1)) (by omega) ⟨i+1,false,hlt,rfl,by rw[dB];rfl,rfl,rfl,rfl⟩
   ·rw[show pF 2=115 from rfl];rw[nD,show(if(2:Int)=3 then(oM p.2).2 else if(2:Int)=0 then(sW p.2).2 else p.2)=p.2 from rfl,wS kN] at hstep;rw[hstep];refine aA ?_;refine aT [1,2,3] rfl (by decide) (fun _ h=>h) ?_;refine bM [(15,iv ((i+1:Nat):Int)),(14,iv s.aD.length),(13,.slice L.a4.1 s.aD.length L.a4.2),(5,.bool false),(0,pt f),(1,iv d)] ?_;exact gQ (s.aD.length - (i+1)) (by omega) ⟨i+1,false,hlt,rfl,by rw[dB];rfl,rfl,rfl,rfl⟩
   ·rw[show pF 2=115 from rfl];rw[nD,show(if(2:Int)=3 then(oM p.2).2 else if(2:Int)=0 then(sW p.2).2 else p.2)=p.2 from rfl,wS kN] at hstep;rw[hstep];refine aA ?_;refine aT [1,2,3] rfl (by decide) (fun _ h=>h) ?_;refine bM [(15,iv ((i+1:Nat):Int)),(14,iv s.aD.length),(13,.slice L.a4.1 s.aD.length L.a4.2),(5,.bool true),(0,pt f),(1,iv d)] ?_;exact gQ (s.aD.length - (i+1)) (by omega) ⟨i+1,true,hlt,rfl,by rw[dB];rfl,rfl,rfl,rfl⟩
   ·rw[show pF 3=100 from rfl];refine aA ?_;refine kd (bJ rfl (Rd.dW 2 rfl rfl)) ?_;refine aA ?_;refine wA (α:=Int) 1 (f:=175) (fi:=[]) (ca:=[]) (fun r=>iv r) (fun _=>dL hL s (yQ {x with dv:=mF s x d i} i)) (fun _=>True) (by kernel_rfl) rfl rfl rfl (by decide) (fun w1 F1 t h1 h2 h3=>aCP hL s _ w1 hH aQ mQ i hlt F1 h1 h2) ?_;rintro _ _;dsimp only[List.set]
    have hX:yQ {x with dv:=mF s x d i} i={x with dv:=mF s x d (i+1)}:=by
     unfold yQ;dsimp only;rw[kN,←hstep,nD];rfl
    rw[hX];refine aA ?_;refine aT [1,2,3] rfl (by decide) (fun _ h=>h) ?_;refine bM [(15,iv ((i+1:Nat):Int)),(14,iv s.aD.length),(13,.slice L.a4.1 s.aD.length L.a4.2),(5,.bool false),(0,pt f),(1,iv d)] ?_;exact gQ (s.aD.length - (i+1)) (by omega) ⟨i+1,false,hlt,rfl,by rw[dB];rfl,rfl,rfl,rfl⟩
   ·rw[show pF 3=100 from rfl];refine aA ?_;refine kd (bJ rfl (Rd.dW 2 rfl rfl)) ?_;refine aA ?_;refine wA (α:=Int) 1 (f:=175) (fi:=[]) (ca:=[]) (fun r=>iv r) (fun _=>dL hL s (yQ {x with dv:=mF s x d i} i)) (fun _=>True) (by kernel_rfl) rfl rfl rfl (by decide) (fun w1 F1 t h1 h2 h3=>aCP hL s _ w1 hH aQ mQ i hlt F1 h1 h2) ?_;rintro _ _;dsimp only[List.set]
    have hX:yQ {x with dv:=mF s x d i} i={x with dv:=mF s x d (i+1)}:=by
     unfold yQ;dsimp only;rw[kN,←hstep,nD];rfl
    rw[hX];refine aA ?_;refine aT [1,2,3] rfl (by decide) (fun _ h=>h) ?_;refine bM [(15,iv ((i+1:Nat):Int)),(14,iv s.aD.length),(13,.slice L.a4.1 s.aD.length L.a4.2),(5,.bool false),(0,pt f),(1,iv d)] ?_;exact gQ (s.aD.length - (i+1)) (by omega) ⟨i+1,false,hlt,rfl,by rw[dB];rfl,rfl,rfl,rfl⟩
 obtain rfl:i=s.aD.length:=by omega
 rw[←hb0];refine aA ?_;refine aJ 1 1 ?_;refine cS 0 (fun L:gB=>iE f hL.h L s z) L ?_;refine aJ 0 0 ?_;subst cO;exact bP 0 hF
theorem aOC(hH:s.dH)(aQ:gA hL s)(hok:cX s x)(c:Int)(F:Nat→Prop)(hp:(gK f hL s z x).sat F w)(hF:∀b,F b→b < w.heap.size):
  Cz 141 #[pt f,iv c] w (Wr (.bool true) (gK f hL s z {x with ck:=(lK s x.ck c false).2}) w F):=by
 refine cT func141 ntmps141 hp hF ?_;generalize cO:(⟨w,fun b=>b < w.heap.size∧¬F b⟩:Piece)=R0;refine aY 0 0 ?_;refine iX 0 fun L=>?_;refine aY 1 1 ?_;refine aA ?_;refine kd (bJ rfl (Rd.dW 1 rfl rfl)) ?_;refine aA ?_;refine bX 0 (dL hL s {x with ck:=(lK s x.ck c false).2}) (fun w1 F1 t h1 h2 h3=>aGB hL s x w1 hH aQ hok c false F1 h1 h2) ?_;refine aA ?_;refine aJ 1 1 ?_;refine cS 0 (fun L:gB=>iE f hL.h L s z) L ?_;refine aJ 0 0 ?_;subst cO;exact bP 0 hF
def Kw(s:aC)(x:aR)(d:Int)(keep:Bool):aR×Bool:=
 if sC x.dm d=49 then(if Li s x d s.aD.length then {x with dv:=mF s x d s.aD.length,dm:=(xM s x.dm d keep).2} else {x with dv:=mF s x d s.aD.length},false)
 else if sC x.dm d=48∨sC x.dm d=116 then(x,true) else(x,false)
theorem aGR(hH:s.dH)(aQ:gA hL s)(hok:cX s x)(d:Int)(F:Nat→Prop)(hp:(gK f hL s z x).sat F w)(hF:∀b,F b→b < w.heap.size)(dD:eS ⟨w,fun b=>b < w.heap.size∧¬F b⟩):
  Cz 139 #[pt f,iv d] w (Wr (.bool (Kw s x d (decide (z.kind=107))).2) (gK f hL s z (Kw s x d (decide (z.kind=107))).1) w F):=by
 refine cT func139 ntmps139 hp hF ?_;generalize cO:(⟨w,fun b=>b < w.heap.size∧¬F b⟩:Piece)=R0 at dD⊢;refine aY 0 0 ?_;refine iX 0 fun L=>?_;refine aY 1 1 ?_;refine aA ?_;refine kd (bJ rfl (Rd.dW 1 rfl rfl)) ?_;refine aA ?_;refine aV (fun w1 t=>aCO hL s x w1 hok.dm d (t.mG 0 rfl aQ hok)) ?_;unfold Kw;generalize Df:sC x.dm d=ph
 by_cases Mc:ph=49
 ·subst Mc;rw[if_pos rfl];refine aJ 1 1 ?_;refine cS 0 (fun L:gB=>iE f hL.h L s z) L ?_;refine aJ 0 0 ?_;refine aA ?_;refine bX 0 (gK f hL s z {x with dv:=mF s x d s.aD.length}) (fun w1 F1 t h1 h2 h3=>aOA f hL s z x w1 hH aQ hok d F1 h1 h2 (eS.le dD (h3 _ (by simp)))) ?_
  have mR:=aC7 hH hok d s.aD.length
  cases hb:Li s x d s.aD.length
  ·refine aA ?_;subst cO;exact bP 0 hF
  ·refine aA ?_;refine aY 0 0 ?_;refine iX 0 fun L2=>?_;refine aY 1 1 ?_;refine iY [1,2,3,6,7,8,9,10] ?_;refine bK 0 ?_;refine bK 4 ?_;refine bK 5 ?_;refine aK 1 ?_;refine aK 2 ?_;refine aK 3 ?_ (cN:=bJ rfl (Rd.dW 1 rfl rfl));refine aK 6 ?_;refine aK 7 ?_;refine aK 8 ?_;refine aK 9 ?_ (cN:=bJ rfl (Rd.dW 1 rfl rfl));refine aK 10 ?_;refine aL 11 ?_;refine bX 0 (dL hL s {x with dv:=mF s x d s.aD.length,dm:=(xM s x.dm d (decide (z.kind=107))).2}) (fun w1 F1 t h1 h2 h3=>aNP hL s _ w1 hH aQ mR d _ F1 h1 h2) ?_;refine cH ?_;refine eC ?_;refine aA ?_;refine aJ 1 1 ?_;refine cS 0 (fun L:gB=>iE f hL.h L s z) L2 ?_;refine aJ 0 0 ?_;subst cO;exact bP 0 hF
 ·rw[if_neg Mc]
  by_cases h48:ph=48
  ·subst h48;rw[if_pos (.inl rfl)];refine aA ?_;refine aJ 1 1 ?_;refine cS 0 (fun L:gB=>iE f hL.h L s z) L ?_;refine aJ 0 0 ?_;subst cO;exact bP 0 hF
  by_cases Vz:ph=116
  ·subst Vz;rw[if_pos (.inr rfl)];refine aA ?_;refine aJ 1 1 ?_;refine cS 0 (fun L:gB=>iE f hL.h L s z) L ?_;refine aJ 0 0 ?_;subst cO;exact bP 0 hF
  rw[if_neg (by omega)];refine aA ?_;refine aG rfl (fun h=>absurd h Mc) (fun _=>?_);refine aA ?_;refine aG rfl (fun h=>absurd h h48) (fun _=>?_);refine aA ?_;refine aG rfl (fun h=>absurd h Vz) (fun _=>?_);refine aA ?_;refine aJ 1 1 ?_;refine cS 0 (fun L:gB=>iE f hL.h L s z) L ?_;refine aJ 0 0 ?_;subst cO;exact bP 0 hF
end
section
def Jj(s:aC)(i:Int)(k:Nat)(p:dS×fE):dS×fE:=match s.aD[k]? with
 | some d=>if d.reset=i then(Dz d p.1,p.2) else p
 | none=>p
def Gp(s:aC)(dv:List (dS×fE))(i:Int)(n:Nat):List (dS×fE):=dv.mapIdx fun k p=>if k < n then Jj s i k p else p
def Jl(s:aC)(x:aR)(i:Int):aR:=if bT x.ln.length i then {x with ln:=(rK s x.ln i).2,dv:=Gp s x.dv i s.aD.length} else x
theorem aHI{s:aC}{st:List jW}(hH:s.dH)(h:Ei s st)(i:Int):Ei s (rK s st i).2:=by
 unfold rK;split
 ·exact h
 ·refine⟨by simp[h.len],fun y hy=>?_⟩;rcases List.mem_or_eq_of_mem_set hy with hy | rfl
  ·exact h.left y hy
  ·cases hq:s.bA[i.toNat]? with
   | none=>simp
   | some r=>
    have:=hH.bA r (List.mem_of_getElem? hq)
    simpa using this
theorem aQu{d:cG}{f:dS}(hr:∀r∈d.aS,0≤r.reset∧r.reset≤6)(h:yB d f):yB d (Dz d f):=aHy 108 hr h
theorem aH4{s:aC}{x:aR}(hH:s.dH)(hok:cX s x)(i:Int)(n:Nat):cX s {x with dv:=Gp s x.dv i n}:=Ua hH hok (by simp[Gp]) fun k d p hd hp=>by
 rw[Gp,List.getElem?_mapIdx] at hp;cases hq:x.dv[k]? with
 | none=>rw[hq] at hp;cases hp
 | some q =>
  rw[hq] at hp;obtain⟨h1,h2⟩:=hok.each k d q hd hq;simp only[Option.map_some,Option.some.injEq] at hp;subst hp;split
  ·unfold Jj;rw[hd];dsimp only;split
   ·exact⟨aQu (hH.t.aD k d hd).2.2.2.2.2.2.2.2.2.1 h1,h2⟩
   ·exact⟨h1,h2⟩
  ·exact⟨h1,h2⟩
theorem aQZ{s:aC}{x:aR}(hH:s.dH)(hok:cX s x)(i:Int):cX s (Jl s x i):=by
 unfold Jl;split
 ·have h:=aH4 hH hok i s.aD.length
  exact⟨hok.ck,hok.dm,aHI hH hok.ln i,h.dv,h.each,hok.wt⟩
 ·exact hok
section
variable(L:HL)(s:aC)(x:aR)(w:World)
theorem aNR(hH:s.dH)(aQ:gA L s)(hok:cX s x)(i:Int)(F:Nat→Prop)(hp:(dL L s x).sat F w)(hF:∀b,F b→b < w.heap.size):
  Cz 182 #[.pointer (some ⟨L.h,0,none⟩),iv i] w (Wr (iv (rK s x.ln i).1) (dL L s (Jl s x i)) w F):=by
 have rE:=hH.t.nv
 have hls:=aQ.ds
 refine cT func182 ntmps182 hp hF ?_;generalize cO:(⟨w,fun b=>b < w.heap.size∧¬F b⟩:Piece)=R0;refine aA ?_;refine aV (fun w1 t=>Bh L s x w1 (t.mG 0 rfl aQ hok)) ?_;refine aA ?_;refine kd (bJ rfl (pQ 0 rfl rfl)) ?_;refine aA ?_;refine aY 0 3 ?_;refine bX 0 (oQ L.R s (rK s x.ln i).2) (fun w1 F1 t h1 h2 h3=>aKN L.R s x.ln hok.ln i w1 F1 h1 h2) ?_;refine aJ 0 3 ?_;unfold Jl;cases hin:bT x.ln.length i
 ·have e:rK s x.ln i=(4,x.ln):=by
   unfold rK;rw[if_pos hin]
  rw[e];refine aA ?_;subst cO;exact bP 0 hF
 ·have e1:(rK s x.ln i).1=0:=by
   unfold rK;rw[if_neg (by simp[hin])]
  rw[e1,if_pos rfl]
  have mR:cX s {x with ln:=(rK s x.ln i).2}:=⟨hok.ck,hok.dm,aHI hH hok.ln i,hok.dv,hok.each,hok.wt⟩
  generalize Dk:(rK s x.ln i).2=ln2 at mR⊢
  change XK _ _ _ _ _ [dL L s {x with ln:=ln2}]
  have kZ:=hok.dv
  refine aA ?_;refine kd (bJ rfl (pQ 0 rfl rfl)) ?_;refine aA ?_
  have hm0:Gp s x.dv i 0=x.dv:=Ou _ _
  refine bM [(25,iv 0),(24,iv s.aD.length),(23,.slice L.A s.aD.length L.c),(1,iv i)] ?_;refine eU (fun m e R H=>∃k:Nat,k≤s.aD.length∧m=s.aD.length - k∧e=[(25,iv k),(24,iv s.aD.length),(23,.slice L.A s.aD.length L.c),(1,iv i)]∧R=[R0]∧H=[dL L s {x with ln:=ln2,dv:=Gp s x.dv i k}]) s.aD.length ⟨0,by omega,rfl,rfl,rfl,by rw[hm0]⟩ fun m e R H hI=>?_;obtain⟨k,hk,rfl,rfl,rfl,rfl⟩:=hI
  have mQ:=aH4 hH mR i k
  dsimp only at mQ;refine aA ?_;refine aG rfl (fun hlt=>?_) (fun hge=>?_)
  ·have hlt:k < s.aD.length:=by omega
   obtain⟨d,cZ⟩:=get_some hlt;obtain⟨l,iA⟩:=get_some (l:=L.ds) (i:=k) (by omega);obtain⟨p,gF⟩:=get_some (l:=x.dv) (i:=k) (by omega)
   have kN:(Gp s x.dv i k)[k]? =some p:=Ow gF
   have hstep:(Gp s x.dv i k).set k (Jj s i k p)=Gp s x.dv i (k+1):=Ov (f:=Jj s i) gF
   have hfo:=(mQ.each k d p cZ kN).1
   refine Mv 0 rfl aQ mQ (by omega) fun b off hA=>?_;refine aA ?_;refine kd (dat k (off+k*6) (hx:=by rw[←hA];rfl)) ?_;refine kd (jT rfl (aO.dev 0 rfl aQ mQ hA cZ iA rfl)) ?_;refine cE fun g2=>?_;refine aA ?_;refine aG rfl (fun he=>?_) (fun he=>?_)
   ·have nD:Jj s i k p=(Dz d p.1,p.2):=by
     unfold Jj;rw[cZ];exact if_pos he
    refine aA ?_;refine Rp 1 k rfl cZ iA kN ?_;dsimp only[List.set];refine aY 0 0 ?_;refine bX 0 (gR l.1 d (Dz d p.1)) (fun w1 F1 t h1 h2 h3=>Zm l.1 d p.1 (by have:=(hH.t.aD k d cZ).2.2.2.2.2.2.2.2.1;omega) hfo w1 F1 h1 h2) ?_;refine aJ 0 0 ?_;refine Rw 1 k rfl cZ iA kN (p':=(Dz d p.1,p.2)) ?_;dsimp only[List.set];rw[←nD,hstep];refine aA ?_;refine aT [1] rfl (by decide) (fun _ h=>h) ?_;exact eP (s.aD.length - (k+1)) ⟨k+1,hlt,rfl,rfl,rfl,rfl⟩
   ·have nD:Jj s i k p=p:=by
     unfold Jj;rw[cZ];exact if_neg he
    rw[nD,wS kN] at hstep;rw[hstep];refine aA ?_;refine aT [1] rfl (by decide) (fun _ h=>h) ?_;exact eP (s.aD.length - (k+1)) ⟨k+1,hlt,rfl,rfl,rfl,rfl⟩
  obtain rfl:k=s.aD.length:=by omega
  refine aA ?_;subst cO;exact bP 0 hF
end
theorem aOD(f:Nat)(hL:HL)(s:aC)(z:cI)(x:aR)(w:World)(hH:s.dH)(aQ:gA hL s)(hok:cX s x)(c:Int)(F:Nat→Prop)(hp:(gK f hL s z x).sat F w)(hF:∀b,F b→b < w.heap.size):
  Cz 143 #[pt f,iv c] w (Wr (.bool true) (gK f hL s z (Jl s x c)) w F):=by
 refine cT func143 ntmps143 hp hF ?_;generalize cO:(⟨w,fun b=>b < w.heap.size∧¬F b⟩:Piece)=R0;refine aY 0 0 ?_;refine iX 0 fun L=>?_;refine aY 1 1 ?_;refine aA ?_;refine kd (bJ rfl (Rd.dW 1 rfl rfl)) ?_;refine aA ?_;refine bX 0 (dL hL s (Jl s x c)) (fun w1 F1 t h1 h2 h3=>aNR hL s x w1 hH aQ hok c F1 h1 h2) ?_;refine aA ?_;refine aJ 1 1 ?_;refine cS 0 (fun L:gB=>iE f hL.h L s z) L ?_;refine aJ 0 0 ?_;subst cO;exact bP 0 hF
end
section
def Jo(s:aC)(x:aR)(k id:Int):aR×Bool:=if k=117 then Ol s x id else if k=99 then Xb s x id.toNat else if k=114 then Of x id else if k=100∨k=107 then Kw s x id (decide (k=107)) else if k=111 then({x with ck:=(lK s x.ck id false).2},true) else if k=97 then(Jl s x id,true) else(x,false)
structure Nk(s:aC)(k id:Int):Prop where
 kd:k=117∨k=99∨k=114∨k=100∨k=107∨k=111∨k=97
 c:k=99→0≤id∧id < (s.aF.length:Int)
theorem aLn{s:aC}{st:List jW}(h:Ei s st)(i:Int):Ei s (wT st i).2:=by
 unfold wT;split
 ·exact h
 ·split
  ·rename_i x hx
   split
   ·exact h
   ·refine⟨by simp[h.len],fun y hy=>?_⟩;rcases List.mem_or_eq_of_mem_set hy with hy | rfl
    ·exact h.left y hy
    ·exact h.left x (List.mem_of_getElem? hx)
  ·exact h
theorem aPn{s:aC}{st:List fT}(h:tJ s st)(d:Int)(keep:Bool):tJ s (xM s st d keep).2:=by
 unfold xM;split
 ·exact h
 ·split
  ·rename_i c y hc hy
   split
   ·exact h
   ·split
    ·exact h
    ·split
     ·exact h
     ·refine⟨by simp[h.len],fun z hz=>?_,fun z hz=>?_⟩
      ·rcases List.mem_or_eq_of_mem_set hz with hz | rfl
       ·exact h.left z hz
       ·exact h.left y (List.mem_of_getElem? hy)
      ·rcases List.mem_or_eq_of_mem_set hz with hz | rfl
       ·exact h.phase z hz
       ·exact⟨by show(0:Int)≤99;omega,by show(99:Int) < 256;omega⟩
  ·exact h
theorem aLG{s:aC}{x:aR}(hH:s.dH)(hok:cX s x)(d:Int)(keep:Bool):cX s (Kw s x d keep).1:=by
 have h1:=aC7 hH hok d s.aD.length
 unfold Kw;split
 ·dsimp only;split
  ·exact⟨hok.ck,aPn hok.dm _ _,hok.ln,h1.dv,h1.each,hok.wt⟩
  ·exact h1
 ·split
  ·exact hok
  ·exact hok
theorem aD9{s:aC}{x:aR}(hH:s.dH)(hok:cX s x)(k id:Int):cX s (Jo s x k id).1:=by
 unfold Jo;split
 ·unfold Ol;split
  ·exact⟨hok.ck,aJK hH hok.dm _,hok.ln,hok.dv,hok.each,hok.wt⟩
  ·split
   ·exact aGd hH hok _ _
   ·exact hok
 ·split
  ·exact⟨aCg hH hok.ck _ _,hok.dm,hok.ln,hok.dv,hok.each,hok.wt⟩
  ·split
   ·unfold Of;split
    ·exact⟨hok.ck,hok.dm,aLn hok.ln _,hok.dv,hok.each,hok.wt⟩
    ·exact hok
   ·split
    ·exact aLG hH hok _ _
    ·split
     ·exact⟨aCg hH hok.ck _ _,hok.dm,hok.ln,hok.dv,hok.each,hok.wt⟩
     ·split
      ·exact aQZ hH hok _
      ·exact hok
section
variable(f:Nat)(hL:HL)(s:aC)(z:cI)(x:aR)(w:World)
theorem aHU(hH:s.dH)(aQ:gA hL s)(hok:cX s x)(hk:Nk s z.kind z.id):aEs f hL s z x (Jo s x z.kind z.id):=by
 have mR:=aD9 hH hok z.kind z.id
 rcases hk.kd with h | h | h | h | h | h | h
 ·refine⟨_,by rw[h];rfl,(by kernel_rfl),mR,fun w F hp hF dD=>?_⟩;rw[h];exact aO7 f hL s z x w hH aQ hok z.id F hp hF dD
 ·refine⟨_,by rw[h];rfl,(by kernel_rfl),mR,fun w F hp hF dD=>?_⟩;obtain⟨h0,h1⟩:=hk.c h;obtain⟨c,hc⟩:∃c:Nat,z.id=c:=⟨z.id.toNat,by omega⟩
  rw[h,hc];exact aOB f hL s z x w hH aQ hok c (by omega) F hp hF
 ·refine⟨_,by rw[h];rfl,(by kernel_rfl),mR,fun w F hp hF dD=>?_⟩;rw[h];exact aO6 f hL s z x w hH aQ hok z.id F hp hF
 ·refine⟨_,by rw[h];rfl,(by kernel_rfl),mR,fun w F hp hF dD=>?_⟩
  have:=aGR f hL s z x w hH aQ hok z.id F hp hF dD
  rw[h] at this⊢;exact this
 ·refine⟨_,by rw[h];rfl,(by kernel_rfl),mR,fun w F hp hF dD=>?_⟩
  have:=aGR f hL s z x w hH aQ hok z.id F hp hF dD
  rw[h] at this⊢;exact this
 ·refine⟨_,by rw[h];rfl,(by kernel_rfl),mR,fun w F hp hF dD=>?_⟩;rw[h];exact aOC f hL s z x w hH aQ hok z.id F hp hF
 ·refine⟨_,by rw[h];rfl,(by kernel_rfl),mR,fun w F hp hF dD=>?_⟩;rw[h];exact aOD f hL s z x w hH aQ hok z.id F hp hF
theorem aO2(z0:cI)(hH:s.dH)(aQ:gA hL s)(hok:cX s x)(hz:Ej s z0)(eO:z0.at_ < 0)(kX:nP s x z0=(z,true))(hst:∀a,sH z0=some a→(gI s x z0 a).2.1=0→(gI s x z0 a).1=0→tE (kB z0 a))(a:Nat)(ha:z.at_=(a:Int))(Bm:a < 2)(r:aR×Bool)(hact:aEs f hL s z x r)(Dc:tE (kB z a))(F:Nat→Prop)(hp:(gK f hL s z0 x).sat F w)(hF:∀b,F b→b < w.heap.size)(dD:eS ⟨w,fun b=>b < w.heap.size∧¬F b⟩):
  Cz 36 #[pt f] w (Wr (.tuple #[]) (gK f hL s (Gf s z r) r.1) w F):=by
 obtain⟨fn,cN,hcb,Uz,yW⟩:=hact;refine aBl (vs:=[pt f]) (p:=gK f hL s z0 x) func36 rfl ntmps36 (by simp) hp hF ?_;generalize cO:(⟨w,fun b=>b < w.heap.size∧¬F b⟩:Piece)=R0 at dD⊢;refine aA ?_;refine Ys (f:=89) (fi:=[]) (ca:=[]) rfl ?_;refine aA ?_;refine kd (bJ rfl (Hh 0 rfl fun _=>rfl)) ?_;refine aA ?_;refine bZ (t:=8) rfl (fun _=>?_) (fun h=>absurd eO h);refine aA ?_
 refine bX 0 (gK f hL s z x) (fun w1 F1 t h1 h2 h3=>by
  have:=aGP f hL s z0 x hH aQ hok hz hst w1 F1 h1 h2
  rw[kX] at this
  exact this) ?_
 refine aA ?_;refine iY [1,2,3,4,8,9,10,11] ?_;refine bK 0 ?_ (hQ:=fun _ _ _ h=>lJ rfl h);refine bK 6 ?_ (hQ:=fun _ _ _ h=>lJ rfl h);refine bK 7 ?_ (hQ:=fun _ _ _ h=>lJ rfl h);refine aK 1 ?_ (hQ:=fun _ _ _ h=>lJ rfl h);refine aK 2 ?_ (hQ:=fun _ _ _ h=>lJ rfl h);refine aK 3 ?_ (hQ:=fun _ _ _ h=>lJ rfl h);refine aK 4 ?_ (hQ:=fun _ _ _ h=>lJ rfl h) (cN:=bJ rfl (Hh 0 rfl fun _=>rfl));refine aK 8 ?_ (hQ:=fun _ _ _ h=>lJ rfl h);refine aK 9 ?_ (hQ:=fun _ _ _ h=>lJ rfl h);refine aK 10 ?_ (hQ:=fun _ _ _ h=>lJ rfl h);refine aK 11 ?_ (hQ:=fun _ _ _ h=>lJ rfl h) (cN:=bJ rfl (Hh 0 rfl fun _=>rfl));refine aL 5 ?_;refine aV (fun w1 t=>aHm z.kind w1) ?_;rw[cN];refine bE ?_;refine aL 12 ?_;refine aAl 0 (fi:=[]) (ca:=[]) (gK f hL s z r.1) (fun w1 F1 t h1 h2 h3=>by simpa using yW w1 F1 h1 h2 (eS.le dD (h3 _ (by simp)))) ?_ (hf:=hcb);dsimp only[List.set];refine cH ?_;refine eC ?_;refine aA ?_;obtain⟨x',b⟩:=r;dsimp only at Uz⊢;cases b
 ·refine aA ?_;subst cO;exact Cc (.inr rfl) (by kernel_rfl) Wc rfl fun w1 t=>⟨rfl,t.turns hF (by simp) (i:=0) rfl⟩
 ·refine aA ?_;refine kd (bJ rfl (Hh 0 rfl fun _=>rfl)) ?_;refine aA ?_;refine aY 0 0 ?_;refine iX 0 fun L=>?_;refine aY 0 0 ?_;refine eN rfl rfl ?_ (hs:=eJ.mk 0 rfl cP.h rfl (by simp[jI]));dsimp only[List.set];rw[show(jI hL.h L s z).set (0+16) (iv (-1))=jI hL.h L s {z with at_:= -1} from rfl];refine aJ 0 0 ?_;refine cS 0 (fun L:gB=>iE f hL.h L s {z with at_:= -1}) L ?_;refine aJ 0 0 ?_;refine aA ?_;rw[ha];refine bX 0 (gK f hL s (yO s x' {z with at_:= -1} a 0) x') (fun w1 F1 t h1 h2 h3=>aDc f hL s {z with at_:= -1} x' hH aQ Uz a Bm 0 (fun _=>Dc) w1 F1 h1 h2) ?_;refine aA ?_
  have hend:Gf s z (x',true)=yO s x' {z with at_:= -1} a 0:=by
   unfold Gf;rw[if_pos rfl,ha];rfl
  rw[hend];subst cO;exact Cc (.inr rfl) (by kernel_rfl) Wc rfl fun w1 t=>⟨rfl,t.turns hF (by simp) (i:=0) rfl⟩
def wM(s:aC)(x:aR)(z:cI):cI×aR:=
 let t:=nP s x z
 let z1:=if z.at_ < 0 then t.1 else z
 if z.at_ < 0∧t.2=false then(t.1,x) else(Gf s z1 (Jo s x z1.kind z1.id),(Jo s x z1.kind z1.id).1)
structure aIx(s:aC)(x:aR)(z:cI):Prop where
 hok:cX s x
 fm:Ej s z
 at_:z.at_ < 0∨(∃a:Nat,z.at_=(a:Int)∧a < 2∧Nk s z.kind z.id∧tE (kB z a))
 ask:z.at_ < 0→∀a,sH z=some a→(gI s x z a).2.1=0→(gI s x z a).1=0→tE (kB z a)
 new:z.at_ < 0→∀a,sH z=some a→(gI s x z a).2.1≠0→Nk s (gI s x z a).2.1 (gI s x z a).2.2∧tE (kB z a)
theorem aFK{z:cI}{a:Nat}(h:z.last=0∨z.last=1)(hn:sH z=some a):a < 2:=by
 unfold sH at hn;split at hn
 ·cases hn;omega
 ·split at hn
  ·cases hn;omega
  ·cases hn
theorem aO3(hH:s.dH)(aQ:gA hL s)(h:aIx s x z)(F:Nat→Prop)(hp:(gK f hL s z x).sat F w)(hF:∀b,F b→b < w.heap.size)(dD:eS ⟨w,fun b=>b < w.heap.size∧¬F b⟩):
  Cz 36 #[pt f] w (Wr (.tuple #[]) (gK f hL s (wM s x z).1 (wM s x z).2) w F):=by
 unfold wM;dsimp only
 by_cases eO:z.at_ < 0
 ·cases kX:(nP s x z).2
  ·rw[if_pos ⟨eO,rfl⟩];exact aO5 f hL s z x hH aQ h.hok h.fm (h.ask eO) eO kX w F hp hF
  ·rw[if_neg (by simp),if_pos eO]
   have mE:nP s x z=((nP s x z).1,true):=Prod.ext rfl kX
   have aOa:∃a,sH z=some a∧(gI s x z a).2.1≠0∧(nP s x z).1=(wK s x z a).1:=by
    unfold nP at kX⊢;cases hn:sH z with
    | none=>rw[hn] at kX;cases kX
    | some a=>
     rw[hn] at kX;refine⟨a,rfl,fun h0=>?_,rfl⟩;unfold wK at kX;dsimp only at kX;rw[if_pos h0] at kX;cases kX
   obtain⟨a,hn,hd,he⟩:=aOa
   have ha:=aFK h.fm.la hn
   obtain⟨hk,Dc⟩:=h.new eO a hn hd
   have e:(wK s x z a).1={z with last:=a,x:=lG z.x a (gI s x z a).2.1 (gI s x z a).2.2,y:=lF z.y a (gI s x z a).2.1 (gI s x z a).2.2,at_:=a,kind:=(gI s x z a).2.1,id:=(gI s x z a).2.2}:=by
    unfold wK;dsimp only;rw[if_neg hd]
   rw[e] at he
   have hb:kB (nP s x z).1 a=kB z a:=by rw[he];rfl
   have h1:(nP s x z).1.at_=(a:Int):=by rw[he]
   have h2:(nP s x z).1.kind=(gI s x z a).2.1:=by rw[he]
   have h3:(nP s x z).1.id=(gI s x z a).2.2:=by rw[he]
   exact aO2 f hL s (nP s x z).1 x w z hH aQ h.hok h.fm eO mE (h.ask eO) a h1 ha _ (aHU f hL s (nP s x z).1 x hH aQ h.hok (by rw[h2,h3];exact hk)) (by rw[hb];exact Dc) F hp hF dD
 ·rw[if_neg (fun hh=>eO hh.1),if_neg eO];rcases h.at_ with h1 | ⟨a,ha,Bm,hk,Dc⟩
  ·exact absurd h1 eO
  ·exact aO4 f hL s z x w hH aQ h.hok h.fm a ha Bm _ (aHU f hL s z x hH aQ h.hok hk) Dc F hp hF dD
end
end
section
theorem aKf(A:Option Addr)(n c:Nat)(l:List Int)(st:Int)(w:World)(hs:aI (all w) 1 A n (eA l))(hn:n=l.length)(h2:2≤n)(h1:l[1]? =some st):
  Cz 12 #[.slice A n c] w (Rt (.tuple #[.int .i32 (IntKind.i32.wrap st),iv 0]) w):=by
 subst hn;obtain⟨b,off,rfl,hr⟩:=aI.u32 hs (by omega)
 have k1:=hr 1 st h1
 refine aN func12 ntmps12 ?_;refine aA ?_;refine aG rfl (fun h=>absurd h (by omega)) (fun _=>?_);refine aA ?_;refine kd (dat 1 (off+1)) ?_;refine aA ?_;refine kd (Jh (ds:=.int .u32) (kd:=.i32) (c:=IntKind.i32.wrap st) (by kernel_rfl) (by kernel_rfl) rfl rfl) ?_;refine aA ?_;exact fQ rfl rfl rfl fun w1 t=>⟨rfl,t.below (by simp)⟩
end
section
def aEd(g h f:Nat)(s:aC)(z:bH)(y:cI):HP:=HP.many [jK g h f s z,Ch f h s y]
def wE(p:fD)(k:Int):List Int:=[(gZ p.msg 0 p.pr k).1,p.id,p.v]
def Hw(a:List Int):Prop:=IntKind.i32.wrap (a.getD 1 0)=0∨IntKind.i32.wrap (a.getD 1 0)= -3
instance(a:List Int):Decidable (Hw a):=by unfold Hw;infer_instance
def oY(z:bH)(a:List Int):bH:=if Hw a then {z with sent:=false,steps:=z.steps.tail} else {z with sent:=false}
theorem aEN{z:bH}{a:List Int}(h:Hw a):oY z a={z with sent:=false,steps:=z.steps.tail}:=if_pos h
theorem aJU{z:bH}{a:List Int}(h:¬Hw a):oY z a={z with sent:=false}:=if_neg h
def mU(z:bH)(y:cI)(j:Nat):bH×cI:=
 if z.sent=true then
  match mP y 0 with
  | none=>(z,mA y 0)
  | some a=>(if(oY z a).steps.length=0 then oB (oY z a) j 0 0 else oY z a,mA y 0)
 else
  match z.steps with
  | []=>(z,y)
  | p::_=>if(jZ y 0 (wE p z.many)).1=0 then({z with sent:=true,many:=(z.many+1) % 1024},(jZ y 0 (wE p z.many)).2) else(z,(jZ y 0 (wE p z.many)).2)
theorem aFo{h f:Nat}{L:dJ}{s:aC}{z:bH}{p:fD}{tl:List fD}{A:Option Addr}{c:Nat}(hst:z.steps=p::tl):(lI h f L s z).set 50 (.slice A (z.steps.length - 1) c)=lI h f {L with st:=(A,c)} s {z with steps:=z.steps.tail}:=by
 obtain⟨cn,wn,t0,t1,t2,cM,steps,sent,aU,id,many⟩:=z;dsimp only at hst;subst hst;rfl
theorem aI.aPm{p:Piece}{sz n k:Nat}{A A':Option Addr}{xs:List Value}(h:aI p sz A n xs)(hk:k≤n)(hA:k < n→∀b off,A=some ⟨b,off,none⟩→A'=some ⟨b,off+k*sz,none⟩):aI p sz A' (n - k) (xs.drop (k*sz)):=by
 refine⟨by rw[List.length_drop,h.1,Nat.sub_mul],fun h0=>?_⟩;obtain⟨b,off,Qd,hz,hc⟩:=h.2 (by omega);refine⟨b,off+k*sz,hA (by omega) b off Qd,hz,fun j u hu=>?_⟩;rw[List.getElem?_drop] at hu;rw[Nat.add_assoc];exact hc _ u hu
theorem aIg{N:bY}{w0:World}{e:Env}{R:List Piece}{H:List HP}{K:Act→World→Prop}(i:Nat){b:Nat}{t:TypeId}{cs cs':List Value}(hi:H[i]? =some (HP.aE b t cs))(he:cs=cs')(k:XK N w0 K e R (H.set i (HP.aE b t cs'))):XK N w0 K e R H:=by
 subst he;obtain⟨hlt,hx⟩:=List.getElem?_eq_some_iff.1 hi;rw[←hx,List.set_getElem_self hlt] at k;exact k
def Gi(L:dJ):dJ:={L with st:=(if L.st.2=1 then L.st.1 else L.st.1.map (·.add (1*4)),L.st.2 - 1)}
theorem nL.tail{L:dJ}{p:fD}{l tl:List fD}{q:Piece}(hl:l=p::tl)(h:nL L l q):nL (Gi L) l.tail q:=by
 subst hl;obtain⟨h1,h2⟩:=h;simp only[List.length_cons] at h2;refine⟨h1.aPm (k:=1) (by simp) fun hlt b off hA=>?_,by simp only[List.tail_cons,Gi];omega⟩;simp only[List.length_cons] at hlt;unfold Gi;dsimp only;rw[if_neg (by omega),hA];rfl
section
variable(g h f:Nat)(s:aC)(z:bH)(y:cI)(w:World)(F:Nat→Prop)
theorem aLd(j:Nat)(hh:z.cM=(j:Int))(hj:T3 j)(hne:z.steps≠[])(hmy:0≤z.many∧z.many < 1024)(hpk:∀p∈z.steps,(gZ p.msg 0 p.pr z.many).2=0)(hra:∀a,mP y 0=some a→2≤a.length)(hp:(aEd g h f s z y).sat F w)(hF:∀b,F b→b < w.heap.size):
  Cz 134 #[pt g] w (fun v w'=>v=.returned (.tuple #[])∧∃F',(aEd g h f s (mU z y j).1 (mU z y j).2).sat F' w'∧iC w w' F F'):=by
 obtain⟨p,tl,hst⟩:=List.exists_cons_of_ne_nil hne
 have uD:z.steps.length=tl.length+1:=by rw[hst];rfl
 refine cT func134 ntmps134 hp hF ?_;generalize cO:(⟨w,fun b=>b < w.heap.size∧¬F b⟩:Piece)=R0;refine aY 0 0 ?_;refine iX 0 fun L=>?_;refine aY 0 0 ?_;refine aY 1 5 ?_;refine aY 3 1 ?_;refine aA ?_;cases kY:z.sent
 ·have Vw:mU z y j=if(jZ y 0 (wE p z.many)).1=0 then({z with sent:=true,many:=(z.many+1) % 1024},(jZ y 0 (wE p z.many)).2) else(z,(jZ y 0 (wE p z.many)).2):=by
   unfold mU;rw[if_neg (by rw[kY];simp),hst]
  rw[Vw]
  have aNz:=hpk p (by rw[hst];simp)
  have hfm:z.steps.flatMap fD.cells=p.cells++tl.flatMap fD.cells:=by rw[hst];rfl
  refine aA ?_;refine aDH (A:=L.st.1) (sz:=4) (n:=z.steps.length) (xs:=z.steps.flatMap fD.cells) 1 rfl (fun _ h=>h.1) (by omega) fun b off hA=>?_;refine iY [1,2,3,4,5,7,8,9,12,13] ?_;refine bK 0 ?_;refine aK 1 ?_;refine aK 2 ?_;refine aK 3 ?_;refine aK 4 ?_ (hi:=rfl) (cN:=dat 0 off (hx:=by rw[←hA];rfl) (hj:=rfl));refine aK 5 ?_ (hi:=rfl) (cN:=jT rfl (aO.of (vs:=p.cells) fun i v hv=>Rd.bU 1 rfl (fun _ h=>h.1) hA (by omega) (by rw[hfm,List.getElem?_append_left (List.getElem?_eq_some_iff.1 hv).1];exact hv)));refine bK 6 ?_;refine aK 7 ?_;refine aK 8 ?_;refine aK 9 ?_;refine aL 10 ?_;refine kA [] (aBy (wE p z.many)) (fun w1 t=>aJx p.pr p.msg p.id p.v z.many w1 aNz) ?_;rintro _ w1 q1 ⟨Am,cm,rfl,yV⟩ hf _ _
  have yV:=yV.le hf
  clear hf;refine bE ?_;refine aL 11 ?_;refine bF ?_;refine bE ?_;refine aK 12 ?_;refine aK 13 ?_;refine aL 14 ?_;refine bF ?_;refine bE ?_;refine aL 15 ?_;refine bF ?_;refine bE ?_;refine eC ?_;refine aA ?_;refine bX 0 (Ch f h s (jZ y 0 (wE p z.many)).2) (fun w1 F1 t h1 h2 h3=>aGQ f h s y 0 Am _ cm (wE p z.many) w1 F1 h1 h2 (yV.le (h3 _ (by simp))) rfl (by simp[wE])) ?_;refine aA ?_;refine aG rfl (fun h0=>?_) (fun h0=>?_)
  ·rw[if_pos h0];refine aA ?_;refine eN rfl rfl ?_ (hs:=eJ.mk 2 rfl cP.h rfl (of_decide_eq_true rfl));dsimp only[List.set];rw[show(lI h f L s z).set (0+51) (.bool true)=lI h f L s {z with sent:=true} from rfl];refine aA ?_;refine kd (Mn (i:=z.many) (j:=1) (c:=z.many+1) rfl rfl (iU (by omega))) ?_;refine kd (aHp (i:=z.many+1) (j:=1024) (c:=(z.many+1) % 1024) rfl rfl (by decide) (rem_in (by omega))) ?_;refine aA ?_;refine eN rfl rfl ?_ (hs:=eJ.mk 2 rfl cP.h rfl (of_decide_eq_true rfl));dsimp only[List.set];rw[show(lI h f L s {z with sent:=true}).set (0+54) (iv ((z.many+1) % 1024))=lI h f L s {z with sent:=true,many:=(z.many+1) % 1024} from rfl];refine aA ?_;refine aJ 3 1 ?_;refine aJ 1 5 ?_;refine aJ 0 0 ?_;refine cS 0 (fun L:dJ=>fZ g h f L s {z with sent:=true,many:=(z.many+1) % 1024}) L ?_;refine aJ 0 0 ?_;subst cO;exact fB 0 hF
  ·rw[if_neg h0];refine aA ?_;refine aJ 3 1 ?_;refine aJ 1 5 ?_;refine aJ 0 0 ?_;refine cS 0 (fun L:dJ=>fZ g h f L s z) L ?_;refine aJ 0 0 ?_;subst cO;exact fB 0 hF
 ·cases hr:mP y 0 with
  | none =>
   have Vw:mU z y j=(z,mA y 0):=by
    unfold mU;rw[if_pos kY,hr]
   rw[Vw];refine aA ?_
   refine wA (α:=AC) 0 (f:=39) (fi:=[]) (ca:=[]) (fun c=>Oh none c) (fun c=>Fa f h s (mA y 0) [] c) (fun _=>True) (by kernel_rfl) rfl rfl rfl (by decide) (fun w1 F1 t h1 h2 h3=>by
    have:=aDd f h s y 0 w1 F1 h1 h2
    rw[hr] at this
    exact this) ?_
   rintro⟨Ar,cr⟩ _;dsimp only[List.set,Oh];refine aY 0 0 ?_;refine aT [0,2,3,4,5] rfl (by decide) (fun _ h=>h) ?_;refine aA ?_;refine aJ 3 1 ?_;refine aJ 1 5 ?_;refine aJ 0 0 ?_;refine cS 0 (fun L:dJ=>fZ g h f L s z) L ?_;refine aJ 0 0 ?_;subst cO;exact fB 0 hF
  | some a =>
   have Vw:mU z y j=(if(oY z a).steps.length=0 then oB (oY z a) j 0 0 else oY z a,mA y 0):=by
    unfold mU;rw[if_pos kY,hr]
   rw[Vw]
   have Bm:=hra a hr
   have ha1:a[1]? =some (a.getD 1 0):=by rw[List.getD_eq_getElem?_getD,List.getElem?_eq_getElem (by omega)];rfl
   refine aA ?_
   refine wA (α:=AC) 0 (f:=39) (fi:=[]) (ca:=[]) (fun c=>Oh (some a) c) (fun c=>Fa f h s (mA y 0) a c) (fun _=>True) (by kernel_rfl) rfl rfl rfl (by decide) (fun w1 F1 t h1 h2 h3=>by
    have:=aDd f h s y 0 w1 F1 h1 h2
    rw[hr] at this
    exact this) ?_
   rintro⟨Ar,cr⟩ _;dsimp only[List.set,Oh];refine aY 0 0 ?_;refine aY 1 1 ?_;refine aT [1,3,4,5,6,0] rfl (by decide) (fun _ h=>h) ?_;refine aA ?_;refine eN rfl rfl ?_ (hs:=eJ.mk 2 rfl cP.h rfl (of_decide_eq_true rfl));dsimp only[List.set];refine aA ?_;refine aV (fun w1 t=>aKf Ar _ cr a _ w1 (t.bU 5 rfl) rfl Bm ha1) ?_;generalize tX:IntKind.i32.wrap (a.getD 1 0)=sv;rw[show(lI h f L s z).set (0+51) (.bool false)=lI h f L s {z with sent:=false} from rfl];refine aA ?_;refine bZ (t:=73) rfl (fun h0=>?_) (fun h0=>?_)
   ·rw[aEN (show Hw a from .inl (tX.trans h0))];refine aA ?_;refine kd (aHn (n:=z.steps.length) (l:=1) rfl rfl (by omega)) ?_;refine aA ?_;refine eN rfl rfl ?_ (hs:=eJ.mk 2 rfl cP.h rfl (of_decide_eq_true rfl));dsimp only[List.set];refine aIg 2 rfl (aFo (z:={z with sent:=false}) hst) ?_;dsimp only[List.set];refine pK (q:=HP.bU (nL (Gi L) z.steps.tail) (nL.le (L:=Gi L) (l:=z.steps.tail))) 1 rfl (fun F w hs=>nL.tail hst hs) ?_;dsimp only[List.set];refine aA ?_;refine aJ 3 1 ?_;refine aJ 1 5 ?_;refine aJ 0 0 ?_;refine uM 0 (f:=fun L:dJ=>fZ g h f L s {z with sent:=false,steps:=z.steps.tail}) (Gi L) rfl ?_;dsimp only[List.set];refine aA ?_;refine aG rfl (fun hn=>?_) (fun hn=>?_)
    ·rw[if_pos (Int.ofNat.inj hn)];refine aA ?_;refine kd (iM rfl) ?_;refine aA ?_;refine bX 0 (jK g h f s (oB {z with sent:=false,steps:=z.steps.tail} j 0 0)) (fun w1 F1 t h1 h2 h3=>Kt g h f s {z with sent:=false,steps:=z.steps.tail} w1 F1 j hh hj 0 0 h1 h2) ?_;refine aJ 0 0 ?_;subst cO;exact fB 0 hF
    ·rw[if_neg (fun h=>hn (congrArg Int.ofNat h))];refine aA ?_;refine aJ 0 0 ?_;subst cO;exact fB 0 hF
   ·refine aA ?_;refine aG rfl (fun h3=>?_) (fun h3=>?_)
    ·rw[aEN (show Hw a from .inr (tX.trans h3))];refine aA ?_;refine kd (aHn (n:=z.steps.length) (l:=1) rfl rfl (by omega)) ?_;refine aA ?_;refine eN rfl rfl ?_ (hs:=eJ.mk 2 rfl cP.h rfl (of_decide_eq_true rfl));dsimp only[List.set];refine aIg 2 rfl (aFo (z:={z with sent:=false}) hst) ?_;dsimp only[List.set];refine pK (q:=HP.bU (nL (Gi L) z.steps.tail) (nL.le (L:=Gi L) (l:=z.steps.tail))) 1 rfl (fun F w hs=>nL.tail hst hs) ?_;dsimp only[List.set];refine aA ?_;refine aJ 3 1 ?_;refine aJ 1 5 ?_;refine aJ 0 0 ?_;refine uM 0 (f:=fun L:dJ=>fZ g h f L s {z with sent:=false,steps:=z.steps.tail}) (Gi L) rfl ?_;dsimp only[List.set];refine aA ?_;refine aG rfl (fun hn=>?_) (fun hn=>?_)
     ·rw[if_pos (Int.ofNat.inj hn)];refine aA ?_;refine kd (iM rfl) ?_;refine aA ?_;refine bX 0 (jK g h f s (oB {z with sent:=false,steps:=z.steps.tail} j 0 0)) (fun w1 F1 t h1 h2 h3=>Kt g h f s {z with sent:=false,steps:=z.steps.tail} w1 F1 j hh hj 0 0 h1 h2) ?_;refine aJ 0 0 ?_;subst cO;exact fB 0 hF
     ·rw[if_neg (fun h=>hn (congrArg Int.ofNat h))];refine aA ?_;refine aJ 0 0 ?_;subst cO;exact fB 0 hF
    ·rw[aJU (show ¬Hw a from fun h=>h.elim (fun h=>h0 (tX▸h)) (fun h=>h3 (tX▸h)))];refine aA ?_;refine aJ 3 1 ?_;refine aJ 1 5 ?_;refine aJ 0 0 ?_;refine cS 0 (fun L:dJ=>fZ g h f L s {z with sent:=false}) L ?_;refine aA ?_;refine aG rfl (fun hn=>?_) (fun hn=>?_)
     ·rw[if_pos (Int.ofNat.inj hn)];refine aA ?_;refine kd (iM rfl) ?_;refine aA ?_;refine bX 0 (jK g h f s (oB {z with sent:=false} j 0 0)) (fun w1 F1 t h1 h2 h3=>Kt g h f s {z with sent:=false} w1 F1 j hh hj 0 0 h1 h2) ?_;refine aJ 0 0 ?_;subst cO;exact fB 0 hF
     ·rw[if_neg (fun h=>hn (congrArg Int.ofNat h))];refine aA ?_;refine aJ 0 0 ?_;subst cO;exact fB 0 hF
end
end
section
theorem Oe(w:World):CallsD Tryz.prog 132 #[] .returning w fun e u' w'=>e=.returned (.tuple #[])∧u'=.returning∧w'=w:=by
 refine callsD_of_wpS func132 rfl fun c₀ cs hu=>?_;apply wpS_region;simp[wpOpsS,go_sem,recoverD,hu,ntmps132,Exit.thenS];cases c₀;simp_all [bodyPostS,results,Tryz.results132]
def aBs(g f:Nat)(hL:HL)(s:aC)(z:bH)(y:cI)(x:aR):HP:=HP.many [jK g hL.h f s z,Ch f hL.h s y,dL hL s x]
structure aI3(s:aC)(z:bH)(y:cI):Prop where
 ok:Sb s z
 call:∀j,T3 j→(z.tk j).st=1→vE (z.tk j).kind
 work:∀j:Nat,T3 j→(z.tk j).st=2→z.cM=(j:Int)∧(z.aU=false→z.steps≠[])
 many:0≤z.many∧z.many < 1024
 pack:∀p∈z.steps,(gZ p.msg 0 p.pr z.many).2=0
 ans:∀a,mP y 0=some a→2≤a.length
def tO(s:aC)(z:bH)(y:cI)(x:aR)(t:Int):bH×cI×aR:=
 if bT 3 t=false then(z,y,x)
 else if(z.tk t.toNat).st=1 then(if z.cM < 0 then((lR s x z t.toNat).1,y,(lR s x z t.toNat).2) else(z,y,x))
 else if(z.tk t.toNat).st=2 then(if z.aU=false then((mU z y t.toNat).1,(mU z y t.toNat).2,x) else(z,y,x))
 else(z,y,x)
theorem aKQ(g f:Nat)(hL:HL)(s:aC)(z:bH)(y:cI)(x:aR)(w:World)(F:Nat→Prop)(t:Int)(hm:s.made)(aQ:gA hL s)(hx:z.cM < 0→HwP s x)(hz:aI3 s z y)(hp:(aBs g f hL s z y x).sat F w)(hF:∀b,F b→b < w.heap.size)(dD:eS ⟨w,fun b=>b < w.heap.size∧¬F b⟩):
  Cz 87 #[pt g,iv t] w (fun v w'=>v=.returned (.tuple #[])∧∃F',(aBs g f hL s (tO s z y x t).1 (tO s z y x t).2.1 (tO s z y x t).2.2).sat F' w'∧iC w w' F F'):=by
 unfold tO;refine aBl (vs:=[pt g,iv t]) (p:=aBs g f hL s z y x) func87 rfl ntmps87 (by simp) hp hF ?_;generalize cO:(⟨w,fun b=>b < w.heap.size∧¬F b⟩:Piece)=R0 at dD⊢;refine aA ?_;refine Ys (f:=132) (fi:=[]) (ca:=[]) rfl ?_;refine aA ?_;refine aV (fun w1 _=>aBQ t w1) ?_;cases hin:bT 3 t
 ·refine aA ?_;subst cO;exact Cc (.inl rfl) (by kernel_rfl) Oe rfl fun w1 t=>⟨rfl,t.turns hF (by simp) (i:=0) rfl⟩
 ·obtain⟨j,rfl,hj⟩:=yR hin
  have hj2:j≤2:=by rcases hj with rfl | rfl | rfl<;>decide
  rw[if_neg (by simp),Int.toNat_natCast];refine aY 0 0 ?_;refine iX 0 fun L=>?_;refine aA ?_;refine kd (fM j (10+13*j) (ho:=by omega)) ?_;refine aA ?_;refine kd (bJ rfl (pP 0 rfl (Ey (k:=0) hj rfl))) ?_;refine aA ?_;refine aG rfl (fun h1=>?_) (fun h1=>?_)
  ·rw[if_pos h1];refine aA ?_;refine kd (bJ rfl (pP 0 rfl rfl)) ?_;refine aA ?_;refine cS 0 (fun L:dJ=>fZ g hL.h f L s z) L ?_;refine aJ 0 0 ?_;refine aG rfl (fun h2=>?_) (fun h2=>?_)
   ·rw[if_pos h2];refine aY 0 0 ?_;refine aY 1 2 ?_;refine aT [1,0,2] rfl (by decide) (fun _ h=>h) ?_;refine mV ?_;refine aA ?_;refine bX 0 (Ju g f hL s (lR s x z j).1 (lR s x z j).2) (fun w1 F1 t h1a h2a h3=>aLb g f hL s z x w1 F1 j hm aQ (hx h2) hz.ok hj (hz.call j hj h1) h1a h2a (eS.le dD (h3 _ (by simp)))) ?_;refine aY 0 0 ?_;refine aY 1 1 ?_;refine aJ 2 2 ?_;refine aJ 1 0 ?_;refine aA ?_;subst cO;exact Cc (.inr rfl) (by kernel_rfl) Oe rfl fun w1 t=>⟨rfl,t.turns hF (by simp) (i:=1) rfl⟩
   ·rw[if_neg h2];refine aA ?_;subst cO;exact Cc (.inr rfl) (by kernel_rfl) Oe rfl fun w1 t=>⟨rfl,t.turns hF (by simp) (i:=0) rfl⟩
  ·rw[if_neg h1];refine aA ?_;refine aG rfl (fun h2=>?_) (fun h2=>?_)
   ·rw[if_pos h2];obtain⟨hh,hne⟩:=hz.work j hj h2;refine aA ?_;refine kd (bJ rfl (pP 0 rfl rfl)) ?_;cases lO:z.aU
    ·refine aA ?_;refine cS 0 (fun L:dJ=>fZ g hL.h f L s z) L ?_;refine aJ 0 0 ?_;refine aY 0 0 ?_;refine aY 1 1 ?_;refine aT [1,0,2] rfl (by decide) (fun _ h=>h) ?_;refine mV ?_;refine aA ?_;refine bX 0 (aEd g hL.h f s (mU z y j).1 (mU z y j).2) (fun w1 F1 t h1a h2a h3=>aLd g hL.h f s z y w1 F1 j hh hj (hne lO) hz.many hz.pack hz.ans h1a h2a) ?_;refine aY 0 0 ?_;refine aY 1 1 ?_;refine aJ 2 1 ?_;refine aJ 1 0 ?_;refine aA ?_;subst cO;exact Cc (.inr rfl) (by kernel_rfl) Oe rfl fun w1 t=>⟨rfl,t.turns hF (by simp) (i:=1) rfl⟩
    ·refine aA ?_;refine cS 0 (fun L:dJ=>fZ g hL.h f L s z) L ?_;refine aJ 0 0 ?_;subst cO;exact Cc (.inr rfl) (by kernel_rfl) Oe rfl fun w1 t=>⟨rfl,t.turns hF (by simp) (i:=0) rfl⟩
   ·rw[if_neg h2];refine aA ?_;refine cS 0 (fun L:dJ=>fZ g hL.h f L s z) L ?_;refine aJ 0 0 ?_;subst cO;exact Cc (.inr rfl) (by kernel_rfl) Oe rfl fun w1 t=>⟨rfl,t.turns hF (by simp) (i:=0) rfl⟩
end
section
def sX(z:bH)(a:fO):bH:=if z.aU=false then z else if a.id≠z.id then z else if a.dead=true then oB z z.cM.toNat 6 0 else oB z z.cM.toNat 0 a.val
def nU(z:bH)(l:List fO):bH:=l.foldl sX z
def Nf(z:bH):Prop:=z.aU=true→∃j:Nat,z.cM=(j:Int)∧T3 j
theorem aRi{z:bH}{a:fO}(h:Nf z):Nf (sX z a):=by
 unfold sX;split
 ·exact h
 split
 ·exact h
 split
 ·intro h1;cases h1
 ·intro h1;cases h1
theorem aRr{l:List fO}:∀{z:bH},Nf z→Nf (nU z l):=by
 induction l with
 | nil=>exact fun h=>h
 | cons a l ih=>exact fun h=>ih (aRi h)
theorem aRq{z:bH}{l:List fO}{i:Nat}{a:fO}(h:l[i]? =some a):nU z (l.take (i+1))=sX (nU z (l.take i)) a:=by
 obtain⟨hi,rfl⟩:=List.getElem?_eq_some_iff.1 h;unfold nU;rw[List.take_succ_eq_append_getElem hi,List.foldl_append];rfl
theorem aHL{l:List fO}{i k:Nat}{a:fO}{v:Value}(h:l[i]? =some a)(hv:a.cells[k]? =some v):(l.flatMap fO.cells)[i*4+k]? =some v:=by
 induction l generalizing i with
 | nil=>simp at h
 | cons x l ih =>
  cases i with
  | zero=>
   simp at h;subst h;rw[Nat.zero_mul,Nat.zero_add,List.flatMap_cons,List.getElem?_append_left (List.getElem?_eq_some_iff.1 hv).1];exact hv
  | succ i=>
   rw[List.getElem?_cons_succ] at h;rw[List.flatMap_cons,show(i+1)*4+k=x.cells.length+(i*4+k) by simp[fO.cells];omega,List.getElem?_append_right (by omega),Nat.add_sub_cancel_left];exact ih h
theorem aLc(g h f:Nat)(s:aC)(z:bH)(w:World)(F:Nat→Prop)(A:Option Addr)(c:Nat)(l:List fO)(hl:l.length≤1000)(aNx:Nf z)(hp:(jK g h f s z).sat F w)(hF:∀b,F b→b < w.heap.size)(hs:aI ⟨w,fun b=>b < w.heap.size∧¬F b⟩ 4 A l.length (l.flatMap fO.cells)):
  Cz 95 #[pt g,.slice A l.length c] w (fun v w'=>v=.returned (.tuple #[])∧∃F',(jK g h f s (nU z l)).sat F' w'∧iC w w' F F'):=by
 refine cT func95 ntmps95 hp hF ?_;generalize cO:(⟨w,fun b=>b < w.heap.size∧¬F b⟩:Piece)=R0 at hs⊢;refine aA ?_;refine bM [(8,iv 0),(7,iv l.length),(6,.slice A l.length c),(0,pt g),(1,.slice A l.length c)] ?_;refine eU (fun m e R H=>∃i:Nat,i≤l.length∧m=l.length - i∧e=[(8,iv i),(7,iv l.length),(6,.slice A l.length c),(0,pt g),(1,.slice A l.length c)]∧R=[R0]∧H=[jK g h f s (nU z (l.take i))]) l.length ⟨0,by omega,rfl,rfl,rfl,rfl⟩ fun m e R H hI=>?_;obtain⟨i,hi,rfl,rfl,rfl,rfl⟩:=hI;refine aA ?_;refine aG rfl (fun hlt=>?_) (fun hge=>?_)
 ·have hlt:i < l.length:=by omega
  obtain⟨a,ha⟩:=get_some hlt;obtain⟨b,off,rfl,eX,hc⟩:=hs.2 (by omega)
  have dB:=aRq (z:=z) ha
  have aGs:Nf (nU z (l.take i)):=aRr aNx
  generalize nU z (l.take i)=zi at dB aGs⊢;obtain⟨Gt,Rj,Ec,By⟩:=a;refine aA ?_;refine kd (dat i (off+i*4)) ?_;refine kd (jT rfl (aO.of (vs:=[iv Gt,iv Rj,.bool Ec,.int .u32 By]) fun k v hv=>Rd.ro (p:=R0) (by simp) eX (by rw[Nat.add_assoc];exact hc _ _ (aHL ha hv)))) ?_;refine cE fun g1=>?_;refine aA ?_;refine iX 1 fun L=>?_;refine lH ?_;refine jE ?_;refine vQ (bJ rfl (pP 1 rfl rfl)) ?_;cases lO:zi.aU
  ·have hst:sX zi ⟨Gt,Rj,Ec,By⟩=zi:=if_pos lO
   refine iW ?_;refine cS 1 (fun L:dJ=>fZ g h f L s zi) L ?_;refine aA ?_;refine aT [1] rfl (by decide) (fun _ h=>h) ?_;refine bM [(8,iv (i+1:Nat)),(7,iv l.length),(6,.slice (some ⟨b,off,none⟩) l.length c),(0,pt g),(1,.slice (some ⟨b,off,none⟩) l.length c)] ?_;exact gQ (l.length - (i+1)) (by omega) ⟨i+1,by omega,rfl,rfl,rfl,by rw[dB,hst];rfl⟩
  ·obtain⟨j,hj,hj3⟩:=aGs lO
   have Dq:0≤zi.cM:=by omega
   have Lj:sX zi ⟨Gt,Rj,Ec,By⟩=if Gt≠zi.id then zi else if Ec=true then oB zi zi.cM.toNat 6 0 else oB zi zi.cM.toNat 0 By:=if_neg (by rw[lO];simp)
   refine jE ?_;refine vQ (bJ rfl (pP 1 rfl rfl)) ?_;refine iW ?_;refine cS 1 (fun L:dJ=>fZ g h f L s zi) L ?_;refine aA ?_;refine aG rfl (fun hne=>?_) (fun hne=>?_)
   ·rw[if_pos hne] at Lj;refine aA ?_;refine aT [1] rfl (by decide) (fun _ h=>h) ?_;refine bM [(8,iv (i+1:Nat)),(7,iv l.length),(6,.slice (some ⟨b,off,none⟩) l.length c),(0,pt g),(1,.slice (some ⟨b,off,none⟩) l.length c)] ?_;exact gQ (l.length - (i+1)) (by omega) ⟨i+1,by omega,rfl,rfl,rfl,by rw[dB,Lj];rfl⟩
   ·rw[if_neg hne] at Lj;refine aA ?_;cases Ec
    ·refine aB ?_;refine bX 1 (jK g h f s (oB zi zi.cM.toNat 0 By)) (fun w1 F1 t h1 h2 h3=>Kt g h f s zi w1 F1 zi.cM.toNat (by omega) (by rw[hj,Int.toNat_natCast];exact hj3) 0 By h1 h2) ?_;refine aA ?_;refine aT [1] rfl (by decide) (fun _ h=>h) ?_;refine bM [(8,iv (i+1:Nat)),(7,iv l.length),(6,.slice (some ⟨b,off,none⟩) l.length c),(0,pt g),(1,.slice (some ⟨b,off,none⟩) l.length c)] ?_;exact gQ (l.length - (i+1)) (by omega) ⟨i+1,by omega,rfl,rfl,rfl,by rw[dB,Lj];rfl⟩
    ·refine aB ?_;refine bX 1 (jK g h f s (oB zi zi.cM.toNat 6 0)) (fun w1 F1 t h1 h2 h3=>Kt g h f s zi w1 F1 zi.cM.toNat (by omega) (by rw[hj,Int.toNat_natCast];exact hj3) 6 0 h1 h2) ?_;refine aA ?_;refine aT [1] rfl (by decide) (fun _ h=>h) ?_;refine bM [(8,iv (i+1:Nat)),(7,iv l.length),(6,.slice (some ⟨b,off,none⟩) l.length c),(0,pt g),(1,.slice (some ⟨b,off,none⟩) l.length c)] ?_;exact gQ (l.length - (i+1)) (by omega) ⟨i+1,by omega,rfl,rfl,rfl,by rw[dB,Lj];rfl⟩
 obtain rfl:i=l.length:=by omega
 rw[List.take_length];refine aA ?_;subst cO;exact fB 0 hF
end
section
section
variable(s:aC)(A1 A2 A3 A4:Option Addr)(n1 k1 n2 k2 n3 k3 n4 k4:Nat)(w:World)
def aIU(s:aC)(v:Value)(hs:List HP)(_:Piece):Prop:=∃gc gm A k,v=.tuple #[pt gc,iv 0]∧hs=[Kb gc gm A k (dK s) ⟨[],false⟩]
theorem aQe(hm:s.made)(hW:iD w s A1 n1 A2 n2 A3 n3 A4 n4):
  Cz 107 #[.agg #[.slice A1 n1 k1,.slice A2 n2 k2,.slice A3 n3 k3,.slice A4 n4 k4]] w (fun y w'=>(∃v hs q,y=.returned v∧q.w=w'∧aIU s v hs q∧gJ w hs q)∧Below w.heap.size w w'):=by
 obtain rfl:=hW.qZ;obtain rfl:=hW.qY;obtain rfl:=hW.tV;obtain rfl:=hW.sJ;refine aN func107 ntmps107 ?_;refine aA ?_;refine bN fun g1=>?_;refine aA ?_;refine aV (fun w1 t=>Rb s A1 A2 A3 A4 _ k1 _ k2 _ k3 _ k4 w1 (hW.le (t.started (by simp))) (aAi hm)) ?_;refine aA ?_;refine kA [] (Hj (dK s)) (fun w1 t=>aFM s A1 A2 A3 A4 _ k1 _ k2 _ k3 _ k4 w1 (hW.le (t.started (by simp)))) ?_;rintro _ w1 q1 ⟨Ag,cg,rfl,pW⟩ hf _ hfr
 have pW:=pW.le hf
 refine Jp (Φ:=Cf Ag (dK s)) (hm:=Cf.le) (hfr (by simp)) (by simp[all]) pW ?_;refine Yo (by decide) fun gm=>?_;refine kd (iM rfl) ?_;refine bN fun g2=>?_;refine aA ?_;refine aT [0,1,2] rfl (by decide) (R':=[all w]) (by simp) ?_;refine mV ?_;refine mV ?_;refine dG [] [] [0] (by simp) rfl (by decide) (by decide) fun q _ _ hfr=>?_;exact fQ rfl rfl rfl fun w1 t=>⟨⟨_,_,⟨w1,q.Z⟩,rfl,rfl,⟨g2,gm,Ag,cg,rfl,rfl⟩,t.newR (by simp) (by simp) (hfr (by simp) (by simp))⟩,t.below (by simp)⟩
def Tn(s:aC):bH:={rp0 s with wn:=gM s []}
def aI1(h f:Nat)(s:aC)(v:Value)(hs:List HP)(_:Piece):Prop:=∃g,v=.tuple #[pt g,iv 0]∧hs=[jK g h f s (Tn s)]
theorem aKO(h f:Nat)(hm:s.made)(hW:iD w s A1 n1 A2 n2 A3 n3 A4 n4):
  Cz 50 #[pt h,pt f,.agg #[.slice A1 n1 k1,.slice A2 n2 k2,.slice A3 n3 k3,.slice A4 n4 k4]] w (fun y w'=>(∃v hs q,y=.returned v∧q.w=w'∧aI1 h f s v hs q∧gJ w hs q)∧Below w.heap.size w w'):=by
 obtain rfl:=hW.qZ;obtain rfl:=hW.qY;obtain rfl:=hW.tV;obtain rfl:=hW.sJ;refine aN func50 ntmps50 ?_;refine aA ?_;refine bN fun g1=>?_;refine aA ?_;refine eW (aIU s) (fun w1 t=>aQe s A1 A2 A3 A4 _ k1 _ k2 _ k3 _ k4 w1 hm (hW.le (t.started (by simp)))) ?_;rintro _ _ q0 ⟨gc,gm,Ag,cg,rfl,rfl⟩ _;dsimp only[List.cons_append,List.nil_append];refine aT [0,1] rfl (by decide) (R':=[all w]) (by simp) ?_;refine aA ?_
 refine kA [] (fun v w w'=>aBx s v w w') (fun w1 t=>aDu s A1 A2 A3 A4 _ k1 _ k2 _ k3 _ k4 w1 (hW.le (t.started (by simp))) (fun d hd=>by
  obtain⟨j,hj⟩:=List.getElem?_of_mem hd
  have:=(hm.aD j d hj).2.2.2.2.2.2.2.2.1
  omega)) ?_
 rintro _ w1 q1 ⟨cs,rfl,hcs⟩ Fu _ sP
 have sP:=sP (by simp)
 obtain⟨B1,m1,j1,B2,m2,j2,B3,m3,j3,B4,m4,j4,rfl,hsp⟩:=uP.P hcs
 have hsp:=hsp.le Fu
 obtain⟨rfl,rfl,rfl,rfl⟩:=hsp.len;refine Jp (Φ:=lU ⟨(B1,j1),(B2,j2),(B3,j3),(B4,j4),gc,gm,(Ag,cg),(none,0),(none,0),(none,0),(none,0)⟩ s) (hm:=lU.le) sP (by simp[all]) hsp ?_;refine aA ?_;refine kd (iM rfl) ?_;refine bN fun g=>?_;refine aA ?_;refine kd (jT rfl (xZ (vs:=[_,_,_,_]) 0 rfl rfl)) ?_;refine eW (Xx (gM s [])) (fun w1 t=>Yv (all w1) s B1 B2 B3 B4 _ j1 _ j2 _ j3 _ j4 none 0 [] w1 (t.bU 1 rfl) hm (Piece.Le.refl _) (aI.nil _ _)) ?_;rintro _ _ q2 ⟨ga,gb,gd,px,rfl,rfl⟩ _;dsimp only[List.cons_append,List.nil_append];refine aA ?_;refine Db 2 rfl ?_;dsimp only[List.set];refine aA ?_;obtain⟨L',hL'⟩:∃L':dJ,L'=⟨(B1,j1),(B2,j2),(B3,j3),(B4,j4),gc,gm,(Ag,cg),(some ⟨ga,0,none⟩,(gM s []).d.length),(some ⟨gb,0,none⟩,(gM s []).c.length),(some ⟨gd,0,none⟩,(gM s []).l.length),(none,0)⟩:=⟨_,rfl⟩
 refine pK (q:=HP.bU (tA L' (gM s [])) (tA.le (L:=L') (x:=gM s []))) 0 rfl (fun F w hs=>?_) ?_
 ·obtain⟨G,k1,k2,_⟩:=hs;subst hL';exact⟨qS (c:=0) (k1 0 _ rfl) (fun b hb=>k2 0 b hb) (by simp[bG]),qS (c:=0) (k1 1 _ rfl) (fun b hb=>k2 1 b hb) (by simp[bG]),qS (c:=0) (k1 2 _ rfl) (fun b hb=>k2 2 b hb) (by simp[bG])⟩
 dsimp only[List.set];refine oJ (p:=HP.bU (nL L' []) (nL.le (L:=L') (l:=[]))) (fun w=>by subst hL';exact⟨aI.nil _ _,Nat.le_refl _⟩) ?_;refine aY 5 0 ?_;refine aY 6 1 ?_;refine aT [5,6,3,1,0,2] rfl (by decide) (R':=[all w]) (by simp) ?_;refine mV ?_;refine qN ?_;refine qN ?_;refine qN ?_;refine qN ?_;refine uM 0 (f:=fun L:dJ=>fZ g h f L s (Tn s)) L' (by subst hL';rfl) ?_;dsimp only[List.set];refine dG [] [] [0] (by simp) rfl (by decide) (by decide) fun q _ _ hfr=>?_;exact fQ rfl rfl rfl fun w1 t=>⟨⟨_,_,⟨w1,q.Z⟩,rfl,rfl,⟨g,rfl,rfl⟩,t.newR (by simp) (by simp) (hfr (by simp) (by simp))⟩,t.below (by simp)⟩
end
end
section
theorem aLg(w0:Int)(A:Option Addr)(n c:Nat)(zs:List Int)(w:World)(hs:aI (all w) 1 A n (eA zs))(hn:n=zs.length)(hn2:n≤1000000):Cz 52 #[.int .u32 w0,.slice A n c] w (fun y w'=>(∃v hs q,y=.returned v∧q.w=w'∧aI4 (w0::zs) v hs q∧gJ w hs q)∧Below w.heap.size w w'):=by
 refine aN func52 ntmps52 ?_;refine aB ?_;refine aB0 1 4 (el:=37) (c:=n+1) (k0:=1) (pG:=.i64) (by kernel_rfl) (by kernel_rfl) rfl (by rw[Int.natCast_add];rfl) (by omega) (by omega) (by decide) fun g1=>?_;refine aB ?_;refine eK fun g2=>?_;refine iF 1 1 4 1 (n':=1) (el:=37) (by kernel_rfl) (by kernel_rfl) (by decide) rfl rfl rfl (mO 0 rfl rfl) (by simp[Value.oneCell']) rfl (by omega) (by omega) (by decide) fun A1 c1=>?_;dsimp only[List.set];refine aB ?_;refine iF 1 1 4 n (n':=n+1) (el:=37) (by kernel_rfl) (by kernel_rfl) (by decide) rfl rfl rfl (rZ (by simp) hs) (Hr _) (by omega) (by omega) (by omega) (by decide) fun A2 c2=>?_;dsimp only[List.set];refine aB ?_;subst hn;refine dG [] [] [1] (by simp) rfl (by decide) (by decide) fun q _ _ hfr=>?_;exact aP (h:=fun w1 st=>⟨_,_,⟨w1,q.Z⟩,rfl,rfl,⟨_,_,rfl,rfl⟩,st.newR (by simp) (by simp) (hfr (by simp) (by simp))⟩)
theorem aH1(m t p k:Int)(A:Option Addr)(n c:Nat)(zs:List Int)(w:World)(hs:aI (all w) 1 A n (eA zs))(hn:n=zs.length)(hn2:n≤1000000)(hok:(gZ m t p k).2=0):Cz 24 #[.agg #[iv m,iv t,iv p,iv k],.slice A n c] w (fun y w'=>(∃v hs q,y=.returned v∧q.w=w'∧aEo ((gZ m t p k).1::zs) v hs q∧gJ w hs q)∧Below w.heap.size w w'):=by
 refine aN func24 ntmps24 ?_;refine aB ?_;refine bN fun g1=>?_;refine aB ?_;refine dF (fun w1 st=>aF8 m t p k w1) ?_;refine aB ?_;refine aG rfl (fun h=>?_) (fun h=>?_)
 ·
  refine aB ?_;exact absurd hok h
 ·
  refine aB ?_;refine eW (aI4 ((gZ m t p k).1::zs)) (fun w1 st=>aLg (gZ m t p k).1 A n c zs w1 (hs.le (st.le (by simp))) hn hn2) ?_;rintro _ _ q1 ⟨A1,c1,rfl,rfl⟩ _;simp only[List.cons_append,List.nil_append];refine aB ?_;refine dG [] [] [0] (by simp) rfl (by decide) (by decide) fun q _ _ hfr=>?_;refine fQ rfl rfl rfl fun w1 st=>⟨⟨_,_,⟨w1,q.Z⟩,rfl,rfl,⟨_,_,rfl,rfl⟩,st.newR (by simp) (by simp) (hfr (by simp) (by simp))⟩,st.below (by simp)⟩
end
section
theorem aEZ(x:dR)(k id:Int):(oZ x k id).d.length=x.d.length∧(oZ x k id).c.length=x.c.length∧(oZ x k id).l.length=x.l.length:=by
 unfold oZ;split
 ·exact⟨Od _ _ _,rfl,rfl⟩
 ·split
  ·exact⟨rfl,Od _ _ _,rfl⟩
  ·split
   ·exact⟨rfl,rfl,Od _ _ _⟩
   ·exact⟨rfl,rfl,rfl⟩
theorem aEX{x:dR}(h:x.sm)(k id:Int):(oZ x k id).sm:=by
 obtain⟨h1,h2,h3⟩:=aEZ x k id;exact⟨by rw[h1];exact h.d,by rw[h2];exact h.c,by rw[h3];exact h.l⟩
theorem aPu{x:dR}(h:x.sm)(ag:Nat)(k id:Int):(lG x ag k id).sm:=by
 unfold lG;split
 ·exact aEX h k id
 ·exact h
theorem aPt{x:dR}(h:x.sm)(ag:Nat)(k id:Int):(lF x ag k id).sm:=by
 unfold lF;split
 ·exact h
 ·exact aEX h k id
end
section
section
variable{s:aC}
end
structure dR.cl(x:dR)(s:aC):Prop where
 of:x.of s
 up:∀(i:Nat) d,hasB x.d i=true→s.domains[i]? =some d→0≤d.above→hasB x.d d.above.toNat=true
 ch:∀i j:Nat,hasB x.c i=true→j∈lQ s i→uX s j=true→hasB x.c j=true
 sw:∀i:Nat,hasB x.c i=true→uX s i=true
section
variable{s:aC}{x:dR}{k i:Nat}
end
section
variable{s:aC}{x y:dR}
end
section
variable{w0:World}{R:List Piece}{H:List HP}
end
end
section
section
variable{s:aC}{x:aR}{z:cI}{b:Nat}{m:List Int}{k id:Int}
theorem aFz(hu:nK m)(h:(fF s m).1=0):tE m:=by
 cases m with
 | nil=>exact absurd h (by show ¬((-10:Int)=0);decide)
 | cons w r =>
  unfold fF at h;dsimp only at h;split at h
  ·exact absurd h (by decide)
  ·rename_i h1
   split at h
   ·exact absurd h (by decide)
   ·split at h
    ·exact absurd h (by decide)
    ·rename_i h3
     have hz:cK w 28 4=0:=by
      refine Classical.byContradiction fun hc=>h1 (.inl ?_);unfold Cq;rw[if_pos hc];decide
     refine⟨⟨w,r,rfl,hz,fun hh=>?_⟩⟩
     have hp:dV w=cK w 10 8:=by rw[dV,if_neg (by simp[hz])]
     have hmm:eH w=cK w 0 8:=by rw[eH,if_neg (by simp[hz])]
     have hn:(eF (dV w) (eH w)).n=1:=by
      rw[hp,hmm];rcases hh with⟨a,b⟩ | ⟨a,b⟩<;>rw[a,b]<;>rfl
     rw[hn] at h3
     have h4:r.length=1:=by omega
     obtain⟨i,rfl⟩:=List.length_eq_one_iff.1 h4;exact⟨i,rfl,hu i (by simp)⟩
end
end
end Go.Proofs.YtkgekojkboingaaGreatDoor
